/- LawLitEscapes, part 4: whatever the input, the law comes out true: our texts, joined by a tool, without what the claim does not name. -/
import Derived.Test.YtabhkocokojddaaPkLitEscapes3
import Derived.SizedLaws
import Derived.ChangeSlices
import Derived.Below
import Derived.Test.YtabhkocokojddaaRows
import Derived.WalkKit
import Derived.ProofKit
import Derived.OpenShut
import Derived.ShutString
import Derived.ChangeOld
set_option maxRecDepth 100000
set_option linter.unusedVariables false
namespace Go.Proofs.Ytabhkocokojddaa.Am
noncomputable section
open Go
theorem g12_l12_ok (k : Nat)  (a0 : (List Int)) (a1 : (List Int))  : ∀ (n : Nat) (y12_0 : (List Nat)) (y12_1 : Int) (y12_2 : (List Int)), Ok X12 g12p8 [(0, .vec (a0).length 1 ((a0).flatMap e3)), (1, .vec (a1).length 1 ((a1).flatMap e3)), (5, .str y12_0), (6, .own 0 (y12_2).length 1), (7, .int .i64 y12_1)] (mkH [⟨(y12_2).flatMap e3, 0, false⟩]) (g12_l12 k a0 a1 n y12_0 y12_1 y12_2)
 | 0, _, _, _ => ok_none
 | n + 1, y12_0, y12_1, y12_2 => by
  have ih := g12_l12_ok k a0 a1 n
  rw [g12_l12_s]
  refine ok_ent (p' := nav [0] g12p8) (by kernel_rfl) ?_
  let E4 : Env := [(27, .bool (decide (y12_1 < (a0.length : Int)))), (26, .int .i64 (a0.length : Int)), (25, .vec (a0).length 1 ((a0).flatMap e3)), (24, .int .i64 y12_1), (0, .vec (a0).length 1 ((a0).flatMap e3)), (1, .vec (a1).length 1 ((a1).flatMap e3)), (5, .str y12_0), (6, .own 0 (y12_2).length 1), (7, .int .i64 y12_1)]
  refine oR 8 (p' := g12p10) (eE := E4) (H' := (mkH [⟨(y12_2).flatMap e3, 0, false⟩])) (by kernel_rfl) ?_
  refine oS 27 (b := decide (y12_1 < (a0.length : Int))) (by kernel_rfl) (fun hb => ?_) (fun hb => ?_)
  ·refine oR 8 (p' := (atN 2 (ctl1 g12p11))) (eE := ((31, .int .i64 y12_1) :: (30, .vec (a0).length 1 ((a0).flatMap e3)) :: (27, .bool true) :: E4)) (H' := (mkH [⟨(y12_2).flatMap e3, 0, false⟩])) (by kernel_rfl) ?_
   refine oH (fun (x1_2 : Int) => (.vptr [.int .i64 x1_2], (mkH [⟨(y12_2).flatMap e3, 0, false⟩]))) (atN 3 (ctl1 g12p11)) (fun x1_2 => ((32, .vptr [.int .i64 x1_2]) :: (31, .int .i64 y12_1) :: (30, .vec (a0).length 1 ((a0).flatMap e3)) :: (27, .bool true) :: E4)) (vidxH (sz := 1) e3_len (by kernel_rfl)) (fun _ => by kernel_rfl) (fun x1_2 hx1_2 => ?_)
   let E5 : Env := ((8, .int .i64 (fW .i64 ((fW .u64 x1_2).tmod 1114112))) :: (36, .int .i64 (fW .i64 ((fW .u64 x1_2).tmod 1114112))) :: (35, .int .u64 ((fW .u64 x1_2).tmod 1114112)) :: (34, .int .u64 (fW .u64 x1_2)) :: (33, .int .i64 x1_2) :: (32, .vptr [.int .i64 x1_2]) :: (31, .int .i64 y12_1) :: (30, .vec (a0).length 1 ((a0).flatMap e3)) :: (27, .bool true) :: E4)
   refine oR 8 (p' := g12p13) (eE := E5) (H' := (mkH [⟨(y12_2).flatMap e3, 0, false⟩])) (by kernel_rfl) ?_
   refine oK [0, 1, 5, 6, 7, 8] (eE := [(0, .vec (a0).length 1 ((a0).flatMap e3)), (1, .vec (a1).length 1 ((a1).flatMap e3)), (5, .str y12_0), (6, .own 0 (y12_2).length 1), (7, .int .i64 y12_1), (8, .int .i64 (fW .i64 ((fW .u64 x1_2).tmod 1114112)))]) (by kernel_rfl) ?_
   let E6 : Env := [(39, .bool (decide (55296 ≤ fW .i64 ((fW .u64 x1_2).tmod 1114112)))), (38, .bool (decide (55296 ≤ fW .i64 ((fW .u64 x1_2).tmod 1114112)))), (37, .int .i64 (fW .i64 ((fW .u64 x1_2).tmod 1114112))), (0, .vec (a0).length 1 ((a0).flatMap e3)), (1, .vec (a1).length 1 ((a1).flatMap e3)), (5, .str y12_0), (6, .own 0 (y12_2).length 1), (7, .int .i64 y12_1), (8, .int .i64 (fW .i64 ((fW .u64 x1_2).tmod 1114112)))]
   refine oR 4 (p' := (atN 3 (ctl1 g12p13))) (eE := E6) (H' := (mkH [⟨(y12_2).flatMap e3, 0, false⟩])) (by kernel_rfl) ?_
   refine oJ (f := fun (z13 : Bool × (List Nat) × Int × (List Int)) => jn (fun (z15 : (List Nat) × (List Int) × Int) => (g12_l12 k a0 a1 n) z15.1 (fW .i64 (z15.2.2 + 1)) z15.2.1) (fun j15 => if z13.1 then (j15 (z13.2.1, z13.2.2.2, z13.2.2.1)) else ((appS 8 z13.2.2.2 ([fW .i64 ((fW .u64 x1_2).tmod 1114112)] : List Int)).bind fun x3_3 => (nthL a1 z13.2.2.1).bind fun x4_2 => jn (fun (z16 : Bool × Int × (List Nat)) => if z16.1 then ((catS z16.2.2 (utf (fW .i32 (fW .i64 ((fW .u64 x1_2).tmod 1114112))))).bind fun x5_4 => j15 (x5_4, x3_3, z16.2.1)) else (jn (fun (z17 : Bool × (List Nat) × Int) => if z17.1 then ((catS z17.2.1 ([92, 120] : List Nat)).bind fun x6_1 => (g48 k (fW .i64 ((fW .u64 x1_2).tmod 1114112)) (2 : Int)).bind fun x6_3 => (catS x6_1 x6_3).bind fun x6_4 => j15 (x6_4, x3_3, z17.2.2)) else (jn (fun (z18 : Bool × (List Nat) × Int) => if z18.1 then ((catS z18.2.1 ([92] : List Nat)).bind fun x7_1 => (g49 k (fW .i64 ((fW .u64 x1_2).tmod 1114112))).bind fun x7_3 => (catS x7_1 x7_3).bind fun x7_4 => j15 (x7_4, x3_3, z18.2.2)) else ((catS z18.2.1 ([92, 120, 123] : List Nat)).bind fun x8_1 => (g48 k (fW .i64 ((fW .u64 x1_2).tmod 1114112)) (6 : Int)).bind fun x8_3 => (catS x8_1 x8_3).bind fun x8_4 => (catS x8_4 ([125] : List Nat)).bind fun x8_5 => j15 (x8_5, x3_3, z18.2.2))) (fun j18 => if (decide (fW .i64 ((fW .u64 x4_2).tmod 4) = 2)) then (j18 (decide (fW .i64 ((fW .u64 x1_2).tmod 1114112) < 512), z17.2.1, z17.2.2)) else (j18 (false, z17.2.1, z17.2.2))))) (fun j17 => if (decide (fW .i64 ((fW .u64 x4_2).tmod 4) = 1)) then (j17 (decide (fW .i64 ((fW .u64 x1_2).tmod 1114112) < 256), z16.2.2, z16.2.1)) else (j17 (false, z16.2.2, z16.2.1))))) (fun j16 => if (decide (fW .i64 ((fW .u64 x4_2).tmod 4) = 0)) then (if (decide (32 ≤ fW .i64 ((fW .u64 x1_2).tmod 1114112))) then (if (!decide (fW .i64 ((fW .u64 x1_2).tmod 1114112) = 34)) then (j16 (!decide (fW .i64 ((fW .u64 x1_2).tmod 1114112) = 92), z13.2.2.1, z13.2.1)) else (j16 (false, z13.2.2.1, z13.2.1))) else (j16 (false, z13.2.2.1, z13.2.1))) else (j16 (false, z13.2.2.1, z13.2.1)))))) g12p15 (fun (z13 : Bool × (List Nat) × Int × (List Int)) => [(0, .vec (a0).length 1 ((a0).flatMap e3)), (1, .vec (a1).length 1 ((a1).flatMap e3)), (5, .str z13.2.1), (6, .own 0 (z13.2.2.2).length 1), (7, .int .i64 z13.2.2.1), (8, .int .i64 (fW .i64 ((fW .u64 x1_2).tmod 1114112))), (42, .bool z13.1)]) (fun (z13 : Bool × (List Nat) × Int × (List Int)) => (mkH [⟨(z13.2.2.2).flatMap e3, 0, false⟩])) (fun z13 => ?_) (fun j13 hj13 => ?_)
   ·refine oJ (f := fun (z15 : (List Nat) × (List Int) × Int) => (g12_l12 k a0 a1 n) z15.1 (fW .i64 (z15.2.2 + 1)) z15.2.1) g12p17 (fun (z15 : (List Nat) × (List Int) × Int) => [(0, .vec (a0).length 1 ((a0).flatMap e3)), (1, .vec (a1).length 1 ((a1).flatMap e3)), (5, .str z15.1), (6, .own 0 (z15.2.1).length 1), (7, .int .i64 z15.2.2)]) (fun (z15 : (List Nat) × (List Int) × Int) => (mkH [⟨(z15.2.1).flatMap e3, 0, false⟩])) (fun z15 => ?_) (fun j15 hj15 => ?_)
    ·let E7 : Env := [(7, .int .i64 (fW .i64 (z15.2.2 + 1))), (29, .int .i64 (fW .i64 (z15.2.2 + 1))), (28, .int .i64 z15.2.2), (0, .vec (a0).length 1 ((a0).flatMap e3)), (1, .vec (a1).length 1 ((a1).flatMap e3)), (5, .str z15.1), (6, .own 0 (z15.2.1).length 1), (7, .int .i64 z15.2.2)]
     refine oR 5 (p' := g12p8) (eE := E7) (H' := (mkH [⟨(z15.2.1).flatMap e3, 0, false⟩])) (by kernel_rfl) ?_
     refine oK [0, 1, 5, 6, 7] (eE := [(0, .vec (a0).length 1 ((a0).flatMap e3)), (1, .vec (a1).length 1 ((a1).flatMap e3)), (5, .str z15.1), (6, .own 0 (z15.2.1).length 1), (7, .int .i64 (fW .i64 (z15.2.2 + 1)))]) (by kernel_rfl) ?_
     exact ih z15.1 (fW .i64 (z15.2.2 + 1)) z15.2.1
    ·refine oS 42 (b := z13.1) (by kernel_rfl) (fun hb => ?_) (fun hb => ?_)
     ·let E8 : Env := [(42, .bool true), (0, .vec (a0).length 1 ((a0).flatMap e3)), (1, .vec (a1).length 1 ((a1).flatMap e3)), (5, .str z13.2.1), (6, .own 0 (z13.2.2.2).length 1), (7, .int .i64 z13.2.2.1), (8, .int .i64 (fW .i64 ((fW .u64 x1_2).tmod 1114112))), (42, .bool z13.1)]
      refine oR 2 (p' := g12p17) (eE := E8) (H' := (mkH [⟨(z13.2.2.2).flatMap e3, 0, false⟩])) (by kernel_rfl) ?_
      refine oK [0, 1, 5, 6, 7] (eE := [(0, .vec (a0).length 1 ((a0).flatMap e3)), (1, .vec (a1).length 1 ((a1).flatMap e3)), (5, .str z13.2.1), (6, .own 0 (z13.2.2.2).length 1), (7, .int .i64 z13.2.2.1)]) (by kernel_rfl) ?_
      exact hj15 (z13.2.1, z13.2.2.2, z13.2.2.1)
     ·let E9 : Env := [(45, .slice 1 1 0 1 1), (44, .int .i64 (fW .i64 ((fW .u64 x1_2).tmod 1114112))), (43, .own 0 (z13.2.2.2).length 1), (42, .bool false), (0, .vec (a0).length 1 ((a0).flatMap e3)), (1, .vec (a1).length 1 ((a1).flatMap e3)), (5, .str z13.2.1), (6, .own 0 (z13.2.2.2).length 1), (7, .int .i64 z13.2.2.1), (8, .int .i64 (fW .i64 ((fW .u64 x1_2).tmod 1114112))), (42, .bool z13.1)]
      refine oR 7 (p' := (atN 3 (ctl1 g12p18))) (eE := E9) (H' := (mkH [⟨(z13.2.2.2).flatMap e3, 0, false⟩, ⟨[.int .i64 (fW .i64 ((fW .u64 x1_2).tmod 1114112))], 0, false⟩])) (by kernel_rfl) ?_
      refine oH (fun (x3_3 : (List Int)) => (.own 0 (x3_3).length 1, (mkH [⟨(x3_3).flatMap e3, 0, false⟩, ⟨[.int .i64 (fW .i64 ((fW .u64 x1_2).tmod 1114112))], 0, false⟩]))) (atN 4 (ctl1 g12p18)) (fun x3_3 => ((46, .own 0 (x3_3).length 1) :: E9)) (appH (sz := 1) e3_len rfl e3_one [⟨(z13.2.2.2).flatMap e3, 0, false⟩, ⟨[.int .i64 (fW .i64 ((fW .u64 x1_2).tmod 1114112))], 0, false⟩] 0 8 z13.2.2.2 ([fW .i64 ((fW .u64 x1_2).tmod 1114112)] : List Int) rfl rfl (by kernel_rfl)) (fun _ => by kernel_rfl) (fun x3_3 hx3_3 => ?_)
      refine oR 3 (p' := g12p21) (eE := ((6, .own 0 (x3_3).length 1) :: (46, .own 0 (x3_3).length 1) :: E9)) (H' := (mkH [⟨(x3_3).flatMap e3, 0, false⟩, ⟨[.int .i64 (fW .i64 ((fW .u64 x1_2).tmod 1114112))], 0, false⟩])) (by kernel_rfl) ?_
      refine oK [0, 1, 5, 6, 7, 8] (eE := [(0, .vec (a0).length 1 ((a0).flatMap e3)), (1, .vec (a1).length 1 ((a1).flatMap e3)), (5, .str z13.2.1), (6, .own 0 (x3_3).length 1), (7, .int .i64 z13.2.2.1), (8, .int .i64 (fW .i64 ((fW .u64 x1_2).tmod 1114112)))]) (by kernel_rfl) ?_
      let E10 : Env := [(48, .int .i64 z13.2.2.1), (47, .vec (a1).length 1 ((a1).flatMap e3)), (0, .vec (a0).length 1 ((a0).flatMap e3)), (1, .vec (a1).length 1 ((a1).flatMap e3)), (5, .str z13.2.1), (6, .own 0 (x3_3).length 1), (7, .int .i64 z13.2.2.1), (8, .int .i64 (fW .i64 ((fW .u64 x1_2).tmod 1114112)))]
      refine oR 3 (p' := (atN 2 (ctl1 g12p21))) (eE := E10) (H' := (mkH [⟨(x3_3).flatMap e3, 0, false⟩, ⟨[.int .i64 (fW .i64 ((fW .u64 x1_2).tmod 1114112))], 0, false⟩])) (by kernel_rfl) ?_
      refine oH (fun (x4_2 : Int) => (.vptr [.int .i64 x4_2], (mkH [⟨(x3_3).flatMap e3, 0, false⟩, ⟨[.int .i64 (fW .i64 ((fW .u64 x1_2).tmod 1114112))], 0, false⟩]))) (atN 3 (ctl1 g12p21)) (fun x4_2 => ((49, .vptr [.int .i64 x4_2]) :: E10)) (vidxH (sz := 1) e3_len (by kernel_rfl)) (fun _ => by kernel_rfl) (fun x4_2 hx4_2 => ?_)
      let E11 : Env := ((9, .int .i64 (fW .i64 ((fW .u64 x4_2).tmod 4))) :: (53, .int .i64 (fW .i64 ((fW .u64 x4_2).tmod 4))) :: (52, .int .u64 ((fW .u64 x4_2).tmod 4)) :: (51, .int .u64 (fW .u64 x4_2)) :: (50, .int .i64 x4_2) :: (49, .vptr [.int .i64 x4_2]) :: E10)
      refine oR 8 (p' := g12p23) (eE := E11) (H' := (mkH [⟨(x3_3).flatMap e3, 0, false⟩, ⟨[.int .i64 (fW .i64 ((fW .u64 x1_2).tmod 1114112))], 0, false⟩])) (by kernel_rfl) ?_
      refine oK [0, 1, 5, 6, 7, 8, 9] (eE := [(0, .vec (a0).length 1 ((a0).flatMap e3)), (1, .vec (a1).length 1 ((a1).flatMap e3)), (5, .str z13.2.1), (6, .own 0 (x3_3).length 1), (7, .int .i64 z13.2.2.1), (8, .int .i64 (fW .i64 ((fW .u64 x1_2).tmod 1114112))), (9, .int .i64 (fW .i64 ((fW .u64 x4_2).tmod 4)))]) (by kernel_rfl) ?_
      let E12 : Env := [(63, .bool (decide (fW .i64 ((fW .u64 x4_2).tmod 4) = 0))), (62, .bool (decide (fW .i64 ((fW .u64 x4_2).tmod 4) = 0))), (61, .int .i64 (fW .i64 ((fW .u64 x4_2).tmod 4))), (0, .vec (a0).length 1 ((a0).flatMap e3)), (1, .vec (a1).length 1 ((a1).flatMap e3)), (5, .str z13.2.1), (6, .own 0 (x3_3).length 1), (7, .int .i64 z13.2.2.1), (8, .int .i64 (fW .i64 ((fW .u64 x1_2).tmod 1114112))), (9, .int .i64 (fW .i64 ((fW .u64 x4_2).tmod 4)))]
      refine oR 4 (p' := (atN 3 (ctl1 g12p23))) (eE := E12) (H' := (mkH [⟨(x3_3).flatMap e3, 0, false⟩, ⟨[.int .i64 (fW .i64 ((fW .u64 x1_2).tmod 1114112))], 0, false⟩])) (by kernel_rfl) ?_
      refine oJ (f := fun (z16 : Bool × Int × (List Nat)) => if z16.1 then ((catS z16.2.2 (utf (fW .i32 (fW .i64 ((fW .u64 x1_2).tmod 1114112))))).bind fun x5_4 => j15 (x5_4, x3_3, z16.2.1)) else (jn (fun (z17 : Bool × (List Nat) × Int) => if z17.1 then ((catS z17.2.1 ([92, 120] : List Nat)).bind fun x6_1 => (g48 k (fW .i64 ((fW .u64 x1_2).tmod 1114112)) (2 : Int)).bind fun x6_3 => (catS x6_1 x6_3).bind fun x6_4 => j15 (x6_4, x3_3, z17.2.2)) else (jn (fun (z18 : Bool × (List Nat) × Int) => if z18.1 then ((catS z18.2.1 ([92] : List Nat)).bind fun x7_1 => (g49 k (fW .i64 ((fW .u64 x1_2).tmod 1114112))).bind fun x7_3 => (catS x7_1 x7_3).bind fun x7_4 => j15 (x7_4, x3_3, z18.2.2)) else ((catS z18.2.1 ([92, 120, 123] : List Nat)).bind fun x8_1 => (g48 k (fW .i64 ((fW .u64 x1_2).tmod 1114112)) (6 : Int)).bind fun x8_3 => (catS x8_1 x8_3).bind fun x8_4 => (catS x8_4 ([125] : List Nat)).bind fun x8_5 => j15 (x8_5, x3_3, z18.2.2))) (fun j18 => if (decide (fW .i64 ((fW .u64 x4_2).tmod 4) = 2)) then (j18 (decide (fW .i64 ((fW .u64 x1_2).tmod 1114112) < 512), z17.2.1, z17.2.2)) else (j18 (false, z17.2.1, z17.2.2))))) (fun j17 => if (decide (fW .i64 ((fW .u64 x4_2).tmod 4) = 1)) then (j17 (decide (fW .i64 ((fW .u64 x1_2).tmod 1114112) < 256), z16.2.2, z16.2.1)) else (j17 (false, z16.2.2, z16.2.1))))) g12p25 (fun (z16 : Bool × Int × (List Nat)) => [(0, .vec (a0).length 1 ((a0).flatMap e3)), (1, .vec (a1).length 1 ((a1).flatMap e3)), (5, .str z16.2.2), (6, .own 0 (x3_3).length 1), (7, .int .i64 z16.2.1), (8, .int .i64 (fW .i64 ((fW .u64 x1_2).tmod 1114112))), (9, .int .i64 (fW .i64 ((fW .u64 x4_2).tmod 4))), (60, .bool z16.1)]) (fun (z16 : Bool × Int × (List Nat)) => (mkH [⟨(x3_3).flatMap e3, 0, false⟩])) (fun z16 => ?_) (fun j16 hj16 => ?_)
      ·refine oS 60 (b := z16.1) (by kernel_rfl) (fun hb => ?_) (fun hb => ?_)
       ·let E13 : Env := [(78, .str (utf (fW .i32 (fW .i64 ((fW .u64 x1_2).tmod 1114112))))), (77, .int .i32 (fW .i32 (fW .i64 ((fW .u64 x1_2).tmod 1114112)))), (76, .int .i64 (fW .i64 ((fW .u64 x1_2).tmod 1114112))), (75, .str z16.2.2), (60, .bool true), (0, .vec (a0).length 1 ((a0).flatMap e3)), (1, .vec (a1).length 1 ((a1).flatMap e3)), (5, .str z16.2.2), (6, .own 0 (x3_3).length 1), (7, .int .i64 z16.2.1), (8, .int .i64 (fW .i64 ((fW .u64 x1_2).tmod 1114112))), (9, .int .i64 (fW .i64 ((fW .u64 x4_2).tmod 4))), (60, .bool z16.1)]
        refine oR 6 (p' := (atN 4 (ctl1 g12p27))) (eE := E13) (H' := (mkH [⟨(x3_3).flatMap e3, 0, false⟩])) (by kernel_rfl) ?_
        refine oH (fun (x5_4 : (List Nat)) => (.str x5_4, (mkH [⟨(x3_3).flatMap e3, 0, false⟩]))) (atN 5 (ctl1 g12p27)) (fun x5_4 => ((79, .str x5_4) :: E13)) (catH (by kernel_rfl)) (fun _ => by kernel_rfl) (fun x5_4 hx5_4 => ?_)
        refine oR 2 (p' := g12p17) (eE := ((5, .str x5_4) :: (79, .str x5_4) :: E13)) (H' := (mkH [⟨(x3_3).flatMap e3, 0, false⟩])) (by kernel_rfl) ?_
        refine oK [0, 1, 5, 6, 7] (eE := [(0, .vec (a0).length 1 ((a0).flatMap e3)), (1, .vec (a1).length 1 ((a1).flatMap e3)), (5, .str x5_4), (6, .own 0 (x3_3).length 1), (7, .int .i64 z16.2.1)]) (by kernel_rfl) ?_
        exact hj15 (x5_4, x3_3, z16.2.1)
       ·let E14 : Env := [(83, .bool (decide (fW .i64 ((fW .u64 x4_2).tmod 4) = 1))), (82, .bool (decide (fW .i64 ((fW .u64 x4_2).tmod 4) = 1))), (81, .int .i64 (fW .i64 ((fW .u64 x4_2).tmod 4))), (60, .bool false), (0, .vec (a0).length 1 ((a0).flatMap e3)), (1, .vec (a1).length 1 ((a1).flatMap e3)), (5, .str z16.2.2), (6, .own 0 (x3_3).length 1), (7, .int .i64 z16.2.1), (8, .int .i64 (fW .i64 ((fW .u64 x1_2).tmod 1114112))), (9, .int .i64 (fW .i64 ((fW .u64 x4_2).tmod 4))), (60, .bool z16.1)]
        refine oR 6 (p' := (atN 3 (ctl1 g12p28))) (eE := E14) (H' := (mkH [⟨(x3_3).flatMap e3, 0, false⟩])) (by kernel_rfl) ?_
        refine oJ (f := fun (z17 : Bool × (List Nat) × Int) => if z17.1 then ((catS z17.2.1 ([92, 120] : List Nat)).bind fun x6_1 => (g48 k (fW .i64 ((fW .u64 x1_2).tmod 1114112)) (2 : Int)).bind fun x6_3 => (catS x6_1 x6_3).bind fun x6_4 => j15 (x6_4, x3_3, z17.2.2)) else (jn (fun (z18 : Bool × (List Nat) × Int) => if z18.1 then ((catS z18.2.1 ([92] : List Nat)).bind fun x7_1 => (g49 k (fW .i64 ((fW .u64 x1_2).tmod 1114112))).bind fun x7_3 => (catS x7_1 x7_3).bind fun x7_4 => j15 (x7_4, x3_3, z18.2.2)) else ((catS z18.2.1 ([92, 120, 123] : List Nat)).bind fun x8_1 => (g48 k (fW .i64 ((fW .u64 x1_2).tmod 1114112)) (6 : Int)).bind fun x8_3 => (catS x8_1 x8_3).bind fun x8_4 => (catS x8_4 ([125] : List Nat)).bind fun x8_5 => j15 (x8_5, x3_3, z18.2.2))) (fun j18 => if (decide (fW .i64 ((fW .u64 x4_2).tmod 4) = 2)) then (j18 (decide (fW .i64 ((fW .u64 x1_2).tmod 1114112) < 512), z17.2.1, z17.2.2)) else (j18 (false, z17.2.1, z17.2.2))))) g12p31 (fun (z17 : Bool × (List Nat) × Int) => [(0, .vec (a0).length 1 ((a0).flatMap e3)), (1, .vec (a1).length 1 ((a1).flatMap e3)), (5, .str z17.2.1), (6, .own 0 (x3_3).length 1), (7, .int .i64 z17.2.2), (8, .int .i64 (fW .i64 ((fW .u64 x1_2).tmod 1114112))), (9, .int .i64 (fW .i64 ((fW .u64 x4_2).tmod 4))), (80, .bool z17.1)]) (fun (z17 : Bool × (List Nat) × Int) => (mkH [⟨(x3_3).flatMap e3, 0, false⟩])) (fun z17 => ?_) (fun j17 hj17 => ?_)
        ·refine oS 80 (b := z17.1) (by kernel_rfl) (fun hb => ?_) (fun hb => ?_)
         ·let E15 : Env := [(87, .str z17.2.1), (80, .bool true), (0, .vec (a0).length 1 ((a0).flatMap e3)), (1, .vec (a1).length 1 ((a1).flatMap e3)), (5, .str z17.2.1), (6, .own 0 (x3_3).length 1), (7, .int .i64 z17.2.2), (8, .int .i64 (fW .i64 ((fW .u64 x1_2).tmod 1114112))), (9, .int .i64 (fW .i64 ((fW .u64 x4_2).tmod 4))), (80, .bool z17.1)]
          refine oR 3 (p' := (atN 1 (ctl1 g12p33))) (eE := E15) (H' := (mkH [⟨(x3_3).flatMap e3, 0, false⟩])) (by kernel_rfl) ?_
          refine oH (fun (x6_1 : (List Nat)) => (.str x6_1, (mkH [⟨(x3_3).flatMap e3, 0, false⟩]))) (atN 2 (ctl1 g12p33)) (fun x6_1 => ((88, .str x6_1) :: E15)) (catH (by kernel_rfl)) (fun _ => by kernel_rfl) (fun x6_1 hx6_1 => ?_)
          refine oR 1 (p' := (atN 3 (ctl1 g12p33))) (eE := ((89, .int .i64 (fW .i64 ((fW .u64 x1_2).tmod 1114112))) :: (88, .str x6_1) :: E15)) (H' := (mkH [⟨(x3_3).flatMap e3, 0, false⟩])) (by kernel_rfl) ?_
          refine oC (fun (x6_3 : (List Nat)) => .str x6_3) (atN 4 (ctl1 g12p33)) (fun x6_3 => ((90, .str x6_3) :: (89, .int .i64 (fW .i64 ((fW .u64 x1_2).tmod 1114112))) :: (88, .str x6_1) :: E15)) (fi := 48) (args := [.int .i64 (fW .i64 ((fW .u64 x1_2).tmod 1114112)), .int .i64 2]) (by kernel_rfl) (by kernel_rfl) (fun _ => by kernel_rfl) (fun r h => g48_ok k (fW .i64 ((fW .u64 x1_2).tmod 1114112)) (2 : Int) r h) (fun _ => by kernel_rfl) (fun x6_3 hx6_3 => ?_)
          refine oH (fun (x6_4 : (List Nat)) => (.str x6_4, (mkH [⟨(x3_3).flatMap e3, 0, false⟩]))) (atN 5 (ctl1 g12p33)) (fun x6_4 => ((91, .str x6_4) :: (90, .str x6_3) :: (89, .int .i64 (fW .i64 ((fW .u64 x1_2).tmod 1114112))) :: (88, .str x6_1) :: E15)) (catH (by kernel_rfl)) (fun _ => by kernel_rfl) (fun x6_4 hx6_4 => ?_)
          let E16 : Env := ((5, .str x6_4) :: (91, .str x6_4) :: (90, .str x6_3) :: (89, .int .i64 (fW .i64 ((fW .u64 x1_2).tmod 1114112))) :: (88, .str x6_1) :: E15)
          refine oR 2 (p' := g12p17) (eE := E16) (H' := (mkH [⟨(x3_3).flatMap e3, 0, false⟩])) (by kernel_rfl) ?_
          refine oK [0, 1, 5, 6, 7] (eE := [(0, .vec (a0).length 1 ((a0).flatMap e3)), (1, .vec (a1).length 1 ((a1).flatMap e3)), (5, .str x6_4), (6, .own 0 (x3_3).length 1), (7, .int .i64 z17.2.2)]) (by kernel_rfl) ?_
          exact hj15 (x6_4, x3_3, z17.2.2)
         ·let E17 : Env := [(95, .bool (decide (fW .i64 ((fW .u64 x4_2).tmod 4) = 2))), (94, .bool (decide (fW .i64 ((fW .u64 x4_2).tmod 4) = 2))), (93, .int .i64 (fW .i64 ((fW .u64 x4_2).tmod 4))), (80, .bool false), (0, .vec (a0).length 1 ((a0).flatMap e3)), (1, .vec (a1).length 1 ((a1).flatMap e3)), (5, .str z17.2.1), (6, .own 0 (x3_3).length 1), (7, .int .i64 z17.2.2), (8, .int .i64 (fW .i64 ((fW .u64 x1_2).tmod 1114112))), (9, .int .i64 (fW .i64 ((fW .u64 x4_2).tmod 4))), (80, .bool z17.1)]
          refine oR 6 (p' := (atN 3 (ctl1 g12p34))) (eE := E17) (H' := (mkH [⟨(x3_3).flatMap e3, 0, false⟩])) (by kernel_rfl) ?_
          refine oJ (f := fun (z18 : Bool × (List Nat) × Int) => if z18.1 then ((catS z18.2.1 ([92] : List Nat)).bind fun x7_1 => (g49 k (fW .i64 ((fW .u64 x1_2).tmod 1114112))).bind fun x7_3 => (catS x7_1 x7_3).bind fun x7_4 => j15 (x7_4, x3_3, z18.2.2)) else ((catS z18.2.1 ([92, 120, 123] : List Nat)).bind fun x8_1 => (g48 k (fW .i64 ((fW .u64 x1_2).tmod 1114112)) (6 : Int)).bind fun x8_3 => (catS x8_1 x8_3).bind fun x8_4 => (catS x8_4 ([125] : List Nat)).bind fun x8_5 => j15 (x8_5, x3_3, z18.2.2))) g12p37 (fun (z18 : Bool × (List Nat) × Int) => [(0, .vec (a0).length 1 ((a0).flatMap e3)), (1, .vec (a1).length 1 ((a1).flatMap e3)), (5, .str z18.2.1), (6, .own 0 (x3_3).length 1), (7, .int .i64 z18.2.2), (8, .int .i64 (fW .i64 ((fW .u64 x1_2).tmod 1114112))), (92, .bool z18.1)]) (fun (z18 : Bool × (List Nat) × Int) => (mkH [⟨(x3_3).flatMap e3, 0, false⟩])) (fun z18 => ?_) (fun j18 hj18 => ?_)
          ·refine oS 92 (b := z18.1) (by kernel_rfl) (fun hb => ?_) (fun hb => ?_)
           ·let E18 : Env := [(99, .str z18.2.1), (92, .bool true), (0, .vec (a0).length 1 ((a0).flatMap e3)), (1, .vec (a1).length 1 ((a1).flatMap e3)), (5, .str z18.2.1), (6, .own 0 (x3_3).length 1), (7, .int .i64 z18.2.2), (8, .int .i64 (fW .i64 ((fW .u64 x1_2).tmod 1114112))), (92, .bool z18.1)]
            refine oR 3 (p' := (atN 1 (ctl1 g12p38))) (eE := E18) (H' := (mkH [⟨(x3_3).flatMap e3, 0, false⟩])) (by kernel_rfl) ?_
            refine oH (fun (x7_1 : (List Nat)) => (.str x7_1, (mkH [⟨(x3_3).flatMap e3, 0, false⟩]))) (atN 2 (ctl1 g12p38)) (fun x7_1 => ((100, .str x7_1) :: E18)) (catH (by kernel_rfl)) (fun _ => by kernel_rfl) (fun x7_1 hx7_1 => ?_)
            refine oR 1 (p' := (atN 3 (ctl1 g12p38))) (eE := ((101, .int .i64 (fW .i64 ((fW .u64 x1_2).tmod 1114112))) :: (100, .str x7_1) :: E18)) (H' := (mkH [⟨(x3_3).flatMap e3, 0, false⟩])) (by kernel_rfl) ?_
            refine oC (fun (x7_3 : (List Nat)) => .str x7_3) (atN 4 (ctl1 g12p38)) (fun x7_3 => ((102, .str x7_3) :: (101, .int .i64 (fW .i64 ((fW .u64 x1_2).tmod 1114112))) :: (100, .str x7_1) :: E18)) (fi := 49) (args := [.int .i64 (fW .i64 ((fW .u64 x1_2).tmod 1114112))]) (by kernel_rfl) (by kernel_rfl) (fun _ => by kernel_rfl) (fun r h => g49_ok k (fW .i64 ((fW .u64 x1_2).tmod 1114112)) r h) (fun _ => by kernel_rfl) (fun x7_3 hx7_3 => ?_)
            refine oH (fun (x7_4 : (List Nat)) => (.str x7_4, (mkH [⟨(x3_3).flatMap e3, 0, false⟩]))) (atN 5 (ctl1 g12p38)) (fun x7_4 => ((103, .str x7_4) :: (102, .str x7_3) :: (101, .int .i64 (fW .i64 ((fW .u64 x1_2).tmod 1114112))) :: (100, .str x7_1) :: E18)) (catH (by kernel_rfl)) (fun _ => by kernel_rfl) (fun x7_4 hx7_4 => ?_)
            let E19 : Env := ((5, .str x7_4) :: (103, .str x7_4) :: (102, .str x7_3) :: (101, .int .i64 (fW .i64 ((fW .u64 x1_2).tmod 1114112))) :: (100, .str x7_1) :: E18)
            refine oR 2 (p' := g12p17) (eE := E19) (H' := (mkH [⟨(x3_3).flatMap e3, 0, false⟩])) (by kernel_rfl) ?_
            refine oK [0, 1, 5, 6, 7] (eE := [(0, .vec (a0).length 1 ((a0).flatMap e3)), (1, .vec (a1).length 1 ((a1).flatMap e3)), (5, .str x7_4), (6, .own 0 (x3_3).length 1), (7, .int .i64 z18.2.2)]) (by kernel_rfl) ?_
            exact hj15 (x7_4, x3_3, z18.2.2)
           ·let E20 : Env := [(54, .str z18.2.1), (92, .bool false), (0, .vec (a0).length 1 ((a0).flatMap e3)), (1, .vec (a1).length 1 ((a1).flatMap e3)), (5, .str z18.2.1), (6, .own 0 (x3_3).length 1), (7, .int .i64 z18.2.2), (8, .int .i64 (fW .i64 ((fW .u64 x1_2).tmod 1114112))), (92, .bool z18.1)]
            refine oR 3 (p' := (atN 1 (ctl1 g12p39))) (eE := E20) (H' := (mkH [⟨(x3_3).flatMap e3, 0, false⟩])) (by kernel_rfl) ?_
            refine oH (fun (x8_1 : (List Nat)) => (.str x8_1, (mkH [⟨(x3_3).flatMap e3, 0, false⟩]))) (atN 2 (ctl1 g12p39)) (fun x8_1 => ((55, .str x8_1) :: E20)) (catH (by kernel_rfl)) (fun _ => by kernel_rfl) (fun x8_1 hx8_1 => ?_)
            refine oR 1 (p' := (atN 3 (ctl1 g12p39))) (eE := ((56, .int .i64 (fW .i64 ((fW .u64 x1_2).tmod 1114112))) :: (55, .str x8_1) :: E20)) (H' := (mkH [⟨(x3_3).flatMap e3, 0, false⟩])) (by kernel_rfl) ?_
            refine oC (fun (x8_3 : (List Nat)) => .str x8_3) (atN 4 (ctl1 g12p39)) (fun x8_3 => ((57, .str x8_3) :: (56, .int .i64 (fW .i64 ((fW .u64 x1_2).tmod 1114112))) :: (55, .str x8_1) :: E20)) (fi := 48) (args := [.int .i64 (fW .i64 ((fW .u64 x1_2).tmod 1114112)), .int .i64 6]) (by kernel_rfl) (by kernel_rfl) (fun _ => by kernel_rfl) (fun r h => g48_ok k (fW .i64 ((fW .u64 x1_2).tmod 1114112)) (6 : Int) r h) (fun _ => by kernel_rfl) (fun x8_3 hx8_3 => ?_)
            refine oH (fun (x8_4 : (List Nat)) => (.str x8_4, (mkH [⟨(x3_3).flatMap e3, 0, false⟩]))) (atN 5 (ctl1 g12p39)) (fun x8_4 => ((58, .str x8_4) :: (57, .str x8_3) :: (56, .int .i64 (fW .i64 ((fW .u64 x1_2).tmod 1114112))) :: (55, .str x8_1) :: E20)) (catH (by kernel_rfl)) (fun _ => by kernel_rfl) (fun x8_4 hx8_4 => ?_)
            refine oH (fun (x8_5 : (List Nat)) => (.str x8_5, (mkH [⟨(x3_3).flatMap e3, 0, false⟩]))) (atN 6 (ctl1 g12p39)) (fun x8_5 => ((59, .str x8_5) :: (58, .str x8_4) :: (57, .str x8_3) :: (56, .int .i64 (fW .i64 ((fW .u64 x1_2).tmod 1114112))) :: (55, .str x8_1) :: E20)) (catH (by kernel_rfl)) (fun _ => by kernel_rfl) (fun x8_5 hx8_5 => ?_)
            let E21 : Env := ((5, .str x8_5) :: (59, .str x8_5) :: (58, .str x8_4) :: (57, .str x8_3) :: (56, .int .i64 (fW .i64 ((fW .u64 x1_2).tmod 1114112))) :: (55, .str x8_1) :: E20)
            refine oR 2 (p' := g12p17) (eE := E21) (H' := (mkH [⟨(x3_3).flatMap e3, 0, false⟩])) (by kernel_rfl) ?_
            refine oK [0, 1, 5, 6, 7] (eE := [(0, .vec (a0).length 1 ((a0).flatMap e3)), (1, .vec (a1).length 1 ((a1).flatMap e3)), (5, .str x8_5), (6, .own 0 (x3_3).length 1), (7, .int .i64 z18.2.2)]) (by kernel_rfl) ?_
            exact hj15 (x8_5, x3_3, z18.2.2)
          ·refine oS 95 (b := decide (fW .i64 ((fW .u64 x4_2).tmod 4) = 2)) (by kernel_rfl) (fun hb => ?_) (fun hb => ?_)
           ·let E22 : Env := ((92, .bool (decide (fW .i64 ((fW .u64 x1_2).tmod 1114112) < 512))) :: (98, .bool (decide (fW .i64 ((fW .u64 x1_2).tmod 1114112) < 512))) :: (97, .bool (decide (fW .i64 ((fW .u64 x1_2).tmod 1114112) < 512))) :: (96, .int .i64 (fW .i64 ((fW .u64 x1_2).tmod 1114112))) :: (95, .bool true) :: E17)
            refine oR 5 (p' := g12p37) (eE := E22) (H' := (mkH [⟨(x3_3).flatMap e3, 0, false⟩])) (by kernel_rfl) ?_
            refine oK [0, 1, 5, 6, 7, 8, 92] (eE := [(0, .vec (a0).length 1 ((a0).flatMap e3)), (1, .vec (a1).length 1 ((a1).flatMap e3)), (5, .str z17.2.1), (6, .own 0 (x3_3).length 1), (7, .int .i64 z17.2.2), (8, .int .i64 (fW .i64 ((fW .u64 x1_2).tmod 1114112))), (92, .bool (decide (fW .i64 ((fW .u64 x1_2).tmod 1114112) < 512)))]) (by kernel_rfl) ?_
            exact hj18 (decide (fW .i64 ((fW .u64 x1_2).tmod 1114112) < 512), z17.2.1, z17.2.2)
           ·let E23 : Env := ((92, .bool false) :: (98, .bool false) :: (97, .tuple []) :: (96, .tuple []) :: (95, .bool false) :: E17)
            refine oR 5 (p' := g12p37) (eE := E23) (H' := (mkH [⟨(x3_3).flatMap e3, 0, false⟩])) (by kernel_rfl) ?_
            refine oK [0, 1, 5, 6, 7, 8, 92] (eE := [(0, .vec (a0).length 1 ((a0).flatMap e3)), (1, .vec (a1).length 1 ((a1).flatMap e3)), (5, .str z17.2.1), (6, .own 0 (x3_3).length 1), (7, .int .i64 z17.2.2), (8, .int .i64 (fW .i64 ((fW .u64 x1_2).tmod 1114112))), (92, .bool false)]) (by kernel_rfl) ?_
            exact hj18 (false, z17.2.1, z17.2.2)
        ·refine oS 83 (b := decide (fW .i64 ((fW .u64 x4_2).tmod 4) = 1)) (by kernel_rfl) (fun hb => ?_) (fun hb => ?_)
         ·let E24 : Env := ((80, .bool (decide (fW .i64 ((fW .u64 x1_2).tmod 1114112) < 256))) :: (86, .bool (decide (fW .i64 ((fW .u64 x1_2).tmod 1114112) < 256))) :: (85, .bool (decide (fW .i64 ((fW .u64 x1_2).tmod 1114112) < 256))) :: (84, .int .i64 (fW .i64 ((fW .u64 x1_2).tmod 1114112))) :: (83, .bool true) :: E14)
          refine oR 5 (p' := g12p31) (eE := E24) (H' := (mkH [⟨(x3_3).flatMap e3, 0, false⟩])) (by kernel_rfl) ?_
          refine oK [0, 1, 5, 6, 7, 8, 9, 80] (eE := [(0, .vec (a0).length 1 ((a0).flatMap e3)), (1, .vec (a1).length 1 ((a1).flatMap e3)), (5, .str z16.2.2), (6, .own 0 (x3_3).length 1), (7, .int .i64 z16.2.1), (8, .int .i64 (fW .i64 ((fW .u64 x1_2).tmod 1114112))), (9, .int .i64 (fW .i64 ((fW .u64 x4_2).tmod 4))), (80, .bool (decide (fW .i64 ((fW .u64 x1_2).tmod 1114112) < 256)))]) (by kernel_rfl) ?_
          exact hj17 (decide (fW .i64 ((fW .u64 x1_2).tmod 1114112) < 256), z16.2.2, z16.2.1)
         ·let E25 : Env := ((80, .bool false) :: (86, .bool false) :: (85, .tuple []) :: (84, .tuple []) :: (83, .bool false) :: E14)
          refine oR 5 (p' := g12p31) (eE := E25) (H' := (mkH [⟨(x3_3).flatMap e3, 0, false⟩])) (by kernel_rfl) ?_
          refine oK [0, 1, 5, 6, 7, 8, 9, 80] (eE := [(0, .vec (a0).length 1 ((a0).flatMap e3)), (1, .vec (a1).length 1 ((a1).flatMap e3)), (5, .str z16.2.2), (6, .own 0 (x3_3).length 1), (7, .int .i64 z16.2.1), (8, .int .i64 (fW .i64 ((fW .u64 x1_2).tmod 1114112))), (9, .int .i64 (fW .i64 ((fW .u64 x4_2).tmod 4))), (80, .bool false)]) (by kernel_rfl) ?_
          exact hj17 (false, z16.2.2, z16.2.1)
      ·refine oS 63 (b := decide (fW .i64 ((fW .u64 x4_2).tmod 4) = 0)) (by kernel_rfl) (fun hb => ?_) (fun hb => ?_)
       ·let E26 : Env := ((67, .bool (decide (32 ≤ fW .i64 ((fW .u64 x1_2).tmod 1114112)))) :: (66, .bool (decide (32 ≤ fW .i64 ((fW .u64 x1_2).tmod 1114112)))) :: (65, .bool (decide (32 ≤ fW .i64 ((fW .u64 x1_2).tmod 1114112)))) :: (64, .int .i64 (fW .i64 ((fW .u64 x1_2).tmod 1114112))) :: (63, .bool true) :: E12)
        refine oR 4 (p' := (atN 7 (ctl1 g12p23))) (eE := E26) (H' := (mkH [⟨(x3_3).flatMap e3, 0, false⟩, ⟨[.int .i64 (fW .i64 ((fW .u64 x1_2).tmod 1114112))], 0, false⟩])) (by kernel_rfl) ?_
        refine oS 67 (b := decide (32 ≤ fW .i64 ((fW .u64 x1_2).tmod 1114112))) (by kernel_rfl) (fun hb => ?_) (fun hb => ?_)
        ·let E27 : Env := ((71, .bool (!decide (fW .i64 ((fW .u64 x1_2).tmod 1114112) = 34))) :: (70, .bool (!decide (fW .i64 ((fW .u64 x1_2).tmod 1114112) = 34))) :: (69, .bool (!decide (fW .i64 ((fW .u64 x1_2).tmod 1114112) = 34))) :: (68, .int .i64 (fW .i64 ((fW .u64 x1_2).tmod 1114112))) :: (67, .bool true) :: E26)
         refine oR 4 (p' := (atN 11 (ctl1 g12p23))) (eE := E27) (H' := (mkH [⟨(x3_3).flatMap e3, 0, false⟩, ⟨[.int .i64 (fW .i64 ((fW .u64 x1_2).tmod 1114112))], 0, false⟩])) (by kernel_rfl) ?_
         refine oS 71 (b := !decide (fW .i64 ((fW .u64 x1_2).tmod 1114112) = 34)) (by kernel_rfl) (fun hb => ?_) (fun hb => ?_)
         ·let E28 : Env := ((60, .bool (!decide (fW .i64 ((fW .u64 x1_2).tmod 1114112) = 92))) :: (74, .bool (!decide (fW .i64 ((fW .u64 x1_2).tmod 1114112) = 92))) :: (73, .bool (!decide (fW .i64 ((fW .u64 x1_2).tmod 1114112) = 92))) :: (72, .int .i64 (fW .i64 ((fW .u64 x1_2).tmod 1114112))) :: (71, .bool true) :: E27)
          refine oR 5 (p' := g12p25) (eE := E28) (H' := (mkH [⟨(x3_3).flatMap e3, 0, false⟩, ⟨[.int .i64 (fW .i64 ((fW .u64 x1_2).tmod 1114112))], 0, false⟩])) (by kernel_rfl) ?_
          refine oK [0, 1, 5, 6, 7, 8, 9, 60] (eE := [(0, .vec (a0).length 1 ((a0).flatMap e3)), (1, .vec (a1).length 1 ((a1).flatMap e3)), (5, .str z13.2.1), (6, .own 0 (x3_3).length 1), (7, .int .i64 z13.2.2.1), (8, .int .i64 (fW .i64 ((fW .u64 x1_2).tmod 1114112))), (9, .int .i64 (fW .i64 ((fW .u64 x4_2).tmod 4))), (60, .bool (!decide (fW .i64 ((fW .u64 x1_2).tmod 1114112) = 92)))]) (by kernel_rfl) ?_
          refine ok_cut [⟨(x3_3).flatMap e3, 0, false⟩] [⟨[.int .i64 (fW .i64 ((fW .u64 x1_2).tmod 1114112))], 0, false⟩] (by kernel_rfl) rfl (by kernel_rfl) ⟨(purs_belows _ (purs_flatMap e3_pur _)), trivial⟩ ?_
          exact hj16 (!decide (fW .i64 ((fW .u64 x1_2).tmod 1114112) = 92), z13.2.2.1, z13.2.1)
         ·let E29 : Env := ((60, .bool false) :: (74, .bool false) :: (73, .tuple []) :: (72, .tuple []) :: (71, .bool false) :: E27)
          refine oR 5 (p' := g12p25) (eE := E29) (H' := (mkH [⟨(x3_3).flatMap e3, 0, false⟩, ⟨[.int .i64 (fW .i64 ((fW .u64 x1_2).tmod 1114112))], 0, false⟩])) (by kernel_rfl) ?_
          refine oK [0, 1, 5, 6, 7, 8, 9, 60] (eE := [(0, .vec (a0).length 1 ((a0).flatMap e3)), (1, .vec (a1).length 1 ((a1).flatMap e3)), (5, .str z13.2.1), (6, .own 0 (x3_3).length 1), (7, .int .i64 z13.2.2.1), (8, .int .i64 (fW .i64 ((fW .u64 x1_2).tmod 1114112))), (9, .int .i64 (fW .i64 ((fW .u64 x4_2).tmod 4))), (60, .bool false)]) (by kernel_rfl) ?_
          refine ok_cut [⟨(x3_3).flatMap e3, 0, false⟩] [⟨[.int .i64 (fW .i64 ((fW .u64 x1_2).tmod 1114112))], 0, false⟩] (by kernel_rfl) rfl (by kernel_rfl) ⟨(purs_belows _ (purs_flatMap e3_pur _)), trivial⟩ ?_
          exact hj16 (false, z13.2.2.1, z13.2.1)
        ·let E30 : Env := ((60, .bool false) :: (74, .bool false) :: (73, .tuple []) :: (72, .tuple []) :: (71, .bool false) :: (70, .bool false) :: (69, .tuple []) :: (68, .tuple []) :: (67, .bool false) :: E26)
         refine oR 9 (p' := g12p25) (eE := E30) (H' := (mkH [⟨(x3_3).flatMap e3, 0, false⟩, ⟨[.int .i64 (fW .i64 ((fW .u64 x1_2).tmod 1114112))], 0, false⟩])) (by kernel_rfl) ?_
         refine oK [0, 1, 5, 6, 7, 8, 9, 60] (eE := [(0, .vec (a0).length 1 ((a0).flatMap e3)), (1, .vec (a1).length 1 ((a1).flatMap e3)), (5, .str z13.2.1), (6, .own 0 (x3_3).length 1), (7, .int .i64 z13.2.2.1), (8, .int .i64 (fW .i64 ((fW .u64 x1_2).tmod 1114112))), (9, .int .i64 (fW .i64 ((fW .u64 x4_2).tmod 4))), (60, .bool false)]) (by kernel_rfl) ?_
         refine ok_cut [⟨(x3_3).flatMap e3, 0, false⟩] [⟨[.int .i64 (fW .i64 ((fW .u64 x1_2).tmod 1114112))], 0, false⟩] (by kernel_rfl) rfl (by kernel_rfl) ⟨(purs_belows _ (purs_flatMap e3_pur _)), trivial⟩ ?_
         exact hj16 (false, z13.2.2.1, z13.2.1)
       ·let E31 : Env := ((60, .bool false) :: (74, .bool false) :: (73, .tuple []) :: (72, .tuple []) :: (71, .bool false) :: (70, .bool false) :: (69, .tuple []) :: (68, .tuple []) :: (67, .bool false) :: (66, .bool false) :: (65, .tuple []) :: (64, .tuple []) :: (63, .bool false) :: E12)
        refine oR 13 (p' := g12p25) (eE := E31) (H' := (mkH [⟨(x3_3).flatMap e3, 0, false⟩, ⟨[.int .i64 (fW .i64 ((fW .u64 x1_2).tmod 1114112))], 0, false⟩])) (by kernel_rfl) ?_
        refine oK [0, 1, 5, 6, 7, 8, 9, 60] (eE := [(0, .vec (a0).length 1 ((a0).flatMap e3)), (1, .vec (a1).length 1 ((a1).flatMap e3)), (5, .str z13.2.1), (6, .own 0 (x3_3).length 1), (7, .int .i64 z13.2.2.1), (8, .int .i64 (fW .i64 ((fW .u64 x1_2).tmod 1114112))), (9, .int .i64 (fW .i64 ((fW .u64 x4_2).tmod 4))), (60, .bool false)]) (by kernel_rfl) ?_
        refine ok_cut [⟨(x3_3).flatMap e3, 0, false⟩] [⟨[.int .i64 (fW .i64 ((fW .u64 x1_2).tmod 1114112))], 0, false⟩] (by kernel_rfl) rfl (by kernel_rfl) ⟨(purs_belows _ (purs_flatMap e3_pur _)), trivial⟩ ?_
        exact hj16 (false, z13.2.2.1, z13.2.1)
   ·refine oS 39 (b := decide (55296 ≤ fW .i64 ((fW .u64 x1_2).tmod 1114112))) (by kernel_rfl) (fun hb => ?_) (fun hb => ?_)
    ·refine oR 4 (p' := g12p15) (eE := ((42, .bool (decide (fW .i64 ((fW .u64 x1_2).tmod 1114112) ≤ 57343))) :: (41, .bool (decide (fW .i64 ((fW .u64 x1_2).tmod 1114112) ≤ 57343))) :: (40, .int .i64 (fW .i64 ((fW .u64 x1_2).tmod 1114112))) :: (39, .bool true) :: E6)) (H' := (mkH [⟨(y12_2).flatMap e3, 0, false⟩])) (by kernel_rfl) ?_
     refine oK [0, 1, 5, 6, 7, 8, 42] (eE := [(0, .vec (a0).length 1 ((a0).flatMap e3)), (1, .vec (a1).length 1 ((a1).flatMap e3)), (5, .str y12_0), (6, .own 0 (y12_2).length 1), (7, .int .i64 y12_1), (8, .int .i64 (fW .i64 ((fW .u64 x1_2).tmod 1114112))), (42, .bool (decide (fW .i64 ((fW .u64 x1_2).tmod 1114112) ≤ 57343)))]) (by kernel_rfl) ?_
     exact hj13 (decide (fW .i64 ((fW .u64 x1_2).tmod 1114112) ≤ 57343), y12_0, y12_1, y12_2)
    ·refine oR 4 (p' := g12p15) (eE := ((42, .bool false) :: (41, .tuple []) :: (40, .tuple []) :: (39, .bool false) :: E6)) (H' := (mkH [⟨(y12_2).flatMap e3, 0, false⟩])) (by kernel_rfl) ?_
     refine oK [0, 1, 5, 6, 7, 8, 42] (eE := [(0, .vec (a0).length 1 ((a0).flatMap e3)), (1, .vec (a1).length 1 ((a1).flatMap e3)), (5, .str y12_0), (6, .own 0 (y12_2).length 1), (7, .int .i64 y12_1), (8, .int .i64 (fW .i64 ((fW .u64 x1_2).tmod 1114112))), (42, .bool false)]) (by kernel_rfl) ?_
     exact hj13 (false, y12_0, y12_1, y12_2)
  ·refine oR 5 (p' := (atN 1 (ctl1 g12p12))) (eE := ((105, .str y12_0) :: (27, .bool false) :: E4)) (H' := (mkH [⟨(y12_2).flatMap e3, 0, false⟩])) (by kernel_rfl) ?_
   refine oH (fun (x2_1 : (List Nat)) => (.str x2_1, (mkH [⟨(y12_2).flatMap e3, 0, false⟩]))) (atN 2 (ctl1 g12p12)) (fun x2_1 => ((106, .str x2_1) :: (105, .str y12_0) :: (27, .bool false) :: E4)) (catH (by kernel_rfl)) (fun _ => by kernel_rfl) (fun x2_1 hx2_1 => ?_)
   refine oC (fun (x2_2 : ((List Int) × Int)) => .tuple [.vec (x2_2.1).length 1 ((x2_2.1).flatMap e3), .int .i64 x2_2.2]) (atN 3 (ctl1 g12p12)) (fun x2_2 => ((107, .tuple [.vec (x2_2.1).length 1 ((x2_2.1).flatMap e3), .int .i64 x2_2.2]) :: (106, .str x2_1) :: (105, .str y12_0) :: (27, .bool false) :: E4)) (fi := 43) (args := [.str x2_1]) (by kernel_rfl) (by kernel_rfl) (fun _ => by kernel_rfl) (fun r h => g43_ok k x2_1 r h) (fun _ => by kernel_rfl) (fun x2_2 hx2_2 => ?_)
   let E32 : Env := ((11, .int .i64 x2_2.2) :: (10, .vec (x2_2.1).length 1 ((x2_2.1).flatMap e3)) :: (109, .int .i64 x2_2.2) :: (108, .vec (x2_2.1).length 1 ((x2_2.1).flatMap e3)) :: (104, .tuple [.vec (x2_2.1).length 1 ((x2_2.1).flatMap e3), .int .i64 x2_2.2]) :: (107, .tuple [.vec (x2_2.1).length 1 ((x2_2.1).flatMap e3), .int .i64 x2_2.2]) :: (106, .str x2_1) :: (105, .str y12_0) :: (27, .bool false) :: E4)
   refine oR 8 (p' := g12p14) (eE := E32) (H' := (mkH [⟨(y12_2).flatMap e3, 0, false⟩])) (by kernel_rfl) ?_
   refine oK [6, 10, 11] (eE := [(6, .own 0 (y12_2).length 1), (10, .vec (x2_2.1).length 1 ((x2_2.1).flatMap e3)), (11, .int .i64 x2_2.2)]) (by kernel_rfl) ?_
   let E33 : Env := [(112, .bool (!decide (x2_2.2 = 0))), (111, .bool (!decide (x2_2.2 = 0))), (110, .int .i64 x2_2.2), (6, .own 0 (y12_2).length 1), (10, .vec (x2_2.1).length 1 ((x2_2.1).flatMap e3)), (11, .int .i64 x2_2.2)]
   refine oR 4 (p' := (atN 3 (ctl1 g12p14))) (eE := E33) (H' := (mkH [⟨(y12_2).flatMap e3, 0, false⟩])) (by kernel_rfl) ?_
   refine oJ (f := fun (z14 : Bool × (List Int)) => if z14.1 then (some false) else (g12_l19 k x2_2 k z14.2 0)) g12p16 (fun (z14 : Bool × (List Int)) => [(6, .own 0 (z14.2).length 1), (10, .vec (x2_2.1).length 1 ((x2_2.1).flatMap e3)), (118, .bool z14.1)]) (fun (z14 : Bool × (List Int)) => (mkH [⟨(z14.2).flatMap e3, 0, false⟩])) (fun z14 => ?_) (fun j14 hj14 => ?_)
   ·refine oS 118 (b := z14.1) (by kernel_rfl) (fun hb => ?_) (fun hb => ?_)
    ·let E34 : Env := [(4, .bool false), (118, .bool true), (6, .own 0 (z14.2).length 1), (10, .vec (x2_2.1).length 1 ((x2_2.1).flatMap e3)), (118, .bool z14.1)]
     refine oR 6 (p' := .fin) (eE := E34) (H' := (mkH [⟨(z14.2).flatMap e3, 0, false⟩])) (by kernel_rfl) ?_
     exact oT (r := false) (xs := [.bool false]) (v := .bool false) (by kernel_rfl) (by kernel_rfl) (by kernel_rfl) (.pures (by kernel_rfl)) (by kernel_rfl)
    ·let E35 : Env := [(12, .int .i64 0), (118, .bool false), (6, .own 0 (z14.2).length 1), (10, .vec (x2_2.1).length 1 ((x2_2.1).flatMap e3)), (118, .bool z14.1)]
     refine oR 9 (p' := g12p22) (eE := E35) (H' := (mkH [⟨(z14.2).flatMap e3, 0, false⟩])) (by kernel_rfl) ?_
     refine oK [6, 10, 12] (eE := [(6, .own 0 (z14.2).length 1), (10, .vec (x2_2.1).length 1 ((x2_2.1).flatMap e3)), (12, .int .i64 0)]) (by kernel_rfl) ?_
     exact (g12_l19_ok k x2_2 k) z14.2 0
   ·refine oS 112 (b := !decide (x2_2.2 = 0)) (by kernel_rfl) (fun hb => ?_) (fun hb => ?_)
    ·let E40 : Env := ((118, .bool true) :: (117, .tuple []) :: (116, .tuple []) :: (115, .tuple []) :: (114, .tuple []) :: (113, .tuple []) :: (112, .bool true) :: E33)
     refine oR 7 (p' := g12p16) (eE := E40) (H' := (mkH [⟨(y12_2).flatMap e3, 0, false⟩])) (by kernel_rfl) ?_
     refine oK [6, 10, 118] (eE := [(6, .own 0 (y12_2).length 1), (10, .vec (x2_2.1).length 1 ((x2_2.1).flatMap e3)), (118, .bool true)]) (by kernel_rfl) ?_
     exact hj14 (true, y12_2)
    ·let E41 : Env := ((118, .bool (!decide ((x2_2.1.length : Int) = (y12_2.length : Int)))) :: (117, .bool (!decide ((x2_2.1.length : Int) = (y12_2.length : Int)))) :: (116, .int .i64 (y12_2.length : Int)) :: (115, .own 0 (y12_2).length 1) :: (114, .int .i64 (x2_2.1.length : Int)) :: (113, .vec (x2_2.1).length 1 ((x2_2.1).flatMap e3)) :: (112, .bool false) :: E33)
     refine oR 7 (p' := g12p16) (eE := E41) (H' := (mkH [⟨(y12_2).flatMap e3, 0, false⟩])) (by kernel_rfl) ?_
     refine oK [6, 10, 118] (eE := [(6, .own 0 (y12_2).length 1), (10, .vec (x2_2.1).length 1 ((x2_2.1).flatMap e3)), (118, .bool (!decide ((x2_2.1.length : Int) = (y12_2.length : Int))))]) (by kernel_rfl) ?_
     exact hj14 (!decide ((x2_2.1.length : Int) = (y12_2.length : Int)), y12_2)
def g12 (k : Nat) (a0 : (List Int)) (a1 : (List Int)) : Option Bool :=
 jn (fun (z11 : Bool) => if z11 then ((g36 k).bind fun x0_0 => some x0_0) else (g12_l12 k a0 a1 k ([34] : List Nat) 0 ([] : List Int))) (fun j11 => if (decide (40 < (a0.length : Int))) then (j11 true) else (j11 (decide ((a1.length : Int) < (a0.length : Int)))))
theorem g12_ok (k : Nat) (a0 : (List Int)) (a1 : (List Int)) (r : Bool) (h : g12 k a0 a1 = some r) : PureOk Try.prog 12 [.vec (a0).length 1 ((a0).flatMap e3), .vec (a1).length 1 ((a1).flatMap e3)] (.bool r) := by
 refine pure_of X12 (fun _ => rfl) Try.func12 (by decide +kernel) (by kernel_rfl) (t := g12 k a0 a1) ?_ h
 unfold g12
 refine oE (eE := [(0, .vec (a0).length 1 ((a0).flatMap e3)), (1, .vec (a1).length 1 ((a1).flatMap e3))]) (by kernel_rfl) ?_
 let E1 : Env := [(16, .bool (decide (40 < (a0.length : Int)))), (15, .bool (decide (40 < (a0.length : Int)))), (14, .int .i64 (a0.length : Int)), (13, .vec (a0).length 1 ((a0).flatMap e3)), (4, .bool false), (0, .vec (a0).length 1 ((a0).flatMap e3)), (1, .vec (a1).length 1 ((a1).flatMap e3))]
 refine oR 11 (p' := (atN 4 (ctl1 g12p1))) (eE := E1) (H' := (mkH [])) (by kernel_rfl) ?_
 refine oJ (f := fun (z11 : Bool) => if z11 then ((g36 k).bind fun x0_0 => some x0_0) else (g12_l12 k a0 a1 k ([34] : List Nat) 0 ([] : List Int))) g12p2 (fun (z11 : Bool) => [(0, .vec (a0).length 1 ((a0).flatMap e3)), (1, .vec (a1).length 1 ((a1).flatMap e3)), (22, .bool z11)]) (fun (z11 : Bool) => (mkH [])) (fun z11 => ?_) (fun j11 hj11 => ?_)
 ·refine oS 22 (b := z11) (by kernel_rfl) (fun hb => ?_) (fun hb => ?_)
  ·refine oR 3 (p' := (atN 0 (ctl1 g12p3))) (eE := [(22, .bool true), (0, .vec (a0).length 1 ((a0).flatMap e3)), (1, .vec (a1).length 1 ((a1).flatMap e3)), (22, .bool z11)]) (H' := (mkH [])) (by kernel_rfl) ?_
   refine oC (fun (x0_0 : Bool) => .bool x0_0) (atN 1 (ctl1 g12p3)) (fun x0_0 => [(23, .bool x0_0), (22, .bool true), (0, .vec (a0).length 1 ((a0).flatMap e3)), (1, .vec (a1).length 1 ((a1).flatMap e3)), (22, .bool z11)]) (fi := 36) (args := []) (by kernel_rfl) (by kernel_rfl) (fun _ => by kernel_rfl) (fun r h => g36_ok k  r h) (fun _ => by kernel_rfl) (fun x0_0 hx0_0 => ?_)
   let E2 : Env := [(4, .bool x0_0), (23, .bool x0_0), (22, .bool true), (0, .vec (a0).length 1 ((a0).flatMap e3)), (1, .vec (a1).length 1 ((a1).flatMap e3)), (22, .bool z11)]
   refine oR 3 (p' := .fin) (eE := E2) (H' := (mkH [])) (by kernel_rfl) ?_
   exact oT (r := x0_0) (xs := [.bool x0_0]) (v := .bool x0_0) (by kernel_rfl) (by kernel_rfl) (by kernel_rfl) (.pures (by kernel_rfl)) (by kernel_rfl)
  ·let E3 : Env := [(6, .nils), (5, .str [34]), (22, .bool false), (0, .vec (a0).length 1 ((a0).flatMap e3)), (1, .vec (a1).length 1 ((a1).flatMap e3)), (22, .bool z11)]
   refine oR 9 (p' := (atN 1 (ctl1 g12p6))) (eE := E3) (H' := (mkH [])) (by kernel_rfl) ?_
   refine ok_own [] 6 1 rfl (by kernel_rfl) ?_
   refine oE (eE := [(6, .own 0 (([] : List Int)).length 1), (6, .nils), (5, .str [34]), (22, .bool false), (0, .vec (a0).length 1 ((a0).flatMap e3)), (1, .vec (a1).length 1 ((a1).flatMap e3)), (22, .bool z11)]) (by kernel_rfl) ?_
   refine ok_heap (H' := (mkH [⟨(([] : List Int)).flatMap e3, 0, false⟩])) (by kernel_rfl) ?_
   refine oR 8 (p' := g12p8) (eE := ((7, .int .i64 0) :: (6, .own 0 (([] : List Int)).length 1) :: E3)) (H' := (mkH [⟨(([] : List Int)).flatMap e3, 0, false⟩])) (by kernel_rfl) ?_
   refine oK [0, 1, 5, 6, 7] (eE := [(0, .vec (a0).length 1 ((a0).flatMap e3)), (1, .vec (a1).length 1 ((a1).flatMap e3)), (5, .str [34]), (6, .own 0 (([] : List Int)).length 1), (7, .int .i64 0)]) (by kernel_rfl) ?_
   exact (g12_l12_ok k a0 a1 k) ([34] : List Nat) 0 ([] : List Int)
 ·refine oS 16 (b := decide (40 < (a0.length : Int))) (by kernel_rfl) (fun hb => ?_) (fun hb => ?_)
  ·let E42 : Env := ((22, .bool true) :: (21, .tuple []) :: (20, .tuple []) :: (19, .tuple []) :: (18, .tuple []) :: (17, .tuple []) :: (16, .bool true) :: E1)
   refine oR 7 (p' := g12p2) (eE := E42) (H' := (mkH [])) (by kernel_rfl) ?_
   refine oK [0, 1, 22] (eE := [(0, .vec (a0).length 1 ((a0).flatMap e3)), (1, .vec (a1).length 1 ((a1).flatMap e3)), (22, .bool true)]) (by kernel_rfl) ?_
   exact hj11 true
  ·let E43 : Env := ((22, .bool (decide ((a1.length : Int) < (a0.length : Int)))) :: (21, .bool (decide ((a1.length : Int) < (a0.length : Int)))) :: (20, .int .i64 (a0.length : Int)) :: (19, .vec (a0).length 1 ((a0).flatMap e3)) :: (18, .int .i64 (a1.length : Int)) :: (17, .vec (a1).length 1 ((a1).flatMap e3)) :: (16, .bool false) :: E1)
   refine oR 7 (p' := g12p2) (eE := E43) (H' := (mkH [])) (by kernel_rfl) ?_
   refine oK [0, 1, 22] (eE := [(0, .vec (a0).length 1 ((a0).flatMap e3)), (1, .vec (a1).length 1 ((a1).flatMap e3)), (22, .bool (decide ((a1.length : Int) < (a0.length : Int))))]) (by kernel_rfl) ?_
   exact hj11 (decide ((a1.length : Int) < (a0.length : Int)))
end
end Go.Proofs.Ytabhkocokojddaa.Am
set_option maxRecDepth 100000
set_option linter.unusedVariables false
set_option linter.unusedSimpArgs false
namespace Go.Proofs.Ytabhkocokojddaa.Am
open Go
def wayB (x : Nat × Nat) : List Nat :=
 if x.1 = 0 ∧ 32 ≤ x.2 ∧ x.2 ≠ 34 ∧ x.2 ≠ 92 then enc x.2 else if x.1 = 1 ∧ x.2 < 256 then 92 :: 120 :: dsN 16 2 x.2 else if x.1 = 2 ∧ x.2 < 512 then 92 :: dsN 8 3 x.2 else 92 :: 120 :: 123 :: (dsN 16 6 x.2 ++ [125])
def waysB : List (Nat × Nat) → List Nat
 | [] => []
 | x :: l => wayB x ++ waysB l
theorem wayB_len (x : Nat × Nat) : 1 ≤ (wayB x).length ∧ (wayB x).length ≤ 10 := by
 unfold wayB
 have := enc_len x.2
 repeat' split
 all_goals (try simp only [List.length_cons, List.length_append, dsN_len, List.length_nil])
 all_goals omega
theorem waysB_len : ∀ l : List (Nat × Nat), (waysB l).length ≤ 10 * l.length ∧ l.length ≤ (waysB l).length
 | [] => ⟨Nat.le_refl _, Nat.le_refl _⟩
 | x :: l => by
  have := wayB_len x
  have := waysB_len l
  simp only [waysB, List.length_append, List.length_cons]; omega
theorem waysB_app : ∀ a b : List (Nat × Nat), waysB (a ++ b) = waysB a ++ waysB b
 | [], b => rfl
 | x :: a, b => by simp only [List.cons_append, waysB, waysB_app a b, List.append_assoc]
theorem wayB_By {x : Nat × Nat} (h : cpN x.2 = true) : By (wayB x) := by
 have h16 := fun n c b (hb : b ∈ dsN 16 n c) => (dsN_dg (b := 16) (by decide) n c b hb).2
 have h8 := fun n c b (hb : b ∈ dsN 8 n c) => (dsN_dg (b := 8) (by decide) n c b hb).2
 have eb := enc_bytes h
 unfold wayB
 repeat' split
 ·exact eb
 ·intro b hb
  simp only [List.mem_cons] at hb
  rcases hb with rfl | rfl | hb
  ·decide
  ·decide
  ·exact h16 _ _ b hb
 ·intro b hb
  simp only [List.mem_cons] at hb
  rcases hb with rfl | hb
  ·decide
  ·exact h8 _ _ b hb
 ·intro b hb
  simp only [List.mem_cons, List.mem_append, List.not_mem_nil, or_false] at hb
  rcases hb with rfl | rfl | rfl | hb | rfl
  ·decide
  ·decide
  ·decide
  ·exact h16 _ _ b hb
  ·decide
theorem waysB_By : ∀ l : List (Nat × Nat), (∀ x ∈ l, cpN x.2 = true) → By (waysB l)
 | [], _ => fun b hb => by cases hb
 | x :: l, h => (wayB_By (h x List.mem_cons_self)).app (waysB_By l (fun y hy => h y (List.mem_cons_of_mem _ hy)))
theorem way_step {s : List Nat} {e a : Nat} {x : Nat × Nat} {t : List Nat} (hx : cpN x.2 = true) (hd : s.drop a = wayB x ++ (t ++ [34])) (ht : (s.take e).drop a = wayB x ++ t) (hlt : a < e) (f : Nat) :
 quV 34 e s (f + 1) a = (quV 34 e s f (a + (wayB x).length)).map fun l => (x.2 : Int) :: l := by
 by_cases h0 : x.1 = 0 ∧ 32 ≤ x.2 ∧ x.2 ≠ 34 ∧ x.2 ≠ 92
 ·have ew : wayB x = enc x.2 := by unfold wayB; rw [if_pos h0]
  rw [ew] at hd ⊢
  obtain ⟨d, w, hdw, hc⟩ := enc_first x.2
  have de := enc_dec hx (t ++ [34])
  rw [hdw] at hd de
  simp only [List.cons_append] at hd de
  simp only [quV]
  rw [if_neg (by omega), hd]
  simp only []
  rw [if_neg (by omega), de, if_neg (by simp only []; omega), hdw]
  simp only [Int.toNat_natCast]
 ·have esc : escN (wayB x ++ t) = ((x.2 : Int), ((wayB x).length : Int)) ∧ ∃ w, wayB x = 92 :: w := by
   by_cases h1 : x.1 = 1 ∧ x.2 < 256
   ·have ew : wayB x = 92 :: 120 :: dsN 16 2 x.2 := by unfold wayB; rw [if_neg h0, if_pos h1]
    rw [ew]
    refine ⟨?_, _, rfl⟩
    refine (esc_hex2 h1.2 t).trans ?_
    simp only [List.length_cons, dsN_len]; rfl
   ·by_cases h2 : x.1 = 2 ∧ x.2 < 512
    ·have ew : wayB x = 92 :: dsN 8 3 x.2 := by unfold wayB; rw [if_neg h0, if_neg h1, if_pos h2]
     rw [ew]
     refine ⟨?_, _, rfl⟩
     refine (esc_oct h2.2 t).trans ?_
     simp only [List.length_cons, dsN_len]; rfl
    ·have ew : wayB x = 92 :: 120 :: 123 :: (dsN 16 6 x.2 ++ [125]) := by unfold wayB; rw [if_neg h0, if_neg h1, if_neg h2]
     rw [ew]
     refine ⟨?_, _, rfl⟩
     have := esc_hex6 hx t
     simp only [List.cons_append, List.append_assoc, List.nil_append]
     refine this.trans ?_
     simp only [List.length_cons, List.length_append, dsN_len, List.length_nil]; rfl
  obtain ⟨es, w, hw⟩ := esc
  have wl := wayB_len x
  simp only [quV]
  rw [if_neg (by omega), hd, ht, es, hw]
  simp only [List.cons_append, if_true, Int.toNat_natCast]
  rw [if_neg (by rw [hw] at wl; omega)]
theorem ways_q {s : List Nat} {e : Nat} : ∀ (l : List (Nat × Nat)) (a f : Nat), (∀ x ∈ l, cpN x.2 = true) → s.drop a = waysB l ++ [34] → (s.take e).drop a = waysB l → e = a + (waysB l).length → l.length < f → quV 34 e s f a = some (l.map fun x => (x.2 : Int))
 | [], a, f, hx, hd, ht, he, hf => by
  obtain ⟨f, rfl⟩ : ∃ g, f = g + 1 := ⟨f - 1, by simp at hf; omega⟩
  simp only [quV]
  rw [if_pos (by rw [he]; simp [waysB])]
  rfl
 | x :: l, a, f, hx, hd, ht, he, hf => by
  simp only [List.length_cons] at hf
  obtain ⟨f, rfl⟩ : ∃ g, f = g + 1 := ⟨f - 1, by omega⟩
  have wl := wayB_len x
  simp only [waysB, List.length_append] at he
  have hd' : s.drop a = wayB x ++ (waysB l ++ [34]) := by rw [hd]; simp only [waysB, List.append_assoc]
  have ht' : (s.take e).drop a = wayB x ++ waysB l := by rw [ht]; rfl
  rw [way_step (hx x List.mem_cons_self) hd' ht' (by omega)]
  have ih := ways_q l (a + (wayB x).length) f (fun y hy => hx y (List.mem_cons_of_mem _ hy)) (by rw [← List.drop_drop, hd', List.drop_left]) (by rw [← List.drop_drop, ht', List.drop_left]) (by omega) (by omega)
  rw [ih]; rfl
def cBe (x : Int) : Nat := ((fW .u64 x).tmod 1114112).toNat
theorem cBe_at (x : Int) : fW .i64 ((fW .u64 x).tmod 1114112) = (cBe x : Int) ∧ cBe x ≤ 1114111 := by
 obtain ⟨i, hi, h1, -⟩ := tmod_at x 1114112 (by decide) (by decide)
 have h1' : (fW .u64 x).tmod 1114112 = (i : Int) := h1
 unfold cBe
 rw [h1', fwI (by omega) (by omega), Int.toNat_natCast]
 omega
def kBe (x : Int) : Nat := ((fW .u64 x).tmod 4).toNat
theorem kBe_at (x : Int) : fW .i64 ((fW .u64 x).tmod 4) = (kBe x : Int) := by
 obtain ⟨i, hi, h1, -⟩ := tmod_at x 4 (by decide) (by decide)
 have h1' : (fW .u64 x).tmod 4 = (i : Int) := h1
 unfold kBe
 rw [h1', fwI (by omega) (by omega), Int.toNat_natCast]
def intsE (P : List (Nat × Nat)) : List Int := P.map fun x => (x.2 : Int)
theorem esc_cmp (k : Nat) (r : List Int) (hr : r.length ≤ 1000) : ∀ (f i : Nat), r.length < i + f → i ≤ r.length → g12_l19 (k + 60) (r, 0) f r (i : Int) = some true
 | 0, i, h, h2 => by omega
 | f + 1, i, h, h2 => by
  rw [g12_l19_s]
  rcases Nat.lt_or_ge i r.length with hi | hi
  ·have ih := esc_cmp k r hr f (i + 1) (by omega) (by omega)
   obtain ⟨x, t, hx, -, -, -⟩ := dconsL (s := r) (i := i) hi
   have nx : nthL r (i : Int) = some x := nthL_at hx
   have ix : idxO r (i : Int) = some i := by unfold idxO; rw [if_pos (by omega), Int.toNat_natCast]
   have gx : getO r i = some x := by
    unfold getO
    have := List.getElem?_drop (xs := r) (i := i) (j := 0)
    rw [hx] at this
    simpa using this.symm
   refine iT (dT (by simp only []; omega)) ?_
   refine bS (by (try simp (disch := omega) only [fwI]); exact nx) ?_
   refine bS (by (try simp (disch := omega) only [fwI]); exact ix) ?_
   refine bS (by (try simp (disch := omega) only [fwI]); exact gx) ?_
   refine iF (by rw [dT rfl]; rfl) ?_
   rw [fw_s (by omega)]
   exact ih
  ·refine iF (dF (by simp only []; omega)) ?_
   refine bS (by (try simp (disch := omega) only [fwI]); exact told4 k) ?_
   rfl
theorem quoted_of {k n : Nat} {S : List Nat} {R : Option (List Int × Int)} (hl : S.length = n + 2) (hn : n ≤ 100000) (n0 : nthS S 0 = some ((34 : Nat) : Int)) (n9 : nthS S ((n + 1 : Nat) : Int) = some ((34 : Nat) : Int)) (h : g43_l7 k S k ((1 : Nat) : Int) [] = R) : g43 k S = R := by
 have e : ((S.length : Nat) : Int) - 1 = ((n + 1 : Nat) : Int) := by omega
 unfold g43
 refine (jS (v := false) (fun j => ?_)).trans ?_
 ·refine iF (dF (by omega)) ?_
  refine bS (by (try simp (disch := omega) only [fwI]); exact n0) ?_
  refine iF rfl ?_
  rw [e, fwI (by omega) (by omega)]
  refine bS (by (try simp (disch := omega) only [fwI]); exact n9) ?_
  refine bS (by (try simp (disch := omega) only [fwI]); exact n0) ?_
  rw [dT rfl]; rfl
 ·exact iF rfl h
theorem esc_l (k : Nat) (hk : 900 ≤ k) {l w : List Int} (hl : l.length ≤ 40) (hw : l.length ≤ w.length) (hw2 : w.length ≤ 140737488351232) : ∀ (f i : Nat) (P : List (Nat × Nat)), l.length < i + f → i ≤ l.length → (∀ x ∈ P, cpN x.2 = true) → P.length ≤ i →
 g12_l12 (k + 60) l w f (34 :: waysB P) (i : Int) (intsE P) = some true
 | 0, i, P, h, h2, hP, hPl => by omega
 | f + 1, i, P, h, h2, hP, hPl => by
  have wl := waysB_len P
  rw [g12_l12_s]
  rcases Nat.lt_or_ge i l.length with hi | hi
  ·obtain ⟨x, t, hx, -, -, -⟩ := dconsL (s := l) (i := i) hi
   obtain ⟨y, t', hy, -, -, -⟩ := dconsL (s := w) (i := i) (by omega)
   obtain ⟨c1, c2⟩ := cBe_at x
   refine iT (dT (by omega)) ?_
   refine bS (by (try simp (disch := omega) only [fwI]); exact nthL_at hx) ?_
   simp only [c1, kBe_at]
   clear c1
   generalize cBe x = c at *
   by_cases hs : 55296 ≤ c ∧ c ≤ 57343
   ·have ih := esc_l k hk hl hw hw2 f (i + 1) P (by omega) (by omega) hP (by omega)
    refine (jS (v := (true, 34 :: waysB P, (i : Int), intsE P)) (fun j => ?_)).trans ?_
    ·refine iT (dT (by omega)) ?_
     rw [dT (by omega)]
    ·refine (jS (v := (34 :: waysB P, intsE P, (i : Int))) (fun j => iT rfl rfl)).trans ?_
     show g12_l12 _ _ _ f _ (fW .i64 ((i : Int) + 1)) _ = _
     rw [fw_s (by omega)]
     exact ih
   ·have hcp : cpN c = true := by
     unfold cpN
     rw [decide_eq_true (by omega : c ≤ 1114111)]
     simp; omega
    have ih := esc_l k hk hl hw hw2 f (i + 1) (P ++ [(kBe y, c)]) (by omega) (by omega) (fun z hz => by
     rcases List.mem_append.1 hz with hz | hz
     ·exact hP z hz
     ·rw [List.mem_singleton.1 hz]; exact hcp) (by simp only [List.length_append, List.length_cons, List.length_nil]; omega)
    rw [waysB_app] at ih
    have e1 : waysB [(kBe y, c)] = wayB (kBe y, c) := by simp only [waysB, List.append_nil]
    have e2 : intsE (P ++ [(kBe y, c)]) = intsE P ++ [(c : Int)] := by unfold intsE; rw [List.map_append]; rfl
    rw [e1, e2] at ih
    have il : (intsE P).length = P.length := List.length_map _
    have ap : appS 8 (intsE P) [(c : Int)] = some (intsE P ++ [(c : Int)]) := by
     unfold appS; rw [if_pos (by simp only [List.length_cons, List.length_nil]; omega)]
    have el := enc_len c
    have cc : ∀ (u v : List Nat), u.length ≤ 1000 → v.length ≤ 1000 → catS u v = some (u ++ v) := by
     intro u v h1 h2; unfold catS; rw [if_pos (by omega)]
    refine (jS (v := (false, 34 :: waysB P, (i : Int), intsE P)) (fun j => ?_)).trans ?_
    ·by_cases h : 55296 ≤ c
     ·refine iT (dT (by omega)) ?_
      rw [dF (by omega)]
     ·exact iF (dF (by omega)) rfl
    ·refine (jS (v := (34 :: (waysB P ++ wayB (kBe y, c)), intsE P ++ [(c : Int)], (i : Int))) (fun j => ?_)).trans ?_
     ·refine iF rfl ?_
      refine bS (by (try simp (disch := omega) only [fwI]); exact ap) ?_
      refine bS (by (try simp (disch := omega) only [fwI]); exact nthL_at hy) ?_
      generalize kBe y = m at *
      by_cases w0 : m = 0 ∧ 32 ≤ c ∧ c ≠ 34 ∧ c ≠ 92
      ·have ew : wayB (m, c) = enc c := by unfold wayB; rw [if_pos w0]
       rw [ew]
       refine (jS (v := (true, (i : Int), 34 :: waysB P)) (fun j => ?_)).trans ?_
       ·refine iT (dT (by omega)) ?_
        refine iT (dT (by omega)) ?_
        refine iT (by rw [dF (by omega)]; rfl) ?_
        rw [dF (show ¬ (c : Int) = 92 by omega)]; rfl
       ·refine iT rfl ?_
        rw [fw_i32 c2, utf_is hcp]
        refine bS (by (try simp (disch := omega) only [fwI]); exact cc (34 :: waysB P) (enc c) (by simp only [List.length_cons]; omega) (by omega)) ?_
        rfl
      ·refine (jS (v := (false, (i : Int), 34 :: waysB P)) (fun j => ?_)).trans ?_
       ·by_cases z0 : m = 0
        ·refine iT (dT (by omega)) ?_
         by_cases z1 : 32 ≤ c
         ·refine iT (dT (by omega)) ?_
          by_cases z2 : c = 34
          ·exact iF (by rw [dT (by omega)]; rfl) rfl
          ·refine iT (by rw [dF (by omega)]; rfl) ?_
           rw [dT (show (c : Int) = 92 by omega)]; rfl
         ·exact iF (dF (by omega)) rfl
        ·exact iF (dF (by omega)) rfl
       ·refine iF rfl ?_
        by_cases w1 : m = 1 ∧ c < 256
        ·have ew : wayB (m, c) = 92 :: 120 :: dsN 16 2 c := by unfold wayB; rw [if_neg w0, if_pos w1]
         rw [ew]
         refine (jS (v := (true, 34 :: waysB P, (i : Int))) (fun j => ?_)).trans ?_
         ·refine iT (dT (by omega)) ?_
          rw [dT (by omega)]
         ·refine iT rfl ?_
          refine bS (by (try simp (disch := omega) only [fwI]); exact cc (34 :: waysB P) [92, 120] (by simp only [List.length_cons]; omega) (by decide)) ?_
          refine bS (by (try simp (disch := omega) only [fwI]); exact hexc_at (k := k + 60) (n := 2) (by decide) (by omega) (by omega)) ?_
          refine bS (by (try simp (disch := omega) only [fwI]); exact cc (34 :: waysB P ++ [92, 120]) (dsN 16 2 c) (by simp only [List.length_cons, List.length_append, List.length_nil]; omega) (by rw [dsN_len]; decide)) ?_
          simp only [List.cons_append, List.append_assoc, List.nil_append]
        ·refine (jS (v := (false, 34 :: waysB P, (i : Int))) (fun j => ?_)).trans ?_
         ·by_cases z1 : m = 1
          ·refine iT (dT (by omega)) ?_
           rw [dF (by omega)]
          ·exact iF (dF (by omega)) rfl
         ·refine iF rfl ?_
          by_cases w2 : m = 2 ∧ c < 512
          ·have ew : wayB (m, c) = 92 :: dsN 8 3 c := by unfold wayB; rw [if_neg w0, if_neg w1, if_pos w2]
           rw [ew]
           refine (jS (v := (true, 34 :: waysB P, (i : Int))) (fun j => ?_)).trans ?_
           ·refine iT (dT (by omega)) ?_
            rw [dT (by omega)]
           ·refine iT rfl ?_
            refine bS (by (try simp (disch := omega) only [fwI]); exact cc (34 :: waysB P) [92] (by simp only [List.length_cons]; omega) (by decide)) ?_
            refine bS (by (try simp (disch := omega) only [fwI]); exact octc_at (k := k + 60) (by omega) (by omega)) ?_
            refine bS (by (try simp (disch := omega) only [fwI]); exact cc (34 :: waysB P ++ [92]) (dsN 8 3 c) (by simp only [List.length_cons, List.length_append, List.length_nil]; omega) (by rw [dsN_len]; decide)) ?_
            simp only [List.cons_append, List.append_assoc, List.nil_append]
          ·have ew : wayB (m, c) = 92 :: 120 :: 123 :: (dsN 16 6 c ++ [125]) := by unfold wayB; rw [if_neg w0, if_neg w1, if_neg w2]
           rw [ew]
           refine (jS (v := (false, 34 :: waysB P, (i : Int))) (fun j => ?_)).trans ?_
           ·by_cases z1 : m = 2
            ·refine iT (dT (by omega)) ?_
             rw [dF (by omega)]
            ·exact iF (dF (by omega)) rfl
           ·refine iF rfl ?_
            refine bS (by (try simp (disch := omega) only [fwI]); exact cc (34 :: waysB P) [92, 120, 123] (by simp only [List.length_cons]; omega) (by decide)) ?_
            refine bS (by (try simp (disch := omega) only [fwI]); exact hexc_at (k := k + 60) (n := 6) (by decide) (by omega) (by omega)) ?_
            refine bS (by (try simp (disch := omega) only [fwI]); exact cc (34 :: waysB P ++ [92, 120, 123]) (dsN 16 6 c) (by simp only [List.length_cons, List.length_append, List.length_nil]; omega) (by rw [dsN_len]; decide)) ?_
            refine bS (by (try simp (disch := omega) only [fwI]); exact cc (34 :: waysB P ++ [92, 120, 123] ++ dsN 16 6 c) [125] (by simp only [List.length_cons, List.length_append, List.length_nil, dsN_len]; omega) (by decide)) ?_
            simp only [List.cons_append, List.append_assoc, List.nil_append]
     ·show g12_l12 _ _ _ f _ (fW .i64 ((i : Int) + 1)) _ = _
      rw [fw_s (by omega)]
      exact ih
  ·refine iF (dF (by omega)) ?_
   have c1 : catS (34 :: waysB P) [34] = some (34 :: waysB P ++ [34]) := by unfold catS; rw [if_pos (by simp only [List.length_cons, List.length_nil]; omega)]
   have sb : By (34 :: waysB P ++ [34]) := by
    intro b hb
    simp only [List.cons_append, List.mem_cons, List.mem_append, List.not_mem_nil, or_false] at hb
    rcases hb with rfl | hb | rfl
    ·decide
    ·exact waysB_By P hP b hb
    ·decide
   have sl : (34 :: waysB P ++ [34]).length = (waysB P).length + 2 := by simp only [List.length_append, List.length_cons, List.length_nil]
   have de : (34 :: waysB P ++ [34]).drop ((waysB P).length + 1) = [34] := by
    exact List.drop_left (l₁ := 34 :: waysB P) (l₂ := [34])
   have te : (34 :: waysB P ++ [34]).take ((waysB P).length + 1) = 34 :: waysB P := by
    exact List.take_left (l₁ := 34 :: waysB P) (l₂ := [34])
   have n0 : nthS (34 :: waysB P ++ [34]) 0 = some ((34 : Nat) : Int) := nthX (i := 0) rfl rfl
   have n9 : nthS (34 :: waysB P ++ [34]) (((waysB P).length + 1 : Nat) : Int) = some ((34 : Nat) : Int) := nthX rfl de
   have qv := ways_q (s := 34 :: waysB P ++ [34]) (e := (waysB P).length + 1) P 1 ((waysB P).length + 1) hP rfl (by rw [te]; rfl) (by omega) (by omega)
   obtain ⟨q1, -⟩ := quo_l (k := k + 60) sb (by omega) (by omega) (q := 34) (e := (waysB P).length + 1) (by omega) (by decide) (by decide) n0 de ((waysB P).length + 1) (k + 60) 1 [] (by omega) (by omega) (by omega) (Nat.zero_le _)
   rw [qv] at q1
   have Q : g43 (k + 60) (34 :: waysB P ++ [34]) = some (intsE P, 0) := by
    exact quoted_of (n := (waysB P).length) sl (by omega) n0 n9 q1
   refine bS (by (try simp (disch := omega) only [fwI]); exact c1) ?_
   refine bS (by (try simp (disch := omega) only [fwI]); exact Q) ?_
   have il : (intsE P).length = P.length := List.length_map _
   refine (jS (v := (false, intsE P)) (fun j => ?_)).trans ?_
   ·refine iF rfl ?_
    rw [dT rfl]; rfl
   ·refine iF rfl ?_
    exact esc_cmp k (intsE P) (by omega) (k + 60) 0 (by omega) (by omega)
theorem litEscapes_true (l w : List Int) (_ : ∀ n ∈ l, -9223372036854775808 ≤ n ∧ n ≤ 9223372036854775807) (_ : l.length ≤ 140737488351232) (_ : ∀ n ∈ w, -9223372036854775808 ≤ n ∧ n ≤ 9223372036854775807) (hw : w.length ≤ 140737488351232) : ∃ k, g12 k l w = some true := by
 refine ⟨940 + 60, ?_⟩
 unfold g12
 by_cases h : 40 < l.length ∨ w.length < l.length
 ·refine (jS (v := true) (fun j => ?_)).trans ?_
  ·by_cases h1 : 40 < l.length
   ·exact iT (dT (by omega)) rfl
   ·refine iF (dF (by omega)) ?_
    rw [dT (by omega)]
  ·refine iT rfl ?_
   refine bS (by (try simp (disch := omega) only [fwI]); exact told4 940) ?_
   rfl
 ·refine (jS (v := false) (fun j => ?_)).trans ?_
  ·refine iF (dF (by omega)) ?_
   rw [dF (by omega)]
  ·refine iF rfl ?_
   exact esc_l 940 (by omega) (by omega) (by omega) hw (940 + 60) 0 [] (by omega) (by omega) (fun x hx => by cases hx) (Nat.le_refl _)
end Go.Proofs.Ytabhkocokojddaa.Am
set_option linter.unusedVariables false
namespace Go.Proofs.Ytabhkocokojddaa.Am
open Go Go.ChangeShapes Go.WideShapes
def mpOf (fz : List (Nat × List AV)) : Mp := ⟨fun _ _ => none, fun i => fz[i]?⟩
theorem law_walk_fz {P : Program} {n : Nat} {xs : List AV} {args : Array Value} (h : PureOk P n xs (.bool true)) (w : World) (fz : List (Nat × List AV)) (hargs : VRs (mpOf fz) xs args.toList)
 (hfz : ∀ p ∈ fz, ∃ cs ty fr, w.heap[p.1]? = some (.cells cs ty fr) ∧ p.2.length ≤ cs.size ∧ VRs (mpOf fz) p.2 (cs.toList.take p.2.length)) :
 Calls P n args w fun e W' => e = .returned (.bool true) ∧ RowKit.Below w.heap.size w W' := by
 refine Calls.mono (h.1 (mpOf fz) w args (fun _ _ => rfl) hargs ?_) ?_
 ·refine ⟨?_, ?_, ?_, fun _ _ => rfl, ?_, ?_, ?_, ⟨fz.length, fun i hi => List.getElem?_eq_none hi⟩, Nat.le_refl _, by show 0 ≤ roots; unfold roots; omega⟩
  ·intro r b v B N hb hm; cases hm
  ·intro r v B N hm; cases hm
  ·intro r v B N r' v' N' hm; cases hm
  ·intro r v B N hm; cases hm
  ·intro i B cells hi
   exact hfz (B, cells) (List.mem_of_getElem? hi)
  ·intro i B cells r v N b _ hm; cases hm
 ·rintro e w' ⟨m', c, rfl, q1, q2, q3⟩
  simp only [VR] at q3
  exact ⟨by rw [q3], q2.below (Nat.le_refl _)⟩
theorem VRs_all {m : Mp} : ∀ {xs : List AV} {cs : List Value}, xs.length = cs.length → (∀ (i : Nat) x c, xs[i]? = some x → cs[i]? = some c → VR m x c) → VRs m xs cs
 | [], [], _, _ => by simp only [VRs]
 | [], _ :: _, h, _ => by cases h
 | _ :: _, [], h, _ => by cases h
 | x :: xs, c :: cs, h, k => by
  simp only [VRs]
  exact ⟨c, cs, rfl, k 0 x c rfl rfl, VRs_all (by simpa using h) (fun i x' c' hx hc => k (i + 1) x' c' (by simpa using hx) (by simpa using hc))⟩
def IsRow (k : IntKind) (w : World) (a : Option Addr) (len cap : Nat) (zs : List Int) : Prop :=
 (a = none ∧ len = 0 ∧ cap = 0 ∧ zs = []) ∨
 ∃ x, a = some x ∧ len ≤ cap ∧ zs.length = len ∧ (∀ i, i < zs.length → w.cell? (x.add i) = some (.int k (zs.getD i 0))) ∧ ∀ n ∈ zs, (Lit.int k n).wf = true
theorem cell_add {w : World} {x : Addr} {i : Nat} {v : Value} (h : w.cell? (x.add i) = some v) : ∃ cs ty fr, w.heap[x.block]? = some (.cells cs ty fr) ∧ cs[x.off + i]? = some v ∧ (i = 0 → x.spot = none) := by
 have hb : (x.add i).block = x.block := by unfold Addr.add; split <;> rfl
 have ho : (x.add i).off = x.off + i := by unfold Addr.add; split <;> simp_all
 have hs : i = 0 → (x.add i).spot = x.spot := by intro e; subst e; rfl
 unfold World.cell? at h
 rw [hb, ho] at h
 cases hw : w.heap[x.block]? with
 | none => rw [hw] at h; cases h
 | some o =>
  rw [hw] at h
  cases o with
  | cells cs ty fr =>
   simp only [] at h
   cases hsp : (x.add i).spot with
   | none => rw [hsp] at h; exact ⟨cs, ty, fr, rfl, by simpa using h, fun e => by rw [← hs e, hsp]⟩
   | some q => rw [hsp] at h; simp at h
  | _ => simp at h
def frozOf (k : IntKind) (a : Option Addr) (zs : List Int) : Nat × List AV := match a with
 | none => (0, [])
 | some x => (x.block, List.replicate x.off .top ++ zs.map (AV.int k))
theorem row_froz {k : IntKind} {w : World} {a : Option Addr} {len cap : Nat} {zs : List Int} (h : IsRow k w a len cap zs) (hne : zs ≠ []) (fz : List (Nat × List AV)) :
 ∃ cs ty fr, w.heap[(frozOf k a zs).1]? = some (.cells cs ty fr) ∧ (frozOf k a zs).2.length ≤ cs.size ∧ VRs (mpOf fz) (frozOf k a zs).2 (cs.toList.take (frozOf k a zs).2.length) := by
 rcases h with ⟨_, _, _, rfl⟩ | ⟨x, rfl, hl, hz, hc, hw⟩
 ·exact absurd rfl hne
 ·have hpos : 0 < zs.length := List.length_pos_iff.2 hne
  obtain ⟨cs, ty, fr, hb, h0, -⟩ := cell_add (hc (zs.length - 1) (by omega))
  have hsz : x.off + (zs.length - 1) < cs.size := by
   rcases Nat.lt_or_ge (x.off + (zs.length - 1)) cs.size with h | h
   ·exact h
   ·rw [Array.getElem?_eq_none h] at h0; cases h0
  refine ⟨cs, ty, fr, hb, by simp only [frozOf, List.length_append, List.length_replicate, List.length_map]; omega, ?_⟩
  refine VRs_all (by simp only [frozOf, List.length_append, List.length_replicate, List.length_map, List.length_take, Array.length_toList]; omega) ?_
  intro i v c hv hcv
  simp only [frozOf] at hv hcv
  by_cases hi : i < x.off
  ·rw [List.getElem?_append_left (by simpa using hi)] at hv
   rw [List.getElem?_replicate, if_pos hi] at hv
   cases hv
   simp only [VR]
  ·rw [List.getElem?_append_right (by simpa using Nat.le_of_not_lt hi), List.length_replicate, List.getElem?_map] at hv
   cases hz' : zs[i - x.off]? with
   | none => rw [hz'] at hv; cases hv
   | some n =>
    rw [hz'] at hv
    cases hv
    have hlt : i - x.off < zs.length := (List.getElem?_eq_some_iff.1 hz').1
    obtain ⟨cs', ty', fr', hb', h1, -⟩ := cell_add (hc (i - x.off) hlt)
    rw [hb] at hb'
    cases hb'
    rw [show x.off + (i - x.off) = i from by omega] at h1
    rw [List.getElem?_take_of_lt (by simp only [List.length_append, List.length_replicate, List.length_map]; omega), Array.getElem?_toList, h1] at hcv
    cases hcv
    simp only [VR]
    rw [List.getD_eq_getElem?_getD, hz']
    rfl
theorem row_VR {k : IntKind} {w : World} {a : Option Addr} {len cap : Nat} {zs : List Int} (h : IsRow k w a len cap zs) (fz : List (Nat × List AV)) (id : Nat) (hid : zs ≠ [] → fz[id]? = some (frozOf k a zs)) : VR (mpOf fz) (.vec zs.length 1 (zs.map (AV.int k))) (.slice a len cap) := by
 simp only [VR]
 refine ⟨by simp, a, cap, ?_, ?_, ?_, ?_⟩
 ·rcases h with ⟨_, rfl, _, rfl⟩ | ⟨x, _, _, hz, _, _⟩
  ·rfl
  ·rw [hz]
 ·rcases h with ⟨_, rfl, rfl, rfl⟩ | ⟨x, _, hl, hz, _, _⟩
  ·exact Nat.le_refl _
  ·omega
 ·intro ha
  rcases h with ⟨_, rfl, rfl, rfl⟩ | ⟨x, hx, _, _, _, _⟩
  ·exact ⟨rfl, rfl⟩
  ·rw [hx] at ha; cases ha
 ·intro hpos
  have hne : zs ≠ [] := List.length_pos_iff.1 hpos
  have hf := hid hne
  rcases h with ⟨_, _, _, rfl⟩ | ⟨x, rfl, hl, hz, hc, hw⟩
  ·exact absurd rfl hne
  ·obtain ⟨cs, ty, fr, hb, h0, hsp⟩ := cell_add (hc 0 hpos)
   have hspot := hsp rfl
   refine ⟨id, x.block, x.off, _, hf, ?_, ?_, ?_⟩
   ·cases x; simp only at hspot; rw [hspot]
   ·simp only [Nat.mul_one]
    rw [List.drop_append_of_le_length (by simp), List.drop_of_length_le (by simp), List.nil_append]
    exact List.take_of_length_le (by simp)
   ·simp
def fzOf (k : IntKind) (a : Option Addr) (zs : List Int) : List (Nat × List AV) := if zs = [] then [] else [frozOf k a zs]
theorem fzOf_mem {k : IntKind} {a : Option Addr} {zs : List Int} {p : Nat × List AV} (h : p ∈ fzOf k a zs) : zs ≠ [] ∧ p = frozOf k a zs := by
 unfold fzOf at h
 split at h
 ·cases h
 ·exact ⟨by assumption, List.mem_singleton.1 h⟩
theorem fzOf_get {k : IntKind} {a : Option Addr} {zs : List Int} (A B : List (Nat × List AV)) (h : zs ≠ []) : (A ++ (fzOf k a zs ++ B))[A.length]? = some (frozOf k a zs) := by
 unfold fzOf
 rw [if_neg h]
 simp
theorem flat1 (f : Int → AV) : ∀ l : List Int, l.flatMap (fun x => [f x]) = l.map f
 | [] => rfl
 | x :: l => by rw [List.flatMap_cons, flat1 f l]; rfl
theorem row_len {k : IntKind} {w : World} {a : Option Addr} {len cap : Nat} {zs : List Int} (h : IsRow k w a len cap zs) : zs.length = len := by
 rcases h with ⟨_, rfl, _, rfl⟩ | ⟨x, _, _, hz, _, _⟩
 ·rfl
 ·exact hz
theorem row_wf {k : IntKind} {w : World} {a : Option Addr} {len cap : Nat} {zs : List Int} (h : IsRow k w a len cap zs) : ∀ n ∈ zs, (Lit.int k n).wf = true := by
 rcases h with ⟨_, _, _, rfl⟩ | ⟨x, _, _, _, _, hw⟩
 ·intro n hn; cases hn
 ·exact hw
section
variable {H : Type} {enc : TypeId × Value → H} {P : Program} {w : World} {base : Nat} {held : Bool}
theorem row_open {t e : TypeId} {k : IntKind} {a : Option Addr} {len cap : Nat} {d : DataW H} {ps : List MemPlace} (ht : P.underlying t = some (.slice e)) (he : P.underlying e = some (.int k)) (hc : P.cellsOf e = 1)
 (h : DataW.Trod enc P w base (fun _ => true) held t (.slice a len cap) d ps) : ∃ zs, IsRow k w a len cap zs := by
 obtain ⟨fuel, hf⟩ := h
 rcases open_ints ht he hc hf with ⟨hcs, _⟩ | ⟨x, l, c, zs, hcs, _, hl, hm, hz, _, hcell, hwz⟩
 ·simp [Value.cells] at hcs
  obtain ⟨rfl, rfl, rfl⟩ := hcs
  exact ⟨[], .inl ⟨rfl, rfl, rfl, rfl⟩⟩
 ·simp [Value.cells] at hcs
  obtain ⟨rfl, rfl, rfl⟩ := hcs
  have hz' : zs.length = cap := by simpa using hz
  refine ⟨zs.take len, .inr ⟨_, rfl, hl, by rw [List.length_take]; omega, ?_, fun n hn => hwz n (List.mem_of_mem_take hn)⟩⟩
  intro i hi
  rw [List.length_take] at hi
  rw [hcell i (by omega), List.getD_eq_getElem?_getD, List.getD_eq_getElem?_getD, List.getElem?_take_of_lt (by omega)]
theorem row_sized {t e : TypeId} {k : IntKind} {a : Option Addr} {len cap : Nat} {d : DataW H} {ps : List MemPlace} {ts : List TypeId} {ds : List (DataW H)} {j : Nat}
 (hsz : (DataW.weightsEach P ts ds).all (· ≤ reachBytes) = true) (ht : ts[j]? = some t) (hd : ds[j]? = some d) (hu : P.underlying t = some (.slice e)) (he : P.underlying e = some (.int k)) (hc : P.cellsOf e = 1) {B : Nat} (hB : P.bytesOf e = B)
 (h : DataW.Trod enc P w base (fun _ => true) held t (.slice a len cap) d ps) : len * B ≤ 140737488351232 := by
 obtain ⟨fuel, hf⟩ := h
 rcases open_ints hu he hc hf with ⟨hcs, _⟩ | ⟨x, l, c, zs, hcs, _, hl, _, hz, hx, _, _⟩
 ·simp [Value.cells] at hcs
  obtain ⟨rfl, rfl, rfl⟩ := hcs
  omega
 ·simp [Value.cells] at hcs
  obtain ⟨rfl, rfl, rfl⟩ := hcs
  obtain ⟨hx, _⟩ := Prod.mk.inj hx
  subst hx
  have z := sized_slice hsz ht hd hu
  rw [hB] at z
  have hz' : zs.length = cap := by simpa using hz
  have e1 : (lits (H := H) k (zs.take len)).length + (lits (H := H) k (zs.drop len)).length = zs.length := by
   simp only [lits, List.length_map, List.length_take, List.length_drop]; omega
  rw [e1] at z
  exact Nat.le_trans (Nat.mul_le_mul_right _ (by omega)) z
end
end Go.Proofs.Ytabhkocokojddaa.Am
set_option linter.unusedVariables false
set_option linter.unusedSimpArgs false
namespace Go.Proofs.Ytabhkocokojddaa.Am
open Go
theorem litEscapes_walk (v0 : Option Addr) (len0 cap0 : Nat) (z0 : List Int) (v1 : Option Addr) (len1 cap1 : Nat) (z1 : List Int) (W : World) (w0 : IsRow .i64 W v0 len0 cap0 z0) (y0 : len0 * 8 ≤ 140737488351232) (w1 : IsRow .i64 W v1 len1 cap1 z1) (y1 : len1 * 8 ≤ 140737488351232) : Calls Try.prog 12 #[.slice v0 len0 cap0, .slice v1 len1 cap1] W fun e W' => e = .returned (.bool true) ∧ RowKit.Below W.heap.size W W' := by
 obtain ⟨k, h⟩ := litEscapes_true z0 z1 (by intro n hn; have := row_wf w0 n hn; simpa [Lit.wf, IntKind.min, IntKind.max, IntKind.signed, IntKind.bits] using this) (by rw [row_len w0]; omega) (by intro n hn; have := row_wf w1 n hn; simpa [Lit.wf, IntKind.min, IntKind.max, IntKind.signed, IntKind.bits] using this) (by rw [row_len w1]; omega)
 refine law_walk_fz (g12_ok k z0 z1 true h) W (fzOf .i64 v0 z0 ++ (fzOf .i64 v1 z1 ++ [])) (by simp only [VRs]; exact ⟨_, _, rfl, (by have e := row_VR w0 (fzOf .i64 v0 z0 ++ (fzOf .i64 v1 z1 ++ [])) (([] : List (Nat × List AV))).length (fun h => fzOf_get ([] : List (Nat × List AV)) _ h); rw [← flat1 (AV.int .i64)] at e; exact e), ⟨_, _, rfl, (by have e := row_VR w1 (fzOf .i64 v0 z0 ++ (fzOf .i64 v1 z1 ++ [])) ((fzOf .i64 v0 z0)).length (fun h => fzOf_get (fzOf .i64 v0 z0) _ h); rw [← flat1 (AV.int .i64)] at e; exact e), rfl⟩⟩) ?_
 intro p hp
 rcases List.mem_append.1 hp with hp | hp
 ·obtain ⟨hne, rfl⟩ := fzOf_mem hp
  exact row_froz w0 hne _
 rcases List.mem_append.1 hp with hp | hp
 ·obtain ⟨hne, rfl⟩ := fzOf_mem hp
  exact row_froz w1 hne _
 ·cases hp
end Go.Proofs.Ytabhkocokojddaa.Am
namespace Go.Proofs.Ytabhkocokojddaa.litEscapes
open Go.ChangeShapes Go.WideShapes Go.ChangeAt Go.RowKit
open Go.ChangeMaps (open_string shut_string)
set_option linter.unusedVariables false
theorem laidOut : laidOutB Try.prog = true := by kernel_rfl
theorem own : ownKnob Try.prog.godebug = none := by kernel_rfl
set_option maxRecDepth 100000 in
theorem lifted (os : Os) (started : os.Started) (H : Type) (enc : TypeId × Value → H) :
 ReturnsInHanded {} Try.checked os 12 .any (Rows.litEscapesSpec.pre6 enc Try.prog Try.f12 Rows.litEscapesRow.domain false) (Rows.litEscapesSpec.post enc Try.prog Try.f12 false true false false) := by
 refine returnsInHanded_of_change_sized (C := Try.checked) own started (by kernel_rfl) Try.func12
  (ChangeSpec.witness6 (enc := enc) (C := Try.checked) false ⟨#[], #[.slice none 0 0, .slice none 0 0], []⟩ 8 (by kernel_rfl) (by kernel_rfl) (by kernel_rfl) (by kernel_rfl)) ?_
 intro W base args ds gs before hval0 hW hcnd hsz0 _
 have hsz : (DataW.weightsEach Try.prog (Try.f12.params.toList ++ Rows.litEscapesSpec.plain.varTypes Try.prog) (ds ++ gs)).all (· ≤ reachBytes) = true := hsz0
 have hval : ∀ (j : Nat) t v, Try.f12.params[j]? = some t → args[j]? = some v → Value.okWide Try.prog W .any base t v := hval0
 have hW' := hW
 obtain ⟨p, q, hA0, hV, rfl, hfz, hnd⟩ := hW
 have hA : DataW.TrodAll enc Try.prog W 0 (fun _ => true) true Try.f12.params.toList args.toList ds p := hA0
 rw [Try.params12] at hA hval hsz
 obtain ⟨v0, vs0, d0, ds0, p0, q0, hargs, rfl, rfl, h0, r0⟩ := trodAll_cons hA
 obtain ⟨v1, vs1, d1, ds1, p1, q1, rfl, rfl, rfl, h1, r1⟩ := trodAll_cons r0
 obtain ⟨rfl, rfl, rfl⟩ := trodAll_nil r1
 obtain rfl : args = #[v0, v1] := by cases args; simp_all
 obtain ⟨rfl, rfl⟩ := trodVars_none hV
 obtain ⟨v0a, len0, cap0, rfl⟩ := okWide_slice Try.underlying29 (hval 0 29 v0 rfl rfl)
 have k0 := h0
 have lt0 : ∀ x ∈ p0, x.block < W.heap.size := by obtain ⟨m, hm⟩ := k0; exact DataW.trod_lt m _ _ _ hm
 obtain ⟨z0, w0⟩ := Am.row_open Try.underlying29 Try.underlying3 (by kernel_rfl) h0
 have y0 : len0 * 8 ≤ 140737488351232 := Am.row_sized hsz (j := 0) (t := 29) rfl rfl Try.underlying29 Try.underlying3 (by kernel_rfl) (by kernel_rfl) h0
 obtain ⟨v1a, len1, cap1, rfl⟩ := okWide_slice Try.underlying29 (hval 1 29 v1 rfl rfl)
 have k1 := h1
 have lt1 : ∀ x ∈ p1, x.block < W.heap.size := by obtain ⟨m, hm⟩ := k1; exact DataW.trod_lt m _ _ _ hm
 obtain ⟨z1, w1⟩ := Am.row_open Try.underlying29 Try.underlying3 (by kernel_rfl) h1
 have y1 : len1 * 8 ≤ 140737488351232 := Am.row_sized hsz (j := 1) (t := 29) rfl rfl Try.underlying29 Try.underlying3 (by kernel_rfl) (by kernel_rfl) h1
 clear hA0 hval0 hsz0 hsz
 refine (Am.litEscapes_walk v0a len0 cap0 z0 v1a len1 cap1 z1 W w0 y0 w1 y1).mono fun e W' ⟨he, bel⟩ => ?_
 subst he
 exact ⟨_, rfl, _, _, _, [], _, [], hW', trodAll_mk1 (shut_bool Try.underlying4 _), (trodAll_cons_mk (Below.trod laidOut (by kernel_rfl) (of_decide_eq_true (by kernel_rfl)) k0 bel lt0) (trodAll_cons_mk (Below.trod laidOut (by kernel_rfl) (of_decide_eq_true (by kernel_rfl)) k1 bel lt1) trodAll_mk0)), rfl, bel.frame _, fun h => by cases h⟩
theorem over : Rows.litEscapesRow.holds Try.pinned (OpenSpec.ofChange Rows.litEscapesSpec) :=
 OpenClaim.holds_of_wide 12 Try.f12 rfl rfl rfl rfl rfl rfl rfl ⟨rfl, rfl, rfl, rfl, rfl⟩ rfl rfl rfl rfl rfl (by kernel_rfl) Try.func12 (by kernel_rfl)
  (of_decide_eq_true (by kernel_rfl)) (by unfold Func.isWrapper; first | (rw [if_pos (by decide +kernel)]; kernel_rfl) | (rw [if_neg (by decide +kernel)]; exact ⟨rfl, rfl⟩))
  (fun os started H enc _ => lifted os started H enc)
theorem proved : Rows.LitEscapesSaid := over
#print axioms proved
end Go.Proofs.Ytabhkocokojddaa.litEscapes
namespace Go.Proofs.Ytabhkocokojddaa
theorem litEscapes_holds : Rows.LitEscapesSaid := litEscapes.proved
end Go.Proofs.Ytabhkocokojddaa
