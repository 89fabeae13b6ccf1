/- The types of this seat's program as plain Lean types, and how their values are told. Printed by gen.py. -/
import Derived.Test.YtbmijiibfaacmaaBmTab
set_option linter.unusedVariables false
namespace Go.Proofs.Ytbmijiibfaacmaa.Am
open Go

/-- A slice that nobody looks into. -/
structure Raw where
  n : Nat
  cells : List AV
structure S7 where
  f0 : Int
  f1 : Int
  f2 : Bool
  f3 : Int
structure S13 where
  f0 : (List Nat)
  f1 : Int
structure S24 where
  f0 : Int
  f1 : (List Nat)
  f2 : Raw
  f3 : Bool
  f4 : Bool
  f5 : (List (List Nat))
  f6 : (List (List Nat))
structure S36 where
  f0 : Int
  f1 : Int
  f2 : Bool
  f3 : Bool
structure S46 where
  f0 : Int
  f1 : (List Nat)
  f2 : Int
def e2 (x : Int) : List AV := [.int .i64 x]
def v2 (x : Int) : AV := .int .i64 x
theorem e2_len : ∀ x, (e2 x).length = 1 := fun _ => rfl
theorem e2_pur : ∀ x, purs (e2 x) = true := fun _ => rfl
theorem e2_one : ∀ x, (e2 x).all one1 = true := fun _ => rfl
def e3 (x : Int) : List AV := [.int .i64 x]
def v3 (x : Int) : AV := .int .i64 x
theorem e3_len : ∀ x, (e3 x).length = 1 := fun _ => rfl
theorem e3_pur : ∀ x, purs (e3 x) = true := fun _ => rfl
theorem e3_one : ∀ x, (e3 x).all one1 = true := fun _ => rfl
def e4 (x : Bool) : List AV := [.bool x]
def v4 (x : Bool) : AV := .bool x
theorem e4_len : ∀ x, (e4 x).length = 1 := fun _ => rfl
theorem e4_pur : ∀ x, purs (e4 x) = true := fun _ => rfl
theorem e4_one : ∀ x, (e4 x).all one1 = true := fun _ => rfl
def e5 (x : Int) : List AV := [.int .u8 x]
def v5 (x : Int) : AV := .int .u8 x
theorem e5_len : ∀ x, (e5 x).length = 1 := fun _ => rfl
theorem e5_pur : ∀ x, purs (e5 x) = true := fun _ => rfl
theorem e5_one : ∀ x, (e5 x).all one1 = true := fun _ => rfl
def e6 (x : Int) : List AV := [.int .u8 x]
def v6 (x : Int) : AV := .int .u8 x
theorem e6_len : ∀ x, (e6 x).length = 1 := fun _ => rfl
theorem e6_pur : ∀ x, purs (e6 x) = true := fun _ => rfl
theorem e6_one : ∀ x, (e6 x).all one1 = true := fun _ => rfl
def e7 (x : S7) : List AV := [.int .i64 x.f0, .int .i64 x.f1, .bool x.f2, .int .u8 x.f3]
def v7 (x : S7) : AV := .agg [.int .i64 x.f0, .int .i64 x.f1, .bool x.f2, .int .u8 x.f3]
theorem e7_len : ∀ x, (e7 x).length = 4 := fun _ => rfl
theorem e7_pur : ∀ x, purs (e7 x) = true := fun _ => rfl
theorem e7_one : ∀ x, (e7 x).all one1 = true := fun _ => rfl
def e8 (x : S7) : List AV := [.int .i64 x.f0, .int .i64 x.f1, .bool x.f2, .int .u8 x.f3]
def v8 (x : S7) : AV := .agg [.int .i64 x.f0, .int .i64 x.f1, .bool x.f2, .int .u8 x.f3]
theorem e8_len : ∀ x, (e8 x).length = 4 := fun _ => rfl
theorem e8_pur : ∀ x, purs (e8 x) = true := fun _ => rfl
theorem e8_one : ∀ x, (e8 x).all one1 = true := fun _ => rfl
def e9 (x : (List Nat)) : List AV := [.str x]
def v9 (x : (List Nat)) : AV := .str x
theorem e9_len : ∀ x, (e9 x).length = 1 := fun _ => rfl
theorem e9_pur : ∀ x, purs (e9 x) = true := fun _ => rfl
theorem e9_one : ∀ x, (e9 x).all one1 = true := fun _ => rfl
def e10 (x : (List Nat)) : List AV := [.str x]
def v10 (x : (List Nat)) : AV := .str x
theorem e10_len : ∀ x, (e10 x).length = 1 := fun _ => rfl
theorem e10_pur : ∀ x, purs (e10 x) = true := fun _ => rfl
theorem e10_one : ∀ x, (e10 x).all one1 = true := fun _ => rfl
def e11 (x : (List Nat)) : List AV := [.str x]
def v11 (x : (List Nat)) : AV := .str x
theorem e11_len : ∀ x, (e11 x).length = 1 := fun _ => rfl
theorem e11_pur : ∀ x, purs (e11 x) = true := fun _ => rfl
theorem e11_one : ∀ x, (e11 x).all one1 = true := fun _ => rfl
def e12 (x : Int) : List AV := [.int .u64 x]
def v12 (x : Int) : AV := .int .u64 x
theorem e12_len : ∀ x, (e12 x).length = 1 := fun _ => rfl
theorem e12_pur : ∀ x, purs (e12 x) = true := fun _ => rfl
theorem e12_one : ∀ x, (e12 x).all one1 = true := fun _ => rfl
def e13 (x : S13) : List AV := [.str x.f0, .int .u64 x.f1]
def v13 (x : S13) : AV := .agg [.str x.f0, .int .u64 x.f1]
theorem e13_len : ∀ x, (e13 x).length = 2 := fun _ => rfl
theorem e13_pur : ∀ x, purs (e13 x) = true := fun _ => rfl
theorem e13_one : ∀ x, (e13 x).all one1 = true := fun _ => rfl
def e14 (x : S13) : List AV := [.str x.f0, .int .u64 x.f1]
def v14 (x : S13) : AV := .agg [.str x.f0, .int .u64 x.f1]
theorem e14_len : ∀ x, (e14 x).length = 2 := fun _ => rfl
theorem e14_pur : ∀ x, purs (e14 x) = true := fun _ => rfl
theorem e14_one : ∀ x, (e14 x).all one1 = true := fun _ => rfl
def e21 (x : Int) : List AV := [.int .i32 x]
def v21 (x : Int) : AV := .int .i32 x
theorem e21_len : ∀ x, (e21 x).length = 1 := fun _ => rfl
theorem e21_pur : ∀ x, purs (e21 x) = true := fun _ => rfl
theorem e21_one : ∀ x, (e21 x).all one1 = true := fun _ => rfl
def e23 (x : (List (List Nat))) : List AV := [.vec (x).length 1 ((x).flatMap e9)]
def v23 (x : (List (List Nat))) : AV := .vec (x).length 1 ((x).flatMap e9)
theorem e23_len : ∀ x, (e23 x).length = 1 := fun _ => rfl
theorem e23_pur : ∀ x, purs (e23 x) = true := fun _ => rfl
theorem e23_one : ∀ x, (e23 x).all one1 = true := fun _ => rfl
def e25 (x : S24) : List AV := [.int .i64 x.f0, .str x.f1, .vec (x.f2).n 7 (x.f2).cells, .bool x.f3, .bool x.f4, .vec (x.f5).length 1 ((x.f5).flatMap e9), .vec (x.f6).length 1 ((x.f6).flatMap e9)]
def v25 (x : S24) : AV := .agg [.int .i64 x.f0, .str x.f1, .vec (x.f2).n 7 (x.f2).cells, .bool x.f3, .bool x.f4, .vec (x.f5).length 1 ((x.f5).flatMap e9), .vec (x.f6).length 1 ((x.f6).flatMap e9)]
theorem e25_len : ∀ x, (e25 x).length = 7 := fun _ => rfl
theorem e25_pur : ∀ x, purs (e25 x) = true := fun _ => rfl
theorem e25_one : ∀ x, (e25 x).all one1 = true := fun _ => rfl
def e22 (x : (List S24)) : List AV := [.vec (x).length 7 ((x).flatMap e25)]
def v22 (x : (List S24)) : AV := .vec (x).length 7 ((x).flatMap e25)
theorem e22_len : ∀ x, (e22 x).length = 1 := fun _ => rfl
theorem e22_pur : ∀ x, purs (e22 x) = true := fun _ => rfl
theorem e22_one : ∀ x, (e22 x).all one1 = true := fun _ => rfl
def e24 (x : S24) : List AV := [.int .i64 x.f0, .str x.f1, .vec (x.f2).n 7 (x.f2).cells, .bool x.f3, .bool x.f4, .vec (x.f5).length 1 ((x.f5).flatMap e9), .vec (x.f6).length 1 ((x.f6).flatMap e9)]
def v24 (x : S24) : AV := .agg [.int .i64 x.f0, .str x.f1, .vec (x.f2).n 7 (x.f2).cells, .bool x.f3, .bool x.f4, .vec (x.f5).length 1 ((x.f5).flatMap e9), .vec (x.f6).length 1 ((x.f6).flatMap e9)]
theorem e24_len : ∀ x, (e24 x).length = 7 := fun _ => rfl
theorem e24_pur : ∀ x, purs (e24 x) = true := fun _ => rfl
theorem e24_one : ∀ x, (e24 x).all one1 = true := fun _ => rfl
def e32 (x : Int) : List AV := [.int .u64 x]
def v32 (x : Int) : AV := .int .u64 x
theorem e32_len : ∀ x, (e32 x).length = 1 := fun _ => rfl
theorem e32_pur : ∀ x, purs (e32 x) = true := fun _ => rfl
theorem e32_one : ∀ x, (e32 x).all one1 = true := fun _ => rfl
def e36 (x : S36) : List AV := [.int .i64 x.f0, .int .i64 x.f1, .bool x.f2, .bool x.f3]
def v36 (x : S36) : AV := .agg [.int .i64 x.f0, .int .i64 x.f1, .bool x.f2, .bool x.f3]
theorem e36_len : ∀ x, (e36 x).length = 4 := fun _ => rfl
theorem e36_pur : ∀ x, purs (e36 x) = true := fun _ => rfl
theorem e36_one : ∀ x, (e36 x).all one1 = true := fun _ => rfl
def e37 (x : S36) : List AV := [.int .i64 x.f0, .int .i64 x.f1, .bool x.f2, .bool x.f3]
def v37 (x : S36) : AV := .agg [.int .i64 x.f0, .int .i64 x.f1, .bool x.f2, .bool x.f3]
theorem e37_len : ∀ x, (e37 x).length = 4 := fun _ => rfl
theorem e37_pur : ∀ x, purs (e37 x) = true := fun _ => rfl
theorem e37_one : ∀ x, (e37 x).all one1 = true := fun _ => rfl
def e47 (x : S46) : List AV := [.int .i64 x.f0, .str x.f1, .int .i64 x.f2]
def v47 (x : S46) : AV := .agg [.int .i64 x.f0, .str x.f1, .int .i64 x.f2]
theorem e47_len : ∀ x, (e47 x).length = 3 := fun _ => rfl
theorem e47_pur : ∀ x, purs (e47 x) = true := fun _ => rfl
theorem e47_one : ∀ x, (e47 x).all one1 = true := fun _ => rfl
def e38 (x : (List S46)) : List AV := [.vec (x).length 3 ((x).flatMap e47)]
def v38 (x : (List S46)) : AV := .vec (x).length 3 ((x).flatMap e47)
theorem e38_len : ∀ x, (e38 x).length = 1 := fun _ => rfl
theorem e38_pur : ∀ x, purs (e38 x) = true := fun _ => rfl
theorem e38_one : ∀ x, (e38 x).all one1 = true := fun _ => rfl
def e41 (x : (List S36)) : List AV := [.vec (x).length 4 ((x).flatMap e37)]
def v41 (x : (List S36)) : AV := .vec (x).length 4 ((x).flatMap e37)
theorem e41_len : ∀ x, (e41 x).length = 1 := fun _ => rfl
theorem e41_pur : ∀ x, purs (e41 x) = true := fun _ => rfl
theorem e41_one : ∀ x, (e41 x).all one1 = true := fun _ => rfl
def e46 (x : S46) : List AV := [.int .i64 x.f0, .str x.f1, .int .i64 x.f2]
def v46 (x : S46) : AV := .agg [.int .i64 x.f0, .str x.f1, .int .i64 x.f2]
theorem e46_len : ∀ x, (e46 x).length = 3 := fun _ => rfl
theorem e46_pur : ∀ x, purs (e46 x) = true := fun _ => rfl
theorem e46_one : ∀ x, (e46 x).all one1 = true := fun _ => rfl
def e50 (x : (List Bool)) : List AV := [.vec (x).length 1 ((x).flatMap e4)]
def v50 (x : (List Bool)) : AV := .vec (x).length 1 ((x).flatMap e4)
theorem e50_len : ∀ x, (e50 x).length = 1 := fun _ => rfl
theorem e50_pur : ∀ x, purs (e50 x) = true := fun _ => rfl
theorem e50_one : ∀ x, (e50 x).all one1 = true := fun _ => rfl
def e59 (x : Int) : List AV := [.int .u64 x]
def v59 (x : Int) : AV := .int .u64 x
theorem e59_len : ∀ x, (e59 x).length = 1 := fun _ => rfl
theorem e59_pur : ∀ x, purs (e59 x) = true := fun _ => rfl
theorem e59_one : ∀ x, (e59 x).all one1 = true := fun _ => rfl
def e61 (x : (List (List (List Nat)))) : List AV := [.vec (x).length 1 ((x).flatMap e23)]
def v61 (x : (List (List (List Nat)))) : AV := .vec (x).length 1 ((x).flatMap e23)
theorem e61_len : ∀ x, (e61 x).length = 1 := fun _ => rfl
theorem e61_pur : ∀ x, purs (e61 x) = true := fun _ => rfl
theorem e61_one : ∀ x, (e61 x).all one1 = true := fun _ => rfl
def e62 (x : (List Int)) : List AV := [.vec (x).length 1 ((x).flatMap e3)]
def v62 (x : (List Int)) : AV := .vec (x).length 1 ((x).flatMap e3)
theorem e62_len : ∀ x, (e62 x).length = 1 := fun _ => rfl
theorem e62_pur : ∀ x, purs (e62 x) = true := fun _ => rfl
theorem e62_one : ∀ x, (e62 x).all one1 = true := fun _ => rfl
def e69 (x : (List (List (List Nat)))) : List AV := x.map v23
def v69 (x : (List (List (List Nat)))) : AV := .agg (e69 x)
def e89 (x : Int) : List AV := [.int .u32 x]
def v89 (x : Int) : AV := .int .u32 x
theorem e89_len : ∀ x, (e89 x).length = 1 := fun _ => rfl
theorem e89_pur : ∀ x, purs (e89 x) = true := fun _ => rfl
theorem e89_one : ∀ x, (e89 x).all one1 = true := fun _ => rfl
def e90 (x : Int) : List AV := [.int .u8 x]
def v90 (x : Int) : AV := .int .u8 x
theorem e90_len : ∀ x, (e90 x).length = 1 := fun _ => rfl
theorem e90_pur : ∀ x, purs (e90 x) = true := fun _ => rfl
theorem e90_one : ∀ x, (e90 x).all one1 = true := fun _ => rfl
def e91 (x : Int) : List AV := [.int .u8 x]
def v91 (x : Int) : AV := .int .u8 x
theorem e91_len : ∀ x, (e91 x).length = 1 := fun _ => rfl
theorem e91_pur : ∀ x, purs (e91 x) = true := fun _ => rfl
theorem e91_one : ∀ x, (e91 x).all one1 = true := fun _ => rfl
def e94 (x : Int) : List AV := [.int .i32 x]
def v94 (x : Int) : AV := .int .i32 x
theorem e94_len : ∀ x, (e94 x).length = 1 := fun _ => rfl
theorem e94_pur : ∀ x, purs (e94 x) = true := fun _ => rfl
theorem e94_one : ∀ x, (e94 x).all one1 = true := fun _ => rfl
def e95 (x : Int) : List AV := [.int .i32 x]
def v95 (x : Int) : AV := .int .i32 x
theorem e95_len : ∀ x, (e95 x).length = 1 := fun _ => rfl
theorem e95_pur : ∀ x, purs (e95 x) = true := fun _ => rfl
theorem e95_one : ∀ x, (e95 x).all one1 = true := fun _ => rfl
end Go.Proofs.Ytbmijiibfaacmaa.Am
