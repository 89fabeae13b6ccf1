/- The types of this seat's program as plain Lean types, and how their values are told. Printed by gen.py. -/
import Derived.Test.YtokcjgjgojlhbaaBmTab
set_option linter.unusedVariables false
namespace Go.Proofs.Ytokcjgjgojlhbaa.Am
open Go

/-- A slice that nobody looks into. -/
structure Raw where
  n : Nat
  cells : List AV
structure S7 where
  f0 : Int
  f1 : Int
  f2 : Bool
  f3 : Int
structure S13 where
  f0 : (List Nat)
  f1 : Int
structure S28 where
  f0 : Int
  f1 : (List Nat)
  f2 : Int
def e2 (x : Int) : List AV := [.int .i64 x]
def v2 (x : Int) : AV := .int .i64 x
theorem e2_len : ∀ x, (e2 x).length = 1 := fun _ => rfl
theorem e2_pur : ∀ x, purs (e2 x) = true := fun _ => rfl
theorem e2_one : ∀ x, (e2 x).all one1 = true := fun _ => rfl
def e3 (x : Int) : List AV := [.int .i64 x]
def v3 (x : Int) : AV := .int .i64 x
theorem e3_len : ∀ x, (e3 x).length = 1 := fun _ => rfl
theorem e3_pur : ∀ x, purs (e3 x) = true := fun _ => rfl
theorem e3_one : ∀ x, (e3 x).all one1 = true := fun _ => rfl
def e4 (x : Bool) : List AV := [.bool x]
def v4 (x : Bool) : AV := .bool x
theorem e4_len : ∀ x, (e4 x).length = 1 := fun _ => rfl
theorem e4_pur : ∀ x, purs (e4 x) = true := fun _ => rfl
theorem e4_one : ∀ x, (e4 x).all one1 = true := fun _ => rfl
def e5 (x : Int) : List AV := [.int .u8 x]
def v5 (x : Int) : AV := .int .u8 x
theorem e5_len : ∀ x, (e5 x).length = 1 := fun _ => rfl
theorem e5_pur : ∀ x, purs (e5 x) = true := fun _ => rfl
theorem e5_one : ∀ x, (e5 x).all one1 = true := fun _ => rfl
def e6 (x : Int) : List AV := [.int .u8 x]
def v6 (x : Int) : AV := .int .u8 x
theorem e6_len : ∀ x, (e6 x).length = 1 := fun _ => rfl
theorem e6_pur : ∀ x, purs (e6 x) = true := fun _ => rfl
theorem e6_one : ∀ x, (e6 x).all one1 = true := fun _ => rfl
def e7 (x : S7) : List AV := [.int .i64 x.f0, .int .i64 x.f1, .bool x.f2, .int .u8 x.f3]
def v7 (x : S7) : AV := .agg [.int .i64 x.f0, .int .i64 x.f1, .bool x.f2, .int .u8 x.f3]
theorem e7_len : ∀ x, (e7 x).length = 4 := fun _ => rfl
theorem e7_pur : ∀ x, purs (e7 x) = true := fun _ => rfl
theorem e7_one : ∀ x, (e7 x).all one1 = true := fun _ => rfl
def e8 (x : S7) : List AV := [.int .i64 x.f0, .int .i64 x.f1, .bool x.f2, .int .u8 x.f3]
def v8 (x : S7) : AV := .agg [.int .i64 x.f0, .int .i64 x.f1, .bool x.f2, .int .u8 x.f3]
theorem e8_len : ∀ x, (e8 x).length = 4 := fun _ => rfl
theorem e8_pur : ∀ x, purs (e8 x) = true := fun _ => rfl
theorem e8_one : ∀ x, (e8 x).all one1 = true := fun _ => rfl
def e9 (x : (List Nat)) : List AV := [.str x]
def v9 (x : (List Nat)) : AV := .str x
theorem e9_len : ∀ x, (e9 x).length = 1 := fun _ => rfl
theorem e9_pur : ∀ x, purs (e9 x) = true := fun _ => rfl
theorem e9_one : ∀ x, (e9 x).all one1 = true := fun _ => rfl
def e10 (x : (List Nat)) : List AV := [.str x]
def v10 (x : (List Nat)) : AV := .str x
theorem e10_len : ∀ x, (e10 x).length = 1 := fun _ => rfl
theorem e10_pur : ∀ x, purs (e10 x) = true := fun _ => rfl
theorem e10_one : ∀ x, (e10 x).all one1 = true := fun _ => rfl
def e11 (x : (List Nat)) : List AV := [.str x]
def v11 (x : (List Nat)) : AV := .str x
theorem e11_len : ∀ x, (e11 x).length = 1 := fun _ => rfl
theorem e11_pur : ∀ x, purs (e11 x) = true := fun _ => rfl
theorem e11_one : ∀ x, (e11 x).all one1 = true := fun _ => rfl
def e12 (x : Int) : List AV := [.int .u64 x]
def v12 (x : Int) : AV := .int .u64 x
theorem e12_len : ∀ x, (e12 x).length = 1 := fun _ => rfl
theorem e12_pur : ∀ x, purs (e12 x) = true := fun _ => rfl
theorem e12_one : ∀ x, (e12 x).all one1 = true := fun _ => rfl
def e13 (x : S13) : List AV := [.str x.f0, .int .u64 x.f1]
def v13 (x : S13) : AV := .agg [.str x.f0, .int .u64 x.f1]
theorem e13_len : ∀ x, (e13 x).length = 2 := fun _ => rfl
theorem e13_pur : ∀ x, purs (e13 x) = true := fun _ => rfl
theorem e13_one : ∀ x, (e13 x).all one1 = true := fun _ => rfl
def e14 (x : S13) : List AV := [.str x.f0, .int .u64 x.f1]
def v14 (x : S13) : AV := .agg [.str x.f0, .int .u64 x.f1]
theorem e14_len : ∀ x, (e14 x).length = 2 := fun _ => rfl
theorem e14_pur : ∀ x, purs (e14 x) = true := fun _ => rfl
theorem e14_one : ∀ x, (e14 x).all one1 = true := fun _ => rfl
def e21 (x : Int) : List AV := [.int .i32 x]
def v21 (x : Int) : AV := .int .i32 x
theorem e21_len : ∀ x, (e21 x).length = 1 := fun _ => rfl
theorem e21_pur : ∀ x, purs (e21 x) = true := fun _ => rfl
theorem e21_one : ∀ x, (e21 x).all one1 = true := fun _ => rfl
def e29 (x : S28) : List AV := [.int .i64 x.f0, .str x.f1, .int .i64 x.f2]
def v29 (x : S28) : AV := .agg [.int .i64 x.f0, .str x.f1, .int .i64 x.f2]
theorem e29_len : ∀ x, (e29 x).length = 3 := fun _ => rfl
theorem e29_pur : ∀ x, purs (e29 x) = true := fun _ => rfl
theorem e29_one : ∀ x, (e29 x).all one1 = true := fun _ => rfl
def e23 (x : (List S28)) : List AV := [.vec (x).length 3 ((x).flatMap e29)]
def v23 (x : (List S28)) : AV := .vec (x).length 3 ((x).flatMap e29)
theorem e23_len : ∀ x, (e23 x).length = 1 := fun _ => rfl
theorem e23_pur : ∀ x, purs (e23 x) = true := fun _ => rfl
theorem e23_one : ∀ x, (e23 x).all one1 = true := fun _ => rfl
def e27 (x : Int) : List AV := [.int .u64 x]
def v27 (x : Int) : AV := .int .u64 x
theorem e27_len : ∀ x, (e27 x).length = 1 := fun _ => rfl
theorem e27_pur : ∀ x, purs (e27 x) = true := fun _ => rfl
theorem e27_one : ∀ x, (e27 x).all one1 = true := fun _ => rfl
def e28 (x : S28) : List AV := [.int .i64 x.f0, .str x.f1, .int .i64 x.f2]
def v28 (x : S28) : AV := .agg [.int .i64 x.f0, .str x.f1, .int .i64 x.f2]
theorem e28_len : ∀ x, (e28 x).length = 3 := fun _ => rfl
theorem e28_pur : ∀ x, purs (e28 x) = true := fun _ => rfl
theorem e28_one : ∀ x, (e28 x).all one1 = true := fun _ => rfl
def e35 (x : (List (List Nat))) : List AV := [.vec (x).length 1 ((x).flatMap e9)]
def v35 (x : (List (List Nat))) : AV := .vec (x).length 1 ((x).flatMap e9)
theorem e35_len : ∀ x, (e35 x).length = 1 := fun _ => rfl
theorem e35_pur : ∀ x, purs (e35 x) = true := fun _ => rfl
theorem e35_one : ∀ x, (e35 x).all one1 = true := fun _ => rfl
def e36 (x : (List Int)) : List AV := [.vec (x).length 1 ((x).flatMap e3)]
def v36 (x : (List Int)) : AV := .vec (x).length 1 ((x).flatMap e3)
theorem e36_len : ∀ x, (e36 x).length = 1 := fun _ => rfl
theorem e36_pur : ∀ x, purs (e36 x) = true := fun _ => rfl
theorem e36_one : ∀ x, (e36 x).all one1 = true := fun _ => rfl
def e52 (x : (List Int)) : List AV := x.map v5
def v52 (x : (List Int)) : AV := .agg (e52 x)
def e53 (x : (List Int)) : List AV := [.vec (x).length 1 ((x).flatMap e5)]
def v53 (x : (List Int)) : AV := .vec (x).length 1 ((x).flatMap e5)
theorem e53_len : ∀ x, (e53 x).length = 1 := fun _ => rfl
theorem e53_pur : ∀ x, purs (e53 x) = true := fun _ => rfl
theorem e53_one : ∀ x, (e53 x).all one1 = true := fun _ => rfl
def e54 (x : (List Int)) : List AV := x.map v5
def v54 (x : (List Int)) : AV := .agg (e54 x)
def e57 (x : (List Int)) : List AV := x.map v3
def v57 (x : (List Int)) : AV := .agg (e57 x)
def e58 (x : (List Int)) : List AV := x.map v3
def v58 (x : (List Int)) : AV := .agg (e58 x)
def e68 (x : Int) : List AV := [.int .u32 x]
def v68 (x : Int) : AV := .int .u32 x
theorem e68_len : ∀ x, (e68 x).length = 1 := fun _ => rfl
theorem e68_pur : ∀ x, purs (e68 x) = true := fun _ => rfl
theorem e68_one : ∀ x, (e68 x).all one1 = true := fun _ => rfl
def e69 (x : Int) : List AV := [.int .u8 x]
def v69 (x : Int) : AV := .int .u8 x
theorem e69_len : ∀ x, (e69 x).length = 1 := fun _ => rfl
theorem e69_pur : ∀ x, purs (e69 x) = true := fun _ => rfl
theorem e69_one : ∀ x, (e69 x).all one1 = true := fun _ => rfl
def e70 (x : Int) : List AV := [.int .u8 x]
def v70 (x : Int) : AV := .int .u8 x
theorem e70_len : ∀ x, (e70 x).length = 1 := fun _ => rfl
theorem e70_pur : ∀ x, purs (e70 x) = true := fun _ => rfl
theorem e70_one : ∀ x, (e70 x).all one1 = true := fun _ => rfl
def e73 (x : Int) : List AV := [.int .i32 x]
def v73 (x : Int) : AV := .int .i32 x
theorem e73_len : ∀ x, (e73 x).length = 1 := fun _ => rfl
theorem e73_pur : ∀ x, purs (e73 x) = true := fun _ => rfl
theorem e73_one : ∀ x, (e73 x).all one1 = true := fun _ => rfl
def e74 (x : Int) : List AV := [.int .i32 x]
def v74 (x : Int) : AV := .int .i32 x
theorem e74_len : ∀ x, (e74 x).length = 1 := fun _ => rfl
theorem e74_pur : ∀ x, purs (e74 x) = true := fun _ => rfl
theorem e74_one : ∀ x, (e74 x).all one1 = true := fun _ => rfl
end Go.Proofs.Ytokcjgjgojlhbaa.Am
