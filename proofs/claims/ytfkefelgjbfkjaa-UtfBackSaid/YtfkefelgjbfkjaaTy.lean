/- The types of this seat's program as plain Lean types, and how their values are told. Printed by gen.py. -/
import Derived.Test.YtfkefelgjbfkjaaBmTab
set_option linter.unusedVariables false
namespace Go.Proofs.Ytfkefelgjbfkjaa.Am
open Go

/-- A slice that nobody looks into. -/
structure Raw where
  n : Nat
  cells : List AV
structure S7 where
  f0 : Int
  f1 : Int
  f2 : Bool
  f3 : Int
structure S13 where
  f0 : (List Nat)
  f1 : Int
def e2 (x : Int) : List AV := [.int .i64 x]
def v2 (x : Int) : AV := .int .i64 x
theorem e2_len : ∀ x, (e2 x).length = 1 := fun _ => rfl
theorem e2_pur : ∀ x, purs (e2 x) = true := fun _ => rfl
theorem e2_one : ∀ x, (e2 x).all one1 = true := fun _ => rfl
def e3 (x : Int) : List AV := [.int .i64 x]
def v3 (x : Int) : AV := .int .i64 x
theorem e3_len : ∀ x, (e3 x).length = 1 := fun _ => rfl
theorem e3_pur : ∀ x, purs (e3 x) = true := fun _ => rfl
theorem e3_one : ∀ x, (e3 x).all one1 = true := fun _ => rfl
def e4 (x : Bool) : List AV := [.bool x]
def v4 (x : Bool) : AV := .bool x
theorem e4_len : ∀ x, (e4 x).length = 1 := fun _ => rfl
theorem e4_pur : ∀ x, purs (e4 x) = true := fun _ => rfl
theorem e4_one : ∀ x, (e4 x).all one1 = true := fun _ => rfl
def e5 (x : Int) : List AV := [.int .u8 x]
def v5 (x : Int) : AV := .int .u8 x
theorem e5_len : ∀ x, (e5 x).length = 1 := fun _ => rfl
theorem e5_pur : ∀ x, purs (e5 x) = true := fun _ => rfl
theorem e5_one : ∀ x, (e5 x).all one1 = true := fun _ => rfl
def e6 (x : Int) : List AV := [.int .u8 x]
def v6 (x : Int) : AV := .int .u8 x
theorem e6_len : ∀ x, (e6 x).length = 1 := fun _ => rfl
theorem e6_pur : ∀ x, purs (e6 x) = true := fun _ => rfl
theorem e6_one : ∀ x, (e6 x).all one1 = true := fun _ => rfl
def e7 (x : S7) : List AV := [.int .i64 x.f0, .int .i64 x.f1, .bool x.f2, .int .u8 x.f3]
def v7 (x : S7) : AV := .agg [.int .i64 x.f0, .int .i64 x.f1, .bool x.f2, .int .u8 x.f3]
theorem e7_len : ∀ x, (e7 x).length = 4 := fun _ => rfl
theorem e7_pur : ∀ x, purs (e7 x) = true := fun _ => rfl
theorem e7_one : ∀ x, (e7 x).all one1 = true := fun _ => rfl
def e8 (x : S7) : List AV := [.int .i64 x.f0, .int .i64 x.f1, .bool x.f2, .int .u8 x.f3]
def v8 (x : S7) : AV := .agg [.int .i64 x.f0, .int .i64 x.f1, .bool x.f2, .int .u8 x.f3]
theorem e8_len : ∀ x, (e8 x).length = 4 := fun _ => rfl
theorem e8_pur : ∀ x, purs (e8 x) = true := fun _ => rfl
theorem e8_one : ∀ x, (e8 x).all one1 = true := fun _ => rfl
def e9 (x : (List Nat)) : List AV := [.str x]
def v9 (x : (List Nat)) : AV := .str x
theorem e9_len : ∀ x, (e9 x).length = 1 := fun _ => rfl
theorem e9_pur : ∀ x, purs (e9 x) = true := fun _ => rfl
theorem e9_one : ∀ x, (e9 x).all one1 = true := fun _ => rfl
def e10 (x : (List Nat)) : List AV := [.str x]
def v10 (x : (List Nat)) : AV := .str x
theorem e10_len : ∀ x, (e10 x).length = 1 := fun _ => rfl
theorem e10_pur : ∀ x, purs (e10 x) = true := fun _ => rfl
theorem e10_one : ∀ x, (e10 x).all one1 = true := fun _ => rfl
def e11 (x : (List Nat)) : List AV := [.str x]
def v11 (x : (List Nat)) : AV := .str x
theorem e11_len : ∀ x, (e11 x).length = 1 := fun _ => rfl
theorem e11_pur : ∀ x, purs (e11 x) = true := fun _ => rfl
theorem e11_one : ∀ x, (e11 x).all one1 = true := fun _ => rfl
def e12 (x : Int) : List AV := [.int .u64 x]
def v12 (x : Int) : AV := .int .u64 x
theorem e12_len : ∀ x, (e12 x).length = 1 := fun _ => rfl
theorem e12_pur : ∀ x, purs (e12 x) = true := fun _ => rfl
theorem e12_one : ∀ x, (e12 x).all one1 = true := fun _ => rfl
def e13 (x : S13) : List AV := [.str x.f0, .int .u64 x.f1]
def v13 (x : S13) : AV := .agg [.str x.f0, .int .u64 x.f1]
theorem e13_len : ∀ x, (e13 x).length = 2 := fun _ => rfl
theorem e13_pur : ∀ x, purs (e13 x) = true := fun _ => rfl
theorem e13_one : ∀ x, (e13 x).all one1 = true := fun _ => rfl
def e14 (x : S13) : List AV := [.str x.f0, .int .u64 x.f1]
def v14 (x : S13) : AV := .agg [.str x.f0, .int .u64 x.f1]
theorem e14_len : ∀ x, (e14 x).length = 2 := fun _ => rfl
theorem e14_pur : ∀ x, purs (e14 x) = true := fun _ => rfl
theorem e14_one : ∀ x, (e14 x).all one1 = true := fun _ => rfl
def e21 (x : Int) : List AV := [.int .i32 x]
def v21 (x : Int) : AV := .int .i32 x
theorem e21_len : ∀ x, (e21 x).length = 1 := fun _ => rfl
theorem e21_pur : ∀ x, purs (e21 x) = true := fun _ => rfl
theorem e21_one : ∀ x, (e21 x).all one1 = true := fun _ => rfl
def e29 (x : (List Int)) : List AV := [.vec (x).length 1 ((x).flatMap e3)]
def v29 (x : (List Int)) : AV := .vec (x).length 1 ((x).flatMap e3)
theorem e29_len : ∀ x, (e29 x).length = 1 := fun _ => rfl
theorem e29_pur : ∀ x, purs (e29 x) = true := fun _ => rfl
theorem e29_one : ∀ x, (e29 x).all one1 = true := fun _ => rfl
def e30 (x : Int) : List AV := [.int .u64 x]
def v30 (x : Int) : AV := .int .u64 x
theorem e30_len : ∀ x, (e30 x).length = 1 := fun _ => rfl
theorem e30_pur : ∀ x, purs (e30 x) = true := fun _ => rfl
theorem e30_one : ∀ x, (e30 x).all one1 = true := fun _ => rfl
def e41 (x : (List Int)) : List AV := [.vec (x).length 1 ((x).flatMap e5)]
def v41 (x : (List Int)) : AV := .vec (x).length 1 ((x).flatMap e5)
theorem e41_len : ∀ x, (e41 x).length = 1 := fun _ => rfl
theorem e41_pur : ∀ x, purs (e41 x) = true := fun _ => rfl
theorem e41_one : ∀ x, (e41 x).all one1 = true := fun _ => rfl
def e42 (x : (List Int)) : List AV := x.map v3
def v42 (x : (List Int)) : AV := .agg (e42 x)
def e50 (x : Int) : List AV := [.int .u32 x]
def v50 (x : Int) : AV := .int .u32 x
theorem e50_len : ∀ x, (e50 x).length = 1 := fun _ => rfl
theorem e50_pur : ∀ x, purs (e50 x) = true := fun _ => rfl
theorem e50_one : ∀ x, (e50 x).all one1 = true := fun _ => rfl
def e51 (x : Int) : List AV := [.int .u8 x]
def v51 (x : Int) : AV := .int .u8 x
theorem e51_len : ∀ x, (e51 x).length = 1 := fun _ => rfl
theorem e51_pur : ∀ x, purs (e51 x) = true := fun _ => rfl
theorem e51_one : ∀ x, (e51 x).all one1 = true := fun _ => rfl
def e52 (x : Int) : List AV := [.int .u8 x]
def v52 (x : Int) : AV := .int .u8 x
theorem e52_len : ∀ x, (e52 x).length = 1 := fun _ => rfl
theorem e52_pur : ∀ x, purs (e52 x) = true := fun _ => rfl
theorem e52_one : ∀ x, (e52 x).all one1 = true := fun _ => rfl
def e55 (x : Int) : List AV := [.int .i32 x]
def v55 (x : Int) : AV := .int .i32 x
theorem e55_len : ∀ x, (e55 x).length = 1 := fun _ => rfl
theorem e55_pur : ∀ x, purs (e55 x) = true := fun _ => rfl
theorem e55_one : ∀ x, (e55 x).all one1 = true := fun _ => rfl
def e56 (x : Int) : List AV := [.int .i32 x]
def v56 (x : Int) : AV := .int .i32 x
theorem e56_len : ∀ x, (e56 x).length = 1 := fun _ => rfl
theorem e56_pur : ∀ x, purs (e56 x) = true := fun _ => rfl
theorem e56_one : ∀ x, (e56 x).all one1 = true := fun _ => rfl
end Go.Proofs.Ytfkefelgjbfkjaa.Am
