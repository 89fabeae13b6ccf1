/- The abstract machine's operations: definitions. -/
import Derived.Test.YtnikdnchoahngaaAm3
set_option linter.unusedVariables false
namespace Go.Proofs.Ytnikdnchoahngaa.Am
open Go

inductive Tk where
  | bool | int (k : IntKind) | string | struct | array | slice | pointer | iface | other
  deriving DecidableEq
/-- What is known of a type. -/
structure Ti where
  size : Nat
  bytes : Nat
  zero : Option (List AV)
  kind : Tk
  fields : List (Nat × Nat)
  elem : Nat
  len : Nat
  flat : Option (List Tk)

def ofVal : Value → AV
  | .int k n => .int k n
  | .bool b => .bool b
  | .string s => .str (s.data.toList.map (·.toNat))
  | .pointer none => .nilp
  | .slice none 0 0 => .nils
  | .nilFunc => .nilf
  | .nilIface => .nili
  | _ => .top
theorem ofVal_ok (m : Mp) (v : Value) : VR m (ofVal v) v := by
  unfold ofVal
  split <;> simp [VR]
def Tk.of : TypeDesc → Tk
  | .bool => .bool
  | .int k => .int k
  | .string => .string
  | .struct _ => .struct
  | .array _ _ => .array
  | .slice _ => .slice
  | .pointer _ => .pointer
  | .interface _ => .iface
  | _ => .other
def kindT (P : Program) (t : TypeId) : Tk := match P.underlying t with | some d => Tk.of d | none => .other
/-- Are all parts of one cell: then '==' goes cell by cell; the parts' kinds. -/
def flatOf (P : Program) (t : TypeId) : TypeDesc → Option (List Tk)
  | .struct fs => if !P.stoodInHeld t && !P.eqGuardType P.depth t && (fs.toList.map (·.offset) == List.range' 0 fs.toList.length) && fs.toList.all (fun f => f.name != "_") then some (fs.toList.map fun f => kindT P f.type) else none
  | .array n e => if !P.eqGuardType P.depth t && (P.info? e).isSome && P.cellsOf e == 1 then some (List.replicate n (kindT P e)) else none
  | _ => none
def mkTi (P : Program) (t : TypeId) : Option Ti :=
  match P.info? t, P.underlying t with
  | some i, some d => some {
      size := i.size, bytes := i.bytes, zero := i.zero.map fun z => z.cells.toList.map ofVal, kind := Tk.of d,
      fields := (match d with | .struct fs => fs.toList.map fun f => (f.offset, f.type) | _ => []),
      elem := (match d with | .array _ e => e | .slice e => e | .pointer e => e | _ => 0),
      len := (match d with | .array n _ => n | _ => 0),
      flat := flatOf P t d }
  | _, _ => none
def Tk.isAgg : Tk → Bool
  | .struct | .array => true
  | _ => false

/-- The tables: types, functions, the slots that are kept behind a region; functions that are told by a plain function. -/
structure Cx where
  ti : Nat → Option Ti
  fn : Nat → Option Func
  keep : Nat → List Nat
  known : Nat → List AV → Option AV
  plan : Nat → Nat → List (Nat × Nat × Nat)

def cellsOf : AV → List AV
  | .agg xs => xs
  | v => [v]
def AV.is : AV → Bool
  | .top => false
  | _ => true
def one1 : AV → Bool
  | .top | .agg _ | .tuple _ => false
  | _ => true

noncomputable def alloc1 (H : Hp) (cells : List AV) : Option (AV × Hp) :=
  if H.next < roots then some (.ptr H.next cells.length 0, ⟨H.next + 1, Tr.set depth H.t H.next ⟨cells, 0, false⟩⟩) else none
noncomputable def rd (H : Hp) (r v off n : Nat) : Option (List AV) :=
  match H.t.get r with
  | some b => bif Nat.ble b.minv v && Nat.ble (off + n) v then some ((b.cells.drop off).take n) else none
  | none => none
noncomputable def wr (H : Hp) (r v off : Nat) (vs : List AV) : Option Hp :=
  match H.t.get r with
  | some b => if b.ro = false ∧ v = b.cells.length ∧ b.minv ≤ v ∧ off + vs.length ≤ v ∧ vs.all one1 = true ∧ vs.isEmpty = false then some ⟨H.next, Tr.set depth H.t r ⟨putL b.cells off vs, v, false⟩⟩ else none
  | none => none
/-- A variable's value out of its cells. -/
def mkVal (agg : Bool) (cells : List AV) : Option AV :=
  if agg then some (.agg cells) else match cells with | [x] => some x | _ => none

def lo : IntKind → Int
  | .i8 => -128 | .i16 => -32768 | .i32 => -2147483648 | .i64 => -9223372036854775808 | _ => 0
def hi : IntKind → Int
  | .i8 => 127 | .i16 => 32767 | .i32 => 2147483647 | .i64 => 9223372036854775807 | .u8 => 255 | .u16 => 65535 | .u32 => 4294967295 | .u64 => 18446744073709551615
def fwrap (k : IntKind) (n : Int) : Int := if decide (lo k ≤ n) && decide (n ≤ hi k) then n else k.wrap n
def intBin (op : BinOp) (k : IntKind) (x y : Int) : Option AV :=
  match op with
  | .add => some (.int k (fwrap k (x + y)))
  | .sub => some (.int k (fwrap k (x - y)))
  | .mul => some (.int k (fwrap k (x * y)))
  | .quo => if y = 0 then none else some (.int k (fwrap k (x.tdiv y)))
  | .rem => if y = 0 then none else some (.int k (x.tmod y))
  | .and => some (.int k (fwrap k (BitVec.ofInt k.bits x &&& BitVec.ofInt k.bits y).toNat))
  | .or => some (.int k (fwrap k (BitVec.ofInt k.bits x ||| BitVec.ofInt k.bits y).toNat))
  | .xor => some (.int k (fwrap k (BitVec.ofInt k.bits x ^^^ BitVec.ofInt k.bits y).toNat))
  | .andNot => some (.int k (fwrap k (BitVec.ofInt k.bits x &&& ~~~ BitVec.ofInt k.bits y).toNat))
  | .eql => some (.bool (decide (x = y)))
  | .neq => some (.bool (!decide (x = y)))
  | .lss => some (.bool (decide (x < y)))
  | .leq => some (.bool (decide (x ≤ y)))
  | .gtr => some (.bool (decide (y < x)))
  | .geq => some (.bool (decide (y ≤ x)))
  | _ => none
def eqL : List Nat → List Nat → Bool
  | [], [] => true
  | a :: x, b :: y => Nat.beq a b && eqL x y
  | _, _ => false
def lessL : List Nat → List Nat → Bool
  | _, [] => false
  | [], _ :: _ => true
  | a :: x, b :: y => Nat.blt a b || (Nat.beq a b && lessL x y)
def strBin (op : BinOp) (x y : List Nat) : Option AV :=
  match op with
  | .add => if x.length + y.length < 2 ^ 40 then some (.str (x ++ y)) else none
  | .eql => some (.bool (eqL x y))
  | .neq => some (.bool (!eqL x y))
  | .lss => some (.bool (lessL x y))
  | .leq => some (.bool (lessL x y || eqL x y))
  | .gtr => some (.bool (!(lessL x y || eqL x y)))
  | .geq => some (.bool (!lessL x y))
  | _ => none
def scalEq : Tk → AV → AV → Option Bool
  | .int _, .int k x, .int k' y => if k = k' then some (decide (x = y)) else none
  | .bool, .bool a, .bool b => some (a == b)
  | .string, .str a, .str b => some (eqL a b)
  | _, _, _ => none
def aggEq : List Tk → List AV → List AV → Option Bool
  | [], [], [] => some true
  | k :: ks, x :: xs, y :: ys => match scalEq k x y, aggEq ks xs ys with | some a, some b => some (a && b) | _, _ => none
  | _, _, _ => none
/-- '==' of two values of a type. -/
def eqK (i : Ti) (x y : AV) : Option Bool :=
  match i.kind, x, y with
  | .bool, .bool a, .bool b => some (a == b)
  | .pointer, .ptr .., .nilp => some false
  | .pointer, .nilp, .ptr .. => some false
  | .pointer, .nilp, .nilp => some true
  | .slice, .slice .., .nils => some false
  | .slice, .nils, .nils => some true
  | .iface, .iface .., .nili => some false
  | _, .agg xs, .agg ys => (match i.flat with | some ks => aggEq ks xs ys | none => none)
  | _, _, _ => none
def eqV (C : Cx) (t : Nat) (x y : AV) : Option Bool :=
  match C.ti t with
  | some i => eqK i x y
  | none => none
def binV (C : Cx) (op : BinOp) (t : Nat) (x y : AV) : Option AV :=
  match x, y with
  | .int k a, .int k' b =>
    match op with
    | .shl => if b < 0 then none else some (.int k (fwrap k (a * 2 ^ (min b.toNat k.bits))))
    | .shr => if b < 0 then none else some (.int k (a.fdiv (2 ^ (min b.toNat k.bits))))
    | _ => if k = k' then intBin op k a b else none
  | .str a, .str b => strBin op a b
  | .resid .u64 q r, .int .u64 b => match op with
    | .rem => if b = (q : Int) ∧ 0 < q then some (.int .u64 r) else none
    | _ => none
  | x, y => match op with
    | .eql => (eqV C t x y).map .bool
    | .neq => (eqV C t x y).map fun b => .bool (!b)
    | _ => none
def unV (op : UnOp) (x : AV) : Option AV :=
  match op, x with
  | .neg, .int k n => some (.int k (fwrap k (0 - n)))
  | .xor, .int k n => some (.int k (fwrap k (BitVec.ofInt k.bits (if k.signed then -1 else k.max) ^^^ BitVec.ofInt k.bits n).toNat))
  | .not, .bool b => some (.bool (!b))
  | _, _ => none

def bytesOf : List AV → Option (List Nat)
  | [] => some []
  | .int .u8 n :: r => match bytesOf r with | some l => if 0 ≤ n ∧ n ≤ 255 then some (n.toNat :: l) else none | none => none
  | _ :: _ => none
def utf (c : Int) : List Nat := (Utf8.encode c).data.toList.map (·.toNat)
noncomputable def convV (C : Cx) (H : Hp) (src dst : Nat) (x : AV) : Option (AV × Hp) :=
  match C.ti src, C.ti dst with
  | some a, some b =>
    match b.kind, x with
    | .int k, .int _ n => some (.int k (fwrap k n), H)
    | .int .u64, .resid .i64 q r => some (.resid .u64 q r, H)
    | .string, .int _ n => some (.str (utf n), H)
    | .string, .str s => some (.str s, H)
    | .string, .nils => match a.kind, C.ti a.elem with
      | .slice, some e => match e.kind with | .int .u8 => some (.str [], H) | _ => none
      | _, _ => none
    | .string, .slice r v off len sz => match a.kind, C.ti a.elem with
      | .slice, some e => match e.kind with
        | .int .u8 => if sz = 1 then match rd H r v off len with
            | some cs => match bytesOf cs with | some l => some (.str l, H) | none => none
            | none => none else none
        | _ => none
      | _, _ => none
    | _, _ => none
  | _, _ => none

/-- Parts put into a row of cells. -/
def fillL (place : Nat → Option (Nat × Nat)) (cells : List AV) : List (Nat × AV) → Option (List AV)
  | [] => some cells
  | (i, v) :: rest =>
    match place i with
    | none => none
    | some (off, size) => if v.is = true ∧ (cellsOf v).length = size ∧ off + size ≤ cells.length then fillL place (putL cells off (cellsOf v)) rest else none
def sizeOfT (C : Cx) (t : Nat) : Option Nat := (C.ti t).map (·.size)
def rep (zero : List AV) : Nat → List AV
  | 0 => []
  | n + 1 => zero ++ rep zero n
def bound (x : AV) (y : Nat) : Option Nat :=
  match x with
  | .int _ i => if 0 ≤ i ∧ i ≤ y then some i.toNat else none
  | _ => none
def boundO (x : Option AV) (y d : Nat) : Option Nat :=
  match x with
  | none => some d
  | some v => bound v y
def sliceV (C : Cx) (t : Nat) (x : AV) (low high : Option AV) : Option AV :=
  match C.ti t with
  | none => none
  | some i =>
    match i.kind, x with
    | .string, .str s => match boundO high s.length s.length with
      | some h => match boundO low h 0 with
        | some l => some (.str ((s.take h).drop l))
        | none => none
      | none => none
    | .slice, .slice r v off len sz => match boundO high len len with
      | some h => match boundO low h 0 with
        | some l => match sizeOfT C i.elem with
          | some z => if z = sz ∧ l < len ∧ 0 < sz then some (.slice r v (off + l * sz) (h - l) sz) else none
          | none => none
        | none => none
      | none => none
    | .slice, .nils => match boundO high 0 0 with
      | some h => match boundO low h 0 with
        | some _ => match sizeOfT C i.elem with | some _ => some .nils | none => none
        | none => none
      | none => none
    | .array, .ptr r v off => match boundO high i.len i.len with
      | some h => match boundO low h 0 with
        | some l => match sizeOfT C i.elem with
          | some z => if off + i.len * z ≤ v ∧ l < i.len ∧ 0 < z then some (.slice r v (off + l * z) (h - l) z) else none
          | none => none
        | none => none
      | none => none
    | _, _ => none

noncomputable def appV (H : Hp) (s : AV) (sz bytes n : Nat) (new : List AV) : Option (AV × Hp) :=
  if new.length = n * sz ∧ 0 < sz ∧ new.all one1 = true then
    match s with
    | .nils => if n = 0 then some (.nils, H) else if n * bytes ≤ 2 ^ 40 ∧ n ≤ 2 ^ 40 ∧ H.next < roots then
        some (.slice H.next new.length 0 n sz, ⟨H.next + 1, Tr.set depth H.t H.next ⟨new, 0, false⟩⟩) else none
    | .slice r v off len z =>
      if z = sz ∧ off = 0 ∧ len * sz = v ∧ (len + n) * bytes ≤ 2 ^ 40 ∧ len + n ≤ 2 ^ 40 then
        if n = 0 then some (.slice r v off len z, H) else
        match H.t.get r with
        | some b => if b.ro = false ∧ v = b.cells.length ∧ b.minv ≤ v then
            some (.slice r (v + new.length) 0 (len + n) sz, ⟨H.next, Tr.set depth H.t r ⟨b.cells ++ new, b.minv, false⟩⟩) else none
        | none => none
      else none
    | _ => none
  else none
/-- What is appended or copied: the cells of the first n elements, and how many there are. -/
def srcLen : AV → Option Nat
  | .nils => some 0
  | .slice _ _ _ len _ => some len
  | .str s => some s.length
  | _ => none
noncomputable def srcCells (H : Hp) (sz n : Nat) : AV → Option (List AV)
  | .nils => if n = 0 then some [] else none
  | .slice r v off len z => if z = sz ∧ n ≤ len then rd H r v off (n * sz) else none
  | .str s => if sz = 1 ∧ n ≤ s.length then some ((s.take n).map fun b : Nat => AV.int .u8 (b : Int)) else none
  | _ => none

noncomputable def opnd (env : Env) : Operand → AV
  | .tmp t => look env t
  | .const v => ofVal v
  | .global _ => .top
  | .func f => .func f [] []
def fieldsZ (C : Cx) : List (Nat × Nat) → Option (List (Nat × Nat))
  | [] => some []
  | (o, t) :: r => match sizeOfT C t, fieldsZ C r with | some z, some l => some ((o, z) :: l) | _, _ => none

noncomputable def callB (C : Cx) (H : Hp) (b : Builtin) (argTypes : List Nat) (args : List AV) : Option (AV × Hp) :=
  match b, argTypes, args with
  | .len, t :: _, [x] => match C.ti t with
    | some i => match i.kind, x with
      | .string, .str s => some (.int .i64 s.length, H)
      | .array, _ => some (.int .i64 i.len, H)
      | .slice, .slice _ _ _ len _ => some (.int .i64 len, H)
      | .slice, .nils => some (.int .i64 0, H)
      | _, _ => none
    | none => none
  | .append, [t, u], [s, x] => match C.ti t, C.ti u with
    | some i, some j => match i.kind, C.ti i.elem with
      | .slice, some e => match j.kind == .slice || j.kind == .string, srcLen x, e.zero with
        | true, some n, some z => match srcCells H e.size n x with
          | some new => if z.length = e.size then appV H s e.size e.bytes n new else none
          | none => none
        | _, _, _ => none
      | _, _ => none
    | _, _ => none
  | .copy, t :: _, [d, x] => match C.ti t with
    | some i => match i.kind, C.ti i.elem, d, srcLen x with
      | .slice, some e, .slice r v off len z, some sl => if z = e.size ∧ 0 < z then
          match srcCells H e.size (min sl len) x with
          | some cs => if cs.length = 0 then (if min sl len = 0 then some (.int .i64 0, H) else none) else match wr H r v off cs with
            | some H' => some (.int .i64 (min sl len : Nat), H')
            | none => none
          | none => none else none
      | _, _, _, _ => none
    | none => none
  | .max, _, [.int k x, .int k' y] => some (.int k (if x < y then y else x), H)
  | .min, _, [.int k x, .int k' y] => some (.int k (if y < x then y else x), H)
  | _, _, _ => none

/-- What an operation gives that calls no function. -/
noncomputable def opV (C : Cx) (env : Env) (H : Hp) (o : Oper) : Option (AV × Hp) :=
  match o.op with
  | .move x | .assign x => some (opnd env x, H)
  | .pick c a b => match opnd env c with
    | .bool t => some (opnd env (if t then a else b), H)
    | _ => none
  | .alloc t => match C.ti t with
    | some i => match i.zero with | some z => alloc1 H z | none => none
    | none => none
  | .box t x => if (opnd env x).is then alloc1 H (cellsOf (opnd env x)) else none
  | .build t parts => match C.ti t with
    | some i => match i.zero with
      | some z => match i.kind with
        | .struct => match fieldsZ C i.fields with
          | some fs => (fillL (fun k => fs[k]?) z (parts.toList.map fun p => (p.1, opnd env p.2))).map fun cs => (.agg cs, H)
          | none => none
        | .array => match sizeOfT C i.elem with
          | some n => (fillL (fun k => some (k * n, n)) z (parts.toList.map fun p => (p.1, opnd env p.2))).map fun cs => (.agg cs, H)
          | none => none
        | _ => none
      | none => none
    | none => none
  | .buildSlice t len parts => match C.ti t with
    | some i => match i.kind, C.ti i.elem with
      | .slice, some e => match e.zero with
        | some z => if z.length = e.size ∧ 0 < e.size ∧ len * e.size ≤ 2 ^ 24 then
            match fillL (fun k => some (k * e.size, e.size)) (rep z len) (parts.toList.map fun p => (p.1, opnd env p.2)) with
            | some cs => match alloc1 H cs with
              | some (.ptr r v _, H') => some (.slice r v 0 len e.size, H')
              | _ => none
            | none => none
          else none
        | none => none
      | _, _ => none
    | none => none
  | .load t a => match C.ti t, opnd env a with
    | some i, .ptr r v off => match rd H r v off i.size with
      | some cs => (mkVal i.kind.isAgg cs).map fun x => (x, H)
      | none => none
    | _, _ => none
  | .store t a x => match C.ti t, opnd env a with
    | some i, .ptr r v off => if (opnd env x).is = true ∧ (cellsOf (opnd env x)).length = i.size then (wr H r v off (cellsOf (opnd env x))).map fun H' => (.top, H') else none
    | _, _ => none
  | .nilCheck x => match opnd env x with
    | .ptr r v off => some (.ptr r v off, H)
    | .func f a b => some (.func f a b, H)
    | _ => none
  | .binOp op t x y _ => (binV C op t (opnd env x) (opnd env y)).map fun v => (v, H)
  | .unOp op _ x => (unV op (opnd env x)).map fun v => (v, H)
  | .convert s d x => convV C H s d (opnd env x)
  | .makeInterface t x => match C.ti t with
    | some i => match i.kind with | .iface => none | _ => some (.iface t (opnd env x), H)
    | none => none
  | .makeFunc (.func f) first caps => some (.func f (first.toList.map (opnd env)) (caps.toList.map (opnd env)), H)
  | .makeSlice t l c => match C.ti t, opnd env l, opnd env c with
    | some i, .int _ n, .int _ k => match i.kind, C.ti i.elem with
      | .slice, some e => match e.zero with
        | some z => if n = k ∧ 0 < n ∧ n * e.bytes ≤ 2 ^ 40 ∧ n ≤ 2 ^ 40 ∧ z.length = e.size ∧ 0 < e.size then
            match alloc1 H (rep z n.toNat) with
            | some (.ptr r v _, H') => some (.slice r v 0 n.toNat e.size, H')
            | _ => none
          else none
        | none => none
      | _, _ => none
    | _, _, _ => none
  | .slice t x lo hi none => (sliceV C t (opnd env x) (lo.map (opnd env)) (hi.map (opnd env))).map fun v => (v, H)
  | .fieldAddr s x f => match C.ti s, opnd env x with
    | some i, .ptr r v off => match i.kind, i.fields[f]? with
      | .struct, some (o, t) => match sizeOfT C t with
        | some z => if z = 0 then none else some (.ptr r v (off + o), H)
        | none => none
      | _, _ => none
    | _, _ => none
  | .field t x f => match C.ti t, opnd env x with
    | some i, .agg cs => match i.kind, i.fields[f]? with
      | .struct, some (o, u) => match C.ti u with
        | some j => (if j.kind.isAgg then some (.agg ((cs.drop o).take j.size)) else cs[o]?).map fun v => (v, H)
        | none => none
      | _, _ => none
    | _, _ => none
  | .indexAddr t x ix => match C.ti t, opnd env x, opnd env ix with
    | some i, .slice r v off len sz, .int _ k => match i.kind, sizeOfT C i.elem with
      | .slice, some z => if z = sz ∧ 0 ≤ k ∧ k < len then some (.ptr r v (off + k.toNat * sz), H) else none
      | _, _ => none
    | some i, .ptr r v off, .int _ k => match i.kind, sizeOfT C i.elem with
      | .array, some z => if 0 ≤ k ∧ k < i.len then some (.ptr r v (off + k.toNat * z), H) else none
      | _, _ => none
    | _, _, _ => none
  | .index t x ix => match C.ti t, opnd env x, opnd env ix with
    | some i, .str s, .int _ k => match i.kind with
      | .string => if 0 ≤ k then match s[k.toNat]? with | some b => some (.int .u8 (b : Int), H) | none => none else none
      | _ => none
    | some i, .agg cs, .int _ k => match i.kind, C.ti i.elem with
      | .array, some j => if 0 ≤ k ∧ k < i.len then
          (if j.kind.isAgg then some (.agg ((cs.drop (k.toNat * j.size)).take j.size)) else cs[k.toNat * j.size]?).map fun v => (v, H)
          else none
      | _, _ => none
    | _, _, _ => none
  | .typeAssert x _ T ok => match C.ti T, opnd env x with
    | some i, .iface t v => match i.kind with
      | .iface => none
      | _ => if t = T then some (if ok then .tuple [v, .bool true] else v, H) else none
    | _, _ => none
  | .extract t ix => match opnd env t with
    | .tuple vs => match vs[ix]? with | some v => some (v, H) | none => none
    | _ => none
  | .call ⟨.builtin b, args, ts⟩ => callB C H b ts.toList (args.toList.map (opnd env))
  | _ => none
end Go.Proofs.Ytnikdnchoahngaa.Am
