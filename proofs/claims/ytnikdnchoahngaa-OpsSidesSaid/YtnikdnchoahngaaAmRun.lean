/- The abstract machine runs code. -/
import Derived.Test.YtnikdnchoahngaaAm4
set_option linter.unusedVariables false
namespace Go.Proofs.Ytnikdnchoahngaa.Am
open Go

inductive Ex where
  | normal | exit (id : Nat) | goto (l : Nat) | ret | panic (v : AV)
inductive Rs where
  | ret (v : AV) | panic (v : AV)
inductive Task where
  | code (f : Nat) (c : Code) (env : Env) (H : Hp)
  | scope (f : Nat) (body c : Code) (env : Env) (H : Hp)
  | call (f : Nat) (args : List AV) (H : Hp)
inductive Out where
  | code (e : Ex) (env : Env) (H : Hp)
  | call (r : Rs) (H : Hp)

noncomputable def args0 : Nat → List AV → Env
  | _, [] => .nil
  | i, v :: r => putE (args0 (i + 1) r) i v
/-- A list's i-th part. -/
noncomputable def nth {α : Type} (l : List α) : Nat → Option α :=
  List.rec (motive := fun _ => Nat → Option α) (fun _ => none) (fun x _ ih i => bif Nat.beq i 0 then some x else ih (Nat.pred i)) l
theorem nth_eq {α : Type} : ∀ (l : List α) (i : Nat), nth l i = l[i]?
  | [], i => by simp [nth]
  | x :: l, i => by
    cases i with
    | zero => rfl
    | succ i => rw [List.getElem?_cons_succ, ← nth_eq l i]; rfl
noncomputable def wantedV (o : Oper) (all : List Oper) (env : Env) : Option Bool :=
  match o.guard with
  | none => some true
  | some (j, want) => match nth all j with
    | some p => match p.dst with
      | some d => match look env d with | .bool b => some (bif b then want else !want) | .tuple [] => some false | _ => none
      | none => none
    | none => none
noncomputable def putV (env : Env) (d : Option Nat) (v : AV) : Env :=
  match d with
  | some d => putE env d v
  | none => env
noncomputable def resV (C : Cx) (env : Env) (H : Hp) : List ResultVar → Option (List AV)
  | [] => some []
  | .tmp t :: r => match resV C env H r with | some l => some (look env t :: l) | none => none
  | .cell a t :: r => match C.ti t, look env a, resV C env H r with
    | some i, .ptr q v off, some l => match rd H q v off i.size with
      | some cs => match mkVal i.kind.isAgg cs with | some x => some (x :: l) | none => none
      | none => none
    | _, _, _ => none
def oneRes : List AV → AV
  | [x] => x
  | l => .tuple l
/-- A slot, and then how memory stands. -/
inductive So where
  | val (v : AV) (H : Hp)
  | panic (v : AV) (H : Hp)
noncomputable def opnds (env : Env) : List Operand → List AV
  | [] => []
  | x :: l => opnd env x :: opnds env l
theorem opnds_eq (env : Env) : ∀ l : List Operand, opnds env l = l.map (opnd env)
  | [] => rfl
  | x :: l => by rw [opnds, opnds_eq env l]; rfl
noncomputable def enter (ih : Task → Option Out) (f : AV) (args : List AV) (H : Hp) : Option So :=
  match f with
  | .func g first caps => match ih (.call g (first ++ args ++ caps) H) with
    | some (.call (.ret v) H') => some (.val v H')
    | some (.call (.panic v) H') => some (.panic v H')
    | _ => none
  | _ => none
noncomputable def opS (C : Cx) (ih : Task → Option Out) (env : Env) (H : Hp) (o : Oper) : Option So :=
  match o.op with
  | .panic x => match opnd env x with
    | .iface t v => some (.panic (.iface t v) H)
    | _ => none
  | .call c => match c.callee with
    | .value g => enter ih (opnd env g) (opnds env c.args.toList) H
    | _ => match opV C env H o with | some (v, H') => some (.val v H') | none => none
  | _ => match opV C env H o with | some (v, H') => some (.val v H') | none => none
noncomputable def opsS (C : Cx) (ih : Task → Option Out) (all l : List Oper) : Env → Hp → Option Out :=
  List.rec (motive := fun _ => Env → Hp → Option Out) (fun env H => some (.code .normal env H))
    (fun o _ rest env H => match wantedV o all env with
      | none => none
      | some false => rest (putV env o.dst (.tuple [])) H
      | some true => match opS C ih env H o with
        | some (.val v H') => rest (putV env o.dst v) H'
        | some (.panic v H') => some (.code (.panic v) env H')
        | none => none) l
/-- 0: an operation looks at no memory; 1: it reads memory; 2: any other. -/
def cls (o : Oper) : Nat :=
  match o.op with
  | .move _ | .assign _ | .pick .. | .binOp .. | .unOp .. | .makeInterface .. | .makeFunc .. | .field .. | .index .. | .extract .. | .typeAssert .. | .fieldAddr .. | .indexAddr .. | .nilCheck .. | .build .. | .slice .. => 0
  | .load .. | .convert .. => 1
  | .call c => match c.callee with
    | .builtin .len | .builtin .max | .builtin .min => 0
    | _ => 2
  | _ => 2
mutual
def beqV : AV → AV → Bool
  | .top, .top => true
  | .int k n, .int k' n' => decide (k = k') && decide (n = n')
  | .resid k q r, .resid k' q' r' => decide (k = k') && Nat.beq q q' && Nat.beq r r'
  | .bool a, .bool b => a == b
  | .str a, .str b => eqL a b
  | .nilp, .nilp => true
  | .ptr r v o, .ptr r' v' o' => Nat.beq r r' && Nat.beq v v' && Nat.beq o o'
  | .nils, .nils => true
  | .slice r v o l z, .slice r' v' o' l' z' => Nat.beq r r' && Nat.beq v v' && Nat.beq o o' && Nat.beq l l' && Nat.beq z z'
  | .agg a, .agg b => beqVs a b
  | .tuple a, .tuple b => beqVs a b
  | .func f a b, .func f' a' b' => Nat.beq f f' && beqVs a a' && beqVs b b'
  | .nilf, .nilf => true
  | .iface t a, .iface t' a' => Nat.beq t t' && beqV a a'
  | .nili, .nili => true
  | _, _ => false
def beqVs : List AV → List AV → Bool
  | [], [] => true
  | a :: x, b :: y => beqV a b && beqVs x y
  | _, _ => false
end
/-- The region's operations in the order of the text: what is known of the slots then, and memory behind each act. -/
noncomputable def opsD (C : Cx) (ih : Task → Option Out) (all : List Oper) (l : List Oper) : Env → Hp → Option (Env × List Hp) :=
  List.rec (motive := fun _ => Env → Hp → Option (Env × List Hp)) (fun env _ => some (env, []))
    (fun o _ rest env H => match wantedV o all env with
      | none => none
      | some false => match rest (putV env o.dst (.tuple [])) H with
        | some (e, hs) => some (e, bif Nat.beq (cls o) 2 then H :: hs else hs)
        | none => none
      | some true => match opS C ih env H o with
        | some (.val v H') => match rest (putV env o.dst v) H' with
          | some (e, hs) => some (e, bif Nat.beq (cls o) 2 then H' :: hs else hs)
          | none => none
        | _ => none) l
/-- Memory is read alike wherever an order may read it. -/
noncomputable def alikeAt (C : Cx) (env : Env) (hs : List Hp) (o : Oper) (j : Nat) : Bool :=
  match nth hs j with
  | some H => match opV C env H o with
    | some (v, _) => match o.dst with | some d => beqV v (look env d) | none => true
    | none => false
  | none => false
noncomputable def alikeL (C : Cx) (all : List Oper) (env : Env) (hs : List Hp) : List Oper → List (Nat × Nat × Nat) → Bool
  | o :: l, (_, lo, hi) :: pl => (bif Nat.beq (cls o) 1 then (match wantedV o all env with | some true => (List.range' lo (hi + 1 - lo)).all (alikeAt C env hs o) | _ => true) else true) && alikeL C all env hs l pl
  | _, _ => true
def lastH (H : Hp) : List Hp → Hp
  | [] => H
  | h :: l => lastH h l
/-- A region whose order is drawn. -/
noncomputable def drawS (C : Cx) (ih : Task → Option Out) (ops : Array Oper) (pl : List (Nat × Nat × Nat)) (env : Env) (H : Hp) : Option Out :=
  match opsD C ih ops.toList ops.toList env H with
  | some (env', hs) => bif alikeL C ops.toList env' (H :: hs) ops.toList pl then some (.code .normal env' (lastH H hs)) else none
  | none => none
noncomputable def doneS (C : Cx) (fn : Func) : Option Out → Option Out
  | some (.code e env' H') => match e with
    | .normal | .ret => match resV C env' H' fn.results.toList with | some l => some (.call (.ret (oneRes l)) H') | none => none
    | .panic v => some (.call (.panic v) H')
    | _ => none
  | _ => none
noncomputable def evS (C : Cx) (ih : Task → Option Out) : Task → Option Out
  | .code f c env H =>
    match c with
    | .skip => some (.code .normal env H)
    | .label _ => some (.code .normal env H)
    | .region id ops draw => match draw with
      | false => opsS C ih ops.toList ops.toList env H
      | true => drawS C ih ops (C.plan f id) env H
    | .seq a b => match ih (.code f a env H) with
      | some (.code .normal env' H') => ih (.code f b env' H')
      | r => r
    | .cond c a b => match opnd env c with
      | .bool t => ih (.code f (bif t then a else b) env H)
      | _ => none
    | .block id b => match ih (.code f b env H) with
      | some (.code (.exit j) env' H') => some (.code (bif Nat.beq j id then .normal else .exit j) env' H')
      | r => r
    | .loop b => match ih (.code f b (keepOnly env (C.keep f)) H) with
      | some (.code .normal env' H') => ih (.code f (.loop b) env' H')
      | r => r
    | .scope b => ih (.scope f b b env H)
    | .exit id => some (.code (.exit id) env H)
    | .goto l => some (.code (.goto l) env H)
    | .ret => some (.code .ret env H)
    | _ => none
  | .scope f body c env H => match ih (.code f c env H) with
    | some (.code (.goto l) env' H') => match findLabel body l with
      | some rest => ih (.scope f body rest env' H')
      | none => none
    | r => r
  | .call n xs H => match C.known n xs with
    | some v => some (.call (.ret v) H)
    | none => match C.fn n with
      | none => none
      | some fn => match fn.body with
        | none => none
        | some c => doneS C fn (ih (.code n c (args0 0 xs) H))
noncomputable def ev (C : Cx) (k : Nat) : Task → Option Out :=
  Nat.rec (motive := fun _ => Task → Option Out) (fun _ => none) (fun _ ih => evS C ih) k
theorem ev_zero (C : Cx) (t : Task) : ev C 0 t = none := rfl
theorem ev_succ (C : Cx) (k : Nat) : ev C (k + 1) = evS C (ev C k) := rfl
def H0 : Hp := ⟨0, .nil⟩
def isTrue : Option Out → Bool
  | some (.call (.ret (.bool true)) _) => true
  | _ => false
end Go.Proofs.Ytnikdnchoahngaa.Am
