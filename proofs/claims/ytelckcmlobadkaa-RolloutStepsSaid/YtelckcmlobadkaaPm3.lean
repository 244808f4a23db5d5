/-
  PM3: from the model's code to the small language: the compiler that the kernel runs. No condition.
-/
import Derived.Test.YtelckcmlobadkaaPm2
set_option linter.unusedSimpArgs false
set_option linter.unusedVariables false
namespace Go.PM
open Go

structure Tbl where
  P : Program
  num : Nat → FuncId
  name : FuncId → Option Nat
  ro : List Nat := []

def ofValue : Value → Option PV
  | .int k n => some (.int k n)
  | .bool b => some (.bool b)
  | .string s => some (.str s.data.toList)
  | .slice none 0 0 => some .nils
  | .pointer none => some (.lit (.pointer none))
  | .map none => some (.lit (.map none))
  | .nilIface => some (.lit .nilIface)
  | .nilFunc => some (.lit .nilFunc)
  | _ => none

theorem ofValue_rep {E : Env} {v : Value} {pv : PV} (h : ofValue v = some pv) : RepV E pv v := by
  unfold ofValue at h
  split at h <;> cases h
  · exact .int _ _
  · exact .bool _
  · exact .str _
  · exact .nils
  all_goals exact .lit _

def ofValues : List Value → Option (List PV)
  | [] => some []
  | v :: vs => match ofValue v, ofValues vs with
    | some p, some ps => some (p :: ps)
    | _, _ => none

namespace Tbl
variable (T : Tbl)

def opd : Operand → Option POpd
  | .tmp t => some (.tmp t)
  | .const v => (ofValue v).map .const
  | .func f => match T.name f with
    | some n => if T.num n = f then some (.const (.fn n [])) else none
    | none => none
  | .global _ => none

def opds : List Operand → Option (List POpd)
  | [] => some []
  | x :: xs => match T.opd x, opds xs with
    | some p, some ps => some (p :: ps)
    | _, _ => none

def size (t : TypeId) : Option Nat := (T.P.info? t).map (·.size)
def isAgg (t : TypeId) : Option Bool :=
  match T.P.underlying t with
  | some (.struct _) | some (.array _ _) => some true
  | some _ => some false
  | none => none
def zero (t : TypeId) : Option (List PV) := ((T.P.info? t).bind (·.zero)).bind fun z => ofValues z.cells.toList

def scalar (t : TypeId) : Option Sc :=
  match T.P.underlying t with
  | some (.int _) => some .int
  | some .bool => some .bool
  | some .string => some .str
  | _ => none

/-- The fields from place 'k' on are scalars, one cell each, in order. -/
def flatFrom : Nat → List Field → Option (List Sc)
  | _, [] => some []
  | k, f :: fs => match T.scalar f.type, flatFrom (k + 1) fs with
    | some c, some cs => if f.name ≠ "_" ∧ f.offset = k then some (c :: cs) else none
    | _, _ => none

def flat (t : TypeId) : Option (List Sc) :=
  match T.P.underlying t with
  | some (.struct fs) => if T.P.stoodInHeld t = false ∧ T.P.eqGuardType T.P.depth t = false then T.flatFrom 0 fs.toList else none
  | _ => none

def kscalar (t : TypeId) : Option KSh :=
  match T.P.underlying t with
  | some (.int k) => some (.int k)
  | some .bool => some .bool
  | some .string => some .str
  | _ => none
def kflatFrom : Nat → List Field → Option (List KSh)
  | _, [] => some []
  | k, f :: fs => match T.kscalar f.type, kflatFrom (k + 1) fs with
    | some c, some cs => if f.name ≠ "_" ∧ f.offset = k then some (c :: cs) else none
    | _, _ => none
/-- The shape of a map's key. -/
def keyShape (t : TypeId) : Option MSh :=
  match T.P.underlying t with
  | some (.struct fs) => if T.P.stoodInHeld t = false then (T.kflatFrom 0 fs.toList).map fun l => (true, l) else none
  | _ => (T.kscalar t).map fun c => (false, [c])

def opt (x : Option Operand) : Option (Option POpd) :=
  match x with
  | none => some none
  | some x => (T.opd x).map some

def place (fs : Array Field) (i : Nat) : Option (Nat × Nat) :=
  match fs[i]? with
  | some f => (T.size f.type).map (f.offset, ·)
  | none => none

def partsOf (place : Nat → Option (Nat × Nat)) : List (Nat × Operand) → Option (List (Nat × Nat × POpd))
  | [] => some []
  | (i, x) :: rest => match place i, T.opd x, partsOf place rest with
    | some (off, size), some p, some ps => some ((off, size, p) :: ps)
    | _, _, _ => none

def elemsOf : List (Nat × Operand) → Option (List (Nat × POpd))
  | [] => some []
  | (i, x) :: rest => match T.opd x, elemsOf rest with
    | some p, some ps => some ((i, p) :: ps)
    | _, _ => none

def isRo (d : Option Tmp) : Bool :=
  match d with
  | some d => T.ro.contains d
  | none => false

def call (o : Oper) (c : Call) : Option POp :=
  match c.callee with
  | .builtin b => match b, c.args.toList, c.argTypes.toList with
    | .len, [x], [t] => match T.P.underlying t with
      | some (.array n _) => some (.mv (.const (.int .i64 n)))
      | some .string => (T.opd x).map .lenStr
      | some (.slice _) => (T.opd x).map .len
      | _ => none
    | .append, [x, y], [t, u] => match T.P.underlying t, T.P.underlying u with
      | some (.slice e), some (.slice _) => match T.P.info? e, T.opd x, T.opd y with
        | some i, some a, some b => if t = u ∧ i.zero.isSome ∧ (i.zero.map (·.cells.size)) = some i.size ∧ 0 < i.size then some (.append i.size i.bytes a b) else none
        | _, _, _ => none
      | _, _ => none
    | .cap, [x], [t] => match T.P.underlying t with
      | some (.slice _) => (T.opd x).map .capNil
      | _ => none
    | .max, [x, y], _ => match T.opd x, T.opd y with
      | some a, some b => some (.minmax true a b)
      | _, _ => none
    | .min, [x, y], _ => match T.opd x, T.opd y with
      | some a, some b => some (.minmax false a b)
      | _, _ => none
    | _, _, _ => none
  | .value (.func f) => match T.name f, T.opds c.args.toList with
    | some n, some xs => if T.num n = f then some (.call n xs) else none
    | _, _ => none
  | .value (.tmp t) => (T.opds c.args.toList).map (.callv (.tmp t))
  | _ => none

def op (o : Oper) : Option POp :=
  match o.op with
  | .move x | .assign x => (T.opd x).map .mv
  | .pick c a b => match T.opd c, T.opd a, T.opd b with
    | some c, some a, some b => some (.pick c a b)
    | _, _, _ => none
  | .alloc e => (T.zero e).map .alloc
  | .box _ x => (T.opd x).map (.box (T.isRo o.dst))
  | .build t parts => match T.zero t, T.P.underlying t with
    | some z, some (.struct fs) => if (fs.toList.mapM (fun f => (T.P.info? f.type).map fun i => (f.offset, i.size))).isSome then
        (T.partsOf (T.place fs) parts.toList).map (.build z)
      else none
    | some z, some (.array _ e) => match T.size e with
      | some s => (T.partsOf (fun i => some (i * s, s)) parts.toList).map (.build z)
      | none => none
    | _, _ => none
  | .buildSlice t len parts => match T.P.underlying t with
    | some (.slice e) => match T.size e, T.zero e, T.elemsOf parts.toList with
      | some s, some z, some ps => if z.length = s ∧ 0 < s then some (.bslice (T.isRo o.dst) s len z ps) else none
      | _, _, _ => none
    | _ => none
  | .load t a => match T.isAgg t, T.size t, T.opd a with
    | some true, some n, some p => some (.load (some n) p)
    | some false, _, some p => some (.load none p)
    | _, _, _ => none
  | .store t a x => match T.size t, T.opd a, T.opd x with
    | some n, some p, some v => some (.store n p v)
    | _, _, _ => none
  | .nilCheck x => (T.opd x).map .nilchk
  | .binOp b t x y _ => match T.opd x, T.opd y with
    | some p, some q => match b with
      | .eql => match T.P.underlying t with
        | some (.int _) | some .string => some (.bin .eql p q)
        | some .bool => some (.eqb false p q)
        | some (.struct _) => (T.flat t).map fun ks => .eqs false ks p q
        | _ => none
      | .neq => match T.P.underlying t with
        | some (.int _) | some .string => some (.bin .neq p q)
        | some .bool => some (.eqb true p q)
        | some (.struct _) => (T.flat t).map fun ks => .eqs true ks p q
        | _ => none
      | b => some (.bin b p q)
    | _, _ => none
  | .unOp u _ x => (T.opd x).map (.un u)
  | .convert s d x => match T.P.underlying s, T.P.underlying d, T.opd x with
    | some (.int _), some (.int k), some p => some (.conv k p)
    | some .string, some .string, some p => some (.same p)
    | some (.slice e), some .string, some p => match T.P.underlying e with
      | some (.int .u8) => some (.bytes2str p)
      | _ => none
    | _, _, _ => none
  | .makeFunc (.func f) first captured => match T.name f, T.opds captured.toList with
    | some n, some cs => if T.num n = f ∧ first.size = 0 then some (.mkfn n cs) else none
    | _, _ => none
  | .makeMap t none => match T.P.underlying t with
    | some (.map k _) => (T.keyShape k).map .mkmap
    | _ => none
  | .lookup t x k ok => match T.P.underlying t with
    | some (.map kt et) => match T.keyShape kt, (T.P.info? et).bind (·.zero), T.opd x, T.opd k with
      | some sh, some z, some p, some q => (ofValue z).map fun z => .lookup sh z p q ok
      | _, _, _, _ => none
    | _ => none
  | .mapUpdate t x k v => match T.P.underlying t with
    | some (.map kt _) => match T.keyShape kt, T.opd x, T.opd k, T.opd v with
      | some sh, some p, some q, some r => some (.mapset sh p q r)
      | _, _, _, _ => none
    | _ => none
  | .insert t x k v => match T.P.underlying t with
    | some (.map kt _) => match T.keyShape kt, T.opd x, T.opd k, T.opd v with
      | some sh, some p, some q, some r => some (.insert sh p q r)
      | _, _, _, _ => none
    | _ => none
  | .makeSlice t l c => match T.P.underlying t with
    | some (.slice e) => match T.P.info? e, T.zero e, T.opd l, T.opd c with
      | some i, some z, some a, some b => if z.length = i.size ∧ 0 < i.size then some (.mkslice i.size i.bytes z a b) else none
      | _, _, _, _ => none
    | _ => none
  | .slice t x lo hi mx => match T.P.underlying t, T.opd x, T.opt lo, T.opt hi, T.opt mx with
    | some (.slice e), some p, some l, some h, some m => if mx.isSome = true ∧ hi.isNone = true then none else (T.size e).map fun s => .slice s p l h m
    | some .string, some p, some l, some h, some none => some (.sliceStr p l h)
    | _, _, _, _, _ => none
  | .fieldAddr t x f => match T.P.underlying t, T.opd x with
    | some (.struct fs), some p => match fs[f]? with
      | some fd => match T.size fd.type with
        | some (_ + 1) => some (.fieldA fd.offset p)
        | _ => none
      | none => none
    | _, _ => none
  | .field t x f => match T.P.underlying t, T.opd x with
    | some (.struct fs), some p => match fs[f]? with
      | some fd => match T.isAgg fd.type, T.size fd.type with
        | some true, some n => some (.field fd.offset (some n) p)
        | some false, _ => some (.field fd.offset none p)
        | _, _ => none
      | none => none
    | _, _ => none
  | .indexAddr t x i => match T.P.underlying t, T.opd x, T.opd i with
    | some (.slice e), some p, some q => (T.size e).map fun s => .idxS s p q
    | some (.array n e), some p, some q => (T.size e).map fun s => .idxA n s p q
    | _, _, _ => none
  | .index t x i => match T.P.underlying t, T.opd x, T.opd i with
    | some (.array n e), some p, some q => match T.size e, T.isAgg e with
      | some s, some g => some (.idxV n s g p q)
      | _, _ => none
    | some .string, some p, some q => some (.idxStr p q)
    | _, _, _ => none
  | .extract x i => (T.opd x).map (.extract · i)
  | .call c => T.call o c
  | _ => none

def instr (n : Nat) (ops : Array Oper) (o : Oper) : Option PInstr :=
  let p := (T.op o).getD .stuck
  if o.dst.all (· < n) then
    match o.guard with
    | none => some ⟨o.dst, p, none⟩
    | some (j, want) => match (ops[j]?).bind (·.dst) with
      | some t => some ⟨o.dst, p, some (t, want)⟩
      | none => none
  else none

def instrs (n : Nat) (ops : Array Oper) : List Oper → Option (List PInstr)
  | [] => some []
  | o :: os => match T.instr n ops o, instrs n ops os with
    | some i, some is => some (i :: is)
    | _, _ => none

end Tbl
end Go.PM
