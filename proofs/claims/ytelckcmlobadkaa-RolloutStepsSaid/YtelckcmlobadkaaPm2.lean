/-
  PM2: the small code language and its weakest preconditions over pure values. No condition.
-/
import Derived.Test.YtelckcmlobadkaaPm1
set_option linter.unusedSimpArgs false
set_option linter.unusedVariables false
namespace Go.PM
open Go

inductive POpd where
  | tmp (t : Nat)
  | const (v : PV)
  deriving Inhabited

def POpd.ev (F : PF) : POpd → Option PV
  | .tmp t => F t
  | .const v => some v

def POpd.evs (F : PF) : List POpd → Option (List PV)
  | [] => some []
  | x :: xs => match x.ev F, POpd.evs F xs with
    | some v, some vs => some (v :: vs)
    | _, _ => none

inductive Sc where
  | int | bool | str
  deriving Inhabited, DecidableEq

inductive POp where
  | mv (x : POpd)
  | pick (c a b : POpd)
  | bin (op : BinOp) (x y : POpd)
  | eqb (neg : Bool) (x y : POpd)
  | eqs (neg : Bool) (ks : List Sc) (x y : POpd)
  | un (op : UnOp) (x : POpd)
  | conv (k : IntKind) (x : POpd)
  | same (x : POpd)
  | alloc (cells : List PV)
  | box (ro : Bool) (x : POpd)
  | build (zero : List PV) (parts : List (Nat × Nat × POpd))
  | bslice (ro : Bool) (size len : Nat) (zero : List PV) (parts : List (Nat × POpd))
  | load (n : Option Nat) (p : POpd)
  | store (n : Nat) (p x : POpd)
  | nilchk (x : POpd)
  | fieldA (off : Nat) (x : POpd)
  | field (off : Nat) (n : Option Nat) (x : POpd)
  | idxS (size : Nat) (x i : POpd)
  | idxA (n size : Nat) (x i : POpd)
  | idxV (n size : Nat) (ag : Bool) (x i : POpd)
  | idxStr (x i : POpd)
  | slice (size : Nat) (x : POpd) (lo hi mx : Option POpd)
  | sliceStr (x : POpd) (lo hi : Option POpd)
  | sliceA (n size : Nat) (x : POpd) (lo hi mx : Option POpd)
  | len (x : POpd)
  | lenStr (x : POpd)
  | capNil (x : POpd)
  | extract (x : POpd) (i : Nat)
  | mkslice (size bytes : Nat) (zero : List PV) (l c : POpd)
  | append (size bytes : Nat) (x y : POpd)
  | minmax (mx : Bool) (x y : POpd)
  | mkfn (name : Nat) (captured : List POpd)
  | mkmap (sh : MSh)
  | lookup (sh : MSh) (zero : PV) (x k : POpd) (ok : Bool)
  | mapset (sh : MSh) (x k v : POpd)
  | insert (sh : MSh) (x k v : POpd)
  | stuck
  | bytes2str (x : POpd)
  | str2bytes (x : POpd)
  | call (name : Nat) (args : List POpd)
  | callv (x : POpd) (args : List POpd)
  deriving Inhabited

structure PInstr where
  dst : Option Nat
  op : POp
  guard : Option (Nat × Bool)
  deriving Inhabited

inductive PCode where
  | skip
  | region (ops : List PInstr)
  | draw (ops : List (PInstr × Bool))
  | seq (a b : PCode)
  | cond (c : POpd) (a b : PCode)
  | block (id : Nat) (c : PCode)
  | loop (c : PCode)
  | exit (id : Nat)
  | ret
  deriving Inhabited

inductive PRes where
  | tmp (t : Nat)
  | cell (t : Nat) (n : Option Nat)
  deriving Inhabited

structure PFunc where
  nparams : Nat
  ntmps : Nat
  body : PCode
  res : List PRes
  deriving Inhabited

def PV.cells : PV → List PV
  | .agg cs => cs
  | v => [v]

def PV.one : PV → Bool
  | .agg _ | .tup _ | .junk | .lit (.agg _) | .lit (.tuple _) => false
  | _ => true

def setCells (r : List PV) (c : Nat) : List PV → List PV
  | [] => r
  | v :: vs => setCells (r.set c v) (c + 1) vs

def loadCells (H : PH) (p : PV) (n : Nat) : Option (List PV) :=
  match p with
  | .ptr o size i c => match H o with
    | some (.rows s rs) => if s = size then match rs[i]? with
        | some r => if c + n ≤ r.length then some ((r.drop c).take n) else none
        | none => none
      else none
    | _ => none
  | .rptr cells => if n ≤ cells.length then some (cells.take n) else none
  | _ => none

def binInt (op : BinOp) (k : IntKind) (a b : Int) : Option PV :=
  match op with
  | .add => some (.int k (k.wrap (a + b)))
  | .sub => some (.int k (k.wrap (a - b)))
  | .mul => some (.int k (k.wrap (a * b)))
  | .quo => if b = 0 then none else some (.int k (k.wrap (a.tdiv b)))
  | .rem => if b = 0 then none else some (.int k (a.tmod b))
  | .and => some (.int k (k.wrap (BitVec.ofInt k.bits a &&& BitVec.ofInt k.bits b).toNat))
  | .or => some (.int k (k.wrap (BitVec.ofInt k.bits a ||| BitVec.ofInt k.bits b).toNat))
  | .xor => some (.int k (k.wrap (BitVec.ofInt k.bits a ^^^ BitVec.ofInt k.bits b).toNat))
  | .andNot => some (.int k (k.wrap (BitVec.ofInt k.bits a &&& ~~~ BitVec.ofInt k.bits b).toNat))
  | .eql => some (.bool (a == b))
  | .neq => some (.bool (a != b))
  | .lss => some (.bool (decide (a < b)))
  | .leq => some (.bool (decide (a ≤ b)))
  | .gtr => some (.bool (decide (a > b)))
  | .geq => some (.bool (decide (a ≥ b)))
  | .shl | .shr => none

def binStr (op : BinOp) (a b : List UInt8) : Option PV :=
  match op with
  | .add => if ((a.length + b.length : Nat) : Int) > IntKind.i64.max then none else some (.str (a ++ b))
  | .eql => some (.bool (a == b))
  | .neq => some (.bool !(a == b))
  | .lss => some (.bool (Op.bytesLess a b))
  | .leq => some (.bool (Op.bytesLess a b || a == b))
  | .gtr => some (.bool !(Op.bytesLess a b || a == b))
  | .geq => some (.bool !(Op.bytesLess a b))
  | _ => none

def shift (op : BinOp) (k : IntKind) (a b : Int) : Option PV :=
  if b < 0 then none else
  match op with
  | .shl => some (.int k (k.wrap (a * 2 ^ (min b.toNat k.bits))))
  | .shr => some (.int k (a.fdiv (2 ^ (min b.toNat k.bits))))
  | _ => none

def PV.bin (op : BinOp) (x y : PV) : Option PV :=
  match op, x, y with
  | .shl, .int k a, .int _ b => shift .shl k a b
  | .shr, .int k a, .int _ b => shift .shr k a b
  | op, .int k a, .int k' b => if k = k' then binInt op k a b else none
  | op, .str a, .str b => binStr op a b
  | _, _, _ => none

/-- Equality of two scalars. -/
def PV.eq1 : Sc → PV → PV → Option Bool
  | .int, .int k a, .int k' b => if k = k' then some (a == b) else none
  | .bool, .bool a, .bool b => some (a == b)
  | .str, .str a, .str b => some (a == b)
  | _, _, _ => none

def PV.eqs : List Sc → List PV → List PV → Option Bool
  | [], [], [] => some true
  | k :: ks, x :: xs, y :: ys => match PV.eq1 k x y with
    | some true => PV.eqs ks xs ys
    | some false => if xs.length = ks.length ∧ ys.length = ks.length then some false else none
    | none => none
  | _, _, _ => none

def PV.un (op : UnOp) : PV → Option PV
  | .int k n => match op with
    | .neg => some (.int k (k.wrap (0 - n)))
    | .xor => some (.int k (k.wrap (BitVec.ofInt k.bits (if k.signed then -1 else k.max) ^^^ BitVec.ofInt k.bits n).toNat))
    | _ => none
  | .bool b => match op with
    | .not => some (.bool !b)
    | _ => none
  | _ => none

def PV.intOf : PV → Option Int
  | .int _ n => some n
  | _ => none

def fillP (cells : List PV) (F : PF) : List (Nat × Nat × POpd) → Option (List PV)
  | [] => some cells
  | (off, size, x) :: rest => match x.ev F with
    | some v => if v.cells.length = size ∧ off + size ≤ cells.length ∧ v.cells.all PV.one then fillP (setCells cells off v.cells) F rest else none
    | none => none

def fillRows (size : Nat) (rows : List (List PV)) (F : PF) : List (Nat × POpd) → Option (List (List PV))
  | [] => some rows
  | (i, x) :: rest => match x.ev F with
    | some v => if v.cells.length = size ∧ i < rows.length ∧ v.cells.all PV.one then fillRows size (rows.set i v.cells) F rest else none
    | none => none

/-- The rows that a slice value shows. -/
def viewRows (H : PH) (size : Nat) : PV → Option (List (List PV))
  | .nils => some []
  | .sl s rows => if s = size then some rows else none
  | .osl o s off len => if s = size then match H o with
      | some (.rows s' rs) => if s' = s ∧ off + len ≤ rs.length then some ((rs.drop off).take len) else none
      | _ => none
    else none
  | _ => none

def bnd (F : PF) (d : Int) : Option POpd → Option Int
  | none => some d
  | some x => (x.ev F).bind PV.intOf

def PV.slice (size : Nat) (x : PV) (l h : Int) (mx : Option Int) : Option PV :=
  match x with
  | .nils => if l = 0 ∧ h = 0 ∧ (mx = none ∨ mx = some 0) then some .nils else none
  | .sl s rows => if s = size ∧ 0 ≤ l ∧ l ≤ h ∧ h ≤ rows.length ∧ (mx = none ∨ mx = some h) then some (.sl s ((rows.take h.toNat).drop l.toNat)) else none
  | .osl o s off len => if s = size ∧ 0 ≤ l ∧ l ≤ h ∧ h ≤ len ∧ (mx = none ∨ mx = some h) then some (.osl o s (off + l.toNat) (h.toNat - l.toNat)) else none
  | _ => none

def KS.of : PV → Option KS
  | .int k n => some (.int k n)
  | .bool b => some (.bool b)
  | .str s => some (.str s)
  | _ => none
def KS.ofs : List PV → Option (List KS)
  | [] => some []
  | v :: vs => match KS.of v, KS.ofs vs with
    | some k, some ks => some (k :: ks)
    | _, _ => none
/-- The key that a value is, of the shape. -/
def keyOf (sh : MSh) (v : PV) : Option (List KS) :=
  match sh.1, v with
  | true, .agg cs => (KS.ofs cs).bind fun k => if k.map KS.sh = sh.2 then some k else none
  | false, v => (KS.of v).bind fun k => if [k.sh] = sh.2 then some [k] else none
  | _, _ => none

def byteRows : List (List PV) → Option (List UInt8)
  | [] => some []
  | [.int .u8 n] :: rest => (byteRows rest).map (UInt8.ofNat n.toNat :: ·)
  | _ => none

/-- Operations that leave the objects alone: what they yield. -/
def peval (op : POp) (F : PF) (H : PH) : Option PV :=
  match op with
  | .mv x => x.ev F
  | .same x => match x.ev F with
    | some (.str s) => some (.str s)
    | _ => none
  | .pick c a b => match c.ev F, a.ev F, b.ev F with
    | some (.bool t), x, y => if t then x else y
    | _, _, _ => none
  | .bin op x y => match x.ev F, y.ev F with
    | some a, some b => PV.bin op a b
    | _, _ => none
  | .eqb neg x y => match x.ev F, y.ev F with
    | some (.bool a), some (.bool b) => some (.bool ((a == b) != neg))
    | _, _ => none
  | .eqs neg ks x y => match x.ev F, y.ev F with
    | some (.agg xs), some (.agg ys) => (PV.eqs ks xs ys).map fun b => .bool (b != neg)
    | _, _ => none
  | .un op x => match x.ev F with
    | some a => PV.un op a
    | none => none
  | .conv k x => match x.ev F with
    | some (.int _ n) => some (.int k (k.wrap n))
    | _ => none
  | .box true x => match x.ev F with
    | some v => if v.cells.all PV.one then some (.rptr v.cells) else none
    | none => none
  | .build zero parts => (fillP zero F parts).map .agg
  | .bslice true size len zero parts => if zero.length = size ∧ len * size ≤ 16777216 then (fillRows size (List.replicate len zero) F parts).map (.sl size) else none
  | .load none p => match p.ev F with
    | some a => match loadCells H a 1 with
      | some [v] => some v
      | _ => none
    | none => none
  | .load (some n) p => match p.ev F with
    | some a => (loadCells H a n).map .agg
    | none => none
  | .nilchk x => match x.ev F with
    | some (.ptr o s i c) => some (.ptr o s i c)
    | some (.rptr cs) => some (.rptr cs)
    | _ => none
  | .fieldA off x => match x.ev F with
    | some (.ptr o s i c) => some (.ptr o s i (c + off))
    | some (.rptr cs) => some (.rptr (cs.drop off))
    | _ => none
  | .field off n x => match x.ev F with
    | some (.agg cs) => match n with
      | none => cs[off]?
      | some n => if off + n ≤ cs.length then some (.agg ((cs.drop off).take n)) else none
    | _ => none
  | .idxS size x i => match x.ev F, i.ev F with
    | some (.sl s rows), some (.int _ n) => if s = size ∧ 0 ≤ n then match rows[n.toNat]? with
        | some r => some (.rptr r)
        | none => none
      else none
    | some (.osl o s off len), some (.int _ n) => if s = size ∧ 0 ≤ n ∧ n < len then some (.ptr o s (off + n.toNat) 0) else none
    | _, _ => none
  | .idxA n size x i => match x.ev F, i.ev F with
    | some (.ptr o s r c), some (.int _ k) => if 0 ≤ k ∧ k < n then some (.ptr o s r (c + k.toNat * size)) else none
    | some (.rptr cs), some (.int _ k) => if 0 ≤ k ∧ k < n then some (.rptr (cs.drop (k.toNat * size))) else none
    | _, _ => none
  | .idxV n size ag x i => match x.ev F, i.ev F with
    | some (.agg cs), some (.int _ k) => if 0 ≤ k ∧ k < n then
        (if ag then (if k.toNat * size + size ≤ cs.length then some (.agg ((cs.drop (k.toNat * size)).take size)) else none) else cs[k.toNat * size]?)
      else none
    | _, _ => none
  | .idxStr x i => match x.ev F, i.ev F with
    | some (.str s), some (.int _ k) => if 0 ≤ k then (s[k.toNat]?).map fun b => PV.int .u8 b.toNat else none
    | _, _ => none
  | .slice size x lo hi mx => match x.ev F with
    | some v => match v with
      | .nils => match bnd F 0 lo, bnd F 0 hi with
        | some l, some h => match mx with
          | none => PV.slice size v l h none
          | some m => (bnd F 0 (some m)).bind fun m => PV.slice size v l h (some m)
        | _, _ => none
      | .sl s rows => match bnd F 0 lo, bnd F rows.length hi with
        | some l, some h => match mx with
          | none => PV.slice size (.sl s rows) l h none
          | some m => (bnd F 0 (some m)).bind fun m => PV.slice size (.sl s rows) l h (some m)
        | _, _ => none
      | .osl o s off len => match bnd F 0 lo, bnd F len hi with
        | some l, some h => match mx with
          | none => PV.slice size (.osl o s off len) l h none
          | some m => (bnd F 0 (some m)).bind fun m => PV.slice size (.osl o s off len) l h (some m)
        | _, _ => none
      | _ => none
    | none => none
  | .sliceStr x lo hi => match x.ev F with
    | some (.str s) => match bnd F 0 lo, bnd F s.length hi with
      | some l, some h => if 0 ≤ l ∧ l ≤ h ∧ h ≤ s.length then some (.str ((s.take h.toNat).drop l.toNat)) else none
      | _, _ => none
    | _ => none
  | .len x => match x.ev F with
    | some .nils => some (.int .i64 0)
    | some (.sl _ rows) => some (.int .i64 rows.length)
    | some (.osl _ _ _ n) => some (.int .i64 n)
    | _ => none
  | .lenStr x => match x.ev F with
    | some (.str s) => some (.int .i64 s.length)
    | _ => none
  | .capNil x => match x.ev F with
    | some .nils => some (.int .i64 0)
    | _ => none
  | .extract x i => match x.ev F with
    | some (.tup vs) => vs[i]?
    | _ => none
  | .minmax mx x y => match x.ev F, y.ev F with
    | some (.int k a), some (.int k' b) => if k = k' then some (.int k (if mx then (if a < b then b else a) else (if b < a then b else a))) else none
    | _, _ => none
  | .mkfn name captured => (POpd.evs F captured).map fun cs => .fn name cs
  | .lookup sh zero x k ok => match x.ev F, k.ev F with
    | some (.map o), some kv => match H o, keyOf sh kv with
      | some (.map sh' g), some key => if sh' = sh then some (if ok then .tup [(g key).getD zero, .bool (g key).isSome] else (g key).getD zero) else none
      | _, _ => none
    | _, _ => none
  | .bytes2str x => match x.ev F with
    | some v => match viewRows H 1 v with
      | some rows => (byteRows rows).map PV.str
      | none => none
    | none => none
  | _ => none

/-- Operations that make one object: the value, given the object's number, and the object. -/
def allocOf (op : POp) (F : PF) : Option ((Nat → PV) × PObj) :=
  match op with
  | .alloc cells => some (fun o => .ptr o cells.length 0 0, .rows cells.length [cells])
  | .box false x => match x.ev F with
    | some v => if v.cells.all PV.one then some (fun o => .ptr o v.cells.length 0 0, .rows v.cells.length [v.cells]) else none
    | none => none
  | .bslice false size len zero parts => if zero.length = size ∧ len * size ≤ 16777216 then
      (fillRows size (List.replicate len zero) F parts).map fun rows => (fun o => .osl o size 0 len, .rows size rows)
    else none
  | .mkslice size bytes zero l c => match l.ev F, c.ev F with
    | some (.int _ n), some (.int _ m) => if 0 ≤ n ∧ n ≤ m ∧ m * bytes ≤ 140737488355328 ∧ m ≤ 9223372036854775807 ∧ zero.length = size then
        some (fun o => .osl o size 0 n.toNat, .rows size (List.replicate n.toNat zero))
      else none
    | _, _ => none
  | .mkmap sh => some (fun o => .map o, .map sh (fun _ => none))
  | _ => none

def storeAt (H : PH) (p : PV) (cells : List PV) : Option PH :=
  match p with
  | .ptr o size i c => match H o with
    | some (.rows s rs) => if s = size ∧ c + cells.length ≤ size ∧ cells.all PV.one then match rs[i]? with
        | some r => some (H.set o (.rows s (rs.set i (setCells r c cells))))
        | none => none
      else none
    | _ => none
  | _ => none

def roomFor (n m bytes : Nat) : Prop := n + m ≤ maxLen ∧ (n + m) * bytes ≤ 140737488355328

def wpAppend (H : PH) (size bytes : Nat) (x y : PV) (K : PV → PH → Prop) : Prop :=
  ∃ src, viewRows H size y = some src ∧
    match x with
    | .nils => roomFor 0 src.length bytes ∧ (src = [] → K .nils H) ∧ (src ≠ [] → ∀ o, H o = none → K (.osl o size 0 src.length) (H.set o (.rows size src)))
    | .osl o s off len => s = size ∧ off = 0 ∧ roomFor len src.length bytes ∧ ∃ rs, H o = some (.rows size rs) ∧ len ≤ rs.length ∧
        K (.osl o size 0 (len + src.length)) (H.set o (.rows size (rs.take len ++ src))) ∧
        ∀ o', H o' = none → K (.osl o' size 0 (len + src.length)) ((H.set o .dead).set o' (.rows size (rs.take len ++ src)))
    | _ => False

/-- Operations that write to objects. -/
def wpWrite (op : POp) (F : PF) (H : PH) (K : PV → PH → Prop) : Prop :=
  match op with
  | .store n p x => match p.ev F, x.ev F with
    | some a, some v => v.cells.length = n ∧ ∃ H', storeAt H a v.cells = some H' ∧ K .junk H'
    | _, _ => False
  | .append size bytes x y => match x.ev F, y.ev F with
    | some a, some b => wpAppend H size bytes a b K
    | _, _ => False
  | .mapset sh x k v => match x.ev F, k.ev F, v.ev F with
    | some (.map o), some kv, some vv => match H o, keyOf sh kv with
      | some (.map sh' g), some key => sh' = sh ∧ K .junk (H.set o (.map sh (g.upd key vv)))
      | _, _ => False
    | _, _, _ => False
  | .insert sh x k v => match x.ev F, k.ev F, v.ev F with
    | some (.map o), some kv, some vv => match H o, keyOf sh kv with
      | some (.map sh' g), some key => sh' = sh ∧ g key = none ∧ K .junk (H.set o (.map sh (g.upd key vv)))
      | _, _ => False
    | _, _, _ => False
  | _ => False

/-- What a value becomes when object 'o' is never written again. -/
def PV.frz1 (o s : Nat) (rs : List (List PV)) : PV → PV
  | .osl q s' off len => if q = o then (if s' = s ∧ off + len ≤ rs.length then .sl s ((rs.drop off).take len) else .junk) else .osl q s' off len
  | v => v
def PV.frz2 (o s : Nat) (rs : List (List PV)) : PV → PV
  | .agg cs => .agg (cs.map (PV.frz1 o s rs))
  | v => v.frz1 o s rs
def PV.frz (o s : Nat) (rs : List (List PV)) : PV → PV
  | .tup vs => .tup (vs.map (PV.frz2 o s rs))
  | v => v.frz2 o s rs
def PObj.frz (o s : Nat) (rs : List (List PV)) : PObj → PObj
  | .rows s' rs' => .rows s' (rs'.map fun r => r.map (PV.frz1 o s rs))
  | x => x
def PF.frz (F : PF) (o s : Nat) (rs : List (List PV)) : PF := fun i => (F i).map (PV.frz o s rs)
def PH.frz (H : PH) (o s : Nat) (rs : List (List PV)) : PH :=
  ⟨fun q => if q = o then none else (H q).map (PObj.frz o s rs), by
    obtain ⟨n, hn⟩ := H.fin
    exact ⟨n, fun q hq => by simp [hn q hq]⟩⟩

inductive SFrz : PF → PH → PF → PH → Prop
  | refl (F : PF) (H : PH) : SFrz F H F H
  | step {F F' : PF} {H H' : PH} (o : Nat) {s : Nat} {rs : List (List PV)} (ho : H o = some (.rows s rs)) (h : SFrz (F.frz o s rs) (H.frz o s rs) F' H') : SFrz F H F' H'

structure Ctx where
  P : Program
  num : Nat → FuncId

inductive RepVs (E : Env) : List PV → List Value → Prop
  | nil : RepVs E [] []
  | cons {p : PV} {v : Value} {ps : List PV} {vs : List Value} (h : RepV E p v) (t : RepVs E ps vs) : RepVs E (p :: ps) (v :: vs)

/-- A call of the function 'name' at pure arguments that owns 'H': it returns, and 'R' holds of what it returns and of the objects behind it. -/
def ECalls (C : Ctx) (name : Nat) (args : List PV) (H : PH) (R : PV → PH → Prop) : Prop :=
  (∃ fn, C.P.funcs[C.num name]? = some fn ∧ fn.body.isSome = true ∧ (fn.name == "runtime.NumGoroutine") = false) ∧
  ∀ (E : Env) (w : World) (vs : Array Value), E.num = C.num → WRel E H w → RepVs E args vs.toList →
    Calls C.P (C.num name) vs w fun e w' => ∃ v pv E' H', e = .returned v ∧ WRel E' H' w' ∧ RepV E' pv v ∧ Ext E H w E' H' w' ∧ R pv H'

inductive PExit where
  | normal
  | exit (id : Nat)
  | ret

abbrev Kont := PExit → PF → PH → Prop

def PF.put (F : PF) (d : Option Nat) (v : PV) : PF :=
  match d with
  | some d => F.set d v
  | none => F

def wpCalm (r : Option PV) (d : Option Nat) (K : PF → PH → Prop) (F : PF) (H : PH) : Prop := ∃ v, r = some v ∧ K (F.put d v) H
def wpNew (r : Option ((Nat → PV) × PObj)) (d : Option Nat) (K : PF → PH → Prop) (F : PF) (H : PH) : Prop :=
  ∃ mk x, r = some (mk, x) ∧ ∀ o, H o = none → K (F.put d (mk o)) (H.set o x)

def Apart (H H0 H' : PH) : Prop := ∀ o x, H' o = some x → H0 o = none → H o = none

def wpCallNow (C : Ctx) (name : Nat) (args : Option (List PV)) (d : Option Nat) (K : PF → PH → Prop) (F : PF) (H : PH) : Prop :=
  ∃ vs H0 R, args = some vs ∧ H0.le H ∧ ECalls C name vs H0 R ∧ ∀ r H', R r H' → Apart H H0 H' → K (F.put d r) (H.over H0 H')

/-- A call; objects may be given up to it for good. -/
def wpCall (C : Ctx) (name : Nat) (args : List POpd) (cs : List PV) (d : Option Nat) (K : PF → PH → Prop) (F : PF) (H : PH) : Prop :=
  wpCallNow C name ((POpd.evs F args).map (· ++ cs)) d K F H ∨
  ∃ F1 H1, SFrz F H F1 H1 ∧ wpCallNow C name ((POpd.evs F1 args).map (· ++ cs)) d K F1 H1

def POp.isNew : POp → Bool
  | .alloc _ | .box false _ | .bslice false .. | .mkslice .. | .mkmap _ => true
  | _ => false
def POp.isWrite : POp → Bool
  | .store .. | .append .. | .mapset .. | .insert .. => true
  | _ => false

def wpOp (C : Ctx) (op : POp) (d : Option Nat) (K : PF → PH → Prop) (F : PF) (H : PH) : Prop :=
  match op with
  | .call name args => wpCall C name args [] d K F H
  | .callv x args => ∃ name cs, x.ev F = some (.fn name cs) ∧ wpCall C name args cs d K F H
  | op => if op.isNew then wpNew (allocOf op F) d K F H else if op.isWrite then wpWrite op F H (fun r H' => K (F.put d r) H') else wpCalm (peval op F H) d K F H

def wpOps (C : Ctx) : List PInstr → (PF → PH → Prop) → PF → PH → Prop
  | [], K, F, H => K F H
  | i :: rest, K, F, H => match i.guard with
    | none => wpOp C i.op i.dst (wpOps C rest K) F H
    | some (t, want) => match F t with
      | some (.bool b) => if b = want then wpOp C i.op i.dst (wpOps C rest K) F H else wpOps C rest K (F.put i.dst (.tup [])) H
      | some (.tup []) => wpOps C rest K (F.put i.dst (.tup [])) H
      | _ => False

/-- The objects of 'H' whose numbers are in 'D'. -/
def PH.only (H : PH) (D : List Nat) : PH :=
  ⟨fun o => if o ∈ D then H o else none, by
    obtain ⟨n, hn⟩ := H.fin
    exact ⟨n, fun o ho => by simp [hn o ho]⟩⟩

/-- What is taken of a call in a region that draws its order: which objects it is handed, and what it does with them: by its name and arguments alone. -/
abbrev Spec := Nat → List PV → Option (List Nat × (PH → PV → PH → Prop))

/-- The four kinds of what an instruction does, its operands read. -/
inductive Kind where
  | fail
  | calm (f : PH → Option PV)
  | new (r : Option ((Nat → PV) × PObj))
  | write (w : PH → (PV → PH → Prop) → Prop)
  | call (name : Nat) (args : Option (List PV))
  | ins (r : Option (Nat × MSh × List KS × PV))

def POp.kind (op : POp) (F : PF) : Kind :=
  match op with
  | .call name args => .call name (POpd.evs F args)
  | .callv x args => match x.ev F with
    | some (.fn name cs) => .call name ((POpd.evs F args).map (· ++ cs))
    | _ => .fail
  | .insert sh x k v => .ins (match x.ev F, k.ev F, v.ev F with
    | some (.map o), some kv, some vv => (keyOf sh kv).map fun key => (o, sh, key, vv)
    | _, _, _ => none)
  | op => if op.isNew then .new (allocOf op F) else if op.isWrite then .write (fun H K => wpWrite op F H K) else .calm (peval op F)

/-- An instruction's guard is looked at first. -/
def PInstr.kind (i : PInstr) (F : PF) : Kind :=
  match i.guard with
  | none => i.op.kind F
  | some (t, want) => match F t with
    | some (.bool b) => if b = want then i.op.kind F else .calm (fun _ => some (.tup []))
    | some (.tup []) => .calm (fun _ => some (.tup []))
    | _ => .fail

/-- In a region that draws its order: 'st': what the instruction reads lies in 'Hs', which no instruction of the region turns. -/
def Kind.run (C : Ctx) (Hs : PH) (S : Spec) (st : Bool) (k : Kind) (K : PV → PH → Prop) (H : PH) : Prop :=
  match k with
  | .fail => False
  | .calm f => ∃ v, f (if st then Hs else H) = some v ∧ K v H
  | .new r => ∃ mk x, r = some (mk, x) ∧ ∀ o, H o = none → K (mk o) (H.set o x)
  | .write w => w H fun r H' => Hs.le H' ∧ K r H'
  | .ins r => ∃ o sh key v g, r = some (o, sh, key, v) ∧ H o = some (.map sh g) ∧ g key = none ∧ Hs o = none ∧ K .junk (H.set o (.map sh (g.upd key v)))
  | .call name args => ∃ vs D R, args = some vs ∧ S name vs = some (D, R) ∧ (∀ o ∈ D, ∃ x, H o = some x) ∧ ECalls C name vs (H.only D) (R (H.only D)) ∧
      (∀ G : PH, ∃ r H', R (H.only D) r H' ∧ Apart G (H.only D) H') ∧
      ∀ r H', R (H.only D) r H' → Apart H (H.only D) H' → Hs.le (H.over (H.only D) H') ∧ K r (H.over (H.only D) H')

def wpD (C : Ctx) (Hs : PH) (S : Spec) : List (PInstr × Bool) → (PF → PH → Prop) → PF → PH → Prop
  | [], K, F, H => K F H
  | i :: rest, K, F, H => (i.1.kind F).run C Hs S i.2 (fun v H' => wpD C Hs S rest K (F.put i.1.dst v) H') H

def seqK (C : Ctx) (w : Kont → PF → PH → Prop) (K : Kont) : Kont
  | .normal, F, H => w K F H
  | e, F, H => K e F H
def blockK (id : Nat) (K : Kont) : Kont
  | .exit id', F, H => if id' = id then K .normal F H else K (.exit id') F H
  | e, F, H => K e F H
def loopK {α : Type} (Fs : α → PF) (Hs : α → PH) (Pr : α → Prop) (m : α → Nat) (n : Nat) (K : Kont) : Kont
  | .normal, F, H => ∃ a F1 H1, SFrz F H F1 H1 ∧ Pr a ∧ m a < n ∧ (Fs a).le F1 ∧ (Hs a).le H1
  | e, F, H => K e F H

def PCode.wp (C : Ctx) : PCode → Kont → PF → PH → Prop
  | .skip, K, F, H => K .normal F H
  | .region ops, K, F, H => wpOps C ops (K .normal) F H
  | .draw ops, K, F, H => ∃ Hs S, PH.le Hs H ∧ wpD C Hs S ops (K .normal) F H
  | .seq a b, K, F, H => a.wp C (seqK C (b.wp C) K) F H
  | .cond c a b, K, F, H => match c.ev F with
    | some (.bool t) => if t then a.wp C K F H else b.wp C K F H
    | _ => False
  | .block id c, K, F, H => c.wp C (blockK id K) F H
  | .loop c, K, F, H => ∃ (α : Type) (Fs : α → PF) (Hs : α → PH) (Pr : α → Prop) (m : α → Nat) (a0 : α) (F1 : PF) (H1 : PH), SFrz F H F1 H1 ∧ Pr a0 ∧ (Fs a0).le F1 ∧ (Hs a0).le H1 ∧
      ∀ a, Pr a → c.wp C (loopK Fs Hs Pr m (m a) K) (Fs a) (Hs a)
  | .exit id, K, F, H => K (.exit id) F H
  | .ret, K, F, H => K .ret F H

def PRes.ev (F : PF) (H : PH) : PRes → Option PV
  | .tmp t => F t
  | .cell t none => match F t with
    | some p => match loadCells H p 1 with
      | some [v] => some v
      | _ => none
    | none => none
  | .cell t (some k) => match F t with
    | some p => (loadCells H p k).map .agg
    | none => none

def PRes.evs (F : PF) (H : PH) : List PRes → Option (List PV)
  | [] => some []
  | r :: rs => match r.ev F H, PRes.evs F H rs with
    | some v, some vs => some (v :: vs)
    | _, _ => none

def packRes : List PV → PV
  | [v] => v
  | vs => .tup vs

/-- What is behind the body: the results, objects given up and forgotten as one likes. -/
def retK (res : List PRes) (R : PV → PH → Prop) : Kont
  | .exit _, _, _ => False
  | _, F, H => ∃ vs, PRes.evs F H res = some vs ∧ ∃ F1 H1 H2, SFrz (PF.nil.set 0 (packRes vs)) H F1 H1 ∧ H2.le H1 ∧ ∃ v, F1 0 = some v ∧ R v H2

def PF.args (vs : List PV) : PF := fun i => vs[i]?

end Go.PM
