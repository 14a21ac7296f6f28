/- Part A1 of the proof. -/
import Derived.Orders
import Derived.Below
import Derived.WalkKit
import Derived.Laws.StructEq
import Derived.Laws.Small
import Derived.Laws.Strings
import Derived.WalkSpells
import Derived.ChangeKeysEq
import Derived.WideKeyRuns
import Derived.Laws.IdiomStrings
import Derived.Laws.CopyRow
import Derived.IntWalk
/- The abstract machine: values, heap, operations, code, calls. -/
set_option linter.unusedVariables false
set_option linter.unusedSimpArgs false
namespace Go.AM

inductive V where
  | undef
  | bool (b : Bool)
  | int (k : IntKind) (n : Int)
  | str (s : List UInt8)
  | nil
  | lst (xs : List V)
  | ref (id s off len : Nat)
  | ptr (id s i fo : Nat)
  | cptr (cs : List V)
  | nilp
  | map (id : Nat)
  | nilm
  | fn (f : Nat) (pre cap : List V)
  | nilf
  | agg (cs : List V)
  | tup (xs : List V)
  deriving Inhabited

mutual
def V.beq : V → V → Bool
  | .undef, .undef => true
  | .bool a, .bool b => a == b
  | .int k a, .int l b => k == l && a == b
  | .str a, .str b => a == b
  | .nil, .nil => true
  | .lst a, .lst b => V.beqs a b
  | .ref a b c d, .ref a' b' c' d' => a == a' && (b == b' && (c == c' && d == d'))
  | .ptr a b c d, .ptr a' b' c' d' => a == a' && (b == b' && (c == c' && d == d'))
  | .cptr a, .cptr b => V.beqs a b
  | .nilp, .nilp => true
  | .map a, .map b => a == b
  | .nilm, .nilm => true
  | .fn f p a, .fn g q b => f == g && (V.beqs p q && V.beqs a b)
  | .nilf, .nilf => true
  | .agg a, .agg b => V.beqs a b
  | .tup a, .tup b => V.beqs a b
  | _, _ => false
def V.beqs : List V → List V → Bool
  | [], [] => true
  | x :: xs, y :: ys => V.beq x y && V.beqs xs ys
  | _, _ => false
end
mutual
theorem V.beq_iff : ∀ a b : V, V.beq a b = true ↔ a = b
  | .undef, b => by cases b <;> simp [V.beq]
  | .bool a, b => by cases b <;> simp [V.beq]
  | .int k a, b => by cases b <;> simp [V.beq]
  | .str a, b => by cases b <;> simp [V.beq]
  | .nil, b => by cases b <;> simp [V.beq]
  | .lst a, b => by cases b <;> simp [V.beq, V.beqs_iff a]
  | .ref .., b => by cases b <;> simp [V.beq]
  | .ptr .., b => by cases b <;> simp [V.beq]
  | .cptr a, b => by cases b <;> simp [V.beq, V.beqs_iff a]
  | .nilp, b => by cases b <;> simp [V.beq]
  | .map a, b => by cases b <;> simp [V.beq]
  | .nilm, b => by cases b <;> simp [V.beq]
  | .fn f p a, b => by cases b <;> simp [V.beq, V.beqs_iff a, V.beqs_iff p]
  | .nilf, b => by cases b <;> simp [V.beq]
  | .agg a, b => by cases b <;> simp [V.beq, V.beqs_iff a]
  | .tup a, b => by cases b <;> simp [V.beq, V.beqs_iff a]
theorem V.beqs_iff : ∀ a b : List V, V.beqs a b = true ↔ a = b
  | [], b => by cases b <;> simp [V.beqs]
  | x :: xs, b => by cases b <;> simp [V.beqs, V.beq_iff x, V.beqs_iff xs]
end
instance : DecidableEq V := fun a b => decidable_of_iff _ (V.beq_iff a b)

inductive SK where
  | int (k : IntKind)
  | bool
  | str
  deriving DecidableEq
inductive KT where
  | one (k : SK)
  | many (ks : List SK)
  deriving DecidableEq
inductive O where
  | row (s : Nat) (fl : Bool) (xs : List V)
  | map (kt : KT) (es : List (V × V))
  | trow (t : Nat) (ex : Bool) (cs : List V)
  | dead
  deriving Inhabited, DecidableEq
abbrev Heap := List O

def V.cells : V → List V
  | .agg cs => cs
  | v => [v]
/-- It may lie in one cell of memory. -/
def V.sc : V → Bool
  | .agg _ | .tup _ | .undef => false
  | _ => true
/-- Data in one cell. -/
def V.dsc : V → Bool
  | .bool _ | .int _ _ | .str _ | .lst _ => true
  | _ => false
def V.flat1 : V → Bool
  | .bool _ | .int _ _ | .str _ => true
  | _ => false
def okEl (s : Nat) (fl : Bool) (x : V) : Bool := x.cells.length == s && (x.cells.all V.sc && (!fl || x.cells.all V.flat1))

inductive Opd where
  | t (i : Nat)
  | c (v : V)
  deriving Inhabited, DecidableEq
structure Sh where
  agg : Bool
  n : Nat
  deriving DecidableEq
def SK.conf : SK → V → Bool
  | .int k, .int l _ => k == l
  | .bool, .bool _ => true
  | .str, .str _ => true
  | _, _ => false
def confs : List SK → List V → Bool
  | [], [] => true
  | k :: ks, v :: vs => k.conf v && confs ks vs
  | _, _ => false
def KT.conf : KT → V → Bool
  | .one k, v => k.conf v
  | .many ks, .agg cs => confs ks cs
  | _, _ => false

inductive NK where
  | sl | mp | pt | fu
  deriving DecidableEq
inductive POp where
  | mov (x : Opd)
  | pick (c a b : Opd)
  | build (z : List V) (ps : List (Nat × Nat × Opd))
  | nilck (x : Opd)
  | bin (op : BinOp) (x y : Opd)
  | beq (neg : Bool) (x y : Opd)
  | eqs (neg : Bool) (ks : List SK) (x y : Opd)
  | isnil (kind : NK) (neg : Bool) (x : Opd)
  | un (op : UnOp) (x : Opd)
  | conv (k : IntKind) (x : Opd)
  | mkfn (f : Nat) (first caps : List Opd)
  | slc (s : Nat) (x : Opd) (lo hi : Option Opd)
  | sls (x : Opd) (lo hi : Option Opd)
  | fad (off : Nat) (x : Opd)
  | fld (off : Nat) (sh : Sh) (x : Opd)
  | iad (s : Nat) (x i : Opd)
  | iar (len s : Nat) (x i : Opd)
  | ixs (x i : Opd)
  | ixa (len : Nat) (sh : Sh) (x i : Opd)
  | ext (x : Opd) (i : Nat)
  | len (str : Bool) (x : Opd)
  | min (x y : Opd)
  | max (x y : Opd)
  deriving DecidableEq
inductive ROp where
  | load (sh : Sh) (a : Opd)
  | look (kt : KT) (z : V) (ok : Bool) (m k : Opd)
  | lenm (m : Opd)
  | b2s (x : Opd)
  deriving DecidableEq
inductive LOp where
  | alloc (s : Nat) (fl : Bool) (z : V)
  | box (s : Nat) (fl : Bool) (x : Opd)
  | mks (s : Nat) (fl : Bool) (z : List V) (n : Nat) (ps : List (Nat × Opd))
  | make (s : Nat) (fl : Bool) (z : V) (bytes : Nat) (len cap : Opd)
  | mkmap (kt : KT)
  | mkmaph (kt : KT) (h : Opd)
  | allocT (t : Nat)
  | boxT (t : Nat) (x : Opd)
  deriving DecidableEq
inductive EOp where
  | store (n : Nat) (a x : Opd)
  | app (s : Nat) (fl : Bool) (bytes : Nat) (a b : Opd)
  | copy (s : Nat) (a b : Opd)
  | clear (s : Nat) (z : V) (a : Opd)
  | mup (kt : KT) (m k x : Opd)
  | call (f : Nat) (args : List Opd)
  | callv (g : Opd) (args : List Opd)
  | s2b (x : Opd)
  deriving DecidableEq
inductive AOp where
  | p (o : POp)
  | r (o : ROp)
  | l (o : LOp)
  | e (o : EOp)
  deriving DecidableEq

def dec (p : Prop) [Decidable p] : V := .bool (decide p)

def bitsOp (op : BinOp) (k : IntKind) (a b : Int) : Int :=
  match op with
  | .and => k.wrap (BitVec.ofInt k.bits a &&& BitVec.ofInt k.bits b).toNat
  | .or => k.wrap (BitVec.ofInt k.bits a ||| BitVec.ofInt k.bits b).toNat
  | .xor => k.wrap (BitVec.ofInt k.bits a ^^^ BitVec.ofInt k.bits b).toNat
  | _ => k.wrap (BitVec.ofInt k.bits a &&& ~~~ BitVec.ofInt k.bits b).toNat

def binI (op : BinOp) (k : IntKind) (a b : Int) : Option V :=
  match op with
  | .add => some (.int k (k.wrap (a + b)))
  | .sub => some (.int k (k.wrap (a - b)))
  | .mul => some (.int k (k.wrap (a * b)))
  | .quo => if b = 0 then none else some (.int k (k.wrap (a.tdiv b)))
  | .rem => if b = 0 then none else some (.int k (a.tmod b))
  | .and => some (.int k (bitsOp .and k a b))
  | .or => some (.int k (bitsOp .or k a b))
  | .xor => some (.int k (bitsOp .xor k a b))
  | .andNot => some (.int k (bitsOp .andNot k a b))
  | .eql => some (.bool (decide (a = b)))
  | .neq => some (.bool (!decide (a = b)))
  | .lss => some (.bool (decide (a < b)))
  | .leq => some (.bool (decide (a ≤ b)))
  | .gtr => some (.bool (decide (b < a)))
  | .geq => some (.bool (decide (b ≤ a)))
  | _ => none
def shI (op : BinOp) (k : IntKind) (a b : Int) : Option V :=
  if b < 0 then none else
  match op with
  | .shl => some (.int k (k.wrap (a * 2 ^ (Nat.min b.toNat k.bits))))
  | .shr => some (.int k (a.fdiv (2 ^ (Nat.min b.toNat k.bits))))
  | _ => none
def isShift : BinOp → Bool
  | .shl | .shr => true
  | _ => false
/-- How long a string may grow. -/
def maxStr : Nat := 4611686018427387904
def binS (op : BinOp) (a b : List UInt8) : Option V :=
  match op with
  | .add => if a.length + b.length ≤ maxStr then some (.str (a ++ b)) else none
  | .eql => some (.bool (decide (a = b)))
  | .neq => some (.bool (!decide (a = b)))
  | _ => none
def stepBin (op : BinOp) : V → V → Option V
  | .int k a, .int l b => if isShift op then shI op k a b else if k = l then binI op k a b else none
  | .str a, .str b => binS op a b
  | _, _ => none
def stepUn : UnOp → V → Option V
  | .neg, .int k n => some (.int k (k.wrap (0 - n)))
  | .xor, .int k n => some (.int k (bitsOp .xor k (if k.signed then -1 else k.max) n))
  | .not, .bool b => some (.bool (!b))
  | _, _ => none
def setCells (cs : List V) (off : Nat) (vs : List V) : List V := cs.take off ++ vs ++ cs.drop (off + vs.length)
def buildCells : List V → List (Nat × Nat × V) → Option (List V)
  | cs, [] => some cs
  | cs, (off, n, v) :: r => if v.cells.length = n ∧ off + n ≤ cs.length ∧ v.cells.all V.sc = true then buildCells (setCells cs off v.cells) r else none
def part (sh : Sh) (cs : List V) (off : Nat) : Option V :=
  if sh.agg then (if off + sh.n ≤ cs.length then some (.agg ((cs.drop off).take sh.n)) else none) else cs[off]?
def ixOf (v : V) (len : Nat) : Option Nat :=
  match v with
  | .int _ i => if 0 ≤ i ∧ i < (len : Int) then some i.toNat else none
  | _ => none
/-- A bound of a slice expression: at most m. -/
def bdOf (v : Option V) (d m : Nat) : Option Nat :=
  match v with
  | none => some d
  | some (.int _ i) => if 0 ≤ i ∧ i ≤ (m : Int) then some i.toNat else none
  | _ => none

/-- What a value held against nil tells. -/
def nilB : NK → V → Option Bool
  | .sl, .nil | .pt, .nilp | .mp, .nilm | .fu, .nilf => some true
  | .sl, .ref _ _ _ n => if n = 0 then none else some false
  | .sl, .lst xs => if xs.isEmpty then none else some false
  | .pt, .ptr .. | .pt, .cptr _ | .mp, .map _ | .fu, .fn .. => some false
  | _, _ => none
def stepP (ρ : Opd → V) : POp → Option V
  | .mov x => some (ρ x)
  | .pick c a b => match ρ c with
    | .bool t => some (if t then ρ a else ρ b)
    | _ => none
  | .build z ps => (buildCells z (ps.map fun p => (p.1, p.2.1, ρ p.2.2))).map .agg
  | .nilck x => match ρ x with
    | .ptr id s i fo => some (.ptr id s i fo)
    | .cptr cs => some (.cptr cs)
    | .fn f p c => some (.fn f p c)
    | _ => none
  | .bin op x y => stepBin op (ρ x) (ρ y)
  | .beq neg x y => match ρ x, ρ y with
    | .bool a, .bool b => some (.bool (neg ^^ decide (a = b)))
    | _, _ => none
  | .eqs neg ks x y => match ρ x, ρ y with
    | .agg a, .agg b => if confs ks a && confs ks b then some (.bool (neg ^^ decide (a = b))) else none
    | _, _ => none
  | .isnil kd neg x => (nilB kd (ρ x)).map fun b => .bool (neg ^^ b)
  | .un op x => stepUn op (ρ x)
  | .conv k x => match ρ x with
    | .int _ n => some (.int k (k.wrap n))
    | _ => none
  | .mkfn f pre caps => some (.fn f (pre.map ρ) (caps.map ρ))
  | .slc s x lo hi => match ρ x with
    | .lst xs => do
      let h ← bdOf (hi.map ρ) xs.length xs.length
      let l ← bdOf (lo.map ρ) 0 h
      if xs.all (·.cells.length == s) then some (.lst ((xs.drop l).take (h - l))) else none
    | .ref id s' off len => do
      let h ← bdOf (hi.map ρ) len len
      let l ← bdOf (lo.map ρ) 0 h
      if s = s' then some (.ref id s (off + l) (h - l)) else none
    | .nil => do
      let h ← bdOf (hi.map ρ) 0 0
      let _ ← bdOf (lo.map ρ) 0 h
      some .nil
    | _ => none
  | .sls x lo hi => match ρ x with
    | .str b => do
      let h ← bdOf (hi.map ρ) b.length b.length
      let l ← bdOf (lo.map ρ) 0 h
      some (.str ((b.drop l).take (h - l)))
    | _ => none
  | .fad off x => match ρ x with
    | .ptr id s i fo => some (.ptr id s i (fo + off))
    | .cptr cs => if off < cs.length then some (.cptr (cs.drop off)) else none
    | _ => none
  | .fld off sh x => match ρ x with
    | .agg cs => part sh cs off
    | _ => none
  | .iad s x i => match ρ x with
    | .lst xs => do
      let j ← ixOf (ρ i) xs.length
      let v ← xs[j]?
      if v.cells.length = s then some (.cptr v.cells) else none
    | .ref id s' off len => do
      let j ← ixOf (ρ i) len
      if s = s' then some (.ptr id s (off + j) 0) else none
    | _ => none
  | .iar len s x i => match ρ x with
    | .ptr id s' k fo => do
      let j ← ixOf (ρ i) len
      some (.ptr id s' k (fo + j * s))
    | .cptr cs => do
      let j ← ixOf (ρ i) len
      if j * s < cs.length then some (.cptr (cs.drop (j * s))) else none
    | _ => none
  | .ixs x i => match ρ x with
    | .str b => do
      let j ← ixOf (ρ i) b.length
      let c ← b[j]?
      some (.int .u8 c.toNat)
    | _ => none
  | .ixa len sh x i => match ρ x with
    | .agg cs => do
      let j ← ixOf (ρ i) len
      part sh cs (j * sh.n)
    | _ => none
  | .ext x i => match ρ x with
    | .tup vs => vs[i]?
    | _ => none
  | .len st x => match st, ρ x with
    | true, .str b => some (.int .i64 b.length)
    | false, .lst xs => some (.int .i64 xs.length)
    | false, .ref _ _ _ n => some (.int .i64 n)
    | false, .nil => some (.int .i64 0)
    | _, _ => none
  | .min x y => match ρ x, ρ y with
    | .int k a, .int _ b => some (.int k (if b < a then b else a))
    | _, _ => none
  | .max x y => match ρ x, ρ y with
    | .int k a, .int _ b => some (.int k (if a < b then b else a))
    | _, _ => none

def mget : List (V × V) → V → Option V
  | [], _ => none
  | (k, v) :: r, x => if k = x then some v else mget r x
def mput : List (V × V) → V → V → List (V × V)
  | [], x, v => [(x, v)]
  | (k, u) :: r, x, v => if k = x then (k, v) :: r else (k, u) :: mput r x v

def rowAt (H : Heap) (id s : Nat) : Option (Bool × List V) :=
  match H[id]? with
  | some (.row s' fl xs) => if s = s' then some (fl, xs) else none
  | _ => none
/-- The elements of a slice. -/
def elems (H : Heap) : V → Option (List V)
  | .lst xs => some xs
  | .nil => some []
  | .ref id s off len => do
    let (_, xs) ← rowAt H id s
    if off + len ≤ xs.length then some ((xs.drop off).take len) else none
  | _ => none
/-- Bytes, of numbers. -/
def bytesOf : List V → Option (List UInt8)
  | [] => some []
  | .int .u8 n :: r => if 0 ≤ n ∧ n < 256 then (bytesOf r).map (UInt8.ofNat n.toNat :: ·) else none
  | _ => none
def stepR (ρ : Opd → V) (H : Heap) : ROp → Option V
  | .load sh a => match ρ a with
    | .ptr id s i fo => do
      let (_, xs) ← rowAt H id s
      let x ← xs[i]?
      part sh x.cells fo
    | .cptr cs => part sh cs 0
    | _ => none
  | .look kt z ok m k => if kt.conf (ρ k) then
      match ρ m with
      | .map id => match H[id]? with
        | some (.map kt' es) => if kt' = kt then match mget es (ρ k) with
          | some v => some (if ok then .tup [v, .bool true] else v)
          | none => some (if ok then .tup [z, .bool false] else z)
          else none
        | _ => none
      | .nilm => some (if ok then .tup [z, .bool false] else z)
      | _ => none
    else none
  | .lenm m => match ρ m with
    | .map id => match H[id]? with
      | some (.map _ es) => some (.int .i64 es.length)
      | _ => none
    | .nilm => some (.int .i64 0)
    | _ => none
  | .b2s x => (elems H (ρ x)).bind fun vs => (bytesOf vs).map .str

/-- What is made: the object, and the value that names it. -/
def stepL (ρ : Opd → V) (id : Nat) : LOp → Option (O × V)
  | .alloc s fl z => if okEl s fl z then some (.row s fl [z], .ptr id s 0 0) else none
  | .box s fl x => if okEl s fl (ρ x) then some (.row s fl [ρ x], .ptr id s 0 0) else none
  | .mks s fl z n ps => do
    let xs ← ps.foldlM (fun (xs : List V) (p : Nat × Opd) => if okEl s fl (ρ p.2) ∧ p.1 < xs.length then some (xs.set p.1 (ρ p.2)) else none) (List.replicate n (if z.length = 1 then z.headD .undef else .agg z))
    if xs.all (okEl s fl) then some (.row s fl xs, .ref id s 0 n) else none
  | .make s fl z bytes l c => match ρ l, ρ c with
    | .int .i64 a, .int .i64 b => if 0 ≤ a ∧ a ≤ b ∧ b * bytes ≤ 1099511627776 ∧ okEl s fl z = true ∧ b ≤ 1099511627776 then some (.row s fl (List.replicate a.toNat z), .ref id s 0 a.toNat) else none
    | _, _ => none
  | .mkmap kt => some (.map kt [], .map id)
  | .mkmaph kt h => match ρ h with
    | .int _ _ => some (.map kt [], .map id)
    | _ => none
  | .allocT t => some (.trow t true [.nilp, .nil], .ptr id 2 0 0)
  | .boxT t x => if ρ x = .agg [.nilp, .nil] then some (.trow t true [.nilp, .nil], .ptr id 2 0 0) else none

/-- A part of a value, written. -/
def V.putAt (u v : V) (fo : Nat) : V :=
  match u with
  | .agg cs => .agg (setCells cs fo v.cells)
  | _ => v
def storeAt (H : Heap) (n : Nat) (a v : V) : Option Heap :=
  match a with
  | .ptr id s i fo => do
    let (fl, xs) ← rowAt H id s
    let x ← xs[i]?
    if v.cells.length = n ∧ 1 ≤ n ∧ fo + n ≤ s ∧ v.cells.all V.sc = true ∧ (!fl || v.cells.all V.flat1) = true then
      some (H.set id (.row s fl (xs.set i (x.putAt v fo))))
    else none
  | _ => none
def appendTo (H : Heap) (s : Nat) (fl : Bool) (bytes : Nat) (a : V) (ys : List V) : Option (V × Heap) :=
  if ys.isEmpty then (match a with
    | .nil | .lst _ | .ref .. => some (a, H)
    | _ => none) else
  if ys.all (okEl s fl) then
    match a with
    | .nil => if ys.length * bytes ≤ 1099511627776 ∧ ys.length ≤ 1099511627776 then some (.ref H.length s 0 ys.length, H ++ [.row s fl ys]) else none
    | .ref id s' off len => do
      let (fl', xs) ← rowAt H id s'
      if s = s' ∧ fl = fl' ∧ off + len ≤ xs.length ∧ (len + ys.length) * bytes ≤ 1099511627776 ∧ len + ys.length ≤ 1099511627776 then
        some (.ref H.length s 0 (len + ys.length), H.set id .dead ++ [.row s fl ((xs.drop off).take len ++ ys)])
      else none
    | _ => none
  else none
abbrev CallF := Nat → List V → Heap → Option (V × Heap)
def stepE (call : CallF) (ρ : Opd → V) (H : Heap) : EOp → Option (V × Heap)
  | .store n a x => (storeAt H n (ρ a) (ρ x)).map (.tup [], ·)
  | .app s fl bytes a b => do
    let ys ← elems H (ρ b)
    appendTo H s fl bytes (ρ a) ys
  | .copy s a b => match ρ a with
    | .ref id s' off len => do
      let ys ← elems H (ρ b)
      let (fl, xs) ← rowAt H id s'
      let n := Nat.min ys.length len
      if s = s' ∧ off + len ≤ xs.length ∧ ys.all (okEl s fl) = true then
        some (.int .i64 n, H.set id (.row s fl (xs.take off ++ ys.take n ++ xs.drop (off + n))))
      else none
    | _ => none
  | .clear s z a => match ρ a with
    | .ref id s' off len => do
      let (fl, xs) ← rowAt H id s'
      if s = s' ∧ off + len ≤ xs.length ∧ okEl s fl z = true then
        some (.tup [], H.set id (.row s fl (xs.take off ++ List.replicate len z ++ xs.drop (off + len))))
      else none
    | .nil => some (.tup [], H)
    | _ => none
  | .mup kt m k x => match ρ m with
    | .map id => match H[id]? with
      | some (.map kt' es) => if kt' = kt ∧ (kt.conf (ρ k) && (ρ x).flat1) = true then some (.tup [], H.set id (.map kt (mput es (ρ k) (ρ x)))) else none
      | _ => none
    | _ => none
  | .call f args => call f (args.map ρ) H
  | .callv g args => match ρ g with
    | .fn f pre caps => call f (pre ++ args.map ρ ++ caps) H
    | _ => none
  | .s2b x => match ρ x with
    | .str b => some (.lst (b.map fun c => .int .u8 c.toNat), H)
    | _ => none
def stepA (call : CallF) (ρ : Opd → V) (H : Heap) : AOp → Option (V × Heap)
  | .p o => (stepP ρ o).map (·, H)
  | .r o => (stepR ρ H o).map (·, H)
  | .l o => (stepL ρ H.length o).map fun x => (x.2, H ++ [x.1])
  | .e o => stepE call ρ H o

structure AO where
  dst : Option Nat
  op : AOp
  guard : Option (Nat × Bool)
  /-- How many of the effects behind it, in a region that draws, have no order with it. -/
  re : Nat := 0
  deriving DecidableEq
abbrev St := List V × Heap
def ev (sl : List V) : Opd → V
  | .t i => sl.getD i .undef
  | .c v => v
def putD (sl : List V) (d : Option Nat) (v : V) : List V :=
  match d with
  | some i => sl.set i v
  | none => sl
def wants (sl : List V) : Option (Nat × Bool) → Option Bool
  | none => some true
  | some (g, b) => match sl.getD g .undef with
    | .bool t => some (t == b)
    | .tup [] => some false
    | _ => none
def isE : AOp → Bool
  | .e _ => true
  | _ => false
def stepAO (call : CallF) (o : AO) (st : St) : Option St :=
  match wants st.1 o.guard with
  | some true => (stepA call (ev st.1) st.2 o.op).map fun x => (putD st.1 o.dst x.1, x.2)
  | some false => some (putD st.1 o.dst (.tup []), st.2)
  | none => none
def runOps (call : CallF) : List AO → St → Option St
  | [], st => some st
  | o :: r, st => (stepAO call o st).bind (runOps call r)
/-- What must still hold behind the next effects, and behind how many. -/
abbrev Pend := (Heap → Bool) × Nat
def again (ps : List Pend) (H : Heap) : Bool := ps.all fun p => p.2 == 0 || p.1 H
def lower (ps : List Pend) : List Pend := ps.map fun p => (p.1, p.2 - 1)
def newPend (o : AO) (st st' : St) : List Pend :=
  if o.re = 0 then [] else
  match o.op, wants st.1 o.guard with
  | .r q, some true => [(fun H => decide (stepR (ev st.1) H q = stepR (ev st.1) st.2 q), o.re)]
  | .l _, some true => [(fun H => decide (H[st.2.length]? = st'.2[st.2.length]?), o.re)]
  | _, _ => []
def runDraw (call : CallF) : List AO → List Pend → St → Option St
  | [], _, st => some st
  | o :: r, ps, st => (stepAO call o st).bind fun st' =>
    if isE o.op then (if again ps st'.2 then runDraw call r (lower ps) st' else none)
    else runDraw call r (newPend o st st' ++ ps) st'

inductive C where
  | skip
  | stuck
  | reg (ops : List AO)
  | draw (ops : List AO)
  | seq (a b : C)
  | cond (x : Opd) (a b : C)
  | block (id : Nat) (c : C)
  | loop (c : C)
  | exit (id : Nat)
  | ret
inductive X where
  | norm
  | exit (id : Nat)
  | ret
  deriving DecidableEq
def iter : Nat → (St → Option (X × St)) → St → Option (X × St)
  | 0, _, _ => none
  | n + 1, f, st => match f st with
    | some (.norm, st') => iter n f st'
    | r => r
def runC (call : CallF) (n : Nat) : C → St → Option (X × St)
  | .skip, st => some (.norm, st)
  | .stuck, _ => none
  | .reg ops, st => (runOps call ops st).map (.norm, ·)
  | .draw ops, st => (runDraw call ops [] st).map (.norm, ·)
  | .seq a b, st => match runC call n a st with
    | some (.norm, st') => runC call n b st'
    | r => r
  | .cond x a b, st => match ev st.1 x with
    | .bool true => runC call n a st
    | .bool false => runC call n b st
    | _ => none
  | .block id c, st => match runC call n c st with
    | some (.exit j, st') => if j = id then some (.norm, st') else some (.exit j, st')
    | r => r
  | .loop c, st => iter n (runC call n c) st
  | .exit id, st => some (.exit id, st)
  | .ret, st => some (.ret, st)

inductive Res where
  | t (i : Nat)
  | cell (i : Nat) (sh : Sh)
inductive RM where
  | scal
  | frozF
  | exact
  | ownF
  | froz
  | own
  deriving DecidableEq
structure AF where
  np : Nat
  nt : Nat
  pure : Bool
  rm : RM
  res : List Res
  body : C

/-- What a value reads as, all of it. -/
def deep (H : Heap) : Nat → V → Option V
  | 0, _ => none
  | n + 1, v => match v with
    | .bool b => some (.bool b)
    | .int k i => some (.int k i)
    | .str s => some (.str s)
    | .lst xs => some (.lst xs)
    | .nil => some (.lst [])
    | .ref id s off len => match rowAt H id s with
      | some (fl, xs) => if off + len ≤ xs.length then
          if fl then some (.lst ((xs.drop off).take len)) else (((xs.drop off).take len).mapM (deep H n)).map .lst
        else none
      | none => none
    | .agg cs => (cs.mapM (deep H n)).map .agg
    | .tup cs => (cs.mapM (deep H n)).map .tup
    | _ => none
def V.data : V → Bool
  | .bool _ | .int _ _ | .str _ | .lst _ | .nil => true
  | .agg cs => cs.all fun c => match c with | .bool _ | .int _ _ | .str _ | .lst _ | .nil => true | _ => false
  | _ => false
def V.cellsT : V → List V
  | .agg cs => cs
  | .tup cs => cs.flatMap V.cells
  | v => [v]
/-- A slice of one's own whose elements hold nothing that is shared; or a scalar. -/
def freshF (h : Heap) (v : V) : Bool :=
  match v with
  | .bool _ | .int _ _ | .str _ | .nil => true
  | .ref id s _ _ => match rowAt h id s with
    | some (fl, _) => fl
    | none => false
  | _ => false
def V.ids : V → List Nat
  | .ref id _ _ _ => [id]
  | _ => []
/-- Slices laid into a heap. -/
def thaw1 (h : Heap) (full : Bool) (v : V) (H : Heap) : Option (V × Heap) :=
  match v with
  | .bool _ | .int _ _ | .str _ | .nil => some (v, H)
  | .ref id s off len => match rowAt h id s with
    | some (fl, xs) => if off + len ≤ xs.length ∧ (fl || (full && ((xs.drop off).take len).all fun y => y.cells.all V.dsc)) = true then
        some (.ref H.length s 0 len, H ++ [.row s fl ((xs.drop off).take len)])
      else none
    | none => none
  | _ => none
def thaws (h : Heap) (full : Bool) : List V → Heap → Option (List V × Heap)
  | [], H => some ([], H)
  | v :: r, H => (thaw1 h full v H).bind fun x => (thaws h full r x.2).map fun y => (x.1 :: y.1, y.2)
def fin (rm : RM) (v : V) (h H : Heap) : Option (V × Heap) :=
  match rm with
  | .scal => if v.cellsT.all V.flat1 then some (v, H) else none
  | .frozF => if v.cellsT.all (freshF h) then (deep h 8 v).map (·, H) else none
  | .exact => match v with
    | .nil => some (.nil, H)
    | _ => if v.cellsT.all (freshF h) then (deep h 8 v).map (·, H) else none
  | .froz => (deep h 8 v).map (·, H)
  | .ownF | .own => if (v.cellsT.flatMap V.ids).Nodup then
      match v with
      | .agg cs => (thaws h (rm == .own) cs H).map fun x => (.agg x.1, x.2)
      | .tup cs => (thaws h (rm == .own) cs H).map fun x => (.tup x.1, x.2)
      | v => thaw1 h (rm == .own) v H
    else none
def resOne (st : St) : Res → Option V
  | .t i => some (st.1.getD i .undef)
  | .cell i sh => stepR (ev st.1) st.2 (.load sh (.t i))
def oneOr : List V → V
  | [v] => v
  | vs => .tup vs
def resV (rs : List Res) (st : St) : Option V := (rs.mapM (resOne st)).map oneOr
def runF (call : CallF) (n : Nat) (fn : AF) (args : List V) (H : Heap) : Option (V × Heap) :=
  match runC call n fn.body (args ++ List.replicate (fn.nt - fn.np) (.tup []), H) with
  | some (.norm, st) | some (.ret, st) => (resV fn.res st).map (·, st.2)
  | _ => none
inductive Fn where
  | code (f : AF)
  | ext (g : List V → Heap → Option (V × Heap))
def callFn (call : CallF) (n : Nat) (fn : AF) (args : List V) (H : Heap) : Option (V × Heap) :=
  if args.length = fn.np then
    if fn.pure then
      if (fn.rm = .froz ∨ fn.rm = .own) ∧ ¬ args.all V.data then none
      else (args.mapM (deep H 8)).bind fun ds => (runF call n fn ds []).bind fun x => fin fn.rm x.1 x.2 H
    else runF call n fn args H
  else none
def callN (tbl : Nat → Option Fn) : Nat → CallF
  | 0 => fun _ _ _ => none
  | n + 1 => fun f args H => match tbl f with
    | some (.code fn) => callFn (callN tbl n) n fn args H
    | some (.ext g) => g args H
    | none => none
/-- What the program's text lays in a package's variable. -/
def laidTab : List (Nat × List V) := [(2, (List.range 20).map fun i => .int .u64 ((10 ^ i : Nat) : Int)), (1, ([0, 1, 56, 2, 57, 49, 28, 3, 61, 58, 42, 50, 38, 29, 17, 4, 62, 47, 59, 36, 45, 43, 51, 22, 53, 39, 33, 30, 24, 18, 12, 5, 63, 55, 48, 27, 60, 41, 37, 16, 46, 35, 44, 21, 52, 32, 23, 11, 54, 26, 40, 15, 34, 20, 31, 10, 25, 14, 19, 9, 13, 8, 7, 6] : List Nat).map fun i => .int .u8 ((i : Nat) : Int))]
def laidCells (g : Nat) : Option (List V) := laidTab.lookup g
def V.lit : V → Option Value
  | .bool b => some (.bool b)
  | .int k n => some (.int k n)
  | _ => none
end Go.AM

/- What abstract values and heaps say of a world. -/
set_option linter.unusedVariables false
set_option linter.unusedSimpArgs false
namespace Go.AM
open Go.RowKit

abbrev Mu := Nat → Option (Nat × Nat)

inductive VRel (μ : Mu) (S : Nat → Prop) (w : World) : V → Value → Prop where
  | undef (x : Value) : VRel μ S w .undef x
  | bool (b : Bool) : VRel μ S w (.bool b) (.bool b)
  | int (k : IntKind) (n : Int) : VRel μ S w (.int k n) (.int k n)
  | str (s : ByteArray) : VRel μ S w (.str s.data.toList) (.string s)
  | nil : VRel μ S w .nil (.slice none 0 0)
  | lst0 (a : Option Addr) (n : Nat) : VRel μ S w (.lst []) (.slice a 0 n)
  | lst (xs : List V) (s b o cap : Nat) (c : Array Value) (e : TypeId) (fz : Nat × Nat) (f : Nat → Value) :
      S b → w.heap[b]? = some (.cells c e fz) → xs.length ≤ cap → (∀ x ∈ xs, x.cells.length = s) →
      (∀ (j : Nat) (v : V), (xs.flatMap V.cells)[j]? = some v → v.dsc = true ∧ c[o + j]? = some (f j)) →
      (∀ (j : Nat) (v : V), (xs.flatMap V.cells)[j]? = some v → VRel μ S w v (f j)) → VRel μ S w (.lst xs) (.slice (some ⟨b, o, none⟩) xs.length cap)
  | ref (id s off len cap b o : Nat) (c : Array Value) (e : TypeId) (fz : Nat × Nat) : μ id = some (b, o) → w.heap[b]? = some (.cells c e fz) → len ≤ cap →
      o + (off + cap) * s ≤ c.size → VRel μ S w (.ref id s off len) (.slice (some ⟨b, o + off * s, none⟩) len cap)
  | ref0 (id s off : Nat) (a : Option Addr) : VRel μ S w (.ref id s off 0) (.slice a 0 0)
  | ptr (id s i fo b o : Nat) : μ id = some (b, o) → VRel μ S w (.ptr id s i fo) (.pointer (some ⟨b, o + i * s + fo, none⟩))
  | cptr (cs : List V) (b o : Nat) (c : Array Value) (e : TypeId) (fz : Nat × Nat) (f : Nat → Value) : S b → w.heap[b]? = some (.cells c e fz) →
      (∀ (j : Nat) (v : V), cs[j]? = some v → v.sc = true ∧ c[o + j]? = some (f j)) → (∀ (j : Nat) (v : V), cs[j]? = some v → VRel μ S w v (f j)) → VRel μ S w (.cptr cs) (.pointer (some ⟨b, o, none⟩))
  | nilp : VRel μ S w .nilp (.pointer none)
  | map (id b : Nat) : μ id = some (b, 0) → VRel μ S w (.map id) (.map (some b))
  | nilm : VRel μ S w .nilm (.map none)
  | fn (f : Nat) (pre cap : List V) (ps vs : Array Value) : pre.length = ps.size → (∀ (j : Nat) (v : V), pre[j]? = some v → VRel μ S w v (ps.getD j undef)) → cap.length = vs.size → (∀ (j : Nat) (v : V), cap[j]? = some v → VRel μ S w v (vs.getD j undef)) →
      VRel μ S w (.fn f pre cap) (.func (.func f) ps vs)
  | nilf : VRel μ S w .nilf .nilFunc
  | agg (cs : List V) (vs : Array Value) : cs.length = vs.size → (∀ (j : Nat) (v : V), cs[j]? = some v → v.sc = true) → (∀ (j : Nat) (v : V), cs[j]? = some v → VRel μ S w v (vs.getD j undef)) →
      VRel μ S w (.agg cs) (.agg vs)
  | tup (cs : List V) (vs : Array Value) : cs.length = vs.size → (∀ (j : Nat) (v : V), cs[j]? = some v → VRel μ S w v (vs.getD j undef)) →
      VRel μ S w (.tup cs) (.tuple vs)

theorem VRel.mono {μ μ' : Mu} {S S' : Nat → Prop} {w w' : World} (hμ : ∀ id p, μ id = some p → μ' id = some p) (hS : ∀ b, S b → S' b)
    (hk : ∀ b, S b → w'.heap[b]? = w.heap[b]?) (hsh : ∀ (b : Nat) (c : Array Value) (e : TypeId) (fz : Nat × Nat), w.heap[b]? = some (.cells c e fz) → ∃ (c' : Array Value) (fz' : Nat × Nat), w'.heap[b]? = some (.cells c' e fz') ∧ c'.size = c.size)
    {v : V} {x : Value} (h : VRel μ S w v x) : VRel μ' S' w' v x := by
  induction h with
  | undef x => exact .undef x
  | bool b => exact .bool b
  | int k n => exact .int k n
  | str s => exact .str s
  | nil => exact .nil
  | lst0 a n => exact .lst0 a n
  | lst xs s b o cap c e fz f h1 h2 h3 h4 h5 _ ih => exact .lst xs s b o cap c e fz f (hS b h1) ((hk b h1).trans h2) h3 h4 h5 ih
  | ref id s off len cap b o c e fz h1 h2 h3 h4 =>
    obtain ⟨c', fz', hc, hs⟩ := hsh b c e fz h2
    exact .ref id s off len cap b o c' e fz' (hμ _ _ h1) hc h3 (hs ▸ h4)
  | ref0 id s off a => exact .ref0 id s off a
  | ptr id s i fo b o h => exact .ptr id s i fo b o (hμ _ _ h)
  | cptr cs b o c e fz f h1 h2 h3 _ ih => exact .cptr cs b o c e fz f (hS b h1) ((hk b h1).trans h2) h3 ih
  | nilp => exact .nilp
  | map id b h => exact .map id b (hμ _ _ h)
  | nilm => exact .nilm
  | fn f pre cap ps vs h1 _ h _ ih1 ih => exact .fn f pre cap ps vs h1 ih1 h ih
  | nilf => exact .nilf
  | agg cs vs h1 h2 _ ih => exact .agg cs vs h1 h2 ih
  | tup cs vs h _ ih => exact .tup cs vs h ih

theorem dsc_sc {v : V} (h : v.dsc = true) : v.sc = true := by cases v <;> first | rfl | simp [V.dsc] at h
/-- One cell's value. -/
def oneC : Value → Bool
  | .agg _ | .tuple _ => false
  | _ => true
theorem VRel.oneC {μ : Mu} {S : Nat → Prop} {w : World} {v : V} {x : Value} (h : VRel μ S w v x) (hv : v.sc = true) : oneC x = true := by
  cases h <;> first | rfl | simp [V.sc] at hv

inductive VRels (μ : Mu) (S : Nat → Prop) (w : World) : List V → List Value → Prop where
  | nil : VRels μ S w [] []
  | cons {v x vs xs} : VRel μ S w v x → VRels μ S w vs xs → VRels μ S w (v :: vs) (x :: xs)
theorem VRels.length {μ : Mu} {S : Nat → Prop} {w : World} {vs : List V} {xs : List Value} (h : VRels μ S w vs xs) : vs.length = xs.length := by
  induction h with
  | nil => rfl
  | cons _ _ ih => simp [ih]
theorem VRels.of {μ : Mu} {S : Nat → Prop} {w : World} : ∀ {vs : List V} {xs : List Value}, vs.length = xs.length → (∀ (j : Nat) (v : V), vs[j]? = some v → VRel μ S w v (xs.getD j undef)) → VRels μ S w vs xs
  | [], [], _, _ => .nil
  | v :: vs, x :: xs, hl, h => .cons (by simpa using h 0 v rfl) (VRels.of (by simpa using hl) fun j u hj => by simpa using h (j + 1) u (by simpa using hj))
theorem VRels.get {μ : Mu} {S : Nat → Prop} {w : World} {vs : List V} {xs : List Value} (h : VRels μ S w vs xs) : ∀ (j : Nat) (v : V), vs[j]? = some v → VRel μ S w v (xs.getD j undef) := by
  induction h with
  | nil => intro j v hj; simp at hj
  | cons h _ ih =>
    intro j v hj
    cases j with
    | zero => simp at hj; subst hj; simpa using h
    | succ j => simpa using ih j v (by simpa using hj)
theorem VRels.get? {μ : Mu} {S : Nat → Prop} {w : World} {vs : List V} {xs : List Value} (h : VRels μ S w vs xs) (j : Nat) (v : V) (hj : vs[j]? = some v) : ∃ x, xs[j]? = some x ∧ VRel μ S w v x := by
  have := h.get j v hj
  have hl := h.length
  have hlt : j < vs.length := (List.getElem?_eq_some_iff.1 hj).1
  refine ⟨xs[j]'(hl ▸ hlt), List.getElem?_eq_getElem _, ?_⟩
  simpa [List.getD, List.getElem?_eq_getElem (hl ▸ hlt : j < xs.length)] using this
theorem VRels.append {μ : Mu} {S : Nat → Prop} {w : World} {vs us : List V} {xs ys : List Value} (h : VRels μ S w vs xs) (k : VRels μ S w us ys) : VRels μ S w (vs ++ us) (xs ++ ys) := by
  induction h with
  | nil => exact k
  | cons h _ ih => exact .cons h ih
theorem VRels.agg {μ : Mu} {S : Nat → Prop} {w : World} {cs : List V} {vs : List Value} (h : VRels μ S w cs vs) (hs : cs.all V.sc = true) : VRel μ S w (.agg cs) (.agg vs.toArray) :=
  .agg cs vs.toArray (by simpa using h.length) (fun j v hj => List.all_eq_true.1 hs v (List.mem_of_getElem? hj)) (fun j v hj => by simpa using h.get j v hj)
theorem VRels.tup {μ : Mu} {S : Nat → Prop} {w : World} {cs : List V} {vs : List Value} (h : VRels μ S w cs vs) : VRel μ S w (.tup cs) (.tuple vs.toArray) :=
  .tup cs vs.toArray (by simpa using h.length) (fun j v hj => by simpa using h.get j v hj)
theorem VRel.agg_inv {μ : Mu} {S : Nat → Prop} {w : World} {cs : List V} {x : Value} (h : VRel μ S w (.agg cs) x) : ∃ vs : List Value, x = .agg vs.toArray ∧ VRels μ S w cs vs ∧ cs.all V.sc = true := by
  cases h with
  | agg _ vs h1 h2 h3 => exact ⟨vs.toList, by simp, VRels.of (by simpa using h1) (fun j v hj => by simpa using h3 j v hj), List.all_eq_true.2 fun v hv => by
      obtain ⟨j, hj⟩ := List.getElem?_of_mem hv; exact h2 j v hj⟩
theorem VRel.tup_inv {μ : Mu} {S : Nat → Prop} {w : World} {cs : List V} {x : Value} (h : VRel μ S w (.tup cs) x) : ∃ vs : List Value, x = .tuple vs.toArray ∧ VRels μ S w cs vs := by
  cases h with
  | tup _ vs h1 h3 => exact ⟨vs.toList, by simp, VRels.of (by simpa using h1) (fun j v hj => by simpa using h3 j v hj)⟩

/-- The cells of a value: as the abstract ones say. -/
theorem VRel.cells {μ : Mu} {S : Nat → Prop} {w : World} {v : V} {x : Value} (h : VRel μ S w v x) (hv : v.cells.all V.sc = true) : VRels μ S w v.cells x.cells.toList := by
  cases h with
  | agg cs vs h1 h2 h3 => exact VRels.of (by simpa [V.cells, Value.cells] using h1) (fun j v hj => by simpa [Value.cells] using h3 j v (by simpa [V.cells] using hj))
  | tup => simp [V.cells, V.sc] at hv
  | undef => simp [V.cells, V.sc] at hv
  | _ => exact .cons (by constructor <;> assumption) .nil

inductive ORel (μ : Mu) (S : Nat → Prop) (w : World) : O → Nat → Nat → Prop where
  | row (s : Nat) (fl : Bool) (xs : List V) (b o : Nat) (c : Array Value) (e : TypeId) (f : Nat → Value) : w.heap[b]? = some (.cells c e (0, 0)) →
      (∀ x ∈ xs, okEl s fl x = true) → (∀ (j : Nat) (v : V), (xs.flatMap V.cells)[j]? = some v → c[o + j]? = some (f j)) → (∀ (j : Nat) (v : V), (xs.flatMap V.cells)[j]? = some v → VRel μ S w v (f j)) →
      o + xs.length * s ≤ c.size → ORel μ S w (.row s fl xs) b o
  | map (kt : KT) (es : List (V × V)) (b : Nat) (clock : Nat) (ents : Array MapEntry) : w.heap[b]? = some (.map ents clock) →
      VRels μ S w (es.map (·.1)) (ents.toList.map (·.key)) → VRels μ S w (es.map (·.2)) (ents.toList.map (·.val)) → (∀ e ∈ es, e.2.flat1 = true) →
      (∀ e ∈ es, kt.conf e.1 = true) → ORel μ S w (.map kt es) b 0
  | trow (t : Nat) (ex : Bool) (cs : List V) (b : Nat) (c : Array Value) (f : Nat → Value) : w.heap[b]? = some (.cells c t (0, 0)) → (ex = true → c.size = cs.length) → cs.length ≤ c.size →
      (∀ (j : Nat) (v : V), cs[j]? = some v → v.sc = true ∧ c[j]? = some (f j)) → (∀ (j : Nat) (v : V), cs[j]? = some v → VRel μ S w v (f j)) → ORel μ S w (.trow t ex cs) b 0

def live : O → Bool
  | .dead => false
  | _ => true
def Own (μ : Mu) (H : Heap) (b : Nat) : Prop := ∃ id x o, H[id]? = some x ∧ live x = true ∧ μ id = some (b, o)

/-- The laid variables hold what they are laid to. -/
def LaidOK (S : Nat → Prop) (w : World) : Prop := ∀ g cs, laidCells g = some cs → S g ∧ ∃ (c : Array Value) (e : TypeId) (fz : Nat × Nat), w.heap[g]? = some (.cells c e fz) ∧ c.size = cs.length ∧ ∀ (j : Nat) (v : V), cs[j]? = some v → ∃ x, v.lit = some x ∧ c[j]? = some x
theorem LaidOK.imp {S S' : Nat → Prop} {w w' : World} (h : LaidOK S w) (hS : ∀ b, S b → S' b) (hk : ∀ b, S b → w'.heap[b]? = w.heap[b]?) : LaidOK S' w' := fun g cs hg => by
  obtain ⟨h1, c, e, fz, h2, h3⟩ := h g cs hg
  exact ⟨hS g h1, c, e, fz, (hk g h1).trans h2, h3⟩
structure Inv (μ : Mu) (S : Nat → Prop) (H : Heap) (w : World) : Prop where
  dom : ∀ id b o, μ id = some (b, o) → id < H.length ∧ b < w.heap.size
  sdom : ∀ b, S b → b < w.heap.size
  obj : ∀ id x b o, H[id]? = some x → live x = true → μ id = some (b, o) → ORel μ S w x b o
  inj : ∀ i j x y b o o', H[i]? = some x → H[j]? = some y → live x = true → live y = true → μ i = some (b, o) → μ j = some (b, o') → i = j
  sep : ∀ id x b o, H[id]? = some x → live x = true → μ id = some (b, o) → ¬ S b
  laid : LaidOK S w

structure Ext (μ : Mu) (S : Nat → Prop) (H : Heap) (w : World) (μ' : Mu) (S' : Nat → Prop) (H' : Heap) (w' : World) : Prop where
  mu : ∀ id p, μ id = some p → μ' id = some p
  s : ∀ b, S b → S' b
  snew : ∀ b, S' b → S b ∨ w.heap.size ≤ b
  hlen : H.length ≤ H'.length
  os : w'.os = w.os
  tape : w'.tape = w.tape
  output : w'.output = w.output
  size : w.heap.size ≤ w'.heap.size
  keep : ∀ b, b < w.heap.size → ¬ Own μ H b → w'.heap[b]? = w.heap[b]?
  shape : ∀ (b : Nat) (c : Array Value) (e : TypeId) (fz : Nat × Nat), w.heap[b]? = some (.cells c e fz) → ∃ (c' : Array Value) (fz' : Nat × Nat), w'.heap[b]? = some (.cells c' e fz') ∧ c'.size = c.size
  own : ∀ b, b < w.heap.size → Own μ' H' b → Own μ H b
  munew : ∀ id p, μ id = none → μ' id = some p → H.length ≤ id

theorem Ext.refl (μ : Mu) (S : Nat → Prop) (H : Heap) (w : World) : Ext μ S H w μ S H w :=
  ⟨fun _ _ h => h, fun _ h => h, fun _ h => .inl h, Nat.le_refl _, rfl, rfl, rfl, Nat.le_refl _, fun _ _ _ => rfl, fun _ c _ _ h => ⟨c, _, h, rfl⟩, fun _ _ h => h, fun _ _ h h' => by rw [h] at h'; cases h'⟩

theorem Ext.trans {μ μ₁ μ₂ : Mu} {S S₁ S₂ : Nat → Prop} {H H₁ H₂ : Heap} {w w₁ w₂ : World} (a : Ext μ S H w μ₁ S₁ H₁ w₁) (b : Ext μ₁ S₁ H₁ w₁ μ₂ S₂ H₂ w₂) : Ext μ S H w μ₂ S₂ H₂ w₂ where
  mu := fun id p h => b.mu id p (a.mu id p h)
  s := fun x h => b.s x (a.s x h)
  snew := fun x h => by
    rcases b.snew x h with h | h
    · exact a.snew x h
    · exact .inr (Nat.le_trans a.size h)
  hlen := Nat.le_trans a.hlen b.hlen
  os := b.os.trans a.os
  tape := b.tape.trans a.tape
  output := b.output.trans a.output
  size := Nat.le_trans a.size b.size
  keep := fun x hx hn => (b.keep x (Nat.lt_of_lt_of_le hx a.size) fun h => hn (a.own x hx h)).trans (a.keep x hx hn)
  shape := fun x c e fz h => by
    obtain ⟨c₁, fz1, h1, e1⟩ := a.shape x c e fz h
    obtain ⟨c₂, fz2, h2, e2⟩ := b.shape x c₁ e fz1 h1
    exact ⟨c₂, fz2, h2, e2.trans e1⟩
  own := fun x hx h => a.own x hx (b.own x (Nat.lt_of_lt_of_le hx a.size) h)
  munew := fun id p h h' => by
    cases hm : μ₁ id with
    | none => exact Nat.le_trans a.hlen (b.munew id p hm h')
    | some q => exact a.munew id q h hm

theorem VRel.ext {μ μ' : Mu} {S S' : Nat → Prop} {H H' : Heap} {w w' : World} (I : Inv μ S H w) (e : Ext μ S H w μ' S' H' w') {v : V} {x : Value} (h : VRel μ S w v x) : VRel μ' S' w' v x :=
  h.mono e.mu e.s (fun b hb => e.keep b (I.sdom b hb) fun ⟨id, x, o, h1, h2, h3⟩ => I.sep id x b o h1 h2 h3 hb) e.shape
theorem VRels.ext {μ μ' : Mu} {S S' : Nat → Prop} {H H' : Heap} {w w' : World} (I : Inv μ S H w) (e : Ext μ S H w μ' S' H' w') {v : List V} {x : List Value} (h : VRels μ S w v x) : VRels μ' S' w' v x := by
  induction h with
  | nil => exact .nil
  | cons h _ ih => exact .cons (h.ext I e) ih

theorem VRels.imp {μ μ' : Mu} {S S' : Nat → Prop} {w w' : World} (m : ∀ v x, VRel μ S w v x → VRel μ' S' w' v x) {v : List V} {x : List Value} (h : VRels μ S w v x) : VRels μ' S' w' v x := by
  induction h with
  | nil => exact .nil
  | cons h _ ih => exact .cons (m _ _ h) ih
theorem ORel.imp {μ μ' : Mu} {S S' : Nat → Prop} {w w' : World} (m : ∀ v x, VRel μ S w v x → VRel μ' S' w' v x) {x : O} {b o : Nat} (hb : w'.heap[b]? = w.heap[b]?) (h : ORel μ S w x b o) : ORel μ' S' w' x b o := by
  cases h with
  | row s fl xs b o c e f k1 k2 k3 k4 k5 => exact .row s fl xs b o c e f (hb.trans k1) k2 k3 (fun j v hj => m _ _ (k4 j v hj)) k5
  | map kt es b cl ents k1 k2 k3 k4 k5 => exact .map kt es b cl ents (hb.trans k1) (k2.imp m) (k3.imp m) k4 k5
  | trow t ex cs b c f k1 k2 k3 k4 k5 => exact .trow t ex cs b c f (hb.trans k1) k2 k3 k4 (fun j v hj => m _ _ (k5 j v hj))
/-- Only the count of the draws has moved. -/
theorem VRel.drawn {μ : Mu} {S : Nat → Prop} {w : World} (n : Nat) (v : V) (x : Value) (h : VRel μ S w v x) : VRel μ S { w with drawn := n } v x :=
  h.mono (w := w) (w' := { w with drawn := n }) (fun _ _ h => h) (fun _ h => h) (fun _ _ => rfl) (fun _ c _ _ h => ⟨c, _, h, rfl⟩)
theorem Inv.drawn {μ : Mu} {S : Nat → Prop} {H : Heap} {w : World} (I : Inv μ S H w) (n : Nat) : Inv μ S H { w with drawn := n } where
  dom := I.dom
  sdom := I.sdom
  obj := fun id x b o h1 h2 h3 => (I.obj id x b o h1 h2 h3).imp (VRel.drawn n) rfl
  inj := I.inj
  sep := I.sep
  laid := I.laid
theorem Ext.drawn (μ : Mu) (S : Nat → Prop) (H : Heap) (w : World) (n : Nat) : Ext μ S H w μ S H { w with drawn := n } :=
  ⟨fun _ _ h => h, fun _ h => h, fun _ h => .inl h, Nat.le_refl _, rfl, rfl, rfl, Nat.le_refl _, fun _ _ _ => rfl, fun _ c _ _ h => ⟨c, _, h, rfl⟩, fun _ _ h => h, fun _ _ h h' => by rw [h] at h'; cases h'⟩
theorem lit_rel {μ : Mu} {S : Nat → Prop} {w : World} {v : V} {x : Value} (h : v.lit = some x) : v.sc = true ∧ VRel μ S w v x := by
  cases v <;> simp [V.lit] at h <;> subst h
  · exact ⟨rfl, .bool _⟩
  · exact ⟨rfl, .int _ _⟩
theorem laid_rel {μ : Mu} {S : Nat → Prop} {w : World} (h : LaidOK S w) {g : Nat} {cs : List V} (hg : laidCells g = some cs) : VRel μ S w (.cptr cs) (.pointer (some ⟨g, 0, none⟩)) := by
  obtain ⟨h1, c, e, fz, h2, -, h3⟩ := h g cs hg
  refine .cptr cs g 0 c e fz (fun j => c.getD j undef) h1 h2 (fun j v hj => ?_) (fun j v hj => ?_)
  · obtain ⟨x, k1, k2⟩ := h3 j v hj
    exact ⟨(lit_rel (μ := μ) (S := S) (w := w) k1).1, by simp [k2]⟩
  · obtain ⟨x, k1, k2⟩ := h3 j v hj
    simpa [k2] using (lit_rel k1).2
end Go.AM

/- From the model's code to the abstract machine's. -/
set_option linter.unusedVariables false
set_option linter.unusedSimpArgs false
namespace Go.AM

def absc : Value → Option V
  | .bool b => some (.bool b)
  | .int k n => some (.int k n)
  | .string s => some (.str s.data.toList)
  | .pointer none => some .nilp
  | .slice none 0 0 => some .nil
  | .map none => some .nilm
  | .nilFunc => some .nilf
  | _ => none
def abscs : List Value → Option (List V)
  | [] => some []
  | x :: r => (absc x).bind fun v => (abscs r).map (v :: ·)
def absv : Value → Option V
  | .agg cs => (abscs cs.toList).map .agg
  | v => absc v
def compX : Operand → Option Opd
  | .tmp t => some (.t t)
  | .const v => (absv v).map .c
  | .func f => some (.c (.fn f [] []))
  | .global g => (laidCells g).map fun cs => .c (.cptr cs)
def compXs : List Operand → Option (List Opd)
  | [] => some []
  | x :: r => (compX x).bind fun v => (compXs r).map (v :: ·)
def compXo : Option Operand → Option (Option Opd)
  | none => some none
  | some x => (compX x).map some

def szOf (P : Program) (t : TypeId) : Option Nat := (P.info? t).map (·.size)
def isAggT (P : Program) (t : TypeId) : Option Bool := (P.underlying t).map fun d => match d with
  | .struct _ | .array _ _ => true
  | _ => false
def shOf (P : Program) (t : TypeId) : Option Sh :=
  match isAggT P t, szOf P t with
  | some true, some n => some ⟨true, n⟩
  | some false, some 1 => some ⟨false, 1⟩
  | _, _ => none
def flatT (P : Program) : Nat → TypeId → Bool
  | 0, _ => false
  | n + 1, t => match P.underlying t with
    | some .bool | some (.int _) | some .string => true
    | some (.struct fs) => fs.all fun f => flatT P n f.type
    | some (.array _ e) => flatT P n e
    | _ => false
def zeroOf (P : Program) (t : TypeId) : Option V := (P.info? t).bind fun i => i.zero.bind absv
def skOf (P : Program) (t : TypeId) : Option SK :=
  match P.underlying t with
  | some (.int k) => some (.int k)
  | some .bool => some .bool
  | some .string => some .str
  | _ => none
def skFields (P : Program) : List Field → Nat → Option (List SK)
  | [], _ => some []
  | f :: r, j => if f.name ≠ "_" ∧ f.offset = j then (skOf P f.type).bind fun k => (skFields P r (j + 1)).map (k :: ·) else none
def ksOf (P : Program) (t : TypeId) : Option (List SK) :=
  match P.underlying t with
  | some (.struct fs) => if P.stoodInHeld t then none else skFields P fs.toList 0
  | some (.array n e) => if szOf P e = some 1 then (skOf P e).map (List.replicate n) else none
  | _ => none
def ktOf (P : Program) (t : TypeId) : Option KT :=
  match skOf P t with
  | some k => some (.one k)
  | none => (ksOf P t).map .many
def places (P : Program) (t : TypeId) : Option (Nat → Option (Nat × Nat)) :=
  match P.underlying t with
  | some (.struct fs) => if fs.all (fun f => (szOf P f.type).isSome) then some fun i => (fs[i]?).bind fun f => (szOf P f.type).map fun s => (f.offset, s) else none
  | some (.array _ e) => (szOf P e).map fun s => fun i => some (i * s, s)
  | _ => none
def compParts (pl : Nat → Option (Nat × Nat)) : List (Nat × Operand) → Option (List (Nat × Nat × Opd))
  | [] => some []
  | (i, x) :: r => (pl i).bind fun p => (compX x).bind fun y => (compParts pl r).map ((p.1, p.2, y) :: ·)
def compParts1 : List (Nat × Operand) → Option (List (Nat × Opd))
  | [] => some []
  | (i, x) :: r => (compX x).bind fun y => (compParts1 r).map ((i, y) :: ·)
def elemOf? (P : Program) (t : TypeId) : Option TypeId :=
  match P.underlying t with
  | some (.slice e) => some e
  | _ => none
def isStr (P : Program) (t : TypeId) : Bool :=
  match P.underlying t with
  | some .string => true
  | _ => false
/-- Held against nil: of which kind. -/
def nilKind (P : Program) (t : TypeId) (y : Operand) : Option NK :=
  match P.underlying t, y with
  | some (.slice _), .const (.slice none 0 0) => some .sl
  | some (.map _ _), .const (.map none) => some .mp
  | some (.pointer _), .const (.pointer none) => some .pt
  | some (.func _ _ _), .const .nilFunc => some .fu
  | _, _ => none
def isScalT (P : Program) (t : TypeId) : Bool :=
  match P.underlying t with
  | some (.int _) | some .string => true
  | _ => false
def isBoolT (P : Program) (t : TypeId) : Bool :=
  match P.underlying t with
  | some .bool => true
  | _ => false
def compEq (P : Program) (neg : Bool) (t : TypeId) (x y : Operand) : Option POp :=
  if isBoolT P t then (compX x).bind fun a => (compX y).map fun b => .beq neg a b
  else match nilKind P t y with
    | some k => (compX x).map fun a => .isnil k neg a
    | none => if P.eqGuardType P.depth t then none
      else (ksOf P t).bind fun ks => (compX x).bind fun a => (compX y).map fun b => .eqs neg ks a b
def compBin (P : Program) (op : BinOp) (t : TypeId) (x y : Operand) : Option POp :=
  if isScalT P t then (compX x).bind fun a => (compX y).map fun b => .bin op a b
  else match op with
    | .eql => compEq P false t x y
    | .neq => compEq P true t x y
    | _ => none
def fieldOf (P : Program) (t : TypeId) (f : Nat) : Option Field :=
  match P.underlying t with
  | some (.struct fs) => fs[f]?
  | _ => none
/-- A function of Go's that may be called. -/
def canCall (P : Program) (f : Nat) : Bool :=
  match P.funcs[f]? with
  | some fn => fn.body.isSome && !(fn.name == "runtime.NumGoroutine")
  | none => false
def compCall (P : Program) (c : Call) : Option AOp :=
  match c.callee with
  | .value (.func f) => if canCall P f then (compXs c.args.toList).map fun l => .e (.call f l) else none
  | .value g => (compX g).bind fun g => (compXs c.args.toList).map fun l => .e (.callv g l)
  | .invoke _ _ => none
  | .builtin b => match b, c.args.toList, c.argTypes.toList with
    | .len, [x], [t] => (compX x).bind fun a => match P.underlying t with
      | some .string => some (.p (.len true a))
      | some (.slice _) => some (.p (.len false a))
      | some (.map _ _) => some (.r (.lenm a))
      | _ => none
    | .append, [x, y], [t, u] => (elemOf? P t).bind fun e => (elemOf? P u).bind fun _ => (P.info? e).bind fun i => (compX x).bind fun a => (compX y).bind fun b =>
      if 0 < i.size ∧ (i.zero.map fun z => z.cells.size) = some i.size ∧ 0 < i.bytes then some (.e (.app i.size (flatT P 5 e) i.bytes a b)) else none
    | .copy, [x, y], [t, u] => (elemOf? P t).bind fun e => (elemOf? P u).bind fun _ => (szOf P e).bind fun s => (compX x).bind fun a => (compX y).map fun b => .e (.copy s a b)
    | .clear, [x], [t] => (elemOf? P t).bind fun e => (szOf P e).bind fun s => (zeroOf P e).bind fun z => (compX x).bind fun a => if 0 < s then some (.e (.clear s z a)) else none
    | .min, [x, y], _ => (compX x).bind fun a => (compX y).map fun b => .p (.min a b)
    | .max, [x, y], _ => (compX x).bind fun a => (compX y).map fun b => .p (.max a b)
    | _, _, _ => none
def compOp (P : Program) (o : Oper) : Option AOp :=
  match o.op with
  | .move x | .assign x => (compX x).map fun x => .p (.mov x)
  | .pick c a b => (compX c).bind fun c => (compX a).bind fun a => (compX b).map fun b => .p (.pick c a b)
  | .alloc t => (szOf P t).bind fun s => (zeroOf P t).map fun z => .l (if z = .agg [.nilp, .nil] then .allocT t else .alloc s (flatT P 5 t) z)
  | .box t x => (szOf P t).bind fun s => (compX x).map fun x => .l (if zeroOf P t = some (.agg [.nilp, .nil]) then .boxT t x else .box s (flatT P 5 t) x)
  | .build t ps => (zeroOf P t).bind fun z => (places P t).bind fun pl => (compParts pl ps.toList).map fun l => .p (.build z.cells l)
  | .buildSlice t n ps => (elemOf? P t).bind fun e => (szOf P e).bind fun s => (zeroOf P e).bind fun z => (compParts1 ps.toList).bind fun l =>
      if 0 < s ∧ z.cells.length = s ∧ n * s ≤ 16777216 then some (.l (.mks s (flatT P 5 e) z.cells n l)) else none
  | .load t a => (shOf P t).bind fun sh => (compX a).map fun a => .r (.load sh a)
  | .store t a x => (szOf P t).bind fun s => (compX a).bind fun a => (compX x).map fun x => .e (.store s a x)
  | .nilCheck x => (compX x).map fun x => .p (.nilck x)
  | .binOp op t x y _ => (compBin P op t x y).map .p
  | .unOp op _ x => (compX x).map fun x => .p (.un op x)
  | .convert src dst x => match P.underlying src, P.underlying dst with
    | some (.int _), some (.int k) => (compX x).map fun x => .p (.conv k x)
    | some .string, some (.slice e) => match P.underlying e with
      | some (.int .u8) => (compX x).map fun x => .e (.s2b x)
      | _ => none
    | some (.slice e), some .string => match P.underlying e with
      | some (.int .u8) => (compX x).map fun x => .r (.b2s x)
      | _ => none
    | _, _ => none
  | .makeFunc (.func f) first caps => (compXs first.toList).bind fun p => (compXs caps.toList).map fun l => .p (.mkfn f p l)
  | .makeMap t none => match P.underlying t with
    | some (.map kt _) => (ktOf P kt).map fun kt => .l (.mkmap kt)
    | _ => none
  | .makeMap t (some h) => match P.underlying t with
    | some (.map kt _) => (ktOf P kt).bind fun kt => (compX h).map fun h => .l (.mkmaph kt h)
    | _ => none
  | .makeSlice t l c => (elemOf? P t).bind fun e => (P.info? e).bind fun i => (zeroOf P e).bind fun z => (compX l).bind fun l => (compX c).bind fun c =>
      if 0 < i.size ∧ z.cells.length = i.size then some (.l (.make i.size (flatT P 5 e) z i.bytes l c)) else none
  | .slice t x lo hi none => (compX x).bind fun x => (compXo lo).bind fun lo => (compXo hi).bind fun hi => match P.underlying t with
    | some .string => some (.p (.sls x lo hi))
    | some (.slice e) => (szOf P e).map fun s => .p (.slc s x lo hi)
    | _ => none
  | .fieldAddr t x f => (fieldOf P t f).bind fun fd => (szOf P fd.type).bind fun s => (compX x).bind fun x => if s ≠ 0 then some (.p (.fad fd.offset x)) else none
  | .field t x f => (fieldOf P t f).bind fun fd => (shOf P fd.type).bind fun sh => (compX x).map fun x => .p (.fld fd.offset sh x)
  | .indexAddr t x i => (compX x).bind fun x => (compX i).bind fun i => match P.underlying t with
    | some (.slice e) => (szOf P e).map fun s => .p (.iad s x i)
    | some (.array n e) => (szOf P e).map fun s => .p (.iar n s x i)
    | _ => none
  | .index t x i => (compX x).bind fun x => (compX i).bind fun i => match P.underlying t with
    | some .string => some (.p (.ixs x i))
    | some (.array n e) => (shOf P e).map fun sh => .p (.ixa n sh x i)
    | _ => none
  | .lookup t m k ok => match P.underlying t with
    | some (.map kt et) => (ktOf P kt).bind fun kt => (zeroOf P et).bind fun z => (compX m).bind fun m => (compX k).map fun k => .r (.look kt z ok m k)
    | _ => none
  | .mapUpdate t m k x => match P.underlying t with
    | some (.map kt _) => (ktOf P kt).bind fun kt => (compX m).bind fun m => (compX k).bind fun k => (compX x).map fun x => .e (.mup kt m k x)
    | _ => none
  | .extract x i => (compX x).map fun x => .p (.ext x i)
  | .call c => compCall P c
  | _ => none
end Go.AM

/- Pure operations: what the machine does is what the model does. -/
set_option linter.unusedVariables false
set_option linter.unusedSimpArgs false
namespace Go.AM
open Go.RowKit

section
variable {P : Program} {μ : Mu} {S : Nat → Prop} {w : World}

theorem absc_rel {x : Value} {v : V} (h : absc x = some v) : VRel μ S w v x := by
  unfold absc at h
  split at h <;> first
    | (injection h with h; subst h; constructor; done)
    | cases h
theorem absc_sc {x : Value} {v : V} (h : absc x = some v) : v.sc = true := by
  unfold absc at h
  split at h <;> first
    | (injection h with h; subst h; rfl)
    | cases h
theorem abscs_rel : ∀ {xs : List Value} {vs : List V}, abscs xs = some vs → VRels μ S w vs xs ∧ vs.all V.sc = true
  | [], vs, h => by simp [abscs] at h; subst h; exact ⟨.nil, rfl⟩
  | x :: r, vs, h => by
    simp only [abscs, Option.bind_eq_some_iff, Option.map_eq_some_iff] at h
    obtain ⟨v, hv, us, hu, rfl⟩ := h
    have ih := abscs_rel (xs := r) hu
    exact ⟨.cons (absc_rel hv) ih.1, by simp [absc_sc hv, ih.2]⟩
theorem absv_rel {x : Value} {v : V} (h : absv x = some v) : VRel μ S w v x := by
  unfold absv at h
  split at h
  · simp only [Option.map_eq_some_iff] at h
    obtain ⟨us, hu, rfl⟩ := h
    have := abscs_rel (μ := μ) (S := S) (w := w) hu
    simpa using this.1.agg this.2
  · exact absc_rel h

theorem run_und {t : TypeId} {d : TypeDesc} (h : P.underlying t = some d) (w : World) : (underlying t).run P w = .ok d w := run_underlying h w
theorem run_szOf {t : TypeId} {s : Nat} (h : szOf P t = some s) (w : World) : (Go.sizeOf t).run P w = .ok s w := by
  simp only [szOf, Option.map_eq_some_iff] at h
  obtain ⟨i, hi, rfl⟩ := h
  simp [Go.sizeOf, run_typeInfo w hi]
theorem run_isAggT {t : TypeId} {b : Bool} (h : isAggT P t = some b) (w : World) : (isAgg t).run P w = .ok b w := by
  simp only [isAggT, Option.map_eq_some_iff] at h
  obtain ⟨d, hd, rfl⟩ := h
  simp only [isAgg, Sem.run_bind, run_und hd, Result.andThen_ok]
  split <;> simp_all
theorem zeroOf_run {t : TypeId} {z : V} (h : zeroOf P t = some z) (w : World) : ∃ cz, (zeroValue t).run P w = .ok cz w ∧ absv cz = some z ∧ ∃ i, P.info? t = some i ∧ i.zero = some cz := by
  simp only [zeroOf, Option.bind_eq_some_iff] at h
  obtain ⟨i, hi, cz, hz, ha⟩ := h
  exact ⟨cz, by simp [zeroValue, run_typeInfo w hi, hz], ha, i, hi, hz⟩

theorem VRel.int_inv {k : IntKind} {n : Int} {x : Value} (h : VRel μ S w (.int k n) x) : x = .int k n := by cases h; rfl
theorem VRel.bool_inv {b : Bool} {x : Value} (h : VRel μ S w (.bool b) x) : x = .bool b := by cases h; rfl
theorem VRel.str_inv {s : List UInt8} {x : Value} (h : VRel μ S w (.str s) x) : ∃ b : ByteArray, x = .string b ∧ b.data.toList = s := by cases h; exact ⟨_, rfl, rfl⟩
theorem VRel.mkStr (l : List UInt8) : VRel μ S w (.str l) (.string ⟨l.toArray⟩) := by
  have := VRel.str (μ := μ) (S := S) (w := w) ⟨l.toArray⟩
  simpa using this

theorem beq_dec {α : Type} [BEq α] [LawfulBEq α] [DecidableEq α] (a b : α) : (a == b) = decide (a = b) := by by_cases h : a = b <;> simp [h]
theorem eqGuard_ok (op : BinOp) (t : TypeId) (x y : Operand) (a b : Value) (h : (∀ xs ys, a = .agg xs → b = .agg ys → False) ∧ (a = .nilIface → b = .nilIface → False)) :
    (eqGuard op t x y a b).run P w = .ok () w := by
  cases a <;> cases b <;> first
    | exact (h.2 rfl rfl).elim
    | exact (h.1 _ _ rfl rfl).elim
    | (simp only [eqGuard]; split <;> rfl)
theorem binI_sound (op : BinOp) (hop : isShift op = false) (t : TypeId) (k : IntKind) (a b : Int) {v : V} (h : binI op k a b = some v) (w' : World) :
    ∃ cv, (binOp op t (.int k a) (.int k b)).run P w' = .ok cv w' ∧ VRel μ S w v cv := by
  cases op <;> simp only [binI, isShift, Bool.true_eq_false] at h hop <;> first
    | (injection h with h; subst h; refine ⟨_, ?_, .int _ _⟩; simp [binOp, Op.intArith, Op.intBits, bitsOp]; done)
    | (injection h with h; subst h; refine ⟨_, ?_, .bool _⟩; simp [binOp, Op.intCmp, bne, beq_dec]; done)
    | (split at h
       · cases h
       · injection h with h; subst h; refine ⟨_, ?_, .int _ _⟩; simp [binOp, Op.intDiv, *])
theorem shI_sound (op : BinOp) (t : TypeId) (k l : IntKind) (a b : Int) {v : V} (h : shI op k a b = some v) (w' : World) :
    ∃ cv, (binOp op t (.int k a) (.int l b)).run P w' = .ok cv w' ∧ VRel μ S w v cv := by
  unfold shI at h
  split at h
  · cases h
  · cases op <;> simp only at h <;> first
      | (cases h; done)
      | (injection h with h; subst h; refine ⟨_, ?_, .int _ _⟩; simp [binOp, Op.shift, *]; done)
theorem binS_sound (op : BinOp) (t : TypeId) (a b : ByteArray) {v : V} (h : binS op a.data.toList b.data.toList = some v) (w' : World) :
    ∃ cv, (binOp op t (.string a) (.string b)).run P w' = .ok cv w' ∧ VRel μ S w v cv := by
  cases op <;> simp only [binS] at h <;> first
    | (cases h; done)
    | (injection h with h; subst h; refine ⟨_, ?_, .bool _⟩; simp only [binOp, Op.stringOp, Sem.run_pure, ByteArray.toList_eq, beq_dec])
    | (split at h
       · rename_i hl
         injection h with h; subst h
         refine ⟨.string (a ++ b), ?_, ?_⟩
         · have : ¬ ((a.size + b.size : Nat) : Int) > IntKind.i64.max := by
             have e : IntKind.max .i64 = 9223372036854775807 := by decide
             rw [e]
             have h1 : a.size = a.data.toList.length := by show a.data.size = _; rw [Array.length_toList]
             have h2 : b.size = b.data.toList.length := by show b.data.size = _; rw [Array.length_toList]
             rw [h1, h2]
             unfold maxStr at hl
             omega
           simp only [binOp, Op.stringOp, this, if_false, Sem.run_pure]
         · have : a.data.toList ++ b.data.toList = (a ++ b).data.toList := by simp
           rw [this]; exact .str _
       · cases h)

theorem VRels.drop {cs : List V} {vs : List Value} (h : VRels μ S w cs vs) : ∀ n, VRels μ S w (cs.drop n) (vs.drop n) := by
  induction h with
  | nil => intro n; simp; exact .nil
  | cons h k ih =>
    intro n
    cases n with
    | zero => exact .cons h k
    | succ n => simpa using ih n
theorem VRels.take {cs : List V} {vs : List Value} (h : VRels μ S w cs vs) : ∀ n, VRels μ S w (cs.take n) (vs.take n) := by
  induction h with
  | nil => intro n; simp; exact .nil
  | cons h k ih =>
    intro n
    cases n with
    | zero => simp; exact .nil
    | succ n => simpa using .cons h (ih n)
theorem all_drop {p : V → Bool} {cs : List V} (h : cs.all p = true) (n : Nat) : (cs.drop n).all p = true := by
  rw [List.all_eq_true] at *
  exact fun x hx => h x (List.mem_of_mem_drop hx)
theorem all_take {p : V → Bool} {cs : List V} (h : cs.all p = true) (n : Nat) : (cs.take n).all p = true := by
  rw [List.all_eq_true] at *
  exact fun x hx => h x (List.mem_of_mem_take hx)
theorem shOf_agg {t : TypeId} {sh : Sh} (h : shOf P t = some sh) : isAggT P t = some sh.agg ∧ szOf P t = some sh.n ∧ (sh.agg = false → sh.n = 1) := by
  unfold shOf at h
  split at h <;> first
    | (injection h with h; subst h; simp [*]; done)
    | cases h
theorem part_sound {t : TypeId} {sh : Sh} (hs : shOf P t = some sh) {cs : List V} {vs : List Value} (hv : VRels μ S w cs vs) (hsc : cs.all V.sc = true) {off : Nat} {v : V} (h : part sh cs off = some v) (w' : World) :
    ∃ cv, (Go.part t vs.toArray off).run P w' = .ok cv w' ∧ VRel μ S w v cv := by
  obtain ⟨h1, h2, -⟩ := shOf_agg hs
  unfold part at h
  split at h
  · rename_i ha
    split at h
    · injection h with h; subst h
      refine ⟨.agg ((vs.drop off).take sh.n).toArray, ?_, ((hv.drop off).take sh.n).agg (all_take (all_drop hsc _) _)⟩
      rw [ha] at h1
      simp only [Go.part, Sem.run_bind, run_isAggT h1, Result.andThen_ok, if_true, run_szOf h2, Sem.run_pure, List.extract_toArray]
      congr 3
      simp [List.extract]
    · cases h
  · rename_i ha
    have ha : sh.agg = false := by simpa using ha
    rw [ha] at h1
    obtain ⟨x, hx, hr⟩ := hv.get? off v h
    refine ⟨x, ?_, hr⟩
    simp only [Go.part, Sem.run_bind, run_isAggT h1, Result.andThen_ok, Bool.false_eq_true, if_false]
    have : vs.toArray[off]? = some x := by simpa using hx
    rw [this]
    rfl
theorem ixOf_inv {v : V} {len j : Nat} (h : ixOf v len = some j) : ∃ k n, v = .int k n ∧ 0 ≤ n ∧ n < (len : Int) ∧ j = n.toNat := by
  unfold ixOf at h
  split at h
  · split at h
    · rename_i k n hc
      injection h with h
      exact ⟨_, _, rfl, hc.1, hc.2, h.symm⟩
    · cases h
  · cases h
theorem fad_ok (a : Addr) (n : Nat) (b o : Nat) (h : a = ⟨b, o, none⟩) : a.add n = ⟨b, o + n, none⟩ := by
  subst h
  unfold Addr.add
  split
  · subst_vars; rfl
  · rfl
theorem flatMap_get : ∀ (xs : List V) {s i j : Nat} {u v : V}, (∀ x ∈ xs, x.cells.length = s) → xs[i]? = some u → u.cells[j]? = some v → (xs.flatMap V.cells)[i * s + j]? = some v
  | [], _, _, _, _, _, _, hu, _ => by simp at hu
  | x :: xs, s, 0, j, u, v, hl, hu, hj => by
    simp at hu; subst hu
    simp only [List.flatMap_cons, Nat.zero_mul, Nat.zero_add]
    rw [List.getElem?_append_left (List.getElem?_eq_some_iff.1 hj).1]
    exact hj
  | x :: xs, s, i + 1, j, u, v, hl, hu, hj => by
    have := flatMap_get xs (fun y hy => hl y (List.mem_cons_of_mem _ hy)) (by simpa using hu) hj
    have hx := hl x List.mem_cons_self
    simp only [List.flatMap_cons]
    rw [List.getElem?_append_right (by rw [hx, Nat.add_mul]; omega), hx, show (i + 1) * s + j - s = i * s + j by rw [Nat.add_mul]; omega]
    exact this
theorem iad_sound {t e : TypeId} {s : Nat} (ht : P.underlying t = some (.slice e)) (hs : szOf P e = some s) {x i : Value} {vx vi v : V} (hx : VRel μ S w vx x) (hi : VRel μ S w vi i)
    (h : stepP (fun o => match o with | .t 0 => vx | _ => vi) (.iad s (.t 0) (.t 1)) = some v) (w' : World) : ∃ cv, (Instr.indexAt t x i).run P w' = .ok cv w' ∧ VRel μ S w v cv := by
  have run : ∀ (b o len cap : Nat) (k : IntKind) (n : Int), 0 ≤ n → n < (len : Int) → (Instr.indexAt t (.slice (some ⟨b, o, none⟩) len cap) (.int k n)).run P w' = .ok (.pointer (some ⟨b, o + n.toNat * s, none⟩)) w' := by
    intro b o len cap k n h0 h1
    simp only [Instr.indexAt, asIntOf, Sem.run_bind, Sem.run_pure, Result.andThen_ok, run_und ht, h0, h1, and_self, if_true, run_szOf hs, fad_ok ⟨b, o, none⟩ _ b o rfl]
  simp only [stepP] at h
  split at h
  · rename_i xs
    simp only [Option.bind_eq_bind, Option.bind_eq_some_iff] at h
    obtain ⟨j, hj, u, hu, h⟩ := h
    split at h
    · rename_i hcs
      injection h with h; subst h
      obtain ⟨k, n, rfl, h0, h1, rfl⟩ := ixOf_inv hj
      cases hi
      cases hx with
      | lst0 => simp at hu
      | lst _ s' b o cap c e fz f g1 g2 g3 g4 g5 g6 =>
        have hmem := List.mem_of_getElem? hu
        have es : s' = s := by rw [← g4 u hmem]; exact hcs
        subst es
        refine ⟨_, run b o _ cap k n h0 h1, .cptr u.cells b (o + n.toNat * s') c e fz (fun j => f (n.toNat * s' + j)) g1 g2 ?_ ?_⟩
        all_goals
          intro j v hj
          have hfl : (xs.flatMap V.cells)[n.toNat * s' + j]? = some v := flatMap_get xs g4 hu hj
        · have := g5 _ v hfl
          exact ⟨dsc_sc this.1, by rw [Nat.add_assoc]; exact this.2⟩
        · exact g6 _ v hfl
    · cases h
  · rename_i id s' off len
    simp only [Option.bind_eq_bind, Option.bind_eq_some_iff] at h
    obtain ⟨j, hj, h⟩ := h
    split at h
    · rename_i es
      subst es
      injection h with h; subst h
      obtain ⟨k, n, rfl, h0, h1, rfl⟩ := ixOf_inv hj
      cases hi
      cases hx with
      | ref0 => omega
      | ref _ _ _ _ cap b o c e fz g1 g2 g3 g4 =>
        refine ⟨_, run b (o + off * s) len cap k n h0 h1, ?_⟩
        have := VRel.ptr (S := S) (w := w) (μ := μ) id s (off + n.toNat) 0 b o g1
        rw [show o + off * s + n.toNat * s = o + (off + n.toNat) * s + 0 by rw [Nat.add_mul]; omega]
        exact this
    · cases h
  · cases h
end
end Go.AM

/- Pure operations, continued: build, slices, comparisons, and all of them together. -/
set_option linter.unusedVariables false
set_option linter.unusedSimpArgs false
namespace Go.AM
open Go.RowKit
section
variable {P : Program} {μ : Mu} {S : Nat → Prop} {w : World}

theorem absv_cells {x : Value} {v : V} (h : absv x = some v) : v.cells.all V.sc = true := by
  unfold absv at h
  split at h
  · simp only [Option.map_eq_some_iff] at h
    obtain ⟨us, hu, rfl⟩ := h
    exact (abscs_rel (μ := fun _ => none) (S := fun _ => False) (w := default) hu).2
  · have := absc_sc h
    cases v <;> simp [V.cells, V.sc] at this ⊢

def setV (cs : List Value) (off : Nat) (vs : List Value) : List Value := cs.take off ++ vs ++ cs.drop (off + vs.length)
theorem setV_cons (cs : List Value) (off : Nat) (v : Value) (vs : List Value) (h : off + (v :: vs).length ≤ cs.length) : setV (cs.set off v) (off + 1) vs = setV cs off (v :: vs) := by
  have hl : off < cs.length := by simp at h; omega
  unfold setV
  have e1 : (cs.set off v).take (off + 1) = cs.take off ++ [v] := by
    rw [List.set_eq_take_append_cons_drop, if_pos hl, List.take_append]
    simp [List.take_take, Nat.min_eq_left (Nat.le_of_lt hl)]
  have e2 : (cs.set off v).drop (off + 1 + vs.length) = cs.drop (off + (v :: vs).length) := by
    rw [List.drop_set_of_lt (by omega)]
    simp [Nat.add_comm 1, Nat.add_assoc]
  rw [e1, e2]
  simp
theorem fold_set (off : Nat) : ∀ (l : List Value) (k : Nat) (A : Array Value), off + k + l.length ≤ A.size →
    ((l.zipIdx k).foldl (fun (cs : Array Value) (p : Value × Nat) => cs.setIfInBounds (off + p.2) p.1) A).toList = setV A.toList (off + k) l
  | [], k, A, h => by simp [setV]
  | v :: l, k, A, h => by
    rw [List.zipIdx_cons, List.foldl_cons, fold_set off l (k + 1) _ (by simp at h ⊢; omega), Array.toList_setIfInBounds, ← Nat.add_assoc]
    exact setV_cons _ _ _ _ (by simpa using h)
theorem setCells_rel {cs vs : List V} {xs ys : List Value} (h : VRels μ S w cs xs) (k : VRels μ S w vs ys) (off : Nat) : VRels μ S w (setCells cs off vs) (setV xs off ys) := by
  unfold setCells setV
  rw [k.length]
  exact ((h.take off).append k).append (h.drop _)
theorem setCells_sc {p : V → Bool} {cs vs : List V} (h : cs.all p = true) (k : vs.all p = true) (off : Nat) : (setCells cs off vs).all p = true := by
  unfold setCells
  simp only [List.all_append, Bool.and_eq_true]
  exact ⟨⟨all_take h _, k⟩, all_drop h _⟩
theorem fill_sound {pl : Nat → Option (Nat × Nat)} {ρ : Opd → V} {cρ : Operand → Value} : ∀ {ps : List (Nat × Operand)} {l : List (Nat × Nat × Opd)}, compParts pl ps = some l →
    (∀ x ∈ ps.map (·.2), ∀ y, compX x = some y → VRel μ S w (ρ y) (cρ x)) → ∀ {z cs : List V} {A : Array Value}, VRels μ S w z A.toList → z.all V.sc = true →
    buildCells z (l.map fun p => (p.1, p.2.1, ρ p.2.2)) = some cs →
    ∃ A' : Array Value, Instr.fill pl A (ps.map fun p => (p.1, cρ p.2)) = some A' ∧ VRels μ S w cs A'.toList ∧ cs.all V.sc = true
  | [], l, hl, hρ, z, cs, A, hz, hsc, h => by
    simp [compParts] at hl; subst hl
    simp [buildCells] at h; subst h
    exact ⟨A, rfl, hz, hsc⟩
  | (i, x) :: ps, l, hl, hρ, z, cs, A, hz, hsc, h => by
    simp only [compParts, Option.bind_eq_some_iff, Option.map_eq_some_iff] at hl
    obtain ⟨p, hp, y, hy, l', hl', rfl⟩ := hl
    simp only [List.map_cons, buildCells] at h
    split at h
    · rename_i hc
      obtain ⟨hc1, hc2, hc3⟩ := hc
      have hx := hρ x (by simp) y hy
      have hcx := hx.cells hc3
      have hlen := hcx.length
      have hzl := hz.length
      have e : (Array.foldl (fun (cs : Array Value) (p' : Value × Nat) => cs.setIfInBounds (p.1 + p'.2) p'.1) A (cρ x).cells.zipIdx).toList = setV A.toList p.1 (cρ x).cells.toList := by
        rw [← Array.foldl_toList, Array.toList_zipIdx]
        have := fold_set p.1 (cρ x).cells.toList 0 A (by rw [← hlen, hc1]; rw [Nat.add_zero, show A.size = A.toList.length by simp, ← hzl]; exact hc2)
        simpa using this
      obtain ⟨A', h1, h2, h3⟩ := fill_sound hl' (fun x' hx' => hρ x' (List.mem_cons_of_mem _ hx')) (z := setCells z p.1 (ρ y).cells)
        (A := Array.foldl (fun (cs : Array Value) (p' : Value × Nat) => cs.setIfInBounds (p.1 + p'.2) p'.1) A (cρ x).cells.zipIdx) (by rw [e]; exact setCells_rel hz hcx _) (setCells_sc hsc hc3 _) h
      refine ⟨A', ?_, h2, h3⟩
      simp only [List.map_cons, Instr.fill, hp]
      rw [if_neg]
      · exact h1
      · have hs : (cρ x).cells.size = p.2 := by rw [← hc1, hlen]; simp
        have : z.length = A.size := by simpa using hzl
        simp only [hs, ne_eq, not_true_eq_false, decide_false, Bool.false_or, decide_eq_true_eq]
        omega
    · cases h
theorem mapM_pure {f : Field → Sem (Nat × Nat)} {g : Field → Nat × Nat} : ∀ (l : List Field) (w : World), (∀ x ∈ l, ∀ w, (f x).run P w = .ok (g x) w) → (l.mapM f).run P w = .ok (l.map g) w
  | [], w, _ => by simp
  | x :: r, w, h => by
    simp only [List.mapM_cons, Sem.run_bind, h x List.mem_cons_self, Result.andThen_ok, mapM_pure r w (fun y hy => h y (List.mem_cons_of_mem _ hy)), Sem.run_pure, List.map_cons]
theorem build_sound {t : TypeId} {zv : V} (hz : zeroOf P t = some zv) {pl : Nat → Option (Nat × Nat)} (hpl : places P t = some pl) {ps : Array (Nat × Operand)} {l : List (Nat × Nat × Opd)} (hl : compParts pl ps.toList = some l)
    {ρ : Opd → V} {cρ : Operand → Value} (hρ : ∀ x ∈ ps.toList.map (·.2), ∀ y, compX x = some y → VRel μ S w (ρ y) (cρ x)) {cs : List V} (h : buildCells zv.cells (l.map fun p => (p.1, p.2.1, ρ p.2.2)) = some cs) (w' : World) :
    ∃ cv, (Instr.build t (ps.map fun (i, x) => (i, cρ x))).run P w' = .ok cv w' ∧ VRel μ S w (.agg cs) cv := by
  obtain ⟨cz, hzr, habs, -⟩ := zeroOf_run hz w'
  have hzc := (absv_rel (μ := μ) (S := S) (w := w) habs).cells (absv_cells habs)
  obtain ⟨A', h1, h2, h3⟩ := fill_sound hl hρ hzc (absv_cells habs) h
  refine ⟨.agg A', ?_, by simpa using h2.agg h3⟩
  have hp : (ps.map fun (i, x) => (i, cρ x)).toList = ps.toList.map fun p => (p.1, cρ p.2) := by simp
  unfold places at hpl
  split at hpl
  · rename_i fs hu
    split at hpl
    · rename_i hall
      injection hpl with hpl; subst hpl
      have hm : ∀ w, (fs.mapM fun f => do pure (f.offset, ← Go.sizeOf f.type) : Sem (Array (Nat × Nat))).run P w = .ok (fs.map fun f => (f.offset, (szOf P f.type).getD 0)) w := by
        intro w
        rw [Array.mapM_eq_mapM_toList]
        simp only [Sem.run_map]
        rw [mapM_pure (g := fun f => (f.offset, (szOf P f.type).getD 0))]
        · simp only [Result.andThen_ok]
          exact congrArg (fun a => Result.ok a w) (Array.toList_inj.1 (by simp))
        · intro x hx w
          have : (szOf P x.type).isSome = true := by
            have := Array.all_eq_true'.1 hall x (by simpa using hx)
            exact this
          obtain ⟨s, hs⟩ := Option.isSome_iff_exists.1 this
          simp [run_szOf hs, hs]
      simp only [Instr.build, Sem.run_bind, hzr, Result.andThen_ok, run_und hu, hm, hp]
      have e : (fun (i : Nat) => (fs.map fun (f : Field) => (f.offset, (szOf P f.type).getD 0))[i]?) = fun (i : Nat) => (fs[i]?).bind fun (f : Field) => (szOf P f.type).map fun s => (f.offset, s) := by
        funext i
        simp only [Array.getElem?_map]
        cases hi : fs[i]? with
        | none => rfl
        | some f =>
          have : (szOf P f.type).isSome = true := Array.all_eq_true'.1 hall f (Array.mem_of_getElem? hi)
          obtain ⟨s, hs⟩ := Option.isSome_iff_exists.1 this
          simp [hs]
      rw [e, h1]
      rfl
    · cases hpl
  · rename_i n e hu
    simp only [Option.map_eq_some_iff] at hpl
    obtain ⟨s, hs, rfl⟩ := hpl
    simp only [Instr.build, Sem.run_bind, hzr, Result.andThen_ok, run_und hu, run_szOf hs, hp, h1]
    rfl
  · cases hpl

def vo (ρ : Opd → V) (o : Option Opd) : Option V := o.map ρ
/-- The bounds of a slice expression. -/
theorem bdOf_sound {lo : Option V} {clo : Option Value} (hrel : ∀ v, lo = some v → ∃ c, clo = some c ∧ VRel μ S w v c) (hnone : lo = none → clo = none) {d m j : Nat} (h : bdOf lo d m = some j) (hd : d ≤ m) :
    j ≤ m ∧ (clo = none ∧ j = d ∨ ∃ c, clo = some c ∧ ∀ (y : Nat) code (w' : World), m ≤ y → (Instr.sliceBound c y code).run P w' = .ok j w') := by
  unfold bdOf at h
  split at h
  · injection h with h; subst h
    exact ⟨hd, .inl ⟨hnone rfl, rfl⟩⟩
  · rename_i k i
    split at h
    · rename_i hc
      injection h with h; subst h
      obtain ⟨c, hc', hr⟩ := hrel _ rfl
      cases hr
      refine ⟨by omega, .inr ⟨_, hc', fun y code w' hy => ?_⟩⟩
      have h1 : 0 ≤ i ∧ i ≤ (y : Int) := ⟨hc.1, by omega⟩
      simp only [Instr.sliceBound, asIntOf, Sem.run_bind, Sem.run_pure, Result.andThen_ok]
      rw [if_pos h1]; rfl
    · cases h
  · cases h
theorem bounds_sound {lo hi : Option V} {clo chi : Option Value} (h1 : ∀ v, lo = some v → ∃ c, clo = some c ∧ VRel μ S w v c) (n1 : lo = none → clo = none)
    (h2 : ∀ v, hi = some v → ∃ c, chi = some c ∧ VRel μ S w v c) (n2 : hi = none → chi = none) {len l h : Nat} (e1 : bdOf hi len len = some h) (e2 : bdOf lo 0 h = some l) (b : Bool) (cap : Nat) (hcap : len ≤ cap) (w' : World) :
    l ≤ h ∧ h ≤ len ∧ (Instr.sliceBounds b len cap clo chi none).run P w' = .ok (l, h, cap) w' := by
  obtain ⟨hh, a⟩ := bdOf_sound (P := P) h2 n2 e1 (Nat.le_refl _)
  obtain ⟨hl, c⟩ := bdOf_sound (P := P) h1 n1 e2 (Nat.zero_le _)
  refine ⟨hl, hh, ?_⟩
  unfold Instr.sliceBounds
  rcases a with ⟨rfl, rfl⟩ | ⟨x, rfl, hx⟩ <;> rcases c with ⟨rfl, rfl⟩ | ⟨y, rfl, hy⟩
  · simp
  · simp only [Sem.run_bind, Sem.run_pure, Result.andThen_ok, hy _ _ _ (Nat.le_refl _)]
  · simp only [Sem.run_bind, Sem.run_pure, Result.andThen_ok, hx _ _ _ hcap]
  · simp only [Sem.run_bind, Sem.run_pure, Result.andThen_ok, hx _ _ _ hcap, hy _ _ _ (Nat.le_refl _)]
theorem flatMap_drop : ∀ (xs : List V) {s : Nat} (n : Nat), (∀ x ∈ xs, x.cells.length = s) → (xs.drop n).flatMap V.cells = (xs.flatMap V.cells).drop (n * s)
  | xs, s, 0, _ => by simp
  | [], s, n + 1, _ => by simp
  | x :: xs, s, n + 1, h => by
    have := flatMap_drop xs (s := s) n (fun y hy => h y (List.mem_cons_of_mem _ hy))
    have hx := h x List.mem_cons_self
    rw [List.drop_succ_cons, this, List.flatMap_cons, show (n + 1) * s = x.cells.length + n * s by rw [hx, Nat.add_mul]; omega, List.drop_append]
    simp
theorem flatMap_take_get (xs : List V) (n : Nat) (j : Nat) (v : V) (h : ((xs.take n).flatMap V.cells)[j]? = some v) : (xs.flatMap V.cells)[j]? = some v := by
  have e : xs.flatMap V.cells = (xs.take n).flatMap V.cells ++ (xs.drop n).flatMap V.cells := by rw [← List.flatMap_append, List.take_append_drop]
  rw [e, List.getElem?_append_left (List.getElem?_eq_some_iff.1 h).1]
  exact h
/-- A part of a slice that isn't written any more. -/
theorem lst_part {xs : List V} {s l h cap : Nat} {a : Option Addr} (hall : ∀ x ∈ xs, x.cells.length = s) (hx : VRel μ S w (.lst xs) (.slice a xs.length cap)) (hlh : l ≤ h) (hh : h ≤ xs.length) :
    VRel μ S w (.lst ((xs.drop l).take (h - l))) (.slice (if cap = l then a else a.map (·.add (l * s))) (h - l) (cap - l)) := by
  have hlen : ((xs.drop l).take (h - l)).length = h - l := by rw [List.length_take, List.length_drop]; omega
  by_cases he : h - l = 0
  · have : (xs.drop l).take (h - l) = [] := by rw [he]; rfl
    rw [this, he]
    exact .lst0 _ _
  · generalize hn : xs.length = n at hx
    cases hx with
    | lst0 => have : ([] : List V).length = 0 := rfl; omega
    | lst _ s' b o _ c e fz f g1 g2 g3 g4 g5 g6 =>
      have hne : cap ≠ l := by omega
      rw [if_neg hne]
      have hss : s' = s := by
        cases xs with
        | nil => have : ([] : List V).length = 0 := rfl; omega
        | cons x xs => rw [← g4 x List.mem_cons_self, hall x List.mem_cons_self]
      subst hss
      simp only [Option.map_some, fad_ok ⟨b, o, none⟩ (l * s') b o rfl]
      have key : ∀ j v, (((xs.drop l).take (h - l)).flatMap V.cells)[j]? = some v → (xs.flatMap V.cells)[l * s' + j]? = some v := by
        intro j v hj
        have := flatMap_take_get _ _ _ _ hj
        rw [flatMap_drop xs l g4, List.getElem?_drop] at this
        exact this
      have R : VRel μ S w _ _ := .lst _ s' b (o + l * s') (cap - l) c e fz (fun j => f (l * s' + j)) g1 g2 (by rw [hlen]; omega) (fun x hx => g4 x (List.mem_of_mem_drop (List.mem_of_mem_take hx)))
        (fun j v hj => ⟨(g5 _ v (key j v hj)).1, by rw [Nat.add_assoc]; exact (g5 _ v (key j v hj)).2⟩) (fun j v hj => g6 _ v (key j v hj))
      rw [hlen] at R
      exact R
theorem VRel.lst_len {xs : List V} {x : Value} (h : VRel μ S w (.lst xs) x) : ∃ a cap, x = .slice a xs.length cap ∧ xs.length ≤ cap := by
  cases h with
  | lst0 a n => exact ⟨a, n, rfl, Nat.zero_le _⟩
  | lst => exact ⟨_, _, rfl, by assumption⟩
theorem slc_sound {t e : TypeId} {s : Nat} (ht : P.underlying t = some (.slice e)) (hs : szOf P e = some s) {ρ : Opd → V} {x : Opd} {lo hi : Option Opd} {cx : Value} {clo chi : Option Value} (hx : VRel μ S w (ρ x) cx)
    (h1 : ∀ v, lo.map ρ = some v → ∃ c, clo = some c ∧ VRel μ S w v c) (n1 : lo.map ρ = none → clo = none)
    (h2 : ∀ v, hi.map ρ = some v → ∃ c, chi = some c ∧ VRel μ S w v c) (n2 : hi.map ρ = none → chi = none) {v : V}
    (h : stepP ρ (.slc s x lo hi) = some v) (w' : World) : ∃ cv, (Instr.sliceAt t cx clo chi none).run P w' = .ok cv w' ∧ VRel μ S w v cv := by
  have run : ∀ (a : Option Addr) (len cap l h : Nat), (Instr.sliceBounds true len cap clo chi none).run P w' = .ok (l, h, cap) w' →
      (Instr.sliceAt t (.slice a len cap) clo chi none).run P w' = .ok (.slice (if cap = l then a else a.map (·.add (l * s))) (h - l) (cap - l)) w' := by
    intro a len cap l h hb
    simp only [Instr.sliceAt, Instr.slice, Sem.run_bind, run_und ht, Result.andThen_ok, hb, run_szOf hs, Sem.run_pure]
  simp only [stepP] at h
  split at h
  · rename_i xs hxs
    simp only [Option.bind_eq_bind, Option.bind_eq_some_iff] at h
    obtain ⟨hh, e1, l, e2, h⟩ := h
    split at h
    · rename_i hall
      injection h with h; subst h
      rw [hxs] at hx
      obtain ⟨a, cap, rfl, hcap⟩ := hx.lst_len
      obtain ⟨b1, b2, b3⟩ := bounds_sound (P := P) h1 n1 h2 n2 e1 e2 true cap hcap w'
      refine ⟨_, run a _ cap l hh b3, lst_part (fun x hx => ?_) hx b1 b2⟩
      have := List.all_eq_true.1 hall x hx
      simpa using this
    · cases h
  · rename_i id s' off len hxs
    simp only [Option.bind_eq_bind, Option.bind_eq_some_iff] at h
    obtain ⟨hh, e1, l, e2, h⟩ := h
    split at h
    · rename_i es
      subst es
      injection h with h; subst h
      rw [hxs] at hx
      cases hx with
      | ref0 _ _ _ a =>
        obtain ⟨b1, b2, b3⟩ := bounds_sound (P := P) h1 n1 h2 n2 e1 e2 true 0 (Nat.le_refl _) w'
        have e3 : hh = 0 := by omega
        have e4 : l = 0 := by omega
        subst e3; subst e4
        exact ⟨_, run a 0 0 0 0 b3, .ref0 id s _ a⟩
      | ref _ _ _ _ cap b o c e fz g1 g2 g3 g4 =>
        obtain ⟨b1, b2, b3⟩ := bounds_sound (P := P) h1 n1 h2 n2 e1 e2 true cap g3 w'
        refine ⟨_, run _ len cap l hh b3, ?_⟩
        by_cases hcl : cap = l
        · have e3 : hh - l = 0 := by omega
          have e4 : cap - l = 0 := by omega
          rw [e3, e4]
          exact .ref0 _ _ _ _
        · rw [if_neg hcl]
          simp only [Option.map_some, fad_ok ⟨b, o + off * s, none⟩ (l * s) b _ rfl]
          rw [show o + off * s + l * s = o + (off + l) * s by rw [Nat.add_mul]; omega]
          refine .ref _ _ _ _ _ b o c e fz g1 g2 (by omega) ?_
          rw [show off + l + (cap - l) = off + cap by omega]
          exact g4
    · cases h
  · rename_i hxs
    simp only [Option.bind_eq_bind, Option.bind_eq_some_iff] at h
    obtain ⟨hh, e1, l, e2, h⟩ := h
    injection h with h; subst h
    rw [hxs] at hx
    cases hx
    obtain ⟨b1, b2, b3⟩ := bounds_sound (P := P) h1 n1 h2 n2 e1 e2 true 0 (Nat.le_refl _) w'
    have e3 : hh = 0 := by omega
    have e4 : l = 0 := by omega
    subst e3; subst e4
    exact ⟨_, run none 0 0 0 0 b3, .nil⟩
  · cases h
theorem extract_data (s : ByteArray) (l h : Nat) : (s.extract l h).data.toList = (s.data.toList.drop l).take (h - l) := by
  simp [List.extract]
theorem sls_sound {t : TypeId} (ht : P.underlying t = some .string) {ρ : Opd → V} {x : Opd} {lo hi : Option Opd} {cx : Value} {clo chi : Option Value} (hx : VRel μ S w (ρ x) cx)
    (h1 : ∀ v, lo.map ρ = some v → ∃ c, clo = some c ∧ VRel μ S w v c) (n1 : lo.map ρ = none → clo = none)
    (h2 : ∀ v, hi.map ρ = some v → ∃ c, chi = some c ∧ VRel μ S w v c) (n2 : hi.map ρ = none → chi = none) {v : V}
    (h : stepP ρ (.sls x lo hi) = some v) (w' : World) : ∃ cv, (Instr.sliceAt t cx clo chi none).run P w' = .ok cv w' ∧ VRel μ S w v cv := by
  simp only [stepP] at h
  split at h
  · rename_i xs hxs
    simp only [Option.bind_eq_bind, Option.bind_eq_some_iff] at h
    obtain ⟨hh, e1, l, e2, h⟩ := h
    injection h with h; subst h
    rw [hxs] at hx
    obtain ⟨b, rfl, rfl⟩ := hx.str_inv
    have hsz : b.data.toList.length = b.size := by rw [Array.length_toList]; rfl
    rw [hsz] at e1
    obtain ⟨b1, b2, b3⟩ := bounds_sound (P := P) h1 n1 h2 n2 e1 e2 false b.size (Nat.le_refl _) w'
    refine ⟨.string (b.extract l hh), ?_, ?_⟩
    · simp only [Instr.sliceAt, Instr.slice, Sem.run_bind, run_und ht, Result.andThen_ok, b3, Option.isSome_none, Bool.false_eq_true, if_false, Sem.run_pure]
    · rw [← extract_data]; exact .str _
  · cases h
end
end Go.AM

/- Pure operations: comparisons of structs, and the rest; then all of them. -/
set_option linter.unusedVariables false
set_option linter.unusedSimpArgs false
namespace Go.AM
open Go.RowKit
section
variable {P : Program} {μ : Mu} {S : Nat → Prop} {w : World}

theorem skOf_isAgg {t : TypeId} {k : SK} (h : skOf P t = some k) : isAggT P t = some false := by
  unfold skOf at h
  unfold isAggT
  split at h <;> first
    | (rename_i h'; rw [h']; rfl)
    | cases h
/-- Two scalars of one kind. -/
theorem sk_eq {t : TypeId} {k : SK} (hk : skOf P t = some k) {a b : V} (ha : k.conf a = true) (hb : k.conf b = true) {x y : Value} (hx : VRel μ S w a x) (hy : VRel μ S w b y) (d : Nat) (w' : World) :
    (Op.equalIn (d + 1) t x y).run P w' = .ok (decide (a = b)) w' := by
  unfold skOf at hk
  split at hk <;> first
    | cases hk; done
    | skip
  · rename_i k' hu
    injection hk with hk; subst hk
    cases a <;> simp only [SK.conf, Bool.false_eq_true] at ha
    cases b <;> simp only [SK.conf, Bool.false_eq_true] at hb
    simp only [beq_iff_eq] at ha hb
    subst ha; subst hb
    rw [hx.int_inv, hy.int_inv, run_equalIn_int w' d t _ _ _ _ hu, beq_dec]
    simp
  · rename_i hu
    injection hk with hk; subst hk
    cases a <;> simp only [SK.conf, Bool.false_eq_true] at ha
    cases b <;> simp only [SK.conf, Bool.false_eq_true] at hb
    rw [hx.bool_inv, hy.bool_inv, run_equalIn_bool' w' d t _ _ hu, beq_dec]
    simp
  · rename_i hu
    injection hk with hk; subst hk
    cases a <;> simp only [SK.conf, Bool.false_eq_true] at ha
    cases b <;> simp only [SK.conf, Bool.false_eq_true] at hb
    obtain ⟨x, rfl, rfl⟩ := hx.str_inv
    obtain ⟨y, rfl, rfl⟩ := hy.str_inv
    rw [run_equalIn_string w' d t _ _ hu, ByteArray.toList_eq, ByteArray.toList_eq, beq_dec]
    simp
theorem part_sc {t : TypeId} {k : SK} (hk : skOf P t = some k) {xs : List Value} {j : Nat} {x : Value} (h : xs[j]? = some x) (w' : World) : (Go.part t xs.toArray j).run P w' = .ok x w' := by
  simp only [Go.part, Sem.run_bind, run_isAggT (skOf_isAgg hk), Result.andThen_ok, Bool.false_eq_true, if_false]
  have : xs.toArray[j]? = some x := by simpa using h
  rw [this]; rfl
theorem eqF_sound (d : Nat) (w' : World) {as bs : List V} {xs ys : List Value} (ha : VRels μ S w as xs) (hb : VRels μ S w bs ys) : ∀ {fs : List Field} {j : Nat} {ks : List SK}, skFields P fs j = some ks →
    confs ks (as.drop j) = true → confs ks (bs.drop j) = true → (Op.eqFields (d + 1) xs.toArray ys.toArray fs).run P w' = .ok (decide (as.drop j = bs.drop j)) w'
  | [], j, ks, h, c1, c2 => by
    simp [skFields] at h; subst h
    cases h1 : as.drop j <;> simp [h1, confs] at c1
    cases h2 : bs.drop j <;> simp [h2, confs] at c2
    rfl
  | f :: fs, j, ks, h, c1, c2 => by
    simp only [skFields] at h
    split at h
    · rename_i hf
      obtain ⟨hn, hoff⟩ := hf
      simp only [Option.bind_eq_some_iff, Option.map_eq_some_iff] at h
      obtain ⟨k, hk, ks', hks, rfl⟩ := h
      cases h1 : as.drop j with
      | nil => simp [h1, confs] at c1
      | cons a as' =>
        cases h2 : bs.drop j with
        | nil => simp [h2, confs] at c2
        | cons b bs' =>
          simp only [h1, confs, Bool.and_eq_true] at c1
          simp only [h2, confs, Bool.and_eq_true] at c2
          have ga : as[j]? = some a := by have := List.getElem?_drop (xs := as) (i := j) (j := 0); rw [h1] at this; simpa using this.symm
          have gb : bs[j]? = some b := by have := List.getElem?_drop (xs := bs) (i := j) (j := 0); rw [h2] at this; simpa using this.symm
          obtain ⟨x, gx, rx⟩ := ha.get? j a ga
          obtain ⟨y, gy, ry⟩ := hb.get? j b gb
          have da : as.drop (j + 1) = as' := by rw [← List.drop_drop, h1]; rfl
          have db : bs.drop (j + 1) = bs' := by rw [← List.drop_drop, h2]; rfl
          have ih := eqF_sound d w' ha hb (fs := fs) (j := j + 1) hks (by rw [da]; exact c1.2) (by rw [db]; exact c2.2)
          simp only [Op.eqFields, ne_eq, hn, not_false_eq_true, if_true, Sem.run_bind, hoff, part_sc hk gx, part_sc hk gy, Result.andThen_ok, sk_eq hk c1.1 c2.1 rx ry d w']
          by_cases hab : a = b
          · simp only [hab, decide_true, Bool.not_true, Bool.false_eq_true, if_false]
            rw [ih, da, db]
            simp
          · simp [hab]
    · cases h
theorem eqI_sound (d : Nat) (w' : World) {e : TypeId} {k : SK} (hk : skOf P e = some k) (h1 : P.cellsOf e = 1) {as bs : List V} {xs ys : List Value} (ha : VRels μ S w as xs) (hb : VRels μ S w bs ys) : ∀ (n j : Nat),
    confs (List.replicate n k) (as.drop j) = true → confs (List.replicate n k) (bs.drop j) = true → (Op.eqItems (d + 1) e (P.cellsOf e) xs.toArray ys.toArray (List.range' j n)).run P w' = .ok (decide (as.drop j = bs.drop j)) w'
  | 0, j, c1, c2 => by
    cases h1 : as.drop j <;> simp [h1, confs] at c1
    cases h2 : bs.drop j <;> simp [h2, confs] at c2
    rfl
  | n + 1, j, c1, c2 => by
    cases g1 : as.drop j with
    | nil => simp [g1, List.replicate_succ, confs] at c1
    | cons a as' =>
      cases g2 : bs.drop j with
      | nil => simp [g2, List.replicate_succ, confs] at c2
      | cons b bs' =>
        simp only [g1, List.replicate_succ, confs, Bool.and_eq_true] at c1
        simp only [g2, List.replicate_succ, confs, Bool.and_eq_true] at c2
        have ga : as[j]? = some a := by have := List.getElem?_drop (xs := as) (i := j) (j := 0); rw [g1] at this; simpa using this.symm
        have gb : bs[j]? = some b := by have := List.getElem?_drop (xs := bs) (i := j) (j := 0); rw [g2] at this; simpa using this.symm
        obtain ⟨x, gx, rx⟩ := ha.get? j a ga
        obtain ⟨y, gy, ry⟩ := hb.get? j b gb
        have da : as.drop (j + 1) = as' := by rw [← List.drop_drop, g1]; rfl
        have db : bs.drop (j + 1) = bs' := by rw [← List.drop_drop, g2]; rfl
        have ih := eqI_sound d w' hk h1 ha hb n (j + 1) (by rw [da]; exact c1.2) (by rw [db]; exact c2.2)
        rw [List.range'_succ]
        simp only [Op.eqItems, Sem.run_bind, h1, Nat.mul_one, part_sc hk gx, part_sc hk gy, Result.andThen_ok, sk_eq hk c1.1 c2.1 rx ry d w']
        rw [h1] at ih
        by_cases hab : a = b
        · simp only [hab, decide_true, Bool.not_true, Bool.false_eq_true, if_false]
          rw [ih, da, db]
          simp
        · simp [hab]
theorem cellsOf_szOf {t : TypeId} {s : Nat} (h : szOf P t = some s) : P.cellsOf t = s := by
  unfold szOf at h
  unfold Program.cellsOf
  rw [h]; rfl
theorem ks_eq {t : TypeId} {ks : List SK} (hk : ksOf P t = some ks) {as bs : List V} (ha : confs ks as = true) (hb : confs ks bs = true) {x y : Value} (hx : VRel μ S w (.agg as) x) (hy : VRel μ S w (.agg bs) y) (d : Nat) (w' : World) :
    (Op.equalIn (d + 2) t x y).run P w' = .ok (decide (as = bs)) w' := by
  obtain ⟨xs, rfl, rx, -⟩ := hx.agg_inv
  obtain ⟨ys, rfl, ry, -⟩ := hy.agg_inv
  unfold ksOf at hk
  split at hk
  · rename_i fs hu
    split at hk
    · cases hk
    · rename_i hp
      have hp : P.stoodInHeld t = false := by simpa using hp
      have hf : P.fieldsOf t = fs := by unfold Program.fieldsOf; rw [hu]
      rw [run_equalIn_struct w' (d + 1) t _ _ (by rw [hf]; exact hu) hp, hf]
      have := eqF_sound (P := P) d w' rx ry hk (by simpa using ha) (by simpa using hb)
      simpa using this
  · rename_i n e hu
    split at hk
    · rename_i hs
      simp only [Option.map_eq_some_iff] at hk
      obtain ⟨k, hk, rfl⟩ := hk
      obtain ⟨i, hi, -⟩ : ∃ i, P.info? e = some i ∧ True := by
        simp only [szOf, Option.map_eq_some_iff] at hs
        obtain ⟨i, hi, -⟩ := hs
        exact ⟨i, hi, trivial⟩
      rw [run_equalIn_array w' (d + 1) _ _ hu hi, List.range_eq_range']
      have := eqI_sound (P := P) d w' hk (cellsOf_szOf hs) rx ry n 0 (by simpa using ha) (by simpa using hb)
      simpa using this
    · cases hk
  · cases hk
end
end Go.AM

/- All pure operations. -/
set_option linter.unusedVariables false
set_option linter.unusedSimpArgs false
namespace Go.AM
open Go.RowKit
section
variable {P : Program} {μ : Mu} {S : Nat → Prop} {w : World}

theorem VRel.lst_some {xs : List V} {x : Value} (h : VRel μ S w (.lst xs) x) (hne : xs.isEmpty = false) : ∃ a n c, x = .slice (some a) n c := by
  cases h with
  | lst0 => simp at hne
  | lst => exact ⟨_, _, _, rfl⟩
theorem VRel.ptr_inv {id s i fo : Nat} {x : Value} (h : VRel μ S w (.ptr id s i fo) x) : ∃ b o, x = .pointer (some ⟨b, o + i * s + fo, none⟩) ∧ μ id = some (b, o) := by
  cases h; exact ⟨_, _, rfl, by assumption⟩
theorem VRel.cptr_inv {cs : List V} {x : Value} (h : VRel μ S w (.cptr cs) x) : ∃ (b o : Nat) (c : Array Value) (e : TypeId) (fz : Nat × Nat) (f : Nat → Value), x = .pointer (some ⟨b, o, none⟩) ∧ S b ∧ w.heap[b]? = some (.cells c e fz) ∧
    (∀ (j : Nat) (v : V), cs[j]? = some v → v.sc = true ∧ c[o + j]? = some (f j)) ∧ (∀ (j : Nat) (v : V), cs[j]? = some v → VRel μ S w v (f j)) := by
  cases h; exact ⟨_, _, _, _, _, _, rfl, by assumption, by assumption, by assumption, by assumption⟩
theorem nil_eq (d : Nat) {t : TypeId} {y : Operand} {k : NK} (hk : nilKind P t y = some k) {v : V} {x : Value} (hx : VRel μ S w v x) {b : Bool} (h : nilB k v = some b) (w' : World) :
    ∃ z, y = .const z ∧ (Op.equalIn (d + 1) t x z).run P w' = .ok b w' ∧ (∀ op ox, (eqGuard op t ox y x z).run P w' = .ok () w') ∧
      binOp .eql t x z = (do pure (.bool (← Op.equal t x z))) ∧ binOp .neq t x z = (do pure (.bool (!(← Op.equal t x z)))) := by
  unfold nilKind at hk
  split at hk <;> first
    | (cases hk; done)
    | skip
  all_goals
    rename_i hu
    injection hk with hk; subst hk
    refine ⟨_, rfl, ?_⟩
    unfold nilB at h
    split at h <;> first
      | (rename_i hk; cases hk; done)
      | (cases h; done)
      | skip
  all_goals first
    | (injection h with h; subst h; cases hx; exact ⟨by simp [Op.equalIn, run_und hu], fun op ox => eqGuard_ok op _ _ _ _ _ ⟨by simp, by simp⟩, rfl, rfl⟩)
    | skip
  · split at h
    · cases h
    · rename_i hne
      injection h with h; subst h
      cases hx with
      | ref0 => exact absurd rfl hne
      | ref => exact ⟨by simp [Op.equalIn, run_und hu], fun op ox => eqGuard_ok op _ _ _ _ _ ⟨by simp, by simp⟩, rfl, rfl⟩
  · split at h
    · cases h
    · rename_i hne
      injection h with h; subst h
      obtain ⟨a, n, c, rfl⟩ := hx.lst_some (by simpa using hne)
      exact ⟨by simp [Op.equalIn, run_und hu], fun op ox => eqGuard_ok op _ _ _ _ _ ⟨by simp, by simp⟩, rfl, rfl⟩
theorem un_sound (op : UnOp) {v : V} {x : Value} (hx : VRel μ S w v x) {r : V} (h : stepUn op v = some r) (w' : World) : ∃ cv, (Op.unary op x).run P w' = .ok cv w' ∧ VRel μ S w r cv := by
  unfold stepUn at h
  split at h <;> first
    | (injection h with h; subst h; cases hx; refine ⟨_, ?_, .int _ _⟩; simp [Op.unary, Op.intArith, Op.intBits, bitsOp]; done)
    | (injection h with h; subst h; cases hx; refine ⟨_, ?_, .bool _⟩; simp [Op.unary]; done)
    | (cases h; done)
theorem fad_sound {t : TypeId} {f : Nat} {fd : Field} {s : Nat} (hf : fieldOf P t f = some fd) (hs : szOf P fd.type = some s) (h0 : s ≠ 0) {v : V} {x : Value} (hx : VRel μ S w v x) {r : V} (h : stepP (fun _ => v) (.fad fd.offset (.t 0)) = some r) (w' : World) :
    ∃ cv, (Instr.fieldAt t x f).run P w' = .ok cv w' ∧ VRel μ S w r cv := by
  have run : ∀ a : Addr, (Instr.fieldAt t (.pointer (some a)) f).run P w' = .ok (.pointer (some (a.add fd.offset))) w' := by
    intro a
    unfold fieldOf at hf
    split at hf
    · rename_i fs hu
      simp only [Instr.fieldAt, Sem.run_bind, run_und hu, Result.andThen_ok, hf, Instr.sureAddr, Sem.run_pure, fieldPlace, run_szOf hs]
      simp [h0]
    · cases hf
  simp only [stepP] at h
  split at h
  · injection h with h; subst h
    obtain ⟨b, o, rfl, g⟩ := hx.ptr_inv
    refine ⟨_, run _, ?_⟩
    rw [fad_ok _ fd.offset b _ rfl, Nat.add_assoc]
    exact .ptr _ _ _ _ b o g
  · split at h
    · injection h with h; subst h
      obtain ⟨b, o, c, e, fz, g, rfl, h1, h2, h3, h4⟩ := hx.cptr_inv
      · refine ⟨_, run _, ?_⟩
        rw [fad_ok _ fd.offset b o rfl]
        refine .cptr _ b (o + fd.offset) c e fz (fun j => g (fd.offset + j)) h1 h2 (fun j v hj => ?_) (fun j v hj => ?_)
        · rw [List.getElem?_drop] at hj
          rw [Nat.add_assoc]
          exact h3 _ v hj
        · rw [List.getElem?_drop] at hj
          exact h4 _ v hj
    · cases h
  · cases h
theorem iar_sound {t e : TypeId} {n s : Nat} (ht : P.underlying t = some (.array n e)) (hs : szOf P e = some s) {ρ : Opd → V} {ox oi : Opd} {x i : Value} (hx : VRel μ S w (ρ ox) x) (hi : VRel μ S w (ρ oi) i) {r : V}
    (h : stepP ρ (.iar n s ox oi) = some r) (w' : World) : ∃ cv, (Instr.indexAt t x i).run P w' = .ok cv w' ∧ VRel μ S w r cv := by
  have run : ∀ (a : Addr) (k : IntKind) (j : Int), 0 ≤ j → j < (n : Int) → (Instr.indexAt t (.pointer (some a)) (.int k j)).run P w' = .ok (.pointer (some (a.add (j.toNat * s)))) w' := by
    intro a k j h0 h1
    simp only [Instr.indexAt, asIntOf, Sem.run_bind, Sem.run_pure, Result.andThen_ok, run_und ht, Instr.sureAddr, h0, h1, and_self, if_true, run_szOf hs]
  simp only [stepP] at h
  split at h
  · rename_i hρ
    simp only [Option.bind_eq_bind, Option.bind_eq_some_iff] at h
    obtain ⟨j, hj, h⟩ := h
    injection h with h; subst h
    obtain ⟨k, m, he, h0, h1, rfl⟩ := ixOf_inv hj
    rw [he] at hi
    rw [hρ] at hx
    cases hi
    obtain ⟨b, o, rfl, g⟩ := hx.ptr_inv
    refine ⟨_, run _ k m h0 h1, ?_⟩
    rw [fad_ok _ _ b _ rfl, Nat.add_assoc]
    exact .ptr _ _ _ _ b o g
  · rename_i hρ
    simp only [Option.bind_eq_bind, Option.bind_eq_some_iff] at h
    obtain ⟨j, hj, h⟩ := h
    split at h
    · injection h with h; subst h
      obtain ⟨k, m, he, h0, h1, rfl⟩ := ixOf_inv hj
      rw [he] at hi
      rw [hρ] at hx
      cases hi
      obtain ⟨b, o, c, e, fz, g, rfl, g1, g2, g3, g4⟩ := hx.cptr_inv
      · refine ⟨_, run _ k m h0 h1, ?_⟩
        rw [fad_ok _ _ b o rfl]
        refine .cptr _ b (o + m.toNat * s) c e fz (fun j => g (m.toNat * s + j)) g1 g2 (fun j v hj => ?_) (fun j v hj => ?_)
        · rw [List.getElem?_drop] at hj
          rw [Nat.add_assoc]
          exact g3 _ v hj
        · rw [List.getElem?_drop] at hj
          exact g4 _ v hj
    · cases h
  · cases h
theorem ixs_sound {t : TypeId} (ht : P.underlying t = some .string) {ρ : Opd → V} {ox oi : Opd} {x i : Value} (hx : VRel μ S w (ρ ox) x) (hi : VRel μ S w (ρ oi) i) {r : V} (h : stepP ρ (.ixs ox oi) = some r) (w' : World) :
    ∃ cv, (Instr.index t x i).run P w' = .ok cv w' ∧ VRel μ S w r cv := by
  simp only [stepP] at h
  split at h
  · rename_i hρ
    simp only [Option.bind_eq_bind, Option.bind_eq_some_iff] at h
    obtain ⟨j, hj, c, hc, h⟩ := h
    injection h with h; subst h
    obtain ⟨k, m, he, h0, h1, rfl⟩ := ixOf_inv hj
    rw [he] at hi
    rw [hρ] at hx
    cases hi
    obtain ⟨b, rfl, rfl⟩ := hx.str_inv
    refine ⟨_, ?_, .int _ _⟩
    have hb : b[m.toNat]? = some c := by
      have : b.data[m.toNat]? = some c := by simpa using hc
      obtain ⟨hlt, he⟩ := Array.getElem?_eq_some_iff.1 this
      have hlt' : m.toNat < b.size := hlt
      rw [getElem?_pos b m.toNat hlt']
      exact congrArg some he
    simp only [Instr.index, asIntOf, Sem.run_bind, Sem.run_pure, Result.andThen_ok, run_und ht, h0, if_true, hb]
  · cases h
theorem ixa_sound {t e : TypeId} {n : Nat} {sh : Sh} (ht : P.underlying t = some (.array n e)) (hs : shOf P e = some sh) {ρ : Opd → V} {ox oi : Opd} {x i : Value} (hx : VRel μ S w (ρ ox) x) (hi : VRel μ S w (ρ oi) i) {r : V}
    (h : stepP ρ (.ixa n sh ox oi) = some r) (w' : World) : ∃ cv, (Instr.index t x i).run P w' = .ok cv w' ∧ VRel μ S w r cv := by
  simp only [stepP] at h
  split at h
  · rename_i hρ
    simp only [Option.bind_eq_bind, Option.bind_eq_some_iff] at h
    obtain ⟨j, hj, h⟩ := h
    obtain ⟨k, m, he, h0, h1, rfl⟩ := ixOf_inv hj
    rw [he] at hi
    rw [hρ] at hx
    cases hi
    obtain ⟨vs, rfl, rv, hsc⟩ := hx.agg_inv
    obtain ⟨-, h2, -⟩ := shOf_agg hs
    obtain ⟨cv, hr, rr⟩ := part_sound hs rv hsc h w'
    refine ⟨cv, ?_, rr⟩
    simp only [Instr.index, asIntOf, Sem.run_bind, Sem.run_pure, Result.andThen_ok, run_und ht, h0, h1, and_self, if_true, run_szOf h2, hr]
  · cases h
theorem fld_sound {t : TypeId} {f : Nat} {fd : Field} {sh : Sh} (hf : fieldOf P t f = some fd) (hs : shOf P fd.type = some sh) {v : V} {x : Value} (hx : VRel μ S w v x) {r : V} (h : stepP (fun _ => v) (.fld fd.offset sh (.t 0)) = some r) (w' : World) :
    ∃ cv, (Instr.field t x f).run P w' = .ok cv w' ∧ VRel μ S w r cv := by
  simp only [stepP] at h
  split at h
  · obtain ⟨vs, rfl, rv, hsc⟩ := hx.agg_inv
    obtain ⟨cv, hr, rr⟩ := part_sound hs rv hsc h w'
    refine ⟨cv, ?_, rr⟩
    unfold fieldOf at hf
    split at hf
    · rename_i fs hu
      simp only [Instr.field, Sem.run_bind, run_und hu, Result.andThen_ok, hf, asAgg, Sem.run_pure, hr]
    · cases hf
  · cases h
theorem ext_sound {v : V} {x : Value} (hx : VRel μ S w v x) {i : Nat} {r : V} (h : stepP (fun _ => v) (.ext (.t 0) i) = some r) (w' : World) : ∃ cv, (Instr.extract x i).run P w' = .ok cv w' ∧ VRel μ S w r cv := by
  simp only [stepP] at h
  split at h
  · obtain ⟨vs, rfl, rv⟩ := hx.tup_inv
    obtain ⟨c, hc, rc⟩ := rv.get? i r h
    refine ⟨c, ?_, rc⟩
    have : vs.toArray[i]? = some c := by simpa using hc
    simp only [Instr.extract, this, Sem.run_pure]
  · cases h
theorem size_data (b : ByteArray) : b.data.toList.length = b.size := by rw [Array.length_toList]; rfl
theorem len_sound {st : Bool} {t ty : TypeId} (ht : if st then P.underlying t = some .string else ∃ e, P.underlying t = some (.slice e)) {v : V} {x : Value} (hx : VRel μ S w v x) {r : V} (h : stepP (fun _ => v) (.len st (.t 0)) = some r) (w' : World) :
    ∃ cv, (Builtin.len_ #[t] ty #[x]).run P w' = .ok cv w' ∧ VRel μ S w r cv := by
  simp only [stepP] at h
  have sl : ∀ e, P.underlying t = some (.slice e) → ∀ a n c, (Builtin.len_ #[t] ty #[.slice a n c]).run P w' = .ok (.int .i64 n) w' := by
    intro e hu a n c
    simp [Builtin.len_, run_und hu, goInt]
  split at h
  · injection h with h; subst h
    simp only [if_true] at ht
    obtain ⟨b, rfl, rfl⟩ := hx.str_inv
    refine ⟨_, ?_, .int _ _⟩
    rw [size_data]
    simp [Builtin.len_, run_und ht, goInt]
  · injection h with h; subst h
    obtain ⟨e, hu⟩ := ht
    obtain ⟨a, c, rfl, -⟩ := hx.lst_len
    exact ⟨_, sl e hu _ _ _, .int _ _⟩
  · injection h with h; subst h
    obtain ⟨e, hu⟩ := ht
    cases hx <;> exact ⟨_, sl e hu _ _ _, .int _ _⟩
  · injection h with h; subst h
    obtain ⟨e, hu⟩ := ht
    cases hx
    exact ⟨_, sl e hu _ _ _, .int _ _⟩
  · cases h
end
end Go.AM

/- All pure operations together. -/
set_option linter.unusedVariables false
set_option linter.unusedSimpArgs false
namespace Go.AM
open Go.RowKit
section
variable {P : Program} {μ : Mu} {S : Nat → Prop} {w : World}

/-- The operands of an operation: each abstract one says what the concrete one is. -/
def RelO (μ : Mu) (S : Nat → Prop) (w : World) (ρ : Opd → V) (cρ : Operand → Value) (xs : List Operand) : Prop := ∀ x ∈ xs, ∀ y, compX x = some y → VRel μ S w (ρ y) (cρ x)
theorem compXo_rel {ρ : Opd → V} {cρ : Operand → Value} {o : Option Operand} {y : Option Opd} (h : compXo o = some y) (hρ : RelO μ S w ρ cρ o.toList) :
    (∀ v, y.map ρ = some v → ∃ c, o.map cρ = some c ∧ VRel μ S w v c) ∧ (y.map ρ = none → o.map cρ = none) := by
  cases o with
  | none =>
    simp [compXo] at h; subst h
    simp
  | some x =>
    simp only [compXo, Option.map_eq_some_iff] at h
    obtain ⟨z, hz, rfl⟩ := h
    refine ⟨fun v hv => ?_, fun h => by simp at h⟩
    simp only [Option.map_some, Option.some.injEq] at hv
    subst hv
    exact ⟨_, rfl, hρ x (by simp) z hz⟩
theorem compXs_rel {ρ : Opd → V} {cρ : Operand → Value} : ∀ {xs : List Operand} {ys : List Opd}, compXs xs = some ys → RelO μ S w ρ cρ xs → VRels μ S w (ys.map ρ) (xs.map cρ)
  | [], ys, h, _ => by simp [compXs] at h; subst h; exact .nil
  | x :: r, ys, h, hρ => by
    simp only [compXs, Option.bind_eq_some_iff, Option.map_eq_some_iff] at h
    obtain ⟨y, hy, zs, hz, rfl⟩ := h
    exact .cons (hρ x List.mem_cons_self y hy) (compXs_rel hz fun x' hx' => hρ x' (List.mem_cons_of_mem _ hx'))
theorem eq_of {t : TypeId} {x y : Operand} {a b : Value} {r : Bool} (neg : Bool) (w' : World) (hg : ∀ op, (eqGuard op t x y a b).run P w' = .ok () w') (he : (Op.equal t a b).run P w' = .ok r w')
    (h1 : binOp .eql t a b = (do pure (.bool (← Op.equal t a b)))) (h2 : binOp .neq t a b = (do pure (.bool (!(← Op.equal t a b))))) :
    (do eqGuard (if neg then .neq else .eql) t x y a b; binOp (if neg then .neq else .eql) t a b : Sem Value).run P w' = .ok (.bool (neg ^^ r)) w' := by
  simp only [Sem.run_bind, hg, Result.andThen_ok]
  cases neg
  · simp only [Bool.false_eq_true, if_false, h1, Sem.run_bind, he, Result.andThen_ok, Sem.run_pure, Bool.false_xor]
  · simp only [if_true, h2, Sem.run_bind, he, Result.andThen_ok, Sem.run_pure, Bool.true_xor]
theorem eq_sound {neg : Bool} {t : TypeId} {x y : Operand} {po : POp} (hc : compEq P neg t x y = some po) {ρ : Opd → V} {cρ : Operand → Value} (hρ : RelO μ S w ρ cρ [x, y]) (hcon : ∀ z, cρ (.const z) = z) {v : V} (h : stepP ρ po = some v) (w' : World) :
    ∃ cv, (do eqGuard (if neg then .neq else .eql) t x y (cρ x) (cρ y); binOp (if neg then .neq else .eql) t (cρ x) (cρ y) : Sem Value).run P w' = .ok cv w' ∧ VRel μ S w v cv := by
  unfold compEq at hc
  split at hc
  · rename_i hb
    simp only [Option.bind_eq_some_iff, Option.map_eq_some_iff] at hc
    obtain ⟨a, ha, b, hb', rfl⟩ := hc
    have ra := hρ x (by simp) a ha
    have rb := hρ y (by simp) b hb'
    have hu : P.underlying t = some .bool := by
      unfold isBoolT at hb
      split at hb
      · assumption
      · cases hb
    simp only [stepP] at h
    split at h
    · rename_i m n e1 e2
      injection h with h; subst h
      rw [e1] at ra; rw [e2] at rb
      rw [ra.bool_inv, rb.bool_inv]
      exact ⟨_, eq_of neg w' (fun op => eqGuard_ok op t x y _ _ ⟨by simp, by simp⟩) (by rw [← beq_dec]; exact run_equalIn_bool' w' 9999 t m n hu) rfl rfl, .bool _⟩
    · cases h
  · split at hc
    · rename_i k hk
      simp only [Option.map_eq_some_iff] at hc
      obtain ⟨a, ha, rfl⟩ := hc
      have ra := hρ x (by simp) a ha
      simp only [stepP, Option.map_eq_some_iff] at h
      obtain ⟨b, hb, rfl⟩ := h
      obtain ⟨z, rfl, he, hg, h1, h2⟩ := nil_eq 9999 hk ra hb w'
      rw [hcon]
      exact ⟨_, eq_of neg w' (fun op => hg op x) he h1 h2, .bool _⟩
    · split at hc
      · cases hc
      · rename_i hm
        have hm : P.eqGuardType P.depth t = false := by simpa using hm
        simp only [Option.bind_eq_some_iff, Option.map_eq_some_iff] at hc
        obtain ⟨ks, hks, a, ha, b, hb, rfl⟩ := hc
        have ra := hρ x (by simp) a ha
        have rb := hρ y (by simp) b hb
        simp only [stepP] at h
        split at h
        · rename_i m n e1 e2
          split at h
          · rename_i hcf
            injection h with h; subst h
            simp only [Bool.and_eq_true] at hcf
            rw [e1] at ra; rw [e2] at rb
            have he := ks_eq hks hcf.1 hcf.2 ra rb 9998 w'
            obtain ⟨xs, e3, -, -⟩ := ra.agg_inv
            obtain ⟨ys, e4, -, -⟩ := rb.agg_inv
            rw [e3, e4] at he ⊢
            exact ⟨_, eq_of neg w' (fun op => run_eqGuard_agg w' op t x y _ _ hm) he rfl rfl, .bool _⟩
          · cases h
        · cases h
theorem bin_sound {op : BinOp} {t : TypeId} {x y : Operand} {po : POp} (hc : compBin P op t x y = some po) {ρ : Opd → V} {cρ : Operand → Value} (hρ : RelO μ S w ρ cρ [x, y]) (hcon : ∀ z, cρ (.const z) = z) {v : V} (h : stepP ρ po = some v) (w' : World) :
    ∃ cv, (do eqGuard op t x y (cρ x) (cρ y); binOp op t (cρ x) (cρ y) : Sem Value).run P w' = .ok cv w' ∧ VRel μ S w v cv := by
  unfold compBin at hc
  split at hc
  · simp only [Option.bind_eq_some_iff, Option.map_eq_some_iff] at hc
    obtain ⟨a, ha, b, hb, rfl⟩ := hc
    have ra := hρ x (by simp) a ha
    have rb := hρ y (by simp) b hb
    simp only [stepP] at h
    unfold stepBin at h
    split at h
    · rename_i k m l n e1 e2
      rw [e1] at ra; rw [e2] at rb
      rw [ra.int_inv, rb.int_inv]
      have hg : (eqGuard op t x y (.int k m) (.int l n)).run P w' = .ok () w' := eqGuard_ok op t x y _ _ ⟨by simp, by simp⟩
      simp only [Sem.run_bind, hg, Result.andThen_ok]
      split at h
      · exact shI_sound op t k l m n h w'
      · rename_i hs
        split at h
        · rename_i hk; subst hk
          exact binI_sound op (by simpa using hs) t k m n h w'
        · cases h
    · rename_i m n e1 e2
      rw [e1] at ra; rw [e2] at rb
      obtain ⟨x', hx', rfl⟩ := ra.str_inv
      obtain ⟨y', hy', rfl⟩ := rb.str_inv
      rw [hx', hy']
      have hg : (eqGuard op t x y (.string x') (.string y')).run P w' = .ok () w' := eqGuard_ok op t x y _ _ ⟨by simp, by simp⟩
      simp only [Sem.run_bind, hg, Result.andThen_ok]
      exact binS_sound op t x' y' h w'
    · cases h
  · split at hc
    · exact eq_sound (neg := false) hc hρ hcon h w'
    · exact eq_sound (neg := true) hc hρ hcon h w'
    · cases hc
theorem P_sound {o : Oper} {po : POp} (hc : compOp P o = some (.p po)) {ρ : Opd → V} {cρ : Operand → Value} (hρ : RelO μ S w ρ cρ o.op.operands.toList) (hcon : ∀ z, cρ (.const z) = z) (hfn : ∀ f, cρ (.func f) = .func (.func f) #[] #[])
    {v : V} (h : stepP ρ po = some v) (w' : World) : ∃ cv, (execOp cρ o).run P w' = .ok (.value cv) w' ∧ VRel μ S w v cv := by
  have val : ∀ {s : Sem Value} {cv : Value}, s.run P w' = .ok cv w' → (do pure (.value (← s)) : Sem Next).run P w' = .ok (.value cv) w' := by
    intro s cv hs
    simp only [Sem.run_bind, hs, Result.andThen_ok, Sem.run_pure]
  have one : ∀ {x : Operand} {y : Opd}, compX x = some y → x ∈ o.op.operands.toList → VRel μ S w (ρ y) (cρ x) := fun hx hm => hρ _ hm _ hx
  unfold compOp at hc
  split at hc
  case h_1 x hop =>
    simp only [Option.map_eq_some_iff, AOp.p.injEq] at hc
    obtain ⟨y, hy, rfl⟩ := hc
    simp only [stepP, Option.some.injEq] at h; subst h
    exact ⟨_, by simp only [execOp, hop, Sem.run_pure], one hy (by simp [hop, Op.operands])⟩
  case h_2 x hop =>
    simp only [Option.map_eq_some_iff, AOp.p.injEq] at hc
    obtain ⟨y, hy, rfl⟩ := hc
    simp only [stepP, Option.some.injEq] at h; subst h
    exact ⟨_, by simp only [execOp, hop, Sem.run_pure], one hy (by simp [hop, Op.operands])⟩
  case h_3 c a b hop =>
    simp only [Option.bind_eq_some_iff, Option.map_eq_some_iff, AOp.p.injEq] at hc
    obtain ⟨c', hc', a', ha', b', hb', rfl⟩ := hc
    simp only [stepP] at h
    split at h
    · rename_i t e
      injection h with h; subst h
      have rc := one hc' (by simp [hop, Op.operands])
      rw [e] at rc
      refine ⟨if t then cρ a else cρ b, ?_, ?_⟩
      · simp only [execOp, hop, rc.bool_inv, asBool, Sem.run_bind, Sem.run_pure, Result.andThen_ok]
      · cases t
        · exact one hb' (by simp [hop, Op.operands])
        · exact one ha' (by simp [hop, Op.operands])
    · cases h
  case h_6 t ps hop =>
    simp only [Option.bind_eq_some_iff, Option.map_eq_some_iff, AOp.p.injEq] at hc
    obtain ⟨z, hz, pl, hpl, l, hl, rfl⟩ := hc
    simp only [stepP, Option.map_eq_some_iff] at h
    obtain ⟨cs, hcs, rfl⟩ := h
    obtain ⟨cv, hr, rr⟩ := build_sound hz hpl hl (ρ := ρ) (cρ := cρ) (fun x hx y hy => one hy (by simpa [hop, Op.operands] using hx)) hcs w'
    exact ⟨cv, by simp only [execOp, hop]; exact val hr, rr⟩
  case h_10 x hop =>
    simp only [Option.map_eq_some_iff, AOp.p.injEq] at hc
    obtain ⟨y, hy, rfl⟩ := hc
    have rx := one hy (by simp [hop, Op.operands])
    simp only [stepP] at h
    split at h
    · rename_i e
      injection h with h; subst h
      rw [e] at rx
      obtain ⟨b, o', hx, -⟩ := rx.ptr_inv
      exact ⟨cρ x, by simp only [execOp, hop]; rw [hx]; rfl, rx⟩
    · rename_i e
      injection h with h; subst h
      rw [e] at rx
      obtain ⟨b, o', c, e, fz, f, hx, -⟩ := rx.cptr_inv
      exact ⟨cρ x, by simp only [execOp, hop]; rw [hx]; rfl, rx⟩
    · rename_i e
      injection h with h; subst h
      rw [e] at rx
      refine ⟨cρ x, ?_, rx⟩
      simp only [execOp, hop]
      generalize cρ x = y at rx
      cases rx
      rfl
    · cases h
  case h_11 op t x y z hop =>
    simp only [Option.map_eq_some_iff, AOp.p.injEq] at hc
    obtain ⟨po', hpo, rfl⟩ := hc
    obtain ⟨cv, hr, rr⟩ := bin_sound hpo (ρ := ρ) (cρ := cρ) (fun x hx y hy => one hy (by simpa [hop, Op.operands] using hx)) hcon h w'
    exact ⟨cv, by simp only [execOp, hop]; exact val hr, rr⟩
  case h_12 op t x hop =>
    simp only [Option.map_eq_some_iff, AOp.p.injEq] at hc
    obtain ⟨y, hy, rfl⟩ := hc
    obtain ⟨cv, hr, rr⟩ := un_sound (P := P) op (one hy (by simp [hop, Op.operands])) h w'
    exact ⟨cv, by simp only [execOp, hop]; exact val hr, rr⟩
  case h_13 src dst x hop =>
    split at hc
    · rename_i k1 k2 h1 h2
      simp only [Option.map_eq_some_iff, AOp.p.injEq] at hc
      obtain ⟨y, hy, rfl⟩ := hc
      have rx := one hy (by simp [hop, Op.operands])
      simp only [stepP] at h
      split at h
      · rename_i e
        injection h with h; subst h
        rw [e] at rx
        refine ⟨_, ?_, .int _ _⟩
        simp only [execOp, hop, rx.int_inv]
        refine val ?_
        simp only [convert, Sem.run_bind, run_und h1, run_und h2, Result.andThen_ok, Conv.intToInt, Sem.run_pure]
      · cases h
    · split at hc <;> simp at hc
    · split at hc <;> simp at hc
    · cases hc
  case h_14 f first caps hop =>
    simp only [Option.bind_eq_some_iff, Option.map_eq_some_iff, AOp.p.injEq] at hc
    obtain ⟨p, hp, l, hl, rfl⟩ := hc
    simp only [stepP, Option.some.injEq] at h; subst h
    have rp := compXs_rel hp (ρ := ρ) (cρ := cρ) (fun x hx y hy => one hy (by simp only [hop, Op.operands]; simp; exact .inl (by simpa using hx)))
    have rl := compXs_rel hl (ρ := ρ) (cρ := cρ) (fun x hx y hy => one hy (by simp only [hop, Op.operands]; simp; exact .inr (by simpa using hx)))
    refine ⟨_, by simp only [execOp, hop, Instr.makeFunc]; exact val rfl, ?_⟩
    exact .fn f _ _ _ _ (by simpa using rp.length) (fun j v hj => by simpa using rp.get j v hj) (by simpa using rl.length) (fun j v hj => by simpa using rl.get j v hj)
  case h_18 t x lo hi hop =>
    simp only [Option.bind_eq_some_iff] at hc
    obtain ⟨x', hx', lo', hlo, hi', hhi, hc⟩ := hc
    have rx := one hx' (by simp [hop, Op.operands])
    obtain ⟨a1, a2⟩ := compXo_rel hlo (ρ := ρ) (cρ := cρ) (fun x hx y hy => one hy (by simp [hop, Op.operands] at hx ⊢; simp [hx]))
    obtain ⟨b1, b2⟩ := compXo_rel hhi (ρ := ρ) (cρ := cρ) (fun x hx y hy => one hy (by simp [hop, Op.operands] at hx ⊢; simp [hx]))
    split at hc
    · rename_i hu
      simp only [Option.some.injEq, AOp.p.injEq] at hc; subst hc
      obtain ⟨cv, hr, rr⟩ := sls_sound hu rx a1 a2 b1 b2 h w'
      exact ⟨cv, by simp only [execOp, hop]; exact val hr, rr⟩
    · rename_i e hu
      simp only [Option.map_eq_some_iff, AOp.p.injEq] at hc
      obtain ⟨s, hs, rfl⟩ := hc
      obtain ⟨cv, hr, rr⟩ := slc_sound hu hs rx a1 a2 b1 b2 h w'
      exact ⟨cv, by simp only [execOp, hop]; exact val hr, rr⟩
    · cases hc
  case h_19 t x f hop =>
    simp only [Option.bind_eq_some_iff] at hc
    obtain ⟨fd, hfd, s, hs, x', hx', hc⟩ := hc
    split at hc
    · rename_i h0
      simp only [Option.some.injEq, AOp.p.injEq] at hc; subst hc
      obtain ⟨cv, hr, rr⟩ := fad_sound hfd hs h0 (one hx' (by simp [hop, Op.operands])) h w'
      exact ⟨cv, by simp only [execOp, hop]; exact val hr, rr⟩
    · cases hc
  case h_20 t x f hop =>
    simp only [Option.bind_eq_some_iff, Option.map_eq_some_iff, AOp.p.injEq] at hc
    obtain ⟨fd, hfd, s, hs, x', hx', rfl⟩ := hc
    obtain ⟨cv, hr, rr⟩ := fld_sound hfd hs (one hx' (by simp [hop, Op.operands])) h w'
    exact ⟨cv, by simp only [execOp, hop]; exact val hr, rr⟩
  case h_21 t x i hop =>
    simp only [Option.bind_eq_some_iff] at hc
    obtain ⟨x', hx', i', hi', hc⟩ := hc
    have rx := one hx' (by simp [hop, Op.operands])
    have ri := one hi' (by simp [hop, Op.operands])
    split at hc
    · rename_i e hu
      simp only [Option.map_eq_some_iff, AOp.p.injEq] at hc
      obtain ⟨s, hs, rfl⟩ := hc
      obtain ⟨cv, hr, rr⟩ := iad_sound hu hs rx ri h w'
      exact ⟨cv, by simp only [execOp, hop]; exact val hr, rr⟩
    · rename_i n e hu
      simp only [Option.map_eq_some_iff, AOp.p.injEq] at hc
      obtain ⟨s, hs, rfl⟩ := hc
      obtain ⟨cv, hr, rr⟩ := iar_sound hu hs rx ri h w'
      exact ⟨cv, by simp only [execOp, hop]; exact val hr, rr⟩
    · cases hc
  case h_22 t x i hop =>
    simp only [Option.bind_eq_some_iff] at hc
    obtain ⟨x', hx', i', hi', hc⟩ := hc
    have rx := one hx' (by simp [hop, Op.operands])
    have ri := one hi' (by simp [hop, Op.operands])
    split at hc
    · rename_i hu
      simp only [Option.some.injEq, AOp.p.injEq] at hc; subst hc
      obtain ⟨cv, hr, rr⟩ := ixs_sound hu rx ri h w'
      exact ⟨cv, by simp only [execOp, hop]; exact val hr, rr⟩
    · rename_i n e hu
      simp only [Option.map_eq_some_iff, AOp.p.injEq] at hc
      obtain ⟨s, hs, rfl⟩ := hc
      obtain ⟨cv, hr, rr⟩ := ixa_sound hu hs rx ri h w'
      exact ⟨cv, by simp only [execOp, hop]; exact val hr, rr⟩
    · cases hc
  case h_25 x i hop =>
    simp only [Option.map_eq_some_iff, AOp.p.injEq] at hc
    obtain ⟨y, hy, rfl⟩ := hc
    obtain ⟨cv, hr, rr⟩ := ext_sound (P := P) (one hy (by simp [hop, Op.operands])) h w'
    exact ⟨cv, by simp only [execOp, hop]; exact val hr, rr⟩
  case h_26 c hop =>
    have bi : ∀ (b : Builtin), c.callee = .builtin b → ∀ {cv : Value}, (builtin b c.argTypes o.type (c.args.map fun | .const _ => true | _ => false) (c.args.map cρ)).run P w' = .ok (.value cv) w' →
        (execOp cρ o).run P w' = .ok (.value cv) w' := by
      intro b hb cv hr
      simp only [execOp, hop, resolve, hb, Sem.run_bind, Sem.run_pure, Result.andThen_ok, invoke]
      exact hr
    unfold compCall at hc
    split at hc
    · split at hc <;> simp at hc
    · simp [Option.bind_eq_some_iff] at hc
    · cases hc
    · rename_i b hb
      split at hc
      · rename_i x t e1 e2
        simp only [Option.bind_eq_some_iff] at hc
        obtain ⟨y, hy, hc⟩ := hc
        have ea : c.args = #[x] := Array.toList_inj.1 e1
        have et : c.argTypes = #[t] := Array.toList_inj.1 e2
        have rx := one hy (by simp [hop, Op.operands, Call.operands, hb, ea])
        have fin : ∀ st, (if st then P.underlying t = some .string else ∃ e, P.underlying t = some (.slice e)) → po = .len st y → ∃ cv, (execOp cρ o).run P w' = .ok (.value cv) w' ∧ VRel μ S w v cv := by
          intro st hst he
          subst he
          obtain ⟨cv, hr, rr⟩ := len_sound (P := P) (ty := o.type) hst rx (r := v) h w'
          refine ⟨cv, bi _ hb ?_, rr⟩
          simp only [builtin, ea, et]
          have : (#[x] : Array Operand).map cρ = #[cρ x] := by simp
          rw [this]
          exact val hr
        split at hc
        · rename_i hu
          simp only [Option.some.injEq, AOp.p.injEq] at hc
          exact fin true (by simpa using hu) hc.symm
        · rename_i e hu
          simp only [Option.some.injEq, AOp.p.injEq] at hc
          exact fin false (by simpa using ⟨e, hu⟩) hc.symm
        · cases hc
        · cases hc
      · simp [Option.bind_eq_some_iff] at hc
      · simp [Option.bind_eq_some_iff] at hc
      · simp [Option.bind_eq_some_iff] at hc
      · rename_i x y e1
        simp only [Option.bind_eq_some_iff, Option.map_eq_some_iff, AOp.p.injEq] at hc
        obtain ⟨a, ha, b', hb', rfl⟩ := hc
        have ea : c.args = #[x, y] := Array.toList_inj.1 e1
        have rx := one ha (by simp [hop, Op.operands, Call.operands, hb, ea])
        have ry := one hb' (by simp [hop, Op.operands, Call.operands, hb, ea])
        simp only [stepP] at h
        split at h
        · rename_i k m l n h1 h2
          injection h with h; subst h
          rw [h1] at rx; rw [h2] at ry
          refine ⟨_, bi _ hb ?_, .int _ _⟩
          have : (#[x, y] : Array Operand).map cρ = #[cρ x, cρ y] := by simp
          simp only [builtin, ea]
          rw [this, rx.int_inv, ry.int_inv]
          refine val ?_
          simp [Builtin.min_, Builtin.min2]
        · cases h
      · rename_i x y e1
        simp only [Option.bind_eq_some_iff, Option.map_eq_some_iff, AOp.p.injEq] at hc
        obtain ⟨a, ha, b', hb', rfl⟩ := hc
        have ea : c.args = #[x, y] := Array.toList_inj.1 e1
        have rx := one ha (by simp [hop, Op.operands, Call.operands, hb, ea])
        have ry := one hb' (by simp [hop, Op.operands, Call.operands, hb, ea])
        simp only [stepP] at h
        split at h
        · rename_i k m l n h1 h2
          injection h with h; subst h
          rw [h1] at rx; rw [h2] at ry
          refine ⟨_, bi _ hb ?_, .int _ _⟩
          have : (#[x, y] : Array Operand).map cρ = #[cρ x, cρ y] := by simp
          simp only [builtin, ea]
          rw [this, rx.int_inv, ry.int_inv]
          refine val ?_
          simp [Builtin.max_, Builtin.max2]
        · cases h
      · cases hc
  all_goals first
    | (simp [Option.bind_eq_some_iff, Option.map_eq_some_iff] at hc; done)
    | (split at hc <;> simp [Option.bind_eq_some_iff, Option.map_eq_some_iff] at hc; done)
    | skip
end
end Go.AM

/- Operations that read memory. -/
set_option linter.unusedVariables false
set_option linter.unusedSimpArgs false
namespace Go.AM
open Go.RowKit
section
variable {P : Program} {μ : Mu} {S : Nat → Prop} {w : World}

theorem cell_of {b o : Nat} {c : Array Value} {e : TypeId} {fz : Nat × Nat} (h : w.heap[b]? = some (.cells c e fz)) : w.cell? ⟨b, o, none⟩ = c[o]? := by
  unfold World.cell?
  simp [h]
theorem load_of {b o : Nat} {x : Value} (h : w.cell? ⟨b, o, none⟩ = some x) : (load ⟨b, o, none⟩).run P w = .ok x w := by
  rw [run_load, h]
theorem loadCells_of {b o : Nat} : ∀ (xs : List Value) (i : Nat) (acc : Array Value), (∀ j x, xs[j]? = some x → w.cell? ⟨b, o + i + j, none⟩ = some x) →
    (loadCellsFrom ⟨b, o, none⟩ i xs.length acc).run P w = .ok (acc ++ xs.toArray) w
  | [], i, acc, _ => by simp [loadCellsFrom]
  | x :: r, i, acc, h => by
    have h0 := h 0 x rfl
    simp only [List.length_cons, loadCellsFrom, Sem.run_bind, fad_ok ⟨b, o, none⟩ i b o rfl, load_of (by simpa using h0), Result.andThen_ok]
    rw [loadCells_of r (i + 1) _ (fun j y hj => by rw [show o + (i + 1) + j = o + i + (j + 1) by omega]; exact h (j + 1) y (by simpa using hj))]
    congr 1
    apply Array.toList_inj.1
    simp
theorem loadVar_of {t : TypeId} {sh : Sh} (hs : shOf P t = some sh) {cs : List V} {b o off : Nat} {v : V} (h : part sh cs off = some v) {f : Nat → Value}
    (hc : ∀ (j : Nat) (u : V), cs[j]? = some u → u.sc = true ∧ w.cell? ⟨b, o + j, none⟩ = some (f j)) (hr : ∀ (j : Nat) (u : V), cs[j]? = some u → VRel μ S w u (f j)) :
    ∃ cv, (loadVar t ⟨b, o + off, none⟩).run P w = .ok cv w ∧ VRel μ S w v cv := by
  obtain ⟨h1, h2, h3⟩ := shOf_agg hs
  unfold part at h
  split at h
  · rename_i ha
    split at h
    · rename_i hle
      injection h with h; subst h
      rw [ha] at h1
      have hlen : ((cs.drop off).take sh.n).length = sh.n := by rw [List.length_take, List.length_drop]; omega
      have hget : ∀ j u, ((cs.drop off).take sh.n)[j]? = some u → cs[off + j]? = some u := by
        intro j u hj
        rw [List.getElem?_take] at hj
        split at hj
        · rwa [List.getElem?_drop] at hj
        · cases hj
      let xs := (List.range sh.n).map fun j => f (off + j)
      have hxl : xs.length = sh.n := by simp [xs]
      have hx : ∀ j x, xs[j]? = some x → w.cell? ⟨b, o + off + 0 + j, none⟩ = some x := by
        intro j x hj
        have hlt : j < sh.n := by have := (List.getElem?_eq_some_iff.1 hj).1; omega
        have hju : ∃ u, cs[off + j]? = some u := ⟨_, List.getElem?_eq_getElem (by omega)⟩
        obtain ⟨u, hu⟩ := hju
        have := (hc _ u hu).2
        simp only [xs, List.getElem?_map, List.getElem?_range hlt, Option.map_some, Option.some.injEq] at hj
        rw [← hj, show o + off + 0 + j = o + (off + j) by omega]
        exact this
      refine ⟨.agg xs.toArray, ?_, ?_⟩
      · simp only [loadVar, Sem.run_bind, run_isAggT h1, Result.andThen_ok, if_true, run_szOf h2, loadCells]
        have := loadCells_of (P := P) (w := w) (b := b) (o := o + off) xs 0 #[] hx
        rw [hxl] at this
        rw [this]
        simp
      · refine VRels.agg (VRels.of (by rw [hlen, hxl]) fun j u hj => ?_) ?_
        · have hj' := hget j u hj
          have hlt : j < sh.n := by have := (List.getElem?_eq_some_iff.1 hj).1; omega
          have : xs.getD j undef = f (off + j) := by simp [xs, List.getD, List.getElem?_range hlt]
          rw [this]
          exact hr _ u hj'
        · rw [List.all_eq_true]
          intro u hu
          obtain ⟨j, hj⟩ := List.getElem?_of_mem hu
          exact (hc _ u (hget j u hj)).1
    · cases h
  · rename_i ha
    have ha : sh.agg = false := by simpa using ha
    rw [ha] at h1
    refine ⟨f off, ?_, hr off v h⟩
    simp only [loadVar, Sem.run_bind, run_isAggT h1, Result.andThen_ok, Bool.false_eq_true, if_false]
    exact load_of (hc off v h).2
theorem rowAt_inv {H : Heap} {id s : Nat} {fl : Bool} {xs : List V} (h : rowAt H id s = some (fl, xs)) : H[id]? = some (.row s fl xs) := by
  unfold rowAt at h
  split at h
  · split at h
    · rename_i hs
      injection h with h
      injection h with h1 h2
      subst hs; subst h1; subst h2
      assumption
    · cases h
  · cases h
theorem okEl_len {s : Nat} {fl : Bool} {x : V} (h : okEl s fl x = true) : x.cells.length = s := by
  unfold okEl at h
  simp only [Bool.and_eq_true, beq_iff_eq] at h
  exact h.1
theorem okEl_sc {s : Nat} {fl : Bool} {x : V} (h : okEl s fl x = true) : x.cells.all V.sc = true := by
  unfold okEl at h
  simp only [Bool.and_eq_true, beq_iff_eq] at h
  exact h.2.1
theorem flat_sc {s : Nat} {fl : Bool} {xs : List V} (h : ∀ x ∈ xs, okEl s fl x = true) {j : Nat} {v : V} (hj : (xs.flatMap V.cells)[j]? = some v) : v.sc = true := by
  have := List.mem_of_getElem? hj
  rw [List.mem_flatMap] at this
  obtain ⟨x, hx, hv⟩ := this
  exact List.all_eq_true.1 (okEl_sc (h x hx)) v hv
theorem row_inv {s : Nat} {fl : Bool} {xs : List V} {b o : Nat} (h : ORel μ S w (.row s fl xs) b o) : ∃ (c : Array Value) (e : TypeId) (f : Nat → Value), w.heap[b]? = some (.cells c e (0, 0)) ∧ (∀ x ∈ xs, okEl s fl x = true) ∧
    (∀ (j : Nat) (v : V), (xs.flatMap V.cells)[j]? = some v → c[o + j]? = some (f j)) ∧ (∀ (j : Nat) (v : V), (xs.flatMap V.cells)[j]? = some v → VRel μ S w v (f j)) ∧ o + xs.length * s ≤ c.size := by
  cases h; exact ⟨_, _, _, by assumption, by assumption, by assumption, by assumption, by assumption⟩
theorem load_sound {H : Heap} (I : Inv μ S H w) {t : TypeId} {sh : Sh} (hs : shOf P t = some sh) {v : V} {x : Value} (hx : VRel μ S w v x) {r : V} (h : stepR (fun _ => v) H (.load sh (.t 0)) = some r) :
    ∃ cv, (Instr.loadAt t x).run P w = .ok cv w ∧ VRel μ S w r cv := by
  simp only [stepR] at h
  split at h
  · rename_i id s i fo
    simp only [Option.bind_eq_bind, Option.bind_eq_some_iff] at h
    obtain ⟨⟨fl, xs⟩, hr, u, hu, h⟩ := h
    obtain ⟨b, o, rfl, hm⟩ := hx.ptr_inv
    obtain ⟨c, e, f, h1, h2, h3, h4, h5⟩ := row_inv (I.obj id _ b o (rowAt_inv hr) rfl hm)
    have hg : ∀ j u', u.cells[j]? = some u' → (xs.flatMap V.cells)[i * s + j]? = some u' := fun j u' hj => flatMap_get xs (fun x hx => okEl_len (h2 x hx)) hu hj
    obtain ⟨cv, hl, rr⟩ := loadVar_of (P := P) (w := w) (b := b) (o := o + i * s) hs h (f := fun j => f (i * s + j)) (fun j u' hj => ⟨flat_sc h2 (hg j u' hj), by
      rw [cell_of h1, Nat.add_assoc]; exact h3 _ _ (hg j u' hj)⟩) (fun j u' hj => h4 _ _ (hg j u' hj))
    refine ⟨cv, ?_, rr⟩
    simp only [Instr.loadAt, Instr.sureAddr, Sem.run_bind, Sem.run_pure, Result.andThen_ok]
    exact hl
  · rename_i cs
    obtain ⟨b, o, c, e, fz, f, rfl, hS, h1, h2, h3⟩ := hx.cptr_inv
    obtain ⟨cv, hl, rr⟩ := loadVar_of (P := P) (w := w) (b := b) (o := o) hs h (f := f) (fun j u' hj => ⟨(h2 j u' hj).1, by rw [cell_of h1]; exact (h2 j u' hj).2⟩) h3
    refine ⟨cv, ?_, rr⟩
    simp only [Instr.loadAt, Instr.sureAddr, Sem.run_bind, Sem.run_pure, Result.andThen_ok]
    simpa using hl
  · cases h

/-! ### Maps -/
theorem ba_inj {a b : ByteArray} (h : a.data.toList = b.data.toList) : a = b := by
  cases a; cases b; congr; exact Array.toList_inj.1 h
theorem conf_sk_det {k : SK} {a : V} (h : k.conf a = true) {x y : Value} (hx : VRel μ S w a x) (hy : VRel μ S w a y) : x = y := by
  cases k <;> cases a <;> simp only [SK.conf, Bool.false_eq_true] at h
  · rw [hx.int_inv, hy.int_inv]
  · rw [hx.bool_inv, hy.bool_inv]
  · obtain ⟨p, rfl, rfl⟩ := hx.str_inv
    obtain ⟨q, rfl, e⟩ := hy.str_inv
    rw [ba_inj (a := q) (b := p) e]
theorem confs_det {ks : List SK} {as : List V} (h : confs ks as = true) {xs ys : List Value} (hx : VRels μ S w as xs) (hy : VRels μ S w as ys) : xs = ys := by
  induction hx generalizing ks ys with
  | nil => cases hy; rfl
  | cons r _ ih =>
    cases hy with
    | cons r' hy' =>
      cases ks with
      | nil => simp [confs] at h
      | cons k ks =>
        simp only [confs, Bool.and_eq_true] at h
        rw [conf_sk_det h.1 r r', ih h.2 hy']
theorem conf_det {kt : KT} {a : V} (h : kt.conf a = true) {x y : Value} (hx : VRel μ S w a x) (hy : VRel μ S w a y) : x = y := by
  cases kt with
  | one k => exact conf_sk_det h hx hy
  | many ks =>
    cases a <;> simp only [KT.conf, Bool.false_eq_true] at h
    obtain ⟨xs, rfl, rx, -⟩ := hx.agg_inv
    obtain ⟨ys, rfl, ry, -⟩ := hy.agg_inv
    rw [confs_det h rx ry]

theorem chk_sk {t : TypeId} {k : SK} (hk : skOf P t = some k) {a : V} (ha : k.conf a = true) {x : Value} (hx : VRel μ S w a x) (em : Bool) (n : Nat) (w' : World) : (Instr.checkKey em (n + 1) t x).run P w' = .ok () w' := by
  unfold skOf at hk
  split at hk <;> first
    | (cases hk; done)
    | skip
  all_goals
    rename_i hu
    injection hk with hk; subst hk
    cases a <;> simp only [SK.conf, Bool.false_eq_true] at ha
  · rw [hx.int_inv]; simp [Instr.checkKey, run_und hu]
  · rw [hx.bool_inv]; simp [Instr.checkKey, run_und hu]
  · obtain ⟨p, rfl, -⟩ := hx.str_inv; simp [Instr.checkKey, run_und hu]
theorem chk_ks {t : TypeId} {ks : List SK} (hk : ksOf P t = some ks) {as : List V} (ha : confs ks as = true) {x : Value} (hx : VRel μ S w (.agg as) x) (em : Bool) (n : Nat) (w' : World) : (Instr.checkKey em (n + 2) t x).run P w' = .ok () w' := by
  obtain ⟨xs, rfl, rx, -⟩ := hx.agg_inv
  unfold ksOf at hk
  split at hk
  · rename_i fs hu
    split at hk
    · cases hk
    · have key : ∀ (L : List Field) (j : Nat) (ks : List SK), skFields P L j = some ks → confs ks (as.drop j) = true →
          (forIn L PUnit.unit (fun f (_ : PUnit) => if f.name ≠ "_" then do
              let y ← Go.part f.type xs.toArray f.offset
              Instr.checkKey em (n + 1) f.type y
              pure (ForInStep.yield PUnit.unit)
            else pure (ForInStep.yield PUnit.unit) : Field → PUnit → Sem (ForInStep PUnit))).run P w' = .ok PUnit.unit w' := by
        intro L
        induction L with
        | nil => intro j ks _ _; simp
        | cons f L ih =>
          intro j ks h c
          simp only [skFields] at h
          split at h
          · rename_i hf
            obtain ⟨hn, hoff⟩ := hf
            simp only [Option.bind_eq_some_iff, Option.map_eq_some_iff] at h
            obtain ⟨k, hk, ks', hks, rfl⟩ := h
            cases h1 : as.drop j with
            | nil => simp [h1, confs] at c
            | cons a as' =>
              simp only [h1, confs, Bool.and_eq_true] at c
              have ga : as[j]? = some a := by have := List.getElem?_drop (xs := as) (i := j) (j := 0); rw [h1] at this; simpa using this.symm
              obtain ⟨y, gy, ry⟩ := rx.get? j a ga
              have da : as.drop (j + 1) = as' := by rw [← List.drop_drop, h1]; rfl
              simp only [List.forIn_cons, Sem.run_bind, ne_eq, hn, not_false_eq_true, if_true, hoff, part_sc hk gy, Result.andThen_ok, chk_sk hk c.1 ry em n w', Sem.run_pure]
              exact ih (j + 1) ks' hks (by rw [da]; exact c.2)
          · cases h
      have := key fs.toList 0 ks hk (by simpa using ha)
      rw [show n + 2 = (n + 1) + 1 from rfl, Instr.checkKey]
      simp only [Sem.run_bind, run_und hu, Result.andThen_ok]
      rw [← Array.forIn_toList]
      rw [this]
      rfl
  · rename_i m e hu
    split at hk
    · rename_i hs
      simp only [Option.map_eq_some_iff] at hk
      obtain ⟨k, hk, rfl⟩ := hk
      have key : ∀ (m j : Nat), confs (List.replicate m k) (as.drop j) = true →
          (forIn (List.range' j m) PUnit.unit (fun i (_ : PUnit) => do
            Instr.checkKey em (n + 1) e (← Go.part e xs.toArray (i * (← Go.sizeOf e)))
            pure (ForInStep.yield PUnit.unit) : Nat → PUnit → Sem (ForInStep PUnit))).run P w' = .ok PUnit.unit w' := by
        intro m
        induction m with
        | zero => intro j _; simp
        | succ m ih =>
          intro j c
          cases h1 : as.drop j with
          | nil => simp [h1, List.replicate_succ, confs] at c
          | cons a as' =>
            simp only [h1, List.replicate_succ, confs, Bool.and_eq_true] at c
            have ga : as[j]? = some a := by have := List.getElem?_drop (xs := as) (i := j) (j := 0); rw [h1] at this; simpa using this.symm
            obtain ⟨y, gy, ry⟩ := rx.get? j a ga
            have da : as.drop (j + 1) = as' := by rw [← List.drop_drop, h1]; rfl
            simp only [List.range'_succ, List.forIn_cons, Sem.run_bind, run_szOf hs, Nat.mul_one, part_sc hk gy, Result.andThen_ok, chk_sk hk c.1 ry em n w', Sem.run_pure]
            exact ih (j + 1) (by rw [da]; exact c.2)
      have := key m 0 (by simpa using ha)
      rw [show n + 2 = (n + 1) + 1 from rfl, Instr.checkKey]
      simp only [Sem.run_bind, run_und hu, Result.andThen_ok]
      simp only [Std.Legacy.Range.forIn_eq_forIn_range', Std.Legacy.Range.size, Nat.sub_zero, Nat.add_one_sub_one, Nat.div_one]
      rw [this]
      rfl
    · cases hk
  · cases hk
theorem ktOf_cases {t : TypeId} {kt : KT} (h : ktOf P t = some kt) : (∃ k, kt = .one k ∧ skOf P t = some k) ∨ ∃ ks, kt = .many ks ∧ ksOf P t = some ks := by
  unfold ktOf at h
  split at h
  · injection h with h; exact .inl ⟨_, h.symm, by assumption⟩
  · simp only [Option.map_eq_some_iff] at h
    obtain ⟨ks, hks, rfl⟩ := h
    exact .inr ⟨ks, rfl, hks⟩
theorem chk_kt {t : TypeId} {kt : KT} (hk : ktOf P t = some kt) {a : V} (ha : kt.conf a = true) {x : Value} (hx : VRel μ S w a x) (em : Bool) (n : Nat) (w' : World) : (Instr.checkKey em (n + 2) t x).run P w' = .ok () w' := by
  rcases ktOf_cases hk with ⟨k, rfl, hk'⟩ | ⟨ks, rfl, hk'⟩
  · exact chk_sk hk' ha hx em (n + 1) w'
  · cases a <;> simp only [KT.conf, Bool.false_eq_true] at ha
    exact chk_ks hk' ha hx em n w'
theorem eq_kt {t : TypeId} {kt : KT} (hk : ktOf P t = some kt) {a b : V} (ha : kt.conf a = true) (hb : kt.conf b = true) {x y : Value} (hx : VRel μ S w a x) (hy : VRel μ S w b y) (w' : World) : (Op.equal t x y).run P w' = .ok (decide (a = b)) w' := by
  rcases ktOf_cases hk with ⟨k, rfl, hk'⟩ | ⟨ks, rfl, hk'⟩
  · exact sk_eq hk' ha hb hx hy 9999 w'
  · obtain ⟨as, rfl⟩ : ∃ as, a = .agg as := by cases a <;> simp [KT.conf] at ha ⊢
    obtain ⟨bs, rfl⟩ : ∃ bs, b = .agg bs := by cases b <;> simp [KT.conf] at hb ⊢
    have := ks_eq hk' ha hb hx hy 9998 w'
    rw [show decide (V.agg as = V.agg bs) = decide (as = bs) from by simp]
    exact this
/-- Where a key stands. -/
def mfind : List (V × V) → V → Nat → Option (Nat × V)
  | [], _, _ => none
  | (k, v) :: r, x, i => if x = k then some (i, v) else mfind r x (i + 1)
theorem mfind_get : ∀ (es : List (V × V)) (x : V) (i : Nat), (mfind es x i).map (·.2) = mget es x
  | [], _, _ => rfl
  | (k, v) :: r, x, i => by
    simp only [mfind, mget, eq_comm (a := x)]
    split
    · rfl
    · exact mfind_get r x (i + 1)
theorem findNow_sound {t : TypeId} {k : SK} (hk : skOf P t = some k) {d : TypeDesc} (hd : P.underlying t = some d) {a : V} (ha : k.conf a = true) {x : Value} (hx : VRel μ S w a x) :
    ∀ {es : List (V × V)} {ents : List MapEntry}, VRels μ S w (es.map (·.1)) (ents.map (·.key)) → VRels μ S w (es.map (·.2)) (ents.map (·.val)) → (∀ e ∈ es, k.conf e.1 = true) → ∀ i,
      ∃ r, Instr.findNow d x ents i = some r ∧ (match mfind es a i with
        | some (j, v) => ∃ cv, r = some (j, cv) ∧ VRel μ S w v cv
        | none => r = none)
  | [], [], _, _, _, i => ⟨none, rfl, rfl⟩
  | [], e :: _, h, _, _, _ => by cases h
  | e :: _, [], h, _, _, _ => by cases h
  | (b, v) :: es, e :: ents, h1, h2, h3, i => by
    cases h1 with
    | cons r1 h1 =>
      cases h2 with
      | cons r2 h2 =>
        have hb : k.conf b = true := h3 (b, v) List.mem_cons_self
        have key : Instr.sameNow d x e.key = some (decide (a = b)) := by
          unfold skOf at hk
          rw [hd] at hk
          split at hk <;> first
            | (cases hk; done)
            | skip
          all_goals
            rename_i hu
            injection hu with hu; subst hu
            injection hk with hk; subst hk
            cases a <;> simp only [SK.conf, Bool.false_eq_true] at ha
            cases b <;> simp only [SK.conf, Bool.false_eq_true] at hb
          · simp only [beq_iff_eq] at ha hb
            subst ha; subst hb
            have e1 := hx.int_inv
            have e2 := r1.int_inv
            simp only at e2
            rw [e1, e2]
            simp [Instr.sameNow, beq_dec]
          · have e1 := hx.bool_inv
            have e2 := r1.bool_inv
            simp only at e2
            rw [e1, e2]
            simp [Instr.sameNow, beq_dec]
          · obtain ⟨p, e1, rfl⟩ := hx.str_inv
            obtain ⟨q, e2, rfl⟩ := r1.str_inv
            simp only at e2
            rw [e1, e2]
            simp only [Instr.sameNow, beq_toListBytes, ByteArray.toList_eq, beq_dec]
            simp
        simp only [Instr.findNow, key, mfind]
        by_cases hab : a = b
        · simp only [hab, decide_true, if_true]
          exact ⟨_, rfl, _, rfl, r2⟩
        · simp only [hab, decide_false, if_false]
          exact findNow_sound hk hd ha hx h1 h2 (fun e he => h3 e (List.mem_cons_of_mem _ he)) (i + 1)
theorem findAsking_sound {t : TypeId} {kt : KT} (hk : ktOf P t = some kt) {a : V} (ha : kt.conf a = true) {x : Value} (hx : VRel μ S w a x) (w' : World) :
    ∀ {es : List (V × V)} {ents : List MapEntry}, VRels μ S w (es.map (·.1)) (ents.map (·.key)) → VRels μ S w (es.map (·.2)) (ents.map (·.val)) → (∀ e ∈ es, kt.conf e.1 = true) → ∀ i,
      ∃ r, (Instr.findAsking t x ents i).run P w' = .ok r w' ∧ (match mfind es a i with
        | some (j, v) => ∃ cv, r = some (j, cv) ∧ VRel μ S w v cv
        | none => r = none)
  | [], [], _, _, _, i => ⟨none, by simp [Instr.findAsking], rfl⟩
  | [], e :: _, h, _, _, _ => by cases h
  | e :: _, [], h, _, _, _ => by cases h
  | (b, v) :: es, e :: ents, h1, h2, h3, i => by
    cases h1 with
    | cons r1 h1 =>
      cases h2 with
      | cons r2 h2 =>
        have hb : kt.conf b = true := h3 (b, v) List.mem_cons_self
        simp only [Instr.findAsking, Sem.run_bind, eq_kt hk ha hb hx r1 w', Result.andThen_ok, mfind]
        by_cases hab : a = b
        · simp only [hab, decide_true, if_true, Sem.run_pure]
          exact ⟨_, rfl, _, rfl, r2⟩
        · simp only [hab, decide_false, Bool.false_eq_true, if_false]
          exact findAsking_sound hk ha hx w' h1 h2 (fun e he => h3 e (List.mem_cons_of_mem _ he)) (i + 1)
theorem findKey_sound {t : TypeId} {kt : KT} (hk : ktOf P t = some kt) {a : V} (ha : kt.conf a = true) {x : Value} (hx : VRel μ S w a x) (w' : World)
    {es : List (V × V)} {ents : List MapEntry} (h1 : VRels μ S w (es.map (·.1)) (ents.map (·.key))) (h2 : VRels μ S w (es.map (·.2)) (ents.map (·.val))) (h3 : ∀ e ∈ es, kt.conf e.1 = true) :
      ∃ r, (Instr.findKey t x ents).run P w' = .ok r w' ∧ (match mfind es a 0 with
        | some (j, v) => ∃ cv, r = some (j, cv) ∧ VRel μ S w v cv
        | none => r = none) := by
  rcases ktOf_cases hk with ⟨k, rfl, hk'⟩ | ⟨ks, rfl, hk'⟩
  · have hd : ∃ d, P.underlying t = some d := by
      unfold skOf at hk'
      split at hk' <;> first | exact ⟨_, by assumption⟩ | cases hk'
    obtain ⟨d, hd⟩ := hd
    obtain ⟨r, hr, hm⟩ := findNow_sound hk' hd ha hx h1 h2 h3 0
    refine ⟨r, ?_, hm⟩
    simp only [Instr.findKey, Sem.run_bind, run_und hd, Result.andThen_ok, hr, Sem.run_pure]
  · have hw : (match P.underlying t with | some (.array _ _) | some (.struct _) => true | _ => false) = true := by
      unfold ksOf at hk'
      split at hk' <;> first | (rename_i hu; rw [hu]) | cases hk'
    obtain ⟨r, hr, hm⟩ := findAsking_sound hk ha hx w' h1 h2 h3 0
    exact ⟨r, by rw [run_findKey_eq w' hw]; exact hr, hm⟩
theorem map_inv {kt : KT} {es : List (V × V)} {b o : Nat} (h : ORel μ S w (.map kt es) b o) : o = 0 ∧ ∃ (clock : Nat) (ents : Array MapEntry), w.heap[b]? = some (.map ents clock) ∧
    VRels μ S w (es.map (·.1)) (ents.toList.map (·.key)) ∧ VRels μ S w (es.map (·.2)) (ents.toList.map (·.val)) ∧ (∀ e ∈ es, e.2.flat1 = true) ∧ (∀ e ∈ es, kt.conf e.1 = true) := by
  cases h; exact ⟨rfl, _, _, by assumption, by assumption, by assumption, by assumption, by assumption⟩
def lkR (f : Option (Nat × Value)) (cz : Value) : Value × Bool :=
  match f with
  | some (_, v) => (v, true)
  | none => (cz, false)
theorem look_sound {H : Heap} (I : Inv μ S H w) {t kt et : TypeId} {k : KT} {z : V} (hu : P.underlying t = some (.map kt et)) (hk : ktOf P kt = some k) (hz : zeroOf P et = some z) {ρ : Opd → V} {om ok : Opd} {x y : Value} (hx : VRel μ S w (ρ om) x)
    (hy : VRel μ S w (ρ ok) y) {b : Bool} {r : V} (h : stepR ρ H (.look k z b om ok) = some r) : ∃ cv, (Instr.lookup t x y b).run P w = .ok cv w ∧ VRel μ S w r cv := by
  obtain ⟨cz, hzr, habs, -⟩ := zeroOf_run hz w
  have rz : VRel μ S w z cz := absv_rel habs
  have t2 : ∀ {v : V} {c : Value} (f : Bool), VRel μ S w v c → VRel μ S w (if b then .tup [v, .bool f] else v) (if b then .tuple #[c, .bool f] else c) := by
    intro v c f hv
    cases b
    · exact hv
    · exact VRels.tup (.cons hv (.cons (.bool f) .nil))
  simp only [stepR] at h
  split at h
  · rename_i hcf
    have hck : ∀ em, (Instr.checkKey em 10000 kt y).run P w = .ok () w := fun em => chk_kt hk hcf hy em 9998 w
    split at h
    · rename_i id e1
      rw [e1] at hx
      split at h
      · rename_i kt' es e2
        split at h
        · rename_i hkk
          subst hkk
          cases hx with
          | map _ b' hm =>
            obtain ⟨-, clock, ents, g1, g2, g3, g4, g5⟩ := map_inv (I.obj id _ b' 0 e2 rfl hm)
            obtain ⟨f, hf, hfm⟩ := findKey_sound hk hcf hy w g2 g3 g5
            have hget := mfind_get es (ρ ok) 0
            have run : ∀ (vv : Value × Bool), lkR f cz = vv → (Instr.lookup t (.map (some b')) y b).run P w = .ok (if b then .tuple #[vv.1, .bool vv.2] else vv.1) w := by
              intro vv hvv
              simp only [Instr.lookup, Sem.run_bind, run_und hu, Result.andThen_ok]
              have hgo : (getObj b').run P w = .ok (.map ents clock) w := by simp [getObj, Sem.run, g1]
              simp only [hgo, Result.andThen_ok, Sem.run_bind, Sem.run_pure]
              rw [hck, Result.andThen_ok, hf, Result.andThen_ok]
              cases f with
              | none => subst hvv; simp only [lkR, Sem.run_bind, hzr, Result.andThen_ok, Sem.run_pure]
              | some jv => subst hvv; simp only [lkR, Sem.run_bind, Result.andThen_ok, Sem.run_pure]
            split at hfm
            · rename_i j v hmf
              obtain ⟨cv, rfl, rv⟩ := hfm
              rw [hmf] at hget
              simp only [Option.map_some] at hget
              rw [← hget] at h
              simp only [Option.some.injEq] at h
              subst h
              exact ⟨_, run (cv, true) rfl, t2 true rv⟩
            · rename_i hmf
              subst hfm
              rw [hmf] at hget
              simp only [Option.map_none] at hget
              rw [← hget] at h
              simp only [Option.some.injEq] at h
              subst h
              exact ⟨_, run (cz, false) rfl, t2 false rz⟩
        · cases h
      · cases h
    · rename_i e1
      rw [e1] at hx
      injection h with h; subst h
      cases hx
      refine ⟨_, ?_, t2 false rz⟩
      simp only [Instr.lookup, Sem.run_bind, run_und hu, Result.andThen_ok, Sem.run_pure]
      rw [hck, Result.andThen_ok]
      have : (Instr.findKey kt y (#[] : Array MapEntry).toList).run P w = .ok none w := by
        obtain ⟨r, hr, hm⟩ := findKey_sound (P := P) (es := []) (ents := []) hk hcf hy w .nil .nil (by simp)
        simp only [mfind] at hm
        subst hm
        exact hr
      simp only [this, Result.andThen_ok, Sem.run_bind, hzr, Sem.run_pure]
    · cases h
  · cases h
theorem bytesOf_eq : ∀ {vs : List V} {l : List UInt8}, bytesOf vs = some l → vs = l.map fun c => .int .u8 (c.toNat : Nat)
  | [], l, h => by injection h with h; subst h; rfl
  | v :: r, l, h => by
    unfold bytesOf at h
    split at h
    · rename_i hh; cases hh
    · rename_i n r' hh
      injection hh with h1 h2; subst h1; subst h2
      split at h
      · rename_i hn
        obtain ⟨l', h3, rfl⟩ := Option.map_eq_some_iff.1 h
        rw [bytesOf_eq h3, List.map_cons]
        congr 2
        rw [UInt8.toNat_ofNat']; omega
      · cases h
    · cases h
theorem flat_ints (l : List UInt8) : (l.map fun c => V.int .u8 (c.toNat : Nat)).flatMap V.cells = l.map fun c => V.int .u8 (c.toNat : Nat) := by
  induction l with
  | nil => rfl
  | cons c r ih => simp only [List.map_cons, List.flatMap_cons, ih]; rfl
theorem u8_rel {μ : Mu} {S : Nat → Prop} {w : World} {n : Int} {x : Value} (h : VRel μ S w (.int .u8 n) x) : x = .int .u8 n := by cases h; rfl
theorem b2s_sound {H : Heap} (I : Inv μ S H w) {src dst e : TypeId} (hs : P.underlying src = some (.slice e)) (he : P.underlying e = some (.int .u8)) (hd : P.underlying dst = some .string) {v : V} {x : Value} (hx : VRel μ S w v x) {vs : List V} {l : List UInt8} (h : elems H v = some vs) (hl : bytesOf vs = some l) : (convert src dst x).run P w = .ok (.string ⟨l.toArray⟩) w := by
  have hv := bytesOf_eq hl
  have back : ∀ (b o cap : Nat), (∀ (j : Nat) (u : V), vs[j]? = some u → ∃ y, w.cell? ⟨b, o + j, none⟩ = some y ∧ VRel μ S w u y) → (convert src dst (.slice (some ⟨b, o, none⟩) vs.length cap)).run P w = .ok (.string ⟨l.toArray⟩) w := by
    intro b o cap hc
    have hlen : vs.length = l.length := by rw [hv, List.length_map]
    rw [hlen]
    refine run_convert_bytes_back w src dst e ⟨b, o, none⟩ cap l hs he hd fun j hj => ?_
    obtain ⟨y, h1, h2⟩ := hc j (.int .u8 (l[j].toNat : Nat)) (by rw [hv, List.getElem?_map, List.getElem?_eq_getElem hj]; rfl)
    rw [u8_rel h2] at h1
    have hadd : (⟨b, o, none⟩ : Addr).add j = ⟨b, o + j, none⟩ := by
      simp only [Addr.add]
      split
      · rename_i h0; simp_all
      · rfl
    rw [hadd]; exact h1
  have zero : ∀ (a : Option Addr) (cap : Nat), vs = [] → (convert src dst (.slice a 0 cap)).run P w = .ok (.string ⟨l.toArray⟩) w := by
    intro a cap h0
    have hl0 : l = [] := by rw [h0] at hv; cases l with
      | nil => rfl
      | cons => cases hv
    subst hl0
    cases a with
    | none =>
      rw [run_convert_bytes_string w src dst e none 0 cap hs he hd]
      simp [Conv.bytesToString]
      rfl
    | some a => exact run_convert_bytes_back w src dst e a cap [] hs he hd fun j hj => by simp at hj
  unfold elems at h
  split at h
  · rename_i xs
    injection h with h; subst h
    cases hx with
    | lst0 a n => exact zero a n rfl
    | lst _ s' b o cap c e' fz f g1 g2 g3 g4 g5 g6 =>
      refine back b o cap fun j u hu => ?_
      have hu' : (xs.flatMap V.cells)[j]? = some u := by rw [hv, flat_ints, ← hv]; exact hu
      exact ⟨f j, by rw [cell_of g2]; exact (g5 j u hu').2, g6 j u hu'⟩
  · injection h with h; subst h
    cases hx
    exact zero none 0 rfl
  · rename_i id s' off len
    simp only [Option.bind_eq_bind, Option.bind_eq_some_iff] at h
    obtain ⟨⟨fl, xs⟩, hr, h⟩ := h
    dsimp only at h
    split at h
    · rename_i hle
      injection h with h
      have hyl : vs.length = len := by rw [← h, List.length_take, List.length_drop]; omega
      cases hx with
      | ref0 _ _ _ a => exact zero a 0 (List.length_eq_zero_iff.1 hyl)
      | ref _ _ _ _ cap b o c e' fz k1 k2 k3 k4 =>
        by_cases h0 : len = 0
        · subst h0; exact zero _ cap (List.length_eq_zero_iff.1 hyl)
        · have hO := I.obj id _ b o (rowAt_inv hr) rfl k1
          cases hO with
          | row _ _ _ _ _ c' e'' f g1 g2 g3 g4 g5 =>
            have hss : s' = 1 := by
              have hne : vs ≠ [] := fun h' => by rw [h'] at hyl; simp at hyl; omega
              obtain ⟨y, hy⟩ := List.exists_mem_of_ne_nil _ hne
              have h1 := hy
              rw [← h] at h1
              have h2 := okEl_len (g2 y (List.mem_of_mem_drop (List.mem_of_mem_take h1)))
              rw [hv] at hy
              obtain ⟨c, -, rfl⟩ := List.mem_map.1 hy
              exact h2.symm
            subst hss
            have := back b (o + off * 1) cap fun j u hu => by
              have hu' : ((vs.flatMap V.cells))[j]? = some u := by rw [hv, flat_ints, ← hv]; exact hu
              have h1 : ((xs.drop off).flatMap V.cells)[j]? = some u := by
                rw [← h] at hu'
                rw [← List.take_append_drop len (xs.drop off), List.flatMap_append]
                rw [List.getElem?_append_left (List.getElem?_eq_some_iff.1 hu').1]
                exact hu'
              rw [flatMap_drop xs off (fun y hy => okEl_len (g2 y hy)), List.getElem?_drop] at h1
              exact ⟨f (off * 1 + j), by rw [cell_of g1, Nat.add_assoc]; exact g3 _ u h1, g4 _ u h1⟩
            rw [hyl] at this
            exact this
    · cases h
  · cases h
theorem R_sound {H : Heap} (I : Inv μ S H w) {o : Oper} {ro : ROp} (hc : compOp P o = some (.r ro)) {ρ : Opd → V} {cρ : Operand → Value} (hρ : RelO μ S w ρ cρ o.op.operands.toList)
    {v : V} (h : stepR ρ H ro = some v) : ∃ cv, (execOp cρ o).run P w = .ok (.value cv) w ∧ VRel μ S w v cv := by
  have val : ∀ {s : Sem Value} {cv : Value}, s.run P w = .ok cv w → (do pure (.value (← s)) : Sem Next).run P w = .ok (.value cv) w := by
    intro s cv hs
    simp only [Sem.run_bind, hs, Result.andThen_ok, Sem.run_pure]
  have one : ∀ {x : Operand} {y : Opd}, compX x = some y → x ∈ o.op.operands.toList → VRel μ S w (ρ y) (cρ x) := fun hx hm => hρ _ hm _ hx
  unfold compOp at hc
  split at hc
  case h_8 t a hop =>
    simp only [Option.bind_eq_some_iff, Option.map_eq_some_iff, AOp.r.injEq] at hc
    obtain ⟨sh, hs, y, hy, rfl⟩ := hc
    obtain ⟨cv, hr, rr⟩ := load_sound I hs (one hy (by simp [hop, Op.operands])) (r := v) h
    exact ⟨cv, by simp only [execOp, hop]; exact val hr, rr⟩
  case h_13 src dst x hop =>
    split at hc
    · simp at hc
    · split at hc <;> simp at hc
    · rename_i e h1 h2
      split at hc
      · rename_i h3
        simp only [Option.map_eq_some_iff, AOp.r.injEq] at hc
        obtain ⟨y, hy, rfl⟩ := hc
        simp only [stepR, Option.bind_eq_some_iff] at h
        obtain ⟨vs, h4, h5⟩ := h
        obtain ⟨l, h6, rfl⟩ := Option.map_eq_some_iff.1 h5
        exact ⟨_, by simp only [execOp, hop]; exact val (b2s_sound I h1 h3 h2 (one hy (by simp [hop, Op.operands])) h4 h6), .mkStr l⟩
      · cases hc
    · cases hc
  case h_23 t m k ok hop =>
    split at hc
    · rename_i kt et hu
      simp only [Option.bind_eq_some_iff, Option.map_eq_some_iff, AOp.r.injEq] at hc
      obtain ⟨kk, hk, z, hz, m', hm, k', hk', rfl⟩ := hc
      obtain ⟨cv, hr, rr⟩ := look_sound I hu hk hz (one hm (by simp [hop, Op.operands])) (one hk' (by simp [hop, Op.operands])) h
      exact ⟨cv, by simp only [execOp, hop]; exact val hr, rr⟩
    · cases hc
  case h_26 c hop =>
    unfold compCall at hc
    split at hc
    · split at hc <;> simp at hc
    · simp [Option.bind_eq_some_iff] at hc
    · cases hc
    · rename_i b hb
      split at hc
      · rename_i x t e1 e2
        simp only [Option.bind_eq_some_iff] at hc
        obtain ⟨y, hy, hc⟩ := hc
        have ea : c.args = #[x] := Array.toList_inj.1 e1
        have et : c.argTypes = #[t] := Array.toList_inj.1 e2
        have rx := one hy (by simp [hop, Op.operands, Call.operands, hb, ea])
        split at hc
        · simp at hc
        · simp at hc
        · rename_i kt et' hu
          simp only [Option.some.injEq, AOp.r.injEq] at hc
          subst hc
          have bi : ∀ {cv : Value}, (Builtin.len_ #[t] o.type #[cρ x]).run P w = .ok cv w → (execOp cρ o).run P w = .ok (.value cv) w := by
            intro cv hr
            simp only [execOp, hop, resolve, hb, Sem.run_bind, Sem.run_pure, Result.andThen_ok, invoke, builtin, ea, et]
            have : (#[x] : Array Operand).map cρ = #[cρ x] := by simp
            rw [this, hr]
            rfl
          simp only [stepR] at h
          split at h
          · rename_i id e3
            rw [e3] at rx
            split at h
            · rename_i kt' es e4
              injection h with h; subst h
              generalize cρ x = cx at rx bi
              cases rx with
              | map _ b' hm =>
                obtain ⟨-, clock, ents, g1, g2, g3, g4, g5⟩ := map_inv (I.obj id _ b' 0 e4 rfl hm)
                have hgo : (getObj b').run P w = .ok (.map ents clock) w := by simp [getObj, Sem.run, g1]
                have hl : es.length = ents.size := by have := g2.length; simpa using this
                rw [hl]
                refine ⟨_, bi ?_, .int _ _⟩
                simp [Builtin.len_, run_und hu, hgo, goInt]
            · cases h
          · rename_i e3
            rw [e3] at rx
            injection h with h; subst h
            generalize cρ x = cx at rx bi
            cases rx
            refine ⟨_, bi ?_, .int _ _⟩
            simp [Builtin.len_, run_und hu, goInt]
          · cases h
        · cases hc
      all_goals (simp [Option.bind_eq_some_iff] at hc)
  all_goals first
    | (simp [Option.bind_eq_some_iff, Option.map_eq_some_iff] at hc; done)
    | (split at hc <;> first
       | (simp [Option.bind_eq_some_iff, Option.map_eq_some_iff] at hc; done)
       | (split at hc <;> simp [Option.bind_eq_some_iff, Option.map_eq_some_iff] at hc; done))
    | skip
end
end Go.AM

/- Heaps that turn: a new object, an object that is written. -/
set_option linter.unusedVariables false
set_option linter.unusedSimpArgs false
namespace Go.AM
open Go.RowKit
section
variable {P : Program} {μ : Mu} {S : Nat → Prop} {H : Heap} {w : World}

def Mu.lay (μ : Mu) (id b : Nat) : Mu := fun i => if i = id then some (b, 0) else μ i
theorem Mu.lay_self (μ : Mu) (id b : Nat) : μ.lay id b id = some (b, 0) := by simp [Mu.lay]
theorem Mu.lay_of {μ : Mu} {id b : Nat} (h : μ id = none) {i : Nat} {p : Nat × Nat} (hp : μ i = some p) : μ.lay id b i = some p := by
  unfold Mu.lay
  split
  · subst_vars; rw [h] at hp; cases hp
  · exact hp
theorem Mu.lay_inv {μ : Mu} {id b i : Nat} {p : Nat × Nat} (h : μ.lay id b i = some p) : (i = id ∧ p = (b, 0)) ∨ (i ≠ id ∧ μ i = some p) := by
  unfold Mu.lay at h
  split at h
  · injection h with h; exact .inl ⟨by assumption, h.symm⟩
  · exact .inr ⟨by assumption, h⟩
theorem heap_alloc_lt (o : Obj) {k : Nat} (h : k < w.heap.size) : (w.alloc o).heap[k]? = w.heap[k]? := Below.heap_alloc w o k h
theorem heap_lt {k : Nat} {x : Obj} (h : w.heap[k]? = some x) : k < w.heap.size := (Array.getElem?_eq_some_iff.1 h).1
theorem heap_alloc_new (o : Obj) : (w.alloc o).heap[w.heap.size]? = some o := by
  show (w.heap.push o)[w.heap.size]? = some o
  simp
theorem VRel.lay (hS : ∀ b, S b → b < w.heap.size) {id : Nat} (hid : μ id = none) (o : Obj) {v : V} {x : Value} (h : VRel μ S w v x) : VRel (μ.lay id w.heap.size) S (w.alloc o) v x :=
  h.mono (fun _ _ hp => Mu.lay_of hid hp) (fun _ h => h) (fun b hb => heap_alloc_lt o (hS b hb)) (fun b c _ _ h => ⟨c, _, (heap_alloc_lt o (heap_lt h)).trans h, rfl⟩)
theorem Inv.grow (I : Inv μ S H w) (L : Heap) : Inv μ S (H ++ L) w where
  dom := fun id b o h => ⟨by have := (I.dom id b o h).1; simp; omega, (I.dom id b o h).2⟩
  sdom := I.sdom
  obj := fun id x b o hx hl hm => by
    rw [List.getElem?_append_left (I.dom id b o hm).1] at hx
    exact I.obj id x b o hx hl hm
  inj := fun i j x y b o o' h1 h2 l1 l2 m1 m2 => by
    rw [List.getElem?_append_left (I.dom i b o m1).1] at h1
    rw [List.getElem?_append_left (I.dom j b o' m2).1] at h2
    exact I.inj i j x y b o o' h1 h2 l1 l2 m1 m2
  sep := fun id x b o hx hl hm => by
    rw [List.getElem?_append_left (I.dom id b o hm).1] at hx
    exact I.sep id x b o hx hl hm
  laid := I.laid
theorem Inv.lay (I : Inv μ S H w) {id : Nat} {x : O} (hx : H[id]? = some x) (hid : μ id = none) (o : Obj) (hr : ORel (μ.lay id w.heap.size) S (w.alloc o) x w.heap.size 0) : Inv (μ.lay id w.heap.size) S H (w.alloc o) where
  dom := fun i b o' h => by
    rcases Mu.lay_inv h with ⟨rfl, e⟩ | ⟨-, h⟩
    · injection e with e1 e2
      subst e1
      exact ⟨(List.getElem?_eq_some_iff.1 hx).1, by simp⟩
    · have := I.dom i b o' h
      exact ⟨this.1, by simp; omega⟩
  sdom := fun b hb => by have := I.sdom b hb; simp; omega
  obj := fun i y b o' hy hl hm => by
    rcases Mu.lay_inv hm with ⟨rfl, e⟩ | ⟨-, hm⟩
    · injection e with e1 e2
      subst e1; subst e2
      rw [hx] at hy
      injection hy with hy; subst hy
      exact hr
    · exact (I.obj i y b o' hy hl hm).imp (fun v x h => h.lay I.sdom hid o) (heap_alloc_lt o (I.dom i b o' hm).2)
  inj := fun i j y z b o1 o2 h1 h2 l1 l2 m1 m2 => by
    rcases Mu.lay_inv m1 with ⟨rfl, e⟩ | ⟨n1, k1⟩ <;> rcases Mu.lay_inv m2 with ⟨rfl, e'⟩ | ⟨n2, k2⟩
    · rfl
    · injection e with e1 e2
      have := (I.dom j b o2 k2).2
      omega
    · injection e' with e1 e2
      have := (I.dom i b o1 k1).2
      omega
    · exact I.inj i j y z b o1 o2 h1 h2 l1 l2 k1 k2
  sep := fun i y b o' hy hl hm => by
    rcases Mu.lay_inv hm with ⟨rfl, e⟩ | ⟨-, hm⟩
    · injection e with e1 e2
      intro hb
      have := I.sdom b hb
      omega
    · exact I.sep i y b o' hy hl hm
  laid := I.laid.imp (fun _ h => h) fun b hb => heap_alloc_lt o (I.sdom b hb)
/-- A new object, in turn. -/
theorem Inv.push (I : Inv μ S H w) (x : O) (o : Obj) (hr : ORel (μ.lay H.length w.heap.size) S (w.alloc o) x w.heap.size 0) :
    Inv (μ.lay H.length w.heap.size) S (H ++ [x]) (w.alloc o) ∧ Ext μ S H w (μ.lay H.length w.heap.size) S (H ++ [x]) (w.alloc o) := by
  have hid : μ H.length = none := by
    cases h : μ H.length with
    | none => rfl
    | some p => have := (I.dom _ p.1 p.2 h).1; omega
  refine ⟨(I.grow [x]).lay (by simp) hid o hr, fun _ _ hp => Mu.lay_of hid hp, fun _ h => h, fun _ h => .inl h, by simp, rfl, rfl, rfl, by simp, fun b hb _ => heap_alloc_lt o hb,
    fun b c _ _ h => ⟨c, _, (heap_alloc_lt o (heap_lt h)).trans h, rfl⟩, fun b hb ⟨i, y, o', hy, hl, hm⟩ => ?_, fun i p h h' => ?_⟩
  · rcases Mu.lay_inv hm with ⟨rfl, e⟩ | ⟨-, hm⟩
    · injection e with e1 e2
      omega
    · rw [List.getElem?_append_left (I.dom i b o' hm).1] at hy
      exact ⟨i, y, o', hy, hl, hm⟩
  · rcases Mu.lay_inv h' with ⟨rfl, -⟩ | ⟨-, h'⟩
    · exact Nat.le_refl _
    · rw [h] at h'; cases h'
/-- An object is written: its block alone turns. -/
theorem Inv.put (I : Inv μ S H w) {id : Nat} {x x' : O} {b o : Nat} (hx : H[id]? = some x) (lx : live x = true) (_ : live x' = true) (hm : μ id = some (b, o)) {w' : World} (hsz : w'.heap.size = w.heap.size)
    (hos : w'.os = w.os) (htp : w'.tape = w.tape) (hou : w'.output = w.output) (hk : ∀ k, k ≠ b → w'.heap[k]? = w.heap[k]?)
    (hsh : ∀ (c : Array Value) (e : TypeId) (fz : Nat × Nat), w.heap[b]? = some (.cells c e fz) → ∃ (c' : Array Value) (fz' : Nat × Nat), w'.heap[b]? = some (.cells c' e fz') ∧ c'.size = c.size)
    (hr : (∀ v y, VRel μ S w v y → VRel μ S w' v y) → ORel μ S w' x' b o) : Inv μ S (H.set id x') w' ∧ Ext μ S H w μ S (H.set id x') w' := by
  have nS : ¬ S b := I.sep id x b o hx lx hm
  have mono : ∀ v y, VRel μ S w v y → VRel μ S w' v y := fun v y h => h.mono (fun _ _ h => h) (fun _ h => h) (fun k hk' => hk k fun e => nS (e ▸ hk')) fun k c e fz h => by
    by_cases hkb : k = b
    · subst hkb; exact hsh c e fz h
    · exact ⟨c, _, (hk k hkb).trans h, rfl⟩
  have hlt : id < H.length := (List.getElem?_eq_some_iff.1 hx).1
  have getne : ∀ i y, (H.set id x')[i]? = some y → i ≠ id → H[i]? = some y := fun i y h hne => by rwa [List.getElem?_set_ne (Ne.symm hne)] at h
  have geteq : ∀ y, (H.set id x')[id]? = some y → y = x' := fun y h => by rw [List.getElem?_set_self hlt] at h; injection h with h; exact h.symm
  have oldlive : ∀ i y, (H.set id x')[i]? = some y → live y = true → ∃ z, H[i]? = some z ∧ live z = true := fun i y h hl => by
    by_cases e : i = id
    · subst e; exact ⟨x, hx, lx⟩
    · exact ⟨y, getne i y h e, hl⟩
  refine ⟨⟨fun i k o' h => by have := I.dom i k o' h; simpa [hsz] using this, fun k hk' => by rw [hsz]; exact I.sdom k hk', fun i y k o' hy hl hmi => ?_, fun i j y z k o1 o2 h1 h2 l1 l2 m1 m2 => ?_, fun i y k o' hy hl hmi => ?_, I.laid.imp (fun _ h => h) fun k hk' => hk k fun e => nS (e ▸ hk')⟩,
    fun _ _ h => h, fun _ h => h, fun _ h => .inl h, by simp, hos, htp, hou, by omega, fun k _ hn => hk k fun e => hn ⟨id, x, o, hx, lx, e ▸ hm⟩, fun k c e fz h => ?_, fun k _ ⟨i, y, o', hy, hl, hmi⟩ => ?_, fun i p h h' => by rw [h] at h'; cases h'⟩
  · by_cases e : i = id
    · subst e
      rw [geteq y hy]
      rw [hm] at hmi
      injection hmi with hmi; injection hmi with e1 e2
      subst e1; subst e2
      exact hr mono
    · have hy' := getne i y hy e
      have hne : k ≠ b := fun hkb => e (I.inj i id y x b o' o hy' hx hl lx (hkb ▸ hmi) hm)
      exact (I.obj i y k o' hy' hl hmi).imp mono (hk k hne)
  · obtain ⟨y', hy', ly'⟩ := oldlive i y h1 l1
    obtain ⟨z', hz', lz'⟩ := oldlive j z h2 l2
    exact I.inj i j y' z' k o1 o2 hy' hz' ly' lz' m1 m2
  · obtain ⟨y', hy', ly'⟩ := oldlive i y hy hl
    exact I.sep i y' k o' hy' ly' hmi
  · by_cases hkb : k = b
    · subst hkb; exact hsh c e fz h
    · exact ⟨c, _, (hk k hkb).trans h, rfl⟩
  · obtain ⟨y', hy', ly'⟩ := oldlive i y hy hl
    exact ⟨i, y', o', hy', ly', hmi⟩

theorem row_mk {s : Nat} {fl : Bool} {xs : List V} {b o : Nat} {c : Array Value} {e : TypeId} (h1 : w.heap[b]? = some (.cells c e (0, 0))) (h2 : ∀ x ∈ xs, okEl s fl x = true)
    (h3 : ∀ (j : Nat) (v : V), (xs.flatMap V.cells)[j]? = some v → ∃ x, c[o + j]? = some x ∧ VRel μ S w v x) (h4 : o + xs.length * s ≤ c.size) : ORel μ S w (.row s fl xs) b o :=
  .row s fl xs b o c e (fun j => c.getD (o + j) undef) h1 h2 (fun j v hj => by
    obtain ⟨x, hx, -⟩ := h3 j v hj
    simp [hx]) (fun j v hj => by
    obtain ⟨x, hx, hr⟩ := h3 j v hj
    simpa [hx] using hr) h4
theorem row_get {s : Nat} {fl : Bool} {xs : List V} {b o : Nat} (h : ORel μ S w (.row s fl xs) b o) : ∃ (c : Array Value) (e : TypeId), w.heap[b]? = some (.cells c e (0, 0)) ∧ (∀ x ∈ xs, okEl s fl x = true) ∧
    (∀ (j : Nat) (v : V), (xs.flatMap V.cells)[j]? = some v → ∃ x, c[o + j]? = some x ∧ VRel μ S w v x) ∧ o + xs.length * s ≤ c.size := by
  obtain ⟨c, e, f, h1, h2, h3, h4, h5⟩ := row_inv h
  exact ⟨c, e, h1, h2, fun j v hj => ⟨_, h3 j v hj, h4 j v hj⟩, h5⟩
theorem flatMap_inv : ∀ (xs : List V) {s j : Nat} {v : V}, (∀ x ∈ xs, x.cells.length = s) → (xs.flatMap V.cells)[j]? = some v → ∃ q r x, j = q * s + r ∧ r < s ∧ xs[q]? = some x ∧ x.cells[r]? = some v
  | [], s, j, v, _, h => by simp at h
  | x :: xs, s, j, v, hl, h => by
    have hx := hl x List.mem_cons_self
    simp only [List.flatMap_cons] at h
    by_cases hj : j < s
    · rw [List.getElem?_append_left (by omega)] at h
      exact ⟨0, j, x, by omega, hj, rfl, h⟩
    · rw [List.getElem?_append_right (by omega)] at h
      obtain ⟨q, r, y, e, hr, hy, hv⟩ := flatMap_inv xs (fun y hy => hl y (List.mem_cons_of_mem _ hy)) h
      refine ⟨q + 1, r, y, ?_, hr, by simpa using hy, hv⟩
      rw [hx] at e
      rw [Nat.add_mul]
      omega
theorem flatMap_len : ∀ (xs : List V) {s : Nat}, (∀ x ∈ xs, x.cells.length = s) → (xs.flatMap V.cells).length = xs.length * s
  | [], s, _ => by simp
  | x :: xs, s, hl => by
    have := flatMap_len xs (s := s) (fun y hy => hl y (List.mem_cons_of_mem _ hy))
    simp only [List.flatMap_cons, List.length_append, this, hl x List.mem_cons_self, List.length_cons, Nat.add_mul]
    omega
end
end Go.AM

/- Operations that make an object. -/
set_option linter.unusedVariables false
set_option linter.unusedSimpArgs false
namespace Go.AM
open Go.RowKit
section
variable {P : Program} {μ : Mu} {S : Nat → Prop} {w : World}

theorem okEl_flat {s : Nat} {fl : Bool} {x : V} (h : okEl s fl x = true) : fl = true → x.cells.all V.flat1 = true := by
  unfold okEl at h
  simp only [Bool.and_eq_true, Bool.or_eq_true, Bool.not_eq_true'] at h
  intro hf
  rcases h.2.2 with h' | h'
  · rw [hf] at h'; cases h'
  · exact h'
/-- An object of cells, laid whole. -/
theorem row_new {id s n : Nat} {fl : Bool} {xs : List V} {c : Array Value} {e : TypeId} (hS : ∀ b, S b → b < w.heap.size) (hid : μ id = none) (hx : ∀ x ∈ xs, okEl s fl x = true)
    (hr : VRels μ S w (xs.flatMap V.cells) (c.toList.take n)) (hn : xs.length * s ≤ c.size) : ORel (μ.lay id w.heap.size) S (w.alloc (.cells c e)) (.row s fl xs) w.heap.size 0 := by
  refine row_mk (heap_alloc_new _) hx (fun j v hj => ?_) (by omega)
  obtain ⟨x, hx, rx⟩ := hr.get? j v hj
  refine ⟨x, ?_, rx.lay hS hid _⟩
  rw [List.getElem?_take] at hx
  split at hx
  · simpa using hx
  · cases hx
theorem ptr_new {id s : Nat} (w' : World) (hb : w'.heap.size = w.heap.size + 1) : VRel (μ.lay id w.heap.size) S w' (.ptr id s 0 0) (.pointer (some ⟨w.heap.size, 0, none⟩)) := by
  have := VRel.ptr (μ := μ.lay id w.heap.size) (S := S) (w := w') id s 0 0 w.heap.size 0 (Mu.lay_self _ _ _)
  simpa using this
theorem cells_sc {v : V} (h : v.sc = true) : v.cells = [v] := by cases v <;> first | rfl | simp [V.sc] at h
theorem zel_cells {z : List V} (h : z.all V.sc = true) : (if z.length = 1 then z.headD .undef else .agg z).cells = z := by
  split
  · rename_i hl
    match z, hl with
    | [a], _ =>
      simp at h
      exact cells_sc h
  · rfl
theorem VRels.det_len {as : List V} {xs : List Value} (hl : as.length = xs.length) (h : ∀ (j : Nat) (v : V), as[j]? = some v → ∃ x, xs[j]? = some x ∧ VRel μ S w v x) : VRels μ S w as xs :=
  VRels.of hl fun j v hj => by
    obtain ⟨x, hx, hr⟩ := h j v hj
    simpa [List.getD, hx] using hr
theorem zeros_rel {s n : Nat} {e : V} {zs : Array Value} (hs : 0 < s) (he : e.cells.length = s) (hz : VRels μ S w e.cells zs.toList) :
    VRels μ S w ((List.replicate n e).flatMap V.cells) ((Array.range (n * s)).map fun i => zs[i % zs.size]!).toList := by
  have hzl : zs.size = s := by have := hz.length; simpa [he] using this.symm
  have hall : ∀ x ∈ List.replicate n e, x.cells.length = s := fun x hx => by rw [(List.mem_replicate.1 hx).2]; exact he
  refine VRels.det_len (by rw [flatMap_len _ hall]; simp) fun j v hj => ?_
  obtain ⟨q, r, x, hjq, hr, hx, hv⟩ := flatMap_inv _ hall hj
  have hxe : x = e := (List.mem_replicate.1 (List.mem_of_getElem? hx)).2
  subst hxe
  obtain ⟨y, hy, ry⟩ := hz.get? r v hv
  refine ⟨y, ?_, ry⟩
  have hq : q < n := by have := (List.getElem?_eq_some_iff.1 hx).1; simpa using this
  have hlt : j < n * s := by
    rw [hjq]
    calc q * s + r < q * s + s := by omega
      _ = (q + 1) * s := by rw [Nat.add_mul]; omega
      _ ≤ n * s := Nat.mul_le_mul_right _ (by omega)
  have hmod : j % zs.size = r := by rw [hzl, hjq, Nat.mul_comm, Nat.mul_add_mod, Nat.mod_eq_of_lt hr]
  have hyz : zs[r]? = some y := by simpa using hy
  simp only [Array.toList_map, List.getElem?_map, Array.toList_range, List.getElem?_range hlt, Option.map_some, hmod]
  rw [getElem!_def, hyz]
theorem flatMap_set : ∀ (xs : List V) {s i : Nat} {v : V}, (∀ x ∈ xs, x.cells.length = s) → v.cells.length = s → i < xs.length → (xs.set i v).flatMap V.cells = setCells (xs.flatMap V.cells) (i * s) v.cells
  | [], _, _, _, _, _, h => by simp at h
  | x :: xs, s, 0, v, hl, hv, _ => by
    have hx := hl x List.mem_cons_self
    simp [setCells, hv, ← hx]
  | x :: xs, s, i + 1, v, hl, hv, h => by
    have hx := hl x List.mem_cons_self
    have ih := flatMap_set xs (s := s) (i := i) (fun y hy => hl y (List.mem_cons_of_mem _ hy)) hv (by simpa using h)
    simp only [List.set_cons_succ, List.flatMap_cons, ih, setCells]
    have e : (i + 1) * s = x.cells.length + i * s := by rw [hx, Nat.add_mul]; omega
    have t1 : x.cells.take (x.cells.length + i * s) = x.cells := List.take_of_length_le (by omega)
    have t2 : x.cells.drop (x.cells.length + (i * s + v.cells.length)) = [] := List.drop_of_length_le (by omega)
    rw [e, List.take_append, Nat.add_assoc x.cells.length, List.drop_append, t1, t2]
    simp
def mksStep (ρ : Opd → V) (s : Nat) (fl : Bool) : List V → Nat × Opd → Option (List V) := fun xs p => if okEl s fl (ρ p.2) ∧ p.1 < xs.length then some (xs.set p.1 (ρ p.2)) else none
theorem mks_sound {ρ : Opd → V} {cρ : Operand → Value} {s : Nat} {fl : Bool} : ∀ {ps : List (Nat × Operand)} {l : List (Nat × Opd)}, compParts1 ps = some l → (∀ x ∈ ps.map (·.2), ∀ y, compX x = some y → VRel μ S w (ρ y) (cρ x)) →
    ∀ {xs ys : List V} {A : Array Value}, (∀ x ∈ xs, x.cells.length = s) → VRels μ S w (xs.flatMap V.cells) A.toList → l.foldlM (mksStep ρ s fl) xs = some ys →
    ∃ A' : Array Value, Instr.fill (fun i => some (i * s, s)) A (ps.map fun p => (p.1, cρ p.2)) = some A' ∧ VRels μ S w (ys.flatMap V.cells) A'.toList ∧ ys.length = xs.length
  | [], l, hl, _, xs, ys, A, _, hA, h => by
    simp [compParts1] at hl; subst hl
    simp at h; subst h
    exact ⟨A, rfl, hA, rfl⟩
  | (i, x) :: ps, l, hl, hρ, xs, ys, A, hxs, hA, h => by
    simp only [compParts1, Option.bind_eq_some_iff, Option.map_eq_some_iff] at hl
    obtain ⟨y, hy, l', hl', rfl⟩ := hl
    simp only [List.foldlM_cons, Option.bind_eq_bind, Option.bind_eq_some_iff, mksStep] at h
    obtain ⟨xs', h1, h2⟩ := h
    split at h1
    · rename_i hc
      injection h1 with h1; subst h1
      have hx := hρ x (by simp) y hy
      have hcx := hx.cells (okEl_sc hc.1)
      have hlen := hcx.length
      rw [okEl_len hc.1] at hlen
      have hAl := hA.length
      rw [flatMap_len _ hxs] at hAl
      have hle : i * s + s ≤ A.size := by
        have : A.size = xs.length * s := by simpa using hAl.symm
        rw [this]
        calc i * s + s = (i + 1) * s := by rw [Nat.add_mul]; omega
          _ ≤ xs.length * s := Nat.mul_le_mul_right _ (by omega)
      have hsz : (cρ x).cells.size = s := by simpa using hlen.symm
      have e : (Array.foldl (fun (cs : Array Value) (p' : Value × Nat) => cs.setIfInBounds (i * s + p'.2) p'.1) A (cρ x).cells.zipIdx).toList = setV A.toList (i * s) (cρ x).cells.toList := by
        rw [← Array.foldl_toList, Array.toList_zipIdx]
        have := fold_set (i * s) (cρ x).cells.toList 0 A (by rw [Nat.add_zero]; simpa [hsz] using hle)
        simpa using this
      have hset : ∀ z ∈ xs.set i (ρ y), z.cells.length = s := fun z hz => by
        rcases List.mem_or_eq_of_mem_set hz with h | h
        · exact hxs z h
        · subst h; exact okEl_len hc.1
      obtain ⟨A', a1, a2, a3⟩ := mks_sound hl' (fun x' hx' => hρ x' (List.mem_cons_of_mem _ hx')) (xs := xs.set i (ρ y))
        (A := Array.foldl (fun (cs : Array Value) (p' : Value × Nat) => cs.setIfInBounds (i * s + p'.2) p'.1) A (cρ x).cells.zipIdx) hset
        (by rw [e, flatMap_set xs hxs (okEl_len hc.1) hc.2]; exact setCells_rel hA hcx _) h2
      refine ⟨A', ?_, a2, by simpa using a3⟩
      simp only [List.map_cons, Instr.fill]
      rw [if_neg]
      · exact a1
      · simp only [hsz, ne_eq, not_true_eq_false, decide_false, Bool.false_or, decide_eq_true_eq]
        omega
    · cases h1
theorem wrap64_id {a : Int} (h0 : 0 ≤ a) (h1 : a ≤ 1099511627776) : IntKind.wrap .i64 a = a := IntWalk.i64_in a (by omega)
theorem L_sound (hS : ∀ b, S b → b < w.heap.size) {o : Oper} {lo : LOp} (hc : compOp P o = some (.l lo)) {ρ : Opd → V} {cρ : Operand → Value} (hρ : RelO μ S w ρ cρ o.op.operands.toList) {id : Nat} (hid : μ id = none)
    {x : O} {v : V} (h : stepL ρ id lo = some (x, v)) : live x = true ∧ ∃ cv obj, (execOp cρ o).run P w = .ok (.value cv) (w.alloc obj) ∧ ORel (μ.lay id w.heap.size) S (w.alloc obj) x w.heap.size 0 ∧ VRel (μ.lay id w.heap.size) S (w.alloc obj) v cv := by
  have val : ∀ {s : Sem Value} {cv : Value} {w' : World}, s.run P w = .ok cv w' → (do pure (.value (← s)) : Sem Next).run P w = .ok (.value cv) w' := by
    intro s cv w' hs
    simp only [Sem.run_bind, hs, Result.andThen_ok, Sem.run_pure]
  have one : ∀ {x : Operand} {y : Opd}, compX x = some y → x ∈ o.op.operands.toList → VRel μ S w (ρ y) (cρ x) := fun hx hm => hρ _ hm _ hx
  have newv : ∀ (t : TypeId) (z : Value) (s : Nat) (fl : Bool) (zv : V), okEl s fl zv = true → VRel μ S w zv z →
      (newVar t z).run P w = .ok ⟨w.heap.size, 0, none⟩ (w.alloc (.cells z.cells t)) ∧ ORel (μ.lay id w.heap.size) S (w.alloc (.cells z.cells t)) (.row s fl [zv]) w.heap.size 0 := by
    intro t z s fl zv hok hz
    have hcz := hz.cells (okEl_sc hok)
    have hl := hcz.length
    rw [okEl_len hok] at hl
    refine ⟨by simp [newVar, newRow, run_newObj_alloc], row_new (n := s) hS hid (by simpa using hok) ?_ (by simpa using Nat.le_of_eq hl)⟩
    simp only [List.flatMap_cons, List.flatMap_nil, List.append_nil]
    rw [List.take_of_length_le (Nat.le_of_eq hl.symm)]
    exact hcz
  have newT : ∀ (t : TypeId) (z : Value), VRel μ S w (.agg [.nilp, .nil]) z →
      (newVar t z).run P w = .ok ⟨w.heap.size, 0, none⟩ (w.alloc (.cells z.cells t)) ∧ ORel (μ.lay id w.heap.size) S (w.alloc (.cells z.cells t)) (.trow t true [.nilp, .nil]) w.heap.size 0 := by
    intro t z hz
    refine ⟨by simp [newVar, newRow, run_newObj_alloc], ?_⟩
    obtain ⟨vs, rfl, h2, -⟩ := hz.agg_inv
    cases h2 with
    | cons a1 h2 =>
      cases h2 with
      | cons a2 h2 =>
        cases h2
        cases a1
        cases a2
        refine .trow t true [.nilp, .nil] w.heap.size #[.pointer none, .slice none 0 0] (fun j => if j = 0 then .pointer none else .slice none 0 0) (heap_alloc_new _) (fun _ => rfl) (Nat.le_refl _) ?_ ?_
        · intro j v hj
          match j, hj with
          | 0, hj => cases hj; exact ⟨rfl, rfl⟩
          | 1, hj => cases hj; exact ⟨rfl, rfl⟩
        · intro j v hj
          match j, hj with
          | 0, hj => cases hj; exact .nilp
          | 1, hj => cases hj; exact .nil
  unfold compOp at hc
  split at hc
  case h_4 t hop =>
    simp only [Option.bind_eq_some_iff, Option.map_eq_some_iff, AOp.l.injEq] at hc
    obtain ⟨s, hs, z, hz, rfl⟩ := hc
    by_cases hzb : z = .agg [.nilp, .nil]
    · rw [if_pos hzb] at h
      simp only [stepL, Option.some.injEq, Prod.mk.injEq] at h
      obtain ⟨rfl, rfl⟩ := h
      obtain ⟨cz, hzr, habs, -⟩ := zeroOf_run hz w
      subst hzb
      obtain ⟨n1, n2⟩ := newT t cz (absv_rel habs)
      refine ⟨rfl, _, _, ?_, n2, ptr_new _ (by simp)⟩
      simp only [execOp, hop]
      refine val ?_
      simp only [Instr.alloc, Sem.run_bind, hzr, Result.andThen_ok, n1, Sem.run_pure]
    rw [if_neg hzb] at h
    simp only [stepL] at h
    split at h
    · rename_i hok
      simp only [Option.some.injEq, Prod.mk.injEq] at h
      obtain ⟨rfl, rfl⟩ := h
      obtain ⟨cz, hzr, habs, -⟩ := zeroOf_run hz w
      obtain ⟨n1, n2⟩ := newv t cz s _ z hok (absv_rel habs)
      refine ⟨rfl, _, _, ?_, n2, ptr_new _ (by simp)⟩
      simp only [execOp, hop]
      refine val ?_
      simp only [Instr.alloc, Sem.run_bind, hzr, Result.andThen_ok, n1, Sem.run_pure]
    · cases h
  case h_5 t a hop =>
    simp only [Option.bind_eq_some_iff, Option.map_eq_some_iff, AOp.l.injEq] at hc
    obtain ⟨s, hs, y, hy, rfl⟩ := hc
    by_cases hzb : zeroOf P t = some (.agg [.nilp, .nil])
    · rw [if_pos hzb] at h
      simp only [stepL] at h
      split at h
      · rename_i hyz
        simp only [Option.some.injEq, Prod.mk.injEq] at h
        obtain ⟨rfl, rfl⟩ := h
        obtain ⟨n1, n2⟩ := newT t (cρ a) (hyz ▸ one hy (by simp [hop, Op.operands]))
        refine ⟨rfl, _, _, ?_, n2, ptr_new _ (by simp)⟩
        simp only [execOp, hop]
        refine val ?_
        simp only [Instr.box, Sem.run_bind, n1, Result.andThen_ok, Sem.run_pure]
      · cases h
    rw [if_neg hzb] at h
    simp only [stepL] at h
    split at h
    · rename_i hok
      simp only [Option.some.injEq, Prod.mk.injEq] at h
      obtain ⟨rfl, rfl⟩ := h
      obtain ⟨n1, n2⟩ := newv t (cρ a) s _ (ρ y) hok (one hy (by simp [hop, Op.operands]))
      refine ⟨rfl, _, _, ?_, n2, ptr_new _ (by simp)⟩
      simp only [execOp, hop]
      refine val ?_
      simp only [Instr.box, Sem.run_bind, n1, Result.andThen_ok, Sem.run_pure]
    · cases h
  case h_7 t n ps hop =>
    simp only [Option.bind_eq_some_iff] at hc
    obtain ⟨e, he, s, hs, z, hz, l, hl, hc⟩ := hc
    split at hc
    · rename_i hcond
      simp only [Option.some.injEq, AOp.l.injEq] at hc; subst hc
      simp only [stepL, Option.bind_eq_bind, Option.bind_eq_some_iff] at h
      obtain ⟨ys, hys, h⟩ := h
      split at h
      · rename_i hall
        simp only [Option.some.injEq, Prod.mk.injEq] at h
        obtain ⟨rfl, rfl⟩ := h
        obtain ⟨cz, hzr, habs, -⟩ := zeroOf_run hz w
        have hzsc := absv_cells habs
        have hzel := zel_cells hzsc
        have hzc := (absv_rel (μ := μ) (S := S) (w := w) habs).cells hzsc
        have hut : P.underlying t = some (.slice e) := by
          unfold elemOf? at he
          split at he
          · injection he with he; subst he; assumption
          · cases he
        have hzs : cz.cells.size = s := by have := hzc.length; rw [hcond.2.1] at this; simpa using this.symm
        have hz0 : VRels μ S w ((List.replicate n (if z.cells.length = 1 then z.cells.headD .undef else .agg z.cells)).flatMap V.cells) ((Array.range (n * s)).map fun i => cz.cells[i % cz.cells.size]!).toList :=
          zeros_rel hcond.1 (by rw [hzel]; exact hcond.2.1) (by rw [hzel]; exact hzc)
        obtain ⟨A', a1, a2, a3⟩ := mks_sound (fl := flatT P 5 e) hl (ρ := ρ) (cρ := cρ) (fun x hx y hy => one hy (by simpa [hop, Op.operands] using hx)) (s := s) (fun x hx => by
          rw [(List.mem_replicate.1 hx).2, hzel]; exact hcond.2.1) hz0 hys
        have hyl : ys.length = n := by simpa using a3
        have hok : ∀ y ∈ ys, okEl s (flatT P 5 e) y = true := fun y hy => List.all_eq_true.1 hall y hy
        have hAl : A'.size = n * s := by have := a2.length; rw [flatMap_len ys (fun y hy => okEl_len (hok y hy)), hyl] at this; simpa using this.symm
        refine ⟨rfl, .slice (some ⟨w.heap.size, 0, none⟩) n n, .cells A' e, ?_, row_new (n := n * s) hS hid hok ?_ (by rw [hyl, hAl]; exact Nat.le_refl _), ?_⟩
        · simp only [execOp, hop]
          refine val ?_
          have hp : (ps.map fun (i, x) => (i, cρ x)).toList = ps.toList.map fun p => (p.1, cρ p.2) := by simp
          simp only [Instr.buildSlice, Sem.run_bind, run_und hut, Result.andThen_ok, run_szOf hs]
          rw [if_neg (by omega)]
          by_cases h0 : n * s = 0
          · simp only [h0, if_true, Sem.run_bind, Sem.run_pure, Result.andThen_ok, hp]
            rw [show (Array.range (n * s)).map (fun i => cz.cells[i % cz.cells.size]!) = (Array.range 0).map (fun x => (#[] : Array Value)[x % (#[] : Array Value).size]!) from by rw [h0]; simp] at a1
            rw [a1]
            simp only [newRow, Sem.run_bind, run_newObj_alloc, Result.andThen_ok, Sem.run_pure]
          · simp only [h0, if_false, Sem.run_bind, hzr, Sem.run_pure, Result.andThen_ok, hp]
            rw [a1]
            simp only [newRow, Sem.run_bind, run_newObj_alloc, Result.andThen_ok, Sem.run_pure]
        · rw [List.take_of_length_le (by simp [hAl])]
          exact a2
        · have := VRel.ref (μ := μ.lay id w.heap.size) (S := S) (w := w.alloc (.cells A' e)) id s 0 n n w.heap.size 0 A' e (0, 0) (Mu.lay_self _ _ _) (heap_alloc_new _) (Nat.le_refl _) (by simp [hAl])
          simpa using this
      · cases h
    · cases hc
  case h_15 t hop =>
    split at hc
    · rename_i kt et hu
      simp only [Option.map_eq_some_iff, AOp.l.injEq] at hc
      obtain ⟨k, hk, rfl⟩ := hc
      simp only [stepL, Option.some.injEq, Prod.mk.injEq] at h
      obtain ⟨rfl, rfl⟩ := h
      refine ⟨rfl, .map (some w.heap.size), .map #[] 0, ?_, .map k [] w.heap.size 0 #[] (heap_alloc_new _) .nil .nil (by simp) (by simp), .map id w.heap.size (Mu.lay_self _ _ _)⟩
      simp only [execOp, hop]
      exact val (by simp [Instr.makeMap, run_newObj_alloc])
    · cases hc
  case h_16 t hh hop =>
    split at hc
    · rename_i kt et hu
      simp only [Option.bind_eq_some_iff, Option.map_eq_some_iff, AOp.l.injEq] at hc
      obtain ⟨k, hk, h', hh', rfl⟩ := hc
      have rh := one hh' (by simp [hop, Op.operands])
      simp only [stepL] at h
      split at h
      · rename_i ik n hint
        rw [hint] at rh
        simp only [Option.some.injEq, Prod.mk.injEq] at h
        obtain ⟨rfl, rfl⟩ := h
        refine ⟨rfl, .map (some w.heap.size), .map #[] 0, ?_, .map k [] w.heap.size 0 #[] (heap_alloc_new _) .nil .nil (by simp) (by simp), .map id w.heap.size (Mu.lay_self _ _ _)⟩
        simp only [execOp, hop]
        exact val (by simp [Instr.makeMap, run_newObj_alloc, rh.int_inv, asInt, asIntOf, run_und hu])
      · cases h
    · cases hc
  case h_17 t l c hop =>
    simp only [Option.bind_eq_some_iff] at hc
    obtain ⟨e, he, i, hi, z, hz, l', hl, c', hc', hc⟩ := hc
    split at hc
    · rename_i hcond
      simp only [Option.some.injEq, AOp.l.injEq] at hc; subst hc
      have rl := one hl (by simp [hop, Op.operands])
      have rc := one hc' (by simp [hop, Op.operands])
      simp only [stepL] at h
      split at h
      · rename_i a b e1 e2
        split at h
        · rename_i hb
          obtain ⟨b0, b1, b2, b3, b4⟩ := hb
          simp only [Option.some.injEq, Prod.mk.injEq] at h
          obtain ⟨rfl, rfl⟩ := h
          rw [e1] at rl; rw [e2] at rc
          have hla := rl.int_inv
          have hcb := rc.int_inv
          obtain ⟨cz, hzr, habs, -⟩ := zeroOf_run hz w
          have hzsc := absv_cells habs
          have hzc := (absv_rel (μ := μ) (S := S) (w := w) habs).cells hzsc
          have hut : P.underlying t = some (.slice e) := by
            unfold elemOf? at he
            split at he
            · injection he with he; subst he; assumption
            · cases he
          have hse : szOf P e = some i.size := by simp [szOf, hi]
          let A := (Array.range (b.toNat * i.size)).map fun j => cz.cells[j % cz.cells.size]!
          have hA : VRels μ S w ((List.replicate b.toNat z).flatMap V.cells) A.toList := zeros_rel hcond.1 hcond.2 hzc
          have hAl : A.size = b.toNat * i.size := by simp [A]
          have hab : a.toNat ≤ b.toNat := by omega
          have hrep : List.replicate b.toNat z = List.replicate a.toNat z ++ List.replicate (b.toNat - a.toNat) z := by rw [List.replicate_append_replicate]; congr 1; omega
          have hfl : ((List.replicate a.toNat z).flatMap V.cells).length = a.toNat * i.size := by
            rw [flatMap_len (s := i.size) _ (fun x hx => by rw [(List.mem_replicate.1 hx).2]; exact hcond.2)]; simp
          refine ⟨rfl, .slice (some ⟨w.heap.size, 0, none⟩) a.toNat b.toNat, .cells A e, ?_, row_new (n := a.toNat * i.size) hS hid (fun x hx => by rw [(List.mem_replicate.1 hx).2]; exact b3) ?_ (by
            rw [hAl]; simpa using Nat.mul_le_mul_right _ hab), ?_⟩
          · simp only [execOp, hop, hla, hcb]
            refine val ?_
            have w1 := wrap64_id b0 (Int.le_trans b1 b4)
            have w2 := wrap64_id (Int.le_trans b0 b1) b4
            simp only [Instr.makeSlice, Sem.run_bind, run_und hut, Result.andThen_ok, asInt, asIntOf, Sem.run_pure, run_typeInfo w hi, w1, w2]
            have c1 : (b < 0 || (i.bytes : Int) * b > 2 ^ 48) = false := by
              simp only [Bool.or_eq_false_iff, decide_eq_false_iff_not]
              exact ⟨by omega, by rw [Int.mul_comm]; omega⟩
            have c2 : decide (a < 0) = false := by simp; omega
            have c3 : decide (a > b) = false := by simp; omega
            rw [if_neg (by simp only [c1, c2, c3, Bool.or_false, Bool.false_eq_true, not_false_eq_true])]
            simp only [Sem.run_bind, run_askRoom, Result.andThen_ok, run_szOf hse]
            by_cases h0 : b.toNat * i.size = 0
            · simp only [h0, if_true, Sem.run_bind, Sem.run_pure, Result.andThen_ok, newRow, run_newObj_alloc]
              have : A = (Array.range 0).map (fun x => (#[] : Array Value)[x % (#[] : Array Value).size]!) := by simp only [A]; rw [h0]; simp
              rw [this]
            · simp only [h0, if_false, Sem.run_bind, hzr, Sem.run_pure, Result.andThen_ok, newRow, run_newObj_alloc]
              rfl
          · have := hA.take (a.toNat * i.size)
            rw [hrep, List.flatMap_append, List.take_append_of_le_length (by omega), List.take_of_length_le (by omega)] at this
            exact this
          · have := VRel.ref (μ := μ.lay id w.heap.size) (S := S) (w := w.alloc (.cells A e)) id i.size 0 a.toNat b.toNat w.heap.size 0 A e (0, 0) (Mu.lay_self _ _ _) (heap_alloc_new _) hab (by simp [hAl])
            simpa using this
        · cases h
      · cases h
    · cases hc
  case h_26 c hop =>
    unfold compCall at hc
    split at hc
    · split at hc <;> simp at hc
    · simp [Option.bind_eq_some_iff] at hc
    · cases hc
    · split at hc
      · simp only [Option.bind_eq_some_iff] at hc
        obtain ⟨y, hy, hc⟩ := hc
        split at hc <;> simp at hc
      all_goals (simp [Option.bind_eq_some_iff] at hc)
  all_goals first
    | (simp [Option.bind_eq_some_iff, Option.map_eq_some_iff] at hc; done)
    | (split at hc <;> first
       | (simp [Option.bind_eq_some_iff, Option.map_eq_some_iff] at hc; done)
       | (split at hc <;> simp [Option.map_eq_some_iff] at hc; done))
    | (simp only [Option.bind_eq_some_iff] at hc
       obtain ⟨_, _, _, _, hc⟩ := hc
       split at hc <;> simp at hc; done)
    | skip
end
end Go.AM

/- Operations that write. -/
set_option linter.unusedVariables false
set_option linter.unusedSimpArgs false
namespace Go.AM
open Go.RowKit
section
variable {P : Program} {μ : Mu} {S : Nat → Prop} {H : Heap} {w : World}

theorem seg_get {α : Type} (c vs : List α) (p k : Nat) (h : p + vs.length ≤ c.length) : (c.take p ++ vs ++ c.drop (p + vs.length))[k]? = if k < p then c[k]? else if k < p + vs.length then vs[k - p]? else c[k]? := by
  have hl : (c.take p).length = p := by rw [List.length_take]; omega
  split
  · rename_i hk
    rw [List.append_assoc, List.getElem?_append_left (by omega), List.getElem?_take, if_pos hk]
  · rename_i hk
    split
    · rename_i hk2
      rw [List.append_assoc, List.getElem?_append_right (by omega), List.getElem?_append_left (by omega), hl]
    · rename_i hk2
      rw [List.append_assoc, List.getElem?_append_right (by omega), List.getElem?_append_right (by omega), List.getElem?_drop, hl]
      congr 1
      omega
theorem setCells_get (c vs : List V) (p k : Nat) (h : p + vs.length ≤ c.length) : (setCells c p vs)[k]? = if k < p then c[k]? else if k < p + vs.length then vs[k - p]? else c[k]? := seg_get c vs p k h
theorem setCells_len (c vs : List V) (p : Nat) (h : p + vs.length ≤ c.length) : (setCells c p vs).length = c.length := by
  unfold setCells
  simp only [List.length_append, List.length_take, List.length_drop]
  omega
theorem flatMap_take : ∀ (xs : List V) {s : Nat} (n : Nat), (∀ x ∈ xs, x.cells.length = s) → (xs.take n).flatMap V.cells = (xs.flatMap V.cells).take (n * s)
  | xs, s, 0, _ => by simp
  | [], s, n + 1, _ => by simp
  | x :: xs, s, n + 1, h => by
    have := flatMap_take xs (s := s) n (fun y hy => h y (List.mem_cons_of_mem _ hy))
    have hx := h x List.mem_cons_self
    rw [List.take_succ_cons, List.flatMap_cons, this, List.flatMap_cons, show (n + 1) * s = x.cells.length + n * s by rw [hx, Nat.add_mul]; omega, List.take_append]
    have t1 : x.cells.take (x.cells.length + n * s) = x.cells := List.take_of_length_le (by omega)
    rw [t1]
    simp
theorem oneC_eq (x : Value) : oneC x = x.oneCell' := by cases x <;> rfl
theorem VRels.one {vs : List V} {xs : List Value} (h : VRels μ S w vs xs) (hs : vs.all V.sc = true) : ∀ x ∈ xs, x.oneCell' = true := by
  induction h with
  | nil => intro x hx; cases hx
  | cons h _ ih =>
    simp only [List.all_cons, Bool.and_eq_true] at hs
    intro x hx
    cases hx with
    | head =>
      have := h.oneC hs.1
      rwa [oneC_eq] at this
    | tail _ hx => exact ih hs.2 x hx
/-- A part of an object's cells is written. -/
theorem row_seg (I : Inv μ S H w) {id s : Nat} {fl : Bool} {xs xs' : List V} {b o k : Nat} {N : List V} {vs : List Value} {c : Array Value} {e : TypeId} (hx : H[id]? = some (.row s fl xs)) (hm : μ id = some (b, o))
    (hb : w.heap[b]? = some (.cells c e (0, 0))) (hold : ∀ (j : Nat) (v : V), (xs.flatMap V.cells)[j]? = some v → ∃ x, c[o + j]? = some x ∧ VRel μ S w v x)
    (hN : VRels μ S w N vs) (hsc : N.all V.sc = true) (hok : ∀ x ∈ xs', okEl s fl x = true) (hle : o + k + vs.length ≤ c.size) (hsz : o + xs'.length * s ≤ c.size)
    (hF : ∀ (j : Nat) (v : V), (xs'.flatMap V.cells)[j]? = some v → (k ≤ j ∧ N[j - k]? = some v) ∨ ((j < k ∨ k + N.length ≤ j) ∧ (xs.flatMap V.cells)[j]? = some v)) :
    ∃ w', (storeCells ⟨b, o + k, none⟩ vs).run P w = .ok () w' ∧ Inv μ S (H.set id (.row s fl xs')) w' ∧ Ext μ S H w μ S (H.set id (.row s fl xs')) w' := by
  refine ⟨w.setRow b (c.toList.take (o + k) ++ vs ++ c.toList.drop (o + k + vs.length)).toArray, ?_, ?_⟩
  · have := run_storeCells_at (P := P) b (o + k) e vs 0 c w hb (by omega) (hN.one hsc)
    simpa using this
  · have hlen : (c.toList.take (o + k) ++ vs ++ c.toList.drop (o + k + vs.length)).length = c.size := by
      simp only [List.length_append, List.length_take, List.length_drop, Array.length_toList]
      omega
    refine I.put hx rfl rfl hm (setRow_size _ _ _) rfl rfl rfl (fun k' hk' => setRow_other _ _ _ _ hk') (fun c' e' fz h => ?_) (fun mono => ?_)
    · rw [hb] at h
      injection h with h; injection h with h1 h2 h3
      subst h1; subst h2; subst h3
      exact ⟨_, _, setRow_heap _ _ _ _ _ _ hb, by simpa using hlen⟩
    · refine row_mk (setRow_heap _ _ _ _ _ _ hb) hok (fun j v hj => ?_) (by simpa using Nat.le_trans hsz (Nat.le_of_eq hlen.symm))
      have hNl := hN.length
      have hget := seg_get c.toList vs (o + k) (o + j) (by simpa using hle)
      rcases hF j v hj with ⟨hk, hn⟩ | ⟨hk, hn⟩
      · obtain ⟨x, hx, hr⟩ := hN.get? _ v hn
        have hlt : j - k < N.length := (List.getElem?_eq_some_iff.1 hn).1
        refine ⟨x, ?_, mono _ _ hr⟩
        rw [if_neg (by omega), if_pos (by omega), show o + j - (o + k) = j - k by omega, hx] at hget
        simpa using hget
      · obtain ⟨x, hx, hr⟩ := hold j v hn
        refine ⟨x, ?_, mono _ _ hr⟩
        have : (c.toList.take (o + k) ++ vs ++ c.toList.drop (o + k + vs.length))[o + j]? = c.toList[o + j]? := by
          rw [hget]
          rcases hk with hk | hk
          · rw [if_pos (by omega)]
          · rw [if_neg (by omega), if_neg (by omega)]
        simpa [hx] using this
theorem store_sound (I : Inv μ S H w) {t : TypeId} {n : Nat} (hs : szOf P t = some n) {va vx : V} {a x : Value} (ha : VRel μ S w va a) (hx : VRel μ S w vx x) {H' : Heap} (h : storeAt H n va vx = some H') :
    ∃ w', (Instr.storeAt t a x).run P w = .ok () w' ∧ Inv μ S H' w' ∧ Ext μ S H w μ S H' w' := by
  unfold storeAt at h
  split at h
  · rename_i id s i fo
    simp only [Option.bind_eq_bind, Option.bind_eq_some_iff] at h
    obtain ⟨⟨fl, xs⟩, hr, u, hu, h⟩ := h
    dsimp only at hu h
    split at h
    · rename_i hc
      obtain ⟨c1, c2, c3, c4, c5⟩ := hc
      injection h with h; subst h
      obtain ⟨b, o, rfl, hm⟩ := ha.ptr_inv
      have hid := rowAt_inv hr
      obtain ⟨c, e, g1, g2, g3, g4⟩ := row_get (I.obj id _ b o hid rfl hm)
      have hlen : ∀ y ∈ xs, y.cells.length = s := fun y hy => okEl_len (g2 y hy)
      have hu' := g2 u (List.mem_of_getElem? hu)
      have hul := okEl_len hu'
      have hcx := hx.cells c4
      have hcl := hcx.length
      have hi : i < xs.length := (List.getElem?_eq_some_iff.1 hu).1
      have hfl := flatMap_len xs hlen
      -- the new element's cells
      have hx' : (u.putAt vx fo).cells = setCells u.cells fo vx.cells := by
        unfold V.putAt
        split
        · rfl
        · have hone : u.cells = [u] := by cases u <;> first | rfl | (rename_i hne; exact absurd rfl (hne _))
          rw [hone] at hul ⊢
          simp at hul
          have e1 : fo = 0 := by omega
          have e2 : vx.cells.length = 1 := by omega
          subst e1
          simp [setCells, e2]
      generalize u.putAt vx fo = x' at hx' ⊢
      have hx'l : x'.cells.length = s := by rw [hx', setCells_len _ _ _ (by omega)]; exact hul
      have hok' : okEl s fl x' = true := by
        unfold okEl
        simp only [Bool.and_eq_true, beq_iff_eq, Bool.or_eq_true, Bool.not_eq_true']
        refine ⟨hx'l, by rw [hx']; exact setCells_sc (okEl_sc hu') c4 _, ?_⟩
        simp only [Bool.or_eq_true, Bool.not_eq_true'] at c5
        cases fl with
        | false => exact .inl rfl
        | true =>
          refine .inr ?_
          rw [hx']
          exact setCells_sc (okEl_flat hu' rfl) (c5.resolve_left (by simp)) _
      have hb : i * s + s ≤ xs.length * s := by
        calc i * s + s = (i + 1) * s := by rw [Nat.add_mul]; omega
          _ ≤ xs.length * s := Nat.mul_le_mul_right _ (by omega)
      obtain ⟨w', r1, r2, r3⟩ := row_seg (P := P) I (xs' := xs.set i x') (k := i * s + fo) hid hm g1 g3 hcx c4
        (fun y hy => by
          rcases List.mem_or_eq_of_mem_set hy with h | h
          · exact g2 y h
          · subst h; exact hok')
        (by omega) (by simpa using g4) (fun j v hj => by
          rw [flatMap_set xs hlen hx'l hi, setCells_get _ _ _ _ (by omega), hx'l] at hj
          split at hj
          · exact .inr ⟨.inl (by omega), hj⟩
          · split at hj
            · rw [hx', setCells_get _ _ _ _ (by omega)] at hj
              split at hj
              · rename_i q1 q2 q3
                refine .inr ⟨.inl (by omega), ?_⟩
                have := flatMap_get xs hlen hu hj
                rwa [show i * s + (j - i * s) = j by omega] at this
              · split at hj
                · refine .inl ⟨by omega, ?_⟩
                  rwa [show j - (i * s + fo) = j - i * s - fo by omega]
                · refine .inr ⟨.inr (by omega), ?_⟩
                  have := flatMap_get xs hlen hu hj
                  rwa [show i * s + (j - i * s) = j by omega] at this
            · exact .inr ⟨.inr (by omega), hj⟩)
      refine ⟨w', ?_, r2, r3⟩
      have hsz : x.cells.size = n := by rw [← c1, hcl]; simp
      simp only [Instr.storeAt, Instr.sureAddr, Sem.run_bind, Sem.run_pure, Result.andThen_ok, storeVar, run_szOf hs, hsz, ne_eq, not_true_eq_false, if_false]
      rw [Nat.add_assoc]
      exact r1
    · cases h
  · cases h
/-- What a source of cells gives. -/
theorem elems_sound (I : Inv μ S H w) {v : V} {x : Value} (hx : VRel μ S w v x) {ys : List V} (h : elems H v = some ys) {s : Nat} (hys : ∀ y ∈ ys, y.cells.length = s) :
    ∃ (a : Option Addr) (cap : Nat), x = .slice a ys.length cap ∧ ys.length ≤ cap ∧ ∀ n, n ≤ ys.length → ∃ A : Array Value, (Builtin.firstCells s n x).run P w = .ok A w ∧ VRels μ S w ((ys.take n).flatMap V.cells) A.toList := by
  have zero : ∀ a, (loadCells a 0).run P w = .ok #[] w := fun a => by simp [loadCells, loadCellsFrom]
  have some_ : ∀ (b o : Nat) (n len cap : Nat), n ≤ ys.length → (∀ j u, (ys.flatMap V.cells)[j]? = some u → ∃ x, w.cell? ⟨b, o + j, none⟩ = some x ∧ VRel μ S w u x) →
      ∃ A : Array Value, (Builtin.firstCells s n (.slice (some ⟨b, o, none⟩) len cap)).run P w = .ok A w ∧ VRels μ S w ((ys.take n).flatMap V.cells) A.toList := by
    intro b o n len cap hn hcell
    have hfl := flatMap_len ys hys
    have htl : ((ys.take n).flatMap V.cells).length = n * s := by rw [flatMap_len _ (fun y hy => hys y (List.mem_of_mem_take hy)), List.length_take, Nat.min_eq_left hn]
    have hex : ∀ j : Fin (n * s), ∃ x, w.cell? ⟨b, o + j.1, none⟩ = some x ∧ ∀ u, ((ys.take n).flatMap V.cells)[j.1]? = some u → VRel μ S w u x := by
      intro j
      have hj : j.1 < ((ys.take n).flatMap V.cells).length := by rw [htl]; exact j.2
      obtain ⟨x, h1, h2⟩ := hcell j.1 _ (flatMap_take_get ys n j.1 _ (List.getElem?_eq_getElem hj))
      refine ⟨x, h1, fun u hu => ?_⟩
      rw [List.getElem?_eq_getElem hj] at hu
      injection hu with hu
      exact hu ▸ h2
    let f : Nat → Value := fun j => (w.cell? ⟨b, o + j, none⟩).getD undef
    let xs := (List.range (n * s)).map f
    have hxs : ∀ j x, xs[j]? = some x → w.cell? ⟨b, o + 0 + j, none⟩ = some x := by
      intro j x hj
      have hlt : j < n * s := by have := (List.getElem?_eq_some_iff.1 hj).1; simpa [xs] using this
      obtain ⟨y, h1, -⟩ := hex ⟨j, hlt⟩
      simp only [xs, f, List.getElem?_map, List.getElem?_range hlt, Option.map_some, Option.some.injEq] at hj
      simp only at h1
      rw [h1] at hj
      simp only [Option.getD_some] at hj
      subst hj
      rw [show o + 0 + j = o + j by omega]
      exact h1
    refine ⟨xs.toArray, ?_, VRels.det_len (by rw [htl]; simp [xs]) fun j u hu => ?_⟩
    · have := loadCells_of (P := P) (w := w) (b := b) (o := o) xs 0 #[] hxs
      simp only [Builtin.firstCells, loadCells]
      rw [show xs.length = n * s by simp [xs]] at this
      rw [this]
      simp
    · have hlt : j < n * s := by rw [← htl]; exact (List.getElem?_eq_some_iff.1 hu).1
      obtain ⟨y, h1, h2⟩ := hex ⟨j, hlt⟩
      simp only at h1
      refine ⟨y, ?_, h2 u hu⟩
      simp only [xs, f, List.getElem?_map, List.getElem?_range hlt, Option.map_some, h1, Option.getD_some]
  unfold elems at h
  split at h
  · rename_i xs
    injection h with h; subst h
    cases hx with
    | lst0 a n =>
      refine ⟨a, n, rfl, Nat.zero_le _, fun m hm => ⟨#[], ?_, ?_⟩⟩
      · have : m = 0 := by simpa using hm
        subst this
        cases a <;> simp [Builtin.firstCells, zero]
      · simp; exact .nil
    | lst _ s' b o cap c e fz f g1 g2 g3 g4 g5 g6 =>
      refine ⟨_, cap, rfl, g3, fun m hm => some_ b o m _ _ hm fun j u hu => ⟨f j, by rw [cell_of g2]; exact (g5 j u hu).2, g6 j u hu⟩⟩
  · injection h with h; subst h
    cases hx
    refine ⟨none, 0, rfl, Nat.le_refl _, fun m hm => ⟨#[], ?_, ?_⟩⟩
    · simp [Builtin.firstCells]
    · simp; exact .nil
  · rename_i id s' off len
    simp only [Option.bind_eq_bind, Option.bind_eq_some_iff] at h
    obtain ⟨⟨fl, xs⟩, hr, h⟩ := h
    dsimp only at h
    split at h
    · rename_i hle
      injection h with h; subst h
      have hyl : ((xs.drop off).take len).length = len := by rw [List.length_take, List.length_drop]; omega
      cases hx with
      | ref0 _ _ _ a =>
        refine ⟨a, 0, by rw [hyl], by rw [hyl]; exact Nat.le_refl _, fun m hm => ⟨#[], ?_, ?_⟩⟩
        · have : m = 0 := by omega
          subst this
          cases a <;> simp [Builtin.firstCells, zero]
        · have : m = 0 := by omega
          subst this
          simp; exact .nil
      | ref _ _ _ _ cap b o c e fz k1 k2 k3 k4 =>
        obtain ⟨c', e', g1, g2, g3, g4⟩ := row_get (I.obj id _ b o (rowAt_inv hr) rfl k1)
        refine ⟨_, cap, by rw [hyl], by rw [hyl]; exact k3, fun m hm => ?_⟩
        rw [hyl] at hm
        by_cases hlen0 : len = 0
        · have hm0 : m = 0 := by omega
          subst hm0
          refine ⟨#[], ?_, by simp; exact .nil⟩
          simp [Builtin.firstCells, zero]
        · have hss : s = s' := by
            have hne : (xs.drop off).take len ≠ [] := fun h => by rw [h] at hyl; simp at hyl; omega
            obtain ⟨y, hy⟩ := List.exists_mem_of_ne_nil _ hne
            rw [← hys y hy]
            exact okEl_len (g2 y (List.mem_of_mem_drop (List.mem_of_mem_take hy)))
          subst hss
          refine some_ b (o + off * s) m _ _ (by omega) fun j u hu => ?_
          have h1 := flatMap_take_get _ _ _ _ hu
          rw [flatMap_drop xs off (fun y hy => okEl_len (g2 y hy)), List.getElem?_drop] at h1
          obtain ⟨x, h2, h3⟩ := g3 _ u h1
          exact ⟨x, by rw [cell_of g1, Nat.add_assoc]; exact h2, h3⟩
    · cases h
  · cases h
end
end Go.AM

/- Appending, copying, maps that are written. -/
set_option linter.unusedVariables false
set_option linter.unusedSimpArgs false
namespace Go.AM
open Go.RowKit
section
variable {P : Program} {μ : Mu} {S : Nat → Prop} {H : Heap} {w : World}

theorem growBy_le (n : Nat) : ∀ (r c : Nat), c ≤ n + (n + 768) / 4 → Builtin.growBy n r c ≤ n + (n + 768) / 4
  | 0, c, h => by simpa [Builtin.growBy] using h
  | r + 1, c, h => by
    unfold Builtin.growBy
    split
    · exact h
    · exact growBy_le n r _ (by omega)
theorem nextslicecap_le (n c : Nat) (h : c < n) : Builtin.nextslicecap n c ≤ 2 * n + 192 := by
  unfold Builtin.nextslicecap
  split
  · omega
  · split
    · omega
    · have := growBy_le n 4 c (by omega)
      omega
theorem grow_room {need cap bytes : Nat} (hc : cap < need) (hb : need * bytes ≤ 1099511627776) (h0 : 0 < bytes) : ¬ Builtin.nextslicecap need cap * bytes > 2 ^ 48 := by
  have h1 := Nat.mul_le_mul_right bytes (nextslicecap_le need cap hc)
  have h2 : bytes ≤ 1099511627776 := by
    calc bytes = 1 * bytes := by omega
      _ ≤ need * bytes := Nat.mul_le_mul_right _ (by omega)
      _ ≤ _ := hb
  rw [Nat.add_mul, Nat.mul_assoc] at h1
  omega
/-- An object that isn't used any more. -/
theorem Inv.kill (I : Inv μ S H w) (id : Nat) : Inv μ S (H.set id .dead) w ∧ Ext μ S H w μ S (H.set id .dead) w := by
  have old : ∀ (i : Nat) (y : O), (H.set id .dead)[i]? = some y → live y = true → H[i]? = some y := by
    intro i y h hl
    by_cases e : i = id
    · subst e
      by_cases hlt : i < H.length
      · rw [List.getElem?_set_self hlt] at h
        injection h with h
        subst h
        cases hl
      · rw [List.getElem?_eq_none (by simpa using hlt)] at h
        cases h
    · rwa [List.getElem?_set_ne (Ne.symm e)] at h
  refine ⟨⟨fun i b o h => by simpa using I.dom i b o h, I.sdom, fun i x b o hx hl hm => I.obj i x b o (old i x hx hl) hl hm, fun i j x y b o o' h1 h2 l1 l2 m1 m2 => I.inj i j x y b o o' (old i x h1 l1) (old j y h2 l2) l1 l2 m1 m2,
    fun i x b o hx hl hm => I.sep i x b o (old i x hx hl) hl hm, I.laid⟩, fun _ _ h => h, fun _ h => h, fun _ h => .inl h, by simp, rfl, rfl, rfl, Nat.le_refl _, fun _ _ _ => rfl, fun _ c _ _ h => ⟨c, _, h, rfl⟩, fun b hb ⟨i, x, o, hx, hl, hm⟩ => ⟨i, x, o, old i x hx hl, hl, hm⟩,
    fun _ _ h h' => by rw [h] at h'; cases h'⟩
/-- An object's end, under a new name. -/
theorem Inv.rename (I : Inv μ S H w) {id s : Nat} {fl : Bool} {A B : List V} {b o : Nat} (hx : H[id]? = some (.row s fl (A ++ B))) (hm : μ id = some (b, o)) :
    ∃ μ', Inv μ' S (H.set id .dead ++ [.row s fl B]) w ∧ Ext μ S H w μ' S (H.set id .dead ++ [.row s fl B]) w ∧ μ' H.length = some (b, o + A.length * s) := by
  have hlt : id < H.length := (List.getElem?_eq_some_iff.1 hx).1
  have hnew : μ H.length = none := by
    cases h : μ H.length with
    | none => rfl
    | some p => have := (I.dom _ p.1 p.2 h).1; omega
  let μ' : Mu := fun i => if i = H.length then some (b, o + A.length * s) else μ i
  have mu_of : ∀ i p, μ i = some p → μ' i = some p := by
    intro i p h
    simp only [μ']
    rw [if_neg]
    · exact h
    · intro e; subst e; rw [hnew] at h; cases h
  have mu_inv : ∀ i p, μ' i = some p → (i = H.length ∧ p = (b, o + A.length * s)) ∨ (i ≠ H.length ∧ μ i = some p) := by
    intro i p h
    simp only [μ'] at h
    split at h
    · injection h with h; exact .inl ⟨by assumption, h.symm⟩
    · exact .inr ⟨by assumption, h⟩
  have mono : ∀ v x, VRel μ S w v x → VRel μ' S w v x := fun v x h => h.mono mu_of (fun _ h => h) (fun _ _ => rfl) (fun _ c _ _ h => ⟨c, _, h, rfl⟩)
  have hl : (H.set id .dead).length = H.length := by simp
  have getold : ∀ (i : Nat) (y : O), (H.set id .dead ++ [.row s fl B])[i]? = some y → live y = true → i ≠ H.length → H[i]? = some y ∧ i ≠ id := by
    intro i y h hly hi
    have hi2 : i < H.length := by
      have := (List.getElem?_eq_some_iff.1 h).1
      simp at this
      omega
    rw [List.getElem?_append_left (by omega)] at h
    by_cases e : i = id
    · subst e
      rw [List.getElem?_set_self hlt] at h
      injection h with h
      subst h
      cases hly
    · exact ⟨by rwa [List.getElem?_set_ne (Ne.symm e)] at h, e⟩
  have getnew : ∀ (y : O), (H.set id .dead ++ [.row s fl B])[H.length]? = some y → y = .row s fl B := by
    intro y h
    rw [List.getElem?_append_right (by omega), hl] at h
    simp at h
    exact h.symm
  refine ⟨μ', ⟨fun i k o' h => ?_, I.sdom, fun i y k o' hy hly hmi => ?_, fun i j y z k o1 o2 h1 h2 l1 l2 m1 m2 => ?_, fun i y k o' hy hly hmi => ?_, I.laid⟩,
    ⟨mu_of, fun _ h => h, fun _ h => .inl h, by simp, rfl, rfl, rfl, Nat.le_refl _, fun _ _ _ => rfl, fun _ c _ _ h => ⟨c, _, h, rfl⟩, fun k hk ⟨i, y, o', hy, hly, hmi⟩ => ?_, fun i p h h' => ?_⟩, by simp [μ']⟩
  · rcases mu_inv i _ h with ⟨rfl, e⟩ | ⟨-, h⟩
    · injection e with e1 e2
      subst e1
      exact ⟨by simp, (I.dom id k o hm).2⟩
    · have := I.dom i k o' h
      exact ⟨by simp; omega, this.2⟩
  · rcases mu_inv i _ hmi with ⟨rfl, e⟩ | ⟨hne, hmi⟩
    · rw [getnew y hy]
      injection e with e1 e2
      subst e1; subst e2
      obtain ⟨c, e, g1, g2, g3, g4⟩ := row_get (I.obj id _ k o hx rfl hm)
      have hA : (A.flatMap V.cells).length = A.length * s := flatMap_len A fun x hx => okEl_len (g2 x (List.mem_append_left _ hx))
      refine row_mk g1 (fun x hx => g2 x (List.mem_append_right _ hx)) (fun j v hj => ?_) (by
        rw [List.length_append, Nat.add_mul] at g4
        omega)
      obtain ⟨x, k1, k2⟩ := g3 (A.length * s + j) v (by
        rw [List.flatMap_append, List.getElem?_append_right (by omega), hA]
        rwa [show A.length * s + j - A.length * s = j by omega])
      exact ⟨x, by rw [Nat.add_assoc]; exact k1, mono _ _ k2⟩
    · exact (I.obj i y k o' (getold i y hy hly hne).1 hly hmi).imp mono rfl
  · rcases mu_inv i _ m1 with ⟨rfl, e⟩ | ⟨n1, k1⟩ <;> rcases mu_inv j _ m2 with ⟨rfl, e'⟩ | ⟨n2, k2⟩
    · rfl
    · injection e with e1 e2
      subst e1
      have := getold j z h2 l2 n2
      exact absurd (I.inj j id z _ k o2 o this.1 hx l2 rfl k2 hm) this.2
    · injection e' with e1 e2
      subst e1
      have := getold i y h1 l1 n1
      exact absurd (I.inj i id y _ k o1 o this.1 hx l1 rfl k1 hm) this.2
    · exact I.inj i j y z k o1 o2 (getold i y h1 l1 n1).1 (getold j z h2 l2 n2).1 l1 l2 k1 k2
  · rcases mu_inv i _ hmi with ⟨rfl, e⟩ | ⟨hne, hmi⟩
    · injection e with e1 e2
      subst e1
      exact I.sep id _ k o hx rfl hm
    · exact I.sep i y k o' (getold i y hy hly hne).1 hly hmi
  · rcases mu_inv i _ hmi with ⟨rfl, e⟩ | ⟨hne, hmi⟩
    · injection e with e1 e2
      subst e1
      exact ⟨id, _, o, hx, rfl, hm⟩
    · exact ⟨i, y, o', (getold i y hy hly hne).1, hly, hmi⟩
  · rcases mu_inv i _ h' with ⟨rfl, -⟩ | ⟨-, h'⟩
    · exact Nat.le_refl _
    · rw [h] at h'; cases h'

/-- What 'append' does, in words of the model, where it grows. -/
theorem run_grow {t u e : TypeId} {i : TypeInfo} {z : Value} (ht : P.underlying t = some (.slice e)) {e' : TypeId} (hu : P.underlying u = some (.slice e')) (hi : P.info? e = some i) (hz : i.zero = some z) (hzs : z.cells.size = i.size)
    (hby : 0 < i.bytes) {ty : TypeId} {a : Option Addr} {len cap n : Nat} {x : Value} (hx : Builtin.lenOf x = pure n) {old new : Array Value} (hold : (Builtin.firstCells i.size len (.slice a len cap)).run P { w with drawn := w.drawn + 1 } = .ok old { w with drawn := w.drawn + 1 })
    (hnew : (Builtin.firstCells i.size n x).run P { w with drawn := w.drawn + 1 } = .ok new { w with drawn := w.drawn + 1 }) (hc : cap < len + n) (hb : (len + n) * i.bytes ≤ 1099511627776) :
    ∃ (newCap : Nat) (rest : List Value), len + n ≤ newCap ∧ rest.length = (newCap - (len + n)) * i.size ∧
      (Builtin.append_ #[t, u] ty #[.slice a len cap, x]).run P w = .ok (.slice (some ⟨w.heap.size, 0, none⟩) (len + n) newCap) (({ w with drawn := w.drawn + 1 } : World).alloc (.cells (old ++ new ++ rest.toArray) e)) := by
  refine ⟨(Question.appendCap (len + n) cap e).cut (w.tape w.drawn (.appendCap (len + n) cap e)), (Builtin.zeroCells z.cells ((Question.appendCap (len + n) cap e).cut (w.tape w.drawn (.appendCap (len + n) cap e)) - (len + n))).toList, ?_, ?_, ?_⟩
  · simp [Question.cut]
  · simp [Builtin.zeroCells, hzs]
  · have hzv : ∀ w' : World, (zeroValue e).run P w' = .ok z w' := fun w' => by simp [zeroValue, run_typeInfo w' hi, hz]
    have hsz : szOf P e = some i.size := by simp [szOf, hi]
    have hf : (Question.appendCap (len + n) cap e).forced = false := rfl
    simp only [Builtin.append_, List.getElem?_toArray, List.getElem?_cons_zero, List.getElem?_cons_succ, Sem.run_bind, run_und ht, run_und hu, Result.andThen_ok, run_szOf hsz, hx, Sem.run_pure, Bool.false_eq_true, if_false, Bool.not_false, if_true, false_or]
    rw [if_neg (by omega : ¬ len + n ≤ cap)]
    simp only [Sem.run_bind, run_typeInfo w hi, Result.andThen_ok]
    rw [if_neg (fun h => by omega)]
    simp only [Sem.run_bind, run_typeInfo w hi, Result.andThen_ok]
    rw [if_neg (grow_room hc hb hby)]
    simp only [Sem.run_bind, run_choose, hf, Bool.false_eq_true, if_false, Result.andThen_ok, run_typeInfo _ hi, run_askRoom]
    rw [hold]
    simp only [Result.andThen_ok]
    rw [hnew]
    simp only [Result.andThen_ok, hzv, newRow, Sem.run_bind, run_newObj_alloc, Sem.run_pure]

theorem run_fits {t u e : TypeId} {s : Nat} (ht : P.underlying t = some (.slice e)) {e' : TypeId} (hu : P.underlying u = some (.slice e')) (hs : szOf P e = some s) {ty : TypeId} {a : Option Addr} {len cap n : Nat} {x : Value}
    (hx : Builtin.lenOf x = pure n) {new : Array Value} (hnew : (Builtin.firstCells s n x).run P w = .ok new w) (hc : len + n ≤ cap) {w' : World}
    (hst : ∀ b, a = some b → (storeCells (b.add (len * s)) new.toList).run P w = .ok () w') (hno : a = none → w' = w) :
    (Builtin.append_ #[t, u] ty #[.slice a len cap, x]).run P w = .ok (.slice a (len + n) cap) w' := by
  simp only [Builtin.append_, List.getElem?_toArray, List.getElem?_cons_zero, List.getElem?_cons_succ, Sem.run_bind, run_und ht, run_und hu, Result.andThen_ok, run_szOf hs, hx, Sem.run_pure, Bool.false_eq_true, if_false, Bool.not_false, if_true, false_or]
  rw [if_pos hc]
  simp only [Sem.run_bind, hnew, Result.andThen_ok]
  cases a with
  | none => simp only [Sem.run_pure]; rw [hno rfl]
  | some b => simp only [Sem.run_bind, hst b rfl, Result.andThen_ok, Sem.run_pure]
theorem slice_of {v : V} {x : Value} (h : VRel μ S w v x) (hv : match v with | .nil | .lst _ | .ref .. => True | _ => False) : ∃ a n c, x = .slice a n c ∧ n ≤ c := by
  cases h <;> first
    | exact hv.elim
    | exact ⟨_, _, _, rfl, Nat.le_refl _⟩
    | exact ⟨_, _, _, rfl, Nat.zero_le _⟩
    | exact ⟨_, _, _, rfl, by assumption⟩
theorem elemOf?_und {t e : TypeId} (h : elemOf? P t = some e) : P.underlying t = some (.slice e) := by
  unfold elemOf? at h
  split at h
  · injection h with h; subst h; assumption
  · cases h
/-- A new object for what has grown. -/
theorem grown (I : Inv μ S H w) {id0 : Option Nat} {s n cap : Nat} {fl : Bool} {zs : List V} {old new rest : List Value} {e : TypeId} (hzs : ∀ z ∈ zs, okEl s fl z = true) (hr : VRels μ S w (zs.flatMap V.cells) (old ++ new))
    (hcap : zs.length ≤ cap) (hrest : rest.length = (cap - zs.length) * s) (hnew : H.length = n) :
    ∃ μ', Inv μ' S ((match id0 with | some i => H.set i .dead | none => H) ++ [.row s fl zs]) (({ w with drawn := w.drawn + 1 } : World).alloc (.cells (old.toArray ++ new.toArray ++ rest.toArray) e)) ∧
      Ext μ S H w μ' S ((match id0 with | some i => H.set i .dead | none => H) ++ [.row s fl zs]) (({ w with drawn := w.drawn + 1 } : World).alloc (.cells (old.toArray ++ new.toArray ++ rest.toArray) e)) ∧
      VRel μ' S (({ w with drawn := w.drawn + 1 } : World).alloc (.cells (old.toArray ++ new.toArray ++ rest.toArray) e)) (.ref n s 0 zs.length) (.slice (some ⟨w.heap.size, 0, none⟩) zs.length cap) := by
  subst hnew
  obtain ⟨I1, E1⟩ : Inv μ S (match id0 with | some i => H.set i .dead | none => H) w ∧ Ext μ S H w μ S (match id0 with | some i => H.set i .dead | none => H) w := by
    cases id0 with
    | none => exact ⟨I, Ext.refl _ _ _ _⟩
    | some i => exact I.kill i
  have hl : (match id0 with | some i => H.set i .dead | none => H).length = H.length := by cases id0 <;> simp
  generalize (match id0 with | some i => H.set i .dead | none => H) = H1 at *
  have I2 := I1.drawn (w.drawn + 1)
  have E2 := Ext.drawn μ S H1 w (w.drawn + 1)
  have hfl := flatMap_len zs (s := s) fun z hz => okEl_len (hzs z hz)
  have hrl := hr.length
  have hsz : (old.toArray ++ new.toArray ++ rest.toArray).size = cap * s := by
    simp only [Array.size_append, List.size_toArray]
    rw [List.length_append] at hrl
    rw [hrest, ← hrl, hfl, ← Nat.add_mul]
    congr 1
    omega
  have hnone : μ H1.length = none := by
    cases h : μ H1.length with
    | none => rfl
    | some p => have := (I1.dom _ p.1 p.2 h).1; omega
  have hrow := row_new (μ := μ) (S := S) (w := { w with drawn := w.drawn + 1 }) (id := H1.length) (n := zs.length * s) (xs := zs) (fl := fl) (s := s) (c := old.toArray ++ new.toArray ++ rest.toArray) (e := e) I2.sdom hnone hzs
    (by
      have : ((old.toArray ++ new.toArray ++ rest.toArray).toList.take (zs.length * s)) = old ++ new := by
        have e1 : (old.toArray ++ new.toArray ++ rest.toArray).toList = (old ++ new) ++ rest := by simp
        rw [e1, ← hfl, hrl, List.take_left]
      rw [this]
      exact hr.imp (VRel.drawn _)) (by rw [hsz]; exact Nat.mul_le_mul_right _ hcap)
  obtain ⟨I3, E3⟩ := I2.push _ _ hrow
  refine ⟨_, I3, (E1.trans E2).trans E3, ?_⟩
  have := VRel.ref (μ := μ.lay H1.length ({ w with drawn := w.drawn + 1 } : World).heap.size) (S := S) (w := ({ w with drawn := w.drawn + 1 } : World).alloc (.cells (old.toArray ++ new.toArray ++ rest.toArray) e)) H1.length s 0 zs.length cap w.heap.size 0
    (old.toArray ++ new.toArray ++ rest.toArray) e (0, 0) (Mu.lay_self _ _ _) (heap_alloc_new _) hcap (by rw [hsz]; simp)
  rw [hl] at this ⊢
  simpa using this
theorem app_sound (I : Inv μ S H w) {t u e e' : TypeId} {i : TypeInfo} {z : Value} (ht : P.underlying t = some (.slice e)) (hu : P.underlying u = some (.slice e')) (hi : P.info? e = some i) (hz : i.zero = some z) (hzs : z.cells.size = i.size)
    (hs0 : 0 < i.size) (hby : 0 < i.bytes) {fl : Bool} {va vb : V} {a b : Value} (ha : VRel μ S w va a) (hb : VRel μ S w vb b) {ys : List V} (hys : elems H vb = some ys) {v : V} {H' : Heap} (h : appendTo H i.size fl i.bytes va ys = some (v, H')) (ty : TypeId) :
    ∃ cv μ' w', (Builtin.append_ #[t, u] ty #[a, b]).run P w = .ok cv w' ∧ VRel μ' S w' v cv ∧ Inv μ' S H' w' ∧ Ext μ S H w μ' S H' w' := by
  have hse : szOf P e = some i.size := by simp [szOf, hi]
  unfold appendTo at h
  split at h
  · rename_i hemp
    have hys0 : ys = [] := by simpa using hemp
    subst hys0
    obtain ⟨ab, capb, rfl, -, hfirst⟩ := elems_sound (P := P) I hb hys (s := i.size) (by simp)
    obtain ⟨A, hA, hAr⟩ := hfirst 0 (Nat.le_refl _)
    have hA0 : A = #[] := by
      have := hAr.length
      simp at this
      simpa using this.symm
    subst hA0
    have hsl : ∃ a' n c, a = .slice a' n c ∧ n ≤ c ∧ v = va ∧ H' = H := by
      split at h <;> first
        | (simp only [Option.some.injEq, Prod.mk.injEq] at h
           obtain ⟨a', n, c, rfl, hle⟩ := slice_of ha trivial
           exact ⟨a', n, c, rfl, hle, h.1.symm, h.2.symm⟩)
        | cases h
    obtain ⟨a', n, c, rfl, hle, rfl, rfl⟩ := hsl
    refine ⟨_, μ, w, run_fits (new := #[]) (n := 0) ht hu hse rfl hA (by omega) (fun b _ => by simp [storeCells]) (fun _ => rfl), ?_, I, Ext.refl _ _ _ _⟩
    exact ha
  · rename_i hne
    split at h
    · rename_i hall
      have hok : ∀ y ∈ ys, okEl i.size fl y = true := fun y hy => List.all_eq_true.1 hall y hy
      have hsc : (ys.flatMap V.cells).all V.sc = true := by
        rw [List.all_eq_true]
        intro v hv
        rw [List.mem_flatMap] at hv
        obtain ⟨y, hy, hv⟩ := hv
        exact List.all_eq_true.1 (okEl_sc (hok y hy)) v hv
      have hpos : 0 < ys.length := by
        cases ys with
        | nil => simp at hne
        | cons => simp
      -- the source, behind the draw too
      have src : ∀ w0 : World, Inv μ S H w0 → VRel μ S w0 vb b → ∃ (A : Array Value), Builtin.lenOf b = pure ys.length ∧ (Builtin.firstCells i.size ys.length b).run P w0 = .ok A w0 ∧ VRels μ S w0 (ys.flatMap V.cells) A.toList := by
        intro w0 I0 hb0
        obtain ⟨ab, capb, rfl, -, hfirst⟩ := elems_sound (P := P) I0 hb0 hys (s := i.size) (fun y hy => okEl_len (hok y hy))
        obtain ⟨A, hA, hAr⟩ := hfirst ys.length (Nat.le_refl _)
        rw [List.take_length] at hAr
        exact ⟨A, rfl, hA, hAr⟩
      obtain ⟨A, hlb, hA, hAr⟩ := src w I hb
      obtain ⟨A', -, hA', hAr'⟩ := src { w with drawn := w.drawn + 1 } (I.drawn _) (hb.drawn _)
      split at h
      · split at h
        · rename_i hbd
          simp only [Option.some.injEq, Prod.mk.injEq] at h
          obtain ⟨rfl, rfl⟩ := h
          cases ha
          obtain ⟨newCap, rest, r1, r2, r3⟩ := run_grow (P := P) (w := w) (ty := ty) ht hu hi hz hzs hby (a := none) (len := 0) (cap := 0) (old := #[]) hlb (by simp [Builtin.firstCells]) hA' (by omega) (by rw [Nat.zero_add]; exact hbd.1)
          rw [Nat.zero_add] at r1 r2 r3
          obtain ⟨μ', g1, g2, g3⟩ := grown I (id0 := none) (old := []) (new := A'.toList) (rest := rest) (e := e) (cap := newCap) hok (by
            have : VRels μ S w (ys.flatMap V.cells) A'.toList := by
              have hAA : A = A' ∨ True := .inr trivial
              exact hAr'.imp (fun v x h => by simpa using h.drawn w.drawn)
            simpa using this) r1 r2 rfl
          refine ⟨_, μ', _, r3, ?_, ?_, ?_⟩
          · simpa using g3
          · simpa using g1
          · simpa using g2
        · cases h
      · rename_i id s' off len
        simp only [Option.bind_eq_bind, Option.bind_eq_some_iff] at h
        obtain ⟨⟨fl', xs⟩, hr, h⟩ := h
        dsimp only at h
        split at h
        · rename_i hcond
          obtain ⟨c1, c2, c3, c4, c5⟩ := hcond
          subst c1; subst c2
          simp only [Option.some.injEq, Prod.mk.injEq] at h
          obtain ⟨rfl, rfl⟩ := h
          have hid := rowAt_inv hr
          have hmine : ((xs.drop off).take len).length = len := by rw [List.length_take, List.length_drop]; omega
          have hel : elems H (.ref id i.size off len) = some ((xs.drop off).take len) := by
            simp only [elems, hr, Option.bind_eq_bind, Option.bind_some, if_pos c3]
          have tail : ∀ (a0 : Option Addr) (cap : Nat) (old : Array Value), a = .slice a0 len cap → cap < len + ys.length → (∀ z ∈ (xs.drop off).take len, okEl i.size fl z = true) →
              (Builtin.firstCells i.size len (.slice a0 len cap)).run P { w with drawn := w.drawn + 1 } = .ok old { w with drawn := w.drawn + 1 } → VRels μ S w (((xs.drop off).take len).flatMap V.cells) old.toList →
              ∃ cv μ' w', (Builtin.append_ #[t, u] ty #[a, b]).run P w = .ok cv w' ∧ VRel μ' S w' (.ref H.length i.size 0 (len + ys.length)) cv ∧ Inv μ' S (H.set id .dead ++ [.row i.size fl ((xs.drop off).take len ++ ys)]) w' ∧
                Ext μ S H w μ' S (H.set id .dead ++ [.row i.size fl ((xs.drop off).take len ++ ys)]) w' := by
            intro a0 cap old hae hcap hmok hold hor
            subst hae
            obtain ⟨newCap, rest, r1, r2, r3⟩ := run_grow (P := P) (w := w) (ty := ty) ht hu hi hz hzs hby hlb hold hA' hcap c4
            have hzl : ((xs.drop off).take len ++ ys).length = len + ys.length := by rw [List.length_append, hmine]
            obtain ⟨μ', g1, g2, g3⟩ := grown I (id0 := some id) (zs := (xs.drop off).take len ++ ys) (fl := fl) (s := i.size) (old := old.toList) (new := A'.toList) (rest := rest) (e := e) (cap := newCap)
              (fun z hz => by
                rcases List.mem_append.1 hz with h | h
                · exact hmok z h
                · exact hok z h)
              (by
                rw [List.flatMap_append]
                exact hor.append (hAr'.imp (fun v x h => by simpa using h.drawn w.drawn))) (by rw [hzl]; exact r1) (by rw [hzl]; exact r2) rfl
            rw [hzl] at g3
            refine ⟨_, μ', _, r3, ?_, ?_, ?_⟩
            · simpa using g3
            · simpa using g1
            · simpa using g2
          cases ha with
          | ref0 _ _ _ a0 =>
            refine tail a0 0 #[] rfl (by omega) (by simp) ?_ ?_
            · cases a0 <;> simp [Builtin.firstCells, loadCells, loadCellsFrom]
            · simp; exact .nil
          | ref _ _ _ _ cap b0 o c e0 fz k1 k2 k3 k4 =>
            obtain ⟨c', e1, g1, g2, g3, g4⟩ := row_get (I.obj id _ b0 o hid rfl k1)
            have hxl : ∀ x ∈ xs, x.cells.length = i.size := fun x hx => okEl_len (g2 x hx)
            have hmok : ∀ z ∈ (xs.drop off).take len, okEl i.size fl z = true := fun z hz => g2 z (List.mem_of_mem_drop (List.mem_of_mem_take hz))
            by_cases hcap : len + ys.length ≤ cap
            · have hcc : c = c' := by rw [g1] at k2; injection k2 with k2; injection k2 with k2; exact k2.symm
              subst hcc
              have htl : (xs.take (off + len)).length = off + len := by rw [List.length_take]; omega
              have hfA := flatMap_len (xs.take (off + len)) (s := i.size) (fun x hx => hxl x (List.mem_of_mem_take hx))
              rw [htl] at hfA
              have hfx := flatMap_len xs hxl
              have hAl := hAr.length
              have hfy := flatMap_len ys (s := i.size) (fun y hy => okEl_len (hok y hy))
              have hroom : o + (off + len) * i.size + ys.length * i.size ≤ c.size := by
                have : (off + len) * i.size + ys.length * i.size ≤ (off + cap) * i.size := by
                  rw [← Nat.add_mul]
                  exact Nat.mul_le_mul_right _ (by omega)
                omega
              obtain ⟨w1, s1, s2, s3⟩ := row_seg (P := P) I (xs' := xs.take (off + len) ++ ys) (k := (off + len) * i.size) hid k1 g1 g3 hAr hsc
                (fun x hx => by
                  rcases List.mem_append.1 hx with h | h
                  · exact g2 x (List.mem_of_mem_take h)
                  · exact hok x h)
                (by rw [← hAl, hfy]; exact hroom)
                (by rw [List.length_append, htl, Nat.add_mul]; omega)
                (fun j v hj => by
                  rw [List.flatMap_append] at hj
                  by_cases hjl : j < (off + len) * i.size
                  · rw [List.getElem?_append_left (by omega)] at hj
                    exact .inr ⟨.inl hjl, flatMap_take_get _ _ _ _ hj⟩
                  · rw [List.getElem?_append_right (by omega), hfA] at hj
                    exact .inl ⟨by omega, hj⟩)
              have hsplit : xs.take (off + len) ++ ys = xs.take off ++ ((xs.drop off).take len ++ ys) := by
                rw [← List.append_assoc, ← List.take_add]
              rw [hsplit] at s2 s3
              have hlt : id < H.length := (List.getElem?_eq_some_iff.1 hid).1
              obtain ⟨μ', m1, m2, m3⟩ := s2.rename (id := id) (A := xs.take off) (B := (xs.drop off).take len ++ ys) (b := b0) (o := o) (by rw [List.getElem?_set_self hlt]) k1
              have hse1 : (H.set id (.row i.size fl (xs.take off ++ ((xs.drop off).take len ++ ys)))).set id .dead = H.set id .dead := by simp
              rw [hse1] at m1 m2
              have hoff : (xs.take off).length = off := by rw [List.length_take]; omega
              rw [hoff] at m3
              simp only [List.length_set] at m3
              obtain ⟨c2, fz2, d1, d2⟩ := s3.shape b0 c e1 (0, 0) g1
              refine ⟨_, μ', w1, run_fits (P := P) ht hu hse hlb hA hcap (fun b' hb' => ?_) (fun h => by cases h), ?_, m1, s3.trans m2⟩
              · injection hb' with hb'
                subst hb'
                rw [fad_ok _ (len * i.size) b0 (o + off * i.size) rfl, show o + off * i.size + len * i.size = o + (off + len) * i.size by rw [Nat.add_mul]; omega]
                exact s1
              · have := VRel.ref (μ := μ') (S := S) (w := w1) H.length i.size 0 (len + ys.length) cap b0 (o + off * i.size) c2 e1 fz2 m3 d1 hcap (by
                  rw [d2, Nat.zero_add]
                  rw [Nat.add_mul] at k4
                  omega)
                simpa using this
            · obtain ⟨ab, capb, he, -, hfirst⟩ := elems_sound (P := P) (I.drawn (w.drawn + 1)) ((VRel.ref (μ := μ) (S := S) (w := w) id i.size off len cap b0 o c e0 fz k1 k2 k3 k4).drawn (w.drawn + 1)) hel (s := i.size) (fun y hy => okEl_len (hmok y hy))
              obtain ⟨B, hB, hBr⟩ := hfirst ((xs.drop off).take len).length (Nat.le_refl _)
              rw [List.take_length] at hBr
              rw [hmine] at hB
              exact tail _ cap B rfl (by omega) hmok hB (hBr.imp (fun v x h => by simpa using h.drawn w.drawn))
        · cases h
      · cases h
    · cases h
end
end Go.AM

/- All operations that write, but the calls. -/
set_option linter.unusedVariables false
set_option linter.unusedSimpArgs false
namespace Go.AM
open Go.RowKit
section
variable {P : Program} {μ : Mu} {S : Nat → Prop} {H : Heap} {w : World}

theorem set_self_of {i : Nat} {x : O} (h : H[i]? = some x) : H.set i x = H := by
  apply List.ext_getElem?
  intro j
  by_cases e : j = i
  · subst e
    rw [List.getElem?_set_self (List.getElem?_eq_some_iff.1 h).1, h]
  · rw [List.getElem?_set_ne (Ne.symm e)]
/-- Elements of an object are written: as many as there were. -/
theorem span_sound (I : Inv μ S H w) {id s off len : Nat} {fl : Bool} {xs ns : List V} {a : Value} (ha : VRel μ S w (.ref id s off len) a) (hid : H[id]? = some (.row s fl xs)) (hle : off + len ≤ xs.length) (hn : ns.length ≤ len)
    (hok : ∀ z ∈ ns, okEl s fl z = true) {vs : List Value} (hv : VRels μ S w (ns.flatMap V.cells) vs) :
    ∃ (b : Option Addr) (c : Nat), a = .slice b len c ∧ ∃ w', (∀ b', b = some b' → (storeCells b' vs).run P w = .ok () w') ∧ (b = none → w' = w) ∧ Inv μ S (H.set id (.row s fl (xs.take off ++ ns ++ xs.drop (off + ns.length)))) w' ∧
      Ext μ S H w μ S (H.set id (.row s fl (xs.take off ++ ns ++ xs.drop (off + ns.length)))) w' := by
  cases ha with
  | ref0 _ _ _ a0 =>
    have hns : ns = [] := List.length_eq_zero_iff.1 (by omega)
    subst hns
    have hvs : vs = [] := by have := hv.length; simpa using this.symm
    subst hvs
    refine ⟨a0, 0, rfl, w, fun b' _ => by simp [storeCells], fun _ => rfl, ?_⟩
    simp only [List.append_nil, List.length_nil, Nat.add_zero, List.take_append_drop]
    rw [set_self_of hid]
    exact ⟨I, Ext.refl _ _ _ _⟩
  | ref _ _ _ _ cap b o c e fz k1 k2 k3 k4 =>
    obtain ⟨c', e1, g1, g2, g3, g4⟩ := row_get (I.obj id _ b o hid rfl k1)
    have hxl : ∀ x ∈ xs, x.cells.length = s := fun x hx => okEl_len (g2 x hx)
    have hnl : ∀ x ∈ ns, x.cells.length = s := fun x hx => okEl_len (hok x hx)
    have hfx := flatMap_len xs hxl
    have hfn := flatMap_len ns hnl
    have hvl := hv.length
    have htl : (xs.take off).length = off := by rw [List.length_take]; omega
    have hfA := flatMap_len (xs.take off) (s := s) (fun x hx => hxl x (List.mem_of_mem_take hx))
    rw [htl] at hfA
    have hsum : off * s + ns.length * s ≤ xs.length * s := by
      rw [← Nat.add_mul]
      exact Nat.mul_le_mul_right _ (by omega)
    have hsc : (ns.flatMap V.cells).all V.sc = true := by
      rw [List.all_eq_true]
      intro v hv
      rw [List.mem_flatMap] at hv
      obtain ⟨y, hy, hv⟩ := hv
      exact List.all_eq_true.1 (okEl_sc (hok y hy)) v hv
    obtain ⟨w1, s1, s2, s3⟩ := row_seg (P := P) I (xs' := xs.take off ++ ns ++ xs.drop (off + ns.length)) (k := off * s) hid k1 g1 g3 hv hsc
      (fun x hx => by
        rcases List.mem_append.1 hx with h | h
        · rcases List.mem_append.1 h with h | h
          · exact g2 x (List.mem_of_mem_take h)
          · exact hok x h
        · exact g2 x (List.mem_of_mem_drop h))
      (by rw [← hvl, hfn]; omega)
      (by
        have : (xs.take off ++ ns ++ xs.drop (off + ns.length)).length = xs.length := by
          simp only [List.length_append, List.length_take, List.length_drop]
          omega
        rw [this]; exact g4)
      (fun j v hj => by
        rw [List.flatMap_append, List.flatMap_append] at hj
        by_cases h1 : j < off * s
        · rw [List.append_assoc, List.getElem?_append_left (by omega)] at hj
          exact .inr ⟨.inl h1, flatMap_take_get _ _ _ _ hj⟩
        · by_cases h2 : j < off * s + ns.length * s
          · rw [List.append_assoc, List.getElem?_append_right (by omega), List.getElem?_append_left (by omega), hfA] at hj
            exact .inl ⟨by omega, hj⟩
          · rw [List.getElem?_append_right (by rw [List.length_append]; omega), List.length_append, hfA, hfn, flatMap_drop xs _ hxl, List.getElem?_drop] at hj
            refine .inr ⟨.inr (by omega), ?_⟩
            rwa [show (off + ns.length) * s + (j - (off * s + ns.length * s)) = j by rw [Nat.add_mul]; omega] at hj)
    exact ⟨_, cap, rfl, w1, fun b' hb => by injection hb with hb; subst hb; exact s1, fun h => by (cases h), s2, s3⟩
theorem copy_sound (I : Inv μ S H w) {t u e : TypeId} {s : Nat} (ht : P.underlying t = some (.slice e)) (hs : szOf P e = some s) {id off len : Nat} {fl : Bool} {xs ys : List V} {vb : V} {a b : Value} (ha : VRel μ S w (.ref id s off len) a) (hb : VRel μ S w vb b)
    (hid : H[id]? = some (.row s fl xs)) (hle : off + len ≤ xs.length) (hys : elems H vb = some ys) (hok : ∀ z ∈ ys, okEl s fl z = true) (ty : TypeId) :
    ∃ w', (Builtin.copy_ #[t, u] ty #[a, b]).run P w = .ok (.int .i64 (Nat.min ys.length len : Nat)) w' ∧
      Inv μ S (H.set id (.row s fl (xs.take off ++ ys.take (Nat.min ys.length len) ++ xs.drop (off + Nat.min ys.length len)))) w' ∧
      Ext μ S H w μ S (H.set id (.row s fl (xs.take off ++ ys.take (Nat.min ys.length len) ++ xs.drop (off + Nat.min ys.length len)))) w' := by
  obtain ⟨ab, capb, rfl, -, hfirst⟩ := elems_sound (P := P) I hb hys (s := s) (fun y hy => okEl_len (hok y hy))
  obtain ⟨A, hA, hAr⟩ := hfirst (Nat.min ys.length len) (Nat.min_le_left _ _)
  have hnl : (ys.take (Nat.min ys.length len)).length = Nat.min ys.length len := by rw [List.length_take]; exact Nat.min_eq_left (Nat.min_le_left _ _)
  obtain ⟨a0, c, rfl, w', h1, h2, h3, h4⟩ := span_sound (P := P) I ha hid hle (by rw [hnl]; exact Nat.min_le_right _ _) (fun z hz => hok z (List.mem_of_mem_take hz)) hAr
  rw [hnl] at h3 h4
  refine ⟨w', ?_, h3, h4⟩
  simp only [Builtin.copy_, List.getElem?_toArray, List.getElem?_cons_zero, List.getElem?_cons_succ, Sem.run_bind, run_und ht, Result.andThen_ok, Builtin.lenOf, Sem.run_pure, run_szOf hs, hA]
  cases a0 with
  | none => simp only [Sem.run_pure, goInt]; rw [h2 rfl]
  | some b0 => simp only [Sem.run_bind, h1 b0 rfl, Result.andThen_ok, Sem.run_pure, goInt]
theorem clear_sound (I : Inv μ S H w) {t e : TypeId} {s : Nat} (ht : P.underlying t = some (.slice e)) (hs : szOf P e = some s) {z : V} (hz : zeroOf P e = some z) {id off len : Nat} {fl : Bool} {xs : List V} {a : Value} (ha : VRel μ S w (.ref id s off len) a)
    (hid : H[id]? = some (.row s fl xs)) (hle : off + len ≤ xs.length) (hok : okEl s fl z = true) (hs0 : 0 < s) (ty : TypeId) :
    ∃ w', (Builtin.clear_ #[t] ty #[a]).run P w = .ok (.tuple #[]) w' ∧ Inv μ S (H.set id (.row s fl (xs.take off ++ List.replicate len z ++ xs.drop (off + len)))) w' ∧
      Ext μ S H w μ S (H.set id (.row s fl (xs.take off ++ List.replicate len z ++ xs.drop (off + len)))) w' := by
  obtain ⟨cz, hzr, habs, -⟩ := zeroOf_run hz w
  have hzc := (absv_rel (μ := μ) (S := S) (w := w) habs).cells (okEl_sc hok)
  have hzl := hzc.length
  rw [okEl_len hok] at hzl
  have hzs : cz.cells.size = s := by simpa using hzl.symm
  have hZ : VRels μ S w ((List.replicate len z).flatMap V.cells) (Builtin.zeroCells cz.cells len).toList := by
    have := zeros_rel (n := len) hs0 (okEl_len hok) hzc
    unfold Builtin.zeroCells
    rw [← hzs] at this
    exact this
  obtain ⟨a0, c, rfl, w', h1, h2, h3, h4⟩ := span_sound (P := P) I ha hid hle (ns := List.replicate len z) (by simp) (fun x hx => by rw [(List.mem_replicate.1 hx).2]; exact hok) hZ
  simp only [List.length_replicate] at h3 h4
  by_cases hl0 : len = 0
  · subst hl0
    have hw' : w' = w := by
      cases a0 with
      | none => exact h2 rfl
      | some b0 =>
        have := h1 b0 rfl
        simp [Builtin.zeroCells, storeCells] at this
        exact this.symm
    subst hw'
    refine ⟨w', ?_, h3, h4⟩
    cases a0 <;> simp [Builtin.clear_, run_und ht]
  · refine ⟨w', ?_, h3, h4⟩
    cases a0 with
    | none =>
      cases ha with
      | ref0 => exact absurd rfl hl0
    | some b0 =>
      obtain ⟨m, rfl⟩ : ∃ m, len = m + 1 := ⟨len - 1, by omega⟩
      simp only [Builtin.clear_, List.getElem?_toArray, List.getElem?_cons_zero, Sem.run_bind, run_und ht, Result.andThen_ok, hzr, h1 b0 rfl, Sem.run_pure]
theorem mput_some : ∀ (es : List (V × V)) (x v : V) (i j : Nat) (u : V), mfind es x i = some (j, u) → ∃ q, j = i + q ∧ q < es.length ∧ (∃ p, es[q]? = some (x, p)) ∧ mput es x v = es.set q (x, v)
  | [], x, v, i, j, u, h => by simp [mfind] at h
  | (k, p) :: r, x, v, i, j, u, h => by
    simp only [mfind] at h
    simp only [mput]
    by_cases hk : k = x
    · rw [if_pos hk]
      rw [if_pos hk.symm] at h
      simp only [Option.some.injEq, Prod.mk.injEq] at h
      refine ⟨0, by omega, by simp, ⟨p, by simp [hk]⟩, by simp [hk]⟩
    · rw [if_neg hk]
      rw [if_neg (Ne.symm hk)] at h
      obtain ⟨q, h1, h2, ⟨p', h3⟩, h4⟩ := mput_some r x v (i + 1) j u h
      exact ⟨q + 1, by omega, by simpa using h2, ⟨p', by simpa using h3⟩, by simp [h4]⟩
theorem mput_none : ∀ (es : List (V × V)) (x v : V) (i : Nat), mfind es x i = none → mput es x v = es ++ [(x, v)]
  | [], x, v, i, h => rfl
  | (k, p) :: r, x, v, i, h => by
    simp only [mfind] at h
    simp only [mput]
    by_cases hk : k = x
    · rw [if_pos hk.symm] at h; cases h
    · rw [if_neg hk]
      rw [if_neg (Ne.symm hk)] at h
      rw [mput_none r x v (i + 1) h]
      rfl
theorem VRels.set {vs : List V} {xs : List Value} (h : VRels μ S w vs xs) {v : V} {x : Value} (hv : VRel μ S w v x) : ∀ i, VRels μ S w (vs.set i v) (xs.set i x) := by
  induction h with
  | nil => intro i; simp; exact .nil
  | cons h k ih =>
    intro i
    cases i with
    | zero => exact .cons hv k
    | succ i => exact .cons h (ih i)
theorem sameBits_sk {k : SK} {a : V} (h : k.conf a = true) {x : Value} (hx : VRel μ S w a x) (n : Nat) : Instr.sameBits n x x = true := by
  cases k <;> cases a <;> simp only [SK.conf, Bool.false_eq_true] at h
  · rw [hx.int_inv]; simp [Instr.sameBits]
  · rw [hx.bool_inv]; simp [Instr.sameBits]
  · obtain ⟨p, rfl, rfl⟩ := hx.str_inv
    unfold Instr.sameBits
    rw [beq_toListBytes]
    simp
theorem sameBits_ks {ks : List SK} {as : List V} (h : confs ks as = true) {xs : List Value} (hx : VRels μ S w as xs) (n : Nat) : ((xs.zip xs).all fun (x, y) => Instr.sameBits n x y) = true := by
  induction hx generalizing ks with
  | nil => rfl
  | cons r _ ih =>
    cases ks with
    | nil => simp [confs] at h
    | cons k ks =>
      simp only [confs, Bool.and_eq_true] at h
      simp only [List.zip_cons_cons, List.all_cons, Bool.and_eq_true]
      exact ⟨sameBits_sk h.1 r n, ih h.2⟩
theorem sameBits_kt {kt : KT} {a : V} (h : kt.conf a = true) {x : Value} (hx : VRel μ S w a x) (n : Nat) : Instr.sameBits (n + 1) x x = true := by
  cases kt with
  | one k => exact sameBits_sk h hx _
  | many ks =>
    cases a <;> simp only [KT.conf, Bool.false_eq_true] at h
    obtain ⟨xs, rfl, rx, -⟩ := hx.agg_inv
    have := sameBits_ks h rx n
    simp only [Instr.sameBits, beq_self_eq_true, Bool.true_and]
    exact this
theorem mup_sound (I : Inv μ S H w) {t kt et : TypeId} {k : KT} (hu : P.underlying t = some (.map kt et)) (hk : ktOf P kt = some k) {id : Nat} {es : List (V × V)} (hid : H[id]? = some (.map k es)) {vk vx : V} {m y x : Value} (hm : VRel μ S w (.map id) m)
    (hy : VRel μ S w vk y) (hx : VRel μ S w vx x) (hcf : k.conf vk = true) (hfl : vx.flat1 = true) :
    ∃ w', (Instr.mapUpdate t m y x).run P w = .ok () w' ∧ Inv μ S (H.set id (.map k (mput es vk vx))) w' ∧ Ext μ S H w μ S (H.set id (.map k (mput es vk vx))) w' := by
  cases hm with
  | map _ b hm =>
    obtain ⟨-, clock, ents, g1, g2, g3, g4, g5⟩ := map_inv (I.obj id _ b 0 hid rfl hm)
    have hgo : (getObj b).run P w = .ok (.map ents clock) w := by simp [getObj, Sem.run, g1]
    have hso : ∀ o, (setObj b o).run P w = .ok () { w with heap := w.heap.setIfInBounds b o } := fun o => by simp [setObj, Sem.run, g1]
    have hck : (Instr.checkKey false 10000 kt y).run P w = .ok () w := chk_kt hk hcf hy false 9998 w
    have hb := heap_lt g1
    have fin : ∀ (ents' : Array MapEntry) (clock' : Nat), VRels μ S w ((mput es vk vx).map (·.1)) (ents'.toList.map (·.key)) → VRels μ S w ((mput es vk vx).map (·.2)) (ents'.toList.map (·.val)) →
        (∀ e ∈ mput es vk vx, e.2.flat1 = true) → (∀ e ∈ mput es vk vx, k.conf e.1 = true) →
        Inv μ S (H.set id (.map k (mput es vk vx))) { w with heap := w.heap.setIfInBounds b (.map ents' clock') } ∧ Ext μ S H w μ S (H.set id (.map k (mput es vk vx))) { w with heap := w.heap.setIfInBounds b (.map ents' clock') } := by
      intro ents' clock' r1 r2 r3 r4
      refine I.put hid rfl rfl hm (by simp) rfl rfl rfl (fun j hj => by simp [Array.getElem?_setIfInBounds_ne (Ne.symm hj)]) (fun c e fz h => by rw [g1] at h; cases h) (fun mono => ?_)
      exact .map k _ b clock' ents' (by simp [hb]) (r1.imp mono) (r2.imp mono) r3 r4
    obtain ⟨f, hf, hfm⟩ := findKey_sound hk hcf hy w g2 g3 g5
    split at hfm
    · rename_i j u hmf
      obtain ⟨cv, rfl, rv⟩ := hfm
      obtain ⟨q, q1, q2, ⟨p, q3⟩, q4⟩ := mput_some es vk vx 0 j u hmf
      have hjq : j = q := by omega
      subst hjq
      have hl := g2.length
      simp only [List.length_map] at hl
      have hje : j < ents.size := by
        have h2 : es.length = ents.size := by simpa using hl
        omega
      have hkey : ((ents[j]?).map (·.key)).getD y = y := by
        obtain ⟨kx, h1, h2⟩ := g2.get? j vk (by simp [q3])
        rw [List.getElem?_map, Array.getElem?_toList, Option.map_eq_some_iff] at h1
        obtain ⟨e, h3, h4⟩ := h1
        rw [h3]
        simp only [Option.map_some, Option.getD_some, h4]
        exact conf_det hcf h2 hy
      have hkts : (Instr.keyThatStays y y).run P w = .ok y w := by
        unfold Instr.keyThatStays
        have := sameBits_kt hcf hy 9999
        rw [if_pos this]
        rfl
      refine ⟨_, ?_, fin (ents.modify j fun e => { e with key := y, val := x }) clock ?_ ?_ ?_ ?_⟩
      · simp only [Instr.mapUpdate, Sem.run_bind, run_und hu, Result.andThen_ok, hgo]
        rw [hck, Result.andThen_ok, hf, Result.andThen_ok]
        simp only [Sem.run_bind]
        rw [hkey, hkts, Result.andThen_ok]
        exact hso _
      · have e1 : (mput es vk vx).map (·.1) = (es.map (·.1)).set j vk := by rw [q4, List.map_set]
        have e2 : (ents.modify j fun e => { e with key := y, val := x }).toList.map (·.key) = (ents.toList.map (·.key)).set j y := by
          apply List.ext_getElem?
          intro i
          simp only [List.getElem?_map, Array.getElem?_toList, Array.getElem?_modify, List.getElem?_set, List.length_map, Array.length_toList]
          by_cases hij : j = i
          · subst hij; simp [hje]
          · simp [hij]
        rw [e1, e2]
        exact g2.set hy j
      · have e1 : (mput es vk vx).map (·.2) = (es.map (·.2)).set j vx := by rw [q4, List.map_set]
        have e2 : (ents.modify j fun e => { e with key := y, val := x }).toList.map (·.val) = (ents.toList.map (·.val)).set j x := by
          apply List.ext_getElem?
          intro i
          simp only [List.getElem?_map, Array.getElem?_toList, Array.getElem?_modify, List.getElem?_set, List.length_map, Array.length_toList]
          by_cases hij : j = i
          · subst hij; simp [hje]
          · simp [hij]
        rw [e1, e2]
        exact g3.set hx j
      · intro e he
        rw [q4] at he
        rcases List.mem_or_eq_of_mem_set he with h | h
        · exact g4 e h
        · subst h; exact hfl
      · intro e he
        rw [q4] at he
        rcases List.mem_or_eq_of_mem_set he with h | h
        · exact g5 e h
        · subst h; exact hcf
    · rename_i hmf
      subst hfm
      have q4 := mput_none es vk vx 0 hmf
      refine ⟨_, ?_, fin (ents.push { key := y, val := x, born := clock }) (clock + 1) ?_ ?_ ?_ ?_⟩
      · simp only [Instr.mapUpdate, Sem.run_bind, run_und hu, Result.andThen_ok, hgo]
        rw [hck, Result.andThen_ok, hf, Result.andThen_ok]
        exact hso _
      · rw [q4]
        simpa using g2.append (.cons hy .nil)
      · rw [q4]
        simpa using g3.append (.cons hx .nil)
      · intro e he
        rw [q4] at he
        rcases List.mem_append.1 he with h | h
        · exact g4 e h
        · simp at h; subst h; exact hfl
      · intro e he
        rw [q4] at he
        rcases List.mem_append.1 he with h | h
        · exact g5 e h
        · simp at h; subst h; exact hcf
/-- A block that nothing writes any more. -/
theorem Inv.addS (I : Inv μ S H w) (o : Obj) : Inv μ (fun b => S b ∨ b = w.heap.size) H (w.alloc o) ∧ Ext μ S H w μ (fun b => S b ∨ b = w.heap.size) H (w.alloc o) := by
  have mono : ∀ v x, VRel μ S w v x → VRel μ (fun b => S b ∨ b = w.heap.size) (w.alloc o) v x := fun v x h => h.mono (fun _ _ h => h) (fun _ h => .inl h) (fun b hb => heap_alloc_lt o (I.sdom b hb))
    (fun b c _ _ h => ⟨c, _, (heap_alloc_lt o (heap_lt h)).trans h, rfl⟩)
  refine ⟨⟨fun i b o' h => by have := I.dom i b o' h; exact ⟨this.1, by simp; omega⟩, fun b hb => ?_, fun i x b o' hx hl hm => (I.obj i x b o' hx hl hm).imp mono (heap_alloc_lt o (I.dom i b o' hm).2), I.inj, fun i x b o' hx hl hm hb => ?_, I.laid.imp (fun _ h => .inl h) fun b hb => heap_alloc_lt o (I.sdom b hb)⟩,
    ⟨fun _ _ h => h, fun _ h => .inl h, fun b h => h.imp id fun e => by omega, Nat.le_refl _, rfl, rfl, rfl, by simp, fun b hb _ => heap_alloc_lt o hb, fun b c _ _ h => ⟨c, _, (heap_alloc_lt o (heap_lt h)).trans h, rfl⟩, fun _ _ h => h, fun _ _ h h' => by rw [h] at h'; cases h'⟩⟩
  · rcases hb with hb | hb
    · have := I.sdom b hb; simp; omega
    · subst hb; simp
  · rcases hb with hb | hb
    · exact I.sep i x b o' hx hl hm hb
    · have := (I.dom i b o' hm).2; omega
theorem s2b_sound (I : Inv μ S H w) {src dst e : TypeId} (hs : P.underlying src = some .string) (hd : P.underlying dst = some (.slice e)) (he : P.underlying e = some (.int .u8)) (s : ByteArray) :
    ∃ cv S' w', (convert src dst (.string s)).run P w = .ok cv w' ∧ VRel μ S' w' (.lst (s.data.toList.map fun c => .int .u8 c.toNat)) cv ∧ Inv μ S' H w' ∧ Ext μ S H w μ S' H w' := by
  have hrun := run_bytes_of_string (P := P) w src dst e s hs hd he
  have I1 := I.drawn (w.drawn + 1)
  have E1 := Ext.drawn μ S H w (w.drawn + 1)
  obtain ⟨I2, E2⟩ := I1.addS (.cells (bytesRow s (grownCap w s.size 0 e)) e ((bytesRow s (grownCap w s.size 0 e)).size, (bytesRow s (grownCap w s.size 0 e)).size + 1))
  refine ⟨_, _, _, hrun, ?_, I2, E1.trans E2⟩
  have hcap : s.size ≤ grownCap w s.size 0 e := by
    unfold grownCap
    simp [Question.cut]
  have hl : (s.data.toList.map fun (c : UInt8) => V.int .u8 c.toNat).length = s.size := by rw [List.length_map, size_data]
  have hc1 : ∀ x ∈ (s.data.toList.map fun (c : UInt8) => V.int .u8 c.toNat), x.cells.length = 1 := by
    intro x hx
    obtain ⟨c, -, rfl⟩ := List.mem_map.1 hx
    rfl
  have hfm : (s.data.toList.map fun (c : UInt8) => V.int .u8 c.toNat).flatMap V.cells = s.data.toList.map fun (c : UInt8) => V.int .u8 c.toNat := by
    rw [List.flatMap_map]
    simp only [V.cells]
    induction s.data.toList with
    | nil => rfl
    | cons a r ih => simp [ih]
  have := VRel.lst (μ := μ) (S := fun b => S b ∨ b = ({ w with drawn := w.drawn + 1 } : World).heap.size) (w := ({ w with drawn := w.drawn + 1 } : World).alloc (.cells (bytesRow s (grownCap w s.size 0 e)) e ((bytesRow s (grownCap w s.size 0 e)).size, (bytesRow s (grownCap w s.size 0 e)).size + 1)))
    (s.data.toList.map fun (c : UInt8) => V.int .u8 c.toNat) 1 w.heap.size 0 (grownCap w s.size 0 e) (bytesRow s (grownCap w s.size 0 e)) e _ (fun j => .int .u8 (s.data.toList.getD j 0).toNat) (.inr rfl) (heap_alloc_new _) (by rw [hl]; exact hcap) hc1
    (fun j v hj => by
      rw [hfm] at hj
      obtain ⟨c, h1, h2⟩ := by simpa using hj
      subst h2
      refine ⟨rfl, ?_⟩
      have hlt : j < s.data.size := (Array.getElem?_eq_some_iff.1 h1).1
      simp only [bytesRow, Nat.zero_add]
      rw [Array.getElem?_append_left (by simpa using hlt)]
      simp [h1])
    (fun j v hj => by
      rw [hfm] at hj
      obtain ⟨c, h1, h2⟩ := by simpa using hj
      subst h2
      have : s.data.toList.getD j 0 = c := by simp [h1]
      rw [this]
      exact .int _ _)
  rw [hl] at this
  exact this
end
end Go.AM

