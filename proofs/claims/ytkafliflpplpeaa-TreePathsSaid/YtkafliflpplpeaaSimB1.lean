/- A small machine on plain values ('S'), into which the functions of the program are put over ('Comp'), and whose runs are followed by runs of the program ('Sound'). This file: values, operations, code, runs. Runs of the small machine: code, calls with a bound on depth and rounds ('callN'), and the same without a bound ('Call', 'Run'), with their equations. When a value, a frame, a memory of the small machine stands for one of the program's: 'VD' (data), 'VR' (values), 'FR' (a frame's slots), 'HR' (memory), 'Ext' (what a step may turn). The functions of the program put over into the small machine's code: 'comp'. Each operation of the small machine is followed by the program's own: the operations that touch no memory. Each operation of the small machine is followed by the program's own: arithmetic, comparisons, values put together and taken apart. Each operation of the small machine is followed by the program's own: operations that read and write no memory of the machine's. Each operation of the small machine is followed by the program's own: indices, lengths, slice expressions, function values. Each operation of the small machine is followed by the program's own: slice expressions, composite values, slice literals. Each operation of the small machine is followed by the program's own: loads and stores. Each operation of the small machine is followed by the program's own: stores, new variables, 'make'. Each operation of the small machine is followed by the program's own: new vari No conditions. -/
import GoSem.Core.View
import GoSem.Core.Ast
import Derived.Calls
import Derived.Orders
import Derived.Laws.World
import Derived.Laws.AppendOwn
import Derived.Laws.MakeOwn
import Derived.Laws.Cells
import GoSem.Dispatch
import Derived.Laws.StructEq
import Derived.Laws.Slices
import Derived.Laws.Shifts
import Derived.Laws.CopyRow
import Derived.Laws.Tables
import Derived.Laws.Append
import Derived.ChangeKeysEq
import Derived.Laws.BytesArg
import Derived.Lib.ConvBytes
namespace Go.Proofs.Ytkafliflpplpeaa.Sim
set_option linter.unusedSimpArgs false
set_option linter.unusedVariables false
open Go

/-- A value of the small machine. 'list': a slice that nobody writes any more, with what it holds; 'own': a slice over a block of the machine's own; 'ptr': the address of a cell there; 'loc': of a variable of the frame; 'rptr': of a cell that nobody writes. -/
inductive S where
  | int (k : IntKind) (n : Int)
  | bool (b : Bool)
  | str (s : List UInt8)
  | list (full priv : Bool) (xs : List S)
  | own (l v off len : Nat)
  | ptr (l v row off : Nat)
  | loc (t off : Nat)
  | rptr (cs : List S) (off : Nat)
  | nilp
  | fn (f : Nat) (caps : List S)
  | nilf
  | map (l : Nat)
  | agg (cs : List S)
  | tup (vs : List S)
  | skip
  | any
  deriving Inhabited

def S.cells : S → List S
  | .agg cs => cs
  | x => [x]

/-- May the value be put into memory, handed on? -/
def S.okv : S → Bool
  | .loc _ _ | .skip | .any | .tup _ | .agg _ => false
  | _ => true

inductive Blk where
  | rows (fz : Bool) (esz : Nat) (xs : List S)
  | map (es : List (S × S))
  | dead
  deriving Inhabited

abbrev Fr := List (Nat × S)
abbrev Vars := List (Nat × Blk)
abbrev Hp := List Blk

def getF : Fr → Nat → S
  | [], _ => .any
  | (t, v) :: r, n => if n = t then v else getF r n

def getV : Vars → Nat → Option Blk
  | [], _ => none
  | (t, b) :: r, n => if n = t then some b else getV r n

def setV : Vars → Nat → Blk → Vars
  | [], n, b => [(n, b)]
  | (t, c) :: r, n, b => if n = t then (t, b) :: r else (t, c) :: setV r n b

structure St where
  fr : Fr
  vars : Vars
  hp : Hp

/-- A place of memory: a variable of the frame, a block of the heap. -/
inductive L where
  | v (t : Nat)
  | h (l : Nat)
  deriving DecidableEq

def St.blk (st : St) : L → Option Blk
  | .v t => getV st.vars t
  | .h l => st.hp[l]?

def St.wr (st : St) : L → Blk → St
  | .v t, b => { st with vars := setV st.vars t b }
  | .h l, b => { st with hp := if l = st.hp.length then st.hp ++ [b] else st.hp.set l b }

def St.wrs (st : St) : List (L × Blk) → St
  | [] => st
  | (l, b) :: r => (st.wr l b).wrs r

/-- Nobody holds the address of frame variable t any more. -/
def forget1 (t : Nat) : S → S
  | .loc u o => if u = t then .any else .loc u o
  | v => v

def forgetF (t : Nat) : Fr → Fr
  | [] => []
  | (u, v) :: r => (u, forget1 t v) :: forgetF t r

def forgetO : Option Nat → Fr → Fr
  | none, fr => fr
  | some t, fr => forgetF t fr

def St.put (st : St) : Option Nat → S → St
  | none, _ => st
  | some d, v => { st with fr := (d, v) :: st.fr }

/-! ### Operands and operations -/

inductive A where
  | t (n : Nat)
  | c (v : S)
  deriving Inhabited

def A.ev (fr : Fr) : A → S
  | .t n => getF fr n
  | .c v => v

def evs (fr : Fr) : List A → List S
  | [] => []
  | a :: r => a.ev fr :: evs fr r

def evo (fr : Fr) : Option A → Option S
  | none => none
  | some a => some (a.ev fr)

/-- What a cell holds that is compared. -/
inductive Sc where
  | i | b | s
  deriving DecidableEq, Inhabited

def eqSc : Sc → S → S → Option Bool
  | .i, .int k a, .int k' b => if k = k' then some (a == b) else none
  | .b, .bool a, .bool b => some (a == b)
  | .s, .str a, .str b => some (a == b)
  | _, _, _ => none

def eqK : List Sc → List S → List S → Option Bool
  | [], [], [] => some true
  | k :: ks, x :: xs, y :: ys =>
    match eqSc k x y, eqK ks xs ys with
    | some p, some q => some (p && q)
    | _, _ => none
  | _, _, _ => none

def eqV : Bool → List Sc → S → S → Option Bool
  | true, ks, .agg xs, .agg ys => eqK ks xs ys
  | false, ks, x, y => eqK ks [x] [y]
  | _, _, _, _ => none

/-- From this number on: the call of a function whose answer is given over. -/
def ownOff : Nat := 1000
def ownOf (f : Nat) : Option Nat := if ownOff ≤ f then some (f - ownOff) else none

inductive K where
  | move (a : A)
  | pick (c a b : A)
  | bin (op : BinOp) (a b : A)
  | eqv (neg agg : Bool) (ks : List Sc) (a b : A)
  | un (op : UnOp) (a : A)
  | conv (k : IntKind) (a : A)
  | alloc (fr : Option Nat) (esz : Nat) (init : List S)
  | box (fr : Option Nat) (esz n : Nat) (a : A)
  | build (zero : List S) (parts : List (Nat × Nat × A))
  | lit (esz : Nat) (zero : S) (n : Nat) (parts : List (Nat × A))
  | load (agg : Bool) (n : Nat) (a : A)
  | store (n : Nat) (a b : A)
  | nilchk (a : A)
  | mkfn (f : Nat) (caps : List A)
  | mksl (esz bytes : Nat) (zero : S) (l c : A)
  | slice (esz : Option Nat) (a : A) (lo hi : Option A)
  | aslice (n esz : Nat) (a : A) (lo hi : Option A)
  | faddr (off : Nat) (a : A)
  | field (agg : Bool) (off n : Nat) (a : A)
  | iaddr (esz : Nat) (a i : A)
  | aaddr (len esz : Nat) (a i : A)
  | index (agg : Bool) (len esz : Nat) (a i : A)
  | indexS (a i : A)
  | extract (a : A) (i : Nat)
  | len (str : Bool) (a : A)
  | lenc (n : Nat)
  | append (esz bytes : Nat) (a b : A)
  | mm (max : Bool) (a b : A)
  | mkmap
  | lookup (ok : Bool) (zero : S) (m k : A)
  | mapset (m k v : A)
  | b2s (a : A)
  | s2b (a : A)
  | call (f : Nat) (args : List A)
  | callo (f : Nat) (args : List A)
  | callv (f : A) (args : List A)
  deriving Inhabited

def binI (op : BinOp) (k : IntKind) (a b : Int) : Option S :=
  match op with
  | .add => some (.int k (k.wrap (a + b)))
  | .sub => some (.int k (k.wrap (a - b)))
  | .mul => some (.int k (k.wrap (a * b)))
  | .quo => if b = 0 then none else some (.int k (k.wrap (a.tdiv b)))
  | .rem => if b = 0 then none else some (.int k (a.tmod b))
  | .and => some (.int k (k.wrap ((BitVec.ofInt k.bits a &&& BitVec.ofInt k.bits b).toNat : Int)))
  | .or => some (.int k (k.wrap ((BitVec.ofInt k.bits a ||| BitVec.ofInt k.bits b).toNat : Int)))
  | .xor => some (.int k (k.wrap ((BitVec.ofInt k.bits a ^^^ BitVec.ofInt k.bits b).toNat : Int)))
  | .andNot => some (.int k (k.wrap ((BitVec.ofInt k.bits a &&& ~~~ BitVec.ofInt k.bits b).toNat : Int)))
  | .eql => some (.bool (a == b))
  | .neq => some (.bool (a != b))
  | .lss => some (.bool (decide (a < b)))
  | .leq => some (.bool (decide (a ≤ b)))
  | .gtr => some (.bool (decide (a > b)))
  | .geq => some (.bool (decide (a ≥ b)))
  | .shl | .shr => none

def bytesLess : List UInt8 → List UInt8 → Bool
  | _, [] => false
  | [], _ :: _ => true
  | a :: x, b :: y => a < b || (a == b && bytesLess x y)

def binT (op : BinOp) (a b : List UInt8) : Option S :=
  match op with
  | .add => if a.length + b.length ≤ 140737488351232 then some (.str (a ++ b)) else none
  | .eql => some (.bool (a == b))
  | .neq => some (.bool (!(a == b)))
  | .lss => some (.bool (bytesLess a b))
  | .leq => some (.bool (bytesLess a b || a == b))
  | .gtr => some (.bool (!(bytesLess a b || a == b)))
  | .geq => some (.bool (!bytesLess a b))
  | _ => none

def binS (op : BinOp) : S → S → Option S
  | .int k a, .int k' b =>
    match op with
    | .shl => if b < 0 then none else some (.int k (k.wrap (a * 2 ^ (min b.toNat k.bits))))
    | .shr => if b < 0 then none else some (.int k (a.fdiv (2 ^ (min b.toNat k.bits))))
    | op => if k = k' then binI op k a b else none
  | .str a, .str b => binT op a b
  | _, _ => none

def unS (op : UnOp) : S → Option S
  | .int k n =>
    match op with
    | .neg => some (.int k (k.wrap (0 - n)))
    | .xor => some (.int k (k.wrap ((BitVec.ofInt k.bits (if k.signed then -1 else k.max) ^^^ BitVec.ofInt k.bits n).toNat : Int)))
    | _ => none
  | .bool b => match op with | .not => some (.bool (!b)) | _ => none
  | _ => none

def eqS : S → S → Option Bool
  | .int k a, .int k' b => if k = k' then some (a == b) else none
  | .bool a, .bool b => some (a == b)
  | .str a, .str b => some (a == b)
  | _, _ => none

def eqL : List S → List S → Option Bool
  | [], [] => some true
  | a :: x, b :: y => match eqS a b, eqL x y with
    | some p, some q => some (p && q)
    | _, _ => none
  | _, _ => none

/-- One value out of cells. -/
def mk (agg : Bool) (cs : List S) : Option S :=
  if agg then some (.agg cs) else match cs with | [c] => some c | _ => none

/-- n cells of a block, from cell off of row 'row' on; whole rows where it is more than one row. -/
def cellsAt (esz : Nat) (xs : List S) (row off n : Nat) : Option (List S) :=
  if off + n ≤ esz then
    match xs[row]? with
    | some x => some ((x.cells.drop off).take n)
    | none => none
  else if off = 0 ∧ n = esz * xs.length ∧ row = 0 then some (xs.flatMap S.cells) else none

def splice (l : List S) (off : Nat) (cs : List S) : List S := l.take off ++ cs ++ l.drop (off + cs.length)

def reshape (x : S) (cs : List S) : S :=
  match x with
  | .agg _ => .agg cs
  | _ => match cs with | [c] => c | _ => .agg cs

/-- Rows anew out of cells. -/
def rechunk (esz : Nat) : List S → List S → List S
  | [], _ => []
  | x :: xs, cs => reshape x (cs.take esz) :: rechunk esz xs (cs.drop esz)

def storeAt (esz : Nat) (xs : List S) (row off : Nat) (cs : List S) : Option (List S) :=
  if off + cs.length ≤ esz then
    match xs[row]? with
    | some x => some (xs.set row (reshape x (splice x.cells off cs)))
    | none => none
  else if off = 0 ∧ cs.length = esz * xs.length ∧ row = 0 then some (rechunk esz xs cs) else none

def row1 (cs : List S) : S := match cs with | [c] => c | cs => .agg cs

def chunks (esz : Nat) : Nat → List S → List S
  | 0, _ => []
  | n + 1, cs => row1 (cs.take esz) :: chunks esz n (cs.drop esz)

def fillS (zero : List S) : List (Nat × Nat × S) → Option (List S)
  | [] => some zero
  | (off, n, v) :: r =>
    if v.cells.length = n ∧ off + n ≤ zero.length ∧ v.cells.all S.okv then fillS (splice zero off v.cells) r else none

/-- Plain data: nothing in it that refers to memory that is written. -/
def S.plain : S → Bool
  | .int _ _ | .bool _ | .str _ | .nilp | .nilf => true
  | .list _ _ _ => true
  | _ => false

def S.lit1 : S → Bool
  | .int _ _ | .bool _ | .str _ | .nilp | .nilf => true
  | .list _ p xs => p || xs.isEmpty
  | _ => false

def fillL (esz : Nat) (xs : List S) : List (Nat × S) → Option (List S)
  | [] => some xs
  | (i, v) :: r => if v.cells.length = esz ∧ i < xs.length ∧ v.cells.all S.lit1 then fillL esz (xs.set i v) r else none

def evp (fr : Fr) : List (Nat × Nat × A) → List (Nat × Nat × S)
  | [] => []
  | (o, n, a) :: r => (o, n, a.ev fr) :: evp fr r

def evq (fr : Fr) : List (Nat × A) → List (Nat × S)
  | [] => []
  | (i, a) :: r => (i, a.ev fr) :: evq fr r

/-! ### What a deep call is given, and what it gives back -/

def mapO (f : S → Option S) : List S → Option (List S)
  | [] => some []
  | x :: xs => match f x, mapO f xs with
    | some y, some ys => some (y :: ys)
    | _, _ => none

/-- May a deep call give it back? -/
def S.privs : S → Bool
  | .list _ p xs => p || xs.isEmpty
  | .int _ _ | .bool _ | .str _ | .nilp | .nilf => true
  | _ => false

def rowBy (g : S → Option S) : S → Option S
  | .agg cs => match mapO g cs with
    | some ys => some (.agg ys)
    | none => none
  | x => g x

/-- A cell as it is now, for good: own slices as lists, addresses as addresses of what nobody writes. p: to be given back. -/
def snapC (p : Bool) (hp : Hp) : Nat → S → Option S
  | 0, _ => none
  | n + 1, x =>
    match x with
    | .own l v off len =>
      match hp[l]? with
      | some (.rows _ _ xs) =>
        if v = xs.length ∧ off + len ≤ xs.length then
          match mapO (rowBy (snapC p hp n)) ((xs.drop off).take len) with
          | some ys => some (.list false p ys)
          | none => none
        else none
      | _ => none
    | .ptr l v row off =>
      if p then none else
      match hp[l]? with
      | some (.rows _ _ xs) =>
        if v = xs.length then
          match xs[row]? with
          | some x => match mapO (snapC p hp n) x.cells with
            | some ys => some (.rptr ys off)
            | none => none
          | none => none
        else none
      | _ => none
    | .rptr cs off => if p then none else some (.rptr cs off)
    | x => if x.plain then (if p then (if x.privs then some x else none) else some x) else none

def depth : Nat := 6

def snapA (hp : Hp) : S → Option S
  | .fn f cs => match mapO (snapC false hp depth) cs with
    | some ys => some (.fn f ys)
    | none => none
  | x => rowBy (snapC false hp depth) x

def snapR (hp : Hp) : S → Option S
  | .tup vs => match mapO (rowBy (snapC true hp depth)) vs with
    | some ys => some (.tup ys)
    | none => none
  | x => rowBy (snapC true hp depth) x

/-- The blocks that a value leads to. -/
def reach (hp : Hp) : Nat → S → List Nat
  | 0, _ => []
  | n + 1, x =>
    match x with
    | .own l _ _ _ | .ptr l _ _ _ =>
      l :: match hp[l]? with
        | some (.rows _ _ xs) => xs.flatMap fun x => x.cells.flatMap (reach hp n)
        | _ => []
    | .map l => [l]
    | .agg cs | .tup cs | .fn _ cs => cs.flatMap (reach hp n)
    | _ => []

def argRd (hp : Hp) : S → List Nat
  | .agg cs | .fn _ cs => cs.flatMap (reach hp depth)
  | x => reach hp depth x

abbrev CallF := Nat → List S → Hp → Option (S × Hp)

/-- A call that is handed data and gives back data; nothing else turns. -/
def deep (call : CallF) (f : Nat) (args : List S) (hp : Hp) : Option S :=
  match mapO (snapA hp) args with
  | none => none
  | some as =>
    match call f as [] with
    | none => none
    | some (r, hp') => snapR hp' r

/-- A cell that refers to nothing. -/
def S.scalar : S → Bool
  | .int _ _ | .bool _ | .str _ => true
  | _ => false

/-- What a callee gives over: a slice of its own, whole, of cells that refer to nothing; or what is private. -/
def ownR (hp : Hp) : S → Option S
  | .own l v off len =>
    match hp[l]? with
    | some (.rows true esz xs) => if v = xs.length ∧ off = 0 ∧ len = xs.length ∧ xs.all (fun x => x.cells.length == esz && x.cells.all S.scalar) then some (.tup [.int .i64 esz, .list false false xs]) else none
    | _ => none
  | .list f true [] => some (.list f true [])
  | .list f true (x :: xs) => some (.list f true (x :: xs))
  | _ => none

/-- A call whose answer is given over. -/
def deepO (call : CallF) (f : Nat) (args : List S) (hp : Hp) : Option S :=
  match mapO (snapA hp) args with
  | none => none
  | some as =>
    match call f as [] with
    | none => none
    | some (r, hp') => ownR hp' r

/-! ### Functions and runs -/

structure KO where
  dst : Option Nat
  op : K
  guard : Option (Nat × Bool) := none
  after : List Nat := []
  deriving Inhabited

inductive KC where
  | skip
  | region (ops : List KO)
  | dregion (ops : List KO)
  | seq (a b : KC)
  | cond (c : A) (x y : KC)
  | block (id : Nat) (keep : List Nat) (b : KC)
  | loop (keep : List Nat) (b : KC)
  | exit (id : Nat)
  | ret
  deriving Inhabited

inductive RV where
  | t (n : Nat)
  | cell (t : Nat) (agg : Bool) (n : Nat)
  deriving Inhabited

structure CFun where
  np : Nat
  deep : Bool
  res : List RV
  body : KC
  deriving Inhabited

inductive Fun where
  | code (c : CFun)
  | prim (s : List S → Option S)
  | iprim (s : List S → Hp → Option (S × Hp))

def Fun.isDeep : Fun → Bool
  | .code c => c.deep
  | .prim _ => true
  | .iprim _ => false

abbrev Env := Nat → Option Fun

inductive Ex where
  | norm
  | exit (id : Nat)
  | ret

def wantK (fr : Fr) : Option (Nat × Bool) → Option Bool
  | none => some true
  | some (t, want) =>
    match getF fr t with
    | .bool b => some (b == want)
    | .skip => some false
    | _ => none

abbrev R := S × List L × List (L × Blk)

def loadR (st : St) (agg : Bool) (n : Nat) : S → Option R
  | .rptr cs off => if off + n ≤ cs.length then (mk agg ((cs.drop off).take n)).map fun v => (v, [], []) else none
  | .loc t off =>
    match getV st.vars t with
    | some (.rows _ esz xs) => (cellsAt esz xs 0 off n).bind fun cs => (mk agg cs).map fun v => (v, [L.v t], [])
    | _ => none
  | .ptr l v row off =>
    match st.hp[l]? with
    | some (.rows _ esz xs) => if v = xs.length then (cellsAt esz xs row off n).bind fun cs => (mk agg cs).map fun u => (u, [L.h l], []) else none
    | _ => none
  | _ => none

def storeR (st : St) (n : Nat) (v : S) : S → Option R
  | .loc t off =>
    match getV st.vars t with
    | some (.rows fz esz xs) =>
      if v.cells.length = n ∧ v.cells.all S.okv then (storeAt esz xs 0 off v.cells).map fun ys => (.skip, [L.v t], [(L.v t, .rows fz esz ys)]) else none
    | _ => none
  | .ptr l u row off =>
    match st.hp[l]? with
    | some (.rows fz esz xs) =>
      if u = xs.length ∧ v.cells.length = n ∧ v.cells.all S.okv then (storeAt esz xs row off v.cells).map fun ys => (.skip, [L.h l], [(L.h l, .rows fz esz ys)]) else none
    | _ => none
  | _ => none

def okLen (n bytes : Nat) : Bool := decide ((2 * n + 1024) * bytes ≤ 140737488351232)

def eszAll (esz : Nat) (xs : List S) : Bool := xs.all fun x => x.cells.length == esz

def appendR (st : St) (slot esz bytes : Nat) (a : S) (ys : List S) (rd : List L) : Option R :=
  match a with
  | .list full p xs =>
    if ys.isEmpty then some (.list full p xs, rd, [])
    else if full ∧ okLen (xs.length + ys.length) bytes ∧ eszAll esz xs then
      some (.own slot (xs.length + ys.length) 0 (xs.length + ys.length), rd, [(L.h slot, .rows true esz (xs ++ ys))])
    else none
  | .own l v off len =>
    match st.hp[l]? with
    | some (.rows fz e xs) =>
      if v = xs.length ∧ off = 0 ∧ len ≤ xs.length ∧ e = esz then
        if ys.isEmpty then some (.own l v off len, .h l :: rd, [])
        else if len + ys.length ≤ xs.length then
          some (.own l v 0 (len + ys.length), .h l :: rd, [(L.h l, .rows fz esz (xs.take len ++ ys ++ xs.drop (len + ys.length)))])
        else if okLen (len + ys.length) bytes then
          if fz then
            if len = xs.length then
              some (.own l (len + ys.length) 0 (len + ys.length), .h l :: rd, [(L.h l, .rows true esz (xs ++ ys))])
            else none
          else some (.own slot (len + ys.length) 0 (len + ys.length), .h l :: rd, [(L.h slot, .rows true esz (xs.take len ++ ys))])
        else none
      else none
    | _ => none
  | _ => none

/-- The elements of a slice. -/
def elemsR (st : St) : S → Option (List S × List L)
  | .list _ _ xs => some (xs, [])
  | .own l v off len =>
    match st.hp[l]? with
    | some (.rows _ _ xs) => if v = xs.length ∧ off + len ≤ xs.length then some ((xs.drop off).take len, [L.h l]) else none
    | _ => none
  | _ => none

def bnd (lo : Option S) (dflt : Nat) : Option Nat :=
  match lo with
  | none => some dflt
  | some (.int _ n) => if 0 ≤ n then some n.toNat else none
  | _ => none

def sliceR (st : St) (q : Option Nat) (a : S) (lo hi : Option S) : Option R :=
  match q, a with
  | none, .str s =>
    match bnd lo 0, bnd hi s.length with
    | some l, some h => if l ≤ h ∧ h ≤ s.length then some (.str ((s.take h).drop l), [], []) else none
    | _, _ => none
  | some esz, .list full p xs =>
    match bnd lo 0, bnd hi xs.length with
    | some l, some h => if l ≤ h ∧ h ≤ xs.length ∧ eszAll esz xs then some (.list (full && h == xs.length) p ((xs.take h).drop l), [], []) else none
    | _, _ => none
  | some esz, .own b v off len =>
    match bnd lo 0, bnd hi len with
    | some l, some h =>
      match st.hp[b]? with
      | some (.rows _ e xs) => if l ≤ h ∧ h ≤ len ∧ v = xs.length ∧ e = esz then some (.own b v (off + l) (h - l), [.h b], []) else none
      | _ => none
    | _, _ => none
  | _, _ => none

def findM (k : S) : List (S × S) → Nat → Option (Option (Nat × S))
  | [], _ => some none
  | (k', v) :: r, i =>
    match eqL k.cells k'.cells with
    | some true => some (some (i, v))
    | some false => findM k r (i + 1)
    | none => none

/-- Bytes as a text. -/
def bytesS : List S → Option (List UInt8)
  | [] => some []
  | .int .u8 n :: r => match bytesS r with | some bs => some (UInt8.ofNat n.toNat :: bs) | none => none
  | _ => none

/-- One operation: its value, the places that it read, what it wrote. 'slot': where a new block goes. -/
def evalK (dp : Nat → List S → Hp → Option S) (slot : Nat) (st : St) : K → Option R
  | .move a => some (a.ev st.fr, [], [])
  | .pick c a b =>
    match c.ev st.fr with
    | .bool true => some (a.ev st.fr, [], [])
    | .bool false => some (b.ev st.fr, [], [])
    | _ => none
  | .bin op a b => (binS op (a.ev st.fr) (b.ev st.fr)).map fun v => (v, [], [])
  | .eqv neg g ks a b => (eqV g ks (a.ev st.fr) (b.ev st.fr)).map fun q => (.bool (if neg then !q else q), [], [])
  | .un op a => (unS op (a.ev st.fr)).map fun v => (v, [], [])
  | .conv k a =>
    match a.ev st.fr with
    | .int _ n => some (.int k (k.wrap n), [], [])
    | _ => none
  | .alloc (some t) esz init => some (.loc t 0, [], [(.v t, .rows false esz init)])
  | .alloc none esz init => some (.ptr slot init.length 0 0, [], [(.h slot, .rows false esz init)])
  | .box fr esz n a =>
    if (a.ev st.fr).cells.length = n * esz ∧ (a.ev st.fr).cells.all S.okv then
      match fr with
      | some t => some (.loc t 0, [], [(.v t, .rows false esz (chunks esz n (a.ev st.fr).cells))])
      | none => some (.ptr slot n 0 0, [], [(.h slot, .rows false esz (chunks esz n (a.ev st.fr).cells))])
    else none
  | .build zero parts => (fillS zero (evp st.fr parts)).map fun cs => (.agg cs, [], [])
  | .lit esz zero n parts => (fillL esz (List.replicate n zero) (evq st.fr parts)).map fun xs => (.list true true xs, [], [])
  | .load agg n a => loadR st agg n (a.ev st.fr)
  | .store n a b => storeR st n (b.ev st.fr) (a.ev st.fr)
  | .nilchk a =>
    match a.ev st.fr with
    | .ptr l v r o => some (.ptr l v r o, [], [])
    | .rptr cs o => some (.rptr cs o, [], [])
    | .loc t o => some (.loc t o, [], [])
    | _ => none
  | .mkfn f caps => if (evs st.fr caps).all S.okv then some (.fn f (evs st.fr caps), [], []) else none
  | .mksl esz bytes zero l c =>
    match l.ev st.fr, c.ev st.fr with
    | .int _ n, .int _ m =>
      if 0 ≤ n ∧ n ≤ m ∧ m * bytes ≤ 140737488351232 ∧ m ≤ 4611686018427387904 then
        some (.own slot m.toNat 0 n.toNat, [], [(.h slot, .rows false esz (List.replicate m.toNat zero))])
      else none
    | _, _ => none
  | .slice q a lo hi => sliceR st q (a.ev st.fr) (evo st.fr lo) (evo st.fr hi)
  | .aslice n esz a lo hi =>
    match a.ev st.fr with
    | .ptr l v row off =>
      match st.hp[l]? with
      | some (.rows false e xs) =>
        if v = xs.length ∧ row = 0 ∧ off = 0 ∧ e = esz ∧ n = xs.length then
          match bnd (evo st.fr lo) 0, bnd (evo st.fr hi) n with
          | some i, some j => if i ≤ j ∧ j ≤ n then some (.own l v i (j - i), [.h l], []) else none
          | _, _ => none
        else none
      | _ => none
    | _ => none
  | .faddr o a =>
    match a.ev st.fr with
    | .ptr l v r i => some (.ptr l v r (i + o), [], [])
    | .rptr cs i => some (.rptr cs (i + o), [], [])
    | .loc t i => some (.loc t (i + o), [], [])
    | _ => none
  | .field agg off n a =>
    match a.ev st.fr with
    | .agg cs => if off + n ≤ cs.length then (mk agg ((cs.drop off).take n)).map fun v => (v, [], []) else none
    | _ => none
  | .iaddr esz a i =>
    match a.ev st.fr, i.ev st.fr with
    | .list _ _ xs, .int _ n =>
      if 0 ≤ n then
        match xs[n.toNat]? with
        | some x => if x.cells.length = esz then some (.rptr x.cells 0, [], []) else none
        | none => none
      else none
    | .own l v off len, .int _ n => if 0 ≤ n ∧ n < len then
        match st.hp[l]? with
        | some (.rows _ e xs) => if v = xs.length ∧ e = esz then some (.ptr l v (off + n.toNat) 0, [.h l], []) else none
        | _ => none
      else none
    | _, _ => none
  | .aaddr len esz a i =>
    match i.ev st.fr with
    | .int _ n =>
      if 0 ≤ n ∧ n < len then
        match a.ev st.fr with
        | .rptr cs o => some (.rptr cs (o + n.toNat * esz), [], [])
        | .loc t o => some (.loc t (o + n.toNat * esz), [], [])
        | .ptr l v r o =>
          match st.hp[l]? with
          | some (.rows _ e xs) =>
            if v = xs.length then
              if o + len * esz ≤ e then some (.ptr l v r (o + n.toNat * esz), [.h l], [])
              else if o = 0 ∧ r = 0 ∧ e = esz then some (.ptr l v n.toNat 0, [.h l], []) else none
            else none
          | _ => none
        | _ => none
      else none
    | _ => none
  | .index agg len esz a i =>
    match a.ev st.fr, i.ev st.fr with
    | .agg cs, .int _ n =>
      if 0 ≤ n ∧ n < len ∧ cs.length = len * esz then (mk agg ((cs.drop (n.toNat * esz)).take esz)).map fun v => (v, [], []) else none
    | _, _ => none
  | .indexS a i =>
    match a.ev st.fr, i.ev st.fr with
    | .str s, .int _ n => if 0 ≤ n then match s[n.toNat]? with | some b => some (.int .u8 b.toNat, [], []) | none => none else none
    | _, _ => none
  | .extract a i =>
    match a.ev st.fr with
    | .tup vs => match vs[i]? with | some v => some (v, [], []) | none => none
    | _ => none
  | .len q a =>
    match q, a.ev st.fr with
    | true, .str s => some (.int .i64 s.length, [], [])
    | false, .list _ _ xs => some (.int .i64 xs.length, [], [])
    | false, .own _ _ _ len => some (.int .i64 len, [], [])
    | _, _ => none
  | .lenc n => some (.int .i64 n, [], [])
  | .append esz bytes a b =>
    match elemsR st (b.ev st.fr) with
    | some (ys, rd) => if eszAll esz ys then appendR st slot esz bytes (a.ev st.fr) ys rd else none
    | none => none
  | .mm mx a b =>
    match a.ev st.fr, b.ev st.fr with
    | .int k x, .int k' y => if k = k' then some (.int k (if mx then (if y > x then y else x) else (if y < x then y else x)), [], []) else none
    | _, _ => none
  | .mkmap => some (.map slot, [], [(.h slot, .map [])])
  | .lookup ok zero m k =>
    match m.ev st.fr with
    | .map l =>
      match st.hp[l]? with
      | some (.map es) =>
        match findM (k.ev st.fr) es 0 with
        | some (some (_, v)) => some (if ok then .tup [v, .bool true] else v, [.h l], [])
        | some none => some (if ok then .tup [zero, .bool false] else zero, [.h l], [])
        | none => none
      | _ => none
    | _ => none
  | .mapset m k v =>
    match m.ev st.fr with
    | .map l =>
      match st.hp[l]? with
      | some (.map es) =>
        if (k.ev st.fr).cells.all S.plain ∧ (v.ev st.fr).cells.all S.plain then
          match findM (k.ev st.fr) es 0 with
          | some (some (i, _)) => some (.skip, [.h l], [(.h l, .map (es.modify i fun e => (e.1, v.ev st.fr)))])
          | some none => some (.skip, [.h l], [(.h l, .map (es ++ [(k.ev st.fr, v.ev st.fr)]))])
          | none => none
        else none
      | _ => none
    | _ => none
  | .b2s a => (elemsR st (a.ev st.fr)).bind fun q => (bytesS q.1).map fun bs => (.str bs, q.2, [])
  | .s2b a =>
    match a.ev st.fr with
    | .str s => some (.list false true (s.map fun b => .int .u8 b.toNat), [], [])
    | _ => none
  | .call f args => (dp f (evs st.fr args) st.hp).map fun r => (r, (evs st.fr args).flatMap fun a => (argRd st.hp a).map L.h, [])
  | .callo f args =>
    match dp (f + ownOff) (evs st.fr args) st.hp with
    | some (.tup [.int _ esz, .list _ _ xs]) => some (.own slot xs.length 0 xs.length, (evs st.fr args).flatMap fun a => (argRd st.hp a).map L.h, [(.h slot, .rows true esz.toNat xs)])
    | some (.list f p xs) => some (.list f p xs, (evs st.fr args).flatMap fun a => (argRd st.hp a).map L.h, [])
    | _ => none
  | .callv f args =>
    match f.ev st.fr with
    | .fn g caps => (dp g (evs st.fr args ++ caps) st.hp).map fun r => (r, (evs st.fr args ++ caps).flatMap fun a => (argRd st.hp a).map L.h, [])
    | _ => none

/-- Whose call is it, with what? -/
def callee (fr : Fr) : K → Option (Nat × List S)
  | .call f args => some (f, evs fr args)
  | .callv f args => match f.ev fr with | .fn g caps => some (g, evs fr args ++ caps) | _ => none
  | _ => none

def K.fvar : K → Option Nat
  | .alloc f _ _ | .box f _ _ _ => f
  | _ => none

def deepE (E : Env) (call : CallF) (f : Nat) (args : List S) (hp : Hp) : Option S :=
  match E f with
  | some g => if g.isDeep then deep call f args hp else none
  | none =>
    match ownOf f with
    | some q =>
      match E q with
      | some g => if g.isDeep then deepO call q args hp else none
      | none => none
    | none => none

/-- One operation, in the order of the text. -/
def stepK (E : Env) (call : CallF) (o : KO) (st : St) : Option St :=
  match evalK (deepE E call) st.hp.length st o.op with
  | some (v, _, wr) =>
    some (({ st.wrs wr with fr := forgetO o.op.fvar (st.wrs wr).fr } : St).put o.dst v)
  | none =>
    match callee st.fr o.op with
    | some (f, args) =>
      match E f with
      | some g =>
        if g.isDeep then none
        else if args.all S.handable then
          match call f args st.hp with
          | some (v, hp') => some ({ st with hp := hp' }.put o.dst v)
          | none => none
        else none
      | none => none
    | none => none
where
  S.handable : S → Bool
    | .agg cs => cs.all S.okv
    | v => v.okv

def runOps (E : Env) (call : CallF) : List KO → St → Option St
  | [], st => some st
  | o :: os, st =>
    match wantK st.fr o.guard with
    | none => none
    | some false => runOps E call os (st.put o.dst .skip)
    | some true =>
      match stepK E call o st with
      | some st' => runOps E call os st'
      | none => none

end Go.Proofs.Ytkafliflpplpeaa.Sim
namespace Go.Proofs.Ytkafliflpplpeaa.Sim
set_option linter.unusedSimpArgs false
set_option linter.unusedVariables false
open Go

def keep1 (ks : List Nat) : S → S
  | .loc t o => if ks.contains t then .loc t o else .any
  | v => v

def keepF (all : List Nat) (fr : Fr) : List Nat → Fr
  | [] => []
  | t :: r => (t, keep1 all (getF fr t)) :: keepF all fr r

def keepV (vs : Vars) : List Nat → Vars
  | [] => []
  | t :: r => match getV vs t with | some b => (t, b) :: keepV vs r | none => keepV vs r

def St.keep (st : St) (ks : List Nat) : St := { st with fr := keepF ks st.fr ks, vars := keepV st.vars ks }

/-! ### Regions whose order is open -/

def A.tmp : A → List Nat
  | .t n => [n]
  | .c _ => []

def oTmp : Option A → List Nat
  | some a => a.tmp
  | none => []

def K.tmps : K → List Nat
  | .move a | .un _ a | .conv _ a | .box _ _ _ a | .load _ _ a | .nilchk a | .faddr _ a | .field _ _ _ a | .extract a _ | .len _ a | .b2s a | .s2b a => a.tmp
  | .pick c a b => c.tmp ++ (a.tmp ++ b.tmp)
  | .bin _ a b | .eqv _ _ _ a b | .store _ a b | .mksl _ _ _ a b | .iaddr _ a b | .aaddr _ _ a b | .index _ _ _ a b | .indexS a b | .append _ _ a b | .mm _ a b => a.tmp ++ b.tmp
  | .lookup _ _ a b => a.tmp ++ b.tmp
  | .mapset a b c => a.tmp ++ (b.tmp ++ c.tmp)
  | .alloc _ _ _ | .lenc _ | .mkmap => []
  | .build _ ps => ps.flatMap fun p => p.2.2.tmp
  | .lit _ _ _ ps => ps.flatMap fun p => p.2.tmp
  | .mkfn _ cs => cs.flatMap A.tmp
  | .slice _ a l h | .aslice _ _ a l h => a.tmp ++ (oTmp l ++ oTmp h)
  | .call _ as | .callo _ as => as.flatMap A.tmp
  | .callv f as => f.tmp ++ as.flatMap A.tmp

def KO.uses (o : KO) : List Nat := (match o.guard with | some (t, _) => [t] | none => []) ++ o.op.tmps

/-- Added, each once. -/
def uni : List Nat → List Nat → List Nat
  | acc, [] => acc
  | acc, x :: xs => uni (if acc.contains x then acc else x :: acc) xs

theorem mem_uni : ∀ {xs acc : List Nat} {i : Nat}, i ∈ uni acc xs → i ∈ acc ∨ i ∈ xs
  | [], _, _, h => .inl h
  | x :: xs, acc, i, h => by
    rcases mem_uni (xs := xs) h with h | h
    · split at h
      · exact .inl h
      · rcases List.mem_cons.1 h with rfl | h
        · exact .inr (List.mem_cons_self ..)
        · exact .inl h
    · exact .inr (List.mem_cons_of_mem _ h)

/-- The operations that stand before each one in every order. -/
def ancs : List KO → List (List Nat) → List (List Nat)
  | [], acc => acc
  | o :: os, acc => ancs os (acc ++ [uni [] (o.after ++ o.after.flatMap fun i => acc.getD i [])])

/-- What one operation of such a region did. -/
structure En where
  o : KO
  v : S
  rd : List L
  wr : List (L × Blk)

def En.ws (e : En) : List L := e.wr.map (·.1)

def meets (x y : List L) : Bool := x.any fun l => y.contains l

def tmpMeet (a b : KO) : Bool :=
  (match a.dst with | some d => b.uses.contains d || b.dst == some d | none => false) ||
  (match b.dst with | some d => a.uses.contains d | none => false)

def apartAt (a b : En) : Bool :=
  !tmpMeet a.o b.o && !meets a.ws b.rd && !meets a.ws b.ws && !meets b.ws a.rd

def seenOk (anc : List Nat) (x : En) : Nat → List En → Bool
  | _, [] => true
  | i, y :: r => (anc.contains i || apartAt y x) && seenOk anc x (i + 1) r

/-- Every two operations are apart, or the earlier one stands before the later one in every order. -/
def orderOk (anc : List (List Nat)) : (j : Nat) → List En → List En → Bool
  | _, _, [] => true
  | j, seen, x :: rest => seenOk (anc.getD j []) x 0 seen && orderOk anc (j + 1) (seen ++ [x]) rest

def aftersOk : Nat → List KO → Bool
  | _, [] => true
  | j, o :: r => o.after.all (fun i => decide (i < j)) && aftersOk (j + 1) r

def K.allocs : K → Bool
  | .alloc none _ _ | .box none _ _ _ | .mksl .. | .append .. | .mkmap | .callo .. => true
  | _ => false

def inHp (n : Nat) : L → Bool
  | .h l => decide (l < n)
  | .v _ => true

def isDead : Option Blk → Bool
  | some .dead => true
  | _ => false

def runD (E : Env) (call : CallF) : (slot : Nat) → List KO → St → Option (St × List En)
  | _, [], st => some (st, [])
  | slot, o :: os, st =>
    match wantK st.fr o.guard with
    | none => none
    | some false =>
      match runD E call (if o.op.allocs then slot + 1 else slot) os (st.put o.dst .skip) with
      | some (st', l) => some (st', ⟨o, .skip, [], []⟩ :: l)
      | none => none
    | some true =>
      match evalK (deepE E call) slot st o.op with
      | some (v, rd, wr) =>
        if wr.all (fun w => inHp st.hp.length w.1) ∧ (o.op.allocs = false ∨ isDead (st.hp[slot]?) = true) ∧ o.op.fvar = none then
          match runD E call (if o.op.allocs then slot + 1 else slot) os ((st.wrs wr).put o.dst v) with
          | some (st', l) => some (st', ⟨o, v, if o.op.allocs then .h slot :: rd else rd, wr⟩ :: l)
          | none => none
        else none
      | none => none

def trim : Hp → Hp
  | [] => []
  | b :: r => match b, trim r with
    | .dead, [] => []
    | b, r' => b :: r'

def deads : List KO → Hp
  | [] => []
  | o :: r => if o.op.allocs then .dead :: deads r else deads r

def regionD (E : Env) (call : CallF) (ops : List KO) (st : St) : Option St :=
  match runD E call st.hp.length ops { st with hp := st.hp ++ deads ops } with
  | some (st', l) => if orderOk (ancs ops []) 0 [] l ∧ aftersOk 0 ops then some { st' with hp := trim st'.hp } else none
  | none => none

def loopN (keep : List Nat) (body : St → Option (Ex × St)) : Nat → St → Option (Ex × St)
  | 0, _ => none
  | n + 1, st =>
    match body (st.keep keep) with
    | some (.norm, st') => loopN keep body n st'
    | r => r

def runC (E : Env) (call : CallF) (n : Nat) : KC → St → Option (Ex × St)
  | .skip, st => some (.norm, st)
  | .region ops, st => match runOps E call ops st with | some st' => some (.norm, st') | none => none
  | .dregion ops, st => match regionD E call ops st with | some st' => some (.norm, st') | none => none
  | .seq a b, st =>
    match runC E call n a st with
    | some (.norm, st') => runC E call n b st'
    | r => r
  | .cond c x y, st =>
    match c.ev st.fr with
    | .bool true => runC E call n x st
    | .bool false => runC E call n y st
    | _ => none
  | .block id keep b, st =>
    match runC E call n b st with
    | some (.norm, st') => some (.norm, st'.keep keep)
    | some (.exit i, st') => if i = id then some (.norm, st'.keep keep) else some (.exit i, st')
    | r => r
  | .loop keep b, st => loopN keep (runC E call n b) n st
  | .exit id, st => some (.exit id, st)
  | .ret, st => some (.ret, st)

def resV (st : St) : RV → Option S
  | .t n => some (getF st.fr n)
  | .cell t agg n => match loadR st agg n (getF st.fr t) with | some (v, _, _) => some v | none => none

def result (st : St) (rs : List RV) : Option S :=
  match rs with
  | [r] => resV st r
  | rs => match mapO' st rs with | some vs => some (.tup vs) | none => none
where
  mapO' (st : St) : List RV → Option (List S)
    | [] => some []
    | r :: rs => match resV st r, mapO' st rs with | some v, some vs => some (v :: vs) | _, _ => none

def argsF : Nat → List S → Fr
  | _, [] => []
  | n, a :: as => (n, a) :: argsF (n + 1) as

def S.outable : S → Bool
  | .loc _ _ | .any | .skip => false
  | .tup vs => vs.all fun | .loc _ _ | .any | .skip | .tup _ => false | _ => true
  | _ => true

def finish (f : CFun) : Option (Ex × St) → Option (S × Hp)
  | some (.norm, st) | some (.ret, st) => match result st f.res with | some v => if v.outable then some (v, st.hp) else none | none => none
  | _ => none

def callN (E : Env) : Nat → CallF
  | 0, _, _, _ => none
  | n + 1, f, args, hp =>
    match E f with
    | none => none
    | some (.prim s) => match s args with | some r => some (r, hp) | none => none
    | some (.iprim s) => s args hp
    | some (.code c) => if args.length = c.np then finish c (runC E (callN E n) n c.body ⟨argsF 0 args, [], hp⟩) else none

end Go.Proofs.Ytkafliflpplpeaa.Sim
namespace Go.Proofs.Ytkafliflpplpeaa.Sim
set_option linter.unusedSimpArgs false
set_option linter.unusedVariables false
open Go

structure Cx where
  w : World
  blk : L → Option Blk
  at_ : L → Option Nat
  out : Nat → Prop
  hid : Nat → Prop

def Cx.ow (c : Cx) (b : Nat) : Prop := ∃ l, c.at_ l = some b

/-- What no plain data lies in: blocks of the machine's own, and those of suspended frames. -/
def Cx.no (c : Cx) (b : Nat) : Prop := c.ow b ∨ c.hid b

inductive VD (w : World) (ow out : Nat → Prop) : S → Value → Prop
  | int (k : IntKind) (n : Int) : VD w ow out (.int k n) (.int k n)
  | bool (b : Bool) : VD w ow out (.bool b) (.bool b)
  | str (s : ByteArray) (l : List UInt8) (h : s.data.toList = l) : VD w ow out (.str l) (.string s)
  | nilp : VD w ow out .nilp (.pointer none)
  | nilf : VD w ow out .nilf .nilFunc
  | nil (f q : Bool) (a : Option Addr) (cap : Nat) (h : f = true → cap = 0) : VD w ow out (.list f q []) (.slice a 0 cap)
  | list (f q : Bool) (xs : List S) (b o esz len cap : Nat) (u : Nat → Nat → Value) (hlen : xs.length = len) (hle : len ≤ cap) (hf : f = true → cap = len)
      (hb : b < w.heap.size) (how : ¬ ow b) (hout : q = true → ¬ out b)
      (hrow : ∀ (i : Nat) (x : S), xs[i]? = some x → x.cells.length = esz)
      (hpr : q = true → ∀ (i : Nat) (x : S) (j : Nat) (c : S), xs[i]? = some x → x.cells[j]? = some c → c.privs = true)
      (hcell : ∀ (i : Nat) (x : S) (j : Nat) (c : S), xs[i]? = some x → x.cells[j]? = some c → w.cell? ⟨b, o + (i * esz + j), none⟩ = some (u i j))
      (hv : ∀ (i : Nat) (x : S) (j : Nat) (c : S), xs[i]? = some x → x.cells[j]? = some c → VD w ow out c (u i j)) :
      VD w ow out (.list f q xs) (.slice (some ⟨b, o, none⟩) len cap)
  | rptr (cs : List S) (off b o : Nat) (u : Nat → Value) (hb : b < w.heap.size) (how : ¬ ow b)
      (hcell : ∀ (j : Nat) (c : S), cs[j]? = some c → w.cell? ⟨b, o + j, none⟩ = some (u j))
      (hv : ∀ (j : Nat) (c : S), cs[j]? = some c → VD w ow out c (u j)) :
      VD w ow out (.rptr cs off) (.pointer (some ⟨b, o + off, none⟩))

theorem VD.mono {w w' : World} {ow ow' out out' : Nat → Prop} {x : S} {v : Value} (h : VD w ow out x v)
    (hs : w.heap.size ≤ w'.heap.size) (hk : ∀ b, b < w.heap.size → ¬ ow b → w'.heap[b]? = w.heap[b]?)
    (how' : ∀ b, b < w.heap.size → ow' b → ow b) (hout' : ∀ b, b < w.heap.size → ¬ ow b → ¬ out b → ¬ out' b) : VD w' ow' out' x v := by
  induction h with
  | int k n => exact .int k n
  | bool b => exact .bool b
  | str s l h => exact .str s l h
  | nilp => exact .nilp
  | nilf => exact .nilf
  | nil f q a cap h => exact .nil f q a cap h
  | list f q xs b o esz len cap u hlen hle hf hb how hout hrow hpr hcell hv ih =>
    refine .list f q xs b o esz len cap u hlen hle hf (by omega) (fun h => how (how' b hb h)) (fun hq => hout' b hb how (hout hq)) hrow hpr ?_ ih
    intro i x j c hx hc
    rw [World.cell?_of_block (w := w) (hk b hb how)]
    exact hcell i x j c hx hc
  | rptr cs off b o u hb how hcell hv ih =>
    refine .rptr cs off b o u (by omega) (fun h => how (how' b hb h)) ?_ ih
    intro j c hc
    rw [World.cell?_of_block (w := w) (hk b hb how)]
    exact hcell j c hc

inductive VR (lk : Nat → Option Nat) (c : Cx) : S → Value → Prop
  | d (x : S) (v : Value) (h : VD c.w c.no c.out x v) : VR lk c x v
  | own (l v off len : Nat) (a : Option Addr) (cap : Nat) (fz : Bool) (esz : Nat) (xs : List S) (hb : c.blk (.h l) = some (.rows fz esz xs)) (hv : v ≤ xs.length)
      (h : v = xs.length → off + len ≤ xs.length ∧ ∃ b cells E fr, c.at_ (.h l) = some b ∧ c.w.heap[b]? = some (.cells cells E fr) ∧
        (a = some ⟨b, off * esz, none⟩ ∨ (len = 0 ∧ cap = 0)) ∧ (off + cap) * esz = cells.size) : VR lk c (.own l v off len) (.slice a len cap)
  | ptr (l v row off : Nat) (p : Addr) (fz : Bool) (esz : Nat) (xs : List S) (hb : c.blk (.h l) = some (.rows fz esz xs)) (hv : v ≤ xs.length)
      (h : v = xs.length → ∃ b, c.at_ (.h l) = some b ∧ p = ⟨b, row * esz + off, none⟩) : VR lk c (.ptr l v row off) (.pointer (some p))
  | map (l b : Nat) (es : List (S × S)) (hb : c.blk (.h l) = some (.map es)) (ha : c.at_ (.h l) = some b) : VR lk c (.map l) (.map (some b))
  | agg (cs : List S) (vs : Array Value) (hlen : cs.length = vs.size) (h : ∀ (i : Nat) (x : S) (v : Value), cs[i]? = some x → vs[i]? = some v → VR lk c x v) : VR lk c (.agg cs) (.agg vs)
  | tup (cs : List S) (vs : Array Value) (hlen : cs.length = vs.size) (h : ∀ (i : Nat) (x : S) (v : Value), cs[i]? = some x → vs[i]? = some v → VR lk c x v) : VR lk c (.tup cs) (.tuple vs)
  | fn (f g : Nat) (cs : List S) (vs : Array Value) (hf : lk f = some g) (hlen : cs.length = vs.size) (h : ∀ (i : Nat) (x : S) (v : Value), cs[i]? = some x → vs[i]? = some v → VR lk c x v) :
      VR lk c (.fn f cs) (.func (.func g) #[] vs)
  | skip : VR lk c .skip undef

inductive FR (lk : Nat → Option Nat) (c : Cx) : S → Value → Prop
  | r (x : S) (v : Value) (h : VR lk c x v) : FR lk c x v
  | any (v : Value) : FR lk c .any v
  | loc (t off b : Nat) (fz : Bool) (esz : Nat) (xs : List S) (hb : c.blk (.v t) = some (.rows fz esz xs)) (ha : c.at_ (.v t) = some b) : FR lk c (.loc t off) (.pointer (some ⟨b, off, none⟩))

def RowsOk (lk : Nat → Option Nat) (c : Cx) (l : L) (fz : Bool) (esz : Nat) (xs : List S) : Prop :=
  ∃ b cells E m, c.at_ l = some b ∧ c.w.heap[b]? = some (.cells cells E (0, 0)) ∧ 0 < esz ∧ cells.size = m * esz ∧ xs.length ≤ m ∧ (fz = false → m = xs.length) ∧
    ∀ i x, xs[i]? = some x → x.cells.length = esz ∧ ∀ j s, x.cells[j]? = some s → ∃ u, cells[i * esz + j]? = some u ∧ VR lk c s u ∧ s.okv = true

structure HR (lk : Nat → Option Nat) (c : Cx) (base : Nat) : Prop where
  bs : base ≤ c.w.heap.size
  outs : ∀ b, c.out b → b < base
  hids : ∀ b, c.hid b → b < c.w.heap.size ∧ ¬ c.ow b
  lt : ∀ l b, c.at_ l = some b → base ≤ b ∧ b < c.w.heap.size
  inj : ∀ l l' b, c.at_ l = some b → c.at_ l' = some b → l = l'
  live : ∀ l b, c.at_ l = some b → ∃ k, c.blk l = some k ∧ k ≠ .dead
  rows : ∀ l fz esz xs, c.blk l = some (.rows fz esz xs) → RowsOk lk c l fz esz xs
  maps : ∀ l es, c.blk l ≠ some (.map es)

structure Ext (c c' : Cx) : Prop where
  os : c'.w.os = c.w.os
  tape : c'.w.tape = c.w.tape
  output : c'.w.output = c.w.output
  size : c.w.heap.size ≤ c'.w.heap.size
  keep : ∀ b, b < c.w.heap.size → ¬ c.ow b → c'.w.heap[b]? = c.w.heap[b]?
  ow : ∀ b, b < c.w.heap.size → c'.ow b → c.ow b
  out : c'.out = c.out
  hid : c'.hid = c.hid
  rows : ∀ l fz esz xs, c.blk (.h l) = some (.rows fz esz xs) → ∃ fz' xs', c'.blk (.h l) = some (.rows fz' esz xs') ∧ xs.length ≤ xs'.length ∧
    (xs.length = xs'.length → c'.at_ (.h l) = c.at_ (.h l) ∧
      ∀ b cells E fr, c.at_ (.h l) = some b → c.w.heap[b]? = some (.cells cells E fr) → ∃ cells', c'.w.heap[b]? = some (.cells cells' E fr) ∧ cells'.size = cells.size)
  maps : ∀ l es, c.blk (.h l) = some (.map es) → (∃ es', c'.blk (.h l) = some (.map es')) ∧ c'.at_ (.h l) = c.at_ (.h l)

theorem VR.mono {lk : Nat → Option Nat} {c c' : Cx} {x : S} {v : Value} (e : Ext c c') (h : VR lk c x v) : VR lk c' x v := by
  induction h with
  | d x v h =>
    refine .d x v (h.mono e.size (fun b hb hn => e.keep b hb (fun ho => hn (.inl ho))) (fun b hb hn => ?_) (fun b _ _ ho => by rw [e.out]; exact ho))
    rcases hn with hn | hn
    · exact .inl (e.ow b hb hn)
    · exact .inr (by rw [e.hid] at hn; exact hn)
  | own l v off len a cap fz esz xs hb hv h =>
    obtain ⟨fz', xs', hb', hle, heq⟩ := e.rows l fz esz xs hb
    refine .own l v off len a cap fz' esz xs' hb' (by omega) (fun hv' => ?_)
    have h1 : v = xs.length := by omega
    obtain ⟨h2, b, cells, E, fr, ha, hc, haddr, hcap⟩ := h h1
    obtain ⟨ha', hcs⟩ := heq (by omega)
    obtain ⟨cells', hc', hsz⟩ := hcs b cells E fr ha hc
    exact ⟨by omega, b, cells', E, fr, by rw [ha', ha], hc', haddr, by rw [hsz]; exact hcap⟩
  | ptr l v row off p fz esz xs hb hv h =>
    obtain ⟨fz', xs', hb', hle, heq⟩ := e.rows l fz esz xs hb
    refine .ptr l v row off p fz' esz xs' hb' (by omega) (fun hv' => ?_)
    obtain ⟨b, ha, hp⟩ := h (by omega)
    exact ⟨b, by rw [(heq (by omega)).1, ha], hp⟩
  | map l b es hb ha =>
    obtain ⟨⟨es', hb'⟩, ha'⟩ := e.maps l es hb
    exact .map l b es' hb' (by rw [ha', ha])
  | agg cs vs hlen _ ih => exact .agg cs vs hlen ih
  | tup cs vs hlen _ ih => exact .tup cs vs hlen ih
  | fn f g cs vs hf hlen _ ih => exact .fn f g cs vs hf hlen ih
  | skip => exact .skip

theorem Ext.refl (c : Cx) : Ext c c :=
  ⟨rfl, rfl, rfl, Nat.le_refl _, fun _ _ _ => rfl, fun _ _ h => h, rfl, rfl, fun _ fz _ xs h => ⟨fz, xs, h, Nat.le_refl _, fun _ => ⟨rfl, fun _ cells _ _ _ hc => ⟨cells, hc, rfl⟩⟩⟩, fun _ es h => ⟨⟨es, h⟩, rfl⟩⟩

theorem Ext.trans {a b c : Cx} (h : Ext a b) (k : Ext b c) : Ext a c := by
  refine ⟨k.os.trans h.os, k.tape.trans h.tape, k.output.trans h.output, Nat.le_trans h.size k.size, ?_, ?_, k.out.trans h.out, k.hid.trans h.hid, ?_, ?_⟩
  · intro n hn ho
    rw [k.keep n (by have := h.size; omega) (fun hb => ho (h.ow n hn hb)), h.keep n hn ho]
  · intro n hn ho
    exact h.ow n hn (k.ow n (by have := h.size; omega) ho)
  · intro l fz esz xs hb
    obtain ⟨f1, x1, b1, l1, e1⟩ := h.rows l fz esz xs hb
    obtain ⟨f2, x2, b2, l2, e2⟩ := k.rows l f1 esz x1 b1
    refine ⟨f2, x2, b2, by omega, fun he => ?_⟩
    obtain ⟨p1, q1⟩ := e1 (by omega)
    obtain ⟨p2, q2⟩ := e2 (by omega)
    refine ⟨p2.trans p1, fun n cells E fr ha hc => ?_⟩
    obtain ⟨c1, r1, s1⟩ := q1 n cells E fr ha hc
    obtain ⟨c2, r2, s2⟩ := q2 n c1 E fr (p1.trans ha) r1
    exact ⟨c2, r2, s2.trans s1⟩
  · intro l es hb
    obtain ⟨⟨e1, b1⟩, a1⟩ := h.maps l es hb
    obtain ⟨e2, a2⟩ := k.maps l e1 b1
    exact ⟨e2, a2.trans a1⟩

/-- Nothing but the number of draws has turned. -/
theorem Ext.draw (c : Cx) : Ext c { c with w := c.w.drew } :=
  ⟨rfl, rfl, rfl, Nat.le_refl _, fun _ _ _ => rfl, fun _ _ h => h, rfl, rfl, fun _ fz _ xs h => ⟨fz, xs, h, Nat.le_refl _, fun _ => ⟨rfl, fun _ cells _ _ _ hc => ⟨cells, hc, rfl⟩⟩⟩, fun _ es h => ⟨⟨es, h⟩, rfl⟩⟩

theorem RowsOk.mono {lk : Nat → Option Nat} {c c' : Cx} {l : L} {fz : Bool} {esz : Nat} {xs : List S} (h : RowsOk lk c l fz esz xs) (e : Ext c c')
    (ha : c'.at_ l = c.at_ l) (hk : ∀ b, c.at_ l = some b → c'.w.heap[b]? = c.w.heap[b]?) : RowsOk lk c' l fz esz xs := by
  obtain ⟨b, cells, E, m, h1, h2, h3, h4, h5, h6, h7⟩ := h
  refine ⟨b, cells, E, m, by rw [ha, h1], by rw [hk b h1, h2], h3, h4, h5, h6, fun i x hx => ?_⟩
  obtain ⟨p, q⟩ := h7 i x hx
  refine ⟨p, fun j s hs => ?_⟩
  obtain ⟨u, hu, hvr, ho⟩ := q j s hs
  exact ⟨u, hu, hvr.mono e, ho⟩

theorem HR.draw {lk : Nat → Option Nat} {c : Cx} {base : Nat} (h : HR lk c base) : HR lk { c with w := c.w.drew } base :=
  ⟨h.bs, h.outs, h.hids, h.lt, h.inj, h.live, fun l fz esz xs hb => (h.rows l fz esz xs hb).mono (Ext.draw c) rfl (fun _ _ => rfl), h.maps⟩

def updL {α : Type} (f : L → Option α) (l : L) (x : α) : L → Option α := fun k => if k = l then some x else f k

/-- A block of the machine's own is made anew, or written: what must hold of it. -/
theorem HR.upd {lk : Nat → Option Nat} {c : Cx} {base : Nat} (h : HR lk c base) (l : L) (fz : Bool) (esz m : Nat) (xs : List S) (w' : World) (b' : Nat) (cells : Array Value) (E : TypeId)
    (hos : w'.os = c.w.os) (htape : w'.tape = c.w.tape) (hout : w'.output = c.w.output) (hsize : c.w.heap.size ≤ w'.heap.size)
    (hold : ∀ k, k < c.w.heap.size → c.at_ l ≠ some k → w'.heap[k]? = c.w.heap[k]?)
    (hb : c.at_ l = some b' ∨ c.w.heap.size ≤ b') (hlt : b' < w'.heap.size)
    (hnew : w'.heap[b']? = some (.cells cells E (0, 0)))
    (h0 : 0 < esz) (hsz : cells.size = m * esz) (hle : xs.length ≤ m) (hfz : fz = false → m = xs.length)
    (hcomp : ∀ k, l = .h k → ∀ fz0 esz0 xs0, c.blk l = some (.rows fz0 esz0 xs0) → esz0 = esz ∧ xs0.length ≤ xs.length ∧
      (xs0.length = xs.length → c.at_ l = some b' ∧ ∀ cells0 E0 fr0, c.w.heap[b']? = some (.cells cells0 E0 fr0) → cells0.size = cells.size ∧ E0 = E ∧ fr0 = (0, 0)))
    (hcells : ∀ i x, xs[i]? = some x → x.cells.length = esz ∧ ∀ j s, x.cells[j]? = some s → ∃ u, cells[i * esz + j]? = some u ∧ VR lk c s u ∧ s.okv = true) :
    HR lk ⟨w', updL c.blk l (.rows fz esz xs), updL c.at_ l b', c.out, c.hid⟩ base ∧ Ext c ⟨w', updL c.blk l (.rows fz esz xs), updL c.at_ l b', c.out, c.hid⟩ := by
  have hother : ∀ k b, k ≠ l → c.at_ k = some b → w'.heap[b]? = c.w.heap[b]? := fun k b hk ha =>
    hold b (h.lt k b ha).2 (fun hl => hk (h.inj k l b ha hl))
  have hnb : ∀ k, k ≠ l → c.at_ k ≠ some b' := by
    intro k hk ha
    rcases hb with hb | hb
    · exact hk (h.inj k l b' ha hb)
    · have := (h.lt k b' ha).2; omega
  have e : Ext c ⟨w', updL c.blk l (.rows fz esz xs), updL c.at_ l b', c.out, c.hid⟩ := by
    refine ⟨hos, htape, hout, hsize, ?_, ?_, rfl, rfl, ?_, ?_⟩
    · intro b hb' hno
      exact hold b hb' (fun ha => hno ⟨l, ha⟩)
    · rintro b hb' ⟨k, hk⟩
      simp only [updL] at hk
      split at hk
      · cases hk
        rcases hb with hb | hb
        · exact ⟨l, hb⟩
        · omega
      · exact ⟨k, hk⟩
    · intro k fz0 esz0 xs0 hb0
      simp only [updL]
      by_cases hk : L.h k = l
      · subst hk
        obtain ⟨he, hl, hq⟩ := hcomp k rfl fz0 esz0 xs0 hb0
        subst he
        refine ⟨fz, xs, by simp, hl, fun hlen => ?_⟩
        obtain ⟨ha, hc⟩ := hq hlen
        refine ⟨by simp [ha], fun b cells0 E0 fr0 hab hcb => ?_⟩
        rw [ha] at hab
        cases hab
        obtain ⟨p, q, r⟩ := hc cells0 E0 fr0 hcb
        subst q r
        exact ⟨cells, hnew, p.symm⟩
      · refine ⟨fz0, xs0, by simp [hk, hb0], Nat.le_refl _, fun _ => ⟨by simp [hk], fun b cells0 E0 fr0 hab hcb => ?_⟩⟩
        exact ⟨cells0, by rw [hother _ b hk hab]; exact hcb, rfl⟩
    · intro k es hb0
      exact absurd hb0 (h.maps _ es)
  refine ⟨⟨Nat.le_trans h.bs hsize, h.outs, ?_, ?_, ?_, ?_, ?_, ?_⟩, e⟩
  · intro b hh
    refine ⟨Nat.lt_of_lt_of_le (h.hids b hh).1 hsize, ?_⟩
    rintro ⟨k, hk⟩
    simp only [updL] at hk
    split at hk
    · cases hk
      rcases hb with hb | hb
      · exact (h.hids _ hh).2 ⟨l, hb⟩
      · have := (h.hids _ hh).1; omega
    · exact (h.hids b hh).2 ⟨k, hk⟩
  · intro k b hk
    simp only [updL] at hk
    split at hk
    · cases hk
      rcases hb with hb | hb
      · exact ⟨(h.lt l b' hb).1, hlt⟩
      · exact ⟨Nat.le_trans h.bs hb, hlt⟩
    · exact ⟨(h.lt k b hk).1, Nat.lt_of_lt_of_le (h.lt k b hk).2 hsize⟩
  · intro k k' b hk hk'
    simp only [updL] at hk hk'
    split at hk <;> split at hk'
    · simp_all
    · cases hk; rename_i h1; exact absurd hk' (hnb k' h1)
    · cases hk'; rename_i h1 _; exact absurd hk (hnb k h1)
    · exact h.inj k k' b hk hk'
  · intro k b hk
    simp only [updL] at hk ⊢
    split at hk
    · rename_i h1; exact ⟨.rows fz esz xs, by simp [h1], by simp⟩
    · rename_i h1
      obtain ⟨kk, p, q⟩ := h.live k b hk
      exact ⟨kk, by simp [h1, p], q⟩
  · intro k fz0 esz0 xs0 hb0
    simp only [updL] at hb0
    split at hb0
    · rename_i h1
      cases hb0
      subst h1
      refine ⟨b', cells, E, m, by simp [updL], hnew, h0, hsz, hle, hfz, fun i x hx => ?_⟩
      obtain ⟨p, q⟩ := hcells i x hx
      refine ⟨p, fun j s hs => ?_⟩
      obtain ⟨u, hu, hv, ho⟩ := q j s hs
      exact ⟨u, hu, hv.mono e, ho⟩
    · rename_i h1
      exact (h.rows k fz0 esz0 xs0 hb0).mono e (by simp [updL, h1]) (fun b ha => hother k b h1 ha)
  · intro k es hb0
    simp only [updL] at hb0
    split at hb0
    · cases hb0
    · exact h.maps k es hb0

end Go.Proofs.Ytkafliflpplpeaa.Sim
namespace Go.Proofs.Ytkafliflpplpeaa.Sim
set_option linter.unusedSimpArgs false
set_option linter.unusedVariables false
open Go

/-- What is handed to 'comp' for one function: the numbers of functions, which variables stay in the frame, what is kept at each loop and block, is the function called with data alone. -/
structure Hint where
  esc : List Nat := []
  keeps : List (List Nat) := []
  deep : Bool := true

abbrev Lnk := List (Nat × Nat)

def Lnk.fid : Lnk → Nat → Option Nat
  | [], _ => none
  | (i, f) :: r, n => if n = i then some f else Lnk.fid r n

def Lnk.find : Lnk → Nat → Option Nat
  | [], _ => none
  | (i, f) :: r, n => if n = f then some i else Lnk.find r n

def Lnk.idOf (k : Lnk) (f : Nat) : Option Nat :=
  match k.find f with
  | some i => if k.fid i = some f then some i else none
  | none => none

theorem Lnk.idOf_fid {k : Lnk} {f i : Nat} (h : k.idOf f = some i) : k.fid i = some f := by
  unfold Lnk.idOf at h
  split at h
  · split at h
    · cases h; assumption
    · cases h
  · cases h

def cval1 : Value → Option S
  | .int k n => some (.int k n)
  | .bool b => some (.bool b)
  | .string s => some (.str s.data.toList)
  | .slice none 0 0 => some (.list true true [])
  | .pointer none => some .nilp
  | .nilFunc => some .nilf
  | _ => none

def cvals : List Value → Option (List S)
  | [] => some []
  | v :: vs => match cval1 v, cvals vs with | some x, some xs => some (x :: xs) | _, _ => none

def cval : Value → Option S
  | .agg cs => match cvals cs.toList with | some xs => some (.agg xs) | none => none
  | v => cval1 v

def opd (k : Lnk) : Operand → Option A
  | .tmp t => some (.t t)
  | .const v => match cval v with | some x => some (.c x) | none => none
  | .func f => match k.idOf f with | some i => some (.c (.fn i [])) | none => none
  | .global _ => none

def opds (k : Lnk) : List Operand → Option (List A)
  | [] => some []
  | x :: xs => match opd k x, opds k xs with | some a, some as => some (a :: as) | _, _ => none

def opdo (k : Lnk) : Option Operand → Option (Option A)
  | none => some none
  | some x => match opd k x with | some a => some (some a) | none => none

section
variable (P : Program) (k : Lnk)

def isAggB (t : TypeId) : Option Bool :=
  match P.underlying t with
  | some (.struct _) | some (.array _ _) => some true
  | some _ => some false
  | none => none

/-- A type of so many cells, at least one. -/
def eszB (t : TypeId) : Option Nat :=
  match P.info? t with
  | some i => if 0 < i.size then some i.size else none
  | none => none

/-- A type's zero value in cells, and how many. -/
def zerosB (t : TypeId) : Option (List S × Nat) :=
  match P.info? t with
  | some i =>
    match i.zero with
    | some z => match cvals z.cells.toList with
      | some zs => if zs.length = i.size ∧ 0 < i.size then some (zs, i.size) else none
      | none => none
    | none => none
  | none => none

/-- What lies in the cells of a type whose values are compared cell by cell, one behind the other without a gap; none where they are not. -/
def eqFieldsLay (g : TypeId → Option (List Sc)) : List Field → Nat → Option (List Sc)
  | [], _ => some []
  | f :: fs, off =>
    if f.offset = off ∧ f.name ≠ "_" then
      match g f.type with
      | some ks => match eqFieldsLay g fs (off + ks.length) with
        | some ls => some (ks ++ ls)
        | none => none
      | none => none
    else none

def repL (ks : List Sc) : Nat → List Sc
  | 0 => []
  | n + 1 => ks ++ repL ks n

def eqLay : Nat → TypeId → Option (List Sc)
  | 0, _ => none
  | n + 1, t =>
    match P.underlying t, P.info? t with
    | some .bool, some i => if i.size = 1 then some [.b] else none
    | some (.int _), some i => if i.size = 1 then some [.i] else none
    | some .string, some i => if i.size = 1 then some [.s] else none
    | some (.struct fs), some i =>
      if P.stoodInHeld t = false then
        match eqFieldsLay (eqLay n) fs.toList 0 with
        | some ks => if i.size = ks.length ∧ 0 < ks.length then some ks else none
        | none => none
      else none
    | some (.array m e), some i =>
      match eqLay n e with
      | some ks => if i.size = (repL ks m).length ∧ 0 < (repL ks m).length then some (repL ks m) else none
      | none => none
    | _, _ => none

def parts3 (places : Nat → Option (Nat × Nat)) : List (Nat × Operand) → Option (List (Nat × Nat × A))
  | [] => some []
  | (i, x) :: r =>
    match places i, opd k x, parts3 places r with
    | some (o, n), some a, some as => some ((o, n, a) :: as)
    | _, _, _ => none

def parts2 : List (Nat × Operand) → Option (List (Nat × A))
  | [] => some []
  | (i, x) :: r => match opd k x, parts2 r with | some a, some as => some ((i, a) :: as) | _, _ => none

def fieldPlaceB (fs : Array Field) (i : Nat) : Option (Nat × Nat) :=
  match fs[i]? with
  | some f => match eszB P f.type with | some n => some (f.offset, n) | none => none
  | none => none

def compCall (esc : List Nat) (c : Call) : Option K :=
  match c.callee with
  | .builtin b =>
    match b, c.argTypes.toList, c.args.toList with
    | .len, [t], [x] =>
      match P.underlying t, opd k x with
      | some .string, some a => some (.len true a)
      | some (.slice _), some a => some (.len false a)
      | some (.array n _), _ => some (.lenc n)
      | _, _ => none
    | .append, [t, t'], [x, y] =>
      match P.underlying t, P.underlying t', opd k x, opd k y with
      | some (.slice e), some (.slice _), some a, some b =>
        match P.info? e, zerosB P e with
        | some i, some (_, n) => if 0 < i.bytes then some (.append n i.bytes a b) else none
        | _, _ => none
      | _, _, _, _ => none
    | .max, _, [x, y] => match opd k x, opd k y with | some a, some b => some (.mm true a b) | _, _ => none
    | .min, _, [x, y] => match opd k x, opd k y with | some a, some b => some (.mm false a b) | _, _ => none
    | _, _, _ => none
  | .value (.func f) =>
    match k.idOf f, opds k c.args.toList with
    | some i, some as => if i < ownOff then (if esc.contains (ownOff + i) then some (.callo i as) else some (.call i as)) else none
    | _, _ => none
  | .value x =>
    match opd k x, opds k c.args.toList with
    | some f, some as => some (.callv f as)
    | _, _ => none
  | .invoke .. => none

def compOp (esc : List Nat) (dst : Option Nat) : Op → Option K
  | .move x | .assign x => match opd k x with | some a => some (.move a) | none => none
  | .pick c a b => match opd k c, opd k a, opd k b with | some c, some a, some b => some (.pick c a b) | _, _, _ => none
  | .alloc e =>
    match dst, zerosB P e with
    | some d, some (zs, n) =>
      if esc.contains d then some (.alloc (some d) n [row1 zs])
      else
        match P.underlying e with
        | some (.array m e') => match eszB P e' with | some s => if m * s = n then some (.alloc none s (chunks s m zs)) else none | none => none
        | _ => some (.alloc none n [row1 zs])
    | _, _ => none
  | .box e x =>
    match dst, eszB P e, opd k x with
    | some d, some n, some a =>
      if esc.contains d then some (.box (some d) n 1 a)
      else
        match P.underlying e with
        | some (.array m e') => match eszB P e' with | some s => if m * s = n then some (.box none s m a) else none | none => none
        | _ => some (.box none n 1 a)
    | _, _, _ => none
  | .build t ps =>
    match zerosB P t with
    | some (zs, _) =>
      match P.underlying t with
      | some (.struct fs) =>
        match fs.toList.mapM (fun f => (P.info? f.type).map fun i => (f.offset, i.size)) with
        | some pl => match parts3 k (pl.toArray[·]?) ps.toList with | some as => some (.build zs as) | none => none
        | none => none
      | some (.array _ e) =>
        match eszB P e with
        | some s => match parts3 k (fun i => some (i * s, s)) ps.toList with | some as => some (.build zs as) | none => none
        | none => none
      | _ => none
    | none => none
  | .buildSlice t n ps =>
    match P.underlying t with
    | some (.slice e) =>
      match zerosB P e, parts2 k ps.toList with
      | some (zs, s), some as => if n * s ≤ 16777216 then some (.lit s (row1 zs) n as) else none
      | _, _ => none
    | _ => none
  | .load t x => match isAggB P t, eszB P t, opd k x with | some g, some n, some a => some (.load g n a) | _, _, _ => none
  | .store t x y => match eszB P t, opd k x, opd k y with | some n, some a, some b => some (.store n a b) | _, _, _ => none
  | .nilCheck x => match opd k x with | some a => some (.nilchk a) | none => none
  | .binOp op t x y _ =>
    match opd k x, opd k y with
    | some a, some b =>
      match P.underlying t with
      | some (.int _) | some .string => some (.bin op a b)
      | _ =>
        match eqLay P 10 t, isAggB P t with
        | some ks, some g =>
          if g = false ∨ P.eqGuardType P.depth t = false then
            match op with
            | .eql => some (.eqv false g ks a b)
            | .neq => some (.eqv true g ks a b)
            | _ => none
          else none
        | _, _ => none
    | _, _ => none
  | .unOp op _ x => match opd k x with | some a => some (.un op a) | none => none
  | .convert src dst x =>
    match P.underlying src, P.underlying dst, opd k x with
    | some (.int _), some (.int q), some a => some (.conv q a)
    | some (.slice e), some .string, some a => match P.underlying e, P.info? e with | some (.int .u8), some _ => some (.b2s a) | _, _ => none
    | some .string, some (.slice e), some a => match P.underlying e, P.info? e with | some (.int .u8), some _ => some (.s2b a) | _, _ => none
    | _, _, _ => none
  | .makeFunc (.func f) first cs =>
    match first.toList, k.idOf f, opds k cs.toList with
    | [], some i, some as => some (.mkfn i as)
    | _, _, _ => none
  | .makeSlice t l c =>
    match P.underlying t, opd k l, opd k c with
    | some (.slice e), some a, some b =>
      match P.info? e, zerosB P e with
      | some i, some (zs, n) => some (.mksl n i.bytes (row1 zs) a b)
      | _, _ => none
    | _, _, _ => none
  | .slice t x lo hi none =>
    match P.underlying t, opd k x, opdo k lo, opdo k hi with
    | some .string, some a, some l, some h => some (.slice none a l h)
    | some (.slice e), some a, some l, some h => match eszB P e with | some s => some (.slice (some s) a l h) | none => none
    | some (.array n e), some a, some l, some h => match eszB P e with | some s => some (.aslice n s a l h) | none => none
    | _, _, _, _ => none
  | .fieldAddr t x i =>
    match P.underlying t, opd k x with
    | some (.struct fs), some a => match fieldPlaceB P fs i with | some (o, _) => some (.faddr o a) | none => none
    | _, _ => none
  | .field t x i =>
    match P.underlying t, opd k x with
    | some (.struct fs), some a =>
      match fs[i]? with
      | some f => match isAggB P f.type, eszB P f.type with | some g, some n => some (.field g f.offset n a) | _, _ => none
      | none => none
    | _, _ => none
  | .indexAddr t x i =>
    match P.underlying t, opd k x, opd k i with
    | some (.slice e), some a, some b => match eszB P e with | some s => some (.iaddr s a b) | none => none
    | some (.array n e), some a, some b => match eszB P e with | some s => some (.aaddr n s a b) | none => none
    | _, _, _ => none
  | .index t x i =>
    match P.underlying t, opd k x, opd k i with
    | some (.array n e), some a, some b => match isAggB P e, eszB P e with | some g, some s => some (.index g n s a b) | _, _ => none
    | some .string, some a, some b => some (.indexS a b)
    | _, _, _ => none
  | .extract x i => match opd k x with | some a => some (.extract a i) | none => none
  | .call c => compCall P k esc c
  | _ => none

def dstOk (nt : Nat) : Option Nat → Bool
  | none => true
  | some d => decide (d < nt)

def compOper (esc : List Nat) (nt : Nat) (ops : Array Oper) (o : Oper) : Option KO :=
  match compOp P k esc o.dst o.op with
  | none => none
  | some op =>
    if dstOk nt o.dst then
      match o.guard with
      | none => some { dst := o.dst, op := op, guard := none, after := (o.after.toList.filter (Region.binds .any)).map (·.on) }
      | some (j, want) =>
        match (ops[j]?).bind (·.dst) with
        | some t => if t < nt then some { dst := o.dst, op := op, guard := some (t, want), after := (o.after.toList.filter (Region.binds .any)).map (·.on) } else none
        | none => none
    else none

def compOpers (esc : List Nat) (nt : Nat) (ops : Array Oper) : List Oper → Option (List KO)
  | [] => some []
  | o :: os => match compOper P k esc nt ops o, compOpers esc nt ops os with | some x, some xs => some (x :: xs) | _, _ => none

def compCode (esc : List Nat) (nt : Nat) : Code → List (List Nat) → Option (KC × List (List Nat))
  | .skip, h => some (.skip, h)
  | .region _ ops draw, h =>
    match compOpers P k esc nt ops ops.toList with
    | some ks => some (if draw then .dregion ks else .region ks, h)
    | none => none
  | .seq a b, h =>
    match compCode esc nt a h with
    | some (x, h) => match compCode esc nt b h with
      | some (y, h) => some (.seq x y, h)
      | none => none
    | none => none
  | .cond c a b, h =>
    match opd k c with
    | some q =>
      match compCode esc nt a h with
      | some (x, h) => match compCode esc nt b h with
        | some (y, h) => some (.cond q x y, h)
        | none => none
      | none => none
    | none => none
  | .block id b, ks :: h => match compCode esc nt b h with | some (x, h) => some (.block id ks x, h) | none => none
  | .loop b, ks :: h => match compCode esc nt b h with | some (x, h) => some (.loop ks x, h) | none => none
  | .exit id, h => some (.exit id, h)
  | .ret, h => some (.ret, h)
  | _, _ => none

def compRes (nt : Nat) : List ResultVar → Option (List RV)
  | [] => some []
  | .tmp t :: r => match compRes nt r with | some xs => some (.t t :: xs) | none => none
  | .cell a t :: r => match isAggB P t, eszB P t, compRes nt r with | some g, some n, some xs => some (.cell a g n :: xs) | _, _, _ => none

def compF (h : Hint) (f : Nat) : Option CFun :=
  match P.funcs[f]? with
  | some fn =>
    if fn.name = "runtime.NumGoroutine" then none else
    match fn.body with
    | some c =>
      match compCode P k h.esc fn.ntmps c h.keeps, compRes P fn.ntmps fn.results.toList with
      | some (x, _), some rs => if fn.params.size + fn.nfree ≤ fn.ntmps then some { np := fn.params.size + fn.nfree, deep := h.deep, res := rs, body := x } else none
      | _, _ => none
    | none => none
  | none => none

end
end Go.Proofs.Ytkafliflpplpeaa.Sim
namespace Go.Proofs.Ytkafliflpplpeaa.Sim
set_option linter.unusedSimpArgs false
set_option linter.unusedVariables false
open Go

section
variable {lk : Nat → Option Nat} {c : Cx}

theorem FR.int {k : IntKind} {n : Int} {v : Value} (h : FR lk c (.int k n) v) : v = .int k n := by
  cases h with | r _ _ h => cases h with | d _ _ h => cases h; rfl
theorem FR.bool {b : Bool} {v : Value} (h : FR lk c (.bool b) v) : v = .bool b := by
  cases h with | r _ _ h => cases h with | d _ _ h => cases h; rfl
theorem FR.str {l : List UInt8} {v : Value} (h : FR lk c (.str l) v) : ∃ s : ByteArray, v = .string s ∧ s.data.toList = l := by
  cases h with | r _ _ h => cases h with | d _ _ h => cases h with | str s _ h => exact ⟨s, rfl, h⟩
theorem FR.agg {cs : List S} {v : Value} (h : FR lk c (.agg cs) v) : ∃ vs, v = .agg vs ∧ cs.length = vs.size ∧ ∀ (i : Nat) (x : S) (v : Value), cs[i]? = some x → vs[i]? = some v → VR lk c x v := by
  cases h with | r _ _ h => cases h with
    | d _ _ h => cases h
    | agg _ vs hl h => exact ⟨vs, rfl, hl, h⟩
theorem FR.tup {cs : List S} {v : Value} (h : FR lk c (.tup cs) v) : ∃ vs, v = .tuple vs ∧ cs.length = vs.size ∧ ∀ (i : Nat) (x : S) (v : Value), cs[i]? = some x → vs[i]? = some v → VR lk c x v := by
  cases h with | r _ _ h => cases h with
    | d _ _ h => cases h
    | tup _ vs hl h => exact ⟨vs, rfl, hl, h⟩
theorem FR.list {f q : Bool} {xs : List S} {v : Value} (h : FR lk c (.list f q xs) v) : VD c.w c.no c.out (.list f q xs) v := by
  cases h with | r _ _ h => cases h with | d _ _ h => exact h
theorem FR.ptr {l u row off : Nat} {v : Value} (h : FR lk c (.ptr l u row off) v) : ∃ p fz esz xs, v = .pointer (some p) ∧ c.blk (.h l) = some (.rows fz esz xs) ∧ u ≤ xs.length ∧
    (u = xs.length → ∃ b, c.at_ (.h l) = some b ∧ p = ⟨b, row * esz + off, none⟩) := by
  cases h with | r _ _ h => cases h with
    | d _ _ h => cases h
    | ptr _ _ _ _ p fz esz xs h1 h2 h3 => exact ⟨p, fz, esz, xs, rfl, h1, h2, h3⟩
theorem FR.own {l u off len : Nat} {v : Value} (h : FR lk c (.own l u off len) v) : ∃ a cap fz esz xs, v = .slice a len cap ∧ c.blk (.h l) = some (.rows fz esz xs) ∧ u ≤ xs.length ∧
    (u = xs.length → off + len ≤ xs.length ∧ ∃ b cells E fr, c.at_ (.h l) = some b ∧ c.w.heap[b]? = some (.cells cells E fr) ∧
        (a = some ⟨b, off * esz, none⟩ ∨ (len = 0 ∧ cap = 0)) ∧ (off + cap) * esz = cells.size) := by
  cases h with | r _ _ h => cases h with
    | d _ _ h => cases h
    | own _ _ _ _ a cap fz esz xs h1 h2 h3 => exact ⟨a, cap, fz, esz, xs, rfl, h1, h2, h3⟩
theorem FR.rptr {cs : List S} {off : Nat} {v : Value} (h : FR lk c (.rptr cs off) v) : ∃ b o, ∃ u : Nat → Value, v = .pointer (some ⟨b, o + off, none⟩) ∧ b < c.w.heap.size ∧ ¬ c.no b ∧
    (∀ (j : Nat) (s : S), cs[j]? = some s → c.w.cell? ⟨b, o + j, none⟩ = some (u j)) ∧ ∀ (j : Nat) (s : S), cs[j]? = some s → VD c.w c.no c.out s (u j) := by
  cases h with | r _ _ h => cases h with | d _ _ h => cases h with | rptr _ _ b o u h1 h2 h3 h4 => exact ⟨b, o, u, rfl, h1, h2, h3, h4⟩
theorem FR.loc' {t off : Nat} {v : Value} (h : FR lk c (.loc t off) v) : ∃ b fz esz xs, v = .pointer (some ⟨b, off, none⟩) ∧ c.blk (.v t) = some (.rows fz esz xs) ∧ c.at_ (.v t) = some b := by
  cases h with
  | r _ _ h => cases h with | d _ _ h => cases h
  | loc _ _ b fz esz xs h1 h2 => exact ⟨b, fz, esz, xs, rfl, h1, h2⟩
theorem FR.fn {f : Nat} {cs : List S} {v : Value} (h : FR lk c (.fn f cs) v) : ∃ g vs, v = .func (.func g) #[] vs ∧ lk f = some g ∧ cs.length = vs.size ∧ ∀ (i : Nat) (x : S) (v : Value), cs[i]? = some x → vs[i]? = some v → VR lk c x v := by
  cases h with | r _ _ h => cases h with
    | d _ _ h => cases h
    | fn _ g _ vs h1 h2 h3 => exact ⟨g, vs, rfl, h1, h2, h3⟩
theorem FR.nilp {v : Value} (h : FR lk c .nilp v) : v = .pointer none := by
  cases h with | r _ _ h => cases h with | d _ _ h => cases h; rfl
theorem FR.vr {x : S} {v : Value} (h : FR lk c x v) (hn : x ≠ .any) (hl : ∀ t o, x ≠ .loc t o) : VR lk c x v := by
  cases h with
  | r _ _ h => exact h
  | any => exact absurd rfl hn
  | loc t off => exact absurd rfl (hl t off)
theorem FR.okv {x : S} {v : Value} (h : FR lk c x v) (ho : x.okv = true) : VR lk c x v :=
  h.vr (fun e => by subst e; simp [S.okv] at ho) (fun t o e => by subst e; simp [S.okv] at ho)

/-- A value of one cell stands for one of one cell. -/
theorem VR.one {x : S} {v : Value} (h : VR lk c x v) (ho : x.okv = true) : v.oneCell' = true ∧ v.cells = #[v] := by
  cases h with
  | d _ _ h => cases h <;> exact ⟨rfl, rfl⟩
  | own => exact ⟨rfl, rfl⟩
  | ptr => exact ⟨rfl, rfl⟩
  | map => exact ⟨rfl, rfl⟩
  | agg => simp [S.okv] at ho
  | tup => simp [S.okv] at ho
  | fn => exact ⟨rfl, rfl⟩
  | skip => simp [S.okv] at ho

/-- The cells of a value stand for the cells of the other. -/
theorem FR.cells {x : S} {v : Value} (h : FR lk c x v) (hk : x.cells.all S.okv = true) :
    x.cells.length = v.cells.size ∧ ∀ (j : Nat) (s : S) (u : Value), x.cells[j]? = some s → v.cells[j]? = some u → VR lk c s u := by
  have hx : (∃ cs, x = .agg cs) ∨ x.cells = [x] := by cases x <;> simp [S.cells]
  rcases hx with ⟨cs, rfl⟩ | hx
  · obtain ⟨vs, rfl, hl, hv⟩ := h.agg
    exact ⟨hl, hv⟩
  · have ho : x.okv = true := by rw [hx] at hk; simpa using hk
    have hv := h.okv ho
    have h1 := (hv.one ho).2
    refine ⟨by rw [h1, hx]; rfl, fun j s u hs hu => ?_⟩
    rw [h1] at hu
    rw [hx] at hs
    cases j with
    | zero => simp at hs hu; subst hs; subst hu; exact hv
    | succ j => simp at hs

end

section
variable {P : Program} {k : Lnk} {c : Cx} {base : Nat}

def FrOk (lk : Nat → Option Nat) (c : Cx) (fr : Fr) (tmps : Array Value) : Prop := ∀ t, FR lk c (getF fr t) (tmps.getD t undef)

theorem cval1_vd {w : World} {ow out : Nat → Prop} {v : Value} {x : S} (h : cval1 v = some x) : VD w ow out x v := by
  unfold cval1 at h
  split at h <;> first | (cases h; first | exact .int _ _ | exact .bool _ | exact .str _ _ rfl | exact .nil _ _ _ _ (fun _ => rfl) | exact .nilp | exact .nilf) | cases h

theorem cvals_get : ∀ {vs : List Value} {xs : List S}, cvals vs = some xs → xs.length = vs.length ∧ ∀ (i : Nat) (x : S) (v : Value), xs[i]? = some x → vs[i]? = some v → cval1 v = some x
  | [], xs, h => by simp only [cvals, Option.some.injEq] at h; subst h; simp
  | v :: vs, xs, h => by
    simp only [cvals] at h
    split at h
    · rename_i x ys hx hy
      cases h
      obtain ⟨hl, hg⟩ := cvals_get hy
      refine ⟨by simp [hl], fun i x' v' h1 h2 => ?_⟩
      cases i with
      | zero => simp at h1 h2; subst h1; subst h2; exact hx
      | succ i => simp at h1 h2; exact hg i x' v' h1 h2
    · cases h

theorem cval_vr {lk : Nat → Option Nat} {v : Value} {x : S} (h : cval v = some x) : VR lk c x v := by
  unfold cval at h
  split at h
  · rename_i cs
    split at h
    · rename_i xs hx
      cases h
      obtain ⟨hl, hg⟩ := cvals_get hx
      refine .agg xs cs (by simpa using hl) (fun i x v h1 h2 => .d _ _ (cval1_vd (hg i x v h1 (by simpa using h2))))
    · cases h
  · exact .d _ _ (cval1_vd h)

theorem opd_fr {x : Operand} {q : A} {fr : Fr} {a : Act} (h : opd k x = some q) (hf : FrOk k.fid c fr a.tmps) : FR k.fid c (q.ev fr) (a.eval x) := by
  cases x with
  | tmp t => simp only [opd, Option.some.injEq] at h; subst h; exact hf t
  | const v =>
    simp only [opd] at h
    split at h
    · rename_i hv; cases h; exact .r _ _ (cval_vr hv)
    · cases h
  | func f =>
    simp only [opd] at h
    split at h
    · rename_i i hi
      cases h
      exact .r _ _ (.fn i f [] #[] (Lnk.idOf_fid hi) rfl (fun i x v hx => by simp at hx))
    · cases h
  | global g => simp [opd] at h

theorem opds_fr {fr : Fr} {a : Act} (hf : FrOk k.fid c fr a.tmps) : ∀ {xs : List Operand} {qs : List A}, opds k xs = some qs →
    qs.length = xs.length ∧ ∀ (i : Nat) (s : S) (v : Value), (evs fr qs)[i]? = some s → (xs.map a.eval)[i]? = some v → FR k.fid c s v
  | [], qs, h => by simp only [opds, Option.some.injEq] at h; subst h; simp [evs]
  | x :: xs, qs, h => by
    simp only [opds] at h
    split at h
    · rename_i q qs' hq hqs
      cases h
      obtain ⟨hl, hg⟩ := opds_fr hf hqs
      refine ⟨by simp [hl], fun i s v h1 h2 => ?_⟩
      cases i with
      | zero => simp [evs] at h1 h2; subst h1; subst h2; exact opd_fr hq hf
      | succ i => simp [evs] at h1 h2; exact hg i s v h1 (by simpa using h2)
    · cases h

theorem evs_length {fr : Fr} : ∀ (qs : List A), (evs fr qs).length = qs.length
  | [] => rfl
  | q :: qs => by simp [evs, evs_length qs]

def NxV : Next → Value → Prop
  | .value v, u => u = v
  | .skip, u => u = undef
  | _, _ => False

def VExt (fv : Option Nat) (c c' : Cx) : Prop :=
  ∀ t, fv ≠ some t → ∀ fz esz xs, c.blk (.v t) = some (.rows fz esz xs) → (∃ fz' xs', c'.blk (.v t) = some (.rows fz' esz xs')) ∧ c'.at_ (.v t) = c.at_ (.v t)

/-- The operation's run: it ends, in a world that the new memory stands for. -/
def Good (lk : Nat → Option Nat) (base : Nat) (c : Cx) (run : Result Next) (blk' : L → Option Blk) (fv : Option Nat) (v : S) : Prop :=
  ∃ nx val c', run = .ok nx c'.w ∧ NxV nx val ∧ c'.blk = blk' ∧ HR lk c' base ∧ Ext c c' ∧ VExt fv c c' ∧ FR lk c' v val

theorem VExt.refl (fv : Option Nat) (c : Cx) : VExt fv c c := fun _ _ fz _ xs h => ⟨⟨fz, xs, h⟩, rfl⟩

theorem Good.same {lk : Nat → Option Nat} {run : Result Next} {fv : Option Nat} {v : S} {val : Value} (h : HR lk c base) (hr : run = .ok (.value val) c.w) (hv : FR lk c v val) :
    Good lk base c run c.blk fv v :=
  ⟨.value val, val, c, hr, rfl, rfl, h, Ext.refl c, VExt.refl fv c, hv⟩

theorem FR.ofInt {lk : Nat → Option Nat} (q : IntKind) (n : Int) : FR lk c (.int q n) (.int q n) := .r _ _ (.d _ _ (.int q n))
theorem FR.ofBool {lk : Nat → Option Nat} (b : Bool) : FR lk c (.bool b) (.bool b) := .r _ _ (.d _ _ (.bool b))
theorem FR.ofStr {lk : Nat → Option Nat} (s : ByteArray) {l : List UInt8} (h : s.data.toList = l) : FR lk c (.str l) (.string s) := .r _ _ (.d _ _ (.str s l h))

theorem bytesLess_eq : ∀ (a b : List UInt8), bytesLess a b = Op.bytesLess a b
  | [], [] => rfl
  | [], _ :: _ => rfl
  | _ :: _, [] => rfl
  | a :: x, b :: y => by simp [bytesLess, Op.bytesLess, bytesLess_eq x y]

theorem toList_eq (s : ByteArray) : s.toList = s.data.toList := ByteArray.toList_eq s

end
end Go.Proofs.Ytkafliflpplpeaa.Sim
namespace Go.Proofs.Ytkafliflpplpeaa.Sim
set_option linter.unusedSimpArgs false
set_option linter.unusedVariables false
open Go

section
variable {P : Program} {lk : Nat → Option Nat} {c : Cx}

theorem run_eqGuard_int (w : World) (op : BinOp) (t : TypeId) (x y : Operand) (k k' : IntKind) (a b : Int) : (eqGuard op t x y (.int k a) (.int k' b)).run P w = .ok () w := by
  cases op <;> simp [eqGuard]
theorem run_eqGuard_str (w : World) (op : BinOp) (t : TypeId) (x y : Operand) (a b : ByteArray) : (eqGuard op t x y (.string a) (.string b)).run P w = .ok () w := by
  cases op <;> simp [eqGuard]

theorem run_bin {op : BinOp} {x y r : S} {vx vy : Value} (hx : FR lk c x vx) (hy : FR lk c y vy) (h : binS op x y = some r) (t : TypeId) (ox oy : Operand) (w : World) :
    ∃ val, (do eqGuard op t ox oy vx vy; binOp op t vx vy).run P w = .ok val w ∧ FR lk c r val := by
  cases x with
  | int k a =>
    have e1 := hx.int; subst e1
    cases y with
    | int k' b =>
      have e2 := hy.int; subst e2
      simp only [Sem.run_bind, run_eqGuard_int, Result.andThen_ok]
      cases op with
      | shl =>
        simp only [binS] at h
        split at h
        · cases h
        · rename_i hb
          cases h
          exact ⟨_, by simp [binOp, Op.shift, hb], .ofInt _ _⟩
      | shr =>
        simp only [binS] at h
        split at h
        · cases h
        · rename_i hb
          cases h
          exact ⟨_, by simp [binOp, Op.shift, hb], .ofInt _ _⟩
      | _ =>
        simp only [binS] at h
        split at h
        · rename_i hk
          subst hk
          simp only [binI] at h
          first
            | (cases h; refine ⟨_, ?_, .ofInt _ _⟩; simp only [binOp, ne_eq, not_true_eq_false, if_false]; rfl)
            | (cases h; refine ⟨_, ?_, .ofBool _⟩; simp only [binOp, ne_eq, not_true_eq_false, if_false]; rfl)
            | (split at h
               · cases h
               · rename_i hb
                 cases h
                 refine ⟨_, ?_, .ofInt _ _⟩
                 simp only [binOp, ne_eq, not_true_eq_false, if_false, Op.intDiv, hb]
                 rfl)
        · cases h
    | _ => simp [binS] at h
  | str a =>
    obtain ⟨s, rfl, hs⟩ := hx.str
    cases y with
    | str b =>
      obtain ⟨s', rfl, hs'⟩ := hy.str
      simp only [Sem.run_bind, run_eqGuard_str, Result.andThen_ok]
      have z1 : s.size = a.length := by rw [← hs]; simp
      have z2 : s'.size = b.length := by rw [← hs']; simp
      simp only [binS, binT] at h
      cases op <;> simp only at h <;> first
        | (cases h; done)
        | (split at h
           · rename_i hl
             cases h
             refine ⟨.string (s ++ s'), ?_, .ofStr _ (by simp [hs, hs'])⟩
             have : ¬ (((s.size + s'.size : Nat) : Int) > IntKind.i64.max) := by simp only [z1, z2, IntKind.max, IntKind.signed, IntKind.bits]; omega
             simp only [binOp, Op.stringOp]
             rw [if_neg this]
             rfl
           · cases h)
        | (cases h; exact ⟨_, by simp [binOp, Op.stringOp], by rw [toList_eq, toList_eq, hs, hs']; exact .ofBool _⟩)
        | (cases h; exact ⟨_, by simp only [binOp, Op.stringOp]; rfl, by simp only [toList_eq, hs, hs', ← bytesLess_eq]; exact .ofBool _⟩)
    | _ => simp [binS] at h
  | _ => simp [binS] at h

theorem run_un {op : UnOp} {x r : S} {vx : Value} (hx : FR lk c x vx) (h : unS op x = some r) (w : World) :
    ∃ val, (Op.unary op vx).run P w = .ok val w ∧ FR lk c r val := by
  cases x with
  | int k n =>
    have e := hx.int; subst e
    cases op <;> simp only [unS] at h <;> first
      | (cases h; done)
      | (cases h; refine ⟨_, ?_, .ofInt _ _⟩; simp only [Op.unary]; rfl)
      | (cases h; refine ⟨_, ?_, .ofInt _ _⟩; rfl)
  | bool b =>
    have e := hx.bool; subst e
    cases op <;> simp only [unS] at h <;> first
      | (cases h; done)
      | (cases h; exact ⟨_, by simp [Op.unary], .ofBool _⟩)
  | _ => simp [unS] at h

end
end Go.Proofs.Ytkafliflpplpeaa.Sim
namespace Go.Proofs.Ytkafliflpplpeaa.Sim
set_option linter.unusedSimpArgs false
set_option linter.unusedVariables false
open Go

theorem add_lit (b o n : Nat) : (⟨b, o, none⟩ : Addr).add n = ⟨b, o + n, none⟩ := by
  unfold Addr.add
  split
  · rename_i h; subst h; rfl
  · rfl

section
variable {P : Program} {k : Lnk} {c : Cx} {base : Nat} {st : St} {a : Act} {o : Oper} {esc : List Nat} {dp : Nat → List S → Hp → Option S} {slot : Nat} {K : K} {v : S} {rd : List L} {wr : List (L × Blk)}

theorem getD_of_get {tmps : Array Value} {t : Nat} {u : Value} (h : tmps[t]? = some u) : tmps.getD t undef = u := by
  simp [Array.getD_eq_getD_getElem?, h]

theorem good_move (hf : FrOk k.fid c st.fr a.tmps) (h : HR k.fid c base) (hb : c.blk = st.blk) {x : Operand} (ho : o.op = .move x ∨ o.op = .assign x) {q : A} (hq : opd k x = some q)
    (he : evalK dp slot st (.move q) = some (v, rd, wr)) : Good k.fid base c ((execOp a.eval o).run P c.w) (st.wrs wr).blk none v := by
  simp only [evalK, Option.some.injEq, Prod.mk.injEq] at he
  obtain ⟨rfl, rfl, rfl⟩ := he
  simp only [St.wrs, ← hb]
  exact Good.same h (by rcases ho with ho | ho <;> simp [execOp, ho]) (opd_fr hq hf)

theorem good_pick (hf : FrOk k.fid c st.fr a.tmps) (h : HR k.fid c base) (hb : c.blk = st.blk) {x y z : Operand} (ho : o.op = .pick x y z) {p q r : A} (hp : opd k x = some p) (hq : opd k y = some q) (hr : opd k z = some r)
    (he : evalK dp slot st (.pick p q r) = some (v, rd, wr)) : Good k.fid base c ((execOp a.eval o).run P c.w) (st.wrs wr).blk none v := by
  have hx := opd_fr hp hf
  simp only [evalK] at he
  split at he
  · rename_i hx1
    rw [hx1] at hx
    have hx' := hx.bool
    simp only [Option.some.injEq, Prod.mk.injEq] at he
    obtain ⟨rfl, rfl, rfl⟩ := he
    simp only [St.wrs, ← hb]
    exact Good.same h (by simp [execOp, ho, hx', asBool]) (opd_fr hq hf)
  · rename_i hx1
    rw [hx1] at hx
    have hx' := hx.bool
    simp only [Option.some.injEq, Prod.mk.injEq] at he
    obtain ⟨rfl, rfl, rfl⟩ := he
    simp only [St.wrs, ← hb]
    exact Good.same h (by simp [execOp, ho, hx', asBool]) (opd_fr hr hf)
  · cases he

theorem good_bin (hf : FrOk k.fid c st.fr a.tmps) (h : HR k.fid c base) (hb : c.blk = st.blk) {x y : Operand} {op : BinOp} {t t' : TypeId} (ho : o.op = .binOp op t x y t') {p q : A} (hp : opd k x = some p) (hq : opd k y = some q)
    (he : evalK dp slot st (.bin op p q) = some (v, rd, wr)) : Good k.fid base c ((execOp a.eval o).run P c.w) (st.wrs wr).blk none v := by
  simp only [evalK, Option.map_eq_some_iff, Prod.mk.injEq] at he
  obtain ⟨r, hr, rfl, rfl, rfl⟩ := he
  simp only [St.wrs, ← hb]
  obtain ⟨val, h1, h2⟩ := run_bin (P := P) (opd_fr hp hf) (opd_fr hq hf) hr t x y c.w
  refine Good.same h ?_ h2
  simp only [execOp, ho]
  simp only [Sem.run_bind] at h1 ⊢
  rw [h1]
  rfl

theorem good_un (hf : FrOk k.fid c st.fr a.tmps) (h : HR k.fid c base) (hb : c.blk = st.blk) {x : Operand} {op : UnOp} {t : TypeId} (ho : o.op = .unOp op t x) {p : A} (hp : opd k x = some p)
    (he : evalK dp slot st (.un op p) = some (v, rd, wr)) : Good k.fid base c ((execOp a.eval o).run P c.w) (st.wrs wr).blk none v := by
  simp only [evalK, Option.map_eq_some_iff, Prod.mk.injEq] at he
  obtain ⟨r, hr, rfl, rfl, rfl⟩ := he
  simp only [St.wrs, ← hb]
  obtain ⟨val, h1, h2⟩ := run_un (P := P) (opd_fr hp hf) hr c.w
  refine Good.same h ?_ h2
  simp only [execOp, ho, Sem.run_bind, h1]
  rfl

theorem good_conv (hf : FrOk k.fid c st.fr a.tmps) (h : HR k.fid c base) (hb : c.blk = st.blk) {x : Operand} {s d : TypeId} {q r : IntKind} (ho : o.op = .convert s d x) (hs : P.underlying s = some (.int q)) (hd : P.underlying d = some (.int r)) {p : A} (hp : opd k x = some p)
    (he : evalK dp slot st (.conv r p) = some (v, rd, wr)) : Good k.fid base c ((execOp a.eval o).run P c.w) (st.wrs wr).blk none v := by
  have hx := opd_fr hp hf
  simp only [evalK] at he
  split at he
  · rename_i kk n hx1
    rw [hx1] at hx
    have hx' := hx.int
    simp only [Option.some.injEq, Prod.mk.injEq] at he
    obtain ⟨rfl, rfl, rfl⟩ := he
    simp only [St.wrs, ← hb]
    refine Good.same h ?_ (.ofInt _ _)
    simp [execOp, ho, hx', convert, run_underlying hs, run_underlying hd, Conv.intToInt]
  · cases he

theorem good_nilchk (hf : FrOk k.fid c st.fr a.tmps) (h : HR k.fid c base) (hb : c.blk = st.blk) {x : Operand} (ho : o.op = .nilCheck x) {p : A} (hp : opd k x = some p)
    (he : evalK dp slot st (.nilchk p) = some (v, rd, wr)) : Good k.fid base c ((execOp a.eval o).run P c.w) (st.wrs wr).blk none v := by
  have hx := opd_fr hp hf
  simp only [evalK] at he
  split at he
  · rename_i l u r i hx1
    rw [hx1] at hx
    cases he
    simp only [St.wrs, ← hb]
    obtain ⟨pp, _, _, _, e, _⟩ := hx.ptr
    exact Good.same h (by simp [execOp, ho, e]) hx
  · rename_i cs i hx1
    rw [hx1] at hx
    cases he
    simp only [St.wrs, ← hb]
    obtain ⟨_, _, _, e, _⟩ := hx.rptr
    exact Good.same h (by simp [execOp, ho, e]) hx
  · rename_i t i hx1
    rw [hx1] at hx
    cases he
    simp only [St.wrs, ← hb]
    obtain ⟨_, _, _, _, e, _⟩ := hx.loc'
    exact Good.same h (by simp [execOp, ho, e]) hx
  · cases he

theorem good_faddr (hf : FrOk k.fid c st.fr a.tmps) (h : HR k.fid c base) (hb : c.blk = st.blk) {x : Operand} {t : TypeId} {i : Nat} {fs : Array Field} (ho : o.op = .fieldAddr t x i) (ht : P.underlying t = some (.struct fs))
    {off n : Nat} (hfp : fieldPlaceB P fs i = some (off, n)) {p : A} (hp : opd k x = some p)
    (he : evalK dp slot st (.faddr off p) = some (v, rd, wr)) : Good k.fid base c ((execOp a.eval o).run P c.w) (st.wrs wr).blk none v := by
  have hx := opd_fr hp hf
  have hrun : ∀ ad : Addr, a.eval x = .pointer (some ad) → (execOp a.eval o).run P c.w = .ok (.value (.pointer (some (ad.add off)))) c.w := by
    intro ad had
    unfold fieldPlaceB at hfp
    split at hfp
    · rename_i f hfi
      split at hfp
      · rename_i m hm
        cases hfp
        unfold eszB at hm
        split at hm
        · rename_i ti hti
          split at hm
          · rename_i hpos
            cases hm
            have hne : ¬ ti.size = 0 := by omega
            simp [execOp, ho, Instr.fieldAt, run_underlying ht, hfi, had, Instr.sureAddr, fieldPlace, sizeOf, typeInfo, hti, hne]
          · cases hm
        · cases hm
      · cases hfp
    · cases hfp
  simp only [evalK] at he
  split at he
  · rename_i l u r j hx1
    rw [hx1] at hx
    cases he
    simp only [St.wrs, ← hb]
    obtain ⟨pp, fz, esz, xs, e, h1, h2, h3⟩ := hx.ptr
    refine Good.same h (hrun pp e) (.r _ _ (.ptr _ _ _ _ _ fz esz xs h1 h2 (fun hu => ?_)))
    obtain ⟨b, hb1, hb2⟩ := h3 hu
    exact ⟨b, hb1, by rw [hb2, add_lit, Nat.add_assoc]⟩
  · rename_i cs j hx1
    rw [hx1] at hx
    cases he
    simp only [St.wrs, ← hb]
    obtain ⟨b, oo, u, e, h1, h2, h3, h4⟩ := hx.rptr
    refine Good.same h (hrun _ e) ?_
    rw [add_lit, Nat.add_assoc]
    exact .r _ _ (.d _ _ (.rptr cs (j + off) b oo u h1 h2 h3 h4))
  · rename_i t' j hx1
    rw [hx1] at hx
    cases he
    simp only [St.wrs, ← hb]
    obtain ⟨b, fz, esz, xs, e, h1, h2⟩ := hx.loc'
    refine Good.same h (hrun _ e) ?_
    rw [add_lit]
    exact .loc _ _ b fz esz xs h1 h2
  · cases he

theorem mk_fr {g : Bool} {cs : List S} {x : S} (hm : mk g cs = some x) {vs : List Value} (hl : cs.length = vs.length) (h : ∀ (i : Nat) (s : S) (u : Value), cs[i]? = some s → vs[i]? = some u → VR k.fid c s u) :
    (g = true → FR k.fid c x (.agg vs.toArray)) ∧ (g = false → ∃ u, vs = [u] ∧ FR k.fid c x u) := by
  unfold mk at hm
  split at hm
  · rename_i hg
    cases hm
    refine ⟨fun _ => .r _ _ (.agg cs vs.toArray (by simpa using hl) (fun i s u h1 h2 => h i s u h1 (by simpa using h2))), fun hh => by simp [hg] at hh⟩
  · rename_i hg
    split at hm
    · rename_i s
      cases hm
      refine ⟨fun hh => absurd hh hg, fun _ => ?_⟩
      match vs, hl with
      | [u], _ => exact ⟨u, rfl, .r _ _ (h 0 x u rfl rfl)⟩
    · cases hm

theorem isAgg_run {t : TypeId} {g : Bool} (hg : isAggB P t = some g) (w : World) : (isAgg t).run P w = .ok g w := by
  unfold isAggB at hg
  split at hg <;> first | (cases hg; rename_i hu; simp [isAgg, run_underlying hu]) | (cases hg; done) | skip

theorem sizeOf_run {t : TypeId} {n : Nat} (hn : eszB P t = some n) (w : World) : (sizeOf t).run P w = .ok n w ∧ 0 < n := by
  unfold eszB at hn
  split at hn
  · rename_i ti hti
    split at hn
    · rename_i hp; cases hn; exact ⟨by simp [sizeOf, typeInfo, hti], hp⟩
    · cases hn
  · cases hn

/-- A part of a value of several cells. -/
theorem part_fr {t : TypeId} {g : Bool} {n : Nat} (hg : isAggB P t = some g) (hn : eszB P t = some n) {cs : List S} {arr : Array Value} (hl : cs.length = arr.size)
    (h : ∀ (i : Nat) (s : S) (u : Value), cs[i]? = some s → arr[i]? = some u → VR k.fid c s u) {off : Nat} (ho : off + n ≤ cs.length) {x : S} (hm : mk g ((cs.drop off).take n) = some x) (w : World) :
    ∃ u, (part t arr off).run P w = .ok u w ∧ FR k.fid c x u := by
  have hlist : ((cs.drop off).take n).length = ((arr.toList.drop off).take n).length := by simp [hl]
  obtain ⟨m1, m2⟩ := mk_fr (k := k) (c := c) hm hlist (fun i s u h1 h2 => by
    simp only [List.getElem?_take, List.getElem?_drop] at h1 h2
    split at h1
    · rename_i hi
      rw [if_pos hi] at h2
      exact h (off + i) s u h1 (by simpa using h2)
    · cases h1)
  obtain ⟨hs, hpos⟩ := sizeOf_run hn w
  cases g with
  | true =>
    refine ⟨_, ?_, m1 rfl⟩
    simp only [part, Sem.run_bind, isAgg_run hg w, Result.andThen_ok, if_true, hs, Sem.run_pure]
    congr 2
    apply Array.ext'
    simp [Array.toList_extract, List.extract_eq_take_drop]
  | false =>
    obtain ⟨u, hu, hv⟩ := m2 rfl
    refine ⟨u, ?_, hv⟩
    have hn1 : n = 1 := by
      have := congrArg List.length hu
      simp at this
      omega
    subst hn1
    have hget : arr[off]? = some u := by
      have := congrArg (fun l => l[0]?) hu
      simpa [List.getElem?_take, List.getElem?_drop] using this
    simp [part, isAgg_run hg w, hget]

theorem good_field (hf : FrOk k.fid c st.fr a.tmps) (h : HR k.fid c base) (hb : c.blk = st.blk) {x : Operand} {t : TypeId} {i : Nat} {fs : Array Field} (ho : o.op = .field t x i) (ht : P.underlying t = some (.struct fs))
    {f : Field} (hfi : fs[i]? = some f) {g : Bool} {n : Nat} (hg : isAggB P f.type = some g) (hn : eszB P f.type = some n) {p : A} (hp : opd k x = some p)
    (he : evalK dp slot st (.field g f.offset n p) = some (v, rd, wr)) : Good k.fid base c ((execOp a.eval o).run P c.w) (st.wrs wr).blk none v := by
  have hx := opd_fr hp hf
  simp only [evalK] at he
  split at he
  · rename_i cs hx1
    rw [hx1] at hx
    obtain ⟨arr, e, hl, hv⟩ := hx.agg
    split at he
    · rename_i hle
      simp only [Option.map_eq_some_iff, Prod.mk.injEq] at he
      obtain ⟨r, hr, rfl, rfl, rfl⟩ := he
      simp only [St.wrs, ← hb]
      obtain ⟨u, h1, h2⟩ := part_fr (P := P) hg hn hl hv hle hr c.w
      refine Good.same h ?_ h2
      simp [execOp, ho, Instr.field, run_underlying ht, hfi, e, asAgg, h1]
    · cases he
  · cases he

theorem good_extract (hf : FrOk k.fid c st.fr a.tmps) (h : HR k.fid c base) (hb : c.blk = st.blk) {x : Operand} {i : Nat} (ho : o.op = .extract x i) {p : A} (hp : opd k x = some p)
    (he : evalK dp slot st (.extract p i) = some (v, rd, wr)) : Good k.fid base c ((execOp a.eval o).run P c.w) (st.wrs wr).blk none v := by
  have hx := opd_fr hp hf
  simp only [evalK] at he
  split at he
  · rename_i vs hx1
    rw [hx1] at hx
    obtain ⟨arr, e, hl, hv⟩ := hx.tup
    split at he
    · rename_i r hr
      cases he
      simp only [St.wrs, ← hb]
      have hi : i < arr.size := by
        rw [← hl]; exact (List.getElem?_eq_some_iff.1 hr).1
      refine Good.same (val := arr[i]) h ?_ (.r _ _ (hv i v arr[i] hr (by simp [hi])))
      simp [execOp, ho, Instr.extract, e, hi]
    · cases he
  · cases he

end
end Go.Proofs.Ytkafliflpplpeaa.Sim
namespace Go.Proofs.Ytkafliflpplpeaa.Sim
set_option linter.unusedSimpArgs false
set_option linter.unusedVariables false
open Go

section
variable {P : Program} {k : Lnk} {c : Cx} {base : Nat} {st : St} {a : Act} {o : Oper} {dp : Nat → List S → Hp → Option S} {slot : Nat} {v : S} {rd : List L} {wr : List (L × Blk)}

theorem good_index (hf : FrOk k.fid c st.fr a.tmps) (h : HR k.fid c base) (hb : c.blk = st.blk) {x y : Operand} {t e : TypeId} {m : Nat} (ho : o.op = .index t x y) (ht : P.underlying t = some (.array m e))
    {g : Bool} {n : Nat} (hg : isAggB P e = some g) (hn : eszB P e = some n) {p q : A} (hp : opd k x = some p) (hq : opd k y = some q)
    (he : evalK dp slot st (.index g m n p q) = some (v, rd, wr)) : Good k.fid base c ((execOp a.eval o).run P c.w) (st.wrs wr).blk none v := by
  have hx := opd_fr hp hf
  have hy := opd_fr hq hf
  simp only [evalK] at he
  split at he
  · rename_i cs kk i hx1 hy1
    rw [hx1] at hx
    rw [hy1] at hy
    have hy' := hy.int
    obtain ⟨arr, e1, hl, hv⟩ := hx.agg
    split at he
    · rename_i hle
      obtain ⟨h0, h1, h2⟩ := hle
      simp only [Option.map_eq_some_iff, Prod.mk.injEq] at he
      obtain ⟨r, hr, rfl, rfl, rfl⟩ := he
      simp only [St.wrs, ← hb]
      have hlt : i.toNat < m := by omega
      have hin : i.toNat * n + n ≤ cs.length := by
        rw [h2, ← Nat.succ_mul]; exact Nat.mul_le_mul_right _ hlt
      obtain ⟨u, h3, h4⟩ := part_fr (P := P) hg hn hl hv hin hr c.w
      refine Good.same h ?_ h4
      simp [execOp, ho, Instr.index, asIntOf, run_underlying ht, e1, hy', h0, h1, (sizeOf_run hn c.w).1, h3]
    · cases he
  · cases he

theorem good_indexS (hf : FrOk k.fid c st.fr a.tmps) (h : HR k.fid c base) (hb : c.blk = st.blk) {x y : Operand} {t : TypeId} (ho : o.op = .index t x y) (ht : P.underlying t = some .string)
    {p q : A} (hp : opd k x = some p) (hq : opd k y = some q)
    (he : evalK dp slot st (.indexS p q) = some (v, rd, wr)) : Good k.fid base c ((execOp a.eval o).run P c.w) (st.wrs wr).blk none v := by
  have hx := opd_fr hp hf
  have hy := opd_fr hq hf
  simp only [evalK] at he
  split at he
  · rename_i s kk i hx1 hy1
    rw [hx1] at hx
    rw [hy1] at hy
    have hy' := hy.int
    obtain ⟨bs, e1, hs⟩ := hx.str
    split at he
    · rename_i h0
      split at he
      · rename_i b hbt
        cases he
        simp only [St.wrs, ← hb]
        refine Good.same h ?_ (.ofInt _ _)
        have hget : bs[i.toNat]? = some b := by
          rw [← hs] at hbt
          have := List.getElem?_eq_some_iff.1 hbt
          obtain ⟨h1, h2⟩ := this
          have hlt : i.toNat < bs.size := by simpa using h1
          rw [getElem?_pos bs i.toNat hlt]
          congr 1
        simp [execOp, ho, Instr.index, asIntOf, run_underlying ht, e1, hy', h0, hget]
      · cases he
    · cases he
  · cases he

theorem VD.okv {w : World} {ow out : Nat → Prop} {x : S} {u : Value} (h : VD w ow out x u) : x.okv = true := by cases h <;> rfl

theorem VD.list_len {w : World} {ow out : Nat → Prop} {f q : Bool} {xs : List S} {u : Value} (h : VD w ow out (.list f q xs) u) :
    ∃ a cap, u = .slice a xs.length cap ∧ xs.length ≤ cap ∧ (f = true → cap = xs.length) := by
  cases h with
  | nil _ _ a cap h => exact ⟨a, cap, rfl, Nat.zero_le _, h⟩
  | list _ _ _ b o esz len cap u hlen hle hf => subst hlen; exact ⟨_, cap, rfl, hle, hf⟩

theorem good_len {x : Operand} {t : TypeId} {as : Array TypeId} {xs : Array Operand} (ho : o.op = .call { callee := .builtin .len, args := xs, argTypes := as })
    (hf : FrOk k.fid c st.fr a.tmps) (h : HR k.fid c base) (hb : c.blk = st.blk)
    (has : as.toList = [t]) (hxs : xs.toList = [x]) {g : Bool} (ht : (g = true ∧ P.underlying t = some .string) ∨ (g = false ∧ ∃ e, P.underlying t = some (.slice e))) {p : A} (hp : opd k x = some p)
    (he : evalK dp slot st (.len g p) = some (v, rd, wr)) : Good k.fid base c ((execOp a.eval o).run P c.w) (st.wrs wr).blk none v := by
  have hx := opd_fr hp hf
  have e1 : as = #[t] := by cases as; simp_all
  have e2 : xs = #[x] := by cases xs; simp_all
  subst e1 e2
  simp only [evalK] at he
  split at he
  · rename_i s hx1
    rw [hx1] at hx
    obtain ⟨bs, e1, hs⟩ := hx.str
    cases he
    simp only [St.wrs, ← hb]
    have hz : s.length = bs.size := by rw [← hs]; simp
    refine Good.same (val := .int .i64 s.length) h ?_ (.ofInt _ _)
    rcases ht with ⟨_, ht⟩ | ⟨hg, _⟩
    · simp [execOp, ho, resolve, invoke, builtin, Builtin.len_, run_underlying ht, e1, goInt, hz]
    · cases hg
  · rename_i f pr ys hx1
    rw [hx1] at hx
    obtain ⟨ad, cap, e1, _⟩ := hx.list.list_len
    cases he
    simp only [St.wrs, ← hb]
    refine Good.same (val := .int .i64 ys.length) h ?_ (.ofInt _ _)
    rcases ht with ⟨hg, _⟩ | ⟨_, e, ht⟩
    · cases hg
    · simp [execOp, ho, resolve, invoke, builtin, Builtin.len_, run_underlying ht, e1, goInt]
  · rename_i l u off len hx1
    rw [hx1] at hx
    obtain ⟨ad, cap, fz, esz, ys, e1, _⟩ := hx.own
    cases he
    simp only [St.wrs, ← hb]
    refine Good.same (val := .int .i64 len) h ?_ (.ofInt _ _)
    rcases ht with ⟨hg, _⟩ | ⟨_, e, ht⟩
    · cases hg
    · simp [execOp, ho, resolve, invoke, builtin, Builtin.len_, run_underlying ht, e1, goInt]
  · cases he

theorem good_lenc {t e : TypeId} {n : Nat} {x : Operand} {as : Array TypeId} {xs : Array Operand} (ho : o.op = .call { callee := .builtin .len, args := xs, argTypes := as })
    (h : HR k.fid c base) (hb : c.blk = st.blk)
    (has : as.toList = [t]) (hxs : xs.toList = [x]) (ht : P.underlying t = some (.array n e))
    (he : evalK dp slot st (.lenc n) = some (v, rd, wr)) : Good k.fid base c ((execOp a.eval o).run P c.w) (st.wrs wr).blk none v := by
  have e1 : as = #[t] := by cases as; simp_all
  have e2 : xs = #[x] := by cases xs; simp_all
  subst e1 e2
  cases he
  simp only [St.wrs, ← hb]
  refine Good.same (val := .int .i64 n) h ?_ (.ofInt _ _)
  simp [execOp, ho, resolve, invoke, builtin, Builtin.len_, run_underlying ht, goInt]

theorem good_mm {mx : Bool} {x y : Operand} {as : Array TypeId} {xs : Array Operand} (ho : o.op = .call { callee := .builtin (if mx then .max else .min), args := xs, argTypes := as })
    (hf : FrOk k.fid c st.fr a.tmps) (h : HR k.fid c base) (hb : c.blk = st.blk)
    (hxs : xs.toList = [x, y]) {p q : A} (hp : opd k x = some p) (hq : opd k y = some q)
    (he : evalK dp slot st (.mm mx p q) = some (v, rd, wr)) : Good k.fid base c ((execOp a.eval o).run P c.w) (st.wrs wr).blk none v := by
  have hx := opd_fr hp hf
  have hy := opd_fr hq hf
  have e2 : xs = #[x, y] := by cases xs; simp_all
  subst e2
  simp only [evalK] at he
  split at he
  · rename_i kk n kk' m hx1 hy1
    rw [hx1] at hx
    rw [hy1] at hy
    have hx' := hx.int
    have hy' := hy.int
    split at he
    · rename_i hk
      cases he
      simp only [St.wrs, ← hb]
      refine Good.same h ?_ (.ofInt _ _)
      cases mx
      · simp [execOp, ho, resolve, invoke, builtin, Builtin.min_, Builtin.min2, hx', hy', List.foldlM]
      · simp [execOp, ho, resolve, invoke, builtin, Builtin.max_, Builtin.max2, hx', hy', List.foldlM]
    · cases he
  · cases he

theorem evs_get {fr : Fr} : ∀ (qs : List A) (i : Nat), (evs fr qs)[i]? = (qs[i]?).map (A.ev fr)
  | [], i => by simp [evs]
  | q :: qs, 0 => by simp [evs]
  | q :: qs, i + 1 => by simp [evs, evs_get qs i]

theorem good_mkfn {f i : Nat} {cs : Array Operand} (ho : o.op = .makeFunc (.func f) #[] cs) (hf : FrOk k.fid c st.fr a.tmps) (h : HR k.fid c base) (hb : c.blk = st.blk)
    (hi : k.idOf f = some i) {as : List A} (has : opds k cs.toList = some as)
    (he : evalK dp slot st (.mkfn i as) = some (v, rd, wr)) : Good k.fid base c ((execOp a.eval o).run P c.w) (st.wrs wr).blk none v := by
  obtain ⟨hl, hg⟩ := opds_fr hf has
  simp only [evalK] at he
  split at he
  · rename_i hok
    cases he
    simp only [St.wrs, ← hb]
    refine Good.same (val := .func (.func f) #[] (cs.map a.eval)) h (by simp [execOp, ho, Instr.makeFunc]) (.r _ _ (.fn i f _ _ (Lnk.idOf_fid hi) (by simp [evs_length, hl]) ?_))
    intro j x u hx hu
    have hfr := hg j x u hx (by simpa using hu)
    exact hfr.okv (List.all_eq_true.1 hok x (List.mem_of_getElem? hx))
  · cases he

/-- An element of a list: where its cells lie. -/
theorem VD.list_elem {w : World} {ow out : Nat → Prop} {f q : Bool} {xs : List S} {val : Value} (h : VD w ow out (.list f q xs) val) {i : Nat} {x : S} (hx : xs[i]? = some x) :
    ∃ b oo cap, ∃ u : Nat → Value, val = .slice (some ⟨b, oo, none⟩) xs.length cap ∧ b < w.heap.size ∧ ¬ ow b ∧
      (∀ (j : Nat) (s : S), x.cells[j]? = some s → w.cell? ⟨b, oo + (i * x.cells.length + j), none⟩ = some (u j)) ∧ ∀ (j : Nat) (s : S), x.cells[j]? = some s → VD w ow out s (u j) := by
  cases h with
  | nil => simp at hx
  | list _ _ _ b oo esz len cap u hlen hle hf hb how hout hrow hpr hcell hv =>
    subst hlen
    refine ⟨b, oo, cap, u i, rfl, hb, how, fun j s hs => ?_, fun j s hs => hv i x j s hx hs⟩
    rw [hrow i x hx]
    exact hcell i x j s hx hs

theorem good_iaddr {x y : Operand} {t e : TypeId} (ho : o.op = .indexAddr t x y) (ht : P.underlying t = some (.slice e)) {esz : Nat} (hn : eszB P e = some esz)
    (hf : FrOk k.fid c st.fr a.tmps) (h : HR k.fid c base) (hb : c.blk = st.blk) {p q : A} (hp : opd k x = some p) (hq : opd k y = some q)
    (he : evalK dp slot st (.iaddr esz p q) = some (v, rd, wr)) : Good k.fid base c ((execOp a.eval o).run P c.w) (st.wrs wr).blk none v := by
  have hx := opd_fr hp hf
  have hy := opd_fr hq hf
  have hrun : ∀ kk (i : Int) ad len cap, a.eval y = .int kk i → 0 ≤ i → i < (len : Nat) → a.eval x = .slice (some ad) len cap →
      (execOp a.eval o).run P c.w = .ok (.value (.pointer (some (ad.add (i.toNat * esz))))) c.w := by
    intro kk i ad len cap e1 h0 h1 e2
    simp [execOp, ho, Instr.indexAt, asIntOf, run_underlying ht, e1, e2, h0, h1, (sizeOf_run hn c.w).1]
  simp only [evalK] at he
  split at he
  · rename_i fl pr xs kk i hx1 hy1
    rw [hx1] at hx
    rw [hy1] at hy
    split at he
    · rename_i h0
      split at he
      · rename_i el hel
        split at he
        · rename_i hsz
          cases he
          simp only [St.wrs, ← hb]
          obtain ⟨b, oo, cap, u, e1, h1, h2, h3, h4⟩ := hx.list.list_elem hel
          have hlt : i.toNat < xs.length := (List.getElem?_eq_some_iff.1 hel).1
          refine Good.same h (hrun kk i _ _ cap hy.int h0 (by omega) e1) ?_
          rw [add_lit]
          have hd := VD.rptr (w := c.w) (ow := c.no) (out := c.out) el.cells 0 b (oo + i.toNat * esz) u h1 h2 (fun j s hs => by
            have := h3 j s hs
            rw [hsz] at this
            rw [Nat.add_assoc]; exact this) h4
          exact .r _ _ (.d _ _ hd)
        · cases he
      · cases he
    · cases he
  · rename_i l u off len kk i hx1 hy1
    rw [hx1] at hx
    rw [hy1] at hy
    split at he
    · rename_i h0
      split at he
      · rename_i fz e' xs hblk
        split at he
        · rename_i hcond
          obtain ⟨hv, he'⟩ := hcond
          cases he
          simp only [St.wrs, ← hb]
          obtain ⟨ad, cap, fz', esz', xs', e1, hb1, hv1, hh⟩ := hx.own
          have heq : c.blk (.h l) = some (.rows fz e' xs) := by rw [hb]; exact hblk
          rw [heq] at hb1
          cases hb1
          obtain ⟨hle, b, cells, E, frz, ha, hc, haddr, hcap⟩ := hh hv
          have hlen : ¬ (len = 0 ∧ cap = 0) := by omega
          have had := haddr.resolve_right hlen
          subst had
          refine Good.same h (hrun kk i _ len cap hy.int h0.1 (by omega) e1) (.r _ _ (.ptr _ _ _ _ _ fz e' xs heq hv1 (fun _ => ⟨b, ha, ?_⟩)))
          rw [add_lit, ← he', Nat.add_mul]
          rfl
        · cases he
      · cases he
    · cases he
  · cases he

theorem good_aaddr {x y : Operand} {t e : TypeId} {n : Nat} (ho : o.op = .indexAddr t x y) (ht : P.underlying t = some (.array n e)) {esz : Nat} (hn : eszB P e = some esz)
    (hf : FrOk k.fid c st.fr a.tmps) (h : HR k.fid c base) (hb : c.blk = st.blk) {p q : A} (hp : opd k x = some p) (hq : opd k y = some q)
    (he : evalK dp slot st (.aaddr n esz p q) = some (v, rd, wr)) : Good k.fid base c ((execOp a.eval o).run P c.w) (st.wrs wr).blk none v := by
  have hx := opd_fr hp hf
  have hy := opd_fr hq hf
  have hrun : ∀ kk (i : Int) ad, a.eval y = .int kk i → 0 ≤ i → i < (n : Nat) → a.eval x = .pointer (some ad) →
      (execOp a.eval o).run P c.w = .ok (.value (.pointer (some (ad.add (i.toNat * esz))))) c.w := by
    intro kk i ad e1 h0 h1 e2
    simp [execOp, ho, Instr.indexAt, asIntOf, run_underlying ht, e1, e2, h0, h1, (sizeOf_run hn c.w).1, Instr.sureAddr]
  simp only [evalK] at he
  split at he
  · rename_i kk i hy1
    rw [hy1] at hy
    split at he
    · rename_i h0
      split at he
      · rename_i cs oo hx1
        rw [hx1] at hx
        cases he
        simp only [St.wrs, ← hb]
        obtain ⟨b, o2, u, e1, h1, h2, h3, h4⟩ := hx.rptr
        refine Good.same h (hrun kk i _ hy.int h0.1 h0.2 e1) ?_
        rw [add_lit, Nat.add_assoc]
        exact .r _ _ (.d _ _ (.rptr cs _ b o2 u h1 h2 h3 h4))
      · rename_i tt oo hx1
        rw [hx1] at hx
        cases he
        simp only [St.wrs, ← hb]
        obtain ⟨b, fz, esz', xs, e1, h1, h2⟩ := hx.loc'
        refine Good.same h (hrun kk i _ hy.int h0.1 h0.2 e1) ?_
        rw [add_lit]
        exact .loc _ _ b fz esz' xs h1 h2
      · rename_i l u r oo hx1
        rw [hx1] at hx
        split at he
        · rename_i fz e' xs hblk
          obtain ⟨pp, fz', esz', xs', e1, hb1, hv1, hh⟩ := hx.ptr
          have heq : c.blk (.h l) = some (.rows fz e' xs) := by rw [hb]; exact hblk
          rw [heq] at hb1
          cases hb1
          split at he
          · rename_i hv
            obtain ⟨b, ha, hpp⟩ := hh hv
            split at he
            · cases he
              simp only [St.wrs, ← hb]
              refine Good.same h (hrun kk i _ hy.int h0.1 h0.2 e1) (.r _ _ (.ptr _ _ _ _ _ fz e' xs heq hv1 (fun _ => ⟨b, ha, ?_⟩)))
              rw [hpp, add_lit, Nat.add_assoc]
            · split at he
              · rename_i hz
                cases he
                simp only [St.wrs, ← hb]
                refine Good.same h (hrun kk i _ hy.int h0.1 h0.2 e1) (.r _ _ (.ptr _ _ _ _ _ fz e' xs heq hv1 (fun _ => ⟨b, ha, ?_⟩)))
                rw [hpp, add_lit, hz.1, hz.2.1, hz.2.2]
                simp
              · cases he
          · cases he
        · cases he
      · cases he
    · cases he
  · cases he

end
end Go.Proofs.Ytkafliflpplpeaa.Sim
namespace Go.Proofs.Ytkafliflpplpeaa.Sim
set_option linter.unusedSimpArgs false
set_option linter.unusedVariables false
open Go

section
variable {P : Program} {k : Lnk} {c : Cx} {base : Nat} {st : St} {a : Act} {o : Oper} {dp : Nat → List S → Hp → Option S} {slot : Nat} {v : S} {rd : List L} {wr : List (L × Blk)}

theorem opdo_fr {x : Option Operand} {q : Option A} {fr : Fr} (h : opdo k x = some q) (hf : FrOk k.fid c fr a.tmps) :
    (x = none ∧ evo fr q = none) ∨ ∃ y s, x = some y ∧ evo fr q = some s ∧ FR k.fid c s (a.eval y) := by
  cases x with
  | none => simp only [opdo, Option.some.injEq] at h; subst h; exact .inl ⟨rfl, rfl⟩
  | some y =>
    simp only [opdo] at h
    split at h
    · rename_i q' hq; cases h; exact .inr ⟨y, _, rfl, rfl, opd_fr hq hf⟩
    · cases h

theorem bnd_run {x : Option Operand} {q : Option A} {fr : Fr} (h : opdo k x = some q) (hf : FrOk k.fid c fr a.tmps) {d n : Nat} (hb : bnd (evo fr q) d = some n) :
    (x.map a.eval = none ∧ n = d) ∨ ∃ (kk : IntKind) (i : Int), x.map a.eval = some (.int kk i) ∧ 0 ≤ i ∧ i.toNat = n := by
  rcases opdo_fr h hf with ⟨rfl, e⟩ | ⟨y, s, rfl, e, hv⟩
  · rw [e] at hb
    simp only [bnd, Option.some.injEq] at hb
    exact .inl ⟨rfl, hb.symm⟩
  · rw [e] at hb
    right
    unfold bnd at hb
    split at hb
    · simp_all
    · rename_i kk i hs
      cases hs
      split at hb
      · rename_i h0
        cases hb
        exact ⟨kk, i, by simp [hv.int], h0, rfl⟩
      · cases hb
    · cases hb

theorem sliceBounds_run {lo hi : Option Value} {l h len cap : Nat} {isSlice : Bool} (w : World)
    (h1 : (lo = none ∧ l = 0) ∨ ∃ (kk : IntKind) (i : Int), lo = some (.int kk i) ∧ 0 ≤ i ∧ i.toNat = l)
    (h2 : (hi = none ∧ h = len) ∨ ∃ (kk : IntKind) (i : Int), hi = some (.int kk i) ∧ 0 ≤ i ∧ i.toNat = h) (hle : l ≤ h) (hcap : h ≤ cap) :
    (Instr.sliceBounds isSlice len cap lo hi none).run P w = .ok (l, h, cap) w := by
  rcases h1 with ⟨rfl, rfl⟩ | ⟨kk, i, rfl, h0, rfl⟩ <;> rcases h2 with ⟨rfl, rfl⟩ | ⟨kk', i', rfl, h0', rfl⟩
  · simp [Instr.sliceBounds]
  · simp [Instr.sliceBounds, run_sliceBound w kk' i' cap _ h0' (by omega)]
  · simp [Instr.sliceBounds, run_sliceBound w kk i h _ h0 (by omega)]
  · simp [Instr.sliceBounds, run_sliceBound w kk' i' cap _ h0' (by omega), run_sliceBound w kk i i'.toNat _ h0 (by omega)]

theorem good_slice {x : Operand} {lo hi : Option Operand} {t : TypeId} (ho : o.op = .slice t x lo hi none) {q : Option Nat}
    (ht : (q = none ∧ P.underlying t = some .string) ∨ ∃ e esz, q = some esz ∧ P.underlying t = some (.slice e) ∧ eszB P e = some esz)
    (hf : FrOk k.fid c st.fr a.tmps) (h : HR k.fid c base) (hb : c.blk = st.blk) {p : A} {ql qh : Option A} (hp : opd k x = some p) (hl : opdo k lo = some ql) (hh : opdo k hi = some qh)
    (he : evalK dp slot st (.slice q p ql qh) = some (v, rd, wr)) : Good k.fid base c ((execOp a.eval o).run P c.w) (st.wrs wr).blk none v := by
  have hx := opd_fr hp hf
  simp only [evalK] at he
  generalize p.ev st.fr = sx at he hx
  rcases ht with ⟨rfl, ht⟩ | ⟨e, esz', rfl, ht, hn⟩
  · cases sx with
    | str s =>
      simp only [sliceR] at he
      obtain ⟨bs, e1, hs⟩ := hx.str
      split at he
      · rename_i l hh' hbl hbh
        split at he
        · rename_i hle
          cases he
          simp only [St.wrs, ← hb]
          have hsz : s.length = bs.size := by rw [← hs]; simp
          have hr := sliceBounds_run (P := P) (isSlice := false) (len := bs.size) (cap := bs.size) c.w (bnd_run hl hf hbl) (by rw [← hsz]; exact bnd_run hh hf hbh) hle.1 (by rw [← hsz]; exact hle.2)
          refine Good.same (val := .string (bs.extract l hh')) h ?_ (.ofStr _ ?_)
          · simp [execOp, ho, Instr.sliceAt, Instr.slice, run_underlying ht, e1, hr]
          · rw [← hs]
            simp [ByteArray.data_extract, Array.toList_extract, List.extract_eq_take_drop, List.drop_take]
        · cases he
      · cases he
    | _ => simp [sliceR] at he
  · have hrunb : ∀ (ad : Option Addr) (len cap l hh' : Nat), (Instr.sliceBounds true len cap (lo.map a.eval) (hi.map a.eval) none).run P c.w = .ok (l, hh', cap) c.w → a.eval x = .slice ad len cap →
        (execOp a.eval o).run P c.w = .ok (.value (.slice (if cap = l then ad else ad.map (·.add (l * esz'))) (hh' - l) (cap - l))) c.w := by
      intro ad len cap l hh' hr e1
      simp [execOp, ho, Instr.sliceAt, Instr.slice, run_underlying ht, e1, hr, (sizeOf_run hn c.w).1]
    cases sx with
    | list fl pr xs =>
      simp only [sliceR] at he
      split at he
      · rename_i l hh' hbl hbh
        split at he
        · rename_i hle
          obtain ⟨hle1, hle2, hall⟩ := hle
          cases he
          simp only [St.wrs, ← hb]
          obtain ⟨ad, cap, e1, hcap, hfull⟩ := hx.list.list_len
          have hr := sliceBounds_run (P := P) (isSlice := true) (len := xs.length) (cap := cap) c.w (bnd_run hl hf hbl) (bnd_run hh hf hbh) hle1 (by omega)
          refine Good.same h (hrunb ad _ cap l hh' hr e1) (.r _ _ (.d _ _ ?_))
          have hflag : (fl && hh' == xs.length) = true → cap = hh' := by
            intro hfq
            simp only [Bool.and_eq_true, beq_iff_eq] at hfq
            have := hfull hfq.1
            omega
          by_cases hlh : l = hh'
          · subst hlh
            have hnil : (xs.take l).drop l = [] := by simp
            rw [hnil, Nat.sub_self]
            exact .nil _ _ _ _ (fun hq => by have := hflag hq; omega)
          · have hne : ¬ cap = l := by omega
            rw [if_neg hne]
            have hl2 := hx.list
            rw [e1] at hl2
            cases hl2 with
            | nil => simp at hle2; omega
            | list _ _ _ b oo es len cap' u hlen hle' hf' hb' how hout hrow hpr hcell hv =>
              have hes : es = esz' := by
                have h0 : xs[l]? = some xs[l] := List.getElem?_eq_getElem (by omega)
                have h1 := hrow l _ h0
                have h2 := List.all_eq_true.1 hall xs[l] (List.getElem_mem _)
                simp at h2
                omega
              subst hes
              simp only [Option.map_some, add_lit]
              have hget : ∀ (i : Nat) (y : S), ((xs.take hh').drop l)[i]? = some y → xs[l + i]? = some y := by
                intro i y hy
                rw [List.getElem?_drop, List.getElem?_take] at hy
                split at hy
                · exact hy
                · cases hy
              refine .list _ _ _ b (oo + l * es) es (hh' - l) (cap - l) (fun i j => u (l + i) j) (by simp; omega) (by omega) (fun hq => by have := hflag hq; omega) hb' how hout
                (fun i y hy => hrow _ _ (hget i y hy)) (fun hq i y j s hy hs => hpr hq _ y j s (hget i y hy) hs) (fun i y j s hy hs => ?_) (fun i y j s hy hs => hv _ y j s (hget i y hy) hs)
              have := hcell _ y j s (hget i y hy) hs
              rw [Nat.add_mul] at this
              rw [← this]
              congr 2
              omega
        · cases he
      · cases he
    | own b u off len =>
      simp only [sliceR] at he
      split at he
      · rename_i l hh' hbl hbh
        split at he
        · rename_i fz e' xs hblk
          split at he
          · rename_i hcond
            obtain ⟨hle1, hle2, hv, he'⟩ := hcond
            cases he
            simp only [St.wrs, ← hb]
            obtain ⟨ad, cap, fz', esz', xs', e1, hb1, hv1, hh0⟩ := hx.own
            have heq : c.blk (.h b) = some (.rows fz e' xs) := by rw [hb]; exact hblk
            rw [heq] at hb1
            cases hb1
            obtain ⟨hle, bb, cells, E, frz, ha, hc, haddr, hcap⟩ := hh0 hv
            subst he'
            have hcl : len ≤ cap := by
              obtain ⟨b2, cells2, E2, m2, ha2, hc2, hpos, hsz, hlm, _⟩ := h.rows _ _ _ _ heq
              rw [ha] at ha2
              cases ha2
              rw [hc] at hc2
              cases hc2
              rw [hsz] at hcap
              have := Nat.eq_of_mul_eq_mul_right hpos hcap
              omega
            have hr := sliceBounds_run (P := P) (isSlice := true) (len := len) (cap := cap) c.w (bnd_run hl hf hbl) (bnd_run hh hf hbh) hle1 (by omega)
            refine Good.same h (hrunb ad len cap l hh' hr e1) (.r _ _ (.own _ _ _ _ _ _ fz e' xs heq hv1 (fun _ => ⟨by omega, bb, cells, E, frz, ha, hc, ?_, ?_⟩)))
            · by_cases hne : cap = l
              · rw [if_pos hne]; right; omega
              · rw [if_neg hne]
                left
                have had := haddr.resolve_right (by omega)
                subst had
                simp only [Option.map_some, add_lit]
                rw [Nat.add_mul]
            · rw [← hcap]; congr 1; omega
          · cases he
        · cases he
      · cases he
    | _ => simp [sliceR] at he

end
end Go.Proofs.Ytkafliflpplpeaa.Sim
namespace Go.Proofs.Ytkafliflpplpeaa.Sim
set_option linter.unusedSimpArgs false
set_option linter.unusedVariables false
open Go

section
variable {P : Program} {k : Lnk} {c : Cx} {base : Nat} {st : St} {a : Act} {o : Oper} {dp : Nat → List S → Hp → Option S} {slot : Nat} {v : S} {rd : List L} {wr : List (L × Blk)}

/-- A load of n cells that are known. -/
theorem load_run {t : TypeId} {g : Bool} {n : Nat} (hg : isAggB P t = some g) (hn : eszB P t = some n) {cs : List S} {x : S} (hm : mk g cs = some x) (hl : cs.length = n) {b p : Nat} (u : Nat → Value)
    (hcell : ∀ (j : Nat) (s : S), cs[j]? = some s → c.w.cell? ⟨b, p + j, none⟩ = some (u j)) (hv : ∀ (j : Nat) (s : S), cs[j]? = some s → VR k.fid c s (u j)) :
    ∃ val, (Instr.loadAt t (.pointer (some ⟨b, p, none⟩))).run P c.w = .ok val c.w ∧ FR k.fid c x val := by
  have hlv : cs.length = ((List.range n).map u).length := by simp [hl]
  obtain ⟨m1, m2⟩ := mk_fr (k := k) (c := c) hm hlv (fun i s y h1 h2 => by
    rw [List.getElem?_map] at h2
    have hi : i < n := by rw [← hl]; exact (List.getElem?_eq_some_iff.1 h1).1
    rw [List.getElem?_range hi] at h2
    simp at h2
    subst h2
    exact hv i s h1)
  cases g with
  | true =>
    refine ⟨_, ?_, m1 rfl⟩
    have hr := run_loadCells (P := P) c.w ⟨b, p, none⟩ n u (fun j hj => by
      rw [add_lit]
      have : cs[j]? = some cs[j] := List.getElem?_eq_getElem (by omega)
      exact hcell j _ this)
    simp [Instr.loadAt, Instr.sureAddr, loadVar, isAgg_run hg c.w, (sizeOf_run hn c.w).1, hr]
  | false =>
    obtain ⟨y, hy, hfr⟩ := m2 rfl
    refine ⟨y, ?_, hfr⟩
    have h1 : n = 1 := by have := congrArg List.length hy; simpa using this
    subst h1
    have hu : u 0 = y := by simpa using hy
    have h0 : cs[0]? = some cs[0] := List.getElem?_eq_getElem (by omega)
    have hc := hcell 0 _ h0
    rw [Nat.add_zero, hu] at hc
    simp [Instr.loadAt, Instr.sureAddr, loadVar, isAgg_run hg c.w, run_load, hc]

theorem flatMap_get (esz : Nat) : ∀ (xs : List S), (∀ (i : Nat) (x : S), xs[i]? = some x → x.cells.length = esz) → (xs.flatMap S.cells).length = xs.length * esz ∧
    ∀ (t : Nat) (s : S), (xs.flatMap S.cells)[t]? = some s → ∃ i j x, t = i * esz + j ∧ xs[i]? = some x ∧ x.cells[j]? = some s
  | [], _ => by simp
  | x :: xs, h => by
    have hx : x.cells.length = esz := h 0 x rfl
    obtain ⟨h1, h2⟩ := flatMap_get esz xs (fun i y hy => h (i + 1) y (by simpa using hy))
    refine ⟨by simp [h1, hx, Nat.succ_mul, Nat.add_comm], fun t s ht => ?_⟩
    rw [List.flatMap_cons] at ht
    by_cases hlt : t < esz
    · rw [List.getElem?_append_left (by omega)] at ht
      exact ⟨0, t, x, by simp, rfl, ht⟩
    · rw [List.getElem?_append_right (by omega)] at ht
      obtain ⟨i, j, y, e, hy, hs⟩ := h2 _ s ht
      refine ⟨i + 1, j, y, ?_, by simpa using hy, hs⟩
      rw [Nat.succ_mul]
      omega

/-- What 'cellsAt' gives lies in memory one cell behind the other. -/
theorem cellsAt_ok {l : L} {fz : Bool} {esz : Nat} {xs : List S} (hr : RowsOk k.fid c l fz esz xs) {row off n : Nat} {cs : List S} (h : cellsAt esz xs row off n = some cs) (hn : 0 < n) :
    cs.length = n ∧ ∃ b, c.at_ l = some b ∧ ∃ u : Nat → Value, (∀ (j : Nat) (s : S), cs[j]? = some s → c.w.cell? ⟨b, row * esz + off + j, none⟩ = some (u j)) ∧
      ∀ (j : Nat) (s : S), cs[j]? = some s → VR k.fid c s (u j) := by
  obtain ⟨b, cells, E, m, h1, h2, h3, h4, h5, h6, h7⟩ := hr
  have hcell : ∀ i, c.w.cell? ⟨b, i, none⟩ = cells[i]? := by intro i; simp [World.cell?, h2]
  unfold cellsAt at h
  split at h
  · rename_i hle
    split at h
    · rename_i x hx
      cases h
      obtain ⟨hxl, hxc⟩ := h7 row x hx
      have hget : ∀ (j : Nat) (s : S), ((x.cells.drop off).take n)[j]? = some s → x.cells[off + j]? = some s := by
        intro j s hs
        rw [List.getElem?_take] at hs
        split at hs
        · rwa [List.getElem?_drop] at hs
        · cases hs
      refine ⟨by simp; omega, b, h1, fun j => cells.getD (row * esz + off + j) undef, fun j s hs => ?_, fun j s hs => ?_⟩ <;> obtain ⟨u, hu, hv, _⟩ := hxc _ s (hget j s hs)
      · rw [hcell]
        rw [← Nat.add_assoc] at hu
        simp [Array.getD_eq_getD_getElem?, hu]
      · rw [← Nat.add_assoc] at hu
        simpa [Array.getD_eq_getD_getElem?, hu] using hv
    · cases h
  · split at h
    · rename_i hz
      obtain ⟨rfl, hnn, rfl⟩ := hz
      cases h
      obtain ⟨f1, f2⟩ := flatMap_get esz xs (fun i x hx => (h7 i x hx).1)
      refine ⟨by rw [f1, hnn, Nat.mul_comm], b, h1, fun j => cells.getD j undef, fun j s hs => ?_, fun j s hs => ?_⟩ <;> obtain ⟨i, j', x, e, hx, hs'⟩ := f2 j s hs <;> obtain ⟨u, hu, hv, _⟩ := (h7 i x hx).2 j' s hs' <;> subst e
      · rw [hcell]
        simp [Array.getD_eq_getD_getElem?, hu]
      · simpa [Array.getD_eq_getD_getElem?, hu] using hv
    · cases h

theorem load_fr {t : TypeId} {g : Bool} {n : Nat} (hg : isAggB P t = some g) (hn : eszB P t = some n)
    (h : HR k.fid c base) (hb : c.blk = st.blk) {sx : S} {ux : Value} (hx : FR k.fid c sx ux)
    (he : loadR st g n sx = some (v, rd, wr)) : wr = [] ∧ ∃ ad val, ux = .pointer (some ad) ∧ (Instr.loadAt t ux).run P c.w = .ok val c.w ∧ FR k.fid c v val := by
  have hpos := (sizeOf_run hn c.w).2
  cases sx with
  | rptr cs off =>
    simp only [loadR] at he
    split at he
    · rename_i hle
      simp only [Option.map_eq_some_iff, Prod.mk.injEq] at he
      obtain ⟨r, hr, rfl, rfl, rfl⟩ := he
      obtain ⟨b, oo, u, e, h1, h2, h3, h4⟩ := hx.rptr
      have hget : ∀ (j : Nat) (s : S), ((cs.drop off).take n)[j]? = some s → cs[off + j]? = some s := by
        intro j s hs
        rw [List.getElem?_take] at hs
        split at hs
        · rwa [List.getElem?_drop] at hs
        · cases hs
      obtain ⟨val, r1, r2⟩ := load_run (P := P) (k := k) (c := c) hg hn hr (by simp; omega) (b := b) (p := oo + off) (fun j => u (off + j))
        (fun j s hs => by rw [Nat.add_assoc]; exact h3 _ s (hget j s hs)) (fun j s hs => .d _ _ (h4 _ s (hget j s hs)))
      exact ⟨rfl, _, val, e, by rw [e]; exact r1, r2⟩
    · cases he
  | loc t' off =>
    simp only [loadR] at he
    split at he
    · rename_i fz esz xs hblk
      simp only [Option.bind_eq_some_iff, Option.map_eq_some_iff, Prod.mk.injEq] at he
      obtain ⟨cs, hcs, r, hr, rfl, rfl, rfl⟩ := he
      obtain ⟨b, fz', esz', xs', e, hb1, ha⟩ := hx.loc'
      have heq : c.blk (.v t') = some (.rows fz esz xs) := by rw [hb]; exact hblk
      rw [heq] at hb1
      cases hb1
      obtain ⟨hl, b', ha', u, h1, h2⟩ := cellsAt_ok (h.rows _ _ _ _ heq) hcs hpos
      rw [ha] at ha'
      cases ha'
      simp only [Nat.zero_mul, Nat.zero_add] at h1
      obtain ⟨val, r1, r2⟩ := load_run (P := P) (k := k) (c := c) hg hn hr hl (b := b) (p := off) u h1 h2
      exact ⟨rfl, _, val, e, by rw [e]; exact r1, r2⟩
    · cases he
  | ptr l w row off =>
    simp only [loadR] at he
    split at he
    · rename_i fz esz xs hblk
      split at he
      · rename_i hv
        simp only [Option.bind_eq_some_iff, Option.map_eq_some_iff, Prod.mk.injEq] at he
        obtain ⟨cs, hcs, r, hr, rfl, rfl, rfl⟩ := he
        obtain ⟨pp, fz', esz', xs', e, hb1, _, hh⟩ := hx.ptr
        have heq : c.blk (.h l) = some (.rows fz esz xs) := by rw [hb]; exact hblk
        rw [heq] at hb1
        cases hb1
        obtain ⟨b, ha, rfl⟩ := hh hv
        obtain ⟨hl, b', ha', u, h1, h2⟩ := cellsAt_ok (h.rows _ _ _ _ heq) hcs hpos
        rw [ha] at ha'
        cases ha'
        obtain ⟨val, r1, r2⟩ := load_run (P := P) (k := k) (c := c) hg hn hr hl (b := b) (p := row * esz + off) u h1 h2
        exact ⟨rfl, _, val, e, by rw [e]; exact r1, r2⟩
      · cases he
    · cases he
  | _ => simp [loadR] at he

theorem good_load {x : Operand} {t : TypeId} (ho : o.op = .load t x) {g : Bool} {n : Nat} (hg : isAggB P t = some g) (hn : eszB P t = some n)
    (hf : FrOk k.fid c st.fr a.tmps) (h : HR k.fid c base) (hb : c.blk = st.blk) {p : A} (hp : opd k x = some p)
    (he : evalK dp slot st (.load g n p) = some (v, rd, wr)) : Good k.fid base c ((execOp a.eval o).run P c.w) (st.wrs wr).blk none v := by
  simp only [evalK] at he
  obtain ⟨rfl, ad, val, _, h1, h2⟩ := load_fr (P := P) hg hn h hb (opd_fr hp hf) he
  simp only [St.wrs, ← hb]
  exact Good.same h (by simp [execOp, ho, h1]) h2

/-! ### Stores -/

theorem reshape_cells (x : S) (cs : List S) (hcs : ∀ s ∈ cs, s.okv = true) : (reshape x cs).cells = cs := by
  unfold reshape
  split
  · rfl
  · split
    · rename_i s
      have := hcs s (by simp)
      cases s <;> first | rfl | simp [S.okv] at this
    · rfl

theorem splice_get {l cs : List S} {off : Nat} (hle : off + cs.length ≤ l.length) (j : Nat) :
    (splice l off cs)[j]? = if off ≤ j ∧ j < off + cs.length then cs[j - off]? else l[j]? := by
  unfold splice
  have ht : (l.take off).length = off := by simp; omega
  by_cases h1 : j < off
  · rw [List.append_assoc, List.getElem?_append_left (by omega), List.getElem?_take, if_pos h1, if_neg (by omega)]
  · by_cases h2 : j < off + cs.length
    · rw [if_pos ⟨by omega, h2⟩, List.append_assoc, List.getElem?_append_right (by omega), ht, List.getElem?_append_left (by omega)]
    · rw [if_neg (by omega), List.getElem?_append_right (by simp [ht]; omega), List.getElem?_drop]
      congr 1
      simp [ht]
      omega

theorem splice_length {l cs : List S} {off : Nat} (hle : off + cs.length ≤ l.length) : (splice l off cs).length = l.length := by
  simp [splice]; omega

/-- The new cells of a block: those of the value, behind those that stood there. -/
theorem setRow_get (cur : Array Value) (p : Nat) (vs : List Value) (hle : p + vs.length ≤ cur.size) (i : Nat) :
    (cur.toList.take p ++ vs ++ cur.toList.drop (p + vs.length)).toArray[i]? = if p ≤ i ∧ i < p + vs.length then vs[i - p]? else cur[i]? := by
  have ht : (cur.toList.take p).length = p := by simp; omega
  rw [List.getElem?_toArray]
  by_cases h1 : i < p
  · rw [List.append_assoc, List.getElem?_append_left (by omega), List.getElem?_take, if_pos h1, if_neg (by omega), Array.getElem?_toList]
  · by_cases h2 : i < p + vs.length
    · rw [if_pos ⟨by omega, h2⟩, List.append_assoc, List.getElem?_append_right (by omega), ht, List.getElem?_append_left (by omega)]
    · rw [if_neg (by omega), List.getElem?_append_right (by simp [ht]; omega), List.getElem?_drop]
      rw [← Array.getElem?_toList]
      congr 1
      simp [ht]
      omega

end
end Go.Proofs.Ytkafliflpplpeaa.Sim
namespace Go.Proofs.Ytkafliflpplpeaa.Sim
set_option linter.unusedSimpArgs false
set_option linter.unusedVariables false
open Go

theorem getV_setV : ∀ (vs : Vars) (t : Nat) (b : Blk) (n : Nat), getV (setV vs t b) n = if n = t then some b else getV vs n
  | [], t, b, n => by simp [setV, getV]
  | (u, q) :: r, t, b, n => by
    simp only [setV]
    by_cases h : t = u
    · subst h
      simp only [if_true, getV]
      split <;> simp_all
    · rw [if_neg h]
      simp only [getV]
      by_cases h2 : n = u
      · subst h2
        simp [Ne.symm h]
      · rw [if_neg h2, if_neg h2, getV_setV r t b n]

theorem blk_wr {st : St} {l : L} {b : Blk} (h : ∀ n, l = .h n → n ≤ st.hp.length) : (st.wr l b).blk = updL st.blk l b := by
  funext q
  unfold updL
  cases l with
  | v t =>
    cases q with
    | v u => simp [St.wr, St.blk, getV_setV]
    | h u => simp [St.wr, St.blk]
  | h n =>
    have hn := h n rfl
    cases q with
    | v u => simp [St.wr, St.blk]
    | h u =>
      simp only [St.wr, St.blk, L.h.injEq]
      by_cases he : n = st.hp.length
      · rw [if_pos he]
        by_cases hu : u = n
        · subst hu; rw [if_pos rfl, he]; simp
        · rw [if_neg hu]
          by_cases hlt : u < st.hp.length
          · rw [List.getElem?_append_left hlt]
          · rw [List.getElem?_append_right (by omega), List.getElem?_eq_none (by omega : st.hp.length ≤ u)]
            simp; omega
      · rw [if_neg he, List.getElem?_set]
        by_cases hu : u = n
        · subst hu; simp; omega
        · rw [if_neg (fun e => hu e.symm), if_neg hu]

theorem blk_lt {st : St} {n : Nat} {b : Blk} (h : st.blk (.h n) = some b) : n < st.hp.length := by
  simp only [St.blk] at h
  exact (List.getElem?_eq_some_iff.1 h).1

theorem rechunk_ok (esz : Nat) : ∀ (xs cs : List S), cs.length = esz * xs.length → (∀ s ∈ cs, s.okv = true) → (rechunk esz xs cs).length = xs.length ∧
    ∀ (i : Nat) (y : S), (rechunk esz xs cs)[i]? = some y → y.cells.length = esz ∧ ∀ (j : Nat) (s : S), y.cells[j]? = some s → cs[i * esz + j]? = some s
  | [], cs, _, _ => by simp [rechunk]
  | x :: xs, cs, hl, hok => by
    have hl' : cs.length = esz + esz * xs.length := by rw [hl, List.length_cons, Nat.mul_succ]; omega
    obtain ⟨h1, h2⟩ := rechunk_ok esz xs (cs.drop esz) (by simp; omega) (fun s hs => hok s (List.mem_of_mem_drop hs))
    refine ⟨by simp [rechunk, h1], fun i y hy => ?_⟩
    cases i with
    | zero =>
      simp only [rechunk, List.getElem?_cons_zero, Option.some.injEq] at hy
      subst hy
      rw [reshape_cells _ _ (fun s hs => hok s (List.mem_of_mem_take hs))]
      refine ⟨by simp; omega, fun j s hs => ?_⟩
      rw [List.getElem?_take] at hs
      split at hs
      · simpa using hs
      · cases hs
    | succ i =>
      simp only [rechunk, List.getElem?_cons_succ] at hy
      obtain ⟨h3, h4⟩ := h2 i y hy
      refine ⟨h3, fun j s hs => ?_⟩
      have := h4 j s hs
      rw [List.getElem?_drop] at this
      rw [← this, Nat.succ_mul]
      congr 1
      omega

theorem storeAt_ok {esz : Nat} {xs ys : List S} {row off : Nat} {cs : List S} (h : storeAt esz xs row off cs = some ys) (hrow : ∀ (i : Nat) (x : S), xs[i]? = some x → x.cells.length = esz)
    (hxok : ∀ (i : Nat) (x : S), xs[i]? = some x → ∀ s ∈ x.cells, s.okv = true) (hok : ∀ s ∈ cs, s.okv = true) :
    ys.length = xs.length ∧ (cs ≠ [] → row * esz + off + cs.length ≤ xs.length * esz) ∧
    ∀ (i : Nat) (y : S), ys[i]? = some y → y.cells.length = esz ∧ ∀ (j : Nat) (s : S), y.cells[j]? = some s →
      (row * esz + off ≤ i * esz + j ∧ i * esz + j < row * esz + off + cs.length → cs[i * esz + j - (row * esz + off)]? = some s) ∧
      (¬ (row * esz + off ≤ i * esz + j ∧ i * esz + j < row * esz + off + cs.length) → ∃ x, xs[i]? = some x ∧ x.cells[j]? = some s) := by
  unfold storeAt at h
  split at h
  · rename_i hle
    split at h
    · rename_i x hx
      cases h
      have hxl := hrow row x hx
      have hlt : row < xs.length := (List.getElem?_eq_some_iff.1 hx).1
      have hspl : ∀ s ∈ splice x.cells off cs, s.okv = true := by
        intro s hs
        simp only [splice, List.mem_append] at hs
        rcases hs with (hs | hs) | hs
        · exact hxok row x hx s (List.mem_of_mem_take hs)
        · exact hok s hs
        · exact hxok row x hx s (List.mem_of_mem_drop hs)
      refine ⟨by simp, fun _ => ?_, fun i y hy => ?_⟩
      · have : (row + 1) * esz ≤ xs.length * esz := Nat.mul_le_mul_right _ hlt
        rw [Nat.succ_mul] at this
        omega
      · rw [List.getElem?_set] at hy
        split at hy
        · rename_i he
          subst he
          (try rw [if_pos hlt] at hy)
          cases hy
          rw [reshape_cells _ _ hspl]
          refine ⟨by rw [splice_length (by omega), hxl], fun j s hs => ?_⟩
          rw [splice_get (by omega)] at hs
          split at hs
          · rename_i hj
            refine ⟨fun _ => ?_, fun hno => absurd ⟨by omega, by omega⟩ hno⟩
            rw [← hs]
            congr 1
            omega
          · rename_i hj
            exact ⟨fun hyes => absurd ⟨by omega, by omega⟩ hj, fun _ => ⟨x, hx, hs⟩⟩
        · rename_i he
          refine ⟨hrow i y hy, fun j s hs => ⟨fun hyes => ?_, fun _ => ⟨y, hy, hs⟩⟩⟩
          exfalso
          have hj : j < esz := by
            have := (List.getElem?_eq_some_iff.1 hs).1
            rw [hrow i y hy] at this
            exact this
          rcases Nat.lt_or_gt_of_ne he with hlt' | hgt
          · have : (row + 1) * esz ≤ i * esz := Nat.mul_le_mul_right _ hlt'
            rw [Nat.succ_mul] at this
            omega
          · have : (i + 1) * esz ≤ row * esz := Nat.mul_le_mul_right _ hgt
            rw [Nat.succ_mul] at this
            omega
    · cases h
  · split at h
    · rename_i hz
      obtain ⟨rfl, hl, rfl⟩ := hz
      cases h
      obtain ⟨h1, h2⟩ := rechunk_ok esz xs cs hl hok
      refine ⟨h1, fun _ => by rw [hl, Nat.mul_comm esz]; omega, fun i y hy => ?_⟩
      obtain ⟨h3, h4⟩ := h2 i y hy
      refine ⟨h3, fun j s hs => ?_⟩
      have h5 := h4 j s hs
      have h6 := (List.getElem?_eq_some_iff.1 h5).1
      refine ⟨fun _ => by rw [← h5]; congr 1; omega, fun hno => absurd ⟨by omega, by omega⟩ hno⟩
    · cases h

section
variable {P : Program} {k : Lnk} {c : Cx} {base : Nat} {st : St} {a : Act} {o : Oper} {dp : Nat → List S → Hp → Option S} {slot : Nat} {v : S} {rd : List L} {wr : List (L × Blk)}

theorem VExt.upd {fv : Option Nat} {l : L} {w' : World} {b : Nat} {bl : Blk} (ha : ∀ t, l = .v t → c.at_ l = some b) (hbl : ∃ fz esz xs, bl = .rows fz esz xs)
    (hesz : ∀ fz esz xs fz' esz' xs', c.blk l = some (.rows fz esz xs) → bl = .rows fz' esz' xs' → esz = esz') : VExt fv c ⟨w', updL c.blk l bl, updL c.at_ l b, c.out, c.hid⟩ := by
  intro t _ fz esz xs hb
  simp only [updL]
  by_cases hl : L.v t = l
  · subst hl
    obtain ⟨fz', esz', xs', rfl⟩ := hbl
    have := hesz _ _ _ _ _ _ hb rfl
    subst this
    exact ⟨⟨fz', xs', by simp⟩, by simp [ha t rfl]⟩
  · exact ⟨⟨fz, xs, by simp [hl, hb]⟩, by simp [hl]⟩

/-- A store into a block of the machine's own. -/
theorem store_ok (h : HR k.fid c base) {l : L} {fz : Bool} {esz : Nat} {xs ys : List S} (hblk : c.blk l = some (.rows fz esz xs)) {row off : Nat} {cs : List S} (hst : storeAt esz xs row off cs = some ys)
    {t : TypeId} {val : Value} (hn : eszB P t = some cs.length) (hsz : cs.length = val.cells.size) (hv : ∀ (j : Nat) (s : S) (u : Value), cs[j]? = some s → val.cells[j]? = some u → VR k.fid c s u) (hok : ∀ s ∈ cs, s.okv = true) {b : Nat} (ha : c.at_ l = some b) :
    ∃ c', (Instr.storeAt t (.pointer (some ⟨b, row * esz + off, none⟩)) val).run P c.w = .ok () c'.w ∧ c'.blk = updL c.blk l (.rows fz esz ys) ∧ HR k.fid c' base ∧ Ext c c' ∧ ∀ fv, VExt fv c c' := by
  obtain ⟨b', cells, E, m, h1, h2, h3, h4, h5, h6, h7⟩ := h.rows l fz esz xs hblk
  rw [ha] at h1
  cases h1
  obtain ⟨q1, q2, q3⟩ := storeAt_ok hst (fun i x hx => (h7 i x hx).1) (fun i x hx s hs => by
    obtain ⟨j, hj⟩ := List.getElem?_of_mem hs
    obtain ⟨u, _, _, ho⟩ := (h7 i x hx).2 j s hj
    exact ho) hok
  have hpos : 0 < cs.length := (sizeOf_run hn c.w).2
  have hne : cs ≠ [] := by intro e; simp [e] at hpos
  have hfit : row * esz + off + cs.length ≤ cells.size := by
    have := q2 hne
    have : xs.length * esz ≤ m * esz := Nat.mul_le_mul_right _ h5
    omega
  have hlen : val.cells.toList.length = cs.length := by simp [hsz]
  have hone : ∀ u ∈ val.cells.toList, u.oneCell' = true := by
    intro u hu
    obtain ⟨j, hj⟩ := List.getElem?_of_mem hu
    have hjl : j < cs.length := by rw [← hlen]; exact (List.getElem?_eq_some_iff.1 hj).1
    have hs : cs[j]? = some cs[j] := List.getElem?_eq_getElem hjl
    have hvr := hv j _ u hs (by simpa using hj)
    exact (hvr.one (hok _ (List.getElem_mem _))).1
  have hrun := run_storeCells_at P b (row * esz + off) E val.cells.toList 0 cells c.w h2 (by omega) hone
  simp only [Nat.add_zero] at hrun
  have hget := setRow_get cells (row * esz + off) val.cells.toList (by omega)
  generalize hnc : (cells.toList.take (row * esz + off) ++ val.cells.toList ++ cells.toList.drop (row * esz + off + val.cells.toList.length)).toArray = nc at hrun hget
  have hncs : nc.size = cells.size := by
    rw [← hnc]
    simp
    omega
  obtain ⟨u1, u2⟩ := HR.upd h l fz esz m ys (c.w.setRow b nc) b nc E rfl rfl rfl (by simp) (fun q hq hno => setRow_other c.w b q nc (fun e => hno (e ▸ ha))) (.inl ha) (by rw [size_setRow]; exact (h.lt l b ha).2)
    (setRow_heap c.w b cells nc E (0, 0) h2) h3 (by rw [hncs, h4]) (by omega) (fun hf => by rw [h6 hf, q1])
    (fun q _ fz0 esz0 xs0 hb0 => by
      rw [hblk] at hb0
      cases hb0
      refine ⟨rfl, by omega, fun _ => ⟨ha, fun cells0 E0 fr0 hc0 => ?_⟩⟩
      rw [h2] at hc0
      cases hc0
      exact ⟨by omega, rfl, rfl⟩)
    (fun i y hy => by
      obtain ⟨p1, p2⟩ := q3 i y hy
      refine ⟨p1, fun j s hs => ?_⟩
      obtain ⟨p3, p4⟩ := p2 j s hs
      rw [hget]
      rw [hlen]
      by_cases hin : row * esz + off ≤ i * esz + j ∧ i * esz + j < row * esz + off + cs.length
      · rw [if_pos hin]
        have hcs := p3 hin
        have hlt : i * esz + j - (row * esz + off) < val.cells.toList.length := by omega
        refine ⟨val.cells.toList[i * esz + j - (row * esz + off)], List.getElem?_eq_getElem hlt, hv _ s _ hcs ?_, hok s (List.mem_of_getElem? hcs)⟩
        rw [← Array.getElem?_toList]
        exact List.getElem?_eq_getElem hlt
      · rw [if_neg hin]
        obtain ⟨x, hx, hxs⟩ := p4 hin
        exact (h7 i x hx).2 j s hxs)
  refine ⟨_, ?_, rfl, u1, u2, fun fv => VExt.upd (fun _ _ => ha) ⟨_, _, _, rfl⟩ (fun _ _ _ _ _ _ e1 e2 => by rw [hblk] at e1; cases e1; cases e2; rfl)⟩
  simp only [Instr.storeAt, Instr.sureAddr, storeVar, Sem.run_bind, Sem.run_pure, Result.andThen_ok, (sizeOf_run hn c.w).1]
  rw [if_neg (by omega)]
  exact hrun

theorem good_store {x y : Operand} {t : TypeId} (ho : o.op = .store t x y) {n : Nat} (hn : eszB P t = some n)
    (hf : FrOk k.fid c st.fr a.tmps) (h : HR k.fid c base) (hb : c.blk = st.blk) {p q : A} (hp : opd k x = some p) (hq : opd k y = some q)
    (he : evalK dp slot st (.store n p q) = some (v, rd, wr)) : Good k.fid base c ((execOp a.eval o).run P c.w) (st.wrs wr).blk none v := by
  have hx := opd_fr hp hf
  have hy := opd_fr hq hf
  simp only [evalK] at he
  generalize p.ev st.fr = sx at he hx
  generalize q.ev st.fr = sy at he hy
  cases sx with
  | loc t' off =>
    simp only [storeR] at he
    split at he
    · rename_i fz esz xs hblk
      split at he
      · rename_i hcond
        obtain ⟨hl, hok⟩ := hcond
        simp only [Option.map_eq_some_iff, Prod.mk.injEq] at he
        obtain ⟨ys, hys, rfl, rfl, rfl⟩ := he
        obtain ⟨b, fz', esz', xs', e, hb1, ha⟩ := hx.loc'
        have heq : c.blk (.v t') = some (.rows fz esz xs) := by rw [hb]; exact hblk
        obtain ⟨hc1, hc2⟩ := hy.cells hok
        subst hl
        obtain ⟨c', r1, r2, r3, r4, r5⟩ := store_ok (P := P) h heq hys hn hc1 hc2 (List.all_eq_true.1 hok) ha
        refine ⟨.skip, undef, c', ?_, rfl, ?_, r3, r4, r5 _, .r _ _ .skip⟩
        · simp only [Nat.zero_mul, Nat.zero_add] at r1
          simp [execOp, ho, e, r1]
        · rw [r2, St.wrs, St.wrs, blk_wr (by intro n hn; cases hn), hb]
      · cases he
    · cases he
  | ptr l w row off =>
    simp only [storeR] at he
    split at he
    · rename_i fz esz xs hblk
      split at he
      · rename_i hcond
        obtain ⟨hv, hl, hok⟩ := hcond
        simp only [Option.map_eq_some_iff, Prod.mk.injEq] at he
        obtain ⟨ys, hys, rfl, rfl, rfl⟩ := he
        obtain ⟨pp, fz', esz', xs', e, hb1, _, hh⟩ := hx.ptr
        have hblk' : st.blk (.h l) = some (.rows fz esz xs) := hblk
        have heq : c.blk (.h l) = some (.rows fz esz xs) := by rw [hb]; exact hblk
        rw [heq] at hb1
        cases hb1
        obtain ⟨b, ha, rfl⟩ := hh hv
        obtain ⟨hc1, hc2⟩ := hy.cells hok
        subst hl
        obtain ⟨c', r1, r2, r3, r4, r5⟩ := store_ok (P := P) h heq hys hn hc1 hc2 (List.all_eq_true.1 hok) ha
        refine ⟨.skip, undef, c', by simp [execOp, ho, e, r1], rfl, ?_, r3, r4, r5 _, .r _ _ .skip⟩
        rw [r2, St.wrs, St.wrs, blk_wr (by intro n hn; cases hn; exact Nat.le_of_lt (blk_lt hblk')), hb]
      · cases he
    · cases he
  | _ => simp [storeR] at he

end
end Go.Proofs.Ytkafliflpplpeaa.Sim
namespace Go.Proofs.Ytkafliflpplpeaa.Sim
set_option linter.unusedSimpArgs false
set_option linter.unusedVariables false
open Go

theorem heap_new (w : World) (o : Obj) : (w.alloc o).heap[w.heap.size]? = some o := by
  show (w.heap.push o)[w.heap.size]? = _
  simp

theorem heap_old (w : World) (o : Obj) {r : Nat} (h : r < w.heap.size) : (w.alloc o).heap[r]? = w.heap[r]? := by
  show (w.heap.push o)[r]? = _
  rw [Array.getElem?_push_lt h, Array.getElem?_eq_getElem h]

theorem row1_cells (cs : List S) (hok : ∀ s ∈ cs, s.okv = true) : (row1 cs).cells = cs := by
  unfold row1
  split
  · rename_i s
    have := hok s (by simp)
    cases s <;> first | rfl | simp [S.okv] at this
  · rfl

theorem chunks_ok (esz : Nat) : ∀ (n : Nat) (cs : List S), cs.length = n * esz → (∀ s ∈ cs, s.okv = true) → (chunks esz n cs).length = n ∧
    ∀ (i : Nat) (y : S), (chunks esz n cs)[i]? = some y → y.cells.length = esz ∧ ∀ (j : Nat) (s : S), y.cells[j]? = some s → cs[i * esz + j]? = some s
  | 0, cs, _, _ => by simp [chunks]
  | n + 1, cs, hl, hok => by
    rw [Nat.succ_mul] at hl
    obtain ⟨h1, h2⟩ := chunks_ok esz n (cs.drop esz) (by simp; omega) (fun s hs => hok s (List.mem_of_mem_drop hs))
    refine ⟨by simp [chunks, h1], fun i y hy => ?_⟩
    cases i with
    | zero =>
      simp only [chunks, List.getElem?_cons_zero, Option.some.injEq] at hy
      subst hy
      rw [row1_cells _ (fun s hs => hok s (List.mem_of_mem_take hs))]
      refine ⟨by simp; omega, fun j s hs => ?_⟩
      rw [List.getElem?_take] at hs
      split at hs
      · simpa using hs
      · cases hs
    | succ i =>
      simp only [chunks, List.getElem?_cons_succ] at hy
      obtain ⟨h3, h4⟩ := h2 i y hy
      refine ⟨h3, fun j s hs => ?_⟩
      have := h4 j s hs
      rw [List.getElem?_drop] at this
      rw [← this, Nat.succ_mul]
      congr 1
      omega

theorem cval1_okv {v : Value} {x : S} (h : cval1 v = some x) : x.okv = true := (cval1_vd (w := default) (ow := fun _ => False) (out := fun _ => False) h).okv

theorem cval1_lit1 {v : Value} {x : S} (h : cval1 v = some x) : x.lit1 = true ∧ x.privs = true := by
  unfold cval1 at h
  split at h <;> first | (cases h; exact ⟨rfl, rfl⟩) | cases h

section
variable {P : Program} {k : Lnk} {c : Cx} {base : Nat} {st : St} {a : Act} {o : Oper} {esc : List Nat} {dp : Nat → List S → Hp → Option S} {slot : Nat} {v : S} {rd : List L} {wr : List (L × Blk)}

theorem zerosB_ok {e : TypeId} {zs : List S} {n : Nat} (h : zerosB P e = some (zs, n)) : ∃ i z, P.info? e = some i ∧ i.zero = some z ∧ i.size = n ∧ 0 < n ∧ zs.length = n ∧ z.cells.size = n ∧ cvals z.cells.toList = some zs := by
  unfold zerosB at h
  split at h
  · rename_i i hi
    split at h
    · rename_i z hz
      split at h
      · rename_i zs' hzs
        split at h
        · rename_i hc
          cases h
          refine ⟨i, z, hi, hz, rfl, hc.2, hc.1, ?_, hzs⟩
          have := (cvals_get hzs).1
          simp at this
          omega
        · cases h
      · cases h
    · cases h
  · cases h

theorem cvals_okv {vs : List Value} {zs : List S} (h : cvals vs = some zs) : ∀ s ∈ zs, s.okv = true := by
  intro s hs
  obtain ⟨j, hj⟩ := List.getElem?_of_mem hs
  obtain ⟨h1, h2⟩ := cvals_get h
  have hlt : j < vs.length := by rw [← h1]; exact (List.getElem?_eq_some_iff.1 hj).1
  exact cval1_okv (h2 j s _ hj (List.getElem?_eq_getElem hlt))

/-- A new block: what the machine's own memory has of it. -/
theorem new_ok (h : HR k.fid c base) (l : L) (hfresh : ∀ n, l = .h n → ∀ fz esz xs, c.blk l ≠ some (.rows fz esz xs)) (fz : Bool) (esz m : Nat) (xs : List S) (w' : World) (cells : Array Value) (E : TypeId)
    (hw : w' = c.w.alloc (.cells cells E)) (h0 : 0 < esz) (hsz : cells.size = m * esz) (hle : xs.length ≤ m) (hfz : fz = false → m = xs.length)
    (hcells : ∀ (i : Nat) (x : S), xs[i]? = some x → x.cells.length = esz ∧ ∀ (j : Nat) (s : S), x.cells[j]? = some s → ∃ u, cells[i * esz + j]? = some u ∧ VR k.fid c s u ∧ s.okv = true) :
    HR k.fid ⟨w', updL c.blk l (.rows fz esz xs), updL c.at_ l c.w.heap.size, c.out, c.hid⟩ base ∧ Ext c ⟨w', updL c.blk l (.rows fz esz xs), updL c.at_ l c.w.heap.size, c.out, c.hid⟩ := by
  subst hw
  exact HR.upd h l fz esz m xs _ c.w.heap.size cells E rfl rfl rfl (by simp) (fun q hq _ => heap_old _ _ hq) (.inr (Nat.le_refl _)) (by simp) (heap_new _ _) h0 hsz hle hfz
    (fun n hn fz0 esz0 xs0 hb => absurd hb (hfresh n hn fz0 esz0 xs0)) hcells

def Fresh (c : Cx) (st : St) (slot : Nat) : Prop := slot ≤ st.hp.length ∧ ∀ fz esz xs, c.blk (.h slot) ≠ some (.rows fz esz xs)

theorem VExt.new_v {t : Nat} {w' : World} {b : Nat} {bl : Blk} : VExt (some t) c ⟨w', updL c.blk (.v t) bl, updL c.at_ (.v t) b, c.out, c.hid⟩ := by
  intro u hu fz esz xs hb
  have hne : L.v u ≠ L.v t := by intro e; cases e; exact hu rfl
  exact ⟨⟨fz, xs, by simp [updL, hne, hb]⟩, by simp [updL, hne]⟩

theorem VExt.new_h {fv : Option Nat} {n : Nat} {w' : World} {b : Nat} {bl : Blk} : VExt fv c ⟨w', updL c.blk (.h n) bl, updL c.at_ (.h n) b, c.out, c.hid⟩ := by
  intro u hu fz esz xs hb
  exact ⟨⟨fz, xs, by simp [updL, hb]⟩, by simp [updL]⟩

/-- What a new variable is, in the frame or in the heap. -/
theorem newvar_ok (h : HR k.fid c base) (hb : c.blk = st.blk) (hfr : Fresh c st slot) {cells : Array Value} {E : TypeId} {esz m : Nat} {xs : List S} (h0 : 0 < esz) (hsz : cells.size = m * esz) (hm : xs.length = m)
    (hcells : ∀ (i : Nat) (x : S), xs[i]? = some x → x.cells.length = esz ∧ ∀ (j : Nat) (s : S), x.cells[j]? = some s → ∃ u, cells[i * esz + j]? = some u ∧ VR k.fid c s u ∧ s.okv = true)
    {run : Result Next} (hrun : run = .ok (.value (.pointer (some ⟨c.w.heap.size, 0, none⟩))) (c.w.alloc (.cells cells E))) :
    (∀ t, Good k.fid base c run (st.wrs [(.v t, .rows false esz xs)]).blk (some t) (.loc t 0)) ∧ (Good k.fid base c run (st.wrs [(.h slot, .rows false esz xs)]).blk none (.ptr slot xs.length 0 0)) := by
  refine ⟨fun t => ?_, ?_⟩
  · obtain ⟨r1, r2⟩ := new_ok h (.v t) (fun n hn => by cases hn) false esz m xs _ cells E rfl h0 hsz (by omega) (fun _ => hm.symm) hcells
    refine ⟨.value _, _, _, hrun, rfl, ?_, r1, r2, VExt.new_v, .loc t 0 c.w.heap.size false esz xs (by simp [updL]) (by simp [updL])⟩
    rw [St.wrs, St.wrs, blk_wr (by intro n hn; cases hn), hb]
  · obtain ⟨r1, r2⟩ := new_ok h (.h slot) (fun n hn => by cases hn; exact hfr.2) false esz m xs _ cells E rfl h0 hsz (by omega) (fun _ => hm.symm) hcells
    refine ⟨.value _, _, _, hrun, rfl, ?_, r1, r2, VExt.new_h, .r _ _ (.ptr slot xs.length 0 0 _ false esz xs (by simp [updL]) (Nat.le_refl _) (fun _ => ⟨c.w.heap.size, by simp [updL], by simp⟩))⟩
    rw [St.wrs, St.wrs, blk_wr (by intro n hn; cases hn; exact hfr.1), hb]

theorem good_alloc {e : TypeId} (ho : o.op = .alloc e) {zs : List S} {n esz m : Nat} {xs : List S} (hz : zerosB P e = some (zs, n)) (hxs : (xs = [row1 zs] ∧ esz = n ∧ m = 1) ∨ (xs = chunks esz m zs ∧ m * esz = n ∧ 0 < esz))
    (h : HR k.fid c base) (hb : c.blk = st.blk) (hfr : Fresh c st slot) {fr : Option Nat}
    (he : evalK dp slot st (.alloc fr esz xs) = some (v, rd, wr)) : Good k.fid base c ((execOp a.eval o).run P c.w) (st.wrs wr).blk fr v := by
  obtain ⟨i, z, hi, hiz, hsz, hpos, hzl, hzc, hcv⟩ := zerosB_ok hz
  have hrun : (execOp a.eval o).run P c.w = .ok (.value (.pointer (some ⟨c.w.heap.size, 0, none⟩))) (c.w.alloc (.cells z.cells e)) := by
    simp [execOp, ho, Instr.alloc, zeroValue, typeInfo, hi, hiz, newVar, newRow]
  have hokv := cvals_okv hcv
  obtain ⟨hl, hget⟩ := cvals_get hcv
  have hvr : ∀ (t : Nat) (s : S), zs[t]? = some s → ∃ u, z.cells[t]? = some u ∧ VR k.fid c s u ∧ s.okv = true := by
    intro t s hs
    have hlt : t < z.cells.toList.length := by rw [← hl]; exact (List.getElem?_eq_some_iff.1 hs).1
    have hu : z.cells.toList[t]? = some z.cells.toList[t] := List.getElem?_eq_getElem hlt
    exact ⟨z.cells.toList[t], by rw [← hu, Array.getElem?_toList], .d _ _ (cval1_vd (hget t s _ hs hu)), hokv s (List.mem_of_getElem? hs)⟩
  have key : 0 < esz ∧ z.cells.size = m * esz ∧ xs.length = m ∧ ∀ (i : Nat) (x : S), xs[i]? = some x → x.cells.length = esz ∧ ∀ (j : Nat) (s : S), x.cells[j]? = some s → ∃ u, z.cells[i * esz + j]? = some u ∧ VR k.fid c s u ∧ s.okv = true := by
    rcases hxs with ⟨rfl, rfl, rfl⟩ | ⟨rfl, hmn, h0⟩
    · refine ⟨hpos, by omega, rfl, fun i x hx => ?_⟩
      cases i with
      | zero =>
        simp only [List.getElem?_cons_zero, Option.some.injEq] at hx
        subst hx
        rw [row1_cells _ hokv]
        exact ⟨hzl, fun j s hs => by simpa using hvr j s hs⟩
      | succ i => simp at hx
    · obtain ⟨q1, q2⟩ := chunks_ok esz m zs (by omega) hokv
      refine ⟨h0, by omega, q1, fun i x hx => ?_⟩
      obtain ⟨q3, q4⟩ := q2 i x hx
      exact ⟨q3, fun j s hs => hvr _ s (q4 j s hs)⟩
  obtain ⟨k1, k2, k3, k4⟩ := key
  obtain ⟨g1, g2⟩ := newvar_ok (k := k) h hb hfr k1 k2 k3 k4 hrun
  cases fr with
  | some t => simp only [evalK] at he; cases he; exact g1 t
  | none => simp only [evalK] at he; cases he; exact g2

theorem good_box {e : TypeId} {x : Operand} (ho : o.op = .box e x) {esz m : Nat} (h0 : 0 < esz) (hf : FrOk k.fid c st.fr a.tmps)
    (h : HR k.fid c base) (hb : c.blk = st.blk) (hfr : Fresh c st slot) {fr : Option Nat} {p : A} (hp : opd k x = some p)
    (he : evalK dp slot st (.box fr esz m p) = some (v, rd, wr)) : Good k.fid base c ((execOp a.eval o).run P c.w) (st.wrs wr).blk fr v := by
  have hx := opd_fr hp hf
  simp only [evalK] at he
  split at he
  · rename_i hc
    obtain ⟨hl, hok⟩ := hc
    obtain ⟨c1, c2⟩ := hx.cells hok
    have hrun : (execOp a.eval o).run P c.w = .ok (.value (.pointer (some ⟨c.w.heap.size, 0, none⟩))) (c.w.alloc (.cells (a.eval x).cells e)) := by
      simp [execOp, ho, Instr.box, newVar, newRow]
    have hokv := List.all_eq_true.1 hok
    obtain ⟨q1, q2⟩ := chunks_ok esz m _ hl hokv
    obtain ⟨g1, g2⟩ := newvar_ok (k := k) (xs := chunks esz m (p.ev st.fr).cells) h hb hfr h0 (by omega) q1 (fun i y hy => by
      obtain ⟨q3, q4⟩ := q2 i y hy
      refine ⟨q3, fun j s hs => ?_⟩
      have h1 := q4 j s hs
      have hlt : i * esz + j < (a.eval x).cells.size := by rw [← c1]; exact (List.getElem?_eq_some_iff.1 h1).1
      exact ⟨(a.eval x).cells[i * esz + j], Array.getElem?_eq_getElem hlt, c2 _ s _ h1 (Array.getElem?_eq_getElem hlt), hokv s (List.mem_of_getElem? h1)⟩) hrun
    cases fr with
    | some t => cases he; exact g1 t
    | none => cases he; rw [q1] at g2; exact g2
  · cases he

theorem good_mksl {t e : TypeId} {x y : Operand} (ho : o.op = .makeSlice t x y) (ht : P.underlying t = some (.slice e)) {i : TypeInfo} (hi : P.info? e = some i) {zs : List S} {n : Nat} (hz : zerosB P e = some (zs, n))
    (hf : FrOk k.fid c st.fr a.tmps) (h : HR k.fid c base) (hb : c.blk = st.blk) (hfr : Fresh c st slot) {p q : A} (hp : opd k x = some p) (hq : opd k y = some q)
    (he : evalK dp slot st (.mksl n i.bytes (row1 zs) p q) = some (v, rd, wr)) : Good k.fid base c ((execOp a.eval o).run P c.w) (st.wrs wr).blk none v := by
  have hx := opd_fr hp hf
  have hy := opd_fr hq hf
  obtain ⟨i', z, hi', hiz, hsz, hpos, hzl, hzc, hcv⟩ := zerosB_ok hz
  rw [hi] at hi'
  cases hi'
  simp only [evalK] at he
  split at he
  · rename_i k1 l k2 m hx1 hy1
    rw [hx1] at hx
    rw [hy1] at hy
    split at he
    · rename_i hc
      obtain ⟨h0, h1, h2, h3⟩ := hc
      cases he
      have hbm : (i.bytes : Int) * m = m * i.bytes := Int.mul_comm _ _
      have hr := run_make (P := P) c.w t e i z ht hi hiz k1 k2 l m h0 h1 (by omega) (by omega)
      have hokv := cvals_okv hcv
      obtain ⟨hl, hget⟩ := cvals_get hcv
      have hrc := row1_cells zs hokv
      have hcells : ∀ (i' : Nat) (x' : S), (List.replicate m.toNat (row1 zs))[i']? = some x' → x'.cells.length = n ∧ ∀ (j : Nat) (s : S), x'.cells[j]? = some s → ∃ u, (madeCells z.cells (m.toNat * i.size))[i' * n + j]? = some u ∧ VR k.fid c s u ∧ s.okv = true := by
        intro i' x' hx'
        rw [List.getElem?_replicate] at hx'
        split at hx'
        · rename_i hlt
          cases hx'
          rw [hrc]
          refine ⟨hzl, fun j s hs => ?_⟩
          have hj : j < n := by rw [← hzl]; exact (List.getElem?_eq_some_iff.1 hs).1
          have hjl : j < z.cells.toList.length := by simpa [hzc] using hj
          have hu : z.cells.toList[j]? = some z.cells.toList[j] := List.getElem?_eq_getElem hjl
          have hidx : i' * n + j < m.toNat * i.size := by
            rw [hsz]
            have : (i' + 1) * n ≤ m.toNat * n := Nat.mul_le_mul_right _ hlt
            rw [Nat.succ_mul] at this
            omega
          refine ⟨z.cells.toList[j], ?_, .d _ _ (cval1_vd (hget j s _ hs hu)), hokv s (List.mem_of_getElem? hs)⟩
          unfold madeCells
          rw [Array.getElem?_map, Array.getElem?_range, if_pos hidx]
          simp only [Option.map_some, hzc]
          have hmod : (i' * n + j) % n = j := by rw [Nat.add_comm, Nat.add_mul_mod_self_right, Nat.mod_eq_of_lt hj]
          rw [hmod]
          have hjz : j < z.cells.size := by omega
          rw [getElem!_pos z.cells j hjz]
          simp
        · cases hx'
      obtain ⟨r1, r2⟩ := new_ok (k := k) h (.h slot) (fun n hn => by cases hn; exact hfr.2) false n m.toNat (List.replicate m.toNat (row1 zs)) _ _ e rfl hpos (by rw [size_madeCells, hsz]) (by simp) (fun _ => by simp) hcells
      refine ⟨.value _, .slice (some ⟨c.w.heap.size, 0, none⟩) l.toNat m.toNat, _, ?_, rfl, ?_, r1, r2, VExt.new_h, .r _ _ (.own slot m.toNat 0 l.toNat _ _ false n (List.replicate m.toNat (row1 zs)) (by simp [updL]) (by simp) (fun _ => ?_))⟩
      · simp [execOp, ho, hx.int, hy.int, hr]
      · rw [St.wrs, St.wrs, blk_wr (by intro n hn; cases hn; exact hfr.1), hb]
      · refine ⟨by simp; omega, c.w.heap.size, _, e, (0, 0), by simp [updL], heap_new _ _, .inl (by simp), ?_⟩
        rw [size_madeCells, hsz]
        simp
    · cases he
  · cases he

end
end Go.Proofs.Ytkafliflpplpeaa.Sim
namespace Go.Proofs.Ytkafliflpplpeaa.Sim
set_option linter.unusedSimpArgs false
set_option linter.unusedVariables false
open Go

theorem place_get (off : Nat) : ∀ (vs : List Value) (n : Nat) (cur : Array Value), off + n + vs.length ≤ cur.size →
    ((vs.zipIdx n).foldl (fun cs p => cs.setIfInBounds (off + p.2) p.1) cur).size = cur.size ∧
    ∀ i, ((vs.zipIdx n).foldl (fun cs p => cs.setIfInBounds (off + p.2) p.1) cur)[i]? = if off + n ≤ i ∧ i < off + n + vs.length then vs[i - (off + n)]? else cur[i]?
  | [], n, cur, _ => by simp; omega
  | v :: vs, n, cur, hle => by
    simp only [List.length_cons] at hle
    obtain ⟨h1, h2⟩ := place_get off vs (n + 1) (cur.setIfInBounds (off + n) v) (by simp; omega)
    simp only [List.zipIdx_cons, List.foldl_cons]
    refine ⟨by rw [h1]; simp, fun i => ?_⟩
    rw [h2]
    by_cases hi : off + (n + 1) ≤ i ∧ i < off + (n + 1) + vs.length
    · rw [if_pos hi, if_pos (by simp; omega)]
      rw [show i - (off + n) = (i - (off + (n + 1))) + 1 by omega]
      simp
    · rw [if_neg hi, Array.getElem?_setIfInBounds]
      by_cases he : off + n = i
      · subst he
        rw [if_pos rfl, if_pos (by omega), if_pos (by simp)]
        simp
      · rw [if_neg he, if_neg (by simp; omega)]

theorem place_arr (off : Nat) (vs cur : Array Value) (hle : off + vs.size ≤ cur.size) :
    (vs.zipIdx.foldl (fun cs (p : Value × Nat) => cs.setIfInBounds (off + p.2) p.1) cur).size = cur.size ∧
    ∀ i, (vs.zipIdx.foldl (fun cs (p : Value × Nat) => cs.setIfInBounds (off + p.2) p.1) cur)[i]? = if off ≤ i ∧ i < off + vs.size then vs[i - off]? else cur[i]? := by
  have h := place_get off vs.toList 0 cur (by simpa using hle)
  rw [← Array.foldl_toList, Array.toList_zipIdx]
  simpa using h

section
variable {P : Program} {k : Lnk} {c : Cx} {base : Nat} {st : St} {a : Act} {o : Oper} {dp : Nat → List S → Hp → Option S} {slot : Nat} {v : S} {rd : List L} {wr : List (L × Blk)}

/-- Cell by cell the one list stands for the other. -/
def CellsVR (lk : Nat → Option Nat) (c : Cx) (xs : List S) (vs : Array Value) : Prop :=
  xs.length = vs.size ∧ ∀ (i : Nat) (s : S) (u : Value), xs[i]? = some s → vs[i]? = some u → VR lk c s u

theorem CellsVR.splice {xs cs : List S} {vs us : Array Value} (h : CellsVR k.fid c xs vs) {off : Nat} (hc : CellsVR k.fid c cs us) (hle : off + cs.length ≤ xs.length) :
    CellsVR k.fid c (splice xs off cs) (us.zipIdx.foldl (fun cs (p : Value × Nat) => cs.setIfInBounds (off + p.2) p.1) vs) := by
  obtain ⟨p1, p2⟩ := place_arr off us vs (by rw [← h.1, ← hc.1]; exact hle)
  refine ⟨by rw [splice_length hle, p1, h.1], fun i s u hs hu => ?_⟩
  rw [splice_get hle] at hs
  rw [p2] at hu
  rw [← hc.1] at hu
  split at hs
  · rename_i hi; rw [if_pos hi] at hu; exact hc.2 _ s u hs hu
  · rename_i hi; rw [if_neg hi] at hu; exact h.2 _ s u hs hu

theorem fill_ok (hf : FrOk k.fid c st.fr a.tmps) {places : Nat → Option (Nat × Nat)} : ∀ {ps : List (Nat × Operand)} {as : List (Nat × Nat × A)} {xs ys : List S} {vs : Array Value}, parts3 k places ps = some as →
    CellsVR k.fid c xs vs → fillS xs (evp st.fr as) = some ys → ∃ us, Instr.fill places vs (ps.map fun p => (p.1, a.eval p.2)) = some us ∧ CellsVR k.fid c ys us
  | [], as, xs, ys, vs, hp, hc, hfl => by
    simp only [parts3, Option.some.injEq] at hp
    subst hp
    simp only [evp, fillS, Option.some.injEq] at hfl
    subst hfl
    exact ⟨vs, rfl, hc⟩
  | (i, x) :: ps, as, xs, ys, vs, hp, hc, hfl => by
    simp only [parts3] at hp
    split at hp
    · rename_i off n q as' hpl hq has
      cases hp
      simp only [evp, fillS] at hfl
      split at hfl
      · rename_i hcond
        obtain ⟨h1, h2, h3⟩ := hcond
        have hx := opd_fr hq hf
        obtain ⟨c1, c2⟩ := hx.cells h3
        have hcs : CellsVR k.fid c (q.ev st.fr).cells (a.eval x).cells := ⟨c1, c2⟩
        obtain ⟨us, r1, r2⟩ := fill_ok hf has (hc.splice hcs (by omega)) hfl
        refine ⟨us, ?_, r2⟩
        simp only [List.map_cons, Instr.fill, hpl]
        have e1 : (a.eval x).cells.size = n := by rw [← c1, h1]
        have e2 : vs.size = xs.length := hc.1.symm
        rw [if_neg (by rw [e1, e2]; simp; omega)]
        exact r1
      · cases hfl
    · cases hp

theorem good_build {t : TypeId} {ps : Array (Nat × Operand)} (ho : o.op = .build t ps) {zs : List S} {n : Nat} (hz : zerosB P t = some (zs, n)) {places : Nat → Option (Nat × Nat)}
    (hbuilt : ∀ parts cells, (∀ i z, P.info? t = some i → i.zero = some z → Instr.fill places z.cells parts = some cells) → P.built t parts = some cells)
    (hf : FrOk k.fid c st.fr a.tmps) (h : HR k.fid c base) (hb : c.blk = st.blk) {as : List (Nat × Nat × A)} (hps : parts3 k places ps.toList = some as)
    (he : evalK dp slot st (.build zs as) = some (v, rd, wr)) : Good k.fid base c ((execOp a.eval o).run P c.w) (st.wrs wr).blk none v := by
  obtain ⟨i, z, hi, hiz, hsz, hpos, hzl, hzc, hcv⟩ := zerosB_ok hz
  simp only [evalK, Option.map_eq_some_iff, Prod.mk.injEq] at he
  obtain ⟨cs, hcs, rfl, rfl, rfl⟩ := he
  obtain ⟨hl, hget⟩ := cvals_get hcv
  have hzero : CellsVR k.fid c zs z.cells := ⟨by omega, fun j s u hs hu => .d _ _ (cval1_vd (hget j s u hs (by simpa using hu)))⟩
  obtain ⟨us, h1, h2⟩ := fill_ok hf hps hzero hcs
  simp only [St.wrs, ← hb]
  refine Good.same (val := .agg us) h ?_ (.r _ _ (.agg _ _ h2.1 h2.2))
  have hbt := hbuilt _ us (fun i' z' hi' hz' => by rw [hi] at hi'; cases hi'; rw [hiz] at hz'; cases hz'; exact h1)
  have hr := run_build (P := P) c.w t (ps.map fun p => (p.1, a.eval p.2)) us (by simpa using hbt)
  simp only [execOp, ho, Sem.run_bind]
  rw [hr]
  rfl

theorem VR.plain {lk : Nat → Option Nat} {s : S} {u : Value} (h : VR lk c s u) (hp : s.lit1 = true) : VD c.w c.no c.out s u := by
  cases h with
  | d _ _ h => exact h
  | _ => simp [S.lit1] at hp

theorem lit1_ok {s : S} (h : s.lit1 = true) : s.okv = true ∧ s.privs = true := by
  cases s <;> simp_all [S.lit1, S.okv, S.privs]

/-- A block that is no block of the machine's own. -/
theorem HR.other (h : HR k.fid c base) (ob : Obj) : HR k.fid { c with w := c.w.alloc ob } base ∧ Ext c { c with w := c.w.alloc ob } := by
  have e : Ext c { c with w := c.w.alloc ob } :=
    ⟨rfl, rfl, rfl, by simp, fun b hb _ => heap_old _ _ hb, fun _ _ h => h, rfl, rfl, fun l fz esz xs hb => ⟨fz, xs, hb, Nat.le_refl _, fun _ => ⟨rfl, fun b cells E fr ha hc => ⟨cells, by rw [← hc]; exact heap_old _ _ (h.lt _ _ ha).2, rfl⟩⟩⟩, fun _ es hb => ⟨⟨es, hb⟩, rfl⟩⟩
  exact ⟨⟨by have := h.bs; simp; omega, h.outs, fun b hb => ⟨by have := (h.hids b hb).1; simp; omega, (h.hids b hb).2⟩, fun l b hl => ⟨(h.lt l b hl).1, by have := (h.lt l b hl).2; simp; omega⟩, h.inj, h.live, fun l fz esz xs hb => (h.rows l fz esz xs hb).mono e rfl (fun b ha => heap_old _ _ (h.lt _ _ ha).2), h.maps⟩, e⟩

/-- Row by row: so many cells each, each of them plain. -/
def RowsVD (c : Cx) (esz : Nat) (xs : List S) (vs : Array Value) : Prop :=
  vs.size = xs.length * esz ∧ ∀ (i : Nat) (x : S), xs[i]? = some x → x.cells.length = esz ∧ ∀ (j : Nat) (s : S), x.cells[j]? = some s → ∃ u, vs[i * esz + j]? = some u ∧ VD c.w c.no c.out s u ∧ s.privs = true

theorem RowsVD.set {esz : Nat} {xs : List S} {vs us : Array Value} (h : RowsVD c esz xs vs) {x : S} {i : Nat} (hi : i < xs.length) (hl : x.cells.length = esz) (hus : us.size = esz)
    (hx : ∀ (j : Nat) (s : S) (u : Value), x.cells[j]? = some s → us[j]? = some u → VD c.w c.no c.out s u ∧ s.privs = true) :
    RowsVD c esz (xs.set i x) (us.zipIdx.foldl (fun cs (p : Value × Nat) => cs.setIfInBounds (i * esz + p.2) p.1) vs) := by
  have hle : i * esz + esz ≤ vs.size := by
    rw [h.1, ← Nat.succ_mul]; exact Nat.mul_le_mul_right _ hi
  obtain ⟨p1, p2⟩ := place_arr (i * esz) us vs (by omega)
  refine ⟨by rw [p1, h.1, List.length_set], fun i' y hy => ?_⟩
  rw [List.getElem?_set] at hy
  split at hy
  · rename_i he
    subst he
    (try rw [if_pos hi] at hy)
    cases hy
    refine ⟨hl, fun j s hs => ?_⟩
    have hj : j < esz := by rw [← hl]; exact (List.getElem?_eq_some_iff.1 hs).1
    rw [p2, if_pos (by omega)]
    rw [show i * esz + j - i * esz = j by omega]
    have hju : j < us.size := by omega
    have hu : us[j]? = some us[j] := Array.getElem?_eq_getElem hju
    exact ⟨us[j], hu, hx j s _ hs hu⟩
  · rename_i he
    obtain ⟨q1, q2⟩ := h.2 i' y hy
    refine ⟨q1, fun j s hs => ?_⟩
    have hj : j < esz := by rw [← q1]; exact (List.getElem?_eq_some_iff.1 hs).1
    rw [p2, if_neg]
    · exact q2 j s hs
    · intro hin
      rcases Nat.lt_or_gt_of_ne he with hlt | hgt
      · have : (i + 1) * esz ≤ i' * esz := Nat.mul_le_mul_right _ hlt
        rw [Nat.succ_mul] at this
        omega
      · have : (i' + 1) * esz ≤ i * esz := Nat.mul_le_mul_right _ hgt
        rw [Nat.succ_mul] at this
        omega

theorem fillL_ok (hf : FrOk k.fid c st.fr a.tmps) {esz : Nat} : ∀ {ps : List (Nat × Operand)} {as : List (Nat × A)} {xs ys : List S} {vs : Array Value}, parts2 k ps = some as →
    RowsVD c esz xs vs → fillL esz xs (evq st.fr as) = some ys → ∃ us, Instr.fill (fun i => some (i * esz, esz)) vs (ps.map fun p => (p.1, a.eval p.2)) = some us ∧ RowsVD c esz ys us ∧ ys.length = xs.length
  | [], as, xs, ys, vs, hp, hc, hfl => by
    simp only [parts2, Option.some.injEq] at hp
    subst hp
    simp only [evq, fillL, Option.some.injEq] at hfl
    subst hfl
    exact ⟨vs, rfl, hc, rfl⟩
  | (i, x) :: ps, as, xs, ys, vs, hp, hc, hfl => by
    simp only [parts2] at hp
    split at hp
    · rename_i q as' hq has
      cases hp
      simp only [evq, fillL] at hfl
      split at hfl
      · rename_i hcond
        obtain ⟨h1, h2, h3⟩ := hcond
        have hx := opd_fr hq hf
        have hlit := List.all_eq_true.1 h3
        have hok : (q.ev st.fr).cells.all S.okv = true := List.all_eq_true.2 fun s hs => (lit1_ok (hlit s hs)).1
        obtain ⟨c1, c2⟩ := hx.cells hok
        obtain ⟨us, r1, r2, r3⟩ := fillL_ok hf has (hc.set h2 h1 (us := (a.eval x).cells) (by omega) (fun j s u hs hu => ⟨(c2 j s u hs hu).plain (hlit s (List.mem_of_getElem? hs)), (lit1_ok (hlit s (List.mem_of_getElem? hs))).2⟩)) hfl
        refine ⟨us, ?_, r2, by rw [r3, List.length_set]⟩
        simp only [List.map_cons, Instr.fill]
        have hle : i * esz + esz ≤ vs.size := by
          rw [hc.1, ← Nat.succ_mul]; exact Nat.mul_le_mul_right _ h2
        have e1 : (a.eval x).cells.size = esz := by rw [← c1, h1]
        rw [if_neg (by rw [e1]; simp; omega)]
        exact r1
      · cases hfl
    · cases hp

theorem good_lit {t e : TypeId} {n : Nat} {ps : Array (Nat × Operand)} (ho : o.op = .buildSlice t n ps) (ht : P.underlying t = some (.slice e)) {zs : List S} {esz : Nat} (hz : zerosB P e = some (zs, esz)) (hcap : n * esz ≤ 16777216)
    (hf : FrOk k.fid c st.fr a.tmps) (h : HR k.fid c base) (hb : c.blk = st.blk) {as : List (Nat × A)} (hps : parts2 k ps.toList = some as)
    (he : evalK dp slot st (.lit esz (row1 zs) n as) = some (v, rd, wr)) : Good k.fid base c ((execOp a.eval o).run P c.w) (st.wrs wr).blk none v := by
  obtain ⟨i, z, hi, hiz, hsz, hpos, hzl, hzc, hcv⟩ := zerosB_ok hz
  simp only [evalK, Option.map_eq_some_iff, Prod.mk.injEq] at he
  obtain ⟨xs, hxs, rfl, rfl, rfl⟩ := he
  obtain ⟨hl, hget⟩ := cvals_get hcv
  have hokv := cvals_okv hcv
  have hrc := row1_cells zs hokv
  have hz0 : RowsVD c esz (List.replicate n (row1 zs)) (if n * esz = 0 then #[] else madeCells z.cells (n * esz)) := by
    refine ⟨by
      split
      · rename_i h'; simp [h']
      · simp [size_madeCells], fun i' x hx => ?_⟩
    rw [List.getElem?_replicate] at hx
    split at hx
    · rename_i hlt
      cases hx
      rw [hrc]
      refine ⟨hzl, fun j s hs => ?_⟩
      have hj : j < esz := by rw [← hzl]; exact (List.getElem?_eq_some_iff.1 hs).1
      have hidx : i' * esz + j < n * esz := by
        have : (i' + 1) * esz ≤ n * esz := Nat.mul_le_mul_right _ hlt
        rw [Nat.succ_mul] at this
        omega
      rw [if_neg (by omega)]
      have hjl : j < z.cells.toList.length := by simpa [hzc] using hj
      have hu : z.cells.toList[j]? = some z.cells.toList[j] := List.getElem?_eq_getElem hjl
      refine ⟨z.cells.toList[j], ?_, cval1_vd (hget j s _ hs hu), (cval1_lit1 (hget j s _ hs hu)).2⟩
      unfold madeCells
      rw [Array.getElem?_map, Array.getElem?_range, if_pos hidx]
      simp only [Option.map_some, hzc]
      have hmod : (i' * esz + j) % esz = j := by rw [Nat.add_comm, Nat.add_mul_mod_self_right, Nat.mod_eq_of_lt hj]
      rw [hmod]
      have hjz : j < z.cells.size := by omega
      rw [getElem!_pos z.cells j hjz]
      simp
    · cases hx
  obtain ⟨us, r1, r2, r3⟩ := fillL_ok hf hps hz0 hxs
  have hlen : xs.length = n := by rw [r3]; simp
  have hrun : (execOp a.eval o).run P c.w = .ok (.value (.slice (some ⟨c.w.heap.size, 0, none⟩) n n)) (c.w.alloc (.cells us e)) := by
    have hmap : (ps.map fun p => (p.1, a.eval p.2)).toList = ps.toList.map fun p => (p.1, a.eval p.2) := by simp
    by_cases hn0 : n * esz = 0
    · rw [if_pos hn0] at r1
      have hn00 : n = 0 := by rcases Nat.mul_eq_zero.1 hn0 with h' | h' <;> omega
      subst hn00
      simp only [execOp, ho, Instr.buildSlice, Sem.run_bind, run_underlying ht, Result.andThen_ok, sizeOf, typeInfo, run_program, hi, Sem.run_pure, hsz]
      have e0 : Array.range 0 = (#[] : Array Nat) := by simp
      simp [newRow, r1, e0]
    · rw [if_neg hn0] at r1
      have hng : ¬ (n * esz > 16777216) := by omega
      simp only [execOp, ho, Instr.buildSlice, Sem.run_bind, run_underlying ht, Result.andThen_ok, sizeOf, typeInfo, run_program, hi, Sem.run_pure, hsz]
      unfold madeCells at r1
      simp [newRow, r1, hng, hn0, zeroValue, typeInfo, hi, hiz]
  obtain ⟨o1, o2⟩ := h.other (k := k) (.cells us e)
  refine ⟨.value _, .slice (some ⟨c.w.heap.size, 0, none⟩) n n, _, hrun, rfl, ?_, o1, o2, fun t _ fz esz xs hb => ⟨⟨fz, xs, hb⟩, rfl⟩, .r _ _ (.d _ _ ?_)⟩
  · simp only [St.wrs, ← hb]
  · have hcell : ∀ i, (c.w.alloc (.cells us e)).cell? ⟨c.w.heap.size, i, none⟩ = us[i]? := by
      intro i
      unfold World.cell?
      simp only [heap_new]
      rfl
    have hvd : ∀ s u, VD c.w c.no c.out s u → VD (c.w.alloc (.cells us e)) c.no c.out s u := fun s u hd =>
      hd.mono (by simp) (fun b hb _ => heap_old _ _ hb) (fun _ _ h => h) (fun _ _ _ h => h)
    have hnow : ¬ c.no c.w.heap.size := by
      rintro (⟨l, hl⟩ | hl)
      · have := (h.lt _ _ hl).2; omega
      · have := (h.hids _ hl).1; omega
    have hnout : ¬ c.out c.w.heap.size := fun ho => by have := h.outs _ ho; have := h.bs; omega
    refine .list true true xs c.w.heap.size 0 esz n n (fun i j => us.getD (i * esz + j) undef) hlen (Nat.le_refl _) (fun _ => rfl) (by simp) hnow (fun _ => hnout) (fun i x hx => (r2.2 i x hx).1) (fun _ i x j s hx hs => ?_) (fun i x j s hx hs => ?_) (fun i x j s hx hs => ?_) <;> obtain ⟨u, hu, hd, hpv⟩ := (r2.2 i x hx).2 j s hs
    · exact hpv
    · rw [Nat.zero_add, hcell]; simp [Array.getD_eq_getD_getElem?, hu]
    · have hh := hvd _ _ hd
      have he : us.getD (i * esz + j) undef = u := by simp [Array.getD_eq_getD_getElem?, hu]
      simp only [he]
      exact hh

end
end Go.Proofs.Ytkafliflpplpeaa.Sim
namespace Go.Proofs.Ytkafliflpplpeaa.Sim
set_option linter.unusedSimpArgs false
set_option linter.unusedVariables false
open Go

section
variable {P : Program} {k : Lnk} {c : Cx} {base : Nat} {st : St} {a : Act} {o : Oper} {dp : Nat → List S → Hp → Option S} {slot : Nat} {v : S} {rd : List L} {wr : List (L × Blk)}

theorem append_types {t t' e e' : TypeId} (ht : P.underlying t = some (.slice e)) (ht' : P.underlying t' = some (.slice e')) (ty : TypeId) (args : Array Value) (w : World) :
    (Builtin.append_ #[t, t'] ty args).run P w = (Builtin.append_ #[t, t] ty args).run P w := by
  cases h0 : args[0]? with
  | none => simp [Builtin.append_, h0]
  | some s =>
    cases h1 : args[1]? with
    | none => simp [Builtin.append_, h0, h1]
    | some x =>
      simp only [Builtin.append_, h0, h1]
      cases s <;> simp [run_underlying ht, run_underlying ht']

/-- Cells in a row, that stand for rows of the machine's. -/
structure View (k : Lnk) (c : Cx) (esz : Nat) (ys : List S) (news : List Value) : Prop where
  len : news.length = ys.length * esz
  one : ∀ u ∈ news, u.oneCell' = true
  row : ∀ (i : Nat) (y : S), ys[i]? = some y → y.cells.length = esz ∧ ∀ (j : Nat) (s : S), y.cells[j]? = some s → ∃ u, news[i * esz + j]? = some u ∧ VR k.fid c s u ∧ s.okv = true

theorem View.app {esz : Nat} {xs ys : List S} {us vs : List Value} (h : View k c esz xs us) (g : View k c esz ys vs) : View k c esz (xs ++ ys) (us ++ vs) := by
  refine ⟨by simp [h.len, g.len, Nat.add_mul], fun u hu => ?_, fun i y hy => ?_⟩
  · rcases List.mem_append.1 hu with hu | hu
    · exact h.one u hu
    · exact g.one u hu
  · by_cases hi : i < xs.length
    · rw [List.getElem?_append_left hi] at hy
      obtain ⟨q1, q2⟩ := h.row i y hy
      refine ⟨q1, fun j s hs => ?_⟩
      obtain ⟨u, hu, r⟩ := q2 j s hs
      exact ⟨u, by rw [List.getElem?_append_left (List.getElem?_eq_some_iff.1 hu).1]; exact hu, r⟩
    · rw [List.getElem?_append_right (by omega)] at hy
      obtain ⟨q1, q2⟩ := g.row _ y hy
      refine ⟨q1, fun j s hs => ?_⟩
      obtain ⟨u, hu, r⟩ := q2 j s hs
      have hle : us.length ≤ i * esz + j := by
        rw [h.len]
        have : xs.length * esz ≤ i * esz := Nat.mul_le_mul_right _ (by omega)
        omega
      refine ⟨u, ?_, r⟩
      rw [List.getElem?_append_right hle, ← hu, h.len]
      congr 1
      have hs2 : (i - xs.length) * esz = i * esz - xs.length * esz := Nat.sub_mul _ _ _
      rw [hs2]
      have : xs.length * esz ≤ i * esz := Nat.mul_le_mul_right _ (by omega)
      omega

theorem View.take {esz n : Nat} {xs : List S} {us : List Value} (h : View k c esz xs us) (hn : n ≤ xs.length) : View k c esz (xs.take n) (us.take (n * esz)) := by
  have hle : n * esz ≤ xs.length * esz := Nat.mul_le_mul_right _ hn
  refine ⟨by rw [List.length_take, List.length_take, h.len, Nat.min_eq_left hn, Nat.min_eq_left hle], fun u hu => h.one u (List.mem_of_mem_take hu), fun i y hy => ?_⟩
  rw [List.getElem?_take] at hy
  split at hy
  · rename_i hi
    obtain ⟨q1, q2⟩ := h.row i y hy
    refine ⟨q1, fun j s hs => ?_⟩
    obtain ⟨u, hu, r⟩ := q2 j s hs
    refine ⟨u, ?_, r⟩
    have hj : j < esz := by rw [← q1]; exact (List.getElem?_eq_some_iff.1 hs).1
    have hlt : i * esz + j < n * esz := by
      have : (i + 1) * esz ≤ n * esz := Nat.mul_le_mul_right _ hi
      rw [Nat.succ_mul] at this
      omega
    rw [List.getElem?_take, if_pos hlt, hu]
  · cases hy

theorem View.drop {esz n : Nat} {xs : List S} {us : List Value} (h : View k c esz xs us) : View k c esz (xs.drop n) (us.drop (n * esz)) := by
  refine ⟨by simp [h.len, Nat.sub_mul], fun u hu => h.one u (List.mem_of_mem_drop hu), fun i y hy => ?_⟩
  rw [List.getElem?_drop] at hy
  obtain ⟨q1, q2⟩ := h.row _ y hy
  refine ⟨q1, fun j s hs => ?_⟩
  obtain ⟨u, hu, r⟩ := q2 j s hs
  refine ⟨u, ?_, r⟩
  rw [List.getElem?_drop, ← hu, Nat.add_mul, Nat.add_assoc]

/-- The rows of a block of the machine's own. -/
theorem RowsOk.view {l : L} {fz : Bool} {esz : Nat} {xs : List S} (h : RowsOk k.fid c l fz esz xs) : ∃ b cells E m, c.at_ l = some b ∧ c.w.heap[b]? = some (.cells cells E (0, 0)) ∧ 0 < esz ∧ cells.size = m * esz ∧ xs.length ≤ m ∧ (fz = false → m = xs.length) ∧
    View k c esz xs (cells.toList.take (xs.length * esz)) := by
  obtain ⟨b, cells, E, m, h1, h2, h3, h4, h5, h6, h7⟩ := h
  have hle : xs.length * esz ≤ m * esz := Nat.mul_le_mul_right _ h5
  have hrow : ∀ (i : Nat) (y : S), xs[i]? = some y → y.cells.length = esz ∧ ∀ (j : Nat) (s : S), y.cells[j]? = some s → ∃ u, (cells.toList.take (xs.length * esz))[i * esz + j]? = some u ∧ VR k.fid c s u ∧ s.okv = true := by
    intro i y hy
    obtain ⟨q1, q2⟩ := h7 i y hy
    refine ⟨q1, fun j s hs => ?_⟩
    obtain ⟨u, hu, r⟩ := q2 j s hs
    refine ⟨u, ?_, r⟩
    have hj : j < esz := by rw [← q1]; exact (List.getElem?_eq_some_iff.1 hs).1
    have hi := (List.getElem?_eq_some_iff.1 hy).1
    have hlt : i * esz + j < xs.length * esz := by
      have : (i + 1) * esz ≤ xs.length * esz := Nat.mul_le_mul_right _ hi
      rw [Nat.succ_mul] at this
      omega
    rw [List.getElem?_take, if_pos hlt, Array.getElem?_toList, hu]
  refine ⟨b, cells, E, m, h1, h2, h3, h4, h5, h6, by simp; omega, fun u hu => ?_, hrow⟩
  obtain ⟨t, ht⟩ := List.getElem?_of_mem hu
  have hlt : t < xs.length * esz := by
    rw [List.getElem?_take] at ht
    split at ht
    · assumption
    · cases ht
  have hi : t / esz < xs.length := Nat.div_lt_of_lt_mul (by rw [Nat.mul_comm]; exact hlt)
  have hy : xs[t / esz]? = some xs[t / esz] := List.getElem?_eq_getElem hi
  obtain ⟨q1, q2⟩ := hrow _ _ hy
  have hj : t % esz < xs[t / esz].cells.length := by rw [q1]; exact Nat.mod_lt _ h3
  obtain ⟨u', hu', hv, ho⟩ := q2 _ _ (List.getElem?_eq_getElem hj)
  rw [Nat.div_add_mod' t esz, ht] at hu'
  cases hu'
  exact (hv.one ho).1

theorem View.of_list {f q : Bool} {xs : List S} {val : Value} (h : VD c.w c.no c.out (.list f q xs) val) {esz : Nat} (hpos : 0 < esz) (hall : eszAll esz xs = true) :
    ∃ ad cap news, val = .slice ad xs.length cap ∧ View k c esz xs news ∧ (xs ≠ [] → ∃ b oo, ad = some ⟨b, oo, none⟩ ∧ ∀ (j : Nat) (u : Value), news[j]? = some u → c.w.cell? ⟨b, oo + j, none⟩ = some u) := by
  cases h with
  | nil _ _ ad cap h => exact ⟨ad, cap, [], rfl, ⟨by simp, by simp, fun i y hy => by simp at hy⟩, fun hne => absurd rfl hne⟩
  | list _ _ _ b oo es len cap u hlen hle hf hb how hout hrow hpr hcell hv =>
    subst hlen
    have hes : ∀ (i : Nat) (x : S), xs[i]? = some x → x.cells.length = esz := by
      intro i x hx
      have := List.all_eq_true.1 hall x (List.mem_of_getElem? hx)
      simpa using this
    by_cases hnil : xs = []
    · subst hnil
      exact ⟨_, cap, [], rfl, ⟨by simp, by simp, fun i y hy => by simp at hy⟩, fun hne => absurd rfl hne⟩
    have he : es = esz := by
      have h0 : 0 < xs.length := List.length_pos_iff.2 hnil
      have h1 : xs[0]? = some xs[0] := List.getElem?_eq_getElem h0
      rw [← hrow 0 _ h1, hes 0 _ h1]
    subst he
    have hget : ∀ t, t < xs.length * es → ((List.range (xs.length * es)).map fun t => u (t / es) (t % es))[t]? = some (u (t / es) (t % es)) := by
      intro t ht
      simp [List.getElem?_range ht]
    have hlt : ∀ t, t < xs.length * es → ∃ (x : S) (s : S), xs[t / es]? = some x ∧ x.cells[t % es]? = some s := by
      intro t ht
      have hi : t / es < xs.length := Nat.div_lt_of_lt_mul (by rw [Nat.mul_comm]; exact ht)
      have h1 : xs[t / es]? = some xs[t / es] := List.getElem?_eq_getElem hi
      have hj : t % es < xs[t / es].cells.length := by rw [hrow _ _ h1]; exact Nat.mod_lt _ hpos
      exact ⟨_, _, h1, List.getElem?_eq_getElem hj⟩
    refine ⟨_, cap, (List.range (xs.length * es)).map fun t => u (t / es) (t % es), rfl, ⟨by simp, fun y hy => ?_, fun i y hy => ?_⟩, fun _ => ⟨b, oo, rfl, fun t y hy => ?_⟩⟩
    · obtain ⟨t, ht⟩ := List.getElem?_of_mem hy
      have htl : t < xs.length * es := by have := (List.getElem?_eq_some_iff.1 ht).1; simpa using this
      rw [hget t htl] at ht
      cases ht
      obtain ⟨x, s, hx, hs⟩ := hlt t htl
      have hd := hv _ x _ s hx hs
      exact (VR.one (lk := k.fid) (.d _ _ hd) hd.okv).1
    · refine ⟨hrow i y hy, fun j s hs => ?_⟩
      have hj : j < es := by rw [← hrow i y hy]; exact (List.getElem?_eq_some_iff.1 hs).1
      have hi := (List.getElem?_eq_some_iff.1 hy).1
      have hidx : i * es + j < xs.length * es := by
        have : (i + 1) * es ≤ xs.length * es := Nat.mul_le_mul_right _ hi
        rw [Nat.succ_mul] at this
        omega
      have hd := hv i y j s hy hs
      refine ⟨u i j, ?_, .d _ _ hd, hd.okv⟩
      rw [hget _ hidx]
      have hdiv : (i * es + j) / es = i := by rw [Nat.add_comm, Nat.add_mul_div_right _ _ hpos, Nat.div_eq_of_lt hj, Nat.zero_add]
      have hmod : (i * es + j) % es = j := by rw [Nat.add_comm, Nat.add_mul_mod_self_right, Nat.mod_eq_of_lt hj]
      rw [hdiv, hmod]
    · have htl : t < xs.length * es := by have := (List.getElem?_eq_some_iff.1 hy).1; simpa using this
      rw [hget t htl] at hy
      cases hy
      obtain ⟨x, s, hx, hs⟩ := hlt t htl
      have := hcell _ x _ s hx hs
      rw [Nat.div_add_mod' t es] at this
      exact this

theorem elems_view (h : HR k.fid c base) (hb : c.blk = st.blk) {sx : S} {val : Value} (hx : FR k.fid c sx val) {ys : List S} {r : List L} (he : elemsR st sx = some (ys, r)) {esz : Nat} (hpos : 0 < esz) (hall : eszAll esz ys = true) :
    ∃ ad cap news, val = .slice ad ys.length cap ∧ View k c esz ys news ∧ (ys ≠ [] → ∃ b oo, ad = some ⟨b, oo, none⟩ ∧ ∀ (j : Nat) (u : Value), news[j]? = some u → c.w.cell? ⟨b, oo + j, none⟩ = some u) := by
  cases sx with
  | list f q xs =>
    simp only [elemsR, Option.some.injEq, Prod.mk.injEq] at he
    obtain ⟨rfl, rfl⟩ := he
    exact View.of_list hx.list hpos hall
  | own l w off len =>
    simp only [elemsR] at he
    split at he
    · rename_i fz es xs hblk
      split at he
      · rename_i hc
        simp only [Option.some.injEq, Prod.mk.injEq] at he
        obtain ⟨rfl, rfl⟩ := he
        obtain ⟨ad, cap, fz', es', xs', e, hb1, _, hh⟩ := hx.own
        have heq : c.blk (.h l) = some (.rows fz es xs) := by rw [hb]; exact hblk
        rw [heq] at hb1
        cases hb1
        obtain ⟨hle, b, cells, E, frz, ha, hcl, haddr, hcap⟩ := hh hc.1
        obtain ⟨b2, cells2, E2, m, ha2, hc2, hpos2, hsz, hlm, hfm, hview⟩ := (h.rows _ _ _ _ heq).view
        rw [ha] at ha2
        cases ha2
        rw [hcl] at hc2
        cases hc2
        have hlen : ((xs.drop off).take len).length = len := by simp; omega
        by_cases hnil : (xs.drop off).take len = []
        · refine ⟨ad, cap, [], by rw [hlen]; exact e, ?_, fun hne => absurd hnil hne⟩
          rw [hnil]
          exact ⟨by simp, by simp, fun i y hy => by simp at hy⟩
        have hlen0 : len ≠ 0 := by intro h0; subst h0; simp at hnil
        have had := haddr.resolve_right (fun hh => hlen0 hh.1)
        subst had
        have hes : es = esz := by
          have h0 : 0 < ((xs.drop off).take len).length := List.length_pos_iff.2 hnil
          have h1 : ((xs.drop off).take len)[0]? = some _ := List.getElem?_eq_getElem h0
          have h2 := ((hview.drop (n := off)).take (n := len) (by simp; omega)).row 0 _ h1
          have h3 := List.all_eq_true.1 hall _ (List.mem_of_getElem? h1)
          simp only [beq_iff_eq] at h3
          rw [← h2.1, h3]
        subst hes
        refine ⟨_, cap, _, by rw [hlen]; exact e, (hview.drop (n := off)).take (n := len) (by simp; omega), fun _ => ⟨b, off * es, rfl, fun j u hj => ?_⟩⟩
        rw [List.getElem?_take] at hj
        split at hj
        · rw [List.getElem?_drop, List.getElem?_take] at hj
          split at hj
          · rw [Array.getElem?_toList] at hj
            simp [World.cell?, hcl, hj]
          · cases hj
        · cases hj
      · cases he
    · cases he
  | _ => simp [elemsR] at he

end
end Go.Proofs.Ytkafliflpplpeaa.Sim
namespace Go.Proofs.Ytkafliflpplpeaa.Sim
set_option linter.unusedSimpArgs false
set_option linter.unusedVariables false
open Go

section
variable {P : Program} {k : Lnk} {c : Cx} {base : Nat} {st : St} {a : Act} {o : Oper} {dp : Nat → List S → Hp → Option S} {slot : Nat} {v : S} {rd : List L} {wr : List (L × Blk)}

theorem okLen_ok {n bytes : Nat} (h : okLen n bytes = true) (hb : 0 < bytes) : n * bytes ≤ 140737488355328 ∧ n ≤ 140737488351232 := by
  unfold okLen at h
  have h' : (2 * n + 1024) * bytes ≤ 140737488351232 := of_decide_eq_true h
  have h1 : n * bytes ≤ (2 * n + 1024) * bytes := Nat.mul_le_mul_right _ (by omega)
  have h2 : n * 1 ≤ n * bytes := Nat.mul_le_mul_left _ hb
  omega

theorem grow_run {t e : TypeId} {i : TypeInfo} {z : Value} (ht : P.underlying t = some (.slice e)) (hi : P.info? e = some i) (hz : i.zero = some z) (hb : 0 < i.bytes) {ad : Option Addr} {len cap m cc : Nat} {olds news : List Value} {sb so : Nat} (ty : TypeId) (w : World)
    (had : ad = none → len = 0 ∧ cap = 0) (holds : olds.length = len * i.size) (hold : ∀ b0, ad = some b0 → ∀ j u, olds[j]? = some u → w.cell? (b0.add j) = some u)
    (hnews : news.length = m * i.size) (hnew : ∀ (j : Nat) (u : Value), news[j]? = some u → w.cell? ⟨sb, so + j, none⟩ = some u) (hcap : cap < len + m) (hok : okLen (len + m) i.bytes = true) :
    ∃ C, len + m ≤ C ∧ (Builtin.append_ #[t, t] ty #[.slice ad len cap, .slice (some ⟨sb, so, none⟩) m cc]).run P w =
      .ok (.slice (some ⟨w.heap.size, 0, none⟩) (len + m) C) (w.drew.alloc (.cells (olds.toArray ++ news.toArray ++ Builtin.zeroCells z.cells (C - (len + m))) e)) := by
  obtain ⟨b1, b2⟩ := okLen_ok hok hb
  cases ad with
  | none =>
    obtain ⟨rfl, rfl⟩ := had rfl
    have ho : olds = [] := List.eq_nil_of_length_eq_zero (by simpa using holds)
    subst ho
    simp only [Nat.zero_add] at *
    refine ⟨grownCap w m 0 e, grownCap_ge w m 0 e, ?_⟩
    have hr := run_append_nil (P := P) w t ty e i z ht hi hz ⟨sb, so, none⟩ m cc news hnews (fun j u hu => by rw [add_lit]; exact hnew j u hu) (by omega) (by omega) (by omega)
    rw [hr]
    simp
  | some b0 =>
    refine ⟨grownCap w (len + m) cap e, grownCap_ge w (len + m) cap e, ?_⟩
    exact run_append_grow (P := P) w t ty e i z ht hi hz b0 len cap olds holds (hold b0 rfl) ⟨sb, so, none⟩ m cc news hnews (fun j u hu => by rw [add_lit]; exact hnew j u hu) hcap (by omega) (growslice_fits hcap b1)

/-- The block that an 'append' made: the machine's memory has it at l. -/
theorem grown_ok (h : HR k.fid c base) (l : L) {esz : Nat} {xs : List S} {all : List Value} (hv : View k c esz xs all) (hpos : 0 < esz) {z : Array Value} (hzs : z.size = esz) {C : Nat} (hC : xs.length ≤ C) {e : TypeId}
    (hcomp : ∀ q, l = .h q → ∀ fz0 esz0 xs0, c.blk l = some (.rows fz0 esz0 xs0) → esz0 = esz ∧ xs0.length < xs.length) {w' : World}
    (hw : w' = c.w.drew.alloc (.cells (all.toArray ++ Builtin.zeroCells z (C - xs.length)) e)) :
    HR k.fid ⟨w', updL c.blk l (.rows true esz xs), updL c.at_ l c.w.heap.size, c.out, c.hid⟩ base ∧ Ext c ⟨w', updL c.blk l (.rows true esz xs), updL c.at_ l c.w.heap.size, c.out, c.hid⟩ ∧
      w'.heap[c.w.heap.size]? = some (.cells (all.toArray ++ Builtin.zeroCells z (C - xs.length)) e (0, 0)) ∧ (all.toArray ++ Builtin.zeroCells z (C - xs.length)).size = C * esz := by
  subst hw
  have hsz : (all.toArray ++ Builtin.zeroCells z (C - xs.length)).size = C * esz := by
    rw [Array.size_append, size_zeroCells, hzs, List.size_toArray, hv.len, ← Nat.add_mul]
    congr 1
    omega
  have hnew : (c.w.drew.alloc (.cells (all.toArray ++ Builtin.zeroCells z (C - xs.length)) e)).heap[c.w.heap.size]? = some (.cells (all.toArray ++ Builtin.zeroCells z (C - xs.length)) e (0, 0)) := heap_new c.w.drew _
  obtain ⟨r1, r2⟩ := HR.upd h l true esz C xs (c.w.drew.alloc (.cells (all.toArray ++ Builtin.zeroCells z (C - xs.length)) e)) c.w.heap.size _ e rfl rfl rfl (by simp) (fun q hq _ => heap_old c.w.drew _ hq) (.inr (Nat.le_refl _)) (by simp) hnew hpos hsz hC (fun hf => by cases hf)
    (fun q hq fz0 esz0 xs0 hb0 => by
      obtain ⟨p1, p2⟩ := hcomp q hq fz0 esz0 xs0 hb0
      exact ⟨p1, by omega, fun he => by omega⟩)
    (fun i x hx => by
      obtain ⟨q1, q2⟩ := hv.row i x hx
      refine ⟨q1, fun j s hs => ?_⟩
      obtain ⟨u, hu, r⟩ := q2 j s hs
      refine ⟨u, ?_, r⟩
      rw [Array.getElem?_append_left (by simpa using (List.getElem?_eq_some_iff.1 hu).1)]
      simpa using hu)
  exact ⟨r1, r2, hnew, hsz⟩

theorem room_run {t e : TypeId} {i : TypeInfo} (ht : P.underlying t = some (.slice e)) (hi : P.info? e = some i) (ty E : TypeId) (w : World) (g sLen sCap : Nat) (cur : Array Value) (hg : w.heap[g]? = some (.cells cur E (0, 0)))
    (ad : Addr) (m cc : Nat) (news : List Value) (hl : news.length = m * i.size) (hnews : ∀ j u, news[j]? = some u → w.cell? (ad.add j) = some u) (h1 : ∀ u ∈ news, u.oneCell' = true)
    (hroom : sLen + m ≤ sCap) (hfit : sLen * i.size + news.length ≤ cur.size) :
    (Builtin.append_ #[t, t] ty #[.slice (some ⟨g, 0, none⟩) sLen sCap, .slice (some ad) m cc]).run P w =
      .ok (.slice (some ⟨g, 0, none⟩) (sLen + m) sCap) (w.setRow g (cur.toList.take (sLen * i.size) ++ news ++ cur.toList.drop (sLen * i.size + news.length)).toArray) := by
  have hf := run_firstCells_some (P := P) w i.size m ad m cc news hl hnews
  have hst := run_storeCells_at P g (sLen * i.size) E news 0 cur w hg (by simpa using hfit) h1
  simp only [Nat.add_zero] at hst
  simp [Builtin.append_, run_underlying ht, sizeOf, typeInfo, hi, Builtin.lenOf, hroom, hf, Addr.add_lit, hst]

/-- A block of the machine's own is written where it lies. -/
theorem write_ok (h : HR k.fid c base) {l : L} {fz : Bool} {es : Nat} {xs : List S} (heq : c.blk l = some (.rows fz es xs)) {b : Nat} (ha : c.at_ l = some b) {cells : Array Value} {E : TypeId} (hcl : c.w.heap[b]? = some (.cells cells E (0, 0)))
    {cap : Nat} (hpos : 0 < es) (hcsz : cells.size = cap * es) {ys : List S} {all rest : List Value} {nc : Array Value} (hv : View k c es ys all) (hnc : nc.toList = all ++ rest) (hsz : nc.size = cells.size) (hle : ys.length ≤ cap) (hge : xs.length ≤ ys.length) {fz' : Bool} (hfz : fz' = false → cap = ys.length) :
    HR k.fid ⟨c.w.setRow b nc, updL c.blk l (.rows fz' es ys), updL c.at_ l b, c.out, c.hid⟩ base ∧ Ext c ⟨c.w.setRow b nc, updL c.blk l (.rows fz' es ys), updL c.at_ l b, c.out, c.hid⟩ ∧ (c.w.setRow b nc).heap[b]? = some (.cells nc E (0, 0)) := by
  obtain ⟨u1, u2⟩ := HR.upd h l fz' es cap ys (c.w.setRow b nc) b nc E rfl rfl rfl (by simp) (fun q hq hno => setRow_other c.w b q nc (fun e => hno (e ▸ ha))) (.inl ha) (by rw [size_setRow]; exact (h.lt l b ha).2)
    (setRow_heap c.w b cells nc E (0, 0) hcl) hpos (by rw [hsz, hcsz]) hle hfz
    (fun q _ fz0 esz0 xs0 hb0 => by
      rw [heq] at hb0
      cases hb0
      refine ⟨rfl, hge, fun _ => ⟨ha, fun cells0 E0 fr0 hc0 => ?_⟩⟩
      rw [hcl] at hc0
      cases hc0
      exact ⟨hsz.symm, rfl, rfl⟩)
    (fun i y hy => by
      obtain ⟨p1, p2⟩ := hv.row i y hy
      refine ⟨p1, fun j s hs => ?_⟩
      obtain ⟨u, hu, r⟩ := p2 j s hs
      refine ⟨u, ?_, r⟩
      rw [← Array.getElem?_toList, hnc, List.getElem?_append_left (List.getElem?_eq_some_iff.1 hu).1]
      exact hu)
  exact ⟨u1, u2, setRow_heap c.w b cells nc E (0, 0) hcl⟩

theorem good_append {t t' e e' : TypeId} {x y : Operand} {as : Array TypeId} {xs' : Array Operand} (ho : o.op = .call { callee := .builtin .append, args := xs', argTypes := as }) (has : as.toList = [t, t']) (hxs : xs'.toList = [x, y])
    (ht : P.underlying t = some (.slice e)) (ht' : P.underlying t' = some (.slice e')) {i : TypeInfo} (hi : P.info? e = some i) (hbytes : 0 < i.bytes) {zs : List S} {n : Nat} (hz : zerosB P e = some (zs, n))
    (hf : FrOk k.fid c st.fr a.tmps) (h : HR k.fid c base) (hb : c.blk = st.blk) (hfr : Fresh c st slot) {p q : A} (hp : opd k x = some p) (hq : opd k y = some q)
    (he : evalK dp slot st (.append n i.bytes p q) = some (v, rd, wr)) : Good k.fid base c ((execOp a.eval o).run P c.w) (st.wrs wr).blk none v := by
  have hx := opd_fr hp hf
  have hy := opd_fr hq hf
  obtain ⟨i', z, hi', hiz, hsz, hpos, hzl, hzc, hcv⟩ := zerosB_ok hz
  rw [hi] at hi'
  cases hi'
  have e1 : as = #[t, t'] := by cases as; simp_all
  have e2 : xs' = #[x, y] := by cases xs'; simp_all
  subst e1 e2
  have fin : ∀ val w', (Builtin.append_ #[t, t] o.type #[a.eval x, a.eval y]).run P c.w = .ok val w' → (execOp a.eval o).run P c.w = .ok (.value val) w' := by
    intro val w' hr
    rw [← append_types ht ht'] at hr
    simp [execOp, ho, resolve, invoke, builtin, hr]
  simp only [evalK] at he
  split at he
  · rename_i ys r0 hel
    split at he
    · rename_i hall
      obtain ⟨sad, scap, news, ey, hview, hsrc⟩ := elems_view h hb hy hel hpos hall
      generalize p.ev st.fr = sx at he hx
      -- nothing to append
      have hnil : ys = [] → ∀ ad len cap, len ≤ cap → a.eval x = .slice ad len cap → (execOp a.eval o).run P c.w = .ok (.value (.slice ad len cap)) c.w := by
        intro hy0 ad len cap hle ex
        subst hy0
        refine fin _ _ ?_
        rw [ex, ey]
        have hf0 : ∀ sa, (Builtin.firstCells i.size 0 (.slice sa 0 scap)).run P c.w = .ok #[] c.w := by
          intro sa
          cases sa <;> simp [Builtin.firstCells, loadCells, loadCellsFrom]
        cases ad <;> simp [Builtin.append_, run_underlying ht, sizeOf, typeInfo, hi, Builtin.lenOf, hle, hf0, storeCells]
      cases sx with
      | list fl pr xs =>
        simp only [appendR] at he
        obtain ⟨ad, cap, ex, hcap, hfull⟩ := hx.list.list_len
        split at he
        · rename_i hemp
          have hy0 : ys = [] := List.isEmpty_iff.1 hemp
          cases he
          simp only [St.wrs, ← hb]
          exact Good.same h (hnil hy0 _ _ _ hcap ex) (by rw [← ex]; exact hx)
        · rename_i hemp
          have hyne : ys ≠ [] := fun e => hemp (List.isEmpty_iff.2 e)
          split at he
          · rename_i hc
            obtain ⟨hfl, hok, hxall⟩ := hc
            cases he
            obtain ⟨sb, so, rfl, hscell⟩ := hsrc hyne
            have hcapeq := hfull hfl
            obtain ⟨ad2, cap2, olds, ex2, hvo, hoc⟩ := View.of_list (k := k) hx.list hpos hxall
            rw [ex] at ex2
            cases ex2
            have hylen : 0 < ys.length := List.length_pos_iff.2 hyne
            have hr : ∃ C, xs.length + ys.length ≤ C ∧ (Builtin.append_ #[t, t] o.type #[.slice ad xs.length cap, .slice (some ⟨sb, so, none⟩) ys.length scap]).run P c.w =
                .ok (.slice (some ⟨c.w.heap.size, 0, none⟩) (xs.length + ys.length) C) (c.w.drew.alloc (.cells (olds.toArray ++ news.toArray ++ Builtin.zeroCells z.cells (C - (xs.length + ys.length))) e)) := by
              by_cases hxn : xs = []
              · subst hxn
                have ho0 : olds = [] := List.eq_nil_of_length_eq_zero (by simpa using hvo.len)
                subst ho0
                exact grow_run (P := P) ht hi hiz hbytes o.type c.w (fun _ => ⟨rfl, by simpa using hcapeq⟩) (by simp) (fun b0 _ j u hj => by simp at hj) (by rw [hview.len, hsz]) hscell (by rw [hcapeq]; omega) hok
              · obtain ⟨b0, o0, hadd, hcell⟩ := hoc hxn
                subst hadd
                exact grow_run (P := P) ht hi hiz hbytes o.type c.w (fun hh => by cases hh) (by rw [hvo.len, hsz]) (fun b1 hb1 j u hj => by cases hb1; rw [add_lit]; exact hcell j u hj) (by rw [hview.len, hsz]) hscell (by rw [hcapeq]; omega) hok
            obtain ⟨C, hC, hr⟩ := hr
            have happ := hvo.app hview
            obtain ⟨g1, g2, g3, g4⟩ := grown_ok (k := k) h (.h slot) happ hpos hzc (C := C) (by simpa using hC) (e := e) (fun q hq fz0 esz0 xs0 hb0 => by cases hq; exact absurd hb0 (hfr.2 _ _ _))
              (w' := c.w.drew.alloc (.cells (olds.toArray ++ news.toArray ++ Builtin.zeroCells z.cells (C - (xs.length + ys.length))) e)) (by simp)
            have hres : st.wrs [(.h slot, .rows true n (xs ++ ys))] = st.wr (.h slot) (.rows true n (xs ++ ys)) := rfl
            refine ⟨.value _, _, _, fin _ _ (by rw [ex, ey]; exact hr), rfl, ?_, g1, g2, VExt.new_h, .r _ _ (.own slot _ 0 _ _ _ true n (xs ++ ys) (by simp [updL]) (by simp) (fun _ => ⟨by simp, c.w.heap.size, _, e, (0, 0), by simp [updL], g3, .inl (by simp), ?_⟩))⟩
            · rw [hres, blk_wr (by intro n hn; cases hn; exact hfr.1), hb]
            · rw [g4]; simp
          · cases he
      | own l w off len =>
        simp only [appendR] at he
        split at he
        · rename_i fz es xs hblk
          have hblk' : st.blk (.h l) = some (.rows fz es xs) := hblk
          have heq : c.blk (.h l) = some (.rows fz es xs) := by rw [hb]; exact hblk'
          split at he
          · rename_i hc
            obtain ⟨hv, h0, hlen, hes⟩ := hc
            subst h0
            subst hes
            obtain ⟨ad, cap, fz', es', xs'', ex, hb1, hv1, hh⟩ := hx.own
            rw [heq] at hb1
            cases hb1
            obtain ⟨_, b, cells, E, frz, ha, hcl, haddr, hcp⟩ := hh hv
            obtain ⟨b2, cells2, E2, m, ha2, hc2, _, hcsz, hlm, hfm, hvo⟩ := (h.rows _ _ _ _ heq).view
            rw [ha] at ha2
            cases ha2
            rw [hcl] at hc2
            cases hc2
            have hcm : cap = m := by
              rw [hcsz, Nat.zero_add] at hcp
              exact Nat.eq_of_mul_eq_mul_right hpos hcp
            subst hcm
            split at he
            · rename_i hemp
              have hy0 : ys = [] := List.isEmpty_iff.1 hemp
              cases he
              simp only [St.wrs, ← hb]
              exact Good.same h (hnil hy0 _ _ _ (by omega) ex) (by rw [← ex]; exact hx)
            · rename_i hemp
              have hyne : ys ≠ [] := fun e => hemp (List.isEmpty_iff.2 e)
              obtain ⟨sb, so, rfl, hscell⟩ := hsrc hyne
              have hylen : 0 < ys.length := List.length_pos_iff.2 hyne
              have hvt := hvo.take (n := len) hlen
              have htt : (cells.toList.take (xs.length * es)).take (len * es) = cells.toList.take (len * es) := by
                rw [List.take_take, Nat.min_eq_left (Nat.mul_le_mul_right _ hlen)]
              rw [htt] at hvt
              have hxm : xs.length * es ≤ cap * es := Nat.mul_le_mul_right _ hlm
              have hlm' : len * es ≤ xs.length * es := Nat.mul_le_mul_right _ hlen
              -- in place
              have hroom : len + ys.length ≤ cap → (execOp a.eval o).run P c.w = .ok (.value (.slice (some ⟨b, 0, none⟩) (len + ys.length) cap))
                  (c.w.setRow b (cells.toList.take (len * es) ++ news ++ cells.toList.drop (len * es + news.length)).toArray) := by
                intro hrm
                have had := haddr.resolve_right (by omega)
                simp only [Nat.zero_mul] at had
                have hmm : (len + ys.length) * es ≤ cap * es := Nat.mul_le_mul_right _ hrm
                rw [Nat.add_mul] at hmm
                refine fin _ _ ?_
                rw [ex, ey, had]
                have hr := room_run (P := P) ht hi o.type E c.w b len cap cells hcl ⟨sb, so, none⟩ ys.length scap news (by rw [hview.len, hsz]) (fun j u hu => by rw [add_lit]; exact hscell j u hu) hview.one hrm (by rw [hsz, hview.len]; omega)
                rw [hsz] at hr
                exact hr
              -- in a new block
              have hgrow : cap < len + ys.length → okLen (len + ys.length) i.bytes = true → ∃ C, len + ys.length ≤ C ∧ (execOp a.eval o).run P c.w = .ok (.value (.slice (some ⟨c.w.heap.size, 0, none⟩) (len + ys.length) C))
                  (c.w.drew.alloc (.cells ((cells.toList.take (len * es)).toArray ++ news.toArray ++ Builtin.zeroCells z.cells (C - (len + ys.length))) e)) := by
                intro hng hok
                have hr := grow_run (P := P) ht hi hiz hbytes (ad := ad) (len := len) (cap := cap) (m := ys.length) (cc := scap) (olds := cells.toList.take (len * es)) (news := news) (sb := sb) (so := so) o.type c.w
                  (fun hn => by
                    rcases haddr with hh' | hh'
                    · rw [hn] at hh'; cases hh'
                    · exact hh')
                  (by rw [hvt.len, hsz, List.length_take, Nat.min_eq_left hlen])
                  (fun b0 hb0 j u hj => by
                    rw [List.getElem?_take] at hj
                    split at hj
                    · rename_i hjl
                      rcases haddr with hh' | hh'
                      · rw [hb0] at hh'
                        cases hh'
                        rw [add_lit, Nat.zero_mul, Nat.zero_add]
                        rw [Array.getElem?_toList] at hj
                        simp [World.cell?, hcl, hj]
                      · rw [hh'.1] at hjl; omega
                    · cases hj)
                  (by rw [hview.len, hsz]) hscell hng hok
                obtain ⟨C, hC, hr⟩ := hr
                exact ⟨C, hC, fin _ _ (by rw [ex, ey]; exact hr)⟩
              have happ := hvt.app hview
              split at he
              · -- within what is there
                rename_i hin
                cases he
                have hmm : (len + ys.length) * es ≤ xs.length * es := Nat.mul_le_mul_right _ hin
                rw [Nat.add_mul] at hmm
                have hrows : View k c es (xs.take len ++ ys ++ xs.drop (len + ys.length)) (cells.toList.take (len * es) ++ news ++ (cells.toList.take (xs.length * es)).drop ((len + ys.length) * es)) := happ.app hvo.drop
                have hpre : (cells.toList.take (len * es) ++ news ++ cells.toList.drop (len * es + news.length)).toArray.toList =
                    (cells.toList.take (len * es) ++ news ++ (cells.toList.take (xs.length * es)).drop ((len + ys.length) * es)) ++ cells.toList.drop (xs.length * es) := by
                  simp only [List.append_assoc]
                  congr 2
                  rw [hview.len, Nat.add_mul, List.drop_take]
                  have : cells.toList.drop (xs.length * es) = (cells.toList.drop (len * es + ys.length * es)).drop (xs.length * es - (len * es + ys.length * es)) := by
                    rw [List.drop_drop]; congr 1; omega
                  rw [this, List.take_append_drop]
                have hll : (xs.take len ++ ys ++ xs.drop (len + ys.length)).length = xs.length := by simp; omega
                obtain ⟨g1, g2, g3⟩ := write_ok (k := k) h heq ha hcl hpos hcsz hrows hpre (by simp only [List.size_toArray, List.length_append, List.length_take, List.length_drop, Array.length_toList, hview.len, hcsz]; omega) (by omega) (by omega) (fz' := fz) (fun hf => by rw [hll]; exact hfm hf)
                refine ⟨.value _, _, _, hroom (by omega), rfl, ?_, g1, g2, VExt.new_h, .r _ _ (.own l _ 0 _ _ _ fz es (xs.take len ++ ys ++ xs.drop (len + ys.length)) (by simp [updL]) (by rw [hll]; omega) (fun _ => ⟨by rw [hll]; omega, b, _, E, (0, 0), by simp [updL], g3, .inl (by simp), ?_⟩))⟩
                · show _ = (st.wr _ _).blk
                  rw [blk_wr (by intro n hn; cases hn; exact Nat.le_of_lt (blk_lt hblk')), hb]
                · simp only [List.size_toArray, List.length_append, List.length_take, List.length_drop, Array.length_toList, hview.len, hcsz, Nat.zero_add]; omega
              · rename_i hin
                split at he
                · rename_i hok
                  split at he
                  · -- it may grow
                    rename_i hfz
                    split at he
                    · rename_i hlx
                      cases he
                      subst hlx
                      rw [List.take_length] at happ
                      have hll : (xs ++ ys).length = xs.length + ys.length := by simp
                      by_cases hrm : xs.length + ys.length ≤ cap
                      · obtain ⟨g1, g2, g3⟩ := write_ok (k := k) h heq ha hcl hpos hcsz happ (rest := cells.toList.drop (xs.length * es + news.length)) (nc := (cells.toList.take (xs.length * es) ++ news ++ cells.toList.drop (xs.length * es + news.length)).toArray) rfl
                          (by
                            have hmm : (xs.length + ys.length) * es ≤ cap * es := Nat.mul_le_mul_right _ hrm
                            rw [Nat.add_mul] at hmm
                            simp only [List.size_toArray, List.length_append, List.length_take, List.length_drop, Array.length_toList, hview.len, hcsz]; omega) (by omega) (by omega) (fz' := true) (fun hf => by cases hf)
                        refine ⟨.value _, _, _, hroom hrm, rfl, ?_, g1, g2, VExt.new_h, .r _ _ (.own l _ 0 _ _ _ true es (xs ++ ys) (by simp [updL]) (by omega) (fun _ => ⟨by omega, b, _, E, (0, 0), by simp [updL], g3, .inl (by simp), ?_⟩))⟩
                        · show _ = (st.wr _ _).blk
                          rw [blk_wr (by intro n hn; cases hn; exact Nat.le_of_lt (blk_lt hblk')), hb]
                        · have hmm : (xs.length + ys.length) * es ≤ cap * es := Nat.mul_le_mul_right _ hrm
                          rw [Nat.add_mul] at hmm
                          simp only [List.size_toArray, List.length_append, List.length_take, List.length_drop, Array.length_toList, hview.len, hcsz, Nat.zero_add]; omega
                      · obtain ⟨C, hC, hr⟩ := hgrow (by omega) hok
                        obtain ⟨g1, g2, g3, g4⟩ := grown_ok (k := k) h (.h l) happ hpos hzc (C := C) (by omega) (e := e) (fun q hq fz0 esz0 xs0 hb0 => by
                          rw [heq] at hb0
                          cases hb0
                          exact ⟨rfl, by omega⟩)
                          (w' := c.w.drew.alloc (.cells ((cells.toList.take (xs.length * es)).toArray ++ news.toArray ++ Builtin.zeroCells z.cells (C - (xs.length + ys.length))) e)) (by simp)
                        refine ⟨.value _, _, _, hr, rfl, ?_, g1, g2, VExt.new_h, .r _ _ (.own l _ 0 _ _ _ true es (xs ++ ys) (by simp [updL]) (by omega) (fun _ => ⟨by omega, c.w.heap.size, _, e, (0, 0), by simp [updL], g3, .inl (by simp), ?_⟩))⟩
                        · show _ = (st.wr _ _).blk
                          rw [blk_wr (by intro n hn; cases hn; exact Nat.le_of_lt (blk_lt hblk')), hb]
                        · rw [g4]; simp
                    · cases he
                  · -- it is full: a new block
                    rename_i hfz
                    cases he
                    have hcx := hfm (by simpa using hfz)
                    obtain ⟨C, hC, hr⟩ := hgrow (by omega) hok
                    have hll : (xs.take len ++ ys).length = len + ys.length := by simp; omega
                    obtain ⟨g1, g2, g3, g4⟩ := grown_ok (k := k) h (.h slot) happ hpos hzc (C := C) (by omega) (e := e) (fun q hq fz0 esz0 xs0 hb0 => by cases hq; exact absurd hb0 (hfr.2 _ _ _))
                      (w' := c.w.drew.alloc (.cells ((cells.toList.take (len * es)).toArray ++ news.toArray ++ Builtin.zeroCells z.cells (C - (len + ys.length))) e)) (by simp only [hll, List.append_toArray])
                    refine ⟨.value _, _, _, hr, rfl, ?_, g1, g2, VExt.new_h, .r _ _ (.own slot _ 0 _ _ _ true es (xs.take len ++ ys) (by simp [updL]) (by omega) (fun _ => ⟨by omega, c.w.heap.size, _, e, (0, 0), by simp [updL], g3, .inl (by simp), ?_⟩))⟩
                    · show _ = (st.wr _ _).blk
                      rw [blk_wr (by intro n hn; cases hn; exact hfr.1), hb]
                    · rw [g4]; simp
                · cases he
          · cases he
        · cases he
      | _ => simp [appendR] at he
    · cases he
  · cases he

end
end Go.Proofs.Ytkafliflpplpeaa.Sim
namespace Go.Proofs.Ytkafliflpplpeaa.Sim
set_option linter.unusedSimpArgs false
set_option linter.unusedVariables false
open Go

section
variable {P : Program} {k : Lnk} {c : Cx} {base : Nat} {st : St} {a : Act} {o : Oper} {dp : Nat → List S → Hp → Option S} {slot : Nat} {v : S} {rd : List L} {wr : List (L × Blk)}

theorem good_aslice {x : Operand} {lo hi : Option Operand} {t e : TypeId} {n : Nat} (ho : o.op = .slice t x lo hi none) (ht : P.underlying t = some (.array n e)) {esz : Nat} (hn : eszB P e = some esz)
    (hf : FrOk k.fid c st.fr a.tmps) (h : HR k.fid c base) (hb : c.blk = st.blk) {p : A} {ql qh : Option A} (hp : opd k x = some p) (hl : opdo k lo = some ql) (hh : opdo k hi = some qh)
    (he : evalK dp slot st (.aslice n esz p ql qh) = some (v, rd, wr)) : Good k.fid base c ((execOp a.eval o).run P c.w) (st.wrs wr).blk none v := by
  have hx := opd_fr hp hf
  simp only [evalK] at he
  generalize p.ev st.fr = sx at he hx
  cases sx with
  | ptr l u row off =>
    simp only at he
    split at he
    · rename_i es xs hblk
      split at he
      · rename_i hc
        obtain ⟨hv, rfl, rfl, rfl, hnx⟩ := hc
        split at he
        · rename_i i j hbi hbj
          split at he
          · rename_i hij
            cases he
            simp only [St.wrs, ← hb]
            have heq : c.blk (.h l) = some (.rows false es xs) := by rw [hb]; exact hblk
            obtain ⟨pp, fz', es', xs', e1, hb1, hv1, hh1⟩ := hx.ptr
            rw [heq] at hb1
            cases hb1
            obtain ⟨b, ha, rfl⟩ := hh1 hv
            obtain ⟨b2, cells, E, m, ha2, hc2, hpos, hcsz, hlm, hfm, _⟩ := h.rows _ _ _ _ heq
            rw [ha] at ha2
            cases ha2
            have hr := sliceBounds_run (P := P) (isSlice := false) (len := n) (cap := n) c.w (bnd_run hl hf hbi) (bnd_run hh hf hbj) hij.1 hij.2
            refine Good.same (val := .slice (some (if n = i then ⟨b, 0 * es + 0, none⟩ else (⟨b, 0 * es + 0, none⟩ : Addr).add (i * es))) (j - i) (n - i)) h ?_ (.r _ _ (.own _ _ _ _ _ _ false es xs heq hv1 (fun _ => ⟨by omega, b, cells, E, (0, 0), ha, hc2, ?_, ?_⟩)))
            · simp [execOp, ho, Instr.sliceAt, run_underlying ht, e1, Instr.sureAddr, hr, (sizeOf_run hn c.w).1]
            · by_cases hni : n = i
              · right; omega
              · left
                rw [if_neg hni, add_lit]
                simp
            · rw [hcsz, hfm rfl]; congr 1; omega
          · cases he
        · cases he
      · cases he
    · cases he
  | _ => simp at he

/-- A value of a type, and its cells. -/
def IsVal (P : Program) (t : TypeId) (u : Value) (cs : List Value) : Prop :=
  match P.underlying t with
  | some (.struct _) | some (.array _ _) => ∃ arr, u = .agg arr ∧ arr.toList = cs
  | _ => cs = [u]

theorem part_is {t : TypeId} {i : TypeInfo} {d : TypeDesc} (hu : P.underlying t = some d) (hi : P.info? t = some i) (h1 : i.size = 1 ∨ (∃ fs, d = .struct fs) ∨ ∃ m e, d = .array m e) (arr : Array Value) (off : Nat) (hle : off + i.size ≤ arr.size) (w : World) :
    ∃ u, (part t arr off).run P w = .ok u w ∧ IsVal P t u ((arr.toList.drop off).take i.size) := by
  have hagg : ∀ g, isAggB P t = some g → (isAgg t).run P w = .ok g w := fun g hg => isAgg_run hg w
  by_cases hg : isAggB P t = some true
  · refine ⟨.agg (arr.extract off (off + i.size)), ?_, ?_⟩
    · simp [part, hagg _ hg, sizeOf, typeInfo, hi]
    · unfold IsVal isAggB at *
      rw [hu] at hg ⊢
      have hex : (arr.extract off (off + i.size)).toList = (arr.toList.drop off).take i.size := by simp [Array.toList_extract, List.extract_eq_take_drop]
      cases d <;> first | exact ⟨_, rfl, hex⟩ | (simp at hg)
  · have hg' : isAggB P t = some false := by
      unfold isAggB at *
      rw [hu] at hg ⊢
      cases d <;> simp_all
    have hs1 : i.size = 1 := by
      rcases h1 with h1 | ⟨fs, rfl⟩ | ⟨m, e, rfl⟩
      · exact h1
      · exact absurd (by simp [isAggB, hu]) hg
      · exact absurd (by simp [isAggB, hu]) hg
    have hlt : off < arr.size := by omega
    refine ⟨arr[off], ?_, ?_⟩
    · simp [part, hagg _ hg', hlt]
    · unfold IsVal
      rw [hu, hs1]
      have ht1 : (arr.toList.drop off).take 1 = [arr[off]] := by
        rw [List.take_one]
        simp [List.head?_drop, hlt]
      unfold isAggB at hg'
      rw [hu] at hg'
      cases d <;> first | exact ht1 | (simp at hg')

theorem eqK_split : ∀ (ks ls : List Sc) (xs ys : List S) {r : Bool}, eqK (ks ++ ls) xs ys = some r → ∃ p q, eqK ks (xs.take ks.length) (ys.take ks.length) = some p ∧ eqK ls (xs.drop ks.length) (ys.drop ks.length) = some q ∧ r = (p && q)
  | [], ls, xs, ys, r, h => ⟨true, r, by simp [eqK], by simpa using h, by simp⟩
  | kk :: ks, ls, [], ys, r, h => by simp [eqK] at h
  | kk :: ks, ls, x :: xs, [], r, h => by simp [eqK] at h
  | kk :: ks, ls, x :: xs, y :: ys, r, h => by
    simp only [List.cons_append, eqK] at h
    split at h
    · rename_i p q hp hq
      cases h
      obtain ⟨p', q', h1, h2, rfl⟩ := eqK_split ks ls xs ys hq
      exact ⟨p && p', q', by simp [eqK, hp, h1], by simpa using h2, by rw [Bool.and_assoc]⟩
    · cases h

theorem eqK_len : ∀ (ks : List Sc) (xs ys : List S) {r : Bool}, eqK ks xs ys = some r → xs.length = ks.length ∧ ys.length = ks.length
  | [], [], [], _, _ => ⟨rfl, rfl⟩
  | [], [], _ :: _, _, h => by simp [eqK] at h
  | [], _ :: _, _, _, h => by simp [eqK] at h
  | kk :: ks, [], ys, r, h => by simp [eqK] at h
  | kk :: ks, x :: xs, [], r, h => by simp [eqK] at h
  | kk :: ks, x :: xs, y :: ys, r, h => by
    simp only [eqK] at h
    split at h
    · rename_i p q _ hq
      obtain ⟨h1, h2⟩ := eqK_len ks xs ys hq
      simp [h1, h2]
    · cases h

def Pw (lk : Nat → Option Nat) (c : Cx) (xs : List S) (cs : List Value) : Prop :=
  xs.length = cs.length ∧ ∀ (i : Nat) (s : S) (u : Value), xs[i]? = some s → cs[i]? = some u → FR lk c s u

theorem Pw.take {lk : Nat → Option Nat} {xs : List S} {cs : List Value} (h : Pw lk c xs cs) (n : Nat) : Pw lk c (xs.take n) (cs.take n) := by
  refine ⟨by simp [h.1], fun i s u hs hu => ?_⟩
  rw [List.getElem?_take] at hs hu
  split at hs
  · rename_i hi; rw [if_pos hi] at hu; exact h.2 i s u hs hu
  · cases hs

theorem Pw.drop {lk : Nat → Option Nat} {xs : List S} {cs : List Value} (h : Pw lk c xs cs) (n : Nat) : Pw lk c (xs.drop n) (cs.drop n) := by
  refine ⟨by simp [h.1], fun i s u hs hu => ?_⟩
  rw [List.getElem?_drop] at hs hu
  exact h.2 _ s u hs hu

theorem eqLay_size {n : Nat} {t : TypeId} {ks : List Sc} (h : eqLay P n t = some ks) : ∃ i d, P.info? t = some i ∧ i.size = ks.length ∧ 0 < ks.length ∧ P.underlying t = some d ∧ (i.size = 1 ∨ (∃ fs, d = .struct fs) ∨ ∃ m e, d = .array m e) := by
  cases n with
  | zero => simp [eqLay] at h
  | succ n =>
    unfold eqLay at h
    split at h
    · rename_i i h1 h2
      split at h
      · rename_i h3; cases h; exact ⟨i, _, h2, h3, by simp, h1, .inl h3⟩
      · cases h
    · rename_i i h1 h2
      split at h
      · rename_i h3; cases h; exact ⟨i, _, h2, h3, by simp, h1, .inl h3⟩
      · cases h
    · rename_i i h1 h2
      split at h
      · rename_i h3; cases h; exact ⟨i, _, h2, h3, by simp, h1, .inl h3⟩
      · cases h
    · rename_i fs i h1 h2
      split at h
      · split at h
        · split at h
          · rename_i h3; cases h; exact ⟨i, _, h2, h3.1, h3.2, h1, .inr (.inl ⟨fs, rfl⟩)⟩
          · cases h
        · cases h
      · cases h
    · rename_i m e i h1 h2
      split at h
      · split at h
        · rename_i h3; cases h; exact ⟨i, _, h2, h3.1, h3.2, h1, .inr (.inr ⟨m, e, rfl⟩)⟩
        · cases h
      · cases h
    · cases h

theorem repL_length (ks : List Sc) : ∀ n, (repL ks n).length = n * ks.length
  | 0 => by simp [repL]
  | n + 1 => by simp [repL, repL_length ks n, Nat.succ_mul, Nat.add_comm]

/-- Two values are equal: as their cells are. -/
def EqAt (P : Program) (lk : Nat → Option Nat) (c : Cx) (d : Nat) (t : TypeId) (ks : List Sc) : Prop :=
  ∀ (u u' : Value) (cs cs' : List Value) (xs ys : List S) (r : Bool) (w : World), IsVal P t u cs → IsVal P t u' cs' → Pw lk c xs cs → Pw lk c ys cs' → eqK ks xs ys = some r → (Op.equalIn d t u u').run P w = .ok r w

theorem run_fields {lk : Nat → Option Nat} {d n : Nat} (ih : ∀ t ks, eqLay P n t = some ks → EqAt P lk c d t ks) {vx vy : Array Value} {xs ys : List S} (hx : Pw lk c xs vx.toList) (hy : Pw lk c ys vy.toList) : ∀ (fs : List Field) (off : Nat) (ks : List Sc) (r : Bool) (w : World),
    eqFieldsLay (eqLay P n) fs off = some ks → eqK ks (xs.drop off) (ys.drop off) = some r → (Op.eqFields d vx vy fs).run P w = .ok r w
  | [], off, ks, r, w, h, he => by
    simp only [eqFieldsLay, Option.some.injEq] at h
    subst h
    cases hxd : xs.drop off <;> cases hyd : ys.drop off <;> rw [hxd, hyd] at he <;> simp [eqK] at he
    subst he
    rfl
  | f :: fs, off, ks, r, w, h, he => by
    simp only [eqFieldsLay] at h
    split at h
    · rename_i hf
      obtain ⟨hoff, hname⟩ := hf
      split at h
      · rename_i k1 hk1
        split at h
        · rename_i k2 hk2
          cases h
          obtain ⟨p, q, h1, h2, rfl⟩ := eqK_split _ _ _ _ he
          obtain ⟨i, dd, hi, hsz, hpos, hud, hor⟩ := eqLay_size hk1
          obtain ⟨l1, l2⟩ := eqK_len _ _ _ h1
          have b1 : off + i.size ≤ vx.size := by
            have := hx.1; simp at l1 this; omega
          have b2 : off + i.size ≤ vy.size := by
            have := hy.1; simp at l2 this; omega
          obtain ⟨u, r1, r2⟩ := part_is hud hi hor vx off b1 w
          obtain ⟨u', r3, r4⟩ := part_is hud hi hor vy off b2 w
          rw [hsz] at r2 r4
          have heq := ih _ _ hk1 u u' _ _ _ _ p w r2 r4 ((hx.drop off).take _) ((hy.drop off).take _) h1
          rw [List.drop_drop, List.drop_drop] at h2
          have hrest := run_fields ih hx hy fs (off + k1.length) k2 q w hk2 h2
          subst hoff
          simp only [Op.eqFields]
          rw [if_pos hname]
          simp only [Sem.run_bind, r1, r3, heq, Result.andThen_ok]
          cases p
          · simp
          · simpa using hrest
        · cases h
      · cases h
    · cases h

theorem run_items {lk : Nat → Option Nat} {d : Nat} {e : TypeId} {ks : List Sc} {i : TypeInfo} {dd : TypeDesc} (ih : EqAt P lk c d e ks) (hi : P.info? e = some i) (hsz : i.size = ks.length) (hpos : 0 < ks.length) (hud : P.underlying e = some dd) (hor : i.size = 1 ∨ (∃ fs, dd = .struct fs) ∨ ∃ m e, dd = .array m e) {vx vy : Array Value} {xs ys : List S} (hx : Pw lk c xs vx.toList) (hy : Pw lk c ys vy.toList) :
    ∀ (n j : Nat) (r : Bool) (w : World), eqK (repL ks n) (xs.drop (j * ks.length)) (ys.drop (j * ks.length)) = some r → (Op.eqItems d e ks.length vx vy (List.range' j n)).run P w = .ok r w
  | 0, j, r, w, he => by
    simp only [repL] at he
    cases hxd : xs.drop (j * ks.length) <;> cases hyd : ys.drop (j * ks.length) <;> rw [hxd, hyd] at he <;> simp [eqK] at he
    subst he
    rfl
  | n + 1, j, r, w, he => by
    simp only [repL] at he
    obtain ⟨p, q, h1, h2, rfl⟩ := eqK_split _ _ _ _ he
    obtain ⟨l1, l2⟩ := eqK_len _ _ _ h1
    have b1 : j * ks.length + i.size ≤ vx.size := by
      have := hx.1; simp at l1 this; omega
    have b2 : j * ks.length + i.size ≤ vy.size := by
      have := hy.1; simp at l2 this; omega
    obtain ⟨u, r1, r2⟩ := part_is hud hi hor vx _ b1 w
    obtain ⟨u', r3, r4⟩ := part_is hud hi hor vy _ b2 w
    rw [hsz] at r2 r4
    have heq := ih u u' _ _ _ _ p w r2 r4 ((hx.drop _).take _) ((hy.drop _).take _) h1
    rw [List.drop_drop, List.drop_drop, ← Nat.succ_mul] at h2
    have hrest := run_items ih hi hsz hpos hud hor hx hy n (j + 1) q w h2
    rw [List.range'_succ]
    simp only [Op.eqItems, Sem.run_bind, r1, r3, heq, Result.andThen_ok]
    cases p
    · simp
    · simpa using hrest

theorem run_equal {lk : Nat → Option Nat} : ∀ (n : Nat) (t : TypeId) (ks : List Sc), eqLay P n t = some ks → ∀ (d : Nat), n ≤ d → EqAt P lk c d t ks
  | 0, t, ks, h => by simp [eqLay] at h
  | n + 1, t, ks, h => by
    intro d hd u u' cs cs' xs ys r w hu hu' hx hy he
    obtain ⟨d, rfl⟩ : ∃ m, d = m + 1 := ⟨d - 1, by omega⟩
    have ih : ∀ t ks, eqLay P n t = some ks → EqAt P lk c d t ks := fun t ks hk => run_equal n t ks hk d (by omega)
    have scal : ∀ (dd : TypeDesc) (kk : Sc), P.underlying t = some dd → (∀ fs, dd ≠ .struct fs) → (∀ m e, dd ≠ .array m e) → ks = [kk] →
        ∃ x y, FR lk c x u ∧ FR lk c y u' ∧ eqSc kk x y = some r := by
      intro dd kk hud h1 h2 hk
      subst hk
      have e1 : cs = [u] := by unfold IsVal at hu; rw [hud] at hu; cases dd <;> first | exact hu | exact absurd rfl (h1 _) | exact absurd rfl (h2 _ _)
      have e2 : cs' = [u'] := by unfold IsVal at hu'; rw [hud] at hu'; cases dd <;> first | exact hu' | exact absurd rfl (h1 _) | exact absurd rfl (h2 _ _)
      subst e1 e2
      match xs, ys, hx.1, hy.1 with
      | [x], [y], _, _ =>
        refine ⟨x, y, hx.2 0 x u rfl rfl, hy.2 0 y u' rfl rfl, ?_⟩
        simp only [eqK] at he
        split at he
        · rename_i p q hp hq
          cases hq
          cases he
          simpa using hp
        · cases he
    unfold eqLay at h
    split at h
    · rename_i i h1 h2
      split at h
      · cases h
        obtain ⟨x, y, f1, f2, hs⟩ := scal _ .b h1 (by simp) (by simp) rfl
        cases x <;> cases y <;> simp only [eqSc] at hs <;> first | (cases hs; done) | skip
        cases hs
        rw [f1.bool, f2.bool]
        exact run_equalIn_bool' w d t _ _ h1
      · cases h
    · rename_i q i h1 h2
      split at h
      · cases h
        obtain ⟨x, y, f1, f2, hs⟩ := scal _ .i h1 (by simp) (by simp) rfl
        cases x <;> cases y <;> simp only [eqSc] at hs <;> first | (cases hs; done) | skip
        split at hs
        · rename_i hk
          cases hs
          subst hk
          rw [f1.int, f2.int]
          exact run_equalIn_int w d t _ _ _ _ h1
        · cases hs
      · cases h
    · rename_i i h1 h2
      split at h
      · cases h
        obtain ⟨x, y, f1, f2, hs⟩ := scal _ .s h1 (by simp) (by simp) rfl
        cases x <;> cases y <;> simp only [eqSc] at hs <;> first | (cases hs; done) | skip
        cases hs
        obtain ⟨b1, rfl, rfl⟩ := f1.str
        obtain ⟨b2, rfl, rfl⟩ := f2.str
        rw [run_equalIn_string w d t _ _ h1, toList_eq, toList_eq]
      · cases h
    · rename_i fs i h1 h2
      split at h
      · rename_i hst
        split at h
        · rename_i k1 hk1
          split at h
          · cases h
            unfold IsVal at hu hu'
            rw [h1] at hu hu'
            obtain ⟨vx, rfl, rfl⟩ := hu
            obtain ⟨vy, rfl, rfl⟩ := hu'
            have hfs : P.fieldsOf t = fs := by simp [Program.fieldsOf, h1]
            rw [run_equalIn_struct w d t vx vy (by rw [hfs]; exact h1) hst, hfs]
            exact run_fields ih hx hy fs.toList 0 ks r w hk1 (by simpa using he)
          · cases h
        · cases h
      · cases h
    · rename_i m e i h1 h2
      split at h
      · rename_i k1 hk1
        split at h
        · cases h
          unfold IsVal at hu hu'
          rw [h1] at hu hu'
          obtain ⟨vx, rfl, rfl⟩ := hu
          obtain ⟨vy, rfl, rfl⟩ := hu'
          obtain ⟨ie, dd, hie, hsz, hpos, hud, hor⟩ := eqLay_size hk1
          rw [run_equalIn_array (w := w) d vx vy h1 hie]
          have hce : P.cellsOf e = k1.length := by simp [Program.cellsOf, hie, hsz]
          rw [hce, List.range_eq_range']
          exact run_items (ih e k1 hk1) hie hsz hpos hud hor hx hy m 0 r w (by simpa using he)
        · cases h
      · cases h
    · cases h

theorem eqK_okv : ∀ (ks : List Sc) (xs ys : List S) {r : Bool}, eqK ks xs ys = some r → xs.all S.okv = true ∧ ys.all S.okv = true
  | [], [], [], _, _ => ⟨rfl, rfl⟩
  | [], [], _ :: _, _, h => by simp [eqK] at h
  | [], _ :: _, _, _, h => by simp [eqK] at h
  | kk :: ks, [], ys, r, h => by simp [eqK] at h
  | kk :: ks, x :: xs, [], r, h => by simp [eqK] at h
  | kk :: ks, x :: xs, y :: ys, r, h => by
    simp only [eqK] at h
    split at h
    · rename_i p q hp hq
      obtain ⟨h1, h2⟩ := eqK_okv ks xs ys hq
      have h3 : x.okv = true ∧ y.okv = true := by
        unfold eqSc at hp
        split at hp <;> first | exact ⟨rfl, rfl⟩ | cases hp
      simp only [List.all_cons, Bool.and_eq_true]
      exact ⟨⟨h3.1, h1⟩, ⟨h3.2, h2⟩⟩
    · cases h

theorem eqV_ok {lk : Nat → Option Nat} {t : TypeId} {g : Bool} (hg : isAggB P t = some g) {ks : List Sc} {x y : S} {u u' : Value} (hx : FR lk c x u) (hy : FR lk c y u') {r : Bool} (h : eqV g ks x y = some r) :
    ∃ cs cs' xs ys, IsVal P t u cs ∧ IsVal P t u' cs' ∧ Pw lk c xs cs ∧ Pw lk c ys cs' ∧ eqK ks xs ys = some r ∧ (g = true → ∃ a b, u = .agg a ∧ u' = .agg b) := by
  unfold eqV at h
  split at h
  · rename_i xs ys
    obtain ⟨a, rfl, ha1, ha2⟩ := hx.agg
    obtain ⟨b, rfl, hb1, hb2⟩ := hy.agg
    have hv : ∀ arr : Array Value, IsVal P t (.agg arr) arr.toList := by
      intro arr
      unfold IsVal
      unfold isAggB at hg
      split at hg <;> first | (rename_i hu; rw [hu]; exact ⟨arr, rfl, rfl⟩) | (cases hg)
    exact ⟨a.toList, b.toList, xs, ys, hv a, hv b, ⟨by simpa using ha1, fun i s w h1 h2 => .r _ _ (ha2 i s w h1 (by simpa using h2))⟩, ⟨by simpa using hb1, fun i s w h1 h2 => .r _ _ (hb2 i s w h1 (by simpa using h2))⟩, h, fun _ => ⟨a, b, rfl, rfl⟩⟩
  · have hv : ∀ w : Value, IsVal P t w [w] := by
      intro w
      unfold IsVal
      unfold isAggB at hg
      split at hg <;> first | (cases hg; done) | skip
      rename_i d hn1 hn2 hu
      rw [hu]
      cases d <;> first | rfl | exact absurd rfl (hn1 _) | exact absurd rfl (hn2 _ _)
    have hp : ∀ (z : S) (w : Value), FR lk c z w → Pw lk c [z] [w] := fun z w hz => ⟨rfl, fun i s w' h1 h2 => by
      cases i with
      | zero => simp at h1 h2; subst h1; subst h2; exact hz
      | succ i => simp at h1⟩
    exact ⟨[u], [u'], [x], [y], hv u, hv u', hp _ _ hx, hp _ _ hy, h, fun hh => by cases hh⟩
  · cases h

theorem good_eqv {x y : Operand} {op : BinOp} {t t' : TypeId} (ho : o.op = .binOp op t x y t') {neg : Bool} (hop : op = if neg then .neq else .eql) {ks : List Sc} {g : Bool} (hg : isAggB P t = some g) (hk : eqLay P 10 t = some ks) (hgd : g = false ∨ P.eqGuardType P.depth t = false)
    (hnot : g = false → P.underlying t = some .bool)
    (hf : FrOk k.fid c st.fr a.tmps) (h : HR k.fid c base) (hb : c.blk = st.blk) {p q : A} (hp : opd k x = some p) (hq : opd k y = some q)
    (he : evalK dp slot st (.eqv neg g ks p q) = some (v, rd, wr)) : Good k.fid base c ((execOp a.eval o).run P c.w) (st.wrs wr).blk none v := by
  have hx := opd_fr hp hf
  have hy := opd_fr hq hf
  simp only [evalK, Option.map_eq_some_iff, Prod.mk.injEq] at he
  obtain ⟨r, hr, rfl, rfl, rfl⟩ := he
  simp only [St.wrs, ← hb]
  obtain ⟨cs, cs', xs, ys, i1, i2, p1, p2, h1, h2⟩ := eqV_ok hg hx hy hr
  have heq := run_equal (lk := k.fid) (c := c) 10 t ks hk 10000 (by omega) _ _ cs cs' xs ys r c.w i1 i2 p1 p2 h1
  refine Good.same (val := .bool (if neg then !r else r)) h ?_ (.ofBool _)
  cases g with
  | true =>
    obtain ⟨va, vb, e1, e2⟩ := h2 rfl
    have hgd' := hgd.resolve_left (by simp)
    rw [e1, e2] at heq
    cases neg
    · simp only [execOp, ho, hop, e1, e2, Sem.run_bind, Bool.false_eq_true, if_false, run_eqGuard_agg c.w _ t _ _ _ _ hgd', Result.andThen_ok, run_eql_struct, heq]
      rfl
    · simp only [execOp, ho, hop, e1, e2, Sem.run_bind, if_true, run_eqGuard_agg c.w _ t _ _ _ _ hgd', Result.andThen_ok, run_neq_struct, heq]
      rfl
  | false =>
    have hbool := hnot rfl
    unfold IsVal at i1 i2
    rw [hbool] at i1 i2
    subst i1 i2
    have hks : ks = [.b] := by
      have hk' := hk
      unfold eqLay at hk'
      rw [hbool] at hk'
      split at hk' <;> simp_all
    subst hks
    match xs, ys, p1.1, p2.1 with
    | [sx], [sy], _, _ =>
      have f1 := p1.2 0 sx _ rfl rfl
      have f2 := p2.2 0 sy _ rfl rfl
      have : ∃ b1 b2, sx = .bool b1 ∧ sy = .bool b2 := by
        simp only [eqK] at h1
        split at h1
        · rename_i hsc _
          cases sx <;> cases sy <;> first | (exact ⟨_, _, rfl, rfl⟩) | (simp [eqSc] at hsc)
        · cases h1
      obtain ⟨b1, b2, rfl, rfl⟩ := this
      have g1 := f1.bool
      have g2 := f2.bool
      rw [g1, g2] at heq
      cases neg
      · simp only [execOp, ho, hop, g1, g2, Sem.run_bind, Bool.false_eq_true, if_false]
        simp [eqGuard, binOp, Op.equal, Op.maxDepth, heq]
      · simp only [execOp, ho, hop, g1, g2, Sem.run_bind, if_true]
        simp [eqGuard, binOp, Op.equal, Op.maxDepth, heq]

end
end Go.Proofs.Ytkafliflpplpeaa.Sim
namespace Go.Proofs.Ytkafliflpplpeaa.Sim
set_option linter.unusedSimpArgs false
set_option linter.unusedVariables false
open Go

section
variable {P : Program} {k : Lnk} {c : Cx} {base : Nat} {st : St} {a : Act} {o : Oper} {esc : List Nat} {dp : Nat → List S → Hp → Option S} {slot : Nat} {v : S} {rd : List L} {wr : List (L × Blk)}

theorem bytesS_ints : ∀ {ys : List S} {bs : List UInt8}, bytesS ys = some bs → ∃ ns : List Int, ys = ns.map (.int .u8) ∧ bs = ns.map fun n => UInt8.ofNat n.toNat
  | [], bs, h => by
    simp only [bytesS, Option.some.injEq] at h
    subst h
    exact ⟨[], rfl, rfl⟩
  | x :: r, bs, h => by
    unfold bytesS at h
    split at h
    · rename_i heq; cases heq
    · rename_i n r' heq
      cases heq
      split at h
      · rename_i bs' hr
        cases h
        obtain ⟨ns, rfl, rfl⟩ := bytesS_ints hr
        exact ⟨n :: ns, rfl, rfl⟩
      · cases h
    · cases h

/-- Another world, in which all that was there is as it was. -/
theorem HR.world0 (h : HR k.fid c base) {w' : World} (hos : w'.os = c.w.os) (htape : w'.tape = c.w.tape) (hout : w'.output = c.w.output) (hsize : c.w.heap.size ≤ w'.heap.size) (hold : ∀ b, b < c.w.heap.size → w'.heap[b]? = c.w.heap[b]?) :
    HR k.fid { c with w := w' } base ∧ Ext c { c with w := w' } := by
  have e : Ext c { c with w := w' } :=
    ⟨hos, htape, hout, hsize, fun b hb _ => hold b hb, fun _ _ h => h, rfl, rfl, fun l fz esz xs hb => ⟨fz, xs, hb, Nat.le_refl _, fun _ => ⟨rfl, fun b cells E fr ha hc => ⟨cells, by rw [← hc]; exact hold b (h.lt _ _ ha).2, rfl⟩⟩⟩, fun _ es hb => ⟨⟨es, hb⟩, rfl⟩⟩
  exact ⟨⟨Nat.le_trans h.bs hsize, h.outs, fun b hb => ⟨Nat.lt_of_lt_of_le (h.hids b hb).1 hsize, (h.hids b hb).2⟩, fun l b hl => ⟨(h.lt l b hl).1, Nat.lt_of_lt_of_le (h.lt l b hl).2 hsize⟩, h.inj, h.live,
    fun l fz esz xs hb => (h.rows l fz esz xs hb).mono e rfl (fun b ha => hold b (h.lt _ _ ha).2), h.maps⟩, e⟩

theorem good_b2s (hf : FrOk k.fid c st.fr a.tmps) (h : HR k.fid c base) (hb : c.blk = st.blk) {x : Operand} {s d e : TypeId} (ho : o.op = .convert s d x) (hs : P.underlying s = some (.slice e)) (hu : P.underlying e = some (.int .u8)) (hd : P.underlying d = some .string) {p : A} (hp : opd k x = some p)
    (he : evalK dp slot st (.b2s p) = some (v, rd, wr)) : Good k.fid base c ((execOp a.eval o).run P c.w) (st.wrs wr).blk none v := by
  have hx := opd_fr hp hf
  simp only [evalK, Option.bind_eq_some_iff, Option.map_eq_some_iff, Prod.mk.injEq] at he
  obtain ⟨⟨ys, r⟩, h1, bs, h2, rfl, rfl, rfl⟩ := he
  obtain ⟨ns, rfl, rfl⟩ := bytesS_ints h2
  simp only [St.wrs, ← hb]
  have hall : eszAll 1 (ns.map (S.int .u8)) = true := by simp [eszAll, S.cells]
  obtain ⟨ad, cap, news, e1, hv, hne⟩ := elems_view h hb hx h1 (esz := 1) (by decide) hall
  have hrun : (convert s d (a.eval x)).run P c.w = .ok (.string (strOfNums ns)) c.w := by
    rw [e1]
    by_cases hn : ns = []
    · subst hn
      cases ad with
      | none => rw [run_convert_bytes_nil c.w s e hs hu _ _ d hd]; rfl
      | some ad =>
        rw [run_convert_bytes_string c.w s d e _ _ _ hs hu hd, run_bytesToString c.w _ _ cap [] (by simp [loadCells, loadCellsFrom])]
        rfl
    · obtain ⟨b, oo, rfl, hc⟩ := hne (by simpa using hn)
      refine run_convert_bytes_arg c.w s e hs hu b oo _ cap ns (by simp) (fun i hi => ?_) d hd
      have hi' : i < ns.length := by simpa using hi
      obtain ⟨q1, q2⟩ := hv.row i (.int .u8 (ns.getD i 0)) (by simp [List.getD, hi'])
      obtain ⟨u, q3, q4⟩ := q2 0 (.int .u8 (ns.getD i 0)) rfl
      have := hc (i * 1 + 0) u q3
      simp only [Nat.mul_one, Nat.add_zero] at this
      rw [this, (FR.r _ _ q4.1).int]
  refine Good.same h ?_ (.ofStr (strOfNums ns) (strOfNums_data ns))
  simp only [execOp, ho, Sem.run_bind, hrun]
  rfl

theorem good_s2b (hf : FrOk k.fid c st.fr a.tmps) (h : HR k.fid c base) (hb : c.blk = st.blk) {x : Operand} {s d e : TypeId} (ho : o.op = .convert s d x) (hs : P.underlying s = some .string) (hd : P.underlying d = some (.slice e)) (hu : P.underlying e = some (.int .u8)) {p : A} (hp : opd k x = some p)
    (he : evalK dp slot st (.s2b p) = some (v, rd, wr)) : Good k.fid base c ((execOp a.eval o).run P c.w) (st.wrs wr).blk none v := by
  have hx := opd_fr hp hf
  simp only [evalK] at he
  split at he
  · rename_i bs hx1
    rw [hx1] at hx
    obtain ⟨str, e1, hbs⟩ := hx.str
    simp only [Option.some.injEq, Prod.mk.injEq] at he
    obtain ⟨rfl, rfl, rfl⟩ := he
    have hrun := Lib.run_convert_string_bytes c.w s d e str hs hd hu
    have hsz : c.w.heap.size ≤ (Lib.bytesWorld c.w e str).heap.size := by rw [Lib.bytesWorld_size]; omega
    obtain ⟨o1, o2⟩ := h.world0 (w' := Lib.bytesWorld c.w e str) rfl rfl rfl hsz (fun b hb' => Lib.bytesWorld_at_old c.w e str b hb')
    have hlen : str.size = bs.length := by rw [← hbs]; simp
    refine ⟨.value _, .slice (some ⟨c.w.heap.size, 0, none⟩) str.size (grownCap c.w str.size 0 e), _, ?_, rfl, ?_, o1, o2, fun t _ fz esz xs hb => ⟨⟨fz, xs, hb⟩, rfl⟩, .r _ _ (.d _ _ ?_)⟩
    · simp only [execOp, ho, Sem.run_bind, e1, hrun]
      rfl
    · simp only [St.wrs, ← hb]
    · have hnow : ¬ c.no c.w.heap.size := by
        rintro (⟨l, hl⟩ | hl)
        · have := (h.lt _ _ hl).2; omega
        · have := (h.hids _ hl).1; omega
      have hnout : ¬ c.out c.w.heap.size := fun ho => by have := h.outs _ ho; have := h.bs; omega
      have hcap : str.size ≤ grownCap c.w str.size 0 e := grownCap_ge ..
      have hget : ∀ (i : Nat) (y : S), (bs.map fun b => S.int .u8 (b.toNat : Int))[i]? = some y → i < str.size ∧ y = .int .u8 ((bs.getD i 0).toNat : Int) := by
        intro i y hy
        have hi := (List.getElem?_eq_some_iff.1 hy).1
        simp at hi
        refine ⟨by omega, ?_⟩
        simp [hi] at hy
        simp [List.getD, hi, hy]
      refine .list false true _ c.w.heap.size 0 1 str.size (grownCap c.w str.size 0 e) (fun i _ => .int .u8 ((bs.getD i 0).toNat : Int)) (by simp [hlen]) hcap (by simp) (by rw [Lib.bytesWorld_size]; omega) hnow (fun _ => hnout) (fun i y hy => ?_) (fun _ i y j s hy hs => ?_) (fun i y j s hy hs => ?_) (fun i y j s hy hs => ?_) <;> obtain ⟨hi, rfl⟩ := hget i y hy
      · rfl
      · have : s = .int .u8 ((bs.getD i 0).toNat : Int) := by
          cases j with
          | zero => simp [S.cells] at hs; exact hs.symm
          | succ j => simp [S.cells] at hs
        subst this; rfl
      · have hj : j = 0 := by
          cases j with
          | zero => rfl
          | succ j => simp [S.cells] at hs
        subst hj
        have := Lib.bytesWorld_cell c.w e str i hi
        rw [hbs] at this
        simp only [Nat.mul_one, Nat.add_zero, Nat.zero_add]
        exact this
      · have : s = .int .u8 ((bs.getD i 0).toNat : Int) := by
          cases j with
          | zero => simp [S.cells] at hs; exact hs.symm
          | succ j => simp [S.cells] at hs
        subst this; exact .int _ _
  · cases he
end
end Go.Proofs.Ytkafliflpplpeaa.Sim
namespace Go.Proofs.Ytkafliflpplpeaa.Sim
set_option linter.unusedSimpArgs false
set_option linter.unusedVariables false
open Go

section
variable {P : Program} {k : Lnk} {c : Cx} {base : Nat} {st : St} {a : Act} {o : Oper} {esc : List Nat} {dp : Nat → List S → Hp → Option S} {slot : Nat} {v : S} {rd : List L} {wr : List (L × Blk)}

def K.isCall : K → Bool
  | .call _ _ | .callv _ _ | .callo _ _ => true
  | _ => false

theorem op_good {q : K} (hc : compOp P k esc o.dst o.op = some q) (hq : q.isCall = false) (hf : FrOk k.fid c st.fr a.tmps) (h : HR k.fid c base) (hb : c.blk = st.blk) (hfr : Fresh c st slot)
    (he : evalK dp slot st q = some (v, rd, wr)) : Good k.fid base c ((execOp a.eval o).run P c.w) (st.wrs wr).blk q.fvar v := by
  generalize hop : o.op = op at hc
  cases op with
  | move x =>
    simp only [compOp] at hc
    split at hc
    · rename_i q1 h1; cases hc; exact good_move hf h hb (.inl hop) h1 he
    · cases hc
  | assign x =>
    simp only [compOp] at hc
    split at hc
    · rename_i q1 h1; cases hc; exact good_move hf h hb (.inr hop) h1 he
    · cases hc
  | pick x y z =>
    simp only [compOp] at hc
    split at hc
    · rename_i q1 q2 q3 h1 h2 h3; cases hc; exact good_pick hf h hb hop h1 h2 h3 he
    · cases hc
  | alloc e =>
    simp only [compOp] at hc
    split at hc
    · rename_i d zs n hd hz
      split at hc
      · cases hc; exact good_alloc hop hz (.inl ⟨rfl, rfl, rfl⟩) h hb hfr he
      · split at hc
        · split at hc
          · rename_i s hs
            split at hc
            · rename_i hm; cases hc; exact good_alloc hop hz (.inr ⟨rfl, hm, (sizeOf_run hs c.w).2⟩) h hb hfr he
            · cases hc
          · cases hc
        · cases hc; exact good_alloc hop hz (.inl ⟨rfl, rfl, rfl⟩) h hb hfr he
    · cases hc
  | box e x =>
    simp only [compOp] at hc
    split at hc
    · rename_i d n q1 hd hn h1
      split at hc
      · cases hc; exact good_box hop (sizeOf_run hn c.w).2 hf h hb hfr h1 he
      · split at hc
        · split at hc
          · rename_i s hs
            split at hc
            · cases hc; exact good_box hop (sizeOf_run hs c.w).2 hf h hb hfr h1 he
            · cases hc
          · cases hc
        · cases hc; exact good_box hop (sizeOf_run hn c.w).2 hf h hb hfr h1 he
    · cases hc
  | build t ps =>
    simp only [compOp] at hc
    split at hc
    · rename_i zs n hz
      split at hc
      · rename_i fs ht
        split at hc
        · rename_i pl hpl
          split at hc
          · rename_i as has
            cases hc
            refine good_build hop hz (places := (pl.toArray[·]?)) (fun parts cells hh => ?_) hf h hb has he
            obtain ⟨i, z, hi, hiz, _⟩ := zerosB_ok hz
            have := hh i z hi hiz
            unfold Program.built
            simp only [hi, ht, hiz, hpl]
            exact this
          · cases hc
        · cases hc
      · rename_i m e ht
        split at hc
        · rename_i s hs
          split at hc
          · rename_i as has
            cases hc
            refine good_build hop hz (places := fun i => some (i * s, s)) (fun parts cells hh => ?_) hf h hb has he
            obtain ⟨i, z, hi, hiz, _⟩ := zerosB_ok hz
            have := hh i z hi hiz
            unfold eszB at hs
            split at hs
            · rename_i ie hie
              split at hs
              · cases hs
                unfold Program.built
                simp only [hi, ht, hiz, hie]
                exact this
              · cases hs
            · cases hs
          · cases hc
        · cases hc
      · cases hc
    · cases hc
  | buildSlice t n ps =>
    simp only [compOp] at hc
    split at hc
    · rename_i e ht
      split at hc
      · rename_i zs s as hz has
        split at hc
        · rename_i hcap; cases hc; exact good_lit hop ht hz hcap hf h hb has he
        · cases hc
      · cases hc
    · cases hc
  | load t x =>
    simp only [compOp] at hc
    split at hc
    · rename_i g n q1 hg hn h1; cases hc; exact good_load hop hg hn hf h hb h1 he
    · cases hc
  | store t x y =>
    simp only [compOp] at hc
    split at hc
    · rename_i n q1 q2 hn h1 h2; cases hc; exact good_store hop hn hf h hb h1 h2 he
    · cases hc
  | nilCheck x =>
    simp only [compOp] at hc
    split at hc
    · rename_i q1 h1; cases hc; exact good_nilchk hf h hb hop h1 he
    · cases hc
  | binOp op t x y t' =>
    simp only [compOp] at hc
    split at hc
    · rename_i q1 q2 h1 h2
      split at hc
      · cases hc; exact good_bin hf h hb hop h1 h2 he
      · cases hc; exact good_bin hf h hb hop h1 h2 he
      · rename_i hn1 hn2
        split at hc
        · rename_i ks g hk hg
          split at hc
          · rename_i hgd
            have hnot : g = false → P.underlying t = some .bool := by
              intro hgf
              subst hgf
              unfold eqLay at hk
              split at hk
              · rename_i hu _; exact hu
              · rename_i hu _; exact absurd hu (hn1 _)
              · rename_i hu _; exact absurd hu hn2
              · rename_i hu _; simp [isAggB, hu] at hg
              · rename_i hu _; simp [isAggB, hu] at hg
              · cases hk
            split at hc
            · cases hc; exact good_eqv hop rfl hg hk hgd hnot hf h hb h1 h2 he
            · cases hc; exact good_eqv hop rfl hg hk hgd hnot hf h hb h1 h2 he
            · cases hc
          · cases hc
        · cases hc
    · cases hc
  | unOp op t x =>
    simp only [compOp] at hc
    split at hc
    · rename_i q1 h1; cases hc; exact good_un hf h hb hop h1 he
    · cases hc
  | convert s d x =>
    simp only [compOp] at hc
    split at hc
    · rename_i i1 i2 q1 hs hd h1; cases hc; exact good_conv hf h hb hop hs hd h1 he
    · rename_i e q1 hs hd h1
      split at hc
      · rename_i hu _; cases hc; exact good_b2s hf h hb hop hs hu hd h1 he
      · cases hc
    · rename_i e q1 hs hd h1
      split at hc
      · rename_i hu _; cases hc; exact good_s2b hf h hb hop hs hd hu h1 he
      · cases hc
    · cases hc
  | makeFunc fn first cs =>
    cases fn with
    | func f =>
      simp only [compOp] at hc
      split at hc
      · rename_i i as hfst hi has
        cases hc
        have e1 : first = #[] := by cases first; simp_all
        subst e1
        exact good_mkfn hop hf h hb hi has he
      · cases hc
    | _ => simp [compOp] at hc
  | makeSlice t l cc =>
    simp only [compOp] at hc
    split at hc
    · rename_i e q1 q2 ht h1 h2
      split at hc
      · rename_i i zs n hi hz; cases hc; exact good_mksl hop ht hi hz hf h hb hfr h1 h2 he
      · cases hc
    · cases hc
  | slice t x lo hi mx =>
    cases mx with
    | some m => simp [compOp] at hc
    | none =>
      simp only [compOp] at hc
      split at hc
      · rename_i q1 ql qh ht h1 h2 h3; cases hc; exact good_slice hop (.inl ⟨rfl, ht⟩) hf h hb h1 h2 h3 he
      · rename_i e q1 ql qh ht h1 h2 h3
        split at hc
        · rename_i s hs; cases hc; exact good_slice hop (.inr ⟨e, s, rfl, ht, hs⟩) hf h hb h1 h2 h3 he
        · cases hc
      · rename_i n e q1 ql qh ht h1 h2 h3
        split at hc
        · rename_i s hs; cases hc; exact good_aslice hop ht hs hf h hb h1 h2 h3 he
        · cases hc
      · cases hc
  | fieldAddr t x i =>
    simp only [compOp] at hc
    split at hc
    · rename_i fs q1 ht h1
      split at hc
      · rename_i off n hp; cases hc; exact good_faddr hf h hb hop ht hp h1 he
      · cases hc
    · cases hc
  | field t x i =>
    simp only [compOp] at hc
    split at hc
    · rename_i fs q1 ht h1
      split at hc
      · rename_i f hfi
        split at hc
        · rename_i g n hg hn; cases hc; exact good_field hf h hb hop ht hfi hg hn h1 he
        · cases hc
      · cases hc
    · cases hc
  | indexAddr t x i =>
    simp only [compOp] at hc
    split at hc
    · rename_i e q1 q2 ht h1 h2
      split at hc
      · rename_i s hs; cases hc; exact good_iaddr hop ht hs hf h hb h1 h2 he
      · cases hc
    · rename_i n e q1 q2 ht h1 h2
      split at hc
      · rename_i s hs; cases hc; exact good_aaddr hop ht hs hf h hb h1 h2 he
      · cases hc
    · cases hc
  | index t x i =>
    simp only [compOp] at hc
    split at hc
    · rename_i n e q1 q2 ht h1 h2
      split at hc
      · rename_i g s hg hs; cases hc; exact good_index hf h hb hop ht hg hs h1 h2 he
      · cases hc
    · rename_i q1 q2 ht h1 h2; cases hc; exact good_indexS hf h hb hop ht h1 h2 he
    · cases hc
  | extract x i =>
    simp only [compOp] at hc
    split at hc
    · rename_i q1 h1; cases hc; exact good_extract hf h hb hop h1 he
    · cases hc
  | call cl =>
    simp only [compOp] at hc
    obtain ⟨callee, args, tys⟩ := cl
    cases callee with
    | builtin b =>
      simp only [compCall] at hc
      split at hc
      · rename_i t x h1 h2
        split at hc
        · rename_i q1 ht hx; cases hc; exact good_len hop hf h hb h1 h2 (.inl ⟨rfl, ht⟩) hx he
        · rename_i e q1 ht hx; cases hc; exact good_len hop hf h hb h1 h2 (.inr ⟨rfl, e, ht⟩) hx he
        · rename_i ht; cases hc; exact good_lenc hop h hb h1 h2 ht he
        · cases hc
      · rename_i t t' x y h1 h2
        split at hc
        · rename_i e e' q1 q2 ht ht' hx hy
          split at hc
          · rename_i i zs n hi hz
            split at hc
            · rename_i hby; cases hc; exact good_append hop h1 h2 ht ht' hi hby hz hf h hb hfr hx hy he
            · cases hc
          · cases hc
        · cases hc
      · rename_i x y h2
        split at hc
        · rename_i q1 q2 hx hy; cases hc; exact good_mm (mx := true) hop hf h hb h2 hx hy he
        · cases hc
      · rename_i x y h2
        split at hc
        · rename_i q1 q2 hx hy; cases hc; exact good_mm (mx := false) hop hf h hb h2 hx hy he
        · cases hc
      · cases hc
    | value x =>
      exfalso
      cases x <;> simp only [compCall] at hc <;> repeat' split at hc
      all_goals first | (cases hc; simp [K.isCall] at hq; done) | cases hc
    | invoke r m => simp [compCall] at hc
  | _ => simp [compOp] at hc

end
end Go.Proofs.Ytkafliflpplpeaa.Sim
namespace Go.Proofs.Ytkafliflpplpeaa.Sim
set_option linter.unusedSimpArgs false
set_option linter.unusedVariables false
open Go

def hblk (hp : Hp) : L → Option Blk
  | .v _ => none
  | .h l => hp[l]?

/-- The machine's calls are followed by the program's. -/
def CallOk (P : Program) (k : Lnk) (call : CallF) : Prop :=
  ∀ f args hp v hp', call f args hp = some (v, hp') → ∀ g, k.fid f = some g → ∀ (c : Cx) (base : Nat) (vals : Array Value), c.blk = hblk hp → (∀ t, c.at_ (.v t) = none) → HR k.fid c base →
    args.length = vals.size → (∀ (i : Nat) (s : S) (u : Value), args[i]? = some s → vals[i]? = some u → VR k.fid c s u) →
    Calls P g vals c.w fun e w' => ∃ c' val, e = .returned val ∧ c'.w = w' ∧ c'.blk = hblk hp' ∧ (∀ t, c'.at_ (.v t) = none) ∧ HR k.fid c' base ∧ Ext c c' ∧ VR k.fid c' v val

section
variable {P : Program} {k : Lnk} {c : Cx} {base : Nat}

/-- A value of one memory stands as well in another that has the same blocks in its heap. -/
theorem VR.ctx {lk : Nat → Option Nat} {c c' : Cx} (hw : c'.w = c.w) (hno : ∀ b, c'.no b → c.no b) (hout : ∀ b, c'.out b → c.out b) (hb : ∀ l, c'.blk (.h l) = c.blk (.h l)) (ha : ∀ l, c'.at_ (.h l) = c.at_ (.h l)) {x : S} {v : Value} (h : VR lk c x v) : VR lk c' x v := by
  induction h with
  | d x v h => exact .d x v (by rw [hw]; exact h.mono (Nat.le_refl _) (fun _ _ _ => rfl) (fun b _ hn => hno b hn) (fun b _ _ ho hn => ho (hout b hn)))
  | own l v off len a cap fz esz xs hb1 hv h =>
    refine .own l v off len a cap fz esz xs (by rw [hb, hb1]) hv (fun hv' => ?_)
    obtain ⟨h2, b, cells, E, fr, hat, hc, haddr, hcap⟩ := h hv'
    exact ⟨h2, b, cells, E, fr, by rw [ha, hat], by rw [hw]; exact hc, haddr, hcap⟩
  | ptr l v row off p fz esz xs hb1 hv h =>
    refine .ptr l v row off p fz esz xs (by rw [hb, hb1]) hv (fun hv' => ?_)
    obtain ⟨b, hat, hp⟩ := h hv'
    exact ⟨b, by rw [ha, hat], hp⟩
  | map l b es hb1 hat => exact .map l b es (by rw [hb, hb1]) (by rw [ha, hat])
  | agg cs vs hlen _ ih => exact .agg cs vs hlen ih
  | tup cs vs hlen _ ih => exact .tup cs vs hlen ih
  | fn f g cs vs hf hlen _ ih => exact .fn f g cs vs hf hlen ih
  | skip => exact .skip

theorem RowsOk.ctx {lk : Nat → Option Nat} {c c' : Cx} (hw : c'.w = c.w) (hno : ∀ b, c'.no b → c.no b) (hout : ∀ b, c'.out b → c.out b) (hb : ∀ l, c'.blk (.h l) = c.blk (.h l)) (ha : ∀ l, c'.at_ (.h l) = c.at_ (.h l)) {l : Nat} {fz : Bool} {esz : Nat} {xs : List S} (h : RowsOk lk c (.h l) fz esz xs) : RowsOk lk c' (.h l) fz esz xs := by
  obtain ⟨b, cells, E, m, h1, h2, h3, h4, h5, h6, h7⟩ := h
  refine ⟨b, cells, E, m, by rw [ha, h1], by rw [hw, h2], h3, h4, h5, h6, fun i x hx => ?_⟩
  obtain ⟨q1, q2⟩ := h7 i x hx
  refine ⟨q1, fun j s hs => ?_⟩
  obtain ⟨u, hu, hv, ho⟩ := q2 j s hs
  exact ⟨u, hu, hv.ctx hw hno hout hb ha, ho⟩

/-! ### Calls that are handed the machine's memory -/

def inCx (c : Cx) (hp : Hp) : Cx :=
  { w := c.w, blk := hblk hp, at_ := fun | .v _ => none | .h l => c.at_ (.h l), out := c.out, hid := fun b => c.hid b ∨ ∃ t, c.at_ (.v t) = some b }

def outCx (c c' : Cx) : Cx :=
  { w := c'.w, blk := fun | .v t => c.blk (.v t) | .h l => c'.blk (.h l), at_ := fun | .v t => c.at_ (.v t) | .h l => c'.at_ (.h l), out := c.out, hid := c.hid }

theorem inCx_no (c : Cx) (hp : Hp) (b : Nat) : (inCx c hp).no b ↔ c.no b := by
  constructor
  · rintro (⟨l, hl⟩ | hl | ⟨t, ht⟩)
    · cases l with
      | v t => cases hl
      | h l => exact .inl ⟨.h l, hl⟩
    · exact .inr hl
    · exact .inl ⟨.v t, ht⟩
  · rintro (⟨l, hl⟩ | hl)
    · cases l with
      | v t => exact .inr (.inr ⟨t, hl⟩)
      | h l => exact .inl ⟨.h l, hl⟩
    · exact .inr (.inl hl)

theorem inCx_hr (h : HR k.fid c base) {hp : Hp} (hb : ∀ l, c.blk (.h l) = hp[l]?) : HR k.fid (inCx c hp) base := by
  have hno := inCx_no c hp
  refine ⟨h.bs, h.outs, ?_, ?_, ?_, ?_, ?_, ?_⟩
  · rintro b (hh | ⟨t, ht⟩)
    · refine ⟨(h.hids b hh).1, ?_⟩
      rintro ⟨l, hl⟩
      cases l with
      | v t => cases hl
      | h l => exact (h.hids b hh).2 ⟨.h l, hl⟩
    · refine ⟨(h.lt _ _ ht).2, ?_⟩
      rintro ⟨l, hl⟩
      cases l with
      | v t => cases hl
      | h l => have := h.inj _ _ _ ht hl; cases this
  · intro l b hl
    cases l with
    | v t => cases hl
    | h l => exact h.lt _ _ hl
  · intro l l' b hl hl'
    cases l with
    | v t => cases hl
    | h l =>
      cases l' with
      | v t => cases hl'
      | h l' => exact h.inj _ _ _ hl hl'
  · intro l b hl
    cases l with
    | v t => cases hl
    | h l => obtain ⟨kk, h1, h2⟩ := h.live _ _ hl; exact ⟨kk, by rw [← h1, hb]; rfl, h2⟩
  · intro l fz esz xs hl
    cases l with
    | v t => cases hl
    | h l =>
      have hl' : c.blk (.h l) = some (.rows fz esz xs) := by rw [hb]; exact hl
      exact (h.rows _ _ _ _ hl').ctx (c := c) (c' := inCx c hp) rfl (fun b => (hno b).1) (fun _ => id) (fun l => (hb l).symm) (fun _ => rfl)
  · intro l es hl
    cases l with
    | v t => cases hl
    | h l => exact h.maps (.h l) es (by rw [hb]; exact hl)

theorem outCx_ok (h : HR k.fid c base) {hp : Hp} (hb : ∀ l, c.blk (.h l) = hp[l]?) {c' : Cx} (h' : HR k.fid c' base) (hv : ∀ t, c'.at_ (.v t) = none) (e : Ext (inCx c hp) c') :
    HR k.fid (outCx c c') base ∧ Ext c (outCx c c') ∧ VExt none c (outCx c c') ∧ ∀ x u, VR k.fid c' x u → VR k.fid (outCx c c') x u := by
  have how : ∀ b, c'.ow b ↔ ∃ l, c'.at_ (.h l) = some b := by
    intro b
    constructor
    · rintro ⟨l, hl⟩
      cases l with
      | v t => rw [hv] at hl; cases hl
      | h l => exact ⟨l, hl⟩
    · rintro ⟨l, hl⟩; exact ⟨_, hl⟩
  have hhid : ∀ b, c'.hid b ↔ (c.hid b ∨ ∃ t, c.at_ (.v t) = some b) := by intro b; rw [e.hid]; exact Iff.rfl
  have hno : ∀ b, (outCx c c').no b ↔ c'.no b := by
    intro b
    constructor
    · rintro (⟨l, hl⟩ | hl)
      · cases l with
        | v t => exact .inr ((hhid b).2 (.inr ⟨t, hl⟩))
        | h l => exact .inl ⟨.h l, hl⟩
      · exact .inr ((hhid b).2 (.inl hl))
    · rintro (hl | hl)
      · obtain ⟨l, hl⟩ := (how b).1 hl; exact .inl ⟨.h l, hl⟩
      · rcases (hhid b).1 hl with hl | ⟨t, ht⟩
        · exact .inr hl
        · exact .inl ⟨.v t, ht⟩
  have hout : ∀ b, (outCx c c').out b ↔ c'.out b := by intro b; rw [e.out]; exact Iff.rfl
  have hvr : ∀ x u, VR k.fid c' x u → VR k.fid (outCx c c') x u := fun x u hx => hx.ctx (c := c') (c' := outCx c c') rfl (fun b => (hno b).1) (fun b => (hout b).1) (fun _ => rfl) (fun _ => rfl)
  have hin : ∀ b, c.ow b → (inCx c hp).ow b ∨ ∃ t, c.at_ (.v t) = some b := by
    rintro b ⟨l, hl⟩
    cases l with
    | v t => exact .inr ⟨t, hl⟩
    | h l => exact .inl ⟨.h l, hl⟩
  have hin2 : ∀ b, (inCx c hp).ow b → c.ow b := by
    rintro b ⟨l, hl⟩
    cases l with
    | v t => cases hl
    | h l => exact ⟨.h l, hl⟩
  have ext : Ext c (outCx c c') := by
    refine ⟨e.os, e.tape, e.output, e.size, ?_, ?_, rfl, rfl, ?_, ?_⟩
    · intro b hlt hn
      exact e.keep b hlt (fun hh => hn (hin2 b hh))
    · rintro b hlt ⟨l, hl⟩
      cases l with
      | v t => exact ⟨.v t, hl⟩
      | h l => exact hin2 b (e.ow b hlt ⟨.h l, hl⟩)
    · intro l fz esz xs hl
      exact e.rows l fz esz xs (by rw [← hl, hb]; rfl)
    · intro l es hl
      exact absurd hl (h.maps _ es)
  refine ⟨⟨h'.bs, h.outs, ?_, ?_, ?_, ?_, ?_, ?_⟩, ext, fun t _ fz esz xs hl => ⟨⟨fz, xs, hl⟩, rfl⟩, hvr⟩
  · intro b hh
    refine ⟨Nat.lt_of_lt_of_le (h.hids b hh).1 e.size, ?_⟩
    rintro ⟨l, hl⟩
    cases l with
    | v t => exact (h.hids b hh).2 ⟨.v t, hl⟩
    | h l => exact (h'.hids b ((hhid b).2 (.inl hh))).2 ⟨.h l, hl⟩
  · intro l b hl
    cases l with
    | v t => exact ⟨(h.lt _ _ hl).1, Nat.lt_of_lt_of_le (h.lt _ _ hl).2 e.size⟩
    | h l => exact h'.lt (.h l) b hl
  · intro l l' b hl hl'
    cases l with
    | v t =>
      cases l' with
      | v t' => exact h.inj _ _ _ hl hl'
      | h l' => exact absurd ⟨.h l', hl'⟩ (h'.hids b ((hhid b).2 (.inr ⟨t, hl⟩))).2
    | h l =>
      cases l' with
      | v t' => exact absurd ⟨.h l, hl⟩ (h'.hids b ((hhid b).2 (.inr ⟨t', hl'⟩))).2
      | h l' => exact h'.inj _ _ _ hl hl'
  · intro l b hl
    cases l with
    | v t => exact h.live _ _ hl
    | h l => exact h'.live (.h l) b hl
  · intro l fz esz xs hl
    cases l with
    | v t =>
      refine (h.rows (.v t) fz esz xs hl).mono ext rfl (fun b ha => ?_)
      refine e.keep b (h.lt _ _ ha).2 ?_
      rintro ⟨l, hl⟩
      cases l with
      | v t' => cases hl
      | h l => have := h.inj _ _ _ ha hl; cases this
    | h l => exact (h'.rows (.h l) fz esz xs hl).ctx (c := c') (c' := outCx c c') rfl (fun b => (hno b).1) (fun b => (hout b).1) (fun _ => rfl) (fun _ => rfl)
  · intro l es hl
    cases l with
    | v t => exact h.maps _ _ hl
    | h l => exact h'.maps (.h l) es hl

/-- A call that is handed the machine's memory. -/
theorem inline_call {call : CallF} (ok : CallOk P k call) {f g : Nat} {args : List S} {st : St} {v : S} {hp' : Hp} (hc : call f args st.hp = some (v, hp')) (hg : k.fid f = some g) (h : HR k.fid c base) (hb : c.blk = st.blk) {vals : Array Value} (hl : args.length = vals.size)
    (hv : ∀ (i : Nat) (s : S) (u : Value), args[i]? = some s → vals[i]? = some u → VR k.fid c s u) :
    Calls P g vals c.w fun e w' => ∃ c' val, e = .returned val ∧ c'.w = w' ∧ c'.blk = ({ st with hp := hp' } : St).blk ∧ HR k.fid c' base ∧ Ext c c' ∧ VExt none c c' ∧ VR k.fid c' v val := by
  have hb' : ∀ l, c.blk (.h l) = st.hp[l]? := fun l => by rw [hb]; rfl
  refine (ok f args st.hp v hp' hc g hg (inCx c st.hp) base vals rfl (fun _ => rfl) (inCx_hr h hb') hl (fun i s u h1 h2 => (hv i s u h1 h2).ctx (c := c) (c' := inCx c st.hp) rfl (fun b => (inCx_no c st.hp b).1) (fun _ => id) (fun l => (hb' l).symm) (fun _ => rfl))).mono ?_
  rintro e w' ⟨c', val, he, hw, hbk, hat, hr, hext, hvr⟩
  obtain ⟨r1, r2, r3, r4⟩ := outCx_ok h hb' hr hat hext
  refine ⟨outCx c c', val, he, hw, ?_, r1, r2, r3, r4 _ _ hvr⟩
  funext l
  cases l with
  | v t => show c.blk (.v t) = _; rw [hb]; rfl
  | h l => show c'.blk (.h l) = _; rw [hbk]; rfl

/-! ### Calls that are handed data alone -/

theorem mapO_get {f : S → Option S} : ∀ {xs ys : List S}, mapO f xs = some ys → ys.length = xs.length ∧ ∀ (i : Nat) (y : S), ys[i]? = some y → ∃ x, xs[i]? = some x ∧ f x = some y
  | [], ys, h => by simp only [mapO, Option.some.injEq] at h; subst h; simp
  | x :: xs, ys, h => by
    simp only [mapO] at h
    split at h
    · rename_i y ys' hy hys
      cases h
      obtain ⟨h1, h2⟩ := mapO_get hys
      refine ⟨by simp [h1], fun i z hz => ?_⟩
      cases i with
      | zero => simp at hz; subst hz; exact ⟨x, rfl, hy⟩
      | succ i => simpa using h2 i z (by simpa using hz)
    · cases h

theorem snapC_okv {p : Bool} {hp : Hp} : ∀ {n : Nat} {x y : S}, snapC p hp n x = some y → y.okv = true ∧ (p = true → y.privs = true)
  | 0, x, y, h => by simp [snapC] at h
  | n + 1, x, y, h => by
    cases x with
    | own l v off len =>
      simp only [snapC] at h
      repeat' split at h
      all_goals first | (simp at h; done) | (cases h; exact ⟨rfl, fun hp => by simp [S.privs, hp]⟩)
    | ptr l v row off =>
      simp only [snapC] at h
      cases p with
      | true => simp at h
      | false =>
        simp only [Bool.false_eq_true, if_false] at h
        repeat' split at h
        all_goals first | (simp at h; done) | (cases h; exact ⟨rfl, fun hh => by cases hh⟩)
    | rptr cs off =>
      simp only [snapC] at h
      cases p with
      | true => simp at h
      | false => simp only [Bool.false_eq_true, if_false, Option.some.injEq] at h; subst h; exact ⟨rfl, fun hh => by cases hh⟩
    | _ =>
      simp only [snapC, S.plain, if_true, Bool.false_eq_true, if_false] at h
      first
        | (cases h; done)
        | (cases p with
           | true =>
             simp only [if_true] at h
             split at h
             · cases h; exact ⟨rfl, fun _ => by assumption⟩
             · cases h
           | false => simp only [Bool.false_eq_true, if_false, Option.some.injEq] at h; subst h; exact ⟨rfl, fun hh => by cases hh⟩)

theorem snapC_same {p : Bool} {hp : Hp} : ∀ {n : Nat} {x y : S}, x.plain = true → snapC p hp n x = some y → y = x
  | 0, x, y, _, h => by simp [snapC] at h
  | n + 1, x, y, hx, h => by
    have h' : (if x.plain then (if p then (if x.privs then some x else none) else some x) else none) = some y := by
      cases x <;> first | exact h | simp [S.plain] at hx
    rw [if_pos hx] at h'
    split at h'
    · split at h'
      · exact (Option.some.inj h').symm
      · cases h'
    · exact (Option.some.inj h').symm

theorem VD.priv {w : World} {no out no' out' : Nat → Prop} {x : S} {u : Value} (h : VD w no out x u) (hp : x.privs = true) (ht : ∀ b, b < w.heap.size → ¬ no b → ¬ out b → ¬ no' b ∧ ¬ out' b) : VD w no' out' x u := by
  induction h with
  | int q n => exact .int q n
  | bool b => exact .bool b
  | str s l h => exact .str s l h
  | nilp => exact .nilp
  | nilf => exact .nilf
  | nil f q a cap h => exact .nil f q a cap h
  | list f q xs b o esz len cap u hlen hle hf hb how hout hrow hpr hcell hv ih =>
    by_cases hx : xs = []
    · subst hx
      subst hlen
      exact .nil f q _ cap (fun hh => by have := hf hh; simpa using this)
    · have hq : q = true := by
        simp only [S.privs, Bool.or_eq_true, List.isEmpty_iff] at hp
        exact hp.resolve_right hx
      obtain ⟨t1, t2⟩ := ht b hb how (hout hq)
      exact .list f q xs b o esz len cap u hlen hle hf hb t1 (fun _ => t2) hrow hpr hcell (fun i x j c hx hc => ih i x j c hx hc (hpr hq i x j c hx hc))
  | rptr cs off b o u hb how hcell hv ih => simp [S.privs] at hp

/-- To what memory a value is handed over: 'no2', 'out2' are its blocks of others. -/
structure Hand (p : Bool) (c : Cx) (no2 out2 : Nat → Prop) : Prop where
  own : ∀ b, c.ow b → ¬ no2 b ∧ (p = true → ¬ out2 b)
  all : p = false → ∀ b, ¬ no2 b
  old : p = false → ∀ b, b < c.w.heap.size → ¬ c.no b → ¬ c.out b → ¬ out2 b
  priv : p = true → ∀ b, b < c.w.heap.size → ¬ c.no b → ¬ c.out b → ¬ no2 b ∧ ¬ out2 b

theorem Hand.vd {p : Bool} {no2 out2 : Nat → Prop} (hh : Hand p c no2 out2) {x : S} {u : Value} (h : VD c.w c.no c.out x u) (hp : p = true → x.privs = true) : VD c.w no2 out2 x u := by
  cases p with
  | true => exact h.priv (hp rfl) (hh.priv rfl)
  | false => exact h.mono (Nat.le_refl _) (fun _ _ _ => rfl) (fun b _ hn => absurd hn (hh.all rfl b)) (hh.old rfl)

theorem cells_agg_or (x : S) : (∃ cs, x = .agg cs) ∨ (x.cells = [x] ∧ ∀ g : S → Option S, rowBy g x = g x) := by cases x <;> simp [S.cells, rowBy]

/-- Rows as they are now: their cells. -/
theorem rowBy_cells {p : Bool} {hp : Hp} {n : Nat} {x y : S} (h : rowBy (snapC p hp n) x = some y) : y.cells.length = x.cells.length ∧ ∀ (j : Nat) (s : S), y.cells[j]? = some s → ∃ s0, x.cells[j]? = some s0 ∧ snapC p hp n s0 = some s := by
  rcases cells_agg_or x with ⟨cs, rfl⟩ | ⟨hx, hr⟩
  · simp only [rowBy] at h
    split at h
    · rename_i ys hys
      cases h
      exact mapO_get hys
    · cases h
  · rw [hr] at h
    have hyc : y.cells = [y] := by
      have := (snapC_okv h).1
      cases y <;> first | rfl | simp [S.okv] at this
    rw [hx, hyc]
    refine ⟨rfl, fun j s hs => ?_⟩
    cases j with
    | zero => simp at hs; subst hs; exact ⟨x, rfl, h⟩
    | succ j => simp at hs

theorem snapC_vd (h : HR k.fid c base) {hp : Hp} (hb : ∀ l, c.blk (.h l) = hp[l]?) {p : Bool} {no2 out2 : Nat → Prop} (hh : Hand p c no2 out2) :
    ∀ (n : Nat) {x y : S} {u : Value}, snapC p hp n x = some y → VR k.fid c x u → VD c.w no2 out2 y u
  | 0, x, y, u, hs, _ => by simp [snapC] at hs
  | n + 1, x, y, u, hs, hv => by
    have ih := fun {x y u} => snapC_vd h hb hh n (x := x) (y := y) (u := u)
    have hokv := snapC_okv hs
    cases x with
    | own l w off len =>
      simp only [snapC] at hs
      split at hs
      · rename_i fz es xs hblk
        split at hs
        · rename_i hc
          split at hs
          · rename_i ys hys
            cases hs
            obtain ⟨ad, cap, fz', es', xs', rfl, hb1, _, hh1⟩ := (FR.r _ _ hv).own
            have heq : c.blk (.h l) = some (.rows fz es xs) := by rw [hb]; exact hblk
            rw [heq] at hb1
            cases hb1
            obtain ⟨hle, b, cells, E, frz, ha, hcl, haddr, hcap⟩ := hh1 hc.1
            obtain ⟨b2, cells2, E2, m, ha2, hc2, hpos, hsz, hlm, hfm, hrows⟩ := h.rows _ _ _ _ heq
            rw [ha] at ha2
            cases ha2
            rw [hcl] at hc2
            cases hc2
            obtain ⟨hyl, hyg⟩ := mapO_get hys
            have hylen : ys.length = len := by rw [hyl]; simp; omega
            by_cases hlen0 : len = 0
            · subst hlen0
              have hynil : ys = [] := List.eq_nil_of_length_eq_zero hylen
              subst hynil
              exact .nil _ _ _ _ (fun hf => by cases hf)
            have had := haddr.resolve_right (fun hh => hlen0 hh.1)
            subst had
            have hget : ∀ (i : Nat) (z : S), ((xs.drop off).take len)[i]? = some z → xs[off + i]? = some z := by
              intro i z hz
              rw [List.getElem?_take] at hz
              split at hz
              · rwa [List.getElem?_drop] at hz
              · cases hz
            have key : ∀ (i : Nat) (yy : S), ys[i]? = some yy → yy.cells.length = es ∧ ∀ (j : Nat) (s : S), yy.cells[j]? = some s → cells[(off + i) * es + j]? = some (cells.getD ((off + i) * es + j) undef) ∧ VD c.w no2 out2 s (cells.getD ((off + i) * es + j) undef) ∧ (p = true → s.privs = true) := by
              intro i yy hyy
              obtain ⟨z, hz, hzy⟩ := hyg i yy hyy
              obtain ⟨q1, q2⟩ := rowBy_cells hzy
              obtain ⟨q3, q4⟩ := hrows _ z (hget i z hz)
              refine ⟨by rw [q1, q3], fun j s hs => ?_⟩
              obtain ⟨s0, hs0, hsn⟩ := q2 j s hs
              obtain ⟨uu, huu, hvv, hok0⟩ := q4 j s0 hs0
              have he : cells.getD ((off + i) * es + j) undef = uu := by simp [Array.getD_eq_getD_getElem?, huu]
              rw [he]
              exact ⟨huu, ih hsn hvv, (snapC_okv hsn).2⟩
            have hblt := (h.lt _ _ ha).2
            have hlc : len ≤ cap := by
              rw [hsz] at hcap
              have := Nat.eq_of_mul_eq_mul_right hpos hcap
              omega
            refine .list false p ys b (off * es) es len cap (fun i j => cells.getD ((off + i) * es + j) undef) hylen hlc (fun hf => by cases hf) hblt (hh.own b ⟨_, ha⟩).1 (hh.own b ⟨_, ha⟩).2
              (fun i yy hyy => (key i yy hyy).1) (fun hp' i yy j s hyy hs => ((key i yy hyy).2 j s hs).2.2 hp') (fun i yy j s hyy hs => ?_) (fun i yy j s hyy hs => ((key i yy hyy).2 j s hs).2.1)
            have := ((key i yy hyy).2 j s hs).1
            simp only [World.cell?, hcl, Option.isSome_none, Bool.false_eq_true, if_false]
            rw [← this]
            congr 1
            rw [Nat.add_mul]
            omega
          · cases hs
        · cases hs
      · cases hs
    | ptr l w row off =>
      simp only [snapC] at hs
      cases p with
      | true => simp at hs
      | false =>
        simp only [Bool.false_eq_true, if_false] at hs
        split at hs
        · rename_i fz es xs hblk
          split at hs
          · rename_i hw
            split at hs
            · rename_i z hz
              split at hs
              · rename_i ys hys
                cases hs
                obtain ⟨pp, fz', es', xs', rfl, hb1, _, hh1⟩ := (FR.r _ _ hv).ptr
                have heq : c.blk (.h l) = some (.rows fz es xs) := by rw [hb]; exact hblk
                rw [heq] at hb1
                cases hb1
                obtain ⟨b, ha, rfl⟩ := hh1 hw
                obtain ⟨b2, cells, E, m, ha2, hc2, hpos, hsz, hlm, hfm, hrows⟩ := h.rows _ _ _ _ heq
                rw [ha] at ha2
                cases ha2
                obtain ⟨q3, q4⟩ := hrows _ z hz
                obtain ⟨hyl, hyg⟩ := mapO_get hys
                have key : ∀ (j : Nat) (s : S), ys[j]? = some s → cells[row * es + j]? = some (cells.getD (row * es + j) undef) ∧ VD c.w no2 out2 s (cells.getD (row * es + j) undef) := by
                  intro j s hs
                  obtain ⟨s0, hs0, hsn⟩ := hyg j s hs
                  obtain ⟨uu, huu, hvv, hok0⟩ := q4 j s0 hs0
                  have he : cells.getD (row * es + j) undef = uu := by simp [Array.getD_eq_getD_getElem?, huu]
                  rw [he]
                  exact ⟨huu, ih hsn hvv⟩
                refine .rptr ys off b (row * es) (fun j => cells.getD (row * es + j) undef) (h.lt _ _ ha).2 (hh.all rfl b) (fun j s hs => ?_) (fun j s hs => (key j s hs).2)
                have := (key j s hs).1
                simp only [World.cell?, hc2, Option.isSome_none, Bool.false_eq_true, if_false]
                exact this
              · cases hs
            · cases hs
          · cases hs
        · cases hs
    | rptr cs off =>
      simp only [snapC] at hs
      cases p with
      | true => simp at hs
      | false =>
        simp only [Bool.false_eq_true, if_false, Option.some.injEq] at hs
        subst hs
        cases hv with | d _ _ hd => exact hh.vd hd (fun hp => by cases hp)
    | loc t off => simp [snapC, S.plain] at hs
    | fn f cs => simp [snapC, S.plain] at hs
    | map l => simp [snapC, S.plain] at hs
    | agg cs => simp [snapC, S.plain] at hs
    | tup cs => simp [snapC, S.plain] at hs
    | skip => simp [snapC, S.plain] at hs
    | any => simp [snapC, S.plain] at hs
    | int q i => rw [snapC_same rfl hs] at hokv ⊢; cases hv with | d _ _ hd => exact hh.vd hd hokv.2
    | bool q => rw [snapC_same rfl hs] at hokv ⊢; cases hv with | d _ _ hd => exact hh.vd hd hokv.2
    | str q => rw [snapC_same rfl hs] at hokv ⊢; cases hv with | d _ _ hd => exact hh.vd hd hokv.2
    | list f q xs => rw [snapC_same rfl hs] at hokv ⊢; cases hv with | d _ _ hd => exact hh.vd hd hokv.2
    | nilp => rw [snapC_same rfl hs] at hokv ⊢; cases hv with | d _ _ hd => exact hh.vd hd hokv.2
    | nilf => rw [snapC_same rfl hs] at hokv ⊢; cases hv with | d _ _ hd => exact hh.vd hd hokv.2

end
end Go.Proofs.Ytkafliflpplpeaa.Sim
namespace Go.Proofs.Ytkafliflpplpeaa.Sim
set_option linter.unusedSimpArgs false
set_option linter.unusedVariables false
open Go

section
variable {P : Program} {k : Lnk} {c : Cx} {base : Nat}

/-- Another world, in which all that was there is as it was. -/
theorem HR.world (h : HR k.fid c base) {w' : World} (hos : w'.os = c.w.os) (htape : w'.tape = c.w.tape) (hout : w'.output = c.w.output) (hsize : c.w.heap.size ≤ w'.heap.size) (hold : ∀ b, b < c.w.heap.size → w'.heap[b]? = c.w.heap[b]?) :
    HR k.fid { c with w := w' } base ∧ Ext c { c with w := w' } := by
  have e : Ext c { c with w := w' } :=
    ⟨hos, htape, hout, hsize, fun b hb _ => hold b hb, fun _ _ h => h, rfl, rfl, fun l fz esz xs hb => ⟨fz, xs, hb, Nat.le_refl _, fun _ => ⟨rfl, fun b cells E fr ha hc => ⟨cells, by rw [← hc]; exact hold b (h.lt _ _ ha).2, rfl⟩⟩⟩, fun _ es hb => ⟨⟨es, hb⟩, rfl⟩⟩
  exact ⟨⟨Nat.le_trans h.bs hsize, h.outs, fun b hb => ⟨Nat.lt_of_lt_of_le (h.hids b hb).1 hsize, (h.hids b hb).2⟩, fun l b hl => ⟨(h.lt l b hl).1, Nat.lt_of_lt_of_le (h.lt l b hl).2 hsize⟩, h.inj, h.live,
    fun l fz esz xs hb => (h.rows l fz esz xs hb).mono e rfl (fun b ha => hold b (h.lt _ _ ha).2), h.maps⟩, e⟩

def deepCx (c : Cx) : Cx := { w := c.w, blk := hblk [], at_ := fun _ => none, out := fun b => c.out b ∨ c.no b, hid := fun _ => False }

theorem deepCx_no (c : Cx) (b : Nat) : ¬ (deepCx c).no b := by
  rintro (⟨l, hl⟩ | hl)
  · cases hl
  · exact hl

theorem HR.no_lt (h : HR k.fid c base) {b : Nat} (hb : c.no b) : b < c.w.heap.size := by
  rcases hb with ⟨l, hl⟩ | hl
  · exact (h.lt _ _ hl).2
  · exact (h.hids _ hl).1

theorem deepCx_hr (h : HR k.fid c base) : HR k.fid (deepCx c) c.w.heap.size := by
  have hnil : ∀ l, hblk [] l = none := by intro l; cases l <;> simp [hblk]
  refine ⟨Nat.le_refl _, ?_, fun b hb => hb.elim, (fun l b hl => by cases hl), (fun l l' b hl => by cases hl), (fun l b hl => by cases hl), fun l fz esz xs hl => ?_, fun l es hl => ?_⟩
  · rintro b (hb | hb)
    · exact Nat.lt_of_lt_of_le (h.outs b hb) h.bs
    · exact h.no_lt hb
  · have : (deepCx c).blk l = none := hnil l
    rw [this] at hl; cases hl
  · have : (deepCx c).blk l = none := hnil l
    rw [this] at hl; cases hl

theorem rowBy_vr (h : HR k.fid c base) {hp : Hp} (hb : ∀ l, c.blk (.h l) = hp[l]?) {p : Bool} {c2 : Cx} (hw : c2.w = c.w) (hh : Hand p c c2.no c2.out) {n : Nat} {x y : S} {u : Value} (hs : rowBy (snapC p hp n) x = some y) (hv : VR k.fid c x u) : VR k.fid c2 y u := by
  rcases cells_agg_or x with ⟨cs, rfl⟩ | ⟨hx, hr⟩
  · simp only [rowBy] at hs
    split at hs
    · rename_i ys hys
      cases hs
      obtain ⟨vs, rfl, hl, hg⟩ := (FR.r _ _ hv).agg
      obtain ⟨m1, m2⟩ := mapO_get hys
      refine .agg ys vs (by rw [m1, hl]) (fun i s w hs hw' => ?_)
      obtain ⟨s0, hs0, hsn⟩ := m2 i s hs
      exact .d _ _ (by rw [hw]; exact snapC_vd h hb hh n hsn (hg i s0 w hs0 hw'))
    · cases hs
  · rw [hr] at hs
    exact .d _ _ (by rw [hw]; exact snapC_vd h hb hh n hs hv)

theorem snapA_vr (h : HR k.fid c base) {hp : Hp} (hb : ∀ l, c.blk (.h l) = hp[l]?) {c2 : Cx} (hw : c2.w = c.w) (hh : Hand false c c2.no c2.out) {x y : S} {u : Value} (hs : snapA hp x = some y) (hv : VR k.fid c x u) : VR k.fid c2 y u := by
  by_cases hf : ∃ f cs, x = .fn f cs
  · obtain ⟨f, cs, rfl⟩ := hf
    simp only [snapA] at hs
    split at hs
    · rename_i ys hys
      cases hs
      obtain ⟨g, vs, rfl, hg, hl, hg2⟩ := (FR.r _ _ hv).fn
      obtain ⟨m1, m2⟩ := mapO_get hys
      refine .fn f g ys vs hg (by rw [m1, hl]) (fun i s w hs hw' => ?_)
      obtain ⟨s0, hs0, hsn⟩ := m2 i s hs
      exact .d _ _ (by rw [hw]; exact snapC_vd h hb hh _ hsn (hg2 i s0 w hs0 hw'))
    · cases hs
  · have : snapA hp x = rowBy (snapC false hp depth) x := by
      cases x <;> first | rfl | exact absurd ⟨_, _, rfl⟩ hf
    rw [this] at hs
    exact rowBy_vr h hb hw hh hs hv

theorem snapR_vr (h : HR k.fid c base) {hp : Hp} (hb : ∀ l, c.blk (.h l) = hp[l]?) {c2 : Cx} (hw : c2.w = c.w) (hh : Hand true c c2.no c2.out) {x y : S} {u : Value} (hs : snapR hp x = some y) (hv : VR k.fid c x u) : VR k.fid c2 y u := by
  by_cases hf : ∃ cs, x = .tup cs
  · obtain ⟨cs, rfl⟩ := hf
    simp only [snapR] at hs
    split at hs
    · rename_i ys hys
      cases hs
      obtain ⟨vs, rfl, hl, hg2⟩ := (FR.r _ _ hv).tup
      obtain ⟨m1, m2⟩ := mapO_get hys
      refine .tup ys vs (by rw [m1, hl]) (fun i s w hs hw' => ?_)
      obtain ⟨s0, hs0, hsn⟩ := m2 i s hs
      exact rowBy_vr h hb hw hh hsn (hg2 i s0 w hs0 hw')
    · cases hs
  · have : snapR hp x = rowBy (snapC true hp depth) x := by
      cases x <;> first | rfl | exact absurd ⟨_, rfl⟩ hf
    rw [this] at hs
    exact rowBy_vr h hb hw hh hs hv

/-- A call that is handed data alone. -/
theorem deep_call {call : CallF} (ok : CallOk P k call) {f g : Nat} {args : List S} {hp : Hp} {v : S} (hc : deep call f args hp = some v) (hg : k.fid f = some g) (h : HR k.fid c base) (hb : ∀ l, c.blk (.h l) = hp[l]?) {vals : Array Value} (hl : args.length = vals.size)
    (hv : ∀ (i : Nat) (s : S) (u : Value), args[i]? = some s → vals[i]? = some u → VR k.fid c s u) :
    Calls P g vals c.w fun e w' => ∃ val, e = .returned val ∧ HR k.fid { c with w := w' } base ∧ Ext c { c with w := w' } ∧ VR k.fid { c with w := w' } v val := by
  unfold deep at hc
  split at hc
  · cases hc
  · rename_i as has
    split at hc
    · cases hc
    · rename_i r hp' hcall
      obtain ⟨m1, m2⟩ := mapO_get has
      have hand : Hand false c (deepCx c).no (deepCx c).out :=
        ⟨fun b _ => ⟨deepCx_no c b, (fun hp => by cases hp)⟩, fun _ b => deepCx_no c b, (fun _ b _ h1 h2 hh => hh.elim h2 h1), (fun hp => by cases hp)⟩
      refine (ok f as [] r hp' hcall g hg (deepCx c) c.w.heap.size vals rfl (fun _ => rfl) (deepCx_hr h) (by rw [m1, hl]) (fun i s u hs hu => ?_)).mono ?_
      · obtain ⟨s0, hs0, hsn⟩ := m2 i s hs
        exact snapA_vr (c2 := deepCx c) h hb rfl hand hsn (hv i s0 u hs0 hu)
      · rintro e w' ⟨c', val, he, hw, hbk, hat, hr, hext, hvr⟩
        subst hw
        obtain ⟨q1, q2⟩ := h.world (w' := c'.w) hext.os hext.tape hext.output hext.size (fun b hb' => hext.keep b hb' (fun ho => deepCx_no c b (.inl ho)))
        refine ⟨val, he, q1, q2, ?_⟩
        have hand2 : Hand true c' c.no c.out := by
          refine ⟨fun b ho => ?_, (fun hp => by cases hp), (fun hp => by cases hp), fun _ b _ h1 h2 => ?_⟩
          · obtain ⟨l, hl'⟩ := ho
            have hge := (hr.lt l b hl').1
            exact ⟨fun hn => by have := h.no_lt hn; omega, fun _ hn => by have := h.outs b hn; have := h.bs; omega⟩
          · rw [hext.out] at h2
            exact ⟨fun hn => h2 (.inr hn), fun hn => h2 (.inl hn)⟩
        exact snapR_vr (c2 := { c with w := c'.w }) hr (fun l => by rw [hbk]; rfl) rfl hand2 hc hvr

/-- A scalar stands for the same value in every memory. -/
theorem VR.scalar {lk : Nat → Option Nat} {c c2 : Cx} {s : S} {u : Value} (h : VR lk c s u) (hs : s.scalar = true) : VR lk c2 s u ∧ s.okv = true := by
  cases h with
  | d _ _ h => cases h <;> simp [S.scalar] at hs <;> first | exact ⟨.d _ _ (.int _ _), rfl⟩ | exact ⟨.d _ _ (.bool _), rfl⟩ | exact ⟨.d _ _ (.str _ _ (by assumption)), rfl⟩
  | _ => simp [S.scalar] at hs

/-- What stands behind a call whose answer is given over. -/
def GivenOver (k : Lnk) (c : Cx) (base : Nat) (v : S) (w' : World) (val : Value) : Prop :=
  (∃ f p xs, v = .list f p xs ∧ HR k.fid { c with w := w' } base ∧ Ext c { c with w := w' } ∧ VR k.fid { c with w := w' } v val) ∨
  (∃ (esz : Nat) (xs : List S), v = .tup [.int .i64 esz, .list false false xs] ∧ ∀ slot, (∀ fz e ys, c.blk (.h slot) ≠ some (.rows fz e ys)) →
    ∃ b, HR k.fid ⟨w', updL c.blk (.h slot) (.rows true esz xs), updL c.at_ (.h slot) b, c.out, c.hid⟩ base ∧ Ext c ⟨w', updL c.blk (.h slot) (.rows true esz xs), updL c.at_ (.h slot) b, c.out, c.hid⟩ ∧
      VR k.fid ⟨w', updL c.blk (.h slot) (.rows true esz xs), updL c.at_ (.h slot) b, c.out, c.hid⟩ (.own slot xs.length 0 xs.length) val)

theorem deep_callo {call : CallF} (ok : CallOk P k call) {f g : Nat} {args : List S} {hp : Hp} {v : S} (hc : deepO call f args hp = some v) (hg : k.fid f = some g) (h : HR k.fid c base) (hb : ∀ l, c.blk (.h l) = hp[l]?) {vals : Array Value} (hl : args.length = vals.size)
    (hv : ∀ (i : Nat) (s : S) (u : Value), args[i]? = some s → vals[i]? = some u → VR k.fid c s u) :
    Calls P g vals c.w fun e w' => ∃ val, e = .returned val ∧ GivenOver k c base v w' val := by
  unfold deepO at hc
  split at hc
  · cases hc
  · rename_i as has
    split at hc
    · cases hc
    · rename_i r hp' hcall
      obtain ⟨m1, m2⟩ := mapO_get has
      have hand : Hand false c (deepCx c).no (deepCx c).out :=
        ⟨fun b _ => ⟨deepCx_no c b, (fun hp => by cases hp)⟩, fun _ b => deepCx_no c b, (fun _ b _ h1 h2 hh => hh.elim h2 h1), (fun hp => by cases hp)⟩
      refine (ok f as [] r hp' hcall g hg (deepCx c) c.w.heap.size vals rfl (fun _ => rfl) (deepCx_hr h) (by rw [m1, hl]) (fun i s u hs hu => ?_)).mono ?_
      · obtain ⟨s0, hs0, hsn⟩ := m2 i s hs
        exact snapA_vr (c2 := deepCx c) h hb rfl hand hsn (hv i s0 u hs0 hu)
      · rintro e w' ⟨c', val, he, hw, hbk, hat, hr, hext, hvr⟩
        subst hw
        refine ⟨val, he, ?_⟩
        have hkeep : ∀ b, b < c.w.heap.size → c'.w.heap[b]? = c.w.heap[b]? := fun b hb' => hext.keep b hb' (fun ho => deepCx_no c b (.inl ho))
        have hprv : ∀ (f : Bool) (xs : List S), r = .list f true xs → GivenOver k c base (.list f true xs) c'.w val := by
          intro f xs hrx
          subst hrx
          obtain ⟨q1, q2⟩ := h.world (w' := c'.w) hext.os hext.tape hext.output hext.size hkeep
          refine .inl ⟨f, true, xs, rfl, q1, q2, ?_⟩
          have hand2 : Hand true c' c.no c.out := by
            refine ⟨fun b ho => ?_, (fun hp => by cases hp), (fun hp => by cases hp), fun _ b _ h1 h2 => ?_⟩
            · obtain ⟨l, hl'⟩ := ho
              have hge := (hr.lt l b hl').1
              exact ⟨fun hn => by have := h.no_lt hn; omega, fun _ hn => by have := h.outs b hn; have := h.bs; omega⟩
            · rw [hext.out] at h2
              exact ⟨fun hn => h2 (.inr hn), fun hn => h2 (.inl hn)⟩
          exact snapR_vr (c2 := { c with w := c'.w }) hr (fun l => by rw [hbk]; rfl) rfl hand2 (by rfl : snapR hp' (.list f true xs) = some (.list f true xs)) hvr
        unfold ownR at hc
        split at hc
        · rename_i l vv off len
          split at hc
          · rename_i esz xs hblk
            split at hc
            · rename_i hcond
              obtain ⟨hvv, hoff, hlen, hall⟩ := hcond
              cases hc
              subst hvv hoff hlen
              right
              refine ⟨esz, xs, rfl, fun slot hfresh => ?_⟩
              have hbl : c'.blk (.h l) = some (.rows true esz xs) := by rw [hbk]; exact hblk
              obtain ⟨a, cap, fz, es, ys, e1, hb1, _, hh⟩ := (FR.r _ _ hvr).own
              rw [hbl] at hb1
              cases hb1
              obtain ⟨_, b, cells, E, frz, ha, hcl, haddr, hcap⟩ := hh rfl
              obtain ⟨b2, cells2, E2, m, ha2, hc2, hpos, hsz, hlm, hfm, hcells⟩ := hr.rows _ _ _ _ hbl
              rw [ha] at ha2
              cases ha2
              rw [hcl] at hc2
              cases hc2
              obtain ⟨hge, hlt⟩ := hr.lt _ _ ha
              refine ⟨b, ?_⟩
              obtain ⟨r1, r2⟩ := h.upd (.h slot) true esz m xs c'.w b cells E hext.os hext.tape hext.output hext.size (fun kk hk _ => hkeep kk hk) (.inr hge) hlt hcl hpos hsz hlm (by simp)
                (fun kk hk fz0 esz0 xs0 hx0 => by cases hk; exact absurd hx0 (hfresh _ _ _))
                (fun i x hx => by
                  obtain ⟨p1, p2⟩ := hcells i x hx
                  refine ⟨p1, fun j s hs => ?_⟩
                  obtain ⟨u, hu, hvu, _⟩ := p2 j s hs
                  have hsc : s.scalar = true := by
                    have := List.all_eq_true.1 hall x (List.mem_of_getElem? hx)
                    simp only [Bool.and_eq_true, List.all_eq_true] at this
                    exact this.2 s (List.mem_of_getElem? hs)
                  exact ⟨u, hu, hvu.scalar hsc⟩)
              refine ⟨r1, r2, ?_⟩
              rw [e1]
              refine .own slot xs.length 0 xs.length a cap true esz xs (by simp [updL]) (Nat.le_refl _) (fun _ => ⟨by omega, b, cells, E, (0, 0), by simp [updL], hcl, haddr, hcap⟩)
            · cases hc
          · cases hc
        · cases hc
          exact hprv _ _ rfl
        · cases hc
          exact hprv _ _ rfl
        · cases hc

end
end Go.Proofs.Ytkafliflpplpeaa.Sim
