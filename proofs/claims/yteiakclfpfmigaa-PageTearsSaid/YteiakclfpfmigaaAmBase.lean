/-
  The abstract machine: plain values, small stores, regions in the order of the text. Definitions alone.
-/
import Derived.Calls
import Derived.LoopN
import Derived.KernelRfl
set_option linter.unusedSimpArgs false
set_option linter.unusedVariables false
namespace Go.Am

/-- A plain cell: no address in it. `sl esz rows`: a slice of constant memory, row by row. -/
inductive PV where
  | b (x : Bool)
  | i (k : IntKind) (n : Int)
  | s (l : List UInt8)
  | sl (esz : Nat) (rows : List (List PV))
  | np
  | nf
  deriving Inhabited

inductive AV where
  | p (c : PV)
  | data (cs : List PV)
  | agg (cs : List AV)
  | tup (vs : List AV)
  | ptr (b off : Nat)
  | cp (cs : List PV) (off : Nat)
  | slr (b i n : Nat)
  | ep (b ext i off : Nat)
  | fn (f : FuncId) (first caps : List AV)
  | unk
  deriving Inhabited

inductive Blk where
  | dead
  | box (cs : List AV)
  | arr (w : Bool) (esz : Nat) (rows : List (List PV))
  deriving Inhabited

abbrev Res := AV × List Blk
abbrev Orc := FuncId → List AV → List Blk → Option Res

structure St where
  env : List (Nat × AV)
  sto : List Blk

def lk (n : Nat) : List (Nat × AV) → Option AV
  | [] => none
  | (m, v) :: r => if n = m then some v else lk n r

/-- A reader of a state: which slots and blocks it reads can be seen. -/
inductive RM (α : Type) where
  | ret (a : α)
  | slot (n : Nat) (k : AV → RM α)
  | blk (b : Nat) (k : Blk → RM α)
  | fail

def RM.bind {α β : Type} : RM α → (α → RM β) → RM β
  | .ret a, f => f a
  | .slot n k, f => .slot n fun v => (k v).bind f
  | .blk b k, f => .blk b fun v => (k v).bind f
  | .fail, _ => .fail

def RM.run {α : Type} : RM α → St → Option α
  | .ret a, _ => some a
  | .slot n k, s => match lk n s.env with
    | some v => (k v).run s
    | none => none
  | .blk b k, s => match s.sto[b]? with
    | some v => (k v).run s
    | none => none
  | .fail, _ => none

inductive Loc where
  | slot (n : Nat)
  | blk (b : Nat)
  deriving DecidableEq

def RM.reads {α : Type} : RM α → St → List Loc
  | .ret _, _ => []
  | .slot n k, s => .slot n :: match lk n s.env with
    | some v => (k v).reads s
    | none => []
  | .blk b k, s => .blk b :: match s.sto[b]? with
    | some v => (k v).reads s
    | none => []
  | .fail, _ => []

def RM.of {α : Type} : Option α → RM α
  | some a => .ret a
  | none => .fail

inductive Opd where
  | t (n : Nat)
  | c (x : AV)
  deriving Inhabited

inductive KD where
  | b
  | i (k : IntKind)
  | s
  deriving DecidableEq

inductive BT where
  | plain
  | bool
  | flat (ks : List KD)
  | nils
  | nilp
  | nilf
  deriving DecidableEq

inductive CK where
  | int (k : IntKind)
  | same
  | toStr
  | toBytes (own : Bool)
  deriving DecidableEq

inductive SK where
  | str
  | sl (esz : Nat)
  deriving DecidableEq

inductive AOp where
  | mv (x : Opd)
  | mkarr (esz : Nat) (x : Opd)
  | pick (c a b : Opd)
  | newbox (zero : List PV)
  | box (size : Nat) (x : Opd)
  | build (zero : List PV) (parts : List (Nat × Nat × Opd))
  | lits (own : Bool) (esz n : Nat) (zero : List PV) (parts : List (Nat × Opd))
  | load (agg : Bool) (size : Nat) (x : Opd)
  | store (size : Nat) (x v : Opd)
  | nilchk (x : Opd)
  | bin (op : BinOp) (t : BT) (x y : Opd)
  | un (op : UnOp) (x : Opd)
  | conv (k : CK) (x : Opd)
  | mkslice (own : Bool) (esz bytes : Nat) (zero : List PV) (l c : Opd)
  | slice (k : SK) (x : Opd) (lo hi mx : Option Opd)
  | faddr (off : Nat) (x : Opd)
  | field (agg : Bool) (off size : Nat) (x : Opd)
  | iaddr (esz : Nat) (x i : Opd)
  | aaddr (len esz : Nat) (x i : Opd)
  | sidx (x i : Opd)
  | aidx (agg : Bool) (len esz : Nat) (x i : Opd)
  | extr (x : Opd) (i : Nat)
  | call (f : FuncId) (args : List Opd) (k : Nat)
  | callv (g : Opd) (args : List Opd) (k : Nat)
  | len (str : Bool) (x : Opd)
  | alen (n : Nat)
  | app (esz bytes : Nat) (zero : List PV) (x y : Opd)
  | appn (esz bytes : Nat) (zero : List PV) (y : Opd)
  | mm (mx : Bool) (x y : Opd)
  | mkfn (f : FuncId) (first caps : List Opd)
  deriving Inhabited

structure AIns where
  op : AOp
  dst : Option Nat
  g : Option (Nat × Bool)
  deriving Inhabited

inductive ACode where
  | skip
  | reg (draw : Bool) (pairs : List (Nat × Nat)) (ins : List AIns)
  | seq (a b : ACode)
  | cond (c : Opd) (a b : ACode)
  | block (id : Nat) (c : ACode)
  | loop (live : List Nat) (c : ACode)
  | lp (n : Nat) (live : List Nat) (c : ACode)
  | scope (c : ACode)
  | exit (id : Nat)
  | ret
  | keep (live : List Nat) (c : ACode)
  | tidy (live : List Nat) (c : ACode)
  | br (live : List Nat) (pre : ACode) (c : Opd) (a b rest : ACode)
  deriving Inhabited

inductive AX where
  | normal
  | exit (id : Nat)
  | ret
  deriving DecidableEq

abbrev Out := AX × St

inductive ARes where
  | tmp (t : Nat)
  | cell (t : Nat) (agg : Bool) (size : Nat)

structure AFn where
  np : Nat
  nt : Nat
  body : ACode
  res : List ARes
  fresh : Bool

abbrev Tab := FuncId → Option AFn

/-- What an operation does: its value, and the blocks that it sets. -/
structure Eff where
  val : AV
  ws : List (Nat × Blk)

def upd (ws : List (Nat × Blk)) (sto : List Blk) : List Blk :=
  ws.foldl (fun s x => s.set x.1 x.2) sto

/-! ### Values -/

def unp : List AV → Option (List PV)
  | [] => some []
  | .p c :: r => match unp r with
    | some l => some (c :: l)
    | none => none
  | _ :: _ => none

/-- The cells of a value that can be stored. -/
def cellsOf : AV → Option (List AV)
  | .p c => some [.p c]
  | .data cs => some (cs.map .p)
  | .agg cs => some cs
  | .ptr b o => some [.ptr b o]
  | .cp cs o => some [.cp cs o]
  | .slr b i n => some [.slr b i n]
  | .ep b e i o => some [.ep b e i o]
  | .fn f a c => some [.fn f a c]
  | .tup _ => none
  | .unk => none

/-- The value of some cells. -/
def ofCells (agg : Bool) (cs : List AV) : Option AV :=
  if agg then
    match unp cs with
    | some l => some (.data l)
    | none => some (.agg cs)
  else match cs with
    | [x] => some x
    | _ => none

def ofPCells (agg : Bool) (cs : List PV) : Option AV :=
  if agg then some (.data cs)
  else match cs with
    | [x] => some (.p x)
    | _ => none

def sub {α : Type} (cs : List α) (off size : Nat) : Option (List α) :=
  if off = 0 ∧ cs.length = size then some cs
  else if off + size ≤ cs.length then some ((cs.drop off).take size) else none

def spl {α : Type} (cs : List α) (off : Nat) (vs : List α) : Option (List α) :=
  if off = 0 ∧ cs.length = vs.length then some vs
  else if off + vs.length ≤ cs.length then some (cs.take off ++ vs ++ cs.drop (off + vs.length)) else none

/-- A value made plain: own arrays in it become constant. The blocks that this sets. -/
def fz : AV → RM (List PV × List (Nat × Blk))
  | .p c => .ret ([c], [])
  | .data cs => .ret (cs, [])
  | .slr b i n => .blk b fun
    | .arr _ esz rows => if i + n = rows.length then .ret ([.sl esz (rows.drop i)], [(b, .arr false esz rows)]) else .fail
    | _ => .fail
  | .agg cs => fzL cs
  | _ => .fail
where
  fzL : List AV → RM (List PV × List (Nat × Blk))
    | [] => .ret ([], [])
    | x :: r => (fz1 x).bind fun a => (fzL r).bind fun c => .ret (a.1 ++ c.1, a.2 ++ c.2)
  fz1 : AV → RM (List PV × List (Nat × Blk))
    | .p c => .ret ([c], [])
    | .slr b i n => .blk b fun
      | .arr _ esz rows => if i + n = rows.length then .ret ([.sl esz (rows.drop i)], [(b, .arr false esz rows)]) else .fail
      | _ => .fail
    | _ => .fail

def cmpP : KD → PV → PV → Option Bool
  | .b, .b x, .b y => some (x == y)
  | .i k, .i k' x, .i k'' y => if k = k' ∧ k = k'' then some (x == y) else none
  | .s, .s x, .s y => some (x == y)
  | _, _, _ => none

def cmpL : List KD → List PV → List PV → Option Bool
  | [], [], [] => some true
  | k :: ks, x :: xs, y :: ys => match cmpP k x y, cmpL ks xs ys with
    | some a, some c => some (a && c)
    | _, _ => none
  | _, _, _ => none

def shiftP (op : BinOp) (k : IntKind) (x y : Int) : Option PV :=
  if y < 0 then none
  else match op with
    | .shl => some (.i k (k.wrap (x * 2 ^ (min y.toNat k.bits))))
    | .shr => some (.i k (x.fdiv (2 ^ (min y.toNat k.bits))))
    | _ => none

def intP (op : BinOp) (k : IntKind) (x y : Int) : Option PV :=
  match op with
  | .add => some (.i k (k.wrap (x + y)))
  | .sub => some (.i k (k.wrap (x - y)))
  | .mul => some (.i k (k.wrap (x * y)))
  | .quo => if y = 0 then none else some (.i k (k.wrap (x.tdiv y)))
  | .rem => if y = 0 then none else some (.i k (x.tmod y))
  | .and => some (.i k (k.wrap (BitVec.ofInt k.bits x &&& BitVec.ofInt k.bits y).toNat))
  | .or => some (.i k (k.wrap (BitVec.ofInt k.bits x ||| BitVec.ofInt k.bits y).toNat))
  | .xor => some (.i k (k.wrap (BitVec.ofInt k.bits x ^^^ BitVec.ofInt k.bits y).toNat))
  | .eql => some (.b (x == y))
  | .neq => some (.b (x != y))
  | .lss => some (.b (decide (x < y)))
  | .leq => some (.b (decide (x ≤ y)))
  | .gtr => some (.b (decide (x > y)))
  | .geq => some (.b (decide (x ≥ y)))
  | _ => none

def strP (op : BinOp) (x y : List UInt8) : Option PV :=
  match op with
  | .add => if x.length + y.length ≤ 4611686018427387904 then some (.s (x ++ y)) else none
  | .eql => some (.b (x == y))
  | .neq => some (.b (!(x == y)))
  | .lss => some (.b (Op.bytesLess x y))
  | .leq => some (.b (Op.bytesLess x y || x == y))
  | .gtr => some (.b (!(Op.bytesLess x y || x == y)))
  | .geq => some (.b (!Op.bytesLess x y))
  | _ => none

def negB (op : BinOp) (r : Option Bool) : Option AV :=
  match op, r with
  | .eql, some x => some (.p (.b x))
  | .neq, some x => some (.p (.b (!x)))
  | _, _ => none

def negU : BinOp → Option AV
  | .eql => some .unk
  | .neq => some .unk
  | _ => none

def binP (op : BinOp) (t : BT) (x y : AV) : Option AV :=
  match t with
  | .plain => match x, y with
    | .p (.i k a), .p (.i k' c) => match op with
      | .shl => (shiftP .shl k a c).map .p
      | .shr => (shiftP .shr k a c).map .p
      | _ => if k = k' then (intP op k a c).map .p else none
    | .p (.s a), .p (.s c) => (strP op a c).map .p
    | _, _ => none
  | .bool => match x, y with
    | .p (.b a), .p (.b c) => negB op (some (a == c))
    | _, _ => none
  | .flat ks => match x, y with
    | .data a, .data c => negB op (cmpL ks a c)
    | _, _ => none
  | .nils => match x with
    | .p (.sl _ rows) => match rows with
      | [] => negU op
      | _ :: _ => negB op (some false)
    | .slr _ _ n => if n = 0 then negU op else negB op (some false)
    | _ => none
  | .nilp => match x with
    | .p .np => negB op (some true)
    | .ptr _ _ => negB op (some false)
    | .cp _ _ => negB op (some false)
    | .ep _ _ _ _ => negB op (some false)
    | _ => none
  | .nilf => match x with
    | .p .nf => negB op (some true)
    | .fn _ _ _ => negB op (some false)
    | _ => none

def unP (op : UnOp) (x : AV) : Option AV :=
  match op, x with
  | .neg, .p (.i k n) => some (.p (.i k (k.wrap (0 - n))))
  | .xor, .p (.i k n) => some (.p (.i k (k.wrap (BitVec.ofInt k.bits (if k.signed then -1 else k.max) ^^^ BitVec.ofInt k.bits n).toNat)))
  | .not, .p (.b x) => some (.p (.b (!x)))
  | .not, .unk => some .unk
  | _, _ => none

/-- The bytes of rows of one number each. -/
def bytesOf : List (List PV) → Option (List UInt8)
  | [] => some []
  | [.i .u8 n] :: r => match bytesOf r with
    | some l => some (UInt8.ofNat n.toNat :: l)
    | none => none
  | _ :: _ => none

def byteRow (x : UInt8) : List PV := [.i .u8 x.toNat]

def placeAll (esz : Nat) : List (Nat × List PV) → List (List PV) → Option (List (List PV))
  | [], rows => some rows
  | (i, c) :: r, rows => if c.length = esz ∧ i < rows.length then placeAll esz r (rows.set i c) else none

def fillAll : List (Nat × Nat × List AV) → List AV → Option (List AV)
  | [], cs => some cs
  | (off, size, c) :: r, cs =>
    if c.length = size then
      match spl cs off c with
      | some cs' => fillAll r cs'
      | none => none
    else none

/-! ### Operations -/

def ev : Opd → RM AV
  | .t n => .slot n .ret
  | .c x => .ret x

def evs : List Opd → RM (List AV)
  | [] => .ret []
  | x :: r => (ev x).bind fun v => (evs r).bind fun vs => .ret (v :: vs)

def val (x : Option AV) : RM Eff :=
  match x with
  | some v => .ret ⟨v, []⟩
  | none => .fail

/-- Operands made plain. -/
def fzs : List Opd → RM (List (List PV) × List (Nat × Blk))
  | [] => .ret ([], [])
  | x :: r => (ev x).bind fun v => (fz v).bind fun a => (fzs r).bind fun c => .ret (a.1 :: c.1, a.2 ++ c.2)

def boundOf (x : Option AV) (top dflt : Nat) : Option Nat :=
  match x with
  | none => some dflt
  | some (.p (.i _ n)) => if 0 ≤ n ∧ n ≤ top then some n.toNat else none
  | some _ => none

def evo : Option Opd → RM (Option AV)
  | none => .ret none
  | some x => (ev x).bind fun v => .ret (some v)

def cutN (n : Nat) (lo hi : Option AV) : Option (Nat × Nat) :=
  match boundOf hi n n with
  | none => none
  | some h => match boundOf lo h 0 with
    | none => none
    | some l => some (l, h)

def sliceS (x : AV) (lo hi : Option AV) : Option AV :=
  match x with
  | .p (.s l) => match cutN l.length lo hi with
    | some c => some (.p (.s ((l.drop c.1).take (c.2 - c.1))))
    | none => none
  | _ => none

def sliceL (esz : Nat) (x : AV) (lo hi : Option AV) : Option AV :=
  match x with
  | .p (.sl esz' rows) => if esz = esz' then
      match cutN rows.length lo hi with
      | some c => some (.p (.sl esz ((rows.drop c.1).take (c.2 - c.1))))
      | none => none
    else none
  | _ => none

def sliceP (k : SK) (x : AV) (lo hi mx : Option AV) : Option AV :=
  match mx with
  | some _ => none
  | none => match k with
    | .str => sliceS x lo hi
    | .sl esz => sliceL esz x lo hi

def rowAt (rows : List (List PV)) (n : Int) : Option (List PV) :=
  if 0 ≤ n then rows[n.toNat]? else none

def iaddrR (esz : Nat) (x : AV) (i : AV) : RM Eff :=
  match x, i with
  | .p (.sl esz' rows), .p (.i _ n) =>
    if esz = esz' then
      match rowAt rows n with
      | some row => .ret ⟨.cp row 0, []⟩
      | none => .fail
    else .fail
  | .slr b j m, .p (.i _ n) => .blk b fun
    | .arr _ esz' rows => if esz = esz' ∧ j + m = rows.length ∧ 0 ≤ n ∧ n < m then .ret ⟨.ep b rows.length (j + n.toNat) 0, []⟩ else .fail
    | _ => .fail
  | _, _ => .fail

def aaddrP (len esz : Nat) (x i : AV) : Option AV :=
  match i with
  | .p (.i _ n) =>
    if 0 ≤ n ∧ n < len then
      match x with
      | .ptr b off => some (.ptr b (off + n.toNat * esz))
      | .cp cs off => some (.cp cs (off + n.toNat * esz))
      | .ep b e j off => some (.ep b e j (off + n.toNat * esz))
      | _ => none
    else none
  | _ => none

def faddrP (off : Nat) : AV → Option AV
  | .ptr b o => some (.ptr b (o + off))
  | .cp cs o => some (.cp cs (o + off))
  | .ep b e j o => some (.ep b e j (o + off))
  | _ => none

def loadR (agg : Bool) (size : Nat) : AV → RM Eff
  | .cp cs off => match sub cs off size with
    | some l => val (ofPCells agg l)
    | none => .fail
  | .ptr b off => .blk b fun
    | .box cs => match sub cs off size with
      | some l => val (ofCells agg l)
      | none => .fail
    | _ => .fail
  | .ep b ext i off => .blk b fun
    | .arr _ _ rows => if ext = rows.length then
        match rows[i]? with
        | some row => match sub row off size with
          | some l => val (ofPCells agg l)
          | none => .fail
        | none => .fail
      else .fail
    | _ => .fail
  | _ => .fail

def undefV : AV := .tup []

def storeR (size : Nat) (x v : AV) : RM Eff :=
  match x with
  | .ptr b off => .blk b fun
    | .box cs => match cellsOf v with
      | some l => if l.length = size then
          match spl cs off l with
          | some cs' => .ret ⟨undefV, [(b, .box cs')]⟩
          | none => .fail
        else .fail
      | none => .fail
    | _ => .fail
  | .ep b ext i off => .blk b fun
    | .arr true esz rows => if ext = rows.length then
        match rows[i]? with
        | some row => (fz v).bind fun a =>
          if a.1.length = size ∧ (a.2.all fun y => y.1 != b) then
            match spl row off a.1 with
            | some row' => .ret ⟨undefV, a.2 ++ [(b, .arr true esz (rows.set i row'))]⟩
            | none => .fail
          else .fail
        | none => .fail
      else .fail
    | _ => .fail
  | _ => .fail

def fieldP (agg : Bool) (off size : Nat) : AV → Option AV
  | .data cs => match sub cs off size with
    | some l => ofPCells agg l
    | none => none
  | .agg cs => match sub cs off size with
    | some l => ofCells agg l
    | none => none
  | _ => none

def extrP (i : Nat) : AV → Option AV
  | .tup vs => vs[i]?
  | _ => none

def lenP : Bool → AV → Option AV
  | true, .p (.s l) => some (.p (.i .i64 l.length))
  | false, .p (.sl _ rows) => some (.p (.i .i64 rows.length))
  | false, .slr _ _ n => some (.p (.i .i64 n))
  | _, _ => none

/-- The rows that are appended. -/
def rowsOf (esz : Nat) : AV → RM (List (List PV))
  | .p (.sl esz' rows) => if esz = esz' then .ret rows else .fail
  | .p (.s l) => if esz = 1 then .ret (l.map byteRow) else .fail
  | .slr b i n => .blk b fun
    | .arr _ esz' rows => if esz = esz' ∧ i + n = rows.length then .ret (rows.drop i) else .fail
    | _ => .fail
  | _ => .fail

def roomy (n bytes : Nat) : Bool := (2 * n + 512) * bytes ≤ 281474976710656

def appR (esz bytes : Nat) (x y : AV) : RM Eff :=
  match x with
  | .slr b i n => .blk b fun
    | .arr w esz' rows => (rowsOf esz y).bind fun new =>
      if esz = esz' ∧ i = 0 ∧ n = rows.length ∧ roomy (n + new.length) bytes then
        .ret ⟨.slr b 0 (n + new.length), [(b, .arr w esz (rows ++ new))]⟩
      else .fail
    | _ => .fail
  | _ => .fail

def mmP (mx : Bool) (x y : AV) : Option AV :=
  match x, y with
  | .p (.i k a), .p (.i _ c) => some (.p (.i k (if mx then (if c > a then c else a) else (if c < a then c else a))))
  | _, _ => none

/-! ### Calls -/

inductive Ent where
  | whole (b : Nat)
  | elem (b ext i : Nat)
  deriving DecidableEq

def Ent.id : Ent → Nat
  | .whole b => b
  | .elem b _ _ => b

def addEnt (e : Ent) (l : List Ent) : List Ent := if l.any (fun x => x == e) then l else l ++ [e]

/-- The blocks that a value names. -/
def entsOf : AV → List Ent → List Ent
  | .ptr b _, l => addEnt (.whole b) l
  | .slr b _ _, l => addEnt (.whole b) l
  | .ep b e i _, l => addEnt (.elem b e i) l
  | .fn _ first caps, l => entsOfL caps (entsOfL first l)
  | .agg cs, l => entsOfL cs l
  | .tup cs, l => entsOfL cs l
  | _, l => l
where
  entsOfL : List AV → List Ent → List Ent
    | [], l => l
    | x :: r, l => entsOfL r (entsOf x l)

def entAt (e : Ent) : List Ent → Nat → Option Nat
  | [], _ => none
  | x :: r, k => if x = e then some k else entAt e r (k + 1)

/-- A value with its blocks renamed, by a map of some of what it names. -/
def ren (ρ : Ent → Option Nat) : AV → Option AV
  | .p c => some (.p c)
  | .data cs => some (.data cs)
  | .cp cs o => some (.cp cs o)
  | .unk => some .unk
  | .ptr b off => (ρ (.whole b)).map fun k => .ptr k off
  | .ep b e i off => (ρ (.elem b e i)).map fun k => .ptr k off
  | .slr b i n => (ρ (.whole b)).map fun k => .slr k i n
  | .fn f first caps => (renL ρ first).bind fun a => (renL ρ caps).map fun c => .fn f a c
  | .agg cs => (renL ρ cs).map .agg
  | .tup cs => (renL ρ cs).map .tup
where
  renL (ρ : Ent → Option Nat) : List AV → Option (List AV)
    | [] => some []
    | x :: r => match ren ρ x, renL ρ r with
      | some y, some l => some (y :: l)
      | _, _ => none

end Go.Am
