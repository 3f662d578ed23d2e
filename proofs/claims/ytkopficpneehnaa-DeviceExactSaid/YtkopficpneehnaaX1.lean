/-
  Parts of a proof.
-/
import Derived.Calls
import Derived.LoopN
import Derived.KernelRfl
import Derived.Laws.Sem
import Derived.Laws.StructEq
import Derived.Laws.Cells
import Derived.Laws.Cover3
import Derived.Laws.Pointers
import Derived.Deep.AppendSrc
import Derived.Laws.MakeOwn
import Derived.Laws.BytesString
set_option linter.unusedSimpArgs false
set_option linter.unusedVariables false
section
namespace Go.Am
inductive PV where
 | b (x : Bool)
 | i (k : IntKind) (n : Int)
 | s (l : List UInt8)
 | sl (esz : Nat) (rows : List (List PV))
 | np
 | nf
 | slc (esz : Nat) (rows : List (List PV))
 deriving Inhabited
inductive AV where
 | p (c : PV)
 | data (cs : List PV)
 | agg (cs : List AV)
 | tup (vs : List AV)
 | ptr (b off : Nat)
 | cp (cs : List PV) (off : Nat)
 | slr (b i n : Nat)
 | ep (b ext i off : Nat)
 | fn (f : FuncId) (first caps : List AV)
 | unk
 deriving Inhabited
inductive Blk where
 | dead
 | box (cs : List AV)
 | arr (w : Bool) (esz : Nat) (rows : List (List PV))
 deriving Inhabited
abbrev Res := AV × List Blk
abbrev Orc := FuncId → List AV → List Blk → Option Res
structure St where
 env : List (Nat × AV)
 sto : List Blk
def lk (n : Nat) : List (Nat × AV) → Option AV
 | [] => none
 | (m, v) :: r => if n = m then some v else lk n r
inductive RM (α : Type) where
 | ret (a : α)
 | slot (n : Nat) (k : AV → RM α)
 | blk (b : Nat) (k : Blk → RM α)
 | fail
def RM.bind {α β : Type} : RM α → (α → RM β) → RM β
 | .ret a, f => f a
 | .slot n k, f => .slot n fun v => (k v).bind f
 | .blk b k, f => .blk b fun v => (k v).bind f
 | .fail, _ => .fail
def RM.run {α : Type} : RM α → St → Option α
 | .ret a, _ => some a
 | .slot n k, s => match lk n s.env with
  | some v => (k v).run s
  | none => none
 | .blk b k, s => match s.sto[b]? with
  | some v => (k v).run s
  | none => none
 | .fail, _ => none
inductive Loc where
 | slot (n : Nat)
 | blk (b : Nat)
 deriving DecidableEq
def RM.reads {α : Type} : RM α → St → List Loc
 | .ret _, _ => []
 | .slot n k, s => .slot n :: match lk n s.env with
  | some v => (k v).reads s
  | none => []
 | .blk b k, s => .blk b :: match s.sto[b]? with
  | some v => (k v).reads s
  | none => []
 | .fail, _ => []
def RM.of {α : Type} : Option α → RM α
 | some a => .ret a
 | none => .fail
inductive Opd where
 | t (n : Nat)
 | c (x : AV)
 deriving Inhabited
inductive KD where
 | b
 | i (k : IntKind)
 | s
 deriving DecidableEq
inductive BT where
 | plain
 | bool
 | flat (ks : List KD)
 | nils
 | nilp
 | nilf
 deriving DecidableEq
inductive CK where
 | int (k : IntKind)
 | same
 | toStr
 | toBytes (own : Bool)
 deriving DecidableEq
inductive SK where
 | str
 | sl (esz : Nat)
 deriving DecidableEq
inductive AOp where
 | mv (x : Opd)
 | mkarr (esz : Nat) (x : Opd)
 | pick (c a b : Opd)
 | newbox (zero : List PV)
 | box (size : Nat) (x : Opd)
 | build (zero : List PV) (parts : List (Nat × Nat × Opd))
 | lits (own : Bool) (esz n : Nat) (zero : List PV) (parts : List (Nat × Opd))
 | load (agg : Bool) (size : Nat) (x : Opd)
 | store (size : Nat) (x v : Opd)
 | nilchk (x : Opd)
 | bin (op : BinOp) (t : BT) (x y : Opd)
 | un (op : UnOp) (x : Opd)
 | conv (k : CK) (x : Opd)
 | mkslice (own : Bool) (esz bytes : Nat) (zero : List PV) (l c : Opd)
 | slice (k : SK) (x : Opd) (lo hi mx : Option Opd)
 | faddr (off : Nat) (x : Opd)
 | field (agg : Bool) (off size : Nat) (x : Opd)
 | iaddr (esz : Nat) (x i : Opd)
 | aaddr (len esz : Nat) (x i : Opd)
 | sidx (x i : Opd)
 | aidx (agg : Bool) (len esz : Nat) (x i : Opd)
 | extr (x : Opd) (i : Nat)
 | call (f : FuncId) (args : List Opd) (k : Nat)
 | callv (g : Opd) (args : List Opd) (k : Nat)
 | len (str : Bool) (x : Opd)
 | alen (n : Nat)
 | app (esz bytes : Nat) (zero : List PV) (x y : Opd)
 | appn (esz bytes : Nat) (zero : List PV) (y : Opd)
 | appz (esz bytes : Nat) (zero : List PV) (x y : Opd)
 | appc (esz bytes : Nat) (zero : List PV) (x y : Opd)
 | mm (mx : Bool) (x y : Opd)
 | mkfn (f : FuncId) (first caps : List Opd)
 | newboxo (zero : List PV) (os : List (Nat × Nat))
 | buildo (zero : List PV) (parts : List (Nat × Nat × Opd)) (os : List (Nat × Nat))
 | storen (esz : Nat) (x : Opd)
 | callo (f : FuncId) (keep : List Bool) (args : List Opd) (k : Nat)
 deriving Inhabited
structure J0E where
 op : AOp
 dst : Option Nat
 g : Option (Nat × Bool)
 deriving Inhabited
inductive J07 where
 | skip
 | bad
 | reg (draw : Bool) (pairs : List (Nat × Nat)) (ins : List J0E)
 | seq (a b : J07)
 | cond (c : Opd) (a b : J07)
 | block (id : Nat) (c : J07)
 | loop (live : List Nat) (c : J07)
 | lp (n : Nat) (live : List Nat) (c : J07)
 | scope (c : J07)
 | exit (id : Nat)
 | ret
 | keep (live : List Nat) (c : J07)
 | tidy (live : List Nat) (c : J07)
 | br (live : List Nat) (pre : J07) (c : Opd) (a b rest : J07)
 deriving Inhabited
inductive AX where
 | normal
 | exit (id : Nat)
 | ret
 deriving DecidableEq
abbrev Out := AX × St
inductive Jc8 where
 | tmp (t : Nat)
 | cell (t : Nat) (agg : Bool) (size : Nat)
structure AFn where
 np : Nat
 nt : Nat
 body : J07
 res : List Jc8
 fresh : Bool
structure Eff where
 val : AV
 ws : List (Nat × Blk)
def upd (ws : List (Nat × Blk)) (sto : List Blk) : List Blk :=
 ws.foldl (fun s x => s.set x.1 x.2) sto
def unp : List AV → Option (List PV)
 | [] => some []
 | .p c :: r => match unp r with
  | some l => some (c :: l)
  | none => none
 | _ :: _ => none
def cellsOf : AV → Option (List AV)
 | .p c => some [.p c]
 | .data cs => some (cs.map .p)
 | .agg cs => some cs
 | .ptr b o => some [.ptr b o]
 | .cp cs o => some [.cp cs o]
 | .slr b i n => some [.slr b i n]
 | .ep b e i o => some [.ep b e i o]
 | .fn f a c => some [.fn f a c]
 | .tup _ => none
 | .unk => none
def J2y (agg : Bool) (cs : List AV) : Option AV :=
 if agg then
  match unp cs with
  | some l => some (.data l)
  | none => some (.agg cs)
 else match cs with
  | [x] => some x
  | _ => none
def J31 (agg : Bool) (cs : List PV) : Option AV :=
 if agg then some (.data cs)
 else match cs with
  | [x] => some (.p x)
  | _ => none
def sub {α : Type} (cs : List α) (off size : Nat) : Option (List α) :=
 if off = 0 ∧ cs.length = size then some cs
 else if off + size ≤ cs.length then some ((cs.drop off).take size) else none
def spl {α : Type} (cs : List α) (off : Nat) (vs : List α) : Option (List α) :=
 if off = 0 ∧ cs.length = vs.length then some vs
 else if off + vs.length ≤ cs.length then some (cs.take off ++ vs ++ cs.drop (off + vs.length)) else none
def fz : AV → RM (List PV × List (Nat × Blk))
 | .p c => .ret ([c], [])
 | .data cs => .ret (cs, [])
 | .slr b i n => .blk b fun
  | .arr _ esz rows => if i + n = rows.length then .ret ([.sl esz (rows.drop i)], [(b, .arr false esz rows)]) else .fail
  | _ => .fail
 | .agg cs => fzL cs
 | _ => .fail
where
 fzL : List AV → RM (List PV × List (Nat × Blk))
  | [] => .ret ([], [])
  | x :: r => (fz1 x).bind fun a => (fzL r).bind fun c => .ret (a.1 ++ c.1, a.2 ++ c.2)
 fz1 : AV → RM (List PV × List (Nat × Blk))
  | .p c => .ret ([c], [])
  | .slr b i n => .blk b fun
   | .arr _ esz rows => if i + n = rows.length then .ret ([.sl esz (rows.drop i)], [(b, .arr false esz rows)]) else .fail
   | _ => .fail
  | _ => .fail
def JaY : KD → PV → PV → Option Bool
 | .b, .b x, .b y => some (x == y)
 | .i k, .i k' x, .i k'' y => if k = k' ∧ k = k'' then some (x == y) else none
 | .s, .s x, .s y => some (x == y)
 | _, _, _ => none
def J0L : List KD → List PV → List PV → Option Bool
 | [], [], [] => some true
 | k :: ks, x :: xs, y :: ys => match JaY k x y, J0L ks xs ys with
  | some a, some c => some (a && c)
  | _, _ => none
 | _, _, _ => none
def J9o (op : BinOp) (k : IntKind) (x y : Int) : Option PV :=
 if y < 0 then none
 else match op with
  | .shl => some (.i k (k.wrap (x * 2 ^ (min y.toNat k.bits))))
  | .shr => some (.i k (x.fdiv (2 ^ (min y.toNat k.bits))))
  | _ => none
def Jds (op : BinOp) (k : IntKind) (x y : Int) : Option PV :=
 match op with
 | .add => some (.i k (k.wrap (x + y)))
 | .sub => some (.i k (k.wrap (x - y)))
 | .mul => some (.i k (k.wrap (x * y)))
 | .quo => if y = 0 then none else some (.i k (k.wrap (x.tdiv y)))
 | .rem => if y = 0 then none else some (.i k (x.tmod y))
 | .and => some (.i k (k.wrap (BitVec.ofInt k.bits x &&& BitVec.ofInt k.bits y).toNat))
 | .or => some (.i k (k.wrap (BitVec.ofInt k.bits x ||| BitVec.ofInt k.bits y).toNat))
 | .xor => some (.i k (k.wrap (BitVec.ofInt k.bits x ^^^ BitVec.ofInt k.bits y).toNat))
 | .eql => some (.b (x == y))
 | .neq => some (.b (x != y))
 | .lss => some (.b (decide (x < y)))
 | .leq => some (.b (decide (x ≤ y)))
 | .gtr => some (.b (decide (x > y)))
 | .geq => some (.b (decide (x ≥ y)))
 | _ => none
def Jdw (op : BinOp) (x y : List UInt8) : Option PV :=
 match op with
 | .add => if x.length + y.length ≤ 4611686018427387904 then some (.s (x ++ y)) else none
 | .eql => some (.b (x == y))
 | .neq => some (.b (!(x == y)))
 | .lss => some (.b (Op.bytesLess x y))
 | .leq => some (.b (Op.bytesLess x y || x == y))
 | .gtr => some (.b (!(Op.bytesLess x y || x == y)))
 | .geq => some (.b (!Op.bytesLess x y))
 | _ => none
def J62 (op : BinOp) (r : Option Bool) : Option AV :=
 match op, r with
 | .eql, some x => some (.p (.b x))
 | .neq, some x => some (.p (.b (!x)))
 | _, _ => none
def Jin : BinOp → Option AV
 | .eql => some .unk
 | .neq => some .unk
 | _ => none
def J8j (op : BinOp) (t : BT) (x y : AV) : Option AV :=
 match t with
 | .plain => match x, y with
  | .p (.i k a), .p (.i k' c) => match op with
   | .shl => (J9o .shl k a c).map .p
   | .shr => (J9o .shr k a c).map .p
   | _ => if k = k' then (Jds op k a c).map .p else none
  | .p (.s a), .p (.s c) => (Jdw op a c).map .p
  | _, _ => none
 | .bool => match x, y with
  | .p (.b a), .p (.b c) => J62 op (some (a == c))
  | _, _ => none
 | .flat ks => match x, y with
  | .data a, .data c => J62 op (J0L ks a c)
  | _, _ => none
 | .nils => match x with
  | .p (.sl _ rows) => match rows with
   | [] => Jin op
   | _ :: _ => J62 op (some false)
  | .slr _ _ n => if n = 0 then Jin op else J62 op (some false)
  | _ => none
 | .nilp => match x with
  | .p .np => J62 op (some true)
  | .ptr _ _ => J62 op (some false)
  | .cp _ _ => J62 op (some false)
  | .ep _ _ _ _ => J62 op (some false)
  | _ => none
 | .nilf => match x with
  | .p .nf => J62 op (some true)
  | .fn _ _ _ => J62 op (some false)
  | _ => none
def unP (op : UnOp) (x : AV) : Option AV :=
 match op, x with
 | .neg, .p (.i k n) => some (.p (.i k (k.wrap (0 - n))))
 | .xor, .p (.i k n) => some (.p (.i k (k.wrap (BitVec.ofInt k.bits (if k.signed then -1 else k.max) ^^^ BitVec.ofInt k.bits n).toNat)))
 | .not, .p (.b x) => some (.p (.b (!x)))
 | .not, .unk => some .unk
 | _, _ => none
def J60 : List (List PV) → Option (List UInt8)
 | [] => some []
 | [.i .u8 n] :: r => match J60 r with
  | some l => some (UInt8.ofNat n.toNat :: l)
  | none => none
 | _ :: _ => none
def J2U (x : UInt8) : List PV := [.i .u8 x.toNat]
def J5q (esz : Nat) : List (Nat × List PV) → List (List PV) → Option (List (List PV))
 | [], rows => some rows
 | (i, c) :: r, rows => if c.length = esz ∧ i < rows.length then J5q esz r (rows.set i c) else none
def J4v : List (Nat × Nat × List AV) → List AV → Option (List AV)
 | [], cs => some cs
 | (off, size, c) :: r, cs =>
  if c.length = size then
   match spl cs off c with
   | some cs' => J4v r cs'
   | none => none
  else none
def ev : Opd → RM AV
 | .t n => .slot n .ret
 | .c x => .ret x
def evs : List Opd → RM (List AV)
 | [] => .ret []
 | x :: r => (ev x).bind fun v => (evs r).bind fun vs => .ret (v :: vs)
def val (x : Option AV) : RM Eff :=
 match x with
 | some v => .ret ⟨v, []⟩
 | none => .fail
def fzs : List Opd → RM (List (List PV) × List (Nat × Blk))
 | [] => .ret ([], [])
 | x :: r => (ev x).bind fun v => (fz v).bind fun a => (fzs r).bind fun c => .ret (a.1 :: c.1, a.2 ++ c.2)
def J4u (x : Option AV) (top dflt : Nat) : Option Nat :=
 match x with
 | none => some dflt
 | some (.p (.i _ n)) => if 0 ≤ n ∧ n ≤ top then some n.toNat else none
 | some _ => none
def evo : Option Opd → RM (Option AV)
 | none => .ret none
 | some x => (ev x).bind fun v => .ret (some v)
def JbQ (n : Nat) (lo hi : Option AV) : Option (Nat × Nat) :=
 match J4u hi n n with
 | none => none
 | some h => match J4u lo h 0 with
  | none => none
  | some l => some (l, h)
def J8b (x : AV) (lo hi : Option AV) : Option AV :=
 match x with
 | .p (.s l) => match JbQ l.length lo hi with
  | some c => some (.p (.s ((l.drop c.1).take (c.2 - c.1))))
  | none => none
 | _ => none
def J8c (esz : Nat) (x : AV) (lo hi : Option AV) : Option AV :=
 match x with
 | .p (.sl esz' rows) => if esz = esz' then
   match JbQ rows.length lo hi with
   | some c => some (.p (.sl esz ((rows.drop c.1).take (c.2 - c.1))))
   | none => none
  else none
 | _ => none
def Jij (esz : Nat) (x : AV) (lo hi : Option AV) (m : AV) : Option AV :=
 match x, lo, hi, m with
 | .p (.sl esz' rows), none, some (.p (.i _ h)), .p (.i _ n) => if esz = esz' ∧ h = rows.length ∧ n = rows.length then some (.p (.slc esz rows)) else none
 | _, _, _, _ => none
def J3v (k : SK) (x : AV) (lo hi mx : Option AV) : Option AV :=
 match mx with
 | some m => match k with
  | .str => none
  | .sl esz => Jij esz x lo hi m
 | none => match k with
  | .str => J8b x lo hi
  | .sl esz => J8c esz x lo hi
def Jft (rows : List (List PV)) (n : Int) : Option (List PV) :=
 if 0 ≤ n then rows[n.toNat]? else none
def J4A (esz : Nat) (x i : AV) : RM Eff :=
 match x, i with
 | .p (.sl esz' rows), .p (.i _ n) =>
  if esz = esz' then
   match Jft rows n with
   | some row => .ret ⟨.cp row 0, []⟩
   | none => .fail
  else .fail
 | .slr b j m, .p (.i _ n) => .blk b fun
  | .arr _ esz' rows => if esz = esz' ∧ j + m = rows.length ∧ 0 ≤ n ∧ n < m then .ret ⟨.ep b rows.length (j + n.toNat) 0, []⟩ else .fail
  | _ => .fail
 | _, _ => .fail
def JbS (len esz : Nat) (x i : AV) : Option AV :=
 match i with
 | .p (.i _ n) =>
  if 0 ≤ n ∧ n < len then
   match x with
   | .ptr b off => some (.ptr b (off + n.toNat * esz))
   | .cp cs off => some (.cp cs (off + n.toNat * esz))
   | .ep b e j off => some (.ep b e j (off + n.toNat * esz))
   | _ => none
  else none
 | _ => none
def Jcw (off : Nat) : AV → Option AV
 | .ptr b o => some (.ptr b (o + off))
 | .cp cs o => some (.cp cs (o + off))
 | .ep b e j o => some (.ep b e j (o + off))
 | _ => none
def J2V (agg : Bool) (size : Nat) : AV → RM Eff
 | .cp cs off => match sub cs off size with
  | some l => val (J31 agg l)
  | none => .fail
 | .ptr b off => .blk b fun
  | .box cs => match sub cs off size with
   | some l => val (J2y agg l)
   | none => .fail
  | _ => .fail
 | .ep b ext i off => .blk b fun
  | .arr _ _ rows => if ext = rows.length then
    match rows[i]? with
    | some row => match sub row off size with
     | some l => val (J31 agg l)
     | none => .fail
    | none => .fail
   else .fail
  | _ => .fail
 | _ => .fail
def J1d : AV := .tup []
def J2G (size : Nat) (x v : AV) : RM Eff :=
 match x with
 | .ptr b off => .blk b fun
  | .box cs => match cellsOf v with
   | some l => if l.length = size then
     match spl cs off l with
     | some cs' => .ret ⟨J1d, [(b, .box cs')]⟩
     | none => .fail
    else .fail
   | none => .fail
  | _ => .fail
 | .ep b ext i off => .blk b fun
  | .arr true esz rows => if ext = rows.length then
    match rows[i]? with
    | some row => (fz v).bind fun a =>
     if a.1.length = size ∧ (a.2.all fun y => y.1 != b) then
      match spl row off a.1 with
      | some row' => .ret ⟨J1d, a.2 ++ [(b, .arr true esz (rows.set i row'))]⟩
      | none => .fail
     else .fail
    | none => .fail
   else .fail
  | _ => .fail
 | _ => .fail
def J6n (agg : Bool) (off size : Nat) : AV → Option AV
 | .data cs => match sub cs off size with
  | some l => J31 agg l
  | none => none
 | .agg cs => match sub cs off size with
  | some l => J2y agg l
  | none => none
 | _ => none
def Jfs (i : Nat) : AV → Option AV
 | .tup vs => vs[i]?
 | _ => none
def Jge : Bool → AV → Option AV
 | true, .p (.s l) => some (.p (.i .i64 l.length))
 | false, .p (.sl _ rows) => some (.p (.i .i64 rows.length))
 | false, .slr _ _ n => some (.p (.i .i64 n))
 | _, _ => none
def J1D (esz : Nat) : AV → RM (List (List PV))
 | .p (.sl esz' rows) => if esz = esz' then .ret rows else .fail
 | .p (.s l) => if esz = 1 then .ret (l.map J2U) else .fail
 | .slr b i n => .blk b fun
  | .arr _ esz' rows => if esz = esz' ∧ i + n = rows.length then .ret (rows.drop i) else .fail
  | _ => .fail
 | _ => .fail
def J1e (n bytes : Nat) : Bool := (2 * n + 512) * bytes ≤ 281474976710656
def J5D (esz bytes : Nat) (x y : AV) : RM Eff :=
 match x with
 | .slr b i n => .blk b fun
  | .arr w esz' rows => (J1D esz y).bind fun new =>
   if esz = esz' ∧ i = 0 ∧ n = rows.length ∧ J1e (n + new.length) bytes then
    .ret ⟨.slr b 0 (n + new.length), [(b, .arr w esz (rows ++ new))]⟩
   else .fail
  | _ => .fail
 | _ => .fail
def JjA (esz bytes : Nat) (x y : AV) (new : Nat) : RM Eff :=
 match x with
 | .p (.slc esz' rows) => (J1D esz y).bind fun add =>
   if esz = esz' ∧ 0 < add.length ∧ J1e (rows.length + add.length) bytes then
    .ret ⟨.slr new 0 (rows.length + add.length), [(new, .arr true esz (rows ++ add))]⟩
   else .fail
 | _ => .fail
def zrs (esz : Nat) (zero : List PV) : AV → Option AV
 | .p (.i _ n) => if 0 ≤ n then some (.p (.sl esz (List.replicate n.toNat zero))) else none
 | _ => none
def mmP (mx : Bool) (x y : AV) : Option AV :=
 match x, y with
 | .p (.i k a), .p (.i _ c) => some (.p (.i k (if mx then (if c > a then c else a) else (if c < a then c else a))))
 | _, _ => none
inductive Ent where
 | whole (b : Nat)
 | elem (b ext i : Nat)
 deriving DecidableEq
def Ent.id : Ent → Nat
 | .whole b => b
 | .elem b _ _ => b
def J8a (e : Ent) (l : List Ent) : List Ent := if l.any (fun x => x == e) then l else l ++ [e]
def JW : AV → List Ent → List Ent
 | .ptr b _, l => J8a (.whole b) l
 | .slr b _ _, l => J8a (.whole b) l
 | .ep b e i _, l => J8a (.elem b e i) l
 | .fn _ first caps, l => entsOfL caps (entsOfL first l)
 | .agg cs, l => entsOfL cs l
 | .tup cs, l => entsOfL cs l
 | _, l => l
where
 entsOfL : List AV → List Ent → List Ent
  | [], l => l
  | x :: r, l => entsOfL r (JW x l)
def J0Y (e : Ent) : List Ent → Nat → Option Nat
 | [], _ => none
 | x :: r, k => if x = e then some k else J0Y e r (k + 1)
def ren (ρ : Ent → Option Nat) : AV → Option AV
 | .p c => some (.p c)
 | .data cs => some (.data cs)
 | .cp cs o => some (.cp cs o)
 | .unk => some .unk
 | .ptr b off => (ρ (.whole b)).map fun k => .ptr k off
 | .ep b e i off => (ρ (.elem b e i)).map fun k => .ptr k off
 | .slr b i n => (ρ (.whole b)).map fun k => .slr k i n
 | .fn f first caps => (renL ρ first).bind fun a => (renL ρ caps).map fun c => .fn f a c
 | .agg cs => (renL ρ cs).map .agg
 | .tup cs => (renL ρ cs).map .tup
where
 renL (ρ : Ent → Option Nat) : List AV → Option (List AV)
  | [] => some []
  | x :: r => match ren ρ x, renL ρ r with
   | some y, some l => some (y :: l)
   | _, _ => none
end Go.Am
end
section
namespace Go.Am
def J3f : List Nat → Bool
 | [] => true
 | x :: r => !(r.contains x) && J3f r
def J3i (b : Nat) : List (Nat × Blk) → Option Blk
 | [] => none
 | (c, x) :: r => match J3i b r with
  | some y => some y
  | none => if c = b then some x else none
def Ja3 (ws : List (Nat × Blk)) (b : Nat) : RM Blk :=
 .blk b fun x => match J3i b ws with
  | some y => .ret y
  | none => .ret x
def J2I (ws : List (Nat × Blk)) : List Ent → List Ent → RM (List Ent)
 | [], acc => .ret acc
 | .whole b :: r, acc => (Ja3 ws b).bind fun
  | .box cs => J2I ws r (JW.entsOfL cs acc)
  | _ => J2I ws r acc
 | _ :: r, acc => J2I ws r acc
def J6e : AV → RM (AV × List (Nat × Blk))
 | .slr b i n => (fz (.slr b i n)).bind fun a => match a.1 with
  | [c] => .ret (.p c, a.2)
  | _ => .fail
 | .agg cs => (fz (.agg cs)).bind fun a => .ret (.data a.1, a.2)
 | .tup _ => .fail
 | v => .ret (v, [])
def J4J : List AV → RM (List AV × List (Nat × Blk))
 | [] => .ret ([], [])
 | x :: r => (J6e x).bind fun a => (J4J r).bind fun c => .ret (a.1 :: c.1, a.2 ++ c.2)
def Jbc (ws : List (Nat × Blk)) (ρ : Ent → Option Nat) : Ent → RM Blk
 | .whole b => (Ja3 ws b).bind fun
  | .box cs => match ren.renL ρ cs with
   | some l => .ret (.box l)
   | none => .fail
  | .arr w esz rows => .ret (.arr w esz rows)
  | .dead => .fail
 | .elem b ext i => (Ja3 ws b).bind fun
  | .arr true _ rows => if ext = rows.length then
    match rows[i]? with
    | some row => .ret (.box (row.map .p))
    | none => .fail
   else .fail
  | _ => .fail
def J3t (ws : List (Nat × Blk)) (ρ : Ent → Option Nat) : List Ent → RM (List Blk)
 | [] => .ret []
 | e :: r => (Jbc ws ρ e).bind fun x => (J3t ws ρ r).bind fun l => .ret (x :: l)
def bk (es : List Ent) (new : Nat) : AV → Option AV
 | .p c => some (.p c)
 | .data cs => some (.data cs)
 | .cp cs o => some (.cp cs o)
 | .unk => some .unk
 | .ptr k off => if k < es.length then
   match es[k]? with
   | some (.whole b) => some (.ptr b off)
   | some (.elem b e i) => some (.ep b e i off)
   | none => none
  else some (.ptr (new + (k - es.length)) off)
 | .slr k i n => if k < es.length then
   match es[k]? with
   | some (.whole b) => some (.slr b i n)
   | _ => none
  else some (.slr (new + (k - es.length)) i n)
 | .ep k e i off => if k < es.length then
   match es[k]? with
   | some (.whole b) => some (.ep b e i off)
   | _ => none
  else some (.ep (new + (k - es.length)) e i off)
 | .fn f first caps => match bkL es new first, bkL es new caps with
  | some a, some c => some (.fn f a c)
  | _, _ => none
 | .agg cs => match bkL es new cs with
  | some l => some (.agg l)
  | none => none
 | .tup cs => match bkL es new cs with
  | some l => some (.tup l)
  | none => none
where
 bkL (es : List Ent) (new : Nat) : List AV → Option (List AV)
  | [] => some []
  | x :: r => match bk es new x, bkL es new r with
   | some y, some l => some (y :: l)
   | _, _ => none
def J5z (ws : List (Nat × Blk)) (es : List Ent) (new : Nat) (e : Ent) (x : Blk) : RM (Nat × Blk) :=
 match e, x with
 | .whole b, .box cs => match bk.bkL es new cs with
  | some l => .ret (b, .box l)
  | none => .fail
 | .whole b, .arr w esz rows => .ret (b, .arr w esz rows)
 | .elem b _ i, .box cs => (Ja3 ws b).bind fun
  | .arr w esz rows => match unp cs with
   | some row => .ret (b, .arr w esz (rows.set i row))
   | none => .fail
  | _ => .fail
 | _, _ => .fail
def J2g (ws : List (Nat × Blk)) (es : List Ent) (new : Nat) : List Ent → List Blk → RM (List (Nat × Blk))
 | [], _ => .ret []
 | e :: r, x :: l => (J5z ws es new e x).bind fun y => (J2g ws es new r l).bind fun ys => .ret (y :: ys)
 | _ :: _, [] => .fail
def J1O (es : List Ent) (new : Nat) : Nat → List Blk → Option (List (Nat × Blk))
 | _, [] => some []
 | k, .box cs :: l => match bk.bkL es new cs, J1O es new (k + 1) l with
  | some c, some ys => some ((k, .box c) :: ys)
  | _, _ => none
 | k, .arr w esz rows :: l => match J1O es new (k + 1) l with
  | some ys => some ((k, .arr w esz rows) :: ys)
  | none => none
 | _, .dead :: _ => none
def J3H (F : Orc) (f : FuncId) (args : List AV) (k new : Nat) : RM Eff :=
 (J4J args).bind fun a =>
 (J2I a.2 (JW.entsOfL a.1 []) (JW.entsOfL a.1 [])).bind fun es1 =>
 (J2I a.2 es1 es1).bind fun es =>
 if J3f (es.map Ent.id) then
  match ren.renL (fun e => J0Y e es 0) a.1 with
  | none => .fail
  | some args' => (J3t a.2 (fun e => J0Y e es 0) es).bind fun blks =>
   match F f args' blks with
   | none => .fail
   | some r => if r.2.length = es.length + k then
     match bk es new r.1, J1O es new new (r.2.drop es.length) with
     | some v, some fresh => (J2g a.2 es new es r.2).bind fun back => .ret ⟨v, a.2 ++ back ++ fresh⟩
     | _, _ => .fail
    else .fail
 else .fail
def J3x : List (Nat × Nat × Opd) → RM (List (Nat × Nat × List AV))
 | [] => .ret []
 | (off, size, x) :: r => (ev x).bind fun v => match cellsOf v with
  | some cs => (J3x r).bind fun l => .ret ((off, size, cs) :: l)
  | none => .fail
def J3m : List (Nat × Nat) → Nat → List (Nat × Blk)
 | [], _ => []
 | (_, esz) :: r, n => (n, .arr true esz []) :: J3m r (n + 1)
def J7R : List (Nat × Nat) → Nat → List AV → List AV
 | [], _, cs => cs
 | (off, _) :: r, n, cs => J7R r (n + 1) (cs.set off (.slr n 0 0))
def J2i : List Bool → List AV → RM (List AV × List (Nat × Blk))
 | _, [] => .ret ([], [])
 | [], x :: r => (J6e x).bind fun a => (J2i [] r).bind fun c => .ret (a.1 :: c.1, a.2 ++ c.2)
 | true :: m, x :: r => (J2i m r).bind fun c => .ret (x :: c.1, c.2)
 | false :: m, x :: r => (J6e x).bind fun a => (J2i m r).bind fun c => .ret (a.1 :: c.1, a.2 ++ c.2)
def J1Q (F : Orc) (f : FuncId) (a : List AV × List (Nat × Blk)) (k new : Nat) : RM Eff :=
 (J2I a.2 (JW.entsOfL a.1 []) (JW.entsOfL a.1 [])).bind fun es1 =>
 (J2I a.2 es1 es1).bind fun es =>
 if J3f (es.map Ent.id) then
  match ren.renL (fun e => J0Y e es 0) a.1 with
  | none => .fail
  | some args' => (J3t a.2 (fun e => J0Y e es 0) es).bind fun blks =>
   match F f args' blks with
   | none => .fail
   | some r => if es.length ≤ r.2.length ∧ r.2.length ≤ es.length + k then
     match bk es new r.1, J1O es new new (r.2.drop es.length) with
     | some v, some fresh => (J2g a.2 es new es r.2).bind fun back => .ret ⟨v, a.2 ++ back ++ fresh⟩
     | _, _ => .fail
    else .fail
 else .fail
def opR (F : Orc) (op : AOp) (new : Nat) : RM Eff :=
 match op with
 | .mv x => (ev x).bind fun v => .ret ⟨v, []⟩
 | .mkarr esz _ => .ret ⟨.slr new 0 0, [(new, .arr true esz [])]⟩
 | .pick c a b => (ev c).bind fun
  | .p (.b x) => if x then (ev a).bind fun v => .ret ⟨v, []⟩ else (ev b).bind fun v => .ret ⟨v, []⟩
  | _ => .fail
 | .newbox zero => .ret ⟨.ptr new 0, [(new, .box (zero.map .p))]⟩
 | .box size x => (ev x).bind fun v => match cellsOf v with
  | some cs => if cs.length = size then .ret ⟨.ptr new 0, [(new, .box cs)]⟩ else .fail
  | none => .fail
 | .build zero parts => (J3x parts).bind fun l => match J4v l (zero.map .p) with
  | some cs => val (J2y true cs)
  | none => .fail
 | .lits own esz n zero parts => (fzs (parts.map (·.2))).bind fun a =>
  match J5q esz ((parts.map (·.1)).zip a.1) (List.replicate n zero) with
  | some rows => if own then .ret ⟨.slr new 0 n, a.2 ++ [(new, .arr true esz rows)]⟩ else .ret ⟨.p (.sl esz rows), a.2⟩
  | none => .fail
 | .load agg size x => (ev x).bind fun v => J2V agg size v
 | .store size x y => (ev x).bind fun a => (ev y).bind fun v => J2G size a v
 | .nilchk x => (ev x).bind fun
  | .ptr b o => .ret ⟨.ptr b o, []⟩
  | .cp cs o => .ret ⟨.cp cs o, []⟩
  | .ep b e i o => .ret ⟨.ep b e i o, []⟩
  | .fn f u c => .ret ⟨.fn f u c, []⟩
  | _ => .fail
 | .bin op t x y => (ev x).bind fun a => (ev y).bind fun c => val (J8j op t a c)
 | .un op x => (ev x).bind fun a => val (unP op a)
 | .conv k x => (ev x).bind fun a => match k, a with
  | .int k, .p (.i _ n) => .ret ⟨.p (.i k (k.wrap n)), []⟩
  | .same, .p (.s l) => .ret ⟨.p (.s l), []⟩
  | .toStr, a => (J1D 1 a).bind fun rows => match J60 rows with
   | some l => .ret ⟨.p (.s l), []⟩
   | none => .fail
  | .toBytes own, .p (.s l) => if own then .ret ⟨.slr new 0 l.length, [(new, .arr true 1 (l.map J2U))]⟩ else .ret ⟨.p (.sl 1 (l.map J2U)), []⟩
  | _, _ => .fail
 | .mkslice own esz bytes zero l c => (ev l).bind fun a => (ev c).bind fun d => match a, d with
  | .p (.i _ n), .p (.i _ m) =>
   if 0 ≤ n ∧ n ≤ m ∧ bytes * m ≤ 281474976710656 ∧ m ≤ 281474976710656 then
    if own then .ret ⟨.slr new 0 n.toNat, [(new, .arr true esz (List.replicate n.toNat zero))]⟩
    else .ret ⟨.p (.sl esz (List.replicate n.toNat zero)), []⟩
   else .fail
  | _, _ => .fail
 | .slice k x lo hi mx => (ev x).bind fun a => (evo lo).bind fun lo => (evo hi).bind fun hi => (evo mx).bind fun mx =>
  match a with
  | .slr b i n => (fz (.slr b i n)).bind fun y => match y.1 with
   | [c] => match J3v k (.p c) lo hi mx with
    | some v => .ret ⟨v, y.2⟩
    | none => .fail
   | _ => .fail
  | a => val (J3v k a lo hi mx)
 | .faddr off x => (ev x).bind fun a => val (Jcw off a)
 | .field agg off size x => (ev x).bind fun a => val (J6n agg off size a)
 | .iaddr esz x i => (ev x).bind fun a => (ev i).bind fun c => J4A esz a c
 | .aaddr len esz x i => (ev x).bind fun a => (ev i).bind fun c => val (JbS len esz a c)
 | .sidx x i => (ev x).bind fun a => (ev i).bind fun c => match a, c with
  | .p (.s l), .p (.i _ n) => if 0 ≤ n then
    match l[n.toNat]? with
    | some u => .ret ⟨.p (.i .u8 u.toNat), []⟩
    | none => .fail
   else .fail
  | _, _ => .fail
 | .aidx agg len esz x i => (ev x).bind fun a => (ev i).bind fun c => match c with
  | .p (.i _ n) => if 0 ≤ n ∧ n < len then val (J6n agg (n.toNat * esz) esz a) else .fail
  | _ => .fail
 | .extr x i => (ev x).bind fun a => val (Jfs i a)
 | .call f args k => (evs args).bind fun vs => J3H F f vs k new
 | .callv g args k => (ev g).bind fun
  | .fn f first caps => (evs args).bind fun vs => J3H F f (first ++ vs ++ caps) k new
  | _ => .fail
 | .len str x => (ev x).bind fun a => val (Jge str a)
 | .alen n => .ret ⟨.p (.i .i64 n), []⟩
 | .appn esz bytes _ y => (ev y).bind fun c => (J1D esz c).bind fun rows =>
  if J1e rows.length bytes then .ret ⟨.slr new 0 rows.length, [(new, .arr true esz rows)]⟩ else .fail
 | .app esz bytes _ x y => (ev x).bind fun a => (ev y).bind fun c => J5D esz bytes a c
 | .appz esz bytes zero x y => (ev x).bind fun a => (ev y).bind fun c => match zrs esz zero c with
  | some c1 => J5D esz bytes a c1
  | none => .fail
 | .appc esz bytes _ x y => (ev x).bind fun a => (ev y).bind fun c => JjA esz bytes a c new
 | .mm mx x y => (ev x).bind fun a => (ev y).bind fun c => val (mmP mx a c)
 | .mkfn f first caps => (evs first).bind fun a => (evs caps).bind fun c => .ret ⟨.fn f a c, []⟩
 | .newboxo zero os => .ret ⟨.ptr (new + os.length) 0, J3m os new ++ [(new + os.length, .box (J7R os new (zero.map .p)))]⟩
 | .buildo zero parts os => (J3x parts).bind fun l => match J4v l (J7R os new (zero.map .p)) with
  | some cs => match J2y true cs with
   | some v => .ret ⟨v, J3m os new⟩
   | none => .fail
  | none => .fail
 | .storen esz x => (ev x).bind fun a => (J2G 1 a (.slr new 0 0)).bind fun e => .ret ⟨e.val, (new, .arr true esz []) :: e.ws⟩
 | .callo f keep args k => (evs args).bind fun vs => (J2i keep vs).bind fun a => J1Q F f a k new
def J3K : AOp → Nat
 | .newbox _ | .box _ _ | .mkarr _ _ | .appn _ _ _ _ | .appc _ _ _ _ _ => 1
 | .lits own _ _ _ _ => if own then 1 else 0
 | .mkslice own _ _ _ _ _ => if own then 1 else 0
 | .conv (.toBytes own) _ => if own then 1 else 0
 | .call _ _ k | .callv _ _ k | .callo _ _ _ k => k
 | .newboxo _ os => os.length + 1
 | .buildo _ _ os => os.length
 | .storen _ _ => 1
 | _ => 0
def J8M (new : Nat) : Nat → RM Unit
 | 0 => .ret ()
 | k + 1 => .blk new fun
  | .dead => J8M (new + 1) k
  | _ => .fail
def opD (F : Orc) (op : AOp) (new : Nat) : RM Eff := (J8M new (J3K op)).bind fun _ => opR F op new
def J0C (F : Orc) (i : J0E) (new : Nat) : RM Eff :=
 match i.g with
 | none => opD F i.op new
 | some (g, want) => .slot g fun
  | .p (.b x) => if x = want then opD F i.op new else .ret ⟨J1d, []⟩
  | .tup [] => .ret ⟨J1d, []⟩
  | _ => .fail
def put (d : Option Nat) (e : Eff) (s : St) : St :=
 match d with
 | some d => ⟨(d, e.val) :: s.env, upd e.ws s.sto⟩
 | none => ⟨s.env, upd e.ws s.sto⟩
def J1Z (F : Orc) : List J0E → Nat → St → Option St
 | [], _, s => some s
 | i :: r, new, s => match (J0C F i new).run s with
  | some e => J1Z F r (new + J3K i.op) (put i.dst e s)
  | none => none
def J38 : List Loc → List Nat
 | [] => []
 | .blk b :: r => b :: J38 r
 | _ :: r => J38 r
abbrev Log := List (List Nat × List Nat)
def J39 (F : Orc) : List J0E → Nat → St → Log → Option (St × Log)
 | [], _, s, l => some (s, l)
 | i :: r, new, s, l => match (J0C F i new).run s with
  | some e => J39 F r (new + J3K i.op) (put i.dst e s) (l ++ [(J38 ((J0C F i new).reads s), e.ws.map (·.1))])
  | none => none
def J4w (a b : List Nat) : Bool := a.all fun x => !(b.contains x)
def J8W (l : Log) : List (Nat × Nat) → Bool
 | [] => true
 | (i, j) :: r => (match l[i]?, l[j]? with
  | some a, some b => J4w a.2 b.1 && J4w a.2 b.2 && J4w a.1 b.2
  | _, _ => false) && J8W l r
def news : List J0E → Nat
 | [] => 0
 | i :: r => J3K i.op + news r
def room (n : Nat) (sto : List Blk) : List Blk := if n = 0 then sto else sto ++ List.replicate n .dead
def region (F : Orc) (pairs : List (Nat × Nat)) (ins : List J0E) (s : St) : Option St :=
 match pairs with
 | [] => J1Z F ins s.sto.length ⟨s.env, room (news ins) s.sto⟩
 | _ :: _ => match J39 F ins s.sto.length ⟨s.env, room (news ins) s.sto⟩ [] with
  | some (s', l) => if J8W l pairs then some s' else none
  | none => none
def restr : List Nat → List (Nat × AV) → List (Nat × AV)
 | [], _ => []
 | k :: r, env => match lk k env with
  | some v => (k, v) :: restr r env
  | none => restr r env
def J34 (b : Nat) : List Nat → Nat → Option Nat
 | [], _ => none
 | x :: r, k => if x = b then some k else J34 b r (k + 1)
def fin (m : Nat) (ids : List Nat) (sto : List Blk) : AV → Option AV
 | .p c => some (.p c)
 | .data cs => some (.data cs)
 | .cp cs o => some (.cp cs o)
 | .unk => some .unk
 | .ptr b off => if b < m then some (.ptr b off) else (J34 b ids m).map fun k => .ptr k off
 | .slr b i n => if b < m then some (.slr b i n) else
  match J34 b ids m with
  | some k => some (.slr k i n)
  | none => match sto[b]? with
   | some (.arr _ esz rows) => if i + n = rows.length then some (.p (.sl esz (rows.drop i))) else none
   | _ => none
 | .ep b e i off => if b < m then some (.ep b e i off) else (J34 b ids m).map fun k => .ep k e i off
 | .fn f first caps => match finL m ids sto first, finL m ids sto caps with
  | some a, some c => some (.fn f a c)
  | _, _ => none
 | .agg cs => match finL m ids sto cs with
  | some l => match unp l with
   | some q => some (.data q)
   | none => some (.agg l)
  | none => none
 | .tup cs => match finL m ids sto cs with
  | some l => some (.tup l)
  | none => none
where
 finL (m : Nat) (ids : List Nat) (sto : List Blk) : List AV → Option (List AV)
  | [] => some []
  | x :: r => match fin m ids sto x, finL m ids sto r with
   | some y, some l => some (y :: l)
   | _, _ => none
def J3r (m : Nat) (ids : List Nat) (sto : List Blk) : Blk → Option Blk
 | .dead => some .dead
 | .box cs => match fin.finL m ids sto cs with
  | some l => some (.box l)
  | none => none
 | .arr w esz rows => some (.arr w esz rows)
def J80 (m : Nat) (ids : List Nat) (sto : List Blk) : List Blk → Option (List Blk)
 | [] => some []
 | x :: r => match J3r m ids sto x, J80 m ids sto r with
  | some y, some l => some (y :: l)
  | _, _ => none
def JbX (m : Nat) (sto : List Blk) : List (Nat × AV) → Option (List (Nat × AV))
 | [] => some []
 | (k, x) :: r => match fin m [] sto x, JbX m sto r with
  | some y, some l => some ((k, y) :: l)
  | _, _ => none
def clean (n : Nat) (live : List Nat) (s : St) : Option St :=
 if s.sto.length = n then some ⟨restr live s.env, s.sto⟩
 else match JbX n s.sto (restr live s.env), J80 n [] s.sto (s.sto.take n) with
  | some e, some l => some ⟨e, l⟩
  | _, _ => none
def J8l : List Jc8 → RM (List AV)
 | [] => .ret []
 | .tmp t :: r => (RM.slot t .ret).bind fun v => (J8l r).bind fun l => .ret (v :: l)
 | .cell t agg size :: r => (RM.slot t .ret).bind fun v => (J2V agg size v).bind fun e => (J8l r).bind fun l => .ret (e.val :: l)
def J3b (m : Nat) (fresh : Bool) (sto : List Blk) : List Ent → List Nat
 | [] => []
 | .whole b :: r => if b < m then J3b m fresh sto r else
  match sto[b]? with
  | some (.box _) => b :: J3b m fresh sto r
  | some (.arr _ _ _) => if fresh then b :: J3b m fresh sto r else J3b m fresh sto r
  | _ => J3b m fresh sto r
 | _ :: r => J3b m fresh sto r
def J86 (sto : List Blk) : List Ent → List Ent → List Ent
 | [], acc => acc
 | .whole b :: r, acc => match sto[b]? with
  | some (.box cs) => J86 sto r (JW.entsOfL cs acc)
  | _ => J86 sto r acc
 | _ :: r, acc => J86 sto r acc
def J9F (sto : List Blk) : List Nat → Option (List Blk)
 | [] => some []
 | b :: r => match sto[b]?, J9F sto r with
  | some x, some l => some (x :: l)
  | _, _ => none
def one : List AV → AV
 | [x] => x
 | l => .tup l
def J2p (fn : AFn) (m : Nat) (s : St) : Option Res :=
 match (J8l fn.res).run s with
 | none => none
 | some vs =>
  if s.sto.length = m then some (one vs, s.sto)
  else
   match J3b m fn.fresh s.sto (J86 s.sto (JW.entsOfL vs []) (JW.entsOfL vs [])) with
   | ids => if J3f ids then
     match fin.finL m ids s.sto vs, J80 m ids s.sto (s.sto.take m), J9F s.sto ids with
     | some ws, some l, some q => match J80 m ids s.sto q with
      | some q' => some (one ws, l ++ q')
      | none => none
     | _, _, _ => none
    else none
def J66 : Nat → List AV → List (Nat × AV)
 | _, [] => []
 | k, x :: r => (k, x) :: J66 (k + 1) r
structure J5l where
 np : Nat
 nt : Nat
 p0 : J07
 live : List Nat
 pre : J07
 c : Opd
 a : J07
 b : J07
 rest : J07
 res : List Jc8
 fresh : Bool
def J5l.af (k : J5l) : AFn := ⟨k.np, k.nt, .seq k.p0 (.br k.live k.pre k.c k.a k.b k.rest), k.res, k.fresh⟩
def Jbi (f : AFn) (m : Nat) (o : Option Out) : Option Res :=
 match o with
 | some (.normal, s) => J2p f m s
 | some (.ret, s) => J2p f m s
 | _ => none
open Classical in
noncomputable def Jes (a b : Option Res) : Option Res :=
 match a, b with
 | some r, some r' => if r = r' then some r else none
 | _, _ => none
def thn (o : Option Out) (k : St → Option Out) : Option Out :=
 match o with
 | some (.normal, s) => k s
 | o => o
noncomputable def J8G (R : J07 → St → Option Out) (k : J5l) (args : List AV) (blks : List Blk) : Option Res :=
 match R k.p0 ⟨J66 0 args, blks⟩ with
 | some (.normal, s0) => match R k.pre s0 with
  | some (.normal, s1) => match (ev k.c).run s1 with
   | some (.p (.b x)) => if x = true then Jbi k.af blks.length (thn (R k.a s1) fun s => R k.rest s) else Jbi k.af blks.length (thn (R k.b s1) fun s => R k.rest s)
   | some .unk => Jes (Jbi k.af blks.length (thn (R k.a s1) fun s => R k.rest s)) (Jbi k.af blks.length (thn (R k.b s1) fun s => R k.rest s))
   | _ => none
  | _ => none
 | _ => none
inductive Jmo where
 | fn (f : AFn)
 | prim (g : List AV → List Blk → Option Res)
 | fork (k : J5l)
abbrev J21 := FuncId → Option Jmo
noncomputable def J7z (T : J21) (R : J07 → St → Option Out) (f : FuncId) (args : List AV) (blks : List Blk) : Option Res :=
 match T f with
 | none => none
 | some (.prim g) => g args blks
 | some (.fork k) => if args.length = k.np then J8G R k args blks else none
 | some (.fn fn) =>
  if args.length = fn.np then
   match R fn.body ⟨J66 0 args, blks⟩ with
   | some (.normal, s) => J2p fn blks.length s
   | some (.ret, s) => J2p fn blks.length s
   | _ => none
  else none
open Classical in
noncomputable def same (a b : Option Out) : Option Out :=
 match a, b with
 | some r, some r' => if r = r' then some r else none
 | _, _ => none
def J4q (n : Nat) (live : List Nat) (o : Option Out) : Option Out :=
 match o with
 | some (e, s) => match clean n live s with
  | some s' => some (e, s')
  | none => none
 | none => none
noncomputable def step (T : J21) (R : J07 → St → Option Out) (c : J07) (s : St) : Option Out :=
 match c with
 | .skip => some (.normal, s)
 | .bad => none
 | .reg _ pairs ins => match region (J7z T R) pairs ins s with
  | some s' => some (.normal, s')
  | none => none
 | .seq a b => match R a s with
  | some (.normal, s') => R b s'
  | o => o
 | .cond c a b => match (ev c).run s with
  | some (.p (.b x)) => if x = true then R a s else R b s
  | some .unk => same (R a s) (R b s)
  | _ => none
 | .block id c => match R c s with
  | some (.exit k, s') => if k = id then some (.normal, s') else some (.exit k, s')
  | o => o
 | .loop live c => match clean s.sto.length live s with
  | some s' => R (.lp s.sto.length live c) s'
  | none => none
 | .lp n live c => match R c s with
  | some (.normal, s') => (match clean n live s' with
   | some s'' => R (.lp n live c) s''
   | none => none)
  | o => o
 | .scope c => R c s
 | .exit id => some (.exit id, s)
 | .ret => some (.ret, s)
 | .keep live c => R c ⟨restr live s.env, s.sto⟩
 | .tidy live c => J4q s.sto.length live (R c s)
 | .br live pre c a b rest => match R pre s with
  | some (.normal, s1) => (match (ev c).run s1 with
   | some (.p (.b x)) => if x = true then thn (R a s1) fun s => R rest s else thn (R b s1) fun s => R rest s
   | some .unk => same (J4q s1.sto.length live (thn (R a s1) fun s => R rest s)) (J4q s1.sto.length live (thn (R b s1) fun s => R rest s))
   | _ => none)
  | _ => none
end Go.Am
end
section
namespace Go.Am
def below {α : Type} (a b : Option α) : Prop := a = none ∨ a = b
theorem Jj {α : Type} (a : Option α) : below a a := .inr rfl
theorem run_bind {α β : Type} (m : RM α) (f : α → RM β) (s : St) : (m.bind f).run s = (m.run s).bind fun a => (f a).run s := by
 induction m with
 | ret a => rfl
 | slot n k ih => simp only [RM.bind, RM.run]; cases lk n s.env <;> simp [ih]
 | blk b k ih => simp only [RM.bind, RM.run]; cases s.sto[b]? <;> simp [ih]
 | fail => rfl
theorem J1N {α β : Type} {m : RM α} {f f' : α → RM β} {s : St} (h : ∀ a, below ((f a).run s) ((f' a).run s)) : below ((m.bind f).run s) ((m.bind f').run s) := by
 rw [run_bind, run_bind]
 cases m.run s with
 | none => exact .inl rfl
 | some a => exact h a
variable {F F' : Orc} (h : ∀ f a b, below (F f a b) (F' f a b))
include h in
theorem Jdk (f : FuncId) (args : List AV) (k new : Nat) (s : St) : below ((J3H F f args k new).run s) ((J3H F' f args k new).run s) := by
 unfold J3H
 refine J1N fun a => J1N fun es1 => J1N fun es => ?_
 split
 ·split
  ·exact Jj _
  ·refine J1N fun blks => ?_
   rcases h f ‹_› blks with e | e
   ·rw [e]; exact .inl rfl
   ·rw [e]; exact Jj _
 ·exact Jj _
include h in
theorem Jka (f : FuncId) (a : List AV × List (Nat × Blk)) (k new : Nat) (s : St) : below ((J1Q F f a k new).run s) ((J1Q F' f a k new).run s) := by
 unfold J1Q
 refine J1N fun es1 => J1N fun es => ?_
 split
 ·split
  ·exact Jj _
  ·refine J1N fun blks => ?_
   rcases h f ‹_› blks with e | e
   ·rw [e]; exact .inl rfl
   ·rw [e]; exact Jj _
 ·exact Jj _
include h in
theorem JoN (op : AOp) (new : Nat) (s : St) : below ((opR F op new).run s) ((opR F' op new).run s) := by
 cases op <;> try exact Jj _
 case call f args k => exact J1N fun vs => Jdk h ..
 case callo f keep args k => exact J1N fun vs => J1N fun a => Jka h ..
 case callv g args k =>
  refine J1N fun g => ?_
  cases g <;> try exact Jj _
  exact J1N fun vs => Jdk h ..
include h in
theorem JgY (op : AOp) (new : Nat) (s : St) : below ((opD F op new).run s) ((opD F' op new).run s) :=
 J1N fun _ => JoN h ..
include h in
theorem JeS (i : J0E) (new : Nat) (s : St) : below ((J0C F i new).run s) ((J0C F' i new).run s) := by
 unfold J0C
 split
 ·exact JgY h ..
 ·simp only [RM.run]
  split
  ·split
   ·split
    ·exact JgY h ..
    ·exact Jj _
   ·exact Jj _
   ·exact Jj _
  ·exact Jj _
theorem J45 {α β : Type} (m : RM α) (f : α → RM β) (s : St) : (m.bind f).reads s = m.reads s ++ ((m.run s).map fun a => (f a).reads s).getD [] := by
 induction m with
 | ret a => simp [RM.bind, RM.reads, RM.run]
 | slot n k ih => simp only [RM.bind, RM.reads, RM.run]; cases lk n s.env <;> simp [ih]
 | blk b k ih => simp only [RM.bind, RM.reads, RM.run]; cases s.sto[b]? <;> simp [ih]
 | fail => simp [RM.bind, RM.reads, RM.run]
theorem J0M {α β : Type} {m : RM α} {f f' : α → RM β} {s : St} (h : ∀ a, (f a).run s = none ∨ (f a).reads s = (f' a).reads s) :
  ((m.bind f).run s) = none ∨ (m.bind f).reads s = (m.bind f').reads s := by
 rw [run_bind, J45, J45]
 cases m.run s with
 | none => exact .inl rfl
 | some a => exact (h a).imp (fun e => e) (fun e => by simp [e])
include h in
theorem Jdr (f : FuncId) (args : List AV) (k new : Nat) (s : St) :
  (J3H F f args k new).run s = none ∨ (J3H F f args k new).reads s = (J3H F' f args k new).reads s := by
 unfold J3H
 refine J0M fun a => J0M fun es1 => J0M fun es => ?_
 split
 ·split
  ·exact .inr rfl
  ·refine J0M fun blks => ?_
   rcases h f ‹_› blks with e | e
   ·rw [e]; exact .inl rfl
   ·rw [e]; exact .inr rfl
 ·exact .inr rfl
include h in
theorem JjH (f : FuncId) (a : List AV × List (Nat × Blk)) (k new : Nat) (s : St) :
  (J1Q F f a k new).run s = none ∨ (J1Q F f a k new).reads s = (J1Q F' f a k new).reads s := by
 unfold J1Q
 refine J0M fun es1 => J0M fun es => ?_
 split
 ·split
  ·exact .inr rfl
  ·refine J0M fun blks => ?_
   rcases h f ‹_› blks with e | e
   ·rw [e]; exact .inl rfl
   ·rw [e]; exact .inr rfl
 ·exact .inr rfl
include h in
theorem JnW (op : AOp) (new : Nat) (s : St) : (opR F op new).run s = none ∨ (opR F op new).reads s = (opR F' op new).reads s := by
 cases op <;> try exact .inr rfl
 case call f args k => exact J0M fun vs => Jdr h ..
 case callo f keep args k => exact J0M fun vs => J0M fun a => JjH h ..
 case callv g args k =>
  refine J0M fun g => ?_
  cases g <;> try exact .inr rfl
  exact J0M fun vs => Jdr h ..
include h in
theorem Jhj (op : AOp) (new : Nat) (s : St) : (opD F op new).run s = none ∨ (opD F op new).reads s = (opD F' op new).reads s :=
 J0M fun _ => JnW h ..
include h in
theorem JkZ (op : AOp) (want : Bool) (new : Nat) (s : St) (v : AV) :
  (RM.run (match v with
   | .p (.b x) => if x = want then opD F op new else .ret ⟨J1d, []⟩
   | .tup [] => .ret ⟨J1d, []⟩
   | _ => .fail) s) = none ∨ (RM.reads (match v with
   | .p (.b x) => if x = want then opD F op new else .ret ⟨J1d, []⟩
   | .tup [] => .ret ⟨J1d, []⟩
   | _ => .fail) s) = (RM.reads (match v with
   | .p (.b x) => if x = want then opD F' op new else .ret ⟨J1d, []⟩
   | .tup [] => .ret ⟨J1d, []⟩
   | _ => .fail) s) := by
 split
 ·split
  ·exact Jhj h ..
  ·exact .inr rfl
 ·exact .inr rfl
 ·exact .inr rfl
include h in
theorem Jmp (i : J0E) (new : Nat) (s : St) : (J0C F i new).run s = none ∨ (J0C F i new).reads s = (J0C F' i new).reads s := by
 unfold J0C
 split
 ·exact Jhj h ..
 ·simp only [RM.run, RM.reads]
  split
  ·exact (JkZ h ..).imp id (fun e => congrArg (Loc.slot _ :: ·) e)
  ·exact .inl rfl
include h in
theorem Jit (ins : List J0E) : ∀ new s, below (J1Z F ins new s) (J1Z F' ins new s) := by
 induction ins with
 | nil => exact fun _ _ => Jj _
 | cons i r ih =>
  intro new s
  simp only [J1Z]
  rcases JeS h i new s with e | e
  ·rw [e]; exact .inl rfl
  ·rw [e]
   split
   ·exact ih _ _
   ·exact Jj _
include h in
theorem Jkj (ins : List J0E) : ∀ new s l, below (J39 F ins new s l) (J39 F' ins new s l) := by
 induction ins with
 | nil => exact fun _ _ _ => Jj _
 | cons i r ih =>
  intro new s l
  simp only [J39]
  rcases JeS h i new s with e | e
  ·rw [e]; exact .inl rfl
  ·rcases Jmp h i new s with e' | e'
   ·rw [e']; exact .inl rfl
   ·rw [e, e']
    split
    ·exact ih _ _ _
    ·exact Jj _
include h in
theorem JiM (pairs : List (Nat × Nat)) (ins : List J0E) (s : St) : below (region F pairs ins s) (region F' pairs ins s) := by
 unfold region
 split
 ·exact Jit h ..
 ·rcases Jkj h ins s.sto.length ⟨s.env, Go.Am.room (news ins) s.sto⟩ [] with e | e
  ·rw [e]; exact .inl rfl
  ·rw [e]; exact Jj _
variable {T : J21} {R R' : J07 → St → Option Out} (hR : ∀ c s, below (R c s) (R' c s))
include hR in
theorem Jl7 (k : J5l) (args : List AV) (blks : List Blk) : below (J8G R k args blks) (J8G R' k args blks) := by
 have ht : ∀ x s, below (Jbi k.af blks.length (thn (R x s) fun s => R k.rest s)) (Jbi k.af blks.length (thn (R' x s) fun s => R' k.rest s)) := by
  intro x s
  rcases hR x s with e | e
  ·rw [e]; exact .inl rfl
  ·rw [e]
   cases hx : R' x s with
   | none => exact .inl rfl
   | some o =>
    obtain ⟨q, s'⟩ := o
    cases q with
    | normal =>
     simp only [thn]
     rcases hR k.rest s' with e' | e'
     ·rw [e']; exact .inl rfl
     ·rw [e']; exact Jj _
    | _ => exact Jj _
 unfold J8G
 rcases hR k.p0 ⟨J66 0 args, blks⟩ with e | e
 ·rw [e]; exact .inl rfl
 ·rw [e]
  split
  ·rename_i s0 _
   rcases hR k.pre s0 with e | e
   ·rw [e]; exact .inl rfl
   ·rw [e]
    split
    ·split
     ·split
      ·exact ht _ _
      ·exact ht _ _
     ·rename_i s1 _ _ _
      rcases ht k.a s1 with e | e
      ·rw [e]; exact .inl rfl
      ·rcases ht k.b s1 with e' | e'
       ·rw [e']; unfold Jes; exact .inl (by split <;> simp_all)
       ·rw [e, e']; exact Jj _
     ·exact Jj _
    ·exact Jj _
  ·exact Jj _
include hR in
theorem JkU (f : FuncId) (a : List AV) (b : List Blk) : below (J7z T R f a b) (J7z T R' f a b) := by
 unfold J7z
 split
 ·exact Jj _
 ·exact Jj _
 ·split
  ·exact Jl7 hR _ _ _
  ·exact Jj _
 ·split
  ·rcases hR ‹AFn›.body ⟨J66 0 a, b⟩ with e | e
   ·rw [e]; exact .inl rfl
   ·rw [e]; exact Jj _
  ·exact Jj _
include hR in
theorem Jb0 (c : J07) (s : St) : below (step T R c s) (step T R' c s) := by
 cases c with
 | bad => exact .inl rfl
 | skip => exact Jj _
 | reg d pairs ins =>
  simp only [step]
  rcases JiM (JkU (T := T) hR) pairs ins s with e | e
  ·rw [e]; exact .inl rfl
  ·rw [e]; exact Jj _
 | seq a b =>
  simp only [step]
  rcases hR a s with e | e
  ·rw [e]; exact .inl rfl
  ·rw [e]
   split
   ·exact hR _ _
   ·exact Jj _
 | cond c a b =>
  simp only [step]
  split
  ·split
   ·exact hR _ _
   ·exact hR _ _
  ·rcases hR a s with e | e
   ·rw [e]; exact .inl rfl
   ·rcases hR b s with e' | e'
    ·rw [e']; unfold same; exact .inl (by split <;> simp_all)
    ·rw [e, e']; exact Jj _
  ·exact Jj _
 | block id c =>
  simp only [step]
  rcases hR c s with e | e
  ·rw [e]; exact .inl rfl
  ·rw [e]; exact Jj _
 | loop live c =>
  simp only [step]
  split
  ·exact hR _ _
  ·exact Jj _
 | lp n live c =>
  simp only [step]
  rcases hR c s with e | e
  ·rw [e]; exact .inl rfl
  ·rw [e]
   split
   ·split
    ·exact hR _ _
    ·exact Jj _
   ·exact Jj _
 | scope c => exact hR _ _
 | exit id => exact Jj _
 | ret => exact Jj _
 | keep live c => exact hR _ _
 | tidy live c =>
  simp only [step]
  rcases hR c s with e | e
  ·rw [e]; exact .inl rfl
  ·rw [e]; exact Jj _
 | br live pre c a b rest =>
  have ht : ∀ x s, below (thn (R x s) fun s => R rest s) (thn (R' x s) fun s => R' rest s) := by
   intro x s
   rcases hR x s with e | e
   ·rw [e]; exact .inl rfl
   ·rw [e]
    unfold thn
    split
    ·exact hR _ _
    ·exact Jj _
  simp only [step]
  rcases hR pre s with e | e
  ·rw [e]; exact .inl rfl
  ·rw [e]
   split
   ·split
    ·split
     ·exact ht _ _
     ·exact ht _ _
    ·rename_i s1 _ _ _
     rcases ht a s1 with e | e
     ·rw [e]; exact .inl rfl
     ·rcases ht b s1 with e' | e'
      ·rw [e']; unfold same; exact .inl (by split <;> simp_all [J4q])
      ·rw [e, e']; exact Jj _
    ·exact Jj _
   ·exact Jj _
def Jsw (T : J21) (M : J07 → St → Out → Prop) : Prop :=
 ∀ R : J07 → St → Option Out, (∀ c s r, R c s = some r → M c s r) → ∀ c s r, step T R c s = some r → M c s r
def Den (T : J21) (c : J07) (s : St) (r : Out) : Prop := ∀ M, Jsw T M → M c s r
theorem Je4 (T : J21) : Jsw T (Den T) := fun R hR c s r h M hM => hM R (fun c s r h => hR c s r h M hM) c s r h
theorem Jlk {T : J21} {c : J07} {s : St} {r : Out} (h : Den T c s r) : ∃ R : J07 → St → Option Out, (∀ c s r, R c s = some r → Den T c s r) ∧ step T R c s = some r :=
 h (fun c s r => ∃ R : J07 → St → Option Out, (∀ c s r, R c s = some r → Den T c s r) ∧ step T R c s = some r) fun R hR c s r hs =>
  ⟨R, fun c s r h => let ⟨R', h1, h2⟩ := hR c s r h; Je4 T R' h1 c s r h2, hs⟩
theorem Jrd {T : J21} {c : J07} {s : St} {r : Out} (h : Den T c s r) : ∀ r', Den T c s r' → r' = r := by
 have key : Den T c s r ∧ ∀ r', Den T c s r' → r' = r := h (fun c s r => Den T c s r ∧ ∀ r', Den T c s r' → r' = r) fun R hR c s r hs => by
  refine ⟨Je4 T R (fun c s r h => (hR c s r h).1) c s r hs, fun r' h' => ?_⟩
  obtain ⟨R', hR', hs'⟩ := Jlk h'
  have b1 : ∀ c s, below (R c s) ((R c s).or (R' c s)) := fun c s => by cases hc : R c s <;> simp [below]
  have b2 : ∀ c s, below (R' c s) ((R c s).or (R' c s)) := fun c s => by
   cases hc : R c s with
   | none => simp [below]
   | some a =>
    cases hc' : R' c s with
    | none => simp [below]
    | some a' => right; rw [(hR c s a hc).2 a' (hR' c s a' hc')]; rfl
  have e1 := Jb0 (T := T) b1 c s
  have e2 := Jb0 (T := T) b2 c s
  rw [hs] at e1
  rw [hs'] at e2
  rcases e1 with e1 | e1
  ·cases e1
  ·rcases e2 with e2 | e2
   ·cases e2
   ·rw [← e1] at e2; injection e2
 exact key.2
open Classical in
noncomputable def X (T : J21) (c : J07) (s : St) : Option Out := if h : ∃ r, Den T c s r then some h.choose else none
theorem JbV {T : J21} {c : J07} {s : St} {r : Out} : X T c s = some r ↔ Den T c s r := by
 unfold X
 constructor
 ·intro h
  split at h
  ·rename_i hex
   injection h with h; subst h
   exact hex.choose_spec
  ·cases h
 ·intro h
  rw [dif_pos ⟨r, h⟩]
  congr 1
  exact Jrd h _ (Exists.choose_spec (⟨r, h⟩ : ∃ r, Den T c s r))
theorem Juc (T : J21) (motive : J07 → St → Out → Prop)
  (h : ∀ R : J07 → St → Option Out, (∀ c s r, R c s = some r → motive c s r) → ∀ c s r, step T R c s = some r → motive c s r) : ∀ c s r, X T c s = some r → motive c s r :=
 fun c s r hx => JbV.1 hx motive h
theorem J7N (T : J21) (c : J07) (s : St) : X T c s = step T (X T) c s := by
 have one : ∀ r, step T (X T) c s = some r → X T c s = some r := fun r h => JbV.2 (Je4 T (X T) (fun c s r h => JbV.1 h) c s r h)
 cases hs : step T (X T) c s with
 | some r => exact one r hs
 | none =>
  cases hx : X T c s with
  | none => rfl
  | some r =>
   obtain ⟨R, hR, h⟩ := Jlk (JbV.1 hx)
   have := Jb0 (T := T) (R := R) (R' := X T) (fun c s => by
    cases hc : R c s with
    | none => exact .inl rfl
    | some a => right; exact (JbV.2 (hR c s a hc)).symm) c s
   rw [h, hs] at this
   rcases this with e | e <;> cases e
noncomputable def AF (T : J21) : Orc := J7z T (X T)
end Go.Am
end
section
namespace Go.Am
structure Gh where
 μ : Nat → Option (Nat × Nat)
 C : Nat → Nat → Prop
def cellAt (w : World) (r o : Nat) : Option Value :=
 match w.heap[r]? with
 | some (.cells c _ _) => c[o]?
 | _ => none
theorem J2z (w : World) (r o : Nat) : w.cell? ⟨r, o, none⟩ = cellAt w r o := by
 unfold World.cell? cellAt
 split <;> simp_all
theorem J1E {w : World} {r o : Nat} {c e fz} (h : w.heap[r]? = some (.cells c e fz)) : cellAt w r o = c[o]? := by
 simp [cellAt, h]
inductive Jl (w : World) (C : Nat → Nat → Prop) : PV → Value → Prop where
 | b (x : Bool) : Jl w C (.b x) (.bool x)
 | i (k : IntKind) (n : Int) : Jl w C (.i k n) (.int k n)
 | s (l : List UInt8) : Jl w C (.s l) (.string ⟨l.toArray⟩)
 | np : Jl w C .np (.pointer none)
 | nf : Jl w C .nf .nilFunc
 | sl0 (esz : Nat) (a : Option Addr) (cap : Nat) : Jl w C (.sl esz []) (.slice a 0 cap)
 | sl (esz : Nat) (rows : List (List PV)) (r o cap : Nat) (vals : Nat → Nat → Value) :
   rows.length ≤ cap → (∀ row ∈ rows, row.length = esz) →
   (∀ (i j : Nat) row x, rows[i]? = some row → row[j]? = some x → C r (o + i * esz + j) ∧ cellAt w r (o + i * esz + j) = some (vals i j)) →
   (∀ (i j : Nat) row x, rows[i]? = some row → row[j]? = some x → Jl w C x (vals i j)) →
   Jl w C (.sl esz rows) (.slice (some ⟨r, o, none⟩) rows.length cap)
 | slc (esz : Nat) (rows : List (List PV)) (a : Option Addr) : Jl w C (.sl esz rows) (.slice a rows.length rows.length) → Jl w C (.slc esz rows) (.slice a rows.length rows.length)
structure Sn where
 σ : List Blk
 g : Gh
 w : World
def Ji7 (σ : List Blk) (b : Nat) : Prop := ∃ cs, σ[b]? = some (.box cs)
def Juo (s : Sn) (b esz i n : Nat) (v : Value) : Prop :=
 (s.g.μ b = none ∧ i = 0 ∧ n = 0 ∧ v = .slice none 0 0) ∨
 ∃ r cap c e fz, s.g.μ b = some (r, 0) ∧ v = .slice (some ⟨r, i * esz, none⟩) n cap ∧ n ≤ cap ∧ s.w.heap[r]? = some (.cells c e fz) ∧ (i + cap) * esz ≤ c.size
inductive Jf (s : Sn) : AV → Value → Prop where
 | p (c v) : Jl s.w s.g.C c v → Jf s (.p c) v
 | data (cs : List PV) (vs : Array Value) : cs.length = vs.size → (∀ (i : Nat) x v, cs[i]? = some x → vs[i]? = some v → Jl s.w s.g.C x v) → Jf s (.data cs) (.agg vs)
 | agg (cs : List AV) (vs : Array Value) : cs.length = vs.size → (∀ (i : Nat) v, vs[i]? = some v → v.oneCell' = true) → (∀ (i : Nat) x v, cs[i]? = some x → vs[i]? = some v → Jf s x v) → Jf s (.agg cs) (.agg vs)
 | tup (cs : List AV) (vs : Array Value) : cs.length = vs.size → (∀ (i : Nat) x v, cs[i]? = some x → vs[i]? = some v → Jf s x v) → Jf s (.tup cs) (.tuple vs)
 | ptr (b off r o) : s.g.μ b = some (r, o) → Ji7 s.σ b → Jf s (.ptr b off) (.pointer (some ⟨r, o + off, none⟩))
 | cp (cs : List PV) (off r o : Nat) (vals : Nat → Value) :
   (∀ (j : Nat) x, cs[j]? = some x → s.g.C r (o + j) ∧ cellAt s.w r (o + j) = some (vals j)) →
   (∀ (j : Nat) x, cs[j]? = some x → Jl s.w s.g.C x (vals j)) → Jf s (.cp cs off) (.pointer (some ⟨r, o + off, none⟩))
 | slr (b i n v wm esz rows) : (∃ a cap, v = .slice a n cap ∧ (n = 0 ∨ a ≠ none)) → s.σ[b]? = some (.arr wm esz rows) → i + n ≤ rows.length → (i + n = rows.length → Juo s b esz i n v) → Jf s (.slr b i n) v
 | ep (b ext i off v wm esz rows) : (∃ r o, v = .pointer (some ⟨r, o, none⟩)) → s.σ[b]? = some (.arr wm esz rows) → ext ≤ rows.length →
   (ext = rows.length → i < ext → ∃ r, s.g.μ b = some (r, 0) ∧ v = .pointer (some ⟨r, i * esz + off, none⟩)) → Jf s (.ep b ext i off) v
 | fn (f : FuncId) (first caps : List AV) (fs cs : Array Value) : first.length = fs.size → caps.length = cs.size →
   (∀ (i : Nat) x v, first[i]? = some x → fs[i]? = some v → Jf s x v) → (∀ (i : Nat) x v, caps[i]? = some x → cs[i]? = some v → Jf s x v) →
   Jf s (.fn f first caps) (.func (.func f) fs cs)
 | unk (x : Bool) : Jf s .unk (.bool x)
def Wr1 (s : Sn) (b r o : Nat) : Prop :=
 match s.σ[b]? with
 | some (.box cs) => ∃ o0, s.g.μ b = some (r, o0) ∧ o0 ≤ o ∧ o < o0 + cs.length
 | some (.arr true _ _) => ∃ o0, s.g.μ b = some (r, o0)
 | some (.arr false esz rows) => ∃ o0, s.g.μ b = some (r, o0) ∧ rows.length * esz ≤ o
 | _ => False
def Wr (s : Sn) (r o : Nat) : Prop := ∃ b, Wr1 s b r o
def Free (fz : Nat × Nat) (a b : Nat) : Prop := ∀ o, a ≤ o → o < b → ¬ (fz.1 ≤ o ∧ o < fz.2)
def J9x (esz : Nat) (fz : Nat × Nat) (n : Nat) : Prop := Free fz 0 n ∧ (esz ≠ 1 → ¬ (fz.1 ≤ n ∧ n < fz.2))
theorem J9x.zero (esz n : Nat) : J9x esz (0, 0) n := ⟨fun _ _ _ h => by simp at h, fun _ h => by simp at h⟩
def Jic (s : Sn) (b : Nat) (cs : List AV) : Prop :=
 ∃ r o c e fz, s.g.μ b = some (r, o) ∧ s.w.heap[r]? = some (.cells c e fz) ∧ o + cs.length ≤ c.size ∧
  (∀ (i : Nat) x, cs[i]? = some x → ∃ v, c[o + i]? = some v ∧ Jf s x v ∧ v.oneCell' = true) ∧ Free fz o (o + cs.length)
def Ji6 (s : Sn) (b : Nat) (wm : Bool) (esz : Nat) (rows : List (List PV)) : Prop :=
 (s.g.μ b = none ∧ rows = []) ∨
 ∃ r c e fz, s.g.μ b = some (r, 0) ∧ s.w.heap[r]? = some (.cells c e fz) ∧ (∀ row ∈ rows, row.length = esz) ∧ rows.length * esz ≤ c.size ∧
  (∀ (i j : Nat) row x, rows[i]? = some row → row[j]? = some x → (∃ v, c[i * esz + j]? = some v ∧ Jl s.w s.g.C x v) ∧ (wm = false → s.g.C r (i * esz + j))) ∧
  J9x esz fz c.size
structure Inv (s : Sn) : Prop where
 box : ∀ b cs, s.σ[b]? = some (.box cs) → Jic s b cs
 arr : ∀ b wm esz rows, s.σ[b]? = some (.arr wm esz rows) → Ji6 s b wm esz rows
 apart : ∀ b1 b2 r o, Wr1 s b1 r o → Wr1 s b2 r o → b1 = b2
 const : ∀ r o, s.g.C r o → r < s.w.heap.size ∧ ∀ b, ¬ Wr1 s b r o
def J98 (W : Nat → Nat → Prop) (w0 w : World) : Prop :=
 w0.heap.size ≤ w.heap.size ∧
 (∀ (r : Nat) c e fz, w0.heap[r]? = some (.cells c e fz) → ∃ c', w.heap[r]? = some (.cells c' e fz) ∧ c'.size = c.size ∧ ∀ o, ¬ W r o → c'[o]? = c[o]?) ∧
 (∀ (r : Nat) x, w0.heap[r]? = some x → (∀ c e fz, x ≠ .cells c e fz) → w.heap[r]? = some x) ∧ w.os = w0.os ∧ w.output = w0.output
structure Js (s0 s : Sn) : Prop where
 keep : J98 (Wr s0) s0.w s.w
 cmono : ∀ r o, s0.g.C r o → s.g.C r o
 cnew : ∀ r o, s.g.C r o → s0.g.C r o ∨ Wr s0 r o ∨ s0.w.heap.size ≤ r
 wnew : ∀ r o, Wr s r o → Wr s0 r o ∨ s0.w.heap.size ≤ r
 len : s0.σ.length ≤ s.σ.length
 box : ∀ b cs, s0.σ[b]? = some (.box cs) → (∃ cs', s.σ[b]? = some (.box cs') ∧ cs'.length = cs.length) ∧ s.g.μ b = s0.g.μ b
 arr : ∀ b wm esz rows, s0.σ[b]? = some (.arr wm esz rows) → ∃ wm' rows', s.σ[b]? = some (.arr wm' esz rows') ∧ (wm' = true → wm = true) ∧
  rows.length ≤ rows'.length ∧ (rows'.length = rows.length → s.g.μ b = s0.g.μ b)
theorem J98.refl (W w) : J98 W w w := ⟨Nat.le_refl _, fun _ c _ _ h => ⟨c, h, rfl, fun _ _ => rfl⟩, fun _ _ h _ => h, rfl, rfl⟩
theorem J98.mono {W W' : Nat → Nat → Prop} {w0 w} (h : J98 W w0 w) (hw : ∀ r o, W r o → W' r o) : J98 W' w0 w :=
 ⟨h.1, fun r c e fz hr => let ⟨c', a, b, d⟩ := h.2.1 r c e fz hr; ⟨c', a, b, fun o ho => d o fun x => ho (hw _ _ x)⟩, h.2.2⟩
theorem J98.cell {W w0 w} (h : J98 W w0 w) {r o v} (hn : ¬ W r o) (hv : cellAt w0 r o = some v) : cellAt w r o = some v := by
 unfold cellAt at hv
 split at hv
 ·rename_i c e fz hr
  obtain ⟨c', h1, _, h3⟩ := h.2.1 r c e fz hr
  rw [J1E h1, h3 o hn, hv]
 ·cases hv
theorem Js.refl (s : Sn) : Js s s :=
 ⟨.refl _ _, fun _ _ h => h, fun _ _ h => .inl h, fun _ _ h => .inl h, Nat.le_refl _, fun _ cs h => ⟨⟨cs, h, rfl⟩, rfl⟩,
  fun _ wm _ rows h => ⟨wm, rows, h, id, Nat.le_refl _, fun _ => rfl⟩⟩
theorem J0o {w : World} {r : Nat} {x : Obj} (h : w.heap[r]? = some x) : r < w.heap.size := by
 rcases Nat.lt_or_ge r w.heap.size with hl | hl
 ·exact hl
 ·simp [Array.getElem?_eq_none hl] at h
theorem Js.trans {s0 s1 s2 : Sn} (h : Js s0 s1) (h' : Js s1 s2) : Js s0 s2 where
 keep := by
  refine ⟨Nat.le_trans h.keep.1 h'.keep.1, fun r c e fz hr => ?_, fun r x hr hx => h'.keep.2.2.1 r x (h.keep.2.2.1 r x hr hx) hx, h'.keep.2.2.2.1.trans h.keep.2.2.2.1, h'.keep.2.2.2.2.trans h.keep.2.2.2.2⟩
  obtain ⟨c1, a1, b1, d1⟩ := h.keep.2.1 r c e fz hr
  obtain ⟨c2, a2, b2, d2⟩ := h'.keep.2.1 r c1 e fz a1
  refine ⟨c2, a2, b2.trans b1, fun o ho => (d2 o fun hw => ?_).trans (d1 o ho)⟩
  rcases h.wnew r o hw with hw | hw
  ·exact ho hw
  ·have := J0o hr; omega
 cmono r o hc := h'.cmono r o (h.cmono r o hc)
 cnew r o hc := by
  rcases h'.cnew r o hc with hc | hw | hn
  ·exact h.cnew r o hc
  ·rcases h.wnew r o hw with hw | hn
   ·exact .inr (.inl hw)
   ·exact .inr (.inr hn)
  ·exact .inr (.inr (Nat.le_trans h.keep.1 hn))
 wnew r o hw := by
  rcases h'.wnew r o hw with hw | hn
  ·exact h.wnew r o hw
  ·exact .inr (Nat.le_trans h.keep.1 hn)
 len := Nat.le_trans h.len h'.len
 box b cs hb := by
  obtain ⟨⟨c1, a1, l1⟩, m1⟩ := h.box b cs hb
  obtain ⟨⟨c2, a2, l2⟩, m2⟩ := h'.box b c1 a1
  exact ⟨⟨c2, a2, l2.trans l1⟩, m2.trans m1⟩
 arr b wm esz rows hb := by
  obtain ⟨wm1, r1, a1, b1, c1, d1⟩ := h.arr b wm esz rows hb
  obtain ⟨wm2, r2, a2, b2, c2, d2⟩ := h'.arr b wm1 esz r1 a1
  exact ⟨wm2, r2, a2, fun e => b1 (b2 e), Nat.le_trans c1 c2, fun e => (d2 (by omega)).trans (d1 (by omega))⟩
theorem Inv.cfix {s0 s : Sn} (hi : Inv s0) (t : Js s0 s) {r o v} (hc : s0.g.C r o) (hv : cellAt s0.w r o = some v) : cellAt s.w r o = some v :=
 t.keep.cell (fun ⟨b, hb⟩ => (hi.const r o hc).2 b hb) hv
theorem Jl.mono {s0 s : Sn} (hi : Inv s0) (t : Js s0 s) {x v} (h : Jl s0.w s0.g.C x v) : Jl s.w s.g.C x v := by
 induction h with
 | b x => exact .b x
 | i k n => exact .i k n
 | s l => exact .s l
 | np => exact .np
 | nf => exact .nf
 | sl0 esz a cap => exact .sl0 esz a cap
 | sl esz rows r o cap vals h1 h2 h3 _ ih =>
  exact .sl esz rows r o cap vals h1 h2 (fun i j row x hr hx => ⟨t.cmono _ _ (h3 i j row x hr hx).1, hi.cfix t (h3 i j row x hr hx).1 (h3 i j row x hr hx).2⟩) ih
 | slc esz rows a _ ih => exact .slc esz rows a ih
theorem Ji7.mono {s0 s : Sn} (t : Js s0 s) {b} (h : Ji7 s0.σ b) : Ji7 s.σ b := by
 obtain ⟨cs, h⟩ := h
 obtain ⟨⟨cs', h', _⟩, _⟩ := t.box b cs h
 exact ⟨cs', h'⟩
theorem Jf.mono {s0 s : Sn} (hi : Inv s0) (t : Js s0 s) {x v} (h : Jf s0 x v) : Jf s x v := by
 induction h with
 | p c v h => exact .p c v (h.mono hi t)
 | data cs vs h1 h2 => exact .data cs vs h1 fun i x v hx hv => (h2 i x v hx hv).mono hi t
 | agg cs vs h1 h2 _ ih => exact .agg cs vs h1 h2 ih
 | tup cs vs h1 _ ih => exact .tup cs vs h1 ih
 | ptr b off r o h1 h2 =>
  obtain ⟨cs, h3⟩ := h2
  exact .ptr b off r o ((t.box b cs h3).2.trans h1) (.mono t ⟨cs, h3⟩)
 | cp cs off r o vals h1 h2 => exact .cp cs off r o vals (fun j x hx => ⟨t.cmono _ _ (h1 j x hx).1, hi.cfix t (h1 j x hx).1 (h1 j x hx).2⟩) fun j x hx => (h2 j x hx).mono hi t
 | slr b i n v wm esz rows h0 h1 h2 h3 =>
  obtain ⟨wm', rows', a, _, c, d⟩ := t.arr b wm esz rows h1
  refine .slr b i n v wm' esz rows' h0 a (Nat.le_trans h2 c) fun e => ?_
  have e0 : rows'.length = rows.length := by omega
  rcases h3 (by omega) with ⟨m, hi0, hn, hv⟩ | ⟨r, cap, ce, e1, fz, m, hv, hcap, hh, hs⟩
  ·exact .inl ⟨(d e0).trans m, hi0, hn, hv⟩
  ·obtain ⟨c', k1, k2, _⟩ := t.keep.2.1 r ce e1 fz hh
   exact .inr ⟨r, cap, c', e1, fz, (d e0).trans m, hv, hcap, k1, by omega⟩
 | ep b ext i off v wm esz rows h0 h1 h2 h3 =>
  obtain ⟨wm', rows', a, _, c, d⟩ := t.arr b wm esz rows h1
  refine .ep b ext i off v wm' esz rows' h0 a (Nat.le_trans h2 c) fun e hlt => ?_
  have e0 : rows'.length = rows.length := by omega
  obtain ⟨r, m, hv⟩ := h3 (by omega) hlt
  exact ⟨r, (d e0).trans m, hv⟩
 | fn f first caps fs cs h1 h2 _ _ ih1 ih2 => exact .fn f first caps fs cs h1 h2 ih1 ih2
 | unk x => exact .unk x
theorem J4U {s0 s : Sn} (hi : Inv s0) (t : Js s0 s) (D : Nat → Prop)
  (same : ∀ b, ¬ D b → s.σ[b]? = s0.σ[b]? ∧ s.g.μ b = s0.g.μ b)
  (keepU : ∀ b r o v, ¬ D b → Wr1 s0 b r o → cellAt s0.w r o = some v → cellAt s.w r o = some v)
  (boxD : ∀ b cs, D b → s.σ[b]? = some (.box cs) → Jic s b cs)
  (arrD : ∀ b wm esz rows, D b → s.σ[b]? = some (.arr wm esz rows) → Ji6 s b wm esz rows)
  (apartD : ∀ b1 b2 r o, D b1 → Wr1 s b1 r o → Wr1 s b2 r o → b1 = b2)
  (constL : ∀ r o, s.g.C r o → r < s.w.heap.size)
  (constD : ∀ r o b, s.g.C r o → D b → ¬ Wr1 s b r o)
  (constU : ∀ r o b, s.g.C r o → ¬ s0.g.C r o → ¬ D b → ¬ Wr1 s0 b r o) : Inv s := by
 have wr : ∀ b r o, ¬ D b → (Wr1 s b r o ↔ Wr1 s0 b r o) := by
  intro b r o hd
  obtain ⟨h1, h2⟩ := same b hd
  unfold Wr1
  rw [h1, h2]
 have cells : ∀ (r : Nat) c e fz, s0.w.heap[r]? = some (.cells c e fz) → ∃ c', s.w.heap[r]? = some (.cells c' e fz) ∧ c'.size = c.size ∧ ∀ o v, cellAt s.w r o = some v → c'[o]? = some v := by
  intro r c e fz hr
  obtain ⟨c', h1, h2, _⟩ := t.keep.2.1 r c e fz hr
  exact ⟨c', h1, h2, fun o v h => by rw [← h, J1E h1]⟩
 refine ⟨?_, ?_, ?_, ?_⟩
 ·intro b cs hb
  by_cases hd : D b
  ·exact boxD b cs hd hb
  ·obtain ⟨h1, h2⟩ := same b hd
   obtain ⟨r, o, c, e, fz, m, hh, hl, hx, hf⟩ := hi.box b cs (h1 ▸ hb)
   obtain ⟨c', k1, k2, k3⟩ := cells r c e fz hh
   refine ⟨r, o, c', e, fz, h2.trans m, k1, by omega, fun i x hix => ?_, hf⟩
   obtain ⟨v, hv, hr, h1v⟩ := hx i x hix
   refine ⟨v, k3 _ _ (keepU b r (o + i) v hd ?_ (by rw [J1E hh]; exact hv)), hr.mono hi t, h1v⟩
   have : i < cs.length := by
    rcases Nat.lt_or_ge i cs.length with h | h
    ·exact h
    ·simp [List.getElem?_eq_none h] at hix
   have hb0 : s0.σ[b]? = some (.box cs) := h1 ▸ hb
   unfold Wr1
   rw [hb0]
   exact ⟨o, m, by omega, by omega⟩
 ·intro b wm esz rows hb
  by_cases hd : D b
  ·exact arrD b wm esz rows hd hb
  ·obtain ⟨h1, h2⟩ := same b hd
   rcases hi.arr b wm esz rows (h1 ▸ hb) with ⟨m, hr⟩ | ⟨r, c, e, fz, m, hh, hrow, hl, hx, hf⟩
   ·exact .inl ⟨h2.trans m, hr⟩
   ·obtain ⟨c', k1, k2, k3⟩ := cells r c e fz hh
    refine .inr ⟨r, c', e, fz, h2.trans m, k1, hrow, by omega, fun i j row x hir hjx => ?_, k2 ▸ hf⟩
    obtain ⟨⟨v, hv, hr⟩, hc⟩ := hx i j row x hir hjx
    refine ⟨⟨v, k3 _ _ ?_, hr.mono hi t⟩, fun e => t.cmono _ _ (hc e)⟩
    cases wm with
    | true =>
     refine keepU b r _ v hd ?_ (by rw [J1E hh]; exact hv)
     have hb0 : s0.σ[b]? = some (.arr true esz rows) := h1 ▸ hb
     unfold Wr1
     rw [hb0]
     exact ⟨0, m⟩
    | false => exact hi.cfix t (hc rfl) (by rw [J1E hh]; exact hv)
 ·intro b1 b2 r o h1 h2
  by_cases hd1 : D b1
  ·exact apartD b1 b2 r o hd1 h1 h2
  ·by_cases hd2 : D b2
   ·exact (apartD b2 b1 r o hd2 h2 h1).symm
   ·exact hi.apart b1 b2 r o ((wr b1 r o hd1).1 h1) ((wr b2 r o hd2).1 h2)
 ·intro r o hc
  refine ⟨constL r o hc, fun b hb => ?_⟩
  by_cases hd : D b
  ·exact constD r o b hc hd hb
  ·by_cases h0 : s0.g.C r o
   ·exact (hi.const r o h0).2 b ((wr b r o hd).1 hb)
   ·exact constU r o b hc h0 hd ((wr b r o hd).1 hb)
end Go.Am
end
section
namespace Go.Am
theorem J09 {σ : List Blk} {b : Nat} {x y : Blk} (h : σ[b]? = some x) : (σ.set b y)[b]? = some y := by
 have : b < σ.length := by
  rcases Nat.lt_or_ge b σ.length with h' | h'
  ·exact h'
  ·simp [List.getElem?_eq_none h'] at h
 simp [this]
theorem JI {σ : List Blk} {b c : Nat} {y : Blk} (h : b ≠ c) : (σ.set b y)[c]? = σ[c]? := by
 simp [h]
theorem Jc1 {s0 : Sn} (hi : Inv s0) {w' : World} (hh : w'.heap = s0.w.heap) (ho : w'.os = s0.w.os) (hp : w'.output = s0.w.output) :
  Inv ⟨s0.σ, s0.g, w'⟩ ∧ Js s0 ⟨s0.σ, s0.g, w'⟩ := by
 have hc : ∀ r o, cellAt w' r o = cellAt s0.w r o := fun r o => by unfold cellAt; rw [hh]
 have t : Js s0 ⟨s0.σ, s0.g, w'⟩ := by
  refine ⟨⟨by rw [hh]; exact Nat.le_refl _, fun r c e fz h => ⟨c, by rw [hh]; exact h, rfl, fun _ _ => rfl⟩, fun r x h _ => by rw [hh]; exact h, ho, hp⟩, fun _ _ h => h, fun _ _ h => .inl h, fun r o ⟨b, hb⟩ => .inl ⟨b, hb⟩, Nat.le_refl _, fun _ cs h => ⟨⟨cs, h, rfl⟩, rfl⟩,
   fun _ wm _ rows h => ⟨wm, rows, h, id, Nat.le_refl _, fun _ => rfl⟩⟩
 exact ⟨J4U hi t (fun _ => False) (fun _ _ => ⟨rfl, rfl⟩) (fun _ r o v _ _ h => by rw [hc]; exact h) (fun _ _ h => h.elim) (fun _ _ _ _ h => h.elim)
  (fun _ _ _ _ h => h.elim) (fun r o h => by show r < w'.heap.size; rw [hh]; exact (hi.const r o h).1) (fun _ _ _ _ h => h.elim) (fun _ _ _ h h' => (h' h).elim), t⟩
theorem J9y {W : Nat → Nat → Prop} {w w' : World} {x : Obj} (hh : w'.heap = w.heap.push x) (ho : w'.os = w.os) (hp : w'.output = w.output) : J98 W w w' := by
 have hr : ∀ (r : Nat) y, w.heap[r]? = some y → w'.heap[r]? = some y := by
  intro r y h
  have := J0o h
  rw [hh, Array.getElem?_push]
  split
  ·omega
  ·exact h
 exact ⟨by rw [hh]; simp, fun r c e fz h => ⟨c, hr r _ h, rfl, fun _ _ => rfl⟩, fun r y h _ => hr r y h, ho, hp⟩
theorem J72 {w w' : World} {x : Obj} (hh : w'.heap = w.heap.push x) : w'.heap[w.heap.size]? = some x := by
 rw [hh]; simp
theorem Jck {w w' : World} {x : Obj} (hh : w'.heap = w.heap.push x) {r o v} (h : cellAt w r o = some v) : cellAt w' r o = some v :=
 (J9y (W := fun _ _ => False) (w := w) (w' := { w' with os := w.os, output := w.output }) hh rfl rfl).cell (fun h => h) h
def J3B (g : Gh) (new : Nat) (x : Option (Nat × Nat)) : Gh := ⟨fun b => if b = new then x else g.μ b, g.C⟩
theorem Jhk {s0 s : Sn} {new : Nat} {blk : Blk} (hd : s0.σ[new]? = some .dead) (hs : s.σ = s0.σ.set new blk) (x : Option (Nat × Nat)) (hg : s.g.μ = (J3B s0.g new x).μ) :
  s0.σ.length ≤ s.σ.length ∧ (∀ b cs, s0.σ[b]? = some (.box cs) → (∃ cs', s.σ[b]? = some (.box cs') ∧ cs'.length = cs.length) ∧ s.g.μ b = s0.g.μ b) ∧
  (∀ b wm esz rows, s0.σ[b]? = some (.arr wm esz rows) → ∃ wm' rows', s.σ[b]? = some (.arr wm' esz rows') ∧ (wm' = true → wm = true) ∧
  rows.length ≤ rows'.length ∧ (rows'.length = rows.length → s.g.μ b = s0.g.μ b)) := by
 have hn : ∀ b y, s0.σ[b]? = some y → y ≠ .dead → s.σ[b]? = some y ∧ s.g.μ b = s0.g.μ b := by
  intro b y hb hy
  have hne : new ≠ b := by rintro rfl; rw [hd] at hb; exact hy (by injection hb with h; exact h.symm)
  rw [hs, JI hne, hg]
  exact ⟨hb, if_neg (fun e => hne e.symm)⟩
 refine ⟨by rw [hs]; simp, fun b cs h => ?_, fun b wm esz rows h => ?_⟩
 ·obtain ⟨a, m⟩ := hn b _ h (by simp)
  exact ⟨⟨cs, a, rfl⟩, m⟩
 ·obtain ⟨a, m⟩ := hn b _ h (by simp)
  exact ⟨wm, rows, a, id, Nat.le_refl _, fun _ => m⟩
def JtG (s0 : Sn) (c : Array Value) : Blk → Prop
 | .box cs => cs.length ≤ c.size ∧ ∀ (i : Nat) x, cs[i]? = some x → ∃ v, c[i]? = some v ∧ Jf s0 x v ∧ v.oneCell' = true
 | .arr true esz rows => (∀ row ∈ rows, row.length = esz) ∧ rows.length * esz ≤ c.size ∧
  ∀ (i j : Nat) row x, rows[i]? = some row → row[j]? = some x → ∃ v, c[i * esz + j]? = some v ∧ Jl s0.w s0.g.C x v
 | _ => False
theorem JcB {s0 : Sn} (hi : Inv s0) {new : Nat} (hd : s0.σ[new]? = some .dead) {blk : Blk} {c : Array Value} {e : TypeId} {fz : Nat × Nat} {w' : World}
  (hh : w'.heap = s0.w.heap.push (.cells c e fz)) (ho : w'.os = s0.w.os) (hp : w'.output = s0.w.output) (hf : Free fz 0 c.size) (hf2 : ∀ wm esz rows, blk = .arr wm esz rows → esz ≠ 1 → ¬ (fz.1 ≤ c.size ∧ c.size < fz.2)) (hb : JtG s0 c blk) :
  Inv ⟨s0.σ.set new blk, J3B s0.g new (some (s0.w.heap.size, 0)), w'⟩ ∧ Js s0 ⟨s0.σ.set new blk, J3B s0.g new (some (s0.w.heap.size, 0)), w'⟩ := by
 have hself : (s0.σ.set new blk)[new]? = some blk := J09 hd
 have wr : ∀ b r o, b ≠ new → (Wr1 ⟨s0.σ.set new blk, J3B s0.g new (some (s0.w.heap.size, 0)), w'⟩ b r o ↔ Wr1 s0 b r o) := by
  intro b r o hne
  unfold Wr1
  simp only [J3B, if_neg hne, JI (Ne.symm hne)]
 have wrn : ∀ r o, Wr1 ⟨s0.σ.set new blk, J3B s0.g new (some (s0.w.heap.size, 0)), w'⟩ new r o → r = s0.w.heap.size := by
  intro r o h
  unfold Wr1 at h
  simp only [hself, J3B] at h
  split at h
  ·obtain ⟨o0, m, _⟩ := h; simp at m; exact m.1.symm
  ·obtain ⟨o0, m⟩ := h; simp at m; exact m.1.symm
  ·obtain ⟨o0, m, _⟩ := h; simp at m; exact m.1.symm
  ·exact h.elim
 have wlt : ∀ b r o, Wr1 s0 b r o → r < s0.w.heap.size := by
  intro b r o h
  unfold Wr1 at h
  split at h
  ·rename_i cs hb
   obtain ⟨r', o', c', e', fz', m, k, _⟩ := hi.box b cs hb
   obtain ⟨o0, m', _⟩ := h
   rw [m] at m'; injection m' with m'; injection m' with m1 _
   exact m1 ▸ J0o k
  ·rename_i hb
   obtain ⟨o0, m'⟩ := h
   rcases hi.arr b _ _ _ hb with ⟨m, _⟩ | ⟨r', c', e', fz', m, k, _⟩
   ·rw [m] at m'; cases m'
   ·rw [m] at m'; injection m' with m'; injection m' with m1 _
    exact m1 ▸ J0o k
  ·rename_i hb
   obtain ⟨o0, m', _⟩ := h
   rcases hi.arr b _ _ _ hb with ⟨m, _⟩ | ⟨r', c', e', fz', m, k, _⟩
   ·rw [m] at m'; cases m'
   ·rw [m] at m'; injection m' with m'; injection m' with m1 _
    exact m1 ▸ J0o k
  ·exact h.elim
 have t : Js s0 ⟨s0.σ.set new blk, J3B s0.g new (some (s0.w.heap.size, 0)), w'⟩ := by
  obtain ⟨k1, k2, k3⟩ := Jhk (s := ⟨s0.σ.set new blk, J3B s0.g new (some (s0.w.heap.size, 0)), w'⟩) hd rfl (some (s0.w.heap.size, 0)) rfl
  refine ⟨J9y hh ho hp, fun _ _ h => h, fun _ _ h => .inl h, ?_, k1, k2, k3⟩
  rintro r o ⟨b, hb⟩
  by_cases e : b = new
  ·subst e; exact .inr (Nat.le_of_eq (wrn r o hb).symm)
  ·exact .inl ⟨b, (wr b r o e).1 hb⟩
 refine ⟨J4U hi t (fun b => b = new) (fun b hne => ⟨JI (Ne.symm hne), if_neg hne⟩) (fun b r o v _ _ h => Jck hh h) ?_ ?_ ?_ ?_ ?_ ?_, t⟩
 ·rintro b cs rfl hb'
  rw [hself] at hb'; injection hb' with hb'; subst hb'
  obtain ⟨h1, h2⟩ := hb
  refine ⟨s0.w.heap.size, 0, c, e, fz, if_pos rfl, J72 hh, by omega, fun i x hx => ?_, fun o _ hl => hf o (Nat.zero_le _) (by omega)⟩
  obtain ⟨v, hv, hr, h1v⟩ := h2 i x hx
  exact ⟨v, by rw [Nat.zero_add]; exact hv, hr.mono hi t, h1v⟩
 ·rintro b wm esz rows rfl hb'
  rw [hself] at hb'; injection hb' with hb'; subst hb'
  cases wm with
  | false => exact hb.elim
  | true =>
   obtain ⟨h1, h2, h3⟩ := hb
   refine .inr ⟨s0.w.heap.size, c, e, fz, if_pos rfl, J72 hh, h1, h2, fun i j row x hr hx => ⟨?_, fun h => by cases h⟩, hf, hf2 _ _ _ rfl⟩
   obtain ⟨v, hv, hr⟩ := h3 i j row x hr hx
   exact ⟨v, hv, hr.mono hi t⟩
 ·rintro b1 b2 r o rfl h1 h2
  by_cases e : b2 = b1
  ·exact e.symm
  ·have := wlt _ _ _ ((wr b2 r o e).1 h2)
   have := wrn r o h1
   omega
 ·intro r o hc
  show r < w'.heap.size
  rw [hh]; have := (hi.const r o hc).1; simp; omega
 ·rintro r o b hc rfl h
  have := (hi.const r o hc).1
  have := wrn r o h
  omega
 ·exact fun r o b hc hn => (hn hc).elim
theorem J8N {s0 : Sn} (hi : Inv s0) : ∀ b r o, Wr1 s0 b r o → r < s0.w.heap.size := by
 intro b r o h
 unfold Wr1 at h
 split at h
 ·rename_i cs hb
  obtain ⟨r', o', c', e', fz', m, k, _⟩ := hi.box b cs hb
  obtain ⟨o0, m', _⟩ := h
  rw [m] at m'; injection m' with m'; injection m' with m1 _
  exact m1 ▸ J0o k
 ·rename_i hb
  obtain ⟨o0, m'⟩ := h
  rcases hi.arr b _ _ _ hb with ⟨m, _⟩ | ⟨r', c', e', fz', m, k, _⟩
  ·rw [m] at m'; cases m'
  ·rw [m] at m'; injection m' with m'; injection m' with m1 _
   exact m1 ▸ J0o k
 ·rename_i hb
  obtain ⟨o0, m', _⟩ := h
  rcases hi.arr b _ _ _ hb with ⟨m, _⟩ | ⟨r', c', e', fz', m, k, _⟩
  ·rw [m] at m'; cases m'
  ·rw [m] at m'; injection m' with m'; injection m' with m1 _
   exact m1 ▸ J0o k
 ·exact h.elim
theorem JcP {s0 : Sn} (hi : Inv s0) {new : Nat} (hd : s0.σ[new]? = some .dead) (esz : Nat) :
  Inv ⟨s0.σ.set new (.arr true esz []), J3B s0.g new none, s0.w⟩ ∧ Js s0 ⟨s0.σ.set new (.arr true esz []), J3B s0.g new none, s0.w⟩ := by
 have hself : (s0.σ.set new (Blk.arr true esz []))[new]? = some (.arr true esz []) := J09 hd
 have wr : ∀ b r o, b ≠ new → (Wr1 ⟨s0.σ.set new (.arr true esz []), J3B s0.g new none, s0.w⟩ b r o ↔ Wr1 s0 b r o) := by
  intro b r o hne
  unfold Wr1
  simp only [J3B, if_neg hne, JI (Ne.symm hne)]
 have wrn : ∀ r o, ¬ Wr1 ⟨s0.σ.set new (.arr true esz []), J3B s0.g new none, s0.w⟩ new r o := by
  intro r o h
  unfold Wr1 at h
  simp only [hself, J3B] at h
  simp at h
 have t : Js s0 ⟨s0.σ.set new (.arr true esz []), J3B s0.g new none, s0.w⟩ := by
  obtain ⟨k1, k2, k3⟩ := Jhk (s := ⟨s0.σ.set new (.arr true esz []), J3B s0.g new none, s0.w⟩) hd rfl none rfl
  refine ⟨.refl _ _, fun _ _ h => h, fun _ _ h => .inl h, ?_, k1, k2, k3⟩
  rintro r o ⟨b, hb⟩
  by_cases e : b = new
  ·subst e; exact (wrn r o hb).elim
  ·exact .inl ⟨b, (wr b r o e).1 hb⟩
 refine ⟨J4U hi t (fun b => b = new) (fun b hne => ⟨JI (Ne.symm hne), if_neg hne⟩) (fun b r o v _ _ h => h) ?_ ?_ ?_ ?_ ?_ ?_, t⟩
 ·rintro b cs rfl hb'
  rw [hself] at hb'; cases hb'
 ·rintro b wm esz' rows rfl hb'
  rw [hself] at hb'; cases hb'
  exact .inl ⟨if_pos rfl, rfl⟩
 ·rintro b1 b2 r o rfl h1 h2
  exact (wrn r o h1).elim
 ·exact fun r o hc => (hi.const r o hc).1
 ·rintro r o b hc rfl h
  exact wrn r o h
 ·exact fun r o b hc hn => (hn hc).elim
def J6J (g : Gh) (p : Nat → Nat → Prop) : Gh := ⟨g.μ, fun r o => g.C r o ∨ p r o⟩
theorem Jnt {s0 : Sn} (hi : Inv s0) {x : Obj} {w' : World}
  (hh : w'.heap = s0.w.heap.push x) (ho : w'.os = s0.w.os) (hp : w'.output = s0.w.output) :
  Inv ⟨s0.σ, J6J s0.g fun r _ => r = s0.w.heap.size, w'⟩ ∧ Js s0 ⟨s0.σ, J6J s0.g fun r _ => r = s0.w.heap.size, w'⟩ := by
 have t : Js s0 ⟨s0.σ, J6J s0.g fun r _ => r = s0.w.heap.size, w'⟩ := by
  refine ⟨J9y hh ho hp, fun _ _ h => .inl h, fun r o h => ?_, fun r o h => .inl h, Nat.le_refl _, fun _ cs h => ⟨⟨cs, h, rfl⟩, rfl⟩,
   fun _ wm _ rows h => ⟨wm, rows, h, id, Nat.le_refl _, fun _ => rfl⟩⟩
  rcases h with h | h
  ·exact .inl h
  ·exact .inr (.inr (Nat.le_of_eq h.symm))
 refine ⟨J4U hi t (fun _ => False) (fun _ _ => ⟨rfl, rfl⟩) (fun b r o v _ _ h => Jck hh h) (fun _ _ h => h.elim) (fun _ _ _ _ h => h.elim)
  (fun _ _ _ _ h => h.elim) ?_ (fun _ _ _ _ h => h.elim) ?_, t⟩
 ·intro r o hc
  show r < w'.heap.size
  rw [hh]
  rcases hc with hc | hc
  ·have := (hi.const r o hc).1; simp; omega
  ·simp; omega
 ·intro r o b hc hn _ h
  rcases hc with hc | hc
  ·exact hn hc
  ·have := J8N hi b r o h; omega
structure Put (r : Nat) (o : Nat) (vs : List Value) (w w' : World) : Prop where
 there : ∃ c e fz c', w.heap[r]? = some (.cells c e fz) ∧ w'.heap[r]? = some (.cells c' e fz) ∧ c'.size = c.size ∧ o + vs.length ≤ c.size ∧
  (∀ (j : Nat) v, vs[j]? = some v → c'[o + j]? = some v) ∧ ∀ k, (k < o ∨ o + vs.length ≤ k) → c'[k]? = c[k]?
 rest : ∀ r' : Nat, r' ≠ r → w'.heap[r']? = w.heap[r']?
 size : w'.heap.size = w.heap.size
 os : w'.os = w.os
 output : w'.output = w.output
theorem Put.keep {W : Nat → Nat → Prop} {r o vs w w'} (h : Put r o vs w w') (hw : ∀ k, o ≤ k → k < o + vs.length → W r k) : J98 W w w' := by
 obtain ⟨c, e, fz, c', h1, h2, h3, _, _, h5⟩ := h.there
 refine ⟨Nat.le_of_eq h.size.symm, fun r' c1 e1 fz1 hr => ?_, fun r' x hr hx => ?_, h.os, h.output⟩
 ·by_cases e' : r' = r
  ·subst e'
   rw [h1] at hr; injection hr with hr; injection hr with a1 a2 a3
   subst a1 a2 a3
   refine ⟨c', h2, h3, fun k hk => h5 k ?_⟩
   rcases Nat.lt_or_ge k o with h | h
   ·exact .inl h
   ·rcases Nat.lt_or_ge k (o + vs.length) with h' | h'
    ·exact (hk (hw k h h')).elim
    ·exact .inr h'
  ·exact ⟨c1, by rw [h.rest r' e']; exact hr, rfl, fun _ _ => rfl⟩
 ·by_cases e' : r' = r
  ·subst e'; rw [h1] at hr; injection hr with hr; exact (hx _ _ _ hr.symm).elim
  ·rw [h.rest r' e']; exact hr
theorem Put.cell {r o vs w w'} (h : Put r o vs w w') {r' k v} (hv : cellAt w r' k = some v) (hn : r' ≠ r ∨ k < o ∨ o + vs.length ≤ k) : cellAt w' r' k = some v := by
 obtain ⟨c, e, fz, c', h1, h2, h3, _, _, h5⟩ := h.there
 by_cases e' : r' = r
 ·subst e'
  rw [J1E h1] at hv
  rw [J1E h2, h5 k (hn.resolve_left (fun h => h rfl)), hv]
 ·unfold cellAt; rw [h.rest r' e']; exact hv
inductive JdR : Blk → Blk → Prop where
 | box (cs cs' : List AV) : cs'.length = cs.length → JdR (.box cs) (.box cs')
 | arr (esz : Nat) (rows rows' : List (List PV)) : rows'.length = rows.length → JdR (.arr true esz rows) (.arr true esz rows')
theorem Jc3 {s0 : Sn} (hi : Inv s0) {b : Nat} {old blk : Blk} {r o : Nat} {vs : List Value} {w' : World} (hb : s0.σ[b]? = some old)
  (hput : Put r o vs s0.w w') (hw : ∀ k, o ≤ k → k < o + vs.length → Wr1 s0 b r k)
  (hk : JdR old blk)
  (hbox : ∀ cs, blk = .box cs → (∀ {x v}, Jf s0 x v → Jf ⟨s0.σ.set b blk, s0.g, w'⟩ x v) → Jic ⟨s0.σ.set b blk, s0.g, w'⟩ b cs)
  (harr : ∀ esz rows, blk = .arr true esz rows → (∀ {x v}, Jl s0.w s0.g.C x v → Jl w' s0.g.C x v) → Ji6 ⟨s0.σ.set b blk, s0.g, w'⟩ b true esz rows) :
  Inv ⟨s0.σ.set b blk, s0.g, w'⟩ ∧ Js s0 ⟨s0.σ.set b blk, s0.g, w'⟩ := by
 have hself : (s0.σ.set b blk)[b]? = some blk := J09 hb
 have wr : ∀ b' r o, (Wr1 ⟨s0.σ.set b blk, s0.g, w'⟩ b' r o ↔ Wr1 s0 b' r o) := by
  intro b' r o
  by_cases e : b' = b
  ·subst e
   unfold Wr1
   simp only [hself, hb]
   cases hk with
   | box cs cs' hl => simp [hl]
   | arr esz rows rows' hl => simp
  ·unfold Wr1
   simp only [JI (Ne.symm e)]
 have t : Js s0 ⟨s0.σ.set b blk, s0.g, w'⟩ := by
  refine ⟨hput.keep fun k h1 h2 => ⟨b, hw k h1 h2⟩, fun _ _ h => h, fun _ _ h => .inl h, fun r o ⟨b', h⟩ => .inl ⟨b', (wr b' r o).1 h⟩, by simp, fun b' cs h => ?_, fun b' wm esz rows h => ?_⟩
  ·by_cases e : b' = b
   ·subst e
    rw [hb] at h; injection h with h; subst h
    cases hk with
    | box _ cs' hl => exact ⟨⟨_, hself, hl⟩, rfl⟩
   ·exact ⟨⟨cs, by rw [← h]; exact JI (Ne.symm e), rfl⟩, rfl⟩
  ·by_cases e : b' = b
   ·subst e
    rw [hb] at h; injection h with h; subst h
    cases hk with
    | arr _ _ rows' hl => exact ⟨_, _, hself, id, Nat.le_of_eq hl.symm, fun _ => rfl⟩
   ·exact ⟨wm, rows, by rw [← h]; exact JI (Ne.symm e), id, Nat.le_refl _, fun _ => rfl⟩
 refine ⟨J4U hi t (fun b' => b' = b) (fun b' hne => ⟨JI (Ne.symm hne), rfl⟩) ?_ ?_ ?_ ?_ ?_ ?_ ?_, t⟩
 ·intro b' r' k v hne hwr hv
  refine hput.cell hv ?_
  rcases Nat.lt_or_ge k o with h | h
  ·exact .inr (.inl h)
  ·rcases Nat.lt_or_ge k (o + vs.length) with h' | h'
   ·refine .inl fun e => hne ?_
    subst e
    exact hi.apart _ _ _ _ hwr (hw k h h')
   ·exact .inr (.inr h')
 ·rintro b' cs rfl h
  rw [hself] at h; injection h with h; subst h
  exact hbox _ rfl fun h => h.mono hi t
 ·rintro b' wm esz rows rfl h
  rw [hself] at h; injection h with h; subst h
  cases hk with
  | arr _ _ rows' hl => exact harr _ _ rfl fun h => h.mono hi t
 ·rintro b1 b2 r o rfl h1 h2
  exact hi.apart _ _ _ _ ((wr _ _ _).1 h1) ((wr _ _ _).1 h2)
 ·intro r o hc
  show r < w'.heap.size
  rw [hput.size]; exact (hi.const r o hc).1
 ·rintro r o b' hc rfl h
  exact (hi.const r o hc).2 _ ((wr _ _ _).1 h)
 ·exact fun r o b hc hn => (hn hc).elim
end Go.Am
end
section
namespace Go.Am
theorem J48 {a b n e : Nat} (h1 : a < n) (h2 : b < e) : a * e + b < n * e := by
 have h : (a + 1) * e ≤ n * e := Nat.mul_le_mul_right e h1
 rw [Nat.succ_mul] at h
 omega
theorem J8 {α : Type} {l : List α} {i : Nat} {x : α} (h : l[i]? = some x) : i < l.length := by
 rcases Nat.lt_or_ge i l.length with h' | h'
 ·exact h'
 ·simp [List.getElem?_eq_none h'] at h
theorem J8I {α : Type} {l : Array α} {i : Nat} {x : α} (h : l[i]? = some x) : i < l.size := by
 rcases Nat.lt_or_ge i l.size with h' | h'
 ·exact h'
 ·simp [Array.getElem?_eq_none h'] at h
theorem JM {α : Type} {l : List α} {i : Nat} {x : α} (h : l[i]? = some x) : x ∈ l := List.mem_of_getElem? h
def Frz (σ τ : List Blk) : Prop :=
 (∀ (b : Nat) wm esz rows, σ[b]? = some (Blk.arr wm esz rows) → ∃ wm', τ[b]? = some (Blk.arr wm' esz rows)) ∧
 (∀ (b : Nat) x, σ[b]? = some x → (∀ wm esz rows, x ≠ Blk.arr wm esz rows) → τ[b]? = some x)
theorem Frz.refl (σ) : Frz σ σ := ⟨fun _ wm _ _ h => ⟨wm, h⟩, fun _ _ h _ => h⟩
theorem Frz.trans {a b c} (h : Frz a b) (h' : Frz b c) : Frz a c :=
 ⟨fun n wm esz rows hn => let ⟨wm', h1⟩ := h.1 n wm esz rows hn; h'.1 n wm' esz rows h1, fun n x hn hx => h'.2 n x (h.2 n x hn hx) hx⟩
theorem JmO {s0 : Sn} (hi : Inv s0) {b : Nat} {wm : Bool} {esz : Nat} {rows : List (List PV)} (hb : s0.σ[b]? = some (.arr wm esz rows)) :
  ∃ g', g'.μ = s0.g.μ ∧ Inv ⟨s0.σ.set b (.arr false esz rows), g', s0.w⟩ ∧ Js s0 ⟨s0.σ.set b (.arr false esz rows), g', s0.w⟩ ∧
   Frz s0.σ (s0.σ.set b (.arr false esz rows)) := by
 have hself : (s0.σ.set b (.arr false esz rows))[b]? = some (.arr false esz rows) := J09 hb
 have hfrz : Frz s0.σ (s0.σ.set b (.arr false esz rows)) := by
  refine ⟨fun n wm' esz' rows' hn => ?_, fun n x hn hx => ?_⟩
  ·by_cases e : n = b
   ·subst e; rw [hb] at hn; injection hn with hn; injection hn with h1 h2 h3; subst h2 h3; exact ⟨_, hself⟩
   ·exact ⟨wm', by rw [JI (Ne.symm e)]; exact hn⟩
  ·by_cases e : n = b
   ·subst e; rw [hb] at hn; injection hn with hn; exact (hx _ _ _ hn.symm).elim
   ·rw [JI (Ne.symm e)]; exact hn
 cases wm with
 | false =>
  have hs : s0.σ.set b (.arr false esz rows) = s0.σ := by
   apply List.ext_getElem?
   intro n
   by_cases e : n = b
   ·subst e; rw [hself, hb]
   ·rw [JI (Ne.symm e)]
  refine ⟨s0.g, rfl, ?_, ?_, hfrz⟩
  ·rw [hs]; exact hi
  ·rw [hs]; exact Js.refl s0
 | true =>
  refine ⟨J6J s0.g fun r o => s0.g.μ b = some (r, 0) ∧ o < rows.length * esz, rfl, ?_⟩
  have wr : ∀ b' r o, Wr1 ⟨s0.σ.set b (.arr false esz rows), J6J s0.g fun r o => s0.g.μ b = some (r, 0) ∧ o < rows.length * esz, s0.w⟩ b' r o → Wr1 s0 b' r o := by
   intro b' r o h
   by_cases e : b' = b
   ·subst e
    unfold Wr1 at h ⊢
    simp only [hself, hb] at h ⊢
    obtain ⟨o0, m, _⟩ := h
    exact ⟨o0, m⟩
   ·unfold Wr1 at h ⊢
    simp only [JI (Ne.symm e)] at h
    exact h
  have t : Js s0 ⟨s0.σ.set b (.arr false esz rows), J6J s0.g fun r o => s0.g.μ b = some (r, 0) ∧ o < rows.length * esz, s0.w⟩ := by
   refine ⟨.refl _ _, fun _ _ h => .inl h, fun r o h => ?_, fun r o ⟨b', h⟩ => .inl ⟨b', wr b' r o h⟩, by simp, fun b' cs h => ?_, fun b' wm esz' rows' h => ?_⟩
   ·rcases h with h | ⟨h, _⟩
    ·exact .inl h
    ·refine .inr (.inl ⟨b, ?_⟩)
     unfold Wr1
     rw [hb]
     exact ⟨0, h⟩
   ·refine ⟨⟨cs, hfrz.2 b' _ h (by simp), rfl⟩, rfl⟩
   ·by_cases e : b' = b
    ·subst e; rw [hb] at h; injection h with h; injection h with h1 h2 h3; subst h1 h2 h3
     exact ⟨false, rows, hself, by simp, Nat.le_refl _, fun _ => rfl⟩
    ·exact ⟨wm, rows', by rw [← h]; exact JI (Ne.symm e), id, Nat.le_refl _, fun _ => rfl⟩
  refine ⟨J4U hi t (fun b' => b' = b) (fun b' hne => ⟨JI (Ne.symm hne), rfl⟩) (fun _ _ _ _ _ _ h => h) ?_ ?_ ?_ ?_ ?_ ?_, t, hfrz⟩
  ·rintro b' cs rfl h; rw [hself] at h; cases h
  ·rintro b' wm esz' rows' rfl h
   rw [hself] at h; cases h
   rcases hi.arr _ _ _ _ hb with ⟨m, hr⟩ | ⟨r, c, e, fz, m, hh, hrow, hl, hx, hf⟩
   ·exact .inl ⟨m, hr⟩
   ·refine .inr ⟨r, c, e, fz, m, hh, hrow, hl, fun i j row x hir hjx => ?_, hf⟩
    obtain ⟨⟨v, hv, hr⟩, _⟩ := hx i j row x hir hjx
    refine ⟨⟨v, hv, hr.mono hi t⟩, fun _ => .inr ⟨m, ?_⟩⟩
    have h1 := J8 hir
    have h2 := J8 hjx
    rw [hrow row (JM hir)] at h2
    exact J48 h1 h2
  ·rintro b1 b2 r o rfl h1 h2
   exact hi.apart _ _ _ _ (wr _ _ _ h1) (wr _ _ _ h2)
  ·intro r o hc
   rcases hc with hc | ⟨hc, _⟩
   ·exact (hi.const r o hc).1
   ·rcases hi.arr _ _ _ _ hb with ⟨m, _⟩ | ⟨r', c, e, fz, m, hh, _⟩
    ·rw [m] at hc; cases hc
    ·rw [m] at hc; injection hc with hc; injection hc with hc _; exact hc ▸ J0o hh
  ·rintro r o b' hc rfl h
   rcases hc with hc | ⟨hc, ho⟩
   ·exact (hi.const r o hc).2 _ (wr _ _ _ h)
   ·unfold Wr1 at h
    simp only [hself] at h
    obtain ⟨o0, _, hle⟩ := h
    omega
  ·intro r o b' hc hn hne h
   rcases hc with hc | ⟨hc, ho⟩
   ·exact hn hc
   ·refine hne (hi.apart _ _ r o h ?_)
    unfold Wr1
    rw [hb]
    exact ⟨0, hc⟩
def J4n (s : Sn) (esz : Nat) (rows : List (List PV)) (v : Value) : Prop :=
 ∃ a cap, v = .slice a rows.length cap ∧ rows.length ≤ cap ∧ (∀ row ∈ rows, row.length = esz) ∧
  (rows = [] ∨ ∃ r o, a = some ⟨r, o, none⟩ ∧ ∀ (i j : Nat) row x, rows[i]? = some row → row[j]? = some x → ∃ u, cellAt s.w r (o + i * esz + j) = some u ∧ Jl s.w s.g.C x u)
theorem J4n.of_sl {s : Sn} {esz rows v} (h : Jl s.w s.g.C (.sl esz rows) v) : J4n s esz rows v := by
 cases h with
 | sl0 _ a cap => exact ⟨a, cap, rfl, Nat.zero_le _, (fun _ h => by cases h), .inl rfl⟩
 | sl _ _ r o cap vals h1 h2 h3 h4 => exact ⟨_, cap, rfl, h1, h2, .inr ⟨r, o, rfl, fun i j row x hr hx => ⟨_, (h3 i j row x hr hx).2, h4 i j row x hr hx⟩⟩⟩
theorem J4n.of_slr {s : Sn} (hi : Inv s) {b i n v wm esz rows} (h : Jf s (.slr b i n) v) (hb : s.σ[b]? = some (.arr wm esz rows)) (e : i + n = rows.length) :
  J4n s esz (rows.drop i) v := by
 cases h with
 | slr _ _ _ _ wm' esz' rows' _ h1 h2 h3 =>
  rw [hb] at h1; injection h1 with h1; injection h1 with a1 a2 a3; subst a1 a2 a3
  have hl : (rows.drop i).length = n := by simp; omega
  rcases h3 e with ⟨m, hi0, hn, hv⟩ | ⟨r, cap, c, e1, fz, m, hv, hcap, hh, hs⟩
  ·subst hi0 hn
   have : rows = [] := by apply List.eq_nil_of_length_eq_zero; omega
   subst this
   exact ⟨none, 0, by simp [hv], by simp, by simp, .inl rfl⟩
  ·rcases hi.arr b wm esz rows hb with ⟨m', _⟩ | ⟨r', c', e', fz', m', hh', hrow, hlen, hx, _⟩
   ·rw [m] at m'; cases m'
   ·rw [m] at m'; injection m' with m'; injection m' with m' _; subst m'
    refine ⟨some ⟨r, i * esz, none⟩, cap, by rw [hl]; exact hv, by omega, fun row hr => hrow row (List.mem_of_mem_drop hr), .inr ⟨r, i * esz, rfl, fun k j row x hk hj => ?_⟩⟩
    rw [List.getElem?_drop] at hk
    obtain ⟨⟨u, hu, hr⟩, _⟩ := hx (i + k) j row x hk hj
    refine ⟨u, ?_, hr⟩
    rw [J1E hh', ← hu]
    congr 1
    rw [Nat.add_mul]
theorem J4n.mono {s0 s : Sn} (hi : Inv s0) (t : Js s0 s) {esz rows v} (h : J4n s0 esz rows v) (hc : ∀ r o u, cellAt s0.w r o = some u → cellAt s.w r o = some u) : J4n s esz rows v := by
 obtain ⟨a, cap, h1, h2, h3, h4⟩ := h
 refine ⟨a, cap, h1, h2, h3, h4.imp id ?_⟩
 rintro ⟨r, o, ha, hx⟩
 exact ⟨r, o, ha, fun i j row x hr hj => let ⟨u, h5, h6⟩ := hx i j row x hr hj; ⟨u, hc _ _ _ h5, h6.mono hi t⟩⟩
theorem Ja2 {s : Sn} {esz : Nat} {rows : List (List PV)} {v : Value} {a : Option Addr} {cap : Nat} (hv : v = .slice a rows.length cap) (hcap : rows.length ≤ cap)
  (hrow : ∀ row ∈ rows, row.length = esz)
  (hx : rows = [] ∨ ∃ r o, a = some ⟨r, o, none⟩ ∧ ∀ (i j : Nat) row x, rows[i]? = some row → row[j]? = some x → s.g.C r (o + i * esz + j) ∧ ∃ u, cellAt s.w r (o + i * esz + j) = some u ∧ Jl s.w s.g.C x u) :
  Jl s.w s.g.C (.sl esz rows) v := by
 subst hv
 rcases hx with rfl | ⟨r, o, rfl, hx⟩
 ·exact .sl0 _ _ _
 ·refine .sl esz rows r o cap (fun i j => (cellAt s.w r (o + i * esz + j)).getD .nilFunc) hcap hrow (fun i j row x hr hj => ?_) fun i j row x hr hj => ?_
  ·obtain ⟨h1, u, h2, _⟩ := hx i j row x hr hj
   exact ⟨h1, by simp [h2]⟩
  ·obtain ⟨_, u, h2, h3⟩ := hx i j row x hr hj
   simpa [h2] using h3
theorem JoS {s0 : Sn} (hi : Inv s0) {b i n : Nat} {v : Value} {wm : Bool} {esz : Nat} {rows : List (List PV)} (h : Jf s0 (.slr b i n) v) (hb : s0.σ[b]? = some (.arr wm esz rows))
  (e : i + n = rows.length) :
  ∃ g', Inv ⟨s0.σ.set b (.arr false esz rows), g', s0.w⟩ ∧ Js s0 ⟨s0.σ.set b (.arr false esz rows), g', s0.w⟩ ∧
   Frz s0.σ (s0.σ.set b (.arr false esz rows)) ∧ Jl s0.w g'.C (.sl esz (rows.drop i)) v := by
 obtain ⟨g', hμ, hi', t, hf⟩ := JmO hi hb
 refine ⟨g', hi', t, hf, ?_⟩
 have h' := h.mono hi t
 have hb' : (s0.σ.set b (.arr false esz rows))[b]? = some (.arr false esz rows) := J09 hb
 obtain ⟨a, cap, h1, h2, h3, h4⟩ := J4n.of_slr hi' h' hb' e
 refine Ja2 (s := ⟨s0.σ.set b (.arr false esz rows), g', s0.w⟩) h1 h2 h3 (h4.imp id ?_)
 rintro ⟨r, o, rfl, hx⟩
 refine ⟨r, o, rfl, fun k j row x hk hj => ⟨?_, hx k j row x hk hj⟩⟩
 cases h' with
 | slr _ _ _ _ wm' esz' rows' _ q1 q2 q3 =>
  have q1' : (s0.σ.set b (.arr false esz rows))[b]? = some (.arr wm' esz' rows') := q1
  rw [hb'] at q1'; injection q1' with q1'; injection q1' with a1 a2 a3; subst a1 a2 a3
  rcases q3 e with ⟨m, hi0, hn, hv⟩ | ⟨r', cap', c, e1, fz, m, hv, hcap, hh, hs⟩
  ·rw [h1] at hv; simp at hv
  ·rw [h1] at hv; injection hv with v1 v2 v3; injection v1 with v1; injection v1 with v1 v4; subst v1 v4
   rcases hi'.arr b false esz rows hb' with ⟨m', _⟩ | ⟨r', c', e', fz', m', hh', hrow, hlen, hx', _⟩
   ·rw [m] at m'; cases m'
   ·rw [m] at m'; injection m' with m'; injection m' with m' _; subst m'
    rw [List.getElem?_drop] at hk
    have := (hx' (i + k) j row x hk hj).2 rfl
    rw [Nat.add_mul] at this
    exact this
end Go.Am
end
section
namespace Go.Am
theorem J7M {α : Type} {a b : List α} {i : Nat} {x : α} (h : (a ++ b)[i]? = some x) : a[i]? = some x ∨ (a.length ≤ i ∧ b[i - a.length]? = some x) := by
 rw [List.getElem?_append] at h
 split at h
 ·exact .inl h
 ·exact .inr ⟨by omega, h⟩
def JmA (g : Gh) (wm : Bool) (r lo hi : Nat) : Gh := J6J g fun r' o => wm = false ∧ r' = r ∧ lo ≤ o ∧ o < hi
theorem Js2 {s0 : Sn} (hi : Inv s0) {b : Nat} {wm : Bool} {esz : Nat} {rows new : List (List PV)} {r : Nat} {vs : List Value} {w' : World}
  (hb : s0.σ[b]? = some (.arr wm esz rows)) (hm : s0.g.μ b = some (r, 0)) (hnew : ∀ row ∈ new, row.length = esz)
  (hput : Put r (rows.length * esz) vs s0.w w') (hlen : vs.length = new.length * esz)
  (hx : ∀ (i j : Nat) row x, new[i]? = some row → row[j]? = some x → ∃ u, vs[i * esz + j]? = some u ∧ Jl s0.w s0.g.C x u) :
  Inv ⟨s0.σ.set b (.arr wm esz (rows ++ new)), JmA s0.g wm r (rows.length * esz) ((rows.length + new.length) * esz), w'⟩ ∧
  Js s0 ⟨s0.σ.set b (.arr wm esz (rows ++ new)), JmA s0.g wm r (rows.length * esz) ((rows.length + new.length) * esz), w'⟩ := by
 have hself : (s0.σ.set b (.arr wm esz (rows ++ new)))[b]? = some (.arr wm esz (rows ++ new)) := J09 hb
 have hadd : (rows.length + new.length) * esz = rows.length * esz + new.length * esz := Nat.add_mul _ _ _
 generalize hs : (⟨s0.σ.set b (.arr wm esz (rows ++ new)), JmA s0.g wm r (rows.length * esz) ((rows.length + new.length) * esz), w'⟩ : Sn) = s
 have hσ : s.σ = s0.σ.set b (.arr wm esz (rows ++ new)) := by rw [← hs]
 have hμ : s.g.μ = s0.g.μ := by rw [← hs]; rfl
 have hC : ∀ r' o, s.g.C r' o ↔ s0.g.C r' o ∨ (wm = false ∧ r' = r ∧ rows.length * esz ≤ o ∧ o < (rows.length + new.length) * esz) := by rw [← hs]; exact fun _ _ => Iff.rfl
 have hw : s.w = w' := by rw [← hs]
 have wr : ∀ b' r' o, Wr1 s b' r' o → Wr1 s0 b' r' o := by
  intro b' r' o h
  by_cases e : b' = b
  ·subst e
   unfold Wr1 at h ⊢
   rw [hσ, hself] at h
   rw [hb]
   cases wm with
   | true => rw [hμ] at h; exact h
   | false =>
    rw [hμ] at h
    obtain ⟨o0, m, hle⟩ := h
    refine ⟨o0, m, Nat.le_trans (Nat.mul_le_mul_right _ ?_) hle⟩
    simp
  ·unfold Wr1 at h ⊢
   rw [hσ, hμ, JI (Ne.symm e)] at h
   exact h
 have wself : ∀ o, rows.length * esz ≤ o → Wr1 s0 b r o := by
  intro o ho
  unfold Wr1
  rw [hb]
  cases wm with
  | true => exact ⟨0, hm⟩
  | false => exact ⟨0, hm, ho⟩
 have t : Js s0 s := by
  refine ⟨?_, fun r o h => (hC r o).2 (.inl h), fun r' o h => ?_, fun r o ⟨b', h⟩ => .inl ⟨b', wr b' r o h⟩, by rw [hσ]; simp, fun b' cs h => ?_, fun b' wm' esz' rows' h => ?_⟩
  ·rw [hw]; exact hput.keep fun k h1 _ => ⟨b, wself k h1⟩
  ·rcases (hC r' o).1 h with h | ⟨_, e, h, _⟩
   ·exact .inl h
   ·subst e; exact .inr (.inl ⟨b, wself o h⟩)
  ·have e : b' ≠ b := by rintro rfl; rw [hb] at h; cases h
   exact ⟨⟨cs, by rw [hσ, JI (Ne.symm e)]; exact h, rfl⟩, by rw [hμ]⟩
  ·by_cases e : b' = b
   ·subst e; rw [hb] at h; injection h with h; injection h with h1 h2 h3; subst h1 h2 h3
    exact ⟨wm, rows ++ new, by rw [hσ]; exact hself, id, by simp, fun _ => by rw [hμ]⟩
   ·exact ⟨wm', rows', by rw [hσ, JI (Ne.symm e)]; exact h, id, Nat.le_refl _, fun _ => by rw [hμ]⟩
 refine ⟨J4U hi t (fun b' => b' = b) (fun b' hne => ⟨by rw [hσ]; exact JI (Ne.symm hne), by rw [hμ]⟩) ?_ ?_ ?_ ?_ ?_ ?_ ?_, t⟩
 ·intro b' r' k v hne hwr hv
  rw [hw]
  refine hput.cell hv ?_
  by_cases er : r' = r
  ·subst er
   rcases Nat.lt_or_ge k (rows.length * esz) with h | h
   ·exact .inr (.inl h)
   ·exact (hne (hi.apart _ _ _ _ hwr (wself k h))).elim
  ·exact .inl er
 ·rintro b' cs rfl h; rw [hσ, hself] at h; cases h
 ·rintro b' wm' esz' rows' rfl h
  rw [hσ, hself] at h; cases h
  obtain ⟨c, e, fz, c', p1, p2, p3, p4, p5, p6⟩ := hput.there
  rcases hi.arr _ _ _ _ hb with ⟨m, _⟩ | ⟨r', c0, e0, fz0, m, hh, hrow, hl, hx0, hf⟩
  ·rw [hm] at m; cases m
  ·rw [hm] at m; injection m with m; injection m with m _; subst m
   rw [p1] at hh; injection hh with hh; injection hh with q1 q2 q3; subst q1 q2 q3
   refine .inr ⟨r, c', e, fz, by rw [hμ]; exact hm, by rw [hw]; exact p2, ?_, ?_, ?_, ?_⟩
   ·intro row hr
    rcases List.mem_append.1 hr with hr | hr
    ·exact hrow row hr
    ·exact hnew row hr
   ·simp only [List.length_append]; rw [hadd]; omega
   ·intro i j row x hir hjx
    rcases J7M hir with hir | ⟨hge, hir⟩
    ·obtain ⟨⟨v, hv, hr⟩, hc⟩ := hx0 i j row x hir hjx
     have h1 := J8 hir
     have h2 := J8 hjx
     rw [hrow row (JM hir)] at h2
     have := J48 h1 h2
     exact ⟨⟨v, by rw [p6 _ (.inl this)]; exact hv, hr.mono hi t⟩, fun e => (hC _ _).2 (.inl (hc e))⟩
    ·obtain ⟨u, hu, hr⟩ := hx _ j row x hir hjx
     have h1 := J8 hir
     have h2 := J8 hjx
     rw [hnew row (JM hir)] at h2
     have h3 := J48 h1 h2
     have h4 : i * esz + j = rows.length * esz + ((i - rows.length) * esz + j) := by
      rw [← Nat.add_assoc, ← Nat.add_mul, Nat.add_sub_cancel' hge]
     refine ⟨⟨u, by rw [h4]; exact p5 _ u hu, hr.mono hi t⟩, fun e => (hC _ _).2 (.inr ⟨e, rfl, by omega, by rw [hadd]; omega⟩)⟩
   ·rw [p3]; exact hf
 ·rintro b1 b2 r o rfl h1 h2
  exact hi.apart _ _ _ _ (wr _ _ _ h1) (wr _ _ _ h2)
 ·intro r' o hc
  rw [hw, hput.size]
  rcases (hC r' o).1 hc with hc | ⟨_, e, _⟩
  ·exact (hi.const r' o hc).1
  ·subst e; exact J8N hi b _ _ (wself _ (Nat.le_refl _))
 ·rintro r' o b' hc rfl h
  rcases (hC r' o).1 hc with hc | ⟨e, er, hlo, hhi⟩
  ·exact (hi.const r' o hc).2 _ (wr _ _ _ h)
  ·subst e er
   unfold Wr1 at h
   rw [hσ, hself] at h
   obtain ⟨o0, _, hle⟩ := h
   simp only [List.length_append] at hle
   omega
 ·intro r' o b' hc hn hne h
  rcases (hC r' o).1 hc with hc | ⟨e, er, hlo, hhi⟩
  ·exact hn hc
  ·subst er
   exact hne (hi.apart _ _ _ o h (wself o hlo))
theorem Jpo {s0 : Sn} (hi : Inv s0) {b : Nat} {wm : Bool} {esz : Nat} {rows new : List (List PV)} {c : Array Value} {e : TypeId} {w' : World}
  (hb : s0.σ[b]? = some (.arr wm esz rows)) (hne : new ≠ []) (hrows : ∀ row ∈ rows, row.length = esz) (hnew : ∀ row ∈ new, row.length = esz)
  (hh : w'.heap = s0.w.heap.push (.cells c e (0, 0))) (ho : w'.os = s0.w.os) (hp : w'.output = s0.w.output)
  (hsize : (rows.length + new.length) * esz ≤ c.size)
  (hx : ∀ (i j : Nat) row x, (rows ++ new)[i]? = some row → row[j]? = some x → ∃ u, c[i * esz + j]? = some u ∧ Jl s0.w s0.g.C x u) :
  ∃ g', g'.μ b = some (s0.w.heap.size, 0) ∧ Inv ⟨s0.σ.set b (.arr wm esz (rows ++ new)), g', w'⟩ ∧ Js s0 ⟨s0.σ.set b (.arr wm esz (rows ++ new)), g', w'⟩ := by
 have hself : (s0.σ.set b (.arr wm esz (rows ++ new)))[b]? = some (.arr wm esz (rows ++ new)) := J09 hb
 refine ⟨⟨fun b' => if b' = b then some (s0.w.heap.size, 0) else s0.g.μ b', fun r o => s0.g.C r o ∨ (wm = false ∧ r = s0.w.heap.size ∧ o < (rows.length + new.length) * esz)⟩, if_pos rfl, ?_⟩
 generalize hs : (⟨s0.σ.set b (.arr wm esz (rows ++ new)), _, w'⟩ : Sn) = s
 have hσ : s.σ = s0.σ.set b (.arr wm esz (rows ++ new)) := by rw [← hs]
 have hμ : ∀ b', s.g.μ b' = if b' = b then some (s0.w.heap.size, 0) else s0.g.μ b' := by rw [← hs]; exact fun _ => rfl
 have hC : ∀ r' o, s.g.C r' o ↔ s0.g.C r' o ∨ (wm = false ∧ r' = s0.w.heap.size ∧ o < (rows.length + new.length) * esz) := by rw [← hs]; exact fun _ _ => Iff.rfl
 have hw : s.w = w' := by rw [← hs]
 have hpos : 0 < new.length := List.length_pos_iff.2 hne
 have wr : ∀ b' r' o, b' ≠ b → (Wr1 s b' r' o ↔ Wr1 s0 b' r' o) := by
  intro b' r' o e
  unfold Wr1
  rw [hσ, hμ, if_neg e, JI (Ne.symm e)]
 have wrb : ∀ r' o, Wr1 s b r' o → r' = s0.w.heap.size ∧ (wm = false → (rows.length + new.length) * esz ≤ o) := by
  intro r' o h
  unfold Wr1 at h
  rw [hσ, hself, hμ, if_pos rfl] at h
  cases wm with
  | true => obtain ⟨o0, m⟩ := h; simp at m; exact ⟨m.1.symm, fun h => by cases h⟩
  | false => obtain ⟨o0, m, hle⟩ := h; simp at m; simp only [List.length_append] at hle; exact ⟨m.1.symm, fun _ => hle⟩
 have t : Js s0 s := by
  refine ⟨?_, fun r o h => (hC r o).2 (.inl h), fun r' o h => ?_, fun r o ⟨b', h⟩ => ?_, by rw [hσ]; simp, fun b' cs h => ?_, fun b' wm' esz' rows' h => ?_⟩
  ·rw [hw]; exact J9y hh ho hp
  ·rcases (hC r' o).1 h with h | ⟨_, h, _⟩
   ·exact .inl h
   ·exact .inr (.inr (Nat.le_of_eq h.symm))
  ·by_cases eb : b' = b
   ·subst eb; exact .inr (Nat.le_of_eq (wrb r o h).1.symm)
   ·exact .inl ⟨b', (wr b' r o eb).1 h⟩
  ·have eb : b' ≠ b := by rintro rfl; rw [hb] at h; cases h
   exact ⟨⟨cs, by rw [hσ, JI (Ne.symm eb)]; exact h, rfl⟩, by rw [hμ, if_neg eb]⟩
  ·by_cases eb : b' = b
   ·subst eb; rw [hb] at h; injection h with h; injection h with h1 h2 h3; subst h1 h2 h3
    exact ⟨wm, rows ++ new, by rw [hσ]; exact hself, id, by simp, fun h => by simp at h; exact (hne h).elim⟩
   ·exact ⟨wm', rows', by rw [hσ, JI (Ne.symm eb)]; exact h, id, Nat.le_refl _, fun _ => by rw [hμ, if_neg eb]⟩
 refine ⟨J4U hi t (fun b' => b' = b) (fun b' hn => ⟨by rw [hσ]; exact JI (Ne.symm hn), by rw [hμ, if_neg hn]⟩) (fun b r o v _ _ h => by rw [hw]; exact Jck hh h) ?_ ?_ ?_ ?_ ?_ ?_, t⟩
 ·rintro b' cs rfl h; rw [hσ, hself] at h; cases h
 ·rintro b' wm' esz' rows' rfl h
  rw [hσ, hself] at h; cases h
  refine .inr ⟨s0.w.heap.size, c, e, (0, 0), by rw [hμ, if_pos rfl], by rw [hw]; exact J72 hh, ?_, by simp only [List.length_append]; exact hsize, ?_, J9x.zero _ _⟩
  ·intro row hr
   rcases List.mem_append.1 hr with hr | hr
   ·exact hrows row hr
   ·exact hnew row hr
  ·intro i j row x hir hjx
   obtain ⟨u, hu, hr⟩ := hx i j row x hir hjx
   refine ⟨⟨u, hu, hr.mono hi t⟩, fun ew => (hC _ _).2 (.inr ⟨ew, rfl, ?_⟩)⟩
   have h1 := J8 hir
   have h2 := J8 hjx
   have h3 : row.length = esz := by
    rcases List.mem_append.1 (JM hir) with hr | hr
    ·exact hrows row hr
    ·exact hnew row hr
   rw [h3] at h2
   simp only [List.length_append] at h1
   exact J48 h1 h2
 ·rintro b1 b2 r o rfl h1 h2
  by_cases eb : b2 = b1
  ·exact eb.symm
  ·have := J8N hi _ _ _ ((wr b2 r o eb).1 h2)
   have := (wrb r o h1).1
   omega
 ·intro r' o hc
  rw [hw, hh]
  rcases (hC r' o).1 hc with hc | ⟨_, hc, _⟩
  ·have := (hi.const r' o hc).1; simp; omega
  ·simp; omega
 ·rintro r' o b' hc rfl h
  have h1 := wrb _ _ h
  rcases (hC r' o).1 hc with hc | ⟨e1, hc, ho⟩
  ·have := (hi.const r' o hc).1; omega
  ·have := h1.2 e1; omega
 ·intro r' o b' hc hn hne h
  rcases (hC r' o).1 hc with hc | ⟨_, hc, _⟩
  ·exact hn hc
  ·have := J8N hi _ _ _ h; omega
end Go.Am
end
section
namespace Go.Am
def okP : PV → Value → Bool
 | .b x, .bool y => x == y
 | .i k n, .int k' n' => k == k' && n == n'
 | .s l, .string ba => l == ba.data.toList
 | .sl _ [], .slice none 0 0 => true
 | .np, .pointer none => true
 | .nf, .nilFunc => true
 | _, _ => false
def Jeo : List PV → List Value → Bool
 | [], [] => true
 | x :: xs, v :: vs => okP x v && Jeo xs vs
 | _, _ => false
def okC : AV → Value → Bool
 | .p c, v => okP c v
 | .data cs, .agg vs => Jeo cs vs.toList
 | .fn f [] [], .func (.func g) a c => f == g && a.isEmpty && c.isEmpty
 | .tup [], .tuple vs => vs.isEmpty
 | _, _ => false
def J0i : Opd → Operand → Bool
 | .t n, .tmp m => n == m
 | .c x, .const v => okC x v
 | .c (.fn f [] []), .func g => f == g
 | _, _ => false
def J3U : List Opd → List Operand → Bool
 | [], [] => true
 | x :: xs, y :: ys => J0i x y && J3U xs ys
 | _, _ => false
def J9V : Option Opd → Option Operand → Bool
 | none, none => true
 | some x, some y => J0i x y
 | _, _ => false
section
variable (P : Program)
def szT (t : TypeId) : Option Nat := (P.info? t).map (·.size)
def byT (t : TypeId) : Option Nat := (P.info? t).map (·.bytes)
def zeT (t : TypeId) : Option Value := (P.info? t).bind (·.zero)
def J9g : TypeDesc → Bool
 | .struct _ | .array _ _ => true
 | _ => false
def agT (t : TypeId) : Option Bool := (P.underlying t).map J9g
def elT (t : TypeId) : Option TypeId := match P.underlying t with
 | some (.slice e) => some e
 | _ => none
def J4k (t : TypeId) : Bool := match P.underlying t with
 | some .string => true
 | _ => false
def JmK (t : TypeId) : Bool := match P.underlying t with
 | some (.int .u8) => true
 | _ => false
def Jgz (t : TypeId) : Bool := match P.underlying t with
 | some .bool => true
 | _ => false
def JmS (t : TypeId) : Bool := match P.underlying t with
 | some (.int _) => true
 | _ => false
def Jkt (k : IntKind) (t : TypeId) : Bool := match P.underlying t with
 | some (.int k') => k == k'
 | _ => false
def arT (t : TypeId) : Option (Nat × TypeId) := match P.underlying t with
 | some (.array n e) => some (n, e)
 | _ => none
def flT (t : TypeId) : Option (Array Field) := match P.underlying t with
 | some (.struct fs) => some fs
 | _ => none
def Jad (K : TypeId → Option (List KD)) : Nat → List Field → Option (List KD)
 | _, [] => some []
 | off, f :: fs =>
  if f.name = "_" ∨ f.offset ≠ off then none
  else match K f.type with
   | none => none
   | some ks => if szT P f.type = some ks.length ∧ 0 < ks.length then
     match Jad K (off + ks.length) fs with
     | some l => some (ks ++ l)
     | none => none
    else none
def J6u : Nat → TypeId → Option (List KD)
 | 0, _ => none
 | d + 1, t => match P.underlying t with
  | some .bool => some [.b]
  | some (.int k) => some [.i k]
  | some .string => some [.s]
  | some (.struct fs) => if P.stoodInHeld t then none else Jad P (J6u d) 0 fs.toList
  | some (.array n e) => match J6u d e with
   | some ks => if szT P e = some ks.length ∧ 0 < ks.length then some (List.replicate n ks).flatten else none
   | none => none
  | _ => none
def Jsx (t : TypeId) : Operand → Bool
 | .const (.slice none 0 0) => (elT P t).isSome
 | _ => false
def JqO (t : TypeId) : Operand → Bool
 | .const (.pointer none) => (match P.underlying t with | some (.pointer _) => true | _ => false)
 | _ => false
def JsI (t : TypeId) : Operand → Bool
 | .const .nilFunc => (match P.underlying t with | some (.func _ _ _) => true | _ => false)
 | _ => false
def J7j (zero : List PV) (t : TypeId) : Bool := match zeT P t with
 | some v => Jeo zero v.cells.toList
 | none => false
def Jie (t : TypeId) (os : List (Nat × Nat)) : Bool := match zeT P t with
 | some v => os.all fun x => match v.cells[x.1]? with
  | some (.slice none 0 0) => true
  | _ => false
 | none => false
def J4g (place : Nat → Option (Nat × Nat)) : List (Nat × Nat × Opd) → List (Nat × Operand) → Bool
 | [], [] => true
 | (off, size, x) :: r, (i, y) :: q => place i == some (off, size) && J0i x y && J4g place r q
 | _, _ => false
def J8T (fs : Array Field) (i : Nat) : Option (Nat × Nat) := match fs[i]? with
 | some f => (szT P f.type).map fun n => (f.offset, n)
 | none => none
def Jai : List (Nat × Opd) → List (Nat × Operand) → Bool
 | [], [] => true
 | (i, x) :: r, (j, y) :: q => i == j && J0i x y && Jai r q
 | _, _ => false
def Jk (ao : AOp) (op : Op) : Bool :=
 match ao with
 | .mv x => match op with
  | .move y | .assign y => J0i x y
  | _ => false
 | .mkarr _ x => match op with
  | .move (.const (.slice none 0 0)) | .assign (.const (.slice none 0 0)) => (match x with | .c _ => true | _ => false)
  | _ => false
 | .pick c a b => match op with
  | .pick c' a' b' => J0i c c' && J0i a a' && J0i b b'
  | _ => false
 | .newbox zero => match op with
  | .alloc t => J7j P zero t
  | _ => false
 | .box _ x => match op with
  | .box _ y => J0i x y
  | _ => false
 | .build zero parts => match op with
  | .build t ps => J7j P zero t && (match P.underlying t with
   | some (.struct fs) => (fs.all fun f => (szT P f.type).isSome) && J4g (J8T P fs) parts ps.toList
   | some (.array _ e) => (match szT P e with
    | some n => J4g (fun i => some (i * n, n)) parts ps.toList
    | none => false)
   | _ => false)
  | _ => false
 | .lits _ esz n zero parts => match op with
  | .buildSlice t len ps => len == n && (match elT P t with
   | some e => szT P e == some esz && decide (n * esz ≤ 16777216) && J7j P zero e && zero.length == esz && decide (0 < esz) && Jai parts ps.toList
   | none => false)
  | _ => false
 | .load agg size x => match op with
  | .load t y => agT P t == some agg && szT P t == some size && J0i x y && (agg || size == 1)
  | _ => false
 | .store size x v => match op with
  | .store t y u => szT P t == some size && J0i x y && J0i v u
  | _ => false
 | .nilchk x => match op with
  | .nilCheck y => J0i x y
  | _ => false
 | .bin bo bt x y => match op with
  | .binOp bo' t x' y' _ => bo == bo' && J0i x x' && (match bt with
   | .plain => J0i y y'
   | .bool => J0i y y' && Jgz P t
   | .flat ks => J0i y y' && J6u P 100 t == some ks && agT P t == some true && !P.eqGuardType P.depth t
   | .nils => Jsx P t y'
   | .nilp => JqO P t y'
   | .nilf => JsI P t y')
  | _ => false
 | .un uo x => match op with
  | .unOp uo' _ y => uo == uo' && J0i x y
  | _ => false
 | .conv k x => match op with
  | .convert src dst y => J0i x y && (match k with
   | .int k => JmS P src && Jkt P k dst
   | .same => J4k P src && J4k P dst
   | .toStr => (match elT P src with | some e => JmK P e && szT P e == some 1 | none => false) && J4k P dst
   | .toBytes _ => J4k P src && (match elT P dst with | some e => JmK P e && szT P e == some 1 | none => false))
  | _ => false
 | .mkslice _ esz bytes zero l c => match op with
  | .makeSlice t l' c' => J0i l l' && J0i c c' && (match elT P t with
   | some e => szT P e == some esz && byT P e == some bytes && J7j P zero e && zero.length == esz && decide (0 < esz) && decide (0 < bytes)
   | none => false)
  | _ => false
 | .slice k x lo hi mx => match op with
  | .slice t x' lo' hi' mx' => J0i x x' && J9V lo lo' && J9V hi hi' && J9V mx mx' && (match k with
   | .str => J4k P t
   | .sl esz => (match elT P t with | some e => szT P e == some esz | none => false))
  | _ => false
 | .faddr off x => match op with
  | .fieldAddr t y f => J0i x y && (match flT P t with
   | some fs => (match fs[f]? with
    | some f => f.offset == off && (match szT P f.type with | some n => n != 0 | none => false)
    | none => false)
   | none => false)
  | _ => false
 | .field agg off size x => match op with
  | .field t y f => J0i x y && (match flT P t with
   | some fs => (match fs[f]? with
    | some f => f.offset == off && szT P f.type == some size && agT P f.type == some agg && (agg || size == 1)
    | none => false)
   | none => false)
  | _ => false
 | .iaddr esz x i => match op with
  | .indexAddr t y j => J0i x y && J0i i j && (match elT P t with | some e => szT P e == some esz | none => false)
  | _ => false
 | .aaddr len esz x i => match op with
  | .indexAddr t y j => J0i x y && J0i i j && (match arT P t with | some (n, e) => n == len && szT P e == some esz | none => false)
  | _ => false
 | .sidx x i => match op with
  | .index t y j => J0i x y && J0i i j && J4k P t
  | _ => false
 | .aidx agg len esz x i => match op with
  | .index t y j => J0i x y && J0i i j && (match arT P t with | some (n, e) => n == len && szT P e == some esz && agT P e == some agg && (agg || esz == 1) | none => false)
  | _ => false
 | .extr x i => match op with
  | .extract y j => J0i x y && i == j
  | _ => false
 | .call f args _ => match op with
  | .call c => (match c.callee with
   | .value (.func g) => f == g && J3U args c.args.toList
   | _ => false)
  | _ => false
 | .callv x args _ => match op with
  | .call c => (match c.callee with
   | .value y => J0i x y && J3U args c.args.toList
   | _ => false)
  | _ => false
 | .len str x => match op with
  | .call c => (match c.callee with
   | .builtin .len => (match c.args.toList, c.argTypes.toList with
    | [y], [t] => J0i x y && (if str then J4k P t else (elT P t).isSome)
    | _, _ => false)
   | _ => false)
  | _ => false
 | .alen n => match op with
  | .call c => (match c.callee with
   | .builtin .len => (match c.args.toList, c.argTypes.toList with
    | [_], [t] => (match P.underlying t with
     | some (.array m _) => m == n
     | some (.pointer a) => (match arT P a with | some (m, _) => m == n | none => false)
     | _ => false)
    | _, _ => false)
   | _ => false)
  | _ => false
 | .appn esz bytes zero y => match op with
  | .call c => (match c.callee with
   | .builtin .append => (match c.args.toList, c.argTypes.toList with
    | [.const (.slice none 0 0), y'], [t, u] => J0i y y' && ((elT P u).isSome || J4k P u) && (match elT P t with
     | some e => szT P e == some esz && byT P e == some bytes && J7j P zero e && zero.length == esz && decide (0 < esz) && decide (0 < bytes)
     | none => false)
    | _, _ => false)
   | _ => false)
  | _ => false
 | .app esz bytes zero x y => match op with
  | .call c => (match c.callee with
   | .builtin .append => (match c.args.toList, c.argTypes.toList with
    | [x', y'], [t, u] => J0i x x' && J0i y y' && ((elT P u).isSome || J4k P u) && (match elT P t with
     | some e => szT P e == some esz && byT P e == some bytes && J7j P zero e && zero.length == esz && decide (0 < esz) && decide (0 < bytes)
     | none => false)
    | _, _ => false)
   | _ => false)
  | _ => false
 | .appc esz bytes zero x y => match op with
  | .call c => (match c.callee with
   | .builtin .append => (match c.args.toList, c.argTypes.toList with
    | [x', y'], [t, u] => J0i x x' && J0i y y' && ((elT P u).isSome || J4k P u) && (match elT P t with
     | some e => szT P e == some esz && byT P e == some bytes && J7j P zero e && zero.length == esz && decide (0 < esz) && decide (0 < bytes)
     | none => false)
    | _, _ => false)
   | _ => false)
  | _ => false
 | .appz esz bytes zero x y => match op with
  | .call c => (match c.callee with
   | .builtin .append => (match c.args.toList, c.argTypes.toList with
    | [x', y'], [t, u] => J0i x x' && J0i y y' && (match P.underlying u with
     | some (.int _) => true
     | _ => false) && (match elT P t with
     | some e => szT P e == some esz && byT P e == some bytes && J7j P zero e && zero.length == esz && decide (0 < esz) && decide (0 < bytes)
     | none => false)
    | _, _ => false)
   | _ => false)
  | _ => false
 | .mm mx x y => match op with
  | .call c => (match c.callee with
   | .builtin b => b == (if mx then .max else .min) && (match c.args.toList with
    | [x', y'] => J0i x x' && J0i y y'
    | _ => false)
   | _ => false)
  | _ => false
 | .newboxo zero os => match op with
  | .alloc t => J7j P zero t && Jie P t os
  | _ => false
 | .buildo zero parts os => match op with
  | .build t ps => J7j P zero t && Jie P t os && (match P.underlying t with
   | some (.struct fs) => (fs.all fun f => (szT P f.type).isSome) && J4g (J8T P fs) parts ps.toList
   | _ => false)
  | _ => false
 | .storen _ x => match op with
  | .store t y (.const (.slice none 0 0)) => szT P t == some 1 && J0i x y
  | _ => false
 | .callo f _ args _ => match op with
  | .call c => (match c.callee with
   | .value (.func g) => f == g && J3U args c.args.toList
   | _ => false)
  | _ => false
 | .mkfn f first caps => match op with
  | .makeFunc (.func g) first' caps' => f == g && J3U first first'.toList && J3U caps caps'.toList
  | _ => false
end
end Go.Am
end
section
namespace Go.Am
theorem bind_some {α β : Type} {m : RM α} {f : α → RM β} {s : St} {b : β} (h : (m.bind f).run s = some b) : ∃ a, m.run s = some a ∧ (f a).run s = some b := by
 rw [run_bind] at h
 cases hm : m.run s with
 | none => rw [hm] at h; cases h
 | some a => rw [hm] at h; exact ⟨a, rfl, h⟩
theorem J15 {x : Option AV} {s : St} {e : Eff} (h : (val x).run s = some e) : ∃ v, x = some v ∧ e = ⟨v, []⟩ := by
 cases x with
 | none => cases h
 | some v => simp only [val, RM.run] at h; injection h with h; exact ⟨v, rfl, h.symm⟩
theorem Jlc {w C c v} (h : okP c v = true) : Jl w C c v := by
 unfold okP at h
 split at h
 ·rename_i x y
  have : x = y := by simpa using h
  subst this; exact .b _
 ·simp at h; obtain ⟨rfl, rfl⟩ := h; exact .i _ _
 ·rename_i l ba
  have : l = ba.data.toList := by simpa using h
  subst this
  exact .s _
 ·exact .sl0 _ _ _
 ·exact .np
 ·exact .nf
 ·cases h
theorem Jbe {w C} : ∀ {cs : List PV} {vs : List Value}, Jeo cs vs = true → cs.length = vs.length ∧ ∀ (i : Nat) x v, cs[i]? = some x → vs[i]? = some v → Jl w C x v
 | [], [], _ => ⟨rfl, fun i x v h => by simp at h⟩
 | x :: xs, v :: vs, h => by
  simp only [Jeo, Bool.and_eq_true] at h
  obtain ⟨h1, h2⟩ := Jbe (w := w) (C := C) h.2
  refine ⟨by simp [h1], fun i y u hy hu => ?_⟩
  cases i with
  | zero => simp at hy hu; subst hy hu; exact Jlc h.1
  | succ i => simp at hy hu; exact h2 i y u hy hu
 | [], _ :: _, h => by simp [Jeo] at h
 | _ :: _, [], h => by simp [Jeo] at h
theorem Js4 {s : Sn} {c v} (h : okC c v = true) : Jf s c v := by
 unfold okC at h
 split at h
 ·exact .p _ _ (Jlc h)
 ·rename_i cs vs
  obtain ⟨h1, h2⟩ := Jbe (w := s.w) (C := s.g.C) h
  exact .data _ _ (by simpa using h1) fun i x v hx hv => h2 i x v hx (by simpa using hv)
 ·rename_i f g a c
  simp at h
  obtain ⟨⟨rfl, rfl⟩, rfl⟩ := h
  exact .fn _ _ _ _ _ rfl rfl (fun i x v h => by simp at h) (fun i x v h => by simp at h)
 ·simp at h; subst h; exact .tup _ _ rfl (fun i x v h => by simp at h)
 ·cases h
def JA (s : Sn) (tmps : Array Value) (env : List (Nat × AV)) : Prop := ∀ n x, lk n env = some x → ∃ v, tmps[n]? = some v ∧ Jf s x v
theorem JA.mono {s0 s : Sn} (hi : Inv s0) (t : Js s0 s) {tmps env} (h : JA s0 tmps env) : JA s tmps env :=
 fun n x hx => let ⟨v, h1, h2⟩ := h n x hx; ⟨v, h1, h2.mono hi t⟩
section
variable {P : Program} {s : Sn} {a : Act} {env : List (Nat × AV)}
theorem Jv (he : JA s a.tmps env) {x : Opd} {y : Operand} {v : AV} (h : (ev x).run ⟨env, s.σ⟩ = some v) (hc : J0i x y = true) : Jf s v (a.eval y) := by
 cases x with
 | t n =>
  cases y <;> simp [J0i] at hc
  subst hc
  simp only [ev, RM.run] at h
  split at h
  ·rename_i u hu
   injection h with h; subst h
   obtain ⟨w, h1, h2⟩ := he _ _ hu
   simpa [Act.eval, Array.getD_eq_getD_getElem?, h1] using h2
  ·cases h
 | c z =>
  simp only [ev, RM.run] at h
  injection h with h; subst h
  cases y with
  | const u => exact Js4 (v := u) (by simpa [J0i] using hc)
  | func g =>
   cases z <;> simp [J0i] at hc
   rename_i f first caps
   cases first <;> cases caps <;> simp [J0i] at hc
   subst hc
   exact .fn _ _ _ _ _ rfl rfl (fun i x v h => by simp at h) (fun i x v h => by simp at h)
  | tmp n => simp [J0i] at hc
  | global n => simp [J0i] at hc
theorem J8S (he : JA s a.tmps env) : ∀ {xs : List Opd} {ys : List Operand} {vs : List AV}, (evs xs).run ⟨env, s.σ⟩ = some vs → J3U xs ys = true →
  vs.length = ys.length ∧ ∀ (i : Nat) x v, vs[i]? = some x → (ys.map a.eval)[i]? = some v → Jf s x v
 | [], [], vs, h, _ => by
  simp only [evs, RM.run] at h; injection h with h; subst h
  exact ⟨rfl, fun i x v h => by simp at h⟩
 | x :: xs, y :: ys, vs, h, hc => by
  simp only [J3U, Bool.and_eq_true] at hc
  simp only [evs] at h
  obtain ⟨u, h1, h⟩ := bind_some h
  obtain ⟨us, h2, h⟩ := bind_some h
  simp only [RM.run] at h; injection h with h; subst h
  obtain ⟨l, r⟩ := J8S he h2 hc.2
  refine ⟨by simp [l], fun i z v hz hv => ?_⟩
  cases i with
  | zero => simp at hz hv; subst hz hv; exact Jv he h1 hc.1
  | succ i => simp at hz hv; exact r i z v hz (by simpa using hv)
 | [], _ :: _, _, _, hc => by simp [J3U] at hc
 | _ :: _, [], _, _, hc => by simp [J3U] at hc
def J0h (P : Program) (o : Oper) (a : Act) (s : Sn) (e : Eff) : Prop :=
 ∀ (next : Act → World → Prop) (Q : Exit → Act → World → Prop),
  (∀ v w' g', Inv ⟨upd e.ws s.σ, g', w'⟩ → Js s ⟨upd e.ws s.σ, g', w'⟩ → Jf ⟨upd e.ws s.σ, g', w'⟩ e.val v → next (a.put o.dst v) w') →
  o.wp P a s.w next Q
theorem J1h {o : Oper} {e : Eff} {v : Value} {w' : World} {g' : Gh} (hr : (execOp a.eval o).run P s.w = .ok (.value v) w')
  (hi : Inv ⟨upd e.ws s.σ, g', w'⟩) (t : Js s ⟨upd e.ws s.σ, g', w'⟩) (hv : Jf ⟨upd e.ws s.σ, g', w'⟩ e.val v) : J0h P o a s e := by
 intro next Q h
 simp only [Oper.wp, hr, Oper.upon]
 exact h v w' g' hi t hv
theorem Jg {o : Oper} {x : AV} {v : Value} (hi : Inv s) (hr : (execOp a.eval o).run P s.w = .ok (.value v) s.w) (hv : Jf s x v) : J0h P o a s ⟨x, []⟩ :=
 J1h (e := ⟨x, []⟩) (g' := s.g) hr hi (.refl s) hv
theorem Jcb {t : TypeId} {i : TypeInfo} (h : P.info? t = some i) (w : World) : (typeInfo t).run P w = .ok i w := by
 simp [typeInfo, h]
theorem J1S {t : TypeId} {n : Nat} (h : szT P t = some n) (w : World) : (sizeOf t).run P w = .ok n w := by
 unfold szT at h
 cases hi : P.info? t with
 | none => rw [hi] at h; cases h
 | some i => rw [hi] at h; simp at h; simp [sizeOf, Jcb hi, h]
theorem J8Q {t : TypeId} {b : Bool} (h : agT P t = some b) (w : World) : (isAgg t).run P w = .ok b w := by
 unfold agT at h
 cases hu : P.underlying t with
 | none => rw [hu] at h; cases h
 | some d =>
  rw [hu] at h; simp at h
  simp only [isAgg, Sem.run_bind, run_underlying hu, Result.andThen_ok]
  subst h
  cases d <;> rfl
theorem J14 {t e : TypeId} (h : elT P t = some e) : P.underlying t = some (.slice e) := by
 unfold elT at h
 split at h
 ·injection h with h; subst h; assumption
 ·cases h
theorem J4G {t : TypeId} (h : J4k P t = true) : P.underlying t = some .string := by
 unfold J4k at h; split at h
 ·assumption
 ·cases h
theorem Jk0 {t : TypeId} (h : JmK P t = true) : P.underlying t = some (.int .u8) := by
 unfold JmK at h; split at h
 ·assumption
 ·cases h
theorem JkI {t : TypeId} (h : Jgz P t = true) : P.underlying t = some .bool := by
 unfold Jgz at h; split at h
 ·assumption
 ·cases h
theorem JoA {t : TypeId} (h : JmS P t = true) : ∃ k, P.underlying t = some (.int k) := by
 unfold JmS at h; split at h
 ·exact ⟨_, by assumption⟩
 ·cases h
theorem JmU {t : TypeId} {k : IntKind} (h : Jkt P k t = true) : P.underlying t = some (.int k) := by
 unfold Jkt at h; split at h
 ·rename_i k' hk
  have : k = k' := by simpa using h
  subst this; exact hk
 ·cases h
theorem Jdz {t e : TypeId} {n : Nat} (h : arT P t = some (n, e)) : P.underlying t = some (.array n e) := by
 unfold arT at h; split at h
 ·simp at h; obtain ⟨rfl, rfl⟩ := h; assumption
 ·cases h
theorem Jkx {t : TypeId} {fs : Array Field} (h : flT P t = some fs) : P.underlying t = some (.struct fs) := by
 unfold flT at h; split at h
 ·simp at h; subst h; assumption
 ·cases h
theorem J2Q {x k n} (h : Jf s (.p (.i k n)) x) : x = .int k n := by cases h with | p _ _ h => cases h; rfl
theorem Jfl {x n} (h : Jf s (.p (.b n)) x) : x = .bool n := by cases h with | p _ _ h => cases h; rfl
theorem J7q {x l} (h : Jf s (.p (.s l)) x) : x = .string ⟨l.toArray⟩ := by cases h with | p _ _ h => cases h; rfl
theorem Jrl {x} (h : Jf s (.p .np) x) : x = .pointer none := by cases h with | p _ _ h => cases h; rfl
theorem Jr3 {x} (h : Jf s (.p .nf) x) : x = .nilFunc := by cases h with | p _ _ h => cases h; rfl
theorem J3Q (k n) : Jf s (.p (.i k n)) (.int k n) := .p _ _ (.i _ _)
theorem J3O (n) : Jf s (.p (.b n)) (.bool n) := .p _ _ (.b _)
theorem JcQ (l) : Jf s (.p (.s l)) (.string ⟨l.toArray⟩) := .p _ _ (.s _)
theorem JgU (l : List UInt8) : ByteArray.toList ⟨l.toArray⟩ = l := by rw [ByteArray.toList_eq]
theorem J5R (l : List UInt8) : ByteArray.size ⟨l.toArray⟩ = l.length := by simp [ByteArray.size]
theorem JoC (l m : List UInt8) : (⟨l.toArray⟩ : ByteArray) ++ ⟨m.toArray⟩ = ⟨(l ++ m).toArray⟩ := by
 apply ByteArray.ext
 rw [ByteArray.data_append]
 simp
theorem JkD {op : BinOp} {k : IntKind} {x y : Int} {t : TypeId} {r : PV} (hns : op ≠ .shl) (hnr : op ≠ .shr) (h : Jds op k x y = some r) (w : World) :
    ∃ v, (binOp op t (.int k x) (.int k y)).run P w = .ok v w ∧ Jl s.w s.g.C r v := by
  cases op <;> simp only [Jds] at h
  case add => injection h with h; subst h; exact ⟨_, by simp [binOp, Op.intArith], .i _ _⟩
  case sub => injection h with h; subst h; exact ⟨_, by simp [binOp, Op.intArith], .i _ _⟩
  case mul => injection h with h; subst h; exact ⟨_, by simp [binOp, Op.intArith], .i _ _⟩
  case quo => split at h
              · cases h
              · rename_i hy; injection h with h; subst h; exact ⟨_, by simp [binOp, Op.intDiv, hy], .i _ _⟩
  case rem => split at h
              · cases h
              · rename_i hy; injection h with h; subst h; exact ⟨_, by simp [binOp, Op.intDiv, hy], .i _ _⟩
  case and => injection h with h; subst h; exact ⟨_, by simp [binOp, Op.intBits], .i _ _⟩
  case or => injection h with h; subst h; exact ⟨_, by simp [binOp, Op.intBits], .i _ _⟩
  case xor => injection h with h; subst h; exact ⟨_, by simp [binOp, Op.intBits], .i _ _⟩
  case eql => injection h with h; subst h; exact ⟨_, by simp [binOp, Op.intCmp], .b _⟩
  case neq => injection h with h; subst h; exact ⟨_, by simp [binOp, Op.intCmp], .b _⟩
  case lss => injection h with h; subst h; exact ⟨_, by simp [binOp, Op.intCmp], .b _⟩
  case leq => injection h with h; subst h; exact ⟨_, by simp [binOp, Op.intCmp], .b _⟩
  case gtr => injection h with h; subst h; exact ⟨_, by simp [binOp, Op.intCmp], .b _⟩
  case geq => injection h with h; subst h; exact ⟨_, by simp [binOp, Op.intCmp], .b _⟩
  all_goals simp_all
theorem Jbr {op : BinOp} {k k' : IntKind} {x y : Int} {t : TypeId} {r : PV} (hs : op = .shl ∨ op = .shr) (h : J9o op k x y = some r) (w : World) :
  ∃ v, (binOp op t (.int k x) (.int k' y)).run P w = .ok v w ∧ Jl s.w s.g.C r v := by
 unfold J9o at h
 split at h
 ·cases h
 ·rename_i hy
  rcases hs with rfl | rfl
  ·injection h with h; subst h; exact ⟨_, by simp [binOp, Op.shift, hy], .i _ _⟩
  ·injection h with h; subst h; exact ⟨_, by simp [binOp, Op.shift, hy], .i _ _⟩
theorem Jl0 {op : BinOp} {x y : List UInt8} {t : TypeId} {r : PV} (h : Jdw op x y = some r) (w : World) :
  ∃ v, (binOp op t (.string ⟨x.toArray⟩) (.string ⟨y.toArray⟩)).run P w = .ok v w ∧ Jl s.w s.g.C r v := by
 cases op <;> simp only [Jdw] at h
 case add =>
  split at h
  ·rename_i hl
   injection h with h; subst h
   refine ⟨.string ⟨(x ++ y).toArray⟩, ?_, .s _⟩
   have h1 : ¬ (((ByteArray.size ⟨x.toArray⟩ + ByteArray.size ⟨y.toArray⟩ : Nat) : Int) > IntKind.i64.max) := by
    rw [J5R, J5R]
    show ¬ (_ > (9223372036854775807 : Int))
    omega
   simp only [binOp, Op.stringOp]
   rw [if_neg h1, JoC]
   rfl
  ·cases h
 case eql => injection h with h; subst h; exact ⟨.bool (x == y), by simp [binOp, Op.stringOp], .b _⟩
 case neq => injection h with h; subst h; exact ⟨.bool (!(x == y)), by simp [binOp, Op.stringOp], .b _⟩
 case lss => injection h with h; subst h; exact ⟨.bool (Op.bytesLess x y), by simp [binOp, Op.stringOp], .b _⟩
 case leq => injection h with h; subst h; exact ⟨.bool (Op.bytesLess x y || x == y), by simp [binOp, Op.stringOp], .b _⟩
 case gtr => injection h with h; subst h; exact ⟨.bool (!(Op.bytesLess x y || x == y)), by simp [binOp, Op.stringOp], .b _⟩
 case geq => injection h with h; subst h; exact ⟨.bool (!Op.bytesLess x y), by simp [binOp, Op.stringOp], .b _⟩
 all_goals cases h
end
end Go.Am
end
section
namespace Go.Am
section
variable {P : Program} {F : Orc} {s : Sn} {a : Act} {env : List (Nat × AV)} {o : Oper} {new : Nat} {e : Eff}
theorem JtI (hi : Inv s) (he : JA s a.tmps env) {x} (h : (opR F (.mv x) new).run ⟨env, s.σ⟩ = some e) (hc : Jk P (.mv x) o.op = true) : J0h P o a s e := by
 simp only [opR] at h
 obtain ⟨v, h1, h⟩ := bind_some h
 simp only [RM.run] at h; injection h with h; subst h
 unfold Jk at hc
 simp only at hc
 split at hc
 ·rename_i y hop
  exact Jg hi (by simp only [execOp, hop]; rfl) (Jv he h1 hc)
 ·rename_i y hop
  exact Jg hi (by simp only [execOp, hop]; rfl) (Jv he h1 hc)
 ·cases hc
theorem JrI (hi : Inv s) (he : JA s a.tmps env) {c x y} (h : (opR F (.pick c x y) new).run ⟨env, s.σ⟩ = some e) (hc : Jk P (.pick c x y) o.op = true) : J0h P o a s e := by
 simp only [opR] at h
 obtain ⟨v, h1, h⟩ := bind_some h
 unfold Jk at hc
 simp only at hc
 split at hc
 ·rename_i c' x' y' hop
  simp only [Bool.and_eq_true] at hc
  split at h
  ·rename_i b
   have hb := Jfl (Jv he h1 hc.1.1)
   split at h
   ·rename_i hbt
    obtain ⟨u, h2, h⟩ := bind_some h
    simp only [RM.run] at h; injection h with h; subst h
    exact Jg hi (v := a.eval x') (by simp [execOp, hop, hb, hbt, asBool]) (Jv he h2 hc.1.2)
   ·rename_i hbt
    obtain ⟨u, h2, h⟩ := bind_some h
    simp only [RM.run] at h; injection h with h; subst h
    have hbt : b = false := by simpa using hbt
    exact Jg hi (v := a.eval y') (by simp [execOp, hop, hb, hbt, asBool]) (Jv he h2 hc.2)
  ·simp only [RM.run] at h; cases h
 ·cases hc
theorem JnX (hi : Inv s) (he : JA s a.tmps env) {x} (h : (opR F (.nilchk x) new).run ⟨env, s.σ⟩ = some e) (hc : Jk P (.nilchk x) o.op = true) : J0h P o a s e := by
 simp only [opR] at h
 obtain ⟨v, h1, h⟩ := bind_some h
 unfold Jk at hc
 simp only at hc
 split at hc
 ·rename_i y hop
  have hr := Jv he h1 hc
  split at h <;> (simp only [RM.run] at h; try cases h)
  ·refine Jg hi (v := a.eval y) ?_ hr
   generalize hu : a.eval y = u at hr
   cases hr
   simp [execOp, hop, hu]
  ·refine Jg hi (v := a.eval y) ?_ hr
   generalize hu : a.eval y = u at hr
   cases hr
   simp [execOp, hop, hu]
  ·refine Jg hi (v := a.eval y) ?_ hr
   generalize hu : a.eval y = u at hr
   cases hr with
   | ep _ _ _ _ _ _ _ _ h0 =>
    obtain ⟨r, o', rfl⟩ := h0
    simp [execOp, hop, hu]
  ·refine Jg hi (v := a.eval y) ?_ hr
   generalize hu : a.eval y = u at hr
   cases hr
   simp [execOp, hop, hu]
 ·cases hc
theorem J5n {op : BinOp} {t : TypeId} {x y : Operand} {u v : Value} (h : (∀ c, u ≠ .agg c) ∧ u ≠ .nilIface) (w : World) : (eqGuard op t x y u v).run P w = .ok () w := by
 unfold eqGuard
 cases op <;> simp
 all_goals (cases u <;> simp_all)
theorem JjO (hi : Inv s) (he : JA s a.tmps env) {op x y} (h : (opR F (.bin op .plain x y) new).run ⟨env, s.σ⟩ = some e) (hc : Jk P (.bin op .plain x y) o.op = true) : J0h P o a s e := by
 simp only [opR] at h
 obtain ⟨u, h1, h⟩ := bind_some h
 obtain ⟨v, h2, h⟩ := bind_some h
 obtain ⟨r, h3, rfl⟩ := J15 h
 unfold Jk at hc
 simp only at hc
 split at hc
 ·rename_i op' t x' y' ty hop
  simp only [Bool.and_eq_true, beq_iff_eq] at hc
  obtain ⟨⟨rfl, hx⟩, hy⟩ := hc
  have rx := Jv he h1 hx
  have ry := Jv he h2 hy
  have hex : ∀ {z : Value}, (∀ c, a.eval x' ≠ .agg c) ∧ a.eval x' ≠ .nilIface → (binOp op t (a.eval x') (a.eval y')).run P s.w = .ok z s.w → (execOp a.eval o).run P s.w = .ok (.value z) s.w := by
   intro z hg hz
   simp [execOp, hop, J5n hg, hz]
  simp only [J8j] at h3
  split at h3
  ·rename_i xk p yk q
   rw [J2Q rx, J2Q ry] at hex
   split at h3
   ·obtain ⟨z, hz, rfl⟩ := Option.map_eq_some_iff.1 h3
    obtain ⟨v, hv, hr⟩ := Jbr (s := s) (P := P) (t := t) (.inl rfl) hz s.w
    exact Jg hi (hex (by simp) hv) (.p _ _ hr)
   ·obtain ⟨z, hz, rfl⟩ := Option.map_eq_some_iff.1 h3
    obtain ⟨v, hv, hr⟩ := Jbr (s := s) (P := P) (t := t) (.inr rfl) hz s.w
    exact Jg hi (hex (by simp) hv) (.p _ _ hr)
   ·rename_i n1 n2
    split at h3
    ·rename_i hk; subst hk
     obtain ⟨z, hz, rfl⟩ := Option.map_eq_some_iff.1 h3
     obtain ⟨v, hv, hr⟩ := JkD (s := s) (P := P) (t := t) (fun e => n1 e) (fun e => n2 e) hz s.w
     exact Jg hi (hex (by simp) hv) (.p _ _ hr)
    ·cases h3
  ·rw [J7q rx, J7q ry] at hex
   obtain ⟨z, hz, rfl⟩ := Option.map_eq_some_iff.1 h3
   obtain ⟨v, hv, hr⟩ := Jl0 (s := s) (P := P) (t := t) hz s.w
   exact Jg hi (hex (by simp) hv) (.p _ _ hr)
  ·cases h3
 ·cases hc
theorem JkT (hi : Inv s) (he : JA s a.tmps env) {op x y} (h : (opR F (.bin op .bool x y) new).run ⟨env, s.σ⟩ = some e) (hc : Jk P (.bin op .bool x y) o.op = true) : J0h P o a s e := by
 simp only [opR] at h
 obtain ⟨u, h1, h'⟩ := bind_some h
 obtain ⟨v, h2, h''⟩ := bind_some h'
 obtain ⟨r, h3, rfl⟩ := J15 h''
 clear h h' h''
 unfold Jk at hc
 simp only at hc
 split at hc
 ·rename_i op' t x' y' ty hop
  simp only [Bool.and_eq_true, beq_iff_eq] at hc
  obtain ⟨⟨rfl, hx⟩, hy, ht⟩ := hc
  have rx := Jv he h1 hx
  have ry := Jv he h2 hy
  have hb := JkI ht
  simp only [J8j] at h3
  split at h3
  ·rename_i _ _ p q
   have ex := Jfl rx
   have ey := Jfl ry
   cases op <;> simp only [J62] at h3 <;> first | (injection h3 with h3; subst h3) | cases h3
   ·exact Jg hi (v := .bool (p == q)) (by simp [execOp, hop, ex, ey, eqGuard, binOp, run_equal_bool, hb]) (J3O _)
   ·exact Jg hi (v := .bool (!(p == q))) (by simp [execOp, hop, ex, ey, eqGuard, binOp, run_equal_bool, hb]) (J3O _)
  ·cases h3
 ·cases hc
theorem J8s {op : BinOp} {t : TypeId} {u v : Value} {b : Bool} (ho : op = .eql ∨ op = .neq) {w : World} (h : (Op.equal t u v).run P w = .ok b w)
  (hu : (∃ x n c, u = .slice x n c) ∨ (∃ p, u = .pointer p ∧ v = .pointer none) ∨ u = .nilFunc ∨ (∃ f y c, u = .func f y c)) :
  (binOp op t u v).run P w = .ok (.bool (if op = .eql then b else !b)) w := by
 rcases ho with rfl | rfl
 ·have : binOp .eql t u v = (do pure (.bool (← Op.equal t u v))) := by
   rcases hu with ⟨x, n, c, rfl⟩ | ⟨p, rfl, rfl⟩ | rfl | ⟨f, y, c, rfl⟩ <;> simp [binOp]
  rw [this]; simp [h]
 ·have : binOp .neq t u v = (do pure (.bool (!(← Op.equal t u v)))) := by
   rcases hu with ⟨x, n, c, rfl⟩ | ⟨p, rfl, rfl⟩ | rfl | ⟨f, y, c, rfl⟩ <;> simp [binOp]
  rw [this]; simp [h]
theorem J3Z {op : BinOp} {b : Bool} {r : AV} (h : J62 op (some b) = some r) : (op = .eql ∨ op = .neq) ∧ r = .p (.b (if op = .eql then b else !b)) := by
 cases op <;> simp [J62] at h
 ·exact ⟨.inl rfl, by simp [← h]⟩
 ·exact ⟨.inr rfl, by simp [← h]⟩
theorem JgX {op : BinOp} {r : AV} (h : Jin op = some r) : (op = .eql ∨ op = .neq) ∧ r = .unk := by
 cases op <;> simp [Jin] at h
 ·exact ⟨.inl rfl, h.symm⟩
 ·exact ⟨.inr rfl, h.symm⟩
theorem JkR (hi : Inv s) (he : JA s a.tmps env) {op x y} (h : (opR F (.bin op .nils x y) new).run ⟨env, s.σ⟩ = some e) (hc : Jk P (.bin op .nils x y) o.op = true) : J0h P o a s e := by
 simp only [opR] at h
 obtain ⟨u, h1, h'⟩ := bind_some h
 obtain ⟨v, h2, h''⟩ := bind_some h'
 obtain ⟨r, h3, rfl⟩ := J15 h''
 clear h h' h'' h2
 unfold Jk at hc
 simp only at hc
 split at hc
 ·rename_i op' t x' y' ty hop
  simp only [Bool.and_eq_true, beq_iff_eq] at hc
  obtain ⟨⟨rfl, hx⟩, ht⟩ := hc
  have rx := Jv he h1 hx
  clear h1
  have hy : y' = .const (.slice none 0 0) ∧ ∃ el, P.underlying t = some (.slice el) := by
   unfold Jsx at ht
   split at ht
   ·obtain ⟨el, hel⟩ := Option.isSome_iff_exists.1 ht
    exact ⟨rfl, el, J14 hel⟩
   ·cases ht
  obtain ⟨rfl, el, hu⟩ := hy
  have go : ∀ (z : Option Addr) (n c : Nat), a.eval x' = .slice z n c → (op = .eql ∨ op = .neq) →
    (execOp a.eval o).run P s.w = .ok (.value (.bool (if op = .eql then z.isNone else !z.isNone))) s.w := by
   intro z n c hz ho
   have h1 := J8s (P := P) (t := t) ho (run_equal_slice_nil s.w t el z n c hu) (.inl ⟨z, n, c, rfl⟩)
   simp only [execOp, hop, hz]
   simp only [Sem.run_bind, J5n (P := P) (u := .slice z n c) (by simp), Act.eval, h1, Result.andThen_ok, Sem.run_pure]
  simp only [J8j] at h3
  split at h3
  ·rename_i esz rows
   cases rx with
   | p _ _ rp =>
    split at h3
    ·obtain ⟨ho, rfl⟩ := JgX h3
     generalize hz : a.eval x' = z at rp
     cases rp with
     | sl0 _ ad cap => exact Jg hi (go _ _ _ hz ho) (.unk _)
     | sl _ _ r o' cap vals => exact Jg hi (go _ _ _ hz ho) (.unk _)
    ·obtain ⟨ho, rfl⟩ := J3Z h3
     generalize hz : a.eval x' = z at rp
     cases rp with
     | sl _ _ r o' cap vals => exact Jg hi (go _ _ _ hz ho) (J3O _)
  ·rename_i b i n
   generalize hz : a.eval x' = z at rx
   cases rx with
   | slr _ _ _ _ wm esz rows h0 =>
    obtain ⟨ad, cap, rfl, hn⟩ := h0
    split at h3
    ·obtain ⟨ho, rfl⟩ := JgX h3
     exact Jg hi (go _ _ _ hz ho) (.unk _)
    ·rename_i hn0
     obtain ⟨ho, rfl⟩ := J3Z h3
     have : ad.isNone = false := by
      cases ad with
      | none => exact absurd (hn.resolve_left hn0) (by simp)
      | some _ => rfl
     have h4 := go _ _ _ hz ho
     rw [this] at h4
     exact Jg hi h4 (J3O _)
  ·cases h3
 ·cases hc
theorem JkP (hi : Inv s) (he : JA s a.tmps env) {op x y} (h : (opR F (.bin op .nilp x y) new).run ⟨env, s.σ⟩ = some e) (hc : Jk P (.bin op .nilp x y) o.op = true) : J0h P o a s e := by
 simp only [opR] at h
 obtain ⟨u, h1, h'⟩ := bind_some h
 obtain ⟨v, h2, h''⟩ := bind_some h'
 obtain ⟨r, h3, rfl⟩ := J15 h''
 clear h h' h'' h2
 unfold Jk at hc
 simp only at hc
 split at hc
 ·rename_i op' t x' y' ty hop
  simp only [Bool.and_eq_true, beq_iff_eq] at hc
  obtain ⟨⟨rfl, hx⟩, ht⟩ := hc
  have rx := Jv he h1 hx
  clear h1
  have hy : y' = .const (.pointer none) ∧ ∃ el, P.underlying t = some (.pointer el) := by
   unfold JqO at ht
   split at ht
   ·split at ht
    ·exact ⟨rfl, _, by assumption⟩
    ·cases ht
   ·cases ht
  obtain ⟨rfl, el, hu⟩ := hy
  have go : ∀ (z : Option Addr), a.eval x' = .pointer z → (op = .eql ∨ op = .neq) →
    (execOp a.eval o).run P s.w = .ok (.value (.bool (if op = .eql then z.isNone else !z.isNone))) s.w := by
   intro z hz ho
   have : P.pointee t = el := by simp [Program.pointee, hu]
   have h1 := J8s (P := P) (t := t) ho (run_equal_pointer_nil s.w t z (by rw [this]; exact hu)) (.inr (.inl ⟨z, rfl, rfl⟩))
   simp only [execOp, hop, hz]
   simp only [Sem.run_bind, J5n (P := P) (u := .pointer z) (by simp), Act.eval, h1, Result.andThen_ok, Sem.run_pure]
  simp only [J8j] at h3
  generalize hz : a.eval x' = z at rx
  split at h3
  ·obtain ⟨ho, rfl⟩ := J3Z h3
   have := Jrl rx; subst this
   exact Jg hi (go _ hz ho) (J3O _)
  ·obtain ⟨ho, rfl⟩ := J3Z h3
   cases rx
   exact Jg hi (go _ hz ho) (J3O _)
  ·obtain ⟨ho, rfl⟩ := J3Z h3
   cases rx
   exact Jg hi (go _ hz ho) (J3O _)
  ·obtain ⟨ho, rfl⟩ := J3Z h3
   cases rx with
   | ep _ _ _ _ _ _ _ _ h0 =>
    obtain ⟨r, o', rfl⟩ := h0
    exact Jg hi (go _ hz ho) (J3O _)
  ·cases h3
 ·cases hc
theorem JkL (hi : Inv s) (he : JA s a.tmps env) {op x y} (h : (opR F (.bin op .nilf x y) new).run ⟨env, s.σ⟩ = some e) (hc : Jk P (.bin op .nilf x y) o.op = true) : J0h P o a s e := by
 simp only [opR] at h
 obtain ⟨u, h1, h'⟩ := bind_some h
 obtain ⟨v, h2, h''⟩ := bind_some h'
 obtain ⟨r, h3, rfl⟩ := J15 h''
 clear h h' h'' h2
 unfold Jk at hc
 simp only at hc
 split at hc
 ·rename_i op' t x' y' ty hop
  simp only [Bool.and_eq_true, beq_iff_eq] at hc
  obtain ⟨⟨rfl, hx⟩, ht⟩ := hc
  have rx := Jv he h1 hx
  clear h1
  have hy : y' = .const .nilFunc ∧ ∃ p r v, P.underlying t = some (.func p r v) := by
   unfold JsI at ht
   split at ht
   ·split at ht
    ·exact ⟨rfl, _, _, _, by assumption⟩
    ·cases ht
   ·cases ht
  obtain ⟨rfl, p, rr, vv, hu⟩ := hy
  simp only [J8j] at h3
  generalize hz : a.eval x' = z at rx
  split at h3
  ·obtain ⟨ho, rfl⟩ := J3Z h3
   have := Jr3 rx; subst this
   have heq : (Op.equal t .nilFunc .nilFunc).run P s.w = .ok true s.w := by
    have : ∀ d, (Op.equalIn (d + 1) t .nilFunc .nilFunc).run P s.w = .ok true s.w := fun d => by simp [Op.equalIn, run_underlying hu]
    exact this 9999
   have h1 := J8s (P := P) (t := t) ho heq (.inr (.inr (.inl rfl)))
   refine Jg hi ?_ (J3O _)
   simp only [execOp, hop, hz]
   simp only [Sem.run_bind, J5n (P := P) (u := .nilFunc) (by simp), Act.eval, h1, Result.andThen_ok, Sem.run_pure]
  ·obtain ⟨ho, rfl⟩ := J3Z h3
   cases rx
   rename_i f _ _ fs cs _ _ _ _
   have heq : (Op.equal t (.func (.func f) fs cs) .nilFunc).run P s.w = .ok false s.w := by
    have : ∀ d, (Op.equalIn (d + 1) t (.func (.func f) fs cs) .nilFunc).run P s.w = .ok false s.w := fun d => by simp [Op.equalIn, run_underlying hu]
    exact this 9999
   have h1 := J8s (P := P) (t := t) ho heq (.inr (.inr (.inr ⟨_, _, _, rfl⟩)))
   refine Jg hi ?_ (J3O _)
   simp only [execOp, hop, hz]
   simp only [Sem.run_bind, J5n (P := P) (u := .func (.func f) fs cs) (by simp), Act.eval, h1, Result.andThen_ok, Sem.run_pure]
  ·cases h3
 ·cases hc
end
end Go.Am
end
section
namespace Go.Am
theorem J5C : ∀ {vs : List Value} {w : World} {r o : Nat} {c : Array Value} {e : TypeId} {fz : Nat × Nat}, w.heap[r]? = some (.cells c e fz) → o + vs.length ≤ c.size →
  Put r o vs w (w.setCells r o vs)
 | [], w, r, o, c, e, fz, h, hl => ⟨⟨c, e, fz, c, h, h, rfl, hl, fun j v hj => by simp at hj, fun _ _ => rfl⟩, fun _ _ => rfl, rfl, rfl, rfl⟩
 | v :: vs, w, r, o, c, e, fz, h, hl => by
  have hr := J0o h
  have hl' : o + 1 + vs.length ≤ c.size := by simp at hl; omega
  have h1 : (w.setCell ⟨r, o, none⟩ v).heap[r]? = some (.cells (c.setIfInBounds o v) e fz) := by
   simp [World.setCell, Array.getElem?_modify, h]
  obtain ⟨⟨c1, e1, fz1, c', p1, p2, p3, p4, p5, p6⟩, q1, q2, q3, q4⟩ := J5C (vs := vs) (o := o + 1) h1 (by simpa using hl')
  rw [h1] at p1; injection p1 with p1; injection p1 with a1 a2 a3; subst a1 a2 a3
  refine ⟨⟨c, e, fz, c', h, p2, by simpa using p3, hl, fun j u hj => ?_, fun k hk => ?_⟩, fun r' hne => ?_, ?_, q3, q4⟩
  ·cases j with
   | zero =>
    simp at hj; subst hj
    rw [Nat.add_zero, p6 o (.inl (by omega))]
    have : o < c.size := by simp at hl; omega
    simp [this]
   | succ j =>
    have := p5 j u (by simpa using hj)
    rwa [show o + (j + 1) = o + 1 + j by omega]
  ·rw [p6 k (by simp at hk; omega)]
   have : o ≠ k := by simp at hk; omega
   simp [Array.getElem?_setIfInBounds, this]
  ·show ((w.setCell ⟨r, o, none⟩ v).setCells r (o + 1) vs).heap[r']? = _
   rw [q1 r' hne]
   simp [World.setCell, Array.getElem?_modify, Ne.symm hne]
  ·show ((w.setCell ⟨r, o, none⟩ v).setCells r (o + 1) vs).heap.size = _
   rw [q2]; simp [World.setCell]
theorem Jl.one {w C x v} (h : Jl w C x v) : v.oneCell' = true := by cases h <;> rfl
theorem Jl.cells1 {w C x v} (h : Jl w C x v) : v.cells = #[v] := by cases h <;> rfl
section
variable {P : Program} {F : Orc} {s : Sn} {a : Act} {env : List (Nat × AV)} {o : Oper} {new : Nat} {e : Eff}
theorem JtL (hi : Inv s) (he : JA s a.tmps env) {op x} (h : (opR F (.un op x) new).run ⟨env, s.σ⟩ = some e) (hc : Jk P (.un op x) o.op = true) : J0h P o a s e := by
 simp only [opR] at h
 obtain ⟨u, h1, h'⟩ := bind_some h
 obtain ⟨r, h3, rfl⟩ := J15 h'
 clear h h'
 unfold Jk at hc
 simp only at hc
 split at hc
 ·rename_i op' t y hop
  simp only [Bool.and_eq_true, beq_iff_eq] at hc
  obtain ⟨rfl, hx⟩ := hc
  have rx := Jv he h1 hx
  clear h1
  generalize hz : a.eval y = z at rx
  unfold unP at h3
  split at h3 <;> first | (injection h3 with h3; subst h3) | cases h3
  ·rename_i k n
   have := J2Q rx; subst this
   exact Jg hi (v := .int k (k.wrap (0 - n))) (by simp [execOp, hop, hz, Op.unary, Op.intArith]) (J3Q _ _)
  ·rename_i k n
   have := J2Q rx; subst this
   exact Jg hi (v := .int k (k.wrap (BitVec.ofInt k.bits (if k.signed then -1 else k.max) ^^^ BitVec.ofInt k.bits n).toNat)) (by simp [execOp, hop, hz, Op.unary, Op.intBits]) (J3Q _ _)
  ·rename_i b
   have := Jfl rx; subst this
   exact Jg hi (v := .bool (!b)) (by simp [execOp, hop, hz, Op.unary]) (J3O _)
  ·cases rx with
   | unk b => exact Jg hi (v := .bool (!b)) (by simp [execOp, hop, hz, Op.unary]) (.unk _)
 ·cases hc
theorem Jp0 (hi : Inv s) (he : JA s a.tmps env) {off x} (h : (opR F (.faddr off x) new).run ⟨env, s.σ⟩ = some e) (hc : Jk P (.faddr off x) o.op = true) : J0h P o a s e := by
 simp only [opR] at h
 obtain ⟨u, h1, h'⟩ := bind_some h
 obtain ⟨r, h3, rfl⟩ := J15 h'
 clear h h'
 unfold Jk at hc
 simp only at hc
 split at hc
 ·rename_i t y f hop
  simp only [Bool.and_eq_true] at hc
  obtain ⟨hx, ht⟩ := hc
  have rx := Jv he h1 hx
  clear h1
  have hf : ∃ fs fl n, P.underlying t = some (.struct fs) ∧ fs[f]? = some fl ∧ fl.offset = off ∧ szT P fl.type = some n ∧ n ≠ 0 := by
   split at ht
   ·rename_i fs hfs
    split at ht
    ·rename_i fl hfl
     simp only [Bool.and_eq_true, beq_iff_eq] at ht
     obtain ⟨h4, h5⟩ := ht
     split at h5
     ·rename_i n hn
      exact ⟨fs, fl, n, Jkx hfs, hfl, h4, hn, by simpa using h5⟩
     ·cases h5
    ·cases ht
   ·cases ht
  obtain ⟨fs, fl, n, hu, hfl, rfl, hn, hn0⟩ := hf
  have go : ∀ (r o' : Nat), a.eval y = .pointer (some ⟨r, o', none⟩) → (execOp a.eval o).run P s.w = .ok (.value (.pointer (some ⟨r, o' + fl.offset, none⟩))) s.w := by
   intro r o' hz
   have hadd : Addr.add ⟨r, o', none⟩ fl.offset = ⟨r, o' + fl.offset, none⟩ := by unfold Addr.add; split <;> simp_all
   simp only [execOp, hop, hz]
   simp [Instr.fieldAt, run_underlying hu, hfl, Instr.sureAddr, fieldPlace, J1S hn, hn0, hadd]
  generalize hz : a.eval y = z at rx
  unfold Jcw at h3
  split at h3 <;> first | (injection h3 with h3; subst h3) | cases h3
  ·cases rx with
   | ptr _ _ r o' m hb => exact Jg hi (go _ _ hz) (by rw [Nat.add_assoc]; exact .ptr _ _ r o' m hb)
  ·cases rx with
   | cp cs _ r o' vals p1 p2 => exact Jg hi (go _ _ hz) (by rw [Nat.add_assoc]; exact .cp _ _ r o' vals p1 p2)
  ·cases rx with
   | ep _ _ _ _ _ wm esz rows p0 p1 p2 p3 =>
    obtain ⟨r, o', rfl⟩ := p0
    refine Jg hi (go _ _ hz) (.ep _ _ _ _ _ wm esz rows ⟨_, _, rfl⟩ p1 p2 fun e1 e2 => ?_)
    obtain ⟨r', m, hv⟩ := p3 e1 e2
    simp at hv
    obtain ⟨rfl, rfl⟩ := hv
    exact ⟨r, m, by rw [Nat.add_assoc]⟩
 ·cases hc
theorem Jrn (hi : Inv s) (he : JA s a.tmps env) {x i} (h : (opR F (.extr x i) new).run ⟨env, s.σ⟩ = some e) (hc : Jk P (.extr x i) o.op = true) : J0h P o a s e := by
 simp only [opR] at h
 obtain ⟨u, h1, h'⟩ := bind_some h
 obtain ⟨r, h3, rfl⟩ := J15 h'
 clear h h'
 unfold Jk at hc
 simp only at hc
 split at hc
 ·rename_i y j hop
  simp only [Bool.and_eq_true, beq_iff_eq] at hc
  obtain ⟨hx, rfl⟩ := hc
  have rx := Jv he h1 hx
  generalize hz : a.eval y = z at rx
  unfold Jfs at h3
  split at h3
  ·cases rx with
   | tup cs vs p1 p2 =>
    have hlt := J8 h3
    have hv : vs[i]? = some vs[i] := by simp
    exact Jg hi (v := vs[i]) (by simp [execOp, hop, hz, Instr.extract, hv]) (p2 i r _ h3 hv)
  ·cases h3
 ·cases hc
theorem Jri (hi : Inv s) (he : JA s a.tmps env) {f first caps} (h : (opR F (.mkfn f first caps) new).run ⟨env, s.σ⟩ = some e) (hc : Jk P (.mkfn f first caps) o.op = true) : J0h P o a s e := by
 simp only [opR] at h
 obtain ⟨u, h1, h'⟩ := bind_some h
 obtain ⟨v, h2, h''⟩ := bind_some h'
 simp only [RM.run] at h''; injection h'' with h''; subst h''
 clear h h'
 unfold Jk at hc
 simp only at hc
 split at hc
 ·rename_i g first' caps' hop
  simp only [Bool.and_eq_true, beq_iff_eq] at hc
  obtain ⟨⟨rfl, hf⟩, hcp⟩ := hc
  obtain ⟨l1, r1⟩ := J8S he h1 hf
  obtain ⟨l2, r2⟩ := J8S he h2 hcp
  refine Jg hi (v := .func (.func f) (first'.map a.eval) (caps'.map a.eval)) (by simp [execOp, hop, Instr.makeFunc]) (.fn _ _ _ _ _ (by simpa using l1) (by simpa using l2) (fun i x v hx hv => r1 i x v hx ?_) (fun i x v hx hv => r2 i x v hx ?_))
  ·simpa using hv
  ·simpa using hv
 ·cases hc
theorem JtJ (hi : Inv s) (he : JA s a.tmps env) {mx x y} (h : (opR F (.mm mx x y) new).run ⟨env, s.σ⟩ = some e) (hc : Jk P (.mm mx x y) o.op = true) : J0h P o a s e := by
 simp only [opR] at h
 obtain ⟨u, h1, h'⟩ := bind_some h
 obtain ⟨v, h2, h''⟩ := bind_some h'
 obtain ⟨r, h3, rfl⟩ := J15 h''
 clear h h' h''
 unfold Jk at hc
 simp only at hc
 split at hc
 ·rename_i c hop
  split at hc
  ·rename_i b hcal
   simp only [Bool.and_eq_true, beq_iff_eq] at hc
   obtain ⟨hb, hc⟩ := hc
   split at hc
   ·rename_i x' y' hargs
    simp only [Bool.and_eq_true] at hc
    have rx := Jv he h1 hc.1
    have ry := Jv he h2 hc.2
    have hm : c.args.map a.eval = #[a.eval x', a.eval y'] := by
     apply Array.ext'
     simp [hargs]
    unfold mmP at h3
    split at h3
    ·rename_i k p k' q
     injection h3 with h3; subst h3
     have ex := J2Q rx
     have ey := J2Q ry
     cases mx
     ·simp only [Bool.false_eq_true, if_false] at hb ⊢
      subst hb
      refine Jg hi (v := .int k (if q < p then q else p)) ?_ (J3Q _ _)
      simp [execOp, hop, resolve, hcal, hm, ex, ey, invoke, builtin, Builtin.min_, Builtin.min2]
     ·simp only [if_true] at hb ⊢
      subst hb
      refine Jg hi (v := .int k (if q > p then q else p)) ?_ (J3Q _ _)
      simp [execOp, hop, resolve, hcal, hm, ex, ey, invoke, builtin, Builtin.max_, Builtin.max2]
    ·cases h3
   ·cases hc
  ·cases hc
 ·cases hc
theorem JsX (hi : Inv s) (he : JA s a.tmps env) {str x} (h : (opR F (.len str x) new).run ⟨env, s.σ⟩ = some e) (hc : Jk P (.len str x) o.op = true) : J0h P o a s e := by
 simp only [opR] at h
 obtain ⟨u, h1, h'⟩ := bind_some h
 obtain ⟨r, h3, rfl⟩ := J15 h'
 clear h h'
 unfold Jk at hc
 simp only at hc
 split at hc
 ·rename_i c hop
  split at hc
  ·rename_i hcal
   split at hc
   ·rename_i y t hargs htys
    simp only [Bool.and_eq_true] at hc
    obtain ⟨hx, ht⟩ := hc
    have rx := Jv he h1 hx
    have hm : c.args.map a.eval = #[a.eval y] := by apply Array.ext'; simp [hargs]
    have ht0 : c.argTypes[0]? = some t := by rw [← Array.getElem?_toList, htys]; rfl
    generalize hz : a.eval y = z at rx
    have hs : ∀ l : List UInt8, z = .string ⟨l.toArray⟩ → J4k P t = true → (execOp a.eval o).run P s.w = .ok (.value (.int .i64 l.length)) s.w := by
     intro l hl hst
     have := J4G hst
     simp [execOp, hop, resolve, hcal, hm, hz, hl, invoke, builtin, Builtin.len_, ht0, run_underlying this, goInt, J5R]
    have hsl : ∀ ad n cp, z = .slice ad n cp → (elT P t).isSome = true → (execOp a.eval o).run P s.w = .ok (.value (.int .i64 n)) s.w := by
     intro ad n cp hl hst
     obtain ⟨el, hel⟩ := Option.isSome_iff_exists.1 hst
     have := J14 hel
     simp [execOp, hop, resolve, hcal, hm, hz, hl, invoke, builtin, Builtin.len_, ht0, run_underlying this, goInt]
    unfold Jge at h3
    split at h3 <;> first | (injection h3 with h3; subst h3) | cases h3
    ·exact Jg hi (hs _ (J7q rx) (by simpa using ht)) (J3Q _ _)
    ·cases rx with
     | p _ _ rp =>
      cases rp with
      | sl0 _ ad cap => exact Jg hi (hsl _ _ _ rfl (by simpa using ht)) (J3Q _ _)
      | sl _ _ r o' cap vals => exact Jg hi (hsl _ _ _ rfl (by simpa using ht)) (J3Q _ _)
    ·cases rx with
     | slr _ _ _ _ wm esz rows h0 =>
      obtain ⟨ad, cap, hv, _⟩ := h0
      exact Jg hi (hsl _ _ _ hv (by simpa using ht)) (J3Q _ _)
   ·cases hc
  ·cases hc
 ·cases hc
end
end Go.Am
end
section
namespace Go.Am
section
variable {P : Program} {F : Orc} {s : Sn} {a : Act} {env : List (Nat × AV)} {o : Oper} {new : Nat} {e : Eff}
theorem J4n.of_p {s : Sn} {esz rows v} (h : Jf s (.p (.sl esz rows)) v) : J4n s esz rows v := by
 cases h with | p _ _ h => exact .of_sl h
theorem JfD (hi : Inv s) {esz : Nat} {x : AV} {rows : List (List PV)} {v : Value} (h : (J1D esz x).run ⟨env, s.σ⟩ = some rows) (hr : Jf s x v) :
  (∃ l, x = .p (.s l) ∧ esz = 1 ∧ rows = l.map J2U ∧ v = .string ⟨l.toArray⟩) ∨ J4n s esz rows v := by
 unfold J1D at h
 split at h
 ·split at h
  ·rename_i he; subst he
   simp only [RM.run] at h; injection h with h; subst h
   exact .inr (.of_p hr)
  ·cases h
 ·split at h
  ·rename_i l he
   simp only [RM.run] at h; injection h with h; subst h
   exact .inl ⟨l, rfl, he, rfl, J7q hr⟩
  ·cases h
 ·simp only [RM.run] at h
  split at h
  ·rename_i blk hb
   split at h
   ·split at h
    ·rename_i hc
     obtain ⟨rfl, hc⟩ := hc
     simp only [RM.run] at h; injection h with h; subst h
     exact .inr (.of_slr hi hr hb hc)
    ·cases h
   ·cases h
  ·cases h
 ·cases h
theorem JdE {α : Type} {esz : Nat} : ∀ {rows : List (List α)}, (∀ row ∈ rows, row.length = esz) → ∀ {k : Nat} {x : α}, rows.flatten[k]? = some x →
  ∃ i j row, k = i * esz + j ∧ rows[i]? = some row ∧ row[j]? = some x ∧ j < esz
 | [], _, k, x, h => by simp at h
 | r :: rows, hl, k, x, h => by
  simp only [List.flatten_cons] at h
  have hr : r.length = esz := hl r (by simp)
  rcases List.getElem?_append (l₁ := r) (l₂ := rows.flatten) (i := k) ▸ h with h'
  split at h'
  ·exact ⟨0, k, r, by simp, rfl, h', by omega⟩
  ·obtain ⟨i, j, row, e1, e2, e3, e4⟩ := JdE (fun row hm => hl row (by simp [hm])) h'
   exact ⟨i + 1, j, row, by rw [Nat.add_mul]; omega, by simpa using e2, e3, e4⟩
theorem Jbh {α : Type} {esz : Nat} : ∀ {rows : List (List α)}, (∀ row ∈ rows, row.length = esz) → rows.flatten.length = rows.length * esz
 | [], _ => by simp
 | r :: rows, hl => by
  have := Jbh (rows := rows) (fun row hm => hl row (by simp [hm]))
  have h1 := hl r (by simp)
  simp [this, h1, Nat.add_mul]; omega
theorem J4n.cells {s : Sn} {esz rows v} (h : J4n s esz rows v) :
  ∃ (a : Option Addr) (cap : Nat) (vs : List Value), v = .slice a rows.length cap ∧ rows.length ≤ cap ∧ vs.length = rows.length * esz ∧
   (∀ (k : Nat) x, rows.flatten[k]? = some x → ∃ u, vs[k]? = some u ∧ Jl s.w s.g.C x u) ∧
   (rows = [] ∨ ∃ r o, a = some ⟨r, o, none⟩ ∧ ∀ (k : Nat) u, vs[k]? = some u → cellAt s.w r (o + k) = some u) ∧ (∀ row ∈ rows, row.length = esz) := by
 obtain ⟨a, cap, h1, h2, h3, h4⟩ := h
 rcases h4 with rfl | ⟨r, o, ha, hx⟩
 ·exact ⟨a, cap, [], h1, h2, by simp, fun k x hk => by simp at hk, .inl rfl, h3⟩
 ·refine ⟨a, cap, (List.range (rows.length * esz)).map fun k => (cellAt s.w r (o + k)).getD .nilFunc, h1, h2, by simp, fun k x hk => ?_, .inr ⟨r, o, ha, fun k u hk => ?_⟩, h3⟩
  ·obtain ⟨i, j, row, e1, e2, e3, _⟩ := JdE h3 hk
   obtain ⟨u, hu, hr⟩ := hx i j row x e2 e3
   have hlt := J8 hk
   rw [Jbh h3] at hlt
   refine ⟨u, ?_, hr⟩
   rw [List.getElem?_map, List.getElem?_range hlt]
   have : o + k = o + i * esz + j := by omega
   simp [this, hu]
  ·have hlt := J8 hk
   simp at hlt
   rw [List.getElem?_map, List.getElem?_range hlt] at hk
   simp at hk
   have : k < rows.flatten.length := by rw [Jbh h3]; exact hlt
   obtain ⟨i, j, row, e1, e2, e3, _⟩ := JdE h3 (List.getElem?_eq_getElem this)
   obtain ⟨u', hu, _⟩ := hx i j row _ e2 e3
   have e4 : o + k = o + i * esz + j := by omega
   rw [e4, hu] at hk ⊢
   simpa using hk
theorem JbI : ∀ {rows : List (List PV)} {l : List UInt8}, J60 rows = some l → ∃ ns : List Int, rows = ns.map (fun n => [PV.i .u8 n]) ∧ l = ns.map fun n => UInt8.ofNat n.toNat
 | [], l, h => by simp [J60] at h; exact ⟨[], rfl, by simp [h]⟩
 | row :: rows, l, h => by
  unfold J60 at h
  split at h
  ·simp_all
  ·rename_i n r heq
   injection heq with e1 e2; subst e1 e2
   split at h
   ·rename_i l' hl'
    injection h with h; subst h
    obtain ⟨ns, h1, h2⟩ := JbI hl'
    exact ⟨n :: ns, by simp [h1], by simp [h2]⟩
   ·cases h
  ·cases h
theorem JmI (ns : List Int) : ∀ b : ByteArray, (ns.foldl (fun r n => r.push (UInt8.ofNat n.toNat)) b) = ⟨b.data ++ (ns.map fun n => UInt8.ofNat n.toNat).toArray⟩ := by
 induction ns with
 | nil => intro b; simp
 | cons n ns ih =>
  intro b
  simp only [List.foldl_cons, ih]
  apply ByteArray.ext
  apply Array.ext'
  simp [ByteArray.push]
theorem J6R (r o n : Nat) : Addr.add ⟨r, o, none⟩ n = ⟨r, o + n, none⟩ := by unfold Addr.add; split <;> simp_all
theorem Jh5 {w : World} {r o : Nat} (vs : List Value) (h : ∀ (k : Nat) u, vs[k]? = some u → cellAt w r (o + k) = some u) :
  (loadCells ⟨r, o, none⟩ vs.length).run P w = .ok vs.toArray w :=
 run_loadCells_list w _ vs fun j v hj => by rw [J6R, J2z]; exact h j v hj
theorem JrN (hi : Inv s) (he : JA s a.tmps env) {k x} (hk : ∀ own, k ≠ .toBytes own) (h : (opR F (.conv k x) new).run ⟨env, s.σ⟩ = some e) (hc : Jk P (.conv k x) o.op = true) : J0h P o a s e := by
 simp only [opR] at h
 obtain ⟨u, h1, h'⟩ := bind_some h
 clear h
 unfold Jk at hc
 simp only at hc
 split at hc
 ·rename_i src dst y hop
  simp only [Bool.and_eq_true] at hc
  obtain ⟨hx, ht⟩ := hc
  have rx := Jv he h1 hx
  generalize hz : a.eval y = z at rx
  split at h'
  ·rename_i k' k1 n
   simp only [RM.run] at h'; injection h' with h'; subst h'
   simp only [Bool.and_eq_true] at ht
   obtain ⟨ks, hs⟩ := JoA ht.1
   have hd := JmU ht.2
   have := J2Q rx; subst this
   exact Jg hi (v := .int k' (k'.wrap n)) (by simp [execOp, hop, hz, convert, run_underlying hs, run_underlying hd, Conv.intToInt]) (J3Q _ _)
  ·rename_i l
   simp only [RM.run] at h'; injection h' with h'; subst h'
   simp only [Bool.and_eq_true] at ht
   have hs := J4G ht.1
   have hd := J4G ht.2
   have := J7q rx; subst this
   exact Jg hi (v := .string ⟨l.toArray⟩) (by simp [execOp, hop, hz, convert, run_underlying hs, run_underlying hd]) (JcQ _)
  ·simp only [Bool.and_eq_true] at ht
   obtain ⟨ht, hd⟩ := ht
   have hd := J4G hd
   split at ht
   ·rename_i el hel
    simp only [Bool.and_eq_true, beq_iff_eq] at ht
    have hs := J14 hel
    have hu8 := Jk0 ht.1
    obtain ⟨rows, h4, h5⟩ := bind_some h'
    clear h'
    split at h5
    ·rename_i l hl
     simp only [RM.run] at h5; injection h5 with h5; subst h5
     rcases JfD hi h4 rx with ⟨l', rfl, _, hrows, hv⟩ | hsl
     ·
      have := J7q rx; subst this
      have : l = l' := by
       have : ∀ l : List UInt8, J60 (l.map J2U) = some l := by
        intro l
        induction l with
        | nil => rfl
        | cons b l ih => simp [J60, J2U, ih]
       rw [hrows, this] at hl
       injection hl with hl; exact hl.symm
      subst this
      exact Jg hi (v := .string ⟨l.toArray⟩) (by simp [execOp, hop, hz, convert, run_underlying hs, run_underlying hd]) (JcQ _)
     ·obtain ⟨ad, cap, vs, hv, hcap, hlen, hrel, hmem, hrow⟩ := hsl.cells
      obtain ⟨ns, hr, rfl⟩ := JbI hl
      have hvs : vs = ns.map (Value.int .u8) := by
       apply List.ext_getElem?
       intro k
       have hfl : rows.flatten = ns.map (PV.i .u8) := by rw [hr]; clear hr hl hrel hlen hrow hmem hv hcap h4 rx; induction ns with
        | nil => rfl
        | cons n ns ih => simp [ih]
       by_cases hk : k < ns.length
       ·obtain ⟨u, hu, hp⟩ := hrel k (.i .u8 ns[k]) (by rw [hfl]; simp [hk])
        cases hp
        rw [hu]; simp [hk]
       ·have h6 : vs.length = ns.length := by rw [hlen, hr]; simp
        rw [List.getElem?_eq_none (by omega), List.getElem?_eq_none (by simp; omega)]
      have hlen' : rows.length = vs.length := by omega
      subst hv
      have hrun : (Conv.bytesToString (.slice ad rows.length cap)).run P s.w = .ok (.string ⟨(ns.map fun n => UInt8.ofNat n.toNat).toArray⟩) s.w := by
       rcases hmem with hnil | ⟨r, o', rfl, hm⟩
       ·have hn0 : ns = [] := by rw [hnil] at hr; simpa using hr.symm
        subst hn0
        cases ad with
        | none => simp [Conv.bytesToString]; rfl
        | some ad =>
         have := run_bytesToString (P := P) s.w ad rows.length cap [] (by rw [hnil]; simp [loadCells, loadCellsFrom])
         rw [this]; rfl
       ·have := run_bytesToString (P := P) s.w ⟨r, o', none⟩ rows.length cap ns (by rw [hlen', ← hvs]; exact Jh5 vs hm)
        rw [this, JmI]
        simp
      refine Jg hi (v := .string ⟨(ns.map fun n => UInt8.ofNat n.toNat).toArray⟩) ?_ (JcQ _)
      simp [execOp, hop, hz, convert, run_underlying hs, run_underlying hd, run_underlying hu8, hrun]
    ·cases h5
   ·cases ht
  ·rename_i own l
   exact absurd rfl (hk own)
  ·cases h'
 ·cases hc
end
end Go.Am
end
section
namespace Go.Am
theorem Jah {α : Type} {cs l : List α} {off size : Nat} (h : sub cs off size = some l) : l.length = size ∧ off + size ≤ cs.length ∧ ∀ (i : Nat), i < size → l[i]? = cs[off + i]? := by
 unfold sub at h
 split at h
 ·rename_i hc
  injection h with h; subst h
  exact ⟨hc.2, by omega, fun i hi => by rw [hc.1, Nat.zero_add]⟩
 ·split at h
  ·rename_i hc
   injection h with h; subst h
   refine ⟨by simp; omega, hc, fun i hi => ?_⟩
   rw [List.getElem?_take, if_pos hi, List.getElem?_drop]
  ·cases h
theorem Jb8 : ∀ {cs : List AV} {l : List PV}, unp cs = some l → cs = l.map .p
 | [], l, h => by simp [unp] at h; simp [h]
 | x :: cs, l, h => by
  unfold unp at h
  split at h
  ·simp_all
  ·rename_i c r heq
   injection heq with e1 e2; subst e1 e2
   split at h
   ·rename_i l' hl
    injection h with h; subst h
    simp [Jb8 hl]
   ·cases h
  ·cases h
section
variable {P : Program} {F : Orc} {s : Sn} {a : Act} {env : List (Nat × AV)} {o : Oper} {new : Nat} {e : Eff}
theorem Jgs {agg : Bool} {l : List PV} {x : AV} {vs : List Value} (h : J31 agg l = some x) (hl : l.length = vs.length)
  (hr : ∀ (i : Nat) y v, l[i]? = some y → vs[i]? = some v → Jl s.w s.g.C y v) :
  (agg = true ∧ Jf s x (.agg vs.toArray)) ∨ (agg = false ∧ ∃ v, vs = [v] ∧ Jf s x v) := by
 cases agg with
 | true =>
  simp [J31] at h; subst h
  exact .inl ⟨rfl, .data _ _ (by simpa using hl) fun i y v hy hv => hr i y v hy (by simpa using hv)⟩
 | false =>
  simp only [J31, Bool.false_eq_true, if_false] at h
  split at h
  ·injection h with h; subst h
   obtain ⟨v, rfl⟩ : ∃ v, vs = [v] := List.length_eq_one_iff.1 (by simpa using hl.symm)
   exact .inr ⟨rfl, v, rfl, .p _ _ (hr 0 _ v rfl rfl)⟩
  ·cases h
theorem JeA {agg : Bool} {l : List AV} {x : AV} {vs : List Value} (h : J2y agg l = some x) (hl : l.length = vs.length) (h1 : ∀ v ∈ vs, v.oneCell' = true)
  (hr : ∀ (i : Nat) y v, l[i]? = some y → vs[i]? = some v → Jf s y v) :
  (agg = true ∧ Jf s x (.agg vs.toArray)) ∨ (agg = false ∧ ∃ v, vs = [v] ∧ Jf s x v) := by
 cases agg with
 | true =>
  simp only [J2y, if_true] at h
  split at h
  ·rename_i q hq
   injection h with h; subst h
   have := Jb8 hq; subst this
   refine .inl ⟨rfl, .data _ _ (by simpa using hl) fun i y v hy hv => ?_⟩
   have := hr i (.p y) v (by simp [hy]) (by simpa using hv)
   cases this with | p _ _ h => exact h
  ·injection h with h; subst h
   exact .inl ⟨rfl, .agg _ _ (by simpa using hl) (fun i v hv => h1 v (by have := JM (l := vs) (i := i) (x := v) (by simpa using hv); exact this)) fun i y v hy hv => hr i y v hy (by simpa using hv)⟩
 | false =>
  simp only [J2y, Bool.false_eq_true, if_false] at h
  split at h
  ·injection h with h; subst h
   obtain ⟨v, rfl⟩ : ∃ v, vs = [v] := List.length_eq_one_iff.1 (by simpa using hl.symm)
   exact .inr ⟨rfl, v, rfl, hr 0 _ v rfl rfl⟩
  ·cases h
theorem JgZ {agg : Bool} {off size : Nat} {x r : AV} {v : Value} {t : TypeId} (h : J6n agg off size x = some r) (hr : Jf s x v) (ht : agT P t = some agg) (hs : szT P t = some size)
  (h1 : agg = true ∨ size = 1) : ∃ cs u, v = .agg cs ∧ (part t cs off).run P s.w = .ok u s.w ∧ Jf s r u := by
 have go : ∀ (cs : Array Value) (vs : List Value), vs.length = size → (∀ (i : Nat), i < size → vs[i]? = cs[off + i]?) → off + size ≤ cs.size →
   ((agg = true ∧ Jf s r (.agg vs.toArray)) ∨ (agg = false ∧ ∃ v, vs = [v] ∧ Jf s r v)) → ∃ u, (part t cs off).run P s.w = .ok u s.w ∧ Jf s r u := by
  intro cs vs hvl hvg hle hor
  rcases hor with ⟨rfl, hra⟩ | ⟨rfl, v, rfl, hra⟩
  ·refine ⟨.agg (cs.extract off (off + size)), by simp [part, J8Q ht, J1S hs], ?_⟩
   have : cs.extract off (off + size) = vs.toArray := by
    apply Array.ext'
    rw [Array.toList_extract]
    apply List.ext_getElem?
    intro k
    simp only [List.extract, Nat.add_sub_cancel_left]
    rw [List.getElem?_take]
    split
    ·rename_i hk
     rw [List.getElem?_drop, Array.getElem?_toList, hvg k hk]
    ·rw [List.getElem?_eq_none (by omega)]
   rw [this]; exact hra
  ·simp at hvl; subst hvl
   have h0 := hvg 0 (by omega)
   simp at h0
   exact ⟨v, by simp [part, J8Q ht, ← h0], hra⟩
 unfold J6n at h
 split at h
 ·rename_i cs
  split at h
  ·rename_i l hl
   obtain ⟨k1, k2, k3⟩ := Jah hl
   cases hr with
   | data _ vs q1 q2 =>
    have hor := Jgs (s := s) (vs := ((vs.toList.drop off).take size)) h (by simp; omega) (by
     intro i y v hy hv
     have hi := J8 hy
     rw [k3 i (by omega)] at hy
     rw [List.getElem?_take, if_pos (by omega), List.getElem?_drop] at hv
     exact q2 _ y v hy (by simpa using hv))
    obtain ⟨u, hu, hra⟩ := go vs _ (by simp; omega) (by intro i hi; rw [List.getElem?_take, if_pos hi, List.getElem?_drop]; simp) (by omega) hor
    exact ⟨vs, u, rfl, hu, hra⟩
  ·cases h
 ·rename_i cs
  split at h
  ·rename_i l hl
   obtain ⟨k1, k2, k3⟩ := Jah hl
   cases hr with
   | agg _ vs q1 q0 q2 =>
    have hor := JeA (s := s) (vs := ((vs.toList.drop off).take size)) h (by simp; omega) (by
     intro v hv
     have hv := List.mem_of_mem_drop (List.mem_of_mem_take hv)
     obtain ⟨i, hi⟩ := List.getElem?_of_mem hv
     exact q0 i v (by simpa using hi)) (by
     intro i y v hy hv
     have hi := J8 hy
     rw [k3 i (by omega)] at hy
     rw [List.getElem?_take, if_pos (by omega), List.getElem?_drop] at hv
     exact q2 _ y v hy (by simpa using hv))
    obtain ⟨u, hu, hra⟩ := go vs _ (by simp; omega) (by intro i hi; rw [List.getElem?_take, if_pos hi, List.getElem?_drop]; simp) (by omega) hor
    exact ⟨vs, u, rfl, hu, hra⟩
  ·cases h
 ·cases h
theorem JpG (hi : Inv s) (he : JA s a.tmps env) {agg off size x} (h : (opR F (.field agg off size x) new).run ⟨env, s.σ⟩ = some e) (hc : Jk P (.field agg off size x) o.op = true) : J0h P o a s e := by
 simp only [opR] at h
 obtain ⟨u, h1, h'⟩ := bind_some h
 obtain ⟨r, h3, rfl⟩ := J15 h'
 clear h h'
 unfold Jk at hc
 simp only at hc
 split at hc
 ·rename_i t y f hop
  simp only [Bool.and_eq_true] at hc
  obtain ⟨hx, ht⟩ := hc
  split at ht
  ·rename_i fs hfs
   split at ht
   ·rename_i fl hfl
    simp only [Bool.and_eq_true, beq_iff_eq] at ht
    obtain ⟨⟨⟨h4, h5⟩, h6⟩, h7⟩ := ht
    obtain ⟨cs, v, hv, hp, hr⟩ := JgZ h3 (Jv he h1 hx) h6 h5 (by simpa using h7)
    exact Jg hi (v := v) (by simp [execOp, hop, hv, Instr.field, run_underlying (Jkx hfs), hfl, asAgg, h4, hp]) hr
   ·cases ht
  ·cases ht
 ·cases hc
theorem Jrk (hi : Inv s) (he : JA s a.tmps env) {x i} (h : (opR F (.sidx x i) new).run ⟨env, s.σ⟩ = some e) (hc : Jk P (.sidx x i) o.op = true) : J0h P o a s e := by
 simp only [opR] at h
 obtain ⟨u, h1, h'⟩ := bind_some h
 obtain ⟨v, h2, h''⟩ := bind_some h'
 clear h h'
 unfold Jk at hc
 simp only at hc
 split at hc
 ·rename_i t y j hop
  simp only [Bool.and_eq_true] at hc
  obtain ⟨⟨hx, hj⟩, ht⟩ := hc
  have rx := Jv he h1 hx
  have rj := Jv he h2 hj
  split at h''
  ·rename_i l k n
   split at h''
   ·rename_i hn
    split at h''
    ·rename_i b hb
     simp only [RM.run] at h''; injection h'' with h''; subst h''
     have ex := J7q rx
     have ej := J2Q rj
     have hb' : (⟨l.toArray⟩ : ByteArray)[n.toNat]? = some b := by
      have hlt := J8 hb
      rw [List.getElem?_eq_getElem hlt] at hb
      rw [getElem?_pos _ _ (by show n.toNat < ByteArray.size _; rw [J5R]; exact hlt)]
      injection hb with hb
      rw [← hb]; rfl
     refine Jg hi (v := .int .u8 b.toNat) ?_ (J3Q _ _)
     simp [execOp, hop, ex, ej, Instr.index, asIntOf, run_underlying (J4G ht), hn, hb']
    ·cases h''
   ·cases h''
  ·cases h''
 ·cases hc
theorem JrD (hi : Inv s) (he : JA s a.tmps env) {agg len esz x i} (h : (opR F (.aidx agg len esz x i) new).run ⟨env, s.σ⟩ = some e) (hc : Jk P (.aidx agg len esz x i) o.op = true) : J0h P o a s e := by
 simp only [opR] at h
 obtain ⟨u, h1, h'⟩ := bind_some h
 obtain ⟨v, h2, h''⟩ := bind_some h'
 clear h h'
 unfold Jk at hc
 simp only at hc
 split at hc
 ·rename_i t y j hop
  simp only [Bool.and_eq_true] at hc
  obtain ⟨⟨hx, hj⟩, ht⟩ := hc
  have rx := Jv he h1 hx
  have rj := Jv he h2 hj
  split at ht
  ·rename_i n el har
   simp only [Bool.and_eq_true, beq_iff_eq] at ht
   obtain ⟨⟨⟨rfl, h5⟩, h6⟩, h7⟩ := ht
   split at h''
   ·rename_i k m
    split at h''
    ·rename_i hm
     obtain ⟨r, h3, rfl⟩ := J15 h''
     obtain ⟨cs, w, hv, hp, hr⟩ := JgZ h3 rx h6 h5 (by simpa using h7)
     have ej := J2Q rj
     exact Jg hi (v := w) (by simp [execOp, hop, hv, ej, Instr.index, asIntOf, run_underlying (Jdz har), hm, J1S h5, hp]) hr
    ·cases h''
   ·cases h''
  ·cases ht
 ·cases hc
theorem Jq0 (hi : Inv s) (he : JA s a.tmps env) {len esz x i} (h : (opR F (.aaddr len esz x i) new).run ⟨env, s.σ⟩ = some e) (hc : Jk P (.aaddr len esz x i) o.op = true) : J0h P o a s e := by
 simp only [opR] at h
 obtain ⟨u, h1, h'⟩ := bind_some h
 obtain ⟨v, h2, h''⟩ := bind_some h'
 obtain ⟨r, h3, rfl⟩ := J15 h''
 clear h h' h''
 unfold Jk at hc
 simp only at hc
 split at hc
 ·rename_i t y j hop
  simp only [Bool.and_eq_true] at hc
  obtain ⟨⟨hx, hj⟩, ht⟩ := hc
  have rx := Jv he h1 hx
  have rj := Jv he h2 hj
  split at ht
  ·rename_i n el har
   simp only [Bool.and_eq_true, beq_iff_eq] at ht
   obtain ⟨rfl, h5⟩ := ht
   unfold JbS at h3
   split at h3
   ·rename_i k m
    split at h3
    ·rename_i hm
     have ej := J2Q rj
     have go : ∀ (r o' : Nat), a.eval y = .pointer (some ⟨r, o', none⟩) → (execOp a.eval o).run P s.w = .ok (.value (.pointer (some ⟨r, o' + m.toNat * esz, none⟩))) s.w := by
      intro r o' hz
      simp [execOp, hop, hz, ej, Instr.indexAt, asIntOf, run_underlying (Jdz har), Instr.sureAddr, hm, J1S h5, J6R]
     generalize hz : a.eval y = z at rx
     split at h3 <;> first | (injection h3 with h3; subst h3) | cases h3
     ·cases rx with
      | ptr _ _ r o' m' hb => exact Jg hi (go _ _ hz) (by rw [Nat.add_assoc]; exact .ptr _ _ r o' m' hb)
     ·cases rx with
      | cp cs _ r o' vals p1 p2 => exact Jg hi (go _ _ hz) (by rw [Nat.add_assoc]; exact .cp _ _ r o' vals p1 p2)
     ·cases rx with
      | ep _ _ _ _ _ wm esz' rows p0 p1 p2 p3 =>
       obtain ⟨r, o', rfl⟩ := p0
       refine Jg hi (go _ _ hz) (.ep _ _ _ _ _ wm esz' rows ⟨_, _, rfl⟩ p1 p2 fun e1 e2 => ?_)
       obtain ⟨r', m', hv⟩ := p3 e1 e2
       simp at hv
       obtain ⟨rfl, rfl⟩ := hv
       exact ⟨r, m', by rw [Nat.add_assoc]⟩
    ·cases h3
   ·cases h3
  ·cases ht
 ·cases hc
theorem Jqu (hi : Inv s) (he : JA s a.tmps env) {esz x i} (h : (opR F (.iaddr esz x i) new).run ⟨env, s.σ⟩ = some e) (hc : Jk P (.iaddr esz x i) o.op = true) : J0h P o a s e := by
 simp only [opR] at h
 obtain ⟨u, h1, h'⟩ := bind_some h
 obtain ⟨v, h2, h''⟩ := bind_some h'
 clear h h'
 unfold Jk at hc
 simp only at hc
 split at hc
 ·rename_i t y j hop
  simp only [Bool.and_eq_true] at hc
  obtain ⟨⟨hx, hj⟩, ht⟩ := hc
  have rx := Jv he h1 hx
  have rj := Jv he h2 hj
  split at ht
  ·rename_i el hel
   simp only [beq_iff_eq] at ht
   have go : ∀ (r o' len cap : Nat) k (m : Int), a.eval j = .int k m → a.eval y = .slice (some ⟨r, o', none⟩) len cap → 0 ≤ m → m < len →
     (execOp a.eval o).run P s.w = .ok (.value (.pointer (some ⟨r, o' + m.toNat * esz, none⟩))) s.w := by
    intro r o' len cap k m ej hz h0 hlt
    simp [execOp, hop, hz, ej, Instr.indexAt, asIntOf, run_underlying (J14 hel), h0, hlt, J1S ht, J6R]
   unfold J4A at h''
   split at h''
   ·rename_i esz' rows k n
    split at h''
    ·rename_i hez; subst hez
     split at h''
     ·rename_i row hrow
      simp only [RM.run] at h''; injection h'' with h''; subst h''
      unfold Jft at hrow
      split at hrow
      ·rename_i hn
       have ej := J2Q rj
       generalize hz : a.eval y = z at rx
       cases rx with
       | p _ _ rp =>
        cases rp with
        | sl0 _ ad cap => simp at hrow
        | sl _ _ r o' cap vals p1 p2 p3 p4 =>
         have hlt := J8 hrow
         refine Jg hi (go r o' _ cap k n ej hz hn (by omega)) ?_
         have := Jf.cp (s := s) row 0 r (o' + n.toNat * esz) (fun j => vals n.toNat j) (fun j x hx => p3 n.toNat j row x hrow hx) (fun j x hx => p4 n.toNat j row x hrow hx)
         simpa using this
      ·cases hrow
     ·cases h''
    ·cases h''
   ·rename_i b j' m k n
    simp only [RM.run] at h''
    split at h''
    ·rename_i blk hb
     split at h''
     ·rename_i wm esz' rows
      split at h''
      ·rename_i hcnd
       obtain ⟨rfl, hjm, hn, hnm⟩ := hcnd
       simp only [RM.run] at h''; injection h'' with h''; subst h''
       have ej := J2Q rj
       generalize hz : a.eval y = z at rx
       cases rx with
       | slr _ _ _ _ wm' esz' rows' q0 q1 q2 q3 =>
        have hb' : s.σ[b]? = some (.arr wm esz rows) := hb
        rw [hb'] at q1; injection q1 with q1; injection q1 with a1 a2 a3; subst a1 a2 a3
        rcases q3 hjm with ⟨_, _, hm0, _⟩ | ⟨r, cap, c, e1, fz, m', hv, hcap, hh, hs⟩
        ·omega
        ·subst hv
         refine Jg hi (go r _ _ cap k n ej hz hn (by omega)) (.ep _ _ _ _ _ wm esz rows ⟨_, _, rfl⟩ hb' (Nat.le_refl _) fun _ _ => ⟨r, m', ?_⟩)
         simp [Nat.add_mul]
      ·cases h''
     ·cases h''
    ·cases h''
   ·cases h''
  ·cases ht
 ·cases hc
end
end Go.Am
end
section
namespace Go.Am
theorem J0I (a b : List (Nat × Blk)) (σ : List Blk) : upd (a ++ b) σ = upd b (upd a σ) := by simp [upd, List.foldl_append]
section
variable {P : Program} {F : Orc} {s : Sn} {a : Act} {env : List (Nat × AV)} {o : Oper} {new : Nat} {e : Eff}
theorem J7h {σ0 : List Blk} (hi : Inv s) (hF : Frz σ0 s.σ) {b i n : Nat} {y : List PV × List (Nat × Blk)} {v : Value} (h : (fz (.slr b i n)).run ⟨env, σ0⟩ = some y) (hr : Jf s (.slr b i n) v) :
  ∃ g', Inv ⟨upd y.2 s.σ, g', s.w⟩ ∧ Js s ⟨upd y.2 s.σ, g', s.w⟩ ∧ Frz s.σ (upd y.2 s.σ) ∧ ∃ c, y.1 = [c] ∧ Jl s.w g'.C c v := by
 simp only [fz, RM.run] at h
 split at h
 ·rename_i blk hb
  split at h
  ·rename_i wm esz rows
   split at h
   ·rename_i hc
    simp only [RM.run] at h; injection h with h; subst h
    obtain ⟨wm', hb'⟩ := hF.1 b _ _ _ hb
    obtain ⟨g', h1, h2, h3, h4⟩ := JoS hi hr hb' hc
    exact ⟨g', h1, h2, h3, _, rfl, h4⟩
   ·cases h
  ·cases h
 ·cases h
theorem Jre {σ0 : List Blk} (hi : Inv s) (hF : Frz σ0 s.σ) {x : AV} {y : List PV × List (Nat × Blk)} {v : Value} (h : (fz.fz1 x).run ⟨env, σ0⟩ = some y) (hr : Jf s x v) :
  ∃ g', Inv ⟨upd y.2 s.σ, g', s.w⟩ ∧ Js s ⟨upd y.2 s.σ, g', s.w⟩ ∧ Frz s.σ (upd y.2 s.σ) ∧ ∃ c, y.1 = [c] ∧ Jl s.w g'.C c v := by
 cases x with
 | p c =>
  simp only [fz.fz1, RM.run] at h; injection h with h; subst h
  cases hr with
  | p _ _ hr => exact ⟨s.g, hi, .refl s, .refl _, c, rfl, hr⟩
 | slr b i n => exact J7h hi hF (by exact h) hr
 | _ => simp only [fz.fz1, RM.run] at h; cases h
theorem JlV {σ0 : List Blk} : ∀ {xs : List AV} {s : Sn} {y : List PV × List (Nat × Blk)} {vs : List Value}, Inv s → Frz σ0 s.σ → (fz.fzL xs).run ⟨env, σ0⟩ = some y → xs.length = vs.length →
  (∀ (i : Nat) x v, xs[i]? = some x → vs[i]? = some v → Jf s x v) →
  ∃ g', Inv ⟨upd y.2 s.σ, g', s.w⟩ ∧ Js s ⟨upd y.2 s.σ, g', s.w⟩ ∧ Frz s.σ (upd y.2 s.σ) ∧ y.1.length = vs.length ∧
   ∀ (i : Nat) c v, y.1[i]? = some c → vs[i]? = some v → Jl s.w g'.C c v
 | [], s, y, vs, hi, hF, h, hl, hr => by
  simp only [fz.fzL, RM.run] at h; injection h with h; subst h
  exact ⟨s.g, hi, .refl s, .refl _, by simpa using hl, fun i c v hc => by simp at hc⟩
 | x :: xs, s, y, [], hi, hF, h, hl, hr => by simp at hl
 | x :: xs, s, y, v :: vs, hi, hF, h, hl, hr => by
  simp only [fz.fzL] at h
  obtain ⟨y1, h1, h⟩ := bind_some h
  obtain ⟨y2, h2, h⟩ := bind_some h
  simp only [RM.run] at h; injection h with h; subst h
  obtain ⟨g1, i1, t1, f1, c, hc, rc⟩ := Jre hi hF h1 (hr 0 x v rfl rfl)
  obtain ⟨g2, i2, t2, f2, l2, r2⟩ := JlV (s := ⟨upd y1.2 s.σ, g1, s.w⟩) i1 (hF.trans f1) h2 (by simpa using hl) fun i x v hx hv => (hr (i + 1) x v (by simpa using hx) (by simpa using hv)).mono hi t1
  refine ⟨g2, by rw [J0I]; exact i2, by rw [J0I]; exact t1.trans t2, by rw [J0I]; exact f1.trans f2, by simp [hc, l2], fun i c' v' hc' hv' => ?_⟩
  rw [hc] at hc'
  cases i with
  | zero =>
   simp at hc' hv'; subst hc' hv'
   exact Jl.mono (s0 := ⟨upd y1.2 s.σ, g1, s.w⟩) (s := ⟨upd y2.2 (upd y1.2 s.σ), g2, s.w⟩) i1 t2 rc
  | succ i => exact r2 i c' v' (by simpa using hc') (by simpa using hv')
theorem Jj8 {σ0 : List Blk} (hi : Inv s) (hF : Frz σ0 s.σ) {x : AV} {y : List PV × List (Nat × Blk)} {v : Value} (h : (fz x).run ⟨env, σ0⟩ = some y) (hr : Jf s x v) :
  ∃ g', Inv ⟨upd y.2 s.σ, g', s.w⟩ ∧ Js s ⟨upd y.2 s.σ, g', s.w⟩ ∧ Frz s.σ (upd y.2 s.σ) ∧ y.1.length = v.cells.size ∧
   ∀ (i : Nat) c u, y.1[i]? = some c → v.cells[i]? = some u → Jl s.w g'.C c u := by
 cases x with
 | p c =>
  simp only [fz, RM.run] at h; injection h with h; subst h
  cases hr with
  | p _ _ hr =>
   refine ⟨s.g, hi, .refl s, .refl _, by rw [hr.cells1]; rfl, fun i c' u hc hu => ?_⟩
   rw [hr.cells1] at hu
   cases i with
   | zero => simp at hc hu; subst hc hu; exact hr
   | succ i => simp at hc
 | data cs =>
  simp only [fz, RM.run] at h; injection h with h; subst h
  cases hr with
  | data _ vs h1 h2 => exact ⟨s.g, hi, .refl s, .refl _, h1, fun i c u hc hu => h2 i c u hc hu⟩
 | slr b i n =>
  obtain ⟨g', h1, h2, h3, c, hc, rc⟩ := J7h hi hF h hr
  refine ⟨g', h1, h2, h3, by rw [hc, rc.cells1]; rfl, fun i c' u hc' hu => ?_⟩
  rw [rc.cells1] at hu
  rw [hc] at hc'
  cases i with
  | zero => simp at hc' hu; subst hc' hu; exact rc
  | succ i => simp at hc'
 | agg cs =>
  simp only [fz] at h
  cases hr with
  | agg _ vs h1 h0 h2 =>
   obtain ⟨g', k1, k2, k3, k4, k5⟩ := JlV (vs := vs.toList) hi hF h (by simpa using h1) fun i x v hx hv => h2 i x v hx (by simpa using hv)
   exact ⟨g', k1, k2, k3, by simpa [Value.cells] using k4, fun i c u hc hu => k5 i c u hc (by simpa [Value.cells] using hu)⟩
 | _ => simp only [fz, RM.run] at h; cases h
theorem J8V (he : JA s a.tmps env) {x : Option Opd} {y : Option Operand} {v : Option AV} (h : (evo x).run ⟨env, s.σ⟩ = some v) (hc : J9V x y = true) :
  (v = none ∧ y = none) ∨ ∃ u q, v = some u ∧ y = some q ∧ Jf s u (a.eval q) := by
 cases x with
 | none =>
  simp only [evo, RM.run] at h; injection h with h; subst h
  cases y with
  | none => exact .inl ⟨rfl, rfl⟩
  | some _ => simp [J9V] at hc
 | some x =>
  cases y with
  | none => simp [J9V] at hc
  | some y =>
   simp only [evo] at h
   obtain ⟨u, h1, h⟩ := bind_some h
   simp only [RM.run] at h; injection h with h; subst h
   exact .inr ⟨u, y, rfl, rfl, Jv he h1 hc⟩
theorem J9J {x : AV} {top n dflt : Nat} {v : Value} (h : J4u (some x) top dflt = some n) (hr : Jf s x v) (top' : Nat) (hle : top ≤ top') (code : BoundsCode) (w : World) :
  (Instr.sliceBound v top' code).run P w = .ok n w ∧ n ≤ top := by
 unfold J4u at h
 split at h
 ·rename_i heq; cases heq
 ·rename_i heq; injection heq with heq; subst heq
  split at h
  ·rename_i hc
   injection h with h; subst h
   have := J2Q hr; subst this
   refine ⟨?_, by omega⟩
   simp only [Instr.sliceBound, asIntOf, Sem.run_bind, Sem.run_pure, Result.andThen_ok]
   rw [if_pos ⟨hc.1, by omega⟩]
   rfl
  ·cases h
 ·cases h
theorem Jo9 {n : Nat} {lo hi : Option AV} {c : Nat × Nat} (h : JbQ n lo hi = some c) : J4u hi n n = some c.2 ∧ J4u lo c.2 0 = some c.1 := by
 unfold JbQ at h
 split at h
 ·cases h
 ·rename_i j hj
  split at h
  ·cases h
  ·rename_i i hi
   injection h with h; subst h
   exact ⟨hj, hi⟩
theorem Jb5 (he : JA s a.tmps env) {lo hi : Option Opd} {lo' hi' : Option Operand} {l h : Option AV} {len cap : Nat} {c : Nat × Nat} {isSlice : Bool}
  (h1 : (evo lo).run ⟨env, s.σ⟩ = some l) (h2 : (evo hi).run ⟨env, s.σ⟩ = some h) (c1 : J9V lo lo' = true) (c2 : J9V hi hi' = true)
  (hc : JbQ len l h = some c) (hle : len ≤ cap) (w : World) :
  (Instr.sliceBounds isSlice len cap (lo'.map a.eval) (hi'.map a.eval) none).run P w = .ok (c.1, c.2, cap) w ∧ c.1 ≤ c.2 ∧ c.2 ≤ len := by
 obtain ⟨hj, hi0⟩ := Jo9 hc
 obtain ⟨i, j⟩ := c
 rcases J8V he h2 c2 with ⟨rfl, rfl⟩ | ⟨u, q, rfl, rfl, hr⟩
 ·simp [J4u] at hj; subst hj
  rcases J8V he h1 c1 with ⟨rfl, rfl⟩ | ⟨u', q', rfl, rfl, hr'⟩
  ·simp [J4u] at hi0; subst hi0
   exact ⟨by simp [Instr.sliceBounds], Nat.zero_le _, Nat.le_refl _⟩
  ·obtain ⟨k1, k2⟩ := J9J (P := P) hi0 hr' len (Nat.le_refl _) .sliceB w
   exact ⟨by simp [Instr.sliceBounds, k1], k2, Nat.le_refl _⟩
 ·rcases J8V he h1 c1 with ⟨rfl, rfl⟩ | ⟨u', q', rfl, rfl, hr'⟩
  ·obtain ⟨k1, k2⟩ := J9J (P := P) hj hr cap hle (if isSlice then .sliceAcap else .sliceAlen) w
   simp [J4u] at hi0; subst hi0
   exact ⟨by simp [Instr.sliceBounds, k1], Nat.zero_le _, k2⟩
  ·obtain ⟨k1, k2⟩ := J9J (P := P) hj hr cap hle (if isSlice then .sliceAcap else .sliceAlen) w
   obtain ⟨k3, k4⟩ := J9J (P := P) hi0 hr' j (Nat.le_refl _) .sliceB w
   exact ⟨by simp [Instr.sliceBounds, k1, k3], k4, k2⟩
theorem JoJ {esz : Nat} {rows : List (List PV)} {v : Value} {i j : Nat} (h : Jl s.w s.g.C (.sl esz rows) v) (hij : i ≤ j) (hj : j ≤ rows.length) :
  ∃ ad cap, v = .slice ad rows.length cap ∧ rows.length ≤ cap ∧
   Jl s.w s.g.C (.sl esz ((rows.drop i).take (j - i))) (.slice (if cap = i then ad else ad.map (·.add (i * esz))) (j - i) (cap - i)) := by
 have hlen : ((rows.drop i).take (j - i)).length = j - i := by simp; omega
 cases h with
 | sl0 _ ad cap =>
  have hj' : j = 0 := by simpa using hj
  have hi' : i = 0 := by omega
  subst hj' hi'
  refine ⟨ad, cap, rfl, Nat.zero_le _, ?_⟩
  simpa using Jl.sl0 (w := s.w) (C := s.g.C) esz _ _
 | sl _ _ r o cap vals p1 p2 p3 p4 =>
  refine ⟨_, cap, rfl, p1, ?_⟩
  by_cases hci : cap = i
  ·have h0 : j - i = 0 := by omega
   rw [h0]
   simpa using Jl.sl0 (w := s.w) (C := s.g.C) esz _ _
  ·rw [if_neg hci]
   have := Jl.sl (w := s.w) (C := s.g.C) esz ((rows.drop i).take (j - i)) r (o + i * esz) (cap - i) (fun k m => vals (i + k) m) (by omega)
    (fun row hr => p2 row (List.mem_of_mem_drop (List.mem_of_mem_take hr)))
    (fun k m row x hk hm => by
     rw [List.getElem?_take] at hk
     split at hk
     ·rw [List.getElem?_drop] at hk
      have := p3 (i + k) m row x hk hm
      rwa [show o + (i + k) * esz + m = o + i * esz + k * esz + m by rw [Nat.add_mul]; omega] at this
     ·cases hk)
    (fun k m row x hk hm => by
     rw [List.getElem?_take] at hk
     split at hk
     ·rw [List.getElem?_drop] at hk
      exact p4 (i + k) m row x hk hm
     ·cases hk)
   rw [hlen] at this
   simpa [J6R] using this
def J99 (k : SK) (x : AV) (lo hi : Option AV) : Option AV :=
 match k with
 | .str => J8b x lo hi
 | .sl esz => J8c esz x lo hi
theorem Jmc (hi : Inv s) {k : SK} {t : TypeId} {y : Operand} {lo2 hi2 : Option Operand} {q : Operand} {c : PV} {l hh : Option AV} {u r : AV} {g' : Gh} {ws : List (Nat × Blk)}
  (hop : o.op = .slice t y lo2 hi2 (some q)) (ht : (match k with
   | .str => J4k P t
   | .sl esz => (match elT P t with | some e => szT P e == some esz | none => false)) = true)
  (hl : l = none → lo2 = none) (hh2 : ∀ u', hh = some u' → ∃ q', hi2 = some q' ∧ Jf s u' (a.eval q')) (hu : Jf s u (a.eval q))
  (hs : J3v k (.p c) l hh (some u) = some r) (hi' : Inv ⟨upd ws s.σ, g', s.w⟩) (t' : Js s ⟨upd ws s.σ, g', s.w⟩) (hr : Jl s.w g'.C c (a.eval y)) : J0h P o a s ⟨r, ws⟩ := by
 cases k with
 | str => simp [J3v] at hs
 | sl esz =>
  simp only [J3v] at hs
  unfold Jij at hs
  split at hs
  ·rename_i esz' rows k1 h1 k2 n1 heq
   injection heq with heq
   subst heq
   split at hs
   ·rename_i hc
    obtain ⟨rfl, rfl, rfl⟩ := hc
    injection hs with hs; subst hs
    obtain ⟨q', rfl, hr2⟩ := hh2 _ rfl
    obtain rfl := hl rfl
    have e1 := J2Q hr2
    have e2 := J2Q hu
    simp only at ht
    split at ht
    ·rename_i el hel
     simp only [beq_iff_eq] at ht
     obtain ⟨ad, cap, hv, hcap, hrel⟩ := JoJ (s := ⟨s.σ, g', s.w⟩) (i := 0) (j := rows.length) hr (Nat.zero_le _) (Nat.le_refl _)
     have hb : ∀ w : World, (Instr.sliceBounds true rows.length cap none (some (a.eval q')) (some (a.eval q))).run P w = .ok (0, rows.length, rows.length) w := by
      intro w
      rw [e1, e2]
      simp [Instr.sliceBounds, Instr.sliceBound, asIntOf, hcap]
     have hrel2 : Jl s.w g'.C (.slc esz rows) (.slice ad rows.length rows.length) := by
      refine .slc esz rows ad ?_
      rw [hv] at hr
      cases hr with
      | sl0 => exact .sl0 _ _ _
      | sl _ _ r o cap vals p1 p2 p3 p4 => exact .sl esz rows r o rows.length vals (Nat.le_refl _) p2 p3 p4
     refine J1h (e := ⟨_, ws⟩) (w' := s.w) (g' := g') (v := .slice ad rows.length rows.length) ?_ hi' t' (.p _ _ hrel2)
     have e0 : (if rows.length = 0 then ad else ad.map fun x => x.add (0 * esz)) = ad := by
      split
      ·rfl
      ·cases ad with
       | none => rfl
       | some ad => cases ad; simp [Addr.add]
     simp only [execOp, hop, hv]
     simp [Instr.sliceAt, Instr.slice, run_underlying (J14 hel), hb, J1S ht]
     try simpa using e0
    ·cases ht
   ·cases hs
  ·cases hs
theorem JpN (hi : Inv s) (he : JA s a.tmps env) {k x lo hi' mx} (h : (opR F (.slice k x lo hi' mx) new).run ⟨env, s.σ⟩ = some e) (hc : Jk P (.slice k x lo hi' mx) o.op = true) : J0h P o a s e := by
 simp only [opR] at h
 obtain ⟨u, h1, h⟩ := bind_some h
 obtain ⟨l, h2, h⟩ := bind_some h
 obtain ⟨hh, h3, h⟩ := bind_some h
 obtain ⟨m, h4, h⟩ := bind_some h
 unfold Jk at hc
 simp only at hc
 split at hc
 ·rename_i t y lo2 hi2 mx2 hop
  simp only [Bool.and_eq_true] at hc
  obtain ⟨⟨⟨⟨hx, c1⟩, c2⟩, c3⟩, ht⟩ := hc
  have rx := Jv he h1 hx
  rcases J8V he h4 c3 with ⟨rfl, rfl⟩ | ⟨um, qm, rfl, rfl, hum⟩
  case inr =>
   have hl0 : l = none → lo2 = none := by
    intro hl0
    rcases J8V he h2 c1 with ⟨_, e⟩ | ⟨u', q', e1, _, _⟩
    ·exact e
    ·rw [hl0] at e1; cases e1
   have hh0 : ∀ u', hh = some u' → ∃ q', hi2 = some q' ∧ Jf s u' (a.eval q') := by
    intro u' hu'
    rcases J8V he h3 c2 with ⟨e, _⟩ | ⟨u2, q', e1, e2, e3⟩
    ·rw [hu'] at e; cases e
    ·rw [hu'] at e1; injection e1 with e1; subst e1; exact ⟨q', e2, e3⟩
   split at h
   ·rename_i b i n
    obtain ⟨y', h5, h⟩ := bind_some h
    obtain ⟨g', i1, t1, f1, c, hc1, rc⟩ := J7h hi (.refl _) h5 rx
    split at h
    ·rename_i c' hc'
     rw [hc1] at hc'; injection hc' with hc'; subst hc'
     split at h
     ·rename_i r hr
      simp only [RM.run] at h; injection h with h; subst h
      exact Jmc hi hop ht hl0 hh0 hum hr i1 t1 rc
     ·cases h
    ·cases h
   ·rename_i x' hne
    obtain ⟨r, hr, rfl⟩ := J15 h
    cases u with
    | p c =>
     cases rx with
     | p _ _ rx => exact Jmc (ws := []) (g' := s.g) hi hop ht hl0 hh0 hum hr hi (.refl s) rx
    | _ => cases k <;> simp [J3v, Jij] at hr
  have noMax : ∀ {c : AV} {r}, J3v k c l hh none = some r → (none : Option Operand) = none ∧ J99 k c l hh = some r := by
   intro c r hs
   exact ⟨rfl, hs⟩
  have strCase : ∀ {b : List UInt8} {r}, J3v k (.p (.s b)) l hh none = some r → a.eval y = .string ⟨b.toArray⟩ → J0h P o a s ⟨r, []⟩ := by
   intro b r hs hz
   obtain ⟨_, hq⟩ := noMax hs
   clear hs
   have hs := hq
   clear hq
   cases k with
   | sl esz => simp [J99, J8c] at hs
   | str =>
    simp only [J99, J8b] at hs
    split at hs
    ·rename_i c hc
     injection hs with hs; subst hs
     have ht' := J4G ht
     obtain ⟨hb, hij, hjl⟩ := Jb5 (P := P) (isSlice := false) (cap := b.length) he h2 h3 c1 c2 hc (Nat.le_refl _) s.w
     have hex : (⟨b.toArray⟩ : ByteArray).extract c.1 c.2 = ⟨((b.drop c.1).take (c.2 - c.1)).toArray⟩ := by
      apply ByteArray.ext
      rw [ByteArray.data_extract]
      apply Array.ext'
      simp [List.extract]
     refine Jg hi (v := .string ⟨((b.drop c.1).take (c.2 - c.1)).toArray⟩) ?_ (JcQ _)
     simp only [execOp, hop, hz]
     simp [Instr.sliceAt, Instr.slice, run_underlying ht', J5R, hb, hex]
    ·cases hs
  have slCase : ∀ {s' : Sn} {ws} {esz rows r} {g'}, s' = ⟨upd ws s.σ, g', s.w⟩ → Inv s' → Js s s' → J3v k (.p (.sl esz rows)) l hh none = some r → Jl s'.w s'.g.C (.sl esz rows) (a.eval y) → J0h P o a s ⟨r, ws⟩ := by
   intro s' ws esz rows r g' hs' hi' t' hs hr
   obtain ⟨_, hq⟩ := noMax hs
   clear hs
   have hs := hq
   clear hq
   cases k with
   | str => simp [J99, J8b] at hs
   | sl ez =>
    simp only [J99, J8c] at hs
    split at hs
    ·rename_i hez; subst hez
     split at hs
     ·rename_i c hc
      injection hs with hs; subst hs
      simp only at ht
      split at ht
      ·rename_i el hel
       simp only [beq_iff_eq] at ht
       have hb0 := Jb5 (P := P) (isSlice := true) he h2 h3 c1 c2 hc (Nat.le_refl _) s.w
       obtain ⟨ad, cap, hv, hcap, hrel⟩ := JoJ hr hb0.2.1 hb0.2.2
       obtain ⟨hb, _, _⟩ := Jb5 (P := P) (isSlice := true) he h2 h3 c1 c2 hc hcap s.w
       subst hs'
       refine J1h (e := ⟨_, ws⟩) (w' := s.w) (g' := g') ?_ hi' t' (.p _ _ hrel)
       simp only [execOp, hop, hv]
       simp [Instr.sliceAt, Instr.slice, run_underlying (J14 hel), hb, J1S ht]
      ·cases ht
     ·cases hs
    ·cases hs
  split at h
  ·rename_i b i n
   obtain ⟨y', h5, h⟩ := bind_some h
   obtain ⟨g', i1, t1, f1, c, hc1, rc⟩ := J7h hi (.refl _) h5 rx
   split at h
   ·rename_i c' hc'
    rw [hc1] at hc'; injection hc' with hc'; subst hc'
    split at h
    ·rename_i r hr
     simp only [RM.run] at h; injection h with h; subst h
     have : ∃ ez rw, c = .sl ez rw := by
      simp only [fz, RM.run] at h5
      split at h5
      ·split at h5
       ·split at h5
        ·simp only [RM.run] at h5; injection h5 with h5; subst h5
         simp at hc1
         exact ⟨_, _, hc1.symm⟩
        ·cases h5
       ·cases h5
      ·cases h5
     obtain ⟨ez, rw', rfl⟩ := this
     exact slCase rfl i1 t1 hr rc
    ·cases h
   ·cases h
  ·rename_i x' hne
   obtain ⟨r, hr, rfl⟩ := J15 h
   cases u with
   | p c =>
    cases c with
    | s b => exact strCase hr (J7q rx)
    | sl esz rows => cases rx with | p _ _ rx => exact slCase (s' := s) (ws := []) (g' := s.g) rfl hi (.refl s) hr rx
    | _ => obtain ⟨_, hr⟩ := noMax hr; cases k <;> simp [J99, J8b, J8c] at hr
   | slr b i n => exact absurd rfl (hne b i n)
   | _ => obtain ⟨_, hr⟩ := noMax hr; cases k <;> simp [J99, J8b, J8c] at hr
 ·cases hc
end
end Go.Am
end
section
namespace Go.Am
section
variable {P : Program} {F : Orc} {s : Sn} {a : Act} {env : List (Nat × AV)} {o : Oper} {new : Nat} {e : Eff}
theorem Jhb (hi : Inv s) {agg : Bool} {size : Nat} {x : AV} {v : Value} (h : (J2V agg size x).run ⟨env, s.σ⟩ = some e) (hr : Jf s x v) :
  ∃ r o vs, v = .pointer (some ⟨r, o, none⟩) ∧ vs.length = size ∧ (∀ (k : Nat) u, vs[k]? = some u → cellAt s.w r (o + k) = some u) ∧ e.ws = [] ∧
   ((agg = true ∧ Jf s e.val (.agg vs.toArray)) ∨ (agg = false ∧ ∃ u, vs = [u] ∧ Jf s e.val u)) := by
 unfold J2V at h
 split at h
 ·rename_i cs off
  split at h
  ·rename_i l hl
   obtain ⟨r', h3, rfl⟩ := J15 h
   obtain ⟨k1, k2, k3⟩ := Jah hl
   cases hr with
   | cp _ _ r o vals p1 p2 =>
    have hg : ∀ (i : Nat) y u, l[i]? = some y → ((List.range size).map fun i => vals (off + i))[i]? = some u → Jl s.w s.g.C y u := by
     intro i y u hy hu
     have := J8 hy
     rw [k3 i (by omega)] at hy
     rw [List.getElem?_map, List.getElem?_range (by omega)] at hu
     injection hu with hu; subst hu
     exact p2 _ y hy
    refine ⟨r, o + off, (List.range size).map fun i => vals (off + i), rfl, by simp, fun k u hu => ?_, rfl, Jgs h3 (by simp [k1]) hg⟩
    have hlt := J8 hu
    simp at hlt
    rw [List.getElem?_map, List.getElem?_range hlt] at hu
    injection hu with hu; subst hu
    have : off + k < cs.length := by omega
    have := (p1 (off + k) _ (List.getElem?_eq_getElem this)).2
    rwa [Nat.add_assoc]
  ·cases h
 ·rename_i b off
  simp only [RM.run] at h
  split at h
  ·rename_i blk hb
   split at h
   ·rename_i cs
    split at h
    ·rename_i l hl
     obtain ⟨r', h3, rfl⟩ := J15 h
     obtain ⟨k1, k2, k3⟩ := Jah hl
     cases hr with
     | ptr _ _ r o m hbx =>
      obtain ⟨r1, o1, c, e1, fz, m', hh, hle, hx, hf⟩ := hi.box b cs hb
      rw [m] at m'; injection m' with m'; injection m' with m1 m2; subst m1 m2
      have hcell : ∀ k, k < size → ∃ u, c[o + (off + k)]? = some u ∧ u.oneCell' = true ∧ ∀ y, l[k]? = some y → Jf s y u := by
       intro k hk
       have hlt : off + k < cs.length := by omega
       obtain ⟨u, hu, hr, h1⟩ := hx (off + k) _ (List.getElem?_eq_getElem hlt)
       refine ⟨u, hu, h1, fun y hy => ?_⟩
       rw [k3 k hk, List.getElem?_eq_getElem hlt] at hy
       injection hy with hy; subst hy; exact hr
      refine ⟨r, o + off, (List.range size).map fun i => (c[o + (off + i)]?).getD .nilFunc, rfl, by simp, fun k u hu => ?_, rfl, JeA h3 (by simp [k1]) (fun v hv => ?_) fun i y u hy hu => ?_⟩
      ·have hlt := J8 hu
       simp at hlt
       rw [List.getElem?_map, List.getElem?_range hlt] at hu
       obtain ⟨u', hu', _⟩ := hcell k hlt
       simp [hu'] at hu; subst hu
       rw [J1E hh, ← hu', Nat.add_assoc]
      ·obtain ⟨i, hi', rfl⟩ := List.mem_map.1 hv
       obtain ⟨u', hu', h1, _⟩ := hcell i (by simpa using hi')
       simpa [hu'] using h1
      ·have hlt := J8 hy
       rw [List.getElem?_map, List.getElem?_range (by omega)] at hu
       obtain ⟨u', hu', _, h2⟩ := hcell i (by omega)
       simp [hu'] at hu; subst hu
       exact h2 y hy
    ·cases h
   ·cases h
  ·cases h
 ·rename_i b ext i off
  simp only [RM.run] at h
  split at h
  ·rename_i blk hb
   split at h
   ·rename_i wm esz rows
    split at h
    ·rename_i hext
     split at h
     ·rename_i row hrow
      split at h
      ·rename_i l hl
       obtain ⟨r', h3, rfl⟩ := J15 h
       obtain ⟨k1, k2, k3⟩ := Jah hl
       have hb' : s.σ[b]? = some (.arr wm esz rows) := hb
       cases hr with
       | ep _ _ _ _ _ wm' esz' rows' p0 p1 p2 p3 =>
        rw [hb'] at p1; injection p1 with p1; injection p1 with a1 a2 a3; subst a1 a2 a3
        have hlt := J8 hrow
        obtain ⟨r, m, hv⟩ := p3 hext (by omega)
        rcases hi.arr b _ _ _ hb' with ⟨m', _⟩ | ⟨r1, c, e1, fz, m', hh, hrl, hle, hx, hf⟩
        ·rw [m] at m'; cases m'
        ·rw [m] at m'; injection m' with m'; injection m' with m1 _; subst m1
         have hcell : ∀ k, k < size → ∃ u, c[i * esz + (off + k)]? = some u ∧ ∀ y, l[k]? = some y → Jl s.w s.g.C y u := by
          intro k hk
          have hlt : off + k < row.length := by omega
          obtain ⟨⟨u, hu, hr⟩, _⟩ := hx i (off + k) row _ hrow (List.getElem?_eq_getElem hlt)
          refine ⟨u, hu, fun y hy => ?_⟩
          rw [k3 k hk, List.getElem?_eq_getElem hlt] at hy
          injection hy with hy; subst hy; exact hr
         refine ⟨r, i * esz + off, (List.range size).map fun k => (c[i * esz + (off + k)]?).getD .nilFunc, hv, by simp, fun k u hu => ?_, rfl, Jgs h3 (by simp [k1]) fun k y u hy hu => ?_⟩
         ·have hlt := J8 hu
          simp at hlt
          rw [List.getElem?_map, List.getElem?_range hlt] at hu
          obtain ⟨u', hu', _⟩ := hcell k hlt
          simp [hu'] at hu; subst hu
          rw [J1E hh, ← hu', Nat.add_assoc]
         ·have hlt := J8 hy
          rw [List.getElem?_map, List.getElem?_range (by omega)] at hu
          obtain ⟨u', hu', h2⟩ := hcell k (by omega)
          simp [hu'] at hu; subst hu
          exact h2 y hy
      ·cases h
     ·cases h
    ·cases h
   ·cases h
  ·cases h
 ·cases h
theorem Jdi {t : TypeId} {agg : Bool} {size : Nat} (ht : agT P t = some agg) (hs : szT P t = some size) {r o : Nat} {vs : List Value} {w : World} (hl : vs.length = size)
  (h : ∀ (k : Nat) u, vs[k]? = some u → cellAt w r (o + k) = some u) :
  (agg = true → (loadVar t ⟨r, o, none⟩).run P w = .ok (.agg vs.toArray) w) ∧ (agg = false → ∀ u, vs = [u] → (loadVar t ⟨r, o, none⟩).run P w = .ok u w) := by
 constructor
 ·rintro rfl
  subst hl
  simp [loadVar, J8Q ht, J1S hs, Jh5 vs h]
 ·rintro rfl u rfl
  have := h 0 u rfl
  simp [loadVar, J8Q ht, run_load, J2z, this]
  simp at this
  simp [this]
theorem Jry (hi : Inv s) (he : JA s a.tmps env) {agg size x} (h : (opR F (.load agg size x) new).run ⟨env, s.σ⟩ = some e) (hc : Jk P (.load agg size x) o.op = true) : J0h P o a s e := by
 simp only [opR] at h
 obtain ⟨u, h1, h'⟩ := bind_some h
 clear h
 unfold Jk at hc
 simp only at hc
 split at hc
 ·rename_i t y hop
  simp only [Bool.and_eq_true, beq_iff_eq] at hc
  obtain ⟨⟨⟨ht, hs⟩, hx⟩, h7⟩ := hc
  obtain ⟨r, o', vs, hv, hl, hcell, hws, hor⟩ := Jhb hi h' (Jv he h1 hx)
  obtain ⟨k1, k2⟩ := Jdi (P := P) ht hs hl hcell
  obtain ⟨ev, ew⟩ := e
  simp only at hws hor
  subst hws
  rcases hor with ⟨rfl, hr⟩ | ⟨rfl, q, rfl, hr⟩
  ·exact Jg hi (v := .agg vs.toArray) (by simp [execOp, hop, hv, Instr.loadAt, Instr.sureAddr, k1]) hr
  ·exact Jg hi (v := q) (by simp [execOp, hop, hv, Instr.loadAt, Instr.sureAddr, k2]) hr
 ·cases hc
theorem J84 {x : AV} {l : List AV} {v : Value} (h : cellsOf x = some l) (hr : Jf s x v) :
  l.length = v.cells.size ∧ (∀ u ∈ v.cells.toList, u.oneCell' = true) ∧ ∀ (i : Nat) y u, l[i]? = some y → v.cells[i]? = some u → Jf s y u := by
 have single : ∀ {z : AV}, Jf s z v → v.cells = #[v] → v.oneCell' = true → l = [z] → l.length = v.cells.size ∧ (∀ u ∈ v.cells.toList, u.oneCell' = true) ∧ ∀ (i : Nat) y u, l[i]? = some y → v.cells[i]? = some u → Jf s y u := by
  rintro z hz hc h1 rfl
  refine ⟨by rw [hc]; rfl, by rw [hc]; simpa using h1, fun i y u hy hu => ?_⟩
  rw [hc] at hu
  cases i with
  | zero => simp at hy hu; subst hy hu; exact hz
  | succ i => simp at hy
 cases hr with
 | p c _ hp => simp [cellsOf] at h; exact single (.p _ _ hp) hp.cells1 hp.one h.symm
 | data cs vs h1 h2 =>
  simp [cellsOf] at h; subst h
  refine ⟨by simpa [Value.cells] using h1, fun u hu => ?_, fun i y u hy hu => ?_⟩
  ·obtain ⟨i, hi⟩ := List.getElem?_of_mem hu
   have hi : vs[i]? = some u := by simpa [Value.cells] using hi
   have hlt := J8I hi
   exact (h2 i cs[i] u (by rw [List.getElem?_eq_getElem]) hi).one
  ·rw [List.getElem?_map] at hy
   cases hcs : cs[i]? with
   | none => simp [hcs] at hy
   | some c =>
    simp [hcs] at hy; subst hy
    exact .p _ _ (h2 i c u hcs hu)
 | agg cs vs h1 h0 h2 =>
  simp [cellsOf] at h; subst h
  refine ⟨by simpa [Value.cells] using h1, fun u hu => ?_, fun i y u hy hu => h2 i y u hy hu⟩
  obtain ⟨i, hi⟩ := List.getElem?_of_mem hu
  exact h0 i u (by simpa [Value.cells] using hi)
 | tup => simp [cellsOf] at h
 | unk => simp [cellsOf] at h
 | ptr b off r o m hb => simp [cellsOf] at h; exact single (.ptr b off r o m hb) rfl rfl h.symm
 | cp cs off r o vals p1 p2 => simp [cellsOf] at h; exact single (.cp cs off r o vals p1 p2) rfl rfl h.symm
 | slr b i n _ wm esz rows p0 p1 p2 p3 =>
  obtain ⟨ad, cap, rfl, hn⟩ := p0
  simp [cellsOf] at h
  exact single (.slr b i n _ wm esz rows ⟨ad, cap, rfl, hn⟩ p1 p2 p3) rfl rfl h.symm
 | ep b ext i off _ wm esz rows p0 p1 p2 p3 =>
  obtain ⟨r, o, rfl⟩ := p0
  simp [cellsOf] at h
  exact single (.ep b ext i off _ wm esz rows ⟨r, o, rfl⟩ p1 p2 p3) rfl rfl h.symm
 | fn f first caps fs cs h1 h2 h3 h4 => simp [cellsOf] at h; exact single (.fn f first caps fs cs h1 h2 h3 h4) rfl rfl h.symm
theorem Jtr (hi : Inv s) (he : JA s a.tmps env) (hn : s.σ[new]? = some .dead) {size x} (h : (opR F (.box size x) new).run ⟨env, s.σ⟩ = some e) (hc : Jk P (.box size x) o.op = true) : J0h P o a s e := by
 simp only [opR] at h
 obtain ⟨u, h1, h'⟩ := bind_some h
 clear h
 unfold Jk at hc
 simp only at hc
 split at hc
 ·rename_i t y hop
  have hr := Jv he h1 hc
  split at h'
  ·rename_i cs hcs
   split at h'
   ·simp only [RM.run] at h'; injection h' with h'; subst h'
    obtain ⟨k1, k2, k3⟩ := J84 hcs hr
    obtain ⟨i', t'⟩ := JcB hi hn (blk := .box cs) (c := (a.eval y).cells) (e := t) (fz := (0, 0)) (w' := { s.w with heap := s.w.heap.push (.cells (a.eval y).cells t) }) rfl rfl rfl
     (fun o _ _ h => by simp at h) (fun _ _ _ h => by cases h) ⟨by omega, fun i x hx => by
      have hlt := J8 hx
      have hlt' : i < (a.eval y).cells.size := by omega
      exact ⟨(a.eval y).cells[i], by simp, k3 i x _ hx (by simp), k2 _ (by simp)⟩⟩
    refine J1h (e := ⟨.ptr new 0, [(new, .box cs)]⟩) (v := .pointer (some ⟨s.w.heap.size, 0, none⟩)) ?_ i' t' (.ptr new 0 _ 0 (if_pos rfl) ⟨cs, J09 hn⟩)
    simp [execOp, hop, Instr.box, newVar, newRow]
   ·cases h'
  ·cases h'
 ·cases hc
theorem J3l {zero : List PV} {t : TypeId} (h : J7j P zero t = true) : ∃ v, zeT P t = some v ∧ zero.length = v.cells.size ∧
  ∀ {w C} (i : Nat) x u, zero[i]? = some x → v.cells[i]? = some u → Jl w C x u := by
 unfold J7j at h
 split at h
 ·rename_i v hv
  refine ⟨v, hv, ?_, fun i x u hx hu => ?_⟩
  ·simpa using (Jbe (w := default) (C := fun _ _ => True) h).1
  ·exact (Jbe h).2 i x u hx (by simpa using hu)
 ·cases h
theorem J7G {t : TypeId} {v : Value} (h : zeT P t = some v) (w : World) : (zeroValue t).run P w = .ok v w := by
 unfold zeT at h
 cases hi : P.info? t with
 | none => rw [hi] at h; cases h
 | some i => rw [hi] at h; simp at h; simp [zeroValue, Jcb hi, h]
theorem Jnz (hi : Inv s) (hn : s.σ[new]? = some .dead) {zero} (h : (opR F (.newbox zero) new).run ⟨env, s.σ⟩ = some e) (hc : Jk P (.newbox zero) o.op = true) : J0h P o a s e := by
 simp only [opR, RM.run] at h
 injection h with h; subst h
 unfold Jk at hc
 simp only at hc
 split at hc
 ·rename_i t hop
  obtain ⟨v, hv, hl, hr⟩ := J3l hc
  obtain ⟨i', t'⟩ := JcB hi hn (blk := .box (zero.map .p)) (c := v.cells) (e := t) (fz := (0, 0)) (w' := { s.w with heap := s.w.heap.push (.cells v.cells t) }) rfl rfl rfl
   (fun o _ _ h => by simp at h) (fun _ _ _ h => by cases h) ⟨by simp [hl], fun i x hx => by
    rw [List.getElem?_map] at hx
    cases hz : zero[i]? with
    | none => simp [hz] at hx
    | some c =>
     simp [hz] at hx; subst hx
     have hlt := J8 hz
     have hlt' : i < v.cells.size := by omega
     have := hr (w := s.w) (C := s.g.C) i c v.cells[i] hz (by simp)
     exact ⟨v.cells[i], by simp, .p _ _ this, this.one⟩⟩
  refine J1h (e := ⟨.ptr new 0, [(new, .box (zero.map .p))]⟩) (v := .pointer (some ⟨s.w.heap.size, 0, none⟩)) ?_ i' t' (.ptr new 0 _ 0 (if_pos rfl) ⟨_, J09 hn⟩)
  simp [execOp, hop, Instr.alloc, J7G hv, newVar, newRow]
 ·cases hc
theorem Jqg (hi : Inv s) (hn : s.σ[new]? = some .dead) {esz x} (h : (opR F (.mkarr esz x) new).run ⟨env, s.σ⟩ = some e) (hc : Jk P (.mkarr esz x) o.op = true) : J0h P o a s e := by
 simp only [opR, RM.run] at h
 injection h with h; subst h
 obtain ⟨i', t'⟩ := JcP hi hn esz
 have hrel : Jf ⟨s.σ.set new (.arr true esz []), J3B s.g new none, s.w⟩ (.slr new 0 0) (.slice none 0 0) :=
  .slr new 0 0 _ true esz [] ⟨none, 0, rfl, .inl rfl⟩ (J09 hn) (Nat.le_refl _) fun _ => .inl ⟨if_pos rfl, rfl, rfl, rfl⟩
 unfold Jk at hc
 simp only at hc
 split at hc
 ·rename_i hop
  exact J1h (e := ⟨.slr new 0 0, [(new, .arr true esz [])]⟩) (v := .slice none 0 0) (by simp only [execOp, hop]; rfl) i' t' hrel
 ·rename_i hop
  exact J1h (e := ⟨.slr new 0 0, [(new, .arr true esz [])]⟩) (v := .slice none 0 0) (by simp only [execOp, hop]; rfl) i' t' hrel
 ·cases hc
theorem JcF {α : Type} {cs vs cs' : List α} {off : Nat} (h : spl cs off vs = some cs') : cs'.length = cs.length ∧ off + vs.length ≤ cs.length ∧
  (∀ (i : Nat), i < vs.length → cs'[off + i]? = vs[i]?) ∧ ∀ k, (k < off ∨ off + vs.length ≤ k) → cs'[k]? = cs[k]? := by
 unfold spl at h
 split at h
 ·rename_i hc
  injection h with h; subst h
  obtain ⟨rfl, hl⟩ := hc
  refine ⟨hl.symm, by omega, fun i _ => by rw [Nat.zero_add], fun k hk => ?_⟩
  rw [List.getElem?_eq_none (by omega), List.getElem?_eq_none (by omega)]
 ·split at h
  ·rename_i hc
   injection h with h; subst h
   refine ⟨by simp; omega, hc, fun i hi => ?_, fun k hk => ?_⟩
   ·rw [List.append_assoc, List.getElem?_append_right (by simp; omega), List.getElem?_append_left (by simp; omega)]
    simp
    congr 1
    omega
   ·rcases hk with hk | hk
    ·rw [List.append_assoc, List.getElem?_append_left (by simp; omega), List.getElem?_take, if_pos hk]
    ·rw [List.getElem?_append_right (by simp; omega), List.getElem?_drop]
     congr 1
     simp; omega
  ·cases h
theorem Jmj {w : World} {r o : Nat} {vs : List Value} {c : Array Value} {et : TypeId} {fz : Nat × Nat} (hh : w.heap[r]? = some (.cells c et fz)) (hl : o + vs.length ≤ c.size)
  (hf : Free fz o (o + vs.length)) (h1 : ∀ v ∈ vs, v.oneCell' = true) : (storeCells ⟨r, o, none⟩ vs).run P w = .ok () (w.setCells r o vs) := by
 have := run_storeCells_cells (P := P) r o vs 0 w
  (fun j hj => by rw [J2z, J1E hh]; simp; omega)
  (fun j hj => by
   have := hf (o + 0 + j) (by omega) (by omega)
   simp only [World.frozen?, hh]
   simpa using this) h1
 simpa using this
theorem J91 {t : TypeId} {v : Value} {w : World} {r o : Nat} {c : Array Value} {et : TypeId} {fz : Nat × Nat} (hs : szT P t = some v.cells.size) (hh : w.heap[r]? = some (.cells c et fz)) (hl : o + v.cells.size ≤ c.size)
  (hf : Free fz o (o + v.cells.size)) (h1 : ∀ u ∈ v.cells.toList, u.oneCell' = true) : (storeVar t ⟨r, o, none⟩ v).run P w = .ok () (w.setCells r o v.cells.toList) := by
 have := Jmj (P := P) (vs := v.cells.toList) hh (by simpa using hl) (by simpa using hf) h1
 simp [storeVar, J1S hs, this]
theorem Jc4 {o : Oper} {e : Eff} {w' : World} {g' : Gh} (hr : (execOp a.eval o).run P s.w = .ok .skip w') (hev : e.val = J1d)
  (hi : Inv ⟨upd e.ws s.σ, g', w'⟩) (t : Js s ⟨upd e.ws s.σ, g', w'⟩) : J0h P o a s e := by
 intro next Q h
 simp only [Oper.wp, hr, Oper.upon]
 exact h undef w' g' hi t (by rw [hev]; exact .tup _ _ rfl fun i x v h => by simp at h)
theorem Joi {b : Nat} : ∀ {ws : List (Nat × Blk)} {σ : List Blk}, (ws.all fun y => y.1 != b) = true → (upd ws σ)[b]? = σ[b]?
 | [], _, _ => rfl
 | y :: ws, σ, h => by
  simp only [List.all_cons, Bool.and_eq_true, bne_iff_ne] at h
  show (upd ws (σ.set y.1 y.2))[b]? = _
  rw [Joi h.2, JI h.1]
theorem Jpr (hi : Inv s) (he : JA s a.tmps env) {size x y} (h : (opR F (.store size x y) new).run ⟨env, s.σ⟩ = some e) (hc : Jk P (.store size x y) o.op = true) : J0h P o a s e := by
 simp only [opR] at h
 obtain ⟨u, h1, h'⟩ := bind_some h
 obtain ⟨v, h2, h''⟩ := bind_some h'
 clear h h'
 unfold Jk at hc
 simp only at hc
 split at hc
 ·rename_i t x' y' hop
  simp only [Bool.and_eq_true, beq_iff_eq] at hc
  obtain ⟨⟨hs, hx⟩, hy⟩ := hc
  have rx := Jv he h1 hx
  have ry := Jv he h2 hy
  have hex : ∀ {r o' : Nat} {w' : World}, a.eval x' = .pointer (some ⟨r, o', none⟩) → (storeVar t ⟨r, o', none⟩ (a.eval y')).run P s.w = .ok () w' → (execOp a.eval o).run P s.w = .ok .skip w' := by
   intro r o' w' hz hst
   simp [execOp, hop, hz, Instr.storeAt, Instr.sureAddr, hst]
  unfold J2G at h''
  split at h''
  ·rename_i b off
   simp only [RM.run] at h''
   split at h''
   ·rename_i blk hb
    split at h''
    ·rename_i cs
     split at h''
     ·rename_i l hl
      split at h''
      ·rename_i hsz
       split at h''
       ·rename_i cs' hcs'
        simp only [RM.run] at h''; injection h'' with h''; subst h''
        have hb : s.σ[b]? = some (.box cs) := hb
        generalize hz : a.eval x' = z at rx
        cases rx with
        | ptr _ _ r o' m hbx =>
         obtain ⟨k1, k2, k3⟩ := J84 hl ry
         obtain ⟨j1, j2, j3, j4⟩ := JcF hcs'
         obtain ⟨r1, o1, c, e1, fz, m', hh, hle, hxx, hf⟩ := hi.box b cs hb
         rw [m] at m'; injection m' with m'; injection m' with m1 m2; subst m1 m2
         have hput := J5C (vs := (a.eval y').cells.toList) (o := o' + off) hh (by simp; omega)
         have hlen : (a.eval y').cells.toList.length = l.length := by simp [k1]
         obtain ⟨i', t'⟩ := Jc3 hi (blk := .box cs') hb hput (fun k h1 h2 => by
           unfold Wr1; rw [hb]; exact ⟨o', m, by omega, by omega⟩) (.box _ _ j1) (fun cs0 heq mono => by
           injection heq with heq; subst heq
           obtain ⟨c0, e0, fz0, c', p1, p2, p3, p4, p5, p6⟩ := hput.there
           rw [hh] at p1; injection p1 with p1; injection p1 with q1 q2 q3; subst q1 q2 q3
           refine ⟨r, o', c', e1, fz, m, p2, by omega, fun i x hxi => ?_, by rw [j1]; exact hf⟩
           by_cases hin : off ≤ i ∧ i < off + l.length
           ·have e1 : cs'[off + (i - off)]? = l[i - off]? := j3 (i - off) (by omega)
            rw [show off + (i - off) = i by omega, hxi] at e1
            have hlt : i - off < (a.eval y').cells.size := by omega
            have e2 := p5 (i - off) (a.eval y').cells[i - off] (by simp)
            refine ⟨(a.eval y').cells[i - off], by rw [← e2]; congr 1; omega, mono (k3 (i - off) x _ e1.symm (by simp)), k2 _ (by simp)⟩
           ·rw [j4 i (by omega)] at hxi
            obtain ⟨v', hv', hr', h1'⟩ := hxx i x hxi
            exact ⟨v', by rw [p6 _ (by simp; omega)]; exact hv', mono hr', h1'⟩)
           (fun _ _ heq => by cases heq)
         refine Jc4 (e := ⟨J1d, [(b, .box cs')]⟩) (hex hz (J91 (by rw [hs, ← hsz, k1]) hh (by omega) (fun k h1 h2 => hf k (by omega) (by omega)) k2)) rfl i' t'
       ·cases h''
      ·cases h''
     ·cases h''
    ·cases h''
   ·cases h''
  ·rename_i b ext i off
   simp only [RM.run] at h''
   split at h''
   ·rename_i blk hb
    split at h''
    ·rename_i esz rows
     split at h''
     ·rename_i hext
      split at h''
      ·rename_i row hrow
       obtain ⟨y2, h3, h4⟩ := bind_some h''
       split at h4
       ·rename_i hcond
        split at h4
        ·rename_i row' hrow'
         simp only [RM.run] at h4; injection h4 with h4; subst h4
         have hb : s.σ[b]? = some (.arr true esz rows) := hb
         obtain ⟨hsz, hall⟩ := hcond
         obtain ⟨g1, i1, t1, f1, l1, r1⟩ := Jj8 hi (.refl _) h3 ry
         have hb1 : (upd y2.2 s.σ)[b]? = some (.arr true esz rows) := by rw [Joi hall]; exact hb
         have rx1 := rx.mono hi t1
         obtain ⟨j1, j2, j3, j4⟩ := JcF hrow'
         have hone : ∀ u ∈ (a.eval y').cells.toList, u.oneCell' = true := by
          intro u hu
          obtain ⟨k, hk⟩ := List.getElem?_of_mem hu
          have hk : (a.eval y').cells[k]? = some u := by simpa using hk
          have hlt := J8I hk
          exact (r1 k y2.1[k] u (by rw [List.getElem?_eq_getElem]) hk).one
         generalize hz : a.eval x' = z at rx1
         cases rx1 with
         | ep _ _ _ _ _ wm' esz' rows' p0 p1 p2 p3 =>
          have p1 : (upd y2.2 s.σ)[b]? = some (.arr wm' esz' rows') := p1
          rw [hb1] at p1; injection p1 with p1; injection p1 with a1 a2 a3; subst a1 a2 a3
          have hlt := J8 hrow
          obtain ⟨r, m, hv⟩ := p3 hext (by omega)
          rcases i1.arr b _ _ _ hb1 with ⟨m', _⟩ | ⟨rr, c, e1, fz, m', hh, hrl, hle, hxx, hf⟩
          ·rw [m] at m'; cases m'
          ·rw [m] at m'; injection m' with m'; injection m' with m1 _; subst m1
           have hrlen := hrl row (JM hrow)
           have hlen : (a.eval y').cells.toList.length = y2.1.length := by simp [l1]
           have hbnd : i * esz + esz ≤ rows.length * esz := by
            have := Nat.mul_le_mul_right esz (show i + 1 ≤ rows.length from hlt)
            rwa [Nat.add_mul, Nat.one_mul] at this
           have hh' : s.w.heap[r]? = some (.cells c e1 fz) := hh
           have hput := J5C (vs := (a.eval y').cells.toList) (o := i * esz + off) hh' (by rw [hlen]; omega)
           obtain ⟨i2, t2⟩ := Jc3 (s0 := ⟨upd y2.2 s.σ, g1, s.w⟩) i1 (blk := .arr true esz (rows.set i row')) hb1 hput (fun k h1 h2 => by
             unfold Wr1; rw [hb1]; exact ⟨0, m⟩) (.arr _ _ _ (by simp)) (fun _ heq => by cases heq) (fun esz0 rows0 heq mono => by
             injection heq with _ h1 h2; subst h1 h2
             obtain ⟨c0, e0, fz0, c', q1, q2, q3, q4, q5, q6⟩ := hput.there
             rw [hh'] at q1; injection q1 with q1; injection q1 with w1 w2 w3; subst w1 w2 w3
             refine .inr ⟨r, c', e1, fz, m, q2, fun rw0 hrw => ?_, by simp; omega, fun k j row0 x0 hk hj => ⟨?_, fun h => by cases h⟩, by rw [q3]; exact hf⟩
             ·rcases List.mem_or_eq_of_mem_set hrw with hm | hm
              ·exact hrl _ hm
              ·subst hm; omega
             ·have hjlt := J8 hj
              by_cases hki : k = i
              ·subst hki
               rw [List.getElem?_set_self hlt] at hk
               injection hk with hk; subst hk
               by_cases hin : off ≤ j ∧ j < off + y2.1.length
               ·have e1 := j3 (j - off) (by omega)
                rw [show off + (j - off) = j by omega, hj] at e1
                have hlt' : j - off < (a.eval y').cells.size := by omega
                have e2 := q5 (j - off) (a.eval y').cells[j - off] (by simp)
                refine ⟨(a.eval y').cells[j - off], by rw [← e2]; congr 1; omega, mono (r1 (j - off) x0 _ e1.symm (by simp))⟩
               ·rw [j4 j (by omega)] at hj
                obtain ⟨⟨v', hv', hr'⟩, _⟩ := hxx k j row x0 hrow hj
                exact ⟨v', by rw [q6 _ (by rw [hlen]; omega)]; exact hv', mono hr'⟩
              ·rw [List.getElem?_set_ne (Ne.symm hki)] at hk
               obtain ⟨⟨v', hv', hr'⟩, _⟩ := hxx k j row0 x0 hk hj
               refine ⟨v', ?_, mono hr'⟩
               rw [q6 _ ?_]
               ·exact hv'
               ·have hj0 : j < esz := by rw [hrl _ (JM hk)] at hjlt; exact hjlt
                rw [hlen]
                rcases Nat.lt_or_ge k i with hlt' | hge
                ·left
                 have := J48 hlt' hj0
                 omega
                ·right
                 have := Nat.mul_le_mul_right esz (show i + 1 ≤ k by omega)
                 rw [Nat.add_mul, Nat.one_mul] at this
                 omega)
           refine Jc4 (e := ⟨J1d, y2.2 ++ [(b, .arr true esz (rows.set i row'))]⟩) (g' := g1) (hex (hz.trans hv) (J91 (by rw [hs, ← hsz, l1]) hh' (by simp at hlen; omega) (fun k h1 h2 => hf.1 k (by omega) (by simp at hlen; omega)) hone)) rfl ?_ ?_
           ·rw [J0I]; exact i2
           ·rw [J0I]; exact t1.trans t2
        ·cases h4
       ·cases h4
      ·cases h''
     ·cases h''
    ·cases h''
   ·cases h''
  ·cases h''
 ·cases hc
end
end Go.Am
end
section
namespace Go.Am
theorem Jl1 (vs : List Value) : ∀ (k : Nat) (off : Nat) (cs : Array Value), off + k + vs.length ≤ cs.size →
  let r := (vs.zipIdx k).foldl (fun cs (x : Value × Nat) => cs.setIfInBounds (off + x.2) x.1) cs
  r.size = cs.size ∧ (∀ (j : Nat) v, vs[j]? = some v → r[off + k + j]? = some v) ∧ ∀ i, (i < off + k ∨ off + k + vs.length ≤ i) → r[i]? = cs[i]? := by
 induction vs with
 | nil => intro k off cs _; exact ⟨rfl, fun j v h => by simp at h, fun _ _ => rfl⟩
 | cons v vs ih =>
  intro k off cs h
  simp only [List.length_cons] at h
  have := ih (k + 1) off (cs.setIfInBounds (off + k) v) (by simp; omega)
  simp only [List.zipIdx_cons, List.foldl_cons]
  obtain ⟨h1, h2, h3⟩ := this
  refine ⟨by rw [h1]; simp, fun j u hj => ?_, fun i hi => ?_⟩
  ·cases j with
   | zero =>
    simp at hj; subst hj
    rw [h3 _ (.inl (by omega))]
    have : off + k < cs.size := by omega
    simp [this]
   | succ j => rw [← h2 j u (by simpa using hj)]; congr 1; omega
  ·rw [h3 i (by simp at hi; omega), Array.getElem?_setIfInBounds, if_neg (by simp at hi; omega)]
section
variable {P : Program} {F : Orc} {s : Sn} {a : Act} {env : List (Nat × AV)} {o : Oper} {new : Nat} {e : Eff}
theorem Jh2 {place : Nat → Option (Nat × Nat)} {cells : Array Value} {i : Nat} {v : Value} {rest : List (Nat × Value)} {off size : Nat} (hp : place i = some (off, size)) (hs : v.cells.size = size) (hl : off + size ≤ cells.size) :
    ∃ cells' : Array Value, Instr.fill place cells ((i, v) :: rest) = Instr.fill place cells' rest ∧ cells'.size = cells.size ∧ (∀ (j : Nat) u, v.cells[j]? = some u → cells'[off + j]? = some u) ∧
      ∀ k, (k < off ∨ off + size ≤ k) → cells'[k]? = cells[k]? := by
  subst hs
  obtain ⟨h1, h2, h3⟩ := Jl1 v.cells.toList 0 off cells (by simp; omega)
  refine ⟨v.cells.zipIdx.foldl (fun cs (c, j) => cs.setIfInBounds (off + j) c) cells, ?_, ?_, ?_, ?_⟩
  · simp only [Instr.fill, hp]
    rw [if_neg]
    simp; omega
  all_goals (have hz : v.cells.zipIdx.foldl (fun cs (x : Value × Nat) => cs.setIfInBounds (off + x.2) x.1) cells = (v.cells.toList.zipIdx 0).foldl (fun cs (x : Value × Nat) => cs.setIfInBounds (off + x.2) x.1) cells := by
               rw [← Array.foldl_toList]; simp)
  · rw [hz, h1]
  · intro j u hj; rw [hz]; have := h2 j u (by simpa using hj); simpa using this
  · intro k hk; rw [hz]; exact h3 k (by simpa using hk)
theorem JdW {place : Nat → Option (Nat × Nat)} : ∀ {parts : List (Nat × Nat × List AV)} {ps : List (Nat × Value)} {cs cs' : List AV} {cells : Array Value},
  J4v parts cs = some cs' → parts.length = ps.length →
  (∀ (k : Nat) off size l i v, parts[k]? = some (off, size, l) → ps[k]? = some (i, v) → place i = some (off, size) ∧ l.length = v.cells.size ∧ (∀ u ∈ v.cells.toList, u.oneCell' = true) ∧
   ∀ (j : Nat) y u, l[j]? = some y → v.cells[j]? = some u → Jf s y u) →
  cs.length = cells.size → (∀ (i : Nat) x, cs[i]? = some x → ∃ u, cells[i]? = some u ∧ Jf s x u ∧ u.oneCell' = true) →
  ∃ cells', Instr.fill place cells ps = some cells' ∧ cs'.length = cells'.size ∧ ∀ (i : Nat) x, cs'[i]? = some x → ∃ u, cells'[i]? = some u ∧ Jf s x u ∧ u.oneCell' = true
 | [], [], cs, cs', cells, h, _, _, hl, hr => by
  simp [J4v] at h; subst h
  exact ⟨cells, rfl, hl, hr⟩
 | [], _ :: _, _, _, _, _, hl, _, _, _ => by simp at hl
 | _ :: _, [], _, _, _, _, hl, _, _, _ => by simp at hl
 | (off, size, l) :: parts, (i, v) :: ps, cs, cs', cells, h, hlen, hp, hl, hr => by
  unfold J4v at h
  split at h
  ·rename_i hsz
   split at h
   ·rename_i cs1 hcs1
    obtain ⟨p1, p2, p3, p4⟩ := hp 0 off size l i v rfl rfl
    obtain ⟨j1, j2, j3, j4⟩ := JcF hcs1
    obtain ⟨cells1, f1, f2, f3, f4⟩ := Jh2 (v := v) (rest := ps) (cells := cells) p1 (by omega) (by omega)
    obtain ⟨cells', g1, g2, g3⟩ := JdW (cells := cells1) h (by simpa using hlen) (fun k off size l i v h1 h2 => hp (k + 1) off size l i v (by simpa using h1) (by simpa using h2)) (by omega) (fun k x hk => by
     by_cases hin : off ≤ k ∧ k < off + l.length
     ·have e1 := j3 (k - off) (by omega)
      rw [show off + (k - off) = k by omega, hk] at e1
      have hlt : k - off < v.cells.size := by omega
      have e2 := f3 (k - off) v.cells[k - off] (by simp)
      exact ⟨v.cells[k - off], by rw [← e2]; congr 1; omega, p4 (k - off) x _ e1.symm (by simp), p3 _ (by simp)⟩
     ·rw [j4 k (by omega)] at hk
      obtain ⟨u, hu, hr', h1⟩ := hr k x hk
      exact ⟨u, by rw [f4 k (by omega)]; exact hu, hr', h1⟩)
    exact ⟨cells', by rw [f1]; exact g1, g2, g3⟩
   ·cases h
  ·cases h
theorem Jb9 (he : JA s a.tmps env) {place : Nat → Option (Nat × Nat)} : ∀ {parts : List (Nat × Nat × Opd)} {ps : List (Nat × Operand)} {l : List (Nat × Nat × List AV)},
  (J3x parts).run ⟨env, s.σ⟩ = some l → J4g place parts ps = true →
  l.length = (ps.map fun x => (x.1, a.eval x.2)).length ∧
  ∀ (k : Nat) off size cs i v, l[k]? = some (off, size, cs) → (ps.map fun x => (x.1, a.eval x.2))[k]? = some (i, v) → place i = some (off, size) ∧ cs.length = v.cells.size ∧ (∀ u ∈ v.cells.toList, u.oneCell' = true) ∧
   ∀ (j : Nat) y u, cs[j]? = some y → v.cells[j]? = some u → Jf s y u
 | [], [], l, h, _ => by
  simp only [J3x, RM.run] at h; injection h with h; subst h
  exact ⟨rfl, fun k off size cs i v h => by simp at h⟩
 | [], _ :: _, _, _, hc => by simp [J4g] at hc
 | _ :: _, [], _, _, hc => by simp [J4g] at hc
 | (off, size, x) :: parts, (i, y) :: ps, l, h, hc => by
  simp only [J4g, Bool.and_eq_true, beq_iff_eq] at hc
  obtain ⟨⟨hp, hx⟩, hc⟩ := hc
  simp only [J3x] at h
  obtain ⟨v, h1, h⟩ := bind_some h
  split at h
  ·rename_i cs hcs
   obtain ⟨l', h2, h⟩ := bind_some h
   simp only [RM.run] at h; injection h with h; subst h
   obtain ⟨k1, k2⟩ := Jb9 he h2 hc
   obtain ⟨q1, q2, q3⟩ := J84 hcs (Jv he h1 hx)
   refine ⟨by simpa using k1, fun k off' size' cs' i' v' h3 h4 => ?_⟩
   cases k with
   | zero =>
    simp at h3 h4
    obtain ⟨rfl, rfl, rfl⟩ := h3
    obtain ⟨rfl, rfl⟩ := h4
    exact ⟨hp, q1, q2, q3⟩
   | succ k => exact k2 k off' size' cs' i' v' (by simpa using h3) (by simpa using h4)
  ·cases h
theorem Jbf : ∀ {fs : List Field}, (∀ f ∈ fs, (szT P f.type).isSome = true) → ∀ w : World,
  (fs.mapM fun f => do pure (f.offset, ← sizeOf f.type) : Sem (List (Nat × Nat))).run P w = .ok (fs.map fun f => (f.offset, (szT P f.type).getD 0)) w
 | [], _, w => by simp
 | f :: fs, h, w => by
  have hs : (szT P f.type) = some ((szT P f.type).getD 0) := by
   have := h f (by simp)
   cases hq : szT P f.type <;> simp [hq] at this ⊢
  have ih := Jbf (fs := fs) (fun g hg => h g (by simp [hg])) w
  rw [List.mapM_cons]
  simp only [Sem.run_bind, J1S hs, Result.andThen_ok, Sem.run_pure, ih]
  simp
theorem Jp1 (hi : Inv s) (he : JA s a.tmps env) {zero parts} (h : (opR F (.build zero parts) new).run ⟨env, s.σ⟩ = some e) (hc : Jk P (.build zero parts) o.op = true) : J0h P o a s e := by
 simp only [opR] at h
 obtain ⟨l, h1, h'⟩ := bind_some h
 clear h
 unfold Jk at hc
 simp only at hc
 split at hc
 ·rename_i t ps hop
  simp only [Bool.and_eq_true] at hc
  obtain ⟨hz, ht⟩ := hc
  obtain ⟨z, hz1, hz2, hz3⟩ := J3l hz
  split at h'
  ·rename_i cs hcs
   obtain ⟨r, h3, rfl⟩ := J15 h'
   have hzero : ∀ (i : Nat) x, (zero.map AV.p)[i]? = some x → ∃ u, z.cells[i]? = some u ∧ Jf s x u ∧ u.oneCell' = true := by
    intro i x hx
    rw [List.getElem?_map] at hx
    cases hzi : zero[i]? with
    | none => simp [hzi] at hx
    | some c =>
     simp [hzi] at hx; subst hx
     have hlt := J8 hzi
     have hlt' : i < z.cells.size := by omega
     have := hz3 (w := s.w) (C := s.g.C) i c z.cells[i] hzi (by simp)
     exact ⟨z.cells[i], by simp, .p _ _ this, this.one⟩
   have fin : ∀ {place : Nat → Option (Nat × Nat)}, J4g place parts ps.toList = true →
     ∃ cells', Instr.fill place z.cells (ps.toList.map fun x => (x.1, a.eval x.2)) = some cells' ∧ Jf s r (.agg cells') := by
    intro place hch
    obtain ⟨k1, k2⟩ := Jb9 he h1 hch
    obtain ⟨cells', f1, f2, f3⟩ := JdW (s := s) (cells := z.cells) hcs k1 k2 (by simp [hz2]) hzero
    refine ⟨cells', f1, ?_⟩
    have := JeA (s := s) (vs := cells'.toList) h3 (by simpa using f2) (fun v hv => by
      obtain ⟨i, hi'⟩ := List.getElem?_of_mem hv
      have hi' : cells'[i]? = some v := by simpa using hi'
      have hlt := J8I hi'
      obtain ⟨u, hu, _, h1⟩ := f3 i cs[i] (by rw [List.getElem?_eq_getElem])
      rw [hi'] at hu; injection hu with hu; subst hu; exact h1)
     (fun i y v hy hv => by
      obtain ⟨u, hu, hr, _⟩ := f3 i y hy
      have hv : cells'[i]? = some v := by simpa using hv
      rw [hv] at hu; injection hu with hu; subst hu; exact hr)
    rcases this with ⟨_, hr⟩ | ⟨hf, _⟩
    ·simpa using hr
    ·cases hf
   have hps : (ps.map fun x => (x.1, a.eval x.2)).toList = ps.toList.map fun x => (x.1, a.eval x.2) := by simp
   split at ht
   ·rename_i fs hu
    simp only [Bool.and_eq_true] at ht
    obtain ⟨hall, hch⟩ := ht
    obtain ⟨cells', f1, hr⟩ := fin hch
    have hpl : (fun i => (fs.map fun f => (f.offset, (szT P f.type).getD 0))[i]?) = J8T P fs := by
     funext i
     simp only [J8T, Array.getElem?_map]
     cases hfi : fs[i]? with
     | none => rfl
     | some f =>
      have := Array.all_eq_true_iff_forall_mem.1 hall f (Array.mem_of_getElem? hfi)
      cases hq : szT P f.type <;> simp [hq] at this ⊢
    refine Jg hi (v := .agg cells') ?_ hr
    have hmap : (fs.mapM fun f => do pure (f.offset, ← sizeOf f.type) : Sem (Array (Nat × Nat))).run P s.w = .ok (fs.map fun f => (f.offset, (szT P f.type).getD 0)) s.w := by
     rw [Array.mapM_eq_mapM_toList]
     simp only [Sem.run_map, Jbf (P := P) (fs := fs.toList) (fun f hf => Array.all_eq_true_iff_forall_mem.1 hall f (by simpa using hf)), Result.andThen_ok]
     congr 1
     apply Array.ext'; simp
    have hf : Instr.fill (fun i => (fs.map fun f => (f.offset, (szT P f.type).getD 0))[i]?) z.cells (ps.map fun x => (x.1, a.eval x.2)).toList = some cells' := by
     rw [hpl, hps]; exact f1
    have hb : (Instr.build t (ps.map fun x => (x.1, a.eval x.2))).run P s.w = .ok (.agg cells') s.w := by
     unfold Instr.build
     simp only [Sem.run_bind, J7G hz1, Result.andThen_ok, run_underlying hu, hmap, hf]
     rfl
    simp only [execOp, hop, Sem.run_bind, hb, Result.andThen_ok, Sem.run_pure]
   ·rename_i n el hu
    split at ht
    ·rename_i q hq
     obtain ⟨cells', f1, hr⟩ := fin ht
     refine Jg hi (v := .agg cells') ?_ hr
     have hb : (Instr.build t (ps.map fun x => (x.1, a.eval x.2))).run P s.w = .ok (.agg cells') s.w := by
      unfold Instr.build
      simp only [Sem.run_bind, J7G hz1, Result.andThen_ok, run_underlying hu, J1S hq, hps, f1]
      rfl
     simp only [execOp, hop, Sem.run_bind, hb, Result.andThen_ok, Sem.run_pure]
    ·cases ht
   ·cases ht
  ·cases h'
 ·cases hc
theorem Jru (hi : Inv s) {n} (h : (opR F (.alen n) new).run ⟨env, s.σ⟩ = some e) (hc : Jk P (.alen n) o.op = true) : J0h P o a s e := by
 simp only [opR, RM.run] at h
 injection h with h; subst h
 unfold Jk at hc
 simp only at hc
 split at hc
 ·rename_i c hop
  split at hc
  ·rename_i hcal
   split at hc
   ·rename_i y t hargs htys
    have hm : c.args.map a.eval = #[a.eval y] := by apply Array.ext'; simp [hargs]
    have ht0 : c.argTypes[0]? = some t := by rw [← Array.getElem?_toList, htys]; rfl
    split at hc
    ·rename_i m el hu
     have : m = n := by simpa using hc
     subst this
     exact Jg hi (v := .int .i64 m) (by simp [execOp, hop, resolve, hcal, hm, invoke, builtin, Builtin.len_, ht0, run_underlying hu, goInt]) (J3Q _ _)
    ·rename_i ar hu
     split at hc
     ·rename_i m el har
      have : m = n := by simpa using hc
      subst this
      exact Jg hi (v := .int .i64 m) (by simp [execOp, hop, resolve, hcal, hm, invoke, builtin, Builtin.len_, ht0, run_underlying hu, run_underlying (Jdz har), goInt]) (J3Q _ _)
     ·cases hc
    ·cases hc
   ·cases hc
  ·cases hc
 ·cases hc
end
end Go.Am
end
section
namespace Go.Am
def J87 (s : Sn) (esz : Nat) (rows : List (List PV)) (c : Array Value) : Prop :=
 (∀ row ∈ rows, row.length = esz) ∧ rows.length * esz ≤ c.size ∧
  ∀ (i j : Nat) row x, rows[i]? = some row → row[j]? = some x → ∃ u, c[i * esz + j]? = some u ∧ Jl s.w s.g.C x u
section
variable {P : Program} {F : Orc} {s : Sn} {a : Act} {env : List (Nat × AV)} {o : Oper} {new : Nat} {e : Eff}
theorem J87.mono {s0 s : Sn} (hi : Inv s0) (t : Js s0 s) {esz rows c} (h : J87 s0 esz rows c) : J87 s esz rows c :=
 ⟨h.1, h.2.1, fun i j row x hr hx => let ⟨u, h1, h2⟩ := h.2.2 i j row x hr hx; ⟨u, h1, h2.mono hi t⟩⟩
theorem JaR {s0 : Sn} (hi : Inv s0) (hn : s0.σ[new]? = some .dead) {esz : Nat} {rows : List (List PV)} {c : Array Value} {et : TypeId} {fz : Nat × Nat} {w' : World} {cap : Nat}
  (hh : w'.heap = s0.w.heap.push (.cells c et fz)) (ho : w'.os = s0.w.os) (hp : w'.output = s0.w.output) (hf : J9x esz fz c.size) (hr : J87 s0 esz rows c) (hcap : rows.length ≤ cap) (hsz : cap * esz ≤ c.size) :
  (∃ g', Inv ⟨s0.σ.set new (.arr true esz rows), g', w'⟩ ∧ Js s0 ⟨s0.σ.set new (.arr true esz rows), g', w'⟩ ∧
   Jf ⟨s0.σ.set new (.arr true esz rows), g', w'⟩ (.slr new 0 rows.length) (.slice (some ⟨s0.w.heap.size, 0, none⟩) rows.length cap)) := by
 obtain ⟨i', t'⟩ := JcB hi hn (blk := .arr true esz rows) hh ho hp hf.1 (fun _ _ _ h => by injection h with _ h _; subst h; exact hf.2) hr
 refine ⟨_, i', t', .slr new 0 _ _ true esz rows ⟨_, _, rfl, .inr (by simp)⟩ (J09 hn) (by omega) fun _ => .inr ⟨s0.w.heap.size, cap, c, et, fz, if_pos rfl, by simp, hcap, J72 hh, by simpa using hsz⟩⟩
theorem JbN {s0 : Sn} (hi : Inv s0) {esz : Nat} {rows : List (List PV)} {c : Array Value} {et : TypeId} {fz : Nat × Nat} {w' : World} {cap : Nat}
  (hh : w'.heap = s0.w.heap.push (.cells c et fz)) (ho : w'.os = s0.w.os) (hp : w'.output = s0.w.output) (hr : J87 s0 esz rows c) (hcap : rows.length ≤ cap) :
  (∃ g', Inv ⟨s0.σ, g', w'⟩ ∧ Js s0 ⟨s0.σ, g', w'⟩ ∧ Jf ⟨s0.σ, g', w'⟩ (.p (.sl esz rows)) (.slice (some ⟨s0.w.heap.size, 0, none⟩) rows.length cap)) := by
 obtain ⟨i', t'⟩ := Jnt hi hh ho hp
 refine ⟨_, i', t', .p _ _ (Ja2 (s := ⟨s0.σ, _, w'⟩) rfl hcap hr.1 (.inr ⟨_, 0, rfl, fun i j row x hi' hj => ⟨.inr rfl, ?_⟩⟩))⟩
 obtain ⟨u, hu, hrel⟩ := hr.2.2 i j row x hi' hj
 exact ⟨u, by rw [J1E (J72 hh), Nat.zero_add]; exact hu, hrel.mono hi t'⟩
theorem JlR {σ0 : List Blk} {tmps : Array Value} (he : ∀ n x, lk n env = some x → ∃ v, a.tmps[n]? = some v) : ∀ {xs : List Opd} {ys : List Operand} {s : Sn} {y : List (List PV) × List (Nat × Blk)}, Inv s → Frz σ0 s.σ → JA s a.tmps env →
  (fzs xs).run ⟨env, σ0⟩ = some y → J3U xs ys = true →
  ∃ g', Inv ⟨upd y.2 s.σ, g', s.w⟩ ∧ Js s ⟨upd y.2 s.σ, g', s.w⟩ ∧ Frz s.σ (upd y.2 s.σ) ∧ y.1.length = ys.length ∧
   ∀ (k : Nat) cs q, y.1[k]? = some cs → ys[k]? = some q → cs.length = (a.eval q).cells.size ∧ ∀ (i : Nat) c u, cs[i]? = some c → (a.eval q).cells[i]? = some u → Jl s.w g'.C c u
 | [], [], s, y, hi, hF, hE, h, _ => by
  simp only [fzs, RM.run] at h; injection h with h; subst h
  exact ⟨s.g, hi, .refl s, .refl _, rfl, fun k cs q h => by simp at h⟩
 | [], _ :: _, _, _, _, _, _, _, hc => by simp [J3U] at hc
 | _ :: _, [], _, _, _, _, _, _, hc => by simp [J3U] at hc
 | x :: xs, q :: ys, s, y, hi, hF, hE, h, hc => by
  simp only [J3U, Bool.and_eq_true] at hc
  simp only [fzs] at h
  obtain ⟨v, h1, h⟩ := bind_some h
  obtain ⟨y1, h2, h⟩ := bind_some h
  obtain ⟨y2, h3, h⟩ := bind_some h
  simp only [RM.run] at h; injection h with h; subst h
  have h1' : (ev x).run ⟨env, s.σ⟩ = some v := by
   cases x with
   | t n => simpa only [ev, RM.run] using h1
   | c z => simpa only [ev, RM.run] using h1
  have hr := Jv hE h1' hc.1
  obtain ⟨g1, i1, t1, f1, l1, r1⟩ := Jj8 hi hF h2 hr
  obtain ⟨g2, i2, t2, f2, l2, r2⟩ := JlR (tmps := tmps) he (s := ⟨upd y1.2 s.σ, g1, s.w⟩) i1 (hF.trans f1) (hE.mono hi t1) h3 hc.2
  refine ⟨g2, by rw [J0I]; exact i2, by rw [J0I]; exact t1.trans t2, by rw [J0I]; exact f1.trans f2, by simp [l2], fun k cs q' hk hq => ?_⟩
  cases k with
  | zero =>
   simp at hk hq; subst hk hq
   exact ⟨l1, fun i c u hc hu => Jl.mono (s0 := ⟨upd y1.2 s.σ, g1, s.w⟩) (s := ⟨upd y2.2 (upd y1.2 s.σ), g2, s.w⟩) i1 t2 (r1 i c u hc hu)⟩
  | succ k => exact r2 k cs q' (by simpa using hk) (by simpa using hq)
theorem JgP {esz : Nat} (hpos : 0 < esz) : ∀ {parts : List (Nat × List PV)} {ps : List (Nat × Value)} {rows rows' : List (List PV)} {cells : Array Value},
  J5q esz parts rows = some rows' → parts.length = ps.length →
  (∀ (k : Nat) i cs j v, parts[k]? = some (i, cs) → ps[k]? = some (j, v) → i = j ∧ cs.length = v.cells.size ∧ ∀ (m : Nat) c u, cs[m]? = some c → v.cells[m]? = some u → Jl s.w s.g.C c u) →
  J87 s esz rows cells → cells.size = rows.length * esz →
  ∃ cells', Instr.fill (fun i => some (i * esz, esz)) cells ps = some cells' ∧ J87 s esz rows' cells' ∧ rows'.length = rows.length ∧ cells'.size = rows.length * esz
 | [], [], rows, rows', cells, h, _, _, hr, hs => by
  simp [J5q] at h; subst h
  exact ⟨cells, rfl, hr, rfl, hs⟩
 | [], _ :: _, _, _, _, _, hl, _, _, _ => by simp at hl
 | _ :: _, [], _, _, _, _, hl, _, _, _ => by simp at hl
 | (i, cs) :: parts, (j, v) :: ps, rows, rows', cells, h, hlen, hp, hr, hs => by
  unfold J5q at h
  split at h
  ·rename_i hc
   obtain ⟨rfl, p2, p3⟩ := hp 0 i cs j v rfl rfl
   have hbnd : i * esz + esz ≤ rows.length * esz := by
    have := Nat.mul_le_mul_right esz (show i + 1 ≤ rows.length from hc.2)
    rwa [Nat.add_mul, Nat.one_mul] at this
   obtain ⟨cells1, f1, f2, f3, f4⟩ := Jh2 (place := fun i => some (i * esz, esz)) (v := v) (rest := ps) (cells := cells) (i := i) rfl (by omega) (by omega)
   obtain ⟨q1, q2, q3⟩ := hr
   obtain ⟨cells', g1, g2, g3, g4⟩ := JgP hpos (cells := cells1) h (by simpa using hlen) (fun k i cs j v h1 h2 => hp (k + 1) i cs j v (by simpa using h1) (by simpa using h2))
    ⟨fun row hm => by
      rcases List.mem_or_eq_of_mem_set hm with hm | hm
      ·exact q1 row hm
      ·subst hm; exact hc.1, by simp; omega, fun k m row x hk hx => by
      by_cases hki : k = i
      ·subst hki
       rw [List.getElem?_set_self hc.2] at hk
       injection hk with hk; subst hk
       have hlt := J8 hx
       have hlt' : m < v.cells.size := by omega
       exact ⟨v.cells[m], f3 m _ (by simp), p3 m x _ hx (by simp)⟩
      ·rw [List.getElem?_set_ne (Ne.symm hki)] at hk
       obtain ⟨u, hu, hrel⟩ := q3 k m row x hk hx
       refine ⟨u, ?_, hrel⟩
       rw [f4 _ ?_]
       ·exact hu
       ·have hm0 := J8 hx
        rw [q1 row (JM hk)] at hm0
        rcases Nat.lt_or_ge k i with hlt' | hge
        ·left
         have := J48 hlt' hm0
         omega
        ·right
         have := Nat.mul_le_mul_right esz (show i + 1 ≤ k by omega)
         rw [Nat.add_mul, Nat.one_mul] at this
         omega⟩ (by simp; omega)
   exact ⟨cells', by rw [f1]; exact g1, g2, by simpa using g3, by simpa using g4⟩
  ·cases h
theorem Jcy {t : TypeId} {n : Nat} (h : szT P t = some n) : ∃ i, P.info? t = some i ∧ i.size = n := by
 unfold szT at h
 cases hi : P.info? t with
 | none => rw [hi] at h; cases h
 | some i => rw [hi] at h; simp at h; exact ⟨i, rfl, h⟩
theorem Jgq {t : TypeId} {v : Value} {i : TypeInfo} (h : zeT P t = some v) (hi : P.info? t = some i) : i.zero = some v := by
 unfold zeT at h; rw [hi] at h; simpa using h
theorem Jdt {t : TypeId} {n : Nat} {i : TypeInfo} (h : byT P t = some n) (hi : P.info? t = some i) : i.bytes = n := by
 unfold byT at h; rw [hi] at h; simpa using h
theorem JoX {z : Array Value} {esz n i j : Nat} (hz : z.size = esz) (hi : i < n) (hj : j < esz) : (madeCells z (n * esz))[i * esz + j]? = z[j]? := by
 have h1 : i * esz + j < n * esz := J48 hi hj
 have h2 : (i * esz + j) % z.size = j := by
  rw [hz, Nat.add_comm, Nat.add_mul_mod_self_right, Nat.mod_eq_of_lt hj]
 have h3 : j < z.size := by omega
 simp [madeCells, h1, h2, h3]
theorem JfF {zero : List PV} {z : Value} {esz n m : Nat} (hl : zero.length = esz) (hz2 : zero.length = z.cells.size)
  (hz3 : ∀ {w C} (i : Nat) x u, zero[i]? = some x → z.cells[i]? = some u → Jl w C x u) (hnm : n ≤ m) : J87 s esz (List.replicate n zero) (madeCells z.cells (m * esz)) := by
 refine ⟨fun row hr => by rw [List.eq_of_mem_replicate hr]; exact hl, ?_, fun i j row x hi hj => ?_⟩
 ·rw [size_madeCells, List.length_replicate]; exact Nat.mul_le_mul_right esz hnm
 ·have hlt := J8 hi
  have := List.eq_of_mem_replicate (JM hi)
  subst this
  have hj' := J8 hj
  simp at hlt
  have hz : z.cells.size = esz := by omega
  refine ⟨z.cells[j], ?_, hz3 j x _ hj (by simp)⟩
  rw [JoX hz (by omega) (by omega)]
  simp
theorem Jn8 (hi : Inv s) (he : JA s a.tmps env) {own esz bytes zero l c} (hn : own = true → s.σ[new]? = some .dead) (h : (opR F (.mkslice own esz bytes zero l c) new).run ⟨env, s.σ⟩ = some e)
  (hc : Jk P (.mkslice own esz bytes zero l c) o.op = true) : J0h P o a s e := by
 simp only [opR] at h
 obtain ⟨u, h1, h'⟩ := bind_some h
 obtain ⟨v, h2, h''⟩ := bind_some h'
 clear h h'
 unfold Jk at hc
 simp only at hc
 split at hc
 ·rename_i t l' c' hop
  simp only [Bool.and_eq_true] at hc
  obtain ⟨⟨hl, hcc⟩, ht⟩ := hc
  have rl := Jv he h1 hl
  have rc := Jv he h2 hcc
  split at ht
  ·rename_i el hel
   simp only [Bool.and_eq_true, beq_iff_eq, decide_eq_true_eq] at ht
   obtain ⟨⟨⟨⟨⟨hs, hby⟩, hz⟩, hzl⟩, hpos⟩, hbpos⟩ := ht
   obtain ⟨i, hinf, hsz⟩ := Jcy hs
   obtain ⟨z, hz1, hz2, hz3⟩ := J3l hz
   have hbytes := Jdt hby hinf
   split at h''
   ·rename_i k n k' m
    split at h''
    ·rename_i hcond
     obtain ⟨hn0, hnm, hb, hm⟩ := hcond
     have e1 := J2Q rl
     have e2 := J2Q rc
     have hrun := run_make (P := P) s.w t el i z (J14 hel) hinf (Jgq hz1 hinf) k k' n m hn0 hnm (by rw [hbytes]; exact hb) (by omega)
     rw [hsz] at hrun
     have hrow : J87 s esz (List.replicate n.toNat zero) (madeCells z.cells (m.toNat * esz)) := JfF hzl hz2 hz3 (by omega)
     have hex : (execOp a.eval o).run P s.w = .ok (.value (.slice (some ⟨s.w.heap.size, 0, none⟩) n.toNat m.toNat)) (s.w.alloc (.cells (madeCells z.cells (m.toNat * esz)) el)) := by
      simp [execOp, hop, e1, e2, hrun]
     split at h''
     ·rename_i hown
      simp only [RM.run] at h''; injection h'' with h''; subst h''
      obtain ⟨g', i', t', r'⟩ := JaR hi (hn hown) (w' := s.w.alloc (.cells (madeCells z.cells (m.toNat * esz)) el)) (fz := (0, 0)) rfl rfl rfl (J9x.zero _ _) hrow (cap := m.toNat) (by simp; omega) (by rw [size_madeCells]; exact Nat.le_refl _)
      simp only [List.length_replicate] at r'
      exact J1h hex i' t' r'
     ·simp only [RM.run] at h''; injection h'' with h''; subst h''
      obtain ⟨g', i', t', r'⟩ := JbN hi (w' := s.w.alloc (.cells (madeCells z.cells (m.toNat * esz)) el)) (fz := (0, 0)) rfl rfl rfl hrow (cap := m.toNat) (by simp; omega)
      simp only [List.length_replicate] at r'
      exact J1h (e := ⟨_, []⟩) hex i' t' r'
    ·cases h''
   ·cases h''
  ·cases ht
 ·cases hc
theorem Jrj (hi : Inv s) (he : JA s a.tmps env) {own esz n zero parts} (hn : own = true → s.σ[new]? = some .dead) (h : (opR F (.lits own esz n zero parts) new).run ⟨env, s.σ⟩ = some e)
  (hc : Jk P (.lits own esz n zero parts) o.op = true) : J0h P o a s e := by
 simp only [opR] at h
 obtain ⟨y, h1, h'⟩ := bind_some h
 clear h
 unfold Jk at hc
 simp only at hc
 split at hc
 ·rename_i t len ps hop
  simp only [Bool.and_eq_true, beq_iff_eq] at hc
  obtain ⟨rfl, ht⟩ := hc
  split at ht
  ·rename_i el hel
   simp only [Bool.and_eq_true, beq_iff_eq, decide_eq_true_eq] at ht
   obtain ⟨⟨⟨⟨⟨hs, hle⟩, hz⟩, hzl⟩, hpos⟩, hidx⟩ := ht
   obtain ⟨z, hz1, hz2, hz3⟩ := J3l hz
   have hidx' : J3U (parts.map (·.2)) (ps.toList.map (·.2)) = true ∧ parts.map (·.1) = ps.toList.map (·.1) := by
    have : ∀ {p : List (Nat × Opd)} {q : List (Nat × Operand)}, Jai p q = true → J3U (p.map (·.2)) (q.map (·.2)) = true ∧ p.map (·.1) = q.map (·.1) := by
     intro p
     induction p with
     | nil => intro q h; cases q <;> simp [Jai] at h ⊢; rfl
     | cons x p ih =>
      intro q h
      cases q with
      | nil => simp [Jai] at h
      | cons y q =>
       obtain ⟨xi, xo⟩ := x
       obtain ⟨yi, yo⟩ := y
       simp only [Jai, Bool.and_eq_true, beq_iff_eq] at h
       obtain ⟨h3, h4⟩ := ih h.2
       exact ⟨by simp [J3U, h.1.2, h3], by simp [h.1.1, h4]⟩
    exact this hidx
   obtain ⟨g1, i1, t1, f1, l1, r1⟩ := JlR (tmps := a.tmps) (fun n x hx => let ⟨v, h, _⟩ := he n x hx; ⟨v, h⟩) hi (.refl _) he h1 hidx'.1
   split at h'
   ·rename_i rows hrows
    have hplen : (parts.map (·.1)).length = (ps.toList.map (·.1)).length := by rw [hidx'.2]
    simp at hplen
    simp at l1
    have hzip : ((parts.map (·.1)).zip y.1).length = (ps.toList.map fun x => (x.1, a.eval x.2)).length := by simp; omega
    obtain ⟨cells', f2, r2, len2, sz2⟩ := JgP (s := ⟨upd y.2 s.σ, g1, s.w⟩) hpos (ps := ps.toList.map fun x => (x.1, a.eval x.2)) (cells := madeCells z.cells (len * esz)) hrows hzip (fun k i cs j v hk hq => by
      rw [List.getElem?_zip_eq_some] at hk
      obtain ⟨hk1, hk2⟩ := hk
      rw [List.getElem?_map] at hq
      cases hpk : ps.toList[k]? with
      | none => simp [hpk] at hq
      | some q =>
       simp [hpk] at hq
       obtain ⟨rfl, rfl⟩ := hq
       rw [hidx'.2, List.getElem?_map, hpk] at hk1
       simp at hk1
       obtain ⟨k3, k4⟩ := r1 k cs q.2 hk2 (by rw [List.getElem?_map, hpk]; rfl)
       exact ⟨hk1.symm, k3, k4⟩)
     (JfF hzl hz2 hz3 (Nat.le_refl _)) (by simp [size_madeCells])
    simp at len2 sz2
    have hex : (execOp a.eval o).run P s.w = .ok (.value (.slice (some ⟨s.w.heap.size, 0, none⟩) len len)) (s.w.alloc (.cells cells' el)) := by
     have hle' : ¬ (len * esz > 2 ^ 24) := by omega
     have hps : (ps.map fun (x : Nat × Operand) => (x.1, a.eval x.2)).toList = ps.toList.map fun x => (x.1, a.eval x.2) := by simp
     have hb : (Instr.buildSlice t len (ps.map fun (x : Nat × Operand) => (x.1, a.eval x.2))).run P s.w = .ok (.slice (some ⟨s.w.heap.size, 0, none⟩) len len) (s.w.alloc (.cells cells' el)) := by
      unfold Instr.buildSlice
      by_cases h0 : len * esz = 0
      ·have hm0 : madeCells z.cells (len * esz) = #[] := by simp [madeCells, h0]
       rw [hm0] at f2
       have h00 : ¬ ((0 : Nat) > 2 ^ 24) := by decide
       have hr0 : Array.range 0 = #[] := rfl
       simp only [h00, Sem.run_bind, run_underlying (J14 hel), Result.andThen_ok, J1S hs, hle', if_false, h0, if_true, Sem.run_pure, hps, hr0, Array.map_empty, f2, newRow, run_newObj]
       rfl
      ·have hm0 : ((Array.range (len * esz)).map fun x => z.cells[x % z.cells.size]!) = madeCells z.cells (len * esz) := rfl
       simp only [Sem.run_bind, run_underlying (J14 hel), Result.andThen_ok, J1S hs, hle', if_false, h0, J7G hz1, Sem.run_pure, hps, hm0, f2, newRow, run_newObj]
       rfl
     simp only [execOp, hop, Sem.run_bind, hb, Result.andThen_ok, Sem.run_pure]
    split at h'
    ·rename_i hown
     simp only [RM.run] at h'; injection h' with h'; subst h'
     have hd1 : (upd y.2 s.σ)[new]? = some .dead := f1.2 _ _ (hn hown) (by simp)
     obtain ⟨g', i', t', r'⟩ := JaR (s0 := ⟨upd y.2 s.σ, g1, s.w⟩) i1 hd1 (w' := s.w.alloc (.cells cells' el)) (fz := (0, 0)) rfl rfl rfl (J9x.zero _ _) r2 (cap := len) (by omega) (by omega)
     rw [len2] at r'
     refine J1h (e := ⟨_, y.2 ++ [(new, .arr true esz rows)]⟩) (g' := g') hex ?_ ?_ ?_
     ·rw [J0I]; exact i'
     ·rw [J0I]; exact t1.trans t'
     ·rw [J0I]; exact r'
    ·simp only [RM.run] at h'; injection h' with h'; subst h'
     obtain ⟨g', i', t', r'⟩ := JbN (s0 := ⟨upd y.2 s.σ, g1, s.w⟩) i1 (w' := s.w.alloc (.cells cells' el)) (fz := (0, 0)) rfl rfl rfl r2 (cap := len) (by omega)
     rw [len2] at r'
     exact J1h (e := ⟨_, y.2⟩) hex i' (t1.trans t') r'
   ·cases h'
  ·cases ht
 ·cases hc
end
end Go.Am
end
