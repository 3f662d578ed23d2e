/-
  Parts of a proof.
-/
import Derived.Calls
import Derived.LoopN
import Derived.KernelRfl
import Derived.Laws.Sem
import Derived.Laws.StructEq
import Derived.Laws.Cells
import Derived.Laws.Cover3
import Derived.Laws.Pointers
import Derived.Deep.AppendSrc
import Derived.Laws.MakeOwn
import Derived.Laws.BytesString
set_option linter.unusedSimpArgs false
set_option linter.unusedVariables false
section
namespace Go.Am
inductive PV where
 | b (x : Bool)
 | i (k : IntKind) (n : Int)
 | s (l : List UInt8)
 | sl (esz : Nat) (rows : List (List PV))
 | np
 | nf
 | slc (esz : Nat) (rows : List (List PV))
 deriving Inhabited
inductive AV where
 | p (c : PV)
 | data (cs : List PV)
 | agg (cs : List AV)
 | tup (vs : List AV)
 | ptr (b off : Nat)
 | cp (cs : List PV) (off : Nat)
 | slr (b i n : Nat)
 | ep (b ext i off : Nat)
 | fn (f : FuncId) (first caps : List AV)
 | unk
 deriving Inhabited
inductive Blk where
 | dead
 | box (cs : List AV)
 | arr (w : Bool) (esz : Nat) (rows : List (List PV))
 deriving Inhabited
abbrev Res := AV × List Blk
abbrev Orc := FuncId → List AV → List Blk → Option Res
structure St where
 env : List (Nat × AV)
 sto : List Blk
def lk (n : Nat) : List (Nat × AV) → Option AV
 | [] => none
 | (m, v) :: r => if n = m then some v else lk n r
inductive RM (α : Type) where
 | ret (a : α)
 | slot (n : Nat) (k : AV → RM α)
 | blk (b : Nat) (k : Blk → RM α)
 | fail
def RM.bind {α β : Type} : RM α → (α → RM β) → RM β
 | .ret a, f => f a
 | .slot n k, f => .slot n fun v => (k v).bind f
 | .blk b k, f => .blk b fun v => (k v).bind f
 | .fail, _ => .fail
def RM.run {α : Type} : RM α → St → Option α
 | .ret a, _ => some a
 | .slot n k, s => match lk n s.env with
  | some v => (k v).run s
  | none => none
 | .blk b k, s => match s.sto[b]? with
  | some v => (k v).run s
  | none => none
 | .fail, _ => none
inductive Loc where
 | slot (n : Nat)
 | blk (b : Nat)
 deriving DecidableEq
def RM.reads {α : Type} : RM α → St → List Loc
 | .ret _, _ => []
 | .slot n k, s => .slot n :: match lk n s.env with
  | some v => (k v).reads s
  | none => []
 | .blk b k, s => .blk b :: match s.sto[b]? with
  | some v => (k v).reads s
  | none => []
 | .fail, _ => []
def RM.of {α : Type} : Option α → RM α
 | some a => .ret a
 | none => .fail
inductive Opd where
 | t (n : Nat)
 | c (x : AV)
 deriving Inhabited
inductive KD where
 | b
 | i (k : IntKind)
 | s
 deriving DecidableEq
inductive BT where
 | plain
 | bool
 | flat (ks : List KD)
 | nils
 | nilp
 | nilf
 deriving DecidableEq
inductive CK where
 | int (k : IntKind)
 | same
 | toStr
 | toBytes (own : Bool)
 deriving DecidableEq
inductive SK where
 | str
 | sl (esz : Nat)
 deriving DecidableEq
inductive AOp where
 | mv (x : Opd)
 | mkarr (esz : Nat) (x : Opd)
 | pick (c a b : Opd)
 | newbox (zero : List PV)
 | box (size : Nat) (x : Opd)
 | build (zero : List PV) (parts : List (Nat × Nat × Opd))
 | lits (own : Bool) (esz n : Nat) (zero : List PV) (parts : List (Nat × Opd))
 | load (agg : Bool) (size : Nat) (x : Opd)
 | store (size : Nat) (x v : Opd)
 | nilchk (x : Opd)
 | bin (op : BinOp) (t : BT) (x y : Opd)
 | un (op : UnOp) (x : Opd)
 | conv (k : CK) (x : Opd)
 | mkslice (own : Bool) (esz bytes : Nat) (zero : List PV) (l c : Opd)
 | slice (k : SK) (x : Opd) (lo hi mx : Option Opd)
 | faddr (off : Nat) (x : Opd)
 | field (agg : Bool) (off size : Nat) (x : Opd)
 | iaddr (esz : Nat) (x i : Opd)
 | aaddr (len esz : Nat) (x i : Opd)
 | sidx (x i : Opd)
 | aidx (agg : Bool) (len esz : Nat) (x i : Opd)
 | extr (x : Opd) (i : Nat)
 | call (f : FuncId) (args : List Opd) (k : Nat)
 | callv (g : Opd) (args : List Opd) (k : Nat)
 | len (str : Bool) (x : Opd)
 | alen (n : Nat)
 | app (esz bytes : Nat) (zero : List PV) (x y : Opd)
 | appn (esz bytes : Nat) (zero : List PV) (y : Opd)
 | appz (esz bytes : Nat) (zero : List PV) (x y : Opd)
 | appc (esz bytes : Nat) (zero : List PV) (x y : Opd)
 | mm (mx : Bool) (x y : Opd)
 | mkfn (f : FuncId) (first caps : List Opd)
 | newboxo (zero : List PV) (os : List (Nat × Nat))
 | buildo (zero : List PV) (parts : List (Nat × Nat × Opd)) (os : List (Nat × Nat))
 | storen (esz : Nat) (x : Opd)
 | callo (f : FuncId) (keep : List Bool) (args : List Opd) (k : Nat)
 deriving Inhabited
structure J0q where
 op : AOp
 dst : Option Nat
 g : Option (Nat × Bool)
 deriving Inhabited
inductive J03 where
 | skip
 | bad
 | reg (draw : Bool) (pairs : List (Nat × Nat)) (ins : List J0q)
 | seq (a b : J03)
 | cond (c : Opd) (a b : J03)
 | block (id : Nat) (c : J03)
 | loop (live : List Nat) (c : J03)
 | lp (n : Nat) (live : List Nat) (c : J03)
 | scope (c : J03)
 | exit (id : Nat)
 | ret
 | keep (live : List Nat) (c : J03)
 | tidy (live : List Nat) (c : J03)
 | br (live : List Nat) (pre : J03) (c : Opd) (a b rest : J03)
 deriving Inhabited
inductive AX where
 | normal
 | exit (id : Nat)
 | ret
 deriving DecidableEq
abbrev Out := AX × St
inductive Jb8 where
 | tmp (t : Nat)
 | cell (t : Nat) (agg : Bool) (size : Nat)
structure AFn where
 np : Nat
 nt : Nat
 body : J03
 res : List Jb8
 fresh : Bool
structure Eff where
 val : AV
 ws : List (Nat × Blk)
def upd (ws : List (Nat × Blk)) (sto : List Blk) : List Blk :=
 ws.foldl (fun s x => s.set x.1 x.2) sto
def unp : List AV → Option (List PV)
 | [] => some []
 | .p c :: r => match unp r with
  | some l => some (c :: l)
  | none => none
 | _ :: _ => none
def cellsOf : AV → Option (List AV)
 | .p c => some [.p c]
 | .data cs => some (cs.map .p)
 | .agg cs => some cs
 | .ptr b o => some [.ptr b o]
 | .cp cs o => some [.cp cs o]
 | .slr b i n => some [.slr b i n]
 | .ep b e i o => some [.ep b e i o]
 | .fn f a c => some [.fn f a c]
 | .tup _ => none
 | .unk => none
def J2b (agg : Bool) (cs : List AV) : Option AV :=
 if agg then
  match unp cs with
  | some l => some (.data l)
  | none => some (.agg cs)
 else match cs with
  | [x] => some x
  | _ => none
def J2J (agg : Bool) (cs : List PV) : Option AV :=
 if agg then some (.data cs)
 else match cs with
  | [x] => some (.p x)
  | _ => none
def sub {α : Type} (cs : List α) (off size : Nat) : Option (List α) :=
 if off = 0 ∧ cs.length = size then some cs
 else if off + size ≤ cs.length then some ((cs.drop off).take size) else none
def spl {α : Type} (cs : List α) (off : Nat) (vs : List α) : Option (List α) :=
 if off = 0 ∧ cs.length = vs.length then some vs
 else if off + vs.length ≤ cs.length then some (cs.take off ++ vs ++ cs.drop (off + vs.length)) else none
def fz : AV → RM (List PV × List (Nat × Blk))
 | .p c => .ret ([c], [])
 | .data cs => .ret (cs, [])
 | .slr b i n => .blk b fun
  | .arr _ esz rows => if i + n = rows.length then .ret ([.sl esz (rows.drop i)], [(b, .arr false esz rows)]) else .fail
  | _ => .fail
 | .agg cs => fzL cs
 | _ => .fail
where
 fzL : List AV → RM (List PV × List (Nat × Blk))
  | [] => .ret ([], [])
  | x :: r => (fz1 x).bind fun a => (fzL r).bind fun c => .ret (a.1 ++ c.1, a.2 ++ c.2)
 fz1 : AV → RM (List PV × List (Nat × Blk))
  | .p c => .ret ([c], [])
  | .slr b i n => .blk b fun
   | .arr _ esz rows => if i + n = rows.length then .ret ([.sl esz (rows.drop i)], [(b, .arr false esz rows)]) else .fail
   | _ => .fail
  | _ => .fail
def Jad : KD → PV → PV → Option Bool
 | .b, .b x, .b y => some (x == y)
 | .i k, .i k' x, .i k'' y => if k = k' ∧ k = k'' then some (x == y) else none
 | .s, .s x, .s y => some (x == y)
 | _, _, _ => none
def J0A : List KD → List PV → List PV → Option Bool
 | [], [], [] => some true
 | k :: ks, x :: xs, y :: ys => match Jad k x y, J0A ks xs ys with
  | some a, some c => some (a && c)
  | _, _ => none
 | _, _, _ => none
def J8B (op : BinOp) (k : IntKind) (x y : Int) : Option PV :=
 if y < 0 then none
 else match op with
  | .shl => some (.i k (k.wrap (x * 2 ^ (min y.toNat k.bits))))
  | .shr => some (.i k (x.fdiv (2 ^ (min y.toNat k.bits))))
  | _ => none
def Jdf (op : BinOp) (k : IntKind) (x y : Int) : Option PV :=
 match op with
 | .add => some (.i k (k.wrap (x + y)))
 | .sub => some (.i k (k.wrap (x - y)))
 | .mul => some (.i k (k.wrap (x * y)))
 | .quo => if y = 0 then none else some (.i k (k.wrap (x.tdiv y)))
 | .rem => if y = 0 then none else some (.i k (x.tmod y))
 | .and => some (.i k (k.wrap (BitVec.ofInt k.bits x &&& BitVec.ofInt k.bits y).toNat))
 | .or => some (.i k (k.wrap (BitVec.ofInt k.bits x ||| BitVec.ofInt k.bits y).toNat))
 | .xor => some (.i k (k.wrap (BitVec.ofInt k.bits x ^^^ BitVec.ofInt k.bits y).toNat))
 | .eql => some (.b (x == y))
 | .neq => some (.b (x != y))
 | .lss => some (.b (decide (x < y)))
 | .leq => some (.b (decide (x ≤ y)))
 | .gtr => some (.b (decide (x > y)))
 | .geq => some (.b (decide (x ≥ y)))
 | _ => none
def Jdr (op : BinOp) (x y : List UInt8) : Option PV :=
 match op with
 | .add => if x.length + y.length ≤ 4611686018427387904 then some (.s (x ++ y)) else none
 | .eql => some (.b (x == y))
 | .neq => some (.b (!(x == y)))
 | .lss => some (.b (Op.bytesLess x y))
 | .leq => some (.b (Op.bytesLess x y || x == y))
 | .gtr => some (.b (!(Op.bytesLess x y || x == y)))
 | .geq => some (.b (!Op.bytesLess x y))
 | _ => none
def J5y (op : BinOp) (r : Option Bool) : Option AV :=
 match op, r with
 | .eql, some x => some (.p (.b x))
 | .neq, some x => some (.p (.b (!x)))
 | _, _ => none
def JhX : BinOp → Option AV
 | .eql => some .unk
 | .neq => some .unk
 | _ => none
def J7L (op : BinOp) (t : BT) (x y : AV) : Option AV :=
 match t with
 | .plain => match x, y with
  | .p (.i k a), .p (.i k' c) => match op with
   | .shl => (J8B .shl k a c).map .p
   | .shr => (J8B .shr k a c).map .p
   | _ => if k = k' then (Jdf op k a c).map .p else none
  | .p (.s a), .p (.s c) => (Jdr op a c).map .p
  | _, _ => none
 | .bool => match x, y with
  | .p (.b a), .p (.b c) => J5y op (some (a == c))
  | _, _ => none
 | .flat ks => match x, y with
  | .data a, .data c => J5y op (J0A ks a c)
  | _, _ => none
 | .nils => match x with
  | .p (.sl _ rows) => match rows with
   | [] => JhX op
   | _ :: _ => J5y op (some false)
  | .slr _ _ n => if n = 0 then JhX op else J5y op (some false)
  | _ => none
 | .nilp => match x with
  | .p .np => J5y op (some true)
  | .ptr _ _ => J5y op (some false)
  | .cp _ _ => J5y op (some false)
  | .ep _ _ _ _ => J5y op (some false)
  | _ => none
 | .nilf => match x with
  | .p .nf => J5y op (some true)
  | .fn _ _ _ => J5y op (some false)
  | _ => none
def unP (op : UnOp) (x : AV) : Option AV :=
 match op, x with
 | .neg, .p (.i k n) => some (.p (.i k (k.wrap (0 - n))))
 | .xor, .p (.i k n) => some (.p (.i k (k.wrap (BitVec.ofInt k.bits (if k.signed then -1 else k.max) ^^^ BitVec.ofInt k.bits n).toNat)))
 | .not, .p (.b x) => some (.p (.b (!x)))
 | .not, .unk => some .unk
 | _, _ => none
def J5b : List (List PV) → Option (List UInt8)
 | [] => some []
 | [.i .u8 n] :: r => match J5b r with
  | some l => some (UInt8.ofNat n.toNat :: l)
  | none => none
 | _ :: _ => none
def J2B (x : UInt8) : List PV := [.i .u8 x.toNat]
def J4T (esz : Nat) : List (Nat × List PV) → List (List PV) → Option (List (List PV))
 | [], rows => some rows
 | (i, c) :: r, rows => if c.length = esz ∧ i < rows.length then J4T esz r (rows.set i c) else none
def J45 : List (Nat × Nat × List AV) → List AV → Option (List AV)
 | [], cs => some cs
 | (off, size, c) :: r, cs =>
  if c.length = size then
   match spl cs off c with
   | some cs' => J45 r cs'
   | none => none
  else none
def ev : Opd → RM AV
 | .t n => .slot n .ret
 | .c x => .ret x
def evs : List Opd → RM (List AV)
 | [] => .ret []
 | x :: r => (ev x).bind fun v => (evs r).bind fun vs => .ret (v :: vs)
def val (x : Option AV) : RM Eff :=
 match x with
 | some v => .ret ⟨v, []⟩
 | none => .fail
def fzs : List Opd → RM (List (List PV) × List (Nat × Blk))
 | [] => .ret ([], [])
 | x :: r => (ev x).bind fun v => (fz v).bind fun a => (fzs r).bind fun c => .ret (a.1 :: c.1, a.2 ++ c.2)
def J47 (x : Option AV) (top dflt : Nat) : Option Nat :=
 match x with
 | none => some dflt
 | some (.p (.i _ n)) => if 0 ≤ n ∧ n ≤ top then some n.toNat else none
 | some _ => none
def evo : Option Opd → RM (Option AV)
 | none => .ret none
 | some x => (ev x).bind fun v => .ret (some v)
def Jbg (n : Nat) (lo hi : Option AV) : Option (Nat × Nat) :=
 match J47 hi n n with
 | none => none
 | some h => match J47 lo h 0 with
  | none => none
  | some l => some (l, h)
def J7x (x : AV) (lo hi : Option AV) : Option AV :=
 match x with
 | .p (.s l) => match Jbg l.length lo hi with
  | some c => some (.p (.s ((l.drop c.1).take (c.2 - c.1))))
  | none => none
 | _ => none
def J7B (esz : Nat) (x : AV) (lo hi : Option AV) : Option AV :=
 match x with
 | .p (.sl esz' rows) => if esz = esz' then
   match Jbg rows.length lo hi with
   | some c => some (.p (.sl esz ((rows.drop c.1).take (c.2 - c.1))))
   | none => none
  else none
 | _ => none
def Jhu (esz : Nat) (x : AV) (lo hi : Option AV) (m : AV) : Option AV :=
 match x, lo, hi, m with
 | .p (.sl esz' rows), none, some (.p (.i _ h)), .p (.i _ n) => if esz = esz' ∧ h = rows.length ∧ n = rows.length then some (.p (.slc esz rows)) else none
 | _, _, _, _ => none
def J3g (k : SK) (x : AV) (lo hi mx : Option AV) : Option AV :=
 match mx with
 | some m => match k with
  | .str => none
  | .sl esz => Jhu esz x lo hi m
 | none => match k with
  | .str => J7x x lo hi
  | .sl esz => J7B esz x lo hi
def Je8 (rows : List (List PV)) (n : Int) : Option (List PV) :=
 if 0 ≤ n then rows[n.toNat]? else none
def J3Z (esz : Nat) (x i : AV) : RM Eff :=
 match x, i with
 | .p (.sl esz' rows), .p (.i _ n) =>
  if esz = esz' then
   match Je8 rows n with
   | some row => .ret ⟨.cp row 0, []⟩
   | none => .fail
  else .fail
 | .slr b j m, .p (.i _ n) => .blk b fun
  | .arr _ esz' rows => if esz = esz' ∧ j + m = rows.length ∧ 0 ≤ n ∧ n < m then .ret ⟨.ep b rows.length (j + n.toNat) 0, []⟩ else .fail
  | _ => .fail
 | _, _ => .fail
def JbB (len esz : Nat) (x i : AV) : Option AV :=
 match i with
 | .p (.i _ n) =>
  if 0 ≤ n ∧ n < len then
   match x with
   | .ptr b off => some (.ptr b (off + n.toNat * esz))
   | .cp cs off => some (.cp cs (off + n.toNat * esz))
   | .ep b e j off => some (.ep b e j (off + n.toNat * esz))
   | _ => none
  else none
 | _ => none
def Jbn (off : Nat) : AV → Option AV
 | .ptr b o => some (.ptr b (o + off))
 | .cp cs o => some (.cp cs (o + off))
 | .ep b e j o => some (.ep b e j (o + off))
 | _ => none
def J2D (agg : Bool) (size : Nat) : AV → RM Eff
 | .cp cs off => match sub cs off size with
  | some l => val (J2J agg l)
  | none => .fail
 | .ptr b off => .blk b fun
  | .box cs => match sub cs off size with
   | some l => val (J2b agg l)
   | none => .fail
  | _ => .fail
 | .ep b ext i off => .blk b fun
  | .arr _ _ rows => if ext = rows.length then
    match rows[i]? with
    | some row => match sub row off size with
     | some l => val (J2J agg l)
     | none => .fail
    | none => .fail
   else .fail
  | _ => .fail
 | _ => .fail
def J11 : AV := .tup []
def J2k (size : Nat) (x v : AV) : RM Eff :=
 match x with
 | .ptr b off => .blk b fun
  | .box cs => match cellsOf v with
   | some l => if l.length = size then
     match spl cs off l with
     | some cs' => .ret ⟨J11, [(b, .box cs')]⟩
     | none => .fail
    else .fail
   | none => .fail
  | _ => .fail
 | .ep b ext i off => .blk b fun
  | .arr true esz rows => if ext = rows.length then
    match rows[i]? with
    | some row => (fz v).bind fun a =>
     if a.1.length = size ∧ (a.2.all fun y => y.1 != b) then
      match spl row off a.1 with
      | some row' => .ret ⟨J11, a.2 ++ [(b, .arr true esz (rows.set i row'))]⟩
      | none => .fail
     else .fail
    | none => .fail
   else .fail
  | _ => .fail
 | _ => .fail
def J5P (agg : Bool) (off size : Nat) : AV → Option AV
 | .data cs => match sub cs off size with
  | some l => J2J agg l
  | none => none
 | .agg cs => match sub cs off size with
  | some l => J2b agg l
  | none => none
 | _ => none
def Je0 (i : Nat) : AV → Option AV
 | .tup vs => vs[i]?
 | _ => none
def JfW : Bool → AV → Option AV
 | true, .p (.s l) => some (.p (.i .i64 l.length))
 | false, .p (.sl _ rows) => some (.p (.i .i64 rows.length))
 | false, .slr _ _ n => some (.p (.i .i64 n))
 | _, _ => none
def J1g (esz : Nat) : AV → RM (List (List PV))
 | .p (.sl esz' rows) => if esz = esz' then .ret rows else .fail
 | .p (.s l) => if esz = 1 then .ret (l.map J2B) else .fail
 | .slr b i n => .blk b fun
  | .arr _ esz' rows => if esz = esz' ∧ i + n = rows.length then .ret (rows.drop i) else .fail
  | _ => .fail
 | _ => .fail
def J1Z (n bytes : Nat) : Bool := (2 * n + 512) * bytes ≤ 281474976710656
def J4P (esz bytes : Nat) (x y : AV) : RM Eff :=
 match x with
 | .slr b i n => .blk b fun
  | .arr w esz' rows => (J1g esz y).bind fun new =>
   if esz = esz' ∧ i = 0 ∧ n = rows.length ∧ J1Z (n + new.length) bytes then
    .ret ⟨.slr b 0 (n + new.length), [(b, .arr w esz (rows ++ new))]⟩
   else .fail
  | _ => .fail
 | _ => .fail
def JiW (esz bytes : Nat) (x y : AV) (new : Nat) : RM Eff :=
 match x with
 | .p (.slc esz' rows) => (J1g esz y).bind fun add =>
   if esz = esz' ∧ 0 < add.length ∧ J1Z (rows.length + add.length) bytes then
    .ret ⟨.slr new 0 (rows.length + add.length), [(new, .arr true esz (rows ++ add))]⟩
   else .fail
 | _ => .fail
def zrs (esz : Nat) (zero : List PV) : AV → Option AV
 | .p (.i _ n) => if 0 ≤ n then some (.p (.sl esz (List.replicate n.toNat zero))) else none
 | _ => none
def mmP (mx : Bool) (x y : AV) : Option AV :=
 match x, y with
 | .p (.i k a), .p (.i _ c) => some (.p (.i k (if mx then (if c > a then c else a) else (if c < a then c else a))))
 | _, _ => none
inductive Ent where
 | whole (b : Nat)
 | elem (b ext i : Nat)
 deriving DecidableEq
def Ent.id : Ent → Nat
 | .whole b => b
 | .elem b _ _ => b
def J7E (e : Ent) (l : List Ent) : List Ent := if l.any (fun x => x == e) then l else l ++ [e]
def JV : AV → List Ent → List Ent
 | .ptr b _, l => J7E (.whole b) l
 | .slr b _ _, l => J7E (.whole b) l
 | .ep b e i _, l => J7E (.elem b e i) l
 | .fn _ first caps, l => entsOfL caps (entsOfL first l)
 | .agg cs, l => entsOfL cs l
 | .tup cs, l => entsOfL cs l
 | _, l => l
where
 entsOfL : List AV → List Ent → List Ent
  | [], l => l
  | x :: r, l => entsOfL r (JV x l)
def J0M (e : Ent) : List Ent → Nat → Option Nat
 | [], _ => none
 | x :: r, k => if x = e then some k else J0M e r (k + 1)
def ren (ρ : Ent → Option Nat) : AV → Option AV
 | .p c => some (.p c)
 | .data cs => some (.data cs)
 | .cp cs o => some (.cp cs o)
 | .unk => some .unk
 | .ptr b off => (ρ (.whole b)).map fun k => .ptr k off
 | .ep b e i off => (ρ (.elem b e i)).map fun k => .ptr k off
 | .slr b i n => (ρ (.whole b)).map fun k => .slr k i n
 | .fn f first caps => (renL ρ first).bind fun a => (renL ρ caps).map fun c => .fn f a c
 | .agg cs => (renL ρ cs).map .agg
 | .tup cs => (renL ρ cs).map .tup
where
 renL (ρ : Ent → Option Nat) : List AV → Option (List AV)
  | [] => some []
  | x :: r => match ren ρ x, renL ρ r with
   | some y, some l => some (y :: l)
   | _, _ => none
end Go.Am
end
section
namespace Go.Am
def J2U : List Nat → Bool
 | [] => true
 | x :: r => !(r.contains x) && J2U r
def J31 (b : Nat) : List (Nat × Blk) → Option Blk
 | [] => none
 | (c, x) :: r => match J31 b r with
  | some y => some y
  | none => if c = b then some x else none
def J9w (ws : List (Nat × Blk)) (b : Nat) : RM Blk :=
 .blk b fun x => match J31 b ws with
  | some y => .ret y
  | none => .ret x
def J2m (ws : List (Nat × Blk)) : List Ent → List Ent → RM (List Ent)
 | [], acc => .ret acc
 | .whole b :: r, acc => (J9w ws b).bind fun
  | .box cs => J2m ws r (JV.entsOfL cs acc)
  | _ => J2m ws r acc
 | _ :: r, acc => J2m ws r acc
def J5J : AV → RM (AV × List (Nat × Blk))
 | .slr b i n => (fz (.slr b i n)).bind fun a => match a.1 with
  | [c] => .ret (.p c, a.2)
  | _ => .fail
 | .agg cs => (fz (.agg cs)).bind fun a => .ret (.data a.1, a.2)
 | .tup _ => .fail
 | v => .ret (v, [])
def J4n : List AV → RM (List AV × List (Nat × Blk))
 | [] => .ret ([], [])
 | x :: r => (J5J x).bind fun a => (J4n r).bind fun c => .ret (a.1 :: c.1, a.2 ++ c.2)
def JaG (ws : List (Nat × Blk)) (ρ : Ent → Option Nat) : Ent → RM Blk
 | .whole b => (J9w ws b).bind fun
  | .box cs => match ren.renL ρ cs with
   | some l => .ret (.box l)
   | none => .fail
  | .arr w esz rows => .ret (.arr w esz rows)
  | .dead => .fail
 | .elem b ext i => (J9w ws b).bind fun
  | .arr true _ rows => if ext = rows.length then
    match rows[i]? with
    | some row => .ret (.box (row.map .p))
    | none => .fail
   else .fail
  | _ => .fail
def J37 (ws : List (Nat × Blk)) (ρ : Ent → Option Nat) : List Ent → RM (List Blk)
 | [] => .ret []
 | e :: r => (JaG ws ρ e).bind fun x => (J37 ws ρ r).bind fun l => .ret (x :: l)
def bk (es : List Ent) (new : Nat) : AV → Option AV
 | .p c => some (.p c)
 | .data cs => some (.data cs)
 | .cp cs o => some (.cp cs o)
 | .unk => some .unk
 | .ptr k off => if k < es.length then
   match es[k]? with
   | some (.whole b) => some (.ptr b off)
   | some (.elem b e i) => some (.ep b e i off)
   | none => none
  else some (.ptr (new + (k - es.length)) off)
 | .slr k i n => if k < es.length then
   match es[k]? with
   | some (.whole b) => some (.slr b i n)
   | _ => none
  else some (.slr (new + (k - es.length)) i n)
 | .ep k e i off => if k < es.length then
   match es[k]? with
   | some (.whole b) => some (.ep b e i off)
   | _ => none
  else some (.ep (new + (k - es.length)) e i off)
 | .fn f first caps => match bkL es new first, bkL es new caps with
  | some a, some c => some (.fn f a c)
  | _, _ => none
 | .agg cs => match bkL es new cs with
  | some l => some (.agg l)
  | none => none
 | .tup cs => match bkL es new cs with
  | some l => some (.tup l)
  | none => none
where
 bkL (es : List Ent) (new : Nat) : List AV → Option (List AV)
  | [] => some []
  | x :: r => match bk es new x, bkL es new r with
   | some y, some l => some (y :: l)
   | _, _ => none
def J4Q (ws : List (Nat × Blk)) (es : List Ent) (new : Nat) (e : Ent) (x : Blk) : RM (Nat × Blk) :=
 match e, x with
 | .whole b, .box cs => match bk.bkL es new cs with
  | some l => .ret (b, .box l)
  | none => .fail
 | .whole b, .arr w esz rows => .ret (b, .arr w esz rows)
 | .elem b _ i, .box cs => (J9w ws b).bind fun
  | .arr w esz rows => match unp cs with
   | some row => .ret (b, .arr w esz (rows.set i row))
   | none => .fail
  | _ => .fail
 | _, _ => .fail
def J1R (ws : List (Nat × Blk)) (es : List Ent) (new : Nat) : List Ent → List Blk → RM (List (Nat × Blk))
 | [], _ => .ret []
 | e :: r, x :: l => (J4Q ws es new e x).bind fun y => (J1R ws es new r l).bind fun ys => .ret (y :: ys)
 | _ :: _, [] => .fail
def J1u (es : List Ent) (new : Nat) : Nat → List Blk → Option (List (Nat × Blk))
 | _, [] => some []
 | k, .box cs :: l => match bk.bkL es new cs, J1u es new (k + 1) l with
  | some c, some ys => some ((k, .box c) :: ys)
  | _, _ => none
 | k, .arr w esz rows :: l => match J1u es new (k + 1) l with
  | some ys => some ((k, .arr w esz rows) :: ys)
  | none => none
 | _, .dead :: _ => none
def J3i (F : Orc) (f : FuncId) (args : List AV) (k new : Nat) : RM Eff :=
 (J4n args).bind fun a =>
 (J2m a.2 (JV.entsOfL a.1 []) (JV.entsOfL a.1 [])).bind fun es1 =>
 (J2m a.2 es1 es1).bind fun es =>
 if J2U (es.map Ent.id) then
  match ren.renL (fun e => J0M e es 0) a.1 with
  | none => .fail
  | some args' => (J37 a.2 (fun e => J0M e es 0) es).bind fun blks =>
   match F f args' blks with
   | none => .fail
   | some r => if r.2.length = es.length + k then
     match bk es new r.1, J1u es new new (r.2.drop es.length) with
     | some v, some fresh => (J1R a.2 es new es r.2).bind fun back => .ret ⟨v, a.2 ++ back ++ fresh⟩
     | _, _ => .fail
    else .fail
 else .fail
def J38 : List (Nat × Nat × Opd) → RM (List (Nat × Nat × List AV))
 | [] => .ret []
 | (off, size, x) :: r => (ev x).bind fun v => match cellsOf v with
  | some cs => (J38 r).bind fun l => .ret ((off, size, cs) :: l)
  | none => .fail
def J2Y : List (Nat × Nat) → Nat → List (Nat × Blk)
 | [], _ => []
 | (_, esz) :: r, n => (n, .arr true esz []) :: J2Y r (n + 1)
def J7k : List (Nat × Nat) → Nat → List AV → List AV
 | [], _, cs => cs
 | (off, _) :: r, n, cs => J7k r (n + 1) (cs.set off (.slr n 0 0))
def J1W : List Bool → List AV → RM (List AV × List (Nat × Blk))
 | _, [] => .ret ([], [])
 | [], x :: r => (J5J x).bind fun a => (J1W [] r).bind fun c => .ret (a.1 :: c.1, a.2 ++ c.2)
 | true :: m, x :: r => (J1W m r).bind fun c => .ret (x :: c.1, c.2)
 | false :: m, x :: r => (J5J x).bind fun a => (J1W m r).bind fun c => .ret (a.1 :: c.1, a.2 ++ c.2)
def J1w (F : Orc) (f : FuncId) (a : List AV × List (Nat × Blk)) (k new : Nat) : RM Eff :=
 (J2m a.2 (JV.entsOfL a.1 []) (JV.entsOfL a.1 [])).bind fun es1 =>
 (J2m a.2 es1 es1).bind fun es =>
 if J2U (es.map Ent.id) then
  match ren.renL (fun e => J0M e es 0) a.1 with
  | none => .fail
  | some args' => (J37 a.2 (fun e => J0M e es 0) es).bind fun blks =>
   match F f args' blks with
   | none => .fail
   | some r => if es.length ≤ r.2.length ∧ r.2.length ≤ es.length + k then
     match bk es new r.1, J1u es new new (r.2.drop es.length) with
     | some v, some fresh => (J1R a.2 es new es r.2).bind fun back => .ret ⟨v, a.2 ++ back ++ fresh⟩
     | _, _ => .fail
    else .fail
 else .fail
def opR (F : Orc) (op : AOp) (new : Nat) : RM Eff :=
 match op with
 | .mv x => (ev x).bind fun v => .ret ⟨v, []⟩
 | .mkarr esz _ => .ret ⟨.slr new 0 0, [(new, .arr true esz [])]⟩
 | .pick c a b => (ev c).bind fun
  | .p (.b x) => if x then (ev a).bind fun v => .ret ⟨v, []⟩ else (ev b).bind fun v => .ret ⟨v, []⟩
  | _ => .fail
 | .newbox zero => .ret ⟨.ptr new 0, [(new, .box (zero.map .p))]⟩
 | .box size x => (ev x).bind fun v => match cellsOf v with
  | some cs => if cs.length = size then .ret ⟨.ptr new 0, [(new, .box cs)]⟩ else .fail
  | none => .fail
 | .build zero parts => (J38 parts).bind fun l => match J45 l (zero.map .p) with
  | some cs => val (J2b true cs)
  | none => .fail
 | .lits own esz n zero parts => (fzs (parts.map (·.2))).bind fun a =>
  match J4T esz ((parts.map (·.1)).zip a.1) (List.replicate n zero) with
  | some rows => if own then .ret ⟨.slr new 0 n, a.2 ++ [(new, .arr true esz rows)]⟩ else .ret ⟨.p (.sl esz rows), a.2⟩
  | none => .fail
 | .load agg size x => (ev x).bind fun v => J2D agg size v
 | .store size x y => (ev x).bind fun a => (ev y).bind fun v => J2k size a v
 | .nilchk x => (ev x).bind fun
  | .ptr b o => .ret ⟨.ptr b o, []⟩
  | .cp cs o => .ret ⟨.cp cs o, []⟩
  | .ep b e i o => .ret ⟨.ep b e i o, []⟩
  | .fn f u c => .ret ⟨.fn f u c, []⟩
  | _ => .fail
 | .bin op t x y => (ev x).bind fun a => (ev y).bind fun c => val (J7L op t a c)
 | .un op x => (ev x).bind fun a => val (unP op a)
 | .conv k x => (ev x).bind fun a => match k, a with
  | .int k, .p (.i _ n) => .ret ⟨.p (.i k (k.wrap n)), []⟩
  | .same, .p (.s l) => .ret ⟨.p (.s l), []⟩
  | .toStr, a => (J1g 1 a).bind fun rows => match J5b rows with
   | some l => .ret ⟨.p (.s l), []⟩
   | none => .fail
  | .toBytes own, .p (.s l) => if own then .ret ⟨.slr new 0 l.length, [(new, .arr true 1 (l.map J2B))]⟩ else .ret ⟨.p (.sl 1 (l.map J2B)), []⟩
  | _, _ => .fail
 | .mkslice own esz bytes zero l c => (ev l).bind fun a => (ev c).bind fun d => match a, d with
  | .p (.i _ n), .p (.i _ m) =>
   if 0 ≤ n ∧ n ≤ m ∧ bytes * m ≤ 281474976710656 ∧ m ≤ 281474976710656 then
    if own then .ret ⟨.slr new 0 n.toNat, [(new, .arr true esz (List.replicate n.toNat zero))]⟩
    else .ret ⟨.p (.sl esz (List.replicate n.toNat zero)), []⟩
   else .fail
  | _, _ => .fail
 | .slice k x lo hi mx => (ev x).bind fun a => (evo lo).bind fun lo => (evo hi).bind fun hi => (evo mx).bind fun mx =>
  match a with
  | .slr b i n => (fz (.slr b i n)).bind fun y => match y.1 with
   | [c] => match J3g k (.p c) lo hi mx with
    | some v => .ret ⟨v, y.2⟩
    | none => .fail
   | _ => .fail
  | a => val (J3g k a lo hi mx)
 | .faddr off x => (ev x).bind fun a => val (Jbn off a)
 | .field agg off size x => (ev x).bind fun a => val (J5P agg off size a)
 | .iaddr esz x i => (ev x).bind fun a => (ev i).bind fun c => J3Z esz a c
 | .aaddr len esz x i => (ev x).bind fun a => (ev i).bind fun c => val (JbB len esz a c)
 | .sidx x i => (ev x).bind fun a => (ev i).bind fun c => match a, c with
  | .p (.s l), .p (.i _ n) => if 0 ≤ n then
    match l[n.toNat]? with
    | some u => .ret ⟨.p (.i .u8 u.toNat), []⟩
    | none => .fail
   else .fail
  | _, _ => .fail
 | .aidx agg len esz x i => (ev x).bind fun a => (ev i).bind fun c => match c with
  | .p (.i _ n) => if 0 ≤ n ∧ n < len then val (J5P agg (n.toNat * esz) esz a) else .fail
  | _ => .fail
 | .extr x i => (ev x).bind fun a => val (Je0 i a)
 | .call f args k => (evs args).bind fun vs => J3i F f vs k new
 | .callv g args k => (ev g).bind fun
  | .fn f first caps => (evs args).bind fun vs => J3i F f (first ++ vs ++ caps) k new
  | _ => .fail
 | .len str x => (ev x).bind fun a => val (JfW str a)
 | .alen n => .ret ⟨.p (.i .i64 n), []⟩
 | .appn esz bytes _ y => (ev y).bind fun c => (J1g esz c).bind fun rows =>
  if J1Z rows.length bytes then .ret ⟨.slr new 0 rows.length, [(new, .arr true esz rows)]⟩ else .fail
 | .app esz bytes _ x y => (ev x).bind fun a => (ev y).bind fun c => J4P esz bytes a c
 | .appz esz bytes zero x y => (ev x).bind fun a => (ev y).bind fun c => match zrs esz zero c with
  | some c1 => J4P esz bytes a c1
  | none => .fail
 | .appc esz bytes _ x y => (ev x).bind fun a => (ev y).bind fun c => JiW esz bytes a c new
 | .mm mx x y => (ev x).bind fun a => (ev y).bind fun c => val (mmP mx a c)
 | .mkfn f first caps => (evs first).bind fun a => (evs caps).bind fun c => .ret ⟨.fn f a c, []⟩
 | .newboxo zero os => .ret ⟨.ptr (new + os.length) 0, J2Y os new ++ [(new + os.length, .box (J7k os new (zero.map .p)))]⟩
 | .buildo zero parts os => (J38 parts).bind fun l => match J45 l (J7k os new (zero.map .p)) with
  | some cs => match J2b true cs with
   | some v => .ret ⟨v, J2Y os new⟩
   | none => .fail
  | none => .fail
 | .storen esz x => (ev x).bind fun a => (J2k 1 a (.slr new 0 0)).bind fun e => .ret ⟨e.val, (new, .arr true esz []) :: e.ws⟩
 | .callo f keep args k => (evs args).bind fun vs => (J1W keep vs).bind fun a => J1w F f a k new
def J3j : AOp → Nat
 | .newbox _ | .box _ _ | .mkarr _ _ | .appn _ _ _ _ | .appc _ _ _ _ _ => 1
 | .lits own _ _ _ _ => if own then 1 else 0
 | .mkslice own _ _ _ _ _ => if own then 1 else 0
 | .conv (.toBytes own) _ => if own then 1 else 0
 | .call _ _ k | .callv _ _ k | .callo _ _ _ k => k
 | .newboxo _ os => os.length + 1
 | .buildo _ _ os => os.length
 | .storen _ _ => 1
 | _ => 0
def J7U (new : Nat) : Nat → RM Unit
 | 0 => .ret ()
 | k + 1 => .blk new fun
  | .dead => J7U (new + 1) k
  | _ => .fail
def opD (F : Orc) (op : AOp) (new : Nat) : RM Eff := (J7U new (J3j op)).bind fun _ => opR F op new
def J0t (F : Orc) (i : J0q) (new : Nat) : RM Eff :=
 match i.g with
 | none => opD F i.op new
 | some (g, want) => .slot g fun
  | .p (.b x) => if x = want then opD F i.op new else .ret ⟨J11, []⟩
  | .tup [] => .ret ⟨J11, []⟩
  | _ => .fail
def put (d : Option Nat) (e : Eff) (s : St) : St :=
 match d with
 | some d => ⟨(d, e.val) :: s.env, upd e.ws s.sto⟩
 | none => ⟨s.env, upd e.ws s.sto⟩
def J1F (F : Orc) : List J0q → Nat → St → Option St
 | [], _, s => some s
 | i :: r, new, s => match (J0t F i new).run s with
  | some e => J1F F r (new + J3j i.op) (put i.dst e s)
  | none => none
def J2W : List Loc → List Nat
 | [] => []
 | .blk b :: r => b :: J2W r
 | _ :: r => J2W r
abbrev Log := List (List Nat × List Nat)
def J2T (F : Orc) : List J0q → Nat → St → Log → Option (St × Log)
 | [], _, s, l => some (s, l)
 | i :: r, new, s, l => match (J0t F i new).run s with
  | some e => J2T F r (new + J3j i.op) (put i.dst e s) (l ++ [(J2W ((J0t F i new).reads s), e.ws.map (·.1))])
  | none => none
def J49 (a b : List Nat) : Bool := a.all fun x => !(b.contains x)
def J8h (l : Log) : List (Nat × Nat) → Bool
 | [] => true
 | (i, j) :: r => (match l[i]?, l[j]? with
  | some a, some b => J49 a.2 b.1 && J49 a.2 b.2 && J49 a.1 b.2
  | _, _ => false) && J8h l r
def news : List J0q → Nat
 | [] => 0
 | i :: r => J3j i.op + news r
def room (n : Nat) (sto : List Blk) : List Blk := if n = 0 then sto else sto ++ List.replicate n .dead
def region (F : Orc) (pairs : List (Nat × Nat)) (ins : List J0q) (s : St) : Option St :=
 match pairs with
 | [] => J1F F ins s.sto.length ⟨s.env, room (news ins) s.sto⟩
 | _ :: _ => match J2T F ins s.sto.length ⟨s.env, room (news ins) s.sto⟩ [] with
  | some (s', l) => if J8h l pairs then some s' else none
  | none => none
def restr : List Nat → List (Nat × AV) → List (Nat × AV)
 | [], _ => []
 | k :: r, env => match lk k env with
  | some v => (k, v) :: restr r env
  | none => restr r env
def J2K (b : Nat) : List Nat → Nat → Option Nat
 | [], _ => none
 | x :: r, k => if x = b then some k else J2K b r (k + 1)
def fin (m : Nat) (ids : List Nat) (sto : List Blk) : AV → Option AV
 | .p c => some (.p c)
 | .data cs => some (.data cs)
 | .cp cs o => some (.cp cs o)
 | .unk => some .unk
 | .ptr b off => if b < m then some (.ptr b off) else (J2K b ids m).map fun k => .ptr k off
 | .slr b i n => if b < m then some (.slr b i n) else
  match J2K b ids m with
  | some k => some (.slr k i n)
  | none => match sto[b]? with
   | some (.arr _ esz rows) => if i + n = rows.length then some (.p (.sl esz (rows.drop i))) else none
   | _ => none
 | .ep b e i off => if b < m then some (.ep b e i off) else (J2K b ids m).map fun k => .ep k e i off
 | .fn f first caps => match finL m ids sto first, finL m ids sto caps with
  | some a, some c => some (.fn f a c)
  | _, _ => none
 | .agg cs => match finL m ids sto cs with
  | some l => match unp l with
   | some q => some (.data q)
   | none => some (.agg l)
  | none => none
 | .tup cs => match finL m ids sto cs with
  | some l => some (.tup l)
  | none => none
where
 finL (m : Nat) (ids : List Nat) (sto : List Blk) : List AV → Option (List AV)
  | [] => some []
  | x :: r => match fin m ids sto x, finL m ids sto r with
   | some y, some l => some (y :: l)
   | _, _ => none
def J3f (m : Nat) (ids : List Nat) (sto : List Blk) : Blk → Option Blk
 | .dead => some .dead
 | .box cs => match fin.finL m ids sto cs with
  | some l => some (.box l)
  | none => none
 | .arr w esz rows => some (.arr w esz rows)
def J7w (m : Nat) (ids : List Nat) (sto : List Blk) : List Blk → Option (List Blk)
 | [] => some []
 | x :: r => match J3f m ids sto x, J7w m ids sto r with
  | some y, some l => some (y :: l)
  | _, _ => none
def JbN (m : Nat) (sto : List Blk) : List (Nat × AV) → Option (List (Nat × AV))
 | [] => some []
 | (k, x) :: r => match fin m [] sto x, JbN m sto r with
  | some y, some l => some ((k, y) :: l)
  | _, _ => none
def clean (n : Nat) (live : List Nat) (s : St) : Option St :=
 if s.sto.length = n then some ⟨restr live s.env, s.sto⟩
 else match JbN n s.sto (restr live s.env), J7w n [] s.sto (s.sto.take n) with
  | some e, some l => some ⟨e, l⟩
  | _, _ => none
def J7I : List Jb8 → RM (List AV)
 | [] => .ret []
 | .tmp t :: r => (RM.slot t .ret).bind fun v => (J7I r).bind fun l => .ret (v :: l)
 | .cell t agg size :: r => (RM.slot t .ret).bind fun v => (J2D agg size v).bind fun e => (J7I r).bind fun l => .ret (e.val :: l)
def J2Q (m : Nat) (fresh : Bool) (sto : List Blk) : List Ent → List Nat
 | [] => []
 | .whole b :: r => if b < m then J2Q m fresh sto r else
  match sto[b]? with
  | some (.box _) => b :: J2Q m fresh sto r
  | some (.arr _ _ _) => if fresh then b :: J2Q m fresh sto r else J2Q m fresh sto r
  | _ => J2Q m fresh sto r
 | _ :: r => J2Q m fresh sto r
def J7p (sto : List Blk) : List Ent → List Ent → List Ent
 | [], acc => acc
 | .whole b :: r, acc => match sto[b]? with
  | some (.box cs) => J7p sto r (JV.entsOfL cs acc)
  | _ => J7p sto r acc
 | _ :: r, acc => J7p sto r acc
def J9l (sto : List Blk) : List Nat → Option (List Blk)
 | [] => some []
 | b :: r => match sto[b]?, J9l sto r with
  | some x, some l => some (x :: l)
  | _, _ => none
def one : List AV → AV
 | [x] => x
 | l => .tup l
def J26 (fn : AFn) (m : Nat) (s : St) : Option Res :=
 match (J7I fn.res).run s with
 | none => none
 | some vs =>
  if s.sto.length = m then some (one vs, s.sto)
  else
   match J2Q m fn.fresh s.sto (J7p s.sto (JV.entsOfL vs []) (JV.entsOfL vs [])) with
   | ids => if J2U ids then
     match fin.finL m ids s.sto vs, J7w m ids s.sto (s.sto.take m), J9l s.sto ids with
     | some ws, some l, some q => match J7w m ids s.sto q with
      | some q' => some (one ws, l ++ q')
      | none => none
     | _, _, _ => none
    else none
def J5E : Nat → List AV → List (Nat × AV)
 | _, [] => []
 | k, x :: r => (k, x) :: J5E (k + 1) r
structure J4O where
 np : Nat
 nt : Nat
 p0 : J03
 live : List Nat
 pre : J03
 c : Opd
 a : J03
 b : J03
 rest : J03
 res : List Jb8
 fresh : Bool
def J4O.af (k : J4O) : AFn := ⟨k.np, k.nt, .seq k.p0 (.br k.live k.pre k.c k.a k.b k.rest), k.res, k.fresh⟩
def JaA (f : AFn) (m : Nat) (o : Option Out) : Option Res :=
 match o with
 | some (.normal, s) => J26 f m s
 | some (.ret, s) => J26 f m s
 | _ => none
open Classical in
noncomputable def JdR (a b : Option Res) : Option Res :=
 match a, b with
 | some r, some r' => if r = r' then some r else none
 | _, _ => none
def thn (o : Option Out) (k : St → Option Out) : Option Out :=
 match o with
 | some (.normal, s) => k s
 | o => o
noncomputable def J7O (R : J03 → St → Option Out) (k : J4O) (args : List AV) (blks : List Blk) : Option Res :=
 match R k.p0 ⟨J5E 0 args, blks⟩ with
 | some (.normal, s0) => match R k.pre s0 with
  | some (.normal, s1) => match (ev k.c).run s1 with
   | some (.p (.b x)) => if x = true then JaA k.af blks.length (thn (R k.a s1) fun s => R k.rest s) else JaA k.af blks.length (thn (R k.b s1) fun s => R k.rest s)
   | some .unk => JdR (JaA k.af blks.length (thn (R k.a s1) fun s => R k.rest s)) (JaA k.af blks.length (thn (R k.b s1) fun s => R k.rest s))
   | _ => none
  | _ => none
 | _ => none
inductive JlC where
 | fn (f : AFn)
 | prim (g : List AV → List Blk → Option Res)
 | fork (k : J4O)
abbrev J1Y := FuncId → Option JlC
noncomputable def J6W (T : J1Y) (R : J03 → St → Option Out) (f : FuncId) (args : List AV) (blks : List Blk) : Option Res :=
 match T f with
 | none => none
 | some (.prim g) => g args blks
 | some (.fork k) => if args.length = k.np then J7O R k args blks else none
 | some (.fn fn) =>
  if args.length = fn.np then
   match R fn.body ⟨J5E 0 args, blks⟩ with
   | some (.normal, s) => J26 fn blks.length s
   | some (.ret, s) => J26 fn blks.length s
   | _ => none
  else none
open Classical in
noncomputable def same (a b : Option Out) : Option Out :=
 match a, b with
 | some r, some r' => if r = r' then some r else none
 | _, _ => none
def J46 (n : Nat) (live : List Nat) (o : Option Out) : Option Out :=
 match o with
 | some (e, s) => match clean n live s with
  | some s' => some (e, s')
  | none => none
 | none => none
noncomputable def step (T : J1Y) (R : J03 → St → Option Out) (c : J03) (s : St) : Option Out :=
 match c with
 | .skip => some (.normal, s)
 | .bad => none
 | .reg _ pairs ins => match region (J6W T R) pairs ins s with
  | some s' => some (.normal, s')
  | none => none
 | .seq a b => match R a s with
  | some (.normal, s') => R b s'
  | o => o
 | .cond c a b => match (ev c).run s with
  | some (.p (.b x)) => if x = true then R a s else R b s
  | some .unk => same (R a s) (R b s)
  | _ => none
 | .block id c => match R c s with
  | some (.exit k, s') => if k = id then some (.normal, s') else some (.exit k, s')
  | o => o
 | .loop live c => match clean s.sto.length live s with
  | some s' => R (.lp s.sto.length live c) s'
  | none => none
 | .lp n live c => match R c s with
  | some (.normal, s') => (match clean n live s' with
   | some s'' => R (.lp n live c) s''
   | none => none)
  | o => o
 | .scope c => R c s
 | .exit id => some (.exit id, s)
 | .ret => some (.ret, s)
 | .keep live c => R c ⟨restr live s.env, s.sto⟩
 | .tidy live c => J46 s.sto.length live (R c s)
 | .br live pre c a b rest => match R pre s with
  | some (.normal, s1) => (match (ev c).run s1 with
   | some (.p (.b x)) => if x = true then thn (R a s1) fun s => R rest s else thn (R b s1) fun s => R rest s
   | some .unk => same (J46 s1.sto.length live (thn (R a s1) fun s => R rest s)) (J46 s1.sto.length live (thn (R b s1) fun s => R rest s))
   | _ => none)
  | _ => none
end Go.Am
end
section
namespace Go.Am
def below {α : Type} (a b : Option α) : Prop := a = none ∨ a = b
theorem Jm {α : Type} (a : Option α) : below a a := .inr rfl
theorem run_bind {α β : Type} (m : RM α) (f : α → RM β) (s : St) : (m.bind f).run s = (m.run s).bind fun a => (f a).run s := by
 induction m with
 | ret a => rfl
 | slot n k ih => simp only [RM.bind, RM.run]; cases lk n s.env <;> simp [ih]
 | blk b k ih => simp only [RM.bind, RM.run]; cases s.sto[b]? <;> simp [ih]
 | fail => rfl
theorem J1s {α β : Type} {m : RM α} {f f' : α → RM β} {s : St} (h : ∀ a, below ((f a).run s) ((f' a).run s)) : below ((m.bind f).run s) ((m.bind f').run s) := by
 rw [run_bind, run_bind]
 cases m.run s with
 | none => exact .inl rfl
 | some a => exact h a
variable {F F' : Orc} (h : ∀ f a b, below (F f a b) (F' f a b))
include h in
theorem JcE (f : FuncId) (args : List AV) (k new : Nat) (s : St) : below ((J3i F f args k new).run s) ((J3i F' f args k new).run s) := by
 unfold J3i
 refine J1s fun a => J1s fun es1 => J1s fun es => ?_
 split
 ·split
  ·exact Jm _
  ·refine J1s fun blks => ?_
   rcases h f ‹_› blks with e | e
   ·rw [e]; exact .inl rfl
   ·rw [e]; exact Jm _
 ·exact Jm _
include h in
theorem Jip (f : FuncId) (a : List AV × List (Nat × Blk)) (k new : Nat) (s : St) : below ((J1w F f a k new).run s) ((J1w F' f a k new).run s) := by
 unfold J1w
 refine J1s fun es1 => J1s fun es => ?_
 split
 ·split
  ·exact Jm _
  ·refine J1s fun blks => ?_
   rcases h f ‹_› blks with e | e
   ·rw [e]; exact .inl rfl
   ·rw [e]; exact Jm _
 ·exact Jm _
include h in
theorem JmB (op : AOp) (new : Nat) (s : St) : below ((opR F op new).run s) ((opR F' op new).run s) := by
 cases op <;> try exact Jm _
 case call f args k => exact J1s fun vs => JcE h ..
 case callo f keep args k => exact J1s fun vs => J1s fun a => Jip h ..
 case callv g args k =>
  refine J1s fun g => ?_
  cases g <;> try exact Jm _
  exact J1s fun vs => JcE h ..
include h in
theorem Jge (op : AOp) (new : Nat) (s : St) : below ((opD F op new).run s) ((opD F' op new).run s) :=
 J1s fun _ => JmB h ..
include h in
theorem Je1 (i : J0q) (new : Nat) (s : St) : below ((J0t F i new).run s) ((J0t F' i new).run s) := by
 unfold J0t
 split
 ·exact Jge h ..
 ·simp only [RM.run]
  split
  ·split
   ·split
    ·exact Jge h ..
    ·exact Jm _
   ·exact Jm _
   ·exact Jm _
  ·exact Jm _
theorem J3I {α β : Type} (m : RM α) (f : α → RM β) (s : St) : (m.bind f).reads s = m.reads s ++ ((m.run s).map fun a => (f a).reads s).getD [] := by
 induction m with
 | ret a => simp [RM.bind, RM.reads, RM.run]
 | slot n k ih => simp only [RM.bind, RM.reads, RM.run]; cases lk n s.env <;> simp [ih]
 | blk b k ih => simp only [RM.bind, RM.reads, RM.run]; cases s.sto[b]? <;> simp [ih]
 | fail => simp [RM.bind, RM.reads, RM.run]
theorem J0D {α β : Type} {m : RM α} {f f' : α → RM β} {s : St} (h : ∀ a, (f a).run s = none ∨ (f a).reads s = (f' a).reads s) :
  ((m.bind f).run s) = none ∨ (m.bind f).reads s = (m.bind f').reads s := by
 rw [run_bind, J3I, J3I]
 cases m.run s with
 | none => exact .inl rfl
 | some a => exact (h a).imp (fun e => e) (fun e => by simp [e])
include h in
theorem JcF (f : FuncId) (args : List AV) (k new : Nat) (s : St) :
  (J3i F f args k new).run s = none ∨ (J3i F f args k new).reads s = (J3i F' f args k new).reads s := by
 unfold J3i
 refine J0D fun a => J0D fun es1 => J0D fun es => ?_
 split
 ·split
  ·exact .inr rfl
  ·refine J0D fun blks => ?_
   rcases h f ‹_› blks with e | e
   ·rw [e]; exact .inl rfl
   ·rw [e]; exact .inr rfl
 ·exact .inr rfl
include h in
theorem JhR (f : FuncId) (a : List AV × List (Nat × Blk)) (k new : Nat) (s : St) :
  (J1w F f a k new).run s = none ∨ (J1w F f a k new).reads s = (J1w F' f a k new).reads s := by
 unfold J1w
 refine J0D fun es1 => J0D fun es => ?_
 split
 ·split
  ·exact .inr rfl
  ·refine J0D fun blks => ?_
   rcases h f ‹_› blks with e | e
   ·rw [e]; exact .inl rfl
   ·rw [e]; exact .inr rfl
 ·exact .inr rfl
include h in
theorem JmR (op : AOp) (new : Nat) (s : St) : (opR F op new).run s = none ∨ (opR F op new).reads s = (opR F' op new).reads s := by
 cases op <;> try exact .inr rfl
 case call f args k => exact J0D fun vs => JcF h ..
 case callo f keep args k => exact J0D fun vs => J0D fun a => JhR h ..
 case callv g args k =>
  refine J0D fun g => ?_
  cases g <;> try exact .inr rfl
  exact J0D fun vs => JcF h ..
include h in
theorem Jgi (op : AOp) (new : Nat) (s : St) : (opD F op new).run s = none ∨ (opD F op new).reads s = (opD F' op new).reads s :=
 J0D fun _ => JmR h ..
include h in
theorem JjB (op : AOp) (want : Bool) (new : Nat) (s : St) (v : AV) :
  (RM.run (match v with
   | .p (.b x) => if x = want then opD F op new else .ret ⟨J11, []⟩
   | .tup [] => .ret ⟨J11, []⟩
   | _ => .fail) s) = none ∨ (RM.reads (match v with
   | .p (.b x) => if x = want then opD F op new else .ret ⟨J11, []⟩
   | .tup [] => .ret ⟨J11, []⟩
   | _ => .fail) s) = (RM.reads (match v with
   | .p (.b x) => if x = want then opD F' op new else .ret ⟨J11, []⟩
   | .tup [] => .ret ⟨J11, []⟩
   | _ => .fail) s) := by
 split
 ·split
  ·exact Jgi h ..
  ·exact .inr rfl
 ·exact .inr rfl
 ·exact .inr rfl
include h in
theorem Jly (i : J0q) (new : Nat) (s : St) : (J0t F i new).run s = none ∨ (J0t F i new).reads s = (J0t F' i new).reads s := by
 unfold J0t
 split
 ·exact Jgi h ..
 ·simp only [RM.run, RM.reads]
  split
  ·exact (JjB h ..).imp id (fun e => congrArg (Loc.slot _ :: ·) e)
  ·exact .inl rfl
include h in
theorem Jjc (ins : List J0q) : ∀ new s, below (J1F F ins new s) (J1F F' ins new s) := by
 induction ins with
 | nil => exact fun _ _ => Jm _
 | cons i r ih =>
  intro new s
  simp only [J1F]
  rcases Je1 h i new s with e | e
  ·rw [e]; exact .inl rfl
  ·rw [e]
   split
   ·exact ih _ _
   ·exact Jm _
include h in
theorem Jj5 (ins : List J0q) : ∀ new s l, below (J2T F ins new s l) (J2T F' ins new s l) := by
 induction ins with
 | nil => exact fun _ _ _ => Jm _
 | cons i r ih =>
  intro new s l
  simp only [J2T]
  rcases Je1 h i new s with e | e
  ·rw [e]; exact .inl rfl
  ·rcases Jly h i new s with e' | e'
   ·rw [e']; exact .inl rfl
   ·rw [e, e']
    split
    ·exact ih _ _ _
    ·exact Jm _
include h in
theorem Jj7 (pairs : List (Nat × Nat)) (ins : List J0q) (s : St) : below (region F pairs ins s) (region F' pairs ins s) := by
 unfold region
 split
 ·exact Jjc h ..
 ·rcases Jj5 h ins s.sto.length ⟨s.env, Go.Am.room (news ins) s.sto⟩ [] with e | e
  ·rw [e]; exact .inl rfl
  ·rw [e]; exact Jm _
variable {T : J1Y} {R R' : J03 → St → Option Out} (hR : ∀ c s, below (R c s) (R' c s))
include hR in
theorem JjM (k : J4O) (args : List AV) (blks : List Blk) : below (J7O R k args blks) (J7O R' k args blks) := by
 have ht : ∀ x s, below (JaA k.af blks.length (thn (R x s) fun s => R k.rest s)) (JaA k.af blks.length (thn (R' x s) fun s => R' k.rest s)) := by
  intro x s
  rcases hR x s with e | e
  ·rw [e]; exact .inl rfl
  ·rw [e]
   cases hx : R' x s with
   | none => exact .inl rfl
   | some o =>
    obtain ⟨q, s'⟩ := o
    cases q with
    | normal =>
     simp only [thn]
     rcases hR k.rest s' with e' | e'
     ·rw [e']; exact .inl rfl
     ·rw [e']; exact Jm _
    | _ => exact Jm _
 unfold J7O
 rcases hR k.p0 ⟨J5E 0 args, blks⟩ with e | e
 ·rw [e]; exact .inl rfl
 ·rw [e]
  split
  ·rename_i s0 _
   rcases hR k.pre s0 with e | e
   ·rw [e]; exact .inl rfl
   ·rw [e]
    split
    ·split
     ·split
      ·exact ht _ _
      ·exact ht _ _
     ·rename_i s1 _ _ _
      rcases ht k.a s1 with e | e
      ·rw [e]; exact .inl rfl
      ·rcases ht k.b s1 with e' | e'
       ·rw [e']; unfold JdR; exact .inl (by split <;> simp_all)
       ·rw [e, e']; exact Jm _
     ·exact Jm _
    ·exact Jm _
  ·exact Jm _
include hR in
theorem JjS (f : FuncId) (a : List AV) (b : List Blk) : below (J6W T R f a b) (J6W T R' f a b) := by
 unfold J6W
 split
 ·exact Jm _
 ·exact Jm _
 ·split
  ·exact JjM hR _ _ _
  ·exact Jm _
 ·split
  ·rcases hR ‹AFn›.body ⟨J5E 0 a, b⟩ with e | e
   ·rw [e]; exact .inl rfl
   ·rw [e]; exact Jm _
  ·exact Jm _
include hR in
theorem Jah (c : J03) (s : St) : below (step T R c s) (step T R' c s) := by
 cases c with
 | bad => exact .inl rfl
 | skip => exact Jm _
 | reg d pairs ins =>
  simp only [step]
  rcases Jj7 (JjS (T := T) hR) pairs ins s with e | e
  ·rw [e]; exact .inl rfl
  ·rw [e]; exact Jm _
 | seq a b =>
  simp only [step]
  rcases hR a s with e | e
  ·rw [e]; exact .inl rfl
  ·rw [e]
   split
   ·exact hR _ _
   ·exact Jm _
 | cond c a b =>
  simp only [step]
  split
  ·split
   ·exact hR _ _
   ·exact hR _ _
  ·rcases hR a s with e | e
   ·rw [e]; exact .inl rfl
   ·rcases hR b s with e' | e'
    ·rw [e']; unfold same; exact .inl (by split <;> simp_all)
    ·rw [e, e']; exact Jm _
  ·exact Jm _
 | block id c =>
  simp only [step]
  rcases hR c s with e | e
  ·rw [e]; exact .inl rfl
  ·rw [e]; exact Jm _
 | loop live c =>
  simp only [step]
  split
  ·exact hR _ _
  ·exact Jm _
 | lp n live c =>
  simp only [step]
  rcases hR c s with e | e
  ·rw [e]; exact .inl rfl
  ·rw [e]
   split
   ·split
    ·exact hR _ _
    ·exact Jm _
   ·exact Jm _
 | scope c => exact hR _ _
 | exit id => exact Jm _
 | ret => exact Jm _
 | keep live c => exact hR _ _
 | tidy live c =>
  simp only [step]
  rcases hR c s with e | e
  ·rw [e]; exact .inl rfl
  ·rw [e]; exact Jm _
 | br live pre c a b rest =>
  have ht : ∀ x s, below (thn (R x s) fun s => R rest s) (thn (R' x s) fun s => R' rest s) := by
   intro x s
   rcases hR x s with e | e
   ·rw [e]; exact .inl rfl
   ·rw [e]
    unfold thn
    split
    ·exact hR _ _
    ·exact Jm _
  simp only [step]
  rcases hR pre s with e | e
  ·rw [e]; exact .inl rfl
  ·rw [e]
   split
   ·split
    ·split
     ·exact ht _ _
     ·exact ht _ _
    ·rename_i s1 _ _ _
     rcases ht a s1 with e | e
     ·rw [e]; exact .inl rfl
     ·rcases ht b s1 with e' | e'
      ·rw [e']; unfold same; exact .inl (by split <;> simp_all [J46])
      ·rw [e, e']; exact Jm _
    ·exact Jm _
   ·exact Jm _
def Jsf (T : J1Y) (M : J03 → St → Out → Prop) : Prop :=
 ∀ R : J03 → St → Option Out, (∀ c s r, R c s = some r → M c s r) → ∀ c s r, step T R c s = some r → M c s r
def Den (T : J1Y) (c : J03) (s : St) (r : Out) : Prop := ∀ M, Jsf T M → M c s r
theorem Jd3 (T : J1Y) : Jsf T (Den T) := fun R hR c s r h M hM => hM R (fun c s r h => hR c s r h M hM) c s r h
theorem JkS {T : J1Y} {c : J03} {s : St} {r : Out} (h : Den T c s r) : ∃ R : J03 → St → Option Out, (∀ c s r, R c s = some r → Den T c s r) ∧ step T R c s = some r :=
 h (fun c s r => ∃ R : J03 → St → Option Out, (∀ c s r, R c s = some r → Den T c s r) ∧ step T R c s = some r) fun R hR c s r hs =>
  ⟨R, fun c s r h => let ⟨R', h1, h2⟩ := hR c s r h; Jd3 T R' h1 c s r h2, hs⟩
theorem JqM {T : J1Y} {c : J03} {s : St} {r : Out} (h : Den T c s r) : ∀ r', Den T c s r' → r' = r := by
 have key : Den T c s r ∧ ∀ r', Den T c s r' → r' = r := h (fun c s r => Den T c s r ∧ ∀ r', Den T c s r' → r' = r) fun R hR c s r hs => by
  refine ⟨Jd3 T R (fun c s r h => (hR c s r h).1) c s r hs, fun r' h' => ?_⟩
  obtain ⟨R', hR', hs'⟩ := JkS h'
  have b1 : ∀ c s, below (R c s) ((R c s).or (R' c s)) := fun c s => by cases hc : R c s <;> simp [below]
  have b2 : ∀ c s, below (R' c s) ((R c s).or (R' c s)) := fun c s => by
   cases hc : R c s with
   | none => simp [below]
   | some a =>
    cases hc' : R' c s with
    | none => simp [below]
    | some a' => right; rw [(hR c s a hc).2 a' (hR' c s a' hc')]; rfl
  have e1 := Jah (T := T) b1 c s
  have e2 := Jah (T := T) b2 c s
  rw [hs] at e1
  rw [hs'] at e2
  rcases e1 with e1 | e1
  ·cases e1
  ·rcases e2 with e2 | e2
   ·cases e2
   ·rw [← e1] at e2; injection e2
 exact key.2
open Classical in
noncomputable def X (T : J1Y) (c : J03) (s : St) : Option Out := if h : ∃ r, Den T c s r then some h.choose else none
theorem Jb9 {T : J1Y} {c : J03} {s : St} {r : Out} : X T c s = some r ↔ Den T c s r := by
 unfold X
 constructor
 ·intro h
  split at h
  ·rename_i hex
   injection h with h; subst h
   exact hex.choose_spec
  ·cases h
 ·intro h
  rw [dif_pos ⟨r, h⟩]
  congr 1
  exact JqM h _ (Exists.choose_spec (⟨r, h⟩ : ∃ r, Den T c s r))
theorem Jtn (T : J1Y) (motive : J03 → St → Out → Prop)
  (h : ∀ R : J03 → St → Option Out, (∀ c s r, R c s = some r → motive c s r) → ∀ c s r, step T R c s = some r → motive c s r) : ∀ c s r, X T c s = some r → motive c s r :=
 fun c s r hx => Jb9.1 hx motive h
theorem J77 (T : J1Y) (c : J03) (s : St) : X T c s = step T (X T) c s := by
 have one : ∀ r, step T (X T) c s = some r → X T c s = some r := fun r h => Jb9.2 (Jd3 T (X T) (fun c s r h => Jb9.1 h) c s r h)
 cases hs : step T (X T) c s with
 | some r => exact one r hs
 | none =>
  cases hx : X T c s with
  | none => rfl
  | some r =>
   obtain ⟨R, hR, h⟩ := JkS (Jb9.1 hx)
   have := Jah (T := T) (R := R) (R' := X T) (fun c s => by
    cases hc : R c s with
    | none => exact .inl rfl
    | some a => right; exact (Jb9.2 (hR c s a hc)).symm) c s
   rw [h, hs] at this
   rcases this with e | e <;> cases e
noncomputable def AF (T : J1Y) : Orc := J6W T (X T)
end Go.Am
end
section
namespace Go.Am
structure Gh where
 μ : Nat → Option (Nat × Nat)
 C : Nat → Nat → Prop
def cellAt (w : World) (r o : Nat) : Option Value :=
 match w.heap[r]? with
 | some (.cells c _ _) => c[o]?
 | _ => none
theorem J2d (w : World) (r o : Nat) : w.cell? ⟨r, o, none⟩ = cellAt w r o := by
 unfold World.cell? cellAt
 split <;> simp_all
theorem J1h {w : World} {r o : Nat} {c e fz} (h : w.heap[r]? = some (.cells c e fz)) : cellAt w r o = c[o]? := by
 simp [cellAt, h]
inductive Jp (w : World) (C : Nat → Nat → Prop) : PV → Value → Prop where
 | b (x : Bool) : Jp w C (.b x) (.bool x)
 | i (k : IntKind) (n : Int) : Jp w C (.i k n) (.int k n)
 | s (l : List UInt8) : Jp w C (.s l) (.string ⟨l.toArray⟩)
 | np : Jp w C .np (.pointer none)
 | nf : Jp w C .nf .nilFunc
 | sl0 (esz : Nat) (a : Option Addr) (cap : Nat) : Jp w C (.sl esz []) (.slice a 0 cap)
 | sl (esz : Nat) (rows : List (List PV)) (r o cap : Nat) (vals : Nat → Nat → Value) :
   rows.length ≤ cap → (∀ row ∈ rows, row.length = esz) →
   (∀ (i j : Nat) row x, rows[i]? = some row → row[j]? = some x → C r (o + i * esz + j) ∧ cellAt w r (o + i * esz + j) = some (vals i j)) →
   (∀ (i j : Nat) row x, rows[i]? = some row → row[j]? = some x → Jp w C x (vals i j)) →
   Jp w C (.sl esz rows) (.slice (some ⟨r, o, none⟩) rows.length cap)
 | slc (esz : Nat) (rows : List (List PV)) (a : Option Addr) : Jp w C (.sl esz rows) (.slice a rows.length rows.length) → Jp w C (.slc esz rows) (.slice a rows.length rows.length)
structure Sn where
 σ : List Blk
 g : Gh
 w : World
def Jhd (σ : List Blk) (b : Nat) : Prop := ∃ cs, σ[b]? = some (.box cs)
def Jtm (s : Sn) (b esz i n : Nat) (v : Value) : Prop :=
 (s.g.μ b = none ∧ i = 0 ∧ n = 0 ∧ v = .slice none 0 0) ∨
 ∃ r cap c e fz, s.g.μ b = some (r, 0) ∧ v = .slice (some ⟨r, i * esz, none⟩) n cap ∧ n ≤ cap ∧ s.w.heap[r]? = some (.cells c e fz) ∧ (i + cap) * esz ≤ c.size
inductive Ji (s : Sn) : AV → Value → Prop where
 | p (c v) : Jp s.w s.g.C c v → Ji s (.p c) v
 | data (cs : List PV) (vs : Array Value) : cs.length = vs.size → (∀ (i : Nat) x v, cs[i]? = some x → vs[i]? = some v → Jp s.w s.g.C x v) → Ji s (.data cs) (.agg vs)
 | agg (cs : List AV) (vs : Array Value) : cs.length = vs.size → (∀ (i : Nat) v, vs[i]? = some v → v.oneCell' = true) → (∀ (i : Nat) x v, cs[i]? = some x → vs[i]? = some v → Ji s x v) → Ji s (.agg cs) (.agg vs)
 | tup (cs : List AV) (vs : Array Value) : cs.length = vs.size → (∀ (i : Nat) x v, cs[i]? = some x → vs[i]? = some v → Ji s x v) → Ji s (.tup cs) (.tuple vs)
 | ptr (b off r o) : s.g.μ b = some (r, o) → Jhd s.σ b → Ji s (.ptr b off) (.pointer (some ⟨r, o + off, none⟩))
 | cp (cs : List PV) (off r o : Nat) (vals : Nat → Value) :
   (∀ (j : Nat) x, cs[j]? = some x → s.g.C r (o + j) ∧ cellAt s.w r (o + j) = some (vals j)) →
   (∀ (j : Nat) x, cs[j]? = some x → Jp s.w s.g.C x (vals j)) → Ji s (.cp cs off) (.pointer (some ⟨r, o + off, none⟩))
 | slr (b i n v wm esz rows) : (∃ a cap, v = .slice a n cap ∧ (n = 0 ∨ a ≠ none)) → s.σ[b]? = some (.arr wm esz rows) → i + n ≤ rows.length → (i + n = rows.length → Jtm s b esz i n v) → Ji s (.slr b i n) v
 | ep (b ext i off v wm esz rows) : (∃ r o, v = .pointer (some ⟨r, o, none⟩)) → s.σ[b]? = some (.arr wm esz rows) → ext ≤ rows.length →
   (ext = rows.length → i < ext → ∃ r, s.g.μ b = some (r, 0) ∧ v = .pointer (some ⟨r, i * esz + off, none⟩)) → Ji s (.ep b ext i off) v
 | fn (f : FuncId) (first caps : List AV) (fs cs : Array Value) : first.length = fs.size → caps.length = cs.size →
   (∀ (i : Nat) x v, first[i]? = some x → fs[i]? = some v → Ji s x v) → (∀ (i : Nat) x v, caps[i]? = some x → cs[i]? = some v → Ji s x v) →
   Ji s (.fn f first caps) (.func (.func f) fs cs)
 | unk (x : Bool) : Ji s .unk (.bool x)
def Wr1 (s : Sn) (b r o : Nat) : Prop :=
 match s.σ[b]? with
 | some (.box cs) => ∃ o0, s.g.μ b = some (r, o0) ∧ o0 ≤ o ∧ o < o0 + cs.length
 | some (.arr true _ _) => ∃ o0, s.g.μ b = some (r, o0)
 | some (.arr false esz rows) => ∃ o0, s.g.μ b = some (r, o0) ∧ rows.length * esz ≤ o
 | _ => False
def Wr (s : Sn) (r o : Nat) : Prop := ∃ b, Wr1 s b r o
def Free (fz : Nat × Nat) (a b : Nat) : Prop := ∀ o, a ≤ o → o < b → ¬ (fz.1 ≤ o ∧ o < fz.2)
def J9g (esz : Nat) (fz : Nat × Nat) (n : Nat) : Prop := Free fz 0 n ∧ (esz ≠ 1 → ¬ (fz.1 ≤ n ∧ n < fz.2))
theorem J9g.zero (esz n : Nat) : J9g esz (0, 0) n := ⟨fun _ _ _ h => by simp at h, fun _ h => by simp at h⟩
def Jhn (s : Sn) (b : Nat) (cs : List AV) : Prop :=
 ∃ r o c e fz, s.g.μ b = some (r, o) ∧ s.w.heap[r]? = some (.cells c e fz) ∧ o + cs.length ≤ c.size ∧
  (∀ (i : Nat) x, cs[i]? = some x → ∃ v, c[o + i]? = some v ∧ Ji s x v ∧ v.oneCell' = true) ∧ Free fz o (o + cs.length)
def Jhk (s : Sn) (b : Nat) (wm : Bool) (esz : Nat) (rows : List (List PV)) : Prop :=
 (s.g.μ b = none ∧ rows = []) ∨
 ∃ r c e fz, s.g.μ b = some (r, 0) ∧ s.w.heap[r]? = some (.cells c e fz) ∧ (∀ row ∈ rows, row.length = esz) ∧ rows.length * esz ≤ c.size ∧
  (∀ (i j : Nat) row x, rows[i]? = some row → row[j]? = some x → (∃ v, c[i * esz + j]? = some v ∧ Jp s.w s.g.C x v) ∧ (wm = false → s.g.C r (i * esz + j))) ∧
  J9g esz fz c.size
structure Inv (s : Sn) : Prop where
 box : ∀ b cs, s.σ[b]? = some (.box cs) → Jhn s b cs
 arr : ∀ b wm esz rows, s.σ[b]? = some (.arr wm esz rows) → Jhk s b wm esz rows
 apart : ∀ b1 b2 r o, Wr1 s b1 r o → Wr1 s b2 r o → b1 = b2
 const : ∀ r o, s.g.C r o → r < s.w.heap.size ∧ ∀ b, ¬ Wr1 s b r o
def J8m (W : Nat → Nat → Prop) (w0 w : World) : Prop :=
 w0.heap.size ≤ w.heap.size ∧
 (∀ (r : Nat) c e fz, w0.heap[r]? = some (.cells c e fz) → ∃ c', w.heap[r]? = some (.cells c' e fz) ∧ c'.size = c.size ∧ ∀ o, ¬ W r o → c'[o]? = c[o]?) ∧
 (∀ (r : Nat) x, w0.heap[r]? = some x → (∀ c e fz, x ≠ .cells c e fz) → w.heap[r]? = some x) ∧ w.os = w0.os ∧ w.output = w0.output
structure Ju (s0 s : Sn) : Prop where
 keep : J8m (Wr s0) s0.w s.w
 cmono : ∀ r o, s0.g.C r o → s.g.C r o
 cnew : ∀ r o, s.g.C r o → s0.g.C r o ∨ Wr s0 r o ∨ s0.w.heap.size ≤ r
 wnew : ∀ r o, Wr s r o → Wr s0 r o ∨ s0.w.heap.size ≤ r
 len : s0.σ.length ≤ s.σ.length
 box : ∀ b cs, s0.σ[b]? = some (.box cs) → (∃ cs', s.σ[b]? = some (.box cs') ∧ cs'.length = cs.length) ∧ s.g.μ b = s0.g.μ b
 arr : ∀ b wm esz rows, s0.σ[b]? = some (.arr wm esz rows) → ∃ wm' rows', s.σ[b]? = some (.arr wm' esz rows') ∧ (wm' = true → wm = true) ∧
  rows.length ≤ rows'.length ∧ (rows'.length = rows.length → s.g.μ b = s0.g.μ b)
theorem J8m.refl (W w) : J8m W w w := ⟨Nat.le_refl _, fun _ c _ _ h => ⟨c, h, rfl, fun _ _ => rfl⟩, fun _ _ h _ => h, rfl, rfl⟩
theorem J8m.mono {W W' : Nat → Nat → Prop} {w0 w} (h : J8m W w0 w) (hw : ∀ r o, W r o → W' r o) : J8m W' w0 w :=
 ⟨h.1, fun r c e fz hr => let ⟨c', a, b, d⟩ := h.2.1 r c e fz hr; ⟨c', a, b, fun o ho => d o fun x => ho (hw _ _ x)⟩, h.2.2⟩
theorem J8m.cell {W w0 w} (h : J8m W w0 w) {r o v} (hn : ¬ W r o) (hv : cellAt w0 r o = some v) : cellAt w r o = some v := by
 unfold cellAt at hv
 split at hv
 ·rename_i c e fz hr
  obtain ⟨c', h1, _, h3⟩ := h.2.1 r c e fz hr
  rw [J1h h1, h3 o hn, hv]
 ·cases hv
theorem Ju.refl (s : Sn) : Ju s s :=
 ⟨.refl _ _, fun _ _ h => h, fun _ _ h => .inl h, fun _ _ h => .inl h, Nat.le_refl _, fun _ cs h => ⟨⟨cs, h, rfl⟩, rfl⟩,
  fun _ wm _ rows h => ⟨wm, rows, h, id, Nat.le_refl _, fun _ => rfl⟩⟩
theorem J0h {w : World} {r : Nat} {x : Obj} (h : w.heap[r]? = some x) : r < w.heap.size := by
 rcases Nat.lt_or_ge r w.heap.size with hl | hl
 ·exact hl
 ·simp [Array.getElem?_eq_none hl] at h
theorem Ju.trans {s0 s1 s2 : Sn} (h : Ju s0 s1) (h' : Ju s1 s2) : Ju s0 s2 where
 keep := by
  refine ⟨Nat.le_trans h.keep.1 h'.keep.1, fun r c e fz hr => ?_, fun r x hr hx => h'.keep.2.2.1 r x (h.keep.2.2.1 r x hr hx) hx, h'.keep.2.2.2.1.trans h.keep.2.2.2.1, h'.keep.2.2.2.2.trans h.keep.2.2.2.2⟩
  obtain ⟨c1, a1, b1, d1⟩ := h.keep.2.1 r c e fz hr
  obtain ⟨c2, a2, b2, d2⟩ := h'.keep.2.1 r c1 e fz a1
  refine ⟨c2, a2, b2.trans b1, fun o ho => (d2 o fun hw => ?_).trans (d1 o ho)⟩
  rcases h.wnew r o hw with hw | hw
  ·exact ho hw
  ·have := J0h hr; omega
 cmono r o hc := h'.cmono r o (h.cmono r o hc)
 cnew r o hc := by
  rcases h'.cnew r o hc with hc | hw | hn
  ·exact h.cnew r o hc
  ·rcases h.wnew r o hw with hw | hn
   ·exact .inr (.inl hw)
   ·exact .inr (.inr hn)
  ·exact .inr (.inr (Nat.le_trans h.keep.1 hn))
 wnew r o hw := by
  rcases h'.wnew r o hw with hw | hn
  ·exact h.wnew r o hw
  ·exact .inr (Nat.le_trans h.keep.1 hn)
 len := Nat.le_trans h.len h'.len
 box b cs hb := by
  obtain ⟨⟨c1, a1, l1⟩, m1⟩ := h.box b cs hb
  obtain ⟨⟨c2, a2, l2⟩, m2⟩ := h'.box b c1 a1
  exact ⟨⟨c2, a2, l2.trans l1⟩, m2.trans m1⟩
 arr b wm esz rows hb := by
  obtain ⟨wm1, r1, a1, b1, c1, d1⟩ := h.arr b wm esz rows hb
  obtain ⟨wm2, r2, a2, b2, c2, d2⟩ := h'.arr b wm1 esz r1 a1
  exact ⟨wm2, r2, a2, fun e => b1 (b2 e), Nat.le_trans c1 c2, fun e => (d2 (by omega)).trans (d1 (by omega))⟩
theorem Inv.cfix {s0 s : Sn} (hi : Inv s0) (t : Ju s0 s) {r o v} (hc : s0.g.C r o) (hv : cellAt s0.w r o = some v) : cellAt s.w r o = some v :=
 t.keep.cell (fun ⟨b, hb⟩ => (hi.const r o hc).2 b hb) hv
theorem Jp.mono {s0 s : Sn} (hi : Inv s0) (t : Ju s0 s) {x v} (h : Jp s0.w s0.g.C x v) : Jp s.w s.g.C x v := by
 induction h with
 | b x => exact .b x
 | i k n => exact .i k n
 | s l => exact .s l
 | np => exact .np
 | nf => exact .nf
 | sl0 esz a cap => exact .sl0 esz a cap
 | sl esz rows r o cap vals h1 h2 h3 _ ih =>
  exact .sl esz rows r o cap vals h1 h2 (fun i j row x hr hx => ⟨t.cmono _ _ (h3 i j row x hr hx).1, hi.cfix t (h3 i j row x hr hx).1 (h3 i j row x hr hx).2⟩) ih
 | slc esz rows a _ ih => exact .slc esz rows a ih
theorem Jhd.mono {s0 s : Sn} (t : Ju s0 s) {b} (h : Jhd s0.σ b) : Jhd s.σ b := by
 obtain ⟨cs, h⟩ := h
 obtain ⟨⟨cs', h', _⟩, _⟩ := t.box b cs h
 exact ⟨cs', h'⟩
theorem Ji.mono {s0 s : Sn} (hi : Inv s0) (t : Ju s0 s) {x v} (h : Ji s0 x v) : Ji s x v := by
 induction h with
 | p c v h => exact .p c v (h.mono hi t)
 | data cs vs h1 h2 => exact .data cs vs h1 fun i x v hx hv => (h2 i x v hx hv).mono hi t
 | agg cs vs h1 h2 _ ih => exact .agg cs vs h1 h2 ih
 | tup cs vs h1 _ ih => exact .tup cs vs h1 ih
 | ptr b off r o h1 h2 =>
  obtain ⟨cs, h3⟩ := h2
  exact .ptr b off r o ((t.box b cs h3).2.trans h1) (.mono t ⟨cs, h3⟩)
 | cp cs off r o vals h1 h2 => exact .cp cs off r o vals (fun j x hx => ⟨t.cmono _ _ (h1 j x hx).1, hi.cfix t (h1 j x hx).1 (h1 j x hx).2⟩) fun j x hx => (h2 j x hx).mono hi t
 | slr b i n v wm esz rows h0 h1 h2 h3 =>
  obtain ⟨wm', rows', a, _, c, d⟩ := t.arr b wm esz rows h1
  refine .slr b i n v wm' esz rows' h0 a (Nat.le_trans h2 c) fun e => ?_
  have e0 : rows'.length = rows.length := by omega
  rcases h3 (by omega) with ⟨m, hi0, hn, hv⟩ | ⟨r, cap, ce, e1, fz, m, hv, hcap, hh, hs⟩
  ·exact .inl ⟨(d e0).trans m, hi0, hn, hv⟩
  ·obtain ⟨c', k1, k2, _⟩ := t.keep.2.1 r ce e1 fz hh
   exact .inr ⟨r, cap, c', e1, fz, (d e0).trans m, hv, hcap, k1, by omega⟩
 | ep b ext i off v wm esz rows h0 h1 h2 h3 =>
  obtain ⟨wm', rows', a, _, c, d⟩ := t.arr b wm esz rows h1
  refine .ep b ext i off v wm' esz rows' h0 a (Nat.le_trans h2 c) fun e hlt => ?_
  have e0 : rows'.length = rows.length := by omega
  obtain ⟨r, m, hv⟩ := h3 (by omega) hlt
  exact ⟨r, (d e0).trans m, hv⟩
 | fn f first caps fs cs h1 h2 _ _ ih1 ih2 => exact .fn f first caps fs cs h1 h2 ih1 ih2
 | unk x => exact .unk x
theorem J4v {s0 s : Sn} (hi : Inv s0) (t : Ju s0 s) (D : Nat → Prop)
  (same : ∀ b, ¬ D b → s.σ[b]? = s0.σ[b]? ∧ s.g.μ b = s0.g.μ b)
  (keepU : ∀ b r o v, ¬ D b → Wr1 s0 b r o → cellAt s0.w r o = some v → cellAt s.w r o = some v)
  (boxD : ∀ b cs, D b → s.σ[b]? = some (.box cs) → Jhn s b cs)
  (arrD : ∀ b wm esz rows, D b → s.σ[b]? = some (.arr wm esz rows) → Jhk s b wm esz rows)
  (apartD : ∀ b1 b2 r o, D b1 → Wr1 s b1 r o → Wr1 s b2 r o → b1 = b2)
  (constL : ∀ r o, s.g.C r o → r < s.w.heap.size)
  (constD : ∀ r o b, s.g.C r o → D b → ¬ Wr1 s b r o)
  (constU : ∀ r o b, s.g.C r o → ¬ s0.g.C r o → ¬ D b → ¬ Wr1 s0 b r o) : Inv s := by
 have wr : ∀ b r o, ¬ D b → (Wr1 s b r o ↔ Wr1 s0 b r o) := by
  intro b r o hd
  obtain ⟨h1, h2⟩ := same b hd
  unfold Wr1
  rw [h1, h2]
 have cells : ∀ (r : Nat) c e fz, s0.w.heap[r]? = some (.cells c e fz) → ∃ c', s.w.heap[r]? = some (.cells c' e fz) ∧ c'.size = c.size ∧ ∀ o v, cellAt s.w r o = some v → c'[o]? = some v := by
  intro r c e fz hr
  obtain ⟨c', h1, h2, _⟩ := t.keep.2.1 r c e fz hr
  exact ⟨c', h1, h2, fun o v h => by rw [← h, J1h h1]⟩
 refine ⟨?_, ?_, ?_, ?_⟩
 ·intro b cs hb
  by_cases hd : D b
  ·exact boxD b cs hd hb
  ·obtain ⟨h1, h2⟩ := same b hd
   obtain ⟨r, o, c, e, fz, m, hh, hl, hx, hf⟩ := hi.box b cs (h1 ▸ hb)
   obtain ⟨c', k1, k2, k3⟩ := cells r c e fz hh
   refine ⟨r, o, c', e, fz, h2.trans m, k1, by omega, fun i x hix => ?_, hf⟩
   obtain ⟨v, hv, hr, h1v⟩ := hx i x hix
   refine ⟨v, k3 _ _ (keepU b r (o + i) v hd ?_ (by rw [J1h hh]; exact hv)), hr.mono hi t, h1v⟩
   have : i < cs.length := by
    rcases Nat.lt_or_ge i cs.length with h | h
    ·exact h
    ·simp [List.getElem?_eq_none h] at hix
   have hb0 : s0.σ[b]? = some (.box cs) := h1 ▸ hb
   unfold Wr1
   rw [hb0]
   exact ⟨o, m, by omega, by omega⟩
 ·intro b wm esz rows hb
  by_cases hd : D b
  ·exact arrD b wm esz rows hd hb
  ·obtain ⟨h1, h2⟩ := same b hd
   rcases hi.arr b wm esz rows (h1 ▸ hb) with ⟨m, hr⟩ | ⟨r, c, e, fz, m, hh, hrow, hl, hx, hf⟩
   ·exact .inl ⟨h2.trans m, hr⟩
   ·obtain ⟨c', k1, k2, k3⟩ := cells r c e fz hh
    refine .inr ⟨r, c', e, fz, h2.trans m, k1, hrow, by omega, fun i j row x hir hjx => ?_, k2 ▸ hf⟩
    obtain ⟨⟨v, hv, hr⟩, hc⟩ := hx i j row x hir hjx
    refine ⟨⟨v, k3 _ _ ?_, hr.mono hi t⟩, fun e => t.cmono _ _ (hc e)⟩
    cases wm with
    | true =>
     refine keepU b r _ v hd ?_ (by rw [J1h hh]; exact hv)
     have hb0 : s0.σ[b]? = some (.arr true esz rows) := h1 ▸ hb
     unfold Wr1
     rw [hb0]
     exact ⟨0, m⟩
    | false => exact hi.cfix t (hc rfl) (by rw [J1h hh]; exact hv)
 ·intro b1 b2 r o h1 h2
  by_cases hd1 : D b1
  ·exact apartD b1 b2 r o hd1 h1 h2
  ·by_cases hd2 : D b2
   ·exact (apartD b2 b1 r o hd2 h2 h1).symm
   ·exact hi.apart b1 b2 r o ((wr b1 r o hd1).1 h1) ((wr b2 r o hd2).1 h2)
 ·intro r o hc
  refine ⟨constL r o hc, fun b hb => ?_⟩
  by_cases hd : D b
  ·exact constD r o b hc hd hb
  ·by_cases h0 : s0.g.C r o
   ·exact (hi.const r o h0).2 b ((wr b r o hd).1 hb)
   ·exact constU r o b hc h0 hd ((wr b r o hd).1 hb)
end Go.Am
end
section
namespace Go.Am
theorem J04 {σ : List Blk} {b : Nat} {x y : Blk} (h : σ[b]? = some x) : (σ.set b y)[b]? = some y := by
 have : b < σ.length := by
  rcases Nat.lt_or_ge b σ.length with h' | h'
  ·exact h'
  ·simp [List.getElem?_eq_none h'] at h
 simp [this]
theorem JJ {σ : List Blk} {b c : Nat} {y : Blk} (h : b ≠ c) : (σ.set b y)[c]? = σ[c]? := by
 simp [h]
theorem Jbo {s0 : Sn} (hi : Inv s0) {w' : World} (hh : w'.heap = s0.w.heap) (ho : w'.os = s0.w.os) (hp : w'.output = s0.w.output) :
  Inv ⟨s0.σ, s0.g, w'⟩ ∧ Ju s0 ⟨s0.σ, s0.g, w'⟩ := by
 have hc : ∀ r o, cellAt w' r o = cellAt s0.w r o := fun r o => by unfold cellAt; rw [hh]
 have t : Ju s0 ⟨s0.σ, s0.g, w'⟩ := by
  refine ⟨⟨by rw [hh]; exact Nat.le_refl _, fun r c e fz h => ⟨c, by rw [hh]; exact h, rfl, fun _ _ => rfl⟩, fun r x h _ => by rw [hh]; exact h, ho, hp⟩, fun _ _ h => h, fun _ _ h => .inl h, fun r o ⟨b, hb⟩ => .inl ⟨b, hb⟩, Nat.le_refl _, fun _ cs h => ⟨⟨cs, h, rfl⟩, rfl⟩,
   fun _ wm _ rows h => ⟨wm, rows, h, id, Nat.le_refl _, fun _ => rfl⟩⟩
 exact ⟨J4v hi t (fun _ => False) (fun _ _ => ⟨rfl, rfl⟩) (fun _ r o v _ _ h => by rw [hc]; exact h) (fun _ _ h => h.elim) (fun _ _ _ _ h => h.elim)
  (fun _ _ _ _ h => h.elim) (fun r o h => by show r < w'.heap.size; rw [hh]; exact (hi.const r o h).1) (fun _ _ _ _ h => h.elim) (fun _ _ _ h h' => (h' h).elim), t⟩
theorem J96 {W : Nat → Nat → Prop} {w w' : World} {x : Obj} (hh : w'.heap = w.heap.push x) (ho : w'.os = w.os) (hp : w'.output = w.output) : J8m W w w' := by
 have hr : ∀ (r : Nat) y, w.heap[r]? = some y → w'.heap[r]? = some y := by
  intro r y h
  have := J0h h
  rw [hh, Array.getElem?_push]
  split
  ·omega
  ·exact h
 exact ⟨by rw [hh]; simp, fun r c e fz h => ⟨c, hr r _ h, rfl, fun _ _ => rfl⟩, fun r y h _ => hr r y h, ho, hp⟩
theorem J6B {w w' : World} {x : Obj} (hh : w'.heap = w.heap.push x) : w'.heap[w.heap.size]? = some x := by
 rw [hh]; simp
theorem JbO {w w' : World} {x : Obj} (hh : w'.heap = w.heap.push x) {r o v} (h : cellAt w r o = some v) : cellAt w' r o = some v :=
 (J96 (W := fun _ _ => False) (w := w) (w' := { w' with os := w.os, output := w.output }) hh rfl rfl).cell (fun h => h) h
def J39 (g : Gh) (new : Nat) (x : Option (Nat × Nat)) : Gh := ⟨fun b => if b = new then x else g.μ b, g.C⟩
theorem Jgt {s0 s : Sn} {new : Nat} {blk : Blk} (hd : s0.σ[new]? = some .dead) (hs : s.σ = s0.σ.set new blk) (x : Option (Nat × Nat)) (hg : s.g.μ = (J39 s0.g new x).μ) :
  s0.σ.length ≤ s.σ.length ∧ (∀ b cs, s0.σ[b]? = some (.box cs) → (∃ cs', s.σ[b]? = some (.box cs') ∧ cs'.length = cs.length) ∧ s.g.μ b = s0.g.μ b) ∧
  (∀ b wm esz rows, s0.σ[b]? = some (.arr wm esz rows) → ∃ wm' rows', s.σ[b]? = some (.arr wm' esz rows') ∧ (wm' = true → wm = true) ∧
  rows.length ≤ rows'.length ∧ (rows'.length = rows.length → s.g.μ b = s0.g.μ b)) := by
 have hn : ∀ b y, s0.σ[b]? = some y → y ≠ .dead → s.σ[b]? = some y ∧ s.g.μ b = s0.g.μ b := by
  intro b y hb hy
  have hne : new ≠ b := by rintro rfl; rw [hd] at hb; exact hy (by injection hb with h; exact h.symm)
  rw [hs, JJ hne, hg]
  exact ⟨hb, if_neg (fun e => hne e.symm)⟩
 refine ⟨by rw [hs]; simp, fun b cs h => ?_, fun b wm esz rows h => ?_⟩
 ·obtain ⟨a, m⟩ := hn b _ h (by simp)
  exact ⟨⟨cs, a, rfl⟩, m⟩
 ·obtain ⟨a, m⟩ := hn b _ h (by simp)
  exact ⟨wm, rows, a, id, Nat.le_refl _, fun _ => m⟩
def JsP (s0 : Sn) (c : Array Value) : Blk → Prop
 | .box cs => cs.length ≤ c.size ∧ ∀ (i : Nat) x, cs[i]? = some x → ∃ v, c[i]? = some v ∧ Ji s0 x v ∧ v.oneCell' = true
 | .arr true esz rows => (∀ row ∈ rows, row.length = esz) ∧ rows.length * esz ≤ c.size ∧
  ∀ (i j : Nat) row x, rows[i]? = some row → row[j]? = some x → ∃ v, c[i * esz + j]? = some v ∧ Jp s0.w s0.g.C x v
 | _ => False
theorem JbX {s0 : Sn} (hi : Inv s0) {new : Nat} (hd : s0.σ[new]? = some .dead) {blk : Blk} {c : Array Value} {e : TypeId} {fz : Nat × Nat} {w' : World}
  (hh : w'.heap = s0.w.heap.push (.cells c e fz)) (ho : w'.os = s0.w.os) (hp : w'.output = s0.w.output) (hf : Free fz 0 c.size) (hf2 : ∀ wm esz rows, blk = .arr wm esz rows → esz ≠ 1 → ¬ (fz.1 ≤ c.size ∧ c.size < fz.2)) (hb : JsP s0 c blk) :
  Inv ⟨s0.σ.set new blk, J39 s0.g new (some (s0.w.heap.size, 0)), w'⟩ ∧ Ju s0 ⟨s0.σ.set new blk, J39 s0.g new (some (s0.w.heap.size, 0)), w'⟩ := by
 have hself : (s0.σ.set new blk)[new]? = some blk := J04 hd
 have wr : ∀ b r o, b ≠ new → (Wr1 ⟨s0.σ.set new blk, J39 s0.g new (some (s0.w.heap.size, 0)), w'⟩ b r o ↔ Wr1 s0 b r o) := by
  intro b r o hne
  unfold Wr1
  simp only [J39, if_neg hne, JJ (Ne.symm hne)]
 have wrn : ∀ r o, Wr1 ⟨s0.σ.set new blk, J39 s0.g new (some (s0.w.heap.size, 0)), w'⟩ new r o → r = s0.w.heap.size := by
  intro r o h
  unfold Wr1 at h
  simp only [hself, J39] at h
  split at h
  ·obtain ⟨o0, m, _⟩ := h; simp at m; exact m.1.symm
  ·obtain ⟨o0, m⟩ := h; simp at m; exact m.1.symm
  ·obtain ⟨o0, m, _⟩ := h; simp at m; exact m.1.symm
  ·exact h.elim
 have wlt : ∀ b r o, Wr1 s0 b r o → r < s0.w.heap.size := by
  intro b r o h
  unfold Wr1 at h
  split at h
  ·rename_i cs hb
   obtain ⟨r', o', c', e', fz', m, k, _⟩ := hi.box b cs hb
   obtain ⟨o0, m', _⟩ := h
   rw [m] at m'; injection m' with m'; injection m' with m1 _
   exact m1 ▸ J0h k
  ·rename_i hb
   obtain ⟨o0, m'⟩ := h
   rcases hi.arr b _ _ _ hb with ⟨m, _⟩ | ⟨r', c', e', fz', m, k, _⟩
   ·rw [m] at m'; cases m'
   ·rw [m] at m'; injection m' with m'; injection m' with m1 _
    exact m1 ▸ J0h k
  ·rename_i hb
   obtain ⟨o0, m', _⟩ := h
   rcases hi.arr b _ _ _ hb with ⟨m, _⟩ | ⟨r', c', e', fz', m, k, _⟩
   ·rw [m] at m'; cases m'
   ·rw [m] at m'; injection m' with m'; injection m' with m1 _
    exact m1 ▸ J0h k
  ·exact h.elim
 have t : Ju s0 ⟨s0.σ.set new blk, J39 s0.g new (some (s0.w.heap.size, 0)), w'⟩ := by
  obtain ⟨k1, k2, k3⟩ := Jgt (s := ⟨s0.σ.set new blk, J39 s0.g new (some (s0.w.heap.size, 0)), w'⟩) hd rfl (some (s0.w.heap.size, 0)) rfl
  refine ⟨J96 hh ho hp, fun _ _ h => h, fun _ _ h => .inl h, ?_, k1, k2, k3⟩
  rintro r o ⟨b, hb⟩
  by_cases e : b = new
  ·subst e; exact .inr (Nat.le_of_eq (wrn r o hb).symm)
  ·exact .inl ⟨b, (wr b r o e).1 hb⟩
 refine ⟨J4v hi t (fun b => b = new) (fun b hne => ⟨JJ (Ne.symm hne), if_neg hne⟩) (fun b r o v _ _ h => JbO hh h) ?_ ?_ ?_ ?_ ?_ ?_, t⟩
 ·rintro b cs rfl hb'
  rw [hself] at hb'; injection hb' with hb'; subst hb'
  obtain ⟨h1, h2⟩ := hb
  refine ⟨s0.w.heap.size, 0, c, e, fz, if_pos rfl, J6B hh, by omega, fun i x hx => ?_, fun o _ hl => hf o (Nat.zero_le _) (by omega)⟩
  obtain ⟨v, hv, hr, h1v⟩ := h2 i x hx
  exact ⟨v, by rw [Nat.zero_add]; exact hv, hr.mono hi t, h1v⟩
 ·rintro b wm esz rows rfl hb'
  rw [hself] at hb'; injection hb' with hb'; subst hb'
  cases wm with
  | false => exact hb.elim
  | true =>
   obtain ⟨h1, h2, h3⟩ := hb
   refine .inr ⟨s0.w.heap.size, c, e, fz, if_pos rfl, J6B hh, h1, h2, fun i j row x hr hx => ⟨?_, fun h => by cases h⟩, hf, hf2 _ _ _ rfl⟩
   obtain ⟨v, hv, hr⟩ := h3 i j row x hr hx
   exact ⟨v, hv, hr.mono hi t⟩
 ·rintro b1 b2 r o rfl h1 h2
  by_cases e : b2 = b1
  ·exact e.symm
  ·have := wlt _ _ _ ((wr b2 r o e).1 h2)
   have := wrn r o h1
   omega
 ·intro r o hc
  show r < w'.heap.size
  rw [hh]; have := (hi.const r o hc).1; simp; omega
 ·rintro r o b hc rfl h
  have := (hi.const r o hc).1
  have := wrn r o h
  omega
 ·exact fun r o b hc hn => (hn hc).elim
theorem J7X {s0 : Sn} (hi : Inv s0) : ∀ b r o, Wr1 s0 b r o → r < s0.w.heap.size := by
 intro b r o h
 unfold Wr1 at h
 split at h
 ·rename_i cs hb
  obtain ⟨r', o', c', e', fz', m, k, _⟩ := hi.box b cs hb
  obtain ⟨o0, m', _⟩ := h
  rw [m] at m'; injection m' with m'; injection m' with m1 _
  exact m1 ▸ J0h k
 ·rename_i hb
  obtain ⟨o0, m'⟩ := h
  rcases hi.arr b _ _ _ hb with ⟨m, _⟩ | ⟨r', c', e', fz', m, k, _⟩
  ·rw [m] at m'; cases m'
  ·rw [m] at m'; injection m' with m'; injection m' with m1 _
   exact m1 ▸ J0h k
 ·rename_i hb
  obtain ⟨o0, m', _⟩ := h
  rcases hi.arr b _ _ _ hb with ⟨m, _⟩ | ⟨r', c', e', fz', m, k, _⟩
  ·rw [m] at m'; cases m'
  ·rw [m] at m'; injection m' with m'; injection m' with m1 _
   exact m1 ▸ J0h k
 ·exact h.elim
theorem JbR {s0 : Sn} (hi : Inv s0) {new : Nat} (hd : s0.σ[new]? = some .dead) (esz : Nat) :
  Inv ⟨s0.σ.set new (.arr true esz []), J39 s0.g new none, s0.w⟩ ∧ Ju s0 ⟨s0.σ.set new (.arr true esz []), J39 s0.g new none, s0.w⟩ := by
 have hself : (s0.σ.set new (Blk.arr true esz []))[new]? = some (.arr true esz []) := J04 hd
 have wr : ∀ b r o, b ≠ new → (Wr1 ⟨s0.σ.set new (.arr true esz []), J39 s0.g new none, s0.w⟩ b r o ↔ Wr1 s0 b r o) := by
  intro b r o hne
  unfold Wr1
  simp only [J39, if_neg hne, JJ (Ne.symm hne)]
 have wrn : ∀ r o, ¬ Wr1 ⟨s0.σ.set new (.arr true esz []), J39 s0.g new none, s0.w⟩ new r o := by
  intro r o h
  unfold Wr1 at h
  simp only [hself, J39] at h
  simp at h
 have t : Ju s0 ⟨s0.σ.set new (.arr true esz []), J39 s0.g new none, s0.w⟩ := by
  obtain ⟨k1, k2, k3⟩ := Jgt (s := ⟨s0.σ.set new (.arr true esz []), J39 s0.g new none, s0.w⟩) hd rfl none rfl
  refine ⟨.refl _ _, fun _ _ h => h, fun _ _ h => .inl h, ?_, k1, k2, k3⟩
  rintro r o ⟨b, hb⟩
  by_cases e : b = new
  ·subst e; exact (wrn r o hb).elim
  ·exact .inl ⟨b, (wr b r o e).1 hb⟩
 refine ⟨J4v hi t (fun b => b = new) (fun b hne => ⟨JJ (Ne.symm hne), if_neg hne⟩) (fun b r o v _ _ h => h) ?_ ?_ ?_ ?_ ?_ ?_, t⟩
 ·rintro b cs rfl hb'
  rw [hself] at hb'; cases hb'
 ·rintro b wm esz' rows rfl hb'
  rw [hself] at hb'; cases hb'
  exact .inl ⟨if_pos rfl, rfl⟩
 ·rintro b1 b2 r o rfl h1 h2
  exact (wrn r o h1).elim
 ·exact fun r o hc => (hi.const r o hc).1
 ·rintro r o b hc rfl h
  exact wrn r o h
 ·exact fun r o b hc hn => (hn hc).elim
def J6g (g : Gh) (p : Nat → Nat → Prop) : Gh := ⟨g.μ, fun r o => g.C r o ∨ p r o⟩
theorem JmN {s0 : Sn} (hi : Inv s0) {x : Obj} {w' : World}
  (hh : w'.heap = s0.w.heap.push x) (ho : w'.os = s0.w.os) (hp : w'.output = s0.w.output) :
  Inv ⟨s0.σ, J6g s0.g fun r _ => r = s0.w.heap.size, w'⟩ ∧ Ju s0 ⟨s0.σ, J6g s0.g fun r _ => r = s0.w.heap.size, w'⟩ := by
 have t : Ju s0 ⟨s0.σ, J6g s0.g fun r _ => r = s0.w.heap.size, w'⟩ := by
  refine ⟨J96 hh ho hp, fun _ _ h => .inl h, fun r o h => ?_, fun r o h => .inl h, Nat.le_refl _, fun _ cs h => ⟨⟨cs, h, rfl⟩, rfl⟩,
   fun _ wm _ rows h => ⟨wm, rows, h, id, Nat.le_refl _, fun _ => rfl⟩⟩
  rcases h with h | h
  ·exact .inl h
  ·exact .inr (.inr (Nat.le_of_eq h.symm))
 refine ⟨J4v hi t (fun _ => False) (fun _ _ => ⟨rfl, rfl⟩) (fun b r o v _ _ h => JbO hh h) (fun _ _ h => h.elim) (fun _ _ _ _ h => h.elim)
  (fun _ _ _ _ h => h.elim) ?_ (fun _ _ _ _ h => h.elim) ?_, t⟩
 ·intro r o hc
  show r < w'.heap.size
  rw [hh]
  rcases hc with hc | hc
  ·have := (hi.const r o hc).1; simp; omega
  ·simp; omega
 ·intro r o b hc hn _ h
  rcases hc with hc | hc
  ·exact hn hc
  ·have := J7X hi b r o h; omega
structure Put (r : Nat) (o : Nat) (vs : List Value) (w w' : World) : Prop where
 there : ∃ c e fz c', w.heap[r]? = some (.cells c e fz) ∧ w'.heap[r]? = some (.cells c' e fz) ∧ c'.size = c.size ∧ o + vs.length ≤ c.size ∧
  (∀ (j : Nat) v, vs[j]? = some v → c'[o + j]? = some v) ∧ ∀ k, (k < o ∨ o + vs.length ≤ k) → c'[k]? = c[k]?
 rest : ∀ r' : Nat, r' ≠ r → w'.heap[r']? = w.heap[r']?
 size : w'.heap.size = w.heap.size
 os : w'.os = w.os
 output : w'.output = w.output
theorem Put.keep {W : Nat → Nat → Prop} {r o vs w w'} (h : Put r o vs w w') (hw : ∀ k, o ≤ k → k < o + vs.length → W r k) : J8m W w w' := by
 obtain ⟨c, e, fz, c', h1, h2, h3, _, _, h5⟩ := h.there
 refine ⟨Nat.le_of_eq h.size.symm, fun r' c1 e1 fz1 hr => ?_, fun r' x hr hx => ?_, h.os, h.output⟩
 ·by_cases e' : r' = r
  ·subst e'
   rw [h1] at hr; injection hr with hr; injection hr with a1 a2 a3
   subst a1 a2 a3
   refine ⟨c', h2, h3, fun k hk => h5 k ?_⟩
   rcases Nat.lt_or_ge k o with h | h
   ·exact .inl h
   ·rcases Nat.lt_or_ge k (o + vs.length) with h' | h'
    ·exact (hk (hw k h h')).elim
    ·exact .inr h'
  ·exact ⟨c1, by rw [h.rest r' e']; exact hr, rfl, fun _ _ => rfl⟩
 ·by_cases e' : r' = r
  ·subst e'; rw [h1] at hr; injection hr with hr; exact (hx _ _ _ hr.symm).elim
  ·rw [h.rest r' e']; exact hr
theorem Put.cell {r o vs w w'} (h : Put r o vs w w') {r' k v} (hv : cellAt w r' k = some v) (hn : r' ≠ r ∨ k < o ∨ o + vs.length ≤ k) : cellAt w' r' k = some v := by
 obtain ⟨c, e, fz, c', h1, h2, h3, _, _, h5⟩ := h.there
 by_cases e' : r' = r
 ·subst e'
  rw [J1h h1] at hv
  rw [J1h h2, h5 k (hn.resolve_left (fun h => h rfl)), hv]
 ·unfold cellAt; rw [h.rest r' e']; exact hv
inductive Jdt : Blk → Blk → Prop where
 | box (cs cs' : List AV) : cs'.length = cs.length → Jdt (.box cs) (.box cs')
 | arr (esz : Nat) (rows rows' : List (List PV)) : rows'.length = rows.length → Jdt (.arr true esz rows) (.arr true esz rows')
theorem JbI {s0 : Sn} (hi : Inv s0) {b : Nat} {old blk : Blk} {r o : Nat} {vs : List Value} {w' : World} (hb : s0.σ[b]? = some old)
  (hput : Put r o vs s0.w w') (hw : ∀ k, o ≤ k → k < o + vs.length → Wr1 s0 b r k)
  (hk : Jdt old blk)
  (hbox : ∀ cs, blk = .box cs → (∀ {x v}, Ji s0 x v → Ji ⟨s0.σ.set b blk, s0.g, w'⟩ x v) → Jhn ⟨s0.σ.set b blk, s0.g, w'⟩ b cs)
  (harr : ∀ esz rows, blk = .arr true esz rows → (∀ {x v}, Jp s0.w s0.g.C x v → Jp w' s0.g.C x v) → Jhk ⟨s0.σ.set b blk, s0.g, w'⟩ b true esz rows) :
  Inv ⟨s0.σ.set b blk, s0.g, w'⟩ ∧ Ju s0 ⟨s0.σ.set b blk, s0.g, w'⟩ := by
 have hself : (s0.σ.set b blk)[b]? = some blk := J04 hb
 have wr : ∀ b' r o, (Wr1 ⟨s0.σ.set b blk, s0.g, w'⟩ b' r o ↔ Wr1 s0 b' r o) := by
  intro b' r o
  by_cases e : b' = b
  ·subst e
   unfold Wr1
   simp only [hself, hb]
   cases hk with
   | box cs cs' hl => simp [hl]
   | arr esz rows rows' hl => simp
  ·unfold Wr1
   simp only [JJ (Ne.symm e)]
 have t : Ju s0 ⟨s0.σ.set b blk, s0.g, w'⟩ := by
  refine ⟨hput.keep fun k h1 h2 => ⟨b, hw k h1 h2⟩, fun _ _ h => h, fun _ _ h => .inl h, fun r o ⟨b', h⟩ => .inl ⟨b', (wr b' r o).1 h⟩, by simp, fun b' cs h => ?_, fun b' wm esz rows h => ?_⟩
  ·by_cases e : b' = b
   ·subst e
    rw [hb] at h; injection h with h; subst h
    cases hk with
    | box _ cs' hl => exact ⟨⟨_, hself, hl⟩, rfl⟩
   ·exact ⟨⟨cs, by rw [← h]; exact JJ (Ne.symm e), rfl⟩, rfl⟩
  ·by_cases e : b' = b
   ·subst e
    rw [hb] at h; injection h with h; subst h
    cases hk with
    | arr _ _ rows' hl => exact ⟨_, _, hself, id, Nat.le_of_eq hl.symm, fun _ => rfl⟩
   ·exact ⟨wm, rows, by rw [← h]; exact JJ (Ne.symm e), id, Nat.le_refl _, fun _ => rfl⟩
 refine ⟨J4v hi t (fun b' => b' = b) (fun b' hne => ⟨JJ (Ne.symm hne), rfl⟩) ?_ ?_ ?_ ?_ ?_ ?_ ?_, t⟩
 ·intro b' r' k v hne hwr hv
  refine hput.cell hv ?_
  rcases Nat.lt_or_ge k o with h | h
  ·exact .inr (.inl h)
  ·rcases Nat.lt_or_ge k (o + vs.length) with h' | h'
   ·refine .inl fun e => hne ?_
    subst e
    exact hi.apart _ _ _ _ hwr (hw k h h')
   ·exact .inr (.inr h')
 ·rintro b' cs rfl h
  rw [hself] at h; injection h with h; subst h
  exact hbox _ rfl fun h => h.mono hi t
 ·rintro b' wm esz rows rfl h
  rw [hself] at h; injection h with h; subst h
  cases hk with
  | arr _ _ rows' hl => exact harr _ _ rfl fun h => h.mono hi t
 ·rintro b1 b2 r o rfl h1 h2
  exact hi.apart _ _ _ _ ((wr _ _ _).1 h1) ((wr _ _ _).1 h2)
 ·intro r o hc
  show r < w'.heap.size
  rw [hput.size]; exact (hi.const r o hc).1
 ·rintro r o b' hc rfl h
  exact (hi.const r o hc).2 _ ((wr _ _ _).1 h)
 ·exact fun r o b hc hn => (hn hc).elim
end Go.Am
end
section
namespace Go.Am
theorem J3s {a b n e : Nat} (h1 : a < n) (h2 : b < e) : a * e + b < n * e := by
 have h : (a + 1) * e ≤ n * e := Nat.mul_le_mul_right e h1
 rw [Nat.succ_mul] at h
 omega
theorem J9 {α : Type} {l : List α} {i : Nat} {x : α} (h : l[i]? = some x) : i < l.length := by
 rcases Nat.lt_or_ge i l.length with h' | h'
 ·exact h'
 ·simp [List.getElem?_eq_none h'] at h
theorem J80 {α : Type} {l : Array α} {i : Nat} {x : α} (h : l[i]? = some x) : i < l.size := by
 rcases Nat.lt_or_ge i l.size with h' | h'
 ·exact h'
 ·simp [Array.getElem?_eq_none h'] at h
theorem JO {α : Type} {l : List α} {i : Nat} {x : α} (h : l[i]? = some x) : x ∈ l := List.mem_of_getElem? h
def Frz (σ τ : List Blk) : Prop :=
 (∀ (b : Nat) wm esz rows, σ[b]? = some (Blk.arr wm esz rows) → ∃ wm', τ[b]? = some (Blk.arr wm' esz rows)) ∧
 (∀ (b : Nat) x, σ[b]? = some x → (∀ wm esz rows, x ≠ Blk.arr wm esz rows) → τ[b]? = some x)
theorem Frz.refl (σ) : Frz σ σ := ⟨fun _ wm _ _ h => ⟨wm, h⟩, fun _ _ h _ => h⟩
theorem Frz.trans {a b c} (h : Frz a b) (h' : Frz b c) : Frz a c :=
 ⟨fun n wm esz rows hn => let ⟨wm', h1⟩ := h.1 n wm esz rows hn; h'.1 n wm' esz rows h1, fun n x hn hx => h'.2 n x (h.2 n x hn hx) hx⟩
theorem JlB {s0 : Sn} (hi : Inv s0) {b : Nat} {wm : Bool} {esz : Nat} {rows : List (List PV)} (hb : s0.σ[b]? = some (.arr wm esz rows)) :
  ∃ g', g'.μ = s0.g.μ ∧ Inv ⟨s0.σ.set b (.arr false esz rows), g', s0.w⟩ ∧ Ju s0 ⟨s0.σ.set b (.arr false esz rows), g', s0.w⟩ ∧
   Frz s0.σ (s0.σ.set b (.arr false esz rows)) := by
 have hself : (s0.σ.set b (.arr false esz rows))[b]? = some (.arr false esz rows) := J04 hb
 have hfrz : Frz s0.σ (s0.σ.set b (.arr false esz rows)) := by
  refine ⟨fun n wm' esz' rows' hn => ?_, fun n x hn hx => ?_⟩
  ·by_cases e : n = b
   ·subst e; rw [hb] at hn; injection hn with hn; injection hn with h1 h2 h3; subst h2 h3; exact ⟨_, hself⟩
   ·exact ⟨wm', by rw [JJ (Ne.symm e)]; exact hn⟩
  ·by_cases e : n = b
   ·subst e; rw [hb] at hn; injection hn with hn; exact (hx _ _ _ hn.symm).elim
   ·rw [JJ (Ne.symm e)]; exact hn
 cases wm with
 | false =>
  have hs : s0.σ.set b (.arr false esz rows) = s0.σ := by
   apply List.ext_getElem?
   intro n
   by_cases e : n = b
   ·subst e; rw [hself, hb]
   ·rw [JJ (Ne.symm e)]
  refine ⟨s0.g, rfl, ?_, ?_, hfrz⟩
  ·rw [hs]; exact hi
  ·rw [hs]; exact Ju.refl s0
 | true =>
  refine ⟨J6g s0.g fun r o => s0.g.μ b = some (r, 0) ∧ o < rows.length * esz, rfl, ?_⟩
  have wr : ∀ b' r o, Wr1 ⟨s0.σ.set b (.arr false esz rows), J6g s0.g fun r o => s0.g.μ b = some (r, 0) ∧ o < rows.length * esz, s0.w⟩ b' r o → Wr1 s0 b' r o := by
   intro b' r o h
   by_cases e : b' = b
   ·subst e
    unfold Wr1 at h ⊢
    simp only [hself, hb] at h ⊢
    obtain ⟨o0, m, _⟩ := h
    exact ⟨o0, m⟩
   ·unfold Wr1 at h ⊢
    simp only [JJ (Ne.symm e)] at h
    exact h
  have t : Ju s0 ⟨s0.σ.set b (.arr false esz rows), J6g s0.g fun r o => s0.g.μ b = some (r, 0) ∧ o < rows.length * esz, s0.w⟩ := by
   refine ⟨.refl _ _, fun _ _ h => .inl h, fun r o h => ?_, fun r o ⟨b', h⟩ => .inl ⟨b', wr b' r o h⟩, by simp, fun b' cs h => ?_, fun b' wm esz' rows' h => ?_⟩
   ·rcases h with h | ⟨h, _⟩
    ·exact .inl h
    ·refine .inr (.inl ⟨b, ?_⟩)
     unfold Wr1
     rw [hb]
     exact ⟨0, h⟩
   ·refine ⟨⟨cs, hfrz.2 b' _ h (by simp), rfl⟩, rfl⟩
   ·by_cases e : b' = b
    ·subst e; rw [hb] at h; injection h with h; injection h with h1 h2 h3; subst h1 h2 h3
     exact ⟨false, rows, hself, by simp, Nat.le_refl _, fun _ => rfl⟩
    ·exact ⟨wm, rows', by rw [← h]; exact JJ (Ne.symm e), id, Nat.le_refl _, fun _ => rfl⟩
  refine ⟨J4v hi t (fun b' => b' = b) (fun b' hne => ⟨JJ (Ne.symm hne), rfl⟩) (fun _ _ _ _ _ _ h => h) ?_ ?_ ?_ ?_ ?_ ?_, t, hfrz⟩
  ·rintro b' cs rfl h; rw [hself] at h; cases h
  ·rintro b' wm esz' rows' rfl h
   rw [hself] at h; cases h
   rcases hi.arr _ _ _ _ hb with ⟨m, hr⟩ | ⟨r, c, e, fz, m, hh, hrow, hl, hx, hf⟩
   ·exact .inl ⟨m, hr⟩
   ·refine .inr ⟨r, c, e, fz, m, hh, hrow, hl, fun i j row x hir hjx => ?_, hf⟩
    obtain ⟨⟨v, hv, hr⟩, _⟩ := hx i j row x hir hjx
    refine ⟨⟨v, hv, hr.mono hi t⟩, fun _ => .inr ⟨m, ?_⟩⟩
    have h1 := J9 hir
    have h2 := J9 hjx
    rw [hrow row (JO hir)] at h2
    exact J3s h1 h2
  ·rintro b1 b2 r o rfl h1 h2
   exact hi.apart _ _ _ _ (wr _ _ _ h1) (wr _ _ _ h2)
  ·intro r o hc
   rcases hc with hc | ⟨hc, _⟩
   ·exact (hi.const r o hc).1
   ·rcases hi.arr _ _ _ _ hb with ⟨m, _⟩ | ⟨r', c, e, fz, m, hh, _⟩
    ·rw [m] at hc; cases hc
    ·rw [m] at hc; injection hc with hc; injection hc with hc _; exact hc ▸ J0h hh
  ·rintro r o b' hc rfl h
   rcases hc with hc | ⟨hc, ho⟩
   ·exact (hi.const r o hc).2 _ (wr _ _ _ h)
   ·unfold Wr1 at h
    simp only [hself] at h
    obtain ⟨o0, _, hle⟩ := h
    omega
  ·intro r o b' hc hn hne h
   rcases hc with hc | ⟨hc, ho⟩
   ·exact hn hc
   ·refine hne (hi.apart _ _ r o h ?_)
    unfold Wr1
    rw [hb]
    exact ⟨0, hc⟩
def J3T (s : Sn) (esz : Nat) (rows : List (List PV)) (v : Value) : Prop :=
 ∃ a cap, v = .slice a rows.length cap ∧ rows.length ≤ cap ∧ (∀ row ∈ rows, row.length = esz) ∧
  (rows = [] ∨ ∃ r o, a = some ⟨r, o, none⟩ ∧ ∀ (i j : Nat) row x, rows[i]? = some row → row[j]? = some x → ∃ u, cellAt s.w r (o + i * esz + j) = some u ∧ Jp s.w s.g.C x u)
theorem J3T.of_sl {s : Sn} {esz rows v} (h : Jp s.w s.g.C (.sl esz rows) v) : J3T s esz rows v := by
 cases h with
 | sl0 _ a cap => exact ⟨a, cap, rfl, Nat.zero_le _, (fun _ h => by cases h), .inl rfl⟩
 | sl _ _ r o cap vals h1 h2 h3 h4 => exact ⟨_, cap, rfl, h1, h2, .inr ⟨r, o, rfl, fun i j row x hr hx => ⟨_, (h3 i j row x hr hx).2, h4 i j row x hr hx⟩⟩⟩
theorem J3T.of_slr {s : Sn} (hi : Inv s) {b i n v wm esz rows} (h : Ji s (.slr b i n) v) (hb : s.σ[b]? = some (.arr wm esz rows)) (e : i + n = rows.length) :
  J3T s esz (rows.drop i) v := by
 cases h with
 | slr _ _ _ _ wm' esz' rows' _ h1 h2 h3 =>
  rw [hb] at h1; injection h1 with h1; injection h1 with a1 a2 a3; subst a1 a2 a3
  have hl : (rows.drop i).length = n := by simp; omega
  rcases h3 e with ⟨m, hi0, hn, hv⟩ | ⟨r, cap, c, e1, fz, m, hv, hcap, hh, hs⟩
  ·subst hi0 hn
   have : rows = [] := by apply List.eq_nil_of_length_eq_zero; omega
   subst this
   exact ⟨none, 0, by simp [hv], by simp, by simp, .inl rfl⟩
  ·rcases hi.arr b wm esz rows hb with ⟨m', _⟩ | ⟨r', c', e', fz', m', hh', hrow, hlen, hx, _⟩
   ·rw [m] at m'; cases m'
   ·rw [m] at m'; injection m' with m'; injection m' with m' _; subst m'
    refine ⟨some ⟨r, i * esz, none⟩, cap, by rw [hl]; exact hv, by omega, fun row hr => hrow row (List.mem_of_mem_drop hr), .inr ⟨r, i * esz, rfl, fun k j row x hk hj => ?_⟩⟩
    rw [List.getElem?_drop] at hk
    obtain ⟨⟨u, hu, hr⟩, _⟩ := hx (i + k) j row x hk hj
    refine ⟨u, ?_, hr⟩
    rw [J1h hh', ← hu]
    congr 1
    rw [Nat.add_mul]
theorem J3T.mono {s0 s : Sn} (hi : Inv s0) (t : Ju s0 s) {esz rows v} (h : J3T s0 esz rows v) (hc : ∀ r o u, cellAt s0.w r o = some u → cellAt s.w r o = some u) : J3T s esz rows v := by
 obtain ⟨a, cap, h1, h2, h3, h4⟩ := h
 refine ⟨a, cap, h1, h2, h3, h4.imp id ?_⟩
 rintro ⟨r, o, ha, hx⟩
 exact ⟨r, o, ha, fun i j row x hr hj => let ⟨u, h5, h6⟩ := hx i j row x hr hj; ⟨u, hc _ _ _ h5, h6.mono hi t⟩⟩
theorem J9x {s : Sn} {esz : Nat} {rows : List (List PV)} {v : Value} {a : Option Addr} {cap : Nat} (hv : v = .slice a rows.length cap) (hcap : rows.length ≤ cap)
  (hrow : ∀ row ∈ rows, row.length = esz)
  (hx : rows = [] ∨ ∃ r o, a = some ⟨r, o, none⟩ ∧ ∀ (i j : Nat) row x, rows[i]? = some row → row[j]? = some x → s.g.C r (o + i * esz + j) ∧ ∃ u, cellAt s.w r (o + i * esz + j) = some u ∧ Jp s.w s.g.C x u) :
  Jp s.w s.g.C (.sl esz rows) v := by
 subst hv
 rcases hx with rfl | ⟨r, o, rfl, hx⟩
 ·exact .sl0 _ _ _
 ·refine .sl esz rows r o cap (fun i j => (cellAt s.w r (o + i * esz + j)).getD .nilFunc) hcap hrow (fun i j row x hr hj => ?_) fun i j row x hr hj => ?_
  ·obtain ⟨h1, u, h2, _⟩ := hx i j row x hr hj
   exact ⟨h1, by simp [h2]⟩
  ·obtain ⟨_, u, h2, h3⟩ := hx i j row x hr hj
   simpa [h2] using h3
theorem Jnh {s0 : Sn} (hi : Inv s0) {b i n : Nat} {v : Value} {wm : Bool} {esz : Nat} {rows : List (List PV)} (h : Ji s0 (.slr b i n) v) (hb : s0.σ[b]? = some (.arr wm esz rows))
  (e : i + n = rows.length) :
  ∃ g', Inv ⟨s0.σ.set b (.arr false esz rows), g', s0.w⟩ ∧ Ju s0 ⟨s0.σ.set b (.arr false esz rows), g', s0.w⟩ ∧
   Frz s0.σ (s0.σ.set b (.arr false esz rows)) ∧ Jp s0.w g'.C (.sl esz (rows.drop i)) v := by
 obtain ⟨g', hμ, hi', t, hf⟩ := JlB hi hb
 refine ⟨g', hi', t, hf, ?_⟩
 have h' := h.mono hi t
 have hb' : (s0.σ.set b (.arr false esz rows))[b]? = some (.arr false esz rows) := J04 hb
 obtain ⟨a, cap, h1, h2, h3, h4⟩ := J3T.of_slr hi' h' hb' e
 refine J9x (s := ⟨s0.σ.set b (.arr false esz rows), g', s0.w⟩) h1 h2 h3 (h4.imp id ?_)
 rintro ⟨r, o, rfl, hx⟩
 refine ⟨r, o, rfl, fun k j row x hk hj => ⟨?_, hx k j row x hk hj⟩⟩
 cases h' with
 | slr _ _ _ _ wm' esz' rows' _ q1 q2 q3 =>
  have q1' : (s0.σ.set b (.arr false esz rows))[b]? = some (.arr wm' esz' rows') := q1
  rw [hb'] at q1'; injection q1' with q1'; injection q1' with a1 a2 a3; subst a1 a2 a3
  rcases q3 e with ⟨m, hi0, hn, hv⟩ | ⟨r', cap', c, e1, fz, m, hv, hcap, hh, hs⟩
  ·rw [h1] at hv; simp at hv
  ·rw [h1] at hv; injection hv with v1 v2 v3; injection v1 with v1; injection v1 with v1 v4; subst v1 v4
   rcases hi'.arr b false esz rows hb' with ⟨m', _⟩ | ⟨r', c', e', fz', m', hh', hrow, hlen, hx', _⟩
   ·rw [m] at m'; cases m'
   ·rw [m] at m'; injection m' with m'; injection m' with m' _; subst m'
    rw [List.getElem?_drop] at hk
    have := (hx' (i + k) j row x hk hj).2 rfl
    rw [Nat.add_mul] at this
    exact this
end Go.Am
end
section
namespace Go.Am
theorem J7f {α : Type} {a b : List α} {i : Nat} {x : α} (h : (a ++ b)[i]? = some x) : a[i]? = some x ∨ (a.length ≤ i ∧ b[i - a.length]? = some x) := by
 rw [List.getElem?_append] at h
 split at h
 ·exact .inl h
 ·exact .inr ⟨by omega, h⟩
def Jm5 (g : Gh) (wm : Bool) (r lo hi : Nat) : Gh := J6g g fun r' o => wm = false ∧ r' = r ∧ lo ≤ o ∧ o < hi
theorem Jr0 {s0 : Sn} (hi : Inv s0) {b : Nat} {wm : Bool} {esz : Nat} {rows new : List (List PV)} {r : Nat} {vs : List Value} {w' : World}
  (hb : s0.σ[b]? = some (.arr wm esz rows)) (hm : s0.g.μ b = some (r, 0)) (hnew : ∀ row ∈ new, row.length = esz)
  (hput : Put r (rows.length * esz) vs s0.w w') (hlen : vs.length = new.length * esz)
  (hx : ∀ (i j : Nat) row x, new[i]? = some row → row[j]? = some x → ∃ u, vs[i * esz + j]? = some u ∧ Jp s0.w s0.g.C x u) :
  Inv ⟨s0.σ.set b (.arr wm esz (rows ++ new)), Jm5 s0.g wm r (rows.length * esz) ((rows.length + new.length) * esz), w'⟩ ∧
  Ju s0 ⟨s0.σ.set b (.arr wm esz (rows ++ new)), Jm5 s0.g wm r (rows.length * esz) ((rows.length + new.length) * esz), w'⟩ := by
 have hself : (s0.σ.set b (.arr wm esz (rows ++ new)))[b]? = some (.arr wm esz (rows ++ new)) := J04 hb
 have hadd : (rows.length + new.length) * esz = rows.length * esz + new.length * esz := Nat.add_mul _ _ _
 generalize hs : (⟨s0.σ.set b (.arr wm esz (rows ++ new)), Jm5 s0.g wm r (rows.length * esz) ((rows.length + new.length) * esz), w'⟩ : Sn) = s
 have hσ : s.σ = s0.σ.set b (.arr wm esz (rows ++ new)) := by rw [← hs]
 have hμ : s.g.μ = s0.g.μ := by rw [← hs]; rfl
 have hC : ∀ r' o, s.g.C r' o ↔ s0.g.C r' o ∨ (wm = false ∧ r' = r ∧ rows.length * esz ≤ o ∧ o < (rows.length + new.length) * esz) := by rw [← hs]; exact fun _ _ => Iff.rfl
 have hw : s.w = w' := by rw [← hs]
 have wr : ∀ b' r' o, Wr1 s b' r' o → Wr1 s0 b' r' o := by
  intro b' r' o h
  by_cases e : b' = b
  ·subst e
   unfold Wr1 at h ⊢
   rw [hσ, hself] at h
   rw [hb]
   cases wm with
   | true => rw [hμ] at h; exact h
   | false =>
    rw [hμ] at h
    obtain ⟨o0, m, hle⟩ := h
    refine ⟨o0, m, Nat.le_trans (Nat.mul_le_mul_right _ ?_) hle⟩
    simp
  ·unfold Wr1 at h ⊢
   rw [hσ, hμ, JJ (Ne.symm e)] at h
   exact h
 have wself : ∀ o, rows.length * esz ≤ o → Wr1 s0 b r o := by
  intro o ho
  unfold Wr1
  rw [hb]
  cases wm with
  | true => exact ⟨0, hm⟩
  | false => exact ⟨0, hm, ho⟩
 have t : Ju s0 s := by
  refine ⟨?_, fun r o h => (hC r o).2 (.inl h), fun r' o h => ?_, fun r o ⟨b', h⟩ => .inl ⟨b', wr b' r o h⟩, by rw [hσ]; simp, fun b' cs h => ?_, fun b' wm' esz' rows' h => ?_⟩
  ·rw [hw]; exact hput.keep fun k h1 _ => ⟨b, wself k h1⟩
  ·rcases (hC r' o).1 h with h | ⟨_, e, h, _⟩
   ·exact .inl h
   ·subst e; exact .inr (.inl ⟨b, wself o h⟩)
  ·have e : b' ≠ b := by rintro rfl; rw [hb] at h; cases h
   exact ⟨⟨cs, by rw [hσ, JJ (Ne.symm e)]; exact h, rfl⟩, by rw [hμ]⟩
  ·by_cases e : b' = b
   ·subst e; rw [hb] at h; injection h with h; injection h with h1 h2 h3; subst h1 h2 h3
    exact ⟨wm, rows ++ new, by rw [hσ]; exact hself, id, by simp, fun _ => by rw [hμ]⟩
   ·exact ⟨wm', rows', by rw [hσ, JJ (Ne.symm e)]; exact h, id, Nat.le_refl _, fun _ => by rw [hμ]⟩
 refine ⟨J4v hi t (fun b' => b' = b) (fun b' hne => ⟨by rw [hσ]; exact JJ (Ne.symm hne), by rw [hμ]⟩) ?_ ?_ ?_ ?_ ?_ ?_ ?_, t⟩
 ·intro b' r' k v hne hwr hv
  rw [hw]
  refine hput.cell hv ?_
  by_cases er : r' = r
  ·subst er
   rcases Nat.lt_or_ge k (rows.length * esz) with h | h
   ·exact .inr (.inl h)
   ·exact (hne (hi.apart _ _ _ _ hwr (wself k h))).elim
  ·exact .inl er
 ·rintro b' cs rfl h; rw [hσ, hself] at h; cases h
 ·rintro b' wm' esz' rows' rfl h
  rw [hσ, hself] at h; cases h
  obtain ⟨c, e, fz, c', p1, p2, p3, p4, p5, p6⟩ := hput.there
  rcases hi.arr _ _ _ _ hb with ⟨m, _⟩ | ⟨r', c0, e0, fz0, m, hh, hrow, hl, hx0, hf⟩
  ·rw [hm] at m; cases m
  ·rw [hm] at m; injection m with m; injection m with m _; subst m
   rw [p1] at hh; injection hh with hh; injection hh with q1 q2 q3; subst q1 q2 q3
   refine .inr ⟨r, c', e, fz, by rw [hμ]; exact hm, by rw [hw]; exact p2, ?_, ?_, ?_, ?_⟩
   ·intro row hr
    rcases List.mem_append.1 hr with hr | hr
    ·exact hrow row hr
    ·exact hnew row hr
   ·simp only [List.length_append]; rw [hadd]; omega
   ·intro i j row x hir hjx
    rcases J7f hir with hir | ⟨hge, hir⟩
    ·obtain ⟨⟨v, hv, hr⟩, hc⟩ := hx0 i j row x hir hjx
     have h1 := J9 hir
     have h2 := J9 hjx
     rw [hrow row (JO hir)] at h2
     have := J3s h1 h2
     exact ⟨⟨v, by rw [p6 _ (.inl this)]; exact hv, hr.mono hi t⟩, fun e => (hC _ _).2 (.inl (hc e))⟩
    ·obtain ⟨u, hu, hr⟩ := hx _ j row x hir hjx
     have h1 := J9 hir
     have h2 := J9 hjx
     rw [hnew row (JO hir)] at h2
     have h3 := J3s h1 h2
     have h4 : i * esz + j = rows.length * esz + ((i - rows.length) * esz + j) := by
      rw [← Nat.add_assoc, ← Nat.add_mul, Nat.add_sub_cancel' hge]
     refine ⟨⟨u, by rw [h4]; exact p5 _ u hu, hr.mono hi t⟩, fun e => (hC _ _).2 (.inr ⟨e, rfl, by omega, by rw [hadd]; omega⟩)⟩
   ·rw [p3]; exact hf
 ·rintro b1 b2 r o rfl h1 h2
  exact hi.apart _ _ _ _ (wr _ _ _ h1) (wr _ _ _ h2)
 ·intro r' o hc
  rw [hw, hput.size]
  rcases (hC r' o).1 hc with hc | ⟨_, e, _⟩
  ·exact (hi.const r' o hc).1
  ·subst e; exact J7X hi b _ _ (wself _ (Nat.le_refl _))
 ·rintro r' o b' hc rfl h
  rcases (hC r' o).1 hc with hc | ⟨e, er, hlo, hhi⟩
  ·exact (hi.const r' o hc).2 _ (wr _ _ _ h)
  ·subst e er
   unfold Wr1 at h
   rw [hσ, hself] at h
   obtain ⟨o0, _, hle⟩ := h
   simp only [List.length_append] at hle
   omega
 ·intro r' o b' hc hn hne h
  rcases (hC r' o).1 hc with hc | ⟨e, er, hlo, hhi⟩
  ·exact hn hc
  ·subst er
   exact hne (hi.apart _ _ _ o h (wself o hlo))
theorem Jo4 {s0 : Sn} (hi : Inv s0) {b : Nat} {wm : Bool} {esz : Nat} {rows new : List (List PV)} {c : Array Value} {e : TypeId} {w' : World}
  (hb : s0.σ[b]? = some (.arr wm esz rows)) (hne : new ≠ []) (hrows : ∀ row ∈ rows, row.length = esz) (hnew : ∀ row ∈ new, row.length = esz)
  (hh : w'.heap = s0.w.heap.push (.cells c e (0, 0))) (ho : w'.os = s0.w.os) (hp : w'.output = s0.w.output)
  (hsize : (rows.length + new.length) * esz ≤ c.size)
  (hx : ∀ (i j : Nat) row x, (rows ++ new)[i]? = some row → row[j]? = some x → ∃ u, c[i * esz + j]? = some u ∧ Jp s0.w s0.g.C x u) :
  ∃ g', g'.μ b = some (s0.w.heap.size, 0) ∧ Inv ⟨s0.σ.set b (.arr wm esz (rows ++ new)), g', w'⟩ ∧ Ju s0 ⟨s0.σ.set b (.arr wm esz (rows ++ new)), g', w'⟩ := by
 have hself : (s0.σ.set b (.arr wm esz (rows ++ new)))[b]? = some (.arr wm esz (rows ++ new)) := J04 hb
 refine ⟨⟨fun b' => if b' = b then some (s0.w.heap.size, 0) else s0.g.μ b', fun r o => s0.g.C r o ∨ (wm = false ∧ r = s0.w.heap.size ∧ o < (rows.length + new.length) * esz)⟩, if_pos rfl, ?_⟩
 generalize hs : (⟨s0.σ.set b (.arr wm esz (rows ++ new)), _, w'⟩ : Sn) = s
 have hσ : s.σ = s0.σ.set b (.arr wm esz (rows ++ new)) := by rw [← hs]
 have hμ : ∀ b', s.g.μ b' = if b' = b then some (s0.w.heap.size, 0) else s0.g.μ b' := by rw [← hs]; exact fun _ => rfl
 have hC : ∀ r' o, s.g.C r' o ↔ s0.g.C r' o ∨ (wm = false ∧ r' = s0.w.heap.size ∧ o < (rows.length + new.length) * esz) := by rw [← hs]; exact fun _ _ => Iff.rfl
 have hw : s.w = w' := by rw [← hs]
 have hpos : 0 < new.length := List.length_pos_iff.2 hne
 have wr : ∀ b' r' o, b' ≠ b → (Wr1 s b' r' o ↔ Wr1 s0 b' r' o) := by
  intro b' r' o e
  unfold Wr1
  rw [hσ, hμ, if_neg e, JJ (Ne.symm e)]
 have wrb : ∀ r' o, Wr1 s b r' o → r' = s0.w.heap.size ∧ (wm = false → (rows.length + new.length) * esz ≤ o) := by
  intro r' o h
  unfold Wr1 at h
  rw [hσ, hself, hμ, if_pos rfl] at h
  cases wm with
  | true => obtain ⟨o0, m⟩ := h; simp at m; exact ⟨m.1.symm, fun h => by cases h⟩
  | false => obtain ⟨o0, m, hle⟩ := h; simp at m; simp only [List.length_append] at hle; exact ⟨m.1.symm, fun _ => hle⟩
 have t : Ju s0 s := by
  refine ⟨?_, fun r o h => (hC r o).2 (.inl h), fun r' o h => ?_, fun r o ⟨b', h⟩ => ?_, by rw [hσ]; simp, fun b' cs h => ?_, fun b' wm' esz' rows' h => ?_⟩
  ·rw [hw]; exact J96 hh ho hp
  ·rcases (hC r' o).1 h with h | ⟨_, h, _⟩
   ·exact .inl h
   ·exact .inr (.inr (Nat.le_of_eq h.symm))
  ·by_cases eb : b' = b
   ·subst eb; exact .inr (Nat.le_of_eq (wrb r o h).1.symm)
   ·exact .inl ⟨b', (wr b' r o eb).1 h⟩
  ·have eb : b' ≠ b := by rintro rfl; rw [hb] at h; cases h
   exact ⟨⟨cs, by rw [hσ, JJ (Ne.symm eb)]; exact h, rfl⟩, by rw [hμ, if_neg eb]⟩
  ·by_cases eb : b' = b
   ·subst eb; rw [hb] at h; injection h with h; injection h with h1 h2 h3; subst h1 h2 h3
    exact ⟨wm, rows ++ new, by rw [hσ]; exact hself, id, by simp, fun h => by simp at h; exact (hne h).elim⟩
   ·exact ⟨wm', rows', by rw [hσ, JJ (Ne.symm eb)]; exact h, id, Nat.le_refl _, fun _ => by rw [hμ, if_neg eb]⟩
 refine ⟨J4v hi t (fun b' => b' = b) (fun b' hn => ⟨by rw [hσ]; exact JJ (Ne.symm hn), by rw [hμ, if_neg hn]⟩) (fun b r o v _ _ h => by rw [hw]; exact JbO hh h) ?_ ?_ ?_ ?_ ?_ ?_, t⟩
 ·rintro b' cs rfl h; rw [hσ, hself] at h; cases h
 ·rintro b' wm' esz' rows' rfl h
  rw [hσ, hself] at h; cases h
  refine .inr ⟨s0.w.heap.size, c, e, (0, 0), by rw [hμ, if_pos rfl], by rw [hw]; exact J6B hh, ?_, by simp only [List.length_append]; exact hsize, ?_, J9g.zero _ _⟩
  ·intro row hr
   rcases List.mem_append.1 hr with hr | hr
   ·exact hrows row hr
   ·exact hnew row hr
  ·intro i j row x hir hjx
   obtain ⟨u, hu, hr⟩ := hx i j row x hir hjx
   refine ⟨⟨u, hu, hr.mono hi t⟩, fun ew => (hC _ _).2 (.inr ⟨ew, rfl, ?_⟩)⟩
   have h1 := J9 hir
   have h2 := J9 hjx
   have h3 : row.length = esz := by
    rcases List.mem_append.1 (JO hir) with hr | hr
    ·exact hrows row hr
    ·exact hnew row hr
   rw [h3] at h2
   simp only [List.length_append] at h1
   exact J3s h1 h2
 ·rintro b1 b2 r o rfl h1 h2
  by_cases eb : b2 = b1
  ·exact eb.symm
  ·have := J7X hi _ _ _ ((wr b2 r o eb).1 h2)
   have := (wrb r o h1).1
   omega
 ·intro r' o hc
  rw [hw, hh]
  rcases (hC r' o).1 hc with hc | ⟨_, hc, _⟩
  ·have := (hi.const r' o hc).1; simp; omega
  ·simp; omega
 ·rintro r' o b' hc rfl h
  have h1 := wrb _ _ h
  rcases (hC r' o).1 hc with hc | ⟨e1, hc, ho⟩
  ·have := (hi.const r' o hc).1; omega
  ·have := h1.2 e1; omega
 ·intro r' o b' hc hn hne h
  rcases (hC r' o).1 hc with hc | ⟨_, hc, _⟩
  ·exact hn hc
  ·have := J7X hi _ _ _ h; omega
end Go.Am
end
section
namespace Go.Am
def okP : PV → Value → Bool
 | .b x, .bool y => x == y
 | .i k n, .int k' n' => k == k' && n == n'
 | .s l, .string ba => l == ba.data.toList
 | .sl _ [], .slice none 0 0 => true
 | .np, .pointer none => true
 | .nf, .nilFunc => true
 | _, _ => false
def Jdp : List PV → List Value → Bool
 | [], [] => true
 | x :: xs, v :: vs => okP x v && Jdp xs vs
 | _, _ => false
def okC : AV → Value → Bool
 | .p c, v => okP c v
 | .data cs, .agg vs => Jdp cs vs.toList
 | .fn f [] [], .func (.func g) a c => f == g && a.isEmpty && c.isEmpty
 | .tup [], .tuple vs => vs.isEmpty
 | _, _ => false
def J09 : Opd → Operand → Bool
 | .t n, .tmp m => n == m
 | .c x, .const v => okC x v
 | .c (.fn f [] []), .func g => f == g
 | _, _ => false
def J3w : List Opd → List Operand → Bool
 | [], [] => true
 | x :: xs, y :: ys => J09 x y && J3w xs ys
 | _, _ => false
def J98 : Option Opd → Option Operand → Bool
 | none, none => true
 | some x, some y => J09 x y
 | _, _ => false
section
variable (P : Program)
def szT (t : TypeId) : Option Nat := (P.info? t).map (·.size)
def byT (t : TypeId) : Option Nat := (P.info? t).map (·.bytes)
def zeT (t : TypeId) : Option Value := (P.info? t).bind (·.zero)
def J8Q : TypeDesc → Bool
 | .struct _ | .array _ _ => true
 | _ => false
def agT (t : TypeId) : Option Bool := (P.underlying t).map J8Q
def elT (t : TypeId) : Option TypeId := match P.underlying t with
 | some (.slice e) => some e
 | _ => none
def J3Y (t : TypeId) : Bool := match P.underlying t with
 | some .string => true
 | _ => false
def Jlc (t : TypeId) : Bool := match P.underlying t with
 | some (.int .u8) => true
 | _ => false
def Jfl (t : TypeId) : Bool := match P.underlying t with
 | some .bool => true
 | _ => false
def Jm9 (t : TypeId) : Bool := match P.underlying t with
 | some (.int _) => true
 | _ => false
def JiR (k : IntKind) (t : TypeId) : Bool := match P.underlying t with
 | some (.int k') => k == k'
 | _ => false
def arT (t : TypeId) : Option (Nat × TypeId) := match P.underlying t with
 | some (.array n e) => some (n, e)
 | _ => none
def flT (t : TypeId) : Option (Array Field) := match P.underlying t with
 | some (.struct fs) => some fs
 | _ => none
def J9Y (K : TypeId → Option (List KD)) : Nat → List Field → Option (List KD)
 | _, [] => some []
 | off, f :: fs =>
  if f.name = "_" ∨ f.offset ≠ off then none
  else match K f.type with
   | none => none
   | some ks => if szT P f.type = some ks.length ∧ 0 < ks.length then
     match J9Y K (off + ks.length) fs with
     | some l => some (ks ++ l)
     | none => none
    else none
def J5Y : Nat → TypeId → Option (List KD)
 | 0, _ => none
 | d + 1, t => match P.underlying t with
  | some .bool => some [.b]
  | some (.int k) => some [.i k]
  | some .string => some [.s]
  | some (.struct fs) => if P.stoodInHeld t then none else J9Y P (J5Y d) 0 fs.toList
  | some (.array n e) => match J5Y d e with
   | some ks => if szT P e = some ks.length ∧ 0 < ks.length then some (List.replicate n ks).flatten else none
   | none => none
  | _ => none
def Jss (t : TypeId) : Operand → Bool
 | .const (.slice none 0 0) => (elT P t).isSome
 | _ => false
def JpP (t : TypeId) : Operand → Bool
 | .const (.pointer none) => (match P.underlying t with | some (.pointer _) => true | _ => false)
 | _ => false
def JrY (t : TypeId) : Operand → Bool
 | .const .nilFunc => (match P.underlying t with | some (.func _ _ _) => true | _ => false)
 | _ => false
def J6Z (zero : List PV) (t : TypeId) : Bool := match zeT P t with
 | some v => Jdp zero v.cells.toList
 | none => false
def Jhh (t : TypeId) (os : List (Nat × Nat)) : Bool := match zeT P t with
 | some v => os.all fun x => match v.cells[x.1]? with
  | some (.slice none 0 0) => true
  | _ => false
 | none => false
def J3R (place : Nat → Option (Nat × Nat)) : List (Nat × Nat × Opd) → List (Nat × Operand) → Bool
 | [], [] => true
 | (off, size, x) :: r, (i, y) :: q => place i == some (off, size) && J09 x y && J3R place r q
 | _, _ => false
def J8d (fs : Array Field) (i : Nat) : Option (Nat × Nat) := match fs[i]? with
 | some f => (szT P f.type).map fun n => (f.offset, n)
 | none => none
def Ja7 : List (Nat × Opd) → List (Nat × Operand) → Bool
 | [], [] => true
 | (i, x) :: r, (j, y) :: q => i == j && J09 x y && Ja7 r q
 | _, _ => false
def Jo (ao : AOp) (op : Op) : Bool :=
 match ao with
 | .mv x => match op with
  | .move y | .assign y => J09 x y
  | _ => false
 | .mkarr _ x => match op with
  | .move (.const (.slice none 0 0)) | .assign (.const (.slice none 0 0)) => (match x with | .c _ => true | _ => false)
  | _ => false
 | .pick c a b => match op with
  | .pick c' a' b' => J09 c c' && J09 a a' && J09 b b'
  | _ => false
 | .newbox zero => match op with
  | .alloc t => J6Z P zero t
  | _ => false
 | .box _ x => match op with
  | .box _ y => J09 x y
  | _ => false
 | .build zero parts => match op with
  | .build t ps => J6Z P zero t && (match P.underlying t with
   | some (.struct fs) => (fs.all fun f => (szT P f.type).isSome) && J3R (J8d P fs) parts ps.toList
   | some (.array _ e) => (match szT P e with
    | some n => J3R (fun i => some (i * n, n)) parts ps.toList
    | none => false)
   | _ => false)
  | _ => false
 | .lits _ esz n zero parts => match op with
  | .buildSlice t len ps => len == n && (match elT P t with
   | some e => szT P e == some esz && decide (n * esz ≤ 16777216) && J6Z P zero e && zero.length == esz && decide (0 < esz) && Ja7 parts ps.toList
   | none => false)
  | _ => false
 | .load agg size x => match op with
  | .load t y => agT P t == some agg && szT P t == some size && J09 x y && (agg || size == 1)
  | _ => false
 | .store size x v => match op with
  | .store t y u => szT P t == some size && J09 x y && J09 v u
  | _ => false
 | .nilchk x => match op with
  | .nilCheck y => J09 x y
  | _ => false
 | .bin bo bt x y => match op with
  | .binOp bo' t x' y' _ => bo == bo' && J09 x x' && (match bt with
   | .plain => J09 y y'
   | .bool => J09 y y' && Jfl P t
   | .flat ks => J09 y y' && J5Y P 100 t == some ks && agT P t == some true && !P.eqGuardType P.depth t
   | .nils => Jss P t y'
   | .nilp => JpP P t y'
   | .nilf => JrY P t y')
  | _ => false
 | .un uo x => match op with
  | .unOp uo' _ y => uo == uo' && J09 x y
  | _ => false
 | .conv k x => match op with
  | .convert src dst y => J09 x y && (match k with
   | .int k => Jm9 P src && JiR P k dst
   | .same => J3Y P src && J3Y P dst
   | .toStr => (match elT P src with | some e => Jlc P e && szT P e == some 1 | none => false) && J3Y P dst
   | .toBytes _ => J3Y P src && (match elT P dst with | some e => Jlc P e && szT P e == some 1 | none => false))
  | _ => false
 | .mkslice _ esz bytes zero l c => match op with
  | .makeSlice t l' c' => J09 l l' && J09 c c' && (match elT P t with
   | some e => szT P e == some esz && byT P e == some bytes && J6Z P zero e && zero.length == esz && decide (0 < esz) && decide (0 < bytes)
   | none => false)
  | _ => false
 | .slice k x lo hi mx => match op with
  | .slice t x' lo' hi' mx' => J09 x x' && J98 lo lo' && J98 hi hi' && J98 mx mx' && (match k with
   | .str => J3Y P t
   | .sl esz => (match elT P t with | some e => szT P e == some esz | none => false))
  | _ => false
 | .faddr off x => match op with
  | .fieldAddr t y f => J09 x y && (match flT P t with
   | some fs => (match fs[f]? with
    | some f => f.offset == off && (match szT P f.type with | some n => n != 0 | none => false)
    | none => false)
   | none => false)
  | _ => false
 | .field agg off size x => match op with
  | .field t y f => J09 x y && (match flT P t with
   | some fs => (match fs[f]? with
    | some f => f.offset == off && szT P f.type == some size && agT P f.type == some agg && (agg || size == 1)
    | none => false)
   | none => false)
  | _ => false
 | .iaddr esz x i => match op with
  | .indexAddr t y j => J09 x y && J09 i j && (match elT P t with | some e => szT P e == some esz | none => false)
  | _ => false
 | .aaddr len esz x i => match op with
  | .indexAddr t y j => J09 x y && J09 i j && (match arT P t with | some (n, e) => n == len && szT P e == some esz | none => false)
  | _ => false
 | .sidx x i => match op with
  | .index t y j => J09 x y && J09 i j && J3Y P t
  | _ => false
 | .aidx agg len esz x i => match op with
  | .index t y j => J09 x y && J09 i j && (match arT P t with | some (n, e) => n == len && szT P e == some esz && agT P e == some agg && (agg || esz == 1) | none => false)
  | _ => false
 | .extr x i => match op with
  | .extract y j => J09 x y && i == j
  | _ => false
 | .call f args _ => match op with
  | .call c => (match c.callee with
   | .value (.func g) => f == g && J3w args c.args.toList
   | _ => false)
  | _ => false
 | .callv x args _ => match op with
  | .call c => (match c.callee with
   | .value y => J09 x y && J3w args c.args.toList
   | _ => false)
  | _ => false
 | .len str x => match op with
  | .call c => (match c.callee with
   | .builtin .len => (match c.args.toList, c.argTypes.toList with
    | [y], [t] => J09 x y && (if str then J3Y P t else (elT P t).isSome)
    | _, _ => false)
   | _ => false)
  | _ => false
 | .alen n => match op with
  | .call c => (match c.callee with
   | .builtin .len => (match c.args.toList, c.argTypes.toList with
    | [_], [t] => (match P.underlying t with
     | some (.array m _) => m == n
     | some (.pointer a) => (match arT P a with | some (m, _) => m == n | none => false)
     | _ => false)
    | _, _ => false)
   | _ => false)
  | _ => false
 | .appn esz bytes zero y => match op with
  | .call c => (match c.callee with
   | .builtin .append => (match c.args.toList, c.argTypes.toList with
    | [.const (.slice none 0 0), y'], [t, u] => J09 y y' && ((elT P u).isSome || J3Y P u) && (match elT P t with
     | some e => szT P e == some esz && byT P e == some bytes && J6Z P zero e && zero.length == esz && decide (0 < esz) && decide (0 < bytes)
     | none => false)
    | _, _ => false)
   | _ => false)
  | _ => false
 | .app esz bytes zero x y => match op with
  | .call c => (match c.callee with
   | .builtin .append => (match c.args.toList, c.argTypes.toList with
    | [x', y'], [t, u] => J09 x x' && J09 y y' && ((elT P u).isSome || J3Y P u) && (match elT P t with
     | some e => szT P e == some esz && byT P e == some bytes && J6Z P zero e && zero.length == esz && decide (0 < esz) && decide (0 < bytes)
     | none => false)
    | _, _ => false)
   | _ => false)
  | _ => false
 | .appc esz bytes zero x y => match op with
  | .call c => (match c.callee with
   | .builtin .append => (match c.args.toList, c.argTypes.toList with
    | [x', y'], [t, u] => J09 x x' && J09 y y' && ((elT P u).isSome || J3Y P u) && (match elT P t with
     | some e => szT P e == some esz && byT P e == some bytes && J6Z P zero e && zero.length == esz && decide (0 < esz) && decide (0 < bytes)
     | none => false)
    | _, _ => false)
   | _ => false)
  | _ => false
 | .appz esz bytes zero x y => match op with
  | .call c => (match c.callee with
   | .builtin .append => (match c.args.toList, c.argTypes.toList with
    | [x', y'], [t, u] => J09 x x' && J09 y y' && (match P.underlying u with
     | some (.int _) => true
     | _ => false) && (match elT P t with
     | some e => szT P e == some esz && byT P e == some bytes && J6Z P zero e && zero.length == esz && decide (0 < esz) && decide (0 < bytes)
     | none => false)
    | _, _ => false)
   | _ => false)
  | _ => false
 | .mm mx x y => match op with
  | .call c => (match c.callee with
   | .builtin b => b == (if mx then .max else .min) && (match c.args.toList with
    | [x', y'] => J09 x x' && J09 y y'
    | _ => false)
   | _ => false)
  | _ => false
 | .newboxo zero os => match op with
  | .alloc t => J6Z P zero t && Jhh P t os
  | _ => false
 | .buildo zero parts os => match op with
  | .build t ps => J6Z P zero t && Jhh P t os && (match P.underlying t with
   | some (.struct fs) => (fs.all fun f => (szT P f.type).isSome) && J3R (J8d P fs) parts ps.toList
   | _ => false)
  | _ => false
 | .storen _ x => match op with
  | .store t y (.const (.slice none 0 0)) => szT P t == some 1 && J09 x y
  | _ => false
 | .callo f _ args _ => match op with
  | .call c => (match c.callee with
   | .value (.func g) => f == g && J3w args c.args.toList
   | _ => false)
  | _ => false
 | .mkfn f first caps => match op with
  | .makeFunc (.func g) first' caps' => f == g && J3w first first'.toList && J3w caps caps'.toList
  | _ => false
end
end Go.Am
end
section
namespace Go.Am
theorem bind_some {α β : Type} {m : RM α} {f : α → RM β} {s : St} {b : β} (h : (m.bind f).run s = some b) : ∃ a, m.run s = some a ∧ (f a).run s = some b := by
 rw [run_bind] at h
 cases hm : m.run s with
 | none => rw [hm] at h; cases h
 | some a => rw [hm] at h; exact ⟨a, rfl, h⟩
theorem J0P {x : Option AV} {s : St} {e : Eff} (h : (val x).run s = some e) : ∃ v, x = some v ∧ e = ⟨v, []⟩ := by
 cases x with
 | none => cases h
 | some v => simp only [val, RM.run] at h; injection h with h; exact ⟨v, rfl, h.symm⟩
theorem Jkt {w C c v} (h : okP c v = true) : Jp w C c v := by
 unfold okP at h
 split at h
 ·rename_i x y
  have : x = y := by simpa using h
  subst this; exact .b _
 ·simp at h; obtain ⟨rfl, rfl⟩ := h; exact .i _ _
 ·rename_i l ba
  have : l = ba.data.toList := by simpa using h
  subst this
  exact .s _
 ·exact .sl0 _ _ _
 ·exact .np
 ·exact .nf
 ·cases h
theorem Jag {w C} : ∀ {cs : List PV} {vs : List Value}, Jdp cs vs = true → cs.length = vs.length ∧ ∀ (i : Nat) x v, cs[i]? = some x → vs[i]? = some v → Jp w C x v
 | [], [], _ => ⟨rfl, fun i x v h => by simp at h⟩
 | x :: xs, v :: vs, h => by
  simp only [Jdp, Bool.and_eq_true] at h
  obtain ⟨h1, h2⟩ := Jag (w := w) (C := C) h.2
  refine ⟨by simp [h1], fun i y u hy hu => ?_⟩
  cases i with
  | zero => simp at hy hu; subst hy hu; exact Jkt h.1
  | succ i => simp at hy hu; exact h2 i y u hy hu
 | [], _ :: _, h => by simp [Jdp] at h
 | _ :: _, [], h => by simp [Jdp] at h
theorem JpY {s : Sn} {c v} (h : okC c v = true) : Ji s c v := by
 unfold okC at h
 split at h
 ·exact .p _ _ (Jkt h)
 ·rename_i cs vs
  obtain ⟨h1, h2⟩ := Jag (w := s.w) (C := s.g.C) h
  exact .data _ _ (by simpa using h1) fun i x v hx hv => h2 i x v hx (by simpa using hv)
 ·rename_i f g a c
  simp at h
  obtain ⟨⟨rfl, rfl⟩, rfl⟩ := h
  exact .fn _ _ _ _ _ rfl rfl (fun i x v h => by simp at h) (fun i x v h => by simp at h)
 ·simp at h; subst h; exact .tup _ _ rfl (fun i x v h => by simp at h)
 ·cases h
def JC (s : Sn) (tmps : Array Value) (env : List (Nat × AV)) : Prop := ∀ n x, lk n env = some x → ∃ v, tmps[n]? = some v ∧ Ji s x v
theorem JC.mono {s0 s : Sn} (hi : Inv s0) (t : Ju s0 s) {tmps env} (h : JC s0 tmps env) : JC s tmps env :=
 fun n x hx => let ⟨v, h1, h2⟩ := h n x hx; ⟨v, h1, h2.mono hi t⟩
section
variable {P : Program} {s : Sn} {a : Act} {env : List (Nat × AV)}
theorem Jy (he : JC s a.tmps env) {x : Opd} {y : Operand} {v : AV} (h : (ev x).run ⟨env, s.σ⟩ = some v) (hc : J09 x y = true) : Ji s v (a.eval y) := by
 cases x with
 | t n =>
  cases y <;> simp [J09] at hc
  subst hc
  simp only [ev, RM.run] at h
  split at h
  ·rename_i u hu
   injection h with h; subst h
   obtain ⟨w, h1, h2⟩ := he _ _ hu
   simpa [Act.eval, Array.getD_eq_getD_getElem?, h1] using h2
  ·cases h
 | c z =>
  simp only [ev, RM.run] at h
  injection h with h; subst h
  cases y with
  | const u => exact JpY (v := u) (by simpa [J09] using hc)
  | func g =>
   cases z <;> simp [J09] at hc
   rename_i f first caps
   cases first <;> cases caps <;> simp [J09] at hc
   subst hc
   exact .fn _ _ _ _ _ rfl rfl (fun i x v h => by simp at h) (fun i x v h => by simp at h)
  | tmp n => simp [J09] at hc
  | global n => simp [J09] at hc
theorem J8l (he : JC s a.tmps env) : ∀ {xs : List Opd} {ys : List Operand} {vs : List AV}, (evs xs).run ⟨env, s.σ⟩ = some vs → J3w xs ys = true →
  vs.length = ys.length ∧ ∀ (i : Nat) x v, vs[i]? = some x → (ys.map a.eval)[i]? = some v → Ji s x v
 | [], [], vs, h, _ => by
  simp only [evs, RM.run] at h; injection h with h; subst h
  exact ⟨rfl, fun i x v h => by simp at h⟩
 | x :: xs, y :: ys, vs, h, hc => by
  simp only [J3w, Bool.and_eq_true] at hc
  simp only [evs] at h
  obtain ⟨u, h1, h⟩ := bind_some h
  obtain ⟨us, h2, h⟩ := bind_some h
  simp only [RM.run] at h; injection h with h; subst h
  obtain ⟨l, r⟩ := J8l he h2 hc.2
  refine ⟨by simp [l], fun i z v hz hv => ?_⟩
  cases i with
  | zero => simp at hz hv; subst hz hv; exact Jy he h1 hc.1
  | succ i => simp at hz hv; exact r i z v hz (by simpa using hv)
 | [], _ :: _, _, _, hc => by simp [J3w] at hc
 | _ :: _, [], _, _, hc => by simp [J3w] at hc
def J08 (P : Program) (o : Oper) (a : Act) (s : Sn) (e : Eff) : Prop :=
 ∀ (next : Act → World → Prop) (Q : Exit → Act → World → Prop),
  (∀ v w' g', Inv ⟨upd e.ws s.σ, g', w'⟩ → Ju s ⟨upd e.ws s.σ, g', w'⟩ → Ji ⟨upd e.ws s.σ, g', w'⟩ e.val v → next (a.put o.dst v) w') →
  o.wp P a s.w next Q
theorem J14 {o : Oper} {e : Eff} {v : Value} {w' : World} {g' : Gh} (hr : (execOp a.eval o).run P s.w = .ok (.value v) w')
  (hi : Inv ⟨upd e.ws s.σ, g', w'⟩) (t : Ju s ⟨upd e.ws s.σ, g', w'⟩) (hv : Ji ⟨upd e.ws s.σ, g', w'⟩ e.val v) : J08 P o a s e := by
 intro next Q h
 simp only [Oper.wp, hr, Oper.upon]
 exact h v w' g' hi t hv
theorem Jj {o : Oper} {x : AV} {v : Value} (hi : Inv s) (hr : (execOp a.eval o).run P s.w = .ok (.value v) s.w) (hv : Ji s x v) : J08 P o a s ⟨x, []⟩ :=
 J14 (e := ⟨x, []⟩) (g' := s.g) hr hi (.refl s) hv
theorem Jb6 {t : TypeId} {i : TypeInfo} (h : P.info? t = some i) (w : World) : (typeInfo t).run P w = .ok i w := by
 simp [typeInfo, h]
theorem J1x {t : TypeId} {n : Nat} (h : szT P t = some n) (w : World) : (sizeOf t).run P w = .ok n w := by
 unfold szT at h
 cases hi : P.info? t with
 | none => rw [hi] at h; cases h
 | some i => rw [hi] at h; simp at h; simp [sizeOf, Jb6 hi, h]
theorem J8i {t : TypeId} {b : Bool} (h : agT P t = some b) (w : World) : (isAgg t).run P w = .ok b w := by
 unfold agT at h
 cases hu : P.underlying t with
 | none => rw [hu] at h; cases h
 | some d =>
  rw [hu] at h; simp at h
  simp only [isAgg, Sem.run_bind, run_underlying hu, Result.andThen_ok]
  subst h
  cases d <;> rfl
theorem J0S {t e : TypeId} (h : elT P t = some e) : P.underlying t = some (.slice e) := by
 unfold elT at h
 split at h
 ·injection h with h; subst h; assumption
 ·cases h
theorem J4f {t : TypeId} (h : J3Y P t = true) : P.underlying t = some .string := by
 unfold J3Y at h; split at h
 ·assumption
 ·cases h
theorem Jiq {t : TypeId} (h : Jlc P t = true) : P.underlying t = some (.int .u8) := by
 unfold Jlc at h; split at h
 ·assumption
 ·cases h
theorem JjJ {t : TypeId} (h : Jfl P t = true) : P.underlying t = some .bool := by
 unfold Jfl at h; split at h
 ·assumption
 ·cases h
theorem JmT {t : TypeId} (h : Jm9 P t = true) : ∃ k, P.underlying t = some (.int k) := by
 unfold Jm9 at h; split at h
 ·exact ⟨_, by assumption⟩
 ·cases h
theorem Jll {t : TypeId} {k : IntKind} (h : JiR P k t = true) : P.underlying t = some (.int k) := by
 unfold JiR at h; split at h
 ·rename_i k' hk
  have : k = k' := by simpa using h
  subst this; exact hk
 ·cases h
theorem JcO {t e : TypeId} {n : Nat} (h : arT P t = some (n, e)) : P.underlying t = some (.array n e) := by
 unfold arT at h; split at h
 ·simp at h; obtain ⟨rfl, rfl⟩ := h; assumption
 ·cases h
theorem Jio {t : TypeId} {fs : Array Field} (h : flT P t = some fs) : P.underlying t = some (.struct fs) := by
 unfold flT at h; split at h
 ·simp at h; subst h; assumption
 ·cases h
theorem J2w {x k n} (h : Ji s (.p (.i k n)) x) : x = .int k n := by cases h with | p _ _ h => cases h; rfl
theorem Jeo {x n} (h : Ji s (.p (.b n)) x) : x = .bool n := by cases h with | p _ _ h => cases h; rfl
theorem J6I {x l} (h : Ji s (.p (.s l)) x) : x = .string ⟨l.toArray⟩ := by cases h with | p _ _ h => cases h; rfl
theorem Jr1 {x} (h : Ji s (.p .np) x) : x = .pointer none := by cases h with | p _ _ h => cases h; rfl
theorem JqW {x} (h : Ji s (.p .nf) x) : x = .nilFunc := by cases h with | p _ _ h => cases h; rfl
theorem J3q (k n) : Ji s (.p (.i k n)) (.int k n) := .p _ _ (.i _ _)
theorem J3o (n) : Ji s (.p (.b n)) (.bool n) := .p _ _ (.b _)
theorem Jc6 (l) : Ji s (.p (.s l)) (.string ⟨l.toArray⟩) := .p _ _ (.s _)
theorem Jgm (l : List UInt8) : ByteArray.toList ⟨l.toArray⟩ = l := by rw [ByteArray.toList_eq]
theorem J5o (l : List UInt8) : ByteArray.size ⟨l.toArray⟩ = l.length := by simp [ByteArray.size]
theorem Jmy (l m : List UInt8) : (⟨l.toArray⟩ : ByteArray) ++ ⟨m.toArray⟩ = ⟨(l ++ m).toArray⟩ := by
 apply ByteArray.ext
 rw [ByteArray.data_append]
 simp
theorem JjP {op : BinOp} {k : IntKind} {x y : Int} {t : TypeId} {r : PV} (hns : op ≠ .shl) (hnr : op ≠ .shr) (h : Jdf op k x y = some r) (w : World) :
    ∃ v, (binOp op t (.int k x) (.int k y)).run P w = .ok v w ∧ Jp s.w s.g.C r v := by
  cases op <;> simp only [Jdf] at h
  case add => injection h with h; subst h; exact ⟨_, by simp [binOp, Op.intArith], .i _ _⟩
  case sub => injection h with h; subst h; exact ⟨_, by simp [binOp, Op.intArith], .i _ _⟩
  case mul => injection h with h; subst h; exact ⟨_, by simp [binOp, Op.intArith], .i _ _⟩
  case quo => split at h
              · cases h
              · rename_i hy; injection h with h; subst h; exact ⟨_, by simp [binOp, Op.intDiv, hy], .i _ _⟩
  case rem => split at h
              · cases h
              · rename_i hy; injection h with h; subst h; exact ⟨_, by simp [binOp, Op.intDiv, hy], .i _ _⟩
  case and => injection h with h; subst h; exact ⟨_, by simp [binOp, Op.intBits], .i _ _⟩
  case or => injection h with h; subst h; exact ⟨_, by simp [binOp, Op.intBits], .i _ _⟩
  case xor => injection h with h; subst h; exact ⟨_, by simp [binOp, Op.intBits], .i _ _⟩
  case eql => injection h with h; subst h; exact ⟨_, by simp [binOp, Op.intCmp], .b _⟩
  case neq => injection h with h; subst h; exact ⟨_, by simp [binOp, Op.intCmp], .b _⟩
  case lss => injection h with h; subst h; exact ⟨_, by simp [binOp, Op.intCmp], .b _⟩
  case leq => injection h with h; subst h; exact ⟨_, by simp [binOp, Op.intCmp], .b _⟩
  case gtr => injection h with h; subst h; exact ⟨_, by simp [binOp, Op.intCmp], .b _⟩
  case geq => injection h with h; subst h; exact ⟨_, by simp [binOp, Op.intCmp], .b _⟩
  all_goals simp_all
theorem JaL {op : BinOp} {k k' : IntKind} {x y : Int} {t : TypeId} {r : PV} (hs : op = .shl ∨ op = .shr) (h : J8B op k x y = some r) (w : World) :
  ∃ v, (binOp op t (.int k x) (.int k' y)).run P w = .ok v w ∧ Jp s.w s.g.C r v := by
 unfold J8B at h
 split at h
 ·cases h
 ·rename_i hy
  rcases hs with rfl | rfl
  ·injection h with h; subst h; exact ⟨_, by simp [binOp, Op.shift, hy], .i _ _⟩
  ·injection h with h; subst h; exact ⟨_, by simp [binOp, Op.shift, hy], .i _ _⟩
theorem JjE {op : BinOp} {x y : List UInt8} {t : TypeId} {r : PV} (h : Jdr op x y = some r) (w : World) :
  ∃ v, (binOp op t (.string ⟨x.toArray⟩) (.string ⟨y.toArray⟩)).run P w = .ok v w ∧ Jp s.w s.g.C r v := by
 cases op <;> simp only [Jdr] at h
 case add =>
  split at h
  ·rename_i hl
   injection h with h; subst h
   refine ⟨.string ⟨(x ++ y).toArray⟩, ?_, .s _⟩
   have h1 : ¬ (((ByteArray.size ⟨x.toArray⟩ + ByteArray.size ⟨y.toArray⟩ : Nat) : Int) > IntKind.i64.max) := by
    rw [J5o, J5o]
    show ¬ (_ > (9223372036854775807 : Int))
    omega
   simp only [binOp, Op.stringOp]
   rw [if_neg h1, Jmy]
   rfl
  ·cases h
 case eql => injection h with h; subst h; exact ⟨.bool (x == y), by simp [binOp, Op.stringOp], .b _⟩
 case neq => injection h with h; subst h; exact ⟨.bool (!(x == y)), by simp [binOp, Op.stringOp], .b _⟩
 case lss => injection h with h; subst h; exact ⟨.bool (Op.bytesLess x y), by simp [binOp, Op.stringOp], .b _⟩
 case leq => injection h with h; subst h; exact ⟨.bool (Op.bytesLess x y || x == y), by simp [binOp, Op.stringOp], .b _⟩
 case gtr => injection h with h; subst h; exact ⟨.bool (!(Op.bytesLess x y || x == y)), by simp [binOp, Op.stringOp], .b _⟩
 case geq => injection h with h; subst h; exact ⟨.bool (!Op.bytesLess x y), by simp [binOp, Op.stringOp], .b _⟩
 all_goals cases h
end
end Go.Am
end
section
namespace Go.Am
section
variable {P : Program} {F : Orc} {s : Sn} {a : Act} {env : List (Nat × AV)} {o : Oper} {new : Nat} {e : Eff}
theorem JsT (hi : Inv s) (he : JC s a.tmps env) {x} (h : (opR F (.mv x) new).run ⟨env, s.σ⟩ = some e) (hc : Jo P (.mv x) o.op = true) : J08 P o a s e := by
 simp only [opR] at h
 obtain ⟨v, h1, h⟩ := bind_some h
 simp only [RM.run] at h; injection h with h; subst h
 unfold Jo at hc
 simp only at hc
 split at hc
 ·rename_i y hop
  exact Jj hi (by simp only [execOp, hop]; rfl) (Jy he h1 hc)
 ·rename_i y hop
  exact Jj hi (by simp only [execOp, hop]; rfl) (Jy he h1 hc)
 ·cases hc
theorem Jq3 (hi : Inv s) (he : JC s a.tmps env) {c x y} (h : (opR F (.pick c x y) new).run ⟨env, s.σ⟩ = some e) (hc : Jo P (.pick c x y) o.op = true) : J08 P o a s e := by
 simp only [opR] at h
 obtain ⟨v, h1, h⟩ := bind_some h
 unfold Jo at hc
 simp only at hc
 split at hc
 ·rename_i c' x' y' hop
  simp only [Bool.and_eq_true] at hc
  split at h
  ·rename_i b
   have hb := Jeo (Jy he h1 hc.1.1)
   split at h
   ·rename_i hbt
    obtain ⟨u, h2, h⟩ := bind_some h
    simp only [RM.run] at h; injection h with h; subst h
    exact Jj hi (v := a.eval x') (by simp [execOp, hop, hb, hbt, asBool]) (Jy he h2 hc.1.2)
   ·rename_i hbt
    obtain ⟨u, h2, h⟩ := bind_some h
    simp only [RM.run] at h; injection h with h; subst h
    have hbt : b = false := by simpa using hbt
    exact Jj hi (v := a.eval y') (by simp [execOp, hop, hb, hbt, asBool]) (Jy he h2 hc.2)
  ·simp only [RM.run] at h; cases h
 ·cases hc
theorem Jng (hi : Inv s) (he : JC s a.tmps env) {x} (h : (opR F (.nilchk x) new).run ⟨env, s.σ⟩ = some e) (hc : Jo P (.nilchk x) o.op = true) : J08 P o a s e := by
 simp only [opR] at h
 obtain ⟨v, h1, h⟩ := bind_some h
 unfold Jo at hc
 simp only at hc
 split at hc
 ·rename_i y hop
  have hr := Jy he h1 hc
  split at h <;> (simp only [RM.run] at h; try cases h)
  ·refine Jj hi (v := a.eval y) ?_ hr
   generalize hu : a.eval y = u at hr
   cases hr
   simp [execOp, hop, hu]
  ·refine Jj hi (v := a.eval y) ?_ hr
   generalize hu : a.eval y = u at hr
   cases hr
   simp [execOp, hop, hu]
  ·refine Jj hi (v := a.eval y) ?_ hr
   generalize hu : a.eval y = u at hr
   cases hr with
   | ep _ _ _ _ _ _ _ _ h0 =>
    obtain ⟨r, o', rfl⟩ := h0
    simp [execOp, hop, hu]
  ·refine Jj hi (v := a.eval y) ?_ hr
   generalize hu : a.eval y = u at hr
   cases hr
   simp [execOp, hop, hu]
 ·cases hc
theorem J5a {op : BinOp} {t : TypeId} {x y : Operand} {u v : Value} (h : (∀ c, u ≠ .agg c) ∧ u ≠ .nilIface) (w : World) : (eqGuard op t x y u v).run P w = .ok () w := by
 unfold eqGuard
 cases op <;> simp
 all_goals (cases u <;> simp_all)
theorem JiN (hi : Inv s) (he : JC s a.tmps env) {op x y} (h : (opR F (.bin op .plain x y) new).run ⟨env, s.σ⟩ = some e) (hc : Jo P (.bin op .plain x y) o.op = true) : J08 P o a s e := by
 simp only [opR] at h
 obtain ⟨u, h1, h⟩ := bind_some h
 obtain ⟨v, h2, h⟩ := bind_some h
 obtain ⟨r, h3, rfl⟩ := J0P h
 unfold Jo at hc
 simp only at hc
 split at hc
 ·rename_i op' t x' y' ty hop
  simp only [Bool.and_eq_true, beq_iff_eq] at hc
  obtain ⟨⟨rfl, hx⟩, hy⟩ := hc
  have rx := Jy he h1 hx
  have ry := Jy he h2 hy
  have hex : ∀ {z : Value}, (∀ c, a.eval x' ≠ .agg c) ∧ a.eval x' ≠ .nilIface → (binOp op t (a.eval x') (a.eval y')).run P s.w = .ok z s.w → (execOp a.eval o).run P s.w = .ok (.value z) s.w := by
   intro z hg hz
   simp [execOp, hop, J5a hg, hz]
  simp only [J7L] at h3
  split at h3
  ·rename_i xk p yk q
   rw [J2w rx, J2w ry] at hex
   split at h3
   ·obtain ⟨z, hz, rfl⟩ := Option.map_eq_some_iff.1 h3
    obtain ⟨v, hv, hr⟩ := JaL (s := s) (P := P) (t := t) (.inl rfl) hz s.w
    exact Jj hi (hex (by simp) hv) (.p _ _ hr)
   ·obtain ⟨z, hz, rfl⟩ := Option.map_eq_some_iff.1 h3
    obtain ⟨v, hv, hr⟩ := JaL (s := s) (P := P) (t := t) (.inr rfl) hz s.w
    exact Jj hi (hex (by simp) hv) (.p _ _ hr)
   ·rename_i n1 n2
    split at h3
    ·rename_i hk; subst hk
     obtain ⟨z, hz, rfl⟩ := Option.map_eq_some_iff.1 h3
     obtain ⟨v, hv, hr⟩ := JjP (s := s) (P := P) (t := t) (fun e => n1 e) (fun e => n2 e) hz s.w
     exact Jj hi (hex (by simp) hv) (.p _ _ hr)
    ·cases h3
  ·rw [J6I rx, J6I ry] at hex
   obtain ⟨z, hz, rfl⟩ := Option.map_eq_some_iff.1 h3
   obtain ⟨v, hv, hr⟩ := JjE (s := s) (P := P) (t := t) hz s.w
   exact Jj hi (hex (by simp) hv) (.p _ _ hr)
  ·cases h3
 ·cases hc
theorem JjY (hi : Inv s) (he : JC s a.tmps env) {op x y} (h : (opR F (.bin op .bool x y) new).run ⟨env, s.σ⟩ = some e) (hc : Jo P (.bin op .bool x y) o.op = true) : J08 P o a s e := by
 simp only [opR] at h
 obtain ⟨u, h1, h'⟩ := bind_some h
 obtain ⟨v, h2, h''⟩ := bind_some h'
 obtain ⟨r, h3, rfl⟩ := J0P h''
 clear h h' h''
 unfold Jo at hc
 simp only at hc
 split at hc
 ·rename_i op' t x' y' ty hop
  simp only [Bool.and_eq_true, beq_iff_eq] at hc
  obtain ⟨⟨rfl, hx⟩, hy, ht⟩ := hc
  have rx := Jy he h1 hx
  have ry := Jy he h2 hy
  have hb := JjJ ht
  simp only [J7L] at h3
  split at h3
  ·rename_i _ _ p q
   have ex := Jeo rx
   have ey := Jeo ry
   cases op <;> simp only [J5y] at h3 <;> first | (injection h3 with h3; subst h3) | cases h3
   ·exact Jj hi (v := .bool (p == q)) (by simp [execOp, hop, ex, ey, eqGuard, binOp, run_equal_bool, hb]) (J3o _)
   ·exact Jj hi (v := .bool (!(p == q))) (by simp [execOp, hop, ex, ey, eqGuard, binOp, run_equal_bool, hb]) (J3o _)
  ·cases h3
 ·cases hc
theorem J88 {op : BinOp} {t : TypeId} {u v : Value} {b : Bool} (ho : op = .eql ∨ op = .neq) {w : World} (h : (Op.equal t u v).run P w = .ok b w)
  (hu : (∃ x n c, u = .slice x n c) ∨ (∃ p, u = .pointer p ∧ v = .pointer none) ∨ u = .nilFunc ∨ (∃ f y c, u = .func f y c)) :
  (binOp op t u v).run P w = .ok (.bool (if op = .eql then b else !b)) w := by
 rcases ho with rfl | rfl
 ·have : binOp .eql t u v = (do pure (.bool (← Op.equal t u v))) := by
   rcases hu with ⟨x, n, c, rfl⟩ | ⟨p, rfl, rfl⟩ | rfl | ⟨f, y, c, rfl⟩ <;> simp [binOp]
  rw [this]; simp [h]
 ·have : binOp .neq t u v = (do pure (.bool (!(← Op.equal t u v)))) := by
   rcases hu with ⟨x, n, c, rfl⟩ | ⟨p, rfl, rfl⟩ | rfl | ⟨f, y, c, rfl⟩ <;> simp [binOp]
  rw [this]; simp [h]
theorem J3G {op : BinOp} {b : Bool} {r : AV} (h : J5y op (some b) = some r) : (op = .eql ∨ op = .neq) ∧ r = .p (.b (if op = .eql then b else !b)) := by
 cases op <;> simp [J5y] at h
 ·exact ⟨.inl rfl, by simp [← h]⟩
 ·exact ⟨.inr rfl, by simp [← h]⟩
theorem Jg9 {op : BinOp} {r : AV} (h : JhX op = some r) : (op = .eql ∨ op = .neq) ∧ r = .unk := by
 cases op <;> simp [JhX] at h
 ·exact ⟨.inl rfl, h.symm⟩
 ·exact ⟨.inr rfl, h.symm⟩
theorem Jjx (hi : Inv s) (he : JC s a.tmps env) {op x y} (h : (opR F (.bin op .nils x y) new).run ⟨env, s.σ⟩ = some e) (hc : Jo P (.bin op .nils x y) o.op = true) : J08 P o a s e := by
 simp only [opR] at h
 obtain ⟨u, h1, h'⟩ := bind_some h
 obtain ⟨v, h2, h''⟩ := bind_some h'
 obtain ⟨r, h3, rfl⟩ := J0P h''
 clear h h' h'' h2
 unfold Jo at hc
 simp only at hc
 split at hc
 ·rename_i op' t x' y' ty hop
  simp only [Bool.and_eq_true, beq_iff_eq] at hc
  obtain ⟨⟨rfl, hx⟩, ht⟩ := hc
  have rx := Jy he h1 hx
  clear h1
  have hy : y' = .const (.slice none 0 0) ∧ ∃ el, P.underlying t = some (.slice el) := by
   unfold Jss at ht
   split at ht
   ·obtain ⟨el, hel⟩ := Option.isSome_iff_exists.1 ht
    exact ⟨rfl, el, J0S hel⟩
   ·cases ht
  obtain ⟨rfl, el, hu⟩ := hy
  have go : ∀ (z : Option Addr) (n c : Nat), a.eval x' = .slice z n c → (op = .eql ∨ op = .neq) →
    (execOp a.eval o).run P s.w = .ok (.value (.bool (if op = .eql then z.isNone else !z.isNone))) s.w := by
   intro z n c hz ho
   have h1 := J88 (P := P) (t := t) ho (run_equal_slice_nil s.w t el z n c hu) (.inl ⟨z, n, c, rfl⟩)
   simp only [execOp, hop, hz]
   simp only [Sem.run_bind, J5a (P := P) (u := .slice z n c) (by simp), Act.eval, h1, Result.andThen_ok, Sem.run_pure]
  simp only [J7L] at h3
  split at h3
  ·rename_i esz rows
   cases rx with
   | p _ _ rp =>
    split at h3
    ·obtain ⟨ho, rfl⟩ := Jg9 h3
     generalize hz : a.eval x' = z at rp
     cases rp with
     | sl0 _ ad cap => exact Jj hi (go _ _ _ hz ho) (.unk _)
     | sl _ _ r o' cap vals => exact Jj hi (go _ _ _ hz ho) (.unk _)
    ·obtain ⟨ho, rfl⟩ := J3G h3
     generalize hz : a.eval x' = z at rp
     cases rp with
     | sl _ _ r o' cap vals => exact Jj hi (go _ _ _ hz ho) (J3o _)
  ·rename_i b i n
   generalize hz : a.eval x' = z at rx
   cases rx with
   | slr _ _ _ _ wm esz rows h0 =>
    obtain ⟨ad, cap, rfl, hn⟩ := h0
    split at h3
    ·obtain ⟨ho, rfl⟩ := Jg9 h3
     exact Jj hi (go _ _ _ hz ho) (.unk _)
    ·rename_i hn0
     obtain ⟨ho, rfl⟩ := J3G h3
     have : ad.isNone = false := by
      cases ad with
      | none => exact absurd (hn.resolve_left hn0) (by simp)
      | some _ => rfl
     have h4 := go _ _ _ hz ho
     rw [this] at h4
     exact Jj hi h4 (J3o _)
  ·cases h3
 ·cases hc
theorem Jk3 (hi : Inv s) (he : JC s a.tmps env) {op x y} (h : (opR F (.bin op .nilp x y) new).run ⟨env, s.σ⟩ = some e) (hc : Jo P (.bin op .nilp x y) o.op = true) : J08 P o a s e := by
 simp only [opR] at h
 obtain ⟨u, h1, h'⟩ := bind_some h
 obtain ⟨v, h2, h''⟩ := bind_some h'
 obtain ⟨r, h3, rfl⟩ := J0P h''
 clear h h' h'' h2
 unfold Jo at hc
 simp only at hc
 split at hc
 ·rename_i op' t x' y' ty hop
  simp only [Bool.and_eq_true, beq_iff_eq] at hc
  obtain ⟨⟨rfl, hx⟩, ht⟩ := hc
  have rx := Jy he h1 hx
  clear h1
  have hy : y' = .const (.pointer none) ∧ ∃ el, P.underlying t = some (.pointer el) := by
   unfold JpP at ht
   split at ht
   ·split at ht
    ·exact ⟨rfl, _, by assumption⟩
    ·cases ht
   ·cases ht
  obtain ⟨rfl, el, hu⟩ := hy
  have go : ∀ (z : Option Addr), a.eval x' = .pointer z → (op = .eql ∨ op = .neq) →
    (execOp a.eval o).run P s.w = .ok (.value (.bool (if op = .eql then z.isNone else !z.isNone))) s.w := by
   intro z hz ho
   have : P.pointee t = el := by simp [Program.pointee, hu]
   have h1 := J88 (P := P) (t := t) ho (run_equal_pointer_nil s.w t z (by rw [this]; exact hu)) (.inr (.inl ⟨z, rfl, rfl⟩))
   simp only [execOp, hop, hz]
   simp only [Sem.run_bind, J5a (P := P) (u := .pointer z) (by simp), Act.eval, h1, Result.andThen_ok, Sem.run_pure]
  simp only [J7L] at h3
  generalize hz : a.eval x' = z at rx
  split at h3
  ·obtain ⟨ho, rfl⟩ := J3G h3
   have := Jr1 rx; subst this
   exact Jj hi (go _ hz ho) (J3o _)
  ·obtain ⟨ho, rfl⟩ := J3G h3
   cases rx
   exact Jj hi (go _ hz ho) (J3o _)
  ·obtain ⟨ho, rfl⟩ := J3G h3
   cases rx
   exact Jj hi (go _ hz ho) (J3o _)
  ·obtain ⟨ho, rfl⟩ := J3G h3
   cases rx with
   | ep _ _ _ _ _ _ _ _ h0 =>
    obtain ⟨r, o', rfl⟩ := h0
    exact Jj hi (go _ hz ho) (J3o _)
  ·cases h3
 ·cases hc
theorem JjH (hi : Inv s) (he : JC s a.tmps env) {op x y} (h : (opR F (.bin op .nilf x y) new).run ⟨env, s.σ⟩ = some e) (hc : Jo P (.bin op .nilf x y) o.op = true) : J08 P o a s e := by
 simp only [opR] at h
 obtain ⟨u, h1, h'⟩ := bind_some h
 obtain ⟨v, h2, h''⟩ := bind_some h'
 obtain ⟨r, h3, rfl⟩ := J0P h''
 clear h h' h'' h2
 unfold Jo at hc
 simp only at hc
 split at hc
 ·rename_i op' t x' y' ty hop
  simp only [Bool.and_eq_true, beq_iff_eq] at hc
  obtain ⟨⟨rfl, hx⟩, ht⟩ := hc
  have rx := Jy he h1 hx
  clear h1
  have hy : y' = .const .nilFunc ∧ ∃ p r v, P.underlying t = some (.func p r v) := by
   unfold JrY at ht
   split at ht
   ·split at ht
    ·exact ⟨rfl, _, _, _, by assumption⟩
    ·cases ht
   ·cases ht
  obtain ⟨rfl, p, rr, vv, hu⟩ := hy
  simp only [J7L] at h3
  generalize hz : a.eval x' = z at rx
  split at h3
  ·obtain ⟨ho, rfl⟩ := J3G h3
   have := JqW rx; subst this
   have heq : (Op.equal t .nilFunc .nilFunc).run P s.w = .ok true s.w := by
    have : ∀ d, (Op.equalIn (d + 1) t .nilFunc .nilFunc).run P s.w = .ok true s.w := fun d => by simp [Op.equalIn, run_underlying hu]
    exact this 9999
   have h1 := J88 (P := P) (t := t) ho heq (.inr (.inr (.inl rfl)))
   refine Jj hi ?_ (J3o _)
   simp only [execOp, hop, hz]
   simp only [Sem.run_bind, J5a (P := P) (u := .nilFunc) (by simp), Act.eval, h1, Result.andThen_ok, Sem.run_pure]
  ·obtain ⟨ho, rfl⟩ := J3G h3
   cases rx
   rename_i f _ _ fs cs _ _ _ _
   have heq : (Op.equal t (.func (.func f) fs cs) .nilFunc).run P s.w = .ok false s.w := by
    have : ∀ d, (Op.equalIn (d + 1) t (.func (.func f) fs cs) .nilFunc).run P s.w = .ok false s.w := fun d => by simp [Op.equalIn, run_underlying hu]
    exact this 9999
   have h1 := J88 (P := P) (t := t) ho heq (.inr (.inr (.inr ⟨_, _, _, rfl⟩)))
   refine Jj hi ?_ (J3o _)
   simp only [execOp, hop, hz]
   simp only [Sem.run_bind, J5a (P := P) (u := .func (.func f) fs cs) (by simp), Act.eval, h1, Result.andThen_ok, Sem.run_pure]
  ·cases h3
 ·cases hc
end
end Go.Am
end
section
namespace Go.Am
theorem J4R : ∀ {vs : List Value} {w : World} {r o : Nat} {c : Array Value} {e : TypeId} {fz : Nat × Nat}, w.heap[r]? = some (.cells c e fz) → o + vs.length ≤ c.size →
  Put r o vs w (w.setCells r o vs)
 | [], w, r, o, c, e, fz, h, hl => ⟨⟨c, e, fz, c, h, h, rfl, hl, fun j v hj => by simp at hj, fun _ _ => rfl⟩, fun _ _ => rfl, rfl, rfl, rfl⟩
 | v :: vs, w, r, o, c, e, fz, h, hl => by
  have hr := J0h h
  have hl' : o + 1 + vs.length ≤ c.size := by simp at hl; omega
  have h1 : (w.setCell ⟨r, o, none⟩ v).heap[r]? = some (.cells (c.setIfInBounds o v) e fz) := by
   simp [World.setCell, Array.getElem?_modify, h]
  obtain ⟨⟨c1, e1, fz1, c', p1, p2, p3, p4, p5, p6⟩, q1, q2, q3, q4⟩ := J4R (vs := vs) (o := o + 1) h1 (by simpa using hl')
  rw [h1] at p1; injection p1 with p1; injection p1 with a1 a2 a3; subst a1 a2 a3
  refine ⟨⟨c, e, fz, c', h, p2, by simpa using p3, hl, fun j u hj => ?_, fun k hk => ?_⟩, fun r' hne => ?_, ?_, q3, q4⟩
  ·cases j with
   | zero =>
    simp at hj; subst hj
    rw [Nat.add_zero, p6 o (.inl (by omega))]
    have : o < c.size := by simp at hl; omega
    simp [this]
   | succ j =>
    have := p5 j u (by simpa using hj)
    rwa [show o + (j + 1) = o + 1 + j by omega]
  ·rw [p6 k (by simp at hk; omega)]
   have : o ≠ k := by simp at hk; omega
   simp [Array.getElem?_setIfInBounds, this]
  ·show ((w.setCell ⟨r, o, none⟩ v).setCells r (o + 1) vs).heap[r']? = _
   rw [q1 r' hne]
   simp [World.setCell, Array.getElem?_modify, Ne.symm hne]
  ·show ((w.setCell ⟨r, o, none⟩ v).setCells r (o + 1) vs).heap.size = _
   rw [q2]; simp [World.setCell]
theorem Jp.one {w C x v} (h : Jp w C x v) : v.oneCell' = true := by cases h <;> rfl
theorem Jp.cells1 {w C x v} (h : Jp w C x v) : v.cells = #[v] := by cases h <;> rfl
section
variable {P : Program} {F : Orc} {s : Sn} {a : Act} {env : List (Nat × AV)} {o : Oper} {new : Nat} {e : Eff}
theorem JsL (hi : Inv s) (he : JC s a.tmps env) {op x} (h : (opR F (.un op x) new).run ⟨env, s.σ⟩ = some e) (hc : Jo P (.un op x) o.op = true) : J08 P o a s e := by
 simp only [opR] at h
 obtain ⟨u, h1, h'⟩ := bind_some h
 obtain ⟨r, h3, rfl⟩ := J0P h'
 clear h h'
 unfold Jo at hc
 simp only at hc
 split at hc
 ·rename_i op' t y hop
  simp only [Bool.and_eq_true, beq_iff_eq] at hc
  obtain ⟨rfl, hx⟩ := hc
  have rx := Jy he h1 hx
  clear h1
  generalize hz : a.eval y = z at rx
  unfold unP at h3
  split at h3 <;> first | (injection h3 with h3; subst h3) | cases h3
  ·rename_i k n
   have := J2w rx; subst this
   exact Jj hi (v := .int k (k.wrap (0 - n))) (by simp [execOp, hop, hz, Op.unary, Op.intArith]) (J3q _ _)
  ·rename_i k n
   have := J2w rx; subst this
   exact Jj hi (v := .int k (k.wrap (BitVec.ofInt k.bits (if k.signed then -1 else k.max) ^^^ BitVec.ofInt k.bits n).toNat)) (by simp [execOp, hop, hz, Op.unary, Op.intBits]) (J3q _ _)
  ·rename_i b
   have := Jeo rx; subst this
   exact Jj hi (v := .bool (!b)) (by simp [execOp, hop, hz, Op.unary]) (J3o _)
  ·cases rx with
   | unk b => exact Jj hi (v := .bool (!b)) (by simp [execOp, hop, hz, Op.unary]) (.unk _)
 ·cases hc
theorem Jpo (hi : Inv s) (he : JC s a.tmps env) {off x} (h : (opR F (.faddr off x) new).run ⟨env, s.σ⟩ = some e) (hc : Jo P (.faddr off x) o.op = true) : J08 P o a s e := by
 simp only [opR] at h
 obtain ⟨u, h1, h'⟩ := bind_some h
 obtain ⟨r, h3, rfl⟩ := J0P h'
 clear h h'
 unfold Jo at hc
 simp only at hc
 split at hc
 ·rename_i t y f hop
  simp only [Bool.and_eq_true] at hc
  obtain ⟨hx, ht⟩ := hc
  have rx := Jy he h1 hx
  clear h1
  have hf : ∃ fs fl n, P.underlying t = some (.struct fs) ∧ fs[f]? = some fl ∧ fl.offset = off ∧ szT P fl.type = some n ∧ n ≠ 0 := by
   split at ht
   ·rename_i fs hfs
    split at ht
    ·rename_i fl hfl
     simp only [Bool.and_eq_true, beq_iff_eq] at ht
     obtain ⟨h4, h5⟩ := ht
     split at h5
     ·rename_i n hn
      exact ⟨fs, fl, n, Jio hfs, hfl, h4, hn, by simpa using h5⟩
     ·cases h5
    ·cases ht
   ·cases ht
  obtain ⟨fs, fl, n, hu, hfl, rfl, hn, hn0⟩ := hf
  have go : ∀ (r o' : Nat), a.eval y = .pointer (some ⟨r, o', none⟩) → (execOp a.eval o).run P s.w = .ok (.value (.pointer (some ⟨r, o' + fl.offset, none⟩))) s.w := by
   intro r o' hz
   have hadd : Addr.add ⟨r, o', none⟩ fl.offset = ⟨r, o' + fl.offset, none⟩ := by unfold Addr.add; split <;> simp_all
   simp only [execOp, hop, hz]
   simp [Instr.fieldAt, run_underlying hu, hfl, Instr.sureAddr, fieldPlace, J1x hn, hn0, hadd]
  generalize hz : a.eval y = z at rx
  unfold Jbn at h3
  split at h3 <;> first | (injection h3 with h3; subst h3) | cases h3
  ·cases rx with
   | ptr _ _ r o' m hb => exact Jj hi (go _ _ hz) (by rw [Nat.add_assoc]; exact .ptr _ _ r o' m hb)
  ·cases rx with
   | cp cs _ r o' vals p1 p2 => exact Jj hi (go _ _ hz) (by rw [Nat.add_assoc]; exact .cp _ _ r o' vals p1 p2)
  ·cases rx with
   | ep _ _ _ _ _ wm esz rows p0 p1 p2 p3 =>
    obtain ⟨r, o', rfl⟩ := p0
    refine Jj hi (go _ _ hz) (.ep _ _ _ _ _ wm esz rows ⟨_, _, rfl⟩ p1 p2 fun e1 e2 => ?_)
    obtain ⟨r', m, hv⟩ := p3 e1 e2
    simp at hv
    obtain ⟨rfl, rfl⟩ := hv
    exact ⟨r, m, by rw [Nat.add_assoc]⟩
 ·cases hc
theorem Jq1 (hi : Inv s) (he : JC s a.tmps env) {x i} (h : (opR F (.extr x i) new).run ⟨env, s.σ⟩ = some e) (hc : Jo P (.extr x i) o.op = true) : J08 P o a s e := by
 simp only [opR] at h
 obtain ⟨u, h1, h'⟩ := bind_some h
 obtain ⟨r, h3, rfl⟩ := J0P h'
 clear h h'
 unfold Jo at hc
 simp only at hc
 split at hc
 ·rename_i y j hop
  simp only [Bool.and_eq_true, beq_iff_eq] at hc
  obtain ⟨hx, rfl⟩ := hc
  have rx := Jy he h1 hx
  generalize hz : a.eval y = z at rx
  unfold Je0 at h3
  split at h3
  ·cases rx with
   | tup cs vs p1 p2 =>
    have hlt := J9 h3
    have hv : vs[i]? = some vs[i] := by simp
    exact Jj hi (v := vs[i]) (by simp [execOp, hop, hz, Instr.extract, hv]) (p2 i r _ h3 hv)
  ·cases h3
 ·cases hc
theorem JqE (hi : Inv s) (he : JC s a.tmps env) {f first caps} (h : (opR F (.mkfn f first caps) new).run ⟨env, s.σ⟩ = some e) (hc : Jo P (.mkfn f first caps) o.op = true) : J08 P o a s e := by
 simp only [opR] at h
 obtain ⟨u, h1, h'⟩ := bind_some h
 obtain ⟨v, h2, h''⟩ := bind_some h'
 simp only [RM.run] at h''; injection h'' with h''; subst h''
 clear h h'
 unfold Jo at hc
 simp only at hc
 split at hc
 ·rename_i g first' caps' hop
  simp only [Bool.and_eq_true, beq_iff_eq] at hc
  obtain ⟨⟨rfl, hf⟩, hcp⟩ := hc
  obtain ⟨l1, r1⟩ := J8l he h1 hf
  obtain ⟨l2, r2⟩ := J8l he h2 hcp
  refine Jj hi (v := .func (.func f) (first'.map a.eval) (caps'.map a.eval)) (by simp [execOp, hop, Instr.makeFunc]) (.fn _ _ _ _ _ (by simpa using l1) (by simpa using l2) (fun i x v hx hv => r1 i x v hx ?_) (fun i x v hx hv => r2 i x v hx ?_))
  ·simpa using hv
  ·simpa using hv
 ·cases hc
theorem JsR (hi : Inv s) (he : JC s a.tmps env) {mx x y} (h : (opR F (.mm mx x y) new).run ⟨env, s.σ⟩ = some e) (hc : Jo P (.mm mx x y) o.op = true) : J08 P o a s e := by
 simp only [opR] at h
 obtain ⟨u, h1, h'⟩ := bind_some h
 obtain ⟨v, h2, h''⟩ := bind_some h'
 obtain ⟨r, h3, rfl⟩ := J0P h''
 clear h h' h''
 unfold Jo at hc
 simp only at hc
 split at hc
 ·rename_i c hop
  split at hc
  ·rename_i b hcal
   simp only [Bool.and_eq_true, beq_iff_eq] at hc
   obtain ⟨hb, hc⟩ := hc
   split at hc
   ·rename_i x' y' hargs
    simp only [Bool.and_eq_true] at hc
    have rx := Jy he h1 hc.1
    have ry := Jy he h2 hc.2
    have hm : c.args.map a.eval = #[a.eval x', a.eval y'] := by
     apply Array.ext'
     simp [hargs]
    unfold mmP at h3
    split at h3
    ·rename_i k p k' q
     injection h3 with h3; subst h3
     have ex := J2w rx
     have ey := J2w ry
     cases mx
     ·simp only [Bool.false_eq_true, if_false] at hb ⊢
      subst hb
      refine Jj hi (v := .int k (if q < p then q else p)) ?_ (J3q _ _)
      simp [execOp, hop, resolve, hcal, hm, ex, ey, invoke, builtin, Builtin.min_, Builtin.min2]
     ·simp only [if_true] at hb ⊢
      subst hb
      refine Jj hi (v := .int k (if q > p then q else p)) ?_ (J3q _ _)
      simp [execOp, hop, resolve, hcal, hm, ex, ey, invoke, builtin, Builtin.max_, Builtin.max2]
    ·cases h3
   ·cases hc
  ·cases hc
 ·cases hc
theorem JrM (hi : Inv s) (he : JC s a.tmps env) {str x} (h : (opR F (.len str x) new).run ⟨env, s.σ⟩ = some e) (hc : Jo P (.len str x) o.op = true) : J08 P o a s e := by
 simp only [opR] at h
 obtain ⟨u, h1, h'⟩ := bind_some h
 obtain ⟨r, h3, rfl⟩ := J0P h'
 clear h h'
 unfold Jo at hc
 simp only at hc
 split at hc
 ·rename_i c hop
  split at hc
  ·rename_i hcal
   split at hc
   ·rename_i y t hargs htys
    simp only [Bool.and_eq_true] at hc
    obtain ⟨hx, ht⟩ := hc
    have rx := Jy he h1 hx
    have hm : c.args.map a.eval = #[a.eval y] := by apply Array.ext'; simp [hargs]
    have ht0 : c.argTypes[0]? = some t := by rw [← Array.getElem?_toList, htys]; rfl
    generalize hz : a.eval y = z at rx
    have hs : ∀ l : List UInt8, z = .string ⟨l.toArray⟩ → J3Y P t = true → (execOp a.eval o).run P s.w = .ok (.value (.int .i64 l.length)) s.w := by
     intro l hl hst
     have := J4f hst
     simp [execOp, hop, resolve, hcal, hm, hz, hl, invoke, builtin, Builtin.len_, ht0, run_underlying this, goInt, J5o]
    have hsl : ∀ ad n cp, z = .slice ad n cp → (elT P t).isSome = true → (execOp a.eval o).run P s.w = .ok (.value (.int .i64 n)) s.w := by
     intro ad n cp hl hst
     obtain ⟨el, hel⟩ := Option.isSome_iff_exists.1 hst
     have := J0S hel
     simp [execOp, hop, resolve, hcal, hm, hz, hl, invoke, builtin, Builtin.len_, ht0, run_underlying this, goInt]
    unfold JfW at h3
    split at h3 <;> first | (injection h3 with h3; subst h3) | cases h3
    ·exact Jj hi (hs _ (J6I rx) (by simpa using ht)) (J3q _ _)
    ·cases rx with
     | p _ _ rp =>
      cases rp with
      | sl0 _ ad cap => exact Jj hi (hsl _ _ _ rfl (by simpa using ht)) (J3q _ _)
      | sl _ _ r o' cap vals => exact Jj hi (hsl _ _ _ rfl (by simpa using ht)) (J3q _ _)
    ·cases rx with
     | slr _ _ _ _ wm esz rows h0 =>
      obtain ⟨ad, cap, hv, _⟩ := h0
      exact Jj hi (hsl _ _ _ hv (by simpa using ht)) (J3q _ _)
   ·cases hc
  ·cases hc
 ·cases hc
end
end Go.Am
end
section
namespace Go.Am
section
variable {P : Program} {F : Orc} {s : Sn} {a : Act} {env : List (Nat × AV)} {o : Oper} {new : Nat} {e : Eff}
theorem J3T.of_p {s : Sn} {esz rows v} (h : Ji s (.p (.sl esz rows)) v) : J3T s esz rows v := by
 cases h with | p _ _ h => exact .of_sl h
theorem JdN (hi : Inv s) {esz : Nat} {x : AV} {rows : List (List PV)} {v : Value} (h : (J1g esz x).run ⟨env, s.σ⟩ = some rows) (hr : Ji s x v) :
  (∃ l, x = .p (.s l) ∧ esz = 1 ∧ rows = l.map J2B ∧ v = .string ⟨l.toArray⟩) ∨ J3T s esz rows v := by
 unfold J1g at h
 split at h
 ·split at h
  ·rename_i he; subst he
   simp only [RM.run] at h; injection h with h; subst h
   exact .inr (.of_p hr)
  ·cases h
 ·split at h
  ·rename_i l he
   simp only [RM.run] at h; injection h with h; subst h
   exact .inl ⟨l, rfl, he, rfl, J6I hr⟩
  ·cases h
 ·simp only [RM.run] at h
  split at h
  ·rename_i blk hb
   split at h
   ·split at h
    ·rename_i hc
     obtain ⟨rfl, hc⟩ := hc
     simp only [RM.run] at h; injection h with h; subst h
     exact .inr (.of_slr hi hr hb hc)
    ·cases h
   ·cases h
  ·cases h
 ·cases h
theorem JcX {α : Type} {esz : Nat} : ∀ {rows : List (List α)}, (∀ row ∈ rows, row.length = esz) → ∀ {k : Nat} {x : α}, rows.flatten[k]? = some x →
  ∃ i j row, k = i * esz + j ∧ rows[i]? = some row ∧ row[j]? = some x ∧ j < esz
 | [], _, k, x, h => by simp at h
 | r :: rows, hl, k, x, h => by
  simp only [List.flatten_cons] at h
  have hr : r.length = esz := hl r (by simp)
  rcases List.getElem?_append (l₁ := r) (l₂ := rows.flatten) (i := k) ▸ h with h'
  split at h'
  ·exact ⟨0, k, r, by simp, rfl, h', by omega⟩
  ·obtain ⟨i, j, row, e1, e2, e3, e4⟩ := JcX (fun row hm => hl row (by simp [hm])) h'
   exact ⟨i + 1, j, row, by rw [Nat.add_mul]; omega, by simpa using e2, e3, e4⟩
theorem Jax {α : Type} {esz : Nat} : ∀ {rows : List (List α)}, (∀ row ∈ rows, row.length = esz) → rows.flatten.length = rows.length * esz
 | [], _ => by simp
 | r :: rows, hl => by
  have := Jax (rows := rows) (fun row hm => hl row (by simp [hm]))
  have h1 := hl r (by simp)
  simp [this, h1, Nat.add_mul]; omega
theorem J3T.cells {s : Sn} {esz rows v} (h : J3T s esz rows v) :
  ∃ (a : Option Addr) (cap : Nat) (vs : List Value), v = .slice a rows.length cap ∧ rows.length ≤ cap ∧ vs.length = rows.length * esz ∧
   (∀ (k : Nat) x, rows.flatten[k]? = some x → ∃ u, vs[k]? = some u ∧ Jp s.w s.g.C x u) ∧
   (rows = [] ∨ ∃ r o, a = some ⟨r, o, none⟩ ∧ ∀ (k : Nat) u, vs[k]? = some u → cellAt s.w r (o + k) = some u) ∧ (∀ row ∈ rows, row.length = esz) := by
 obtain ⟨a, cap, h1, h2, h3, h4⟩ := h
 rcases h4 with rfl | ⟨r, o, ha, hx⟩
 ·exact ⟨a, cap, [], h1, h2, by simp, fun k x hk => by simp at hk, .inl rfl, h3⟩
 ·refine ⟨a, cap, (List.range (rows.length * esz)).map fun k => (cellAt s.w r (o + k)).getD .nilFunc, h1, h2, by simp, fun k x hk => ?_, .inr ⟨r, o, ha, fun k u hk => ?_⟩, h3⟩
  ·obtain ⟨i, j, row, e1, e2, e3, _⟩ := JcX h3 hk
   obtain ⟨u, hu, hr⟩ := hx i j row x e2 e3
   have hlt := J9 hk
   rw [Jax h3] at hlt
   refine ⟨u, ?_, hr⟩
   rw [List.getElem?_map, List.getElem?_range hlt]
   have : o + k = o + i * esz + j := by omega
   simp [this, hu]
  ·have hlt := J9 hk
   simp at hlt
   rw [List.getElem?_map, List.getElem?_range hlt] at hk
   simp at hk
   have : k < rows.flatten.length := by rw [Jax h3]; exact hlt
   obtain ⟨i, j, row, e1, e2, e3, _⟩ := JcX h3 (List.getElem?_eq_getElem this)
   obtain ⟨u', hu, _⟩ := hx i j row _ e2 e3
   have e4 : o + k = o + i * esz + j := by omega
   rw [e4, hu] at hk ⊢
   simpa using hk
theorem JbQ : ∀ {rows : List (List PV)} {l : List UInt8}, J5b rows = some l → ∃ ns : List Int, rows = ns.map (fun n => [PV.i .u8 n]) ∧ l = ns.map fun n => UInt8.ofNat n.toNat
 | [], l, h => by simp [J5b] at h; exact ⟨[], rfl, by simp [h]⟩
 | row :: rows, l, h => by
  unfold J5b at h
  split at h
  ·simp_all
  ·rename_i n r heq
   injection heq with e1 e2; subst e1 e2
   split at h
   ·rename_i l' hl'
    injection h with h; subst h
    obtain ⟨ns, h1, h2⟩ := JbQ hl'
    exact ⟨n :: ns, by simp [h1], by simp [h2]⟩
   ·cases h
  ·cases h
theorem JlW (ns : List Int) : ∀ b : ByteArray, (ns.foldl (fun r n => r.push (UInt8.ofNat n.toNat)) b) = ⟨b.data ++ (ns.map fun n => UInt8.ofNat n.toNat).toArray⟩ := by
 induction ns with
 | nil => intro b; simp
 | cons n ns ih =>
  intro b
  simp only [List.foldl_cons, ih]
  apply ByteArray.ext
  apply Array.ext'
  simp [ByteArray.push]
theorem J68 (r o n : Nat) : Addr.add ⟨r, o, none⟩ n = ⟨r, o + n, none⟩ := by unfold Addr.add; split <;> simp_all
theorem Jgv {w : World} {r o : Nat} (vs : List Value) (h : ∀ (k : Nat) u, vs[k]? = some u → cellAt w r (o + k) = some u) :
  (loadCells ⟨r, o, none⟩ vs.length).run P w = .ok vs.toArray w :=
 run_loadCells_list w _ vs fun j v hj => by rw [J68, J2d]; exact h j v hj
theorem JqC (hi : Inv s) (he : JC s a.tmps env) {k x} (hk : ∀ own, k ≠ .toBytes own) (h : (opR F (.conv k x) new).run ⟨env, s.σ⟩ = some e) (hc : Jo P (.conv k x) o.op = true) : J08 P o a s e := by
 simp only [opR] at h
 obtain ⟨u, h1, h'⟩ := bind_some h
 clear h
 unfold Jo at hc
 simp only at hc
 split at hc
 ·rename_i src dst y hop
  simp only [Bool.and_eq_true] at hc
  obtain ⟨hx, ht⟩ := hc
  have rx := Jy he h1 hx
  generalize hz : a.eval y = z at rx
  split at h'
  ·rename_i k' k1 n
   simp only [RM.run] at h'; injection h' with h'; subst h'
   simp only [Bool.and_eq_true] at ht
   obtain ⟨ks, hs⟩ := JmT ht.1
   have hd := Jll ht.2
   have := J2w rx; subst this
   exact Jj hi (v := .int k' (k'.wrap n)) (by simp [execOp, hop, hz, convert, run_underlying hs, run_underlying hd, Conv.intToInt]) (J3q _ _)
  ·rename_i l
   simp only [RM.run] at h'; injection h' with h'; subst h'
   simp only [Bool.and_eq_true] at ht
   have hs := J4f ht.1
   have hd := J4f ht.2
   have := J6I rx; subst this
   exact Jj hi (v := .string ⟨l.toArray⟩) (by simp [execOp, hop, hz, convert, run_underlying hs, run_underlying hd]) (Jc6 _)
  ·simp only [Bool.and_eq_true] at ht
   obtain ⟨ht, hd⟩ := ht
   have hd := J4f hd
   split at ht
   ·rename_i el hel
    simp only [Bool.and_eq_true, beq_iff_eq] at ht
    have hs := J0S hel
    have hu8 := Jiq ht.1
    obtain ⟨rows, h4, h5⟩ := bind_some h'
    clear h'
    split at h5
    ·rename_i l hl
     simp only [RM.run] at h5; injection h5 with h5; subst h5
     rcases JdN hi h4 rx with ⟨l', rfl, _, hrows, hv⟩ | hsl
     ·
      have := J6I rx; subst this
      have : l = l' := by
       have : ∀ l : List UInt8, J5b (l.map J2B) = some l := by
        intro l
        induction l with
        | nil => rfl
        | cons b l ih => simp [J5b, J2B, ih]
       rw [hrows, this] at hl
       injection hl with hl; exact hl.symm
      subst this
      exact Jj hi (v := .string ⟨l.toArray⟩) (by simp [execOp, hop, hz, convert, run_underlying hs, run_underlying hd]) (Jc6 _)
     ·obtain ⟨ad, cap, vs, hv, hcap, hlen, hrel, hmem, hrow⟩ := hsl.cells
      obtain ⟨ns, hr, rfl⟩ := JbQ hl
      have hvs : vs = ns.map (Value.int .u8) := by
       apply List.ext_getElem?
       intro k
       have hfl : rows.flatten = ns.map (PV.i .u8) := by rw [hr]; clear hr hl hrel hlen hrow hmem hv hcap h4 rx; induction ns with
        | nil => rfl
        | cons n ns ih => simp [ih]
       by_cases hk : k < ns.length
       ·obtain ⟨u, hu, hp⟩ := hrel k (.i .u8 ns[k]) (by rw [hfl]; simp [hk])
        cases hp
        rw [hu]; simp [hk]
       ·have h6 : vs.length = ns.length := by rw [hlen, hr]; simp
        rw [List.getElem?_eq_none (by omega), List.getElem?_eq_none (by simp; omega)]
      have hlen' : rows.length = vs.length := by omega
      subst hv
      have hrun : (Conv.bytesToString (.slice ad rows.length cap)).run P s.w = .ok (.string ⟨(ns.map fun n => UInt8.ofNat n.toNat).toArray⟩) s.w := by
       rcases hmem with hnil | ⟨r, o', rfl, hm⟩
       ·have hn0 : ns = [] := by rw [hnil] at hr; simpa using hr.symm
        subst hn0
        cases ad with
        | none => simp [Conv.bytesToString]; rfl
        | some ad =>
         have := run_bytesToString (P := P) s.w ad rows.length cap [] (by rw [hnil]; simp [loadCells, loadCellsFrom])
         rw [this]; rfl
       ·have := run_bytesToString (P := P) s.w ⟨r, o', none⟩ rows.length cap ns (by rw [hlen', ← hvs]; exact Jgv vs hm)
        rw [this, JlW]
        simp
      refine Jj hi (v := .string ⟨(ns.map fun n => UInt8.ofNat n.toNat).toArray⟩) ?_ (Jc6 _)
      simp [execOp, hop, hz, convert, run_underlying hs, run_underlying hd, run_underlying hu8, hrun]
    ·cases h5
   ·cases ht
  ·rename_i own l
   exact absurd rfl (hk own)
  ·cases h'
 ·cases hc
end
end Go.Am
end
section
namespace Go.Am
theorem J9T {α : Type} {cs l : List α} {off size : Nat} (h : sub cs off size = some l) : l.length = size ∧ off + size ≤ cs.length ∧ ∀ (i : Nat), i < size → l[i]? = cs[off + i]? := by
 unfold sub at h
 split at h
 ·rename_i hc
  injection h with h; subst h
  exact ⟨hc.2, by omega, fun i hi => by rw [hc.1, Nat.zero_add]⟩
 ·split at h
  ·rename_i hc
   injection h with h; subst h
   refine ⟨by simp; omega, hc, fun i hi => ?_⟩
   rw [List.getElem?_take, if_pos hi, List.getElem?_drop]
  ·cases h
theorem Jai : ∀ {cs : List AV} {l : List PV}, unp cs = some l → cs = l.map .p
 | [], l, h => by simp [unp] at h; simp [h]
 | x :: cs, l, h => by
  unfold unp at h
  split at h
  ·simp_all
  ·rename_i c r heq
   injection heq with e1 e2; subst e1 e2
   split at h
   ·rename_i l' hl
    injection h with h; subst h
    simp [Jai hl]
   ·cases h
  ·cases h
section
variable {P : Program} {F : Orc} {s : Sn} {a : Act} {env : List (Nat × AV)} {o : Oper} {new : Nat} {e : Eff}
theorem Jfc {agg : Bool} {l : List PV} {x : AV} {vs : List Value} (h : J2J agg l = some x) (hl : l.length = vs.length)
  (hr : ∀ (i : Nat) y v, l[i]? = some y → vs[i]? = some v → Jp s.w s.g.C y v) :
  (agg = true ∧ Ji s x (.agg vs.toArray)) ∨ (agg = false ∧ ∃ v, vs = [v] ∧ Ji s x v) := by
 cases agg with
 | true =>
  simp [J2J] at h; subst h
  exact .inl ⟨rfl, .data _ _ (by simpa using hl) fun i y v hy hv => hr i y v hy (by simpa using hv)⟩
 | false =>
  simp only [J2J, Bool.false_eq_true, if_false] at h
  split at h
  ·injection h with h; subst h
   obtain ⟨v, rfl⟩ : ∃ v, vs = [v] := List.length_eq_one_iff.1 (by simpa using hl.symm)
   exact .inr ⟨rfl, v, rfl, .p _ _ (hr 0 _ v rfl rfl)⟩
  ·cases h
theorem JeT {agg : Bool} {l : List AV} {x : AV} {vs : List Value} (h : J2b agg l = some x) (hl : l.length = vs.length) (h1 : ∀ v ∈ vs, v.oneCell' = true)
  (hr : ∀ (i : Nat) y v, l[i]? = some y → vs[i]? = some v → Ji s y v) :
  (agg = true ∧ Ji s x (.agg vs.toArray)) ∨ (agg = false ∧ ∃ v, vs = [v] ∧ Ji s x v) := by
 cases agg with
 | true =>
  simp only [J2b, if_true] at h
  split at h
  ·rename_i q hq
   injection h with h; subst h
   have := Jai hq; subst this
   refine .inl ⟨rfl, .data _ _ (by simpa using hl) fun i y v hy hv => ?_⟩
   have := hr i (.p y) v (by simp [hy]) (by simpa using hv)
   cases this with | p _ _ h => exact h
  ·injection h with h; subst h
   exact .inl ⟨rfl, .agg _ _ (by simpa using hl) (fun i v hv => h1 v (by have := JO (l := vs) (i := i) (x := v) (by simpa using hv); exact this)) fun i y v hy hv => hr i y v hy (by simpa using hv)⟩
 | false =>
  simp only [J2b, Bool.false_eq_true, if_false] at h
  split at h
  ·injection h with h; subst h
   obtain ⟨v, rfl⟩ : ∃ v, vs = [v] := List.length_eq_one_iff.1 (by simpa using hl.symm)
   exact .inr ⟨rfl, v, rfl, hr 0 _ v rfl rfl⟩
  ·cases h
theorem Jg7 {agg : Bool} {off size : Nat} {x r : AV} {v : Value} {t : TypeId} (h : J5P agg off size x = some r) (hr : Ji s x v) (ht : agT P t = some agg) (hs : szT P t = some size)
  (h1 : agg = true ∨ size = 1) : ∃ cs u, v = .agg cs ∧ (part t cs off).run P s.w = .ok u s.w ∧ Ji s r u := by
 have go : ∀ (cs : Array Value) (vs : List Value), vs.length = size → (∀ (i : Nat), i < size → vs[i]? = cs[off + i]?) → off + size ≤ cs.size →
   ((agg = true ∧ Ji s r (.agg vs.toArray)) ∨ (agg = false ∧ ∃ v, vs = [v] ∧ Ji s r v)) → ∃ u, (part t cs off).run P s.w = .ok u s.w ∧ Ji s r u := by
  intro cs vs hvl hvg hle hor
  rcases hor with ⟨rfl, hra⟩ | ⟨rfl, v, rfl, hra⟩
  ·refine ⟨.agg (cs.extract off (off + size)), by simp [part, J8i ht, J1x hs], ?_⟩
   have : cs.extract off (off + size) = vs.toArray := by
    apply Array.ext'
    rw [Array.toList_extract]
    apply List.ext_getElem?
    intro k
    simp only [List.extract, Nat.add_sub_cancel_left]
    rw [List.getElem?_take]
    split
    ·rename_i hk
     rw [List.getElem?_drop, Array.getElem?_toList, hvg k hk]
    ·rw [List.getElem?_eq_none (by omega)]
   rw [this]; exact hra
  ·simp at hvl; subst hvl
   have h0 := hvg 0 (by omega)
   simp at h0
   exact ⟨v, by simp [part, J8i ht, ← h0], hra⟩
 unfold J5P at h
 split at h
 ·rename_i cs
  split at h
  ·rename_i l hl
   obtain ⟨k1, k2, k3⟩ := J9T hl
   cases hr with
   | data _ vs q1 q2 =>
    have hor := Jfc (s := s) (vs := ((vs.toList.drop off).take size)) h (by simp; omega) (by
     intro i y v hy hv
     have hi := J9 hy
     rw [k3 i (by omega)] at hy
     rw [List.getElem?_take, if_pos (by omega), List.getElem?_drop] at hv
     exact q2 _ y v hy (by simpa using hv))
    obtain ⟨u, hu, hra⟩ := go vs _ (by simp; omega) (by intro i hi; rw [List.getElem?_take, if_pos hi, List.getElem?_drop]; simp) (by omega) hor
    exact ⟨vs, u, rfl, hu, hra⟩
  ·cases h
 ·rename_i cs
  split at h
  ·rename_i l hl
   obtain ⟨k1, k2, k3⟩ := J9T hl
   cases hr with
   | agg _ vs q1 q0 q2 =>
    have hor := JeT (s := s) (vs := ((vs.toList.drop off).take size)) h (by simp; omega) (by
     intro v hv
     have hv := List.mem_of_mem_drop (List.mem_of_mem_take hv)
     obtain ⟨i, hi⟩ := List.getElem?_of_mem hv
     exact q0 i v (by simpa using hi)) (by
     intro i y v hy hv
     have hi := J9 hy
     rw [k3 i (by omega)] at hy
     rw [List.getElem?_take, if_pos (by omega), List.getElem?_drop] at hv
     exact q2 _ y v hy (by simpa using hv))
    obtain ⟨u, hu, hra⟩ := go vs _ (by simp; omega) (by intro i hi; rw [List.getElem?_take, if_pos hi, List.getElem?_drop]; simp) (by omega) hor
    exact ⟨vs, u, rfl, hu, hra⟩
  ·cases h
 ·cases h
theorem Jpx (hi : Inv s) (he : JC s a.tmps env) {agg off size x} (h : (opR F (.field agg off size x) new).run ⟨env, s.σ⟩ = some e) (hc : Jo P (.field agg off size x) o.op = true) : J08 P o a s e := by
 simp only [opR] at h
 obtain ⟨u, h1, h'⟩ := bind_some h
 obtain ⟨r, h3, rfl⟩ := J0P h'
 clear h h'
 unfold Jo at hc
 simp only at hc
 split at hc
 ·rename_i t y f hop
  simp only [Bool.and_eq_true] at hc
  obtain ⟨hx, ht⟩ := hc
  split at ht
  ·rename_i fs hfs
   split at ht
   ·rename_i fl hfl
    simp only [Bool.and_eq_true, beq_iff_eq] at ht
    obtain ⟨⟨⟨h4, h5⟩, h6⟩, h7⟩ := ht
    obtain ⟨cs, v, hv, hp, hr⟩ := Jg7 h3 (Jy he h1 hx) h6 h5 (by simpa using h7)
    exact Jj hi (v := v) (by simp [execOp, hop, hv, Instr.field, run_underlying (Jio hfs), hfl, asAgg, h4, hp]) hr
   ·cases ht
  ·cases ht
 ·cases hc
theorem JpV (hi : Inv s) (he : JC s a.tmps env) {x i} (h : (opR F (.sidx x i) new).run ⟨env, s.σ⟩ = some e) (hc : Jo P (.sidx x i) o.op = true) : J08 P o a s e := by
 simp only [opR] at h
 obtain ⟨u, h1, h'⟩ := bind_some h
 obtain ⟨v, h2, h''⟩ := bind_some h'
 clear h h'
 unfold Jo at hc
 simp only at hc
 split at hc
 ·rename_i t y j hop
  simp only [Bool.and_eq_true] at hc
  obtain ⟨⟨hx, hj⟩, ht⟩ := hc
  have rx := Jy he h1 hx
  have rj := Jy he h2 hj
  split at h''
  ·rename_i l k n
   split at h''
   ·rename_i hn
    split at h''
    ·rename_i b hb
     simp only [RM.run] at h''; injection h'' with h''; subst h''
     have ex := J6I rx
     have ej := J2w rj
     have hb' : (⟨l.toArray⟩ : ByteArray)[n.toNat]? = some b := by
      have hlt := J9 hb
      rw [List.getElem?_eq_getElem hlt] at hb
      rw [getElem?_pos _ _ (by show n.toNat < ByteArray.size _; rw [J5o]; exact hlt)]
      injection hb with hb
      rw [← hb]; rfl
     refine Jj hi (v := .int .u8 b.toNat) ?_ (J3q _ _)
     simp [execOp, hop, ex, ej, Instr.index, asIntOf, run_underlying (J4f ht), hn, hb']
    ·cases h''
   ·cases h''
  ·cases h''
 ·cases hc
theorem Jrk (hi : Inv s) (he : JC s a.tmps env) {agg len esz x i} (h : (opR F (.aidx agg len esz x i) new).run ⟨env, s.σ⟩ = some e) (hc : Jo P (.aidx agg len esz x i) o.op = true) : J08 P o a s e := by
 simp only [opR] at h
 obtain ⟨u, h1, h'⟩ := bind_some h
 obtain ⟨v, h2, h''⟩ := bind_some h'
 clear h h'
 unfold Jo at hc
 simp only at hc
 split at hc
 ·rename_i t y j hop
  simp only [Bool.and_eq_true] at hc
  obtain ⟨⟨hx, hj⟩, ht⟩ := hc
  have rx := Jy he h1 hx
  have rj := Jy he h2 hj
  split at ht
  ·rename_i n el har
   simp only [Bool.and_eq_true, beq_iff_eq] at ht
   obtain ⟨⟨⟨rfl, h5⟩, h6⟩, h7⟩ := ht
   split at h''
   ·rename_i k m
    split at h''
    ·rename_i hm
     obtain ⟨r, h3, rfl⟩ := J0P h''
     obtain ⟨cs, w, hv, hp, hr⟩ := Jg7 h3 rx h6 h5 (by simpa using h7)
     have ej := J2w rj
     exact Jj hi (v := w) (by simp [execOp, hop, hv, ej, Instr.index, asIntOf, run_underlying (JcO har), hm, J1x h5, hp]) hr
    ·cases h''
   ·cases h''
  ·cases ht
 ·cases hc
theorem Jpf (hi : Inv s) (he : JC s a.tmps env) {len esz x i} (h : (opR F (.aaddr len esz x i) new).run ⟨env, s.σ⟩ = some e) (hc : Jo P (.aaddr len esz x i) o.op = true) : J08 P o a s e := by
 simp only [opR] at h
 obtain ⟨u, h1, h'⟩ := bind_some h
 obtain ⟨v, h2, h''⟩ := bind_some h'
 obtain ⟨r, h3, rfl⟩ := J0P h''
 clear h h' h''
 unfold Jo at hc
 simp only at hc
 split at hc
 ·rename_i t y j hop
  simp only [Bool.and_eq_true] at hc
  obtain ⟨⟨hx, hj⟩, ht⟩ := hc
  have rx := Jy he h1 hx
  have rj := Jy he h2 hj
  split at ht
  ·rename_i n el har
   simp only [Bool.and_eq_true, beq_iff_eq] at ht
   obtain ⟨rfl, h5⟩ := ht
   unfold JbB at h3
   split at h3
   ·rename_i k m
    split at h3
    ·rename_i hm
     have ej := J2w rj
     have go : ∀ (r o' : Nat), a.eval y = .pointer (some ⟨r, o', none⟩) → (execOp a.eval o).run P s.w = .ok (.value (.pointer (some ⟨r, o' + m.toNat * esz, none⟩))) s.w := by
      intro r o' hz
      simp [execOp, hop, hz, ej, Instr.indexAt, asIntOf, run_underlying (JcO har), Instr.sureAddr, hm, J1x h5, J68]
     generalize hz : a.eval y = z at rx
     split at h3 <;> first | (injection h3 with h3; subst h3) | cases h3
     ·cases rx with
      | ptr _ _ r o' m' hb => exact Jj hi (go _ _ hz) (by rw [Nat.add_assoc]; exact .ptr _ _ r o' m' hb)
     ·cases rx with
      | cp cs _ r o' vals p1 p2 => exact Jj hi (go _ _ hz) (by rw [Nat.add_assoc]; exact .cp _ _ r o' vals p1 p2)
     ·cases rx with
      | ep _ _ _ _ _ wm esz' rows p0 p1 p2 p3 =>
       obtain ⟨r, o', rfl⟩ := p0
       refine Jj hi (go _ _ hz) (.ep _ _ _ _ _ wm esz' rows ⟨_, _, rfl⟩ p1 p2 fun e1 e2 => ?_)
       obtain ⟨r', m', hv⟩ := p3 e1 e2
       simp at hv
       obtain ⟨rfl, rfl⟩ := hv
       exact ⟨r, m', by rw [Nat.add_assoc]⟩
    ·cases h3
   ·cases h3
  ·cases ht
 ·cases hc
theorem Joa (hi : Inv s) (he : JC s a.tmps env) {esz x i} (h : (opR F (.iaddr esz x i) new).run ⟨env, s.σ⟩ = some e) (hc : Jo P (.iaddr esz x i) o.op = true) : J08 P o a s e := by
 simp only [opR] at h
 obtain ⟨u, h1, h'⟩ := bind_some h
 obtain ⟨v, h2, h''⟩ := bind_some h'
 clear h h'
 unfold Jo at hc
 simp only at hc
 split at hc
 ·rename_i t y j hop
  simp only [Bool.and_eq_true] at hc
  obtain ⟨⟨hx, hj⟩, ht⟩ := hc
  have rx := Jy he h1 hx
  have rj := Jy he h2 hj
  split at ht
  ·rename_i el hel
   simp only [beq_iff_eq] at ht
   have go : ∀ (r o' len cap : Nat) k (m : Int), a.eval j = .int k m → a.eval y = .slice (some ⟨r, o', none⟩) len cap → 0 ≤ m → m < len →
     (execOp a.eval o).run P s.w = .ok (.value (.pointer (some ⟨r, o' + m.toNat * esz, none⟩))) s.w := by
    intro r o' len cap k m ej hz h0 hlt
    simp [execOp, hop, hz, ej, Instr.indexAt, asIntOf, run_underlying (J0S hel), h0, hlt, J1x ht, J68]
   unfold J3Z at h''
   split at h''
   ·rename_i esz' rows k n
    split at h''
    ·rename_i hez; subst hez
     split at h''
     ·rename_i row hrow
      simp only [RM.run] at h''; injection h'' with h''; subst h''
      unfold Je8 at hrow
      split at hrow
      ·rename_i hn
       have ej := J2w rj
       generalize hz : a.eval y = z at rx
       cases rx with
       | p _ _ rp =>
        cases rp with
        | sl0 _ ad cap => simp at hrow
        | sl _ _ r o' cap vals p1 p2 p3 p4 =>
         have hlt := J9 hrow
         refine Jj hi (go r o' _ cap k n ej hz hn (by omega)) ?_
         have := Ji.cp (s := s) row 0 r (o' + n.toNat * esz) (fun j => vals n.toNat j) (fun j x hx => p3 n.toNat j row x hrow hx) (fun j x hx => p4 n.toNat j row x hrow hx)
         simpa using this
      ·cases hrow
     ·cases h''
    ·cases h''
   ·rename_i b j' m k n
    simp only [RM.run] at h''
    split at h''
    ·rename_i blk hb
     split at h''
     ·rename_i wm esz' rows
      split at h''
      ·rename_i hcnd
       obtain ⟨rfl, hjm, hn, hnm⟩ := hcnd
       simp only [RM.run] at h''; injection h'' with h''; subst h''
       have ej := J2w rj
       generalize hz : a.eval y = z at rx
       cases rx with
       | slr _ _ _ _ wm' esz' rows' q0 q1 q2 q3 =>
        have hb' : s.σ[b]? = some (.arr wm esz rows) := hb
        rw [hb'] at q1; injection q1 with q1; injection q1 with a1 a2 a3; subst a1 a2 a3
        rcases q3 hjm with ⟨_, _, hm0, _⟩ | ⟨r, cap, c, e1, fz, m', hv, hcap, hh, hs⟩
        ·omega
        ·subst hv
         refine Jj hi (go r _ _ cap k n ej hz hn (by omega)) (.ep _ _ _ _ _ wm esz rows ⟨_, _, rfl⟩ hb' (Nat.le_refl _) fun _ _ => ⟨r, m', ?_⟩)
         simp [Nat.add_mul]
      ·cases h''
     ·cases h''
    ·cases h''
   ·cases h''
  ·cases ht
 ·cases hc
end
end Go.Am
end
section
namespace Go.Am
theorem J0w (a b : List (Nat × Blk)) (σ : List Blk) : upd (a ++ b) σ = upd b (upd a σ) := by simp [upd, List.foldl_append]
section
variable {P : Program} {F : Orc} {s : Sn} {a : Act} {env : List (Nat × AV)} {o : Oper} {new : Nat} {e : Eff}
theorem J6H {σ0 : List Blk} (hi : Inv s) (hF : Frz σ0 s.σ) {b i n : Nat} {y : List PV × List (Nat × Blk)} {v : Value} (h : (fz (.slr b i n)).run ⟨env, σ0⟩ = some y) (hr : Ji s (.slr b i n) v) :
  ∃ g', Inv ⟨upd y.2 s.σ, g', s.w⟩ ∧ Ju s ⟨upd y.2 s.σ, g', s.w⟩ ∧ Frz s.σ (upd y.2 s.σ) ∧ ∃ c, y.1 = [c] ∧ Jp s.w g'.C c v := by
 simp only [fz, RM.run] at h
 split at h
 ·rename_i blk hb
  split at h
  ·rename_i wm esz rows
   split at h
   ·rename_i hc
    simp only [RM.run] at h; injection h with h; subst h
    obtain ⟨wm', hb'⟩ := hF.1 b _ _ _ hb
    obtain ⟨g', h1, h2, h3, h4⟩ := Jnh hi hr hb' hc
    exact ⟨g', h1, h2, h3, _, rfl, h4⟩
   ·cases h
  ·cases h
 ·cases h
theorem Jqw {σ0 : List Blk} (hi : Inv s) (hF : Frz σ0 s.σ) {x : AV} {y : List PV × List (Nat × Blk)} {v : Value} (h : (fz.fz1 x).run ⟨env, σ0⟩ = some y) (hr : Ji s x v) :
  ∃ g', Inv ⟨upd y.2 s.σ, g', s.w⟩ ∧ Ju s ⟨upd y.2 s.σ, g', s.w⟩ ∧ Frz s.σ (upd y.2 s.σ) ∧ ∃ c, y.1 = [c] ∧ Jp s.w g'.C c v := by
 cases x with
 | p c =>
  simp only [fz.fz1, RM.run] at h; injection h with h; subst h
  cases hr with
  | p _ _ hr => exact ⟨s.g, hi, .refl s, .refl _, c, rfl, hr⟩
 | slr b i n => exact J6H hi hF (by exact h) hr
 | _ => simp only [fz.fz1, RM.run] at h; cases h
theorem JkE {σ0 : List Blk} : ∀ {xs : List AV} {s : Sn} {y : List PV × List (Nat × Blk)} {vs : List Value}, Inv s → Frz σ0 s.σ → (fz.fzL xs).run ⟨env, σ0⟩ = some y → xs.length = vs.length →
  (∀ (i : Nat) x v, xs[i]? = some x → vs[i]? = some v → Ji s x v) →
  ∃ g', Inv ⟨upd y.2 s.σ, g', s.w⟩ ∧ Ju s ⟨upd y.2 s.σ, g', s.w⟩ ∧ Frz s.σ (upd y.2 s.σ) ∧ y.1.length = vs.length ∧
   ∀ (i : Nat) c v, y.1[i]? = some c → vs[i]? = some v → Jp s.w g'.C c v
 | [], s, y, vs, hi, hF, h, hl, hr => by
  simp only [fz.fzL, RM.run] at h; injection h with h; subst h
  exact ⟨s.g, hi, .refl s, .refl _, by simpa using hl, fun i c v hc => by simp at hc⟩
 | x :: xs, s, y, [], hi, hF, h, hl, hr => by simp at hl
 | x :: xs, s, y, v :: vs, hi, hF, h, hl, hr => by
  simp only [fz.fzL] at h
  obtain ⟨y1, h1, h⟩ := bind_some h
  obtain ⟨y2, h2, h⟩ := bind_some h
  simp only [RM.run] at h; injection h with h; subst h
  obtain ⟨g1, i1, t1, f1, c, hc, rc⟩ := Jqw hi hF h1 (hr 0 x v rfl rfl)
  obtain ⟨g2, i2, t2, f2, l2, r2⟩ := JkE (s := ⟨upd y1.2 s.σ, g1, s.w⟩) i1 (hF.trans f1) h2 (by simpa using hl) fun i x v hx hv => (hr (i + 1) x v (by simpa using hx) (by simpa using hv)).mono hi t1
  refine ⟨g2, by rw [J0w]; exact i2, by rw [J0w]; exact t1.trans t2, by rw [J0w]; exact f1.trans f2, by simp [hc, l2], fun i c' v' hc' hv' => ?_⟩
  rw [hc] at hc'
  cases i with
  | zero =>
   simp at hc' hv'; subst hc' hv'
   exact Jp.mono (s0 := ⟨upd y1.2 s.σ, g1, s.w⟩) (s := ⟨upd y2.2 (upd y1.2 s.σ), g2, s.w⟩) i1 t2 rc
  | succ i => exact r2 i c' v' (by simpa using hc') (by simpa using hv')
theorem Jig {σ0 : List Blk} (hi : Inv s) (hF : Frz σ0 s.σ) {x : AV} {y : List PV × List (Nat × Blk)} {v : Value} (h : (fz x).run ⟨env, σ0⟩ = some y) (hr : Ji s x v) :
  ∃ g', Inv ⟨upd y.2 s.σ, g', s.w⟩ ∧ Ju s ⟨upd y.2 s.σ, g', s.w⟩ ∧ Frz s.σ (upd y.2 s.σ) ∧ y.1.length = v.cells.size ∧
   ∀ (i : Nat) c u, y.1[i]? = some c → v.cells[i]? = some u → Jp s.w g'.C c u := by
 cases x with
 | p c =>
  simp only [fz, RM.run] at h; injection h with h; subst h
  cases hr with
  | p _ _ hr =>
   refine ⟨s.g, hi, .refl s, .refl _, by rw [hr.cells1]; rfl, fun i c' u hc hu => ?_⟩
   rw [hr.cells1] at hu
   cases i with
   | zero => simp at hc hu; subst hc hu; exact hr
   | succ i => simp at hc
 | data cs =>
  simp only [fz, RM.run] at h; injection h with h; subst h
  cases hr with
  | data _ vs h1 h2 => exact ⟨s.g, hi, .refl s, .refl _, h1, fun i c u hc hu => h2 i c u hc hu⟩
 | slr b i n =>
  obtain ⟨g', h1, h2, h3, c, hc, rc⟩ := J6H hi hF h hr
  refine ⟨g', h1, h2, h3, by rw [hc, rc.cells1]; rfl, fun i c' u hc' hu => ?_⟩
  rw [rc.cells1] at hu
  rw [hc] at hc'
  cases i with
  | zero => simp at hc' hu; subst hc' hu; exact rc
  | succ i => simp at hc'
 | agg cs =>
  simp only [fz] at h
  cases hr with
  | agg _ vs h1 h0 h2 =>
   obtain ⟨g', k1, k2, k3, k4, k5⟩ := JkE (vs := vs.toList) hi hF h (by simpa using h1) fun i x v hx hv => h2 i x v hx (by simpa using hv)
   exact ⟨g', k1, k2, k3, by simpa [Value.cells] using k4, fun i c u hc hu => k5 i c u hc (by simpa [Value.cells] using hu)⟩
 | _ => simp only [fz, RM.run] at h; cases h
theorem J8b (he : JC s a.tmps env) {x : Option Opd} {y : Option Operand} {v : Option AV} (h : (evo x).run ⟨env, s.σ⟩ = some v) (hc : J98 x y = true) :
  (v = none ∧ y = none) ∨ ∃ u q, v = some u ∧ y = some q ∧ Ji s u (a.eval q) := by
 cases x with
 | none =>
  simp only [evo, RM.run] at h; injection h with h; subst h
  cases y with
  | none => exact .inl ⟨rfl, rfl⟩
  | some _ => simp [J98] at hc
 | some x =>
  cases y with
  | none => simp [J98] at hc
  | some y =>
   simp only [evo] at h
   obtain ⟨u, h1, h⟩ := bind_some h
   simp only [RM.run] at h; injection h with h; subst h
   exact .inr ⟨u, y, rfl, rfl, Jy he h1 hc⟩
theorem J8T {x : AV} {top n dflt : Nat} {v : Value} (h : J47 (some x) top dflt = some n) (hr : Ji s x v) (top' : Nat) (hle : top ≤ top') (code : BoundsCode) (w : World) :
  (Instr.sliceBound v top' code).run P w = .ok n w ∧ n ≤ top := by
 unfold J47 at h
 split at h
 ·rename_i heq; cases heq
 ·rename_i heq; injection heq with heq; subst heq
  split at h
  ·rename_i hc
   injection h with h; subst h
   have := J2w hr; subst this
   refine ⟨?_, by omega⟩
   simp only [Instr.sliceBound, asIntOf, Sem.run_bind, Sem.run_pure, Result.andThen_ok]
   rw [if_pos ⟨hc.1, by omega⟩]
   rfl
  ·cases h
 ·cases h
theorem Jnf {n : Nat} {lo hi : Option AV} {c : Nat × Nat} (h : Jbg n lo hi = some c) : J47 hi n n = some c.2 ∧ J47 lo c.2 0 = some c.1 := by
 unfold Jbg at h
 split at h
 ·cases h
 ·rename_i j hj
  split at h
  ·cases h
  ·rename_i i hi
   injection h with h; subst h
   exact ⟨hj, hi⟩
theorem Jab (he : JC s a.tmps env) {lo hi : Option Opd} {lo' hi' : Option Operand} {l h : Option AV} {len cap : Nat} {c : Nat × Nat} {isSlice : Bool}
  (h1 : (evo lo).run ⟨env, s.σ⟩ = some l) (h2 : (evo hi).run ⟨env, s.σ⟩ = some h) (c1 : J98 lo lo' = true) (c2 : J98 hi hi' = true)
  (hc : Jbg len l h = some c) (hle : len ≤ cap) (w : World) :
  (Instr.sliceBounds isSlice len cap (lo'.map a.eval) (hi'.map a.eval) none).run P w = .ok (c.1, c.2, cap) w ∧ c.1 ≤ c.2 ∧ c.2 ≤ len := by
 obtain ⟨hj, hi0⟩ := Jnf hc
 obtain ⟨i, j⟩ := c
 rcases J8b he h2 c2 with ⟨rfl, rfl⟩ | ⟨u, q, rfl, rfl, hr⟩
 ·simp [J47] at hj; subst hj
  rcases J8b he h1 c1 with ⟨rfl, rfl⟩ | ⟨u', q', rfl, rfl, hr'⟩
  ·simp [J47] at hi0; subst hi0
   exact ⟨by simp [Instr.sliceBounds], Nat.zero_le _, Nat.le_refl _⟩
  ·obtain ⟨k1, k2⟩ := J8T (P := P) hi0 hr' len (Nat.le_refl _) .sliceB w
   exact ⟨by simp [Instr.sliceBounds, k1], k2, Nat.le_refl _⟩
 ·rcases J8b he h1 c1 with ⟨rfl, rfl⟩ | ⟨u', q', rfl, rfl, hr'⟩
  ·obtain ⟨k1, k2⟩ := J8T (P := P) hj hr cap hle (if isSlice then .sliceAcap else .sliceAlen) w
   simp [J47] at hi0; subst hi0
   exact ⟨by simp [Instr.sliceBounds, k1], Nat.zero_le _, k2⟩
  ·obtain ⟨k1, k2⟩ := J8T (P := P) hj hr cap hle (if isSlice then .sliceAcap else .sliceAlen) w
   obtain ⟨k3, k4⟩ := J8T (P := P) hi0 hr' j (Nat.le_refl _) .sliceB w
   exact ⟨by simp [Instr.sliceBounds, k1, k3], k4, k2⟩
theorem JmI {esz : Nat} {rows : List (List PV)} {v : Value} {i j : Nat} (h : Jp s.w s.g.C (.sl esz rows) v) (hij : i ≤ j) (hj : j ≤ rows.length) :
  ∃ ad cap, v = .slice ad rows.length cap ∧ rows.length ≤ cap ∧
   Jp s.w s.g.C (.sl esz ((rows.drop i).take (j - i))) (.slice (if cap = i then ad else ad.map (·.add (i * esz))) (j - i) (cap - i)) := by
 have hlen : ((rows.drop i).take (j - i)).length = j - i := by simp; omega
 cases h with
 | sl0 _ ad cap =>
  have hj' : j = 0 := by simpa using hj
  have hi' : i = 0 := by omega
  subst hj' hi'
  refine ⟨ad, cap, rfl, Nat.zero_le _, ?_⟩
  simpa using Jp.sl0 (w := s.w) (C := s.g.C) esz _ _
 | sl _ _ r o cap vals p1 p2 p3 p4 =>
  refine ⟨_, cap, rfl, p1, ?_⟩
  by_cases hci : cap = i
  ·have h0 : j - i = 0 := by omega
   rw [h0]
   simpa using Jp.sl0 (w := s.w) (C := s.g.C) esz _ _
  ·rw [if_neg hci]
   have := Jp.sl (w := s.w) (C := s.g.C) esz ((rows.drop i).take (j - i)) r (o + i * esz) (cap - i) (fun k m => vals (i + k) m) (by omega)
    (fun row hr => p2 row (List.mem_of_mem_drop (List.mem_of_mem_take hr)))
    (fun k m row x hk hm => by
     rw [List.getElem?_take] at hk
     split at hk
     ·rw [List.getElem?_drop] at hk
      have := p3 (i + k) m row x hk hm
      rwa [show o + (i + k) * esz + m = o + i * esz + k * esz + m by rw [Nat.add_mul]; omega] at this
     ·cases hk)
    (fun k m row x hk hm => by
     rw [List.getElem?_take] at hk
     split at hk
     ·rw [List.getElem?_drop] at hk
      exact p4 (i + k) m row x hk hm
     ·cases hk)
   rw [hlen] at this
   simpa [J68] using this
def J8F (k : SK) (x : AV) (lo hi : Option AV) : Option AV :=
 match k with
 | .str => J7x x lo hi
 | .sl esz => J7B esz x lo hi
theorem Jkf (hi : Inv s) {k : SK} {t : TypeId} {y : Operand} {lo2 hi2 : Option Operand} {q : Operand} {c : PV} {l hh : Option AV} {u r : AV} {g' : Gh} {ws : List (Nat × Blk)}
  (hop : o.op = .slice t y lo2 hi2 (some q)) (ht : (match k with
   | .str => J3Y P t
   | .sl esz => (match elT P t with | some e => szT P e == some esz | none => false)) = true)
  (hl : l = none → lo2 = none) (hh2 : ∀ u', hh = some u' → ∃ q', hi2 = some q' ∧ Ji s u' (a.eval q')) (hu : Ji s u (a.eval q))
  (hs : J3g k (.p c) l hh (some u) = some r) (hi' : Inv ⟨upd ws s.σ, g', s.w⟩) (t' : Ju s ⟨upd ws s.σ, g', s.w⟩) (hr : Jp s.w g'.C c (a.eval y)) : J08 P o a s ⟨r, ws⟩ := by
 cases k with
 | str => simp [J3g] at hs
 | sl esz =>
  simp only [J3g] at hs
  unfold Jhu at hs
  split at hs
  ·rename_i esz' rows k1 h1 k2 n1 heq
   injection heq with heq
   subst heq
   split at hs
   ·rename_i hc
    obtain ⟨rfl, rfl, rfl⟩ := hc
    injection hs with hs; subst hs
    obtain ⟨q', rfl, hr2⟩ := hh2 _ rfl
    obtain rfl := hl rfl
    have e1 := J2w hr2
    have e2 := J2w hu
    simp only at ht
    split at ht
    ·rename_i el hel
     simp only [beq_iff_eq] at ht
     obtain ⟨ad, cap, hv, hcap, hrel⟩ := JmI (s := ⟨s.σ, g', s.w⟩) (i := 0) (j := rows.length) hr (Nat.zero_le _) (Nat.le_refl _)
     have hb : ∀ w : World, (Instr.sliceBounds true rows.length cap none (some (a.eval q')) (some (a.eval q))).run P w = .ok (0, rows.length, rows.length) w := by
      intro w
      rw [e1, e2]
      simp [Instr.sliceBounds, Instr.sliceBound, asIntOf, hcap]
     have hrel2 : Jp s.w g'.C (.slc esz rows) (.slice ad rows.length rows.length) := by
      refine .slc esz rows ad ?_
      rw [hv] at hr
      cases hr with
      | sl0 => exact .sl0 _ _ _
      | sl _ _ r o cap vals p1 p2 p3 p4 => exact .sl esz rows r o rows.length vals (Nat.le_refl _) p2 p3 p4
     refine J14 (e := ⟨_, ws⟩) (w' := s.w) (g' := g') (v := .slice ad rows.length rows.length) ?_ hi' t' (.p _ _ hrel2)
     have e0 : (if rows.length = 0 then ad else ad.map fun x => x.add (0 * esz)) = ad := by
      split
      ·rfl
      ·cases ad with
       | none => rfl
       | some ad => cases ad; simp [Addr.add]
     simp only [execOp, hop, hv]
     simp [Instr.sliceAt, Instr.slice, run_underlying (J0S hel), hb, J1x ht]
     try simpa using e0
    ·cases ht
   ·cases hs
  ·cases hs
theorem Jpv (hi : Inv s) (he : JC s a.tmps env) {k x lo hi' mx} (h : (opR F (.slice k x lo hi' mx) new).run ⟨env, s.σ⟩ = some e) (hc : Jo P (.slice k x lo hi' mx) o.op = true) : J08 P o a s e := by
 simp only [opR] at h
 obtain ⟨u, h1, h⟩ := bind_some h
 obtain ⟨l, h2, h⟩ := bind_some h
 obtain ⟨hh, h3, h⟩ := bind_some h
 obtain ⟨m, h4, h⟩ := bind_some h
 unfold Jo at hc
 simp only at hc
 split at hc
 ·rename_i t y lo2 hi2 mx2 hop
  simp only [Bool.and_eq_true] at hc
  obtain ⟨⟨⟨⟨hx, c1⟩, c2⟩, c3⟩, ht⟩ := hc
  have rx := Jy he h1 hx
  rcases J8b he h4 c3 with ⟨rfl, rfl⟩ | ⟨um, qm, rfl, rfl, hum⟩
  case inr =>
   have hl0 : l = none → lo2 = none := by
    intro hl0
    rcases J8b he h2 c1 with ⟨_, e⟩ | ⟨u', q', e1, _, _⟩
    ·exact e
    ·rw [hl0] at e1; cases e1
   have hh0 : ∀ u', hh = some u' → ∃ q', hi2 = some q' ∧ Ji s u' (a.eval q') := by
    intro u' hu'
    rcases J8b he h3 c2 with ⟨e, _⟩ | ⟨u2, q', e1, e2, e3⟩
    ·rw [hu'] at e; cases e
    ·rw [hu'] at e1; injection e1 with e1; subst e1; exact ⟨q', e2, e3⟩
   split at h
   ·rename_i b i n
    obtain ⟨y', h5, h⟩ := bind_some h
    obtain ⟨g', i1, t1, f1, c, hc1, rc⟩ := J6H hi (.refl _) h5 rx
    split at h
    ·rename_i c' hc'
     rw [hc1] at hc'; injection hc' with hc'; subst hc'
     split at h
     ·rename_i r hr
      simp only [RM.run] at h; injection h with h; subst h
      exact Jkf hi hop ht hl0 hh0 hum hr i1 t1 rc
     ·cases h
    ·cases h
   ·rename_i x' hne
    obtain ⟨r, hr, rfl⟩ := J0P h
    cases u with
    | p c =>
     cases rx with
     | p _ _ rx => exact Jkf (ws := []) (g' := s.g) hi hop ht hl0 hh0 hum hr hi (.refl s) rx
    | _ => cases k <;> simp [J3g, Jhu] at hr
  have noMax : ∀ {c : AV} {r}, J3g k c l hh none = some r → (none : Option Operand) = none ∧ J8F k c l hh = some r := by
   intro c r hs
   exact ⟨rfl, hs⟩
  have strCase : ∀ {b : List UInt8} {r}, J3g k (.p (.s b)) l hh none = some r → a.eval y = .string ⟨b.toArray⟩ → J08 P o a s ⟨r, []⟩ := by
   intro b r hs hz
   obtain ⟨_, hq⟩ := noMax hs
   clear hs
   have hs := hq
   clear hq
   cases k with
   | sl esz => simp [J8F, J7B] at hs
   | str =>
    simp only [J8F, J7x] at hs
    split at hs
    ·rename_i c hc
     injection hs with hs; subst hs
     have ht' := J4f ht
     obtain ⟨hb, hij, hjl⟩ := Jab (P := P) (isSlice := false) (cap := b.length) he h2 h3 c1 c2 hc (Nat.le_refl _) s.w
     have hex : (⟨b.toArray⟩ : ByteArray).extract c.1 c.2 = ⟨((b.drop c.1).take (c.2 - c.1)).toArray⟩ := by
      apply ByteArray.ext
      rw [ByteArray.data_extract]
      apply Array.ext'
      simp [List.extract]
     refine Jj hi (v := .string ⟨((b.drop c.1).take (c.2 - c.1)).toArray⟩) ?_ (Jc6 _)
     simp only [execOp, hop, hz]
     simp [Instr.sliceAt, Instr.slice, run_underlying ht', J5o, hb, hex]
    ·cases hs
  have slCase : ∀ {s' : Sn} {ws} {esz rows r} {g'}, s' = ⟨upd ws s.σ, g', s.w⟩ → Inv s' → Ju s s' → J3g k (.p (.sl esz rows)) l hh none = some r → Jp s'.w s'.g.C (.sl esz rows) (a.eval y) → J08 P o a s ⟨r, ws⟩ := by
   intro s' ws esz rows r g' hs' hi' t' hs hr
   obtain ⟨_, hq⟩ := noMax hs
   clear hs
   have hs := hq
   clear hq
   cases k with
   | str => simp [J8F, J7x] at hs
   | sl ez =>
    simp only [J8F, J7B] at hs
    split at hs
    ·rename_i hez; subst hez
     split at hs
     ·rename_i c hc
      injection hs with hs; subst hs
      simp only at ht
      split at ht
      ·rename_i el hel
       simp only [beq_iff_eq] at ht
       have hb0 := Jab (P := P) (isSlice := true) he h2 h3 c1 c2 hc (Nat.le_refl _) s.w
       obtain ⟨ad, cap, hv, hcap, hrel⟩ := JmI hr hb0.2.1 hb0.2.2
       obtain ⟨hb, _, _⟩ := Jab (P := P) (isSlice := true) he h2 h3 c1 c2 hc hcap s.w
       subst hs'
       refine J14 (e := ⟨_, ws⟩) (w' := s.w) (g' := g') ?_ hi' t' (.p _ _ hrel)
       simp only [execOp, hop, hv]
       simp [Instr.sliceAt, Instr.slice, run_underlying (J0S hel), hb, J1x ht]
      ·cases ht
     ·cases hs
    ·cases hs
  split at h
  ·rename_i b i n
   obtain ⟨y', h5, h⟩ := bind_some h
   obtain ⟨g', i1, t1, f1, c, hc1, rc⟩ := J6H hi (.refl _) h5 rx
   split at h
   ·rename_i c' hc'
    rw [hc1] at hc'; injection hc' with hc'; subst hc'
    split at h
    ·rename_i r hr
     simp only [RM.run] at h; injection h with h; subst h
     have : ∃ ez rw, c = .sl ez rw := by
      simp only [fz, RM.run] at h5
      split at h5
      ·split at h5
       ·split at h5
        ·simp only [RM.run] at h5; injection h5 with h5; subst h5
         simp at hc1
         exact ⟨_, _, hc1.symm⟩
        ·cases h5
       ·cases h5
      ·cases h5
     obtain ⟨ez, rw', rfl⟩ := this
     exact slCase rfl i1 t1 hr rc
    ·cases h
   ·cases h
  ·rename_i x' hne
   obtain ⟨r, hr, rfl⟩ := J0P h
   cases u with
   | p c =>
    cases c with
    | s b => exact strCase hr (J6I rx)
    | sl esz rows => cases rx with | p _ _ rx => exact slCase (s' := s) (ws := []) (g' := s.g) rfl hi (.refl s) hr rx
    | _ => obtain ⟨_, hr⟩ := noMax hr; cases k <;> simp [J8F, J7x, J7B] at hr
   | slr b i n => exact absurd rfl (hne b i n)
   | _ => obtain ⟨_, hr⟩ := noMax hr; cases k <;> simp [J8F, J7x, J7B] at hr
 ·cases hc
end
end Go.Am
end
section
namespace Go.Am
section
variable {P : Program} {F : Orc} {s : Sn} {a : Act} {env : List (Nat × AV)} {o : Oper} {new : Nat} {e : Eff}
theorem Jgs (hi : Inv s) {agg : Bool} {size : Nat} {x : AV} {v : Value} (h : (J2D agg size x).run ⟨env, s.σ⟩ = some e) (hr : Ji s x v) :
  ∃ r o vs, v = .pointer (some ⟨r, o, none⟩) ∧ vs.length = size ∧ (∀ (k : Nat) u, vs[k]? = some u → cellAt s.w r (o + k) = some u) ∧ e.ws = [] ∧
   ((agg = true ∧ Ji s e.val (.agg vs.toArray)) ∨ (agg = false ∧ ∃ u, vs = [u] ∧ Ji s e.val u)) := by
 unfold J2D at h
 split at h
 ·rename_i cs off
  split at h
  ·rename_i l hl
   obtain ⟨r', h3, rfl⟩ := J0P h
   obtain ⟨k1, k2, k3⟩ := J9T hl
   cases hr with
   | cp _ _ r o vals p1 p2 =>
    have hg : ∀ (i : Nat) y u, l[i]? = some y → ((List.range size).map fun i => vals (off + i))[i]? = some u → Jp s.w s.g.C y u := by
     intro i y u hy hu
     have := J9 hy
     rw [k3 i (by omega)] at hy
     rw [List.getElem?_map, List.getElem?_range (by omega)] at hu
     injection hu with hu; subst hu
     exact p2 _ y hy
    refine ⟨r, o + off, (List.range size).map fun i => vals (off + i), rfl, by simp, fun k u hu => ?_, rfl, Jfc h3 (by simp [k1]) hg⟩
    have hlt := J9 hu
    simp at hlt
    rw [List.getElem?_map, List.getElem?_range hlt] at hu
    injection hu with hu; subst hu
    have : off + k < cs.length := by omega
    have := (p1 (off + k) _ (List.getElem?_eq_getElem this)).2
    rwa [Nat.add_assoc]
  ·cases h
 ·rename_i b off
  simp only [RM.run] at h
  split at h
  ·rename_i blk hb
   split at h
   ·rename_i cs
    split at h
    ·rename_i l hl
     obtain ⟨r', h3, rfl⟩ := J0P h
     obtain ⟨k1, k2, k3⟩ := J9T hl
     cases hr with
     | ptr _ _ r o m hbx =>
      obtain ⟨r1, o1, c, e1, fz, m', hh, hle, hx, hf⟩ := hi.box b cs hb
      rw [m] at m'; injection m' with m'; injection m' with m1 m2; subst m1 m2
      have hcell : ∀ k, k < size → ∃ u, c[o + (off + k)]? = some u ∧ u.oneCell' = true ∧ ∀ y, l[k]? = some y → Ji s y u := by
       intro k hk
       have hlt : off + k < cs.length := by omega
       obtain ⟨u, hu, hr, h1⟩ := hx (off + k) _ (List.getElem?_eq_getElem hlt)
       refine ⟨u, hu, h1, fun y hy => ?_⟩
       rw [k3 k hk, List.getElem?_eq_getElem hlt] at hy
       injection hy with hy; subst hy; exact hr
      refine ⟨r, o + off, (List.range size).map fun i => (c[o + (off + i)]?).getD .nilFunc, rfl, by simp, fun k u hu => ?_, rfl, JeT h3 (by simp [k1]) (fun v hv => ?_) fun i y u hy hu => ?_⟩
      ·have hlt := J9 hu
       simp at hlt
       rw [List.getElem?_map, List.getElem?_range hlt] at hu
       obtain ⟨u', hu', _⟩ := hcell k hlt
       simp [hu'] at hu; subst hu
       rw [J1h hh, ← hu', Nat.add_assoc]
      ·obtain ⟨i, hi', rfl⟩ := List.mem_map.1 hv
       obtain ⟨u', hu', h1, _⟩ := hcell i (by simpa using hi')
       simpa [hu'] using h1
      ·have hlt := J9 hy
       rw [List.getElem?_map, List.getElem?_range (by omega)] at hu
       obtain ⟨u', hu', _, h2⟩ := hcell i (by omega)
       simp [hu'] at hu; subst hu
       exact h2 y hy
    ·cases h
   ·cases h
  ·cases h
 ·rename_i b ext i off
  simp only [RM.run] at h
  split at h
  ·rename_i blk hb
   split at h
   ·rename_i wm esz rows
    split at h
    ·rename_i hext
     split at h
     ·rename_i row hrow
      split at h
      ·rename_i l hl
       obtain ⟨r', h3, rfl⟩ := J0P h
       obtain ⟨k1, k2, k3⟩ := J9T hl
       have hb' : s.σ[b]? = some (.arr wm esz rows) := hb
       cases hr with
       | ep _ _ _ _ _ wm' esz' rows' p0 p1 p2 p3 =>
        rw [hb'] at p1; injection p1 with p1; injection p1 with a1 a2 a3; subst a1 a2 a3
        have hlt := J9 hrow
        obtain ⟨r, m, hv⟩ := p3 hext (by omega)
        rcases hi.arr b _ _ _ hb' with ⟨m', _⟩ | ⟨r1, c, e1, fz, m', hh, hrl, hle, hx, hf⟩
        ·rw [m] at m'; cases m'
        ·rw [m] at m'; injection m' with m'; injection m' with m1 _; subst m1
         have hcell : ∀ k, k < size → ∃ u, c[i * esz + (off + k)]? = some u ∧ ∀ y, l[k]? = some y → Jp s.w s.g.C y u := by
          intro k hk
          have hlt : off + k < row.length := by omega
          obtain ⟨⟨u, hu, hr⟩, _⟩ := hx i (off + k) row _ hrow (List.getElem?_eq_getElem hlt)
          refine ⟨u, hu, fun y hy => ?_⟩
          rw [k3 k hk, List.getElem?_eq_getElem hlt] at hy
          injection hy with hy; subst hy; exact hr
         refine ⟨r, i * esz + off, (List.range size).map fun k => (c[i * esz + (off + k)]?).getD .nilFunc, hv, by simp, fun k u hu => ?_, rfl, Jfc h3 (by simp [k1]) fun k y u hy hu => ?_⟩
         ·have hlt := J9 hu
          simp at hlt
          rw [List.getElem?_map, List.getElem?_range hlt] at hu
          obtain ⟨u', hu', _⟩ := hcell k hlt
          simp [hu'] at hu; subst hu
          rw [J1h hh, ← hu', Nat.add_assoc]
         ·have hlt := J9 hy
          rw [List.getElem?_map, List.getElem?_range (by omega)] at hu
          obtain ⟨u', hu', h2⟩ := hcell k (by omega)
          simp [hu'] at hu; subst hu
          exact h2 y hy
      ·cases h
     ·cases h
    ·cases h
   ·cases h
  ·cases h
 ·cases h
theorem JcH {t : TypeId} {agg : Bool} {size : Nat} (ht : agT P t = some agg) (hs : szT P t = some size) {r o : Nat} {vs : List Value} {w : World} (hl : vs.length = size)
  (h : ∀ (k : Nat) u, vs[k]? = some u → cellAt w r (o + k) = some u) :
  (agg = true → (loadVar t ⟨r, o, none⟩).run P w = .ok (.agg vs.toArray) w) ∧ (agg = false → ∀ u, vs = [u] → (loadVar t ⟨r, o, none⟩).run P w = .ok u w) := by
 constructor
 ·rintro rfl
  subst hl
  simp [loadVar, J8i ht, J1x hs, Jgv vs h]
 ·rintro rfl u rfl
  have := h 0 u rfl
  simp [loadVar, J8i ht, run_load, J2d, this]
  simp at this
  simp [this]
theorem Jq2 (hi : Inv s) (he : JC s a.tmps env) {agg size x} (h : (opR F (.load agg size x) new).run ⟨env, s.σ⟩ = some e) (hc : Jo P (.load agg size x) o.op = true) : J08 P o a s e := by
 simp only [opR] at h
 obtain ⟨u, h1, h'⟩ := bind_some h
 clear h
 unfold Jo at hc
 simp only at hc
 split at hc
 ·rename_i t y hop
  simp only [Bool.and_eq_true, beq_iff_eq] at hc
  obtain ⟨⟨⟨ht, hs⟩, hx⟩, h7⟩ := hc
  obtain ⟨r, o', vs, hv, hl, hcell, hws, hor⟩ := Jgs hi h' (Jy he h1 hx)
  obtain ⟨k1, k2⟩ := JcH (P := P) ht hs hl hcell
  obtain ⟨ev, ew⟩ := e
  simp only at hws hor
  subst hws
  rcases hor with ⟨rfl, hr⟩ | ⟨rfl, q, rfl, hr⟩
  ·exact Jj hi (v := .agg vs.toArray) (by simp [execOp, hop, hv, Instr.loadAt, Instr.sureAddr, k1]) hr
  ·exact Jj hi (v := q) (by simp [execOp, hop, hv, Instr.loadAt, Instr.sureAddr, k2]) hr
 ·cases hc
theorem J7t {x : AV} {l : List AV} {v : Value} (h : cellsOf x = some l) (hr : Ji s x v) :
  l.length = v.cells.size ∧ (∀ u ∈ v.cells.toList, u.oneCell' = true) ∧ ∀ (i : Nat) y u, l[i]? = some y → v.cells[i]? = some u → Ji s y u := by
 have single : ∀ {z : AV}, Ji s z v → v.cells = #[v] → v.oneCell' = true → l = [z] → l.length = v.cells.size ∧ (∀ u ∈ v.cells.toList, u.oneCell' = true) ∧ ∀ (i : Nat) y u, l[i]? = some y → v.cells[i]? = some u → Ji s y u := by
  rintro z hz hc h1 rfl
  refine ⟨by rw [hc]; rfl, by rw [hc]; simpa using h1, fun i y u hy hu => ?_⟩
  rw [hc] at hu
  cases i with
  | zero => simp at hy hu; subst hy hu; exact hz
  | succ i => simp at hy
 cases hr with
 | p c _ hp => simp [cellsOf] at h; exact single (.p _ _ hp) hp.cells1 hp.one h.symm
 | data cs vs h1 h2 =>
  simp [cellsOf] at h; subst h
  refine ⟨by simpa [Value.cells] using h1, fun u hu => ?_, fun i y u hy hu => ?_⟩
  ·obtain ⟨i, hi⟩ := List.getElem?_of_mem hu
   have hi : vs[i]? = some u := by simpa [Value.cells] using hi
   have hlt := J80 hi
   exact (h2 i cs[i] u (by rw [List.getElem?_eq_getElem]) hi).one
  ·rw [List.getElem?_map] at hy
   cases hcs : cs[i]? with
   | none => simp [hcs] at hy
   | some c =>
    simp [hcs] at hy; subst hy
    exact .p _ _ (h2 i c u hcs hu)
 | agg cs vs h1 h0 h2 =>
  simp [cellsOf] at h; subst h
  refine ⟨by simpa [Value.cells] using h1, fun u hu => ?_, fun i y u hy hu => h2 i y u hy hu⟩
  obtain ⟨i, hi⟩ := List.getElem?_of_mem hu
  exact h0 i u (by simpa [Value.cells] using hi)
 | tup => simp [cellsOf] at h
 | unk => simp [cellsOf] at h
 | ptr b off r o m hb => simp [cellsOf] at h; exact single (.ptr b off r o m hb) rfl rfl h.symm
 | cp cs off r o vals p1 p2 => simp [cellsOf] at h; exact single (.cp cs off r o vals p1 p2) rfl rfl h.symm
 | slr b i n _ wm esz rows p0 p1 p2 p3 =>
  obtain ⟨ad, cap, rfl, hn⟩ := p0
  simp [cellsOf] at h
  exact single (.slr b i n _ wm esz rows ⟨ad, cap, rfl, hn⟩ p1 p2 p3) rfl rfl h.symm
 | ep b ext i off _ wm esz rows p0 p1 p2 p3 =>
  obtain ⟨r, o, rfl⟩ := p0
  simp [cellsOf] at h
  exact single (.ep b ext i off _ wm esz rows ⟨r, o, rfl⟩ p1 p2 p3) rfl rfl h.symm
 | fn f first caps fs cs h1 h2 h3 h4 => simp [cellsOf] at h; exact single (.fn f first caps fs cs h1 h2 h3 h4) rfl rfl h.symm
theorem Jsb (hi : Inv s) (he : JC s a.tmps env) (hn : s.σ[new]? = some .dead) {size x} (h : (opR F (.box size x) new).run ⟨env, s.σ⟩ = some e) (hc : Jo P (.box size x) o.op = true) : J08 P o a s e := by
 simp only [opR] at h
 obtain ⟨u, h1, h'⟩ := bind_some h
 clear h
 unfold Jo at hc
 simp only at hc
 split at hc
 ·rename_i t y hop
  have hr := Jy he h1 hc
  split at h'
  ·rename_i cs hcs
   split at h'
   ·simp only [RM.run] at h'; injection h' with h'; subst h'
    obtain ⟨k1, k2, k3⟩ := J7t hcs hr
    obtain ⟨i', t'⟩ := JbX hi hn (blk := .box cs) (c := (a.eval y).cells) (e := t) (fz := (0, 0)) (w' := { s.w with heap := s.w.heap.push (.cells (a.eval y).cells t) }) rfl rfl rfl
     (fun o _ _ h => by simp at h) (fun _ _ _ h => by cases h) ⟨by omega, fun i x hx => by
      have hlt := J9 hx
      have hlt' : i < (a.eval y).cells.size := by omega
      exact ⟨(a.eval y).cells[i], by simp, k3 i x _ hx (by simp), k2 _ (by simp)⟩⟩
    refine J14 (e := ⟨.ptr new 0, [(new, .box cs)]⟩) (v := .pointer (some ⟨s.w.heap.size, 0, none⟩)) ?_ i' t' (.ptr new 0 _ 0 (if_pos rfl) ⟨cs, J04 hn⟩)
    simp [execOp, hop, Instr.box, newVar, newRow]
   ·cases h'
  ·cases h'
 ·cases hc
theorem J32 {zero : List PV} {t : TypeId} (h : J6Z P zero t = true) : ∃ v, zeT P t = some v ∧ zero.length = v.cells.size ∧
  ∀ {w C} (i : Nat) x u, zero[i]? = some x → v.cells[i]? = some u → Jp w C x u := by
 unfold J6Z at h
 split at h
 ·rename_i v hv
  refine ⟨v, hv, ?_, fun i x u hx hu => ?_⟩
  ·simpa using (Jag (w := default) (C := fun _ _ => True) h).1
  ·exact (Jag h).2 i x u hx (by simpa using hu)
 ·cases h
theorem J7j {t : TypeId} {v : Value} (h : zeT P t = some v) (w : World) : (zeroValue t).run P w = .ok v w := by
 unfold zeT at h
 cases hi : P.info? t with
 | none => rw [hi] at h; cases h
 | some i => rw [hi] at h; simp at h; simp [zeroValue, Jb6 hi, h]
theorem JmY (hi : Inv s) (hn : s.σ[new]? = some .dead) {zero} (h : (opR F (.newbox zero) new).run ⟨env, s.σ⟩ = some e) (hc : Jo P (.newbox zero) o.op = true) : J08 P o a s e := by
 simp only [opR, RM.run] at h
 injection h with h; subst h
 unfold Jo at hc
 simp only at hc
 split at hc
 ·rename_i t hop
  obtain ⟨v, hv, hl, hr⟩ := J32 hc
  obtain ⟨i', t'⟩ := JbX hi hn (blk := .box (zero.map .p)) (c := v.cells) (e := t) (fz := (0, 0)) (w' := { s.w with heap := s.w.heap.push (.cells v.cells t) }) rfl rfl rfl
   (fun o _ _ h => by simp at h) (fun _ _ _ h => by cases h) ⟨by simp [hl], fun i x hx => by
    rw [List.getElem?_map] at hx
    cases hz : zero[i]? with
    | none => simp [hz] at hx
    | some c =>
     simp [hz] at hx; subst hx
     have hlt := J9 hz
     have hlt' : i < v.cells.size := by omega
     have := hr (w := s.w) (C := s.g.C) i c v.cells[i] hz (by simp)
     exact ⟨v.cells[i], by simp, .p _ _ this, this.one⟩⟩
  refine J14 (e := ⟨.ptr new 0, [(new, .box (zero.map .p))]⟩) (v := .pointer (some ⟨s.w.heap.size, 0, none⟩)) ?_ i' t' (.ptr new 0 _ 0 (if_pos rfl) ⟨_, J04 hn⟩)
  simp [execOp, hop, Instr.alloc, J7j hv, newVar, newRow]
 ·cases hc
theorem JnU (hi : Inv s) (hn : s.σ[new]? = some .dead) {esz x} (h : (opR F (.mkarr esz x) new).run ⟨env, s.σ⟩ = some e) (hc : Jo P (.mkarr esz x) o.op = true) : J08 P o a s e := by
 simp only [opR, RM.run] at h
 injection h with h; subst h
 obtain ⟨i', t'⟩ := JbR hi hn esz
 have hrel : Ji ⟨s.σ.set new (.arr true esz []), J39 s.g new none, s.w⟩ (.slr new 0 0) (.slice none 0 0) :=
  .slr new 0 0 _ true esz [] ⟨none, 0, rfl, .inl rfl⟩ (J04 hn) (Nat.le_refl _) fun _ => .inl ⟨if_pos rfl, rfl, rfl, rfl⟩
 unfold Jo at hc
 simp only at hc
 split at hc
 ·rename_i hop
  exact J14 (e := ⟨.slr new 0 0, [(new, .arr true esz [])]⟩) (v := .slice none 0 0) (by simp only [execOp, hop]; rfl) i' t' hrel
 ·rename_i hop
  exact J14 (e := ⟨.slr new 0 0, [(new, .arr true esz [])]⟩) (v := .slice none 0 0) (by simp only [execOp, hop]; rfl) i' t' hrel
 ·cases hc
theorem JbZ {α : Type} {cs vs cs' : List α} {off : Nat} (h : spl cs off vs = some cs') : cs'.length = cs.length ∧ off + vs.length ≤ cs.length ∧
  (∀ (i : Nat), i < vs.length → cs'[off + i]? = vs[i]?) ∧ ∀ k, (k < off ∨ off + vs.length ≤ k) → cs'[k]? = cs[k]? := by
 unfold spl at h
 split at h
 ·rename_i hc
  injection h with h; subst h
  obtain ⟨rfl, hl⟩ := hc
  refine ⟨hl.symm, by omega, fun i _ => by rw [Nat.zero_add], fun k hk => ?_⟩
  rw [List.getElem?_eq_none (by omega), List.getElem?_eq_none (by omega)]
 ·split at h
  ·rename_i hc
   injection h with h; subst h
   refine ⟨by simp; omega, hc, fun i hi => ?_, fun k hk => ?_⟩
   ·rw [List.append_assoc, List.getElem?_append_right (by simp; omega), List.getElem?_append_left (by simp; omega)]
    simp
    congr 1
    omega
   ·rcases hk with hk | hk
    ·rw [List.append_assoc, List.getElem?_append_left (by simp; omega), List.getElem?_take, if_pos hk]
    ·rw [List.getElem?_append_right (by simp; omega), List.getElem?_drop]
     congr 1
     simp; omega
  ·cases h
theorem Jm4 {w : World} {r o : Nat} {vs : List Value} {c : Array Value} {et : TypeId} {fz : Nat × Nat} (hh : w.heap[r]? = some (.cells c et fz)) (hl : o + vs.length ≤ c.size)
  (hf : Free fz o (o + vs.length)) (h1 : ∀ v ∈ vs, v.oneCell' = true) : (storeCells ⟨r, o, none⟩ vs).run P w = .ok () (w.setCells r o vs) := by
 have := run_storeCells_cells (P := P) r o vs 0 w
  (fun j hj => by rw [J2d, J1h hh]; simp; omega)
  (fun j hj => by
   have := hf (o + 0 + j) (by omega) (by omega)
   simp only [World.frozen?, hh]
   simpa using this) h1
 simpa using this
theorem J8o {t : TypeId} {v : Value} {w : World} {r o : Nat} {c : Array Value} {et : TypeId} {fz : Nat × Nat} (hs : szT P t = some v.cells.size) (hh : w.heap[r]? = some (.cells c et fz)) (hl : o + v.cells.size ≤ c.size)
  (hf : Free fz o (o + v.cells.size)) (h1 : ∀ u ∈ v.cells.toList, u.oneCell' = true) : (storeVar t ⟨r, o, none⟩ v).run P w = .ok () (w.setCells r o v.cells.toList) := by
 have := Jm4 (P := P) (vs := v.cells.toList) hh (by simpa using hl) (by simpa using hf) h1
 simp [storeVar, J1x hs, this]
theorem JbM {o : Oper} {e : Eff} {w' : World} {g' : Gh} (hr : (execOp a.eval o).run P s.w = .ok .skip w') (hev : e.val = J11)
  (hi : Inv ⟨upd e.ws s.σ, g', w'⟩) (t : Ju s ⟨upd e.ws s.σ, g', w'⟩) : J08 P o a s e := by
 intro next Q h
 simp only [Oper.wp, hr, Oper.upon]
 exact h undef w' g' hi t (by rw [hev]; exact .tup _ _ rfl fun i x v h => by simp at h)
theorem Jmz {b : Nat} : ∀ {ws : List (Nat × Blk)} {σ : List Blk}, (ws.all fun y => y.1 != b) = true → (upd ws σ)[b]? = σ[b]?
 | [], _, _ => rfl
 | y :: ws, σ, h => by
  simp only [List.all_cons, Bool.and_eq_true, bne_iff_ne] at h
  show (upd ws (σ.set y.1 y.2))[b]? = _
  rw [Jmz h.2, JJ h.1]
theorem Joo (hi : Inv s) (he : JC s a.tmps env) {size x y} (h : (opR F (.store size x y) new).run ⟨env, s.σ⟩ = some e) (hc : Jo P (.store size x y) o.op = true) : J08 P o a s e := by
 simp only [opR] at h
 obtain ⟨u, h1, h'⟩ := bind_some h
 obtain ⟨v, h2, h''⟩ := bind_some h'
 clear h h'
 unfold Jo at hc
 simp only at hc
 split at hc
 ·rename_i t x' y' hop
  simp only [Bool.and_eq_true, beq_iff_eq] at hc
  obtain ⟨⟨hs, hx⟩, hy⟩ := hc
  have rx := Jy he h1 hx
  have ry := Jy he h2 hy
  have hex : ∀ {r o' : Nat} {w' : World}, a.eval x' = .pointer (some ⟨r, o', none⟩) → (storeVar t ⟨r, o', none⟩ (a.eval y')).run P s.w = .ok () w' → (execOp a.eval o).run P s.w = .ok .skip w' := by
   intro r o' w' hz hst
   simp [execOp, hop, hz, Instr.storeAt, Instr.sureAddr, hst]
  unfold J2k at h''
  split at h''
  ·rename_i b off
   simp only [RM.run] at h''
   split at h''
   ·rename_i blk hb
    split at h''
    ·rename_i cs
     split at h''
     ·rename_i l hl
      split at h''
      ·rename_i hsz
       split at h''
       ·rename_i cs' hcs'
        simp only [RM.run] at h''; injection h'' with h''; subst h''
        have hb : s.σ[b]? = some (.box cs) := hb
        generalize hz : a.eval x' = z at rx
        cases rx with
        | ptr _ _ r o' m hbx =>
         obtain ⟨k1, k2, k3⟩ := J7t hl ry
         obtain ⟨j1, j2, j3, j4⟩ := JbZ hcs'
         obtain ⟨r1, o1, c, e1, fz, m', hh, hle, hxx, hf⟩ := hi.box b cs hb
         rw [m] at m'; injection m' with m'; injection m' with m1 m2; subst m1 m2
         have hput := J4R (vs := (a.eval y').cells.toList) (o := o' + off) hh (by simp; omega)
         have hlen : (a.eval y').cells.toList.length = l.length := by simp [k1]
         obtain ⟨i', t'⟩ := JbI hi (blk := .box cs') hb hput (fun k h1 h2 => by
           unfold Wr1; rw [hb]; exact ⟨o', m, by omega, by omega⟩) (.box _ _ j1) (fun cs0 heq mono => by
           injection heq with heq; subst heq
           obtain ⟨c0, e0, fz0, c', p1, p2, p3, p4, p5, p6⟩ := hput.there
           rw [hh] at p1; injection p1 with p1; injection p1 with q1 q2 q3; subst q1 q2 q3
           refine ⟨r, o', c', e1, fz, m, p2, by omega, fun i x hxi => ?_, by rw [j1]; exact hf⟩
           by_cases hin : off ≤ i ∧ i < off + l.length
           ·have e1 : cs'[off + (i - off)]? = l[i - off]? := j3 (i - off) (by omega)
            rw [show off + (i - off) = i by omega, hxi] at e1
            have hlt : i - off < (a.eval y').cells.size := by omega
            have e2 := p5 (i - off) (a.eval y').cells[i - off] (by simp)
            refine ⟨(a.eval y').cells[i - off], by rw [← e2]; congr 1; omega, mono (k3 (i - off) x _ e1.symm (by simp)), k2 _ (by simp)⟩
           ·rw [j4 i (by omega)] at hxi
            obtain ⟨v', hv', hr', h1'⟩ := hxx i x hxi
            exact ⟨v', by rw [p6 _ (by simp; omega)]; exact hv', mono hr', h1'⟩)
           (fun _ _ heq => by cases heq)
         refine JbM (e := ⟨J11, [(b, .box cs')]⟩) (hex hz (J8o (by rw [hs, ← hsz, k1]) hh (by omega) (fun k h1 h2 => hf k (by omega) (by omega)) k2)) rfl i' t'
       ·cases h''
      ·cases h''
     ·cases h''
    ·cases h''
   ·cases h''
  ·rename_i b ext i off
   simp only [RM.run] at h''
   split at h''
   ·rename_i blk hb
    split at h''
    ·rename_i esz rows
     split at h''
     ·rename_i hext
      split at h''
      ·rename_i row hrow
       obtain ⟨y2, h3, h4⟩ := bind_some h''
       split at h4
       ·rename_i hcond
        split at h4
        ·rename_i row' hrow'
         simp only [RM.run] at h4; injection h4 with h4; subst h4
         have hb : s.σ[b]? = some (.arr true esz rows) := hb
         obtain ⟨hsz, hall⟩ := hcond
         obtain ⟨g1, i1, t1, f1, l1, r1⟩ := Jig hi (.refl _) h3 ry
         have hb1 : (upd y2.2 s.σ)[b]? = some (.arr true esz rows) := by rw [Jmz hall]; exact hb
         have rx1 := rx.mono hi t1
         obtain ⟨j1, j2, j3, j4⟩ := JbZ hrow'
         have hone : ∀ u ∈ (a.eval y').cells.toList, u.oneCell' = true := by
          intro u hu
          obtain ⟨k, hk⟩ := List.getElem?_of_mem hu
          have hk : (a.eval y').cells[k]? = some u := by simpa using hk
          have hlt := J80 hk
          exact (r1 k y2.1[k] u (by rw [List.getElem?_eq_getElem]) hk).one
         generalize hz : a.eval x' = z at rx1
         cases rx1 with
         | ep _ _ _ _ _ wm' esz' rows' p0 p1 p2 p3 =>
          have p1 : (upd y2.2 s.σ)[b]? = some (.arr wm' esz' rows') := p1
          rw [hb1] at p1; injection p1 with p1; injection p1 with a1 a2 a3; subst a1 a2 a3
          have hlt := J9 hrow
          obtain ⟨r, m, hv⟩ := p3 hext (by omega)
          rcases i1.arr b _ _ _ hb1 with ⟨m', _⟩ | ⟨rr, c, e1, fz, m', hh, hrl, hle, hxx, hf⟩
          ·rw [m] at m'; cases m'
          ·rw [m] at m'; injection m' with m'; injection m' with m1 _; subst m1
           have hrlen := hrl row (JO hrow)
           have hlen : (a.eval y').cells.toList.length = y2.1.length := by simp [l1]
           have hbnd : i * esz + esz ≤ rows.length * esz := by
            have := Nat.mul_le_mul_right esz (show i + 1 ≤ rows.length from hlt)
            rwa [Nat.add_mul, Nat.one_mul] at this
           have hh' : s.w.heap[r]? = some (.cells c e1 fz) := hh
           have hput := J4R (vs := (a.eval y').cells.toList) (o := i * esz + off) hh' (by rw [hlen]; omega)
           obtain ⟨i2, t2⟩ := JbI (s0 := ⟨upd y2.2 s.σ, g1, s.w⟩) i1 (blk := .arr true esz (rows.set i row')) hb1 hput (fun k h1 h2 => by
             unfold Wr1; rw [hb1]; exact ⟨0, m⟩) (.arr _ _ _ (by simp)) (fun _ heq => by cases heq) (fun esz0 rows0 heq mono => by
             injection heq with _ h1 h2; subst h1 h2
             obtain ⟨c0, e0, fz0, c', q1, q2, q3, q4, q5, q6⟩ := hput.there
             rw [hh'] at q1; injection q1 with q1; injection q1 with w1 w2 w3; subst w1 w2 w3
             refine .inr ⟨r, c', e1, fz, m, q2, fun rw0 hrw => ?_, by simp; omega, fun k j row0 x0 hk hj => ⟨?_, fun h => by cases h⟩, by rw [q3]; exact hf⟩
             ·rcases List.mem_or_eq_of_mem_set hrw with hm | hm
              ·exact hrl _ hm
              ·subst hm; omega
             ·have hjlt := J9 hj
              by_cases hki : k = i
              ·subst hki
               rw [List.getElem?_set_self hlt] at hk
               injection hk with hk; subst hk
               by_cases hin : off ≤ j ∧ j < off + y2.1.length
               ·have e1 := j3 (j - off) (by omega)
                rw [show off + (j - off) = j by omega, hj] at e1
                have hlt' : j - off < (a.eval y').cells.size := by omega
                have e2 := q5 (j - off) (a.eval y').cells[j - off] (by simp)
                refine ⟨(a.eval y').cells[j - off], by rw [← e2]; congr 1; omega, mono (r1 (j - off) x0 _ e1.symm (by simp))⟩
               ·rw [j4 j (by omega)] at hj
                obtain ⟨⟨v', hv', hr'⟩, _⟩ := hxx k j row x0 hrow hj
                exact ⟨v', by rw [q6 _ (by rw [hlen]; omega)]; exact hv', mono hr'⟩
              ·rw [List.getElem?_set_ne (Ne.symm hki)] at hk
               obtain ⟨⟨v', hv', hr'⟩, _⟩ := hxx k j row0 x0 hk hj
               refine ⟨v', ?_, mono hr'⟩
               rw [q6 _ ?_]
               ·exact hv'
               ·have hj0 : j < esz := by rw [hrl _ (JO hk)] at hjlt; exact hjlt
                rw [hlen]
                rcases Nat.lt_or_ge k i with hlt' | hge
                ·left
                 have := J3s hlt' hj0
                 omega
                ·right
                 have := Nat.mul_le_mul_right esz (show i + 1 ≤ k by omega)
                 rw [Nat.add_mul, Nat.one_mul] at this
                 omega)
           refine JbM (e := ⟨J11, y2.2 ++ [(b, .arr true esz (rows.set i row'))]⟩) (g' := g1) (hex (hz.trans hv) (J8o (by rw [hs, ← hsz, l1]) hh' (by simp at hlen; omega) (fun k h1 h2 => hf.1 k (by omega) (by simp at hlen; omega)) hone)) rfl ?_ ?_
           ·rw [J0w]; exact i2
           ·rw [J0w]; exact t1.trans t2
        ·cases h4
       ·cases h4
      ·cases h''
     ·cases h''
    ·cases h''
   ·cases h''
  ·cases h''
 ·cases hc
end
end Go.Am
end
section
namespace Go.Am
theorem JjF (vs : List Value) : ∀ (k : Nat) (off : Nat) (cs : Array Value), off + k + vs.length ≤ cs.size →
  let r := (vs.zipIdx k).foldl (fun cs (x : Value × Nat) => cs.setIfInBounds (off + x.2) x.1) cs
  r.size = cs.size ∧ (∀ (j : Nat) v, vs[j]? = some v → r[off + k + j]? = some v) ∧ ∀ i, (i < off + k ∨ off + k + vs.length ≤ i) → r[i]? = cs[i]? := by
 induction vs with
 | nil => intro k off cs _; exact ⟨rfl, fun j v h => by simp at h, fun _ _ => rfl⟩
 | cons v vs ih =>
  intro k off cs h
  simp only [List.length_cons] at h
  have := ih (k + 1) off (cs.setIfInBounds (off + k) v) (by simp; omega)
  simp only [List.zipIdx_cons, List.foldl_cons]
  obtain ⟨h1, h2, h3⟩ := this
  refine ⟨by rw [h1]; simp, fun j u hj => ?_, fun i hi => ?_⟩
  ·cases j with
   | zero =>
    simp at hj; subst hj
    rw [h3 _ (.inl (by omega))]
    have : off + k < cs.size := by omega
    simp [this]
   | succ j => rw [← h2 j u (by simpa using hj)]; congr 1; omega
  ·rw [h3 i (by simp at hi; omega), Array.getElem?_setIfInBounds, if_neg (by simp at hi; omega)]
section
variable {P : Program} {F : Orc} {s : Sn} {a : Act} {env : List (Nat × AV)} {o : Oper} {new : Nat} {e : Eff}
theorem Jgz {place : Nat → Option (Nat × Nat)} {cells : Array Value} {i : Nat} {v : Value} {rest : List (Nat × Value)} {off size : Nat} (hp : place i = some (off, size)) (hs : v.cells.size = size) (hl : off + size ≤ cells.size) :
    ∃ cells' : Array Value, Instr.fill place cells ((i, v) :: rest) = Instr.fill place cells' rest ∧ cells'.size = cells.size ∧ (∀ (j : Nat) u, v.cells[j]? = some u → cells'[off + j]? = some u) ∧
      ∀ k, (k < off ∨ off + size ≤ k) → cells'[k]? = cells[k]? := by
  subst hs
  obtain ⟨h1, h2, h3⟩ := JjF v.cells.toList 0 off cells (by simp; omega)
  refine ⟨v.cells.zipIdx.foldl (fun cs (c, j) => cs.setIfInBounds (off + j) c) cells, ?_, ?_, ?_, ?_⟩
  · simp only [Instr.fill, hp]
    rw [if_neg]
    simp; omega
  all_goals (have hz : v.cells.zipIdx.foldl (fun cs (x : Value × Nat) => cs.setIfInBounds (off + x.2) x.1) cells = (v.cells.toList.zipIdx 0).foldl (fun cs (x : Value × Nat) => cs.setIfInBounds (off + x.2) x.1) cells := by
               rw [← Array.foldl_toList]; simp)
  · rw [hz, h1]
  · intro j u hj; rw [hz]; have := h2 j u (by simpa using hj); simpa using this
  · intro k hk; rw [hz]; exact h3 k (by simpa using hk)
theorem JdD {place : Nat → Option (Nat × Nat)} : ∀ {parts : List (Nat × Nat × List AV)} {ps : List (Nat × Value)} {cs cs' : List AV} {cells : Array Value},
  J45 parts cs = some cs' → parts.length = ps.length →
  (∀ (k : Nat) off size l i v, parts[k]? = some (off, size, l) → ps[k]? = some (i, v) → place i = some (off, size) ∧ l.length = v.cells.size ∧ (∀ u ∈ v.cells.toList, u.oneCell' = true) ∧
   ∀ (j : Nat) y u, l[j]? = some y → v.cells[j]? = some u → Ji s y u) →
  cs.length = cells.size → (∀ (i : Nat) x, cs[i]? = some x → ∃ u, cells[i]? = some u ∧ Ji s x u ∧ u.oneCell' = true) →
  ∃ cells', Instr.fill place cells ps = some cells' ∧ cs'.length = cells'.size ∧ ∀ (i : Nat) x, cs'[i]? = some x → ∃ u, cells'[i]? = some u ∧ Ji s x u ∧ u.oneCell' = true
 | [], [], cs, cs', cells, h, _, _, hl, hr => by
  simp [J45] at h; subst h
  exact ⟨cells, rfl, hl, hr⟩
 | [], _ :: _, _, _, _, _, hl, _, _, _ => by simp at hl
 | _ :: _, [], _, _, _, _, hl, _, _, _ => by simp at hl
 | (off, size, l) :: parts, (i, v) :: ps, cs, cs', cells, h, hlen, hp, hl, hr => by
  unfold J45 at h
  split at h
  ·rename_i hsz
   split at h
   ·rename_i cs1 hcs1
    obtain ⟨p1, p2, p3, p4⟩ := hp 0 off size l i v rfl rfl
    obtain ⟨j1, j2, j3, j4⟩ := JbZ hcs1
    obtain ⟨cells1, f1, f2, f3, f4⟩ := Jgz (v := v) (rest := ps) (cells := cells) p1 (by omega) (by omega)
    obtain ⟨cells', g1, g2, g3⟩ := JdD (cells := cells1) h (by simpa using hlen) (fun k off size l i v h1 h2 => hp (k + 1) off size l i v (by simpa using h1) (by simpa using h2)) (by omega) (fun k x hk => by
     by_cases hin : off ≤ k ∧ k < off + l.length
     ·have e1 := j3 (k - off) (by omega)
      rw [show off + (k - off) = k by omega, hk] at e1
      have hlt : k - off < v.cells.size := by omega
      have e2 := f3 (k - off) v.cells[k - off] (by simp)
      exact ⟨v.cells[k - off], by rw [← e2]; congr 1; omega, p4 (k - off) x _ e1.symm (by simp), p3 _ (by simp)⟩
     ·rw [j4 k (by omega)] at hk
      obtain ⟨u, hu, hr', h1⟩ := hr k x hk
      exact ⟨u, by rw [f4 k (by omega)]; exact hu, hr', h1⟩)
    exact ⟨cells', by rw [f1]; exact g1, g2, g3⟩
   ·cases h
  ·cases h
theorem JaF (he : JC s a.tmps env) {place : Nat → Option (Nat × Nat)} : ∀ {parts : List (Nat × Nat × Opd)} {ps : List (Nat × Operand)} {l : List (Nat × Nat × List AV)},
  (J38 parts).run ⟨env, s.σ⟩ = some l → J3R place parts ps = true →
  l.length = (ps.map fun x => (x.1, a.eval x.2)).length ∧
  ∀ (k : Nat) off size cs i v, l[k]? = some (off, size, cs) → (ps.map fun x => (x.1, a.eval x.2))[k]? = some (i, v) → place i = some (off, size) ∧ cs.length = v.cells.size ∧ (∀ u ∈ v.cells.toList, u.oneCell' = true) ∧
   ∀ (j : Nat) y u, cs[j]? = some y → v.cells[j]? = some u → Ji s y u
 | [], [], l, h, _ => by
  simp only [J38, RM.run] at h; injection h with h; subst h
  exact ⟨rfl, fun k off size cs i v h => by simp at h⟩
 | [], _ :: _, _, _, hc => by simp [J3R] at hc
 | _ :: _, [], _, _, hc => by simp [J3R] at hc
 | (off, size, x) :: parts, (i, y) :: ps, l, h, hc => by
  simp only [J3R, Bool.and_eq_true, beq_iff_eq] at hc
  obtain ⟨⟨hp, hx⟩, hc⟩ := hc
  simp only [J38] at h
  obtain ⟨v, h1, h⟩ := bind_some h
  split at h
  ·rename_i cs hcs
   obtain ⟨l', h2, h⟩ := bind_some h
   simp only [RM.run] at h; injection h with h; subst h
   obtain ⟨k1, k2⟩ := JaF he h2 hc
   obtain ⟨q1, q2, q3⟩ := J7t hcs (Jy he h1 hx)
   refine ⟨by simpa using k1, fun k off' size' cs' i' v' h3 h4 => ?_⟩
   cases k with
   | zero =>
    simp at h3 h4
    obtain ⟨rfl, rfl, rfl⟩ := h3
    obtain ⟨rfl, rfl⟩ := h4
    exact ⟨hp, q1, q2, q3⟩
   | succ k => exact k2 k off' size' cs' i' v' (by simpa using h3) (by simpa using h4)
  ·cases h
theorem Jay : ∀ {fs : List Field}, (∀ f ∈ fs, (szT P f.type).isSome = true) → ∀ w : World,
  (fs.mapM fun f => do pure (f.offset, ← sizeOf f.type) : Sem (List (Nat × Nat))).run P w = .ok (fs.map fun f => (f.offset, (szT P f.type).getD 0)) w
 | [], _, w => by simp
 | f :: fs, h, w => by
  have hs : (szT P f.type) = some ((szT P f.type).getD 0) := by
   have := h f (by simp)
   cases hq : szT P f.type <;> simp [hq] at this ⊢
  have ih := Jay (fs := fs) (fun g hg => h g (by simp [hg])) w
  rw [List.mapM_cons]
  simp only [Sem.run_bind, J1x hs, Result.andThen_ok, Sem.run_pure, ih]
  simp
theorem JnT (hi : Inv s) (he : JC s a.tmps env) {zero parts} (h : (opR F (.build zero parts) new).run ⟨env, s.σ⟩ = some e) (hc : Jo P (.build zero parts) o.op = true) : J08 P o a s e := by
 simp only [opR] at h
 obtain ⟨l, h1, h'⟩ := bind_some h
 clear h
 unfold Jo at hc
 simp only at hc
 split at hc
 ·rename_i t ps hop
  simp only [Bool.and_eq_true] at hc
  obtain ⟨hz, ht⟩ := hc
  obtain ⟨z, hz1, hz2, hz3⟩ := J32 hz
  split at h'
  ·rename_i cs hcs
   obtain ⟨r, h3, rfl⟩ := J0P h'
   have hzero : ∀ (i : Nat) x, (zero.map AV.p)[i]? = some x → ∃ u, z.cells[i]? = some u ∧ Ji s x u ∧ u.oneCell' = true := by
    intro i x hx
    rw [List.getElem?_map] at hx
    cases hzi : zero[i]? with
    | none => simp [hzi] at hx
    | some c =>
     simp [hzi] at hx; subst hx
     have hlt := J9 hzi
     have hlt' : i < z.cells.size := by omega
     have := hz3 (w := s.w) (C := s.g.C) i c z.cells[i] hzi (by simp)
     exact ⟨z.cells[i], by simp, .p _ _ this, this.one⟩
   have fin : ∀ {place : Nat → Option (Nat × Nat)}, J3R place parts ps.toList = true →
     ∃ cells', Instr.fill place z.cells (ps.toList.map fun x => (x.1, a.eval x.2)) = some cells' ∧ Ji s r (.agg cells') := by
    intro place hch
    obtain ⟨k1, k2⟩ := JaF he h1 hch
    obtain ⟨cells', f1, f2, f3⟩ := JdD (s := s) (cells := z.cells) hcs k1 k2 (by simp [hz2]) hzero
    refine ⟨cells', f1, ?_⟩
    have := JeT (s := s) (vs := cells'.toList) h3 (by simpa using f2) (fun v hv => by
      obtain ⟨i, hi'⟩ := List.getElem?_of_mem hv
      have hi' : cells'[i]? = some v := by simpa using hi'
      have hlt := J80 hi'
      obtain ⟨u, hu, _, h1⟩ := f3 i cs[i] (by rw [List.getElem?_eq_getElem])
      rw [hi'] at hu; injection hu with hu; subst hu; exact h1)
     (fun i y v hy hv => by
      obtain ⟨u, hu, hr, _⟩ := f3 i y hy
      have hv : cells'[i]? = some v := by simpa using hv
      rw [hv] at hu; injection hu with hu; subst hu; exact hr)
    rcases this with ⟨_, hr⟩ | ⟨hf, _⟩
    ·simpa using hr
    ·cases hf
   have hps : (ps.map fun x => (x.1, a.eval x.2)).toList = ps.toList.map fun x => (x.1, a.eval x.2) := by simp
   split at ht
   ·rename_i fs hu
    simp only [Bool.and_eq_true] at ht
    obtain ⟨hall, hch⟩ := ht
    obtain ⟨cells', f1, hr⟩ := fin hch
    have hpl : (fun i => (fs.map fun f => (f.offset, (szT P f.type).getD 0))[i]?) = J8d P fs := by
     funext i
     simp only [J8d, Array.getElem?_map]
     cases hfi : fs[i]? with
     | none => rfl
     | some f =>
      have := Array.all_eq_true_iff_forall_mem.1 hall f (Array.mem_of_getElem? hfi)
      cases hq : szT P f.type <;> simp [hq] at this ⊢
    refine Jj hi (v := .agg cells') ?_ hr
    have hmap : (fs.mapM fun f => do pure (f.offset, ← sizeOf f.type) : Sem (Array (Nat × Nat))).run P s.w = .ok (fs.map fun f => (f.offset, (szT P f.type).getD 0)) s.w := by
     rw [Array.mapM_eq_mapM_toList]
     simp only [Sem.run_map, Jay (P := P) (fs := fs.toList) (fun f hf => Array.all_eq_true_iff_forall_mem.1 hall f (by simpa using hf)), Result.andThen_ok]
     congr 1
     apply Array.ext'; simp
    have hf : Instr.fill (fun i => (fs.map fun f => (f.offset, (szT P f.type).getD 0))[i]?) z.cells (ps.map fun x => (x.1, a.eval x.2)).toList = some cells' := by
     rw [hpl, hps]; exact f1
    have hb : (Instr.build t (ps.map fun x => (x.1, a.eval x.2))).run P s.w = .ok (.agg cells') s.w := by
     unfold Instr.build
     simp only [Sem.run_bind, J7j hz1, Result.andThen_ok, run_underlying hu, hmap, hf]
     rfl
    simp only [execOp, hop, Sem.run_bind, hb, Result.andThen_ok, Sem.run_pure]
   ·rename_i n el hu
    split at ht
    ·rename_i q hq
     obtain ⟨cells', f1, hr⟩ := fin ht
     refine Jj hi (v := .agg cells') ?_ hr
     have hb : (Instr.build t (ps.map fun x => (x.1, a.eval x.2))).run P s.w = .ok (.agg cells') s.w := by
      unfold Instr.build
      simp only [Sem.run_bind, J7j hz1, Result.andThen_ok, run_underlying hu, J1x hq, hps, f1]
      rfl
     simp only [execOp, hop, Sem.run_bind, hb, Result.andThen_ok, Sem.run_pure]
    ·cases ht
   ·cases ht
  ·cases h'
 ·cases hc
theorem Jr7 (hi : Inv s) {n} (h : (opR F (.alen n) new).run ⟨env, s.σ⟩ = some e) (hc : Jo P (.alen n) o.op = true) : J08 P o a s e := by
 simp only [opR, RM.run] at h
 injection h with h; subst h
 unfold Jo at hc
 simp only at hc
 split at hc
 ·rename_i c hop
  split at hc
  ·rename_i hcal
   split at hc
   ·rename_i y t hargs htys
    have hm : c.args.map a.eval = #[a.eval y] := by apply Array.ext'; simp [hargs]
    have ht0 : c.argTypes[0]? = some t := by rw [← Array.getElem?_toList, htys]; rfl
    split at hc
    ·rename_i m el hu
     have : m = n := by simpa using hc
     subst this
     exact Jj hi (v := .int .i64 m) (by simp [execOp, hop, resolve, hcal, hm, invoke, builtin, Builtin.len_, ht0, run_underlying hu, goInt]) (J3q _ _)
    ·rename_i ar hu
     split at hc
     ·rename_i m el har
      have : m = n := by simpa using hc
      subst this
      exact Jj hi (v := .int .i64 m) (by simp [execOp, hop, resolve, hcal, hm, invoke, builtin, Builtin.len_, ht0, run_underlying hu, run_underlying (JcO har), goInt]) (J3q _ _)
     ·cases hc
    ·cases hc
   ·cases hc
  ·cases hc
 ·cases hc
end
end Go.Am
end
section
namespace Go.Am
def J7v (s : Sn) (esz : Nat) (rows : List (List PV)) (c : Array Value) : Prop :=
 (∀ row ∈ rows, row.length = esz) ∧ rows.length * esz ≤ c.size ∧
  ∀ (i j : Nat) row x, rows[i]? = some row → row[j]? = some x → ∃ u, c[i * esz + j]? = some u ∧ Jp s.w s.g.C x u
section
variable {P : Program} {F : Orc} {s : Sn} {a : Act} {env : List (Nat × AV)} {o : Oper} {new : Nat} {e : Eff}
theorem J7v.mono {s0 s : Sn} (hi : Inv s0) (t : Ju s0 s) {esz rows c} (h : J7v s0 esz rows c) : J7v s esz rows c :=
 ⟨h.1, h.2.1, fun i j row x hr hx => let ⟨u, h1, h2⟩ := h.2.2 i j row x hr hx; ⟨u, h1, h2.mono hi t⟩⟩
theorem Jan {s0 : Sn} (hi : Inv s0) (hn : s0.σ[new]? = some .dead) {esz : Nat} {rows : List (List PV)} {c : Array Value} {et : TypeId} {fz : Nat × Nat} {w' : World} {cap : Nat}
  (hh : w'.heap = s0.w.heap.push (.cells c et fz)) (ho : w'.os = s0.w.os) (hp : w'.output = s0.w.output) (hf : J9g esz fz c.size) (hr : J7v s0 esz rows c) (hcap : rows.length ≤ cap) (hsz : cap * esz ≤ c.size) :
  (∃ g', Inv ⟨s0.σ.set new (.arr true esz rows), g', w'⟩ ∧ Ju s0 ⟨s0.σ.set new (.arr true esz rows), g', w'⟩ ∧
   Ji ⟨s0.σ.set new (.arr true esz rows), g', w'⟩ (.slr new 0 rows.length) (.slice (some ⟨s0.w.heap.size, 0, none⟩) rows.length cap)) := by
 obtain ⟨i', t'⟩ := JbX hi hn (blk := .arr true esz rows) hh ho hp hf.1 (fun _ _ _ h => by injection h with _ h _; subst h; exact hf.2) hr
 refine ⟨_, i', t', .slr new 0 _ _ true esz rows ⟨_, _, rfl, .inr (by simp)⟩ (J04 hn) (by omega) fun _ => .inr ⟨s0.w.heap.size, cap, c, et, fz, if_pos rfl, by simp, hcap, J6B hh, by simpa using hsz⟩⟩
theorem JbG {s0 : Sn} (hi : Inv s0) {esz : Nat} {rows : List (List PV)} {c : Array Value} {et : TypeId} {fz : Nat × Nat} {w' : World} {cap : Nat}
  (hh : w'.heap = s0.w.heap.push (.cells c et fz)) (ho : w'.os = s0.w.os) (hp : w'.output = s0.w.output) (hr : J7v s0 esz rows c) (hcap : rows.length ≤ cap) :
  (∃ g', Inv ⟨s0.σ, g', w'⟩ ∧ Ju s0 ⟨s0.σ, g', w'⟩ ∧ Ji ⟨s0.σ, g', w'⟩ (.p (.sl esz rows)) (.slice (some ⟨s0.w.heap.size, 0, none⟩) rows.length cap)) := by
 obtain ⟨i', t'⟩ := JmN hi hh ho hp
 refine ⟨_, i', t', .p _ _ (J9x (s := ⟨s0.σ, _, w'⟩) rfl hcap hr.1 (.inr ⟨_, 0, rfl, fun i j row x hi' hj => ⟨.inr rfl, ?_⟩⟩))⟩
 obtain ⟨u, hu, hrel⟩ := hr.2.2 i j row x hi' hj
 exact ⟨u, by rw [J1h (J6B hh), Nat.zero_add]; exact hu, hrel.mono hi t'⟩
theorem Jkp {σ0 : List Blk} {tmps : Array Value} (he : ∀ n x, lk n env = some x → ∃ v, a.tmps[n]? = some v) : ∀ {xs : List Opd} {ys : List Operand} {s : Sn} {y : List (List PV) × List (Nat × Blk)}, Inv s → Frz σ0 s.σ → JC s a.tmps env →
  (fzs xs).run ⟨env, σ0⟩ = some y → J3w xs ys = true →
  ∃ g', Inv ⟨upd y.2 s.σ, g', s.w⟩ ∧ Ju s ⟨upd y.2 s.σ, g', s.w⟩ ∧ Frz s.σ (upd y.2 s.σ) ∧ y.1.length = ys.length ∧
   ∀ (k : Nat) cs q, y.1[k]? = some cs → ys[k]? = some q → cs.length = (a.eval q).cells.size ∧ ∀ (i : Nat) c u, cs[i]? = some c → (a.eval q).cells[i]? = some u → Jp s.w g'.C c u
 | [], [], s, y, hi, hF, hE, h, _ => by
  simp only [fzs, RM.run] at h; injection h with h; subst h
  exact ⟨s.g, hi, .refl s, .refl _, rfl, fun k cs q h => by simp at h⟩
 | [], _ :: _, _, _, _, _, _, _, hc => by simp [J3w] at hc
 | _ :: _, [], _, _, _, _, _, _, hc => by simp [J3w] at hc
 | x :: xs, q :: ys, s, y, hi, hF, hE, h, hc => by
  simp only [J3w, Bool.and_eq_true] at hc
  simp only [fzs] at h
  obtain ⟨v, h1, h⟩ := bind_some h
  obtain ⟨y1, h2, h⟩ := bind_some h
  obtain ⟨y2, h3, h⟩ := bind_some h
  simp only [RM.run] at h; injection h with h; subst h
  have h1' : (ev x).run ⟨env, s.σ⟩ = some v := by
   cases x with
   | t n => simpa only [ev, RM.run] using h1
   | c z => simpa only [ev, RM.run] using h1
  have hr := Jy hE h1' hc.1
  obtain ⟨g1, i1, t1, f1, l1, r1⟩ := Jig hi hF h2 hr
  obtain ⟨g2, i2, t2, f2, l2, r2⟩ := Jkp (tmps := tmps) he (s := ⟨upd y1.2 s.σ, g1, s.w⟩) i1 (hF.trans f1) (hE.mono hi t1) h3 hc.2
  refine ⟨g2, by rw [J0w]; exact i2, by rw [J0w]; exact t1.trans t2, by rw [J0w]; exact f1.trans f2, by simp [l2], fun k cs q' hk hq => ?_⟩
  cases k with
  | zero =>
   simp at hk hq; subst hk hq
   exact ⟨l1, fun i c u hc hu => Jp.mono (s0 := ⟨upd y1.2 s.σ, g1, s.w⟩) (s := ⟨upd y2.2 (upd y1.2 s.σ), g2, s.w⟩) i1 t2 (r1 i c u hc hu)⟩
  | succ k => exact r2 k cs q' (by simpa using hk) (by simpa using hq)
theorem Jgx {esz : Nat} (hpos : 0 < esz) : ∀ {parts : List (Nat × List PV)} {ps : List (Nat × Value)} {rows rows' : List (List PV)} {cells : Array Value},
  J4T esz parts rows = some rows' → parts.length = ps.length →
  (∀ (k : Nat) i cs j v, parts[k]? = some (i, cs) → ps[k]? = some (j, v) → i = j ∧ cs.length = v.cells.size ∧ ∀ (m : Nat) c u, cs[m]? = some c → v.cells[m]? = some u → Jp s.w s.g.C c u) →
  J7v s esz rows cells → cells.size = rows.length * esz →
  ∃ cells', Instr.fill (fun i => some (i * esz, esz)) cells ps = some cells' ∧ J7v s esz rows' cells' ∧ rows'.length = rows.length ∧ cells'.size = rows.length * esz
 | [], [], rows, rows', cells, h, _, _, hr, hs => by
  simp [J4T] at h; subst h
  exact ⟨cells, rfl, hr, rfl, hs⟩
 | [], _ :: _, _, _, _, _, hl, _, _, _ => by simp at hl
 | _ :: _, [], _, _, _, _, hl, _, _, _ => by simp at hl
 | (i, cs) :: parts, (j, v) :: ps, rows, rows', cells, h, hlen, hp, hr, hs => by
  unfold J4T at h
  split at h
  ·rename_i hc
   obtain ⟨rfl, p2, p3⟩ := hp 0 i cs j v rfl rfl
   have hbnd : i * esz + esz ≤ rows.length * esz := by
    have := Nat.mul_le_mul_right esz (show i + 1 ≤ rows.length from hc.2)
    rwa [Nat.add_mul, Nat.one_mul] at this
   obtain ⟨cells1, f1, f2, f3, f4⟩ := Jgz (place := fun i => some (i * esz, esz)) (v := v) (rest := ps) (cells := cells) (i := i) rfl (by omega) (by omega)
   obtain ⟨q1, q2, q3⟩ := hr
   obtain ⟨cells', g1, g2, g3, g4⟩ := Jgx hpos (cells := cells1) h (by simpa using hlen) (fun k i cs j v h1 h2 => hp (k + 1) i cs j v (by simpa using h1) (by simpa using h2))
    ⟨fun row hm => by
      rcases List.mem_or_eq_of_mem_set hm with hm | hm
      ·exact q1 row hm
      ·subst hm; exact hc.1, by simp; omega, fun k m row x hk hx => by
      by_cases hki : k = i
      ·subst hki
       rw [List.getElem?_set_self hc.2] at hk
       injection hk with hk; subst hk
       have hlt := J9 hx
       have hlt' : m < v.cells.size := by omega
       exact ⟨v.cells[m], f3 m _ (by simp), p3 m x _ hx (by simp)⟩
      ·rw [List.getElem?_set_ne (Ne.symm hki)] at hk
       obtain ⟨u, hu, hrel⟩ := q3 k m row x hk hx
       refine ⟨u, ?_, hrel⟩
       rw [f4 _ ?_]
       ·exact hu
       ·have hm0 := J9 hx
        rw [q1 row (JO hk)] at hm0
        rcases Nat.lt_or_ge k i with hlt' | hge
        ·left
         have := J3s hlt' hm0
         omega
        ·right
         have := Nat.mul_le_mul_right esz (show i + 1 ≤ k by omega)
         rw [Nat.add_mul, Nat.one_mul] at this
         omega⟩ (by simp; omega)
   exact ⟨cells', by rw [f1]; exact g1, g2, by simpa using g3, by simpa using g4⟩
  ·cases h
theorem Jci {t : TypeId} {n : Nat} (h : szT P t = some n) : ∃ i, P.info? t = some i ∧ i.size = n := by
 unfold szT at h
 cases hi : P.info? t with
 | none => rw [hi] at h; cases h
 | some i => rw [hi] at h; simp at h; exact ⟨i, rfl, h⟩
theorem JfT {t : TypeId} {v : Value} {i : TypeInfo} (h : zeT P t = some v) (hi : P.info? t = some i) : i.zero = some v := by
 unfold zeT at h; rw [hi] at h; simpa using h
theorem Jd5 {t : TypeId} {n : Nat} {i : TypeInfo} (h : byT P t = some n) (hi : P.info? t = some i) : i.bytes = n := by
 unfold byT at h; rw [hi] at h; simpa using h
theorem JoL {z : Array Value} {esz n i j : Nat} (hz : z.size = esz) (hi : i < n) (hj : j < esz) : (madeCells z (n * esz))[i * esz + j]? = z[j]? := by
 have h1 : i * esz + j < n * esz := J3s hi hj
 have h2 : (i * esz + j) % z.size = j := by
  rw [hz, Nat.add_comm, Nat.add_mul_mod_self_right, Nat.mod_eq_of_lt hj]
 have h3 : j < z.size := by omega
 simp [madeCells, h1, h2, h3]
theorem Jex {zero : List PV} {z : Value} {esz n m : Nat} (hl : zero.length = esz) (hz2 : zero.length = z.cells.size)
  (hz3 : ∀ {w C} (i : Nat) x u, zero[i]? = some x → z.cells[i]? = some u → Jp w C x u) (hnm : n ≤ m) : J7v s esz (List.replicate n zero) (madeCells z.cells (m * esz)) := by
 refine ⟨fun row hr => by rw [List.eq_of_mem_replicate hr]; exact hl, ?_, fun i j row x hi hj => ?_⟩
 ·rw [size_madeCells, List.length_replicate]; exact Nat.mul_le_mul_right esz hnm
 ·have hlt := J9 hi
  have := List.eq_of_mem_replicate (JO hi)
  subst this
  have hj' := J9 hj
  simp at hlt
  have hz : z.cells.size = esz := by omega
  refine ⟨z.cells[j], ?_, hz3 j x _ hj (by simp)⟩
  rw [JoL hz (by omega) (by omega)]
  simp
theorem JlG (hi : Inv s) (he : JC s a.tmps env) {own esz bytes zero l c} (hn : own = true → s.σ[new]? = some .dead) (h : (opR F (.mkslice own esz bytes zero l c) new).run ⟨env, s.σ⟩ = some e)
  (hc : Jo P (.mkslice own esz bytes zero l c) o.op = true) : J08 P o a s e := by
 simp only [opR] at h
 obtain ⟨u, h1, h'⟩ := bind_some h
 obtain ⟨v, h2, h''⟩ := bind_some h'
 clear h h'
 unfold Jo at hc
 simp only at hc
 split at hc
 ·rename_i t l' c' hop
  simp only [Bool.and_eq_true] at hc
  obtain ⟨⟨hl, hcc⟩, ht⟩ := hc
  have rl := Jy he h1 hl
  have rc := Jy he h2 hcc
  split at ht
  ·rename_i el hel
   simp only [Bool.and_eq_true, beq_iff_eq, decide_eq_true_eq] at ht
   obtain ⟨⟨⟨⟨⟨hs, hby⟩, hz⟩, hzl⟩, hpos⟩, hbpos⟩ := ht
   obtain ⟨i, hinf, hsz⟩ := Jci hs
   obtain ⟨z, hz1, hz2, hz3⟩ := J32 hz
   have hbytes := Jd5 hby hinf
   split at h''
   ·rename_i k n k' m
    split at h''
    ·rename_i hcond
     obtain ⟨hn0, hnm, hb, hm⟩ := hcond
     have e1 := J2w rl
     have e2 := J2w rc
     have hrun := run_make (P := P) s.w t el i z (J0S hel) hinf (JfT hz1 hinf) k k' n m hn0 hnm (by rw [hbytes]; exact hb) (by omega)
     rw [hsz] at hrun
     have hrow : J7v s esz (List.replicate n.toNat zero) (madeCells z.cells (m.toNat * esz)) := Jex hzl hz2 hz3 (by omega)
     have hex : (execOp a.eval o).run P s.w = .ok (.value (.slice (some ⟨s.w.heap.size, 0, none⟩) n.toNat m.toNat)) (s.w.alloc (.cells (madeCells z.cells (m.toNat * esz)) el)) := by
      simp [execOp, hop, e1, e2, hrun]
     split at h''
     ·rename_i hown
      simp only [RM.run] at h''; injection h'' with h''; subst h''
      obtain ⟨g', i', t', r'⟩ := Jan hi (hn hown) (w' := s.w.alloc (.cells (madeCells z.cells (m.toNat * esz)) el)) (fz := (0, 0)) rfl rfl rfl (J9g.zero _ _) hrow (cap := m.toNat) (by simp; omega) (by rw [size_madeCells]; exact Nat.le_refl _)
      simp only [List.length_replicate] at r'
      exact J14 hex i' t' r'
     ·simp only [RM.run] at h''; injection h'' with h''; subst h''
      obtain ⟨g', i', t', r'⟩ := JbG hi (w' := s.w.alloc (.cells (madeCells z.cells (m.toNat * esz)) el)) (fz := (0, 0)) rfl rfl rfl hrow (cap := m.toNat) (by simp; omega)
      simp only [List.length_replicate] at r'
      exact J14 (e := ⟨_, []⟩) hex i' t' r'
    ·cases h''
   ·cases h''
  ·cases ht
 ·cases hc
theorem Jqn (hi : Inv s) (he : JC s a.tmps env) {own esz n zero parts} (hn : own = true → s.σ[new]? = some .dead) (h : (opR F (.lits own esz n zero parts) new).run ⟨env, s.σ⟩ = some e)
  (hc : Jo P (.lits own esz n zero parts) o.op = true) : J08 P o a s e := by
 simp only [opR] at h
 obtain ⟨y, h1, h'⟩ := bind_some h
 clear h
 unfold Jo at hc
 simp only at hc
 split at hc
 ·rename_i t len ps hop
  simp only [Bool.and_eq_true, beq_iff_eq] at hc
  obtain ⟨rfl, ht⟩ := hc
  split at ht
  ·rename_i el hel
   simp only [Bool.and_eq_true, beq_iff_eq, decide_eq_true_eq] at ht
   obtain ⟨⟨⟨⟨⟨hs, hle⟩, hz⟩, hzl⟩, hpos⟩, hidx⟩ := ht
   obtain ⟨z, hz1, hz2, hz3⟩ := J32 hz
   have hidx' : J3w (parts.map (·.2)) (ps.toList.map (·.2)) = true ∧ parts.map (·.1) = ps.toList.map (·.1) := by
    have : ∀ {p : List (Nat × Opd)} {q : List (Nat × Operand)}, Ja7 p q = true → J3w (p.map (·.2)) (q.map (·.2)) = true ∧ p.map (·.1) = q.map (·.1) := by
     intro p
     induction p with
     | nil => intro q h; cases q <;> simp [Ja7] at h ⊢; rfl
     | cons x p ih =>
      intro q h
      cases q with
      | nil => simp [Ja7] at h
      | cons y q =>
       obtain ⟨xi, xo⟩ := x
       obtain ⟨yi, yo⟩ := y
       simp only [Ja7, Bool.and_eq_true, beq_iff_eq] at h
       obtain ⟨h3, h4⟩ := ih h.2
       exact ⟨by simp [J3w, h.1.2, h3], by simp [h.1.1, h4]⟩
    exact this hidx
   obtain ⟨g1, i1, t1, f1, l1, r1⟩ := Jkp (tmps := a.tmps) (fun n x hx => let ⟨v, h, _⟩ := he n x hx; ⟨v, h⟩) hi (.refl _) he h1 hidx'.1
   split at h'
   ·rename_i rows hrows
    have hplen : (parts.map (·.1)).length = (ps.toList.map (·.1)).length := by rw [hidx'.2]
    simp at hplen
    simp at l1
    have hzip : ((parts.map (·.1)).zip y.1).length = (ps.toList.map fun x => (x.1, a.eval x.2)).length := by simp; omega
    obtain ⟨cells', f2, r2, len2, sz2⟩ := Jgx (s := ⟨upd y.2 s.σ, g1, s.w⟩) hpos (ps := ps.toList.map fun x => (x.1, a.eval x.2)) (cells := madeCells z.cells (len * esz)) hrows hzip (fun k i cs j v hk hq => by
      rw [List.getElem?_zip_eq_some] at hk
      obtain ⟨hk1, hk2⟩ := hk
      rw [List.getElem?_map] at hq
      cases hpk : ps.toList[k]? with
      | none => simp [hpk] at hq
      | some q =>
       simp [hpk] at hq
       obtain ⟨rfl, rfl⟩ := hq
       rw [hidx'.2, List.getElem?_map, hpk] at hk1
       simp at hk1
       obtain ⟨k3, k4⟩ := r1 k cs q.2 hk2 (by rw [List.getElem?_map, hpk]; rfl)
       exact ⟨hk1.symm, k3, k4⟩)
     (Jex hzl hz2 hz3 (Nat.le_refl _)) (by simp [size_madeCells])
    simp at len2 sz2
    have hex : (execOp a.eval o).run P s.w = .ok (.value (.slice (some ⟨s.w.heap.size, 0, none⟩) len len)) (s.w.alloc (.cells cells' el)) := by
     have hle' : ¬ (len * esz > 2 ^ 24) := by omega
     have hps : (ps.map fun (x : Nat × Operand) => (x.1, a.eval x.2)).toList = ps.toList.map fun x => (x.1, a.eval x.2) := by simp
     have hb : (Instr.buildSlice t len (ps.map fun (x : Nat × Operand) => (x.1, a.eval x.2))).run P s.w = .ok (.slice (some ⟨s.w.heap.size, 0, none⟩) len len) (s.w.alloc (.cells cells' el)) := by
      unfold Instr.buildSlice
      by_cases h0 : len * esz = 0
      ·have hm0 : madeCells z.cells (len * esz) = #[] := by simp [madeCells, h0]
       rw [hm0] at f2
       have h00 : ¬ ((0 : Nat) > 2 ^ 24) := by decide
       have hr0 : Array.range 0 = #[] := rfl
       simp only [h00, Sem.run_bind, run_underlying (J0S hel), Result.andThen_ok, J1x hs, hle', if_false, h0, if_true, Sem.run_pure, hps, hr0, Array.map_empty, f2, newRow, run_newObj]
       rfl
      ·have hm0 : ((Array.range (len * esz)).map fun x => z.cells[x % z.cells.size]!) = madeCells z.cells (len * esz) := rfl
       simp only [Sem.run_bind, run_underlying (J0S hel), Result.andThen_ok, J1x hs, hle', if_false, h0, J7j hz1, Sem.run_pure, hps, hm0, f2, newRow, run_newObj]
       rfl
     simp only [execOp, hop, Sem.run_bind, hb, Result.andThen_ok, Sem.run_pure]
    split at h'
    ·rename_i hown
     simp only [RM.run] at h'; injection h' with h'; subst h'
     have hd1 : (upd y.2 s.σ)[new]? = some .dead := f1.2 _ _ (hn hown) (by simp)
     obtain ⟨g', i', t', r'⟩ := Jan (s0 := ⟨upd y.2 s.σ, g1, s.w⟩) i1 hd1 (w' := s.w.alloc (.cells cells' el)) (fz := (0, 0)) rfl rfl rfl (J9g.zero _ _) r2 (cap := len) (by omega) (by omega)
     rw [len2] at r'
     refine J14 (e := ⟨_, y.2 ++ [(new, .arr true esz rows)]⟩) (g' := g') hex ?_ ?_ ?_
     ·rw [J0w]; exact i'
     ·rw [J0w]; exact t1.trans t'
     ·rw [J0w]; exact r'
    ·simp only [RM.run] at h'; injection h' with h'; subst h'
     obtain ⟨g', i', t', r'⟩ := JbG (s0 := ⟨upd y.2 s.σ, g1, s.w⟩) i1 (w' := s.w.alloc (.cells cells' el)) (fz := (0, 0)) rfl rfl rfl r2 (cap := len) (by omega)
     rw [len2] at r'
     exact J14 (e := ⟨_, y.2⟩) hex i' (t1.trans t') r'
   ·cases h'
  ·cases ht
 ·cases hc
end
end Go.Am
end
