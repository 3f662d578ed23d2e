/-
  Parts of a proof.
-/
import Derived.Calls
import Derived.LoopN
import Derived.KernelRfl
import Derived.Laws.Sem
set_option linter.unusedSimpArgs false
set_option linter.unusedVariables false
section
namespace Go.Am
inductive PV where
 | b (x : Bool)
 | i (k : IntKind) (n : Int)
 | s (l : List UInt8)
 | sl (esz : Nat) (rows : List (List PV))
 | np
 | nf
 | slc (esz : Nat) (rows : List (List PV))
 deriving Inhabited
inductive AV where
 | p (c : PV)
 | data (cs : List PV)
 | agg (cs : List AV)
 | tup (vs : List AV)
 | ptr (b off : Nat)
 | cp (cs : List PV) (off : Nat)
 | slr (b i n : Nat)
 | ep (b ext i off : Nat)
 | fn (f : FuncId) (first caps : List AV)
 | unk
 deriving Inhabited
inductive Blk where
 | dead
 | box (cs : List AV)
 | arr (w : Bool) (esz : Nat) (rows : List (List PV))
 deriving Inhabited
abbrev Res := AV × List Blk
abbrev Orc := FuncId → List AV → List Blk → Option Res
structure St where
 env : List (Nat × AV)
 sto : List Blk
def lk (n : Nat) : List (Nat × AV) → Option AV
 | [] => none
 | (m, v) :: r => if n = m then some v else lk n r
inductive RM (α : Type) where
 | ret (a : α)
 | slot (n : Nat) (k : AV → RM α)
 | blk (b : Nat) (k : Blk → RM α)
 | fail
def RM.bind {α β : Type} : RM α → (α → RM β) → RM β
 | .ret a, f => f a
 | .slot n k, f => .slot n fun v => (k v).bind f
 | .blk b k, f => .blk b fun v => (k v).bind f
 | .fail, _ => .fail
def RM.run {α : Type} : RM α → St → Option α
 | .ret a, _ => some a
 | .slot n k, s => match lk n s.env with
  | some v => (k v).run s
  | none => none
 | .blk b k, s => match s.sto[b]? with
  | some v => (k v).run s
  | none => none
 | .fail, _ => none
inductive Loc where
 | slot (n : Nat)
 | blk (b : Nat)
 deriving DecidableEq
def RM.reads {α : Type} : RM α → St → List Loc
 | .ret _, _ => []
 | .slot n k, s => .slot n :: match lk n s.env with
  | some v => (k v).reads s
  | none => []
 | .blk b k, s => .blk b :: match s.sto[b]? with
  | some v => (k v).reads s
  | none => []
 | .fail, _ => []
inductive Opd where
 | t (n : Nat)
 | c (x : AV)
 deriving Inhabited
inductive KD where
 | b
 | i (k : IntKind)
 | s
 deriving DecidableEq
inductive BT where
 | plain
 | bool
 | flat (ks : List KD)
 | nils
 | nilp
 | nilf
 deriving DecidableEq
inductive CK where
 | int (k : IntKind)
 | same
 | toStr
 | toBytes (own : Bool)
 deriving DecidableEq
inductive SK where
 | str
 | sl (esz : Nat)
 deriving DecidableEq
inductive AOp where
 | mv (x : Opd)
 | mkarr (esz : Nat) (x : Opd)
 | pick (c a b : Opd)
 | newbox (zero : List PV)
 | box (size : Nat) (x : Opd)
 | build (zero : List PV) (parts : List (Nat × Nat × Opd))
 | lits (own : Bool) (esz n : Nat) (zero : List PV) (parts : List (Nat × Opd))
 | load (agg : Bool) (size : Nat) (x : Opd)
 | store (size : Nat) (x v : Opd)
 | nilchk (x : Opd)
 | bin (op : BinOp) (t : BT) (x y : Opd)
 | un (op : UnOp) (x : Opd)
 | conv (k : CK) (x : Opd)
 | mkslice (own : Bool) (esz bytes : Nat) (zero : List PV) (l c : Opd)
 | slice (k : SK) (x : Opd) (lo hi mx : Option Opd)
 | faddr (off : Nat) (x : Opd)
 | field (agg : Bool) (off size : Nat) (x : Opd)
 | iaddr (esz : Nat) (x i : Opd)
 | aaddr (len esz : Nat) (x i : Opd)
 | sidx (x i : Opd)
 | aidx (agg : Bool) (len esz : Nat) (x i : Opd)
 | extr (x : Opd) (i : Nat)
 | call (f : FuncId) (args : List Opd) (k : Nat)
 | callv (g : Opd) (args : List Opd) (k : Nat)
 | len (str : Bool) (x : Opd)
 | alen (n : Nat)
 | app (esz bytes : Nat) (zero : List PV) (x y : Opd)
 | appn (esz bytes : Nat) (zero : List PV) (y : Opd)
 | appz (esz bytes : Nat) (zero : List PV) (x y : Opd)
 | appc (esz bytes : Nat) (zero : List PV) (x y : Opd)
 | mm (mx : Bool) (x y : Opd)
 | mkfn (f : FuncId) (first caps : List Opd)
 | newboxo (zero : List PV) (os : List (Nat × Nat))
 | buildo (zero : List PV) (parts : List (Nat × Nat × Opd)) (os : List (Nat × Nat))
 | storen (esz : Nat) (x : Opd)
 | callo (f : FuncId) (keep : List Bool) (args : List Opd) (k : Nat)
 deriving Inhabited
structure J0M where
 op : AOp
 dst : Option Nat
 g : Option (Nat × Bool)
 deriving Inhabited
inductive Jg where
 | skip
 | reg (draw : Bool) (pairs : List (Nat × Nat)) (ins : List J0M)
 | seq (a b : Jg)
 | cond (c : Opd) (a b : Jg)
 | block (id : Nat) (c : Jg)
 | loop (live : List Nat) (c : Jg)
 | lp (n : Nat) (live : List Nat) (c : Jg)
 | scope (c : Jg)
 | exit (id : Nat)
 | ret
 | keep (live : List Nat) (c : Jg)
 | tidy (live : List Nat) (c : Jg)
 | br (live : List Nat) (pre : Jg) (c : Opd) (a b rest : Jg)
 deriving Inhabited
inductive AX where
 | normal
 | exit (id : Nat)
 | ret
 deriving DecidableEq
abbrev Out := AX × St
inductive Jcj where
 | tmp (t : Nat)
 | cell (t : Nat) (agg : Bool) (size : Nat)
structure AFn where
 np : Nat
 nt : Nat
 body : Jg
 res : List Jcj
 fresh : Bool
structure Eff where
 val : AV
 ws : List (Nat × Blk)
def upd (ws : List (Nat × Blk)) (sto : List Blk) : List Blk :=
 ws.foldl (fun s x => s.set x.1 x.2) sto
def unp : List AV → Option (List PV)
 | [] => some []
 | .p c :: r => match unp r with
  | some l => some (c :: l)
  | none => none
 | _ :: _ => none
def cellsOf : AV → Option (List AV)
 | .p c => some [.p c]
 | .data cs => some (cs.map .p)
 | .agg cs => some cs
 | .ptr b o => some [.ptr b o]
 | .cp cs o => some [.cp cs o]
 | .slr b i n => some [.slr b i n]
 | .ep b e i o => some [.ep b e i o]
 | .fn f a c => some [.fn f a c]
 | .tup _ => none
 | .unk => none
def J1C (agg : Bool) (cs : List AV) : Option AV :=
 if agg then
  match unp cs with
  | some l => some (.data l)
  | none => some (.agg cs)
 else match cs with
  | [x] => some x
  | _ => none
def J1P (agg : Bool) (cs : List PV) : Option AV :=
 if agg then some (.data cs)
 else match cs with
  | [x] => some (.p x)
  | _ => none
def sub {α : Type} (cs : List α) (off size : Nat) : Option (List α) :=
 if off = 0 ∧ cs.length = size then some cs
 else if off + size ≤ cs.length then some ((cs.drop off).take size) else none
def spl {α : Type} (cs : List α) (off : Nat) (vs : List α) : Option (List α) :=
 if off = 0 ∧ cs.length = vs.length then some vs
 else if off + vs.length ≤ cs.length then some (cs.take off ++ vs ++ cs.drop (off + vs.length)) else none
def fz : AV → RM (List PV × List (Nat × Blk))
 | .p c => .ret ([c], [])
 | .data cs => .ret (cs, [])
 | .slr b i n => .blk b fun
  | .arr _ esz rows => if i + n = rows.length then .ret ([.sl esz (rows.drop i)], [(b, .arr false esz rows)]) else .fail
  | _ => .fail
 | .agg cs => fzL cs
 | _ => .fail
where
 fzL : List AV → RM (List PV × List (Nat × Blk))
  | [] => .ret ([], [])
  | x :: r => (fz1 x).bind fun a => (fzL r).bind fun c => .ret (a.1 ++ c.1, a.2 ++ c.2)
 fz1 : AV → RM (List PV × List (Nat × Blk))
  | .p c => .ret ([c], [])
  | .slr b i n => .blk b fun
   | .arr _ esz rows => if i + n = rows.length then .ret ([.sl esz (rows.drop i)], [(b, .arr false esz rows)]) else .fail
   | _ => .fail
  | _ => .fail
def JfW : KD → PV → PV → Option Bool
 | .b, .b x, .b y => some (x == y)
 | .i k, .i k' x, .i k'' y => if k = k' ∧ k = k'' then some (x == y) else none
 | .s, .s x, .s y => some (x == y)
 | _, _, _ => none
def J1v : List KD → List PV → List PV → Option Bool
 | [], [], [] => some true
 | k :: ks, x :: xs, y :: ys => match JfW k x y, J1v ks xs ys with
  | some a, some c => some (a && c)
  | _, _ => none
 | _, _, _ => none
def JbY (op : BinOp) (k : IntKind) (x y : Int) : Option PV :=
 if y < 0 then none
 else match op with
  | .shl => some (.i k (k.wrap (x * 2 ^ (min y.toNat k.bits))))
  | .shr => some (.i k (x.fdiv (2 ^ (min y.toNat k.bits))))
  | _ => none
def J8a (op : BinOp) (k : IntKind) (x y : Int) : Option PV :=
 match op with
 | .add => some (.i k (k.wrap (x + y)))
 | .sub => some (.i k (k.wrap (x - y)))
 | .mul => some (.i k (k.wrap (x * y)))
 | .quo => if y = 0 then none else some (.i k (k.wrap (x.tdiv y)))
 | .rem => if y = 0 then none else some (.i k (x.tmod y))
 | .and => some (.i k (k.wrap (BitVec.ofInt k.bits x &&& BitVec.ofInt k.bits y).toNat))
 | .or => some (.i k (k.wrap (BitVec.ofInt k.bits x ||| BitVec.ofInt k.bits y).toNat))
 | .xor => some (.i k (k.wrap (BitVec.ofInt k.bits x ^^^ BitVec.ofInt k.bits y).toNat))
 | .eql => some (.b (x == y))
 | .neq => some (.b (x != y))
 | .lss => some (.b (decide (x < y)))
 | .leq => some (.b (decide (x ≤ y)))
 | .gtr => some (.b (decide (x > y)))
 | .geq => some (.b (decide (x ≥ y)))
 | _ => none
def JmY (op : BinOp) (x y : List UInt8) : Option PV :=
 match op with
 | .add => if x.length + y.length ≤ 4611686018427387904 then some (.s (x ++ y)) else none
 | .eql => some (.b (x == y))
 | .neq => some (.b (!(x == y)))
 | .lss => some (.b (Op.bytesLess x y))
 | .leq => some (.b (Op.bytesLess x y || x == y))
 | .gtr => some (.b (!(Op.bytesLess x y || x == y)))
 | .geq => some (.b (!Op.bytesLess x y))
 | _ => none
def J8n (op : BinOp) (r : Option Bool) : Option AV :=
 match op, r with
 | .eql, some x => some (.p (.b x))
 | .neq, some x => some (.p (.b (!x)))
 | _, _ => none
def JmZ : BinOp → Option AV
 | .eql => some .unk
 | .neq => some .unk
 | _ => none
def J0m (op : BinOp) (t : BT) (x y : AV) : Option AV :=
 match t with
 | .plain => match x, y with
  | .p (.i k a), .p (.i k' c) => match op with
   | .shl => (JbY .shl k a c).map .p
   | .shr => (JbY .shr k a c).map .p
   | _ => if k = k' then (J8a op k a c).map .p else none
  | .p (.s a), .p (.s c) => (JmY op a c).map .p
  | _, _ => none
 | .bool => match x, y with
  | .p (.b a), .p (.b c) => J8n op (some (a == c))
  | _, _ => none
 | .flat ks => match x, y with
  | .data a, .data c => J8n op (J1v ks a c)
  | _, _ => none
 | .nils => match x with
  | .p (.sl _ rows) => match rows with
   | [] => JmZ op
   | _ :: _ => J8n op (some false)
  | .slr _ _ n => if n = 0 then JmZ op else J8n op (some false)
  | _ => none
 | .nilp => match x with
  | .p .np => J8n op (some true)
  | .ptr _ _ => J8n op (some false)
  | .cp _ _ => J8n op (some false)
  | .ep _ _ _ _ => J8n op (some false)
  | _ => none
 | .nilf => match x with
  | .p .nf => J8n op (some true)
  | .fn _ _ _ => J8n op (some false)
  | _ => none
def unP (op : UnOp) (x : AV) : Option AV :=
 match op, x with
 | .neg, .p (.i k n) => some (.p (.i k (k.wrap (0 - n))))
 | .xor, .p (.i k n) => some (.p (.i k (k.wrap (BitVec.ofInt k.bits (if k.signed then -1 else k.max) ^^^ BitVec.ofInt k.bits n).toNat)))
 | .not, .p (.b x) => some (.p (.b (!x)))
 | .not, .unk => some .unk
 | _, _ => none
def J5F : List (List PV) → Option (List UInt8)
 | [] => some []
 | [.i .u8 n] :: r => match J5F r with
  | some l => some (UInt8.ofNat n.toNat :: l)
  | none => none
 | _ :: _ => none
def J49 (x : UInt8) : List PV := [.i .u8 x.toNat]
def J3Y (esz : Nat) : List (Nat × List PV) → List (List PV) → Option (List (List PV))
 | [], rows => some rows
 | (i, c) :: r, rows => if c.length = esz ∧ i < rows.length then J3Y esz r (rows.set i c) else none
def J0W : List (Nat × Nat × List AV) → List AV → Option (List AV)
 | [], cs => some cs
 | (off, size, c) :: r, cs =>
  if c.length = size then
   match spl cs off c with
   | some cs' => J0W r cs'
   | none => none
  else none
def ev : Opd → RM AV
 | .t n => .slot n .ret
 | .c x => .ret x
def evs : List Opd → RM (List AV)
 | [] => .ret []
 | x :: r => (ev x).bind fun v => (evs r).bind fun vs => .ret (v :: vs)
def val (x : Option AV) : RM Eff :=
 match x with
 | some v => .ret ⟨v, []⟩
 | none => .fail
def fzs : List Opd → RM (List (List PV) × List (Nat × Blk))
 | [] => .ret ([], [])
 | x :: r => (ev x).bind fun v => (fz v).bind fun a => (fzs r).bind fun c => .ret (a.1 :: c.1, a.2 ++ c.2)
def J78 (x : Option AV) (top dflt : Nat) : Option Nat :=
 match x with
 | none => some dflt
 | some (.p (.i _ n)) => if 0 ≤ n ∧ n ≤ top then some n.toNat else none
 | some _ => none
def evo : Option Opd → RM (Option AV)
 | none => .ret none
 | some x => (ev x).bind fun v => .ret (some v)
def JfC (n : Nat) (lo hi : Option AV) : Option (Nat × Nat) :=
 match J78 hi n n with
 | none => none
 | some h => match J78 lo h 0 with
  | none => none
  | some l => some (l, h)
def J2b (x : AV) (lo hi : Option AV) : Option AV :=
 match x with
 | .p (.s l) => match JfC l.length lo hi with
  | some c => some (.p (.s ((l.drop c.1).take (c.2 - c.1))))
  | none => none
 | _ => none
def J8m (esz : Nat) (x : AV) (lo hi : Option AV) : Option AV :=
 match x with
 | .p (.sl esz' rows) => if esz = esz' then
   match JfC rows.length lo hi with
   | some c => some (.p (.sl esz ((rows.drop c.1).take (c.2 - c.1))))
   | none => none
  else none
 | _ => none
def JpB (esz : Nat) (x : AV) (lo hi : Option AV) (m : AV) : Option AV :=
 match x, lo, hi, m with
 | .p (.sl esz' rows), none, some (.p (.i _ h)), .p (.i _ n) => if esz = esz' ∧ h = rows.length ∧ n = rows.length then some (.p (.slc esz rows)) else none
 | _, _, _, _ => none
def J4x (k : SK) (x : AV) (lo hi mx : Option AV) : Option AV :=
 match mx with
 | some m => match k with
  | .str => none
  | .sl esz => JpB esz x lo hi m
 | none => match k with
  | .str => J2b x lo hi
  | .sl esz => J8m esz x lo hi
def Jbx (rows : List (List PV)) (n : Int) : Option (List PV) :=
 if 0 ≤ n then rows[n.toNat]? else none
def J2R (esz : Nat) (x i : AV) : RM Eff :=
 match x, i with
 | .p (.sl esz' rows), .p (.i _ n) =>
  if esz = esz' then
   match Jbx rows n with
   | some row => .ret ⟨.cp row 0, []⟩
   | none => .fail
  else .fail
 | .slr b j m, .p (.i _ n) => .blk b fun
  | .arr _ esz' rows => if esz = esz' ∧ j + m = rows.length ∧ 0 ≤ n ∧ n < m then .ret ⟨.ep b rows.length (j + n.toNat) 0, []⟩ else .fail
  | _ => .fail
 | _, _ => .fail
def JaS (len esz : Nat) (x i : AV) : Option AV :=
 match i with
 | .p (.i _ n) =>
  if 0 ≤ n ∧ n < len then
   match x with
   | .ptr b off => some (.ptr b (off + n.toNat * esz))
   | .cp cs off => some (.cp cs (off + n.toNat * esz))
   | .ep b e j off => some (.ep b e j (off + n.toNat * esz))
   | _ => none
  else none
 | _ => none
def JaT (off : Nat) : AV → Option AV
 | .ptr b o => some (.ptr b (o + off))
 | .cp cs o => some (.cp cs (o + off))
 | .ep b e j o => some (.ep b e j (o + off))
 | _ => none
def J1X (agg : Bool) (size : Nat) : AV → RM Eff
 | .cp cs off => match sub cs off size with
  | some l => val (J1P agg l)
  | none => .fail
 | .ptr b off => .blk b fun
  | .box cs => match sub cs off size with
   | some l => val (J1C agg l)
   | none => .fail
  | _ => .fail
 | .ep b ext i off => .blk b fun
  | .arr _ _ rows => if ext = rows.length then
    match rows[i]? with
    | some row => match sub row off size with
     | some l => val (J1P agg l)
     | none => .fail
    | none => .fail
   else .fail
  | _ => .fail
 | _ => .fail
def J0P : AV := .tup []
def J1x (size : Nat) (x v : AV) : RM Eff :=
 match x with
 | .ptr b off => .blk b fun
  | .box cs => match cellsOf v with
   | some l => if l.length = size then
     match spl cs off l with
     | some cs' => .ret ⟨J0P, [(b, .box cs')]⟩
     | none => .fail
    else .fail
   | none => .fail
  | _ => .fail
 | .ep b ext i off => .blk b fun
  | .arr true esz rows => if ext = rows.length then
    match rows[i]? with
    | some row => (fz v).bind fun a =>
     if a.1.length = size ∧ (a.2.all fun y => y.1 != b) then
      match spl row off a.1 with
      | some row' => .ret ⟨J0P, a.2 ++ [(b, .arr true esz (rows.set i row'))]⟩
      | none => .fail
     else .fail
    | none => .fail
   else .fail
  | _ => .fail
 | _ => .fail
def J5o (agg : Bool) (off size : Nat) : AV → Option AV
 | .data cs => match sub cs off size with
  | some l => J1P agg l
  | none => none
 | .agg cs => match sub cs off size with
  | some l => J1C agg l
  | none => none
 | _ => none
def Jg3 (i : Nat) : AV → Option AV
 | .tup vs => vs[i]?
 | _ => none
def Jfh : Bool → AV → Option AV
 | true, .p (.s l) => some (.p (.i .i64 l.length))
 | false, .p (.sl _ rows) => some (.p (.i .i64 rows.length))
 | false, .slr _ _ n => some (.p (.i .i64 n))
 | _, _ => none
def JS (esz : Nat) : AV → RM (List (List PV))
 | .p (.sl esz' rows) => if esz = esz' then .ret rows else .fail
 | .p (.s l) => if esz = 1 then .ret (l.map J49) else .fail
 | .slr b i n => .blk b fun
  | .arr _ esz' rows => if esz = esz' ∧ i + n = rows.length then .ret (rows.drop i) else .fail
  | _ => .fail
 | _ => .fail
def J63 (n bytes : Nat) : Bool := (2 * n + 512) * bytes ≤ 281474976710656
def J4s (esz bytes : Nat) (x y : AV) : RM Eff :=
 match x with
 | .slr b i n => .blk b fun
  | .arr w esz' rows => (JS esz y).bind fun new =>
   if esz = esz' ∧ i = 0 ∧ n = rows.length ∧ J63 (n + new.length) bytes then
    .ret ⟨.slr b 0 (n + new.length), [(b, .arr w esz (rows ++ new))]⟩
   else .fail
  | _ => .fail
 | _ => .fail
def Jih (esz bytes : Nat) (x y : AV) (new : Nat) : RM Eff :=
 match x with
 | .p (.slc esz' rows) => (JS esz y).bind fun add =>
   if esz = esz' ∧ 0 < add.length ∧ J63 (rows.length + add.length) bytes then
    .ret ⟨.slr new 0 (rows.length + add.length), [(new, .arr true esz (rows ++ add))]⟩
   else .fail
 | _ => .fail
def zrs (esz : Nat) (zero : List PV) : AV → Option AV
 | .p (.i _ n) => if 0 ≤ n then some (.p (.sl esz (List.replicate n.toNat zero))) else none
 | _ => none
def mmP (mx : Bool) (x y : AV) : Option AV :=
 match x, y with
 | .p (.i k a), .p (.i _ c) => some (.p (.i k (if mx then (if c > a then c else a) else (if c < a then c else a))))
 | _, _ => none
inductive Ent where
 | whole (b : Nat)
 | elem (b ext i : Nat)
 deriving DecidableEq
def Ent.id : Ent → Nat
 | .whole b => b
 | .elem b _ _ => b
def J7J (e : Ent) (l : List Ent) : List Ent := if l.any (fun x => x == e) then l else l ++ [e]
def JW : AV → List Ent → List Ent
 | .ptr b _, l => J7J (.whole b) l
 | .slr b _ _, l => J7J (.whole b) l
 | .ep b e i _, l => J7J (.elem b e i) l
 | .fn _ first caps, l => entsOfL caps (entsOfL first l)
 | .agg cs, l => entsOfL cs l
 | .tup cs, l => entsOfL cs l
 | _, l => l
where
 entsOfL : List AV → List Ent → List Ent
  | [], l => l
  | x :: r, l => entsOfL r (JW x l)
def J4v (e : Ent) : List Ent → Nat → Option Nat
 | [], _ => none
 | x :: r, k => if x = e then some k else J4v e r (k + 1)
def ren (ρ : Ent → Option Nat) : AV → Option AV
 | .p c => some (.p c)
 | .data cs => some (.data cs)
 | .cp cs o => some (.cp cs o)
 | .unk => some .unk
 | .ptr b off => (ρ (.whole b)).map fun k => .ptr k off
 | .ep b e i off => (ρ (.elem b e i)).map fun k => .ptr k off
 | .slr b i n => (ρ (.whole b)).map fun k => .slr k i n
 | .fn f first caps => (renL ρ first).bind fun a => (renL ρ caps).map fun c => .fn f a c
 | .agg cs => (renL ρ cs).map .agg
 | .tup cs => (renL ρ cs).map .tup
where
 renL (ρ : Ent → Option Nat) : List AV → Option (List AV)
  | [] => some []
  | x :: r => match ren ρ x, renL ρ r with
   | some y, some l => some (y :: l)
   | _, _ => none
end Go.Am
end
section
namespace Go.Am
def J4Y : List Nat → Bool
 | [] => true
 | x :: r => !(r.contains x) && J4Y r
def J2f (b : Nat) : List (Nat × Blk) → Option Blk
 | [] => none
 | (c, x) :: r => match J2f b r with
  | some y => some y
  | none => if c = b then some x else none
def J8j (ws : List (Nat × Blk)) (b : Nat) : RM Blk :=
 .blk b fun x => match J2f b ws with
  | some y => .ret y
  | none => .ret x
def J8h (ws : List (Nat × Blk)) : List Ent → List Ent → RM (List Ent)
 | [], acc => .ret acc
 | .whole b :: r, acc => (J8j ws b).bind fun
  | .box cs => J8h ws r (JW.entsOfL cs acc)
  | _ => J8h ws r acc
 | _ :: r, acc => J8h ws r acc
def J7x : AV → RM (AV × List (Nat × Blk))
 | .slr b i n => (fz (.slr b i n)).bind fun a => match a.1 with
  | [c] => .ret (.p c, a.2)
  | _ => .fail
 | .agg cs => (fz (.agg cs)).bind fun a => .ret (.data a.1, a.2)
 | .tup _ => .fail
 | v => .ret (v, [])
def Jz : List AV → RM (List AV × List (Nat × Blk))
 | [] => .ret ([], [])
 | x :: r => (J7x x).bind fun a => (Jz r).bind fun c => .ret (a.1 :: c.1, a.2 ++ c.2)
def Je6 (ws : List (Nat × Blk)) (ρ : Ent → Option Nat) : Ent → RM Blk
 | .whole b => (J8j ws b).bind fun
  | .box cs => match ren.renL ρ cs with
   | some l => .ret (.box l)
   | none => .fail
  | .arr w esz rows => .ret (.arr w esz rows)
  | .dead => .fail
 | .elem b ext i => (J8j ws b).bind fun
  | .arr true _ rows => if ext = rows.length then
    match rows[i]? with
    | some row => .ret (.box (row.map .p))
    | none => .fail
   else .fail
  | _ => .fail
def J5S (ws : List (Nat × Blk)) (ρ : Ent → Option Nat) : List Ent → RM (List Blk)
 | [] => .ret []
 | e :: r => (Je6 ws ρ e).bind fun x => (J5S ws ρ r).bind fun l => .ret (x :: l)
def bk (es : List Ent) (new : Nat) : AV → Option AV
 | .p c => some (.p c)
 | .data cs => some (.data cs)
 | .cp cs o => some (.cp cs o)
 | .unk => some .unk
 | .ptr k off => if k < es.length then
   match es[k]? with
   | some (.whole b) => some (.ptr b off)
   | some (.elem b e i) => some (.ep b e i off)
   | none => none
  else some (.ptr (new + (k - es.length)) off)
 | .slr k i n => if k < es.length then
   match es[k]? with
   | some (.whole b) => some (.slr b i n)
   | _ => none
  else some (.slr (new + (k - es.length)) i n)
 | .ep k e i off => if k < es.length then
   match es[k]? with
   | some (.whole b) => some (.ep b e i off)
   | _ => none
  else some (.ep (new + (k - es.length)) e i off)
 | .fn f first caps => match bkL es new first, bkL es new caps with
  | some a, some c => some (.fn f a c)
  | _, _ => none
 | .agg cs => match bkL es new cs with
  | some l => some (.agg l)
  | none => none
 | .tup cs => match bkL es new cs with
  | some l => some (.tup l)
  | none => none
where
 bkL (es : List Ent) (new : Nat) : List AV → Option (List AV)
  | [] => some []
  | x :: r => match bk es new x, bkL es new r with
   | some y, some l => some (y :: l)
   | _, _ => none
def Ja8 (ws : List (Nat × Blk)) (es : List Ent) (new : Nat) (e : Ent) (x : Blk) : RM (Nat × Blk) :=
 match e, x with
 | .whole b, .box cs => match bk.bkL es new cs with
  | some l => .ret (b, .box l)
  | none => .fail
 | .whole b, .arr w esz rows => .ret (b, .arr w esz rows)
 | .elem b _ i, .box cs => (J8j ws b).bind fun
  | .arr w esz rows => match unp cs with
   | some row => .ret (b, .arr w esz (rows.set i row))
   | none => .fail
  | _ => .fail
 | _, _ => .fail
def J3D (ws : List (Nat × Blk)) (es : List Ent) (new : Nat) : List Ent → List Blk → RM (List (Nat × Blk))
 | [], _ => .ret []
 | e :: r, x :: l => (Ja8 ws es new e x).bind fun y => (J3D ws es new r l).bind fun ys => .ret (y :: ys)
 | _ :: _, [] => .fail
def J4M (es : List Ent) (new : Nat) : Nat → List Blk → Option (List (Nat × Blk))
 | _, [] => some []
 | k, .box cs :: l => match bk.bkL es new cs, J4M es new (k + 1) l with
  | some c, some ys => some ((k, .box c) :: ys)
  | _, _ => none
 | k, .arr w esz rows :: l => match J4M es new (k + 1) l with
  | some ys => some ((k, .arr w esz rows) :: ys)
  | none => none
 | _, .dead :: _ => none
def J7A (F : Orc) (f : FuncId) (args : List AV) (k new : Nat) : RM Eff :=
 (Jz args).bind fun a =>
 (J8h a.2 (JW.entsOfL a.1 []) (JW.entsOfL a.1 [])).bind fun es1 =>
 (J8h a.2 es1 es1).bind fun es =>
 if J4Y (es.map Ent.id) then
  match ren.renL (fun e => J4v e es 0) a.1 with
  | none => .fail
  | some args' => (J5S a.2 (fun e => J4v e es 0) es).bind fun blks =>
   match F f args' blks with
   | none => .fail
   | some r => if r.2.length = es.length + k then
     match bk es new r.1, J4M es new new (r.2.drop es.length) with
     | some v, some fresh => (J3D a.2 es new es r.2).bind fun back => .ret ⟨v, a.2 ++ back ++ fresh⟩
     | _, _ => .fail
    else .fail
 else .fail
def J2w : List (Nat × Nat × Opd) → RM (List (Nat × Nat × List AV))
 | [] => .ret []
 | (off, size, x) :: r => (ev x).bind fun v => match cellsOf v with
  | some cs => (J2w r).bind fun l => .ret ((off, size, cs) :: l)
  | none => .fail
def J31 : List (Nat × Nat) → Nat → List (Nat × Blk)
 | [], _ => []
 | (_, esz) :: r, n => (n, .arr true esz []) :: J31 r (n + 1)
def J7b : List (Nat × Nat) → Nat → List AV → List AV
 | [], _, cs => cs
 | (off, _) :: r, n, cs => J7b r (n + 1) (cs.set off (.slr n 0 0))
def J2g : List Bool → List AV → RM (List AV × List (Nat × Blk))
 | _, [] => .ret ([], [])
 | [], x :: r => (J7x x).bind fun a => (J2g [] r).bind fun c => .ret (a.1 :: c.1, a.2 ++ c.2)
 | true :: m, x :: r => (J2g m r).bind fun c => .ret (x :: c.1, c.2)
 | false :: m, x :: r => (J7x x).bind fun a => (J2g m r).bind fun c => .ret (a.1 :: c.1, a.2 ++ c.2)
def J4C (F : Orc) (f : FuncId) (a : List AV × List (Nat × Blk)) (k new : Nat) : RM Eff :=
 (J8h a.2 (JW.entsOfL a.1 []) (JW.entsOfL a.1 [])).bind fun es1 =>
 (J8h a.2 es1 es1).bind fun es =>
 if J4Y (es.map Ent.id) then
  match ren.renL (fun e => J4v e es 0) a.1 with
  | none => .fail
  | some args' => (J5S a.2 (fun e => J4v e es 0) es).bind fun blks =>
   match F f args' blks with
   | none => .fail
   | some r => if es.length ≤ r.2.length ∧ r.2.length ≤ es.length + k then
     match bk es new r.1, J4M es new new (r.2.drop es.length) with
     | some v, some fresh => (J3D a.2 es new es r.2).bind fun back => .ret ⟨v, a.2 ++ back ++ fresh⟩
     | _, _ => .fail
    else .fail
 else .fail
def opR (F : Orc) (op : AOp) (new : Nat) : RM Eff :=
 match op with
 | .mv x => (ev x).bind fun v => .ret ⟨v, []⟩
 | .mkarr esz _ => .ret ⟨.slr new 0 0, [(new, .arr true esz [])]⟩
 | .pick c a b => (ev c).bind fun
  | .p (.b x) => if x then (ev a).bind fun v => .ret ⟨v, []⟩ else (ev b).bind fun v => .ret ⟨v, []⟩
  | _ => .fail
 | .newbox zero => .ret ⟨.ptr new 0, [(new, .box (zero.map .p))]⟩
 | .box size x => (ev x).bind fun v => match cellsOf v with
  | some cs => if cs.length = size then .ret ⟨.ptr new 0, [(new, .box cs)]⟩ else .fail
  | none => .fail
 | .build zero parts => (J2w parts).bind fun l => match J0W l (zero.map .p) with
  | some cs => val (J1C true cs)
  | none => .fail
 | .lits own esz n zero parts => (fzs (parts.map (·.2))).bind fun a =>
  match J3Y esz ((parts.map (·.1)).zip a.1) (List.replicate n zero) with
  | some rows => if own then .ret ⟨.slr new 0 n, a.2 ++ [(new, .arr true esz rows)]⟩ else .ret ⟨.p (.sl esz rows), a.2⟩
  | none => .fail
 | .load agg size x => (ev x).bind fun v => J1X agg size v
 | .store size x y => (ev x).bind fun a => (ev y).bind fun v => J1x size a v
 | .nilchk x => (ev x).bind fun
  | .ptr b o => .ret ⟨.ptr b o, []⟩
  | .cp cs o => .ret ⟨.cp cs o, []⟩
  | .ep b e i o => .ret ⟨.ep b e i o, []⟩
  | .fn f u c => .ret ⟨.fn f u c, []⟩
  | _ => .fail
 | .bin op t x y => (ev x).bind fun a => (ev y).bind fun c => val (J0m op t a c)
 | .un op x => (ev x).bind fun a => val (unP op a)
 | .conv k x => (ev x).bind fun a => match k, a with
  | .int k, .p (.i _ n) => .ret ⟨.p (.i k (k.wrap n)), []⟩
  | .same, .p (.s l) => .ret ⟨.p (.s l), []⟩
  | .toStr, a => (JS 1 a).bind fun rows => match J5F rows with
   | some l => .ret ⟨.p (.s l), []⟩
   | none => .fail
  | .toBytes own, .p (.s l) => if own then .ret ⟨.slr new 0 l.length, [(new, .arr true 1 (l.map J49))]⟩ else .ret ⟨.p (.sl 1 (l.map J49)), []⟩
  | _, _ => .fail
 | .mkslice own esz bytes zero l c => (ev l).bind fun a => (ev c).bind fun d => match a, d with
  | .p (.i _ n), .p (.i _ m) =>
   if 0 ≤ n ∧ n ≤ m ∧ bytes * m ≤ 281474976710656 ∧ m ≤ 281474976710656 then
    if own then .ret ⟨.slr new 0 n.toNat, [(new, .arr true esz (List.replicate n.toNat zero))]⟩
    else .ret ⟨.p (.sl esz (List.replicate n.toNat zero)), []⟩
   else .fail
  | _, _ => .fail
 | .slice k x lo hi mx => (ev x).bind fun a => (evo lo).bind fun lo => (evo hi).bind fun hi => (evo mx).bind fun mx =>
  match a with
  | .slr b i n => (fz (.slr b i n)).bind fun y => match y.1 with
   | [c] => match J4x k (.p c) lo hi mx with
    | some v => .ret ⟨v, y.2⟩
    | none => .fail
   | _ => .fail
  | a => val (J4x k a lo hi mx)
 | .faddr off x => (ev x).bind fun a => val (JaT off a)
 | .field agg off size x => (ev x).bind fun a => val (J5o agg off size a)
 | .iaddr esz x i => (ev x).bind fun a => (ev i).bind fun c => J2R esz a c
 | .aaddr len esz x i => (ev x).bind fun a => (ev i).bind fun c => val (JaS len esz a c)
 | .sidx x i => (ev x).bind fun a => (ev i).bind fun c => match a, c with
  | .p (.s l), .p (.i _ n) => if 0 ≤ n then
    match l[n.toNat]? with
    | some u => .ret ⟨.p (.i .u8 u.toNat), []⟩
    | none => .fail
   else .fail
  | _, _ => .fail
 | .aidx agg len esz x i => (ev x).bind fun a => (ev i).bind fun c => match c with
  | .p (.i _ n) => if 0 ≤ n ∧ n < len then val (J5o agg (n.toNat * esz) esz a) else .fail
  | _ => .fail
 | .extr x i => (ev x).bind fun a => val (Jg3 i a)
 | .call f args k => (evs args).bind fun vs => J7A F f vs k new
 | .callv g args k => (ev g).bind fun
  | .fn f first caps => (evs args).bind fun vs => J7A F f (first ++ vs ++ caps) k new
  | _ => .fail
 | .len str x => (ev x).bind fun a => val (Jfh str a)
 | .alen n => .ret ⟨.p (.i .i64 n), []⟩
 | .appn esz bytes _ y => (ev y).bind fun c => (JS esz c).bind fun rows =>
  if J63 rows.length bytes then .ret ⟨.slr new 0 rows.length, [(new, .arr true esz rows)]⟩ else .fail
 | .app esz bytes _ x y => (ev x).bind fun a => (ev y).bind fun c => J4s esz bytes a c
 | .appz esz bytes zero x y => (ev x).bind fun a => (ev y).bind fun c => match zrs esz zero c with
  | some c1 => J4s esz bytes a c1
  | none => .fail
 | .appc esz bytes _ x y => (ev x).bind fun a => (ev y).bind fun c => Jih esz bytes a c new
 | .mm mx x y => (ev x).bind fun a => (ev y).bind fun c => val (mmP mx a c)
 | .mkfn f first caps => (evs first).bind fun a => (evs caps).bind fun c => .ret ⟨.fn f a c, []⟩
 | .newboxo zero os => .ret ⟨.ptr (new + os.length) 0, J31 os new ++ [(new + os.length, .box (J7b os new (zero.map .p)))]⟩
 | .buildo zero parts os => (J2w parts).bind fun l => match J0W l (J7b os new (zero.map .p)) with
  | some cs => match J1C true cs with
   | some v => .ret ⟨v, J31 os new⟩
   | none => .fail
  | none => .fail
 | .storen esz x => (ev x).bind fun a => (J1x 1 a (.slr new 0 0)).bind fun e => .ret ⟨e.val, (new, .arr true esz []) :: e.ws⟩
 | .callo f keep args k => (evs args).bind fun vs => (J2g keep vs).bind fun a => J4C F f a k new
def JB : AOp → Nat
 | .newbox _ | .box _ _ | .mkarr _ _ | .appn _ _ _ _ | .appc _ _ _ _ _ => 1
 | .lits own _ _ _ _ => if own then 1 else 0
 | .mkslice own _ _ _ _ _ => if own then 1 else 0
 | .conv (.toBytes own) _ => if own then 1 else 0
 | .call _ _ k | .callv _ _ k | .callo _ _ _ k => k
 | .newboxo _ os => os.length + 1
 | .buildo _ _ os => os.length
 | .storen _ _ => 1
 | _ => 0
def J6E (new : Nat) : Nat → RM Unit
 | 0 => .ret ()
 | k + 1 => .blk new fun
  | .dead => J6E (new + 1) k
  | _ => .fail
def opD (F : Orc) (op : AOp) (new : Nat) : RM Eff := (J6E new (JB op)).bind fun _ => opR F op new
def J1E (F : Orc) (i : J0M) (new : Nat) : RM Eff :=
 match i.g with
 | none => opD F i.op new
 | some (g, want) => .slot g fun
  | .p (.b x) => if x = want then opD F i.op new else .ret ⟨J0P, []⟩
  | .tup [] => .ret ⟨J0P, []⟩
  | _ => .fail
def put (d : Option Nat) (e : Eff) (s : St) : St :=
 match d with
 | some d => ⟨(d, e.val) :: s.env, upd e.ws s.sto⟩
 | none => ⟨s.env, upd e.ws s.sto⟩
def J2A (F : Orc) : List J0M → Nat → St → Option St
 | [], _, s => some s
 | i :: r, new, s => match (J1E F i new).run s with
  | some e => J2A F r (new + JB i.op) (put i.dst e s)
  | none => none
def Jc : List Loc → List Nat
 | [] => []
 | .blk b :: r => b :: Jc r
 | _ :: r => Jc r
abbrev Log := List (List Nat × List Nat)
def J4V (F : Orc) : List J0M → Nat → St → Log → Option (St × Log)
 | [], _, s, l => some (s, l)
 | i :: r, new, s, l => match (J1E F i new).run s with
  | some e => J4V F r (new + JB i.op) (put i.dst e s) (l ++ [(Jc ((J1E F i new).reads s), e.ws.map (·.1))])
  | none => none
def J5t (a b : List Nat) : Bool := a.all fun x => !(b.contains x)
def J8N (l : Log) : List (Nat × Nat) → Bool
 | [] => true
 | (i, j) :: r => (match l[i]?, l[j]? with
  | some a, some b => J5t a.2 b.1 && J5t a.2 b.2 && J5t a.1 b.2
  | _, _ => false) && J8N l r
def news : List J0M → Nat
 | [] => 0
 | i :: r => JB i.op + news r
def room (n : Nat) (sto : List Blk) : List Blk := if n = 0 then sto else sto ++ List.replicate n .dead
def region (F : Orc) (pairs : List (Nat × Nat)) (ins : List J0M) (s : St) : Option St :=
 match pairs with
 | [] => J2A F ins s.sto.length ⟨s.env, room (news ins) s.sto⟩
 | _ :: _ => match J4V F ins s.sto.length ⟨s.env, room (news ins) s.sto⟩ [] with
  | some (s', l) => if J8N l pairs then some s' else none
  | none => none
def restr : List Nat → List (Nat × AV) → List (Nat × AV)
 | [], _ => []
 | k :: r, env => match lk k env with
  | some v => (k, v) :: restr r env
  | none => restr r env
def J86 (b : Nat) : List Nat → Nat → Option Nat
 | [], _ => none
 | x :: r, k => if x = b then some k else J86 b r (k + 1)
def fin (m : Nat) (ids : List Nat) (sto : List Blk) : AV → Option AV
 | .p c => some (.p c)
 | .data cs => some (.data cs)
 | .cp cs o => some (.cp cs o)
 | .unk => some .unk
 | .ptr b off => if b < m then some (.ptr b off) else (J86 b ids m).map fun k => .ptr k off
 | .slr b i n => if b < m then some (.slr b i n) else
  match J86 b ids m with
  | some k => some (.slr k i n)
  | none => match sto[b]? with
   | some (.arr _ esz rows) => if i + n = rows.length then some (.p (.sl esz (rows.drop i))) else none
   | _ => none
 | .ep b e i off => if b < m then some (.ep b e i off) else (J86 b ids m).map fun k => .ep k e i off
 | .fn f first caps => match finL m ids sto first, finL m ids sto caps with
  | some a, some c => some (.fn f a c)
  | _, _ => none
 | .agg cs => match finL m ids sto cs with
  | some l => match unp l with
   | some q => some (.data q)
   | none => some (.agg l)
  | none => none
 | .tup cs => match finL m ids sto cs with
  | some l => some (.tup l)
  | none => none
where
 finL (m : Nat) (ids : List Nat) (sto : List Blk) : List AV → Option (List AV)
  | [] => some []
  | x :: r => match fin m ids sto x, finL m ids sto r with
   | some y, some l => some (y :: l)
   | _, _ => none
def J4t (m : Nat) (ids : List Nat) (sto : List Blk) : Blk → Option Blk
 | .dead => some .dead
 | .box cs => match fin.finL m ids sto cs with
  | some l => some (.box l)
  | none => none
 | .arr w esz rows => some (.arr w esz rows)
def J3m (m : Nat) (ids : List Nat) (sto : List Blk) : List Blk → Option (List Blk)
 | [] => some []
 | x :: r => match J4t m ids sto x, J3m m ids sto r with
  | some y, some l => some (y :: l)
  | _, _ => none
def J8l (m : Nat) (sto : List Blk) : List (Nat × AV) → Option (List (Nat × AV))
 | [] => some []
 | (k, x) :: r => match fin m [] sto x, J8l m sto r with
  | some y, some l => some ((k, y) :: l)
  | _, _ => none
def J5x (n : Nat) (live : List Nat) (s : St) : Option St :=
 if s.sto.length = n then some ⟨restr live s.env, s.sto⟩
 else match J8l n s.sto (restr live s.env), J3m n [] s.sto (s.sto.take n) with
  | some e, some l => some ⟨e, l⟩
  | _, _ => none
def J5Z : List Jcj → RM (List AV)
 | [] => .ret []
 | .tmp t :: r => (RM.slot t .ret).bind fun v => (J5Z r).bind fun l => .ret (v :: l)
 | .cell t agg size :: r => (RM.slot t .ret).bind fun v => (J1X agg size v).bind fun e => (J5Z r).bind fun l => .ret (e.val :: l)
def J0Y (m : Nat) (fresh : Bool) (sto : List Blk) : List Ent → List Nat
 | [] => []
 | .whole b :: r => if b < m then J0Y m fresh sto r else
  match sto[b]? with
  | some (.box _) => b :: J0Y m fresh sto r
  | some (.arr _ _ _) => if fresh then b :: J0Y m fresh sto r else J0Y m fresh sto r
  | _ => J0Y m fresh sto r
 | _ :: r => J0Y m fresh sto r
def J7C (sto : List Blk) : List Ent → List Ent → List Ent
 | [], acc => acc
 | .whole b :: r, acc => match sto[b]? with
  | some (.box cs) => J7C sto r (JW.entsOfL cs acc)
  | _ => J7C sto r acc
 | _ :: r, acc => J7C sto r acc
def J6W (sto : List Blk) : List Nat → Option (List Blk)
 | [] => some []
 | b :: r => match sto[b]?, J6W sto r with
  | some x, some l => some (x :: l)
  | _, _ => none
def one : List AV → AV
 | [x] => x
 | l => .tup l
def J4A (fn : AFn) (m : Nat) (s : St) : Option Res :=
 match (J5Z fn.res).run s with
 | none => none
 | some vs =>
  if s.sto.length = m then some (one vs, s.sto)
  else
   match J0Y m fn.fresh s.sto (J7C s.sto (JW.entsOfL vs []) (JW.entsOfL vs [])) with
   | ids => if J4Y ids then
     match fin.finL m ids s.sto vs, J3m m ids s.sto (s.sto.take m), J6W s.sto ids with
     | some ws, some l, some q => match J3m m ids s.sto q with
      | some q' => some (one ws, l ++ q')
      | none => none
     | _, _, _ => none
    else none
def Jaj : Nat → List AV → List (Nat × AV)
 | _, [] => []
 | k, x :: r => (k, x) :: Jaj (k + 1) r
structure Jcd where
 np : Nat
 nt : Nat
 p0 : Jg
 live : List Nat
 pre : Jg
 c : Opd
 a : Jg
 b : Jg
 rest : Jg
 res : List Jcj
 fresh : Bool
def Jcd.af (k : Jcd) : AFn := ⟨k.np, k.nt, .seq k.p0 (.br k.live k.pre k.c k.a k.b k.rest), k.res, k.fresh⟩
def Jic (f : AFn) (m : Nat) (o : Option Out) : Option Res :=
 match o with
 | some (.normal, s) => J4A f m s
 | some (.ret, s) => J4A f m s
 | _ => none
open Classical in
noncomputable def Jjp (a b : Option Res) : Option Res :=
 match a, b with
 | some r, some r' => if r = r' then some r else none
 | _, _ => none
def thn (o : Option Out) (k : St → Option Out) : Option Out :=
 match o with
 | some (.normal, s) => k s
 | o => o
noncomputable def Jg0 (R : Jg → St → Option Out) (k : Jcd) (args : List AV) (blks : List Blk) : Option Res :=
 match R k.p0 ⟨Jaj 0 args, blks⟩ with
 | some (.normal, s0) => match R k.pre s0 with
  | some (.normal, s1) => match (ev k.c).run s1 with
   | some (.p (.b x)) => if x = true then Jic k.af blks.length (thn (R k.a s1) fun s => R k.rest s) else Jic k.af blks.length (thn (R k.b s1) fun s => R k.rest s)
   | some .unk => Jjp (Jic k.af blks.length (thn (R k.a s1) fun s => R k.rest s)) (Jic k.af blks.length (thn (R k.b s1) fun s => R k.rest s))
   | _ => none
  | _ => none
 | _ => none
inductive J32 where
 | fn (f : AFn)
 | prim (g : List AV → List Blk → Option Res)
 | fork (k : Jcd)
abbrev J5f := FuncId → Option J32
noncomputable def JaR (T : J5f) (R : Jg → St → Option Out) (f : FuncId) (args : List AV) (blks : List Blk) : Option Res :=
 match T f with
 | none => none
 | some (.prim g) => g args blks
 | some (.fork k) => if args.length = k.np then Jg0 R k args blks else none
 | some (.fn fn) =>
  if args.length = fn.np then
   match R fn.body ⟨Jaj 0 args, blks⟩ with
   | some (.normal, s) => J4A fn blks.length s
   | some (.ret, s) => J4A fn blks.length s
   | _ => none
  else none
open Classical in
noncomputable def same (a b : Option Out) : Option Out :=
 match a, b with
 | some r, some r' => if r = r' then some r else none
 | _, _ => none
def J6G (n : Nat) (live : List Nat) (o : Option Out) : Option Out :=
 match o with
 | some (e, s) => match J5x n live s with
  | some s' => some (e, s')
  | none => none
 | none => none
noncomputable def step (T : J5f) (R : Jg → St → Option Out) (c : Jg) (s : St) : Option Out :=
 match c with
 | .skip => some (.normal, s)
 | .reg _ pairs ins => match region (JaR T R) pairs ins s with
  | some s' => some (.normal, s')
  | none => none
 | .seq a b => match R a s with
  | some (.normal, s') => R b s'
  | o => o
 | .cond c a b => match (ev c).run s with
  | some (.p (.b x)) => if x = true then R a s else R b s
  | some .unk => same (R a s) (R b s)
  | _ => none
 | .block id c => match R c s with
  | some (.exit k, s') => if k = id then some (.normal, s') else some (.exit k, s')
  | o => o
 | .loop live c => match J5x s.sto.length live s with
  | some s' => R (.lp s.sto.length live c) s'
  | none => none
 | .lp n live c => match R c s with
  | some (.normal, s') => (match J5x n live s' with
   | some s'' => R (.lp n live c) s''
   | none => none)
  | o => o
 | .scope c => R c s
 | .exit id => some (.exit id, s)
 | .ret => some (.ret, s)
 | .keep live c => R c ⟨restr live s.env, s.sto⟩
 | .tidy live c => J6G s.sto.length live (R c s)
 | .br live pre c a b rest => match R pre s with
  | some (.normal, s1) => (match (ev c).run s1 with
   | some (.p (.b x)) => if x = true then thn (R a s1) fun s => R rest s else thn (R b s1) fun s => R rest s
   | some .unk => same (J6G s1.sto.length live (thn (R a s1) fun s => R rest s)) (J6G s1.sto.length live (thn (R b s1) fun s => R rest s))
   | _ => none)
  | _ => none
end Go.Am
end
section
namespace Go.Am
def below {α : Type} (a b : Option α) : Prop := a = none ∨ a = b
theorem Jx {α : Type} (a : Option α) : below a a := .inr rfl
theorem run_bind {α β : Type} (m : RM α) (f : α → RM β) (s : St) : (m.bind f).run s = (m.run s).bind fun a => (f a).run s := by
 induction m with
 | ret a => rfl
 | slot n k ih => simp only [RM.bind, RM.run]; cases lk n s.env <;> simp [ih]
 | blk b k ih => simp only [RM.bind, RM.run]; cases s.sto[b]? <;> simp [ih]
 | fail => rfl
theorem J2M {α β : Type} {m : RM α} {f f' : α → RM β} {s : St} (h : ∀ a, below ((f a).run s) ((f' a).run s)) : below ((m.bind f).run s) ((m.bind f').run s) := by
 rw [run_bind, run_bind]
 cases m.run s with
 | none => exact .inl rfl
 | some a => exact h a
variable {F F' : Orc} (h : ∀ f a b, below (F f a b) (F' f a b))
include h in
theorem Jh2 (f : FuncId) (args : List AV) (k new : Nat) (s : St) : below ((J7A F f args k new).run s) ((J7A F' f args k new).run s) := by
 unfold J7A
 refine J2M fun a => J2M fun es1 => J2M fun es => ?_
 split
 ·split
  ·exact Jx _
  ·refine J2M fun blks => ?_
   rcases h f ‹_› blks with e | e
   ·rw [e]; exact .inl rfl
   ·rw [e]; exact Jx _
 ·exact Jx _
include h in
theorem Jmv (f : FuncId) (a : List AV × List (Nat × Blk)) (k new : Nat) (s : St) : below ((J4C F f a k new).run s) ((J4C F' f a k new).run s) := by
 unfold J4C
 refine J2M fun es1 => J2M fun es => ?_
 split
 ·split
  ·exact Jx _
  ·refine J2M fun blks => ?_
   rcases h f ‹_› blks with e | e
   ·rw [e]; exact .inl rfl
   ·rw [e]; exact Jx _
 ·exact Jx _
include h in
theorem Jre (op : AOp) (new : Nat) (s : St) : below ((opR F op new).run s) ((opR F' op new).run s) := by
 cases op <;> try exact Jx _
 case call f args k => exact J2M fun vs => Jh2 h ..
 case callo f keep args k => exact J2M fun vs => J2M fun a => Jmv h ..
 case callv g args k =>
  refine J2M fun g => ?_
  cases g <;> try exact Jx _
  exact J2M fun vs => Jh2 h ..
include h in
theorem JkE (op : AOp) (new : Nat) (s : St) : below ((opD F op new).run s) ((opD F' op new).run s) :=
 J2M fun _ => Jre h ..
include h in
theorem Jjh (i : J0M) (new : Nat) (s : St) : below ((J1E F i new).run s) ((J1E F' i new).run s) := by
 unfold J1E
 split
 ·exact JkE h ..
 ·simp only [RM.run]
  split
  ·split
   ·split
    ·exact JkE h ..
    ·exact Jx _
   ·exact Jx _
   ·exact Jx _
  ·exact Jx _
theorem J9Q {α β : Type} (m : RM α) (f : α → RM β) (s : St) : (m.bind f).reads s = m.reads s ++ ((m.run s).map fun a => (f a).reads s).getD [] := by
 induction m with
 | ret a => simp [RM.bind, RM.reads, RM.run]
 | slot n k ih => simp only [RM.bind, RM.reads, RM.run]; cases lk n s.env <;> simp [ih]
 | blk b k ih => simp only [RM.bind, RM.reads, RM.run]; cases s.sto[b]? <;> simp [ih]
 | fail => simp [RM.bind, RM.reads, RM.run]
theorem J1q {α β : Type} {m : RM α} {f f' : α → RM β} {s : St} (h : ∀ a, (f a).run s = none ∨ (f a).reads s = (f' a).reads s) :
  ((m.bind f).run s) = none ∨ (m.bind f).reads s = (m.bind f').reads s := by
 rw [run_bind, J9Q, J9Q]
 cases m.run s with
 | none => exact .inl rfl
 | some a => exact (h a).imp (fun e => e) (fun e => by simp [e])
include h in
theorem Jh9 (f : FuncId) (args : List AV) (k new : Nat) (s : St) :
  (J7A F f args k new).run s = none ∨ (J7A F f args k new).reads s = (J7A F' f args k new).reads s := by
 unfold J7A
 refine J1q fun a => J1q fun es1 => J1q fun es => ?_
 split
 ·split
  ·exact .inr rfl
  ·refine J1q fun blks => ?_
   rcases h f ‹_› blks with e | e
   ·rw [e]; exact .inl rfl
   ·rw [e]; exact .inr rfl
 ·exact .inr rfl
include h in
theorem Jnj (f : FuncId) (a : List AV × List (Nat × Blk)) (k new : Nat) (s : St) :
  (J4C F f a k new).run s = none ∨ (J4C F f a k new).reads s = (J4C F' f a k new).reads s := by
 unfold J4C
 refine J1q fun es1 => J1q fun es => ?_
 split
 ·split
  ·exact .inr rfl
  ·refine J1q fun blks => ?_
   rcases h f ‹_› blks with e | e
   ·rw [e]; exact .inl rfl
   ·rw [e]; exact .inr rfl
 ·exact .inr rfl
include h in
theorem JqU (op : AOp) (new : Nat) (s : St) : (opR F op new).run s = none ∨ (opR F op new).reads s = (opR F' op new).reads s := by
 cases op <;> try exact .inr rfl
 case call f args k => exact J1q fun vs => Jh9 h ..
 case callo f keep args k => exact J1q fun vs => J1q fun a => Jnj h ..
 case callv g args k =>
  refine J1q fun g => ?_
  cases g <;> try exact .inr rfl
  exact J1q fun vs => Jh9 h ..
include h in
theorem JkX (op : AOp) (new : Nat) (s : St) : (opD F op new).run s = none ∨ (opD F op new).reads s = (opD F' op new).reads s :=
 J1q fun _ => JqU h ..
include h in
theorem Joo (op : AOp) (want : Bool) (new : Nat) (s : St) (v : AV) :
  (RM.run (match v with
   | .p (.b x) => if x = want then opD F op new else .ret ⟨J0P, []⟩
   | .tup [] => .ret ⟨J0P, []⟩
   | _ => .fail) s) = none ∨ (RM.reads (match v with
   | .p (.b x) => if x = want then opD F op new else .ret ⟨J0P, []⟩
   | .tup [] => .ret ⟨J0P, []⟩
   | _ => .fail) s) = (RM.reads (match v with
   | .p (.b x) => if x = want then opD F' op new else .ret ⟨J0P, []⟩
   | .tup [] => .ret ⟨J0P, []⟩
   | _ => .fail) s) := by
 split
 ·split
  ·exact JkX h ..
  ·exact .inr rfl
 ·exact .inr rfl
 ·exact .inr rfl
include h in
theorem JpO (i : J0M) (new : Nat) (s : St) : (J1E F i new).run s = none ∨ (J1E F i new).reads s = (J1E F' i new).reads s := by
 unfold J1E
 split
 ·exact JkX h ..
 ·simp only [RM.run, RM.reads]
  split
  ·exact (Joo h ..).imp id (fun e => congrArg (Loc.slot _ :: ·) e)
  ·exact .inl rfl
include h in
theorem Jnv (ins : List J0M) : ∀ new s, below (J2A F ins new s) (J2A F' ins new s) := by
 induction ins with
 | nil => exact fun _ _ => Jx _
 | cons i r ih =>
  intro new s
  simp only [J2A]
  rcases Jjh h i new s with e | e
  ·rw [e]; exact .inl rfl
  ·rw [e]
   split
   ·exact ih _ _
   ·exact Jx _
include h in
theorem Jnm (ins : List J0M) : ∀ new s l, below (J4V F ins new s l) (J4V F' ins new s l) := by
 induction ins with
 | nil => exact fun _ _ _ => Jx _
 | cons i r ih =>
  intro new s l
  simp only [J4V]
  rcases Jjh h i new s with e | e
  ·rw [e]; exact .inl rfl
  ·rcases JpO h i new s with e' | e'
   ·rw [e']; exact .inl rfl
   ·rw [e, e']
    split
    ·exact ih _ _ _
    ·exact Jx _
include h in
theorem JmS (pairs : List (Nat × Nat)) (ins : List J0M) (s : St) : below (region F pairs ins s) (region F' pairs ins s) := by
 unfold region
 split
 ·exact Jnv h ..
 ·rcases Jnm h ins s.sto.length ⟨s.env, Go.Am.room (news ins) s.sto⟩ [] with e | e
  ·rw [e]; exact .inl rfl
  ·rw [e]; exact Jx _
variable {T : J5f} {R R' : Jg → St → Option Out} (hR : ∀ c s, below (R c s) (R' c s))
include hR in
theorem Jo0 (k : Jcd) (args : List AV) (blks : List Blk) : below (Jg0 R k args blks) (Jg0 R' k args blks) := by
 have ht : ∀ x s, below (Jic k.af blks.length (thn (R x s) fun s => R k.rest s)) (Jic k.af blks.length (thn (R' x s) fun s => R' k.rest s)) := by
  intro x s
  rcases hR x s with e | e
  ·rw [e]; exact .inl rfl
  ·rw [e]
   cases hx : R' x s with
   | none => exact .inl rfl
   | some o =>
    obtain ⟨q, s'⟩ := o
    cases q with
    | normal =>
     simp only [thn]
     rcases hR k.rest s' with e' | e'
     ·rw [e']; exact .inl rfl
     ·rw [e']; exact Jx _
    | _ => exact Jx _
 unfold Jg0
 rcases hR k.p0 ⟨Jaj 0 args, blks⟩ with e | e
 ·rw [e]; exact .inl rfl
 ·rw [e]
  split
  ·rename_i s0 _
   rcases hR k.pre s0 with e | e
   ·rw [e]; exact .inl rfl
   ·rw [e]
    split
    ·split
     ·split
      ·exact ht _ _
      ·exact ht _ _
     ·rename_i s1 _ _ _
      rcases ht k.a s1 with e | e
      ·rw [e]; exact .inl rfl
      ·rcases ht k.b s1 with e' | e'
       ·rw [e']; unfold Jjp; exact .inl (by split <;> simp_all)
       ·rw [e, e']; exact Jx _
     ·exact Jx _
    ·exact Jx _
  ·exact Jx _
include hR in
theorem Jo4 (f : FuncId) (a : List AV) (b : List Blk) : below (JaR T R f a b) (JaR T R' f a b) := by
 unfold JaR
 split
 ·exact Jx _
 ·exact Jx _
 ·split
  ·exact Jo0 hR _ _ _
  ·exact Jx _
 ·split
  ·rcases hR ‹AFn›.body ⟨Jaj 0 a, b⟩ with e | e
   ·rw [e]; exact .inl rfl
   ·rw [e]; exact Jx _
  ·exact Jx _
include hR in
theorem Je3 (c : Jg) (s : St) : below (step T R c s) (step T R' c s) := by
 cases c with
 | skip => exact Jx _
 | reg d pairs ins =>
  simp only [step]
  rcases JmS (Jo4 (T := T) hR) pairs ins s with e | e
  ·rw [e]; exact .inl rfl
  ·rw [e]; exact Jx _
 | seq a b =>
  simp only [step]
  rcases hR a s with e | e
  ·rw [e]; exact .inl rfl
  ·rw [e]
   split
   ·exact hR _ _
   ·exact Jx _
 | cond c a b =>
  simp only [step]
  split
  ·split
   ·exact hR _ _
   ·exact hR _ _
  ·rcases hR a s with e | e
   ·rw [e]; exact .inl rfl
   ·rcases hR b s with e' | e'
    ·rw [e']; unfold same; exact .inl (by split <;> simp_all)
    ·rw [e, e']; exact Jx _
  ·exact Jx _
 | block id c =>
  simp only [step]
  rcases hR c s with e | e
  ·rw [e]; exact .inl rfl
  ·rw [e]; exact Jx _
 | loop live c =>
  simp only [step]
  split
  ·exact hR _ _
  ·exact Jx _
 | lp n live c =>
  simp only [step]
  rcases hR c s with e | e
  ·rw [e]; exact .inl rfl
  ·rw [e]
   split
   ·split
    ·exact hR _ _
    ·exact Jx _
   ·exact Jx _
 | scope c => exact hR _ _
 | exit id => exact Jx _
 | ret => exact Jx _
 | keep live c => exact hR _ _
 | tidy live c =>
  simp only [step]
  rcases hR c s with e | e
  ·rw [e]; exact .inl rfl
  ·rw [e]; exact Jx _
 | br live pre c a b rest =>
  have ht : ∀ x s, below (thn (R x s) fun s => R rest s) (thn (R' x s) fun s => R' rest s) := by
   intro x s
   rcases hR x s with e | e
   ·rw [e]; exact .inl rfl
   ·rw [e]
    unfold thn
    split
    ·exact hR _ _
    ·exact Jx _
  simp only [step]
  rcases hR pre s with e | e
  ·rw [e]; exact .inl rfl
  ·rw [e]
   split
   ·split
    ·split
     ·exact ht _ _
     ·exact ht _ _
    ·rename_i s1 _ _ _
     rcases ht a s1 with e | e
     ·rw [e]; exact .inl rfl
     ·rcases ht b s1 with e' | e'
      ·rw [e']; unfold same; exact .inl (by split <;> simp_all [J6G])
      ·rw [e, e']; exact Jx _
    ·exact Jx _
   ·exact Jx _
def JuP (T : J5f) (M : Jg → St → Out → Prop) : Prop :=
 ∀ R : Jg → St → Option Out, (∀ c s r, R c s = some r → M c s r) → ∀ c s r, step T R c s = some r → M c s r
def Den (T : J5f) (c : Jg) (s : St) (r : Out) : Prop := ∀ M, JuP T M → M c s r
theorem Jhh (T : J5f) : JuP T (Den T) := fun R hR c s r h M hM => hM R (fun c s r h => hR c s r h M hM) c s r h
theorem JoK {T : J5f} {c : Jg} {s : St} {r : Out} (h : Den T c s r) : ∃ R : Jg → St → Option Out, (∀ c s r, R c s = some r → Den T c s r) ∧ step T R c s = some r :=
 h (fun c s r => ∃ R : Jg → St → Option Out, (∀ c s r, R c s = some r → Den T c s r) ∧ step T R c s = some r) fun R hR c s r hs =>
  ⟨R, fun c s r h => let ⟨R', h1, h2⟩ := hR c s r h; Jhh T R' h1 c s r h2, hs⟩
theorem Jum {T : J5f} {c : Jg} {s : St} {r : Out} (h : Den T c s r) : ∀ r', Den T c s r' → r' = r := by
 have key : Den T c s r ∧ ∀ r', Den T c s r' → r' = r := h (fun c s r => Den T c s r ∧ ∀ r', Den T c s r' → r' = r) fun R hR c s r hs => by
  refine ⟨Jhh T R (fun c s r h => (hR c s r h).1) c s r hs, fun r' h' => ?_⟩
  obtain ⟨R', hR', hs'⟩ := JoK h'
  have b1 : ∀ c s, below (R c s) ((R c s).or (R' c s)) := fun c s => by cases hc : R c s <;> simp [below]
  have b2 : ∀ c s, below (R' c s) ((R c s).or (R' c s)) := fun c s => by
   cases hc : R c s with
   | none => simp [below]
   | some a =>
    cases hc' : R' c s with
    | none => simp [below]
    | some a' => right; rw [(hR c s a hc).2 a' (hR' c s a' hc')]; rfl
  have e1 := Je3 (T := T) b1 c s
  have e2 := Je3 (T := T) b2 c s
  rw [hs] at e1
  rw [hs'] at e2
  rcases e1 with e1 | e1
  ·cases e1
  ·rcases e2 with e2 | e2
   ·cases e2
   ·rw [← e1] at e2; injection e2
 exact key.2
open Classical in
noncomputable def X (T : J5f) (c : Jg) (s : St) : Option Out := if h : ∃ r, Den T c s r then some h.choose else none
theorem Jfb {T : J5f} {c : Jg} {s : St} {r : Out} : X T c s = some r ↔ Den T c s r := by
 unfold X
 constructor
 ·intro h
  split at h
  ·rename_i hex
   injection h with h; subst h
   exact hex.choose_spec
  ·cases h
 ·intro h
  rw [dif_pos ⟨r, h⟩]
  congr 1
  exact Jum h _ (Exists.choose_spec (⟨r, h⟩ : ∃ r, Den T c s r))
theorem JwG (T : J5f) (motive : Jg → St → Out → Prop)
  (h : ∀ R : Jg → St → Option Out, (∀ c s r, R c s = some r → motive c s r) → ∀ c s r, step T R c s = some r → motive c s r) : ∀ c s r, X T c s = some r → motive c s r :=
 fun c s r hx => Jfb.1 hx motive h
theorem Jaw (T : J5f) (c : Jg) (s : St) : X T c s = step T (X T) c s := by
 have one : ∀ r, step T (X T) c s = some r → X T c s = some r := fun r h => Jfb.2 (Jhh T (X T) (fun c s r h => Jfb.1 h) c s r h)
 cases hs : step T (X T) c s with
 | some r => exact one r hs
 | none =>
  cases hx : X T c s with
  | none => rfl
  | some r =>
   obtain ⟨R, hR, h⟩ := JoK (Jfb.1 hx)
   have := Je3 (T := T) (R := R) (R' := X T) (fun c s => by
    cases hc : R c s with
    | none => exact .inl rfl
    | some a => right; exact (Jfb.2 (hR c s a hc)).symm) c s
   rw [h, hs] at this
   rcases this with e | e <;> cases e
noncomputable def AF (T : J5f) : Orc := JaR T (X T)
end Go.Am
end
section
namespace Go.Am
structure Gh where
 μ : Nat → Option (Nat × Nat)
 C : Nat → Nat → Prop
def JY (w : World) (r o : Nat) : Option Value :=
 match w.heap[r]? with
 | some (.cells c _ _) => c[o]?
 | _ => none
theorem J55 (w : World) (r o : Nat) : w.cell? ⟨r, o, none⟩ = JY w r o := by
 unfold World.cell? JY
 split <;> simp_all
theorem J1Y {w : World} {r o : Nat} {c e fz} (h : w.heap[r]? = some (.cells c e fz)) : JY w r o = c[o]? := by
 simp [JY, h]
inductive JJ (w : World) (C : Nat → Nat → Prop) : PV → Value → Prop where
 | b (x : Bool) : JJ w C (.b x) (.bool x)
 | i (k : IntKind) (n : Int) : JJ w C (.i k n) (.int k n)
 | s (l : List UInt8) : JJ w C (.s l) (.string ⟨l.toArray⟩)
 | np : JJ w C .np (.pointer none)
 | nf : JJ w C .nf .nilFunc
 | sl0 (esz : Nat) (a : Option Addr) (cap : Nat) : JJ w C (.sl esz []) (.slice a 0 cap)
 | sl (esz : Nat) (rows : List (List PV)) (r o cap : Nat) (vals : Nat → Nat → Value) :
   rows.length ≤ cap → (∀ row ∈ rows, row.length = esz) →
   (∀ (i j : Nat) row x, rows[i]? = some row → row[j]? = some x → C r (o + i * esz + j) ∧ JY w r (o + i * esz + j) = some (vals i j)) →
   (∀ (i j : Nat) row x, rows[i]? = some row → row[j]? = some x → JJ w C x (vals i j)) →
   JJ w C (.sl esz rows) (.slice (some ⟨r, o, none⟩) rows.length cap)
 | slc (esz : Nat) (rows : List (List PV)) (a : Option Addr) : JJ w C (.sl esz rows) (.slice a rows.length rows.length) → JJ w C (.slc esz rows) (.slice a rows.length rows.length)
structure Sn where
 σ : List Blk
 g : Gh
 w : World
def Jm5 (σ : List Blk) (b : Nat) : Prop := ∃ cs, σ[b]? = some (.box cs)
def Jwz (s : Sn) (b esz i n : Nat) (v : Value) : Prop :=
 (s.g.μ b = none ∧ i = 0 ∧ n = 0 ∧ v = .slice none 0 0) ∨
 ∃ r cap c e fz, s.g.μ b = some (r, 0) ∧ v = .slice (some ⟨r, i * esz, none⟩) n cap ∧ n ≤ cap ∧ s.w.heap[r]? = some (.cells c e fz) ∧ (i + cap) * esz ≤ c.size
inductive Jr (s : Sn) : AV → Value → Prop where
 | p (c v) : JJ s.w s.g.C c v → Jr s (.p c) v
 | data (cs : List PV) (vs : Array Value) : cs.length = vs.size → (∀ (i : Nat) x v, cs[i]? = some x → vs[i]? = some v → JJ s.w s.g.C x v) → Jr s (.data cs) (.agg vs)
 | agg (cs : List AV) (vs : Array Value) : cs.length = vs.size → (∀ (i : Nat) v, vs[i]? = some v → v.oneCell' = true) → (∀ (i : Nat) x v, cs[i]? = some x → vs[i]? = some v → Jr s x v) → Jr s (.agg cs) (.agg vs)
 | tup (cs : List AV) (vs : Array Value) : cs.length = vs.size → (∀ (i : Nat) x v, cs[i]? = some x → vs[i]? = some v → Jr s x v) → Jr s (.tup cs) (.tuple vs)
 | ptr (b off r o) : s.g.μ b = some (r, o) → Jm5 s.σ b → Jr s (.ptr b off) (.pointer (some ⟨r, o + off, none⟩))
 | cp (cs : List PV) (off r o : Nat) (vals : Nat → Value) :
   (∀ (j : Nat) x, cs[j]? = some x → s.g.C r (o + j) ∧ JY s.w r (o + j) = some (vals j)) →
   (∀ (j : Nat) x, cs[j]? = some x → JJ s.w s.g.C x (vals j)) → Jr s (.cp cs off) (.pointer (some ⟨r, o + off, none⟩))
 | slr (b i n v wm esz rows) : (∃ a cap, v = .slice a n cap ∧ (n = 0 ∨ a ≠ none)) → s.σ[b]? = some (.arr wm esz rows) → i + n ≤ rows.length → (i + n = rows.length → Jwz s b esz i n v) → Jr s (.slr b i n) v
 | ep (b ext i off v wm esz rows) : (∃ r o, v = .pointer (some ⟨r, o, none⟩)) → s.σ[b]? = some (.arr wm esz rows) → ext ≤ rows.length →
   (ext = rows.length → i < ext → ∃ r, s.g.μ b = some (r, 0) ∧ v = .pointer (some ⟨r, i * esz + off, none⟩)) → Jr s (.ep b ext i off) v
 | fn (f : FuncId) (first caps : List AV) (fs cs : Array Value) : first.length = fs.size → caps.length = cs.size →
   (∀ (i : Nat) x v, first[i]? = some x → fs[i]? = some v → Jr s x v) → (∀ (i : Nat) x v, caps[i]? = some x → cs[i]? = some v → Jr s x v) →
   Jr s (.fn f first caps) (.func (.func f) fs cs)
 | unk (x : Bool) : Jr s .unk (.bool x)
def Wr1 (s : Sn) (b r o : Nat) : Prop :=
 match s.σ[b]? with
 | some (.box cs) => ∃ o0, s.g.μ b = some (r, o0) ∧ o0 ≤ o ∧ o < o0 + cs.length
 | some (.arr true _ _) => ∃ o0, s.g.μ b = some (r, o0)
 | some (.arr false esz rows) => ∃ o0, s.g.μ b = some (r, o0) ∧ rows.length * esz ≤ o
 | _ => False
def Wr (s : Sn) (r o : Nat) : Prop := ∃ b, Wr1 s b r o
def JjL (fz : Nat × Nat) (a b : Nat) : Prop := ∀ o, a ≤ o → o < b → ¬ (fz.1 ≤ o ∧ o < fz.2)
def J9W (esz : Nat) (fz : Nat × Nat) (n : Nat) : Prop := JjL fz 0 n ∧ (esz ≠ 1 → ¬ (fz.1 ≤ n ∧ n < fz.2))
theorem J9W.zero (esz n : Nat) : J9W esz (0, 0) n := ⟨fun _ _ _ h => by simp at h, fun _ h => by simp at h⟩
def Jm2 (s : Sn) (b : Nat) (cs : List AV) : Prop :=
 ∃ r o c e fz, s.g.μ b = some (r, o) ∧ s.w.heap[r]? = some (.cells c e fz) ∧ o + cs.length ≤ c.size ∧
  (∀ (i : Nat) x, cs[i]? = some x → ∃ v, c[o + i]? = some v ∧ Jr s x v ∧ v.oneCell' = true) ∧ JjL fz o (o + cs.length)
def Jm7 (s : Sn) (b : Nat) (wm : Bool) (esz : Nat) (rows : List (List PV)) : Prop :=
 (s.g.μ b = none ∧ rows = []) ∨
 ∃ r c e fz, s.g.μ b = some (r, 0) ∧ s.w.heap[r]? = some (.cells c e fz) ∧ (∀ row ∈ rows, row.length = esz) ∧ rows.length * esz ≤ c.size ∧
  (∀ (i j : Nat) row x, rows[i]? = some row → row[j]? = some x → (∃ v, c[i * esz + j]? = some v ∧ JJ s.w s.g.C x v) ∧ (wm = false → s.g.C r (i * esz + j))) ∧
  J9W esz fz c.size
structure Inv (s : Sn) : Prop where
 box : ∀ b cs, s.σ[b]? = some (.box cs) → Jm2 s b cs
 arr : ∀ b wm esz rows, s.σ[b]? = some (.arr wm esz rows) → Jm7 s b wm esz rows
 apart : ∀ b1 b2 r o, Wr1 s b1 r o → Wr1 s b2 r o → b1 = b2
 const : ∀ r o, s.g.C r o → r < s.w.heap.size ∧ ∀ b, ¬ Wr1 s b r o
def Jbc (W : Nat → Nat → Prop) (w0 w : World) : Prop :=
 w0.heap.size ≤ w.heap.size ∧
 (∀ (r : Nat) c e fz, w0.heap[r]? = some (.cells c e fz) → ∃ c', w.heap[r]? = some (.cells c' e fz) ∧ c'.size = c.size ∧ ∀ o, ¬ W r o → c'[o]? = c[o]?) ∧
 (∀ (r : Nat) x, w0.heap[r]? = some x → (∀ c e fz, x ≠ .cells c e fz) → w.heap[r]? = some x) ∧ w.os = w0.os ∧ w.output = w0.output
structure JE (s0 s : Sn) : Prop where
 keep : Jbc (Wr s0) s0.w s.w
 cmono : ∀ r o, s0.g.C r o → s.g.C r o
 cnew : ∀ r o, s.g.C r o → s0.g.C r o ∨ Wr s0 r o ∨ s0.w.heap.size ≤ r
 wnew : ∀ r o, Wr s r o → Wr s0 r o ∨ s0.w.heap.size ≤ r
 len : s0.σ.length ≤ s.σ.length
 box : ∀ b cs, s0.σ[b]? = some (.box cs) → (∃ cs', s.σ[b]? = some (.box cs') ∧ cs'.length = cs.length) ∧ s.g.μ b = s0.g.μ b
 arr : ∀ b wm esz rows, s0.σ[b]? = some (.arr wm esz rows) → ∃ wm' rows', s.σ[b]? = some (.arr wm' esz rows') ∧ (wm' = true → wm = true) ∧
  rows.length ≤ rows'.length ∧ (rows'.length = rows.length → s.g.μ b = s0.g.μ b)
theorem Jbc.refl (W w) : Jbc W w w := ⟨Nat.le_refl _, fun _ c _ _ h => ⟨c, h, rfl, fun _ _ => rfl⟩, fun _ _ h _ => h, rfl, rfl⟩
theorem Jbc.mono {W W' : Nat → Nat → Prop} {w0 w} (h : Jbc W w0 w) (hw : ∀ r o, W r o → W' r o) : Jbc W' w0 w :=
 ⟨h.1, fun r c e fz hr => let ⟨c', a, b, d⟩ := h.2.1 r c e fz hr; ⟨c', a, b, fun o ho => d o fun x => ho (hw _ _ x)⟩, h.2.2⟩
theorem Jbc.cell {W w0 w} (h : Jbc W w0 w) {r o v} (hn : ¬ W r o) (hv : JY w0 r o = some v) : JY w r o = some v := by
 unfold JY at hv
 split at hv
 ·rename_i c e fz hr
  obtain ⟨c', h1, _, h3⟩ := h.2.1 r c e fz hr
  rw [J1Y h1, h3 o hn, hv]
 ·cases hv
theorem JE.refl (s : Sn) : JE s s :=
 ⟨.refl _ _, fun _ _ h => h, fun _ _ h => .inl h, fun _ _ h => .inl h, Nat.le_refl _, fun _ cs h => ⟨⟨cs, h, rfl⟩, rfl⟩,
  fun _ wm _ rows h => ⟨wm, rows, h, id, Nat.le_refl _, fun _ => rfl⟩⟩
theorem J0r {w : World} {r : Nat} {x : Obj} (h : w.heap[r]? = some x) : r < w.heap.size := by
 rcases Nat.lt_or_ge r w.heap.size with hl | hl
 ·exact hl
 ·simp [Array.getElem?_eq_none hl] at h
theorem JE.trans {s0 s1 s2 : Sn} (h : JE s0 s1) (h' : JE s1 s2) : JE s0 s2 where
 keep := by
  refine ⟨Nat.le_trans h.keep.1 h'.keep.1, fun r c e fz hr => ?_, fun r x hr hx => h'.keep.2.2.1 r x (h.keep.2.2.1 r x hr hx) hx, h'.keep.2.2.2.1.trans h.keep.2.2.2.1, h'.keep.2.2.2.2.trans h.keep.2.2.2.2⟩
  obtain ⟨c1, a1, b1, d1⟩ := h.keep.2.1 r c e fz hr
  obtain ⟨c2, a2, b2, d2⟩ := h'.keep.2.1 r c1 e fz a1
  refine ⟨c2, a2, b2.trans b1, fun o ho => (d2 o fun hw => ?_).trans (d1 o ho)⟩
  rcases h.wnew r o hw with hw | hw
  ·exact ho hw
  ·have := J0r hr; omega
 cmono r o hc := h'.cmono r o (h.cmono r o hc)
 cnew r o hc := by
  rcases h'.cnew r o hc with hc | hw | hn
  ·exact h.cnew r o hc
  ·rcases h.wnew r o hw with hw | hn
   ·exact .inr (.inl hw)
   ·exact .inr (.inr hn)
  ·exact .inr (.inr (Nat.le_trans h.keep.1 hn))
 wnew r o hw := by
  rcases h'.wnew r o hw with hw | hn
  ·exact h.wnew r o hw
  ·exact .inr (Nat.le_trans h.keep.1 hn)
 len := Nat.le_trans h.len h'.len
 box b cs hb := by
  obtain ⟨⟨c1, a1, l1⟩, m1⟩ := h.box b cs hb
  obtain ⟨⟨c2, a2, l2⟩, m2⟩ := h'.box b c1 a1
  exact ⟨⟨c2, a2, l2.trans l1⟩, m2.trans m1⟩
 arr b wm esz rows hb := by
  obtain ⟨wm1, r1, a1, b1, c1, d1⟩ := h.arr b wm esz rows hb
  obtain ⟨wm2, r2, a2, b2, c2, d2⟩ := h'.arr b wm1 esz r1 a1
  exact ⟨wm2, r2, a2, fun e => b1 (b2 e), Nat.le_trans c1 c2, fun e => (d2 (by omega)).trans (d1 (by omega))⟩
theorem Inv.cfix {s0 s : Sn} (hi : Inv s0) (t : JE s0 s) {r o v} (hc : s0.g.C r o) (hv : JY s0.w r o = some v) : JY s.w r o = some v :=
 t.keep.cell (fun ⟨b, hb⟩ => (hi.const r o hc).2 b hb) hv
theorem JJ.mono {s0 s : Sn} (hi : Inv s0) (t : JE s0 s) {x v} (h : JJ s0.w s0.g.C x v) : JJ s.w s.g.C x v := by
 induction h with
 | b x => exact .b x
 | i k n => exact .i k n
 | s l => exact .s l
 | np => exact .np
 | nf => exact .nf
 | sl0 esz a cap => exact .sl0 esz a cap
 | sl esz rows r o cap vals h1 h2 h3 _ ih =>
  exact .sl esz rows r o cap vals h1 h2 (fun i j row x hr hx => ⟨t.cmono _ _ (h3 i j row x hr hx).1, hi.cfix t (h3 i j row x hr hx).1 (h3 i j row x hr hx).2⟩) ih
 | slc esz rows a _ ih => exact .slc esz rows a ih
theorem Jm5.mono {s0 s : Sn} (t : JE s0 s) {b} (h : Jm5 s0.σ b) : Jm5 s.σ b := by
 obtain ⟨cs, h⟩ := h
 obtain ⟨⟨cs', h', _⟩, _⟩ := t.box b cs h
 exact ⟨cs', h'⟩
theorem Jr.mono {s0 s : Sn} (hi : Inv s0) (t : JE s0 s) {x v} (h : Jr s0 x v) : Jr s x v := by
 induction h with
 | p c v h => exact .p c v (h.mono hi t)
 | data cs vs h1 h2 => exact .data cs vs h1 fun i x v hx hv => (h2 i x v hx hv).mono hi t
 | agg cs vs h1 h2 _ ih => exact .agg cs vs h1 h2 ih
 | tup cs vs h1 _ ih => exact .tup cs vs h1 ih
 | ptr b off r o h1 h2 =>
  obtain ⟨cs, h3⟩ := h2
  exact .ptr b off r o ((t.box b cs h3).2.trans h1) (.mono t ⟨cs, h3⟩)
 | cp cs off r o vals h1 h2 => exact .cp cs off r o vals (fun j x hx => ⟨t.cmono _ _ (h1 j x hx).1, hi.cfix t (h1 j x hx).1 (h1 j x hx).2⟩) fun j x hx => (h2 j x hx).mono hi t
 | slr b i n v wm esz rows h0 h1 h2 h3 =>
  obtain ⟨wm', rows', a, _, c, d⟩ := t.arr b wm esz rows h1
  refine .slr b i n v wm' esz rows' h0 a (Nat.le_trans h2 c) fun e => ?_
  have e0 : rows'.length = rows.length := by omega
  rcases h3 (by omega) with ⟨m, hi0, hn, hv⟩ | ⟨r, cap, ce, e1, fz, m, hv, hcap, hh, hs⟩
  ·exact .inl ⟨(d e0).trans m, hi0, hn, hv⟩
  ·obtain ⟨c', k1, k2, _⟩ := t.keep.2.1 r ce e1 fz hh
   exact .inr ⟨r, cap, c', e1, fz, (d e0).trans m, hv, hcap, k1, by omega⟩
 | ep b ext i off v wm esz rows h0 h1 h2 h3 =>
  obtain ⟨wm', rows', a, _, c, d⟩ := t.arr b wm esz rows h1
  refine .ep b ext i off v wm' esz rows' h0 a (Nat.le_trans h2 c) fun e hlt => ?_
  have e0 : rows'.length = rows.length := by omega
  obtain ⟨r, m, hv⟩ := h3 (by omega) hlt
  exact ⟨r, (d e0).trans m, hv⟩
 | fn f first caps fs cs h1 h2 _ _ ih1 ih2 => exact .fn f first caps fs cs h1 h2 ih1 ih2
 | unk x => exact .unk x
theorem J7j {s0 s : Sn} (hi : Inv s0) (t : JE s0 s) (D : Nat → Prop)
  (same : ∀ b, ¬ D b → s.σ[b]? = s0.σ[b]? ∧ s.g.μ b = s0.g.μ b)
  (keepU : ∀ b r o v, ¬ D b → Wr1 s0 b r o → JY s0.w r o = some v → JY s.w r o = some v)
  (boxD : ∀ b cs, D b → s.σ[b]? = some (.box cs) → Jm2 s b cs)
  (arrD : ∀ b wm esz rows, D b → s.σ[b]? = some (.arr wm esz rows) → Jm7 s b wm esz rows)
  (apartD : ∀ b1 b2 r o, D b1 → Wr1 s b1 r o → Wr1 s b2 r o → b1 = b2)
  (constL : ∀ r o, s.g.C r o → r < s.w.heap.size)
  (constD : ∀ r o b, s.g.C r o → D b → ¬ Wr1 s b r o)
  (constU : ∀ r o b, s.g.C r o → ¬ s0.g.C r o → ¬ D b → ¬ Wr1 s0 b r o) : Inv s := by
 have wr : ∀ b r o, ¬ D b → (Wr1 s b r o ↔ Wr1 s0 b r o) := by
  intro b r o hd
  obtain ⟨h1, h2⟩ := same b hd
  unfold Wr1
  rw [h1, h2]
 have cells : ∀ (r : Nat) c e fz, s0.w.heap[r]? = some (.cells c e fz) → ∃ c', s.w.heap[r]? = some (.cells c' e fz) ∧ c'.size = c.size ∧ ∀ o v, JY s.w r o = some v → c'[o]? = some v := by
  intro r c e fz hr
  obtain ⟨c', h1, h2, _⟩ := t.keep.2.1 r c e fz hr
  exact ⟨c', h1, h2, fun o v h => by rw [← h, J1Y h1]⟩
 refine ⟨?_, ?_, ?_, ?_⟩
 ·intro b cs hb
  by_cases hd : D b
  ·exact boxD b cs hd hb
  ·obtain ⟨h1, h2⟩ := same b hd
   obtain ⟨r, o, c, e, fz, m, hh, hl, hx, hf⟩ := hi.box b cs (h1 ▸ hb)
   obtain ⟨c', k1, k2, k3⟩ := cells r c e fz hh
   refine ⟨r, o, c', e, fz, h2.trans m, k1, by omega, fun i x hix => ?_, hf⟩
   obtain ⟨v, hv, hr, h1v⟩ := hx i x hix
   refine ⟨v, k3 _ _ (keepU b r (o + i) v hd ?_ (by rw [J1Y hh]; exact hv)), hr.mono hi t, h1v⟩
   have : i < cs.length := by
    rcases Nat.lt_or_ge i cs.length with h | h
    ·exact h
    ·simp [List.getElem?_eq_none h] at hix
   have hb0 : s0.σ[b]? = some (.box cs) := h1 ▸ hb
   unfold Wr1
   rw [hb0]
   exact ⟨o, m, by omega, by omega⟩
 ·intro b wm esz rows hb
  by_cases hd : D b
  ·exact arrD b wm esz rows hd hb
  ·obtain ⟨h1, h2⟩ := same b hd
   rcases hi.arr b wm esz rows (h1 ▸ hb) with ⟨m, hr⟩ | ⟨r, c, e, fz, m, hh, hrow, hl, hx, hf⟩
   ·exact .inl ⟨h2.trans m, hr⟩
   ·obtain ⟨c', k1, k2, k3⟩ := cells r c e fz hh
    refine .inr ⟨r, c', e, fz, h2.trans m, k1, hrow, by omega, fun i j row x hir hjx => ?_, k2 ▸ hf⟩
    obtain ⟨⟨v, hv, hr⟩, hc⟩ := hx i j row x hir hjx
    refine ⟨⟨v, k3 _ _ ?_, hr.mono hi t⟩, fun e => t.cmono _ _ (hc e)⟩
    cases wm with
    | true =>
     refine keepU b r _ v hd ?_ (by rw [J1Y hh]; exact hv)
     have hb0 : s0.σ[b]? = some (.arr true esz rows) := h1 ▸ hb
     unfold Wr1
     rw [hb0]
     exact ⟨0, m⟩
    | false => exact hi.cfix t (hc rfl) (by rw [J1Y hh]; exact hv)
 ·intro b1 b2 r o h1 h2
  by_cases hd1 : D b1
  ·exact apartD b1 b2 r o hd1 h1 h2
  ·by_cases hd2 : D b2
   ·exact (apartD b2 b1 r o hd2 h2 h1).symm
   ·exact hi.apart b1 b2 r o ((wr b1 r o hd1).1 h1) ((wr b2 r o hd2).1 h2)
 ·intro r o hc
  refine ⟨constL r o hc, fun b hb => ?_⟩
  by_cases hd : D b
  ·exact constD r o b hc hd hb
  ·by_cases h0 : s0.g.C r o
   ·exact (hi.const r o h0).2 b ((wr b r o hd).1 hb)
   ·exact constU r o b hc h0 hd ((wr b r o hd).1 hb)
end Go.Am
end
section
namespace Go.Am
theorem J0a {σ : List Blk} {b : Nat} {x y : Blk} (h : σ[b]? = some x) : (σ.set b y)[b]? = some y := by
 have : b < σ.length := by
  rcases Nat.lt_or_ge b σ.length with h' | h'
  ·exact h'
  ·simp [List.getElem?_eq_none h'] at h
 simp [this]
theorem JD {σ : List Blk} {b c : Nat} {y : Blk} (h : b ≠ c) : (σ.set b y)[c]? = σ[c]? := by
 simp [h]
theorem Jfa {s0 : Sn} (hi : Inv s0) {w' : World} (hh : w'.heap = s0.w.heap) (ho : w'.os = s0.w.os) (hp : w'.output = s0.w.output) :
  Inv ⟨s0.σ, s0.g, w'⟩ ∧ JE s0 ⟨s0.σ, s0.g, w'⟩ := by
 have hc : ∀ r o, JY w' r o = JY s0.w r o := fun r o => by unfold JY; rw [hh]
 have t : JE s0 ⟨s0.σ, s0.g, w'⟩ := by
  refine ⟨⟨by rw [hh]; exact Nat.le_refl _, fun r c e fz h => ⟨c, by rw [hh]; exact h, rfl, fun _ _ => rfl⟩, fun r x h _ => by rw [hh]; exact h, ho, hp⟩, fun _ _ h => h, fun _ _ h => .inl h, fun r o ⟨b, hb⟩ => .inl ⟨b, hb⟩, Nat.le_refl _, fun _ cs h => ⟨⟨cs, h, rfl⟩, rfl⟩,
   fun _ wm _ rows h => ⟨wm, rows, h, id, Nat.le_refl _, fun _ => rfl⟩⟩
 exact ⟨J7j hi t (fun _ => False) (fun _ _ => ⟨rfl, rfl⟩) (fun _ r o v _ _ h => by rw [hc]; exact h) (fun _ _ h => h.elim) (fun _ _ _ _ h => h.elim)
  (fun _ _ _ _ h => h.elim) (fun r o h => by show r < w'.heap.size; rw [hh]; exact (hi.const r o h).1) (fun _ _ _ _ h => h.elim) (fun _ _ _ h h' => (h' h).elim), t⟩
theorem JaY {W : Nat → Nat → Prop} {w w' : World} {x : Obj} (hh : w'.heap = w.heap.push x) (ho : w'.os = w.os) (hp : w'.output = w.output) : Jbc W w w' := by
 have hr : ∀ (r : Nat) y, w.heap[r]? = some y → w'.heap[r]? = some y := by
  intro r y h
  have := J0r h
  rw [hh, Array.getElem?_push]
  split
  ·omega
  ·exact h
 exact ⟨by rw [hh]; simp, fun r c e fz h => ⟨c, hr r _ h, rfl, fun _ _ => rfl⟩, fun r y h _ => hr r y h, ho, hp⟩
theorem J3J {w w' : World} {x : Obj} (hh : w'.heap = w.heap.push x) : w'.heap[w.heap.size]? = some x := by
 rw [hh]; simp
theorem JcW {w w' : World} {x : Obj} (hh : w'.heap = w.heap.push x) {r o v} (h : JY w r o = some v) : JY w' r o = some v :=
 (JaY (W := fun _ _ => False) (w := w) (w' := { w' with os := w.os, output := w.output }) hh rfl rfl).cell (fun h => h) h
def J5W (g : Gh) (new : Nat) (x : Option (Nat × Nat)) : Gh := ⟨fun b => if b = new then x else g.μ b, g.C⟩
theorem Jl2 {s0 s : Sn} {new : Nat} {blk : Blk} (hd : s0.σ[new]? = some .dead) (hs : s.σ = s0.σ.set new blk) (x : Option (Nat × Nat)) (hg : s.g.μ = (J5W s0.g new x).μ) :
  s0.σ.length ≤ s.σ.length ∧ (∀ b cs, s0.σ[b]? = some (.box cs) → (∃ cs', s.σ[b]? = some (.box cs') ∧ cs'.length = cs.length) ∧ s.g.μ b = s0.g.μ b) ∧
  (∀ b wm esz rows, s0.σ[b]? = some (.arr wm esz rows) → ∃ wm' rows', s.σ[b]? = some (.arr wm' esz rows') ∧ (wm' = true → wm = true) ∧
  rows.length ≤ rows'.length ∧ (rows'.length = rows.length → s.g.μ b = s0.g.μ b)) := by
 have hn : ∀ b y, s0.σ[b]? = some y → y ≠ .dead → s.σ[b]? = some y ∧ s.g.μ b = s0.g.μ b := by
  intro b y hb hy
  have hne : new ≠ b := by rintro rfl; rw [hd] at hb; exact hy (by injection hb with h; exact h.symm)
  rw [hs, JD hne, hg]
  exact ⟨hb, if_neg (fun e => hne e.symm)⟩
 refine ⟨by rw [hs]; simp, fun b cs h => ?_, fun b wm esz rows h => ?_⟩
 ·obtain ⟨a, m⟩ := hn b _ h (by simp)
  exact ⟨⟨cs, a, rfl⟩, m⟩
 ·obtain ⟨a, m⟩ := hn b _ h (by simp)
  exact ⟨wm, rows, a, id, Nat.le_refl _, fun _ => m⟩
def Jwn (s0 : Sn) (c : Array Value) : Blk → Prop
 | .box cs => cs.length ≤ c.size ∧ ∀ (i : Nat) x, cs[i]? = some x → ∃ v, c[i]? = some v ∧ Jr s0 x v ∧ v.oneCell' = true
 | .arr true esz rows => (∀ row ∈ rows, row.length = esz) ∧ rows.length * esz ≤ c.size ∧
  ∀ (i j : Nat) row x, rows[i]? = some row → row[j]? = some x → ∃ v, c[i * esz + j]? = some v ∧ JJ s0.w s0.g.C x v
 | _ => False
theorem Jg8 {s0 : Sn} (hi : Inv s0) {new : Nat} (hd : s0.σ[new]? = some .dead) {blk : Blk} {c : Array Value} {e : TypeId} {fz : Nat × Nat} {w' : World}
  (hh : w'.heap = s0.w.heap.push (.cells c e fz)) (ho : w'.os = s0.w.os) (hp : w'.output = s0.w.output) (hf : JjL fz 0 c.size) (hf2 : ∀ wm esz rows, blk = .arr wm esz rows → esz ≠ 1 → ¬ (fz.1 ≤ c.size ∧ c.size < fz.2)) (hb : Jwn s0 c blk) :
  Inv ⟨s0.σ.set new blk, J5W s0.g new (some (s0.w.heap.size, 0)), w'⟩ ∧ JE s0 ⟨s0.σ.set new blk, J5W s0.g new (some (s0.w.heap.size, 0)), w'⟩ := by
 have hself : (s0.σ.set new blk)[new]? = some blk := J0a hd
 have wr : ∀ b r o, b ≠ new → (Wr1 ⟨s0.σ.set new blk, J5W s0.g new (some (s0.w.heap.size, 0)), w'⟩ b r o ↔ Wr1 s0 b r o) := by
  intro b r o hne
  unfold Wr1
  simp only [J5W, if_neg hne, JD (Ne.symm hne)]
 have wrn : ∀ r o, Wr1 ⟨s0.σ.set new blk, J5W s0.g new (some (s0.w.heap.size, 0)), w'⟩ new r o → r = s0.w.heap.size := by
  intro r o h
  unfold Wr1 at h
  simp only [hself, J5W] at h
  split at h
  ·obtain ⟨o0, m, _⟩ := h; simp at m; exact m.1.symm
  ·obtain ⟨o0, m⟩ := h; simp at m; exact m.1.symm
  ·obtain ⟨o0, m, _⟩ := h; simp at m; exact m.1.symm
  ·exact h.elim
 have wlt : ∀ b r o, Wr1 s0 b r o → r < s0.w.heap.size := by
  intro b r o h
  unfold Wr1 at h
  split at h
  ·rename_i cs hb
   obtain ⟨r', o', c', e', fz', m, k, _⟩ := hi.box b cs hb
   obtain ⟨o0, m', _⟩ := h
   rw [m] at m'; injection m' with m'; injection m' with m1 _
   exact m1 ▸ J0r k
  ·rename_i hb
   obtain ⟨o0, m'⟩ := h
   rcases hi.arr b _ _ _ hb with ⟨m, _⟩ | ⟨r', c', e', fz', m, k, _⟩
   ·rw [m] at m'; cases m'
   ·rw [m] at m'; injection m' with m'; injection m' with m1 _
    exact m1 ▸ J0r k
  ·rename_i hb
   obtain ⟨o0, m', _⟩ := h
   rcases hi.arr b _ _ _ hb with ⟨m, _⟩ | ⟨r', c', e', fz', m, k, _⟩
   ·rw [m] at m'; cases m'
   ·rw [m] at m'; injection m' with m'; injection m' with m1 _
    exact m1 ▸ J0r k
  ·exact h.elim
 have t : JE s0 ⟨s0.σ.set new blk, J5W s0.g new (some (s0.w.heap.size, 0)), w'⟩ := by
  obtain ⟨k1, k2, k3⟩ := Jl2 (s := ⟨s0.σ.set new blk, J5W s0.g new (some (s0.w.heap.size, 0)), w'⟩) hd rfl (some (s0.w.heap.size, 0)) rfl
  refine ⟨JaY hh ho hp, fun _ _ h => h, fun _ _ h => .inl h, ?_, k1, k2, k3⟩
  rintro r o ⟨b, hb⟩
  by_cases e : b = new
  ·subst e; exact .inr (Nat.le_of_eq (wrn r o hb).symm)
  ·exact .inl ⟨b, (wr b r o e).1 hb⟩
 refine ⟨J7j hi t (fun b => b = new) (fun b hne => ⟨JD (Ne.symm hne), if_neg hne⟩) (fun b r o v _ _ h => JcW hh h) ?_ ?_ ?_ ?_ ?_ ?_, t⟩
 ·rintro b cs rfl hb'
  rw [hself] at hb'; injection hb' with hb'; subst hb'
  obtain ⟨h1, h2⟩ := hb
  refine ⟨s0.w.heap.size, 0, c, e, fz, if_pos rfl, J3J hh, by omega, fun i x hx => ?_, fun o _ hl => hf o (Nat.zero_le _) (by omega)⟩
  obtain ⟨v, hv, hr, h1v⟩ := h2 i x hx
  exact ⟨v, by rw [Nat.zero_add]; exact hv, hr.mono hi t, h1v⟩
 ·rintro b wm esz rows rfl hb'
  rw [hself] at hb'; injection hb' with hb'; subst hb'
  cases wm with
  | false => exact hb.elim
  | true =>
   obtain ⟨h1, h2, h3⟩ := hb
   refine .inr ⟨s0.w.heap.size, c, e, fz, if_pos rfl, J3J hh, h1, h2, fun i j row x hr hx => ⟨?_, fun h => by cases h⟩, hf, hf2 _ _ _ rfl⟩
   obtain ⟨v, hv, hr⟩ := h3 i j row x hr hx
   exact ⟨v, hv, hr.mono hi t⟩
 ·rintro b1 b2 r o rfl h1 h2
  by_cases e : b2 = b1
  ·exact e.symm
  ·have := wlt _ _ _ ((wr b2 r o e).1 h2)
   have := wrn r o h1
   omega
 ·intro r o hc
  show r < w'.heap.size
  rw [hh]; have := (hi.const r o hc).1; simp; omega
 ·rintro r o b hc rfl h
  have := (hi.const r o hc).1
  have := wrn r o h
  omega
 ·exact fun r o b hc hn => (hn hc).elim
theorem JcC {s0 : Sn} (hi : Inv s0) : ∀ b r o, Wr1 s0 b r o → r < s0.w.heap.size := by
 intro b r o h
 unfold Wr1 at h
 split at h
 ·rename_i cs hb
  obtain ⟨r', o', c', e', fz', m, k, _⟩ := hi.box b cs hb
  obtain ⟨o0, m', _⟩ := h
  rw [m] at m'; injection m' with m'; injection m' with m1 _
  exact m1 ▸ J0r k
 ·rename_i hb
  obtain ⟨o0, m'⟩ := h
  rcases hi.arr b _ _ _ hb with ⟨m, _⟩ | ⟨r', c', e', fz', m, k, _⟩
  ·rw [m] at m'; cases m'
  ·rw [m] at m'; injection m' with m'; injection m' with m1 _
   exact m1 ▸ J0r k
 ·rename_i hb
  obtain ⟨o0, m', _⟩ := h
  rcases hi.arr b _ _ _ hb with ⟨m, _⟩ | ⟨r', c', e', fz', m, k, _⟩
  ·rw [m] at m'; cases m'
  ·rw [m] at m'; injection m' with m'; injection m' with m1 _
   exact m1 ▸ J0r k
 ·exact h.elim
theorem Jgc {s0 : Sn} (hi : Inv s0) {new : Nat} (hd : s0.σ[new]? = some .dead) (esz : Nat) :
  Inv ⟨s0.σ.set new (.arr true esz []), J5W s0.g new none, s0.w⟩ ∧ JE s0 ⟨s0.σ.set new (.arr true esz []), J5W s0.g new none, s0.w⟩ := by
 have hself : (s0.σ.set new (Blk.arr true esz []))[new]? = some (.arr true esz []) := J0a hd
 have wr : ∀ b r o, b ≠ new → (Wr1 ⟨s0.σ.set new (.arr true esz []), J5W s0.g new none, s0.w⟩ b r o ↔ Wr1 s0 b r o) := by
  intro b r o hne
  unfold Wr1
  simp only [J5W, if_neg hne, JD (Ne.symm hne)]
 have wrn : ∀ r o, ¬ Wr1 ⟨s0.σ.set new (.arr true esz []), J5W s0.g new none, s0.w⟩ new r o := by
  intro r o h
  unfold Wr1 at h
  simp only [hself, J5W] at h
  simp at h
 have t : JE s0 ⟨s0.σ.set new (.arr true esz []), J5W s0.g new none, s0.w⟩ := by
  obtain ⟨k1, k2, k3⟩ := Jl2 (s := ⟨s0.σ.set new (.arr true esz []), J5W s0.g new none, s0.w⟩) hd rfl none rfl
  refine ⟨.refl _ _, fun _ _ h => h, fun _ _ h => .inl h, ?_, k1, k2, k3⟩
  rintro r o ⟨b, hb⟩
  by_cases e : b = new
  ·subst e; exact (wrn r o hb).elim
  ·exact .inl ⟨b, (wr b r o e).1 hb⟩
 refine ⟨J7j hi t (fun b => b = new) (fun b hne => ⟨JD (Ne.symm hne), if_neg hne⟩) (fun b r o v _ _ h => h) ?_ ?_ ?_ ?_ ?_ ?_, t⟩
 ·rintro b cs rfl hb'
  rw [hself] at hb'; cases hb'
 ·rintro b wm esz' rows rfl hb'
  rw [hself] at hb'; cases hb'
  exact .inl ⟨if_pos rfl, rfl⟩
 ·rintro b1 b2 r o rfl h1 h2
  exact (wrn r o h1).elim
 ·exact fun r o hc => (hi.const r o hc).1
 ·rintro r o b hc rfl h
  exact wrn r o h
 ·exact fun r o b hc hn => (hn hc).elim
def Jhv (g : Gh) (p : Nat → Nat → Prop) : Gh := ⟨g.μ, fun r o => g.C r o ∨ p r o⟩
theorem Jq9 {s0 : Sn} (hi : Inv s0) {x : Obj} {w' : World}
  (hh : w'.heap = s0.w.heap.push x) (ho : w'.os = s0.w.os) (hp : w'.output = s0.w.output) :
  Inv ⟨s0.σ, Jhv s0.g fun r _ => r = s0.w.heap.size, w'⟩ ∧ JE s0 ⟨s0.σ, Jhv s0.g fun r _ => r = s0.w.heap.size, w'⟩ := by
 have t : JE s0 ⟨s0.σ, Jhv s0.g fun r _ => r = s0.w.heap.size, w'⟩ := by
  refine ⟨JaY hh ho hp, fun _ _ h => .inl h, fun r o h => ?_, fun r o h => .inl h, Nat.le_refl _, fun _ cs h => ⟨⟨cs, h, rfl⟩, rfl⟩,
   fun _ wm _ rows h => ⟨wm, rows, h, id, Nat.le_refl _, fun _ => rfl⟩⟩
  rcases h with h | h
  ·exact .inl h
  ·exact .inr (.inr (Nat.le_of_eq h.symm))
 refine ⟨J7j hi t (fun _ => False) (fun _ _ => ⟨rfl, rfl⟩) (fun b r o v _ _ h => JcW hh h) (fun _ _ h => h.elim) (fun _ _ _ _ h => h.elim)
  (fun _ _ _ _ h => h.elim) ?_ (fun _ _ _ _ h => h.elim) ?_, t⟩
 ·intro r o hc
  show r < w'.heap.size
  rw [hh]
  rcases hc with hc | hc
  ·have := (hi.const r o hc).1; simp; omega
  ·simp; omega
 ·intro r o b hc hn _ h
  rcases hc with hc | hc
  ·exact hn hc
  ·have := JcC hi b r o h; omega
structure Put (r : Nat) (o : Nat) (vs : List Value) (w w' : World) : Prop where
 there : ∃ c e fz c', w.heap[r]? = some (.cells c e fz) ∧ w'.heap[r]? = some (.cells c' e fz) ∧ c'.size = c.size ∧ o + vs.length ≤ c.size ∧
  (∀ (j : Nat) v, vs[j]? = some v → c'[o + j]? = some v) ∧ ∀ k, (k < o ∨ o + vs.length ≤ k) → c'[k]? = c[k]?
 rest : ∀ r' : Nat, r' ≠ r → w'.heap[r']? = w.heap[r']?
 size : w'.heap.size = w.heap.size
 os : w'.os = w.os
 output : w'.output = w.output
theorem Put.keep {W : Nat → Nat → Prop} {r o vs w w'} (h : Put r o vs w w') (hw : ∀ k, o ≤ k → k < o + vs.length → W r k) : Jbc W w w' := by
 obtain ⟨c, e, fz, c', h1, h2, h3, _, _, h5⟩ := h.there
 refine ⟨Nat.le_of_eq h.size.symm, fun r' c1 e1 fz1 hr => ?_, fun r' x hr hx => ?_, h.os, h.output⟩
 ·by_cases e' : r' = r
  ·subst e'
   rw [h1] at hr; injection hr with hr; injection hr with a1 a2 a3
   subst a1 a2 a3
   refine ⟨c', h2, h3, fun k hk => h5 k ?_⟩
   rcases Nat.lt_or_ge k o with h | h
   ·exact .inl h
   ·rcases Nat.lt_or_ge k (o + vs.length) with h' | h'
    ·exact (hk (hw k h h')).elim
    ·exact .inr h'
  ·exact ⟨c1, by rw [h.rest r' e']; exact hr, rfl, fun _ _ => rfl⟩
 ·by_cases e' : r' = r
  ·subst e'; rw [h1] at hr; injection hr with hr; exact (hx _ _ _ hr.symm).elim
  ·rw [h.rest r' e']; exact hr
theorem Put.cell {r o vs w w'} (h : Put r o vs w w') {r' k v} (hv : JY w r' k = some v) (hn : r' ≠ r ∨ k < o ∨ o + vs.length ≤ k) : JY w' r' k = some v := by
 obtain ⟨c, e, fz, c', h1, h2, h3, _, _, h5⟩ := h.there
 by_cases e' : r' = r
 ·subst e'
  rw [J1Y h1] at hv
  rw [J1Y h2, h5 k (hn.resolve_left (fun h => h rfl)), hv]
 ·unfold JY; rw [h.rest r' e']; exact hv
inductive Jhn : Blk → Blk → Prop where
 | box (cs cs' : List AV) : cs'.length = cs.length → Jhn (.box cs) (.box cs')
 | arr (esz : Nat) (rows rows' : List (List PV)) : rows'.length = rows.length → Jhn (.arr true esz rows) (.arr true esz rows')
theorem JfQ {s0 : Sn} (hi : Inv s0) {b : Nat} {old blk : Blk} {r o : Nat} {vs : List Value} {w' : World} (hb : s0.σ[b]? = some old)
  (hput : Put r o vs s0.w w') (hw : ∀ k, o ≤ k → k < o + vs.length → Wr1 s0 b r k)
  (hk : Jhn old blk)
  (hbox : ∀ cs, blk = .box cs → (∀ {x v}, Jr s0 x v → Jr ⟨s0.σ.set b blk, s0.g, w'⟩ x v) → Jm2 ⟨s0.σ.set b blk, s0.g, w'⟩ b cs)
  (harr : ∀ esz rows, blk = .arr true esz rows → (∀ {x v}, JJ s0.w s0.g.C x v → JJ w' s0.g.C x v) → Jm7 ⟨s0.σ.set b blk, s0.g, w'⟩ b true esz rows) :
  Inv ⟨s0.σ.set b blk, s0.g, w'⟩ ∧ JE s0 ⟨s0.σ.set b blk, s0.g, w'⟩ := by
 have hself : (s0.σ.set b blk)[b]? = some blk := J0a hb
 have wr : ∀ b' r o, (Wr1 ⟨s0.σ.set b blk, s0.g, w'⟩ b' r o ↔ Wr1 s0 b' r o) := by
  intro b' r o
  by_cases e : b' = b
  ·subst e
   unfold Wr1
   simp only [hself, hb]
   cases hk with
   | box cs cs' hl => simp [hl]
   | arr esz rows rows' hl => simp
  ·unfold Wr1
   simp only [JD (Ne.symm e)]
 have t : JE s0 ⟨s0.σ.set b blk, s0.g, w'⟩ := by
  refine ⟨hput.keep fun k h1 h2 => ⟨b, hw k h1 h2⟩, fun _ _ h => h, fun _ _ h => .inl h, fun r o ⟨b', h⟩ => .inl ⟨b', (wr b' r o).1 h⟩, by simp, fun b' cs h => ?_, fun b' wm esz rows h => ?_⟩
  ·by_cases e : b' = b
   ·subst e
    rw [hb] at h; injection h with h; subst h
    cases hk with
    | box _ cs' hl => exact ⟨⟨_, hself, hl⟩, rfl⟩
   ·exact ⟨⟨cs, by rw [← h]; exact JD (Ne.symm e), rfl⟩, rfl⟩
  ·by_cases e : b' = b
   ·subst e
    rw [hb] at h; injection h with h; subst h
    cases hk with
    | arr _ _ rows' hl => exact ⟨_, _, hself, id, Nat.le_of_eq hl.symm, fun _ => rfl⟩
   ·exact ⟨wm, rows, by rw [← h]; exact JD (Ne.symm e), id, Nat.le_refl _, fun _ => rfl⟩
 refine ⟨J7j hi t (fun b' => b' = b) (fun b' hne => ⟨JD (Ne.symm hne), rfl⟩) ?_ ?_ ?_ ?_ ?_ ?_ ?_, t⟩
 ·intro b' r' k v hne hwr hv
  refine hput.cell hv ?_
  rcases Nat.lt_or_ge k o with h | h
  ·exact .inr (.inl h)
  ·rcases Nat.lt_or_ge k (o + vs.length) with h' | h'
   ·refine .inl fun e => hne ?_
    subst e
    exact hi.apart _ _ _ _ hwr (hw k h h')
   ·exact .inr (.inr h')
 ·rintro b' cs rfl h
  rw [hself] at h; injection h with h; subst h
  exact hbox _ rfl fun h => h.mono hi t
 ·rintro b' wm esz rows rfl h
  rw [hself] at h; injection h with h; subst h
  cases hk with
  | arr _ _ rows' hl => exact harr _ _ rfl fun h => h.mono hi t
 ·rintro b1 b2 r o rfl h1 h2
  exact hi.apart _ _ _ _ ((wr _ _ _).1 h1) ((wr _ _ _).1 h2)
 ·intro r o hc
  show r < w'.heap.size
  rw [hput.size]; exact (hi.const r o hc).1
 ·rintro r o b' hc rfl h
  exact (hi.const r o hc).2 _ ((wr _ _ _).1 h)
 ·exact fun r o b hc hn => (hn hc).elim
end Go.Am
end
section
namespace Go.Am
theorem J4X {a b n e : Nat} (h1 : a < n) (h2 : b < e) : a * e + b < n * e := by
 have h : (a + 1) * e ≤ n * e := Nat.mul_le_mul_right e h1
 rw [Nat.succ_mul] at h
 omega
theorem Jb {α : Type} {l : List α} {i : Nat} {x : α} (h : l[i]? = some x) : i < l.length := by
 rcases Nat.lt_or_ge i l.length with h' | h'
 ·exact h'
 ·simp [List.getElem?_eq_none h'] at h
theorem JbE {α : Type} {l : Array α} {i : Nat} {x : α} (h : l[i]? = some x) : i < l.size := by
 rcases Nat.lt_or_ge i l.size with h' | h'
 ·exact h'
 ·simp [Array.getElem?_eq_none h'] at h
theorem JV {α : Type} {l : List α} {i : Nat} {x : α} (h : l[i]? = some x) : x ∈ l := List.mem_of_getElem? h
def Frz (σ τ : List Blk) : Prop :=
 (∀ (b : Nat) wm esz rows, σ[b]? = some (Blk.arr wm esz rows) → ∃ wm', τ[b]? = some (Blk.arr wm' esz rows)) ∧
 (∀ (b : Nat) x, σ[b]? = some x → (∀ wm esz rows, x ≠ Blk.arr wm esz rows) → τ[b]? = some x)
theorem Frz.refl (σ) : Frz σ σ := ⟨fun _ wm _ _ h => ⟨wm, h⟩, fun _ _ h _ => h⟩
theorem Frz.trans {a b c} (h : Frz a b) (h' : Frz b c) : Frz a c :=
 ⟨fun n wm esz rows hn => let ⟨wm', h1⟩ := h.1 n wm esz rows hn; h'.1 n wm' esz rows h1, fun n x hn hx => h'.2 n x (h.2 n x hn hx) hx⟩
theorem JpA {s0 : Sn} (hi : Inv s0) {b : Nat} {wm : Bool} {esz : Nat} {rows : List (List PV)} (hb : s0.σ[b]? = some (.arr wm esz rows)) :
  ∃ g', g'.μ = s0.g.μ ∧ Inv ⟨s0.σ.set b (.arr false esz rows), g', s0.w⟩ ∧ JE s0 ⟨s0.σ.set b (.arr false esz rows), g', s0.w⟩ ∧
   Frz s0.σ (s0.σ.set b (.arr false esz rows)) := by
 have hself : (s0.σ.set b (.arr false esz rows))[b]? = some (.arr false esz rows) := J0a hb
 have hfrz : Frz s0.σ (s0.σ.set b (.arr false esz rows)) := by
  refine ⟨fun n wm' esz' rows' hn => ?_, fun n x hn hx => ?_⟩
  ·by_cases e : n = b
   ·subst e; rw [hb] at hn; injection hn with hn; injection hn with h1 h2 h3; subst h2 h3; exact ⟨_, hself⟩
   ·exact ⟨wm', by rw [JD (Ne.symm e)]; exact hn⟩
  ·by_cases e : n = b
   ·subst e; rw [hb] at hn; injection hn with hn; exact (hx _ _ _ hn.symm).elim
   ·rw [JD (Ne.symm e)]; exact hn
 cases wm with
 | false =>
  have hs : s0.σ.set b (.arr false esz rows) = s0.σ := by
   apply List.ext_getElem?
   intro n
   by_cases e : n = b
   ·subst e; rw [hself, hb]
   ·rw [JD (Ne.symm e)]
  refine ⟨s0.g, rfl, ?_, ?_, hfrz⟩
  ·rw [hs]; exact hi
  ·rw [hs]; exact JE.refl s0
 | true =>
  refine ⟨Jhv s0.g fun r o => s0.g.μ b = some (r, 0) ∧ o < rows.length * esz, rfl, ?_⟩
  have wr : ∀ b' r o, Wr1 ⟨s0.σ.set b (.arr false esz rows), Jhv s0.g fun r o => s0.g.μ b = some (r, 0) ∧ o < rows.length * esz, s0.w⟩ b' r o → Wr1 s0 b' r o := by
   intro b' r o h
   by_cases e : b' = b
   ·subst e
    unfold Wr1 at h ⊢
    simp only [hself, hb] at h ⊢
    obtain ⟨o0, m, _⟩ := h
    exact ⟨o0, m⟩
   ·unfold Wr1 at h ⊢
    simp only [JD (Ne.symm e)] at h
    exact h
  have t : JE s0 ⟨s0.σ.set b (.arr false esz rows), Jhv s0.g fun r o => s0.g.μ b = some (r, 0) ∧ o < rows.length * esz, s0.w⟩ := by
   refine ⟨.refl _ _, fun _ _ h => .inl h, fun r o h => ?_, fun r o ⟨b', h⟩ => .inl ⟨b', wr b' r o h⟩, by simp, fun b' cs h => ?_, fun b' wm esz' rows' h => ?_⟩
   ·rcases h with h | ⟨h, _⟩
    ·exact .inl h
    ·refine .inr (.inl ⟨b, ?_⟩)
     unfold Wr1
     rw [hb]
     exact ⟨0, h⟩
   ·refine ⟨⟨cs, hfrz.2 b' _ h (by simp), rfl⟩, rfl⟩
   ·by_cases e : b' = b
    ·subst e; rw [hb] at h; injection h with h; injection h with h1 h2 h3; subst h1 h2 h3
     exact ⟨false, rows, hself, by simp, Nat.le_refl _, fun _ => rfl⟩
    ·exact ⟨wm, rows', by rw [← h]; exact JD (Ne.symm e), id, Nat.le_refl _, fun _ => rfl⟩
  refine ⟨J7j hi t (fun b' => b' = b) (fun b' hne => ⟨JD (Ne.symm hne), rfl⟩) (fun _ _ _ _ _ _ h => h) ?_ ?_ ?_ ?_ ?_ ?_, t, hfrz⟩
  ·rintro b' cs rfl h; rw [hself] at h; cases h
  ·rintro b' wm esz' rows' rfl h
   rw [hself] at h; cases h
   rcases hi.arr _ _ _ _ hb with ⟨m, hr⟩ | ⟨r, c, e, fz, m, hh, hrow, hl, hx, hf⟩
   ·exact .inl ⟨m, hr⟩
   ·refine .inr ⟨r, c, e, fz, m, hh, hrow, hl, fun i j row x hir hjx => ?_, hf⟩
    obtain ⟨⟨v, hv, hr⟩, _⟩ := hx i j row x hir hjx
    refine ⟨⟨v, hv, hr.mono hi t⟩, fun _ => .inr ⟨m, ?_⟩⟩
    have h1 := Jb hir
    have h2 := Jb hjx
    rw [hrow row (JV hir)] at h2
    exact J4X h1 h2
  ·rintro b1 b2 r o rfl h1 h2
   exact hi.apart _ _ _ _ (wr _ _ _ h1) (wr _ _ _ h2)
  ·intro r o hc
   rcases hc with hc | ⟨hc, _⟩
   ·exact (hi.const r o hc).1
   ·rcases hi.arr _ _ _ _ hb with ⟨m, _⟩ | ⟨r', c, e, fz, m, hh, _⟩
    ·rw [m] at hc; cases hc
    ·rw [m] at hc; injection hc with hc; injection hc with hc _; exact hc ▸ J0r hh
  ·rintro r o b' hc rfl h
   rcases hc with hc | ⟨hc, ho⟩
   ·exact (hi.const r o hc).2 _ (wr _ _ _ h)
   ·unfold Wr1 at h
    simp only [hself] at h
    obtain ⟨o0, _, hle⟩ := h
    omega
  ·intro r o b' hc hn hne h
   rcases hc with hc | ⟨hc, ho⟩
   ·exact hn hc
   ·refine hne (hi.apart _ _ r o h ?_)
    unfold Wr1
    rw [hb]
    exact ⟨0, hc⟩
def J6V (s : Sn) (esz : Nat) (rows : List (List PV)) (v : Value) : Prop :=
 ∃ a cap, v = .slice a rows.length cap ∧ rows.length ≤ cap ∧ (∀ row ∈ rows, row.length = esz) ∧
  (rows = [] ∨ ∃ r o, a = some ⟨r, o, none⟩ ∧ ∀ (i j : Nat) row x, rows[i]? = some row → row[j]? = some x → ∃ u, JY s.w r (o + i * esz + j) = some u ∧ JJ s.w s.g.C x u)
theorem J6V.of_sl {s : Sn} {esz rows v} (h : JJ s.w s.g.C (.sl esz rows) v) : J6V s esz rows v := by
 cases h with
 | sl0 _ a cap => exact ⟨a, cap, rfl, Nat.zero_le _, (fun _ h => by cases h), .inl rfl⟩
 | sl _ _ r o cap vals h1 h2 h3 h4 => exact ⟨_, cap, rfl, h1, h2, .inr ⟨r, o, rfl, fun i j row x hr hx => ⟨_, (h3 i j row x hr hx).2, h4 i j row x hr hx⟩⟩⟩
theorem J6V.of_slr {s : Sn} (hi : Inv s) {b i n v wm esz rows} (h : Jr s (.slr b i n) v) (hb : s.σ[b]? = some (.arr wm esz rows)) (e : i + n = rows.length) :
  J6V s esz (rows.drop i) v := by
 cases h with
 | slr _ _ _ _ wm' esz' rows' _ h1 h2 h3 =>
  rw [hb] at h1; injection h1 with h1; injection h1 with a1 a2 a3; subst a1 a2 a3
  have hl : (rows.drop i).length = n := by simp; omega
  rcases h3 e with ⟨m, hi0, hn, hv⟩ | ⟨r, cap, c, e1, fz, m, hv, hcap, hh, hs⟩
  ·subst hi0 hn
   have : rows = [] := by apply List.eq_nil_of_length_eq_zero; omega
   subst this
   exact ⟨none, 0, by simp [hv], by simp, by simp, .inl rfl⟩
  ·rcases hi.arr b wm esz rows hb with ⟨m', _⟩ | ⟨r', c', e', fz', m', hh', hrow, hlen, hx, _⟩
   ·rw [m] at m'; cases m'
   ·rw [m] at m'; injection m' with m'; injection m' with m' _; subst m'
    refine ⟨some ⟨r, i * esz, none⟩, cap, by rw [hl]; exact hv, by omega, fun row hr => hrow row (List.mem_of_mem_drop hr), .inr ⟨r, i * esz, rfl, fun k j row x hk hj => ?_⟩⟩
    rw [List.getElem?_drop] at hk
    obtain ⟨⟨u, hu, hr⟩, _⟩ := hx (i + k) j row x hk hj
    refine ⟨u, ?_, hr⟩
    rw [J1Y hh', ← hu]
    congr 1
    rw [Nat.add_mul]
theorem J6V.mono {s0 s : Sn} (hi : Inv s0) (t : JE s0 s) {esz rows v} (h : J6V s0 esz rows v) (hc : ∀ r o u, JY s0.w r o = some u → JY s.w r o = some u) : J6V s esz rows v := by
 obtain ⟨a, cap, h1, h2, h3, h4⟩ := h
 refine ⟨a, cap, h1, h2, h3, h4.imp id ?_⟩
 rintro ⟨r, o, ha, hx⟩
 exact ⟨r, o, ha, fun i j row x hr hj => let ⟨u, h5, h6⟩ := hx i j row x hr hj; ⟨u, hc _ _ _ h5, h6.mono hi t⟩⟩
theorem Jd0 {s : Sn} {esz : Nat} {rows : List (List PV)} {v : Value} {a : Option Addr} {cap : Nat} (hv : v = .slice a rows.length cap) (hcap : rows.length ≤ cap)
  (hrow : ∀ row ∈ rows, row.length = esz)
  (hx : rows = [] ∨ ∃ r o, a = some ⟨r, o, none⟩ ∧ ∀ (i j : Nat) row x, rows[i]? = some row → row[j]? = some x → s.g.C r (o + i * esz + j) ∧ ∃ u, JY s.w r (o + i * esz + j) = some u ∧ JJ s.w s.g.C x u) :
  JJ s.w s.g.C (.sl esz rows) v := by
 subst hv
 rcases hx with rfl | ⟨r, o, rfl, hx⟩
 ·exact .sl0 _ _ _
 ·refine .sl esz rows r o cap (fun i j => (JY s.w r (o + i * esz + j)).getD .nilFunc) hcap hrow (fun i j row x hr hj => ?_) fun i j row x hr hj => ?_
  ·obtain ⟨h1, u, h2, _⟩ := hx i j row x hr hj
   exact ⟨h1, by simp [h2]⟩
  ·obtain ⟨_, u, h2, h3⟩ := hx i j row x hr hj
   simpa [h2] using h3
theorem Jr7 {s0 : Sn} (hi : Inv s0) {b i n : Nat} {v : Value} {wm : Bool} {esz : Nat} {rows : List (List PV)} (h : Jr s0 (.slr b i n) v) (hb : s0.σ[b]? = some (.arr wm esz rows))
  (e : i + n = rows.length) :
  ∃ g', Inv ⟨s0.σ.set b (.arr false esz rows), g', s0.w⟩ ∧ JE s0 ⟨s0.σ.set b (.arr false esz rows), g', s0.w⟩ ∧
   Frz s0.σ (s0.σ.set b (.arr false esz rows)) ∧ JJ s0.w g'.C (.sl esz (rows.drop i)) v := by
 obtain ⟨g', hμ, hi', t, hf⟩ := JpA hi hb
 refine ⟨g', hi', t, hf, ?_⟩
 have h' := h.mono hi t
 have hb' : (s0.σ.set b (.arr false esz rows))[b]? = some (.arr false esz rows) := J0a hb
 obtain ⟨a, cap, h1, h2, h3, h4⟩ := J6V.of_slr hi' h' hb' e
 refine Jd0 (s := ⟨s0.σ.set b (.arr false esz rows), g', s0.w⟩) h1 h2 h3 (h4.imp id ?_)
 rintro ⟨r, o, rfl, hx⟩
 refine ⟨r, o, rfl, fun k j row x hk hj => ⟨?_, hx k j row x hk hj⟩⟩
 cases h' with
 | slr _ _ _ _ wm' esz' rows' _ q1 q2 q3 =>
  have q1' : (s0.σ.set b (.arr false esz rows))[b]? = some (.arr wm' esz' rows') := q1
  rw [hb'] at q1'; injection q1' with q1'; injection q1' with a1 a2 a3; subst a1 a2 a3
  rcases q3 e with ⟨m, hi0, hn, hv⟩ | ⟨r', cap', c, e1, fz, m, hv, hcap, hh, hs⟩
  ·rw [h1] at hv; simp at hv
  ·rw [h1] at hv; injection hv with v1 v2 v3; injection v1 with v1; injection v1 with v1 v4; subst v1 v4
   rcases hi'.arr b false esz rows hb' with ⟨m', _⟩ | ⟨r', c', e', fz', m', hh', hrow, hlen, hx', _⟩
   ·rw [m] at m'; cases m'
   ·rw [m] at m'; injection m' with m'; injection m' with m' _; subst m'
    rw [List.getElem?_drop] at hk
    have := (hx' (i + k) j row x hk hj).2 rfl
    rw [Nat.add_mul] at this
    exact this
end Go.Am
end
section
namespace Go.Am
theorem J9K {α : Type} {a b : List α} {i : Nat} {x : α} (h : (a ++ b)[i]? = some x) : a[i]? = some x ∨ (a.length ≤ i ∧ b[i - a.length]? = some x) := by
 rw [List.getElem?_append] at h
 split at h
 ·exact .inl h
 ·exact .inr ⟨by omega, h⟩
def Jpe (g : Gh) (wm : Bool) (r lo hi : Nat) : Gh := Jhv g fun r' o => wm = false ∧ r' = r ∧ lo ≤ o ∧ o < hi
theorem Jtj {s0 : Sn} (hi : Inv s0) {b : Nat} {wm : Bool} {esz : Nat} {rows new : List (List PV)} {r : Nat} {vs : List Value} {w' : World}
  (hb : s0.σ[b]? = some (.arr wm esz rows)) (hm : s0.g.μ b = some (r, 0)) (hnew : ∀ row ∈ new, row.length = esz)
  (hput : Put r (rows.length * esz) vs s0.w w') (hlen : vs.length = new.length * esz)
  (hx : ∀ (i j : Nat) row x, new[i]? = some row → row[j]? = some x → ∃ u, vs[i * esz + j]? = some u ∧ JJ s0.w s0.g.C x u) :
  Inv ⟨s0.σ.set b (.arr wm esz (rows ++ new)), Jpe s0.g wm r (rows.length * esz) ((rows.length + new.length) * esz), w'⟩ ∧
  JE s0 ⟨s0.σ.set b (.arr wm esz (rows ++ new)), Jpe s0.g wm r (rows.length * esz) ((rows.length + new.length) * esz), w'⟩ := by
 have hself : (s0.σ.set b (.arr wm esz (rows ++ new)))[b]? = some (.arr wm esz (rows ++ new)) := J0a hb
 have hadd : (rows.length + new.length) * esz = rows.length * esz + new.length * esz := Nat.add_mul _ _ _
 generalize hs : (⟨s0.σ.set b (.arr wm esz (rows ++ new)), Jpe s0.g wm r (rows.length * esz) ((rows.length + new.length) * esz), w'⟩ : Sn) = s
 have hσ : s.σ = s0.σ.set b (.arr wm esz (rows ++ new)) := by rw [← hs]
 have hμ : s.g.μ = s0.g.μ := by rw [← hs]; rfl
 have hC : ∀ r' o, s.g.C r' o ↔ s0.g.C r' o ∨ (wm = false ∧ r' = r ∧ rows.length * esz ≤ o ∧ o < (rows.length + new.length) * esz) := by rw [← hs]; exact fun _ _ => Iff.rfl
 have hw : s.w = w' := by rw [← hs]
 have wr : ∀ b' r' o, Wr1 s b' r' o → Wr1 s0 b' r' o := by
  intro b' r' o h
  by_cases e : b' = b
  ·subst e
   unfold Wr1 at h ⊢
   rw [hσ, hself] at h
   rw [hb]
   cases wm with
   | true => rw [hμ] at h; exact h
   | false =>
    rw [hμ] at h
    obtain ⟨o0, m, hle⟩ := h
    refine ⟨o0, m, Nat.le_trans (Nat.mul_le_mul_right _ ?_) hle⟩
    simp
  ·unfold Wr1 at h ⊢
   rw [hσ, hμ, JD (Ne.symm e)] at h
   exact h
 have wself : ∀ o, rows.length * esz ≤ o → Wr1 s0 b r o := by
  intro o ho
  unfold Wr1
  rw [hb]
  cases wm with
  | true => exact ⟨0, hm⟩
  | false => exact ⟨0, hm, ho⟩
 have t : JE s0 s := by
  refine ⟨?_, fun r o h => (hC r o).2 (.inl h), fun r' o h => ?_, fun r o ⟨b', h⟩ => .inl ⟨b', wr b' r o h⟩, by rw [hσ]; simp, fun b' cs h => ?_, fun b' wm' esz' rows' h => ?_⟩
  ·rw [hw]; exact hput.keep fun k h1 _ => ⟨b, wself k h1⟩
  ·rcases (hC r' o).1 h with h | ⟨_, e, h, _⟩
   ·exact .inl h
   ·subst e; exact .inr (.inl ⟨b, wself o h⟩)
  ·have e : b' ≠ b := by rintro rfl; rw [hb] at h; cases h
   exact ⟨⟨cs, by rw [hσ, JD (Ne.symm e)]; exact h, rfl⟩, by rw [hμ]⟩
  ·by_cases e : b' = b
   ·subst e; rw [hb] at h; injection h with h; injection h with h1 h2 h3; subst h1 h2 h3
    exact ⟨wm, rows ++ new, by rw [hσ]; exact hself, id, by simp, fun _ => by rw [hμ]⟩
   ·exact ⟨wm', rows', by rw [hσ, JD (Ne.symm e)]; exact h, id, Nat.le_refl _, fun _ => by rw [hμ]⟩
 refine ⟨J7j hi t (fun b' => b' = b) (fun b' hne => ⟨by rw [hσ]; exact JD (Ne.symm hne), by rw [hμ]⟩) ?_ ?_ ?_ ?_ ?_ ?_ ?_, t⟩
 ·intro b' r' k v hne hwr hv
  rw [hw]
  refine hput.cell hv ?_
  by_cases er : r' = r
  ·subst er
   rcases Nat.lt_or_ge k (rows.length * esz) with h | h
   ·exact .inr (.inl h)
   ·exact (hne (hi.apart _ _ _ _ hwr (wself k h))).elim
  ·exact .inl er
 ·rintro b' cs rfl h; rw [hσ, hself] at h; cases h
 ·rintro b' wm' esz' rows' rfl h
  rw [hσ, hself] at h; cases h
  obtain ⟨c, e, fz, c', p1, p2, p3, p4, p5, p6⟩ := hput.there
  rcases hi.arr _ _ _ _ hb with ⟨m, _⟩ | ⟨r', c0, e0, fz0, m, hh, hrow, hl, hx0, hf⟩
  ·rw [hm] at m; cases m
  ·rw [hm] at m; injection m with m; injection m with m _; subst m
   rw [p1] at hh; injection hh with hh; injection hh with q1 q2 q3; subst q1 q2 q3
   refine .inr ⟨r, c', e, fz, by rw [hμ]; exact hm, by rw [hw]; exact p2, ?_, ?_, ?_, ?_⟩
   ·intro row hr
    rcases List.mem_append.1 hr with hr | hr
    ·exact hrow row hr
    ·exact hnew row hr
   ·simp only [List.length_append]; rw [hadd]; omega
   ·intro i j row x hir hjx
    rcases J9K hir with hir | ⟨hge, hir⟩
    ·obtain ⟨⟨v, hv, hr⟩, hc⟩ := hx0 i j row x hir hjx
     have h1 := Jb hir
     have h2 := Jb hjx
     rw [hrow row (JV hir)] at h2
     have := J4X h1 h2
     exact ⟨⟨v, by rw [p6 _ (.inl this)]; exact hv, hr.mono hi t⟩, fun e => (hC _ _).2 (.inl (hc e))⟩
    ·obtain ⟨u, hu, hr⟩ := hx _ j row x hir hjx
     have h1 := Jb hir
     have h2 := Jb hjx
     rw [hnew row (JV hir)] at h2
     have h3 := J4X h1 h2
     have h4 : i * esz + j = rows.length * esz + ((i - rows.length) * esz + j) := by
      rw [← Nat.add_assoc, ← Nat.add_mul, Nat.add_sub_cancel' hge]
     refine ⟨⟨u, by rw [h4]; exact p5 _ u hu, hr.mono hi t⟩, fun e => (hC _ _).2 (.inr ⟨e, rfl, by omega, by rw [hadd]; omega⟩)⟩
   ·rw [p3]; exact hf
 ·rintro b1 b2 r o rfl h1 h2
  exact hi.apart _ _ _ _ (wr _ _ _ h1) (wr _ _ _ h2)
 ·intro r' o hc
  rw [hw, hput.size]
  rcases (hC r' o).1 hc with hc | ⟨_, e, _⟩
  ·exact (hi.const r' o hc).1
  ·subst e; exact JcC hi b _ _ (wself _ (Nat.le_refl _))
 ·rintro r' o b' hc rfl h
  rcases (hC r' o).1 hc with hc | ⟨e, er, hlo, hhi⟩
  ·exact (hi.const r' o hc).2 _ (wr _ _ _ h)
  ·subst e er
   unfold Wr1 at h
   rw [hσ, hself] at h
   obtain ⟨o0, _, hle⟩ := h
   simp only [List.length_append] at hle
   omega
 ·intro r' o b' hc hn hne h
  rcases (hC r' o).1 hc with hc | ⟨e, er, hlo, hhi⟩
  ·exact hn hc
  ·subst er
   exact hne (hi.apart _ _ _ o h (wself o hlo))
theorem Jsq {s0 : Sn} (hi : Inv s0) {b : Nat} {wm : Bool} {esz : Nat} {rows new : List (List PV)} {c : Array Value} {e : TypeId} {w' : World}
  (hb : s0.σ[b]? = some (.arr wm esz rows)) (hne : new ≠ []) (hrows : ∀ row ∈ rows, row.length = esz) (hnew : ∀ row ∈ new, row.length = esz)
  (hh : w'.heap = s0.w.heap.push (.cells c e (0, 0))) (ho : w'.os = s0.w.os) (hp : w'.output = s0.w.output)
  (hsize : (rows.length + new.length) * esz ≤ c.size)
  (hx : ∀ (i j : Nat) row x, (rows ++ new)[i]? = some row → row[j]? = some x → ∃ u, c[i * esz + j]? = some u ∧ JJ s0.w s0.g.C x u) :
  ∃ g', g'.μ b = some (s0.w.heap.size, 0) ∧ Inv ⟨s0.σ.set b (.arr wm esz (rows ++ new)), g', w'⟩ ∧ JE s0 ⟨s0.σ.set b (.arr wm esz (rows ++ new)), g', w'⟩ := by
 have hself : (s0.σ.set b (.arr wm esz (rows ++ new)))[b]? = some (.arr wm esz (rows ++ new)) := J0a hb
 refine ⟨⟨fun b' => if b' = b then some (s0.w.heap.size, 0) else s0.g.μ b', fun r o => s0.g.C r o ∨ (wm = false ∧ r = s0.w.heap.size ∧ o < (rows.length + new.length) * esz)⟩, if_pos rfl, ?_⟩
 generalize hs : (⟨s0.σ.set b (.arr wm esz (rows ++ new)), _, w'⟩ : Sn) = s
 have hσ : s.σ = s0.σ.set b (.arr wm esz (rows ++ new)) := by rw [← hs]
 have hμ : ∀ b', s.g.μ b' = if b' = b then some (s0.w.heap.size, 0) else s0.g.μ b' := by rw [← hs]; exact fun _ => rfl
 have hC : ∀ r' o, s.g.C r' o ↔ s0.g.C r' o ∨ (wm = false ∧ r' = s0.w.heap.size ∧ o < (rows.length + new.length) * esz) := by rw [← hs]; exact fun _ _ => Iff.rfl
 have hw : s.w = w' := by rw [← hs]
 have hpos : 0 < new.length := List.length_pos_iff.2 hne
 have wr : ∀ b' r' o, b' ≠ b → (Wr1 s b' r' o ↔ Wr1 s0 b' r' o) := by
  intro b' r' o e
  unfold Wr1
  rw [hσ, hμ, if_neg e, JD (Ne.symm e)]
 have wrb : ∀ r' o, Wr1 s b r' o → r' = s0.w.heap.size ∧ (wm = false → (rows.length + new.length) * esz ≤ o) := by
  intro r' o h
  unfold Wr1 at h
  rw [hσ, hself, hμ, if_pos rfl] at h
  cases wm with
  | true => obtain ⟨o0, m⟩ := h; simp at m; exact ⟨m.1.symm, fun h => by cases h⟩
  | false => obtain ⟨o0, m, hle⟩ := h; simp at m; simp only [List.length_append] at hle; exact ⟨m.1.symm, fun _ => hle⟩
 have t : JE s0 s := by
  refine ⟨?_, fun r o h => (hC r o).2 (.inl h), fun r' o h => ?_, fun r o ⟨b', h⟩ => ?_, by rw [hσ]; simp, fun b' cs h => ?_, fun b' wm' esz' rows' h => ?_⟩
  ·rw [hw]; exact JaY hh ho hp
  ·rcases (hC r' o).1 h with h | ⟨_, h, _⟩
   ·exact .inl h
   ·exact .inr (.inr (Nat.le_of_eq h.symm))
  ·by_cases eb : b' = b
   ·subst eb; exact .inr (Nat.le_of_eq (wrb r o h).1.symm)
   ·exact .inl ⟨b', (wr b' r o eb).1 h⟩
  ·have eb : b' ≠ b := by rintro rfl; rw [hb] at h; cases h
   exact ⟨⟨cs, by rw [hσ, JD (Ne.symm eb)]; exact h, rfl⟩, by rw [hμ, if_neg eb]⟩
  ·by_cases eb : b' = b
   ·subst eb; rw [hb] at h; injection h with h; injection h with h1 h2 h3; subst h1 h2 h3
    exact ⟨wm, rows ++ new, by rw [hσ]; exact hself, id, by simp, fun h => by simp at h; exact (hne h).elim⟩
   ·exact ⟨wm', rows', by rw [hσ, JD (Ne.symm eb)]; exact h, id, Nat.le_refl _, fun _ => by rw [hμ, if_neg eb]⟩
 refine ⟨J7j hi t (fun b' => b' = b) (fun b' hn => ⟨by rw [hσ]; exact JD (Ne.symm hn), by rw [hμ, if_neg hn]⟩) (fun b r o v _ _ h => by rw [hw]; exact JcW hh h) ?_ ?_ ?_ ?_ ?_ ?_, t⟩
 ·rintro b' cs rfl h; rw [hσ, hself] at h; cases h
 ·rintro b' wm' esz' rows' rfl h
  rw [hσ, hself] at h; cases h
  refine .inr ⟨s0.w.heap.size, c, e, (0, 0), by rw [hμ, if_pos rfl], by rw [hw]; exact J3J hh, ?_, by simp only [List.length_append]; exact hsize, ?_, J9W.zero _ _⟩
  ·intro row hr
   rcases List.mem_append.1 hr with hr | hr
   ·exact hrows row hr
   ·exact hnew row hr
  ·intro i j row x hir hjx
   obtain ⟨u, hu, hr⟩ := hx i j row x hir hjx
   refine ⟨⟨u, hu, hr.mono hi t⟩, fun ew => (hC _ _).2 (.inr ⟨ew, rfl, ?_⟩)⟩
   have h1 := Jb hir
   have h2 := Jb hjx
   have h3 : row.length = esz := by
    rcases List.mem_append.1 (JV hir) with hr | hr
    ·exact hrows row hr
    ·exact hnew row hr
   rw [h3] at h2
   simp only [List.length_append] at h1
   exact J4X h1 h2
 ·rintro b1 b2 r o rfl h1 h2
  by_cases eb : b2 = b1
  ·exact eb.symm
  ·have := JcC hi _ _ _ ((wr b2 r o eb).1 h2)
   have := (wrb r o h1).1
   omega
 ·intro r' o hc
  rw [hw, hh]
  rcases (hC r' o).1 hc with hc | ⟨_, hc, _⟩
  ·have := (hi.const r' o hc).1; simp; omega
  ·simp; omega
 ·rintro r' o b' hc rfl h
  have h1 := wrb _ _ h
  rcases (hC r' o).1 hc with hc | ⟨e1, hc, ho⟩
  ·have := (hi.const r' o hc).1; omega
  ·have := h1.2 e1; omega
 ·intro r' o b' hc hn hne h
  rcases (hC r' o).1 hc with hc | ⟨_, hc, _⟩
  ·exact hn hc
  ·have := JcC hi _ _ _ h; omega
end Go.Am
end
