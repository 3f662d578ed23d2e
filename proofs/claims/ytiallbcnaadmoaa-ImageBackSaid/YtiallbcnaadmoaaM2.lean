/-
  Parts of a proof.
-/
import Derived.Laws.StructEq
import Derived.Laws.Cells
import Derived.Test.YtiallbcnaadmoaaM1
set_option linter.unusedSimpArgs false
set_option linter.unusedVariables false
section
namespace Go.Am
def okP : PV → Value → Bool
 | .b x, .bool y => x == y
 | .i k n, .int k' n' => k == k' && n == n'
 | .s l, .string ba => l == ba.data.toList
 | .sl _ [], .slice none 0 0 => true
 | .np, .pointer none => true
 | .nf, .nilFunc => true
 | _, _ => false
def JhX : List PV → List Value → Bool
 | [], [] => true
 | x :: xs, v :: vs => okP x v && JhX xs vs
 | _, _ => false
def okC : AV → Value → Bool
 | .p c, v => okP c v
 | .data cs, .agg vs => JhX cs vs.toList
 | .fn f [] [], .func (.func g) a c => f == g && a.isEmpty && c.isEmpty
 | .tup [], .tuple vs => vs.isEmpty
 | _, _ => false
def J0J : Opd → Operand → Bool
 | .t n, .tmp m => n == m
 | .c x, .const v => okC x v
 | .c (.fn f [] []), .func g => f == g
 | _, _ => false
def J6L : List Opd → List Operand → Bool
 | [], [] => true
 | x :: xs, y :: ys => J0J x y && J6L xs ys
 | _, _ => false
def JcJ : Option Opd → Option Operand → Bool
 | none, none => true
 | some x, some y => J0J x y
 | _, _ => false
section
variable (P : Program)
def szT (t : TypeId) : Option Nat := (P.info? t).map (·.size)
def byT (t : TypeId) : Option Nat := (P.info? t).map (·.bytes)
def zeT (t : TypeId) : Option Value := (P.info? t).bind (·.zero)
def Jce : TypeDesc → Bool
 | .struct _ | .array _ _ => true
 | _ => false
def agT (t : TypeId) : Option Bool := (P.underlying t).map Jce
def elT (t : TypeId) : Option TypeId := match P.underlying t with
 | some (.slice e) => some e
 | _ => none
def J71 (t : TypeId) : Bool := match P.underlying t with
 | some .string => true
 | _ => false
def Jpj (t : TypeId) : Bool := match P.underlying t with
 | some (.int .u8) => true
 | _ => false
def JjN (t : TypeId) : Bool := match P.underlying t with
 | some .bool => true
 | _ => false
def Jpo (t : TypeId) : Bool := match P.underlying t with
 | some (.int _) => true
 | _ => false
def JmG (k : IntKind) (t : TypeId) : Bool := match P.underlying t with
 | some (.int k') => k == k'
 | _ => false
def arT (t : TypeId) : Option (Nat × TypeId) := match P.underlying t with
 | some (.array n e) => some (n, e)
 | _ => none
def flT (t : TypeId) : Option (Array Field) := match P.underlying t with
 | some (.struct fs) => some fs
 | _ => none
def Jdg (K : TypeId → Option (List KD)) : Nat → List Field → Option (List KD)
 | _, [] => some []
 | off, f :: fs =>
  if f.name = "_" ∨ f.offset ≠ off then none
  else match K f.type with
   | none => none
   | some ks => if szT P f.type = some ks.length ∧ 0 < ks.length then
     match Jdg K (off + ks.length) fs with
     | some l => some (ks ++ l)
     | none => none
    else none
def J9j : Nat → TypeId → Option (List KD)
 | 0, _ => none
 | d + 1, t => match P.underlying t with
  | some .bool => some [.b]
  | some (.int k) => some [.i k]
  | some .string => some [.s]
  | some (.struct fs) => if P.stoodInHeld t then none else Jdg P (J9j d) 0 fs.toList
  | some (.array n e) => match J9j d e with
   | some ks => if szT P e = some ks.length ∧ 0 < ks.length then some (List.replicate n ks).flatten else none
   | none => none
  | _ => none
def Jvx (t : TypeId) : Operand → Bool
 | .const (.slice none 0 0) => (elT P t).isSome
 | _ => false
def Jtg (t : TypeId) : Operand → Bool
 | .const (.pointer none) => (match P.underlying t with | some (.pointer _) => true | _ => false)
 | _ => false
def Jvk (t : TypeId) : Operand → Bool
 | .const .nilFunc => (match P.underlying t with | some (.func _ _ _) => true | _ => false)
 | _ => false
def Ja3 (zero : List PV) (t : TypeId) : Bool := match zeT P t with
 | some v => JhX zero v.cells.toList
 | none => false
def Jm6 (t : TypeId) (os : List (Nat × Nat)) : Bool := match zeT P t with
 | some v => os.all fun x => match v.cells[x.1]? with
  | some (.slice none 0 0) => true
  | _ => false
 | none => false
def J6P (place : Nat → Option (Nat × Nat)) : List (Nat × Nat × Opd) → List (Nat × Operand) → Bool
 | [], [] => true
 | (off, size, x) :: r, (i, y) :: q => place i == some (off, size) && J0J x y && J6P place r q
 | _, _ => false
def JbK (fs : Array Field) (i : Nat) : Option (Nat × Nat) := match fs[i]? with
 | some f => (szT P f.type).map fun n => (f.offset, n)
 | none => none
def Jdj : List (Nat × Opd) → List (Nat × Operand) → Bool
 | [], [] => true
 | (i, x) :: r, (j, y) :: q => i == j && J0J x y && Jdj r q
 | _, _ => false
def JA (ao : AOp) (op : Op) : Bool :=
 match ao with
 | .mv x => match op with
  | .move y | .assign y => J0J x y
  | _ => false
 | .mkarr _ x => match op with
  | .move (.const (.slice none 0 0)) | .assign (.const (.slice none 0 0)) => (match x with | .c _ => true | _ => false)
  | _ => false
 | .pick c a b => match op with
  | .pick c' a' b' => J0J c c' && J0J a a' && J0J b b'
  | _ => false
 | .newbox zero => match op with
  | .alloc t => Ja3 P zero t
  | _ => false
 | .box _ x => match op with
  | .box _ y => J0J x y
  | _ => false
 | .build zero parts => match op with
  | .build t ps => Ja3 P zero t && (match P.underlying t with
   | some (.struct fs) => (fs.all fun f => (szT P f.type).isSome) && J6P (JbK P fs) parts ps.toList
   | some (.array _ e) => (match szT P e with
    | some n => J6P (fun i => some (i * n, n)) parts ps.toList
    | none => false)
   | _ => false)
  | _ => false
 | .lits _ esz n zero parts => match op with
  | .buildSlice t len ps => len == n && (match elT P t with
   | some e => szT P e == some esz && decide (n * esz ≤ 16777216) && Ja3 P zero e && zero.length == esz && decide (0 < esz) && Jdj parts ps.toList
   | none => false)
  | _ => false
 | .load agg size x => match op with
  | .load t y => agT P t == some agg && szT P t == some size && J0J x y && (agg || size == 1)
  | _ => false
 | .store size x v => match op with
  | .store t y u => szT P t == some size && J0J x y && J0J v u
  | _ => false
 | .nilchk x => match op with
  | .nilCheck y => J0J x y
  | _ => false
 | .bin bo bt x y => match op with
  | .binOp bo' t x' y' _ => bo == bo' && J0J x x' && (match bt with
   | .plain => J0J y y'
   | .bool => J0J y y' && JjN P t
   | .flat ks => J0J y y' && J9j P 100 t == some ks && agT P t == some true && !P.eqGuardType P.depth t
   | .nils => Jvx P t y'
   | .nilp => Jtg P t y'
   | .nilf => Jvk P t y')
  | _ => false
 | .un uo x => match op with
  | .unOp uo' _ y => uo == uo' && J0J x y
  | _ => false
 | .conv k x => match op with
  | .convert src dst y => J0J x y && (match k with
   | .int k => Jpo P src && JmG P k dst
   | .same => J71 P src && J71 P dst
   | .toStr => (match elT P src with | some e => Jpj P e && szT P e == some 1 | none => false) && J71 P dst
   | .toBytes _ => J71 P src && (match elT P dst with | some e => Jpj P e && szT P e == some 1 | none => false))
  | _ => false
 | .mkslice _ esz bytes zero l c => match op with
  | .makeSlice t l' c' => J0J l l' && J0J c c' && (match elT P t with
   | some e => szT P e == some esz && byT P e == some bytes && Ja3 P zero e && zero.length == esz && decide (0 < esz) && decide (0 < bytes)
   | none => false)
  | _ => false
 | .slice k x lo hi mx => match op with
  | .slice t x' lo' hi' mx' => J0J x x' && JcJ lo lo' && JcJ hi hi' && JcJ mx mx' && (match k with
   | .str => J71 P t
   | .sl esz => (match elT P t with | some e => szT P e == some esz | none => false))
  | _ => false
 | .faddr off x => match op with
  | .fieldAddr t y f => J0J x y && (match flT P t with
   | some fs => (match fs[f]? with
    | some f => f.offset == off && (match szT P f.type with | some n => n != 0 | none => false)
    | none => false)
   | none => false)
  | _ => false
 | .field agg off size x => match op with
  | .field t y f => J0J x y && (match flT P t with
   | some fs => (match fs[f]? with
    | some f => f.offset == off && szT P f.type == some size && agT P f.type == some agg && (agg || size == 1)
    | none => false)
   | none => false)
  | _ => false
 | .iaddr esz x i => match op with
  | .indexAddr t y j => J0J x y && J0J i j && (match elT P t with | some e => szT P e == some esz | none => false)
  | _ => false
 | .aaddr len esz x i => match op with
  | .indexAddr t y j => J0J x y && J0J i j && (match arT P t with | some (n, e) => n == len && szT P e == some esz | none => false)
  | _ => false
 | .sidx x i => match op with
  | .index t y j => J0J x y && J0J i j && J71 P t
  | _ => false
 | .aidx agg len esz x i => match op with
  | .index t y j => J0J x y && J0J i j && (match arT P t with | some (n, e) => n == len && szT P e == some esz && agT P e == some agg && (agg || esz == 1) | none => false)
  | _ => false
 | .extr x i => match op with
  | .extract y j => J0J x y && i == j
  | _ => false
 | .call f args _ => match op with
  | .call c => (match c.callee with
   | .value (.func g) => f == g && J6L args c.args.toList
   | _ => false)
  | _ => false
 | .callv x args _ => match op with
  | .call c => (match c.callee with
   | .value y => J0J x y && J6L args c.args.toList
   | _ => false)
  | _ => false
 | .len str x => match op with
  | .call c => (match c.callee with
   | .builtin .len => (match c.args.toList, c.argTypes.toList with
    | [y], [t] => J0J x y && (if str then J71 P t else (elT P t).isSome)
    | _, _ => false)
   | _ => false)
  | _ => false
 | .alen n => match op with
  | .call c => (match c.callee with
   | .builtin .len => (match c.args.toList, c.argTypes.toList with
    | [_], [t] => (match P.underlying t with
     | some (.array m _) => m == n
     | some (.pointer a) => (match arT P a with | some (m, _) => m == n | none => false)
     | _ => false)
    | _, _ => false)
   | _ => false)
  | _ => false
 | .appn esz bytes zero y => match op with
  | .call c => (match c.callee with
   | .builtin .append => (match c.args.toList, c.argTypes.toList with
    | [.const (.slice none 0 0), y'], [t, u] => J0J y y' && ((elT P u).isSome || J71 P u) && (match elT P t with
     | some e => szT P e == some esz && byT P e == some bytes && Ja3 P zero e && zero.length == esz && decide (0 < esz) && decide (0 < bytes)
     | none => false)
    | _, _ => false)
   | _ => false)
  | _ => false
 | .app esz bytes zero x y => match op with
  | .call c => (match c.callee with
   | .builtin .append => (match c.args.toList, c.argTypes.toList with
    | [x', y'], [t, u] => J0J x x' && J0J y y' && ((elT P u).isSome || J71 P u) && (match elT P t with
     | some e => szT P e == some esz && byT P e == some bytes && Ja3 P zero e && zero.length == esz && decide (0 < esz) && decide (0 < bytes)
     | none => false)
    | _, _ => false)
   | _ => false)
  | _ => false
 | .appc esz bytes zero x y => match op with
  | .call c => (match c.callee with
   | .builtin .append => (match c.args.toList, c.argTypes.toList with
    | [x', y'], [t, u] => J0J x x' && J0J y y' && ((elT P u).isSome || J71 P u) && (match elT P t with
     | some e => szT P e == some esz && byT P e == some bytes && Ja3 P zero e && zero.length == esz && decide (0 < esz) && decide (0 < bytes)
     | none => false)
    | _, _ => false)
   | _ => false)
  | _ => false
 | .appz esz bytes zero x y => match op with
  | .call c => (match c.callee with
   | .builtin .append => (match c.args.toList, c.argTypes.toList with
    | [x', y'], [t, u] => J0J x x' && J0J y y' && (match P.underlying u with
     | some (.int _) => true
     | _ => false) && (match elT P t with
     | some e => szT P e == some esz && byT P e == some bytes && Ja3 P zero e && zero.length == esz && decide (0 < esz) && decide (0 < bytes)
     | none => false)
    | _, _ => false)
   | _ => false)
  | _ => false
 | .mm mx x y => match op with
  | .call c => (match c.callee with
   | .builtin b => b == (if mx then .max else .min) && (match c.args.toList with
    | [x', y'] => J0J x x' && J0J y y'
    | _ => false)
   | _ => false)
  | _ => false
 | .newboxo zero os => match op with
  | .alloc t => Ja3 P zero t && Jm6 P t os
  | _ => false
 | .buildo zero parts os => match op with
  | .build t ps => Ja3 P zero t && Jm6 P t os && (match P.underlying t with
   | some (.struct fs) => (fs.all fun f => (szT P f.type).isSome) && J6P (JbK P fs) parts ps.toList
   | _ => false)
  | _ => false
 | .storen _ x => match op with
  | .store t y (.const (.slice none 0 0)) => szT P t == some 1 && J0J x y
  | _ => false
 | .callo f _ args _ => match op with
  | .call c => (match c.callee with
   | .value (.func g) => f == g && J6L args c.args.toList
   | _ => false)
  | _ => false
 | .mkfn f first caps => match op with
  | .makeFunc (.func g) first' caps' => f == g && J6L first first'.toList && J6L caps caps'.toList
  | _ => false
end
end Go.Am
end
