/-
  The abstract machine: its run.
-/
import Derived.Test.YteiakclfpfmigaaAmBase
set_option linter.unusedSimpArgs false
set_option linter.unusedVariables false
namespace Go.Am

def nodupB : List Nat → Bool
  | [] => true
  | x :: r => !(r.contains x) && nodupB r

/-- What some writes leave in block b. -/
def lastW (b : Nat) : List (Nat × Blk) → Option Blk
  | [] => none
  | (c, x) :: r => match lastW b r with
    | some y => some y
    | none => if c = b then some x else none

/-- A block as some writes leave it. -/
def getB (ws : List (Nat × Blk)) (b : Nat) : RM Blk :=
  .blk b fun x => match lastW b ws with
    | some y => .ret y
    | none => .ret x

def extE (ws : List (Nat × Blk)) : List Ent → List Ent → RM (List Ent)
  | [], acc => .ret acc
  | .whole b :: r, acc => (getB ws b).bind fun
    | .box cs => extE ws r (entsOf.entsOfL cs acc)
    | _ => extE ws r acc
  | _ :: r, acc => extE ws r acc

/-- An argument: own arrays become constant. -/
def argR : AV → RM (AV × List (Nat × Blk))
  | .slr b i n => (fz (.slr b i n)).bind fun a => match a.1 with
    | [c] => .ret (.p c, a.2)
    | _ => .fail
  | .agg cs => (fz (.agg cs)).bind fun a => .ret (.data a.1, a.2)
  | .tup _ => .fail
  | v => .ret (v, [])

def argsR : List AV → RM (List AV × List (Nat × Blk))
  | [] => .ret ([], [])
  | x :: r => (argR x).bind fun a => (argsR r).bind fun c => .ret (a.1 :: c.1, a.2 ++ c.2)

def blkIn (ws : List (Nat × Blk)) (ρ : Ent → Option Nat) : Ent → RM Blk
  | .whole b => (getB ws b).bind fun
    | .box cs => match ren.renL ρ cs with
      | some l => .ret (.box l)
      | none => .fail
    | .arr w esz rows => .ret (.arr w esz rows)
    | .dead => .fail
  | .elem b ext i => (getB ws b).bind fun
    | .arr true _ rows => if ext = rows.length then
        match rows[i]? with
        | some row => .ret (.box (row.map .p))
        | none => .fail
      else .fail
    | _ => .fail

def blksIn (ws : List (Nat × Blk)) (ρ : Ent → Option Nat) : List Ent → RM (List Blk)
  | [] => .ret []
  | e :: r => (blkIn ws ρ e).bind fun x => (blksIn ws ρ r).bind fun l => .ret (x :: l)

/-- Back from the callee's names. -/
def bk (es : List Ent) (new : Nat) : AV → Option AV
  | .p c => some (.p c)
  | .data cs => some (.data cs)
  | .cp cs o => some (.cp cs o)
  | .unk => some .unk
  | .ptr k off => if k < es.length then
      match es[k]? with
      | some (.whole b) => some (.ptr b off)
      | some (.elem b e i) => some (.ep b e i off)
      | none => none
    else some (.ptr (new + (k - es.length)) off)
  | .slr k i n => if k < es.length then
      match es[k]? with
      | some (.whole b) => some (.slr b i n)
      | _ => none
    else some (.slr (new + (k - es.length)) i n)
  | .ep k e i off => if k < es.length then
      match es[k]? with
      | some (.whole b) => some (.ep b e i off)
      | _ => none
    else some (.ep (new + (k - es.length)) e i off)
  | .fn f first caps => match bkL es new first, bkL es new caps with
    | some a, some c => some (.fn f a c)
    | _, _ => none
  | .agg cs => match bkL es new cs with
    | some l => some (.agg l)
    | none => none
  | .tup cs => match bkL es new cs with
    | some l => some (.tup l)
    | none => none
where
  bkL (es : List Ent) (new : Nat) : List AV → Option (List AV)
    | [] => some []
    | x :: r => match bk es new x, bkL es new r with
      | some y, some l => some (y :: l)
      | _, _ => none

def blkOut (ws : List (Nat × Blk)) (es : List Ent) (new : Nat) (e : Ent) (x : Blk) : RM (Nat × Blk) :=
  match e, x with
  | .whole b, .box cs => match bk.bkL es new cs with
    | some l => .ret (b, .box l)
    | none => .fail
  | .whole b, .arr w esz rows => .ret (b, .arr w esz rows)
  | .elem b _ i, .box cs => (getB ws b).bind fun
    | .arr w esz rows => match unp cs with
      | some row => .ret (b, .arr w esz (rows.set i row))
      | none => .fail
    | _ => .fail
  | _, _ => .fail

def blksOut (ws : List (Nat × Blk)) (es : List Ent) (new : Nat) : List Ent → List Blk → RM (List (Nat × Blk))
  | [], _ => .ret []
  | e :: r, x :: l => (blkOut ws es new e x).bind fun y => (blksOut ws es new r l).bind fun ys => .ret (y :: ys)
  | _ :: _, [] => .fail

def blksNew (es : List Ent) (new : Nat) : Nat → List Blk → Option (List (Nat × Blk))
  | _, [] => some []
  | k, .box cs :: l => match bk.bkL es new cs, blksNew es new (k + 1) l with
    | some c, some ys => some ((k, .box c) :: ys)
    | _, _ => none
  | k, .arr w esz rows :: l => match blksNew es new (k + 1) l with
    | some ys => some ((k, .arr w esz rows) :: ys)
    | none => none
  | _, .dead :: _ => none

def callR (F : Orc) (f : FuncId) (args : List AV) (k new : Nat) : RM Eff :=
  (argsR args).bind fun a =>
  (extE a.2 (entsOf.entsOfL a.1 []) (entsOf.entsOfL a.1 [])).bind fun es1 =>
  (extE a.2 es1 es1).bind fun es =>
  if nodupB (es.map Ent.id) then
    match ren.renL (fun e => entAt e es 0) a.1 with
    | none => .fail
    | some args' => (blksIn a.2 (fun e => entAt e es 0) es).bind fun blks =>
      match F f args' blks with
      | none => .fail
      | some r => if r.2.length = es.length + k then
          match bk es new r.1, blksNew es new new (r.2.drop es.length) with
          | some v, some fresh => (blksOut a.2 es new es r.2).bind fun back => .ret ⟨v, a.2 ++ back ++ fresh⟩
          | _, _ => .fail
        else .fail
  else .fail

def partsR : List (Nat × Nat × Opd) → RM (List (Nat × Nat × List AV))
  | [] => .ret []
  | (off, size, x) :: r => (ev x).bind fun v => match cellsOf v with
    | some cs => (partsR r).bind fun l => .ret ((off, size, cs) :: l)
    | none => .fail

def opR (F : Orc) (op : AOp) (new : Nat) : RM Eff :=
  match op with
  | .mv x => (ev x).bind fun v => .ret ⟨v, []⟩
  | .mkarr esz _ => .ret ⟨.slr new 0 0, [(new, .arr true esz [])]⟩
  | .pick c a b => (ev c).bind fun
    | .p (.b x) => if x then (ev a).bind fun v => .ret ⟨v, []⟩ else (ev b).bind fun v => .ret ⟨v, []⟩
    | _ => .fail
  | .newbox zero => .ret ⟨.ptr new 0, [(new, .box (zero.map .p))]⟩
  | .box size x => (ev x).bind fun v => match cellsOf v with
    | some cs => if cs.length = size then .ret ⟨.ptr new 0, [(new, .box cs)]⟩ else .fail
    | none => .fail
  | .build zero parts => (partsR parts).bind fun l => match fillAll l (zero.map .p) with
    | some cs => val (ofCells true cs)
    | none => .fail
  | .lits own esz n zero parts => (fzs (parts.map (·.2))).bind fun a =>
    match placeAll esz ((parts.map (·.1)).zip a.1) (List.replicate n zero) with
    | some rows => if own then .ret ⟨.slr new 0 n, a.2 ++ [(new, .arr true esz rows)]⟩ else .ret ⟨.p (.sl esz rows), a.2⟩
    | none => .fail
  | .load agg size x => (ev x).bind fun v => loadR agg size v
  | .store size x y => (ev x).bind fun a => (ev y).bind fun v => storeR size a v
  | .nilchk x => (ev x).bind fun
    | .ptr b o => .ret ⟨.ptr b o, []⟩
    | .cp cs o => .ret ⟨.cp cs o, []⟩
    | .ep b e i o => .ret ⟨.ep b e i o, []⟩
    | .fn f u c => .ret ⟨.fn f u c, []⟩
    | _ => .fail
  | .bin op t x y => (ev x).bind fun a => (ev y).bind fun c => val (binP op t a c)
  | .un op x => (ev x).bind fun a => val (unP op a)
  | .conv k x => (ev x).bind fun a => match k, a with
    | .int k, .p (.i _ n) => .ret ⟨.p (.i k (k.wrap n)), []⟩
    | .same, .p (.s l) => .ret ⟨.p (.s l), []⟩
    | .toStr, a => (rowsOf 1 a).bind fun rows => match bytesOf rows with
      | some l => .ret ⟨.p (.s l), []⟩
      | none => .fail
    | .toBytes own, .p (.s l) => if own then .ret ⟨.slr new 0 l.length, [(new, .arr true 1 (l.map byteRow))]⟩ else .ret ⟨.p (.sl 1 (l.map byteRow)), []⟩
    | _, _ => .fail
  | .mkslice own esz bytes zero l c => (ev l).bind fun a => (ev c).bind fun d => match a, d with
    | .p (.i _ n), .p (.i _ m) =>
      if 0 ≤ n ∧ n ≤ m ∧ bytes * m ≤ 281474976710656 ∧ m ≤ 281474976710656 then
        if own then .ret ⟨.slr new 0 n.toNat, [(new, .arr true esz (List.replicate n.toNat zero))]⟩
        else .ret ⟨.p (.sl esz (List.replicate n.toNat zero)), []⟩
      else .fail
    | _, _ => .fail
  | .slice k x lo hi mx => (ev x).bind fun a => (evo lo).bind fun lo => (evo hi).bind fun hi => (evo mx).bind fun mx =>
    match a with
    | .slr b i n => (fz (.slr b i n)).bind fun y => match y.1 with
      | [c] => match sliceP k (.p c) lo hi mx with
        | some v => .ret ⟨v, y.2⟩
        | none => .fail
      | _ => .fail
    | a => val (sliceP k a lo hi mx)
  | .faddr off x => (ev x).bind fun a => val (faddrP off a)
  | .field agg off size x => (ev x).bind fun a => val (fieldP agg off size a)
  | .iaddr esz x i => (ev x).bind fun a => (ev i).bind fun c => iaddrR esz a c
  | .aaddr len esz x i => (ev x).bind fun a => (ev i).bind fun c => val (aaddrP len esz a c)
  | .sidx x i => (ev x).bind fun a => (ev i).bind fun c => match a, c with
    | .p (.s l), .p (.i _ n) => if 0 ≤ n then
        match l[n.toNat]? with
        | some u => .ret ⟨.p (.i .u8 u.toNat), []⟩
        | none => .fail
      else .fail
    | _, _ => .fail
  | .aidx agg len esz x i => (ev x).bind fun a => (ev i).bind fun c => match c with
    | .p (.i _ n) => if 0 ≤ n ∧ n < len then val (fieldP agg (n.toNat * esz) esz a) else .fail
    | _ => .fail
  | .extr x i => (ev x).bind fun a => val (extrP i a)
  | .call f args k => (evs args).bind fun vs => callR F f vs k new
  | .callv g args k => (ev g).bind fun
    | .fn f first caps => (evs args).bind fun vs => callR F f (first ++ vs ++ caps) k new
    | _ => .fail
  | .len str x => (ev x).bind fun a => val (lenP str a)
  | .alen n => .ret ⟨.p (.i .i64 n), []⟩
  | .appn esz bytes _ y => (ev y).bind fun c => (rowsOf esz c).bind fun rows =>
    if roomy rows.length bytes then .ret ⟨.slr new 0 rows.length, [(new, .arr true esz rows)]⟩ else .fail
  | .app esz bytes _ x y => (ev x).bind fun a => (ev y).bind fun c => appR esz bytes a c
  | .mm mx x y => (ev x).bind fun a => (ev y).bind fun c => val (mmP mx a c)
  | .mkfn f first caps => (evs first).bind fun a => (evs caps).bind fun c => .ret ⟨.fn f a c, []⟩

def newOf : AOp → Nat
  | .newbox _ | .box _ _ | .mkarr _ _ | .appn _ _ _ _ => 1
  | .lits own _ _ _ _ => if own then 1 else 0
  | .mkslice own _ _ _ _ _ => if own then 1 else 0
  | .conv (.toBytes own) _ => if own then 1 else 0
  | .call _ _ k | .callv _ _ k => k
  | _ => 0

/-- The blocks that are kept for an operation are not in use. -/
def deadR (new : Nat) : Nat → RM Unit
  | 0 => .ret ()
  | k + 1 => .blk new fun
    | .dead => deadR (new + 1) k
    | _ => .fail

def opD (F : Orc) (op : AOp) (new : Nat) : RM Eff := (deadR new (newOf op)).bind fun _ => opR F op new

def insR (F : Orc) (i : AIns) (new : Nat) : RM Eff :=
  match i.g with
  | none => opD F i.op new
  | some (g, want) => .slot g fun
    | .p (.b x) => if x = want then opD F i.op new else .ret ⟨undefV, []⟩
    | .tup [] => .ret ⟨undefV, []⟩
    | _ => .fail

def put (d : Option Nat) (e : Eff) (s : St) : St :=
  match d with
  | some d => ⟨(d, e.val) :: s.env, upd e.ws s.sto⟩
  | none => ⟨s.env, upd e.ws s.sto⟩

def runIns (F : Orc) : List AIns → Nat → St → Option St
  | [], _, s => some s
  | i :: r, new, s => match (insR F i new).run s with
    | some e => runIns F r (new + newOf i.op) (put i.dst e s)
    | none => none

/-- Blocks that an operation read, and those that it set. -/
def blksOf : List Loc → List Nat
  | [] => []
  | .blk b :: r => b :: blksOf r
  | _ :: r => blksOf r

abbrev Log := List (List Nat × List Nat)

def runLog (F : Orc) : List AIns → Nat → St → Log → Option (St × Log)
  | [], _, s, l => some (s, l)
  | i :: r, new, s, l => match (insR F i new).run s with
    | some e => runLog F r (new + newOf i.op) (put i.dst e s) (l ++ [(blksOf ((insR F i new).reads s), e.ws.map (·.1))])
    | none => none

def disj (a b : List Nat) : Bool := a.all fun x => !(b.contains x)

def pairsOk (l : Log) : List (Nat × Nat) → Bool
  | [] => true
  | (i, j) :: r => (match l[i]?, l[j]? with
    | some a, some b => disj a.2 b.1 && disj a.2 b.2 && disj a.1 b.2
    | _, _ => false) && pairsOk l r

def news : List AIns → Nat
  | [] => 0
  | i :: r => newOf i.op + news r

def room (n : Nat) (sto : List Blk) : List Blk := if n = 0 then sto else sto ++ List.replicate n .dead

def region (F : Orc) (pairs : List (Nat × Nat)) (ins : List AIns) (s : St) : Option St :=
  match pairs with
  | [] => runIns F ins s.sto.length ⟨s.env, room (news ins) s.sto⟩
  | _ :: _ => match runLog F ins s.sto.length ⟨s.env, room (news ins) s.sto⟩ [] with
    | some (s', l) => if pairsOk l pairs then some s' else none
    | none => none

def restr : List Nat → List (Nat × AV) → List (Nat × AV)
  | [], _ => []
  | k :: r, env => match lk k env with
    | some v => (k, v) :: restr r env
    | none => restr r env

def idxN (b : Nat) : List Nat → Nat → Option Nat
  | [], _ => none
  | x :: r, k => if x = b then some k else idxN b r (k + 1)

/-- Blocks from m on are left behind, but for the listed ones. -/
def fin (m : Nat) (ids : List Nat) (sto : List Blk) : AV → Option AV
  | .p c => some (.p c)
  | .data cs => some (.data cs)
  | .cp cs o => some (.cp cs o)
  | .unk => some .unk
  | .ptr b off => if b < m then some (.ptr b off) else (idxN b ids m).map fun k => .ptr k off
  | .slr b i n => if b < m then some (.slr b i n) else
    match idxN b ids m with
    | some k => some (.slr k i n)
    | none => match sto[b]? with
      | some (.arr _ esz rows) => if i + n = rows.length then some (.p (.sl esz (rows.drop i))) else none
      | _ => none
  | .ep b e i off => if b < m then some (.ep b e i off) else (idxN b ids m).map fun k => .ep k e i off
  | .fn f first caps => match finL m ids sto first, finL m ids sto caps with
    | some a, some c => some (.fn f a c)
    | _, _ => none
  | .agg cs => match finL m ids sto cs with
    | some l => match unp l with
      | some q => some (.data q)
      | none => some (.agg l)
    | none => none
  | .tup cs => match finL m ids sto cs with
    | some l => some (.tup l)
    | none => none
where
  finL (m : Nat) (ids : List Nat) (sto : List Blk) : List AV → Option (List AV)
    | [] => some []
    | x :: r => match fin m ids sto x, finL m ids sto r with
      | some y, some l => some (y :: l)
      | _, _ => none

def finB (m : Nat) (ids : List Nat) (sto : List Blk) : Blk → Option Blk
  | .dead => some .dead
  | .box cs => match fin.finL m ids sto cs with
    | some l => some (.box l)
    | none => none
  | .arr w esz rows => some (.arr w esz rows)

def finBs (m : Nat) (ids : List Nat) (sto : List Blk) : List Blk → Option (List Blk)
  | [] => some []
  | x :: r => match finB m ids sto x, finBs m ids sto r with
    | some y, some l => some (y :: l)
    | _, _ => none

def finE (m : Nat) (sto : List Blk) : List (Nat × AV) → Option (List (Nat × AV))
  | [] => some []
  | (k, x) :: r => match fin m [] sto x, finE m sto r with
    | some y, some l => some ((k, y) :: l)
    | _, _ => none

def clean (n : Nat) (live : List Nat) (s : St) : Option St :=
  if s.sto.length = n then some ⟨restr live s.env, s.sto⟩
  else match finE n s.sto (restr live s.env), finBs n [] s.sto (s.sto.take n) with
    | some e, some l => some ⟨e, l⟩
    | _, _ => none

def resR : List ARes → RM (List AV)
  | [] => .ret []
  | .tmp t :: r => (RM.slot t .ret).bind fun v => (resR r).bind fun l => .ret (v :: l)
  | .cell t agg size :: r => (RM.slot t .ret).bind fun v => (loadR agg size v).bind fun e => (resR r).bind fun l => .ret (e.val :: l)

/-- Which own blocks go out: boxes, and arrays where the function hands them on. -/
def outIds (m : Nat) (fresh : Bool) (sto : List Blk) : List Ent → List Nat
  | [] => []
  | .whole b :: r => if b < m then outIds m fresh sto r else
    match sto[b]? with
    | some (.box _) => b :: outIds m fresh sto r
    | some (.arr _ _ _) => if fresh then b :: outIds m fresh sto r else outIds m fresh sto r
    | _ => outIds m fresh sto r
  | _ :: r => outIds m fresh sto r

def entsB (sto : List Blk) : List Ent → List Ent → List Ent
  | [], acc => acc
  | .whole b :: r, acc => match sto[b]? with
    | some (.box cs) => entsB sto r (entsOf.entsOfL cs acc)
    | _ => entsB sto r acc
  | _ :: r, acc => entsB sto r acc

def pickB (sto : List Blk) : List Nat → Option (List Blk)
  | [] => some []
  | b :: r => match sto[b]?, pickB sto r with
    | some x, some l => some (x :: l)
    | _, _ => none

def one : List AV → AV
  | [x] => x
  | l => .tup l

def finish (fn : AFn) (m : Nat) (s : St) : Option Res :=
  match (resR fn.res).run s with
  | none => none
  | some vs =>
    if s.sto.length = m then some (one vs, s.sto)
    else
      match outIds m fn.fresh s.sto (entsB s.sto (entsOf.entsOfL vs []) (entsOf.entsOfL vs [])) with
      | ids => if nodupB ids then
          match fin.finL m ids s.sto vs, finBs m ids s.sto (s.sto.take m), pickB s.sto ids with
          | some ws, some l, some q => match finBs m ids s.sto q with
            | some q' => some (one ws, l ++ q')
            | none => none
          | _, _, _ => none
        else none

def enum : Nat → List AV → List (Nat × AV)
  | _, [] => []
  | k, x :: r => (k, x) :: enum (k + 1) r

/-- A function whose code parts at one test, of which the value may be unknown; both ways are taken to their end. -/
structure FkFn where
  np : Nat
  nt : Nat
  p0 : ACode
  live : List Nat
  pre : ACode
  c : Opd
  a : ACode
  b : ACode
  rest : ACode
  res : List ARes
  fresh : Bool

def FkFn.af (k : FkFn) : AFn := ⟨k.np, k.nt, .seq k.p0 (.br k.live k.pre k.c k.a k.b k.rest), k.res, k.fresh⟩

def fend (f : AFn) (m : Nat) (o : Option Out) : Option Res :=
  match o with
  | some (.normal, s) => finish f m s
  | some (.ret, s) => finish f m s
  | _ => none

open Classical in
noncomputable def sameR (a b : Option Res) : Option Res :=
  match a, b with
  | some r, some r' => if r = r' then some r else none
  | _, _ => none

def thn (o : Option Out) (k : St → Option Out) : Option Out :=
  match o with
  | some (.normal, s) => k s
  | o => o

noncomputable def callK (R : ACode → St → Option Out) (k : FkFn) (args : List AV) (blks : List Blk) : Option Res :=
  match R k.p0 ⟨enum 0 args, blks⟩ with
  | some (.normal, s0) => match R k.pre s0 with
    | some (.normal, s1) => match (ev k.c).run s1 with
      | some (.p (.b x)) => if x = true then fend k.af blks.length (thn (R k.a s1) fun s => R k.rest s) else fend k.af blks.length (thn (R k.b s1) fun s => R k.rest s)
      | some .unk => sameR (fend k.af blks.length (thn (R k.a s1) fun s => R k.rest s)) (fend k.af blks.length (thn (R k.b s1) fun s => R k.rest s))
      | _ => none
    | _ => none
  | _ => none

inductive Entry where
  | fn (f : AFn)
  | prim (g : List AV → List Blk → Option Res)
  | fork (k : FkFn)

abbrev Tabl := FuncId → Option Entry

noncomputable def callT (T : Tabl) (R : ACode → St → Option Out) (f : FuncId) (args : List AV) (blks : List Blk) : Option Res :=
  match T f with
  | none => none
  | some (.prim g) => g args blks
  | some (.fork k) => if args.length = k.np then callK R k args blks else none
  | some (.fn fn) =>
    if args.length = fn.np then
      match R fn.body ⟨enum 0 args, blks⟩ with
      | some (.normal, s) => finish fn blks.length s
      | some (.ret, s) => finish fn blks.length s
      | _ => none
    else none

open Classical in
noncomputable def same (a b : Option Out) : Option Out :=
  match a, b with
  | some r, some r' => if r = r' then some r else none
  | _, _ => none

/-- A run's end, of which some slots are wanted alone. -/
def cleanO (n : Nat) (live : List Nat) (o : Option Out) : Option Out :=
  match o with
  | some (e, s) => match clean n live s with
    | some s' => some (e, s')
    | none => none
  | none => none

noncomputable def step (T : Tabl) (R : ACode → St → Option Out) (c : ACode) (s : St) : Option Out :=
  match c with
  | .skip => some (.normal, s)
  | .reg _ pairs ins => match region (callT T R) pairs ins s with
    | some s' => some (.normal, s')
    | none => none
  | .seq a b => match R a s with
    | some (.normal, s') => R b s'
    | o => o
  | .cond c a b => match (ev c).run s with
    | some (.p (.b x)) => if x = true then R a s else R b s
    | some .unk => same (R a s) (R b s)
    | _ => none
  | .block id c => match R c s with
    | some (.exit k, s') => if k = id then some (.normal, s') else some (.exit k, s')
    | o => o
  | .loop live c => match clean s.sto.length live s with
    | some s' => R (.lp s.sto.length live c) s'
    | none => none
  | .lp n live c => match R c s with
    | some (.normal, s') => (match clean n live s' with
      | some s'' => R (.lp n live c) s''
      | none => none)
    | o => o
  | .scope c => R c s
  | .exit id => some (.exit id, s)
  | .ret => some (.ret, s)
  | .keep live c => R c ⟨restr live s.env, s.sto⟩
  | .tidy live c => cleanO s.sto.length live (R c s)
  | .br live pre c a b rest => match R pre s with
    | some (.normal, s1) => (match (ev c).run s1 with
      | some (.p (.b x)) => if x = true then thn (R a s1) fun s => R rest s else thn (R b s1) fun s => R rest s
      | some .unk => same (cleanO s1.sto.length live (thn (R a s1) fun s => R rest s)) (cleanO s1.sto.length live (thn (R b s1) fun s => R rest s))
      | _ => none)
    | _ => none

end Go.Am
