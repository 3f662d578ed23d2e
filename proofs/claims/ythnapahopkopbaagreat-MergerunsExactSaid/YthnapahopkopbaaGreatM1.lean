/-
  Parts of a proof.
-/
import Derived.Calls
import Derived.LoopN
import Derived.KernelRfl
import Derived.Laws.Sem
import Derived.Laws.StructEq
import Derived.Laws.Cells
import Derived.Laws.Cover3
import Derived.Laws.Pointers
import Derived.Deep.AppendSrc
import Derived.Laws.MakeOwn
import Derived.Laws.BytesString
import Derived.DeepKeys
set_option linter.unusedSimpArgs false
set_option linter.unusedVariables false
section
namespace Go.Am
abbrev zQ0:= @Nat.le_refl
abbrev zQ1:= @Nat.lt_or_ge
abbrev zQ2:= @Nat.le_trans
abbrev zQ3:= @List.getElem?_eq_none
abbrev zQ4:= @Nat.le_of_eq
abbrev zQ5:= @Nat.zero_le
abbrev zQ6:= @Nat.zero_add
abbrev zQ7:= @Nat.mul_le_mul_right
abbrev zQ8:= @Nat.succ_mul
abbrev zQ9:= @List.mem_of_getElem?
abbrev JmG:= @List.ext_getElem?
abbrev JCB:= @List.mem_of_mem_drop
abbrev J8v:= @List.getElem?_drop
abbrev J3H:= @Nat.add_mul
abbrev J1Q:= @List.mem_append
abbrev J8q:= @List.length_append
abbrev Jbe:= @Nat.add_assoc
abbrev JY:= @Bool.and_eq_true
abbrev JLE:= @Array.getD_eq_getD_getElem?
abbrev J5i:= @Sem.run_bind
abbrev J59:= @Result.andThen_ok
abbrev J62:= @Option.map_eq_some_iff
abbrev JHp:= @Option.isSome_iff_exists
abbrev J9k:= @Sem.run_pure
abbrev J7w:= @Nat.add_zero
abbrev J9Q:= @Array.ext'
abbrev J5h:= @Bool.false_eq_true
abbrev JDL:= @Array.getElem?_toList
abbrev J8u:= @List.flatten_cons
abbrev J29:= @List.getElem?_map
abbrev JjZ:= @List.getElem?_range
abbrev JF:= @List.getElem?_eq_getElem
abbrev Jdi:= @List.getElem?_take
abbrev JH5:= @List.length_eq_one_iff
abbrev JDv:= @List.mem_of_mem_take
abbrev J6x:= @List.getElem?_of_mem
abbrev J4i:= @List.mem_map
abbrev J7D:= @List.append_assoc
abbrev J6Y:= @List.getElem?_append_right
abbrev J6Z:= @List.getElem?_append_left
abbrev Jrg:= @Nat.one_mul
abbrev Jvh:= @List.mem_or_eq_of_mem_set
abbrev Jnp:= @List.getElem?_set_self
abbrev JjD:= @List.getElem?_set_ne
abbrev Jrb:= @List.length_cons
abbrev JDt:= @Array.all_eq_true_iff_forall_mem
abbrev JjJ:= @List.length_replicate
abbrev Jr5:= @Nat.zero_mul
abbrev J1M:= @List.length_map
abbrev JAO:= @Nat.eq_zero_or_pos
abbrev Jn0:= @List.drop_zero
abbrev Jox:= @Array.getElem?_append_left
abbrev JH0:= @Array.getElem?_eq_some_iff
abbrev Jjt:= @Array.getElem?_eq_getElem
abbrev Jrw:= @Nat.mul_comm
abbrev J1o:= @Option.map_some
abbrev JJ:= @Option.bind_some
abbrev Jbd:= @List.nil_append
abbrev JdO:= @List.cons_append
abbrev J6W:= @List.length_take
abbrev J9m:= @List.length_drop
abbrev JjT:= @List.drop_drop
abbrev J0I:= @List.map_cons
abbrev J2A:= @List.mem_cons
abbrev Jw6:= @Bool.not_eq_true'
abbrev Jjs:= @Nat.sub_zero
abbrev J2s:= @Option.bind_eq_some_iff
abbrev J9p:= @List.map_append
abbrev Jre:= @List.all_eq_true
abbrev JjM:= @List.mem_cons_of_mem
abbrev JvQ:= @Bool.or_eq_true
abbrev JuT:= @List.getElem?_take_of_lt
abbrev Juo:= @Option.getD_some
abbrev Jou:= @List.take_append_drop
abbrev JrP:= @List.map_take
abbrev JLD:= @List.drop_length_add_append
abbrev J5f:= @List.getElem?_eq_some_iff
abbrev Jrv:= @List.map_replicate
abbrev J52:= @List.append_nil
abbrev J7E:= @List.map_map
abbrev JvG:= @List.map_congr_left
abbrev JqU:= @List.mem_singleton
abbrev JHV:= @List.take_succ_cons
abbrev Jde:= @Int.le_trans
abbrev Jej:= @List.getElem_mem
abbrev J0D:= @Int.le_refl
abbrev JgI:= @List.mem_iff_getElem?
abbrev JAC:= @Nat.pow_le_pow_right
abbrev JHT:= @List.length_flatten
theorem _root_.And.c{h g e:Prop}(x:h/\g/\e):e:=x.2.2
theorem _root_.And.d{g h j e:Prop}(x:g/\h/\j/\e):e:=x.2.2.2
theorem _root_.And.e{j k n h g:Prop}(x:j/\k/\n/\h/\g):g:=x.2.2.2.2
theorem _root_.And.g{j n o h k e:Prop}(x:j/\n/\o/\h/\k/\e):e:=x.2.2.2.2.2
theorem _root_.And.h{j n q g k o e:Prop}(x:j/\n/\q/\g/\k/\o/\e):e:=x.2.2.2.2.2.2
theorem _root_.And.i{h k o g j n q e:Prop}(x:h/\k/\o/\g/\j/\n/\q/\e):e:=x.2.2.2.2.2.2.2
theorem _root_.And.j{h n r g k q v o e:Prop}(x:h/\n/\r/\g/\k/\q/\v/\o/\e):e:=x.2.2.2.2.2.2.2.2
theorem _root_.And.k{h n r g j q w o v e:Prop}(x:h/\n/\r/\g/\j/\q/\w/\o/\v/\e):e:=x.2.2.2.2.2.2.2.2.2
inductive PV where
 |b (x:Bool)
 |i (k:IntKind) (n:Int)
 |s (l:List UInt8)
 |sl (esz:Nat) (rows:List (List PV))
 |np
 |nf
 |slc (esz:Nat) (rows:List (List PV))
 deriving Inhabited
inductive AV where
 |p (c:PV)
 |data (cs:List PV)
 |agg (cs:List AV)
 |tup (vs:List AV)
 |ptr (b off:Nat)
 |cp (cs:List PV) (off:Nat)
 |slr (b i n:Nat)
 |ep (b ext i off:Nat)
 |fn (f:FuncId) (first caps:List AV)
 |unk
 deriving Inhabited
inductive Blk where
 |dead
 |box (cs:List AV)
 |arr (w:Bool) (esz:Nat) (rows:List (List PV))
 deriving Inhabited
abbrev Res:=AV×List Blk
abbrev Orc:=FuncId->List AV->List Blk->Option Res
structure St where
 env:List (Nat×AV)
 sto:List Blk
def lk(n:Nat):List (Nat×AV)->Option AV
 |[]=>none
 |(m,v)::r=>if n=m then some v else lk n r
inductive RM(α:Type) where
 |ret (a:α)
 |slot (n:Nat) (k:AV->RM α)
 |blk (b:Nat) (k:Blk->RM α)
 |fail
def RM.bind{α β:Type}:RM α->(α->RM β)->RM β
 | .ret a,f=>f a
 | .slot n k,f=>.slot n λv=>(k v).bind f
 | .blk b k,f=>.blk b λv=>(k v).bind f
 | .fail,_=>.fail
def RM.run{α:Type}:RM α->St->Option α
 | .ret a,_=>some a
 | .slot n k,s=>match lk n s.env with
   |some v=>(k v).run s
   |none=>none
 | .blk b k,s=>match s.sto[b]? with
   |some v=>(k v).run s
   |none=>none
 | .fail,_=>none
inductive Loc where
 |slot (n:Nat)
 |blk (b:Nat)
 deriving DecidableEq
def RM.reads{α:Type}:RM α->St->List Loc
 | .ret _,_=>[]
 | .slot n k,s=>.slot n::match lk n s.env with
   |some v=>(k v).reads s
   |none=>[]
 | .blk b k,s=>.blk b::match s.sto[b]? with
   |some v=>(k v).reads s
   |none=>[]
 | .fail,_=>[]
def RM.of{α:Type}:Option α->RM α
 |some a=>.ret a
 |none=>.fail
inductive Opd where
 |t (n:Nat)
 |c (x:AV)
 deriving Inhabited
inductive KD where
 |b
 |i (k:IntKind)
 |s
 deriving DecidableEq
inductive BT where
 |plain
 |bool
 |flat (ks:List KD)
 |nils
 |nilp
 |nilf
 deriving DecidableEq
inductive CK where
 |int (k:IntKind)
 |same
 |toStr
 |toBytes (own:Bool)
 deriving DecidableEq
inductive SK where
 |str
 |sl (esz:Nat)
 deriving DecidableEq
inductive AOp where
 |mv (x:Opd)
 |mkarr (esz:Nat) (x:Opd)
 |pick (c a b:Opd)
 |newbox (zero:List PV)
 |box (size:Nat) (x:Opd)
 |build (zero:List PV) (parts:List (Nat×Nat×Opd))
 |lits (own:Bool) (esz n:Nat) (zero:List PV) (parts:List (Nat×Opd))
 |load (agg:Bool) (size:Nat) (x:Opd)
 |store (size:Nat) (x v:Opd)
 |nilchk (x:Opd)
 |bin (op:BinOp) (t:BT) (x y:Opd)
 |un (op:UnOp) (x:Opd)
 |conv (k:CK) (x:Opd)
 |mkslice (own:Bool) (esz bytes:Nat) (zero:List PV) (l c:Opd)
 |slice (k:SK) (x:Opd) (lo hi mx:Option Opd)
 |faddr (off:Nat) (x:Opd)
 |field (agg:Bool) (off size:Nat) (x:Opd)
 |iaddr (esz:Nat) (x i:Opd)
 |aaddr (len esz:Nat) (x i:Opd)
 |sidx (x i:Opd)
 |aidx (agg:Bool) (len esz:Nat) (x i:Opd)
 |extr (x:Opd) (i:Nat)
 |call (f:FuncId) (args:List Opd) (k:Nat)
 |callv (g:Opd) (args:List Opd) (k:Nat)
 |len (str:Bool) (x:Opd)
 |alen (n:Nat)
 |app (esz bytes:Nat) (zero:List PV) (x y:Opd)
 |appn (esz bytes:Nat) (zero:List PV) (y:Opd)
 |appz (esz bytes:Nat) (zero:List PV) (x y:Opd)
 |appc (esz bytes:Nat) (zero:List PV) (x y:Opd)
 |mm (mx:Bool) (x y:Opd)
 |mkfn (f:FuncId) (first caps:List Opd)
 |newboxo (zero:List PV) (os:List (Nat×Nat))
 |buildo (zero:List PV) (parts:List (Nat×Nat×Opd)) (os:List (Nat×Nat))
 |storen (esz:Nat) (x:Opd)
 |callo (f:FuncId) (keep:List Bool) (args:List Opd) (k:Nat)
 deriving Inhabited
structure J1l where
 op:AOp
 dst:Option Nat
 g:Option (Nat×Bool)
 deriving Inhabited
inductive J0Y where
 |skip
 |bad
 |reg (draw:Bool) (pairs:List (Nat×Nat)) (ins:List J1l)
 |seq (a b:J0Y)
 |cond (c:Opd) (a b:J0Y)
 |block (id:Nat) (c:J0Y)
 |loop (live:List Nat) (c:J0Y)
 |lp (n:Nat) (live:List Nat) (c:J0Y)
 |scope (c:J0Y)
 |exit (id:Nat)
 |ret
 |keep (live:List Nat) (c:J0Y)
 |tidy (live:List Nat) (c:J0Y)
 |br (live:List Nat) (pre:J0Y) (c:Opd) (a b rest:J0Y)
 deriving Inhabited
inductive AX where
 |normal
 |exit (id:Nat)
 |ret
 deriving DecidableEq
abbrev Out:=AX×St
inductive Jod where
 |tmp (t:Nat)
 |cell (t:Nat) (agg:Bool) (size:Nat)
structure AFn where
 np:Nat
 nt:Nat
 body:J0Y
 res:List Jod
 fresh:Bool
structure Eff where
 val:AV
 ws:List (Nat×Blk)
def upd(ws:List (Nat×Blk))(sto:List Blk):List Blk:=ws.foldl (λs x=>s.set x.1 x.2) sto
def unp:List AV->Option (List PV)
 |[]=>some []
 | .p c::r=>match unp r with
   |some l=>some (c::l)
   |none=>none
 |_::_=>none
def cellsOf:AV->Option (List AV)
 | .p c=>some [.p c]
 | .data cs=>some (cs.map .p)
 | .agg cs=>some cs
 | .ptr b o=>some [.ptr b o]
 | .cp cs o=>some [.cp cs o]
 | .slr b i n=>some [.slr b i n]
 | .ep b e i o=>some [.ep b e i o]
 | .fn f a c=>some [.fn f a c]
 | .tup _=>none
 | .unk=>none
def J3q(agg:Bool)(cs:List AV):Option AV:=
 if agg then
  match unp cs with
  |some l=>some (.data l)
  |none=>some (.agg cs)
 else match cs with
  |[x]=>some x
  |_=>none
def J4h(agg:Bool)(cs:List PV):Option AV:=
 if agg then some (.data cs)
 else match cs with
  |[x]=>some (.p x)
  |_=>none
def sub{α:Type}(cs:List α)(off size:Nat):Option (List α):=if off=0/\cs.length=size then some cs else if off+size<=cs.length then some ((cs.drop off).take size)else none
def spl{α:Type}(cs:List α)(off:Nat)(vs:List α):Option (List α):=if off=0/\cs.length=vs.length then some vs else if off+vs.length<=cs.length then some (cs.take off++vs++cs.drop (off+vs.length))else none
def fz:AV->RM (List PV×List (Nat×Blk))
 | .p c=>.ret ([c],[])
 | .data cs=>.ret (cs,[])
 | .slr b i n=>.blk b fun
   | .arr _ esz rows=>if i+n=rows.length then .ret ([.sl esz (rows.drop i)],[(b,.arr false esz rows)])else .fail
   |_=>.fail
 | .agg cs=>fzL cs
 |_=>.fail
where
 fzL:List AV->RM (List PV×List (Nat×Blk))
  |[]=>.ret ([],[])
  |x::r=>(fz1 x).bind λa=>(fzL r).bind λc=>.ret (a.1++c.1,a.2++c.2)
 fz1:AV->RM (List PV×List (Nat×Blk))
  | .p c=>.ret ([c],[])
  | .slr b i n=>.blk b fun
    | .arr _ esz rows=>if i+n=rows.length then .ret ([.sl esz (rows.drop i)],[(b,.arr false esz rows)])else .fail
    |_=>.fail
  |_=>.fail
def Jk6:KD->PV->PV->Option Bool
 | .b,.b x,.b y=>some (x==y)
 | .i k,.i g x,.i e y=>if k=g/\k=e then some (x==y)else none
 | .s,.s x,.s y=>some (x==y)
 |_,_,_=>none
def J1w:List KD->List PV->List PV->Option Bool
 |[],[],[]=>some true
 |k::ks,x::xs,y::e=>match Jk6 k x y,J1w ks xs e with
  |some a,some c=>some (a&&c)
  |_,_=>none
 |_,_,_=>none
def Jdx(op:BinOp)(k:IntKind)(x y:Int):Option PV:=
 if y<0 then none
 else match op with
  | .shl=>some (.i k (k.wrap (x*2^(min y.toNat k.bits))))
  | .shr=>some (.i k (x.fdiv (2^(min y.toNat k.bits))))
  |_=>none
def JrR(op:BinOp)(k:IntKind)(x y:Int):Option PV:=
 match op with
 | .add=>some (.i k (k.wrap (x+y)))
 | .sub=>some (.i k (k.wrap (x-y)))
 | .mul=>some (.i k (k.wrap (x*y)))
 | .quo=>if y=0 then none else some (.i k (k.wrap (x.tdiv y)))
 | .rem=>if y=0 then none else some (.i k (x.tmod y))
 | .and=>some (.i k (k.wrap (BitVec.ofInt k.bits x&&&BitVec.ofInt k.bits y).toNat))
 | .or=>some (.i k (k.wrap (BitVec.ofInt k.bits x|||BitVec.ofInt k.bits y).toNat))
 | .xor=>some (.i k (k.wrap (BitVec.ofInt k.bits x^^^BitVec.ofInt k.bits y).toNat))
 | .eql=>some (.b (x==y))
 | .neq=>some (.b (x !=y))
 | .lss=>some (.b (decide (x<y)))
 | .leq=>some (.b (decide (x<=y)))
 | .gtr=>some (.b (decide (x>y)))
 | .geq=>some (.b (decide (x>=y)))
 |_=>none
def JrH(op:BinOp)(x y:List UInt8):Option PV:=
 match op with
 | .add=>if x.length+y.length<=4611686018427387904 then some (.s (x++y))else none
 | .eql=>some (.b (x==y))
 | .neq=>some (.b (!(x==y)))
 | .lss=>some (.b (Op.bytesLess x y))
 | .leq=>some (.b (Op.bytesLess x y||x==y))
 | .gtr=>some (.b (!(Op.bytesLess x y||x==y)))
 | .geq=>some (.b (!Op.bytesLess x y))
 |_=>none
def J8m(op:BinOp)(r:Option Bool):Option AV:=
 match op,r with
 | .eql,some x=>some (.p (.b x))
 | .neq,some x=>some (.p (.b (!x)))
 |_,_=>none
def JD6:BinOp->Option AV
 | .eql=>some .unk
 | .neq=>some .unk
 |_=>none
def Jcf(op:BinOp)(t:BT)(x y:AV):Option AV:=
 match t with
 | .plain=>match x,y with
   | .p (.i k a),.p (.i e c)=>match op with
     | .shl=>(Jdx .shl k a c).map .p
     | .shr=>(Jdx .shr k a c).map .p
     |_=>if k=e then(JrR op k a c).map .p else none
   | .p (.s a),.p (.s c)=>(JrH op a c).map .p
   |_,_=>none
 | .bool=>match x,y with
   | .p (.b a),.p (.b c)=>J8m op (some (a==c))
   |_,_=>none
 | .flat ks=>match x,y with
   | .data a,.data c=>J8m op (J1w ks a c)
   |_,_=>none
 | .nils=>match x with
   | .p (.sl _ rows)=>match rows with
     |[]=>JD6 op
     |_::_=>J8m op (some false)
   | .slr _ _ n=>if n=0 then JD6 op else J8m op (some false)
   |_=>none
 | .nilp=>match x with
   | .p .np=>J8m op (some true)
   | .ptr _ _=>J8m op (some false)
   | .cp _ _=>J8m op (some false)
   | .ep _ _ _ _=>J8m op (some false)
   |_=>none
 | .nilf=>match x with
   | .p .nf=>J8m op (some true)
   | .fn _ _ _=>J8m op (some false)
   |_=>none
def unP(op:UnOp)(x:AV):Option AV:=
 match op,x with
 | .neg,.p (.i k n)=>some (.p (.i k (k.wrap (0-n))))
 | .xor,.p (.i k n)=>some (.p (.i k (k.wrap (BitVec.ofInt k.bits (if k.signed then -1 else k.max)^^^BitVec.ofInt k.bits n).toNat)))
 | .not,.p (.b x)=>some (.p (.b (!x)))
 | .not,.unk=>some .unk
 |_,_=>none
def J85:List (List PV)->Option (List UInt8)
 |[]=>some []
 |[.i .u8 n]::r=>match J85 r with
  |some l=>some (UInt8.ofNat n.toNat::l)
  |none=>none
 |_::_=>none
def J4b(x:UInt8):List PV:=[.i .u8 x.toNat]
def J7x(esz:Nat):List (Nat×List PV)->List (List PV)->Option (List (List PV))
 |[],rows=>some rows
 |(i,c)::r,rows=>if c.length=esz/\i<rows.length then J7x esz r (rows.set i c)else none
def J68:List (Nat×Nat×List AV)->List AV->Option (List AV)
 |[],cs=>some cs
 |(off,size,c)::r,cs=>
  if c.length=size then
   match spl cs off c with
   |some cs'=>J68 r cs'
   |none=>none
  else none
def ev:Opd->RM AV
 | .t n=>.slot n .ret
 | .c x=>.ret x
def evs:List Opd->RM (List AV)
 |[]=>.ret []
 |x::r=>(ev x).bind λv=>(evs r).bind λvs=>.ret (v::vs)
def val(x:Option AV):RM Eff:=
 match x with
 |some v=>.ret ⟨v,[]⟩
 |none=>.fail
def fzs:List Opd->RM (List (List PV)×List (Nat×Blk))
 |[]=>.ret ([],[])
 |x::r=>(ev x).bind λv=>(fz v).bind λa=>(fzs r).bind λc=>.ret (a.1::c.1,a.2++c.2)
def J64(x:Option AV)(top e:Nat):Option Nat:=
 match x with
 |none=>some e
 |some (.p (.i _ n))=>if 0<=n/\n<=top then some n.toNat else none
 |some _=>none
def evo:Option Opd->RM (Option AV)
 |none=>.ret none
 |some x=>(ev x).bind λv=>.ret (some v)
def JnV(n:Nat)(lo hi:Option AV):Option (Nat×Nat):=
 match J64 hi n n with
 |none=>none
 |some h=>match J64 lo h 0 with
  |none=>none
  |some l=>some (l,h)
def JbU(x:AV)(lo hi:Option AV):Option AV:=
 match x with
 | .p (.s l)=>match JnV l.length lo hi with
   |some c=>some (.p (.s ((l.drop c.1).take (c.2-c.1))))
   |none=>none
 |_=>none
def Jc2(esz:Nat)(x:AV)(lo hi:Option AV):Option AV:=
 match x with
 | .p (.sl e rows)=>if esz=e then
    match JnV rows.length lo hi with
    |some c=>some (.p (.sl esz ((rows.drop c.1).take (c.2-c.1))))
    |none=>none
   else none
 |_=>none
def JzC(esz:Nat)(x:AV)(lo hi:Option AV)(m:AV):Option AV:=
 match x,lo,hi,m with
 | .p (.sl e rows),none,some (.p (.i _ h)),.p (.i _ n)=>if esz=e/\h=rows.length/\n=rows.length then some (.p (.slc esz rows))else none
 |_,_,_,_=>none
def J4W(k:SK)(x:AV)(lo hi mx:Option AV):Option AV:=
 match mx with
 |some m=>match k with
  | .str=>none
  | .sl esz=>JzC esz x lo hi m
 |none=>match k with
  | .str=>JbU x lo hi
  | .sl esz=>Jc2 esz x lo hi
def JtA(rows:List (List PV))(n:Int):Option (List PV):=if 0<=n then rows[n.toNat]? else none
def J6d(esz:Nat)(x i:AV):RM Eff:=
 match x,i with
 | .p (.sl e rows),.p (.i _ n)=>
   if esz=e then
    match JtA rows n with
    |some row=>.ret ⟨.cp row 0,[]⟩
    |none=>.fail
   else .fail
 | .slr b j m,.p (.i _ n)=>.blk b fun
   | .arr _ e rows=>if esz=e/\j+m=rows.length/\0<=n/\n<m then .ret ⟨.ep b rows.length (j+n.toNat) 0,[]⟩else .fail
   |_=>.fail
 |_,_=>.fail
def JoU(len esz:Nat)(x i:AV):Option AV:=
 match i with
 | .p (.i _ n)=>
   if 0<=n/\n<len then
    match x with
    | .ptr b off=>some (.ptr b (off+n.toNat*esz))
    | .cp cs off=>some (.cp cs (off+n.toNat*esz))
    | .ep b e j off=>some (.ep b e j (off+n.toNat*esz))
    |_=>none
   else none
 |_=>none
def JoI(off:Nat):AV->Option AV
 | .ptr b o=>some (.ptr b (o+off))
 | .cp cs o=>some (.cp cs (o+off))
 | .ep b e j o=>some (.ep b e j (o+off))
 |_=>none
def J43(agg:Bool)(size:Nat):AV->RM Eff
 | .cp cs off=>match sub cs off size with
   |some l=>val (J4h agg l)
   |none=>.fail
 | .ptr b off=>.blk b fun
   | .box cs=>match sub cs off size with
     |some l=>val (J3q agg l)
     |none=>.fail
   |_=>.fail
 | .ep b ext i off=>.blk b fun
   | .arr _ _ rows=>if ext=rows.length then
      match rows[i]? with
      |some row=>match sub row off size with
       |some l=>val (J4h agg l)
       |none=>.fail
      |none=>.fail
     else .fail
   |_=>.fail
 |_=>.fail
def J2a:AV:=.tup []
def J3A(size:Nat)(x v:AV):RM Eff:=
 match x with
 | .ptr b off=>.blk b fun
   | .box cs=>match cellsOf v with
     |some l=>if l.length=size then
       match spl cs off l with
       |some cs'=>.ret ⟨J2a,[(b,.box cs')]⟩
       |none=>.fail
      else .fail
     |none=>.fail
   |_=>.fail
 | .ep b ext i off=>.blk b fun
   | .arr true esz rows=>if ext=rows.length then
      match rows[i]? with
      |some row=>(fz v).bind λa=>
       if a.1.length=size/\(a.2.all λy=>y.1 !=b)then
        match spl row off a.1 with
        |some e=>.ret ⟨J2a,a.2++[(b,.arr true esz (rows.set i e))]⟩
        |none=>.fail
       else .fail
      |none=>.fail
     else .fail
   |_=>.fail
 |_=>.fail
def J8Q(agg:Bool)(off size:Nat):AV->Option AV
 | .data cs=>match sub cs off size with
   |some l=>J4h agg l
   |none=>none
 | .agg cs=>match sub cs off size with
   |some l=>J3q agg l
   |none=>none
 |_=>none
def Jsh(i:Nat):AV->Option AV
 | .tup vs=>vs[i]?
 |_=>none
def Juh:Bool->AV->Option AV
 |true,.p (.s l)=>some (.p (.i .i64 l.length))
 |false,.p (.sl _ rows)=>some (.p (.i .i64 rows.length))
 |false,.slr _ _ n=>some (.p (.i .i64 n))
 |_,_=>none
def J2w(esz:Nat):AV->RM (List (List PV))
 | .p (.sl e rows)=>if esz=e then .ret rows else .fail
 | .p (.s l)=>if esz=1 then .ret (l.map J4b)else .fail
 | .slr b i n=>.blk b fun
   | .arr _ e rows=>if esz=e/\i+n=rows.length then .ret (rows.drop i)else .fail
   |_=>.fail
 |_=>.fail
def J61(n bytes:Nat):Bool:=(2*n+512)*bytes<=281474976710656
def J7u(esz bytes:Nat)(x y:AV):RM Eff:=
 match x with
 | .slr b i n=>.blk b fun
   | .arr w e rows=>(J2w esz y).bind λnew=>
     if esz=e/\i=0/\n=rows.length/\J61 (n+new.length) bytes then
      .ret ⟨.slr b 0 (n+new.length),[(b,.arr w esz (rows++new))]⟩
     else .fail
   |_=>.fail
 |_=>.fail
def JC4(esz bytes:Nat)(x y:AV)(new:Nat):RM Eff:=
 match x with
 | .p (.slc e rows)=>(J2w esz y).bind λadd=>
    if esz=e/\0<add.length/\J61 (rows.length+add.length) bytes then
     .ret ⟨.slr new 0 (rows.length+add.length),[(new,.arr true esz (rows++add))]⟩
    else .fail
 |_=>.fail
def zrs(esz:Nat)(zero:List PV):AV->Option AV
 | .p (.i _ n)=>if 0<=n then some (.p (.sl esz (List.replicate n.toNat zero)))else none
 |_=>none
def mmP(mx:Bool)(x y:AV):Option AV:=
 match x,y with
 | .p (.i k a),.p (.i _ c)=>some (.p (.i k (if mx then(if c>a then c else a)else(if c<a then c else a))))
 |_,_=>none
inductive Ent where
 |whole (b:Nat)
 |elem (b ext i:Nat)
 deriving DecidableEq
def Ent.id:Ent->Nat
 | .whole b=>b
 | .elem b _ _=>b
def JbW(e:Ent)(l:List Ent):List Ent:=if l.any (λx=>x==e)then l else l++[e]
def J0N:AV->List Ent->List Ent
 | .ptr b _,l=>JbW (.whole b) l
 | .slr b _ _,l=>JbW (.whole b) l
 | .ep b e i _,l=>JbW (.elem b e i) l
 | .fn _ first caps,l=>entsOfL caps (entsOfL first l)
 | .agg cs,l=>entsOfL cs l
 | .tup cs,l=>entsOfL cs l
 |_,l=>l
where
 entsOfL:List AV->List Ent->List Ent
  |[],l=>l
  |x::r,l=>entsOfL r (J0N x l)
def J1S(e:Ent):List Ent->Nat->Option Nat
 |[],_=>none
 |x::r,k=>if x=e then some k else J1S e r (k+1)
def ren(ρ:Ent->Option Nat):AV->Option AV
 | .p c=>some (.p c)
 | .data cs=>some (.data cs)
 | .cp cs o=>some (.cp cs o)
 | .unk=>some .unk
 | .ptr b off=>(ρ (.whole b)).map λk=>.ptr k off
 | .ep b e i off=>(ρ (.elem b e i)).map λk=>.ptr k off
 | .slr b i n=>(ρ (.whole b)).map λk=>.slr k i n
 | .fn f first caps=>(renL ρ first).bind λa=>(renL ρ caps).map λc=>.fn f a c
 | .agg cs=>(renL ρ cs).map .agg
 | .tup cs=>(renL ρ cs).map .tup
where
 renL (ρ:Ent->Option Nat):List AV->Option (List AV)
  |[]=>some []
  |x::r=>match ren ρ x,renL ρ r with
   |some y,some l=>some (y::l)
   |_,_=>none
end Go.Am
end
section
namespace Go.Am
def J4w:List Nat->Bool
 |[]=>true
 |x::r=> !(r.contains x)&&J4w r
def J4E(b:Nat):List (Nat×Blk)->Option Blk
 |[]=>none
 |(c,x)::r=>match J4E b r with
  |some y=>some y
  |none=>if c=b then some x else none
def Jgz(ws:List (Nat×Blk))(b:Nat):RM Blk:=
 .blk b λx=>match J4E b ws with
  |some y=>.ret y
  |none=>.ret x
def J3M(ws:List (Nat×Blk)):List Ent->List Ent->RM (List Ent)
 |[],acc=>.ret acc
 | .whole b::r,acc=>(Jgz ws b).bind fun
   | .box cs=>J3M ws r (J0N.entsOfL cs acc)
   |_=>J3M ws r acc
 |_::r,acc=>J3M ws r acc
def J8w:AV->RM (AV×List (Nat×Blk))
 | .slr b i n=>(fz (.slr b i n)).bind λa=>match a.1 with
   |[c]=>.ret (.p c,a.2)
   |_=>.fail
 | .agg cs=>(fz (.agg cs)).bind λa=>.ret (.data a.1,a.2)
 | .tup _=>.fail
 |v=>.ret (v,[])
def J6A:List AV->RM (List AV×List (Nat×Blk))
 |[]=>.ret ([],[])
 |x::r=>(J8w x).bind λa=>(J6A r).bind λc=>.ret (a.1::c.1,a.2++c.2)
def Jk3(ws:List (Nat×Blk))(ρ:Ent->Option Nat):Ent->RM Blk
 | .whole b=>(Jgz ws b).bind fun
   | .box cs=>match ren.renL ρ cs with
     |some l=>.ret (.box l)
     |none=>.fail
   | .arr w esz rows=>.ret (.arr w esz rows)
   | .dead=>.fail
 | .elem b ext i=>(Jgz ws b).bind fun
   | .arr true _ rows=>if ext=rows.length then
      match rows[i]? with
      |some row=>.ret (.box (row.map .p))
      |none=>.fail
     else .fail
   |_=>.fail
def J4P(ws:List (Nat×Blk))(ρ:Ent->Option Nat):List Ent->RM (List Blk)
 |[]=>.ret []
 |e::r=>(Jk3 ws ρ e).bind λx=>(J4P ws ρ r).bind λl=>.ret (x::l)
def bk(es:List Ent)(new:Nat):AV->Option AV
 | .p c=>some (.p c)
 | .data cs=>some (.data cs)
 | .cp cs o=>some (.cp cs o)
 | .unk=>some .unk
 | .ptr k off=>if k<es.length then
    match es[k]? with
    |some (.whole b)=>some (.ptr b off)
    |some (.elem b e i)=>some (.ep b e i off)
    |none=>none
   else some (.ptr (new+(k-es.length)) off)
 | .slr k i n=>if k<es.length then
    match es[k]? with
    |some (.whole b)=>some (.slr b i n)
    |_=>none
   else some (.slr (new+(k-es.length)) i n)
 | .ep k e i off=>if k<es.length then
    match es[k]? with
    |some (.whole b)=>some (.ep b e i off)
    |_=>none
   else some (.ep (new+(k-es.length)) e i off)
 | .fn f first caps=>match bkL es new first,bkL es new caps with
   |some a,some c=>some (.fn f a c)
   |_,_=>none
 | .agg cs=>match bkL es new cs with
   |some l=>some (.agg l)
   |none=>none
 | .tup cs=>match bkL es new cs with
   |some l=>some (.tup l)
   |none=>none
where
 bkL (es:List Ent) (new:Nat):List AV->Option (List AV)
  |[]=>some []
  |x::r=>match bk es new x,bkL es new r with
   |some y,some l=>some (y::l)
   |_,_=>none
def J7t(ws:List (Nat×Blk))(es:List Ent)(new:Nat)(e:Ent)(x:Blk):RM (Nat×Blk):=
 match e,x with
 | .whole b,.box cs=>match bk.bkL es new cs with
   |some l=>.ret (b,.box l)
   |none=>.fail
 | .whole b,.arr w esz rows=>.ret (b,.arr w esz rows)
 | .elem b _ i,.box cs=>(Jgz ws b).bind fun
   | .arr w esz rows=>match unp cs with
     |some row=>.ret (b,.arr w esz (rows.set i row))
     |none=>.fail
   |_=>.fail
 |_,_=>.fail
def J39(ws:List (Nat×Blk))(es:List Ent)(new:Nat):List Ent->List Blk->RM (List (Nat×Blk))
 |[],_=>.ret []
 |e::r,x::l=>(J7t ws es new e x).bind λy=>(J39 ws es new r l).bind λg=>.ret (y::g)
 |_::_,[]=>.fail
def J2I(es:List Ent)(new:Nat):Nat->List Blk->Option (List (Nat×Blk))
 |_,[]=>some []
 |k,.box cs::l=>match bk.bkL es new cs,J2I es new (k+1) l with
  |some c,some e=>some ((k,.box c)::e)
  |_,_=>none
 |k,.arr w esz rows::l=>match J2I es new (k+1) l with
  |some e=>some ((k,.arr w esz rows)::e)
  |none=>none
 |_,.dead::_=>none
def J5b(F:Orc)(f:FuncId)(args:List AV)(k new:Nat):RM Eff:=
 (J6A args).bind λa=>
 (J3M a.2 (J0N.entsOfL a.1 []) (J0N.entsOfL a.1 [])).bind λh=>
 (J3M a.2 h h).bind λes=>
 if J4w (es.map Ent.id)then
  match ren.renL (λe=>J1S e es 0) a.1 with
  |none=>.fail
  |some g=>(J4P a.2 (λe=>J1S e es 0) es).bind λblks=>
   match F f g blks with
   |none=>.fail
   |some r=>if r.2.length=es.length+k then
     match bk es new r.1,J2I es new new (r.2.drop es.length)with
     |some v,some fresh=>(J39 a.2 es new es r.2).bind λj=>.ret ⟨v,a.2++j++fresh⟩
     |_,_=>.fail
    else .fail
 else .fail
def J53:List (Nat×Nat×Opd)->RM (List (Nat×Nat×List AV))
 |[]=>.ret []
 |(off,size,x)::r=>(ev x).bind λv=>match cellsOf v with
  |some cs=>(J53 r).bind λl=>.ret ((off,size,cs)::l)
  |none=>.fail
def J4B:List (Nat×Nat)->Nat->List (Nat×Blk)
 |[],_=>[]
 |(_,esz)::r,n=>(n,.arr true esz [])::J4B r (n+1)
def Jbg:List (Nat×Nat)->Nat->List AV->List AV
 |[],_,cs=>cs
 |(off,_)::r,n,cs=>Jbg r (n+1) (cs.set off (.slr n 0 0))
def J3e:List Bool->List AV->RM (List AV×List (Nat×Blk))
 |_,[]=>.ret ([],[])
 |[],x::r=>(J8w x).bind λa=>(J3e [] r).bind λc=>.ret (a.1::c.1,a.2++c.2)
 |true::m,x::r=>(J3e m r).bind λc=>.ret (x::c.1,c.2)
 |false::m,x::r=>(J8w x).bind λa=>(J3e m r).bind λc=>.ret (a.1::c.1,a.2++c.2)
def J2O(F:Orc)(f:FuncId)(a:List AV×List (Nat×Blk))(k new:Nat):RM Eff:=
 (J3M a.2 (J0N.entsOfL a.1 []) (J0N.entsOfL a.1 [])).bind λh=>
 (J3M a.2 h h).bind λes=>
 if J4w (es.map Ent.id)then
  match ren.renL (λe=>J1S e es 0) a.1 with
  |none=>.fail
  |some g=>(J4P a.2 (λe=>J1S e es 0) es).bind λblks=>
   match F f g blks with
   |none=>.fail
   |some r=>if es.length<=r.2.length/\r.2.length<=es.length+k then
     match bk es new r.1,J2I es new new (r.2.drop es.length)with
     |some v,some fresh=>(J39 a.2 es new es r.2).bind λj=>.ret ⟨v,a.2++j++fresh⟩
     |_,_=>.fail
    else .fail
 else .fail
def opR(F:Orc)(op:AOp)(new:Nat):RM Eff:=
 match op with
 | .mv x=>(ev x).bind λv=>.ret ⟨v,[]⟩
 | .mkarr esz _=>.ret ⟨.slr new 0 0,[(new,.arr true esz [])]⟩
 | .pick c a b=>(ev c).bind fun
   | .p (.b x)=>if x then(ev a).bind λv=>.ret ⟨v,[]⟩else(ev b).bind λv=>.ret ⟨v,[]⟩
   |_=>.fail
 | .newbox zero=>.ret ⟨.ptr new 0,[(new,.box (zero.map .p))]⟩
 | .box size x=>(ev x).bind λv=>match cellsOf v with
   |some cs=>if cs.length=size then .ret ⟨.ptr new 0,[(new,.box cs)]⟩else .fail
   |none=>.fail
 | .build zero parts=>(J53 parts).bind λl=>match J68 l (zero.map .p)with
   |some cs=>val (J3q true cs)
   |none=>.fail
 | .lits own esz n zero parts=>(fzs (parts.map (·.2))).bind λa=>
   match J7x esz ((parts.map (·.1)).zip a.1) (List.replicate n zero)with
   |some rows=>if own then .ret ⟨.slr new 0 n,a.2++[(new,.arr true esz rows)]⟩else .ret ⟨.p (.sl esz rows),a.2⟩
   |none=>.fail
 | .load agg size x=>(ev x).bind λv=>J43 agg size v
 | .store size x y=>(ev x).bind λa=>(ev y).bind λv=>J3A size a v
 | .nilchk x=>(ev x).bind fun
   | .ptr b o=>.ret ⟨.ptr b o,[]⟩
   | .cp cs o=>.ret ⟨.cp cs o,[]⟩
   | .ep b e i o=>.ret ⟨.ep b e i o,[]⟩
   | .fn f u c=>.ret ⟨.fn f u c,[]⟩
   |_=>.fail
 | .bin op t x y=>(ev x).bind λa=>(ev y).bind λc=>val (Jcf op t a c)
 | .un op x=>(ev x).bind λa=>val (unP op a)
 | .conv k x=>(ev x).bind λa=>match k,a with
   | .int k,.p (.i _ n)=>.ret ⟨.p (.i k (k.wrap n)),[]⟩
   | .same,.p (.s l)=>.ret ⟨.p (.s l),[]⟩
   | .toStr,a=>(J2w 1 a).bind λrows=>match J85 rows with
     |some l=>.ret ⟨.p (.s l),[]⟩
     |none=>.fail
   | .toBytes own,.p (.s l)=>if own then .ret ⟨.slr new 0 l.length,[(new,.arr true 1 (l.map J4b))]⟩else .ret ⟨.p (.sl 1 (l.map J4b)),[]⟩
   |_,_=>.fail
 | .mkslice own esz bytes zero l c=>(ev l).bind λa=>(ev c).bind λd=>match a,d with
   | .p (.i _ n),.p (.i _ m)=>
     if 0<=n/\n<=m/\bytes*m<=281474976710656/\m<=281474976710656 then
      if own then .ret ⟨.slr new 0 n.toNat,[(new,.arr true esz (List.replicate n.toNat zero))]⟩
      else .ret ⟨.p (.sl esz (List.replicate n.toNat zero)),[]⟩
     else .fail
   |_,_=>.fail
 | .slice k x lo hi mx=>(ev x).bind λa=>(evo lo).bind λlo=>(evo hi).bind λhi=>(evo mx).bind λmx=>
   match a with
   | .slr b i n=>(fz (.slr b i n)).bind λy=>match y.1 with
     |[c]=>match J4W k (.p c) lo hi mx with
      |some v=>.ret ⟨v,y.2⟩
      |none=>.fail
     |_=>.fail
   |a=>val (J4W k a lo hi mx)
 | .faddr off x=>(ev x).bind λa=>val (JoI off a)
 | .field agg off size x=>(ev x).bind λa=>val (J8Q agg off size a)
 | .iaddr esz x i=>(ev x).bind λa=>(ev i).bind λc=>J6d esz a c
 | .aaddr len esz x i=>(ev x).bind λa=>(ev i).bind λc=>val (JoU len esz a c)
 | .sidx x i=>(ev x).bind λa=>(ev i).bind λc=>match a,c with
   | .p (.s l),.p (.i _ n)=>if 0<=n then
      match l[n.toNat]? with
      |some u=>.ret ⟨.p (.i .u8 u.toNat),[]⟩
      |none=>.fail
     else .fail
   |_,_=>.fail
 | .aidx agg len esz x i=>(ev x).bind λa=>(ev i).bind λc=>match c with
   | .p (.i _ n)=>if 0<=n/\n<len then val (J8Q agg (n.toNat*esz) esz a)else .fail
   |_=>.fail
 | .extr x i=>(ev x).bind λa=>val (Jsh i a)
 | .call f args k=>(evs args).bind λvs=>J5b F f vs k new
 | .callv g args k=>(ev g).bind fun
   | .fn f first caps=>(evs args).bind λvs=>J5b F f (first++vs++caps) k new
   |_=>.fail
 | .len str x=>(ev x).bind λa=>val (Juh str a)
 | .alen n=>.ret ⟨.p (.i .i64 n),[]⟩
 | .appn esz bytes _ y=>(ev y).bind λc=>(J2w esz c).bind λrows=>
   if J61 rows.length bytes then .ret ⟨.slr new 0 rows.length,[(new,.arr true esz rows)]⟩else .fail
 | .app esz bytes _ x y=>(ev x).bind λa=>(ev y).bind λc=>J7u esz bytes a c
 | .appz esz bytes zero x y=>(ev x).bind λa=>(ev y).bind λc=>match zrs esz zero c with
   |some h=>J7u esz bytes a h
   |none=>.fail
 | .appc esz bytes _ x y=>(ev x).bind λa=>(ev y).bind λc=>JC4 esz bytes a c new
 | .mm mx x y=>(ev x).bind λa=>(ev y).bind λc=>val (mmP mx a c)
 | .mkfn f first caps=>(evs first).bind λa=>(evs caps).bind λc=>.ret ⟨.fn f a c,[]⟩
 | .newboxo zero os=>.ret ⟨.ptr (new+os.length) 0,J4B os new++[(new+os.length,.box (Jbg os new (zero.map .p)))]⟩
 | .buildo zero parts os=>(J53 parts).bind λl=>match J68 l (Jbg os new (zero.map .p))with
   |some cs=>match J3q true cs with
    |some v=>.ret ⟨v,J4B os new⟩
    |none=>.fail
   |none=>.fail
 | .storen esz x=>(ev x).bind λa=>(J3A 1 a (.slr new 0 0)).bind λe=>.ret ⟨e.val,(new,.arr true esz [])::e.ws⟩
 | .callo f keep args k=>(evs args).bind λvs=>(J3e keep vs).bind λa=>J2O F f a k new
def J5c:AOp->Nat
 | .newbox _| .box _ _| .mkarr _ _| .appn _ _ _ _| .appc _ _ _ _ _=>1
 | .lits own _ _ _ _=>if own then 1 else 0
 | .mkslice own _ _ _ _ _=>if own then 1 else 0
 | .conv (.toBytes own) _=>if own then 1 else 0
 | .call _ _ k| .callv _ _ k| .callo _ _ _ k=>k
 | .newboxo _ os=>os.length+1
 | .buildo _ _ os=>os.length
 | .storen _ _=>1
 |_=>0
def JcX(new:Nat):Nat->RM Unit
 |0=>.ret ()
 |k+1=>.blk new fun
  | .dead=>JcX (new+1) k
  |_=>.fail
def opD(F:Orc)(op:AOp)(new:Nat):RM Eff:=(JcX new (J5c op)).bind λ_=>opR F op new
def J1j(F:Orc)(i:J1l)(new:Nat):RM Eff:=
 match i.g with
 |none=>opD F i.op new
 |some (g,e)=>.slot g fun
  | .p (.b x)=>if x=e then opD F i.op new else .ret ⟨J2a,[]⟩
  | .tup []=>.ret ⟨J2a,[]⟩
  |_=>.fail
def put(d:Option Nat)(e:Eff)(s:St):St:=
 match d with
 |some d=>⟨(d,e.val)::s.env,upd e.ws s.sto⟩
 |none=>⟨s.env,upd e.ws s.sto⟩
def J2U(F:Orc):List J1l->Nat->St->Option St
 |[],_,s=>some s
 |i::r,new,s=>match(J1j F i new).run s with
  |some e=>J2U F r (new+J5c i.op) (put i.dst e s)
  |none=>none
def J4t:List Loc->List Nat
 |[]=>[]
 | .blk b::r=>b::J4t r
 |_::r=>J4t r
abbrev Log:=List (List Nat×List Nat)
def J4v(F:Orc):List J1l->Nat->St->Log->Option (St×Log)
 |[],_,s,l=>some (s,l)
 |i::r,new,s,l=>match(J1j F i new).run s with
  |some e=>J4v F r (new+J5c i.op) (put i.dst e s) (l++[(J4t ((J1j F i new).reads s),e.ws.map (·.1))])
  |none=>none
def J6c(a b:List Nat):Bool:=a.all λx=> !(b.contains x)
def Jd5(l:Log):List (Nat×Nat)->Bool
 |[]=>true
 |(i,j)::r=>(match l[i]?,l[j]? with
  |some a,some b=>J6c a.2 b.1&&J6c a.2 b.2&&J6c a.1 b.2
  |_,_=>false)&&Jd5 l r
def news:List J1l->Nat
 |[]=>0
 |i::r=>J5c i.op+news r
def room(n:Nat)(sto:List Blk):List Blk:=if n=0 then sto else sto++List.replicate n .dead
def region(F:Orc)(pairs:List (Nat×Nat))(ins:List J1l)(s:St):Option St:=
 match pairs with
 |[]=>J2U F ins s.sto.length ⟨s.env,room (news ins) s.sto⟩
 |_::_=>match J4v F ins s.sto.length ⟨s.env,room (news ins) s.sto⟩ []with
  |some (s',l)=>if Jd5 l pairs then some s' else none
  |none=>none
def restr:List Nat->List (Nat×AV)->List (Nat×AV)
 |[],_=>[]
 |k::r,env=>match lk k env with
  |some v=>(k,v)::restr r env
  |none=>restr r env
def J4r(b:Nat):List Nat->Nat->Option Nat
 |[],_=>none
 |x::r,k=>if x=b then some k else J4r b r (k+1)
def fin(m:Nat)(ids:List Nat)(sto:List Blk):AV->Option AV
 | .p c=>some (.p c)
 | .data cs=>some (.data cs)
 | .cp cs o=>some (.cp cs o)
 | .unk=>some .unk
 | .ptr b off=>if b<m then some (.ptr b off)else(J4r b ids m).map λk=>.ptr k off
 | .slr b i n=>if b<m then some (.slr b i n)else
   match J4r b ids m with
   |some k=>some (.slr k i n)
   |none=>match sto[b]? with
    |some (.arr _ esz rows)=>if i+n=rows.length then some (.p (.sl esz (rows.drop i)))else none
    |_=>none
 | .ep b e i off=>if b<m then some (.ep b e i off)else(J4r b ids m).map λk=>.ep k e i off
 | .fn f first caps=>match finL m ids sto first,finL m ids sto caps with
   |some a,some c=>some (.fn f a c)
   |_,_=>none
 | .agg cs=>match finL m ids sto cs with
   |some l=>match unp l with
    |some q=>some (.data q)
    |none=>some (.agg l)
   |none=>none
 | .tup cs=>match finL m ids sto cs with
   |some l=>some (.tup l)
   |none=>none
where
 finL (m:Nat) (ids:List Nat) (sto:List Blk):List AV->Option (List AV)
  |[]=>some []
  |x::r=>match fin m ids sto x,finL m ids sto r with
   |some y,some l=>some (y::l)
   |_,_=>none
def J4R(m:Nat)(ids:List Nat)(sto:List Blk):Blk->Option Blk
 | .dead=>some .dead
 | .box cs=>match fin.finL m ids sto cs with
   |some l=>some (.box l)
   |none=>none
 | .arr w esz rows=>some (.arr w esz rows)
def JbI(m:Nat)(ids:List Nat)(sto:List Blk):List Blk->Option (List Blk)
 |[]=>some []
 |x::r=>match J4R m ids sto x,JbI m ids sto r with
  |some y,some l=>some (y::l)
  |_,_=>none
def Jof(m:Nat)(sto:List Blk):List (Nat×AV)->Option (List (Nat×AV))
 |[]=>some []
 |(k,x)::r=>match fin m [] sto x,Jof m sto r with
  |some y,some l=>some ((k,y)::l)
  |_,_=>none
def clean(n:Nat)(live:List Nat)(s:St):Option St:=
 if s.sto.length=n then some ⟨restr live s.env,s.sto⟩
 else match Jof n s.sto (restr live s.env),JbI n [] s.sto (s.sto.take n)with
  |some e,some l=>some ⟨e,l⟩
  |_,_=>none
def Jcg:List Jod->RM (List AV)
 |[]=>.ret []
 | .tmp t::r=>(RM.slot t .ret).bind λv=>(Jcg r).bind λl=>.ret (v::l)
 | .cell t agg size::r=>(RM.slot t .ret).bind λv=>(J43 agg size v).bind λe=>(Jcg r).bind λl=>.ret (e.val::l)
def J4s(m:Nat)(fresh:Bool)(sto:List Blk):List Ent->List Nat
 |[]=>[]
 | .whole b::r=>if b<m then J4s m fresh sto r else
   match sto[b]? with
   |some (.box _)=>b::J4s m fresh sto r
   |some (.arr _ _ _)=>if fresh then b::J4s m fresh sto r else J4s m fresh sto r
   |_=>J4s m fresh sto r
 |_::r=>J4s m fresh sto r
def JbD(sto:List Blk):List Ent->List Ent->List Ent
 |[],acc=>acc
 | .whole b::r,acc=>match sto[b]? with
   |some (.box cs)=>JbD sto r (J0N.entsOfL cs acc)
   |_=>JbD sto r acc
 |_::r,acc=>JbD sto r acc
def Jf1(sto:List Blk):List Nat->Option (List Blk)
 |[]=>some []
 |b::r=>match sto[b]?,Jf1 sto r with
  |some x,some l=>some (x::l)
  |_,_=>none
def one:List AV->AV
 |[x]=>x
 |l=>.tup l
def J3h(fn:AFn)(m:Nat)(s:St):Option Res:=
 match(Jcg fn.res).run s with
 |none=>none
 |some vs=>
  if s.sto.length=m then some (one vs,s.sto)
  else
   match J4s m fn.fresh s.sto (JbD s.sto (J0N.entsOfL vs []) (J0N.entsOfL vs []))with
   |ids=>if J4w ids then
     match fin.finL m ids s.sto vs,JbI m ids s.sto (s.sto.take m),Jf1 s.sto ids with
     |some ws,some l,some q=>match JbI m ids s.sto q with
      |some q'=>some (one ws,l++q')
      |none=>none
     |_,_,_=>none
    else none
def J8o:Nat->List AV->List (Nat×AV)
 |_,[]=>[]
 |k,x::r=>(k,x)::J8o (k+1) r
structure J9r where
 np:Nat
 nt:Nat
 p0:J0Y
 live:List Nat
 pre:J0Y
 c:Opd
 a:J0Y
 b:J0Y
 rest:J0Y
 res:List Jod
 fresh:Bool
def J9r.af(k:J9r):AFn:=⟨k.np,k.nt,.seq k.p0 (.br k.live k.pre k.c k.a k.b k.rest),k.res,k.fresh⟩
def Jk1(f:AFn)(m:Nat)(o:Option Out):Option Res:=
 match o with
 |some (.normal,s)=>J3h f m s
 |some (.ret,s)=>J3h f m s
 |_=>none
open Classical in
noncomputable def Jsb(a b:Option Res):Option Res:=
 match a,b with
 |some r,some r'=>if r=r' then some r else none
 |_,_=>none
def thn(o:Option Out)(k:St->Option Out):Option Out:=
 match o with
 |some (.normal,s)=>k s
 |o=>o
noncomputable def JcM(R:J0Y->St->Option Out)(k:J9r)(args:List AV)(blks:List Blk):Option Res:=
 match R k.p0 ⟨J8o 0 args,blks⟩with
 |some (.normal,s0)=>match R k.pre s0 with
  |some (.normal,s1)=>match(ev k.c).run s1 with
   |some (.p (.b x))=>if x=true then Jk1 k.af blks.length (thn (R k.a s1) λs=>R k.rest s)else Jk1 k.af blks.length (thn (R k.b s1) λs=>R k.rest s)
   |some .unk=>Jsb (Jk1 k.af blks.length (thn (R k.a s1) λs=>R k.rest s)) (Jk1 k.af blks.length (thn (R k.b s1) λs=>R k.rest s))
   |_=>none
  |_=>none
 |_=>none
inductive Entry where
 |fn (f:AFn)
 |prim (g:List AV->List Blk->Option Res)
 |fork (k:J9r)
abbrev J3J:=FuncId->Option Entry
noncomputable def Jam(T:J3J)(R:J0Y->St->Option Out)(f:FuncId)(args:List AV)(blks:List Blk):Option Res:=
 match T f with
 |none=>none
 |some (.prim g)=>g args blks
 |some (.fork k)=>if args.length=k.np then JcM R k args blks else none
 |some (.fn fn)=>
  if args.length=fn.np then
   match R fn.body ⟨J8o 0 args,blks⟩with
   |some (.normal,s)=>J3h fn blks.length s
   |some (.ret,s)=>J3h fn blks.length s
   |_=>none
  else none
open Classical in
noncomputable def same(a b:Option Out):Option Out:=
 match a,b with
 |some r,some r'=>if r=r' then some r else none
 |_,_=>none
def J6e(n:Nat)(live:List Nat)(o:Option Out):Option Out:=
 match o with
 |some (e,s)=>match clean n live s with
  |some s'=>some (e,s')
  |none=>none
 |none=>none
noncomputable def step(T:J3J)(R:J0Y->St->Option Out)(c:J0Y)(s:St):Option Out:=
 match c with
 | .skip=>some (.normal,s)
 | .bad=>none
 | .reg _ pairs ins=>match region (Jam T R) pairs ins s with
   |some s'=>some (.normal,s')
   |none=>none
 | .seq a b=>match R a s with
   |some (.normal,s')=>R b s'
   |o=>o
 | .cond c a b=>match(ev c).run s with
   |some (.p (.b x))=>if x=true then R a s else R b s
   |some .unk=>same (R a s) (R b s)
   |_=>none
 | .block id c=>match R c s with
   |some (.exit k,s')=>if k=id then some (.normal,s')else some (.exit k,s')
   |o=>o
 | .loop live c=>match clean s.sto.length live s with
   |some s'=>R (.lp s.sto.length live c) s'
   |none=>none
 | .lp n live c=>match R c s with
   |some (.normal,s')=>(match clean n live s' with
    |some e=>R (.lp n live c) e
    |none=>none)
   |o=>o
 | .scope c=>R c s
 | .exit id=>some (.exit id,s)
 | .ret=>some (.ret,s)
 | .keep live c=>R c ⟨restr live s.env,s.sto⟩
 | .tidy live c=>J6e s.sto.length live (R c s)
 | .br live pre c a b rest=>match R pre s with
   |some (.normal,s1)=>(match(ev c).run s1 with
    |some (.p (.b x))=>if x=true then thn (R a s1) λs=>R rest s else thn (R b s1) λs=>R rest s
    |some .unk=>same (J6e s1.sto.length live (thn (R a s1) λs=>R rest s)) (J6e s1.sto.length live (thn (R b s1) λs=>R rest s))
    |_=>none)
   |_=>none
end Go.Am
end
section
namespace Go.Am
def below{α:Type}(a b:Option α):Prop:=a=none\/a=b
theorem JS{α:Type}(a:Option α):below a a:=.inr rfl
theorem run_bind{α β:Type}(m:RM α)(f:α->RM β)(s:St):(m.bind f).run s=(m.run s).bind λa=>(f a).run s:=by
 induction m with
 |ret a=>rfl
 |slot n k ih=>simp only[RM.bind,RM.run];cases lk n s.env<;>simp[ih]
 |blk b k ih=>simp only[RM.bind,RM.run];cases s.sto[b]?<;>simp[ih]
 |fail=>rfl
theorem J2K{α β:Type}{m:RM α}{f e:α->RM β}{s:St}(h: ∀a,below ((f a).run s) ((e a).run s)):below ((m.bind f).run s) ((m.bind e).run s):=by
 rw[run_bind,run_bind];cases m.run s with
 |none=>exact .inl rfl
 |some a=>exact h a
variable {F F':Orc} (h: ∀f a b,below (F f a b) (F' f a b))
include h in
theorem JqD(f:FuncId)(args:List AV)(k new:Nat)(s:St):below ((J5b F f args k new).run s) ((J5b F' f args k new).run s):=by
 unfold J5b;refine J2K λa=>J2K λg=>J2K λes=>?_;split
 ·split
  ·exact JS _
  ·refine J2K λblks=>?_;rcases h f ‹_› blks with e|e
   ·rw[e];exact .inl rfl
   ·rw[e];exact JS _
 ·exact JS _
include h in
theorem JBZ(f:FuncId)(a:List AV×List (Nat×Blk))(k new:Nat)(s:St):below ((J2O F f a k new).run s) ((J2O F' f a k new).run s):=by
 unfold J2O;refine J2K λg=>J2K λes=>?_;split
 ·split
  ·exact JS _
  ·refine J2K λblks=>?_;rcases h f ‹_› blks with e|e
   ·rw[e];exact .inl rfl
   ·rw[e];exact JS _
 ·exact JS _
include h in
theorem JIv(op:AOp)(new:Nat)(s:St):below ((opR F op new).run s) ((opR F' op new).run s):=by
 cases op<;>try exact JS _
 case call f args k=>exact J2K λvs=>JqD h ..
 case callo f keep args k=>exact J2K λvs=>J2K λa=>JBZ h ..
 case callv g args k=>
  refine J2K λg=>?_;cases g<;>try exact JS _
  exact J2K λvs=>JqD h ..
include h in
theorem Jws(op:AOp)(new:Nat)(s:St):below ((opD F op new).run s) ((opD F' op new).run s):=
 J2K λ_=>JIv h ..
include h in
theorem Js8(i:J1l)(new:Nat)(s:St):below ((J1j F i new).run s) ((J1j F' i new).run s):=by
 unfold J1j;split
 ·exact Jws h ..
 ·simp only[RM.run];split
  ·split
   ·split
    ·exact Jws h ..
    ·exact JS _
   ·exact JS _
   ·exact JS _
  ·exact JS _
theorem J5t{α β:Type}(m:RM α)(f:α->RM β)(s:St):(m.bind f).reads s=m.reads s++((m.run s).map λa=>(f a).reads s).getD []:=by
 induction m with
 |ret a=>simp[RM.bind,RM.reads,RM.run]
 |slot n k ih=>simp only[RM.bind,RM.reads,RM.run];cases lk n s.env<;>simp[ih]
 |blk b k ih=>simp only[RM.bind,RM.reads,RM.run];cases s.sto[b]?<;>simp[ih]
 |fail=>simp[RM.bind,RM.reads,RM.run]
theorem J1C{α β:Type}{m:RM α}{f g:α->RM β}{s:St}(h: ∀a,(f a).run s=none\/(f a).reads s=(g a).reads s):
  ((m.bind f).run s)=none\/(m.bind f).reads s=(m.bind g).reads s:=by
 rw[run_bind,J5t,J5t];cases m.run s with
 |none=>exact .inl rfl
 |some a=>exact(h a).imp (λe=>e) (λe=>by simp[e])
include h in
theorem Jqn(f:FuncId)(args:List AV)(k new:Nat)(s:St):
  (J5b F f args k new).run s=none\/(J5b F f args k new).reads s=(J5b F' f args k new).reads s:=by
 unfold J5b;refine J1C λa=>J1C λg=>J1C λes=>?_;split
 ·split
  ·exact .inr rfl
  ·refine J1C λblks=>?_;rcases h f ‹_› blks with e|e
   ·rw[e];exact .inl rfl
   ·rw[e];exact .inr rfl
 ·exact .inr rfl
include h in
theorem JCn(f:FuncId)(a:List AV×List (Nat×Blk))(k new:Nat)(s:St):
  (J2O F f a k new).run s=none\/(J2O F f a k new).reads s=(J2O F' f a k new).reads s:=by
 unfold J2O;refine J1C λg=>J1C λes=>?_;split
 ·split
  ·exact .inr rfl
  ·refine J1C λblks=>?_;rcases h f ‹_› blks with e|e
   ·rw[e];exact .inl rfl
   ·rw[e];exact .inr rfl
 ·exact .inr rfl
include h in
theorem JJp(op:AOp)(new:Nat)(s:St):(opR F op new).run s=none\/(opR F op new).reads s=(opR F' op new).reads s:=by
 cases op<;>try exact .inr rfl
 case call f args k=>exact J1C λvs=>Jqn h ..
 case callo f keep args k=>exact J1C λvs=>J1C λa=>JCn h ..
 case callv g args k=>
  refine J1C λg=>?_;cases g<;>try exact .inr rfl
  exact J1C λvs=>Jqn h ..
include h in
theorem JwE(op:AOp)(new:Nat)(s:St):(opD F op new).run s=none\/(opD F op new).reads s=(opD F' op new).reads s:=
 J1C λ_=>JJp h ..
include h in
theorem JFb(op:AOp)(e:Bool)(new:Nat)(s:St)(v:AV):
  (RM.run (match v with
    | .p (.b x)=>if x=e then opD F op new else .ret ⟨J2a,[]⟩
    | .tup []=>.ret ⟨J2a,[]⟩
    |_=>.fail) s)=none\/(RM.reads (match v with
    | .p (.b x)=>if x=e then opD F op new else .ret ⟨J2a,[]⟩
    | .tup []=>.ret ⟨J2a,[]⟩
    |_=>.fail) s)=(RM.reads (match v with
    | .p (.b x)=>if x=e then opD F' op new else .ret ⟨J2a,[]⟩
    | .tup []=>.ret ⟨J2a,[]⟩
    |_=>.fail) s):=by
 split
 ·split
  ·exact JwE h ..
  ·exact .inr rfl
 ·exact .inr rfl
 ·exact .inr rfl
include h in
theorem JHA(i:J1l)(new:Nat)(s:St):(J1j F i new).run s=none\/(J1j F i new).reads s=(J1j F' i new).reads s:=by
 unfold J1j;split
 ·exact JwE h ..
 ·simp only[RM.run,RM.reads];split
  ·exact(JFb h ..).imp id (λe=>congrArg (Loc.slot _:: ·) e)
  ·exact .inl rfl
include h in
theorem JCZ(ins:List J1l): ∀new s,below (J2U F ins new s) (J2U F' ins new s):=by
 induction ins with
 |nil=>exact λ_ _=>JS _
 |cons i r ih=>
  intro new s;simp only[J2U];rcases Js8 h i new s with e|e
  ·rw[e];exact .inl rfl
  ·rw[e];split
   ·exact ih _ _
   ·exact JS _
include h in
theorem JCY(ins:List J1l): ∀new s l,below (J4v F ins new s l) (J4v F' ins new s l):=by
 induction ins with
 |nil=>exact λ_ _ _=>JS _
 |cons i r ih=>
  intro new s l;simp only[J4v];rcases Js8 h i new s with e|e
  ·rw[e];exact .inl rfl
  ·rcases JHA h i new s with e'|e'
   ·rw[e'];exact .inl rfl
   ·rw[e,e'];split
    ·exact ih _ _ _
    ·exact JS _
include h in
theorem JAu(pairs:List (Nat×Nat))(ins:List J1l)(s:St):below (region F pairs ins s) (region F' pairs ins s):=by
 unfold region;split
 ·exact JCZ h ..
 ·rcases JCY h ins s.sto.length ⟨s.env,Go.Am.room (news ins) s.sto⟩ []with e|e
  ·rw[e];exact .inl rfl
  ·rw[e];exact JS _
variable {T:J3J} {R R':J0Y->St->Option Out} (hR: ∀c s,below (R c s) (R' c s))
include hR in
theorem JFn(k:J9r)(args:List AV)(blks:List Blk):below (JcM R k args blks) (JcM R' k args blks):=by
 have g: ∀x s,below (Jk1 k.af blks.length (thn (R x s) λs=>R k.rest s)) (Jk1 k.af blks.length (thn (R' x s) λs=>R' k.rest s)):=by
  intro x s;rcases hR x s with e|e
  ·rw[e];exact .inl rfl
  ·rw[e];cases hx:R' x s with
   |none=>exact .inl rfl
   |some o=>
    obtain⟨q,s'⟩:=o;cases q with
    |normal=>
     simp only[thn];rcases hR k.rest s' with e'|e'
     ·rw[e'];exact .inl rfl
     ·rw[e'];exact JS _
    |_=>exact JS _
 unfold JcM;rcases hR k.p0 ⟨J8o 0 args,blks⟩with e|e
 ·rw[e];exact .inl rfl
 ·rw[e];split
  ·rename_i s0 _;rcases hR k.pre s0 with e|e
   ·rw[e];exact .inl rfl
   ·rw[e];split
    ·split
     ·split
      ·exact g _ _
      ·exact g _ _
     ·rename_i s1 _ _ _;rcases g k.a s1 with e|e
      ·rw[e];exact .inl rfl
      ·rcases g k.b s1 with e'|e'
       ·rw[e'];unfold Jsb;exact .inl (by split<;>simp_all)
       ·rw[e,e'];exact JS _
     ·exact JS _
    ·exact JS _
  ·exact JS _
include hR in
theorem JEA(f:FuncId)(a:List AV)(b:List Blk):below (Jam T R f a b) (Jam T R' f a b):=by
 unfold Jam;split
 ·exact JS _
 ·exact JS _
 ·split
  ·exact JFn hR _ _ _
  ·exact JS _
 ·split
  ·rcases hR ‹AFn›.body ⟨J8o 0 a,b⟩with e|e
   ·rw[e];exact .inl rfl
   ·rw[e];exact JS _
  ·exact JS _
include hR in
theorem Jjr(c:J0Y)(s:St):below (step T R c s) (step T R' c s):=by
 cases c with
 |bad=>exact .inl rfl
 |skip=>exact JS _
 |reg d pairs ins=>
  simp only[step];rcases JAu (JEA (T:=T) hR) pairs ins s with e|e
  ·rw[e];exact .inl rfl
  ·rw[e];exact JS _
 |seq a b=>
  simp only[step];rcases hR a s with e|e
  ·rw[e];exact .inl rfl
  ·rw[e];split
   ·exact hR _ _
   ·exact JS _
 |cond c a b=>
  simp only[step];split
  ·split
   ·exact hR _ _
   ·exact hR _ _
  ·rcases hR a s with e|e
   ·rw[e];exact .inl rfl
   ·rcases hR b s with e'|e'
    ·rw[e'];unfold same;exact .inl (by split<;>simp_all)
    ·rw[e,e'];exact JS _
  ·exact JS _
 |block id c=>
  simp only[step];rcases hR c s with e|e
  ·rw[e];exact .inl rfl
  ·rw[e];exact JS _
 |loop live c=>
  simp only[step];split
  ·exact hR _ _
  ·exact JS _
 |lp n live c=>
  simp only[step];rcases hR c s with e|e
  ·rw[e];exact .inl rfl
  ·rw[e];split
   ·split
    ·exact hR _ _
    ·exact JS _
   ·exact JS _
 |scope c=>exact hR _ _
 |exit id=>exact JS _
 |ret=>exact JS _
 |keep live c=>exact hR _ _
 |tidy live c=>
  simp only[step];rcases hR c s with e|e
  ·rw[e];exact .inl rfl
  ·rw[e];exact JS _
 |br live pre c a b rest=>
  have g: ∀x s,below (thn (R x s) λs=>R rest s) (thn (R' x s) λs=>R' rest s):=by
   intro x s;rcases hR x s with e|e
   ·rw[e];exact .inl rfl
   ·rw[e];unfold thn;split
    ·exact hR _ _
    ·exact JS _
  simp only[step];rcases hR pre s with e|e
  ·rw[e];exact .inl rfl
  ·rw[e];split
   ·split
    ·split
     ·exact g _ _
     ·exact g _ _
    ·rename_i s1 _ _ _;rcases g a s1 with e|e
     ·rw[e];exact .inl rfl
     ·rcases g b s1 with e'|e'
      ·rw[e'];unfold same;exact .inl (by split<;>simp_all [J6e])
      ·rw[e,e'];exact JS _
    ·exact JS _
   ·exact JS _
def JNF(T:J3J)(M:J0Y->St->Out->Prop):Prop:= ∀R:J0Y->St->Option Out,(∀c s r,R c s=some r->M c s r)-> ∀c s r,step T R c s=some r->M c s r
def Den(T:J3J)(c:J0Y)(s:St)(r:Out):Prop:= ∀M,JNF T M->M c s r
theorem JrJ(T:J3J):JNF T (Den T):=λR hR c s r h M e=>e R (λc s r h=>hR c s r h M e) c s r h
theorem JGj{T:J3J}{c:J0Y}{s:St}{r:Out}(h:Den T c s r): ∃R:J0Y->St->Option Out,(∀c s r,R c s=some r->Den T c s r)/\step T R c s=some r:=
 h (λc s r=> ∃R:J0Y->St->Option Out,(∀c s r,R c s=some r->Den T c s r)/\step T R c s=some r) λR hR c s r hs=>
  ⟨R,λc s r h=>let⟨R',h1,h2⟩:=hR c s r h;JrJ T R' h1 c s r h2,hs⟩
theorem JMv{T:J3J}{c:J0Y}{s:St}{r:Out}(h:Den T c s r): ∀r',Den T c s r'->r'=r:=by
 have j:Den T c s r/\ ∀r',Den T c s r'->r'=r:=h (λc s r=>Den T c s r/\ ∀r',Den T c s r'->r'=r) λR hR c s r hs=>by
  refine⟨JrJ T R (λc s r h=>(hR c s r h).1) c s r hs,λr' k=>?_⟩;obtain⟨R',g,hs'⟩:=JGj k;have b1: ∀c s,below (R c s) ((R c s).or (R' c s)):=λc s=>by cases hc:R c s<;>simp[below]
  have b2: ∀c s,below (R' c s) ((R c s).or (R' c s)):=λc s=>by
   cases hc:R c s with
   |none=>simp[below]
   |some a=>
    cases hc':R' c s with
    |none=>simp[below]
    |some e=>right;rw[(hR c s a hc).2 e (g c s e hc')];rfl
  have e1:=Jjr (T:=T) b1 c s;have e2:=Jjr (T:=T) b2 c s;rw[hs]at e1;rw[hs']at e2;rcases e1 with e1|e1
  ·cases e1
  ·rcases e2 with e2|e2
   ·cases e2
   ·rw[<-e1]at e2;injection e2
 exact j.2
open Classical in
noncomputable def X(T:J3J)(c:J0Y)(s:St):Option Out:=if h: ∃r,Den T c s r then some h.choose else none
theorem Jo6{T:J3J}{c:J0Y}{s:St}{r:Out}:X T c s=some r↔Den T c s r:=by
 unfold X;constructor
 ·intro h;split at h
  ·rename_i e;injection h with h;subst h;exact e.choose_spec
  ·cases h
 ·intro h;rw[dif_pos ⟨r,h⟩]
  congr 1
  exact JMv h _ (Exists.choose_spec (⟨r,h⟩: ∃r,Den T c s r))
theorem JQ2(T:J3J)(motive:J0Y->St->Out->Prop)
  (h: ∀R:J0Y->St->Option Out,(∀c s r,R c s=some r->motive c s r)-> ∀c s r,step T R c s=some r->motive c s r): ∀c s r,X T c s=some r->motive c s r:=
 λc s r hx=>Jo6.1 hx motive h
theorem Jbf(T:J3J)(c:J0Y)(s:St):X T c s=step T (X T) c s:=by
 have one: ∀r,step T (X T) c s=some r->X T c s=some r:=λr h=>Jo6.2 (JrJ T (X T) (λc s r h=>Jo6.1 h) c s r h);cases hs:step T (X T) c s with
 |some r=>exact one r hs
 |none=>
  cases hx:X T c s with
  |none=>rfl
  |some r=>
   obtain⟨R,hR,h⟩:=JGj (Jo6.1 hx);have:=Jjr (T:=T) (R:=R) (R':=X T) (λc s=>by
    cases hc:R c s with
    |none=>exact .inl rfl
    |some a=>right;exact(Jo6.2 (hR c s a hc)).symm) c s
   rw[h,hs]at this;rcases this with e|e<;>cases e
noncomputable def AF(T:J3J):Orc:=Jam T (X T)
end Go.Am
end
section
namespace Go.Am
structure Gh where
 μ:Nat->Option (Nat×Nat)
 C:Nat->Nat->Prop
def J0B(w:World)(r o:Nat):Option Value:=
 match w.heap[r]? with
 |some (.cells c _ _)=>c[o]?
 |_=>none
theorem J4I(w:World)(r o:Nat):w.cell? ⟨r,o,none⟩=J0B w r o:=by unfold World.cell? J0B;split<;>simp_all
theorem J2x{w:World}{r o:Nat}{c e fz}(h:w.heap[r]?=some (.cells c e fz)):J0B w r o=c[o]?:=by simp[J0B,h]
inductive J0p(w:World)(C:Nat->Nat->Prop):PV->Value->Prop where
 |b (x:Bool):J0p w C (.b x) (.bool x)
 |i (k:IntKind) (n:Int):J0p w C (.i k n) (.int k n)
 |s (l:List UInt8):J0p w C (.s l) (.string ⟨l.toArray⟩)
 |np:J0p w C .np (.pointer none)
 |nf:J0p w C .nf .nilFunc
 |sl0 (esz:Nat) (a:Option Addr) (cap:Nat):J0p w C (.sl esz []) (.slice a 0 cap)
 |sl (esz:Nat) (rows:List (List PV)) (r o cap:Nat) (vals:Nat->Nat->Value):
   rows.length<=cap->(∀row∈rows,row.length=esz)->
   (∀(i j:Nat) row x,rows[i]?=some row->row[j]?=some x->C r (o+i*esz+j)/\J0B w r (o+i*esz+j)=some (vals i j))->
   (∀(i j:Nat) row x,rows[i]?=some row->row[j]?=some x->J0p w C x (vals i j))->
   J0p w C (.sl esz rows) (.slice (some ⟨r,o,none⟩) rows.length cap)
 |slc (esz:Nat) (rows:List (List PV)) (a:Option Addr):J0p w C (.sl esz rows) (.slice a rows.length rows.length)->J0p w C (.slc esz rows) (.slice a rows.length rows.length)
structure Sn where
 σ:List Blk
 g:Gh
 w:World
def JzB(σ:List Blk)(b:Nat):Prop:= ∃cs,σ[b]?=some (.box cs)
def JPY(s:Sn)(b esz i n:Nat)(v:Value):Prop:=(s.g.μ b=none/\i=0/\n=0/\v=.slice none 0 0)\/ ∃r cap c e fz,s.g.μ b=some (r,0)/\v=.slice (some ⟨r,i*esz,none⟩) n cap/\n<=cap/\s.w.heap[r]?=some (.cells c e fz)/\(i+cap)*esz<=c.size
inductive JH(s:Sn):AV->Value->Prop where
 |p (c v):J0p s.w s.g.C c v->JH s (.p c) v
 |data (cs:List PV) (vs:Array Value):cs.length=vs.size->(∀(i:Nat) x v,cs[i]?=some x->vs[i]?=some v->J0p s.w s.g.C x v)->JH s (.data cs) (.agg vs)
 |agg (cs:List AV) (vs:Array Value):cs.length=vs.size->(∀(i:Nat) v,vs[i]?=some v->v.oneCell'=true)->(∀(i:Nat) x v,cs[i]?=some x->vs[i]?=some v->JH s x v)->JH s (.agg cs) (.agg vs)
 |tup (cs:List AV) (vs:Array Value):cs.length=vs.size->(∀(i:Nat) x v,cs[i]?=some x->vs[i]?=some v->JH s x v)->JH s (.tup cs) (.tuple vs)
 |ptr (b off r o):s.g.μ b=some (r,o)->JzB s.σ b->JH s (.ptr b off) (.pointer (some ⟨r,o+off,none⟩))
 |cp (cs:List PV) (off r o:Nat) (vals:Nat->Value):
   (∀(j:Nat) x,cs[j]?=some x->s.g.C r (o+j)/\J0B s.w r (o+j)=some (vals j))->
   (∀(j:Nat) x,cs[j]?=some x->J0p s.w s.g.C x (vals j))->JH s (.cp cs off) (.pointer (some ⟨r,o+off,none⟩))
 |slr (b i n v wm esz rows):(∃a cap,v=.slice a n cap/\(n=0\/a≠none))->s.σ[b]?=some (.arr wm esz rows)->i+n<=rows.length->(i+n=rows.length->JPY s b esz i n v)->JH s (.slr b i n) v
 |ep (b ext i off v wm esz rows):(∃r o,v=.pointer (some ⟨r,o,none⟩))->s.σ[b]?=some (.arr wm esz rows)->ext<=rows.length->
   (ext=rows.length->i<ext-> ∃r,s.g.μ b=some (r,0)/\v=.pointer (some ⟨r,i*esz+off,none⟩))->JH s (.ep b ext i off) v
 |fn (f:FuncId) (first caps:List AV) (fs cs:Array Value):first.length=fs.size->caps.length=cs.size->
   (∀(i:Nat) x v,first[i]?=some x->fs[i]?=some v->JH s x v)->(∀(i:Nat) x v,caps[i]?=some x->cs[i]?=some v->JH s x v)->
   JH s (.fn f first caps) (.func (.func f) fs cs)
 |unk (x:Bool):JH s .unk (.bool x)
def Wr1(s:Sn)(b r o:Nat):Prop:=
 match s.σ[b]? with
 |some (.box cs)=> ∃e,s.g.μ b=some (r,e)/\e<=o/\o<e+cs.length
 |some (.arr true _ _)=> ∃e,s.g.μ b=some (r,e)
 |some (.arr false esz rows)=> ∃e,s.g.μ b=some (r,e)/\rows.length*esz<=o
 |_=>False
def Wr(s:Sn)(r o:Nat):Prop:= ∃b,Wr1 s b r o
def Juq(fz:Nat×Nat)(a b:Nat):Prop:= ∀o,a<=o->o<b-> ¬(fz.1<=o/\o<fz.2)
def JeP(esz:Nat)(fz:Nat×Nat)(n:Nat):Prop:=Juq fz 0 n/\(esz≠1-> ¬(fz.1<=n/\n<fz.2))
theorem JeP.zero(esz n:Nat):JeP esz (0,0) n:=⟨λ_ _ _ h=>by simp at h,λ_ h=>by simp at h⟩
def JzF(s:Sn)(b:Nat)(cs:List AV):Prop:= ∃r o c e fz,s.g.μ b=some (r,o)/\s.w.heap[r]?=some (.cells c e fz)/\o+cs.length<=c.size/\(∀(i:Nat) x,cs[i]?=some x-> ∃v,c[o+i]?=some v/\JH s x v/\v.oneCell'=true)/\Juq fz o (o+cs.length)
def JzS(s:Sn)(b:Nat)(wm:Bool)(esz:Nat)(rows:List (List PV)):Prop:=(s.g.μ b=none/\rows=[])\/ ∃r c e fz,s.g.μ b=some (r,0)/\s.w.heap[r]?=some (.cells c e fz)/\(∀row∈rows,row.length=esz)/\rows.length*esz<=c.size/\(∀(i j:Nat) row x,rows[i]?=some row->row[j]?=some x->(∃v,c[i*esz+j]?=some v/\J0p s.w s.g.C x v)/\(wm=false->s.g.C r (i*esz+j)))/\JeP esz fz c.size
structure Inv(s:Sn):Prop where
 box: ∀b cs,s.σ[b]?=some (.box cs)->JzF s b cs
 arr: ∀b wm esz rows,s.σ[b]?=some (.arr wm esz rows)->JzS s b wm esz rows
 apart: ∀b1 b2 r o,Wr1 s b1 r o->Wr1 s b2 r o->b1=b2
 const: ∀r o,s.g.C r o->r<s.w.heap.size/\ ∀b,¬Wr1 s b r o
def Je1(W:Nat->Nat->Prop)(w0 w:World):Prop:=w0.heap.size<=w.heap.size/\(∀(r:Nat) c e fz,w0.heap[r]?=some (.cells c e fz)-> ∃c',w.heap[r]?=some (.cells c' e fz)/\c'.size=c.size/\ ∀o,¬W r o->c'[o]?=c[o]?)/\(∀(r:Nat) x,w0.heap[r]?=some x->(∀c e fz,x≠.cells c e fz)->w.heap[r]?=some x)/\w.os=w0.os/\w.output=w0.output
structure J0h(s0 s:Sn):Prop where
 keep:Je1 (Wr s0) s0.w s.w
 cmono: ∀r o,s0.g.C r o->s.g.C r o
 cnew: ∀r o,s.g.C r o->s0.g.C r o\/Wr s0 r o\/s0.w.heap.size<=r
 wnew: ∀r o,Wr s r o->Wr s0 r o\/s0.w.heap.size<=r
 len:s0.σ.length<=s.σ.length
 box: ∀b cs,s0.σ[b]?=some (.box cs)->(∃cs',s.σ[b]?=some (.box cs')/\cs'.length=cs.length)/\s.g.μ b=s0.g.μ b
 arr: ∀b wm esz rows,s0.σ[b]?=some (.arr wm esz rows)-> ∃wm' rows',s.σ[b]?=some (.arr wm' esz rows')/\(wm'=true->wm=true)/\
  rows.length<=rows'.length/\(rows'.length=rows.length->s.g.μ b=s0.g.μ b)
theorem Je1.refl(W w):Je1 W w w:=⟨zQ0 _,λ_ c _ _ h=>⟨c,h,rfl,λ_ _=>rfl⟩,λ_ _ h _=>h,rfl,rfl⟩
theorem Je1.mono{W g:Nat->Nat->Prop}{w0 w}(h:Je1 W w0 w)(hw: ∀r o,W r o->g r o):Je1 g w0 w:=
 ⟨h.1,λr c e fz hr=>let⟨c',a,b,d⟩:=h.2.1 r c e fz hr;⟨c',a,b,λo ho=>d o λx=>ho (hw _ _ x)⟩,h.2.2⟩
theorem Je1.cell{W w0 w}(h:Je1 W w0 w){r o v}(hn: ¬W r o)(hv:J0B w0 r o=some v):J0B w r o=some v:=by
 unfold J0B at hv;split at hv
 ·rename_i c e fz hr;obtain⟨c',h1,_,h3⟩:=h.2.1 r c e fz hr;rw[J2x h1,h3 o hn,hv]
 ·cases hv
theorem J0h.refl(s:Sn):J0h s s:=
 ⟨.refl _ _,λ_ _ h=>h,λ_ _ h=>.inl h,λ_ _ h=>.inl h,zQ0 _,λ_ cs h=>⟨⟨cs,h,rfl⟩,rfl⟩,
   λ_ wm _ rows h=>⟨wm,rows,h,id,zQ0 _,λ_=>rfl⟩⟩
theorem J1v{w:World}{r:Nat}{x:Obj}(h:w.heap[r]?=some x):r<w.heap.size:=by
 rcases zQ1 r w.heap.size with hl|hl
 ·exact hl
 ·simp[Array.getElem?_eq_none hl]at h
theorem J0h.trans{s0 s1 w:Sn}(h:J0h s0 s1)(g:J0h s1 w):J0h s0 w where
 keep:=by
  refine⟨zQ2 h.keep.1 g.keep.1,λr c e fz hr=>?_,λr x hr hx=>g.keep.2.2.1 r x (h.keep.2.2.1 r x hr hx) hx,g.keep.2.2.2.1.trans h.keep.2.2.2.1,g.keep.2.2.2.2.trans h.keep.2.2.2.2⟩;obtain⟨j,a1,b1,q⟩:=h.keep.2.1 r c e fz hr;obtain⟨k,a2,b2,n⟩:=g.keep.2.1 r j e fz a1;refine⟨k,a2,b2.trans b1,λo ho=>(n o λhw=>?_).trans (q o ho)⟩;rcases h.wnew r o hw with hw|hw
  ·exact ho hw
  ·have:=J1v hr;omega
 cmono r o hc:=g.cmono r o (h.cmono r o hc)
 cnew r o hc:=by
  rcases g.cnew r o hc with hc|hw|hn
  ·exact h.cnew r o hc
  ·rcases h.wnew r o hw with hw|hn
   ·exact .inr (.inl hw)
   ·exact .inr (.inr hn)
  ·exact .inr (.inr (zQ2 h.keep.1 hn))
 wnew r o hw:=by
  rcases g.wnew r o hw with hw|hn
  ·exact h.wnew r o hw
  ·exact .inr (zQ2 h.keep.1 hn)
 len:=zQ2 h.len g.len
 box b cs hb:=by obtain⟨⟨j,a1,B⟩,m1⟩:=h.box b cs hb;obtain⟨⟨k,a2,C⟩,m2⟩:=g.box b j a1;exact⟨⟨k,a2,C.trans B⟩,m2.trans m1⟩
 arr b wm esz rows hb:=by obtain⟨v,z,a1,b1,j,q⟩:=h.arr b wm esz rows hb;obtain⟨y,A,a2,b2,k,n⟩:=g.arr b v esz z a1;exact⟨y,A,a2,λe=>b1 (b2 e),zQ2 j k,λe=>(n (by omega)).trans (q (by omega))⟩
theorem Inv.cfix{s0 s:Sn}(hi:Inv s0)(t:J0h s0 s){r o v}(hc:s0.g.C r o)(hv:J0B s0.w r o=some v):J0B s.w r o=some v:=
 t.keep.cell (fun⟨b,hb⟩=>(hi.const r o hc).2 b hb) hv
theorem J0p.mono{s0 s:Sn}(hi:Inv s0)(t:J0h s0 s){x v}(h:J0p s0.w s0.g.C x v):J0p s.w s.g.C x v:=by
 induction h with
 |b x=>exact .b x
 |i k n=>exact .i k n
 |s l=>exact .s l
 |np=>exact .np
 |nf=>exact .nf
 |sl0 esz a cap=>exact .sl0 esz a cap
 |sl esz rows r o cap vals h1 h2 h3 _ ih=>
  exact .sl esz rows r o cap vals h1 h2 (λi j row x hr hx=>⟨t.cmono _ _ (h3 i j row x hr hx).1,hi.cfix t (h3 i j row x hr hx).1 (h3 i j row x hr hx).2⟩) ih
 |slc esz rows a _ ih=>exact .slc esz rows a ih
theorem JzB.mono{s0 s:Sn}(t:J0h s0 s){b}(h:JzB s0.σ b):JzB s.σ b:=by obtain⟨cs,h⟩:=h;obtain⟨⟨cs',e,_⟩,_⟩:=t.box b cs h;exact⟨cs',e⟩
theorem JH.mono{s0 s:Sn}(hi:Inv s0)(t:J0h s0 s){x v}(h:JH s0 x v):JH s x v:=by
 induction h with
 |p c v h=>exact .p c v (h.mono hi t)
 |data cs vs h1 h2=>exact .data cs vs h1 λi x v hx hv=>(h2 i x v hx hv).mono hi t
 |agg cs vs h1 h2 _ ih=>exact .agg cs vs h1 h2 ih
 |tup cs vs h1 _ ih=>exact .tup cs vs h1 ih
 |ptr b off r o h1 h2=>
  obtain⟨cs,h3⟩:=h2;exact .ptr b off r o ((t.box b cs h3).2.trans h1) (.mono t ⟨cs,h3⟩)
 |cp cs off r o vals h1 h2=>exact .cp cs off r o vals (λj x hx=>⟨t.cmono _ _ (h1 j x hx).1,hi.cfix t (h1 j x hx).1 (h1 j x hx).2⟩) λj x hx=>(h2 j x hx).mono hi t
 |slr b i n v wm esz rows k h1 h2 h3=>
  obtain⟨wm',rows',a,_,c,d⟩:=t.arr b wm esz rows h1;refine .slr b i n v wm' esz rows' k a (zQ2 h2 c) λe=>?_;have g:rows'.length=rows.length:=by omega
  rcases h3 (by omega)with⟨m,A,hn,hv⟩|⟨r,cap,C,e1,fz,m,hv,q,B,hs⟩
  ·exact .inl ⟨(d g).trans m,A,hn,hv⟩
  ·obtain⟨c',k1,k2,_⟩:=t.keep.2.1 r C e1 fz B;exact .inr ⟨r,cap,c',e1,fz,(d g).trans m,hv,q,k1,by omega⟩
 |ep b ext i off v wm esz rows k h1 h2 h3=>
  obtain⟨wm',rows',a,_,c,d⟩:=t.arr b wm esz rows h1;refine .ep b ext i off v wm' esz rows' k a (zQ2 h2 c) λe w=>?_;have g:rows'.length=rows.length:=by omega
  obtain⟨r,m,hv⟩:=h3 (by omega) w;exact⟨r,(d g).trans m,hv⟩
 |fn f first caps fs cs h1 h2 _ _ y z=>exact .fn f first caps fs cs h1 h2 y z
 |unk x=>exact .unk x
theorem J7v{s0 s:Sn}(hi:Inv s0)(t:J0h s0 s)(D:Nat->Prop)
  (same: ∀b,¬D b->s.σ[b]?=s0.σ[b]?/\s.g.μ b=s0.g.μ b)
  (n: ∀b r o v,¬D b->Wr1 s0 b r o->J0B s0.w r o=some v->J0B s.w r o=some v)
  (I: ∀b cs,D b->s.σ[b]?=some (.box cs)->JzF s b cs)
  (L: ∀b wm esz rows,D b->s.σ[b]?=some (.arr wm esz rows)->JzS s b wm esz rows)
  (k: ∀b1 b2 r o,D b1->Wr1 s b1 r o->Wr1 s b2 r o->b1=b2)
  (B: ∀r o,s.g.C r o->r<s.w.heap.size)
  (y: ∀r o b,s.g.C r o->D b-> ¬Wr1 s b r o)
  (A: ∀r o b,s.g.C r o-> ¬s0.g.C r o-> ¬D b-> ¬Wr1 s0 b r o):Inv s:=by
 have E: ∀b r o,¬D b->(Wr1 s b r o↔Wr1 s0 b r o):=by intro b r o hd;obtain⟨h1,h2⟩:=same b hd;unfold Wr1;rw[h1,h2]
 have cells: ∀(r:Nat) c e fz,s0.w.heap[r]?=some (.cells c e fz)-> ∃c',s.w.heap[r]?=some (.cells c' e fz)/\c'.size=c.size/\ ∀o v,J0B s.w r o=some v->c'[o]?=some v:=by intro r c e fz hr;obtain⟨c',h1,h2,_⟩:=t.keep.2.1 r c e fz hr;exact⟨c',h1,h2,λo v h=>by rw[<-h,J2x h1]⟩
 refine⟨?_,?_,?_,?_⟩
 ·intro b cs hb;by_cases hd:D b
  ·exact I b cs hd hb
  ·obtain⟨h1,h2⟩:=same b hd;obtain⟨r,o,c,e,fz,m,q,hl,hx,hf⟩:=hi.box b cs (h1▸hb);obtain⟨c',k1,k2,J⟩:=cells r c e fz q;refine⟨r,o,c',e,fz,h2.trans m,k1,by omega,λi x F=>?_,hf⟩;obtain⟨v,hv,hr,N⟩:=hx i x F;refine⟨v,J _ _ (n b r (o+i) v hd ?_ (by rw[J2x q];exact hv)),hr.mono hi t,N⟩;have:i<cs.length:=by
    rcases zQ1 i cs.length with h|h
    ·exact h
    ·simp[zQ3 h]at F
   have z:s0.σ[b]?=some (.box cs):=h1▸hb;unfold Wr1;rw[z];exact⟨o,m,by omega,by omega⟩
 ·intro b wm esz rows hb;by_cases hd:D b
  ·exact L b wm esz rows hd hb
  ·obtain⟨h1,h2⟩:=same b hd;rcases hi.arr b wm esz rows (h1▸hb)with⟨m,hr⟩|⟨r,c,e,fz,m,q,K,hl,hx,hf⟩
   ·exact .inl ⟨h2.trans m,hr⟩
   ·obtain⟨c',k1,k2,J⟩:=cells r c e fz q;refine .inr ⟨r,c',e,fz,h2.trans m,k1,K,by omega,λi j row x O P=>?_,k2▸hf⟩;obtain⟨⟨v,hv,hr⟩,hc⟩:=hx i j row x O P;refine⟨⟨v,J _ _ ?_,hr.mono hi t⟩,λe=>t.cmono _ _ (hc e)⟩;cases wm with
    |true=>
     refine n b r _ v hd ?_ (by rw[J2x q];exact hv);have z:s0.σ[b]?=some (.arr true esz rows):=h1▸hb;unfold Wr1;rw[z];exact⟨0,m⟩
    |false=>exact hi.cfix t (hc rfl) (by rw[J2x q];exact hv)
 ·intro b1 b2 r o h1 h2;by_cases H:D b1
  ·exact k b1 b2 r o H h1 h2
  ·by_cases G:D b2
   ·exact(k b2 b1 r o G h2 h1).symm
   ·exact hi.apart b1 b2 r o ((E b1 r o H).1 h1) ((E b2 r o G).1 h2)
 ·intro r o hc;refine⟨B r o hc,λb hb=>?_⟩;by_cases hd:D b
  ·exact y r o b hc hd hb
  ·by_cases M:s0.g.C r o
   ·exact(hi.const r o M).2 b ((E b r o hd).1 hb)
   ·exact A r o b hc M hd ((E b r o hd).1 hb)
end Go.Am
end
section
namespace Go.Am
theorem J13{σ:List Blk}{b:Nat}{x y:Blk}(h:σ[b]?=some x):(σ.set b y)[b]?=some y:=by
 have:b<σ.length:=by
  rcases zQ1 b σ.length with e|e
  ·exact e
  ·simp[zQ3 e]at h
 simp[this]
theorem J0u{σ:List Blk}{b c:Nat}{y:Blk}(h:b≠c):(σ.set b y)[c]?=σ[c]?:=by simp[h]
theorem JoB{s0:Sn}(hi:Inv s0){w':World}(j:w'.heap=s0.w.heap)(ho:w'.os=s0.w.os)(hp:w'.output=s0.w.output):
  Inv ⟨s0.σ,s0.g,w'⟩/\J0h s0 ⟨s0.σ,s0.g,w'⟩:=by
 have hc: ∀r o,J0B w' r o=J0B s0.w r o:=λr o=>by unfold J0B;rw[j]
 have t:J0h s0 ⟨s0.σ,s0.g,w'⟩:=by
  refine⟨⟨by rw[j];exact zQ0 _,λr c e fz h=>⟨c,by rw[j];exact h,rfl,λ_ _=>rfl⟩,λr x h _=>by rw[j];exact h,ho,hp⟩,λ_ _ h=>h,λ_ _ h=>.inl h,λr o ⟨b,hb⟩=>.inl ⟨b,hb⟩,zQ0 _,λ_ cs h=>⟨⟨cs,h,rfl⟩,rfl⟩,
   λ_ wm _ rows h=>⟨wm,rows,h,id,zQ0 _,λ_=>rfl⟩⟩
 exact⟨J7v hi t (λ_=>False) (λ_ _=>⟨rfl,rfl⟩) (λ_ r o v _ _ h=>by rw[hc];exact h) (λ_ _ h=>h.elim) (λ_ _ _ _ h=>h.elim)
  (λ_ _ _ _ h=>h.elim) (λr o h=>by show r<w'.heap.size;rw[j];exact(hi.const r o h).1) (λ_ _ _ _ h=>h.elim) (λ_ _ _ h k=>(k h).elim),t⟩
theorem JfN{W:Nat->Nat->Prop}{w w':World}{x:Obj}(g:w'.heap=w.heap.push x)(ho:w'.os=w.os)(hp:w'.output=w.output):Je1 W w w':=by
 have hr: ∀(r:Nat) y,w.heap[r]?=some y->w'.heap[r]?=some y:=by
  intro r y h;have:=J1v h;rw[g,Array.getElem?_push];split
  ·omega
  ·exact h
 exact⟨by rw[g];simp,λr c e fz h=>⟨c,hr r _ h,rfl,λ_ _=>rfl⟩,λr y h _=>hr r y h,ho,hp⟩
theorem J9O{w w':World}{x:Obj}(e:w'.heap=w.heap.push x):w'.heap[w.heap.size]?=some x:=by rw[e];simp
theorem JmA{w w':World}{x:Obj}(e:w'.heap=w.heap.push x){r o v}(h:J0B w r o=some v):J0B w' r o=some v:=
 (JfN (W:=λ_ _=>False) (w:=w) (w':={w' with os:=w.os,output:=w.output}) e rfl rfl).cell (λh=>h) h
def J4T(g:Gh)(new:Nat)(x:Option (Nat×Nat)):Gh:=⟨λb=>if b=new then x else g.μ b,g.C⟩
theorem JwP{s0 s:Sn}{new:Nat}{blk:Blk}(hd:s0.σ[new]?=some .dead)(hs:s.σ=s0.σ.set new blk)(x:Option (Nat×Nat))(k:s.g.μ=(J4T s0.g new x).μ):
  s0.σ.length<=s.σ.length/\(∀b cs,s0.σ[b]?=some (.box cs)->(∃cs',s.σ[b]?=some (.box cs')/\cs'.length=cs.length)/\s.g.μ b=s0.g.μ b)/\
  (∀b wm esz rows,s0.σ[b]?=some (.arr wm esz rows)-> ∃wm' rows',s.σ[b]?=some (.arr wm' esz rows')/\(wm'=true->wm=true)/\
  rows.length<=rows'.length/\(rows'.length=rows.length->s.g.μ b=s0.g.μ b)):=by
 have hn: ∀b y,s0.σ[b]?=some y->y≠.dead->s.σ[b]?=some y/\s.g.μ b=s0.g.μ b:=by
  intro b y hb hy;have j:new≠b:=by rintro rfl;rw[hd]at hb;exact hy (by injection hb with h;exact h.symm)
  rw[hs,J0u j,k];exact⟨hb,if_neg (λe=>j e.symm)⟩
 refine⟨by rw[hs];simp,λb cs h=>?_,λb wm esz rows h=>?_⟩
 ·obtain⟨a,m⟩:=hn b _ h (by simp);exact⟨⟨cs,a,rfl⟩,m⟩
 ·obtain⟨a,m⟩:=hn b _ h (by simp);exact⟨wm,rows,a,id,zQ0 _,λ_=>m⟩
def JPp(s0:Sn)(c:Array Value):Blk->Prop
 | .box cs=>cs.length<=c.size/\ ∀(i:Nat) x,cs[i]?=some x-> ∃v,c[i]?=some v/\JH s0 x v/\v.oneCell'=true
 | .arr true esz rows=>(∀row∈rows,row.length=esz)/\rows.length*esz<=c.size/\
   ∀(i j:Nat) row x,rows[i]?=some row->row[j]?=some x-> ∃v,c[i*esz+j]?=some v/\J0p s0.w s0.g.C x v
 |_=>False
theorem Jpk{s0:Sn}(hi:Inv s0){new:Nat}(hd:s0.σ[new]?=some .dead){blk:Blk}{c:Array Value}{e:TypeId}{fz:Nat×Nat}{w':World}
  (B:w'.heap=s0.w.heap.push (.cells c e fz)) (ho:w'.os=s0.w.os) (hp:w'.output=s0.w.output) (hf:Juq fz 0 c.size) (H: ∀wm esz rows,blk=.arr wm esz rows->esz≠1-> ¬(fz.1<=c.size/\c.size<fz.2)) (hb:JPp s0 c blk):
  Inv ⟨s0.σ.set new blk,J4T s0.g new (some (s0.w.heap.size,0)),w'⟩/\J0h s0 ⟨s0.σ.set new blk,J4T s0.g new (some (s0.w.heap.size,0)),w'⟩:=by
 have y:(s0.σ.set new blk)[new]?=some blk:=J13 hd;have G: ∀b r o,b≠new->(Wr1 ⟨s0.σ.set new blk,J4T s0.g new (some (s0.w.heap.size,0)),w'⟩ b r o↔Wr1 s0 b r o):=by intro b r o z;unfold Wr1;simp only[J4T,if_neg z,J0u (Ne.symm z)]
 have A: ∀r o,Wr1 ⟨s0.σ.set new blk,J4T s0.g new (some (s0.w.heap.size,0)),w'⟩ new r o->r=s0.w.heap.size:=by
  intro r o h;unfold Wr1 at h;simp only[y,J4T]at h;split at h
  ·obtain⟨C,m,_⟩:=h;simp at m;exact m.1.symm
  ·obtain⟨C,m⟩:=h;simp at m;exact m.1.symm
  ·obtain⟨C,m,_⟩:=h;simp at m;exact m.1.symm
  ·exact h.elim
 have F: ∀b r o,Wr1 s0 b r o->r<s0.w.heap.size:=by
  intro b r o h;unfold Wr1 at h;split at h
  ·rename_i cs hb;obtain⟨r',J,c',e',D,m,k,_⟩:=hi.box b cs hb;obtain⟨C,n,_⟩:=h;rw[m]at n;injection n with n;injection n with m1 _
   exact m1▸J1v k
  ·rename_i hb;obtain⟨C,n⟩:=h;rcases hi.arr b _ _ _ hb with⟨m,_⟩|⟨r',c',e',D,m,k,_⟩
   ·rw[m]at n;cases n
   ·rw[m]at n;injection n with n;injection n with m1 _
    exact m1▸J1v k
  ·rename_i hb;obtain⟨C,n,_⟩:=h;rcases hi.arr b _ _ _ hb with⟨m,_⟩|⟨r',c',e',D,m,k,_⟩
   ·rw[m]at n;cases n
   ·rw[m]at n;injection n with n;injection n with m1 _
    exact m1▸J1v k
  ·exact h.elim
 have t:J0h s0 ⟨s0.σ.set new blk,J4T s0.g new (some (s0.w.heap.size,0)),w'⟩:=by
  obtain⟨k1,k2,I⟩:=JwP (s:=⟨s0.σ.set new blk,J4T s0.g new (some (s0.w.heap.size,0)),w'⟩) hd rfl (some (s0.w.heap.size,0)) rfl;refine⟨JfN B ho hp,λ_ _ h=>h,λ_ _ h=>.inl h,?_,k1,k2,I⟩;rintro r o ⟨b,hb⟩;by_cases e:b=new
  ·subst e;exact .inr (zQ4 (A r o hb).symm)
  ·exact .inl ⟨b,(G b r o e).1 hb⟩
 refine⟨J7v hi t (λb=>b=new) (λb z=>⟨J0u (Ne.symm z),if_neg z⟩) (λb r o v _ _ h=>JmA B h) ?_ ?_ ?_ ?_ ?_ ?_,t⟩
 ·rintro b cs rfl q;rw[y]at q;injection q with q;subst q
  obtain⟨h1,h2⟩:=hb;refine⟨s0.w.heap.size,0,c,e,fz,if_pos rfl,J9O B,by omega,λi x hx=>?_,λo _ hl=>hf o (zQ5 _) (by omega)⟩;obtain⟨v,hv,hr,E⟩:=h2 i x hx;exact⟨v,by rw[zQ6];exact hv,hr.mono hi t,E⟩
 ·rintro b wm esz rows rfl q;rw[y]at q;injection q with q;subst q
  cases wm with
  |false=>exact hb.elim
  |true=>
   obtain⟨h1,h2,h3⟩:=hb;refine .inr ⟨s0.w.heap.size,c,e,fz,if_pos rfl,J9O B,h1,h2,λi j row x hr hx=>⟨?_,λh=>by cases h⟩,hf,H _ _ _ rfl⟩;obtain⟨v,hv,hr⟩:=h3 i j row x hr hx;exact⟨v,hv,hr.mono hi t⟩
 ·rintro b1 b2 r o rfl h1 h2;by_cases e:b2=b1
  ·exact e.symm
  ·have:=F _ _ _ ((G b2 r o e).1 h2);have:=A r o h1;omega
 ·intro r o hc;show r<w'.heap.size;rw[B];have:=(hi.const r o hc).1;simp;omega
 ·rintro r o b hc rfl h;have:=(hi.const r o hc).1;have:=A r o h;omega
 ·exact λr o b hc hn=>(hn hc).elim
theorem JeU{s0:Sn}(hi:Inv s0): ∀b r o,Wr1 s0 b r o->r<s0.w.heap.size:=by
 intro b r o h;unfold Wr1 at h;split at h
 ·rename_i cs hb;obtain⟨r',n,c',e',g,m,k,_⟩:=hi.box b cs hb;obtain⟨j,e,_⟩:=h;rw[m]at e;injection e with e;injection e with m1 _
  exact m1▸J1v k
 ·rename_i hb;obtain⟨j,e⟩:=h;rcases hi.arr b _ _ _ hb with⟨m,_⟩|⟨r',c',e',g,m,k,_⟩
  ·rw[m]at e;cases e
  ·rw[m]at e;injection e with e;injection e with m1 _
   exact m1▸J1v k
 ·rename_i hb;obtain⟨j,e,_⟩:=h;rcases hi.arr b _ _ _ hb with⟨m,_⟩|⟨r',c',e',g,m,k,_⟩
  ·rw[m]at e;cases e
  ·rw[m]at e;injection e with e;injection e with m1 _
   exact m1▸J1v k
 ·exact h.elim
theorem Jpe{s0:Sn}(hi:Inv s0){new:Nat}(hd:s0.σ[new]?=some .dead)(esz:Nat):
  Inv ⟨s0.σ.set new (.arr true esz []),J4T s0.g new none,s0.w⟩/\J0h s0 ⟨s0.σ.set new (.arr true esz []),J4T s0.g new none,s0.w⟩:=by
 have j:(s0.σ.set new (Blk.arr true esz []))[new]?=some (.arr true esz []):=J13 hd;have z: ∀b r o,b≠new->(Wr1 ⟨s0.σ.set new (.arr true esz []),J4T s0.g new none,s0.w⟩ b r o↔Wr1 s0 b r o):=by intro b r o k;unfold Wr1;simp only[J4T,if_neg k,J0u (Ne.symm k)]
 have q: ∀r o,¬Wr1 ⟨s0.σ.set new (.arr true esz []),J4T s0.g new none,s0.w⟩ new r o:=by intro r o h;unfold Wr1 at h;simp only[j,J4T]at h;simp at h
 have t:J0h s0 ⟨s0.σ.set new (.arr true esz []),J4T s0.g new none,s0.w⟩:=by
  obtain⟨k1,k2,x⟩:=JwP (s:=⟨s0.σ.set new (.arr true esz []),J4T s0.g new none,s0.w⟩) hd rfl none rfl;refine⟨.refl _ _,λ_ _ h=>h,λ_ _ h=>.inl h,?_,k1,k2,x⟩;rintro r o ⟨b,hb⟩;by_cases e:b=new
  ·subst e;exact(q r o hb).elim
  ·exact .inl ⟨b,(z b r o e).1 hb⟩
 refine⟨J7v hi t (λb=>b=new) (λb k=>⟨J0u (Ne.symm k),if_neg k⟩) (λb r o v _ _ h=>h) ?_ ?_ ?_ ?_ ?_ ?_,t⟩
 ·rintro b cs rfl n;rw[j]at n;cases n
 ·rintro b wm y rows rfl n;rw[j]at n;cases n;exact .inl ⟨if_pos rfl,rfl⟩
 ·rintro b1 b2 r o rfl h1 h2;exact(q r o h1).elim
 ·exact λr o hc=>(hi.const r o hc).1
 ·rintro r o b hc rfl h;exact q r o h
 ·exact λr o b hc hn=>(hn hc).elim
def Jc8(g:Gh)(p:Nat->Nat->Prop):Gh:=⟨g.μ,λr o=>g.C r o\/p r o⟩
theorem JJi{s0:Sn}(hi:Inv s0){x:Obj}{w':World}
  (e:w'.heap=s0.w.heap.push x) (ho:w'.os=s0.w.os) (hp:w'.output=s0.w.output):
  Inv ⟨s0.σ,Jc8 s0.g λr _=>r=s0.w.heap.size,w'⟩/\J0h s0 ⟨s0.σ,Jc8 s0.g λr _=>r=s0.w.heap.size,w'⟩:=by
 have t:J0h s0 ⟨s0.σ,Jc8 s0.g λr _=>r=s0.w.heap.size,w'⟩:=by
  refine⟨JfN e ho hp,λ_ _ h=>.inl h,λr o h=>?_,λr o h=>.inl h,zQ0 _,λ_ cs h=>⟨⟨cs,h,rfl⟩,rfl⟩,
   λ_ wm _ rows h=>⟨wm,rows,h,id,zQ0 _,λ_=>rfl⟩⟩
  rcases h with h|h
  ·exact .inl h
  ·exact .inr (.inr (zQ4 h.symm))
 refine⟨J7v hi t (λ_=>False) (λ_ _=>⟨rfl,rfl⟩) (λb r o v _ _ h=>JmA e h) (λ_ _ h=>h.elim) (λ_ _ _ _ h=>h.elim)
  (λ_ _ _ _ h=>h.elim) ?_ (λ_ _ _ _ h=>h.elim) ?_,t⟩
 ·intro r o hc;show r<w'.heap.size;rw[e];rcases hc with hc|hc
  ·have:=(hi.const r o hc).1;simp;omega
  ·simp;omega
 ·intro r o b hc hn _ h;rcases hc with hc|hc
  ·exact hn hc
  ·have:=JeU hi b r o h;omega
structure Put(r:Nat)(o:Nat)(vs:List Value)(w w':World):Prop where
 there: ∃c e fz c',w.heap[r]?=some (.cells c e fz)/\w'.heap[r]?=some (.cells c' e fz)/\c'.size=c.size/\o+vs.length<=c.size/\
  (∀(j:Nat) v,vs[j]?=some v->c'[o+j]?=some v)/\ ∀k,(k<o\/o+vs.length<=k)->c'[k]?=c[k]?
 rest: ∀r':Nat,r'≠r->w'.heap[r']?=w.heap[r']?
 size:w'.heap.size=w.heap.size
 os:w'.os=w.os
 output:w'.output=w.output
theorem Put.keep{W:Nat->Nat->Prop}{r o vs w w'}(h:Put r o vs w w')(hw: ∀k,o<=k->k<o+vs.length->W r k):Je1 W w w':=by
 obtain⟨c,e,fz,c',h1,h2,h3,_,_,h5⟩:=h.there;refine⟨zQ4 h.size.symm,λr' j e1 fz1 hr=>?_,λr' x hr hx=>?_,h.os,h.output⟩
 ·by_cases e':r'=r
  ·subst e';rw[h1]at hr;injection hr with hr;injection hr with a1 a2 a3
   subst a1 a2 a3;refine⟨c',h2,h3,λk hk=>h5 k ?_⟩;rcases zQ1 k o with h|h
   ·exact .inl h
   ·rcases zQ1 k (o+vs.length)with g|g
    ·exact(hk (hw k h g)).elim
    ·exact .inr g
  ·exact⟨j,by rw[h.rest r' e'];exact hr,rfl,λ_ _=>rfl⟩
 ·by_cases e':r'=r
  ·subst e';rw[h1]at hr;injection hr with hr;exact(hx _ _ _ hr.symm).elim
  ·rw[h.rest r' e'];exact hr
theorem Put.cell{r o vs w w'}(h:Put r o vs w w'){r' k v}(hv:J0B w r' k=some v)(hn:r'≠r\/k<o\/o+vs.length<=k):J0B w' r' k=some v:=by
 obtain⟨c,e,fz,c',h1,h2,h3,_,_,h5⟩:=h.there;by_cases e':r'=r
 ·subst e';rw[J2x h1]at hv;rw[J2x h2,h5 k (hn.resolve_left (λh=>h rfl)),hv]
 ·unfold J0B;rw[h.rest r' e'];exact hv
inductive JrO:Blk->Blk->Prop where
 |box (cs cs':List AV):cs'.length=cs.length->JrO (.box cs) (.box cs')
 |arr (esz:Nat) (rows rows':List (List PV)):rows'.length=rows.length->JrO (.arr true esz rows) (.arr true esz rows')
theorem Jo7{s0:Sn}(hi:Inv s0){b:Nat}{A blk:Blk}{r o:Nat}{vs:List Value}{w':World}(hb:s0.σ[b]?=some A)
  (q:Put r o vs s0.w w') (hw: ∀k,o<=k->k<o+vs.length->Wr1 s0 b r k)
  (hk:JrO A blk)
  (D: ∀cs,blk=.box cs->(∀{x v},JH s0 x v->JH ⟨s0.σ.set b blk,s0.g,w'⟩ x v)->JzF ⟨s0.σ.set b blk,s0.g,w'⟩ b cs)
  (E: ∀esz rows,blk=.arr true esz rows->(∀{x v},J0p s0.w s0.g.C x v->J0p w' s0.g.C x v)->JzS ⟨s0.σ.set b blk,s0.g,w'⟩ b true esz rows):
  Inv ⟨s0.σ.set b blk,s0.g,w'⟩/\J0h s0 ⟨s0.σ.set b blk,s0.g,w'⟩:=by
 have n:(s0.σ.set b blk)[b]?=some blk:=J13 hb;have z: ∀j r o,(Wr1 ⟨s0.σ.set b blk,s0.g,w'⟩ j r o↔Wr1 s0 j r o):=by
  intro j r o;by_cases e:j=b
  ·subst e;unfold Wr1;simp only[n,hb];cases hk with
   |box cs cs' hl=>simp[hl]
   |arr esz rows rows' hl=>simp
  ·unfold Wr1;simp only[J0u (Ne.symm e)]
 have t:J0h s0 ⟨s0.σ.set b blk,s0.g,w'⟩:=by
  refine⟨q.keep λk h1 h2=>⟨b,hw k h1 h2⟩,λ_ _ h=>h,λ_ _ h=>.inl h,λr o ⟨j,h⟩=>.inl ⟨j,(z j r o).1 h⟩,by simp,λj cs h=>?_,λj wm esz rows h=>?_⟩
  ·by_cases e:j=b
   ·subst e;rw[hb]at h;injection h with h;subst h
    cases hk with
    |box _ cs' hl=>exact⟨⟨_,n,hl⟩,rfl⟩
   ·exact⟨⟨cs,by rw[<-h];exact J0u (Ne.symm e),rfl⟩,rfl⟩
  ·by_cases e:j=b
   ·subst e;rw[hb]at h;injection h with h;subst h
    cases hk with
    |arr _ _ rows' hl=>exact⟨_,_,n,id,zQ4 hl.symm,λ_=>rfl⟩
   ·exact⟨wm,rows,by rw[<-h];exact J0u (Ne.symm e),id,zQ0 _,λ_=>rfl⟩
 refine⟨J7v hi t (λj=>j=b) (λj y=>⟨J0u (Ne.symm y),rfl⟩) ?_ ?_ ?_ ?_ ?_ ?_ ?_,t⟩
 ·intro j r' k v y F hv;refine q.cell hv ?_;rcases zQ1 k o with h|h
  ·exact .inr (.inl h)
  ·rcases zQ1 k (o+vs.length)with B|B
   ·refine .inl λe=>y ?_;subst e;exact hi.apart _ _ _ _ F (hw k h B)
   ·exact .inr (.inr B)
 ·rintro j cs rfl h;rw[n]at h;injection h with h;subst h
  exact D _ rfl λh=>h.mono hi t
 ·rintro j wm esz rows rfl h;rw[n]at h;injection h with h;subst h
  cases hk with
  |arr _ _ rows' hl=>exact E _ _ rfl λh=>h.mono hi t
 ·rintro b1 b2 r o rfl h1 h2;exact hi.apart _ _ _ _ ((z _ _ _).1 h1) ((z _ _ _).1 h2)
 ·intro r o hc;show r<w'.heap.size;rw[q.size];exact(hi.const r o hc).1
 ·rintro r o j hc rfl h;exact(hi.const r o hc).2 _ ((z _ _ _).1 h)
 ·exact λr o b hc hn=>(hn hc).elim
end Go.Am
end
section
namespace Go.Am
theorem J5w{a b n e:Nat}(h1:a<n)(h2:b<e):a*e+b<n*e:=by have h:(a+1)*e<=n*e:=zQ7 e h1;rw[zQ8]at h;omega
theorem Je{α:Type}{l:List α}{i:Nat}{x:α}(h:l[i]?=some x):i<l.length:=by
 rcases zQ1 i l.length with e|e
 ·exact e
 ·simp[zQ3 e]at h
theorem JcS{α:Type}{l:Array α}{i:Nat}{x:α}(h:l[i]?=some x):i<l.size:=by
 rcases zQ1 i l.size with e|e
 ·exact e
 ·simp[Array.getElem?_eq_none e]at h
theorem J0F{α:Type}{l:List α}{i:Nat}{x:α}(h:l[i]?=some x):x∈l:=zQ9 h
def Frz(σ τ:List Blk):Prop:=(∀(b:Nat) wm esz rows,σ[b]?=some (Blk.arr wm esz rows)-> ∃wm',τ[b]?=some (Blk.arr wm' esz rows))/\(∀(b:Nat) x,σ[b]?=some x->(∀wm esz rows,x≠Blk.arr wm esz rows)->τ[b]?=some x)
theorem Frz.refl(σ):Frz σ σ:=⟨λ_ wm _ _ h=>⟨wm,h⟩,λ_ _ h _=>h⟩
theorem Frz.trans{a b c}(h:Frz a b)(e:Frz b c):Frz a c:=
 ⟨λn wm esz rows hn=>let⟨wm',h1⟩:=h.1 n wm esz rows hn;e.1 n wm' esz rows h1,λn x hn hx=>e.2 n x (h.2 n x hn hx) hx⟩
theorem JHu{s0:Sn}(hi:Inv s0){b:Nat}{wm:Bool}{esz:Nat}{rows:List (List PV)}(hb:s0.σ[b]?=some (.arr wm esz rows)):
  ∃g',g'.μ=s0.g.μ/\Inv ⟨s0.σ.set b (.arr false esz rows),g',s0.w⟩/\J0h s0 ⟨s0.σ.set b (.arr false esz rows),g',s0.w⟩/\
   Frz s0.σ (s0.σ.set b (.arr false esz rows)):=by
 have k:(s0.σ.set b (.arr false esz rows))[b]?=some (.arr false esz rows):=J13 hb;have y:Frz s0.σ (s0.σ.set b (.arr false esz rows)):=by
  refine⟨λn wm' B rows' hn=>?_,λn x hn hx=>?_⟩
  ·by_cases e:n=b
   ·subst e;rw[hb]at hn;injection hn with hn;injection hn with h1 h2 h3;subst h2 h3;exact⟨_,k⟩
   ·exact⟨wm',by rw[J0u (Ne.symm e)];exact hn⟩
  ·by_cases e:n=b
   ·subst e;rw[hb]at hn;injection hn with hn;exact(hx _ _ _ hn.symm).elim
   ·rw[J0u (Ne.symm e)];exact hn
 cases wm with
 |false=>
  have hs:s0.σ.set b (.arr false esz rows)=s0.σ:=by
   apply JmG;intro n;by_cases e:n=b
   ·subst e;rw[k,hb]
   ·rw[J0u (Ne.symm e)]
  refine⟨s0.g,rfl,?_,?_,y⟩
  ·rw[hs];exact hi
  ·rw[hs];exact J0h.refl s0
 |true=>
  refine⟨Jc8 s0.g λr o=>s0.g.μ b=some (r,0)/\o<rows.length*esz,rfl,?_⟩;have D: ∀q r o,Wr1 ⟨s0.σ.set b (.arr false esz rows),Jc8 s0.g λr o=>s0.g.μ b=some (r,0)/\o<rows.length*esz,s0.w⟩ q r o->Wr1 s0 q r o:=by
   intro q r o h;by_cases e:q=b
   ·subst e;unfold Wr1 at h⊢;simp only[k,hb]at h⊢;obtain⟨G,m,_⟩:=h;exact⟨G,m⟩
   ·unfold Wr1 at h⊢;simp only[J0u (Ne.symm e)]at h;exact h
  have t:J0h s0 ⟨s0.σ.set b (.arr false esz rows),Jc8 s0.g λr o=>s0.g.μ b=some (r,0)/\o<rows.length*esz,s0.w⟩:=by
   refine⟨.refl _ _,λ_ _ h=>.inl h,λr o h=>?_,λr o ⟨q,h⟩=>.inl ⟨q,D q r o h⟩,by simp,λq cs h=>?_,λq wm B rows' h=>?_⟩
   ·rcases h with h|⟨h,_⟩
    ·exact .inl h
    ·refine .inr (.inl ⟨b,?_⟩);unfold Wr1;rw[hb];exact⟨0,h⟩
   ·refine⟨⟨cs,y.2 q _ h (by simp),rfl⟩,rfl⟩
   ·by_cases e:q=b
    ·subst e;rw[hb]at h;injection h with h;injection h with h1 h2 h3;subst h1 h2 h3
     exact⟨false,rows,k,by simp,zQ0 _,λ_=>rfl⟩
    ·exact⟨wm,rows',by rw[<-h];exact J0u (Ne.symm e),id,zQ0 _,λ_=>rfl⟩
  refine⟨J7v hi t (λq=>q=b) (λq z=>⟨J0u (Ne.symm z),rfl⟩) (λ_ _ _ _ _ _ h=>h) ?_ ?_ ?_ ?_ ?_ ?_,t,y⟩
  ·rintro q cs rfl h;rw[k]at h;cases h
  ·rintro q wm B rows' rfl h;rw[k]at h;cases h;rcases hi.arr _ _ _ _ hb with⟨m,hr⟩|⟨r,c,e,fz,m,F,C,hl,hx,hf⟩
   ·exact .inl ⟨m,hr⟩
   ·refine .inr ⟨r,c,e,fz,m,F,C,hl,λi j row x A E=>?_,hf⟩;obtain⟨⟨v,hv,hr⟩,_⟩:=hx i j row x A E;refine⟨⟨v,hv,hr.mono hi t⟩,λ_=>.inr ⟨m,?_⟩⟩;have h1:=Je A;have h2:=Je E;rw[C row (J0F A)]at h2;exact J5w h1 h2
  ·rintro b1 b2 r o rfl h1 h2;exact hi.apart _ _ _ _ (D _ _ _ h1) (D _ _ _ h2)
  ·intro r o hc;rcases hc with hc|⟨hc,_⟩
   ·exact(hi.const r o hc).1
   ·rcases hi.arr _ _ _ _ hb with⟨m,_⟩|⟨r',c,e,fz,m,F,_⟩
    ·rw[m]at hc;cases hc
    ·rw[m]at hc;injection hc with hc;injection hc with hc _;exact hc▸J1v F
  ·rintro r o q hc rfl h;rcases hc with hc|⟨hc,ho⟩
   ·exact(hi.const r o hc).2 _ (D _ _ _ h)
   ·unfold Wr1 at h;simp only[k]at h;obtain⟨G,_,H⟩:=h;omega
  ·intro r o q hc hn z h;rcases hc with hc|⟨hc,ho⟩
   ·exact hn hc
   ·refine z (hi.apart _ _ r o h ?_);unfold Wr1;rw[hb];exact⟨0,hc⟩
def J5z(s:Sn)(esz:Nat)(rows:List (List PV))(v:Value):Prop:= ∃a cap,v=.slice a rows.length cap/\rows.length<=cap/\(∀row∈rows,row.length=esz)/\(rows=[]\/ ∃r o,a=some ⟨r,o,none⟩/\ ∀(i j:Nat) row x,rows[i]?=some row->row[j]?=some x-> ∃u,J0B s.w r (o+i*esz+j)=some u/\J0p s.w s.g.C x u)
theorem J5z.of_sl{s:Sn}{esz rows v}(h:J0p s.w s.g.C (.sl esz rows) v):J5z s esz rows v:=by
 cases h with
 |sl0 _ a cap=>exact⟨a,cap,rfl,zQ5 _,(λ_ h=>by cases h),.inl rfl⟩
 |sl _ _ r o cap vals h1 h2 h3 h4=>exact⟨_,cap,rfl,h1,h2,.inr ⟨r,o,rfl,λi j row x hr hx=>⟨_,(h3 i j row x hr hx).2,h4 i j row x hr hx⟩⟩⟩
theorem J5z.of_slr{s:Sn}(hi:Inv s){b i n v wm esz rows}(h:JH s (.slr b i n) v)(hb:s.σ[b]?=some (.arr wm esz rows))(e:i+n=rows.length):
  J5z s esz (rows.drop i) v:=by
 cases h with
 |slr _ _ _ _ wm' z rows' _ h1 h2 h3=>
  rw[hb]at h1;injection h1 with h1;injection h1 with a1 a2 a3;subst a1 a2 a3
  have hl:(rows.drop i).length=n:=by simp;omega
  rcases h3 e with⟨m,w,hn,hv⟩|⟨r,cap,c,e1,fz,m,hv,y,B,hs⟩
  ·subst w hn;have:rows=[]:=by apply List.eq_nil_of_length_eq_zero;omega
   subst this;exact⟨none,0,by simp[hv],by simp,by simp,.inl rfl⟩
  ·rcases hi.arr b wm esz rows hb with⟨g,_⟩|⟨r',c',e',A,g,q,o,hlen,hx,_⟩
   ·rw[m]at g;cases g
   ·rw[m]at g;injection g with g;injection g with g _;subst g
    refine⟨some ⟨r,i*esz,none⟩,cap,by rw[hl];exact hv,by omega,λrow hr=>o row (JCB hr),.inr ⟨r,i*esz,rfl,λk j row x hk hj=>?_⟩⟩;rw[J8v]at hk;obtain⟨⟨u,hu,hr⟩,_⟩:=hx (i+k) j row x hk hj;refine⟨u,?_,hr⟩;rw[J2x q,<-hu]
    congr 1
    rw[J3H]
theorem J5z.mono{s0 s:Sn}(hi:Inv s0)(t:J0h s0 s){esz rows v}(h:J5z s0 esz rows v)(hc: ∀r o u,J0B s0.w r o=some u->J0B s.w r o=some u):J5z s esz rows v:=by obtain⟨a,cap,h1,h2,h3,h4⟩:=h;refine⟨a,cap,h1,h2,h3,h4.imp id ?_⟩;rintro⟨r,o,ha,hx⟩;exact⟨r,o,ha,λi j row x hr hj=>let⟨u,h5,e⟩:=hx i j row x hr hj;⟨u,hc _ _ _ h5,e.mono hi t⟩⟩
theorem JgE{s:Sn}{esz:Nat}{rows:List (List PV)}{v:Value}{a:Option Addr}{cap:Nat}(hv:v=.slice a rows.length cap)(e:rows.length<=cap)
  (h: ∀row∈rows,row.length=esz)
  (hx:rows=[]\/ ∃r o,a=some ⟨r,o,none⟩/\ ∀(i j:Nat) row x,rows[i]?=some row->row[j]?=some x->s.g.C r (o+i*esz+j)/\ ∃u,J0B s.w r (o+i*esz+j)=some u/\J0p s.w s.g.C x u):
  J0p s.w s.g.C (.sl esz rows) v:=by
 subst hv;rcases hx with rfl|⟨r,o,rfl,hx⟩
 ·exact .sl0 _ _ _
 ·refine .sl esz rows r o cap (λi j=>(J0B s.w r (o+i*esz+j)).getD .nilFunc) e h (λi j row x hr hj=>?_) λi j row x hr hj=>?_
  ·obtain⟨h1,u,h2,_⟩:=hx i j row x hr hj;exact⟨h1,by simp[h2]⟩
  ·obtain⟨_,u,h2,h3⟩:=hx i j row x hr hj;simpa[h2]using h3
theorem JJx{s0:Sn}(hi:Inv s0){b i n:Nat}{v:Value}{wm:Bool}{esz:Nat}{rows:List (List PV)}(h:JH s0 (.slr b i n) v)(hb:s0.σ[b]?=some (.arr wm esz rows))
  (e:i+n=rows.length):
  ∃g',Inv ⟨s0.σ.set b (.arr false esz rows),g',s0.w⟩/\J0h s0 ⟨s0.σ.set b (.arr false esz rows),g',s0.w⟩/\
   Frz s0.σ (s0.σ.set b (.arr false esz rows))/\J0p s0.w g'.C (.sl esz (rows.drop i)) v:=by
 obtain⟨g',K,y,t,hf⟩:=JHu hi hb;refine⟨g',y,t,hf,?_⟩;have D:=h.mono hi t;have z:(s0.σ.set b (.arr false esz rows))[b]?=some (.arr false esz rows):=J13 hb;obtain⟨a,cap,h1,h2,h3,h4⟩:=J5z.of_slr y D z e;refine JgE (s:=⟨s0.σ.set b (.arr false esz rows),g',s0.w⟩) h1 h2 h3 (h4.imp id ?_);rintro⟨r,o,rfl,hx⟩;refine⟨r,o,rfl,λk j row x hk hj=>⟨?_,hx k j row x hk hj⟩⟩;cases D with
 |slr _ _ _ _ wm' A rows' _ q1 q2 q3=>
  have q:(s0.σ.set b (.arr false esz rows))[b]?=some (.arr wm' A rows'):=q1;rw[z]at q;injection q with q;injection q with a1 a2 a3;subst a1 a2 a3
  rcases q3 e with⟨m,J,hn,hv⟩|⟨r',E,c,e1,fz,m,hv,F,L,hs⟩
  ·rw[h1]at hv;simp at hv
  ·rw[h1]at hv;injection hv with v1 v2 v3;injection v1 with v1;injection v1 with v1 v4;subst v1 v4
   rcases y.arr b false esz rows z with⟨g,_⟩|⟨r',c',e',I,g,H,G,hlen,B,_⟩
   ·rw[m]at g;cases g
   ·rw[m]at g;injection g with g;injection g with g _;subst g
    rw[J8v]at hk;have:=(B (i+k) j row x hk hj).2 rfl;rw[J3H]at this;exact this
end Go.Am
end
section
namespace Go.Am
theorem Jbb{α:Type}{a b:List α}{i:Nat}{x:α}(h:(a++b)[i]?=some x):a[i]?=some x\/(a.length<=i/\b[i-a.length]?=some x):=by
 rw[List.getElem?_append]at h;split at h
 ·exact .inl h
 ·exact .inr ⟨by omega,h⟩
def JHG(g:Gh)(wm:Bool)(r lo hi:Nat):Gh:=Jc8 g λr' o=>wm=false/\r'=r/\lo<=o/\o<hi
theorem JMs{s0:Sn}(hi:Inv s0){b:Nat}{wm:Bool}{esz:Nat}{rows new:List (List PV)}{r:Nat}{vs:List Value}{w':World}
  (hb:s0.σ[b]?=some (.arr wm esz rows)) (hm:s0.g.μ b=some (r,0)) (L: ∀row∈new,row.length=esz)
  (B:Put r (rows.length*esz) vs s0.w w') (hlen:vs.length=new.length*esz)
  (hx: ∀(i j:Nat) row x,new[i]?=some row->row[j]?=some x-> ∃u,vs[i*esz+j]?=some u/\J0p s0.w s0.g.C x u):
  Inv ⟨s0.σ.set b (.arr wm esz (rows++new)),JHG s0.g wm r (rows.length*esz) ((rows.length+new.length)*esz),w'⟩/\
  J0h s0 ⟨s0.σ.set b (.arr wm esz (rows++new)),JHG s0.g wm r (rows.length*esz) ((rows.length+new.length)*esz),w'⟩:=by
 have z:(s0.σ.set b (.arr wm esz (rows++new)))[b]?=some (.arr wm esz (rows++new)):=J13 hb;have J:(rows.length+new.length)*esz=rows.length*esz+new.length*esz:=J3H _ _ _;generalize hs:(⟨s0.σ.set b (.arr wm esz (rows++new)),JHG s0.g wm r (rows.length*esz) ((rows.length+new.length)*esz),w'⟩:Sn)=s;have A:s.σ=s0.σ.set b (.arr wm esz (rows++new)):=by rw[<-hs]
 have E:s.g.μ=s0.g.μ:=by rw[<-hs];rfl
 have F: ∀r' o,s.g.C r' o↔s0.g.C r' o\/(wm=false/\r'=r/\rows.length*esz<=o/\o<(rows.length+new.length)*esz):=by rw[<-hs];exact λ_ _=>Iff.rfl
 have hw:s.w=w':=by rw[<-hs]
 have N: ∀n r' o,Wr1 s n r' o->Wr1 s0 n r' o:=by
  intro n r' o h;by_cases e:n=b
  ·subst e;unfold Wr1 at h⊢;rw[A,z]at h;rw[hb];cases wm with
   |true=>rw[E]at h;exact h
   |false=>
    rw[E]at h;obtain⟨U,m,I⟩:=h;refine⟨U,m,zQ2 (zQ7 _ ?_) I⟩;simp
  ·unfold Wr1 at h⊢;rw[A,E,J0u (Ne.symm e)]at h;exact h
 have y: ∀o,rows.length*esz<=o->Wr1 s0 b r o:=by
  intro o ho;unfold Wr1;rw[hb];cases wm with
  |true=>exact⟨0,hm⟩
  |false=>exact⟨0,hm,ho⟩
 have t:J0h s0 s:=by
  refine⟨?_,λr o h=>(F r o).2 (.inl h),λr' o h=>?_,λr o ⟨n,h⟩=>.inl ⟨n,N n r o h⟩,by rw[A];simp,λn cs h=>?_,λn wm' P rows' h=>?_⟩
  ·rw[hw];exact B.keep λk h1 _=>⟨b,y k h1⟩
  ·rcases(F r' o).1 h with h|⟨_,e,h,_⟩
   ·exact .inl h
   ·subst e;exact .inr (.inl ⟨b,y o h⟩)
  ·have e:n≠b:=by rintro rfl;rw[hb]at h;cases h
   exact⟨⟨cs,by rw[A,J0u (Ne.symm e)];exact h,rfl⟩,by rw[E]⟩
  ·by_cases e:n=b
   ·subst e;rw[hb]at h;injection h with h;injection h with h1 h2 h3;subst h1 h2 h3
    exact⟨wm,rows++new,by rw[A];exact z,id,by simp,λ_=>by rw[E]⟩
   ·exact⟨wm',rows',by rw[A,J0u (Ne.symm e)];exact h,id,zQ0 _,λ_=>by rw[E]⟩
 refine⟨J7v hi t (λn=>n=b) (λn D=>⟨by rw[A];exact J0u (Ne.symm D),by rw[E]⟩) ?_ ?_ ?_ ?_ ?_ ?_ ?_,t⟩
 ·intro n r' k v D S hv;rw[hw];refine B.cell hv ?_;by_cases H:r'=r
  ·subst H;rcases zQ1 k (rows.length*esz)with h|h
   ·exact .inr (.inl h)
   ·exact(D (hi.apart _ _ _ _ S (y k h))).elim
  ·exact .inl H
 ·rintro n cs rfl h;rw[A,z]at h;cases h
 ·rintro n wm' P rows' rfl h;rw[A,z]at h;cases h;obtain⟨c,e,fz,c',p1,W,V,p4,Y,Z⟩:=B.there;rcases hi.arr _ _ _ _ hb with⟨m,_⟩|⟨r',c0,e0,a1,m,M,K,hl,Q,hf⟩
  ·rw[hm]at m;cases m
  ·rw[hm]at m;injection m with m;injection m with m _;subst m
   rw[p1]at M;injection M with M;injection M with q1 q2 q3;subst q1 q2 q3
   refine .inr ⟨r,c',e,fz,by rw[E];exact hm,by rw[hw];exact W,?_,?_,?_,?_⟩
   ·intro row hr;rcases J1Q.1 hr with hr|hr
    ·exact K row hr
    ·exact L row hr
   ·simp only[J8q];rw[J];omega
   ·intro i j row x q G;rcases Jbb q with q|⟨T,q⟩
    ·obtain⟨⟨v,hv,hr⟩,hc⟩:=Q i j row x q G;have h1:=Je q;have h2:=Je G;rw[K row (J0F q)]at h2;have:=J5w h1 h2;exact⟨⟨v,by rw[Z _ (.inl this)];exact hv,hr.mono hi t⟩,λe=>(F _ _).2 (.inl (hc e))⟩
    ·obtain⟨u,hu,hr⟩:=hx _ j row x q G;have h1:=Je q;have h2:=Je G;rw[L row (J0F q)]at h2;have h3:=J5w h1 h2;have h4:i*esz+j=rows.length*esz+((i-rows.length)*esz+j):=by rw[<-Jbe,<-J3H,Nat.add_sub_cancel' T]
     refine⟨⟨u,by rw[h4];exact Y _ u hu,hr.mono hi t⟩,λe=>(F _ _).2 (.inr ⟨e,rfl,by omega,by rw[J];omega⟩)⟩
   ·rw[V];exact hf
 ·rintro b1 b2 r o rfl h1 h2;exact hi.apart _ _ _ _ (N _ _ _ h1) (N _ _ _ h2)
 ·intro r' o hc;rw[hw,B.size];rcases(F r' o).1 hc with hc|⟨_,e,_⟩
  ·exact(hi.const r' o hc).1
  ·subst e;exact JeU hi b _ _ (y _ (zQ0 _))
 ·rintro r' o n hc rfl h;rcases(F r' o).1 hc with hc|⟨e,H,O,R⟩
  ·exact(hi.const r' o hc).2 _ (N _ _ _ h)
  ·subst e H;unfold Wr1 at h;rw[A,z]at h;obtain⟨U,_,I⟩:=h;simp only[J8q]at I;omega
 ·intro r' o n hc hn D h;rcases(F r' o).1 hc with hc|⟨e,H,O,R⟩
  ·exact hn hc
  ·subst H;exact D (hi.apart _ _ _ o h (y o O))
theorem JKF{s0:Sn}(hi:Inv s0){b:Nat}{wm:Bool}{esz:Nat}{rows new:List (List PV)}{c:Array Value}{e:TypeId}{w':World}
  (hb:s0.σ[b]?=some (.arr wm esz rows)) (D:new≠[]) (z: ∀row∈rows,row.length=esz) (F: ∀row∈new,row.length=esz)
  (I:w'.heap=s0.w.heap.push (.cells c e (0,0))) (ho:w'.os=s0.w.os) (hp:w'.output=s0.w.output)
  (H:(rows.length+new.length)*esz<=c.size)
  (hx: ∀(i j:Nat) row x,(rows++new)[i]?=some row->row[j]?=some x-> ∃u,c[i*esz+j]?=some u/\J0p s0.w s0.g.C x u):
  ∃g',g'.μ b=some (s0.w.heap.size,0)/\Inv ⟨s0.σ.set b (.arr wm esz (rows++new)),g',w'⟩/\J0h s0 ⟨s0.σ.set b (.arr wm esz (rows++new)),g',w'⟩:=by
 have q:(s0.σ.set b (.arr wm esz (rows++new)))[b]?=some (.arr wm esz (rows++new)):=J13 hb;refine⟨⟨λk=>if k=b then some (s0.w.heap.size,0)else s0.g.μ k,λr o=>s0.g.C r o\/(wm=false/\r=s0.w.heap.size/\o<(rows.length+new.length)*esz)⟩,if_pos rfl,?_⟩;generalize hs:(⟨s0.σ.set b (.arr wm esz (rows++new)),_,w'⟩:Sn)=s;have y:s.σ=s0.σ.set b (.arr wm esz (rows++new)):=by rw[<-hs]
 have A: ∀k,s.g.μ k=if k=b then some (s0.w.heap.size,0)else s0.g.μ k:=by rw[<-hs];exact λ_=>rfl
 have B: ∀r' o,s.g.C r' o↔s0.g.C r' o\/(wm=false/\r'=s0.w.heap.size/\o<(rows.length+new.length)*esz):=by rw[<-hs];exact λ_ _=>Iff.rfl
 have hw:s.w=w':=by rw[<-hs]
 have N:0<new.length:=List.length_pos_iff.2 D;have M: ∀k r' o,k≠b->(Wr1 s k r' o↔Wr1 s0 k r' o):=by intro k r' o e;unfold Wr1;rw[y,A,if_neg e,J0u (Ne.symm e)]
 have E: ∀r' o,Wr1 s b r' o->r'=s0.w.heap.size/\(wm=false->(rows.length+new.length)*esz<=o):=by
  intro r' o h;unfold Wr1 at h;rw[y,q,A,if_pos rfl]at h;cases wm with
  |true=>obtain⟨P,m⟩:=h;simp at m;exact⟨m.1.symm,λh=>by cases h⟩
  |false=>obtain⟨P,m,K⟩:=h;simp at m;simp only[J8q]at K;exact⟨m.1.symm,λ_=>K⟩
 have t:J0h s0 s:=by
  refine⟨?_,λr o h=>(B r o).2 (.inl h),λr' o h=>?_,λr o ⟨k,h⟩=>?_,by rw[y];simp,λk cs h=>?_,λk wm' L rows' h=>?_⟩
  ·rw[hw];exact JfN I ho hp
  ·rcases(B r' o).1 h with h|⟨_,h,_⟩
   ·exact .inl h
   ·exact .inr (.inr (zQ4 h.symm))
  ·by_cases n:k=b
   ·subst n;exact .inr (zQ4 (E r o h).1.symm)
   ·exact .inl ⟨k,(M k r o n).1 h⟩
  ·have n:k≠b:=by rintro rfl;rw[hb]at h;cases h
   exact⟨⟨cs,by rw[y,J0u (Ne.symm n)];exact h,rfl⟩,by rw[A,if_neg n]⟩
  ·by_cases n:k=b
   ·subst n;rw[hb]at h;injection h with h;injection h with h1 h2 h3;subst h1 h2 h3
    exact⟨wm,rows++new,by rw[y];exact q,id,by simp,λh=>by simp at h;exact(D h).elim⟩
   ·exact⟨wm',rows',by rw[y,J0u (Ne.symm n)];exact h,id,zQ0 _,λ_=>by rw[A,if_neg n]⟩
 refine⟨J7v hi t (λk=>k=b) (λk hn=>⟨by rw[y];exact J0u (Ne.symm hn),by rw[A,if_neg hn]⟩) (λb r o v _ _ h=>by rw[hw];exact JmA I h) ?_ ?_ ?_ ?_ ?_ ?_,t⟩
 ·rintro k cs rfl h;rw[y,q]at h;cases h
 ·rintro k wm' L rows' rfl h;rw[y,q]at h;cases h;refine .inr ⟨s0.w.heap.size,c,e,(0,0),by rw[A,if_pos rfl],by rw[hw];exact J9O I,?_,by simp only[J8q];exact H,?_,JeP.zero _ _⟩
  ·intro row hr;rcases J1Q.1 hr with hr|hr
   ·exact z row hr
   ·exact F row hr
  ·intro i j row x G J;obtain⟨u,hu,hr⟩:=hx i j row x G J;refine⟨⟨u,hu,hr.mono hi t⟩,λO=>(B _ _).2 (.inr ⟨O,rfl,?_⟩)⟩;have h1:=Je G;have h2:=Je J;have h3:row.length=esz:=by
    rcases J1Q.1 (J0F G)with hr|hr
    ·exact z row hr
    ·exact F row hr
   rw[h3]at h2;simp only[J8q]at h1;exact J5w h1 h2
 ·rintro b1 b2 r o rfl h1 h2;by_cases n:b2=b1
  ·exact n.symm
  ·have:=JeU hi _ _ _ ((M b2 r o n).1 h2);have:=(E r o h1).1;omega
 ·intro r' o hc;rw[hw,I];rcases(B r' o).1 hc with hc|⟨_,hc,_⟩
  ·have:=(hi.const r' o hc).1;simp;omega
  ·simp;omega
 ·rintro r' o k hc rfl h;have h1:=E _ _ h;rcases(B r' o).1 hc with hc|⟨e1,hc,ho⟩
  ·have:=(hi.const r' o hc).1;omega
  ·have:=h1.2 e1;omega
 ·intro r' o k hc hn D h;rcases(B r' o).1 hc with hc|⟨_,hc,_⟩
  ·exact hn hc
  ·have:=JeU hi _ _ _ h;omega
end Go.Am
end
section
namespace Go.Am
def okP:PV->Value->Bool
 | .b x,.bool y=>x==y
 | .i k n,.int h e=>k==h&&n==e
 | .s l,.string g=>l==g.data.toList
 | .sl _ [],.slice none 0 0=>true
 | .np,.pointer none=>true
 | .nf,.nilFunc=>true
 |_,_=>false
def JqV:List PV->List Value->Bool
 |[],[]=>true
 |x::xs,v::vs=>okP x v&&JqV xs vs
 |_,_=>false
def okC:AV->Value->Bool
 | .p c,v=>okP c v
 | .data cs,.agg vs=>JqV cs vs.toList
 | .fn f [] [],.func (.func g) a c=>f==g&&a.isEmpty&&c.isEmpty
 | .tup [],.tuple vs=>vs.isEmpty
 |_,_=>false
def J18:Opd->Operand->Bool
 | .t n,.tmp m=>n==m
 | .c x,.const v=>okC x v
 | .c (.fn f [] []),.func g=>f==g
 |_,_=>false
def J5O:List Opd->List Operand->Bool
 |[],[]=>true
 |x::xs,y::e=>J18 x y&&J5O xs e
 |_,_=>false
def JeE:Option Opd->Option Operand->Bool
 |none,none=>true
 |some x,some y=>J18 x y
 |_,_=>false
section
variable (P:Program)
def szT(t:TypeId):Option Nat:=(P.info? t).map (·.size)
def byT(t:TypeId):Option Nat:=(P.info? t).map (·.bytes)
def zeT(t:TypeId):Option Value:=(P.info? t).bind (·.zero)
def Jea:TypeDesc->Bool
 | .struct _| .array _ _=>true
 |_=>false
def agT(t:TypeId):Option Bool:=(P.underlying t).map Jea
def elT(t:TypeId):Option TypeId:=match P.underlying t with
 |some (.slice e)=>some e
 |_=>none
def J5Y(t:TypeId):Bool:=match P.underlying t with
 |some .string=>true
 |_=>false
def JGS(t:TypeId):Bool:=match P.underlying t with
 |some (.int .u8)=>true
 |_=>false
def Jw8(t:TypeId):Bool:=match P.underlying t with
 |some .bool=>true
 |_=>false
def JHl(t:TypeId):Bool:=match P.underlying t with
 |some (.int _)=>true
 |_=>false
def JAZ(k:IntKind)(t:TypeId):Bool:=match P.underlying t with
 |some (.int e)=>k==e
 |_=>false
def arT(t:TypeId):Option (Nat×TypeId):=match P.underlying t with
 |some (.array n e)=>some (n,e)
 |_=>none
def flT(t:TypeId):Option (Array Field):=match P.underlying t with
 |some (.struct fs)=>some fs
 |_=>none
def Jhi(K:TypeId->Option (List KD)):Nat->List Field->Option (List KD)
 |_,[]=>some []
 |off,f::fs=>
  if f.name= "_" ∨f.offset≠off then none
  else match K f.type with
   |none=>none
   |some ks=>if szT P f.type=some ks.length/\0<ks.length then
     match Jhi K (off+ks.length) fs with
     |some l=>some (ks++l)
     |none=>none
    else none
def J9c:Nat->TypeId->Option (List KD)
 |0,_=>none
 |d+1,t=>match P.underlying t with
  |some .bool=>some [.b]
  |some (.int k)=>some [.i k]
  |some .string=>some [.s]
  |some (.struct fs)=>if P.stoodInHeld t then none else Jhi P (J9c d) 0 fs.toList
  |some (.array n e)=>match J9c d e with
   |some ks=>if szT P e=some ks.length/\0<ks.length then some (List.replicate n ks).flatten else none
   |none=>none
  |_=>none
def JOh(t:TypeId):Operand->Bool
 | .const (.slice none 0 0)=>(elT P t).isSome
 |_=>false
def JM8(t:TypeId):Operand->Bool
 | .const (.pointer none)=>(match P.underlying t with|some (.pointer _)=>true|_=>false)
 |_=>false
def JOJ(t:TypeId):Operand->Bool
 | .const .nilFunc=>(match P.underlying t with|some (.func _ _ _)=>true|_=>false)
 |_=>false
def Jaf(zero:List PV)(t:TypeId):Bool:=match zeT P t with
 |some v=>JqV zero v.cells.toList
 |none=>false
def JzP(t:TypeId)(os:List (Nat×Nat)):Bool:=match zeT P t with
 |some v=>os.all λx=>match v.cells[x.1]? with
  |some (.slice none 0 0)=>true
  |_=>false
 |none=>false
def J5T(place:Nat->Option (Nat×Nat)):List (Nat×Nat×Opd)->List (Nat×Operand)->Bool
 |[],[]=>true
 |(off,size,x)::r,(i,y)::q=>place i==some (off,size)&&J18 x y&&J5T place r q
 |_,_=>false
def Jdb(fs:Array Field)(i:Nat):Option (Nat×Nat):=match fs[i]? with
 |some f=>(szT P f.type).map λn=>(f.offset,n)
 |none=>none
def Jjd:List (Nat×Opd)->List (Nat×Operand)->Bool
 |[],[]=>true
 |(i,x)::r,(j,y)::q=>i==j&&J18 x y&&Jjd r q
 |_,_=>false
def JX(F:AOp)(op:Op):Bool:=
 match F with
 | .mv x=>match op with
   | .move y| .assign y=>J18 x y
   |_=>false
 | .mkarr _ x=>match op with
   | .move (.const (.slice none 0 0))| .assign (.const (.slice none 0 0))=>(match x with| .c _=>true|_=>false)
   |_=>false
 | .pick c a b=>match op with
   | .pick c' G E=>J18 c c'&&J18 a G&&J18 b E
   |_=>false
 | .newbox zero=>match op with
   | .alloc t=>Jaf P zero t
   |_=>false
 | .box _ x=>match op with
   | .box _ y=>J18 x y
   |_=>false
 | .build zero parts=>match op with
   | .build t ps=>Jaf P zero t&&(match P.underlying t with
     |some (.struct fs)=>(fs.all λf=>(szT P f.type).isSome)&&J5T (Jdb P fs) parts ps.toList
     |some (.array _ e)=>(match szT P e with
      |some n=>J5T (λi=>some (i*n,n)) parts ps.toList
      |none=>false)
     |_=>false)
   |_=>false
 | .lits _ esz n zero parts=>match op with
   | .buildSlice t len ps=>len==n&&(match elT P t with
     |some e=>szT P e==some esz&&decide (n*esz<=16777216)&&Jaf P zero e&&zero.length==esz&&decide (0<esz)&&Jjd parts ps.toList
     |none=>false)
   |_=>false
 | .load agg size x=>match op with
   | .load t y=>agT P t==some agg&&szT P t==some size&&J18 x y&&(agg||size==1)
   |_=>false
 | .store size x v=>match op with
   | .store t y u=>szT P t==some size&&J18 x y&&J18 v u
   |_=>false
 | .nilchk x=>match op with
   | .nilCheck y=>J18 x y
   |_=>false
 | .bin I bt x y=>match op with
   | .binOp A t o h _=>I==A&&J18 x o&&(match bt with
     | .plain=>J18 y h
     | .bool=>J18 y h&&Jw8 P t
     | .flat ks=>J18 y h&&J9c P 100 t==some ks&&agT P t==some true&& !P.eqGuardType P.depth t
     | .nils=>JOh P t h
     | .nilp=>JM8 P t h
     | .nilf=>JOJ P t h)
   |_=>false
 | .un H x=>match op with
   | .unOp B _ y=>H==B&&J18 x y
   |_=>false
 | .conv k x=>match op with
   | .convert q dst y=>J18 x y&&(match k with
     | .int k=>JHl P q&&JAZ P k dst
     | .same=>J5Y P q&&J5Y P dst
     | .toStr=>(match elT P q with|some e=>JGS P e&&szT P e==some 1|none=>false)&&J5Y P dst
     | .toBytes _=>J5Y P q&&(match elT P dst with|some e=>JGS P e&&szT P e==some 1|none=>false))
   |_=>false
 | .mkslice _ esz bytes zero l c=>match op with
   | .makeSlice t J c'=>J18 l J&&J18 c c'&&(match elT P t with
     |some e=>szT P e==some esz&&byT P e==some bytes&&Jaf P zero e&&zero.length==esz&&decide (0<esz)&&decide (0<bytes)
     |none=>false)
   |_=>false
 | .slice k x lo hi mx=>match op with
   | .slice t o C z D=>J18 x o&&JeE lo C&&JeE hi z&&JeE mx D&&(match k with
     | .str=>J5Y P t
     | .sl esz=>(match elT P t with|some e=>szT P e==some esz|none=>false))
   |_=>false
 | .faddr off x=>match op with
   | .fieldAddr t y f=>J18 x y&&(match flT P t with
     |some fs=>(match fs[f]? with
      |some f=>f.offset==off&&(match szT P f.type with|some n=>n !=0|none=>false)
      |none=>false)
     |none=>false)
   |_=>false
 | .field agg off size x=>match op with
   | .field t y f=>J18 x y&&(match flT P t with
     |some fs=>(match fs[f]? with
      |some f=>f.offset==off&&szT P f.type==some size&&agT P f.type==some agg&&(agg||size==1)
      |none=>false)
     |none=>false)
   |_=>false
 | .iaddr esz x i=>match op with
   | .indexAddr t y j=>J18 x y&&J18 i j&&(match elT P t with|some e=>szT P e==some esz|none=>false)
   |_=>false
 | .aaddr len esz x i=>match op with
   | .indexAddr t y j=>J18 x y&&J18 i j&&(match arT P t with|some (n,e)=>n==len&&szT P e==some esz|none=>false)
   |_=>false
 | .sidx x i=>match op with
   | .index t y j=>J18 x y&&J18 i j&&J5Y P t
   |_=>false
 | .aidx agg len esz x i=>match op with
   | .index t y j=>J18 x y&&J18 i j&&(match arT P t with|some (n,e)=>n==len&&szT P e==some esz&&agT P e==some agg&&(agg||esz==1)|none=>false)
   |_=>false
 | .extr x i=>match op with
   | .extract y j=>J18 x y&&i==j
   |_=>false
 | .call f args _=>match op with
   | .call c=>(match c.callee with
     | .value (.func g)=>f==g&&J5O args c.args.toList
     |_=>false)
   |_=>false
 | .callv x args _=>match op with
   | .call c=>(match c.callee with
     | .value y=>J18 x y&&J5O args c.args.toList
     |_=>false)
   |_=>false
 | .len str x=>match op with
   | .call c=>(match c.callee with
     | .builtin .len=>(match c.args.toList,c.argTypes.toList with
       |[y],[t]=>J18 x y&&(if str then J5Y P t else(elT P t).isSome)
       |_,_=>false)
     |_=>false)
   |_=>false
 | .alen n=>match op with
   | .call c=>(match c.callee with
     | .builtin .len=>(match c.args.toList,c.argTypes.toList with
       |[_],[t]=>(match P.underlying t with
        |some (.array m _)=>m==n
        |some (.pointer a)=>(match arT P a with|some (m,_)=>m==n|none=>false)
        |_=>false)
       |_,_=>false)
     |_=>false)
   |_=>false
 | .appn esz bytes zero y=>match op with
   | .call c=>(match c.callee with
     | .builtin .append=>(match c.args.toList,c.argTypes.toList with
       |[.const (.slice none 0 0),h],[t,u]=>J18 y h&&((elT P u).isSome||J5Y P u)&&(match elT P t with
        |some e=>szT P e==some esz&&byT P e==some bytes&&Jaf P zero e&&zero.length==esz&&decide (0<esz)&&decide (0<bytes)
        |none=>false)
       |_,_=>false)
     |_=>false)
   |_=>false
 | .app esz bytes zero x y=>match op with
   | .call c=>(match c.callee with
     | .builtin .append=>(match c.args.toList,c.argTypes.toList with
       |[o,h],[t,u]=>J18 x o&&J18 y h&&((elT P u).isSome||J5Y P u)&&(match elT P t with
        |some e=>szT P e==some esz&&byT P e==some bytes&&Jaf P zero e&&zero.length==esz&&decide (0<esz)&&decide (0<bytes)
        |none=>false)
       |_,_=>false)
     |_=>false)
   |_=>false
 | .appc esz bytes zero x y=>match op with
   | .call c=>(match c.callee with
     | .builtin .append=>(match c.args.toList,c.argTypes.toList with
       |[o,h],[t,u]=>J18 x o&&J18 y h&&((elT P u).isSome||J5Y P u)&&(match elT P t with
        |some e=>szT P e==some esz&&byT P e==some bytes&&Jaf P zero e&&zero.length==esz&&decide (0<esz)&&decide (0<bytes)
        |none=>false)
       |_,_=>false)
     |_=>false)
   |_=>false
 | .appz esz bytes zero x y=>match op with
   | .call c=>(match c.callee with
     | .builtin .append=>(match c.args.toList,c.argTypes.toList with
       |[o,h],[t,u]=>J18 x o&&J18 y h&&(match P.underlying u with
        |some (.int _)=>true
        |_=>false)&&(match elT P t with
        |some e=>szT P e==some esz&&byT P e==some bytes&&Jaf P zero e&&zero.length==esz&&decide (0<esz)&&decide (0<bytes)
        |none=>false)
       |_,_=>false)
     |_=>false)
   |_=>false
 | .mm mx x y=>match op with
   | .call c=>(match c.callee with
     | .builtin b=>b==(if mx then .max else .min)&&(match c.args.toList with
       |[o,h]=>J18 x o&&J18 y h
       |_=>false)
     |_=>false)
   |_=>false
 | .newboxo zero os=>match op with
   | .alloc t=>Jaf P zero t&&JzP P t os
   |_=>false
 | .buildo zero parts os=>match op with
   | .build t ps=>Jaf P zero t&&JzP P t os&&(match P.underlying t with
     |some (.struct fs)=>(fs.all λf=>(szT P f.type).isSome)&&J5T (Jdb P fs) parts ps.toList
     |_=>false)
   |_=>false
 | .storen _ x=>match op with
   | .store t y (.const (.slice none 0 0))=>szT P t==some 1&&J18 x y
   |_=>false
 | .callo f _ args _=>match op with
   | .call c=>(match c.callee with
     | .value (.func g)=>f==g&&J5O args c.args.toList
     |_=>false)
   |_=>false
 | .mkfn f first caps=>match op with
   | .makeFunc (.func g) r w=>f==g&&J5O first r.toList&&J5O caps w.toList
   |_=>false
end
end Go.Am
end
section
namespace Go.Am
theorem bind_some{α β:Type}{m:RM α}{f:α->RM β}{s:St}{b:β}(h:(m.bind f).run s=some b): ∃a,m.run s=some a/\(f a).run s=some b:=by
 rw[run_bind]at h;cases hm:m.run s with
 |none=>rw[hm]at h;cases h
 |some a=>rw[hm]at h;exact⟨a,rfl,h⟩
theorem J20{x:Option AV}{s:St}{e:Eff}(h:(val x).run s=some e): ∃v,x=some v/\e=⟨v,[]⟩:=by
 cases x with
 |none=>cases h
 |some v=>simp only[val,RM.run]at h;injection h with h;exact⟨v,rfl,h.symm⟩
theorem JFv{w C c v}(h:okP c v=true):J0p w C c v:=by
 unfold okP at h;split at h
 ·rename_i x y;have:x=y:=by simpa using h
  subst this;exact .b _
 ·simp at h;obtain⟨rfl,rfl⟩:=h;exact .i _ _
 ·rename_i l e;have:l=e.data.toList:=by simpa using h
  subst this;exact .s _
 ·exact .sl0 _ _ _
 ·exact .np
 ·exact .nf
 ·cases h
theorem Jju{w C}: ∀{cs:List PV} {vs:List Value},JqV cs vs=true->cs.length=vs.length/\ ∀(i:Nat) x v,cs[i]?=some x->vs[i]?=some v->J0p w C x v
 |[],[],_=>⟨rfl,λi x v h=>by simp at h⟩
 |x::xs,v::vs,h=>by
  simp only[JqV,JY]at h;obtain⟨h1,h2⟩:=Jju (w:=w) (C:=C) h.2;refine⟨by simp[h1],λi y u hy hu=>?_⟩;cases i with
  |zero=>simp at hy hu;subst hy hu;exact JFv h.1
  |succ i=>simp at hy hu;exact h2 i y u hy hu
 |[],_::_,h=>by simp[JqV]at h
 |_::_,[],h=>by simp[JqV]at h
theorem JMm{s:Sn}{c v}(h:okC c v=true):JH s c v:=by
 unfold okC at h;split at h
 ·exact .p _ _ (JFv h)
 ·rename_i cs vs;obtain⟨h1,h2⟩:=Jju (w:=s.w) (C:=s.g.C) h;exact .data _ _ (by simpa using h1) λi x v hx hv=>h2 i x v hx (by simpa using hv)
 ·rename_i f g a c;simp at h;obtain⟨⟨rfl,rfl⟩,rfl⟩:=h;exact .fn _ _ _ _ _ rfl rfl (λi x v h=>by simp at h) (λi x v h=>by simp at h)
 ·simp at h;subst h;exact .tup _ _ rfl (λi x v h=>by simp at h)
 ·cases h
def J0m(s:Sn)(tmps:Array Value)(env:List (Nat×AV)):Prop:= ∀n x,lk n env=some x-> ∃v,tmps[n]?=some v/\JH s x v
theorem J0m.mono{s0 s:Sn}(hi:Inv s0)(t:J0h s0 s){tmps env}(h:J0m s0 tmps env):J0m s tmps env:=
 λn x hx=>let⟨v,h1,h2⟩:=h n x hx;⟨v,h1,h2.mono hi t⟩
section
variable {P:Program} {s:Sn} {a:Act} {env:List (Nat×AV)}
theorem J0c(he:J0m s a.tmps env){x:Opd}{y:Operand}{v:AV}(h:(ev x).run ⟨env,s.σ⟩=some v)(hc:J18 x y=true):JH s v (a.eval y):=by
 cases x with
 |t n=>
  cases y<;>simp[J18]at hc;subst hc;simp only[ev,RM.run]at h;split at h
  ·rename_i u hu;injection h with h;subst h;obtain⟨w,h1,h2⟩:=he _ _ hu;simpa[Act.eval,JLE,h1]using h2
  ·cases h
 |c z=>
  simp only[ev,RM.run]at h;injection h with h;subst h;cases y with
  |const u=>exact JMm (v:=u) (by simpa[J18]using hc)
  |func g=>
   cases z<;>simp[J18]at hc;rename_i f first caps
   cases first<;>cases caps<;>simp[J18]at hc
   subst hc;exact .fn _ _ _ _ _ rfl rfl (λi x v h=>by simp at h) (λi x v h=>by simp at h)
  |tmp n=>simp[J18]at hc
  |global n=>simp[J18]at hc
theorem Jdd(he:J0m s a.tmps env): ∀{xs:List Opd} {e:List Operand} {vs:List AV},(evs xs).run ⟨env,s.σ⟩=some vs->J5O xs e=true->
  vs.length=e.length/\ ∀(i:Nat) x v,vs[i]?=some x->(e.map a.eval)[i]?=some v->JH s x v
 |[],[],vs,h,_=>by
  simp only[evs,RM.run]at h;injection h with h;subst h
  exact⟨rfl,λi x v h=>by simp at h⟩
 |x::xs,y::e,vs,h,hc=>by
  simp only[J5O,JY]at hc;simp only[evs]at h;obtain⟨u,h1,h⟩:=bind_some h;obtain⟨g,h2,h⟩:=bind_some h;simp only[RM.run]at h;injection h with h;subst h
  obtain⟨l,r⟩:=Jdd he h2 hc.2;refine⟨by simp[l],λi z v hz hv=>?_⟩;cases i with
  |zero=>simp at hz hv;subst hz hv;exact J0c he h1 hc.1
  |succ i=>simp at hz hv;exact r i z v hz (by simpa using hv)
 |[],_::_,_,_,hc=>by simp[J5O]at hc
 |_::_,[],_,_,hc=>by simp[J5O]at hc
def J16(P:Program)(o:Oper)(a:Act)(s:Sn)(e:Eff):Prop:= ∀(next:Act->World->Prop) (Q:Exit->Act->World->Prop),(∀v w' g',Inv ⟨upd e.ws s.σ,g',w'⟩->J0h s ⟨upd e.ws s.σ,g',w'⟩->JH ⟨upd e.ws s.σ,g',w'⟩ e.val v->next (a.put o.dst v) w')->o.wp P a s.w next Q
theorem J2e{o:Oper}{e:Eff}{v:Value}{w':World}{g':Gh}(hr:(execOp a.eval o).run P s.w=.ok (.value v) w')
  (hi:Inv ⟨upd e.ws s.σ,g',w'⟩) (t:J0h s ⟨upd e.ws s.σ,g',w'⟩) (hv:JH ⟨upd e.ws s.σ,g',w'⟩ e.val v):J16 P o a s e:=by
 intro next Q h;simp only[Oper.wp,hr,Oper.upon];exact h v w' g' hi t hv
theorem JD{o:Oper}{x:AV}{v:Value}(hi:Inv s)(hr:(execOp a.eval o).run P s.w=.ok (.value v) s.w)(hv:JH s x v):J16 P o a s ⟨x,[]⟩:=
 J2e (e:=⟨x,[]⟩) (g':=s.g) hr hi (.refl s) hv
theorem Jng{t:TypeId}{i:TypeInfo}(h:P.info? t=some i)(w:World):(typeInfo t).run P w=.ok i w:=by simp[typeInfo,h]
theorem J2P{t:TypeId}{n:Nat}(h:szT P t=some n)(w:World):(sizeOf t).run P w=.ok n w:=by
 unfold szT at h;cases hi:P.info? t with
 |none=>rw[hi]at h;cases h
 |some i=>rw[hi]at h;simp at h;simp[sizeOf,Jng hi,h]
theorem Jd8{t:TypeId}{b:Bool}(h:agT P t=some b)(w:World):(isAgg t).run P w=.ok b w:=by
 unfold agT at h;cases hu:P.underlying t with
 |none=>rw[hu]at h;cases h
 |some d=>
  rw[hu]at h;simp at h;simp only[isAgg,J5i,run_underlying hu,J59];subst h;cases d<;>rfl
theorem J23{t e:TypeId}(h:elT P t=some e):P.underlying t=some (.slice e):=by
 unfold elT at h;split at h
 ·injection h with h;subst h;assumption
 ·cases h
theorem J6h{t:TypeId}(h:J5Y P t=true):P.underlying t=some .string:=by
 unfold J5Y at h;split at h
 ·assumption
 ·cases h
theorem JzW{t:TypeId}(h:JGS P t=true):P.underlying t=some (.int .u8):=by
 unfold JGS at h;split at h
 ·assumption
 ·cases h
theorem JE1{t:TypeId}(h:Jw8 P t=true):P.underlying t=some .bool:=by
 unfold Jw8 at h;split at h
 ·assumption
 ·cases h
theorem JIU{t:TypeId}(h:JHl P t=true): ∃k,P.underlying t=some (.int k):=by
 unfold JHl at h;split at h
 ·exact⟨_,by assumption⟩
 ·cases h
theorem JIc{t:TypeId}{k:IntKind}(h:JAZ P k t=true):P.underlying t=some (.int k):=by
 unfold JAZ at h;split at h
 ·rename_i e hk;have:k=e:=by simpa using h
  subst this;exact hk
 ·cases h
theorem Jrq{t e:TypeId}{n:Nat}(h:arT P t=some (n,e)):P.underlying t=some (.array n e):=by
 unfold arT at h;split at h
 ·simp at h;obtain⟨rfl,rfl⟩:=h;assumption
 ·cases h
theorem JAD{t:TypeId}{fs:Array Field}(h:flT P t=some fs):P.underlying t=some (.struct fs):=by
 unfold flT at h;split at h
 ·simp at h;subst h;assumption
 ·cases h
theorem J3Z{x k n}(h:JH s (.p (.i k n)) x):x=.int k n:=by cases h with|p _ _ h=>cases h;rfl
theorem Jso{x n}(h:JH s (.p (.b n)) x):x=.bool n:=by cases h with|p _ _ h=>cases h;rfl
theorem Jaw{x l}(h:JH s (.p (.s l)) x):x=.string ⟨l.toArray⟩:=by cases h with|p _ _ h=>cases h;rfl
theorem JMg{x}(h:JH s (.p .np) x):x=.pointer none:=by cases h with|p _ _ h=>cases h;rfl
theorem JNn{x}(h:JH s (.p .nf) x):x=.nilFunc:=by cases h with|p _ _ h=>cases h;rfl
theorem J5p(k n):JH s (.p (.i k n)) (.int k n):=.p _ _ (.i _ _)
theorem J5n(n):JH s (.p (.b n)) (.bool n):=.p _ _ (.b _)
theorem Jpc(l):JH s (.p (.s l)) (.string ⟨l.toArray⟩):=.p _ _ (.s _)
theorem Jwv(l:List UInt8):ByteArray.toList ⟨l.toArray⟩=l:=by rw[ByteArray.toList_eq]
theorem J86(l:List UInt8):ByteArray.size ⟨l.toArray⟩=l.length:=by simp[ByteArray.size]
theorem JJ7(l m:List UInt8):(⟨l.toArray⟩:ByteArray)++⟨m.toArray⟩=⟨(l++m).toArray⟩:=by apply ByteArray.ext;rw[ByteArray.data_append];simp
theorem JE0{op:BinOp}{k:IntKind}{x y:Int}{t:TypeId}{r:PV}(j:op≠.shl)(e:op≠.shr)(h:JrR op k x y=some r)(w:World):
  ∃v,(binOp op t (.int k x) (.int k y)).run P w=.ok v w/\J0p s.w s.g.C r v:=by
 cases op<;>simp only[JrR]at h
 case add=>injection h with h;subst h;exact⟨_,by simp[binOp,Op.intArith],.i _ _⟩
 case sub=>injection h with h;subst h;exact⟨_,by simp[binOp,Op.intArith],.i _ _⟩
 case mul=>injection h with h;subst h;exact⟨_,by simp[binOp,Op.intArith],.i _ _⟩
 case quo=>split at h
           ·cases h
           ·rename_i hy;injection h with h;subst h;exact⟨_,by simp[binOp,Op.intDiv,hy],.i _ _⟩
 case rem=>split at h
           ·cases h
           ·rename_i hy;injection h with h;subst h;exact⟨_,by simp[binOp,Op.intDiv,hy],.i _ _⟩
 case and=>injection h with h;subst h;exact⟨_,by simp[binOp,Op.intBits],.i _ _⟩
 case or=>injection h with h;subst h;exact⟨_,by simp[binOp,Op.intBits],.i _ _⟩
 case xor=>injection h with h;subst h;exact⟨_,by simp[binOp,Op.intBits],.i _ _⟩
 case eql=>injection h with h;subst h;exact⟨_,by simp[binOp,Op.intCmp],.b _⟩
 case neq=>injection h with h;subst h;exact⟨_,by simp[binOp,Op.intCmp],.b _⟩
 case lss=>injection h with h;subst h;exact⟨_,by simp[binOp,Op.intCmp],.b _⟩
 case leq=>injection h with h;subst h;exact⟨_,by simp[binOp,Op.intCmp],.b _⟩
 case gtr=>injection h with h;subst h;exact⟨_,by simp[binOp,Op.intCmp],.b _⟩
 case geq=>injection h with h;subst h;exact⟨_,by simp[binOp,Op.intCmp],.b _⟩
 all_goals simp_all
theorem Jln{op:BinOp}{k e:IntKind}{x y:Int}{t:TypeId}{r:PV}(hs:op=.shl\/op=.shr)(h:Jdx op k x y=some r)(w:World):
  ∃v,(binOp op t (.int k x) (.int e y)).run P w=.ok v w/\J0p s.w s.g.C r v:=by
 unfold Jdx at h;split at h
 ·cases h
 ·rename_i hy;rcases hs with rfl|rfl
  ·injection h with h;subst h;exact⟨_,by simp[binOp,Op.shift,hy],.i _ _⟩
  ·injection h with h;subst h;exact⟨_,by simp[binOp,Op.shift,hy],.i _ _⟩
theorem JEU{op:BinOp}{x y:List UInt8}{t:TypeId}{r:PV}(h:JrH op x y=some r)(w:World):
  ∃v,(binOp op t (.string ⟨x.toArray⟩) (.string ⟨y.toArray⟩)).run P w=.ok v w/\J0p s.w s.g.C r v:=by
 cases op<;>simp only[JrH]at h
 case add=>
  split at h
  ·rename_i hl;injection h with h;subst h;refine⟨.string ⟨(x++y).toArray⟩,?_,.s _⟩;have h1: ¬(((ByteArray.size ⟨x.toArray⟩+ByteArray.size ⟨y.toArray⟩:Nat):Int)>IntKind.i64.max):=by rw[J86,J86];show¬(_>(9223372036854775807:Int));omega
   simp only[binOp,Op.stringOp];rw[if_neg h1,JJ7];rfl
  ·cases h
 case eql=>injection h with h;subst h;exact⟨.bool (x==y),by simp[binOp,Op.stringOp],.b _⟩
 case neq=>injection h with h;subst h;exact⟨.bool (!(x==y)),by simp[binOp,Op.stringOp],.b _⟩
 case lss=>injection h with h;subst h;exact⟨.bool (Op.bytesLess x y),by simp[binOp,Op.stringOp],.b _⟩
 case leq=>injection h with h;subst h;exact⟨.bool (Op.bytesLess x y||x==y),by simp[binOp,Op.stringOp],.b _⟩
 case gtr=>injection h with h;subst h;exact⟨.bool (!(Op.bytesLess x y||x==y)),by simp[binOp,Op.stringOp],.b _⟩
 case geq=>injection h with h;subst h;exact⟨.bool (!Op.bytesLess x y),by simp[binOp,Op.stringOp],.b _⟩
 all_goals cases h
end
end Go.Am
end
section
namespace Go.Am
section
variable {P:Program} {F:Orc} {s:Sn} {a:Act} {env:List (Nat×AV)} {o:Oper} {new:Nat} {e:Eff}
theorem JPq(hi:Inv s)(he:J0m s a.tmps env){x}(h:(opR F (.mv x) new).run ⟨env,s.σ⟩=some e)(hc:JX P (.mv x) o.op=true):J16 P o a s e:=by
 simp only[opR]at h;obtain⟨v,h1,h⟩:=bind_some h;simp only[RM.run]at h;injection h with h;subst h
 unfold JX at hc;simp only at hc;split at hc
 ·rename_i y g;exact JD hi (by simp only[execOp,g];rfl) (J0c he h1 hc)
 ·rename_i y g;exact JD hi (by simp only[execOp,g];rfl) (J0c he h1 hc)
 ·cases hc
theorem JMq(hi:Inv s)(he:J0m s a.tmps env){c x y}(h:(opR F (.pick c x y) new).run ⟨env,s.σ⟩=some e)(hc:JX P (.pick c x y) o.op=true):J16 P o a s e:=by
 simp only[opR]at h;obtain⟨v,h1,h⟩:=bind_some h;unfold JX at hc;simp only at hc;split at hc
 ·rename_i c' n k j;simp only[JY]at hc;split at h
  ·rename_i b;have hb:=Jso (J0c he h1 hc.1.1);split at h
   ·rename_i g;obtain⟨u,h2,h⟩:=bind_some h;simp only[RM.run]at h;injection h with h;subst h
    exact JD hi (v:=a.eval n) (by simp[execOp,j,hb,g,asBool]) (J0c he h2 hc.1.2)
   ·rename_i g;obtain⟨u,h2,h⟩:=bind_some h;simp only[RM.run]at h;injection h with h;subst h
    have g:b=false:=by simpa using g
    exact JD hi (v:=a.eval k) (by simp[execOp,j,hb,g,asBool]) (J0c he h2 hc.2)
  ·simp only[RM.run]at h;cases h
 ·cases hc
theorem JIw(hi:Inv s)(he:J0m s a.tmps env){x}(h:(opR F (.nilchk x) new).run ⟨env,s.σ⟩=some e)(hc:JX P (.nilchk x) o.op=true):J16 P o a s e:=by
 simp only[opR]at h;obtain⟨v,h1,h⟩:=bind_some h;unfold JX at hc;simp only at hc;split at hc
 ·rename_i y g;have hr:=J0c he h1 hc;split at h<;>(simp only[RM.run]at h;try cases h)
  ·refine JD hi (v:=a.eval y) ?_ hr;generalize hu:a.eval y=u at hr;cases hr;simp[execOp,g,hu]
  ·refine JD hi (v:=a.eval y) ?_ hr;generalize hu:a.eval y=u at hr;cases hr;simp[execOp,g,hu]
  ·refine JD hi (v:=a.eval y) ?_ hr;generalize hu:a.eval y=u at hr;cases hr with
   |ep _ _ _ _ _ _ _ _ j=>
    obtain⟨r,k,rfl⟩:=j;simp[execOp,g,hu]
  ·refine JD hi (v:=a.eval y) ?_ hr;generalize hu:a.eval y=u at hr;cases hr;simp[execOp,g,hu]
 ·cases hc
theorem J7K{op:BinOp}{t:TypeId}{x y:Operand}{u v:Value}(h:(∀c,u≠.agg c)/\u≠.nilIface)(w:World):(eqGuard op t x y u v).run P w=.ok () w:=by
 unfold eqGuard;cases op<;>simp
 all_goals (cases u<;>simp_all)
theorem JCL(hi:Inv s)(he:J0m s a.tmps env){op x y}(h:(opR F (.bin op .plain x y) new).run ⟨env,s.σ⟩=some e)(hc:JX P (.bin op .plain x y) o.op=true):J16 P o a s e:=by
 simp only[opR]at h;obtain⟨u,h1,h⟩:=bind_some h;obtain⟨v,h2,h⟩:=bind_some h;obtain⟨r,h3,rfl⟩:=J20 h;unfold JX at hc;simp only at hc;split at hc
 ·rename_i G t j C ty k;simp only[JY,beq_iff_eq]at hc;obtain⟨⟨rfl,hx⟩,hy⟩:=hc;have n:=J0c he h1 hx;have A:=J0c he h2 hy;have g: ∀{z:Value},(∀c,a.eval j≠.agg c)/\a.eval j≠.nilIface->(binOp op t (a.eval j) (a.eval C)).run P s.w=.ok z s.w->(execOp a.eval o).run P s.w=.ok (.value z) s.w:=by intro z B hz;simp[execOp,k,J7K B,hz]
  simp only[Jcf]at h3;split at h3
  ·rename_i H p I q;rw[J3Z n,J3Z A]at g;split at h3
   ·obtain⟨z,hz,rfl⟩:=J62.1 h3;obtain⟨v,hv,hr⟩:=Jln (s:=s) (P:=P) (t:=t) (.inl rfl) hz s.w;exact JD hi (g (by simp) hv) (.p _ _ hr)
   ·obtain⟨z,hz,rfl⟩:=J62.1 h3;obtain⟨v,hv,hr⟩:=Jln (s:=s) (P:=P) (t:=t) (.inr rfl) hz s.w;exact JD hi (g (by simp) hv) (.p _ _ hr)
   ·rename_i D E;split at h3
    ·rename_i hk;subst hk;obtain⟨z,hz,rfl⟩:=J62.1 h3;obtain⟨v,hv,hr⟩:=JE0 (s:=s) (P:=P) (t:=t) (λe=>D e) (λe=>E e) hz s.w;exact JD hi (g (by simp) hv) (.p _ _ hr)
    ·cases h3
  ·rw[Jaw n,Jaw A]at g;obtain⟨z,hz,rfl⟩:=J62.1 h3;obtain⟨v,hv,hr⟩:=JEU (s:=s) (P:=P) (t:=t) hz s.w;exact JD hi (g (by simp) hv) (.p _ _ hr)
  ·cases h3
 ·cases hc
theorem JEx(hi:Inv s)(he:J0m s a.tmps env){op x y}(h:(opR F (.bin op .bool x y) new).run ⟨env,s.σ⟩=some e)(hc:JX P (.bin op .bool x y) o.op=true):J16 P o a s e:=by
 simp only[opR]at h;obtain⟨u,h1,n⟩:=bind_some h;obtain⟨v,h2,j⟩:=bind_some n;obtain⟨r,h3,rfl⟩:=J20 j;clear h n j;unfold JX at hc;simp only at hc;split at hc
 ·rename_i C t E D ty g;simp only[JY,beq_iff_eq]at hc;obtain⟨⟨rfl,hx⟩,hy,z⟩:=hc;have A:=J0c he h1 hx;have B:=J0c he h2 hy;have hb:=JE1 z;simp only[Jcf]at h3;split at h3
  ·rename_i _ _ p q;have k:=Jso A;have w:=Jso B;cases op<;>simp only[J8m]at h3<;>first|(injection h3 with h3;subst h3)|cases h3
   ·exact JD hi (v:=.bool (p==q)) (by simp[execOp,g,k,w,eqGuard,binOp,run_equal_bool,hb]) (J5n _)
   ·exact JD hi (v:=.bool (!(p==q))) (by simp[execOp,g,k,w,eqGuard,binOp,run_equal_bool,hb]) (J5n _)
  ·cases h3
 ·cases hc
theorem Jd2{op:BinOp}{t:TypeId}{u v:Value}{b:Bool}(ho:op=.eql\/op=.neq){w:World}(h:(Op.equal t u v).run P w=.ok b w)
  (hu:(∃x n c,u=.slice x n c)\/(∃p,u=.pointer p/\v=.pointer none)\/u=.nilFunc\/(∃f y c,u=.func f y c)):
  (binOp op t u v).run P w=.ok (.bool (if op=.eql then b else !b)) w:=by
 rcases ho with rfl|rfl
 ·have:binOp .eql t u v=(do pure (.bool (<-Op.equal t u v))):=by
   rcases hu with⟨x,n,c,rfl⟩|⟨p,rfl,rfl⟩|rfl|⟨f,y,c,rfl⟩<;>simp[binOp]
  rw[this];simp[h]
 ·have:binOp .neq t u v=(do pure (.bool (!(<-Op.equal t u v)))):=by
   rcases hu with⟨x,n,c,rfl⟩|⟨p,rfl,rfl⟩|rfl|⟨f,y,c,rfl⟩<;>simp[binOp]
  rw[this];simp[h]
theorem J5J{op:BinOp}{b:Bool}{r:AV}(h:J8m op (some b)=some r):(op=.eql\/op=.neq)/\r=.p (.b (if op=.eql then b else !b)):=by
 cases op<;>simp[J8m]at h
 ·exact⟨.inl rfl,by simp[<-h]⟩
 ·exact⟨.inr rfl,by simp[<-h]⟩
theorem Jwq{op:BinOp}{r:AV}(h:JD6 op=some r):(op=.eql\/op=.neq)/\r=.unk:=by
 cases op<;>simp[JD6]at h
 ·exact⟨.inl rfl,h.symm⟩
 ·exact⟨.inr rfl,h.symm⟩
theorem JFi(hi:Inv s)(he:J0m s a.tmps env){op x y}(h:(opR F (.bin op .nils x y) new).run ⟨env,s.σ⟩=some e)(hc:JX P (.bin op .nils x y) o.op=true):J16 P o a s e:=by
 simp only[opR]at h;obtain⟨u,h1,D⟩:=bind_some h;obtain⟨v,h2,q⟩:=bind_some D;obtain⟨r,h3,rfl⟩:=J20 q;clear h D q h2;unfold JX at hc;simp only at hc;split at hc
 ·rename_i K t k I ty C;simp only[JY,beq_iff_eq]at hc;obtain⟨⟨rfl,hx⟩,j⟩:=hc;have B:=J0c he h1 hx;clear h1;have hy:I=.const (.slice none 0 0)/\ ∃el,P.underlying t=some (.slice el):=by
   unfold JOh at j;split at j
   ·obtain⟨el,E⟩:=JHp.1 j;exact⟨rfl,el,J23 E⟩
   ·cases j
  obtain⟨rfl,el,hu⟩:=hy
  have go: ∀(z:Option Addr) (n c:Nat),a.eval k=.slice z n c->(op=.eql\/op=.neq)->
    (execOp a.eval o).run P s.w=.ok (.value (.bool (if op=.eql then z.isNone else !z.isNone))) s.w:=by
   intro z n c hz ho;have h1:=Jd2 (P:=P) (t:=t) ho (run_equal_slice_nil s.w t el z n c hu) (.inl ⟨z,n,c,rfl⟩);simp only[execOp,C,hz];simp only[J5i,J7K (P:=P) (u:=.slice z n c) (by simp),Act.eval,h1,J59,J9k]
  simp only[Jcf]at h3;split at h3
  ·rename_i esz rows;cases B with
   |p _ _ g=>
    split at h3
    ·obtain⟨ho,rfl⟩:=Jwq h3;generalize hz:a.eval k=z at g;cases g with
     |sl0 _ A cap=>exact JD hi (go _ _ _ hz ho) (.unk _)
     |sl _ _ r J cap vals=>exact JD hi (go _ _ _ hz ho) (.unk _)
    ·obtain⟨ho,rfl⟩:=J5J h3;generalize hz:a.eval k=z at g;cases g with
     |sl _ _ r J cap vals=>exact JD hi (go _ _ _ hz ho) (J5n _)
  ·rename_i b i n;generalize hz:a.eval k=z at B;cases B with
   |slr _ _ _ _ wm esz rows H=>
    obtain⟨A,cap,rfl,hn⟩:=H;split at h3
    ·obtain⟨ho,rfl⟩:=Jwq h3;exact JD hi (go _ _ _ hz ho) (.unk _)
    ·rename_i G;obtain⟨ho,rfl⟩:=J5J h3;have:A.isNone=false:=by
      cases A with
      |none=>exact absurd (hn.resolve_left G) (by simp)
      |some _=>rfl
     have h4:=go _ _ _ hz ho;rw[this]at h4;exact JD hi h4 (J5n _)
  ·cases h3
 ·cases hc
theorem JEX(hi:Inv s)(he:J0m s a.tmps env){op x y}(h:(opR F (.bin op .nilp x y) new).run ⟨env,s.σ⟩=some e)(hc:JX P (.bin op .nilp x y) o.op=true):J16 P o a s e:=by
 simp only[opR]at h;obtain⟨u,h1,q⟩:=bind_some h;obtain⟨v,h2,k⟩:=bind_some q;obtain⟨r,h3,rfl⟩:=J20 k;clear h q k h2;unfold JX at hc;simp only at hc;split at hc
 ·rename_i D t A C ty n;simp only[JY,beq_iff_eq]at hc;obtain⟨⟨rfl,hx⟩,g⟩:=hc;have j:=J0c he h1 hx;clear h1;have hy:C=.const (.pointer none)/\ ∃el,P.underlying t=some (.pointer el):=by
   unfold JM8 at g;split at g
   ·split at g
    ·exact⟨rfl,_,by assumption⟩
    ·cases g
   ·cases g
  obtain⟨rfl,el,hu⟩:=hy
  have go: ∀(z:Option Addr),a.eval A=.pointer z->(op=.eql\/op=.neq)->
    (execOp a.eval o).run P s.w=.ok (.value (.bool (if op=.eql then z.isNone else !z.isNone))) s.w:=by
   intro z hz ho;have:P.pointee t=el:=by simp[Program.pointee,hu]
   have h1:=Jd2 (P:=P) (t:=t) ho (run_equal_pointer_nil s.w t z (by rw[this];exact hu)) (.inr (.inl ⟨z,rfl,rfl⟩));simp only[execOp,n,hz];simp only[J5i,J7K (P:=P) (u:=.pointer z) (by simp),Act.eval,h1,J59,J9k]
  simp only[Jcf]at h3;generalize hz:a.eval A=z at j;split at h3
  ·obtain⟨ho,rfl⟩:=J5J h3;have:=JMg j;subst this;exact JD hi (go _ hz ho) (J5n _)
  ·obtain⟨ho,rfl⟩:=J5J h3;cases j;exact JD hi (go _ hz ho) (J5n _)
  ·obtain⟨ho,rfl⟩:=J5J h3;cases j;exact JD hi (go _ hz ho) (J5n _)
  ·obtain⟨ho,rfl⟩:=J5J h3;cases j with
   |ep _ _ _ _ _ _ _ _ B=>
    obtain⟨r,E,rfl⟩:=B;exact JD hi (go _ hz ho) (J5n _)
  ·cases h3
 ·cases hc
theorem JFg(hi:Inv s)(he:J0m s a.tmps env){op x y}(h:(opR F (.bin op .nilf x y) new).run ⟨env,s.σ⟩=some e)(hc:JX P (.bin op .nilf x y) o.op=true):J16 P o a s e:=by
 simp only[opR]at h;obtain⟨u,h1,A⟩:=bind_some h;obtain⟨v,h2,n⟩:=bind_some A;obtain⟨r,h3,rfl⟩:=J20 n;clear h A n h2;unfold JX at hc;simp only at hc;split at hc
 ·rename_i D t C B ty k;simp only[JY,beq_iff_eq]at hc;obtain⟨⟨rfl,hx⟩,g⟩:=hc;have q:=J0c he h1 hx;clear h1;have hy:B=.const .nilFunc/\ ∃p r v,P.underlying t=some (.func p r v):=by
   unfold JOJ at g;split at g
   ·split at g
    ·exact⟨rfl,_,_,_,by assumption⟩
    ·cases g
   ·cases g
  obtain⟨rfl,p,E,vv,hu⟩:=hy;simp only[Jcf]at h3;generalize hz:a.eval C=z at q;split at h3
  ·obtain⟨ho,rfl⟩:=J5J h3;have:=JNn q;subst this;have j:(Op.equal t .nilFunc .nilFunc).run P s.w=.ok true s.w:=by
    have: ∀d,(Op.equalIn (d+1) t .nilFunc .nilFunc).run P s.w=.ok true s.w:=λd=>by simp[Op.equalIn,run_underlying hu]
    exact this 9999
   have h1:=Jd2 (P:=P) (t:=t) ho j (.inr (.inr (.inl rfl)));refine JD hi ?_ (J5n _);simp only[execOp,k,hz];simp only[J5i,J7K (P:=P) (u:=.nilFunc) (by simp),Act.eval,h1,J59,J9k]
  ·obtain⟨ho,rfl⟩:=J5J h3;cases q;rename_i f _ _ fs cs _ _ _ _;have j:(Op.equal t (.func (.func f) fs cs) .nilFunc).run P s.w=.ok false s.w:=by
    have: ∀d,(Op.equalIn (d+1) t (.func (.func f) fs cs) .nilFunc).run P s.w=.ok false s.w:=λd=>by simp[Op.equalIn,run_underlying hu]
    exact this 9999
   have h1:=Jd2 (P:=P) (t:=t) ho j (.inr (.inr (.inr ⟨_,_,_,rfl⟩)));refine JD hi ?_ (J5n _);simp only[execOp,k,hz];simp only[J5i,J7K (P:=P) (u:=.func (.func f) fs cs) (by simp),Act.eval,h1,J59,J9k]
  ·cases h3
 ·cases hc
end
end Go.Am
end
section
namespace Go.Am
theorem J7A: ∀{vs:List Value} {w:World} {r o:Nat} {c:Array Value} {e:TypeId} {fz:Nat×Nat},w.heap[r]?=some (.cells c e fz)->o+vs.length<=c.size->
  Put r o vs w (w.setCells r o vs)
 |[],w,r,o,c,e,fz,h,hl=>⟨⟨c,e,fz,c,h,h,rfl,hl,λj v hj=>by simp at hj,λ_ _=>rfl⟩,λ_ _=>rfl,rfl,rfl,rfl⟩
 |v::vs,w,r,o,c,e,fz,h,hl=>by
  have hr:=J1v h;have x:o+1+vs.length<=c.size:=by simp at hl;omega
  have h1:(w.setCell ⟨r,o,none⟩ v).heap[r]?=some (.cells (c.setIfInBounds o v) e fz):=by simp[World.setCell,Array.getElem?_modify,h]
  obtain⟨⟨D,e1,fz1,c',g,A,y,C,z,q⟩,q1,q2,q3,B⟩:=J7A (vs:=vs) (o:=o+1) h1 (by simpa using x);rw[h1]at g;injection g with g;injection g with a1 a2 a3;subst a1 a2 a3
  refine⟨⟨c,e,fz,c',h,A,by simpa using y,hl,λj u hj=>?_,λk hk=>?_⟩,λr' n=>?_,?_,q3,B⟩
  ·cases j with
   |zero=>
    simp at hj;subst hj;rw[J7w,q o (.inl (by omega))];have:o<c.size:=by simp at hl;omega
    simp[this]
   |succ j=>
    have:=z j u (by simpa using hj);rwa[show o+(j+1)=o+1+j by omega]
  ·rw[q k (by simp at hk;omega)];have:o≠k:=by simp at hk;omega
   simp[Array.getElem?_setIfInBounds,this]
  ·show((w.setCell ⟨r,o,none⟩ v).setCells r (o+1) vs).heap[r']?=_;rw[q1 r' n];simp[World.setCell,Array.getElem?_modify,Ne.symm n]
  ·show((w.setCell ⟨r,o,none⟩ v).setCells r (o+1) vs).heap.size=_;rw[q2];simp[World.setCell]
theorem J0p.one{w C x v}(h:J0p w C x v):v.oneCell'=true:=by cases h<;>rfl
theorem J0p.cells1{w C x v}(h:J0p w C x v):v.cells= #[v]:=by cases h<;>rfl
section
variable {P:Program} {F:Orc} {s:Sn} {a:Act} {env:List (Nat×AV)} {o:Oper} {new:Nat} {e:Eff}
theorem JPj(hi:Inv s)(he:J0m s a.tmps env){op x}(h:(opR F (.un op x) new).run ⟨env,s.σ⟩=some e)(hc:JX P (.un op x) o.op=true):J16 P o a s e:=by
 simp only[opR]at h;obtain⟨u,h1,q⟩:=bind_some h;obtain⟨r,h3,rfl⟩:=J20 q;clear h q;unfold JX at hc;simp only at hc;split at hc
 ·rename_i w t y g;simp only[JY,beq_iff_eq]at hc;obtain⟨rfl,hx⟩:=hc;have j:=J0c he h1 hx;clear h1;generalize hz:a.eval y=z at j;unfold unP at h3;split at h3<;>first|(injection h3 with h3;subst h3)|cases h3
  ·rename_i k n;have:=J3Z j;subst this;exact JD hi (v:=.int k (k.wrap (0-n))) (by simp[execOp,g,hz,Op.unary,Op.intArith]) (J5p _ _)
  ·rename_i k n;have:=J3Z j;subst this;exact JD hi (v:=.int k (k.wrap (BitVec.ofInt k.bits (if k.signed then -1 else k.max)^^^BitVec.ofInt k.bits n).toNat)) (by simp[execOp,g,hz,Op.unary,Op.intBits]) (J5p _ _)
  ·rename_i b;have:=Jso j;subst this;exact JD hi (v:=.bool (!b)) (by simp[execOp,g,hz,Op.unary]) (J5n _)
  ·cases j with
   |unk b=>exact JD hi (v:=.bool (!b)) (by simp[execOp,g,hz,Op.unary]) (.unk _)
 ·cases hc
theorem JKp(hi:Inv s)(he:J0m s a.tmps env){off x}(h:(opR F (.faddr off x) new).run ⟨env,s.σ⟩=some e)(hc:JX P (.faddr off x) o.op=true):J16 P o a s e:=by
 simp only[opR]at h;obtain⟨u,h1,E⟩:=bind_some h;obtain⟨r,h3,rfl⟩:=J20 E;clear h E;unfold JX at hc;simp only at hc;split at hc
 ·rename_i t y f D;simp only[JY]at hc;obtain⟨hx,k⟩:=hc;have v:=J0c he h1 hx;clear h1;have hf: ∃fs j n,P.underlying t=some (.struct fs)/\fs[f]?=some j/\j.offset=off/\szT P j.type=some n/\n≠0:=by
   split at k
   ·rename_i fs G;split at k
    ·rename_i j q;simp only[JY,beq_iff_eq]at k;obtain⟨h4,h5⟩:=k;split at h5
     ·rename_i n hn;exact⟨fs,j,n,JAD G,q,h4,hn,by simpa using h5⟩
     ·cases h5
    ·cases k
   ·cases k
  obtain⟨fs,j,n,hu,q,rfl,hn,H⟩:=hf;have go: ∀(r g:Nat),a.eval y=.pointer (some ⟨r,g,none⟩)->(execOp a.eval o).run P s.w=.ok (.value (.pointer (some ⟨r,g+j.offset,none⟩))) s.w:=by
   intro r g hz;have C:Addr.add ⟨r,g,none⟩ j.offset=⟨r,g+j.offset,none⟩:=by unfold Addr.add;split<;>simp_all
   simp only[execOp,D,hz];simp[Instr.fieldAt,run_underlying hu,q,Instr.sureAddr,fieldPlace,J2P hn,H,C]
  generalize hz:a.eval y=z at v;unfold JoI at h3;split at h3<;>first|(injection h3 with h3;subst h3)|cases h3
  ·cases v with
   |ptr _ _ r g m hb=>exact JD hi (go _ _ hz) (by rw[Jbe];exact .ptr _ _ r g m hb)
  ·cases v with
   |cp cs _ r g vals B A=>exact JD hi (go _ _ hz) (by rw[Jbe];exact .cp _ _ r g vals B A)
  ·cases v with
   |ep _ _ _ _ _ wm esz rows p0 B A I=>
    obtain⟨r,g,rfl⟩:=p0;refine JD hi (go _ _ hz) (.ep _ _ _ _ _ wm esz rows ⟨_,_,rfl⟩ B A λe1 e2=>?_);obtain⟨r',m,hv⟩:=I e1 e2;simp at hv;obtain⟨rfl,rfl⟩:=hv;exact⟨r,m,by rw[Jbe]⟩
 ·cases hc
theorem JN4(hi:Inv s)(he:J0m s a.tmps env){x i}(h:(opR F (.extr x i) new).run ⟨env,s.σ⟩=some e)(hc:JX P (.extr x i) o.op=true):J16 P o a s e:=by
 simp only[opR]at h;obtain⟨u,h1,k⟩:=bind_some h;obtain⟨r,h3,rfl⟩:=J20 k;clear h k;unfold JX at hc;simp only at hc;split at hc
 ·rename_i y j g;simp only[JY,beq_iff_eq]at hc;obtain⟨hx,rfl⟩:=hc;have n:=J0c he h1 hx;generalize hz:a.eval y=z at n;unfold Jsh at h3;split at h3
  ·cases n with
   |tup cs vs A q=>
    have w:=Je h3;have hv:vs[i]?=some vs[i]:=by simp
    exact JD hi (v:=vs[i]) (by simp[execOp,g,hz,Instr.extract,hv]) (q i r _ h3 hv)
  ·cases h3
 ·cases hc
theorem JMu(hi:Inv s)(he:J0m s a.tmps env){f first caps}(h:(opR F (.mkfn f first caps) new).run ⟨env,s.σ⟩=some e)(hc:JX P (.mkfn f first caps) o.op=true):J16 P o a s e:=by
 simp only[opR]at h;obtain⟨u,h1,w⟩:=bind_some h;obtain⟨v,h2,j⟩:=bind_some w;simp only[RM.run]at j;injection j with j;subst j
 clear h w;unfold JX at hc;simp only at hc;split at hc
 ·rename_i g k n r;simp only[JY,beq_iff_eq]at hc;obtain⟨⟨rfl,hf⟩,q⟩:=hc;obtain⟨A,y⟩:=Jdd he h1 hf;obtain⟨B,z⟩:=Jdd he h2 q;refine JD hi (v:=.func (.func f) (k.map a.eval) (n.map a.eval)) (by simp[execOp,r,Instr.makeFunc]) (.fn _ _ _ _ _ (by simpa using A) (by simpa using B) (λi x v hx hv=>y i x v hx ?_) (λi x v hx hv=>z i x v hx ?_))
  ·simpa using hv
  ·simpa using hv
 ·cases hc
theorem JPt(hi:Inv s)(he:J0m s a.tmps env){mx x y}(h:(opR F (.mm mx x y) new).run ⟨env,s.σ⟩=some e)(hc:JX P (.mm mx x y) o.op=true):J16 P o a s e:=by
 simp only[opR]at h;obtain⟨u,h1,A⟩:=bind_some h;obtain⟨v,h2,w⟩:=bind_some A;obtain⟨r,h3,rfl⟩:=J20 w;clear h A w;unfold JX at hc;simp only at hc;split at hc
 ·rename_i c n;split at hc
  ·rename_i b g;simp only[JY,beq_iff_eq]at hc;obtain⟨hb,hc⟩:=hc;split at hc
   ·rename_i D C j;simp only[JY]at hc;have E:=J0c he h1 hc.1;have G:=J0c he h2 hc.2;have hm:c.args.map a.eval= #[a.eval D,a.eval C]:=by apply J9Q;simp[j]
    unfold mmP at h3;split at h3
    ·rename_i k p H q;injection h3 with h3;subst h3;have z:=J3Z E;have B:=J3Z G;cases mx
     ·simp only[J5h,if_false]at hb⊢;subst hb;refine JD hi (v:=.int k (if q<p then q else p)) ?_ (J5p _ _);simp[execOp,n,resolve,g,hm,z,B,invoke,builtin,Builtin.min_,Builtin.min2]
     ·simp only[if_true]at hb⊢;subst hb;refine JD hi (v:=.int k (if q>p then q else p)) ?_ (J5p _ _);simp[execOp,n,resolve,g,hm,z,B,invoke,builtin,Builtin.max_,Builtin.max2]
    ·cases h3
   ·cases hc
  ·cases hc
 ·cases hc
theorem JNG(hi:Inv s)(he:J0m s a.tmps env){str x}(h:(opR F (.len str x) new).run ⟨env,s.σ⟩=some e)(hc:JX P (.len str x) o.op=true):J16 P o a s e:=by
 simp only[opR]at h;obtain⟨u,h1,G⟩:=bind_some h;obtain⟨r,h3,rfl⟩:=J20 G;clear h G;unfold JX at hc;simp only at hc;split at hc
 ·rename_i c C;split at hc
  ·rename_i k;split at hc
   ·rename_i y t A E;simp only[JY]at hc;obtain⟨hx,q⟩:=hc;have B:=J0c he h1 hx;have hm:c.args.map a.eval= #[a.eval y]:=by apply J9Q;simp[A]
    have D:c.argTypes[0]?=some t:=by rw[<-JDL,E];rfl
    generalize hz:a.eval y=z at B;have hs: ∀l:List UInt8,z=.string ⟨l.toArray⟩->J5Y P t=true->(execOp a.eval o).run P s.w=.ok (.value (.int .i64 l.length)) s.w:=by intro l hl g;have:=J6h g;simp[execOp,C,resolve,k,hm,hz,hl,invoke,builtin,Builtin.len_,D,run_underlying this,goInt,J86]
    have j: ∀v n cp,z=.slice v n cp->(elT P t).isSome=true->(execOp a.eval o).run P s.w=.ok (.value (.int .i64 n)) s.w:=by intro v n cp hl g;obtain⟨el,H⟩:=JHp.1 g;have:=J23 H;simp[execOp,C,resolve,k,hm,hz,hl,invoke,builtin,Builtin.len_,D,run_underlying this,goInt]
    unfold Juh at h3;split at h3<;>first|(injection h3 with h3;subst h3)|cases h3
    ·exact JD hi (hs _ (Jaw B) (by simpa using q)) (J5p _ _)
    ·cases B with
     |p _ _ I=>
      cases I with
      |sl0 _ v cap=>exact JD hi (j _ _ _ rfl (by simpa using q)) (J5p _ _)
      |sl _ _ r K cap vals=>exact JD hi (j _ _ _ rfl (by simpa using q)) (J5p _ _)
    ·cases B with
     |slr _ _ _ _ wm esz rows J=>
      obtain⟨v,cap,hv,_⟩:=J;exact JD hi (j _ _ _ hv (by simpa using q)) (J5p _ _)
   ·cases hc
  ·cases hc
 ·cases hc
end
end Go.Am
end
section
namespace Go.Am
section
variable {P:Program} {F:Orc} {s:Sn} {a:Act} {env:List (Nat×AV)} {o:Oper} {new:Nat} {e:Eff}
theorem J5z.of_p{s:Sn}{esz rows v}(h:JH s (.p (.sl esz rows)) v):J5z s esz rows v:=by cases h with|p _ _ h=>exact .of_sl h
theorem JtJ(hi:Inv s){esz:Nat}{x:AV}{rows:List (List PV)}{v:Value}(h:(J2w esz x).run ⟨env,s.σ⟩=some rows)(hr:JH s x v):
  (∃l,x=.p (.s l)/\esz=1/\rows=l.map J4b/\v=.string ⟨l.toArray⟩)\/J5z s esz rows v:=by
 unfold J2w at h;split at h
 ·split at h
  ·rename_i he;subst he;simp only[RM.run]at h;injection h with h;subst h
   exact .inr (.of_p hr)
  ·cases h
 ·split at h
  ·rename_i l he;simp only[RM.run]at h;injection h with h;subst h
   exact .inl ⟨l,rfl,he,rfl,Jaw hr⟩
  ·cases h
 ·simp only[RM.run]at h;split at h
  ·rename_i blk hb;split at h
   ·split at h
    ·rename_i hc;obtain⟨rfl,hc⟩:=hc;simp only[RM.run]at h;injection h with h;subst h
     exact .inr (.of_slr hi hr hb hc)
    ·cases h
   ·cases h
  ·cases h
 ·cases h
theorem JrG{α:Type}{esz:Nat}: ∀{rows:List (List α)},(∀row∈rows,row.length=esz)-> ∀{k:Nat} {x:α},rows.flatten[k]?=some x->
  ∃i j row,k=i*esz+j/\rows[i]?=some row/\row[j]?=some x/\j<esz
 |[],_,k,x,h=>by simp at h
 |r::rows,hl,k,x,h=>by
  simp only[J8u]at h;have hr:r.length=esz:=hl r (by simp);rcases List.getElem?_append (l₁:=r) (l₂:=rows.flatten) (i:=k)▸h with e;split at e
  ·exact⟨0,k,r,by simp,rfl,e,by omega⟩
  ·obtain⟨i,j,row,e1,e2,g,n⟩:=JrG (λrow hm=>hl row (by simp[hm])) e;exact⟨i+1,j,row,by rw[J3H];omega,by simpa using e2,g,n⟩
theorem Jb0{α:Type}{esz:Nat}: ∀{rows:List (List α)},(∀row∈rows,row.length=esz)->rows.flatten.length=rows.length*esz
 |[],_=>by simp
 |r::rows,hl=>by
  have:=Jb0 (rows:=rows) (λrow hm=>hl row (by simp[hm]));have h1:=hl r (by simp);simp[this,h1,J3H];omega
theorem J5z.cells{s:Sn}{esz rows v}(h:J5z s esz rows v):
  ∃(a:Option Addr) (cap:Nat) (vs:List Value),v=.slice a rows.length cap/\rows.length<=cap/\vs.length=rows.length*esz/\
   (∀(k:Nat) x,rows.flatten[k]?=some x-> ∃u,vs[k]?=some u/\J0p s.w s.g.C x u)/\
   (rows=[]\/ ∃r o,a=some ⟨r,o,none⟩/\ ∀(k:Nat) u,vs[k]?=some u->J0B s.w r (o+k)=some u)/\(∀row∈rows,row.length=esz):=by
 obtain⟨a,cap,h1,h2,h3,h4⟩:=h;rcases h4 with rfl|⟨r,o,ha,hx⟩
 ·exact⟨a,cap,[],h1,h2,by simp,λk x hk=>by simp at hk,.inl rfl,h3⟩
 ·refine⟨a,cap,(List.range (rows.length*esz)).map λk=>(J0B s.w r (o+k)).getD .nilFunc,h1,h2,by simp,λk x hk=>?_,.inr ⟨r,o,ha,λk u hk=>?_⟩,h3⟩
  ·obtain⟨i,j,row,e1,e2,n,_⟩:=JrG h3 hk;obtain⟨u,hu,hr⟩:=hx i j row x e2 n;have e:=Je hk;rw[Jb0 h3]at e;refine⟨u,?_,hr⟩;rw[J29,JjZ e];have:o+k=o+i*esz+j:=by omega
   simp[this,hu]
  ·have e:=Je hk;simp at e;rw[J29,JjZ e]at hk;simp at hk;have:k<rows.flatten.length:=by rw[Jb0 h3];exact e
   obtain⟨i,j,row,e1,e2,n,_⟩:=JrG h3 (JF this);obtain⟨y,hu,_⟩:=hx i j row _ e2 n;have q:o+k=o+i*esz+j:=by omega
   rw[q,hu]at hk⊢;simpa using hk
theorem Jor: ∀{rows:List (List PV)} {l:List UInt8},J85 rows=some l-> ∃e:List Int,rows=e.map (λn=>[PV.i .u8 n])/\l=e.map λn=>UInt8.ofNat n.toNat
 |[],l,h=>by simp[J85]at h;exact⟨[],rfl,by simp[h]⟩
 |row::rows,l,h=>by
  unfold J85 at h;split at h
  ·simp_all
  ·rename_i n r j;injection j with e1 e2;subst e1 e2;split at h
   ·rename_i k g;injection h with h;subst h;obtain⟨e,h1,h2⟩:=Jor g;exact⟨n::e,by simp[h1],by simp[h2]⟩
   ·cases h
  ·cases h
theorem JGD(e:List Int): ∀b:ByteArray,(e.foldl (λr n=>r.push (UInt8.ofNat n.toNat)) b)=⟨b.data++(e.map λn=>UInt8.ofNat n.toNat).toArray⟩:=by
 induction e with
 |nil=>intro b;simp
 |cons n e ih=>
  intro b;simp only[List.foldl_cons,ih];apply ByteArray.ext;apply J9Q;simp[ByteArray.push]
theorem J9q(r o n:Nat):Addr.add ⟨r,o,none⟩ n=⟨r,o+n,none⟩:=by unfold Addr.add;split<;>simp_all
theorem JwN{w:World}{r o:Nat}(vs:List Value)(h: ∀(k:Nat) u,vs[k]?=some u->J0B w r (o+k)=some u):
  (loadCells ⟨r,o,none⟩ vs.length).run P w=.ok vs.toArray w:=
 run_loadCells_list w _ vs λj v hj=>by rw[J9q,J4I];exact h j v hj
theorem JMY(hi:Inv s)(he:J0m s a.tmps env){k x}(hk: ∀own,k≠.toBytes own)(h:(opR F (.conv k x) new).run ⟨env,s.σ⟩=some e)(hc:JX P (.conv k x) o.op=true):J16 P o a s e:=by
 simp only[opR]at h;obtain⟨u,h1,j⟩:=bind_some h;clear h;unfold JX at hc;simp only at hc;split at hc
 ·rename_i V dst y A;simp only[JY]at hc;obtain⟨hx,g⟩:=hc;have B:=J0c he h1 hx;generalize hz:a.eval y=z at B;split at j
  ·rename_i O k1 n;simp only[RM.run]at j;injection j with j;subst j
   simp only[JY]at g;obtain⟨ks,hs⟩:=JIU g.1;have hd:=JIc g.2;have:=J3Z B;subst this;exact JD hi (v:=.int O (O.wrap n)) (by simp[execOp,A,hz,convert,run_underlying hs,run_underlying hd,Conv.intToInt]) (J5p _ _)
  ·rename_i l;simp only[RM.run]at j;injection j with j;subst j
   simp only[JY]at g;have hs:=J6h g.1;have hd:=J6h g.2;have:=Jaw B;subst this;exact JD hi (v:=.string ⟨l.toArray⟩) (by simp[execOp,A,hz,convert,run_underlying hs,run_underlying hd]) (Jpc _)
  ·simp only[JY]at g;obtain⟨g,hd⟩:=g;have hd:=J6h hd;split at g
   ·rename_i el N;simp only[JY,beq_iff_eq]at g;have hs:=J23 N;have R:=JzW g.1;obtain⟨rows,h4,h5⟩:=bind_some j;clear j;split at h5
    ·rename_i l hl;simp only[RM.run]at h5;injection h5 with h5;subst h5
     rcases JtJ hi h4 B with⟨U,rfl,_,H,hv⟩|M
     ·
      have:=Jaw B;subst this;have:l=U:=by
       have: ∀l:List UInt8,J85 (l.map J4b)=some l:=by
        intro l
        induction l with
        |nil=>rfl
        |cons b l ih=>simp[J85,J4b,ih]
       rw[H,this]at hl;injection hl with hl;exact hl.symm
      subst this;exact JD hi (v:=.string ⟨l.toArray⟩) (by simp[execOp,A,hz,convert,run_underlying hs,run_underlying hd]) (Jpc _)
     ·obtain⟨G,cap,vs,hv,J,hlen,C,E,L⟩:=M.cells;obtain⟨q,hr,rfl⟩:=Jor hl;have hvs:vs=q.map (Value.int .u8):=by
       apply JmG;intro k;have Q:rows.flatten=q.map (PV.i .u8):=by rw[hr];clear hr hl C hlen L E hv J h4 B;induction q with
        |nil=>rfl
        |cons n q ih=>simp[ih]
       by_cases hk:k<q.length
       ·obtain⟨u,hu,hp⟩:=C k (.i .u8 q[k]) (by rw[Q];simp[hk]);cases hp;rw[hu];simp[hk]
       ·have W:vs.length=q.length:=by rw[hlen,hr];simp
        rw[zQ3 (by omega),zQ3 (by simp;omega)]
      have I:rows.length=vs.length:=by omega
      subst hv;have K:(Conv.bytesToString (.slice G rows.length cap)).run P s.w=.ok (.string ⟨(q.map λn=>UInt8.ofNat n.toNat).toArray⟩) s.w:=by
       rcases E with D|⟨r,T,rfl,hm⟩
       ·have S:q=[]:=by rw[D]at hr;simpa using hr.symm
        subst S;cases G with
        |none=>simp[Conv.bytesToString];rfl
        |some G=>
         have:=run_bytesToString (P:=P) s.w G rows.length cap [] (by rw[D];simp[loadCells,loadCellsFrom]);rw[this];rfl
       ·have:=run_bytesToString (P:=P) s.w ⟨r,T,none⟩ rows.length cap q (by rw[I,<-hvs];exact JwN vs hm);rw[this,JGD];simp
      refine JD hi (v:=.string ⟨(q.map λn=>UInt8.ofNat n.toNat).toArray⟩) ?_ (Jpc _);simp[execOp,A,hz,convert,run_underlying hs,run_underlying hd,run_underlying R,K]
    ·cases h5
   ·cases g
  ·rename_i own l;exact absurd rfl (hk own)
  ·cases j
 ·cases hc
end
end Go.Am
end
section
namespace Go.Am
theorem JhP{α:Type}{cs l:List α}{off size:Nat}(h:sub cs off size=some l):l.length=size/\off+size<=cs.length/\ ∀(i:Nat),i<size->l[i]?=cs[off+i]?:=by
 unfold sub at h;split at h
 ·rename_i hc;injection h with h;subst h;exact⟨hc.2,by omega,λi hi=>by rw[hc.1,zQ6]⟩
 ·split at h
  ·rename_i hc;injection h with h;subst h;refine⟨by simp;omega,hc,λi hi=>?_⟩;rw[Jdi,if_pos hi,J8v]
  ·cases h
theorem JjK: ∀{cs:List AV} {l:List PV},unp cs=some l->cs=l.map .p
 |[],l,h=>by simp[unp]at h;simp[h]
 |x::cs,l,h=>by
  unfold unp at h;split at h
  ·simp_all
  ·rename_i c r e;injection e with e1 e2;subst e1 e2;split at h
   ·rename_i g hl;injection h with h;subst h;simp[JjK hl]
   ·cases h
  ·cases h
section
variable {P:Program} {F:Orc} {s:Sn} {a:Act} {env:List (Nat×AV)} {o:Oper} {new:Nat} {e:Eff}
theorem Jvm{agg:Bool}{l:List PV}{x:AV}{vs:List Value}(h:J4h agg l=some x)(hl:l.length=vs.length)
  (hr: ∀(i:Nat) y v,l[i]?=some y->vs[i]?=some v->J0p s.w s.g.C y v):
  (agg=true/\JH s x (.agg vs.toArray))\/(agg=false/\ ∃v,vs=[v]/\JH s x v):=by
 cases agg with
 |true=>
  simp[J4h]at h;subst h;exact .inl ⟨rfl,.data _ _ (by simpa using hl) λi y v hy hv=>hr i y v hy (by simpa using hv)⟩
 |false=>
  simp only[J4h,J5h,if_false]at h;split at h
  ·injection h with h;subst h;obtain⟨v,rfl⟩: ∃v,vs=[v]:=JH5.1 (by simpa using hl.symm);exact .inr ⟨rfl,v,rfl,.p _ _ (hr 0 _ v rfl rfl)⟩
  ·cases h
theorem Jt9{agg:Bool}{l:List AV}{x:AV}{vs:List Value}(h:J3q agg l=some x)(hl:l.length=vs.length)(h1: ∀v∈vs,v.oneCell'=true)
  (hr: ∀(i:Nat) y v,l[i]?=some y->vs[i]?=some v->JH s y v):
  (agg=true/\JH s x (.agg vs.toArray))\/(agg=false/\ ∃v,vs=[v]/\JH s x v):=by
 cases agg with
 |true=>
  simp only[J3q,if_true]at h;split at h
  ·rename_i q hq;injection h with h;subst h;have:=JjK hq;subst this;refine .inl ⟨rfl,.data _ _ (by simpa using hl) λi y v hy hv=>?_⟩;have:=hr i (.p y) v (by simp[hy]) (by simpa using hv);cases this with|p _ _ h=>exact h
  ·injection h with h;subst h;exact .inl ⟨rfl,.agg _ _ (by simpa using hl) (λi v hv=>h1 v (by have:=J0F (l:=vs) (i:=i) (x:=v) (by simpa using hv);exact this)) λi y v hy hv=>hr i y v hy (by simpa using hv)⟩
 |false=>
  simp only[J3q,J5h,if_false]at h;split at h
  ·injection h with h;subst h;obtain⟨v,rfl⟩: ∃v,vs=[v]:=JH5.1 (by simpa using hl.symm);exact .inr ⟨rfl,v,rfl,hr 0 _ v rfl rfl⟩
  ·cases h
theorem JwV{agg:Bool}{off size:Nat}{x r:AV}{v:Value}{t:TypeId}(h:J8Q agg off size x=some r)(hr:JH s x v)(z:agT P t=some agg)(hs:szT P t=some size)
  (h1:agg=true\/size=1): ∃cs u,v=.agg cs/\(part t cs off).run P s.w=.ok u s.w/\JH s r u:=by
 have go: ∀(cs:Array Value) (vs:List Value),vs.length=size->(∀(i:Nat),i<size->vs[i]?=cs[off+i]?)->off+size<=cs.size->
   ((agg=true/\JH s r (.agg vs.toArray))\/(agg=false/\ ∃v,vs=[v]/\JH s r v))-> ∃u,(part t cs off).run P s.w=.ok u s.w/\JH s r u:=by
  intro cs vs j n B g;rcases g with⟨rfl,e⟩|⟨rfl,v,rfl,e⟩
  ·refine⟨.agg (cs.extract off (off+size)),by simp[part,Jd8 z,J2P hs],?_⟩;have:cs.extract off (off+size)=vs.toArray:=by
    apply J9Q;rw[Array.toList_extract];apply JmG;intro k;simp only[List.extract,Nat.add_sub_cancel_left];rw[Jdi];split
    ·rename_i hk;rw[J8v,JDL,n k hk]
    ·rw[zQ3 (by omega)]
   rw[this];exact e
  ·simp at j;subst j;have q:=n 0 (by omega);simp at q;exact⟨v,by simp[part,Jd8 z,<-q],e⟩
 unfold J8Q at h;split at h
 ·rename_i cs;split at h
  ·rename_i l hl;obtain⟨k1,k2,o⟩:=JhP hl;cases hr with
   |data _ vs q1 q2=>
    have g:=Jvm (s:=s) (vs:=((vs.toList.drop off).take size)) h (by simp;omega) (by intro i y v hy hv;have hi:=Je hy;rw[o i (by omega)]at hy;rw[Jdi,if_pos (by omega),J8v]at hv;exact q2 _ y v hy (by simpa using hv))
    obtain⟨u,hu,e⟩:=go vs _ (by simp;omega) (by intro i hi;rw[Jdi,if_pos hi,J8v];simp) (by omega) g;exact⟨vs,u,rfl,hu,e⟩
  ·cases h
 ·rename_i cs;split at h
  ·rename_i l hl;obtain⟨k1,k2,o⟩:=JhP hl;cases hr with
   |agg _ vs q1 A q2=>
    have g:=Jt9 (s:=s) (vs:=((vs.toList.drop off).take size)) h (by simp;omega) (by
     intro v hv;have hv:=JCB (JDv hv);obtain⟨i,hi⟩:=J6x hv;exact A i v (by simpa using hi)) (by
     intro i y v hy hv;have hi:=Je hy;rw[o i (by omega)]at hy;rw[Jdi,if_pos (by omega),J8v]at hv;exact q2 _ y v hy (by simpa using hv))
    obtain⟨u,hu,e⟩:=go vs _ (by simp;omega) (by intro i hi;rw[Jdi,if_pos hi,J8v];simp) (by omega) g;exact⟨vs,u,rfl,hu,e⟩
  ·cases h
 ·cases h
theorem JKA(hi:Inv s)(he:J0m s a.tmps env){agg off size x}(h:(opR F (.field agg off size x) new).run ⟨env,s.σ⟩=some e)(hc:JX P (.field agg off size x) o.op=true):J16 P o a s e:=by
 simp only[opR]at h;obtain⟨u,h1,k⟩:=bind_some h;obtain⟨r,h3,rfl⟩:=J20 k;clear h k;unfold JX at hc;simp only at hc;split at hc
 ·rename_i t y f j;simp only[JY]at hc;obtain⟨hx,g⟩:=hc;split at g
  ·rename_i fs n;split at g
   ·rename_i A q;simp only[JY,beq_iff_eq]at g;obtain⟨⟨⟨h4,h5⟩,z⟩,w⟩:=g;obtain⟨cs,v,hv,hp,hr⟩:=JwV h3 (J0c he h1 hx) z h5 (by simpa using w);exact JD hi (v:=v) (by simp[execOp,j,hv,Instr.field,run_underlying (JAD n),q,asAgg,h4,hp]) hr
   ·cases g
  ·cases g
 ·cases hc
theorem JMx(hi:Inv s)(he:J0m s a.tmps env){x i}(h:(opR F (.sidx x i) new).run ⟨env,s.σ⟩=some e)(hc:JX P (.sidx x i) o.op=true):J16 P o a s e:=by
 simp only[opR]at h;obtain⟨u,h1,w⟩:=bind_some h;obtain⟨v,h2,g⟩:=bind_some w;clear h w;unfold JX at hc;simp only at hc;split at hc
 ·rename_i t y j r;simp only[JY]at hc;obtain⟨⟨hx,hj⟩,B⟩:=hc;have D:=J0c he h1 hx;have E:=J0c he h2 hj;split at g
  ·rename_i l k n;split at g
   ·rename_i hn;split at g
    ·rename_i b hb;simp only[RM.run]at g;injection g with g;subst g
     have A:=Jaw D;have C:=J3Z E;have z:(⟨l.toArray⟩:ByteArray)[n.toNat]?=some b:=by have q:=Je hb;rw[JF q]at hb;rw[getElem?_pos _ _ (by show n.toNat<ByteArray.size _;rw[J86];exact q)];injection hb with hb;rw[<-hb];rfl
     refine JD hi (v:=.int .u8 b.toNat) ?_ (J5p _ _);simp[execOp,r,A,C,Instr.index,asIntOf,run_underlying (J6h B),hn,z]
    ·cases g
   ·cases g
  ·cases g
 ·cases hc
theorem JN0(hi:Inv s)(he:J0m s a.tmps env){agg len esz x i}(h:(opR F (.aidx agg len esz x i) new).run ⟨env,s.σ⟩=some e)(hc:JX P (.aidx agg len esz x i) o.op=true):J16 P o a s e:=by
 simp only[opR]at h;obtain⟨u,h1,B⟩:=bind_some h;obtain⟨v,h2,g⟩:=bind_some B;clear h B;unfold JX at hc;simp only at hc;split at hc
 ·rename_i t y j z;simp only[JY]at hc;obtain⟨⟨hx,hj⟩,q⟩:=hc;have E:=J0c he h1 hx;have G:=J0c he h2 hj;split at q
  ·rename_i n el A;simp only[JY,beq_iff_eq]at q;obtain⟨⟨⟨rfl,h5⟩,H⟩,C⟩:=q;split at g
   ·rename_i k m;split at g
    ·rename_i hm;obtain⟨r,h3,rfl⟩:=J20 g;obtain⟨cs,w,hv,hp,hr⟩:=JwV h3 E H h5 (by simpa using C);have D:=J3Z G;exact JD hi (v:=w) (by simp[execOp,z,hv,D,Instr.index,asIntOf,run_underlying (Jrq A),hm,J2P h5,hp]) hr
    ·cases g
   ·cases g
  ·cases q
 ·cases hc
theorem JLm(hi:Inv s)(he:J0m s a.tmps env){len esz x i}(h:(opR F (.aaddr len esz x i) new).run ⟨env,s.σ⟩=some e)(hc:JX P (.aaddr len esz x i) o.op=true):J16 P o a s e:=by
 simp only[opR]at h;obtain⟨u,h1,J⟩:=bind_some h;obtain⟨v,h2,B⟩:=bind_some J;obtain⟨r,h3,rfl⟩:=J20 B;clear h J B;unfold JX at hc;simp only at hc;split at hc
 ·rename_i t y j H;simp only[JY]at hc;obtain⟨⟨hx,hj⟩,q⟩:=hc;have A:=J0c he h1 hx;have M:=J0c he h2 hj;split at q
  ·rename_i n el I;simp only[JY,beq_iff_eq]at q;obtain⟨rfl,h5⟩:=q;unfold JoU at h3;split at h3
   ·rename_i k m;split at h3
    ·rename_i hm;have L:=J3Z M;have go: ∀(r g:Nat),a.eval y=.pointer (some ⟨r,g,none⟩)->(execOp a.eval o).run P s.w=.ok (.value (.pointer (some ⟨r,g+m.toNat*esz,none⟩))) s.w:=by intro r g hz;simp[execOp,H,hz,L,Instr.indexAt,asIntOf,run_underlying (Jrq I),Instr.sureAddr,hm,J2P h5,J9q]
     generalize hz:a.eval y=z at A;split at h3<;>first|(injection h3 with h3;subst h3)|cases h3
     ·cases A with
      |ptr _ _ r g G hb=>exact JD hi (go _ _ hz) (by rw[Jbe];exact .ptr _ _ r g G hb)
     ·cases A with
      |cp cs _ r g vals E C=>exact JD hi (go _ _ hz) (by rw[Jbe];exact .cp _ _ r g vals E C)
     ·cases A with
      |ep _ _ _ _ _ wm D rows p0 E C K=>
       obtain⟨r,g,rfl⟩:=p0;refine JD hi (go _ _ hz) (.ep _ _ _ _ _ wm D rows ⟨_,_,rfl⟩ E C λe1 e2=>?_);obtain⟨r',G,hv⟩:=K e1 e2;simp at hv;obtain⟨rfl,rfl⟩:=hv;exact⟨r,G,by rw[Jbe]⟩
    ·cases h3
   ·cases h3
  ·cases q
 ·cases hc
theorem JL5(hi:Inv s)(he:J0m s a.tmps env){esz x i}(h:(opR F (.iaddr esz x i) new).run ⟨env,s.σ⟩=some e)(hc:JX P (.iaddr esz x i) o.op=true):J16 P o a s e:=by
 simp only[opR]at h;obtain⟨u,h1,K⟩:=bind_some h;obtain⟨v,h2,g⟩:=bind_some K;clear h K;unfold JX at hc;simp only at hc;split at hc
 ·rename_i t y j J;simp only[JY]at hc;obtain⟨⟨hx,hj⟩,D⟩:=hc;have E:=J0c he h1 hx;have O:=J0c he h2 hj;split at D
  ·rename_i el L;simp only[beq_iff_eq]at D
   have go: ∀(r A len cap:Nat) k (m:Int),a.eval j=.int k m->a.eval y=.slice (some ⟨r,A,none⟩) len cap->0<=m->m<len->
     (execOp a.eval o).run P s.w=.ok (.value (.pointer (some ⟨r,A+m.toNat*esz,none⟩))) s.w:=by
    intro r A len cap k m C hz T G;simp[execOp,J,hz,C,Instr.indexAt,asIntOf,run_underlying (J23 L),T,G,J2P D,J9q]
   unfold J6d at g;split at g
   ·rename_i B rows k n;split at g
    ·rename_i M;subst M;split at g
     ·rename_i row q;simp only[RM.run]at g;injection g with g;subst g
      unfold JtA at q;split at q
      ·rename_i hn;have C:=J3Z O;generalize hz:a.eval y=z at E;cases E with
       |p _ _ S=>
        cases S with
        |sl0 _ ad cap=>simp at q
        |sl _ _ r A cap vals p1 p2 Q R=>
         have G:=Je q;refine JD hi (go r A _ cap k n C hz hn (by omega)) ?_;have:=JH.cp (s:=s) row 0 r (A+n.toNat*esz) (λj=>vals n.toNat j) (λj x hx=>Q n.toNat j row x q hx) (λj x hx=>R n.toNat j row x q hx);simpa using this
      ·cases q
     ·cases g
    ·cases g
   ·rename_i b Z m k n;simp only[RM.run]at g;split at g
    ·rename_i blk hb;split at g
     ·rename_i wm B rows;split at g
      ·rename_i I;obtain⟨rfl,N,hn,Y⟩:=I;simp only[RM.run]at g;injection g with g;subst g
       have C:=J3Z O;generalize hz:a.eval y=z at E;cases E with
       |slr _ _ _ _ wm' B rows' q0 q1 q2 q3=>
        have H:s.σ[b]?=some (.arr wm esz rows):=hb;rw[H]at q1;injection q1 with q1;injection q1 with a1 a2 a3;subst a1 a2 a3
        rcases q3 N with⟨_,_,W,_⟩|⟨r,cap,c,e1,fz,V,hv,U,hh,hs⟩
        ·omega
        ·subst hv;refine JD hi (go r _ _ cap k n C hz hn (by omega)) (.ep _ _ _ _ _ wm esz rows ⟨_,_,rfl⟩ H (zQ0 _) λ_ _=>⟨r,V,?_⟩);simp[J3H]
      ·cases g
     ·cases g
    ·cases g
   ·cases g
  ·cases D
 ·cases hc
end
end Go.Am
end
section
namespace Go.Am
theorem J1t(a b:List (Nat×Blk))(σ:List Blk):upd (a++b) σ=upd b (upd a σ):=by simp[upd,List.foldl_append]
section
variable {P:Program} {F:Orc} {s:Sn} {a:Act} {env:List (Nat×AV)} {o:Oper} {new:Nat} {e:Eff}
theorem Ja2{e:List Blk}(hi:Inv s)(j:Frz e s.σ){b i n:Nat}{y:List PV×List (Nat×Blk)}{v:Value}(h:(fz (.slr b i n)).run ⟨env,e⟩=some y)(hr:JH s (.slr b i n) v):
  ∃g',Inv ⟨upd y.2 s.σ,g',s.w⟩/\J0h s ⟨upd y.2 s.σ,g',s.w⟩/\Frz s.σ (upd y.2 s.σ)/\ ∃c,y.1=[c]/\J0p s.w g'.C c v:=by
 simp only[fz,RM.run]at h;split at h
 ·rename_i blk hb;split at h
  ·rename_i wm esz rows;split at h
   ·rename_i hc;simp only[RM.run]at h;injection h with h;subst h
    obtain⟨wm',g⟩:=j.1 b _ _ _ hb;obtain⟨g',h1,h2,h3,h4⟩:=JJx hi hr g hc;exact⟨g',h1,h2,h3,_,rfl,h4⟩
   ·cases h
  ·cases h
 ·cases h
theorem JMl{e:List Blk}(hi:Inv s)(j:Frz e s.σ){x:AV}{y:List PV×List (Nat×Blk)}{v:Value}(h:(fz.fz1 x).run ⟨env,e⟩=some y)(hr:JH s x v):
  ∃g',Inv ⟨upd y.2 s.σ,g',s.w⟩/\J0h s ⟨upd y.2 s.σ,g',s.w⟩/\Frz s.σ (upd y.2 s.σ)/\ ∃c,y.1=[c]/\J0p s.w g'.C c v:=by
 cases x with
 |p c=>
  simp only[fz.fz1,RM.run]at h;injection h with h;subst h
  cases hr with
  |p _ _ hr=>exact⟨s.g,hi,.refl s,.refl _,c,rfl,hr⟩
 |slr b i n=>exact Ja2 hi j (by exact h) hr
 |_=>simp only[fz.fz1,RM.run]at h;cases h
theorem JFV{r:List Blk}: ∀{xs:List AV} {s:Sn} {y:List PV×List (Nat×Blk)} {vs:List Value},Inv s->Frz r s.σ->(fz.fzL xs).run ⟨env,r⟩=some y->xs.length=vs.length->
  (∀(i:Nat) x v,xs[i]?=some x->vs[i]?=some v->JH s x v)->
  ∃g',Inv ⟨upd y.2 s.σ,g',s.w⟩/\J0h s ⟨upd y.2 s.σ,g',s.w⟩/\Frz s.σ (upd y.2 s.σ)/\y.1.length=vs.length/\
   ∀(i:Nat) c v,y.1[i]?=some c->vs[i]?=some v->J0p s.w g'.C c v
 |[],s,y,vs,hi,j,h,hl,hr=>by
  simp only[fz.fzL,RM.run]at h;injection h with h;subst h
  exact⟨s.g,hi,.refl s,.refl _,by simpa using hl,λi c v hc=>by simp at hc⟩
 |x::xs,s,y,[],hi,j,h,hl,hr=>by simp at hl
 |x::xs,s,y,v::vs,hi,j,h,hl,hr=>by
  simp only[fz.fzL]at h;obtain⟨k,h1,h⟩:=bind_some h;obtain⟨H,h2,h⟩:=bind_some h;simp only[RM.run]at h;injection h with h;subst h
  obtain⟨g1,z,q,o,c,hc,G⟩:=JMl hi j h1 (hr 0 x v rfl rfl);obtain⟨g2,B,n,D,F,E⟩:=JFV (s:=⟨upd k.2 s.σ,g1,s.w⟩) z (j.trans o) h2 (by simpa using hl) λi x v hx hv=>(hr (i+1) x v (by simpa using hx) (by simpa using hv)).mono hi q;refine⟨g2,by rw[J1t];exact B,by rw[J1t];exact q.trans n,by rw[J1t];exact o.trans D,by simp[hc,F],λi c' A hc' e=>?_⟩;rw[hc]at hc';cases i with
  |zero=>
   simp at hc' e;subst hc' e;exact J0p.mono (s0:=⟨upd k.2 s.σ,g1,s.w⟩) (s:=⟨upd H.2 (upd k.2 s.σ),g2,s.w⟩) z n G
  |succ i=>exact E i c' A (by simpa using hc') (by simpa using e)
theorem JAW{k:List Blk}(hi:Inv s)(j:Frz k s.σ){x:AV}{y:List PV×List (Nat×Blk)}{v:Value}(h:(fz x).run ⟨env,k⟩=some y)(hr:JH s x v):
  ∃g',Inv ⟨upd y.2 s.σ,g',s.w⟩/\J0h s ⟨upd y.2 s.σ,g',s.w⟩/\Frz s.σ (upd y.2 s.σ)/\y.1.length=v.cells.size/\
   ∀(i:Nat) c u,y.1[i]?=some c->v.cells[i]?=some u->J0p s.w g'.C c u:=by
 cases x with
 |p c=>
  simp only[fz,RM.run]at h;injection h with h;subst h
  cases hr with
  |p _ _ hr=>
   refine⟨s.g,hi,.refl s,.refl _,by rw[hr.cells1];rfl,λi c' u hc hu=>?_⟩;rw[hr.cells1]at hu;cases i with
   |zero=>simp at hc hu;subst hc hu;exact hr
   |succ i=>simp at hc
 |data cs=>
  simp only[fz,RM.run]at h;injection h with h;subst h
  cases hr with
  |data _ vs h1 h2=>exact⟨s.g,hi,.refl s,.refl _,h1,λi c u hc hu=>h2 i c u hc hu⟩
 |slr b i n=>
  obtain⟨g',h1,h2,h3,c,hc,e⟩:=Ja2 hi j h hr;refine⟨g',h1,h2,h3,by rw[hc,e.cells1];rfl,λi c' u hc' hu=>?_⟩;rw[e.cells1]at hu;rw[hc]at hc';cases i with
  |zero=>simp at hc' hu;subst hc' hu;exact e
  |succ i=>simp at hc'
 |agg cs=>
  simp only[fz]at h;cases hr with
  |agg _ vs h1 z h2=>
   obtain⟨g',k1,k2,o,r,q⟩:=JFV (vs:=vs.toList) hi j h (by simpa using h1) λi x v hx hv=>h2 i x v hx (by simpa using hv);exact⟨g',k1,k2,o,by simpa[Value.cells]using r,λi c u hc hu=>q i c u hc (by simpa[Value.cells]using hu)⟩
 |_=>simp only[fz,RM.run]at h;cases h
theorem Jda(he:J0m s a.tmps env){x:Option Opd}{y:Option Operand}{v:Option AV}(h:(evo x).run ⟨env,s.σ⟩=some v)(hc:JeE x y=true):
  (v=none/\y=none)\/ ∃u q,v=some u/\y=some q/\JH s u (a.eval q):=by
 cases x with
 |none=>
  simp only[evo,RM.run]at h;injection h with h;subst h
  cases y with
  |none=>exact .inl ⟨rfl,rfl⟩
  |some _=>simp[JeE]at hc
 |some x=>
  cases y with
  |none=>simp[JeE]at hc
  |some y=>
   simp only[evo]at h;obtain⟨u,h1,h⟩:=bind_some h;simp only[RM.run]at h;injection h with h;subst h
   exact .inr ⟨u,y,rfl,rfl,J0c he h1 hc⟩
theorem Jfz{x:AV}{top n j:Nat}{v:Value}(h:J64 (some x) top j=some n)(hr:JH s x v)(g:Nat)(o:top<=g)(k:BoundsCode)(w:World):
  (Instr.sliceBound v g k).run P w=.ok n w/\n<=top:=by
 unfold J64 at h;split at h
 ·rename_i e;cases e
 ·rename_i e;injection e with e;subst e
  split at h
  ·rename_i hc;injection h with h;subst h;have:=J3Z hr;subst this;refine⟨?_,by omega⟩;simp only[Instr.sliceBound,asIntOf,J5i,J9k,J59];rw[if_pos ⟨hc.1,by omega⟩];rfl
  ·cases h
 ·cases h
theorem JJq{n:Nat}{lo hi:Option AV}{c:Nat×Nat}(h:JnV n lo hi=some c):J64 hi n n=some c.2/\J64 lo c.2 0=some c.1:=by
 unfold JnV at h;split at h
 ·cases h
 ·rename_i j hj;split at h
  ·cases h
  ·rename_i i hi;injection h with h;subst h;exact⟨hj,hi⟩
theorem JjG(he:J0m s a.tmps env){lo hi:Option Opd}{n k:Option Operand}{l h:Option AV}{len cap:Nat}{c:Nat×Nat}{isSlice:Bool}
  (h1:(evo lo).run ⟨env,s.σ⟩=some l) (h2:(evo hi).run ⟨env,s.σ⟩=some h) (r:JeE lo n=true) (z:JeE hi k=true)
  (hc:JnV len l h=some c) (o:len<=cap) (w:World):
  (Instr.sliceBounds isSlice len cap (n.map a.eval) (k.map a.eval) none).run P w=.ok (c.1,c.2,cap) w/\c.1<=c.2/\c.2<=len:=by
 obtain⟨hj,e⟩:=JJq hc;obtain⟨i,j⟩:=c;rcases Jda he h2 z with⟨rfl,rfl⟩|⟨u,q,rfl,rfl,hr⟩
 ·simp[J64]at hj;subst hj;rcases Jda he h1 r with⟨rfl,rfl⟩|⟨y,q',rfl,rfl,g⟩
  ·simp[J64]at e;subst e;exact⟨by simp[Instr.sliceBounds],zQ5 _,zQ0 _⟩
  ·obtain⟨k1,k2⟩:=Jfz (P:=P) e g len (zQ0 _) .sliceB w;exact⟨by simp[Instr.sliceBounds,k1],k2,zQ0 _⟩
 ·rcases Jda he h1 r with⟨rfl,rfl⟩|⟨y,q',rfl,rfl,g⟩
  ·obtain⟨k1,k2⟩:=Jfz (P:=P) hj hr cap o (if isSlice then .sliceAcap else .sliceAlen) w;simp[J64]at e;subst e;exact⟨by simp[Instr.sliceBounds,k1],zQ5 _,k2⟩
  ·obtain⟨k1,k2⟩:=Jfz (P:=P) hj hr cap o (if isSlice then .sliceAcap else .sliceAlen) w;obtain⟨v,x⟩:=Jfz (P:=P) e g j (zQ0 _) .sliceB w;exact⟨by simp[Instr.sliceBounds,k1,v],x,k2⟩
theorem JIy{esz:Nat}{rows:List (List PV)}{v:Value}{i j:Nat}(h:J0p s.w s.g.C (.sl esz rows) v)(F:i<=j)(hj:j<=rows.length):
  ∃e cap,v=.slice e rows.length cap/\rows.length<=cap/\
   J0p s.w s.g.C (.sl esz ((rows.drop i).take (j-i))) (.slice (if cap=i then e else e.map (·.add (i*esz))) (j-i) (cap-i)):=by
 have hlen:((rows.drop i).take (j-i)).length=j-i:=by simp;omega
 cases h with
 |sl0 _ e cap=>
  have q:j=0:=by simpa using hj
  have n:i=0:=by omega
  subst q n;refine⟨e,cap,rfl,zQ5 _,?_⟩;simpa using J0p.sl0 (w:=s.w) (C:=s.g.C) esz _ _
 |sl _ _ r o cap vals E B z A=>
  refine⟨_,cap,rfl,E,?_⟩;by_cases y:cap=i
  ·have D:j-i=0:=by omega
   rw[D];simpa using J0p.sl0 (w:=s.w) (C:=s.g.C) esz _ _
  ·rw[if_neg y];have:=J0p.sl (w:=s.w) (C:=s.g.C) esz ((rows.drop i).take (j-i)) r (o+i*esz) (cap-i) (λk m=>vals (i+k) m) (by omega)
    (λrow hr=>B row (JCB (JDv hr)))
    (λk m row x hk hm=>by
      rw[Jdi]at hk;split at hk
      ·rw[J8v]at hk;have:=z (i+k) m row x hk hm;rwa[show o+(i+k)*esz+m=o+i*esz+k*esz+m by rw[J3H];omega]at this
      ·cases hk)
    (λk m row x hk hm=>by
      rw[Jdi]at hk;split at hk
      ·rw[J8v]at hk;exact A (i+k) m row x hk hm
      ·cases hk)
   rw[hlen]at this;simpa[J9q]using this
def Jdz(k:SK)(x:AV)(lo hi:Option AV):Option AV:=
 match k with
 | .str=>JbU x lo hi
 | .sl esz=>Jc2 esz x lo hi
theorem JGe(hi:Inv s){k:SK}{t:TypeId}{y:Operand}{B A:Option Operand}{q:Operand}{c:PV}{l K:Option AV}{u r:AV}{g':Gh}{ws:List (Nat×Blk)}
  (F:o.op=.slice t y B A (some q)) (h:(match k with
   | .str=>J5Y P t
   | .sl esz=>(match elT P t with|some e=>szT P e==some esz|none=>false))=true)
  (hl:l=none->B=none) (I: ∀J,K=some J-> ∃q',A=some q'/\JH s J (a.eval q')) (hu:JH s u (a.eval q))
  (hs:J4W k (.p c) l K (some u)=some r) (G:Inv ⟨upd ws s.σ,g',s.w⟩) (t':J0h s ⟨upd ws s.σ,g',s.w⟩) (hr:J0p s.w g'.C c (a.eval y)):J16 P o a s ⟨r,ws⟩:=by
 cases k with
 |str=>simp[J4W]at hs
 |sl esz=>
  simp only[J4W]at hs;unfold JzC at hs;split at hs
  ·rename_i R rows k1 h1 k2 T n;injection n with n;subst n;split at hs
   ·rename_i hc;obtain⟨rfl,rfl,rfl⟩:=hc;injection hs with hs;subst hs;obtain⟨q',rfl,E⟩:=I _ rfl;obtain rfl:=hl rfl;have e1:=J3Z E;have e2:=J3Z hu;simp only at h;split at h
    ·rename_i el H;simp only[beq_iff_eq]at h;obtain⟨g,cap,hv,D,Q⟩:=JIy (s:=⟨s.σ,g',s.w⟩) (i:=0) (j:=rows.length) hr (zQ5 _) (zQ0 _);have hb: ∀w:World,(Instr.sliceBounds true rows.length cap none (some (a.eval q')) (some (a.eval q))).run P w=.ok (0,rows.length,rows.length) w:=by intro w;rw[e1,e2];simp[Instr.sliceBounds,Instr.sliceBound,asIntOf,D]
     have z:J0p s.w g'.C (.slc esz rows) (.slice g rows.length rows.length):=by
      refine .slc esz rows g ?_;rw[hv]at hr;cases hr with
      |sl0=>exact .sl0 _ _ _
      |sl _ _ r o cap vals S O L N=>exact .sl esz rows r o rows.length vals (zQ0 _) O L N
     refine J2e (e:=⟨_,ws⟩) (w':=s.w) (g':=g') (v:=.slice g rows.length rows.length) ?_ G t' (.p _ _ z);have M:(if rows.length=0 then g else g.map λx=>x.add (0*esz))=g:=by
      split
      ·rfl
      ·cases g with
       |none=>rfl
       |some g=>cases g;simp[Addr.add]
     simp only[execOp,F,hv];simp[Instr.sliceAt,Instr.slice,run_underlying (J23 H),hb,J2P h]
     try simpa using M
    ·cases h
   ·cases hs
  ·cases hs
theorem JKi(hi:Inv s)(he:J0m s a.tmps env){k x lo E mx}(h:(opR F (.slice k x lo E mx) new).run ⟨env,s.σ⟩=some e)(hc:JX P (.slice k x lo E mx) o.op=true):J16 P o a s e:=by
 simp only[opR]at h;obtain⟨u,h1,h⟩:=bind_some h;obtain⟨l,h2,h⟩:=bind_some h;obtain⟨I,h3,h⟩:=bind_some h;obtain⟨m,h4,h⟩:=bind_some h;unfold JX at hc;simp only at hc;split at hc
 ·rename_i t y a1 Z ae G;simp only[JY]at hc;obtain⟨⟨⟨⟨hx,K⟩,J⟩,c3⟩,z⟩:=hc;have q:=J0c he h1 hx;rcases Jda he h4 c3 with⟨rfl,rfl⟩|⟨um,qm,rfl,rfl,R⟩
  case inr=>
   have D:l=none->a1=none:=by
    intro D;rcases Jda he h2 K with⟨_,e⟩|⟨L,q',e1,_,_⟩
    ·exact e
    ·rw[D]at e1;cases e1
   have Q: ∀L,I=some L-> ∃q',Z=some q'/\JH s L (a.eval q'):=by
    intro L N;rcases Jda he h3 J with⟨e,_⟩|⟨u2,q',e1,e2,e3⟩
    ·rw[N]at e;cases e
    ·rw[N]at e1;injection e1 with e1;subst e1;exact⟨q',e2,e3⟩
   split at h
   ·rename_i b i n;obtain⟨y',h5,h⟩:=bind_some h;obtain⟨g',V,U,f1,c,B,T⟩:=Ja2 hi (.refl _) h5 q;split at h
    ·rename_i c' hc';rw[B]at hc';injection hc' with hc';subst hc'
     split at h
     ·rename_i r hr;simp only[RM.run]at h;injection h with h;subst h
      exact JGe hi G z D Q R hr V U T
     ·cases h
    ·cases h
   ·rename_i x' M;obtain⟨r,hr,rfl⟩:=J20 h;cases u with
    |p c=>
     cases q with
     |p _ _ q=>exact JGe (ws:=[]) (g':=s.g) hi G z D Q R hr hi (.refl s) q
    |_=>cases k<;>simp[J4W,JzC]at hr
  have j: ∀{c:AV} {r},J4W k c l I none=some r->(none:Option Operand)=none/\Jdz k c l I=some r:=by intro c r hs;exact⟨rfl,hs⟩
  have H: ∀{b:List UInt8} {r},J4W k (.p (.s b)) l I none=some r->a.eval y=.string ⟨b.toArray⟩->J16 P o a s ⟨r,[]⟩:=by
   intro b r hs hz;obtain⟨_,hq⟩:=j hs;clear hs;have hs:=hq;clear hq;cases k with
   |sl esz=>simp[Jdz,Jc2]at hs
   |str=>
    simp only[Jdz,JbU]at hs;split at hs
    ·rename_i c hc;injection hs with hs;subst hs;have a0:=J6h z;obtain⟨hb,ac,ab⟩:=JjG (P:=P) (isSlice:=false) (cap:=b.length) he h2 h3 K J hc (zQ0 _) s.w;have a4:(⟨b.toArray⟩:ByteArray).extract c.1 c.2=⟨((b.drop c.1).take (c.2-c.1)).toArray⟩:=by apply ByteArray.ext;rw[ByteArray.data_extract];apply J9Q;simp[List.extract]
     refine JD hi (v:=.string ⟨((b.drop c.1).take (c.2-c.1)).toArray⟩) ?_ (Jpc _);simp only[execOp,G,hz];simp[Instr.sliceAt,Instr.slice,run_underlying a0,J86,hb,a4]
    ·cases hs
  have A: ∀{s':Sn} {ws} {esz rows r} {g'},s'=⟨upd ws s.σ,g',s.w⟩->Inv s'->J0h s s'->J4W k (.p (.sl esz rows)) l I none=some r->J0p s'.w s'.g.C (.sl esz rows) (a.eval y)->J16 P o a s ⟨r,ws⟩:=by
   intro s' ws esz rows r g' hs' E t' hs hr;obtain⟨_,hq⟩:=j hs;clear hs;have hs:=hq;clear hq;cases k with
   |str=>simp[Jdz,JbU]at hs
   |sl Y=>
    simp only[Jdz,Jc2]at hs;split at hs
    ·rename_i a3;subst a3;split at hs
     ·rename_i c hc;injection hs with hs;subst hs;simp only at z;split at z
      ·rename_i el a2;simp only[beq_iff_eq]at z;have O:=JjG (P:=P) (isSlice:=true) he h2 h3 K J hc (zQ0 _) s.w;obtain⟨ad,cap,hv,S,W⟩:=JIy hr O.2.1 O.2.2;obtain⟨hb,_,_⟩:=JjG (P:=P) (isSlice:=true) he h2 h3 K J hc S s.w;subst hs';refine J2e (e:=⟨_,ws⟩) (w':=s.w) (g':=g') ?_ E t' (.p _ _ W);simp only[execOp,G,hv];simp[Instr.sliceAt,Instr.slice,run_underlying (J23 a2),hb,J2P z]
      ·cases z
     ·cases hs
    ·cases hs
  split at h
  ·rename_i b i n;obtain⟨y',h5,h⟩:=bind_some h;obtain⟨g',V,U,f1,c,B,T⟩:=Ja2 hi (.refl _) h5 q;split at h
   ·rename_i c' hc';rw[B]at hc';injection hc' with hc';subst hc'
    split at h
    ·rename_i r hr;simp only[RM.run]at h;injection h with h;subst h
     have: ∃Y rw,c=.sl Y rw:=by
      simp only[fz,RM.run]at h5;split at h5
      ·split at h5
       ·split at h5
        ·simp only[RM.run]at h5;injection h5 with h5;subst h5
         simp at B;exact⟨_,_,B.symm⟩
        ·cases h5
       ·cases h5
      ·cases h5
     obtain⟨Y,aa,rfl⟩:=this;exact A rfl V U hr T
    ·cases h
   ·cases h
  ·rename_i x' M;obtain⟨r,hr,rfl⟩:=J20 h;cases u with
   |p c=>
    cases c with
    |s b=>exact H hr (Jaw q)
    |sl esz rows=>cases q with|p _ _ q=>exact A (s':=s) (ws:=[]) (g':=s.g) rfl hi (.refl s) hr q
    |_=>obtain⟨_,hr⟩:=j hr;cases k<;>simp[Jdz,JbU,Jc2]at hr
   |slr b i n=>exact absurd rfl (M b i n)
   |_=>obtain⟨_,hr⟩:=j hr;cases k<;>simp[Jdz,JbU,Jc2]at hr
 ·cases hc
end
end Go.Am
end
section
namespace Go.Am
section
variable {P:Program} {F:Orc} {s:Sn} {a:Act} {env:List (Nat×AV)} {o:Oper} {new:Nat} {e:Eff}
theorem JwR(hi:Inv s){agg:Bool}{size:Nat}{x:AV}{v:Value}(h:(J43 agg size x).run ⟨env,s.σ⟩=some e)(hr:JH s x v):
  ∃r o vs,v=.pointer (some ⟨r,o,none⟩)/\vs.length=size/\(∀(k:Nat) u,vs[k]?=some u->J0B s.w r (o+k)=some u)/\e.ws=[]/\
   ((agg=true/\JH s e.val (.agg vs.toArray))\/(agg=false/\ ∃u,vs=[u]/\JH s e.val u)):=by
 unfold J43 at h;split at h
 ·rename_i cs off;split at h
  ·rename_i l hl;obtain⟨r',h3,rfl⟩:=J20 h;obtain⟨k1,k2,B⟩:=JhP hl;cases hr with
   |cp _ _ r o vals A I=>
    have N: ∀(i:Nat) y u,l[i]?=some y->((List.range size).map λi=>vals (off+i))[i]?=some u->J0p s.w s.g.C y u:=by intro i y u hy hu;have:=Je hy;rw[B i (by omega)]at hy;rw[J29,JjZ (by omega)]at hu;injection hu with hu;subst hu;exact I _ y hy
    refine⟨r,o+off,(List.range size).map λi=>vals (off+i),rfl,by simp,λk u hu=>?_,rfl,Jvm h3 (by simp[k1]) N⟩;have j:=Je hu;simp at j;rw[J29,JjZ j]at hu;injection hu with hu;subst hu;have:off+k<cs.length:=by omega
    have:=(A (off+k) _ (JF this)).2;rwa[Jbe]
  ·cases h
 ·rename_i b off;simp only[RM.run]at h;split at h
  ·rename_i blk hb;split at h
   ·rename_i cs;split at h
    ·rename_i l hl;obtain⟨r',h3,rfl⟩:=J20 h;obtain⟨k1,k2,B⟩:=JhP hl;cases hr with
     |ptr _ _ r o m P=>
      obtain⟨M,R,c,e1,fz,z,G,K,hx,hf⟩:=hi.box b cs hb;rw[m]at z;injection z with z;injection z with m1 m2;subst m1 m2
      have q: ∀k,k<size-> ∃u,c[o+(off+k)]?=some u/\u.oneCell'=true/\ ∀y,l[k]?=some y->JH s y u:=by
       intro k hk;have j:off+k<cs.length:=by omega
       obtain⟨u,hu,hr,h1⟩:=hx (off+k) _ (JF j);refine⟨u,hu,h1,λy hy=>?_⟩;rw[B k hk,JF j]at hy;injection hy with hy;subst hy;exact hr
      refine⟨r,o+off,(List.range size).map λi=>(c[o+(off+i)]?).getD .nilFunc,rfl,by simp,λk u hu=>?_,rfl,Jt9 h3 (by simp[k1]) (λv hv=>?_) λi y u hy hu=>?_⟩
      ·have j:=Je hu;simp at j;rw[J29,JjZ j]at hu;obtain⟨E,n,_⟩:=q k j;simp[n]at hu;subst hu;rw[J2x G,<-n,Jbe]
      ·obtain⟨i,J,rfl⟩:=J4i.1 hv;obtain⟨E,n,h1,_⟩:=q i (by simpa using J);simpa[n]using h1
      ·have j:=Je hy;rw[J29,JjZ (by omega)]at hu;obtain⟨E,n,_,h2⟩:=q i (by omega);simp[n]at hu;subst hu;exact h2 y hy
    ·cases h
   ·cases h
  ·cases h
 ·rename_i b ext i off;simp only[RM.run]at h;split at h
  ·rename_i blk hb;split at h
   ·rename_i wm esz rows;split at h
    ·rename_i H;split at h
     ·rename_i row D;split at h
      ·rename_i l hl;obtain⟨r',h3,rfl⟩:=J20 h;obtain⟨k1,k2,B⟩:=JhP hl;have F:s.σ[b]?=some (.arr wm esz rows):=hb;cases hr with
       |ep _ _ _ _ _ wm' O rows' p0 A I L=>
        rw[F]at A;injection A with A;injection A with a1 a2 a3;subst a1 a2 a3
        have j:=Je D;obtain⟨r,m,hv⟩:=L H (by omega);rcases hi.arr b _ _ _ F with⟨z,_⟩|⟨M,c,e1,fz,z,G,Q,K,hx,hf⟩
        ·rw[m]at z;cases z
        ·rw[m]at z;injection z with z;injection z with m1 _;subst m1
         have q: ∀k,k<size-> ∃u,c[i*esz+(off+k)]?=some u/\ ∀y,l[k]?=some y->J0p s.w s.g.C y u:=by
          intro k hk;have j:off+k<row.length:=by omega
          obtain⟨⟨u,hu,hr⟩,_⟩:=hx i (off+k) row _ D (JF j);refine⟨u,hu,λy hy=>?_⟩;rw[B k hk,JF j]at hy;injection hy with hy;subst hy;exact hr
         refine⟨r,i*esz+off,(List.range size).map λk=>(c[i*esz+(off+k)]?).getD .nilFunc,hv,by simp,λk u hu=>?_,rfl,Jvm h3 (by simp[k1]) λk y u hy hu=>?_⟩
         ·have j:=Je hu;simp at j;rw[J29,JjZ j]at hu;obtain⟨E,n,_⟩:=q k j;simp[n]at hu;subst hu;rw[J2x G,<-n,Jbe]
         ·have j:=Je hy;rw[J29,JjZ (by omega)]at hu;obtain⟨E,n,h2⟩:=q k (by omega);simp[n]at hu;subst hu;exact h2 y hy
      ·cases h
     ·cases h
    ·cases h
   ·cases h
  ·cases h
 ·cases h
theorem Jqx{t:TypeId}{agg:Bool}{size:Nat}(e:agT P t=some agg)(hs:szT P t=some size){r o:Nat}{vs:List Value}{w:World}(hl:vs.length=size)
  (h: ∀(k:Nat) u,vs[k]?=some u->J0B w r (o+k)=some u):
  (agg=true->(loadVar t ⟨r,o,none⟩).run P w=.ok (.agg vs.toArray) w)/\(agg=false-> ∀u,vs=[u]->(loadVar t ⟨r,o,none⟩).run P w=.ok u w):=by
 constructor
 ·rintro rfl;subst hl;simp[loadVar,Jd8 e,J2P hs,JwN vs h]
 ·rintro rfl u rfl;have:=h 0 u rfl;simp[loadVar,Jd8 e,run_load,J4I,this];simp at this;simp[this]
theorem JN8(hi:Inv s)(he:J0m s a.tmps env){agg size x}(h:(opR F (.load agg size x) new).run ⟨env,s.σ⟩=some e)(hc:JX P (.load agg size x) o.op=true):J16 P o a s e:=by
 simp only[opR]at h;obtain⟨u,h1,z⟩:=bind_some h;clear h;unfold JX at hc;simp only at hc;split at hc
 ·rename_i t y k;simp only[JY,beq_iff_eq]at hc;obtain⟨⟨⟨w,hs⟩,hx⟩,A⟩:=hc;obtain⟨r,C,vs,hv,hl,g,j,n⟩:=JwR hi z (J0c he h1 hx);obtain⟨k1,k2⟩:=Jqx (P:=P) w hs hl g;obtain⟨ev,B⟩:=e;simp only at j n;subst j;rcases n with⟨rfl,hr⟩|⟨rfl,q,rfl,hr⟩
  ·exact JD hi (v:=.agg vs.toArray) (by simp[execOp,k,hv,Instr.loadAt,Instr.sureAddr,k1]) hr
  ·exact JD hi (v:=q) (by simp[execOp,k,hv,Instr.loadAt,Instr.sureAddr,k2]) hr
 ·cases hc
theorem Jbv{x:AV}{l:List AV}{v:Value}(h:cellsOf x=some l)(hr:JH s x v):
  l.length=v.cells.size/\(∀u∈v.cells.toList,u.oneCell'=true)/\ ∀(i:Nat) y u,l[i]?=some y->v.cells[i]?=some u->JH s y u:=by
 have e: ∀{z:AV},JH s z v->v.cells= #[v]->v.oneCell'=true->l=[z]->l.length=v.cells.size/\(∀u∈v.cells.toList,u.oneCell'=true)/\ ∀(i:Nat) y u,l[i]?=some y->v.cells[i]?=some u->JH s y u:=by
  rintro z hz hc h1 rfl;refine⟨by rw[hc];rfl,by rw[hc];simpa using h1,λi y u hy hu=>?_⟩;rw[hc]at hu;cases i with
  |zero=>simp at hy hu;subst hy hu;exact hz
  |succ i=>simp at hy
 cases hr with
 |p c _ hp=>simp[cellsOf]at h;exact e (.p _ _ hp) hp.cells1 hp.one h.symm
 |data cs vs h1 h2=>
  simp[cellsOf]at h;subst h;refine⟨by simpa[Value.cells]using h1,λu hu=>?_,λi y u hy hu=>?_⟩
  ·obtain⟨i,hi⟩:=J6x hu;have hi:vs[i]?=some u:=by simpa[Value.cells]using hi
   have A:=JcS hi;exact(h2 i cs[i] u (by rw[JF]) hi).one
  ·rw[J29]at hy;cases hcs:cs[i]? with
   |none=>simp[hcs]at hy
   |some c=>
    simp[hcs]at hy;subst hy;exact .p _ _ (h2 i c u hcs hu)
 |agg cs vs h1 q h2=>
  simp[cellsOf]at h;subst h;refine⟨by simpa[Value.cells]using h1,λu hu=>?_,λi y u hy hu=>h2 i y u hy hu⟩;obtain⟨i,hi⟩:=J6x hu;exact q i u (by simpa[Value.cells]using hi)
 |tup=>simp[cellsOf]at h
 |unk=>simp[cellsOf]at h
 |ptr b off r o m hb=>simp[cellsOf]at h;exact e (.ptr b off r o m hb) rfl rfl h.symm
 |cp cs off r o vals j g=>simp[cellsOf]at h;exact e (.cp cs off r o vals j g) rfl rfl h.symm
 |slr b i n _ wm esz rows p0 j g k=>
  obtain⟨w,cap,rfl,hn⟩:=p0;simp[cellsOf]at h;exact e (.slr b i n _ wm esz rows ⟨w,cap,rfl,hn⟩ j g k) rfl rfl h.symm
 |ep b ext i off _ wm esz rows p0 j g k=>
  obtain⟨r,o,rfl⟩:=p0;simp[cellsOf]at h;exact e (.ep b ext i off _ wm esz rows ⟨r,o,rfl⟩ j g k) rfl rfl h.symm
 |fn f first caps fs cs h1 h2 h3 h4=>simp[cellsOf]at h;exact e (.fn f first caps fs cs h1 h2 h3 h4) rfl rfl h.symm
theorem JNJ(hi:Inv s)(he:J0m s a.tmps env)(hn:s.σ[new]?=some .dead){size x}(h:(opR F (.box size x) new).run ⟨env,s.σ⟩=some e)(hc:JX P (.box size x) o.op=true):J16 P o a s e:=by
 simp only[opR]at h;obtain⟨u,h1,g⟩:=bind_some h;clear h;unfold JX at hc;simp only at hc;split at hc
 ·rename_i t y j;have hr:=J0c he h1 hc;split at g
  ·rename_i cs hcs;split at g
   ·simp only[RM.run]at g;injection g with g;subst g
    obtain⟨k1,k2,n⟩:=Jbv hcs hr;obtain⟨q,t'⟩:=Jpk hi hn (blk:=.box cs) (c:=(a.eval y).cells) (e:=t) (fz:=(0,0)) (w':={s.w with heap:=s.w.heap.push (.cells (a.eval y).cells t)}) rfl rfl rfl
     (λo _ _ h=>by simp at h) (λ_ _ _ h=>by cases h) ⟨by omega,λi x hx=>by
      have r:=Je hx;have k:i<(a.eval y).cells.size:=by omega
      exact⟨(a.eval y).cells[i],by simp,n i x _ hx (by simp),k2 _ (by simp)⟩⟩
    refine J2e (e:=⟨.ptr new 0,[(new,.box cs)]⟩) (v:=.pointer (some ⟨s.w.heap.size,0,none⟩)) ?_ q t' (.ptr new 0 _ 0 (if_pos rfl) ⟨cs,J13 hn⟩);simp[execOp,j,Instr.box,newVar,newRow]
   ·cases g
  ·cases g
 ·cases hc
theorem J4x{zero:List PV}{t:TypeId}(h:Jaf P zero t=true): ∃v,zeT P t=some v/\zero.length=v.cells.size/\
  ∀{w C} (i:Nat) x u,zero[i]?=some x->v.cells[i]?=some u->J0p w C x u:=by
 unfold Jaf at h;split at h
 ·rename_i v hv;refine⟨v,hv,?_,λi x u hx hu=>?_⟩
  ·simpa using(Jju (w:=default) (C:=λ_ _=>True) h).1
  ·exact(Jju h).2 i x u hx (by simpa using hu)
 ·cases h
theorem Jbn{t:TypeId}{v:Value}(h:zeT P t=some v)(w:World):(zeroValue t).run P w=.ok v w:=by
 unfold zeT at h;cases hi:P.info? t with
 |none=>rw[hi]at h;cases h
 |some i=>rw[hi]at h;simp at h;simp[zeroValue,Jng hi,h]
theorem JJa(hi:Inv s)(hn:s.σ[new]?=some .dead){zero}(h:(opR F (.newbox zero) new).run ⟨env,s.σ⟩=some e)(hc:JX P (.newbox zero) o.op=true):J16 P o a s e:=by
 simp only[opR,RM.run]at h;injection h with h;subst h;unfold JX at hc;simp only at hc;split at hc
 ·rename_i t j;obtain⟨v,hv,hl,hr⟩:=J4x hc;obtain⟨n,t'⟩:=Jpk hi hn (blk:=.box (zero.map .p)) (c:=v.cells) (e:=t) (fz:=(0,0)) (w':={s.w with heap:=s.w.heap.push (.cells v.cells t)}) rfl rfl rfl
   (λo _ _ h=>by simp at h) (λ_ _ _ h=>by cases h) ⟨by simp[hl],λi x hx=>by
    rw[J29]at hx;cases hz:zero[i]? with
    |none=>simp[hz]at hx
    |some c=>
     simp[hz]at hx;subst hx;have q:=Je hz;have k:i<v.cells.size:=by omega
     have:=hr (w:=s.w) (C:=s.g.C) i c v.cells[i] hz (by simp);exact⟨v.cells[i],by simp,.p _ _ this,this.one⟩⟩
  refine J2e (e:=⟨.ptr new 0,[(new,.box (zero.map .p))]⟩) (v:=.pointer (some ⟨s.w.heap.size,0,none⟩)) ?_ n t' (.ptr new 0 _ 0 (if_pos rfl) ⟨_,J13 hn⟩);simp[execOp,j,Instr.alloc,Jbn hv,newVar,newRow]
 ·cases hc
theorem JKj(hi:Inv s)(hn:s.σ[new]?=some .dead){esz x}(h:(opR F (.mkarr esz x) new).run ⟨env,s.σ⟩=some e)(hc:JX P (.mkarr esz x) o.op=true):J16 P o a s e:=by
 simp only[opR,RM.run]at h;injection h with h;subst h;obtain⟨n,t'⟩:=Jpe hi hn esz;have j:JH ⟨s.σ.set new (.arr true esz []),J4T s.g new none,s.w⟩ (.slr new 0 0) (.slice none 0 0):=
  .slr new 0 0 _ true esz [] ⟨none,0,rfl,.inl rfl⟩ (J13 hn) (zQ0 _) λ_=>.inl ⟨if_pos rfl,rfl,rfl,rfl⟩
 unfold JX at hc;simp only at hc;split at hc
 ·rename_i k;exact J2e (e:=⟨.slr new 0 0,[(new,.arr true esz [])]⟩) (v:=.slice none 0 0) (by simp only[execOp,k];rfl) n t' j
 ·rename_i k;exact J2e (e:=⟨.slr new 0 0,[(new,.arr true esz [])]⟩) (v:=.slice none 0 0) (by simp only[execOp,k];rfl) n t' j
 ·cases hc
theorem Jpv{α:Type}{cs vs cs':List α}{off:Nat}(h:spl cs off vs=some cs'):cs'.length=cs.length/\off+vs.length<=cs.length/\
  (∀(i:Nat),i<vs.length->cs'[off+i]?=vs[i]?)/\ ∀k,(k<off\/off+vs.length<=k)->cs'[k]?=cs[k]?:=by
 unfold spl at h;split at h
 ·rename_i hc;injection h with h;subst h;obtain⟨rfl,hl⟩:=hc;refine⟨hl.symm,by omega,λi _=>by rw[zQ6],λk hk=>?_⟩;rw[zQ3 (by omega),zQ3 (by omega)]
 ·split at h
  ·rename_i hc;injection h with h;subst h;refine⟨by simp;omega,hc,λi hi=>?_,λk hk=>?_⟩
   ·rw[J7D,J6Y (by simp;omega),J6Z (by simp;omega)];simp
    congr 1
    omega
   ·rcases hk with hk|hk
    ·rw[J7D,J6Z (by simp;omega),Jdi,if_pos hk]
    ·rw[J6Y (by simp;omega),J8v]
     congr 1
     simp;omega
  ·cases h
theorem JGL{w:World}{r o:Nat}{vs:List Value}{c:Array Value}{g:TypeId}{fz:Nat×Nat}(e:w.heap[r]?=some (.cells c g fz))(hl:o+vs.length<=c.size)
  (hf:Juq fz o (o+vs.length)) (h1: ∀v∈vs,v.oneCell'=true):(storeCells ⟨r,o,none⟩ vs).run P w=.ok () (w.setCells r o vs):=by
 have:=run_storeCells_cells (P:=P) r o vs 0 w
  (λj hj=>by rw[J4I,J2x e];simp;omega)
  (λj hj=>by
    have:=hf (o+0+j) (by omega) (by omega);simp only[World.frozen?,e];simpa using this) h1
 simpa using this
theorem JdF{t:TypeId}{v:Value}{w:World}{r o:Nat}{c:Array Value}{g:TypeId}{fz:Nat×Nat}(hs:szT P t=some v.cells.size)(e:w.heap[r]?=some (.cells c g fz))(hl:o+v.cells.size<=c.size)
  (hf:Juq fz o (o+v.cells.size)) (h1: ∀u∈v.cells.toList,u.oneCell'=true):(storeVar t ⟨r,o,none⟩ v).run P w=.ok () (w.setCells r o v.cells.toList):=by
 have:=JGL (P:=P) (vs:=v.cells.toList) e (by simpa using hl) (by simpa using hf) h1;simp[storeVar,J2P hs,this]
theorem JoE{o:Oper}{e:Eff}{w':World}{g':Gh}(hr:(execOp a.eval o).run P s.w=.ok .skip w')(g:e.val=J2a)
  (hi:Inv ⟨upd e.ws s.σ,g',w'⟩) (t:J0h s ⟨upd e.ws s.σ,g',w'⟩):J16 P o a s e:=by
 intro next Q h;simp only[Oper.wp,hr,Oper.upon];exact h undef w' g' hi t (by rw[g];exact .tup _ _ rfl λi x v h=>by simp at h)
theorem JJD{b:Nat}: ∀{ws:List (Nat×Blk)} {σ:List Blk},(ws.all λy=>y.1 !=b)=true->(upd ws σ)[b]?=σ[b]?
 |[],_,_=>rfl
 |y::ws,σ,h=>by
  simp only[List.all_cons,JY,bne_iff_ne]at h;show(upd ws (σ.set y.1 y.2))[b]?=_;rw[JJD h.2,J0u h.1]
theorem JKU(hi:Inv s)(he:J0m s a.tmps env){size x y}(h:(opR F (.store size x y) new).run ⟨env,s.σ⟩=some e)(hc:JX P (.store size x y) o.op=true):J16 P o a s e:=by
 simp only[opR]at h;obtain⟨u,h1,h'⟩:=bind_some h;obtain⟨v,h2,g⟩:=bind_some h';clear h h';unfold JX at hc;simp only at hc;split at hc
 ·rename_i t x' q ay;simp only[JY,beq_iff_eq]at hc;obtain⟨⟨hs,hx⟩,hy⟩:=hc;have rx:=J0c he h1 hx;have ry:=J0c he h2 hy;have a5: ∀{r H:Nat} {w':World},a.eval x'=.pointer (some ⟨r,H,none⟩)->(storeVar t ⟨r,H,none⟩ (a.eval q)).run P s.w=.ok () w'->(execOp a.eval o).run P s.w=.ok .skip w':=by intro r H w' hz am;simp[execOp,ay,hz,Instr.storeAt,Instr.sureAddr,am]
  unfold J3A at g;split at g
  ·rename_i b off;simp only[RM.run]at g;split at g
   ·rename_i blk hb;split at g
    ·rename_i cs;split at g
     ·rename_i l hl;split at g
      ·rename_i N;split at g
       ·rename_i cs' ac;simp only[RM.run]at g;injection g with g;subst g
        have hb:s.σ[b]?=some (.box cs):=hb;generalize hz:a.eval x'=z at rx;cases rx with
        |ptr _ _ r H m bh=>
         obtain⟨k1,k2,k3⟩:=Jbv hl ry;obtain⟨j1,j2,j3,j4⟩:=Jpv ac;obtain⟨r1,o1,c,e1,fz,B,O,ao,L,hf⟩:=hi.box b cs hb;rw[m]at B;injection B with B;injection B with m1 m2;subst m1 m2
         have D:=J7A (vs:=(a.eval q).cells.toList) (o:=H+off) O (by simp;omega);have hlen:(a.eval q).cells.toList.length=l.length:=by simp[k1]
         obtain⟨i',t'⟩:=Jo7 hi (blk:=.box cs') hb D (λk h1 h2=>by
          unfold Wr1;rw[hb];exact⟨H,m,by omega,by omega⟩) (.box _ _ j1) (λbg n A=>by
          injection n with n;subst n;obtain⟨c0,e0,aq,c',C,p2,p3,p4,p5,p6⟩:=D.there;rw[O]at C;injection C with C;injection C with q1 q2 q3;subst q1 q2 q3
          refine⟨r,H,c',e1,fz,m,p2,by omega,λi x S=>?_,by rw[j1];exact hf⟩;by_cases az:off<=i/\i<off+l.length
          ·have e1:cs'[off+(i-off)]?=l[i-off]?:=j3 (i-off) (by omega);rw[show off+(i-off)=i by omega,S]at e1;have K:i-off<(a.eval q).cells.size:=by omega
           have e2:=p5 (i-off) (a.eval q).cells[i-off] (by simp);refine⟨(a.eval q).cells[i-off],by rw[<-e2];congr 1;omega,A (k3 (i-off) x _ e1.symm (by simp)),k2 _ (by simp)⟩
          ·rw[j4 i (by omega)]at S;obtain⟨U,G,E,b0⟩:=L i x S;exact⟨U,by rw[p6 _ (by simp;omega)];exact G,A E,b0⟩)
          (λ_ _ n=>by cases n)
         refine JoE (e:=⟨J2a,[(b,.box cs')]⟩) (a5 hz (JdF (by rw[hs,<-N,k1]) O (by omega) (λk h1 h2=>hf k (by omega) (by omega)) k2)) rfl i' t'
       ·cases g
      ·cases g
     ·cases g
    ·cases g
   ·cases g
  ·rename_i b ext i off;simp only[RM.run]at g;split at g
   ·rename_i blk hb;split at g
    ·rename_i esz rows;split at g
     ·rename_i ag;split at g
      ·rename_i row I;obtain⟨J,h3,h4⟩:=bind_some g;split at h4
       ·rename_i Y;split at h4
        ·rename_i T Z;simp only[RM.run]at h4;injection h4 with h4;subst h4
         have hb:s.σ[b]?=some (.arr true esz rows):=hb;obtain⟨N,af⟩:=Y;obtain⟨g1,i1,t1,f1,l1,r1⟩:=JAW hi (.refl _) h3 ry;have M:(upd J.2 s.σ)[b]?=some (.arr true esz rows):=by rw[JJD af];exact hb
         have a4:=rx.mono hi t1;obtain⟨j1,j2,j3,j4⟩:=Jpv Z;have ab: ∀u∈(a.eval q).cells.toList,u.oneCell'=true:=by
          intro u hu;obtain⟨k,hk⟩:=J6x hu;have hk:(a.eval q).cells[k]?=some u:=by simpa using hk
          have K:=JcS hk;exact(r1 k J.1[k] u (by rw[JF]) hk).one
         generalize hz:a.eval x'=z at a4;cases a4 with
         |ep _ _ _ _ _ wm' a9 rows' p0 C p2 p3=>
          have C:(upd J.2 s.σ)[b]?=some (.arr wm' a9 rows'):=C;rw[M]at C;injection C with C;injection C with a1 a2 a3;subst a1 a2 a3
          have K:=Je I;obtain⟨r,m,hv⟩:=p3 ag (by omega);rcases i1.arr b _ _ _ M with⟨B,_⟩|⟨rr,c,e1,fz,B,O,Q,ao,L,hf⟩
          ·rw[m]at B;cases B
          ·rw[m]at B;injection B with B;injection B with m1 _;subst m1
           have b3:=Q row (J0F I);have hlen:(a.eval q).cells.toList.length=J.1.length:=by simp[l1]
           have be:i*esz+esz<=rows.length*esz:=by have:=zQ7 esz (show i+1<=rows.length from K);rwa[J3H,Jrg]at this
           have R:s.w.heap[r]?=some (.cells c e1 fz):=O;have D:=J7A (vs:=(a.eval q).cells.toList) (o:=i*esz+off) R (by rw[hlen];omega);obtain⟨i2,t2⟩:=Jo7 (s0:=⟨upd J.2 s.σ,g1,s.w⟩) i1 (blk:=.arr true esz (rows.set i T)) M D (λk h1 h2=>by
            unfold Wr1;rw[M];exact⟨0,m⟩) (.arr _ _ _ (by simp)) (λ_ n=>by cases n) (λb6 b2 n A=>by
            injection n with _ h1 h2;subst h1 h2;obtain⟨c0,e0,aq,c',q1,q2,q3,q4,q5,q6⟩:=D.there;rw[R]at q1;injection q1 with q1;injection q1 with w1 w2 w3;subst w1 w2 w3
            refine .inr ⟨r,c',e1,fz,m,q2,λbi ap=>?_,by simp;omega,λk j aa x0 hk hj=>⟨?_,λh=>by cases h⟩,by rw[q3];exact hf⟩
            ·rcases Jvh ap with hm|hm
             ·exact Q _ hm
             ·subst hm;omega
            ·have W:=Je hj;by_cases a0:k=i
             ·subst a0;rw[Jnp K]at hk;injection hk with hk;subst hk;by_cases az:off<=j/\j<off+J.1.length
              ·have e1:=j3 (j-off) (by omega);rw[show off+(j-off)=j by omega,hj]at e1;have V:j-off<(a.eval q).cells.size:=by omega
               have e2:=q5 (j-off) (a.eval q).cells[j-off] (by simp);refine⟨(a.eval q).cells[j-off],by rw[<-e2];congr 1;omega,A (r1 (j-off) x0 _ e1.symm (by simp))⟩
              ·rw[j4 j (by omega)]at hj;obtain⟨⟨U,G,E⟩,_⟩:=L k j row x0 I hj;exact⟨U,by rw[q6 _ (by rw[hlen];omega)];exact G,A E⟩
             ·rw[JjD (Ne.symm a0)]at hk;obtain⟨⟨U,G,E⟩,_⟩:=L k j aa x0 hk hj;refine⟨U,?_,A E⟩;rw[q6 _ ?_]
              ·exact G
              ·have al:j<esz:=by rw[Q _ (J0F hk)]at W;exact W
               rw[hlen];rcases zQ1 k i with V|bj
               ·left;have:=J5w V al;omega
               ·right;have:=zQ7 esz (show i+1<=k by omega);rw[J3H,Jrg]at this;omega)
           refine JoE (e:=⟨J2a,J.2++[(b,.arr true esz (rows.set i T))]⟩) (g':=g1) (a5 (hz.trans hv) (JdF (by rw[hs,<-N,l1]) R (by simp at hlen;omega) (λk h1 h2=>hf.1 k (by omega) (by simp at hlen;omega)) ab)) rfl ?_ ?_
           ·rw[J1t];exact i2
           ·rw[J1t];exact t1.trans t2
        ·cases h4
       ·cases h4
      ·cases g
     ·cases g
    ·cases g
   ·cases g
  ·cases g
 ·cases hc
end
end Go.Am
end
section
namespace Go.Am
theorem JEK(vs:List Value): ∀(k:Nat) (off:Nat) (cs:Array Value),off+k+vs.length<=cs.size->
  let r:=(vs.zipIdx k).foldl (λcs (x:Value×Nat)=>cs.setIfInBounds (off+x.2) x.1) cs
  r.size=cs.size/\(∀(j:Nat) v,vs[j]?=some v->r[off+k+j]?=some v)/\ ∀i,(i<off+k\/off+k+vs.length<=i)->r[i]?=cs[i]?:=by
 induction vs with
 |nil=>intro k off cs _;exact⟨rfl,λj v h=>by simp at h,λ_ _=>rfl⟩
 |cons v vs ih=>
  intro k off cs h;simp only[Jrb]at h;have:=ih (k+1) off (cs.setIfInBounds (off+k) v) (by simp;omega);simp only[List.zipIdx_cons,List.foldl_cons];obtain⟨h1,h2,h3⟩:=this;refine⟨by rw[h1];simp,λj u hj=>?_,λi hi=>?_⟩
  ·cases j with
   |zero=>
    simp at hj;subst hj;rw[h3 _ (.inl (by omega))];have:off+k<cs.size:=by omega
    simp[this]
   |succ j=>rw[<-h2 j u (by simpa using hj)];congr 1;omega
  ·rw[h3 i (by simp at hi;omega),Array.getElem?_setIfInBounds,if_neg (by simp at hi;omega)]
section
variable {P:Program} {F:Orc} {s:Sn} {a:Act} {env:List (Nat×AV)} {o:Oper} {new:Nat} {e:Eff}
theorem JwU{place:Nat->Option (Nat×Nat)}{cells:Array Value}{i:Nat}{v:Value}{rest:List (Nat×Value)}{off size:Nat}(hp:place i=some (off,size))(hs:v.cells.size=size)(hl:off+size<=cells.size):
  ∃e:Array Value,Instr.fill place cells ((i,v)::rest)=Instr.fill place e rest/\e.size=cells.size/\(∀(j:Nat) u,v.cells[j]?=some u->e[off+j]?=some u)/\
   ∀k,(k<off\/off+size<=k)->e[k]?=cells[k]?:=by
 subst hs;obtain⟨h1,h2,h3⟩:=JEK v.cells.toList 0 off cells (by simp;omega);refine⟨v.cells.zipIdx.foldl (λcs (c,j)=>cs.setIfInBounds (off+j) c) cells,?_,?_,?_,?_⟩
 ·simp only[Instr.fill,hp];rw[if_neg];simp;omega
 all_goals (have hz:v.cells.zipIdx.foldl (λcs (x:Value×Nat)=>cs.setIfInBounds (off+x.2) x.1) cells=(v.cells.toList.zipIdx 0).foldl (λcs (x:Value×Nat)=>cs.setIfInBounds (off+x.2) x.1) cells:=by
             rw[<-Array.foldl_toList];simp)
 ·rw[hz,h1]
 ·intro j u hj;rw[hz];have:=h2 j u (by simpa using hj);simpa using this
 ·intro k hk;rw[hz];exact h3 k (by simpa using hk)
theorem JqI{place:Nat->Option (Nat×Nat)}: ∀{parts:List (Nat×Nat×List AV)} {ps:List (Nat×Value)} {cs cs':List AV} {cells:Array Value},
  J68 parts cs=some cs'->parts.length=ps.length->
  (∀(k:Nat) off size l i v,parts[k]?=some (off,size,l)->ps[k]?=some (i,v)->place i=some (off,size)/\l.length=v.cells.size/\(∀u∈v.cells.toList,u.oneCell'=true)/\
    ∀(j:Nat) y u,l[j]?=some y->v.cells[j]?=some u->JH s y u)->
  cs.length=cells.size->(∀(i:Nat) x,cs[i]?=some x-> ∃u,cells[i]?=some u/\JH s x u/\u.oneCell'=true)->
  ∃e,Instr.fill place cells ps=some e/\cs'.length=e.size/\ ∀(i:Nat) x,cs'[i]?=some x-> ∃u,e[i]?=some u/\JH s x u/\u.oneCell'=true
 |[],[],cs,cs',cells,h,_,_,hl,hr=>by
  simp[J68]at h;subst h;exact⟨cells,rfl,hl,hr⟩
 |[],_::_,_,_,_,_,hl,_,_,_=>by simp at hl
 |_::_,[],_,_,_,_,hl,_,_,_=>by simp at hl
 |(off,size,l)::parts,(i,v)::ps,cs,cs',cells,h,hlen,hp,hl,hr=>by
  unfold J68 at h;split at h
  ·rename_i F;split at h
   ·rename_i H n;obtain⟨B,J,q,r⟩:=hp 0 off size l i v rfl rfl;obtain⟨I,L,w,z⟩:=Jpv n;obtain⟨g,A,K,C,f4⟩:=JwU (v:=v) (rest:=ps) (cells:=cells) B (by omega) (by omega);obtain⟨e,g1,g2,D⟩:=JqI (cells:=g) h (by simpa using hlen) (λk off size l i v h1 h2=>hp (k+1) off size l i v (by simpa using h1) (by simpa using h2)) (by omega) (λk x hk=>by
     by_cases G:off<=k/\k<off+l.length
     ·have e1:=w (k-off) (by omega);rw[show off+(k-off)=k by omega,hk]at e1;have E:k-off<v.cells.size:=by omega
      have e2:=C (k-off) v.cells[k-off] (by simp);exact⟨v.cells[k-off],by rw[<-e2];congr 1;omega,r (k-off) x _ e1.symm (by simp),q _ (by simp)⟩
     ·rw[z k (by omega)]at hk;obtain⟨u,hu,o,h1⟩:=hr k x hk;exact⟨u,by rw[f4 k (by omega)];exact hu,o,h1⟩)
    exact⟨e,by rw[A];exact g1,g2,D⟩
   ·cases h
  ·cases h
theorem Jk7(he:J0m s a.tmps env){place:Nat->Option (Nat×Nat)}: ∀{parts:List (Nat×Nat×Opd)} {ps:List (Nat×Operand)} {l:List (Nat×Nat×List AV)},
  (J53 parts).run ⟨env,s.σ⟩=some l->J5T place parts ps=true->
  l.length=(ps.map λx=>(x.1,a.eval x.2)).length/\
  ∀(k:Nat) off size cs i v,l[k]?=some (off,size,cs)->(ps.map λx=>(x.1,a.eval x.2))[k]?=some (i,v)->place i=some (off,size)/\cs.length=v.cells.size/\(∀u∈v.cells.toList,u.oneCell'=true)/\
   ∀(j:Nat) y u,cs[j]?=some y->v.cells[j]?=some u->JH s y u
 |[],[],l,h,_=>by
  simp only[J53,RM.run]at h;injection h with h;subst h
  exact⟨rfl,λk off size cs i v h=>by simp at h⟩
 |[],_::_,_,_,hc=>by simp[J5T]at hc
 |_::_,[],_,_,hc=>by simp[J5T]at hc
 |(off,size,x)::parts,(i,y)::ps,l,h,hc=>by
  simp only[J5T,JY,beq_iff_eq]at hc;obtain⟨⟨hp,hx⟩,hc⟩:=hc;simp only[J53]at h;obtain⟨v,h1,h⟩:=bind_some h;split at h
  ·rename_i cs hcs;obtain⟨q,h2,h⟩:=bind_some h;simp only[RM.run]at h;injection h with h;subst h
   obtain⟨k1,k2⟩:=Jk7 he h2 hc;obtain⟨q1,q2,q3⟩:=Jbv hcs (J0c he h1 hx);refine⟨by simpa using k1,λk g e cs' o n h3 h4=>?_⟩;cases k with
   |zero=>
    simp at h3 h4;obtain⟨rfl,rfl,rfl⟩:=h3;obtain⟨rfl,rfl⟩:=h4;exact⟨hp,q1,q2,q3⟩
   |succ k=>exact k2 k g e cs' o n (by simpa using h3) (by simpa using h4)
  ·cases h
theorem JjE: ∀{fs:List Field},(∀f∈fs,(szT P f.type).isSome=true)-> ∀w:World,
  (fs.mapM λf=>do pure (f.offset,<-sizeOf f.type):Sem (List (Nat×Nat))).run P w=.ok (fs.map λf=>(f.offset,(szT P f.type).getD 0)) w
 |[],_,w=>by simp
 |f::fs,h,w=>by
  have hs:(szT P f.type)=some ((szT P f.type).getD 0):=by have:=h f (by simp);cases hq:szT P f.type<;>simp[hq]at this⊢
  have ih:=JjE (fs:=fs) (λg e=>h g (by simp[e])) w;rw[List.mapM_cons];simp only[J5i,J2P hs,J59,J9k,ih];simp
theorem JKm(hi:Inv s)(he:J0m s a.tmps env){zero parts}(h:(opR F (.build zero parts) new).run ⟨env,s.σ⟩=some e)(hc:JX P (.build zero parts) o.op=true):J16 P o a s e:=by
 simp only[opR]at h;obtain⟨l,h1,K⟩:=bind_some h;clear h;unfold JX at hc;simp only at hc;split at hc
 ·rename_i t ps H;simp only[JY]at hc;obtain⟨hz,k⟩:=hc;obtain⟨z,I,O,Q⟩:=J4x hz;split at K
  ·rename_i cs hcs;obtain⟨r,h3,rfl⟩:=J20 K;have G: ∀(i:Nat) x,(zero.map AV.p)[i]?=some x-> ∃u,z.cells[i]?=some u/\JH s x u/\u.oneCell'=true:=by
    intro i x hx;rw[J29]at hx;cases hzi:zero[i]? with
    |none=>simp[hzi]at hx
    |some c=>
     simp[hzi]at hx;subst hx;have M:=Je hzi;have S:i<z.cells.size:=by omega
     have:=Q (w:=s.w) (C:=s.g.C) i c z.cells[i] hzi (by simp);exact⟨z.cells[i],by simp,.p _ _ this,this.one⟩
   have fin: ∀{place:Nat->Option (Nat×Nat)},J5T place parts ps.toList=true->
     ∃j,Instr.fill place z.cells (ps.toList.map λx=>(x.1,a.eval x.2))=some j/\JH s r (.agg j):=by
    intro place E;obtain⟨k1,k2⟩:=Jk7 he h1 E;obtain⟨j,B,T,R⟩:=JqI (s:=s) (cells:=z.cells) hcs k1 k2 (by simp[O]) G;refine⟨j,B,?_⟩
    have:=Jt9 (s:=s) (vs:=j.toList) h3 (by simpa using T) (λv hv=>by
      obtain⟨i,A⟩:=J6x hv;have A:j[i]?=some v:=by simpa using A
      have M:=JcS A;obtain⟨u,hu,_,h1⟩:=R i cs[i] (by rw[JF]);rw[A]at hu;injection hu with hu;subst hu;exact h1)
     (λi y v hy hv=>by
       obtain⟨u,hu,hr,_⟩:=R i y hy;have hv:j[i]?=some v:=by simpa using hv
       rw[hv]at hu;injection hu with hu;subst hu;exact hr)
    rcases this with⟨_,hr⟩|⟨hf,_⟩
    ·simpa using hr
    ·cases hf
   have J:(ps.map λx=>(x.1,a.eval x.2)).toList=ps.toList.map λx=>(x.1,a.eval x.2):=by simp
   split at k
   ·rename_i fs hu;simp only[JY]at k;obtain⟨D,E⟩:=k;obtain⟨j,B,hr⟩:=fin E;have N:(λi=>(fs.map λf=>(f.offset,(szT P f.type).getD 0))[i]?)=Jdb P fs:=by
     funext i
     simp only[Jdb,Array.getElem?_map];cases hfi:fs[i]? with
     |none=>rfl
     |some f=>
      have:=JDt.1 D f (Array.mem_of_getElem? hfi);cases hq:szT P f.type<;>simp[hq]at this⊢
    refine JD hi (v:=.agg j) ?_ hr;have L:(fs.mapM λf=>do pure (f.offset,<-sizeOf f.type):Sem (Array (Nat×Nat))).run P s.w=.ok (fs.map λf=>(f.offset,(szT P f.type).getD 0)) s.w:=by
     rw[Array.mapM_eq_mapM_toList];simp only[Sem.run_map,JjE (P:=P) (fs:=fs.toList) (λf hf=>JDt.1 D f (by simpa using hf)),J59]
     congr 1
     apply J9Q;simp
    have hf:Instr.fill (λi=>(fs.map λf=>(f.offset,(szT P f.type).getD 0))[i]?) z.cells (ps.map λx=>(x.1,a.eval x.2)).toList=some j:=by rw[N,J];exact B
    have hb:(Instr.build t (ps.map λx=>(x.1,a.eval x.2))).run P s.w=.ok (.agg j) s.w:=by unfold Instr.build;simp only[J5i,Jbn I,J59,run_underlying hu,L,hf];rfl
    simp only[execOp,H,J5i,hb,J59,J9k]
   ·rename_i n el hu;split at k
    ·rename_i q hq;obtain⟨j,B,hr⟩:=fin k;refine JD hi (v:=.agg j) ?_ hr;have hb:(Instr.build t (ps.map λx=>(x.1,a.eval x.2))).run P s.w=.ok (.agg j) s.w:=by unfold Instr.build;simp only[J5i,Jbn I,J59,run_underlying hu,J2P hq,J,B];rfl
     simp only[execOp,H,J5i,hb,J59,J9k]
    ·cases k
   ·cases k
  ·cases K
 ·cases hc
theorem JNo(hi:Inv s){n}(h:(opR F (.alen n) new).run ⟨env,s.σ⟩=some e)(hc:JX P (.alen n) o.op=true):J16 P o a s e:=by
 simp only[opR,RM.run]at h;injection h with h;subst h;unfold JX at hc;simp only at hc;split at hc
 ·rename_i c k;split at hc
  ·rename_i g;split at hc
   ·rename_i y t j r;have hm:c.args.map a.eval= #[a.eval y]:=by apply J9Q;simp[j]
    have q:c.argTypes[0]?=some t:=by rw[<-JDL,r];rfl
    split at hc
    ·rename_i m el hu;have:m=n:=by simpa using hc
     subst this;exact JD hi (v:=.int .i64 m) (by simp[execOp,k,resolve,g,hm,invoke,builtin,Builtin.len_,q,run_underlying hu,goInt]) (J5p _ _)
    ·rename_i ar hu;split at hc
     ·rename_i m el w;have:m=n:=by simpa using hc
      subst this;exact JD hi (v:=.int .i64 m) (by simp[execOp,k,resolve,g,hm,invoke,builtin,Builtin.len_,q,run_underlying hu,run_underlying (Jrq w),goInt]) (J5p _ _)
     ·cases hc
    ·cases hc
   ·cases hc
  ·cases hc
 ·cases hc
end
end Go.Am
end
section
namespace Go.Am
def Jbx(s:Sn)(esz:Nat)(rows:List (List PV))(c:Array Value):Prop:=(∀row∈rows,row.length=esz)/\rows.length*esz<=c.size/\ ∀(i j:Nat) row x,rows[i]?=some row->row[j]?=some x-> ∃u,c[i*esz+j]?=some u/\J0p s.w s.g.C x u
section
variable {P:Program} {F:Orc} {s:Sn} {a:Act} {env:List (Nat×AV)} {o:Oper} {new:Nat} {e:Eff}
theorem Jbx.mono{s0 s:Sn}(hi:Inv s0)(t:J0h s0 s){esz rows c}(h:Jbx s0 esz rows c):Jbx s esz rows c:=
 ⟨h.1,h.2.1,λi j row x hr hx=>let⟨u,h1,h2⟩:=h.2.2 i j row x hr hx;⟨u,h1,h2.mono hi t⟩⟩
theorem JjH{s0:Sn}(hi:Inv s0)(hn:s0.σ[new]?=some .dead){esz:Nat}{rows:List (List PV)}{c:Array Value}{g:TypeId}{fz:Nat×Nat}{w':World}{cap:Nat}
  (k:w'.heap=s0.w.heap.push (.cells c g fz)) (ho:w'.os=s0.w.os) (hp:w'.output=s0.w.output) (hf:JeP esz fz c.size) (hr:Jbx s0 esz rows c) (e:rows.length<=cap) (j:cap*esz<=c.size):
  (∃g',Inv ⟨s0.σ.set new (.arr true esz rows),g',w'⟩/\J0h s0 ⟨s0.σ.set new (.arr true esz rows),g',w'⟩/\
    JH ⟨s0.σ.set new (.arr true esz rows),g',w'⟩ (.slr new 0 rows.length) (.slice (some ⟨s0.w.heap.size,0,none⟩) rows.length cap)):=by
 obtain⟨n,t'⟩:=Jpk hi hn (blk:=.arr true esz rows) k ho hp hf.1 (λ_ _ _ h=>by injection h with _ h _;subst h;exact hf.2) hr;refine⟨_,n,t',.slr new 0 _ _ true esz rows ⟨_,_,rfl,.inr (by simp)⟩ (J13 hn) (by omega) λ_=>.inr ⟨s0.w.heap.size,cap,c,g,fz,if_pos rfl,by simp,e,J9O k,by simpa using j⟩⟩
theorem Jo4{s0:Sn}(hi:Inv s0){esz:Nat}{rows:List (List PV)}{c:Array Value}{n:TypeId}{fz:Nat×Nat}{w':World}{cap:Nat}
  (k:w'.heap=s0.w.heap.push (.cells c n fz)) (ho:w'.os=s0.w.os) (hp:w'.output=s0.w.output) (hr:Jbx s0 esz rows c) (e:rows.length<=cap):
  (∃g',Inv ⟨s0.σ,g',w'⟩/\J0h s0 ⟨s0.σ,g',w'⟩/\JH ⟨s0.σ,g',w'⟩ (.p (.sl esz rows)) (.slice (some ⟨s0.w.heap.size,0,none⟩) rows.length cap)):=by
 obtain⟨o,t'⟩:=JJi hi k ho hp;refine⟨_,o,t',.p _ _ (JgE (s:=⟨s0.σ,_,w'⟩) rfl e hr.1 (.inr ⟨_,0,rfl,λi j row x h hj=>⟨.inr rfl,?_⟩⟩))⟩;obtain⟨u,hu,g⟩:=hr.2.2 i j row x h hj;exact⟨u,by rw[J2x (J9O k),zQ6];exact hu,g.mono hi t'⟩
theorem JFs{F:List Blk}{tmps:Array Value}(he: ∀n x,lk n env=some x-> ∃v,a.tmps[n]?=some v): ∀{xs:List Opd} {e:List Operand} {s:Sn} {y:List (List PV)×List (Nat×Blk)},Inv s->Frz F s.σ->J0m s a.tmps env->
  (fzs xs).run ⟨env,F⟩=some y->J5O xs e=true->
  ∃g',Inv ⟨upd y.2 s.σ,g',s.w⟩/\J0h s ⟨upd y.2 s.σ,g',s.w⟩/\Frz s.σ (upd y.2 s.σ)/\y.1.length=e.length/\
   ∀(k:Nat) cs q,y.1[k]?=some cs->e[k]?=some q->cs.length=(a.eval q).cells.size/\ ∀(i:Nat) c u,cs[i]?=some c->(a.eval q).cells[i]?=some u->J0p s.w g'.C c u
 |[],[],s,y,hi,o,r,h,_=>by
  simp only[fzs,RM.run]at h;injection h with h;subst h
  exact⟨s.g,hi,.refl s,.refl _,rfl,λk cs q h=>by simp at h⟩
 |[],_::_,_,_,_,_,_,_,hc=>by simp[J5O]at hc
 |_::_,[],_,_,_,_,_,_,hc=>by simp[J5O]at hc
 |x::xs,q::e,s,y,hi,o,r,h,hc=>by
  simp only[J5O,JY]at hc;simp only[fzs]at h;obtain⟨v,h1,h⟩:=bind_some h;obtain⟨j,h2,h⟩:=bind_some h;obtain⟨N,h3,h⟩:=bind_some h;simp only[RM.run]at h;injection h with h;subst h
  have E:(ev x).run ⟨env,s.σ⟩=some v:=by
   cases x with
   |t n=>simpa only[ev,RM.run]using h1
   |c z=>simpa only[ev,RM.run]using h1
  have hr:=J0c r E hc.1;obtain⟨g1,G,D,B,L,H⟩:=JAW hi o h2 hr;obtain⟨g2,I,A,J,M,K⟩:=JFs (tmps:=tmps) he (s:=⟨upd j.2 s.σ,g1,s.w⟩) G (o.trans B) (r.mono hi D) h3 hc.2;refine⟨g2,by rw[J1t];exact I,by rw[J1t];exact D.trans A,by rw[J1t];exact B.trans J,by simp[M],λk cs q' hk hq=>?_⟩;cases k with
  |zero=>
   simp at hk hq;subst hk hq;exact⟨L,λi c u hc hu=>J0p.mono (s0:=⟨upd j.2 s.σ,g1,s.w⟩) (s:=⟨upd N.2 (upd j.2 s.σ),g2,s.w⟩) G A (H i c u hc hu)⟩
  |succ k=>exact K k cs q' (by simpa using hk) (by simpa using hq)
theorem Jwu{esz:Nat}(y:0<esz): ∀{parts:List (Nat×List PV)} {ps:List (Nat×Value)} {rows rows':List (List PV)} {cells:Array Value},
  J7x esz parts rows=some rows'->parts.length=ps.length->
  (∀(k:Nat) i cs j v,parts[k]?=some (i,cs)->ps[k]?=some (j,v)->i=j/\cs.length=v.cells.size/\ ∀(m:Nat) c u,cs[m]?=some c->v.cells[m]?=some u->J0p s.w s.g.C c u)->
  Jbx s esz rows cells->cells.size=rows.length*esz->
  ∃e,Instr.fill (λi=>some (i*esz,esz)) cells ps=some e/\Jbx s esz rows' e/\rows'.length=rows.length/\e.size=rows.length*esz
 |[],[],rows,rows',cells,h,_,_,hr,hs=>by
  simp[J7x]at h;subst h;exact⟨cells,rfl,hr,rfl,hs⟩
 |[],_::_,_,_,_,_,hl,_,_,_=>by simp at hl
 |_::_,[],_,_,_,_,hl,_,_,_=>by simp at hl
 |(i,cs)::parts,(j,v)::ps,rows,rows',cells,h,hlen,hp,hr,hs=>by
  unfold J7x at h;split at h
  ·rename_i hc;obtain⟨rfl,J,A⟩:=hp 0 i cs j v rfl rfl;have D:i*esz+esz<=rows.length*esz:=by have:=zQ7 esz (show i+1<=rows.length from hc.2);rwa[J3H,Jrg]at this
   obtain⟨n,B,K,F,f4⟩:=JwU (place:=λi=>some (i*esz,esz)) (v:=v) (rest:=ps) (cells:=cells) (i:=i) rfl (by omega) (by omega);obtain⟨q1,q2,q3⟩:=hr;obtain⟨e,g1,g2,G,E⟩:=Jwu y (cells:=n) h (by simpa using hlen) (λk i cs j v h1 h2=>hp (k+1) i cs j v (by simpa using h1) (by simpa using h2))
    ⟨λrow hm=>by
      rcases Jvh hm with hm|hm
      ·exact q1 row hm
      ·subst hm;exact hc.1,by simp;omega,λk m row x hk hx=>by
      by_cases q:k=i
      ·subst q;rw[Jnp hc.2]at hk;injection hk with hk;subst hk;have I:=Je hx;have o:m<v.cells.size:=by omega
       exact⟨v.cells[m],F m _ (by simp),A m x _ hx (by simp)⟩
      ·rw[JjD (Ne.symm q)]at hk;obtain⟨u,hu,z⟩:=q3 k m row x hk hx;refine⟨u,?_,z⟩;rw[f4 _ ?_]
       ·exact hu
       ·have r:=Je hx;rw[q1 row (J0F hk)]at r;rcases zQ1 k i with o|H
        ·left;have:=J5w o r;omega
        ·right;have:=zQ7 esz (show i+1<=k by omega);rw[J3H,Jrg]at this;omega⟩ (by simp;omega)
   exact⟨e,by rw[B];exact g1,g2,by simpa using G,by simpa using E⟩
  ·cases h
theorem Jpg{t:TypeId}{n:Nat}(h:szT P t=some n): ∃i,P.info? t=some i/\i.size=n:=by
 unfold szT at h;cases hi:P.info? t with
 |none=>rw[hi]at h;cases h
 |some i=>rw[hi]at h;simp at h;exact⟨i,rfl,h⟩
theorem JuV{t:TypeId}{v:Value}{i:TypeInfo}(h:zeT P t=some v)(hi:P.info? t=some i):i.zero=some v:=by unfold zeT at h;rw[hi]at h;simpa using h
theorem JrK{t:TypeId}{n:Nat}{i:TypeInfo}(h:byT P t=some n)(hi:P.info? t=some i):i.bytes=n:=by unfold byT at h;rw[hi]at h;simpa using h
theorem JLk{z:Array Value}{esz n i j:Nat}(hz:z.size=esz)(hi:i<n)(hj:j<esz):(madeCells z (n*esz))[i*esz+j]?=z[j]?:=by
 have h1:i*esz+j<n*esz:=J5w hi hj;have h2:(i*esz+j)%z.size=j:=by rw[hz,Nat.add_comm,Nat.add_mul_mod_self_right,Nat.mod_eq_of_lt hj]
 have h3:j<z.size:=by omega
 simp[madeCells,h1,h2,h3]
theorem Jse{zero:List PV}{z:Value}{esz n m:Nat}(hl:zero.length=esz)(k:zero.length=z.cells.size)
  (g: ∀{w C} (i:Nat) x u,zero[i]?=some x->z.cells[i]?=some u->J0p w C x u) (h:n<=m):Jbx s esz (List.replicate n zero) (madeCells z.cells (m*esz)):=by
 refine⟨λrow hr=>by rw[List.eq_of_mem_replicate hr];exact hl,?_,λi j row x hi hj=>?_⟩
 ·rw[size_madeCells,JjJ];exact zQ7 esz h
 ·have e:=Je hi;have:=List.eq_of_mem_replicate (J0F hi);subst this;have o:=Je hj;simp at e;have hz:z.cells.size=esz:=by omega
  refine⟨z.cells[j],?_,g j x _ hj (by simp)⟩;rw[JLk hz (by omega) (by omega)];simp
theorem JGP(hi:Inv s)(he:J0m s a.tmps env){own esz bytes zero l c}(hn:own=true->s.σ[new]?=some .dead)(h:(opR F (.mkslice own esz bytes zero l c) new).run ⟨env,s.σ⟩=some e)
  (hc:JX P (.mkslice own esz bytes zero l c) o.op=true):J16 P o a s e:=by
 simp only[opR]at h;obtain⟨u,h1,H⟩:=bind_some h;obtain⟨v,h2,g⟩:=bind_some H;clear h H;unfold JX at hc;simp only at hc;split at hc
 ·rename_i t Y c' E;simp only[JY]at hc;obtain⟨⟨hl,G⟩,A⟩:=hc;have V:=J0c he h1 hl;have W:=J0c he h2 G;split at A
  ·rename_i el I;simp only[JY,beq_iff_eq,decide_eq_true_eq]at A;obtain⟨⟨⟨⟨⟨hs,N⟩,hz⟩,K⟩,T⟩,S⟩:=A;obtain⟨i,j,L⟩:=Jpg hs;obtain⟨z,J,M,O⟩:=J4x hz;have x:=JrK N j;split at g
   ·rename_i k n U m;split at g
    ·rename_i y;obtain⟨Q,R,hb,hm⟩:=y;have e1:=J3Z V;have e2:=J3Z W;have q:=run_make (P:=P) s.w t el i z (J23 I) j (JuV J j) k U n m Q R (by rw[x];exact hb) (by omega);rw[L]at q;have r:Jbx s esz (List.replicate n.toNat zero) (madeCells z.cells (m.toNat*esz)):=Jse K M O (by omega);have B:(execOp a.eval o).run P s.w=.ok (.value (.slice (some ⟨s.w.heap.size,0,none⟩) n.toNat m.toNat)) (s.w.alloc (.cells (madeCells z.cells (m.toNat*esz)) el)):=by simp[execOp,E,e1,e2,q]
     split at g
     ·rename_i C;simp only[RM.run]at g;injection g with g;subst g
      obtain⟨g',D,t',r'⟩:=JjH hi (hn C) (w':=s.w.alloc (.cells (madeCells z.cells (m.toNat*esz)) el)) (fz:=(0,0)) rfl rfl rfl (JeP.zero _ _) r (cap:=m.toNat) (by simp;omega) (by rw[size_madeCells];exact zQ0 _);simp only[JjJ]at r';exact J2e B D t' r'
     ·simp only[RM.run]at g;injection g with g;subst g
      obtain⟨g',D,t',r'⟩:=Jo4 hi (w':=s.w.alloc (.cells (madeCells z.cells (m.toNat*esz)) el)) (fz:=(0,0)) rfl rfl rfl r (cap:=m.toNat) (by simp;omega);simp only[JjJ]at r';exact J2e (e:=⟨_,[]⟩) B D t' r'
    ·cases g
   ·cases g
  ·cases A
 ·cases hc
theorem JN2(hi:Inv s)(he:J0m s a.tmps env){own esz n zero parts}(hn:own=true->s.σ[new]?=some .dead)(h:(opR F (.lits own esz n zero parts) new).run ⟨env,s.σ⟩=some e)
  (hc:JX P (.lits own esz n zero parts) o.op=true):J16 P o a s e:=by
 simp only[opR]at h;obtain⟨y,h1,r⟩:=bind_some h;clear h;unfold JX at hc;simp only at hc;split at hc
 ·rename_i t len ps a3;simp only[JY,beq_iff_eq]at hc;obtain⟨rfl,G⟩:=hc;split at G
  ·rename_i el K;simp only[JY,beq_iff_eq,decide_eq_true_eq]at G;obtain⟨⟨⟨⟨⟨hs,ac⟩,hz⟩,U⟩,N⟩,hidx⟩:=G;obtain⟨z,a4,Y,V⟩:=J4x hz;have A:J5O (parts.map (·.2)) (ps.toList.map (·.2))=true/\parts.map (·.1)=ps.toList.map (·.1):=by
    have: ∀{p:List (Nat×Opd)} {q:List (Nat×Operand)},Jjd p q=true->J5O (p.map (·.2)) (q.map (·.2))=true/\p.map (·.1)=q.map (·.1):=by
     intro p
     induction p with
     |nil=>intro q h;cases q<;>simp[Jjd]at h⊢;rfl
     |cons x p ih=>
      intro q h;cases q with
      |nil=>simp[Jjd]at h
      |cons y q=>
       obtain⟨xi,xo⟩:=x;obtain⟨yi,yo⟩:=y;simp only[Jjd,JY,beq_iff_eq]at h;obtain⟨h3,h4⟩:=ih h.2;exact⟨by simp[J5O,h.1.2,h3],by simp[h.1.1,h4]⟩
    exact this hidx
   obtain⟨g1,i1,t1,f1,l1,r1⟩:=JFs (tmps:=a.tmps) (λn x hx=>let⟨v,h,_⟩:=he n x hx;⟨v,h⟩) hi (.refl _) he h1 A.1;split at r
   ·rename_i rows I;have H:(parts.map (·.1)).length=(ps.toList.map (·.1)).length:=by rw[A.2]
    simp at H;simp at l1;have O:((parts.map (·.1)).zip y.1).length=(ps.toList.map λx=>(x.1,a.eval x.2)).length:=by simp;omega
    obtain⟨g,M,r2,B,T⟩:=Jwu (s:=⟨upd y.2 s.σ,g1,s.w⟩) N (ps:=ps.toList.map λx=>(x.1,a.eval x.2)) (cells:=madeCells z.cells (len*esz)) I O (λk i cs j v hk hq=>by
      rw[List.getElem?_zip_eq_some]at hk;obtain⟨E,W⟩:=hk;rw[J29]at hq;cases hpk:ps.toList[k]? with
      |none=>simp[hpk]at hq
      |some q=>
       simp[hpk]at hq;obtain⟨rfl,rfl⟩:=hq;rw[A.2,J29,hpk]at E;simp at E;obtain⟨k3,k4⟩:=r1 k cs q.2 W (by rw[J29,hpk];rfl);exact⟨E.symm,k3,k4⟩)
     (Jse U Y V (zQ0 _)) (by simp[size_madeCells])
    simp at B T;have L:(execOp a.eval o).run P s.w=.ok (.value (.slice (some ⟨s.w.heap.size,0,none⟩) len len)) (s.w.alloc (.cells g el)):=by
     have C: ¬(len*esz>2^24):=by omega
     have J:(ps.map fun(x:Nat×Operand)=>(x.1,a.eval x.2)).toList=ps.toList.map λx=>(x.1,a.eval x.2):=by simp
     have hb:(Instr.buildSlice t len (ps.map fun(x:Nat×Operand)=>(x.1,a.eval x.2))).run P s.w=.ok (.slice (some ⟨s.w.heap.size,0,none⟩) len len) (s.w.alloc (.cells g el)):=by
      unfold Instr.buildSlice;by_cases R:len*esz=0
      ·have D:madeCells z.cells (len*esz)= #[]:=by simp[madeCells,R]
       rw[D]at M;have a5: ¬((0:Nat)>2^24):=by decide
       have a1:Array.range 0= #[]:=rfl;simp only[a5,J5i,run_underlying (J23 K),J59,J2P hs,C,if_false,R,if_true,J9k,J,a1,Array.map_empty,M,newRow,run_newObj];rfl
      ·have D:((Array.range (len*esz)).map λx=>z.cells[x%z.cells.size]!)=madeCells z.cells (len*esz):=rfl;simp only[J5i,run_underlying (J23 K),J59,J2P hs,C,if_false,R,Jbn a4,J9k,J,D,M,newRow,run_newObj];rfl
     simp only[execOp,a3,J5i,hb,J59,J9k]
    split at r
    ·rename_i Q;simp only[RM.run]at r;injection r with r;subst r
     have Z:(upd y.2 s.σ)[new]?=some .dead:=f1.2 _ _ (hn Q) (by simp);obtain⟨g',S,t',r'⟩:=JjH (s0:=⟨upd y.2 s.σ,g1,s.w⟩) i1 Z (w':=s.w.alloc (.cells g el)) (fz:=(0,0)) rfl rfl rfl (JeP.zero _ _) r2 (cap:=len) (by omega) (by omega);rw[B]at r';refine J2e (e:=⟨_,y.2++[(new,.arr true esz rows)]⟩) (g':=g') L ?_ ?_ ?_
     ·rw[J1t];exact S
     ·rw[J1t];exact t1.trans t'
     ·rw[J1t];exact r'
    ·simp only[RM.run]at r;injection r with r;subst r
     obtain⟨g',S,t',r'⟩:=Jo4 (s0:=⟨upd y.2 s.σ,g1,s.w⟩) i1 (w':=s.w.alloc (.cells g el)) (fz:=(0,0)) rfl rfl rfl r2 (cap:=len) (by omega);rw[B]at r';exact J2e (e:=⟨_,y.2⟩) L S (t1.trans t') r'
   ·cases r
  ·cases G
 ·cases hc
end
end Go.Am
end
section
namespace Go.Am
section
variable {P:Program} {F:Orc} {s:Sn} {a:Act} {env:List (Nat×AV)} {o:Oper} {new:Nat} {e:Eff}
theorem Jq4(l:List UInt8)(c:Array Value)(hc: ∀(i:Nat) b,l[i]?=some b->c[i]?=some (.int .u8 b.toNat))(hl:l.length<=c.size):Jbx s 1 (l.map J4b) c:=by
 refine⟨λrow hr=>?_,by simpa using hl,λi j row x hi hj=>?_⟩
 ·obtain⟨b,_,rfl⟩:=J4i.1 hr;rfl
 ·rw[J29]at hi;cases hli:l[i]? with
  |none=>simp[hli]at hi
  |some b=>
   simp[hli]at hi;subst hi;have:j=0:=by have:=Je hj;simp[J4b]at this;exact this
   subst this;simp[J4b]at hj;subst hj;exact⟨_,by rw[Nat.mul_one,J7w];exact hc i b hli,.i _ _⟩
theorem Jpi{α:Type}{esz:Nat}: ∀{rows:List (List α)},(∀row∈rows,row.length=esz)-> ∀{i j:Nat} {row:List α} {x:α},rows[i]?=some row->row[j]?=some x->rows.flatten[i*esz+j]?=some x
 |[],_,i,j,row,x,h,_=>by simp at h
 |r0::e,hl,i,j,row,x,h,hx=>by
  have g:r0.length=esz:=hl r0 (by simp);cases i with
  |zero=>
   simp at h;subst h;have:=Je hx;simp only[Jr5,zQ6,J8u];rw[J6Z (by omega)];exact hx
  |succ i=>
   simp only[J8u];rw[J6Y (by rw[J3H];omega)];have:=Jpi (rows:=e) (λrow hm=>hl row (by simp[hm])) (by simpa using h) hx;rw[<-this];congr 1;rw[J3H];omega
theorem JEy{h:Array Obj}{x:Obj}(f:Obj->Obj):(h.push x).modify h.size f=h.push (f x):=by
 apply Array.ext_getElem?;intro i;rw[Array.getElem?_modify,Array.getElem?_push,Array.getElem?_push];by_cases hi:i=h.size
 ·subst hi;simp
 ·rw[if_neg (Ne.symm hi),if_neg hi,if_neg hi]
theorem JCG{el:TypeId}(l:List UInt8)(w:World): ∃w' cap c fz,(Conv.stringToBytes el ⟨l.toArray⟩).run P w=.ok (.slice (some ⟨w.heap.size,0,none⟩) l.length cap) w'/\
  w'.heap=w.heap.push (.cells c el fz)/\w'.os=w.os/\w'.output=w.output/\Juq fz 0 c.size/\l.length<=cap/\c.size=cap/\ ∀(i:Nat) b,l[i]?=some b->c[i]?=some (.int .u8 b.toNat):=by
 have hf:(Question.appendCap l.length 0 el).forced=false:=rfl;have e:l.length<=(Question.appendCap l.length 0 el).cut (w.tape w.drawn (.appendCap l.length 0 el)):=by simp[Question.cut]
 generalize hq:(Question.appendCap l.length 0 el).cut (w.tape w.drawn (.appendCap l.length 0 el))=cap at e
 let c:Array Value:=(l.toArray.map λb=>Value.int .u8 b.toNat)++Array.replicate (cap-l.length) (.int .u8 0)
 have hc:c.size=cap:=by simp[c];omega
 refine⟨({w with drawn:=w.drawn+1,heap:=w.heap.push (.cells c el)}).freeze {block:=w.heap.size,off:=c.size} 1,cap,c,(c.size,c.size+1),?_,?_,?_,?_,?_,e,hc,?_⟩
 ·unfold Conv.stringToBytes;have hs:ByteArray.size ⟨l.toArray⟩=l.length:=J86 l;have j:World.shape? {w with drawn:=w.drawn+1,heap:=w.heap.push (.cells c el)} w.heap.size=some (el,c.size):=by simp[World.shape?]
  have he:(Array.map (λb=>Value.int IntKind.u8 ↑(UInt8.toNat b)) l.toArray++Array.replicate (cap-l.length) (Value.int IntKind.u8 0))=c:=rfl;simp only[J5i,run_choose,hs,hf,J5h,if_false,J59,hq,newRow,run_newObj,J9k,markStringish,run_shape,run_freeze,he,j]
 ·unfold World.freeze;simp only[Nat.one_ne_zero,if_false];rw[JEy];simp
 ·unfold World.freeze;simp
 ·unfold World.freeze;simp
 ·intro o _ h;simp;omega
 ·intro i b hb;have g:=Je hb;rw[JF g]at hb;injection hb with hb;simp[c,Array.getElem?_append,g,hb]
theorem JHn(hi:Inv s)(he:J0m s a.tmps env){own x}(hn:own=true->s.σ[new]?=some .dead)(h:(opR F (.conv (.toBytes own) x) new).run ⟨env,s.σ⟩=some e)
  (hc:JX P (.conv (.toBytes own) x) o.op=true):J16 P o a s e:=by
 simp only[opR]at h;obtain⟨u,h1,g⟩:=bind_some h;clear h;unfold JX at hc;simp only at hc;split at hc
 ·rename_i I dst y A;simp only[JY]at hc;obtain⟨hx,hs,n⟩:=hc;have H:=J0c he h1 hx;split at n
  ·rename_i el B;simp only[JY,beq_iff_eq]at n;have C: ∃l,u=.p (.s l)/\(if own=true then RM.ret ⟨.slr new 0 l.length,[(new,.arr true 1 (l.map J4b))]⟩else RM.ret ⟨.p (.sl 1 (l.map J4b)),[]⟩:RM Eff).run ⟨env,s.σ⟩=some e:=by
    cases u with
    |p c=>cases c with
     |s l=>exact⟨l,rfl,g⟩
     |_=>cases g
    |_=>cases g
   clear g;obtain⟨l,rfl,g⟩:=C
   ·skip
    obtain⟨w',cap,c,fz,v,D,ho,hp,hf,j,hcs,G⟩:=JCG (P:=P) (el:=el) l s.w;have E:=Jaw H;have q:(execOp a.eval o).run P s.w=.ok (.value (.slice (some ⟨s.w.heap.size,0,none⟩) l.length cap)) w':=by simp[execOp,A,E,convert,run_underlying (J6h hs),run_underlying (J23 B),run_underlying (JzW n.1),v]
    have k:=Jq4 (s:=s) l c G (by omega);split at g
    ·rename_i r;simp only[RM.run]at g;injection g with g;subst g
     obtain⟨g',z,t',r'⟩:=JjH (esz:=1) hi (hn r) D ho hp ⟨hf,λh=>absurd rfl h⟩ k (cap:=cap) (by simpa using j) (by omega);simp only[J1M]at r';exact J2e q z t' r'
    ·simp only[RM.run]at g;injection g with g;subst g
     obtain⟨g',z,t',r'⟩:=Jo4 hi D ho hp k (cap:=cap) (by simpa using j);simp only[J1M]at r';exact J2e (e:=⟨_,[]⟩) q z t' r'
  ·cases n
 ·cases hc
theorem JIE(hi:Inv s){esz:Nat}{x:AV}{new:List (List PV)}{v:Value}{u:TypeId}(h:(J2w esz x).run ⟨env,s.σ⟩=some new)(hr:JH s x v)
  (hu:(elT P u).isSome=true\/J5Y P u=true):
  ∃news,Src P esz u v new.length news s.w/\(∀row∈new,row.length=esz)/\
   ∀(i j:Nat) row y,new[i]?=some row->row[j]?=some y-> ∃q,news[i*esz+j]?=some q/\J0p s.w s.g.C y q:=by
 have n:(∃e',P.underlying u=some (.slice e'))\/P.underlying u=some .string:=by
  rcases hu with hu|hu
  ·obtain⟨e',K⟩:=JHp.1 hu;exact .inl ⟨e',J23 K⟩
  ·exact .inr (J6h hu)
 rcases JtJ hi h hr with⟨l,rfl,rfl,rfl,rfl⟩|G
 ·have hlen:(byteCells ⟨l.toArray⟩).length=l.length:=by rw[byteCells_length,J86]
  have H: ∀w:World,(Builtin.firstCells 1 l.length (.string ⟨l.toArray⟩)).run P w=.ok (byteCells ⟨l.toArray⟩).toArray w:=by intro w;have:=firstCells_string (P:=P) ⟨l.toArray⟩ w;rwa[J86]at this
  refine⟨byteCells ⟨l.toArray⟩,⟨n,λw=>by rw[J1M,<-J86];rfl,by rw[J1M];exact H _,by rw[J1M];exact H _,by rw[hlen];simp,λq hq=>by obtain⟨_,_,rfl⟩:=J4i.1 hq;rfl⟩,λrow hr=>?_,?_⟩
  ·obtain⟨b,_,rfl⟩:=J4i.1 hr;rfl
  ·have:=(Jq4 (s:=s) l (byteCells ⟨l.toArray⟩).toArray (λi b hb=>by
    simp[byteCells,hb]) (by simp[byteCells])).2.2
   intro i j row y h1 h2;obtain⟨q,hq,hr⟩:=this i j row y h1 h2;exact⟨q,by simpa using hq,hr⟩
 ·obtain⟨E,cap,vs,hv,I,hlen,o,B,e⟩:=G.cells;have A: ∀q∈vs,q.oneCell'=true:=by
   intro q hq;obtain⟨k,hk⟩:=J6x hq;have M:=Je hk;have:k<new.flatten.length:=by rw[Jb0 e];omega
   obtain⟨q',z,hr⟩:=o k _ (JF this);rw[hk]at z;injection z with z;subst z;exact hr.one
  have D: ∀(i j:Nat) row y,new[i]?=some row->row[j]?=some y-> ∃q,vs[i*esz+j]?=some q/\J0p s.w s.g.C y q:=by
   intro i j row y h1 h2;refine o _ _ ?_;clear o B hlen A h hr hv I G
   induction new generalizing i with
   |nil=>simp at h1
   |cons r0 new ih=>
    have N:r0.length=esz:=e r0 (by simp);cases i with
    |zero=>
     simp at h1;subst h1;have:=Je h2;simp only[Jr5,zQ6,J8u];rw[J6Z (by omega)];exact h2
    |succ i=>
     simp only[J8u];rw[J6Y (by rw[J3H];omega)];have:=ih (λrow hm=>e row (by simp[hm])) i (by simpa using h1);rw[<-this];congr 1;rw[J3H];omega
  subst hv;rcases B with J|⟨r,L,rfl,hm⟩
  ·subst J;simp at hlen;subst hlen;refine⟨[],?_,e,D⟩;cases E with
   |none=>exact⟨n,λ_=>rfl,run_firstCells_none s.w esz 0 0 cap,run_firstCells_none s.w.drew esz 0 0 cap,by simp,λ_ h=>by cases h⟩
   |some E=>exact⟨n,λ_=>rfl,run_firstCells_some s.w esz 0 E 0 cap [] (by simp) (λj u h=>by simp at h),run_firstCells_some s.w.drew esz 0 E 0 cap [] (by simp) (λj u h=>by simp at h),by simp,λ_ h=>by cases h⟩
  ·have F: ∀j q,vs[j]?=some q->s.w.cell? (Addr.add ⟨r,L,none⟩ j)=some q:=λj q hj=>by rw[J9q,J4I];exact hm j q hj
   exact⟨vs,⟨n,λ_=>rfl,run_firstCells_some s.w esz _ _ _ cap vs hlen F,run_firstCells_some s.w.drew esz _ _ _ cap vs hlen (by simpa using F),hlen,A⟩,e,D⟩
theorem Jpz(b:Nat)(x:Blk)(σ:List Blk):upd [(b,x)] σ=σ.set b x:=rfl
structure JKH(P:Program)(esz bytes:Nat)(t ut ty el:TypeId)(z v:Value)(n:Nat)(news:List Value)(w:World):Prop where
 newsLen:news.length=n*esz
 room: ∀(r off sLen sCap:Nat),sLen+n<=sCap->(∀j,j<news.length->(w.cell? ⟨r,off+sLen*esz+j,none⟩).isSome=true)->(∀j,j<news.length->w.frozen? ⟨r,off+sLen*esz+j,none⟩=false)->
  (Builtin.append_ #[t,ut] ty #[.slice (some ⟨r,off,none⟩) sLen sCap,v]).run P w=.ok (.slice (some ⟨r,off,none⟩) (sLen+n) sCap) (w.setCells r (off+sLen*esz) news)
 grow: ∀(base:Option Addr) (sLen sCap:Nat) (olds:List Value),(Builtin.firstCells esz sLen (.slice base sLen sCap)).run P w.drew=.ok olds.toArray w.drew->sCap<sLen+n->((sLen+n:Nat):Int)<=9223372036854775807->
  Builtin.nextslicecap (sLen+n) sCap*bytes<=281474976710656->
  (Builtin.append_ #[t,ut] ty #[.slice base sLen sCap,v]).run P w=.ok (.slice (some ⟨w.heap.size,0,none⟩) (sLen+n) (grownCap w (sLen+n) sCap el)) (w.drew.alloc (.cells ((olds++news).toArray++Builtin.zeroCells z.cells (grownCap w (sLen+n) sCap el-(sLen+n))) el))
 nil:n=0->(Builtin.append_ #[t,ut] ty #[.slice none 0 0,v]).run P w=.ok (.slice none 0 0) w
theorem Src.gen{esz bytes:Nat}{t ut ty el:TypeId}{i:TypeInfo}{z v:Value}{n:Nat}{news:List Value}{w:World}(j:elT P t=some el)(hs:szT P el=some esz)(k:P.info? el=some i)(e:i.size=esz)(q:i.bytes=bytes)(x:i.zero=some z)
  (h:Src P esz ut v n news w):JKH P esz bytes t ut ty el z v n news w:=by
 have g:=h;rw[<-e]at g;refine⟨h.newsLen,λr off sLen sCap h1 h2 h3=>?_,λbase sLen sCap olds h1 h2 h3 h4=>?_,λA=>?_⟩
 ·have o:=run_append_room_src (P:=P) w t ut ty el i (J23 j) k r off sLen sCap v n news g h1 (by rw[e];exact h2) (by rw[e];exact h3);rw[e]at o;exact o
 ·exact run_append_grow_src (P:=P) w t ut ty el i z (J23 j) k x base sLen sCap olds (by rw[e];exact h1) v n news g h2 h3 (by rw[q];exact h4)
 ·subst A;have hl:=h.len w;have y:=h.cells;rcases h.kind with⟨e',hk⟩|hk
  ·simp[Builtin.append_,run_underlying (J23 j),run_underlying hk,J2P hs,hl,y]
  ·simp[Builtin.append_,run_underlying (J23 j),run_underlying hk,J2P hs,hl,y]
theorem JHw{esz bytes:Nat}{t ut ty el:TypeId}{i:TypeInfo}{z:Value}{k J:IntKind}{m:Nat}{w:World}(q:elT P t=some el)(hs:szT P el=some esz)(n:P.info? el=some i)(v:i.size=esz)(g:i.bytes=bytes)(o:i.zero=some z)
  (F:z.cells.size=esz) (H: ∀u∈z.cells.toList,u.oneCell'=true) (hk:P.underlying ut=some (.int k)) (hm:m*bytes<=281474976710656) (K:m<=281474976710656):
  JKH P esz bytes t ut ty el z (.int J (m:Int)) m (Builtin.zeroCells z.cells m).toList w:=by
 have w0:IntKind.i64.wrap (m:Int)=(m:Int):=by simp[IntKind.wrap_i64];omega
 have B: ¬(m:Int)<0:=by omega
 have C: ¬(281474976710656:Int)<(m:Int)*(bytes:Int):=by
  have:((m*bytes:Nat):Int)<=281474976710656:=by omega
  rw[Int.natCast_mul]at this;omega
 have hl:(Builtin.zeroCells z.cells m).toList.length=m*esz:=by rw[Array.length_toList,size_zeroCells,F]
 have D: ∀u∈(Builtin.zeroCells z.cells m).toList,u.oneCell'=true:=by
  intro u hu;unfold Builtin.zeroCells at hu;simp only[Array.toList_map,J4i]at hu;obtain⟨j,_,rfl⟩:=hu;by_cases hj:j%z.cells.size<z.cells.size
  ·rw[getElem!_pos z.cells _ hj];exact H _ (Array.getElem_mem_toList _)
  ·have:z.cells.size=0:=by
    rcases JAO z.cells.size with h|h
    ·exact h
    ·exact absurd (Nat.mod_lt _ h) hj
   rw[getElem!_neg z.cells _ hj];rfl
 have E:m*esz=0->Builtin.zeroCells z.cells m= #[]:=by intro G;apply Array.eq_empty_of_size_eq_zero;rw[size_zeroCells,F];exact G
 refine⟨hl,λr off sLen sCap h1 h2 h3=>?_,λbase sLen sCap olds h1 h2 h3 h4=>?_,λG=>?_⟩
 ·have x:=run_storeCells_cells (P:=P) r (off+sLen*esz) (Builtin.zeroCells z.cells m).toList 0 w (by simpa using h2) (by simpa using h3) D;simp only[J7w]at x;by_cases hz:m*esz=0
  ·have e:=E hz;rw[e]at x⊢;simp[Builtin.append_,run_underlying (J23 q),run_underlying hk,sizeOf,typeInfo,n,v,g,asInt,asIntOf,w0,B,C,h1,hz,Addr.add_lit,x]
  ·simp[Builtin.append_,run_underlying (J23 q),run_underlying hk,sizeOf,typeInfo,zeroValue,n,o,v,g,asInt,asIntOf,w0,B,C,h1,hz,Addr.add_lit,x]
 ·have hn: ¬(sLen+m<=sCap):=by omega
  have y: ¬(9223372036854775807<((sLen:Int)+(m:Int))):=by omega
  have A: ¬(281474976710656<Builtin.nextslicecap (sLen+m) sCap*bytes):=by omega
  by_cases hz:m*esz=0
  ·have e:=E hz;rw[e];simp[Builtin.append_,run_underlying (J23 q),run_underlying hk,sizeOf,typeInfo,zeroValue,n,o,v,g,asInt,asIntOf,w0,B,C,hz,hn,y,A,Question.forced,h1,newRow,grownCap]
  ·simp[Builtin.append_,run_underlying (J23 q),run_underlying hk,sizeOf,typeInfo,zeroValue,n,o,v,g,asInt,asIntOf,w0,B,C,hz,hn,y,A,Question.forced,h1,newRow,grownCap]
   congr 2
   apply J9Q;simp[J7D]
 ·subst G;have I:IntKind.i64.wrap 0=0:=by decide
  simp[Builtin.append_,run_underlying (J23 q),run_underlying hk,sizeOf,typeInfo,n,v,g,asInt,asIntOf,I]
theorem JwL(hi:Inv s){esz bytes:Nat}{zero:List PV}{u v:AV}{c:Call}{x' y':Operand}{t ut el:TypeId}(bf:o.op=.call c)(b0:c.callee=.builtin .append)
  (ai:c.args.toList=[x',y']) (ax:c.argTypes.toList=[t,ut]) (c6:elT P t=some el)
  (ht:(szT P el==some esz&&byT P el==some bytes&&Jaf P zero el&&zero.length==esz&&decide (0<esz)&&decide (0<bytes))=true)
  (rx:JH s u (a.eval x')) (hG: ∀(i:TypeInfo) (z:Value) (new:List (List PV)),szT P el=some esz->P.info? el=some i->i.size=esz->i.bytes=bytes->i.zero=some z->zeT P el=some z->zero.length=z.cells.size->new.length*bytes<=281474976710656->new.length<=281474976710656->(J2w esz v).run ⟨env,s.σ⟩=some new->
   ∃news,JKH P esz bytes t ut o.type el z (a.eval y') new.length news s.w/\(∀row∈new,row.length=esz)/\
    ∀(i j:Nat) row y,new[i]?=some row->row[j]?=some y-> ∃q,news[i*esz+j]?=some q/\J0p s.w s.g.C y q)
  (A:(J7u esz bytes u v).run ⟨env,s.σ⟩=some e):J16 P o a s e:=by
 simp only[JY,beq_iff_eq,decide_eq_true_eq]at ht;obtain⟨⟨⟨⟨⟨hs,b9⟩,hz⟩,c1⟩,bq⟩,al⟩:=ht;obtain⟨i,M,b4⟩:=Jpg hs;obtain⟨z,ao,c7,c2⟩:=J4x hz;have F:=JrK b9 M;have aj:=JuV ao M;have hm:c.args.map a.eval= #[a.eval x',a.eval y']:=by apply J9Q;simp[ai]
 have b5:c.argTypes= #[t,ut]:=by apply J9Q;rw[ax]
 have ac: ∀{q:Value} {w':World},(Builtin.append_ #[t,ut] o.type #[a.eval x',a.eval y']).run P s.w=.ok q w'->(execOp a.eval o).run P s.w=.ok (.value q) w':=by intro q w' hr;simp[execOp,bf,resolve,b0,hm,b5,invoke,builtin,hr]
 unfold J7u at A;split at A
 ·rename_i b j n;simp only[RM.run]at A;split at A
  ·rename_i blk hb;split at A
   ·rename_i wm Z rows;obtain⟨x,h3,h4⟩:=bind_some A;clear A;split at h4
    ·rename_i ah;obtain⟨rfl,rfl,rfl,R⟩:=ah;simp only[RM.run]at h4;injection h4 with h4;subst h4
     have hb:s.σ[b]?=some (.arr wm esz rows):=hb;have R:(2*(rows.length+x.length)+512)*bytes<=281474976710656:=by simpa[J61]using R
     have bg:rows.length+x.length<=281474976710656:=by have h5:(2*(rows.length+x.length)+512)*1<=(2*(rows.length+x.length)+512)*bytes:=Nat.mul_le_mul_left _ al;omega
     have aw:x.length*bytes<=281474976710656:=by have h5:x.length*bytes<=(2*(rows.length+x.length)+512)*bytes:=zQ7 _ (by omega);omega
     obtain⟨news,J,G,Q⟩:=hG i z x hs M b4 F aj ao (by omega) aw (by omega) h3;have V:=J.newsLen;have K:=J5z.of_slr hi rx hb (by omega);simp only[Jn0]at K;generalize U:a.eval x'=zz at rx;have av: ∀{O:Nat},O<rows.length+x.length->Builtin.nextslicecap (rows.length+x.length) O*i.bytes<=281474976710656:=by intro O ho;have h5:=nextslicecap_le ho;rw[F];have h6:Builtin.nextslicecap (rows.length+x.length) O*bytes<=(2*(rows.length+x.length)+512)*bytes:=zQ7 _ (by omega);omega
     have grow: ∀{base:Option Addr} {cap:Nat},zz=.slice base rows.length cap->cap<rows.length+x.length->
       J16 P o a s ⟨.slr b 0 (rows.length+x.length),[(b,.arr wm esz (rows++x))]⟩:=by
      intro base cap an a0;rw[U]at K;obtain⟨ad,bp,vs,hv,bh,E,af,ak,I⟩:=K.cells;rw[an]at hv;injection hv with v1 v2 v3;subst v1 v3;have az:(Builtin.firstCells esz rows.length (.slice base rows.length cap)).run P s.w.drew=.ok vs.toArray s.w.drew:=by
       rcases ak with ap|⟨r,o',rfl,b8⟩
       ·subst ap;simp at E;subst E;cases base with
        |none=>exact run_firstCells_none s.w.drew esz 0 0 cap
        |some ad=>exact run_firstCells_some s.w.drew esz 0 ad 0 cap [] (by simp) (λj u h=>by simp at h)
       ·exact run_firstCells_some s.w.drew esz _ _ _ cap vs E (λj q hj=>by
         have:s.w.drew.cell? (Addr.add ⟨r,o',none⟩ j)=s.w.cell? (Addr.add ⟨r,o',none⟩ j):=by simp
         rw[this,J9q,J4I];exact b8 j q hj)
      have B:=J.grow base rows.length cap vs az a0 (by omega) (by rw[<-F];exact av a0);have a8:rows.length+x.length<=grownCap s.w (rows.length+x.length) cap el:=by unfold grownCap;simp[Question.cut]
      generalize grownCap s.w (rows.length+x.length) cap el=W at B a8;have b2:x≠[]:=by rintro rfl;simp at a0;omega
      have b6:z.cells.size=esz:=by omega
      obtain⟨i0,t0⟩:=JoB (w':=s.w.drew) hi rfl rfl rfl;have a6:((vs++news).toArray++Builtin.zeroCells z.cells (W-(rows.length+x.length))).size=W*esz:=by
       have:W*esz=(rows.length+x.length)*esz+(W-(rows.length+x.length))*esz:=by rw[<-J3H];congr 1;omega
       rw[this,J3H];simp[size_zeroCells,E,V,b6]
      obtain⟨g',bw,i',t'⟩:=JKF (s0:=⟨s.σ,s.g,s.w.drew⟩) i0 (w':=s.w.drew.alloc (.cells ((vs++news).toArray++Builtin.zeroCells z.cells (W-(rows.length+x.length))) el)) hb b2 I G rfl rfl rfl
       (by rw[a6];exact zQ7 _ a8) (λk m row q hk hq=>by
        have S:=Je hq;rcases Jbb hk with hk|⟨au,hk⟩
        ·have a4:=Je hk;rw[I row (J0F hk)]at S;have ay:=J5w a4 S;have ba:=Jpi I hk hq;obtain⟨w,hw,N⟩:=af _ q ba;refine⟨w,?_,N.mono hi t0⟩;rw[Jox (by simp;omega)];simp;rw[J6Z (by omega)];exact hw
        ·rw[G row (J0F hk)]at S;have a4:=Je hk;have ay:=J5w a4 S;obtain⟨w,hw,N⟩:=Q _ m row q hk hq;have e4:k*esz+m=rows.length*esz+((k-rows.length)*esz+m):=by rw[<-Jbe,<-J3H,Nat.add_sub_cancel' au]
         refine⟨w,?_,N.mono hi t0⟩;rw[Jox (by simp;omega)];simp;rw[J6Y (by omega),<-hw];congr 1;omega)
      refine J2e (e:=⟨.slr b 0 (rows.length+x.length),[(b,.arr wm esz (rows++x))]⟩) (g':=g') (ac (by rw[U,an];exact B)) i' (t0.trans t') ?_;refine .slr b 0 _ _ wm esz (rows++x) ⟨_,_,rfl,.inr (by simp)⟩ (J13 hb) (by simp) λ_=>.inr ⟨_,W,_,el,(0,0),bw,by simp,a8,J9O rfl,?_⟩;rw[zQ6,a6];exact zQ0 _
     cases rx with
     |slr _ _ _ _ wm' Z rows' q0 q1 q2 q3=>
      have q1:s.σ[b]?=some (.arr wm' Z rows'):=q1;rw[hb]at q1;injection q1 with q1;injection q1 with a1 a2 a3;subst a1 a2 a3
      rcases q3 (by omega)with⟨Y,_,bd,hv⟩|⟨r,cap,cc,e1,fz,Y,hv,bm,hh,a9⟩
      ·have ag:rows=[]:=List.eq_nil_of_length_eq_zero bd;subst ag;by_cases ab:x=[]
       ·subst ab;simp at V;subst V;subst hv;have B:(Builtin.append_ #[t,ut] o.type #[.slice none 0 0,a.eval y']).run P s.w=.ok (.slice none 0 0) s.w:=by exact J.nil rfl
        have L:s.σ.set b (.arr wm esz [])=s.σ:=by
         apply JmG;intro k;by_cases hk:k=b
         ·subst hk;rw[J13 hb,hb]
         ·rw[J0u (Ne.symm hk)]
        refine J2e (e:=⟨.slr b 0 0,[(b,.arr wm esz [])]⟩) (g':=s.g) (ac (by rw[U];exact B)) ?_ ?_ ?_
        ·rw[Jpz,L];exact hi
        ·rw[Jpz,L];exact .refl s
        ·rw[Jpz,L];exact .slr b 0 0 _ wm esz [] ⟨none,0,rfl,.inl rfl⟩ hb (zQ0 _) λ_=>.inl ⟨Y,rfl,rfl,rfl⟩
       ·refine grow (cap:=0) hv ?_;have:=List.length_pos_iff.2 ab;simpa using this
      ·subst hv;by_cases H:rows.length+x.length<=cap
       ·rcases hi.arr b _ _ _ hb with⟨D,_⟩|⟨r',c',e',c3,D,T,bu,hlen,c4,bc⟩
        ·rw[Y]at D;cases D
        ·rw[Y]at D;injection D with D;injection D with D _;subst D
         rw[hh]at T;injection T with T;injection T with w1 w2 w3;subst w1 w2 w3
         have bz:(rows.length+x.length)*esz<=cc.size:=by have:=zQ7 esz H;simp at a9;omega
         have bt:(rows.length+x.length)*esz=rows.length*esz+x.length*esz:=J3H _ _ _;have ae:=J7A (vs:=news) (o:=rows.length*esz) hh (by omega);obtain⟨i',t'⟩:=JMs hi hb Y G ae V Q;have B:=J.room r 0 rows.length cap H
          (λk hk=>by rw[J4I,J2x hh];simp;omega)
          (λk hk=>by
            have:=bc.1 (0+rows.length*esz+k) (by omega) (by omega);simp only[World.frozen?,hh];simpa using this)
         simp only[zQ6]at B;obtain⟨c0,e0,c5,b7,p1,p2,p3,p4,p5,p6⟩:=ae.there;rw[hh]at p1;injection p1 with p1;injection p1 with w1 w2 w3;subst w1 w2 w3
         refine J2e (e:=⟨.slr b 0 (rows.length+x.length),[(b,.arr wm esz (rows++x))]⟩) (ac (by rw[U];simpa using B)) i' t' ?_;refine .slr b 0 _ _ wm esz (rows++x) ⟨_,_,rfl,.inr (by simp)⟩ (J13 hb) (by simp) λ_=>.inr ⟨r,cap,b7,e1,fz,Y,by simp,H,p2,by rw[p3];simpa using a9⟩
       ·exact grow (cap:=cap) rfl (by omega)
    ·cases h4
   ·cases A
  ·cases A
 ·cases A
theorem JCx(hi:Inv s){esz bytes:Nat}{zero:List PV}{u v:AV}{c:Call}{B A:Operand}{t ut el:TypeId}(x:o.op=.call c)(r:c.callee=.builtin .append)
  (h:c.args.toList=[B,A]) (n:c.argTypes.toList=[t,ut]) (z:((elT P ut).isSome||J5Y P ut)=true) (k:elT P t=some el)
  (D:(szT P el==some esz&&byT P el==some bytes&&Jaf P zero el&&zero.length==esz&&decide (0<esz)&&decide (0<bytes))=true)
  (E:JH s u (a.eval B)) (F:JH s v (a.eval A)) (y:(J7u esz bytes u v).run ⟨env,s.σ⟩=some e):J16 P o a s e:=
 JwL hi x r h n k D E (λ_ _ _ hs q C g j _ _ _ _ h3=>by obtain⟨news,w,h1,h2⟩:=JIE (u:=ut) hi h3 F (Bool.or_eq_true_iff.1 z);exact⟨news,Src.gen k hs q C g j w,h1,h2⟩) y
theorem JNl(hi:Inv s)(he:J0m s a.tmps env){esz bytes zero x y}(h:(opR F (.appz esz bytes zero x y) new).run ⟨env,s.σ⟩=some e)(hc:JX P (.appz esz bytes zero x y) o.op=true):J16 P o a s e:=by
 simp only[opR]at h;obtain⟨u,h1,Z⟩:=bind_some h;obtain⟨v,h2,B⟩:=bind_some Z;clear h Z;unfold JX at hc;simp only at hc;split at hc
 ·rename_i c Y;split at hc
  ·rename_i S;split at hc
   ·rename_i x' y' t ut G Q;simp only[JY]at hc;obtain⟨⟨⟨hx,hy⟩,I⟩,A⟩:=hc;split at A
    ·rename_i el J;split at I
     ·rename_i k hk;split at B
      ·rename_i c1 q;unfold zrs at q;split at q
       ·rename_i k' n;split at q
        case isFalse=>cases q
        rename_i hn;injection q with q;subst q;have ry:=J0c he h2 hy;obtain⟨m,rfl⟩: ∃m:Nat,n=(m:Int):=⟨n.toNat,by omega⟩;have hv:a.eval y'=.int k' (m:Int):=by generalize a.eval y'=v0 at ry;cases ry with|p _ _ h=>cases h with|i=>rfl
        refine JwL hi Y S G Q J (by simpa only[JY]using A) (J0c he h1 hx) (λi z new hs R a2 D H hz a7 O M h3=>?_) B;simp only[J2w,if_pos,RM.run,Int.toNat_natCast]at h3;injection h3 with h3;subst h3;rw[JjJ]at O M;simp only[JY,beq_iff_eq,decide_eq_true_eq]at A;obtain⟨⟨⟨⟨⟨_,_⟩,U⟩,T⟩,a4⟩,_⟩:=A;obtain⟨z',r,a5,L⟩:=J4x U;rw[hz]at r;injection r with r;subst r
        have N:z.cells.size=esz:=by omega
        have V: ∀(j:Nat) (u:Value),z.cells[j]?=some u-> ∃y:PV,zero[j]?=some y/\J0p s.w s.g.C y u:=by
         intro j u hu;have hj:j<zero.length:=by have:=(JH0.1 hu).1;omega
         exact⟨zero[j],JF hj,L j _ u (JF hj) hu⟩
        refine⟨(Builtin.zeroCells z.cells m).toList,?_,λrow hr=>by rw[(List.mem_replicate.1 hr).2];exact T,λi j row y E hy=>?_⟩
        ·rw[JjJ,hv];refine JHw J hs R a2 D H N (λu hu=>?_) hk O M;obtain⟨j,hj⟩:=J6x hu;obtain⟨y,_,hr⟩:=V j u (by simpa using hj);exact hr.one
        ·have a0:i<m:=by
          have:=Je E;simpa using this
         have hre:row=zero:=(List.mem_replicate.1 (J0F E)).2;subst hre;have hj:=Je hy;have K:j<z.cells.size:=by omega
         refine⟨z.cells[j],?_,L j y _ hy (Jjt K)⟩;have W:i*esz+j<m*esz:=J5w a0 (by omega);unfold Builtin.zeroCells;rw[JDL,Array.getElem?_map,N,Array.getElem?_range,if_pos W];have e:(i*esz+j)%esz=j:=by rw[Jrw,Nat.mul_add_mod];exact Nat.mod_eq_of_lt (by omega)
         simp only[J1o,e];rw[getElem!_pos z.cells _ K]
       ·cases q
      ·cases B
     ·cases I
    ·cases A
   ·cases hc
  ·cases hc
 ·cases hc
theorem JNU(hi:Inv s)(he:J0m s a.tmps env){esz bytes zero x y}(h:(opR F (.app esz bytes zero x y) new).run ⟨env,s.σ⟩=some e)(hc:JX P (.app esz bytes zero x y) o.op=true):J16 P o a s e:=by
 simp only[opR]at h;obtain⟨u,h1,w⟩:=bind_some h;obtain⟨v,h2,r⟩:=bind_some w;clear h w;unfold JX at hc;simp only at hc;split at hc
 ·rename_i c q;split at hc
  ·rename_i n;split at hc
   ·rename_i C B t ut g j;simp only[JY]at hc;obtain⟨⟨⟨hx,hy⟩,z⟩,k⟩:=hc;split at k
    ·rename_i el A;exact JCx hi q n g j z A (by simpa only[JY]using k) (J0c he h1 hx) (J0c he h2 hy) r
    ·cases k
   ·cases hc
  ·cases hc
 ·cases hc
theorem JN1(hi:Inv s)(he:J0m s a.tmps env)(hn:s.σ[new]?=some .dead){esz bytes zero y}(h:(opR F (.appn esz bytes zero y) new).run ⟨env,s.σ⟩=some e)(hc:JX P (.appn esz bytes zero y) o.op=true):J16 P o a s e:=by
 simp only[opR]at h;obtain⟨v,h2,K⟩:=bind_some h;obtain⟨rows,h3,h4⟩:=bind_some K;clear h K;unfold JX at hc;simp only at hc;split at hc
 ·rename_i c J;split at hc
  ·rename_i H;split at hc
   ·rename_i Y t ut A D;simp only[JY]at hc;obtain⟨⟨hy,L⟩,E⟩:=hc;split at E
    ·rename_i el M;split at h4
     ·rename_i x;simp only[RM.run]at h4;injection h4 with h4;subst h4
      obtain⟨V,N⟩:=Jpe hi hn esz;have j:(s.σ.set new (.arr true esz []))[new]?=some (.arr true esz []):=J13 hn;have T:JH ⟨s.σ.set new (.arr true esz []),J4T s.g new none,s.w⟩ (.slr new 0 0) (a.eval (.const (.slice none 0 0))):=
       .slr new 0 0 _ true esz [] ⟨none,0,rfl,.inl rfl⟩ j (zQ0 _) λ_=>.inl ⟨if_pos rfl,rfl,rfl,rfl⟩
      have U:=(J0c he h2 hy).mono hi N;have O:(J2w esz v).run ⟨env,s.σ.set new (.arr true esz [])⟩=some rows:=by
       cases v with
       |slr b i n=>
        simp only[J2w,RM.run]at h3⊢;by_cases hb:b=new
        ·subst hb;rw[hn]at h3;cases h3
        ·rw[J0u (Ne.symm hb)];cases hq:s.σ[b]? with
         |none=>rw[hq]at h3;cases h3
         |some B=>
          rw[hq]at h3;cases B with
          |arr w z W=>
           simp only at h3⊢;split at h3
           ·rename_i I;rw[if_pos I];exact h3
           ·cases h3
          |_=>cases h3
       |p c=>cases c<;>simp only[J2w]at h3⊢ <;>first|exact h3|(split at h3<;>rename_i I<;>first|(rw[if_pos I];exact h3)|cases h3)|cases h3
       |_=>cases h3
      have G:(J7u esz bytes (.slr new 0 0) v).run ⟨env,s.σ.set new (.arr true esz [])⟩=some ⟨.slr new 0 rows.length,[(new,.arr true esz rows)]⟩:=by simp only[J7u,RM.run,j,run_bind,O,JJ,List.length_nil,zQ6,Jbd];rw[if_pos ⟨by trivial,by trivial,by trivial,x⟩];rfl
      have ok:=JCx (s:=⟨s.σ.set new (.arr true esz []),J4T s.g new none,s.w⟩) V J H A D L M (by simpa only[JY]using E) T U G;intro next Q C;refine ok next Q λR w' g' q r k=>?_;have S:upd [(new,Blk.arr true esz rows)] (s.σ.set new (.arr true esz []))=upd [(new,Blk.arr true esz rows)] s.σ:=by simp only[Jpz,List.set_set]
      simp only at q r k;rw[S]at q r k;exact C R w' g' q (N.trans r) k
     ·cases h4
    ·cases E
   ·cases hc
  ·cases hc
 ·cases hc
theorem JMn(hi:Inv s)(he:J0m s a.tmps env)(hn:s.σ[new]?=some .dead){esz bytes zero x y}(h:(opR F (.appc esz bytes zero x y) new).run ⟨env,s.σ⟩=some e)(hc:JX P (.appc esz bytes zero x y) o.op=true):J16 P o a s e:=by
 simp only[opR]at h;obtain⟨u,h1,h'⟩:=bind_some h;obtain⟨v,h2,D⟩:=bind_some h';clear h h';unfold JX at hc;simp only at hc;split at hc
 ·rename_i c ap;split at hc
  ·rename_i aa;split at hc
   ·rename_i x' y' t ut U a6;simp only[JY]at hc;obtain⟨⟨⟨hx,hy⟩,ag⟩,R⟩:=hc;split at R
    ·rename_i el al;simp only[JY,beq_iff_eq,decide_eq_true_eq]at R;obtain⟨⟨⟨⟨⟨hs,ah⟩,hz⟩,b5⟩,b0⟩,a0⟩:=R;obtain⟨i,E,ab⟩:=Jpg hs;obtain⟨z,aq,b7,b6⟩:=J4x hz;have B:=JrK ah E;have W:=JuV aq E;have hm:c.args.map a.eval= #[a.eval x',a.eval y']:=by apply J9Q;simp[U]
     have ac:c.argTypes= #[t,ut]:=by apply J9Q;rw[a6]
     have av: ∀{q:Value} {w':World},(Builtin.append_ #[t,ut] o.type #[a.eval x',a.eval y']).run P s.w=.ok q w'->(execOp a.eval o).run P s.w=.ok (.value q) w':=by intro q w' hr;simp[execOp,ap,resolve,aa,hm,ac,invoke,builtin,hr]
     have V:=J0c he h1 hx;have ry:=J0c he h2 hy;unfold JC4 at D;split at D
     ·rename_i ay rows;obtain⟨add,h3,h4⟩:=bind_some D;clear D;split at h4
      ·rename_i T;obtain⟨rfl,b4,H⟩:=T;simp only[RM.run]at h4;injection h4 with h4;subst h4
       have H:(2*(rows.length+add.length)+512)*bytes<=281474976710656:=by simpa[J61]using H
       have aw:rows.length+add.length<=281474976710656:=by have h5:(2*(rows.length+add.length)+512)*1<=(2*(rows.length+add.length)+512)*bytes:=Nat.mul_le_mul_left _ a0;omega
       obtain⟨news,Y,G,S⟩:=JIE (u:=ut) hi h3 ry (Bool.or_eq_true_iff.1 ag);have O:=Src.gen (t:=t) (ty:=o.type) al hs E ab B W Y;have au:=O.newsLen;generalize ao:a.eval x'=zz at V;cases V with
       |p _ _ V=>
        cases V with
        |slc _ _ base A=>
         have a2:=J5z.of_sl A;obtain⟨ad,az,vs,hv,ax,n,Q,Z,C⟩:=a2.cells;injection hv with v1 v2 v3;subst v1 v3;have a1:rows.length<rows.length+add.length:=by omega
         have a5:Builtin.nextslicecap (rows.length+add.length) rows.length*i.bytes<=281474976710656:=by have h5:=nextslicecap_le a1;rw[B];have h6:Builtin.nextslicecap (rows.length+add.length) rows.length*bytes<=(2*(rows.length+add.length)+512)*bytes:=zQ7 _ (by omega);omega
         have a8:(Builtin.firstCells esz rows.length (.slice base rows.length rows.length)).run P s.w.drew=.ok vs.toArray s.w.drew:=by
          rcases Z with a3|⟨r,o',rfl,af⟩
          ·subst a3;simp at n;subst n;cases base with
           |none=>exact run_firstCells_none s.w.drew esz 0 0 0
           |some ad=>exact run_firstCells_some s.w.drew esz 0 ad 0 0 [] (by simp) (λj u h=>by simp at h)
          ·exact run_firstCells_some s.w.drew esz _ _ _ rows.length vs n (λj q hj=>by
            have:s.w.drew.cell? (Addr.add ⟨r,o',none⟩ j)=s.w.cell? (Addr.add ⟨r,o',none⟩ j):=by simp
            rw[this,J9q,J4I];exact af j q hj)
         have M:=O.grow base rows.length rows.length vs a8 a1 (by omega) (by rw[<-B];exact a5);have N:rows.length+add.length<=grownCap s.w (rows.length+add.length) rows.length el:=by unfold grownCap;simp[Question.cut]
         generalize grownCap s.w (rows.length+add.length) rows.length el=J at M N;have ae:z.cells.size=esz:=by omega
         obtain⟨i0,t0⟩:=JoB (w':=s.w.drew) hi rfl rfl rfl;have L:((vs++news).toArray++Builtin.zeroCells z.cells (J-(rows.length+add.length))).size=J*esz:=by
          have:J*esz=(rows.length+add.length)*esz+(J-(rows.length+add.length))*esz:=by rw[<-J3H];congr 1;omega
          rw[this,J3H];simp[size_zeroCells,n,au,ae]
         have hlen:(rows++add).length=rows.length+add.length:=J8q;obtain⟨g',i',t',r'⟩:=JjH (s0:=⟨s.σ,s.g,s.w.drew⟩) (new:=new) i0 hn (esz:=esz) (rows:=rows++add) (cap:=J) (w':=s.w.drew.alloc (.cells ((vs++news).toArray++Builtin.zeroCells z.cells (J-(rows.length+add.length))) el)) rfl rfl rfl
          (JeP.zero _ _)
          ⟨λrow hr=>(J1Q.1 hr).elim (C row) (G row),by rw[L,hlen];exact zQ7 _ N,λk m row q hk hq=>by
            have I:=Je hq;rcases Jbb hk with hk|⟨a4,hk⟩
            ·have K:=Je hk;rw[C row (J0F hk)]at I;have a7:=J5w K I;have ai:=Jpi C hk hq;obtain⟨w,hw,A⟩:=Q _ q ai;refine⟨w,?_,A.mono hi t0⟩;rw[Jox (by simp;omega)];simp;rw[J6Z (by omega)];exact hw
            ·rw[G row (J0F hk)]at I;have K:=Je hk;have a7:=J5w K I;obtain⟨w,hw,A⟩:=S _ m row q hk hq;have e4:k*esz+m=rows.length*esz+((k-rows.length)*esz+m):=by rw[<-Jbe,<-J3H,Nat.add_sub_cancel' a4]
             refine⟨w,?_,A.mono hi t0⟩;rw[Jox (by simp;omega)];simp;rw[J6Y (by omega),<-hw];congr 1;omega⟩ (by rw[hlen];exact N) (by rw[L];exact zQ0 _)
         rw[hlen]at r';exact J2e (e:=⟨.slr new 0 (rows.length+add.length),[(new,.arr true esz (rows++add))]⟩) (g':=g') (av (by rw[ao];exact M)) i' (t0.trans t') r'
      ·cases h4
     ·cases D
    ·cases R
   ·cases hc
  ·cases hc
 ·cases hc
end
end Go.Am
end
section
namespace Go.Am
theorem JqJ: ∀{k1 k2:List KD} {xs e:List PV} {r:Bool},J1w (k1++k2) xs e=some r->
  ∃j g,J1w k1 (xs.take k1.length) (e.take k1.length)=some j/\J1w k2 (xs.drop k1.length) (e.drop k1.length)=some g/\r=(j&&g)
 |[],k2,xs,e,r,h=>⟨true,r,by simp[J1w],by simpa using h,by simp⟩
 |k::k1,k2,xs,e,r,h=>by
  cases xs with
  |nil=>simp[J1w]at h
  |cons x xs=>
   cases e with
   |nil=>simp[J1w]at h
   |cons y e=>
    simp only[JdO,J1w]at h;split at h
    ·rename_i a c ha hc;injection h with h;subst h;obtain⟨j,g,h1,h2,h3⟩:=JqJ hc;exact⟨a&&j,g,by simp[J1w,ha,h1],by simpa using h2,by rw[h3,Bool.and_assoc]⟩
    ·cases h
theorem JjU: ∀{ks:List KD} {xs e:List PV} {r:Bool},J1w ks xs e=some r->xs.length=ks.length/\e.length=ks.length
 |[],xs,e,r,h=>by cases xs<;>cases e<;>simp[J1w]at h⊢
 |k::ks,xs,e,r,h=>by
  cases xs with
  |nil=>simp[J1w]at h
  |cons x xs=>
   cases e with
   |nil=>simp[J1w]at h
   |cons y e=>
    simp only[J1w]at h;split at h
    ·rename_i a c ha hc;obtain⟨h1,h2⟩:=JjU hc;simp[h1,h2]
    ·cases h
section
variable {P:Program} {F:Orc} {s:Sn} {a:Act} {env:List (Nat×AV)} {o:Oper} {new:Nat} {e:Eff}
def JKM(P:Program)(t:TypeId)(vs:List Value)(X:Value):Prop:=(agT P t=some true/\X=.agg vs.toArray)\/(agT P t=some false/\ ∃v,vs=[v]/\X=v)
theorem Jgv{t:TypeId}{n off:Nat}{cs:Array Value}(hs:szT P t=some n)(k:off+n<=cs.size)(g:(agT P t=some true)\/(agT P t=some false/\n=1))(w:World):
  ∃X,(part t cs off).run P w=.ok X w/\JKM P t ((cs.toList.drop off).take n) X:=by
 rcases g with h|⟨h,rfl⟩
 ·refine⟨.agg (cs.extract off (off+n)),by simp[part,Jd8 h,J2P hs],.inl ⟨h,?_⟩⟩
  congr 1
  apply J9Q;rw[Array.toList_extract];simp[List.extract]
 ·have e:off<cs.size:=by omega
  have j:cs[off]?=some cs[off]:=by simp[e]
  refine⟨cs[off],by simp[part,Jd8 h,j],.inr ⟨h,cs[off],?_,rfl⟩⟩;have:cs.toList.drop off=cs[off]::cs.toList.drop (off+1):=by rw[List.drop_eq_getElem_cons (by simpa using e)];simp
  rw[this];rfl
def Jck(s:Sn)(xs:List PV)(vs:List Value):Prop:=xs.length=vs.length/\ ∀(i:Nat) x v,xs[i]?=some x->vs[i]?=some v->J0p s.w s.g.C x v
theorem Jck.take{xs vs}(h:Jck s xs vs)(n:Nat):Jck s (xs.take n) (vs.take n):=
 ⟨by simp[h.1],λi x v hx hv=>by
   rw[Jdi]at hx hv;split at hx
   ·rename_i hi;rw[if_pos hi]at hv;exact h.2 i x v hx hv
   ·cases hx⟩
theorem Jck.drop{xs vs}(h:Jck s xs vs)(n:Nat):Jck s (xs.drop n) (vs.drop n):=
 ⟨by simp[h.1],λi x v hx hv=>by
   rw[J8v]at hx hv;exact h.2 _ x v hx hv⟩
def EqK(P:Program)(s:Sn)(d:Nat)(t:TypeId)(ks:List KD):Prop:= ∀(e:Nat) (w:World) (xs h:List PV) (vs g:List Value) (r:Bool) (X Y:Value),J1w ks xs h=some r->Jck s xs vs->Jck s h g->JKM P t vs X->JKM P t g Y->(Op.equalIn (d+e) t X Y).run P w=.ok r w
theorem JpX{d:Nat}{t:TypeId}{ks:List KD}(h:J9c P d t=some ks):agT P t=some true\/(agT P t=some false/\ks.length=1):=by
 cases d with
 |zero=>simp[J9c]at h
 |succ d=>
  unfold J9c at h;split at h<;>rename_i hu
  ·injection h with h;subst h;exact .inr ⟨by simp[agT,hu,Jea],rfl⟩
  ·injection h with h;subst h;exact .inr ⟨by simp[agT,hu,Jea],rfl⟩
  ·injection h with h;subst h;exact .inr ⟨by simp[agT,hu,Jea],rfl⟩
  ·exact .inl (by simp[agT,hu,Jea])
  ·exact .inl (by simp[agT,hu,Jea])
  ·cases h
theorem Jwr(d e:Nat)(B: ∀t ks,J9c P d t=some ks->EqK P s d t ks)(w:World){xs q:List PV}{vs o:List Value}(hx:Jck s xs vs)(hy:Jck s q o):
  ∀{fs:List Field} {off:Nat} {ks:List KD} {r:Bool},Jhi P (J9c P d) off fs=some ks->J1w ks (xs.drop off) (q.drop off)=some r->
   (Op.eqFields (d+e) vs.toArray o.toArray fs).run P w=.ok r w
 |[],off,ks,r,h,hc=>by
  simp[Jhi]at h;subst h;cases hxd:xs.drop off<;>cases hyd:q.drop off<;>simp[hxd,hyd,J1w]at hc;subst hc;simp[Op.eqFields]
 |f::fs,off,ks,r,h,hc=>by
  unfold Jhi at h;split at h
  ·cases h
  ·rename_i hn;have j:f.name≠ "_" :=λe=>hn (.inl e);have v:f.offset=off:=by
    by_cases h:f.offset=off
    ·exact h
    ·exact(hn (.inr h)).elim
   split at h
   ·cases h
   ·rename_i k1 k;split at h
    ·rename_i g;obtain⟨g,C⟩:=g;split at h
     ·rename_i k2 x;injection h with h;subst h;obtain⟨y,J,z,A,rfl⟩:=JqJ hc;obtain⟨F,G⟩:=JjU z;rw[J6W,J9m]at F G;rw[JjT,JjT]at A;have n:=JpX k;obtain⟨X,D,H⟩:=Jgv (P:=P) (cs:=vs.toArray) (off:=off) g (by have:=hx.1;simp;omega) n w;obtain⟨Y,I,E⟩:=Jgv (P:=P) (cs:=o.toArray) (off:=off) g (by have:=hy.1;simp;omega) n w;have he:=B f.type k1 k e w _ _ _ _ y X Y z ((hx.drop off).take _) ((hy.drop off).take _) (by simpa using H) (by simpa using E);have ih:=Jwr d e B w hx hy x A;simp only[Op.eqFields];rw[if_pos j];simp only[J5i,v,D,I,he,J59,Sem.run_ite];cases y
      ·simp
      ·simp[ih]
     ·cases h
    ·cases h
theorem JA0(d e:Nat){t:TypeId}{ks:List KD}(x:EqK P s d t ks)(hk:J9c P d t=some ks)(g:szT P t=some ks.length)(j:0<ks.length)(w:World){xs n:List PV}{vs k:List Value}(hx:Jck s xs vs)(hy:Jck s n k):
  ∀{m i:Nat} {r:Bool},J1w (List.replicate m ks).flatten (xs.drop (i*ks.length)) (n.drop (i*ks.length))=some r->
   (Op.eqItems (d+e) t ks.length vs.toArray k.toArray (List.range' i m)).run P w=.ok r w
 |0,i,r,hc=>by
  simp only[List.replicate_zero,List.flatten_nil]at hc;cases hxd:xs.drop (i*ks.length)<;>cases hyd:n.drop (i*ks.length)<;>simp[hxd,hyd,J1w]at hc;subst hc;simp[Op.eqItems]
 |m+1,i,r,hc=>by
  rw[List.replicate_succ,J8u]at hc;obtain⟨o,A,q,v,rfl⟩:=JqJ hc;obtain⟨B,C⟩:=JjU q;rw[J6W,J9m]at B C;rw[JjT,JjT]at v;have h:=JpX hk;obtain⟨X,y,D⟩:=Jgv (P:=P) (cs:=vs.toArray) (off:=i*ks.length) g (by have:=hx.1;simp;omega) h w;obtain⟨Y,E,z⟩:=Jgv (P:=P) (cs:=k.toArray) (off:=i*ks.length) g (by have:=hy.1;simp;omega) h w;have he:=x e w _ _ _ _ o X Y q ((hx.drop _).take _) ((hy.drop _).take _) (by simpa using D) (by simpa using z);have ih:=JA0 d e x hk g j w hx hy (m:=m) (i:=i+1) (r:=A) (by
   have:(i+1)*ks.length=i*ks.length+ks.length:=by rw[J3H,Jrg]
   rw[this];exact v)
  rw[List.range'_succ];simp only[Op.eqItems,J5i,y,E,he,J59,Sem.run_ite];cases o
  ·simp
  ·simp[ih]
theorem eqK: ∀(d:Nat) (t:TypeId) (ks:List KD),J9c P d t=some ks->EqK P s d t ks
 |0,t,ks,h=>by simp[J9c]at h
 |d+1,t,ks,h=>by
  intro e w xs M vs N r X Y hc hx hy J I;have L:d+1+e=(d+e)+1:=by omega
  rw[L];have hl:=JjU hc;unfold J9c at h;have z: ∀{k:KD},agT P t=some false->ks=[k]-> ∃x y,xs=[x]/\M=[y]/\Jk6 k x y=some r/\J0p s.w s.g.C x X/\J0p s.w s.g.C y Y:=by
   rintro k q rfl;obtain⟨x,rfl⟩:=JH5.1 hl.1;obtain⟨y,rfl⟩:=JH5.1 hl.2;rcases J with⟨j,_⟩|⟨_,v,rfl,rfl⟩
   ·rw[q]at j;cases j
   ·rcases I with⟨j,_⟩|⟨_,u,rfl,rfl⟩
    ·rw[q]at j;cases j
    ·refine⟨x,y,rfl,rfl,?_,hx.2 0 x _ rfl rfl,hy.2 0 y _ rfl rfl⟩;simp only[J1w]at hc;cases o:Jk6 k x y with
     |none=>simp[o]at hc
     |some b=>simp[o]at hc;rw[hc]
  split at h<;>rename_i hu
  ·injection h with h;subst h;obtain⟨x,y,rfl,rfl,o,B,D⟩:=z (by simp[agT,hu,Jea]) rfl;cases B<;>cases D<;>simp only[Jk6]at o<;>try (cases o;done)
   injection o with o;subst o;rw[run_equalIn_bool w (d+e) t _ _ hu]
  ·injection h with h;subst h;obtain⟨x,y,rfl,rfl,o,B,D⟩:=z (by simp[agT,hu,Jea]) rfl;cases B<;>cases D<;>simp only[Jk6]at o<;>try (cases o;done)
   split at o
   ·rename_i hk;obtain⟨rfl,rfl⟩:=hk;injection o with o;subst o;rw[run_equalIn_int w (d+e) t _ _ _ _ hu]
   ·cases o
  ·injection h with h;subst h;obtain⟨x,y,rfl,rfl,o,B,D⟩:=z (by simp[agT,hu,Jea]) rfl;cases B<;>cases D<;>simp only[Jk6]at o<;>try (cases o;done)
   injection o with o;subst o;rw[run_equalIn_string w (d+e) t _ _ hu,Jwv,Jwv]
  ·rename_i fs;split at h
   ·cases h
   ·rename_i K;have q:agT P t=some true:=by simp[agT,hu,Jea]
    rcases J with⟨_,rfl⟩|⟨j,_⟩
    ·rcases I with⟨_,rfl⟩|⟨j,_⟩
     ·have G:P.fieldsOf t=fs:=by simp[Program.fieldsOf,hu]
      rw[run_equalIn_struct w (d+e) t _ _ (by rw[G];exact hu) (by simpa using K),G];exact Jwr d e (λt ks hk=>eqK d t ks hk) w hx hy h (by simpa using hc)
     ·rw[q]at j;cases j
    ·rw[q]at j;cases j
  ·rename_i n el;split at h
   ·rename_i k1 F;split at h
    ·rename_i A;injection h with h;subst h;have q:agT P t=some true:=by simp[agT,hu,Jea]
     rcases J with⟨_,rfl⟩|⟨j,_⟩
     ·rcases I with⟨_,rfl⟩|⟨j,_⟩
      ·obtain⟨i,hi,H⟩:=Jpg A.1;have E:P.cellsOf el=k1.length:=by simp[Program.cellsOf,hi,H]
       rw[run_equalIn_array w (d+e) _ _ hu hi,E,List.range_eq_range'];exact JA0 d e (eqK d el k1 F) F A.1 A.2 w hx hy (i:=0) (by simpa using hc)
      ·rw[q]at j;cases j
     ·rw[q]at j;cases j
    ·cases h
   ·cases h
  ·cases h
theorem JF3(hi:Inv s)(he:J0m s a.tmps env){op ks x y}(h:(opR F (.bin op (.flat ks) x y) new).run ⟨env,s.σ⟩=some e)(hc:JX P (.bin op (.flat ks) x y) o.op=true):J16 P o a s e:=by
 simp only[opR]at h;obtain⟨u,h1,E⟩:=bind_some h;obtain⟨v,h2,z⟩:=bind_some E;obtain⟨r,h3,rfl⟩:=J20 z;clear h E z;unfold JX at hc;simp only at hc;split at hc
 ·rename_i N t B A ty D;simp only[JY,beq_iff_eq]at hc;obtain⟨⟨rfl,hx⟩,⟨⟨hy,hk⟩,k⟩,L⟩:=hc;have G:=J0c he h1 hx;have I:=J0c he h2 hy;generalize H:a.eval B=Q at G;generalize J:a.eval A=O at I;simp only[Jcf]at h3;split at h3
  ·rename_i p q;cases G with
   |data _ vs M K=>
    cases I with
    |data _ j q1 q2=>
     have hb: ∃b,J1w ks p q=some b:=by
      cases hcm:J1w ks p q with
      |none=>rw[hcm]at h3;cases op<;>simp[J8m]at h3
      |some b=>exact⟨b,rfl⟩
     obtain⟨b,hb⟩:=hb;rw[hb]at h3;obtain⟨ho,rfl⟩:=J5J h3;have g:(eqGuard op t B A (.agg vs) (.agg j)).run P s.w=.ok () s.w:=run_eqGuard_agg s.w op t B A vs j (by simpa using L);have n:=eqK (P:=P) (s:=s) 100 t ks hk 9900 s.w p q vs.toList j.toList b (.agg vs) (.agg j) hb ⟨by simpa using M,λi x v hx hv=>K i x v hx (by simpa using hv)⟩ ⟨by simpa using q1,λi x v hx hv=>q2 i x v hx (by simpa using hv)⟩ (.inl ⟨k,by simp⟩) (.inl ⟨k,by simp⟩);have C:(binOp op t (.agg vs) (.agg j)).run P s.w=.ok (.bool (if op=.eql then b else !b)) s.w:=by
      rcases ho with rfl|rfl
      ·rw[run_eql_struct];rw[show(10000:Nat)=100+9900 from rfl,n];rfl
      ·rw[run_neq_struct];rw[show(10000:Nat)=100+9900 from rfl,n];rfl
     exact JD hi (by simp only[execOp,D,H,J];simp only[J5i,g,J59,C,J9k]) (J5n _)
  ·cases h3
 ·cases hc
end
end Go.Am
end
section
namespace Go.Am
def get(s:St):Loc->Option (AV⊕Blk)
 | .slot n=>(lk n s.env).map .inl
 | .blk b=>(s.sto[b]?).map .inr
theorem JJe{α:Type}(m:RM α)(s s':St)(h: ∀l∈m.reads s,get s' l=get s l):m.run s'=m.run s:=by
 induction m with
 |ret a=>rfl
 |slot n k ih=>
  have e:=h (.slot n) (by simp[RM.reads]);have e:lk n s'.env=lk n s.env:=by simp only[get]at e;cases h1:lk n s'.env<;>cases h2:lk n s.env<;>simp_all
  simp only[RM.run,e];split
  ·rename_i v hv;exact ih v λl hl=>h l (by simp[RM.reads,hv,hl])
  ·rfl
 |blk b k ih=>
  have e:=h (.blk b) (by simp[RM.reads]);have e:s'.sto[b]?=s.sto[b]?:=by simp only[get]at e;cases h1:s'.sto[b]?<;>cases h2:s.sto[b]?<;>simp_all
  simp only[RM.run,e];split
  ·rename_i v hv;exact ih v λl hl=>h l (by simp[RM.reads,hv,hl])
  ·rfl
 |fail=>rfl
theorem J5y{b:Nat}: ∀{ws:List (Nat×Blk)},b∉ws.map (·.1)->J4E b ws=none
 |[],_=>rfl
 |(c,x)::r,h=>by
  simp at h;simp only[J4E];rw[J5y (by simpa using h.2)];simp;exact λe=>h.1 e.symm
theorem Jsg{b:Nat}: ∀{ws:List (Nat×Blk)},b∈ws.map (·.1)-> ∃y,J4E b ws=some y
 |[],h=>by simp at h
 |(c,x)::r,h=>by
  simp only[J4E];by_cases hr:b∈r.map (·.1)
  ·obtain⟨y,hy⟩:=Jsg hr;exact⟨y,by rw[hy]⟩
  ·rw[J5y hr];simp only[J0I,J2A]at h;rcases h with h|h
   ·exact⟨x,by simp[h]⟩
   ·exact absurd h hr
theorem Jbl: ∀(ws:List (Nat×Blk)) (σ:List Blk),(upd ws σ).length=σ.length
 |[],_=>rfl
 |y::ws,σ=>by show(upd ws (σ.set y.1 y.2)).length=_;rw[Jbl ws];simp
theorem J9I: ∀(ws:List (Nat×Blk)) (σ:List Blk) (b:Nat),b<σ.length->(upd ws σ)[b]?=match J4E b ws with
  |some y=>some y
  |none=>σ[b]?
 |[],σ,b,_=>rfl
 |(c,x)::ws,σ,b,h=>by
  show(upd ws (σ.set c x))[b]?=_;rw[J9I ws (σ.set c x) b (by simpa using h)];simp only[J4E];cases hl:J4E b ws with
  |some y=>rfl
  |none=>
   by_cases hc:c=b
   ·subst hc;simp[h]
   ·simp[hc]
structure Run(F:Orc)(ins:List J1l)(new:Nat->Nat)(S:Nat->St)(eff:Nat->Eff):Prop where
 step: ∀k i,ins[k]?=some i->(J1j F i (new k)).run (S k)=some (eff k)/\S (k+1)=put i.dst (eff k) (S k)
structure JzR(F:Orc)(ins:List J1l)(new:Nat->Nat)(S:Nat->St)(eff:Nat->Eff)(i j:Nat):Prop where
 slotW: ∀x y m,ins[i]?=some x->ins[j]?=some y->x.dst=some m->y.dst≠some m/\Loc.slot m∉(J1j F y (new j)).reads (S j)
 slotR: ∀x y m,ins[i]?=some x->ins[j]?=some y->y.dst=some m->Loc.slot m∉(J1j F x (new i)).reads (S i)
 blkW: ∀y b,ins[j]?=some y->b∈(eff i).ws.map (·.1)->b∉(eff j).ws.map (·.1)/\Loc.blk b∉(J1j F y (new j)).reads (S j)
 blkR: ∀x b,ins[i]?=some x->b∈(eff j).ws.map (·.1)->Loc.blk b∉(J1j F x (new i)).reads (S i)
section
variable {F:Orc} {ins:List J1l} {new:Nat->Nat} {S:Nat->St} {eff:Nat->Eff}
def J9W(ins:List J1l)(k:Nat):Option Nat:=(ins[k]?).bind (·.dst)
def Jay(ins:List J1l)(eff:Nat->Eff)(s0:St)(D:Nat->Bool):Nat->Nat->Option AV
 |0,m=>lk m s0.env
 |k+1,m=>if D k=true/\J9W ins k=some m then some (eff k).val else Jay ins eff s0 D k m
def Jce(eff:Nat->Eff)(s0:St)(D:Nat->Bool):Nat->Nat->Option Blk
 |0,b=>s0.sto[b]?
 |k+1,b=>if D k=true then(match J4E b (eff k).ws with
   |some y=>some y
   |none=>Jce eff s0 D k b)else Jce eff s0 D k b
structure JsO(ins:List J1l)(eff:Nat->Eff)(s0:St)(D:Nat->Bool)(s:St):Prop where
 slot: ∀m,lk m s.env=Jay ins eff s0 D ins.length m
 len:s.sto.length=s0.sto.length
 blk: ∀b,b<s0.sto.length->s.sto[b]?=Jce eff s0 D ins.length b
theorem Jpo(hr:Run F ins new S eff): ∀k,k<=ins.length->(S k).sto.length=(S 0).sto.length
 |0,_=>rfl
 |k+1,h=>by
  have hk:ins[k]?=some ins[k]:=JF (by omega);obtain⟨_,h2⟩:=hr.step k _ hk;rw[h2,<-Jpo hr k (by omega)];unfold put;split<;>simp[Jbl]
theorem Jok(hr:Run F ins new S eff)(D:Nat->Bool): ∀k,k<=ins.length->(∀j,j<k->D j=true)-> ∀m,Jay ins eff (S 0) D k m=lk m (S k).env
 |0,_,_,m=>rfl
 |k+1,h,hD,m=>by
  have hk:ins[k]?=some ins[k]:=JF (by omega);obtain⟨_,h2⟩:=hr.step k _ hk;simp only[Jay];rw[Jok hr D k (by omega) (λj hj=>hD j (by omega)) m,h2];have hd:J9W ins k=ins[k].dst:=by simp[J9W,hk]
  rw[hd];unfold put;cases hdk:ins[k].dst with
  |none=>simp
  |some d=>
   simp only[lk];by_cases hm:m=d
   ·subst hm;simp[hD k (by omega)]
   ·simp[hm,Ne.symm hm]
theorem JrN(hr:Run F ins new S eff)(D:Nat->Bool): ∀k,k<=ins.length->(∀j,j<k->D j=true)-> ∀b,b<(S 0).sto.length->Jce eff (S 0) D k b=(S k).sto[b]?
 |0,_,_,b,_=>rfl
 |k+1,h,hD,b,hb=>by
  have hk:ins[k]?=some ins[k]:=JF (by omega);obtain⟨_,h2⟩:=hr.step k _ hk;simp only[Jce];rw[JrN hr D k (by omega) (λj hj=>hD j (by omega)) b hb,h2,if_pos (hD k (by omega))];have:(put ins[k].dst (eff k) (S k)).sto=upd (eff k).ws (S k).sto:=by unfold put;split<;>rfl
  rw[this,J9I _ _ _ (by rw[Jpo hr k (by omega)];exact hb)]
theorem Jjv{s0:St}{D D':Nat->Bool}{m:Nat}: ∀n,(∀j,j<n->J9W ins j=some m->D j=D' j)->Jay ins eff s0 D n m=Jay ins eff s0 D' n m
 |0,_=>rfl
 |n+1,h=>by
  simp only[Jay];rw[Jjv n λj hj=>h j (by omega)];by_cases hd:J9W ins n=some m
  ·rw[h n (by omega) hd]
  ·simp[hd]
theorem JmP{s0:St}{D D':Nat->Bool}{b:Nat}: ∀n,(∀j,j<n->b∈(eff j).ws.map (·.1)->D j=D' j)->Jce eff s0 D n b=Jce eff s0 D' n b
 |0,_=>rfl
 |n+1,h=>by
  simp only[Jce];rw[JmP n λj hj=>h j (by omega)];by_cases hd:b∈(eff n).ws.map (·.1)
  ·rw[h n (by omega) hd]
  ·rw[J5y hd];simp
theorem Jgg{s0:St}{D:Nat->Bool}{m k:Nat}: ∀n,k<=n->(∀j,k<=j->j<n->J9W ins j=some m->D j=false)->Jay ins eff s0 D n m=Jay ins eff s0 D k m
 |0,h,_=>by have:k=0:=by omega
            subst this;rfl
 |n+1,h,hD=>by
  by_cases hk:k=n+1
  ·subst hk;rfl
  ·simp only[Jay];rw[Jgg n (by omega) λj h1 h2=>hD j h1 (by omega)];by_cases hd:J9W ins n=some m
   ·rw[hD n (by omega) (by omega) hd];simp
   ·simp[hd]
theorem Jk9{s0:St}{D:Nat->Bool}{b k:Nat}: ∀n,k<=n->(∀j,k<=j->j<n->b∈(eff j).ws.map (·.1)->D j=false)->Jce eff s0 D n b=Jce eff s0 D k b
 |0,h,_=>by have:k=0:=by omega
            subst this;rfl
 |n+1,h,hD=>by
  by_cases hk:k=n+1
  ·subst hk;rfl
  ·simp only[Jce];rw[Jk9 n (by omega) λj h1 h2=>hD j h1 (by omega)];by_cases hd:b∈(eff n).ws.map (·.1)
   ·rw[hD n (by omega) (by omega) hd];simp
   ·rw[J5y hd];simp
theorem JL6(hr:Run F ins new S eff){D:Nat->Bool}{s:St}(ha:JsO ins eff (S 0) D s){k:Nat}{i:J1l}(hk:ins[k]?=some i)(x:D k=false)
  (v: ∀j,j<k->D j=false->JzR F ins new S eff j k) (q: ∀j,k<j->j<ins.length->D j=true->JzR F ins new S eff k j):
  (J1j F i (new k)).run s=some (eff k)/\JsO ins eff (S 0) (λj=>if j=k then true else D j) (put i.dst (eff k) s):=by
 have A:k<ins.length:=by
  rcases zQ1 k ins.length with h|h
  ·exact h
  ·simp[zQ3 h]at hk
 have o: ∀j,j<ins.length->ins[j]?=some ins[j]! :=λj hj=>by simp[hj]
 have r: ∀j,j<ins.length->J9W ins j=ins[j]!.dst:=λj hj=>by simp[J9W,hj]
 obtain⟨h1,h2⟩:=hr.step k i hk;have hdk:J9W ins k=i.dst:=by simp[J9W,hk]
 let T:Nat->Bool:=λ_=>true
 have reads: ∀l∈(J1j F i (new k)).reads (S k),get s l=get (S k) l:=by
  intro l hl;cases l with
  |slot m=>
   simp only[get];rw[ha.slot m]
   congr 1
   rw[Jgg ins.length (k:=k) (by omega) λj w g hd=>?_]
   ·rw[Jjv (D':=T) k λj hj hd=>?_,Jok hr T k (by omega) (λ_ _=>rfl) m];cases hDj:D j with
    |true=>rfl
    |false=>
     have:=(v j hj hDj).slotW _ i m (o j (by omega)) hk (by rw[<-r j (by omega)];exact hd);exact absurd hl this.2
   ·by_cases n:j=k
    ·subst n;exact x
    ·cases hDj:D j with
     |false=>rfl
     |true=>
      have:=(q j (by omega) g hDj).slotR i _ m hk (o j g) (by rw[<-r j g];exact hd);exact absurd hl this
  |blk b=>
   simp only[get];by_cases hb:b<(S 0).sto.length
   ·rw[ha.blk b hb]
    congr 1
    rw[Jk9 ins.length (k:=k) (by omega) λj w g hd=>?_]
    ·rw[JmP (D':=T) k λj hj hd=>?_,JrN hr T k (by omega) (λ_ _=>rfl) b hb];cases hDj:D j with
     |true=>rfl
     |false=>exact absurd hl ((v j hj hDj).blkW i b hk hd).2
    ·by_cases n:j=k
     ·subst n;exact x
     ·cases hDj:D j with
      |false=>rfl
      |true=>exact absurd hl ((q j (by omega) g hDj).blkR i b hk hd)
   ·rw[zQ3 (by have:=ha.len;omega),zQ3 (by have:=Jpo hr k (by omega);omega)]
 refine⟨by rw[JJe _ (S k) s reads,h1],?_,?_,?_⟩
 ·intro m;have z:lk m (put i.dst (eff k) s).env=if i.dst=some m then some (eff k).val else lk m s.env:=by
   unfold put;cases i.dst with
   |none=>simp
   |some d=>simp only[lk];by_cases hm:m=d<;>simp[hm,Ne.symm]<;>exact λe=>absurd e.symm hm
  rw[z,ha.slot m];by_cases hm:i.dst=some m
  ·rw[if_pos hm];rw[Jgg ins.length (k:=k+1) (by omega) λj w g hd=>?_]
   ·simp only[Jay];simp[hdk,hm]
   ·have n:j≠k:=by omega
    simp only[if_neg n];cases hDj:D j with
    |false=>rfl
    |true=>
     have:=(q j (by omega) g hDj).slotW i _ m hk (o j g) hm;exact absurd (by rw[<-r j g];exact hd) this.1
  ·rw[if_neg hm];refine Jjv _ λj hj hd=>?_;have n:j≠k:=by rintro rfl;rw[hdk]at hd;exact hm hd
   simp[n]
 ·have:(put i.dst (eff k) s).sto=upd (eff k).ws s.sto:=by unfold put;split<;>rfl
  rw[this,Jbl,ha.len]
 ·intro b hb;have:(put i.dst (eff k) s).sto=upd (eff k).ws s.sto:=by unfold put;split<;>rfl
  rw[this,J9I _ _ _ (by rw[ha.len];exact hb),ha.blk b hb];by_cases hw:b∈(eff k).ws.map (·.1)
  ·obtain⟨y,hy⟩:=Jsg hw;simp only[hy];rw[Jk9 (D:=λj=>if j=k then true else D j) ins.length (k:=k+1) (by omega) λj w g hd=>?_]
   ·simp only[Jce];simp[hy]
   ·have n:j≠k:=by omega
    simp only[if_neg n];cases hDj:D j with
    |false=>rfl
    |true=>exact absurd hd ((q j (by omega) g hDj).blkW _ b (o j g) hw).1
  ·rw[J5y hw];refine JmP _ λj hj hd=>?_;have n:j≠k:=by rintro rfl;exact hw hd
   simp[n]
theorem JEW:JsO ins eff (S 0) (λ_=>false) (S 0):=by
 refine⟨λm=>?_,rfl,λb _=>?_⟩
 ·rw[Jgg ins.length (k:=0) (zQ5 _) λ_ _ _ _=>rfl];rfl
 ·rw[Jk9 ins.length (k:=0) (zQ5 _) λ_ _ _ _=>rfl];rfl
theorem JIO(hr:Run F ins new S eff){D:Nat->Bool}{s:St}(ha:JsO ins eff (S 0) D s)(hD: ∀j,j<ins.length->D j=true):
  (∀m,lk m s.env=lk m (S ins.length).env)/\s.sto=(S ins.length).sto:=by
 refine⟨λm=>by rw[ha.slot m,Jok hr D _ (zQ0 _) hD m],JmG λb=>?_⟩;by_cases hb:b<(S 0).sto.length
 ·rw[ha.blk b hb,JrN hr D _ (zQ0 _) hD b hb]
 ·rw[zQ3 (by have:=ha.len;omega),zQ3 (by have:=Jpo hr _ (zQ0 _);omega)]
end
end Go.Am
end
section
namespace Go.Am
def oSl:Opd->List Nat
 | .t n=>[n]
 | .c _=>[]
def J6X:List Opd->List Nat
 |[]=>[]
 |x::r=>oSl x++J6X r
def JGv:Option Opd->List Nat
 |none=>[]
 |some x=>oSl x
def J0Q:AOp->List Nat
 | .mv x| .box _ x| .appn _ _ _ x| .load _ _ x| .nilchk x| .un _ x| .conv _ x| .faddr _ x| .field _ _ _ x| .extr x _| .len _ x=>oSl x
 | .mkarr _ _| .newbox _| .alen _=>[]
 | .pick c a b=>oSl c++(oSl a++oSl b)
 | .build _ parts=>J6X (parts.map (·.2.2))
 | .lits _ _ _ _ parts=>J6X (parts.map (·.2))
 | .store _ x v=>oSl x++oSl v
 | .bin _ _ x y| .iaddr _ x y| .aaddr _ _ x y| .sidx x y| .aidx _ _ _ x y| .app _ _ _ x y| .appz _ _ _ x y| .appc _ _ _ x y| .mm _ x y| .mkslice _ _ _ _ x y=>oSl x++oSl y
 | .slice _ x lo hi mx=>oSl x++(JGv lo++(JGv hi++JGv mx))
 | .call _ args _=>J6X args
 | .callv g args _=>oSl g++J6X args
 | .mkfn _ a b=>J6X a++J6X b
 | .newboxo _ _=>[]
 | .buildo _ parts _=>J6X (parts.map (·.2.2))
 | .storen _ x=>oSl x
 | .callo _ _ args _=>J6X args
def J7q(i:J1l):List Nat:=J0Q i.op++match i.g with
 |some (g,_)=>[g]
 |none=>[]
def Jrf:AOp->Bool
 | .mkarr _ _| .newbox _| .box _ _| .lits _ _ _ _ _| .store _ _ _| .conv (.toBytes _) _| .mkslice _ _ _ _ _ _| .slice (.sl _) _ _ _ _| .call _ _ _| .callv _ _ _| .app _ _ _ _ _| .appz _ _ _ _ _| .appc _ _ _ _ _| .appn _ _ _ _| .newboxo _ _| .buildo _ _ _| .storen _ _| .callo _ _ _ _=>true
 |_=>false
def JCg:AOp->Bool
 | .load _ _ _| .iaddr _ _ _| .conv .toStr _=>true
 |op=>Jrf op
def Sl{α:Type}(L:List Nat)(m:RM α):Prop:= ∀s n,Loc.slot n∈m.reads s->n∈L
section
variable {α β:Type} {L:List Nat}
theorem JQ(a:α):Sl L (.ret a):=λs n h=>by simp[RM.reads]at h
theorem Jv:Sl L (.fail:RM α):=λs n h=>by simp[RM.reads]at h
theorem J7j{b:Nat}{k:Blk->RM α}(h: ∀v,Sl L (k v)):Sl L (.blk b k):=λs n hn=>by
 simp only[RM.reads,J2A]at hn;rcases hn with hn|hn
 ·cases hn
 ·split at hn
  ·exact h _ s n hn
  ·simp at hn
theorem JGl{m:Nat}{k:AV->RM α}(hm:m∈L)(h: ∀v,Sl L (k v)):Sl L (.slot m k):=λs n hn=>by
 simp only[RM.reads,J2A]at hn;rcases hn with hn|hn
 ·cases hn;exact hm
 ·split at hn
  ·exact h _ s n hn
  ·simp at hn
theorem Jr{m:RM α}{f:α->RM β}(h:Sl L m)(hf: ∀a,Sl L (f a)):Sl L (m.bind f):=λs n hn=>by
 rw[J5t,J1Q]at hn;rcases hn with hn|hn
 ·exact h s n hn
 ·cases hr:m.run s with
  |none=>simp[hr]at hn
  |some a=>simp[hr]at hn;exact hf a s n hn
theorem JMR{L':List Nat}{m:RM α}(h:Sl L m)(hl: ∀x∈L,x∈L'):Sl L' m:=λs n hn=>hl n (h s n hn)
theorem J1O{c:Prop} [Decidable c]{x y:RM α}(hx:Sl L x)(hy:Sl L y):Sl L (if c then x else y):=by split<;>assumption
end
theorem J17{L:List Nat}(x:Opd)(h: ∀n∈oSl x,n∈L):Sl L (ev x):=by
 cases x with
 |t n=>exact JGl (h n (by simp[oSl])) λv=>JQ v
 |c v=>exact JQ v
theorem Jid{L:List Nat}: ∀(xs:List Opd),(∀n∈J6X xs,n∈L)->Sl L (evs xs)
 |[],_=>JQ _
 |x::xs,h=>Jr (J17 x λn hn=>h n (by simp[J6X,hn])) λv=>Jr (Jid xs λn hn=>h n (by simp[J6X,hn])) λvs=>JQ _
theorem JCt{L:List Nat}(x:Option Opd)(h: ∀n∈JGv x,n∈L):Sl L (evo x):=by
 cases x with
 |none=>exact JQ _
 |some x=>exact Jr (J17 x h) λv=>JQ _
theorem J5B{L:List Nat}(x:Option AV):Sl L (val x):=by cases x<;>first|exact Jv|exact JQ _
theorem JO7{L:List Nat}(x:AV):Sl L (fz.fz1 x):=by
 cases x<;>try exact Jv
 ·exact JQ _
 ·refine J7j λv=>?_;cases v<;>first|exact Jv|exact J1O (JQ _) Jv
theorem JJ1{L:List Nat}: ∀(xs:List AV),Sl L (fz.fzL xs)
 |[]=>JQ _
 |x::xs=>Jr (JO7 x) λ_=>Jr (JJ1 xs) λ_=>JQ _
theorem JsU{L:List Nat}(x:AV):Sl L (fz x):=by
 cases x<;>try first|exact Jv|exact JQ _
 ·exact JJ1 _
 ·refine J7j λv=>?_;cases v<;>first|exact Jv|exact J1O (JQ _) Jv
theorem JJl{L:List Nat}: ∀(xs:List Opd),(∀n∈J6X xs,n∈L)->Sl L (fzs xs)
 |[],_=>JQ _
 |x::xs,h=>Jr (J17 x λn hn=>h n (by simp[J6X,hn])) λv=>Jr (JsU v) λ_=>Jr (JJl xs λn hn=>h n (by simp[J6X,hn])) λ_=>JQ _
theorem Jf7{L:List Nat}(esz:Nat)(x:AV):Sl L (J2w esz x):=by
 unfold J2w;split
 ·exact J1O (JQ _) Jv
 ·exact J1O (JQ _) Jv
 ·refine J7j λv=>?_;cases v<;>first|exact Jv|exact J1O (JQ _) Jv
 ·exact Jv
theorem JJW{L:List Nat}(agg:Bool)(size:Nat)(x:AV):Sl L (J43 agg size x):=by
 unfold J43;split
 ·split
  ·exact J5B _
  ·exact Jv
 ·refine J7j λv=>?_;cases v<;>try exact Jv
  dsimp only;split
  ·exact J5B _
  ·exact Jv
 ·refine J7j λv=>?_;cases v<;>try exact Jv
  dsimp only;refine J1O ?_ Jv;split
  ·split
   ·exact J5B _
   ·exact Jv
  ·exact Jv
 ·exact Jv
theorem Jwy{L:List Nat}(size:Nat)(x v:AV):Sl L (J3A size x v):=by
 unfold J3A;split
 ·refine J7j λv=>?_;cases v<;>try exact Jv
  dsimp only;split
  ·refine J1O ?_ Jv;split
   ·exact JQ _
   ·exact Jv
  ·exact Jv
 ·refine J7j λv=>?_;cases v with
  |arr w esz rows=>
   cases w
   ·exact Jv
   ·dsimp only;refine J1O ?_ Jv;split
    ·refine Jr (JsU _) λ_=>J1O ?_ Jv;split
     ·exact JQ _
     ·exact Jv
    ·exact Jv
  |_=>exact Jv
 ·exact Jv
theorem JIH{L:List Nat}(esz:Nat)(x i:AV):Sl L (J6d esz x i):=by
 unfold J6d;split
 ·refine J1O ?_ Jv;split
  ·exact JQ _
  ·exact Jv
 ·refine J7j λv=>?_;cases v<;>first|exact Jv|exact J1O (JQ _) Jv
 ·exact Jv
theorem JG3{L:List Nat}(esz bytes:Nat)(x y:AV):Sl L (J7u esz bytes x y):=by
 unfold J7u;split
 ·refine J7j λv=>?_;cases v<;>try exact Jv
  exact Jr (Jf7 _ _) λ_=>J1O (JQ _) Jv
 ·exact Jv
theorem Jpr{L:List Nat}(ws:List (Nat×Blk))(b:Nat):Sl L (Jgz ws b):=
 J7j λv=>by split<;>exact JQ _
theorem Jd7{L:List Nat}(ws:List (Nat×Blk)): ∀(es acc:List Ent),Sl L (J3M ws es acc)
 |[],acc=>JQ _
 | .whole b::r,acc=>Jr (Jpr ws b) λv=>by cases v<;>exact Jd7 ws r _
 | .elem b e i::r,acc=>Jd7 ws r acc
theorem Jvr{L:List Nat}(x:AV):Sl L (J8w x):=by
 cases x<;>try first|exact Jv|exact JQ _
 ·exact Jr (JsU _) λ_=>JQ _
 ·refine Jr (JsU _) λa=>?_;split
  ·exact JQ _
  ·exact Jv
theorem JAc{L:List Nat}: ∀(xs:List AV),Sl L (J6A xs)
 |[]=>JQ _
 |x::xs=>Jr (Jvr x) λ_=>Jr (JAc xs) λ_=>JQ _
theorem JLl{L:List Nat}(ws:List (Nat×Blk))(ρ:Ent->Option Nat)(e:Ent):Sl L (Jk3 ws ρ e):=by
 cases e with
 |whole b=>
  refine Jr (Jpr ws b) λv=>?_;cases v
  ·exact Jv
  ·dsimp only;split
   ·exact JQ _
   ·exact Jv
  ·exact JQ _
 |elem b e i=>
  refine Jr (Jpr ws b) λv=>?_;cases v with
  |arr w esz rows=>
   cases w
   ·exact Jv
   ·dsimp only;refine J1O ?_ Jv;split
    ·exact JQ _
    ·exact Jv
  |_=>exact Jv
theorem Job{L:List Nat}(ws:List (Nat×Blk))(ρ:Ent->Option Nat): ∀(es:List Ent),Sl L (J4P ws ρ es)
 |[]=>JQ _
 |e::r=>Jr (JLl ws ρ e) λ_=>Jr (Job ws ρ r) λ_=>JQ _
theorem JIJ{L:List Nat}(ws:List (Nat×Blk))(es:List Ent)(new:Nat)(e:Ent)(x:Blk):Sl L (J7t ws es new e x):=by
 unfold J7t;split
 ·split
  ·exact JQ _
  ·exact Jv
 ·exact JQ _
 ·refine Jr (Jpr ws _) λv=>?_;cases v<;>try exact Jv
  dsimp only;split
  ·exact JQ _
  ·exact Jv
 ·exact Jv
theorem Jjz{L:List Nat}(ws:List (Nat×Blk))(es:List Ent)(new:Nat): ∀(e:List Ent) (x:List Blk),Sl L (J39 ws es new e x)
 |[],_=>JQ _
 |_::_,[]=>Jv
 |e::r,x::l=>Jr (JIJ ws es new e x) λ_=>Jr (Jjz ws es new r l) λ_=>JQ _
theorem JDg{L:List Nat}(F:Orc)(f:FuncId)(args:List AV)(k new:Nat):Sl L (J5b F f args k new):=by
 unfold J5b;refine Jr (JAc _) λa=>Jr (Jd7 _ _ _) λe=>Jr (Jd7 _ _ _) λes=>J1O ?_ Jv;split
 ·exact Jv
 ·refine Jr (Job _ _ _) λblks=>?_;split
  ·exact Jv
  ·refine J1O ?_ Jv;split
   ·exact Jr (Jjz _ _ _ _ _) λ_=>JQ _
   ·exact Jv
theorem JIN{L:List Nat}(F:Orc)(f:FuncId)(a:List AV×List (Nat×Blk))(k new:Nat):Sl L (J2O F f a k new):=by
 unfold J2O;refine Jr (Jd7 _ _ _) λe=>Jr (Jd7 _ _ _) λes=>J1O ?_ Jv;split
 ·exact Jv
 ·refine Jr (Job _ _ _) λblks=>?_;split
  ·exact Jv
  ·refine J1O ?_ Jv;split
   ·exact Jr (Jjz _ _ _ _ _) λ_=>JQ _
   ·exact Jv
theorem JjF{L:List Nat}: ∀(m:List Bool) (xs:List AV),Sl L (J3e m xs)
 |_,[]=>by cases ‹List Bool›<;>exact JQ _
 |[],x::xs=>Jr (Jvr x) λ_=>Jr (JjF [] xs) λ_=>JQ _
 |true::m,x::xs=>Jr (JjF m xs) λ_=>JQ _
 |false::m,x::xs=>Jr (Jvr x) λ_=>Jr (JjF m xs) λ_=>JQ _
theorem JnS{L:List Nat}: ∀(xs:List (Nat×Nat×Opd)),(∀n∈J6X (xs.map (·.2.2)),n∈L)->Sl L (J53 xs)
 |[],_=>JQ _
 |(a,b,x)::xs,h=>by
  unfold J53;refine Jr (J17 x λn hn=>h n (by simp[J6X,hn])) λv=>?_;split
  ·exact Jr (JnS xs λn hn=>h n (by simp[J6X,hn])) λ_=>JQ _
  ·exact Jv
theorem JOa(F:Orc)(op:AOp)(new:Nat):Sl (J0Q op) (opR F op new):=by
 cases op with
 |mv x=>exact Jr (J17 x λn h=>h) λv=>JQ _
 |mkarr=>exact JQ _
 |appn esz bytes zero y=>exact Jr (J17 y λn h=>h) λv=>Jr (Jf7 _ _) λ_=>J1O (JQ _) Jv
 |pick c a b=>
  refine Jr (J17 c λn h=>by simp[J0Q,h]) λv=>?_;cases v with
  |p q=>cases q with
   |b x=>exact J1O (Jr (J17 a λn h=>by simp[J0Q,h]) λ_=>JQ _) (Jr (J17 b λn h=>by simp[J0Q,h]) λ_=>JQ _)
   |_=>exact Jv
  |_=>exact Jv
 |newbox=>exact JQ _
 |box size x=>
  refine Jr (J17 x λn h=>h) λv=>?_;split
  ·exact J1O (JQ _) Jv
  ·exact Jv
 |build zero parts=>
  refine Jr (JnS parts λn h=>h) λv=>?_;split
  ·exact J5B _
  ·exact Jv
 |lits own esz n zero parts=>
  refine Jr (JJl _ λn h=>h) λv=>?_;split
  ·exact J1O (JQ _) (JQ _)
  ·exact Jv
 |load agg size x=>exact Jr (J17 x λn h=>h) λv=>JJW _ _ _
 |store size x y=>exact Jr (J17 x λn h=>by simp[J0Q,h]) λv=>Jr (J17 y λn h=>by simp[J0Q,h]) λ_=>Jwy _ _ _
 |nilchk x=>
  refine Jr (J17 x λn h=>h) λv=>?_;cases v<;>first|exact JQ _|exact Jv
 |bin op t x y=>exact Jr (J17 x λn h=>by simp[J0Q,h]) λv=>Jr (J17 y λn h=>by simp[J0Q,h]) λ_=>J5B _
 |un op x=>exact Jr (J17 x λn h=>h) λv=>J5B _
 |conv k x=>
  refine Jr (J17 x λn h=>h) λv=>?_;split
  ·exact JQ _
  ·exact JQ _
  ·refine Jr (Jf7 _ _) λ_=>?_;split
   ·exact JQ _
   ·exact Jv
  ·exact J1O (JQ _) (JQ _)
  ·exact Jv
 |mkslice own esz bytes zero x y=>
  refine Jr (J17 x λn h=>by simp[J0Q,h]) λv=>Jr (J17 y λn h=>by simp[J0Q,h]) λu=>?_;split
  ·exact J1O (J1O (JQ _) (JQ _)) Jv
  ·exact Jv
 |slice k x lo hi mx=>
  refine Jr (J17 x λn h=>by simp[J0Q,h]) λv=>Jr (JCt lo λn h=>by simp[J0Q,h]) λ_=>Jr (JCt hi λn h=>by simp[J0Q,h]) λ_=>Jr (JCt mx λn h=>by simp[J0Q,h]) λ_=>?_;split
  ·refine Jr (JsU _) λ_=>?_;split
   ·split
    ·exact JQ _
    ·exact Jv
   ·exact Jv
  ·exact J5B _
 |faddr off x=>exact Jr (J17 x λn h=>h) λv=>J5B _
 |field agg off size x=>exact Jr (J17 x λn h=>h) λv=>J5B _
 |iaddr esz x y=>exact Jr (J17 x λn h=>by simp[J0Q,h]) λv=>Jr (J17 y λn h=>by simp[J0Q,h]) λ_=>JIH _ _ _
 |aaddr len esz x y=>exact Jr (J17 x λn h=>by simp[J0Q,h]) λv=>Jr (J17 y λn h=>by simp[J0Q,h]) λ_=>J5B _
 |sidx x y=>
  refine Jr (J17 x λn h=>by simp[J0Q,h]) λv=>Jr (J17 y λn h=>by simp[J0Q,h]) λu=>?_;split
  ·refine J1O ?_ Jv;split
   ·exact JQ _
   ·exact Jv
  ·exact Jv
 |aidx agg len esz x y=>
  refine Jr (J17 x λn h=>by simp[J0Q,h]) λv=>Jr (J17 y λn h=>by simp[J0Q,h]) λu=>?_;split
  ·exact J1O (J5B _) Jv
  ·exact Jv
 |extr x i=>exact Jr (J17 x λn h=>h) λv=>J5B _
 |call f args k=>exact Jr (Jid args λn h=>h) λv=>JDg _ _ _ _ _
 |callv g args k=>
  refine Jr (J17 g λn h=>by simp[J0Q,h]) λv=>?_;cases v<;>try exact Jv
  exact Jr (Jid args λn h=>by simp[J0Q,h]) λ_=>JDg _ _ _ _ _
 |len str x=>exact Jr (J17 x λn h=>h) λv=>J5B _
 |alen n=>exact JQ _
 |appz esz bytes zero x y=>
  refine Jr (J17 x λn h=>by simp[J0Q,h]) λv=>Jr (J17 y λn h=>by simp[J0Q,h]) λc=>?_;split
  ·exact JG3 _ _ _ _
  ·exact Jv
 |appc esz bytes zero x y=>
  refine Jr (J17 x λn h=>by simp[J0Q,h]) λv=>Jr (J17 y λn h=>by simp[J0Q,h]) λc=>?_;unfold JC4;split
  ·exact Jr (Jf7 _ _) λ_=>J1O (JQ _) Jv
  ·exact Jv
 |app esz bytes zero x y=>exact Jr (J17 x λn h=>by simp[J0Q,h]) λv=>Jr (J17 y λn h=>by simp[J0Q,h]) λ_=>JG3 _ _ _ _
 |mm mx x y=>exact Jr (J17 x λn h=>by simp[J0Q,h]) λv=>Jr (J17 y λn h=>by simp[J0Q,h]) λ_=>J5B _
 |mkfn f a b=>exact Jr (Jid a λn h=>by simp[J0Q,h]) λv=>Jr (Jid b λn h=>by simp[J0Q,h]) λ_=>JQ _
 |newboxo=>exact JQ _
 |buildo zero parts os=>
  refine Jr (JnS parts λn h=>h) λv=>?_;split
  ·split
   ·exact JQ _
   ·exact Jv
  ·exact Jv
 |storen esz x=>exact Jr (J17 x λn h=>h) λv=>Jr (Jwy _ _ _) λ_=>JQ _
 |callo f keep args k=>exact Jr (Jid args λn h=>h) λv=>Jr (JjF _ _) λ_=>JIN _ _ _ _ _
theorem JA7{L:List Nat}: ∀(k new:Nat),Sl L (JcX new k)
 |0,_=>JQ _
 |k+1,new=>J7j λv=>by cases v<;>first|exact JA7 k _|exact Jv
theorem JFD(F:Orc)(i:J1l)(new:Nat):Sl (J7q i) (J1j F i new):=by
 have h:Sl (J7q i) (opD F i.op new):=Jr (JA7 _ _) λ_=>JMR (JOa F i.op new) λx hx=>by simp[J7q,hx]
 unfold J1j;split
 ·exact h
 ·rename_i g e j;refine JGl (by simp[J7q,j]) λv=>?_;split
  ·exact J1O h (JQ _)
  ·exact JQ _
  ·exact Jv
end Go.Am
end
section
namespace Go.Am
def W0(m:RM Eff):Prop:= ∀s e,m.run s=some e->e.ws=[]
def B0{α:Type}(m:RM α):Prop:= ∀s e,m.run s=some e-> ∀b,Loc.blk b∉m.reads s
theorem J5x(x:Option AV):W0 (val x):=λs e h=>by
 cases x with
 |none=>cases h
 |some v=>simp only[val,RM.run]at h;injection h with h;rw[<-h]
theorem J5K(v:AV):W0 (.ret ⟨v,[]⟩):=λs e h=>by simp only[RM.run]at h;injection h with h;rw[<-h]
theorem J1z:W0 .fail:=λs e h=>by cases h
theorem J0X{α:Type}{m:RM α}{f:α->RM Eff}(h: ∀a,W0 (f a)):W0 (m.bind f):=λs e he=>by
 rw[run_bind]at he;cases hm:m.run s with
 |none=>rw[hm]at he;cases he
 |some a=>rw[hm]at he;exact h a s e he
theorem JCH{b:Nat}{k:Blk->RM Eff}(h: ∀v,W0 (k v)):W0 (.blk b k):=λs e he=>by
 simp only[RM.run]at he;split at he
 ·exact h _ s e he
 ·cases he
theorem Jdo{c:Prop} [Decidable c]{x y:RM Eff}(hx:W0 x)(hy:W0 y):W0 (if c then x else y):=by split<;>assumption
theorem JMH{g:Nat}{k:AV->RM Eff}(h: ∀v,W0 (k v)):W0 (.slot g k):=λs e he=>by
 simp only[RM.run]at he;split at he
 ·exact h _ s e he
 ·cases he
theorem J3a{α:Type}(a:α):B0 (.ret a):=λs e _ b h=>by simp[RM.reads]at h
theorem J4H{α:Type}:B0 (.fail:RM α):=λs e h=>by cases h
theorem J7m(x:Option AV):B0 (val x):=by cases x<;>first|exact J4H|exact J3a _
theorem J0T{α β:Type}{m:RM α}{f:α->RM β}(hm:B0 m)(h: ∀a,B0 (f a)):B0 (m.bind f):=λs e he b hb=>by
 rw[run_bind]at he;rw[J5t]at hb;cases hr:m.run s with
 |none=>rw[hr]at he;cases he
 |some a=>
  rw[hr]at he hb;rcases J1Q.1 hb with hb|hb
  ·exact hm s a hr b hb
  ·exact h a s e he b (by simpa using hb)
theorem JsH{α:Type}{c:Prop} [Decidable c]{x y:RM α}(hx:B0 x)(hy:B0 y):B0 (if c then x else y):=by split<;>assumption
theorem J31(x:Opd):B0 (ev x):=by
 cases x with
 |t n=>exact λs e _ b h=>by simp only[ev,RM.reads,J2A]at h;rcases h with h|h;cases h;split at h<;>simp[RM.reads]at h
 |c v=>exact J3a _
theorem JNh{α:Type}{g:Nat}{k:AV->RM α}(h: ∀v,B0 (k v)):B0 (.slot g k):=λs e he b hb=>by
 simp only[RM.run]at he;simp only[RM.reads,J2A]at hb;rcases hb with hb|hb
 ·cases hb
 ·cases hl:lk g s.env with
  |none=>rw[hl]at he;cases he
  |some v=>
   rw[hl]at he hb;exact h v s e he b hb
theorem JAd: ∀xs:List Opd,B0 (evs xs)
 |[]=>J3a _
 |x::xs=>J0T (J31 x) λ_=>J0T (JAd xs) λ_=>J3a _
theorem JD1(x:Option Opd):B0 (evo x):=by
 cases x with
 |none=>exact J3a _
 |some x=>exact J0T (J31 x) λ_=>J3a _
theorem Jwt: ∀(xs:List (Nat×Nat×Opd)),B0 (J53 xs)
 |[]=>J3a _
 |(a,b,x)::xs=>by
  unfold J53;refine J0T (J31 x) λv=>?_;split
  ·exact J0T (Jwt xs) λ_=>J3a _
  ·exact J4H
theorem JFx(lo hi mx:Option AV)(c:PV)(hc: ∀l,c≠.s l):J4W .str (.p c) lo hi mx=none:=by
 cases mx with
 |some _=>rfl
 |none=>cases c<;>first|rfl|exact absurd rfl (hc _)
theorem JNV(F:Orc)(op:AOp)(new:Nat)(h:Jrf op=false):W0 (opR F op new):=by
 cases op with
 |mkarr=>cases h
 |newboxo=>cases h
 |buildo=>cases h
 |storen=>cases h
 |callo=>cases h
 |newbox=>cases h
 |box=>cases h
 |lits=>cases h
 |store=>cases h
 |mkslice=>cases h
 |call=>cases h
 |callv=>cases h
 |app=>cases h
 |appz=>cases h
 |appc=>cases h
 |appn=>cases h
 |mv x=>exact J0X λ_=>J5K _
 |pick c a b=>
  refine J0X λv=>?_;cases v with
  |p q=>cases q with
   |b x=>exact Jdo (J0X λ_=>J5K _) (J0X λ_=>J5K _)
   |_=>exact J1z
  |_=>exact J1z
 |build zero parts=>
  refine J0X λv=>?_;split
  ·exact J5x _
  ·exact J1z
 |load agg size x=>
  refine J0X λv=>?_;unfold J43;split
  ·split
   ·exact J5x _
   ·exact J1z
  ·refine JCH λv=>?_;cases v<;>try exact J1z
   dsimp only;split
   ·exact J5x _
   ·exact J1z
  ·refine JCH λv=>?_;cases v<;>try exact J1z
   dsimp only;refine Jdo ?_ J1z;split
   ·split
    ·exact J5x _
    ·exact J1z
   ·exact J1z
  ·exact J1z
 |nilchk x=>
  refine J0X λv=>?_;cases v<;>first|exact J5K _|exact J1z
 |bin op t x y=>exact J0X λ_=>J0X λ_=>J5x _
 |un op x=>exact J0X λ_=>J5x _
 |conv k x=>
  refine J0X λv=>?_;split
  ·exact J5K _
  ·exact J5K _
  ·refine J0X λ_=>?_;split
   ·exact J5K _
   ·exact J1z
  ·cases h
  ·exact J1z
 |slice k x lo hi mx=>
  cases k with
  |sl esz=>cases h
  |str=>
   refine J0X λv=>J0X λ_=>J0X λ_=>J0X λ_=>?_;split
   ·rename_i b i n;intro s e he;exfalso;rw[run_bind]at he;cases h1:(fz (.slr b i n)).run s with
    |none=>rw[h1]at he;cases he
    |some y=>
     rw[h1]at he;have o: ∃g rw,y.1=[.sl g rw]:=by
      simp only[fz,RM.run]at h1;split at h1
      ·split at h1
       ·split at h1
        ·simp only[RM.run]at h1;injection h1 with h1;rw[<-h1];exact⟨_,_,rfl⟩
        ·cases h1
       ·cases h1
      ·cases h1
     obtain⟨g,j,hy⟩:=o;simp only[JJ,hy,JFx _ _ _ (.sl g j) (by simp)]at he;cases he
   ·exact J5x _
 |faddr off x=>exact J0X λ_=>J5x _
 |field agg off size x=>exact J0X λ_=>J5x _
 |iaddr esz x y=>
  refine J0X λv=>J0X λu=>?_;unfold J6d;split
  ·refine Jdo ?_ J1z;split
   ·exact J5K _
   ·exact J1z
  ·refine JCH λv=>?_;cases v<;>first|exact J1z|exact Jdo (J5K _) J1z
  ·exact J1z
 |aaddr len esz x y=>exact J0X λ_=>J0X λ_=>J5x _
 |sidx x y=>
  refine J0X λv=>J0X λu=>?_;split
  ·refine Jdo ?_ J1z;split
   ·exact J5K _
   ·exact J1z
  ·exact J1z
 |aidx agg len esz x y=>
  refine J0X λv=>J0X λu=>?_;split
  ·exact Jdo (J5x _) J1z
  ·exact J1z
 |extr x i=>exact J0X λ_=>J5x _
 |len str x=>exact J0X λ_=>J5x _
 |alen n=>exact J5K _
 |mm mx x y=>exact J0X λ_=>J0X λ_=>J5x _
 |mkfn f a b=>exact J0X λ_=>J0X λ_=>J5K _
theorem JOq(F:Orc)(op:AOp)(new:Nat)(h:JCg op=false):B0 (opR F op new):=by
 cases op with
 |mkarr=>cases h
 |newboxo=>cases h
 |buildo=>cases h
 |storen=>cases h
 |callo=>cases h
 |newbox=>cases h
 |box=>cases h
 |lits=>cases h
 |store=>cases h
 |mkslice=>cases h
 |call=>cases h
 |callv=>cases h
 |app=>cases h
 |appz=>cases h
 |appc=>cases h
 |appn=>cases h
 |load=>cases h
 |iaddr=>cases h
 |mv x=>exact J0T (J31 x) λ_=>J3a _
 |pick c a b=>
  refine J0T (J31 c) λv=>?_;cases v with
  |p q=>cases q with
   |b x=>exact JsH (J0T (J31 a) λ_=>J3a _) (J0T (J31 b) λ_=>J3a _)
   |_=>exact J4H
  |_=>exact J4H
 |build zero parts=>
  refine J0T (Jwt parts) λv=>?_;split
  ·exact J7m _
  ·exact J4H
 |nilchk x=>
  refine J0T (J31 x) λv=>?_;cases v<;>first|exact J3a _|exact J4H
 |bin op t x y=>exact J0T (J31 x) λ_=>J0T (J31 y) λ_=>J7m _
 |un op x=>exact J0T (J31 x) λ_=>J7m _
 |conv k x=>
  refine J0T (J31 x) λv=>?_;split
  ·exact J3a _
  ·exact J3a _
  ·cases h
  ·cases h
  ·exact J4H
 |slice k x lo hi mx=>
  cases k with
  |sl esz=>cases h
  |str=>
   refine J0T (J31 x) λv=>J0T (JD1 lo) λ_=>J0T (JD1 hi) λ_=>J0T (JD1 mx) λ_=>?_;split
   ·rename_i b i n;intro s e he;exfalso;rw[run_bind]at he;cases h1:(fz (.slr b i n)).run s with
    |none=>rw[h1]at he;cases he
    |some y=>
     rw[h1]at he;have o: ∃g rw,y.1=[.sl g rw]:=by
      simp only[fz,RM.run]at h1;split at h1
      ·split at h1
       ·split at h1
        ·simp only[RM.run]at h1;injection h1 with h1;rw[<-h1];exact⟨_,_,rfl⟩
        ·cases h1
       ·cases h1
      ·cases h1
     obtain⟨g,j,hy⟩:=o;simp only[JJ,hy,JFx _ _ _ (.sl g j) (by simp)]at he;cases he
   ·exact J7m _
 |faddr off x=>exact J0T (J31 x) λ_=>J7m _
 |field agg off size x=>exact J0T (J31 x) λ_=>J7m _
 |aaddr len esz x y=>exact J0T (J31 x) λ_=>J0T (J31 y) λ_=>J7m _
 |sidx x y=>
  refine J0T (J31 x) λv=>J0T (J31 y) λu=>?_;split
  ·refine JsH ?_ J4H;split
   ·exact J3a _
   ·exact J4H
  ·exact J4H
 |aidx agg len esz x y=>
  refine J0T (J31 x) λv=>J0T (J31 y) λu=>?_;split
  ·exact JsH (J7m _) J4H
  ·exact J4H
 |extr x i=>exact J0T (J31 x) λ_=>J7m _
 |len str x=>exact J0T (J31 x) λ_=>J7m _
 |alen n=>exact J3a _
 |mm mx x y=>exact J0T (J31 x) λ_=>J0T (J31 y) λ_=>J7m _
 |mkfn f a b=>exact J0T (JAd a) λ_=>J0T (JAd b) λ_=>J3a _
theorem JJJ{op:AOp}(h:JCg op=false):Jrf op=false:=by
 cases op<;>first|rfl|cases h|skip
 ·rename_i k x;cases k<;>first|rfl|cases h
 ·rename_i k x lo hi mx;cases k<;>first|rfl|cases h
theorem JN3{op:AOp}(h:Jrf op=false):J5c op=0:=by
 cases op<;>first|rfl|cases h|skip
 rename_i k x;cases k<;>first|rfl|cases h
theorem Jve(F:Orc)(i:J1l)(new:Nat)(h:Jrf i.op=false):W0 (J1j F i new):=by
 have h1:W0 (opD F i.op new):=J0X λ_=>JNV F _ _ h;unfold J1j;split
 ·exact h1
 ·refine JMH λv=>?_;split
  ·exact Jdo h1 (J5K _)
  ·exact J5K _
  ·exact J1z
theorem JFp(F:Orc)(i:J1l)(new:Nat)(h:JCg i.op=false):B0 (J1j F i new):=by
 have h1:B0 (opD F i.op new):=by unfold opD;rw[JN3 (JJJ h)];exact J0T (J3a _) λ_=>JOq F _ _ h
 unfold J1j;split
 ·exact h1
 ·refine JNh λv=>?_;split
  ·exact JsH h1 (J3a _)
  ·exact J3a _
  ·exact J4H
end Go.Am
end
