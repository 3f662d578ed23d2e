/-
  Parts of a proof.
-/
import Derived.Calls
import Derived.LoopN
import Derived.KernelRfl
import Derived.Laws.Sem
import Derived.Laws.StructEq
import Derived.Laws.Cells
import Derived.Laws.Cover3
import Derived.Laws.Pointers
import Derived.Deep.AppendSrc
import Derived.Laws.MakeOwn
import Derived.Laws.BytesString
import Derived.DeepKeys
set_option linter.unusedSimpArgs false
set_option linter.unusedVariables false
section
namespace Go.Am
abbrev zQ0:= @Nat.le_refl
abbrev zQ1:= @Nat.lt_or_ge
abbrev zQ2:= @Nat.le_trans
abbrev zQ3:= @List.getElem?_eq_none
abbrev zQ4:= @Nat.le_of_eq
abbrev zQ5:= @Nat.zero_le
abbrev zQ6:= @Nat.zero_add
abbrev zQ7:= @Nat.mul_le_mul_right
abbrev zQ8:= @Nat.succ_mul
abbrev zQ9:= @List.mem_of_getElem?
abbrev Jp5:= @List.ext_getElem?
abbrev JLS:= @List.mem_of_mem_drop
abbrev Jb3:= @List.getElem?_drop
abbrev J4c:= @Nat.add_mul
abbrev J2a:= @List.mem_append
abbrev JbN:= @List.length_append
abbrev Jd0:= @Nat.add_assoc
abbrev J02:= @Bool.and_eq_true
abbrev JPF:= @Array.getD_eq_getD_getElem?
abbrev J5W:= @Sem.run_bind
abbrev J5L:= @Result.andThen_ok
abbrev J5R:= @Option.map_eq_some_iff
abbrev JLw:= @Option.isSome_iff_exists
abbrev JaU:= @Sem.run_pure
abbrev JaY:= @Nat.add_zero
abbrev JaT:= @Array.ext'
abbrev J5V:= @Bool.false_eq_true
abbrev JHE:= @Array.getElem?_toList
abbrev J8S:= @List.flatten_cons
abbrev J2c:= @List.getElem?_map
abbrev Jm7:= @List.getElem?_range
abbrev JK:= @List.getElem?_eq_getElem
abbrev Jiz:= @List.getElem?_take
abbrev JL9:= @List.length_eq_one_iff
abbrev JMk:= @List.mem_of_mem_take
abbrev J9V:= @List.getElem?_of_mem
abbrev J4J:= @List.mem_map
abbrev Jb1:= @List.append_assoc
abbrev J9O:= @List.getElem?_append_right
abbrev J9Q:= @List.getElem?_append_left
abbrev JuB:= @Nat.one_mul
abbrev Jyy:= @List.mem_or_eq_of_mem_set
abbrev JpO:= @List.getElem?_set_self
abbrev JlL:= @List.getElem?_set_ne
abbrev JFF:= @List.length_cons
abbrev JHl:= @Array.all_eq_true_iff_forall_mem
abbrev JlR:= @List.length_replicate
abbrev Juq:= @Nat.zero_mul
abbrev J1P:= @List.length_map
abbrev JEA:= @Nat.eq_zero_or_pos
abbrev Jpp:= @List.drop_zero
abbrev Jr6:= @Array.getElem?_append_left
abbrev JL5:= @Array.getElem?_eq_some_iff
abbrev Jly:= @Array.getElem?_eq_getElem
abbrev JuP:= @Nat.mul_comm
abbrev J1t:= @Option.map_some
abbrev JJ:= @Option.bind_some
abbrev Jc9:= @List.nil_append
abbrev JiJ:= @List.cons_append
abbrev Jiy:= @List.length_take
abbrev JfJ:= @List.length_drop
abbrev JlY:= @List.drop_drop
abbrev J0I:= @List.map_cons
abbrev J3i:= @List.mem_cons
abbrev Jzs:= @Bool.not_eq_true'
abbrev Jlv:= @Nat.sub_zero
abbrev J25:= @Option.bind_eq_some_iff
abbrev Jc6:= @List.map_append
abbrev Juz:= @List.all_eq_true
abbrev JLm:= @List.mem_cons_of_mem
abbrev Jz9:= @Bool.or_eq_true
abbrev Jye:= @List.getElem?_take_of_lt
abbrev JxH:= @Option.getD_some
abbrev Jz3:= @List.take_append_drop
abbrev Jvb:= @List.map_take
abbrev JPE:= @List.drop_length_add_append
abbrev J9N:= @List.getElem?_eq_some_iff
abbrev JqJ:= @List.map_replicate
abbrev J59:= @List.append_nil
abbrev J8Y:= @List.map_map
abbrev JyY:= @List.map_congr_left
abbrev Jua:= @List.mem_singleton
abbrev JM3:= @List.take_succ_cons
abbrev Jfi:= @Int.le_trans
abbrev Jgq:= @List.getElem_mem
abbrev J0U:= @Int.le_refl
abbrev JiL:= @List.mem_iff_getElem?
abbrev JEp:= @Nat.pow_le_pow_right
abbrev JGJ:= @List.length_flatten
theorem _root_.And.c{h g e:Prop}(x:h/\g/\e):e:=x.2.2
theorem _root_.And.d{g h j e:Prop}(x:g/\h/\j/\e):e:=x.2.2.2
theorem _root_.And.e{j k n h g:Prop}(x:j/\k/\n/\h/\g):g:=x.2.2.2.2
theorem _root_.And.g{j n o h k e:Prop}(x:j/\n/\o/\h/\k/\e):e:=x.2.2.2.2.2
theorem _root_.And.h{j n q g k o e:Prop}(x:j/\n/\q/\g/\k/\o/\e):e:=x.2.2.2.2.2.2
theorem _root_.And.i{h k o g j n q e:Prop}(x:h/\k/\o/\g/\j/\n/\q/\e):e:=x.2.2.2.2.2.2.2
theorem _root_.And.j{h n r g k q v o e:Prop}(x:h/\n/\r/\g/\k/\q/\v/\o/\e):e:=x.2.2.2.2.2.2.2.2
theorem _root_.And.k{h n r g j q w o v e:Prop}(x:h/\n/\r/\g/\j/\q/\w/\o/\v/\e):e:=x.2.2.2.2.2.2.2.2.2
inductive PV where
 |b (x:Bool)
 |i (k:IntKind) (n:Int)
 |s (l:List UInt8)
 |sl (esz:Nat) (rows:List (List PV))
 |np
 |nf
 |slc (esz:Nat) (rows:List (List PV))
 deriving Inhabited
inductive AV where
 |p (c:PV)
 |data (cs:List PV)
 |agg (cs:List AV)
 |tup (vs:List AV)
 |ptr (b off:Nat)
 |cp (cs:List PV) (off:Nat)
 |slr (b i n:Nat)
 |ep (b ext i off:Nat)
 |fn (f:FuncId) (first caps:List AV)
 |unk
 deriving Inhabited
inductive Blk where
 |dead
 |box (cs:List AV)
 |arr (w:Bool) (esz:Nat) (rows:List (List PV))
 deriving Inhabited
abbrev Res:=AV×List Blk
abbrev Orc:=FuncId->List AV->List Blk->Option Res
structure St where
 env:List (Nat×AV)
 sto:List Blk
def lk(n:Nat):List (Nat×AV)->Option AV
 |[]=>none
 |(m,v)::r=>if n=m then some v else lk n r
inductive RM(α:Type) where
 |ret (a:α)
 |slot (n:Nat) (k:AV->RM α)
 |blk (b:Nat) (k:Blk->RM α)
 |fail
def RM.bind{α β:Type}:RM α->(α->RM β)->RM β
 | .ret a,f=>f a
 | .slot n k,f=>.slot n λv=>(k v).bind f
 | .blk b k,f=>.blk b λv=>(k v).bind f
 | .fail,_=>.fail
def RM.run{α:Type}:RM α->St->Option α
 | .ret a,_=>some a
 | .slot n k,s=>match lk n s.env with
   |some v=>(k v).run s
   |none=>none
 | .blk b k,s=>match s.sto[b]? with
   |some v=>(k v).run s
   |none=>none
 | .fail,_=>none
inductive Loc where
 |slot (n:Nat)
 |blk (b:Nat)
 deriving DecidableEq
def RM.reads{α:Type}:RM α->St->List Loc
 | .ret _,_=>[]
 | .slot n k,s=>.slot n::match lk n s.env with
   |some v=>(k v).reads s
   |none=>[]
 | .blk b k,s=>.blk b::match s.sto[b]? with
   |some v=>(k v).reads s
   |none=>[]
 | .fail,_=>[]
def RM.of{α:Type}:Option α->RM α
 |some a=>.ret a
 |none=>.fail
inductive Opd where
 |t (n:Nat)
 |c (x:AV)
 deriving Inhabited
inductive KD where
 |b
 |i (k:IntKind)
 |s
 deriving DecidableEq
inductive BT where
 |plain
 |bool
 |flat (ks:List KD)
 |nils
 |nilp
 |nilf
 deriving DecidableEq
inductive CK where
 |int (k:IntKind)
 |same
 |toStr
 |toBytes (own:Bool)
 deriving DecidableEq
inductive SK where
 |str
 |sl (esz:Nat)
 deriving DecidableEq
inductive AOp where
 |mv (x:Opd)
 |mkarr (esz:Nat) (x:Opd)
 |pick (c a b:Opd)
 |newbox (zero:List PV)
 |box (size:Nat) (x:Opd)
 |build (zero:List PV) (parts:List (Nat×Nat×Opd))
 |lits (own:Bool) (esz n:Nat) (zero:List PV) (parts:List (Nat×Opd))
 |load (agg:Bool) (size:Nat) (x:Opd)
 |store (size:Nat) (x v:Opd)
 |nilchk (x:Opd)
 |bin (op:BinOp) (t:BT) (x y:Opd)
 |un (op:UnOp) (x:Opd)
 |conv (k:CK) (x:Opd)
 |mkslice (own:Bool) (esz bytes:Nat) (zero:List PV) (l c:Opd)
 |slice (k:SK) (x:Opd) (lo hi mx:Option Opd)
 |faddr (off:Nat) (x:Opd)
 |field (agg:Bool) (off size:Nat) (x:Opd)
 |iaddr (esz:Nat) (x i:Opd)
 |aaddr (len esz:Nat) (x i:Opd)
 |sidx (x i:Opd)
 |aidx (agg:Bool) (len esz:Nat) (x i:Opd)
 |extr (x:Opd) (i:Nat)
 |call (f:FuncId) (args:List Opd) (k:Nat)
 |callv (g:Opd) (args:List Opd) (k:Nat)
 |len (str:Bool) (x:Opd)
 |alen (n:Nat)
 |app (esz bytes:Nat) (zero:List PV) (x y:Opd)
 |appn (esz bytes:Nat) (zero:List PV) (y:Opd)
 |appz (esz bytes:Nat) (zero:List PV) (x y:Opd)
 |appc (esz bytes:Nat) (zero:List PV) (x y:Opd)
 |mm (mx:Bool) (x y:Opd)
 |mkfn (f:FuncId) (first caps:List Opd)
 |newboxo (zero:List PV) (os:List (Nat×Nat))
 |buildo (zero:List PV) (parts:List (Nat×Nat×Opd)) (os:List (Nat×Nat))
 |storen (esz:Nat) (x:Opd)
 |callo (f:FuncId) (keep:List Bool) (args:List Opd) (k:Nat)
 deriving Inhabited
structure J1q where
 op:AOp
 dst:Option Nat
 g:Option (Nat×Bool)
 deriving Inhabited
inductive J11 where
 |skip
 |bad
 |reg (draw:Bool) (pairs:List (Nat×Nat)) (ins:List J1q)
 |seq (a b:J11)
 |cond (c:Opd) (a b:J11)
 |block (id:Nat) (c:J11)
 |loop (live:List Nat) (c:J11)
 |lp (n:Nat) (live:List Nat) (c:J11)
 |scope (c:J11)
 |exit (id:Nat)
 |ret
 |keep (live:List Nat) (c:J11)
 |tidy (live:List Nat) (c:J11)
 |br (live:List Nat) (pre:J11) (c:Opd) (a b rest:J11)
 deriving Inhabited
inductive AX where
 |normal
 |exit (id:Nat)
 |ret
 deriving DecidableEq
abbrev Out:=AX×St
inductive JqN where
 |tmp (t:Nat)
 |cell (t:Nat) (agg:Bool) (size:Nat)
structure AFn where
 np:Nat
 nt:Nat
 body:J11
 res:List JqN
 fresh:Bool
structure Eff where
 val:AV
 ws:List (Nat×Blk)
def upd(ws:List (Nat×Blk))(sto:List Blk):List Blk:=ws.foldl (λs x=>s.set x.1 x.2) sto
def unp:List AV->Option (List PV)
 |[]=>some []
 | .p c::r=>match unp r with
   |some l=>some (c::l)
   |none=>none
 |_::_=>none
def cellsOf:AV->Option (List AV)
 | .p c=>some [.p c]
 | .data cs=>some (cs.map .p)
 | .agg cs=>some cs
 | .ptr b o=>some [.ptr b o]
 | .cp cs o=>some [.cp cs o]
 | .slr b i n=>some [.slr b i n]
 | .ep b e i o=>some [.ep b e i o]
 | .fn f a c=>some [.fn f a c]
 | .tup _=>none
 | .unk=>none
def J3L(agg:Bool)(cs:List AV):Option AV:=
 if agg then
  match unp cs with
  |some l=>some (.data l)
  |none=>some (.agg cs)
 else match cs with
  |[x]=>some x
  |_=>none
def J4I(agg:Bool)(cs:List PV):Option AV:=
 if agg then some (.data cs)
 else match cs with
  |[x]=>some (.p x)
  |_=>none
def sub{α:Type}(cs:List α)(off size:Nat):Option (List α):=if off=0/\cs.length=size then some cs else if off+size<=cs.length then some ((cs.drop off).take size)else none
def spl{α:Type}(cs:List α)(off:Nat)(vs:List α):Option (List α):=if off=0/\cs.length=vs.length then some vs else if off+vs.length<=cs.length then some (cs.take off++vs++cs.drop (off+vs.length))else none
def fz:AV->RM (List PV×List (Nat×Blk))
 | .p c=>.ret ([c],[])
 | .data cs=>.ret (cs,[])
 | .slr b i n=>.blk b fun
   | .arr _ esz rows=>if i+n=rows.length then .ret ([.sl esz (rows.drop i)],[(b,.arr false esz rows)])else .fail
   |_=>.fail
 | .agg cs=>fzL cs
 |_=>.fail
where
 fzL:List AV->RM (List PV×List (Nat×Blk))
  |[]=>.ret ([],[])
  |x::r=>(fz1 x).bind λa=>(fzL r).bind λc=>.ret (a.1++c.1,a.2++c.2)
 fz1:AV->RM (List PV×List (Nat×Blk))
  | .p c=>.ret ([c],[])
  | .slr b i n=>.blk b fun
    | .arr _ esz rows=>if i+n=rows.length then .ret ([.sl esz (rows.drop i)],[(b,.arr false esz rows)])else .fail
    |_=>.fail
  |_=>.fail
def Jmg:KD->PV->PV->Option Bool
 | .b,.b x,.b y=>some (x==y)
 | .i k,.i g x,.i e y=>if k=g/\k=e then some (x==y)else none
 | .s,.s x,.s y=>some (x==y)
 |_,_,_=>none
def J1C:List KD->List PV->List PV->Option Bool
 |[],[],[]=>some true
 |k::ks,x::xs,y::e=>match Jmg k x y,J1C ks xs e with
  |some a,some c=>some (a&&c)
  |_,_=>none
 |_,_,_=>none
def Jfw(op:BinOp)(k:IntKind)(x y:Int):Option PV:=
 if y<0 then none
 else match op with
  | .shl=>some (.i k (k.wrap (x*2^(min y.toNat k.bits))))
  | .shr=>some (.i k (x.fdiv (2^(min y.toNat k.bits))))
  |_=>none
def Jvd(op:BinOp)(k:IntKind)(x y:Int):Option PV:=
 match op with
 | .add=>some (.i k (k.wrap (x+y)))
 | .sub=>some (.i k (k.wrap (x-y)))
 | .mul=>some (.i k (k.wrap (x*y)))
 | .quo=>if y=0 then none else some (.i k (k.wrap (x.tdiv y)))
 | .rem=>if y=0 then none else some (.i k (x.tmod y))
 | .and=>some (.i k (k.wrap (BitVec.ofInt k.bits x&&&BitVec.ofInt k.bits y).toNat))
 | .or=>some (.i k (k.wrap (BitVec.ofInt k.bits x|||BitVec.ofInt k.bits y).toNat))
 | .xor=>some (.i k (k.wrap (BitVec.ofInt k.bits x^^^BitVec.ofInt k.bits y).toNat))
 | .eql=>some (.b (x==y))
 | .neq=>some (.b (x !=y))
 | .lss=>some (.b (decide (x<y)))
 | .leq=>some (.b (decide (x<=y)))
 | .gtr=>some (.b (decide (x>y)))
 | .geq=>some (.b (decide (x>=y)))
 |_=>none
def Jv1(op:BinOp)(x y:List UInt8):Option PV:=
 match op with
 | .add=>if x.length+y.length<=4611686018427387904 then some (.s (x++y))else none
 | .eql=>some (.b (x==y))
 | .neq=>some (.b (!(x==y)))
 | .lss=>some (.b (Op.bytesLess x y))
 | .leq=>some (.b (Op.bytesLess x y||x==y))
 | .gtr=>some (.b (!(Op.bytesLess x y||x==y)))
 | .geq=>some (.b (!Op.bytesLess x y))
 |_=>none
def J9L(op:BinOp)(r:Option Bool):Option AV:=
 match op,r with
 | .eql,some x=>some (.p (.b x))
 | .neq,some x=>some (.p (.b (!x)))
 |_,_=>none
def JGW:BinOp->Option AV
 | .eql=>some .unk
 | .neq=>some .unk
 |_=>none
def Je9(op:BinOp)(t:BT)(x y:AV):Option AV:=
 match t with
 | .plain=>match x,y with
   | .p (.i k a),.p (.i e c)=>match op with
     | .shl=>(Jfw .shl k a c).map .p
     | .shr=>(Jfw .shr k a c).map .p
     |_=>if k=e then(Jvd op k a c).map .p else none
   | .p (.s a),.p (.s c)=>(Jv1 op a c).map .p
   |_,_=>none
 | .bool=>match x,y with
   | .p (.b a),.p (.b c)=>J9L op (some (a==c))
   |_,_=>none
 | .flat ks=>match x,y with
   | .data a,.data c=>J9L op (J1C ks a c)
   |_,_=>none
 | .nils=>match x with
   | .p (.sl _ rows)=>match rows with
     |[]=>JGW op
     |_::_=>J9L op (some false)
   | .slr _ _ n=>if n=0 then JGW op else J9L op (some false)
   |_=>none
 | .nilp=>match x with
   | .p .np=>J9L op (some true)
   | .ptr _ _=>J9L op (some false)
   | .cp _ _=>J9L op (some false)
   | .ep _ _ _ _=>J9L op (some false)
   |_=>none
 | .nilf=>match x with
   | .p .nf=>J9L op (some true)
   | .fn _ _ _=>J9L op (some false)
   |_=>none
def unP(op:UnOp)(x:AV):Option AV:=
 match op,x with
 | .neg,.p (.i k n)=>some (.p (.i k (k.wrap (0-n))))
 | .xor,.p (.i k n)=>some (.p (.i k (k.wrap (BitVec.ofInt k.bits (if k.signed then -1 else k.max)^^^BitVec.ofInt k.bits n).toNat)))
 | .not,.p (.b x)=>some (.p (.b (!x)))
 | .not,.unk=>some .unk
 |_,_=>none
def J9t:List (List PV)->Option (List UInt8)
 |[]=>some []
 |[.i .u8 n]::r=>match J9t r with
  |some l=>some (UInt8.ofNat n.toNat::l)
  |none=>none
 |_::_=>none
def J4C(x:UInt8):List PV:=[.i .u8 x.toNat]
def J8R(esz:Nat):List (Nat×List PV)->List (List PV)->Option (List (List PV))
 |[],rows=>some rows
 |(i,c)::r,rows=>if c.length=esz/\i<rows.length then J8R esz r (rows.set i c)else none
def J75:List (Nat×Nat×List AV)->List AV->Option (List AV)
 |[],cs=>some cs
 |(off,size,c)::r,cs=>
  if c.length=size then
   match spl cs off c with
   |some cs'=>J75 r cs'
   |none=>none
  else none
def ev:Opd->RM AV
 | .t n=>.slot n .ret
 | .c x=>.ret x
def evs:List Opd->RM (List AV)
 |[]=>.ret []
 |x::r=>(ev x).bind λv=>(evs r).bind λvs=>.ret (v::vs)
def val(x:Option AV):RM Eff:=
 match x with
 |some v=>.ret ⟨v,[]⟩
 |none=>.fail
def fzs:List Opd->RM (List (List PV)×List (Nat×Blk))
 |[]=>.ret ([],[])
 |x::r=>(ev x).bind λv=>(fz v).bind λa=>(fzs r).bind λc=>.ret (a.1::c.1,a.2++c.2)
def J6Z(x:Option AV)(top e:Nat):Option Nat:=
 match x with
 |none=>some e
 |some (.p (.i _ n))=>if 0<=n/\n<=top then some n.toNat else none
 |some _=>none
def evo:Option Opd->RM (Option AV)
 |none=>.ret none
 |some x=>(ev x).bind λv=>.ret (some v)
def Jqr(n:Nat)(lo hi:Option AV):Option (Nat×Nat):=
 match J6Z hi n n with
 |none=>none
 |some h=>match J6Z lo h 0 with
  |none=>none
  |some l=>some (l,h)
def JdM(x:AV)(lo hi:Option AV):Option AV:=
 match x with
 | .p (.s l)=>match Jqr l.length lo hi with
   |some c=>some (.p (.s ((l.drop c.1).take (c.2-c.1))))
   |none=>none
 |_=>none
def JdV(esz:Nat)(x:AV)(lo hi:Option AV):Option AV:=
 match x with
 | .p (.sl e rows)=>if esz=e then
    match Jqr rows.length lo hi with
    |some c=>some (.p (.sl esz ((rows.drop c.1).take (c.2-c.1))))
    |none=>none
   else none
 |_=>none
def JDh(esz:Nat)(x:AV)(lo hi:Option AV)(m:AV):Option AV:=
 match x,lo,hi,m with
 | .p (.sl e rows),none,some (.p (.i _ h)),.p (.i _ n)=>if esz=e/\h=rows.length/\n=rows.length then some (.p (.slc esz rows))else none
 |_,_,_,_=>none
def J5w(k:SK)(x:AV)(lo hi mx:Option AV):Option AV:=
 match mx with
 |some m=>match k with
  | .str=>none
  | .sl esz=>JDh esz x lo hi m
 |none=>match k with
  | .str=>JdM x lo hi
  | .sl esz=>JdV esz x lo hi
def JwS(rows:List (List PV))(n:Int):Option (List PV):=if 0<=n then rows[n.toNat]? else none
def J7a(esz:Nat)(x i:AV):RM Eff:=
 match x,i with
 | .p (.sl e rows),.p (.i _ n)=>
   if esz=e then
    match JwS rows n with
    |some row=>.ret ⟨.cp row 0,[]⟩
    |none=>.fail
   else .fail
 | .slr b j m,.p (.i _ n)=>.blk b fun
   | .arr _ e rows=>if esz=e/\j+m=rows.length/\0<=n/\n<m then .ret ⟨.ep b rows.length (j+n.toNat) 0,[]⟩else .fail
   |_=>.fail
 |_,_=>.fail
def Jrv(len esz:Nat)(x i:AV):Option AV:=
 match i with
 | .p (.i _ n)=>
   if 0<=n/\n<len then
    match x with
    | .ptr b off=>some (.ptr b (off+n.toNat*esz))
    | .cp cs off=>some (.cp cs (off+n.toNat*esz))
    | .ep b e j off=>some (.ep b e j (off+n.toNat*esz))
    |_=>none
   else none
 |_=>none
def Jrj(off:Nat):AV->Option AV
 | .ptr b o=>some (.ptr b (o+off))
 | .cp cs o=>some (.cp cs (o+off))
 | .ep b e j o=>some (.ep b e j (o+off))
 |_=>none
def J4v(agg:Bool)(size:Nat):AV->RM Eff
 | .cp cs off=>match sub cs off size with
   |some l=>val (J4I agg l)
   |none=>.fail
 | .ptr b off=>.blk b fun
   | .box cs=>match sub cs off size with
     |some l=>val (J3L agg l)
     |none=>.fail
   |_=>.fail
 | .ep b ext i off=>.blk b fun
   | .arr _ _ rows=>if ext=rows.length then
      match rows[i]? with
      |some row=>match sub row off size with
       |some l=>val (J4I agg l)
       |none=>.fail
      |none=>.fail
     else .fail
   |_=>.fail
 |_=>.fail
def J2d:AV:=.tup []
def J43(size:Nat)(x v:AV):RM Eff:=
 match x with
 | .ptr b off=>.blk b fun
   | .box cs=>match cellsOf v with
     |some l=>if l.length=size then
       match spl cs off l with
       |some cs'=>.ret ⟨J2d,[(b,.box cs')]⟩
       |none=>.fail
      else .fail
     |none=>.fail
   |_=>.fail
 | .ep b ext i off=>.blk b fun
   | .arr true esz rows=>if ext=rows.length then
      match rows[i]? with
      |some row=>(fz v).bind λa=>
       if a.1.length=size/\(a.2.all λy=>y.1 !=b)then
        match spl row off a.1 with
        |some e=>.ret ⟨J2d,a.2++[(b,.arr true esz (rows.set i e))]⟩
        |none=>.fail
       else .fail
      |none=>.fail
     else .fail
   |_=>.fail
 |_=>.fail
def Jak(agg:Bool)(off size:Nat):AV->Option AV
 | .data cs=>match sub cs off size with
   |some l=>J4I agg l
   |none=>none
 | .agg cs=>match sub cs off size with
   |some l=>J3L agg l
   |none=>none
 |_=>none
def JvC(i:Nat):AV->Option AV
 | .tup vs=>vs[i]?
 |_=>none
def Jxz:Bool->AV->Option AV
 |true,.p (.s l)=>some (.p (.i .i64 l.length))
 |false,.p (.sl _ rows)=>some (.p (.i .i64 rows.length))
 |false,.slr _ _ n=>some (.p (.i .i64 n))
 |_,_=>none
def J2B(esz:Nat):AV->RM (List (List PV))
 | .p (.sl e rows)=>if esz=e then .ret rows else .fail
 | .p (.s l)=>if esz=1 then .ret (l.map J4C)else .fail
 | .slr b i n=>.blk b fun
   | .arr _ e rows=>if esz=e/\i+n=rows.length then .ret (rows.drop i)else .fail
   |_=>.fail
 |_=>.fail
def JaR(n bytes:Nat):Bool:=(2*n+512)*bytes<=281474976710656
def J8Q(esz bytes:Nat)(x y:AV):RM Eff:=
 match x with
 | .slr b i n=>.blk b fun
   | .arr w e rows=>(J2B esz y).bind λnew=>
     if esz=e/\i=0/\n=rows.length/\JaR (n+new.length) bytes then
      .ret ⟨.slr b 0 (n+new.length),[(b,.arr w esz (rows++new))]⟩
     else .fail
   |_=>.fail
 |_=>.fail
def JFV(esz bytes:Nat)(x y:AV)(new:Nat):RM Eff:=
 match x with
 | .p (.slc e rows)=>(J2B esz y).bind λadd=>
    if esz=e/\0<add.length/\JaR (rows.length+add.length) bytes then
     .ret ⟨.slr new 0 (rows.length+add.length),[(new,.arr true esz (rows++add))]⟩
    else .fail
 |_=>.fail
def zrs(esz:Nat)(zero:List PV):AV->Option AV
 | .p (.i _ n)=>if 0<=n then some (.p (.sl esz (List.replicate n.toNat zero)))else none
 |_=>none
def mmP(mx:Bool)(x y:AV):Option AV:=
 match x,y with
 | .p (.i k a),.p (.i _ c)=>some (.p (.i k (if mx then(if c>a then c else a)else(if c<a then c else a))))
 |_,_=>none
inductive Ent where
 |whole (b:Nat)
 |elem (b ext i:Nat)
 deriving DecidableEq
def Ent.id:Ent->Nat
 | .whole b=>b
 | .elem b _ _=>b
def JdQ(e:Ent)(l:List Ent):List Ent:=if l.any (λx=>x==e)then l else l++[e]
def J0O:AV->List Ent->List Ent
 | .ptr b _,l=>JdQ (.whole b) l
 | .slr b _ _,l=>JdQ (.whole b) l
 | .ep b e i _,l=>JdQ (.elem b e i) l
 | .fn _ first caps,l=>entsOfL caps (entsOfL first l)
 | .agg cs,l=>entsOfL cs l
 | .tup cs,l=>entsOfL cs l
 |_,l=>l
where
 entsOfL:List AV->List Ent->List Ent
  |[],l=>l
  |x::r,l=>entsOfL r (J0O x l)
def J1U(e:Ent):List Ent->Nat->Option Nat
 |[],_=>none
 |x::r,k=>if x=e then some k else J1U e r (k+1)
def ren(ρ:Ent->Option Nat):AV->Option AV
 | .p c=>some (.p c)
 | .data cs=>some (.data cs)
 | .cp cs o=>some (.cp cs o)
 | .unk=>some .unk
 | .ptr b off=>(ρ (.whole b)).map λk=>.ptr k off
 | .ep b e i off=>(ρ (.elem b e i)).map λk=>.ptr k off
 | .slr b i n=>(ρ (.whole b)).map λk=>.slr k i n
 | .fn f first caps=>(renL ρ first).bind λa=>(renL ρ caps).map λc=>.fn f a c
 | .agg cs=>(renL ρ cs).map .agg
 | .tup cs=>(renL ρ cs).map .tup
where
 renL (ρ:Ent->Option Nat):List AV->Option (List AV)
  |[]=>some []
  |x::r=>match ren ρ x,renL ρ r with
   |some y,some l=>some (y::l)
   |_,_=>none
end Go.Am
end
section
namespace Go.Am
def J4Z:List Nat->Bool
 |[]=>true
 |x::r=> !(r.contains x)&&J4Z r
def J5c(b:Nat):List (Nat×Blk)->Option Blk
 |[]=>none
 |(c,x)::r=>match J5c b r with
  |some y=>some y
  |none=>if c=b then some x else none
def JiC(ws:List (Nat×Blk))(b:Nat):RM Blk:=
 .blk b λx=>match J5c b ws with
  |some y=>.ret y
  |none=>.ret x
def J4g(ws:List (Nat×Blk)):List Ent->List Ent->RM (List Ent)
 |[],acc=>.ret acc
 | .whole b::r,acc=>(JiC ws b).bind fun
   | .box cs=>J4g ws r (J0O.entsOfL cs acc)
   |_=>J4g ws r acc
 |_::r,acc=>J4g ws r acc
def J9X:AV->RM (AV×List (Nat×Blk))
 | .slr b i n=>(fz (.slr b i n)).bind λa=>match a.1 with
   |[c]=>.ret (.p c,a.2)
   |_=>.fail
 | .agg cs=>(fz (.agg cs)).bind λa=>.ret (.data a.1,a.2)
 | .tup _=>.fail
 |v=>.ret (v,[])
def J7N:List AV->RM (List AV×List (Nat×Blk))
 |[]=>.ret ([],[])
 |x::r=>(J9X x).bind λa=>(J7N r).bind λc=>.ret (a.1::c.1,a.2++c.2)
def Jme(ws:List (Nat×Blk))(ρ:Ent->Option Nat):Ent->RM Blk
 | .whole b=>(JiC ws b).bind fun
   | .box cs=>match ren.renL ρ cs with
     |some l=>.ret (.box l)
     |none=>.fail
   | .arr w esz rows=>.ret (.arr w esz rows)
   | .dead=>.fail
 | .elem b ext i=>(JiC ws b).bind fun
   | .arr true _ rows=>if ext=rows.length then
      match rows[i]? with
      |some row=>.ret (.box (row.map .p))
      |none=>.fail
     else .fail
   |_=>.fail
def J5p(ws:List (Nat×Blk))(ρ:Ent->Option Nat):List Ent->RM (List Blk)
 |[]=>.ret []
 |e::r=>(Jme ws ρ e).bind λx=>(J5p ws ρ r).bind λl=>.ret (x::l)
def bk(es:List Ent)(new:Nat):AV->Option AV
 | .p c=>some (.p c)
 | .data cs=>some (.data cs)
 | .cp cs o=>some (.cp cs o)
 | .unk=>some .unk
 | .ptr k off=>if k<es.length then
    match es[k]? with
    |some (.whole b)=>some (.ptr b off)
    |some (.elem b e i)=>some (.ep b e i off)
    |none=>none
   else some (.ptr (new+(k-es.length)) off)
 | .slr k i n=>if k<es.length then
    match es[k]? with
    |some (.whole b)=>some (.slr b i n)
    |_=>none
   else some (.slr (new+(k-es.length)) i n)
 | .ep k e i off=>if k<es.length then
    match es[k]? with
    |some (.whole b)=>some (.ep b e i off)
    |_=>none
   else some (.ep (new+(k-es.length)) e i off)
 | .fn f first caps=>match bkL es new first,bkL es new caps with
   |some a,some c=>some (.fn f a c)
   |_,_=>none
 | .agg cs=>match bkL es new cs with
   |some l=>some (.agg l)
   |none=>none
 | .tup cs=>match bkL es new cs with
   |some l=>some (.tup l)
   |none=>none
where
 bkL (es:List Ent) (new:Nat):List AV->Option (List AV)
  |[]=>some []
  |x::r=>match bk es new x,bkL es new r with
   |some y,some l=>some (y::l)
   |_,_=>none
def J8P(ws:List (Nat×Blk))(es:List Ent)(new:Nat)(e:Ent)(x:Blk):RM (Nat×Blk):=
 match e,x with
 | .whole b,.box cs=>match bk.bkL es new cs with
   |some l=>.ret (b,.box l)
   |none=>.fail
 | .whole b,.arr w esz rows=>.ret (b,.arr w esz rows)
 | .elem b _ i,.box cs=>(JiC ws b).bind fun
   | .arr w esz rows=>match unp cs with
     |some row=>.ret (b,.arr w esz (rows.set i row))
     |none=>.fail
   |_=>.fail
 |_,_=>.fail
def J3r(ws:List (Nat×Blk))(es:List Ent)(new:Nat):List Ent->List Blk->RM (List (Nat×Blk))
 |[],_=>.ret []
 |e::r,x::l=>(J8P ws es new e x).bind λy=>(J3r ws es new r l).bind λg=>.ret (y::g)
 |_::_,[]=>.fail
def J2I(es:List Ent)(new:Nat):Nat->List Blk->Option (List (Nat×Blk))
 |_,[]=>some []
 |k,.box cs::l=>match bk.bkL es new cs,J2I es new (k+1) l with
  |some c,some e=>some ((k,.box c)::e)
  |_,_=>none
 |k,.arr w esz rows::l=>match J2I es new (k+1) l with
  |some e=>some ((k,.arr w esz rows)::e)
  |none=>none
 |_,.dead::_=>none
def J5O(F:Orc)(f:FuncId)(args:List AV)(k new:Nat):RM Eff:=
 (J7N args).bind λa=>
 (J4g a.2 (J0O.entsOfL a.1 []) (J0O.entsOfL a.1 [])).bind λh=>
 (J4g a.2 h h).bind λes=>
 if J4Z (es.map Ent.id)then
  match ren.renL (λe=>J1U e es 0) a.1 with
  |none=>.fail
  |some g=>(J5p a.2 (λe=>J1U e es 0) es).bind λblks=>
   match F f g blks with
   |none=>.fail
   |some r=>if r.2.length=es.length+k then
     match bk es new r.1,J2I es new new (r.2.drop es.length)with
     |some v,some fresh=>(J3r a.2 es new es r.2).bind λj=>.ret ⟨v,a.2++j++fresh⟩
     |_,_=>.fail
    else .fail
 else .fail
def J5E:List (Nat×Nat×Opd)->RM (List (Nat×Nat×List AV))
 |[]=>.ret []
 |(off,size,x)::r=>(ev x).bind λv=>match cellsOf v with
  |some cs=>(J5E r).bind λl=>.ret ((off,size,cs)::l)
  |none=>.fail
def J54:List (Nat×Nat)->Nat->List (Nat×Blk)
 |[],_=>[]
 |(_,esz)::r,n=>(n,.arr true esz [])::J54 r (n+1)
def Jd2:List (Nat×Nat)->Nat->List AV->List AV
 |[],_,cs=>cs
 |(off,_)::r,n,cs=>Jd2 r (n+1) (cs.set off (.slr n 0 0))
def J3v:List Bool->List AV->RM (List AV×List (Nat×Blk))
 |_,[]=>.ret ([],[])
 |[],x::r=>(J9X x).bind λa=>(J3v [] r).bind λc=>.ret (a.1::c.1,a.2++c.2)
 |true::m,x::r=>(J3v m r).bind λc=>.ret (x::c.1,c.2)
 |false::m,x::r=>(J9X x).bind λa=>(J3v m r).bind λc=>.ret (a.1::c.1,a.2++c.2)
def J2O(F:Orc)(f:FuncId)(a:List AV×List (Nat×Blk))(k new:Nat):RM Eff:=
 (J4g a.2 (J0O.entsOfL a.1 []) (J0O.entsOfL a.1 [])).bind λh=>
 (J4g a.2 h h).bind λes=>
 if J4Z (es.map Ent.id)then
  match ren.renL (λe=>J1U e es 0) a.1 with
  |none=>.fail
  |some g=>(J5p a.2 (λe=>J1U e es 0) es).bind λblks=>
   match F f g blks with
   |none=>.fail
   |some r=>if es.length<=r.2.length/\r.2.length<=es.length+k then
     match bk es new r.1,J2I es new new (r.2.drop es.length)with
     |some v,some fresh=>(J3r a.2 es new es r.2).bind λj=>.ret ⟨v,a.2++j++fresh⟩
     |_,_=>.fail
    else .fail
 else .fail
def opR(F:Orc)(op:AOp)(new:Nat):RM Eff:=
 match op with
 | .mv x=>(ev x).bind λv=>.ret ⟨v,[]⟩
 | .mkarr esz _=>.ret ⟨.slr new 0 0,[(new,.arr true esz [])]⟩
 | .pick c a b=>(ev c).bind fun
   | .p (.b x)=>if x then(ev a).bind λv=>.ret ⟨v,[]⟩else(ev b).bind λv=>.ret ⟨v,[]⟩
   |_=>.fail
 | .newbox zero=>.ret ⟨.ptr new 0,[(new,.box (zero.map .p))]⟩
 | .box size x=>(ev x).bind λv=>match cellsOf v with
   |some cs=>if cs.length=size then .ret ⟨.ptr new 0,[(new,.box cs)]⟩else .fail
   |none=>.fail
 | .build zero parts=>(J5E parts).bind λl=>match J75 l (zero.map .p)with
   |some cs=>val (J3L true cs)
   |none=>.fail
 | .lits own esz n zero parts=>(fzs (parts.map (·.2))).bind λa=>
   match J8R esz ((parts.map (·.1)).zip a.1) (List.replicate n zero)with
   |some rows=>if own then .ret ⟨.slr new 0 n,a.2++[(new,.arr true esz rows)]⟩else .ret ⟨.p (.sl esz rows),a.2⟩
   |none=>.fail
 | .load agg size x=>(ev x).bind λv=>J4v agg size v
 | .store size x y=>(ev x).bind λa=>(ev y).bind λv=>J43 size a v
 | .nilchk x=>(ev x).bind fun
   | .ptr b o=>.ret ⟨.ptr b o,[]⟩
   | .cp cs o=>.ret ⟨.cp cs o,[]⟩
   | .ep b e i o=>.ret ⟨.ep b e i o,[]⟩
   | .fn f u c=>.ret ⟨.fn f u c,[]⟩
   |_=>.fail
 | .bin op t x y=>(ev x).bind λa=>(ev y).bind λc=>val (Je9 op t a c)
 | .un op x=>(ev x).bind λa=>val (unP op a)
 | .conv k x=>(ev x).bind λa=>match k,a with
   | .int k,.p (.i _ n)=>.ret ⟨.p (.i k (k.wrap n)),[]⟩
   | .same,.p (.s l)=>.ret ⟨.p (.s l),[]⟩
   | .toStr,a=>(J2B 1 a).bind λrows=>match J9t rows with
     |some l=>.ret ⟨.p (.s l),[]⟩
     |none=>.fail
   | .toBytes own,.p (.s l)=>if own then .ret ⟨.slr new 0 l.length,[(new,.arr true 1 (l.map J4C))]⟩else .ret ⟨.p (.sl 1 (l.map J4C)),[]⟩
   |_,_=>.fail
 | .mkslice own esz bytes zero l c=>(ev l).bind λa=>(ev c).bind λd=>match a,d with
   | .p (.i _ n),.p (.i _ m)=>
     if 0<=n/\n<=m/\bytes*m<=281474976710656/\m<=281474976710656 then
      if own then .ret ⟨.slr new 0 n.toNat,[(new,.arr true esz (List.replicate n.toNat zero))]⟩
      else .ret ⟨.p (.sl esz (List.replicate n.toNat zero)),[]⟩
     else .fail
   |_,_=>.fail
 | .slice k x lo hi mx=>(ev x).bind λa=>(evo lo).bind λlo=>(evo hi).bind λhi=>(evo mx).bind λmx=>
   match a with
   | .slr b i n=>(fz (.slr b i n)).bind λy=>match y.1 with
     |[c]=>match J5w k (.p c) lo hi mx with
      |some v=>.ret ⟨v,y.2⟩
      |none=>.fail
     |_=>.fail
   |a=>val (J5w k a lo hi mx)
 | .faddr off x=>(ev x).bind λa=>val (Jrj off a)
 | .field agg off size x=>(ev x).bind λa=>val (Jak agg off size a)
 | .iaddr esz x i=>(ev x).bind λa=>(ev i).bind λc=>J7a esz a c
 | .aaddr len esz x i=>(ev x).bind λa=>(ev i).bind λc=>val (Jrv len esz a c)
 | .sidx x i=>(ev x).bind λa=>(ev i).bind λc=>match a,c with
   | .p (.s l),.p (.i _ n)=>if 0<=n then
      match l[n.toNat]? with
      |some u=>.ret ⟨.p (.i .u8 u.toNat),[]⟩
      |none=>.fail
     else .fail
   |_,_=>.fail
 | .aidx agg len esz x i=>(ev x).bind λa=>(ev i).bind λc=>match c with
   | .p (.i _ n)=>if 0<=n/\n<len then val (Jak agg (n.toNat*esz) esz a)else .fail
   |_=>.fail
 | .extr x i=>(ev x).bind λa=>val (JvC i a)
 | .call f args k=>(evs args).bind λvs=>J5O F f vs k new
 | .callv g args k=>(ev g).bind fun
   | .fn f first caps=>(evs args).bind λvs=>J5O F f (first++vs++caps) k new
   |_=>.fail
 | .len str x=>(ev x).bind λa=>val (Jxz str a)
 | .alen n=>.ret ⟨.p (.i .i64 n),[]⟩
 | .appn esz bytes _ y=>(ev y).bind λc=>(J2B esz c).bind λrows=>
   if JaR rows.length bytes then .ret ⟨.slr new 0 rows.length,[(new,.arr true esz rows)]⟩else .fail
 | .app esz bytes _ x y=>(ev x).bind λa=>(ev y).bind λc=>J8Q esz bytes a c
 | .appz esz bytes zero x y=>(ev x).bind λa=>(ev y).bind λc=>match zrs esz zero c with
   |some h=>J8Q esz bytes a h
   |none=>.fail
 | .appc esz bytes _ x y=>(ev x).bind λa=>(ev y).bind λc=>JFV esz bytes a c new
 | .mm mx x y=>(ev x).bind λa=>(ev y).bind λc=>val (mmP mx a c)
 | .mkfn f first caps=>(evs first).bind λa=>(evs caps).bind λc=>.ret ⟨.fn f a c,[]⟩
 | .newboxo zero os=>.ret ⟨.ptr (new+os.length) 0,J54 os new++[(new+os.length,.box (Jd2 os new (zero.map .p)))]⟩
 | .buildo zero parts os=>(J5E parts).bind λl=>match J75 l (Jd2 os new (zero.map .p))with
   |some cs=>match J3L true cs with
    |some v=>.ret ⟨v,J54 os new⟩
    |none=>.fail
   |none=>.fail
 | .storen esz x=>(ev x).bind λa=>(J43 1 a (.slr new 0 0)).bind λe=>.ret ⟨e.val,(new,.arr true esz [])::e.ws⟩
 | .callo f keep args k=>(evs args).bind λvs=>(J3v keep vs).bind λa=>J2O F f a k new
def J5P:AOp->Nat
 | .newbox _| .box _ _| .mkarr _ _| .appn _ _ _ _| .appc _ _ _ _ _=>1
 | .lits own _ _ _ _=>if own then 1 else 0
 | .mkslice own _ _ _ _ _=>if own then 1 else 0
 | .conv (.toBytes own) _=>if own then 1 else 0
 | .call _ _ k| .callv _ _ k| .callo _ _ _ k=>k
 | .newboxo _ os=>os.length+1
 | .buildo _ _ os=>os.length
 | .storen _ _=>1
 |_=>0
def Jf2(new:Nat):Nat->RM Unit
 |0=>.ret ()
 |k+1=>.blk new fun
  | .dead=>Jf2 (new+1) k
  |_=>.fail
def opD(F:Orc)(op:AOp)(new:Nat):RM Eff:=(Jf2 new (J5P op)).bind λ_=>opR F op new
def J1o(F:Orc)(i:J1q)(new:Nat):RM Eff:=
 match i.g with
 |none=>opD F i.op new
 |some (g,e)=>.slot g fun
  | .p (.b x)=>if x=e then opD F i.op new else .ret ⟨J2d,[]⟩
  | .tup []=>.ret ⟨J2d,[]⟩
  |_=>.fail
def put(d:Option Nat)(e:Eff)(s:St):St:=
 match d with
 |some d=>⟨(d,e.val)::s.env,upd e.ws s.sto⟩
 |none=>⟨s.env,upd e.ws s.sto⟩
def J30(F:Orc):List J1q->Nat->St->Option St
 |[],_,s=>some s
 |i::r,new,s=>match(J1o F i new).run s with
  |some e=>J30 F r (new+J5P i.op) (put i.dst e s)
  |none=>none
def J4W:List Loc->List Nat
 |[]=>[]
 | .blk b::r=>b::J4W r
 |_::r=>J4W r
abbrev Log:=List (List Nat×List Nat)
def J4Y(F:Orc):List J1q->Nat->St->Log->Option (St×Log)
 |[],_,s,l=>some (s,l)
 |i::r,new,s,l=>match(J1o F i new).run s with
  |some e=>J4Y F r (new+J5P i.op) (put i.dst e s) (l++[(J4W ((J1o F i new).reads s),e.ws.map (·.1))])
  |none=>none
def J79(a b:List Nat):Bool:=a.all λx=> !(b.contains x)
def Jfa(l:Log):List (Nat×Nat)->Bool
 |[]=>true
 |(i,j)::r=>(match l[i]?,l[j]? with
  |some a,some b=>J79 a.2 b.1&&J79 a.2 b.2&&J79 a.1 b.2
  |_,_=>false)&&Jfa l r
def news:List J1q->Nat
 |[]=>0
 |i::r=>J5P i.op+news r
def room(n:Nat)(sto:List Blk):List Blk:=if n=0 then sto else sto++List.replicate n .dead
def region(F:Orc)(pairs:List (Nat×Nat))(ins:List J1q)(s:St):Option St:=
 match pairs with
 |[]=>J30 F ins s.sto.length ⟨s.env,room (news ins) s.sto⟩
 |_::_=>match J4Y F ins s.sto.length ⟨s.env,room (news ins) s.sto⟩ []with
  |some (s',l)=>if Jfa l pairs then some s' else none
  |none=>none
def restr:List Nat->List (Nat×AV)->List (Nat×AV)
 |[],_=>[]
 |k::r,env=>match lk k env with
  |some v=>(k,v)::restr r env
  |none=>restr r env
def J4T(b:Nat):List Nat->Nat->Option Nat
 |[],_=>none
 |x::r,k=>if x=b then some k else J4T b r (k+1)
def fin(m:Nat)(ids:List Nat)(sto:List Blk):AV->Option AV
 | .p c=>some (.p c)
 | .data cs=>some (.data cs)
 | .cp cs o=>some (.cp cs o)
 | .unk=>some .unk
 | .ptr b off=>if b<m then some (.ptr b off)else(J4T b ids m).map λk=>.ptr k off
 | .slr b i n=>if b<m then some (.slr b i n)else
   match J4T b ids m with
   |some k=>some (.slr k i n)
   |none=>match sto[b]? with
    |some (.arr _ esz rows)=>if i+n=rows.length then some (.p (.sl esz (rows.drop i)))else none
    |_=>none
 | .ep b e i off=>if b<m then some (.ep b e i off)else(J4T b ids m).map λk=>.ep k e i off
 | .fn f first caps=>match finL m ids sto first,finL m ids sto caps with
   |some a,some c=>some (.fn f a c)
   |_,_=>none
 | .agg cs=>match finL m ids sto cs with
   |some l=>match unp l with
    |some q=>some (.data q)
    |none=>some (.agg l)
   |none=>none
 | .tup cs=>match finL m ids sto cs with
   |some l=>some (.tup l)
   |none=>none
where
 finL (m:Nat) (ids:List Nat) (sto:List Blk):List AV->Option (List AV)
  |[]=>some []
  |x::r=>match fin m ids sto x,finL m ids sto r with
   |some y,some l=>some (y::l)
   |_,_=>none
def J5q(m:Nat)(ids:List Nat)(sto:List Blk):Blk->Option Blk
 | .dead=>some .dead
 | .box cs=>match fin.finL m ids sto cs with
   |some l=>some (.box l)
   |none=>none
 | .arr w esz rows=>some (.arr w esz rows)
def Jdu(m:Nat)(ids:List Nat)(sto:List Blk):List Blk->Option (List Blk)
 |[]=>some []
 |x::r=>match J5q m ids sto x,Jdu m ids sto r with
  |some y,some l=>some (y::l)
  |_,_=>none
def JqP(m:Nat)(sto:List Blk):List (Nat×AV)->Option (List (Nat×AV))
 |[]=>some []
 |(k,x)::r=>match fin m [] sto x,JqP m sto r with
  |some y,some l=>some ((k,y)::l)
  |_,_=>none
def clean(n:Nat)(live:List Nat)(s:St):Option St:=
 if s.sto.length=n then some ⟨restr live s.env,s.sto⟩
 else match JqP n s.sto (restr live s.env),Jdu n [] s.sto (s.sto.take n)with
  |some e,some l=>some ⟨e,l⟩
  |_,_=>none
def Jea:List JqN->RM (List AV)
 |[]=>.ret []
 | .tmp t::r=>(RM.slot t .ret).bind λv=>(Jea r).bind λl=>.ret (v::l)
 | .cell t agg size::r=>(RM.slot t .ret).bind λv=>(J4v agg size v).bind λe=>(Jea r).bind λl=>.ret (e.val::l)
def J4V(m:Nat)(fresh:Bool)(sto:List Blk):List Ent->List Nat
 |[]=>[]
 | .whole b::r=>if b<m then J4V m fresh sto r else
   match sto[b]? with
   |some (.box _)=>b::J4V m fresh sto r
   |some (.arr _ _ _)=>if fresh then b::J4V m fresh sto r else J4V m fresh sto r
   |_=>J4V m fresh sto r
 |_::r=>J4V m fresh sto r
def Jdr(sto:List Blk):List Ent->List Ent->List Ent
 |[],acc=>acc
 | .whole b::r,acc=>match sto[b]? with
   |some (.box cs)=>Jdr sto r (J0O.entsOfL cs acc)
   |_=>Jdr sto r acc
 |_::r,acc=>Jdr sto r acc
def Jh8(sto:List Blk):List Nat->Option (List Blk)
 |[]=>some []
 |b::r=>match sto[b]?,Jh8 sto r with
  |some x,some l=>some (x::l)
  |_,_=>none
def one:List AV->AV
 |[x]=>x
 |l=>.tup l
def J3z(fn:AFn)(m:Nat)(s:St):Option Res:=
 match(Jea fn.res).run s with
 |none=>none
 |some vs=>
  if s.sto.length=m then some (one vs,s.sto)
  else
   match J4V m fn.fresh s.sto (Jdr s.sto (J0O.entsOfL vs []) (J0O.entsOfL vs []))with
   |ids=>if J4Z ids then
     match fin.finL m ids s.sto vs,Jdu m ids s.sto (s.sto.take m),Jh8 s.sto ids with
     |some ws,some l,some q=>match Jdu m ids s.sto q with
      |some q'=>some (one ws,l++q')
      |none=>none
     |_,_,_=>none
    else none
def J9P:Nat->List AV->List (Nat×AV)
 |_,[]=>[]
 |k,x::r=>(k,x)::J9P (k+1) r
structure Jgg where
 np:Nat
 nt:Nat
 p0:J11
 live:List Nat
 pre:J11
 c:Opd
 a:J11
 b:J11
 rest:J11
 res:List JqN
 fresh:Bool
def Jgg.af(k:Jgg):AFn:=⟨k.np,k.nt,.seq k.p0 (.br k.live k.pre k.c k.a k.b k.rest),k.res,k.fresh⟩
def JuX(f:AFn)(m:Nat)(o:Option Out):Option Res:=
 match o with
 |some (.normal,s)=>J3z f m s
 |some (.ret,s)=>J3z f m s
 |_=>none
open Classical in
noncomputable def Jvt(a b:Option Res):Option Res:=
 match a,b with
 |some r,some r'=>if r=r' then some r else none
 |_,_=>none
def thn(o:Option Out)(k:St->Option Out):Option Out:=
 match o with
 |some (.normal,s)=>k s
 |o=>o
noncomputable def JrN(R:J11->St->Option Out)(k:Jgg)(args:List AV)(blks:List Blk):Option Res:=
 match R k.p0 ⟨J9P 0 args,blks⟩with
 |some (.normal,s0)=>match R k.pre s0 with
  |some (.normal,s1)=>match(ev k.c).run s1 with
   |some (.p (.b x))=>if x=true then JuX k.af blks.length (thn (R k.a s1) λs=>R k.rest s)else JuX k.af blks.length (thn (R k.b s1) λs=>R k.rest s)
   |some .unk=>Jvt (JuX k.af blks.length (thn (R k.a s1) λs=>R k.rest s)) (JuX k.af blks.length (thn (R k.b s1) λs=>R k.rest s))
   |_=>none
  |_=>none
 |_=>none
inductive JMg where
 |fn (f:AFn)
 |prim (g:List AV->List Blk->Option Res)
 |fork (k:Jgg)
abbrev J4d:=FuncId->Option JMg
noncomputable def Jdm(T:J4d)(R:J11->St->Option Out)(f:FuncId)(args:List AV)(blks:List Blk):Option Res:=
 match T f with
 |none=>none
 |some (.prim g)=>g args blks
 |some (.fork k)=>if args.length=k.np then JrN R k args blks else none
 |some (.fn fn)=>
  if args.length=fn.np then
   match R fn.body ⟨J9P 0 args,blks⟩with
   |some (.normal,s)=>J3z fn blks.length s
   |some (.ret,s)=>J3z fn blks.length s
   |_=>none
  else none
open Classical in
noncomputable def same(a b:Option Out):Option Out:=
 match a,b with
 |some r,some r'=>if r=r' then some r else none
 |_,_=>none
def J7b(n:Nat)(live:List Nat)(o:Option Out):Option Out:=
 match o with
 |some (e,s)=>match clean n live s with
  |some s'=>some (e,s')
  |none=>none
 |none=>none
noncomputable def step(T:J4d)(R:J11->St->Option Out)(c:J11)(s:St):Option Out:=
 match c with
 | .skip=>some (.normal,s)
 | .bad=>none
 | .reg _ pairs ins=>match region (Jdm T R) pairs ins s with
   |some s'=>some (.normal,s')
   |none=>none
 | .seq a b=>match R a s with
   |some (.normal,s')=>R b s'
   |o=>o
 | .cond c a b=>match(ev c).run s with
   |some (.p (.b x))=>if x=true then R a s else R b s
   |some .unk=>same (R a s) (R b s)
   |_=>none
 | .block id c=>match R c s with
   |some (.exit k,s')=>if k=id then some (.normal,s')else some (.exit k,s')
   |o=>o
 | .loop live c=>match clean s.sto.length live s with
   |some s'=>R (.lp s.sto.length live c) s'
   |none=>none
 | .lp n live c=>match R c s with
   |some (.normal,s')=>(match clean n live s' with
    |some e=>R (.lp n live c) e
    |none=>none)
   |o=>o
 | .scope c=>R c s
 | .exit id=>some (.exit id,s)
 | .ret=>some (.ret,s)
 | .keep live c=>R c ⟨restr live s.env,s.sto⟩
 | .tidy live c=>J7b s.sto.length live (R c s)
 | .br live pre c a b rest=>match R pre s with
   |some (.normal,s1)=>(match(ev c).run s1 with
    |some (.p (.b x))=>if x=true then thn (R a s1) λs=>R rest s else thn (R b s1) λs=>R rest s
    |some .unk=>same (J7b s1.sto.length live (thn (R a s1) λs=>R rest s)) (J7b s1.sto.length live (thn (R b s1) λs=>R rest s))
    |_=>none)
   |_=>none
end Go.Am
end
section
namespace Go.Am
def J3I{α:Type}(a b:Option α):Prop:=a=none\/a=b
theorem JU{α:Type}(a:Option α):J3I a a:=.inr rfl
theorem run_bind{α β:Type}(m:RM α)(f:α->RM β)(s:St):(m.bind f).run s=(m.run s).bind λa=>(f a).run s:=by
 induction m with
 |ret a=>rfl
 |slot n k ih=>simp only[RM.bind,RM.run];cases lk n s.env<;>simp[ih]
 |blk b k ih=>simp only[RM.bind,RM.run];cases s.sto[b]?<;>simp[ih]
 |fail=>rfl
theorem J2L{α β:Type}{m:RM α}{f e:α->RM β}{s:St}(h: ∀a,J3I ((f a).run s) ((e a).run s)):J3I ((m.bind f).run s) ((m.bind e).run s):=by
 rw[run_bind,run_bind];cases m.run s with
 |none=>exact .inl rfl
 |some a=>exact h a
variable {F F':Orc} (h: ∀f a b,J3I (F f a b) (F' f a b))
include h in
theorem JtK(f:FuncId)(args:List AV)(k new:Nat)(s:St):J3I ((J5O F f args k new).run s) ((J5O F' f args k new).run s):=by
 unfold J5O;refine J2L λa=>J2L λg=>J2L λes=>?_;split
 ·split
  ·exact JU _
  ·refine J2L λblks=>?_;rcases h f ‹_› blks with e|e
   ·rw[e];exact .inl rfl
   ·rw[e];exact JU _
 ·exact JU _
include h in
theorem JFR(f:FuncId)(a:List AV×List (Nat×Blk))(k new:Nat)(s:St):J3I ((J2O F f a k new).run s) ((J2O F' f a k new).run s):=by
 unfold J2O;refine J2L λg=>J2L λes=>?_;split
 ·split
  ·exact JU _
  ·refine J2L λblks=>?_;rcases h f ‹_› blks with e|e
   ·rw[e];exact .inl rfl
   ·rw[e];exact JU _
 ·exact JU _
include h in
theorem JMF(op:AOp)(new:Nat)(s:St):J3I ((opR F op new).run s) ((opR F' op new).run s):=by
 cases op<;>try exact JU _
 case call f args k=>exact J2L λvs=>JtK h ..
 case callo f keep args k=>exact J2L λvs=>J2L λa=>JFR h ..
 case callv g args k=>
  refine J2L λg=>?_;cases g<;>try exact JU _
  exact J2L λvs=>JtK h ..
include h in
theorem JzQ(op:AOp)(new:Nat)(s:St):J3I ((opD F op new).run s) ((opD F' op new).run s):=
 J2L λ_=>JMF h ..
include h in
theorem Jvq(i:J1q)(new:Nat)(s:St):J3I ((J1o F i new).run s) ((J1o F' i new).run s):=by
 unfold J1o;split
 ·exact JzQ h ..
 ·simp only[RM.run];split
  ·split
   ·split
    ·exact JzQ h ..
    ·exact JU _
   ·exact JU _
   ·exact JU _
  ·exact JU _
theorem J6d{α β:Type}(m:RM α)(f:α->RM β)(s:St):(m.bind f).reads s=m.reads s++((m.run s).map λa=>(f a).reads s).getD []:=by
 induction m with
 |ret a=>simp[RM.bind,RM.reads,RM.run]
 |slot n k ih=>simp only[RM.bind,RM.reads,RM.run];cases lk n s.env<;>simp[ih]
 |blk b k ih=>simp only[RM.bind,RM.reads,RM.run];cases s.sto[b]?<;>simp[ih]
 |fail=>simp[RM.bind,RM.reads,RM.run]
theorem J1G{α β:Type}{m:RM α}{f g:α->RM β}{s:St}(h: ∀a,(f a).run s=none\/(f a).reads s=(g a).reads s):
  ((m.bind f).run s)=none\/(m.bind f).reads s=(m.bind g).reads s:=by
 rw[run_bind,J6d,J6d];cases m.run s with
 |none=>exact .inl rfl
 |some a=>exact(h a).imp (λe=>e) (λe=>by simp[e])
include h in
theorem Jts(f:FuncId)(args:List AV)(k new:Nat)(s:St):
  (J5O F f args k new).run s=none\/(J5O F f args k new).reads s=(J5O F' f args k new).reads s:=by
 unfold J5O;refine J1G λa=>J1G λg=>J1G λes=>?_;split
 ·split
  ·exact .inr rfl
  ·refine J1G λblks=>?_;rcases h f ‹_› blks with e|e
   ·rw[e];exact .inl rfl
   ·rw[e];exact .inr rfl
 ·exact .inr rfl
include h in
theorem JGg(f:FuncId)(a:List AV×List (Nat×Blk))(k new:Nat)(s:St):
  (J2O F f a k new).run s=none\/(J2O F f a k new).reads s=(J2O F' f a k new).reads s:=by
 unfold J2O;refine J1G λg=>J1G λes=>?_;split
 ·split
  ·exact .inr rfl
  ·refine J1G λblks=>?_;rcases h f ‹_› blks with e|e
   ·rw[e];exact .inl rfl
   ·rw[e];exact .inr rfl
 ·exact .inr rfl
include h in
theorem JNw(op:AOp)(new:Nat)(s:St):(opR F op new).run s=none\/(opR F op new).reads s=(opR F' op new).reads s:=by
 cases op<;>try exact .inr rfl
 case call f args k=>exact J1G λvs=>Jts h ..
 case callo f keep args k=>exact J1G λvs=>J1G λa=>JGg h ..
 case callv g args k=>
  refine J1G λg=>?_;cases g<;>try exact .inr rfl
  exact J1G λvs=>Jts h ..
include h in
theorem JA2(op:AOp)(new:Nat)(s:St):(opD F op new).run s=none\/(opD F op new).reads s=(opD F' op new).reads s:=
 J1G λ_=>JNw h ..
include h in
theorem JJd(op:AOp)(e:Bool)(new:Nat)(s:St)(v:AV):
  (RM.run (match v with
    | .p (.b x)=>if x=e then opD F op new else .ret ⟨J2d,[]⟩
    | .tup []=>.ret ⟨J2d,[]⟩
    |_=>.fail) s)=none\/(RM.reads (match v with
    | .p (.b x)=>if x=e then opD F op new else .ret ⟨J2d,[]⟩
    | .tup []=>.ret ⟨J2d,[]⟩
    |_=>.fail) s)=(RM.reads (match v with
    | .p (.b x)=>if x=e then opD F' op new else .ret ⟨J2d,[]⟩
    | .tup []=>.ret ⟨J2d,[]⟩
    |_=>.fail) s):=by
 split
 ·split
  ·exact JA2 h ..
  ·exact .inr rfl
 ·exact .inr rfl
 ·exact .inr rfl
include h in
theorem JLG(i:J1q)(new:Nat)(s:St):(J1o F i new).run s=none\/(J1o F i new).reads s=(J1o F' i new).reads s:=by
 unfold J1o;split
 ·exact JA2 h ..
 ·simp only[RM.run,RM.reads];split
  ·exact(JJd h ..).imp id (λe=>congrArg (Loc.slot _:: ·) e)
  ·exact .inl rfl
include h in
theorem JGR(ins:List J1q): ∀new s,J3I (J30 F ins new s) (J30 F' ins new s):=by
 induction ins with
 |nil=>exact λ_ _=>JU _
 |cons i r ih=>
  intro new s;simp only[J30];rcases Jvq h i new s with e|e
  ·rw[e];exact .inl rfl
  ·rw[e];split
   ·exact ih _ _
   ·exact JU _
include h in
theorem JGQ(ins:List J1q): ∀new s l,J3I (J4Y F ins new s l) (J4Y F' ins new s l):=by
 induction ins with
 |nil=>exact λ_ _ _=>JU _
 |cons i r ih=>
  intro new s l;simp only[J4Y];rcases Jvq h i new s with e|e
  ·rw[e];exact .inl rfl
  ·rcases JLG h i new s with e'|e'
   ·rw[e'];exact .inl rfl
   ·rw[e,e'];split
    ·exact ih _ _ _
    ·exact JU _
include h in
theorem JEg(pairs:List (Nat×Nat))(ins:List J1q)(s:St):J3I (region F pairs ins s) (region F' pairs ins s):=by
 unfold region;split
 ·exact JGR h ..
 ·rcases JGQ h ins s.sto.length ⟨s.env,Go.Am.room (news ins) s.sto⟩ []with e|e
  ·rw[e];exact .inl rfl
  ·rw[e];exact JU _
variable {T:J4d} {R R':J11->St->Option Out} (hR: ∀c s,J3I (R c s) (R' c s))
include hR in
theorem JJs(k:Jgg)(args:List AV)(blks:List Blk):J3I (JrN R k args blks) (JrN R' k args blks):=by
 have g: ∀x s,J3I (JuX k.af blks.length (thn (R x s) λs=>R k.rest s)) (JuX k.af blks.length (thn (R' x s) λs=>R' k.rest s)):=by
  intro x s;rcases hR x s with e|e
  ·rw[e];exact .inl rfl
  ·rw[e];cases hx:R' x s with
   |none=>exact .inl rfl
   |some o=>
    obtain⟨q,s'⟩:=o;cases q with
    |normal=>
     simp only[thn];rcases hR k.rest s' with e'|e'
     ·rw[e'];exact .inl rfl
     ·rw[e'];exact JU _
    |_=>exact JU _
 unfold JrN;rcases hR k.p0 ⟨J9P 0 args,blks⟩with e|e
 ·rw[e];exact .inl rfl
 ·rw[e];split
  ·rename_i s0 _;rcases hR k.pre s0 with e|e
   ·rw[e];exact .inl rfl
   ·rw[e];split
    ·split
     ·split
      ·exact g _ _
      ·exact g _ _
     ·rename_i s1 _ _ _;rcases g k.a s1 with e|e
      ·rw[e];exact .inl rfl
      ·rcases g k.b s1 with e'|e'
       ·rw[e'];unfold Jvt;exact .inl (by split<;>simp_all)
       ·rw[e,e'];exact JU _
     ·exact JU _
    ·exact JU _
  ·exact JU _
include hR in
theorem JIx(f:FuncId)(a:List AV)(b:List Blk):J3I (Jdm T R f a b) (Jdm T R' f a b):=by
 unfold Jdm;split
 ·exact JU _
 ·exact JU _
 ·split
  ·exact JJs hR _ _ _
  ·exact JU _
 ·split
  ·rcases hR ‹AFn›.body ⟨J9P 0 a,b⟩with e|e
   ·rw[e];exact .inl rfl
   ·rw[e];exact JU _
  ·exact JU _
include hR in
theorem Jlu(c:J11)(s:St):J3I (step T R c s) (step T R' c s):=by
 cases c with
 |bad=>exact .inl rfl
 |skip=>exact JU _
 |reg d pairs ins=>
  simp only[step];rcases JEg (JIx (T:=T) hR) pairs ins s with e|e
  ·rw[e];exact .inl rfl
  ·rw[e];exact JU _
 |seq a b=>
  simp only[step];rcases hR a s with e|e
  ·rw[e];exact .inl rfl
  ·rw[e];split
   ·exact hR _ _
   ·exact JU _
 |cond c a b=>
  simp only[step];split
  ·split
   ·exact hR _ _
   ·exact hR _ _
  ·rcases hR a s with e|e
   ·rw[e];exact .inl rfl
   ·rcases hR b s with e'|e'
    ·rw[e'];unfold same;exact .inl (by split<;>simp_all)
    ·rw[e,e'];exact JU _
  ·exact JU _
 |block id c=>
  simp only[step];rcases hR c s with e|e
  ·rw[e];exact .inl rfl
  ·rw[e];exact JU _
 |loop live c=>
  simp only[step];split
  ·exact hR _ _
  ·exact JU _
 |lp n live c=>
  simp only[step];rcases hR c s with e|e
  ·rw[e];exact .inl rfl
  ·rw[e];split
   ·split
    ·exact hR _ _
    ·exact JU _
   ·exact JU _
 |scope c=>exact hR _ _
 |exit id=>exact JU _
 |ret=>exact JU _
 |keep live c=>exact hR _ _
 |tidy live c=>
  simp only[step];rcases hR c s with e|e
  ·rw[e];exact .inl rfl
  ·rw[e];exact JU _
 |br live pre c a b rest=>
  have g: ∀x s,J3I (thn (R x s) λs=>R rest s) (thn (R' x s) λs=>R' rest s):=by
   intro x s;rcases hR x s with e|e
   ·rw[e];exact .inl rfl
   ·rw[e];unfold thn;split
    ·exact hR _ _
    ·exact JU _
  simp only[step];rcases hR pre s with e|e
  ·rw[e];exact .inl rfl
  ·rw[e];split
   ·split
    ·split
     ·exact g _ _
     ·exact g _ _
    ·rename_i s1 _ _ _;rcases g a s1 with e|e
     ·rw[e];exact .inl rfl
     ·rcases g b s1 with e'|e'
      ·rw[e'];unfold same;exact .inl (by split<;>simp_all [J7b])
      ·rw[e,e'];exact JU _
    ·exact JU _
   ·exact JU _
def JRB(T:J4d)(M:J11->St->Out->Prop):Prop:= ∀R:J11->St->Option Out,(∀c s r,R c s=some r->M c s r)-> ∀c s r,step T R c s=some r->M c s r
def Den(T:J4d)(c:J11)(s:St)(r:Out):Prop:= ∀M,JRB T M->M c s r
theorem Jv5(T:J4d):JRB T (Den T):=λR hR c s r h M e=>e R (λc s r h=>hR c s r h M e) c s r h
theorem JKl{T:J4d}{c:J11}{s:St}{r:Out}(h:Den T c s r): ∃R:J11->St->Option Out,(∀c s r,R c s=some r->Den T c s r)/\step T R c s=some r:=
 h (λc s r=> ∃R:J11->St->Option Out,(∀c s r,R c s=some r->Den T c s r)/\step T R c s=some r) λR hR c s r hs=>
  ⟨R,λc s r h=>let⟨R',h1,h2⟩:=hR c s r h;Jv5 T R' h1 c s r h2,hs⟩
theorem JQr{T:J4d}{c:J11}{s:St}{r:Out}(h:Den T c s r): ∀r',Den T c s r'->r'=r:=by
 have j:Den T c s r/\ ∀r',Den T c s r'->r'=r:=h (λc s r=>Den T c s r/\ ∀r',Den T c s r'->r'=r) λR hR c s r hs=>by
  refine⟨Jv5 T R (λc s r h=>(hR c s r h).1) c s r hs,λr' k=>?_⟩;obtain⟨R',g,hs'⟩:=JKl k;have b1: ∀c s,J3I (R c s) ((R c s).or (R' c s)):=λc s=>by cases hc:R c s<;>simp[J3I]
  have b2: ∀c s,J3I (R' c s) ((R c s).or (R' c s)):=λc s=>by
   cases hc:R c s with
   |none=>simp[J3I]
   |some a=>
    cases hc':R' c s with
    |none=>simp[J3I]
    |some e=>right;rw[(hR c s a hc).2 e (g c s e hc')];rfl
  have e1:=Jlu (T:=T) b1 c s;have e2:=Jlu (T:=T) b2 c s;rw[hs]at e1;rw[hs']at e2;rcases e1 with e1|e1
  ·cases e1
  ·rcases e2 with e2|e2
   ·cases e2
   ·rw[<-e1]at e2;injection e2
 exact j.2
open Classical in
noncomputable def X(T:J4d)(c:J11)(s:St):Option Out:=if h: ∃r,Den T c s r then some h.choose else none
theorem JqD{T:J4d}{c:J11}{s:St}{r:Out}:X T c s=some r↔Den T c s r:=by
 unfold X;constructor
 ·intro h;split at h
  ·rename_i e;injection h with h;subst h;exact e.choose_spec
  ·cases h
 ·intro h;rw[dif_pos ⟨r,h⟩]
  congr 1
  exact JQr h _ (Exists.choose_spec (⟨r,h⟩: ∃r,Den T c s r))
theorem JU0(T:J4d)(motive:J11->St->Out->Prop)
  (h: ∀R:J11->St->Option Out,(∀c s r,R c s=some r->motive c s r)-> ∀c s r,step T R c s=some r->motive c s r): ∀c s r,X T c s=some r->motive c s r:=
 λc s r hx=>JqD.1 hx motive h
theorem Jd1(T:J4d)(c:J11)(s:St):X T c s=step T (X T) c s:=by
 have one: ∀r,step T (X T) c s=some r->X T c s=some r:=λr h=>JqD.2 (Jv5 T (X T) (λc s r h=>JqD.1 h) c s r h);cases hs:step T (X T) c s with
 |some r=>exact one r hs
 |none=>
  cases hx:X T c s with
  |none=>rfl
  |some r=>
   obtain⟨R,hR,h⟩:=JKl (JqD.1 hx);have:=Jlu (T:=T) (R:=R) (R':=X T) (λc s=>by
    cases hc:R c s with
    |none=>exact .inl rfl
    |some a=>right;exact(JqD.2 (hR c s a hc)).symm) c s
   rw[h,hs]at this;rcases this with e|e<;>cases e
noncomputable def AF(T:J4d):Orc:=Jdm T (X T)
end Go.Am
end
section
namespace Go.Am
structure Gh where
 μ:Nat->Option (Nat×Nat)
 C:Nat->Nat->Prop
def J0M(w:World)(r o:Nat):Option Value:=
 match w.heap[r]? with
 |some (.cells c _ _)=>c[o]?
 |_=>none
theorem J9p(w:World)(r o:Nat):w.cell? ⟨r,o,none⟩=J0M w r o:=by unfold World.cell? J0M;split<;>simp_all
theorem J2C{w:World}{r o:Nat}{c e fz}(h:w.heap[r]?=some (.cells c e fz)):J0M w r o=c[o]?:=by simp[J0M,h]
inductive J0u(w:World)(C:Nat->Nat->Prop):PV->Value->Prop where
 |b (x:Bool):J0u w C (.b x) (.bool x)
 |i (k:IntKind) (n:Int):J0u w C (.i k n) (.int k n)
 |s (l:List UInt8):J0u w C (.s l) (.string ⟨l.toArray⟩)
 |np:J0u w C .np (.pointer none)
 |nf:J0u w C .nf .nilFunc
 |sl0 (esz:Nat) (a:Option Addr) (cap:Nat):J0u w C (.sl esz []) (.slice a 0 cap)
 |sl (esz:Nat) (rows:List (List PV)) (r o cap:Nat) (vals:Nat->Nat->Value):
   rows.length<=cap->(∀row∈rows,row.length=esz)->
   (∀(i j:Nat) row x,rows[i]?=some row->row[j]?=some x->C r (o+i*esz+j)/\J0M w r (o+i*esz+j)=some (vals i j))->
   (∀(i j:Nat) row x,rows[i]?=some row->row[j]?=some x->J0u w C x (vals i j))->
   J0u w C (.sl esz rows) (.slice (some ⟨r,o,none⟩) rows.length cap)
 |slc (esz:Nat) (rows:List (List PV)) (a:Option Addr):J0u w C (.sl esz rows) (.slice a rows.length rows.length)->J0u w C (.slc esz rows) (.slice a rows.length rows.length)
structure Sn where
 σ:List Blk
 g:Gh
 w:World
def JDg(σ:List Blk)(b:Nat):Prop:= ∃cs,σ[b]?=some (.box cs)
def JTW(s:Sn)(b esz i n:Nat)(v:Value):Prop:=(s.g.μ b=none/\i=0/\n=0/\v=.slice none 0 0)\/ ∃r cap c e fz,s.g.μ b=some (r,0)/\v=.slice (some ⟨r,i*esz,none⟩) n cap/\n<=cap/\s.w.heap[r]?=some (.cells c e fz)/\(i+cap)*esz<=c.size
inductive JL(s:Sn):AV->Value->Prop where
 |p (c v):J0u s.w s.g.C c v->JL s (.p c) v
 |data (cs:List PV) (vs:Array Value):cs.length=vs.size->(∀(i:Nat) x v,cs[i]?=some x->vs[i]?=some v->J0u s.w s.g.C x v)->JL s (.data cs) (.agg vs)
 |agg (cs:List AV) (vs:Array Value):cs.length=vs.size->(∀(i:Nat) v,vs[i]?=some v->v.oneCell'=true)->(∀(i:Nat) x v,cs[i]?=some x->vs[i]?=some v->JL s x v)->JL s (.agg cs) (.agg vs)
 |tup (cs:List AV) (vs:Array Value):cs.length=vs.size->(∀(i:Nat) x v,cs[i]?=some x->vs[i]?=some v->JL s x v)->JL s (.tup cs) (.tuple vs)
 |ptr (b off r o):s.g.μ b=some (r,o)->JDg s.σ b->JL s (.ptr b off) (.pointer (some ⟨r,o+off,none⟩))
 |cp (cs:List PV) (off r o:Nat) (vals:Nat->Value):
   (∀(j:Nat) x,cs[j]?=some x->s.g.C r (o+j)/\J0M s.w r (o+j)=some (vals j))->
   (∀(j:Nat) x,cs[j]?=some x->J0u s.w s.g.C x (vals j))->JL s (.cp cs off) (.pointer (some ⟨r,o+off,none⟩))
 |slr (b i n v wm esz rows):(∃a cap,v=.slice a n cap/\(n=0\/a≠none))->s.σ[b]?=some (.arr wm esz rows)->i+n<=rows.length->(i+n=rows.length->JTW s b esz i n v)->JL s (.slr b i n) v
 |ep (b ext i off v wm esz rows):(∃r o,v=.pointer (some ⟨r,o,none⟩))->s.σ[b]?=some (.arr wm esz rows)->ext<=rows.length->
   (ext=rows.length->i<ext-> ∃r,s.g.μ b=some (r,0)/\v=.pointer (some ⟨r,i*esz+off,none⟩))->JL s (.ep b ext i off) v
 |fn (f:FuncId) (first caps:List AV) (fs cs:Array Value):first.length=fs.size->caps.length=cs.size->
   (∀(i:Nat) x v,first[i]?=some x->fs[i]?=some v->JL s x v)->(∀(i:Nat) x v,caps[i]?=some x->cs[i]?=some v->JL s x v)->
   JL s (.fn f first caps) (.func (.func f) fs cs)
 |unk (x:Bool):JL s .unk (.bool x)
def Wr1(s:Sn)(b r o:Nat):Prop:=
 match s.σ[b]? with
 |some (.box cs)=> ∃e,s.g.μ b=some (r,e)/\e<=o/\o<e+cs.length
 |some (.arr true _ _)=> ∃e,s.g.μ b=some (r,e)
 |some (.arr false esz rows)=> ∃e,s.g.μ b=some (r,e)/\rows.length*esz<=o
 |_=>False
def Wr(s:Sn)(r o:Nat):Prop:= ∃b,Wr1 s b r o
def JxJ(fz:Nat×Nat)(a b:Nat):Prop:= ∀o,a<=o->o<b-> ¬(fz.1<=o/\o<fz.2)
def JgU(esz:Nat)(fz:Nat×Nat)(n:Nat):Prop:=JxJ fz 0 n/\(esz≠1-> ¬(fz.1<=n/\n<fz.2))
theorem JgU.zero(esz n:Nat):JgU esz (0,0) n:=⟨λ_ _ _ h=>by simp at h,λ_ h=>by simp at h⟩
def JDn(s:Sn)(b:Nat)(cs:List AV):Prop:= ∃r o c e fz,s.g.μ b=some (r,o)/\s.w.heap[r]?=some (.cells c e fz)/\o+cs.length<=c.size/\(∀(i:Nat) x,cs[i]?=some x-> ∃v,c[o+i]?=some v/\JL s x v/\v.oneCell'=true)/\JxJ fz o (o+cs.length)
def JDA(s:Sn)(b:Nat)(wm:Bool)(esz:Nat)(rows:List (List PV)):Prop:=(s.g.μ b=none/\rows=[])\/ ∃r c e fz,s.g.μ b=some (r,0)/\s.w.heap[r]?=some (.cells c e fz)/\(∀row∈rows,row.length=esz)/\rows.length*esz<=c.size/\(∀(i j:Nat) row x,rows[i]?=some row->row[j]?=some x->(∃v,c[i*esz+j]?=some v/\J0u s.w s.g.C x v)/\(wm=false->s.g.C r (i*esz+j)))/\JgU esz fz c.size
structure Inv(s:Sn):Prop where
 box: ∀b cs,s.σ[b]?=some (.box cs)->JDn s b cs
 arr: ∀b wm esz rows,s.σ[b]?=some (.arr wm esz rows)->JDA s b wm esz rows
 apart: ∀b1 b2 r o,Wr1 s b1 r o->Wr1 s b2 r o->b1=b2
 const: ∀r o,s.g.C r o->r<s.w.heap.size/\ ∀b,¬Wr1 s b r o
def Jg2(W:Nat->Nat->Prop)(w0 w:World):Prop:=w0.heap.size<=w.heap.size/\(∀(r:Nat) c e fz,w0.heap[r]?=some (.cells c e fz)-> ∃c',w.heap[r]?=some (.cells c' e fz)/\c'.size=c.size/\ ∀o,¬W r o->c'[o]?=c[o]?)/\(∀(r:Nat) x,w0.heap[r]?=some x->(∀c e fz,x≠.cells c e fz)->w.heap[r]?=some x)/\w.os=w0.os/\w.output=w0.output
structure J0k(s0 s:Sn):Prop where
 keep:Jg2 (Wr s0) s0.w s.w
 cmono: ∀r o,s0.g.C r o->s.g.C r o
 cnew: ∀r o,s.g.C r o->s0.g.C r o\/Wr s0 r o\/s0.w.heap.size<=r
 wnew: ∀r o,Wr s r o->Wr s0 r o\/s0.w.heap.size<=r
 len:s0.σ.length<=s.σ.length
 box: ∀b cs,s0.σ[b]?=some (.box cs)->(∃cs',s.σ[b]?=some (.box cs')/\cs'.length=cs.length)/\s.g.μ b=s0.g.μ b
 arr: ∀b wm esz rows,s0.σ[b]?=some (.arr wm esz rows)-> ∃wm' rows',s.σ[b]?=some (.arr wm' esz rows')/\(wm'=true->wm=true)/\
  rows.length<=rows'.length/\(rows'.length=rows.length->s.g.μ b=s0.g.μ b)
theorem Jg2.refl(W w):Jg2 W w w:=⟨zQ0 _,λ_ c _ _ h=>⟨c,h,rfl,λ_ _=>rfl⟩,λ_ _ h _=>h,rfl,rfl⟩
theorem Jg2.mono{W g:Nat->Nat->Prop}{w0 w}(h:Jg2 W w0 w)(hw: ∀r o,W r o->g r o):Jg2 g w0 w:=
 ⟨h.1,λr c e fz hr=>let⟨c',a,b,d⟩:=h.2.1 r c e fz hr;⟨c',a,b,λo ho=>d o λx=>ho (hw _ _ x)⟩,h.2.2⟩
theorem Jg2.cell{W w0 w}(h:Jg2 W w0 w){r o v}(hn: ¬W r o)(hv:J0M w0 r o=some v):J0M w r o=some v:=by
 unfold J0M at hv;split at hv
 ·rename_i c e fz hr;obtain⟨c',h1,_,h3⟩:=h.2.1 r c e fz hr;rw[J2C h1,h3 o hn,hv]
 ·cases hv
theorem J0k.refl(s:Sn):J0k s s:=
 ⟨.refl _ _,λ_ _ h=>h,λ_ _ h=>.inl h,λ_ _ h=>.inl h,zQ0 _,λ_ cs h=>⟨⟨cs,h,rfl⟩,rfl⟩,
   λ_ wm _ rows h=>⟨wm,rows,h,id,zQ0 _,λ_=>rfl⟩⟩
theorem J2s{w:World}{r:Nat}{x:Obj}(h:w.heap[r]?=some x):r<w.heap.size:=by
 rcases zQ1 r w.heap.size with hl|hl
 ·exact hl
 ·simp[Array.getElem?_eq_none hl]at h
theorem J0k.trans{s0 s1 w:Sn}(h:J0k s0 s1)(g:J0k s1 w):J0k s0 w where
 keep:=by
  refine⟨zQ2 h.keep.1 g.keep.1,λr c e fz hr=>?_,λr x hr hx=>g.keep.2.2.1 r x (h.keep.2.2.1 r x hr hx) hx,g.keep.2.2.2.1.trans h.keep.2.2.2.1,g.keep.2.2.2.2.trans h.keep.2.2.2.2⟩;obtain⟨j,a1,b1,q⟩:=h.keep.2.1 r c e fz hr;obtain⟨k,a2,b2,n⟩:=g.keep.2.1 r j e fz a1;refine⟨k,a2,b2.trans b1,λo ho=>(n o λhw=>?_).trans (q o ho)⟩;rcases h.wnew r o hw with hw|hw
  ·exact ho hw
  ·have:=J2s hr;omega
 cmono r o hc:=g.cmono r o (h.cmono r o hc)
 cnew r o hc:=by
  rcases g.cnew r o hc with hc|hw|hn
  ·exact h.cnew r o hc
  ·rcases h.wnew r o hw with hw|hn
   ·exact .inr (.inl hw)
   ·exact .inr (.inr hn)
  ·exact .inr (.inr (zQ2 h.keep.1 hn))
 wnew r o hw:=by
  rcases g.wnew r o hw with hw|hn
  ·exact h.wnew r o hw
  ·exact .inr (zQ2 h.keep.1 hn)
 len:=zQ2 h.len g.len
 box b cs hb:=by obtain⟨⟨j,a1,B⟩,m1⟩:=h.box b cs hb;obtain⟨⟨k,a2,C⟩,m2⟩:=g.box b j a1;exact⟨⟨k,a2,C.trans B⟩,m2.trans m1⟩
 arr b wm esz rows hb:=by obtain⟨v,z,a1,b1,j,q⟩:=h.arr b wm esz rows hb;obtain⟨y,A,a2,b2,k,n⟩:=g.arr b v esz z a1;exact⟨y,A,a2,λe=>b1 (b2 e),zQ2 j k,λe=>(n (by omega)).trans (q (by omega))⟩
theorem Inv.cfix{s0 s:Sn}(hi:Inv s0)(t:J0k s0 s){r o v}(hc:s0.g.C r o)(hv:J0M s0.w r o=some v):J0M s.w r o=some v:=
 t.keep.cell (fun⟨b,hb⟩=>(hi.const r o hc).2 b hb) hv
theorem J0u.mono{s0 s:Sn}(hi:Inv s0)(t:J0k s0 s){x v}(h:J0u s0.w s0.g.C x v):J0u s.w s.g.C x v:=by
 induction h with
 |b x=>exact .b x
 |i k n=>exact .i k n
 |s l=>exact .s l
 |np=>exact .np
 |nf=>exact .nf
 |sl0 esz a cap=>exact .sl0 esz a cap
 |sl esz rows r o cap vals h1 h2 h3 _ ih=>
  exact .sl esz rows r o cap vals h1 h2 (λi j row x hr hx=>⟨t.cmono _ _ (h3 i j row x hr hx).1,hi.cfix t (h3 i j row x hr hx).1 (h3 i j row x hr hx).2⟩) ih
 |slc esz rows a _ ih=>exact .slc esz rows a ih
theorem JDg.mono{s0 s:Sn}(t:J0k s0 s){b}(h:JDg s0.σ b):JDg s.σ b:=by obtain⟨cs,h⟩:=h;obtain⟨⟨cs',e,_⟩,_⟩:=t.box b cs h;exact⟨cs',e⟩
theorem JL.mono{s0 s:Sn}(hi:Inv s0)(t:J0k s0 s){x v}(h:JL s0 x v):JL s x v:=by
 induction h with
 |p c v h=>exact .p c v (h.mono hi t)
 |data cs vs h1 h2=>exact .data cs vs h1 λi x v hx hv=>(h2 i x v hx hv).mono hi t
 |agg cs vs h1 h2 _ ih=>exact .agg cs vs h1 h2 ih
 |tup cs vs h1 _ ih=>exact .tup cs vs h1 ih
 |ptr b off r o h1 h2=>
  obtain⟨cs,h3⟩:=h2;exact .ptr b off r o ((t.box b cs h3).2.trans h1) (.mono t ⟨cs,h3⟩)
 |cp cs off r o vals h1 h2=>exact .cp cs off r o vals (λj x hx=>⟨t.cmono _ _ (h1 j x hx).1,hi.cfix t (h1 j x hx).1 (h1 j x hx).2⟩) λj x hx=>(h2 j x hx).mono hi t
 |slr b i n v wm esz rows k h1 h2 h3=>
  obtain⟨wm',rows',a,_,c,d⟩:=t.arr b wm esz rows h1;refine .slr b i n v wm' esz rows' k a (zQ2 h2 c) λe=>?_;have g:rows'.length=rows.length:=by omega
  rcases h3 (by omega)with⟨m,A,hn,hv⟩|⟨r,cap,D,e1,fz,m,hv,q,C,hs⟩
  ·exact .inl ⟨(d g).trans m,A,hn,hv⟩
  ·obtain⟨c',B,E,_⟩:=t.keep.2.1 r D e1 fz C;exact .inr ⟨r,cap,c',e1,fz,(d g).trans m,hv,q,B,by omega⟩
 |ep b ext i off v wm esz rows k h1 h2 h3=>
  obtain⟨wm',rows',a,_,c,d⟩:=t.arr b wm esz rows h1;refine .ep b ext i off v wm' esz rows' k a (zQ2 h2 c) λe w=>?_;have g:rows'.length=rows.length:=by omega
  obtain⟨r,m,hv⟩:=h3 (by omega) w;exact⟨r,(d g).trans m,hv⟩
 |fn f first caps fs cs h1 h2 _ _ y z=>exact .fn f first caps fs cs h1 h2 y z
 |unk x=>exact .unk x
theorem Jaa{s0 s:Sn}(hi:Inv s0)(t:J0k s0 s)(D:Nat->Prop)
  (same: ∀b,¬D b->s.σ[b]?=s0.σ[b]?/\s.g.μ b=s0.g.μ b)
  (n: ∀b r o v,¬D b->Wr1 s0 b r o->J0M s0.w r o=some v->J0M s.w r o=some v)
  (I: ∀b cs,D b->s.σ[b]?=some (.box cs)->JDn s b cs)
  (M: ∀b wm esz rows,D b->s.σ[b]?=some (.arr wm esz rows)->JDA s b wm esz rows)
  (k: ∀b1 b2 r o,D b1->Wr1 s b1 r o->Wr1 s b2 r o->b1=b2)
  (B: ∀r o,s.g.C r o->r<s.w.heap.size)
  (y: ∀r o b,s.g.C r o->D b-> ¬Wr1 s b r o)
  (A: ∀r o b,s.g.C r o-> ¬s0.g.C r o-> ¬D b-> ¬Wr1 s0 b r o):Inv s:=by
 have E: ∀b r o,¬D b->(Wr1 s b r o↔Wr1 s0 b r o):=by intro b r o hd;obtain⟨h1,h2⟩:=same b hd;unfold Wr1;rw[h1,h2]
 have cells: ∀(r:Nat) c e fz,s0.w.heap[r]?=some (.cells c e fz)-> ∃c',s.w.heap[r]?=some (.cells c' e fz)/\c'.size=c.size/\ ∀o v,J0M s.w r o=some v->c'[o]?=some v:=by intro r c e fz hr;obtain⟨c',h1,h2,_⟩:=t.keep.2.1 r c e fz hr;exact⟨c',h1,h2,λo v h=>by rw[<-h,J2C h1]⟩
 refine⟨?_,?_,?_,?_⟩
 ·intro b cs hb;by_cases hd:D b
  ·exact I b cs hd hb
  ·obtain⟨h1,h2⟩:=same b hd;obtain⟨r,o,c,e,fz,m,q,hl,hx,hf⟩:=hi.box b cs (h1▸hb);obtain⟨c',J,R,K⟩:=cells r c e fz q;refine⟨r,o,c',e,fz,h2.trans m,J,by omega,λi x F=>?_,hf⟩;obtain⟨v,hv,hr,O⟩:=hx i x F;refine⟨v,K _ _ (n b r (o+i) v hd ?_ (by rw[J2C q];exact hv)),hr.mono hi t,O⟩;have:i<cs.length:=by
    rcases zQ1 i cs.length with h|h
    ·exact h
    ·simp[zQ3 h]at F
   have z:s0.σ[b]?=some (.box cs):=h1▸hb;unfold Wr1;rw[z];exact⟨o,m,by omega,by omega⟩
 ·intro b wm esz rows hb;by_cases hd:D b
  ·exact M b wm esz rows hd hb
  ·obtain⟨h1,h2⟩:=same b hd;rcases hi.arr b wm esz rows (h1▸hb)with⟨m,hr⟩|⟨r,c,e,fz,m,q,L,hl,hx,hf⟩
   ·exact .inl ⟨h2.trans m,hr⟩
   ·obtain⟨c',J,R,K⟩:=cells r c e fz q;refine .inr ⟨r,c',e,fz,h2.trans m,J,L,by omega,λi j row x P Q=>?_,R▸hf⟩;obtain⟨⟨v,hv,hr⟩,hc⟩:=hx i j row x P Q;refine⟨⟨v,K _ _ ?_,hr.mono hi t⟩,λe=>t.cmono _ _ (hc e)⟩;cases wm with
    |true=>
     refine n b r _ v hd ?_ (by rw[J2C q];exact hv);have z:s0.σ[b]?=some (.arr true esz rows):=h1▸hb;unfold Wr1;rw[z];exact⟨0,m⟩
    |false=>exact hi.cfix t (hc rfl) (by rw[J2C q];exact hv)
 ·intro b1 b2 r o h1 h2;by_cases H:D b1
  ·exact k b1 b2 r o H h1 h2
  ·by_cases G:D b2
   ·exact(k b2 b1 r o G h2 h1).symm
   ·exact hi.apart b1 b2 r o ((E b1 r o H).1 h1) ((E b2 r o G).1 h2)
 ·intro r o hc;refine⟨B r o hc,λb hb=>?_⟩;by_cases hd:D b
  ·exact y r o b hc hd hb
  ·by_cases N:s0.g.C r o
   ·exact(hi.const r o N).2 b ((E b r o hd).1 hb)
   ·exact A r o b hc N hd ((E b r o hd).1 hb)
end Go.Am
end
section
namespace Go.Am
theorem J16{σ:List Blk}{b:Nat}{x y:Blk}(h:σ[b]?=some x):(σ.set b y)[b]?=some y:=by
 have:b<σ.length:=by
  rcases zQ1 b σ.length with e|e
  ·exact e
  ·simp[zQ3 e]at h
 simp[this]
theorem J0t{σ:List Blk}{b c:Nat}{y:Blk}(h:b≠c):(σ.set b y)[c]?=σ[c]?:=by simp[h]
theorem Jrb{s0:Sn}(hi:Inv s0){w':World}(j:w'.heap=s0.w.heap)(ho:w'.os=s0.w.os)(hp:w'.output=s0.w.output):
  Inv ⟨s0.σ,s0.g,w'⟩/\J0k s0 ⟨s0.σ,s0.g,w'⟩:=by
 have hc: ∀r o,J0M w' r o=J0M s0.w r o:=λr o=>by unfold J0M;rw[j]
 have t:J0k s0 ⟨s0.σ,s0.g,w'⟩:=by
  refine⟨⟨by rw[j];exact zQ0 _,λr c e fz h=>⟨c,by rw[j];exact h,rfl,λ_ _=>rfl⟩,λr x h _=>by rw[j];exact h,ho,hp⟩,λ_ _ h=>h,λ_ _ h=>.inl h,λr o ⟨b,hb⟩=>.inl ⟨b,hb⟩,zQ0 _,λ_ cs h=>⟨⟨cs,h,rfl⟩,rfl⟩,
   λ_ wm _ rows h=>⟨wm,rows,h,id,zQ0 _,λ_=>rfl⟩⟩
 exact⟨Jaa hi t (λ_=>False) (λ_ _=>⟨rfl,rfl⟩) (λ_ r o v _ _ h=>by rw[hc];exact h) (λ_ _ h=>h.elim) (λ_ _ _ _ h=>h.elim)
  (λ_ _ _ _ h=>h.elim) (λr o h=>by show r<w'.heap.size;rw[j];exact(hi.const r o h).1) (λ_ _ _ _ h=>h.elim) (λ_ _ _ h k=>(k h).elim),t⟩
theorem JhR{W:Nat->Nat->Prop}{w w':World}{x:Obj}(g:w'.heap=w.heap.push x)(ho:w'.os=w.os)(hp:w'.output=w.output):Jg2 W w w':=by
 have hr: ∀(r:Nat) y,w.heap[r]?=some y->w'.heap[r]?=some y:=by
  intro r y h;have:=J2s h;rw[g,Array.getElem?_push];split
  ·omega
  ·exact h
 exact⟨by rw[g];simp,λr c e fz h=>⟨c,hr r _ h,rfl,λ_ _=>rfl⟩,λr y h _=>hr r y h,ho,hp⟩
theorem Jbq{w w':World}{x:Obj}(e:w'.heap=w.heap.push x):w'.heap[w.heap.size]?=some x:=by rw[e];simp
theorem JoZ{w w':World}{x:Obj}(e:w'.heap=w.heap.push x){r o v}(h:J0M w r o=some v):J0M w' r o=some v:=
 (JhR (W:=λ_ _=>False) (w:=w) (w':={w' with os:=w.os,output:=w.output}) e rfl rfl).cell (λh=>h) h
def J5r(g:Gh)(new:Nat)(x:Option (Nat×Nat)):Gh:=⟨λb=>if b=new then x else g.μ b,g.C⟩
theorem JAb{s0 s:Sn}{new:Nat}{blk:Blk}(hd:s0.σ[new]?=some .dead)(hs:s.σ=s0.σ.set new blk)(x:Option (Nat×Nat))(k:s.g.μ=(J5r s0.g new x).μ):
  s0.σ.length<=s.σ.length/\(∀b cs,s0.σ[b]?=some (.box cs)->(∃cs',s.σ[b]?=some (.box cs')/\cs'.length=cs.length)/\s.g.μ b=s0.g.μ b)/\
  (∀b wm esz rows,s0.σ[b]?=some (.arr wm esz rows)-> ∃wm' rows',s.σ[b]?=some (.arr wm' esz rows')/\(wm'=true->wm=true)/\
  rows.length<=rows'.length/\(rows'.length=rows.length->s.g.μ b=s0.g.μ b)):=by
 have hn: ∀b y,s0.σ[b]?=some y->y≠.dead->s.σ[b]?=some y/\s.g.μ b=s0.g.μ b:=by
  intro b y hb hy;have j:new≠b:=by rintro rfl;rw[hd]at hb;exact hy (by injection hb with h;exact h.symm)
  rw[hs,J0t j,k];exact⟨hb,if_neg (λe=>j e.symm)⟩
 refine⟨by rw[hs];simp,λb cs h=>?_,λb wm esz rows h=>?_⟩
 ·obtain⟨a,m⟩:=hn b _ h (by simp);exact⟨⟨cs,a,rfl⟩,m⟩
 ·obtain⟨a,m⟩:=hn b _ h (by simp);exact⟨wm,rows,a,id,zQ0 _,λ_=>m⟩
def JTr(s0:Sn)(c:Array Value):Blk->Prop
 | .box cs=>cs.length<=c.size/\ ∀(i:Nat) x,cs[i]?=some x-> ∃v,c[i]?=some v/\JL s0 x v/\v.oneCell'=true
 | .arr true esz rows=>(∀row∈rows,row.length=esz)/\rows.length*esz<=c.size/\
   ∀(i j:Nat) row x,rows[i]?=some row->row[j]?=some x-> ∃v,c[i*esz+j]?=some v/\J0u s0.w s0.g.C x v
 |_=>False
theorem JrV{s0:Sn}(hi:Inv s0){new:Nat}(hd:s0.σ[new]?=some .dead){blk:Blk}{c:Array Value}{e:TypeId}{fz:Nat×Nat}{w':World}
  (B:w'.heap=s0.w.heap.push (.cells c e fz)) (ho:w'.os=s0.w.os) (hp:w'.output=s0.w.output) (hf:JxJ fz 0 c.size) (H: ∀wm esz rows,blk=.arr wm esz rows->esz≠1-> ¬(fz.1<=c.size/\c.size<fz.2)) (hb:JTr s0 c blk):
  Inv ⟨s0.σ.set new blk,J5r s0.g new (some (s0.w.heap.size,0)),w'⟩/\J0k s0 ⟨s0.σ.set new blk,J5r s0.g new (some (s0.w.heap.size,0)),w'⟩:=by
 have y:(s0.σ.set new blk)[new]?=some blk:=J16 hd;have G: ∀b r o,b≠new->(Wr1 ⟨s0.σ.set new blk,J5r s0.g new (some (s0.w.heap.size,0)),w'⟩ b r o↔Wr1 s0 b r o):=by intro b r o z;unfold Wr1;simp only[J5r,if_neg z,J0t (Ne.symm z)]
 have A: ∀r o,Wr1 ⟨s0.σ.set new blk,J5r s0.g new (some (s0.w.heap.size,0)),w'⟩ new r o->r=s0.w.heap.size:=by
  intro r o h;unfold Wr1 at h;simp only[y,J5r]at h;split at h
  ·obtain⟨C,m,_⟩:=h;simp at m;exact m.1.symm
  ·obtain⟨C,m⟩:=h;simp at m;exact m.1.symm
  ·obtain⟨C,m,_⟩:=h;simp at m;exact m.1.symm
  ·exact h.elim
 have F: ∀b r o,Wr1 s0 b r o->r<s0.w.heap.size:=by
  intro b r o h;unfold Wr1 at h;split at h
  ·rename_i cs hb;obtain⟨r',L,c',e',D,m,k,_⟩:=hi.box b cs hb;obtain⟨C,n,_⟩:=h;rw[m]at n;injection n with n;injection n with m1 _
   exact m1▸J2s k
  ·rename_i hb;obtain⟨C,n⟩:=h;rcases hi.arr b _ _ _ hb with⟨m,_⟩|⟨r',c',e',D,m,k,_⟩
   ·rw[m]at n;cases n
   ·rw[m]at n;injection n with n;injection n with m1 _
    exact m1▸J2s k
  ·rename_i hb;obtain⟨C,n,_⟩:=h;rcases hi.arr b _ _ _ hb with⟨m,_⟩|⟨r',c',e',D,m,k,_⟩
   ·rw[m]at n;cases n
   ·rw[m]at n;injection n with n;injection n with m1 _
    exact m1▸J2s k
  ·exact h.elim
 have t:J0k s0 ⟨s0.σ.set new blk,J5r s0.g new (some (s0.w.heap.size,0)),w'⟩:=by
  obtain⟨I,K,J⟩:=JAb (s:=⟨s0.σ.set new blk,J5r s0.g new (some (s0.w.heap.size,0)),w'⟩) hd rfl (some (s0.w.heap.size,0)) rfl;refine⟨JhR B ho hp,λ_ _ h=>h,λ_ _ h=>.inl h,?_,I,K,J⟩;rintro r o ⟨b,hb⟩;by_cases e:b=new
  ·subst e;exact .inr (zQ4 (A r o hb).symm)
  ·exact .inl ⟨b,(G b r o e).1 hb⟩
 refine⟨Jaa hi t (λb=>b=new) (λb z=>⟨J0t (Ne.symm z),if_neg z⟩) (λb r o v _ _ h=>JoZ B h) ?_ ?_ ?_ ?_ ?_ ?_,t⟩
 ·rintro b cs rfl q;rw[y]at q;injection q with q;subst q
  obtain⟨h1,h2⟩:=hb;refine⟨s0.w.heap.size,0,c,e,fz,if_pos rfl,Jbq B,by omega,λi x hx=>?_,λo _ hl=>hf o (zQ5 _) (by omega)⟩;obtain⟨v,hv,hr,E⟩:=h2 i x hx;exact⟨v,by rw[zQ6];exact hv,hr.mono hi t,E⟩
 ·rintro b wm esz rows rfl q;rw[y]at q;injection q with q;subst q
  cases wm with
  |false=>exact hb.elim
  |true=>
   obtain⟨h1,h2,h3⟩:=hb;refine .inr ⟨s0.w.heap.size,c,e,fz,if_pos rfl,Jbq B,h1,h2,λi j row x hr hx=>⟨?_,λh=>by cases h⟩,hf,H _ _ _ rfl⟩;obtain⟨v,hv,hr⟩:=h3 i j row x hr hx;exact⟨v,hv,hr.mono hi t⟩
 ·rintro b1 b2 r o rfl h1 h2;by_cases e:b2=b1
  ·exact e.symm
  ·have:=F _ _ _ ((G b2 r o e).1 h2);have:=A r o h1;omega
 ·intro r o hc;show r<w'.heap.size;rw[B];have:=(hi.const r o hc).1;simp;omega
 ·rintro r o b hc rfl h;have:=(hi.const r o hc).1;have:=A r o h;omega
 ·exact λr o b hc hn=>(hn hc).elim
theorem JlD{s0:Sn}(hi:Inv s0): ∀b r o,Wr1 s0 b r o->r<s0.w.heap.size:=by
 intro b r o h;unfold Wr1 at h;split at h
 ·rename_i cs hb;obtain⟨r',n,c',e',g,m,k,_⟩:=hi.box b cs hb;obtain⟨j,e,_⟩:=h;rw[m]at e;injection e with e;injection e with m1 _
  exact m1▸J2s k
 ·rename_i hb;obtain⟨j,e⟩:=h;rcases hi.arr b _ _ _ hb with⟨m,_⟩|⟨r',c',e',g,m,k,_⟩
  ·rw[m]at e;cases e
  ·rw[m]at e;injection e with e;injection e with m1 _
   exact m1▸J2s k
 ·rename_i hb;obtain⟨j,e,_⟩:=h;rcases hi.arr b _ _ _ hb with⟨m,_⟩|⟨r',c',e',g,m,k,_⟩
  ·rw[m]at e;cases e
  ·rw[m]at e;injection e with e;injection e with m1 _
   exact m1▸J2s k
 ·exact h.elim
theorem JrO{s0:Sn}(hi:Inv s0){new:Nat}(hd:s0.σ[new]?=some .dead)(esz:Nat):
  Inv ⟨s0.σ.set new (.arr true esz []),J5r s0.g new none,s0.w⟩/\J0k s0 ⟨s0.σ.set new (.arr true esz []),J5r s0.g new none,s0.w⟩:=by
 have j:(s0.σ.set new (Blk.arr true esz []))[new]?=some (.arr true esz []):=J16 hd;have A: ∀b r o,b≠new->(Wr1 ⟨s0.σ.set new (.arr true esz []),J5r s0.g new none,s0.w⟩ b r o↔Wr1 s0 b r o):=by intro b r o k;unfold Wr1;simp only[J5r,if_neg k,J0t (Ne.symm k)]
 have q: ∀r o,¬Wr1 ⟨s0.σ.set new (.arr true esz []),J5r s0.g new none,s0.w⟩ new r o:=by intro r o h;unfold Wr1 at h;simp only[j,J5r]at h;simp at h
 have t:J0k s0 ⟨s0.σ.set new (.arr true esz []),J5r s0.g new none,s0.w⟩:=by
  obtain⟨x,B,y⟩:=JAb (s:=⟨s0.σ.set new (.arr true esz []),J5r s0.g new none,s0.w⟩) hd rfl none rfl;refine⟨.refl _ _,λ_ _ h=>h,λ_ _ h=>.inl h,?_,x,B,y⟩;rintro r o ⟨b,hb⟩;by_cases e:b=new
  ·subst e;exact(q r o hb).elim
  ·exact .inl ⟨b,(A b r o e).1 hb⟩
 refine⟨Jaa hi t (λb=>b=new) (λb k=>⟨J0t (Ne.symm k),if_neg k⟩) (λb r o v _ _ h=>h) ?_ ?_ ?_ ?_ ?_ ?_,t⟩
 ·rintro b cs rfl n;rw[j]at n;cases n
 ·rintro b wm z rows rfl n;rw[j]at n;cases n;exact .inl ⟨if_pos rfl,rfl⟩
 ·rintro b1 b2 r o rfl h1 h2;exact(q r o h1).elim
 ·exact λr o hc=>(hi.const r o hc).1
 ·rintro r o b hc rfl h;exact q r o h
 ·exact λr o b hc hn=>(hn hc).elim
def JtQ(g:Gh)(p:Nat->Nat->Prop):Gh:=⟨g.μ,λr o=>g.C r o\/p r o⟩
theorem JNr{s0:Sn}(hi:Inv s0){x:Obj}{w':World}
  (e:w'.heap=s0.w.heap.push x) (ho:w'.os=s0.w.os) (hp:w'.output=s0.w.output):
  Inv ⟨s0.σ,JtQ s0.g λr _=>r=s0.w.heap.size,w'⟩/\J0k s0 ⟨s0.σ,JtQ s0.g λr _=>r=s0.w.heap.size,w'⟩:=by
 have t:J0k s0 ⟨s0.σ,JtQ s0.g λr _=>r=s0.w.heap.size,w'⟩:=by
  refine⟨JhR e ho hp,λ_ _ h=>.inl h,λr o h=>?_,λr o h=>.inl h,zQ0 _,λ_ cs h=>⟨⟨cs,h,rfl⟩,rfl⟩,
   λ_ wm _ rows h=>⟨wm,rows,h,id,zQ0 _,λ_=>rfl⟩⟩
  rcases h with h|h
  ·exact .inl h
  ·exact .inr (.inr (zQ4 h.symm))
 refine⟨Jaa hi t (λ_=>False) (λ_ _=>⟨rfl,rfl⟩) (λb r o v _ _ h=>JoZ e h) (λ_ _ h=>h.elim) (λ_ _ _ _ h=>h.elim)
  (λ_ _ _ _ h=>h.elim) ?_ (λ_ _ _ _ h=>h.elim) ?_,t⟩
 ·intro r o hc;show r<w'.heap.size;rw[e];rcases hc with hc|hc
  ·have:=(hi.const r o hc).1;simp;omega
  ·simp;omega
 ·intro r o b hc hn _ h;rcases hc with hc|hc
  ·exact hn hc
  ·have:=JlD hi b r o h;omega
structure Put(r:Nat)(o:Nat)(vs:List Value)(w w':World):Prop where
 there: ∃c e fz c',w.heap[r]?=some (.cells c e fz)/\w'.heap[r]?=some (.cells c' e fz)/\c'.size=c.size/\o+vs.length<=c.size/\
  (∀(j:Nat) v,vs[j]?=some v->c'[o+j]?=some v)/\ ∀k,(k<o\/o+vs.length<=k)->c'[k]?=c[k]?
 rest: ∀r':Nat,r'≠r->w'.heap[r']?=w.heap[r']?
 size:w'.heap.size=w.heap.size
 os:w'.os=w.os
 output:w'.output=w.output
theorem Put.keep{W:Nat->Nat->Prop}{r o vs w w'}(h:Put r o vs w w')(hw: ∀k,o<=k->k<o+vs.length->W r k):Jg2 W w w':=by
 obtain⟨c,e,fz,c',h1,h2,h3,_,_,h5⟩:=h.there;refine⟨zQ4 h.size.symm,λr' j e1 fz1 hr=>?_,λr' x hr hx=>?_,h.os,h.output⟩
 ·by_cases e':r'=r
  ·subst e';rw[h1]at hr;injection hr with hr;injection hr with a1 a2 a3
   subst a1 a2 a3;refine⟨c',h2,h3,λk hk=>h5 k ?_⟩;rcases zQ1 k o with h|h
   ·exact .inl h
   ·rcases zQ1 k (o+vs.length)with g|g
    ·exact(hk (hw k h g)).elim
    ·exact .inr g
  ·exact⟨j,by rw[h.rest r' e'];exact hr,rfl,λ_ _=>rfl⟩
 ·by_cases e':r'=r
  ·subst e';rw[h1]at hr;injection hr with hr;exact(hx _ _ _ hr.symm).elim
  ·rw[h.rest r' e'];exact hr
theorem Put.cell{r o vs w w'}(h:Put r o vs w w'){r' k v}(hv:J0M w r' k=some v)(hn:r'≠r\/k<o\/o+vs.length<=k):J0M w' r' k=some v:=by
 obtain⟨c,e,fz,c',h1,h2,h3,_,_,h5⟩:=h.there;by_cases e':r'=r
 ·subst e';rw[J2C h1]at hv;rw[J2C h2,h5 k (hn.resolve_left (λh=>h rfl)),hv]
 ·unfold J0M;rw[h.rest r' e'];exact hv
inductive Jva:Blk->Blk->Prop where
 |box (cs cs':List AV):cs'.length=cs.length->Jva (.box cs) (.box cs')
 |arr (esz:Nat) (rows rows':List (List PV)):rows'.length=rows.length->Jva (.arr true esz rows) (.arr true esz rows')
theorem JqF{s0:Sn}(hi:Inv s0){b:Nat}{A blk:Blk}{r o:Nat}{vs:List Value}{w':World}(hb:s0.σ[b]?=some A)
  (q:Put r o vs s0.w w') (hw: ∀k,o<=k->k<o+vs.length->Wr1 s0 b r k)
  (hk:Jva A blk)
  (D: ∀cs,blk=.box cs->(∀{x v},JL s0 x v->JL ⟨s0.σ.set b blk,s0.g,w'⟩ x v)->JDn ⟨s0.σ.set b blk,s0.g,w'⟩ b cs)
  (E: ∀esz rows,blk=.arr true esz rows->(∀{x v},J0u s0.w s0.g.C x v->J0u w' s0.g.C x v)->JDA ⟨s0.σ.set b blk,s0.g,w'⟩ b true esz rows):
  Inv ⟨s0.σ.set b blk,s0.g,w'⟩/\J0k s0 ⟨s0.σ.set b blk,s0.g,w'⟩:=by
 have n:(s0.σ.set b blk)[b]?=some blk:=J16 hb;have z: ∀j r o,(Wr1 ⟨s0.σ.set b blk,s0.g,w'⟩ j r o↔Wr1 s0 j r o):=by
  intro j r o;by_cases e:j=b
  ·subst e;unfold Wr1;simp only[n,hb];cases hk with
   |box cs cs' hl=>simp[hl]
   |arr esz rows rows' hl=>simp
  ·unfold Wr1;simp only[J0t (Ne.symm e)]
 have t:J0k s0 ⟨s0.σ.set b blk,s0.g,w'⟩:=by
  refine⟨q.keep λk h1 h2=>⟨b,hw k h1 h2⟩,λ_ _ h=>h,λ_ _ h=>.inl h,λr o ⟨j,h⟩=>.inl ⟨j,(z j r o).1 h⟩,by simp,λj cs h=>?_,λj wm esz rows h=>?_⟩
  ·by_cases e:j=b
   ·subst e;rw[hb]at h;injection h with h;subst h
    cases hk with
    |box _ cs' hl=>exact⟨⟨_,n,hl⟩,rfl⟩
   ·exact⟨⟨cs,by rw[<-h];exact J0t (Ne.symm e),rfl⟩,rfl⟩
  ·by_cases e:j=b
   ·subst e;rw[hb]at h;injection h with h;subst h
    cases hk with
    |arr _ _ rows' hl=>exact⟨_,_,n,id,zQ4 hl.symm,λ_=>rfl⟩
   ·exact⟨wm,rows,by rw[<-h];exact J0t (Ne.symm e),id,zQ0 _,λ_=>rfl⟩
 refine⟨Jaa hi t (λj=>j=b) (λj y=>⟨J0t (Ne.symm y),rfl⟩) ?_ ?_ ?_ ?_ ?_ ?_ ?_,t⟩
 ·intro j r' k v y F hv;refine q.cell hv ?_;rcases zQ1 k o with h|h
  ·exact .inr (.inl h)
  ·rcases zQ1 k (o+vs.length)with B|B
   ·refine .inl λe=>y ?_;subst e;exact hi.apart _ _ _ _ F (hw k h B)
   ·exact .inr (.inr B)
 ·rintro j cs rfl h;rw[n]at h;injection h with h;subst h
  exact D _ rfl λh=>h.mono hi t
 ·rintro j wm esz rows rfl h;rw[n]at h;injection h with h;subst h
  cases hk with
  |arr _ _ rows' hl=>exact E _ _ rfl λh=>h.mono hi t
 ·rintro b1 b2 r o rfl h1 h2;exact hi.apart _ _ _ _ ((z _ _ _).1 h1) ((z _ _ _).1 h2)
 ·intro r o hc;show r<w'.heap.size;rw[q.size];exact(hi.const r o hc).1
 ·rintro r o j hc rfl h;exact(hi.const r o hc).2 _ ((z _ _ _).1 h)
 ·exact λr o b hc hn=>(hn hc).elim
end Go.Am
end
section
namespace Go.Am
theorem J6f{a b n e:Nat}(h1:a<n)(h2:b<e):a*e+b<n*e:=by have h:(a+1)*e<=n*e:=zQ7 e h1;rw[zQ8]at h;omega
theorem Ji{α:Type}{l:List α}{i:Nat}{x:α}(h:l[i]?=some x):i<l.length:=by
 rcases zQ1 i l.length with e|e
 ·exact e
 ·simp[zQ3 e]at h
theorem JeY{α:Type}{l:Array α}{i:Nat}{x:α}(h:l[i]?=some x):i<l.size:=by
 rcases zQ1 i l.size with e|e
 ·exact e
 ·simp[Array.getElem?_eq_none e]at h
theorem J0F{α:Type}{l:List α}{i:Nat}{x:α}(h:l[i]?=some x):x∈l:=zQ9 h
def Frz(σ τ:List Blk):Prop:=(∀(b:Nat) wm esz rows,σ[b]?=some (Blk.arr wm esz rows)-> ∃wm',τ[b]?=some (Blk.arr wm' esz rows))/\(∀(b:Nat) x,σ[b]?=some x->(∀wm esz rows,x≠Blk.arr wm esz rows)->τ[b]?=some x)
theorem Frz.refl(σ):Frz σ σ:=⟨λ_ wm _ _ h=>⟨wm,h⟩,λ_ _ h _=>h⟩
theorem Frz.trans{a b c}(h:Frz a b)(e:Frz b c):Frz a c:=
 ⟨λn wm esz rows hn=>let⟨wm',h1⟩:=h.1 n wm esz rows hn;e.1 n wm' esz rows h1,λn x hn hx=>e.2 n x (h.2 n x hn hx) hx⟩
theorem JLB{s0:Sn}(hi:Inv s0){b:Nat}{wm:Bool}{esz:Nat}{rows:List (List PV)}(hb:s0.σ[b]?=some (.arr wm esz rows)):
  ∃g',g'.μ=s0.g.μ/\Inv ⟨s0.σ.set b (.arr false esz rows),g',s0.w⟩/\J0k s0 ⟨s0.σ.set b (.arr false esz rows),g',s0.w⟩/\
   Frz s0.σ (s0.σ.set b (.arr false esz rows)):=by
 have k:(s0.σ.set b (.arr false esz rows))[b]?=some (.arr false esz rows):=J16 hb;have y:Frz s0.σ (s0.σ.set b (.arr false esz rows)):=by
  refine⟨λn wm' B rows' hn=>?_,λn x hn hx=>?_⟩
  ·by_cases e:n=b
   ·subst e;rw[hb]at hn;injection hn with hn;injection hn with h1 h2 h3;subst h2 h3;exact⟨_,k⟩
   ·exact⟨wm',by rw[J0t (Ne.symm e)];exact hn⟩
  ·by_cases e:n=b
   ·subst e;rw[hb]at hn;injection hn with hn;exact(hx _ _ _ hn.symm).elim
   ·rw[J0t (Ne.symm e)];exact hn
 cases wm with
 |false=>
  have hs:s0.σ.set b (.arr false esz rows)=s0.σ:=by
   apply Jp5;intro n;by_cases e:n=b
   ·subst e;rw[k,hb]
   ·rw[J0t (Ne.symm e)]
  refine⟨s0.g,rfl,?_,?_,y⟩
  ·rw[hs];exact hi
  ·rw[hs];exact J0k.refl s0
 |true=>
  refine⟨JtQ s0.g λr o=>s0.g.μ b=some (r,0)/\o<rows.length*esz,rfl,?_⟩;have D: ∀q r o,Wr1 ⟨s0.σ.set b (.arr false esz rows),JtQ s0.g λr o=>s0.g.μ b=some (r,0)/\o<rows.length*esz,s0.w⟩ q r o->Wr1 s0 q r o:=by
   intro q r o h;by_cases e:q=b
   ·subst e;unfold Wr1 at h⊢;simp only[k,hb]at h⊢;obtain⟨G,m,_⟩:=h;exact⟨G,m⟩
   ·unfold Wr1 at h⊢;simp only[J0t (Ne.symm e)]at h;exact h
  have t:J0k s0 ⟨s0.σ.set b (.arr false esz rows),JtQ s0.g λr o=>s0.g.μ b=some (r,0)/\o<rows.length*esz,s0.w⟩:=by
   refine⟨.refl _ _,λ_ _ h=>.inl h,λr o h=>?_,λr o ⟨q,h⟩=>.inl ⟨q,D q r o h⟩,by simp,λq cs h=>?_,λq wm B rows' h=>?_⟩
   ·rcases h with h|⟨h,_⟩
    ·exact .inl h
    ·refine .inr (.inl ⟨b,?_⟩);unfold Wr1;rw[hb];exact⟨0,h⟩
   ·refine⟨⟨cs,y.2 q _ h (by simp),rfl⟩,rfl⟩
   ·by_cases e:q=b
    ·subst e;rw[hb]at h;injection h with h;injection h with h1 h2 h3;subst h1 h2 h3
     exact⟨false,rows,k,by simp,zQ0 _,λ_=>rfl⟩
    ·exact⟨wm,rows',by rw[<-h];exact J0t (Ne.symm e),id,zQ0 _,λ_=>rfl⟩
  refine⟨Jaa hi t (λq=>q=b) (λq z=>⟨J0t (Ne.symm z),rfl⟩) (λ_ _ _ _ _ _ h=>h) ?_ ?_ ?_ ?_ ?_ ?_,t,y⟩
  ·rintro q cs rfl h;rw[k]at h;cases h
  ·rintro q wm B rows' rfl h;rw[k]at h;cases h;rcases hi.arr _ _ _ _ hb with⟨m,hr⟩|⟨r,c,e,fz,m,F,C,hl,hx,hf⟩
   ·exact .inl ⟨m,hr⟩
   ·refine .inr ⟨r,c,e,fz,m,F,C,hl,λi j row x A E=>?_,hf⟩;obtain⟨⟨v,hv,hr⟩,_⟩:=hx i j row x A E;refine⟨⟨v,hv,hr.mono hi t⟩,λ_=>.inr ⟨m,?_⟩⟩;have h1:=Ji A;have h2:=Ji E;rw[C row (J0F A)]at h2;exact J6f h1 h2
  ·rintro b1 b2 r o rfl h1 h2;exact hi.apart _ _ _ _ (D _ _ _ h1) (D _ _ _ h2)
  ·intro r o hc;rcases hc with hc|⟨hc,_⟩
   ·exact(hi.const r o hc).1
   ·rcases hi.arr _ _ _ _ hb with⟨m,_⟩|⟨r',c,e,fz,m,F,_⟩
    ·rw[m]at hc;cases hc
    ·rw[m]at hc;injection hc with hc;injection hc with hc _;exact hc▸J2s F
  ·rintro r o q hc rfl h;rcases hc with hc|⟨hc,ho⟩
   ·exact(hi.const r o hc).2 _ (D _ _ _ h)
   ·unfold Wr1 at h;simp only[k]at h;obtain⟨G,_,H⟩:=h;omega
  ·intro r o q hc hn z h;rcases hc with hc|⟨hc,ho⟩
   ·exact hn hc
   ·refine z (hi.apart _ _ r o h ?_);unfold Wr1;rw[hb];exact⟨0,hc⟩
def J6U(s:Sn)(esz:Nat)(rows:List (List PV))(v:Value):Prop:= ∃a cap,v=.slice a rows.length cap/\rows.length<=cap/\(∀row∈rows,row.length=esz)/\(rows=[]\/ ∃r o,a=some ⟨r,o,none⟩/\ ∀(i j:Nat) row x,rows[i]?=some row->row[j]?=some x-> ∃u,J0M s.w r (o+i*esz+j)=some u/\J0u s.w s.g.C x u)
theorem J6U.of_sl{s:Sn}{esz rows v}(h:J0u s.w s.g.C (.sl esz rows) v):J6U s esz rows v:=by
 cases h with
 |sl0 _ a cap=>exact⟨a,cap,rfl,zQ5 _,(λ_ h=>by cases h),.inl rfl⟩
 |sl _ _ r o cap vals h1 h2 h3 h4=>exact⟨_,cap,rfl,h1,h2,.inr ⟨r,o,rfl,λi j row x hr hx=>⟨_,(h3 i j row x hr hx).2,h4 i j row x hr hx⟩⟩⟩
theorem J6U.of_slr{s:Sn}(hi:Inv s){b i n v wm esz rows}(h:JL s (.slr b i n) v)(hb:s.σ[b]?=some (.arr wm esz rows))(e:i+n=rows.length):
  J6U s esz (rows.drop i) v:=by
 cases h with
 |slr _ _ _ _ wm' z rows' _ h1 h2 h3=>
  rw[hb]at h1;injection h1 with h1;injection h1 with a1 a2 a3;subst a1 a2 a3
  have hl:(rows.drop i).length=n:=by simp;omega
  rcases h3 e with⟨m,w,hn,hv⟩|⟨r,cap,c,e1,fz,m,hv,y,B,hs⟩
  ·subst w hn;have:rows=[]:=by apply List.eq_nil_of_length_eq_zero;omega
   subst this;exact⟨none,0,by simp[hv],by simp,by simp,.inl rfl⟩
  ·rcases hi.arr b wm esz rows hb with⟨g,_⟩|⟨r',c',e',A,g,q,o,hlen,hx,_⟩
   ·rw[m]at g;cases g
   ·rw[m]at g;injection g with g;injection g with g _;subst g
    refine⟨some ⟨r,i*esz,none⟩,cap,by rw[hl];exact hv,by omega,λrow hr=>o row (JLS hr),.inr ⟨r,i*esz,rfl,λk j row x hk hj=>?_⟩⟩;rw[Jb3]at hk;obtain⟨⟨u,hu,hr⟩,_⟩:=hx (i+k) j row x hk hj;refine⟨u,?_,hr⟩;rw[J2C q,<-hu]
    congr 1
    rw[J4c]
theorem J6U.mono{s0 s:Sn}(hi:Inv s0)(t:J0k s0 s){esz rows v}(h:J6U s0 esz rows v)(hc: ∀r o u,J0M s0.w r o=some u->J0M s.w r o=some u):J6U s esz rows v:=by obtain⟨a,cap,h1,h2,h3,h4⟩:=h;refine⟨a,cap,h1,h2,h3,h4.imp id ?_⟩;rintro⟨r,o,ha,hx⟩;exact⟨r,o,ha,λi j row x hr hj=>let⟨u,h5,e⟩:=hx i j row x hr hj;⟨u,hc _ _ _ h5,e.mono hi t⟩⟩
theorem JiG{s:Sn}{esz:Nat}{rows:List (List PV)}{v:Value}{a:Option Addr}{cap:Nat}(hv:v=.slice a rows.length cap)(e:rows.length<=cap)
  (h: ∀row∈rows,row.length=esz)
  (hx:rows=[]\/ ∃r o,a=some ⟨r,o,none⟩/\ ∀(i j:Nat) row x,rows[i]?=some row->row[j]?=some x->s.g.C r (o+i*esz+j)/\ ∃u,J0M s.w r (o+i*esz+j)=some u/\J0u s.w s.g.C x u):
  J0u s.w s.g.C (.sl esz rows) v:=by
 subst hv;rcases hx with rfl|⟨r,o,rfl,hx⟩
 ·exact .sl0 _ _ _
 ·refine .sl esz rows r o cap (λi j=>(J0M s.w r (o+i*esz+j)).getD .nilFunc) e h (λi j row x hr hj=>?_) λi j row x hr hj=>?_
  ·obtain⟨h1,u,h2,_⟩:=hx i j row x hr hj;exact⟨h1,by simp[h2]⟩
  ·obtain⟨_,u,h2,h3⟩:=hx i j row x hr hj;simpa[h2]using h3
theorem JNF{s0:Sn}(hi:Inv s0){b i n:Nat}{v:Value}{wm:Bool}{esz:Nat}{rows:List (List PV)}(h:JL s0 (.slr b i n) v)(hb:s0.σ[b]?=some (.arr wm esz rows))
  (e:i+n=rows.length):
  ∃g',Inv ⟨s0.σ.set b (.arr false esz rows),g',s0.w⟩/\J0k s0 ⟨s0.σ.set b (.arr false esz rows),g',s0.w⟩/\
   Frz s0.σ (s0.σ.set b (.arr false esz rows))/\J0u s0.w g'.C (.sl esz (rows.drop i)) v:=by
 obtain⟨g',K,y,t,hf⟩:=JLB hi hb;refine⟨g',y,t,hf,?_⟩;have D:=h.mono hi t;have z:(s0.σ.set b (.arr false esz rows))[b]?=some (.arr false esz rows):=J16 hb;obtain⟨a,cap,h1,h2,h3,h4⟩:=J6U.of_slr y D z e;refine JiG (s:=⟨s0.σ.set b (.arr false esz rows),g',s0.w⟩) h1 h2 h3 (h4.imp id ?_);rintro⟨r,o,rfl,hx⟩;refine⟨r,o,rfl,λk j row x hk hj=>⟨?_,hx k j row x hk hj⟩⟩;cases D with
 |slr _ _ _ _ wm' A rows' _ q1 q2 q3=>
  have q:(s0.σ.set b (.arr false esz rows))[b]?=some (.arr wm' A rows'):=q1;rw[z]at q;injection q with q;injection q with a1 a2 a3;subst a1 a2 a3
  rcases q3 e with⟨m,J,hn,hv⟩|⟨r',E,c,e1,fz,m,hv,F,L,hs⟩
  ·rw[h1]at hv;simp at hv
  ·rw[h1]at hv;injection hv with v1 v2 v3;injection v1 with v1;injection v1 with v1 v4;subst v1 v4
   rcases y.arr b false esz rows z with⟨g,_⟩|⟨r',c',e',I,g,H,G,hlen,B,_⟩
   ·rw[m]at g;cases g
   ·rw[m]at g;injection g with g;injection g with g _;subst g
    rw[Jb3]at hk;have:=(B (i+k) j row x hk hj).2 rfl;rw[J4c]at this;exact this
end Go.Am
end
section
namespace Go.Am
theorem JcZ{α:Type}{a b:List α}{i:Nat}{x:α}(h:(a++b)[i]?=some x):a[i]?=some x\/(a.length<=i/\b[i-a.length]?=some x):=by
 rw[List.getElem?_append]at h;split at h
 ·exact .inl h
 ·exact .inr ⟨by omega,h⟩
def JLL(g:Gh)(wm:Bool)(r lo hi:Nat):Gh:=JtQ g λr' o=>wm=false/\r'=r/\lo<=o/\o<hi
theorem JQo{s0:Sn}(hi:Inv s0){b:Nat}{wm:Bool}{esz:Nat}{rows new:List (List PV)}{r:Nat}{vs:List Value}{w':World}
  (hb:s0.σ[b]?=some (.arr wm esz rows)) (hm:s0.g.μ b=some (r,0)) (L: ∀row∈new,row.length=esz)
  (B:Put r (rows.length*esz) vs s0.w w') (hlen:vs.length=new.length*esz)
  (hx: ∀(i j:Nat) row x,new[i]?=some row->row[j]?=some x-> ∃u,vs[i*esz+j]?=some u/\J0u s0.w s0.g.C x u):
  Inv ⟨s0.σ.set b (.arr wm esz (rows++new)),JLL s0.g wm r (rows.length*esz) ((rows.length+new.length)*esz),w'⟩/\
  J0k s0 ⟨s0.σ.set b (.arr wm esz (rows++new)),JLL s0.g wm r (rows.length*esz) ((rows.length+new.length)*esz),w'⟩:=by
 have z:(s0.σ.set b (.arr wm esz (rows++new)))[b]?=some (.arr wm esz (rows++new)):=J16 hb;have J:(rows.length+new.length)*esz=rows.length*esz+new.length*esz:=J4c _ _ _;generalize hs:(⟨s0.σ.set b (.arr wm esz (rows++new)),JLL s0.g wm r (rows.length*esz) ((rows.length+new.length)*esz),w'⟩:Sn)=s;have A:s.σ=s0.σ.set b (.arr wm esz (rows++new)):=by rw[<-hs]
 have E:s.g.μ=s0.g.μ:=by rw[<-hs];rfl
 have F: ∀r' o,s.g.C r' o↔s0.g.C r' o\/(wm=false/\r'=r/\rows.length*esz<=o/\o<(rows.length+new.length)*esz):=by rw[<-hs];exact λ_ _=>Iff.rfl
 have hw:s.w=w':=by rw[<-hs]
 have N: ∀n r' o,Wr1 s n r' o->Wr1 s0 n r' o:=by
  intro n r' o h;by_cases e:n=b
  ·subst e;unfold Wr1 at h⊢;rw[A,z]at h;rw[hb];cases wm with
   |true=>rw[E]at h;exact h
   |false=>
    rw[E]at h;obtain⟨U,m,I⟩:=h;refine⟨U,m,zQ2 (zQ7 _ ?_) I⟩;simp
  ·unfold Wr1 at h⊢;rw[A,E,J0t (Ne.symm e)]at h;exact h
 have y: ∀o,rows.length*esz<=o->Wr1 s0 b r o:=by
  intro o ho;unfold Wr1;rw[hb];cases wm with
  |true=>exact⟨0,hm⟩
  |false=>exact⟨0,hm,ho⟩
 have t:J0k s0 s:=by
  refine⟨?_,λr o h=>(F r o).2 (.inl h),λr' o h=>?_,λr o ⟨n,h⟩=>.inl ⟨n,N n r o h⟩,by rw[A];simp,λn cs h=>?_,λn wm' P rows' h=>?_⟩
  ·rw[hw];exact B.keep λk h1 _=>⟨b,y k h1⟩
  ·rcases(F r' o).1 h with h|⟨_,e,h,_⟩
   ·exact .inl h
   ·subst e;exact .inr (.inl ⟨b,y o h⟩)
  ·have e:n≠b:=by rintro rfl;rw[hb]at h;cases h
   exact⟨⟨cs,by rw[A,J0t (Ne.symm e)];exact h,rfl⟩,by rw[E]⟩
  ·by_cases e:n=b
   ·subst e;rw[hb]at h;injection h with h;injection h with h1 h2 h3;subst h1 h2 h3
    exact⟨wm,rows++new,by rw[A];exact z,id,by simp,λ_=>by rw[E]⟩
   ·exact⟨wm',rows',by rw[A,J0t (Ne.symm e)];exact h,id,zQ0 _,λ_=>by rw[E]⟩
 refine⟨Jaa hi t (λn=>n=b) (λn D=>⟨by rw[A];exact J0t (Ne.symm D),by rw[E]⟩) ?_ ?_ ?_ ?_ ?_ ?_ ?_,t⟩
 ·intro n r' k v D S hv;rw[hw];refine B.cell hv ?_;by_cases H:r'=r
  ·subst H;rcases zQ1 k (rows.length*esz)with h|h
   ·exact .inr (.inl h)
   ·exact(D (hi.apart _ _ _ _ S (y k h))).elim
  ·exact .inl H
 ·rintro n cs rfl h;rw[A,z]at h;cases h
 ·rintro n wm' P rows' rfl h;rw[A,z]at h;cases h;obtain⟨c,e,fz,c',p1,W,V,p4,Y,Z⟩:=B.there;rcases hi.arr _ _ _ _ hb with⟨m,_⟩|⟨r',c0,e0,a1,m,M,K,hl,Q,hf⟩
  ·rw[hm]at m;cases m
  ·rw[hm]at m;injection m with m;injection m with m _;subst m
   rw[p1]at M;injection M with M;injection M with q1 q2 q3;subst q1 q2 q3
   refine .inr ⟨r,c',e,fz,by rw[E];exact hm,by rw[hw];exact W,?_,?_,?_,?_⟩
   ·intro row hr;rcases J2a.1 hr with hr|hr
    ·exact K row hr
    ·exact L row hr
   ·simp only[JbN];rw[J];omega
   ·intro i j row x q G;rcases JcZ q with q|⟨T,q⟩
    ·obtain⟨⟨v,hv,hr⟩,hc⟩:=Q i j row x q G;have h1:=Ji q;have h2:=Ji G;rw[K row (J0F q)]at h2;have:=J6f h1 h2;exact⟨⟨v,by rw[Z _ (.inl this)];exact hv,hr.mono hi t⟩,λe=>(F _ _).2 (.inl (hc e))⟩
    ·obtain⟨u,hu,hr⟩:=hx _ j row x q G;have h1:=Ji q;have h2:=Ji G;rw[L row (J0F q)]at h2;have h3:=J6f h1 h2;have h4:i*esz+j=rows.length*esz+((i-rows.length)*esz+j):=by rw[<-Jd0,<-J4c,Nat.add_sub_cancel' T]
     refine⟨⟨u,by rw[h4];exact Y _ u hu,hr.mono hi t⟩,λe=>(F _ _).2 (.inr ⟨e,rfl,by omega,by rw[J];omega⟩)⟩
   ·rw[V];exact hf
 ·rintro b1 b2 r o rfl h1 h2;exact hi.apart _ _ _ _ (N _ _ _ h1) (N _ _ _ h2)
 ·intro r' o hc;rw[hw,B.size];rcases(F r' o).1 hc with hc|⟨_,e,_⟩
  ·exact(hi.const r' o hc).1
  ·subst e;exact JlD hi b _ _ (y _ (zQ0 _))
 ·rintro r' o n hc rfl h;rcases(F r' o).1 hc with hc|⟨e,H,O,R⟩
  ·exact(hi.const r' o hc).2 _ (N _ _ _ h)
  ·subst e H;unfold Wr1 at h;rw[A,z]at h;obtain⟨U,_,I⟩:=h;simp only[JbN]at I;omega
 ·intro r' o n hc hn D h;rcases(F r' o).1 hc with hc|⟨e,H,O,R⟩
  ·exact hn hc
  ·subst H;exact D (hi.apart _ _ _ o h (y o O))
theorem JOK{s0:Sn}(hi:Inv s0){b:Nat}{wm:Bool}{esz:Nat}{rows new:List (List PV)}{c:Array Value}{e:TypeId}{w':World}
  (hb:s0.σ[b]?=some (.arr wm esz rows)) (D:new≠[]) (z: ∀row∈rows,row.length=esz) (F: ∀row∈new,row.length=esz)
  (I:w'.heap=s0.w.heap.push (.cells c e (0,0))) (ho:w'.os=s0.w.os) (hp:w'.output=s0.w.output)
  (H:(rows.length+new.length)*esz<=c.size)
  (hx: ∀(i j:Nat) row x,(rows++new)[i]?=some row->row[j]?=some x-> ∃u,c[i*esz+j]?=some u/\J0u s0.w s0.g.C x u):
  ∃g',g'.μ b=some (s0.w.heap.size,0)/\Inv ⟨s0.σ.set b (.arr wm esz (rows++new)),g',w'⟩/\J0k s0 ⟨s0.σ.set b (.arr wm esz (rows++new)),g',w'⟩:=by
 have q:(s0.σ.set b (.arr wm esz (rows++new)))[b]?=some (.arr wm esz (rows++new)):=J16 hb;refine⟨⟨λk=>if k=b then some (s0.w.heap.size,0)else s0.g.μ k,λr o=>s0.g.C r o\/(wm=false/\r=s0.w.heap.size/\o<(rows.length+new.length)*esz)⟩,if_pos rfl,?_⟩;generalize hs:(⟨s0.σ.set b (.arr wm esz (rows++new)),_,w'⟩:Sn)=s;have y:s.σ=s0.σ.set b (.arr wm esz (rows++new)):=by rw[<-hs]
 have A: ∀k,s.g.μ k=if k=b then some (s0.w.heap.size,0)else s0.g.μ k:=by rw[<-hs];exact λ_=>rfl
 have B: ∀r' o,s.g.C r' o↔s0.g.C r' o\/(wm=false/\r'=s0.w.heap.size/\o<(rows.length+new.length)*esz):=by rw[<-hs];exact λ_ _=>Iff.rfl
 have hw:s.w=w':=by rw[<-hs]
 have N:0<new.length:=List.length_pos_iff.2 D;have M: ∀k r' o,k≠b->(Wr1 s k r' o↔Wr1 s0 k r' o):=by intro k r' o e;unfold Wr1;rw[y,A,if_neg e,J0t (Ne.symm e)]
 have E: ∀r' o,Wr1 s b r' o->r'=s0.w.heap.size/\(wm=false->(rows.length+new.length)*esz<=o):=by
  intro r' o h;unfold Wr1 at h;rw[y,q,A,if_pos rfl]at h;cases wm with
  |true=>obtain⟨P,m⟩:=h;simp at m;exact⟨m.1.symm,λh=>by cases h⟩
  |false=>obtain⟨P,m,K⟩:=h;simp at m;simp only[JbN]at K;exact⟨m.1.symm,λ_=>K⟩
 have t:J0k s0 s:=by
  refine⟨?_,λr o h=>(B r o).2 (.inl h),λr' o h=>?_,λr o ⟨k,h⟩=>?_,by rw[y];simp,λk cs h=>?_,λk wm' L rows' h=>?_⟩
  ·rw[hw];exact JhR I ho hp
  ·rcases(B r' o).1 h with h|⟨_,h,_⟩
   ·exact .inl h
   ·exact .inr (.inr (zQ4 h.symm))
  ·by_cases n:k=b
   ·subst n;exact .inr (zQ4 (E r o h).1.symm)
   ·exact .inl ⟨k,(M k r o n).1 h⟩
  ·have n:k≠b:=by rintro rfl;rw[hb]at h;cases h
   exact⟨⟨cs,by rw[y,J0t (Ne.symm n)];exact h,rfl⟩,by rw[A,if_neg n]⟩
  ·by_cases n:k=b
   ·subst n;rw[hb]at h;injection h with h;injection h with h1 h2 h3;subst h1 h2 h3
    exact⟨wm,rows++new,by rw[y];exact q,id,by simp,λh=>by simp at h;exact(D h).elim⟩
   ·exact⟨wm',rows',by rw[y,J0t (Ne.symm n)];exact h,id,zQ0 _,λ_=>by rw[A,if_neg n]⟩
 refine⟨Jaa hi t (λk=>k=b) (λk hn=>⟨by rw[y];exact J0t (Ne.symm hn),by rw[A,if_neg hn]⟩) (λb r o v _ _ h=>by rw[hw];exact JoZ I h) ?_ ?_ ?_ ?_ ?_ ?_,t⟩
 ·rintro k cs rfl h;rw[y,q]at h;cases h
 ·rintro k wm' L rows' rfl h;rw[y,q]at h;cases h;refine .inr ⟨s0.w.heap.size,c,e,(0,0),by rw[A,if_pos rfl],by rw[hw];exact Jbq I,?_,by simp only[JbN];exact H,?_,JgU.zero _ _⟩
  ·intro row hr;rcases J2a.1 hr with hr|hr
   ·exact z row hr
   ·exact F row hr
  ·intro i j row x G J;obtain⟨u,hu,hr⟩:=hx i j row x G J;refine⟨⟨u,hu,hr.mono hi t⟩,λO=>(B _ _).2 (.inr ⟨O,rfl,?_⟩)⟩;have h1:=Ji G;have h2:=Ji J;have h3:row.length=esz:=by
    rcases J2a.1 (J0F G)with hr|hr
    ·exact z row hr
    ·exact F row hr
   rw[h3]at h2;simp only[JbN]at h1;exact J6f h1 h2
 ·rintro b1 b2 r o rfl h1 h2;by_cases n:b2=b1
  ·exact n.symm
  ·have:=JlD hi _ _ _ ((M b2 r o n).1 h2);have:=(E r o h1).1;omega
 ·intro r' o hc;rw[hw,I];rcases(B r' o).1 hc with hc|⟨_,hc,_⟩
  ·have:=(hi.const r' o hc).1;simp;omega
  ·simp;omega
 ·rintro r' o k hc rfl h;have h1:=E _ _ h;rcases(B r' o).1 hc with hc|⟨e1,hc,ho⟩
  ·have:=(hi.const r' o hc).1;omega
  ·have:=h1.2 e1;omega
 ·intro r' o k hc hn D h;rcases(B r' o).1 hc with hc|⟨_,hc,_⟩
  ·exact hn hc
  ·have:=JlD hi _ _ _ h;omega
end Go.Am
end
section
namespace Go.Am
def okP:PV->Value->Bool
 | .b x,.bool y=>x==y
 | .i k n,.int h e=>k==h&&n==e
 | .s l,.string g=>l==g.data.toList
 | .sl _ [],.slice none 0 0=>true
 | .np,.pointer none=>true
 | .nf,.nilFunc=>true
 |_,_=>false
def Jub:List PV->List Value->Bool
 |[],[]=>true
 |x::xs,v::vs=>okP x v&&Jub xs vs
 |_,_=>false
def okC:AV->Value->Bool
 | .p c,v=>okP c v
 | .data cs,.agg vs=>Jub cs vs.toList
 | .fn f [] [],.func (.func g) a c=>f==g&&a.isEmpty&&c.isEmpty
 | .tup [],.tuple vs=>vs.isEmpty
 |_,_=>false
def J1d:Opd->Operand->Bool
 | .t n,.tmp m=>n==m
 | .c x,.const v=>okC x v
 | .c (.fn f [] []),.func g=>f==g
 |_,_=>false
def J6x:List Opd->List Operand->Bool
 |[],[]=>true
 |x::xs,y::e=>J1d x y&&J6x xs e
 |_,_=>false
def JgI:Option Opd->Option Operand->Bool
 |none,none=>true
 |some x,some y=>J1d x y
 |_,_=>false
section
variable (P:Program)
def szT(t:TypeId):Option Nat:=(P.info? t).map (·.size)
def byT(t:TypeId):Option Nat:=(P.info? t).map (·.bytes)
def zeT(t:TypeId):Option Value:=(P.info? t).bind (·.zero)
def Jgd:TypeDesc->Bool
 | .struct _| .array _ _=>true
 |_=>false
def agT(t:TypeId):Option Bool:=(P.underlying t).map Jgd
def elT(t:TypeId):Option TypeId:=match P.underlying t with
 |some (.slice e)=>some e
 |_=>none
def J6T(t:TypeId):Bool:=match P.underlying t with
 |some .string=>true
 |_=>false
def JL2(t:TypeId):Bool:=match P.underlying t with
 |some (.int .u8)=>true
 |_=>false
def Jzu(t:TypeId):Bool:=match P.underlying t with
 |some .bool=>true
 |_=>false
def JLr(t:TypeId):Bool:=match P.underlying t with
 |some (.int _)=>true
 |_=>false
def JEO(k:IntKind)(t:TypeId):Bool:=match P.underlying t with
 |some (.int e)=>k==e
 |_=>false
def arT(t:TypeId):Option (Nat×TypeId):=match P.underlying t with
 |some (.array n e)=>some (n,e)
 |_=>none
def flT(t:TypeId):Option (Array Field):=match P.underlying t with
 |some (.struct fs)=>some fs
 |_=>none
def Jjg(K:TypeId->Option (List KD)):Nat->List Field->Option (List KD)
 |_,[]=>some []
 |off,f::fs=>
  if f.name= "_" ∨f.offset≠off then none
  else match K f.type with
   |none=>none
   |some ks=>if szT P f.type=some ks.length/\0<ks.length then
     match Jjg K (off+ks.length) fs with
     |some l=>some (ks++l)
     |none=>none
    else none
def JaG:Nat->TypeId->Option (List KD)
 |0,_=>none
 |d+1,t=>match P.underlying t with
  |some .bool=>some [.b]
  |some (.int k)=>some [.i k]
  |some .string=>some [.s]
  |some (.struct fs)=>if P.stoodInHeld t then none else Jjg P (JaG d) 0 fs.toList
  |some (.array n e)=>match JaG d e with
   |some ks=>if szT P e=some ks.length/\0<ks.length then some (List.replicate n ks).flatten else none
   |none=>none
  |_=>none
def JSc(t:TypeId):Operand->Bool
 | .const (.slice none 0 0)=>(elT P t).isSome
 |_=>false
def JQ3(t:TypeId):Operand->Bool
 | .const (.pointer none)=>(match P.underlying t with|some (.pointer _)=>true|_=>false)
 |_=>false
def JSF(t:TypeId):Operand->Bool
 | .const .nilFunc=>(match P.underlying t with|some (.func _ _ _)=>true|_=>false)
 |_=>false
def JbX(zero:List PV)(t:TypeId):Bool:=match zeT P t with
 |some v=>Jub zero v.cells.toList
 |none=>false
def JDx(t:TypeId)(os:List (Nat×Nat)):Bool:=match zeT P t with
 |some v=>os.all λx=>match v.cells[x.1]? with
  |some (.slice none 0 0)=>true
  |_=>false
 |none=>false
def J6F(place:Nat->Option (Nat×Nat)):List (Nat×Nat×Opd)->List (Nat×Operand)->Bool
 |[],[]=>true
 |(off,size,x)::r,(i,y)::q=>place i==some (off,size)&&J1d x y&&J6F place r q
 |_,_=>false
def Jfg(fs:Array Field)(i:Nat):Option (Nat×Nat):=match fs[i]? with
 |some f=>(szT P f.type).map λn=>(f.offset,n)
 |none=>none
def Jlh:List (Nat×Opd)->List (Nat×Operand)->Bool
 |[],[]=>true
 |(i,x)::r,(j,y)::q=>i==j&&J1d x y&&Jlh r q
 |_,_=>false
def J01(F:AOp)(op:Op):Bool:=
 match F with
 | .mv x=>match op with
   | .move y| .assign y=>J1d x y
   |_=>false
 | .mkarr _ x=>match op with
   | .move (.const (.slice none 0 0))| .assign (.const (.slice none 0 0))=>(match x with| .c _=>true|_=>false)
   |_=>false
 | .pick c a b=>match op with
   | .pick c' G E=>J1d c c'&&J1d a G&&J1d b E
   |_=>false
 | .newbox zero=>match op with
   | .alloc t=>JbX P zero t
   |_=>false
 | .box _ x=>match op with
   | .box _ y=>J1d x y
   |_=>false
 | .build zero parts=>match op with
   | .build t ps=>JbX P zero t&&(match P.underlying t with
     |some (.struct fs)=>(fs.all λf=>(szT P f.type).isSome)&&J6F (Jfg P fs) parts ps.toList
     |some (.array _ e)=>(match szT P e with
      |some n=>J6F (λi=>some (i*n,n)) parts ps.toList
      |none=>false)
     |_=>false)
   |_=>false
 | .lits _ esz n zero parts=>match op with
   | .buildSlice t len ps=>len==n&&(match elT P t with
     |some e=>szT P e==some esz&&decide (n*esz<=16777216)&&JbX P zero e&&zero.length==esz&&decide (0<esz)&&Jlh parts ps.toList
     |none=>false)
   |_=>false
 | .load agg size x=>match op with
   | .load t y=>agT P t==some agg&&szT P t==some size&&J1d x y&&(agg||size==1)
   |_=>false
 | .store size x v=>match op with
   | .store t y u=>szT P t==some size&&J1d x y&&J1d v u
   |_=>false
 | .nilchk x=>match op with
   | .nilCheck y=>J1d x y
   |_=>false
 | .bin I bt x y=>match op with
   | .binOp A t o h _=>I==A&&J1d x o&&(match bt with
     | .plain=>J1d y h
     | .bool=>J1d y h&&Jzu P t
     | .flat ks=>J1d y h&&JaG P 100 t==some ks&&agT P t==some true&& !P.eqGuardType P.depth t
     | .nils=>JSc P t h
     | .nilp=>JQ3 P t h
     | .nilf=>JSF P t h)
   |_=>false
 | .un H x=>match op with
   | .unOp B _ y=>H==B&&J1d x y
   |_=>false
 | .conv k x=>match op with
   | .convert q dst y=>J1d x y&&(match k with
     | .int k=>JLr P q&&JEO P k dst
     | .same=>J6T P q&&J6T P dst
     | .toStr=>(match elT P q with|some e=>JL2 P e&&szT P e==some 1|none=>false)&&J6T P dst
     | .toBytes _=>J6T P q&&(match elT P dst with|some e=>JL2 P e&&szT P e==some 1|none=>false))
   |_=>false
 | .mkslice _ esz bytes zero l c=>match op with
   | .makeSlice t J c'=>J1d l J&&J1d c c'&&(match elT P t with
     |some e=>szT P e==some esz&&byT P e==some bytes&&JbX P zero e&&zero.length==esz&&decide (0<esz)&&decide (0<bytes)
     |none=>false)
   |_=>false
 | .slice k x lo hi mx=>match op with
   | .slice t o C z D=>J1d x o&&JgI lo C&&JgI hi z&&JgI mx D&&(match k with
     | .str=>J6T P t
     | .sl esz=>(match elT P t with|some e=>szT P e==some esz|none=>false))
   |_=>false
 | .faddr off x=>match op with
   | .fieldAddr t y f=>J1d x y&&(match flT P t with
     |some fs=>(match fs[f]? with
      |some f=>f.offset==off&&(match szT P f.type with|some n=>n !=0|none=>false)
      |none=>false)
     |none=>false)
   |_=>false
 | .field agg off size x=>match op with
   | .field t y f=>J1d x y&&(match flT P t with
     |some fs=>(match fs[f]? with
      |some f=>f.offset==off&&szT P f.type==some size&&agT P f.type==some agg&&(agg||size==1)
      |none=>false)
     |none=>false)
   |_=>false
 | .iaddr esz x i=>match op with
   | .indexAddr t y j=>J1d x y&&J1d i j&&(match elT P t with|some e=>szT P e==some esz|none=>false)
   |_=>false
 | .aaddr len esz x i=>match op with
   | .indexAddr t y j=>J1d x y&&J1d i j&&(match arT P t with|some (n,e)=>n==len&&szT P e==some esz|none=>false)
   |_=>false
 | .sidx x i=>match op with
   | .index t y j=>J1d x y&&J1d i j&&J6T P t
   |_=>false
 | .aidx agg len esz x i=>match op with
   | .index t y j=>J1d x y&&J1d i j&&(match arT P t with|some (n,e)=>n==len&&szT P e==some esz&&agT P e==some agg&&(agg||esz==1)|none=>false)
   |_=>false
 | .extr x i=>match op with
   | .extract y j=>J1d x y&&i==j
   |_=>false
 | .call f args _=>match op with
   | .call c=>(match c.callee with
     | .value (.func g)=>f==g&&J6x args c.args.toList
     |_=>false)
   |_=>false
 | .callv x args _=>match op with
   | .call c=>(match c.callee with
     | .value y=>J1d x y&&J6x args c.args.toList
     |_=>false)
   |_=>false
 | .len str x=>match op with
   | .call c=>(match c.callee with
     | .builtin .len=>(match c.args.toList,c.argTypes.toList with
       |[y],[t]=>J1d x y&&(if str then J6T P t else(elT P t).isSome)
       |_,_=>false)
     |_=>false)
   |_=>false
 | .alen n=>match op with
   | .call c=>(match c.callee with
     | .builtin .len=>(match c.args.toList,c.argTypes.toList with
       |[_],[t]=>(match P.underlying t with
        |some (.array m _)=>m==n
        |some (.pointer a)=>(match arT P a with|some (m,_)=>m==n|none=>false)
        |_=>false)
       |_,_=>false)
     |_=>false)
   |_=>false
 | .appn esz bytes zero y=>match op with
   | .call c=>(match c.callee with
     | .builtin .append=>(match c.args.toList,c.argTypes.toList with
       |[.const (.slice none 0 0),h],[t,u]=>J1d y h&&((elT P u).isSome||J6T P u)&&(match elT P t with
        |some e=>szT P e==some esz&&byT P e==some bytes&&JbX P zero e&&zero.length==esz&&decide (0<esz)&&decide (0<bytes)
        |none=>false)
       |_,_=>false)
     |_=>false)
   |_=>false
 | .app esz bytes zero x y=>match op with
   | .call c=>(match c.callee with
     | .builtin .append=>(match c.args.toList,c.argTypes.toList with
       |[o,h],[t,u]=>J1d x o&&J1d y h&&((elT P u).isSome||J6T P u)&&(match elT P t with
        |some e=>szT P e==some esz&&byT P e==some bytes&&JbX P zero e&&zero.length==esz&&decide (0<esz)&&decide (0<bytes)
        |none=>false)
       |_,_=>false)
     |_=>false)
   |_=>false
 | .appc esz bytes zero x y=>match op with
   | .call c=>(match c.callee with
     | .builtin .append=>(match c.args.toList,c.argTypes.toList with
       |[o,h],[t,u]=>J1d x o&&J1d y h&&((elT P u).isSome||J6T P u)&&(match elT P t with
        |some e=>szT P e==some esz&&byT P e==some bytes&&JbX P zero e&&zero.length==esz&&decide (0<esz)&&decide (0<bytes)
        |none=>false)
       |_,_=>false)
     |_=>false)
   |_=>false
 | .appz esz bytes zero x y=>match op with
   | .call c=>(match c.callee with
     | .builtin .append=>(match c.args.toList,c.argTypes.toList with
       |[o,h],[t,u]=>J1d x o&&J1d y h&&(match P.underlying u with
        |some (.int _)=>true
        |_=>false)&&(match elT P t with
        |some e=>szT P e==some esz&&byT P e==some bytes&&JbX P zero e&&zero.length==esz&&decide (0<esz)&&decide (0<bytes)
        |none=>false)
       |_,_=>false)
     |_=>false)
   |_=>false
 | .mm mx x y=>match op with
   | .call c=>(match c.callee with
     | .builtin b=>b==(if mx then .max else .min)&&(match c.args.toList with
       |[o,h]=>J1d x o&&J1d y h
       |_=>false)
     |_=>false)
   |_=>false
 | .newboxo zero os=>match op with
   | .alloc t=>JbX P zero t&&JDx P t os
   |_=>false
 | .buildo zero parts os=>match op with
   | .build t ps=>JbX P zero t&&JDx P t os&&(match P.underlying t with
     |some (.struct fs)=>(fs.all λf=>(szT P f.type).isSome)&&J6F (Jfg P fs) parts ps.toList
     |_=>false)
   |_=>false
 | .storen _ x=>match op with
   | .store t y (.const (.slice none 0 0))=>szT P t==some 1&&J1d x y
   |_=>false
 | .callo f _ args _=>match op with
   | .call c=>(match c.callee with
     | .value (.func g)=>f==g&&J6x args c.args.toList
     |_=>false)
   |_=>false
 | .mkfn f first caps=>match op with
   | .makeFunc (.func g) r w=>f==g&&J6x first r.toList&&J6x caps w.toList
   |_=>false
end
end Go.Am
end
section
namespace Go.Am
theorem bind_some{α β:Type}{m:RM α}{f:α->RM β}{s:St}{b:β}(h:(m.bind f).run s=some b): ∃a,m.run s=some a/\(f a).run s=some b:=by
 rw[run_bind]at h;cases hm:m.run s with
 |none=>rw[hm]at h;cases h
 |some a=>rw[hm]at h;exact⟨a,rfl,h⟩
theorem J23{x:Option AV}{s:St}{e:Eff}(h:(val x).run s=some e): ∃v,x=some v/\e=⟨v,[]⟩:=by
 cases x with
 |none=>cases h
 |some v=>simp only[val,RM.run]at h;injection h with h;exact⟨v,rfl,h.symm⟩
theorem JJB{w C c v}(h:okP c v=true):J0u w C c v:=by
 unfold okP at h;split at h
 ·rename_i x y;have:x=y:=by simpa using h
  subst this;exact .b _
 ·simp at h;obtain⟨rfl,rfl⟩:=h;exact .i _ _
 ·rename_i l e;have:l=e.data.toList:=by simpa using h
  subst this;exact .s _
 ·exact .sl0 _ _ _
 ·exact .np
 ·exact .nf
 ·cases h
theorem JlA{w C}: ∀{cs:List PV} {vs:List Value},Jub cs vs=true->cs.length=vs.length/\ ∀(i:Nat) x v,cs[i]?=some x->vs[i]?=some v->J0u w C x v
 |[],[],_=>⟨rfl,λi x v h=>by simp at h⟩
 |x::xs,v::vs,h=>by
  simp only[Jub,J02]at h;obtain⟨h1,h2⟩:=JlA (w:=w) (C:=C) h.2;refine⟨by simp[h1],λi y u hy hu=>?_⟩;cases i with
  |zero=>simp at hy hu;subst hy hu;exact JJB h.1
  |succ i=>simp at hy hu;exact h2 i y u hy hu
 |[],_::_,h=>by simp[Jub]at h
 |_::_,[],h=>by simp[Jub]at h
theorem JQi{s:Sn}{c v}(h:okC c v=true):JL s c v:=by
 unfold okC at h;split at h
 ·exact .p _ _ (JJB h)
 ·rename_i cs vs;obtain⟨h1,h2⟩:=JlA (w:=s.w) (C:=s.g.C) h;exact .data _ _ (by simpa using h1) λi x v hx hv=>h2 i x v hx (by simpa using hv)
 ·rename_i f g a c;simp at h;obtain⟨⟨rfl,rfl⟩,rfl⟩:=h;exact .fn _ _ _ _ _ rfl rfl (λi x v h=>by simp at h) (λi x v h=>by simp at h)
 ·simp at h;subst h;exact .tup _ _ rfl (λi x v h=>by simp at h)
 ·cases h
def J0j(s:Sn)(tmps:Array Value)(env:List (Nat×AV)):Prop:= ∀n x,lk n env=some x-> ∃v,tmps[n]?=some v/\JL s x v
theorem J0j.mono{s0 s:Sn}(hi:Inv s0)(t:J0k s0 s){tmps env}(h:J0j s0 tmps env):J0j s tmps env:=
 λn x hx=>let⟨v,h1,h2⟩:=h n x hx;⟨v,h1,h2.mono hi t⟩
section
variable {P:Program} {s:Sn} {a:Act} {env:List (Nat×AV)}
theorem J0b(he:J0j s a.tmps env){x:Opd}{y:Operand}{v:AV}(h:(ev x).run ⟨env,s.σ⟩=some v)(hc:J1d x y=true):JL s v (a.eval y):=by
 cases x with
 |t n=>
  cases y<;>simp[J1d]at hc;subst hc;simp only[ev,RM.run]at h;split at h
  ·rename_i u hu;injection h with h;subst h;obtain⟨w,h1,h2⟩:=he _ _ hu;simpa[Act.eval,JPF,h1]using h2
  ·cases h
 |c z=>
  simp only[ev,RM.run]at h;injection h with h;subst h;cases y with
  |const u=>exact JQi (v:=u) (by simpa[J1d]using hc)
  |func g=>
   cases z<;>simp[J1d]at hc;rename_i f first caps
   cases first<;>cases caps<;>simp[J1d]at hc
   subst hc;exact .fn _ _ _ _ _ rfl rfl (λi x v h=>by simp at h) (λi x v h=>by simp at h)
  |tmp n=>simp[J1d]at hc
  |global n=>simp[J1d]at hc
theorem Jfh(he:J0j s a.tmps env): ∀{xs:List Opd} {e:List Operand} {vs:List AV},(evs xs).run ⟨env,s.σ⟩=some vs->J6x xs e=true->
  vs.length=e.length/\ ∀(i:Nat) x v,vs[i]?=some x->(e.map a.eval)[i]?=some v->JL s x v
 |[],[],vs,h,_=>by
  simp only[evs,RM.run]at h;injection h with h;subst h
  exact⟨rfl,λi x v h=>by simp at h⟩
 |x::xs,y::e,vs,h,hc=>by
  simp only[J6x,J02]at hc;simp only[evs]at h;obtain⟨u,h1,h⟩:=bind_some h;obtain⟨g,h2,h⟩:=bind_some h;simp only[RM.run]at h;injection h with h;subst h
  obtain⟨l,r⟩:=Jfh he h2 hc.2;refine⟨by simp[l],λi z v hz hv=>?_⟩;cases i with
  |zero=>simp at hz hv;subst hz hv;exact J0b he h1 hc.1
  |succ i=>simp at hz hv;exact r i z v hz (by simpa using hv)
 |[],_::_,_,_,hc=>by simp[J6x]at hc
 |_::_,[],_,_,hc=>by simp[J6x]at hc
def J1b(P:Program)(o:Oper)(a:Act)(s:Sn)(e:Eff):Prop:= ∀(next:Act->World->Prop) (Q:Exit->Act->World->Prop),(∀v w' g',Inv ⟨upd e.ws s.σ,g',w'⟩->J0k s ⟨upd e.ws s.σ,g',w'⟩->JL ⟨upd e.ws s.σ,g',w'⟩ e.val v->next (a.put o.dst v) w')->o.wp P a s.w next Q
theorem J2h{o:Oper}{e:Eff}{v:Value}{w':World}{g':Gh}(hr:(execOp a.eval o).run P s.w=.ok (.value v) w')
  (hi:Inv ⟨upd e.ws s.σ,g',w'⟩) (t:J0k s ⟨upd e.ws s.σ,g',w'⟩) (hv:JL ⟨upd e.ws s.σ,g',w'⟩ e.val v):J1b P o a s e:=by
 intro next Q h;simp only[Oper.wp,hr,Oper.upon];exact h v w' g' hi t hv
theorem JG{o:Oper}{x:AV}{v:Value}(hi:Inv s)(hr:(execOp a.eval o).run P s.w=.ok (.value v) s.w)(hv:JL s x v):J1b P o a s ⟨x,[]⟩:=
 J2h (e:=⟨x,[]⟩) (g':=s.g) hr hi (.refl s) hv
theorem JpF{t:TypeId}{i:TypeInfo}(h:P.info? t=some i)(w:World):(typeInfo t).run P w=.ok i w:=by simp[typeInfo,h]
theorem J2Q{t:TypeId}{n:Nat}(h:szT P t=some n)(w:World):(sizeOf t).run P w=.ok n w:=by
 unfold szT at h;cases hi:P.info? t with
 |none=>rw[hi]at h;cases h
 |some i=>rw[hi]at h;simp at h;simp[sizeOf,JpF hi,h]
theorem Jfe{t:TypeId}{b:Bool}(h:agT P t=some b)(w:World):(isAgg t).run P w=.ok b w:=by
 unfold agT at h;cases hu:P.underlying t with
 |none=>rw[hu]at h;cases h
 |some d=>
  rw[hu]at h;simp at h;simp only[isAgg,J5W,run_underlying hu,J5L];subst h;cases d<;>rfl
theorem J24{t e:TypeId}(h:elT P t=some e):P.underlying t=some (.slice e):=by
 unfold elT at h;split at h
 ·injection h with h;subst h;assumption
 ·cases h
theorem J7r{t:TypeId}(h:J6T P t=true):P.underlying t=some .string:=by
 unfold J6T at h;split at h
 ·assumption
 ·cases h
theorem JDF{t:TypeId}(h:JL2 P t=true):P.underlying t=some (.int .u8):=by
 unfold JL2 at h;split at h
 ·assumption
 ·cases h
theorem JHX{t:TypeId}(h:Jzu P t=true):P.underlying t=some .bool:=by
 unfold Jzu at h;split at h
 ·assumption
 ·cases h
theorem JN2{t:TypeId}(h:JLr P t=true): ∃k,P.underlying t=some (.int k):=by
 unfold JLr at h;split at h
 ·exact⟨_,by assumption⟩
 ·cases h
theorem JMh{t:TypeId}{k:IntKind}(h:JEO P k t=true):P.underlying t=some (.int k):=by
 unfold JEO at h;split at h
 ·rename_i e hk;have:k=e:=by simpa using h
  subst this;exact hk
 ·cases h
theorem JuM{t e:TypeId}{n:Nat}(h:arT P t=some (n,e)):P.underlying t=some (.array n e):=by
 unfold arT at h;split at h
 ·simp at h;obtain⟨rfl,rfl⟩:=h;assumption
 ·cases h
theorem JEq{t:TypeId}{fs:Array Field}(h:flT P t=some fs):P.underlying t=some (.struct fs):=by
 unfold flT at h;split at h
 ·simp at h;subst h;assumption
 ·cases h
theorem J4r{x k n}(h:JL s (.p (.i k n)) x):x=.int k n:=by cases h with|p _ _ h=>cases h;rfl
theorem JvJ{x n}(h:JL s (.p (.b n)) x):x=.bool n:=by cases h with|p _ _ h=>cases h;rfl
theorem Jcf{x l}(h:JL s (.p (.s l)) x):x=.string ⟨l.toArray⟩:=by cases h with|p _ _ h=>cases h;rfl
theorem JQc{x}(h:JL s (.p .np) x):x=.pointer none:=by cases h with|p _ _ h=>cases h;rfl
theorem JRh{x}(h:JL s (.p .nf) x):x=.nilFunc:=by cases h with|p _ _ h=>cases h;rfl
theorem J67(k n):JL s (.p (.i k n)) (.int k n):=.p _ _ (.i _ _)
theorem J61(n):JL s (.p (.b n)) (.bool n):=.p _ _ (.b _)
theorem JrM(l):JL s (.p (.s l)) (.string ⟨l.toArray⟩):=.p _ _ (.s _)
theorem JzT(l:List UInt8):ByteArray.toList ⟨l.toArray⟩=l:=by rw[ByteArray.toList_eq]
theorem J9u(l:List UInt8):ByteArray.size ⟨l.toArray⟩=l.length:=by simp[ByteArray.size]
theorem JNh(l m:List UInt8):(⟨l.toArray⟩:ByteArray)++⟨m.toArray⟩=⟨(l++m).toArray⟩:=by apply ByteArray.ext;rw[ByteArray.data_append];simp
theorem JHW{op:BinOp}{k:IntKind}{x y:Int}{t:TypeId}{r:PV}(j:op≠.shl)(e:op≠.shr)(h:Jvd op k x y=some r)(w:World):
  ∃v,(binOp op t (.int k x) (.int k y)).run P w=.ok v w/\J0u s.w s.g.C r v:=by
 cases op<;>simp only[Jvd]at h
 case add=>injection h with h;subst h;exact⟨_,by simp[binOp,Op.intArith],.i _ _⟩
 case sub=>injection h with h;subst h;exact⟨_,by simp[binOp,Op.intArith],.i _ _⟩
 case mul=>injection h with h;subst h;exact⟨_,by simp[binOp,Op.intArith],.i _ _⟩
 case quo=>split at h
           ·cases h
           ·rename_i hy;injection h with h;subst h;exact⟨_,by simp[binOp,Op.intDiv,hy],.i _ _⟩
 case rem=>split at h
           ·cases h
           ·rename_i hy;injection h with h;subst h;exact⟨_,by simp[binOp,Op.intDiv,hy],.i _ _⟩
 case and=>injection h with h;subst h;exact⟨_,by simp[binOp,Op.intBits],.i _ _⟩
 case or=>injection h with h;subst h;exact⟨_,by simp[binOp,Op.intBits],.i _ _⟩
 case xor=>injection h with h;subst h;exact⟨_,by simp[binOp,Op.intBits],.i _ _⟩
 case eql=>injection h with h;subst h;exact⟨_,by simp[binOp,Op.intCmp],.b _⟩
 case neq=>injection h with h;subst h;exact⟨_,by simp[binOp,Op.intCmp],.b _⟩
 case lss=>injection h with h;subst h;exact⟨_,by simp[binOp,Op.intCmp],.b _⟩
 case leq=>injection h with h;subst h;exact⟨_,by simp[binOp,Op.intCmp],.b _⟩
 case gtr=>injection h with h;subst h;exact⟨_,by simp[binOp,Op.intCmp],.b _⟩
 case geq=>injection h with h;subst h;exact⟨_,by simp[binOp,Op.intCmp],.b _⟩
 all_goals simp_all
theorem JnG{op:BinOp}{k e:IntKind}{x y:Int}{t:TypeId}{r:PV}(hs:op=.shl\/op=.shr)(h:Jfw op k x y=some r)(w:World):
  ∃v,(binOp op t (.int k x) (.int e y)).run P w=.ok v w/\J0u s.w s.g.C r v:=by
 unfold Jfw at h;split at h
 ·cases h
 ·rename_i hy;rcases hs with rfl|rfl
  ·injection h with h;subst h;exact⟨_,by simp[binOp,Op.shift,hy],.i _ _⟩
  ·injection h with h;subst h;exact⟨_,by simp[binOp,Op.shift,hy],.i _ _⟩
theorem JIU{op:BinOp}{x y:List UInt8}{t:TypeId}{r:PV}(h:Jv1 op x y=some r)(w:World):
  ∃v,(binOp op t (.string ⟨x.toArray⟩) (.string ⟨y.toArray⟩)).run P w=.ok v w/\J0u s.w s.g.C r v:=by
 cases op<;>simp only[Jv1]at h
 case add=>
  split at h
  ·rename_i hl;injection h with h;subst h;refine⟨.string ⟨(x++y).toArray⟩,?_,.s _⟩;have h1: ¬(((ByteArray.size ⟨x.toArray⟩+ByteArray.size ⟨y.toArray⟩:Nat):Int)>IntKind.i64.max):=by rw[J9u,J9u];show¬(_>(9223372036854775807:Int));omega
   simp only[binOp,Op.stringOp];rw[if_neg h1,JNh];rfl
  ·cases h
 case eql=>injection h with h;subst h;exact⟨.bool (x==y),by simp[binOp,Op.stringOp],.b _⟩
 case neq=>injection h with h;subst h;exact⟨.bool (!(x==y)),by simp[binOp,Op.stringOp],.b _⟩
 case lss=>injection h with h;subst h;exact⟨.bool (Op.bytesLess x y),by simp[binOp,Op.stringOp],.b _⟩
 case leq=>injection h with h;subst h;exact⟨.bool (Op.bytesLess x y||x==y),by simp[binOp,Op.stringOp],.b _⟩
 case gtr=>injection h with h;subst h;exact⟨.bool (!(Op.bytesLess x y||x==y)),by simp[binOp,Op.stringOp],.b _⟩
 case geq=>injection h with h;subst h;exact⟨.bool (!Op.bytesLess x y),by simp[binOp,Op.stringOp],.b _⟩
 all_goals cases h
end
end Go.Am
end
section
namespace Go.Am
section
variable {P:Program} {F:Orc} {s:Sn} {a:Act} {env:List (Nat×AV)} {o:Oper} {new:Nat} {e:Eff}
theorem JTs(hi:Inv s)(he:J0j s a.tmps env){x}(h:(opR F (.mv x) new).run ⟨env,s.σ⟩=some e)(hc:J01 P (.mv x) o.op=true):J1b P o a s e:=by
 simp only[opR]at h;obtain⟨v,h1,h⟩:=bind_some h;simp only[RM.run]at h;injection h with h;subst h
 unfold J01 at hc;simp only at hc;split at hc
 ·rename_i y g;exact JG hi (by simp only[execOp,g];rfl) (J0b he h1 hc)
 ·rename_i y g;exact JG hi (by simp only[execOp,g];rfl) (J0b he h1 hc)
 ·cases hc
theorem JQm(hi:Inv s)(he:J0j s a.tmps env){c x y}(h:(opR F (.pick c x y) new).run ⟨env,s.σ⟩=some e)(hc:J01 P (.pick c x y) o.op=true):J1b P o a s e:=by
 simp only[opR]at h;obtain⟨v,h1,h⟩:=bind_some h;unfold J01 at hc;simp only at hc;split at hc
 ·rename_i c' n k j;simp only[J02]at hc;split at h
  ·rename_i b;have hb:=JvJ (J0b he h1 hc.1.1);split at h
   ·rename_i g;obtain⟨u,h2,h⟩:=bind_some h;simp only[RM.run]at h;injection h with h;subst h
    exact JG hi (v:=a.eval n) (by simp[execOp,j,hb,g,asBool]) (J0b he h2 hc.1.2)
   ·rename_i g;obtain⟨u,h2,h⟩:=bind_some h;simp only[RM.run]at h;injection h with h;subst h
    have g:b=false:=by simpa using g
    exact JG hi (v:=a.eval k) (by simp[execOp,j,hb,g,asBool]) (J0b he h2 hc.2)
  ·simp only[RM.run]at h;cases h
 ·cases hc
theorem JMG(hi:Inv s)(he:J0j s a.tmps env){x}(h:(opR F (.nilchk x) new).run ⟨env,s.σ⟩=some e)(hc:J01 P (.nilchk x) o.op=true):J1b P o a s e:=by
 simp only[opR]at h;obtain⟨v,h1,h⟩:=bind_some h;unfold J01 at hc;simp only at hc;split at hc
 ·rename_i y g;have hr:=J0b he h1 hc;split at h<;>(simp only[RM.run]at h;try cases h)
  ·refine JG hi (v:=a.eval y) ?_ hr;generalize hu:a.eval y=u at hr;cases hr;simp[execOp,g,hu]
  ·refine JG hi (v:=a.eval y) ?_ hr;generalize hu:a.eval y=u at hr;cases hr;simp[execOp,g,hu]
  ·refine JG hi (v:=a.eval y) ?_ hr;generalize hu:a.eval y=u at hr;cases hr with
   |ep _ _ _ _ _ _ _ _ j=>
    obtain⟨r,k,rfl⟩:=j;simp[execOp,g,hu]
  ·refine JG hi (v:=a.eval y) ?_ hr;generalize hu:a.eval y=u at hr;cases hr;simp[execOp,g,hu]
 ·cases hc
theorem J94{op:BinOp}{t:TypeId}{x y:Operand}{u v:Value}(h:(∀c,u≠.agg c)/\u≠.nilIface)(w:World):(eqGuard op t x y u v).run P w=.ok () w:=by
 unfold eqGuard;cases op<;>simp
 all_goals (cases u<;>simp_all)
theorem JGC(hi:Inv s)(he:J0j s a.tmps env){op x y}(h:(opR F (.bin op .plain x y) new).run ⟨env,s.σ⟩=some e)(hc:J01 P (.bin op .plain x y) o.op=true):J1b P o a s e:=by
 simp only[opR]at h;obtain⟨u,h1,h⟩:=bind_some h;obtain⟨v,h2,h⟩:=bind_some h;obtain⟨r,h3,rfl⟩:=J23 h;unfold J01 at hc;simp only at hc;split at hc
 ·rename_i G t j C ty k;simp only[J02,beq_iff_eq]at hc;obtain⟨⟨rfl,hx⟩,hy⟩:=hc;have n:=J0b he h1 hx;have A:=J0b he h2 hy;have g: ∀{z:Value},(∀c,a.eval j≠.agg c)/\a.eval j≠.nilIface->(binOp op t (a.eval j) (a.eval C)).run P s.w=.ok z s.w->(execOp a.eval o).run P s.w=.ok (.value z) s.w:=by intro z B hz;simp[execOp,k,J94 B,hz]
  simp only[Je9]at h3;split at h3
  ·rename_i H p I q;rw[J4r n,J4r A]at g;split at h3
   ·obtain⟨z,hz,rfl⟩:=J5R.1 h3;obtain⟨v,hv,hr⟩:=JnG (s:=s) (P:=P) (t:=t) (.inl rfl) hz s.w;exact JG hi (g (by simp) hv) (.p _ _ hr)
   ·obtain⟨z,hz,rfl⟩:=J5R.1 h3;obtain⟨v,hv,hr⟩:=JnG (s:=s) (P:=P) (t:=t) (.inr rfl) hz s.w;exact JG hi (g (by simp) hv) (.p _ _ hr)
   ·rename_i D E;split at h3
    ·rename_i hk;subst hk;obtain⟨z,hz,rfl⟩:=J5R.1 h3;obtain⟨v,hv,hr⟩:=JHW (s:=s) (P:=P) (t:=t) (λe=>D e) (λe=>E e) hz s.w;exact JG hi (g (by simp) hv) (.p _ _ hr)
    ·cases h3
  ·rw[Jcf n,Jcf A]at g;obtain⟨z,hz,rfl⟩:=J5R.1 h3;obtain⟨v,hv,hr⟩:=JIU (s:=s) (P:=P) (t:=t) hz s.w;exact JG hi (g (by simp) hv) (.p _ _ hr)
  ·cases h3
 ·cases hc
theorem JIv(hi:Inv s)(he:J0j s a.tmps env){op x y}(h:(opR F (.bin op .bool x y) new).run ⟨env,s.σ⟩=some e)(hc:J01 P (.bin op .bool x y) o.op=true):J1b P o a s e:=by
 simp only[opR]at h;obtain⟨u,h1,n⟩:=bind_some h;obtain⟨v,h2,j⟩:=bind_some n;obtain⟨r,h3,rfl⟩:=J23 j;clear h n j;unfold J01 at hc;simp only at hc;split at hc
 ·rename_i C t E D ty g;simp only[J02,beq_iff_eq]at hc;obtain⟨⟨rfl,hx⟩,hy,z⟩:=hc;have A:=J0b he h1 hx;have B:=J0b he h2 hy;have hb:=JHX z;simp only[Je9]at h3;split at h3
  ·rename_i _ _ p q;have k:=JvJ A;have w:=JvJ B;cases op<;>simp only[J9L]at h3<;>first|(injection h3 with h3;subst h3)|cases h3
   ·exact JG hi (v:=.bool (p==q)) (by simp[execOp,g,k,w,eqGuard,binOp,run_equal_bool,hb]) (J61 _)
   ·exact JG hi (v:=.bool (!(p==q))) (by simp[execOp,g,k,w,eqGuard,binOp,run_equal_bool,hb]) (J61 _)
  ·cases h3
 ·cases hc
theorem Jf7{op:BinOp}{t:TypeId}{u v:Value}{b:Bool}(ho:op=.eql\/op=.neq){w:World}(h:(Op.equal t u v).run P w=.ok b w)
  (hu:(∃x n c,u=.slice x n c)\/(∃p,u=.pointer p/\v=.pointer none)\/u=.nilFunc\/(∃f y c,u=.func f y c)):
  (binOp op t u v).run P w=.ok (.bool (if op=.eql then b else !b)) w:=by
 rcases ho with rfl|rfl
 ·have:binOp .eql t u v=(do pure (.bool (<-Op.equal t u v))):=by
   rcases hu with⟨x,n,c,rfl⟩|⟨p,rfl,rfl⟩|rfl|⟨f,y,c,rfl⟩<;>simp[binOp]
  rw[this];simp[h]
 ·have:binOp .neq t u v=(do pure (.bool (!(<-Op.equal t u v)))):=by
   rcases hu with⟨x,n,c,rfl⟩|⟨p,rfl,rfl⟩|rfl|⟨f,y,c,rfl⟩<;>simp[binOp]
  rw[this];simp[h]
theorem J6t{op:BinOp}{b:Bool}{r:AV}(h:J9L op (some b)=some r):(op=.eql\/op=.neq)/\r=.p (.b (if op=.eql then b else !b)):=by
 cases op<;>simp[J9L]at h
 ·exact⟨.inl rfl,by simp[<-h]⟩
 ·exact⟨.inr rfl,by simp[<-h]⟩
theorem JzO{op:BinOp}{r:AV}(h:JGW op=some r):(op=.eql\/op=.neq)/\r=.unk:=by
 cases op<;>simp[JGW]at h
 ·exact⟨.inl rfl,h.symm⟩
 ·exact⟨.inr rfl,h.symm⟩
theorem JJm(hi:Inv s)(he:J0j s a.tmps env){op x y}(h:(opR F (.bin op .nils x y) new).run ⟨env,s.σ⟩=some e)(hc:J01 P (.bin op .nils x y) o.op=true):J1b P o a s e:=by
 simp only[opR]at h;obtain⟨u,h1,D⟩:=bind_some h;obtain⟨v,h2,q⟩:=bind_some D;obtain⟨r,h3,rfl⟩:=J23 q;clear h D q h2;unfold J01 at hc;simp only at hc;split at hc
 ·rename_i K t k I ty C;simp only[J02,beq_iff_eq]at hc;obtain⟨⟨rfl,hx⟩,j⟩:=hc;have B:=J0b he h1 hx;clear h1;have hy:I=.const (.slice none 0 0)/\ ∃el,P.underlying t=some (.slice el):=by
   unfold JSc at j;split at j
   ·obtain⟨el,E⟩:=JLw.1 j;exact⟨rfl,el,J24 E⟩
   ·cases j
  obtain⟨rfl,el,hu⟩:=hy
  have go: ∀(z:Option Addr) (n c:Nat),a.eval k=.slice z n c->(op=.eql\/op=.neq)->
    (execOp a.eval o).run P s.w=.ok (.value (.bool (if op=.eql then z.isNone else !z.isNone))) s.w:=by
   intro z n c hz ho;have h1:=Jf7 (P:=P) (t:=t) ho (run_equal_slice_nil s.w t el z n c hu) (.inl ⟨z,n,c,rfl⟩);simp only[execOp,C,hz];simp only[J5W,J94 (P:=P) (u:=.slice z n c) (by simp),Act.eval,h1,J5L,JaU]
  simp only[Je9]at h3;split at h3
  ·rename_i esz rows;cases B with
   |p _ _ g=>
    split at h3
    ·obtain⟨ho,rfl⟩:=JzO h3;generalize hz:a.eval k=z at g;cases g with
     |sl0 _ A cap=>exact JG hi (go _ _ _ hz ho) (.unk _)
     |sl _ _ r J cap vals=>exact JG hi (go _ _ _ hz ho) (.unk _)
    ·obtain⟨ho,rfl⟩:=J6t h3;generalize hz:a.eval k=z at g;cases g with
     |sl _ _ r J cap vals=>exact JG hi (go _ _ _ hz ho) (J61 _)
  ·rename_i b i n;generalize hz:a.eval k=z at B;cases B with
   |slr _ _ _ _ wm esz rows H=>
    obtain⟨A,cap,rfl,hn⟩:=H;split at h3
    ·obtain⟨ho,rfl⟩:=JzO h3;exact JG hi (go _ _ _ hz ho) (.unk _)
    ·rename_i G;obtain⟨ho,rfl⟩:=J6t h3;have:A.isNone=false:=by
      cases A with
      |none=>exact absurd (hn.resolve_left G) (by simp)
      |some _=>rfl
     have h4:=go _ _ _ hz ho;rw[this]at h4;exact JG hi h4 (J61 _)
  ·cases h3
 ·cases hc
theorem JIY(hi:Inv s)(he:J0j s a.tmps env){op x y}(h:(opR F (.bin op .nilp x y) new).run ⟨env,s.σ⟩=some e)(hc:J01 P (.bin op .nilp x y) o.op=true):J1b P o a s e:=by
 simp only[opR]at h;obtain⟨u,h1,q⟩:=bind_some h;obtain⟨v,h2,k⟩:=bind_some q;obtain⟨r,h3,rfl⟩:=J23 k;clear h q k h2;unfold J01 at hc;simp only at hc;split at hc
 ·rename_i D t A C ty n;simp only[J02,beq_iff_eq]at hc;obtain⟨⟨rfl,hx⟩,g⟩:=hc;have j:=J0b he h1 hx;clear h1;have hy:C=.const (.pointer none)/\ ∃el,P.underlying t=some (.pointer el):=by
   unfold JQ3 at g;split at g
   ·split at g
    ·exact⟨rfl,_,by assumption⟩
    ·cases g
   ·cases g
  obtain⟨rfl,el,hu⟩:=hy
  have go: ∀(z:Option Addr),a.eval A=.pointer z->(op=.eql\/op=.neq)->
    (execOp a.eval o).run P s.w=.ok (.value (.bool (if op=.eql then z.isNone else !z.isNone))) s.w:=by
   intro z hz ho;have:P.pointee t=el:=by simp[Program.pointee,hu]
   have h1:=Jf7 (P:=P) (t:=t) ho (run_equal_pointer_nil s.w t z (by rw[this];exact hu)) (.inr (.inl ⟨z,rfl,rfl⟩));simp only[execOp,n,hz];simp only[J5W,J94 (P:=P) (u:=.pointer z) (by simp),Act.eval,h1,J5L,JaU]
  simp only[Je9]at h3;generalize hz:a.eval A=z at j;split at h3
  ·obtain⟨ho,rfl⟩:=J6t h3;have:=JQc j;subst this;exact JG hi (go _ hz ho) (J61 _)
  ·obtain⟨ho,rfl⟩:=J6t h3;cases j;exact JG hi (go _ hz ho) (J61 _)
  ·obtain⟨ho,rfl⟩:=J6t h3;cases j;exact JG hi (go _ hz ho) (J61 _)
  ·obtain⟨ho,rfl⟩:=J6t h3;cases j with
   |ep _ _ _ _ _ _ _ _ B=>
    obtain⟨r,E,rfl⟩:=B;exact JG hi (go _ hz ho) (J61 _)
  ·cases h3
 ·cases hc
theorem JJj(hi:Inv s)(he:J0j s a.tmps env){op x y}(h:(opR F (.bin op .nilf x y) new).run ⟨env,s.σ⟩=some e)(hc:J01 P (.bin op .nilf x y) o.op=true):J1b P o a s e:=by
 simp only[opR]at h;obtain⟨u,h1,A⟩:=bind_some h;obtain⟨v,h2,n⟩:=bind_some A;obtain⟨r,h3,rfl⟩:=J23 n;clear h A n h2;unfold J01 at hc;simp only at hc;split at hc
 ·rename_i D t C B ty k;simp only[J02,beq_iff_eq]at hc;obtain⟨⟨rfl,hx⟩,g⟩:=hc;have q:=J0b he h1 hx;clear h1;have hy:B=.const .nilFunc/\ ∃p r v,P.underlying t=some (.func p r v):=by
   unfold JSF at g;split at g
   ·split at g
    ·exact⟨rfl,_,_,_,by assumption⟩
    ·cases g
   ·cases g
  obtain⟨rfl,p,E,G,hu⟩:=hy;simp only[Je9]at h3;generalize hz:a.eval C=z at q;split at h3
  ·obtain⟨ho,rfl⟩:=J6t h3;have:=JRh q;subst this;have j:(Op.equal t .nilFunc .nilFunc).run P s.w=.ok true s.w:=by
    have: ∀d,(Op.equalIn (d+1) t .nilFunc .nilFunc).run P s.w=.ok true s.w:=λd=>by simp[Op.equalIn,run_underlying hu]
    exact this 9999
   have h1:=Jf7 (P:=P) (t:=t) ho j (.inr (.inr (.inl rfl)));refine JG hi ?_ (J61 _);simp only[execOp,k,hz];simp only[J5W,J94 (P:=P) (u:=.nilFunc) (by simp),Act.eval,h1,J5L,JaU]
  ·obtain⟨ho,rfl⟩:=J6t h3;cases q;rename_i f _ _ fs cs _ _ _ _;have j:(Op.equal t (.func (.func f) fs cs) .nilFunc).run P s.w=.ok false s.w:=by
    have: ∀d,(Op.equalIn (d+1) t (.func (.func f) fs cs) .nilFunc).run P s.w=.ok false s.w:=λd=>by simp[Op.equalIn,run_underlying hu]
    exact this 9999
   have h1:=Jf7 (P:=P) (t:=t) ho j (.inr (.inr (.inr ⟨_,_,_,rfl⟩)));refine JG hi ?_ (J61 _);simp only[execOp,k,hz];simp only[J5W,J94 (P:=P) (u:=.func (.func f) fs cs) (by simp),Act.eval,h1,J5L,JaU]
  ·cases h3
 ·cases hc
end
end Go.Am
end
section
namespace Go.Am
theorem J8V: ∀{vs:List Value} {w:World} {r o:Nat} {c:Array Value} {e:TypeId} {fz:Nat×Nat},w.heap[r]?=some (.cells c e fz)->o+vs.length<=c.size->
  Put r o vs w (w.setCells r o vs)
 |[],w,r,o,c,e,fz,h,hl=>⟨⟨c,e,fz,c,h,h,rfl,hl,λj v hj=>by simp at hj,λ_ _=>rfl⟩,λ_ _=>rfl,rfl,rfl,rfl⟩
 |v::vs,w,r,o,c,e,fz,h,hl=>by
  have hr:=J2s h;have x:o+1+vs.length<=c.size:=by simp at hl;omega
  have h1:(w.setCell ⟨r,o,none⟩ v).heap[r]?=some (.cells (c.setIfInBounds o v) e fz):=by simp[World.setCell,Array.getElem?_modify,h]
  obtain⟨⟨D,e1,fz1,c',g,A,y,C,z,q⟩,q1,q2,q3,B⟩:=J8V (vs:=vs) (o:=o+1) h1 (by simpa using x);rw[h1]at g;injection g with g;injection g with a1 a2 a3;subst a1 a2 a3
  refine⟨⟨c,e,fz,c',h,A,by simpa using y,hl,λj u hj=>?_,λk hk=>?_⟩,λr' n=>?_,?_,q3,B⟩
  ·cases j with
   |zero=>
    simp at hj;subst hj;rw[JaY,q o (.inl (by omega))];have:o<c.size:=by simp at hl;omega
    simp[this]
   |succ j=>
    have:=z j u (by simpa using hj);rwa[show o+(j+1)=o+1+j by omega]
  ·rw[q k (by simp at hk;omega)];have:o≠k:=by simp at hk;omega
   simp[Array.getElem?_setIfInBounds,this]
  ·show((w.setCell ⟨r,o,none⟩ v).setCells r (o+1) vs).heap[r']?=_;rw[q1 r' n];simp[World.setCell,Array.getElem?_modify,Ne.symm n]
  ·show((w.setCell ⟨r,o,none⟩ v).setCells r (o+1) vs).heap.size=_;rw[q2];simp[World.setCell]
theorem J0u.one{w C x v}(h:J0u w C x v):v.oneCell'=true:=by cases h<;>rfl
theorem J0u.cells1{w C x v}(h:J0u w C x v):v.cells= #[v]:=by cases h<;>rfl
section
variable {P:Program} {F:Orc} {s:Sn} {a:Act} {env:List (Nat×AV)} {o:Oper} {new:Nat} {e:Eff}
theorem JTk(hi:Inv s)(he:J0j s a.tmps env){op x}(h:(opR F (.un op x) new).run ⟨env,s.σ⟩=some e)(hc:J01 P (.un op x) o.op=true):J1b P o a s e:=by
 simp only[opR]at h;obtain⟨u,h1,q⟩:=bind_some h;obtain⟨r,h3,rfl⟩:=J23 q;clear h q;unfold J01 at hc;simp only at hc;split at hc
 ·rename_i w t y g;simp only[J02,beq_iff_eq]at hc;obtain⟨rfl,hx⟩:=hc;have j:=J0b he h1 hx;clear h1;generalize hz:a.eval y=z at j;unfold unP at h3;split at h3<;>first|(injection h3 with h3;subst h3)|cases h3
  ·rename_i k n;have:=J4r j;subst this;exact JG hi (v:=.int k (k.wrap (0-n))) (by simp[execOp,g,hz,Op.unary,Op.intArith]) (J67 _ _)
  ·rename_i k n;have:=J4r j;subst this;exact JG hi (v:=.int k (k.wrap (BitVec.ofInt k.bits (if k.signed then -1 else k.max)^^^BitVec.ofInt k.bits n).toNat)) (by simp[execOp,g,hz,Op.unary,Op.intBits]) (J67 _ _)
  ·rename_i b;have:=JvJ j;subst this;exact JG hi (v:=.bool (!b)) (by simp[execOp,g,hz,Op.unary]) (J61 _)
  ·cases j with
   |unk b=>exact JG hi (v:=.bool (!b)) (by simp[execOp,g,hz,Op.unary]) (.unk _)
 ·cases hc
theorem JOv(hi:Inv s)(he:J0j s a.tmps env){off x}(h:(opR F (.faddr off x) new).run ⟨env,s.σ⟩=some e)(hc:J01 P (.faddr off x) o.op=true):J1b P o a s e:=by
 simp only[opR]at h;obtain⟨u,h1,E⟩:=bind_some h;obtain⟨r,h3,rfl⟩:=J23 E;clear h E;unfold J01 at hc;simp only at hc;split at hc
 ·rename_i t y f D;simp only[J02]at hc;obtain⟨hx,k⟩:=hc;have v:=J0b he h1 hx;clear h1;have hf: ∃fs j n,P.underlying t=some (.struct fs)/\fs[f]?=some j/\j.offset=off/\szT P j.type=some n/\n≠0:=by
   split at k
   ·rename_i fs G;split at k
    ·rename_i j q;simp only[J02,beq_iff_eq]at k;obtain⟨h4,h5⟩:=k;split at h5
     ·rename_i n hn;exact⟨fs,j,n,JEq G,q,h4,hn,by simpa using h5⟩
     ·cases h5
    ·cases k
   ·cases k
  obtain⟨fs,j,n,hu,q,rfl,hn,H⟩:=hf;have go: ∀(r g:Nat),a.eval y=.pointer (some ⟨r,g,none⟩)->(execOp a.eval o).run P s.w=.ok (.value (.pointer (some ⟨r,g+j.offset,none⟩))) s.w:=by
   intro r g hz;have C:Addr.add ⟨r,g,none⟩ j.offset=⟨r,g+j.offset,none⟩:=by unfold Addr.add;split<;>simp_all
   simp only[execOp,D,hz];simp[Instr.fieldAt,run_underlying hu,q,Instr.sureAddr,fieldPlace,J2Q hn,H,C]
  generalize hz:a.eval y=z at v;unfold Jrj at h3;split at h3<;>first|(injection h3 with h3;subst h3)|cases h3
  ·cases v with
   |ptr _ _ r g m hb=>exact JG hi (go _ _ hz) (by rw[Jd0];exact .ptr _ _ r g m hb)
  ·cases v with
   |cp cs _ r g vals B A=>exact JG hi (go _ _ hz) (by rw[Jd0];exact .cp _ _ r g vals B A)
  ·cases v with
   |ep _ _ _ _ _ wm esz rows p0 B A I=>
    obtain⟨r,g,rfl⟩:=p0;refine JG hi (go _ _ hz) (.ep _ _ _ _ _ wm esz rows ⟨_,_,rfl⟩ B A λe1 e2=>?_);obtain⟨r',m,hv⟩:=I e1 e2;simp at hv;obtain⟨rfl,rfl⟩:=hv;exact⟨r,m,by rw[Jd0]⟩
 ·cases hc
theorem JR2(hi:Inv s)(he:J0j s a.tmps env){x i}(h:(opR F (.extr x i) new).run ⟨env,s.σ⟩=some e)(hc:J01 P (.extr x i) o.op=true):J1b P o a s e:=by
 simp only[opR]at h;obtain⟨u,h1,k⟩:=bind_some h;obtain⟨r,h3,rfl⟩:=J23 k;clear h k;unfold J01 at hc;simp only at hc;split at hc
 ·rename_i y j g;simp only[J02,beq_iff_eq]at hc;obtain⟨hx,rfl⟩:=hc;have n:=J0b he h1 hx;generalize hz:a.eval y=z at n;unfold JvC at h3;split at h3
  ·cases n with
   |tup cs vs A q=>
    have w:=Ji h3;have hv:vs[i]?=some vs[i]:=by simp
    exact JG hi (v:=vs[i]) (by simp[execOp,g,hz,Instr.extract,hv]) (q i r _ h3 hv)
  ·cases h3
 ·cases hc
theorem JQq(hi:Inv s)(he:J0j s a.tmps env){f first caps}(h:(opR F (.mkfn f first caps) new).run ⟨env,s.σ⟩=some e)(hc:J01 P (.mkfn f first caps) o.op=true):J1b P o a s e:=by
 simp only[opR]at h;obtain⟨u,h1,w⟩:=bind_some h;obtain⟨v,h2,j⟩:=bind_some w;simp only[RM.run]at j;injection j with j;subst j
 clear h w;unfold J01 at hc;simp only at hc;split at hc
 ·rename_i g k n r;simp only[J02,beq_iff_eq]at hc;obtain⟨⟨rfl,hf⟩,q⟩:=hc;obtain⟨A,y⟩:=Jfh he h1 hf;obtain⟨B,z⟩:=Jfh he h2 q;refine JG hi (v:=.func (.func f) (k.map a.eval) (n.map a.eval)) (by simp[execOp,r,Instr.makeFunc]) (.fn _ _ _ _ _ (by simpa using A) (by simpa using B) (λi x v hx hv=>y i x v hx ?_) (λi x v hx hv=>z i x v hx ?_))
  ·simpa using hv
  ·simpa using hv
 ·cases hc
theorem JTv(hi:Inv s)(he:J0j s a.tmps env){mx x y}(h:(opR F (.mm mx x y) new).run ⟨env,s.σ⟩=some e)(hc:J01 P (.mm mx x y) o.op=true):J1b P o a s e:=by
 simp only[opR]at h;obtain⟨u,h1,A⟩:=bind_some h;obtain⟨v,h2,w⟩:=bind_some A;obtain⟨r,h3,rfl⟩:=J23 w;clear h A w;unfold J01 at hc;simp only at hc;split at hc
 ·rename_i c n;split at hc
  ·rename_i b g;simp only[J02,beq_iff_eq]at hc;obtain⟨hb,hc⟩:=hc;split at hc
   ·rename_i D C j;simp only[J02]at hc;have E:=J0b he h1 hc.1;have G:=J0b he h2 hc.2;have hm:c.args.map a.eval= #[a.eval D,a.eval C]:=by apply JaT;simp[j]
    unfold mmP at h3;split at h3
    ·rename_i k p H q;injection h3 with h3;subst h3;have z:=J4r E;have B:=J4r G;cases mx
     ·simp only[J5V,if_false]at hb⊢;subst hb;refine JG hi (v:=.int k (if q<p then q else p)) ?_ (J67 _ _);simp[execOp,n,resolve,g,hm,z,B,invoke,builtin,Builtin.min_,Builtin.min2]
     ·simp only[if_true]at hb⊢;subst hb;refine JG hi (v:=.int k (if q>p then q else p)) ?_ (J67 _ _);simp[execOp,n,resolve,g,hm,z,B,invoke,builtin,Builtin.max_,Builtin.max2]
    ·cases h3
   ·cases hc
  ·cases hc
 ·cases hc
theorem JRC(hi:Inv s)(he:J0j s a.tmps env){str x}(h:(opR F (.len str x) new).run ⟨env,s.σ⟩=some e)(hc:J01 P (.len str x) o.op=true):J1b P o a s e:=by
 simp only[opR]at h;obtain⟨u,h1,G⟩:=bind_some h;obtain⟨r,h3,rfl⟩:=J23 G;clear h G;unfold J01 at hc;simp only at hc;split at hc
 ·rename_i c C;split at hc
  ·rename_i k;split at hc
   ·rename_i y t A E;simp only[J02]at hc;obtain⟨hx,q⟩:=hc;have B:=J0b he h1 hx;have hm:c.args.map a.eval= #[a.eval y]:=by apply JaT;simp[A]
    have D:c.argTypes[0]?=some t:=by rw[<-JHE,E];rfl
    generalize hz:a.eval y=z at B;have hs: ∀l:List UInt8,z=.string ⟨l.toArray⟩->J6T P t=true->(execOp a.eval o).run P s.w=.ok (.value (.int .i64 l.length)) s.w:=by intro l hl g;have:=J7r g;simp[execOp,C,resolve,k,hm,hz,hl,invoke,builtin,Builtin.len_,D,run_underlying this,goInt,J9u]
    have j: ∀v n cp,z=.slice v n cp->(elT P t).isSome=true->(execOp a.eval o).run P s.w=.ok (.value (.int .i64 n)) s.w:=by intro v n cp hl g;obtain⟨el,H⟩:=JLw.1 g;have:=J24 H;simp[execOp,C,resolve,k,hm,hz,hl,invoke,builtin,Builtin.len_,D,run_underlying this,goInt]
    unfold Jxz at h3;split at h3<;>first|(injection h3 with h3;subst h3)|cases h3
    ·exact JG hi (hs _ (Jcf B) (by simpa using q)) (J67 _ _)
    ·cases B with
     |p _ _ I=>
      cases I with
      |sl0 _ v cap=>exact JG hi (j _ _ _ rfl (by simpa using q)) (J67 _ _)
      |sl _ _ r K cap vals=>exact JG hi (j _ _ _ rfl (by simpa using q)) (J67 _ _)
    ·cases B with
     |slr _ _ _ _ wm esz rows J=>
      obtain⟨v,cap,hv,_⟩:=J;exact JG hi (j _ _ _ hv (by simpa using q)) (J67 _ _)
   ·cases hc
  ·cases hc
 ·cases hc
end
end Go.Am
end
section
namespace Go.Am
section
variable {P:Program} {F:Orc} {s:Sn} {a:Act} {env:List (Nat×AV)} {o:Oper} {new:Nat} {e:Eff}
theorem J6U.of_p{s:Sn}{esz rows v}(h:JL s (.p (.sl esz rows)) v):J6U s esz rows v:=by cases h with|p _ _ h=>exact .of_sl h
theorem Jx5(hi:Inv s){esz:Nat}{x:AV}{rows:List (List PV)}{v:Value}(h:(J2B esz x).run ⟨env,s.σ⟩=some rows)(hr:JL s x v):
  (∃l,x=.p (.s l)/\esz=1/\rows=l.map J4C/\v=.string ⟨l.toArray⟩)\/J6U s esz rows v:=by
 unfold J2B at h;split at h
 ·split at h
  ·rename_i he;subst he;simp only[RM.run]at h;injection h with h;subst h
   exact .inr (.of_p hr)
  ·cases h
 ·split at h
  ·rename_i l he;simp only[RM.run]at h;injection h with h;subst h
   exact .inl ⟨l,rfl,he,rfl,Jcf hr⟩
  ·cases h
 ·simp only[RM.run]at h;split at h
  ·rename_i blk hb;split at h
   ·split at h
    ·rename_i hc;obtain⟨rfl,hc⟩:=hc;simp only[RM.run]at h;injection h with h;subst h
     exact .inr (.of_slr hi hr hb hc)
    ·cases h
   ·cases h
  ·cases h
 ·cases h
theorem Jv0{α:Type}{esz:Nat}: ∀{rows:List (List α)},(∀row∈rows,row.length=esz)-> ∀{k:Nat} {x:α},rows.flatten[k]?=some x->
  ∃i j row,k=i*esz+j/\rows[i]?=some row/\row[j]?=some x/\j<esz
 |[],_,k,x,h=>by simp at h
 |r::rows,hl,k,x,h=>by
  simp only[J8S]at h;have hr:r.length=esz:=hl r (by simp);rcases List.getElem?_append (l₁:=r) (l₂:=rows.flatten) (i:=k)▸h with e;split at e
  ·exact⟨0,k,r,by simp,rfl,e,by omega⟩
  ·obtain⟨i,j,row,e1,e2,g,n⟩:=Jv0 (λrow hm=>hl row (by simp[hm])) e;exact⟨i+1,j,row,by rw[J4c];omega,by simpa using e2,g,n⟩
theorem JlE{α:Type}{esz:Nat}: ∀{rows:List (List α)},(∀row∈rows,row.length=esz)->rows.flatten.length=rows.length*esz
 |[],_=>by simp
 |r::rows,hl=>by
  have:=JlE (rows:=rows) (λrow hm=>hl row (by simp[hm]));have h1:=hl r (by simp);simp[this,h1,J4c];omega
theorem J6U.cells{s:Sn}{esz rows v}(h:J6U s esz rows v):
  ∃(a:Option Addr) (cap:Nat) (vs:List Value),v=.slice a rows.length cap/\rows.length<=cap/\vs.length=rows.length*esz/\
   (∀(k:Nat) x,rows.flatten[k]?=some x-> ∃u,vs[k]?=some u/\J0u s.w s.g.C x u)/\
   (rows=[]\/ ∃r o,a=some ⟨r,o,none⟩/\ ∀(k:Nat) u,vs[k]?=some u->J0M s.w r (o+k)=some u)/\(∀row∈rows,row.length=esz):=by
 obtain⟨a,cap,h1,h2,h3,h4⟩:=h;rcases h4 with rfl|⟨r,o,ha,hx⟩
 ·exact⟨a,cap,[],h1,h2,by simp,λk x hk=>by simp at hk,.inl rfl,h3⟩
 ·refine⟨a,cap,(List.range (rows.length*esz)).map λk=>(J0M s.w r (o+k)).getD .nilFunc,h1,h2,by simp,λk x hk=>?_,.inr ⟨r,o,ha,λk u hk=>?_⟩,h3⟩
  ·obtain⟨i,j,row,e1,e2,n,_⟩:=Jv0 h3 hk;obtain⟨u,hu,hr⟩:=hx i j row x e2 n;have e:=Ji hk;rw[JlE h3]at e;refine⟨u,?_,hr⟩;rw[J2c,Jm7 e];have:o+k=o+i*esz+j:=by omega
   simp[this,hu]
  ·have e:=Ji hk;simp at e;rw[J2c,Jm7 e]at hk;simp at hk;have:k<rows.flatten.length:=by rw[JlE h3];exact e
   obtain⟨i,j,row,e1,e2,n,_⟩:=Jv0 h3 (JK this);obtain⟨y,hu,_⟩:=hx i j row _ e2 n;have q:o+k=o+i*esz+j:=by omega
   rw[q,hu]at hk⊢;simpa using hk
theorem Jr1: ∀{rows:List (List PV)} {l:List UInt8},J9t rows=some l-> ∃e:List Int,rows=e.map (λn=>[PV.i .u8 n])/\l=e.map λn=>UInt8.ofNat n.toNat
 |[],l,h=>by simp[J9t]at h;exact⟨[],rfl,by simp[h]⟩
 |row::rows,l,h=>by
  unfold J9t at h;split at h
  ·simp_all
  ·rename_i n r j;injection j with e1 e2;subst e1 e2;split at h
   ·rename_i k g;injection h with h;subst h;obtain⟨e,h1,h2⟩:=Jr1 g;exact⟨n::e,by simp[h1],by simp[h2]⟩
   ·cases h
  ·cases h
theorem JKN(e:List Int): ∀b:ByteArray,(e.foldl (λr n=>r.push (UInt8.ofNat n.toNat)) b)=⟨b.data++(e.map λn=>UInt8.ofNat n.toNat).toArray⟩:=by
 induction e with
 |nil=>intro b;simp
 |cons n e ih=>
  intro b;simp only[List.foldl_cons,ih];apply ByteArray.ext;apply JaT;simp[ByteArray.push]
theorem Jb0(r o n:Nat):Addr.add ⟨r,o,none⟩ n=⟨r,o+n,none⟩:=by unfold Addr.add;split<;>simp_all
theorem JA9{w:World}{r o:Nat}(vs:List Value)(h: ∀(k:Nat) u,vs[k]?=some u->J0M w r (o+k)=some u):
  (loadCells ⟨r,o,none⟩ vs.length).run P w=.ok vs.toArray w:=
 run_loadCells_list w _ vs λj v hj=>by rw[Jb0,J9p];exact h j v hj
theorem JQU(hi:Inv s)(he:J0j s a.tmps env){k x}(hk: ∀own,k≠.toBytes own)(h:(opR F (.conv k x) new).run ⟨env,s.σ⟩=some e)(hc:J01 P (.conv k x) o.op=true):J1b P o a s e:=by
 simp only[opR]at h;obtain⟨u,h1,j⟩:=bind_some h;clear h;unfold J01 at hc;simp only at hc;split at hc
 ·rename_i U dst y A;simp only[J02]at hc;obtain⟨hx,g⟩:=hc;have B:=J0b he h1 hx;generalize hz:a.eval y=z at B;split at j
  ·rename_i N V n;simp only[RM.run]at j;injection j with j;subst j
   simp only[J02]at g;obtain⟨ks,hs⟩:=JN2 g.1;have hd:=JMh g.2;have:=J4r B;subst this;exact JG hi (v:=.int N (N.wrap n)) (by simp[execOp,A,hz,convert,run_underlying hs,run_underlying hd,Conv.intToInt]) (J67 _ _)
  ·rename_i l;simp only[RM.run]at j;injection j with j;subst j
   simp only[J02]at g;have hs:=J7r g.1;have hd:=J7r g.2;have:=Jcf B;subst this;exact JG hi (v:=.string ⟨l.toArray⟩) (by simp[execOp,A,hz,convert,run_underlying hs,run_underlying hd]) (JrM _)
  ·simp only[J02]at g;obtain⟨g,hd⟩:=g;have hd:=J7r hd;split at g
   ·rename_i el M;simp only[J02,beq_iff_eq]at g;have hs:=J24 M;have Q:=JDF g.1;obtain⟨rows,h4,h5⟩:=bind_some j;clear j;split at h5
    ·rename_i l hl;simp only[RM.run]at h5;injection h5 with h5;subst h5
     rcases Jx5 hi h4 B with⟨T,rfl,_,G,hv⟩|L
     ·
      have:=Jcf B;subst this;have:l=T:=by
       have: ∀l:List UInt8,J9t (l.map J4C)=some l:=by
        intro l
        induction l with
        |nil=>rfl
        |cons b l ih=>simp[J9t,J4C,ih]
       rw[G,this]at hl;injection hl with hl;exact hl.symm
      subst this;exact JG hi (v:=.string ⟨l.toArray⟩) (by simp[execOp,A,hz,convert,run_underlying hs,run_underlying hd]) (JrM _)
     ·obtain⟨E,cap,vs,hv,I,hlen,hrel,D,K⟩:=L.cells;obtain⟨q,hr,rfl⟩:=Jr1 hl;have hvs:vs=q.map (Value.int .u8):=by
       apply Jp5;intro k;have O:rows.flatten=q.map (PV.i .u8):=by rw[hr];clear hr hl hrel hlen K D hv I h4 B;induction q with
        |nil=>rfl
        |cons n q ih=>simp[ih]
       by_cases hk:k<q.length
       ·obtain⟨u,hu,hp⟩:=hrel k (.i .u8 q[k]) (by rw[O];simp[hk]);cases hp;rw[hu];simp[hk]
       ·have W:vs.length=q.length:=by rw[hlen,hr];simp
        rw[zQ3 (by omega),zQ3 (by simp;omega)]
      have H:rows.length=vs.length:=by omega
      subst hv;have J:(Conv.bytesToString (.slice E rows.length cap)).run P s.w=.ok (.string ⟨(q.map λn=>UInt8.ofNat n.toNat).toArray⟩) s.w:=by
       rcases D with C|⟨r,S,rfl,hm⟩
       ·have R:q=[]:=by rw[C]at hr;simpa using hr.symm
        subst R;cases E with
        |none=>simp[Conv.bytesToString];rfl
        |some E=>
         have:=run_bytesToString (P:=P) s.w E rows.length cap [] (by rw[C];simp[loadCells,loadCellsFrom]);rw[this];rfl
       ·have:=run_bytesToString (P:=P) s.w ⟨r,S,none⟩ rows.length cap q (by rw[H,<-hvs];exact JA9 vs hm);rw[this,JKN];simp
      refine JG hi (v:=.string ⟨(q.map λn=>UInt8.ofNat n.toNat).toArray⟩) ?_ (JrM _);simp[execOp,A,hz,convert,run_underlying hs,run_underlying hd,run_underlying Q,J]
    ·cases h5
   ·cases g
  ·rename_i own l;exact absurd rfl (hk own)
  ·cases j
 ·cases hc
end
end Go.Am
end
section
namespace Go.Am
theorem JjQ{α:Type}{cs l:List α}{off size:Nat}(h:sub cs off size=some l):l.length=size/\off+size<=cs.length/\ ∀(i:Nat),i<size->l[i]?=cs[off+i]?:=by
 unfold sub at h;split at h
 ·rename_i hc;injection h with h;subst h;exact⟨hc.2,by omega,λi hi=>by rw[hc.1,zQ6]⟩
 ·split at h
  ·rename_i hc;injection h with h;subst h;refine⟨by simp;omega,hc,λi hi=>?_⟩;rw[Jiz,if_pos hi,Jb3]
  ·cases h
theorem JlS: ∀{cs:List AV} {l:List PV},unp cs=some l->cs=l.map .p
 |[],l,h=>by simp[unp]at h;simp[h]
 |x::cs,l,h=>by
  unfold unp at h;split at h
  ·simp_all
  ·rename_i c r e;injection e with e1 e2;subst e1 e2;split at h
   ·rename_i g hl;injection h with h;subst h;simp[JlS hl]
   ·cases h
  ·cases h
section
variable {P:Program} {F:Orc} {s:Sn} {a:Act} {env:List (Nat×AV)} {o:Oper} {new:Nat} {e:Eff}
theorem JyD{agg:Bool}{l:List PV}{x:AV}{vs:List Value}(h:J4I agg l=some x)(hl:l.length=vs.length)
  (hr: ∀(i:Nat) y v,l[i]?=some y->vs[i]?=some v->J0u s.w s.g.C y v):
  (agg=true/\JL s x (.agg vs.toArray))\/(agg=false/\ ∃v,vs=[v]/\JL s x v):=by
 cases agg with
 |true=>
  simp[J4I]at h;subst h;exact .inl ⟨rfl,.data _ _ (by simpa using hl) λi y v hy hv=>hr i y v hy (by simpa using hv)⟩
 |false=>
  simp only[J4I,J5V,if_false]at h;split at h
  ·injection h with h;subst h;obtain⟨v,rfl⟩: ∃v,vs=[v]:=JL9.1 (by simpa using hl.symm);exact .inr ⟨rfl,v,rfl,.p _ _ (hr 0 _ v rfl rfl)⟩
  ·cases h
theorem Jwp{agg:Bool}{l:List AV}{x:AV}{vs:List Value}(h:J3L agg l=some x)(hl:l.length=vs.length)(h1: ∀v∈vs,v.oneCell'=true)
  (hr: ∀(i:Nat) y v,l[i]?=some y->vs[i]?=some v->JL s y v):
  (agg=true/\JL s x (.agg vs.toArray))\/(agg=false/\ ∃v,vs=[v]/\JL s x v):=by
 cases agg with
 |true=>
  simp only[J3L,if_true]at h;split at h
  ·rename_i q hq;injection h with h;subst h;have:=JlS hq;subst this;refine .inl ⟨rfl,.data _ _ (by simpa using hl) λi y v hy hv=>?_⟩;have:=hr i (.p y) v (by simp[hy]) (by simpa using hv);cases this with|p _ _ h=>exact h
  ·injection h with h;subst h;exact .inl ⟨rfl,.agg _ _ (by simpa using hl) (λi v hv=>h1 v (by have:=J0F (l:=vs) (i:=i) (x:=v) (by simpa using hv);exact this)) λi y v hy hv=>hr i y v hy (by simpa using hv)⟩
 |false=>
  simp only[J3L,J5V,if_false]at h;split at h
  ·injection h with h;subst h;obtain⟨v,rfl⟩: ∃v,vs=[v]:=JL9.1 (by simpa using hl.symm);exact .inr ⟨rfl,v,rfl,hr 0 _ v rfl rfl⟩
  ·cases h
theorem JAh{agg:Bool}{off size:Nat}{x r:AV}{v:Value}{t:TypeId}(h:Jak agg off size x=some r)(hr:JL s x v)(z:agT P t=some agg)(hs:szT P t=some size)
  (h1:agg=true\/size=1): ∃cs u,v=.agg cs/\(part t cs off).run P s.w=.ok u s.w/\JL s r u:=by
 have go: ∀(cs:Array Value) (vs:List Value),vs.length=size->(∀(i:Nat),i<size->vs[i]?=cs[off+i]?)->off+size<=cs.size->
   ((agg=true/\JL s r (.agg vs.toArray))\/(agg=false/\ ∃v,vs=[v]/\JL s r v))-> ∃u,(part t cs off).run P s.w=.ok u s.w/\JL s r u:=by
  intro cs vs j n D g;rcases g with⟨rfl,e⟩|⟨rfl,v,rfl,e⟩
  ·refine⟨.agg (cs.extract off (off+size)),by simp[part,Jfe z,J2Q hs],?_⟩;have:cs.extract off (off+size)=vs.toArray:=by
    apply JaT;rw[Array.toList_extract];apply Jp5;intro k;simp only[List.extract,Nat.add_sub_cancel_left];rw[Jiz];split
    ·rename_i hk;rw[Jb3,JHE,n k hk]
    ·rw[zQ3 (by omega)]
   rw[this];exact e
  ·simp at j;subst j;have q:=n 0 (by omega);simp at q;exact⟨v,by simp[part,Jfe z,<-q],e⟩
 unfold Jak at h;split at h
 ·rename_i cs;split at h
  ·rename_i l hl;obtain⟨A,C,o⟩:=JjQ hl;cases hr with
   |data _ vs q1 q2=>
    have g:=JyD (s:=s) (vs:=((vs.toList.drop off).take size)) h (by simp;omega) (by intro i y v hy hv;have hi:=Ji hy;rw[o i (by omega)]at hy;rw[Jiz,if_pos (by omega),Jb3]at hv;exact q2 _ y v hy (by simpa using hv))
    obtain⟨u,hu,e⟩:=go vs _ (by simp;omega) (by intro i hi;rw[Jiz,if_pos hi,Jb3];simp) (by omega) g;exact⟨vs,u,rfl,hu,e⟩
  ·cases h
 ·rename_i cs;split at h
  ·rename_i l hl;obtain⟨A,C,o⟩:=JjQ hl;cases hr with
   |agg _ vs q1 B q2=>
    have g:=Jwp (s:=s) (vs:=((vs.toList.drop off).take size)) h (by simp;omega) (by
     intro v hv;have hv:=JLS (JMk hv);obtain⟨i,hi⟩:=J9V hv;exact B i v (by simpa using hi)) (by
     intro i y v hy hv;have hi:=Ji hy;rw[o i (by omega)]at hy;rw[Jiz,if_pos (by omega),Jb3]at hv;exact q2 _ y v hy (by simpa using hv))
    obtain⟨u,hu,e⟩:=go vs _ (by simp;omega) (by intro i hi;rw[Jiz,if_pos hi,Jb3];simp) (by omega) g;exact⟨vs,u,rfl,hu,e⟩
  ·cases h
 ·cases h
theorem JOD(hi:Inv s)(he:J0j s a.tmps env){agg off size x}(h:(opR F (.field agg off size x) new).run ⟨env,s.σ⟩=some e)(hc:J01 P (.field agg off size x) o.op=true):J1b P o a s e:=by
 simp only[opR]at h;obtain⟨u,h1,k⟩:=bind_some h;obtain⟨r,h3,rfl⟩:=J23 k;clear h k;unfold J01 at hc;simp only at hc;split at hc
 ·rename_i t y f j;simp only[J02]at hc;obtain⟨hx,g⟩:=hc;split at g
  ·rename_i fs n;split at g
   ·rename_i A q;simp only[J02,beq_iff_eq]at g;obtain⟨⟨⟨h4,h5⟩,z⟩,w⟩:=g;obtain⟨cs,v,hv,hp,hr⟩:=JAh h3 (J0b he h1 hx) z h5 (by simpa using w);exact JG hi (v:=v) (by simp[execOp,j,hv,Instr.field,run_underlying (JEq n),q,asAgg,h4,hp]) hr
   ·cases g
  ·cases g
 ·cases hc
theorem JQs(hi:Inv s)(he:J0j s a.tmps env){x i}(h:(opR F (.sidx x i) new).run ⟨env,s.σ⟩=some e)(hc:J01 P (.sidx x i) o.op=true):J1b P o a s e:=by
 simp only[opR]at h;obtain⟨u,h1,w⟩:=bind_some h;obtain⟨v,h2,g⟩:=bind_some w;clear h w;unfold J01 at hc;simp only at hc;split at hc
 ·rename_i t y j r;simp only[J02]at hc;obtain⟨⟨hx,hj⟩,B⟩:=hc;have D:=J0b he h1 hx;have E:=J0b he h2 hj;split at g
  ·rename_i l k n;split at g
   ·rename_i hn;split at g
    ·rename_i b hb;simp only[RM.run]at g;injection g with g;subst g
     have A:=Jcf D;have C:=J4r E;have z:(⟨l.toArray⟩:ByteArray)[n.toNat]?=some b:=by have q:=Ji hb;rw[JK q]at hb;rw[getElem?_pos _ _ (by show n.toNat<ByteArray.size _;rw[J9u];exact q)];injection hb with hb;rw[<-hb];rfl
     refine JG hi (v:=.int .u8 b.toNat) ?_ (J67 _ _);simp[execOp,r,A,C,Instr.index,asIntOf,run_underlying (J7r B),hn,z]
    ·cases g
   ·cases g
  ·cases g
 ·cases hc
theorem JQX(hi:Inv s)(he:J0j s a.tmps env){agg len esz x i}(h:(opR F (.aidx agg len esz x i) new).run ⟨env,s.σ⟩=some e)(hc:J01 P (.aidx agg len esz x i) o.op=true):J1b P o a s e:=by
 simp only[opR]at h;obtain⟨u,h1,B⟩:=bind_some h;obtain⟨v,h2,g⟩:=bind_some B;clear h B;unfold J01 at hc;simp only at hc;split at hc
 ·rename_i t y j z;simp only[J02]at hc;obtain⟨⟨hx,hj⟩,q⟩:=hc;have E:=J0b he h1 hx;have G:=J0b he h2 hj;split at q
  ·rename_i n el A;simp only[J02,beq_iff_eq]at q;obtain⟨⟨⟨rfl,h5⟩,H⟩,C⟩:=q;split at g
   ·rename_i k m;split at g
    ·rename_i hm;obtain⟨r,h3,rfl⟩:=J23 g;obtain⟨cs,w,hv,hp,hr⟩:=JAh h3 E H h5 (by simpa using C);have D:=J4r G;exact JG hi (v:=w) (by simp[execOp,z,hv,D,Instr.index,asIntOf,run_underlying (JuM A),hm,J2Q h5,hp]) hr
    ·cases g
   ·cases g
  ·cases q
 ·cases hc
theorem JPp(hi:Inv s)(he:J0j s a.tmps env){len esz x i}(h:(opR F (.aaddr len esz x i) new).run ⟨env,s.σ⟩=some e)(hc:J01 P (.aaddr len esz x i) o.op=true):J1b P o a s e:=by
 simp only[opR]at h;obtain⟨u,h1,J⟩:=bind_some h;obtain⟨v,h2,B⟩:=bind_some J;obtain⟨r,h3,rfl⟩:=J23 B;clear h J B;unfold J01 at hc;simp only at hc;split at hc
 ·rename_i t y j H;simp only[J02]at hc;obtain⟨⟨hx,hj⟩,q⟩:=hc;have A:=J0b he h1 hx;have M:=J0b he h2 hj;split at q
  ·rename_i n el I;simp only[J02,beq_iff_eq]at q;obtain⟨rfl,h5⟩:=q;unfold Jrv at h3;split at h3
   ·rename_i k m;split at h3
    ·rename_i hm;have L:=J4r M;have go: ∀(r g:Nat),a.eval y=.pointer (some ⟨r,g,none⟩)->(execOp a.eval o).run P s.w=.ok (.value (.pointer (some ⟨r,g+m.toNat*esz,none⟩))) s.w:=by intro r g hz;simp[execOp,H,hz,L,Instr.indexAt,asIntOf,run_underlying (JuM I),Instr.sureAddr,hm,J2Q h5,Jb0]
     generalize hz:a.eval y=z at A;split at h3<;>first|(injection h3 with h3;subst h3)|cases h3
     ·cases A with
      |ptr _ _ r g G hb=>exact JG hi (go _ _ hz) (by rw[Jd0];exact .ptr _ _ r g G hb)
     ·cases A with
      |cp cs _ r g vals E C=>exact JG hi (go _ _ hz) (by rw[Jd0];exact .cp _ _ r g vals E C)
     ·cases A with
      |ep _ _ _ _ _ wm D rows p0 E C K=>
       obtain⟨r,g,rfl⟩:=p0;refine JG hi (go _ _ hz) (.ep _ _ _ _ _ wm D rows ⟨_,_,rfl⟩ E C λe1 e2=>?_);obtain⟨r',G,hv⟩:=K e1 e2;simp at hv;obtain⟨rfl,rfl⟩:=hv;exact⟨r,G,by rw[Jd0]⟩
    ·cases h3
   ·cases h3
  ·cases q
 ·cases hc
theorem JP9(hi:Inv s)(he:J0j s a.tmps env){esz x i}(h:(opR F (.iaddr esz x i) new).run ⟨env,s.σ⟩=some e)(hc:J01 P (.iaddr esz x i) o.op=true):J1b P o a s e:=by
 simp only[opR]at h;obtain⟨u,h1,K⟩:=bind_some h;obtain⟨v,h2,g⟩:=bind_some K;clear h K;unfold J01 at hc;simp only at hc;split at hc
 ·rename_i t y j J;simp only[J02]at hc;obtain⟨⟨hx,hj⟩,D⟩:=hc;have E:=J0b he h1 hx;have O:=J0b he h2 hj;split at D
  ·rename_i el L;simp only[beq_iff_eq]at D
   have go: ∀(r A len cap:Nat) k (m:Int),a.eval j=.int k m->a.eval y=.slice (some ⟨r,A,none⟩) len cap->0<=m->m<len->
     (execOp a.eval o).run P s.w=.ok (.value (.pointer (some ⟨r,A+m.toNat*esz,none⟩))) s.w:=by
    intro r A len cap k m C hz T G;simp[execOp,J,hz,C,Instr.indexAt,asIntOf,run_underlying (J24 L),T,G,J2Q D,Jb0]
   unfold J7a at g;split at g
   ·rename_i B rows k n;split at g
    ·rename_i M;subst M;split at g
     ·rename_i row q;simp only[RM.run]at g;injection g with g;subst g
      unfold JwS at q;split at q
      ·rename_i hn;have C:=J4r O;generalize hz:a.eval y=z at E;cases E with
       |p _ _ S=>
        cases S with
        |sl0 _ ad cap=>simp at q
        |sl _ _ r A cap vals p1 p2 Q R=>
         have G:=Ji q;refine JG hi (go r A _ cap k n C hz hn (by omega)) ?_;have:=JL.cp (s:=s) row 0 r (A+n.toNat*esz) (λj=>vals n.toNat j) (λj x hx=>Q n.toNat j row x q hx) (λj x hx=>R n.toNat j row x q hx);simpa using this
      ·cases q
     ·cases g
    ·cases g
   ·rename_i b Z m k n;simp only[RM.run]at g;split at g
    ·rename_i blk hb;split at g
     ·rename_i wm B rows;split at g
      ·rename_i I;obtain⟨rfl,N,hn,Y⟩:=I;simp only[RM.run]at g;injection g with g;subst g
       have C:=J4r O;generalize hz:a.eval y=z at E;cases E with
       |slr _ _ _ _ wm' B rows' q0 q1 q2 q3=>
        have H:s.σ[b]?=some (.arr wm esz rows):=hb;rw[H]at q1;injection q1 with q1;injection q1 with a1 a2 a3;subst a1 a2 a3
        rcases q3 N with⟨_,_,W,_⟩|⟨r,cap,c,e1,fz,V,hv,U,hh,hs⟩
        ·omega
        ·subst hv;refine JG hi (go r _ _ cap k n C hz hn (by omega)) (.ep _ _ _ _ _ wm esz rows ⟨_,_,rfl⟩ H (zQ0 _) λ_ _=>⟨r,V,?_⟩);simp[J4c]
      ·cases g
     ·cases g
    ·cases g
   ·cases g
  ·cases D
 ·cases hc
end
end Go.Am
end
section
namespace Go.Am
theorem J1A(a b:List (Nat×Blk))(σ:List Blk):upd (a++b) σ=upd b (upd a σ):=by simp[upd,List.foldl_append]
section
variable {P:Program} {F:Orc} {s:Sn} {a:Act} {env:List (Nat×AV)} {o:Oper} {new:Nat} {e:Eff}
theorem JbI{e:List Blk}(hi:Inv s)(j:Frz e s.σ){b i n:Nat}{y:List PV×List (Nat×Blk)}{v:Value}(h:(fz (.slr b i n)).run ⟨env,e⟩=some y)(hr:JL s (.slr b i n) v):
  ∃g',Inv ⟨upd y.2 s.σ,g',s.w⟩/\J0k s ⟨upd y.2 s.σ,g',s.w⟩/\Frz s.σ (upd y.2 s.σ)/\ ∃c,y.1=[c]/\J0u s.w g'.C c v:=by
 simp only[fz,RM.run]at h;split at h
 ·rename_i blk hb;split at h
  ·rename_i wm esz rows;split at h
   ·rename_i hc;simp only[RM.run]at h;injection h with h;subst h
    obtain⟨wm',g⟩:=j.1 b _ _ _ hb;obtain⟨g',h1,h2,h3,h4⟩:=JNF hi hr g hc;exact⟨g',h1,h2,h3,_,rfl,h4⟩
   ·cases h
  ·cases h
 ·cases h
theorem JQh{e:List Blk}(hi:Inv s)(j:Frz e s.σ){x:AV}{y:List PV×List (Nat×Blk)}{v:Value}(h:(fz.fz1 x).run ⟨env,e⟩=some y)(hr:JL s x v):
  ∃g',Inv ⟨upd y.2 s.σ,g',s.w⟩/\J0k s ⟨upd y.2 s.σ,g',s.w⟩/\Frz s.σ (upd y.2 s.σ)/\ ∃c,y.1=[c]/\J0u s.w g'.C c v:=by
 cases x with
 |p c=>
  simp only[fz.fz1,RM.run]at h;injection h with h;subst h
  cases hr with
  |p _ _ hr=>exact⟨s.g,hi,.refl s,.refl _,c,rfl,hr⟩
 |slr b i n=>exact JbI hi j (by exact h) hr
 |_=>simp only[fz.fz1,RM.run]at h;cases h
theorem JJZ{r:List Blk}: ∀{xs:List AV} {s:Sn} {y:List PV×List (Nat×Blk)} {vs:List Value},Inv s->Frz r s.σ->(fz.fzL xs).run ⟨env,r⟩=some y->xs.length=vs.length->
  (∀(i:Nat) x v,xs[i]?=some x->vs[i]?=some v->JL s x v)->
  ∃g',Inv ⟨upd y.2 s.σ,g',s.w⟩/\J0k s ⟨upd y.2 s.σ,g',s.w⟩/\Frz s.σ (upd y.2 s.σ)/\y.1.length=vs.length/\
   ∀(i:Nat) c v,y.1[i]?=some c->vs[i]?=some v->J0u s.w g'.C c v
 |[],s,y,vs,hi,j,h,hl,hr=>by
  simp only[fz.fzL,RM.run]at h;injection h with h;subst h
  exact⟨s.g,hi,.refl s,.refl _,by simpa using hl,λi c v hc=>by simp at hc⟩
 |x::xs,s,y,[],hi,j,h,hl,hr=>by simp at hl
 |x::xs,s,y,v::vs,hi,j,h,hl,hr=>by
  simp only[fz.fzL]at h;obtain⟨k,h1,h⟩:=bind_some h;obtain⟨H,h2,h⟩:=bind_some h;simp only[RM.run]at h;injection h with h;subst h
  obtain⟨g1,z,q,o,c,hc,G⟩:=JQh hi j h1 (hr 0 x v rfl rfl);obtain⟨g2,B,n,D,F,E⟩:=JJZ (s:=⟨upd k.2 s.σ,g1,s.w⟩) z (j.trans o) h2 (by simpa using hl) λi x v hx hv=>(hr (i+1) x v (by simpa using hx) (by simpa using hv)).mono hi q;refine⟨g2,by rw[J1A];exact B,by rw[J1A];exact q.trans n,by rw[J1A];exact o.trans D,by simp[hc,F],λi c' A hc' e=>?_⟩;rw[hc]at hc';cases i with
  |zero=>
   simp at hc' e;subst hc' e;exact J0u.mono (s0:=⟨upd k.2 s.σ,g1,s.w⟩) (s:=⟨upd H.2 (upd k.2 s.σ),g2,s.w⟩) z n G
  |succ i=>exact E i c' A (by simpa using hc') (by simpa using e)
theorem JEI{k:List Blk}(hi:Inv s)(j:Frz k s.σ){x:AV}{y:List PV×List (Nat×Blk)}{v:Value}(h:(fz x).run ⟨env,k⟩=some y)(hr:JL s x v):
  ∃g',Inv ⟨upd y.2 s.σ,g',s.w⟩/\J0k s ⟨upd y.2 s.σ,g',s.w⟩/\Frz s.σ (upd y.2 s.σ)/\y.1.length=v.cells.size/\
   ∀(i:Nat) c u,y.1[i]?=some c->v.cells[i]?=some u->J0u s.w g'.C c u:=by
 cases x with
 |p c=>
  simp only[fz,RM.run]at h;injection h with h;subst h
  cases hr with
  |p _ _ hr=>
   refine⟨s.g,hi,.refl s,.refl _,by rw[hr.cells1];rfl,λi c' u hc hu=>?_⟩;rw[hr.cells1]at hu;cases i with
   |zero=>simp at hc hu;subst hc hu;exact hr
   |succ i=>simp at hc
 |data cs=>
  simp only[fz,RM.run]at h;injection h with h;subst h
  cases hr with
  |data _ vs h1 h2=>exact⟨s.g,hi,.refl s,.refl _,h1,λi c u hc hu=>h2 i c u hc hu⟩
 |slr b i n=>
  obtain⟨g',h1,h2,h3,c,hc,e⟩:=JbI hi j h hr;refine⟨g',h1,h2,h3,by rw[hc,e.cells1];rfl,λi c' u hc' hu=>?_⟩;rw[e.cells1]at hu;rw[hc]at hc';cases i with
  |zero=>simp at hc' hu;subst hc' hu;exact e
  |succ i=>simp at hc'
 |agg cs=>
  simp only[fz]at h;cases hr with
  |agg _ vs h1 B h2=>
   obtain⟨g',o,z,q,A,r⟩:=JJZ (vs:=vs.toList) hi j h (by simpa using h1) λi x v hx hv=>h2 i x v hx (by simpa using hv);exact⟨g',o,z,q,by simpa[Value.cells]using A,λi c u hc hu=>r i c u hc (by simpa[Value.cells]using hu)⟩
 |_=>simp only[fz,RM.run]at h;cases h
theorem Jff(he:J0j s a.tmps env){x:Option Opd}{y:Option Operand}{v:Option AV}(h:(evo x).run ⟨env,s.σ⟩=some v)(hc:JgI x y=true):
  (v=none/\y=none)\/ ∃u q,v=some u/\y=some q/\JL s u (a.eval q):=by
 cases x with
 |none=>
  simp only[evo,RM.run]at h;injection h with h;subst h
  cases y with
  |none=>exact .inl ⟨rfl,rfl⟩
  |some _=>simp[JgI]at hc
 |some x=>
  cases y with
  |none=>simp[JgI]at hc
  |some y=>
   simp only[evo]at h;obtain⟨u,h1,h⟩:=bind_some h;simp only[RM.run]at h;injection h with h;subst h
   exact .inr ⟨u,y,rfl,rfl,J0b he h1 hc⟩
theorem JhC{x:AV}{top n j:Nat}{v:Value}(h:J6Z (some x) top j=some n)(hr:JL s x v)(g:Nat)(o:top<=g)(k:BoundsCode)(w:World):
  (Instr.sliceBound v g k).run P w=.ok n w/\n<=top:=by
 unfold J6Z at h;split at h
 ·rename_i e;cases e
 ·rename_i e;injection e with e;subst e
  split at h
  ·rename_i hc;injection h with h;subst h;have:=J4r hr;subst this;refine⟨?_,by omega⟩;simp only[Instr.sliceBound,asIntOf,J5W,JaU,J5L];rw[if_pos ⟨hc.1,by omega⟩];rfl
  ·cases h
 ·cases h
theorem JNx{n:Nat}{lo hi:Option AV}{c:Nat×Nat}(h:Jqr n lo hi=some c):J6Z hi n n=some c.2/\J6Z lo c.2 0=some c.1:=by
 unfold Jqr at h;split at h
 ·cases h
 ·rename_i j hj;split at h
  ·cases h
  ·rename_i i hi;injection h with h;subst h;exact⟨hj,hi⟩
theorem JlO(he:J0j s a.tmps env){lo hi:Option Opd}{r o:Option Operand}{l h:Option AV}{len cap:Nat}{c:Nat×Nat}{isSlice:Bool}
  (h1:(evo lo).run ⟨env,s.σ⟩=some l) (h2:(evo hi).run ⟨env,s.σ⟩=some h) (x:JgI lo r=true) (B:JgI hi o=true)
  (hc:Jqr len l h=some c) (v:len<=cap) (w:World):
  (Instr.sliceBounds isSlice len cap (r.map a.eval) (o.map a.eval) none).run P w=.ok (c.1,c.2,cap) w/\c.1<=c.2/\c.2<=len:=by
 obtain⟨hj,e⟩:=JNx hc;obtain⟨i,j⟩:=c;rcases Jff he h2 B with⟨rfl,rfl⟩|⟨u,q,rfl,rfl,hr⟩
 ·simp[J6Z]at hj;subst hj;rcases Jff he h1 x with⟨rfl,rfl⟩|⟨A,q',rfl,rfl,k⟩
  ·simp[J6Z]at e;subst e;exact⟨by simp[Instr.sliceBounds],zQ5 _,zQ0 _⟩
  ·obtain⟨g,n⟩:=JhC (P:=P) e k len (zQ0 _) .sliceB w;exact⟨by simp[Instr.sliceBounds,g],n,zQ0 _⟩
 ·rcases Jff he h1 x with⟨rfl,rfl⟩|⟨A,q',rfl,rfl,k⟩
  ·obtain⟨g,n⟩:=JhC (P:=P) hj hr cap v (if isSlice then .sliceAcap else .sliceAlen) w;simp[J6Z]at e;subst e;exact⟨by simp[Instr.sliceBounds,g],zQ5 _,n⟩
  ·obtain⟨g,n⟩:=JhC (P:=P) hj hr cap v (if isSlice then .sliceAcap else .sliceAlen) w;obtain⟨y,z⟩:=JhC (P:=P) e k j (zQ0 _) .sliceB w;exact⟨by simp[Instr.sliceBounds,g,y],z,n⟩
theorem JMI{esz:Nat}{rows:List (List PV)}{v:Value}{i j:Nat}(h:J0u s.w s.g.C (.sl esz rows) v)(F:i<=j)(hj:j<=rows.length):
  ∃e cap,v=.slice e rows.length cap/\rows.length<=cap/\
   J0u s.w s.g.C (.sl esz ((rows.drop i).take (j-i))) (.slice (if cap=i then e else e.map (·.add (i*esz))) (j-i) (cap-i)):=by
 have hlen:((rows.drop i).take (j-i)).length=j-i:=by simp;omega
 cases h with
 |sl0 _ e cap=>
  have q:j=0:=by simpa using hj
  have n:i=0:=by omega
  subst q n;refine⟨e,cap,rfl,zQ5 _,?_⟩;simpa using J0u.sl0 (w:=s.w) (C:=s.g.C) esz _ _
 |sl _ _ r o cap vals E B z A=>
  refine⟨_,cap,rfl,E,?_⟩;by_cases y:cap=i
  ·have D:j-i=0:=by omega
   rw[D];simpa using J0u.sl0 (w:=s.w) (C:=s.g.C) esz _ _
  ·rw[if_neg y];have:=J0u.sl (w:=s.w) (C:=s.g.C) esz ((rows.drop i).take (j-i)) r (o+i*esz) (cap-i) (λk m=>vals (i+k) m) (by omega)
    (λrow hr=>B row (JLS (JMk hr)))
    (λk m row x hk hm=>by
      rw[Jiz]at hk;split at hk
      ·rw[Jb3]at hk;have:=z (i+k) m row x hk hm;rwa[show o+(i+k)*esz+m=o+i*esz+k*esz+m by rw[J4c];omega]at this
      ·cases hk)
    (λk m row x hk hm=>by
      rw[Jiz]at hk;split at hk
      ·rw[Jb3]at hk;exact A (i+k) m row x hk hm
      ·cases hk)
   rw[hlen]at this;simpa[Jb0]using this
def Jfx(k:SK)(x:AV)(lo hi:Option AV):Option AV:=
 match k with
 | .str=>JdM x lo hi
 | .sl esz=>JdV esz x lo hi
theorem JKg(hi:Inv s){k:SK}{t:TypeId}{y:Operand}{B A:Option Operand}{q:Operand}{c:PV}{l K:Option AV}{u r:AV}{g':Gh}{ws:List (Nat×Blk)}
  (F:o.op=.slice t y B A (some q)) (h:(match k with
   | .str=>J6T P t
   | .sl esz=>(match elT P t with|some e=>szT P e==some esz|none=>false))=true)
  (hl:l=none->B=none) (I: ∀J,K=some J-> ∃q',A=some q'/\JL s J (a.eval q')) (hu:JL s u (a.eval q))
  (hs:J5w k (.p c) l K (some u)=some r) (G:Inv ⟨upd ws s.σ,g',s.w⟩) (t':J0k s ⟨upd ws s.σ,g',s.w⟩) (hr:J0u s.w g'.C c (a.eval y)):J1b P o a s ⟨r,ws⟩:=by
 cases k with
 |str=>simp[J5w]at hs
 |sl esz=>
  simp only[J5w]at hs;unfold JDh at hs;split at hs
  ·rename_i Q rows R h1 T U n;injection n with n;subst n;split at hs
   ·rename_i hc;obtain⟨rfl,rfl,rfl⟩:=hc;injection hs with hs;subst hs;obtain⟨q',rfl,E⟩:=I _ rfl;obtain rfl:=hl rfl;have e1:=J4r E;have e2:=J4r hu;simp only at h;split at h
    ·rename_i el H;simp only[beq_iff_eq]at h;obtain⟨g,cap,hv,D,hrel⟩:=JMI (s:=⟨s.σ,g',s.w⟩) (i:=0) (j:=rows.length) hr (zQ5 _) (zQ0 _);have hb: ∀w:World,(Instr.sliceBounds true rows.length cap none (some (a.eval q')) (some (a.eval q))).run P w=.ok (0,rows.length,rows.length) w:=by intro w;rw[e1,e2];simp[Instr.sliceBounds,Instr.sliceBound,asIntOf,D]
     have z:J0u s.w g'.C (.slc esz rows) (.slice g rows.length rows.length):=by
      refine .slc esz rows g ?_;rw[hv]at hr;cases hr with
      |sl0=>exact .sl0 _ _ _
      |sl _ _ r o cap vals S O L N=>exact .sl esz rows r o rows.length vals (zQ0 _) O L N
     refine J2h (e:=⟨_,ws⟩) (w':=s.w) (g':=g') (v:=.slice g rows.length rows.length) ?_ G t' (.p _ _ z);have M:(if rows.length=0 then g else g.map λx=>x.add (0*esz))=g:=by
      split
      ·rfl
      ·cases g with
       |none=>rfl
       |some g=>cases g;simp[Addr.add]
     simp only[execOp,F,hv];simp[Instr.sliceAt,Instr.slice,run_underlying (J24 H),hb,J2Q h]
     try simpa using M
    ·cases h
   ·cases hs
  ·cases hs
theorem JOn(hi:Inv s)(he:J0j s a.tmps env){k x lo E mx}(h:(opR F (.slice k x lo E mx) new).run ⟨env,s.σ⟩=some e)(hc:J01 P (.slice k x lo E mx) o.op=true):J1b P o a s e:=by
 simp only[opR]at h;obtain⟨u,h1,h⟩:=bind_some h;obtain⟨l,h2,h⟩:=bind_some h;obtain⟨I,h3,h⟩:=bind_some h;obtain⟨m,h4,h⟩:=bind_some h;unfold J01 at hc;simp only at hc;split at hc
 ·rename_i t y a0 Y ac G;simp only[J02]at hc;obtain⟨⟨⟨⟨hx,K⟩,J⟩,c3⟩,z⟩:=hc;have q:=J0b he h1 hx;rcases Jff he h4 c3 with⟨rfl,rfl⟩|⟨um,qm,rfl,rfl,R⟩
  case inr=>
   have D:l=none->a0=none:=by
    intro D;rcases Jff he h2 K with⟨_,e⟩|⟨L,q',e1,_,_⟩
    ·exact e
    ·rw[D]at e1;cases e1
   have Q: ∀L,I=some L-> ∃q',Y=some q'/\JL s L (a.eval q'):=by
    intro L N;rcases Jff he h3 J with⟨e,_⟩|⟨u2,q',e1,e2,e3⟩
    ·rw[N]at e;cases e
    ·rw[N]at e1;injection e1 with e1;subst e1;exact⟨q',e2,e3⟩
   split at h
   ·rename_i b i n;obtain⟨y',h5,h⟩:=bind_some h;obtain⟨g',V,U,f1,c,B,T⟩:=JbI hi (.refl _) h5 q;split at h
    ·rename_i c' hc';rw[B]at hc';injection hc' with hc';subst hc'
     split at h
     ·rename_i r hr;simp only[RM.run]at h;injection h with h;subst h
      exact JKg hi G z D Q R hr V U T
     ·cases h
    ·cases h
   ·rename_i x' M;obtain⟨r,hr,rfl⟩:=J23 h;cases u with
    |p c=>
     cases q with
     |p _ _ q=>exact JKg (ws:=[]) (g':=s.g) hi G z D Q R hr hi (.refl s) q
    |_=>cases k<;>simp[J5w,JDh]at hr
  have j: ∀{c:AV} {r},J5w k c l I none=some r->(none:Option Operand)=none/\Jfx k c l I=some r:=by intro c r hs;exact⟨rfl,hs⟩
  have H: ∀{b:List UInt8} {r},J5w k (.p (.s b)) l I none=some r->a.eval y=.string ⟨b.toArray⟩->J1b P o a s ⟨r,[]⟩:=by
   intro b r hs hz;obtain⟨_,hq⟩:=j hs;clear hs;have hs:=hq;clear hq;cases k with
   |sl esz=>simp[Jfx,JdV]at hs
   |str=>
    simp only[Jfx,JdM]at hs;split at hs
    ·rename_i c hc;injection hs with hs;subst hs;have Z:=J7r z;obtain⟨hb,ab,aa⟩:=JlO (P:=P) (isSlice:=false) (cap:=b.length) he h2 h3 K J hc (zQ0 _) s.w;have a3:(⟨b.toArray⟩:ByteArray).extract c.1 c.2=⟨((b.drop c.1).take (c.2-c.1)).toArray⟩:=by apply ByteArray.ext;rw[ByteArray.data_extract];apply JaT;simp[List.extract]
     refine JG hi (v:=.string ⟨((b.drop c.1).take (c.2-c.1)).toArray⟩) ?_ (JrM _);simp only[execOp,G,hz];simp[Instr.sliceAt,Instr.slice,run_underlying Z,J9u,hb,a3]
    ·cases hs
  have A: ∀{s':Sn} {ws} {esz rows r} {g'},s'=⟨upd ws s.σ,g',s.w⟩->Inv s'->J0k s s'->J5w k (.p (.sl esz rows)) l I none=some r->J0u s'.w s'.g.C (.sl esz rows) (a.eval y)->J1b P o a s ⟨r,ws⟩:=by
   intro s' ws esz rows r g' hs' E t' hs hr;obtain⟨_,hq⟩:=j hs;clear hs;have hs:=hq;clear hq;cases k with
   |str=>simp[Jfx,JdM]at hs
   |sl W=>
    simp only[Jfx,JdV]at hs;split at hs
    ·rename_i a2;subst a2;split at hs
     ·rename_i c hc;injection hs with hs;subst hs;simp only at z;split at z
      ·rename_i el a1;simp only[beq_iff_eq]at z;have O:=JlO (P:=P) (isSlice:=true) he h2 h3 K J hc (zQ0 _) s.w;obtain⟨ad,cap,hv,S,hrel⟩:=JMI hr O.2.1 O.2.2;obtain⟨hb,_,_⟩:=JlO (P:=P) (isSlice:=true) he h2 h3 K J hc S s.w;subst hs';refine J2h (e:=⟨_,ws⟩) (w':=s.w) (g':=g') ?_ E t' (.p _ _ hrel);simp only[execOp,G,hv];simp[Instr.sliceAt,Instr.slice,run_underlying (J24 a1),hb,J2Q z]
      ·cases z
     ·cases hs
    ·cases hs
  split at h
  ·rename_i b i n;obtain⟨y',h5,h⟩:=bind_some h;obtain⟨g',V,U,f1,c,B,T⟩:=JbI hi (.refl _) h5 q;split at h
   ·rename_i c' hc';rw[B]at hc';injection hc' with hc';subst hc'
    split at h
    ·rename_i r hr;simp only[RM.run]at h;injection h with h;subst h
     have: ∃W rw,c=.sl W rw:=by
      simp only[fz,RM.run]at h5;split at h5
      ·split at h5
       ·split at h5
        ·simp only[RM.run]at h5;injection h5 with h5;subst h5
         simp at B;exact⟨_,_,B.symm⟩
        ·cases h5
       ·cases h5
      ·cases h5
     obtain⟨W,a9,rfl⟩:=this;exact A rfl V U hr T
    ·cases h
   ·cases h
  ·rename_i x' M;obtain⟨r,hr,rfl⟩:=J23 h;cases u with
   |p c=>
    cases c with
    |s b=>exact H hr (Jcf q)
    |sl esz rows=>cases q with|p _ _ q=>exact A (s':=s) (ws:=[]) (g':=s.g) rfl hi (.refl s) hr q
    |_=>obtain⟨_,hr⟩:=j hr;cases k<;>simp[Jfx,JdM,JdV]at hr
   |slr b i n=>exact absurd rfl (M b i n)
   |_=>obtain⟨_,hr⟩:=j hr;cases k<;>simp[Jfx,JdM,JdV]at hr
 ·cases hc
end
end Go.Am
end
section
namespace Go.Am
section
variable {P:Program} {F:Orc} {s:Sn} {a:Act} {env:List (Nat×AV)} {o:Oper} {new:Nat} {e:Eff}
theorem JAd(hi:Inv s){agg:Bool}{size:Nat}{x:AV}{v:Value}(h:(J4v agg size x).run ⟨env,s.σ⟩=some e)(hr:JL s x v):
  ∃r o vs,v=.pointer (some ⟨r,o,none⟩)/\vs.length=size/\(∀(k:Nat) u,vs[k]?=some u->J0M s.w r (o+k)=some u)/\e.ws=[]/\
   ((agg=true/\JL s e.val (.agg vs.toArray))\/(agg=false/\ ∃u,vs=[u]/\JL s e.val u)):=by
 unfold J4v at h;split at h
 ·rename_i cs off;split at h
  ·rename_i l hl;obtain⟨r',h3,rfl⟩:=J23 h;obtain⟨B,L,D⟩:=JjQ hl;cases hr with
   |cp _ _ r o vals A J=>
    have P: ∀(i:Nat) y u,l[i]?=some y->((List.range size).map λi=>vals (off+i))[i]?=some u->J0u s.w s.g.C y u:=by intro i y u hy hu;have:=Ji hy;rw[D i (by omega)]at hy;rw[J2c,Jm7 (by omega)]at hu;injection hu with hu;subst hu;exact J _ y hy
    refine⟨r,o+off,(List.range size).map λi=>vals (off+i),rfl,by simp,λk u hu=>?_,rfl,JyD h3 (by simp[B]) P⟩;have j:=Ji hu;simp at j;rw[J2c,Jm7 j]at hu;injection hu with hu;subst hu;have:off+k<cs.length:=by omega
    have:=(A (off+k) _ (JK this)).2;rwa[Jd0]
  ·cases h
 ·rename_i b off;simp only[RM.run]at h;split at h
  ·rename_i blk hb;split at h
   ·rename_i cs;split at h
    ·rename_i l hl;obtain⟨r',h3,rfl⟩:=J23 h;obtain⟨B,L,D⟩:=JjQ hl;cases hr with
     |ptr _ _ r o m R=>
      obtain⟨O,T,c,e1,fz,z,H,M,hx,hf⟩:=hi.box b cs hb;rw[m]at z;injection z with z;injection z with m1 m2;subst m1 m2
      have q: ∀k,k<size-> ∃u,c[o+(off+k)]?=some u/\u.oneCell'=true/\ ∀y,l[k]?=some y->JL s y u:=by
       intro k hk;have j:off+k<cs.length:=by omega
       obtain⟨u,hu,hr,h1⟩:=hx (off+k) _ (JK j);refine⟨u,hu,h1,λy hy=>?_⟩;rw[D k hk,JK j]at hy;injection hy with hy;subst hy;exact hr
      refine⟨r,o+off,(List.range size).map λi=>(c[o+(off+i)]?).getD .nilFunc,rfl,by simp,λk u hu=>?_,rfl,Jwp h3 (by simp[B]) (λv hv=>?_) λi y u hy hu=>?_⟩
      ·have j:=Ji hu;simp at j;rw[J2c,Jm7 j]at hu;obtain⟨F,n,_⟩:=q k j;simp[n]at hu;subst hu;rw[J2C H,<-n,Jd0]
      ·obtain⟨i,K,rfl⟩:=J4J.1 hv;obtain⟨F,n,h1,_⟩:=q i (by simpa using K);simpa[n]using h1
      ·have j:=Ji hy;rw[J2c,Jm7 (by omega)]at hu;obtain⟨F,n,_,h2⟩:=q i (by omega);simp[n]at hu;subst hu;exact h2 y hy
    ·cases h
   ·cases h
  ·cases h
 ·rename_i b ext i off;simp only[RM.run]at h;split at h
  ·rename_i blk hb;split at h
   ·rename_i wm esz rows;split at h
    ·rename_i I;split at h
     ·rename_i row E;split at h
      ·rename_i l hl;obtain⟨r',h3,rfl⟩:=J23 h;obtain⟨B,L,D⟩:=JjQ hl;have G:s.σ[b]?=some (.arr wm esz rows):=hb;cases hr with
       |ep _ _ _ _ _ wm' Q rows' p0 A J N=>
        rw[G]at A;injection A with A;injection A with a1 a2 a3;subst a1 a2 a3
        have j:=Ji E;obtain⟨r,m,hv⟩:=N I (by omega);rcases hi.arr b _ _ _ G with⟨z,_⟩|⟨O,c,e1,fz,z,H,S,M,hx,hf⟩
        ·rw[m]at z;cases z
        ·rw[m]at z;injection z with z;injection z with m1 _;subst m1
         have q: ∀k,k<size-> ∃u,c[i*esz+(off+k)]?=some u/\ ∀y,l[k]?=some y->J0u s.w s.g.C y u:=by
          intro k hk;have j:off+k<row.length:=by omega
          obtain⟨⟨u,hu,hr⟩,_⟩:=hx i (off+k) row _ E (JK j);refine⟨u,hu,λy hy=>?_⟩;rw[D k hk,JK j]at hy;injection hy with hy;subst hy;exact hr
         refine⟨r,i*esz+off,(List.range size).map λk=>(c[i*esz+(off+k)]?).getD .nilFunc,hv,by simp,λk u hu=>?_,rfl,JyD h3 (by simp[B]) λk y u hy hu=>?_⟩
         ·have j:=Ji hu;simp at j;rw[J2c,Jm7 j]at hu;obtain⟨F,n,_⟩:=q k j;simp[n]at hu;subst hu;rw[J2C H,<-n,Jd0]
         ·have j:=Ji hy;rw[J2c,Jm7 (by omega)]at hu;obtain⟨F,n,h2⟩:=q k (by omega);simp[n]at hu;subst hu;exact h2 y hy
      ·cases h
     ·cases h
    ·cases h
   ·cases h
  ·cases h
 ·cases h
theorem JtD{t:TypeId}{agg:Bool}{size:Nat}(e:agT P t=some agg)(hs:szT P t=some size){r o:Nat}{vs:List Value}{w:World}(hl:vs.length=size)
  (h: ∀(k:Nat) u,vs[k]?=some u->J0M w r (o+k)=some u):
  (agg=true->(loadVar t ⟨r,o,none⟩).run P w=.ok (.agg vs.toArray) w)/\(agg=false-> ∀u,vs=[u]->(loadVar t ⟨r,o,none⟩).run P w=.ok u w):=by
 constructor
 ·rintro rfl;subst hl;simp[loadVar,Jfe e,J2Q hs,JA9 vs h]
 ·rintro rfl u rfl;have:=h 0 u rfl;simp[loadVar,Jfe e,run_load,J9p,this];simp at this;simp[this]
theorem JR6(hi:Inv s)(he:J0j s a.tmps env){agg size x}(h:(opR F (.load agg size x) new).run ⟨env,s.σ⟩=some e)(hc:J01 P (.load agg size x) o.op=true):J1b P o a s e:=by
 simp only[opR]at h;obtain⟨u,h1,A⟩:=bind_some h;clear h;unfold J01 at hc;simp only at hc;split at hc
 ·rename_i t y k;simp only[J02,beq_iff_eq]at hc;obtain⟨⟨⟨z,hs⟩,hx⟩,C⟩:=hc;obtain⟨r,E,vs,hv,hl,g,j,n⟩:=JAd hi A (J0b he h1 hx);obtain⟨w,B⟩:=JtD (P:=P) z hs hl g;obtain⟨ev,D⟩:=e;simp only at j n;subst j;rcases n with⟨rfl,hr⟩|⟨rfl,q,rfl,hr⟩
  ·exact JG hi (v:=.agg vs.toArray) (by simp[execOp,k,hv,Instr.loadAt,Instr.sureAddr,w]) hr
  ·exact JG hi (v:=q) (by simp[execOp,k,hv,Instr.loadAt,Instr.sureAddr,B]) hr
 ·cases hc
theorem Jdi{x:AV}{l:List AV}{v:Value}(h:cellsOf x=some l)(hr:JL s x v):
  l.length=v.cells.size/\(∀u∈v.cells.toList,u.oneCell'=true)/\ ∀(i:Nat) y u,l[i]?=some y->v.cells[i]?=some u->JL s y u:=by
 have e: ∀{z:AV},JL s z v->v.cells= #[v]->v.oneCell'=true->l=[z]->l.length=v.cells.size/\(∀u∈v.cells.toList,u.oneCell'=true)/\ ∀(i:Nat) y u,l[i]?=some y->v.cells[i]?=some u->JL s y u:=by
  rintro z hz hc h1 rfl;refine⟨by rw[hc];rfl,by rw[hc];simpa using h1,λi y u hy hu=>?_⟩;rw[hc]at hu;cases i with
  |zero=>simp at hy hu;subst hy hu;exact hz
  |succ i=>simp at hy
 cases hr with
 |p c _ hp=>simp[cellsOf]at h;exact e (.p _ _ hp) hp.cells1 hp.one h.symm
 |data cs vs h1 h2=>
  simp[cellsOf]at h;subst h;refine⟨by simpa[Value.cells]using h1,λu hu=>?_,λi y u hy hu=>?_⟩
  ·obtain⟨i,hi⟩:=J9V hu;have hi:vs[i]?=some u:=by simpa[Value.cells]using hi
   have A:=JeY hi;exact(h2 i cs[i] u (by rw[JK]) hi).one
  ·rw[J2c]at hy;cases hcs:cs[i]? with
   |none=>simp[hcs]at hy
   |some c=>
    simp[hcs]at hy;subst hy;exact .p _ _ (h2 i c u hcs hu)
 |agg cs vs h1 q h2=>
  simp[cellsOf]at h;subst h;refine⟨by simpa[Value.cells]using h1,λu hu=>?_,λi y u hy hu=>h2 i y u hy hu⟩;obtain⟨i,hi⟩:=J9V hu;exact q i u (by simpa[Value.cells]using hi)
 |tup=>simp[cellsOf]at h
 |unk=>simp[cellsOf]at h
 |ptr b off r o m hb=>simp[cellsOf]at h;exact e (.ptr b off r o m hb) rfl rfl h.symm
 |cp cs off r o vals j g=>simp[cellsOf]at h;exact e (.cp cs off r o vals j g) rfl rfl h.symm
 |slr b i n _ wm esz rows p0 j g k=>
  obtain⟨w,cap,rfl,hn⟩:=p0;simp[cellsOf]at h;exact e (.slr b i n _ wm esz rows ⟨w,cap,rfl,hn⟩ j g k) rfl rfl h.symm
 |ep b ext i off _ wm esz rows p0 j g k=>
  obtain⟨r,o,rfl⟩:=p0;simp[cellsOf]at h;exact e (.ep b ext i off _ wm esz rows ⟨r,o,rfl⟩ j g k) rfl rfl h.symm
 |fn f first caps fs cs h1 h2 h3 h4=>simp[cellsOf]at h;exact e (.fn f first caps fs cs h1 h2 h3 h4) rfl rfl h.symm
theorem JRE(hi:Inv s)(he:J0j s a.tmps env)(hn:s.σ[new]?=some .dead){size x}(h:(opR F (.box size x) new).run ⟨env,s.σ⟩=some e)(hc:J01 P (.box size x) o.op=true):J1b P o a s e:=by
 simp only[opR]at h;obtain⟨u,h1,g⟩:=bind_some h;clear h;unfold J01 at hc;simp only at hc;split at hc
 ·rename_i t y j;have hr:=J0b he h1 hc;split at g
  ·rename_i cs hcs;split at g
   ·simp only[RM.run]at g;injection g with g;subst g
    obtain⟨A,q,n⟩:=Jdi hcs hr;obtain⟨r,t'⟩:=JrV hi hn (blk:=.box cs) (c:=(a.eval y).cells) (e:=t) (fz:=(0,0)) (w':={s.w with heap:=s.w.heap.push (.cells (a.eval y).cells t)}) rfl rfl rfl
     (λo _ _ h=>by simp at h) (λ_ _ _ h=>by cases h) ⟨by omega,λi x hx=>by
      have z:=Ji hx;have k:i<(a.eval y).cells.size:=by omega
      exact⟨(a.eval y).cells[i],by simp,n i x _ hx (by simp),q _ (by simp)⟩⟩
    refine J2h (e:=⟨.ptr new 0,[(new,.box cs)]⟩) (v:=.pointer (some ⟨s.w.heap.size,0,none⟩)) ?_ r t' (.ptr new 0 _ 0 (if_pos rfl) ⟨cs,J16 hn⟩);simp[execOp,j,Instr.box,newVar,newRow]
   ·cases g
  ·cases g
 ·cases hc
theorem J50{zero:List PV}{t:TypeId}(h:JbX P zero t=true): ∃v,zeT P t=some v/\zero.length=v.cells.size/\
  ∀{w C} (i:Nat) x u,zero[i]?=some x->v.cells[i]?=some u->J0u w C x u:=by
 unfold JbX at h;split at h
 ·rename_i v hv;refine⟨v,hv,?_,λi x u hx hu=>?_⟩
  ·simpa using(JlA (w:=default) (C:=λ_ _=>True) h).1
  ·exact(JlA h).2 i x u hx (by simpa using hu)
 ·cases h
theorem Jda{t:TypeId}{v:Value}(h:zeT P t=some v)(w:World):(zeroValue t).run P w=.ok v w:=by
 unfold zeT at h;cases hi:P.info? t with
 |none=>rw[hi]at h;cases h
 |some i=>rw[hi]at h;simp at h;simp[zeroValue,JpF hi,h]
theorem JNk(hi:Inv s)(hn:s.σ[new]?=some .dead){zero}(h:(opR F (.newbox zero) new).run ⟨env,s.σ⟩=some e)(hc:J01 P (.newbox zero) o.op=true):J1b P o a s e:=by
 simp only[opR,RM.run]at h;injection h with h;subst h;unfold J01 at hc;simp only at hc;split at hc
 ·rename_i t j;obtain⟨v,hv,hl,hr⟩:=J50 hc;obtain⟨n,t'⟩:=JrV hi hn (blk:=.box (zero.map .p)) (c:=v.cells) (e:=t) (fz:=(0,0)) (w':={s.w with heap:=s.w.heap.push (.cells v.cells t)}) rfl rfl rfl
   (λo _ _ h=>by simp at h) (λ_ _ _ h=>by cases h) ⟨by simp[hl],λi x hx=>by
    rw[J2c]at hx;cases hz:zero[i]? with
    |none=>simp[hz]at hx
    |some c=>
     simp[hz]at hx;subst hx;have q:=Ji hz;have k:i<v.cells.size:=by omega
     have:=hr (w:=s.w) (C:=s.g.C) i c v.cells[i] hz (by simp);exact⟨v.cells[i],by simp,.p _ _ this,this.one⟩⟩
  refine J2h (e:=⟨.ptr new 0,[(new,.box (zero.map .p))]⟩) (v:=.pointer (some ⟨s.w.heap.size,0,none⟩)) ?_ n t' (.ptr new 0 _ 0 (if_pos rfl) ⟨_,J16 hn⟩);simp[execOp,j,Instr.alloc,Jda hv,newVar,newRow]
 ·cases hc
theorem JOo(hi:Inv s)(hn:s.σ[new]?=some .dead){esz x}(h:(opR F (.mkarr esz x) new).run ⟨env,s.σ⟩=some e)(hc:J01 P (.mkarr esz x) o.op=true):J1b P o a s e:=by
 simp only[opR,RM.run]at h;injection h with h;subst h;obtain⟨k,t'⟩:=JrO hi hn esz;have hrel:JL ⟨s.σ.set new (.arr true esz []),J5r s.g new none,s.w⟩ (.slr new 0 0) (.slice none 0 0):=
  .slr new 0 0 _ true esz [] ⟨none,0,rfl,.inl rfl⟩ (J16 hn) (zQ0 _) λ_=>.inl ⟨if_pos rfl,rfl,rfl,rfl⟩
 unfold J01 at hc;simp only at hc;split at hc
 ·rename_i j;exact J2h (e:=⟨.slr new 0 0,[(new,.arr true esz [])]⟩) (v:=.slice none 0 0) (by simp only[execOp,j];rfl) k t' hrel
 ·rename_i j;exact J2h (e:=⟨.slr new 0 0,[(new,.arr true esz [])]⟩) (v:=.slice none 0 0) (by simp only[execOp,j];rfl) k t' hrel
 ·cases hc
theorem Jsa{α:Type}{cs vs cs':List α}{off:Nat}(h:spl cs off vs=some cs'):cs'.length=cs.length/\off+vs.length<=cs.length/\
  (∀(i:Nat),i<vs.length->cs'[off+i]?=vs[i]?)/\ ∀k,(k<off\/off+vs.length<=k)->cs'[k]?=cs[k]?:=by
 unfold spl at h;split at h
 ·rename_i hc;injection h with h;subst h;obtain⟨rfl,hl⟩:=hc;refine⟨hl.symm,by omega,λi _=>by rw[zQ6],λk hk=>?_⟩;rw[zQ3 (by omega),zQ3 (by omega)]
 ·split at h
  ·rename_i hc;injection h with h;subst h;refine⟨by simp;omega,hc,λi hi=>?_,λk hk=>?_⟩
   ·rw[Jb1,J9O (by simp;omega),J9Q (by simp;omega)];simp
    congr 1
    omega
   ·rcases hk with hk|hk
    ·rw[Jb1,J9Q (by simp;omega),Jiz,if_pos hk]
    ·rw[J9O (by simp;omega),Jb3]
     congr 1
     simp;omega
  ·cases h
theorem JKY{w:World}{r o:Nat}{vs:List Value}{c:Array Value}{g:TypeId}{fz:Nat×Nat}(e:w.heap[r]?=some (.cells c g fz))(hl:o+vs.length<=c.size)
  (hf:JxJ fz o (o+vs.length)) (h1: ∀v∈vs,v.oneCell'=true):(storeCells ⟨r,o,none⟩ vs).run P w=.ok () (w.setCells r o vs):=by
 have:=run_storeCells_cells (P:=P) r o vs 0 w
  (λj hj=>by rw[J9p,J2C e];simp;omega)
  (λj hj=>by
    have:=hf (o+0+j) (by omega) (by omega);simp only[World.frozen?,e];simpa using this) h1
 simpa using this
theorem JfE{t:TypeId}{v:Value}{w:World}{r o:Nat}{c:Array Value}{g:TypeId}{fz:Nat×Nat}(hs:szT P t=some v.cells.size)(e:w.heap[r]?=some (.cells c g fz))(hl:o+v.cells.size<=c.size)
  (hf:JxJ fz o (o+v.cells.size)) (h1: ∀u∈v.cells.toList,u.oneCell'=true):(storeVar t ⟨r,o,none⟩ v).run P w=.ok () (w.setCells r o v.cells.toList):=by
 have:=JKY (P:=P) (vs:=v.cells.toList) e (by simpa using hl) (by simpa using hf) h1;simp[storeVar,J2Q hs,this]
theorem Jrf{o:Oper}{e:Eff}{w':World}{g':Gh}(hr:(execOp a.eval o).run P s.w=.ok .skip w')(g:e.val=J2d)
  (hi:Inv ⟨upd e.ws s.σ,g',w'⟩) (t:J0k s ⟨upd e.ws s.σ,g',w'⟩):J1b P o a s e:=by
 intro next Q h;simp only[Oper.wp,hr,Oper.upon];exact h undef w' g' hi t (by rw[g];exact .tup _ _ rfl λi x v h=>by simp at h)
theorem JNN{b:Nat}: ∀{ws:List (Nat×Blk)} {σ:List Blk},(ws.all λy=>y.1 !=b)=true->(upd ws σ)[b]?=σ[b]?
 |[],_,_=>rfl
 |y::ws,σ,h=>by
  simp only[List.all_cons,J02,bne_iff_ne]at h;show(upd ws (σ.set y.1 y.2))[b]?=_;rw[JNN h.2,J0t h.1]
theorem JOZ(hi:Inv s)(he:J0j s a.tmps env){size x y}(h:(opR F (.store size x y) new).run ⟨env,s.σ⟩=some e)(hc:J01 P (.store size x y) o.op=true):J1b P o a s e:=by
 simp only[opR]at h;obtain⟨u,h1,h'⟩:=bind_some h;obtain⟨v,h2,g⟩:=bind_some h';clear h h';unfold J01 at hc;simp only at hc;split at hc
 ·rename_i t x' q b0;simp only[J02,beq_iff_eq]at hc;obtain⟨⟨hs,hx⟩,hy⟩:=hc;have rx:=J0b he h1 hx;have ry:=J0b he h2 hy;have a5: ∀{r H:Nat} {w':World},a.eval x'=.pointer (some ⟨r,H,none⟩)->(storeVar t ⟨r,H,none⟩ (a.eval q)).run P s.w=.ok () w'->(execOp a.eval o).run P s.w=.ok .skip w':=by intro r H w' hz an;simp[execOp,b0,hz,Instr.storeAt,Instr.sureAddr,an]
  unfold J43 at g;split at g
  ·rename_i b off;simp only[RM.run]at g;split at g
   ·rename_i blk hb;split at g
    ·rename_i cs;split at g
     ·rename_i l hl;split at g
      ·rename_i N;split at g
       ·rename_i cs' ac;simp only[RM.run]at g;injection g with g;subst g
        have hb:s.σ[b]?=some (.box cs):=hb;generalize hz:a.eval x'=z at rx;cases rx with
        |ptr _ _ r H m bj=>
         obtain⟨k1,k2,k3⟩:=Jdi hl ry;obtain⟨j1,j2,j3,j4⟩:=Jsa ac;obtain⟨r1,o1,c,e1,fz,B,O,ap,L,hf⟩:=hi.box b cs hb;rw[m]at B;injection B with B;injection B with m1 m2;subst m1 m2
         have D:=J8V (vs:=(a.eval q).cells.toList) (o:=H+off) O (by simp;omega);have hlen:(a.eval q).cells.toList.length=l.length:=by simp[k1]
         obtain⟨i',t'⟩:=JqF hi (blk:=.box cs') hb D (λk h1 h2=>by
          unfold Wr1;rw[hb];exact⟨H,m,by omega,by omega⟩) (.box _ _ j1) (λbi n A=>by
          injection n with n;subst n;obtain⟨c0,e0,au,c',C,p2,p3,p4,p5,p6⟩:=D.there;rw[O]at C;injection C with C;injection C with q1 q2 q3;subst q1 q2 q3
          refine⟨r,H,c',e1,fz,m,p2,by omega,λi x S=>?_,by rw[j1];exact hf⟩;by_cases b1:off<=i/\i<off+l.length
          ·have e1:cs'[off+(i-off)]?=l[i-off]?:=j3 (i-off) (by omega);rw[show off+(i-off)=i by omega,S]at e1;have K:i-off<(a.eval q).cells.size:=by omega
           have e2:=p5 (i-off) (a.eval q).cells[i-off] (by simp);refine⟨(a.eval q).cells[i-off],by rw[<-e2];congr 1;omega,A (k3 (i-off) x _ e1.symm (by simp)),k2 _ (by simp)⟩
          ·rw[j4 i (by omega)]at S;obtain⟨U,G,E,b2⟩:=L i x S;exact⟨U,by rw[p6 _ (by simp;omega)];exact G,A E,b2⟩)
          (λ_ _ n=>by cases n)
         refine Jrf (e:=⟨J2d,[(b,.box cs')]⟩) (a5 hz (JfE (by rw[hs,<-N,k1]) O (by omega) (λk h1 h2=>hf k (by omega) (by omega)) k2)) rfl i' t'
       ·cases g
      ·cases g
     ·cases g
    ·cases g
   ·cases g
  ·rename_i b ext i off;simp only[RM.run]at g;split at g
   ·rename_i blk hb;split at g
    ·rename_i esz rows;split at g
     ·rename_i ag;split at g
      ·rename_i row I;obtain⟨J,h3,h4⟩:=bind_some g;split at h4
       ·rename_i Y;split at h4
        ·rename_i T Z;simp only[RM.run]at h4;injection h4 with h4;subst h4
         have hb:s.σ[b]?=some (.arr true esz rows):=hb;obtain⟨N,af⟩:=Y;obtain⟨g1,i1,t1,f1,l1,r1⟩:=JEI hi (.refl _) h3 ry;have M:(upd J.2 s.σ)[b]?=some (.arr true esz rows):=by rw[JNN af];exact hb
         have a4:=rx.mono hi t1;obtain⟨j1,j2,j3,j4⟩:=Jsa Z;have ab: ∀u∈(a.eval q).cells.toList,u.oneCell'=true:=by
          intro u hu;obtain⟨k,hk⟩:=J9V hu;have hk:(a.eval q).cells[k]?=some u:=by simpa using hk
          have K:=JeY hk;exact(r1 k J.1[k] u (by rw[JK]) hk).one
         generalize hz:a.eval x'=z at a4;cases a4 with
         |ep _ _ _ _ _ wm' a9 rows' p0 C p2 p3=>
          have C:(upd J.2 s.σ)[b]?=some (.arr wm' a9 rows'):=C;rw[M]at C;injection C with C;injection C with a1 a2 a3;subst a1 a2 a3
          have K:=Ji I;obtain⟨r,m,hv⟩:=p3 ag (by omega);rcases i1.arr b _ _ _ M with⟨B,_⟩|⟨rr,c,e1,fz,B,O,Q,ap,L,hf⟩
          ·rw[m]at B;cases B
          ·rw[m]at B;injection B with B;injection B with m1 _;subst m1
           have b5:=Q row (J0F I);have hlen:(a.eval q).cells.toList.length=J.1.length:=by simp[l1]
           have bg:i*esz+esz<=rows.length*esz:=by have:=zQ7 esz (show i+1<=rows.length from K);rwa[J4c,JuB]at this
           have R:s.w.heap[r]?=some (.cells c e1 fz):=O;have D:=J8V (vs:=(a.eval q).cells.toList) (o:=i*esz+off) R (by rw[hlen];omega);obtain⟨i2,t2⟩:=JqF (s0:=⟨upd J.2 s.σ,g1,s.w⟩) i1 (blk:=.arr true esz (rows.set i T)) M D (λk h1 h2=>by
            unfold Wr1;rw[M];exact⟨0,m⟩) (.arr _ _ _ (by simp)) (λ_ n=>by cases n) (λb8 b4 n A=>by
            injection n with _ h1 h2;subst h1 h2;obtain⟨c0,e0,au,c',q1,q2,q3,q4,q5,q6⟩:=D.there;rw[R]at q1;injection q1 with q1;injection q1 with w1 w2 w3;subst w1 w2 w3
            refine .inr ⟨r,c',e1,fz,m,q2,λbm aq=>?_,by simp;omega,λk j aa x0 hk hj=>⟨?_,λh=>by cases h⟩,by rw[q3];exact hf⟩
            ·rcases Jyy aq with hm|hm
             ·exact Q _ hm
             ·subst hm;omega
            ·have W:=Ji hj;by_cases a0:k=i
             ·subst a0;rw[JpO K]at hk;injection hk with hk;subst hk;by_cases b1:off<=j/\j<off+J.1.length
              ·have e1:=j3 (j-off) (by omega);rw[show off+(j-off)=j by omega,hj]at e1;have V:j-off<(a.eval q).cells.size:=by omega
               have e2:=q5 (j-off) (a.eval q).cells[j-off] (by simp);refine⟨(a.eval q).cells[j-off],by rw[<-e2];congr 1;omega,A (r1 (j-off) x0 _ e1.symm (by simp))⟩
              ·rw[j4 j (by omega)]at hj;obtain⟨⟨U,G,E⟩,_⟩:=L k j row x0 I hj;exact⟨U,by rw[q6 _ (by rw[hlen];omega)];exact G,A E⟩
             ·rw[JlL (Ne.symm a0)]at hk;obtain⟨⟨U,G,E⟩,_⟩:=L k j aa x0 hk hj;refine⟨U,?_,A E⟩;rw[q6 _ ?_]
              ·exact G
              ·have al:j<esz:=by rw[Q _ (J0F hk)]at W;exact W
               rw[hlen];rcases zQ1 k i with V|bn
               ·left;have:=J6f V al;omega
               ·right;have:=zQ7 esz (show i+1<=k by omega);rw[J4c,JuB]at this;omega)
           refine Jrf (e:=⟨J2d,J.2++[(b,.arr true esz (rows.set i T))]⟩) (g':=g1) (a5 (hz.trans hv) (JfE (by rw[hs,<-N,l1]) R (by simp at hlen;omega) (λk h1 h2=>hf.1 k (by omega) (by simp at hlen;omega)) ab)) rfl ?_ ?_
           ·rw[J1A];exact i2
           ·rw[J1A];exact t1.trans t2
        ·cases h4
       ·cases h4
      ·cases g
     ·cases g
    ·cases g
   ·cases g
  ·cases g
 ·cases hc
end
end Go.Am
end
section
namespace Go.Am
theorem JIH(vs:List Value): ∀(k:Nat) (off:Nat) (cs:Array Value),off+k+vs.length<=cs.size->
  let r:=(vs.zipIdx k).foldl (λcs (x:Value×Nat)=>cs.setIfInBounds (off+x.2) x.1) cs
  r.size=cs.size/\(∀(j:Nat) v,vs[j]?=some v->r[off+k+j]?=some v)/\ ∀i,(i<off+k\/off+k+vs.length<=i)->r[i]?=cs[i]?:=by
 induction vs with
 |nil=>intro k off cs _;exact⟨rfl,λj v h=>by simp at h,λ_ _=>rfl⟩
 |cons v vs ih=>
  intro k off cs h;simp only[JFF]at h;have:=ih (k+1) off (cs.setIfInBounds (off+k) v) (by simp;omega);simp only[List.zipIdx_cons,List.foldl_cons];obtain⟨h1,h2,h3⟩:=this;refine⟨by rw[h1];simp,λj u hj=>?_,λi hi=>?_⟩
  ·cases j with
   |zero=>
    simp at hj;subst hj;rw[h3 _ (.inl (by omega))];have:off+k<cs.size:=by omega
    simp[this]
   |succ j=>rw[<-h2 j u (by simpa using hj)];congr 1;omega
  ·rw[h3 i (by simp at hi;omega),Array.getElem?_setIfInBounds,if_neg (by simp at hi;omega)]
section
variable {P:Program} {F:Orc} {s:Sn} {a:Act} {env:List (Nat×AV)} {o:Oper} {new:Nat} {e:Eff}
theorem JAg{place:Nat->Option (Nat×Nat)}{cells:Array Value}{i:Nat}{v:Value}{rest:List (Nat×Value)}{off size:Nat}(hp:place i=some (off,size))(hs:v.cells.size=size)(hl:off+size<=cells.size):
  ∃e:Array Value,Instr.fill place cells ((i,v)::rest)=Instr.fill place e rest/\e.size=cells.size/\(∀(j:Nat) u,v.cells[j]?=some u->e[off+j]?=some u)/\
   ∀k,(k<off\/off+size<=k)->e[k]?=cells[k]?:=by
 subst hs;obtain⟨h1,h2,h3⟩:=JIH v.cells.toList 0 off cells (by simp;omega);refine⟨v.cells.zipIdx.foldl (λcs (c,j)=>cs.setIfInBounds (off+j) c) cells,?_,?_,?_,?_⟩
 ·simp only[Instr.fill,hp];rw[if_neg];simp;omega
 all_goals (have hz:v.cells.zipIdx.foldl (λcs (x:Value×Nat)=>cs.setIfInBounds (off+x.2) x.1) cells=(v.cells.toList.zipIdx 0).foldl (λcs (x:Value×Nat)=>cs.setIfInBounds (off+x.2) x.1) cells:=by
             rw[<-Array.foldl_toList];simp)
 ·rw[hz,h1]
 ·intro j u hj;rw[hz];have:=h2 j u (by simpa using hj);simpa using this
 ·intro k hk;rw[hz];exact h3 k (by simpa using hk)
theorem JtU{place:Nat->Option (Nat×Nat)}: ∀{parts:List (Nat×Nat×List AV)} {ps:List (Nat×Value)} {cs cs':List AV} {cells:Array Value},
  J75 parts cs=some cs'->parts.length=ps.length->
  (∀(k:Nat) off size l i v,parts[k]?=some (off,size,l)->ps[k]?=some (i,v)->place i=some (off,size)/\l.length=v.cells.size/\(∀u∈v.cells.toList,u.oneCell'=true)/\
    ∀(j:Nat) y u,l[j]?=some y->v.cells[j]?=some u->JL s y u)->
  cs.length=cells.size->(∀(i:Nat) x,cs[i]?=some x-> ∃u,cells[i]?=some u/\JL s x u/\u.oneCell'=true)->
  ∃e,Instr.fill place cells ps=some e/\cs'.length=e.size/\ ∀(i:Nat) x,cs'[i]?=some x-> ∃u,e[i]?=some u/\JL s x u/\u.oneCell'=true
 |[],[],cs,cs',cells,h,_,_,hl,hr=>by
  simp[J75]at h;subst h;exact⟨cells,rfl,hl,hr⟩
 |[],_::_,_,_,_,_,hl,_,_,_=>by simp at hl
 |_::_,[],_,_,_,_,hl,_,_,_=>by simp at hl
 |(off,size,l)::parts,(i,v)::ps,cs,cs',cells,h,hlen,hp,hl,hr=>by
  unfold J75 at h;split at h
  ·rename_i G;split at h
   ·rename_i I n;obtain⟨B,K,q,r⟩:=hp 0 off size l i v rfl rfl;obtain⟨J,M,w,z⟩:=Jsa n;obtain⟨g,A,L,D,C⟩:=JAg (v:=v) (rest:=ps) (cells:=cells) B (by omega) (by omega);obtain⟨e,g1,g2,E⟩:=JtU (cells:=g) h (by simpa using hlen) (λk off size l i v h1 h2=>hp (k+1) off size l i v (by simpa using h1) (by simpa using h2)) (by omega) (λk x hk=>by
     by_cases H:off<=k/\k<off+l.length
     ·have e1:=w (k-off) (by omega);rw[show off+(k-off)=k by omega,hk]at e1;have F:k-off<v.cells.size:=by omega
      have e2:=D (k-off) v.cells[k-off] (by simp);exact⟨v.cells[k-off],by rw[<-e2];congr 1;omega,r (k-off) x _ e1.symm (by simp),q _ (by simp)⟩
     ·rw[z k (by omega)]at hk;obtain⟨u,hu,o,h1⟩:=hr k x hk;exact⟨u,by rw[C k (by omega)];exact hu,o,h1⟩)
    exact⟨e,by rw[A];exact g1,g2,E⟩
   ·cases h
  ·cases h
theorem Jmh(he:J0j s a.tmps env){place:Nat->Option (Nat×Nat)}: ∀{parts:List (Nat×Nat×Opd)} {ps:List (Nat×Operand)} {l:List (Nat×Nat×List AV)},
  (J5E parts).run ⟨env,s.σ⟩=some l->J6F place parts ps=true->
  l.length=(ps.map λx=>(x.1,a.eval x.2)).length/\
  ∀(k:Nat) off size cs i v,l[k]?=some (off,size,cs)->(ps.map λx=>(x.1,a.eval x.2))[k]?=some (i,v)->place i=some (off,size)/\cs.length=v.cells.size/\(∀u∈v.cells.toList,u.oneCell'=true)/\
   ∀(j:Nat) y u,cs[j]?=some y->v.cells[j]?=some u->JL s y u
 |[],[],l,h,_=>by
  simp only[J5E,RM.run]at h;injection h with h;subst h
  exact⟨rfl,λk off size cs i v h=>by simp at h⟩
 |[],_::_,_,_,hc=>by simp[J6F]at hc
 |_::_,[],_,_,hc=>by simp[J6F]at hc
 |(off,size,x)::parts,(i,y)::ps,l,h,hc=>by
  simp only[J6F,J02,beq_iff_eq]at hc;obtain⟨⟨hp,hx⟩,hc⟩:=hc;simp only[J5E]at h;obtain⟨v,h1,h⟩:=bind_some h;split at h
  ·rename_i cs hcs;obtain⟨w,h2,h⟩:=bind_some h;simp only[RM.run]at h;injection h with h;subst h
   obtain⟨n,q⟩:=Jmh he h2 hc;obtain⟨q1,q2,q3⟩:=Jdi hcs (J0b he h1 hx);refine⟨by simpa using n,λk g e cs' r o h3 h4=>?_⟩;cases k with
   |zero=>
    simp at h3 h4;obtain⟨rfl,rfl,rfl⟩:=h3;obtain⟨rfl,rfl⟩:=h4;exact⟨hp,q1,q2,q3⟩
   |succ k=>exact q k g e cs' r o (by simpa using h3) (by simpa using h4)
  ·cases h
theorem JlM: ∀{fs:List Field},(∀f∈fs,(szT P f.type).isSome=true)-> ∀w:World,
  (fs.mapM λf=>do pure (f.offset,<-sizeOf f.type):Sem (List (Nat×Nat))).run P w=.ok (fs.map λf=>(f.offset,(szT P f.type).getD 0)) w
 |[],_,w=>by simp
 |f::fs,h,w=>by
  have hs:(szT P f.type)=some ((szT P f.type).getD 0):=by have:=h f (by simp);cases hq:szT P f.type<;>simp[hq]at this⊢
  have ih:=JlM (fs:=fs) (λg e=>h g (by simp[e])) w;rw[List.mapM_cons];simp only[J5W,J2Q hs,J5L,JaU,ih];simp
theorem JOt(hi:Inv s)(he:J0j s a.tmps env){zero parts}(h:(opR F (.build zero parts) new).run ⟨env,s.σ⟩=some e)(hc:J01 P (.build zero parts) o.op=true):J1b P o a s e:=by
 simp only[opR]at h;obtain⟨l,h1,K⟩:=bind_some h;clear h;unfold J01 at hc;simp only at hc;split at hc
 ·rename_i t ps H;simp only[J02]at hc;obtain⟨hz,k⟩:=hc;obtain⟨z,I,O,Q⟩:=J50 hz;split at K
  ·rename_i cs hcs;obtain⟨r,h3,rfl⟩:=J23 K;have G: ∀(i:Nat) x,(zero.map AV.p)[i]?=some x-> ∃u,z.cells[i]?=some u/\JL s x u/\u.oneCell'=true:=by
    intro i x hx;rw[J2c]at hx;cases hzi:zero[i]? with
    |none=>simp[hzi]at hx
    |some c=>
     simp[hzi]at hx;subst hx;have M:=Ji hzi;have T:i<z.cells.size:=by omega
     have:=Q (w:=s.w) (C:=s.g.C) i c z.cells[i] hzi (by simp);exact⟨z.cells[i],by simp,.p _ _ this,this.one⟩
   have fin: ∀{place:Nat->Option (Nat×Nat)},J6F place parts ps.toList=true->
     ∃j,Instr.fill place z.cells (ps.toList.map λx=>(x.1,a.eval x.2))=some j/\JL s r (.agg j):=by
    intro place E;obtain⟨S,V⟩:=Jmh he h1 E;obtain⟨j,B,U,R⟩:=JtU (s:=s) (cells:=z.cells) hcs S V (by simp[O]) G;refine⟨j,B,?_⟩
    have:=Jwp (s:=s) (vs:=j.toList) h3 (by simpa using U) (λv hv=>by
      obtain⟨i,A⟩:=J9V hv;have A:j[i]?=some v:=by simpa using A
      have M:=JeY A;obtain⟨u,hu,_,h1⟩:=R i cs[i] (by rw[JK]);rw[A]at hu;injection hu with hu;subst hu;exact h1)
     (λi y v hy hv=>by
       obtain⟨u,hu,hr,_⟩:=R i y hy;have hv:j[i]?=some v:=by simpa using hv
       rw[hv]at hu;injection hu with hu;subst hu;exact hr)
    rcases this with⟨_,hr⟩|⟨hf,_⟩
    ·simpa using hr
    ·cases hf
   have J:(ps.map λx=>(x.1,a.eval x.2)).toList=ps.toList.map λx=>(x.1,a.eval x.2):=by simp
   split at k
   ·rename_i fs hu;simp only[J02]at k;obtain⟨D,E⟩:=k;obtain⟨j,B,hr⟩:=fin E;have N:(λi=>(fs.map λf=>(f.offset,(szT P f.type).getD 0))[i]?)=Jfg P fs:=by
     funext i
     simp only[Jfg,Array.getElem?_map];cases hfi:fs[i]? with
     |none=>rfl
     |some f=>
      have:=JHl.1 D f (Array.mem_of_getElem? hfi);cases hq:szT P f.type<;>simp[hq]at this⊢
    refine JG hi (v:=.agg j) ?_ hr;have L:(fs.mapM λf=>do pure (f.offset,<-sizeOf f.type):Sem (Array (Nat×Nat))).run P s.w=.ok (fs.map λf=>(f.offset,(szT P f.type).getD 0)) s.w:=by
     rw[Array.mapM_eq_mapM_toList];simp only[Sem.run_map,JlM (P:=P) (fs:=fs.toList) (λf hf=>JHl.1 D f (by simpa using hf)),J5L]
     congr 1
     apply JaT;simp
    have hf:Instr.fill (λi=>(fs.map λf=>(f.offset,(szT P f.type).getD 0))[i]?) z.cells (ps.map λx=>(x.1,a.eval x.2)).toList=some j:=by rw[N,J];exact B
    have hb:(Instr.build t (ps.map λx=>(x.1,a.eval x.2))).run P s.w=.ok (.agg j) s.w:=by unfold Instr.build;simp only[J5W,Jda I,J5L,run_underlying hu,L,hf];rfl
    simp only[execOp,H,J5W,hb,J5L,JaU]
   ·rename_i n el hu;split at k
    ·rename_i q hq;obtain⟨j,B,hr⟩:=fin k;refine JG hi (v:=.agg j) ?_ hr;have hb:(Instr.build t (ps.map λx=>(x.1,a.eval x.2))).run P s.w=.ok (.agg j) s.w:=by unfold Instr.build;simp only[J5W,Jda I,J5L,run_underlying hu,J2Q hq,J,B];rfl
     simp only[execOp,H,J5W,hb,J5L,JaU]
    ·cases k
   ·cases k
  ·cases K
 ·cases hc
theorem JRi(hi:Inv s){n}(h:(opR F (.alen n) new).run ⟨env,s.σ⟩=some e)(hc:J01 P (.alen n) o.op=true):J1b P o a s e:=by
 simp only[opR,RM.run]at h;injection h with h;subst h;unfold J01 at hc;simp only at hc;split at hc
 ·rename_i c k;split at hc
  ·rename_i g;split at hc
   ·rename_i y t j r;have hm:c.args.map a.eval= #[a.eval y]:=by apply JaT;simp[j]
    have q:c.argTypes[0]?=some t:=by rw[<-JHE,r];rfl
    split at hc
    ·rename_i m el hu;have:m=n:=by simpa using hc
     subst this;exact JG hi (v:=.int .i64 m) (by simp[execOp,k,resolve,g,hm,invoke,builtin,Builtin.len_,q,run_underlying hu,goInt]) (J67 _ _)
    ·rename_i ar hu;split at hc
     ·rename_i m el w;have:m=n:=by simpa using hc
      subst this;exact JG hi (v:=.int .i64 m) (by simp[execOp,k,resolve,g,hm,invoke,builtin,Builtin.len_,q,run_underlying hu,run_underlying (JuM w),goInt]) (J67 _ _)
     ·cases hc
    ·cases hc
   ·cases hc
  ·cases hc
 ·cases hc
end
end Go.Am
end
section
namespace Go.Am
def Jdk(s:Sn)(esz:Nat)(rows:List (List PV))(c:Array Value):Prop:=(∀row∈rows,row.length=esz)/\rows.length*esz<=c.size/\ ∀(i j:Nat) row x,rows[i]?=some row->row[j]?=some x-> ∃u,c[i*esz+j]?=some u/\J0u s.w s.g.C x u
section
variable {P:Program} {F:Orc} {s:Sn} {a:Act} {env:List (Nat×AV)} {o:Oper} {new:Nat} {e:Eff}
theorem Jdk.mono{s0 s:Sn}(hi:Inv s0)(t:J0k s0 s){esz rows c}(h:Jdk s0 esz rows c):Jdk s esz rows c:=
 ⟨h.1,h.2.1,λi j row x hr hx=>let⟨u,h1,h2⟩:=h.2.2 i j row x hr hx;⟨u,h1,h2.mono hi t⟩⟩
theorem JlP{s0:Sn}(hi:Inv s0)(hn:s0.σ[new]?=some .dead){esz:Nat}{rows:List (List PV)}{c:Array Value}{g:TypeId}{fz:Nat×Nat}{w':World}{cap:Nat}
  (k:w'.heap=s0.w.heap.push (.cells c g fz)) (ho:w'.os=s0.w.os) (hp:w'.output=s0.w.output) (hf:JgU esz fz c.size) (hr:Jdk s0 esz rows c) (e:rows.length<=cap) (j:cap*esz<=c.size):
  (∃g',Inv ⟨s0.σ.set new (.arr true esz rows),g',w'⟩/\J0k s0 ⟨s0.σ.set new (.arr true esz rows),g',w'⟩/\
    JL ⟨s0.σ.set new (.arr true esz rows),g',w'⟩ (.slr new 0 rows.length) (.slice (some ⟨s0.w.heap.size,0,none⟩) rows.length cap)):=by
 obtain⟨n,t'⟩:=JrV hi hn (blk:=.arr true esz rows) k ho hp hf.1 (λ_ _ _ h=>by injection h with _ h _;subst h;exact hf.2) hr;refine⟨_,n,t',.slr new 0 _ _ true esz rows ⟨_,_,rfl,.inr (by simp)⟩ (J16 hn) (by omega) λ_=>.inr ⟨s0.w.heap.size,cap,c,g,fz,if_pos rfl,by simp,e,Jbq k,by simpa using j⟩⟩
theorem JqB{s0:Sn}(hi:Inv s0){esz:Nat}{rows:List (List PV)}{c:Array Value}{k:TypeId}{fz:Nat×Nat}{w':World}{cap:Nat}
  (h:w'.heap=s0.w.heap.push (.cells c k fz)) (ho:w'.os=s0.w.os) (hp:w'.output=s0.w.output) (hr:Jdk s0 esz rows c) (e:rows.length<=cap):
  (∃g',Inv ⟨s0.σ,g',w'⟩/\J0k s0 ⟨s0.σ,g',w'⟩/\JL ⟨s0.σ,g',w'⟩ (.p (.sl esz rows)) (.slice (some ⟨s0.w.heap.size,0,none⟩) rows.length cap)):=by
 obtain⟨n,t'⟩:=JNr hi h ho hp;refine⟨_,n,t',.p _ _ (JiG (s:=⟨s0.σ,_,w'⟩) rfl e hr.1 (.inr ⟨_,0,rfl,λi j row x g hj=>⟨.inr rfl,?_⟩⟩))⟩;obtain⟨u,hu,hrel⟩:=hr.2.2 i j row x g hj;exact⟨u,by rw[J2C (Jbq h),zQ6];exact hu,hrel.mono hi t'⟩
theorem JJy{F:List Blk}{tmps:Array Value}(he: ∀n x,lk n env=some x-> ∃v,a.tmps[n]?=some v): ∀{xs:List Opd} {e:List Operand} {s:Sn} {y:List (List PV)×List (Nat×Blk)},Inv s->Frz F s.σ->J0j s a.tmps env->
  (fzs xs).run ⟨env,F⟩=some y->J6x xs e=true->
  ∃g',Inv ⟨upd y.2 s.σ,g',s.w⟩/\J0k s ⟨upd y.2 s.σ,g',s.w⟩/\Frz s.σ (upd y.2 s.σ)/\y.1.length=e.length/\
   ∀(k:Nat) cs q,y.1[k]?=some cs->e[k]?=some q->cs.length=(a.eval q).cells.size/\ ∀(i:Nat) c u,cs[i]?=some c->(a.eval q).cells[i]?=some u->J0u s.w g'.C c u
 |[],[],s,y,hi,o,r,h,_=>by
  simp only[fzs,RM.run]at h;injection h with h;subst h
  exact⟨s.g,hi,.refl s,.refl _,rfl,λk cs q h=>by simp at h⟩
 |[],_::_,_,_,_,_,_,_,hc=>by simp[J6x]at hc
 |_::_,[],_,_,_,_,_,_,hc=>by simp[J6x]at hc
 |x::xs,q::e,s,y,hi,o,r,h,hc=>by
  simp only[J6x,J02]at hc;simp only[fzs]at h;obtain⟨v,h1,h⟩:=bind_some h;obtain⟨j,h2,h⟩:=bind_some h;obtain⟨N,h3,h⟩:=bind_some h;simp only[RM.run]at h;injection h with h;subst h
  have E:(ev x).run ⟨env,s.σ⟩=some v:=by
   cases x with
   |t n=>simpa only[ev,RM.run]using h1
   |c z=>simpa only[ev,RM.run]using h1
  have hr:=J0b r E hc.1;obtain⟨g1,G,D,B,L,H⟩:=JEI hi o h2 hr;obtain⟨g2,I,A,J,M,K⟩:=JJy (tmps:=tmps) he (s:=⟨upd j.2 s.σ,g1,s.w⟩) G (o.trans B) (r.mono hi D) h3 hc.2;refine⟨g2,by rw[J1A];exact I,by rw[J1A];exact D.trans A,by rw[J1A];exact B.trans J,by simp[M],λk cs q' hk hq=>?_⟩;cases k with
  |zero=>
   simp at hk hq;subst hk hq;exact⟨L,λi c u hc hu=>J0u.mono (s0:=⟨upd j.2 s.σ,g1,s.w⟩) (s:=⟨upd N.2 (upd j.2 s.σ),g2,s.w⟩) G A (H i c u hc hu)⟩
  |succ k=>exact K k cs q' (by simpa using hk) (by simpa using hq)
theorem JzS{esz:Nat}(y:0<esz): ∀{parts:List (Nat×List PV)} {ps:List (Nat×Value)} {rows rows':List (List PV)} {cells:Array Value},
  J8R esz parts rows=some rows'->parts.length=ps.length->
  (∀(k:Nat) i cs j v,parts[k]?=some (i,cs)->ps[k]?=some (j,v)->i=j/\cs.length=v.cells.size/\ ∀(m:Nat) c u,cs[m]?=some c->v.cells[m]?=some u->J0u s.w s.g.C c u)->
  Jdk s esz rows cells->cells.size=rows.length*esz->
  ∃e,Instr.fill (λi=>some (i*esz,esz)) cells ps=some e/\Jdk s esz rows' e/\rows'.length=rows.length/\e.size=rows.length*esz
 |[],[],rows,rows',cells,h,_,_,hr,hs=>by
  simp[J8R]at h;subst h;exact⟨cells,rfl,hr,rfl,hs⟩
 |[],_::_,_,_,_,_,hl,_,_,_=>by simp at hl
 |_::_,[],_,_,_,_,hl,_,_,_=>by simp at hl
 |(i,cs)::parts,(j,v)::ps,rows,rows',cells,h,hlen,hp,hr,hs=>by
  unfold J8R at h;split at h
  ·rename_i hc;obtain⟨rfl,J,z⟩:=hp 0 i cs j v rfl rfl;have B:i*esz+esz<=rows.length*esz:=by have:=zQ7 esz (show i+1<=rows.length from hc.2);rwa[J4c,JuB]at this
   obtain⟨n,A,K,F,E⟩:=JAg (place:=λi=>some (i*esz,esz)) (v:=v) (rest:=ps) (cells:=cells) (i:=i) rfl (by omega) (by omega);obtain⟨q1,q2,q3⟩:=hr;obtain⟨e,g1,g2,G,D⟩:=JzS y (cells:=n) h (by simpa using hlen) (λk i cs j v h1 h2=>hp (k+1) i cs j v (by simpa using h1) (by simpa using h2))
    ⟨λrow hm=>by
      rcases Jyy hm with hm|hm
      ·exact q1 row hm
      ·subst hm;exact hc.1,by simp;omega,λk m row x hk hx=>by
      by_cases q:k=i
      ·subst q;rw[JpO hc.2]at hk;injection hk with hk;subst hk;have I:=Ji hx;have o:m<v.cells.size:=by omega
       exact⟨v.cells[m],F m _ (by simp),z m x _ hx (by simp)⟩
      ·rw[JlL (Ne.symm q)]at hk;obtain⟨u,hu,hrel⟩:=q3 k m row x hk hx;refine⟨u,?_,hrel⟩;rw[E _ ?_]
       ·exact hu
       ·have r:=Ji hx;rw[q1 row (J0F hk)]at r;rcases zQ1 k i with o|H
        ·left;have:=J6f o r;omega
        ·right;have:=zQ7 esz (show i+1<=k by omega);rw[J4c,JuB]at this;omega⟩ (by simp;omega)
   exact⟨e,by rw[A];exact g1,g2,by simpa using G,by simpa using D⟩
  ·cases h
theorem JrQ{t:TypeId}{n:Nat}(h:szT P t=some n): ∃i,P.info? t=some i/\i.size=n:=by
 unfold szT at h;cases hi:P.info? t with
 |none=>rw[hi]at h;cases h
 |some i=>rw[hi]at h;simp at h;exact⟨i,rfl,h⟩
theorem Jyg{t:TypeId}{v:Value}{i:TypeInfo}(h:zeT P t=some v)(hi:P.info? t=some i):i.zero=some v:=by unfold zeT at h;rw[hi]at h;simpa using h
theorem Jv7{t:TypeId}{n:Nat}{i:TypeInfo}(h:byT P t=some n)(hi:P.info? t=some i):i.bytes=n:=by unfold byT at h;rw[hi]at h;simpa using h
theorem JPm{z:Array Value}{esz n i j:Nat}(hz:z.size=esz)(hi:i<n)(hj:j<esz):(madeCells z (n*esz))[i*esz+j]?=z[j]?:=by
 have h1:i*esz+j<n*esz:=J6f hi hj;have h2:(i*esz+j)%z.size=j:=by rw[hz,Nat.add_comm,Nat.add_mul_mod_self_right,Nat.mod_eq_of_lt hj]
 have h3:j<z.size:=by omega
 simp[madeCells,h1,h2,h3]
theorem Jvw{zero:List PV}{z:Value}{esz n m:Nat}(hl:zero.length=esz)(k:zero.length=z.cells.size)
  (g: ∀{w C} (i:Nat) x u,zero[i]?=some x->z.cells[i]?=some u->J0u w C x u) (h:n<=m):Jdk s esz (List.replicate n zero) (madeCells z.cells (m*esz)):=by
 refine⟨λrow hr=>by rw[List.eq_of_mem_replicate hr];exact hl,?_,λi j row x hi hj=>?_⟩
 ·rw[size_madeCells,JlR];exact zQ7 esz h
 ·have e:=Ji hi;have:=List.eq_of_mem_replicate (J0F hi);subst this;have o:=Ji hj;simp at e;have hz:z.cells.size=esz:=by omega
  refine⟨z.cells[j],?_,g j x _ hj (by simp)⟩;rw[JPm hz (by omega) (by omega)];simp
theorem JL1(hi:Inv s)(he:J0j s a.tmps env){own esz bytes zero l c}(hn:own=true->s.σ[new]?=some .dead)(h:(opR F (.mkslice own esz bytes zero l c) new).run ⟨env,s.σ⟩=some e)
  (hc:J01 P (.mkslice own esz bytes zero l c) o.op=true):J1b P o a s e:=by
 simp only[opR]at h;obtain⟨u,h1,H⟩:=bind_some h;obtain⟨v,h2,g⟩:=bind_some H;clear h H;unfold J01 at hc;simp only at hc;split at hc
 ·rename_i t Y c' E;simp only[J02]at hc;obtain⟨⟨hl,G⟩,A⟩:=hc;have V:=J0b he h1 hl;have W:=J0b he h2 G;split at A
  ·rename_i el I;simp only[J02,beq_iff_eq,decide_eq_true_eq]at A;obtain⟨⟨⟨⟨⟨hs,N⟩,hz⟩,K⟩,T⟩,S⟩:=A;obtain⟨i,j,L⟩:=JrQ hs;obtain⟨z,J,M,O⟩:=J50 hz;have x:=Jv7 N j;split at g
   ·rename_i k n U m;split at g
    ·rename_i y;obtain⟨Q,R,hb,hm⟩:=y;have e1:=J4r V;have e2:=J4r W;have q:=run_make (P:=P) s.w t el i z (J24 I) j (Jyg J j) k U n m Q R (by rw[x];exact hb) (by omega);rw[L]at q;have r:Jdk s esz (List.replicate n.toNat zero) (madeCells z.cells (m.toNat*esz)):=Jvw K M O (by omega);have B:(execOp a.eval o).run P s.w=.ok (.value (.slice (some ⟨s.w.heap.size,0,none⟩) n.toNat m.toNat)) (s.w.alloc (.cells (madeCells z.cells (m.toNat*esz)) el)):=by simp[execOp,E,e1,e2,q]
     split at g
     ·rename_i C;simp only[RM.run]at g;injection g with g;subst g
      obtain⟨g',D,t',r'⟩:=JlP hi (hn C) (w':=s.w.alloc (.cells (madeCells z.cells (m.toNat*esz)) el)) (fz:=(0,0)) rfl rfl rfl (JgU.zero _ _) r (cap:=m.toNat) (by simp;omega) (by rw[size_madeCells];exact zQ0 _);simp only[JlR]at r';exact J2h B D t' r'
     ·simp only[RM.run]at g;injection g with g;subst g
      obtain⟨g',D,t',r'⟩:=JqB hi (w':=s.w.alloc (.cells (madeCells z.cells (m.toNat*esz)) el)) (fz:=(0,0)) rfl rfl rfl r (cap:=m.toNat) (by simp;omega);simp only[JlR]at r';exact J2h (e:=⟨_,[]⟩) B D t' r'
    ·cases g
   ·cases g
  ·cases A
 ·cases hc
theorem JQZ(hi:Inv s)(he:J0j s a.tmps env){own esz n zero parts}(hn:own=true->s.σ[new]?=some .dead)(h:(opR F (.lits own esz n zero parts) new).run ⟨env,s.σ⟩=some e)
  (hc:J01 P (.lits own esz n zero parts) o.op=true):J1b P o a s e:=by
 simp only[opR]at h;obtain⟨y,h1,r⟩:=bind_some h;clear h;unfold J01 at hc;simp only at hc;split at hc
 ·rename_i t len ps a3;simp only[J02,beq_iff_eq]at hc;obtain⟨rfl,G⟩:=hc;split at G
  ·rename_i el K;simp only[J02,beq_iff_eq,decide_eq_true_eq]at G;obtain⟨⟨⟨⟨⟨hs,ac⟩,hz⟩,U⟩,N⟩,hidx⟩:=G;obtain⟨z,a4,Y,V⟩:=J50 hz;have A:J6x (parts.map (·.2)) (ps.toList.map (·.2))=true/\parts.map (·.1)=ps.toList.map (·.1):=by
    have: ∀{p:List (Nat×Opd)} {q:List (Nat×Operand)},Jlh p q=true->J6x (p.map (·.2)) (q.map (·.2))=true/\p.map (·.1)=q.map (·.1):=by
     intro p
     induction p with
     |nil=>intro q h;cases q<;>simp[Jlh]at h⊢;rfl
     |cons x p ih=>
      intro q h;cases q with
      |nil=>simp[Jlh]at h
      |cons y q=>
       obtain⟨xi,xo⟩:=x;obtain⟨yi,yo⟩:=y;simp only[Jlh,J02,beq_iff_eq]at h;obtain⟨h3,h4⟩:=ih h.2;exact⟨by simp[J6x,h.1.2,h3],by simp[h.1.1,h4]⟩
    exact this hidx
   obtain⟨g1,i1,t1,f1,l1,r1⟩:=JJy (tmps:=a.tmps) (λn x hx=>let⟨v,h,_⟩:=he n x hx;⟨v,h⟩) hi (.refl _) he h1 A.1;split at r
   ·rename_i rows I;have H:(parts.map (·.1)).length=(ps.toList.map (·.1)).length:=by rw[A.2]
    simp at H;simp at l1;have O:((parts.map (·.1)).zip y.1).length=(ps.toList.map λx=>(x.1,a.eval x.2)).length:=by simp;omega
    obtain⟨g,M,r2,B,T⟩:=JzS (s:=⟨upd y.2 s.σ,g1,s.w⟩) N (ps:=ps.toList.map λx=>(x.1,a.eval x.2)) (cells:=madeCells z.cells (len*esz)) I O (λk i cs j v hk hq=>by
      rw[List.getElem?_zip_eq_some]at hk;obtain⟨E,W⟩:=hk;rw[J2c]at hq;cases hpk:ps.toList[k]? with
      |none=>simp[hpk]at hq
      |some q=>
       simp[hpk]at hq;obtain⟨rfl,rfl⟩:=hq;rw[A.2,J2c,hpk]at E;simp at E;obtain⟨k3,k4⟩:=r1 k cs q.2 W (by rw[J2c,hpk];rfl);exact⟨E.symm,k3,k4⟩)
     (Jvw U Y V (zQ0 _)) (by simp[size_madeCells])
    simp at B T;have L:(execOp a.eval o).run P s.w=.ok (.value (.slice (some ⟨s.w.heap.size,0,none⟩) len len)) (s.w.alloc (.cells g el)):=by
     have C: ¬(len*esz>2^24):=by omega
     have J:(ps.map fun(x:Nat×Operand)=>(x.1,a.eval x.2)).toList=ps.toList.map λx=>(x.1,a.eval x.2):=by simp
     have hb:(Instr.buildSlice t len (ps.map fun(x:Nat×Operand)=>(x.1,a.eval x.2))).run P s.w=.ok (.slice (some ⟨s.w.heap.size,0,none⟩) len len) (s.w.alloc (.cells g el)):=by
      unfold Instr.buildSlice;by_cases R:len*esz=0
      ·have D:madeCells z.cells (len*esz)= #[]:=by simp[madeCells,R]
       rw[D]at M;have a5: ¬((0:Nat)>2^24):=by decide
       have a1:Array.range 0= #[]:=rfl;simp only[a5,J5W,run_underlying (J24 K),J5L,J2Q hs,C,if_false,R,if_true,JaU,J,a1,Array.map_empty,M,newRow,run_newObj];rfl
      ·have D:((Array.range (len*esz)).map λx=>z.cells[x%z.cells.size]!)=madeCells z.cells (len*esz):=rfl;simp only[J5W,run_underlying (J24 K),J5L,J2Q hs,C,if_false,R,Jda a4,JaU,J,D,M,newRow,run_newObj];rfl
     simp only[execOp,a3,J5W,hb,J5L,JaU]
    split at r
    ·rename_i Q;simp only[RM.run]at r;injection r with r;subst r
     have Z:(upd y.2 s.σ)[new]?=some .dead:=f1.2 _ _ (hn Q) (by simp);obtain⟨g',S,t',r'⟩:=JlP (s0:=⟨upd y.2 s.σ,g1,s.w⟩) i1 Z (w':=s.w.alloc (.cells g el)) (fz:=(0,0)) rfl rfl rfl (JgU.zero _ _) r2 (cap:=len) (by omega) (by omega);rw[B]at r';refine J2h (e:=⟨_,y.2++[(new,.arr true esz rows)]⟩) (g':=g') L ?_ ?_ ?_
     ·rw[J1A];exact S
     ·rw[J1A];exact t1.trans t'
     ·rw[J1A];exact r'
    ·simp only[RM.run]at r;injection r with r;subst r
     obtain⟨g',S,t',r'⟩:=JqB (s0:=⟨upd y.2 s.σ,g1,s.w⟩) i1 (w':=s.w.alloc (.cells g el)) (fz:=(0,0)) rfl rfl rfl r2 (cap:=len) (by omega);rw[B]at r';exact J2h (e:=⟨_,y.2⟩) L S (t1.trans t') r'
   ·cases r
  ·cases G
 ·cases hc
end
end Go.Am
end
section
namespace Go.Am
section
variable {P:Program} {F:Orc} {s:Sn} {a:Act} {env:List (Nat×AV)} {o:Oper} {new:Nat} {e:Eff}
theorem Jt5(l:List UInt8)(c:Array Value)(hc: ∀(i:Nat) b,l[i]?=some b->c[i]?=some (.int .u8 b.toNat))(hl:l.length<=c.size):Jdk s 1 (l.map J4C) c:=by
 refine⟨λrow hr=>?_,by simpa using hl,λi j row x hi hj=>?_⟩
 ·obtain⟨b,_,rfl⟩:=J4J.1 hr;rfl
 ·rw[J2c]at hi;cases hli:l[i]? with
  |none=>simp[hli]at hi
  |some b=>
   simp[hli]at hi;subst hi;have:j=0:=by have:=Ji hj;simp[J4C]at this;exact this
   subst this;simp[J4C]at hj;subst hj;exact⟨_,by rw[Nat.mul_one,JaY];exact hc i b hli,.i _ _⟩
theorem Jy7{α:Type}{esz:Nat}: ∀{rows:List (List α)},(∀row∈rows,row.length=esz)-> ∀{i j:Nat} {row:List α} {x:α},rows[i]?=some row->row[j]?=some x->rows.flatten[i*esz+j]?=some x
 |[],_,i,j,row,x,h,_=>by simp at h
 |r0::e,hl,i,j,row,x,h,hx=>by
  have g:r0.length=esz:=hl r0 (by simp);cases i with
  |zero=>
   simp at h;subst h;have:=Ji hx;simp only[Juq,zQ6,J8S];rw[J9Q (by omega)];exact hx
  |succ i=>
   simp only[J8S];rw[J9O (by rw[J4c];omega)];have:=Jy7 (rows:=e) (λrow hm=>hl row (by simp[hm])) (by simpa using h) hx;rw[<-this];congr 1;rw[J4c];omega
theorem JIw{h:Array Obj}{x:Obj}(f:Obj->Obj):(h.push x).modify h.size f=h.push (f x):=by
 apply Array.ext_getElem?;intro i;rw[Array.getElem?_modify,Array.getElem?_push,Array.getElem?_push];by_cases hi:i=h.size
 ·subst hi;simp
 ·rw[if_neg (Ne.symm hi),if_neg hi,if_neg hi]
theorem JGw{el:TypeId}(l:List UInt8)(w:World): ∃w' cap c fz,(Conv.stringToBytes el ⟨l.toArray⟩).run P w=.ok (.slice (some ⟨w.heap.size,0,none⟩) l.length cap) w'/\
  w'.heap=w.heap.push (.cells c el fz)/\w'.os=w.os/\w'.output=w.output/\JxJ fz 0 c.size/\l.length<=cap/\c.size=cap/\ ∀(i:Nat) b,l[i]?=some b->c[i]?=some (.int .u8 b.toNat):=by
 have hf:(Question.appendCap l.length 0 el).forced=false:=rfl;have e:l.length<=(Question.appendCap l.length 0 el).cut (w.tape w.drawn (.appendCap l.length 0 el)):=by simp[Question.cut]
 generalize hq:(Question.appendCap l.length 0 el).cut (w.tape w.drawn (.appendCap l.length 0 el))=cap at e
 let c:Array Value:=(l.toArray.map λb=>Value.int .u8 b.toNat)++Array.replicate (cap-l.length) (.int .u8 0)
 have hc:c.size=cap:=by simp[c];omega
 refine⟨({w with drawn:=w.drawn+1,heap:=w.heap.push (.cells c el)}).freeze {block:=w.heap.size,off:=c.size} 1,cap,c,(c.size,c.size+1),?_,?_,?_,?_,?_,e,hc,?_⟩
 ·unfold Conv.stringToBytes;have hs:ByteArray.size ⟨l.toArray⟩=l.length:=J9u l;have j:World.shape? {w with drawn:=w.drawn+1,heap:=w.heap.push (.cells c el)} w.heap.size=some (el,c.size):=by simp[World.shape?]
  have he:(Array.map (λb=>Value.int IntKind.u8 ↑(UInt8.toNat b)) l.toArray++Array.replicate (cap-l.length) (Value.int IntKind.u8 0))=c:=rfl;simp only[J5W,run_choose,hs,hf,J5V,if_false,J5L,hq,newRow,run_newObj,JaU,markStringish,run_shape,run_freeze,he,j]
 ·unfold World.freeze;simp only[Nat.one_ne_zero,if_false];rw[JIw];simp
 ·unfold World.freeze;simp
 ·unfold World.freeze;simp
 ·intro o _ h;simp;omega
 ·intro i b hb;have g:=Ji hb;rw[JK g]at hb;injection hb with hb;simp[c,Array.getElem?_append,g,hb]
theorem JLt(hi:Inv s)(he:J0j s a.tmps env){own x}(hn:own=true->s.σ[new]?=some .dead)(h:(opR F (.conv (.toBytes own) x) new).run ⟨env,s.σ⟩=some e)
  (hc:J01 P (.conv (.toBytes own) x) o.op=true):J1b P o a s e:=by
 simp only[opR]at h;obtain⟨u,h1,g⟩:=bind_some h;clear h;unfold J01 at hc;simp only at hc;split at hc
 ·rename_i I dst y A;simp only[J02]at hc;obtain⟨hx,hs,n⟩:=hc;have H:=J0b he h1 hx;split at n
  ·rename_i el B;simp only[J02,beq_iff_eq]at n;have C: ∃l,u=.p (.s l)/\(if own=true then RM.ret ⟨.slr new 0 l.length,[(new,.arr true 1 (l.map J4C))]⟩else RM.ret ⟨.p (.sl 1 (l.map J4C)),[]⟩:RM Eff).run ⟨env,s.σ⟩=some e:=by
    cases u with
    |p c=>cases c with
     |s l=>exact⟨l,rfl,g⟩
     |_=>cases g
    |_=>cases g
   clear g;obtain⟨l,rfl,g⟩:=C
   ·skip
    obtain⟨w',cap,c,fz,v,D,ho,hp,hf,j,hcs,G⟩:=JGw (P:=P) (el:=el) l s.w;have E:=Jcf H;have q:(execOp a.eval o).run P s.w=.ok (.value (.slice (some ⟨s.w.heap.size,0,none⟩) l.length cap)) w':=by simp[execOp,A,E,convert,run_underlying (J7r hs),run_underlying (J24 B),run_underlying (JDF n.1),v]
    have k:=Jt5 (s:=s) l c G (by omega);split at g
    ·rename_i r;simp only[RM.run]at g;injection g with g;subst g
     obtain⟨g',z,t',r'⟩:=JlP (esz:=1) hi (hn r) D ho hp ⟨hf,λh=>absurd rfl h⟩ k (cap:=cap) (by simpa using j) (by omega);simp only[J1P]at r';exact J2h q z t' r'
    ·simp only[RM.run]at g;injection g with g;subst g
     obtain⟨g',z,t',r'⟩:=JqB hi D ho hp k (cap:=cap) (by simpa using j);simp only[J1P]at r';exact J2h (e:=⟨_,[]⟩) q z t' r'
  ·cases n
 ·cases hc
theorem JMO(hi:Inv s){esz:Nat}{x:AV}{new:List (List PV)}{v:Value}{u:TypeId}(h:(J2B esz x).run ⟨env,s.σ⟩=some new)(hr:JL s x v)
  (hu:(elT P u).isSome=true\/J6T P u=true):
  ∃news,Src P esz u v new.length news s.w/\(∀row∈new,row.length=esz)/\
   ∀(i j:Nat) row y,new[i]?=some row->row[j]?=some y-> ∃q,news[i*esz+j]?=some q/\J0u s.w s.g.C y q:=by
 have n:(∃e',P.underlying u=some (.slice e'))\/P.underlying u=some .string:=by
  rcases hu with hu|hu
  ·obtain⟨e',J⟩:=JLw.1 hu;exact .inl ⟨e',J24 J⟩
  ·exact .inr (J7r hu)
 rcases Jx5 hi h hr with⟨l,rfl,rfl,rfl,rfl⟩|F
 ·have hlen:(byteCells ⟨l.toArray⟩).length=l.length:=by rw[byteCells_length,J9u]
  have G: ∀w:World,(Builtin.firstCells 1 l.length (.string ⟨l.toArray⟩)).run P w=.ok (byteCells ⟨l.toArray⟩).toArray w:=by intro w;have:=firstCells_string (P:=P) ⟨l.toArray⟩ w;rwa[J9u]at this
  refine⟨byteCells ⟨l.toArray⟩,⟨n,λw=>by rw[J1P,<-J9u];rfl,by rw[J1P];exact G _,by rw[J1P];exact G _,by rw[hlen];simp,λq hq=>by obtain⟨_,_,rfl⟩:=J4J.1 hq;rfl⟩,λrow hr=>?_,?_⟩
  ·obtain⟨b,_,rfl⟩:=J4J.1 hr;rfl
  ·have:=(Jt5 (s:=s) l (byteCells ⟨l.toArray⟩).toArray (λi b hb=>by
    simp[byteCells,hb]) (by simp[byteCells])).2.2
   intro i j row y h1 h2;obtain⟨q,hq,hr⟩:=this i j row y h1 h2;exact⟨q,by simpa using hq,hr⟩
 ·obtain⟨D,cap,vs,hv,H,hlen,hrel,A,e⟩:=F.cells;have z: ∀q∈vs,q.oneCell'=true:=by
   intro q hq;obtain⟨k,hk⟩:=J9V hq;have L:=Ji hk;have:k<new.flatten.length:=by rw[JlE e];omega
   obtain⟨q',o,hr⟩:=hrel k _ (JK this);rw[hk]at o;injection o with o;subst o;exact hr.one
  have B: ∀(i j:Nat) row y,new[i]?=some row->row[j]?=some y-> ∃q,vs[i*esz+j]?=some q/\J0u s.w s.g.C y q:=by
   intro i j row y h1 h2;refine hrel _ _ ?_;clear hrel A hlen z h hr hv H F
   induction new generalizing i with
   |nil=>simp at h1
   |cons r0 new ih=>
    have M:r0.length=esz:=e r0 (by simp);cases i with
    |zero=>
     simp at h1;subst h1;have:=Ji h2;simp only[Juq,zQ6,J8S];rw[J9Q (by omega)];exact h2
    |succ i=>
     simp only[J8S];rw[J9O (by rw[J4c];omega)];have:=ih (λrow hm=>e row (by simp[hm])) i (by simpa using h1);rw[<-this];congr 1;rw[J4c];omega
  subst hv;rcases A with I|⟨r,K,rfl,hm⟩
  ·subst I;simp at hlen;subst hlen;refine⟨[],?_,e,B⟩;cases D with
   |none=>exact⟨n,λ_=>rfl,run_firstCells_none s.w esz 0 0 cap,run_firstCells_none s.w.drew esz 0 0 cap,by simp,λ_ h=>by cases h⟩
   |some D=>exact⟨n,λ_=>rfl,run_firstCells_some s.w esz 0 D 0 cap [] (by simp) (λj u h=>by simp at h),run_firstCells_some s.w.drew esz 0 D 0 cap [] (by simp) (λj u h=>by simp at h),by simp,λ_ h=>by cases h⟩
  ·have E: ∀j q,vs[j]?=some q->s.w.cell? (Addr.add ⟨r,K,none⟩ j)=some q:=λj q hj=>by rw[Jb0,J9p];exact hm j q hj
   exact⟨vs,⟨n,λ_=>rfl,run_firstCells_some s.w esz _ _ _ cap vs hlen E,run_firstCells_some s.w.drew esz _ _ _ cap vs hlen (by simpa using E),hlen,z⟩,e,B⟩
theorem Jsg(b:Nat)(x:Blk)(σ:List Blk):upd [(b,x)] σ=σ.set b x:=rfl
structure JON(P:Program)(esz bytes:Nat)(t ut ty el:TypeId)(z v:Value)(n:Nat)(news:List Value)(w:World):Prop where
 newsLen:news.length=n*esz
 room: ∀(r off sLen sCap:Nat),sLen+n<=sCap->(∀j,j<news.length->(w.cell? ⟨r,off+sLen*esz+j,none⟩).isSome=true)->(∀j,j<news.length->w.frozen? ⟨r,off+sLen*esz+j,none⟩=false)->
  (Builtin.append_ #[t,ut] ty #[.slice (some ⟨r,off,none⟩) sLen sCap,v]).run P w=.ok (.slice (some ⟨r,off,none⟩) (sLen+n) sCap) (w.setCells r (off+sLen*esz) news)
 grow: ∀(base:Option Addr) (sLen sCap:Nat) (olds:List Value),(Builtin.firstCells esz sLen (.slice base sLen sCap)).run P w.drew=.ok olds.toArray w.drew->sCap<sLen+n->((sLen+n:Nat):Int)<=9223372036854775807->
  Builtin.nextslicecap (sLen+n) sCap*bytes<=281474976710656->
  (Builtin.append_ #[t,ut] ty #[.slice base sLen sCap,v]).run P w=.ok (.slice (some ⟨w.heap.size,0,none⟩) (sLen+n) (grownCap w (sLen+n) sCap el)) (w.drew.alloc (.cells ((olds++news).toArray++Builtin.zeroCells z.cells (grownCap w (sLen+n) sCap el-(sLen+n))) el))
 nil:n=0->(Builtin.append_ #[t,ut] ty #[.slice none 0 0,v]).run P w=.ok (.slice none 0 0) w
theorem Src.gen{esz bytes:Nat}{t ut ty el:TypeId}{i:TypeInfo}{z v:Value}{n:Nat}{news:List Value}{w:World}(j:elT P t=some el)(hs:szT P el=some esz)(k:P.info? el=some i)(e:i.size=esz)(q:i.bytes=bytes)(x:i.zero=some z)
  (h:Src P esz ut v n news w):JON P esz bytes t ut ty el z v n news w:=by
 have g:=h;rw[<-e]at g;refine⟨h.newsLen,λr off sLen sCap h1 h2 h3=>?_,λbase sLen sCap olds h1 h2 h3 h4=>?_,λA=>?_⟩
 ·have o:=run_append_room_src (P:=P) w t ut ty el i (J24 j) k r off sLen sCap v n news g h1 (by rw[e];exact h2) (by rw[e];exact h3);rw[e]at o;exact o
 ·exact run_append_grow_src (P:=P) w t ut ty el i z (J24 j) k x base sLen sCap olds (by rw[e];exact h1) v n news g h2 h3 (by rw[q];exact h4)
 ·subst A;have hl:=h.len w;have y:=h.cells;rcases h.kind with⟨e',hk⟩|hk
  ·simp[Builtin.append_,run_underlying (J24 j),run_underlying hk,J2Q hs,hl,y]
  ·simp[Builtin.append_,run_underlying (J24 j),run_underlying hk,J2Q hs,hl,y]
theorem JLC{esz bytes:Nat}{t ut ty el:TypeId}{i:TypeInfo}{z:Value}{k J:IntKind}{m:Nat}{w:World}(q:elT P t=some el)(hs:szT P el=some esz)(n:P.info? el=some i)(v:i.size=esz)(g:i.bytes=bytes)(o:i.zero=some z)
  (F:z.cells.size=esz) (H: ∀u∈z.cells.toList,u.oneCell'=true) (hk:P.underlying ut=some (.int k)) (hm:m*bytes<=281474976710656) (K:m<=281474976710656):
  JON P esz bytes t ut ty el z (.int J (m:Int)) m (Builtin.zeroCells z.cells m).toList w:=by
 have w0:IntKind.i64.wrap (m:Int)=(m:Int):=by simp[IntKind.wrap_i64];omega
 have B: ¬(m:Int)<0:=by omega
 have C: ¬(281474976710656:Int)<(m:Int)*(bytes:Int):=by
  have:((m*bytes:Nat):Int)<=281474976710656:=by omega
  rw[Int.natCast_mul]at this;omega
 have hl:(Builtin.zeroCells z.cells m).toList.length=m*esz:=by rw[Array.length_toList,size_zeroCells,F]
 have D: ∀u∈(Builtin.zeroCells z.cells m).toList,u.oneCell'=true:=by
  intro u hu;unfold Builtin.zeroCells at hu;simp only[Array.toList_map,J4J]at hu;obtain⟨j,_,rfl⟩:=hu;by_cases hj:j%z.cells.size<z.cells.size
  ·rw[getElem!_pos z.cells _ hj];exact H _ (Array.getElem_mem_toList _)
  ·have:z.cells.size=0:=by
    rcases JEA z.cells.size with h|h
    ·exact h
    ·exact absurd (Nat.mod_lt _ h) hj
   rw[getElem!_neg z.cells _ hj];rfl
 have E:m*esz=0->Builtin.zeroCells z.cells m= #[]:=by intro G;apply Array.eq_empty_of_size_eq_zero;rw[size_zeroCells,F];exact G
 refine⟨hl,λr off sLen sCap h1 h2 h3=>?_,λbase sLen sCap olds h1 h2 h3 h4=>?_,λG=>?_⟩
 ·have x:=run_storeCells_cells (P:=P) r (off+sLen*esz) (Builtin.zeroCells z.cells m).toList 0 w (by simpa using h2) (by simpa using h3) D;simp only[JaY]at x;by_cases hz:m*esz=0
  ·have e:=E hz;rw[e]at x⊢;simp[Builtin.append_,run_underlying (J24 q),run_underlying hk,sizeOf,typeInfo,n,v,g,asInt,asIntOf,w0,B,C,h1,hz,Addr.add_lit,x]
  ·simp[Builtin.append_,run_underlying (J24 q),run_underlying hk,sizeOf,typeInfo,zeroValue,n,o,v,g,asInt,asIntOf,w0,B,C,h1,hz,Addr.add_lit,x]
 ·have hn: ¬(sLen+m<=sCap):=by omega
  have y: ¬(9223372036854775807<((sLen:Int)+(m:Int))):=by omega
  have A: ¬(281474976710656<Builtin.nextslicecap (sLen+m) sCap*bytes):=by omega
  by_cases hz:m*esz=0
  ·have e:=E hz;rw[e];simp[Builtin.append_,run_underlying (J24 q),run_underlying hk,sizeOf,typeInfo,zeroValue,n,o,v,g,asInt,asIntOf,w0,B,C,hz,hn,y,A,Question.forced,h1,newRow,grownCap]
  ·simp[Builtin.append_,run_underlying (J24 q),run_underlying hk,sizeOf,typeInfo,zeroValue,n,o,v,g,asInt,asIntOf,w0,B,C,hz,hn,y,A,Question.forced,h1,newRow,grownCap]
   congr 2
   apply JaT;simp[Jb1]
 ·subst G;have I:IntKind.i64.wrap 0=0:=by decide
  simp[Builtin.append_,run_underlying (J24 q),run_underlying hk,sizeOf,typeInfo,n,v,g,asInt,asIntOf,I]
theorem JA7(hi:Inv s){esz bytes:Nat}{zero:List PV}{u v:AV}{c:Call}{x' y':Operand}{t ut el:TypeId}(be:o.op=.call c)(az:c.callee=.builtin .append)
  (ah:c.args.toList=[x',y']) (aw:c.argTypes.toList=[t,ut]) (c5:elT P t=some el)
  (ht:(szT P el==some esz&&byT P el==some bytes&&JbX P zero el&&zero.length==esz&&decide (0<esz)&&decide (0<bytes))=true)
  (rx:JL s u (a.eval x')) (hG: ∀(i:TypeInfo) (z:Value) (new:List (List PV)),szT P el=some esz->P.info? el=some i->i.size=esz->i.bytes=bytes->i.zero=some z->zeT P el=some z->zero.length=z.cells.size->new.length*bytes<=281474976710656->new.length<=281474976710656->(J2B esz v).run ⟨env,s.σ⟩=some new->
   ∃news,JON P esz bytes t ut o.type el z (a.eval y') new.length news s.w/\(∀row∈new,row.length=esz)/\
    ∀(i j:Nat) row y,new[i]?=some row->row[j]?=some y-> ∃q,news[i*esz+j]?=some q/\J0u s.w s.g.C y q)
  (A:(J8Q esz bytes u v).run ⟨env,s.σ⟩=some e):J1b P o a s e:=by
 simp only[J02,beq_iff_eq,decide_eq_true_eq]at ht;obtain⟨⟨⟨⟨⟨hs,b8⟩,hz⟩,bz⟩,bp⟩,ak⟩:=ht;obtain⟨i,M,b3⟩:=JrQ hs;obtain⟨z,an,c6,c1⟩:=J50 hz;have F:=Jv7 b8 M;have ai:=Jyg an M;have hm:c.args.map a.eval= #[a.eval x',a.eval y']:=by apply JaT;simp[ah]
 have b4:c.argTypes= #[t,ut]:=by apply JaT;rw[aw]
 have ab: ∀{q:Value} {w':World},(Builtin.append_ #[t,ut] o.type #[a.eval x',a.eval y']).run P s.w=.ok q w'->(execOp a.eval o).run P s.w=.ok (.value q) w':=by intro q w' hr;simp[execOp,be,resolve,az,hm,b4,invoke,builtin,hr]
 unfold J8Q at A;split at A
 ·rename_i b j n;simp only[RM.run]at A;split at A
  ·rename_i blk hb;split at A
   ·rename_i wm Y rows;obtain⟨x,h3,h4⟩:=bind_some A;clear A;split at h4
    ·rename_i ag;obtain⟨rfl,rfl,rfl,Q⟩:=ag;simp only[RM.run]at h4;injection h4 with h4;subst h4
     have hb:s.σ[b]?=some (.arr wm esz rows):=hb;have Q:(2*(rows.length+x.length)+512)*bytes<=281474976710656:=by simpa[JaR]using Q
     have bf:rows.length+x.length<=281474976710656:=by have h5:(2*(rows.length+x.length)+512)*1<=(2*(rows.length+x.length)+512)*bytes:=Nat.mul_le_mul_left _ ak;omega
     have av:x.length*bytes<=281474976710656:=by have h5:x.length*bytes<=(2*(rows.length+x.length)+512)*bytes:=zQ7 _ (by omega);omega
     obtain⟨news,J,G,O⟩:=hG i z x hs M b3 F ai an (by omega) av (by omega) h3;have U:=J.newsLen;have K:=J6U.of_slr hi rx hb (by omega);simp only[Jpp]at K;generalize T:a.eval x'=zz at rx;have au: ∀{N:Nat},N<rows.length+x.length->Builtin.nextslicecap (rows.length+x.length) N*i.bytes<=281474976710656:=by intro N ho;have h5:=nextslicecap_le ho;rw[F];have h6:Builtin.nextslicecap (rows.length+x.length) N*bytes<=(2*(rows.length+x.length)+512)*bytes:=zQ7 _ (by omega);omega
     have grow: ∀{base:Option Addr} {cap:Nat},zz=.slice base rows.length cap->cap<rows.length+x.length->
       J1b P o a s ⟨.slr b 0 (rows.length+x.length),[(b,.arr wm esz (rows++x))]⟩:=by
      intro base cap am Z;rw[T]at K;obtain⟨ad,bo,vs,hv,bg,E,ae,aj,I⟩:=K.cells;rw[am]at hv;injection hv with v1 v2 v3;subst v1 v3;have ay:(Builtin.firstCells esz rows.length (.slice base rows.length cap)).run P s.w.drew=.ok vs.toArray s.w.drew:=by
       rcases aj with ao|⟨r,o',rfl,b7⟩
       ·subst ao;simp at E;subst E;cases base with
        |none=>exact run_firstCells_none s.w.drew esz 0 0 cap
        |some ad=>exact run_firstCells_some s.w.drew esz 0 ad 0 cap [] (by simp) (λj u h=>by simp at h)
       ·exact run_firstCells_some s.w.drew esz _ _ _ cap vs E (λj q hj=>by
         have:s.w.drew.cell? (Addr.add ⟨r,o',none⟩ j)=s.w.cell? (Addr.add ⟨r,o',none⟩ j):=by simp
         rw[this,Jb0,J9p];exact b7 j q hj)
      have B:=J.grow base rows.length cap vs ay Z (by omega) (by rw[<-F];exact au Z);have a7:rows.length+x.length<=grownCap s.w (rows.length+x.length) cap el:=by unfold grownCap;simp[Question.cut]
      generalize grownCap s.w (rows.length+x.length) cap el=V at B a7;have b1:x≠[]:=by rintro rfl;simp at Z;omega
      have b5:z.cells.size=esz:=by omega
      obtain⟨i0,t0⟩:=Jrb (w':=s.w.drew) hi rfl rfl rfl;have a5:((vs++news).toArray++Builtin.zeroCells z.cells (V-(rows.length+x.length))).size=V*esz:=by
       have:V*esz=(rows.length+x.length)*esz+(V-(rows.length+x.length))*esz:=by rw[<-J4c];congr 1;omega
       rw[this,J4c];simp[size_zeroCells,E,U,b5]
      obtain⟨g',bu,i',t'⟩:=JOK (s0:=⟨s.σ,s.g,s.w.drew⟩) i0 (w':=s.w.drew.alloc (.cells ((vs++news).toArray++Builtin.zeroCells z.cells (V-(rows.length+x.length))) el)) hb b1 I G rfl rfl rfl
       (by rw[a5];exact zQ7 _ a7) (λk m row q hk hq=>by
        have R:=Ji hq;rcases JcZ hk with hk|⟨aq,hk⟩
        ·have a0:=Ji hk;rw[I row (J0F hk)]at R;have ax:=J6f a0 R;have b9:=Jy7 I hk hq;obtain⟨w,hw,hrel⟩:=ae _ q b9;refine⟨w,?_,hrel.mono hi t0⟩;rw[Jr6 (by simp;omega)];simp;rw[J9Q (by omega)];exact hw
        ·rw[G row (J0F hk)]at R;have a0:=Ji hk;have ax:=J6f a0 R;obtain⟨w,hw,hrel⟩:=O _ m row q hk hq;have e4:k*esz+m=rows.length*esz+((k-rows.length)*esz+m):=by rw[<-Jd0,<-J4c,Nat.add_sub_cancel' aq]
         refine⟨w,?_,hrel.mono hi t0⟩;rw[Jr6 (by simp;omega)];simp;rw[J9O (by omega),<-hw];congr 1;omega)
      refine J2h (e:=⟨.slr b 0 (rows.length+x.length),[(b,.arr wm esz (rows++x))]⟩) (g':=g') (ab (by rw[T,am];exact B)) i' (t0.trans t') ?_;refine .slr b 0 _ _ wm esz (rows++x) ⟨_,_,rfl,.inr (by simp)⟩ (J16 hb) (by simp) λ_=>.inr ⟨_,V,_,el,(0,0),bu,by simp,a7,Jbq rfl,?_⟩;rw[zQ6,a5];exact zQ0 _
     cases rx with
     |slr _ _ _ _ wm' Y rows' q0 q1 q2 q3=>
      have q1:s.σ[b]?=some (.arr wm' Y rows'):=q1;rw[hb]at q1;injection q1 with q1;injection q1 with a1 a2 a3;subst a1 a2 a3
      rcases q3 (by omega)with⟨W,_,bc,hv⟩|⟨r,cap,cc,e1,fz,W,hv,bj,hh,a8⟩
      ·have af:rows=[]:=List.eq_nil_of_length_eq_zero bc;subst af;by_cases aa:x=[]
       ·subst aa;simp at U;subst U;subst hv;have B:(Builtin.append_ #[t,ut] o.type #[.slice none 0 0,a.eval y']).run P s.w=.ok (.slice none 0 0) s.w:=by exact J.nil rfl
        have L:s.σ.set b (.arr wm esz [])=s.σ:=by
         apply Jp5;intro k;by_cases hk:k=b
         ·subst hk;rw[J16 hb,hb]
         ·rw[J0t (Ne.symm hk)]
        refine J2h (e:=⟨.slr b 0 0,[(b,.arr wm esz [])]⟩) (g':=s.g) (ab (by rw[T];exact B)) ?_ ?_ ?_
        ·rw[Jsg,L];exact hi
        ·rw[Jsg,L];exact .refl s
        ·rw[Jsg,L];exact .slr b 0 0 _ wm esz [] ⟨none,0,rfl,.inl rfl⟩ hb (zQ0 _) λ_=>.inl ⟨W,rfl,rfl,rfl⟩
       ·refine grow (cap:=0) hv ?_;have:=List.length_pos_iff.2 aa;simpa using this
      ·subst hv;by_cases H:rows.length+x.length<=cap
       ·rcases hi.arr b _ _ _ hb with⟨D,_⟩|⟨r',c',e',c2,D,S,bt,hlen,c3,bb⟩
        ·rw[W]at D;cases D
        ·rw[W]at D;injection D with D;injection D with D _;subst D
         rw[hh]at S;injection S with S;injection S with w1 w2 w3;subst w1 w2 w3
         have bx:(rows.length+x.length)*esz<=cc.size:=by have:=zQ7 esz H;simp at a8;omega
         have bs:(rows.length+x.length)*esz=rows.length*esz+x.length*esz:=J4c _ _ _;have ac:=J8V (vs:=news) (o:=rows.length*esz) hh (by omega);obtain⟨i',t'⟩:=JQo hi hb W G ac U O;have B:=J.room r 0 rows.length cap H
          (λk hk=>by rw[J9p,J2C hh];simp;omega)
          (λk hk=>by
            have:=bb.1 (0+rows.length*esz+k) (by omega) (by omega);simp only[World.frozen?,hh];simpa using this)
         simp only[zQ6]at B;obtain⟨c0,e0,c4,b6,p1,p2,p3,p4,p5,p6⟩:=ac.there;rw[hh]at p1;injection p1 with p1;injection p1 with w1 w2 w3;subst w1 w2 w3
         refine J2h (e:=⟨.slr b 0 (rows.length+x.length),[(b,.arr wm esz (rows++x))]⟩) (ab (by rw[T];simpa using B)) i' t' ?_;refine .slr b 0 _ _ wm esz (rows++x) ⟨_,_,rfl,.inr (by simp)⟩ (J16 hb) (by simp) λ_=>.inr ⟨r,cap,b6,e1,fz,W,by simp,H,p2,by rw[p3];simpa using a8⟩
       ·exact grow (cap:=cap) rfl (by omega)
    ·cases h4
   ·cases A
  ·cases A
 ·cases A
theorem JGq(hi:Inv s){esz bytes:Nat}{zero:List PV}{u v:AV}{c:Call}{B A:Operand}{t ut el:TypeId}(x:o.op=.call c)(r:c.callee=.builtin .append)
  (h:c.args.toList=[B,A]) (n:c.argTypes.toList=[t,ut]) (z:((elT P ut).isSome||J6T P ut)=true) (k:elT P t=some el)
  (D:(szT P el==some esz&&byT P el==some bytes&&JbX P zero el&&zero.length==esz&&decide (0<esz)&&decide (0<bytes))=true)
  (E:JL s u (a.eval B)) (F:JL s v (a.eval A)) (y:(J8Q esz bytes u v).run ⟨env,s.σ⟩=some e):J1b P o a s e:=
 JA7 hi x r h n k D E (λ_ _ _ hs q C g j _ _ _ _ h3=>by obtain⟨news,w,h1,h2⟩:=JMO (u:=ut) hi h3 F (Bool.or_eq_true_iff.1 z);exact⟨news,Src.gen k hs q C g j w,h1,h2⟩) y
theorem JRg(hi:Inv s)(he:J0j s a.tmps env){esz bytes zero x y}(h:(opR F (.appz esz bytes zero x y) new).run ⟨env,s.σ⟩=some e)(hc:J01 P (.appz esz bytes zero x y) o.op=true):J1b P o a s e:=by
 simp only[opR]at h;obtain⟨u,h1,Z⟩:=bind_some h;obtain⟨v,h2,B⟩:=bind_some Z;clear h Z;unfold J01 at hc;simp only at hc;split at hc
 ·rename_i c Y;split at hc
  ·rename_i S;split at hc
   ·rename_i x' y' t ut G Q;simp only[J02]at hc;obtain⟨⟨⟨hx,hy⟩,I⟩,A⟩:=hc;split at A
    ·rename_i el J;split at I
     ·rename_i k hk;split at B
      ·rename_i c1 q;unfold zrs at q;split at q
       ·rename_i k' n;split at q
        case isFalse=>cases q
        rename_i hn;injection q with q;subst q;have ry:=J0b he h2 hy;obtain⟨m,rfl⟩: ∃m:Nat,n=(m:Int):=⟨n.toNat,by omega⟩;have hv:a.eval y'=.int k' (m:Int):=by generalize a.eval y'=v0 at ry;cases ry with|p _ _ h=>cases h with|i=>rfl
        refine JA7 hi Y S G Q J (by simpa only[J02]using A) (J0b he h1 hx) (λi z new hs R a2 D H hz a7 O M h3=>?_) B;simp only[J2B,if_pos,RM.run,Int.toNat_natCast]at h3;injection h3 with h3;subst h3;rw[JlR]at O M;simp only[J02,beq_iff_eq,decide_eq_true_eq]at A;obtain⟨⟨⟨⟨⟨_,_⟩,U⟩,T⟩,a4⟩,_⟩:=A;obtain⟨z',r,a5,L⟩:=J50 U;rw[hz]at r;injection r with r;subst r
        have N:z.cells.size=esz:=by omega
        have V: ∀(j:Nat) (u:Value),z.cells[j]?=some u-> ∃y:PV,zero[j]?=some y/\J0u s.w s.g.C y u:=by
         intro j u hu;have hj:j<zero.length:=by have:=(JL5.1 hu).1;omega
         exact⟨zero[j],JK hj,L j _ u (JK hj) hu⟩
        refine⟨(Builtin.zeroCells z.cells m).toList,?_,λrow hr=>by rw[(List.mem_replicate.1 hr).2];exact T,λi j row y E hy=>?_⟩
        ·rw[JlR,hv];refine JLC J hs R a2 D H N (λu hu=>?_) hk O M;obtain⟨j,hj⟩:=J9V hu;obtain⟨y,_,hr⟩:=V j u (by simpa using hj);exact hr.one
        ·have a0:i<m:=by
          have:=Ji E;simpa using this
         have hre:row=zero:=(List.mem_replicate.1 (J0F E)).2;subst hre;have hj:=Ji hy;have K:j<z.cells.size:=by omega
         refine⟨z.cells[j],?_,L j y _ hy (Jly K)⟩;have W:i*esz+j<m*esz:=J6f a0 (by omega);unfold Builtin.zeroCells;rw[JHE,Array.getElem?_map,N,Array.getElem?_range,if_pos W];have e:(i*esz+j)%esz=j:=by rw[JuP,Nat.mul_add_mod];exact Nat.mod_eq_of_lt (by omega)
         simp only[J1t,e];rw[getElem!_pos z.cells _ K]
       ·cases q
      ·cases B
     ·cases I
    ·cases A
   ·cases hc
  ·cases hc
 ·cases hc
theorem JRO(hi:Inv s)(he:J0j s a.tmps env){esz bytes zero x y}(h:(opR F (.app esz bytes zero x y) new).run ⟨env,s.σ⟩=some e)(hc:J01 P (.app esz bytes zero x y) o.op=true):J1b P o a s e:=by
 simp only[opR]at h;obtain⟨u,h1,w⟩:=bind_some h;obtain⟨v,h2,r⟩:=bind_some w;clear h w;unfold J01 at hc;simp only at hc;split at hc
 ·rename_i c q;split at hc
  ·rename_i n;split at hc
   ·rename_i C B t ut g j;simp only[J02]at hc;obtain⟨⟨⟨hx,hy⟩,z⟩,k⟩:=hc;split at k
    ·rename_i el A;exact JGq hi q n g j z A (by simpa only[J02]using k) (J0b he h1 hx) (J0b he h2 hy) r
    ·cases k
   ·cases hc
  ·cases hc
 ·cases hc
theorem JQY(hi:Inv s)(he:J0j s a.tmps env)(hn:s.σ[new]?=some .dead){esz bytes zero y}(h:(opR F (.appn esz bytes zero y) new).run ⟨env,s.σ⟩=some e)(hc:J01 P (.appn esz bytes zero y) o.op=true):J1b P o a s e:=by
 simp only[opR]at h;obtain⟨v,h2,K⟩:=bind_some h;obtain⟨rows,h3,h4⟩:=bind_some K;clear h K;unfold J01 at hc;simp only at hc;split at hc
 ·rename_i c J;split at hc
  ·rename_i H;split at hc
   ·rename_i Y t ut A D;simp only[J02]at hc;obtain⟨⟨hy,L⟩,E⟩:=hc;split at E
    ·rename_i el M;split at h4
     ·rename_i x;simp only[RM.run]at h4;injection h4 with h4;subst h4
      obtain⟨V,N⟩:=JrO hi hn esz;have j:(s.σ.set new (.arr true esz []))[new]?=some (.arr true esz []):=J16 hn;have T:JL ⟨s.σ.set new (.arr true esz []),J5r s.g new none,s.w⟩ (.slr new 0 0) (a.eval (.const (.slice none 0 0))):=
       .slr new 0 0 _ true esz [] ⟨none,0,rfl,.inl rfl⟩ j (zQ0 _) λ_=>.inl ⟨if_pos rfl,rfl,rfl,rfl⟩
      have U:=(J0b he h2 hy).mono hi N;have O:(J2B esz v).run ⟨env,s.σ.set new (.arr true esz [])⟩=some rows:=by
       cases v with
       |slr b i n=>
        simp only[J2B,RM.run]at h3⊢;by_cases hb:b=new
        ·subst hb;rw[hn]at h3;cases h3
        ·rw[J0t (Ne.symm hb)];cases hq:s.σ[b]? with
         |none=>rw[hq]at h3;cases h3
         |some B=>
          rw[hq]at h3;cases B with
          |arr w z W=>
           simp only at h3⊢;split at h3
           ·rename_i I;rw[if_pos I];exact h3
           ·cases h3
          |_=>cases h3
       |p c=>cases c<;>simp only[J2B]at h3⊢ <;>first|exact h3|(split at h3<;>rename_i I<;>first|(rw[if_pos I];exact h3)|cases h3)|cases h3
       |_=>cases h3
      have G:(J8Q esz bytes (.slr new 0 0) v).run ⟨env,s.σ.set new (.arr true esz [])⟩=some ⟨.slr new 0 rows.length,[(new,.arr true esz rows)]⟩:=by simp only[J8Q,RM.run,j,run_bind,O,JJ,List.length_nil,zQ6,Jc9];rw[if_pos ⟨by trivial,by trivial,by trivial,x⟩];rfl
      have ok:=JGq (s:=⟨s.σ.set new (.arr true esz []),J5r s.g new none,s.w⟩) V J H A D L M (by simpa only[J02]using E) T U G;intro next Q C;refine ok next Q λR w' g' q r k=>?_;have S:upd [(new,Blk.arr true esz rows)] (s.σ.set new (.arr true esz []))=upd [(new,Blk.arr true esz rows)] s.σ:=by simp only[Jsg,List.set_set]
      simp only at q r k;rw[S]at q r k;exact C R w' g' q (N.trans r) k
     ·cases h4
    ·cases E
   ·cases hc
  ·cases hc
 ·cases hc
theorem JQj(hi:Inv s)(he:J0j s a.tmps env)(hn:s.σ[new]?=some .dead){esz bytes zero x y}(h:(opR F (.appc esz bytes zero x y) new).run ⟨env,s.σ⟩=some e)(hc:J01 P (.appc esz bytes zero x y) o.op=true):J1b P o a s e:=by
 simp only[opR]at h;obtain⟨u,h1,h'⟩:=bind_some h;obtain⟨v,h2,C⟩:=bind_some h';clear h h';unfold J01 at hc;simp only at hc;split at hc
 ·rename_i c ao;split at hc
  ·rename_i a9;split at hc
   ·rename_i x' y' t ut T a5;simp only[J02]at hc;obtain⟨⟨⟨hx,hy⟩,af⟩,Q⟩:=hc;split at Q
    ·rename_i el ak;simp only[J02,beq_iff_eq,decide_eq_true_eq]at Q;obtain⟨⟨⟨⟨⟨hs,ag⟩,hz⟩,b4⟩,az⟩,Z⟩:=Q;obtain⟨i,D,aa⟩:=JrQ hs;obtain⟨z,ap,b6,b5⟩:=J50 hz;have A:=Jv7 ag D;have V:=Jyg ap D;have hm:c.args.map a.eval= #[a.eval x',a.eval y']:=by apply JaT;simp[T]
     have ab:c.argTypes= #[t,ut]:=by apply JaT;rw[a5]
     have au: ∀{q:Value} {w':World},(Builtin.append_ #[t,ut] o.type #[a.eval x',a.eval y']).run P s.w=.ok q w'->(execOp a.eval o).run P s.w=.ok (.value q) w':=by intro q w' hr;simp[execOp,ao,resolve,a9,hm,ab,invoke,builtin,hr]
     have U:=J0b he h1 hx;have ry:=J0b he h2 hy;unfold JFV at C;split at C
     ·rename_i ax rows;obtain⟨add,h3,h4⟩:=bind_some C;clear C;split at h4
      ·rename_i S;obtain⟨rfl,b3,G⟩:=S;simp only[RM.run]at h4;injection h4 with h4;subst h4
       have G:(2*(rows.length+add.length)+512)*bytes<=281474976710656:=by simpa[JaR]using G
       have av:rows.length+add.length<=281474976710656:=by have h5:(2*(rows.length+add.length)+512)*1<=(2*(rows.length+add.length)+512)*bytes:=Nat.mul_le_mul_left _ Z;omega
       obtain⟨news,W,E,R⟩:=JMO (u:=ut) hi h3 ry (Bool.or_eq_true_iff.1 af);have N:=Src.gen (t:=t) (ty:=o.type) ak hs D aa A V W;have aq:=N.newsLen;generalize an:a.eval x'=zz at U;cases U with
       |p _ _ U=>
        cases U with
        |slc _ _ base hrel=>
         have a1:=J6U.of_sl hrel;obtain⟨ad,ay,vs,hv,aw,n,O,Y,B⟩:=a1.cells;injection hv with v1 v2 v3;subst v1 v3;have a0:rows.length<rows.length+add.length:=by omega
         have a4:Builtin.nextslicecap (rows.length+add.length) rows.length*i.bytes<=281474976710656:=by have h5:=nextslicecap_le a0;rw[A];have h6:Builtin.nextslicecap (rows.length+add.length) rows.length*bytes<=(2*(rows.length+add.length)+512)*bytes:=zQ7 _ (by omega);omega
         have a7:(Builtin.firstCells esz rows.length (.slice base rows.length rows.length)).run P s.w.drew=.ok vs.toArray s.w.drew:=by
          rcases Y with a2|⟨r,o',rfl,ae⟩
          ·subst a2;simp at n;subst n;cases base with
           |none=>exact run_firstCells_none s.w.drew esz 0 0 0
           |some ad=>exact run_firstCells_some s.w.drew esz 0 ad 0 0 [] (by simp) (λj u h=>by simp at h)
          ·exact run_firstCells_some s.w.drew esz _ _ _ rows.length vs n (λj q hj=>by
            have:s.w.drew.cell? (Addr.add ⟨r,o',none⟩ j)=s.w.cell? (Addr.add ⟨r,o',none⟩ j):=by simp
            rw[this,Jb0,J9p];exact ae j q hj)
         have L:=N.grow base rows.length rows.length vs a7 a0 (by omega) (by rw[<-A];exact a4);have M:rows.length+add.length<=grownCap s.w (rows.length+add.length) rows.length el:=by unfold grownCap;simp[Question.cut]
         generalize grownCap s.w (rows.length+add.length) rows.length el=I at L M;have ac:z.cells.size=esz:=by omega
         obtain⟨i0,t0⟩:=Jrb (w':=s.w.drew) hi rfl rfl rfl;have K:((vs++news).toArray++Builtin.zeroCells z.cells (I-(rows.length+add.length))).size=I*esz:=by
          have:I*esz=(rows.length+add.length)*esz+(I-(rows.length+add.length))*esz:=by rw[<-J4c];congr 1;omega
          rw[this,J4c];simp[size_zeroCells,n,aq,ac]
         have hlen:(rows++add).length=rows.length+add.length:=JbN;obtain⟨g',i',t',r'⟩:=JlP (s0:=⟨s.σ,s.g,s.w.drew⟩) (new:=new) i0 hn (esz:=esz) (rows:=rows++add) (cap:=I) (w':=s.w.drew.alloc (.cells ((vs++news).toArray++Builtin.zeroCells z.cells (I-(rows.length+add.length))) el)) rfl rfl rfl
          (JgU.zero _ _)
          ⟨λrow hr=>(J2a.1 hr).elim (B row) (E row),by rw[K,hlen];exact zQ7 _ M,λk m row q hk hq=>by
            have H:=Ji hq;rcases JcZ hk with hk|⟨a3,hk⟩
            ·have J:=Ji hk;rw[B row (J0F hk)]at H;have a6:=J6f J H;have ah:=Jy7 B hk hq;obtain⟨w,hw,hrel⟩:=O _ q ah;refine⟨w,?_,hrel.mono hi t0⟩;rw[Jr6 (by simp;omega)];simp;rw[J9Q (by omega)];exact hw
            ·rw[E row (J0F hk)]at H;have J:=Ji hk;have a6:=J6f J H;obtain⟨w,hw,hrel⟩:=R _ m row q hk hq;have e4:k*esz+m=rows.length*esz+((k-rows.length)*esz+m):=by rw[<-Jd0,<-J4c,Nat.add_sub_cancel' a3]
             refine⟨w,?_,hrel.mono hi t0⟩;rw[Jr6 (by simp;omega)];simp;rw[J9O (by omega),<-hw];congr 1;omega⟩ (by rw[hlen];exact M) (by rw[K];exact zQ0 _)
         rw[hlen]at r';exact J2h (e:=⟨.slr new 0 (rows.length+add.length),[(new,.arr true esz (rows++add))]⟩) (g':=g') (au (by rw[an];exact L)) i' (t0.trans t') r'
      ·cases h4
     ·cases C
    ·cases Q
   ·cases hc
  ·cases hc
 ·cases hc
end
end Go.Am
end
section
namespace Go.Am
theorem JtW: ∀{e n:List KD} {xs g:List PV} {r:Bool},J1C (e++n) xs g=some r->
  ∃o j,J1C e (xs.take e.length) (g.take e.length)=some o/\J1C n (xs.drop e.length) (g.drop e.length)=some j/\r=(o&&j)
 |[],n,xs,g,r,h=>⟨true,r,by simp[J1C],by simpa using h,by simp⟩
 |k::e,n,xs,g,r,h=>by
  cases xs with
  |nil=>simp[J1C]at h
  |cons x xs=>
   cases g with
   |nil=>simp[J1C]at h
   |cons y g=>
    simp only[JiJ,J1C]at h;split at h
    ·rename_i a c ha hc;injection h with h;subst h;obtain⟨o,j,h1,h2,h3⟩:=JtW hc;exact⟨a&&o,j,by simp[J1C,ha,h1],by simpa using h2,by rw[h3,Bool.and_assoc]⟩
    ·cases h
theorem Jm1: ∀{ks:List KD} {xs e:List PV} {r:Bool},J1C ks xs e=some r->xs.length=ks.length/\e.length=ks.length
 |[],xs,e,r,h=>by cases xs<;>cases e<;>simp[J1C]at h⊢
 |k::ks,xs,e,r,h=>by
  cases xs with
  |nil=>simp[J1C]at h
  |cons x xs=>
   cases e with
   |nil=>simp[J1C]at h
   |cons y e=>
    simp only[J1C]at h;split at h
    ·rename_i a c ha hc;obtain⟨h1,h2⟩:=Jm1 hc;simp[h1,h2]
    ·cases h
section
variable {P:Program} {F:Orc} {s:Sn} {a:Act} {env:List (Nat×AV)} {o:Oper} {new:Nat} {e:Eff}
def JOS(P:Program)(t:TypeId)(vs:List Value)(X:Value):Prop:=(agT P t=some true/\X=.agg vs.toArray)\/(agT P t=some false/\ ∃v,vs=[v]/\X=v)
theorem Jiv{t:TypeId}{n off:Nat}{cs:Array Value}(hs:szT P t=some n)(k:off+n<=cs.size)(g:(agT P t=some true)\/(agT P t=some false/\n=1))(w:World):
  ∃X,(part t cs off).run P w=.ok X w/\JOS P t ((cs.toList.drop off).take n) X:=by
 rcases g with h|⟨h,rfl⟩
 ·refine⟨.agg (cs.extract off (off+n)),by simp[part,Jfe h,J2Q hs],.inl ⟨h,?_⟩⟩
  congr 1
  apply JaT;rw[Array.toList_extract];simp[List.extract]
 ·have e:off<cs.size:=by omega
  have j:cs[off]?=some cs[off]:=by simp[e]
  refine⟨cs[off],by simp[part,Jfe h,j],.inr ⟨h,cs[off],?_,rfl⟩⟩;have:cs.toList.drop off=cs[off]::cs.toList.drop (off+1):=by rw[List.drop_eq_getElem_cons (by simpa using e)];simp
  rw[this];rfl
def Jee(s:Sn)(xs:List PV)(vs:List Value):Prop:=xs.length=vs.length/\ ∀(i:Nat) x v,xs[i]?=some x->vs[i]?=some v->J0u s.w s.g.C x v
theorem Jee.take{xs vs}(h:Jee s xs vs)(n:Nat):Jee s (xs.take n) (vs.take n):=
 ⟨by simp[h.1],λi x v hx hv=>by
   rw[Jiz]at hx hv;split at hx
   ·rename_i hi;rw[if_pos hi]at hv;exact h.2 i x v hx hv
   ·cases hx⟩
theorem Jee.drop{xs vs}(h:Jee s xs vs)(n:Nat):Jee s (xs.drop n) (vs.drop n):=
 ⟨by simp[h.1],λi x v hx hv=>by
   rw[Jb3]at hx hv;exact h.2 _ x v hx hv⟩
def EqK(P:Program)(s:Sn)(d:Nat)(t:TypeId)(ks:List KD):Prop:= ∀(e:Nat) (w:World) (xs h:List PV) (vs g:List Value) (r:Bool) (X Y:Value),J1C ks xs h=some r->Jee s xs vs->Jee s h g->JOS P t vs X->JOS P t g Y->(Op.equalIn (d+e) t X Y).run P w=.ok r w
theorem JsY{d:Nat}{t:TypeId}{ks:List KD}(h:JaG P d t=some ks):agT P t=some true\/(agT P t=some false/\ks.length=1):=by
 cases d with
 |zero=>simp[JaG]at h
 |succ d=>
  unfold JaG at h;split at h<;>rename_i hu
  ·injection h with h;subst h;exact .inr ⟨by simp[agT,hu,Jgd],rfl⟩
  ·injection h with h;subst h;exact .inr ⟨by simp[agT,hu,Jgd],rfl⟩
  ·injection h with h;subst h;exact .inr ⟨by simp[agT,hu,Jgd],rfl⟩
  ·exact .inl (by simp[agT,hu,Jgd])
  ·exact .inl (by simp[agT,hu,Jgd])
  ·cases h
theorem JzP(d e:Nat)(B: ∀t ks,JaG P d t=some ks->EqK P s d t ks)(w:World){xs q:List PV}{vs o:List Value}(hx:Jee s xs vs)(hy:Jee s q o):
  ∀{fs:List Field} {off:Nat} {ks:List KD} {r:Bool},Jjg P (JaG P d) off fs=some ks->J1C ks (xs.drop off) (q.drop off)=some r->
   (Op.eqFields (d+e) vs.toArray o.toArray fs).run P w=.ok r w
 |[],off,ks,r,h,hc=>by
  simp[Jjg]at h;subst h;cases hxd:xs.drop off<;>cases hyd:q.drop off<;>simp[hxd,hyd,J1C]at hc;subst hc;simp[Op.eqFields]
 |f::fs,off,ks,r,h,hc=>by
  unfold Jjg at h;split at h
  ·cases h
  ·rename_i hn;have j:f.name≠ "_" :=λe=>hn (.inl e);have v:f.offset=off:=by
    by_cases h:f.offset=off
    ·exact h
    ·exact(hn (.inr h)).elim
   split at h
   ·cases h
   ·rename_i C k;split at h
    ·rename_i g;obtain⟨g,D⟩:=g;split at h
     ·rename_i L x;injection h with h;subst h;obtain⟨y,K,z,A,rfl⟩:=JtW hc;obtain⟨G,H⟩:=Jm1 z;rw[Jiy,JfJ]at G H;rw[JlY,JlY]at A;have n:=JsY k;obtain⟨X,E,I⟩:=Jiv (P:=P) (cs:=vs.toArray) (off:=off) g (by have:=hx.1;simp;omega) n w;obtain⟨Y,J,F⟩:=Jiv (P:=P) (cs:=o.toArray) (off:=off) g (by have:=hy.1;simp;omega) n w;have he:=B f.type C k e w _ _ _ _ y X Y z ((hx.drop off).take _) ((hy.drop off).take _) (by simpa using I) (by simpa using F);have ih:=JzP d e B w hx hy x A;simp only[Op.eqFields];rw[if_pos j];simp only[J5W,v,E,J,he,J5L,Sem.run_ite];cases y
      ·simp
      ·simp[ih]
     ·cases h
    ·cases h
theorem JDL(d e:Nat){t:TypeId}{ks:List KD}(x:EqK P s d t ks)(hk:JaG P d t=some ks)(g:szT P t=some ks.length)(j:0<ks.length)(w:World){xs n:List PV}{vs k:List Value}(hx:Jee s xs vs)(hy:Jee s n k):
  ∀{m i:Nat} {r:Bool},J1C (List.replicate m ks).flatten (xs.drop (i*ks.length)) (n.drop (i*ks.length))=some r->
   (Op.eqItems (d+e) t ks.length vs.toArray k.toArray (List.range' i m)).run P w=.ok r w
 |0,i,r,hc=>by
  simp only[List.replicate_zero,List.flatten_nil]at hc;cases hxd:xs.drop (i*ks.length)<;>cases hyd:n.drop (i*ks.length)<;>simp[hxd,hyd,J1C]at hc;subst hc;simp[Op.eqItems]
 |m+1,i,r,hc=>by
  rw[List.replicate_succ,J8S]at hc;obtain⟨o,A,q,v,rfl⟩:=JtW hc;obtain⟨B,C⟩:=Jm1 q;rw[Jiy,JfJ]at B C;rw[JlY,JlY]at v;have h:=JsY hk;obtain⟨X,y,D⟩:=Jiv (P:=P) (cs:=vs.toArray) (off:=i*ks.length) g (by have:=hx.1;simp;omega) h w;obtain⟨Y,E,z⟩:=Jiv (P:=P) (cs:=k.toArray) (off:=i*ks.length) g (by have:=hy.1;simp;omega) h w;have he:=x e w _ _ _ _ o X Y q ((hx.drop _).take _) ((hy.drop _).take _) (by simpa using D) (by simpa using z);have ih:=JDL d e x hk g j w hx hy (m:=m) (i:=i+1) (r:=A) (by
   have:(i+1)*ks.length=i*ks.length+ks.length:=by rw[J4c,JuB]
   rw[this];exact v)
  rw[List.range'_succ];simp only[Op.eqItems,J5W,y,E,he,J5L,Sem.run_ite];cases o
  ·simp
  ·simp[ih]
theorem eqK: ∀(d:Nat) (t:TypeId) (ks:List KD),JaG P d t=some ks->EqK P s d t ks
 |0,t,ks,h=>by simp[JaG]at h
 |d+1,t,ks,h=>by
  intro e w xs N vs O r X Y hc hx hy J I;have M:d+1+e=(d+e)+1:=by omega
  rw[M];have hl:=Jm1 hc;unfold JaG at h;have z: ∀{k:KD},agT P t=some false->ks=[k]-> ∃x y,xs=[x]/\N=[y]/\Jmg k x y=some r/\J0u s.w s.g.C x X/\J0u s.w s.g.C y Y:=by
   rintro k q rfl;obtain⟨x,rfl⟩:=JL9.1 hl.1;obtain⟨y,rfl⟩:=JL9.1 hl.2;rcases J with⟨j,_⟩|⟨_,v,rfl,rfl⟩
   ·rw[q]at j;cases j
   ·rcases I with⟨j,_⟩|⟨_,u,rfl,rfl⟩
    ·rw[q]at j;cases j
    ·refine⟨x,y,rfl,rfl,?_,hx.2 0 x _ rfl rfl,hy.2 0 y _ rfl rfl⟩;simp only[J1C]at hc;cases o:Jmg k x y with
     |none=>simp[o]at hc
     |some b=>simp[o]at hc;rw[hc]
  split at h<;>rename_i hu
  ·injection h with h;subst h;obtain⟨x,y,rfl,rfl,o,B,D⟩:=z (by simp[agT,hu,Jgd]) rfl;cases B<;>cases D<;>simp only[Jmg]at o<;>try (cases o;done)
   injection o with o;subst o;rw[run_equalIn_bool w (d+e) t _ _ hu]
  ·injection h with h;subst h;obtain⟨x,y,rfl,rfl,o,B,D⟩:=z (by simp[agT,hu,Jgd]) rfl;cases B<;>cases D<;>simp only[Jmg]at o<;>try (cases o;done)
   split at o
   ·rename_i hk;obtain⟨rfl,rfl⟩:=hk;injection o with o;subst o;rw[run_equalIn_int w (d+e) t _ _ _ _ hu]
   ·cases o
  ·injection h with h;subst h;obtain⟨x,y,rfl,rfl,o,B,D⟩:=z (by simp[agT,hu,Jgd]) rfl;cases B<;>cases D<;>simp only[Jmg]at o<;>try (cases o;done)
   injection o with o;subst o;rw[run_equalIn_string w (d+e) t _ _ hu,JzT,JzT]
  ·rename_i fs;split at h
   ·cases h
   ·rename_i L;have q:agT P t=some true:=by simp[agT,hu,Jgd]
    rcases J with⟨_,rfl⟩|⟨j,_⟩
    ·rcases I with⟨_,rfl⟩|⟨j,_⟩
     ·have G:P.fieldsOf t=fs:=by simp[Program.fieldsOf,hu]
      rw[run_equalIn_struct w (d+e) t _ _ (by rw[G];exact hu) (by simpa using L),G];exact JzP d e (λt ks hk=>eqK d t ks hk) w hx hy h (by simpa using hc)
     ·rw[q]at j;cases j
    ·rw[q]at j;cases j
  ·rename_i n el;split at h
   ·rename_i K F;split at h
    ·rename_i A;injection h with h;subst h;have q:agT P t=some true:=by simp[agT,hu,Jgd]
     rcases J with⟨_,rfl⟩|⟨j,_⟩
     ·rcases I with⟨_,rfl⟩|⟨j,_⟩
      ·obtain⟨i,hi,H⟩:=JrQ A.1;have E:P.cellsOf el=K.length:=by simp[Program.cellsOf,hi,H]
       rw[run_equalIn_array w (d+e) _ _ hu hi,E,List.range_eq_range'];exact JDL d e (eqK d el K F) F A.1 A.2 w hx hy (i:=0) (by simpa using hc)
      ·rw[q]at j;cases j
     ·rw[q]at j;cases j
    ·cases h
   ·cases h
  ·cases h
theorem JJ5(hi:Inv s)(he:J0j s a.tmps env){op ks x y}(h:(opR F (.bin op (.flat ks) x y) new).run ⟨env,s.σ⟩=some e)(hc:J01 P (.bin op (.flat ks) x y) o.op=true):J1b P o a s e:=by
 simp only[opR]at h;obtain⟨u,h1,E⟩:=bind_some h;obtain⟨v,h2,z⟩:=bind_some E;obtain⟨r,h3,rfl⟩:=J23 z;clear h E z;unfold J01 at hc;simp only at hc;split at hc
 ·rename_i N t B A ty D;simp only[J02,beq_iff_eq]at hc;obtain⟨⟨rfl,hx⟩,⟨⟨hy,hk⟩,k⟩,L⟩:=hc;have G:=J0b he h1 hx;have I:=J0b he h2 hy;generalize H:a.eval B=Q at G;generalize J:a.eval A=O at I;simp only[Je9]at h3;split at h3
  ·rename_i p q;cases G with
   |data _ vs M K=>
    cases I with
    |data _ j q1 q2=>
     have hb: ∃b,J1C ks p q=some b:=by
      cases hcm:J1C ks p q with
      |none=>rw[hcm]at h3;cases op<;>simp[J9L]at h3
      |some b=>exact⟨b,rfl⟩
     obtain⟨b,hb⟩:=hb;rw[hb]at h3;obtain⟨ho,rfl⟩:=J6t h3;have g:(eqGuard op t B A (.agg vs) (.agg j)).run P s.w=.ok () s.w:=run_eqGuard_agg s.w op t B A vs j (by simpa using L);have n:=eqK (P:=P) (s:=s) 100 t ks hk 9900 s.w p q vs.toList j.toList b (.agg vs) (.agg j) hb ⟨by simpa using M,λi x v hx hv=>K i x v hx (by simpa using hv)⟩ ⟨by simpa using q1,λi x v hx hv=>q2 i x v hx (by simpa using hv)⟩ (.inl ⟨k,by simp⟩) (.inl ⟨k,by simp⟩);have C:(binOp op t (.agg vs) (.agg j)).run P s.w=.ok (.bool (if op=.eql then b else !b)) s.w:=by
      rcases ho with rfl|rfl
      ·rw[run_eql_struct];rw[show(10000:Nat)=100+9900 from rfl,n];rfl
      ·rw[run_neq_struct];rw[show(10000:Nat)=100+9900 from rfl,n];rfl
     exact JG hi (by simp only[execOp,D,H,J];simp only[J5W,g,J5L,C,JaU]) (J61 _)
  ·cases h3
 ·cases hc
end
end Go.Am
end
section
namespace Go.Am
def get(s:St):Loc->Option (AV⊕Blk)
 | .slot n=>(lk n s.env).map .inl
 | .blk b=>(s.sto[b]?).map .inr
theorem JNn{α:Type}(m:RM α)(s s':St)(h: ∀l∈m.reads s,get s' l=get s l):m.run s'=m.run s:=by
 induction m with
 |ret a=>rfl
 |slot n k ih=>
  have e:=h (.slot n) (by simp[RM.reads]);have e:lk n s'.env=lk n s.env:=by simp only[get]at e;cases h1:lk n s'.env<;>cases h2:lk n s.env<;>simp_all
  simp only[RM.run,e];split
  ·rename_i v hv;exact ih v λl hl=>h l (by simp[RM.reads,hv,hl])
  ·rfl
 |blk b k ih=>
  have e:=h (.blk b) (by simp[RM.reads]);have e:s'.sto[b]?=s.sto[b]?:=by simp only[get]at e;cases h1:s'.sto[b]?<;>cases h2:s.sto[b]?<;>simp_all
  simp only[RM.run,e];split
  ·rename_i v hv;exact ih v λl hl=>h l (by simp[RM.reads,hv,hl])
  ·rfl
 |fail=>rfl
theorem J6h{b:Nat}: ∀{ws:List (Nat×Blk)},b∉ws.map (·.1)->J5c b ws=none
 |[],_=>rfl
 |(c,x)::r,h=>by
  simp at h;simp only[J5c];rw[J6h (by simpa using h.2)];simp;exact λe=>h.1 e.symm
theorem JvB{b:Nat}: ∀{ws:List (Nat×Blk)},b∈ws.map (·.1)-> ∃y,J5c b ws=some y
 |[],h=>by simp at h
 |(c,x)::r,h=>by
  simp only[J5c];by_cases hr:b∈r.map (·.1)
  ·obtain⟨y,hy⟩:=JvB hr;exact⟨y,by rw[hy]⟩
  ·rw[J6h hr];simp only[J0I,J3i]at h;rcases h with h|h
   ·exact⟨x,by simp[h]⟩
   ·exact absurd h hr
theorem Jd6: ∀(ws:List (Nat×Blk)) (σ:List Blk),(upd ws σ).length=σ.length
 |[],_=>rfl
 |y::ws,σ=>by show(upd ws (σ.set y.1 y.2)).length=_;rw[Jd6 ws];simp
theorem Jbj: ∀(ws:List (Nat×Blk)) (σ:List Blk) (b:Nat),b<σ.length->(upd ws σ)[b]?=match J5c b ws with
  |some y=>some y
  |none=>σ[b]?
 |[],σ,b,_=>rfl
 |(c,x)::ws,σ,b,h=>by
  show(upd ws (σ.set c x))[b]?=_;rw[Jbj ws (σ.set c x) b (by simpa using h)];simp only[J5c];cases hl:J5c b ws with
  |some y=>rfl
  |none=>
   by_cases hc:c=b
   ·subst hc;simp[h]
   ·simp[hc]
structure Run(F:Orc)(ins:List J1q)(new:Nat->Nat)(S:Nat->St)(eff:Nat->Eff):Prop where
 step: ∀k i,ins[k]?=some i->(J1o F i (new k)).run (S k)=some (eff k)/\S (k+1)=put i.dst (eff k) (S k)
structure JDz(F:Orc)(ins:List J1q)(new:Nat->Nat)(S:Nat->St)(eff:Nat->Eff)(i j:Nat):Prop where
 slotW: ∀x y m,ins[i]?=some x->ins[j]?=some y->x.dst=some m->y.dst≠some m/\Loc.slot m∉(J1o F y (new j)).reads (S j)
 slotR: ∀x y m,ins[i]?=some x->ins[j]?=some y->y.dst=some m->Loc.slot m∉(J1o F x (new i)).reads (S i)
 blkW: ∀y b,ins[j]?=some y->b∈(eff i).ws.map (·.1)->b∉(eff j).ws.map (·.1)/\Loc.blk b∉(J1o F y (new j)).reads (S j)
 blkR: ∀x b,ins[i]?=some x->b∈(eff j).ws.map (·.1)->Loc.blk b∉(J1o F x (new i)).reads (S i)
section
variable {F:Orc} {ins:List J1q} {new:Nat->Nat} {S:Nat->St} {eff:Nat->Eff}
def Jbz(ins:List J1q)(k:Nat):Option Nat:=(ins[k]?).bind (·.dst)
def Jci(ins:List J1q)(eff:Nat->Eff)(s0:St)(D:Nat->Bool):Nat->Nat->Option AV
 |0,m=>lk m s0.env
 |k+1,m=>if D k=true/\Jbz ins k=some m then some (eff k).val else Jci ins eff s0 D k m
def Je8(eff:Nat->Eff)(s0:St)(D:Nat->Bool):Nat->Nat->Option Blk
 |0,b=>s0.sto[b]?
 |k+1,b=>if D k=true then(match J5c b (eff k).ws with
   |some y=>some y
   |none=>Je8 eff s0 D k b)else Je8 eff s0 D k b
structure Agree(ins:List J1q)(eff:Nat->Eff)(s0:St)(D:Nat->Bool)(s:St):Prop where
 slot: ∀m,lk m s.env=Jci ins eff s0 D ins.length m
 len:s.sto.length=s0.sto.length
 blk: ∀b,b<s0.sto.length->s.sto[b]?=Je8 eff s0 D ins.length b
theorem JrZ(hr:Run F ins new S eff): ∀k,k<=ins.length->(S k).sto.length=(S 0).sto.length
 |0,_=>rfl
 |k+1,h=>by
  have hk:ins[k]?=some ins[k]:=JK (by omega);obtain⟨_,h2⟩:=hr.step k _ hk;rw[h2,<-JrZ hr k (by omega)];unfold put;split<;>simp[Jd6]
theorem JqV(hr:Run F ins new S eff)(D:Nat->Bool): ∀k,k<=ins.length->(∀j,j<k->D j=true)-> ∀m,Jci ins eff (S 0) D k m=lk m (S k).env
 |0,_,_,m=>rfl
 |k+1,h,hD,m=>by
  have hk:ins[k]?=some ins[k]:=JK (by omega);obtain⟨_,h2⟩:=hr.step k _ hk;simp only[Jci];rw[JqV hr D k (by omega) (λj hj=>hD j (by omega)) m,h2];have hd:Jbz ins k=ins[k].dst:=by simp[Jbz,hk]
  rw[hd];unfold put;cases hdk:ins[k].dst with
  |none=>simp
  |some d=>
   simp only[lk];by_cases hm:m=d
   ·subst hm;simp[hD k (by omega)]
   ·simp[hm,Ne.symm hm]
theorem Jv9(hr:Run F ins new S eff)(D:Nat->Bool): ∀k,k<=ins.length->(∀j,j<k->D j=true)-> ∀b,b<(S 0).sto.length->Je8 eff (S 0) D k b=(S k).sto[b]?
 |0,_,_,b,_=>rfl
 |k+1,h,hD,b,hb=>by
  have hk:ins[k]?=some ins[k]:=JK (by omega);obtain⟨_,h2⟩:=hr.step k _ hk;simp only[Je8];rw[Jv9 hr D k (by omega) (λj hj=>hD j (by omega)) b hb,h2,if_pos (hD k (by omega))];have:(put ins[k].dst (eff k) (S k)).sto=upd (eff k).ws (S k).sto:=by unfold put;split<;>rfl
  rw[this,Jbj _ _ _ (by rw[JrZ hr k (by omega)];exact hb)]
theorem JlB{s0:St}{D D':Nat->Bool}{m:Nat}: ∀n,(∀j,j<n->Jbz ins j=some m->D j=D' j)->Jci ins eff s0 D n m=Jci ins eff s0 D' n m
 |0,_=>rfl
 |n+1,h=>by
  simp only[Jci];rw[JlB n λj hj=>h j (by omega)];by_cases hd:Jbz ins n=some m
  ·rw[h n (by omega) hd]
  ·simp[hd]
theorem Jpd{s0:St}{D D':Nat->Bool}{b:Nat}: ∀n,(∀j,j<n->b∈(eff j).ws.map (·.1)->D j=D' j)->Je8 eff s0 D n b=Je8 eff s0 D' n b
 |0,_=>rfl
 |n+1,h=>by
  simp only[Je8];rw[Jpd n λj hj=>h j (by omega)];by_cases hd:b∈(eff n).ws.map (·.1)
  ·rw[h n (by omega) hd]
  ·rw[J6h hd];simp
theorem Jij{s0:St}{D:Nat->Bool}{m k:Nat}: ∀n,k<=n->(∀j,k<=j->j<n->Jbz ins j=some m->D j=false)->Jci ins eff s0 D n m=Jci ins eff s0 D k m
 |0,h,_=>by have:k=0:=by omega
            subst this;rfl
 |n+1,h,hD=>by
  by_cases hk:k=n+1
  ·subst hk;rfl
  ·simp only[Jci];rw[Jij n (by omega) λj h1 h2=>hD j h1 (by omega)];by_cases hd:Jbz ins n=some m
   ·rw[hD n (by omega) (by omega) hd];simp
   ·simp[hd]
theorem Jmj{s0:St}{D:Nat->Bool}{b k:Nat}: ∀n,k<=n->(∀j,k<=j->j<n->b∈(eff j).ws.map (·.1)->D j=false)->Je8 eff s0 D n b=Je8 eff s0 D k b
 |0,h,_=>by have:k=0:=by omega
            subst this;rfl
 |n+1,h,hD=>by
  by_cases hk:k=n+1
  ·subst hk;rfl
  ·simp only[Je8];rw[Jmj n (by omega) λj h1 h2=>hD j h1 (by omega)];by_cases hd:b∈(eff n).ws.map (·.1)
   ·rw[hD n (by omega) (by omega) hd];simp
   ·rw[J6h hd];simp
theorem JPa(hr:Run F ins new S eff){D:Nat->Bool}{s:St}(ha:Agree ins eff (S 0) D s){k:Nat}{i:J1q}(hk:ins[k]?=some i)(x:D k=false)
  (v: ∀j,j<k->D j=false->JDz F ins new S eff j k) (q: ∀j,k<j->j<ins.length->D j=true->JDz F ins new S eff k j):
  (J1o F i (new k)).run s=some (eff k)/\Agree ins eff (S 0) (λj=>if j=k then true else D j) (put i.dst (eff k) s):=by
 have A:k<ins.length:=by
  rcases zQ1 k ins.length with h|h
  ·exact h
  ·simp[zQ3 h]at hk
 have o: ∀j,j<ins.length->ins[j]?=some ins[j]! :=λj hj=>by simp[hj]
 have r: ∀j,j<ins.length->Jbz ins j=ins[j]!.dst:=λj hj=>by simp[Jbz,hj]
 obtain⟨h1,h2⟩:=hr.step k i hk;have hdk:Jbz ins k=i.dst:=by simp[Jbz,hk]
 let T:Nat->Bool:=λ_=>true
 have reads: ∀l∈(J1o F i (new k)).reads (S k),get s l=get (S k) l:=by
  intro l hl;cases l with
  |slot m=>
   simp only[get];rw[ha.slot m]
   congr 1
   rw[Jij ins.length (k:=k) (by omega) λj w g hd=>?_]
   ·rw[JlB (D':=T) k λj hj hd=>?_,JqV hr T k (by omega) (λ_ _=>rfl) m];cases hDj:D j with
    |true=>rfl
    |false=>
     have:=(v j hj hDj).slotW _ i m (o j (by omega)) hk (by rw[<-r j (by omega)];exact hd);exact absurd hl this.2
   ·by_cases n:j=k
    ·subst n;exact x
    ·cases hDj:D j with
     |false=>rfl
     |true=>
      have:=(q j (by omega) g hDj).slotR i _ m hk (o j g) (by rw[<-r j g];exact hd);exact absurd hl this
  |blk b=>
   simp only[get];by_cases hb:b<(S 0).sto.length
   ·rw[ha.blk b hb]
    congr 1
    rw[Jmj ins.length (k:=k) (by omega) λj w g hd=>?_]
    ·rw[Jpd (D':=T) k λj hj hd=>?_,Jv9 hr T k (by omega) (λ_ _=>rfl) b hb];cases hDj:D j with
     |true=>rfl
     |false=>exact absurd hl ((v j hj hDj).blkW i b hk hd).2
    ·by_cases n:j=k
     ·subst n;exact x
     ·cases hDj:D j with
      |false=>rfl
      |true=>exact absurd hl ((q j (by omega) g hDj).blkR i b hk hd)
   ·rw[zQ3 (by have:=ha.len;omega),zQ3 (by have:=JrZ hr k (by omega);omega)]
 refine⟨by rw[JNn _ (S k) s reads,h1],?_,?_,?_⟩
 ·intro m;have z:lk m (put i.dst (eff k) s).env=if i.dst=some m then some (eff k).val else lk m s.env:=by
   unfold put;cases i.dst with
   |none=>simp
   |some d=>simp only[lk];by_cases hm:m=d<;>simp[hm,Ne.symm]<;>exact λe=>absurd e.symm hm
  rw[z,ha.slot m];by_cases hm:i.dst=some m
  ·rw[if_pos hm];rw[Jij ins.length (k:=k+1) (by omega) λj w g hd=>?_]
   ·simp only[Jci];simp[hdk,hm]
   ·have n:j≠k:=by omega
    simp only[if_neg n];cases hDj:D j with
    |false=>rfl
    |true=>
     have:=(q j (by omega) g hDj).slotW i _ m hk (o j g) hm;exact absurd (by rw[<-r j g];exact hd) this.1
  ·rw[if_neg hm];refine JlB _ λj hj hd=>?_;have n:j≠k:=by rintro rfl;rw[hdk]at hd;exact hm hd
   simp[n]
 ·have:(put i.dst (eff k) s).sto=upd (eff k).ws s.sto:=by unfold put;split<;>rfl
  rw[this,Jd6,ha.len]
 ·intro b hb;have:(put i.dst (eff k) s).sto=upd (eff k).ws s.sto:=by unfold put;split<;>rfl
  rw[this,Jbj _ _ _ (by rw[ha.len];exact hb),ha.blk b hb];by_cases hw:b∈(eff k).ws.map (·.1)
  ·obtain⟨y,hy⟩:=JvB hw;simp only[hy];rw[Jmj (D:=λj=>if j=k then true else D j) ins.length (k:=k+1) (by omega) λj w g hd=>?_]
   ·simp only[Je8];simp[hy]
   ·have n:j≠k:=by omega
    simp only[if_neg n];cases hDj:D j with
    |false=>rfl
    |true=>exact absurd hd ((q j (by omega) g hDj).blkW _ b (o j g) hw).1
  ·rw[J6h hw];refine Jpd _ λj hj hd=>?_;have n:j≠k:=by rintro rfl;exact hw hd
   simp[n]
theorem JIX:Agree ins eff (S 0) (λ_=>false) (S 0):=by
 refine⟨λm=>?_,rfl,λb _=>?_⟩
 ·rw[Jij ins.length (k:=0) (zQ5 _) λ_ _ _ _=>rfl];rfl
 ·rw[Jmj ins.length (k:=0) (zQ5 _) λ_ _ _ _=>rfl];rfl
theorem JMX(hr:Run F ins new S eff){D:Nat->Bool}{s:St}(ha:Agree ins eff (S 0) D s)(hD: ∀j,j<ins.length->D j=true):
  (∀m,lk m s.env=lk m (S ins.length).env)/\s.sto=(S ins.length).sto:=by
 refine⟨λm=>by rw[ha.slot m,JqV hr D _ (zQ0 _) hD m],Jp5 λb=>?_⟩;by_cases hb:b<(S 0).sto.length
 ·rw[ha.blk b hb,Jv9 hr D _ (zQ0 _) hD b hb]
 ·rw[zQ3 (by have:=ha.len;omega),zQ3 (by have:=JrZ hr _ (zQ0 _);omega)]
end
end Go.Am
end
section
namespace Go.Am
def oSl:Opd->List Nat
 | .t n=>[n]
 | .c _=>[]
def J8h:List Opd->List Nat
 |[]=>[]
 |x::r=>oSl x++J8h r
def JKB:Option Opd->List Nat
 |none=>[]
 |some x=>oSl x
def J0S:AOp->List Nat
 | .mv x| .box _ x| .appn _ _ _ x| .load _ _ x| .nilchk x| .un _ x| .conv _ x| .faddr _ x| .field _ _ _ x| .extr x _| .len _ x=>oSl x
 | .mkarr _ _| .newbox _| .alen _=>[]
 | .pick c a b=>oSl c++(oSl a++oSl b)
 | .build _ parts=>J8h (parts.map (·.2.2))
 | .lits _ _ _ _ parts=>J8h (parts.map (·.2))
 | .store _ x v=>oSl x++oSl v
 | .bin _ _ x y| .iaddr _ x y| .aaddr _ _ x y| .sidx x y| .aidx _ _ _ x y| .app _ _ _ x y| .appz _ _ _ x y| .appc _ _ _ x y| .mm _ x y| .mkslice _ _ _ _ x y=>oSl x++oSl y
 | .slice _ x lo hi mx=>oSl x++(JKB lo++(JKB hi++JKB mx))
 | .call _ args _=>J8h args
 | .callv g args _=>oSl g++J8h args
 | .mkfn _ a b=>J8h a++J8h b
 | .newboxo _ _=>[]
 | .buildo _ parts _=>J8h (parts.map (·.2.2))
 | .storen _ x=>oSl x
 | .callo _ _ args _=>J8h args
def J8M(i:J1q):List Nat:=J0S i.op++match i.g with
 |some (g,_)=>[g]
 |none=>[]
def JuA:AOp->Bool
 | .mkarr _ _| .newbox _| .box _ _| .lits _ _ _ _ _| .store _ _ _| .conv (.toBytes _) _| .mkslice _ _ _ _ _ _| .slice (.sl _) _ _ _ _| .call _ _ _| .callv _ _ _| .app _ _ _ _ _| .appz _ _ _ _ _| .appc _ _ _ _ _| .appn _ _ _ _| .newboxo _ _| .buildo _ _ _| .storen _ _| .callo _ _ _ _=>true
 |_=>false
def JG9:AOp->Bool
 | .load _ _ _| .iaddr _ _ _| .conv .toStr _=>true
 |op=>JuA op
def Sl{α:Type}(L:List Nat)(m:RM α):Prop:= ∀s n,Loc.slot n∈m.reads s->n∈L
section
variable {α β:Type} {L:List Nat}
theorem JT(a:α):Sl L (.ret a):=λs n h=>by simp[RM.reads]at h
theorem Jw:Sl L (.fail:RM α):=λs n h=>by simp[RM.reads]at h
theorem J8E{b:Nat}{k:Blk->RM α}(h: ∀v,Sl L (k v)):Sl L (.blk b k):=λs n hn=>by
 simp only[RM.reads,J3i]at hn;rcases hn with hn|hn
 ·cases hn
 ·split at hn
  ·exact h _ s n hn
  ·simp at hn
theorem JKn{m:Nat}{k:AV->RM α}(hm:m∈L)(h: ∀v,Sl L (k v)):Sl L (.slot m k):=λs n hn=>by
 simp only[RM.reads,J3i]at hn;rcases hn with hn|hn
 ·cases hn;exact hm
 ·split at hn
  ·exact h _ s n hn
  ·simp at hn
theorem Jt{m:RM α}{f:α->RM β}(h:Sl L m)(hf: ∀a,Sl L (f a)):Sl L (m.bind f):=λs n hn=>by
 rw[J6d,J2a]at hn;rcases hn with hn|hn
 ·exact h s n hn
 ·cases hr:m.run s with
  |none=>simp[hr]at hn
  |some a=>simp[hr]at hn;exact hf a s n hn
theorem JQO{L':List Nat}{m:RM α}(h:Sl L m)(hl: ∀x∈L,x∈L'):Sl L' m:=λs n hn=>hl n (h s n hn)
theorem J1T{c:Prop} [Decidable c]{x y:RM α}(hx:Sl L x)(hy:Sl L y):Sl L (if c then x else y):=by split<;>assumption
end
theorem J1c{L:List Nat}(x:Opd)(h: ∀n∈oSl x,n∈L):Sl L (ev x):=by
 cases x with
 |t n=>exact JKn (h n (by simp[oSl])) λv=>JT v
 |c v=>exact JT v
theorem Jkh{L:List Nat}: ∀(xs:List Opd),(∀n∈J8h xs,n∈L)->Sl L (evs xs)
 |[],_=>JT _
 |x::xs,h=>Jt (J1c x λn hn=>h n (by simp[J8h,hn])) λv=>Jt (Jkh xs λn hn=>h n (by simp[J8h,hn])) λvs=>JT _
theorem JGl{L:List Nat}(x:Option Opd)(h: ∀n∈JKB x,n∈L):Sl L (evo x):=by
 cases x with
 |none=>exact JT _
 |some x=>exact Jt (J1c x h) λv=>JT _
theorem J6k{L:List Nat}(x:Option AV):Sl L (val x):=by cases x<;>first|exact Jw|exact JT _
theorem JS3{L:List Nat}(x:AV):Sl L (fz.fz1 x):=by
 cases x<;>try exact Jw
 ·exact JT _
 ·refine J8E λv=>?_;cases v<;>first|exact Jw|exact J1T (JT _) Jw
theorem JNa{L:List Nat}: ∀(xs:List AV),Sl L (fz.fzL xs)
 |[]=>JT _
 |x::xs=>Jt (JS3 x) λ_=>Jt (JNa xs) λ_=>JT _
theorem Jwd{L:List Nat}(x:AV):Sl L (fz x):=by
 cases x<;>try first|exact Jw|exact JT _
 ·exact JNa _
 ·refine J8E λv=>?_;cases v<;>first|exact Jw|exact J1T (JT _) Jw
theorem JNt{L:List Nat}: ∀(xs:List Opd),(∀n∈J8h xs,n∈L)->Sl L (fzs xs)
 |[],_=>JT _
 |x::xs,h=>Jt (J1c x λn hn=>h n (by simp[J8h,hn])) λv=>Jt (Jwd v) λ_=>Jt (JNt xs λn hn=>h n (by simp[J8h,hn])) λ_=>JT _
theorem Jhc{L:List Nat}(esz:Nat)(x:AV):Sl L (J2B esz x):=by
 unfold J2B;split
 ·exact J1T (JT _) Jw
 ·exact J1T (JT _) Jw
 ·refine J8E λv=>?_;cases v<;>first|exact Jw|exact J1T (JT _) Jw
 ·exact Jw
theorem JO1{L:List Nat}(agg:Bool)(size:Nat)(x:AV):Sl L (J4v agg size x):=by
 unfold J4v;split
 ·split
  ·exact J6k _
  ·exact Jw
 ·refine J8E λv=>?_;cases v<;>try exact Jw
  dsimp only;split
  ·exact J6k _
  ·exact Jw
 ·refine J8E λv=>?_;cases v<;>try exact Jw
  dsimp only;refine J1T ?_ Jw;split
  ·split
   ·exact J6k _
   ·exact Jw
  ·exact Jw
 ·exact Jw
theorem JzW{L:List Nat}(size:Nat)(x v:AV):Sl L (J43 size x v):=by
 unfold J43;split
 ·refine J8E λv=>?_;cases v<;>try exact Jw
  dsimp only;split
  ·refine J1T ?_ Jw;split
   ·exact JT _
   ·exact Jw
  ·exact Jw
 ·refine J8E λv=>?_;cases v with
  |arr w esz rows=>
   cases w
   ·exact Jw
   ·dsimp only;refine J1T ?_ Jw;split
    ·refine Jt (Jwd _) λ_=>J1T ?_ Jw;split
     ·exact JT _
     ·exact Jw
    ·exact Jw
  |_=>exact Jw
 ·exact Jw
theorem JMR{L:List Nat}(esz:Nat)(x i:AV):Sl L (J7a esz x i):=by
 unfold J7a;split
 ·refine J1T ?_ Jw;split
  ·exact JT _
  ·exact Jw
 ·refine J8E λv=>?_;cases v<;>first|exact Jw|exact J1T (JT _) Jw
 ·exact Jw
theorem JK7{L:List Nat}(esz bytes:Nat)(x y:AV):Sl L (J8Q esz bytes x y):=by
 unfold J8Q;split
 ·refine J8E λv=>?_;cases v<;>try exact Jw
  exact Jt (Jhc _ _) λ_=>J1T (JT _) Jw
 ·exact Jw
theorem Js4{L:List Nat}(ws:List (Nat×Blk))(b:Nat):Sl L (JiC ws b):=
 J8E λv=>by split<;>exact JT _
theorem Jfd{L:List Nat}(ws:List (Nat×Blk)): ∀(es acc:List Ent),Sl L (J4g ws es acc)
 |[],acc=>JT _
 | .whole b::r,acc=>Jt (Js4 ws b) λv=>by cases v<;>exact Jfd ws r _
 | .elem b e i::r,acc=>Jfd ws r acc
theorem JyK{L:List Nat}(x:AV):Sl L (J9X x):=by
 cases x<;>try first|exact Jw|exact JT _
 ·exact Jt (Jwd _) λ_=>JT _
 ·refine Jt (Jwd _) λa=>?_;split
  ·exact JT _
  ·exact Jw
theorem JDV{L:List Nat}: ∀(xs:List AV),Sl L (J7N xs)
 |[]=>JT _
 |x::xs=>Jt (JyK x) λ_=>Jt (JDV xs) λ_=>JT _
theorem JPn{L:List Nat}(ws:List (Nat×Blk))(ρ:Ent->Option Nat)(e:Ent):Sl L (Jme ws ρ e):=by
 cases e with
 |whole b=>
  refine Jt (Js4 ws b) λv=>?_;cases v
  ·exact Jw
  ·dsimp only;split
   ·exact JT _
   ·exact Jw
  ·exact JT _
 |elem b e i=>
  refine Jt (Js4 ws b) λv=>?_;cases v with
  |arr w esz rows=>
   cases w
   ·exact Jw
   ·dsimp only;refine J1T ?_ Jw;split
    ·exact JT _
    ·exact Jw
  |_=>exact Jw
theorem JqL{L:List Nat}(ws:List (Nat×Blk))(ρ:Ent->Option Nat): ∀(es:List Ent),Sl L (J5p ws ρ es)
 |[]=>JT _
 |e::r=>Jt (JPn ws ρ e) λ_=>Jt (JqL ws ρ r) λ_=>JT _
theorem JMT{L:List Nat}(ws:List (Nat×Blk))(es:List Ent)(new:Nat)(e:Ent)(x:Blk):Sl L (J8P ws es new e x):=by
 unfold J8P;split
 ·split
  ·exact JT _
  ·exact Jw
 ·exact JT _
 ·refine Jt (Js4 ws _) λv=>?_;cases v<;>try exact Jw
  dsimp only;split
  ·exact JT _
  ·exact Jw
 ·exact Jw
theorem JlG{L:List Nat}(ws:List (Nat×Blk))(es:List Ent)(new:Nat): ∀(e:List Ent) (x:List Blk),Sl L (J3r ws es new e x)
 |[],_=>JT _
 |_::_,[]=>Jw
 |e::r,x::l=>Jt (JMT ws es new e x) λ_=>Jt (JlG ws es new r l) λ_=>JT _
theorem JH6{L:List Nat}(F:Orc)(f:FuncId)(args:List AV)(k new:Nat):Sl L (J5O F f args k new):=by
 unfold J5O;refine Jt (JDV _) λa=>Jt (Jfd _ _ _) λe=>Jt (Jfd _ _ _) λes=>J1T ?_ Jw;split
 ·exact Jw
 ·refine Jt (JqL _ _ _) λblks=>?_;split
  ·exact Jw
  ·refine J1T ?_ Jw;split
   ·exact Jt (JlG _ _ _ _ _) λ_=>JT _
   ·exact Jw
theorem JMW{L:List Nat}(F:Orc)(f:FuncId)(a:List AV×List (Nat×Blk))(k new:Nat):Sl L (J2O F f a k new):=by
 unfold J2O;refine Jt (Jfd _ _ _) λe=>Jt (Jfd _ _ _) λes=>J1T ?_ Jw;split
 ·exact Jw
 ·refine Jt (JqL _ _ _) λblks=>?_;split
  ·exact Jw
  ·refine J1T ?_ Jw;split
   ·exact Jt (JlG _ _ _ _ _) λ_=>JT _
   ·exact Jw
theorem JlN{L:List Nat}: ∀(m:List Bool) (xs:List AV),Sl L (J3v m xs)
 |_,[]=>by cases ‹List Bool›<;>exact JT _
 |[],x::xs=>Jt (JyK x) λ_=>Jt (JlN [] xs) λ_=>JT _
 |true::m,x::xs=>Jt (JlN m xs) λ_=>JT _
 |false::m,x::xs=>Jt (JyK x) λ_=>Jt (JlN m xs) λ_=>JT _
theorem Jql{L:List Nat}: ∀(xs:List (Nat×Nat×Opd)),(∀n∈J8h (xs.map (·.2.2)),n∈L)->Sl L (J5E xs)
 |[],_=>JT _
 |(a,b,x)::xs,h=>by
  unfold J5E;refine Jt (J1c x λn hn=>h n (by simp[J8h,hn])) λv=>?_;split
  ·exact Jt (Jql xs λn hn=>h n (by simp[J8h,hn])) λ_=>JT _
  ·exact Jw
theorem JS4(F:Orc)(op:AOp)(new:Nat):Sl (J0S op) (opR F op new):=by
 cases op with
 |mv x=>exact Jt (J1c x λn h=>h) λv=>JT _
 |mkarr=>exact JT _
 |appn esz bytes zero y=>exact Jt (J1c y λn h=>h) λv=>Jt (Jhc _ _) λ_=>J1T (JT _) Jw
 |pick c a b=>
  refine Jt (J1c c λn h=>by simp[J0S,h]) λv=>?_;cases v with
  |p q=>cases q with
   |b x=>exact J1T (Jt (J1c a λn h=>by simp[J0S,h]) λ_=>JT _) (Jt (J1c b λn h=>by simp[J0S,h]) λ_=>JT _)
   |_=>exact Jw
  |_=>exact Jw
 |newbox=>exact JT _
 |box size x=>
  refine Jt (J1c x λn h=>h) λv=>?_;split
  ·exact J1T (JT _) Jw
  ·exact Jw
 |build zero parts=>
  refine Jt (Jql parts λn h=>h) λv=>?_;split
  ·exact J6k _
  ·exact Jw
 |lits own esz n zero parts=>
  refine Jt (JNt _ λn h=>h) λv=>?_;split
  ·exact J1T (JT _) (JT _)
  ·exact Jw
 |load agg size x=>exact Jt (J1c x λn h=>h) λv=>JO1 _ _ _
 |store size x y=>exact Jt (J1c x λn h=>by simp[J0S,h]) λv=>Jt (J1c y λn h=>by simp[J0S,h]) λ_=>JzW _ _ _
 |nilchk x=>
  refine Jt (J1c x λn h=>h) λv=>?_;cases v<;>first|exact JT _|exact Jw
 |bin op t x y=>exact Jt (J1c x λn h=>by simp[J0S,h]) λv=>Jt (J1c y λn h=>by simp[J0S,h]) λ_=>J6k _
 |un op x=>exact Jt (J1c x λn h=>h) λv=>J6k _
 |conv k x=>
  refine Jt (J1c x λn h=>h) λv=>?_;split
  ·exact JT _
  ·exact JT _
  ·refine Jt (Jhc _ _) λ_=>?_;split
   ·exact JT _
   ·exact Jw
  ·exact J1T (JT _) (JT _)
  ·exact Jw
 |mkslice own esz bytes zero x y=>
  refine Jt (J1c x λn h=>by simp[J0S,h]) λv=>Jt (J1c y λn h=>by simp[J0S,h]) λu=>?_;split
  ·exact J1T (J1T (JT _) (JT _)) Jw
  ·exact Jw
 |slice k x lo hi mx=>
  refine Jt (J1c x λn h=>by simp[J0S,h]) λv=>Jt (JGl lo λn h=>by simp[J0S,h]) λ_=>Jt (JGl hi λn h=>by simp[J0S,h]) λ_=>Jt (JGl mx λn h=>by simp[J0S,h]) λ_=>?_;split
  ·refine Jt (Jwd _) λ_=>?_;split
   ·split
    ·exact JT _
    ·exact Jw
   ·exact Jw
  ·exact J6k _
 |faddr off x=>exact Jt (J1c x λn h=>h) λv=>J6k _
 |field agg off size x=>exact Jt (J1c x λn h=>h) λv=>J6k _
 |iaddr esz x y=>exact Jt (J1c x λn h=>by simp[J0S,h]) λv=>Jt (J1c y λn h=>by simp[J0S,h]) λ_=>JMR _ _ _
 |aaddr len esz x y=>exact Jt (J1c x λn h=>by simp[J0S,h]) λv=>Jt (J1c y λn h=>by simp[J0S,h]) λ_=>J6k _
 |sidx x y=>
  refine Jt (J1c x λn h=>by simp[J0S,h]) λv=>Jt (J1c y λn h=>by simp[J0S,h]) λu=>?_;split
  ·refine J1T ?_ Jw;split
   ·exact JT _
   ·exact Jw
  ·exact Jw
 |aidx agg len esz x y=>
  refine Jt (J1c x λn h=>by simp[J0S,h]) λv=>Jt (J1c y λn h=>by simp[J0S,h]) λu=>?_;split
  ·exact J1T (J6k _) Jw
  ·exact Jw
 |extr x i=>exact Jt (J1c x λn h=>h) λv=>J6k _
 |call f args k=>exact Jt (Jkh args λn h=>h) λv=>JH6 _ _ _ _ _
 |callv g args k=>
  refine Jt (J1c g λn h=>by simp[J0S,h]) λv=>?_;cases v<;>try exact Jw
  exact Jt (Jkh args λn h=>by simp[J0S,h]) λ_=>JH6 _ _ _ _ _
 |len str x=>exact Jt (J1c x λn h=>h) λv=>J6k _
 |alen n=>exact JT _
 |appz esz bytes zero x y=>
  refine Jt (J1c x λn h=>by simp[J0S,h]) λv=>Jt (J1c y λn h=>by simp[J0S,h]) λc=>?_;split
  ·exact JK7 _ _ _ _
  ·exact Jw
 |appc esz bytes zero x y=>
  refine Jt (J1c x λn h=>by simp[J0S,h]) λv=>Jt (J1c y λn h=>by simp[J0S,h]) λc=>?_;unfold JFV;split
  ·exact Jt (Jhc _ _) λ_=>J1T (JT _) Jw
  ·exact Jw
 |app esz bytes zero x y=>exact Jt (J1c x λn h=>by simp[J0S,h]) λv=>Jt (J1c y λn h=>by simp[J0S,h]) λ_=>JK7 _ _ _ _
 |mm mx x y=>exact Jt (J1c x λn h=>by simp[J0S,h]) λv=>Jt (J1c y λn h=>by simp[J0S,h]) λ_=>J6k _
 |mkfn f a b=>exact Jt (Jkh a λn h=>by simp[J0S,h]) λv=>Jt (Jkh b λn h=>by simp[J0S,h]) λ_=>JT _
 |newboxo=>exact JT _
 |buildo zero parts os=>
  refine Jt (Jql parts λn h=>h) λv=>?_;split
  ·split
   ·exact JT _
   ·exact Jw
  ·exact Jw
 |storen esz x=>exact Jt (J1c x λn h=>h) λv=>Jt (JzW _ _ _) λ_=>JT _
 |callo f keep args k=>exact Jt (Jkh args λn h=>h) λv=>Jt (JlN _ _) λ_=>JMW _ _ _ _ _
theorem JDS{L:List Nat}: ∀(k new:Nat),Sl L (Jf2 new k)
 |0,_=>JT _
 |k+1,new=>J8E λv=>by cases v<;>first|exact JDS k _|exact Jw
theorem JJJ(F:Orc)(i:J1q)(new:Nat):Sl (J8M i) (J1o F i new):=by
 have h:Sl (J8M i) (opD F i.op new):=Jt (JDS _ _) λ_=>JQO (JS4 F i.op new) λx hx=>by simp[J8M,hx]
 unfold J1o;split
 ·exact h
 ·rename_i g e j;refine JKn (by simp[J8M,j]) λv=>?_;split
  ·exact J1T h (JT _)
  ·exact JT _
  ·exact Jw
end Go.Am
end
section
namespace Go.Am
def W0(m:RM Eff):Prop:= ∀s e,m.run s=some e->e.ws=[]
def B0{α:Type}(m:RM α):Prop:= ∀s e,m.run s=some e-> ∀b,Loc.blk b∉m.reads s
theorem J6g(x:Option AV):W0 (val x):=λs e h=>by
 cases x with
 |none=>cases h
 |some v=>simp only[val,RM.run]at h;injection h with h;rw[<-h]
theorem J6u(v:AV):W0 (.ret ⟨v,[]⟩):=λs e h=>by simp only[RM.run]at h;injection h with h;rw[<-h]
theorem J1E:W0 .fail:=λs e h=>by cases h
theorem J10{α:Type}{m:RM α}{f:α->RM Eff}(h: ∀a,W0 (f a)):W0 (m.bind f):=λs e he=>by
 rw[run_bind]at he;cases hm:m.run s with
 |none=>rw[hm]at he;cases he
 |some a=>rw[hm]at he;exact h a s e he
theorem JGz{b:Nat}{k:Blk->RM Eff}(h: ∀v,W0 (k v)):W0 (.blk b k):=λs e he=>by
 simp only[RM.run]at he;split at he
 ·exact h _ s e he
 ·cases he
theorem Jfq{c:Prop} [Decidable c]{x y:RM Eff}(hx:W0 x)(hy:W0 y):W0 (if c then x else y):=by split<;>assumption
theorem JQC{g:Nat}{k:AV->RM Eff}(h: ∀v,W0 (k v)):W0 (.slot g k):=λs e he=>by
 simp only[RM.run]at he;split at he
 ·exact h _ s e he
 ·cases he
theorem J3s{α:Type}(a:α):B0 (.ret a):=λs e _ b h=>by simp[RM.reads]at h
theorem J5h{α:Type}:B0 (.fail:RM α):=λs e h=>by cases h
theorem J8I(x:Option AV):B0 (val x):=by cases x<;>first|exact J5h|exact J3s _
theorem J0X{α β:Type}{m:RM α}{f:α->RM β}(hm:B0 m)(h: ∀a,B0 (f a)):B0 (m.bind f):=λs e he b hb=>by
 rw[run_bind]at he;rw[J6d]at hb;cases hr:m.run s with
 |none=>rw[hr]at he;cases he
 |some a=>
  rw[hr]at he hb;rcases J2a.1 hb with hb|hb
  ·exact hm s a hr b hb
  ·exact h a s e he b (by simpa using hb)
theorem JvY{α:Type}{c:Prop} [Decidable c]{x y:RM α}(hx:B0 x)(hy:B0 y):B0 (if c then x else y):=by split<;>assumption
theorem J39(x:Opd):B0 (ev x):=by
 cases x with
 |t n=>exact λs e _ b h=>by simp only[ev,RM.reads,J3i]at h;rcases h with h|h;cases h;split at h<;>simp[RM.reads]at h
 |c v=>exact J3s _
theorem JRc{α:Type}{g:Nat}{k:AV->RM α}(h: ∀v,B0 (k v)):B0 (.slot g k):=λs e he b hb=>by
 simp only[RM.run]at he;simp only[RM.reads,J3i]at hb;rcases hb with hb|hb
 ·cases hb
 ·cases hl:lk g s.env with
  |none=>rw[hl]at he;cases he
  |some v=>
   rw[hl]at he hb;exact h v s e he b hb
theorem JDW: ∀xs:List Opd,B0 (evs xs)
 |[]=>J3s _
 |x::xs=>J0X (J39 x) λ_=>J0X (JDW xs) λ_=>J3s _
theorem JGT(x:Option Opd):B0 (evo x):=by
 cases x with
 |none=>exact J3s _
 |some x=>exact J0X (J39 x) λ_=>J3s _
theorem JzR: ∀(xs:List (Nat×Nat×Opd)),B0 (J5E xs)
 |[]=>J3s _
 |(a,b,x)::xs=>by
  unfold J5E;refine J0X (J39 x) λv=>?_;split
  ·exact J0X (JzR xs) λ_=>J3s _
  ·exact J5h
theorem JJD(lo hi mx:Option AV)(c:PV)(hc: ∀l,c≠.s l):J5w .str (.p c) lo hi mx=none:=by
 cases mx with
 |some _=>rfl
 |none=>cases c<;>first|rfl|exact absurd rfl (hc _)
theorem JRP(F:Orc)(op:AOp)(new:Nat)(h:JuA op=false):W0 (opR F op new):=by
 cases op with
 |mkarr=>cases h
 |newboxo=>cases h
 |buildo=>cases h
 |storen=>cases h
 |callo=>cases h
 |newbox=>cases h
 |box=>cases h
 |lits=>cases h
 |store=>cases h
 |mkslice=>cases h
 |call=>cases h
 |callv=>cases h
 |app=>cases h
 |appz=>cases h
 |appc=>cases h
 |appn=>cases h
 |mv x=>exact J10 λ_=>J6u _
 |pick c a b=>
  refine J10 λv=>?_;cases v with
  |p q=>cases q with
   |b x=>exact Jfq (J10 λ_=>J6u _) (J10 λ_=>J6u _)
   |_=>exact J1E
  |_=>exact J1E
 |build zero parts=>
  refine J10 λv=>?_;split
  ·exact J6g _
  ·exact J1E
 |load agg size x=>
  refine J10 λv=>?_;unfold J4v;split
  ·split
   ·exact J6g _
   ·exact J1E
  ·refine JGz λv=>?_;cases v<;>try exact J1E
   dsimp only;split
   ·exact J6g _
   ·exact J1E
  ·refine JGz λv=>?_;cases v<;>try exact J1E
   dsimp only;refine Jfq ?_ J1E;split
   ·split
    ·exact J6g _
    ·exact J1E
   ·exact J1E
  ·exact J1E
 |nilchk x=>
  refine J10 λv=>?_;cases v<;>first|exact J6u _|exact J1E
 |bin op t x y=>exact J10 λ_=>J10 λ_=>J6g _
 |un op x=>exact J10 λ_=>J6g _
 |conv k x=>
  refine J10 λv=>?_;split
  ·exact J6u _
  ·exact J6u _
  ·refine J10 λ_=>?_;split
   ·exact J6u _
   ·exact J1E
  ·cases h
  ·exact J1E
 |slice k x lo hi mx=>
  cases k with
  |sl esz=>cases h
  |str=>
   refine J10 λv=>J10 λ_=>J10 λ_=>J10 λ_=>?_;split
   ·rename_i b i n;intro s e he;exfalso;rw[run_bind]at he;cases h1:(fz (.slr b i n)).run s with
    |none=>rw[h1]at he;cases he
    |some y=>
     rw[h1]at he;have o: ∃g rw,y.1=[.sl g rw]:=by
      simp only[fz,RM.run]at h1;split at h1
      ·split at h1
       ·split at h1
        ·simp only[RM.run]at h1;injection h1 with h1;rw[<-h1];exact⟨_,_,rfl⟩
        ·cases h1
       ·cases h1
      ·cases h1
     obtain⟨g,j,hy⟩:=o;simp only[JJ,hy,JJD _ _ _ (.sl g j) (by simp)]at he;cases he
   ·exact J6g _
 |faddr off x=>exact J10 λ_=>J6g _
 |field agg off size x=>exact J10 λ_=>J6g _
 |iaddr esz x y=>
  refine J10 λv=>J10 λu=>?_;unfold J7a;split
  ·refine Jfq ?_ J1E;split
   ·exact J6u _
   ·exact J1E
  ·refine JGz λv=>?_;cases v<;>first|exact J1E|exact Jfq (J6u _) J1E
  ·exact J1E
 |aaddr len esz x y=>exact J10 λ_=>J10 λ_=>J6g _
 |sidx x y=>
  refine J10 λv=>J10 λu=>?_;split
  ·refine Jfq ?_ J1E;split
   ·exact J6u _
   ·exact J1E
  ·exact J1E
 |aidx agg len esz x y=>
  refine J10 λv=>J10 λu=>?_;split
  ·exact Jfq (J6g _) J1E
  ·exact J1E
 |extr x i=>exact J10 λ_=>J6g _
 |len str x=>exact J10 λ_=>J6g _
 |alen n=>exact J6u _
 |mm mx x y=>exact J10 λ_=>J10 λ_=>J6g _
 |mkfn f a b=>exact J10 λ_=>J10 λ_=>J6u _
theorem JSm(F:Orc)(op:AOp)(new:Nat)(h:JG9 op=false):B0 (opR F op new):=by
 cases op with
 |mkarr=>cases h
 |newboxo=>cases h
 |buildo=>cases h
 |storen=>cases h
 |callo=>cases h
 |newbox=>cases h
 |box=>cases h
 |lits=>cases h
 |store=>cases h
 |mkslice=>cases h
 |call=>cases h
 |callv=>cases h
 |app=>cases h
 |appz=>cases h
 |appc=>cases h
 |appn=>cases h
 |load=>cases h
 |iaddr=>cases h
 |mv x=>exact J0X (J39 x) λ_=>J3s _
 |pick c a b=>
  refine J0X (J39 c) λv=>?_;cases v with
  |p q=>cases q with
   |b x=>exact JvY (J0X (J39 a) λ_=>J3s _) (J0X (J39 b) λ_=>J3s _)
   |_=>exact J5h
  |_=>exact J5h
 |build zero parts=>
  refine J0X (JzR parts) λv=>?_;split
  ·exact J8I _
  ·exact J5h
 |nilchk x=>
  refine J0X (J39 x) λv=>?_;cases v<;>first|exact J3s _|exact J5h
 |bin op t x y=>exact J0X (J39 x) λ_=>J0X (J39 y) λ_=>J8I _
 |un op x=>exact J0X (J39 x) λ_=>J8I _
 |conv k x=>
  refine J0X (J39 x) λv=>?_;split
  ·exact J3s _
  ·exact J3s _
  ·cases h
  ·cases h
  ·exact J5h
 |slice k x lo hi mx=>
  cases k with
  |sl esz=>cases h
  |str=>
   refine J0X (J39 x) λv=>J0X (JGT lo) λ_=>J0X (JGT hi) λ_=>J0X (JGT mx) λ_=>?_;split
   ·rename_i b i n;intro s e he;exfalso;rw[run_bind]at he;cases h1:(fz (.slr b i n)).run s with
    |none=>rw[h1]at he;cases he
    |some y=>
     rw[h1]at he;have o: ∃g rw,y.1=[.sl g rw]:=by
      simp only[fz,RM.run]at h1;split at h1
      ·split at h1
       ·split at h1
        ·simp only[RM.run]at h1;injection h1 with h1;rw[<-h1];exact⟨_,_,rfl⟩
        ·cases h1
       ·cases h1
      ·cases h1
     obtain⟨g,j,hy⟩:=o;simp only[JJ,hy,JJD _ _ _ (.sl g j) (by simp)]at he;cases he
   ·exact J8I _
 |faddr off x=>exact J0X (J39 x) λ_=>J8I _
 |field agg off size x=>exact J0X (J39 x) λ_=>J8I _
 |aaddr len esz x y=>exact J0X (J39 x) λ_=>J0X (J39 y) λ_=>J8I _
 |sidx x y=>
  refine J0X (J39 x) λv=>J0X (J39 y) λu=>?_;split
  ·refine JvY ?_ J5h;split
   ·exact J3s _
   ·exact J5h
  ·exact J5h
 |aidx agg len esz x y=>
  refine J0X (J39 x) λv=>J0X (J39 y) λu=>?_;split
  ·exact JvY (J8I _) J5h
  ·exact J5h
 |extr x i=>exact J0X (J39 x) λ_=>J8I _
 |len str x=>exact J0X (J39 x) λ_=>J8I _
 |alen n=>exact J3s _
 |mm mx x y=>exact J0X (J39 x) λ_=>J0X (J39 y) λ_=>J8I _
 |mkfn f a b=>exact J0X (JDW a) λ_=>J0X (JDW b) λ_=>J3s _
theorem JNR{op:AOp}(h:JG9 op=false):JuA op=false:=by
 cases op<;>first|rfl|cases h|skip
 ·rename_i k x;cases k<;>first|rfl|cases h
 ·rename_i k x lo hi mx;cases k<;>first|rfl|cases h
theorem JR0{op:AOp}(h:JuA op=false):J5P op=0:=by
 cases op<;>first|rfl|cases h|skip
 rename_i k x;cases k<;>first|rfl|cases h
theorem Jyv(F:Orc)(i:J1q)(new:Nat)(h:JuA i.op=false):W0 (J1o F i new):=by
 have h1:W0 (opD F i.op new):=J10 λ_=>JRP F _ _ h;unfold J1o;split
 ·exact h1
 ·refine JQC λv=>?_;split
  ·exact Jfq h1 (J6u _)
  ·exact J6u _
  ·exact J1E
theorem JJv(F:Orc)(i:J1q)(new:Nat)(h:JG9 i.op=false):B0 (J1o F i new):=by
 have h1:B0 (opD F i.op new):=by unfold opD;rw[JR0 (JNR h)];exact J0X (J3s _) λ_=>JSm F _ _ h
 unfold J1o;split
 ·exact h1
 ·refine JRc λv=>?_;split
  ·exact JvY h1 (J3s _)
  ·exact J3s _
  ·exact J5h
end Go.Am
end
