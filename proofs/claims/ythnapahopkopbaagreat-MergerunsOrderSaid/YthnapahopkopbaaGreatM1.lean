/-
  Parts of a proof.
-/
import Derived.Calls
import Derived.LoopN
import Derived.KernelRfl
import Derived.Laws.Sem
import Derived.Laws.StructEq
import Derived.Laws.Cells
import Derived.Laws.Cover3
import Derived.Laws.Pointers
import Derived.Deep.AppendSrc
import Derived.Laws.MakeOwn
import Derived.Laws.BytesString
import Derived.DeepKeys
set_option linter.unusedSimpArgs false
set_option linter.unusedVariables false
section
namespace Go.Am
abbrev zOp:=Option
abbrev zQ0:= @Nat.le_refl
abbrev zQ1:= @Nat.le_trans
abbrev zQ2:= @Nat.zero_le
abbrev zQ3:= @Nat.lt_or_ge
abbrev zQ4:= @Nat.mul_le_mul_right
abbrev zQ5:= @List.mem_of_getElem?
abbrev zQ6:= @List.ext_getElem?
abbrev zQ7:= @List.mem_of_mem_drop
abbrev zQ8:= @Nat.add_mul
abbrev zQ9:= @List.getElem?_eq_getElem
abbrev JcE:= @List.getElem?_eq_none
abbrev J40:= @List.mem_cons
abbrev J2h:= @List.mem_append
abbrev J04:= @Bool.and_eq_true
abbrev Jks:= @Sem.run_bind
abbrev Jgj:= @Result.andThen_ok
abbrev J90:= @Option.map_eq_some_iff
abbrev JFV:= @Option.isSome_iff_exists
abbrev Jxl:= @Nat.add_assoc
abbrev Jxu:= @Array.ext'
abbrev JGp:= @Array.getElem?_toList
abbrev JeB:= @List.flatten_cons
abbrev J79:= @List.getElem?_map
abbrev J8R:= @Bool.false_eq_true
abbrev JBk:= @List.length_eq_one_iff
abbrev J8Q:= @List.getElem?_of_mem
abbrev JCg:= @Sem.run_pure
abbrev JGi:= @List.mem_of_mem_take
abbrev Jox:= @List.getElem?_set_self
abbrev Jx6:= @List.getElem?_set_ne
abbrev JFL:= @List.length_cons
abbrev JB0:= @Array.all_eq_true_iff_forall_mem
abbrev Jni:= @List.length_replicate
abbrev J9G:= @List.mem_map
abbrev JeV:= @List.getElem?_append_right
abbrev J6y:= @List.length_map
abbrev JhT:= @Nat.add_zero
abbrev JvY:= @List.drop_zero
abbrev JeI:= @Nat.zero_add
abbrev Jua:= @Array.getElem?_eq_getElem
abbrev J57:= @List.length_append
abbrev JoD:= @List.cons_append
abbrev Jus:= @List.getElem?_take
abbrev JEE:= @List.getElem?_drop
abbrev Jgo:= @List.length_take
abbrev JkW:= @List.length_drop
abbrev Jo7:= @List.drop_drop
abbrev JuL:= @Bool.not_eq_true'
abbrev JhM:= @Nat.sub_zero
abbrev J2K:= @Option.bind_eq_some_iff
abbrev J07:= @Option.bind_some
abbrev JwG:= @List.mem_cons_of_mem
abbrev Jo3:= @Bool.or_eq_true
abbrev J8U:= @List.append_assoc
abbrev JBM:= @List.take_append_drop
abbrev JIC:= @List.map_take
abbrev J1q:= @List.map_cons
abbrev JbW:= @List.append_nil
abbrev Jok:= @List.map_map
abbrev Jkk:= @List.map_append
abbrev J3n:= @Option.map_some
abbrev JhY:= @List.nil_append
abbrev JCi:= @List.all_eq_true
abbrev JC9:= @List.map_replicate
abbrev JaO:= @List.mem_singleton
abbrev JkM:= @List.getElem?_append_left
abbrev J3Z:= @List.getElem?_eq_some_iff
abbrev Jd3:= @Int.le_trans
abbrev Jam:= @List.getElem_mem
abbrev J0F:= @Int.le_refl
abbrev JEY:= @List.mem_or_eq_of_mem_set
abbrev J5w:= @List.mem_iff_getElem?
abbrev Jp6:= @Nat.pow_le_pow_right
abbrev JGk:= @List.take_succ_cons
abbrev JCm:= @List.length_flatten
theorem _root_.And.c{h g e:Prop}(x:h/\g/\e):e:=x.2.2
theorem _root_.And.d{g h j e:Prop}(x:g/\h/\j/\e):e:=x.2.2.2
theorem _root_.And.e{j k n h g:Prop}(x:j/\k/\n/\h/\g):g:=x.2.2.2.2
theorem _root_.And.g{j n o h k e:Prop}(x:j/\n/\o/\h/\k/\e):e:=x.2.2.2.2.2
theorem _root_.And.h{j n q g k o e:Prop}(x:j/\n/\q/\g/\k/\o/\e):e:=x.2.2.2.2.2.2
theorem _root_.And.i{h k o g j n q e:Prop}(x:h/\k/\o/\g/\j/\n/\q/\e):e:=x.2.2.2.2.2.2.2
theorem _root_.And.j{h n r g k q v o e:Prop}(x:h/\n/\r/\g/\k/\q/\v/\o/\e):e:=x.2.2.2.2.2.2.2.2
theorem _root_.And.k{h n r g j q w o v e:Prop}(x:h/\n/\r/\g/\j/\q/\w/\o/\v/\e):e:=x.2.2.2.2.2.2.2.2.2
inductive PV where
 |b (x:Bool)
 |i (k:IntKind) (n:Int)
 |s (l:List UInt8)
 |sl (esz:Nat) (rows:List (List PV))
 |np
 |nf
 |slc (esz:Nat) (rows:List (List PV))
 deriving Inhabited
inductive AV where
 |p (c:PV)
 |data (cs:List PV)
 |agg (cs:List AV)
 |tup (vs:List AV)
 |ptr (b off:Nat)
 |cp (cs:List PV) (off:Nat)
 |slr (b i n:Nat)
 |ep (b ext i off:Nat)
 |fn (f:FuncId) (first caps:List AV)
 |unk
 deriving Inhabited
inductive Blk where
 |dead
 |box (cs:List AV)
 |arr (w:Bool) (esz:Nat) (rows:List (List PV))
 deriving Inhabited
abbrev Res:=AV×List Blk
abbrev Orc:=FuncId->List AV->List Blk->Option Res
structure St where
 env:List (Nat×AV)
 sto:List Blk
def lk(n:Nat):List (Nat×AV)->Option AV
 |[]=>none
 |(m,v)::r=>if n=m then some v else lk n r
inductive RM(α:Type) where
 |ret (a:α)
 |slot (n:Nat) (k:AV->RM α)
 |blk (b:Nat) (k:Blk->RM α)
 |fail
def RM.bind{α β:Type}:RM α->(α->RM β)->RM β
 | .ret a,f=>f a
 | .slot n k,f=>.slot n λv=>(k v).bind f
 | .blk b k,f=>.blk b λv=>(k v).bind f
 | .fail,_=>.fail
def RM.run{α:Type}:RM α->St->Option α
 | .ret a,_=>some a
 | .slot n k,s=>match lk n s.env with
  |some v=>(k v).run s
  |none=>none
 | .blk b k,s=>match s.sto[b]? with
  |some v=>(k v).run s
  |none=>none
 | .fail,_=>none
inductive Loc where
 |slot (n:Nat)
 |blk (b:Nat)
 deriving DecidableEq
def RM.reads{α:Type}:RM α->St->List Loc
 | .ret _,_=>[]
 | .slot n k,s=>.slot n::match lk n s.env with
  |some v=>(k v).reads s
  |none=>[]
 | .blk b k,s=>.blk b::match s.sto[b]? with
  |some v=>(k v).reads s
  |none=>[]
 | .fail,_=>[]
def RM.of{α:Type}:Option α->RM α
 |some a=>.ret a
 |none=>.fail
inductive Opd where
 |t (n:Nat)
 |c (x:AV)
 deriving Inhabited
inductive KD where
 |b
 |i (k:IntKind)
 |s
 deriving DecidableEq
inductive BT where
 |plain
 |bool
 |flat (ks:List KD)
 |nils
 |nilp
 |nilf
 deriving DecidableEq
inductive CK where
 |int (k:IntKind)
 |same
 |toStr
 |toBytes (own:Bool)
 deriving DecidableEq
inductive SK where
 |str
 |sl (esz:Nat)
 deriving DecidableEq
inductive AOp where
 |mv (x:Opd)
 |mkarr (esz:Nat) (x:Opd)
 |pick (c a b:Opd)
 |newbox (zero:List PV)
 |box (size:Nat) (x:Opd)
 |build (zero:List PV) (parts:List (Nat×Nat×Opd))
 |lits (own:Bool) (esz n:Nat) (zero:List PV) (parts:List (Nat×Opd))
 |load (agg:Bool) (size:Nat) (x:Opd)
 |store (size:Nat) (x v:Opd)
 |nilchk (x:Opd)
 |bin (op:BinOp) (t:BT) (x y:Opd)
 |un (op:UnOp) (x:Opd)
 |conv (k:CK) (x:Opd)
 |mkslice (own:Bool) (esz bytes:Nat) (zero:List PV) (l c:Opd)
 |slice (k:SK) (x:Opd) (lo hi mx:Option Opd)
 |faddr (off:Nat) (x:Opd)
 |field (agg:Bool) (off size:Nat) (x:Opd)
 |iaddr (esz:Nat) (x i:Opd)
 |aaddr (len esz:Nat) (x i:Opd)
 |sidx (x i:Opd)
 |aidx (agg:Bool) (len esz:Nat) (x i:Opd)
 |extr (x:Opd) (i:Nat)
 |call (f:FuncId) (args:List Opd) (k:Nat)
 |callv (g:Opd) (args:List Opd) (k:Nat)
 |len (str:Bool) (x:Opd)
 |alen (n:Nat)
 |app (esz bytes:Nat) (zero:List PV) (x y:Opd)
 |appn (esz bytes:Nat) (zero:List PV) (y:Opd)
 |appz (esz bytes:Nat) (zero:List PV) (x y:Opd)
 |appc (esz bytes:Nat) (zero:List PV) (x y:Opd)
 |mm (mx:Bool) (x y:Opd)
 |mkfn (f:FuncId) (first caps:List Opd)
 |newboxo (zero:List PV) (os:List (Nat×Nat))
 |buildo (zero:List PV) (parts:List (Nat×Nat×Opd)) (os:List (Nat×Nat))
 |storen (esz:Nat) (x:Opd)
 |callo (f:FuncId) (keep:List Bool) (args:List Opd) (k:Nat)
 deriving Inhabited
structure J1w where
 op:AOp
 dst:Option Nat
 g:Option (Nat×Bool)
 deriving Inhabited
inductive J17 where
 |skip
 |bad
 |reg (draw:Bool) (pairs:List (Nat×Nat)) (ins:List J1w)
 |seq (a b:J17)
 |cond (c:Opd) (a b:J17)
 |block (id:Nat) (c:J17)
 |loop (live:List Nat) (c:J17)
 |lp (n:Nat) (live:List Nat) (c:J17)
 |scope (c:J17)
 |exit (id:Nat)
 |ret
 |keep (live:List Nat) (c:J17)
 |tidy (live:List Nat) (c:J17)
 |br (live:List Nat) (pre:J17) (c:Opd) (a b rest:J17)
 deriving Inhabited
inductive AX where
 |normal
 |exit (id:Nat)
 |ret
 deriving DecidableEq
abbrev Out:=AX×St
inductive Jin where
 |tmp (t:Nat)
 |cell (t:Nat) (agg:Bool) (size:Nat)
structure AFn where
 np:Nat
 nt:Nat
 body:J17
 res:List Jin
 fresh:Bool
structure Eff where
 val:AV
 ws:List (Nat×Blk)
def upd(ws:List (Nat×Blk))(sto:List Blk):List Blk:=ws.foldl (λs x=>s.set x.1 x.2) sto
def unp:List AV->Option (List PV)
 |[]=>some []
 | .p c::r=>match unp r with
  |some l=>some (c::l)
  |none=>none
 |_::_=>none
def cellsOf:AV->Option (List AV)
 | .p c=>some [.p c]
 | .data cs=>some (cs.map .p)
 | .agg cs=>some cs
 | .ptr b o=>some [.ptr b o]
 | .cp cs o=>some [.cp cs o]
 | .slr b i n=>some [.slr b i n]
 | .ep b e i o=>some [.ep b e i o]
 | .fn f a c=>some [.fn f a c]
 | .tup _=>none
 | .unk=>none
def J47(agg:Bool)(cs:List AV):Option AV:=
 if agg then
  match unp cs with
  |some l=>some (.data l)
  |none=>some (.agg cs)
 else match cs with
  |[x]=>some x
  |_=>none
def J4N(agg:Bool)(cs:List PV):Option AV:=
 if agg then some (.data cs)
 else match cs with
  |[x]=>some (.p x)
  |_=>none
def sub{α:Type}(cs:List α)(off size:Nat):Option (List α):=if off=0/\cs.length=size then some cs else if off+size<=cs.length then some ((cs.drop off).take size)else none
def spl{α:Type}(cs:List α)(off:Nat)(vs:List α):Option (List α):=if off=0/\cs.length=vs.length then some vs else if off+vs.length<=cs.length then some (cs.take off++vs++cs.drop (off+vs.length))else none
def fz:AV->RM (List PV×List (Nat×Blk))
 | .p c=>.ret ([c],[])
 | .data cs=>.ret (cs,[])
 | .slr b i n=>.blk b fun
  | .arr _ esz rows=>if i+n=rows.length then .ret ([.sl esz (rows.drop i)],[(b,.arr false esz rows)])else .fail
  |_=>.fail
 | .agg cs=>fzL cs
 |_=>.fail
where
 fzL:List AV->RM (List PV×List (Nat×Blk))
  |[]=>.ret ([],[])
  |x::r=>(fz1 x).bind λa=>(fzL r).bind λc=>.ret (a.1++c.1,a.2++c.2)
 fz1:AV->RM (List PV×List (Nat×Blk))
  | .p c=>.ret ([c],[])
  | .slr b i n=>.blk b fun
   | .arr _ esz rows=>if i+n=rows.length then .ret ([.sl esz (rows.drop i)],[(b,.arr false esz rows)])else .fail
   |_=>.fail
  |_=>.fail
def JiF:KD->PV->PV->Option Bool
 | .b,.b x,.b y=>some (x==y)
 | .i k,.i k' x,.i e y=>if k=k'/\k=e then some (x==y)else none
 | .s,.s x,.s y=>some (x==y)
 |_,_,_=>none
def J1K:List KD->List PV->List PV->Option Bool
 |[],[],[]=>some true
 |k::ks,x::xs,y::e=>match JiF k x y,J1K ks xs e with
  |some a,some c=>some (a&&c)
  |_,_=>none
 |_,_,_=>none
def JhO(op:BinOp)(k:IntKind)(x y:Int):Option PV:=
 if y<0 then none
 else match op with
  | .shl=>some (.i k (k.wrap (x*2^(min y.toNat k.bits))))
  | .shr=>some (.i k (x.fdiv (2^(min y.toNat k.bits))))
  |_=>none
def Jl3(op:BinOp)(k:IntKind)(x y:Int):Option PV:=
 match op with
 | .add=>some (.i k (k.wrap (x+y)))
 | .sub=>some (.i k (k.wrap (x-y)))
 | .mul=>some (.i k (k.wrap (x*y)))
 | .quo=>if y=0 then none else some (.i k (k.wrap (x.tdiv y)))
 | .rem=>if y=0 then none else some (.i k (x.tmod y))
 | .and=>some (.i k (k.wrap (BitVec.ofInt k.bits x&&&BitVec.ofInt k.bits y).toNat))
 | .or=>some (.i k (k.wrap (BitVec.ofInt k.bits x|||BitVec.ofInt k.bits y).toNat))
 | .xor=>some (.i k (k.wrap (BitVec.ofInt k.bits x^^^BitVec.ofInt k.bits y).toNat))
 | .eql=>some (.b (x==y))
 | .neq=>some (.b (x !=y))
 | .lss=>some (.b (decide (x<y)))
 | .leq=>some (.b (decide (x<=y)))
 | .gtr=>some (.b (decide (x>y)))
 | .geq=>some (.b (decide (x>=y)))
 |_=>none
def JkS(op:BinOp)(x y:List UInt8):Option PV:=
 match op with
 | .add=>if x.length+y.length<=4611686018427387904 then some (.s (x++y))else none
 | .eql=>some (.b (x==y))
 | .neq=>some (.b (!(x==y)))
 | .lss=>some (.b (Op.bytesLess x y))
 | .leq=>some (.b (Op.bytesLess x y||x==y))
 | .gtr=>some (.b (!(Op.bytesLess x y||x==y)))
 | .geq=>some (.b (!Op.bytesLess x y))
 |_=>none
def J8S(op:BinOp)(r:Option Bool):Option AV:=
 match op,r with
 | .eql,some x=>some (.p (.b x))
 | .neq,some x=>some (.p (.b (!x)))
 |_,_=>none
def Jww:BinOp->Option AV
 | .eql=>some .unk
 | .neq=>some .unk
 |_=>none
def JbS(op:BinOp)(t:BT)(x y:AV):Option AV:=
 match t with
 | .plain=>match x,y with
  | .p (.i k a),.p (.i k' c)=>match op with
   | .shl=>(JhO .shl k a c).map .p
   | .shr=>(JhO .shr k a c).map .p
   |_=>if k=k' then(Jl3 op k a c).map .p else none
  | .p (.s a),.p (.s c)=>(JkS op a c).map .p
  |_,_=>none
 | .bool=>match x,y with
  | .p (.b a),.p (.b c)=>J8S op (some (a==c))
  |_,_=>none
 | .flat ks=>match x,y with
  | .data a,.data c=>J8S op (J1K ks a c)
  |_,_=>none
 | .nils=>match x with
  | .p (.sl _ rows)=>match rows with
   |[]=>Jww op
   |_::_=>J8S op (some false)
  | .slr _ _ n=>if n=0 then Jww op else J8S op (some false)
  |_=>none
 | .nilp=>match x with
  | .p .np=>J8S op (some true)
  | .ptr _ _=>J8S op (some false)
  | .cp _ _=>J8S op (some false)
  | .ep _ _ _ _=>J8S op (some false)
  |_=>none
 | .nilf=>match x with
  | .p .nf=>J8S op (some true)
  | .fn _ _ _=>J8S op (some false)
  |_=>none
def unP(op:UnOp)(x:AV):Option AV:=
 match op,x with
 | .neg,.p (.i k n)=>some (.p (.i k (k.wrap (0-n))))
 | .xor,.p (.i k n)=>some (.p (.i k (k.wrap (BitVec.ofInt k.bits (if k.signed then -1 else k.max)^^^BitVec.ofInt k.bits n).toNat)))
 | .not,.p (.b x)=>some (.p (.b (!x)))
 | .not,.unk=>some .unk
 |_,_=>none
def J8F:List (List PV)->Option (List UInt8)
 |[]=>some []
 |[.i .u8 n]::r=>match J8F r with
  |some l=>some (UInt8.ofNat n.toNat::l)
  |none=>none
 |_::_=>none
def J5o(x:UInt8):List PV:=[.i .u8 x.toNat]
def J9L(esz:Nat):List (Nat×List PV)->List (List PV)->Option (List (List PV))
 |[],rows=>some rows
 |(i,c)::r,rows=>if c.length=esz/\i<rows.length then J9L esz r (rows.set i c)else none
def J6N:List (Nat×Nat×List AV)->List AV->Option (List AV)
 |[],cs=>some cs
 |(off,size,c)::r,cs=>
  if c.length=size then
   match spl cs off c with
   |some cs'=>J6N r cs'
   |none=>none
  else none
def ev:Opd->RM AV
 | .t n=>.slot n .ret
 | .c x=>.ret x
def evs:List Opd->RM (List AV)
 |[]=>.ret []
 |x::r=>(ev x).bind λv=>(evs r).bind λvs=>.ret (v::vs)
def val(x:Option AV):RM Eff:=
 match x with
 |some v=>.ret ⟨v,[]⟩
 |none=>.fail
def fzs:List Opd->RM (List (List PV)×List (Nat×Blk))
 |[]=>.ret ([],[])
 |x::r=>(ev x).bind λv=>(fz v).bind λa=>(fzs r).bind λc=>.ret (a.1::c.1,a.2++c.2)
def J6H(x:Option AV)(top e:Nat):Option Nat:=
 match x with
 |none=>some e
 |some (.p (.i _ n))=>if 0<=n/\n<=top then some n.toNat else none
 |some _=>none
def evo:Option Opd->RM (Option AV)
 |none=>.ret none
 |some x=>(ev x).bind λv=>.ret (some v)
def Ji8(n:Nat)(lo hi:Option AV):Option (Nat×Nat):=
 match J6H hi n n with
 |none=>none
 |some h=>match J6H lo h 0 with
  |none=>none
  |some l=>some (l,h)
def Jbz(x:AV)(lo hi:Option AV):Option AV:=
 match x with
 | .p (.s l)=>match Ji8 l.length lo hi with
  |some c=>some (.p (.s ((l.drop c.1).take (c.2-c.1))))
  |none=>none
 |_=>none
def JbF(esz:Nat)(x:AV)(lo hi:Option AV):Option AV:=
 match x with
 | .p (.sl e rows)=>if esz=e then
   match Ji8 rows.length lo hi with
   |some c=>some (.p (.sl esz ((rows.drop c.1).take (c.2-c.1))))
   |none=>none
  else none
 |_=>none
def JsW(esz:Nat)(x:AV)(lo hi:Option AV)(m:AV):Option AV:=
 match x,lo,hi,m with
 | .p (.sl e rows),none,some (.p (.i _ h)),.p (.i _ n)=>if esz=e/\h=rows.length/\n=rows.length then some (.p (.slc esz rows))else none
 |_,_,_,_=>none
def J5z(k:SK)(x:AV)(lo hi mx:Option AV):Option AV:=
 match mx with
 |some m=>match k with
  | .str=>none
  | .sl esz=>JsW esz x lo hi m
 |none=>match k with
  | .str=>Jbz x lo hi
  | .sl esz=>JbF esz x lo hi
def Jt8(rows:List (List PV))(n:Int):Option (List PV):=if 0<=n then rows[n.toNat]? else none
def J6R(esz:Nat)(x i:AV):RM Eff:=
 match x,i with
 | .p (.sl e rows),.p (.i _ n)=>
  if esz=e then
   match Jt8 rows n with
   |some row=>.ret ⟨.cp row 0,[]⟩
   |none=>.fail
  else .fail
 | .slr b j m,.p (.i _ n)=>.blk b fun
  | .arr _ e rows=>if esz=e/\j+m=rows.length/\0<=n/\n<m then .ret ⟨.ep b rows.length (j+n.toNat) 0,[]⟩else .fail
  |_=>.fail
 |_,_=>.fail
def JiJ(len esz:Nat)(x i:AV):Option AV:=
 match i with
 | .p (.i _ n)=>
  if 0<=n/\n<len then
   match x with
   | .ptr b off=>some (.ptr b (off+n.toNat*esz))
   | .cp cs off=>some (.cp cs (off+n.toNat*esz))
   | .ep b e j off=>some (.ep b e j (off+n.toNat*esz))
   |_=>none
  else none
 |_=>none
def JiA(off:Nat):AV->Option AV
 | .ptr b o=>some (.ptr b (o+off))
 | .cp cs o=>some (.cp cs (o+off))
 | .ep b e j o=>some (.ep b e j (o+off))
 |_=>none
def J4z(agg:Bool)(size:Nat):AV->RM Eff
 | .cp cs off=>match sub cs off size with
  |some l=>val (J4N agg l)
  |none=>.fail
 | .ptr b off=>.blk b fun
  | .box cs=>match sub cs off size with
   |some l=>val (J47 agg l)
   |none=>.fail
  |_=>.fail
 | .ep b ext i off=>.blk b fun
  | .arr _ _ rows=>if ext=rows.length then
    match rows[i]? with
    |some row=>match sub row off size with
     |some l=>val (J4N agg l)
     |none=>.fail
    |none=>.fail
   else .fail
  |_=>.fail
 |_=>.fail
def J3v:AV:=.tup []
def J42(size:Nat)(x v:AV):RM Eff:=
 match x with
 | .ptr b off=>.blk b fun
  | .box cs=>match cellsOf v with
   |some l=>if l.length=size then
    match spl cs off l with
    |some cs'=>.ret ⟨J3v,[(b,.box cs')]⟩
    |none=>.fail
    else .fail
   |none=>.fail
  |_=>.fail
 | .ep b ext i off=>.blk b fun
  | .arr true esz rows=>if ext=rows.length then
    match rows[i]? with
    |some row=>(fz v).bind λa=>
     if a.1.length=size/\(a.2.all λy=>y.1 !=b)then
      match spl row off a.1 with
      |some e=>.ret ⟨J3v,a.2++[(b,.arr true esz (rows.set i e))]⟩
      |none=>.fail
     else .fail
    |none=>.fail
   else .fail
  |_=>.fail
 |_=>.fail
def J9f(agg:Bool)(off size:Nat):AV->Option AV
 | .data cs=>match sub cs off size with
  |some l=>J4N agg l
  |none=>none
 | .agg cs=>match sub cs off size with
  |some l=>J47 agg l
  |none=>none
 |_=>none
def JsU(i:Nat):AV->Option AV
 | .tup vs=>vs[i]?
 |_=>none
def JtJ:Bool->AV->Option AV
 |true,.p (.s l)=>some (.p (.i .i64 l.length))
 |false,.p (.sl _ rows)=>some (.p (.i .i64 rows.length))
 |false,.slr _ _ n=>some (.p (.i .i64 n))
 |_,_=>none
def J2S(esz:Nat):AV->RM (List (List PV))
 | .p (.sl e rows)=>if esz=e then .ret rows else .fail
 | .p (.s l)=>if esz=1 then .ret (l.map J5o)else .fail
 | .slr b i n=>.blk b fun
  | .arr _ e rows=>if esz=e/\i+n=rows.length then .ret (rows.drop i)else .fail
  |_=>.fail
 |_=>.fail
def J8O(n bytes:Nat):Bool:=(2*n+512)*bytes<=281474976710656
def J8b(esz bytes:Nat)(x y:AV):RM Eff:=
 match x with
 | .slr b i n=>.blk b fun
  | .arr w e rows=>(J2S esz y).bind λnew=>
   if esz=e/\i=0/\n=rows.length/\J8O (n+new.length) bytes then
    .ret ⟨.slr b 0 (n+new.length),[(b,.arr w esz (rows++new))]⟩
   else .fail
  |_=>.fail
 |_=>.fail
def Jvx(esz bytes:Nat)(x y:AV)(new:Nat):RM Eff:=
 match x with
 | .p (.slc e rows)=>(J2S esz y).bind λadd=>
   if esz=e/\0<add.length/\J8O (rows.length+add.length) bytes then
    .ret ⟨.slr new 0 (rows.length+add.length),[(new,.arr true esz (rows++add))]⟩
   else .fail
 |_=>.fail
def zrs(esz:Nat)(zero:List PV):AV->Option AV
 | .p (.i _ n)=>if 0<=n then some (.p (.sl esz (List.replicate n.toNat zero)))else none
 |_=>none
def mmP(mx:Bool)(x y:AV):Option AV:=
 match x,y with
 | .p (.i k a),.p (.i _ c)=>some (.p (.i k (if mx then(if c>a then c else a)else(if c<a then c else a))))
 |_,_=>none
inductive Ent where
 |whole (b:Nat)
 |elem (b ext i:Nat)
 deriving DecidableEq
def Ent.id:Ent->Nat
 | .whole b=>b
 | .elem b _ _=>b
def JbB(e:Ent)(l:List Ent):List Ent:=if l.any (λx=>x==e)then l else l++[e]
def J11:AV->List Ent->List Ent
 | .ptr b _,l=>JbB (.whole b) l
 | .slr b _ _,l=>JbB (.whole b) l
 | .ep b e i _,l=>JbB (.elem b e i) l
 | .fn _ first caps,l=>entsOfL caps (entsOfL first l)
 | .agg cs,l=>entsOfL cs l
 | .tup cs,l=>entsOfL cs l
 |_,l=>l
where
 entsOfL:List AV->List Ent->List Ent
  |[],l=>l
  |x::r,l=>entsOfL r (J11 x l)
def J2k(e:Ent):List Ent->Nat->Option Nat
 |[],_=>none
 |x::r,k=>if x=e then some k else J2k e r (k+1)
def ren(ρ:Ent->Option Nat):AV->Option AV
 | .p c=>some (.p c)
 | .data cs=>some (.data cs)
 | .cp cs o=>some (.cp cs o)
 | .unk=>some .unk
 | .ptr b off=>(ρ (.whole b)).map λk=>.ptr k off
 | .ep b e i off=>(ρ (.elem b e i)).map λk=>.ptr k off
 | .slr b i n=>(ρ (.whole b)).map λk=>.slr k i n
 | .fn f first caps=>(renL ρ first).bind λa=>(renL ρ caps).map λc=>.fn f a c
 | .agg cs=>(renL ρ cs).map .agg
 | .tup cs=>(renL ρ cs).map .tup
where
 renL (ρ:Ent->Option Nat):List AV->Option (List AV)
  |[]=>some []
  |x::r=>match ren ρ x,renL ρ r with
   |some y,some l=>some (y::l)
   |_,_=>none
end Go.Am
end
section
namespace Go.Am
def J53:List Nat->Bool
 |[]=>true
 |x::r=> !(r.contains x)&&J53 r
def J6E(b:Nat):List (Nat×Blk)->Option Blk
 |[]=>none
 |(c,x)::r=>match J6E b r with
  |some y=>some y
  |none=>if c=b then some x else none
def JeD(ws:List (Nat×Blk))(b:Nat):RM Blk:=
 .blk b λx=>match J6E b ws with
  |some y=>.ret y
  |none=>.ret x
def J4e(ws:List (Nat×Blk)):List Ent->List Ent->RM (List Ent)
 |[],acc=>.ret acc
 | .whole b::r,acc=>(JeD ws b).bind fun
  | .box cs=>J4e ws r (J11.entsOfL cs acc)
  |_=>J4e ws r acc
 |_::r,acc=>J4e ws r acc
def J93:AV->RM (AV×List (Nat×Blk))
 | .slr b i n=>(fz (.slr b i n)).bind λa=>match a.1 with
  |[c]=>.ret (.p c,a.2)
  |_=>.fail
 | .agg cs=>(fz (.agg cs)).bind λa=>.ret (.data a.1,a.2)
 | .tup _=>.fail
 |v=>.ret (v,[])
def J7l:List AV->RM (List AV×List (Nat×Blk))
 |[]=>.ret ([],[])
 |x::r=>(J93 x).bind λa=>(J7l r).bind λc=>.ret (a.1::c.1,a.2++c.2)
def JgF(ws:List (Nat×Blk))(ρ:Ent->Option Nat):Ent->RM Blk
 | .whole b=>(JeD ws b).bind fun
  | .box cs=>match ren.renL ρ cs with
   |some l=>.ret (.box l)
   |none=>.fail
  | .arr w esz rows=>.ret (.arr w esz rows)
  | .dead=>.fail
 | .elem b ext i=>(JeD ws b).bind fun
  | .arr true _ rows=>if ext=rows.length then
    match rows[i]? with
    |some row=>.ret (.box (row.map .p))
    |none=>.fail
   else .fail
  |_=>.fail
def J5r(ws:List (Nat×Blk))(ρ:Ent->Option Nat):List Ent->RM (List Blk)
 |[]=>.ret []
 |e::r=>(JgF ws ρ e).bind λx=>(J5r ws ρ r).bind λl=>.ret (x::l)
def bk(es:List Ent)(new:Nat):AV->Option AV
 | .p c=>some (.p c)
 | .data cs=>some (.data cs)
 | .cp cs o=>some (.cp cs o)
 | .unk=>some .unk
 | .ptr k off=>if k<es.length then
   match es[k]? with
   |some (.whole b)=>some (.ptr b off)
   |some (.elem b e i)=>some (.ep b e i off)
   |none=>none
  else some (.ptr (new+(k-es.length)) off)
 | .slr k i n=>if k<es.length then
   match es[k]? with
   |some (.whole b)=>some (.slr b i n)
   |_=>none
  else some (.slr (new+(k-es.length)) i n)
 | .ep k e i off=>if k<es.length then
   match es[k]? with
   |some (.whole b)=>some (.ep b e i off)
   |_=>none
  else some (.ep (new+(k-es.length)) e i off)
 | .fn f first caps=>match bkL es new first,bkL es new caps with
  |some a,some c=>some (.fn f a c)
  |_,_=>none
 | .agg cs=>match bkL es new cs with
  |some l=>some (.agg l)
  |none=>none
 | .tup cs=>match bkL es new cs with
  |some l=>some (.tup l)
  |none=>none
where
 bkL (es:List Ent) (new:Nat):List AV->Option (List AV)
  |[]=>some []
  |x::r=>match bk es new x,bkL es new r with
   |some y,some l=>some (y::l)
   |_,_=>none
def Jai(ws:List (Nat×Blk))(es:List Ent)(new:Nat)(e:Ent)(x:Blk):RM (Nat×Blk):=
 match e,x with
 | .whole b,.box cs=>match bk.bkL es new cs with
  |some l=>.ret (b,.box l)
  |none=>.fail
 | .whole b,.arr w esz rows=>.ret (b,.arr w esz rows)
 | .elem b _ i,.box cs=>(JeD ws b).bind fun
  | .arr w esz rows=>match unp cs with
   |some row=>.ret (b,.arr w esz (rows.set i row))
   |none=>.fail
  |_=>.fail
 |_,_=>.fail
def J3A(ws:List (Nat×Blk))(es:List Ent)(new:Nat):List Ent->List Blk->RM (List (Nat×Blk))
 |[],_=>.ret []
 |e::r,x::l=>(Jai ws es new e x).bind λy=>(J3A ws es new r l).bind λg=>.ret (y::g)
 |_::_,[]=>.fail
def J36(es:List Ent)(new:Nat):Nat->List Blk->Option (List (Nat×Blk))
 |_,[]=>some []
 |k,.box cs::l=>match bk.bkL es new cs,J36 es new (k+1) l with
  |some c,some e=>some ((k,.box c)::e)
  |_,_=>none
 |k,.arr w esz rows::l=>match J36 es new (k+1) l with
  |some e=>some ((k,.arr w esz rows)::e)
  |none=>none
 |_,.dead::_=>none
def J5Q(F:Orc)(f:FuncId)(args:List AV)(k new:Nat):RM Eff:=
 (J7l args).bind λa=>
 (J4e a.2 (J11.entsOfL a.1 []) (J11.entsOfL a.1 [])).bind λh=>
 (J4e a.2 h h).bind λes=>
 if J53 (es.map Ent.id)then
  match ren.renL (λe=>J2k e es 0) a.1 with
  |none=>.fail
  |some g=>(J5r a.2 (λe=>J2k e es 0) es).bind λblks=>
   match F f g blks with
   |none=>.fail
   |some r=>if r.2.length=es.length+k then
    match bk es new r.1,J36 es new new (r.2.drop es.length)with
    |some v,some fresh=>(J3A a.2 es new es r.2).bind λj=>.ret ⟨v,a.2++j++fresh⟩
    |_,_=>.fail
    else .fail
 else .fail
def J5H:List (Nat×Nat×Opd)->RM (List (Nat×Nat×List AV))
 |[]=>.ret []
 |(off,size,x)::r=>(ev x).bind λv=>match cellsOf v with
  |some cs=>(J5H r).bind λl=>.ret ((off,size,cs)::l)
  |none=>.fail
def J56:List (Nat×Nat)->Nat->List (Nat×Blk)
 |[],_=>[]
 |(_,esz)::r,n=>(n,.arr true esz [])::J56 r (n+1)
def Jb6:List (Nat×Nat)->Nat->List AV->List AV
 |[],_,cs=>cs
 |(off,_)::r,n,cs=>Jb6 r (n+1) (cs.set off (.slr n 0 0))
def J3N:List Bool->List AV->RM (List AV×List (Nat×Blk))
 |_,[]=>.ret ([],[])
 |[],x::r=>(J93 x).bind λa=>(J3N [] r).bind λc=>.ret (a.1::c.1,a.2++c.2)
 |true::m,x::r=>(J3N m r).bind λc=>.ret (x::c.1,c.2)
 |false::m,x::r=>(J93 x).bind λa=>(J3N m r).bind λc=>.ret (a.1::c.1,a.2++c.2)
def J3d(F:Orc)(f:FuncId)(a:List AV×List (Nat×Blk))(k new:Nat):RM Eff:=
 (J4e a.2 (J11.entsOfL a.1 []) (J11.entsOfL a.1 [])).bind λh=>
 (J4e a.2 h h).bind λes=>
 if J53 (es.map Ent.id)then
  match ren.renL (λe=>J2k e es 0) a.1 with
  |none=>.fail
  |some g=>(J5r a.2 (λe=>J2k e es 0) es).bind λblks=>
   match F f g blks with
   |none=>.fail
   |some r=>if es.length<=r.2.length/\r.2.length<=es.length+k then
    match bk es new r.1,J36 es new new (r.2.drop es.length)with
    |some v,some fresh=>(J3A a.2 es new es r.2).bind λj=>.ret ⟨v,a.2++j++fresh⟩
    |_,_=>.fail
    else .fail
 else .fail
def opR(F:Orc)(op:AOp)(new:Nat):RM Eff:=
 match op with
 | .mv x=>(ev x).bind λv=>.ret ⟨v,[]⟩
 | .mkarr esz _=>.ret ⟨.slr new 0 0,[(new,.arr true esz [])]⟩
 | .pick c a b=>(ev c).bind fun
  | .p (.b x)=>if x then(ev a).bind λv=>.ret ⟨v,[]⟩else(ev b).bind λv=>.ret ⟨v,[]⟩
  |_=>.fail
 | .newbox zero=>.ret ⟨.ptr new 0,[(new,.box (zero.map .p))]⟩
 | .box size x=>(ev x).bind λv=>match cellsOf v with
  |some cs=>if cs.length=size then .ret ⟨.ptr new 0,[(new,.box cs)]⟩else .fail
  |none=>.fail
 | .build zero parts=>(J5H parts).bind λl=>match J6N l (zero.map .p)with
  |some cs=>val (J47 true cs)
  |none=>.fail
 | .lits own esz n zero parts=>(fzs (parts.map (·.2))).bind λa=>
  match J9L esz ((parts.map (·.1)).zip a.1) (List.replicate n zero)with
  |some rows=>if own then .ret ⟨.slr new 0 n,a.2++[(new,.arr true esz rows)]⟩else .ret ⟨.p (.sl esz rows),a.2⟩
  |none=>.fail
 | .load agg size x=>(ev x).bind λv=>J4z agg size v
 | .store size x y=>(ev x).bind λa=>(ev y).bind λv=>J42 size a v
 | .nilchk x=>(ev x).bind fun
  | .ptr b o=>.ret ⟨.ptr b o,[]⟩
  | .cp cs o=>.ret ⟨.cp cs o,[]⟩
  | .ep b e i o=>.ret ⟨.ep b e i o,[]⟩
  | .fn f u c=>.ret ⟨.fn f u c,[]⟩
  |_=>.fail
 | .bin op t x y=>(ev x).bind λa=>(ev y).bind λc=>val (JbS op t a c)
 | .un op x=>(ev x).bind λa=>val (unP op a)
 | .conv k x=>(ev x).bind λa=>match k,a with
  | .int k,.p (.i _ n)=>.ret ⟨.p (.i k (k.wrap n)),[]⟩
  | .same,.p (.s l)=>.ret ⟨.p (.s l),[]⟩
  | .toStr,a=>(J2S 1 a).bind λrows=>match J8F rows with
   |some l=>.ret ⟨.p (.s l),[]⟩
   |none=>.fail
  | .toBytes own,.p (.s l)=>if own then .ret ⟨.slr new 0 l.length,[(new,.arr true 1 (l.map J5o))]⟩else .ret ⟨.p (.sl 1 (l.map J5o)),[]⟩
  |_,_=>.fail
 | .mkslice own esz bytes zero l c=>(ev l).bind λa=>(ev c).bind λd=>match a,d with
  | .p (.i _ n),.p (.i _ m)=>
   if 0<=n/\n<=m/\bytes*m<=281474976710656/\m<=281474976710656 then
    if own then .ret ⟨.slr new 0 n.toNat,[(new,.arr true esz (List.replicate n.toNat zero))]⟩
    else .ret ⟨.p (.sl esz (List.replicate n.toNat zero)),[]⟩
   else .fail
  |_,_=>.fail
 | .slice k x lo hi mx=>(ev x).bind λa=>(evo lo).bind λlo=>(evo hi).bind λhi=>(evo mx).bind λmx=>
  match a with
  | .slr b i n=>(fz (.slr b i n)).bind λy=>match y.1 with
   |[c]=>match J5z k (.p c) lo hi mx with
    |some v=>.ret ⟨v,y.2⟩
    |none=>.fail
   |_=>.fail
  |a=>val (J5z k a lo hi mx)
 | .faddr off x=>(ev x).bind λa=>val (JiA off a)
 | .field agg off size x=>(ev x).bind λa=>val (J9f agg off size a)
 | .iaddr esz x i=>(ev x).bind λa=>(ev i).bind λc=>J6R esz a c
 | .aaddr len esz x i=>(ev x).bind λa=>(ev i).bind λc=>val (JiJ len esz a c)
 | .sidx x i=>(ev x).bind λa=>(ev i).bind λc=>match a,c with
  | .p (.s l),.p (.i _ n)=>if 0<=n then
    match l[n.toNat]? with
    |some u=>.ret ⟨.p (.i .u8 u.toNat),[]⟩
    |none=>.fail
   else .fail
  |_,_=>.fail
 | .aidx agg len esz x i=>(ev x).bind λa=>(ev i).bind λc=>match c with
  | .p (.i _ n)=>if 0<=n/\n<len then val (J9f agg (n.toNat*esz) esz a)else .fail
  |_=>.fail
 | .extr x i=>(ev x).bind λa=>val (JsU i a)
 | .call f args k=>(evs args).bind λvs=>J5Q F f vs k new
 | .callv g args k=>(ev g).bind fun
  | .fn f first caps=>(evs args).bind λvs=>J5Q F f (first++vs++caps) k new
  |_=>.fail
 | .len str x=>(ev x).bind λa=>val (JtJ str a)
 | .alen n=>.ret ⟨.p (.i .i64 n),[]⟩
 | .appn esz bytes _ y=>(ev y).bind λc=>(J2S esz c).bind λrows=>
  if J8O rows.length bytes then .ret ⟨.slr new 0 rows.length,[(new,.arr true esz rows)]⟩else .fail
 | .app esz bytes _ x y=>(ev x).bind λa=>(ev y).bind λc=>J8b esz bytes a c
 | .appz esz bytes zero x y=>(ev x).bind λa=>(ev y).bind λc=>match zrs esz zero c with
  |some h=>J8b esz bytes a h
  |none=>.fail
 | .appc esz bytes _ x y=>(ev x).bind λa=>(ev y).bind λc=>Jvx esz bytes a c new
 | .mm mx x y=>(ev x).bind λa=>(ev y).bind λc=>val (mmP mx a c)
 | .mkfn f first caps=>(evs first).bind λa=>(evs caps).bind λc=>.ret ⟨.fn f a c,[]⟩
 | .newboxo zero os=>.ret ⟨.ptr (new+os.length) 0,J56 os new++[(new+os.length,.box (Jb6 os new (zero.map .p)))]⟩
 | .buildo zero parts os=>(J5H parts).bind λl=>match J6N l (Jb6 os new (zero.map .p))with
  |some cs=>match J47 true cs with
   |some v=>.ret ⟨v,J56 os new⟩
   |none=>.fail
  |none=>.fail
 | .storen esz x=>(ev x).bind λa=>(J42 1 a (.slr new 0 0)).bind λe=>.ret ⟨e.val,(new,.arr true esz [])::e.ws⟩
 | .callo f keep args k=>(evs args).bind λvs=>(J3N keep vs).bind λa=>J3d F f a k new
def J7T:AOp->Nat
 | .newbox _| .box _ _| .mkarr _ _| .appn _ _ _ _| .appc _ _ _ _ _=>1
 | .lits own _ _ _ _=>if own then 1 else 0
 | .mkslice own _ _ _ _ _=>if own then 1 else 0
 | .conv (.toBytes own) _=>if own then 1 else 0
 | .call _ _ k| .callv _ _ k| .callo _ _ _ k=>k
 | .newboxo _ os=>os.length+1
 | .buildo _ _ os=>os.length
 | .storen _ _=>1
 |_=>0
def Jcp(new:Nat):Nat->RM Unit
 |0=>.ret ()
 |k+1=>.blk new fun
  | .dead=>Jcp (new+1) k
  |_=>.fail
def opD(F:Orc)(op:AOp)(new:Nat):RM Eff:=(Jcp new (J7T op)).bind λ_=>opR F op new
def J1C(F:Orc)(i:J1w)(new:Nat):RM Eff:=
 match i.g with
 |none=>opD F i.op new
 |some (g,e)=>.slot g fun
  | .p (.b x)=>if x=e then opD F i.op new else .ret ⟨J3v,[]⟩
  | .tup []=>.ret ⟨J3v,[]⟩
  |_=>.fail
def put(d:Option Nat)(e:Eff)(s:St):St:=
 match d with
 |some d=>⟨(d,e.val)::s.env,upd e.ws s.sto⟩
 |none=>⟨s.env,upd e.ws s.sto⟩
def J3l(F:Orc):List J1w->Nat->St->Option St
 |[],_,s=>some s
 |i::r,new,s=>match(J1C F i new).run s with
  |some e=>J3l F r (new+J7T i.op) (put i.dst e s)
  |none=>none
def J4Y:List Loc->List Nat
 |[]=>[]
 | .blk b::r=>b::J4Y r
 |_::r=>J4Y r
abbrev Log:=List (List Nat×List Nat)
def J50(F:Orc):List J1w->Nat->St->Log->Option (St×Log)
 |[],_,s,l=>some (s,l)
 |i::r,new,s,l=>match(J1C F i new).run s with
  |some e=>J50 F r (new+J7T i.op) (put i.dst e s) (l++[(J4Y ((J1C F i new).reads s),e.ws.map (·.1))])
  |none=>none
def J6Q(a b:List Nat):Bool:=a.all λx=> !(b.contains x)
def Jcv(l:Log):List (Nat×Nat)->Bool
 |[]=>true
 |(i,j)::r=>(match l[i]?,l[j]? with
  |some a,some b=>J6Q a.2 b.1&&J6Q a.2 b.2&&J6Q a.1 b.2
  |_,_=>false)&&Jcv l r
def news:List J1w->Nat
 |[]=>0
 |i::r=>J7T i.op+news r
def room(n:Nat)(sto:List Blk):List Blk:=if n=0 then sto else sto++List.replicate n .dead
def region(F:Orc)(pairs:List (Nat×Nat))(ins:List J1w)(s:St):Option St:=
 match pairs with
 |[]=>J3l F ins s.sto.length ⟨s.env,room (news ins) s.sto⟩
 |_::_=>match J50 F ins s.sto.length ⟨s.env,room (news ins) s.sto⟩ []with
  |some (s',l)=>if Jcv l pairs then some s' else none
  |none=>none
def restr:List Nat->List (Nat×AV)->List (Nat×AV)
 |[],_=>[]
 |k::r,env=>match lk k env with
  |some v=>(k,v)::restr r env
  |none=>restr r env
def J4W(b:Nat):List Nat->Nat->Option Nat
 |[],_=>none
 |x::r,k=>if x=b then some k else J4W b r (k+1)
def fin(m:Nat)(ids:List Nat)(sto:List Blk):AV->Option AV
 | .p c=>some (.p c)
 | .data cs=>some (.data cs)
 | .cp cs o=>some (.cp cs o)
 | .unk=>some .unk
 | .ptr b off=>if b<m then some (.ptr b off)else(J4W b ids m).map λk=>.ptr k off
 | .slr b i n=>if b<m then some (.slr b i n)else
  match J4W b ids m with
  |some k=>some (.slr k i n)
  |none=>match sto[b]? with
   |some (.arr _ esz rows)=>if i+n=rows.length then some (.p (.sl esz (rows.drop i)))else none
   |_=>none
 | .ep b e i off=>if b<m then some (.ep b e i off)else(J4W b ids m).map λk=>.ep k e i off
 | .fn f first caps=>match finL m ids sto first,finL m ids sto caps with
  |some a,some c=>some (.fn f a c)
  |_,_=>none
 | .agg cs=>match finL m ids sto cs with
  |some l=>match unp l with
   |some q=>some (.data q)
   |none=>some (.agg l)
  |none=>none
 | .tup cs=>match finL m ids sto cs with
  |some l=>some (.tup l)
  |none=>none
where
 finL (m:Nat) (ids:List Nat) (sto:List Blk):List AV->Option (List AV)
  |[]=>some []
  |x::r=>match fin m ids sto x,finL m ids sto r with
   |some y,some l=>some (y::l)
   |_,_=>none
def J6p(m:Nat)(ids:List Nat)(sto:List Blk):Blk->Option Blk
 | .dead=>some .dead
 | .box cs=>match fin.finL m ids sto cs with
  |some l=>some (.box l)
  |none=>none
 | .arr w esz rows=>some (.arr w esz rows)
def Jbv(m:Nat)(ids:List Nat)(sto:List Blk):List Blk->Option (List Blk)
 |[]=>some []
 |x::r=>match J6p m ids sto x,Jbv m ids sto r with
  |some y,some l=>some (y::l)
  |_,_=>none
def Jio(m:Nat)(sto:List Blk):List (Nat×AV)->Option (List (Nat×AV))
 |[]=>some []
 |(k,x)::r=>match fin m [] sto x,Jio m sto r with
  |some y,some l=>some ((k,y)::l)
  |_,_=>none
def clean(n:Nat)(live:List Nat)(s:St):Option St:=
 if s.sto.length=n then some ⟨restr live s.env,s.sto⟩
 else match Jio n s.sto (restr live s.env),Jbv n [] s.sto (s.sto.take n)with
  |some e,some l=>some ⟨e,l⟩
  |_,_=>none
def JbU:List Jin->RM (List AV)
 |[]=>.ret []
 | .tmp t::r=>(RM.slot t .ret).bind λv=>(JbU r).bind λl=>.ret (v::l)
 | .cell t agg size::r=>(RM.slot t .ret).bind λv=>(J4z agg size v).bind λe=>(JbU r).bind λl=>.ret (e.val::l)
def J4X(m:Nat)(fresh:Bool)(sto:List Blk):List Ent->List Nat
 |[]=>[]
 | .whole b::r=>if b<m then J4X m fresh sto r else
  match sto[b]? with
  |some (.box _)=>b::J4X m fresh sto r
  |some (.arr _ _ _)=>if fresh then b::J4X m fresh sto r else J4X m fresh sto r
  |_=>J4X m fresh sto r
 |_::r=>J4X m fresh sto r
def Jbs(sto:List Blk):List Ent->List Ent->List Ent
 |[],acc=>acc
 | .whole b::r,acc=>match sto[b]? with
  |some (.box cs)=>Jbs sto r (J11.entsOfL cs acc)
  |_=>Jbs sto r acc
 |_::r,acc=>Jbs sto r acc
def JdI(sto:List Blk):List Nat->Option (List Blk)
 |[]=>some []
 |b::r=>match sto[b]?,JdI sto r with
  |some x,some l=>some (x::l)
  |_,_=>none
def one:List AV->AV
 |[x]=>x
 |l=>.tup l
def J3I(fn:AFn)(m:Nat)(s:St):Option Res:=
 match(JbU fn.res).run s with
 |none=>none
 |some vs=>
  if s.sto.length=m then some (one vs,s.sto)
  else
   match J4X m fn.fresh s.sto (Jbs s.sto (J11.entsOfL vs []) (J11.entsOfL vs []))with
   |ids=>if J53 ids then
    match fin.finL m ids s.sto vs,Jbv m ids s.sto (s.sto.take m),JdI s.sto ids with
    |some ws,some l,some q=>match Jbv m ids s.sto q with
     |some q'=>some (one ws,l++q')
     |none=>none
    |_,_,_=>none
    else none
def J8V:Nat->List AV->List (Nat×AV)
 |_,[]=>[]
 |k,x::r=>(k,x)::J8V (k+1) r
structure J9N where
 np:Nat
 nt:Nat
 p0:J17
 live:List Nat
 pre:J17
 c:Opd
 a:J17
 b:J17
 rest:J17
 res:List Jin
 fresh:Bool
def J9N.af(k:J9N):AFn:=⟨k.np,k.nt,.seq k.p0 (.br k.live k.pre k.c k.a k.b k.rest),k.res,k.fresh⟩
def JgD(f:AFn)(m:Nat)(o:Option Out):Option Res:=
 match o with
 |some (.normal,s)=>J3I f m s
 |some (.ret,s)=>J3I f m s
 |_=>none
open Classical in
noncomputable def Jlm(a b:Option Res):Option Res:=
 match a,b with
 |some r,some r'=>if r=r' then some r else none
 |_,_=>none
def thn(o:Option Out)(k:St->Option Out):Option Out:=
 match o with
 |some (.normal,s)=>k s
 |o=>o
noncomputable def Jce(R:J17->St->Option Out)(k:J9N)(args:List AV)(blks:List Blk):Option Res:=
 match R k.p0 ⟨J8V 0 args,blks⟩with
 |some (.normal,s0)=>match R k.pre s0 with
  |some (.normal,s1)=>match(ev k.c).run s1 with
   |some (.p (.b x))=>if x=true then JgD k.af blks.length (thn (R k.a s1) λs=>R k.rest s)else JgD k.af blks.length (thn (R k.b s1) λs=>R k.rest s)
   |some .unk=>Jlm (JgD k.af blks.length (thn (R k.a s1) λs=>R k.rest s)) (JgD k.af blks.length (thn (R k.b s1) λs=>R k.rest s))
   |_=>none
  |_=>none
 |_=>none
inductive Entry where
 |fn (f:AFn)
 |prim (g:List AV->List Blk->Option Res)
 |fork (k:J9N)
abbrev J4c:=FuncId->Option Entry
noncomputable def Jar(T:J4c)(R:J17->St->Option Out)(f:FuncId)(args:List AV)(blks:List Blk):Option Res:=
 match T f with
 |none=>none
 |some (.prim g)=>g args blks
 |some (.fork k)=>if args.length=k.np then Jce R k args blks else none
 |some (.fn fn)=>
  if args.length=fn.np then
   match R fn.body ⟨J8V 0 args,blks⟩with
   |some (.normal,s)=>J3I fn blks.length s
   |some (.ret,s)=>J3I fn blks.length s
   |_=>none
  else none
open Classical in
noncomputable def same(a b:Option Out):Option Out:=
 match a,b with
 |some r,some r'=>if r=r' then some r else none
 |_,_=>none
def J6S(n:Nat)(live:List Nat)(o:Option Out):Option Out:=
 match o with
 |some (e,s)=>match clean n live s with
  |some s'=>some (e,s')
  |none=>none
 |none=>none
noncomputable def step(T:J4c)(R:J17->St->Option Out)(c:J17)(s:St):Option Out:=
 match c with
 | .skip=>some (.normal,s)
 | .bad=>none
 | .reg _ pairs ins=>match region (Jar T R) pairs ins s with
  |some s'=>some (.normal,s')
  |none=>none
 | .seq a b=>match R a s with
  |some (.normal,s')=>R b s'
  |o=>o
 | .cond c a b=>match(ev c).run s with
  |some (.p (.b x))=>if x=true then R a s else R b s
  |some .unk=>same (R a s) (R b s)
  |_=>none
 | .block id c=>match R c s with
  |some (.exit k,s')=>if k=id then some (.normal,s')else some (.exit k,s')
  |o=>o
 | .loop live c=>match clean s.sto.length live s with
  |some s'=>R (.lp s.sto.length live c) s'
  |none=>none
 | .lp n live c=>match R c s with
  |some (.normal,s')=>(match clean n live s' with
   |some e=>R (.lp n live c) e
   |none=>none)
  |o=>o
 | .scope c=>R c s
 | .exit id=>some (.exit id,s)
 | .ret=>some (.ret,s)
 | .keep live c=>R c ⟨restr live s.env,s.sto⟩
 | .tidy live c=>J6S s.sto.length live (R c s)
 | .br live pre c a b rest=>match R pre s with
  |some (.normal,s1)=>(match(ev c).run s1 with
   |some (.p (.b x))=>if x=true then thn (R a s1) λs=>R rest s else thn (R b s1) λs=>R rest s
   |some .unk=>same (J6S s1.sto.length live (thn (R a s1) λs=>R rest s)) (J6S s1.sto.length live (thn (R b s1) λs=>R rest s))
   |_=>none)
  |_=>none
end Go.Am
end
section
namespace Go.Am
def below{α:Type}(a b:Option α):Prop:=a=none\/a=b
theorem J06{α:Type}(a:Option α):below a a:=.inr rfl
theorem run_bind{α β:Type}(m:RM α)(f:α->RM β)(s:St):(m.bind f).run s=(m.run s).bind λa=>(f a).run s:=by
 induction m with
 |ret a=>rfl
 |slot n k ih=>grind [RM.bind,RM.run]
 |blk b k ih=>grind [RM.bind,RM.run]
 |fail=>rfl
theorem J38{α β:Type}{m:RM α}{f f':α->RM β}{s:St}(h: ∀a,below ((f a).run s) ((f' a).run s)):below ((m.bind f).run s) ((m.bind f').run s):=by
 rw[run_bind,run_bind];cases m.run s with
 |none=>exact .inl rfl
 |some a=>exact h a
variable {F F':Orc} (h: ∀f a b,below (F f a b) (F' f a b))
include h in
theorem JjT(f:FuncId)(args:List AV)(k new:Nat)(s:St):below ((J5Q F f args k new).run s) ((J5Q F' f args k new).run s):=by
 unfold J5Q;refine J38 λa=>J38 λg=>J38 λes=>?_;split
 ·split
  ·simp[J06]
  ·refine J38 λblks=>?_;rcases h f ‹_› blks with e|e
   ·rw[e];exact .inl rfl
   grind [J06]
 simp[J06]
include h in
theorem Jvv(f:FuncId)(a:List AV×List (Nat×Blk))(k new:Nat)(s:St):below ((J3d F f a k new).run s) ((J3d F' f a k new).run s):=by
 unfold J3d;refine J38 λg=>J38 λes=>?_;split
 ·split
  ·simp[J06]
  ·refine J38 λblks=>?_;rcases h f ‹_› blks with e|e
   ·rw[e];exact .inl rfl
   grind [J06]
 simp[J06]
include h in
theorem JCu(op:AOp)(new:Nat)(s:St):below ((opR F op new).run s) ((opR F' op new).run s):=by
 cases op<;>try exact J06 _
 case call f args k=>exact J38 λvs=>JjT h ..
 case callo f keep args k=>exact J38 λvs=>J38 λa=>Jvv h ..
 case callv g args k=>
  refine J38 λg=>?_
  grind [J06,J38,JjT]
include h in
theorem JCw(op:AOp)(new:Nat)(s:St):below ((opD F op new).run s) ((opD F' op new).run s):=
 J38 λ_=>JCu h ..
include h in
theorem Jlk(i:J1w)(new:Nat)(s:St):below ((J1C F i new).run s) ((J1C F' i new).run s):=by
 unfold J1C;split
 all_goals grind [JCw,RM.run,J06]
theorem J65{α β:Type}(m:RM α)(f:α->RM β)(s:St):(m.bind f).reads s=m.reads s++((m.run s).map λa=>(f a).reads s).getD []:=by
 induction m with
 |ret a=>simp[RM.bind,RM.reads,RM.run]
 |slot n k ih=>grind [RM.bind,RM.reads,RM.run]
 |blk b k ih=>grind [RM.bind,RM.reads,RM.run]
 |fail=>simp[RM.bind,RM.reads,RM.run]
theorem J1O{α β:Type}{m:RM α}{f f':α->RM β}{s:St}(h: ∀a,(f a).run s=none\/(f a).reads s=(f' a).reads s):
  ((m.bind f).run s)=none\/(m.bind f).reads s=(m.bind f').reads s:=by
 rw[run_bind,J65,J65];cases m.run s<;>simp_all
include h in
theorem JjN(f:FuncId)(args:List AV)(k new:Nat)(s:St):
  (J5Q F f args k new).run s=none\/(J5Q F f args k new).reads s=(J5Q F' f args k new).reads s:=by
 unfold J5Q;refine J1O λa=>J1O λg=>J1O λes=>?_;split
 ·split
  ·exact .inr rfl
  ·refine J1O λblks=>?_;rcases h f ‹_› blks with e|e
   ·rw[e];exact .inl rfl
   simp_all
 simp_all
include h in
theorem JvP(f:FuncId)(a:List AV×List (Nat×Blk))(k new:Nat)(s:St):
  (J3d F f a k new).run s=none\/(J3d F f a k new).reads s=(J3d F' f a k new).reads s:=by
 unfold J3d;refine J1O λg=>J1O λes=>?_;split
 ·split
  ·exact .inr rfl
  ·refine J1O λblks=>?_;rcases h f ‹_› blks with e|e
   ·rw[e];exact .inl rfl
   simp_all
 simp_all
include h in
theorem JDE(op:AOp)(new:Nat)(s:St):(opR F op new).run s=none\/(opR F op new).reads s=(opR F' op new).reads s:=by
 cases op<;>try exact .inr rfl
 case call f args k=>exact J1O λvs=>JjN h ..
 case callo f keep args k=>exact J1O λvs=>J1O λa=>JvP h ..
 case callv g args k=>
  refine J1O λg=>?_
  grind [J1O,JjN]
include h in
theorem JD1(op:AOp)(new:Nat)(s:St):(opD F op new).run s=none\/(opD F op new).reads s=(opD F' op new).reads s:=
 J1O λ_=>JDE h ..
include h in
theorem JBt(i:J1w)(new:Nat)(s:St):(J1C F i new).run s=none\/(J1C F i new).reads s=(J1C F' i new).reads s:=by
 unfold J1C;split
 all_goals grind [JD1,RM.run,RM.reads]
include h in
theorem Jwn(ins:List J1w): ∀new s,below (J3l F ins new s) (J3l F' ins new s):=by
 induction ins with
 |nil=>exact λ_ _=>J06 _
 |cons i r ih=>
  intro new s;simp only[J3l];rcases Jlk h i new s with e|e
  ·rw[e];exact .inl rfl
  grind [J06]
include h in
theorem Jwm(ins:List J1w): ∀new s l,below (J50 F ins new s l) (J50 F' ins new s l):=by
 induction ins with
 |nil=>exact λ_ _ _=>J06 _
 |cons i r ih=>
  intro new s l;simp only[J50];rcases Jlk h i new s with e|e
  ·rw[e];exact .inl rfl
  grind [JBt,J06]
include h in
theorem JtT(pairs:List (Nat×Nat))(ins:List J1w)(s:St):below (region F pairs ins s) (region F' pairs ins s):=by
 unfold region;split
 ·grind [Jwn]
 ·rcases Jwm h ins s.sto.length ⟨s.env,Go.Am.room (news ins) s.sto⟩ []with e|e
  ·rw[e];exact .inl rfl
  grind [J06]
variable {T:J4c} {R R':J17->St->Option Out} (hR: ∀c s,below (R c s) (R' c s))
include hR in
theorem JyZ(k:J9N)(args:List AV)(blks:List Blk):below (Jce R k args blks) (Jce R' k args blks):=by
 have g: ∀x s,below (JgD k.af blks.length (thn (R x s) λs=>R k.rest s)) (JgD k.af blks.length (thn (R' x s) λs=>R' k.rest s)):=by
  intro x s;rcases hR x s with e|e
  ·rw[e];exact .inl rfl
  ·rw[e];cases hx:R' x s with
   |none=>exact .inl rfl
   |some o=>
    obtain⟨q,s'⟩:=o;cases q with
    |normal=>
     simp only[thn];rcases hR k.rest s' with e'|e'
     ·rw[e'];exact .inl rfl
     grind [J06]
    |_=>exact J06 _
 unfold Jce;rcases hR k.p0 ⟨J8V 0 args,blks⟩with e|e
 ·rw[e];exact .inl rfl
 ·rw[e];split
  ·rename_i s0 _;rcases hR k.pre s0 with e|e
   ·rw[e];exact .inl rfl
   ·rw[e];split
    ·split
     ·grind
     ·rename_i s1 _ _ _;rcases g k.a s1 with e|e
      ·rw[e];exact .inl rfl
      ·rcases g k.b s1 with e'|e'
       ·rw[e'];unfold Jlm;exact .inl (by simp_all)
       grind [J06]
     simp[J06]
    simp[J06]
  simp[J06]
include hR in
theorem Jyd(f:FuncId)(a:List AV)(b:List Blk):below (Jar T R f a b) (Jar T R' f a b):=by
 unfold Jar;split
 ·simp[J06]
 ·simp[J06]
 ·grind [JyZ,J06]
 ·split
  ·rcases hR ‹AFn›.body ⟨J8V 0 a,b⟩with e|e
   ·rw[e];exact .inl rfl
   grind [J06]
  simp[J06]
include hR in
theorem Jg4(c:J17)(s:St):below (step T R c s) (step T R' c s):=by
 cases c with
 |bad=>exact .inl rfl
 |skip=>exact J06 _
 |reg d pairs ins=>
  simp only[step];rcases JtT (Jyd (T:=T) hR) pairs ins s with e|e
  ·rw[e];exact .inl rfl
  grind [J06]
 |seq a b=>
  simp only[step];rcases hR a s with e|e
  ·rw[e];exact .inl rfl
  grind
 |cond c a b=>
  simp only[step];split
  ·grind
  ·rcases hR a s with e|e
   ·rw[e];exact .inl rfl
   ·rcases hR b s with e'|e'
    ·rw[e'];unfold same;exact .inl (by simp_all)
    grind [J06]
  simp[J06]
 |block id c=>
  simp only[step];rcases hR c s with e|e
  ·rw[e];exact .inl rfl
  grind [J06]
 |loop live c=>
  grind [step,J06]
 |lp n live c=>
  simp only[step];rcases hR c s with e|e
  ·rw[e];exact .inl rfl
  grind [J06]
 |scope c=>exact hR _ _
 |exit id=>exact J06 _
 |ret=>exact J06 _
 |keep live c=>exact hR _ _
 |tidy live c=>
  simp only[step];rcases hR c s with e|e
  ·rw[e];exact .inl rfl
  grind [J06]
 |br live pre c a b rest=>
  have g: ∀x s,below (thn (R x s) λs=>R rest s) (thn (R' x s) λs=>R' rest s):=by
   intro x s;rcases hR x s with e|e
   ·rw[e];exact .inl rfl
   ·rw[e];unfold thn
    grind
  simp only[step];rcases hR pre s with e|e
  ·rw[e];exact .inl rfl
  ·rw[e];split
   ·split
    ·grind
    ·rename_i s1 _ _ _;rcases g a s1 with e|e
     ·rw[e];exact .inl rfl
     ·rcases g b s1 with e'|e'
      ·rw[e'];unfold same;exact .inl (by simp[J6S])
      grind [J06]
    simp[J06]
   simp[J06]
def JIu(T:J4c)(M:J17->St->Out->Prop):Prop:= ∀R:J17->St->Option Out,(∀c s r,R c s=some r->M c s r)-> ∀c s r,step T R c s=some r->M c s r
def Den(T:J4c)(c:J17)(s:St)(r:Out):Prop:= ∀M,JIu T M->M c s r
theorem JkU(T:J4c):JIu T (Den T):=λR hR c s r h M e=>e R (λc s r h=>hR c s r h M e) c s r h
theorem JA4{T:J4c}{c:J17}{s:St}{r:Out}(h:Den T c s r): ∃R:J17->St->Option Out,(∀c s r,R c s=some r->Den T c s r)/\step T R c s=some r:=
 h (λc s r=> ∃R:J17->St->Option Out,(∀c s r,R c s=some r->Den T c s r)/\step T R c s=some r) λR hR c s r hs=>
  ⟨R,λc s r h=>let⟨R',h1,h2⟩:=hR c s r h;JkU T R' h1 c s r h2,hs⟩
theorem JHh{T:J4c}{c:J17}{s:St}{r:Out}(h:Den T c s r): ∀r',Den T c s r'->r'=r:=by
 have e:Den T c s r/\ ∀r',Den T c s r'->r'=r:=h (λc s r=>Den T c s r/\ ∀r',Den T c s r'->r'=r) λR hR c s r hs=>by
  refine⟨JkU T R (λc s r h=>(hR c s r h).1) c s r hs,λr' g=>?_⟩;obtain⟨R',j,hs'⟩:=JA4 g;have b1: ∀c s,below (R c s) ((R c s).or (R' c s)):=λc s=>by cases hc:R c s<;>simp[below]
  have b2: ∀c s,below (R' c s) ((R c s).or (R' c s)):=λc s=>by
   cases hc:R c s with
   |none=>simp[below]
   |some a=>cases hc':R' c s<;>grind [below]
  have e1:=Jg4 (T:=T) b1 c s;have e2:=Jg4 (T:=T) b2 c s;rw[hs]at e1;rw[hs']at e2;rcases e1 with e1|e1
  ·cases e1
  ·rcases e2 with e2|e2
   all_goals grind
 exact e.2
open Classical in
noncomputable def X(T:J4c)(c:J17)(s:St):Option Out:=if h: ∃r,Den T c s r then some h.choose else none
theorem Jii{T:J4c}{c:J17}{s:St}{r:Out}:X T c s=some r↔Den T c s r:=by
 unfold X;constructor
 ·intro h;split at h
  all_goals grind
 ·intro h;rw[dif_pos ⟨r,h⟩]
  grind [JHh]
theorem JLh(T:J4c)(motive:J17->St->Out->Prop)
  (h: ∀R:J17->St->Option Out,(∀c s r,R c s=some r->motive c s r)-> ∀c s r,step T R c s=some r->motive c s r): ∀c s r,X T c s=some r->motive c s r:=
 λc s r hx=>Jii.1 hx motive h
theorem Jb4(T:J4c)(c:J17)(s:St):X T c s=step T (X T) c s:=by
 have one: ∀r,step T (X T) c s=some r->X T c s=some r:=λr h=>Jii.2 (JkU T (X T) (λc s r h=>Jii.1 h) c s r h);cases hs:step T (X T) c s with
 |some r=>exact one r hs
 |none=>
  cases hx:X T c s with
  |none=>rfl
  |some r=>
   obtain⟨R,hR,h⟩:=JA4 (Jii.1 hx);have:=Jg4 (T:=T) (R:=R) (R':=X T) (λc s=>by
    cases hc:R c s with
    |none=>exact .inl rfl
    |some a=>right;grind [Jii]) c s
   rw[h,hs]at this;rcases this with e|e<;>cases e
noncomputable def AF(T:J4c):Orc:=Jar T (X T)
end Go.Am
end
section
namespace Go.Am
structure Gh where
 μ:Nat->Option (Nat×Nat)
 C:Nat->Nat->Prop
def J0L(w:World)(r o:Nat):Option Value:=
 match w.heap[r]? with
 |some (.cells c _ _)=>c[o]?
 |_=>none
theorem J5X(w:World)(r o:Nat):w.cell? ⟨r,o,none⟩=J0L w r o:=by
 grind [World.cell?,J0L]
theorem J3g{w:World}{r o:Nat}{c e fz}(h:w.heap[r]?=some (.cells c e fz)):J0L w r o=c[o]?:=by
 grind [J0L]
inductive J0r(w:World)(C:Nat->Nat->Prop):PV->Value->Prop where
 |b (x:Bool):J0r w C (.b x) (.bool x)
 |i (k:IntKind) (n:Int):J0r w C (.i k n) (.int k n)
 |s (l:List UInt8):J0r w C (.s l) (.string ⟨l.toArray⟩)
 |np:J0r w C .np (.pointer none)
 |nf:J0r w C .nf .nilFunc
 |sl0 (esz:Nat) (a:Option Addr) (cap:Nat):J0r w C (.sl esz []) (.slice a 0 cap)
 |sl (esz:Nat) (rows:List (List PV)) (r o cap:Nat) (vals:Nat->Nat->Value):
  rows.length<=cap->(∀row∈rows,row.length=esz)->
  (∀(i j:Nat) row x,rows[i]?=some row->row[j]?=some x->C r (o+i*esz+j)/\J0L w r (o+i*esz+j)=some (vals i j))->
  (∀(i j:Nat) row x,rows[i]?=some row->row[j]?=some x->J0r w C x (vals i j))->
  J0r w C (.sl esz rows) (.slice (some ⟨r,o,none⟩) rows.length cap)
 |slc (esz:Nat) (rows:List (List PV)) (a:Option Addr):J0r w C (.sl esz rows) (.slice a rows.length rows.length)->J0r w C (.slc esz rows) (.slice a rows.length rows.length)
structure Sn where
 σ:List Blk
 g:Gh
 w:World
def JsV(σ:List Blk)(b:Nat):Prop:= ∃cs,σ[b]?=some (.box cs)
def JLd(s:Sn)(b esz i n:Nat)(v:Value):Prop:=(s.g.μ b=none/\i=0/\n=0/\v=.slice none 0 0)\/ ∃r cap c e fz,s.g.μ b=some (r,0)/\v=.slice (some ⟨r,i*esz,none⟩) n cap/\n<=cap/\s.w.heap[r]?=some (.cells c e fz)/\(i+cap)*esz<=c.size
inductive JK(s:Sn):AV->Value->Prop where
 |p (c v):J0r s.w s.g.C c v->JK s (.p c) v
 |data (cs:List PV) (vs:Array Value):cs.length=vs.size->(∀(i:Nat) x v,cs[i]?=some x->vs[i]?=some v->J0r s.w s.g.C x v)->JK s (.data cs) (.agg vs)
 |agg (cs:List AV) (vs:Array Value):cs.length=vs.size->(∀(i:Nat) v,vs[i]?=some v->v.oneCell'=true)->(∀(i:Nat) x v,cs[i]?=some x->vs[i]?=some v->JK s x v)->JK s (.agg cs) (.agg vs)
 |tup (cs:List AV) (vs:Array Value):cs.length=vs.size->(∀(i:Nat) x v,cs[i]?=some x->vs[i]?=some v->JK s x v)->JK s (.tup cs) (.tuple vs)
 |ptr (b off r o):s.g.μ b=some (r,o)->JsV s.σ b->JK s (.ptr b off) (.pointer (some ⟨r,o+off,none⟩))
 |cp (cs:List PV) (off r o:Nat) (vals:Nat->Value):
  (∀(j:Nat) x,cs[j]?=some x->s.g.C r (o+j)/\J0L s.w r (o+j)=some (vals j))->
  (∀(j:Nat) x,cs[j]?=some x->J0r s.w s.g.C x (vals j))->JK s (.cp cs off) (.pointer (some ⟨r,o+off,none⟩))
 |slr (b i n v wm esz rows):(∃a cap,v=.slice a n cap/\(n=0\/a≠none))->s.σ[b]?=some (.arr wm esz rows)->i+n<=rows.length->(i+n=rows.length->JLd s b esz i n v)->JK s (.slr b i n) v
 |ep (b ext i off v wm esz rows):(∃r o,v=.pointer (some ⟨r,o,none⟩))->s.σ[b]?=some (.arr wm esz rows)->ext<=rows.length->
  (ext=rows.length->i<ext-> ∃r,s.g.μ b=some (r,0)/\v=.pointer (some ⟨r,i*esz+off,none⟩))->JK s (.ep b ext i off) v
 |fn (f:FuncId) (first caps:List AV) (fs cs:Array Value):first.length=fs.size->caps.length=cs.size->
  (∀(i:Nat) x v,first[i]?=some x->fs[i]?=some v->JK s x v)->(∀(i:Nat) x v,caps[i]?=some x->cs[i]?=some v->JK s x v)->
  JK s (.fn f first caps) (.func (.func f) fs cs)
 |unk (x:Bool):JK s .unk (.bool x)
def Wr1(s:Sn)(b r o:Nat):Prop:=
 match s.σ[b]? with
 |some (.box cs)=> ∃e,s.g.μ b=some (r,e)/\e<=o/\o<e+cs.length
 |some (.arr true _ _)=> ∃e,s.g.μ b=some (r,e)
 |some (.arr false esz rows)=> ∃e,s.g.μ b=some (r,e)/\rows.length*esz<=o
 |_=>False
def Wr(s:Sn)(r o:Nat):Prop:= ∃b,Wr1 s b r o
def Jnv(fz:Nat×Nat)(a b:Nat):Prop:= ∀o,a<=o->o<b-> ¬(fz.1<=o/\o<fz.2)
def Jdz(esz:Nat)(fz:Nat×Nat)(n:Nat):Prop:=Jnv fz 0 n/\(esz≠1-> ¬(fz.1<=n/\n<fz.2))
theorem Jdz.zero(esz n:Nat):Jdz esz (0,0) n:=⟨λ_ _ _ h=>by simp at h,λ_ h=>by simp at h⟩
def Jt2(s:Sn)(b:Nat)(cs:List AV):Prop:= ∃r o c e fz,s.g.μ b=some (r,o)/\s.w.heap[r]?=some (.cells c e fz)/\o+cs.length<=c.size/\(∀(i:Nat) x,cs[i]?=some x-> ∃v,c[o+i]?=some v/\JK s x v/\v.oneCell'=true)/\Jnv fz o (o+cs.length)
def Jtf(s:Sn)(b:Nat)(wm:Bool)(esz:Nat)(rows:List (List PV)):Prop:=(s.g.μ b=none/\rows=[])\/ ∃r c e fz,s.g.μ b=some (r,0)/\s.w.heap[r]?=some (.cells c e fz)/\(∀row∈rows,row.length=esz)/\rows.length*esz<=c.size/\(∀(i j:Nat) row x,rows[i]?=some row->row[j]?=some x->(∃v,c[i*esz+j]?=some v/\J0r s.w s.g.C x v)/\(wm=false->s.g.C r (i*esz+j)))/\Jdz esz fz c.size
structure Inv(s:Sn):Prop where
 box: ∀b cs,s.σ[b]?=some (.box cs)->Jt2 s b cs
 arr: ∀b wm esz rows,s.σ[b]?=some (.arr wm esz rows)->Jtf s b wm esz rows
 apart: ∀b1 b2 r o,Wr1 s b1 r o->Wr1 s b2 r o->b1=b2
 const: ∀r o,s.g.C r o->r<s.w.heap.size/\ ∀b,¬Wr1 s b r o
def Jd6(W:Nat->Nat->Prop)(w0 w:World):Prop:=w0.heap.size<=w.heap.size/\(∀(r:Nat) c e fz,w0.heap[r]?=some (.cells c e fz)-> ∃c',w.heap[r]?=some (.cells c' e fz)/\c'.size=c.size/\ ∀o,¬W r o->c'[o]?=c[o]?)/\(∀(r:Nat) x,w0.heap[r]?=some x->(∀c e fz,x≠.cells c e fz)->w.heap[r]?=some x)/\w.os=w0.os/\w.output=w0.output
structure J0l(s0 s:Sn):Prop where
 keep:Jd6 (Wr s0) s0.w s.w
 cmono: ∀r o,s0.g.C r o->s.g.C r o
 cnew: ∀r o,s.g.C r o->s0.g.C r o\/Wr s0 r o\/s0.w.heap.size<=r
 wnew: ∀r o,Wr s r o->Wr s0 r o\/s0.w.heap.size<=r
 len:s0.σ.length<=s.σ.length
 box: ∀b cs,s0.σ[b]?=some (.box cs)->(∃cs',s.σ[b]?=some (.box cs')/\cs'.length=cs.length)/\s.g.μ b=s0.g.μ b
 arr: ∀b wm esz rows,s0.σ[b]?=some (.arr wm esz rows)-> ∃wm' rows',s.σ[b]?=some (.arr wm' esz rows')/\(wm'=true->wm=true)/\
  rows.length<=rows'.length/\(rows'.length=rows.length->s.g.μ b=s0.g.μ b)
theorem Jd6.refl(W w):Jd6 W w w:=⟨zQ0 _,λ_ c _ _ h=>⟨c,h,rfl,λ_ _=>rfl⟩,λ_ _ h _=>h,rfl,rfl⟩
theorem Jd6.mono{W g:Nat->Nat->Prop}{w0 w}(h:Jd6 W w0 w)(hw: ∀r o,W r o->g r o):Jd6 g w0 w:=
 ⟨h.1,λr c e fz hr=>let⟨c',a,b,d⟩:=h.2.1 r c e fz hr;⟨c',a,b,λo ho=>d o λx=>ho (hw _ _ x)⟩,h.2.2⟩
theorem Jd6.cell{W w0 w}(h:Jd6 W w0 w){r o v}(hn: ¬W r o)(hv:J0L w0 r o=some v):J0L w r o=some v:=by
 unfold J0L at hv;split at hv
 ·rename_i c e fz hr;obtain⟨c',h1,_,h3⟩:=h.2.1 r c e fz hr
  grind [J3g]
 ·cases hv
theorem J0l.refl(s:Sn):J0l s s:=
 ⟨.refl _ _,λ_ _ h=>h,λ_ _ h=>.inl h,λ_ _ h=>.inl h,zQ0 _,λ_ cs h=>⟨⟨cs,h,rfl⟩,rfl⟩,
  λ_ wm _ rows h=>⟨wm,rows,h,id,zQ0 _,λ_=>rfl⟩⟩
theorem Jbu{w:World}{r:Nat}{x:Obj}(h:w.heap[r]?=some x):r<w.heap.size:=by
 grind
theorem J0l.trans{s0 s1 w:Sn}(h:J0l s0 s1)(g:J0l s1 w):J0l s0 w where
 keep:=by
  refine⟨zQ1 h.keep.1 g.keep.1,λr c e fz hr=>?_,λr x hr hx=>g.keep.2.2.1 r x (h.keep.2.2.1 r x hr hx) hx,g.keep.2.2.2.1.trans h.keep.2.2.2.1,g.keep.2.2.2.2.trans h.keep.2.2.2.2⟩;obtain⟨j,a1,b1,q⟩:=h.keep.2.1 r c e fz hr;obtain⟨k,a2,b2,n⟩:=g.keep.2.1 r j e fz a1;refine⟨k,a2,b2.trans b1,λo ho=>(n o λhw=>?_).trans (q o ho)⟩;rcases h.wnew r o hw with hw|hw
  all_goals simp_all
 cmono r o hc:=g.cmono r o (h.cmono r o hc)
 cnew r o hc:=by
  rcases g.cnew r o hc with hc|hw|hn
  ·exact h.cnew r o hc
  ·rcases h.wnew r o hw with hw|hn
   all_goals simp_all
  ·exact .inr (.inr (zQ1 h.keep.1 hn))
 wnew r o hw:=by
  rcases g.wnew r o hw with hw|hn
  ·exact h.wnew r o hw
  ·exact .inr (zQ1 h.keep.1 hn)
 len:=zQ1 h.len g.len
 box b cs hb:=by obtain⟨⟨j,a1,B⟩,m1⟩:=h.box b cs hb;obtain⟨⟨k,a2,l2⟩,m2⟩:=g.box b j a1;simp_all
 arr b wm esz rows hb:=by obtain⟨v,z,a1,b1,j,q⟩:=h.arr b wm esz rows hb;obtain⟨y,A,a2,b2,k,n⟩:=g.arr b v esz z a1;exact⟨y,A,a2,λe=>b1 (b2 e),zQ1 j k,λe=>(n (by omega)).trans (q (by omega))⟩
theorem Inv.cfix{s0 s:Sn}(hi:Inv s0)(t:J0l s0 s){r o v}(hc:s0.g.C r o)(hv:J0L s0.w r o=some v):J0L s.w r o=some v:=
 t.keep.cell (fun⟨b,hb⟩=>(hi.const r o hc).2 b hb) hv
theorem J0r.mono{s0 s:Sn}(hi:Inv s0)(t:J0l s0 s){x v}(h:J0r s0.w s0.g.C x v):J0r s.w s.g.C x v:=by
 induction h with
 |b x=>exact .b x
 |i k n=>exact .i k n
 |s l=>exact .s l
 |np=>exact .np
 |nf=>exact .nf
 |sl0 esz a cap=>exact .sl0 esz a cap
 |sl esz rows r o cap vals h1 h2 h3 _ ih=>exact .sl esz rows r o cap vals h1 h2 (λi j row x hr hx=>⟨t.cmono _ _ (h3 i j row x hr hx).1,hi.cfix t (h3 i j row x hr hx).1 (h3 i j row x hr hx).2⟩) ih
 |slc esz rows a _ ih=>exact .slc esz rows a ih
theorem JsV.mono{s0 s:Sn}(t:J0l s0 s){b}(h:JsV s0.σ b):JsV s.σ b:=by obtain⟨cs,h⟩:=h;obtain⟨⟨cs',e,_⟩,_⟩:=t.box b cs h;exact⟨cs',e⟩
theorem JK.mono{s0 s:Sn}(hi:Inv s0)(t:J0l s0 s){x v}(h:JK s0 x v):JK s x v:=by
 induction h with
 |p c v h=>exact .p c v (h.mono hi t)
 |data cs vs h1 h2=>exact .data cs vs h1 λi x v hx hv=>(h2 i x v hx hv).mono hi t
 |agg cs vs h1 h2 _ ih=>exact .agg cs vs h1 h2 ih
 |tup cs vs h1 _ ih=>exact .tup cs vs h1 ih
 |ptr b off r o h1 h2=>obtain⟨cs,h3⟩:=h2;exact .ptr b off r o ((t.box b cs h3).2.trans h1) (.mono t ⟨cs,h3⟩)
 |cp cs off r o vals h1 h2=>exact .cp cs off r o vals (λj x hx=>⟨t.cmono _ _ (h1 j x hx).1,hi.cfix t (h1 j x hx).1 (h1 j x hx).2⟩) λj x hx=>(h2 j x hx).mono hi t
 |slr b i n v wm esz rows g h1 h2 h3=>
  obtain⟨wm',rows',a,_,c,d⟩:=t.arr b wm esz rows h1;refine .slr b i n v wm' esz rows' g a (zQ1 h2 c) λe=>?_;have e0:rows'.length=rows.length:=by omega
  rcases h3 (by omega)with⟨m,y,hn,hv⟩|⟨r,cap,A,e1,fz,m,hv,k,z,hs⟩
  ·exact .inl ⟨(d e0).trans m,y,hn,hv⟩
  ·obtain⟨c',k1,k2,_⟩:=t.keep.2.1 r A e1 fz z;exact .inr ⟨r,cap,c',e1,fz,(d e0).trans m,hv,k,k1,by omega⟩
 |ep b ext i off v wm esz rows g h1 h2 h3=>
  obtain⟨wm',rows',a,_,c,d⟩:=t.arr b wm esz rows h1;refine .ep b ext i off v wm' esz rows' g a (zQ1 h2 c) λe B=>?_
  grind
 |fn f first caps fs cs h1 h2 _ _ q w=>exact .fn f first caps fs cs h1 h2 q w
 |unk x=>exact .unk x
theorem J8c{s0 s:Sn}(hi:Inv s0)(t:J0l s0 s)(D:Nat->Prop)
  (same: ∀b,¬D b->s.σ[b]?=s0.σ[b]?/\s.g.μ b=s0.g.μ b)
  (h: ∀b r o v,¬D b->Wr1 s0 b r o->J0L s0.w r o=some v->J0L s.w r o=some v)
  (L: ∀b cs,D b->s.σ[b]?=some (.box cs)->Jt2 s b cs)
  (N: ∀b wm esz rows,D b->s.σ[b]?=some (.arr wm esz rows)->Jtf s b wm esz rows)
  (K: ∀b1 b2 r o,D b1->Wr1 s b1 r o->Wr1 s b2 r o->b1=b2)
  (k: ∀r o,s.g.C r o->r<s.w.heap.size)
  (F: ∀r o b,s.g.C r o->D b-> ¬Wr1 s b r o)
  (I: ∀r o b,s.g.C r o-> ¬s0.g.C r o-> ¬D b-> ¬Wr1 s0 b r o):Inv s:=by
 have q: ∀b r o,¬D b->(Wr1 s b r o↔Wr1 s0 b r o):=by
  intro b r o hd;obtain⟨h1,h2⟩:=same b hd
  grind [Wr1]
 have cells: ∀(r:Nat) c e fz,s0.w.heap[r]?=some (.cells c e fz)-> ∃c',s.w.heap[r]?=some (.cells c' e fz)/\c'.size=c.size/\ ∀o v,J0L s.w r o=some v->c'[o]?=some v:=by
  intro r c e fz hr;obtain⟨c',h1,h2,_⟩:=t.keep.2.1 r c e fz hr
  grind [J3g]
 refine⟨?_,?_,?_,?_⟩
 ·intro b cs hb;by_cases hd:D b
  ·simp_all
  ·obtain⟨h1,h2⟩:=same b hd;obtain⟨r,o,c,e,fz,m,y,hl,hx,hf⟩:=hi.box b cs (h1▸hb);obtain⟨c',k1,k2,n⟩:=cells r c e fz y;refine⟨r,o,c',e,fz,h2.trans m,k1,by omega,λi x A=>?_,hf⟩;obtain⟨v,hv,hr,E⟩:=hx i x A;refine⟨v,n _ _ (h b r (o+i) v hd ?_ (by grind [J3g])),hr.mono hi t,E⟩
   grind [Wr1]
 ·intro b wm esz rows hb;by_cases hd:D b
  ·grind
  ·obtain⟨h1,h2⟩:=same b hd;rcases hi.arr b wm esz rows (h1▸hb)with⟨m,hr⟩|⟨r,c,e,fz,m,y,z,hl,hx,hf⟩
   ·exact .inl ⟨h2.trans m,hr⟩
   ·obtain⟨c',k1,k2,n⟩:=cells r c e fz y;refine .inr ⟨r,c',e,fz,h2.trans m,k1,z,by omega,λi j row x G J=>?_,k2▸hf⟩;obtain⟨⟨v,hv,hr⟩,hc⟩:=hx i j row x G J;refine⟨⟨v,n _ _ ?_,hr.mono hi t⟩,λe=>t.cmono _ _ (hc e)⟩;cases wm with
    |true=>
     refine h b r _ v hd ?_ (by grind [J3g])
     grind [Wr1]
    |false=>exact hi.cfix t (hc rfl) (by grind [J3g])
 ·intro b1 b2 r o h1 h2;by_cases H:D b1
  ·grind
  ·by_cases B:D b2
   ·grind
   ·exact hi.apart b1 b2 r o ((q b1 r o H).1 h1) ((q b2 r o B).1 h2)
 ·intro r o hc;refine⟨k r o hc,λb hb=>?_⟩;by_cases hd:D b
  ·simp_all
  ·by_cases M:s0.g.C r o
   ·exact(hi.const r o M).2 b ((q b r o hd).1 hb)
   simp_all
end Go.Am
end
section
namespace Go.Am
theorem J1r{σ:List Blk}{b:Nat}{x y:Blk}(h:σ[b]?=some x):(σ.set b y)[b]?=some y:=by
 grind
theorem J4l{σ:List Blk}{b c:Nat}{y:Blk}(h:b≠c):(σ.set b y)[c]?=σ[c]?:=by simp[h]
theorem Jiy{s0:Sn}(hi:Inv s0){w':World}(k:w'.heap=s0.w.heap)(ho:w'.os=s0.w.os)(hp:w'.output=s0.w.output):
  Inv ⟨s0.σ,s0.g,w'⟩/\J0l s0 ⟨s0.σ,s0.g,w'⟩:=by
 have hc: ∀r o,J0L w' r o=J0L s0.w r o:=λr o=>by grind [J0L]
 have t:J0l s0 ⟨s0.σ,s0.g,w'⟩:=by
  refine⟨⟨by simp_all,λr c e fz h=>⟨c,by simp_all,rfl,λ_ _=>rfl⟩,λr x h _=>by simp_all,ho,hp⟩,λ_ _ h=>h,λ_ _ h=>.inl h,λr o ⟨b,hb⟩=>.inl ⟨b,hb⟩,zQ0 _,λ_ cs h=>⟨⟨cs,h,rfl⟩,rfl⟩,
   λ_ wm _ rows h=>⟨wm,rows,h,id,zQ0 _,λ_=>rfl⟩⟩
 exact⟨J8c hi t (λ_=>False) (λ_ _=>⟨rfl,rfl⟩) (λ_ r o v _ _ h=>by simp_all) (λ_ _ h=>h.elim) (λ_ _ _ _ h=>h.elim)
  (λ_ _ _ _ h=>h.elim) (λr o h=>by show r<w'.heap.size;rw[k];exact(hi.const r o h).1) (λ_ _ _ _ h=>h.elim) (λ_ _ _ h j=>(j h).elim),t⟩
theorem Je6{W:Nat->Nat->Prop}{w w':World}{x:Obj}(g:w'.heap=w.heap.push x)(ho:w'.os=w.os)(hp:w'.output=w.output):Jd6 W w w':=by
 have hr: ∀(r:Nat) y,w.heap[r]?=some y->w'.heap[r]?=some y:=by
  grind
 exact⟨by rw[g];simp,λr c e fz h=>⟨c,hr r _ h,rfl,λ_ _=>rfl⟩,λr y h _=>hr r y h,ho,hp⟩
theorem JeA{w w':World}{x:Obj}(e:w'.heap=w.heap.push x):w'.heap[w.heap.size]?=some x:=by rw[e];simp
theorem Jhu{w w':World}{x:Obj}(e:w'.heap=w.heap.push x){r o v}(h:J0L w r o=some v):J0L w' r o=some v:=
 (Je6 (W:=λ_ _=>False) (w:=w) (w':={w' with os:=w.os,output:=w.output}) e rfl rfl).cell (λh=>h) h
def J5v(g:Gh)(new:Nat)(x:Option (Nat×Nat)):Gh:=⟨λb=>if b=new then x else g.μ b,g.C⟩
theorem Jq6{s0 s:Sn}{new:Nat}{blk:Blk}(hd:s0.σ[new]?=some .dead)(hs:s.σ=s0.σ.set new blk)(x:Option (Nat×Nat))(j:s.g.μ=(J5v s0.g new x).μ):
  s0.σ.length<=s.σ.length/\(∀b cs,s0.σ[b]?=some (.box cs)->(∃cs',s.σ[b]?=some (.box cs')/\cs'.length=cs.length)/\s.g.μ b=s0.g.μ b)/\
  (∀b wm esz rows,s0.σ[b]?=some (.arr wm esz rows)-> ∃wm' rows',s.σ[b]?=some (.arr wm' esz rows')/\(wm'=true->wm=true)/\
  rows.length<=rows'.length/\(rows'.length=rows.length->s.g.μ b=s0.g.μ b)):=by
 have hn: ∀b y,s0.σ[b]?=some y->y≠.dead->s.σ[b]?=some y/\s.g.μ b=s0.g.μ b:=by
  intro b y hb hy;have h:new≠b:=by grind
  rw[hs,J4l h,j];exact⟨hb,if_neg (λe=>h e.symm)⟩
 simp_all
def JKv(s0:Sn)(c:Array Value):Blk->Prop
 | .box cs=>cs.length<=c.size/\ ∀(i:Nat) x,cs[i]?=some x-> ∃v,c[i]?=some v/\JK s0 x v/\v.oneCell'=true
 | .arr true esz rows=>(∀row∈rows,row.length=esz)/\rows.length*esz<=c.size/\
  ∀(i j:Nat) row x,rows[i]?=some row->row[j]?=some x-> ∃v,c[i*esz+j]?=some v/\J0r s0.w s0.g.C x v
 |_=>False
theorem Jj1{s0:Sn}(hi:Inv s0){new:Nat}(hd:s0.σ[new]?=some .dead){blk:Blk}{c:Array Value}{e:TypeId}{fz:Nat×Nat}{w':World}
  (y:w'.heap=s0.w.heap.push (.cells c e fz)) (ho:w'.os=s0.w.os) (hp:w'.output=s0.w.output) (hf:Jnv fz 0 c.size) (C: ∀wm esz rows,blk=.arr wm esz rows->esz≠1-> ¬(fz.1<=c.size/\c.size<fz.2)) (hb:JKv s0 c blk):
  Inv ⟨s0.σ.set new blk,J5v s0.g new (some (s0.w.heap.size,0)),w'⟩/\J0l s0 ⟨s0.σ.set new blk,J5v s0.g new (some (s0.w.heap.size,0)),w'⟩:=by
 have q:(s0.σ.set new blk)[new]?=some blk:=J1r hd;have E: ∀b r o,b≠new->(Wr1 ⟨s0.σ.set new blk,J5v s0.g new (some (s0.w.heap.size,0)),w'⟩ b r o↔Wr1 s0 b r o):=by simp_all [Wr1,J5v,Ne.symm]
 have H: ∀r o,Wr1 ⟨s0.σ.set new blk,J5v s0.g new (some (s0.w.heap.size,0)),w'⟩ new r o->r=s0.w.heap.size:=by
  intro r o h;unfold Wr1 at h;simp only[q,J5v]at h
  grind
 have I: ∀b r o,Wr1 s0 b r o->r<s0.w.heap.size:=by
  intro b r o h;unfold Wr1 at h;split at h
  ·rename_i cs hb;obtain⟨r',J,c',e',A,m,k,_⟩:=hi.box b cs hb
   grind
  ·rename_i hb;obtain⟨G,F⟩:=h;rcases hi.arr b _ _ _ hb with⟨m,_⟩|⟨r',c',e',A,m,k,_⟩
   all_goals grind
  ·rename_i hb;obtain⟨G,F,_⟩:=h;rcases hi.arr b _ _ _ hb with⟨m,_⟩|⟨r',c',e',A,m,k,_⟩
   all_goals grind
  ·exact h.elim
 have t:J0l s0 ⟨s0.σ.set new blk,J5v s0.g new (some (s0.w.heap.size,0)),w'⟩:=by
  obtain⟨k1,k2,D⟩:=Jq6 (s:=⟨s0.σ.set new blk,J5v s0.g new (some (s0.w.heap.size,0)),w'⟩) hd rfl (some (s0.w.heap.size,0)) rfl;refine⟨Je6 y ho hp,λ_ _ h=>h,λ_ _ h=>.inl h,?_,k1,k2,D⟩;rintro r o ⟨b,hb⟩;by_cases e:b=new
  ·grind
  ·exact .inl ⟨b,(E b r o e).1 hb⟩
 refine⟨J8c hi t (λb=>b=new) (λb z=>⟨J4l (Ne.symm z),if_neg z⟩) (λb r o v _ _ h=>Jhu y h) ?_ ?_ ?_ ?_ ?_ ?_,t⟩
 ·rintro b cs rfl n;rw[q]at n;injection n with n;subst n
  obtain⟨h1,h2⟩:=hb;refine⟨s0.w.heap.size,0,c,e,fz,if_pos rfl,JeA y,by omega,λi x hx=>?_,λo _ hl=>hf o (zQ2 _) (by omega)⟩;obtain⟨v,hv,hr,B⟩:=h2 i x hx;exact⟨v,by simp_all,hr.mono hi t,B⟩
 ·rintro b wm esz rows rfl n;rw[q]at n;injection n with n;subst n
  cases wm with
  |false=>exact hb.elim
  |true=>obtain⟨h1,h2,h3⟩:=hb;refine .inr ⟨s0.w.heap.size,c,e,fz,if_pos rfl,JeA y,h1,h2,λi j row x hr hx=>⟨?_,λh=>by cases h⟩,hf,C _ _ _ rfl⟩;obtain⟨v,hv,hr⟩:=h3 i j row x hr hx;exact⟨v,hv,hr.mono hi t⟩
 ·grind
 ·intro r o hc;show r<w'.heap.size;rw[y];have:=(hi.const r o hc).1;simp;omega
 ·rintro r o b hc rfl h;have:=(hi.const r o hc).1
  grind
 ·exact λr o b hc hn=>(hn hc).elim
theorem JdD{s0:Sn}(hi:Inv s0): ∀b r o,Wr1 s0 b r o->r<s0.w.heap.size:=by
 intro b r o h;unfold Wr1 at h;split at h
 ·rename_i cs hb;obtain⟨r',n,c',e',e,m,k,_⟩:=hi.box b cs hb
  grind
 ·rename_i hb;obtain⟨g,j⟩:=h;rcases hi.arr b _ _ _ hb with⟨m,_⟩|⟨r',c',e',e,m,k,_⟩
  all_goals grind
 ·rename_i hb;obtain⟨g,j,_⟩:=h;rcases hi.arr b _ _ _ hb with⟨m,_⟩|⟨r',c',e',e,m,k,_⟩
  all_goals grind
 ·exact h.elim
theorem JiS{s0:Sn}(hi:Inv s0){new:Nat}(hd:s0.σ[new]?=some .dead)(esz:Nat):
  Inv ⟨s0.σ.set new (.arr true esz []),J5v s0.g new none,s0.w⟩/\J0l s0 ⟨s0.σ.set new (.arr true esz []),J5v s0.g new none,s0.w⟩:=by
 have j:(s0.σ.set new (Blk.arr true esz []))[new]?=some (.arr true esz []):=J1r hd;have y: ∀b r o,b≠new->(Wr1 ⟨s0.σ.set new (.arr true esz []),J5v s0.g new none,s0.w⟩ b r o↔Wr1 s0 b r o):=by simp_all [Wr1,J5v,Ne.symm]
 have z: ∀r o,¬Wr1 ⟨s0.σ.set new (.arr true esz []),J5v s0.g new none,s0.w⟩ new r o:=by simp_all [Wr1,J5v]
 have t:J0l s0 ⟨s0.σ.set new (.arr true esz []),J5v s0.g new none,s0.w⟩:=by
  obtain⟨k1,k2,q⟩:=Jq6 (s:=⟨s0.σ.set new (.arr true esz []),J5v s0.g new none,s0.w⟩) hd rfl none rfl;refine⟨.refl _ _,λ_ _ h=>h,λ_ _ h=>.inl h,?_,k1,k2,q⟩;rintro r o ⟨b,hb⟩;by_cases e:b=new
  ·simp_all
  ·exact .inl ⟨b,(y b r o e).1 hb⟩
 refine⟨J8c hi t (λb=>b=new) (λb k=>⟨J4l (Ne.symm k),if_neg k⟩) (λb r o v _ _ h=>h) ?_ ?_ ?_ ?_ ?_ ?_,t⟩
 ·simp_all
 ·rintro b wm x rows rfl n;rw[j]at n;cases n;exact .inl ⟨if_pos rfl,rfl⟩
 ·simp_all
 ·exact λr o hc=>(hi.const r o hc).1
 ·simp_all
 ·exact λr o b hc hn=>(hn hc).elim
def JbK(g:Gh)(p:Nat->Nat->Prop):Gh:=⟨g.μ,λr o=>g.C r o\/p r o⟩
theorem JDu{s0:Sn}(hi:Inv s0){x:Obj}{w':World}
  (e:w'.heap=s0.w.heap.push x) (ho:w'.os=s0.w.os) (hp:w'.output=s0.w.output):
  Inv ⟨s0.σ,JbK s0.g λr _=>r=s0.w.heap.size,w'⟩/\J0l s0 ⟨s0.σ,JbK s0.g λr _=>r=s0.w.heap.size,w'⟩:=by
 have t:J0l s0 ⟨s0.σ,JbK s0.g λr _=>r=s0.w.heap.size,w'⟩:=by
  refine⟨Je6 e ho hp,λ_ _ h=>.inl h,λr o h=>?_,λr o h=>.inl h,zQ0 _,λ_ cs h=>⟨⟨cs,h,rfl⟩,rfl⟩,
   λ_ wm _ rows h=>⟨wm,rows,h,id,zQ0 _,λ_=>rfl⟩⟩
  rcases h with h|h
  all_goals simp_all
 refine⟨J8c hi t (λ_=>False) (λ_ _=>⟨rfl,rfl⟩) (λb r o v _ _ h=>Jhu e h) (λ_ _ h=>h.elim) (λ_ _ _ _ h=>h.elim)
  (λ_ _ _ _ h=>h.elim) ?_ (λ_ _ _ _ h=>h.elim) ?_,t⟩
 ·intro r o hc;show r<w'.heap.size;rw[e];rcases hc with hc|hc
  ·have:=(hi.const r o hc).1;simp;omega
  ·simp;omega
 ·intro r o b hc hn _ h;rcases hc with hc|hc
  ·exact hn hc
  ·have:=JdD hi b r o h;omega
structure Put(r:Nat)(o:Nat)(vs:List Value)(w w':World):Prop where
 there: ∃c e fz c',w.heap[r]?=some (.cells c e fz)/\w'.heap[r]?=some (.cells c' e fz)/\c'.size=c.size/\o+vs.length<=c.size/\
  (∀(j:Nat) v,vs[j]?=some v->c'[o+j]?=some v)/\ ∀k,(k<o\/o+vs.length<=k)->c'[k]?=c[k]?
 rest: ∀r':Nat,r'≠r->w'.heap[r']?=w.heap[r']?
 size:w'.heap.size=w.heap.size
 os:w'.os=w.os
 output:w'.output=w.output
theorem Put.keep{W:Nat->Nat->Prop}{r o vs w w'}(h:Put r o vs w w')(hw: ∀k,o<=k->k<o+vs.length->W r k):Jd6 W w w':=by
 obtain⟨c,e,fz,c',h1,h2,h3,_,_,h5⟩:=h.there;refine⟨Nat.le_of_eq h.size.symm,λr' g e1 fz1 hr=>?_,λr' x hr hx=>?_,h.os,h.output⟩
 ·by_cases e':r'=r
  ·grind
  ·exact⟨g,by rw[h.rest r' e'];exact hr,rfl,λ_ _=>rfl⟩
 ·by_cases e':r'=r
  ·grind
  ·rw[h.rest r' e'];exact hr
theorem Put.cell{r o vs w w'}(h:Put r o vs w w'){r' k v}(hv:J0L w r' k=some v)(hn:r'≠r\/k<o\/o+vs.length<=k):J0L w' r' k=some v:=by
 obtain⟨c,e,fz,c',h1,h2,h3,_,_,h5⟩:=h.there;by_cases e':r'=r
 ·grind [J3g]
 ·unfold J0L;rw[h.rest r' e'];exact hv
inductive Jl1:Blk->Blk->Prop where
 |box (cs cs':List AV):cs'.length=cs.length->Jl1 (.box cs) (.box cs')
 |arr (esz:Nat) (rows rows':List (List PV)):rows'.length=rows.length->Jl1 (.arr true esz rows) (.arr true esz rows')
theorem Jij{s0:Sn}(hi:Inv s0){b:Nat}{A blk:Blk}{r o:Nat}{vs:List Value}{w':World}(hb:s0.σ[b]?=some A)
  (q:Put r o vs s0.w w') (hw: ∀k,o<=k->k<o+vs.length->Wr1 s0 b r k)
  (hk:Jl1 A blk)
  (B: ∀cs,blk=.box cs->(∀{x v},JK s0 x v->JK ⟨s0.σ.set b blk,s0.g,w'⟩ x v)->Jt2 ⟨s0.σ.set b blk,s0.g,w'⟩ b cs)
  (D: ∀esz rows,blk=.arr true esz rows->(∀{x v},J0r s0.w s0.g.C x v->J0r w' s0.g.C x v)->Jtf ⟨s0.σ.set b blk,s0.g,w'⟩ b true esz rows):
  Inv ⟨s0.σ.set b blk,s0.g,w'⟩/\J0l s0 ⟨s0.σ.set b blk,s0.g,w'⟩:=by
 have n:(s0.σ.set b blk)[b]?=some blk:=J1r hb;have z: ∀j r o,(Wr1 ⟨s0.σ.set b blk,s0.g,w'⟩ j r o↔Wr1 s0 j r o):=by
  intro j r o;by_cases e:j=b
  ·subst e;unfold Wr1;simp only[n,hb];cases hk<;>simp_all
  grind [Wr1]
 have t:J0l s0 ⟨s0.σ.set b blk,s0.g,w'⟩:=by
  refine⟨q.keep λk h1 h2=>⟨b,hw k h1 h2⟩,λ_ _ h=>h,λ_ _ h=>.inl h,λr o ⟨j,h⟩=>.inl ⟨j,(z j r o).1 h⟩,by simp,λj cs h=>?_,λj wm esz rows h=>?_⟩
  ·by_cases e:j=b
   ·subst e;rw[hb]at h;injection h with h;subst h
    cases hk<;>simp_all
   grind
  ·by_cases e:j=b
   ·subst e;rw[hb]at h;injection h with h;subst h
    cases hk<;>simp_all
   grind
 refine⟨J8c hi t (λj=>j=b) (λj y=>⟨J4l (Ne.symm y),rfl⟩) ?_ ?_ ?_ ?_ ?_ ?_ ?_,t⟩
 ·intro j r' k v y F hv;refine q.cell hv ?_;rcases zQ3 k o with h|h
  ·simp_all
  ·rcases zQ3 k (o+vs.length)with E|E
   ·refine .inl λe=>y ?_;subst e;exact hi.apart _ _ _ _ F (hw k h E)
   simp_all
 ·rintro j cs rfl h;rw[n]at h;injection h with h;subst h
  exact B _ rfl λh=>h.mono hi t
 ·rintro j wm esz rows rfl h;rw[n]at h;injection h with h;subst h
  cases hk with
  |arr _ _ rows' hl=>exact D _ _ rfl λh=>h.mono hi t
 ·rintro b1 b2 r o rfl h1 h2;exact hi.apart _ _ _ _ ((z _ _ _).1 h1) ((z _ _ _).1 h2)
 ·intro r o hc;show r<w'.heap.size;rw[q.size];exact(hi.const r o hc).1
 ·rintro r o j hc rfl h;exact(hi.const r o hc).2 _ ((z _ _ _).1 h)
 simp_all
end Go.Am
end
section
namespace Go.Am
theorem J68{a b n e:Nat}(h1:a<n)(h2:b<e):a*e+b<n*e:=by
 have h:(a+1)*e<=n*e:=zQ4 e h1
 grind
theorem Jw{α:Type}{l:List α}{i:Nat}{x:α}(h:l[i]?=some x):i<l.length:=by
 grind
theorem Jcl{α:Type}{l:Array α}{i:Nat}{x:α}(h:l[i]?=some x):i<l.size:=by
 grind
theorem J1F{α:Type}{l:List α}{i:Nat}{x:α}(h:l[i]?=some x):x∈l:=zQ5 h
def Frz(σ τ:List Blk):Prop:=(∀(b:Nat) wm esz rows,σ[b]?=some (Blk.arr wm esz rows)-> ∃wm',τ[b]?=some (Blk.arr wm' esz rows))/\(∀(b:Nat) x,σ[b]?=some x->(∀wm esz rows,x≠Blk.arr wm esz rows)->τ[b]?=some x)
theorem Frz.refl(σ):Frz σ σ:=⟨λ_ wm _ _ h=>⟨wm,h⟩,λ_ _ h _=>h⟩
theorem Frz.trans{a b c}(h:Frz a b)(e:Frz b c):Frz a c:=
 ⟨λn wm esz rows hn=>let⟨wm',h1⟩:=h.1 n wm esz rows hn;e.1 n wm' esz rows h1,λn x hn hx=>e.2 n x (h.2 n x hn hx) hx⟩
theorem JBn{s0:Sn}(hi:Inv s0){b:Nat}{wm:Bool}{esz:Nat}{rows:List (List PV)}(hb:s0.σ[b]?=some (.arr wm esz rows)):
  ∃g',g'.μ=s0.g.μ/\Inv ⟨s0.σ.set b (.arr false esz rows),g',s0.w⟩/\J0l s0 ⟨s0.σ.set b (.arr false esz rows),g',s0.w⟩/\
   Frz s0.σ (s0.σ.set b (.arr false esz rows)):=by
 have q:(s0.σ.set b (.arr false esz rows))[b]?=some (.arr false esz rows):=J1r hb;have y:Frz s0.σ (s0.σ.set b (.arr false esz rows)):=by
  refine⟨λn wm' B rows' hn=>?_,λn x hn hx=>?_⟩
  all_goals grind
 cases wm with
 |false=>
  have hs:s0.σ.set b (.arr false esz rows)=s0.σ:=by
   apply zQ6
   grind
  refine⟨s0.g,rfl,?_,?_,y⟩
  all_goals simp_all [J0l.refl]
 |true=>
  refine⟨JbK s0.g λr o=>s0.g.μ b=some (r,0)/\o<rows.length*esz,rfl,?_⟩;have D: ∀k r o,Wr1 ⟨s0.σ.set b (.arr false esz rows),JbK s0.g λr o=>s0.g.μ b=some (r,0)/\o<rows.length*esz,s0.w⟩ k r o->Wr1 s0 k r o:=by
   intro k r o h;by_cases e:k=b
   ·subst e;unfold Wr1 at h⊢;simp only[q,hb]at h⊢;obtain⟨G,m,_⟩:=h;exact⟨G,m⟩
   ·unfold Wr1 at h⊢;simp only[J4l (Ne.symm e)]at h;exact h
  have t:J0l s0 ⟨s0.σ.set b (.arr false esz rows),JbK s0.g λr o=>s0.g.μ b=some (r,0)/\o<rows.length*esz,s0.w⟩:=by
   refine⟨.refl _ _,λ_ _ h=>.inl h,λr o h=>?_,λr o ⟨k,h⟩=>.inl ⟨k,D k r o h⟩,by simp,λk cs h=>?_,λk wm B rows' h=>?_⟩
   ·rcases h with h|⟨h,_⟩
    ·exact .inl h
    ·refine .inr (.inl ⟨b,?_⟩)
     grind [Wr1]
   ·refine⟨⟨cs,y.2 k _ h (by simp),rfl⟩,rfl⟩
   ·by_cases e:k=b
    ·subst e;rw[hb]at h;injection h with h;injection h with h1 h2 h3;subst h1 h2 h3
     exact⟨false,rows,q,by simp,zQ0 _,λ_=>rfl⟩
    ·exact⟨wm,rows',by grind,id,zQ0 _,λ_=>rfl⟩
  refine⟨J8c hi t (λk=>k=b) (λk z=>⟨J4l (Ne.symm z),rfl⟩) (λ_ _ _ _ _ _ h=>h) ?_ ?_ ?_ ?_ ?_ ?_,t,y⟩
  ·simp_all
  ·rintro k wm B rows' rfl h;rw[q]at h;cases h;rcases hi.arr _ _ _ _ hb with⟨m,hr⟩|⟨r,c,e,fz,m,F,C,hl,hx,hf⟩
   ·exact .inl ⟨m,hr⟩
   ·refine .inr ⟨r,c,e,fz,m,F,C,hl,λi j row x A E=>?_,hf⟩;obtain⟨⟨v,hv,hr⟩,_⟩:=hx i j row x A E;refine⟨⟨v,hv,hr.mono hi t⟩,λ_=>.inr ⟨m,?_⟩⟩;have h1:=Jw A;have h2:=Jw E;rw[C row (J1F A)]at h2;simp_all [J68]
  ·rintro b1 b2 r o rfl h1 h2;exact hi.apart _ _ _ _ (D _ _ _ h1) (D _ _ _ h2)
  ·intro r o hc;rcases hc with hc|⟨hc,_⟩
   ·exact(hi.const r o hc).1
   ·rcases hi.arr _ _ _ _ hb with⟨m,_⟩|⟨r',c,e,fz,m,F,_⟩
    all_goals grind
  ·rintro r o k hc rfl h;rcases hc with hc|⟨hc,ho⟩
   ·exact(hi.const r o hc).2 _ (D _ _ _ h)
   grind [Wr1]
  ·intro r o k hc hn z h;rcases hc with hc|⟨hc,ho⟩
   ·exact hn hc
   ·refine z (hi.apart _ _ r o h ?_)
    grind [Wr1]
def J6a(s:Sn)(esz:Nat)(rows:List (List PV))(v:Value):Prop:= ∃a cap,v=.slice a rows.length cap/\rows.length<=cap/\(∀row∈rows,row.length=esz)/\(rows=[]\/ ∃r o,a=some ⟨r,o,none⟩/\ ∀(i j:Nat) row x,rows[i]?=some row->row[j]?=some x-> ∃u,J0L s.w r (o+i*esz+j)=some u/\J0r s.w s.g.C x u)
theorem J6a.of_sl{s:Sn}{esz rows v}(h:J0r s.w s.g.C (.sl esz rows) v):J6a s esz rows v:=by
 cases h with
 |sl0 _ a cap=>exact⟨a,cap,rfl,zQ2 _,(λ_ h=>by cases h),.inl rfl⟩
 |sl _ _ r o cap vals h1 h2 h3 h4=>exact⟨_,cap,rfl,h1,h2,.inr ⟨r,o,rfl,λi j row x hr hx=>⟨_,(h3 i j row x hr hx).2,h4 i j row x hr hx⟩⟩⟩
theorem J6a.of_slr{s:Sn}(hi:Inv s){b i n v wm esz rows}(h:JK s (.slr b i n) v)(hb:s.σ[b]?=some (.arr wm esz rows))(e:i+n=rows.length):
  J6a s esz (rows.drop i) v:=by
 cases h with
 |slr _ _ _ _ wm' y rows' _ h1 h2 h3=>
  rw[hb]at h1;injection h1 with h1;injection h1 with a1 a2 a3;subst a1 a2 a3
  have hl:(rows.drop i).length=n:=by simp;omega
  rcases h3 e with⟨m,q,hn,hv⟩|⟨r,cap,c,e1,fz,m,hv,w,B,hs⟩
  ·subst q hn;have:rows=[]:=by grind
   subst this;exact⟨none,0,by simp[hv],by simp,by simp,.inl rfl⟩
  ·rcases hi.arr b wm esz rows hb with⟨g,_⟩|⟨r',c',e',A,g,z,o,hlen,hx,_⟩
   ·simp_all
   ·rw[m]at g;injection g with g;injection g with g _;subst g
    refine⟨some ⟨r,i*esz,none⟩,cap,by simp_all,by omega,λrow hr=>o row (zQ7 hr),.inr ⟨r,i*esz,rfl,λk j row x hk hj=>?_⟩⟩
    grind [J3g]
theorem J6a.mono{s0 s:Sn}(hi:Inv s0)(t:J0l s0 s){esz rows v}(h:J6a s0 esz rows v)(hc: ∀r o u,J0L s0.w r o=some u->J0L s.w r o=some u):J6a s esz rows v:=by obtain⟨a,cap,h1,h2,h3,h4⟩:=h;refine⟨a,cap,h1,h2,h3,h4.imp id ?_⟩;rintro⟨r,o,ha,hx⟩;exact⟨r,o,ha,λi j row x hr hj=>let⟨u,h5,e⟩:=hx i j row x hr hj;⟨u,hc _ _ _ h5,e.mono hi t⟩⟩
theorem JeJ{s:Sn}{esz:Nat}{rows:List (List PV)}{v:Value}{a:Option Addr}{cap:Nat}(hv:v=.slice a rows.length cap)(e:rows.length<=cap)
  (h: ∀row∈rows,row.length=esz)
  (hx:rows=[]\/ ∃r o,a=some ⟨r,o,none⟩/\ ∀(i j:Nat) row x,rows[i]?=some row->row[j]?=some x->s.g.C r (o+i*esz+j)/\ ∃u,J0L s.w r (o+i*esz+j)=some u/\J0r s.w s.g.C x u):
  J0r s.w s.g.C (.sl esz rows) v:=by
 subst hv;rcases hx with rfl|⟨r,o,rfl,hx⟩
 ·exact .sl0 _ _ _
 ·refine .sl esz rows r o cap (λi j=>(J0L s.w r (o+i*esz+j)).getD .nilFunc) e h (λi j row x hr hj=>?_) λi j row x hr hj=>?_
  all_goals grind
theorem JDO{s0:Sn}(hi:Inv s0){b i n:Nat}{v:Value}{wm:Bool}{esz:Nat}{rows:List (List PV)}(h:JK s0 (.slr b i n) v)(hb:s0.σ[b]?=some (.arr wm esz rows))
  (e:i+n=rows.length):
  ∃g',Inv ⟨s0.σ.set b (.arr false esz rows),g',s0.w⟩/\J0l s0 ⟨s0.σ.set b (.arr false esz rows),g',s0.w⟩/\
   Frz s0.σ (s0.σ.set b (.arr false esz rows))/\J0r s0.w g'.C (.sl esz (rows.drop i)) v:=by
 obtain⟨g',K,q,t,hf⟩:=JBn hi hb;refine⟨g',q,t,hf,?_⟩;have A:=h.mono hi t;have y:(s0.σ.set b (.arr false esz rows))[b]?=some (.arr false esz rows):=J1r hb;obtain⟨a,cap,h1,h2,h3,h4⟩:=J6a.of_slr q A y e;refine JeJ (s:=⟨s0.σ.set b (.arr false esz rows),g',s0.w⟩) h1 h2 h3 (h4.imp id ?_);rintro⟨r,o,rfl,hx⟩;refine⟨r,o,rfl,λk j row x hk hj=>⟨?_,hx k j row x hk hj⟩⟩;cases A with
 |slr _ _ _ _ wm' z rows' _ q1 q2 q3=>
  have g:(s0.σ.set b (.arr false esz rows))[b]?=some (.arr wm' z rows'):=q1;rw[y]at g;injection g with g;injection g with a1 a2 a3;subst a1 a2 a3
  rcases q3 e with⟨m,J,hn,hv⟩|⟨r',B,c,e1,fz,m,hv,D,L,hs⟩
  ·simp_all
  ·rw[h1]at hv;injection hv with v1 v2 v3;injection v1 with v1;injection v1 with v1 v4;subst v1 v4
   rcases q.arr b false esz rows y with⟨E,_⟩|⟨r',c',e',I,E,H,F,hlen,G,_⟩
   all_goals grind
end Go.Am
end
section
namespace Go.Am
theorem JfB{α:Type}{a b:List α}{i:Nat}{x:α}(h:(a++b)[i]?=some x):a[i]?=some x\/(a.length<=i/\b[i-a.length]?=some x):=by
 grind
def JBB(g:Gh)(wm:Bool)(r lo hi:Nat):Gh:=JbK g λr' o=>wm=false/\r'=r/\lo<=o/\o<hi
theorem JHc{s0:Sn}(hi:Inv s0){b:Nat}{wm:Bool}{esz:Nat}{rows new:List (List PV)}{r:Nat}{vs:List Value}{w':World}
  (hb:s0.σ[b]?=some (.arr wm esz rows)) (hm:s0.g.μ b=some (r,0)) (M: ∀row∈new,row.length=esz)
  (z:Put r (rows.length*esz) vs s0.w w') (hlen:vs.length=new.length*esz)
  (hx: ∀(i j:Nat) row x,new[i]?=some row->row[j]?=some x-> ∃u,vs[i*esz+j]?=some u/\J0r s0.w s0.g.C x u):
  Inv ⟨s0.σ.set b (.arr wm esz (rows++new)),JBB s0.g wm r (rows.length*esz) ((rows.length+new.length)*esz),w'⟩/\
  J0l s0 ⟨s0.σ.set b (.arr wm esz (rows++new)),JBB s0.g wm r (rows.length*esz) ((rows.length+new.length)*esz),w'⟩:=by
 have A:(s0.σ.set b (.arr wm esz (rows++new)))[b]?=some (.arr wm esz (rows++new)):=J1r hb;have Q:(rows.length+new.length)*esz=rows.length*esz+new.length*esz:=zQ8 _ _ _;generalize hs:(⟨s0.σ.set b (.arr wm esz (rows++new)),JBB s0.g wm r (rows.length*esz) ((rows.length+new.length)*esz),w'⟩:Sn)=s;have H:s.σ=s0.σ.set b (.arr wm esz (rows++new)):=by rw[<-hs]
 have R:s.g.μ=s0.g.μ:=by rw[<-hs];rfl
 have B: ∀r' o,s.g.C r' o↔s0.g.C r' o\/(wm=false/\r'=r/\rows.length*esz<=o/\o<(rows.length+new.length)*esz):=by rw[<-hs];exact λ_ _=>Iff.rfl
 have hw:s.w=w':=by rw[<-hs]
 have I: ∀n r' o,Wr1 s n r' o->Wr1 s0 n r' o:=by
  intro n r' o h;by_cases e:n=b
  ·subst e;unfold Wr1 at h⊢;rw[H,A]at h;rw[hb];cases wm<;>grind
  grind [Wr1]
 have y: ∀o,rows.length*esz<=o->Wr1 s0 b r o:=by intro o ho;unfold Wr1;rw[hb];cases wm<;>simp_all
 have t:J0l s0 s:=by
  refine⟨?_,λr o h=>(B r o).2 (.inl h),λr' o h=>?_,λr o ⟨n,h⟩=>.inl ⟨n,I n r o h⟩,by rw[H];simp,λn cs h=>?_,λn wm' K rows' h=>?_⟩
  ·rw[hw];exact z.keep λk h1 _=>⟨b,y k h1⟩
  ·rcases(B r' o).1 h with h|⟨_,e,h,_⟩
   ·exact .inl h
   ·subst e;exact .inr (.inl ⟨b,y o h⟩)
  ·grind
  ·by_cases e:n=b
   ·subst e;rw[hb]at h;injection h with h;injection h with h1 h2 h3;subst h1 h2 h3
    grind
   grind
 refine⟨J8c hi t (λn=>n=b) (λn D=>⟨by grind,by rw[R]⟩) ?_ ?_ ?_ ?_ ?_ ?_ ?_,t⟩
 ·intro n r' k v D P hv;rw[hw];refine z.cell hv ?_;by_cases F:r'=r
  ·subst F;rcases zQ3 k (rows.length*esz)with h|h
   ·simp_all
   ·exact(D (hi.apart _ _ _ _ P (y k h))).elim
  simp_all
 ·simp_all
 ·rintro n wm' K rows' rfl h;rw[H,A]at h;cases h;obtain⟨c,e,fz,c',S,W,V,Z,Y,p6⟩:=z.there;rcases hi.arr _ _ _ _ hb with⟨m,_⟩|⟨r',c0,e0,T,m,G,L,hl,N,hf⟩
  ·simp_all
  ·rw[hm]at m;injection m with m;injection m with m _;subst m
   rw[S]at G;injection G with G;injection G with q1 q2 q3;subst q1 q2 q3
   refine .inr ⟨r,c',e,fz,by simp_all,by simp_all,?_,?_,?_,?_⟩
   ·grind
   ·simp_all
   ·intro i j row x q E;rcases JfB q with q|⟨U,q⟩
    ·obtain⟨⟨v,hv,hr⟩,hc⟩:=N i j row x q E;have h1:=Jw q;have h2:=Jw E;rw[L row (J1F q)]at h2;have:=J68 h1 h2;exact⟨⟨v,by simp_all,hr.mono hi t⟩,λe=>(B _ _).2 (.inl (hc e))⟩
    ·obtain⟨u,hu,hr⟩:=hx _ j row x q E;have h1:=Jw q;have h2:=Jw E;rw[M row (J1F q)]at h2;have h3:=J68 h1 h2;have h4:i*esz+j=rows.length*esz+((i-rows.length)*esz+j):=by
      grind [Nat.add_sub_cancel']
     refine⟨⟨u,by simp_all,hr.mono hi t⟩,λe=>(B _ _).2 (.inr ⟨e,rfl,by omega,by simp_all⟩)⟩
   simp_all
 ·rintro b1 b2 r o rfl h1 h2;exact hi.apart _ _ _ _ (I _ _ _ h1) (I _ _ _ h2)
 ·intro r' o hc;rw[hw,z.size];rcases(B r' o).1 hc with hc|⟨_,e,_⟩
  ·exact(hi.const r' o hc).1
  ·subst e;exact JdD hi b _ _ (y _ (zQ0 _))
 ·rintro r' o n hc rfl h;rcases(B r' o).1 hc with hc|⟨e,F,J,O⟩
  ·exact(hi.const r' o hc).2 _ (I _ _ _ h)
  ·subst e F;unfold Wr1 at h;rw[H,A]at h
   grind
 ·intro r' o n hc hn D h;rcases(B r' o).1 hc with hc|⟨e,F,J,O⟩
  ·exact hn hc
  ·subst F;exact D (hi.apart _ _ _ o h (y o J))
theorem JFb{s0:Sn}(hi:Inv s0){b:Nat}{wm:Bool}{esz:Nat}{rows new:List (List PV)}{c:Array Value}{e:TypeId}{w':World}
  (hb:s0.σ[b]?=some (.arr wm esz rows)) (z:new≠[]) (I: ∀row∈rows,row.length=esz) (L: ∀row∈new,row.length=esz)
  (M:w'.heap=s0.w.heap.push (.cells c e (0,0))) (ho:w'.os=s0.w.os) (hp:w'.output=s0.w.output)
  (H:(rows.length+new.length)*esz<=c.size)
  (hx: ∀(i j:Nat) row x,(rows++new)[i]?=some row->row[j]?=some x-> ∃u,c[i*esz+j]?=some u/\J0r s0.w s0.g.C x u):
  ∃g',g'.μ b=some (s0.w.heap.size,0)/\Inv ⟨s0.σ.set b (.arr wm esz (rows++new)),g',w'⟩/\J0l s0 ⟨s0.σ.set b (.arr wm esz (rows++new)),g',w'⟩:=by
 have y:(s0.σ.set b (.arr wm esz (rows++new)))[b]?=some (.arr wm esz (rows++new)):=J1r hb;refine⟨⟨λk=>if k=b then some (s0.w.heap.size,0)else s0.g.μ k,λr o=>s0.g.C r o\/(wm=false/\r=s0.w.heap.size/\o<(rows.length+new.length)*esz)⟩,if_pos rfl,?_⟩;generalize hs:(⟨s0.σ.set b (.arr wm esz (rows++new)),_,w'⟩:Sn)=s;have G:s.σ=s0.σ.set b (.arr wm esz (rows++new)):=by rw[<-hs]
 have N: ∀k,s.g.μ k=if k=b then some (s0.w.heap.size,0)else s0.g.μ k:=by grind
 have q: ∀r' o,s.g.C r' o↔s0.g.C r' o\/(wm=false/\r'=s0.w.heap.size/\o<(rows.length+new.length)*esz):=by rw[<-hs];simp_all
 have hw:s.w=w':=by rw[<-hs]
 have J:0<new.length:=List.length_pos_iff.2 z;have F: ∀k r' o,k≠b->(Wr1 s k r' o↔Wr1 s0 k r' o):=by simp_all [Wr1,Ne.symm]
 have E: ∀r' o,Wr1 s b r' o->r'=s0.w.heap.size/\(wm=false->(rows.length+new.length)*esz<=o):=by
  grind [Wr1]
 have t:J0l s0 s:=by
  refine⟨?_,λr o h=>(q r o).2 (.inl h),λr' o h=>?_,λr o ⟨k,h⟩=>?_,by rw[G];simp,λk cs h=>?_,λk wm' D rows' h=>?_⟩
  ·grind [Je6]
  ·grind
  ·by_cases n:k=b
   ·grind
   ·exact .inl ⟨k,(F k r o n).1 h⟩
  ·grind
  ·by_cases n:k=b
   ·subst n;rw[hb]at h;injection h with h;injection h with h1 h2 h3;subst h1 h2 h3
    exact⟨wm,rows++new,by simp_all,id,by simp,λh=>by simp_all⟩
   grind
 refine⟨J8c hi t (λk=>k=b) (λk hn=>⟨by grind,by simp_all⟩) (λb r o v _ _ h=>by grind [Jhu]) ?_ ?_ ?_ ?_ ?_ ?_,t⟩
 ·simp_all
 ·rintro k wm' D rows' rfl h;rw[G,y]at h;cases h;refine .inr ⟨s0.w.heap.size,c,e,(0,0),by simp_all,by simp_all,?_,by simp_all,?_,Jdz.zero _ _⟩
  ·grind
  ·intro i j row x A B;obtain⟨u,hu,hr⟩:=hx i j row x A B;refine⟨⟨u,hu,hr.mono hi t⟩,λK=>(q _ _).2 (.inr ⟨K,rfl,?_⟩)⟩;have h1:=Jw A;have h2:=Jw B;have h3:row.length=esz:=by
    grind
   simp_all [J68]
 ·rintro b1 b2 r o rfl h1 h2;by_cases n:b2=b1
  ·exact n.symm
  ·have:=JdD hi _ _ _ ((F b2 r o n).1 h2)
   grind
 ·intro r' o hc;rw[hw,M];rcases(q r' o).1 hc with hc|⟨_,hc,_⟩
  ·have:=(hi.const r' o hc).1;simp;omega
  ·simp;omega
 ·rintro r' o k hc rfl h;have h1:=E _ _ h;rcases(q r' o).1 hc with hc|⟨e1,hc,ho⟩
  ·have:=(hi.const r' o hc).1;omega
  grind
 ·intro r' o k hc hn z h;rcases(q r' o).1 hc with hc|⟨_,hc,_⟩
  ·exact hn hc
  ·have:=JdD hi _ _ _ h;omega
end Go.Am
end
section
namespace Go.Am
def okP:PV->Value->Bool
 | .b x,.bool y=>x==y
 | .i k n,.int k' e=>k==k'&&n==e
 | .s l,.string g=>l==g.data.toList
 | .sl _ [],.slice none 0 0=>true
 | .np,.pointer none=>true
 | .nf,.nilFunc=>true
 |_,_=>false
def Jk8:List PV->List Value->Bool
 |[],[]=>true
 |x::xs,v::vs=>okP x v&&Jk8 xs vs
 |_,_=>false
def okC:AV->Value->Bool
 | .p c,v=>okP c v
 | .data cs,.agg vs=>Jk8 cs vs.toList
 | .fn f [] [],.func (.func g) a c=>f==g&&a.isEmpty&&c.isEmpty
 | .tup [],.tuple vs=>vs.isEmpty
 |_,_=>false
def J1h:Opd->Operand->Bool
 | .t n,.tmp m=>n==m
 | .c x,.const v=>okC x v
 | .c (.fn f [] []),.func g=>f==g
 |_,_=>false
def J6o:List Opd->List Operand->Bool
 |[],[]=>true
 |x::xs,y::e=>J1h x y&&J6o xs e
 |_,_=>false
def Jdt:Option Opd->Option Operand->Bool
 |none,none=>true
 |some x,some y=>J1h x y
 |_,_=>false
section
variable (P:Program)
def szT(t:TypeId):Option Nat:=(P.info? t).map (·.size)
def byT(t:TypeId):Option Nat:=(P.info? t).map (·.bytes)
def zeT(t:TypeId):Option Value:=(P.info? t).bind (·.zero)
def JkL:TypeDesc->Bool
 | .struct _| .array _ _=>true
 |_=>false
def agT(t:TypeId):Option Bool:=(P.underlying t).map JkL
def elT(t:TypeId):Option TypeId:=match P.underlying t with
 |some (.slice e)=>some e
 |_=>none
def J6B(t:TypeId):Bool:=match P.underlying t with
 |some .string=>true
 |_=>false
def JAR(t:TypeId):Bool:=match P.underlying t with
 |some (.int .u8)=>true
 |_=>false
def Jpk(t:TypeId):Bool:=match P.underlying t with
 |some .bool=>true
 |_=>false
def JBf(t:TypeId):Bool:=match P.underlying t with
 |some (.int _)=>true
 |_=>false
def Juk(k:IntKind)(t:TypeId):Bool:=match P.underlying t with
 |some (.int k')=>k==k'
 |_=>false
def arT(t:TypeId):Option (Nat×TypeId):=match P.underlying t with
 |some (.array n e)=>some (n,e)
 |_=>none
def flT(t:TypeId):Option (Array Field):=match P.underlying t with
 |some (.struct fs)=>some fs
 |_=>none
def Jfc(K:TypeId->Option (List KD)):Nat->List Field->Option (List KD)
 |_,[]=>some []
 |off,f::fs=>
  if f.name= "_" ∨f.offset≠off then none
  else match K f.type with
   |none=>none
   |some ks=>if szT P f.type=some ks.length/\0<ks.length then
    match Jfc K (off+ks.length) fs with
    |some l=>some (ks++l)
    |none=>none
    else none
def Jau:Nat->TypeId->Option (List KD)
 |0,_=>none
 |d+1,t=>match P.underlying t with
  |some .bool=>some [.b]
  |some (.int k)=>some [.i k]
  |some .string=>some [.s]
  |some (.struct fs)=>if P.stoodInHeld t then none else Jfc P (Jau d) 0 fs.toList
  |some (.array n e)=>match Jau d e with
   |some ks=>if szT P e=some ks.length/\0<ks.length then some (List.replicate n ks).flatten else none
   |none=>none
  |_=>none
def JJd(t:TypeId):Operand->Bool
 | .const (.slice none 0 0)=>(elT P t).isSome
 |_=>false
def JGP(t:TypeId):Operand->Bool
 | .const (.pointer none)=>(match P.underlying t with|some (.pointer _)=>true|_=>false)
 |_=>false
def JJH(t:TypeId):Operand->Bool
 | .const .nilFunc=>(match P.underlying t with|some (.func _ _ _)=>true|_=>false)
 |_=>false
def Jal(zero:List PV)(t:TypeId):Bool:=match zeT P t with
 |some v=>Jk8 zero v.cells.toList
 |none=>false
def Jtc(t:TypeId)(os:List (Nat×Nat)):Bool:=match zeT P t with
 |some v=>os.all λx=>match v.cells[x.1]? with
  |some (.slice none 0 0)=>true
  |_=>false
 |none=>false
def J6v(place:Nat->Option (Nat×Nat)):List (Nat×Nat×Opd)->List (Nat×Operand)->Bool
 |[],[]=>true
 |(off,size,x)::r,(i,y)::q=>place i==some (off,size)&&J1h x y&&J6v place r q
 |_,_=>false
def JcC(fs:Array Field)(i:Nat):Option (Nat×Nat):=match fs[i]? with
 |some f=>(szT P f.type).map λn=>(f.offset,n)
 |none=>none
def JiO:List (Nat×Opd)->List (Nat×Operand)->Bool
 |[],[]=>true
 |(i,x)::r,(j,y)::q=>i==j&&J1h x y&&JiO r q
 |_,_=>false
def JX(F:AOp)(op:Op):Bool:=
 match F with
 | .mv x=>match op with
  | .move y| .assign y=>J1h x y
  |_=>false
 | .mkarr _ x=>match op with
  | .move (.const (.slice none 0 0))| .assign (.const (.slice none 0 0))=>(match x with| .c _=>true|_=>false)
  |_=>false
 | .pick c a b=>match op with
  | .pick c' G E=>J1h c c'&&J1h a G&&J1h b E
  |_=>false
 | .newbox zero=>match op with
  | .alloc t=>Jal P zero t
  |_=>false
 | .box _ x=>match op with
  | .box _ y=>J1h x y
  |_=>false
 | .build zero parts=>match op with
  | .build t ps=>Jal P zero t&&(match P.underlying t with
   |some (.struct fs)=>(fs.all λf=>(szT P f.type).isSome)&&J6v (JcC P fs) parts ps.toList
   |some (.array _ e)=>(match szT P e with
    |some n=>J6v (λi=>some (i*n,n)) parts ps.toList
    |none=>false)
   |_=>false)
  |_=>false
 | .lits _ esz n zero parts=>match op with
  | .buildSlice t len ps=>len==n&&(match elT P t with
   |some e=>szT P e==some esz&&decide (n*esz<=16777216)&&Jal P zero e&&zero.length==esz&&decide (0<esz)&&JiO parts ps.toList
   |none=>false)
  |_=>false
 | .load agg size x=>match op with
  | .load t y=>agT P t==some agg&&szT P t==some size&&J1h x y&&(agg||size==1)
  |_=>false
 | .store size x v=>match op with
  | .store t y u=>szT P t==some size&&J1h x y&&J1h v u
  |_=>false
 | .nilchk x=>match op with
  | .nilCheck y=>J1h x y
  |_=>false
 | .bin I bt x y=>match op with
  | .binOp A t o h _=>I==A&&J1h x o&&(match bt with
   | .plain=>J1h y h
   | .bool=>J1h y h&&Jpk P t
   | .flat ks=>J1h y h&&Jau P 100 t==some ks&&agT P t==some true&& !P.eqGuardType P.depth t
   | .nils=>JJd P t h
   | .nilp=>JGP P t h
   | .nilf=>JJH P t h)
  |_=>false
 | .un H x=>match op with
  | .unOp B _ y=>H==B&&J1h x y
  |_=>false
 | .conv k x=>match op with
  | .convert q dst y=>J1h x y&&(match k with
   | .int k=>JBf P q&&Juk P k dst
   | .same=>J6B P q&&J6B P dst
   | .toStr=>(match elT P q with|some e=>JAR P e&&szT P e==some 1|none=>false)&&J6B P dst
   | .toBytes _=>J6B P q&&(match elT P dst with|some e=>JAR P e&&szT P e==some 1|none=>false))
  |_=>false
 | .mkslice _ esz bytes zero l c=>match op with
  | .makeSlice t l' c'=>J1h l l'&&J1h c c'&&(match elT P t with
   |some e=>szT P e==some esz&&byT P e==some bytes&&Jal P zero e&&zero.length==esz&&decide (0<esz)&&decide (0<bytes)
   |none=>false)
  |_=>false
 | .slice k x lo hi mx=>match op with
  | .slice t o C z D=>J1h x o&&Jdt lo C&&Jdt hi z&&Jdt mx D&&(match k with
   | .str=>J6B P t
   | .sl esz=>(match elT P t with|some e=>szT P e==some esz|none=>false))
  |_=>false
 | .faddr off x=>match op with
  | .fieldAddr t y f=>J1h x y&&(match flT P t with
   |some fs=>(match fs[f]? with
    |some f=>f.offset==off&&(match szT P f.type with|some n=>n !=0|none=>false)
    |none=>false)
   |none=>false)
  |_=>false
 | .field agg off size x=>match op with
  | .field t y f=>J1h x y&&(match flT P t with
   |some fs=>(match fs[f]? with
    |some f=>f.offset==off&&szT P f.type==some size&&agT P f.type==some agg&&(agg||size==1)
    |none=>false)
   |none=>false)
  |_=>false
 | .iaddr esz x i=>match op with
  | .indexAddr t y j=>J1h x y&&J1h i j&&(match elT P t with|some e=>szT P e==some esz|none=>false)
  |_=>false
 | .aaddr len esz x i=>match op with
  | .indexAddr t y j=>J1h x y&&J1h i j&&(match arT P t with|some (n,e)=>n==len&&szT P e==some esz|none=>false)
  |_=>false
 | .sidx x i=>match op with
  | .index t y j=>J1h x y&&J1h i j&&J6B P t
  |_=>false
 | .aidx agg len esz x i=>match op with
  | .index t y j=>J1h x y&&J1h i j&&(match arT P t with|some (n,e)=>n==len&&szT P e==some esz&&agT P e==some agg&&(agg||esz==1)|none=>false)
  |_=>false
 | .extr x i=>match op with
  | .extract y j=>J1h x y&&i==j
  |_=>false
 | .call f args _=>match op with
  | .call c=>(match c.callee with
   | .value (.func g)=>f==g&&J6o args c.args.toList
   |_=>false)
  |_=>false
 | .callv x args _=>match op with
  | .call c=>(match c.callee with
   | .value y=>J1h x y&&J6o args c.args.toList
   |_=>false)
  |_=>false
 | .len str x=>match op with
  | .call c=>(match c.callee with
   | .builtin .len=>(match c.args.toList,c.argTypes.toList with
    |[y],[t]=>J1h x y&&(if str then J6B P t else(elT P t).isSome)
    |_,_=>false)
   |_=>false)
  |_=>false
 | .alen n=>match op with
  | .call c=>(match c.callee with
   | .builtin .len=>(match c.args.toList,c.argTypes.toList with
    |[_],[t]=>(match P.underlying t with
     |some (.array m _)=>m==n
     |some (.pointer a)=>(match arT P a with|some (m,_)=>m==n|none=>false)
     |_=>false)
    |_,_=>false)
   |_=>false)
  |_=>false
 | .appn esz bytes zero y=>match op with
  | .call c=>(match c.callee with
   | .builtin .append=>(match c.args.toList,c.argTypes.toList with
    |[.const (.slice none 0 0),h],[t,u]=>J1h y h&&((elT P u).isSome||J6B P u)&&(match elT P t with
     |some e=>szT P e==some esz&&byT P e==some bytes&&Jal P zero e&&zero.length==esz&&decide (0<esz)&&decide (0<bytes)
     |none=>false)
    |_,_=>false)
   |_=>false)
  |_=>false
 | .app esz bytes zero x y=>match op with
  | .call c=>(match c.callee with
   | .builtin .append=>(match c.args.toList,c.argTypes.toList with
    |[o,h],[t,u]=>J1h x o&&J1h y h&&((elT P u).isSome||J6B P u)&&(match elT P t with
     |some e=>szT P e==some esz&&byT P e==some bytes&&Jal P zero e&&zero.length==esz&&decide (0<esz)&&decide (0<bytes)
     |none=>false)
    |_,_=>false)
   |_=>false)
  |_=>false
 | .appc esz bytes zero x y=>match op with
  | .call c=>(match c.callee with
   | .builtin .append=>(match c.args.toList,c.argTypes.toList with
    |[o,h],[t,u]=>J1h x o&&J1h y h&&((elT P u).isSome||J6B P u)&&(match elT P t with
     |some e=>szT P e==some esz&&byT P e==some bytes&&Jal P zero e&&zero.length==esz&&decide (0<esz)&&decide (0<bytes)
     |none=>false)
    |_,_=>false)
   |_=>false)
  |_=>false
 | .appz esz bytes zero x y=>match op with
  | .call c=>(match c.callee with
   | .builtin .append=>(match c.args.toList,c.argTypes.toList with
    |[o,h],[t,u]=>J1h x o&&J1h y h&&(match P.underlying u with
     |some (.int _)=>true
     |_=>false)&&(match elT P t with
     |some e=>szT P e==some esz&&byT P e==some bytes&&Jal P zero e&&zero.length==esz&&decide (0<esz)&&decide (0<bytes)
     |none=>false)
    |_,_=>false)
   |_=>false)
  |_=>false
 | .mm mx x y=>match op with
  | .call c=>(match c.callee with
   | .builtin b=>b==(if mx then .max else .min)&&(match c.args.toList with
    |[o,h]=>J1h x o&&J1h y h
    |_=>false)
   |_=>false)
  |_=>false
 | .newboxo zero os=>match op with
  | .alloc t=>Jal P zero t&&Jtc P t os
  |_=>false
 | .buildo zero parts os=>match op with
  | .build t ps=>Jal P zero t&&Jtc P t os&&(match P.underlying t with
   |some (.struct fs)=>(fs.all λf=>(szT P f.type).isSome)&&J6v (JcC P fs) parts ps.toList
   |_=>false)
  |_=>false
 | .storen _ x=>match op with
  | .store t y (.const (.slice none 0 0))=>szT P t==some 1&&J1h x y
  |_=>false
 | .callo f _ args _=>match op with
  | .call c=>(match c.callee with
   | .value (.func g)=>f==g&&J6o args c.args.toList
   |_=>false)
  |_=>false
 | .mkfn f first caps=>match op with
  | .makeFunc (.func g) r w=>f==g&&J6o first r.toList&&J6o caps w.toList
  |_=>false
end
end Go.Am
end
section
namespace Go.Am
def get(s:St):Loc->Option (AV⊕Blk)
 | .slot n=>(lk n s.env).map .inl
 | .blk b=>(s.sto[b]?).map .inr
theorem JDn{α:Type}(m:RM α)(s s':St)(h: ∀l∈m.reads s,get s' l=get s l):m.run s'=m.run s:=by
 induction m with
 |ret a=>rfl
 |slot n k ih=>
  have e:=h (.slot n) (by simp[RM.reads])
  grind [get,RM.run,RM.reads]
 |blk b k ih=>
  have e:=h (.blk b) (by simp[RM.reads])
  grind [get,RM.run,RM.reads]
 |fail=>rfl
theorem J69{b:Nat}: ∀{ws:List (Nat×Blk)},b∉ws.map (·.1)->J6E b ws=none
 |[],_=>rfl
 |(c,x)::r,h=>by
  simp at h;simp only[J6E];rw[J69 (by simpa using h.2)]
  grind
theorem Jlu{b:Nat}: ∀{ws:List (Nat×Blk)},b∈ws.map (·.1)-> ∃y,J6E b ws=some y
 |[],h=>by simp at h
 |(c,x)::r,h=>by
  simp only[J6E];by_cases hr:b∈r.map (·.1)
  ·obtain⟨y,hy⟩:=Jlu hr;simp_all
  simp_all [J69]
theorem Jbc: ∀(ws:List (Nat×Blk)) (σ:List Blk),(upd ws σ).length=σ.length
 |[],_=>rfl
 |y::ws,σ=>by show(upd ws (σ.set y.1 y.2)).length=_;rw[Jbc ws];simp
theorem J9W: ∀(ws:List (Nat×Blk)) (σ:List Blk) (b:Nat),b<σ.length->(upd ws σ)[b]?=match J6E b ws with
  |some y=>some y
  |none=>σ[b]?
 |[],σ,b,_=>rfl
 |(c,x)::ws,σ,b,h=>by
  show(upd ws (σ.set c x))[b]?=_;rw[J9W ws (σ.set c x) b (by simpa using h)]
  grind [J6E]
structure Run(F:Orc)(ins:List J1w)(new:Nat->Nat)(S:Nat->St)(eff:Nat->Eff):Prop where
 step: ∀k i,ins[k]?=some i->(J1C F i (new k)).run (S k)=some (eff k)/\S (k+1)=put i.dst (eff k) (S k)
structure Jte(F:Orc)(ins:List J1w)(new:Nat->Nat)(S:Nat->St)(eff:Nat->Eff)(i j:Nat):Prop where
 slotW: ∀x y m,ins[i]?=some x->ins[j]?=some y->x.dst=some m->y.dst≠some m/\Loc.slot m∉(J1C F y (new j)).reads (S j)
 slotR: ∀x y m,ins[i]?=some x->ins[j]?=some y->y.dst=some m->Loc.slot m∉(J1C F x (new i)).reads (S i)
 blkW: ∀y b,ins[j]?=some y->b∈(eff i).ws.map (·.1)->b∉(eff j).ws.map (·.1)/\Loc.blk b∉(J1C F y (new j)).reads (S j)
 blkR: ∀x b,ins[i]?=some x->b∈(eff j).ws.map (·.1)->Loc.blk b∉(J1C F x (new i)).reads (S i)
section
variable {F:Orc} {ins:List J1w} {new:Nat->Nat} {S:Nat->St} {eff:Nat->Eff}
def JdA(ins:List J1w)(k:Nat):Option Nat:=(ins[k]?).bind (·.dst)
def JaC(ins:List J1w)(eff:Nat->Eff)(s0:St)(D:Nat->Bool):Nat->Nat->Option AV
 |0,m=>lk m s0.env
 |k+1,m=>if D k=true/\JdA ins k=some m then some (eff k).val else JaC ins eff s0 D k m
def JbR(eff:Nat->Eff)(s0:St)(D:Nat->Bool):Nat->Nat->Option Blk
 |0,b=>s0.sto[b]?
 |k+1,b=>if D k=true then(match J6E b (eff k).ws with
  |some y=>some y
  |none=>JbR eff s0 D k b)else JbR eff s0 D k b
structure JlZ(ins:List J1w)(eff:Nat->Eff)(s0:St)(D:Nat->Bool)(s:St):Prop where
 slot: ∀m,lk m s.env=JaC ins eff s0 D ins.length m
 len:s.sto.length=s0.sto.length
 blk: ∀b,b<s0.sto.length->s.sto[b]?=JbR eff s0 D ins.length b
theorem Jj4(hr:Run F ins new S eff): ∀k,k<=ins.length->(S k).sto.length=(S 0).sto.length
 |0,_=>rfl
 |k+1,h=>by
  have hk:ins[k]?=some ins[k]:=zQ9 (by omega);obtain⟨_,h2⟩:=hr.step k _ hk;rw[h2,<-Jj4 hr k (by omega)];unfold put
  grind [Jbc]
theorem Jiq(hr:Run F ins new S eff)(D:Nat->Bool): ∀k,k<=ins.length->(∀j,j<k->D j=true)-> ∀m,JaC ins eff (S 0) D k m=lk m (S k).env
 |0,_,_,m=>rfl
 |k+1,h,hD,m=>by
  have hk:ins[k]?=some ins[k]:=zQ9 (by omega);obtain⟨_,h2⟩:=hr.step k _ hk;simp only[JaC];rw[Jiq hr D k (by omega) (λj hj=>hD j (by omega)) m,h2];have hd:JdA ins k=ins[k].dst:=by grind [JdA]
  rw[hd];unfold put
  grind [lk]
theorem JkZ(hr:Run F ins new S eff)(D:Nat->Bool): ∀k,k<=ins.length->(∀j,j<k->D j=true)-> ∀b,b<(S 0).sto.length->JbR eff (S 0) D k b=(S k).sto[b]?
 |0,_,_,b,_=>rfl
 |k+1,h,hD,b,hb=>by
  have hk:ins[k]?=some ins[k]:=zQ9 (by omega);obtain⟨_,h2⟩:=hr.step k _ hk;simp only[JbR];rw[JkZ hr D k (by omega) (λj hj=>hD j (by omega)) b hb,h2,if_pos (hD k (by omega))];have:(put ins[k].dst (eff k) (S k)).sto=upd (eff k).ws (S k).sto:=by unfold put;split<;>rfl
  rw[this,J9W _ _ _ (by rw[Jj4 hr k (by omega)];exact hb)]
theorem Jg7{s0:St}{D D':Nat->Bool}{m:Nat}: ∀n,(∀j,j<n->JdA ins j=some m->D j=D' j)->JaC ins eff s0 D n m=JaC ins eff s0 D' n m
 |0,_=>rfl
 |n+1,h=>by
  simp only[JaC];rw[Jg7 n λj hj=>h j (by omega)]
  grind
theorem JhC{s0:St}{D D':Nat->Bool}{b:Nat}: ∀n,(∀j,j<n->b∈(eff j).ws.map (·.1)->D j=D' j)->JbR eff s0 D n b=JbR eff s0 D' n b
 |0,_=>rfl
 |n+1,h=>by
  simp only[JbR];rw[JhC n λj hj=>h j (by omega)]
  grind [J69]
theorem Jeo{s0:St}{D:Nat->Bool}{m k:Nat}: ∀n,k<=n->(∀j,k<=j->j<n->JdA ins j=some m->D j=false)->JaC ins eff s0 D n m=JaC ins eff s0 D k m
 |0,h,_=>by simp_all
 |n+1,h,hD=>by
  by_cases hk:k=n+1
  ·subst hk;rfl
  ·simp only[JaC];rw[Jeo n (by omega) λj h1 h2=>hD j h1 (by omega)]
   grind
theorem JgN{s0:St}{D:Nat->Bool}{b k:Nat}: ∀n,k<=n->(∀j,k<=j->j<n->b∈(eff j).ws.map (·.1)->D j=false)->JbR eff s0 D n b=JbR eff s0 D k b
 |0,h,_=>by simp_all
 |n+1,h,hD=>by
  by_cases hk:k=n+1
  ·subst hk;rfl
  ·simp only[JbR];rw[JgN n (by omega) λj h1 h2=>hD j h1 (by omega)]
   grind [J69]
theorem JFG(hr:Run F ins new S eff){D:Nat->Bool}{s:St}(ha:JlZ ins eff (S 0) D s){k:Nat}{i:J1w}(hk:ins[k]?=some i)(z:D k=false)
  (o: ∀j,j<k->D j=false->Jte F ins new S eff j k) (h: ∀j,k<j->j<ins.length->D j=true->Jte F ins new S eff k j):
  (J1C F i (new k)).run s=some (eff k)/\JlZ ins eff (S 0) (λj=>if j=k then true else D j) (put i.dst (eff k) s):=by
 have w:k<ins.length:=by
  grind
 have g: ∀j,j<ins.length->ins[j]?=some ins[j]! :=λj hj=>by simp[hj]
 have v: ∀j,j<ins.length->JdA ins j=ins[j]!.dst:=λj hj=>by grind [JdA]
 obtain⟨h1,h2⟩:=hr.step k i hk;have x:JdA ins k=i.dst:=by simp_all
 let T:Nat->Bool:=λ_=>true
 have reads: ∀l∈(J1C F i (new k)).reads (S k),get s l=get (S k) l:=by
  intro l hl;cases l with
  |slot m=>
   simp only[get];rw[ha.slot m]
   congr 1
   rw[Jeo ins.length (k:=k) (by omega) λj q e hd=>?_]
   ·rw[Jg7 (D':=T) k λj hj hd=>?_,Jiq hr T k (by omega) (λ_ _=>rfl) m];cases hDj:D j with
    |true=>rfl
    |false=>have:=(o j hj hDj).slotW _ i m (g j (by omega)) hk (by grind);simp_all
   ·by_cases n:j=k
    ·simp_all
    ·cases hDj:D j with
     |false=>rfl
     |true=>have:=(h j (by omega) e hDj).slotR i _ m hk (g j e) (by simp_all);simp_all
  |blk b=>
   simp only[get];by_cases hb:b<(S 0).sto.length
   ·rw[ha.blk b hb]
    congr 1
    rw[JgN ins.length (k:=k) (by omega) λj q e hd=>?_]
    ·rw[JhC (D':=T) k λj hj hd=>?_,JkZ hr T k (by omega) (λ_ _=>rfl) b hb];cases hDj:D j with
     |true=>rfl
     |false=>exact absurd hl ((o j hj hDj).blkW i b hk hd).2
    ·by_cases n:j=k
     ·simp_all
     ·cases hDj:D j with
      |false=>rfl
      |true=>exact absurd hl ((h j (by omega) e hDj).blkR i b hk hd)
   ·rw[JcE (by have:=ha.len;omega),JcE (by have:=Jj4 hr k (by omega);omega)]
 refine⟨by grind [JDn],?_,?_,?_⟩
 ·intro m;have r:lk m (put i.dst (eff k) s).env=if i.dst=some m then some (eff k).val else lk m s.env:=by
   unfold put
   grind [lk]
  rw[r,ha.slot m];by_cases hm:i.dst=some m
  ·rw[if_pos hm];rw[Jeo ins.length (k:=k+1) (by omega) λj q e hd=>?_]
   ·grind [JaC]
   ·have n:j≠k:=by omega
    simp only[if_neg n];cases hDj:D j with
    |false=>rfl
    |true=>have:=(h j (by omega) e hDj).slotW i _ m hk (g j e) hm;simp_all
  grind [Jg7]
 ·have:(put i.dst (eff k) s).sto=upd (eff k).ws s.sto:=by unfold put;split<;>rfl
  rw[this,Jbc,ha.len]
 ·intro b hb;have:(put i.dst (eff k) s).sto=upd (eff k).ws s.sto:=by unfold put;split<;>rfl
  rw[this,J9W _ _ _ (by rw[ha.len];exact hb),ha.blk b hb];by_cases hw:b∈(eff k).ws.map (·.1)
  ·obtain⟨y,hy⟩:=Jlu hw;simp only[hy];rw[JgN (D:=λj=>if j=k then true else D j) ins.length (k:=k+1) (by omega) λj q e hd=>?_]
   ·grind [JbR]
   ·have n:j≠k:=by omega
    simp only[if_neg n];cases hDj:D j with
    |false=>rfl
    |true=>exact absurd hd ((h j (by omega) e hDj).blkW _ b (g j e) hw).1
  grind [J69,JhC]
theorem Jyz:JlZ ins eff (S 0) (λ_=>false) (S 0):=by
 refine⟨λm=>?_,rfl,λb _=>?_⟩
 ·rw[Jeo ins.length (k:=0) (zQ2 _) λ_ _ _ _=>rfl];rfl
 ·rw[JgN ins.length (k:=0) (zQ2 _) λ_ _ _ _=>rfl];rfl
theorem JCR(hr:Run F ins new S eff){D:Nat->Bool}{s:St}(ha:JlZ ins eff (S 0) D s)(hD: ∀j,j<ins.length->D j=true):
  (∀m,lk m s.env=lk m (S ins.length).env)/\s.sto=(S ins.length).sto:=by
 refine⟨λm=>by rw[ha.slot m,Jiq hr D _ (zQ0 _) hD m],zQ6 λb=>?_⟩;by_cases hb:b<(S 0).sto.length
 ·rw[ha.blk b hb,JkZ hr D _ (zQ0 _) hD b hb]
 ·rw[JcE (by have:=ha.len;omega),JcE (by have:=Jj4 hr _ (zQ0 _);omega)]
end
end Go.Am
end
section
namespace Go.Am
def oSl:Opd->List Nat
 | .t n=>[n]
 | .c _=>[]
def J7F:List Opd->List Nat
 |[]=>[]
 |x::r=>oSl x++J7F r
def JAl:Option Opd->List Nat
 |none=>[]
 |some x=>oSl x
def J12:AOp->List Nat
 | .mv x| .box _ x| .appn _ _ _ x| .load _ _ x| .nilchk x| .un _ x| .conv _ x| .faddr _ x| .field _ _ _ x| .extr x _| .len _ x=>oSl x
 | .mkarr _ _| .newbox _| .alen _=>[]
 | .pick c a b=>oSl c++(oSl a++oSl b)
 | .build _ parts=>J7F (parts.map (·.2.2))
 | .lits _ _ _ _ parts=>J7F (parts.map (·.2))
 | .store _ x v=>oSl x++oSl v
 | .bin _ _ x y| .iaddr _ x y| .aaddr _ _ x y| .sidx x y| .aidx _ _ _ x y| .app _ _ _ x y| .appz _ _ _ x y| .appc _ _ _ x y| .mm _ x y| .mkslice _ _ _ _ x y=>oSl x++oSl y
 | .slice _ x lo hi mx=>oSl x++(JAl lo++(JAl hi++JAl mx))
 | .call _ args _=>J7F args
 | .callv g args _=>oSl g++J7F args
 | .mkfn _ a b=>J7F a++J7F b
 | .newboxo _ _=>[]
 | .buildo _ parts _=>J7F (parts.map (·.2.2))
 | .storen _ x=>oSl x
 | .callo _ _ args _=>J7F args
def J88(i:J1w):List Nat:=J12 i.op++match i.g with
 |some (g,_)=>[g]
 |none=>[]
def Jkt:AOp->Bool
 | .mkarr _ _| .newbox _| .box _ _| .lits _ _ _ _ _| .store _ _ _| .conv (.toBytes _) _| .mkslice _ _ _ _ _ _| .slice (.sl _) _ _ _ _| .call _ _ _| .callv _ _ _| .app _ _ _ _ _| .appz _ _ _ _ _| .appc _ _ _ _ _| .appn _ _ _ _| .newboxo _ _| .buildo _ _ _| .storen _ _| .callo _ _ _ _=>true
 |_=>false
def JvH:AOp->Bool
 | .load _ _ _| .iaddr _ _ _| .conv .toStr _=>true
 |op=>Jkt op
def Sl{α:Type}(L:List Nat)(m:RM α):Prop:= ∀s n,Loc.slot n∈m.reads s->n∈L
section
variable {α β:Type} {L:List Nat}
theorem J0b(a:α):Sl L (.ret a):=λs n h=>by grind [RM.reads]
theorem J0I:Sl L (.fail:RM α):=λs n h=>by grind [RM.reads]
theorem J96{b:Nat}{k:Blk->RM α}(h: ∀v,Sl L (k v)):Sl L (.blk b k):=λs n hn=>by
 simp only[RM.reads,J40]at hn;rcases hn with hn|hn
 ·cases hn
 ·split at hn
  ·exact h _ s n hn
  ·simp at hn
theorem JA6{m:Nat}{k:AV->RM α}(hm:m∈L)(h: ∀v,Sl L (k v)):Sl L (.slot m k):=λs n hn=>by
 simp only[RM.reads,J40]at hn;rcases hn with hn|hn
 ·simp_all
 ·split at hn
  ·exact h _ s n hn
  ·simp at hn
theorem Jv{m:RM α}{f:α->RM β}(h:Sl L m)(hf: ∀a,Sl L (f a)):Sl L (m.bind f):=λs n hn=>by
 rw[J65,J2h]at hn;rcases hn with hn|hn
 ·exact h s n hn
 ·cases hr:m.run s with
  |none=>simp[hr]at hn
  |some a=>simp[hr]at hn;exact hf a s n hn
theorem JHD{L':List Nat}{m:RM α}(h:Sl L m)(hl: ∀x∈L,x∈L'):Sl L' m:=λs n hn=>hl n (h s n hn)
theorem Jx4{c:Prop} [Decidable c]{x y:RM α}(hx:Sl L x)(hy:Sl L y):Sl L (if c then x else y):=by grind
end
theorem J1j{L:List Nat}(x:Opd)(h: ∀n∈oSl x,n∈L):Sl L (ev x):=by
 cases x with
 |t n=>exact JA6 (h n (by simp[oSl])) λv=>J0b v
 |c v=>exact J0b v
theorem Jfy{L:List Nat}: ∀(xs:List Opd),(∀n∈J7F xs,n∈L)->Sl L (evs xs)
 |[],_=>J0b _
 |x::xs,h=>Jv (J1j x λn hn=>h n (by simp[J7F,hn])) λv=>Jv (Jfy xs λn hn=>h n (by simp[J7F,hn])) λvs=>J0b _
theorem JvU{L:List Nat}(x:Option Opd)(h: ∀n∈JAl x,n∈L):Sl L (evo x):=by
 cases x with
 |none=>exact J0b _
 |some x=>exact Jv (J1j x h) λv=>J0b _
theorem J7s{L:List Nat}(x:Option AV):Sl L (val x):=by cases x<;>first|exact J0I|exact J0b _
theorem JJ3{L:List Nat}(x:AV):Sl L (fz.fz1 x):=by
 cases x<;>try exact J0I
 ·exact J0b _
 ·refine J96 λv=>?_
  grind [J0I,J0b]
theorem JD9{L:List Nat}: ∀(xs:List AV),Sl L (fz.fzL xs)
 |[]=>J0b _
 |x::xs=>Jv (JJ3 x) λ_=>Jv (JD9 xs) λ_=>J0b _
theorem Jm4{L:List Nat}(x:AV):Sl L (fz x):=by
 cases x<;>try first|exact J0I|exact J0b _
 ·exact JD9 _
 ·refine J96 λv=>?_
  grind [J0I,J0b]
theorem JDz{L:List Nat}: ∀(xs:List Opd),(∀n∈J7F xs,n∈L)->Sl L (fzs xs)
 |[],_=>J0b _
 |x::xs,h=>Jv (J1j x λn hn=>h n (by simp[J7F,hn])) λv=>Jv (Jm4 v) λ_=>Jv (JDz xs λn hn=>h n (by simp[J7F,hn])) λ_=>J0b _
theorem JdL{L:List Nat}(esz:Nat)(x:AV):Sl L (J2S esz x):=by
 unfold J2S
 grind [J0b,J0I,J96]
theorem JEg{L:List Nat}(agg:Bool)(size:Nat)(x:AV):Sl L (J4z agg size x):=by
 unfold J4z;split
 all_goals grind [J7s,J0I,J96]
theorem JpP{L:List Nat}(size:Nat)(x v:AV):Sl L (J42 size x v):=by
 unfold J42;split
 ·grind [J96,J0I,J0b]
 ·refine J96 λv=>?_
  grind [J0I,Jv,Jm4,J0b]
 simp[J0I]
theorem JCL{L:List Nat}(esz:Nat)(x i:AV):Sl L (J6R esz x i):=by
 unfold J6R
 grind [J0I,J0b,J96]
theorem JzK{L:List Nat}(esz bytes:Nat)(x y:AV):Sl L (J8b esz bytes x y):=by
 unfold J8b
 grind [J96,J0I,Jv,JdL,J0b]
theorem Jj8{L:List Nat}(ws:List (Nat×Blk))(b:Nat):Sl L (JeD ws b):=
 J96 λv=>by grind [J0b]
theorem Jcy{L:List Nat}(ws:List (Nat×Blk)): ∀(es acc:List Ent),Sl L (J4e ws es acc)
 |[],acc=>J0b _
 | .whole b::r,acc=>Jv (Jj8 ws b) λv=>by cases v<;>exact Jcy ws r _
 | .elem b e i::r,acc=>Jcy ws r acc
theorem JoM{L:List Nat}(x:AV):Sl L (J93 x):=by
 cases x<;>try first|exact J0I|exact J0b _
 ·exact Jv (Jm4 _) λ_=>J0b _
 ·refine Jv (Jm4 _) λa=>?_
  grind [J0b,J0I]
theorem Jtx{L:List Nat}: ∀(xs:List AV),Sl L (J7l xs)
 |[]=>J0b _
 |x::xs=>Jv (JoM x) λ_=>Jv (Jtx xs) λ_=>J0b _
theorem JFU{L:List Nat}(ws:List (Nat×Blk))(ρ:Ent->Option Nat)(e:Ent):Sl L (JgF ws ρ e):=by
 cases e with
 |whole b=>
  refine Jv (Jj8 ws b) λv=>?_
  grind [J0I,J0b]
 |elem b e i=>
  refine Jv (Jj8 ws b) λv=>?_
  grind [J0I,J0b]
theorem Jim{L:List Nat}(ws:List (Nat×Blk))(ρ:Ent->Option Nat): ∀(es:List Ent),Sl L (J5r ws ρ es)
 |[]=>J0b _
 |e::r=>Jv (JFU ws ρ e) λ_=>Jv (Jim ws ρ r) λ_=>J0b _
theorem JCN{L:List Nat}(ws:List (Nat×Blk))(es:List Ent)(new:Nat)(e:Ent)(x:Blk):Sl L (Jai ws es new e x):=by
 unfold Jai
 grind [J0b,J0I,Jv,Jj8]
theorem Jga{L:List Nat}(ws:List (Nat×Blk))(es:List Ent)(new:Nat): ∀(e:List Ent) (x:List Blk),Sl L (J3A ws es new e x)
 |[],_=>J0b _
 |_::_,[]=>J0I
 |e::r,x::l=>Jv (JCN ws es new e x) λ_=>Jv (Jga ws es new r l) λ_=>J0b _
theorem JwI{L:List Nat}(F:Orc)(f:FuncId)(args:List AV)(k new:Nat):Sl L (J5Q F f args k new):=by
 unfold J5Q;refine Jv (Jtx _) λa=>Jv (Jcy _ _ _) λe=>Jv (Jcy _ _ _) λes=>Jx4 ?_ J0I;split
 all_goals grind [J0I,Jv,Jim,Jga,J0b]
theorem JCQ{L:List Nat}(F:Orc)(f:FuncId)(a:List AV×List (Nat×Blk))(k new:Nat):Sl L (J3d F f a k new):=by
 unfold J3d;refine Jv (Jcy _ _ _) λe=>Jv (Jcy _ _ _) λes=>Jx4 ?_ J0I;split
 all_goals grind [J0I,Jv,Jim,Jga,J0b]
theorem Jgg{L:List Nat}: ∀(m:List Bool) (xs:List AV),Sl L (J3N m xs)
 |_,[]=>by cases ‹List Bool›<;>exact J0b _
 |[],x::xs=>Jv (JoM x) λ_=>Jv (Jgg [] xs) λ_=>J0b _
 |true::m,x::xs=>Jv (Jgg m xs) λ_=>J0b _
 |false::m,x::xs=>Jv (JoM x) λ_=>Jv (Jgg m xs) λ_=>J0b _
theorem Ji7{L:List Nat}: ∀(xs:List (Nat×Nat×Opd)),(∀n∈J7F (xs.map (·.2.2)),n∈L)->Sl L (J5H xs)
 |[],_=>J0b _
 |(a,b,x)::xs,h=>by
  unfold J5H;refine Jv (J1j x λn hn=>h n (by simp[J7F,hn])) λv=>?_;split
  ·exact Jv (Ji7 xs λn hn=>h n (by simp[J7F,hn])) λ_=>J0b _
  simp[J0I]
theorem JJ7(F:Orc)(op:AOp)(new:Nat):Sl (J12 op) (opR F op new):=by
 cases op with
 |mv x=>exact Jv (J1j x λn h=>h) λv=>J0b _
 |mkarr=>exact J0b _
 |appn esz bytes zero y=>exact Jv (J1j y λn h=>h) λv=>Jv (JdL _ _) λ_=>Jx4 (J0b _) J0I
 |pick c a b=>
  refine Jv (J1j c λn h=>by grind [J12]) λv=>?_
  grind [Jv,J1j,J12,J0b,J0I]
 |newbox=>exact J0b _
 |box size x=>
  refine Jv (J1j x λn h=>h) λv=>?_
  grind [J0b,J0I]
 |build zero parts=>
  refine Jv (Ji7 parts λn h=>h) λv=>?_
  grind [J7s,J0I]
 |lits own esz n zero parts=>
  refine Jv (JDz _ λn h=>h) λv=>?_
  grind [J0b,J0I]
 |load agg size x=>exact Jv (J1j x λn h=>h) λv=>JEg _ _ _
 |store size x y=>exact Jv (J1j x λn h=>by grind [J12]) λv=>Jv (J1j y λn h=>by grind [J12]) λ_=>JpP _ _ _
 |nilchk x=>
  refine Jv (J1j x λn h=>h) λv=>?_
  grind [J0b,J0I]
 |bin op t x y=>exact Jv (J1j x λn h=>by grind [J12]) λv=>Jv (J1j y λn h=>by grind [J12]) λ_=>J7s _
 |un op x=>exact Jv (J1j x λn h=>h) λv=>J7s _
 |conv k x=>
  refine Jv (J1j x λn h=>h) λv=>?_
  grind [J0b,Jv,JdL,J0I]
 |mkslice own esz bytes zero x y=>
  refine Jv (J1j x λn h=>by grind [J12]) λv=>Jv (J1j y λn h=>by grind [J12]) λu=>?_
  grind [J0b,J0I]
 |slice k x lo hi mx=>
  refine Jv (J1j x λn h=>by grind [J12]) λv=>Jv (JvU lo λn h=>by grind [J12]) λ_=>Jv (JvU hi λn h=>by grind [J12]) λ_=>Jv (JvU mx λn h=>by grind [J12]) λ_=>?_
  grind [Jv,Jm4,J0b,J0I,J7s]
 |faddr off x=>exact Jv (J1j x λn h=>h) λv=>J7s _
 |field agg off size x=>exact Jv (J1j x λn h=>h) λv=>J7s _
 |iaddr esz x y=>exact Jv (J1j x λn h=>by grind [J12]) λv=>Jv (J1j y λn h=>by grind [J12]) λ_=>JCL _ _ _
 |aaddr len esz x y=>exact Jv (J1j x λn h=>by grind [J12]) λv=>Jv (J1j y λn h=>by grind [J12]) λ_=>J7s _
 |sidx x y=>
  refine Jv (J1j x λn h=>by grind [J12]) λv=>Jv (J1j y λn h=>by grind [J12]) λu=>?_
  grind [J0I,J0b]
 |aidx agg len esz x y=>
  refine Jv (J1j x λn h=>by grind [J12]) λv=>Jv (J1j y λn h=>by grind [J12]) λu=>?_
  grind [J7s,J0I]
 |extr x i=>exact Jv (J1j x λn h=>h) λv=>J7s _
 |call f args k=>exact Jv (Jfy args λn h=>h) λv=>JwI _ _ _ _ _
 |callv g args k=>
  refine Jv (J1j g λn h=>by grind [J12]) λv=>?_
  grind [J0I,Jv,Jfy,J12,JwI]
 |len str x=>exact Jv (J1j x λn h=>h) λv=>J7s _
 |alen n=>exact J0b _
 |appz esz bytes zero x y=>
  refine Jv (J1j x λn h=>by grind [J12]) λv=>Jv (J1j y λn h=>by grind [J12]) λc=>?_
  grind [JzK,J0I]
 |appc esz bytes zero x y=>
  refine Jv (J1j x λn h=>by grind [J12]) λv=>Jv (J1j y λn h=>by grind [J12]) λc=>?_;unfold Jvx
  grind [Jv,JdL,J0b,J0I]
 |app esz bytes zero x y=>exact Jv (J1j x λn h=>by grind [J12]) λv=>Jv (J1j y λn h=>by grind [J12]) λ_=>JzK _ _ _ _
 |mm mx x y=>exact Jv (J1j x λn h=>by grind [J12]) λv=>Jv (J1j y λn h=>by grind [J12]) λ_=>J7s _
 |mkfn f a b=>exact Jv (Jfy a λn h=>by grind [J12]) λv=>Jv (Jfy b λn h=>by grind [J12]) λ_=>J0b _
 |newboxo=>exact J0b _
 |buildo zero parts os=>
  refine Jv (Ji7 parts λn h=>h) λv=>?_
  grind [J0b,J0I]
 |storen esz x=>exact Jv (J1j x λn h=>h) λv=>Jv (JpP _ _ _) λ_=>J0b _
 |callo f keep args k=>exact Jv (Jfy args λn h=>h) λv=>Jv (Jgg _ _) λ_=>JCQ _ _ _ _ _
theorem Jtt{L:List Nat}: ∀(k new:Nat),Sl L (Jcp new k)
 |0,_=>J0b _
 |k+1,new=>J96 λv=>by cases v<;>first|exact Jtt k _|exact J0I
theorem Jzf(F:Orc)(i:J1w)(new:Nat):Sl (J88 i) (J1C F i new):=by
 have h:Sl (J88 i) (opD F i.op new):=Jv (Jtt _ _) λ_=>JHD (JJ7 F i.op new) λx hx=>by grind [J88]
 grind [J1C,JA6,J88,J0b,J0I]
end Go.Am
end
section
namespace Go.Am
def W0(m:RM Eff):Prop:= ∀s e,m.run s=some e->e.ws=[]
def B0{α:Type}(m:RM α):Prop:= ∀s e,m.run s=some e-> ∀b,Loc.blk b∉m.reads s
theorem J7o(x:Option AV):W0 (val x):=λs e h=>by cases x<;>grind [val,RM.run]
theorem J8o(v:AV):W0 (.ret ⟨v,[]⟩):=λs e h=>by grind [RM.run]
theorem J7z:W0 .fail:=λs e h=>by cases h
theorem J1c{α:Type}{m:RM α}{f:α->RM Eff}(h: ∀a,W0 (f a)):W0 (m.bind f):=λs e he=>by
 rw[run_bind]at he;cases hm:m.run s with
 |none=>simp_all
 |some a=>rw[hm]at he;exact h a s e he
theorem JDv{b:Nat}{k:Blk->RM Eff}(h: ∀v,W0 (k v)):W0 (.blk b k):=λs e he=>by
 simp only[RM.run]at he;split at he
 ·exact h _ s e he
 ·cases he
theorem JHt{g:Nat}{k:AV->RM Eff}(h: ∀v,W0 (k v)):W0 (.slot g k):=λs e he=>by
 simp only[RM.run]at he;split at he
 ·exact h _ s e he
 ·cases he
theorem J44{α:Type}(a:α):B0 (.ret a):=λs e _ b h=>by grind [RM.reads]
theorem J8B{α:Type}:B0 (.fail:RM α):=λs e h=>by cases h
theorem J85(x:Option AV):B0 (val x):=by cases x<;>first|exact J8B|exact J44 _
theorem J16{α β:Type}{m:RM α}{f:α->RM β}(hm:B0 m)(h: ∀a,B0 (f a)):B0 (m.bind f):=λs e he b hb=>by
 rw[run_bind]at he;rw[J65]at hb;cases hr:m.run s with
 |none=>simp_all
 |some a=>
  rw[hr]at he hb;rcases J2h.1 hb with hb|hb
  ·exact hm s a hr b hb
  ·exact h a s e he b (by simpa using hb)
theorem J3E(x:Opd):B0 (ev x):=by
 cases x with
 |t n=>exact λs e _ b h=>by grind [ev,RM.reads]
 |c v=>exact J44 _
theorem JI5{α:Type}{g:Nat}{k:AV->RM α}(h: ∀v,B0 (k v)):B0 (.slot g k):=λs e he b hb=>by
 simp only[RM.run]at he;simp only[RM.reads,J40]at hb;rcases hb with hb|hb
 ·cases hb
 ·cases hl:lk g s.env with
  |none=>simp_all
  |some v=>rw[hl]at he hb;exact h v s e he b hb
theorem Jty: ∀xs:List Opd,B0 (evs xs)
 |[]=>J44 _
 |x::xs=>J16 (J3E x) λ_=>J16 (Jty xs) λ_=>J44 _
theorem Jwr(x:Option Opd):B0 (evo x):=by
 cases x with
 |none=>exact J44 _
 |some x=>exact J16 (J3E x) λ_=>J44 _
theorem JpJ: ∀(xs:List (Nat×Nat×Opd)),B0 (J5H xs)
 |[]=>J44 _
 |(a,b,x)::xs=>by
  unfold J5H;refine J16 (J3E x) λv=>?_;split
  ·exact J16 (JpJ xs) λ_=>J44 _
  simp[J8B]
theorem Jza(lo hi mx:Option AV)(c:PV)(hc: ∀l,c≠.s l):J5z .str (.p c) lo hi mx=none:=by
 cases mx with
 |some _=>rfl
 |none=>cases c<;>first|rfl|simp_all
theorem JIM(F:Orc)(op:AOp)(new:Nat)(h:Jkt op=false):W0 (opR F op new):=by
 cases op with
 |mkarr=>cases h
 |newboxo=>cases h
 |buildo=>cases h
 |storen=>cases h
 |callo=>cases h
 |newbox=>cases h
 |box=>cases h
 |lits=>cases h
 |store=>cases h
 |mkslice=>cases h
 |call=>cases h
 |callv=>cases h
 |app=>cases h
 |appz=>cases h
 |appc=>cases h
 |appn=>cases h
 |mv x=>exact J1c λ_=>J8o _
 |pick c a b=>
  refine J1c λv=>?_
  grind [J1c,J8o,J7z]
 |build zero parts=>
  refine J1c λv=>?_
  grind [J7o,J7z]
 |load agg size x=>
  refine J1c λv=>?_;unfold J4z;split
  all_goals grind [J7o,J7z,JDv]
 |nilchk x=>
  refine J1c λv=>?_
  grind [J8o,J7z]
 |bin op t x y=>exact J1c λ_=>J1c λ_=>J7o _
 |un op x=>exact J1c λ_=>J7o _
 |conv k x=>
  refine J1c λv=>?_;split
  ·exact J8o _
  ·exact J8o _
  ·grind [J1c,J8o,J7z]
  ·cases h
  simp[J7z]
 |slice k x lo hi mx=>
  cases k with
  |sl esz=>cases h
  |str=>
   refine J1c λv=>J1c λ_=>J1c λ_=>J1c λ_=>?_;split
   ·rename_i b i n;intro s e he;exfalso;rw[run_bind]at he;cases h1:(fz (.slr b i n)).run s<;>grind [fz,RM.run,Jza]
   simp[J7o]
 |faddr off x=>exact J1c λ_=>J7o _
 |field agg off size x=>exact J1c λ_=>J7o _
 |iaddr esz x y=>
  refine J1c λv=>J1c λu=>?_;unfold J6R
  grind [J7z,J8o,JDv]
 |aaddr len esz x y=>exact J1c λ_=>J1c λ_=>J7o _
 |sidx x y=>
  refine J1c λv=>J1c λu=>?_
  grind [J7z,J8o]
 |aidx agg len esz x y=>
  refine J1c λv=>J1c λu=>?_
  grind [J7o,J7z]
 |extr x i=>exact J1c λ_=>J7o _
 |len str x=>exact J1c λ_=>J7o _
 |alen n=>exact J8o _
 |mm mx x y=>exact J1c λ_=>J1c λ_=>J7o _
 |mkfn f a b=>exact J1c λ_=>J1c λ_=>J8o _
theorem JJp(F:Orc)(op:AOp)(new:Nat)(h:JvH op=false):B0 (opR F op new):=by
 cases op with
 |mkarr=>cases h
 |newboxo=>cases h
 |buildo=>cases h
 |storen=>cases h
 |callo=>cases h
 |newbox=>cases h
 |box=>cases h
 |lits=>cases h
 |store=>cases h
 |mkslice=>cases h
 |call=>cases h
 |callv=>cases h
 |app=>cases h
 |appz=>cases h
 |appc=>cases h
 |appn=>cases h
 |load=>cases h
 |iaddr=>cases h
 |mv x=>exact J16 (J3E x) λ_=>J44 _
 |pick c a b=>
  refine J16 (J3E c) λv=>?_
  grind [J16,J3E,J44,J8B]
 |build zero parts=>
  refine J16 (JpJ parts) λv=>?_
  grind [J85,J8B]
 |nilchk x=>
  refine J16 (J3E x) λv=>?_
  grind [J44,J8B]
 |bin op t x y=>exact J16 (J3E x) λ_=>J16 (J3E y) λ_=>J85 _
 |un op x=>exact J16 (J3E x) λ_=>J85 _
 |conv k x=>
  refine J16 (J3E x) λv=>?_;split
  ·exact J44 _
  ·exact J44 _
  ·cases h
  ·cases h
  simp[J8B]
 |slice k x lo hi mx=>
  cases k with
  |sl esz=>cases h
  |str=>
   refine J16 (J3E x) λv=>J16 (Jwr lo) λ_=>J16 (Jwr hi) λ_=>J16 (Jwr mx) λ_=>?_;split
   ·rename_i b i n;intro s e he;exfalso;rw[run_bind]at he;cases h1:(fz (.slr b i n)).run s<;>grind [fz,RM.run,Jza]
   simp[J85]
 |faddr off x=>exact J16 (J3E x) λ_=>J85 _
 |field agg off size x=>exact J16 (J3E x) λ_=>J85 _
 |aaddr len esz x y=>exact J16 (J3E x) λ_=>J16 (J3E y) λ_=>J85 _
 |sidx x y=>
  refine J16 (J3E x) λv=>J16 (J3E y) λu=>?_
  grind [J8B,J44]
 |aidx agg len esz x y=>
  refine J16 (J3E x) λv=>J16 (J3E y) λu=>?_
  grind [J85,J8B]
 |extr x i=>exact J16 (J3E x) λ_=>J85 _
 |len str x=>exact J16 (J3E x) λ_=>J85 _
 |alen n=>exact J44 _
 |mm mx x y=>exact J16 (J3E x) λ_=>J16 (J3E y) λ_=>J85 _
 |mkfn f a b=>exact J16 (Jty a) λ_=>J16 (Jty b) λ_=>J44 _
theorem JE1{op:AOp}(h:JvH op=false):Jkt op=false:=by
 cases op<;>first|rfl|cases h|skip
 ·rename_i k x;cases k<;>first|rfl|cases h
 ·rename_i k x lo hi mx;cases k<;>first|rfl|cases h
theorem JHP{op:AOp}(h:Jkt op=false):J7T op=0:=by
 cases op<;>first|rfl|cases h|skip
 rename_i k x;cases k<;>first|rfl|cases h
theorem Joz(F:Orc)(i:J1w)(new:Nat)(h:Jkt i.op=false):W0 (J1C F i new):=by
 have h1:W0 (opD F i.op new):=J1c λ_=>JIM F _ _ h
 grind [J1C,JHt,J8o,J7z]
theorem Jz1(F:Orc)(i:J1w)(new:Nat)(h:JvH i.op=false):B0 (J1C F i new):=by
 have h1:B0 (opD F i.op new):=by unfold opD;rw[JHP (JE1 h)];exact J16 (J44 _) λ_=>JJp F _ _ h
 grind [J1C,JI5,J44,J8B]
end Go.Am
end
section
namespace Go.Am
theorem bind_some{α β:Type}{m:RM α}{f:α->RM β}{s:St}{b:β}(h:(m.bind f).run s=some b): ∃a,m.run s=some a/\(f a).run s=some b:=by rw[run_bind]at h;cases hm:m.run s<;>simp_all
theorem J2d{x:Option AV}{s:St}{e:Eff}(h:(val x).run s=some e): ∃v,x=some v/\e=⟨v,[]⟩:=by cases x<;>simp_all [val,RM.run]
theorem Jz8{w C c v}(h:okP c v=true):J0r w C c v:=by
 unfold okP at h;split at h
 ·rename_i x y;have:x=y:=by simpa using h
  subst this;exact .b _
 ·simp at h;obtain⟨rfl,rfl⟩:=h;exact .i _ _
 ·rename_i l e;have:l=e.data.toList:=by simpa using h
  subst this;exact .s _
 ·exact .sl0 _ _ _
 ·exact .np
 ·exact .nf
 ·cases h
theorem Jg6{w C}: ∀{cs:List PV} {vs:List Value},Jk8 cs vs=true->cs.length=vs.length/\ ∀(i:Nat) x v,cs[i]?=some x->vs[i]?=some v->J0r w C x v
 |[],[],_=>⟨rfl,λi x v h=>by simp at h⟩
 |x::xs,v::vs,h=>by
  simp only[Jk8,J04]at h;obtain⟨h1,h2⟩:=Jg6 (w:=w) (C:=C) h.2
  grind [Jz8]
 |[],_::_,h=>by grind [Jk8]
 |_::_,[],h=>by grind [Jk8]
theorem JH5{s:Sn}{c v}(h:okC c v=true):JK s c v:=by
 unfold okC at h;split at h
 ·exact .p _ _ (Jz8 h)
 ·rename_i cs vs;obtain⟨h1,h2⟩:=Jg6 (w:=s.w) (C:=s.g.C) h;exact .data _ _ (by simpa using h1) λi x v hx hv=>h2 i x v hx (by simpa using hv)
 ·rename_i f g a c;simp at h;obtain⟨⟨rfl,rfl⟩,rfl⟩:=h;exact .fn _ _ _ _ _ rfl rfl (λi x v h=>by simp at h) (λi x v h=>by simp at h)
 ·simp at h;subst h;exact .tup _ _ rfl (λi x v h=>by simp at h)
 ·cases h
def J0p(s:Sn)(tmps:Array Value)(env:List (Nat×AV)):Prop:= ∀n x,lk n env=some x-> ∃v,tmps[n]?=some v/\JK s x v
theorem J0p.mono{s0 s:Sn}(hi:Inv s0)(t:J0l s0 s){tmps env}(h:J0p s0 tmps env):J0p s tmps env:=
 λn x hx=>let⟨v,h1,h2⟩:=h n x hx;⟨v,h1,h2.mono hi t⟩
section
variable {P:Program} {s:Sn} {a:Act} {env:List (Nat×AV)}
theorem J0h(he:J0p s a.tmps env){x:Opd}{y:Operand}{v:AV}(h:(ev x).run ⟨env,s.σ⟩=some v)(hc:J1h x y=true):JK s v (a.eval y):=by
 cases x with
 |t n=>
  cases y<;>simp[J1h]at hc;subst hc;simp only[ev,RM.run]at h;split at h
  ·rename_i u hu;injection h with h;subst h;obtain⟨w,h1,h2⟩:=he _ _ hu;simp_all [Act.eval]
  ·cases h
 |c z=>
  simp only[ev,RM.run]at h;injection h with h;subst h;cases y with
  |const u=>exact JH5 (v:=u) (by grind [J1h])
  |func g=>
   cases z<;>simp[J1h]at hc;rename_i f first caps
   cases first<;>cases caps<;>simp[J1h]at hc
   subst hc;exact .fn _ _ _ _ _ rfl rfl (λi x v h=>by simp at h) (λi x v h=>by simp at h)
  |tmp n=>grind [J1h]
  |global n=>grind [J1h]
theorem JcD(he:J0p s a.tmps env): ∀{xs:List Opd} {e:List Operand} {vs:List AV},(evs xs).run ⟨env,s.σ⟩=some vs->J6o xs e=true->
  vs.length=e.length/\ ∀(i:Nat) x v,vs[i]?=some x->(e.map a.eval)[i]?=some v->JK s x v
 |[],[],vs,h,_=>by
  grind [evs,RM.run]
 |x::xs,y::e,vs,h,hc=>by
  simp only[J6o,J04]at hc;simp only[evs]at h;obtain⟨u,h1,h⟩:=bind_some h;obtain⟨g,h2,h⟩:=bind_some h;simp only[RM.run]at h;injection h with h;subst h
  obtain⟨l,r⟩:=JcD he h2 hc.2
  grind [J0h]
 |[],_::_,_,_,hc=>by grind [J6o]
 |_::_,[],_,_,hc=>by grind [J6o]
def J1g(P:Program)(o:Oper)(a:Act)(s:Sn)(e:Eff):Prop:= ∀(next:Act->World->Prop) (Q:Exit->Act->World->Prop),(∀v w' g',Inv ⟨upd e.ws s.σ,g',w'⟩->J0l s ⟨upd e.ws s.σ,g',w'⟩->JK ⟨upd e.ws s.σ,g',w'⟩ e.val v->next (a.put o.dst v) w')->o.wp P a s.w next Q
theorem J2q{o:Oper}{e:Eff}{v:Value}{w':World}{g':Gh}(hr:(execOp a.eval o).run P s.w=.ok (.value v) w')
  (hi:Inv ⟨upd e.ws s.σ,g',w'⟩) (t:J0l s ⟨upd e.ws s.σ,g',w'⟩) (hv:JK ⟨upd e.ws s.σ,g',w'⟩ e.val v):J1g P o a s e:=by
 intro next Q h
 grind [Oper.wp,Oper.upon]
theorem JL{o:Oper}{x:AV}{v:Value}(hi:Inv s)(hr:(execOp a.eval o).run P s.w=.ok (.value v) s.w)(hv:JK s x v):J1g P o a s ⟨x,[]⟩:=
 J2q (e:=⟨x,[]⟩) (g':=s.g) hr hi (.refl s) hv
theorem JhP{t:TypeId}{i:TypeInfo}(h:P.info? t=some i)(w:World):(typeInfo t).run P w=.ok i w:=by simp[typeInfo,h]
theorem J3e{t:TypeId}{n:Nat}(h:szT P t=some n)(w:World):(sizeOf t).run P w=.ok n w:=by unfold szT at h;cases hi:P.info? t<;>simp_all [sizeOf,JhP]
theorem JcA{t:TypeId}{b:Bool}(h:agT P t=some b)(w:World):(isAgg t).run P w=.ok b w:=by
 unfold agT at h;cases hu:P.underlying t with
 |none=>simp_all
 |some d=>rw[hu]at h;simp at h;simp only[isAgg,Jks,run_underlying hu,Jgj];subst h;cases d<;>rfl
theorem J2g{t e:TypeId}(h:elT P t=some e):P.underlying t=some (.slice e):=by
 grind [elT]
theorem J6V{t:TypeId}(h:J6B P t=true):P.underlying t=some .string:=by
 grind [J6B]
theorem Jtk{t:TypeId}(h:JAR P t=true):P.underlying t=some (.int .u8):=by
 grind [JAR]
theorem JxE{t:TypeId}(h:Jpk P t=true):P.underlying t=some .bool:=by
 grind [Jpk]
theorem JCY{t:TypeId}(h:JBf P t=true): ∃k,P.underlying t=some (.int k):=by
 grind [JBf]
theorem JC8{t:TypeId}{k:IntKind}(h:Juk P k t=true):P.underlying t=some (.int k):=by
 grind [Juk]
theorem JkC{t e:TypeId}{n:Nat}(h:arT P t=some (n,e)):P.underlying t=some (.array n e):=by
 grind [arT]
theorem Ju5{t:TypeId}{fs:Array Field}(h:flT P t=some fs):P.underlying t=some (.struct fs):=by
 grind [flT]
theorem J4u{x k n}(h:JK s (.p (.i k n)) x):x=.int k n:=by cases h with|p _ _ h=>cases h;rfl
theorem JlB{x n}(h:JK s (.p (.b n)) x):x=.bool n:=by cases h with|p _ _ h=>cases h;rfl
theorem JaA{x l}(h:JK s (.p (.s l)) x):x=.string ⟨l.toArray⟩:=by cases h with|p _ _ h=>cases h;rfl
theorem JGY{x}(h:JK s (.p .np) x):x=.pointer none:=by cases h with|p _ _ h=>cases h;rfl
theorem JIe{x}(h:JK s (.p .nf) x):x=.nilFunc:=by cases h with|p _ _ h=>cases h;rfl
theorem J6T(k n):JK s (.p (.i k n)) (.int k n):=.p _ _ (.i _ _)
theorem J6M(n):JK s (.p (.b n)) (.bool n):=.p _ _ (.b _)
theorem Jz3(l):JK s (.p (.s l)) (.string ⟨l.toArray⟩):=.p _ _ (.s _)
theorem J8G(l:List UInt8):ByteArray.size ⟨l.toArray⟩=l.length:=by simp[ByteArray.size]
theorem JDg(l m:List UInt8):(⟨l.toArray⟩:ByteArray)++⟨m.toArray⟩=⟨(l++m).toArray⟩:=by apply ByteArray.ext;simp_all
theorem JxD{op:BinOp}{k:IntKind}{x y:Int}{t:TypeId}{r:PV}(j:op≠.shl)(e:op≠.shr)(h:Jl3 op k x y=some r)(w:World):
  ∃v,(binOp op t (.int k x) (.int k y)).run P w=.ok v w/\J0r s.w s.g.C r v:=by
 cases op<;>simp only[Jl3]at h
 case add=>injection h with h;subst h;exact⟨_,by simp[binOp,Op.intArith],.i _ _⟩
 case sub=>injection h with h;subst h;exact⟨_,by simp[binOp,Op.intArith],.i _ _⟩
 case mul=>injection h with h;subst h;exact⟨_,by simp[binOp,Op.intArith],.i _ _⟩
 case quo=>split at h
           ·cases h
           ·rename_i hy;injection h with h;subst h;exact⟨_,by simp[binOp,Op.intDiv,hy],.i _ _⟩
 case rem=>split at h
           ·cases h
           ·rename_i hy;injection h with h;subst h;exact⟨_,by simp[binOp,Op.intDiv,hy],.i _ _⟩
 case and=>injection h with h;subst h;exact⟨_,by simp[binOp,Op.intBits],.i _ _⟩
 case or=>injection h with h;subst h;exact⟨_,by simp[binOp,Op.intBits],.i _ _⟩
 case xor=>injection h with h;subst h;exact⟨_,by simp[binOp,Op.intBits],.i _ _⟩
 case eql=>injection h with h;subst h;exact⟨_,by simp[binOp,Op.intCmp],.b _⟩
 case neq=>injection h with h;subst h;exact⟨_,by simp[binOp,Op.intCmp],.b _⟩
 case lss=>injection h with h;subst h;exact⟨_,by simp[binOp,Op.intCmp],.b _⟩
 case leq=>injection h with h;subst h;exact⟨_,by simp[binOp,Op.intCmp],.b _⟩
 case gtr=>injection h with h;subst h;exact⟨_,by simp[binOp,Op.intCmp],.b _⟩
 case geq=>injection h with h;subst h;exact⟨_,by simp[binOp,Op.intCmp],.b _⟩
 all_goals simp_all
theorem Jh8{op:BinOp}{k k':IntKind}{x y:Int}{t:TypeId}{r:PV}(hs:op=.shl\/op=.shr)(h:JhO op k x y=some r)(w:World):
  ∃v,(binOp op t (.int k x) (.int k' y)).run P w=.ok v w/\J0r s.w s.g.C r v:=by
 unfold JhO at h;split at h
 ·cases h
 ·rename_i hy;rcases hs with rfl|rfl
  ·injection h with h;subst h;exact⟨_,by simp[binOp,Op.shift,hy],.i _ _⟩
  ·injection h with h;subst h;exact⟨_,by simp[binOp,Op.shift,hy],.i _ _⟩
theorem Jyx{op:BinOp}{x y:List UInt8}{t:TypeId}{r:PV}(h:JkS op x y=some r)(w:World):
  ∃v,(binOp op t (.string ⟨x.toArray⟩) (.string ⟨y.toArray⟩)).run P w=.ok v w/\J0r s.w s.g.C r v:=by
 cases op<;>simp only[JkS]at h
 case add=>
  split at h
  ·rename_i hl;injection h with h;subst h;refine⟨.string ⟨(x++y).toArray⟩,?_,.s _⟩;have h1: ¬(((ByteArray.size ⟨x.toArray⟩+ByteArray.size ⟨y.toArray⟩:Nat):Int)>IntKind.i64.max):=by rw[J8G,J8G];show¬(_>(9223372036854775807:Int));omega
   simp_all [binOp,Op.stringOp,JDg]
  ·cases h
 case eql=>injection h with h;subst h;exact⟨.bool (x==y),by simp[binOp,Op.stringOp],.b _⟩
 case neq=>injection h with h;subst h;exact⟨.bool (!(x==y)),by simp[binOp,Op.stringOp],.b _⟩
 case lss=>injection h with h;subst h;exact⟨.bool (Op.bytesLess x y),by simp[binOp,Op.stringOp],.b _⟩
 case leq=>injection h with h;subst h;exact⟨.bool (Op.bytesLess x y||x==y),by simp[binOp,Op.stringOp],.b _⟩
 case gtr=>injection h with h;subst h;exact⟨.bool (!(Op.bytesLess x y||x==y)),by simp[binOp,Op.stringOp],.b _⟩
 case geq=>injection h with h;subst h;exact⟨.bool (!Op.bytesLess x y),by simp[binOp,Op.stringOp],.b _⟩
 all_goals cases h
end
end Go.Am
end
section
namespace Go.Am
section
variable {P:Program} {F:Orc} {s:Sn} {a:Act} {env:List (Nat×AV)} {o:Oper} {new:Nat} {e:Eff}
theorem JKw(hi:Inv s)(he:J0p s a.tmps env){x}(h:(opR F (.mv x) new).run ⟨env,s.σ⟩=some e)(hc:JX P (.mv x) o.op=true):J1g P o a s e:=by
 simp only[opR]at h;obtain⟨v,h1,h⟩:=bind_some h;simp only[RM.run]at h;injection h with h;subst h
 unfold JX at hc;simp only at hc;split at hc
 ·rename_i y g;exact JL hi (by simp_all [execOp]) (J0h he h1 hc)
 ·rename_i y g;exact JL hi (by simp_all [execOp]) (J0h he h1 hc)
 ·cases hc
theorem JHa(hi:Inv s)(he:J0p s a.tmps env){c x y}(h:(opR F (.pick c x y) new).run ⟨env,s.σ⟩=some e)(hc:JX P (.pick c x y) o.op=true):J1g P o a s e:=by
 simp only[opR]at h;obtain⟨v,h1,h⟩:=bind_some h;unfold JX at hc;simp only at hc;split at hc
 ·rename_i c' k j n;simp only[J04]at hc;split at h
  ·rename_i b;have hb:=JlB (J0h he h1 hc.1.1);split at h
   ·rename_i g;obtain⟨u,h2,h⟩:=bind_some h;simp only[RM.run]at h;injection h with h;subst h
    exact JL hi (v:=a.eval k) (by simp_all [execOp,asBool]) (J0h he h2 hc.1.2)
   ·rename_i g;obtain⟨u,h2,h⟩:=bind_some h;simp only[RM.run]at h;injection h with h;subst h
    have g:b=false:=by simpa using g
    exact JL hi (v:=a.eval j) (by simp_all [execOp,asBool]) (J0h he h2 hc.2)
  grind [RM.run]
 ·cases hc
theorem JCv(hi:Inv s)(he:J0p s a.tmps env){x}(h:(opR F (.nilchk x) new).run ⟨env,s.σ⟩=some e)(hc:JX P (.nilchk x) o.op=true):J1g P o a s e:=by
 simp only[opR]at h;obtain⟨v,h1,h⟩:=bind_some h;unfold JX at hc;simp only at hc;split at hc
 ·rename_i y j;have hr:=J0h he h1 hc;split at h<;>(simp only[RM.run]at h;try cases h)
  ·refine JL hi (v:=a.eval y) ?_ hr;generalize hu:a.eval y=u at hr;cases hr;simp_all [execOp]
  ·refine JL hi (v:=a.eval y) ?_ hr;generalize hu:a.eval y=u at hr;cases hr;simp_all [execOp]
  ·refine JL hi (v:=a.eval y) ?_ hr;generalize hu:a.eval y=u at hr;cases hr with
   |ep _ _ _ _ _ _ _ _ g=>obtain⟨r,k,rfl⟩:=g;simp_all [execOp]
  ·refine JL hi (v:=a.eval y) ?_ hr;generalize hu:a.eval y=u at hr;cases hr;simp_all [execOp]
 ·cases hc
theorem J8n{op:BinOp}{t:TypeId}{x y:Operand}{u v:Value}(h:(∀c,u≠.agg c)/\u≠.nilIface)(w:World):(eqGuard op t x y u v).run P w=.ok () w:=by simp_all [eqGuard]
theorem Jwa(hi:Inv s)(he:J0p s a.tmps env){op x y}(h:(opR F (.bin op .plain x y) new).run ⟨env,s.σ⟩=some e)(hc:JX P (.bin op .plain x y) o.op=true):J1g P o a s e:=by
 simp only[opR]at h;obtain⟨u,h1,h⟩:=bind_some h;obtain⟨v,h2,h⟩:=bind_some h;obtain⟨r,h3,rfl⟩:=J2d h;unfold JX at hc;simp only at hc;split at hc
 ·rename_i E t j A ty D;simp only[J04,beq_iff_eq]at hc;obtain⟨⟨rfl,hx⟩,hy⟩:=hc;have k:=J0h he h1 hx;have n:=J0h he h2 hy;have g: ∀{z:Value},(∀c,a.eval j≠.agg c)/\a.eval j≠.nilIface->(binOp op t (a.eval j) (a.eval A)).run P s.w=.ok z s.w->(execOp a.eval o).run P s.w=.ok (.value z) s.w:=by simp_all [execOp,J8n]
  simp only[JbS]at h3;split at h3
  ·rename_i G p H q;rw[J4u k,J4u n]at g;split at h3
   ·obtain⟨z,hz,rfl⟩:=J90.1 h3;obtain⟨v,hv,hr⟩:=Jh8 (s:=s) (P:=P) (t:=t) (.inl rfl) hz s.w;exact JL hi (g (by simp) hv) (.p _ _ hr)
   ·obtain⟨z,hz,rfl⟩:=J90.1 h3;obtain⟨v,hv,hr⟩:=Jh8 (s:=s) (P:=P) (t:=t) (.inr rfl) hz s.w;exact JL hi (g (by simp) hv) (.p _ _ hr)
   ·rename_i B C;split at h3
    ·rename_i hk;subst hk;obtain⟨z,hz,rfl⟩:=J90.1 h3;obtain⟨v,hv,hr⟩:=JxD (s:=s) (P:=P) (t:=t) (λe=>B e) (λe=>C e) hz s.w;exact JL hi (g (by simp) hv) (.p _ _ hr)
    ·cases h3
  ·rw[JaA k,JaA n]at g;obtain⟨z,hz,rfl⟩:=J90.1 h3;obtain⟨v,hv,hr⟩:=Jyx (s:=s) (P:=P) (t:=t) hz s.w;exact JL hi (g (by simp) hv) (.p _ _ hr)
  ·cases h3
 ·cases hc
theorem Jy9(hi:Inv s)(he:J0p s a.tmps env){op x y}(h:(opR F (.bin op .bool x y) new).run ⟨env,s.σ⟩=some e)(hc:JX P (.bin op .bool x y) o.op=true):J1g P o a s e:=by
 simp only[opR]at h;obtain⟨u,h1,j⟩:=bind_some h;obtain⟨v,h2,g⟩:=bind_some j;obtain⟨r,h3,rfl⟩:=J2d g;clear h j g;unfold JX at hc;simp only at hc;split at hc
 ·rename_i A t D C ty z;simp only[J04,beq_iff_eq]at hc;obtain⟨⟨rfl,hx⟩,hy,k⟩:=hc;have n:=J0h he h1 hx;have w:=J0h he h2 hy;have hb:=JxE k;simp only[JbS]at h3;split at h3
  ·rename_i _ _ p q;have B:=JlB n;have E:=JlB w;cases op<;>simp only[J8S]at h3<;>first|(injection h3 with h3;subst h3)|cases h3
   all_goals simp_all [JL,execOp,eqGuard,binOp,run_equal_bool,J6M]
  ·cases h3
 ·cases hc
theorem Jcs{op:BinOp}{t:TypeId}{u v:Value}{b:Bool}(ho:op=.eql\/op=.neq){w:World}(h:(Op.equal t u v).run P w=.ok b w)
  (hu:(∃x n c,u=.slice x n c)\/(∃p,u=.pointer p/\v=.pointer none)\/u=.nilFunc\/(∃f y c,u=.func f y c)):
  (binOp op t u v).run P w=.ok (.bool (if op=.eql then b else !b)) w:=by
 rcases ho with rfl|rfl
 ·have:binOp .eql t u v=(do pure (.bool (<-Op.equal t u v))):=by
   grind [binOp]
  simp_all
 ·have:binOp .neq t u v=(do pure (.bool (!(<-Op.equal t u v)))):=by
   grind [binOp]
  simp_all
theorem J6l{op:BinOp}{b:Bool}{r:AV}(h:J8S op (some b)=some r):(op=.eql\/op=.neq)/\r=.p (.b (if op=.eql then b else !b)):=by
 cases op<;>simp[J8S]at h
 all_goals simp_all
theorem JpF{op:BinOp}{r:AV}(h:Jww op=some r):(op=.eql\/op=.neq)/\r=.unk:=by
 cases op<;>simp[Jww]at h
 all_goals simp_all
theorem JyT(hi:Inv s)(he:J0p s a.tmps env){op x y}(h:(opR F (.bin op .nils x y) new).run ⟨env,s.σ⟩=some e)(hc:JX P (.bin op .nils x y) o.op=true):J1g P o a s e:=by
 simp only[opR]at h;obtain⟨u,h1,C⟩:=bind_some h;obtain⟨v,h2,q⟩:=bind_some C;obtain⟨r,h3,rfl⟩:=J2d q;clear h C q h2;unfold JX at hc;simp only at hc;split at hc
 ·rename_i H t k E ty G;simp only[J04,beq_iff_eq]at hc;obtain⟨⟨rfl,hx⟩,j⟩:=hc;have B:=J0h he h1 hx;clear h1;have hy:E=.const (.slice none 0 0)/\ ∃el,P.underlying t=some (.slice el):=by
   unfold JJd at j;split at j
   ·obtain⟨el,I⟩:=JFV.1 j;simp_all [J2g]
   ·cases j
  obtain⟨rfl,el,hu⟩:=hy
  have go: ∀(z:Option Addr) (n c:Nat),a.eval k=.slice z n c->(op=.eql\/op=.neq)->
    (execOp a.eval o).run P s.w=.ok (.value (.bool (if op=.eql then z.isNone else !z.isNone))) s.w:=by
   intro z n c hz ho;have h1:=Jcs (P:=P) (t:=t) ho (run_equal_slice_nil s.w t el z n c hu) (.inl ⟨z,n,c,rfl⟩);simp_all [execOp,J8n,Act.eval]
  simp only[JbS]at h3;split at h3
  ·rename_i esz rows;cases B with
   |p _ _ g=>
    split at h3
    ·obtain⟨ho,rfl⟩:=JpF h3;generalize hz:a.eval k=z at g;cases g with
     |sl0 _ A cap=>exact JL hi (go _ _ _ hz ho) (.unk _)
     |sl _ _ r K cap vals=>exact JL hi (go _ _ _ hz ho) (.unk _)
    ·obtain⟨ho,rfl⟩:=J6l h3;generalize hz:a.eval k=z at g;cases g<;>simp_all [JL,J6M]
  ·rename_i b i n;generalize hz:a.eval k=z at B;cases B with
   |slr _ _ _ _ wm esz rows D=>
    obtain⟨A,cap,rfl,hn⟩:=D;split at h3
    ·obtain⟨ho,rfl⟩:=JpF h3;exact JL hi (go _ _ _ hz ho) (.unk _)
    ·rename_i J;obtain⟨ho,rfl⟩:=J6l h3;have:A.isNone=false:=by cases A<;>simp_all
     grind [JL,J6M]
  ·cases h3
 ·cases hc
theorem JyA(hi:Inv s)(he:J0p s a.tmps env){op x y}(h:(opR F (.bin op .nilp x y) new).run ⟨env,s.σ⟩=some e)(hc:JX P (.bin op .nilp x y) o.op=true):J1g P o a s e:=by
 simp only[opR]at h;obtain⟨u,h1,k⟩:=bind_some h;obtain⟨v,h2,j⟩:=bind_some k;obtain⟨r,h3,rfl⟩:=J2d j;clear h k j h2;unfold JX at hc;simp only at hc;split at hc
 ·rename_i B t n q ty A;simp only[J04,beq_iff_eq]at hc;obtain⟨⟨rfl,hx⟩,C⟩:=hc;have g:=J0h he h1 hx;clear h1;have hy:q=.const (.pointer none)/\ ∃el,P.underlying t=some (.pointer el):=by
   grind [JGP]
  obtain⟨rfl,el,hu⟩:=hy
  have go: ∀(z:Option Addr),a.eval n=.pointer z->(op=.eql\/op=.neq)->
    (execOp a.eval o).run P s.w=.ok (.value (.bool (if op=.eql then z.isNone else !z.isNone))) s.w:=by
   intro z hz ho;have:P.pointee t=el:=by grind [Program.pointee]
   simp_all [Jcs,run_equal_pointer_nil,execOp,J8n,Act.eval]
  simp only[JbS]at h3;generalize hz:a.eval n=z at g;split at h3
  ·obtain⟨ho,rfl⟩:=J6l h3
   grind [JGY,JL,J6M]
  ·obtain⟨ho,rfl⟩:=J6l h3;cases g
   grind [JL,J6M]
  ·obtain⟨ho,rfl⟩:=J6l h3;cases g
   grind [JL,J6M]
  ·obtain⟨ho,rfl⟩:=J6l h3;cases g<;>grind [JL,J6M]
  ·cases h3
 ·cases hc
theorem JyQ(hi:Inv s)(he:J0p s a.tmps env){op x y}(h:(opR F (.bin op .nilf x y) new).run ⟨env,s.σ⟩=some e)(hc:JX P (.bin op .nilf x y) o.op=true):J1g P o a s e:=by
 simp only[opR]at h;obtain⟨u,h1,n⟩:=bind_some h;obtain⟨v,h2,j⟩:=bind_some n;obtain⟨r,h3,rfl⟩:=J2d j;clear h n j h2;unfold JX at hc;simp only at hc;split at hc
 ·rename_i C t A q ty B;simp only[J04,beq_iff_eq]at hc;obtain⟨⟨rfl,hx⟩,D⟩:=hc;have k:=J0h he h1 hx;clear h1;have hy:q=.const .nilFunc/\ ∃p r v,P.underlying t=some (.func p r v):=by
   grind [JJH]
  obtain⟨rfl,p,E,vv,hu⟩:=hy;simp only[JbS]at h3;generalize hz:a.eval A=z at k;split at h3
  ·obtain⟨ho,rfl⟩:=J6l h3;have:=JIe k;subst this;have g:(Op.equal t .nilFunc .nilFunc).run P s.w=.ok true s.w:=by
    have: ∀d,(Op.equalIn (d+1) t .nilFunc .nilFunc).run P s.w=.ok true s.w:=λd=>by simp[Op.equalIn,run_underlying hu]
    exact this 9999
   simp_all [Jcs,JL,J6M,execOp,J8n,Act.eval]
  ·obtain⟨ho,rfl⟩:=J6l h3;cases k;rename_i f _ _ fs cs _ _ _ _;have g:(Op.equal t (.func (.func f) fs cs) .nilFunc).run P s.w=.ok false s.w:=by
    have: ∀d,(Op.equalIn (d+1) t (.func (.func f) fs cs) .nilFunc).run P s.w=.ok false s.w:=λd=>by simp[Op.equalIn,run_underlying hu]
    exact this 9999
   have h1:=Jcs (P:=P) (t:=t) ho g (.inr (.inr (.inr ⟨_,_,_,rfl⟩)));simp_all [JL,J6M,execOp,J8n,Act.eval]
  ·cases h3
 ·cases hc
end
end Go.Am
end
section
namespace Go.Am
theorem J8e: ∀{vs:List Value} {w:World} {r o:Nat} {c:Array Value} {e:TypeId} {fz:Nat×Nat},w.heap[r]?=some (.cells c e fz)->o+vs.length<=c.size->
  Put r o vs w (w.setCells r o vs)
 |[],w,r,o,c,e,fz,h,hl=>⟨⟨c,e,fz,c,h,h,rfl,hl,λj v hj=>by simp at hj,λ_ _=>rfl⟩,λ_ _=>rfl,rfl,rfl,rfl⟩
 |v::vs,w,r,o,c,e,fz,h,hl=>by
  have hr:=Jbu h;have n:o+1+vs.length<=c.size:=by grind
  have h1:(w.setCell ⟨r,o,none⟩ v).heap[r]?=some (.cells (c.setIfInBounds o v) e fz):=by
   grind [World.setCell]
  obtain⟨⟨D,e1,fz1,c',g,x,q,B,A,C⟩,q1,q2,q3,y⟩:=J8e (vs:=vs) (o:=o+1) h1 (by simpa using n);rw[h1]at g;injection g with g;injection g with a1 a2 a3;subst a1 a2 a3
  refine⟨⟨c,e,fz,c',h,x,by simpa using q,hl,λj u hj=>?_,λk hk=>?_⟩,λr' z=>?_,?_,q3,y⟩
  ·grind
  ·grind
  ·show((w.setCell ⟨r,o,none⟩ v).setCells r (o+1) vs).heap[r']?=_
   grind [World.setCell]
  ·show((w.setCell ⟨r,o,none⟩ v).setCells r (o+1) vs).heap.size=_;simp_all
theorem J0r.one{w C x v}(h:J0r w C x v):v.oneCell'=true:=by cases h<;>rfl
theorem J0r.cells1{w C x v}(h:J0r w C x v):v.cells= #[v]:=by cases h<;>rfl
section
variable {P:Program} {F:Orc} {s:Sn} {a:Act} {env:List (Nat×AV)} {o:Oper} {new:Nat} {e:Eff}
theorem JKo(hi:Inv s)(he:J0p s a.tmps env){op x}(h:(opR F (.un op x) new).run ⟨env,s.σ⟩=some e)(hc:JX P (.un op x) o.op=true):J1g P o a s e:=by
 simp only[opR]at h;obtain⟨u,h1,j⟩:=bind_some h;obtain⟨r,h3,rfl⟩:=J2d j;clear h j;unfold JX at hc;simp only at hc;split at hc
 ·rename_i w t y q;simp only[J04,beq_iff_eq]at hc;obtain⟨rfl,hx⟩:=hc;have g:=J0h he h1 hx;clear h1;generalize hz:a.eval y=z at g;unfold unP at h3;split at h3<;>first|(injection h3 with h3;subst h3)|cases h3
  ·rename_i k n;have:=J4u g;simp_all [JL,execOp,Op.unary,Op.intArith,J6T]
  ·rename_i k n;have:=J4u g;simp_all [JL,execOp,Op.unary,Op.intBits,J6T]
  ·rename_i b;have:=JlB g;simp_all [JL,execOp,Op.unary,J6M]
  ·cases g with
   |unk b=>exact JL hi (v:=.bool (!b)) (by simp_all [execOp,Op.unary]) (.unk _)
 ·cases hc
theorem JER(hi:Inv s)(he:J0p s a.tmps env){off x}(h:(opR F (.faddr off x) new).run ⟨env,s.σ⟩=some e)(hc:JX P (.faddr off x) o.op=true):J1g P o a s e:=by
 simp only[opR]at h;obtain⟨u,h1,A⟩:=bind_some h;obtain⟨r,h3,rfl⟩:=J2d A;clear h A;unfold JX at hc;simp only at hc;split at hc
 ·rename_i t y f B;simp only[J04]at hc;obtain⟨hx,G⟩:=hc;have k:=J0h he h1 hx;clear h1;have hf: ∃fs j n,P.underlying t=some (.struct fs)/\fs[f]?=some j/\j.offset=off/\szT P j.type=some n/\n≠0:=by
   grind [Ju5]
  obtain⟨fs,j,n,hu,C,rfl,hn,D⟩:=hf;have go: ∀(r g:Nat),a.eval y=.pointer (some ⟨r,g,none⟩)->(execOp a.eval o).run P s.w=.ok (.value (.pointer (some ⟨r,g+j.offset,none⟩))) s.w:=by simp_all [Addr.add,execOp,Instr.fieldAt,run_underlying,Instr.sureAddr,fieldPlace,J3e]
  generalize hz:a.eval y=z at k;unfold JiA at h3;split at h3<;>first|(injection h3 with h3;subst h3)|cases h3
  ·cases k with
   |ptr _ _ r g m hb=>exact JL hi (go _ _ hz) (by rw[Jxl];exact .ptr _ _ r g m hb)
  ·cases k with
   |cp cs _ r g vals v q=>exact JL hi (go _ _ hz) (by rw[Jxl];exact .cp _ _ r g vals v q)
  ·cases k with
   |ep _ _ _ _ _ wm esz rows p0 v q E=>
    obtain⟨r,g,rfl⟩:=p0;refine JL hi (go _ _ hz) (.ep _ _ _ _ _ wm esz rows ⟨_,_,rfl⟩ v q λe1 e2=>?_)
    grind
 ·cases hc
theorem JHQ(hi:Inv s)(he:J0p s a.tmps env){x i}(h:(opR F (.extr x i) new).run ⟨env,s.σ⟩=some e)(hc:JX P (.extr x i) o.op=true):J1g P o a s e:=by
 simp only[opR]at h;obtain⟨u,h1,k⟩:=bind_some h;obtain⟨r,h3,rfl⟩:=J2d k;clear h k;unfold JX at hc;simp only at hc;split at hc
 ·rename_i y j g;simp only[J04,beq_iff_eq]at hc;obtain⟨hx,rfl⟩:=hc;have n:=J0h he h1 hx;generalize hz:a.eval y=z at n;unfold JsU at h3;split at h3
  ·cases n with
   |tup cs vs A q=>
    have w:=Jw h3;have hv:vs[i]?=some vs[i]:=by simp
    exact JL hi (v:=vs[i]) (by simp[execOp,g,hz,Instr.extract,hv]) (q i r _ h3 hv)
  ·cases h3
 ·cases hc
theorem JHg(hi:Inv s)(he:J0p s a.tmps env){f first caps}(h:(opR F (.mkfn f first caps) new).run ⟨env,s.σ⟩=some e)(hc:JX P (.mkfn f first caps) o.op=true):J1g P o a s e:=by
 simp only[opR]at h;obtain⟨u,h1,r⟩:=bind_some h;obtain⟨v,h2,j⟩:=bind_some r;simp only[RM.run]at j;injection j with j;subst j
 clear h r;unfold JX at hc;simp only at hc;split at hc
 ·rename_i g k n A;simp only[J04,beq_iff_eq]at hc;obtain⟨⟨rfl,hf⟩,q⟩:=hc;obtain⟨z,w⟩:=JcD he h1 hf;obtain⟨l2,y⟩:=JcD he h2 q;refine JL hi (v:=.func (.func f) (k.map a.eval) (n.map a.eval)) (by simp_all [execOp,Instr.makeFunc]) (.fn _ _ _ _ _ (by simpa using z) (by simpa using l2) (λi x v hx hv=>w i x v hx ?_) (λi x v hx hv=>y i x v hx ?_))
  all_goals simp_all
 ·cases hc
theorem JKA(hi:Inv s)(he:J0p s a.tmps env){mx x y}(h:(opR F (.mm mx x y) new).run ⟨env,s.σ⟩=some e)(hc:JX P (.mm mx x y) o.op=true):J1g P o a s e:=by
 simp only[opR]at h;obtain⟨u,h1,n⟩:=bind_some h;obtain⟨v,h2,j⟩:=bind_some n;obtain⟨r,h3,rfl⟩:=J2d j;clear h n j;unfold JX at hc;simp only at hc;split at hc
 ·rename_i c D;split at hc
  ·rename_i b A;simp only[J04,beq_iff_eq]at hc;obtain⟨hb,hc⟩:=hc;split at hc
   ·rename_i z w g;simp only[J04]at hc;have B:=J0h he h1 hc.1;have C:=J0h he h2 hc.2;have hm:c.args.map a.eval= #[a.eval z,a.eval w]:=by apply Jxu;simp[g]
    unfold mmP at h3;split at h3
    ·rename_i k p k' q;injection h3 with h3;subst h3;have E:=J4u B;have G:=J4u C;cases mx
     ·simp_all [JL,J6T,execOp,resolve,invoke,builtin,Builtin.min_,Builtin.min2]
     simp_all [JL,J6T,execOp,resolve,invoke,builtin,Builtin.max_,Builtin.max2]
    ·cases h3
   ·cases hc
  ·cases hc
 ·cases hc
theorem JIw(hi:Inv s)(he:J0p s a.tmps env){str x}(h:(opR F (.len str x) new).run ⟨env,s.σ⟩=some e)(hc:JX P (.len str x) o.op=true):J1g P o a s e:=by
 simp only[opR]at h;obtain⟨u,h1,C⟩:=bind_some h;obtain⟨r,h3,rfl⟩:=J2d C;clear h C;unfold JX at hc;simp only at hc;split at hc
 ·rename_i c q;split at hc
  ·rename_i j;split at hc
   ·rename_i y t k A;simp only[J04]at hc;obtain⟨hx,I⟩:=hc;have B:=J0h he h1 hx;have hm:c.args.map a.eval= #[a.eval y]:=by apply Jxu;simp[k]
    have v:c.argTypes[0]?=some t:=by rw[<-JGp,A];rfl
    generalize hz:a.eval y=z at B;have hs: ∀l:List UInt8,z=.string ⟨l.toArray⟩->J6B P t=true->(execOp a.eval o).run P s.w=.ok (.value (.int .i64 l.length)) s.w:=by intro l hl g;have:=J6V g;simp[execOp,q,resolve,j,hm,hz,hl,invoke,builtin,Builtin.len_,v,run_underlying this,goInt,J8G]
    have H: ∀E n cp,z=.slice E n cp->(elT P t).isSome=true->(execOp a.eval o).run P s.w=.ok (.value (.int .i64 n)) s.w:=by intro E n cp hl g;obtain⟨el,D⟩:=JFV.1 g;have:=J2g D;simp[execOp,q,resolve,j,hm,hz,hl,invoke,builtin,Builtin.len_,v,run_underlying this,goInt]
    unfold JtJ at h3;split at h3<;>first|(injection h3 with h3;subst h3)|cases h3
    ·grind [JL,JaA,J6T]
    ·cases B with
     |p _ _ G=>cases G<;>simp_all [JL,J6T]
    ·cases B<;>grind [JL,J6T]
   ·cases hc
  ·cases hc
 ·cases hc
end
end Go.Am
end
section
namespace Go.Am
section
variable {P:Program} {F:Orc} {s:Sn} {a:Act} {env:List (Nat×AV)} {o:Oper} {new:Nat} {e:Eff}
theorem J6a.of_p{s:Sn}{esz rows v}(h:JK s (.p (.sl esz rows)) v):J6a s esz rows v:=by
 grind [of_sl,cases Go.Am.JK]
theorem JmU(hi:Inv s){esz:Nat}{x:AV}{rows:List (List PV)}{v:Value}(h:(J2S esz x).run ⟨env,s.σ⟩=some rows)(hr:JK s x v):
  (∃l,x=.p (.s l)/\esz=1/\rows=l.map J5o/\v=.string ⟨l.toArray⟩)\/J6a s esz rows v:=by
 unfold J2S at h;split at h
 ·split at h
  ·rename_i he;subst he;simp only[RM.run]at h;injection h with h;subst h
   exact .inr (.of_p hr)
  ·cases h
 ·grind [RM.run,JaA]
 ·simp only[RM.run]at h;split at h
  ·rename_i blk hb;split at h
   ·split at h
    ·rename_i hc;obtain⟨rfl,hc⟩:=hc;simp only[RM.run]at h;injection h with h;subst h
     exact .inr (.of_slr hi hr hb hc)
    ·cases h
   ·cases h
  ·cases h
 ·cases h
theorem JkR{α:Type}{esz:Nat}: ∀{rows:List (List α)},(∀row∈rows,row.length=esz)-> ∀{k:Nat} {x:α},rows.flatten[k]?=some x->
  ∃i j row,k=i*esz+j/\rows[i]?=some row/\row[j]?=some x/\j<esz
 |[],_,k,x,h=>by simp at h
 |r::rows,hl,k,x,h=>by
  simp only[JeB]at h;have hr:r.length=esz:=hl r (by simp);rcases List.getElem?_append (l₁:=r) (l₂:=rows.flatten) (i:=k)▸h with e;split at e
  ·exact⟨0,k,r,by simp,rfl,e,by omega⟩
  ·obtain⟨i,j,row,e1,e2,g,n⟩:=JkR (λrow hm=>hl row (by simp[hm])) e;exact⟨i+1,j,row,by grind,by simpa using e2,g,n⟩
theorem JaS{α:Type}{esz:Nat}: ∀{rows:List (List α)},(∀row∈rows,row.length=esz)->rows.flatten.length=rows.length*esz
 |[],_=>by simp
 |r::rows,hl=>by
  have:=JaS (rows:=rows) (λrow hm=>hl row (by simp[hm]))
  grind
theorem J6a.cells{s:Sn}{esz rows v}(h:J6a s esz rows v):
  ∃(a:Option Addr) (cap:Nat) (vs:List Value),v=.slice a rows.length cap/\rows.length<=cap/\vs.length=rows.length*esz/\
   (∀(k:Nat) x,rows.flatten[k]?=some x-> ∃u,vs[k]?=some u/\J0r s.w s.g.C x u)/\
   (rows=[]\/ ∃r o,a=some ⟨r,o,none⟩/\ ∀(k:Nat) u,vs[k]?=some u->J0L s.w r (o+k)=some u)/\(∀row∈rows,row.length=esz):=by
 obtain⟨a,cap,h1,h2,h3,h4⟩:=h;rcases h4 with rfl|⟨r,o,ha,hx⟩
 ·simp_all
 ·refine⟨a,cap,(List.range (rows.length*esz)).map λk=>(J0L s.w r (o+k)).getD .nilFunc,h1,h2,by simp,λk x hk=>?_,.inr ⟨r,o,ha,λk u hk=>?_⟩,h3⟩
  ·obtain⟨i,j,row,e1,e2,n,_⟩:=JkR h3 hk
   grind [JaS]
  ·have e:=Jw hk;simp at e;rw[J79,List.getElem?_range e]at hk;simp at hk;have:k<rows.flatten.length:=by grind [JaS]
   obtain⟨i,j,row,e1,e2,n,_⟩:=JkR h3 (zQ9 this)
   grind
theorem Jiu: ∀{rows:List (List PV)} {l:List UInt8},J8F rows=some l-> ∃e:List Int,rows=e.map (λn=>[PV.i .u8 n])/\l=e.map λn=>UInt8.ofNat n.toNat
 |[],l,h=>by simp_all [J8F]
 |row::rows,l,h=>by
  unfold J8F at h;split at h
  ·simp_all
  ·rename_i n r j;injection j with e1 e2;subst e1 e2;split at h
   ·rename_i l' g;injection h with h;subst h;obtain⟨e,h1,h2⟩:=Jiu g;exact⟨n::e,by simp[h1],by simp[h2]⟩
   ·cases h
  ·cases h
theorem JAx(e:List Int): ∀b:ByteArray,(e.foldl (λr n=>r.push (UInt8.ofNat n.toNat)) b)=⟨b.data++(e.map λn=>UInt8.ofNat n.toNat).toArray⟩:=by
 induction e with
 |nil=>intro b;simp
 |cons n e ih=>simp_all
theorem J9M(r o n:Nat):Addr.add ⟨r,o,none⟩ n=⟨r,o+n,none⟩:=by simp[Addr.add]
theorem Jq4{w:World}{r o:Nat}(vs:List Value)(h: ∀(k:Nat) u,vs[k]?=some u->J0L w r (o+k)=some u):
  (loadCells ⟨r,o,none⟩ vs.length).run P w=.ok vs.toArray w:=
 run_loadCells_list w _ vs λj v hj=>by grind [J9M,J5X]
theorem JHK(hi:Inv s)(he:J0p s a.tmps env){k x}(hk: ∀own,k≠.toBytes own)(h:(opR F (.conv k x) new).run ⟨env,s.σ⟩=some e)(hc:JX P (.conv k x) o.op=true):J1g P o a s e:=by
 simp only[opR]at h;obtain⟨u,h1,j⟩:=bind_some h;clear h;unfold JX at hc;simp only at hc;split at hc
 ·rename_i T dst y I;simp only[J04]at hc;obtain⟨hx,g⟩:=hc;have A:=J0h he h1 hx;generalize hz:a.eval y=z at A;split at j
  ·rename_i k' k1 n;simp only[RM.run]at j;injection j with j;subst j
   simp only[J04]at g;obtain⟨ks,hs⟩:=JCY g.1;have hd:=JC8 g.2;have:=J4u A;simp_all [JL,execOp,convert,run_underlying,Conv.intToInt,J6T]
  ·rename_i l;simp only[RM.run]at j;injection j with j;subst j
   simp only[J04]at g;have hs:=J6V g.1;have hd:=J6V g.2;have:=JaA A;simp_all [JL,execOp,convert,run_underlying]
  ·simp only[J04]at g;obtain⟨g,hd⟩:=g;have hd:=J6V hd;split at g
   ·rename_i el K;simp only[J04,beq_iff_eq]at g;have hs:=J2g K;have L:=Jtk g.1;obtain⟨rows,h4,h5⟩:=bind_some j;clear j;split at h5
    ·rename_i l hl;simp only[RM.run]at h5;injection h5 with h5;subst h5
     rcases JmU hi h4 A with⟨l',rfl,_,N,hv⟩|J
     ·
      have:=JaA A;subst this;have:l=l':=by
       have: ∀l:List UInt8,J8F (l.map J5o)=some l:=by
        intro l
        induction l with
        |nil=>rfl
        |cons b l ih=>simp[J8F,J5o,ih]
       simp_all
      simp_all [JL,execOp,convert,run_underlying]
     ·obtain⟨D,cap,vs,hv,E,hlen,B,C,H⟩:=J.cells;obtain⟨q,hr,rfl⟩:=Jiu hl;have hvs:vs=q.map (Value.int .u8):=by
       apply zQ6;intro k;have S:rows.flatten=q.map (PV.i .u8):=by rw[hr];clear hr hl B hlen H C hv E h4 A;induction q with
        |nil=>rfl
        |cons n q ih=>simp[ih]
       by_cases hk:k<q.length
       ·obtain⟨u,hu,hp⟩:=B k (.i .u8 q[k]) (by simp_all)
        grind [cases Go.Am.J0r]
       simp_all
      have O:rows.length=vs.length:=by omega
      subst hv;have G:(Conv.bytesToString (.slice D rows.length cap)).run P s.w=.ok (.string ⟨(q.map λn=>UInt8.ofNat n.toNat).toArray⟩) s.w:=by
       rcases C with Q|⟨r,R,rfl,hm⟩
       ·have M:q=[]:=by simp_all
        subst M;cases D with
        |none=>simp[Conv.bytesToString];rfl
        |some D=>have:=run_bytesToString (P:=P) s.w D rows.length cap [] (by simp_all [loadCells,loadCellsFrom]);rw[this];rfl
       ·have:=run_bytesToString (P:=P) s.w ⟨r,R,none⟩ rows.length cap q (by grind [Jq4]);simp_all [JAx]
      refine JL hi (v:=.string ⟨(q.map λn=>UInt8.ofNat n.toNat).toArray⟩) ?_ (Jz3 _);simp[execOp,I,hz,convert,run_underlying hs,run_underlying hd,run_underlying L,G]
    ·cases h5
   ·cases g
  ·simp_all
  ·cases j
 ·cases hc
end
end Go.Am
end
section
namespace Go.Am
theorem Jfl{α:Type}{cs l:List α}{off size:Nat}(h:sub cs off size=some l):l.length=size/\off+size<=cs.length/\ ∀(i:Nat),i<size->l[i]?=cs[off+i]?:=by
 grind [sub]
theorem Jgm: ∀{cs:List AV} {l:List PV},unp cs=some l->cs=l.map .p
 |[],l,h=>by grind [unp]
 |x::cs,l,h=>by
  unfold unp at h;split at h
  ·simp_all
  ·rename_i c r e;injection e with e1 e2;subst e1 e2;split at h
   ·rename_i l' hl;injection h with h;subst h;simp[Jgm hl]
   ·cases h
  ·cases h
section
variable {P:Program} {F:Orc} {s:Sn} {a:Act} {env:List (Nat×AV)} {o:Oper} {new:Nat} {e:Eff}
theorem JoI{agg:Bool}{l:List PV}{x:AV}{vs:List Value}(h:J4N agg l=some x)(hl:l.length=vs.length)
  (hr: ∀(i:Nat) y v,l[i]?=some y->vs[i]?=some v->J0r s.w s.g.C y v):
  (agg=true/\JK s x (.agg vs.toArray))\/(agg=false/\ ∃v,vs=[v]/\JK s x v):=by
 cases agg with
 |true=>simp[J4N]at h;subst h;exact .inl ⟨rfl,.data _ _ (by simpa using hl) λi y v hy hv=>hr i y v hy (by simpa using hv)⟩
 |false=>
  simp only[J4N,J8R,if_false]at h;split at h
  ·injection h with h;subst h;obtain⟨v,rfl⟩: ∃v,vs=[v]:=JBk.1 (by simp_all);exact .inr ⟨rfl,v,rfl,.p _ _ (hr 0 _ v rfl rfl)⟩
  ·cases h
theorem Jmc{agg:Bool}{l:List AV}{x:AV}{vs:List Value}(h:J47 agg l=some x)(hl:l.length=vs.length)(h1: ∀v∈vs,v.oneCell'=true)
  (hr: ∀(i:Nat) y v,l[i]?=some y->vs[i]?=some v->JK s y v):
  (agg=true/\JK s x (.agg vs.toArray))\/(agg=false/\ ∃v,vs=[v]/\JK s x v):=by
 cases agg with
 |true=>
  simp only[J47,if_true]at h;split at h
  ·rename_i q hq;injection h with h;subst h;have:=Jgm hq;subst this;refine .inl ⟨rfl,.data _ _ (by simpa using hl) λi y v hy hv=>?_⟩;have:=hr i (.p y) v (by simp[hy]) (by simpa using hv);cases this<;>simp_all
  ·injection h with h;subst h;exact .inl ⟨rfl,.agg _ _ (by simpa using hl) (λi v hv=>h1 v (by grind)) λi y v hy hv=>hr i y v hy (by simpa using hv)⟩
 |false=>
  simp only[J47,J8R,if_false]at h;split at h
  ·injection h with h;subst h;obtain⟨v,rfl⟩: ∃v,vs=[v]:=JBk.1 (by simp_all);exact .inr ⟨rfl,v,rfl,hr 0 _ v rfl rfl⟩
  ·cases h
theorem Jqc{agg:Bool}{off size:Nat}{x r:AV}{v:Value}{t:TypeId}(h:J9f agg off size x=some r)(hr:JK s x v)(o:agT P t=some agg)(hs:szT P t=some size)
  (h1:agg=true\/size=1): ∃cs u,v=.agg cs/\(part t cs off).run P s.w=.ok u s.w/\JK s r u:=by
 have go: ∀(cs:Array Value) (vs:List Value),vs.length=size->(∀(i:Nat),i<size->vs[i]?=cs[off+i]?)->off+size<=cs.size->
   ((agg=true/\JK s r (.agg vs.toArray))\/(agg=false/\ ∃v,vs=[v]/\JK s r v))-> ∃u,(part t cs off).run P s.w=.ok u s.w/\JK s r u:=by
  intro cs vs j n y e;rcases e with⟨rfl,g⟩|⟨rfl,v,rfl,g⟩
  ·refine⟨.agg (cs.extract off (off+size)),by simp_all [part,JcA,J3e],?_⟩;have:cs.extract off (off+size)=vs.toArray:=by
    grind
   simp_all
  ·simp at j;subst j;have k:=n 0 (by omega);simp at k;exact⟨v,by simp[part,JcA o,<-k],g⟩
 unfold J9f at h;split at h
 ·rename_i cs;split at h
  ·rename_i l hl;obtain⟨k1,k2,q⟩:=Jfl hl;cases hr with
   |data _ vs q1 q2=>
    have e:=JoI (s:=s) (vs:=((vs.toList.drop off).take size)) h (by simp;omega) (by
     grind)
    grind
  ·cases h
 ·rename_i cs;split at h
  ·rename_i l hl;obtain⟨k1,k2,q⟩:=Jfl hl;cases hr with
   |agg _ vs q1 z q2=>
    have e:=Jmc (s:=s) (vs:=((vs.toList.drop off).take size)) h (by simp;omega) (by
     grind [List.getElem?_of_mem]) (by
     grind)
    grind
  ·cases h
 ·cases h
theorem JF0(hi:Inv s)(he:J0p s a.tmps env){agg off size x}(h:(opR F (.field agg off size x) new).run ⟨env,s.σ⟩=some e)(hc:JX P (.field agg off size x) o.op=true):J1g P o a s e:=by
 simp only[opR]at h;obtain⟨u,h1,j⟩:=bind_some h;obtain⟨r,h3,rfl⟩:=J2d j;clear h j;unfold JX at hc;simp only at hc;split at hc
 ·rename_i t y f q;simp only[J04]at hc;obtain⟨hx,g⟩:=hc;split at g
  ·rename_i fs w;split at g
   ·rename_i A z;simp only[J04,beq_iff_eq]at g;obtain⟨⟨⟨h4,h5⟩,n⟩,k⟩:=g;obtain⟨cs,v,hv,hp,hr⟩:=Jqc h3 (J0h he h1 hx) n h5 (by simpa using k);exact JL hi (v:=v) (by simp_all [execOp,Instr.field,run_underlying,Ju5,asAgg]) hr
   ·cases g
  ·cases g
 ·cases hc
theorem JHj(hi:Inv s)(he:J0p s a.tmps env){x i}(h:(opR F (.sidx x i) new).run ⟨env,s.σ⟩=some e)(hc:JX P (.sidx x i) o.op=true):J1g P o a s e:=by
 simp only[opR]at h;obtain⟨u,h1,r⟩:=bind_some h;obtain⟨v,h2,g⟩:=bind_some r;clear h r;unfold JX at hc;simp only at hc;split at hc
 ·rename_i t y j A;simp only[J04]at hc;obtain⟨⟨hx,hj⟩,D⟩:=hc;have w:=J0h he h1 hx;have z:=J0h he h2 hj;split at g
  ·rename_i l k n;split at g
   ·rename_i hn;split at g
    ·rename_i b hb;simp only[RM.run]at g;injection g with g;subst g
     have C:=JaA w;have E:=J4u z;have B:(⟨l.toArray⟩:ByteArray)[n.toNat]?=some b:=by have q:=Jw hb;rw[zQ9 q]at hb;rw[getElem?_pos _ _ (by grind [J8G])];injection hb with hb;rw[<-hb];rfl
     refine JL hi (v:=.int .u8 b.toNat) ?_ (J6T _ _);simp_all [execOp,Instr.index,asIntOf,run_underlying,J6V]
    ·cases g
   ·cases g
  ·cases g
 ·cases hc
theorem JHM(hi:Inv s)(he:J0p s a.tmps env){agg len esz x i}(h:(opR F (.aidx agg len esz x i) new).run ⟨env,s.σ⟩=some e)(hc:JX P (.aidx agg len esz x i) o.op=true):J1g P o a s e:=by
 simp only[opR]at h;obtain⟨u,h1,B⟩:=bind_some h;obtain⟨v,h2,g⟩:=bind_some B;clear h B;unfold JX at hc;simp only at hc;split at hc
 ·rename_i t y j z;simp only[J04]at hc;obtain⟨⟨hx,hj⟩,q⟩:=hc;have E:=J0h he h1 hx;have G:=J0h he h2 hj;split at q
  ·rename_i n el A;simp only[J04,beq_iff_eq]at q;obtain⟨⟨⟨rfl,h5⟩,H⟩,C⟩:=q;split at g
   ·rename_i k m;split at g
    ·rename_i hm;obtain⟨r,h3,rfl⟩:=J2d g;obtain⟨cs,w,hv,hp,hr⟩:=Jqc h3 E H h5 (by simpa using C);have D:=J4u G;exact JL hi (v:=w) (by simp[execOp,z,hv,D,Instr.index,asIntOf,run_underlying (JkC A),hm,J3e h5,hp]) hr
    ·cases g
   ·cases g
  ·cases q
 ·cases hc
theorem JFX(hi:Inv s)(he:J0p s a.tmps env){len esz x i}(h:(opR F (.aaddr len esz x i) new).run ⟨env,s.σ⟩=some e)(hc:JX P (.aaddr len esz x i) o.op=true):J1g P o a s e:=by
 simp only[opR]at h;obtain⟨u,h1,I⟩:=bind_some h;obtain⟨v,h2,B⟩:=bind_some I;obtain⟨r,h3,rfl⟩:=J2d B;clear h I B;unfold JX at hc;simp only at hc;split at hc
 ·rename_i t y j G;simp only[J04]at hc;obtain⟨⟨hx,hj⟩,q⟩:=hc;have A:=J0h he h1 hx;have L:=J0h he h2 hj;split at q
  ·rename_i n el H;simp only[J04,beq_iff_eq]at q;obtain⟨rfl,h5⟩:=q;unfold JiJ at h3;split at h3
   ·rename_i k m;split at h3
    ·rename_i hm;have J:=J4u L;have go: ∀(r g:Nat),a.eval y=.pointer (some ⟨r,g,none⟩)->(execOp a.eval o).run P s.w=.ok (.value (.pointer (some ⟨r,g+m.toNat*esz,none⟩))) s.w:=by intro r g hz;simp[execOp,G,hz,J,Instr.indexAt,asIntOf,run_underlying (JkC H),Instr.sureAddr,hm,J3e h5,J9M]
     generalize hz:a.eval y=z at A;split at h3<;>first|(injection h3 with h3;subst h3)|cases h3
     ·cases A with
      |ptr _ _ r g K hb=>exact JL hi (go _ _ hz) (by rw[Jxl];exact .ptr _ _ r g K hb)
     ·cases A with
      |cp cs _ r g vals E C=>exact JL hi (go _ _ hz) (by rw[Jxl];exact .cp _ _ r g vals E C)
     ·cases A with
      |ep _ _ _ _ _ wm D rows p0 E C M=>
       obtain⟨r,g,rfl⟩:=p0;refine JL hi (go _ _ hz) (.ep _ _ _ _ _ wm D rows ⟨_,_,rfl⟩ E C λe1 e2=>?_)
       grind
    ·cases h3
   ·cases h3
  ·cases q
 ·cases hc
theorem JFE(hi:Inv s)(he:J0p s a.tmps env){esz x i}(h:(opR F (.iaddr esz x i) new).run ⟨env,s.σ⟩=some e)(hc:JX P (.iaddr esz x i) o.op=true):J1g P o a s e:=by
 simp only[opR]at h;obtain⟨u,h1,K⟩:=bind_some h;obtain⟨v,h2,g⟩:=bind_some K;clear h K;unfold JX at hc;simp only at hc;split at hc
 ·rename_i t y j J;simp only[J04]at hc;obtain⟨⟨hx,hj⟩,D⟩:=hc;have E:=J0h he h1 hx;have O:=J0h he h2 hj;split at D
  ·rename_i el L;simp only[beq_iff_eq]at D
   have go: ∀(r A len cap:Nat) k (m:Int),a.eval j=.int k m->a.eval y=.slice (some ⟨r,A,none⟩) len cap->0<=m->m<len->
     (execOp a.eval o).run P s.w=.ok (.value (.pointer (some ⟨r,A+m.toNat*esz,none⟩))) s.w:=by
    intro r A len cap k m C hz T G;simp[execOp,J,hz,C,Instr.indexAt,asIntOf,run_underlying (J2g L),T,G,J3e D,J9M]
   unfold J6R at g;split at g
   ·rename_i B rows k n;split at g
    ·rename_i M;subst M;split at g
     ·rename_i row q;simp only[RM.run]at g;injection g with g;subst g
      unfold Jt8 at q;split at q
      ·rename_i hn;have C:=J4u O;generalize hz:a.eval y=z at E;cases E with
       |p _ _ S=>
        cases S with
        |sl0 _ ad cap=>simp at q
        |sl _ _ r A cap vals p1 p2 Q R=>have G:=Jw q;refine JL hi (go r A _ cap k n C hz hn (by omega)) ?_;have:=JK.cp (s:=s) row 0 r (A+n.toNat*esz) (λj=>vals n.toNat j) (λj x hx=>Q n.toNat j row x q hx) (λj x hx=>R n.toNat j row x q hx);simp_all
      ·cases q
     ·cases g
    ·cases g
   ·rename_i b Z m k n;simp only[RM.run]at g;split at g
    ·rename_i blk hb;split at g
     ·rename_i wm B rows;split at g
      ·rename_i I;obtain⟨rfl,N,hn,Y⟩:=I;simp only[RM.run]at g;injection g with g;subst g
       have C:=J4u O;generalize hz:a.eval y=z at E;cases E with
       |slr _ _ _ _ wm' B rows' q0 q1 q2 q3=>
        have H:s.σ[b]?=some (.arr wm esz rows):=hb;rw[H]at q1;injection q1 with q1;injection q1 with a1 a2 a3;subst a1 a2 a3
        rcases q3 N with⟨_,_,W,_⟩|⟨r,cap,c,e1,fz,V,hv,U,hh,hs⟩
        ·omega
        ·subst hv;refine JL hi (go r _ _ cap k n C hz hn (by omega)) (.ep _ _ _ _ _ wm esz rows ⟨_,_,rfl⟩ H (zQ0 _) λ_ _=>⟨r,V,?_⟩)
         grind
      ·cases g
     ·cases g
    ·cases g
   ·cases g
  ·cases D
 ·cases hc
end
end Go.Am
end
section
namespace Go.Am
theorem J21(a b:List (Nat×Blk))(σ:List Blk):upd (a++b) σ=upd b (upd a σ):=by simp[upd]
section
variable {P:Program} {F:Orc} {s:Sn} {a:Act} {env:List (Nat×AV)} {o:Oper} {new:Nat} {e:Eff}
theorem Ja8{e:List Blk}(hi:Inv s)(j:Frz e s.σ){b i n:Nat}{y:List PV×List (Nat×Blk)}{v:Value}(h:(fz (.slr b i n)).run ⟨env,e⟩=some y)(hr:JK s (.slr b i n) v):
  ∃g',Inv ⟨upd y.2 s.σ,g',s.w⟩/\J0l s ⟨upd y.2 s.σ,g',s.w⟩/\Frz s.σ (upd y.2 s.σ)/\ ∃c,y.1=[c]/\J0r s.w g'.C c v:=by
 simp only[fz,RM.run]at h;split at h
 ·rename_i blk hb;split at h
  ·rename_i wm esz rows;split at h
   ·rename_i hc;simp only[RM.run]at h;injection h with h;subst h
    obtain⟨wm',g⟩:=j.1 b _ _ _ hb;obtain⟨g',h1,h2,h3,h4⟩:=JDO hi hr g hc;exact⟨g',h1,h2,h3,_,rfl,h4⟩
   ·cases h
  ·cases h
 ·cases h
theorem JH3{e:List Blk}(hi:Inv s)(j:Frz e s.σ){x:AV}{y:List PV×List (Nat×Blk)}{v:Value}(h:(fz.fz1 x).run ⟨env,e⟩=some y)(hr:JK s x v):
  ∃g',Inv ⟨upd y.2 s.σ,g',s.w⟩/\J0l s ⟨upd y.2 s.σ,g',s.w⟩/\Frz s.σ (upd y.2 s.σ)/\ ∃c,y.1=[c]/\J0r s.w g'.C c v:=by
 cases x with
 |p c=>
  simp only[fz.fz1,RM.run]at h;injection h with h;subst h
  cases hr with
  |p _ _ hr=>exact⟨s.g,hi,.refl s,.refl _,c,rfl,hr⟩
 |slr b i n=>exact Ja8 hi j (by exact h) hr
 |_=>grind [fz.fz1,RM.run]
theorem JzA{r:List Blk}: ∀{xs:List AV} {s:Sn} {y:List PV×List (Nat×Blk)} {vs:List Value},Inv s->Frz r s.σ->(fz.fzL xs).run ⟨env,r⟩=some y->xs.length=vs.length->
  (∀(i:Nat) x v,xs[i]?=some x->vs[i]?=some v->JK s x v)->
  ∃g',Inv ⟨upd y.2 s.σ,g',s.w⟩/\J0l s ⟨upd y.2 s.σ,g',s.w⟩/\Frz s.σ (upd y.2 s.σ)/\y.1.length=vs.length/\
   ∀(i:Nat) c v,y.1[i]?=some c->vs[i]?=some v->J0r s.w g'.C c v
 |[],s,y,vs,hi,e,h,hl,hr=>by
  simp only[fz.fzL,RM.run]at h;injection h with h;subst h
  exact⟨s.g,hi,.refl s,.refl _,by simpa using hl,λi c v hc=>by simp at hc⟩
 |x::xs,s,y,[],hi,e,h,hl,hr=>by simp at hl
 |x::xs,s,y,v::vs,hi,e,h,hl,hr=>by
  simp only[fz.fzL]at h;obtain⟨k,h1,h⟩:=bind_some h;obtain⟨D,h2,h⟩:=bind_some h;simp only[RM.run]at h;injection h with h;subst h
  obtain⟨g1,z,q,o,c,hc,B⟩:=JH3 hi e h1 (hr 0 x v rfl rfl);obtain⟨g2,F,n,A,l2,G⟩:=JzA (s:=⟨upd k.2 s.σ,g1,s.w⟩) z (e.trans o) h2 (by simpa using hl) λi x v hx hv=>(hr (i+1) x v (by simpa using hx) (by simpa using hv)).mono hi q;refine⟨g2,by grind [J21],by rw[J21];exact q.trans n,by rw[J21];exact o.trans A,by simp[hc,l2],λi c' E hc' j=>?_⟩;rw[hc]at hc';cases i with
  |zero=>simp at hc' j;subst hc' j;exact J0r.mono (s0:=⟨upd k.2 s.σ,g1,s.w⟩) (s:=⟨upd D.2 (upd k.2 s.σ),g2,s.w⟩) z n B
  |succ i=>grind
theorem Jue{j:List Blk}(hi:Inv s)(e:Frz j s.σ){x:AV}{y:List PV×List (Nat×Blk)}{v:Value}(h:(fz x).run ⟨env,j⟩=some y)(hr:JK s x v):
  ∃g',Inv ⟨upd y.2 s.σ,g',s.w⟩/\J0l s ⟨upd y.2 s.σ,g',s.w⟩/\Frz s.σ (upd y.2 s.σ)/\y.1.length=v.cells.size/\
   ∀(i:Nat) c u,y.1[i]?=some c->v.cells[i]?=some u->J0r s.w g'.C c u:=by
 cases x with
 |p c=>
  simp only[fz,RM.run]at h;injection h with h;subst h
  cases hr with
  |p _ _ hr=>
   refine⟨s.g,hi,.refl s,.refl _,by rw[hr.cells1];rfl,λi c' u hc hu=>?_⟩;rw[hr.cells1]at hu
   grind
 |data cs=>
  simp only[fz,RM.run]at h;injection h with h;subst h
  cases hr with
  |data _ vs h1 h2=>exact⟨s.g,hi,.refl s,.refl _,h1,λi c u hc hu=>h2 i c u hc hu⟩
 |slr b i n=>
  obtain⟨g',h1,h2,h3,c,hc,k⟩:=Ja8 hi e h hr;refine⟨g',h1,h2,h3,by rw[hc,k.cells1];rfl,λi c' u hc' hu=>?_⟩;rw[k.cells1]at hu
  grind
 |agg cs=>
  simp only[fz]at h;cases hr with
  |agg _ vs h1 o h2=>
   obtain⟨g',k1,k2,q,z,r⟩:=JzA (vs:=vs.toList) hi e h (by simpa using h1) λi x v hx hv=>h2 i x v hx (by simpa using hv)
   grind [Value.cells]
 |_=>grind [fz,RM.run]
theorem JcB(he:J0p s a.tmps env){x:Option Opd}{y:Option Operand}{v:Option AV}(h:(evo x).run ⟨env,s.σ⟩=some v)(hc:Jdt x y=true):
  (v=none/\y=none)\/ ∃u q,v=some u/\y=some q/\JK s u (a.eval q):=by
 cases x with
 |none=>
  grind [evo,RM.run,Jdt]
 |some x=>
  cases y with
  |none=>grind [Jdt]
  |some y=>
   simp only[evo]at h;obtain⟨u,h1,h⟩:=bind_some h;simp only[RM.run]at h;injection h with h;subst h
   exact .inr ⟨u,y,rfl,rfl,J0h he h1 hc⟩
theorem JdY{x:AV}{top n j:Nat}{v:Value}(h:J6H (some x) top j=some n)(hr:JK s x v)(g:Nat)(o:top<=g)(k:BoundsCode)(w:World):
  (Instr.sliceBound v g k).run P w=.ok n w/\n<=top:=by
 unfold J6H at h;split at h
 ·simp_all
 ·rename_i e;injection e with e;subst e
  split at h
  ·rename_i hc;injection h with h;subst h;have:=J4u hr;grind [Instr.sliceBound,asIntOf,Sem.run_pure]
  ·cases h
 ·cases h
theorem JDF{n:Nat}{lo hi:Option AV}{c:Nat×Nat}(h:Ji8 n lo hi=some c):J6H hi n n=some c.2/\J6H lo c.2 0=some c.1:=by
 grind [Ji8]
theorem Jgh(he:J0p s a.tmps env){lo hi:Option Opd}{n k:Option Operand}{l h:Option AV}{len cap:Nat}{c:Nat×Nat}{isSlice:Bool}
  (h1:(evo lo).run ⟨env,s.σ⟩=some l) (h2:(evo hi).run ⟨env,s.σ⟩=some h) (r:Jdt lo n=true) (x:Jdt hi k=true)
  (hc:Ji8 len l h=some c) (o:len<=cap) (w:World):
  (Instr.sliceBounds isSlice len cap (n.map a.eval) (k.map a.eval) none).run P w=.ok (c.1,c.2,cap) w/\c.1<=c.2/\c.2<=len:=by
 obtain⟨hj,e⟩:=JDF hc;obtain⟨i,j⟩:=c;rcases JcB he h2 x with⟨rfl,rfl⟩|⟨u,q,rfl,rfl,hr⟩
 ·simp[J6H]at hj;subst hj;rcases JcB he h1 r with⟨rfl,rfl⟩|⟨v,q',rfl,rfl,g⟩
  ·simp[J6H]at e;subst e;simp[Instr.sliceBounds]
  ·obtain⟨k1,k2⟩:=JdY (P:=P) e g len (zQ0 _) .sliceB w;simp_all [Instr.sliceBounds]
 ·rcases JcB he h1 r with⟨rfl,rfl⟩|⟨v,q',rfl,rfl,g⟩
  ·obtain⟨k1,k2⟩:=JdY (P:=P) hj hr cap o (if isSlice then .sliceAcap else .sliceAlen) w;simp[J6H]at e;subst e;simp_all [Instr.sliceBounds]
  ·obtain⟨k1,k2⟩:=JdY (P:=P) hj hr cap o (if isSlice then .sliceAcap else .sliceAlen) w;obtain⟨y,z⟩:=JdY (P:=P) e g j (zQ0 _) .sliceB w;simp_all [Instr.sliceBounds]
theorem JCz{esz:Nat}{rows:List (List PV)}{v:Value}{i j:Nat}(h:J0r s.w s.g.C (.sl esz rows) v)(D:i<=j)(hj:j<=rows.length):
  ∃e cap,v=.slice e rows.length cap/\rows.length<=cap/\
   J0r s.w s.g.C (.sl esz ((rows.drop i).take (j-i))) (.slice (if cap=i then e else e.map (·.add (i*esz))) (j-i) (cap-i)):=by
 have hlen:((rows.drop i).take (j-i)).length=j-i:=by simp;omega
 cases h with
 |sl0 _ e cap=>
  have q:j=0:=by simpa using hj
  have n:i=0:=by omega
  subst q n;refine⟨e,cap,rfl,zQ2 _,?_⟩;simpa using J0r.sl0 (w:=s.w) (C:=s.g.C) esz _ _
 |sl _ _ r o cap vals B z E F=>
  refine⟨_,cap,rfl,B,?_⟩;by_cases y:cap=i
  ·have A:j-i=0:=by omega
   rw[A];simpa using J0r.sl0 (w:=s.w) (C:=s.g.C) esz _ _
  ·rw[if_neg y];have:=J0r.sl (w:=s.w) (C:=s.g.C) esz ((rows.drop i).take (j-i)) r (o+i*esz) (cap-i) (λk m=>vals (i+k) m) (by omega)
    (λrow hr=>z row (zQ7 (JGi hr)))
    (λk m row x hk hm=>by
     grind)
    (λk m row x hk hm=>by
     grind)
   grind [J9M]
def JcT(k:SK)(x:AV)(lo hi:Option AV):Option AV:=
 match k with
 | .str=>Jbz x lo hi
 | .sl esz=>JbF esz x lo hi
theorem JzZ(hi:Inv s){k:SK}{t:TypeId}{y:Operand}{B A:Option Operand}{q:Operand}{c:PV}{l J:Option AV}{u r:AV}{g':Gh}{ws:List (Nat×Blk)}
  (E:o.op=.slice t y B A (some q)) (h:(match k with
   | .str=>J6B P t
   | .sl esz=>(match elT P t with|some e=>szT P e==some esz|none=>false))=true)
  (hl:l=none->B=none) (H: ∀I,J=some I-> ∃q',A=some q'/\JK s I (a.eval q')) (hu:JK s u (a.eval q))
  (hs:J5z k (.p c) l J (some u)=some r) (F:Inv ⟨upd ws s.σ,g',s.w⟩) (t':J0l s ⟨upd ws s.σ,g',s.w⟩) (hr:J0r s.w g'.C c (a.eval y)):J1g P o a s ⟨r,ws⟩:=by
 cases k with
 |str=>grind [J5z]
 |sl esz=>
  simp only[J5z]at hs;unfold JsW at hs;split at hs
  ·rename_i Q rows k1 h1 k2 S n;injection n with n;subst n;split at hs
   ·rename_i hc;obtain⟨rfl,rfl,rfl⟩:=hc;injection hs with hs;subst hs;obtain⟨q',rfl,D⟩:=H _ rfl;obtain rfl:=hl rfl;have e1:=J4u D;have e2:=J4u hu;simp only at h;split at h
    ·rename_i el G;simp only[beq_iff_eq]at h;obtain⟨g,cap,hv,N,O⟩:=JCz (s:=⟨s.σ,g',s.w⟩) (i:=0) (j:=rows.length) hr (zQ2 _) (zQ0 _);have hb: ∀w:World,(Instr.sliceBounds true rows.length cap none (some (a.eval q')) (some (a.eval q))).run P w=.ok (0,rows.length,rows.length) w:=by simp_all [Instr.sliceBounds,Instr.sliceBound,asIntOf]
     have z:J0r s.w g'.C (.slc esz rows) (.slice g rows.length rows.length):=by
      refine .slc esz rows g ?_;rw[hv]at hr;cases hr with
      |sl0=>exact .sl0 _ _ _
      |sl _ _ r o cap vals R M K L=>exact .sl esz rows r o rows.length vals (zQ0 _) M K L
     refine J2q (e:=⟨_,ws⟩) (w':=s.w) (g':=g') (v:=.slice g rows.length rows.length) ?_ F t' (.p _ _ z);have e0:(if rows.length=0 then g else g.map λx=>x.add (0*esz))=g:=by simp[Addr.add]
     simp only[execOp,E,hv];simp[Instr.sliceAt,Instr.slice,run_underlying (J2g G),hb,J3e h];simp_all
    ·cases h
   ·cases hs
  ·cases hs
theorem JEI(hi:Inv s)(he:J0p s a.tmps env){k x lo v mx}(h:(opR F (.slice k x lo v mx) new).run ⟨env,s.σ⟩=some e)(hc:JX P (.slice k x lo v mx) o.op=true):J1g P o a s e:=by
 simp only[opR]at h;obtain⟨u,h1,h⟩:=bind_some h;obtain⟨l,h2,h⟩:=bind_some h;obtain⟨A,h3,h⟩:=bind_some h;obtain⟨m,h4,h⟩:=bind_some h;unfold JX at hc;simp only at hc;split at hc
 ·rename_i t y T R a7 D;simp only[J04]at hc;obtain⟨⟨⟨⟨hx,M⟩,L⟩,c3⟩,j⟩:=hc;have q:=J0h he h1 hx;rcases JcB he h4 c3 with⟨rfl,rfl⟩|⟨um,qm,rfl,rfl,I⟩
  case inr=>
   have E:l=none->T=none:=by
    grind [JcB]
   have H: ∀Z,A=some Z-> ∃q',R=some q'/\JK s Z (a.eval q'):=by
    grind [JcB]
   split at h
   ·rename_i b i n;obtain⟨y',h5,h⟩:=bind_some h;obtain⟨g',Y,W,f1,c,J,S⟩:=Ja8 hi (.refl _) h5 q;split at h
    ·rename_i c' hc';rw[J]at hc';injection hc' with hc';subst hc'
     split at h
     ·rename_i r hr;simp only[RM.run]at h;injection h with h;subst h
      exact JzZ hi D j E H I hr Y W S
     ·cases h
    ·cases h
   ·rename_i x' Q;obtain⟨r,hr,rfl⟩:=J2d h;cases u with
    |p c=>
     cases q with
     |p _ _ q=>exact JzZ (ws:=[]) (g':=s.g) hi D j E H I hr hi (.refl s) q
    |_=>grind [J5z,JsW]
  have z: ∀{c:AV} {r},J5z k c l A none=some r->(none:Option Operand)=none/\JcT k c l A=some r:=by intro c r hs;exact⟨rfl,hs⟩
  have O: ∀{b:List UInt8} {r},J5z k (.p (.s b)) l A none=some r->a.eval y=.string ⟨b.toArray⟩->J1g P o a s ⟨r,[]⟩:=by
   intro b r hs hz;obtain⟨_,hq⟩:=z hs;clear hs;have hs:=hq;clear hq;cases k with
   |sl esz=>grind [JcT,JbF]
   |str=>
    simp only[JcT,Jbz]at hs;split at hs
    ·rename_i c hc;injection hs with hs;subst hs;have a4:=J6V j;obtain⟨hb,a5,a3⟩:=Jgh (P:=P) (isSlice:=false) (cap:=b.length) he h2 h3 M L hc (zQ0 _) s.w;have a6:(⟨b.toArray⟩:ByteArray).extract c.1 c.2=⟨((b.drop c.1).take (c.2-c.1)).toArray⟩:=by apply ByteArray.ext;simp_all
     simp_all [JL,Jz3,execOp,Instr.sliceAt,Instr.slice,run_underlying,J8G]
    ·cases hs
  have B: ∀{s':Sn} {ws} {esz rows r} {g'},s'=⟨upd ws s.σ,g',s.w⟩->Inv s'->J0l s s'->J5z k (.p (.sl esz rows)) l A none=some r->J0r s'.w s'.g.C (.sl esz rows) (a.eval y)->J1g P o a s ⟨r,ws⟩:=by
   intro s' ws esz rows r g' hs' v t' hs hr;obtain⟨_,hq⟩:=z hs;clear hs;have hs:=hq;clear hq;cases k with
   |str=>grind [JcT,Jbz]
   |sl ez=>
    simp only[JcT,JbF]at hs;split at hs
    ·rename_i V;subst V;split at hs
     ·rename_i c hc;injection hs with hs;subst hs;simp only at j;split at j
      ·rename_i el U;simp only[beq_iff_eq]at j;have G:=Jgh (P:=P) (isSlice:=true) he h2 h3 M L hc (zQ0 _) s.w;obtain⟨ad,cap,hv,K,N⟩:=JCz hr G.2.1 G.2.2;obtain⟨hb,_,_⟩:=Jgh (P:=P) (isSlice:=true) he h2 h3 M L hc K s.w;subst hs';refine J2q (e:=⟨_,ws⟩) (w':=s.w) (g':=g') ?_ v t' (.p _ _ N);simp only[execOp,D,hv];simp[Instr.sliceAt,Instr.slice,run_underlying (J2g U),hb,J3e j]
      ·cases j
     ·cases hs
    ·cases hs
  split at h
  ·rename_i b i n;obtain⟨y',h5,h⟩:=bind_some h;obtain⟨g',Y,W,f1,c,J,S⟩:=Ja8 hi (.refl _) h5 q
   grind [RM.run,fz]
  ·rename_i x' Q;obtain⟨r,hr,rfl⟩:=J2d h;cases u with
   |p c=>
    cases c with
    |s b=>grind [JaA]
    |sl esz rows=>cases q with|p _ _ q=>exact B (s':=s) (ws:=[]) (g':=s.g) rfl hi (.refl s) hr q
    |_=>grind [JcT,Jbz,JbF]
   |slr b i n=>simp_all
   |_=>grind [JcT,Jbz,JbF]
 ·cases hc
end
end Go.Am
end
section
namespace Go.Am
section
variable {P:Program} {F:Orc} {s:Sn} {a:Act} {env:List (Nat×AV)} {o:Oper} {new:Nat} {e:Eff}
theorem Jq8(hi:Inv s){agg:Bool}{size:Nat}{x:AV}{v:Value}(h:(J4z agg size x).run ⟨env,s.σ⟩=some e)(hr:JK s x v):
  ∃r o vs,v=.pointer (some ⟨r,o,none⟩)/\vs.length=size/\(∀(k:Nat) u,vs[k]?=some u->J0L s.w r (o+k)=some u)/\e.ws=[]/\
   ((agg=true/\JK s e.val (.agg vs.toArray))\/(agg=false/\ ∃u,vs=[u]/\JK s e.val u)):=by
 unfold J4z at h;split at h
 ·rename_i cs off;split at h
  ·rename_i l hl;obtain⟨r',h3,rfl⟩:=J2d h;obtain⟨k1,k2,D⟩:=Jfl hl;cases hr with
   |cp _ _ r o vals n G=>
    have I: ∀(i:Nat) y u,l[i]?=some y->((List.range size).map λi=>vals (off+i))[i]?=some u->J0r s.w s.g.C y u:=by
     grind
    refine⟨r,o+off,(List.range size).map λi=>vals (off+i),rfl,by simp,λk u hu=>?_,rfl,JoI h3 (by simp[k1]) I⟩
    grind
  ·cases h
 ·rename_i b off;simp only[RM.run]at h;split at h
  ·rename_i blk hb;split at h
   ·rename_i cs;split at h
    ·rename_i l hl;obtain⟨r',h3,rfl⟩:=J2d h;obtain⟨k1,k2,D⟩:=Jfl hl;cases hr with
     |ptr _ _ r o m M=>
      obtain⟨H,O,c,e1,fz,j,K,E,hx,hf⟩:=hi.box b cs hb;rw[m]at j;injection j with j;injection j with m1 m2;subst m1 m2
      have q: ∀k,k<size-> ∃u,c[o+(off+k)]?=some u/\u.oneCell'=true/\ ∀y,l[k]?=some y->JK s y u:=by
       grind
      refine⟨r,o+off,(List.range size).map λi=>(c[o+(off+i)]?).getD .nilFunc,rfl,by simp,λk u hu=>?_,rfl,Jmc h3 (by simp[k1]) (λv hv=>?_) λi y u hy hu=>?_⟩
      all_goals grind [J3g]
    ·cases h
   ·cases h
  ·cases h
 ·rename_i b ext i off;simp only[RM.run]at h;split at h
  ·rename_i blk hb;split at h
   ·rename_i wm esz rows;split at h
    ·rename_i B;split at h
     ·rename_i row A;split at h
      ·rename_i l hl;obtain⟨r',h3,rfl⟩:=J2d h;obtain⟨k1,k2,D⟩:=Jfl hl;have z:s.σ[b]?=some (.arr wm esz rows):=hb;cases hr with
       |ep _ _ _ _ _ wm' J rows' p0 n G F=>
        rw[z]at n;injection n with n;injection n with a1 a2 a3;subst a1 a2 a3
        have L:=Jw A;obtain⟨r,m,hv⟩:=F B (by omega);rcases hi.arr b _ _ _ z with⟨j,_⟩|⟨H,c,e1,fz,j,K,N,E,hx,hf⟩
        ·simp_all
        ·rw[m]at j;injection j with j;injection j with m1 _;subst m1
         have q: ∀k,k<size-> ∃u,c[i*esz+(off+k)]?=some u/\ ∀y,l[k]?=some y->J0r s.w s.g.C y u:=by
          grind
         refine⟨r,i*esz+off,(List.range size).map λk=>(c[i*esz+(off+k)]?).getD .nilFunc,hv,by simp,λk u hu=>?_,rfl,JoI h3 (by simp[k1]) λk y u hy hu=>?_⟩
         all_goals grind [J3g]
      ·cases h
     ·cases h
    ·cases h
   ·cases h
  ·cases h
 ·cases h
theorem JjS{t:TypeId}{agg:Bool}{size:Nat}(e:agT P t=some agg)(hs:szT P t=some size){r o:Nat}{vs:List Value}{w:World}(hl:vs.length=size)
  (h: ∀(k:Nat) u,vs[k]?=some u->J0L w r (o+k)=some u):
  (agg=true->(loadVar t ⟨r,o,none⟩).run P w=.ok (.agg vs.toArray) w)/\(agg=false-> ∀u,vs=[u]->(loadVar t ⟨r,o,none⟩).run P w=.ok u w):=by
 constructor
 ·rintro rfl;subst hl;simp_all [loadVar,JcA,J3e,Jq4]
 ·rintro rfl u rfl;have:=h 0 u rfl;simp_all [loadVar,JcA,J5X]
theorem JHU(hi:Inv s)(he:J0p s a.tmps env){agg size x}(h:(opR F (.load agg size x) new).run ⟨env,s.σ⟩=some e)(hc:JX P (.load agg size x) o.op=true):J1g P o a s e:=by
 simp only[opR]at h;obtain⟨u,h1,v⟩:=bind_some h;clear h;unfold JX at hc;simp only at hc;split at hc
 ·rename_i t y w;simp only[J04,beq_iff_eq]at hc;obtain⟨⟨⟨n,hs⟩,hx⟩,z⟩:=hc;obtain⟨r,B,vs,hv,hl,g,j,k⟩:=Jq8 hi v (J0h he h1 hx);obtain⟨k1,k2⟩:=JjS (P:=P) n hs hl g;obtain⟨ev,A⟩:=e;simp only at j k;subst j;rcases k with⟨rfl,hr⟩|⟨rfl,q,rfl,hr⟩
  all_goals simp_all [JL,execOp,Instr.loadAt,Instr.sureAddr]
 ·cases hc
theorem Jbl{x:AV}{l:List AV}{v:Value}(h:cellsOf x=some l)(hr:JK s x v):
  l.length=v.cells.size/\(∀u∈v.cells.toList,u.oneCell'=true)/\ ∀(i:Nat) y u,l[i]?=some y->v.cells[i]?=some u->JK s y u:=by
 have e: ∀{z:AV},JK s z v->v.cells= #[v]->v.oneCell'=true->l=[z]->l.length=v.cells.size/\(∀u∈v.cells.toList,u.oneCell'=true)/\ ∀(i:Nat) y u,l[i]?=some y->v.cells[i]?=some u->JK s y u:=by
  grind
 cases hr with
 |p c _ hp=>simp[cellsOf]at h;exact e (.p _ _ hp) hp.cells1 hp.one h.symm
 |data cs vs h1 h2=>
  simp[cellsOf]at h;subst h;refine⟨by grind [Value.cells],λu hu=>?_,λi y u hy hu=>?_⟩
  ·obtain⟨i,hi⟩:=J8Q hu;have hi:vs[i]?=some u:=by grind [Value.cells]
   have w:=Jcl hi;exact(h2 i cs[i] u (by simp_all) hi).one
  ·rw[J79]at hy;cases hcs:cs[i]? with
   |none=>simp_all
   |some c=>simp[hcs]at hy;subst hy;exact .p _ _ (h2 i c u hcs hu)
 |agg cs vs h1 A h2=>
  grind [cellsOf,Value.cells,List.getElem?_of_mem]
 |tup=>grind [cellsOf]
 |unk=>grind [cellsOf]
 |ptr b off r o m hb=>simp[cellsOf]at h;exact e (.ptr b off r o m hb) rfl rfl h.symm
 |cp cs off r o vals j g=>simp[cellsOf]at h;exact e (.cp cs off r o vals j g) rfl rfl h.symm
 |slr b i n _ wm esz rows p0 j g k=>obtain⟨q,cap,rfl,hn⟩:=p0;simp[cellsOf]at h;exact e (.slr b i n _ wm esz rows ⟨q,cap,rfl,hn⟩ j g k) rfl rfl h.symm
 |ep b ext i off _ wm esz rows p0 j g k=>obtain⟨r,o,rfl⟩:=p0;simp[cellsOf]at h;exact e (.ep b ext i off _ wm esz rows ⟨r,o,rfl⟩ j g k) rfl rfl h.symm
 |fn f first caps fs cs h1 h2 h3 h4=>simp[cellsOf]at h;exact e (.fn f first caps fs cs h1 h2 h3 h4) rfl rfl h.symm
theorem JIz(hi:Inv s)(he:J0p s a.tmps env)(hn:s.σ[new]?=some .dead){size x}(h:(opR F (.box size x) new).run ⟨env,s.σ⟩=some e)(hc:JX P (.box size x) o.op=true):J1g P o a s e:=by
 simp only[opR]at h;obtain⟨u,h1,g⟩:=bind_some h;clear h;unfold JX at hc;simp only at hc;split at hc
 ·rename_i t y r;have hr:=J0h he h1 hc;split at g
  ·rename_i cs hcs;split at g
   ·cases g;obtain⟨k1,k2,k⟩:=Jbl hcs hr;obtain⟨n,t'⟩:=Jj1 hi hn (blk:=.box cs) (c:=(a.eval y).cells) (e:=t) (fz:=(0,0)) (w':={s.w with heap:=s.w.heap.push (.cells (a.eval y).cells t)}) rfl rfl rfl
     (λo _ _ h=>by simp at h) (λ_ _ _ h=>by cases h) ⟨by omega,λi x hx=>by
      have q:=Jw hx;have j:i<(a.eval y).cells.size:=by omega
      exact⟨(a.eval y).cells[i],by simp,k i x _ hx (by simp),k2 _ (by simp)⟩⟩
    refine J2q (e:=⟨.ptr new 0,[(new,.box cs)]⟩) (v:=.pointer (some ⟨s.w.heap.size,0,none⟩)) ?_ n t' (.ptr new 0 _ 0 (if_pos rfl) ⟨cs,J1r hn⟩);simp_all [execOp,Instr.box,newVar,newRow]
   ·cases g
  ·cases g
 ·cases hc
theorem J54{zero:List PV}{t:TypeId}(h:Jal P zero t=true): ∃v,zeT P t=some v/\zero.length=v.cells.size/\
  ∀{w C} (i:Nat) x u,zero[i]?=some x->v.cells[i]?=some u->J0r w C x u:=by
 unfold Jal at h;split at h
 ·rename_i v hv;refine⟨v,hv,?_,λi x u hx hu=>?_⟩
  ·simpa using(Jg6 (w:=default) (C:=λ_ _=>True) h).1
  ·exact(Jg6 h).2 i x u hx (by simpa using hu)
 ·cases h
theorem Jbf{t:TypeId}{v:Value}(h:zeT P t=some v)(w:World):(zeroValue t).run P w=.ok v w:=by unfold zeT at h;cases hi:P.info? t<;>simp_all [zeroValue,JhP]
theorem JDj(hi:Inv s)(hn:s.σ[new]?=some .dead){zero}(h:(opR F (.newbox zero) new).run ⟨env,s.σ⟩=some e)(hc:JX P (.newbox zero) o.op=true):J1g P o a s e:=by
 simp only[opR,RM.run]at h;cases h;unfold JX at hc;simp only at hc;split at hc
 ·rename_i t q;obtain⟨v,hv,hl,hr⟩:=J54 hc;obtain⟨k,t'⟩:=Jj1 hi hn (blk:=.box (zero.map .p)) (c:=v.cells) (e:=t) (fz:=(0,0)) (w':={s.w with heap:=s.w.heap.push (.cells v.cells t)}) rfl rfl rfl
   (λo _ _ h=>by simp at h) (λ_ _ _ h=>by cases h) ⟨by simp[hl],λi x hx=>by
    rw[J79]at hx;cases hz:zero[i]? with
    |none=>simp[hz]at hx
    |some c=>
     simp[hz]at hx;subst hx;have n:=Jw hz;have j:i<v.cells.size:=by omega
     have:=hr (w:=s.w) (C:=s.g.C) i c v.cells[i] hz (by simp);exact⟨v.cells[i],by simp,.p _ _ this,this.one⟩⟩
  refine J2q (e:=⟨.ptr new 0,[(new,.box (zero.map .p))]⟩) (v:=.pointer (some ⟨s.w.heap.size,0,none⟩)) ?_ k t' (.ptr new 0 _ 0 (if_pos rfl) ⟨_,J1r hn⟩);simp_all [execOp,Instr.alloc,Jbf,newVar,newRow]
 ·cases hc
theorem JEJ(hi:Inv s)(hn:s.σ[new]?=some .dead){esz x}(h:(opR F (.mkarr esz x) new).run ⟨env,s.σ⟩=some e)(hc:JX P (.mkarr esz x) o.op=true):J1g P o a s e:=by
 simp only[opR,RM.run]at h;cases h;obtain⟨n,t'⟩:=JiS hi hn esz;have j:JK ⟨s.σ.set new (.arr true esz []),J5v s.g new none,s.w⟩ (.slr new 0 0) (.slice none 0 0):=
  .slr new 0 0 _ true esz [] ⟨none,0,rfl,.inl rfl⟩ (J1r hn) (zQ0 _) λ_=>.inl ⟨if_pos rfl,rfl,rfl,rfl⟩
 unfold JX at hc;simp only at hc;split at hc
 ·rename_i k;exact J2q (e:=⟨.slr new 0 0,[(new,.arr true esz [])]⟩) (v:=.slice none 0 0) (by simp only[execOp,k];rfl) n t' j
 ·rename_i k;exact J2q (e:=⟨.slr new 0 0,[(new,.arr true esz [])]⟩) (v:=.slice none 0 0) (by simp only[execOp,k];rfl) n t' j
 ·cases hc
theorem Jjc{α:Type}{cs vs cs':List α}{off:Nat}(h:spl cs off vs=some cs'):cs'.length=cs.length/\off+vs.length<=cs.length/\
  (∀(i:Nat),i<vs.length->cs'[off+i]?=vs[i]?)/\ ∀k,(k<off\/off+vs.length<=k)->cs'[k]?=cs[k]?:=by
 unfold spl at h;split at h
 ·simp_all
 ·split at h
  ·rename_i hc;cases h;refine⟨by simp;omega,hc,λi hi=>?_,λk hk=>?_⟩
   all_goals grind
  ·cases h
theorem JAF{w:World}{r o:Nat}{vs:List Value}{c:Array Value}{g:TypeId}{fz:Nat×Nat}(e:w.heap[r]?=some (.cells c g fz))(hl:o+vs.length<=c.size)
  (hf:Jnv fz o (o+vs.length)) (h1: ∀v∈vs,v.oneCell'=true):(storeCells ⟨r,o,none⟩ vs).run P w=.ok () (w.setCells r o vs):=by
 have:=run_storeCells_cells (P:=P) r o vs 0 w
  (λj hj=>by rw[J5X,J3g e];simp;omega)
  (λj hj=>by
   have:=hf (o+0+j) (by omega) (by omega)
   grind [World.frozen?]) h1
 simp_all
theorem JcV{t:TypeId}{v:Value}{w:World}{r o:Nat}{c:Array Value}{g:TypeId}{fz:Nat×Nat}(hs:szT P t=some v.cells.size)(e:w.heap[r]?=some (.cells c g fz))(hl:o+v.cells.size<=c.size)
  (hf:Jnv fz o (o+v.cells.size)) (h1: ∀u∈v.cells.toList,u.oneCell'=true):(storeVar t ⟨r,o,none⟩ v).run P w=.ok () (w.setCells r o v.cells.toList):=by
 have:=JAF (P:=P) (vs:=v.cells.toList) e (by simpa using hl) (by simpa using hf) h1;simp_all [storeVar,J3e]
theorem Jiz{o:Oper}{e:Eff}{w':World}{g':Gh}(hr:(execOp a.eval o).run P s.w=.ok .skip w')(g:e.val=J3v)
  (hi:Inv ⟨upd e.ws s.σ,g',w'⟩) (t:J0l s ⟨upd e.ws s.σ,g',w'⟩):J1g P o a s e:=by
 intro next Q h;simp only[Oper.wp,hr,Oper.upon];exact h undef w' g' hi t (by rw[g];exact .tup _ _ rfl λi x v h=>by simp at h)
theorem JDW{b:Nat}: ∀{ws:List (Nat×Blk)} {σ:List Blk},(ws.all λy=>y.1 !=b)=true->(upd ws σ)[b]?=σ[b]?
 |[],_,_=>rfl
 |y::ws,σ,h=>by simp only[List.all_cons,J04,bne_iff_ne]at h;show(upd ws (σ.set y.1 y.2))[b]?=_;rw[JDW h.2,J4l h.1]
theorem JFr(hi:Inv s)(he:J0p s a.tmps env){size x y}(h:(opR F (.store size x y) new).run ⟨env,s.σ⟩=some e)(hc:JX P (.store size x y) o.op=true):J1g P o a s e:=by
 simp only[opR]at h;obtain⟨u,h1,h'⟩:=bind_some h;obtain⟨v,h2,g⟩:=bind_some h';clear h h';unfold JX at hc;simp only at hc;split at hc
 ·rename_i t x' n bf;simp only[J04,beq_iff_eq]at hc;obtain⟨⟨hs,hx⟩,hy⟩:=hc;have rx:=J0h he h1 hx;have ry:=J0h he h2 hy;have U: ∀{r I:Nat} {w':World},a.eval x'=.pointer (some ⟨r,I,none⟩)->(storeVar t ⟨r,I,none⟩ (a.eval n)).run P s.w=.ok () w'->(execOp a.eval o).run P s.w=.ok .skip w':=by simp_all [execOp,Instr.storeAt,Instr.sureAddr]
  unfold J42 at g;split at g
  ·rename_i b off;simp only[RM.run]at g;split at g
   ·rename_i blk hb;split at g
    ·rename_i cs;split at g
     ·rename_i l hl;split at g
      ·rename_i ac;split at g
       ·rename_i cs' a0;cases g;have hb:s.σ[b]?=some (.box cs):=hb;generalize hz:a.eval x'=z at rx;cases rx with
        |ptr _ _ r I m bb=>
         obtain⟨k1,k2,k3⟩:=Jbl hl ry;obtain⟨j1,j2,V,j4⟩:=Jjc a0;obtain⟨r1,o1,c,e1,fz,C,H,ah,T,hf⟩:=hi.box b cs hb;rw[m]at C;injection C with C;injection C with m1 m2;subst m1 m2
         have B:=J8e (vs:=(a.eval n).cells.toList) (o:=I+off) H (by simp;omega);have hlen:(a.eval n).cells.toList.length=l.length:=by simp[k1]
         obtain⟨i',t'⟩:=Jij hi (blk:=.box cs') hb B (λk h1 h2=>by
          grind [Wr1]) (.box _ _ j1) (λba q D=>by
          cases q;obtain⟨c0,e0,ai,c',A,p2,p3,p4,p5,p6⟩:=B.there;rw[H]at A;injection A with A;injection A with q1 q2 q3;subst q1 q2 q3
          refine⟨r,I,c',e1,fz,m,p2,by omega,λi x ag=>?_,by simp_all⟩;by_cases ao:off<=i/\i<off+l.length
          ·have e1:cs'[off+(i-off)]?=l[i-off]?:=V (i-off) (by omega);rw[show off+(i-off)=i by omega,ag]at e1;have G:i-off<(a.eval n).cells.size:=by omega
           have e2:=p5 (i-off) (a.eval n).cells[i-off] (by simp);refine⟨(a.eval n).cells[i-off],by rw[<-e2];congr 1;omega,D (k3 (i-off) x _ e1.symm (by simp)),k2 _ (by simp)⟩
          grind)
          (λ_ _ q=>by cases q)
         refine Jiz (e:=⟨J3v,[(b,.box cs')]⟩) (U hz (JcV (by simp_all) H (by omega) (λk h1 h2=>hf k (by omega) (by omega)) k2)) rfl i' t'
       ·cases g
      ·cases g
     ·cases g
    ·cases g
   ·cases g
  ·rename_i b ext i off;simp only[RM.run]at g;split at g
   ·rename_i blk hb;split at g
    ·rename_i esz rows;split at g
     ·rename_i a5;split at g
      ·rename_i row L;obtain⟨E,h3,h4⟩:=bind_some g;split at h4
       ·rename_i O;split at h4
        ·rename_i K Q;cases h4;have hb:s.σ[b]?=some (.arr true esz rows):=hb;obtain⟨ac,ay⟩:=O;obtain⟨g1,i1,t1,f1,l1,r1⟩:=Jue hi (.refl _) h3 ry;have N:(upd E.2 s.σ)[b]?=some (.arr true esz rows):=by grind [JDW]
         have S:=rx.mono hi t1;obtain⟨j1,j2,V,j4⟩:=Jjc Q;have Z: ∀u∈(a.eval n).cells.toList,u.oneCell'=true:=by
          intro u hu;obtain⟨k,hk⟩:=J8Q hu;have hk:(a.eval n).cells[k]?=some u:=by simpa using hk
          have G:=Jcl hk;exact(r1 k E.1[k] u (by simp_all) hk).one
         generalize hz:a.eval x'=z at S;cases S with
         |ep _ _ _ _ _ wm' W rows' p0 A p2 p3=>
          have A:(upd E.2 s.σ)[b]?=some (.arr wm' W rows'):=A;rw[N]at A;injection A with A;injection A with a1 a2 a3;subst a1 a2 a3
          have G:=Jw L;obtain⟨r,m,hv⟩:=p3 a5 (by omega);rcases i1.arr b _ _ _ N with⟨C,_⟩|⟨rr,c,e1,fz,C,H,af,ah,T,hf⟩
          ·simp_all
          ·rw[m]at C;injection C with C;injection C with m1 _;subst m1
           have aq:=af row (J1F L);have hlen:(a.eval n).cells.toList.length=E.1.length:=by simp[l1]
           have b6:i*esz+esz<=rows.length*esz:=by
            have:=zQ4 esz (show i+1<=rows.length from G)
            grind
           have J:s.w.heap[r]?=some (.cells c e1 fz):=H;have B:=J8e (vs:=(a.eval n).cells.toList) (o:=i*esz+off) J (by grind);obtain⟨i2,t2⟩:=Jij (s0:=⟨upd E.2 s.σ,g1,s.w⟩) i1 (blk:=.arr true esz (rows.set i K)) N B (λk h1 h2=>by
            grind [Wr1]) (.arr _ _ _ (by simp)) (λ_ q=>by cases q) (λax ap q D=>by
            injection q with _ h1 h2;subst h1 h2;obtain⟨c0,e0,ai,c',q1,q2,q3,q4,q5,q6⟩:=B.there;rw[J]at q1;injection q1 with q1;injection q1 with w1 w2 w3;subst w1 w2 w3
            refine .inr ⟨r,c',e1,fz,m,q2,λbd bc=>?_,by simp;omega,λk j Y x0 hk hj=>⟨?_,λh=>by cases h⟩,by simp_all⟩
            ·grind
            ·have b9:=Jw hj;by_cases R:k=i
             ·subst R;rw[Jox G]at hk;cases hk;by_cases ao:off<=j/\j<off+E.1.length
              ·have e1:=V (j-off) (by omega);rw[show off+(j-off)=j by omega,hj]at e1;have M:j-off<(a.eval n).cells.size:=by omega
               have e2:=q5 (j-off) (a.eval n).cells[j-off] (by simp);refine⟨(a.eval n).cells[j-off],by rw[<-e2];congr 1;omega,D (r1 (j-off) x0 _ e1.symm (by simp))⟩
              grind
             ·rw[Jx6 (Ne.symm R)]at hk;obtain⟨⟨v',an,aa⟩,_⟩:=T k j Y x0 hk hj;refine⟨v',?_,D aa⟩;rw[q6 _ ?_]
              ·exact an
              ·have ad:j<esz:=by grind
               rw[hlen];rcases zQ3 k i with M|be
               ·left;have:=J68 M ad;omega
               ·right;have:=zQ4 esz (show i+1<=k by omega)
                grind)
           refine Jiz (e:=⟨J3v,E.2++[(b,.arr true esz (rows.set i K))]⟩) (g':=g1) (U (hz.trans hv) (JcV (by simp_all) J (by grind) (λk h1 h2=>hf.1 k (by omega) (by grind)) Z)) rfl ?_ ?_
           ·rw[J21];exact i2
           ·rw[J21];exact t1.trans t2
        ·cases h4
       ·cases h4
      ·cases g
     ·cases g
    ·cases g
   ·cases g
  ·cases g
 ·cases hc
end
end Go.Am
end
section
namespace Go.Am
theorem Jyk(vs:List Value): ∀(k:Nat) (off:Nat) (cs:Array Value),off+k+vs.length<=cs.size->
  let r:=(vs.zipIdx k).foldl (λcs (x:Value×Nat)=>cs.setIfInBounds (off+x.2) x.1) cs
  r.size=cs.size/\(∀(j:Nat) v,vs[j]?=some v->r[off+k+j]?=some v)/\ ∀i,(i<off+k\/off+k+vs.length<=i)->r[i]?=cs[i]?:=by
 induction vs with
 |nil=>simp_all
 |cons v vs ih=>
  intro k off cs h;simp only[JFL]at h;have:=ih (k+1) off (cs.setIfInBounds (off+k) v) (by simp;omega);simp only[List.zipIdx_cons,List.foldl_cons];obtain⟨h1,h2,h3⟩:=this
  grind
section
variable {P:Program} {F:Orc} {s:Sn} {a:Act} {env:List (Nat×AV)} {o:Oper} {new:Nat} {e:Eff}
theorem Jqb{place:Nat->Option (Nat×Nat)}{cells:Array Value}{i:Nat}{v:Value}{rest:List (Nat×Value)}{off size:Nat}(hp:place i=some (off,size))(hs:v.cells.size=size)(hl:off+size<=cells.size):
  ∃e:Array Value,Instr.fill place cells ((i,v)::rest)=Instr.fill place e rest/\e.size=cells.size/\(∀(j:Nat) u,v.cells[j]?=some u->e[off+j]?=some u)/\
   ∀k,(k<off\/off+size<=k)->e[k]?=cells[k]?:=by
 subst hs;obtain⟨h1,h2,h3⟩:=Jyk v.cells.toList 0 off cells (by simp;omega);refine⟨v.cells.zipIdx.foldl (λcs (c,j)=>cs.setIfInBounds (off+j) c) cells,?_,?_,?_,?_⟩
 ·grind [Instr.fill]
 all_goals (have hz:v.cells.zipIdx.foldl (λcs (x:Value×Nat)=>cs.setIfInBounds (off+x.2) x.1) cells=(v.cells.toList.zipIdx 0).foldl (λcs (x:Value×Nat)=>cs.setIfInBounds (off+x.2) x.1) cells:=by
             rw[<-Array.foldl_toList];simp)
 all_goals simp_all
theorem JjY{place:Nat->Option (Nat×Nat)}: ∀{parts:List (Nat×Nat×List AV)} {ps:List (Nat×Value)} {cs cs':List AV} {cells:Array Value},
  J6N parts cs=some cs'->parts.length=ps.length->
  (∀(k:Nat) off size l i v,parts[k]?=some (off,size,l)->ps[k]?=some (i,v)->place i=some (off,size)/\l.length=v.cells.size/\(∀u∈v.cells.toList,u.oneCell'=true)/\
   ∀(j:Nat) y u,l[j]?=some y->v.cells[j]?=some u->JK s y u)->
  cs.length=cells.size->(∀(i:Nat) x,cs[i]?=some x-> ∃u,cells[i]?=some u/\JK s x u/\u.oneCell'=true)->
  ∃e,Instr.fill place cells ps=some e/\cs'.length=e.size/\ ∀(i:Nat) x,cs'[i]?=some x-> ∃u,e[i]?=some u/\JK s x u/\u.oneCell'=true
 |[],[],cs,cs',cells,h,_,_,hl,hr=>by simp[J6N]at h;subst h;exact⟨cells,rfl,hl,hr⟩
 |[],_::_,_,_,_,_,hl,_,_,_=>by simp at hl
 |_::_,[],_,_,_,_,hl,_,_,_=>by simp at hl
 |(off,size,l)::parts,(i,v)::ps,cs,cs',cells,h,hlen,hp,hl,hr=>by
  unfold J6N at h;split at h
  ·rename_i B;split at h
   ·rename_i D n;obtain⟨w,F,o,q⟩:=hp 0 off size l i v rfl rfl;obtain⟨E,J,r,G⟩:=Jjc n;obtain⟨g,H,I,z,f4⟩:=Jqb (v:=v) (rest:=ps) (cells:=cells) w (by omega) (by omega);obtain⟨e,g1,g2,K⟩:=JjY (cells:=g) h (by simpa using hlen) (λk off size l i v h1 h2=>hp (k+1) off size l i v (by simpa using h1) (by simpa using h2)) (by omega) (λk x hk=>by
     by_cases C:off<=k/\k<off+l.length
     ·have e1:=r (k-off) (by omega);rw[show off+(k-off)=k by omega,hk]at e1;have A:k-off<v.cells.size:=by omega
      have e2:=z (k-off) v.cells[k-off] (by simp);exact⟨v.cells[k-off],by simp_all,q (k-off) x _ e1.symm (by simp),o _ (by simp)⟩
     grind)
    simp_all
   ·cases h
  ·cases h
theorem JgK(he:J0p s a.tmps env){place:Nat->Option (Nat×Nat)}: ∀{parts:List (Nat×Nat×Opd)} {ps:List (Nat×Operand)} {l:List (Nat×Nat×List AV)},
  (J5H parts).run ⟨env,s.σ⟩=some l->J6v place parts ps=true->
  l.length=(ps.map λx=>(x.1,a.eval x.2)).length/\
  ∀(k:Nat) off size cs i v,l[k]?=some (off,size,cs)->(ps.map λx=>(x.1,a.eval x.2))[k]?=some (i,v)->place i=some (off,size)/\cs.length=v.cells.size/\(∀u∈v.cells.toList,u.oneCell'=true)/\
   ∀(j:Nat) y u,cs[j]?=some y->v.cells[j]?=some u->JK s y u
 |[],[],l,h,_=>by
  grind [J5H,RM.run]
 |[],_::_,_,_,hc=>by grind [J6v]
 |_::_,[],_,_,hc=>by grind [J6v]
 |(off,size,x)::parts,(i,y)::ps,l,h,hc=>by
  simp only[J6v,J04,beq_iff_eq]at hc;obtain⟨⟨hp,hx⟩,hc⟩:=hc;simp only[J5H]at h;obtain⟨v,h1,h⟩:=bind_some h;split at h
  ·rename_i cs hcs;obtain⟨l',h2,h⟩:=bind_some h;simp only[RM.run]at h;injection h with h;subst h
   obtain⟨k1,k2⟩:=JgK he h2 hc;obtain⟨q1,q2,q3⟩:=Jbl hcs (J0h he h1 hx)
   grind
  ·cases h
theorem Jgf: ∀{fs:List Field},(∀f∈fs,(szT P f.type).isSome=true)-> ∀w:World,
  (fs.mapM λf=>do pure (f.offset,<-sizeOf f.type):Sem (List (Nat×Nat))).run P w=.ok (fs.map λf=>(f.offset,(szT P f.type).getD 0)) w
 |[],_,w=>by simp
 |f::fs,h,w=>by
  have hs:(szT P f.type)=some ((szT P f.type).getD 0):=by have:=h f (by simp);cases hq:szT P f.type<;>simp[hq]at this⊢
  have ih:=Jgf (fs:=fs) (λg e=>h g (by simp[e])) w;rw[List.mapM_cons];simp only[Jks,J3e hs,Jgj,JCg,ih];simp
theorem JEO(hi:Inv s)(he:J0p s a.tmps env){zero parts}(h:(opR F (.build zero parts) new).run ⟨env,s.σ⟩=some e)(hc:JX P (.build zero parts) o.op=true):J1g P o a s e:=by
 simp only[opR]at h;obtain⟨l,h1,G⟩:=bind_some h;clear h;unfold JX at hc;simp only at hc;split at hc
 ·rename_i t ps R;simp only[J04]at hc;obtain⟨hz,k⟩:=hc;obtain⟨z,S,J,K⟩:=J54 hz;split at G
  ·rename_i cs hcs;obtain⟨r,h3,rfl⟩:=J2d G;have E: ∀(i:Nat) x,(zero.map AV.p)[i]?=some x-> ∃u,z.cells[i]?=some u/\JK s x u/\u.oneCell'=true:=by
    intro i x hx;rw[J79]at hx;cases hzi:zero[i]? with
    |none=>simp_all
    |some c=>
     simp[hzi]at hx;subst hx;have I:=Jw hzi;have L:i<z.cells.size:=by omega
     have:=K (w:=s.w) (C:=s.g.C) i c z.cells[i] hzi (by simp);exact⟨z.cells[i],by simp,.p _ _ this,this.one⟩
   have fin: ∀{place:Nat->Option (Nat×Nat)},J6v place parts ps.toList=true->
     ∃j,Instr.fill place z.cells (ps.toList.map λx=>(x.1,a.eval x.2))=some j/\JK s r (.agg j):=by
    intro place D;obtain⟨k1,k2⟩:=JgK he h1 D;obtain⟨j,H,M,O⟩:=JjY (s:=s) (cells:=z.cells) hcs k1 k2 (by simp[J]) E;refine⟨j,H,?_⟩
    have:=Jmc (s:=s) (vs:=j.toList) h3 (by simpa using M) (λv hv=>by
      obtain⟨i,A⟩:=J8Q hv;have A:j[i]?=some v:=by simpa using A
      have I:=Jcl A;obtain⟨u,hu,_,h1⟩:=O i cs[i] (by simp_all);simp_all)
     (λi y v hy hv=>by
      grind)
    simp_all
   have T:(ps.map λx=>(x.1,a.eval x.2)).toList=ps.toList.map λx=>(x.1,a.eval x.2):=by simp
   split at k
   ·rename_i fs hu;simp only[J04]at k;obtain⟨B,D⟩:=k;obtain⟨j,H,hr⟩:=fin D;have Q:(λi=>(fs.map λf=>(f.offset,(szT P f.type).getD 0))[i]?)=JcC P fs:=by
     funext i
     simp only[JcC,Array.getElem?_map];cases hfi:fs[i]? with
     |none=>rfl
     |some f=>have:=JB0.1 B f (Array.mem_of_getElem? hfi);cases hq:szT P f.type<;>simp[hq]at this⊢
    refine JL hi (v:=.agg j) ?_ hr;have N:(fs.mapM λf=>do pure (f.offset,<-sizeOf f.type):Sem (Array (Nat×Nat))).run P s.w=.ok (fs.map λf=>(f.offset,(szT P f.type).getD 0)) s.w:=by
     rw[Array.mapM_eq_mapM_toList];simp only[Sem.run_map,Jgf (P:=P) (fs:=fs.toList) (λf hf=>JB0.1 B f (by simpa using hf)),Jgj]
     congr 1
     grind
    have hf:Instr.fill (λi=>(fs.map λf=>(f.offset,(szT P f.type).getD 0))[i]?) z.cells (ps.map λx=>(x.1,a.eval x.2)).toList=some j:=by simp_all
    simp_all [Instr.build,Jbf,run_underlying,execOp]
   ·rename_i n el hu;split at k
    ·rename_i q hq;obtain⟨j,H,hr⟩:=fin k;refine JL hi (v:=.agg j) ?_ hr;have hb:(Instr.build t (ps.map λx=>(x.1,a.eval x.2))).run P s.w=.ok (.agg j) s.w:=by simp_all [Instr.build,Jbf,run_underlying,J3e]
     simp_all [execOp]
    ·cases k
   ·cases k
  ·cases G
 ·cases hc
theorem JIf(hi:Inv s){n}(h:(opR F (.alen n) new).run ⟨env,s.σ⟩=some e)(hc:JX P (.alen n) o.op=true):J1g P o a s e:=by
 simp only[opR,RM.run]at h;injection h with h;subst h;unfold JX at hc;simp only at hc;split at hc
 ·rename_i c k;split at hc
  ·rename_i g;split at hc
   ·rename_i y t j r;have hm:c.args.map a.eval= #[a.eval y]:=by apply Jxu;simp[j]
    have q:c.argTypes[0]?=some t:=by rw[<-JGp,r];rfl
    split at hc
    ·rename_i m el hu;have:m=n:=by simpa using hc
     subst this;exact JL hi (v:=.int .i64 m) (by simp[execOp,k,resolve,g,hm,invoke,builtin,Builtin.len_,q,run_underlying hu,goInt]) (J6T _ _)
    ·rename_i ar hu;split at hc
     ·rename_i m el w;have:m=n:=by simpa using hc
      subst this;exact JL hi (v:=.int .i64 m) (by simp[execOp,k,resolve,g,hm,invoke,builtin,Builtin.len_,q,run_underlying hu,run_underlying (JkC w),goInt]) (J6T _ _)
     ·cases hc
    ·cases hc
   ·cases hc
  ·cases hc
 ·cases hc
end
end Go.Am
end
section
namespace Go.Am
def Jbn(s:Sn)(esz:Nat)(rows:List (List PV))(c:Array Value):Prop:=(∀row∈rows,row.length=esz)/\rows.length*esz<=c.size/\ ∀(i j:Nat) row x,rows[i]?=some row->row[j]?=some x-> ∃u,c[i*esz+j]?=some u/\J0r s.w s.g.C x u
section
variable {P:Program} {F:Orc} {s:Sn} {a:Act} {env:List (Nat×AV)} {o:Oper} {new:Nat} {e:Eff}
theorem Jbn.mono{s0 s:Sn}(hi:Inv s0)(t:J0l s0 s){esz rows c}(h:Jbn s0 esz rows c):Jbn s esz rows c:=
 ⟨h.1,h.2.1,λi j row x hr hx=>let⟨u,h1,h2⟩:=h.2.2 i j row x hr hx;⟨u,h1,h2.mono hi t⟩⟩
theorem Jgk{s0:Sn}(hi:Inv s0)(hn:s0.σ[new]?=some .dead){esz:Nat}{rows:List (List PV)}{c:Array Value}{g:TypeId}{fz:Nat×Nat}{w':World}{cap:Nat}
  (k:w'.heap=s0.w.heap.push (.cells c g fz)) (ho:w'.os=s0.w.os) (hp:w'.output=s0.w.output) (hf:Jdz esz fz c.size) (hr:Jbn s0 esz rows c) (e:rows.length<=cap) (j:cap*esz<=c.size):
  (∃g',Inv ⟨s0.σ.set new (.arr true esz rows),g',w'⟩/\J0l s0 ⟨s0.σ.set new (.arr true esz rows),g',w'⟩/\
   JK ⟨s0.σ.set new (.arr true esz rows),g',w'⟩ (.slr new 0 rows.length) (.slice (some ⟨s0.w.heap.size,0,none⟩) rows.length cap)):=by
 obtain⟨n,t'⟩:=Jj1 hi hn (blk:=.arr true esz rows) k ho hp hf.1 (λ_ _ _ h=>by injection h with _ h _;subst h;exact hf.2) hr;refine⟨_,n,t',.slr new 0 _ _ true esz rows ⟨_,_,rfl,.inr (by simp)⟩ (J1r hn) (by omega) λ_=>.inr ⟨s0.w.heap.size,cap,c,g,fz,if_pos rfl,by simp,e,JeA k,by simpa using j⟩⟩
theorem Jig{s0:Sn}(hi:Inv s0){esz:Nat}{rows:List (List PV)}{c:Array Value}{k:TypeId}{fz:Nat×Nat}{w':World}{cap:Nat}
  (n:w'.heap=s0.w.heap.push (.cells c k fz)) (ho:w'.os=s0.w.os) (hp:w'.output=s0.w.output) (hr:Jbn s0 esz rows c) (e:rows.length<=cap):
  (∃g',Inv ⟨s0.σ,g',w'⟩/\J0l s0 ⟨s0.σ,g',w'⟩/\JK ⟨s0.σ,g',w'⟩ (.p (.sl esz rows)) (.slice (some ⟨s0.w.heap.size,0,none⟩) rows.length cap)):=by
 obtain⟨o,t'⟩:=JDu hi n ho hp;refine⟨_,o,t',.p _ _ (JeJ (s:=⟨s0.σ,_,w'⟩) rfl e hr.1 (.inr ⟨_,0,rfl,λi j row x h hj=>⟨.inr rfl,?_⟩⟩))⟩;obtain⟨u,hu,g⟩:=hr.2.2 i j row x h hj;exact⟨u,by grind [J3g],g.mono hi t'⟩
theorem Jz5{E:List Blk}{tmps:Array Value}(he: ∀n x,lk n env=some x-> ∃v,a.tmps[n]?=some v): ∀{xs:List Opd} {e:List Operand} {s:Sn} {y:List (List PV)×List (Nat×Blk)},Inv s->Frz E s.σ->J0p s a.tmps env->
  (fzs xs).run ⟨env,E⟩=some y->J6o xs e=true->
  ∃g',Inv ⟨upd y.2 s.σ,g',s.w⟩/\J0l s ⟨upd y.2 s.σ,g',s.w⟩/\Frz s.σ (upd y.2 s.σ)/\y.1.length=e.length/\
   ∀(k:Nat) cs q,y.1[k]?=some cs->e[k]?=some q->cs.length=(a.eval q).cells.size/\ ∀(i:Nat) c u,cs[i]?=some c->(a.eval q).cells[i]?=some u->J0r s.w g'.C c u
 |[],[],s,y,hi,o,r,h,_=>by
  simp only[fzs,RM.run]at h;injection h with h;subst h
  exact⟨s.g,hi,.refl s,.refl _,rfl,λk cs q h=>by simp at h⟩
 |[],_::_,_,_,_,_,_,_,hc=>by grind [J6o]
 |_::_,[],_,_,_,_,_,_,hc=>by grind [J6o]
 |x::xs,q::e,s,y,hi,o,r,h,hc=>by
  simp only[J6o,J04]at hc;simp only[fzs]at h;obtain⟨v,h1,h⟩:=bind_some h;obtain⟨j,h2,h⟩:=bind_some h;obtain⟨J,h3,h⟩:=bind_some h;simp only[RM.run]at h;injection h with h;subst h
  have D:(ev x).run ⟨env,s.σ⟩=some v:=by cases x<;>simp_all [ev,RM.run]
  have hr:=J0h r D hc.1;obtain⟨g1,F,B,A,I,G⟩:=Jue hi o h2 hr;obtain⟨g2,K,z,H,l2,L⟩:=Jz5 (tmps:=tmps) he (s:=⟨upd j.2 s.σ,g1,s.w⟩) F (o.trans A) (r.mono hi B) h3 hc.2;refine⟨g2,by grind [J21],by rw[J21];exact B.trans z,by rw[J21];exact A.trans H,by simp[l2],λk cs q' hk hq=>?_⟩;cases k with
  |zero=>simp at hk hq;subst hk hq;exact⟨I,λi c u hc hu=>J0r.mono (s0:=⟨upd j.2 s.σ,g1,s.w⟩) (s:=⟨upd J.2 (upd j.2 s.σ),g2,s.w⟩) F z (G i c u hc hu)⟩
  |succ k=>grind
theorem JpK{esz:Nat}(r:0<esz): ∀{parts:List (Nat×List PV)} {ps:List (Nat×Value)} {rows rows':List (List PV)} {cells:Array Value},
  J9L esz parts rows=some rows'->parts.length=ps.length->
  (∀(k:Nat) i cs j v,parts[k]?=some (i,cs)->ps[k]?=some (j,v)->i=j/\cs.length=v.cells.size/\ ∀(m:Nat) c u,cs[m]?=some c->v.cells[m]?=some u->J0r s.w s.g.C c u)->
  Jbn s esz rows cells->cells.size=rows.length*esz->
  ∃e,Instr.fill (λi=>some (i*esz,esz)) cells ps=some e/\Jbn s esz rows' e/\rows'.length=rows.length/\e.size=rows.length*esz
 |[],[],rows,rows',cells,h,_,_,hr,hs=>by simp[J9L]at h;subst h;exact⟨cells,rfl,hr,rfl,hs⟩
 |[],_::_,_,_,_,_,hl,_,_,_=>by simp at hl
 |_::_,[],_,_,_,_,hl,_,_,_=>by simp at hl
 |(i,cs)::parts,(j,v)::ps,rows,rows',cells,h,hlen,hp,hr,hs=>by
  unfold J9L at h;split at h
  ·rename_i hc;obtain⟨rfl,G,A⟩:=hp 0 i cs j v rfl rfl;have B:i*esz+esz<=rows.length*esz:=by
    have:=zQ4 esz (show i+1<=rows.length from hc.2)
    grind
   obtain⟨n,H,J,D,f4⟩:=Jqb (place:=λi=>some (i*esz,esz)) (v:=v) (rest:=ps) (cells:=cells) (i:=i) rfl (by omega) (by omega);obtain⟨q1,q2,q3⟩:=hr;obtain⟨e,g1,g2,K,I⟩:=JpK r (cells:=n) h (by simpa using hlen) (λk i cs j v h1 h2=>hp (k+1) i cs j v (by simpa using h1) (by simpa using h2))
    ⟨λrow hm=>by
      grind,by simp;omega,λk m row x hk hx=>by
      by_cases o:k=i
      ·subst o;rw[Jox hc.2]at hk;injection hk with hk;subst hk;have F:=Jw hx;have q:m<v.cells.size:=by omega
       exact⟨v.cells[m],D m _ (by simp),A m x _ hx (by simp)⟩
      ·rw[Jx6 (Ne.symm o)]at hk;obtain⟨u,hu,y⟩:=q3 k m row x hk hx;refine⟨u,?_,y⟩;rw[f4 _ ?_]
       ·exact hu
       ·have z:=Jw hx;rw[q1 row (J1F hk)]at z;rcases zQ3 k i with q|E
        ·grind [J68]
        ·right;have:=zQ4 esz (show i+1<=k by omega)
         grind⟩ (by simp;omega)
   grind
  ·cases h
theorem JiV{t:TypeId}{n:Nat}(h:szT P t=some n): ∃i,P.info? t=some i/\i.size=n:=by simp_all [szT]
theorem Joa{t:TypeId}{v:Value}{i:TypeInfo}(h:zeT P t=some v)(hi:P.info? t=some i):i.zero=some v:=by
 grind [zeT]
theorem JkX{t:TypeId}{n:Nat}{i:TypeInfo}(h:byT P t=some n)(hi:P.info? t=some i):i.bytes=n:=by
 grind [byT]
theorem JFT{z:Array Value}{esz n i j:Nat}(hz:z.size=esz)(hi:i<n)(hj:j<esz):(madeCells z (n*esz))[i*esz+j]?=z[j]?:=by
 grind [J68,Nat.add_mul_mod_self_right,Nat.mod_eq_of_lt,madeCells]
theorem Jlq{zero:List PV}{z:Value}{esz n m:Nat}(hl:zero.length=esz)(h:zero.length=z.cells.size)
  (g: ∀{w C} (i:Nat) x u,zero[i]?=some x->z.cells[i]?=some u->J0r w C x u) (o:n<=m):Jbn s esz (List.replicate n zero) (madeCells z.cells (m*esz)):=by
 refine⟨λrow hr=>by simp_all,?_,λi j row x hi hj=>?_⟩
 ·simp_all [size_madeCells,zQ4]
 ·have e:=Jw hi;have:=List.eq_of_mem_replicate (J1F hi);subst this;have k:=Jw hj;simp at e;have hz:z.cells.size=esz:=by omega
  refine⟨z.cells[j],?_,g j x _ hj (by simp)⟩
  grind [JFT]
theorem JAM(hi:Inv s)(he:J0p s a.tmps env){own esz bytes zero l c}(hn:own=true->s.σ[new]?=some .dead)(h:(opR F (.mkslice own esz bytes zero l c) new).run ⟨env,s.σ⟩=some e)
  (hc:JX P (.mkslice own esz bytes zero l c) o.op=true):J1g P o a s e:=by
 simp only[opR]at h;obtain⟨u,h1,E⟩:=bind_some h;obtain⟨v,h2,g⟩:=bind_some E;clear h E;unfold JX at hc;simp only at hc;split at hc
 ·rename_i t l' c' V;simp only[J04]at hc;obtain⟨⟨hl,D⟩,x⟩:=hc;have T:=J0h he h1 hl;have U:=J0h he h2 D;split at x
  ·rename_i el G;simp only[J04,beq_iff_eq,decide_eq_true_eq]at x;obtain⟨⟨⟨⟨⟨hs,L⟩,hz⟩,I⟩,S⟩,R⟩:=x;obtain⟨i,j,J⟩:=JiV hs;obtain⟨z,H,K,M⟩:=J54 hz;have Q:=JkX L j;split at g
   ·rename_i k n k' m;split at g
    ·rename_i r;obtain⟨N,O,hb,hm⟩:=r;have e1:=J4u T;have e2:=J4u U;have B:=run_make (P:=P) s.w t el i z (J2g G) j (Joa H j) k k' n m N O (by simp_all) (by omega);rw[J]at B;have q:Jbn s esz (List.replicate n.toNat zero) (madeCells z.cells (m.toNat*esz)):=Jlq I K M (by omega);have y:(execOp a.eval o).run P s.w=.ok (.value (.slice (some ⟨s.w.heap.size,0,none⟩) n.toNat m.toNat)) (s.w.alloc (.cells (madeCells z.cells (m.toNat*esz)) el)):=by simp_all [execOp]
     split at g
     ·rename_i A;simp only[RM.run]at g;injection g with g;subst g
      obtain⟨g',C,t',r'⟩:=Jgk hi (hn A) (w':=s.w.alloc (.cells (madeCells z.cells (m.toNat*esz)) el)) (fz:=(0,0)) rfl rfl rfl (Jdz.zero _ _) q (cap:=m.toNat) (by simp;omega) (by simp[size_madeCells]);simp only[Jni]at r';exact J2q y C t' r'
     ·simp only[RM.run]at g;injection g with g;subst g
      obtain⟨g',C,t',r'⟩:=Jig hi (w':=s.w.alloc (.cells (madeCells z.cells (m.toNat*esz)) el)) (fz:=(0,0)) rfl rfl rfl q (cap:=m.toNat) (by simp;omega);simp only[Jni]at r';exact J2q (e:=⟨_,[]⟩) y C t' r'
    ·cases g
   ·cases g
  ·cases x
 ·cases hc
theorem JHO(hi:Inv s)(he:J0p s a.tmps env){own esz n zero parts}(hn:own=true->s.σ[new]?=some .dead)(h:(opR F (.lits own esz n zero parts) new).run ⟨env,s.σ⟩=some e)
  (hc:JX P (.lits own esz n zero parts) o.op=true):J1g P o a s e:=by
 simp only[opR]at h;obtain⟨y,h1,r⟩:=bind_some h;clear h;unfold JX at hc;simp only at hc;split at hc
 ·rename_i t len ps a9;simp only[J04,beq_iff_eq]at hc;obtain⟨rfl,G⟩:=hc;split at G
  ·rename_i el J;simp only[J04,beq_iff_eq,decide_eq_true_eq]at G;obtain⟨⟨⟨⟨⟨hs,aa⟩,hz⟩,Y⟩,N⟩,hidx⟩:=G;obtain⟨z,V,Z,a3⟩:=J54 hz;have A:J6o (parts.map (·.2)) (ps.toList.map (·.2))=true/\parts.map (·.1)=ps.toList.map (·.1):=by
    have: ∀{p:List (Nat×Opd)} {q:List (Nat×Operand)},JiO p q=true->J6o (p.map (·.2)) (q.map (·.2))=true/\p.map (·.1)=q.map (·.1):=by
     intro p
     induction p with
     |nil=>intro q h;cases q<;>simp[JiO]at h⊢;rfl
     |cons x p ih=>intro q h;cases q<;>grind [JiO,J6o]
    exact this hidx
   obtain⟨g1,i1,t1,f1,l1,r1⟩:=Jz5 (tmps:=a.tmps) (λn x hx=>let⟨v,h,_⟩:=he n x hx;⟨v,h⟩) hi (.refl _) he h1 A.1;split at r
   ·rename_i rows H;have E:(parts.map (·.1)).length=(ps.toList.map (·.1)).length:=by rw[A.2]
    simp at E;simp at l1;have R:((parts.map (·.1)).zip y.1).length=(ps.toList.map λx=>(x.1,a.eval x.2)).length:=by simp;omega
    obtain⟨g,O,r2,B,U⟩:=JpK (s:=⟨upd y.2 s.σ,g1,s.w⟩) N (ps:=ps.toList.map λx=>(x.1,a.eval x.2)) (cells:=madeCells z.cells (len*esz)) H R (λk i cs j v hk hq=>by
      rw[List.getElem?_zip_eq_some]at hk;obtain⟨I,S⟩:=hk;rw[J79]at hq;cases hpk:ps.toList[k]? with
      |none=>simp_all
      |some q=>
       simp[hpk]at hq;obtain⟨rfl,rfl⟩:=hq;rw[A.2,J79,hpk]at I;simp at I;obtain⟨k3,k4⟩:=r1 k cs q.2 S (by simp_all)
       grind)
     (Jlq Y Z a3 (zQ0 _)) (by simp[size_madeCells])
    simp at B U;have K:(execOp a.eval o).run P s.w=.ok (.value (.slice (some ⟨s.w.heap.size,0,none⟩) len len)) (s.w.alloc (.cells g el)):=by
     have D: ¬(len*esz>2^24):=by omega
     have L:(ps.map fun(x:Nat×Operand)=>(x.1,a.eval x.2)).toList=ps.toList.map λx=>(x.1,a.eval x.2):=by simp
     have hb:(Instr.buildSlice t len (ps.map fun(x:Nat×Operand)=>(x.1,a.eval x.2))).run P s.w=.ok (.slice (some ⟨s.w.heap.size,0,none⟩) len len) (s.w.alloc (.cells g el)):=by
      unfold Instr.buildSlice;by_cases T:len*esz=0
      ·have C:madeCells z.cells (len*esz)= #[]:=by grind [madeCells]
       rw[C]at O;have W: ¬((0:Nat)>2^24):=by decide
       have a2:Array.range 0= #[]:=rfl;simp only[W,Jks,run_underlying (J2g J),Jgj,J3e hs,D,if_false,T,if_true,JCg,L,a2,Array.map_empty,O,newRow,run_newObj];rfl
      ·have C:((Array.range (len*esz)).map λx=>z.cells[x%z.cells.size]!)=madeCells z.cells (len*esz):=rfl;simp only[Jks,run_underlying (J2g J),Jgj,J3e hs,D,if_false,T,Jbf V,JCg,L,C,O,newRow,run_newObj];rfl
     simp_all [execOp]
    split at r
    ·rename_i M;simp only[RM.run]at r;injection r with r;subst r
     have a0:(upd y.2 s.σ)[new]?=some .dead:=f1.2 _ _ (hn M) (by simp);obtain⟨g',Q,t',r'⟩:=Jgk (s0:=⟨upd y.2 s.σ,g1,s.w⟩) i1 a0 (w':=s.w.alloc (.cells g el)) (fz:=(0,0)) rfl rfl rfl (Jdz.zero _ _) r2 (cap:=len) (by omega) (by omega);rw[B]at r';refine J2q (e:=⟨_,y.2++[(new,.arr true esz rows)]⟩) (g':=g') K ?_ ?_ ?_
     ·rw[J21];exact Q
     ·rw[J21];exact t1.trans t'
     ·rw[J21];exact r'
    ·simp only[RM.run]at r;injection r with r;subst r
     obtain⟨g',Q,t',r'⟩:=Jig (s0:=⟨upd y.2 s.σ,g1,s.w⟩) i1 (w':=s.w.alloc (.cells g el)) (fz:=(0,0)) rfl rfl rfl r2 (cap:=len) (by omega);rw[B]at r';exact J2q (e:=⟨_,y.2⟩) K Q (t1.trans t') r'
   ·cases r
  ·cases G
 ·cases hc
end
end Go.Am
end
section
namespace Go.Am
section
variable {P:Program} {F:Orc} {s:Sn} {a:Act} {env:List (Nat×AV)} {o:Oper} {new:Nat} {e:Eff}
theorem JjH(l:List UInt8)(c:Array Value)(hc: ∀(i:Nat) b,l[i]?=some b->c[i]?=some (.int .u8 b.toNat))(hl:l.length<=c.size):Jbn s 1 (l.map J5o) c:=by
 refine⟨λrow hr=>?_,by simpa using hl,λi j row x hi hj=>?_⟩
 ·obtain⟨b,_,rfl⟩:=J9G.1 hr;rfl
 ·rw[J79]at hi;cases hli:l[i]? with
  |none=>simp_all
  |some b=>
   simp[hli]at hi;subst hi;have:j=0:=by grind [J5o]
   subst this;simp[J5o]at hj;subst hj;exact⟨_,by simp_all,.i _ _⟩
theorem JiY{α:Type}{esz:Nat}: ∀{rows:List (List α)},(∀row∈rows,row.length=esz)-> ∀{i j:Nat} {row:List α} {x:α},rows[i]?=some row->row[j]?=some x->rows.flatten[i*esz+j]?=some x
 |[],_,i,j,row,x,h,_=>by simp at h
 |r0::e,hl,i,j,row,x,h,hx=>by
  have g:r0.length=esz:=hl r0 (by simp);cases i with
  |zero=>
   grind
  |succ i=>
   simp only[JeB];rw[JeV (by grind)];have:=JiY (rows:=e) (λrow hm=>hl row (by simp[hm])) (by simpa using h) hx
   grind
theorem Jw5{el:TypeId}(l:List UInt8)(w:World): ∃w' cap c fz,(Conv.stringToBytes el ⟨l.toArray⟩).run P w=.ok (.slice (some ⟨w.heap.size,0,none⟩) l.length cap) w'/\
  w'.heap=w.heap.push (.cells c el fz)/\w'.os=w.os/\w'.output=w.output/\Jnv fz 0 c.size/\l.length<=cap/\c.size=cap/\ ∀(i:Nat) b,l[i]?=some b->c[i]?=some (.int .u8 b.toNat):=by
 have hf:(Question.appendCap l.length 0 el).forced=false:=rfl;have e:l.length<=(Question.appendCap l.length 0 el).cut (w.tape w.drawn (.appendCap l.length 0 el)):=by simp[Question.cut]
 generalize hq:(Question.appendCap l.length 0 el).cut (w.tape w.drawn (.appendCap l.length 0 el))=cap at e
 let c:Array Value:=(l.toArray.map λb=>Value.int .u8 b.toNat)++Array.replicate (cap-l.length) (.int .u8 0)
 have hc:c.size=cap:=by simp[c];omega
 refine⟨({w with drawn:=w.drawn+1,heap:=w.heap.push (.cells c el)}).freeze {block:=w.heap.size,off:=c.size} 1,cap,c,(c.size,c.size+1),?_,?_,?_,?_,?_,e,hc,?_⟩
 ·unfold Conv.stringToBytes;have hs:ByteArray.size ⟨l.toArray⟩=l.length:=J8G l;have g:World.shape? {w with drawn:=w.drawn+1,heap:=w.heap.push (.cells c el)} w.heap.size=some (el,c.size):=by simp[World.shape?]
  have he:(Array.map (λb=>Value.int IntKind.u8 ↑(UInt8.toNat b)) l.toArray++Array.replicate (cap-l.length) (Value.int IntKind.u8 0))=c:=rfl;simp only[Jks,run_choose,hs,hf,J8R,if_false,Jgj,hq,newRow,run_newObj,JCg,markStringish,run_shape,run_freeze,he,g]
 ·grind [World.freeze]
 ·simp[World.freeze]
 ·simp[World.freeze]
 ·intro o _ h;simp;omega
 grind
theorem JBh(hi:Inv s)(he:J0p s a.tmps env){own x}(hn:own=true->s.σ[new]?=some .dead)(h:(opR F (.conv (.toBytes own) x) new).run ⟨env,s.σ⟩=some e)
  (hc:JX P (.conv (.toBytes own) x) o.op=true):J1g P o a s e:=by
 simp only[opR]at h;obtain⟨u,h1,g⟩:=bind_some h;clear h;unfold JX at hc;simp only at hc;split at hc
 ·rename_i H dst y E;simp only[J04]at hc;obtain⟨hx,hs,q⟩:=hc;have D:=J0h he h1 hx;split at q
  ·rename_i el G;simp only[J04,beq_iff_eq]at q;have v: ∃l,u=.p (.s l)/\(if own=true then RM.ret ⟨.slr new 0 l.length,[(new,.arr true 1 (l.map J5o))]⟩else RM.ret ⟨.p (.sl 1 (l.map J5o)),[]⟩:RM Eff).run ⟨env,s.σ⟩=some e:=by
    cases u with
    |p c=>cases c with
     |s l=>simp_all
     |_=>cases g
    |_=>cases g
   clear g;obtain⟨l,rfl,g⟩:=v
   ·skip
    obtain⟨w',cap,c,fz,C,z,ho,hp,hf,B,hcs,A⟩:=Jw5 (P:=P) (el:=el) l s.w;have I:=JaA D;have k:(execOp a.eval o).run P s.w=.ok (.value (.slice (some ⟨s.w.heap.size,0,none⟩) l.length cap)) w':=by simp_all [execOp,convert,run_underlying,J6V,J2g,Jtk]
    have j:=JjH (s:=s) l c A (by omega);split at g
    ·rename_i n;simp only[RM.run]at g;injection g with g;subst g
     obtain⟨g',r,t',r'⟩:=Jgk (esz:=1) hi (hn n) z ho hp ⟨hf,λh=>absurd rfl h⟩ j (cap:=cap) (by simp_all) (by omega);simp only[J6y]at r';exact J2q k r t' r'
    ·simp only[RM.run]at g;injection g with g;subst g
     obtain⟨g',r,t',r'⟩:=Jig hi z ho hp j (cap:=cap) (by simp_all);simp only[J6y]at r';exact J2q (e:=⟨_,[]⟩) k r t' r'
  ·cases q
 ·cases hc
theorem JCH(hi:Inv s){esz:Nat}{x:AV}{new:List (List PV)}{v:Value}{u:TypeId}(h:(J2S esz x).run ⟨env,s.σ⟩=some new)(hr:JK s x v)
  (hu:(elT P u).isSome=true\/J6B P u=true):
  ∃news,Src P esz u v new.length news s.w/\(∀row∈new,row.length=esz)/\
   ∀(i j:Nat) row y,new[i]?=some row->row[j]?=some y-> ∃q,news[i*esz+j]?=some q/\J0r s.w s.g.C y q:=by
 have e:(∃e',P.underlying u=some (.slice e'))\/P.underlying u=some .string:=by
  rcases hu with hu|hu
  ·obtain⟨e',L⟩:=JFV.1 hu;simp_all [J2g]
  grind [J6V]
 rcases JmU hi h hr with⟨l,rfl,rfl,rfl,rfl⟩|G
 ·have hlen:(byteCells ⟨l.toArray⟩).length=l.length:=by rw[byteCells_length,J8G]
  have N: ∀w:World,(Builtin.firstCells 1 l.length (.string ⟨l.toArray⟩)).run P w=.ok (byteCells ⟨l.toArray⟩).toArray w:=by
   grind [firstCells_string,J8G]
  refine⟨byteCells ⟨l.toArray⟩,⟨e,λw=>by rw[J6y,<-J8G];rfl,by simp_all,by simp_all,by rw[hlen];simp,λq hq=>by obtain⟨_,_,rfl⟩:=J9G.1 hq;rfl⟩,λrow hr=>?_,?_⟩
  ·obtain⟨b,_,rfl⟩:=J9G.1 hr;rfl
  ·have:=(JjH (s:=s) l (byteCells ⟨l.toArray⟩).toArray (λi b hb=>by
    grind [byteCells]) (by simp_all)).2.2
   simp_all
 ·obtain⟨E,cap,vs,hv,H,hlen,n,B,o⟩:=G.cells;have A: ∀q∈vs,q.oneCell'=true:=by
   intro q hq;obtain⟨k,hk⟩:=J8Q hq;have K:=Jw hk;have:k<new.flatten.length:=by grind [JaS]
   obtain⟨q',z,hr⟩:=n k _ (zQ9 this);rw[hk]at z;injection z with z;subst z;exact hr.one
  have D: ∀(i j:Nat) row y,new[i]?=some row->row[j]?=some y-> ∃q,vs[i*esz+j]?=some q/\J0r s.w s.g.C y q:=by
   intro i j row y h1 h2;refine n _ _ ?_;clear n B hlen A h hr hv H G
   induction new generalizing i with
   |nil=>simp at h1
   |cons r0 new ih=>have M:r0.length=esz:=o r0 (by simp);cases i<;>grind
  subst hv;rcases B with I|⟨r,J,rfl,hm⟩
  ·subst I;simp at hlen;subst hlen;refine⟨[],?_,o,D⟩;cases E with
   |none=>exact⟨e,λ_=>rfl,run_firstCells_none s.w esz 0 0 cap,run_firstCells_none s.w.drew esz 0 0 cap,by simp,λ_ h=>by cases h⟩
   |some E=>exact⟨e,λ_=>rfl,run_firstCells_some s.w esz 0 E 0 cap [] (by simp) (λj u h=>by simp at h),run_firstCells_some s.w.drew esz 0 E 0 cap [] (by simp) (λj u h=>by simp at h),by simp,λ_ h=>by cases h⟩
  ·have F: ∀j q,vs[j]?=some q->s.w.cell? (Addr.add ⟨r,J,none⟩ j)=some q:=λj q hj=>by grind [J9M,J5X]
   exact⟨vs,⟨e,λ_=>rfl,run_firstCells_some s.w esz _ _ _ cap vs hlen F,run_firstCells_some s.w.drew esz _ _ _ cap vs hlen (by simpa using F),hlen,A⟩,o,D⟩
theorem Jji(b:Nat)(x:Blk)(σ:List Blk):upd [(b,x)] σ=σ.set b x:=rfl
structure JFd(P:Program)(esz bytes:Nat)(t ut ty el:TypeId)(z v:Value)(n:Nat)(news:List Value)(w:World):Prop where
 newsLen:news.length=n*esz
 room: ∀(r off sLen sCap:Nat),sLen+n<=sCap->(∀j,j<news.length->(w.cell? ⟨r,off+sLen*esz+j,none⟩).isSome=true)->(∀j,j<news.length->w.frozen? ⟨r,off+sLen*esz+j,none⟩=false)->
  (Builtin.append_ #[t,ut] ty #[.slice (some ⟨r,off,none⟩) sLen sCap,v]).run P w=.ok (.slice (some ⟨r,off,none⟩) (sLen+n) sCap) (w.setCells r (off+sLen*esz) news)
 grow: ∀(base:Option Addr) (sLen sCap:Nat) (olds:List Value),(Builtin.firstCells esz sLen (.slice base sLen sCap)).run P w.drew=.ok olds.toArray w.drew->sCap<sLen+n->((sLen+n:Nat):Int)<=9223372036854775807->
  Builtin.nextslicecap (sLen+n) sCap*bytes<=281474976710656->
  (Builtin.append_ #[t,ut] ty #[.slice base sLen sCap,v]).run P w=.ok (.slice (some ⟨w.heap.size,0,none⟩) (sLen+n) (grownCap w (sLen+n) sCap el)) (w.drew.alloc (.cells ((olds++news).toArray++Builtin.zeroCells z.cells (grownCap w (sLen+n) sCap el-(sLen+n))) el))
 nil:n=0->(Builtin.append_ #[t,ut] ty #[.slice none 0 0,v]).run P w=.ok (.slice none 0 0) w
theorem Src.gen{esz bytes:Nat}{t ut ty el:TypeId}{i:TypeInfo}{z v:Value}{n:Nat}{news:List Value}{w:World}(g:elT P t=some el)(hs:szT P el=some esz)(j:P.info? el=some i)(q:i.size=esz)(x:i.bytes=bytes)(k:i.zero=some z)
  (h:Src P esz ut v n news w):JFd P esz bytes t ut ty el z v n news w:=by
 have e:=h;rw[<-q]at e;refine⟨h.newsLen,λr off sLen sCap h1 h2 h3=>?_,λbase sLen sCap olds h1 h2 h3 h4=>?_,λy=>?_⟩
 ·have A:=run_append_room_src (P:=P) w t ut ty el i (J2g g) j r off sLen sCap v n news e h1 (by simp_all) (by simp_all);simp_all
 ·exact run_append_grow_src (P:=P) w t ut ty el i z (J2g g) j k base sLen sCap olds (by simp_all) v n news e h2 h3 (by simp_all)
 ·subst y;have hl:=h.len w;have o:=h.cells;rcases h.kind with⟨e',hk⟩|hk
  ·simp[Builtin.append_,run_underlying (J2g g),run_underlying hk,J3e hs,hl,o]
  ·simp[Builtin.append_,run_underlying (J2g g),run_underlying hk,J3e hs,hl,o]
theorem JBp{esz bytes:Nat}{t ut ty el:TypeId}{i:TypeInfo}{z:Value}{k k':IntKind}{m:Nat}{w:World}(n:elT P t=some el)(hs:szT P el=some esz)(h:P.info? el=some i)(o:i.size=esz)(g:i.bytes=bytes)(j:i.zero=some z)
  (H:z.cells.size=esz) (F: ∀u∈z.cells.toList,u.oneCell'=true) (hk:P.underlying ut=some (.int k)) (hm:m*bytes<=281474976710656) (G:m<=281474976710656):
  JFd P esz bytes t ut ty el z (.int k' (m:Int)) m (Builtin.zeroCells z.cells m).toList w:=by
 have w0:IntKind.i64.wrap (m:Int)=(m:Int):=by grind [IntKind.wrap_i64]
 have y: ¬(m:Int)<0:=by omega
 have A: ¬(281474976710656:Int)<(m:Int)*(bytes:Int):=by
  grind
 have hl:(Builtin.zeroCells z.cells m).toList.length=m*esz:=by grind [size_zeroCells]
 have B: ∀u∈(Builtin.zeroCells z.cells m).toList,u.oneCell'=true:=by
  grind [Builtin.zeroCells,Nat.mod_lt]
 have C:m*esz=0->Builtin.zeroCells z.cells m= #[]:=by
  grind
 refine⟨hl,λr off sLen sCap h1 h2 h3=>?_,λbase sLen sCap olds h1 h2 h3 h4=>?_,λE=>?_⟩
 ·have q:=run_storeCells_cells (P:=P) r (off+sLen*esz) (Builtin.zeroCells z.cells m).toList 0 w (by simpa using h2) (by simpa using h3) B;simp only[JhT]at q;by_cases hz:m*esz=0
  ·have e:=C hz;rw[e]at q⊢;simp[Builtin.append_,run_underlying (J2g n),run_underlying hk,sizeOf,typeInfo,h,o,g,asInt,asIntOf,w0,y,A,h1,hz,Addr.add_lit,q]
  ·simp[Builtin.append_,run_underlying (J2g n),run_underlying hk,sizeOf,typeInfo,zeroValue,h,j,o,g,asInt,asIntOf,w0,y,A,h1,hz,Addr.add_lit,q]
 ·have hn: ¬(sLen+m<=sCap):=by omega
  have v: ¬(9223372036854775807<((sLen:Int)+(m:Int))):=by omega
  have x: ¬(281474976710656<Builtin.nextslicecap (sLen+m) sCap*bytes):=by omega
  by_cases hz:m*esz=0
  ·have e:=C hz;rw[e];simp[Builtin.append_,run_underlying (J2g n),run_underlying hk,sizeOf,typeInfo,zeroValue,h,j,o,g,asInt,asIntOf,w0,y,A,hz,hn,v,x,Question.forced,h1,newRow,grownCap]
  ·simp[Builtin.append_,run_underlying (J2g n),run_underlying hk,sizeOf,typeInfo,zeroValue,h,j,o,g,asInt,asIntOf,w0,y,A,hz,hn,v,x,Question.forced,h1,newRow,grownCap]
   congr 2
   grind
 ·subst E;have D:IntKind.i64.wrap 0=0:=by decide
  simp[Builtin.append_,run_underlying (J2g n),run_underlying hk,sizeOf,typeInfo,h,o,g,asInt,asIntOf,D]
theorem Jq2(hi:Inv s){esz bytes:Nat}{zero:List PV}{u v:AV}{c:Call}{Y W:Operand}{t ut el:TypeId}(b6:o.op=.call c)(aq:c.callee=.builtin .append)
  (aa:c.args.toList=[Y,W]) (bn:c.argTypes.toList=[t,ut]) (c3:elT P t=some el)
  (ht:(szT P el==some esz&&byT P el==some bytes&&Jal P zero el&&zero.length==esz&&decide (0<esz)&&decide (0<bytes))=true)
  (rx:JK s u (a.eval Y)) (hG: ∀(i:TypeInfo) (z:Value) (new:List (List PV)),szT P el=some esz->P.info? el=some i->i.size=esz->i.bytes=bytes->i.zero=some z->zeT P el=some z->zero.length=z.cells.size->new.length*bytes<=281474976710656->new.length<=281474976710656->(J2S esz v).run ⟨env,s.σ⟩=some new->
   ∃news,JFd P esz bytes t ut o.type el z (a.eval W) new.length news s.w/\(∀row∈new,row.length=esz)/\
    ∀(i j:Nat) row y,new[i]?=some row->row[j]?=some y-> ∃q,news[i*esz+j]?=some q/\J0r s.w s.g.C y q)
  (x:(J8b esz bytes u v).run ⟨env,s.σ⟩=some e):J1g P o a s e:=by
 simp only[J04,beq_iff_eq,decide_eq_true_eq]at ht;obtain⟨⟨⟨⟨⟨hs,b1⟩,hz⟩,bt⟩,be⟩,af⟩:=ht;obtain⟨i,L,ax⟩:=JiV hs;obtain⟨z,aj,c4,bu⟩:=J54 hz;have I:=JkX b1 L;have ac:=Joa aj L;have hm:c.args.map a.eval= #[a.eval Y,a.eval W]:=by apply Jxu;simp[aa]
 have ay:c.argTypes= #[t,ut]:=by grind
 have a0: ∀{q:Value} {w':World},(Builtin.append_ #[t,ut] o.type #[a.eval Y,a.eval W]).run P s.w=.ok q w'->(execOp a.eval o).run P s.w=.ok (.value q) w':=by intro q w' hr;simp[execOp,b6,resolve,aq,hm,ay,invoke,builtin,hr]
 unfold J8b at x;split at x
 ·rename_i b j n;simp only[RM.run]at x;split at x
  ·rename_i blk hb;split at x
   ·rename_i wm U rows;obtain⟨h,h3,h4⟩:=bind_some x;clear x;split at h4
    ·rename_i a8;obtain⟨rfl,rfl,rfl,a9⟩:=a8;simp only[RM.run]at h4;injection h4 with h4;subst h4
     have hb:s.σ[b]?=some (.arr wm esz rows):=hb;have a9:(2*(rows.length+h.length)+512)*bytes<=281474976710656:=by grind [J8O]
     have b7:rows.length+h.length<=281474976710656:=by have h5:(2*(rows.length+h.length)+512)*1<=(2*(rows.length+h.length)+512)*bytes:=Nat.mul_le_mul_left _ af;omega
     have am:h.length*bytes<=281474976710656:=by
      grind
     obtain⟨news,H,D,O⟩:=hG i z h hs L ax I ac aj (by omega) am (by omega) h3;have Z:=H.newsLen;have J:=J6a.of_slr hi rx hb (by omega);simp only[JvY]at J;generalize S:a.eval Y=zz at rx;have bj: ∀{N:Nat},N<rows.length+h.length->Builtin.nextslicecap (rows.length+h.length) N*i.bytes<=281474976710656:=by intro N ho;have h5:=nextslicecap_le ho;rw[I];have h6:Builtin.nextslicecap (rows.length+h.length) N*bytes<=(2*(rows.length+h.length)+512)*bytes:=zQ4 _ (by omega);omega
     have grow: ∀{base:Option Addr} {cap:Nat},zz=.slice base rows.length cap->cap<rows.length+h.length->
       J1g P o a s ⟨.slr b 0 (rows.length+h.length),[(b,.arr wm esz (rows++h))]⟩:=by
      intro base cap ah b0;rw[S]at J;obtain⟨ad,bd,vs,hv,b8,F,a6,ae,G⟩:=J.cells;rw[ah]at hv;injection hv with v1 v2 v3;subst v1 v3;have ao:(Builtin.firstCells esz rows.length (.slice base rows.length cap)).run P s.w.drew=.ok vs.toArray s.w.drew:=by
       rcases ae with ak|⟨r,o',rfl,bz⟩
       ·subst ak;simp at F;subst F;cases base<;>grind [run_firstCells_none,run_firstCells_some]
       ·exact run_firstCells_some s.w.drew esz _ _ _ cap vs F (λj q hj=>by
        have:s.w.drew.cell? (Addr.add ⟨r,o',none⟩ j)=s.w.cell? (Addr.add ⟨r,o',none⟩ j):=by simp
        grind [J9M,J5X])
      have A:=H.grow base rows.length cap vs ao b0 (by omega) (by grind);have ai:rows.length+h.length<=grownCap s.w (rows.length+h.length) cap el:=by simp[grownCap,Question.cut]
      generalize grownCap s.w (rows.length+h.length) cap el=T at A ai;have av:h≠[]:=by grind
      have bw:z.cells.size=esz:=by omega
      obtain⟨i0,t0⟩:=Jiy (w':=s.w.drew) hi rfl rfl rfl;have bh:((vs++news).toArray++Builtin.zeroCells z.cells (T-(rows.length+h.length))).size=T*esz:=by
       have:T*esz=(rows.length+h.length)*esz+(T-(rows.length+h.length))*esz:=by rw[<-zQ8];congr 1;omega
       grind [size_zeroCells]
      obtain⟨g',bo,i',t'⟩:=JFb (s0:=⟨s.σ,s.g,s.w.drew⟩) i0 (w':=s.w.drew.alloc (.cells ((vs++news).toArray++Builtin.zeroCells z.cells (T-(rows.length+h.length))) el)) hb av G D rfl rfl rfl
       (by grind) (λk m row q hk hq=>by
        have Q:=Jw hq;rcases JfB hk with hk|⟨bg,hk⟩
        ·have V:=Jw hk;rw[G row (J1F hk)]at Q;have an:=J68 V Q;have b2:=JiY G hk hq;obtain⟨w,hw,M⟩:=a6 _ q b2;refine⟨w,?_,M.mono hi t0⟩
         grind
        ·rw[D row (J1F hk)]at Q;have V:=Jw hk;have an:=J68 V Q;obtain⟨w,hw,M⟩:=O _ m row q hk hq;have e4:k*esz+m=rows.length*esz+((k-rows.length)*esz+m):=by
          grind [Nat.add_sub_cancel']
         refine⟨w,?_,M.mono hi t0⟩;rw[Array.getElem?_append_left (by simp;omega)];simp;rw[JeV (by omega),<-hw];congr 1;omega)
      refine J2q (e:=⟨.slr b 0 (rows.length+h.length),[(b,.arr wm esz (rows++h))]⟩) (g':=g') (a0 (by rw[S,ah];exact A)) i' (t0.trans t') ?_;refine .slr b 0 _ _ wm esz (rows++h) ⟨_,_,rfl,.inr (by simp)⟩ (J1r hb) (by simp) λ_=>.inr ⟨_,T,_,el,(0,0),bo,by simp,ai,JeA rfl,?_⟩
      grind
     cases rx with
     |slr _ _ _ _ wm' U rows' q0 q1 q2 q3=>
      have q1:s.σ[b]?=some (.arr wm' U rows'):=q1;rw[hb]at q1;injection q1 with q1;injection q1 with a1 a2 a3;subst a1 a2 a3
      rcases q3 (by omega)with⟨m',_,b5,hv⟩|⟨r,cap,cc,e1,fz,m',hv,ba,hh,bp⟩
      ·have a7:rows=[]:=List.eq_nil_of_length_eq_zero b5;subst a7;by_cases ap:h=[]
       ·subst ap;simp at Z;subst Z;subst hv;have A:(Builtin.append_ #[t,ut] o.type #[.slice none 0 0,a.eval W]).run P s.w=.ok (.slice none 0 0) s.w:=by exact H.nil rfl
        have K:s.σ.set b (.arr wm esz [])=s.σ:=by
         apply zQ6
         grind
        refine J2q (e:=⟨.slr b 0 0,[(b,.arr wm esz [])]⟩) (g':=s.g) (a0 (by rw[S];exact A)) ?_ ?_ ?_
        ·rw[Jji,K];exact hi
        ·rw[Jji,K];exact .refl s
        ·rw[Jji,K];exact .slr b 0 0 _ wm esz [] ⟨none,0,rfl,.inl rfl⟩ hb (zQ0 _) λ_=>.inl ⟨m',rfl,rfl,rfl⟩
       grind [List.length_pos_iff]
      ·subst hv;by_cases E:rows.length+h.length<=cap
       ·rcases hi.arr b _ _ _ hb with⟨B,_⟩|⟨r',c',e',bx,B,R,bm,hlen,c1,b4⟩
        ·grind
        ·rw[m']at B;injection B with B;injection B with B _;subst B
         rw[hh]at R;injection R with R;injection R with w1 w2 w3;subst w1 w2 w3
         have bs:(rows.length+h.length)*esz<=cc.size:=by
          have:=zQ4 esz E
          grind
         have bi:(rows.length+h.length)*esz=rows.length*esz+h.length*esz:=zQ8 _ _ _;have a5:=J8e (vs:=news) (o:=rows.length*esz) hh (by omega);obtain⟨i',t'⟩:=JHc hi hb m' D a5 Z O;have A:=H.room r 0 rows.length cap E
          (λk hk=>by rw[J5X,J3g hh];simp;omega)
          (λk hk=>by
           have:=b4.1 (0+rows.length*esz+k) (by omega) (by omega)
           grind [World.frozen?])
         simp only[JeI]at A;obtain⟨c0,e0,c2,az,p1,p2,p3,p4,p5,p6⟩:=a5.there;rw[hh]at p1;injection p1 with p1;injection p1 with w1 w2 w3;subst w1 w2 w3
         refine J2q (e:=⟨.slr b 0 (rows.length+h.length),[(b,.arr wm esz (rows++h))]⟩) (a0 (by rw[S];simpa using A)) i' t' ?_;refine .slr b 0 _ _ wm esz (rows++h) ⟨_,_,rfl,.inr (by simp)⟩ (J1r hb) (by simp) λ_=>.inr ⟨r,cap,az,e1,fz,m',by simp,E,p2,by grind⟩
       grind
    ·cases h4
   ·cases x
  ·cases x
 ·cases x
theorem JvX(hi:Inv s){esz bytes:Nat}{zero:List PV}{u v:AV}{c:Call}{B A:Operand}{t ut el:TypeId}(x:o.op=.call c)(r:c.callee=.builtin .append)
  (h:c.args.toList=[B,A]) (n:c.argTypes.toList=[t,ut]) (z:((elT P ut).isSome||J6B P ut)=true) (k:elT P t=some el)
  (D:(szT P el==some esz&&byT P el==some bytes&&Jal P zero el&&zero.length==esz&&decide (0<esz)&&decide (0<bytes))=true)
  (E:JK s u (a.eval B)) (F:JK s v (a.eval A)) (y:(J8b esz bytes u v).run ⟨env,s.σ⟩=some e):J1g P o a s e:=
 Jq2 hi x r h n k D E (λ_ _ _ hs q C g j _ _ _ _ h3=>by obtain⟨news,w,h1,h2⟩:=JCH (u:=ut) hi h3 F (Bool.or_eq_true_iff.1 z);exact⟨news,Src.gen k hs q C g j w,h1,h2⟩) y
theorem JIa(hi:Inv s)(he:J0p s a.tmps env){esz bytes zero x y}(h:(opR F (.appz esz bytes zero x y) new).run ⟨env,s.σ⟩=some e)(hc:JX P (.appz esz bytes zero x y) o.op=true):J1g P o a s e:=by
 simp only[opR]at h;obtain⟨u,h1,U⟩:=bind_some h;obtain⟨v,h2,A⟩:=bind_some U;clear h U;unfold JX at hc;simp only at hc;split at hc
 ·rename_i c T;split at hc
  ·rename_i O;split at hc
   ·rename_i x' V t ut E M;simp only[J04]at hc;obtain⟨⟨⟨hx,hy⟩,H⟩,D⟩:=hc;split at D
    ·rename_i el I;split at H
     ·rename_i k hk;split at A
      ·rename_i c1 q;unfold zrs at q;split at q
       ·rename_i k' n;split at q
        case isFalse=>cases q
        rename_i hn;injection q with q;subst q;have Z:=J0h he h2 hy;obtain⟨m,rfl⟩: ∃m:Nat,n=(m:Int):=⟨n.toNat,by omega⟩;have hv:a.eval V=.int k' (m:Int):=by generalize a.eval V=v0 at Z;cases Z with|p _ _ h=>cases h<;>grind
        refine Jq2 hi T O E M I (by omega) (J0h he h1 hx) (λi z new hs N W B G hz a5 L K h3=>?_) A;simp only[J2S,if_pos,RM.run,Int.toNat_natCast]at h3;injection h3 with h3;subst h3;rw[Jni]at L K;simp only[J04,beq_iff_eq,decide_eq_true_eq]at D;obtain⟨⟨⟨⟨⟨_,_⟩,Q⟩,a3⟩,a1⟩,_⟩:=D;obtain⟨z',r,a2,J⟩:=J54 Q;rw[hz]at r;injection r with r;subst r
        have a0:z.cells.size=esz:=by omega
        have S: ∀(j:Nat) (u:Value),z.cells[j]?=some u-> ∃y:PV,zero[j]?=some y/\J0r s.w s.g.C y u:=by
         intro j u hu;have hj:j<zero.length:=by
          grind
         exact⟨zero[j],zQ9 hj,J j _ u (zQ9 hj) hu⟩
        refine⟨(Builtin.zeroCells z.cells m).toList,?_,λrow hr=>by simp_all,λi j row y R hy=>?_⟩
        ·rw[Jni,hv];refine JBp I hs N W B G a0 (λu hu=>?_) hk L K;obtain⟨j,hj⟩:=J8Q hu;obtain⟨y,_,hr⟩:=S j u (by simpa using hj);exact hr.one
        ·have a4:i<m:=by
          grind
         have hre:row=zero:=(List.mem_replicate.1 (J1F R)).2;subst hre;have hj:=Jw hy;have Y:j<z.cells.size:=by omega
         refine⟨z.cells[j],?_,J j y _ hy (Jua Y)⟩
         grind [J68,Builtin.zeroCells,Nat.mul_comm,Nat.mul_add_mod,Nat.mod_eq_of_lt]
       ·cases q
      ·cases A
     ·cases H
    ·cases D
   ·cases hc
  ·cases hc
 ·cases hc
theorem JIL(hi:Inv s)(he:J0p s a.tmps env){esz bytes zero x y}(h:(opR F (.app esz bytes zero x y) new).run ⟨env,s.σ⟩=some e)(hc:JX P (.app esz bytes zero x y) o.op=true):J1g P o a s e:=by
 simp only[opR]at h;obtain⟨u,h1,w⟩:=bind_some h;obtain⟨v,h2,r⟩:=bind_some w;clear h w;unfold JX at hc;simp only at hc;split at hc
 ·rename_i c q;split at hc
  ·rename_i k;split at hc
   ·rename_i C B t ut g j;simp only[J04]at hc;obtain⟨⟨⟨hx,hy⟩,z⟩,n⟩:=hc;split at n
    ·rename_i el A;exact JvX hi q k g j z A (by omega) (J0h he h1 hx) (J0h he h2 hy) r
    ·cases n
   ·cases hc
  ·cases hc
 ·cases hc
theorem JHN(hi:Inv s)(he:J0p s a.tmps env)(hn:s.σ[new]?=some .dead){esz bytes zero y}(h:(opR F (.appn esz bytes zero y) new).run ⟨env,s.σ⟩=some e)(hc:JX P (.appn esz bytes zero y) o.op=true):J1g P o a s e:=by
 simp only[opR]at h;obtain⟨v,h2,G⟩:=bind_some h;obtain⟨rows,h3,h4⟩:=bind_some G;clear h G;unfold JX at hc;simp only at hc;split at hc
 ·rename_i c E;split at hc
  ·rename_i C;split at hc
   ·rename_i U t ut r A;simp only[J04]at hc;obtain⟨⟨hy,H⟩,D⟩:=hc;split at D
    ·rename_i el I;split at h4
     ·rename_i K;simp only[RM.run]at h4;injection h4 with h4;subst h4
      obtain⟨S,J⟩:=JiS hi hn esz;have z:(s.σ.set new (.arr true esz []))[new]?=some (.arr true esz []):=J1r hn;have O:JK ⟨s.σ.set new (.arr true esz []),J5v s.g new none,s.w⟩ (.slr new 0 0) (a.eval (.const (.slice none 0 0))):=
       .slr new 0 0 _ true esz [] ⟨none,0,rfl,.inl rfl⟩ z (zQ0 _) λ_=>.inl ⟨if_pos rfl,rfl,rfl,rfl⟩
      have R:=(J0h he h2 hy).mono hi J;have T:(J2S esz v).run ⟨env,s.σ.set new (.arr true esz [])⟩=some rows:=by
       cases v with
       |slr b i n=>
        grind [J2S,RM.run]
       |p c=>cases c<;>simp only[J2S]at h3⊢ <;>first|exact h3|(split at h3<;>rename_i N<;>first|(rw[if_pos N];exact h3)|cases h3)|cases h3
       |_=>cases h3
      have B:(J8b esz bytes (.slr new 0 0) v).run ⟨env,s.σ.set new (.arr true esz [])⟩=some ⟨.slr new 0 rows.length,[(new,.arr true esz rows)]⟩:=by
       grind [J8b,RM.run,run_bind]
      have ok:=JvX (s:=⟨s.σ.set new (.arr true esz []),J5v s.g new none,s.w⟩) S E C r A H I (by omega) O R B;intro next Q x;refine ok next Q λL w' g' k q j=>?_;have M:upd [(new,Blk.arr true esz rows)] (s.σ.set new (.arr true esz []))=upd [(new,Blk.arr true esz rows)] s.σ:=by simp[Jji]
      simp only at k q j;rw[M]at k q j;exact x L w' g' k (J.trans q) j
     ·cases h4
    ·cases D
   ·cases hc
  ·cases hc
 ·cases hc
theorem JH6(hi:Inv s)(he:J0p s a.tmps env)(hn:s.σ[new]?=some .dead){esz bytes zero x y}(h:(opR F (.appc esz bytes zero x y) new).run ⟨env,s.σ⟩=some e)(hc:JX P (.appc esz bytes zero x y) o.op=true):J1g P o a s e:=by
 simp only[opR]at h;obtain⟨u,h1,h'⟩:=bind_some h;obtain⟨v,h2,C⟩:=bind_some h';clear h h';unfold JX at hc;simp only at hc;split at hc
 ·rename_i c b5;split at hc
  ·rename_i av;split at hc
   ·rename_i x' y' t ut R au;simp only[J04]at hc;obtain⟨⟨⟨hx,hy⟩,a7⟩,M⟩:=hc;split at M
    ·rename_i el ac;simp only[J04,beq_iff_eq,decide_eq_true_eq]at M;obtain⟨⟨⟨⟨⟨hs,a8⟩,hz⟩,ay⟩,am⟩,W⟩:=M;obtain⟨i,E,a6⟩:=JiV hs;obtain⟨z,ag,b3,b0⟩:=J54 hz;have D:=JkX a8 E;have T:=Joa ag E;have hm:c.args.map a.eval= #[a.eval x',a.eval y']:=by apply Jxu;simp[R]
     have az:c.argTypes= #[t,ut]:=by grind
     have ah: ∀{q:Value} {w':World},(Builtin.append_ #[t,ut] o.type #[a.eval x',a.eval y']).run P s.w=.ok q w'->(execOp a.eval o).run P s.w=.ok (.value q) w':=by simp_all [execOp,resolve,invoke,builtin]
     have S:=J0h he h1 hx;have ry:=J0h he h2 hy;unfold Jvx at C;split at C
     ·rename_i ak rows;obtain⟨add,h3,h4⟩:=bind_some C;clear C;split at h4
      ·rename_i O;obtain⟨rfl,ax,Q⟩:=O;simp only[RM.run]at h4;injection h4 with h4;subst h4
       have Q:(2*(rows.length+add.length)+512)*bytes<=281474976710656:=by grind [J8O]
       have ai:rows.length+add.length<=281474976710656:=by have h5:(2*(rows.length+add.length)+512)*1<=(2*(rows.length+add.length)+512)*bytes:=Nat.mul_le_mul_left _ W;omega
       obtain⟨news,U,G,N⟩:=JCH (u:=ut) hi h3 ry (Bool.or_eq_true_iff.1 a7);have K:=Src.gen (t:=t) (ty:=o.type) ac hs E a6 D T U;have b6:=K.newsLen;generalize b4:a.eval x'=zz at S;cases S with
       |p _ _ S=>
        cases S with
        |slc _ _ base n=>
         have Z:=J6a.of_sl n;obtain⟨ad,al,vs,hv,aj,A,L,V,B⟩:=Z.cells;injection hv with v1 v2 v3;subst v1 v3;have Y:rows.length<rows.length+add.length:=by omega
         have ap:Builtin.nextslicecap (rows.length+add.length) rows.length*i.bytes<=281474976710656:=by have h5:=nextslicecap_le Y;rw[D];have h6:Builtin.nextslicecap (rows.length+add.length) rows.length*bytes<=(2*(rows.length+add.length)+512)*bytes:=zQ4 _ (by omega);omega
         have a4:(Builtin.firstCells esz rows.length (.slice base rows.length rows.length)).run P s.w.drew=.ok vs.toArray s.w.drew:=by
          rcases V with a0|⟨r,o',rfl,b2⟩
          ·subst a0;simp at A;subst A;cases base<;>grind [run_firstCells_none,run_firstCells_some]
          ·exact run_firstCells_some s.w.drew esz _ _ _ rows.length vs A (λj q hj=>by
           have:s.w.drew.cell? (Addr.add ⟨r,o',none⟩ j)=s.w.cell? (Addr.add ⟨r,o',none⟩ j):=by simp
           grind [J9M,J5X])
         have a2:=K.grow base rows.length rows.length vs a4 Y (by omega) (by simp_all);have af:rows.length+add.length<=grownCap s.w (rows.length+add.length) rows.length el:=by simp[grownCap,Question.cut]
         generalize grownCap s.w (rows.length+add.length) rows.length el=I at a2 af;have b1:z.cells.size=esz:=by omega
         obtain⟨i0,t0⟩:=Jiy (w':=s.w.drew) hi rfl rfl rfl;have a1:((vs++news).toArray++Builtin.zeroCells z.cells (I-(rows.length+add.length))).size=I*esz:=by
          have:I*esz=(rows.length+add.length)*esz+(I-(rows.length+add.length))*esz:=by rw[<-zQ8];congr 1;omega
          grind [size_zeroCells]
         have hlen:(rows++add).length=rows.length+add.length:=J57;obtain⟨g',i',t',r'⟩:=Jgk (s0:=⟨s.σ,s.g,s.w.drew⟩) (new:=new) i0 hn (esz:=esz) (rows:=rows++add) (cap:=I) (w':=s.w.drew.alloc (.cells ((vs++news).toArray++Builtin.zeroCells z.cells (I-(rows.length+add.length))) el)) rfl rfl rfl
          (Jdz.zero _ _)
          ⟨λrow hr=>(J2h.1 hr).elim (B row) (G row),by rw[a1,hlen];grind,λk m row q hk hq=>by
           have H:=Jw hq;rcases JfB hk with hk|⟨ao,hk⟩
           ·have J:=Jw hk;rw[B row (J1F hk)]at H;have a3:=J68 J H;have a9:=JiY B hk hq;obtain⟨w,hw,n⟩:=L _ q a9;refine⟨w,?_,n.mono hi t0⟩
            grind
           ·rw[G row (J1F hk)]at H;have J:=Jw hk;have a3:=J68 J H;obtain⟨w,hw,n⟩:=N _ m row q hk hq;have e4:k*esz+m=rows.length*esz+((k-rows.length)*esz+m):=by
             grind [Nat.add_sub_cancel']
            refine⟨w,?_,n.mono hi t0⟩;simp_all [Array.getElem?_append_left]⟩ (by simp_all) (by simp_all)
         rw[hlen]at r';exact J2q (e:=⟨.slr new 0 (rows.length+add.length),[(new,.arr true esz (rows++add))]⟩) (g':=g') (ah (by simp_all)) i' (t0.trans t') r'
      ·cases h4
     ·cases C
    ·cases M
   ·cases hc
  ·cases hc
 ·cases hc
end
end Go.Am
end
section
namespace Go.Am
theorem JjZ: ∀{k1 k2:List KD} {xs e:List PV} {r:Bool},J1K (k1++k2) xs e=some r->
  ∃j g,J1K k1 (xs.take k1.length) (e.take k1.length)=some j/\J1K k2 (xs.drop k1.length) (e.drop k1.length)=some g/\r=(j&&g)
 |[],k2,xs,e,r,h=>⟨true,r,by simp[J1K],by simpa using h,by simp⟩
 |k::k1,k2,xs,e,r,h=>by
  cases xs with
  |nil=>grind [J1K]
  |cons x xs=>
   cases e with
   |nil=>grind [J1K]
   |cons y e=>
    simp only[JoD,J1K]at h;split at h
    ·rename_i a c ha hc;injection h with h;subst h;obtain⟨j,g,h1,h2,h3⟩:=JjZ hc
     grind [J1K]
    ·cases h
theorem Jgx: ∀{ks:List KD} {xs e:List PV} {r:Bool},J1K ks xs e=some r->xs.length=ks.length/\e.length=ks.length
 |[],xs,e,r,h=>by grind [J1K]
 |k::ks,xs,e,r,h=>by
  cases xs with
  |nil=>grind [J1K]
  |cons x xs=>
   cases e with
   |nil=>grind [J1K]
   |cons y e=>
    simp only[J1K]at h;split at h
    ·rename_i a c ha hc;obtain⟨h1,h2⟩:=Jgx hc;simp[h1,h2]
    ·cases h
section
variable {P:Program} {F:Orc} {s:Sn} {a:Act} {env:List (Nat×AV)} {o:Oper} {new:Nat} {e:Eff}
def JFk(P:Program)(t:TypeId)(vs:List Value)(X:Value):Prop:=(agT P t=some true/\X=.agg vs.toArray)\/(agT P t=some false/\ ∃v,vs=[v]/\X=v)
theorem Jex{t:TypeId}{n off:Nat}{cs:Array Value}(hs:szT P t=some n)(j:off+n<=cs.size)(g:(agT P t=some true)\/(agT P t=some false/\n=1))(w:World):
  ∃X,(part t cs off).run P w=.ok X w/\JFk P t ((cs.toList.drop off).take n) X:=by
 rcases g with h|⟨h,rfl⟩
 ·refine⟨.agg (cs.extract off (off+n)),by simp_all [part,JcA,J3e],.inl ⟨h,?_⟩⟩
  congr 1
  grind
 ·have e:off<cs.size:=by omega
  have k:cs[off]?=some cs[off]:=by simp[e]
  refine⟨cs[off],by simp_all [part,JcA],.inr ⟨h,cs[off],?_,rfl⟩⟩
  grind [List.drop_eq_getElem_cons]
def Jc0(s:Sn)(xs:List PV)(vs:List Value):Prop:=xs.length=vs.length/\ ∀(i:Nat) x v,xs[i]?=some x->vs[i]?=some v->J0r s.w s.g.C x v
theorem Jc0.take{xs vs}(h:Jc0 s xs vs)(n:Nat):Jc0 s (xs.take n) (vs.take n):=
 ⟨by simp[h.1],λi x v hx hv=>by
  rw[Jus]at hx hv;split at hx
  ·rename_i hi;rw[if_pos hi]at hv;exact h.2 i x v hx hv
  ·cases hx⟩
theorem Jc0.drop{xs vs}(h:Jc0 s xs vs)(n:Nat):Jc0 s (xs.drop n) (vs.drop n):=
 ⟨by simp[h.1],λi x v hx hv=>by
  rw[JEE]at hx hv;exact h.2 _ x v hx hv⟩
def EqK(P:Program)(s:Sn)(d:Nat)(t:TypeId)(ks:List KD):Prop:= ∀(e:Nat) (w:World) (xs h:List PV) (vs g:List Value) (r:Bool) (X Y:Value),J1K ks xs h=some r->Jc0 s xs vs->Jc0 s h g->JFk P t vs X->JFk P t g Y->(Op.equalIn (d+e) t X Y).run P w=.ok r w
theorem JjD{d:Nat}{t:TypeId}{ks:List KD}(h:Jau P d t=some ks):agT P t=some true\/(agT P t=some false/\ks.length=1):=by cases d<;>grind [Jau,agT,JkL]
theorem JpG(d e:Nat)(B: ∀t ks,Jau P d t=some ks->EqK P s d t ks)(w:World){xs q:List PV}{vs o:List Value}(hx:Jc0 s xs vs)(hy:Jc0 s q o):
  ∀{fs:List Field} {off:Nat} {ks:List KD} {r:Bool},Jfc P (Jau P d) off fs=some ks->J1K ks (xs.drop off) (q.drop off)=some r->
   (Op.eqFields (d+e) vs.toArray o.toArray fs).run P w=.ok r w
 |[],off,ks,r,h,hc=>by simp[Jfc]at h;subst h;cases hxd:xs.drop off<;>cases hyd:q.drop off<;>simp[hxd,hyd,J1K]at hc;simp_all [Op.eqFields]
 |f::fs,off,ks,r,h,hc=>by
  unfold Jfc at h;split at h
  ·cases h
  ·rename_i hn;have j:f.name≠ "_" :=λe=>hn (.inl e);have v:f.offset=off:=by simp_all
   split at h
   ·cases h
   ·rename_i k1 k;split at h
    ·rename_i g;obtain⟨g,C⟩:=g;split at h
     ·rename_i k2 x;injection h with h;subst h;obtain⟨y,I,z,A,rfl⟩:=JjZ hc;obtain⟨F,l2⟩:=Jgx z;rw[Jgo,JkW]at F l2;rw[Jo7,Jo7]at A;have n:=JjD k;obtain⟨X,D,G⟩:=Jex (P:=P) (cs:=vs.toArray) (off:=off) g (by have:=hx.1;simp;omega) n w;obtain⟨Y,H,E⟩:=Jex (P:=P) (cs:=o.toArray) (off:=off) g (by have:=hy.1;simp;omega) n w;have he:=B f.type k1 k e w _ _ _ _ y X Y z ((hx.drop off).take _) ((hy.drop off).take _) (by simpa using G) (by simpa using E);have ih:=JpG d e B w hx hy x A;simp only[Op.eqFields];rw[if_pos j];simp only[Jks,v,D,H,he,Jgj,Sem.run_ite];cases y
      all_goals simp_all
     ·cases h
    ·cases h
theorem Jtn(d e:Nat){t:TypeId}{ks:List KD}(v:EqK P s d t ks)(hk:Jau P d t=some ks)(g:szT P t=some ks.length)(j:0<ks.length)(w:World){xs n:List PV}{vs k:List Value}(hx:Jc0 s xs vs)(hy:Jc0 s n k):
  ∀{m i:Nat} {r:Bool},J1K (List.replicate m ks).flatten (xs.drop (i*ks.length)) (n.drop (i*ks.length))=some r->
   (Op.eqItems (d+e) t ks.length vs.toArray k.toArray (List.range' i m)).run P w=.ok r w
 |0,i,r,hc=>by simp only[List.replicate_zero,List.flatten_nil]at hc;cases hxd:xs.drop (i*ks.length)<;>cases hyd:n.drop (i*ks.length)<;>simp[hxd,hyd,J1K]at hc;simp_all [Op.eqItems]
 |m+1,i,r,hc=>by
  rw[List.replicate_succ,JeB]at hc;obtain⟨o,A,q,y,rfl⟩:=JjZ hc;obtain⟨B,l2⟩:=Jgx q;rw[Jgo,JkW]at B l2;rw[Jo7,Jo7]at y;have h:=JjD hk;obtain⟨X,x,C⟩:=Jex (P:=P) (cs:=vs.toArray) (off:=i*ks.length) g (by have:=hx.1;simp;omega) h w;obtain⟨Y,D,z⟩:=Jex (P:=P) (cs:=k.toArray) (off:=i*ks.length) g (by have:=hy.1;simp;omega) h w;have he:=v e w _ _ _ _ o X Y q ((hx.drop _).take _) ((hy.drop _).take _) (by simpa using C) (by simpa using z);have ih:=Jtn d e v hk g j w hx hy (m:=m) (i:=i+1) (r:=A) (by
   grind)
  rw[List.range'_succ];simp only[Op.eqItems,Jks,x,D,he,Jgj,Sem.run_ite];cases o
  all_goals simp_all
theorem eqK: ∀(d:Nat) (t:TypeId) (ks:List KD),Jau P d t=some ks->EqK P s d t ks
 |0,t,ks,h=>by grind [Jau]
 |d+1,t,ks,h=>by
  intro e w xs M vs N r X Y hc hx hy H G;have J:d+1+e=(d+e)+1:=by omega
  rw[J];have hl:=Jgx hc;unfold Jau at h;have q: ∀{k:KD},agT P t=some false->ks=[k]-> ∃x y,xs=[x]/\M=[y]/\JiF k x y=some r/\J0r s.w s.g.C x X/\J0r s.w s.g.C y Y:=by
   rintro k F rfl;obtain⟨x,rfl⟩:=JBk.1 hl.1;obtain⟨y,rfl⟩:=JBk.1 hl.2;rcases H with⟨o,_⟩|⟨_,v,rfl,rfl⟩
   ·simp_all
   ·rcases G with⟨o,_⟩|⟨_,u,rfl,rfl⟩
    ·simp_all
    ·refine⟨x,y,rfl,rfl,?_,hx.2 0 x _ rfl rfl,hy.2 0 y _ rfl rfl⟩
     grind [J1K]
  split at h<;>rename_i hu
  ·injection h with h;subst h;obtain⟨x,y,rfl,rfl,j,A,B⟩:=q (by grind [agT,JkL]) rfl;cases A<;>cases B<;>simp only[JiF]at j<;>try (cases j;done)
   grind [run_equalIn_bool]
  ·injection h with h;subst h;obtain⟨x,y,rfl,rfl,j,A,B⟩:=q (by grind [agT,JkL]) rfl;cases A<;>cases B<;>simp only[JiF]at j<;>try (cases j;done)
   grind [run_equalIn_int]
  ·injection h with h;subst h;obtain⟨x,y,rfl,rfl,j,A,B⟩:=q (by grind [agT,JkL]) rfl;cases A<;>cases B<;>simp only[JiF]at j<;>try (cases j;done)
   simp_all [run_equalIn_string]
  ·rename_i fs;split at h
   ·cases h
   ·rename_i I;have F:agT P t=some true:=by grind [agT,JkL]
    rcases H with⟨_,rfl⟩|⟨o,_⟩
    ·rcases G with⟨_,rfl⟩|⟨o,_⟩
     ·have K:P.fieldsOf t=fs:=by grind [Program.fieldsOf]
      rw[run_equalIn_struct w (d+e) t _ _ (by simp_all) (by simpa using I),K];exact JpG d e (λt ks hk=>eqK d t ks hk) w hx hy h (by simpa using hc)
     simp_all
    simp_all
  ·rename_i n el;split at h
   ·rename_i k1 E;split at h
    ·rename_i z;injection h with h;subst h;have F:agT P t=some true:=by grind [agT,JkL]
     rcases H with⟨_,rfl⟩|⟨o,_⟩
     ·rcases G with⟨_,rfl⟩|⟨o,_⟩
      ·obtain⟨i,hi,L⟩:=JiV z.1;have D:P.cellsOf el=k1.length:=by grind [Program.cellsOf]
       rw[run_equalIn_array w (d+e) _ _ hu hi,D,List.range_eq_range'];exact Jtn d e (eqK d el k1 E) E z.1 z.2 w hx hy (i:=0) (by simpa using hc)
      simp_all
     simp_all
    ·cases h
   ·cases h
  ·cases h
theorem JyG(hi:Inv s)(he:J0p s a.tmps env){op ks x y}(h:(opR F (.bin op (.flat ks) x y) new).run ⟨env,s.σ⟩=some e)(hc:JX P (.bin op (.flat ks) x y) o.op=true):J1g P o a s e:=by
 simp only[opR]at h;obtain⟨u,h1,A⟩:=bind_some h;obtain⟨v,h2,k⟩:=bind_some A;obtain⟨r,h3,rfl⟩:=J2d k;clear h A k;unfold JX at hc;simp only at hc;split at hc
 ·rename_i L t z n ty K;simp only[J04,beq_iff_eq]at hc;obtain⟨⟨rfl,hx⟩,⟨⟨hy,hk⟩,j⟩,G⟩:=hc;have C:=J0h he h1 hx;have D:=J0h he h2 hy;generalize M:a.eval z=Q at C;generalize N:a.eval n=O at D;simp only[JbS]at h3;split at h3
  ·rename_i p q;cases C with
   |data _ vs H E=>
    cases D with
    |data _ g q1 q2=>
     have hb: ∃b,J1K ks p q=some b:=by cases hcm:J1K ks p q<;>simp_all [J8S]
     obtain⟨b,hb⟩:=hb;rw[hb]at h3;obtain⟨ho,rfl⟩:=J6l h3;have B:(eqGuard op t z n (.agg vs) (.agg g)).run P s.w=.ok () s.w:=run_eqGuard_agg s.w op t z n vs g (by simpa using G);have J:=eqK (P:=P) (s:=s) 100 t ks hk 9900 s.w p q vs.toList g.toList b (.agg vs) (.agg g) hb ⟨by simpa using H,λi x v hx hv=>E i x v hx (by simpa using hv)⟩ ⟨by simpa using q1,λi x v hx hv=>q2 i x v hx (by simpa using hv)⟩ (.inl ⟨j,by simp⟩) (.inl ⟨j,by simp⟩);have I:(binOp op t (.agg vs) (.agg g)).run P s.w=.ok (.bool (if op=.eql then b else !b)) s.w:=by
      rcases ho with rfl|rfl
      all_goals simp_all [run_eql_struct,run_neq_struct]
     simp_all [JL,execOp,J6M]
  ·cases h3
 ·cases hc
end
end Go.Am
end
section
namespace Go.Am
theorem J0r.weaken{w:World}{C e:Nat->Nat->Prop}(h: ∀r o,C r o->e r o){x v}(hr:J0r w C x v):J0r w e x v:=by
 induction hr with
 |b x=>exact .b x
 |i k n=>exact .i k n
 |s l=>exact .s l
 |np=>exact .np
 |nf=>exact .nf
 |sl0 esz a cap=>exact .sl0 esz a cap
 |sl esz rows r o cap vals h1 h2 h3 _ ih=>exact .sl esz rows r o cap vals h1 h2 (λi j row x hr hx=>⟨h _ _ (h3 i j row x hr hx).1,(h3 i j row x hr hx).2⟩) ih
 |slc esz rows a _ ih=>exact .slc esz rows a ih
theorem JA9{s c:Sn}(hi:Inv s)(hw:c.w=s.w)(j: ∀k cs,c.σ[k]?=some (.box cs)->Jt2 c k cs)(n: ∀k wm esz rows,c.σ[k]?=some (.arr wm esz rows)->Jtf c k wm esz rows)
  (id:Nat->Nat) (q: ∀k1 k2,k1<c.σ.length->k2<c.σ.length->id k1=id k2->k1=k2) (v: ∀k r o,Wr1 c k r o->Wr1 s (id k) r o)
  (x: ∀r o,c.g.C r o->r<s.w.heap.size/\ ∀k,¬Wr1 c k r o):Inv c:=by
 have e: ∀k r o,Wr1 c k r o->k<c.σ.length:=by
  grind [Wr1]
 exact⟨j,n,λk1 k2 r o h1 h2=>q k1 k2 (e _ _ _ h1) (e _ _ _ h2) (hi.apart _ _ _ _ (v _ _ _ h1) (v _ _ _ h2)),λr o h=>by grind⟩
theorem J6n{m ids sto}: ∀{xs e:List AV},fin.finL m ids sto xs=some e->xs.length=e.length/\ ∀(i:Nat) x y,xs[i]?=some x->e[i]?=some y->fin m ids sto x=some y
 |[],e,h=>by grind [fin.finL]
 |x::xs,e,h=>by
  simp only[fin.finL]at h;split at h
  ·rename_i y l hy hl;injection h with h;subst h;obtain⟨h1,h2⟩:=J6n hl
   grind
  ·cases h
theorem Jct{m ids sto}: ∀{xs e:List Blk},Jbv m ids sto xs=some e->xs.length=e.length/\ ∀(i:Nat) x y,xs[i]?=some x->e[i]?=some y->J6p m ids sto x=some y
 |[],e,h=>by grind [Jbv]
 |x::xs,e,h=>by
  simp only[Jbv]at h;split at h
  ·rename_i y l hy hl;injection h with h;subst h;obtain⟨h1,h2⟩:=Jct hl
   grind
  ·cases h
theorem Jm3{sto}: ∀{ids:List Nat} {e:List Blk},JdI sto ids=some e->ids.length=e.length/\ ∀(i:Nat) b y,ids[i]?=some b->e[i]?=some y->sto[b]?=some y
 |[],e,h=>by grind [JdI]
 |x::xs,e,h=>by
  simp only[JdI]at h;split at h
  ·rename_i y l hy hl;injection h with h;subst h;obtain⟨h1,h2⟩:=Jm3 hl
   grind
  ·cases h
theorem JdB{b:Nat}: ∀{ids:List Nat} {k j:Nat},J4W b ids k=some j->k<=j/\ids[j-k]?=some b
 |[],k,j,h=>by grind [J4W]
 |x::r,k,j,h=>by
  simp only[J4W]at h;split at h
  ·simp_all
  ·obtain⟨h1,h2⟩:=JdB h
   grind
theorem Jqh{b:Nat}: ∀{ids:List Nat} {k:Nat},J4W b ids k=none->b∉ids
 |[],_,_=>by simp
 |x::r,k,h=>by
  simp only[J4W]at h;split at h
  ·cases h
  ·rename_i hx;simp only[J40,not_or];exact⟨λe=>hx e.symm,Jqh h⟩
theorem Jcm: ∀{l:List Nat},J53 l=true->l.Nodup
 |[],_=>List.nodup_nil
 |x::r,h=>by simp only[J53,J04,JuL]at h;refine List.nodup_cons.2 ⟨?_,Jcm h.2⟩;simp_all
theorem JdJ{α:Type}: ∀{l:List α},l.Nodup-> ∀{i j:Nat} {x:α},l[i]?=some x->l[j]?=some x->i=j
 |[],_,i,j,x,h,_=>by simp at h
 |y::l,h,i,j,x,h1,h2=>by
  obtain⟨hn,hl⟩:=List.nodup_cons.1 h;cases i with
  |zero=>
   grind
  |succ i=>
   cases j with
   |zero=>grind
   |succ j=>exact congrArg (· +1) (JdJ hl (i:=i) (j:=j) (x:=x) (by simpa using h1) (by simpa using h2))
def JLq(s:Sn)(m:Nat)(ids:List Nat):Nat->Nat->Prop:=λr o=>s.g.C r o\/ ∃b wm esz rows,m<=b/\b∉ids/\s.σ[b]?=some (Blk.arr wm esz rows)/\s.g.μ b=some (r,0)/\o<rows.length*esz
def J71(s:Sn)(m:Nat)(ids:List Nat)(σ:List Blk):Sn:=
 ⟨σ,⟨λk=>if k<m then s.g.μ k else match ids[k-m]? with
  |some b=>s.g.μ b
  |none=>none,JLq s m ids⟩,s.w⟩
section
variable {s:Sn} {m:Nat} {ids:List Nat} {l q q':List Blk}
def J6L(m:Nat)(ids:List Nat)(k:Nat):Nat:=if k<m then k else(ids[k-m]?).getD 0
structure JBK(s:Sn)(m:Nat)(ids:List Nat)(σ:List Blk):Prop where
 inv:Inv s
 le:m<=s.σ.length
 nodup:ids.Nodup
 ge: ∀b∈ids,m<=b
 len:σ.length=m+ids.length
 blk: ∀k x,σ[k]?=some x-> ∃y,s.σ[J6L m ids k]?=some y/\J6p m ids s.σ y=some x
variable {σ:List Blk} (h:JBK s m ids σ)
theorem Jco(k:Nat)(hk:k<m+ids.length):(J71 s m ids σ).g.μ k=s.g.μ (J6L m ids k):=by
 grind [J71,J6L]
include h in
theorem Jno{k:Nat}{x:Blk}(hk:σ[k]?=some x):k<m+ids.length/\ ∃y,s.σ[J6L m ids k]?=some y/\J6p m ids s.σ y=some x:=by have:=Jw hk;exact⟨by rw[<-h.len];exact this,h.blk k x hk⟩
include h in
theorem Jid{b k:Nat}{y:Blk}(g:J6L m ids k=b)(hk:k<m+ids.length)(hb:s.σ[b]?=some y): ∃x,σ[k]?=some x/\J6p m ids s.σ y=some x:=by
 have e:k<σ.length:=by rw[h.len];exact hk
 obtain⟨j,h1,h2⟩:=h.blk k σ[k] (zQ9 e);simp_all
theorem J8I{k:Nat}(hk:k<m):J6L m ids k=k:=by simp[J6L,hk]
theorem Jon{b j:Nat}(hj:J4W b ids m=some j):J6L m ids j=b/\j<m+ids.length:=by
 obtain⟨h1,h2⟩:=JdB hj
 grind [J6L]
include h in
theorem Jp1{x y:AV}{v:Value}(hr:JK s x v):fin m ids s.σ x=some y->JK (J71 s m ids σ) y v:=by
 have D: ∀r o,s.g.C r o->(J71 s m ids σ).g.C r o:=λr o h=>.inl h
 induction hr generalizing y with
 |p c v hp=>intro hf;simp[fin]at hf;subst hf;exact .p _ _ (hp.weaken D)
 |data cs vs h1 h2=>intro hf;simp[fin]at hf;subst hf;exact .data _ _ h1 λi x v hx hv=>(h2 i x v hx hv).weaken D
 |agg cs vs h1 B h2 ih=>
  intro hf;simp only[fin]at hf;split at hf
  ·rename_i l hl;obtain⟨k1,k2⟩:=J6n hl;have E: ∀(i:Nat) y v,l[i]?=some y->vs[i]?=some v->JK (J71 s m ids σ) y v:=by
    grind [Jw]
   split at hf
   ·rename_i q hq;injection hf with hf;subst hf;have:=Jgm hq;subst this;refine .data _ _ (by simp_all) λi c v hc hv=>?_;have:=E i (.p c) v (by simp[hc]) hv;cases this<;>simp_all
   ·injection hf with hf;subst hf;exact .agg _ _ (by omega) B E
  ·cases hf
 |tup cs vs h1 h2 ih=>
  intro hf;simp only[fin]at hf;split at hf
  ·rename_i l hl;injection hf with hf;subst hf;obtain⟨k1,k2⟩:=J6n hl;refine .tup _ _ (by omega) λi y v hy hv=>?_
   grind [Jw]
  ·cases hf
 |ptr b off r o hm hb=>
  intro hf;obtain⟨cs,hb⟩:=hb;have go: ∀k,J6L m ids k=b->k<m+ids.length->JK (J71 s m ids σ) (.ptr k off) (.pointer (some ⟨r,o+off,none⟩)):=by
   intro k z hk;obtain⟨x,hx,w⟩:=Jid h z hk hb;simp only[J6p]at w;split at w
   ·injection w with w;subst w;exact .ptr k off r o (by grind [Jco]) ⟨_,hx⟩
   ·cases w
  grind [fin,J8I,Option.map_eq_some_iff,Jon]
 |cp cs off r o vals L M=>intro hf;simp[fin]at hf;subst hf;exact .cp cs off r o vals (λj x hx=>⟨D _ _ (L j x hx).1,(L j x hx).2⟩) λj x hx=>(M j x hx).weaken D
 |slr b i n v wm esz rows B hb A hv=>
  intro hf;have go: ∀k,J6L m ids k=b->k<m+ids.length->JK (J71 s m ids σ) (.slr k i n) v:=by
   intro k z hk;obtain⟨x,hx,w⟩:=Jid h z hk hb;simp only[J6p]at w;injection w with w;subst w;refine .slr k i n v wm esz rows B hx A λe=>?_;have R:(J71 s m ids σ).g.μ k=s.g.μ b:=by grind [Jco]
   rcases hv e with⟨G,q1,q2,q3⟩|⟨r,cap,c,e1,fz,G,q⟩
   ·exact .inl ⟨by simp_all,q1,q2,q3⟩
   ·exact .inr ⟨r,cap,c,e1,fz,by simp_all,q⟩
  simp only[fin]at hf;split at hf
  ·grind [J8I]
  ·rename_i P;split at hf
   ·grind [Jon]
   ·rename_i F;rw[hb]at hf;simp only at hf;split at hf
    ·rename_i e;injection hf with hf;subst hf;obtain⟨a,cap,k1,k2,I,K⟩:=J6a.of_slr h.inv (.slr b i n v wm esz rows B hb A hv) hb e;refine .p _ _ (JeJ (s:=J71 s m ids σ) k1 k2 I (K.imp id ?_));rintro⟨r,o,rfl,hx⟩;refine⟨r,o,rfl,λk j row x hk hj=>⟨.inr ⟨b,wm,esz,rows,by omega,Jqh F,hb,?_⟩,?_⟩⟩
     ·rcases hv e with⟨G,q1,q2,q3⟩|⟨r',N,c,e1,fz,G,q1,_⟩
      ·simp_all
      ·rw[k1]at q1;injection q1 with v1 v2 v3;injection v1 with v1;injection v1 with v1 v4;subst v1 v4
       refine⟨G,?_⟩;have J:=Jw hk;have H:=Jw hj;rw[I row (J1F hk)]at H;rw[JkW]at J;have:=J68 (a:=i+k) (b:=j) (n:=rows.length) (e:=esz) (by omega) H
       grind
     ·obtain⟨u,hu,hr⟩:=hx k j row x hk hj;exact⟨u,hu,hr.weaken D⟩
    ·cases hf
 |ep b ext i off v wm esz rows B hb A hv=>
  intro hf;have go: ∀k,J6L m ids k=b->k<m+ids.length->JK (J71 s m ids σ) (.ep k ext i off) v:=by
   intro k z hk;obtain⟨x,hx,w⟩:=Jid h z hk hb;simp only[J6p]at w;injection w with w;subst w;refine .ep k ext i off v wm esz rows B hx A λe1 e2=>?_
   grind [Jco]
  grind [fin,J8I,Option.map_eq_some_iff,Jon]
 |fn f first caps fs cs h1 h2 _ _ Q O=>
  intro hf;simp only[fin]at hf;split at hf
  ·rename_i a c ha hc;injection hf with hf;subst hf;obtain⟨k1,k2⟩:=J6n ha;obtain⟨I,K⟩:=J6n hc;refine .fn f a c fs cs (by omega) (by omega) (λi y v hy hv=>?_) (λi y v hy hv=>?_)
   all_goals grind [Jw]
  ·cases hf
 |unk x=>intro hf;simp[fin]at hf;subst hf;exact .unk x
include h in
theorem JmP(k r o:Nat)(hw:Wr1 (J71 s m ids σ) k r o):k<m+ids.length/\Wr1 s (J6L m ids k) r o:=by
 unfold Wr1 at hw;have g:(J71 s m ids σ).σ=σ:=rfl;rw[g]at hw;cases hk:σ[k]? with
 |none=>simp_all
 |some x=>obtain⟨e,y,hy,hf⟩:=Jno h hk;refine⟨e,?_⟩;rw[hk]at hw;rw[Jco k e]at hw;unfold Wr1;rw[hy];cases y<;>grind [J6p,J6n]
include h in
theorem JzH:Inv (J71 s m ids σ):=by
 have hi:=h.inv;have G: ∀k1 k2,k1<m+ids.length->k2<m+ids.length->J6L m ids k1=J6L m ids k2->k1=k2:=by
  intro k1 k2 h1 h2 he;simp only[J6L]at he;split at he<;>split at he
  ·exact he
  ·rename_i a b;have:k2-m<ids.length:=by omega
   have:=h.ge ids[k2-m] (by simp)
   grind
  ·rename_i a b;have:=h.ge (ids[k1-m]'(by omega)) (by simp)
   grind
  ·have e1:k1-m<ids.length:=by omega
   have e2:k2-m<ids.length:=by omega
   simp[e1,e2]at he;have:=JdJ h.nodup (zQ9 e1) (by rw[he];exact zQ9 e2);omega
 refine JA9 hi rfl ?_ ?_ (J6L m ids) (λk1 k2 h1 h2 he=>G k1 k2 (by rw[<-h.len];exact h1) (by rw[<-h.len];exact h2) he) (λk r o hw=>(JmP h k r o hw).2) ?_
 ·intro k cs hk;obtain⟨A,y,hy,hf⟩:=Jno h hk;cases y with
  |dead=>grind [J6p]
  |arr=>grind [J6p]
  |box H=>
   simp only[J6p]at hf;split at hf
   ·rename_i l hl;injection hf with hf;injection hf with hf;subst hf;obtain⟨k1,k2⟩:=J6n hl;obtain⟨r,o,c,e,fz,hm,q,N,hx,B⟩:=hi.box _ _ hy;refine⟨r,o,c,e,fz,by grind [Jco],q,by omega,λi x K=>?_,by simp_all⟩
    grind [Jw,Jp1]
   ·cases hf
 ·intro k wm esz rows hk;obtain⟨A,y,hy,hf⟩:=Jno h hk;cases y with
  |dead=>grind [J6p]
  |box H=>grind [J6p]
  |arr w e P=>
   simp[J6p]at hf;obtain⟨rfl,rfl,rfl⟩:=hf;rcases hi.arr _ _ _ _ hy with⟨hm,hr⟩|⟨r,c,e,fz,hm,q,g,hl,hx,B⟩
   ·exact .inl ⟨by grind [Jco],hr⟩
   ·refine .inr ⟨r,c,e,fz,by grind [Jco],q,g,hl,λi j row x h1 h2=>?_,B⟩;obtain⟨⟨v,hv,hr⟩,hc⟩:=hx i j row x h1 h2;exact⟨⟨v,hv,hr.weaken λr o h=>.inl h⟩,λe=>.inl (hc e)⟩
 ·intro r o hc;rcases hc with hc|⟨b,wm,esz,rows,O,M,J,I,L⟩
  ·exact⟨(hi.const r o hc).1,λk hw=>(hi.const r o hc).2 _ (JmP h k r o hw).2⟩
  ·rcases hi.arr _ _ _ _ J with⟨hm,_⟩|⟨r',c,e,fz,hm,q,g,hl,hx,_⟩
   ·simp_all
   ·rw[I]at hm;injection hm with hm;injection hm with hm _;subst hm
    refine⟨Jbu q,λk hw=>?_⟩;obtain⟨A,hw⟩:=JmP h k r o hw;have D:J6L m ids k≠b:=by
     grind [J6L]
    cases wm with
    |true=>
     refine D (hi.apart _ _ _ _ hw ?_)
     grind [Wr1]
    |false=>
     have E:0<esz:=by
      grind
     have z:o/esz<rows.length:=Nat.div_lt_of_lt_mul (by grind);have n:rows[o/esz]?=some (rows[o/esz]'z):=zQ9 _;have hlen:=g _ (J1F n);have F:o%esz<(rows[o/esz]'z).length:=by rw[hlen];exact Nat.mod_lt _ E
     have C:=(hx _ _ _ _ n (zQ9 F)).2 rfl;have:o/esz*esz+o%esz=o:=by grind [Nat.div_add_mod]
     rw[this]at C;exact(hi.const r o C).2 _ hw
include h in
theorem Jq9{E:Sn}(t:J0l E s)(G:E.σ.length<=m):J0l E (J71 s m ids σ):=by
 have hi:=h.inv;refine⟨t.keep,λr o hc=>.inl (t.cmono r o hc),λr o hc=>?_,λr o ⟨k,hw⟩=>t.wnew r o ⟨_,(JmP h k r o hw).2⟩,?_,λb cs hb=>?_,λb wm esz rows hb=>?_⟩
 ·rcases hc with hc|⟨b,wm,esz,rows,F,D,A,z,C⟩
  ·exact t.cnew r o hc
  ·cases wm with
   |true=>have:=t.wnew r o ⟨b,by grind [Wr1]⟩;exact .inr this
   |false=>
    rcases hi.arr _ _ _ _ A with⟨hm,_⟩|⟨r',c,e,fz,hm,H,y,hl,hx,_⟩
    ·simp_all
    ·rw[z]at hm;injection hm with hm;injection hm with hm _;subst hm
     have B:0<esz:=by
      grind
     have q:o/esz<rows.length:=Nat.div_lt_of_lt_mul (by grind);have n:rows[o/esz]?=some (rows[o/esz]'q):=zQ9 _;have hlen:=y _ (J1F n);have w:o%esz<(rows[o/esz]'q).length:=by simp_all [Nat.mod_lt]
     have v:=(hx _ _ _ _ n (zQ9 w)).2 rfl;have:o/esz*esz+o%esz=o:=by grind [Nat.div_add_mod]
     rw[this]at v;exact t.cnew r o v
 ·show E.σ.length<=σ.length;rw[h.len];omega
 ·have j:b<m:=by grind
  obtain⟨⟨cs',h1,h2⟩,h3⟩:=t.box b cs hb;obtain⟨x,hx,g⟩:=Jid h (J8I j) (by omega) h1;simp only[J6p]at g;split at g
  ·rename_i l hl;injection g with g;subst g;exact⟨⟨l,hx,by grind [J6n]⟩,by grind [Jco,J8I]⟩
  ·cases g
 ·have j:b<m:=by grind
  obtain⟨wm',rows',h1,h2,h3,h4⟩:=t.arr b wm esz rows hb;obtain⟨x,hx,g⟩:=Jid h (J8I j) (by omega) h1;simp[J6p]at g;subst g;exact⟨wm',rows',hx,h2,h3,λe=>by grind [Jco,J8I]⟩
end
end Go.Am
end
section
namespace Go.Am
def J9g(P:Program)(f:FuncId)(args:List AV)(blks:List Blk)(r:Res):Prop:=
 (∃fn,P.funcs[f]?=some fn∧fn.body.isSome=true∧(fn.name== "runtime.NumGoroutine")=false)∧
 ∀(g:Gh) (w:World) (vals:Array Value),Inv ⟨blks,g,w⟩->args.length=vals.size->(∀(i:Nat) x v,args[i]?=some x->vals[i]?=some v->JK ⟨blks,g,w⟩ x v)->
  Calls P f vals w λe w'=> ∃v g',e=.returned v/\Inv ⟨r.2,g',w'⟩/\J0l ⟨blks,g,w⟩ ⟨r.2,g',w'⟩/\JK ⟨r.2,g',w'⟩ r.1 v
def J5O(P:Program)(F:Orc):Prop:= ∀f args blks r,F f args blks=some r->J9g P f args blks r
theorem J6e{e:Ent}: ∀{es:List Ent} {k j:Nat},J2k e es k=some j->k<=j/\es[j-k]?=some e
 |[],k,j,h=>by grind [J2k]
 |x::r,k,j,h=>by
  simp only[J2k]at h;split at h
  ·simp_all
  ·obtain⟨h1,h2⟩:=J6e h
   grind
theorem J64{ρ:Ent->Option Nat}: ∀{xs e:List AV},ren.renL ρ xs=some e->xs.length=e.length/\ ∀(i:Nat) x y,xs[i]?=some x->e[i]?=some y->ren ρ x=some y
 |[],e,h=>by grind [ren.renL]
 |x::xs,e,h=>by
  simp only[ren.renL]at h;split at h
  ·rename_i y l hy hl;injection h with h;subst h;obtain⟨h1,h2⟩:=J64 hl
   grind
  ·cases h
theorem J6W{es:List Ent}{new:Nat}: ∀{xs e:List AV},bk.bkL es new xs=some e->xs.length=e.length/\ ∀(i:Nat) x y,xs[i]?=some x->e[i]?=some y->bk es new x=some y
 |[],e,h=>by grind [bk.bkL]
 |x::xs,e,h=>by
  simp only[bk.bkL]at h;split at h
  ·rename_i y l hy hl;injection h with h;subst h;obtain⟨h1,h2⟩:=J6W hl
   grind
  ·cases h
def JB1(s:Sn)(ρ:Ent->Option Nat)(e:Ent)(x:Blk):Prop:=
 match e with
 | .whole b=>(∃cs l,s.σ[b]?=some (.box cs)/\ren.renL ρ cs=some l/\x=.box l)\/(∃w esz rows,s.σ[b]?=some (.arr w esz rows)/\x=.arr w esz rows)
 | .elem b ext i=> ∃esz rows row,s.σ[b]?=some (.arr true esz rows)/\ext=rows.length/\rows[i]?=some row/\x=.box (row.map .p)
section
variable {s:Sn} {env:List (Nat×AV)}
theorem Jkd{e:List Blk}{ws:List (Nat×Blk)}{b:Nat}{x:Blk}(h:(JeD ws b).run ⟨env,e⟩=some x):(upd ws e)[b]?=some x:=by
 grind [JeD,RM.run,J9W]
theorem JDh{j:List Blk}{ws:List (Nat×Blk)}(k:s.σ=upd ws j){ρ:Ent->Option Nat}{e:Ent}{x:Blk}(h:(JgF ws ρ e).run ⟨env,j⟩=some x):JB1 s ρ e x:=by
 cases e with
 |whole b=>
  simp only[JgF]at h;obtain⟨y,h1,h⟩:=bind_some h;have hb:=Jkd h1;rw[<-k]at hb;cases y with
  |dead=>cases h
  |box cs=>
   dsimp only at h;split at h
   ·rename_i l hl;simp only[RM.run]at h;injection h with h;subst h
    exact .inl ⟨cs,l,hb,hl,rfl⟩
   ·cases h
  |arr w esz rows=>
   simp only[RM.run]at h;injection h with h;subst h
   exact .inr ⟨w,esz,rows,hb,rfl⟩
 |elem b ext i=>
  simp only[JgF]at h;obtain⟨y,h1,h⟩:=bind_some h;have hb:=Jkd h1;rw[<-k]at hb;cases y with
  |arr w esz rows=>
   cases w
   ·cases h
   ·dsimp only at h;split at h
    ·rename_i he;split at h
     ·rename_i row g;simp only[RM.run]at h;injection h with h;subst h
      exact⟨esz,rows,row,hb,he,g,rfl⟩
     ·cases h
    ·cases h
  |_=>cases h
theorem JlT{g:List Blk}{ws:List (Nat×Blk)}(j:s.σ=upd ws g){ρ:Ent->Option Nat}: ∀{es:List Ent} {blks:List Blk},(J5r ws ρ es).run ⟨env,g⟩=some blks->
  es.length=blks.length/\ ∀(k:Nat) e x,es[k]?=some e->blks[k]?=some x->JB1 s ρ e x
 |[],blks,h=>by grind [J5r,RM.run]
 |e::es,blks,h=>by
  simp only[J5r]at h;obtain⟨x,h1,h⟩:=bind_some h;obtain⟨l,h2,h⟩:=bind_some h;simp only[RM.run]at h;injection h with h;subst h
  obtain⟨k1,k2⟩:=JlT j h2
  grind [JDh]
def J7I(s:Sn)(es:List Ent)(blks:List Blk):Sn:=
 ⟨blks,⟨λk=>match es[k]? with
  |some (.whole b)=>s.g.μ b
  |some (.elem b _ i)=>(match s.σ[b]? with
   |some (.arr _ esz _)=>(match s.g.μ b with
    |some p=>some (p.1,i*esz)
    |none=>none)
   |_=>none)
  |none=>none,s.g.C⟩,s.w⟩
structure Juy(s:Sn)(es:List Ent)(blks:List Blk):Prop where
 inv:Inv s
 nodup:(es.map Ent.id).Nodup
 len:es.length=blks.length
 blk: ∀(k:Nat) e x,es[k]?=some e->blks[k]?=some x->JB1 s (λe=>J2k e es 0) e x
variable {es:List Ent} {blks:List Blk} (h:Juy s es blks)
include h in
theorem Jbk{k:Nat}{e:Ent}(he:es[k]?=some e): ∃x,blks[k]?=some x/\JB1 s (λe=>J2k e es 0) e x:=by
 have g:=Jw he;have:k<blks.length:=by rw[<-h.len];exact g
 exact⟨blks[k],zQ9 this,h.blk k e _ he (zQ9 this)⟩
theorem J6h{k b:Nat}(he:es[k]?=some (.whole b)):(J7I s es blks).g.μ k=s.g.μ b:=by simp[J7I,he]
theorem Jeb{k b ext i esz:Nat}{wm rows r}(he:es[k]?=some (.elem b ext i))(hb:s.σ[b]?=some (.arr wm esz rows))(hm:s.g.μ b=some (r,0)):(J7I s es blks).g.μ k=some (r,i*esz):=by
 grind [J7I]
include h in
theorem JDN{x y:AV}{v:Value}(hr:JK s x v):ren (λe=>J2k e es 0) x=some y->JK (J7I s es blks) y v:=by
 induction hr generalizing y with
 |p c v hp=>intro hf;simp[ren]at hf;subst hf;exact .p _ _ hp
 |data cs vs h1 h2=>intro hf;simp[ren]at hf;subst hf;exact .data _ _ h1 h2
 |cp cs off r o vals H G=>intro hf;simp[ren]at hf;subst hf;exact .cp cs off r o vals H G
 |unk x=>intro hf;simp[ren]at hf;subst hf;exact .unk x
 |agg cs vs h1 z h2 ih=>
  intro hf;simp only[ren]at hf;obtain⟨l,hl,rfl⟩:=J90.1 hf;obtain⟨k1,k2⟩:=J64 hl;refine .agg _ _ (by omega) z λi y v hy hv=>?_
  grind [Jw]
 |tup cs vs h1 h2 ih=>
  intro hf;simp only[ren]at hf;obtain⟨l,hl,rfl⟩:=J90.1 hf;obtain⟨k1,k2⟩:=J64 hl;refine .tup _ _ (by omega) λi y v hy hv=>?_
  grind [Jw]
 |ptr b off r o hm hb=>
  intro hf;simp only[ren]at hf;obtain⟨k,hk,rfl⟩:=J90.1 hf;obtain⟨_,hk⟩:=J6e hk;simp only[JhM]at hk;obtain⟨cs,hb⟩:=hb;obtain⟨x,hx,j⟩:=Jbk h hk;rcases j with⟨cs',l,h1,h2,rfl⟩|⟨w,esz,rows,h1,rfl⟩
  ·exact .ptr k off r o (by grind [J6h]) ⟨l,hx⟩
  simp_all
 |slr b i n v wm esz rows z hb A hv=>
  intro hf;simp only[ren]at hf;obtain⟨k,hk,rfl⟩:=J90.1 hf;obtain⟨_,hk⟩:=J6e hk;simp only[JhM]at hk;obtain⟨x,hx,j⟩:=Jbk h hk;rcases j with⟨cs',l,h1,h2,rfl⟩|⟨w,B,rows',h1,rfl⟩
  ·simp_all
  ·rw[hb]at h1;injection h1 with h1;injection h1 with a1 a2 a3;subst a1 a2 a3
   refine .slr k i n v wm esz rows z hx A λe=>?_;have L:(J7I s es blks).g.μ k=s.g.μ b:=J6h hk;rcases hv e with⟨C,q1,q2,q3⟩|⟨r,cap,c,e1,fz,C,q⟩
   ·exact .inl ⟨by simp_all,q1,q2,q3⟩
   ·exact .inr ⟨r,cap,c,e1,fz,by simp_all,q⟩
 |ep b ext i off v wm esz rows z hb A hv=>
  intro hf;simp only[ren]at hf;obtain⟨k,hk,rfl⟩:=J90.1 hf;obtain⟨_,hk⟩:=J6e hk;simp only[JhM]at hk;obtain⟨x,hx,j⟩:=Jbk h hk;obtain⟨B,rows',row,h1,h2,h3,rfl⟩:=j;have E:=h1;rw[hb]at h1;injection h1 with h1;injection h1 with a1 a2 a3;subst a1 a2 a3
  have I:=Jw h3;obtain⟨r,C,hv⟩:=hv h2 (by omega);subst hv;exact .ptr k off r (i*esz) (Jeb hk E C) ⟨_,hx⟩
 |fn f first caps fs cs h1 h2 _ _ J K=>
  intro hf;simp only[ren]at hf;obtain⟨N,F,hf⟩:=J2K.1 hf;obtain⟨l2,D,rfl⟩:=J90.1 hf;obtain⟨k1,k2⟩:=J64 F;obtain⟨M,O⟩:=J64 D;refine .fn f _ _ fs cs (by omega) (by omega) (λi y v hy hv=>?_) (λi y v hy hv=>?_)
  all_goals grind [Jw]
def idE(es:List Ent)(k:Nat):Nat:=((es[k]?).map Ent.id).getD 0
theorem JbH{k:Nat}{e:Ent}(he:es[k]?=some e):idE es k=e.id:=by simp[idE,he]
include h in
theorem Jcu(k r o:Nat)(hw:Wr1 (J7I s es blks) k r o):k<es.length/\Wr1 s (idE es k) r o:=by
 unfold Wr1 at hw;have q:(J7I s es blks).σ=blks:=rfl;rw[q]at hw;cases hk:blks[k]? with
 |none=>simp_all
 |some x=>
  have j:k<es.length:=by rw[h.len];grind
  refine⟨j,?_⟩;have e:es[k]?=some es[k]:=zQ9 j;have g:=h.blk k _ x e hk;rw[JbH e];rw[hk]at hw;unfold Wr1;cases hcase:es[k]with
  |whole b=>
   rw[hcase]at g e;rcases g with⟨cs',l,h1,h2,rfl⟩|⟨w,n,rows',h1,rfl⟩
   all_goals grind [Ent.id,J6h,J64]
  |elem b ext i=>
   rw[hcase]at g e;obtain⟨n,rows',row,h1,h2,h3,rfl⟩:=g
   grind [Ent.id,J7I]
include h in
theorem JK7:Inv (J7I s es blks):=by
 have hi:=h.inv;have hlen:(J7I s es blks).σ.length=es.length:=h.len.symm;refine JA9 hi rfl ?_ ?_ (idE es) ?_ (λk r o hw=>(Jcu h k r o hw).2) (λr o hc=>⟨(hi.const r o hc).1,λk hw=>(hi.const r o hc).2 _ (Jcu h k r o hw).2⟩)
 ·intro k cs hk;have hk:blks[k]?=some (.box cs):=hk;have z:k<es.length:=by grind
  have y:es[k]?=some es[k]:=zQ9 z;have q:=h.blk k _ _ y hk;cases hcase:es[k]with
  |whole b=>
   rw[hcase]at q y;rcases q with⟨cs',l,h1,h2,g⟩|⟨w,n,rows',h1,g⟩
   ·injection g with g;subst g;obtain⟨k1,k2⟩:=J64 h2;obtain⟨r,o,c,e,fz,hm,D,J,hx,B⟩:=hi.box _ _ h1;refine⟨r,o,c,e,fz,by grind [J6h],D,by omega,λi x H=>?_,by simp_all⟩
    grind [Jw,JDN]
   ·cases g
  |elem b ext i=>
   rw[hcase]at q y;obtain⟨n,rows',row,h1,h2,h3,g⟩:=q;injection g with g;subst g;have C:=Jw h3;rcases hi.arr _ _ _ _ h1 with⟨hm,hr⟩|⟨r,c,e,fz,hm,D,E,hl,hx,B⟩
   ·simp_all
   ·have I:=E row (J1F h3);have F:i*n+n<=rows'.length*n:=by
     have:=zQ4 n (show i+1<=rows'.length from C)
     grind
    refine⟨r,i*n,c,e,fz,Jeb y h1 hm,D,by simp;omega,λj x A=>?_,λo h1 h2=>B.1 o (zQ2 _) (by grind)⟩;rw[J79]at A;cases hrj:row[j]? with
    |none=>simp_all
    |some G=>simp[hrj]at A;subst A;obtain⟨⟨v,hv,hr⟩,_⟩:=hx i j row G h3 hrj;exact⟨v,hv,.p _ _ hr,hr.one⟩
 ·intro k wm esz rows hk;have hk:blks[k]?=some (.arr wm esz rows):=hk;have z:k<es.length:=by grind
  have y:es[k]?=some es[k]:=zQ9 z;have q:=h.blk k _ _ y hk;cases hcase:es[k]with
  |whole b=>
   rw[hcase]at q y;rcases q with⟨cs',l,h1,h2,g⟩|⟨w,n,rows',h1,g⟩
   ·cases g
   ·injection g with a1 a2 a3;subst a1 a2 a3;rcases hi.arr _ _ _ _ h1 with⟨hm,hr⟩|⟨r,c,e,fz,hm,hq⟩
    ·exact .inl ⟨by grind [J6h],hr⟩
    ·exact .inr ⟨r,c,e,fz,by grind [J6h],hq⟩
  |elem b ext i=>rw[hcase]at q y;obtain⟨n,rows',row,h1,h2,h3,g⟩:=q;cases g
 ·intro k1 k2 h1 h2 he;rw[hlen]at h1 h2;have e1:es[k1]?=some es[k1]:=zQ9 h1;have e2:es[k2]?=some es[k2]:=zQ9 h2;rw[JbH e1,JbH e2]at he;refine JdJ h.nodup (x:=es[k1].id) ?_ ?_
  all_goals simp_all
end
end Go.Am
end
section
namespace Go.Am
def JaF(s1:Sn)(es:List Ent)(new:Nat)(σ2:List Blk)(k:Nat)(y:Blk):Prop:=
 match es[k]? with
 |some (.whole b)=>(∃cs l,y=.box cs/\bk.bkL es new cs=some l/\σ2[b]?=some (.box l))\/(∃w esz rows,y=.arr w esz rows/\σ2[b]?=some (.arr w esz rows))
 |some (.elem b _ i)=> ∃w esz rows e,s1.σ[b]?=some (.arr w esz rows)/\y=.box (e.map .p)/\σ2[b]?=some (.arr w esz (rows.set i e))
 |none=>(∃cs l,y=.box cs/\bk.bkL es new cs=some l/\σ2[new+(k-es.length)]?=some (.box l))\/(∃w esz rows,y=.arr w esz rows/\σ2[new+(k-es.length)]?=some (.arr w esz rows))
structure JzD(s1:Sn)(es:List Ent)(blks:List Blk)(new kf:Nat)(c':Sn)(σ2:List Blk):Prop where
 cin:Juy s1 es blks
 inv:Inv c'
 trans:J0l (J7I s1 es blks) c'
 len:c'.σ.length=es.length+kf
 slen:σ2.length=s1.σ.length
 dead: ∀j,j<kf->s1.σ[new+j]?=some .dead
 out: ∀k y,c'.σ[k]?=some y->JaF s1 es new σ2 k y
 same: ∀b,b∉es.map Ent.id->(b<new\/new+kf<=b)->σ2[b]?=s1.σ[b]?
def kOf(es:List Ent)(new kf b:Nat):Option Nat:=
 match J2k (.whole b) es 0 with
 |some k=>some k
 |none=>if new<=b/\b<new+kf/\b∉es.map Ent.id then some (es.length+(b-new))else none
def J3M(s1:Sn)(es:List Ent)(new kf:Nat)(c':Sn)(σ2:List Blk):Sn:=
 ⟨σ2,⟨λb=>match kOf es new kf b with
  |some k=>c'.g.μ k
  |none=>s1.g.μ b,c'.g.C⟩,c'.w⟩
theorem Jly{e:Ent}: ∀{es:List Ent} {k:Nat},J2k e es k=none->e∉es
 |[],k,_=>by simp
 |x::r,k,h=>by
  simp only[J2k]at h;split at h
  ·cases h
  ·rename_i hx;simp only[J40,not_or];exact⟨λe=>hx e.symm,Jly h⟩
section
variable {s1 c':Sn} {es:List Ent} {blks σ2:List Blk} {new kf:Nat} (h:JzD s1 es blks new kf c' σ2)
theorem JmA{k:Nat}{e:Ent}(he:es[k]?=some e):e.id∈es.map Ent.id:=J9G.2 ⟨e,J1F he,rfl⟩
include h in
theorem Jf6{k1 k2:Nat}{e1 e2:Ent}(h1:es[k1]?=some e1)(h2:es[k2]?=some e2)(he:e1.id=e2.id):k1=k2:=
 JdJ h.cin.nodup (x:=e1.id) (by simp_all) (by simp_all)
include h in
theorem JHp{k:Nat}{e:Ent}(he:es[k]?=some e): ∃y,s1.σ[e.id]?=some y/\y≠.dead:=by
 obtain⟨x,_,g⟩:=Jbk h.cin he;cases e with
 |whole b=>
  rcases g with⟨cs',l,h1,h2,rfl⟩|⟨w,j,rows',h1,rfl⟩
  ·exact⟨_,h1,by simp⟩
  ·exact⟨_,h1,by simp⟩
 |elem b ext i=>obtain⟨j,rows',row,h1,h2,h3,rfl⟩:=g;exact⟨_,h1,by simp⟩
include h in
theorem JEF{j:Nat}(hj:j<kf):new+j∉es.map Ent.id:=by intro hm;obtain⟨e,he,g⟩:=J9G.1 hm;obtain⟨k,hk⟩:=J8Q he;obtain⟨y,hy,hd⟩:=JHp h hk;rw[g,h.dead j hj]at hy;simp_all
include h in
theorem JD7{k b:Nat}(he:es[k]?=some (.whole b)):kOf es new kf b=some k:=by
 unfold kOf;cases hc:J2k (.whole b) es 0 with
 |none=>exact absurd (J1F he) (Jly hc)
 |some k'=>
  obtain⟨_,e⟩:=J6e hc
  grind [Jf6]
include h in
theorem JGn{k b e i:Nat}(he:es[k]?=some (.elem b e i)):kOf es new kf b=none:=by
 unfold kOf;cases hc:J2k (.whole b) es 0 with
 |some k'=>obtain⟨_,g⟩:=J6e hc;simp only[JhM]at g;have:=Jf6 h g he rfl;simp_all
 |none=>have:b∈es.map Ent.id:=JmA he;simp[this]
include h in
theorem JDp{j:Nat}(hj:j<kf):kOf es new kf (new+j)=some (es.length+j):=by
 unfold kOf;have hn:=JEF h hj;cases hc:J2k (.whole (new+j)) es 0 with
 |some k'=>obtain⟨_,e⟩:=J6e hc;simp only[JhM]at e;exact absurd (JmA e) hn
 |none=>simp_all
theorem Jel{b:Nat}(h1:b∉es.map Ent.id)(h2:b<new\/new+kf<=b):kOf es new kf b=none:=by
 unfold kOf;cases hc:J2k (.whole b) es 0 with
 |some k'=>obtain⟨_,e⟩:=J6e hc;simp only[JhM]at e;exact absurd (JmA e) h1
 |none=>
  grind
def tgt(es:List Ent)(new k:Nat):Nat:=match es[k]? with
 |some e=>e.id
 |none=>new+(k-es.length)
include h in
theorem J9l{k:Nat}(hk:k<es.length+kf)(j: ∀b e i,es[k]?≠some (.elem b e i)):(J3M s1 es new kf c' σ2).g.μ (tgt es new k)=c'.g.μ k:=by
 simp only[J3M,tgt];cases he:es[k]? with
 |some e=>
  cases e with
  |whole b=>simp only[Ent.id];rw[JD7 h he]
  |elem b e i=>simp_all
 |none=>
  grind [JDp]
include h in
theorem J8E{k b ext i:Nat}(he:es[k]?=some (.elem b ext i)): ∃esz rows row r j,s1.σ[b]?=some (.arr true esz rows)/\ext=rows.length/\rows[i]?=some row/\s1.g.μ b=some (r,0)/\
  c'.σ[k]?=some (.box (j.map .p))/\j.length=row.length/\row.length=esz/\c'.g.μ k=some (r,i*esz)/\σ2[b]?=some (.arr true esz (rows.set i j))/\(J3M s1 es new kf c' σ2).g.μ b=some (r,0):=by
 obtain⟨x,hx,o⟩:=Jbk h.cin he;obtain⟨esz,rows,row,h1,h2,h3,rfl⟩:=o;have y:=Jw h3;rcases h.cin.inv.arr _ _ _ _ h1 with⟨hm,hr⟩|⟨r,c,e,fz,hm,D,v,hl,A,z⟩
 ·simp_all
 ·obtain⟨⟨cs',q1,q2⟩,q3⟩:=h.trans.box k _ hx;have ho:=h.out k _ q1;unfold JaF at ho;rw[he]at ho;obtain⟨w,q,rows',j,n,B,C⟩:=ho;rw[h1]at n;injection n with n;injection n with a1 a2 a3;subst a1 a2 a3
  grind [Jeb,J3M,JGn]
include h in
theorem Jzh{x y:AV}{v:Value}(hr:JK c' x v):bk es new x=some y->JK (J3M s1 es new kf c' σ2) y v:=by
 have A: ∀{k:Nat} {z:Blk},c'.σ[k]?=some z->k<es.length+kf:=λhz=>by rw[<-h.len];grind
 induction hr generalizing y with
 |p c v hp=>intro hf;simp[bk]at hf;subst hf;exact .p _ _ hp
 |data cs vs h1 h2=>intro hf;simp[bk]at hf;subst hf;exact .data _ _ h1 h2
 |cp cs off r o vals N K=>intro hf;simp[bk]at hf;subst hf;exact .cp cs off r o vals N K
 |unk x=>intro hf;simp[bk]at hf;subst hf;exact .unk x
 |agg cs vs h1 D h2 ih=>
  intro hf;simp only[bk]at hf;split at hf
  ·rename_i l hl;injection hf with hf;subst hf;obtain⟨k1,k2⟩:=J6W hl;refine .agg _ _ (by omega) D λi y v hy hv=>?_
   grind [Jw]
  ·cases hf
 |tup cs vs h1 h2 ih=>
  intro hf;simp only[bk]at hf;split at hf
  ·rename_i l hl;injection hf with hf;subst hf;obtain⟨k1,k2⟩:=J6W hl;refine .tup _ _ (by omega) λi y v hy hv=>?_
   grind [Jw]
  ·cases hf
 |ptr k off r o hm hb=>
  intro hf;obtain⟨cs,hb⟩:=hb;have hk:=A hb;have ho:=h.out k _ hb;unfold JaF at ho;simp only[bk]at hf;split at hf
  ·rename_i B;have Q:es[k]?=some es[k]:=zQ9 B;split at hf
   ·rename_i b he;injection hf with hf;subst hf;have j:=J9l h hk (by rw[he];simp);simp only[tgt,he,Ent.id]at j;rw[he]at ho;rcases ho with⟨cs',l,e1,e2,I⟩|⟨w,esz,rows,e1,e2⟩
    ·exact .ptr b off r o (by simp_all) ⟨l,I⟩
    ·cases e1
   ·rename_i b e i he;injection hf with hf;subst hf;obtain⟨esz,rows,row,r',G,U,L,Z,f4,W,T,S,E,M,J⟩:=J8E h he;rw[hm]at E;injection E with E;injection E with g1 g2;subst g1 g2
    exact .ep b e i off _ true esz (rows.set i G) ⟨_,_,rfl⟩ M (by simp[L]) λ_ _=>⟨r,J,rfl⟩
   ·cases hf
  ·rename_i F;injection hf with hf;subst hf;have he:es[k]?=none:=JcE (by omega);have j:=J9l h hk (by rw[he];simp);simp only[tgt,he]at j;rw[he]at ho;rcases ho with⟨cs',l,e1,e2,I⟩|⟨w,esz,rows,e1,e2⟩
   ·exact .ptr _ off r o (by simp_all) ⟨l,I⟩
   ·cases e1
 |slr k i n v wm esz rows D hb C hv=>
  intro hf;have hk:=A hb;have ho:=h.out k _ hb;unfold JaF at ho;have go: ∀b,(J3M s1 es new kf c' σ2).g.μ b=c'.g.μ k->σ2[b]?=some (.arr wm esz rows)->JK (J3M s1 es new kf c' σ2) (.slr b i n) v:=by
   intro b j H;refine .slr b i n v wm esz rows D H C λe=>?_;rcases hv e with⟨O,q1,q2,q3⟩|⟨r,cap,c,e1,fz,O,q⟩
   ·exact .inl ⟨by simp_all,q1,q2,q3⟩
   ·exact .inr ⟨r,cap,c,e1,fz,by simp_all,q⟩
  simp only[bk]at hf;split at hf
  ·rename_i B;split at hf
   ·rename_i b he;injection hf with hf;subst hf;have j:=J9l h hk (by rw[he];simp)
    grind [tgt,Ent.id]
   ·cases hf
  ·rename_i F;injection hf with hf;subst hf;have he:es[k]?=none:=JcE (by omega);have j:=J9l h hk (by rw[he];simp)
   grind [tgt]
 |ep k ext i off v wm esz rows D hb C hv=>
  intro hf;have hk:=A hb;have ho:=h.out k _ hb;unfold JaF at ho;have go: ∀b,(J3M s1 es new kf c' σ2).g.μ b=c'.g.μ k->σ2[b]?=some (.arr wm esz rows)->JK (J3M s1 es new kf c' σ2) (.ep b ext i off) v:=by intro b j H;refine .ep b ext i off v wm esz rows D H C λe1 e2=>?_;simp_all
  simp only[bk]at hf;split at hf
  ·rename_i B;split at hf
   ·rename_i b he;injection hf with hf;subst hf;have j:=J9l h hk (by rw[he];simp)
    grind [tgt,Ent.id]
   ·cases hf
  ·rename_i F;injection hf with hf;subst hf;have he:es[k]?=none:=JcE (by omega);have j:=J9l h hk (by rw[he];simp)
   grind [tgt]
 |fn f first caps fs cs h1 h2 _ _ R P=>
  intro hf;simp only[bk]at hf;split at hf
  ·rename_i a c ha hc;injection hf with hf;subst hf;obtain⟨k1,k2⟩:=J6W ha;obtain⟨V,Y⟩:=J6W hc;refine .fn f a c fs cs (by omega) (by omega) (λi y v hy hv=>?_) (λi y v hy hv=>?_)
   all_goals grind [Jw]
  ·cases hf
inductive JAG(es:List Ent)(new kf b:Nat):Prop where
 |out (k:Nat):k<es.length+kf->tgt es new k=b->(∀b e i,es[k]?≠some (.elem b e i))->JAG es new kf b
 |elem (k e i:Nat):es[k]?=some (.elem b e i)->JAG es new kf b
 |other:b∉es.map Ent.id->(b<new\/new+kf<=b)->JAG es new kf b
theorem J8N(b:Nat):JAG es new kf b:=by
 by_cases hm:b∈es.map Ent.id
 ·obtain⟨e,he,g⟩:=J9G.1 hm;obtain⟨k,hk⟩:=J8Q he;have n:=Jw hk;cases e with
  |whole j=>simp only[Ent.id]at g;subst g;exact .out k (by omega) (by grind [tgt,Ent.id]) (by rw[hk];simp)
  |elem j e' h=>simp only[Ent.id]at g;subst g;exact .elem k e' h hk
 ·by_cases hr:new<=b/\b<new+kf
  ·have he:es[es.length+(b-new)]?=none:=JcE (by omega);refine .out (es.length+(b-new)) (by omega) ?_ (by rw[he];simp)
   grind [tgt]
  ·exact .other hm (by omega)
include h in
theorem Jhv{k:Nat}(hk:k<es.length+kf)(j: ∀b e i,es[k]?≠some (.elem b e i))(r o:Nat):
  Wr1 (J3M s1 es new kf c' σ2) (tgt es new k) r o↔Wr1 c' k r o:=by
 have q:=J9l h hk j;have g:k<c'.σ.length:=by rw[h.len];exact hk
 have n:c'.σ[k]?=some c'.σ[k]:=zQ9 g;have ho:=h.out k _ n;unfold JaF at ho;unfold Wr1;rw[n,q];have v:(J3M s1 es new kf c' σ2).σ=σ2:=rfl;rw[v];cases he:es[k]? with
 |some e=>
  grind [tgt,Ent.id,J6W]
 |none=>
  grind [tgt,J6W]
include h in
theorem Jf3{k b e i:Nat}(he:es[k]?=some (.elem b e i))(r o:Nat):Wr1 (J3M s1 es new kf c' σ2) b r o↔Wr1 s1 b r o:=by
 obtain⟨esz,rows,row,r',g,v,y,z,f4,w,x,q,n,A,j⟩:=J8E h he
 grind [Wr1,J3M]
include h in
theorem Jkl{b:Nat}(h1:b∉es.map Ent.id)(h2:b<new\/new+kf<=b)(r o:Nat):Wr1 (J3M s1 es new kf c' σ2) b r o↔Wr1 s1 b r o:=by
 unfold Wr1;have j:(J3M s1 es new kf c' σ2).σ=σ2:=rfl;have e:(J3M s1 es new kf c' σ2).g.μ b=s1.g.μ b:=by grind [J3M,Jel]
 rw[j,h.same b h1 h2,e]
include h in
theorem Jq0{r o:Nat}(hw:Wr c' r o):(∃k e,es[k]?=some e/\Wr1 (J7I s1 es blks) k r o/\Wr1 s1 e.id r o)\/s1.w.heap.size<=r:=by
 rcases h.trans.wnew r o hw with⟨k,hk⟩|hn
 ·obtain⟨g,j⟩:=Jcu h.cin k r o hk;have he:es[k]?=some es[k]:=zQ9 g
  grind [JbH]
 ·exact .inr hn
include h in
theorem Jqf:J0l s1 (J3M s1 es new kf c' σ2):=by
 refine⟨?_,λr o hc=>h.trans.cmono r o hc,λr o hc=>?_,λr o ⟨b,hw⟩=>?_,Nat.le_of_eq h.slen.symm,λb cs hb=>?_,λb wm esz rows hb=>?_⟩
 ·refine h.trans.keep.mono λr o ⟨k,hk⟩=>?_;exact⟨_,(Jcu h.cin k r o hk).2⟩
 ·rcases h.trans.cnew r o hc with hc|⟨k,hk⟩|hn
  ·exact .inl hc
  ·exact .inr (.inl ⟨_,(Jcu h.cin k r o hk).2⟩)
  ·exact .inr (.inr hn)
 ·cases J8N (es:=es) (new:=new) (kf:=kf) b with
  |out k hk g j=>
   subst g;rcases Jq0 h ⟨k,(Jhv h hk j r o).1 hw⟩with⟨k',e,_,_,B⟩|hn
   ·exact .inl ⟨_,B⟩
   simp_all
  |elem k e i he=>exact .inl ⟨b,(Jf3 h he r o).1 hw⟩
  |other h1 h2=>exact .inl ⟨b,(Jkl h h1 h2 r o).1 hw⟩
 ·cases J8N (es:=es) (new:=new) (kf:=kf) b with
  |out k hk g j=>
   cases he:es[k]? with
   |none=>
    exfalso;simp only[tgt,he]at g;have A:es.length<=k:=by simp_all
    have:=h.dead (k-es.length) (by omega);simp_all
   |some e=>
    cases e with
    |elem b e i=>simp_all
    |whole H=>
     simp only[tgt,he,Ent.id]at g;subst g;obtain⟨x,hx,q⟩:=Jbk h.cin he;rcases q with⟨cs',l,h1,h2,rfl⟩|⟨w,n,rows',h1,rfl⟩
     ·rw[hb]at h1;injection h1 with h1;injection h1 with h1;subst h1
      obtain⟨⟨K,q1,q2⟩,q3⟩:=h.trans.box k _ hx;have ho:=h.out k _ q1;unfold JaF at ho;rw[he]at ho;have z:=J9l h hk j;simp only[tgt,he,Ent.id]at z;rcases ho with⟨E,l',e1,e2,D⟩|⟨w,esz,rows,e1,e2⟩
      ·injection e1 with e1;subst e1;refine⟨⟨l',D,?_⟩,?_⟩
       all_goals grind [J6W,J64,J6h]
      ·cases e1
     simp_all
  |elem k e i he=>
   grind [J8E]
  |other h1 h2=>
   refine⟨⟨cs,by rw[<-hb];exact h.same b h1 h2,rfl⟩,?_⟩
   grind [J3M,Jel]
 ·cases J8N (es:=es) (new:=new) (kf:=kf) b with
  |out k hk g j=>
   cases he:es[k]? with
   |none=>
    exfalso;simp only[tgt,he]at g;have A:es.length<=k:=by simp_all
    have:=h.dead (k-es.length) (by omega);simp_all
   |some e=>
    cases e with
    |elem b e i=>simp_all
    |whole H=>
     simp only[tgt,he,Ent.id]at g;subst g;obtain⟨x,hx,q⟩:=Jbk h.cin he;rcases q with⟨cs',l,h1,h2,rfl⟩|⟨w,n,rows',h1,rfl⟩
     ·simp_all
     ·rw[hb]at h1;injection h1 with h1;injection h1 with a1 a2 a3;subst a1 a2 a3
      obtain⟨wm',y,q1,q2,q3,N⟩:=h.trans.arr k _ _ _ hx;have ho:=h.out k _ q1;unfold JaF at ho;rw[he]at ho;have z:=J9l h hk j;simp only[tgt,he,Ent.id]at z;rcases ho with⟨E,l',e1,e2,D⟩|⟨w,G,F,e1,e2⟩
      ·cases e1
      ·injection e1 with a1 a2 a3;subst a1 a2 a3;exact⟨wm',y,e2,q2,q3,λe=>by grind [J6h]⟩
  |elem k e i he=>
   obtain⟨n,rows',row,r',I,v,Q,R,f4,O,P,M,L,J,C⟩:=J8E h he;rw[hb]at v;injection v with v;injection v with a1 a2 a3;subst a1 a2 a3
   exact⟨true,_,J,λ_=>rfl,by simp,λ_=>by rw[C,f4]⟩
  |other h1 h2=>
   refine⟨wm,rows,by rw[<-hb];exact h.same b h1 h2,id,zQ0 _,λ_=>?_⟩
   grind [J3M,Jel]
include h in
theorem JHr:Inv (J3M s1 es new kf c' σ2):=by
 have hi:=h.cin.inv;have t:=Jqf h;have E: ∀{b},¬(b∈es.map Ent.id\/(new<=b/\b<new+kf))->b∉es.map Ent.id/\(b<new\/new+kf<=b):=λhn=>⟨λhm=>hn (.inl hm),by omega⟩;have q: ∀{k b e i r o},es[k]?=some (.elem b e i)->(Wr1 (J7I s1 es blks) k r o↔Wr1 c' k r o):=by
  intro k b e i r o he;obtain⟨x,hx,U⟩:=Jbk h.cin he;obtain⟨esz,rows,row,h1,h2,h3,rfl⟩:=U;obtain⟨⟨cs',q1,q2⟩,q3⟩:=h.trans.box k _ hx
  grind [J7I,Wr1]
 have F: ∀{k b r o},k<es.length+kf->Wr1 c' k r o->Wr1 s1 b r o->(∃k',es[k']?=some (.whole b)\/ ∃e i,es[k']?=some (.elem b e i)/\k'=k):=by
  intro k b r o hk hw hb;rcases Jq0 h ⟨k,hw⟩with⟨k',e,he,ab,n⟩|hn
  ·have A:=hi.apart _ _ _ _ n hb;cases e with
   |whole b'=>grind [Ent.id]
   |elem b' e' i'=>
    simp only[Ent.id]at A;subst A;have:=h.inv.apart _ _ _ _ ((q he).1 ab) hw
    grind
  ·have:=JdD hi b r o hb;omega
 refine J8c hi t (λb=>b∈es.map Ent.id\/(new<=b/\b<new+kf)) ?_ ?_ ?_ ?_ ?_ ?_ ?_ ?_
 ·intro b hn;obtain⟨h1,h2⟩:=E hn;exact⟨h.same b h1 h2,by grind [J3M,Jel]⟩
 ·intro b r o v hn hw hv;refine h.trans.keep.cell ?_ hv;rintro⟨k,hk⟩;obtain⟨z,n⟩:=Jcu h.cin k r o hk;have he:es[k]?=some es[k]:=zQ9 z;rw[JbH he]at n;have:=hi.apart _ _ _ _ n hw;simp_all
 ·intro b cs hd hb;have hb:σ2[b]?=some (.box cs):=hb;cases J8N (es:=es) (new:=new) (kf:=kf) b with
  |other h1 h2=>grind
  |elem k e i he=>
   grind [J8E]
  |out k hk L K=>
   subst L;have z:k<c'.σ.length:=by rw[h.len];exact hk
   have hg:c'.σ[k]?=some c'.σ[k]:=zQ9 z;have ho:=h.out k _ hg;unfold JaF at ho;have T: ∃N,c'.σ[k]?=some (.box N)/\bk.bkL es new N=some cs:=by
    cases he:es[k]? with
    |some e=>
     grind [tgt,Ent.id]
    |none=>
     grind [tgt]
   obtain⟨N,h0,hl⟩:=T;obtain⟨k1,k2⟩:=J6W hl;obtain⟨r,o,c,e,fz,hm,hh,bg,hx,ap⟩:=h.inv.box _ _ h0;refine⟨r,o,c,e,fz,by grind [J9l],hh,by omega,λi x bd=>?_,by simp_all⟩
   grind [Jw,Jzh]
 ·intro b wm esz rows hd hb;have hb:σ2[b]?=some (.arr wm esz rows):=hb;cases J8N (es:=es) (new:=new) (kf:=kf) b with
  |other h1 h2=>grind
  |elem k e i he=>
   obtain⟨ax,rows',row,r',b3,f1,f2,f3,f4,f5,f6,f7,f8,W,au⟩:=J8E h he;rw[hb]at W;injection W with W;injection W with a1 a2 a3;subst a1 a2 a3
   have z:=Jw f3;rcases hi.arr _ _ _ _ f1 with⟨hm,hr⟩|⟨r,c,e1,fz,hm,hh,a9,hl,hx,ap⟩
   ·simp_all
   ·rw[f4]at hm;injection hm with hm;injection hm with hm _;subst hm
    obtain⟨c2,q1,q2,q3⟩:=t.keep.2.1 _ _ _ _ hh;obtain⟨rr,oo,c3,e3,be,Y,J,ay,ai,b0⟩:=h.inv.box _ _ f5;rw[f8]at Y;injection Y with Y;injection Y with w1 w2;subst w1 w2
    have aj:c'.w.heap[r']?=some (.cells c2 e1 fz):=q1;rw[aj]at J;injection J with J;injection J with w1 w2 w3;subst w1 w2 w3
    refine .inr ⟨r',c2,e1,fz,au,q1,λbi bh=>?_,by simp;omega,λG j a4 x0 D O=>⟨?_,λh=>by cases h⟩,by simp_all⟩
    ·grind
    ·have bb:=Jw O;by_cases a0:G=i
     ·subst a0;rw[Jox z]at D;injection D with D;subst D;obtain⟨v,hv,hr,_⟩:=ai j (.p x0) (by simp[O]);refine⟨v,hv,?_⟩;cases hr with|p _ _ hr=>exact hr
     ·rw[Jx6 (Ne.symm a0)]at D;obtain⟨⟨v',bj,ae⟩,_⟩:=hx G j a4 x0 D O;refine⟨v',?_,ae.mono hi t⟩;have V:J0L s1.w r' (G*esz+j)=some v':=by grind [J3g]
      have ak:j<esz:=by grind
      have ag: ¬Wr (J7I s1 es blks) r' (G*esz+j):=by
       rintro⟨k',g⟩;obtain⟨B,n⟩:=Jcu h.cin k' _ _ g;have y:es[k']?=some es[k']:=zQ9 B;rw[JbH y]at n;have av:Wr1 s1 b r' (G*esz+j):=by grind [Wr1]
       have A:=hi.apart _ _ _ _ n av;have C:k'=k:=Jf6 h y he A;subst C;obtain⟨x,an,U⟩:=Jbk h.cin he;obtain⟨b7,aw,M,g1,g2,g3,rfl⟩:=U;rw[f1]at g1;injection g1 with g1;injection g1 with z1 z2 z3;subst z2 z3
       have a7:(J7I s1 es blks).σ[k']?=some (.box (M.map .p)):=an;unfold Wr1 at g;rw[a7,Jeb he f1 f4]at g;obtain⟨o0,P,bf,al⟩:=g;injection P with P;injection P with _ P;subst P;have b4:=a9 M (J1F g3);simp at al;rcases zQ3 G i with aa|b9
       ·have:=J68 aa ak;omega
       ·have:=zQ4 esz (show i+1<=G by omega)
        grind
      have:=h.trans.keep.cell ag V
      grind [J3g]
  |out k hk L K=>
   subst L;have z:k<c'.σ.length:=by rw[h.len];exact hk
   have hg:c'.σ[k]?=some c'.σ[k]:=zQ9 z;have ho:=h.out k _ hg;unfold JaF at ho;have T:c'.σ[k]?=some (.arr wm esz rows):=by
    cases he:es[k]? with
    |some e=>
     grind [tgt,Ent.id]
    |none=>
     grind [tgt]
   rcases h.inv.arr _ _ _ _ T with⟨hm,hr⟩|⟨r,c,e,fz,hm,hq⟩
   ·exact .inl ⟨by grind [J9l],hr⟩
   ·exact .inr ⟨r,c,e,fz,by grind [J9l],hq⟩
 ·
  intro b1 b2 r o hd h1 h2;cases J8N (es:=es) (new:=new) (kf:=kf) b1 with
  |other g1 g2=>grind
  |out k1 S ao ac=>
   subst ao;have w1:=(Jhv h S ac r o).1 h1;cases J8N (es:=es) (new:=new) (kf:=kf) b2 with
   |out k2 I R H=>subst R;have w2:=(Jhv h I H r o).1 h2;rw[h.inv.apart _ _ _ _ w1 w2]
   |elem k2 e i he=>
    exfalso;have w2:=(Jf3 h he r o).1 h2;obtain⟨k',g|⟨e',i',g,C⟩⟩:=F S w1 w2
    ·have:=Jf6 h g he rfl;simp_all
    simp_all
   |other g1 g2=>
    exfalso;have w2:=(Jkl h g1 g2 r o).1 h2;obtain⟨k',g|⟨e',i',g,C⟩⟩:=F S w1 w2
    ·exact g1 (JmA g)
    simp_all
  |elem k1 e1 i1 Z=>
   have w1:=(Jf3 h Z r o).1 h1;cases J8N (es:=es) (new:=new) (kf:=kf) b2 with
   |out k2 I R H=>
    subst R;exfalso;have w2:=(Jhv h I H r o).1 h2;obtain⟨k',g|⟨e',i',g,C⟩⟩:=F I w2 w1
    ·have:=Jf6 h g Z rfl;simp_all
    simp_all
   |elem k2 e i he=>exact hi.apart _ _ _ _ w1 ((Jf3 h he r o).1 h2)
   |other g1 g2=>exact hi.apart _ _ _ _ w1 ((Jkl h g1 g2 r o).1 h2)
 ·exact λr o hc=>(h.inv.const r o hc).1
 ·intro r o b hc hd hw;cases J8N (es:=es) (new:=new) (kf:=kf) b with
  |other g1 g2=>grind
  |out k hk L K=>subst L;exact(h.inv.const r o hc).2 _ ((Jhv h hk K r o).1 hw)
  |elem k e i he=>
   have w1:=(Jf3 h he r o).1 hw;rcases h.trans.cnew r o hc with Q|⟨k',g⟩|hn
   ·exact(hi.const r o Q).2 _ w1
   ·obtain⟨B,n⟩:=Jcu h.cin k' _ _ g;have y:es[k']?=some es[k']:=zQ9 B;rw[JbH y]at n;have A:=hi.apart _ _ _ _ n w1;have C:k'=k:=Jf6 h y he A;subst C;exact(h.inv.const r o hc).2 _ ((q he).1 g)
   ·have hn:s1.w.heap.size<=r:=hn;have:=JdD hi _ _ _ w1;omega
 ·intro r o b hc am hd hw;rcases h.trans.cnew r o hc with Q|⟨k',g⟩|hn
  ·exact am Q
  ·obtain⟨B,n⟩:=Jcu h.cin k' _ _ g;have y:es[k']?=some es[k']:=zQ9 B;rw[JbH y]at n;have A:=hi.apart _ _ _ _ n hw;simp_all
  ·have hn:s1.w.heap.size<=r:=hn;have:=JdD hi _ _ _ hw;omega
end
end Go.Am
end
