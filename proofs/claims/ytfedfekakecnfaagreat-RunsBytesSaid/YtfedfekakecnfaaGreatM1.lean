/-
  Parts of a proof.
-/
import Derived.Calls
import Derived.LoopN
import Derived.KernelRfl
import Derived.Laws.Sem
import Derived.Laws.StructEq
import Derived.Laws.Cells
import Derived.Laws.Cover3
import Derived.Laws.Pointers
import Derived.Deep.AppendSrc
import Derived.Laws.MakeOwn
import Derived.Laws.BytesString
import Derived.DeepKeys
set_option linter.unusedSimpArgs false
set_option linter.unusedVariables false
section
namespace Go.Am
abbrev aH:=Option
abbrev zQ0:= @Nat.le_refl
abbrev zQ1:= @Nat.le_trans
abbrev zQ2:= @Nat.zero_le
abbrev zQ3:= @Nat.lt_or_ge
abbrev zQ4:= @Nat.mul_le_mul_right
abbrev zQ5:= @List.mem_of_getElem?
abbrev zQ6:= @List.ext_getElem?
abbrev zQ7:= @List.mem_of_mem_drop
abbrev zQ8:= @Nat.add_mul
abbrev zQ9:= @List.mem_append
abbrev aQ:= @List.getElem?_eq_getElem
abbrev nR:= @List.getElem?_eq_none
abbrev dZ:= @List.mem_cons
abbrev JW:= @Bool.and_eq_true
abbrev wD:= @Sem.run_bind
abbrev rH:= @Result.andThen_ok
abbrev gZ:= @Option.map_eq_some_iff
abbrev gi:= @Option.isSome_iff_exists
abbrev EP:= @Nat.add_assoc
abbrev vV:= @Array.ext'
abbrev EN:= @Array.getElem?_toList
abbrev pO:= @List.flatten_cons
abbrev fT:= @List.getElem?_map
abbrev eB:= @Bool.false_eq_true
abbrev RA:= @List.length_eq_one_iff
abbrev kQ:= @List.getElem?_of_mem
abbrev QS:= @Sem.run_pure
abbrev EO:= @List.mem_of_mem_take
abbrev AM:= @List.getElem?_set_self
abbrev EQ:= @List.getElem?_set_ne
abbrev fr:= @List.length_cons
abbrev RY:= @Array.all_eq_true_iff_forall_mem
abbrev AS:= @List.length_replicate
abbrev iV:= @List.mem_map
abbrev pH:= @List.getElem?_append_right
abbrev dX:= @List.length_map
abbrev tP:= @Nat.add_zero
abbrev wR:= @List.drop_zero
abbrev RO:= @Array.getElem?_append_left
abbrev mC:= @Nat.zero_add
abbrev AL:= @Array.getElem?_eq_getElem
abbrev f0:= @Nat.mul_comm
abbrev nG:= @List.length_append
abbrev rI:= @List.length_take
abbrev pL:= @List.length_drop
abbrev EG:= @List.getElem?_take
abbrev SA:= @List.getElem?_drop
abbrev lZ:= @List.append_nil
abbrev AR:= @List.getElem?_append_left
abbrev AU:= @List.cons_append
abbrev wW:= @List.drop_drop
abbrev kR:= @Bool.not_eq_true'
abbrev tO:= @Nat.sub_zero
abbrev bL:= @Option.bind_eq_some_iff
abbrev Jy:= @Option.bind_some
abbrev FK:= @List.mem_cons_of_mem
abbrev BA:= @Bool.or_eq_true
abbrev yk:= @Array.getElem?_eq_some_iff
abbrev FA:= @List.append_assoc
abbrev iv:= @List.take_append_drop
abbrev ig:= @List.map_take
abbrev bP:= @List.map_cons
abbrev wF:= @List.map_map
abbrev wJ:= @List.map_append
abbrev cE:= @Option.map_some
abbrev wO:= @List.nil_append
abbrev QV:= @List.all_eq_true
abbrev RK:= @List.map_replicate
abbrev pK:= @List.mem_singleton
abbrev nN:= @Int.le_trans
abbrev nE:= @List.getElem_mem
abbrev aU:= @Int.le_refl
abbrev fo:= @List.mem_or_eq_of_mem_set
abbrev gT:= @List.getElem?_eq_some_iff
abbrev yf:= @Nat.eq_zero_or_pos
abbrev wV:= @Nat.pow_le_pow_right
abbrev nQ:= @List.mem_iff_getElem?
abbrev gm:= @List.take_succ_cons
abbrev RJ:= @List.length_flatten
abbrev fq:= @Nat.succ_mul
theorem _root_.And.c{h g e:Prop}(x:h/\g/\e):e:=x.2.2
theorem _root_.And.d{g h j e:Prop}(x:g/\h/\j/\e):e:=x.2.2.2
theorem _root_.And.e{j k n h g:Prop}(x:j/\k/\n/\h/\g):g:=x.2.2.2.2
theorem _root_.And.g{j n o h k e:Prop}(x:j/\n/\o/\h/\k/\e):e:=x.2.2.2.2.2
theorem _root_.And.h{j n q g k o e:Prop}(x:j/\n/\q/\g/\k/\o/\e):e:=x.2.2.2.2.2.2
theorem _root_.And.i{h k o g j n q e:Prop}(x:h/\k/\o/\g/\j/\n/\q/\e):e:=x.2.2.2.2.2.2.2
theorem _root_.And.j{h n r g k q v o e:Prop}(x:h/\n/\r/\g/\k/\q/\v/\o/\e):e:=x.2.2.2.2.2.2.2.2
theorem _root_.And.k{h n r g j q w o v e:Prop}(x:h/\n/\r/\g/\j/\q/\w/\o/\v/\e):e:=x.2.2.2.2.2.2.2.2.2
inductive PV where
 |b (x:Bool)
 |i (k:IntKind) (n:Int)
 |s (l:List UInt8)
 |sl (esz:Nat) (rows:List (List PV))
 |np
 |nf
 |slc (esz:Nat) (rows:List (List PV))
 deriving Inhabited
inductive AV where
 |p (c:PV)
 |data (cs:List PV)
 |agg (cs:List AV)
 |tup (vs:List AV)
 |ptr (b off:Nat)
 |cp (cs:List PV) (off:Nat)
 |slr (b i n:Nat)
 |ep (b ext i off:Nat)
 |pre (b n k:Nat)
 |fn (f:FuncId) (first caps:List AV)
 |unk
 deriving Inhabited
inductive Blk where
 |dead
 |box (cs:List AV)
 |arr (w:Bool) (esz:Nat) (rows:List (List PV))
 deriving Inhabited
abbrev Res:=AV×List Blk
abbrev Orc:=FuncId->List AV->List Blk->Option Res
structure St where
 env:List (Nat×AV)
 sto:List Blk
def lk(n:Nat):List (Nat×AV)->Option AV|[]=>none|(m,v)::r=>if n=m then some v else lk n r
inductive RM(α:Type) where|ret (a:α)|slot (n:Nat) (k:AV->RM α)|blk (b:Nat) (k:Blk->RM α)|fail
def RM.bind{α β:Type}:RM α->(α->RM β)->RM β| .ret a,f=>f a| .slot n k,f=>.slot n λv=>(k v).bind f| .blk b k,f=>.blk b λv=>(k v).bind f| .fail,_=>.fail
def RM.run{α:Type}:RM α->St->Option α
 | .ret a,_=>some a
 | .slot n k,s=>match lk n s.env with|some v=>(k v).run s|none=>none
 | .blk b k,s=>match s.sto[b]? with|some v=>(k v).run s|none=>none
 | .fail,_=>none
inductive Loc where
 |slot (n:Nat)
 |blk (b:Nat)
 deriving DecidableEq
def RM.reads{α:Type}:RM α->St->List Loc
 | .ret _,_=>[]
 | .slot n k,s=>.slot n::match lk n s.env with|some v=>(k v).reads s|none=>[]
 | .blk b k,s=>.blk b::match s.sto[b]? with|some v=>(k v).reads s|none=>[]
 | .fail,_=>[]
def RM.of{α:Type}:Option α->RM α|some a=>.ret a|none=>.fail
inductive Opd where
 |t (n:Nat)
 |c (x:AV)
 deriving Inhabited
inductive KD where
 |b
 |i (k:IntKind)
 |s
 deriving DecidableEq
inductive BT where
 |plain
 |bool
 |flat (ks:List KD)
 |nils
 |nilp
 |nilf
 deriving DecidableEq
inductive CK where
 |int (k:IntKind)
 |same
 |toStr
 |toBytes (own:Bool)
 deriving DecidableEq
inductive SK where
 |str
 |sl (esz:Nat)
 deriving DecidableEq
inductive AOp where
 |mv (x:Opd)
 |mkarr (esz:Nat) (x:Opd)
 |pick (c a b:Opd)
 |newbox (zero:List PV)
 |box (size:Nat) (x:Opd)
 |build (zero:List PV) (parts:List (Nat×Nat×Opd))
 |lits (own:Bool) (esz n:Nat) (zero:List PV) (parts:List (Nat×Opd))
 |load (agg:Bool) (size:Nat) (x:Opd)
 |store (size:Nat) (x v:Opd)
 |nilchk (x:Opd)
 |bin (op:BinOp) (t:BT) (x y:Opd)
 |un (op:UnOp) (x:Opd)
 |conv (k:CK) (x:Opd)
 |mkslice (own:Bool) (esz bytes:Nat) (zero:List PV) (l c:Opd)
 |slice (k:SK) (x:Opd) (lo hi mx:Option Opd)
 |faddr (off:Nat) (x:Opd)
 |field (agg:Bool) (off size:Nat) (x:Opd)
 |iaddr (esz:Nat) (x i:Opd)
 |aaddr (len esz:Nat) (x i:Opd)
 |sidx (x i:Opd)
 |aidx (agg:Bool) (len esz:Nat) (x i:Opd)
 |extr (x:Opd) (i:Nat)
 |call (f:FuncId) (args:List Opd) (k:Nat)
 |callv (g:Opd) (args:List Opd) (k:Nat)
 |len (str:Bool) (x:Opd)
 |alen (n:Nat)
 |app (esz bytes:Nat) (zero:List PV) (x y:Opd)
 |appn (esz bytes:Nat) (zero:List PV) (y:Opd)
 |appz (esz bytes:Nat) (zero:List PV) (x y:Opd)
 |appc (esz bytes:Nat) (zero:List PV) (x y:Opd)
 |mm (mx:Bool) (x y:Opd)
 |mkfn (f:FuncId) (first caps:List Opd)
 |newboxo (zero:List PV) (os:List (Nat×Nat))
 |buildo (zero:List PV) (parts:List (Nat×Nat×Opd)) (os:List (Nat×Nat))
 |storen (esz:Nat) (x:Opd)
 |callo (f:FuncId) (keep:List Bool) (args:List Opd) (k:Nat)
 |ppre (esz:Nat) (x hi:Opd)
 |psuf (esz:Nat) (x lo:Opd)
 |appp (esz bytes:Nat) (zero:List PV) (x y:Opd)
 deriving Inhabited
structure bS where
 op:AOp
 dst:Option Nat
 g:Option (Nat×Bool)
 deriving Inhabited
inductive bZ where
 |skip
 |bad
 |reg (draw:Bool) (pairs:List (Nat×Nat)) (ins:List bS)
 |seq (a b:bZ)
 |cond (c:Opd) (a b:bZ)
 |block (id:Nat) (c:bZ)
 |loop (live:List Nat) (c:bZ)
 |lp (n:Nat) (live:List Nat) (c:bZ)
 |scope (c:bZ)
 |exit (id:Nat)
 |ret
 |keep (live:List Nat) (c:bZ)
 |tidy (live:List Nat) (c:bZ)
 |br (live:List Nat) (pre:bZ) (c:Opd) (a b rest:bZ)
 deriving Inhabited
inductive AX where
 |normal
 |exit (id:Nat)
 |ret
 deriving DecidableEq
abbrev Out:=AX×St
inductive tJ where|tmp (t:Nat)|cell (t:Nat) (agg:Bool) (size:Nat)
structure AFn where
 np:Nat
 nt:Nat
 body:bZ
 res:List tJ
 fresh:Bool
structure Eff where
 val:AV
 ws:List (Nat×Blk)
def upd(ws:List (Nat×Blk))(sto:List Blk):List Blk:=ws.foldl (λs x=>s.set x.1 x.2) sto
def unp:List AV->Option (List PV)
 |[]=>some []
 | .p c::r=>match unp r with|some l=>some (c::l)|none=>none
 |_::_=>none
def cellsOf:AV->Option (List AV)| .p c=>some [.p c]| .data cs=>some (cs.map .p)| .agg cs=>some cs| .ptr b o=>some [.ptr b o]| .cp cs o=>some [.cp cs o]| .slr b i n=>some [.slr b i n]| .ep b e i o=>some [.ep b e i o]| .fn f a c=>some [.fn f a c]| .tup _=>none| .pre _ _ _=>none| .unk=>none
def jI(agg:Bool)(cs:List AV):Option AV:=
 if agg then
  match unp cs with
  |some l=>some (.data l)
  |none=>some (.agg cs)
 else match cs with|[x]=>some x|_=>none
def mR(agg:Bool)(cs:List PV):Option AV:=
 if agg then some (.data cs)
 else match cs with|[x]=>some (.p x)|_=>none
def sub{α:Type}(cs:List α)(off size:Nat):Option (List α):=if off=0/\cs.length=size then some cs else if off+size<=cs.length then some ((cs.drop off).take size)else none
def spl{α:Type}(cs:List α)(off:Nat)(vs:List α):Option (List α):=if off=0/\cs.length=vs.length then some vs else if off+vs.length<=cs.length then some (cs.take off++vs++cs.drop (off+vs.length))else none
def fz:AV->RM (List PV×List (Nat×Blk))
 | .p c=>.ret ([c],[])
 | .data cs=>.ret (cs,[])
 | .slr b i n=>.blk b fun
  | .arr _ esz rows=>if i+n=rows.length then .ret ([.sl esz (rows.drop i)],[(b,.arr false esz rows)])else .fail
  |_=>.fail
 | .agg cs=>fzL cs
 |_=>.fail
where
 fzL:List AV->RM (List PV×List (Nat×Blk))
  |[]=>.ret ([],[])
  |x::r=>(fz1 x).bind λa=>(fzL r).bind λc=>.ret (a.1++c.1,a.2++c.2)
 fz1:AV->RM (List PV×List (Nat×Blk))
  | .p c=>.ret ([c],[])
  | .slr b i n=>.blk b fun
   | .arr _ esz rows=>if i+n=rows.length then .ret ([.sl esz (rows.drop i)],[(b,.arr false esz rows)])else .fail
   |_=>.fail
  |_=>.fail
def tF:KD->PV->PV->Option Bool| .b,.b x,.b y=>some (x==y)| .i k,.i g x,.i e y=>if k=g/\k=e then some (x==y)else none| .s,.s x,.s y=>some (x==y)|_,_,_=>none
def cA:List KD->List PV->List PV->Option Bool
 |[],[],[]=>some true
 |k::ks,x::xs,y::e=>match tF k x y,cA ks xs e with|some a,some c=>some (a&&c)|_,_=>none
 |_,_,_=>none
def GW(op:BinOp)(k:IntKind)(x y:Int):Option PV:=
 if y<0 then none
 else match op with| .shl=>some (.i k (k.wrap (x*2^(min y.toNat k.bits))))| .shr=>some (.i k (x.fdiv (2^(min y.toNat k.bits))))|_=>none
def vW(op:BinOp)(k:IntKind)(x y:Int):Option PV:=
 match op with
 | .add=>some (.i k (k.wrap (x+y)))
 | .sub=>some (.i k (k.wrap (x-y)))
 | .mul=>some (.i k (k.wrap (x*y)))
 | .quo=>if y=0 then none else some (.i k (k.wrap (x.tdiv y)))
 | .rem=>if y=0 then none else some (.i k (x.tmod y))
 | .and=>some (.i k (k.wrap (BitVec.ofInt k.bits x&&&BitVec.ofInt k.bits y).toNat))
 | .or=>some (.i k (k.wrap (BitVec.ofInt k.bits x|||BitVec.ofInt k.bits y).toNat))
 | .xor=>some (.i k (k.wrap (BitVec.ofInt k.bits x^^^BitVec.ofInt k.bits y).toNat))
 | .eql=>some (.b (x==y))
 | .neq=>some (.b (x !=y))
 | .lss=>some (.b (decide (x<y)))
 | .leq=>some (.b (decide (x<=y)))
 | .gtr=>some (.b (decide (x>y)))
 | .geq=>some (.b (decide (x>=y)))
 |_=>none
def wK(op:BinOp)(x y:List UInt8):Option PV:=
 match op with
 | .add=>if x.length+y.length<=4611686018427387904 then some (.s (x++y))else none
 | .eql=>some (.b (x==y))
 | .neq=>some (.b (!(x==y)))
 | .lss=>some (.b (Op.bytesLess x y))
 | .leq=>some (.b (Op.bytesLess x y||x==y))
 | .gtr=>some (.b (!(Op.bytesLess x y||x==y)))
 | .geq=>some (.b (!Op.bytesLess x y))
 |_=>none
def iE(op:BinOp)(r:Option Bool):Option AV:=
 match op,r with
 | .eql,some x=>some (.p (.b x))
 | .neq,some x=>some (.p (.b (!x)))
 |_,_=>none
def ER:BinOp->Option AV| .eql=>some .unk| .neq=>some .unk|_=>none
def lX(op:BinOp)(t:BT)(x y:AV):Option AV:=
 match t with
 | .plain=>match x,y with
  | .p (.i k a),.p (.i e c)=>match op with| .shl=>(GW .shl k a c).map .p| .shr=>(GW .shr k a c).map .p|_=>if k=e then(vW op k a c).map .p else none
  | .p (.s a),.p (.s c)=>(wK op a c).map .p
  |_,_=>none
 | .bool=>match x,y with| .p (.b a),.p (.b c)=>iE op (some (a==c))|_,_=>none
 | .flat ks=>match x,y with| .data a,.data c=>iE op (cA ks a c)|_,_=>none
 | .nils=>match x with
  | .p (.sl _ rows)=>match rows with|[]=>ER op|_::_=>iE op (some false)
  | .slr _ _ n=>if n=0 then ER op else iE op (some false)
  |_=>none
 | .nilp=>match x with| .p .np=>iE op (some true)| .ptr _ _=>iE op (some false)| .cp _ _=>iE op (some false)| .ep _ _ _ _=>iE op (some false)|_=>none
 | .nilf=>match x with| .p .nf=>iE op (some true)| .fn _ _ _=>iE op (some false)|_=>none
def unP(op:UnOp)(x:AV):Option AV:=
 match op,x with
 | .neg,.p (.i k n)=>some (.p (.i k (k.wrap (0-n))))
 | .xor,.p (.i k n)=>some (.p (.i k (k.wrap (BitVec.ofInt k.bits (if k.signed then -1 else k.max)^^^BitVec.ofInt k.bits n).toNat)))
 | .not,.p (.b x)=>some (.p (.b (!x)))
 | .not,.unk=>some .unk
 |_,_=>none
def rZ:List (List PV)->Option (List UInt8)
 |[]=>some []
 |[.i .u8 n]::r=>match rZ r with|some l=>some (UInt8.ofNat n.toNat::l)|none=>none
 |_::_=>none
def lE(x:UInt8):List PV:=[.i .u8 x.toNat]
def xR(esz:Nat):List (Nat×List PV)->List (List PV)->Option (List (List PV))|[],rows=>some rows|(i,c)::r,rows=>if c.length=esz/\i<rows.length then xR esz r (rows.set i c)else none
def oG:List (Nat×Nat×List AV)->List AV->Option (List AV)
 |[],cs=>some cs
 |(off,size,c)::r,cs=>
  if c.length=size then
   match spl cs off c with
   |some cs'=>oG r cs'
   |none=>none
  else none
def ev:Opd->RM AV| .t n=>.slot n .ret| .c x=>.ret x
def evs:List Opd->RM (List AV)|[]=>.ret []|x::r=>(ev x).bind λv=>(evs r).bind λvs=>.ret (v::vs)
def val(x:Option AV):RM Eff:=
 match x with
 |some v=>.ret ⟨v,[]⟩
 |none=>.fail
def fzs:List Opd->RM (List (List PV)×List (Nat×Blk))|[]=>.ret ([],[])|x::r=>(ev x).bind λv=>(fz v).bind λa=>(fzs r).bind λc=>.ret (a.1::c.1,a.2++c.2)
def lG(x:Option AV)(top e:Nat):Option Nat:=
 match x with
 |none=>some e
 |some (.p (.i _ n))=>if 0<=n/\n<=top then some n.toNat else none
 |some _=>none
def evo:Option Opd->RM (Option AV)|none=>.ret none|some x=>(ev x).bind λv=>.ret (some v)
def mF(n:Nat)(lo hi:Option AV):Option (Nat×Nat):=
 match lG hi n n with
 |none=>none
 |some h=>match lG lo h 0 with|none=>none|some l=>some (l,h)
def uL(x:AV)(lo hi:Option AV):Option AV:=
 match x with
 | .p (.s l)=>match mF l.length lo hi with|some c=>some (.p (.s ((l.drop c.1).take (c.2-c.1))))|none=>none
 |_=>none
def uI(esz:Nat)(x:AV)(lo hi:Option AV):Option AV:=
 match x with
 | .p (.sl e rows)=>if esz=e then
   match mF rows.length lo hi with
   |some c=>some (.p (.sl esz ((rows.drop c.1).take (c.2-c.1))))
   |none=>none
  else none
 |_=>none
def LH(esz:Nat)(x:AV)(lo hi:Option AV)(m:AV):Option AV:=
 match x,lo,hi,m with
 | .p (.sl e rows),none,some (.p (.i _ h)),.p (.i _ n)=>if esz=e/\h=rows.length/\n=rows.length then some (.p (.slc esz rows))else none
 |_,_,_,_=>none
def jF(k:SK)(x:AV)(lo hi mx:Option AV):Option AV:=
 match mx with
 |some m=>match k with| .str=>none| .sl esz=>LH esz x lo hi m
 |none=>match k with| .str=>uL x lo hi| .sl esz=>uI esz x lo hi
def LY(rows:List (List PV))(n:Int):Option (List PV):=if 0<=n then rows[n.toNat]? else none
def kY(esz:Nat)(x i:AV):RM Eff:=
 match x,i with
 | .p (.sl e rows),.p (.i _ n)=>
  if esz=e then
   match LY rows n with
   |some row=>.ret ⟨.cp row 0,[]⟩
   |none=>.fail
  else .fail
 | .slr b j m,.p (.i _ n)=>.blk b fun
  | .arr _ e rows=>if esz=e/\j+m=rows.length/\0<=n/\n<m then .ret ⟨.ep b rows.length (j+n.toNat) 0,[]⟩else .fail
  |_=>.fail
 |_,_=>.fail
def GO(len esz:Nat)(x i:AV):Option AV:=
 match i with
 | .p (.i _ n)=>
  if 0<=n/\n<len then
   match x with
   | .ptr b off=>some (.ptr b (off+n.toNat*esz))
   | .cp cs off=>some (.cp cs (off+n.toNat*esz))
   | .ep b e j off=>some (.ep b e j (off+n.toNat*esz))
   |_=>none
  else none
 |_=>none
def GQ(off:Nat):AV->Option AV| .ptr b o=>some (.ptr b (o+off))| .cp cs o=>some (.cp cs (o+off))| .ep b e j o=>some (.ep b e j (o+off))|_=>none
def fW(agg:Bool)(size:Nat):AV->RM Eff
 | .cp cs off=>match sub cs off size with|some l=>val (mR agg l)|none=>.fail
 | .ptr b off=>.blk b fun
  | .box cs=>match sub cs off size with|some l=>val (jI agg l)|none=>.fail
  |_=>.fail
 | .ep b ext i off=>.blk b fun
  | .arr _ _ rows=>if ext=rows.length then
    match rows[i]? with
    |some row=>match sub row off size with|some l=>val (mR agg l)|none=>.fail
    |none=>.fail
   else .fail
  |_=>.fail
 |_=>.fail
def fX:AV:=.tup []
def gX(size:Nat)(x v:AV):RM Eff:=
 match x with
 | .ptr b off=>.blk b fun
  | .box cs=>match cellsOf v with
   |some l=>if l.length=size then
    match spl cs off l with
    |some cs'=>.ret ⟨fX,[(b,.box cs')]⟩
    |none=>.fail
    else .fail
   |none=>.fail
  |_=>.fail
 | .ep b ext i off=>.blk b fun
  | .arr true esz rows=>if ext=rows.length then
    match rows[i]? with
    |some row=>(fz v).bind λa=>
     if a.1.length=size/\(a.2.all λy=>y.1 !=b)then
      match spl row off a.1 with
      |some e=>.ret ⟨fX,a.2++[(b,.arr true esz (rows.set i e))]⟩
      |none=>.fail
     else .fail
    |none=>.fail
   else .fail
  |_=>.fail
 |_=>.fail
def qA(agg:Bool)(off size:Nat):AV->Option AV
 | .data cs=>match sub cs off size with|some l=>mR agg l|none=>none
 | .agg cs=>match sub cs off size with|some l=>jI agg l|none=>none
 |_=>none
def LJ(i:Nat):AV->Option AV| .tup vs=>vs[i]?|_=>none
def FG:Bool->AV->Option AV|true,.p (.s l)=>some (.p (.i .i64 l.length))|false,.p (.sl _ rows)=>some (.p (.i .i64 rows.length))|false,.slr _ _ n=>some (.p (.i .i64 n))|_,_=>none
def eH(esz:Nat):AV->RM (List (List PV))
 | .p (.sl e rows)=>if esz=e then .ret rows else .fail
 | .p (.s l)=>if esz=1 then .ret (l.map lE)else .fail
 | .slr b i n=>.blk b fun
  | .arr _ e rows=>if esz=e/\i+n=rows.length then .ret (rows.drop i)else .fail
  |_=>.fail
 |_=>.fail
def iF(n bytes:Nat):Bool:=(2*n+512)*bytes<=281474976710656
def hC(esz bytes:Nat)(x y:AV):RM Eff:=
 match x with
 | .slr b i n=>.blk b fun
  | .arr w e rows=>(eH esz y).bind λnew=>
   if esz=e/\i=0/\n=rows.length/\iF (n+new.length) bytes then
    .ret ⟨.slr b 0 (n+new.length),[(b,.arr w esz (rows++new))]⟩
   else .fail
  |_=>.fail
 |_=>.fail
def rD:AV->AV->RM Eff
 | .slr b i n,.p (.i _ k)=>.blk b fun
  | .arr _ _ rows=>if i=0/\n=rows.length/\0<=k/\k.toNat<=n then .ret ⟨.pre b n k.toNat,[]⟩else .fail
  |_=>.fail
 |_,_=>.fail
def rJ(esz:Nat):AV->AV->RM Eff
 | .slr b i n,.p (.i _ k)=>.blk b fun
  | .arr _ e rows=>if esz=e/\i+n=rows.length/\0<=k/\k.toNat<n then .ret ⟨.slr b (i+k.toNat) (n-k.toNat),[]⟩else .fail
  |_=>.fail
 |_,_=>.fail
def rK(esz bytes:Nat)(x y:AV):RM Eff:=
 match x with
 | .pre b n k=>.blk b fun
  | .arr true e rows=>(eH esz y).bind λnew=>
   if esz=e/\0<n/\n=rows.length/\iF (n+new.length) bytes then
    .ret ⟨.p (.sl esz (rows.take k++new)),[(b,.arr false esz (rows.take k++new++rows.drop (k+new.length)))]⟩
   else .fail
  |_=>.fail
 |_=>.fail
def EX(esz bytes:Nat)(x y:AV)(new:Nat):RM Eff:=
 match x with
 | .p (.slc e rows)=>(eH esz y).bind λadd=>
   if esz=e/\0<add.length/\iF (rows.length+add.length) bytes then
    .ret ⟨.slr new 0 (rows.length+add.length),[(new,.arr true esz (rows++add))]⟩
   else .fail
 |_=>.fail
def zrs(esz:Nat)(zero:List PV):AV->Option AV| .p (.i _ n)=>if 0<=n then some (.p (.sl esz (List.replicate n.toNat zero)))else none|_=>none
def mmP(mx:Bool)(x y:AV):Option AV:=
 match x,y with
 | .p (.i k a),.p (.i _ c)=>some (.p (.i k (if mx then(if c>a then c else a)else(if c<a then c else a))))
 |_,_=>none
inductive Ent where
 |whole (b:Nat)
 |elem (b ext i:Nat)
 deriving DecidableEq
def Ent.id:Ent->Nat| .whole b=>b| .elem b _ _=>b
def uJ(e:Ent)(l:List Ent):List Ent:=if l.any (λx=>x==e)then l else l++[e]
def cF:AV->List Ent->List Ent
 | .ptr b _,l=>uJ (.whole b) l
 | .slr b _ _,l=>uJ (.whole b) l
 | .ep b e i _,l=>uJ (.elem b e i) l
 | .fn _ first caps,l=>entsOfL caps (entsOfL first l)
 | .agg cs,l=>entsOfL cs l
 | .tup cs,l=>entsOfL cs l
 |_,l=>l
where
 entsOfL:List AV->List Ent->List Ent
  |[],l=>l
  |x::r,l=>entsOfL r (cF x l)
def cW(e:Ent):List Ent->Nat->Option Nat|[],_=>none|x::r,k=>if x=e then some k else cW e r (k+1)
def ren(ρ:Ent->Option Nat):AV->Option AV
 | .p c=>some (.p c)
 | .data cs=>some (.data cs)
 | .cp cs o=>some (.cp cs o)
 | .unk=>some .unk
 | .ptr b off=>(ρ (.whole b)).map λk=>.ptr k off
 | .ep b e i off=>(ρ (.elem b e i)).map λk=>.ptr k off
 | .slr b i n=>(ρ (.whole b)).map λk=>.slr k i n
 | .fn f first caps=>(renL ρ first).bind λa=>(renL ρ caps).map λc=>.fn f a c
 | .agg cs=>(renL ρ cs).map .agg
 | .tup cs=>(renL ρ cs).map .tup
 | .pre _ _ _=>none
where
 renL (ρ:Ent->Option Nat):List AV->Option (List AV)
  |[]=>some []
  |x::r=>match ren ρ x,renL ρ r with
   |some y,some l=>some (y::l)
   |_,_=>none
end Go.Am
end
section
namespace Go.Am
def iJ:List Nat->Bool|[]=>true|x::r=> !(r.contains x)&&iJ r
def iG(b:Nat):List (Nat×Blk)->Option Blk|[]=>none|(c,x)::r=>match iG b r with|some y=>some y|none=>if c=b then some x else none
def pN(ws:List (Nat×Blk))(b:Nat):RM Blk:=
 .blk b λx=>match iG b ws with|some y=>.ret y|none=>.ret x
def dU(ws:List (Nat×Blk)):List Ent->List Ent->RM (List Ent)
 |[],acc=>.ret acc
 | .whole b::r,acc=>(pN ws b).bind fun
  | .box cs=>dU ws r (cF.entsOfL cs acc)
  |_=>dU ws r acc
 |_::r,acc=>dU ws r acc
def hZ:AV->RM (AV×List (Nat×Blk))
 | .slr b i n=>(fz (.slr b i n)).bind λa=>match a.1 with|[c]=>.ret (.p c,a.2)|_=>.fail
 | .agg cs=>(fz (.agg cs)).bind λa=>.ret (.data a.1,a.2)
 | .tup _=>.fail
 |v=>.ret (v,[])
def jA:List AV->RM (List AV×List (Nat×Blk))|[]=>.ret ([],[])|x::r=>(hZ x).bind λa=>(jA r).bind λc=>.ret (a.1::c.1,a.2++c.2)
def wZ(ws:List (Nat×Blk))(ρ:Ent->Option Nat):Ent->RM Blk
 | .whole b=>(pN ws b).bind fun
  | .box cs=>match ren.renL ρ cs with|some l=>.ret (.box l)|none=>.fail
  | .arr w esz rows=>.ret (.arr w esz rows)
  | .dead=>.fail
 | .elem b ext i=>(pN ws b).bind fun
  | .arr true _ rows=>if ext=rows.length then
    match rows[i]? with
    |some row=>.ret (.box (row.map .p))
    |none=>.fail
   else .fail
  |_=>.fail
def jG(ws:List (Nat×Blk))(ρ:Ent->Option Nat):List Ent->RM (List Blk)|[]=>.ret []|e::r=>(wZ ws ρ e).bind λx=>(jG ws ρ r).bind λl=>.ret (x::l)
def bk(es:List Ent)(new:Nat):AV->Option AV
 | .p c=>some (.p c)
 | .data cs=>some (.data cs)
 | .cp cs o=>some (.cp cs o)
 | .unk=>some .unk
 | .ptr k off=>if k<es.length then
   match es[k]? with
   |some (.whole b)=>some (.ptr b off)
   |some (.elem b e i)=>some (.ep b e i off)
   |none=>none
  else some (.ptr (new+(k-es.length)) off)
 | .slr k i n=>if k<es.length then
   match es[k]? with
   |some (.whole b)=>some (.slr b i n)
   |_=>none
  else some (.slr (new+(k-es.length)) i n)
 | .ep k e i off=>if k<es.length then
   match es[k]? with
   |some (.whole b)=>some (.ep b e i off)
   |_=>none
  else some (.ep (new+(k-es.length)) e i off)
 | .fn f first caps=>match bkL es new first,bkL es new caps with|some a,some c=>some (.fn f a c)|_,_=>none
 | .agg cs=>match bkL es new cs with|some l=>some (.agg l)|none=>none
 | .tup cs=>match bkL es new cs with|some l=>some (.tup l)|none=>none
 | .pre _ _ _=>none
where
 bkL (es:List Ent) (new:Nat):List AV->Option (List AV)
  |[]=>some []
  |x::r=>match bk es new x,bkL es new r with
   |some y,some l=>some (y::l)
   |_,_=>none
def rT(ws:List (Nat×Blk))(es:List Ent)(new:Nat)(e:Ent)(x:Blk):RM (Nat×Blk):=
 match e,x with
 | .whole b,.box cs=>match bk.bkL es new cs with|some l=>.ret (b,.box l)|none=>.fail
 | .whole b,.arr w esz rows=>.ret (b,.arr w esz rows)
 | .elem b _ i,.box cs=>(pN ws b).bind fun
  | .arr w esz rows=>match unp cs with|some row=>.ret (b,.arr w esz (rows.set i row))|none=>.fail
  |_=>.fail
 |_,_=>.fail
def hM(ws:List (Nat×Blk))(es:List Ent)(new:Nat):List Ent->List Blk->RM (List (Nat×Blk))|[],_=>.ret []|e::r,x::l=>(rT ws es new e x).bind λy=>(hM ws es new r l).bind λg=>.ret (y::g)|_::_,[]=>.fail
def gO(es:List Ent)(new:Nat):Nat->List Blk->Option (List (Nat×Blk))
 |_,[]=>some []
 |k,.box cs::l=>match bk.bkL es new cs,gO es new (k+1) l with|some c,some e=>some ((k,.box c)::e)|_,_=>none
 |k,.arr w esz rows::l=>match gO es new (k+1) l with|some e=>some ((k,.arr w esz rows)::e)|none=>none
 |_,.dead::_=>none
def gV(F:Orc)(f:FuncId)(args:List AV)(k new:Nat):RM Eff:=
 (jA args).bind λa=>
 (dU a.2 (cF.entsOfL a.1 []) (cF.entsOfL a.1 [])).bind λh=>
 (dU a.2 h h).bind λes=>
 if iJ (es.map Ent.id)then
  match ren.renL (λe=>cW e es 0) a.1 with
  |none=>.fail
  |some g=>(jG a.2 (λe=>cW e es 0) es).bind λblks=>
   match F f g blks with
   |none=>.fail
   |some r=>if r.2.length=es.length+k then
    match bk es new r.1,gO es new new (r.2.drop es.length)with
    |some v,some fresh=>(hM a.2 es new es r.2).bind λj=>.ret ⟨v,a.2++j++fresh⟩
    |_,_=>.fail
    else .fail
 else .fail
def jE:List (Nat×Nat×Opd)->RM (List (Nat×Nat×List AV))|[]=>.ret []|(off,size,x)::r=>(ev x).bind λv=>match cellsOf v with|some cs=>(jE r).bind λl=>.ret ((off,size,cs)::l)|none=>.fail
def gH:List (Nat×Nat)->Nat->List (Nat×Blk)|[],_=>[]|(_,esz)::r,n=>(n,.arr true esz [])::gH r (n+1)
def kT:List (Nat×Nat)->Nat->List AV->List AV|[],_,cs=>cs|(off,_)::r,n,cs=>kT r (n+1) (cs.set off (.slr n 0 0))
def eW:List Bool->List AV->RM (List AV×List (Nat×Blk))|_,[]=>.ret ([],[])|[],x::r=>(hZ x).bind λa=>(eW [] r).bind λc=>.ret (a.1::c.1,a.2++c.2)|true::m,x::r=>(eW m r).bind λc=>.ret (x::c.1,c.2)|false::m,x::r=>(hZ x).bind λa=>(eW m r).bind λc=>.ret (a.1::c.1,a.2++c.2)
def fD(F:Orc)(f:FuncId)(a:List AV×List (Nat×Blk))(k new:Nat):RM Eff:=
 (dU a.2 (cF.entsOfL a.1 []) (cF.entsOfL a.1 [])).bind λh=>
 (dU a.2 h h).bind λes=>
 if iJ (es.map Ent.id)then
  match ren.renL (λe=>cW e es 0) a.1 with
  |none=>.fail
  |some g=>(jG a.2 (λe=>cW e es 0) es).bind λblks=>
   match F f g blks with
   |none=>.fail
   |some r=>if es.length<=r.2.length/\r.2.length<=es.length+k then
    match bk es new r.1,gO es new new (r.2.drop es.length)with
    |some v,some fresh=>(hM a.2 es new es r.2).bind λj=>.ret ⟨v,a.2++j++fresh⟩
    |_,_=>.fail
    else .fail
 else .fail
def opR(F:Orc)(op:AOp)(new:Nat):RM Eff:=
 match op with
 | .mv x=>(ev x).bind λv=>.ret ⟨v,[]⟩
 | .mkarr esz _=>.ret ⟨.slr new 0 0,[(new,.arr true esz [])]⟩
 | .pick c a b=>(ev c).bind fun
  | .p (.b x)=>if x then(ev a).bind λv=>.ret ⟨v,[]⟩else(ev b).bind λv=>.ret ⟨v,[]⟩
  |_=>.fail
 | .newbox zero=>.ret ⟨.ptr new 0,[(new,.box (zero.map .p))]⟩
 | .box size x=>(ev x).bind λv=>match cellsOf v with|some cs=>if cs.length=size then .ret ⟨.ptr new 0,[(new,.box cs)]⟩else .fail|none=>.fail
 | .build zero parts=>(jE parts).bind λl=>match oG l (zero.map .p)with|some cs=>val (jI true cs)|none=>.fail
 | .lits own esz n zero parts=>(fzs (parts.map (·.2))).bind λa=>
  match xR esz ((parts.map (·.1)).zip a.1) (List.replicate n zero)with
  |some rows=>if own then .ret ⟨.slr new 0 n,a.2++[(new,.arr true esz rows)]⟩else .ret ⟨.p (.sl esz rows),a.2⟩
  |none=>.fail
 | .load agg size x=>(ev x).bind λv=>fW agg size v
 | .store size x y=>(ev x).bind λa=>(ev y).bind λv=>gX size a v
 | .nilchk x=>(ev x).bind fun
  | .ptr b o=>.ret ⟨.ptr b o,[]⟩
  | .cp cs o=>.ret ⟨.cp cs o,[]⟩
  | .ep b e i o=>.ret ⟨.ep b e i o,[]⟩
  | .fn f u c=>.ret ⟨.fn f u c,[]⟩
  |_=>.fail
 | .bin op t x y=>(ev x).bind λa=>(ev y).bind λc=>val (lX op t a c)
 | .un op x=>(ev x).bind λa=>val (unP op a)
 | .conv k x=>(ev x).bind λa=>match k,a with
  | .int k,.p (.i _ n)=>.ret ⟨.p (.i k (k.wrap n)),[]⟩
  | .same,.p (.s l)=>.ret ⟨.p (.s l),[]⟩
  | .toStr,a=>(eH 1 a).bind λrows=>match rZ rows with|some l=>.ret ⟨.p (.s l),[]⟩|none=>.fail
  | .toBytes own,.p (.s l)=>if own then .ret ⟨.slr new 0 l.length,[(new,.arr true 1 (l.map lE))]⟩else .ret ⟨.p (.sl 1 (l.map lE)),[]⟩
  |_,_=>.fail
 | .mkslice own esz bytes zero l c=>(ev l).bind λa=>(ev c).bind λd=>match a,d with
  | .p (.i _ n),.p (.i _ m)=>
   if 0<=n/\n<=m/\bytes*m<=281474976710656/\m<=281474976710656 then
    if own then .ret ⟨.slr new 0 n.toNat,[(new,.arr true esz (List.replicate n.toNat zero))]⟩
    else .ret ⟨.p (.sl esz (List.replicate n.toNat zero)),[]⟩
   else .fail
  |_,_=>.fail
 | .slice k x lo hi mx=>(ev x).bind λa=>(evo lo).bind λlo=>(evo hi).bind λhi=>(evo mx).bind λmx=>
  match a with
  | .slr b i n=>(fz (.slr b i n)).bind λy=>match y.1 with
   |[c]=>match jF k (.p c) lo hi mx with|some v=>.ret ⟨v,y.2⟩|none=>.fail
   |_=>.fail
  |a=>val (jF k a lo hi mx)
 | .faddr off x=>(ev x).bind λa=>val (GQ off a)
 | .field agg off size x=>(ev x).bind λa=>val (qA agg off size a)
 | .iaddr esz x i=>(ev x).bind λa=>(ev i).bind λc=>kY esz a c
 | .aaddr len esz x i=>(ev x).bind λa=>(ev i).bind λc=>val (GO len esz a c)
 | .sidx x i=>(ev x).bind λa=>(ev i).bind λc=>match a,c with
  | .p (.s l),.p (.i _ n)=>if 0<=n then
    match l[n.toNat]? with
    |some u=>.ret ⟨.p (.i .u8 u.toNat),[]⟩
    |none=>.fail
   else .fail
  |_,_=>.fail
 | .aidx agg len esz x i=>(ev x).bind λa=>(ev i).bind λc=>match c with| .p (.i _ n)=>if 0<=n/\n<len then val (qA agg (n.toNat*esz) esz a)else .fail|_=>.fail
 | .extr x i=>(ev x).bind λa=>val (LJ i a)
 | .call f args k=>(evs args).bind λvs=>gV F f vs k new
 | .callv g args k=>(ev g).bind fun
  | .fn f first caps=>(evs args).bind λvs=>gV F f (first++vs++caps) k new
  |_=>.fail
 | .len str x=>(ev x).bind λa=>val (FG str a)
 | .alen n=>.ret ⟨.p (.i .i64 n),[]⟩
 | .appn esz bytes _ y=>(ev y).bind λc=>(eH esz c).bind λrows=>
  if iF rows.length bytes then .ret ⟨.slr new 0 rows.length,[(new,.arr true esz rows)]⟩else .fail
 | .app esz bytes _ x y=>(ev x).bind λa=>(ev y).bind λc=>hC esz bytes a c
 | .appz esz bytes zero x y=>(ev x).bind λa=>(ev y).bind λc=>match zrs esz zero c with|some h=>hC esz bytes a h|none=>.fail
 | .appc esz bytes _ x y=>(ev x).bind λa=>(ev y).bind λc=>EX esz bytes a c new
 | .ppre _ x hi=>(ev x).bind λa=>(ev hi).bind λc=>rD a c
 | .psuf esz x lo=>(ev x).bind λa=>(ev lo).bind λc=>rJ esz a c
 | .appp esz bytes _ x y=>(ev x).bind λa=>(ev y).bind λc=>rK esz bytes a c
 | .mm mx x y=>(ev x).bind λa=>(ev y).bind λc=>val (mmP mx a c)
 | .mkfn f first caps=>(evs first).bind λa=>(evs caps).bind λc=>.ret ⟨.fn f a c,[]⟩
 | .newboxo zero os=>.ret ⟨.ptr (new+os.length) 0,gH os new++[(new+os.length,.box (kT os new (zero.map .p)))]⟩
 | .buildo zero parts os=>(jE parts).bind λl=>match oG l (kT os new (zero.map .p))with
  |some cs=>match jI true cs with|some v=>.ret ⟨v,gH os new⟩|none=>.fail
  |none=>.fail
 | .storen esz x=>(ev x).bind λa=>(gX 1 a (.slr new 0 0)).bind λe=>.ret ⟨e.val,(new,.arr true esz [])::e.ws⟩
 | .callo f keep args k=>(evs args).bind λvs=>(eW keep vs).bind λa=>fD F f a k new
def jT:AOp->Nat| .newbox _| .box _ _| .mkarr _ _| .appn _ _ _ _| .appc _ _ _ _ _=>1| .lits own _ _ _ _=>if own then 1 else 0| .mkslice own _ _ _ _ _=>if own then 1 else 0| .conv (.toBytes own) _=>if own then 1 else 0| .call _ _ k| .callv _ _ k| .callo _ _ _ k=>k| .newboxo _ os=>os.length+1| .buildo _ _ os=>os.length| .storen _ _=>1|_=>0
def rN(new:Nat):Nat->RM Unit
 |0=>.ret ()
 |k+1=>.blk new fun
  | .dead=>rN (new+1) k
  |_=>.fail
def opD(F:Orc)(op:AOp)(new:Nat):RM Eff:=(rN new (jT op)).bind λ_=>opR F op new
def bW(F:Orc)(i:bS)(new:Nat):RM Eff:=
 match i.g with
 |none=>opD F i.op new
 |some (g,e)=>.slot g fun
  | .p (.b x)=>if x=e then opD F i.op new else .ret ⟨fX,[]⟩
  | .tup []=>.ret ⟨fX,[]⟩
  |_=>.fail
def put(d:Option Nat)(e:Eff)(s:St):St:=
 match d with
 |some d=>⟨(d,e.val)::s.env,upd e.ws s.sto⟩
 |none=>⟨s.env,upd e.ws s.sto⟩
def fM(F:Orc):List bS->Nat->St->Option St|[],_,s=>some s|i::r,new,s=>match(bW F i new).run s with|some e=>fM F r (new+jT i.op) (put i.dst e s)|none=>none
def iM:List Loc->List Nat|[]=>[]| .blk b::r=>b::iM r|_::r=>iM r
abbrev Log:=List (List Nat×List Nat)
def iK(F:Orc):List bS->Nat->St->Log->Option (St×Log)|[],_,s,l=>some (s,l)|i::r,new,s,l=>match(bW F i new).run s with|some e=>iK F r (new+jT i.op) (put i.dst e s) (l++[(iM ((bW F i new).reads s),e.ws.map (·.1))])|none=>none
def fR(a b:List Nat):Bool:=a.all λx=> !(b.contains x)
def CL(l:Log):List (Nat×Nat)->Bool
 |[]=>true
 |(i,j)::r=>(match l[i]?,l[j]? with
  |some a,some b=>fR a.2 b.1&&fR a.2 b.2&&fR a.1 b.2
  |_,_=>false)&&CL l r
def news:List bS->Nat|[]=>0|i::r=>jT i.op+news r
def room(n:Nat)(sto:List Blk):List Blk:=if n=0 then sto else sto++List.replicate n .dead
def region(F:Orc)(pairs:List (Nat×Nat))(ins:List bS)(s:St):Option St:=
 match pairs with
 |[]=>fM F ins s.sto.length ⟨s.env,room (news ins) s.sto⟩
 |_::_=>match iK F ins s.sto.length ⟨s.env,room (news ins) s.sto⟩ []with|some (s',l)=>if CL l pairs then some s' else none|none=>none
def restr:List Nat->List (Nat×AV)->List (Nat×AV)|[],_=>[]|k::r,env=>match lk k env with|some v=>(k,v)::restr r env|none=>restr r env
def eE(b:Nat):List Nat->Nat->Option Nat|[],_=>none|x::r,k=>if x=b then some k else eE b r (k+1)
def fin(m:Nat)(ids:List Nat)(sto:List Blk):AV->Option AV
 | .p c=>some (.p c)
 | .data cs=>some (.data cs)
 | .cp cs o=>some (.cp cs o)
 | .unk=>some .unk
 | .ptr b off=>if b<m then some (.ptr b off)else(eE b ids m).map λk=>.ptr k off
 | .slr b i n=>if b<m then some (.slr b i n)else
  match eE b ids m with
  |some k=>some (.slr k i n)
  |none=>match sto[b]? with|some (.arr _ esz rows)=>if i+n=rows.length then some (.p (.sl esz (rows.drop i)))else none|_=>none
 | .ep b e i off=>if b<m then some (.ep b e i off)else(eE b ids m).map λk=>.ep k e i off
 | .fn f first caps=>match finL m ids sto first,finL m ids sto caps with|some a,some c=>some (.fn f a c)|_,_=>none
 | .agg cs=>match finL m ids sto cs with
  |some l=>match unp l with|some q=>some (.data q)|none=>some (.agg l)
  |none=>none
 | .tup cs=>match finL m ids sto cs with|some l=>some (.tup l)|none=>none
 | .pre _ _ _=>none
where
 finL (m:Nat) (ids:List Nat) (sto:List Blk):List AV->Option (List AV)
  |[]=>some []
  |x::r=>match fin m ids sto x,finL m ids sto r with
   |some y,some l=>some (y::l)
   |_,_=>none
def fH(m:Nat)(ids:List Nat)(sto:List Blk):Blk->Option Blk
 | .dead=>some .dead
 | .box cs=>match fin.finL m ids sto cs with|some l=>some (.box l)|none=>none
 | .arr w esz rows=>some (.arr w esz rows)
def pQ(m:Nat)(ids:List Nat)(sto:List Blk):List Blk->Option (List Blk)|[]=>some []|x::r=>match fH m ids sto x,pQ m ids sto r with|some y,some l=>some (y::l)|_,_=>none
def tH(m:Nat)(sto:List Blk):List (Nat×AV)->Option (List (Nat×AV))|[]=>some []|(k,x)::r=>match fin m [] sto x,tH m sto r with|some y,some l=>some ((k,y)::l)|_,_=>none
def clean(n:Nat)(live:List Nat)(s:St):Option St:=
 if s.sto.length=n then some ⟨restr live s.env,s.sto⟩
 else match tH n s.sto (restr live s.env),pQ n [] s.sto (s.sto.take n)with|some e,some l=>some ⟨e,l⟩|_,_=>none
def lW:List tJ->RM (List AV)|[]=>.ret []| .tmp t::r=>(RM.slot t .ret).bind λv=>(lW r).bind λl=>.ret (v::l)| .cell t agg size::r=>(RM.slot t .ret).bind λv=>(fW agg size v).bind λe=>(lW r).bind λl=>.ret (e.val::l)
def iN(m:Nat)(fresh:Bool)(sto:List Blk):List Ent->List Nat
 |[]=>[]
 | .whole b::r=>if b<m then iN m fresh sto r else
  match sto[b]? with
  |some (.box _)=>b::iN m fresh sto r
  |some (.arr _ _ _)=>if fresh then b::iN m fresh sto r else iN m fresh sto r
  |_=>iN m fresh sto r
 |_::r=>iN m fresh sto r
def pT(sto:List Blk):List Ent->List Ent->List Ent
 |[],acc=>acc
 | .whole b::r,acc=>match sto[b]? with|some (.box cs)=>pT sto r (cF.entsOfL cs acc)|_=>pT sto r acc
 |_::r,acc=>pT sto r acc
def tU(sto:List Blk):List Nat->Option (List Blk)|[]=>some []|b::r=>match sto[b]?,tU sto r with|some x,some l=>some (x::l)|_,_=>none
def one:List AV->AV|[x]=>x|l=>.tup l
def gK(fn:AFn)(m:Nat)(s:St):Option Res:=
 match(lW fn.res).run s with
 |none=>none
 |some vs=>
  if s.sto.length=m then some (one vs,s.sto)
  else
   match iN m fn.fresh s.sto (pT s.sto (cF.entsOfL vs []) (cF.entsOfL vs []))with
   |ids=>if iJ ids then
    match fin.finL m ids s.sto vs,pQ m ids s.sto (s.sto.take m),tU s.sto ids with
    |some ws,some l,some q=>match pQ m ids s.sto q with|some q'=>some (one ws,l++q')|none=>none
    |_,_,_=>none
    else none
def iC:Nat->List AV->List (Nat×AV)|_,[]=>[]|k,x::r=>(k,x)::iC (k+1) r
structure nO where
 np:Nat
 nt:Nat
 p0:bZ
 live:List Nat
 pre:bZ
 c:Opd
 a:bZ
 b:bZ
 rest:bZ
 res:List tJ
 fresh:Bool
def nO.af(k:nO):AFn:=⟨k.np,k.nt,.seq k.p0 (.br k.live k.pre k.c k.a k.b k.rest),k.res,k.fresh⟩
def wL(f:AFn)(m:Nat)(o:Option Out):Option Res:=
 match o with
 |some (.normal,s)=>gK f m s
 |some (.ret,s)=>gK f m s
 |_=>none
open Classical in
noncomputable def GE(a b:Option Res):Option Res:=
 match a,b with
 |some r,some r'=>if r=r' then some r else none
 |_,_=>none
def thn(o:Option Out)(k:St->Option Out):Option Out:=
 match o with
 |some (.normal,s)=>k s
 |o=>o
noncomputable def BO(R:bZ->St->Option Out)(k:nO)(args:List AV)(blks:List Blk):Option Res:=
 match R k.p0 ⟨iC 0 args,blks⟩with
 |some (.normal,s0)=>match R k.pre s0 with
  |some (.normal,s1)=>match(ev k.c).run s1 with|some (.p (.b x))=>if x=true then wL k.af blks.length (thn (R k.a s1) λs=>R k.rest s)else wL k.af blks.length (thn (R k.b s1) λs=>R k.rest s)|some .unk=>GE (wL k.af blks.length (thn (R k.a s1) λs=>R k.rest s)) (wL k.af blks.length (thn (R k.b s1) λs=>R k.rest s))|_=>none
  |_=>none
 |_=>none
inductive i5 where|fn (f:AFn)|prim (g:List AV->List Blk->Option Res)|fork (k:nO)
abbrev dP:=FuncId->Option i5
noncomputable def pU(T:dP)(R:bZ->St->Option Out)(f:FuncId)(args:List AV)(blks:List Blk):Option Res:=
 match T f with
 |none=>none
 |some (.prim g)=>g args blks
 |some (.fork k)=>if args.length=k.np then BO R k args blks else none
 |some (.fn fn)=>
  if args.length=fn.np then
   match R fn.body ⟨iC 0 args,blks⟩with
   |some (.normal,s)=>gK fn blks.length s
   |some (.ret,s)=>gK fn blks.length s
   |_=>none
  else none
open Classical in
noncomputable def same(a b:Option Out):Option Out:=
 match a,b with
 |some r,some r'=>if r=r' then some r else none
 |_,_=>none
def kX(n:Nat)(live:List Nat)(o:Option Out):Option Out:=
 match o with
 |some (e,s)=>match clean n live s with|some s'=>some (e,s')|none=>none
 |none=>none
noncomputable def step(T:dP)(R:bZ->St->Option Out)(c:bZ)(s:St):Option Out:=
 match c with
 | .skip=>some (.normal,s)
 | .bad=>none
 | .reg _ pairs ins=>match region (pU T R) pairs ins s with|some s'=>some (.normal,s')|none=>none
 | .seq a b=>match R a s with|some (.normal,s')=>R b s'|o=>o
 | .cond c a b=>match(ev c).run s with|some (.p (.b x))=>if x=true then R a s else R b s|some .unk=>same (R a s) (R b s)|_=>none
 | .block id c=>match R c s with|some (.exit k,s')=>if k=id then some (.normal,s')else some (.exit k,s')|o=>o
 | .loop live c=>match clean s.sto.length live s with|some s'=>R (.lp s.sto.length live c) s'|none=>none
 | .lp n live c=>match R c s with
  |some (.normal,s')=>(match clean n live s' with
   |some e=>R (.lp n live c) e
   |none=>none)
  |o=>o
 | .scope c=>R c s
 | .exit id=>some (.exit id,s)
 | .ret=>some (.ret,s)
 | .keep live c=>R c ⟨restr live s.env,s.sto⟩
 | .tidy live c=>kX s.sto.length live (R c s)
 | .br live pre c a b rest=>match R pre s with
  |some (.normal,s1)=>(match(ev c).run s1 with
   |some (.p (.b x))=>if x=true then thn (R a s1) λs=>R rest s else thn (R b s1) λs=>R rest s
   |some .unk=>same (kX s1.sto.length live (thn (R a s1) λs=>R rest s)) (kX s1.sto.length live (thn (R b s1) λs=>R rest s))
   |_=>none)
  |_=>none
end Go.Am
end
section
namespace Go.Am
def eV{α:Type}(a b:Option α):Prop:=a=none\/a=b
theorem cL{α:Type}(a:Option α):eV a a:=.inr rfl
theorem run_bind{α β:Type}(m:RM α)(f:α->RM β)(s:St):(m.bind f).run s=(m.run s).bind λa=>(f a).run s:=by
 induction m with
 |ret a=>rfl
 |slot n k ih=>grind [RM.bind,RM.run]
 |blk b k ih=>grind [RM.bind,RM.run]
 |fail=>rfl
theorem lI{α β:Type}{m:RM α}{f e:α->RM β}{s:St}(h: ∀a,eV ((f a).run s) ((e a).run s)):eV ((m.bind f).run s) ((m.bind e).run s):=by
 rw[run_bind,run_bind];cases m.run s with
 |none=>exact .inl rfl
 |some a=>exact h a
variable {F F':Orc} (h: ∀f a b,eV (F f a b) (F' f a b))
include h in
theorem qx(f:FuncId)(args:List AV)(k new:Nat)(s:St):eV ((gV F f args k new).run s) ((gV F' f args k new).run s):=by
 unfold gV;refine lI λa=>lI λg=>lI λes=>?_;split;split;simp[cL];refine lI λblks=>?_;rcases h f ‹_› blks with e|e;rw[e];exact .inl rfl;grind [cL];simp[cL]
include h in
theorem Ik(f:FuncId)(a:List AV×List (Nat×Blk))(k new:Nat)(s:St):eV ((fD F f a k new).run s) ((fD F' f a k new).run s):=by
 unfold fD;refine lI λg=>lI λes=>?_;split;split;simp[cL];refine lI λblks=>?_;rcases h f ‹_› blks with e|e;rw[e];exact .inl rfl;grind [cL];simp[cL]
include h in
theorem JDl(op:AOp)(new:Nat)(s:St):eV ((opR F op new).run s) ((opR F' op new).run s):=by
 cases op<;>try exact cL _
 case call f args k=>exact lI λvs=>qx h ..
 case callo f keep args k=>exact lI λvs=>lI λa=>Ik h ..
 case callv g args k=>
  refine lI λg=>?_;grind [cL,lI,qx]
include h in
theorem JDo(op:AOp)(new:Nat)(s:St):eV ((opD F op new).run s) ((opD F' op new).run s):=
 lI λ_=>JDl h ..
include h in
theorem qc(i:bS)(new:Nat)(s:St):eV ((bW F i new).run s) ((bW F' i new).run s):=by
 unfold bW;split
 all_goals grind [JDo,RM.run,cL]
theorem vD{α β:Type}(m:RM α)(f:α->RM β)(s:St):(m.bind f).reads s=m.reads s++((m.run s).map λa=>(f a).reads s).getD []:=by
 induction m with
 |ret a=>simp[RM.bind,RM.reads,RM.run]
 |slot n k ih=>grind [RM.bind,RM.reads,RM.run]
 |blk b k ih=>grind [RM.bind,RM.reads,RM.run]
 |fail=>simp[RM.bind,RM.reads,RM.run]
theorem lO{α β:Type}{m:RM α}{f e:α->RM β}{s:St}(h: ∀a,(f a).run s=none\/(f a).reads s=(e a).reads s):
  ((m.bind f).run s)=none\/(m.bind f).reads s=(m.bind e).reads s:=by
 rw[run_bind,vD,vD];cases m.run s<;>simp_all
include h in
theorem ra(f:FuncId)(args:List AV)(k new:Nat)(s:St):
  (gV F f args k new).run s=none\/(gV F f args k new).reads s=(gV F' f args k new).reads s:=by
 unfold gV;refine lO λa=>lO λg=>lO λes=>?_;split;split;exact .inr rfl;refine lO λblks=>?_;rcases h f ‹_› blks with e|e;rw[e];exact .inl rfl;simp_all;simp_all
include h in
theorem Hr(f:FuncId)(a:List AV×List (Nat×Blk))(k new:Nat)(s:St):
  (fD F f a k new).run s=none\/(fD F f a k new).reads s=(fD F' f a k new).reads s:=by
 unfold fD;refine lO λg=>lO λes=>?_;split;split;exact .inr rfl;refine lO λblks=>?_;rcases h f ‹_› blks with e|e;rw[e];exact .inl rfl;simp_all;simp_all
include h in
theorem JEl(op:AOp)(new:Nat)(s:St):(opR F op new).run s=none\/(opR F op new).reads s=(opR F' op new).reads s:=by
 cases op<;>try exact .inr rfl
 case call f args k=>exact lO λvs=>ra h ..
 case callo f keep args k=>exact lO λvs=>lO λa=>Hr h ..
 case callv g args k=>
  refine lO λg=>?_;grind [lO,ra]
include h in
theorem JDP(op:AOp)(new:Nat)(s:St):(opD F op new).run s=none\/(opD F op new).reads s=(opD F' op new).reads s:=
 lO λ_=>JEl h ..
include h in
theorem JCl(i:bS)(new:Nat)(s:St):(bW F i new).run s=none\/(bW F i new).reads s=(bW F' i new).reads s:=by
 unfold bW;split
 all_goals grind [JDP,RM.run,RM.reads]
include h in
theorem Hz(ins:List bS): ∀new s,eV (fM F ins new s) (fM F' ins new s):=by
 induction ins with
 |nil=>exact λ_ _=>cL _
 |cons i r ih=>
  intro new s;simp only[fM];rcases qc h i new s with e|e;rw[e];exact .inl rfl;grind [cL]
include h in
theorem H0(ins:List bS): ∀new s l,eV (iK F ins new s l) (iK F' ins new s l):=by
 induction ins with
 |nil=>exact λ_ _ _=>cL _
 |cons i r ih=>
  intro new s l;simp only[iK];rcases qc h i new s with e|e;rw[e];exact .inl rfl;grind [JCl,cL]
include h in
theorem Ky(pairs:List (Nat×Nat))(ins:List bS)(s:St):eV (region F pairs ins s) (region F' pairs ins s):=by
 unfold region;split;grind [Hz];rcases H0 h ins s.sto.length ⟨s.env,Go.Am.room (news ins) s.sto⟩ []with e|e;rw[e];exact .inl rfl;grind [cL]
variable {T:dP} {R R':bZ->St->Option Out} (hR: ∀c s,eV (R c s) (R' c s))
include hR in
theorem D9(k:nO)(args:List AV)(blks:List Blk):eV (BO R k args blks) (BO R' k args blks):=by
 have g: ∀x s,eV (wL k.af blks.length (thn (R x s) λs=>R k.rest s)) (wL k.af blks.length (thn (R' x s) λs=>R' k.rest s)):=by
  intro x s;rcases hR x s with e|e;rw[e];exact .inl rfl;rw[e];cases hx:R' x s with
  |none=>exact .inl rfl
  |some o=>
   obtain⟨q,s'⟩:=o;cases q with
   |normal=>
    simp only[thn];rcases hR k.rest s' with e'|e';rw[e'];exact .inl rfl;grind [cL]
   |_=>exact cL _
 unfold BO;rcases hR k.p0 ⟨iC 0 args,blks⟩with e|e;rw[e];exact .inl rfl;rw[e];split;rename_i s0 _;rcases hR k.pre s0 with e|e;rw[e];exact .inl rfl;rw[e];split;split;grind;rename_i s1 _ _ _;rcases g k.a s1 with e|e;rw[e];exact .inl rfl;rcases g k.b s1 with e'|e';rw[e'];unfold GE;exact .inl (by simp_all);grind [cL];simp[cL];simp[cL];simp[cL]
include hR in
theorem Fy(f:FuncId)(a:List AV)(b:List Blk):eV (pU T R f a b) (pU T R' f a b):=by
 unfold pU;split;simp[cL];simp[cL];grind [D9,cL];split;rcases hR ‹AFn›.body ⟨iC 0 a,b⟩with e|e;rw[e];exact .inl rfl;grind [cL];simp[cL]
include hR in
theorem dw(c:bZ)(s:St):eV (step T R c s) (step T R' c s):=by
 cases c with
 |bad=>exact .inl rfl
 |skip=>exact cL _
 |reg d pairs ins=>
  simp only[step];rcases Ky (Fy (T:=T) hR) pairs ins s with e|e;rw[e];exact .inl rfl;grind [cL]
 |seq a b=>
  simp only[step];rcases hR a s with e|e;rw[e];exact .inl rfl;grind
 |cond c a b=>
  simp only[step];split;grind;rcases hR a s with e|e;rw[e];exact .inl rfl;rcases hR b s with e'|e';rw[e'];unfold same;exact .inl (by simp_all);grind [cL];simp[cL]
 |block id c=>
  simp only[step];rcases hR c s with e|e;rw[e];exact .inl rfl;grind [cL]
 |loop live c=>
  grind [step,cL]
 |lp n live c=>
  simp only[step];rcases hR c s with e|e;rw[e];exact .inl rfl;grind [cL]
 |scope c=>exact hR _ _
 |exit id=>exact cL _
 |ret=>exact cL _
 |keep live c=>exact hR _ _
 |tidy live c=>
  simp only[step];rcases hR c s with e|e;rw[e];exact .inl rfl;grind [cL]
 |br live pre c a b rest=>
  have g: ∀x s,eV (thn (R x s) λs=>R rest s) (thn (R' x s) λs=>R' rest s):=(by intro x s;rcases hR x s with e|e;rw[e];exact .inl rfl;rw[e];unfold thn;grind);simp only[step];rcases hR pre s with e|e;rw[e];exact .inl rfl;rw[e];split;split;grind;rename_i s1 _ _ _;rcases g a s1 with e|e;rw[e];exact .inl rfl;rcases g b s1 with e'|e';rw[e'];unfold same;exact .inl (by simp[kX]);grind [cL];simp[cL];simp[cL]
def zk(T:dP)(M:bZ->St->Out->Prop):Prop:= ∀R:bZ->St->Option Out,(∀c s r,R c s=some r->M c s r)-> ∀c s r,step T R c s=some r->M c s r
def Den(T:dP)(c:bZ)(s:St)(r:Out):Prop:= ∀M,zk T M->M c s r
theorem YY(T:dP):zk T (Den T):=λR hR c s r h M e=>e R (λc s r h=>hR c s r h M e) c s r h
theorem Cl{T:dP}{c:bZ}{s:St}{r:Out}(h:Den T c s r): ∃R:bZ->St->Option Out,(∀c s r,R c s=some r->Den T c s r)/\step T R c s=some r:=
 h (λc s r=> ∃R:bZ->St->Option Out,(∀c s r,R c s=some r->Den T c s r)/\step T R c s=some r) λR hR c s r e=>
  ⟨R,λc s r h=>let⟨R',h1,h2⟩:=hR c s r h;YY T R' h1 c s r h2,e⟩
theorem JHR{T:dP}{c:bZ}{s:St}{r:Out}(h:Den T c s r): ∀r',Den T c s r'->r'=r:=by
 have j:Den T c s r/\ ∀r',Den T c s r'->r'=r:=h (λc s r=>Den T c s r/\ ∀r',Den T c s r'->r'=r) λR hR c s r k=>by
  refine⟨YY T R (λc s r h=>(hR c s r h).1) c s r k,λr' n=>?_⟩;obtain⟨R',o,hs'⟩:=Cl n;have b1: ∀c s,eV (R c s) ((R c s).or (R' c s)):=λc s=>by cases hc:R c s<;>simp[eV]
  have b2: ∀c s,eV (R' c s) ((R c s).or (R' c s)):=λc s=>by
   cases hc:R c s with
   |none=>simp[eV]
   |some a=>cases hc':R' c s<;>grind [eV]
  have e:=dw (T:=T) b1 c s;have g:=dw (T:=T) b2 c s;rw[k]at e;rw[hs']at g;rcases e with e|e;cases e
  ·rcases g with g|g
   all_goals grind
 exact j.2
open Classical in
noncomputable def X(T:dP)(c:bZ)(s:St):Option Out:=if h: ∃r,Den T c s r then some h.choose else none
theorem GU{T:dP}{c:bZ}{s:St}{r:Out}:X T c s=some r↔Den T c s r:=by
 unfold X;constructor
 ·intro h;split at h
  all_goals grind
 intro h;rw[dif_pos ⟨r,h⟩];grind [JHR]
theorem JLP(T:dP)(motive:bZ->St->Out->Prop)
  (h: ∀R:bZ->St->Option Out,(∀c s r,R c s=some r->motive c s r)-> ∀c s r,step T R c s=some r->motive c s r): ∀c s r,X T c s=some r->motive c s r:=
 λc s r e=>GU.1 e motive h
theorem kU(T:dP)(c:bZ)(s:St):X T c s=step T (X T) c s:=by
 have one: ∀r,step T (X T) c s=some r->X T c s=some r:=λr h=>GU.2 (YY T (X T) (λc s r h=>GU.1 h) c s r h);cases hs:step T (X T) c s with
 |some r=>exact one r hs
 |none=>
  cases hx:X T c s with
  |none=>rfl
  |some r=>
   obtain⟨R,hR,h⟩:=Cl (GU.1 hx);have:=dw (T:=T) (R:=R) (R':=X T) (λc s=>by
    cases hc:R c s with
    |none=>exact .inl rfl
    |some a=>right;grind [GU]) c s
   rw[h,hs]at this;rcases this with e|e<;>cases e
noncomputable def AF(T:dP):Orc:=pU T (X T)
end Go.Am
end
section
namespace Go.Am
structure Gh where
 μ:Nat->Option (Nat×Nat)
 C:Nat->Nat->Prop
def cellAt(w:World)(r o:Nat):Option Value:=
 match w.heap[r]? with
 |some (.cells c _ _)=>c[o]?
 |_=>none
theorem oK(w:World)(r o:Nat):w.cell? ⟨r,o,none⟩=cellAt w r o:=by
 grind [World.cell?,cellAt]
theorem iR{w:World}{r o:Nat}{c e fz}(h:w.heap[r]?=some (.cells c e fz)):cellAt w r o=c[o]?:=by
 grind [cellAt]
inductive J0g(w:World)(C:Nat->Nat->Prop):PV->Value->Prop where
 |b (x:Bool):J0g w C (.b x) (.bool x)
 |i (k:IntKind) (n:Int):J0g w C (.i k n) (.int k n)
 |s (l:List UInt8):J0g w C (.s l) (.string ⟨l.toArray⟩)
 |np:J0g w C .np (.pointer none)
 |nf:J0g w C .nf .nilFunc
 |sl0 (esz:Nat) (a:Option Addr) (cap:Nat):J0g w C (.sl esz []) (.slice a 0 cap)
 |sl (esz:Nat) (rows:List (List PV)) (r o cap:Nat) (vals:Nat->Nat->Value):
  rows.length<=cap->(∀row∈rows,row.length=esz)->
  (∀(i j:Nat) row x,rows[i]?=some row->row[j]?=some x->C r (o+i*esz+j)/\cellAt w r (o+i*esz+j)=some (vals i j))->
  (∀(i j:Nat) row x,rows[i]?=some row->row[j]?=some x->J0g w C x (vals i j))->
  J0g w C (.sl esz rows) (.slice (some ⟨r,o,none⟩) rows.length cap)
 |slc (esz:Nat) (rows:List (List PV)) (a:Option Addr):J0g w C (.sl esz rows) (.slice a rows.length rows.length)->J0g w C (.slc esz rows) (.slice a rows.length rows.length)
structure Sn where
 σ:List Blk
 g:Gh
 w:World
def LI(σ:List Blk)(b:Nat):Prop:= ∃cs,σ[b]?=some (.box cs)
def JLK(s:Sn)(b esz i n:Nat)(v:Value):Prop:=(s.g.μ b=none/\i=0/\n=0/\v=.slice none 0 0)\/ ∃r cap c e fz,s.g.μ b=some (r,0)/\v=.slice (some ⟨r,i*esz,none⟩) n cap/\n<=cap/\s.w.heap[r]?=some (.cells c e fz)/\(i+cap)*esz<=c.size
inductive JD(s:Sn):AV->Value->Prop where
 |p (c v):J0g s.w s.g.C c v->JD s (.p c) v
 |data (cs:List PV) (vs:Array Value):cs.length=vs.size->(∀(i:Nat) x v,cs[i]?=some x->vs[i]?=some v->J0g s.w s.g.C x v)->JD s (.data cs) (.agg vs)
 |agg (cs:List AV) (vs:Array Value):cs.length=vs.size->(∀(i:Nat) v,vs[i]?=some v->v.oneCell'=true)->(∀(i:Nat) x v,cs[i]?=some x->vs[i]?=some v->JD s x v)->JD s (.agg cs) (.agg vs)
 |tup (cs:List AV) (vs:Array Value):cs.length=vs.size->(∀(i:Nat) x v,cs[i]?=some x->vs[i]?=some v->JD s x v)->JD s (.tup cs) (.tuple vs)
 |ptr (b off r o):s.g.μ b=some (r,o)->LI s.σ b->JD s (.ptr b off) (.pointer (some ⟨r,o+off,none⟩))
 |cp (cs:List PV) (off r o:Nat) (vals:Nat->Value):
  (∀(j:Nat) x,cs[j]?=some x->s.g.C r (o+j)/\cellAt s.w r (o+j)=some (vals j))->
  (∀(j:Nat) x,cs[j]?=some x->J0g s.w s.g.C x (vals j))->JD s (.cp cs off) (.pointer (some ⟨r,o+off,none⟩))
 |slr (b i n v wm esz rows):(∃a cap,v=.slice a n cap/\(n=0\/a≠none))->s.σ[b]?=some (.arr wm esz rows)->i+n<=rows.length->(i+n=rows.length->JLK s b esz i n v)->JD s (.slr b i n) v
 |ep (b ext i off v wm esz rows):(∃r o,v=.pointer (some ⟨r,o,none⟩))->s.σ[b]?=some (.arr wm esz rows)->ext<=rows.length->
  (ext=rows.length->i<ext-> ∃r,s.g.μ b=some (r,0)/\v=.pointer (some ⟨r,i*esz+off,none⟩))->JD s (.ep b ext i off) v
 |pre (b n k v wm esz rows):(∃a cap,v=.slice a k cap)->s.σ[b]?=some (.arr wm esz rows)->n<=rows.length->k<=n->
  (n=rows.length->(n=0/\v=.slice none 0 0)\/ ∃r cap c e fz,s.g.μ b=some (r,0)/\v=.slice (some ⟨r,0,none⟩) k cap/\n<=cap/\s.w.heap[r]?=some (.cells c e fz)/\cap*esz<=c.size)->JD s (.pre b n k) v
 |fn (f:FuncId) (first caps:List AV) (fs cs:Array Value):first.length=fs.size->caps.length=cs.size->
  (∀(i:Nat) x v,first[i]?=some x->fs[i]?=some v->JD s x v)->(∀(i:Nat) x v,caps[i]?=some x->cs[i]?=some v->JD s x v)->
  JD s (.fn f first caps) (.func (.func f) fs cs)
 |unk (x:Bool):JD s .unk (.bool x)
def Wr1(s:Sn)(b r o:Nat):Prop:=
 match s.σ[b]? with
 |some (.box cs)=> ∃e,s.g.μ b=some (r,e)/\e<=o/\o<e+cs.length
 |some (.arr true _ _)=> ∃e,s.g.μ b=some (r,e)
 |some (.arr false esz rows)=> ∃e,s.g.μ b=some (r,e)/\rows.length*esz<=o
 |_=>False
def Wr(s:Sn)(r o:Nat):Prop:= ∃b,Wr1 s b r o
def AW(fz:Nat×Nat)(a b:Nat):Prop:= ∀o,a<=o->o<b-> ¬(fz.1<=o/\o<fz.2)
def tY(esz:Nat)(fz:Nat×Nat)(n:Nat):Prop:=AW fz 0 n/\(esz≠1-> ¬(fz.1<=n/\n<fz.2))
theorem tY.zero(esz n:Nat):tY esz (0,0) n:=⟨λ_ _ _ h=>by simp at h,λ_ h=>by simp at h⟩
def MC(s:Sn)(b:Nat)(cs:List AV):Prop:= ∃r o c e fz,s.g.μ b=some (r,o)/\s.w.heap[r]?=some (.cells c e fz)/\o+cs.length<=c.size/\(∀(i:Nat) x,cs[i]?=some x-> ∃v,c[o+i]?=some v/\JD s x v/\v.oneCell'=true)/\AW fz o (o+cs.length)
def LR(s:Sn)(b:Nat)(wm:Bool)(esz:Nat)(rows:List (List PV)):Prop:=(s.g.μ b=none/\rows=[])\/ ∃r c e fz,s.g.μ b=some (r,0)/\s.w.heap[r]?=some (.cells c e fz)/\(∀row∈rows,row.length=esz)/\rows.length*esz<=c.size/\(∀(i j:Nat) row x,rows[i]?=some row->row[j]?=some x->(∃v,c[i*esz+j]?=some v/\J0g s.w s.g.C x v)/\(wm=false->s.g.C r (i*esz+j)))/\tY esz fz c.size
structure Inv(s:Sn):Prop where
 box: ∀b cs,s.σ[b]?=some (.box cs)->MC s b cs
 arr: ∀b wm esz rows,s.σ[b]?=some (.arr wm esz rows)->LR s b wm esz rows
 apart: ∀b1 b2 r o,Wr1 s b1 r o->Wr1 s b2 r o->b1=b2
 const: ∀r o,s.g.C r o->r<s.w.heap.size/\ ∀b,¬Wr1 s b r o
def nS(W:Nat->Nat->Prop)(w0 w:World):Prop:=w0.heap.size<=w.heap.size/\(∀(r:Nat) c e fz,w0.heap[r]?=some (.cells c e fz)-> ∃c',w.heap[r]?=some (.cells c' e fz)/\c'.size=c.size/\ ∀o,¬W r o->c'[o]?=c[o]?)/\(∀(r:Nat) x,w0.heap[r]?=some x->(∀c e fz,x≠.cells c e fz)->w.heap[r]?=some x)/\w.os=w0.os/\w.output=w0.output
structure aW(s0 s:Sn):Prop where
 keep:nS (Wr s0) s0.w s.w
 cmono: ∀r o,s0.g.C r o->s.g.C r o
 cnew: ∀r o,s.g.C r o->s0.g.C r o\/Wr s0 r o\/s0.w.heap.size<=r
 wnew: ∀r o,Wr s r o->Wr s0 r o\/s0.w.heap.size<=r
 len:s0.σ.length<=s.σ.length
 box: ∀b cs,s0.σ[b]?=some (.box cs)->(∃cs',s.σ[b]?=some (.box cs')/\cs'.length=cs.length)/\s.g.μ b=s0.g.μ b
 arr: ∀b wm esz rows,s0.σ[b]?=some (.arr wm esz rows)-> ∃wm' rows',s.σ[b]?=some (.arr wm' esz rows')/\(wm'=true->wm=true)/\
  rows.length<=rows'.length/\(rows'.length=rows.length->s.g.μ b=s0.g.μ b)
theorem nS.refl(W w):nS W w w:=⟨zQ0 _,λ_ c _ _ h=>⟨c,h,rfl,λ_ _=>rfl⟩,λ_ _ h _=>h,rfl,rfl⟩
theorem nS.mono{W W':Nat->Nat->Prop}{w0 w}(h:nS W w0 w)(hw: ∀r o,W r o->W' r o):nS W' w0 w:=
 ⟨h.1,λr c e fz j=>let⟨c',a,b,d⟩:=h.2.1 r c e fz j;⟨c',a,b,λo g=>d o λx=>g (hw _ _ x)⟩,h.2.2⟩
theorem nS.cell{W w0 w}(h:nS W w0 w){r o v}(hn: ¬W r o)(hv:cellAt w0 r o=some v):cellAt w r o=some v:=by
 unfold cellAt at hv;split at hv;rename_i c e fz g;obtain⟨c',h1,_,j⟩:=h.2.1 r c e fz g;grind [iR];cases hv
theorem aW.refl(s:Sn):aW s s:=
 ⟨.refl _ _,λ_ _ h=>h,λ_ _ h=>.inl h,λ_ _ h=>.inl h,zQ0 _,λ_ cs h=>⟨⟨cs,h,rfl⟩,rfl⟩,
  λ_ wm _ rows h=>⟨wm,rows,h,id,zQ0 _,λ_=>rfl⟩⟩
theorem CV{w:World}{r:Nat}{x:Obj}(h:w.heap[r]?=some x):r<w.heap.size:=by
 grind
theorem aW.trans{s0 s1 D:Sn}(h:aW s0 s1)(g:aW s1 D):aW s0 D where
 keep:=by
  refine⟨zQ1 h.keep.1 g.keep.1,λr c e fz B=>?_,λr x B F=>g.keep.2.2.1 r x (h.keep.2.2.1 r x B F) F,g.keep.2.2.2.1.trans h.keep.2.2.2.1,g.keep.2.2.2.2.trans h.keep.2.2.2.2⟩;obtain⟨k,n,b1,A⟩:=h.keep.2.1 r c e fz B;obtain⟨v,y,b2,z⟩:=g.keep.2.1 r k e fz n;refine⟨v,y,b2.trans b1,λo I=>(z o λj=>?_).trans (A o I)⟩;rcases h.wnew r o j with j|j
  all_goals simp_all
 cmono r o q:=g.cmono r o (h.cmono r o q)
 cnew r o q:=by
  rcases g.cnew r o q with q|j|w;exact h.cnew r o q
  ·rcases h.wnew r o j with j|w
   all_goals simp_all
  exact .inr (.inr (zQ1 h.keep.1 w))
 wnew r o j:=by
  rcases g.wnew r o j with j|w;exact h.wnew r o j;exact .inr (zQ1 h.keep.1 w)
 len:=zQ1 h.len g.len
 box b cs hb:=by obtain⟨⟨k,n,J⟩,M⟩:=h.box b cs hb;obtain⟨⟨v,y,K⟩,L⟩:=g.box b k n;simp_all
 arr b wm esz rows hb:=by obtain⟨C,G,n,b1,k,A⟩:=h.arr b wm esz rows hb;obtain⟨E,H,y,b2,v,z⟩:=g.arr b C esz G n;exact⟨E,H,y,λe=>b1 (b2 e),zQ1 k v,λe=>(z (by omega)).trans (A (by omega))⟩
theorem Inv.cfix{s0 s:Sn}(hi:Inv s0)(t:aW s0 s){r o v}(hc:s0.g.C r o)(hv:cellAt s0.w r o=some v):cellAt s.w r o=some v:=
 t.keep.cell (fun⟨b,e⟩=>(hi.const r o hc).2 b e) hv
theorem J0g.mono{s0 s:Sn}(hi:Inv s0)(t:aW s0 s){x v}(h:J0g s0.w s0.g.C x v):J0g s.w s.g.C x v:=by
 induction h with
 |b x=>exact .b x
 |i k n=>exact .i k n
 |s l=>exact .s l
 |np=>exact .np
 |nf=>exact .nf
 |sl0 esz a cap=>exact .sl0 esz a cap
 |sl esz rows r o cap vals h1 h2 q _ ih=>exact .sl esz rows r o cap vals h1 h2 (λi j row x e y=>⟨t.cmono _ _ (q i j row x e y).1,hi.cfix t (q i j row x e y).1 (q i j row x e y).2⟩) ih
 |slc esz rows a _ ih=>exact .slc esz rows a ih
theorem LI.mono{s0 s:Sn}(t:aW s0 s){b}(h:LI s0.σ b):LI s.σ b:=by obtain⟨cs,h⟩:=h;obtain⟨⟨cs',e,_⟩,_⟩:=t.box b cs h;exact⟨cs',e⟩
theorem JD.mono{s0 s:Sn}(hi:Inv s0)(t:aW s0 s){x v}(h:JD s0 x v):JD s x v:=by
 induction h with
 |p c v h=>exact .p c v (h.mono hi t)
 |data cs vs h1 h2=>exact .data cs vs h1 λi x v w y=>(h2 i x v w y).mono hi t
 |agg cs vs h1 h2 _ ih=>exact .agg cs vs h1 h2 ih
 |tup cs vs h1 _ ih=>exact .tup cs vs h1 ih
 |ptr b off r o h1 h2=>obtain⟨cs,q⟩:=h2;exact .ptr b off r o ((t.box b cs q).2.trans h1) (.mono t ⟨cs,q⟩)
 |cp cs off r o vals h1 h2=>exact .cp cs off r o vals (λj x w=>⟨t.cmono _ _ (h1 j x w).1,hi.cfix t (h1 j x w).1 (h1 j x w).2⟩) λj x w=>(h2 j x w).mono hi t
 |slr b i n v wm esz rows z h1 h2 q=>
  obtain⟨wm',rows',a,_,c,d⟩:=t.arr b wm esz rows h1;refine .slr b i n v wm' esz rows' z a (zQ1 h2 c) λe=>?_;have B:rows'.length=rows.length:=by omega
  rcases q (by omega)with⟨m,H,L,y⟩|⟨r,cap,D,A,fz,m,y,g,E,K⟩;exact .inl ⟨(d B).trans m,H,L,y⟩;obtain⟨c',C,I,_⟩:=t.keep.2.1 r D A fz E;exact .inr ⟨r,cap,c',A,fz,(d B).trans m,y,g,C,by omega⟩
 |ep b ext i off v wm esz rows z h1 h2 q=>
  obtain⟨wm',rows',a,_,c,d⟩:=t.arr b wm esz rows h1;refine .ep b ext i off v wm' esz rows' z a (zQ1 h2 c) λe M=>?_;grind
 |pre b n k v wm esz rows z h1 h2 J q=>
  obtain⟨wm',rows',a,_,c,d⟩:=t.arr b wm esz rows h1;refine .pre b n k v wm' esz rows' z a (zQ1 h2 c) J λe=>?_;have B:rows'.length=rows.length:=by omega
  rcases q (by omega)with h|⟨r,cap,D,A,fz,m,y,g,E,K⟩;exact .inl h;obtain⟨c',C,I,_⟩:=t.keep.2.1 r D A fz E;exact .inr ⟨r,cap,c',A,fz,(d B).trans m,y,g,C,by omega⟩
 |fn f first caps fs cs h1 h2 _ _ F G=>exact .fn f first caps fs cs h1 h2 F G
 |unk x=>exact .unk x
theorem mM{s0 s:Sn}(hi:Inv s0)(t:aW s0 s)(D:Nat->Prop)
  (same: ∀b,¬D b->s.σ[b]?=s0.σ[b]?/\s.g.μ b=s0.g.μ b)
  (n: ∀b r o v,¬D b->Wr1 s0 b r o->cellAt s0.w r o=some v->cellAt s.w r o=some v)
  (S: ∀b cs,D b->s.σ[b]?=some (.box cs)->MC s b cs)
  (U: ∀b wm esz rows,D b->s.σ[b]?=some (.arr wm esz rows)->LR s b wm esz rows)
  (Q: ∀b1 b2 r o,D b1->Wr1 s b1 r o->Wr1 s b2 r o->b1=b2)
  (q: ∀r o,s.g.C r o->r<s.w.heap.size)
  (L: ∀r o b,s.g.C r o->D b-> ¬Wr1 s b r o)
  (O: ∀r o b,s.g.C r o-> ¬s0.g.C r o-> ¬D b-> ¬Wr1 s0 b r o):Inv s:=by
 have wr: ∀b r o,¬D b->(Wr1 s b r o↔Wr1 s0 b r o):=(by intro b r o h;obtain⟨h1,h2⟩:=same b h;grind [Wr1]);have cells: ∀(r:Nat) c e fz,s0.w.heap[r]?=some (.cells c e fz)-> ∃c',s.w.heap[r]?=some (.cells c' e fz)/\c'.size=c.size/\ ∀o v,cellAt s.w r o=some v->c'[o]?=some v:=(by intro r c e fz k;obtain⟨c',h1,h2,_⟩:=t.keep.2.1 r c e fz k;grind [iR]);refine⟨?_,?_,?_,?_⟩;intro b cs y;by_cases h:D b;simp_all;obtain⟨h1,h2⟩:=same b h;obtain⟨r,o,c,e,fz,m,G,V,H,F⟩:=hi.box b cs (h1▸y);obtain⟨c',A,R,B⟩:=cells r c e fz G;refine⟨r,o,c',e,fz,h2.trans m,A,by omega,λi x I=>?_,F⟩;obtain⟨v,W,k,K⟩:=H i x I;refine⟨v,B _ _ (n b r (o+i) v h ?_ (by grind [iR])),k.mono hi t,K⟩;grind [Wr1];intro b wm esz rows y;by_cases h:D b;grind;obtain⟨h1,h2⟩:=same b h;rcases hi.arr b wm esz rows (h1▸y)with⟨m,k⟩|⟨r,c,e,fz,m,G,E,V,H,F⟩;exact .inl ⟨h2.trans m,k⟩;obtain⟨c',A,R,B⟩:=cells r c e fz G;refine .inr ⟨r,c',e,fz,h2.trans m,A,E,by omega,λi j row x M P=>?_,R▸F⟩;obtain⟨⟨v,W,k⟩,z⟩:=H i j row x M P;refine⟨⟨v,B _ _ ?_,k.mono hi t⟩,λe=>t.cmono _ _ (z e)⟩;cases wm with
 |true=>
  refine n b r _ v h ?_ (by grind [iR]);grind [Wr1]
 |false=>exact hi.cfix t (z rfl) (by grind [iR])
 intro b1 b2 r o h1 h2;by_cases N:D b1;grind;by_cases J:D b2;grind;exact hi.apart b1 b2 r o ((wr b1 r o N).1 h1) ((wr b2 r o J).1 h2);intro r o z;refine⟨q r o z,λb y=>?_⟩;by_cases h:D b;simp_all;by_cases T:s0.g.C r o;exact(hi.const r o T).2 b ((wr b r o h).1 y);simp_all
end Go.Am
end
section
namespace Go.Am
theorem gQ{σ:List Blk}{b:Nat}{x y:Blk}(h:σ[b]?=some x):(σ.set b y)[b]?=some y:=by
 grind
theorem qL{σ:List Blk}{b c:Nat}{y:Blk}(h:b≠c):(σ.set b y)[c]?=σ[c]?:=by simp[h]
theorem OV{s0:Sn}(hi:Inv s0){w':World}(hh:w'.heap=s0.w.heap)(ho:w'.os=s0.w.os)(hp:w'.output=s0.w.output):
  Inv ⟨s0.σ,s0.g,w'⟩/\aW s0 ⟨s0.σ,s0.g,w'⟩:=by
 have n: ∀r o,cellAt w' r o=cellAt s0.w r o:=λr o=>by grind [cellAt]
 have t:aW s0 ⟨s0.σ,s0.g,w'⟩:=by
  refine⟨⟨by simp_all,λr c e fz h=>⟨c,by simp_all,rfl,λ_ _=>rfl⟩,λr x h _=>by simp_all,ho,hp⟩,λ_ _ h=>h,λ_ _ h=>.inl h,λr o ⟨b,k⟩=>.inl ⟨b,k⟩,zQ0 _,λ_ cs h=>⟨⟨cs,h,rfl⟩,rfl⟩,
   λ_ wm _ rows h=>⟨wm,rows,h,id,zQ0 _,λ_=>rfl⟩⟩
 exact⟨mM hi t (λ_=>False) (λ_ _=>⟨rfl,rfl⟩) (λ_ r o v _ _ h=>by simp_all) (λ_ _ h=>h.elim) (λ_ _ _ _ h=>h.elim)
  (λ_ _ _ _ h=>h.elim) (λr o h=>by show r<w'.heap.size;rw[hh];exact(hi.const r o h).1) (λ_ _ _ _ h=>h.elim) (λ_ _ _ h j=>(j h).elim),t⟩
theorem OY{W:Nat->Nat->Prop}{w w':World}{x:Obj}(hh:w'.heap=w.heap.push x)(ho:w'.os=w.os)(hp:w'.output=w.output):nS W w w':=by
 have g: ∀(r:Nat) y,w.heap[r]?=some y->w'.heap[r]?=some y:=(by grind);exact⟨by rw[hh];simp,λr c e fz h=>⟨c,g r _ h,rfl,λ_ _=>rfl⟩,λr y h _=>g r y h,ho,hp⟩
theorem IE{w w':World}{x:Obj}(hh:w'.heap=w.heap.push x):w'.heap[w.heap.size]?=some x:=by rw[hh];simp
theorem dm{w w':World}{x:Obj}(hh:w'.heap=w.heap.push x){r o v}(h:cellAt w r o=some v):cellAt w' r o=some v:=
 (OY (W:=λ_ _=>False) (w:=w) (w':={w' with os:=w.os,output:=w.output}) hh rfl rfl).cell (λh=>h) h
def eU(g:Gh)(new:Nat)(x:Option (Nat×Nat)):Gh:=⟨λb=>if b=new then x else g.μ b,g.C⟩
theorem n7{s0 s:Sn}{new:Nat}{blk:Blk}(hd:s0.σ[new]?=some .dead)(hs:s.σ=s0.σ.set new blk)(x:Option (Nat×Nat))(hg:s.g.μ=(eU s0.g new x).μ):
  s0.σ.length<=s.σ.length/\(∀b cs,s0.σ[b]?=some (.box cs)->(∃cs',s.σ[b]?=some (.box cs')/\cs'.length=cs.length)/\s.g.μ b=s0.g.μ b)/\
  (∀b wm esz rows,s0.σ[b]?=some (.arr wm esz rows)-> ∃wm' rows',s.σ[b]?=some (.arr wm' esz rows')/\(wm'=true->wm=true)/\
  rows.length<=rows'.length/\(rows'.length=rows.length->s.g.μ b=s0.g.μ b)):=by
 have n: ∀b y,s0.σ[b]?=some y->y≠.dead->s.σ[b]?=some y/\s.g.μ b=s0.g.μ b:=by
  intro b y j k;have h:new≠b:=by grind
  rw[hs,qL h,hg];exact⟨j,if_neg (λe=>h e.symm)⟩
 simp_all
def Z1(s0:Sn)(c:Array Value):Blk->Prop
 | .box cs=>cs.length<=c.size/\ ∀(i:Nat) x,cs[i]?=some x-> ∃v,c[i]?=some v/\JD s0 x v/\v.oneCell'=true
 | .arr true esz rows=>(∀row∈rows,row.length=esz)/\rows.length*esz<=c.size/\
  ∀(i j:Nat) row x,rows[i]?=some row->row[j]?=some x-> ∃v,c[i*esz+j]?=some v/\J0g s0.w s0.g.C x v
 |_=>False
theorem NN{s0:Sn}(hi:Inv s0){new:Nat}(hd:s0.σ[new]?=some .dead){blk:Blk}{c:Array Value}{e:TypeId}{fz:Nat×Nat}{w':World}
  (hh:w'.heap=s0.w.heap.push (.cells c e fz)) (ho:w'.os=s0.w.os) (hp:w'.output=s0.w.output) (hf:AW fz 0 c.size) (E: ∀wm esz rows,blk=.arr wm esz rows->esz≠1-> ¬(fz.1<=c.size/\c.size<fz.2)) (hb:Z1 s0 c blk):
  Inv ⟨s0.σ.set new blk,eU s0.g new (some (s0.w.heap.size,0)),w'⟩/\aW s0 ⟨s0.σ.set new blk,eU s0.g new (some (s0.w.heap.size,0)),w'⟩:=by
 have q:(s0.σ.set new blk)[new]?=some blk:=gQ hd;have wr: ∀b r o,b≠new->(Wr1 ⟨s0.σ.set new blk,eU s0.g new (some (s0.w.heap.size,0)),w'⟩ b r o↔Wr1 s0 b r o):=by simp_all [Wr1,eU,Ne.symm]
 have N: ∀r o,Wr1 ⟨s0.σ.set new blk,eU s0.g new (some (s0.w.heap.size,0)),w'⟩ new r o->r=s0.w.heap.size:=(by intro r o h;unfold Wr1 at h;simp only[q,eU]at h;grind);have O: ∀b r o,Wr1 s0 b r o->r<s0.w.heap.size:=by
  intro b r o h;unfold Wr1 at h;split at h;rename_i cs hb;obtain⟨r',P,c',e',B,m,k,_⟩:=hi.box b cs hb;grind
  ·rename_i hb;obtain⟨K,I⟩:=h;rcases hi.arr b _ _ _ hb with⟨m,_⟩|⟨r',c',e',B,m,k,_⟩
   all_goals grind
  ·rename_i hb;obtain⟨K,I,_⟩:=h;rcases hi.arr b _ _ _ hb with⟨m,_⟩|⟨r',c',e',B,m,k,_⟩
   all_goals grind
  exact h.elim
 have t:aW s0 ⟨s0.σ.set new blk,eU s0.g new (some (s0.w.heap.size,0)),w'⟩:=(by obtain⟨G,J,H⟩:=n7 (s:=⟨s0.σ.set new blk,eU s0.g new (some (s0.w.heap.size,0)),w'⟩) hd rfl (some (s0.w.heap.size,0)) rfl;refine⟨OY hh ho hp,λ_ _ h=>h,λ_ _ h=>.inl h,?_,G,J,H⟩;rintro r o ⟨b,hb⟩;by_cases e:b=new;grind;exact .inl ⟨b,(wr b r o e).1 hb⟩);refine⟨mM hi t (λb=>b=new) (λb A=>⟨qL (Ne.symm A),if_neg A⟩) (λb r o v _ _ h=>dm hh h) ?_ ?_ ?_ ?_ ?_ ?_,t⟩;rintro b cs rfl n;rw[q]at n;injection n with n;subst n;obtain⟨h1,h2⟩:=hb;refine⟨s0.w.heap.size,0,c,e,fz,if_pos rfl,IE hh,by omega,λi x C=>?_,λo _ Q=>hf o (zQ2 _) (by omega)⟩;obtain⟨v,F,y,D⟩:=h2 i x C;exact⟨v,by simp_all,y.mono hi t,D⟩;rintro b wm esz rows rfl n;rw[q]at n;injection n with n;subst n;cases wm with
 |false=>exact hb.elim
 |true=>obtain⟨h1,h2,L⟩:=hb;refine .inr ⟨s0.w.heap.size,c,e,fz,if_pos rfl,IE hh,h1,h2,λi j row x y C=>⟨?_,λh=>by cases h⟩,hf,E _ _ _ rfl⟩;obtain⟨v,F,y⟩:=L i j row x y C;exact⟨v,F,y.mono hi t⟩
 grind;intro r o z;show r<w'.heap.size;rw[hh];have:=(hi.const r o z).1;simp;omega;rintro r o b z rfl h;have:=(hi.const r o z).1;grind;exact λr o b z M=>(M z).elim
theorem tW{s0:Sn}(hi:Inv s0): ∀b r o,Wr1 s0 b r o->r<s0.w.heap.size:=by
 intro b r o h;unfold Wr1 at h;split at h;rename_i cs e;obtain⟨r',q,c',e',g,m,k,_⟩:=hi.box b cs e;grind
 ·rename_i e;obtain⟨j,n⟩:=h;rcases hi.arr b _ _ _ e with⟨m,_⟩|⟨r',c',e',g,m,k,_⟩
  all_goals grind
 ·rename_i e;obtain⟨j,n,_⟩:=h;rcases hi.arr b _ _ _ e with⟨m,_⟩|⟨r',c',e',g,m,k,_⟩
  all_goals grind
 exact h.elim
theorem NT{s0:Sn}(hi:Inv s0){new:Nat}(hd:s0.σ[new]?=some .dead)(esz:Nat):
  Inv ⟨s0.σ.set new (.arr true esz []),eU s0.g new none,s0.w⟩/\aW s0 ⟨s0.σ.set new (.arr true esz []),eU s0.g new none,s0.w⟩:=by
 have j:(s0.σ.set new (Blk.arr true esz []))[new]?=some (.arr true esz []):=gQ hd;have wr: ∀b r o,b≠new->(Wr1 ⟨s0.σ.set new (.arr true esz []),eU s0.g new none,s0.w⟩ b r o↔Wr1 s0 b r o):=by simp_all [Wr1,eU,Ne.symm]
 have D: ∀r o,¬Wr1 ⟨s0.σ.set new (.arr true esz []),eU s0.g new none,s0.w⟩ new r o:=by simp_all [Wr1,eU]
 have t:aW s0 ⟨s0.σ.set new (.arr true esz []),eU s0.g new none,s0.w⟩:=(by obtain⟨x,A,y⟩:=n7 (s:=⟨s0.σ.set new (.arr true esz []),eU s0.g new none,s0.w⟩) hd rfl none rfl;refine⟨.refl _ _,λ_ _ h=>h,λ_ _ h=>.inl h,?_,x,A,y⟩;rintro r o ⟨b,B⟩;by_cases e:b=new;simp_all;exact .inl ⟨b,(wr b r o e).1 B⟩);refine⟨mM hi t (λb=>b=new) (λb k=>⟨qL (Ne.symm k),if_neg k⟩) (λb r o v _ _ h=>h) ?_ ?_ ?_ ?_ ?_ ?_,t⟩;simp_all;rintro b wm z rows rfl n;rw[j]at n;cases n;exact .inl ⟨if_pos rfl,rfl⟩;simp_all;exact λr o q=>(hi.const r o q).1;simp_all;exact λr o b q C=>(C q).elim
def nI(g:Gh)(p:Nat->Nat->Prop):Gh:=⟨g.μ,λr o=>g.C r o\/p r o⟩
theorem JEf{s0:Sn}(hi:Inv s0){x:Obj}{w':World}
  (hh:w'.heap=s0.w.heap.push x) (ho:w'.os=s0.w.os) (hp:w'.output=s0.w.output):
  Inv ⟨s0.σ,nI s0.g λr _=>r=s0.w.heap.size,w'⟩/\aW s0 ⟨s0.σ,nI s0.g λr _=>r=s0.w.heap.size,w'⟩:=by
 have t:aW s0 ⟨s0.σ,nI s0.g λr _=>r=s0.w.heap.size,w'⟩:=by
  refine⟨OY hh ho hp,λ_ _ h=>.inl h,λr o h=>?_,λr o h=>.inl h,zQ0 _,λ_ cs h=>⟨⟨cs,h,rfl⟩,rfl⟩,
   λ_ wm _ rows h=>⟨wm,rows,h,id,zQ0 _,λ_=>rfl⟩⟩
  rcases h with h|h
  all_goals simp_all
 refine⟨mM hi t (λ_=>False) (λ_ _=>⟨rfl,rfl⟩) (λb r o v _ _ h=>dm hh h) (λ_ _ h=>h.elim) (λ_ _ _ _ h=>h.elim)
  (λ_ _ _ _ h=>h.elim) ?_ (λ_ _ _ _ h=>h.elim) ?_,t⟩
 intro r o e;show r<w'.heap.size;rw[hh];rcases e with e|e;have:=(hi.const r o e).1;simp;omega;simp;omega;intro r o b e j _ h;rcases e with e|e;exact j e;have:=tW hi b r o h;omega
structure Put(r:Nat)(o:Nat)(vs:List Value)(w w':World):Prop where
 there: ∃c e fz c',w.heap[r]?=some (.cells c e fz)/\w'.heap[r]?=some (.cells c' e fz)/\c'.size=c.size/\o+vs.length<=c.size/\
  (∀(j:Nat) v,vs[j]?=some v->c'[o+j]?=some v)/\ ∀k,(k<o\/o+vs.length<=k)->c'[k]?=c[k]?
 rest: ∀r':Nat,r'≠r->w'.heap[r']?=w.heap[r']?
 size:w'.heap.size=w.heap.size
 os:w'.os=w.os
 output:w'.output=w.output
theorem Put.keep{W:Nat->Nat->Prop}{r o vs w w'}(h:Put r o vs w w')(hw: ∀k,o<=k->k<o+vs.length->W r k):nS W w w':=by
 obtain⟨c,e,fz,c',h1,h2,v,_,_,q⟩:=h.there;refine⟨Nat.le_of_eq h.size.symm,λr' j z n g=>?_,λr' x g y=>?_,h.os,h.output⟩;by_cases e':r'=r;grind;exact⟨j,by rw[h.rest r' e'];exact g,rfl,λ_ _=>rfl⟩;by_cases e':r'=r;grind;rw[h.rest r' e'];exact g
theorem Put.cell{r o vs w w'}(h:Put r o vs w w'){r' k v}(hv:cellAt w r' k=some v)(hn:r'≠r\/k<o\/o+vs.length<=k):cellAt w' r' k=some v:=by
 obtain⟨c,e,fz,c',h1,h2,j,_,_,g⟩:=h.there;by_cases e':r'=r;grind [iR];unfold cellAt;rw[h.rest r' e'];exact hv
inductive YW:Blk->Blk->Prop where|box (cs cs':List AV):cs'.length=cs.length->YW (.box cs) (.box cs')|arr (esz:Nat) (rows rows':List (List PV)):rows'.length=rows.length->YW (.arr true esz rows) (.arr true esz rows')
theorem da{s0:Sn}(hi:Inv s0){b:Nat}{z blk:Blk}{r o:Nat}{vs:List Value}{w':World}(hb:s0.σ[b]?=some z)
  (q:Put r o vs s0.w w') (hw: ∀k,o<=k->k<o+vs.length->Wr1 s0 b r k)
  (hk:YW z blk)
  (A: ∀cs,blk=.box cs->(∀{x v},JD s0 x v->JD ⟨s0.σ.set b blk,s0.g,w'⟩ x v)->MC ⟨s0.σ.set b blk,s0.g,w'⟩ b cs)
  (B: ∀esz rows,blk=.arr true esz rows->(∀{x v},J0g s0.w s0.g.C x v->J0g w' s0.g.C x v)->LR ⟨s0.σ.set b blk,s0.g,w'⟩ b true esz rows):
  Inv ⟨s0.σ.set b blk,s0.g,w'⟩/\aW s0 ⟨s0.σ.set b blk,s0.g,w'⟩:=by
 have n:(s0.σ.set b blk)[b]?=some blk:=gQ hb;have wr: ∀j r o,(Wr1 ⟨s0.σ.set b blk,s0.g,w'⟩ j r o↔Wr1 s0 j r o):=by
  intro j r o;by_cases e:j=b;subst e;unfold Wr1;simp only[n,hb];cases hk<;>simp_all
  grind [Wr1]
 have t:aW s0 ⟨s0.σ.set b blk,s0.g,w'⟩:=by
  refine⟨q.keep λk h1 h2=>⟨b,hw k h1 h2⟩,λ_ _ h=>h,λ_ _ h=>.inl h,λr o ⟨j,h⟩=>.inl ⟨j,(wr j r o).1 h⟩,by simp,λj cs h=>?_,λj wm esz rows h=>?_⟩;by_cases e:j=b;subst e;rw[hb]at h;injection h with h;subst h;cases hk<;>simp_all
  grind;by_cases e:j=b;subst e;rw[hb]at h;injection h with h;subst h;cases hk<;>simp_all
  grind
 refine⟨mM hi t (λj=>j=b) (λj y=>⟨qL (Ne.symm y),rfl⟩) ?_ ?_ ?_ ?_ ?_ ?_ ?_,t⟩;intro j r' k v y F G;refine q.cell G ?_;rcases zQ3 k o with h|h;simp_all;rcases zQ3 k (o+vs.length)with E|E;refine .inl λe=>y ?_;subst e;exact hi.apart _ _ _ _ F (hw k h E);simp_all;rintro j cs rfl h;rw[n]at h;injection h with h;subst h;exact A _ rfl λh=>h.mono hi t;rintro j wm esz rows rfl h;rw[n]at h;injection h with h;subst h;cases hk with
 |arr _ _ rows' H=>exact B _ _ rfl λh=>h.mono hi t
 rintro b1 b2 r o rfl h1 h2;exact hi.apart _ _ _ _ ((wr _ _ _).1 h1) ((wr _ _ _).1 h2);intro r o D;show r<w'.heap.size;rw[q.size];exact(hi.const r o D).1;rintro r o j D rfl h;exact(hi.const r o D).2 _ ((wr _ _ _).1 h);simp_all
end Go.Am
end
section
namespace Go.Am
theorem iO{a b n e:Nat}(h1:a<n)(h2:b<e):a*e+b<n*e:=by
 have h:(a+1)*e<=n*e:=zQ4 e h1;grind
theorem Jq{α:Type}{l:List α}{i:Nat}{x:α}(h:l[i]?=some x):i<l.length:=by
 grind
theorem PI{α:Type}{l:Array α}{i:Nat}{x:α}(h:l[i]?=some x):i<l.size:=by
 grind
theorem fZ{α:Type}{l:List α}{i:Nat}{x:α}(h:l[i]?=some x):x∈l:=zQ5 h
def Frz(σ τ:List Blk):Prop:=(∀(b:Nat) wm esz rows,σ[b]?=some (Blk.arr wm esz rows)-> ∃wm',τ[b]?=some (Blk.arr wm' esz rows))/\(∀(b:Nat) x,σ[b]?=some x->(∀wm esz rows,x≠Blk.arr wm esz rows)->τ[b]?=some x)
theorem Frz.refl(σ):Frz σ σ:=⟨λ_ wm _ _ h=>⟨wm,h⟩,λ_ _ h _=>h⟩
theorem Frz.trans{a b c}(h:Frz a b)(g:Frz b c):Frz a c:=
 ⟨λn wm esz rows e=>let⟨wm',h1⟩:=h.1 n wm esz rows e;g.1 n wm' esz rows h1,λn x e j=>g.2 n x (h.2 n x e j) j⟩
theorem JCf{s0:Sn}(hi:Inv s0){b:Nat}{wm:Bool}{esz:Nat}{rows:List (List PV)}(hb:s0.σ[b]?=some (.arr wm esz rows)):
  ∃g',g'.μ=s0.g.μ/\Inv ⟨s0.σ.set b (.arr false esz rows),g',s0.w⟩/\aW s0 ⟨s0.σ.set b (.arr false esz rows),g',s0.w⟩/\
   Frz s0.σ (s0.σ.set b (.arr false esz rows)):=by
 have y:(s0.σ.set b (.arr false esz rows))[b]?=some (.arr false esz rows):=gQ hb;have z:Frz s0.σ (s0.σ.set b (.arr false esz rows)):=by
  refine⟨λn wm' C rows' G=>?_,λn x G I=>?_⟩
  all_goals grind
 cases wm with
 |false=>
  have O:s0.σ.set b (.arr false esz rows)=s0.σ:=(by apply zQ6;grind);refine⟨s0.g,rfl,?_,?_,z⟩
  all_goals simp_all [aW.refl]
 |true=>
  refine⟨nI s0.g λr o=>s0.g.μ b=some (r,0)/\o<rows.length*esz,rfl,?_⟩;have wr: ∀k r o,Wr1 ⟨s0.σ.set b (.arr false esz rows),nI s0.g λr o=>s0.g.μ b=some (r,0)/\o<rows.length*esz,s0.w⟩ k r o->Wr1 s0 k r o:=(by intro k r o h;by_cases e:k=b;subst e;unfold Wr1 at h⊢;simp only[y,hb]at h⊢;obtain⟨J,m,_⟩:=h;exact⟨J,m⟩;unfold Wr1 at h⊢;simp only[qL (Ne.symm e)]at h;exact h);have t:aW s0 ⟨s0.σ.set b (.arr false esz rows),nI s0.g λr o=>s0.g.μ b=some (r,0)/\o<rows.length*esz,s0.w⟩:=(by refine⟨.refl _ _,λ_ _ h=>.inl h,λr o h=>?_,λr o ⟨k,h⟩=>.inl ⟨k,wr k r o h⟩,by simp,λk cs h=>?_,λk wm C rows' h=>?_⟩;rcases h with h|⟨h,_⟩;exact .inl h;refine .inr (.inl ⟨b,?_⟩);grind [Wr1];refine⟨⟨cs,z.2 k _ h (by simp),rfl⟩,rfl⟩;by_cases e:k=b;subst e;rw[hb]at h;injection h with h;injection h with h1 h2 h3;subst h1 h2 h3;exact⟨false,rows,y,by simp,zQ0 _,λ_=>rfl⟩;exact⟨wm,rows',by grind,id,zQ0 _,λ_=>rfl⟩);refine⟨mM hi t (λk=>k=b) (λk A=>⟨qL (Ne.symm A),rfl⟩) (λ_ _ _ _ _ _ h=>h) ?_ ?_ ?_ ?_ ?_ ?_,t,z⟩;simp_all;rintro k wm C rows' rfl h;rw[y]at h;cases h;rcases hi.arr _ _ _ _ hb with⟨m,F⟩|⟨r,c,e,fz,m,H,D,M,I,K⟩;exact .inl ⟨m,F⟩;refine .inr ⟨r,c,e,fz,m,H,D,M,λi j row x B E=>?_,K⟩;obtain⟨⟨v,N,F⟩,_⟩:=I i j row x B E;refine⟨⟨v,N,F.mono hi t⟩,λ_=>.inr ⟨m,?_⟩⟩;have h1:=Jq B;have h2:=Jq E;rw[D row (fZ B)]at h2;simp_all [iO];rintro b1 b2 r o rfl h1 h2;exact hi.apart _ _ _ _ (wr _ _ _ h1) (wr _ _ _ h2)
  ·intro r o q;rcases q with q|⟨q,_⟩
   exact(hi.const r o q).1
   ·rcases hi.arr _ _ _ _ hb with⟨m,_⟩|⟨r',c,e,fz,m,H,_⟩
    all_goals grind
  rintro r o k q rfl h;rcases q with q|⟨q,L⟩;exact(hi.const r o q).2 _ (wr _ _ _ h);grind [Wr1];intro r o k q G A h;rcases q with q|⟨q,L⟩;exact G q;refine A (hi.apart _ _ r o h ?_);grind [Wr1]
def iI(s:Sn)(esz:Nat)(rows:List (List PV))(v:Value):Prop:= ∃a cap,v=.slice a rows.length cap/\rows.length<=cap/\(∀row∈rows,row.length=esz)/\(rows=[]\/ ∃r o,a=some ⟨r,o,none⟩/\ ∀(i j:Nat) row x,rows[i]?=some row->row[j]?=some x-> ∃u,cellAt s.w r (o+i*esz+j)=some u/\J0g s.w s.g.C x u)
theorem iI.of_sl{s:Sn}{esz rows v}(h:J0g s.w s.g.C (.sl esz rows) v):iI s esz rows v:=by
 cases h with
 |sl0 _ a cap=>exact⟨a,cap,rfl,zQ2 _,(λ_ h=>by cases h),.inl rfl⟩
 |sl _ _ r o cap vals h1 h2 q n=>exact⟨_,cap,rfl,h1,h2,.inr ⟨r,o,rfl,λi j row x e k=>⟨_,(q i j row x e k).2,n i j row x e k⟩⟩⟩
theorem iI.of_slr{s:Sn}(hi:Inv s){b i n v wm esz rows}(h:JD s (.slr b i n) v)(hb:s.σ[b]?=some (.arr wm esz rows))(e:i+n=rows.length):
  iI s esz (rows.drop i) v:=by
 cases h with
 |slr _ _ _ _ wm' z rows' _ h1 h2 B=>
  rw[hb]at h1;injection h1 with h1;injection h1 with a1 a2 a3;subst a1 a2 a3;have G:(rows.drop i).length=n:=by simp;omega
  rcases B e with⟨m,q,C,w⟩|⟨r,cap,c,K,fz,m,w,y,H,I⟩;subst q C;have:rows=[]:=by grind
  subst this;exact⟨none,0,by simp[w],by simp,by simp,.inl rfl⟩;rcases hi.arr b wm esz rows hb with⟨g,_⟩|⟨r',c',e',E,g,D,o,hlen,J,_⟩;simp_all;rw[m]at g;injection g with g;injection g with g _;subst g;refine⟨some ⟨r,i*esz,none⟩,cap,by simp_all,by omega,λrow A=>o row (zQ7 A),.inr ⟨r,i*esz,rfl,λk j row x F L=>?_⟩⟩;grind [iR]
theorem iI.mono{s0 s:Sn}(hi:Inv s0)(t:aW s0 s){esz rows v}(h:iI s0 esz rows v)(hc: ∀r o u,cellAt s0.w r o=some u->cellAt s.w r o=some u):iI s esz rows v:=by obtain⟨a,cap,h1,h2,q,g⟩:=h;refine⟨a,cap,h1,h2,q,g.imp id ?_⟩;rintro⟨r,o,A,y⟩;exact⟨r,o,A,λi j row x n z=>let⟨u,k,e⟩:=y i j row x n z;⟨u,hc _ _ _ k,e.mono hi t⟩⟩
theorem d6{s:Sn}{esz:Nat}{rows:List (List PV)}{v:Value}{a:Option Addr}{cap:Nat}(hv:v=.slice a rows.length cap)(e:rows.length<=cap)
  (h: ∀row∈rows,row.length=esz)
  (hx:rows=[]\/ ∃r o,a=some ⟨r,o,none⟩/\ ∀(i j:Nat) row x,rows[i]?=some row->row[j]?=some x->s.g.C r (o+i*esz+j)/\ ∃u,cellAt s.w r (o+i*esz+j)=some u/\J0g s.w s.g.C x u):
  J0g s.w s.g.C (.sl esz rows) v:=by
 subst hv;rcases hx with rfl|⟨r,o,rfl,hx⟩;exact .sl0 _ _ _
 ·refine .sl esz rows r o cap (λi j=>(cellAt s.w r (o+i*esz+j)).getD .nilFunc) e h (λi j row x k n=>?_) λi j row x k n=>?_
  all_goals grind
theorem pf{s0:Sn}(hi:Inv s0){b i n:Nat}{v:Value}{wm:Bool}{esz:Nat}{rows:List (List PV)}(h:JD s0 (.slr b i n) v)(hb:s0.σ[b]?=some (.arr wm esz rows))
  (e:i+n=rows.length):
  ∃g',Inv ⟨s0.σ.set b (.arr false esz rows),g',s0.w⟩/\aW s0 ⟨s0.σ.set b (.arr false esz rows),g',s0.w⟩/\
   Frz s0.σ (s0.σ.set b (.arr false esz rows))/\J0g s0.w g'.C (.sl esz (rows.drop i)) v:=by
 obtain⟨g',S,hi',t,K⟩:=JCf hi hb;refine⟨g',hi',t,K,?_⟩;have A:=h.mono hi t;have q:(s0.σ.set b (.arr false esz rows))[b]?=some (.arr false esz rows):=gQ hb;obtain⟨a,cap,h1,h2,L,H⟩:=iI.of_slr hi' A q e;refine d6 (s:=⟨s0.σ.set b (.arr false esz rows),g',s0.w⟩) h1 h2 L (H.imp id ?_);rintro⟨r,o,rfl,M⟩;refine⟨r,o,rfl,λk j row x G N=>⟨?_,M k j row x G N⟩⟩;cases A with
 |slr _ _ _ _ wm' y rows' _ I Y J=>
  have g:(s0.σ.set b (.arr false esz rows))[b]?=some (.arr wm' y rows'):=I;rw[q]at g;injection g with g;injection g with a1 a2 a3;subst a1 a2 a3;rcases J e with⟨m,R,V,z⟩|⟨r',B,c,W,fz,m,z,D,T,U⟩;simp_all
  ·rw[h1]at z;injection z with v1 v2 v3;injection v1 with v1;injection v1 with v1 v4;subst v1 v4
   rcases hi'.arr b false esz rows q with⟨E,_⟩|⟨r',c',e',Q,E,P,F,hlen,O,_⟩
   all_goals grind
end Go.Am
end
section
namespace Go.Am
theorem uO{α:Type}{a b:List α}{i:Nat}{x:α}(h:(a++b)[i]?=some x):a[i]?=some x\/(a.length<=i/\b[i-a.length]?=some x):=by
 grind
def jd(g:Gh)(wm:Bool)(r lo hi:Nat):Gh:=nI g λr' o=>wm=false/\r'=r/\lo<=o/\o<hi
theorem JHN{s0:Sn}(hi:Inv s0){b:Nat}{wm:Bool}{esz:Nat}{rows new:List (List PV)}{r:Nat}{vs:List Value}{w':World}
  (hb:s0.σ[b]?=some (.arr wm esz rows)) (hm:s0.g.μ b=some (r,0)) (N: ∀row∈new,row.length=esz)
  (A:Put r (rows.length*esz) vs s0.w w') (hlen:vs.length=new.length*esz)
  (hx: ∀(i j:Nat) row x,new[i]?=some row->row[j]?=some x-> ∃u,vs[i*esz+j]?=some u/\J0g s0.w s0.g.C x u):
  Inv ⟨s0.σ.set b (.arr wm esz (rows++new)),jd s0.g wm r (rows.length*esz) ((rows.length+new.length)*esz),w'⟩/\
  aW s0 ⟨s0.σ.set b (.arr wm esz (rows++new)),jd s0.g wm r (rows.length*esz) ((rows.length+new.length)*esz),w'⟩:=by
 have B:(s0.σ.set b (.arr wm esz (rows++new)))[b]?=some (.arr wm esz (rows++new)):=gQ hb;have V:(rows.length+new.length)*esz=rows.length*esz+new.length*esz:=zQ8 _ _ _;generalize J:(⟨s0.σ.set b (.arr wm esz (rows++new)),jd s0.g wm r (rows.length*esz) ((rows.length+new.length)*esz),w'⟩:Sn)=s;have H:s.σ=s0.σ.set b (.arr wm esz (rows++new)):=by rw[<-J]
 have W:s.g.μ=s0.g.μ:=by rw[<-J];rfl
 have D: ∀r' o,s.g.C r' o↔s0.g.C r' o\/(wm=false/\r'=r/\rows.length*esz<=o/\o<(rows.length+new.length)*esz):=by rw[<-J];exact λ_ _=>Iff.rfl
 have O:s.w=w':=by rw[<-J]
 have wr: ∀n r' o,Wr1 s n r' o->Wr1 s0 n r' o:=by
  intro n r' o h;by_cases e:n=b;subst e;unfold Wr1 at h⊢;rw[H,B]at h;rw[hb];cases wm<;>grind
  grind [Wr1]
 have y: ∀o,rows.length*esz<=o->Wr1 s0 b r o:=by intro o ho;unfold Wr1;rw[hb];cases wm<;>simp_all
 have t:aW s0 s:=(by refine⟨?_,λr o h=>(D r o).2 (.inl h),λr' o h=>?_,λr o ⟨n,h⟩=>.inl ⟨n,wr n r o h⟩,by rw[H];simp,λn cs h=>?_,λn wm' L rows' h=>?_⟩;rw[O];exact A.keep λk h1 _=>⟨b,y k h1⟩;rcases(D r' o).1 h with h|⟨_,e,h,_⟩;exact .inl h;subst e;exact .inr (.inl ⟨b,y o h⟩);grind;by_cases e:n=b;subst e;rw[hb]at h;injection h with h;injection h with h1 h2 T;subst h1 h2 T;grind;grind);refine⟨mM hi t (λn=>n=b) (λn E=>⟨by grind,by rw[W]⟩) ?_ ?_ ?_ ?_ ?_ ?_ ?_,t⟩;intro n r' k v E S U;rw[O];refine A.cell U ?_;by_cases G:r'=r;subst G;rcases zQ3 k (rows.length*esz)with h|h;simp_all;exact(E (hi.apart _ _ _ _ S (y k h))).elim;simp_all;simp_all;rintro n wm' L rows' rfl h;rw[H,B]at h;cases h;obtain⟨c,e,fz,c',Y,p2,p3,p4,p5,p6⟩:=A.there;rcases hi.arr _ _ _ _ hb with⟨m,_⟩|⟨r',c0,e0,a0,m,I,M,hl,Q,hf⟩;simp_all;rw[hm]at m;injection m with m;injection m with m _;subst m;rw[Y]at I;injection I with I;injection I with q1 q2 q3;subst q1 q2 q3;refine .inr ⟨r,c',e,fz,by simp_all,by simp_all,?_,?_,?_,?_⟩;grind;simp_all;intro i j row x q F;rcases uO q with q|⟨a1,q⟩;obtain⟨⟨v,U,P⟩,z⟩:=Q i j row x q F;have h1:=Jq q;have h2:=Jq F;rw[M row (fZ q)]at h2;have:=iO h1 h2;exact⟨⟨v,by simp_all,P.mono hi t⟩,λe=>(D _ _).2 (.inl (z e))⟩;obtain⟨u,hu,P⟩:=hx _ j row x q F;have h1:=Jq q;have h2:=Jq F;rw[N row (fZ q)]at h2;have T:=iO h1 h2;have h4:i*esz+j=rows.length*esz+((i-rows.length)*esz+j):=(by grind [Nat.add_sub_cancel']);refine⟨⟨u,by simp_all,P.mono hi t⟩,λe=>(D _ _).2 (.inr ⟨e,rfl,by omega,by simp_all⟩)⟩;simp_all;rintro b1 b2 r o rfl h1 h2;exact hi.apart _ _ _ _ (wr _ _ _ h1) (wr _ _ _ h2);intro r' o z;rw[O,A.size];rcases(D r' o).1 z with z|⟨_,e,_⟩;exact(hi.const r' o z).1;subst e;exact tW hi b _ _ (y _ (zQ0 _));rintro r' o n z rfl h;rcases(D r' o).1 z with z|⟨e,G,K,R⟩;exact(hi.const r' o z).2 _ (wr _ _ _ h);subst e G;unfold Wr1 at h;rw[H,B]at h;grind;intro r' o n z Z E h;rcases(D r' o).1 z with z|⟨e,G,K,R⟩;exact Z z;subst G;exact E (hi.apart _ _ _ o h (y o K))
theorem JHE{s0:Sn}(hi:Inv s0){b esz:Nat}{rows rows':List (List PV)}{r o:Nat}{vs:List Value}{w':World}
  (hb:s0.σ[b]?=some (.arr true esz rows)) (hm:s0.g.μ b=some (r,0)) (J: ∀row∈rows',row.length=esz) (O:rows.length<=rows'.length) (y:Put r o vs s0.w w')
  (hx: ∀(c c':Array Value),(∀(i j:Nat) row x,rows[i]?=some row->row[j]?=some x-> ∃u,c[i*esz+j]?=some u/\J0g s0.w s0.g.C x u)->c'.size=c.size->(∃e fz,s0.w.heap[r]?=some (.cells c e fz))->
   (∀(j:Nat) v,vs[j]?=some v->c'[o+j]?=some v)->(∀k,(k<o\/o+vs.length<=k)->c'[k]?=c[k]?)->
   rows'.length*esz<=c.size/\ ∀(i j:Nat) row x,rows'[i]?=some row->row[j]?=some x-> ∃u,c'[i*esz+j]?=some u/\J0g s0.w s0.g.C x u):
  Inv ⟨s0.σ.set b (.arr true esz rows'),s0.g,w'⟩/\aW s0 ⟨s0.σ.set b (.arr true esz rows'),s0.g,w'⟩:=by
 have q:(s0.σ.set b (.arr true esz rows'))[b]?=some (.arr true esz rows'):=gQ hb;generalize K:(⟨s0.σ.set b (.arr true esz rows'),s0.g,w'⟩:Sn)=s;have E:s.σ=s0.σ.set b (.arr true esz rows'):=by rw[<-K]
 have z:s.g=s0.g:=by rw[<-K]
 have F:s.w=w':=by rw[<-K]
 have wr: ∀n r' o,Wr1 s n r' o->Wr1 s0 n r' o:=(by intro n r' o h;by_cases e:n=b;subst e;unfold Wr1 at h⊢;rw[E,q]at h;rw[hb];grind;grind [Wr1]);have B: ∀o,Wr1 s0 b r o:=by intro o;unfold Wr1;rw[hb];simp_all
 have t:aW s0 s:=(by refine⟨?_,λr o h=>by rw[z];exact h,λr' o h=>.inl (by rw[<-z];exact h),λr o ⟨n,h⟩=>.inl ⟨n,wr n r o h⟩,by rw[E];simp,λn cs h=>?_,λn wm' I L h=>?_⟩;rw[F];exact y.keep λk h1 _=>⟨b,B k⟩;grind;by_cases e:n=b;subst e;rw[hb]at h;injection h with h;injection h with h1 h2 h3;subst h1 h2 h3;exact⟨true,rows',by rw[E];exact q,id,O,λ_=>by rw[z]⟩;grind);refine⟨mM hi t (λn=>n=b) (λn D=>⟨by grind,by rw[z]⟩) ?_ ?_ ?_ ?_ ?_ ?_ ?_,t⟩;intro n r' k v D P hv;rw[F];refine y.cell hv ?_;by_cases V:r'=r;subst V;exact(D (hi.apart _ _ _ _ P (B k))).elim;simp_all;simp_all;rintro n wm' I L rfl h;rw[E,q]at h;cases h;obtain⟨c,e,fz,c',M,T,H,p4,S,U⟩:=y.there;rcases hi.arr _ _ _ _ hb with⟨m,_⟩|⟨r',c0,e0,a3,m,G,Q,hl,N,Y⟩;simp_all;rw[hm]at m;injection m with m;injection m with m _;subst m;rw[M]at G;injection G with G;injection G with q1 q2 q3;subst q1 q2 q3;obtain⟨R,W⟩:=hx c c' (λi j row x h1 h2=>(N i j row x h1 h2).1) H ⟨e,fz,M⟩ S U;refine .inr ⟨r,c',e,fz,by rw[z];exact hm,by rw[F];exact T,J,by rw[H];exact R,λi j row x h1 h2=>?_,by rw[H];exact Y⟩;obtain⟨u,hu,Z⟩:=W i j row x h1 h2;exact⟨⟨u,hu,Z.mono hi t⟩,λh=>by cases h⟩;rintro b1 b2 r o rfl h1 h2;exact hi.apart _ _ _ _ (wr _ _ _ h1) (wr _ _ _ h2);intro r' o A;rw[F,y.size];rw[z]at A;exact(hi.const r' o A).1;rintro r' o n A rfl h;rw[z]at A;exact(hi.const r' o A).2 _ (wr _ _ _ h);intro r' o n A hn D h;rw[z]at A;exact hn A
theorem Bw{s0:Sn}(hi:Inv s0){b:Nat}{wm:Bool}{esz:Nat}{rows rows':List (List PV)}{c:Array Value}{e:TypeId}{w':World}
  (hb:s0.σ[b]?=some (.arr wm esz rows)) (P:rows.length<rows'.length) (L: ∀row∈rows',row.length=esz)
  (hh:w'.heap=s0.w.heap.push (.cells c e (0,0))) (ho:w'.os=s0.w.os) (hp:w'.output=s0.w.output)
  (J:rows'.length*esz<=c.size)
  (hx: ∀(i j:Nat) row x,rows'[i]?=some row->row[j]?=some x-> ∃u,c[i*esz+j]?=some u/\J0g s0.w s0.g.C x u):
  ∃g',g'.μ b=some (s0.w.heap.size,0)/\Inv ⟨s0.σ.set b (.arr wm esz rows'),g',w'⟩/\aW s0 ⟨s0.σ.set b (.arr wm esz rows'),g',w'⟩:=by
 have z:(s0.σ.set b (.arr wm esz rows'))[b]?=some (.arr wm esz rows'):=gQ hb;refine⟨⟨λk=>if k=b then some (s0.w.heap.size,0)else s0.g.μ k,λr o=>s0.g.C r o\/(wm=false/\r=s0.w.heap.size/\o<rows'.length*esz)⟩,if_pos rfl,?_⟩;generalize E:(⟨s0.σ.set b (.arr wm esz rows'),_,w'⟩:Sn)=s;have G:s.σ=s0.σ.set b (.arr wm esz rows'):=by rw[<-E]
 have R: ∀k,s.g.μ k=if k=b then some (s0.w.heap.size,0)else s0.g.μ k:=by grind
 have y: ∀r' o,s.g.C r' o↔s0.g.C r' o\/(wm=false/\r'=s0.w.heap.size/\o<rows'.length*esz):=by rw[<-E];simp_all
 have M:s.w=w':=by rw[<-E]
 have wr: ∀k r' o,k≠b->(Wr1 s k r' o↔Wr1 s0 k r' o):=by simp_all [Wr1,Ne.symm]
 have F: ∀r' o,Wr1 s b r' o->r'=s0.w.heap.size/\(wm=false->rows'.length*esz<=o):=(by grind [Wr1]);have t:aW s0 s:=(by refine⟨?_,λr o h=>(y r o).2 (.inl h),λr' o h=>?_,λr o ⟨k,h⟩=>?_,by rw[G];simp,λk cs h=>?_,λk wm' D rows' h=>?_⟩;grind [OY];grind;by_cases q:k=b;grind;exact .inl ⟨k,(wr k r o q).1 h⟩;grind;by_cases q:k=b;subst q;rw[hb]at h;injection h with h;injection h with h1 h2 H;subst h1 h2 H;exact⟨wm,rows',by simp_all,id,by omega,λh=>by omega⟩;grind);refine⟨mM hi t (λk=>k=b) (λk I=>⟨by grind,by simp_all⟩) (λb r o v _ _ h=>by grind [dm]) ?_ ?_ ?_ ?_ ?_ ?_,t⟩;simp_all;rintro k wm' D rows' rfl h;rw[G,z]at h;cases h;refine .inr ⟨s0.w.heap.size,c,e,(0,0),by simp_all,by simp_all,?_,by simp_all,?_,tY.zero _ _⟩;grind;intro i j row x A B;obtain⟨u,O,N⟩:=hx i j row x A B;refine⟨⟨u,O,N.mono hi t⟩,λK=>(y _ _).2 (.inr ⟨K,rfl,?_⟩)⟩;have h1:=Jq A;have h2:=Jq B;have H:row.length=esz:=(by grind);simp_all [iO];rintro b1 b2 r o rfl h1 h2;by_cases q:b2=b1;exact q.symm;have:=tW hi _ _ _ ((wr b2 r o q).1 h2);grind;intro r' o n;rw[M,hh];rcases(y r' o).1 n with n|⟨_,n,_⟩;have:=(hi.const r' o n).1;simp;omega;simp;omega;rintro r' o k n rfl h;have h1:=F _ _ h;rcases(y r' o).1 n with n|⟨S,n,ho⟩;have:=(hi.const r' o n).1;omega;grind;intro r' o k n I Q h;rcases(y r' o).1 n with n|⟨_,n,_⟩;exact I n;have:=tW hi _ _ _ h;omega
theorem JFS{s0:Sn}(hi:Inv s0){b:Nat}{wm:Bool}{esz:Nat}{rows new:List (List PV)}{c:Array Value}{e:TypeId}{w':World}
  (hb:s0.σ[b]?=some (.arr wm esz rows)) (o:new≠[]) (k: ∀row∈rows,row.length=esz) (n: ∀row∈new,row.length=esz)
  (hh:w'.heap=s0.w.heap.push (.cells c e (0,0))) (ho:w'.os=s0.w.os) (hp:w'.output=s0.w.output)
  (h:(rows.length+new.length)*esz<=c.size)
  (hx: ∀(i j:Nat) row x,(rows++new)[i]?=some row->row[j]?=some x-> ∃u,c[i*esz+j]?=some u/\J0g s0.w s0.g.C x u):
  ∃g',g'.μ b=some (s0.w.heap.size,0)/\Inv ⟨s0.σ.set b (.arr wm esz (rows++new)),g',w'⟩/\aW s0 ⟨s0.σ.set b (.arr wm esz (rows++new)),g',w'⟩:=
 have q:0<new.length:=List.length_pos_iff.2 o
 Bw hi hb (by simp;omega) (λrow r=>(zQ9.1 r).elim (k row) (n row)) hh ho hp (by simpa using h) hx
end Go.Am
end
section
namespace Go.Am
def okP:PV->Value->Bool| .b x,.bool y=>x==y| .i k n,.int h e=>k==h&&n==e| .s l,.string g=>l==g.data.toList| .sl _ [],.slice none 0 0=>true| .np,.pointer none=>true| .nf,.nilFunc=>true|_,_=>false
def wT:List PV->List Value->Bool|[],[]=>true|x::xs,v::vs=>okP x v&&wT xs vs|_,_=>false
def okC:AV->Value->Bool| .p c,v=>okP c v| .data cs,.agg vs=>wT cs vs.toList| .fn f [] [],.func (.func g) a c=>f==g&&a.isEmpty&&c.isEmpty| .tup [],.tuple vs=>vs.isEmpty|_,_=>false
def bF:Opd->Operand->Bool| .t n,.tmp m=>n==m| .c x,.const v=>okC x v| .c (.fn f [] []),.func g=>f==g|_,_=>false
def hE:List Opd->List Operand->Bool|[],[]=>true|x::xs,y::e=>bF x y&&hE xs e|_,_=>false
def uE:Option Opd->Option Operand->Bool|none,none=>true|some x,some y=>bF x y|_,_=>false
section
variable (P:Program)
def szT(t:TypeId):Option Nat:=(P.info? t).map (·.size)
def byT(t:TypeId):Option Nat:=(P.info? t).map (·.bytes)
def zeT(t:TypeId):Option Value:=(P.info? t).bind (·.zero)
def wP:TypeDesc->Bool| .struct _| .array _ _=>true|_=>false
def agT(t:TypeId):Option Bool:=(P.underlying t).map wP
def elT(t:TypeId):Option TypeId:=match P.underlying t with|some (.slice e)=>some e|_=>none
def hH(t:TypeId):Bool:=match P.underlying t with|some .string=>true|_=>false
def SG(t:TypeId):Bool:=match P.underlying t with|some (.int .u8)=>true|_=>false
def XO(t:TypeId):Bool:=match P.underlying t with|some .bool=>true|_=>false
def ju(t:TypeId):Bool:=match P.underlying t with|some (.int _)=>true|_=>false
def XB(k:IntKind)(t:TypeId):Bool:=match P.underlying t with|some (.int e)=>k==e|_=>false
def arT(t:TypeId):Option (Nat×TypeId):=match P.underlying t with|some (.array n e)=>some (n,e)|_=>none
def flT(t:TypeId):Option (Array Field):=match P.underlying t with|some (.struct fs)=>some fs|_=>none
def HU(K:TypeId->Option (List KD)):Nat->List Field->Option (List KD)
 |_,[]=>some []
 |off,f::fs=>
  if f.name= "_" ∨f.offset≠off then none
  else match K f.type with
   |none=>none
   |some ks=>if szT P f.type=some ks.length/\0<ks.length then
    match HU K (off+ks.length) fs with
    |some l=>some (ks++l)
    |none=>none
    else none
def nY:Nat->TypeId->Option (List KD)
 |0,_=>none
 |d+1,t=>match P.underlying t with
  |some .bool=>some [.b]
  |some (.int k)=>some [.i k]
  |some .string=>some [.s]
  |some (.struct fs)=>if P.stoodInHeld t then none else HU P (nY d) 0 fs.toList
  |some (.array n e)=>match nY d e with|some ks=>if szT P e=some ks.length/\0<ks.length then some (List.replicate n ks).flatten else none|none=>none
  |_=>none
def zf(t:TypeId):Operand->Bool| .const (.slice none 0 0)=>(elT P t).isSome|_=>false
def zu(t:TypeId):Operand->Bool
 | .const (.pointer none)=>(match P.underlying t with|some (.pointer _)=>true|_=>false)
 |_=>false
def x7(t:TypeId):Operand->Bool
 | .const .nilFunc=>(match P.underlying t with|some (.func _ _ _)=>true|_=>false)
 |_=>false
def iU(zero:List PV)(t:TypeId):Bool:=match zeT P t with|some v=>wT zero v.cells.toList|none=>false
def LV(t:TypeId)(os:List (Nat×Nat)):Bool:=match zeT P t with
 |some v=>os.all λx=>match v.cells[x.1]? with|some (.slice none 0 0)=>true|_=>false
 |none=>false
def qI(place:Nat->Option (Nat×Nat)):List (Nat×Nat×Opd)->List (Nat×Operand)->Bool|[],[]=>true|(off,size,x)::r,(i,y)::q=>place i==some (off,size)&&bF x y&&qI place r q|_,_=>false
def CE(fs:Array Field)(i:Nat):Option (Nat×Nat):=match fs[i]? with|some f=>(szT P f.type).map λn=>(f.offset,n)|none=>none
def GR:List (Nat×Opd)->List (Nat×Operand)->Bool|[],[]=>true|(i,x)::r,(j,y)::q=>i==j&&bF x y&&GR r q|_,_=>false
def JS(D:AOp)(op:Op):Bool:=
 match D with
 | .mv x=>match op with| .move y| .assign y=>bF x y|_=>false
 | .mkarr _ x=>match op with
  | .move (.const (.slice none 0 0))| .assign (.const (.slice none 0 0))=>(match x with| .c _=>true|_=>false)
  |_=>false
 | .pick c a b=>match op with| .pick c' E C=>bF c c'&&bF a E&&bF b C|_=>false
 | .newbox zero=>match op with| .alloc t=>iU P zero t|_=>false
 | .box _ x=>match op with| .box _ y=>bF x y|_=>false
 | .build zero parts=>match op with
  | .build t ps=>iU P zero t&&(match P.underlying t with
   |some (.struct fs)=>(fs.all λf=>(szT P f.type).isSome)&&qI (CE P fs) parts ps.toList
   |some (.array _ e)=>(match szT P e with
    |some n=>qI (λi=>some (i*n,n)) parts ps.toList
    |none=>false)
   |_=>false)
  |_=>false
 | .lits _ esz n zero parts=>match op with
  | .buildSlice t len ps=>len==n&&(match elT P t with
   |some e=>szT P e==some esz&&decide (n*esz<=16777216)&&iU P zero e&&zero.length==esz&&decide (0<esz)&&GR parts ps.toList
   |none=>false)
  |_=>false
 | .load agg size x=>match op with| .load t y=>agT P t==some agg&&szT P t==some size&&bF x y&&(agg||size==1)|_=>false
 | .store size x v=>match op with| .store t y u=>szT P t==some size&&bF x y&&bF v u|_=>false
 | .nilchk x=>match op with| .nilCheck y=>bF x y|_=>false
 | .bin G bt x y=>match op with
  | .binOp z t o h _=>G==z&&bF x o&&(match bt with
   | .plain=>bF y h
   | .bool=>bF y h&&XO P t
   | .flat ks=>bF y h&&nY P 100 t==some ks&&agT P t==some true&& !P.eqGuardType P.depth t
   | .nils=>zf P t h
   | .nilp=>zu P t h
   | .nilf=>x7 P t h)
  |_=>false
 | .un F x=>match op with| .unOp A _ y=>F==A&&bF x y|_=>false
 | .conv k x=>match op with
  | .convert q dst y=>bF x y&&(match k with
   | .int k=>ju P q&&XB P k dst
   | .same=>hH P q&&hH P dst
   | .toStr=>(match elT P q with|some e=>SG P e&&szT P e==some 1|none=>false)&&hH P dst
   | .toBytes _=>hH P q&&(match elT P dst with|some e=>SG P e&&szT P e==some 1|none=>false))
  |_=>false
 | .mkslice _ esz bytes zero l c=>match op with
  | .makeSlice t H c'=>bF l H&&bF c c'&&(match elT P t with
   |some e=>szT P e==some esz&&byT P e==some bytes&&iU P zero e&&zero.length==esz&&decide (0<esz)&&decide (0<bytes)
   |none=>false)
  |_=>false
 | .slice k x lo hi mx=>match op with
  | .slice t o lo' hi' B=>bF x o&&uE lo lo'&&uE hi hi'&&uE mx B&&(match k with
   | .str=>hH P t
   | .sl esz=>(match elT P t with|some e=>szT P e==some esz|none=>false))
  |_=>false
 | .ppre esz x hi=>match op with
  | .slice t o none (some hi') none=>bF x o&&bF hi hi'&&(match elT P t with|some e=>szT P e==some esz|none=>false)
  |_=>false
 | .psuf esz x lo=>match op with
  | .slice t o (some lo') none none=>bF x o&&bF lo lo'&&(match elT P t with|some e=>szT P e==some esz|none=>false)
  |_=>false
 | .faddr off x=>match op with
  | .fieldAddr t y f=>bF x y&&(match flT P t with
   |some fs=>(match fs[f]? with
    |some f=>f.offset==off&&(match szT P f.type with|some n=>n !=0|none=>false)
    |none=>false)
   |none=>false)
  |_=>false
 | .field agg off size x=>match op with
  | .field t y f=>bF x y&&(match flT P t with
   |some fs=>(match fs[f]? with
    |some f=>f.offset==off&&szT P f.type==some size&&agT P f.type==some agg&&(agg||size==1)
    |none=>false)
   |none=>false)
  |_=>false
 | .iaddr esz x i=>match op with
  | .indexAddr t y j=>bF x y&&bF i j&&(match elT P t with|some e=>szT P e==some esz|none=>false)
  |_=>false
 | .aaddr len esz x i=>match op with
  | .indexAddr t y j=>bF x y&&bF i j&&(match arT P t with|some (n,e)=>n==len&&szT P e==some esz|none=>false)
  |_=>false
 | .sidx x i=>match op with| .index t y j=>bF x y&&bF i j&&hH P t|_=>false
 | .aidx agg len esz x i=>match op with
  | .index t y j=>bF x y&&bF i j&&(match arT P t with|some (n,e)=>n==len&&szT P e==some esz&&agT P e==some agg&&(agg||esz==1)|none=>false)
  |_=>false
 | .extr x i=>match op with| .extract y j=>bF x y&&i==j|_=>false
 | .call f args _=>match op with
  | .call c=>(match c.callee with
   | .value (.func g)=>f==g&&hE args c.args.toList
   |_=>false)
  |_=>false
 | .callv x args _=>match op with
  | .call c=>(match c.callee with
   | .value y=>bF x y&&hE args c.args.toList
   |_=>false)
  |_=>false
 | .len str x=>match op with
  | .call c=>(match c.callee with
   | .builtin .len=>(match c.args.toList,c.argTypes.toList with
    |[y],[t]=>bF x y&&(if str then hH P t else(elT P t).isSome)
    |_,_=>false)
   |_=>false)
  |_=>false
 | .alen n=>match op with
  | .call c=>(match c.callee with
   | .builtin .len=>(match c.args.toList,c.argTypes.toList with
    |[_],[t]=>(match P.underlying t with
     |some (.array m _)=>m==n
     |some (.pointer a)=>(match arT P a with|some (m,_)=>m==n|none=>false)
     |_=>false)
    |_,_=>false)
   |_=>false)
  |_=>false
 | .appn esz bytes zero y=>match op with
  | .call c=>(match c.callee with
   | .builtin .append=>(match c.args.toList,c.argTypes.toList with
    |[.const (.slice none 0 0),h],[t,u]=>bF y h&&((elT P u).isSome||hH P u)&&(match elT P t with
     |some e=>szT P e==some esz&&byT P e==some bytes&&iU P zero e&&zero.length==esz&&decide (0<esz)&&decide (0<bytes)
     |none=>false)
    |_,_=>false)
   |_=>false)
  |_=>false
 | .appp esz bytes zero x y=>match op with
  | .call c=>(match c.callee with
   | .builtin .append=>(match c.args.toList,c.argTypes.toList with
    |[o,h],[t,u]=>bF x o&&bF y h&&((elT P u).isSome||hH P u)&&(match elT P t with
     |some e=>szT P e==some esz&&byT P e==some bytes&&iU P zero e&&zero.length==esz&&decide (0<esz)&&decide (0<bytes)
     |none=>false)
    |_,_=>false)
   |_=>false)
  |_=>false
 | .app esz bytes zero x y=>match op with
  | .call c=>(match c.callee with
   | .builtin .append=>(match c.args.toList,c.argTypes.toList with
    |[o,h],[t,u]=>bF x o&&bF y h&&((elT P u).isSome||hH P u)&&(match elT P t with
     |some e=>szT P e==some esz&&byT P e==some bytes&&iU P zero e&&zero.length==esz&&decide (0<esz)&&decide (0<bytes)
     |none=>false)
    |_,_=>false)
   |_=>false)
  |_=>false
 | .appc esz bytes zero x y=>match op with
  | .call c=>(match c.callee with
   | .builtin .append=>(match c.args.toList,c.argTypes.toList with
    |[o,h],[t,u]=>bF x o&&bF y h&&((elT P u).isSome||hH P u)&&(match elT P t with
     |some e=>szT P e==some esz&&byT P e==some bytes&&iU P zero e&&zero.length==esz&&decide (0<esz)&&decide (0<bytes)
     |none=>false)
    |_,_=>false)
   |_=>false)
  |_=>false
 | .appz esz bytes zero x y=>match op with
  | .call c=>(match c.callee with
   | .builtin .append=>(match c.args.toList,c.argTypes.toList with
    |[o,h],[t,u]=>bF x o&&bF y h&&(match P.underlying u with
     |some (.int _)=>true
     |_=>false)&&(match elT P t with
     |some e=>szT P e==some esz&&byT P e==some bytes&&iU P zero e&&zero.length==esz&&decide (0<esz)&&decide (0<bytes)
     |none=>false)
    |_,_=>false)
   |_=>false)
  |_=>false
 | .mm mx x y=>match op with
  | .call c=>(match c.callee with
   | .builtin b=>b==(if mx then .max else .min)&&(match c.args.toList with
    |[o,h]=>bF x o&&bF y h
    |_=>false)
   |_=>false)
  |_=>false
 | .newboxo zero os=>match op with| .alloc t=>iU P zero t&&LV P t os|_=>false
 | .buildo zero parts os=>match op with
  | .build t ps=>iU P zero t&&LV P t os&&(match P.underlying t with
   |some (.struct fs)=>(fs.all λf=>(szT P f.type).isSome)&&qI (CE P fs) parts ps.toList
   |_=>false)
  |_=>false
 | .storen _ x=>match op with| .store t y (.const (.slice none 0 0))=>szT P t==some 1&&bF x y|_=>false
 | .callo f _ args _=>match op with
  | .call c=>(match c.callee with
   | .value (.func g)=>f==g&&hE args c.args.toList
   |_=>false)
  |_=>false
 | .mkfn f first caps=>match op with
  | .makeFunc (.func g) r w=>f==g&&hE first r.toList&&hE caps w.toList
  |_=>false
end
end Go.Am
end
section
namespace Go.Am
def get(s:St):Loc->Option (AV⊕Blk)| .slot n=>(lk n s.env).map .inl| .blk b=>(s.sto[b]?).map .inr
theorem JEa{α:Type}(m:RM α)(s s':St)(h: ∀l∈m.reads s,get s' l=get s l):m.run s'=m.run s:=by
 induction m with
 |ret a=>rfl
 |slot n k ih=>
  have e:=h (.slot n) (by simp[RM.reads]);grind [get,RM.run,RM.reads]
 |blk b k ih=>
  have e:=h (.blk b) (by simp[RM.reads]);grind [get,RM.run,RM.reads]
 |fail=>rfl
theorem vC{b:Nat}: ∀{ws:List (Nat×Blk)},b∉ws.map (·.1)->iG b ws=none
 |[],_=>rfl
 |(c,x)::r,h=>by
  simp at h;simp only[iG];rw[vC (by simpa using h.2)];grind
theorem pz{b:Nat}: ∀{ws:List (Nat×Blk)},b∈ws.map (·.1)-> ∃y,iG b ws=some y
 |[],h=>by simp at h
 |(c,x)::r,h=>by
  simp only[iG];by_cases e:b∈r.map (·.1);obtain⟨y,g⟩:=pz e;simp_all;simp_all [vC]
theorem xN: ∀(ws:List (Nat×Blk)) (σ:List Blk),(upd ws σ).length=σ.length|[],_=>rfl|y::ws,σ=>by show(upd ws (σ.set y.1 y.2)).length=_;rw[xN ws];simp
theorem uM: ∀(ws:List (Nat×Blk)) (σ:List Blk) (b:Nat),b<σ.length->(upd ws σ)[b]?=match iG b ws with
  |some y=>some y
  |none=>σ[b]?
 |[],σ,b,_=>rfl
 |(c,x)::ws,σ,b,h=>by
  show(upd ws (σ.set c x))[b]?=_;rw[uM ws (σ.set c x) b (by simpa using h)];grind [iG]
structure Run(F:Orc)(ins:List bS)(new:Nat->Nat)(S:Nat->St)(eff:Nat->Eff):Prop where
 step: ∀k i,ins[k]?=some i->(bW F i (new k)).run (S k)=some (eff k)/\S (k+1)=put i.dst (eff k) (S k)
structure LS(F:Orc)(ins:List bS)(new:Nat->Nat)(S:Nat->St)(eff:Nat->Eff)(i j:Nat):Prop where
 slotW: ∀x y m,ins[i]?=some x->ins[j]?=some y->x.dst=some m->y.dst≠some m/\Loc.slot m∉(bW F y (new j)).reads (S j)
 slotR: ∀x y m,ins[i]?=some x->ins[j]?=some y->y.dst=some m->Loc.slot m∉(bW F x (new i)).reads (S i)
 blkW: ∀y b,ins[j]?=some y->b∈(eff i).ws.map (·.1)->b∉(eff j).ws.map (·.1)/\Loc.blk b∉(bW F y (new j)).reads (S j)
 blkR: ∀x b,ins[i]?=some x->b∈(eff j).ws.map (·.1)->Loc.blk b∉(bW F x (new i)).reads (S i)
section
variable {F:Orc} {ins:List bS} {new:Nat->Nat} {S:Nat->St} {eff:Nat->Eff}
def tX(ins:List bS)(k:Nat):Option Nat:=(ins[k]?).bind (·.dst)
def nU(ins:List bS)(eff:Nat->Eff)(s0:St)(D:Nat->Bool):Nat->Nat->Option AV|0,m=>lk m s0.env|k+1,m=>if D k=true/\tX ins k=some m then some (eff k).val else nU ins eff s0 D k m
def lY(eff:Nat->Eff)(s0:St)(D:Nat->Bool):Nat->Nat->Option Blk
 |0,b=>s0.sto[b]?
 |k+1,b=>if D k=true then(match iG b (eff k).ws with
  |some y=>some y
  |none=>lY eff s0 D k b)else lY eff s0 D k b
structure Agree(ins:List bS)(eff:Nat->Eff)(s0:St)(D:Nat->Bool)(s:St):Prop where
 slot: ∀m,lk m s.env=nU ins eff s0 D ins.length m
 len:s.sto.length=s0.sto.length
 blk: ∀b,b<s0.sto.length->s.sto[b]?=lY eff s0 D ins.length b
theorem NK(hr:Run F ins new S eff): ∀k,k<=ins.length->(S k).sto.length=(S 0).sto.length
 |0,_=>rfl
 |k+1,h=>by
  have e:ins[k]?=some ins[k]:=aQ (by omega);obtain⟨_,h2⟩:=hr.step k _ e;rw[h2,<-NK hr k (by omega)];unfold put;grind [xN]
theorem ZX(hr:Run F ins new S eff)(D:Nat->Bool): ∀k,k<=ins.length->(∀j,j<k->D j=true)-> ∀m,nU ins eff (S 0) D k m=lk m (S k).env
 |0,_,_,m=>rfl
 |k+1,h,hD,m=>by
  have g:ins[k]?=some ins[k]:=aQ (by omega);obtain⟨_,h2⟩:=hr.step k _ g;simp only[nU];rw[ZX hr D k (by omega) (λj n=>hD j (by omega)) m,h2];have e:tX ins k=ins[k].dst:=by grind [tX]
  rw[e];unfold put;grind [lk]
theorem YX(hr:Run F ins new S eff)(D:Nat->Bool): ∀k,k<=ins.length->(∀j,j<k->D j=true)-> ∀b,b<(S 0).sto.length->lY eff (S 0) D k b=(S k).sto[b]?
 |0,_,_,b,_=>rfl
 |k+1,h,hD,b,hb=>by
  have e:ins[k]?=some ins[k]:=aQ (by omega);obtain⟨_,h2⟩:=hr.step k _ e;simp only[lY];rw[YX hr D k (by omega) (λj g=>hD j (by omega)) b hb,h2,if_pos (hD k (by omega))];have:(put ins[k].dst (eff k) (S k)).sto=upd (eff k).ws (S k).sto:=by unfold put;split<;>rfl
  rw[this,uM _ _ _ (by rw[NK hr k (by omega)];exact hb)]
theorem dv{s0:St}{D D':Nat->Bool}{m:Nat}: ∀n,(∀j,j<n->tX ins j=some m->D j=D' j)->nU ins eff s0 D n m=nU ins eff s0 D' n m
 |0,_=>rfl
 |n+1,h=>by
  simp only[nU];rw[dv n λj e=>h j (by omega)];grind
theorem dd{s0:St}{D D':Nat->Bool}{b:Nat}: ∀n,(∀j,j<n->b∈(eff j).ws.map (·.1)->D j=D' j)->lY eff s0 D n b=lY eff s0 D' n b
 |0,_=>rfl
 |n+1,h=>by
  simp only[lY];rw[dd n λj e=>h j (by omega)];grind [vC]
theorem OT{s0:St}{D:Nat->Bool}{m k:Nat}: ∀n,k<=n->(∀j,k<=j->j<n->tX ins j=some m->D j=false)->nU ins eff s0 D n m=nU ins eff s0 D k m
 |0,h,_=>by simp_all
 |n+1,h,hD=>by
  by_cases e:k=n+1;subst e;rfl;simp only[nU];rw[OT n (by omega) λj h1 h2=>hD j h1 (by omega)];grind
theorem NW{s0:St}{D:Nat->Bool}{b k:Nat}: ∀n,k<=n->(∀j,k<=j->j<n->b∈(eff j).ws.map (·.1)->D j=false)->lY eff s0 D n b=lY eff s0 D k b
 |0,h,_=>by simp_all
 |n+1,h,hD=>by
  by_cases e:k=n+1;subst e;rfl;simp only[lY];rw[NW n (by omega) λj h1 h2=>hD j h1 (by omega)];grind [vC]
theorem JGo(hr:Run F ins new S eff){D:Nat->Bool}{s:St}(ha:Agree ins eff (S 0) D s){k:Nat}{i:bS}(hk:ins[k]?=some i)(I:D k=false)
  (r: ∀j,j<k->D j=false->LS F ins new S eff j k) (h: ∀j,k<j->j<ins.length->D j=true->LS F ins new S eff k j):
  (bW F i (new k)).run s=some (eff k)/\Agree ins eff (S 0) (λj=>if j=k then true else D j) (put i.dst (eff k) s):=by
 have E:k<ins.length:=(by grind);have g: ∀j,j<ins.length->ins[j]?=some ins[j]! :=λj q=>by simp[q]
 have z: ∀j,j<ins.length->tX ins j=ins[j]!.dst:=λj q=>by grind [tX]
 obtain⟨h1,h2⟩:=hr.step k i hk;have H:tX ins k=i.dst:=by simp_all
 let T:Nat->Bool:=λ_=>true
 have reads: ∀l∈(bW F i (new k)).reads (S k),get s l=get (S k) l:=by
  intro l B;cases l with
  |slot m=>
   simp only[get];rw[ha.slot m]
   congr 1
   rw[OT ins.length (k:=k) (by omega) λj v e o=>?_];rw[dv (D':=T) k λj q o=>?_,ZX hr T k (by omega) (λ_ _=>rfl) m];cases hDj:D j with
   |true=>rfl
   |false=>have:=(r j q hDj).slotW _ i m (g j (by omega)) hk (by grind);simp_all
   by_cases n:j=k;simp_all;cases hDj:D j with
   |false=>rfl
   |true=>have:=(h j (by omega) e hDj).slotR i _ m hk (g j e) (by simp_all);simp_all
  |blk b=>
   simp only[get];by_cases w:b<(S 0).sto.length;rw[ha.blk b w]
   congr 1
   rw[NW ins.length (k:=k) (by omega) λj v e o=>?_];rw[dd (D':=T) k λj q o=>?_,YX hr T k (by omega) (λ_ _=>rfl) b w];cases hDj:D j with
   |true=>rfl
   |false=>exact absurd B ((r j q hDj).blkW i b hk o).2
   by_cases n:j=k;simp_all;cases hDj:D j with
   |false=>rfl
   |true=>exact absurd B ((h j (by omega) e hDj).blkR i b hk o)
   rw[nR (by have:=ha.len;omega),nR (by have:=NK hr k (by omega);omega)]
 refine⟨by grind [JEa],?_,?_,?_⟩;intro m;have x:lk m (put i.dst (eff k) s).env=if i.dst=some m then some (eff k).val else lk m s.env:=(by unfold put;grind [lk])
 rw[x,ha.slot m];by_cases C:i.dst=some m;rw[if_pos C];rw[OT ins.length (k:=k+1) (by omega) λj v e o=>?_];grind [nU];have n:j≠k:=by omega
 simp only[if_neg n];cases hDj:D j with
 |false=>rfl
 |true=>have:=(h j (by omega) e hDj).slotW i _ m hk (g j e) C;simp_all
 grind [dv];have:(put i.dst (eff k) s).sto=upd (eff k).ws s.sto:=by unfold put;split<;>rfl
 rw[this,xN,ha.len];intro b w;have:(put i.dst (eff k) s).sto=upd (eff k).ws s.sto:=by unfold put;split<;>rfl
 rw[this,uM _ _ _ (by rw[ha.len];exact w),ha.blk b w];by_cases A:b∈(eff k).ws.map (·.1);obtain⟨y,G⟩:=pz A;simp only[G];rw[NW (D:=λj=>if j=k then true else D j) ins.length (k:=k+1) (by omega) λj v e o=>?_];grind [lY];have n:j≠k:=by omega
 simp only[if_neg n];cases hDj:D j with
 |false=>rfl
 |true=>exact absurd o ((h j (by omega) e hDj).blkW _ b (g j e) A).1
 grind [vC,dd]
theorem D3:Agree ins eff (S 0) (λ_=>false) (S 0):=by
 refine⟨λm=>?_,rfl,λb _=>?_⟩;rw[OT ins.length (k:=0) (zQ2 _) λ_ _ _ _=>rfl];rfl;rw[NW ins.length (k:=0) (zQ2 _) λ_ _ _ _=>rfl];rfl
theorem JDE(hr:Run F ins new S eff){D:Nat->Bool}{s:St}(ha:Agree ins eff (S 0) D s)(hD: ∀j,j<ins.length->D j=true):
  (∀m,lk m s.env=lk m (S ins.length).env)/\s.sto=(S ins.length).sto:=by
 refine⟨λm=>by rw[ha.slot m,ZX hr D _ (zQ0 _) hD m],zQ6 λb=>?_⟩;by_cases e:b<(S 0).sto.length;rw[ha.blk b e,YX hr D _ (zQ0 _) hD b e];rw[nR (by have:=ha.len;omega),nR (by have:=NK hr _ (zQ0 _);omega)]
end
end Go.Am
end
section
namespace Go.Am
def oSl:Opd->List Nat| .t n=>[n]| .c _=>[]
def gU:List Opd->List Nat|[]=>[]|x::r=>oSl x++gU r
def SJ:Option Opd->List Nat|none=>[]|some x=>oSl x
def cG:AOp->List Nat| .mv x| .box _ x| .appn _ _ _ x| .load _ _ x| .nilchk x| .un _ x| .conv _ x| .faddr _ x| .field _ _ _ x| .extr x _| .len _ x=>oSl x| .mkarr _ _| .newbox _| .alen _=>[]| .pick c a b=>oSl c++(oSl a++oSl b)| .build _ parts=>gU (parts.map (·.2.2))| .lits _ _ _ _ parts=>gU (parts.map (·.2))| .store _ x v=>oSl x++oSl v| .bin _ _ x y| .iaddr _ x y| .aaddr _ _ x y| .sidx x y| .aidx _ _ _ x y| .app _ _ _ x y| .appz _ _ _ x y| .appc _ _ _ x y| .mm _ x y| .mkslice _ _ _ _ x y| .ppre _ x y| .psuf _ x y| .appp _ _ _ x y=>oSl x++oSl y| .slice _ x lo hi mx=>oSl x++(SJ lo++(SJ hi++SJ mx))| .call _ args _=>gU args| .callv g args _=>oSl g++gU args| .mkfn _ a b=>gU a++gU b| .newboxo _ _=>[]| .buildo _ parts _=>gU (parts.map (·.2.2))| .storen _ x=>oSl x| .callo _ _ args _=>gU args
def uX(i:bS):List Nat:=cG i.op++match i.g with|some (g,_)=>[g]|none=>[]
def wB:AOp->Bool| .mkarr _ _| .newbox _| .box _ _| .lits _ _ _ _ _| .store _ _ _| .conv (.toBytes _) _| .mkslice _ _ _ _ _ _| .slice (.sl _) _ _ _ _| .call _ _ _| .callv _ _ _| .app _ _ _ _ _| .appz _ _ _ _ _| .appc _ _ _ _ _| .appn _ _ _ _| .newboxo _ _| .buildo _ _ _| .storen _ _| .callo _ _ _ _| .ppre _ _ _| .psuf _ _ _| .appp _ _ _ _ _=>true|_=>false
def EU:AOp->Bool| .load _ _ _| .iaddr _ _ _| .conv .toStr _=>true|op=>wB op
def Sl{α:Type}(L:List Nat)(m:RM α):Prop:= ∀s n,Loc.slot n∈m.reads s->n∈L
section
variable {α β:Type} {L:List Nat}
theorem bB(a:α):Sl L (.ret a):=λs n h=>by grind [RM.reads]
theorem bQ:Sl L (.fail:RM α):=λs n h=>by grind [RM.reads]
theorem kZ{b:Nat}{k:Blk->RM α}(h: ∀v,Sl L (k v)):Sl L (.blk b k):=λs n e=>by
 simp only[RM.reads,dZ]at e;rcases e with e|e;cases e;split at e;exact h _ s n e;simp at e
theorem Ch{m:Nat}{k:AV->RM α}(hm:m∈L)(h: ∀v,Sl L (k v)):Sl L (.slot m k):=λs n e=>by
 simp only[RM.reads,dZ]at e;rcases e with e|e;simp_all;split at e;exact h _ s n e;simp at e
theorem Jo{m:RM α}{f:α->RM β}(h:Sl L m)(hf: ∀a,Sl L (f a)):Sl L (m.bind f):=λs n e=>by
 rw[vD,zQ9]at e;rcases e with e|e;exact h s n e;cases hr:m.run s with
 |none=>simp[hr]at e
 |some a=>simp[hr]at e;exact hf a s n e
theorem JIg{L':List Nat}{m:RM α}(h:Sl L m)(hl: ∀x∈L,x∈L'):Sl L' m:=λs n e=>hl n (h s n e)
theorem WF{c:Prop} [Decidable c]{x y:RM α}(hx:Sl L x)(hy:Sl L y):Sl L (if c then x else y):=by grind
end
theorem bV{L:List Nat}(x:Opd)(h: ∀n∈oSl x,n∈L):Sl L (ev x):=by
 cases x with
 |t n=>exact Ch (h n (by simp[oSl])) λv=>bB v
 |c v=>exact bB v
theorem BV{L:List Nat}: ∀(xs:List Opd),(∀n∈gU xs,n∈L)->Sl L (evs xs)|[],_=>bB _|x::xs,h=>Jo (bV x λn e=>h n (by simp[gU,e])) λv=>Jo (BV xs λn e=>h n (by simp[gU,e])) λvs=>bB _
theorem WJ{L:List Nat}(x:Option Opd)(h: ∀n∈SJ x,n∈L):Sl L (evo x):=by
 cases x with
 |none=>exact bB _
 |some x=>exact Jo (bV x h) λv=>bB _
theorem mN{L:List Nat}(x:Option AV):Sl L (val x):=by cases x<;>first|exact bQ|exact bB _
theorem JJu{L:List Nat}(x:AV):Sl L (fz.fz1 x):=by
 cases x<;>try exact bQ
 exact bB _;refine kZ λv=>?_;grind [bQ,bB]
theorem Bg{L:List Nat}: ∀(xs:List AV),Sl L (fz.fzL xs)|[]=>bB _|x::xs=>Jo (JJu x) λ_=>Jo (Bg xs) λ_=>bB _
theorem FV{L:List Nat}(x:AV):Sl L (fz x):=by
 cases x<;>try first|exact bQ|exact bB _
 exact Bg _;refine kZ λv=>?_;grind [bQ,bB]
theorem Ar{L:List Nat}: ∀(xs:List Opd),(∀n∈gU xs,n∈L)->Sl L (fzs xs)|[],_=>bB _|x::xs,h=>Jo (bV x λn e=>h n (by simp[gU,e])) λv=>Jo (FV v) λ_=>Jo (Ar xs λn e=>h n (by simp[gU,e])) λ_=>bB _
theorem IH{L:List Nat}(esz:Nat)(x:AV):Sl L (eH esz x):=by
 unfold eH;grind [bB,bQ,kZ]
theorem JEX{L:List Nat}(agg:Bool)(size:Nat)(x:AV):Sl L (fW agg size x):=by
 unfold fW;split
 all_goals grind [mN,bQ,kZ]
theorem oy{L:List Nat}(size:Nat)(x v:AV):Sl L (gX size x v):=by
 unfold gX;split;grind [kZ,bQ,bB];refine kZ λv=>?_;grind [bQ,Jo,FV,bB];simp[bQ]
theorem JDy{L:List Nat}(esz:Nat)(x i:AV):Sl L (kY esz x i):=by
 unfold kY;grind [bQ,bB,kZ]
theorem Bo{L:List Nat}(esz bytes:Nat)(x y:AV):Sl L (hC esz bytes x y):=by
 unfold hC;grind [kZ,bQ,Jo,IH,bB]
theorem NH{L:List Nat}(ws:List (Nat×Blk))(b:Nat):Sl L (pN ws b):=
 kZ λv=>by grind [bB]
theorem CI{L:List Nat}(ws:List (Nat×Blk)): ∀(es acc:List Ent),Sl L (dU ws es acc)
 |[],acc=>bB _
 | .whole b::r,acc=>Jo (NH ws b) λv=>by cases v<;>exact CI ws r _
 | .elem b e i::r,acc=>CI ws r acc
theorem XN{L:List Nat}(x:AV):Sl L (hZ x):=by
 cases x<;>try first|exact bQ|exact bB _
 exact Jo (FV _) λ_=>bB _;refine Jo (FV _) λa=>?_;grind [bB,bQ]
theorem nr{L:List Nat}: ∀(xs:List AV),Sl L (jA xs)|[]=>bB _|x::xs=>Jo (XN x) λ_=>Jo (nr xs) λ_=>bB _
theorem JGH{L:List Nat}(ws:List (Nat×Blk))(ρ:Ent->Option Nat)(e:Ent):Sl L (wZ ws ρ e):=by
 cases e with
 |whole b=>
  refine Jo (NH ws b) λv=>?_;grind [bQ,bB]
 |elem b e i=>
  refine Jo (NH ws b) λv=>?_;grind [bQ,bB]
theorem ZZ{L:List Nat}(ws:List (Nat×Blk))(ρ:Ent->Option Nat): ∀(es:List Ent),Sl L (jG ws ρ es)|[]=>bB _|e::r=>Jo (JGH ws ρ e) λ_=>Jo (ZZ ws ρ r) λ_=>bB _
theorem JDA{L:List Nat}(ws:List (Nat×Blk))(es:List Ent)(new:Nat)(e:Ent)(x:Blk):Sl L (rT ws es new e x):=by
 unfold rT;grind [bB,bQ,Jo,NH]
theorem ds{L:List Nat}(ws:List (Nat×Blk))(es:List Ent)(new:Nat): ∀(e:List Ent) (x:List Blk),Sl L (hM ws es new e x)|[],_=>bB _|_::_,[]=>bQ|e::r,x::l=>Jo (JDA ws es new e x) λ_=>Jo (ds ws es new r l) λ_=>bB _
theorem mb{L:List Nat}(F:Orc)(f:FuncId)(args:List AV)(k new:Nat):Sl L (gV F f args k new):=by
 unfold gV;refine Jo (nr _) λa=>Jo (CI _ _ _) λe=>Jo (CI _ _ _) λes=>WF ?_ bQ;split
 all_goals grind [bQ,Jo,ZZ,ds,bB]
theorem JDD{L:List Nat}(F:Orc)(f:FuncId)(a:List AV×List (Nat×Blk))(k new:Nat):Sl L (fD F f a k new):=by
 unfold fD;refine Jo (CI _ _ _) λe=>Jo (CI _ _ _) λes=>WF ?_ bQ;split
 all_goals grind [bQ,Jo,ZZ,ds,bB]
theorem OI{L:List Nat}: ∀(m:List Bool) (xs:List AV),Sl L (eW m xs)
 |_,[]=>by cases ‹List Bool›<;>exact bB _
 |[],x::xs=>Jo (XN x) λ_=>Jo (OI [] xs) λ_=>bB _
 |true::m,x::xs=>Jo (OI m xs) λ_=>bB _
 |false::m,x::xs=>Jo (XN x) λ_=>Jo (OI m xs) λ_=>bB _
theorem dg{L:List Nat}: ∀(xs:List (Nat×Nat×Opd)),(∀n∈gU (xs.map (·.2.2)),n∈L)->Sl L (jE xs)
 |[],_=>bB _
 |(a,b,x)::xs,h=>by
  unfold jE;refine Jo (bV x λn e=>h n (by simp[gU,e])) λv=>?_;split;exact Jo (dg xs λn e=>h n (by simp[gU,e])) λ_=>bB _;simp[bQ]
theorem JJx(F:Orc)(op:AOp)(new:Nat):Sl (cG op) (opR F op new):=by
 cases op with
 |mv x=>exact Jo (bV x λn h=>h) λv=>bB _
 |mkarr=>exact bB _
 |appn esz bytes zero y=>exact Jo (bV y λn h=>h) λv=>Jo (IH _ _) λ_=>WF (bB _) bQ
 |pick c a b=>
  refine Jo (bV c λn h=>by grind [cG]) λv=>?_;grind [Jo,bV,cG,bB,bQ]
 |newbox=>exact bB _
 |box size x=>
  refine Jo (bV x λn h=>h) λv=>?_;grind [bB,bQ]
 |build zero parts=>
  refine Jo (dg parts λn h=>h) λv=>?_;grind [mN,bQ]
 |lits own esz n zero parts=>
  refine Jo (Ar _ λn h=>h) λv=>?_;grind [bB,bQ]
 |load agg size x=>exact Jo (bV x λn h=>h) λv=>JEX _ _ _
 |store size x y=>exact Jo (bV x λn h=>by grind [cG]) λv=>Jo (bV y λn h=>by grind [cG]) λ_=>oy _ _ _
 |nilchk x=>
  refine Jo (bV x λn h=>h) λv=>?_;grind [bB,bQ]
 |bin op t x y=>exact Jo (bV x λn h=>by grind [cG]) λv=>Jo (bV y λn h=>by grind [cG]) λ_=>mN _
 |un op x=>exact Jo (bV x λn h=>h) λv=>mN _
 |conv k x=>
  refine Jo (bV x λn h=>h) λv=>?_;grind [bB,Jo,IH,bQ]
 |mkslice own esz bytes zero x y=>
  refine Jo (bV x λn h=>by grind [cG]) λv=>Jo (bV y λn h=>by grind [cG]) λu=>?_;grind [bB,bQ]
 |slice k x lo hi mx=>
  refine Jo (bV x λn h=>by grind [cG]) λv=>Jo (WJ lo λn h=>by grind [cG]) λ_=>Jo (WJ hi λn h=>by grind [cG]) λ_=>Jo (WJ mx λn h=>by grind [cG]) λ_=>?_;grind [Jo,FV,bB,bQ,mN]
 |faddr off x=>exact Jo (bV x λn h=>h) λv=>mN _
 |field agg off size x=>exact Jo (bV x λn h=>h) λv=>mN _
 |iaddr esz x y=>exact Jo (bV x λn h=>by grind [cG]) λv=>Jo (bV y λn h=>by grind [cG]) λ_=>JDy _ _ _
 |aaddr len esz x y=>exact Jo (bV x λn h=>by grind [cG]) λv=>Jo (bV y λn h=>by grind [cG]) λ_=>mN _
 |sidx x y=>
  refine Jo (bV x λn h=>by grind [cG]) λv=>Jo (bV y λn h=>by grind [cG]) λu=>?_;grind [bQ,bB]
 |aidx agg len esz x y=>
  refine Jo (bV x λn h=>by grind [cG]) λv=>Jo (bV y λn h=>by grind [cG]) λu=>?_;grind [mN,bQ]
 |extr x i=>exact Jo (bV x λn h=>h) λv=>mN _
 |call f args k=>exact Jo (BV args λn h=>h) λv=>mb _ _ _ _ _
 |callv g args k=>
  refine Jo (bV g λn h=>by grind [cG]) λv=>?_;grind [bQ,Jo,BV,cG,mb]
 |len str x=>exact Jo (bV x λn h=>h) λv=>mN _
 |alen n=>exact bB _
 |appz esz bytes zero x y=>
  refine Jo (bV x λn h=>by grind [cG]) λv=>Jo (bV y λn h=>by grind [cG]) λc=>?_;grind [Bo,bQ]
 |appc esz bytes zero x y=>
  refine Jo (bV x λn h=>by grind [cG]) λv=>Jo (bV y λn h=>by grind [cG]) λc=>?_;unfold EX;grind [Jo,IH,bB,bQ]
 |ppre esz x y=>
  refine Jo (bV x λn h=>by grind [cG]) λv=>Jo (bV y λn h=>by grind [cG]) λc=>?_;unfold rD;split;refine kZ λv=>?_;split;split<;>first|exact bB _|exact bQ
  exact bQ;exact bQ
 |psuf esz x y=>
  refine Jo (bV x λn h=>by grind [cG]) λv=>Jo (bV y λn h=>by grind [cG]) λc=>?_;unfold rJ;split;refine kZ λv=>?_;split;split<;>first|exact bB _|exact bQ
  exact bQ;exact bQ
 |appp esz bytes zero x y=>
  refine Jo (bV x λn h=>by grind [cG]) λv=>Jo (bV y λn h=>by grind [cG]) λc=>?_;unfold rK;split;refine kZ λv=>?_;split;refine Jo (IH _ _) λw=>?_;split<;>first|exact bB _|exact bQ
  exact bQ;exact bQ
 |app esz bytes zero x y=>exact Jo (bV x λn h=>by grind [cG]) λv=>Jo (bV y λn h=>by grind [cG]) λ_=>Bo _ _ _ _
 |mm mx x y=>exact Jo (bV x λn h=>by grind [cG]) λv=>Jo (bV y λn h=>by grind [cG]) λ_=>mN _
 |mkfn f a b=>exact Jo (BV a λn h=>by grind [cG]) λv=>Jo (BV b λn h=>by grind [cG]) λ_=>bB _
 |newboxo=>exact bB _
 |buildo zero parts os=>
  refine Jo (dg parts λn h=>h) λv=>?_;grind [bB,bQ]
 |storen esz x=>exact Jo (bV x λn h=>h) λv=>Jo (oy _ _ _) λ_=>bB _
 |callo f keep args k=>exact Jo (BV args λn h=>h) λv=>Jo (OI _ _) λ_=>JDD _ _ _ _ _
theorem ns{L:List Nat}: ∀(k new:Nat),Sl L (rN new k)|0,_=>bB _|k+1,new=>kZ λv=>by cases v<;>first|exact ns k _|exact bQ
theorem k9(F:Orc)(i:bS)(new:Nat):Sl (uX i) (bW F i new):=by
 have h:Sl (uX i) (opD F i.op new):=Jo (ns _ _) λ_=>JIg (JJx F i.op new) λx e=>by grind [uX]
 grind [bW,Ch,uX,bB,bQ]
end Go.Am
end
section
namespace Go.Am
def W0(m:RM Eff):Prop:= ∀s e,m.run s=some e->e.ws=[]
def B0{α:Type}(m:RM α):Prop:= ∀s e,m.run s=some e-> ∀b,Loc.blk b∉m.reads s
theorem mO(x:Option AV):W0 (val x):=λs e h=>by cases x<;>grind [val,RM.run]
theorem oB(v:AV):W0 (.ret ⟨v,[]⟩):=λs e h=>by grind [RM.run]
theorem qF:W0 .fail:=λs e h=>by cases h
theorem cY{α:Type}{m:RM α}{f:α->RM Eff}(h: ∀a,W0 (f a)):W0 (m.bind f):=λs e g=>by
 rw[run_bind]at g;cases hm:m.run s with
 |none=>simp_all
 |some a=>rw[hm]at g;exact h a s e g
theorem Au{b:Nat}{k:Blk->RM Eff}(h: ∀v,W0 (k v)):W0 (.blk b k):=λs e g=>by
 simp only[RM.run]at g;split at g;exact h _ s e g;cases g
theorem JI5{g:Nat}{k:AV->RM Eff}(h: ∀v,W0 (k v)):W0 (.slot g k):=λs e j=>by
 simp only[RM.run]at j;split at j;exact h _ s e j;cases j
theorem gW{α:Type}(a:α):B0 (.ret a):=λs e _ b h=>by grind [RM.reads]
theorem sA{α:Type}:B0 (.fail:RM α):=λs e h=>by cases h
theorem oA(x:Option AV):B0 (val x):=by cases x<;>first|exact sA|exact gW _
theorem cU{α β:Type}{m:RM α}{f:α->RM β}(hm:B0 m)(h: ∀a,B0 (f a)):B0 (m.bind f):=λs e j b g=>by
 rw[run_bind]at j;rw[vD]at g;cases hr:m.run s with
 |none=>simp_all
 |some a=>
  rw[hr]at j g;rcases zQ9.1 g with g|g;exact hm s a hr b g;exact h a s e j b (by simpa using g)
theorem eM(x:Opd):B0 (ev x):=by
 cases x with
 |t n=>exact λs e _ b h=>by grind [ev,RM.reads]
 |c v=>exact gW _
theorem JIL{α:Type}{g:Nat}{k:AV->RM α}(h: ∀v,B0 (k v)):B0 (.slot g k):=λs e n b j=>by
 simp only[RM.run]at n;simp only[RM.reads,dZ]at j;rcases j with j|j;cases j;cases hl:lk g s.env with
 |none=>simp_all
 |some v=>rw[hl]at n j;exact h v s e n b j
theorem XH: ∀xs:List Opd,B0 (evs xs)|[]=>gW _|x::xs=>cU (eM x) λ_=>cU (XH xs) λ_=>gW _
theorem WG(x:Option Opd):B0 (evo x):=by
 cases x with
 |none=>exact gW _
 |some x=>exact cU (eM x) λ_=>gW _
theorem o5: ∀(xs:List (Nat×Nat×Opd)),B0 (jE xs)
 |[]=>gW _
 |(a,b,x)::xs=>by
  unfold jE;refine cU (eM x) λv=>?_;split;exact cU (o5 xs) λ_=>gW _;simp[sA]
theorem li(lo hi mx:Option AV)(c:PV)(hc: ∀l,c≠.s l):jF .str (.p c) lo hi mx=none:=by
 cases mx with
 |some _=>rfl
 |none=>cases c<;>first|rfl|simp_all
theorem JJj(F:Orc)(op:AOp)(new:Nat)(h:wB op=false):W0 (opR F op new):=by
 cases op with
 |mkarr=>cases h
 |newboxo=>cases h
 |buildo=>cases h
 |storen=>cases h
 |callo=>cases h
 |newbox=>cases h
 |box=>cases h
 |lits=>cases h
 |store=>cases h
 |mkslice=>cases h
 |call=>cases h
 |callv=>cases h
 |app=>cases h
 |appz=>cases h
 |appc=>cases h
 |ppre=>cases h
 |psuf=>cases h
 |appp=>cases h
 |appn=>cases h
 |mv x=>exact cY λ_=>oB _
 |pick c a b=>
  refine cY λv=>?_;grind [cY,oB,qF]
 |build zero parts=>
  refine cY λv=>?_;grind [mO,qF]
 |load agg size x=>
  refine cY λv=>?_;unfold fW;split
  all_goals grind [mO,qF,Au]
 |nilchk x=>
  refine cY λv=>?_;grind [oB,qF]
 |bin op t x y=>exact cY λ_=>cY λ_=>mO _
 |un op x=>exact cY λ_=>mO _
 |conv k x=>
  refine cY λv=>?_;split;exact oB _;exact oB _;grind [cY,oB,qF];cases h;simp[qF]
 |slice k x lo hi mx=>
  cases k with
  |sl esz=>cases h
  |str=>
   refine cY λv=>cY λ_=>cY λ_=>cY λ_=>?_;split;rename_i b i n;intro s e g;exfalso;rw[run_bind]at g;cases h1:(fz (.slr b i n)).run s<;>grind [fz,RM.run,li]
   simp[mO]
 |faddr off x=>exact cY λ_=>mO _
 |field agg off size x=>exact cY λ_=>mO _
 |iaddr esz x y=>
  refine cY λv=>cY λu=>?_;unfold kY;grind [qF,oB,Au]
 |aaddr len esz x y=>exact cY λ_=>cY λ_=>mO _
 |sidx x y=>
  refine cY λv=>cY λu=>?_;grind [qF,oB]
 |aidx agg len esz x y=>
  refine cY λv=>cY λu=>?_;grind [mO,qF]
 |extr x i=>exact cY λ_=>mO _
 |len str x=>exact cY λ_=>mO _
 |alen n=>exact oB _
 |mm mx x y=>exact cY λ_=>cY λ_=>mO _
 |mkfn f a b=>exact cY λ_=>cY λ_=>oB _
theorem JJT(F:Orc)(op:AOp)(new:Nat)(h:EU op=false):B0 (opR F op new):=by
 cases op with
 |mkarr=>cases h
 |newboxo=>cases h
 |buildo=>cases h
 |storen=>cases h
 |callo=>cases h
 |newbox=>cases h
 |box=>cases h
 |lits=>cases h
 |store=>cases h
 |mkslice=>cases h
 |call=>cases h
 |callv=>cases h
 |app=>cases h
 |appz=>cases h
 |appc=>cases h
 |ppre=>cases h
 |psuf=>cases h
 |appp=>cases h
 |appn=>cases h
 |load=>cases h
 |iaddr=>cases h
 |mv x=>exact cU (eM x) λ_=>gW _
 |pick c a b=>
  refine cU (eM c) λv=>?_;grind [cU,eM,gW,sA]
 |build zero parts=>
  refine cU (o5 parts) λv=>?_;grind [oA,sA]
 |nilchk x=>
  refine cU (eM x) λv=>?_;grind [gW,sA]
 |bin op t x y=>exact cU (eM x) λ_=>cU (eM y) λ_=>oA _
 |un op x=>exact cU (eM x) λ_=>oA _
 |conv k x=>
  refine cU (eM x) λv=>?_;split;exact gW _;exact gW _;cases h;cases h;simp[sA]
 |slice k x lo hi mx=>
  cases k with
  |sl esz=>cases h
  |str=>
   refine cU (eM x) λv=>cU (WG lo) λ_=>cU (WG hi) λ_=>cU (WG mx) λ_=>?_;split;rename_i b i n;intro s e g;exfalso;rw[run_bind]at g;cases h1:(fz (.slr b i n)).run s<;>grind [fz,RM.run,li]
   simp[oA]
 |faddr off x=>exact cU (eM x) λ_=>oA _
 |field agg off size x=>exact cU (eM x) λ_=>oA _
 |aaddr len esz x y=>exact cU (eM x) λ_=>cU (eM y) λ_=>oA _
 |sidx x y=>
  refine cU (eM x) λv=>cU (eM y) λu=>?_;grind [sA,gW]
 |aidx agg len esz x y=>
  refine cU (eM x) λv=>cU (eM y) λu=>?_;grind [oA,sA]
 |extr x i=>exact cU (eM x) λ_=>oA _
 |len str x=>exact cU (eM x) λ_=>oA _
 |alen n=>exact gW _
 |mm mx x y=>exact cU (eM x) λ_=>cU (eM y) λ_=>oA _
 |mkfn f a b=>exact cU (XH a) λ_=>cU (XH b) λ_=>gW _
theorem Ay{op:AOp}(h:EU op=false):wB op=false:=by
 cases op<;>first|rfl|cases h|skip
 rename_i k x;cases k<;>first|rfl|cases h
 rename_i k x lo hi mx;cases k<;>first|rfl|cases h
theorem JIu{op:AOp}(h:wB op=false):jT op=0:=by
 cases op<;>first|rfl|cases h|skip
 rename_i k x;cases k<;>first|rfl|cases h
theorem XZ(F:Orc)(i:bS)(new:Nat)(h:wB i.op=false):W0 (bW F i new):=by
 have h1:W0 (opD F i.op new):=cY λ_=>JJj F _ _ h;grind [bW,JI5,oB,qF]
theorem lx(F:Orc)(i:bS)(new:Nat)(h:EU i.op=false):B0 (bW F i new):=by
 have h1:B0 (opD F i.op new):=by unfold opD;rw[JIu (Ay h)];exact cU (gW _) λ_=>JJT F _ _ h
 grind [bW,JIL,gW,sA]
end Go.Am
end
section
namespace Go.Am
theorem bind_some{α β:Type}{m:RM α}{f:α->RM β}{s:St}{b:β}(h:(m.bind f).run s=some b): ∃a,m.run s=some a/\(f a).run s=some b:=by rw[run_bind]at h;cases hm:m.run s<;>simp_all
theorem fY{x:Option AV}{s:St}{e:Eff}(h:(val x).run s=some e): ∃v,x=some v/\e=⟨v,[]⟩:=by cases x<;>simp_all [val,RM.run]
theorem ll{w C c v}(h:okP c v=true):J0g w C c v:=by
 unfold okP at h;split at h;rename_i x y;have:x=y:=by simpa using h
 subst this;exact .b _;simp at h;obtain⟨rfl,rfl⟩:=h;exact .i _ _;rename_i l e;have:l=e.data.toList:=by simpa using h
 subst this;exact .s _;exact .sl0 _ _ _;exact .np;exact .nf;cases h
theorem OM{w C}: ∀{cs:List PV} {vs:List Value},wT cs vs=true->cs.length=vs.length/\ ∀(i:Nat) x v,cs[i]?=some x->vs[i]?=some v->J0g w C x v
 |[],[],_=>⟨rfl,λi x v h=>by simp at h⟩
 |x::xs,v::vs,h=>by
  simp only[wT,JW]at h;obtain⟨h1,h2⟩:=OM (w:=w) (C:=C) h.2;grind [ll]
 |[],_::_,h=>by grind [wT]
 |_::_,[],h=>by grind [wT]
theorem JHF{s:Sn}{c v}(h:okC c v=true):JD s c v:=by
 unfold okC at h;split at h;exact .p _ _ (ll h);rename_i cs vs;obtain⟨h1,h2⟩:=OM (w:=s.w) (C:=s.g.C) h;exact .data _ _ (by simpa using h1) λi x v j e=>h2 i x v j (by simpa using e);rename_i f g a c;simp at h;obtain⟨⟨rfl,rfl⟩,rfl⟩:=h;exact .fn _ _ _ _ _ rfl rfl (λi x v h=>by simp at h) (λi x v h=>by simp at h);simp at h;subst h;exact .tup _ _ rfl (λi x v h=>by simp at h);cases h
def bI(s:Sn)(tmps:Array Value)(env:List (Nat×AV)):Prop:= ∀n x,lk n env=some x-> ∃v,tmps[n]?=some v/\JD s x v
theorem bI.mono{s0 s:Sn}(hi:Inv s0)(t:aW s0 s){tmps env}(h:bI s0 tmps env):bI s tmps env:=
 λn x e=>let⟨v,h1,h2⟩:=h n x e;⟨v,h1,h2.mono hi t⟩
section
variable {P:Program} {s:Sn} {a:Act} {env:List (Nat×AV)}
theorem bD(he:bI s a.tmps env){x:Opd}{y:Operand}{v:AV}(h:(ev x).run ⟨env,s.σ⟩=some v)(hc:bF x y=true):JD s v (a.eval y):=by
 cases x with
 |t n=>
  cases y<;>simp[bF]at hc;subst hc;simp only[ev,RM.run]at h;split at h
  rename_i u e;injection h with h;subst h;obtain⟨w,h1,h2⟩:=he _ _ e;simp_all [Act.eval];cases h
 |c z=>
  simp only[ev,RM.run]at h;injection h with h;subst h;cases y with
  |const u=>exact JHF (v:=u) (by grind [bF])
  |func g=>
   cases z<;>simp[bF]at hc;rename_i f first caps
   cases first<;>cases caps<;>simp[bF]at hc
   subst hc;exact .fn _ _ _ _ _ rfl rfl (λi x v h=>by simp at h) (λi x v h=>by simp at h)
  |tmp n=>grind [bF]
  |global n=>grind [bF]
theorem CD(he:bI s a.tmps env): ∀{xs:List Opd} {e:List Operand} {vs:List AV},(evs xs).run ⟨env,s.σ⟩=some vs->hE xs e=true->
  vs.length=e.length/\ ∀(i:Nat) x v,vs[i]?=some x->(e.map a.eval)[i]?=some v->JD s x v
 |[],[],vs,h,_=>by
  grind [evs,RM.run]
 |x::xs,y::e,vs,h,g=>by
  simp only[hE,JW]at g;simp only[evs]at h;obtain⟨u,h1,h⟩:=bind_some h;obtain⟨j,h2,h⟩:=bind_some h;simp only[RM.run]at h;injection h with h;subst h;obtain⟨l,r⟩:=CD he h2 g.2;grind [bD]
 |[],_::_,_,_,g=>by grind [hE]
 |_::_,[],_,_,g=>by grind [hE]
def bH(P:Program)(o:Oper)(a:Act)(s:Sn)(e:Eff):Prop:= ∀(next:Act->World->Prop) (Q:Exit->Act->World->Prop),(∀v w' g',Inv ⟨upd e.ws s.σ,g',w'⟩->aW s ⟨upd e.ws s.σ,g',w'⟩->JD ⟨upd e.ws s.σ,g',w'⟩ e.val v->next (a.put o.dst v) w')->o.wp P a s.w next Q
theorem fO{o:Oper}{e:Eff}{v:Value}{w':World}{g':Gh}(hr:(execOp a.eval o).run P s.w=.ok (.value v) w')
  (hi:Inv ⟨upd e.ws s.σ,g',w'⟩) (t:aW s ⟨upd e.ws s.σ,g',w'⟩) (hv:JD ⟨upd e.ws s.σ,g',w'⟩ e.val v):bH P o a s e:=by
 intro next Q h;grind [Oper.wp,Oper.upon]
theorem JE{o:Oper}{x:AV}{v:Value}(hi:Inv s)(hr:(execOp a.eval o).run P s.w=.ok (.value v) s.w)(hv:JD s x v):bH P o a s ⟨x,[]⟩:=
 fO (e:=⟨x,[]⟩) (g':=s.g) hr hi (.refl s) hv
theorem ru{t:TypeId}{i:TypeInfo}(h:P.info? t=some i)(w:World):(typeInfo t).run P w=.ok i w:=by simp[typeInfo,h]
theorem gL{t:TypeId}{n:Nat}(h:szT P t=some n)(w:World):(sizeOf t).run P w=.ok n w:=by unfold szT at h;cases hi:P.info? t<;>simp_all [sizeOf,ru]
theorem CH{t:TypeId}{b:Bool}(h:agT P t=some b)(w:World):(isAgg t).run P w=.ok b w:=by
 unfold agT at h;cases hu:P.underlying t with
 |none=>simp_all
 |some d=>rw[hu]at h;simp at h;simp only[isAgg,wD,run_underlying hu,rH];subst h;cases d<;>rfl
theorem eY{t e:TypeId}(h:elT P t=some e):P.underlying t=some (.slice e):=by
 grind [elT]
theorem uY{t:TypeId}(h:hH P t=true):P.underlying t=some .string:=by
 grind [hH]
theorem n3{t:TypeId}(h:SG P t=true):P.underlying t=some (.int .u8):=by
 grind [SG]
theorem Fk{t:TypeId}(h:XO P t=true):P.underlying t=some .bool:=by
 grind [XO]
theorem JDM{t:TypeId}(h:ju P t=true): ∃k,P.underlying t=some (.int k):=by
 grind [ju]
theorem JD2{t:TypeId}{k:IntKind}(h:XB P k t=true):P.underlying t=some (.int k):=by
 grind [XB]
theorem YO{t e:TypeId}{n:Nat}(h:arT P t=some (n,e)):P.underlying t=some (.array n e):=by
 grind [arT]
theorem nj{t:TypeId}{fs:Array Field}(h:flT P t=some fs):P.underlying t=some (.struct fs):=by
 grind [flT]
theorem hJ{x k n}(h:JD s (.p (.i k n)) x):x=.int k n:=by cases h with|p _ _ h=>cases h;rfl
theorem MY{x n}(h:JD s (.p (.b n)) x):x=.bool n:=by cases h with|p _ _ h=>cases h;rfl
theorem rS{x l}(h:JD s (.p (.s l)) x):x=.string ⟨l.toArray⟩:=by cases h with|p _ _ h=>cases h;rfl
theorem JHx{x}(h:JD s (.p .np) x):x=.pointer none:=by cases h with|p _ _ h=>cases h;rfl
theorem JIQ{x}(h:JD s (.p .nf) x):x=.nilFunc:=by cases h with|p _ _ h=>cases h;rfl
theorem oF(k n):JD s (.p (.i k n)) (.int k n):=.p _ _ (.i _ _)
theorem oI(n):JD s (.p (.b n)) (.bool n):=.p _ _ (.b _)
theorem lu(l):JD s (.p (.s l)) (.string ⟨l.toArray⟩):=.p _ _ (.s _)
theorem rY(l:List UInt8):ByteArray.size ⟨l.toArray⟩=l.length:=by simp[ByteArray.size]
theorem JE2(l m:List UInt8):(⟨l.toArray⟩:ByteArray)++⟨m.toArray⟩=⟨(l++m).toArray⟩:=by apply ByteArray.ext;simp_all
theorem Fl{op:BinOp}{k:IntKind}{x y:Int}{t:TypeId}{r:PV}(n:op≠.shl)(j:op≠.shr)(h:vW op k x y=some r)(w:World):
  ∃v,(binOp op t (.int k x) (.int k y)).run P w=.ok v w/\J0g s.w s.g.C r v:=by
 cases op<;>simp only[vW]at h
 case add=>injection h with h;subst h;exact⟨_,by simp[binOp,Op.intArith],.i _ _⟩
 case sub=>injection h with h;subst h;exact⟨_,by simp[binOp,Op.intArith],.i _ _⟩
 case mul=>injection h with h;subst h;exact⟨_,by simp[binOp,Op.intArith],.i _ _⟩
 case quo=>split at h
           cases h;rename_i e;injection h with h;subst h;exact⟨_,by simp[binOp,Op.intDiv,e],.i _ _⟩
 case rem=>split at h
           cases h;rename_i e;injection h with h;subst h;exact⟨_,by simp[binOp,Op.intDiv,e],.i _ _⟩
 case and=>injection h with h;subst h;exact⟨_,by simp[binOp,Op.intBits],.i _ _⟩
 case or=>injection h with h;subst h;exact⟨_,by simp[binOp,Op.intBits],.i _ _⟩
 case xor=>injection h with h;subst h;exact⟨_,by simp[binOp,Op.intBits],.i _ _⟩
 case eql=>injection h with h;subst h;exact⟨_,by simp[binOp,Op.intCmp],.b _⟩
 case neq=>injection h with h;subst h;exact⟨_,by simp[binOp,Op.intCmp],.b _⟩
 case lss=>injection h with h;subst h;exact⟨_,by simp[binOp,Op.intCmp],.b _⟩
 case leq=>injection h with h;subst h;exact⟨_,by simp[binOp,Op.intCmp],.b _⟩
 case gtr=>injection h with h;subst h;exact⟨_,by simp[binOp,Op.intCmp],.b _⟩
 case geq=>injection h with h;subst h;exact⟨_,by simp[binOp,Op.intCmp],.b _⟩
 all_goals simp_all
theorem tk{op:BinOp}{k j:IntKind}{x y:Int}{t:TypeId}{r:PV}(hs:op=.shl\/op=.shr)(h:GW op k x y=some r)(w:World):
  ∃v,(binOp op t (.int k x) (.int j y)).run P w=.ok v w/\J0g s.w s.g.C r v:=by
 unfold GW at h;split at h;cases h;rename_i e;rcases hs with rfl|rfl;injection h with h;subst h;exact⟨_,by simp[binOp,Op.shift,e],.i _ _⟩;injection h with h;subst h;exact⟨_,by simp[binOp,Op.shift,e],.i _ _⟩
theorem D6{op:BinOp}{x y:List UInt8}{t:TypeId}{r:PV}(h:wK op x y=some r)(w:World):
  ∃v,(binOp op t (.string ⟨x.toArray⟩) (.string ⟨y.toArray⟩)).run P w=.ok v w/\J0g s.w s.g.C r v:=by
 cases op<;>simp only[wK]at h
 case add=>
  split at h;rename_i e;injection h with h;subst h;refine⟨.string ⟨(x++y).toArray⟩,?_,.s _⟩;have h1: ¬(((ByteArray.size ⟨x.toArray⟩+ByteArray.size ⟨y.toArray⟩:Nat):Int)>IntKind.i64.max):=by rw[rY,rY];show¬(_>(9223372036854775807:Int));omega
  simp_all [binOp,Op.stringOp,JE2];cases h
 case eql=>injection h with h;subst h;exact⟨.bool (x==y),by simp[binOp,Op.stringOp],.b _⟩
 case neq=>injection h with h;subst h;exact⟨.bool (!(x==y)),by simp[binOp,Op.stringOp],.b _⟩
 case lss=>injection h with h;subst h;exact⟨.bool (Op.bytesLess x y),by simp[binOp,Op.stringOp],.b _⟩
 case leq=>injection h with h;subst h;exact⟨.bool (Op.bytesLess x y||x==y),by simp[binOp,Op.stringOp],.b _⟩
 case gtr=>injection h with h;subst h;exact⟨.bool (!(Op.bytesLess x y||x==y)),by simp[binOp,Op.stringOp],.b _⟩
 case geq=>injection h with h;subst h;exact⟨.bool (!Op.bytesLess x y),by simp[binOp,Op.stringOp],.b _⟩
 all_goals cases h
end
end Go.Am
end
section
namespace Go.Am
section
variable {P:Program} {F:Orc} {s:Sn} {a:Act} {env:List (Nat×AV)} {o:Oper} {new:Nat} {e:Eff}
theorem Z0(hi:Inv s)(he:bI s a.tmps env){x}(h:(opR F (.mv x) new).run ⟨env,s.σ⟩=some e)(hc:JS P (.mv x) o.op=true):bH P o a s e:=by
 simp only[opR]at h;obtain⟨v,h1,h⟩:=bind_some h;simp only[RM.run]at h;injection h with h;subst h;unfold JS at hc;simp only at hc;split at hc;rename_i y g;exact JE hi (by simp_all [execOp]) (bD he h1 hc);rename_i y g;exact JE hi (by simp_all [execOp]) (bD he h1 hc);cases hc
theorem JHK(hi:Inv s)(he:bI s a.tmps env){c x y}(h:(opR F (.pick c x y) new).run ⟨env,s.σ⟩=some e)(hc:JS P (.pick c x y) o.op=true):bH P o a s e:=by
 simp only[opR]at h;obtain⟨v,h1,h⟩:=bind_some h;unfold JS at hc;simp only at hc;split at hc;rename_i c' k j n;simp only[JW]at hc;split at h;rename_i b;have q:=MY (bD he h1 hc.1.1);split at h;rename_i g;obtain⟨u,h2,h⟩:=bind_some h;simp only[RM.run]at h;injection h with h;subst h;exact JE hi (v:=a.eval k) (by simp_all [execOp,asBool]) (bD he h2 hc.1.2);rename_i g;obtain⟨u,h2,h⟩:=bind_some h;simp only[RM.run]at h;injection h with h;subst h;have g:b=false:=by simpa using g
 exact JE hi (v:=a.eval j) (by simp_all [execOp,asBool]) (bD he h2 hc.2);grind [RM.run];cases hc
theorem JDm(hi:Inv s)(he:bI s a.tmps env){x}(h:(opR F (.nilchk x) new).run ⟨env,s.σ⟩=some e)(hc:JS P (.nilchk x) o.op=true):bH P o a s e:=by
 simp only[opR]at h;obtain⟨v,h1,h⟩:=bind_some h;unfold JS at hc;simp only at hc;split at hc;rename_i y n;have g:=bD he h1 hc;split at h<;>(simp only[RM.run]at h;try cases h)
 refine JE hi (v:=a.eval y) ?_ g;generalize j:a.eval y=u at g;cases g;simp_all [execOp];refine JE hi (v:=a.eval y) ?_ g;generalize j:a.eval y=u at g;cases g;simp_all [execOp];refine JE hi (v:=a.eval y) ?_ g;generalize j:a.eval y=u at g;cases g with
 |ep _ _ _ _ _ _ _ _ k=>obtain⟨r,q,rfl⟩:=k;simp_all [execOp]
 refine JE hi (v:=a.eval y) ?_ g;generalize j:a.eval y=u at g;cases g;simp_all [execOp];cases hc
theorem IX{op:BinOp}{t:TypeId}{x y:Operand}{u v:Value}(h:(∀c,u≠.agg c)/\u≠.nilIface)(w:World):(eqGuard op t x y u v).run P w=.ok () w:=by simp_all [eqGuard]
theorem Ia(hi:Inv s)(he:bI s a.tmps env){op x y}(h:(opR F (.bin op .plain x y) new).run ⟨env,s.σ⟩=some e)(hc:JS P (.bin op .plain x y) o.op=true):bH P o a s e:=by
 simp only[opR]at h;obtain⟨u,h1,h⟩:=bind_some h;obtain⟨v,h2,h⟩:=bind_some h;obtain⟨r,g,rfl⟩:=fY h;unfold JS at hc;simp only at hc;split at hc;rename_i M t B E ty L;simp only[JW,beq_iff_eq]at hc;obtain⟨⟨rfl,K⟩,J⟩:=hc;have C:=bD he h1 K;have D:=bD he h2 J;have j: ∀{z:Value},(∀c,a.eval B≠.agg c)/\a.eval B≠.nilIface->(binOp op t (a.eval B) (a.eval E)).run P s.w=.ok z s.w->(execOp a.eval o).run P s.w=.ok (.value z) s.w:=by simp_all [execOp,IX]
 simp only[lX]at g;split at g;rename_i N p O q;rw[hJ C,hJ D]at j;split at g;obtain⟨z,k,rfl⟩:=gZ.1 g;obtain⟨v,A,n⟩:=tk (s:=s) (P:=P) (t:=t) (.inl rfl) k s.w;exact JE hi (j (by simp) A) (.p _ _ n);obtain⟨z,k,rfl⟩:=gZ.1 g;obtain⟨v,A,n⟩:=tk (s:=s) (P:=P) (t:=t) (.inr rfl) k s.w;exact JE hi (j (by simp) A) (.p _ _ n);rename_i G H;split at g;rename_i I;subst I;obtain⟨z,k,rfl⟩:=gZ.1 g;obtain⟨v,A,n⟩:=Fl (s:=s) (P:=P) (t:=t) (λe=>G e) (λe=>H e) k s.w;exact JE hi (j (by simp) A) (.p _ _ n);cases g;rw[rS C,rS D]at j;obtain⟨z,k,rfl⟩:=gZ.1 g;obtain⟨v,A,n⟩:=D6 (s:=s) (P:=P) (t:=t) k s.w;exact JE hi (j (by simp) A) (.p _ _ n);cases g;cases hc
theorem F3(hi:Inv s)(he:bI s a.tmps env){op x y}(h:(opR F (.bin op .bool x y) new).run ⟨env,s.σ⟩=some e)(hc:JS P (.bin op .bool x y) o.op=true):bH P o a s e:=by
 simp only[opR]at h;obtain⟨u,h1,k⟩:=bind_some h;obtain⟨v,h2,j⟩:=bind_some k;obtain⟨r,g,rfl⟩:=fY j;clear h k j;unfold JS at hc;simp only at hc;split at hc
 ·rename_i D t H G ty C;simp only[JW,beq_iff_eq]at hc;obtain⟨⟨rfl,B⟩,A,n⟩:=hc;have w:=bD he h1 B;have z:=bD he h2 A;have J:=Fk n;simp only[lX]at g;split at g
  ·rename_i _ _ p q;have E:=MY w;have I:=MY z;cases op<;>simp only[iE]at g<;>first|(injection g with g;subst g)|cases g
   all_goals simp_all [JE,execOp,eqGuard,binOp,run_equal_bool,oI]
  cases g
 cases hc
theorem PC{op:BinOp}{t:TypeId}{u v:Value}{b:Bool}(ho:op=.eql\/op=.neq){w:World}(h:(Op.equal t u v).run P w=.ok b w)
  (hu:(∃x n c,u=.slice x n c)\/(∃p,u=.pointer p/\v=.pointer none)\/u=.nilFunc\/(∃f y c,u=.func f y c)):
  (binOp op t u v).run P w=.ok (.bool (if op=.eql then b else !b)) w:=by
 rcases ho with rfl|rfl;have:binOp .eql t u v=(do pure (.bool (<-Op.equal t u v))):=(by grind [binOp]);simp_all;have:binOp .neq t u v=(do pure (.bool (!(<-Op.equal t u v)))):=(by grind [binOp]);simp_all
theorem sE{op:BinOp}{b:Bool}{r:AV}(h:iE op (some b)=some r):(op=.eql\/op=.neq)/\r=.p (.b (if op=.eql then b else !b)):=by
 cases op<;>simp[iE]at h
 all_goals simp_all
theorem pk{op:BinOp}{r:AV}(h:ER op=some r):(op=.eql\/op=.neq)/\r=.unk:=by
 cases op<;>simp[ER]at h
 all_goals simp_all
theorem Ef(hi:Inv s)(he:bI s a.tmps env){op x y}(h:(opR F (.bin op .nils x y) new).run ⟨env,s.σ⟩=some e)(hc:JS P (.bin op .nils x y) o.op=true):bH P o a s e:=by
 simp only[opR]at h;obtain⟨u,h1,E⟩:=bind_some h;obtain⟨v,h2,C⟩:=bind_some E;obtain⟨r,g,rfl⟩:=fY C;clear h E C h2;unfold JS at hc;simp only at hc;split at hc;rename_i M t B H ty L;simp only[JW,beq_iff_eq]at hc;obtain⟨⟨rfl,K⟩,A⟩:=hc;have D:=bD he h1 K;clear h1;have I:H=.const (.slice none 0 0)/\ ∃el,P.underlying t=some (.slice el):=(by unfold zf at A;split at A;obtain⟨el,N⟩:=gi.1 A;simp_all [eY];cases A);obtain⟨rfl,el,J⟩:=I;have go: ∀(z:Option Addr) (n c:Nat),a.eval B=.slice z n c->(op=.eql\/op=.neq)->
   (execOp a.eval o).run P s.w=.ok (.value (.bool (if op=.eql then z.isNone else !z.isNone))) s.w:=by
  intro z n c k j;have h1:=PC (P:=P) (t:=t) j (run_equal_slice_nil s.w t el z n c J) (.inl ⟨z,n,c,rfl⟩);simp_all [execOp,IX,Act.eval]
 simp only[lX]at g;split at g;rename_i esz rows;cases D with
 |p _ _ q=>
  split at g;obtain⟨j,rfl⟩:=pk g;generalize k:a.eval B=z at q;cases q with
  |sl0 _ ad cap=>exact JE hi (go _ _ _ k j) (.unk _)
  |sl _ _ r Q cap vals=>exact JE hi (go _ _ _ k j) (.unk _)
  obtain⟨j,rfl⟩:=sE g;generalize k:a.eval B=z at q;cases q<;>simp_all [JE,oI]
 rename_i b i n;generalize k:a.eval B=z at D;cases D with
 |slr _ _ _ _ wm esz rows G=>
  obtain⟨ad,cap,rfl,R⟩:=G;split at g;obtain⟨j,rfl⟩:=pk g;exact JE hi (go _ _ _ k j) (.unk _);rename_i O;obtain⟨j,rfl⟩:=sE g;have:ad.isNone=false:=by cases ad<;>simp_all
  grind [JE,oI]
 cases g;cases hc
theorem D2(hi:Inv s)(he:bI s a.tmps env){op x y}(h:(opR F (.bin op .nilp x y) new).run ⟨env,s.σ⟩=some e)(hc:JS P (.bin op .nilp x y) o.op=true):bH P o a s e:=by
 simp only[opR]at h;obtain⟨u,h1,q⟩:=bind_some h;obtain⟨v,h2,n⟩:=bind_some q;obtain⟨r,g,rfl⟩:=fY n;clear h q n h2;unfold JS at hc;simp only at hc;split at hc;rename_i H t A B ty G;simp only[JW,beq_iff_eq]at hc;obtain⟨⟨rfl,E⟩,I⟩:=hc;have j:=bD he h1 E;clear h1;have D:B=.const (.pointer none)/\ ∃el,P.underlying t=some (.pointer el):=(by grind [zu]);obtain⟨rfl,el,J⟩:=D;have go: ∀(z:Option Addr),a.eval A=.pointer z->(op=.eql\/op=.neq)->
   (execOp a.eval o).run P s.w=.ok (.value (.bool (if op=.eql then z.isNone else !z.isNone))) s.w:=by
  intro z C k;have:P.pointee t=el:=by grind [Program.pointee]
  simp_all [PC,run_equal_pointer_nil,execOp,IX,Act.eval]
 simp only[lX]at g;generalize C:a.eval A=z at j;split at g;obtain⟨k,rfl⟩:=sE g;grind [JHx,JE,oI];obtain⟨k,rfl⟩:=sE g;cases j;grind [JE,oI];obtain⟨k,rfl⟩:=sE g;cases j;grind [JE,oI];obtain⟨k,rfl⟩:=sE g;cases j<;>grind [JE,oI]
 cases g;cases hc
theorem Dj(hi:Inv s)(he:bI s a.tmps env){op x y}(h:(opR F (.bin op .nilf x y) new).run ⟨env,s.σ⟩=some e)(hc:JS P (.bin op .nilf x y) o.op=true):bH P o a s e:=by
 simp only[opR]at h;obtain⟨u,h1,q⟩:=bind_some h;obtain⟨v,h2,k⟩:=bind_some q;obtain⟨r,g,rfl⟩:=fY k;clear h q k h2;unfold JS at hc;simp only at hc;split at hc;rename_i I t D C ty H;simp only[JW,beq_iff_eq]at hc;obtain⟨⟨rfl,G⟩,J⟩:=hc;have n:=bD he h1 G;clear h1;have E:C=.const .nilFunc/\ ∃p r v,P.underlying t=some (.func p r v):=(by grind [x7]);obtain⟨rfl,p,K,vv,B⟩:=E;simp only[lX]at g;generalize L:a.eval D=z at n;split at g;obtain⟨A,rfl⟩:=sE g;have:=JIQ n;subst this;have j:(Op.equal t .nilFunc .nilFunc).run P s.w=.ok true s.w:=by
  have: ∀d,(Op.equalIn (d+1) t .nilFunc .nilFunc).run P s.w=.ok true s.w:=λd=>by simp[Op.equalIn,run_underlying B]
  exact this 9999
 simp_all [PC,JE,oI,execOp,IX,Act.eval];obtain⟨A,rfl⟩:=sE g;cases n;rename_i f _ _ fs cs _ _ _ _;have j:(Op.equal t (.func (.func f) fs cs) .nilFunc).run P s.w=.ok false s.w:=by
  have: ∀d,(Op.equalIn (d+1) t (.func (.func f) fs cs) .nilFunc).run P s.w=.ok false s.w:=λd=>by simp[Op.equalIn,run_underlying B]
  exact this 9999
 have h1:=PC (P:=P) (t:=t) A j (.inr (.inr (.inr ⟨_,_,_,rfl⟩)));simp_all [JE,oI,execOp,IX,Act.eval];cases g;cases hc
end
end Go.Am
end
section
namespace Go.Am
theorem CZ: ∀{vs:List Value} {w:World} {r o:Nat} {c:Array Value} {e:TypeId} {fz:Nat×Nat},w.heap[r]?=some (.cells c e fz)->o+vs.length<=c.size->
  Put r o vs w (w.setCells r o vs)
 |[],w,r,o,c,e,fz,h,n=>⟨⟨c,e,fz,c,h,h,rfl,n,λj v x=>by simp at x,λ_ _=>rfl⟩,λ_ _=>rfl,rfl,rfl,rfl⟩
 |v::vs,w,r,o,c,e,fz,h,n=>by
  have K:=CV h;have q:o+1+vs.length<=c.size:=by grind
  have h1:(w.setCell ⟨r,o,none⟩ v).heap[r]?=some (.cells (c.setIfInBounds o v) e fz):=(by grind [World.setCell]);obtain⟨⟨H,L,D,c',g,z,y,F,E,G⟩,J,M,B,A⟩:=CZ (vs:=vs) (o:=o+1) h1 (by simpa using q);rw[h1]at g;injection g with g;injection g with a1 a2 a3;subst a1 a2 a3;refine⟨⟨c,e,fz,c',h,z,by simpa using y,n,λj u x=>?_,λk I=>?_⟩,λr' C=>?_,?_,B,A⟩;grind;grind;show((w.setCell ⟨r,o,none⟩ v).setCells r (o+1) vs).heap[r']?=_;grind [World.setCell];show((w.setCell ⟨r,o,none⟩ v).setCells r (o+1) vs).heap.size=_;simp_all
theorem J0g.one{w C x v}(h:J0g w C x v):v.oneCell'=true:=by cases h<;>rfl
theorem J0g.cells1{w C x v}(h:J0g w C x v):v.cells= #[v]:=by cases h<;>rfl
section
variable {P:Program} {F:Orc} {s:Sn} {a:Act} {env:List (Nat×AV)} {o:Oper} {new:Nat} {e:Eff}
theorem JL4(hi:Inv s)(he:bI s a.tmps env){op x}(h:(opR F (.un op x) new).run ⟨env,s.σ⟩=some e)(hc:JS P (.un op x) o.op=true):bH P o a s e:=by
 simp only[opR]at h;obtain⟨u,h1,q⟩:=bind_some h;obtain⟨r,g,rfl⟩:=fY q;clear h q;unfold JS at hc;simp only at hc;split at hc;rename_i B t y A;simp only[JW,beq_iff_eq]at hc;obtain⟨rfl,w⟩:=hc;have j:=bD he h1 w;clear h1;generalize C:a.eval y=z at j;unfold unP at g;split at g<;>first|(injection g with g;subst g)|cases g
 rename_i k n;have:=hJ j;simp_all [JE,execOp,Op.unary,Op.intArith,oF];rename_i k n;have:=hJ j;simp_all [JE,execOp,Op.unary,Op.intBits,oF];rename_i b;have:=MY j;simp_all [JE,execOp,Op.unary,oI];cases j with
 |unk b=>exact JE hi (v:=.bool (!b)) (by simp_all [execOp,Op.unary]) (.unk _)
 cases hc
theorem JFy(hi:Inv s)(he:bI s a.tmps env){off x}(h:(opR F (.faddr off x) new).run ⟨env,s.σ⟩=some e)(hc:JS P (.faddr off x) o.op=true):bH P o a s e:=by
 simp only[opR]at h;obtain⟨u,h1,C⟩:=bind_some h;obtain⟨r,j,rfl⟩:=fY C;clear h C;unfold JS at hc;simp only at hc;split at hc;rename_i t y f H;simp only[JW]at hc;obtain⟨G,L⟩:=hc;have q:=bD he h1 G;clear h1;have E: ∃fs k n,P.underlying t=some (.struct fs)/\fs[f]?=some k/\k.offset=off/\szT P k.type=some n/\n≠0:=(by grind [nj]);obtain⟨fs,k,n,N,I,rfl,O,J⟩:=E;have go: ∀(r g:Nat),a.eval y=.pointer (some ⟨r,g,none⟩)->(execOp a.eval o).run P s.w=.ok (.value (.pointer (some ⟨r,g+k.offset,none⟩))) s.w:=by simp_all [Addr.add,execOp,Instr.fieldAt,run_underlying,Instr.sureAddr,fieldPlace,gL]
 generalize B:a.eval y=z at q;unfold GQ at j;split at j<;>first|(injection j with j;subst j)|cases j
 cases q with
 |ptr _ _ r g m D=>exact JE hi (go _ _ B) (by rw[EP];exact .ptr _ _ r g m D)
 cases q with
 |cp cs _ r g vals A v=>exact JE hi (go _ _ B) (by rw[EP];exact .cp _ _ r g vals A v)
 cases q with
 |ep _ _ _ _ _ wm esz rows p0 A v K=>
  obtain⟨r,g,rfl⟩:=p0;refine JE hi (go _ _ B) (.ep _ _ _ _ _ wm esz rows ⟨_,_,rfl⟩ A v λQ M=>?_);grind
 cases hc
theorem JIw(hi:Inv s)(he:bI s a.tmps env){x i}(h:(opR F (.extr x i) new).run ⟨env,s.σ⟩=some e)(hc:JS P (.extr x i) o.op=true):bH P o a s e:=by
 simp only[opR]at h;obtain⟨u,h1,n⟩:=bind_some h;obtain⟨r,g,rfl⟩:=fY n;clear h n;unfold JS at hc;simp only at hc;split at hc;rename_i y j k;simp only[JW,beq_iff_eq]at hc;obtain⟨C,rfl⟩:=hc;have q:=bD he h1 C;generalize B:a.eval y=z at q;unfold LJ at g;split at g;cases q with
 |tup cs vs E A=>
  have D:=Jq g;have w:vs[i]?=some vs[i]:=by simp
  exact JE hi (v:=vs[i]) (by simp[execOp,k,B,Instr.extract,w]) (A i r _ g w)
 cases g;cases hc
theorem JHQ(hi:Inv s)(he:bI s a.tmps env){f first caps}(h:(opR F (.mkfn f first caps) new).run ⟨env,s.σ⟩=some e)(hc:JS P (.mkfn f first caps) o.op=true):bH P o a s e:=by
 simp only[opR]at h;obtain⟨u,h1,w⟩:=bind_some h;obtain⟨v,h2,j⟩:=bind_some w;simp only[RM.run]at j;injection j with j;subst j;clear h w;unfold JS at hc;simp only at hc;split at hc
 ·rename_i g k n E;simp only[JW,beq_iff_eq]at hc;obtain⟨⟨rfl,C⟩,r⟩:=hc;obtain⟨A,y⟩:=CD he h1 C;obtain⟨B,z⟩:=CD he h2 r;refine JE hi (v:=.func (.func f) (k.map a.eval) (n.map a.eval)) (by simp_all [execOp,Instr.makeFunc]) (.fn _ _ _ _ _ (by simpa using A) (by simpa using B) (λi x v q D=>y i x v q ?_) (λi x v q D=>z i x v q ?_))
  all_goals simp_all
 cases hc
theorem Zw(hi:Inv s)(he:bI s a.tmps env){mx x y}(h:(opR F (.mm mx x y) new).run ⟨env,s.σ⟩=some e)(hc:JS P (.mm mx x y) o.op=true):bH P o a s e:=by
 simp only[opR]at h;obtain⟨u,h1,w⟩:=bind_some h;obtain⟨v,h2,n⟩:=bind_some w;obtain⟨r,g,rfl⟩:=fY n;clear h w n;unfold JS at hc;simp only at hc;split at hc;rename_i c E;split at hc;rename_i b B;simp only[JW,beq_iff_eq]at hc;obtain⟨J,hc⟩:=hc;split at hc;rename_i A z j;simp only[JW]at hc;have C:=bD he h1 hc.1;have D:=bD he h2 hc.2;have K:c.args.map a.eval= #[a.eval A,a.eval z]:=by apply vV;simp[j]
 unfold mmP at g;split at g;rename_i k p H q;injection g with g;subst g;have G:=hJ C;have I:=hJ D;cases mx;simp_all [JE,oF,execOp,resolve,invoke,builtin,Builtin.min_,Builtin.min2];simp_all [JE,oF,execOp,resolve,invoke,builtin,Builtin.max_,Builtin.max2];cases g;cases hc;cases hc;cases hc
theorem JJ6(hi:Inv s)(he:bI s a.tmps env){str x}(h:(opR F (.len str x) new).run ⟨env,s.σ⟩=some e)(hc:JS P (.len str x) o.op=true):bH P o a s e:=by
 simp only[opR]at h;obtain⟨u,h1,E⟩:=bind_some h;obtain⟨r,g,rfl⟩:=fY E;clear h E;unfold JS at hc;simp only at hc;split at hc;rename_i c v;split at hc;rename_i k;split at hc;rename_i y t q B;simp only[JW]at hc;obtain⟨K,M⟩:=hc;have C:=bD he h1 K;have I:c.args.map a.eval= #[a.eval y]:=by apply vV;simp[q]
 have A:c.argTypes[0]?=some t:=by rw[<-EN,B];rfl
 generalize H:a.eval y=z at C;have N: ∀l:List UInt8,z=.string ⟨l.toArray⟩->hH P t=true->(execOp a.eval o).run P s.w=.ok (.value (.int .i64 l.length)) s.w:=by intro l D j;have:=uY j;simp[execOp,v,resolve,k,I,H,D,invoke,builtin,Builtin.len_,A,run_underlying this,goInt,rY]
 have L: ∀ad n cp,z=.slice ad n cp->(elT P t).isSome=true->(execOp a.eval o).run P s.w=.ok (.value (.int .i64 n)) s.w:=by intro ad n cp D j;obtain⟨el,G⟩:=gi.1 j;have:=eY G;simp[execOp,v,resolve,k,I,H,D,invoke,builtin,Builtin.len_,A,run_underlying this,goInt]
 unfold FG at g;split at g<;>first|(injection g with g;subst g)|cases g
 grind [JE,rS,oF];cases C with
 |p _ _ J=>cases J<;>simp_all [JE,oF]
 cases C<;>grind [JE,oF]
 cases hc;cases hc;cases hc
end
end Go.Am
end
section
namespace Go.Am
section
variable {P:Program} {F:Orc} {s:Sn} {a:Act} {env:List (Nat×AV)} {o:Oper} {new:Nat} {e:Eff}
theorem iI.of_p{s:Sn}{esz rows v}(h:JD s (.p (.sl esz rows)) v):iI s esz rows v:=by
 grind [of_sl,cases Go.Am.JD]
theorem pn(hi:Inv s){esz:Nat}{x:AV}{rows:List (List PV)}{v:Value}(h:(eH esz x).run ⟨env,s.σ⟩=some rows)(hr:JD s x v):
  (∃l,x=.p (.s l)/\esz=1/\rows=l.map lE/\v=.string ⟨l.toArray⟩)\/iI s esz rows v:=by
 unfold eH at h;split at h;split at h;rename_i g;subst g;simp only[RM.run]at h;injection h with h;subst h;exact .inr (.of_p hr);cases h;grind [RM.run,rS];simp only[RM.run]at h;split at h;rename_i blk j;split at h;split at h;rename_i e;obtain⟨rfl,e⟩:=e;simp only[RM.run]at h;injection h with h;subst h;exact .inr (.of_slr hi hr j e);cases h;cases h;cases h;cases h
theorem ZA{α:Type}{esz:Nat}: ∀{rows:List (List α)},(∀row∈rows,row.length=esz)-> ∀{k:Nat} {x:α},rows.flatten[k]?=some x->
  ∃i j row,k=i*esz+j/\rows[i]?=some row/\row[j]?=some x/\j<esz
 |[],_,k,x,h=>by simp at h
 |r::rows,g,k,x,h=>by
  simp only[pO]at h;have y:r.length=esz:=g r (by simp);rcases List.getElem?_append (l₁:=r) (l₂:=rows.flatten) (i:=k)▸h with e;split at e;exact⟨0,k,r,by simp,rfl,e,by omega⟩;obtain⟨i,j,row,w,v,q,n⟩:=ZA (λrow o=>g row (by simp[o])) e;exact⟨i+1,j,row,by grind,by simpa using v,q,n⟩
theorem OL{α:Type}{esz:Nat}: ∀{rows:List (List α)},(∀row∈rows,row.length=esz)->rows.flatten.length=rows.length*esz
 |[],_=>by simp
 |r::rows,g=>by
  have:=OL (rows:=rows) (λrow e=>g row (by simp[e]));grind
theorem iI.cells{s:Sn}{esz rows v}(h:iI s esz rows v):
  ∃(a:Option Addr) (cap:Nat) (vs:List Value),v=.slice a rows.length cap/\rows.length<=cap/\vs.length=rows.length*esz/\
   (∀(k:Nat) x,rows.flatten[k]?=some x-> ∃u,vs[k]?=some u/\J0g s.w s.g.C x u)/\
   (rows=[]\/ ∃r o,a=some ⟨r,o,none⟩/\ ∀(k:Nat) u,vs[k]?=some u->cellAt s.w r (o+k)=some u)/\(∀row∈rows,row.length=esz):=by
 obtain⟨a,cap,h1,h2,q,y⟩:=h;rcases y with rfl|⟨r,o,D,E⟩;simp_all;refine⟨a,cap,(List.range (rows.length*esz)).map λk=>(cellAt s.w r (o+k)).getD .nilFunc,h1,h2,by simp,λk x e=>?_,.inr ⟨r,o,D,λk u e=>?_⟩,q⟩;obtain⟨i,j,row,A,z,B,_⟩:=ZA q e;grind [OL];have n:=Jq e;simp at n;rw[fT,List.getElem?_range n]at e;simp at e;have:k<rows.flatten.length:=by grind [OL]
 obtain⟨i,j,row,A,z,B,_⟩:=ZA q (aQ this);grind
theorem rn: ∀{rows:List (List PV)} {l:List UInt8},rZ rows=some l-> ∃e:List Int,rows=e.map (λn=>[PV.i .u8 n])/\l=e.map λn=>UInt8.ofNat n.toNat
 |[],l,h=>by simp_all [rZ]
 |row::rows,l,h=>by
  unfold rZ at h;split at h;simp_all;rename_i n r j;injection j with e1 e2;subst e1 e2;split at h;rename_i k g;injection h with h;subst h;obtain⟨e,h1,h2⟩:=rn g;exact⟨n::e,by simp[h1],by simp[h2]⟩;cases h;cases h
theorem JBg(e:List Int): ∀b:ByteArray,(e.foldl (λr n=>r.push (UInt8.ofNat n.toNat)) b)=⟨b.data++(e.map λn=>UInt8.ofNat n.toNat).toArray⟩:=by
 induction e with
 |nil=>intro b;simp
 |cons n e ih=>simp_all
theorem uV(r o n:Nat):Addr.add ⟨r,o,none⟩ n=⟨r,o+n,none⟩:=by simp[Addr.add]
theorem n9{w:World}{r o:Nat}(vs:List Value)(h: ∀(k:Nat) u,vs[k]?=some u->cellAt w r (o+k)=some u):
  (loadCells ⟨r,o,none⟩ vs.length).run P w=.ok vs.toArray w:=
 run_loadCells_list w _ vs λj v e=>by grind [uV,oK]
theorem JIo(hi:Inv s)(he:bI s a.tmps env){k x}(hk: ∀own,k≠.toBytes own)(h:(opR F (.conv k x) new).run ⟨env,s.σ⟩=some e)(hc:JS P (.conv k x) o.op=true):bH P o a s e:=by
 simp only[opR]at h;obtain⟨u,h1,j⟩:=bind_some h;clear h;unfold JS at hc;simp only at hc;split at hc;rename_i a2 dst y K;simp only[JW]at hc;obtain⟨hx,g⟩:=hc;have A:=bD he h1 hx;generalize Z:a.eval y=z at A;split at j;rename_i k' k1 n;simp only[RM.run]at j;injection j with j;subst j;simp only[JW]at g;obtain⟨ks,I⟩:=JDM g.1;have D:=JD2 g.2;have:=hJ A;simp_all [JE,execOp,convert,run_underlying,Conv.intToInt,oF];rename_i l;simp only[RM.run]at j;injection j with j;subst j;simp only[JW]at g;have I:=uY g.1;have D:=uY g.2;have:=rS A;simp_all [JE,execOp,convert,run_underlying];simp only[JW]at g;obtain⟨g,D⟩:=g;have D:=uY D;split at g;rename_i el M;simp only[JW,beq_iff_eq]at g;have I:=eY M;have N:=n3 g.1;obtain⟨rows,Q,B⟩:=bind_some j;clear j;split at B;rename_i l R;simp only[RM.run]at B;injection B with B;subst B;rcases pn hi Q A with⟨Y,rfl,_,T,J⟩|L
 
 have:=rS A;subst this;have:l=Y:=by
  have: ∀l:List UInt8,rZ (l.map lE)=some l:=by
   intro l
   induction l with
   |nil=>rfl
   |cons b l ih=>simp[rZ,lE,ih]
  simp_all
 simp_all [JE,execOp,convert,run_underlying];obtain⟨ad,cap,vs,J,E,hlen,hrel,C,H⟩:=L.cells;obtain⟨q,S,rfl⟩:=rn R;have hvs:vs=q.map (Value.int .u8):=by
  apply zQ6;intro k;have a1:rows.flatten=q.map (PV.i .u8):=by rw[S];clear S R hrel hlen H C J E Q A;induction q with|nil=>rfl|cons n q ih=>simp[ih]
  by_cases hk:k<q.length;obtain⟨u,hu,hp⟩:=hrel k (.i .u8 q[k]) (by simp_all);grind [cases Go.Am.J0g];simp_all
 have U:rows.length=vs.length:=by omega
 subst J;have G:(Conv.bytesToString (.slice ad rows.length cap)).run P s.w=.ok (.string ⟨(q.map λn=>UInt8.ofNat n.toNat).toArray⟩) s.w:=by
  rcases C with V|⟨r,W,rfl,hm⟩;have O:q=[]:=by simp_all
  subst O;cases ad with
  |none=>simp[Conv.bytesToString];rfl
  |some ad=>have:=run_bytesToString (P:=P) s.w ad rows.length cap [] (by simp_all [loadCells,loadCellsFrom]);rw[this];rfl
  have:=run_bytesToString (P:=P) s.w ⟨r,W,none⟩ rows.length cap q (by grind [n9]);simp_all [JBg]
 refine JE hi (v:=.string ⟨(q.map λn=>UInt8.ofNat n.toNat).toArray⟩) ?_ (lu _);simp[execOp,K,Z,convert,run_underlying I,run_underlying D,run_underlying N,G];cases B;cases g;simp_all;cases j;cases hc
end
end Go.Am
end
section
namespace Go.Am
theorem HO{α:Type}{cs l:List α}{off size:Nat}(h:sub cs off size=some l):l.length=size/\off+size<=cs.length/\ ∀(i:Nat),i<size->l[i]?=cs[off+i]?:=by
 grind [sub]
theorem OG: ∀{cs:List AV} {l:List PV},unp cs=some l->cs=l.map .p
 |[],l,h=>by grind [unp]
 |x::cs,l,h=>by
  unfold unp at h;split at h;simp_all;rename_i c r e;injection e with e1 e2;subst e1 e2;split at h;rename_i j g;injection h with h;subst h;simp[OG g];cases h;cases h
section
variable {P:Program} {F:Orc} {s:Sn} {a:Act} {env:List (Nat×AV)} {o:Oper} {new:Nat} {e:Eff}
theorem XS{agg:Bool}{l:List PV}{x:AV}{vs:List Value}(h:mR agg l=some x)(hl:l.length=vs.length)
  (hr: ∀(i:Nat) y v,l[i]?=some y->vs[i]?=some v->J0g s.w s.g.C y v):
  (agg=true/\JD s x (.agg vs.toArray))\/(agg=false/\ ∃v,vs=[v]/\JD s x v):=by
 cases agg with
 |true=>simp[mR]at h;subst h;exact .inl ⟨rfl,.data _ _ (by simpa using hl) λi y v j e=>hr i y v j (by simpa using e)⟩
 |false=>
  simp only[mR,eB,if_false]at h;split at h;injection h with h;subst h;obtain⟨v,rfl⟩: ∃v,vs=[v]:=RA.1 (by simp_all);exact .inr ⟨rfl,v,rfl,.p _ _ (hr 0 _ v rfl rfl)⟩;cases h
theorem ML{agg:Bool}{l:List AV}{x:AV}{vs:List Value}(h:jI agg l=some x)(hl:l.length=vs.length)(h1: ∀v∈vs,v.oneCell'=true)
  (hr: ∀(i:Nat) y v,l[i]?=some y->vs[i]?=some v->JD s y v):
  (agg=true/\JD s x (.agg vs.toArray))\/(agg=false/\ ∃v,vs=[v]/\JD s x v):=by
 cases agg with
 |true=>
  simp only[jI,if_true]at h;split at h;rename_i q j;injection h with h;subst h;have:=OG j;subst this;refine .inl ⟨rfl,.data _ _ (by simpa using hl) λi y v g e=>?_⟩;have:=hr i (.p y) v (by simp[g]) (by simpa using e);cases this<;>simp_all
  injection h with h;subst h;exact .inl ⟨rfl,.agg _ _ (by simpa using hl) (λi v e=>h1 v (by grind)) λi y v g e=>hr i y v g (by simpa using e)⟩
 |false=>
  simp only[jI,eB,if_false]at h;split at h;injection h with h;subst h;obtain⟨v,rfl⟩: ∃v,vs=[v]:=RA.1 (by simp_all);exact .inr ⟨rfl,v,rfl,hr 0 _ v rfl rfl⟩;cases h
theorem pe{agg:Bool}{off size:Nat}{x r:AV}{v:Value}{t:TypeId}(h:qA agg off size x=some r)(hr:JD s x v)(y:agT P t=some agg)(hs:szT P t=some size)
  (h1:agg=true\/size=1): ∃cs u,v=.agg cs/\(part t cs off).run P s.w=.ok u s.w/\JD s r u:=by
 have go: ∀(cs:Array Value) (vs:List Value),vs.length=size->(∀(i:Nat),i<size->vs[i]?=cs[off+i]?)->off+size<=cs.size->
   ((agg=true/\JD s r (.agg vs.toArray))\/(agg=false/\ ∃v,vs=[v]/\JD s r v))-> ∃u,(part t cs off).run P s.w=.ok u s.w/\JD s r u:=by
  intro cs vs j o D e;rcases e with⟨rfl,g⟩|⟨rfl,v,rfl,g⟩;refine⟨.agg (cs.extract off (off+size)),by simp_all [part,CH,gL],?_⟩;have:cs.extract off (off+size)=vs.toArray:=(by grind);simp_all;simp at j;subst j;have n:=o 0 (by omega);simp at n;exact⟨v,by simp[part,CH y,<-n],g⟩
 unfold qA at h;split at h;rename_i cs;split at h;rename_i l k;obtain⟨q,A,z⟩:=HO k;cases hr with
 |data _ vs B C=>
  have e:=XS (s:=s) (vs:=((vs.toList.drop off).take size)) h (by simp;omega) (by
   grind)
  grind
 cases h;rename_i cs;split at h;rename_i l k;obtain⟨q,A,z⟩:=HO k;cases hr with
 |agg _ vs B E C=>
  have e:=ML (s:=s) (vs:=((vs.toList.drop off).take size)) h (by simp;omega) (by
   grind [List.getElem?_of_mem]) (by
   grind)
  grind
 cases h;cases h
theorem JFI(hi:Inv s)(he:bI s a.tmps env){agg off size x}(h:(opR F (.field agg off size x) new).run ⟨env,s.σ⟩=some e)(hc:JS P (.field agg off size x) o.op=true):bH P o a s e:=by
 simp only[opR]at h;obtain⟨u,h1,j⟩:=bind_some h;obtain⟨r,z,rfl⟩:=fY j;clear h j;unfold JS at hc;simp only at hc;split at hc;rename_i t y f B;simp only[JW]at hc;obtain⟨A,g⟩:=hc;split at g;rename_i fs C;split at g;rename_i E D;simp only[JW,beq_iff_eq]at g;obtain⟨⟨⟨G,q⟩,n⟩,k⟩:=g;obtain⟨cs,v,I,H,w⟩:=pe z (bD he h1 A) n q (by simpa using k);exact JE hi (v:=v) (by simp_all [execOp,Instr.field,run_underlying,nj,asAgg]) w;cases g;cases g;cases hc
theorem JHS(hi:Inv s)(he:bI s a.tmps env){x i}(h:(opR F (.sidx x i) new).run ⟨env,s.σ⟩=some e)(hc:JS P (.sidx x i) o.op=true):bH P o a s e:=by
 simp only[opR]at h;obtain⟨u,h1,w⟩:=bind_some h;obtain⟨v,h2,g⟩:=bind_some w;clear h w;unfold JS at hc;simp only at hc;split at hc;rename_i t y j D;simp only[JW]at hc;obtain⟨⟨B,C⟩,H⟩:=hc;have z:=bD he h1 B;have A:=bD he h2 C;split at g;rename_i l k n;split at g;rename_i J;split at g;rename_i b q;simp only[RM.run]at g;injection g with g;subst g;have G:=rS z;have I:=hJ A;have E:(⟨l.toArray⟩:ByteArray)[n.toNat]?=some b:=by have r:=Jq q;rw[aQ r]at q;rw[getElem?_pos _ _ (by grind [rY])];injection q with q;rw[<-q];rfl
 refine JE hi (v:=.int .u8 b.toNat) ?_ (oF _ _);simp_all [execOp,Instr.index,asIntOf,run_underlying,uY];cases g;cases g;cases g;cases hc
theorem JIq(hi:Inv s)(he:bI s a.tmps env){agg len esz x i}(h:(opR F (.aidx agg len esz x i) new).run ⟨env,s.σ⟩=some e)(hc:JS P (.aidx agg len esz x i) o.op=true):bH P o a s e:=by
 simp only[opR]at h;obtain⟨u,h1,B⟩:=bind_some h;obtain⟨v,h2,g⟩:=bind_some B;clear h B;unfold JS at hc;simp only at hc;split at hc;rename_i t y j z;simp only[JW]at hc;obtain⟨⟨M,O⟩,q⟩:=hc;have G:=bD he h1 M;have H:=bD he h2 O;split at q;rename_i n el A;simp only[JW,beq_iff_eq]at q;obtain⟨⟨⟨rfl,C⟩,I⟩,D⟩:=q;split at g;rename_i k m;split at g;rename_i N;obtain⟨r,L,rfl⟩:=fY g;obtain⟨cs,w,Q,J,K⟩:=pe L G I C (by simpa using D);have E:=hJ H;exact JE hi (v:=w) (by simp[execOp,z,Q,E,Instr.index,asIntOf,run_underlying (YO A),N,gL C,J]) K;cases g;cases g;cases q;cases hc
theorem JGK(hi:Inv s)(he:bI s a.tmps env){len esz x i}(h:(opR F (.aaddr len esz x i) new).run ⟨env,s.σ⟩=some e)(hc:JS P (.aaddr len esz x i) o.op=true):bH P o a s e:=by
 simp only[opR]at h;obtain⟨u,h1,K⟩:=bind_some h;obtain⟨v,h2,D⟩:=bind_some K;obtain⟨r,g,rfl⟩:=fY D;clear h K D;unfold JS at hc;simp only at hc;split at hc;rename_i t y j I;simp only[JW]at hc;obtain⟨⟨R,T⟩,B⟩:=hc;have C:=bD he h1 R;have N:=bD he h2 T;split at B;rename_i n el J;simp only[JW,beq_iff_eq]at B;obtain⟨rfl,Q⟩:=B;unfold GO at g;split at g;rename_i k m;split at g;rename_i S;have L:=hJ N;have go: ∀(r q:Nat),a.eval y=.pointer (some ⟨r,q,none⟩)->(execOp a.eval o).run P s.w=.ok (.value (.pointer (some ⟨r,q+m.toNat*esz,none⟩))) s.w:=by intro r q A;simp[execOp,I,A,L,Instr.indexAt,asIntOf,run_underlying (YO J),Instr.sureAddr,S,gL Q,uV]
 generalize A:a.eval y=z at C;split at g<;>first|(injection g with g;subst g)|cases g
 cases C with
 |ptr _ _ r q M O=>exact JE hi (go _ _ A) (by rw[EP];exact .ptr _ _ r q M O)
 cases C with
 |cp cs _ r q vals H E=>exact JE hi (go _ _ A) (by rw[EP];exact .cp _ _ r q vals H E)
 cases C with
 |ep _ _ _ _ _ wm G rows p0 H E U=>
  obtain⟨r,q,rfl⟩:=p0;refine JE hi (go _ _ A) (.ep _ _ _ _ _ wm G rows ⟨_,_,rfl⟩ H E λW V=>?_);grind
 cases g;cases g;cases B;cases hc
theorem JGm(hi:Inv s)(he:bI s a.tmps env){esz x i}(h:(opR F (.iaddr esz x i) new).run ⟨env,s.σ⟩=some e)(hc:JS P (.iaddr esz x i) o.op=true):bH P o a s e:=by
 simp only[opR]at h;obtain⟨u,h1,O⟩:=bind_some h;obtain⟨v,h2,g⟩:=bind_some O;clear h O;unfold JS at hc;simp only at hc;split at hc;rename_i t y j N;simp only[JW]at hc;obtain⟨⟨E,hj⟩,G⟩:=hc;have H:=bD he h1 E;have T:=bD he h2 hj;split at G;rename_i el Q;simp only[beq_iff_eq]at G;have go: ∀(r A len cap:Nat) k (m:Int),a.eval j=.int k m->a.eval y=.slice (some ⟨r,A,none⟩) len cap->0<=m->m<len->
   (execOp a.eval o).run P s.w=.ok (.value (.pointer (some ⟨r,A+m.toNat*esz,none⟩))) s.w:=by
  intro r A len cap k m C D Y J;simp[execOp,N,D,C,Instr.indexAt,asIntOf,run_underlying (eY Q),Y,J,gL G,uV]
 unfold kY at g;split at g;rename_i B rows k n;split at g;rename_i R;subst R;split at g;rename_i row q;simp only[RM.run]at g;injection g with g;subst g;unfold LY at q;split at q;rename_i M;have C:=hJ T;generalize D:a.eval y=z at H;cases H with
 |p _ _ W=>
  cases W with
  |sl0 _ ad cap=>simp at q
  |sl _ _ r A cap vals p1 p2 U V=>have J:=Jq q;refine JE hi (go r A _ cap k n C D M (by omega)) ?_;have:=JD.cp (s:=s) row 0 r (A+n.toNat*esz) (λj=>vals n.toNat j) (λj x E=>U n.toNat j row x q E) (λj x E=>V n.toNat j row x q E);simp_all
 cases q;cases g;cases g;rename_i b j' m k n;simp only[RM.run]at g;split at g;rename_i blk hb;split at g;rename_i wm B rows;split at g;rename_i L;obtain⟨rfl,S,M,a9⟩:=L;simp only[RM.run]at g;injection g with g;subst g;have C:=hJ T;generalize D:a.eval y=z at H;cases H with
 |slr _ _ _ _ wm' B rows' q0 I q2 q3=>
  have K:s.σ[b]?=some (.arr wm esz rows):=hb;rw[K]at I;injection I with I;injection I with a1 a2 a3;subst a1 a2 a3;rcases q3 S with⟨_,_,a8,_⟩|⟨r,cap,c,e1,fz,m',hv,Z,hh,hs⟩;omega;subst hv;refine JE hi (go r _ _ cap k n C D M (by omega)) (.ep _ _ _ _ _ wm esz rows ⟨_,_,rfl⟩ K (zQ0 _) λ_ _=>⟨r,m',?_⟩);grind
 cases g;cases g;cases g;cases g;cases G;cases hc
end
end Go.Am
end
section
namespace Go.Am
theorem eN(a b:List (Nat×Blk))(σ:List Blk):upd (a++b) σ=upd b (upd a σ):=by simp[upd]
section
variable {P:Program} {F:Orc} {s:Sn} {a:Act} {env:List (Nat×AV)} {o:Oper} {new:Nat} {e:Eff}
theorem IK{e:List Blk}(hi:Inv s)(j:Frz e s.σ){b i n:Nat}{y:List PV×List (Nat×Blk)}{v:Value}(h:(fz (.slr b i n)).run ⟨env,e⟩=some y)(hr:JD s (.slr b i n) v):
  ∃g',Inv ⟨upd y.2 s.σ,g',s.w⟩/\aW s ⟨upd y.2 s.σ,g',s.w⟩/\Frz s.σ (upd y.2 s.σ)/\ ∃c,y.1=[c]/\J0g s.w g'.C c v:=by
 simp only[fz,RM.run]at h;split at h;rename_i blk k;split at h;rename_i wm esz rows;split at h;rename_i r;simp only[RM.run]at h;injection h with h;subst h;obtain⟨wm',g⟩:=j.1 b _ _ _ k;obtain⟨g',h1,h2,q,o⟩:=pf hi hr g r;exact⟨g',h1,h2,q,_,rfl,o⟩;cases h;cases h;cases h
theorem JHC{e:List Blk}(hi:Inv s)(j:Frz e s.σ){x:AV}{y:List PV×List (Nat×Blk)}{v:Value}(h:(fz.fz1 x).run ⟨env,e⟩=some y)(hr:JD s x v):
  ∃g',Inv ⟨upd y.2 s.σ,g',s.w⟩/\aW s ⟨upd y.2 s.σ,g',s.w⟩/\Frz s.σ (upd y.2 s.σ)/\ ∃c,y.1=[c]/\J0g s.w g'.C c v:=by
 cases x with
 |p c=>
  simp only[fz.fz1,RM.run]at h;injection h with h;subst h;cases hr with
  |p _ _ hr=>exact⟨s.g,hi,.refl s,.refl _,c,rfl,hr⟩
 |slr b i n=>exact IK hi j (by exact h) hr
 |_=>grind [fz.fz1,RM.run]
theorem B3{B:List Blk}: ∀{xs:List AV} {s:Sn} {y:List PV×List (Nat×Blk)} {vs:List Value},Inv s->Frz B s.σ->(fz.fzL xs).run ⟨env,B⟩=some y->xs.length=vs.length->
  (∀(i:Nat) x v,xs[i]?=some x->vs[i]?=some v->JD s x v)->
  ∃g',Inv ⟨upd y.2 s.σ,g',s.w⟩/\aW s ⟨upd y.2 s.σ,g',s.w⟩/\Frz s.σ (upd y.2 s.σ)/\y.1.length=vs.length/\
   ∀(i:Nat) c v,y.1[i]?=some c->vs[i]?=some v->J0g s.w g'.C c v
 |[],s,y,vs,hi,j,h,e,k=>by
  simp only[fz.fzL,RM.run]at h;injection h with h;subst h;exact⟨s.g,hi,.refl s,.refl _,by simpa using e,λi c v n=>by simp at n⟩
 |x::xs,s,y,[],hi,j,h,e,k=>by simp at e
 |x::xs,s,y,v::vs,hi,j,h,e,k=>by
  simp only[fz.fzL]at h;obtain⟨q,h1,h⟩:=bind_some h;obtain⟨I,h2,h⟩:=bind_some h;simp only[RM.run]at h;injection h with h;subst h;obtain⟨E,i1,A,z,c,n,H⟩:=JHC hi j h1 (k 0 x v rfl rfl);obtain⟨D,i2,r,F,G,M⟩:=B3 (s:=⟨upd q.2 s.σ,E,s.w⟩) i1 (j.trans z) h2 (by simpa using e) λi x v J K=>(k (i+1) x v (by simpa using J) (by simpa using K)).mono hi A;refine⟨D,by grind [eN],by rw[eN];exact A.trans r,by rw[eN];exact z.trans F,by simp[n,G],λi c' L hc' o=>?_⟩;rw[n]at hc';cases i with
  |zero=>simp at hc' o;subst hc' o;exact J0g.mono (s0:=⟨upd q.2 s.σ,E,s.w⟩) (s:=⟨upd I.2 (upd q.2 s.σ),D,s.w⟩) i1 r H
  |succ i=>grind
theorem XE{o:List Blk}(hi:Inv s)(k:Frz o s.σ){x:AV}{y:List PV×List (Nat×Blk)}{v:Value}(h:(fz x).run ⟨env,o⟩=some y)(hr:JD s x v):
  ∃g',Inv ⟨upd y.2 s.σ,g',s.w⟩/\aW s ⟨upd y.2 s.σ,g',s.w⟩/\Frz s.σ (upd y.2 s.σ)/\y.1.length=v.cells.size/\
   ∀(i:Nat) c u,y.1[i]?=some c->v.cells[i]?=some u->J0g s.w g'.C c u:=by
 cases x with
 |p c=>
  simp only[fz,RM.run]at h;injection h with h;subst h;cases hr with
  |p _ _ hr=>
   refine⟨s.g,hi,.refl s,.refl _,by rw[hr.cells1];rfl,λi c' u j e=>?_⟩;rw[hr.cells1]at e;grind
 |data cs=>
  simp only[fz,RM.run]at h;injection h with h;subst h;cases hr with
  |data _ vs h1 h2=>exact⟨s.g,hi,.refl s,.refl _,h1,λi c u j e=>h2 i c u j e⟩
 |slr b i n=>
  obtain⟨g',h1,h2,r,c,j,q⟩:=IK hi k h hr;refine⟨g',h1,h2,r,by rw[j,q.cells1];rfl,λi c' u hc' e=>?_⟩;rw[q.cells1]at e;grind
 |agg cs=>
  simp only[fz]at h;cases hr with
  |agg _ vs h1 D h2=>
   obtain⟨g',B,G,E,H,F⟩:=B3 (vs:=vs.toList) hi k h (by simpa using h1) λi x v z A=>h2 i x v z (by simpa using A);grind [Value.cells]
 |_=>grind [fz,RM.run]
theorem CF(he:bI s a.tmps env){x:Option Opd}{y:Option Operand}{v:Option AV}(h:(evo x).run ⟨env,s.σ⟩=some v)(hc:uE x y=true):
  (v=none/\y=none)\/ ∃u q,v=some u/\y=some q/\JD s u (a.eval q):=by
 cases x with
 |none=>
  grind [evo,RM.run,uE]
 |some x=>
  cases y with
  |none=>grind [uE]
  |some y=>
   simp only[evo]at h;obtain⟨u,h1,h⟩:=bind_some h;simp only[RM.run]at h;injection h with h;subst h;exact .inr ⟨u,y,rfl,rfl,bD he h1 hc⟩
theorem PA{x:AV}{top n j:Nat}{v:Value}(h:lG (some x) top j=some n)(hr:JD s x v)(g:Nat)(o:top<=g)(k:BoundsCode)(w:World):
  (Instr.sliceBound v g k).run P w=.ok n w/\n<=top:=by
 unfold lG at h;split at h;simp_all;rename_i e;injection e with e;subst e;split at h;rename_i q;injection h with h;subst h;have:=hJ hr;grind [Instr.sliceBound,asIntOf,Sem.run_pure];cases h;cases h
theorem JEm{n:Nat}{lo hi:Option AV}{c:Nat×Nat}(h:mF n lo hi=some c):lG hi n n=some c.2/\lG lo c.2 0=some c.1:=by
 grind [mF]
theorem IJ(he:bI s a.tmps env){lo hi:Option Opd}{lo' hi':Option Operand}{l h:Option AV}{len cap:Nat}{c:Nat×Nat}{isSlice:Bool}
  (h1:(evo lo).run ⟨env,s.σ⟩=some l) (h2:(evo hi).run ⟨env,s.σ⟩=some h) (r:uE lo lo'=true) (z:uE hi hi'=true)
  (hc:mF len l h=some c) (n:len<=cap) (w:World):
  (Instr.sliceBounds isSlice len cap (lo'.map a.eval) (hi'.map a.eval) none).run P w=.ok (c.1,c.2,cap) w/\c.1<=c.2/\c.2<=len:=by
 obtain⟨k,e⟩:=JEm hc;obtain⟨i,j⟩:=c;rcases CF he h2 z with⟨rfl,rfl⟩|⟨u,q,rfl,rfl,x⟩;simp[lG]at k;subst k;rcases CF he h1 r with⟨rfl,rfl⟩|⟨y,q',rfl,rfl,g⟩;simp[lG]at e;subst e;simp[Instr.sliceBounds];obtain⟨o,v⟩:=PA (P:=P) e g len (zQ0 _) .sliceB w;simp_all [Instr.sliceBounds];rcases CF he h1 r with⟨rfl,rfl⟩|⟨y,q',rfl,rfl,g⟩;obtain⟨o,v⟩:=PA (P:=P) k x cap n (if isSlice then .sliceAcap else .sliceAlen) w;simp[lG]at e;subst e;simp_all [Instr.sliceBounds];obtain⟨o,v⟩:=PA (P:=P) k x cap n (if isSlice then .sliceAcap else .sliceAlen) w;obtain⟨A,B⟩:=PA (P:=P) e g j (zQ0 _) .sliceB w;simp_all [Instr.sliceBounds]
theorem XA{esz:Nat}{rows:List (List PV)}{v:Value}{i j:Nat}(h:J0g s.w s.g.C (.sl esz rows) v)(E:i<=j)(hj:j<=rows.length):
  ∃ad cap,v=.slice ad rows.length cap/\rows.length<=cap/\
   J0g s.w s.g.C (.sl esz ((rows.drop i).take (j-i))) (.slice (if cap=i then ad else ad.map (·.add (i*esz))) (j-i) (cap-i)):=by
 have hlen:((rows.drop i).take (j-i)).length=j-i:=by simp;omega
 cases h with
 |sl0 _ ad cap=>
  have e:j=0:=by simpa using hj
  have hi':i=0:=by omega
  subst e hi';refine⟨ad,cap,rfl,zQ2 _,?_⟩;simpa using J0g.sl0 (w:=s.w) (C:=s.g.C) esz _ _
 |sl _ _ r o cap vals z q F G=>
  refine⟨_,cap,rfl,z,?_⟩;by_cases n:cap=i;have y:j-i=0:=by omega
  rw[y];simpa using J0g.sl0 (w:=s.w) (C:=s.g.C) esz _ _;rw[if_neg n];have:=J0g.sl (w:=s.w) (C:=s.g.C) esz ((rows.drop i).take (j-i)) r (o+i*esz) (cap-i) (λk m=>vals (i+k) m) (by omega)
   (λrow B=>q row (zQ7 (EO B)))
   (λk m row x A D=>by
    grind)
   (λk m row x A D=>by
    grind)
  grind [uV]
def xF(k:SK)(x:AV)(lo hi:Option AV):Option AV:=
 match k with
 | .str=>uL x lo hi
 | .sl esz=>uI esz x lo hi
theorem Cs(hi:Inv s){k:SK}{t:TypeId}{y:Operand}{A z:Option Operand}{q:Operand}{c:PV}{l hh:Option AV}{u r:AV}{g':Gh}{ws:List (Nat×Blk)}
  (D:o.op=.slice t y A z (some q)) (g:(match k with
   | .str=>hH P t
   | .sl esz=>(match elT P t with|some e=>szT P e==some esz|none=>false))=true)
  (hl:l=none->A=none) (F: ∀G,hh=some G-> ∃q',z=some q'/\JD s G (a.eval q')) (hu:JD s u (a.eval q))
  (hs:jF k (.p c) l hh (some u)=some r) (hi':Inv ⟨upd ws s.σ,g',s.w⟩) (t':aW s ⟨upd ws s.σ,g',s.w⟩) (hr:J0g s.w g'.C c (a.eval y)):bH P o a s ⟨r,ws⟩:=by
 cases k with
 |str=>grind [jF]
 |sl esz=>
  simp only[jF]at hs;unfold LH at hs;split at hs;rename_i M rows Q h1 T U h;injection h with h;subst h;split at hs;rename_i O;obtain⟨rfl,rfl,rfl⟩:=O;injection hs with hs;subst hs;obtain⟨q',rfl,B⟩:=F _ rfl;obtain rfl:=hl rfl;have W:=hJ B;have V:=hJ hu;simp only at g;split at g;rename_i el E;simp only[beq_iff_eq]at g;obtain⟨ad,cap,H,L,hrel⟩:=XA (s:=⟨s.σ,g',s.w⟩) (i:=0) (j:=rows.length) hr (zQ2 _) (zQ0 _);have N: ∀w:World,(Instr.sliceBounds true rows.length cap none (some (a.eval q')) (some (a.eval q))).run P w=.ok (0,rows.length,rows.length) w:=by simp_all [Instr.sliceBounds,Instr.sliceBound,asIntOf]
  have n:J0g s.w g'.C (.slc esz rows) (.slice ad rows.length rows.length):=by
   refine .slc esz rows ad ?_;rw[H]at hr;cases hr with
   |sl0=>exact .sl0 _ _ _
   |sl _ _ r o cap vals S K I J=>exact .sl esz rows r o rows.length vals (zQ0 _) K I J
  refine fO (e:=⟨_,ws⟩) (w':=s.w) (g':=g') (v:=.slice ad rows.length rows.length) ?_ hi' t' (.p _ _ n);have R:(if rows.length=0 then ad else ad.map λx=>x.add (0*esz))=ad:=by simp[Addr.add]
  simp only[execOp,D,H];simp[Instr.sliceAt,Instr.slice,run_underlying (eY E),N,gL g];simp_all;cases g;cases hs;cases hs
theorem JFp(hi:Inv s)(he:bI s a.tmps env){k x lo hi' mx}(h:(opR F (.slice k x lo hi' mx) new).run ⟨env,s.σ⟩=some e)(hc:JS P (.slice k x lo hi' mx) o.op=true):bH P o a s e:=by
 simp only[opR]at h;obtain⟨u,h1,h⟩:=bind_some h;obtain⟨l,h2,h⟩:=bind_some h;obtain⟨E,Q,h⟩:=bind_some h;obtain⟨m,h4,h⟩:=bind_some h;unfold JS at hc;simp only at hc;split at hc
 ·rename_i t y W U af D;simp only[JW]at hc;obtain⟨⟨⟨⟨hx,O⟩,N⟩,c3⟩,q⟩:=hc;have v:=bD he h1 hx;rcases CF he h4 c3 with⟨rfl,rfl⟩|⟨um,qm,rfl,rfl,K⟩
  case inr=>
   have H:l=none->W=none:=(by grind [CF]);have J: ∀u',E=some u'-> ∃q',U=some q'/\JD s u' (a.eval q'):=(by grind [CF]);split at h;rename_i b i n;obtain⟨y',R,h⟩:=bind_some h;obtain⟨g',i1,t1,f1,c,L,V⟩:=IK hi (.refl _) R v;split at h;rename_i c' hc';rw[L]at hc';injection hc' with hc';subst hc';split at h;rename_i r z;simp only[RM.run]at h;injection h with h;subst h;exact Cs hi D q H J K z i1 t1 V;cases h;cases h;rename_i x' T;obtain⟨r,z,rfl⟩:=fY h;cases u with
   |p c=>
    cases v with
    |p _ _ v=>exact Cs (ws:=[]) (g':=s.g) hi D q H J K z hi (.refl s) v
   |_=>grind [jF,LH]
  have A: ∀{c:AV} {r},jF k c l E none=some r->(none:Option Operand)=none/\xF k c l E=some r:=by intro c r j;exact⟨rfl,j⟩
  have S: ∀{b:List UInt8} {r},jF k (.p (.s b)) l E none=some r->a.eval y=.string ⟨b.toArray⟩->bH P o a s ⟨r,[]⟩:=by
   intro b r j hz;obtain⟨_,G⟩:=A j;clear j;have j:=G;clear G;cases k with
   |sl esz=>grind [xF,uI]
   |str=>
    simp only[xF,uL]at j;split at j;rename_i c hc;injection j with j;subst j;have ab:=uY q;obtain⟨hb,ac,aa⟩:=IJ (P:=P) (isSlice:=false) (cap:=b.length) he h2 Q O N hc (zQ0 _) s.w;have ae:(⟨b.toArray⟩:ByteArray).extract c.1 c.2=⟨((b.drop c.1).take (c.2-c.1)).toArray⟩:=by apply ByteArray.ext;simp_all
    simp_all [JE,lu,execOp,Instr.sliceAt,Instr.slice,run_underlying,rY];cases j
  have B: ∀{s':Sn} {ws} {esz rows r} {g'},s'=⟨upd ws s.σ,g',s.w⟩->Inv s'->aW s s'->jF k (.p (.sl esz rows)) l E none=some r->J0g s'.w s'.g.C (.sl esz rows) (a.eval y)->bH P o a s ⟨r,ws⟩:=by
   intro s' ws esz rows r g' hs' hi' t' j z;obtain⟨_,G⟩:=A j;clear j;have j:=G;clear G;cases k with
   |str=>grind [xF,uL]
   |sl ez=>
    simp only[xF,uI]at j;split at j;rename_i Z;subst Z;split at j;rename_i c hc;injection j with j;subst j;simp only at q;split at q;rename_i el Y;simp only[beq_iff_eq]at q;have I:=IJ (P:=P) (isSlice:=true) he h2 Q O N hc (zQ0 _) s.w;obtain⟨ad,cap,hv,M,hrel⟩:=XA z I.2.1 I.2.2;obtain⟨hb,_,_⟩:=IJ (P:=P) (isSlice:=true) he h2 Q O N hc M s.w;subst hs';refine fO (e:=⟨_,ws⟩) (w':=s.w) (g':=g') ?_ hi' t' (.p _ _ hrel);simp only[execOp,D,hv];simp[Instr.sliceAt,Instr.slice,run_underlying (eY Y),hb,gL q];cases q;cases j;cases j
  split at h;rename_i b i n;obtain⟨y',R,h⟩:=bind_some h;obtain⟨g',i1,t1,f1,c,L,V⟩:=IK hi (.refl _) R v;grind [RM.run,fz];rename_i x' T;obtain⟨r,z,rfl⟩:=fY h;cases u with
  |p c=>
   cases c with
   |s b=>grind [rS]
   |sl esz rows=>cases v with|p _ _ v=>exact B (s':=s) (ws:=[]) (g':=s.g) rfl hi (.refl s) z v
   |_=>grind [xF,uL,uI]
  |slr b i n=>simp_all
  |_=>grind [xF,uL,uI]
 cases hc
end
end Go.Am
end
section
namespace Go.Am
section
variable {P:Program} {F:Orc} {s:Sn} {a:Act} {env:List (Nat×AV)} {o:Oper} {new:Nat} {e:Eff}
theorem n4(hi:Inv s){agg:Bool}{size:Nat}{x:AV}{v:Value}(h:(fW agg size x).run ⟨env,s.σ⟩=some e)(hr:JD s x v):
  ∃r o vs,v=.pointer (some ⟨r,o,none⟩)/\vs.length=size/\(∀(k:Nat) u,vs[k]?=some u->cellAt s.w r (o+k)=some u)/\e.ws=[]/\
   ((agg=true/\JD s e.val (.agg vs.toArray))\/(agg=false/\ ∃u,vs=[u]/\JD s e.val u)):=by
 unfold fW at h;split at h;rename_i cs off;split at h;rename_i l z;obtain⟨r',A,rfl⟩:=fY h;obtain⟨n,J,I⟩:=HO z;cases hr with
 |cp _ _ r o vals q N=>
  have Q: ∀(i:Nat) y u,l[i]?=some y->((List.range size).map λi=>vals (off+i))[i]?=some u->J0g s.w s.g.C y u:=(by grind);refine⟨r,o+off,(List.range size).map λi=>vals (off+i),rfl,by simp,λk u D=>?_,rfl,XS A (by simp[n]) Q⟩;grind
 cases h
 ·rename_i b off;simp only[RM.run]at h;split at h
  ·rename_i blk H;split at h
   ·rename_i cs;split at h
    ·rename_i l z;obtain⟨r',A,rfl⟩:=fY h;obtain⟨n,J,I⟩:=HO z;cases hr with
     |ptr _ _ r o m Y=>
      obtain⟨O,o1,c,V,fz,j,T,K,U,R⟩:=hi.box b cs H;rw[m]at j;injection j with j;injection j with m1 m2;subst m1 m2;have B: ∀k,k<size-> ∃u,c[o+(off+k)]?=some u/\u.oneCell'=true/\ ∀y,l[k]?=some y->JD s y u:=(by grind);refine⟨r,o+off,(List.range size).map λi=>(c[o+(off+i)]?).getD .nilFunc,rfl,by simp,λk u D=>?_,rfl,ML A (by simp[n]) (λv L=>?_) λi y u S D=>?_⟩
      all_goals grind [iR]
    cases h
   cases h
  cases h
 ·rename_i b ext i off;simp only[RM.run]at h;split at h
  ·rename_i blk H;split at h
   ·rename_i wm esz rows;split at h
    ·rename_i G;split at h
     ·rename_i row F;split at h
      ·rename_i l z;obtain⟨r',A,rfl⟩:=fY h;obtain⟨n,J,I⟩:=HO z;have E:s.σ[b]?=some (.arr wm esz rows):=H;cases hr with
       |ep _ _ _ _ _ wm' P rows' p0 q N M=>
        rw[E]at q;injection q with q;injection q with a1 a2 a3;subst a1 a2 a3;have W:=Jq F;obtain⟨r,m,L⟩:=M G (by omega);rcases hi.arr b _ _ _ E with⟨j,_⟩|⟨O,c,V,fz,j,T,Z,K,U,R⟩;simp_all
        ·rw[m]at j;injection j with j;injection j with m1 _;subst m1
         have B: ∀k,k<size-> ∃u,c[i*esz+(off+k)]?=some u/\ ∀y,l[k]?=some y->J0g s.w s.g.C y u:=(by grind);refine⟨r,i*esz+off,(List.range size).map λk=>(c[i*esz+(off+k)]?).getD .nilFunc,L,by simp,λk u D=>?_,rfl,XS A (by simp[n]) λk y u S D=>?_⟩
         all_goals grind [iR]
      cases h
     cases h
    cases h
   cases h
  cases h
 cases h
theorem qy{t:TypeId}{agg:Bool}{size:Nat}(e:agT P t=some agg)(hs:szT P t=some size){r o:Nat}{vs:List Value}{w:World}(hl:vs.length=size)
  (h: ∀(k:Nat) u,vs[k]?=some u->cellAt w r (o+k)=some u):
  (agg=true->(loadVar t ⟨r,o,none⟩).run P w=.ok (.agg vs.toArray) w)/\(agg=false-> ∀u,vs=[u]->(loadVar t ⟨r,o,none⟩).run P w=.ok u w):=by
 constructor;rintro rfl;subst hl;simp_all [loadVar,CH,gL,n9];rintro rfl u rfl;have:=h 0 u rfl;simp_all [loadVar,CH,oK]
theorem JIB(hi:Inv s)(he:bI s a.tmps env){agg size x}(h:(opR F (.load agg size x) new).run ⟨env,s.σ⟩=some e)(hc:JS P (.load agg size x) o.op=true):bH P o a s e:=by
 simp only[opR]at h;obtain⟨u,h1,v⟩:=bind_some h;clear h;unfold JS at hc;simp only at hc;split at hc
 ·rename_i t y C;simp only[JW,beq_iff_eq]at hc;obtain⟨⟨⟨n,A⟩,B⟩,E⟩:=hc;obtain⟨r,H,vs,J,w,g,j,k⟩:=n4 hi v (bD he h1 B);obtain⟨D,I⟩:=qy (P:=P) n A w g;obtain⟨ev,G⟩:=e;simp only at j k;subst j;rcases k with⟨rfl,z⟩|⟨rfl,q,rfl,z⟩
  all_goals simp_all [JE,execOp,Instr.loadAt,Instr.sureAddr]
 cases hc
theorem QE{x:AV}{l:List AV}{v:Value}(h:cellsOf x=some l)(hr:JD s x v):
  l.length=v.cells.size/\(∀u∈v.cells.toList,u.oneCell'=true)/\ ∀(i:Nat) y u,l[i]?=some y->v.cells[i]?=some u->JD s y u:=by
 have e: ∀{z:AV},JD s z v->v.cells= #[v]->v.oneCell'=true->l=[z]->l.length=v.cells.size/\(∀u∈v.cells.toList,u.oneCell'=true)/\ ∀(i:Nat) y u,l[i]?=some y->v.cells[i]?=some u->JD s y u:=(by grind);cases hr with
 |p c _ q=>simp[cellsOf]at h;exact e (.p _ _ q) q.cells1 q.one h.symm
 |data cs vs h1 h2=>
  simp[cellsOf]at h;subst h;refine⟨by grind [Value.cells],λu A=>?_,λi y u w A=>?_⟩;obtain⟨i,hi⟩:=kQ A;have hi:vs[i]?=some u:=by grind [Value.cells]
  have F:=PI hi;exact(h2 i cs[i] u (by simp_all) hi).one;rw[fT]at w;cases hcs:cs[i]? with
  |none=>simp_all
  |some c=>simp[hcs]at w;subst w;exact .p _ _ (h2 i c u hcs A)
 |agg cs vs h1 G h2=>
  grind [cellsOf,Value.cells,List.getElem?_of_mem]
 |tup=>grind [cellsOf]
 |unk=>grind [cellsOf]
 |pre=>simp[cellsOf]at h
 |ptr b off r o m B=>simp[cellsOf]at h;exact e (.ptr b off r o m B) rfl rfl h.symm
 |cp cs off r o vals j g=>simp[cellsOf]at h;exact e (.cp cs off r o vals j g) rfl rfl h.symm
 |slr b i n _ wm esz rows p0 j g k=>obtain⟨ad,cap,rfl,E⟩:=p0;simp[cellsOf]at h;exact e (.slr b i n _ wm esz rows ⟨ad,cap,rfl,E⟩ j g k) rfl rfl h.symm
 |ep b ext i off _ wm esz rows p0 j g k=>obtain⟨r,o,rfl⟩:=p0;simp[cellsOf]at h;exact e (.ep b ext i off _ wm esz rows ⟨r,o,rfl⟩ j g k) rfl rfl h.symm
 |fn f first caps fs cs h1 h2 D C=>simp[cellsOf]at h;exact e (.fn f first caps fs cs h1 h2 D C) rfl rfl h.symm
theorem JJ9(hi:Inv s)(he:bI s a.tmps env)(hn:s.σ[new]?=some .dead){size x}(h:(opR F (.box size x) new).run ⟨env,s.σ⟩=some e)(hc:JS P (.box size x) o.op=true):bH P o a s e:=by
 simp only[opR]at h;obtain⟨u,h1,g⟩:=bind_some h;clear h;unfold JS at hc;simp only at hc;split at hc;rename_i t y B;have z:=bD he h1 hc;split at g;rename_i cs hcs;split at g;cases g;obtain⟨C,q,n⟩:=QE hcs z;obtain⟨r,t'⟩:=NN hi hn (blk:=.box cs) (c:=(a.eval y).cells) (e:=t) (fz:=(0,0)) (w':={s.w with heap:=s.w.heap.push (.cells (a.eval y).cells t)}) rfl rfl rfl
  (λo _ _ h=>by simp at h) (λ_ _ _ h=>by cases h) ⟨by omega,λi x j=>by
   have A:=Jq j;have k:i<(a.eval y).cells.size:=by omega
   exact⟨(a.eval y).cells[i],by simp,n i x _ j (by simp),q _ (by simp)⟩⟩
 refine fO (e:=⟨.ptr new 0,[(new,.box cs)]⟩) (v:=.pointer (some ⟨s.w.heap.size,0,none⟩)) ?_ r t' (.ptr new 0 _ 0 (if_pos rfl) ⟨cs,gQ hn⟩);simp_all [execOp,Instr.box,newVar,newRow];cases g;cases g;cases hc
theorem qM{zero:List PV}{t:TypeId}(h:iU P zero t=true): ∃v,zeT P t=some v/\zero.length=v.cells.size/\
  ∀{w C} (i:Nat) x u,zero[i]?=some x->v.cells[i]?=some u->J0g w C x u:=by
 unfold iU at h;split at h;rename_i v e;refine⟨v,e,?_,λi x u j g=>?_⟩;simpa using(OM (w:=default) (C:=λ_ _=>True) h).1;exact(OM h).2 i x u j (by simpa using g);cases h
theorem CM{t:TypeId}{v:Value}(h:zeT P t=some v)(w:World):(zeroValue t).run P w=.ok v w:=by unfold zeT at h;cases hi:P.info? t<;>simp_all [zeroValue,ru]
theorem JE6(hi:Inv s)(hn:s.σ[new]?=some .dead){zero}(h:(opR F (.newbox zero) new).run ⟨env,s.σ⟩=some e)(hc:JS P (.newbox zero) o.op=true):bH P o a s e:=by
 simp only[opR,RM.run]at h;cases h;unfold JS at hc;simp only at hc;split at hc;rename_i t z;obtain⟨v,A,q,r⟩:=qM hc;obtain⟨n,t'⟩:=NN hi hn (blk:=.box (zero.map .p)) (c:=v.cells) (e:=t) (fz:=(0,0)) (w':={s.w with heap:=s.w.heap.push (.cells v.cells t)}) rfl rfl rfl
  (λo _ _ h=>by simp at h) (λ_ _ _ h=>by cases h) ⟨by simp[q],λi x j=>by
   rw[fT]at j;cases hz:zero[i]? with
   |none=>simp[hz]at j
   |some c=>
    simp[hz]at j;subst j;have y:=Jq hz;have k:i<v.cells.size:=by omega
    have:=r (w:=s.w) (C:=s.g.C) i c v.cells[i] hz (by simp);exact⟨v.cells[i],by simp,.p _ _ this,this.one⟩⟩
 refine fO (e:=⟨.ptr new 0,[(new,.box (zero.map .p))]⟩) (v:=.pointer (some ⟨s.w.heap.size,0,none⟩)) ?_ n t' (.ptr new 0 _ 0 (if_pos rfl) ⟨_,gQ hn⟩);simp_all [execOp,Instr.alloc,CM,newVar,newRow];cases hc
theorem JFq(hi:Inv s)(hn:s.σ[new]?=some .dead){esz x}(h:(opR F (.mkarr esz x) new).run ⟨env,s.σ⟩=some e)(hc:JS P (.mkarr esz x) o.op=true):bH P o a s e:=by
 simp only[opR,RM.run]at h;cases h;obtain⟨k,t'⟩:=NT hi hn esz;have hrel:JD ⟨s.σ.set new (.arr true esz []),eU s.g new none,s.w⟩ (.slr new 0 0) (.slice none 0 0):=
  .slr new 0 0 _ true esz [] ⟨none,0,rfl,.inl rfl⟩ (gQ hn) (zQ0 _) λ_=>.inl ⟨if_pos rfl,rfl,rfl,rfl⟩
 unfold JS at hc;simp only at hc;split at hc;rename_i j;exact fO (e:=⟨.slr new 0 0,[(new,.arr true esz [])]⟩) (v:=.slice none 0 0) (by simp only[execOp,j];rfl) k t' hrel;rename_i j;exact fO (e:=⟨.slr new 0 0,[(new,.arr true esz [])]⟩) (v:=.slice none 0 0) (by simp only[execOp,j];rfl) k t' hrel;cases hc
theorem NE{α:Type}{cs vs cs':List α}{off:Nat}(h:spl cs off vs=some cs'):cs'.length=cs.length/\off+vs.length<=cs.length/\
  (∀(i:Nat),i<vs.length->cs'[off+i]?=vs[i]?)/\ ∀k,(k<off\/off+vs.length<=k)->cs'[k]?=cs[k]?:=by
 unfold spl at h;split at h;simp_all
 ·split at h
  ·rename_i e;cases h;refine⟨by simp;omega,e,λi hi=>?_,λk g=>?_⟩
   all_goals grind
  cases h
theorem JBs{w:World}{r o:Nat}{vs:List Value}{c:Array Value}{et:TypeId}{fz:Nat×Nat}(hh:w.heap[r]?=some (.cells c et fz))(hl:o+vs.length<=c.size)
  (hf:AW fz o (o+vs.length)) (h1: ∀v∈vs,v.oneCell'=true):(storeCells ⟨r,o,none⟩ vs).run P w=.ok () (w.setCells r o vs):=by
 have:=run_storeCells_cells (P:=P) r o vs 0 w
  (λj e=>by rw[oK,iR hh];simp;omega)
  (λj e=>by
   have:=hf (o+0+j) (by omega) (by omega);grind [World.frozen?]) h1
 simp_all
theorem ec{t:TypeId}{v:Value}{w:World}{r o:Nat}{c:Array Value}{et:TypeId}{fz:Nat×Nat}(hs:szT P t=some v.cells.size)(hh:w.heap[r]?=some (.cells c et fz))(hl:o+v.cells.size<=c.size)
  (hf:AW fz o (o+v.cells.size)) (h1: ∀u∈v.cells.toList,u.oneCell'=true):(storeVar t ⟨r,o,none⟩ v).run P w=.ok () (w.setCells r o v.cells.toList):=by
 have:=JBs (P:=P) (vs:=v.cells.toList) hh (by simpa using hl) (by simpa using hf) h1;simp_all [storeVar,gL]
theorem ZU{o:Oper}{e:Eff}{w':World}{g':Gh}(hr:(execOp a.eval o).run P s.w=.ok .skip w')(g:e.val=fX)
  (hi:Inv ⟨upd e.ws s.σ,g',w'⟩) (t:aW s ⟨upd e.ws s.σ,g',w'⟩):bH P o a s e:=by
 intro next Q h;simp only[Oper.wp,hr,Oper.upon];exact h undef w' g' hi t (by rw[g];exact .tup _ _ rfl λi x v h=>by simp at h)
theorem A1{b:Nat}: ∀{ws:List (Nat×Blk)} {σ:List Blk},(ws.all λy=>y.1 !=b)=true->(upd ws σ)[b]?=σ[b]?
 |[],_,_=>rfl
 |y::ws,σ,h=>by simp only[List.all_cons,JW,bne_iff_ne]at h;show(upd ws (σ.set y.1 y.2))[b]?=_;rw[A1 h.2,qL h.1]
theorem JGa(hi:Inv s)(he:bI s a.tmps env){size x y}(h:(opR F (.store size x y) new).run ⟨env,s.σ⟩=some e)(hc:JS P (.store size x y) o.op=true):bH P o a s e:=by
 simp only[opR]at h;obtain⟨u,h1,h'⟩:=bind_some h;obtain⟨v,h2,g⟩:=bind_some h';clear h h';unfold JS at hc;simp only at hc;split at hc;rename_i t x' n c3;simp only[JW,beq_iff_eq]at hc;obtain⟨⟨hs,hx⟩,hy⟩:=hc;have rx:=bD he h1 hx;have ry:=bD he h2 hy;have a0: ∀{r L:Nat} {w':World},a.eval x'=.pointer (some ⟨r,L,none⟩)->(storeVar t ⟨r,L,none⟩ (a.eval n)).run P s.w=.ok () w'->(execOp a.eval o).run P s.w=.ok .skip w':=by simp_all [execOp,Instr.storeAt,Instr.sureAddr]
 unfold gX at g;split at g;rename_i b off;simp only[RM.run]at g;split at g;rename_i blk I;split at g;rename_i cs;split at g;rename_i l hl;split at g;rename_i am;split at g;rename_i cs' a8;cases g;have I:s.σ[b]?=some (.box cs):=I;generalize hz:a.eval x'=z at rx;cases rx with
 |ptr _ _ r L m bx=>
  obtain⟨k1,k2,k3⟩:=QE hl ry;obtain⟨j1,j2,j3,j4⟩:=NE a8;obtain⟨r1,o1,c,D,fz,C,S,au,Z,hf⟩:=hi.box b cs I;rw[m]at C;injection C with C;injection C with m1 m2;subst m1 m2;have B:=CZ (vs:=(a.eval n).cells.toList) (o:=L+off) S (by simp;omega);have hlen:(a.eval n).cells.toList.length=l.length:=by simp[k1]
  obtain⟨i',t'⟩:=da hi (blk:=.box cs') I B (λk h1 h2=>by
   grind [Wr1]) (.box _ _ j1) (λbw q E=>by
   cases q;obtain⟨c0,e0,av,c',A,p2,p3,p4,p5,p6⟩:=B.there;rw[S]at A;injection A with A;injection A with K q2 q3;subst K q2 q3;refine⟨r,L,c',D,fz,m,p2,by omega,λi x aq=>?_,by simp_all⟩;by_cases b0:off<=i/\i<off+l.length;have D:cs'[off+(i-off)]?=l[i-off]?:=j3 (i-off) (by omega);rw[show off+(i-off)=i by omega,aq]at D;have J:i-off<(a.eval n).cells.size:=by omega
   have e2:=p5 (i-off) (a.eval n).cells[i-off] (by simp);refine⟨(a.eval n).cells[i-off],by rw[<-e2];congr 1;omega,E (k3 (i-off) x _ D.symm (by simp)),k2 _ (by simp)⟩;grind)
   (λ_ _ q=>by cases q)
  refine ZU (e:=⟨fX,[(b,.box cs')]⟩) (a0 hz (ec (by simp_all) S (by omega) (λk h1 h2=>hf k (by omega) (by omega)) k2)) rfl i' t'
 cases g;cases g;cases g;cases g;cases g;rename_i b ext i off;simp only[RM.run]at g;split at g;rename_i blk I;split at g;rename_i esz rows;split at g;rename_i aa;split at g;rename_i row O;obtain⟨H,h3,T⟩:=bind_some g;split at T;rename_i U;split at T;rename_i N V;cases T;have I:s.σ[b]?=some (.arr true esz rows):=I;obtain⟨am,ba⟩:=U;obtain⟨g1,i1,t1,f1,l1,r1⟩:=XE hi (.refl _) h3 ry;have R:(upd H.2 s.σ)[b]?=some (.arr true esz rows):=by grind [A1]
 have Y:=rx.mono hi t1;obtain⟨j1,j2,j3,j4⟩:=NE V;have a7: ∀u∈(a.eval n).cells.toList,u.oneCell'=true:=by
  intro u hu;obtain⟨k,G⟩:=kQ hu;have G:(a.eval n).cells[k]?=some u:=by simpa using G
  have J:=PI G;exact(r1 k H.1[k] u (by simp_all) G).one
 generalize hz:a.eval x'=z at Y;cases Y with
 |ep _ _ _ _ _ wm' a5 rows' p0 A p2 p3=>
  have A:(upd H.2 s.σ)[b]?=some (.arr wm' a5 rows'):=A;rw[R]at A;injection A with A;injection A with a1 a2 a3;subst a1 a2 a3;have J:=Jq O;obtain⟨r,m,hv⟩:=p3 aa (by omega);rcases i1.arr b _ _ _ R with⟨C,_⟩|⟨rr,c,D,fz,C,S,ap,au,Z,hf⟩;simp_all;rw[m]at C;injection C with C;injection C with m1 _;subst m1;have b4:=ap row (fZ O);have hlen:(a.eval n).cells.toList.length=H.1.length:=by simp[l1]
  have bi:i*esz+esz<=rows.length*esz:=(by have:=zQ4 esz (show i+1<=rows.length from J);grind);have M:s.w.heap[r]?=some (.cells c D fz):=S;have B:=CZ (vs:=(a.eval n).cells.toList) (o:=i*esz+off) M (by grind);obtain⟨i2,t2⟩:=da (s0:=⟨upd H.2 s.σ,g1,s.w⟩) i1 (blk:=.arr true esz (rows.set i N)) R B (λk h1 h2=>by
   grind [Wr1]) (.arr _ _ _ (by simp)) (λ_ q=>by cases q) (λb9 b3 q E=>by
   injection q with _ h1 h2;subst h1 h2;obtain⟨c0,e0,av,c',K,q2,q3,q4,q5,q6⟩:=B.there;rw[M]at K;injection K with K;injection K with w1 w2 w3;subst w1 w2 w3;refine .inr ⟨r,c',D,fz,m,q2,λc1 bz=>?_,by simp;omega,λk j a6 x0 G hj=>⟨?_,λh=>by cases h⟩,by simp_all⟩;grind;have bn:=Jq hj;by_cases W:k=i;subst W;rw[AM J]at G;cases G;by_cases b0:off<=j/\j<off+H.1.length;have D:=j3 (j-off) (by omega);rw[show off+(j-off)=j by omega,hj]at D;have Q:j-off<(a.eval n).cells.size:=by omega
   have e2:=q5 (j-off) (a.eval n).cells[j-off] (by simp);refine⟨(a.eval n).cells[j-off],by rw[<-e2];congr 1;omega,E (r1 (j-off) x0 _ D.symm (by simp))⟩;grind;rw[EQ (Ne.symm W)]at G;obtain⟨⟨v',az,ak⟩,_⟩:=Z k j a6 x0 G hj;refine⟨v',?_,E ak⟩;rw[q6 _ ?_];exact az;have an:j<esz:=by grind
   rw[hlen];rcases zQ3 k i with Q|c2;left;have:=iO Q an;omega;right;have:=zQ4 esz (show i+1<=k by omega);grind)
  refine ZU (e:=⟨fX,H.2++[(b,.arr true esz (rows.set i N))]⟩) (g':=g1) (a0 (hz.trans hv) (ec (by simp_all) M (by grind) (λk h1 h2=>hf.1 k (by omega) (by grind)) a7)) rfl ?_ ?_;rw[eN];exact i2;rw[eN];exact t1.trans t2
 cases T;cases T;cases g;cases g;cases g;cases g;cases g;cases hc
end
end Go.Am
end
section
namespace Go.Am
theorem Fm(vs:List Value): ∀(k:Nat) (off:Nat) (cs:Array Value),off+k+vs.length<=cs.size->
  let r:=(vs.zipIdx k).foldl (λcs (x:Value×Nat)=>cs.setIfInBounds (off+x.2) x.1) cs
  r.size=cs.size/\(∀(j:Nat) v,vs[j]?=some v->r[off+k+j]?=some v)/\ ∀i,(i<off+k\/off+k+vs.length<=i)->r[i]?=cs[i]?:=by
 induction vs with
 |nil=>simp_all
 |cons v vs ih=>
  intro k off cs h;simp only[fr]at h;have:=ih (k+1) off (cs.setIfInBounds (off+k) v) (by simp;omega);simp only[List.zipIdx_cons,List.foldl_cons];obtain⟨h1,h2,e⟩:=this;grind
section
variable {P:Program} {F:Orc} {s:Sn} {a:Act} {env:List (Nat×AV)} {o:Oper} {new:Nat} {e:Eff}
theorem pg{place:Nat->Option (Nat×Nat)}{cells:Array Value}{i:Nat}{v:Value}{rest:List (Nat×Value)}{off size:Nat}(hp:place i=some (off,size))(hs:v.cells.size=size)(hl:off+size<=cells.size):
  ∃e:Array Value,Instr.fill place cells ((i,v)::rest)=Instr.fill place e rest/\e.size=cells.size/\(∀(j:Nat) u,v.cells[j]?=some u->e[off+j]?=some u)/\
   ∀k,(k<off\/off+size<=k)->e[k]?=cells[k]?:=by
 subst hs;obtain⟨h1,h2,h⟩:=Fm v.cells.toList 0 off cells (by simp;omega);refine⟨v.cells.zipIdx.foldl (λcs (c,j)=>cs.setIfInBounds (off+j) c) cells,?_,?_,?_,?_⟩;grind [Instr.fill]
 all_goals (have g:v.cells.zipIdx.foldl (λcs (x:Value×Nat)=>cs.setIfInBounds (off+x.2) x.1) cells=(v.cells.toList.zipIdx 0).foldl (λcs (x:Value×Nat)=>cs.setIfInBounds (off+x.2) x.1) cells:=by
             rw[<-Array.foldl_toList];simp)
 all_goals simp_all
theorem ZO{place:Nat->Option (Nat×Nat)}: ∀{parts:List (Nat×Nat×List AV)} {ps:List (Nat×Value)} {cs cs':List AV} {cells:Array Value},
  oG parts cs=some cs'->parts.length=ps.length->
  (∀(k:Nat) off size l i v,parts[k]?=some (off,size,l)->ps[k]?=some (i,v)->place i=some (off,size)/\l.length=v.cells.size/\(∀u∈v.cells.toList,u.oneCell'=true)/\
   ∀(j:Nat) y u,l[j]?=some y->v.cells[j]?=some u->JD s y u)->
  cs.length=cells.size->(∀(i:Nat) x,cs[i]?=some x-> ∃u,cells[i]?=some u/\JD s x u/\u.oneCell'=true)->
  ∃e,Instr.fill place cells ps=some e/\cs'.length=e.size/\ ∀(i:Nat) x,cs'[i]?=some x-> ∃u,e[i]?=some u/\JD s x u/\u.oneCell'=true
 |[],[],cs,cs',cells,h,_,_,hl,hr=>by simp[oG]at h;subst h;exact⟨cells,rfl,hl,hr⟩
 |[],_::_,_,_,_,_,hl,_,_,_=>by simp at hl
 |_::_,[],_,_,_,_,hl,_,_,_=>by simp at hl
 |(off,size,l)::parts,(i,v)::ps,cs,cs',cells,h,hlen,hp,hl,hr=>by
  unfold oG at h;split at h;rename_i D;split at h;rename_i F n;obtain⟨z,H,q,r⟩:=hp 0 off size l i v rfl rfl;obtain⟨G,M,w,I⟩:=NE n;obtain⟨g,J,K,A,L⟩:=pg (v:=v) (rest:=ps) (cells:=cells) z (by omega) (by omega);obtain⟨e,Q,O,N⟩:=ZO (cells:=g) h (by simpa using hlen) (λk off size l i v h1 h2=>hp (k+1) off size l i v (by simpa using h1) (by simpa using h2)) (by omega) (λk x B=>by
   by_cases E:off<=k/\k<off+l.length;have o:=w (k-off) (by omega);rw[show off+(k-off)=k by omega,B]at o;have C:k-off<v.cells.size:=by omega
   have P:=A (k-off) v.cells[k-off] (by simp);exact⟨v.cells[k-off],by simp_all,r (k-off) x _ o.symm (by simp),q _ (by simp)⟩;grind)
  simp_all;cases h;cases h
theorem dn(he:bI s a.tmps env){place:Nat->Option (Nat×Nat)}: ∀{parts:List (Nat×Nat×Opd)} {ps:List (Nat×Operand)} {l:List (Nat×Nat×List AV)},
  (jE parts).run ⟨env,s.σ⟩=some l->qI place parts ps=true->
  l.length=(ps.map λx=>(x.1,a.eval x.2)).length/\
  ∀(k:Nat) off size cs i v,l[k]?=some (off,size,cs)->(ps.map λx=>(x.1,a.eval x.2))[k]?=some (i,v)->place i=some (off,size)/\cs.length=v.cells.size/\(∀u∈v.cells.toList,u.oneCell'=true)/\
   ∀(j:Nat) y u,cs[j]?=some y->v.cells[j]?=some u->JD s y u
 |[],[],l,h,_=>by
  grind [jE,RM.run]
 |[],_::_,_,_,e=>by grind [qI]
 |_::_,[],_,_,e=>by grind [qI]
 |(off,size,x)::parts,(i,y)::ps,l,h,e=>by
  simp only[qI,JW,beq_iff_eq]at e;obtain⟨⟨z,g⟩,e⟩:=e;simp only[jE]at h;obtain⟨v,h1,h⟩:=bind_some h;split at h;rename_i cs hcs;obtain⟨q,h2,h⟩:=bind_some h;simp only[RM.run]at h;injection h with h;subst h;obtain⟨n,o⟩:=dn he h2 e;obtain⟨r,A,w⟩:=QE hcs (bD he h1 g);grind;cases h
theorem dq: ∀{fs:List Field},(∀f∈fs,(szT P f.type).isSome=true)-> ∀w:World,
  (fs.mapM λf=>do pure (f.offset,<-sizeOf f.type):Sem (List (Nat×Nat))).run P w=.ok (fs.map λf=>(f.offset,(szT P f.type).getD 0)) w
 |[],_,w=>by simp
 |f::fs,h,w=>by
  have e:(szT P f.type)=some ((szT P f.type).getD 0):=by have:=h f (by simp);cases hq:szT P f.type<;>simp[hq]at this⊢
  have ih:=dq (fs:=fs) (λg j=>h g (by simp[j])) w;rw[List.mapM_cons];simp only[wD,gL e,rH,QS,ih];simp
theorem JFw(hi:Inv s)(he:bI s a.tmps env){zero parts}(h:(opR F (.build zero parts) new).run ⟨env,s.σ⟩=some e)(hc:JS P (.build zero parts) o.op=true):bH P o a s e:=by
 simp only[opR]at h;obtain⟨l,h1,E⟩:=bind_some h;clear h;unfold JS at hc;simp only at hc;split at hc;rename_i t ps a1;simp only[JW]at hc;obtain⟨Y,k⟩:=hc;obtain⟨z,a2,K,L⟩:=qM Y;split at E;rename_i cs hcs;obtain⟨r,Z,rfl⟩:=fY E;have D: ∀(i:Nat) x,(zero.map AV.p)[i]?=some x-> ∃u,z.cells[i]?=some u/\JD s x u/\u.oneCell'=true:=by
  intro i x I;rw[fT]at I;cases hzi:zero[i]? with
  |none=>simp_all
  |some c=>
   simp[hzi]at I;subst I;have J:=Jq hzi;have S:i<z.cells.size:=by omega
   have:=L (w:=s.w) (C:=s.g.C) i c z.cells[i] hzi (by simp);exact⟨z.cells[i],by simp,.p _ _ this,this.one⟩
 have fin: ∀{place:Nat->Option (Nat×Nat)},qI place parts ps.toList=true->
   ∃j,Instr.fill place z.cells (ps.toList.map λx=>(x.1,a.eval x.2))=some j/\JD s r (.agg j):=by
  intro place B;obtain⟨R,U⟩:=dn he h1 B;obtain⟨j,G,T,W⟩:=ZO (s:=s) (cells:=z.cells) hcs R U (by simp[K]) D;refine⟨j,G,?_⟩;have:=ML (s:=s) (vs:=j.toList) Z (by simpa using T) (λv Q=>by
    obtain⟨i,hi'⟩:=kQ Q;have hi':j[i]?=some v:=by simpa using hi'
    have J:=PI hi';obtain⟨u,O,_,h1⟩:=W i cs[i] (by simp_all);simp_all)
   (λi y v hy Q=>by
    grind)
  simp_all
 have a3:(ps.map λx=>(x.1,a.eval x.2)).toList=ps.toList.map λx=>(x.1,a.eval x.2):=by simp
 split at k;rename_i fs O;simp only[JW]at k;obtain⟨A,B⟩:=k;obtain⟨j,G,H⟩:=fin B;have a0:(λi=>(fs.map λf=>(f.offset,(szT P f.type).getD 0))[i]?)=CE P fs:=by
  funext i
  simp only[CE,Array.getElem?_map];cases hfi:fs[i]? with
  |none=>rfl
  |some f=>have:=RY.1 A f (Array.mem_of_getElem? hfi);cases M:szT P f.type<;>simp[M]at this⊢
 refine JE hi (v:=.agg j) ?_ H;have V:(fs.mapM λf=>do pure (f.offset,<-sizeOf f.type):Sem (Array (Nat×Nat))).run P s.w=.ok (fs.map λf=>(f.offset,(szT P f.type).getD 0)) s.w:=by
  rw[Array.mapM_eq_mapM_toList];simp only[Sem.run_map,dq (P:=P) (fs:=fs.toList) (λf N=>RY.1 A f (by simpa using N)),rH]
  congr 1
  grind
 have N:Instr.fill (λi=>(fs.map λf=>(f.offset,(szT P f.type).getD 0))[i]?) z.cells (ps.map λx=>(x.1,a.eval x.2)).toList=some j:=by simp_all
 simp_all [Instr.build,CM,run_underlying,execOp];rename_i n el O;split at k;rename_i q M;obtain⟨j,G,H⟩:=fin k;refine JE hi (v:=.agg j) ?_ H;have hb:(Instr.build t (ps.map λx=>(x.1,a.eval x.2))).run P s.w=.ok (.agg j) s.w:=by simp_all [Instr.build,CM,run_underlying,gL]
 simp_all [execOp];cases k;cases k;cases E;cases hc
theorem JIR(hi:Inv s){n}(h:(opR F (.alen n) new).run ⟨env,s.σ⟩=some e)(hc:JS P (.alen n) o.op=true):bH P o a s e:=by
 simp only[opR,RM.run]at h;injection h with h;subst h;unfold JS at hc;simp only at hc;split at hc;rename_i c k;split at hc;rename_i g;split at hc;rename_i y t j r;have z:c.args.map a.eval= #[a.eval y]:=by apply vV;simp[j]
 have q:c.argTypes[0]?=some t:=by rw[<-EN,r];rfl
 split at hc;rename_i m el w;have:m=n:=by simpa using hc
 subst this;exact JE hi (v:=.int .i64 m) (by simp[execOp,k,resolve,g,z,invoke,builtin,Builtin.len_,q,run_underlying w,goInt]) (oF _ _);rename_i ar w;split at hc;rename_i m el x;have:m=n:=by simpa using hc
 subst this;exact JE hi (v:=.int .i64 m) (by simp[execOp,k,resolve,g,z,invoke,builtin,Builtin.len_,q,run_underlying w,run_underlying (YO x),goInt]) (oF _ _);cases hc;cases hc;cases hc;cases hc;cases hc
end
end Go.Am
end
section
namespace Go.Am
def pV(s:Sn)(esz:Nat)(rows:List (List PV))(c:Array Value):Prop:=(∀row∈rows,row.length=esz)/\rows.length*esz<=c.size/\ ∀(i j:Nat) row x,rows[i]?=some row->row[j]?=some x-> ∃u,c[i*esz+j]?=some u/\J0g s.w s.g.C x u
section
variable {P:Program} {F:Orc} {s:Sn} {a:Act} {env:List (Nat×AV)} {o:Oper} {new:Nat} {e:Eff}
theorem pV.mono{s0 s:Sn}(hi:Inv s0)(t:aW s0 s){esz rows c}(h:pV s0 esz rows c):pV s esz rows c:=
 ⟨h.1,h.2.1,λi j row x e g=>let⟨u,h1,h2⟩:=h.2.2 i j row x e g;⟨u,h1,h2.mono hi t⟩⟩
theorem OH{s0:Sn}(hi:Inv s0)(hn:s0.σ[new]?=some .dead){esz:Nat}{rows:List (List PV)}{c:Array Value}{et:TypeId}{fz:Nat×Nat}{w':World}{cap:Nat}
  (hh:w'.heap=s0.w.heap.push (.cells c et fz)) (ho:w'.os=s0.w.os) (hp:w'.output=s0.w.output) (hf:tY esz fz c.size) (hr:pV s0 esz rows c) (e:rows.length<=cap) (g:cap*esz<=c.size):
  (∃g',Inv ⟨s0.σ.set new (.arr true esz rows),g',w'⟩/\aW s0 ⟨s0.σ.set new (.arr true esz rows),g',w'⟩/\
   JD ⟨s0.σ.set new (.arr true esz rows),g',w'⟩ (.slr new 0 rows.length) (.slice (some ⟨s0.w.heap.size,0,none⟩) rows.length cap)):=by
 obtain⟨j,t'⟩:=NN hi hn (blk:=.arr true esz rows) hh ho hp hf.1 (λ_ _ _ h=>by injection h with _ h _;subst h;exact hf.2) hr;refine⟨_,j,t',.slr new 0 _ _ true esz rows ⟨_,_,rfl,.inr (by simp)⟩ (gQ hn) (by omega) λ_=>.inr ⟨s0.w.heap.size,cap,c,et,fz,if_pos rfl,by simp,e,IE hh,by simpa using g⟩⟩
theorem db{s0:Sn}(hi:Inv s0){esz:Nat}{rows:List (List PV)}{c:Array Value}{et:TypeId}{fz:Nat×Nat}{w':World}{cap:Nat}
  (hh:w'.heap=s0.w.heap.push (.cells c et fz)) (ho:w'.os=s0.w.os) (hp:w'.output=s0.w.output) (hr:pV s0 esz rows c) (e:rows.length<=cap):
  (∃g',Inv ⟨s0.σ,g',w'⟩/\aW s0 ⟨s0.σ,g',w'⟩/\JD ⟨s0.σ,g',w'⟩ (.p (.sl esz rows)) (.slice (some ⟨s0.w.heap.size,0,none⟩) rows.length cap)):=by
 obtain⟨g,t'⟩:=JEf hi hh ho hp;refine⟨_,g,t',.p _ _ (d6 (s:=⟨s0.σ,_,w'⟩) rfl e hr.1 (.inr ⟨_,0,rfl,λi j row x hi' h=>⟨.inr rfl,?_⟩⟩))⟩;obtain⟨u,k,hrel⟩:=hr.2.2 i j row x hi' h;exact⟨u,by grind [iR],hrel.mono hi t'⟩
theorem lq{F:List Blk}{tmps:Array Value}(he: ∀n x,lk n env=some x-> ∃v,a.tmps[n]?=some v): ∀{xs:List Opd} {j:List Operand} {s:Sn} {y:List (List PV)×List (Nat×Blk)},Inv s->Frz F s.σ->bI s a.tmps env->
  (fzs xs).run ⟨env,F⟩=some y->hE xs j=true->
  ∃g',Inv ⟨upd y.2 s.σ,g',s.w⟩/\aW s ⟨upd y.2 s.σ,g',s.w⟩/\Frz s.σ (upd y.2 s.σ)/\y.1.length=j.length/\
   ∀(k:Nat) cs q,y.1[k]?=some cs->j[k]?=some q->cs.length=(a.eval q).cells.size/\ ∀(i:Nat) c u,cs[i]?=some c->(a.eval q).cells[i]?=some u->J0g s.w g'.C c u
 |[],[],s,y,hi,r,z,h,_=>by
  simp only[fzs,RM.run]at h;injection h with h;subst h;exact⟨s.g,hi,.refl s,.refl _,rfl,λk cs q h=>by simp at h⟩
 |[],_::_,_,_,_,_,_,_,e=>by grind [hE]
 |_::_,[],_,_,_,_,_,_,e=>by grind [hE]
 |x::xs,q::j,s,y,hi,r,z,h,e=>by
  simp only[hE,JW]at e;simp only[fzs]at h;obtain⟨v,h1,h⟩:=bind_some h;obtain⟨o,h2,h⟩:=bind_some h;obtain⟨O,R,h⟩:=bind_some h;simp only[RM.run]at h;injection h with h;subst h;have E:(ev x).run ⟨env,s.σ⟩=some v:=by cases x<;>simp_all [ev,RM.run]
  have P:=bD z E e.1;obtain⟨J,i1,D,B,M,K⟩:=XE hi r h2 P;obtain⟨H,i2,A,L,N,S⟩:=lq (tmps:=tmps) he (s:=⟨upd o.2 s.σ,J,s.w⟩) i1 (r.trans B) (z.mono hi D) R e.2;refine⟨H,by grind [eN],by rw[eN];exact D.trans A,by rw[eN];exact B.trans L,by simp[N],λk cs q' G I=>?_⟩;cases k with
  |zero=>simp at G I;subst G I;exact⟨M,λi c u e Q=>J0g.mono (s0:=⟨upd o.2 s.σ,J,s.w⟩) (s:=⟨upd O.2 (upd o.2 s.σ),H,s.w⟩) i1 A (K i c u e Q)⟩
  |succ k=>grind
theorem o4{esz:Nat}(z:0<esz): ∀{parts:List (Nat×List PV)} {ps:List (Nat×Value)} {rows rows':List (List PV)} {cells:Array Value},
  xR esz parts rows=some rows'->parts.length=ps.length->
  (∀(k:Nat) i cs j v,parts[k]?=some (i,cs)->ps[k]?=some (j,v)->i=j/\cs.length=v.cells.size/\ ∀(m:Nat) c u,cs[m]?=some c->v.cells[m]?=some u->J0g s.w s.g.C c u)->
  pV s esz rows cells->cells.size=rows.length*esz->
  ∃e,Instr.fill (λi=>some (i*esz,esz)) cells ps=some e/\pV s esz rows' e/\rows'.length=rows.length/\e.size=rows.length*esz
 |[],[],rows,rows',cells,h,_,_,hr,hs=>by simp[xR]at h;subst h;exact⟨cells,rfl,hr,rfl,hs⟩
 |[],_::_,_,_,_,_,hl,_,_,_=>by simp at hl
 |_::_,[],_,_,_,_,hl,_,_,_=>by simp at hl
 |(i,cs)::parts,(j,v)::ps,rows,rows',cells,h,hlen,hp,hr,hs=>by
  unfold xR at h;split at h;rename_i B;obtain⟨rfl,M,D⟩:=hp 0 i cs j v rfl rfl;have E:i*esz+esz<=rows.length*esz:=(by have:=zQ4 esz (show i+1<=rows.length from B.2);grind);obtain⟨o,N,P,G,F⟩:=pg (place:=λi=>some (i*esz,esz)) (v:=v) (rest:=ps) (cells:=cells) (i:=i) rfl (by omega) (by omega);obtain⟨H,U,I⟩:=hr;obtain⟨e,S,R,Q,O⟩:=o4 z (cells:=o) h (by simpa using hlen) (λk i cs j v h1 h2=>hp (k+1) i cs j v (by simpa using h1) (by simpa using h2))
   ⟨λrow T=>by
     grind,by simp;omega,λk m row x n q=>by
     by_cases r:k=i;subst r;rw[AM B.2]at n;injection n with n;subst n;have L:=Jq q;have y:m<v.cells.size:=by omega
     exact⟨v.cells[m],G m _ (by simp),D m x _ q (by simp)⟩;rw[EQ (Ne.symm r)]at n;obtain⟨u,J,hrel⟩:=I k m row x n q;refine⟨u,?_,hrel⟩;rw[F _ ?_];exact J;have A:=Jq q;rw[H row (fZ n)]at A;rcases zQ3 k i with y|K;grind [iO];right;have:=zQ4 esz (show i+1<=k by omega);grind⟩ (by simp;omega)
  grind;cases h
theorem HR{t:TypeId}{n:Nat}(h:szT P t=some n): ∃i,P.info? t=some i/\i.size=n:=by simp_all [szT]
theorem NM{t:TypeId}{v:Value}{i:TypeInfo}(h:zeT P t=some v)(hi:P.info? t=some i):i.zero=some v:=by
 grind [zeT]
theorem NX{t:TypeId}{n:Nat}{i:TypeInfo}(h:byT P t=some n)(hi:P.info? t=some i):i.bytes=n:=by
 grind [byT]
theorem JGF{z:Array Value}{esz n i j:Nat}(hz:z.size=esz)(hi:i<n)(hj:j<esz):(madeCells z (n*esz))[i*esz+j]?=z[j]?:=by
 grind [iO,Nat.add_mul_mod_self_right,Nat.mod_eq_of_lt,madeCells]
theorem qa{zero:List PV}{z:Value}{esz n m:Nat}(hl:zero.length=esz)(k:zero.length=z.cells.size)
  (g: ∀{w C} (i:Nat) x u,zero[i]?=some x->z.cells[i]?=some u->J0g w C x u) (q:n<=m):pV s esz (List.replicate n zero) (madeCells z.cells (m*esz)):=by
 refine⟨λrow v=>by simp_all,?_,λi j row x hi h=>?_⟩;simp_all [size_madeCells,zQ4];have e:=Jq hi;have:=List.eq_of_mem_replicate (fZ hi);subst this;have o:=Jq h;simp at e;have r:z.cells.size=esz:=by omega
 refine⟨z.cells[j],?_,g j x _ h (by simp)⟩;grind [JGF]
theorem JBx(hi:Inv s)(he:bI s a.tmps env){own esz bytes zero l c}(hn:own=true->s.σ[new]?=some .dead)(h:(opR F (.mkslice own esz bytes zero l c) new).run ⟨env,s.σ⟩=some e)
  (hc:JS P (.mkslice own esz bytes zero l c) o.op=true):bH P o a s e:=by
 simp only[opR]at h;obtain⟨u,h1,E⟩:=bind_some h;obtain⟨v,h2,g⟩:=bind_some E;clear h E;unfold JS at hc;simp only at hc;split at hc;rename_i t l' c' a0;simp only[JW]at hc;obtain⟨⟨Y,D⟩,x⟩:=hc;have U:=bD he h1 Y;have V:=bD he h2 D;split at x;rename_i el G;simp only[JW,beq_iff_eq,decide_eq_true_eq]at x;obtain⟨⟨⟨⟨⟨Z,L⟩,W⟩,I⟩,S⟩,R⟩:=x;obtain⟨i,j,J⟩:=HR Z;obtain⟨z,H,K,M⟩:=qM W;have Q:=NX L j;split at g;rename_i k n T m;split at g;rename_i r;obtain⟨N,O,hb,hm⟩:=r;have e1:=hJ U;have e2:=hJ V;have B:=run_make (P:=P) s.w t el i z (eY G) j (NM H j) k T n m N O (by simp_all) (by omega);rw[J]at B;have q:pV s esz (List.replicate n.toNat zero) (madeCells z.cells (m.toNat*esz)):=qa I K M (by omega);have y:(execOp a.eval o).run P s.w=.ok (.value (.slice (some ⟨s.w.heap.size,0,none⟩) n.toNat m.toNat)) (s.w.alloc (.cells (madeCells z.cells (m.toNat*esz)) el)):=by simp_all [execOp]
 split at g;rename_i A;simp only[RM.run]at g;injection g with g;subst g;obtain⟨g',C,t',r'⟩:=OH hi (hn A) (w':=s.w.alloc (.cells (madeCells z.cells (m.toNat*esz)) el)) (fz:=(0,0)) rfl rfl rfl (tY.zero _ _) q (cap:=m.toNat) (by simp;omega) (by simp[size_madeCells]);simp only[AS]at r';exact fO y C t' r';simp only[RM.run]at g;injection g with g;subst g;obtain⟨g',C,t',r'⟩:=db hi (w':=s.w.alloc (.cells (madeCells z.cells (m.toNat*esz)) el)) (fz:=(0,0)) rfl rfl rfl q (cap:=m.toNat) (by simp;omega);simp only[AS]at r';exact fO (e:=⟨_,[]⟩) y C t' r';cases g;cases g;cases x;cases hc
theorem JIt(hi:Inv s)(he:bI s a.tmps env){own esz n zero parts}(hn:own=true->s.σ[new]?=some .dead)(h:(opR F (.lits own esz n zero parts) new).run ⟨env,s.σ⟩=some e)
  (hc:JS P (.lits own esz n zero parts) o.op=true):bH P o a s e:=by
 simp only[opR]at h;obtain⟨y,h1,r⟩:=bind_some h;clear h;unfold JS at hc;simp only at hc;split at hc;rename_i t len ps ae;simp only[JW,beq_iff_eq]at hc;obtain⟨rfl,G⟩:=hc;split at G;rename_i el J;simp only[JW,beq_iff_eq,decide_eq_true_eq]at G;obtain⟨⟨⟨⟨⟨hs,af⟩,hz⟩,a0⟩,N⟩,hidx⟩:=G;obtain⟨z,Y,a1,a5⟩:=qM hz;have A:hE (parts.map (·.2)) (ps.toList.map (·.2))=true/\parts.map (·.1)=ps.toList.map (·.1):=by
  have: ∀{p:List (Nat×Opd)} {q:List (Nat×Operand)},GR p q=true->hE (p.map (·.2)) (q.map (·.2))=true/\p.map (·.1)=q.map (·.1):=by
   intro p
   induction p with
   |nil=>intro q h;cases q<;>simp[GR]at h⊢;rfl
   |cons x p ih=>intro q h;cases q<;>grind [GR,hE]
  exact this hidx
 obtain⟨T,i1,t1,f1,l1,r1⟩:=lq (tmps:=a.tmps) (λn x hx=>let⟨v,h,_⟩:=he n x hx;⟨v,h⟩) hi (.refl _) he h1 A.1;split at r;rename_i rows H;have E:(parts.map (·.1)).length=(ps.toList.map (·.1)).length:=by rw[A.2]
 simp at E;simp at l1;have R:((parts.map (·.1)).zip y.1).length=(ps.toList.map λx=>(x.1,a.eval x.2)).length:=by simp;omega
 obtain⟨g,O,r2,B,W⟩:=o4 (s:=⟨upd y.2 s.σ,T,s.w⟩) N (ps:=ps.toList.map λx=>(x.1,a.eval x.2)) (cells:=madeCells z.cells (len*esz)) H R (λk i cs j v hk S=>by
   rw[List.getElem?_zip_eq_some]at hk;obtain⟨I,U⟩:=hk;rw[fT]at S;cases hpk:ps.toList[k]? with
   |none=>simp_all
   |some q=>
    simp[hpk]at S;obtain⟨rfl,rfl⟩:=S;rw[A.2,fT,hpk]at I;simp at I;obtain⟨k3,k4⟩:=r1 k cs q.2 U (by simp_all);grind)
  (qa a0 a1 a5 (zQ0 _)) (by simp[size_madeCells])
 simp at B W;have K:(execOp a.eval o).run P s.w=.ok (.value (.slice (some ⟨s.w.heap.size,0,none⟩) len len)) (s.w.alloc (.cells g el)):=by
  have D: ¬(len*esz>2^24):=by omega
  have L:(ps.map fun(x:Nat×Operand)=>(x.1,a.eval x.2)).toList=ps.toList.map λx=>(x.1,a.eval x.2):=by simp
  have hb:(Instr.buildSlice t len (ps.map fun(x:Nat×Operand)=>(x.1,a.eval x.2))).run P s.w=.ok (.slice (some ⟨s.w.heap.size,0,none⟩) len len) (s.w.alloc (.cells g el)):=by
   unfold Instr.buildSlice;by_cases V:len*esz=0;have C:madeCells z.cells (len*esz)= #[]:=by grind [madeCells]
   rw[C]at O;have Z: ¬((0:Nat)>2^24):=by decide
   have a4:Array.range 0= #[]:=rfl;simp only[Z,wD,run_underlying (eY J),rH,gL hs,D,if_false,V,if_true,QS,L,a4,Array.map_empty,O,newRow,run_newObj];rfl;have C:((Array.range (len*esz)).map λx=>z.cells[x%z.cells.size]!)=madeCells z.cells (len*esz):=rfl;simp only[wD,run_underlying (eY J),rH,gL hs,D,if_false,V,CM Y,QS,L,C,O,newRow,run_newObj];rfl
  simp_all [execOp]
 split at r;rename_i M;simp only[RM.run]at r;injection r with r;subst r;have a2:(upd y.2 s.σ)[new]?=some .dead:=f1.2 _ _ (hn M) (by simp);obtain⟨g',Q,t',r'⟩:=OH (s0:=⟨upd y.2 s.σ,T,s.w⟩) i1 a2 (w':=s.w.alloc (.cells g el)) (fz:=(0,0)) rfl rfl rfl (tY.zero _ _) r2 (cap:=len) (by omega) (by omega);rw[B]at r';refine fO (e:=⟨_,y.2++[(new,.arr true esz rows)]⟩) (g':=g') K ?_ ?_ ?_;rw[eN];exact Q;rw[eN];exact t1.trans t';rw[eN];exact r';simp only[RM.run]at r;injection r with r;subst r;obtain⟨g',Q,t',r'⟩:=db (s0:=⟨upd y.2 s.σ,T,s.w⟩) i1 (w':=s.w.alloc (.cells g el)) (fz:=(0,0)) rfl rfl rfl r2 (cap:=len) (by omega);rw[B]at r';exact fO (e:=⟨_,y.2⟩) K Q (t1.trans t') r';cases r;cases G;cases hc
end
end Go.Am
end
section
namespace Go.Am
section
variable {P:Program} {F:Orc} {s:Sn} {a:Act} {env:List (Nat×AV)} {o:Oper} {new:Nat} {e:Eff}
theorem qo(l:List UInt8)(c:Array Value)(hc: ∀(i:Nat) b,l[i]?=some b->c[i]?=some (.int .u8 b.toNat))(hl:l.length<=c.size):pV s 1 (l.map lE) c:=by
 refine⟨λrow g=>?_,by simpa using hl,λi j row x hi e=>?_⟩;obtain⟨b,_,rfl⟩:=iV.1 g;rfl;rw[fT]at hi;cases hli:l[i]? with
 |none=>simp_all
 |some b=>
  simp[hli]at hi;subst hi;have:j=0:=by grind [lE]
  subst this;simp[lE]at e;subst e;exact⟨_,by simp_all,.i _ _⟩
theorem XY{α:Type}{esz:Nat}: ∀{rows:List (List α)},(∀row∈rows,row.length=esz)-> ∀{i j:Nat} {row:List α} {x:α},rows[i]?=some row->row[j]?=some x->rows.flatten[i*esz+j]?=some x
 |[],_,i,j,row,x,h,_=>by simp at h
 |r0::g,e,i,j,row,x,h,n=>by
  have o:r0.length=esz:=e r0 (by simp);cases i with
  |zero=>
   grind
  |succ i=>
   simp only[pO];rw[pH (by grind)];have:=XY (rows:=g) (λrow k=>e row (by simp[k])) (by simpa using h) n;grind
theorem Ig{el:TypeId}(l:List UInt8)(w:World): ∃w' cap c fz,(Conv.stringToBytes el ⟨l.toArray⟩).run P w=.ok (.slice (some ⟨w.heap.size,0,none⟩) l.length cap) w'/\
  w'.heap=w.heap.push (.cells c el fz)/\w'.os=w.os/\w'.output=w.output/\AW fz 0 c.size/\l.length<=cap/\c.size=cap/\ ∀(i:Nat) b,l[i]?=some b->c[i]?=some (.int .u8 b.toNat):=by
 have k:(Question.appendCap l.length 0 el).forced=false:=rfl;have e:l.length<=(Question.appendCap l.length 0 el).cut (w.tape w.drawn (.appendCap l.length 0 el)):=by simp[Question.cut]
 generalize j:(Question.appendCap l.length 0 el).cut (w.tape w.drawn (.appendCap l.length 0 el))=cap at e
 let c:Array Value:=(l.toArray.map λb=>Value.int .u8 b.toNat)++Array.replicate (cap-l.length) (.int .u8 0)
 have r:c.size=cap:=by simp[c];omega
 refine⟨({w with drawn:=w.drawn+1,heap:=w.heap.push (.cells c el)}).freeze {block:=w.heap.size,off:=c.size} 1,cap,c,(c.size,c.size+1),?_,?_,?_,?_,?_,e,r,?_⟩;unfold Conv.stringToBytes;have n:ByteArray.size ⟨l.toArray⟩=l.length:=rY l;have g:World.shape? {w with drawn:=w.drawn+1,heap:=w.heap.push (.cells c el)} w.heap.size=some (el,c.size):=by simp[World.shape?]
 have q:(Array.map (λb=>Value.int IntKind.u8 ↑(UInt8.toNat b)) l.toArray++Array.replicate (cap-l.length) (Value.int IntKind.u8 0))=c:=rfl;simp only[wD,run_choose,n,k,eB,if_false,rH,j,newRow,run_newObj,QS,markStringish,run_shape,run_freeze,q,g];grind [World.freeze];simp[World.freeze];simp[World.freeze];intro o _ h;simp;omega;grind
theorem JC7(hi:Inv s)(he:bI s a.tmps env){own x}(hn:own=true->s.σ[new]?=some .dead)(h:(opR F (.conv (.toBytes own) x) new).run ⟨env,s.σ⟩=some e)
  (hc:JS P (.conv (.toBytes own) x) o.op=true):bH P o a s e:=by
 simp only[opR]at h;obtain⟨u,h1,g⟩:=bind_some h;clear h;unfold JS at hc;simp only at hc;split at hc;rename_i L dst y J;simp only[JW]at hc;obtain⟨I,N,q⟩:=hc;have E:=bD he h1 I;split at q;rename_i el K;simp only[JW,beq_iff_eq]at q;have v: ∃l,u=.p (.s l)/\(if own=true then RM.ret ⟨.slr new 0 l.length,[(new,.arr true 1 (l.map lE))]⟩else RM.ret ⟨.p (.sl 1 (l.map lE)),[]⟩:RM Eff).run ⟨env,s.σ⟩=some e:=by
  cases u with
  |p c=>cases c with|s l=>simp_all|_=>cases g
  |_=>cases g
 clear g;obtain⟨l,rfl,g⟩:=v
 skip
 obtain⟨w',cap,c,fz,D,B,A,z,H,C,hcs,G⟩:=Ig (P:=P) (el:=el) l s.w;have M:=rS E;have k:(execOp a.eval o).run P s.w=.ok (.value (.slice (some ⟨s.w.heap.size,0,none⟩) l.length cap)) w':=by simp_all [execOp,convert,run_underlying,uY,eY,n3]
 have j:=qo (s:=s) l c G (by omega);split at g;rename_i n;simp only[RM.run]at g;injection g with g;subst g;obtain⟨g',r,t',r'⟩:=OH (esz:=1) hi (hn n) B A z ⟨H,λh=>absurd rfl h⟩ j (cap:=cap) (by simp_all) (by omega);simp only[dX]at r';exact fO k r t' r';simp only[RM.run]at g;injection g with g;subst g;obtain⟨g',r,t',r'⟩:=db hi B A z j (cap:=cap) (by simp_all);simp only[dX]at r';exact fO (e:=⟨_,[]⟩) k r t' r';cases q;cases hc
theorem XG(hi:Inv s){esz:Nat}{x:AV}{new:List (List PV)}{v:Value}{u:TypeId}(h:(eH esz x).run ⟨env,s.σ⟩=some new)(hr:JD s x v)
  (hu:(elT P u).isSome=true\/hH P u=true):
  ∃news,Src P esz u v new.length news s.w/\(∀row∈new,row.length=esz)/\
   ∀(i j:Nat) row y,new[i]?=some row->row[j]?=some y-> ∃q,news[i*esz+j]?=some q/\J0g s.w s.g.C y q:=by
 have e:(∃e',P.underlying u=some (.slice e'))\/P.underlying u=some .string:=(by rcases hu with hu|hu;obtain⟨e',N⟩:=gi.1 hu;simp_all [eY];grind [uY]);rcases pn hi h hr with⟨l,rfl,rfl,rfl,rfl⟩|E;have hlen:(byteCells ⟨l.toArray⟩).length=l.length:=by rw[byteCells_length,rY]
 have Q: ∀w:World,(Builtin.firstCells 1 l.length (.string ⟨l.toArray⟩)).run P w=.ok (byteCells ⟨l.toArray⟩).toArray w:=(by grind [firstCells_string,rY]);refine⟨byteCells ⟨l.toArray⟩,⟨e,λw=>by rw[dX,<-rY];rfl,by simp_all,by simp_all,by rw[hlen];simp,λq H=>by obtain⟨_,_,rfl⟩:=iV.1 H;rfl⟩,λrow hr=>?_,?_⟩;obtain⟨b,_,rfl⟩:=iV.1 hr;rfl;have:=(qo (s:=s) l (byteCells ⟨l.toArray⟩).toArray (λi b R=>by
  grind [byteCells]) (by simp_all)).2.2
 simp_all;obtain⟨ad,cap,vs,K,F,hlen,hrel,A,n⟩:=E.cells;have z: ∀q∈vs,q.oneCell'=true:=by
  intro q H;obtain⟨k,I⟩:=kQ H;have M:=Jq I;have:k<new.flatten.length:=by grind [OL]
  obtain⟨q',o,hr⟩:=hrel k _ (aQ this);rw[I]at o;injection o with o;subst o;exact hr.one
 have B: ∀(i j:Nat) row y,new[i]?=some row->row[j]?=some y-> ∃q,vs[i*esz+j]?=some q/\J0g s.w s.g.C y q:=by
  intro i j row y h1 h2;refine hrel _ _ ?_;clear hrel A hlen z h hr K F E
  induction new generalizing i with
  |nil=>simp at h1
  |cons J new ih=>have O:J.length=esz:=n J (by simp);cases i<;>grind
 subst K;rcases A with G|⟨r,L,rfl,S⟩;subst G;simp at hlen;subst hlen;refine⟨[],?_,n,B⟩;cases ad with
 |none=>exact⟨e,λ_=>rfl,run_firstCells_none s.w esz 0 0 cap,run_firstCells_none s.w.drew esz 0 0 cap,by simp,λ_ h=>by cases h⟩
 |some ad=>exact⟨e,λ_=>rfl,run_firstCells_some s.w esz 0 ad 0 cap [] (by simp) (λj u h=>by simp at h),run_firstCells_some s.w.drew esz 0 ad 0 cap [] (by simp) (λj u h=>by simp at h),by simp,λ_ h=>by cases h⟩
 have D: ∀j q,vs[j]?=some q->s.w.cell? (Addr.add ⟨r,L,none⟩ j)=some q:=λj q T=>by grind [uV,oK]
 exact⟨vs,⟨e,λ_=>rfl,run_firstCells_some s.w esz _ _ _ cap vs hlen D,run_firstCells_some s.w.drew esz _ _ _ cap vs hlen (by simpa using D),hlen,z⟩,n,B⟩
theorem NA(b:Nat)(x:Blk)(σ:List Blk):upd [(b,x)] σ=σ.set b x:=rfl
structure g7(P:Program)(esz bytes:Nat)(t ut ty el:TypeId)(z v:Value)(n:Nat)(news:List Value)(w:World):Prop where
 newsLen:news.length=n*esz
 room: ∀(r off sLen sCap:Nat),sLen+n<=sCap->(∀j,j<news.length->(w.cell? ⟨r,off+sLen*esz+j,none⟩).isSome=true)->(∀j,j<news.length->w.frozen? ⟨r,off+sLen*esz+j,none⟩=false)->
  (Builtin.append_ #[t,ut] ty #[.slice (some ⟨r,off,none⟩) sLen sCap,v]).run P w=.ok (.slice (some ⟨r,off,none⟩) (sLen+n) sCap) (w.setCells r (off+sLen*esz) news)
 grow: ∀(base:Option Addr) (sLen sCap:Nat) (olds:List Value),(Builtin.firstCells esz sLen (.slice base sLen sCap)).run P w.drew=.ok olds.toArray w.drew->sCap<sLen+n->((sLen+n:Nat):Int)<=9223372036854775807->
  Builtin.nextslicecap (sLen+n) sCap*bytes<=281474976710656->
  (Builtin.append_ #[t,ut] ty #[.slice base sLen sCap,v]).run P w=.ok (.slice (some ⟨w.heap.size,0,none⟩) (sLen+n) (grownCap w (sLen+n) sCap el)) (w.drew.alloc (.cells ((olds++news).toArray++Builtin.zeroCells z.cells (grownCap w (sLen+n) sCap el-(sLen+n))) el))
 nil:n=0->(Builtin.append_ #[t,ut] ty #[.slice none 0 0,v]).run P w=.ok (.slice none 0 0) w
theorem Src.gen{esz bytes:Nat}{t ut ty el:TypeId}{i:TypeInfo}{z v:Value}{n:Nat}{news:List Value}{w:World}(g:elT P t=some el)(hs:szT P el=some esz)(j:P.info? el=some i)(x:i.size=esz)(y:i.bytes=bytes)(k:i.zero=some z)
  (h:Src P esz ut v n news w):g7 P esz bytes t ut ty el z v n news w:=by
 have e:=h;rw[<-x]at e;refine⟨h.newsLen,λr off sLen sCap h1 h2 B=>?_,λbase sLen sCap olds h1 h2 B E=>?_,λC=>?_⟩;have D:=run_append_room_src (P:=P) w t ut ty el i (eY g) j r off sLen sCap v n news e h1 (by simp_all) (by simp_all);simp_all;exact run_append_grow_src (P:=P) w t ut ty el i z (eY g) j k base sLen sCap olds (by simp_all) v n news e h2 B (by simp_all);subst C;have A:=h.len w;have o:=h.cells;rcases h.kind with⟨e',q⟩|q;simp[Builtin.append_,run_underlying (eY g),run_underlying q,gL hs,A,o];simp[Builtin.append_,run_underlying (eY g),run_underlying q,gL hs,A,o]
theorem JCh{esz bytes:Nat}{t ut ty el:TypeId}{i:TypeInfo}{z:Value}{k J:IntKind}{m:Nat}{w:World}(n:elT P t=some el)(hs:szT P el=some esz)(h:P.info? el=some i)(o:i.size=esz)(g:i.bytes=bytes)(j:i.zero=some z)
  (N:z.cells.size=esz) (K: ∀u∈z.cells.toList,u.oneCell'=true) (hk:P.underlying ut=some (.int k)) (hm:m*bytes<=281474976710656) (M:m<=281474976710656):
  g7 P esz bytes t ut ty el z (.int J (m:Int)) m (Builtin.zeroCells z.cells m).toList w:=by
 have D:IntKind.i64.wrap (m:Int)=(m:Int):=by grind [IntKind.wrap_i64]
 have A: ¬(m:Int)<0:=by omega
 have B: ¬(281474976710656:Int)<(m:Int)*(bytes:Int):=(by grind);have L:(Builtin.zeroCells z.cells m).toList.length=m*esz:=by grind [size_zeroCells]
 have C: ∀u∈(Builtin.zeroCells z.cells m).toList,u.oneCell'=true:=(by grind [Builtin.zeroCells,Nat.mod_lt]);have E:m*esz=0->Builtin.zeroCells z.cells m= #[]:=(by grind);refine⟨L,λr off sLen sCap h1 h2 G=>?_,λbase sLen sCap olds h1 h2 G O=>?_,λI=>?_⟩;have v:=run_storeCells_cells (P:=P) r (off+sLen*esz) (Builtin.zeroCells z.cells m).toList 0 w (by simpa using h2) (by simpa using G) C;simp only[tP]at v;by_cases q:m*esz=0;have e:=E q;rw[e]at v⊢;simp[Builtin.append_,run_underlying (eY n),run_underlying hk,sizeOf,typeInfo,h,o,g,asInt,asIntOf,D,A,B,h1,q,Addr.add_lit,v];simp[Builtin.append_,run_underlying (eY n),run_underlying hk,sizeOf,typeInfo,zeroValue,h,j,o,g,asInt,asIntOf,D,A,B,h1,q,Addr.add_lit,v];have H: ¬(sLen+m<=sCap):=by omega
 have x: ¬(9223372036854775807<((sLen:Int)+(m:Int))):=by omega
 have y: ¬(281474976710656<Builtin.nextslicecap (sLen+m) sCap*bytes):=by omega
 by_cases q:m*esz=0;have e:=E q;rw[e];simp[Builtin.append_,run_underlying (eY n),run_underlying hk,sizeOf,typeInfo,zeroValue,h,j,o,g,asInt,asIntOf,D,A,B,q,H,x,y,Question.forced,h1,newRow,grownCap];simp[Builtin.append_,run_underlying (eY n),run_underlying hk,sizeOf,typeInfo,zeroValue,h,j,o,g,asInt,asIntOf,D,A,B,q,H,x,y,Question.forced,h1,newRow,grownCap]
 congr 2
 grind;subst I;have F:IntKind.i64.wrap 0=0:=by decide
 simp[Builtin.append_,run_underlying (eY n),run_underlying hk,sizeOf,typeInfo,h,o,g,asInt,asIntOf,F]
theorem ob(hi:Inv s){esz bytes:Nat}{zero:List PV}{u v:AV}{c:Call}{x' y':Operand}{t ut el:TypeId}(bc:o.op=.call c)(ax:c.callee=.builtin .append)
  (af:c.args.toList=[x',y']) (bx:c.argTypes.toList=[t,ut]) (ck:elT P t=some el)
  (ht:(szT P el==some esz&&byT P el==some bytes&&iU P zero el&&zero.length==esz&&decide (0<esz)&&decide (0<bytes))=true)
  (rx:JD s u (a.eval x')) (hG: ∀(i:TypeInfo) (z:Value) (new:List (List PV)),szT P el=some esz->P.info? el=some i->i.size=esz->i.bytes=bytes->i.zero=some z->zeT P el=some z->zero.length=z.cells.size->new.length*bytes<=281474976710656->new.length<=281474976710656->(eH esz v).run ⟨env,s.σ⟩=some new->
   ∃news,g7 P esz bytes t ut o.type el z (a.eval y') new.length news s.w/\(∀row∈new,row.length=esz)/\
    ∀(i j:Nat) row y,new[i]?=some row->row[j]?=some y-> ∃q,news[i*esz+j]?=some q/\J0g s.w s.g.C y q)
  (x:(hC esz bytes u v).run ⟨env,s.σ⟩=some e):bH P o a s e:=by
 simp only[JW,beq_iff_eq,decide_eq_true_eq]at ht;obtain⟨⟨⟨⟨⟨hs,b7⟩,hz⟩,cd⟩,bo⟩,ai⟩:=ht;obtain⟨i,N,b3⟩:=HR hs;obtain⟨z,an,cl,ce⟩:=qM hz;have K:=NX b7 N;have ag:=NM an N;have hm:c.args.map a.eval= #[a.eval x',a.eval y']:=by apply vV;simp[af]
 have b4:c.argTypes= #[t,ut]:=by grind
 have a7: ∀{q:Value} {w':World},(Builtin.append_ #[t,ut] o.type #[a.eval x',a.eval y']).run P s.w=.ok q w'->(execOp a.eval o).run P s.w=.ok (.value q) w':=by intro q w' hr;simp[execOp,bc,resolve,ax,hm,b4,invoke,builtin,hr]
 unfold hC at x;split at x;rename_i b j n;simp only[RM.run]at x;split at x;rename_i blk E;split at x;rename_i wm Z rows;obtain⟨h,h3,V⟩:=bind_some x;clear x;split at V;rename_i ac;obtain⟨rfl,rfl,rfl,ae⟩:=ac;simp only[RM.run]at V;injection V with V;subst V;have E:s.σ[b]?=some (.arr wm esz rows):=E;have ae:(2*(rows.length+h.length)+512)*bytes<=281474976710656:=by grind [iF]
 have bf:rows.length+h.length<=281474976710656:=by have h5:(2*(rows.length+h.length)+512)*1<=(2*(rows.length+h.length)+512)*bytes:=Nat.mul_le_mul_left _ ai;omega
 have aq:h.length*bytes<=281474976710656:=(by grind);obtain⟨news,J,F,Q⟩:=hG i z h hs N b3 K ag an (by omega) aq (by omega) h3;have a6:=J.newsLen;have L:=iI.of_slr hi rx E (by omega);simp only[wR]at L;generalize T:a.eval x'=zz at rx;have bu: ∀{O:Nat},O<rows.length+h.length->Builtin.nextslicecap (rows.length+h.length) O*i.bytes<=281474976710656:=by intro O ho;have h5:=nextslicecap_le ho;rw[K];have h6:Builtin.nextslicecap (rows.length+h.length) O*bytes<=(2*(rows.length+h.length)+512)*bytes:=zQ4 _ (by omega);omega
 have grow: ∀{base:Option Addr} {cap:Nat},zz=.slice base rows.length cap->cap<rows.length+h.length->
   bH P o a s ⟨.slr b 0 (rows.length+h.length),[(b,.arr wm esz (rows++h))]⟩:=by
  intro base cap al b6;rw[T]at L;obtain⟨ad,bn,vs,W,bg,H,aa,ah,I⟩:=L.cells;rw[al]at W;injection W with v1 v2 v3;subst v1 v3;have av:(Builtin.firstCells esz rows.length (.slice base rows.length cap)).run P s.w.drew=.ok vs.toArray s.w.drew:=by
   rcases ah with ao|⟨r,o',rfl,ch⟩;subst ao;simp at H;subst H;cases base<;>grind [run_firstCells_none,run_firstCells_some]
   exact run_firstCells_some s.w.drew esz _ _ _ cap vs H (λj q hj=>by
   have:s.w.drew.cell? (Addr.add ⟨r,o',none⟩ j)=s.w.cell? (Addr.add ⟨r,o',none⟩ j):=by simp
   grind [uV,oK])
  have A:=J.grow base rows.length cap vs av b6 (by omega) (by grind);have am:rows.length+h.length<=grownCap s.w (rows.length+h.length) cap el:=by simp[grownCap,Question.cut]
  generalize grownCap s.w (rows.length+h.length) cap el=U at A am;have b1:h≠[]:=by grind
  have cf:z.cells.size=esz:=by omega
  obtain⟨i0,t0⟩:=OV (w':=s.w.drew) hi rfl rfl rfl;have bs:((vs++news).toArray++Builtin.zeroCells z.cells (U-(rows.length+h.length))).size=U*esz:=by
   have:U*esz=(rows.length+h.length)*esz+(U-(rows.length+h.length))*esz:=by rw[<-zQ8];congr 1;omega
   grind [size_zeroCells]
  obtain⟨g',bz,i',t'⟩:=JFS (s0:=⟨s.σ,s.g,s.w.drew⟩) i0 (w':=s.w.drew.alloc (.cells ((vs++news).toArray++Builtin.zeroCells z.cells (U-(rows.length+h.length))) el)) E b1 I F rfl rfl rfl
   (by grind) (λk m row q D hq=>by
    have R:=Jq hq;rcases uO D with D|⟨bq,D⟩;have a0:=Jq D;rw[I row (fZ D)]at R;have au:=iO a0 R;have b8:=XY I D hq;obtain⟨w,hw,hrel⟩:=aa _ q b8;refine⟨w,?_,hrel.mono hi t0⟩;grind;rw[F row (fZ D)]at R;have a0:=Jq D;have au:=iO a0 R;obtain⟨w,hw,hrel⟩:=Q _ m row q D hq;have e4:k*esz+m=rows.length*esz+((k-rows.length)*esz+m):=(by grind [Nat.add_sub_cancel']);refine⟨w,?_,hrel.mono hi t0⟩;rw[RO (by simp;omega)];simp;rw[pH (by omega),<-hw];congr 1;omega)
  refine fO (e:=⟨.slr b 0 (rows.length+h.length),[(b,.arr wm esz (rows++h))]⟩) (g':=g') (a7 (by rw[T,al];exact A)) i' (t0.trans t') ?_;refine .slr b 0 _ _ wm esz (rows++h) ⟨_,_,rfl,.inr (by simp)⟩ (gQ E) (by simp) λ_=>.inr ⟨_,U,_,el,(0,0),bz,by simp,am,IE rfl,?_⟩;grind
 cases rx with
 |slr _ _ _ _ wm' Z rows' q0 Y q2 q3=>
  have Y:s.σ[b]?=some (.arr wm' Z rows'):=Y;rw[E]at Y;injection Y with Y;injection Y with a1 a2 a3;subst a1 a2 a3;rcases q3 (by omega)with⟨m',_,bb,W⟩|⟨r,cap,cc,e1,fz,m',W,bi,hh,c1⟩;have ab:rows=[]:=List.eq_nil_of_length_eq_zero bb;subst ab;by_cases aw:h=[];subst aw;simp at a6;subst a6;subst W;have A:(Builtin.append_ #[t,ut] o.type #[.slice none 0 0,a.eval y']).run P s.w=.ok (.slice none 0 0) s.w:=by exact J.nil rfl
  have M:s.σ.set b (.arr wm esz [])=s.σ:=(by apply zQ6;grind);refine fO (e:=⟨.slr b 0 0,[(b,.arr wm esz [])]⟩) (g':=s.g) (a7 (by rw[T];exact A)) ?_ ?_ ?_;rw[NA,M];exact hi;rw[NA,M];exact .refl s;rw[NA,M];exact .slr b 0 0 _ wm esz [] ⟨none,0,rfl,.inl rfl⟩ E (zQ0 _) λ_=>.inl ⟨m',rfl,rfl,rfl⟩;grind [List.length_pos_iff];subst W;by_cases G:rows.length+h.length<=cap;rcases hi.arr b _ _ _ E with⟨B,_⟩|⟨r',c',e',cg,B,S,bw,hlen,ci,ba⟩;grind;rw[m']at B;injection B with B;injection B with B _;subst B;rw[hh]at S;injection S with S;injection S with w1 w2 w3;subst w1 w2 w3;have c3:(rows.length+h.length)*esz<=cc.size:=(by have:=zQ4 esz G;grind);have bt:(rows.length+h.length)*esz=rows.length*esz+h.length*esz:=zQ8 _ _ _;have a9:=CZ (vs:=news) (o:=rows.length*esz) hh (by omega);obtain⟨i',t'⟩:=JHN hi E m' F a9 a6 Q;have A:=J.room r 0 rows.length cap G
   (λk D=>by rw[oK,iR hh];simp;omega)
   (λk D=>by
    have:=ba.1 (0+rows.length*esz+k) (by omega) (by omega);grind [World.frozen?])
  simp only[mC]at A;obtain⟨c0,e0,cj,b5,p1,p2,p3,p4,p5,p6⟩:=a9.there;rw[hh]at p1;injection p1 with p1;injection p1 with w1 w2 w3;subst w1 w2 w3;refine fO (e:=⟨.slr b 0 (rows.length+h.length),[(b,.arr wm esz (rows++h))]⟩) (a7 (by rw[T];simpa using A)) i' t' ?_;refine .slr b 0 _ _ wm esz (rows++h) ⟨_,_,rfl,.inr (by simp)⟩ (gQ E) (by simp) λ_=>.inr ⟨r,cap,b5,e1,fz,m',by simp,G,p2,by grind⟩;grind
 cases V;cases x;cases x;cases x
theorem mi(hi:Inv s){esz bytes:Nat}{zero:List PV}{u v:AV}{c:Call}{B A:Operand}{t ut el:TypeId}(x:o.op=.call c)(r:c.callee=.builtin .append)
  (h:c.args.toList=[B,A]) (n:c.argTypes.toList=[t,ut]) (z:((elT P ut).isSome||hH P ut)=true) (k:elT P t=some el)
  (D:(szT P el==some esz&&byT P el==some bytes&&iU P zero el&&zero.length==esz&&decide (0<esz)&&decide (0<bytes))=true)
  (E:JD s u (a.eval B)) (F:JD s v (a.eval A)) (y:(hC esz bytes u v).run ⟨env,s.σ⟩=some e):bH P o a s e:=
 ob hi x r h n k D E (λ_ _ _ H q C g j _ _ _ _ G=>by obtain⟨news,w,h1,h2⟩:=XG (u:=ut) hi G F (Bool.or_eq_true_iff.1 z);exact⟨news,Src.gen k H q C g j w,h1,h2⟩) y
theorem JIO(hi:Inv s)(he:bI s a.tmps env){esz bytes zero x y}(h:(opR F (.appz esz bytes zero x y) new).run ⟨env,s.σ⟩=some e)(hc:JS P (.appz esz bytes zero x y) o.op=true):bH P o a s e:=by
 simp only[opR]at h;obtain⟨u,h1,Z⟩:=bind_some h;obtain⟨v,h2,A⟩:=bind_some Z;clear h Z;unfold JS at hc;simp only at hc;split at hc
 ·rename_i c Y;split at hc
  ·rename_i S;split at hc
   ·rename_i x' y' t ut G Q;simp only[JW]at hc;obtain⟨⟨⟨hx,I⟩,K⟩,E⟩:=hc;split at E
    ·rename_i el L;split at K
     ·rename_i k hk;split at A
      ·rename_i c1 q;unfold zrs at q;split at q
       ·rename_i k' n;split at q
        case isFalse=>cases q
        rename_i hn;injection q with q;subst q;have ry:=bD he h2 I;obtain⟨m,rfl⟩: ∃m:Nat,n=(m:Int):=⟨n.toNat,by omega⟩;have hv:a.eval y'=.int k' (m:Int):=by generalize a.eval y'=v0 at ry;cases ry with|p _ _ h=>cases h<;>grind
        refine ob hi Y S G Q L (by omega) (bD he h1 hx) (λi z new hs R a1 B H hz af O N J=>?_) A;simp only[eH,if_pos,RM.run,Int.toNat_natCast]at J;injection J with J;subst J;rw[AS]at O N;simp only[JW,beq_iff_eq,decide_eq_true_eq]at E;obtain⟨⟨⟨⟨⟨_,_⟩,T⟩,a9⟩,a6⟩,_⟩:=E;obtain⟨z',r,a7,M⟩:=qM T;rw[hz]at r;injection r with r;subst r;have a4:z.cells.size=esz:=by omega
        have V: ∀(j:Nat) (u:Value),z.cells[j]?=some u-> ∃y:PV,zero[j]?=some y/\J0g s.w s.g.C y u:=(by intro j u W;have D:j<zero.length:=(by grind);exact⟨zero[j],aQ D,M j _ u (aQ D) W⟩);refine⟨(Builtin.zeroCells z.cells m).toList,?_,λrow hr=>by simp_all,λi j row y U I=>?_⟩;rw[AS,hv];refine JCh L hs R a1 B H a4 (λu W=>?_) hk O N;obtain⟨j,D⟩:=kQ W;obtain⟨y,_,hr⟩:=V j u (by simpa using D);exact hr.one;have hi':i<m:=(by grind);have hre:row=zero:=(List.mem_replicate.1 (fZ U)).2;subst hre;have D:=Jq I;have a2:j<z.cells.size:=by omega
        refine⟨z.cells[j],?_,M j y _ I (AL a2)⟩;grind [iO,Builtin.zeroCells,Nat.mul_comm,Nat.mul_add_mod,Nat.mod_eq_of_lt]
       cases q
      cases A
     cases K
    cases E
   cases hc
  cases hc
 cases hc
theorem JJi(hi:Inv s)(he:bI s a.tmps env){esz bytes zero x y}(h:(opR F (.app esz bytes zero x y) new).run ⟨env,s.σ⟩=some e)(hc:JS P (.app esz bytes zero x y) o.op=true):bH P o a s e:=by
 simp only[opR]at h;obtain⟨u,h1,w⟩:=bind_some h;obtain⟨v,h2,r⟩:=bind_some w;clear h w;unfold JS at hc;simp only at hc;split at hc;rename_i c q;split at hc;rename_i k;split at hc;rename_i E D t ut g j;simp only[JW]at hc;obtain⟨⟨⟨C,B⟩,z⟩,n⟩:=hc;split at n;rename_i el A;exact mi hi q k g j z A (by omega) (bD he h1 C) (bD he h2 B) r;cases n;cases hc;cases hc;cases hc
theorem JIr(hi:Inv s)(he:bI s a.tmps env)(hn:s.σ[new]?=some .dead){esz bytes zero y}(h:(opR F (.appn esz bytes zero y) new).run ⟨env,s.σ⟩=some e)(hc:JS P (.appn esz bytes zero y) o.op=true):bH P o a s e:=by
 simp only[opR]at h;obtain⟨v,h2,H⟩:=bind_some h;obtain⟨rows,j,k⟩:=bind_some H;clear h H;unfold JS at hc;simp only at hc;split at hc
 ·rename_i c G;split at hc
  ·rename_i D;split at hc
   ·rename_i V t ut x B;simp only[JW]at hc;obtain⟨⟨S,I⟩,E⟩:=hc;split at E
    ·rename_i el J;split at k
     ·rename_i L;simp only[RM.run]at k;injection k with k;subst k
      obtain⟨i1,K⟩:=NT hi hn esz;have A:(s.σ.set new (.arr true esz []))[new]?=some (.arr true esz []):=gQ hn;have O:JD ⟨s.σ.set new (.arr true esz []),eU s.g new none,s.w⟩ (.slr new 0 0) (a.eval (.const (.slice none 0 0))):=
       .slr new 0 0 _ true esz [] ⟨none,0,rfl,.inl rfl⟩ A (zQ0 _) λ_=>.inl ⟨if_pos rfl,rfl,rfl,rfl⟩
      have R:=(bD he h2 S).mono hi K;have U:(eH esz v).run ⟨env,s.σ.set new (.arr true esz [])⟩=some rows:=by
       cases v with
       |slr b i n=>
        grind [eH,RM.run]
       |p c=>cases c<;>simp only[eH]at j⊢ <;>first|exact j|(split at j<;>rename_i T<;>first|(rw[if_pos T];exact j)|cases j)|cases j
       |_=>cases j
      have C:(hC esz bytes (.slr new 0 0) v).run ⟨env,s.σ.set new (.arr true esz [])⟩=some ⟨.slr new 0 rows.length,[(new,.arr true esz rows)]⟩:=(by grind [hC,RM.run,run_bind]);have ok:=mi (s:=⟨s.σ.set new (.arr true esz []),eU s.g new none,s.w⟩) i1 G D x B I J (by omega) O R C;intro next Q z;refine ok next Q λM w' g' hi' r q=>?_;have N:upd [(new,Blk.arr true esz rows)] (s.σ.set new (.arr true esz []))=upd [(new,Blk.arr true esz rows)] s.σ:=by simp[NA]
      simp only at hi' r q;rw[N]at hi' r q;exact z M w' g' hi' (K.trans r) q
     cases k
    cases E
   cases hc
  cases hc
 cases hc
theorem JHG(hi:Inv s)(he:bI s a.tmps env)(hn:s.σ[new]?=some .dead){esz bytes zero x y}(h:(opR F (.appc esz bytes zero x y) new).run ⟨env,s.σ⟩=some e)(hc:JS P (.appc esz bytes zero x y) o.op=true):bH P o a s e:=by
 simp only[opR]at h;obtain⟨u,h1,h'⟩:=bind_some h;obtain⟨v,h2,C⟩:=bind_some h';clear h h';unfold JS at hc;simp only at hc;split at hc;rename_i c bh;split at hc;rename_i az;split at hc;rename_i x' y' t ut S ay;simp only[JW]at hc;obtain⟨⟨⟨hx,hy⟩,aa⟩,N⟩:=hc;split at N;rename_i el ag;simp only[JW,beq_iff_eq,decide_eq_true_eq]at N;obtain⟨⟨⟨⟨⟨hs,ab⟩,hz⟩,ba⟩,aq⟩,Y⟩:=N;obtain⟨i,E,a9⟩:=HR hs;obtain⟨z,aj,bf,bc⟩:=qM hz;have D:=NX ab E;have U:=NM aj E;have hm:c.args.map a.eval= #[a.eval x',a.eval y']:=by apply vV;simp[S]
 have bb:c.argTypes= #[t,ut]:=by grind
 have ak: ∀{q:Value} {w':World},(Builtin.append_ #[t,ut] o.type #[a.eval x',a.eval y']).run P s.w=.ok q w'->(execOp a.eval o).run P s.w=.ok (.value q) w':=by simp_all [execOp,resolve,invoke,builtin]
 have T:=bD he h1 hx;have ry:=bD he h2 hy;unfold EX at C;split at C;rename_i ao rows;obtain⟨add,h3,J⟩:=bind_some C;clear C;split at J;rename_i Q;obtain⟨rfl,b9,R⟩:=Q;simp only[RM.run]at J;injection J with J;subst J;have R:(2*(rows.length+add.length)+512)*bytes<=281474976710656:=by grind [iF]
 have am:rows.length+add.length<=281474976710656:=by have h5:(2*(rows.length+add.length)+512)*1<=(2*(rows.length+add.length)+512)*bytes:=Nat.mul_le_mul_left _ Y;omega
 obtain⟨news,V,G,O⟩:=XG (u:=ut) hi h3 ry (Bool.or_eq_true_iff.1 aa);have L:=Src.gen (t:=t) (ty:=o.type) ag hs E a9 D U V;have bi:=L.newsLen;generalize bg:a.eval x'=zz at T;cases T with
 |p _ _ T=>
  cases T with
  |slc _ _ base hrel=>
   have a0:=iI.of_sl hrel;obtain⟨ad,ap,vs,hv,an,n,M,W,A⟩:=a0.cells;injection hv with v1 v2 v3;subst v1 v3;have Z:rows.length<rows.length+add.length:=by omega
   have aw:Builtin.nextslicecap (rows.length+add.length) rows.length*i.bytes<=281474976710656:=by have h5:=nextslicecap_le Z;rw[D];have h6:Builtin.nextslicecap (rows.length+add.length) rows.length*bytes<=(2*(rows.length+add.length)+512)*bytes:=zQ4 _ (by omega);omega
   have a5:(Builtin.firstCells esz rows.length (.slice base rows.length rows.length)).run P s.w.drew=.ok vs.toArray s.w.drew:=by
    rcases W with a1|⟨r,o',rfl,be⟩;subst a1;simp at n;subst n;cases base<;>grind [run_firstCells_none,run_firstCells_some]
    exact run_firstCells_some s.w.drew esz _ _ _ rows.length vs n (λj q hj=>by
    have:s.w.drew.cell? (Addr.add ⟨r,o',none⟩ j)=s.w.cell? (Addr.add ⟨r,o',none⟩ j):=by simp
    grind [uV,oK])
   have a3:=L.grow base rows.length rows.length vs a5 Z (by omega) (by simp_all);have ai:rows.length+add.length<=grownCap s.w (rows.length+add.length) rows.length el:=by simp[grownCap,Question.cut]
   generalize grownCap s.w (rows.length+add.length) rows.length el=I at a3 ai;have bd:z.cells.size=esz:=by omega
   obtain⟨i0,t0⟩:=OV (w':=s.w.drew) hi rfl rfl rfl;have a2:((vs++news).toArray++Builtin.zeroCells z.cells (I-(rows.length+add.length))).size=I*esz:=by
    have:I*esz=(rows.length+add.length)*esz+(I-(rows.length+add.length))*esz:=by rw[<-zQ8];congr 1;omega
    grind [size_zeroCells]
   have hlen:(rows++add).length=rows.length+add.length:=nG;obtain⟨g',i',t',r'⟩:=OH (s0:=⟨s.σ,s.g,s.w.drew⟩) (new:=new) i0 hn (esz:=esz) (rows:=rows++add) (cap:=I) (w':=s.w.drew.alloc (.cells ((vs++news).toArray++Builtin.zeroCells z.cells (I-(rows.length+add.length))) el)) rfl rfl rfl
    (tY.zero _ _)
    ⟨λrow hr=>(zQ9.1 hr).elim (A row) (G row),by rw[a2,hlen];grind,λk m row q B hq=>by
     have H:=Jq hq;rcases uO B with B|⟨av,B⟩;have K:=Jq B;rw[A row (fZ B)]at H;have a4:=iO K H;have ac:=XY A B hq;obtain⟨w,hw,hrel⟩:=M _ q ac;refine⟨w,?_,hrel.mono hi t0⟩;grind;rw[G row (fZ B)]at H;have K:=Jq B;have a4:=iO K H;obtain⟨w,hw,hrel⟩:=O _ m row q B hq;have e4:k*esz+m=rows.length*esz+((k-rows.length)*esz+m):=(by grind [Nat.add_sub_cancel']);refine⟨w,?_,hrel.mono hi t0⟩;simp_all [RO]⟩ (by simp_all) (by simp_all)
   rw[hlen]at r';exact fO (e:=⟨.slr new 0 (rows.length+add.length),[(new,.arr true esz (rows++add))]⟩) (g':=g') (ak (by simp_all)) i' (t0.trans t') r'
 cases J;cases C;cases N;cases hc;cases hc;cases hc
end
end Go.Am
end
section
namespace Go.Am
section
variable {P:Program} {F:Orc} {s:Sn} {a:Act} {env:List (Nat×AV)} {o:Oper} {new:Nat} {e:Eff}
theorem mp{x:Opd}{v:AV}(h:(ev x).run ⟨env,s.σ⟩=some v):(evo (some x)).run ⟨env,s.σ⟩=some (some v):=by simp[evo,run_bind,h,RM.run]
theorem JIl(hi:Inv s)(he:bI s a.tmps env){esz x hh}(h:(opR F (.ppre esz x hh) new).run ⟨env,s.σ⟩=some e)(hc:JS P (.ppre esz x hh) o.op=true):bH P o a s e:=by
 simp only[opR]at h;obtain⟨u,h1,K⟩:=bind_some h;obtain⟨l,h2,C⟩:=bind_some K;clear h K;have h:=C;clear C;unfold JS at hc;simp only at hc;split at hc
 case h_2=>cases hc
 rename_i t V hi' B;simp only[JW]at hc;obtain⟨⟨W,Y⟩,j⟩:=hc;have O:=bD he h1 W;unfold rD at h;split at h
 case h_2=>cases h
 rename_i b i n U k;simp only[RM.run]at h;split at h
 case h_2=>cases h
 rename_i blk y;split at h
 case h_2=>cases h
 rename_i q G rows;have y:s.σ[b]?=some (.arr q G rows):=y;split at h
 case isFalse=>cases h
 rename_i hk;obtain⟨rfl,hn,L,a6⟩:=hk;simp only[RM.run]at h;injection h with h;subst h;split at j
 case h_2=>cases j
 rename_i el D;simp only[beq_iff_eq]at j;have H:mF n none (some (.p (.i U k)))=some (0,k.toNat):=by unfold mF lG;simp only;rw[if_pos ⟨L,by omega⟩]
 have E: ∀cap,n<=cap->(Instr.sliceBounds true n cap none (some (a.eval hi')) none).run P s.w=.ok (0,k.toNat,cap) s.w:=λcap g=>
  (IJ (P:=P) (isSlice:=true) he (lo:=none) (lo':=none) (hi:=some hh) (hi':=some hi') rfl (mp h2) rfl Y H g s.w).1
 generalize S:a.eval V=z at O;cases O with
 |slr _ _ _ _ wm Z rows' q0 A q2 q3=>
  rw[y]at A;injection A with A;injection A with a1 a2 a3;subst a1 a2 a3;rcases q3 (by omega)with⟨m,_,R,J⟩|⟨r,cap,T,e1,fz,m,J,g,Q,N⟩;subst R J;have M:k.toNat=0:=by omega
  have I:=E 0 (zQ0 _);refine JE hi (v:=.slice none 0 0) ?_ (.pre b 0 k.toNat _ q G rows ⟨none,0,by rw[M]⟩ y (by omega) (by omega) λ_=>.inl ⟨rfl,rfl⟩);simp only[execOp,B,S];simp[Instr.sliceAt,Instr.slice,run_underlying (eY D),I,gL j,M];subst J;have I:=E cap g;refine JE hi (v:=.slice (some ⟨r,0,none⟩) k.toNat cap) ?_ (.pre b n k.toNat _ q G rows ⟨_,_,rfl⟩ y (by omega) (by omega) λ_=>.inr ⟨r,cap,T,e1,fz,m,rfl,g,Q,by simpa using N⟩);simp only[execOp,B,S];simp[Instr.sliceAt,Instr.slice,run_underlying (eY D),I,gL j,Addr.add]
theorem JIf(hi:Inv s)(he:bI s a.tmps env){esz x hh}(h:(opR F (.psuf esz x hh) new).run ⟨env,s.σ⟩=some e)(hc:JS P (.psuf esz x hh) o.op=true):bH P o a s e:=by
 simp only[opR]at h;obtain⟨u,h1,E⟩:=bind_some h;obtain⟨l,h2,A⟩:=bind_some E;clear h E;have h:=A;clear A;unfold JS at hc;simp only at hc;split at hc
 case h_2=>cases hc
 rename_i t Q hi' D;simp only[JW]at hc;obtain⟨⟨R,S⟩,j⟩:=hc;have I:=bD he h1 R;unfold rJ at h;split at h
 case h_2=>cases h
 rename_i b i n O k;simp only[RM.run]at h;split at h
 case h_2=>cases h
 rename_i blk q;split at h
 case h_2=>cases h
 rename_i B V rows;have q:s.σ[b]?=some (.arr B V rows):=q;split at h
 case isFalse=>cases h
 rename_i W;obtain⟨rfl,hn,H,a5⟩:=W;simp only[RM.run]at h;injection h with h;subst h;split at j
 case h_2=>cases j
 rename_i el G;simp only[beq_iff_eq]at j;have C:mF n (some (.p (.i O k))) none=some (k.toNat,n):=by unfold mF lG;simp only;rw[if_pos ⟨H,by omega⟩]
 have K: ∀cap,n<=cap->(Instr.sliceBounds true n cap (some (a.eval hi')) none none).run P s.w=.ok (k.toNat,n,cap) s.w:=λcap g=>
  (IJ (P:=P) (isSlice:=true) he (hi:=none) (hi':=none) (lo:=some hh) (lo':=some hi') (mp h2) rfl S rfl C g s.w).1
 generalize Z:a.eval Q=z at I;cases I with
 |slr _ _ _ _ wm T rows' q0 y q2 Y=>
  rw[q]at y;injection y with y;injection y with a1 a2 a3;subst a1 a2 a3;rcases Y (by omega)with⟨m,a6,a8,M⟩|⟨r,cap,N,e1,fz,m,M,g,J,a7⟩;omega;subst M;have hr:=K cap g;have U:(i+k.toNat+(cap-k.toNat))*esz=(i+cap)*esz:=by congr 1;omega
  refine JE hi (v:=.slice (some ⟨r,(i+k.toNat)*esz,none⟩) (n-k.toNat) (cap-k.toNat)) ?_ ?_;simp only[execOp,D,Z];have L: ¬cap=k.toNat:=by omega
  simp[Instr.sliceAt,Instr.slice,run_underlying (eY G),hr,gL j,Addr.add,L,zQ8];exact .slr b _ _ _ B esz rows ⟨_,_,rfl,.inr (by simp)⟩ q (by omega) λ_=>.inr ⟨r,cap-k.toNat,N,e1,fz,m,rfl,by omega,J,by omega⟩
theorem pu{σ:List Blk}{g:Gh}{w:World}{b n m esz cap:Nat}{ad:Option Addr}{rows:List (List PV)}(hi:Inv ⟨σ,g,w⟩)(hb:σ[b]?=some (.arr true esz rows))(hr:JD ⟨σ,g,w⟩ (.slr b 0 n) (.slice ad n cap))(hn:n=rows.length)(hm:m<=n):
  ∃g',Inv ⟨σ.set b (.arr false esz rows),g',w⟩/\aW ⟨σ,g,w⟩ ⟨σ.set b (.arr false esz rows),g',w⟩/\JD ⟨σ.set b (.arr false esz rows),g',w⟩ (.p (.sl esz (rows.take m))) (.slice ad m cap):=by
 subst hn;obtain⟨g',h1,h2,v,e⟩:=pf hi hr hb (by omega);refine⟨g',h1,h2,.p _ _ ?_⟩;rw[wR]at e;obtain⟨r,k,q,o,hrel⟩:=XA (s:=⟨σ.set b (.arr false esz rows),g',w⟩) (i:=0) (j:=m) e (zQ2 _) hm;injection q with v1 _ v3;subst v1 v3;have h:(if cap=0 then ad else ad.map (·.add (0*esz)))=ad:=by
  split;rfl;cases ad with
  |none=>rfl
  |some ad=>cases ad;simp[Addr.add]
 rw[h]at hrel;simpa using hrel
theorem JHP(hi:Inv s)(he:bI s a.tmps env){esz bytes zero x y}(h:(opR F (.appp esz bytes zero x y) new).run ⟨env,s.σ⟩=some e)(hc:JS P (.appp esz bytes zero x y) o.op=true):bH P o a s e:=by
 simp only[opR]at h;obtain⟨u,h1,h'⟩:=bind_some h;obtain⟨v,h2,D⟩:=bind_some h';clear h h';unfold JS at hc;simp only at hc;split at hc
 case h_2=>cases hc
 rename_i c bp;split at hc
 case h_2=>cases hc
 rename_i b7;split at hc
 case h_2=>cases hc
 rename_i x' y' t ut aj ca;simp only[JW]at hc;obtain⟨⟨⟨hx,hy⟩,bd⟩,ht⟩:=hc;split at ht
 case h_2=>cases ht
 rename_i el bj;have rx:=bD he h1 hx;have ry:=bD he h2 hy;simp only[JW,beq_iff_eq,decide_eq_true_eq]at ht;obtain⟨⟨⟨⟨⟨hs,be⟩,hz⟩,cm⟩,c3⟩,am⟩:=ht;obtain⟨i,T,b9⟩:=HR hs;obtain⟨z,bq,ct,cn⟩:=qM hz;have a8:=NX be T;have ak:=NM bq T;have hm:c.args.map a.eval= #[a.eval x',a.eval y']:=by apply vV;simp[aj]
 have ba:c.argTypes= #[t,ut]:=by grind
 have ay: ∀{q:Value} {w':World},(Builtin.append_ #[t,ut] o.type #[a.eval x',a.eval y']).run P s.w=.ok q w'->(execOp a.eval o).run P s.w=.ok (.value q) w':=by intro q w' G;simp[execOp,bp,resolve,b7,hm,ba,invoke,builtin,G]
 unfold rK at D;split at D
 case h_2=>cases D
 rename_i b n k;simp only[RM.run]at D;split at D
 case h_2=>cases D
 rename_i blk Q;split at D
 case h_2=>cases D
 rename_i a7 rows;obtain⟨A,h3,h4⟩:=bind_some D;clear D;split at h4
 case isFalse=>cases h4
 rename_i ah;obtain⟨rfl,cr,rfl,ai⟩:=ah;simp only[RM.run]at h4;injection h4 with h4;subst h4;have Q:s.σ[b]?=some (.arr true esz rows):=Q;have ai:(2*(rows.length+A.length)+512)*bytes<=281474976710656:=by grind [iF]
 have bw:rows.length+A.length<=281474976710656:=by have h5:(2*(rows.length+A.length)+512)*1<=(2*(rows.length+A.length)+512)*bytes:=Nat.mul_le_mul_left _ am;omega
 obtain⟨news,al,af,Y⟩:=XG (u:=ut) hi h3 ry (Bool.or_eq_true_iff.1 bd);have V:=Src.gen (ty:=o.type) bj hs T b9 a8 ak al;have bs:=V.newsLen;generalize ax:a.eval x'=zz at rx;cases rx with
 |pre _ _ _ _ wm' a7 rows' q0 q1 q2 q4 q3=>
  have q1:s.σ[b]?=some (.arr wm' a7 rows'):=q1;rw[Q]at q1;injection q1 with q1;injection q1 with a1 a2 a3;subst a1 a2 a3;rcases q3 rfl with⟨h0,_⟩|⟨r,cap,cc,e1,fz,m',hv,c2,hh,U⟩;omega;subst hv;rcases hi.arr b _ _ _ Q with⟨H,_⟩|⟨r',c',e',cq,H,Z,N,hlen,bf,bh⟩;rw[m']at H;cases H;rw[m']at H;injection H with H;injection H with H _;subst H;rw[hh]at Z;injection Z with Z;injection Z with w1 w2 w3;subst w1 w2 w3;have ek:(rows.take k).length=k:=by rw[rI];omega
  have a0: ∀row∈rows.take k++A,row.length=esz:=λrow G=>(zQ9.1 G).elim (λh=>N row (EO h)) (af row);have C:(rows.take k++A).length=k+A.length:=by rw[nG,ek]
  by_cases W:k+A.length<=cap;have b4:(k+A.length)*esz<=cc.size:=zQ1 (zQ4 esz W) U;have c6:(k+A.length)*esz=k*esz+A.length*esz:=zQ8 _ _ _;have ac:=CZ (vs:=news) (o:=k*esz) hh (by omega);have J:=V.room r 0 k cap W
   (λj hj=>by rw[oK,iR hh];simp;omega)
   (λj hj=>by
    have:=bh.1 (0+k*esz+j) (by omega) (by omega);grind [World.frozen?])
  simp only[mC]at J;have hN:(rows.take k++A++rows.drop (k+A.length)).length=max rows.length (k+A.length):=by rw[nG,C,pL];omega
  obtain⟨i1,t1⟩:=JHE (rows':=rows.take k++A++rows.drop (k+A.length)) hi Q m'
   (λrow G=>(zQ9.1 G).elim (a0 row) (λh=>N row (zQ7 h))) (by rw[hN];omega) ac
   (λc0 c1 k1 k2 O k4 k5=>by
    obtain⟨e3,co,O⟩:=O;rw[hh]at O;injection O with O;injection O with O _ _;subst O;refine⟨?_,λp q row x B R=>?_⟩;rw[hN];rcases Nat.le_total rows.length (k+A.length)with hl|hl;rw[Nat.max_eq_right hl];exact b4;rw[Nat.max_eq_left hl];exact hlen;rcases uO B with B|⟨E,B⟩;rcases uO B with B|⟨E,B⟩;have hpk:=Jq B;rw[ek]at hpk;rw[EG,if_pos hpk]at B;obtain⟨u,L,G⟩:=k1 p q row x B R;have:=(iO hpk (by have:=Jq R;rw[N row (fZ B)]at this;exact this):p*esz+q<k*esz);exact⟨u,by rw[k5 _ (.inl this)];exact L,G⟩;rw[ek]at E B;obtain⟨u,L,G⟩:=Y _ q row x B R;have e4:p*esz+q=k*esz+((p-k)*esz+q):=by
     have:p*esz=k*esz+(p-k)*esz:=by rw[<-zQ8];congr 1;omega
     omega
    exact⟨u,by rw[e4];exact k4 _ _ L,G⟩;rw[C]at E B;rw[SA]at B;have e5:k+A.length+(p-(k+A.length))=p:=by omega
    rw[e5]at B;obtain⟨u,L,G⟩:=k1 p q row x B R;have:(k+A.length)*esz<=p*esz:=zQ4 _ E;exact⟨u,by rw[k5 _ (.inr (by omega))];exact L,G⟩)
  obtain⟨c0,e0,cs,bc,p1,p2,p3,p4,p5,p6⟩:=ac.there;rw[hh]at p1;injection p1 with p1;injection p1 with w1 w2 w3;subst w1 w2 w3;have I:(s.σ.set b (.arr true esz (rows.take k++A++rows.drop (k+A.length))))[b]?=some (.arr true esz (rows.take k++A++rows.drop (k+A.length))):=gQ Q;obtain⟨g',i2,t2,K⟩:=pu (m:=k+A.length) (ad:=some ⟨r,0,none⟩) (cap:=cap) i1 I
   (.slr b 0 _ _ true esz _ ⟨_,_,rfl,.inr (by simp)⟩ I (by omega) λ_=>.inr ⟨r,cap,bc,e1,fz,m',by simp,by rw[hN];omega,p2,by rw[p3];simpa using U⟩) rfl (by rw[hN];omega)
  have e6:(s.σ.set b (.arr true esz (rows.take k++A++rows.drop (k+A.length)))).set b (.arr false esz (rows.take k++A++rows.drop (k+A.length)))=s.σ.set b (.arr false esz (rows.take k++A++rows.drop (k+A.length))):=by rw[List.set_set]
  rw[e6]at i2 t2 K;have e7:(rows.take k++A++rows.drop (k+A.length)).take (k+A.length)=rows.take k++A:=by rw[<-C,List.take_left]
  rw[e7]at K;exact fO (e:=⟨.p (.sl esz (rows.take k++A)),[(b,.arr false esz (rows.take k++A++rows.drop (k+A.length)))]⟩) (ay (by rw[ax];exact J)) i2 (t1.trans t2) K;have aw:cap<k+A.length:=by omega
  obtain⟨i0,t0⟩:=OV (w':=s.w.drew) hi rfl rfl rfl;have cu:k*esz<=cc.size:=zQ1 (zQ4 esz (by omega)) U;have M:(cc.toList.take (k*esz)).length=k*esz:=by rw[rI,Array.length_toList];omega
  have b5:(Builtin.firstCells esz k (.slice (some ⟨r,0,none⟩) k cap)).run P s.w.drew=.ok (cc.toList.take (k*esz)).toArray s.w.drew:=
   run_firstCells_some s.w.drew esz _ _ _ cap _ M (λj q hj=>by
    have e:s.w.drew.cell? (Addr.add ⟨r,0,none⟩ j)=s.w.cell? (Addr.add ⟨r,0,none⟩ j):=by simp
    have av:=Jq hj;rw[M]at av;rw[EG,if_pos av,EN]at hj;rw[e];grind [uV,oK,iR])
  have b1:Builtin.nextslicecap (k+A.length) cap*bytes<=281474976710656:=by have h5:=nextslicecap_le aw;have h6:Builtin.nextslicecap (k+A.length) cap*bytes<=(2*(rows.length+A.length)+512)*bytes:=zQ4 _ (by omega);omega
  have J:=V.grow (some ⟨r,0,none⟩) k cap _ b5 aw (by omega) b1;have E:k+A.length<=grownCap s.w (k+A.length) cap el:=by simp[grownCap,Question.cut]
  generalize grownCap s.w (k+A.length) cap el=S at J E;have bb:z.cells.size=esz:=by omega
  have a9:((cc.toList.take (k*esz)++news).toArray++Builtin.zeroCells z.cells (S-(k+A.length))).size=S*esz:=by
   have:S*esz=k*esz+A.length*esz+(S-(k+A.length))*esz:=by rw[<-zQ8,<-zQ8];congr 1;omega
   rw[Array.size_append,size_zeroCells,bb];simp only[List.size_toArray,nG,M,bs];omega
  have bt:rows.drop (k+A.length)=[]:=List.drop_of_length_le (by omega);rw[bt,lZ];obtain⟨g',cb,i1,t1⟩:=Bw (s0:=⟨s.σ,s.g,s.w.drew⟩) (rows':=rows.take k++A) i0 (w':=s.w.drew.alloc (.cells ((cc.toList.take (k*esz)++news).toArray++Builtin.zeroCells z.cells (S-(k+A.length))) el)) Q (by rw[C];omega) a0 rfl rfl rfl
   (by rw[C,a9];exact zQ4 _ E) (λp q row x B R=>by
    rcases uO B with B|⟨E,B⟩;have hpk:=Jq B;rw[ek]at hpk;rw[EG,if_pos hpk]at B;obtain⟨⟨u,L,G⟩,_⟩:=bf p q row x B R;have hi':=(iO hpk (by have:=Jq R;rw[N row (fZ B)]at this;exact this):p*esz+q<k*esz);refine⟨u,?_,G.mono hi t0⟩;rw[RO (by simp only[List.size_toArray,nG,M];omega)];simp only[List.getElem?_toArray];rw[AR (by omega),EG,if_pos hi',EN];exact L;rw[ek]at E B;obtain⟨u,L,G⟩:=Y _ q row x B R;have hl:=Jq L;have e4:p*esz+q=k*esz+((p-k)*esz+q):=by
     have:p*esz=k*esz+(p-k)*esz:=by rw[<-zQ8];congr 1;omega
     omega
    refine⟨u,?_,G.mono hi t0⟩;rw[RO (by simp only[List.size_toArray,nG,M];omega)];simp only[List.getElem?_toArray];rw[pH (by omega),M,e4,Nat.add_sub_cancel_left];exact L)
  have I:(s.σ.set b (.arr true esz (rows.take k++A)))[b]?=some (.arr true esz (rows.take k++A)):=gQ Q;obtain⟨g2,i2,t2,K⟩:=pu (m:=k+A.length) (ad:=some ⟨s.w.heap.size,0,none⟩) (cap:=S) i1 I
   (.slr b 0 _ _ true esz _ ⟨_,_,rfl,.inr (by simp)⟩ I (by omega) λ_=>.inr ⟨_,S,_,el,(0,0),cb,by simp,by rw[C];exact E,IE rfl,by rw[a9];simp⟩) rfl (by rw[C];exact zQ0 _)
  have e6:(s.σ.set b (.arr true esz (rows.take k++A))).set b (.arr false esz (rows.take k++A))=s.σ.set b (.arr false esz (rows.take k++A)):=by rw[List.set_set]
  rw[e6]at i2 t2 K;have e7:(rows.take k++A).take (k+A.length)=rows.take k++A:=by rw[<-C,List.take_length]
  rw[e7]at K;exact fO (e:=⟨.p (.sl esz (rows.take k++A)),[(b,.arr false esz (rows.take k++A))]⟩) (ay (by rw[ax];exact J)) i2 (t0.trans (t1.trans t2)) K
end
end Go.Am
end
section
namespace Go.Am
theorem ZN: ∀{e j:List KD} {xs g:List PV} {r:Bool},cA (e++j) xs g=some r->
  ∃o n,cA e (xs.take e.length) (g.take e.length)=some o/\cA j (xs.drop e.length) (g.drop e.length)=some n/\r=(o&&n)
 |[],j,xs,g,r,h=>⟨true,r,by simp[cA],by simpa using h,by simp⟩
 |k::e,j,xs,g,r,h=>by
  cases xs with
  |nil=>grind [cA]
  |cons x xs=>
   cases g with
   |nil=>grind [cA]
   |cons y g=>
    simp only[AU,cA]at h;split at h;rename_i a c v q;injection h with h;subst h;obtain⟨o,n,h1,h2,w⟩:=ZN q;grind [cA];cases h
theorem OC: ∀{ks:List KD} {xs e:List PV} {r:Bool},cA ks xs e=some r->xs.length=ks.length/\e.length=ks.length
 |[],xs,e,r,h=>by grind [cA]
 |k::ks,xs,e,r,h=>by
  cases xs with
  |nil=>grind [cA]
  |cons x xs=>
   cases e with
   |nil=>grind [cA]
   |cons y e=>
    simp only[cA]at h;split at h;rename_i a c j g;obtain⟨h1,h2⟩:=OC g;simp[h1,h2];cases h
section
variable {P:Program} {F:Orc} {s:Sn} {a:Act} {env:List (Nat×AV)} {o:Oper} {new:Nat} {e:Eff}
def gn(P:Program)(t:TypeId)(vs:List Value)(X:Value):Prop:=(agT P t=some true/\X=.agg vs.toArray)\/(agT P t=some false/\ ∃v,vs=[v]/\X=v)
theorem OO{t:TypeId}{n off:Nat}{cs:Array Value}(hs:szT P t=some n)(j:off+n<=cs.size)(g:(agT P t=some true)\/(agT P t=some false/\n=1))(w:World):
  ∃X,(part t cs off).run P w=.ok X w/\gn P t ((cs.toList.drop off).take n) X:=by
 rcases g with h|⟨h,rfl⟩;refine⟨.agg (cs.extract off (off+n)),by simp_all [part,CH,gL],.inl ⟨h,?_⟩⟩
 congr 1
 grind;have e:off<cs.size:=by omega
 have k:cs[off]?=some cs[off]:=by simp[e]
 refine⟨cs[off],by simp_all [part,CH],.inr ⟨h,cs[off],?_,rfl⟩⟩;grind [List.drop_eq_getElem_cons]
def mD(s:Sn)(xs:List PV)(vs:List Value):Prop:=xs.length=vs.length/\ ∀(i:Nat) x v,xs[i]?=some x->vs[i]?=some v->J0g s.w s.g.C x v
theorem mD.take{xs vs}(h:mD s xs vs)(n:Nat):mD s (xs.take n) (vs.take n):=
 ⟨by simp[h.1],λi x v e g=>by
  rw[EG]at e g;split at e;rename_i hi;rw[if_pos hi]at g;exact h.2 i x v e g;cases e⟩
theorem mD.drop{xs vs}(h:mD s xs vs)(n:Nat):mD s (xs.drop n) (vs.drop n):=
 ⟨by simp[h.1],λi x v g e=>by
  rw[SA]at g e;exact h.2 _ x v g e⟩
def EqK(P:Program)(s:Sn)(d:Nat)(t:TypeId)(ks:List KD):Prop:= ∀(e:Nat) (w:World) (xs h:List PV) (vs g:List Value) (r:Bool) (X Y:Value),cA ks xs h=some r->mD s xs vs->mD s h g->gn P t vs X->gn P t g Y->(Op.equalIn (d+e) t X Y).run P w=.ok r w
theorem qu{d:Nat}{t:TypeId}{ks:List KD}(h:nY P d t=some ks):agT P t=some true\/(agT P t=some false/\ks.length=1):=by cases d<;>grind [nY,agT,wP]
theorem o6(d e:Nat)(C: ∀t ks,nY P d t=some ks->EqK P s d t ks)(w:World){xs q:List PV}{vs o:List Value}(hx:mD s xs vs)(hy:mD s q o):
  ∀{fs:List Field} {off:Nat} {ks:List KD} {r:Bool},HU P (nY P d) off fs=some ks->cA ks (xs.drop off) (q.drop off)=some r->
   (Op.eqFields (d+e) vs.toArray o.toArray fs).run P w=.ok r w
 |[],off,ks,r,h,x=>by simp[HU]at h;subst h;cases hxd:xs.drop off<;>cases hyd:q.drop off<;>simp[hxd,hyd,cA]at x;simp_all [Op.eqFields]
 |f::fs,off,ks,r,h,x=>by
  unfold HU at h;split at h;cases h
  ·rename_i L;have j:f.name≠ "_" :=λe=>L (.inl e);have v:f.offset=off:=by simp_all
   split at h;cases h
   ·rename_i D k;split at h
    ·rename_i g;obtain⟨g,E⟩:=g;split at h
     ·rename_i O y;injection h with h;subst h;obtain⟨z,N,A,B,rfl⟩:=ZN x;obtain⟨H,I⟩:=OC A;rw[rI,pL]at H I;rw[wW,wW]at B;have n:=qu k;obtain⟨X,F,J⟩:=OO (P:=P) (cs:=vs.toArray) (off:=off) g (by have:=hx.1;simp;omega) n w;obtain⟨Y,K,G⟩:=OO (P:=P) (cs:=o.toArray) (off:=off) g (by have:=hy.1;simp;omega) n w;have M:=C f.type D k e w _ _ _ _ z X Y A ((hx.drop off).take _) ((hy.drop off).take _) (by simpa using J) (by simpa using G);have ih:=o6 d e C w hx hy y B;simp only[Op.eqFields];rw[if_pos j];simp only[wD,v,F,K,M,rH,Sem.run_ite];cases z
      all_goals simp_all
     cases h
    cases h
theorem ny(d e:Nat){t:TypeId}{ks:List KD}(v:EqK P s d t ks)(hk:nY P d t=some ks)(g:szT P t=some ks.length)(j:0<ks.length)(w:World){xs n:List PV}{vs k:List Value}(hx:mD s xs vs)(hy:mD s n k):
  ∀{m i:Nat} {r:Bool},cA (List.replicate m ks).flatten (xs.drop (i*ks.length)) (n.drop (i*ks.length))=some r->
   (Op.eqItems (d+e) t ks.length vs.toArray k.toArray (List.range' i m)).run P w=.ok r w
 |0,i,r,hc=>by simp only[List.replicate_zero,List.flatten_nil]at hc;cases hxd:xs.drop (i*ks.length)<;>cases hyd:n.drop (i*ks.length)<;>simp[hxd,hyd,cA]at hc;simp_all [Op.eqItems]
 |m+1,i,r,hc=>by
  rw[List.replicate_succ,pO]at hc;obtain⟨o,A,q,y,rfl⟩:=ZN hc;obtain⟨B,C⟩:=OC q;rw[rI,pL]at B C;rw[wW,wW]at y;have h:=qu hk;obtain⟨X,x,D⟩:=OO (P:=P) (cs:=vs.toArray) (off:=i*ks.length) g (by have:=hx.1;simp;omega) h w;obtain⟨Y,E,z⟩:=OO (P:=P) (cs:=k.toArray) (off:=i*ks.length) g (by have:=hy.1;simp;omega) h w;have F:=v e w _ _ _ _ o X Y q ((hx.drop _).take _) ((hy.drop _).take _) (by simpa using D) (by simpa using z);have ih:=ny d e v hk g j w hx hy (m:=m) (i:=i+1) (r:=A) (by
   grind)
  rw[List.range'_succ];simp only[Op.eqItems,wD,x,E,F,rH,Sem.run_ite];cases o
  all_goals simp_all
theorem eqK: ∀(d:Nat) (t:TypeId) (ks:List KD),nY P d t=some ks->EqK P s d t ks
 |0,t,ks,h=>by grind [nY]
 |d+1,t,ks,h=>by
  intro e w xs S vs V r X Y K J I H G;have N:d+1+e=(d+e)+1:=by omega
  rw[N];have Q:=OC K;unfold nY at h;have q: ∀{k:KD},agT P t=some false->ks=[k]-> ∃x y,xs=[x]/\S=[y]/\tF k x y=some r/\J0g s.w s.g.C x X/\J0g s.w s.g.C y Y:=(by rintro k F rfl;obtain⟨x,rfl⟩:=RA.1 Q.1;obtain⟨y,rfl⟩:=RA.1 Q.2;rcases H with⟨o,_⟩|⟨_,v,rfl,rfl⟩;simp_all;rcases G with⟨o,_⟩|⟨_,u,rfl,rfl⟩;simp_all;refine⟨x,y,rfl,rfl,?_,J.2 0 x _ rfl rfl,I.2 0 y _ rfl rfl⟩;grind [cA]);split at h<;>rename_i U
  injection h with h;subst h;obtain⟨x,y,rfl,rfl,j,A,B⟩:=q (by grind [agT,wP]) rfl;cases A<;>cases B<;>simp only[tF]at j<;>try (cases j;done)
  grind [run_equalIn_bool];injection h with h;subst h;obtain⟨x,y,rfl,rfl,j,A,B⟩:=q (by grind [agT,wP]) rfl;cases A<;>cases B<;>simp only[tF]at j<;>try (cases j;done)
  grind [run_equalIn_int];injection h with h;subst h;obtain⟨x,y,rfl,rfl,j,A,B⟩:=q (by grind [agT,wP]) rfl;cases A<;>cases B<;>simp only[tF]at j<;>try (cases j;done)
  simp_all [run_equalIn_string];rename_i fs;split at h;cases h;rename_i M;have F:agT P t=some true:=by grind [agT,wP]
  rcases H with⟨_,rfl⟩|⟨o,_⟩;rcases G with⟨_,rfl⟩|⟨o,_⟩;have O:P.fieldsOf t=fs:=by grind [Program.fieldsOf]
  rw[run_equalIn_struct w (d+e) t _ _ (by simp_all) (by simpa using M),O];exact o6 d e (λt ks T=>eqK d t ks T) w J I h (by simpa using K);simp_all;simp_all;rename_i n el;split at h;rename_i L E;split at h;rename_i z;injection h with h;subst h;have F:agT P t=some true:=by grind [agT,wP]
  rcases H with⟨_,rfl⟩|⟨o,_⟩;rcases G with⟨_,rfl⟩|⟨o,_⟩;obtain⟨i,hi,R⟩:=HR z.1;have D:P.cellsOf el=L.length:=by grind [Program.cellsOf]
  rw[run_equalIn_array w (d+e) _ _ U hi,D,List.range_eq_range'];exact ny d e (eqK d el L E) E z.1 z.2 w J I (i:=0) (by simpa using K);simp_all;simp_all;cases h;cases h;cases h
theorem Dv(hi:Inv s)(he:bI s a.tmps env){op ks x y}(h:(opR F (.bin op (.flat ks) x y) new).run ⟨env,s.σ⟩=some e)(hc:JS P (.bin op (.flat ks) x y) o.op=true):bH P o a s e:=by
 simp only[opR]at h;obtain⟨u,h1,E⟩:=bind_some h;obtain⟨v,h2,A⟩:=bind_some E;obtain⟨r,j,rfl⟩:=fY A;clear h E A;unfold JS at hc;simp only at hc;split at hc
 ·rename_i V t C B ty U;simp only[JW,beq_iff_eq]at hc;obtain⟨⟨rfl,k⟩,⟨⟨R,N⟩,z⟩,M⟩:=hc;have H:=bD he h1 k;have I:=bD he h2 R;generalize W:a.eval C=zx at H;generalize Y:a.eval B=Z at I;simp only[lX]at j;split at j
  ·rename_i p q;cases H with
   |data _ vs K J=>
    cases I with
    |data _ g O S=>
     have n: ∃b,cA ks p q=some b:=by cases hcm:cA ks p q<;>simp_all [iE]
     obtain⟨b,n⟩:=n;rw[n]at j;obtain⟨Q,rfl⟩:=sE j;have G:(eqGuard op t C B (.agg vs) (.agg g)).run P s.w=.ok () s.w:=run_eqGuard_agg s.w op t C B vs g (by simpa using M);have T:=eqK (P:=P) (s:=s) 100 t ks N 9900 s.w p q vs.toList g.toList b (.agg vs) (.agg g) n ⟨by simpa using K,λi x v k D=>J i x v k (by simpa using D)⟩ ⟨by simpa using O,λi x v k D=>S i x v k (by simpa using D)⟩ (.inl ⟨z,by simp⟩) (.inl ⟨z,by simp⟩);have L:(binOp op t (.agg vs) (.agg g)).run P s.w=.ok (.bool (if op=.eql then b else !b)) s.w:=by
      rcases Q with rfl|rfl
      all_goals simp_all [run_eql_struct,run_neq_struct]
     simp_all [JE,execOp,oI]
  cases j
 cases hc
end
end Go.Am
end
section
namespace Go.Am
theorem J0g.weaken{w:World}{C e:Nat->Nat->Prop}(h: ∀r o,C r o->e r o){x v}(hr:J0g w C x v):J0g w e x v:=by
 induction hr with
 |b x=>exact .b x
 |i k n=>exact .i k n
 |s l=>exact .s l
 |np=>exact .np
 |nf=>exact .nf
 |sl0 esz a cap=>exact .sl0 esz a cap
 |sl esz rows r o cap vals h1 h2 g _ ih=>exact .sl esz rows r o cap vals h1 h2 (λi j row x hr q=>⟨h _ _ (g i j row x hr q).1,(g i j row x hr q).2⟩) ih
 |slc esz rows a _ ih=>exact .slc esz rows a ih
theorem Ce{s c:Sn}(hi:Inv s)(hw:c.w=s.w)(q: ∀k cs,c.σ[k]?=some (.box cs)->MC c k cs)(v: ∀k wm esz rows,c.σ[k]?=some (.arr wm esz rows)->LR c k wm esz rows)
  (id:Nat->Nat) (x: ∀e j,e<c.σ.length->j<c.σ.length->id e=id j->e=j) (wr: ∀k r o,Wr1 c k r o->Wr1 s (id k) r o)
  (y: ∀r o,c.g.C r o->r<s.w.heap.size/\ ∀k,¬Wr1 c k r o):Inv c:=by
 have n: ∀k r o,Wr1 c k r o->k<c.σ.length:=(by grind [Wr1]);exact⟨q,v,λe j r o h1 h2=>x e j (n _ _ _ h1) (n _ _ _ h2) (hi.apart _ _ _ _ (wr _ _ _ h1) (wr _ _ _ h2)),λr o h=>by grind⟩
theorem sD{m ids sto}: ∀{xs e:List AV},fin.finL m ids sto xs=some e->xs.length=e.length/\ ∀(i:Nat) x y,xs[i]?=some x->e[i]?=some y->fin m ids sto x=some y
 |[],e,h=>by grind [fin.finL]
 |x::xs,e,h=>by
  simp only[fin.finL]at h;split at h;rename_i y l j g;injection h with h;subst h;obtain⟨h1,h2⟩:=sD g;grind;cases h
theorem PB{m ids sto}: ∀{xs e:List Blk},pQ m ids sto xs=some e->xs.length=e.length/\ ∀(i:Nat) x y,xs[i]?=some x->e[i]?=some y->fH m ids sto x=some y
 |[],e,h=>by grind [pQ]
 |x::xs,e,h=>by
  simp only[pQ]at h;split at h;rename_i y l j g;injection h with h;subst h;obtain⟨h1,h2⟩:=PB g;grind;cases h
theorem pv{sto}: ∀{ids:List Nat} {e:List Blk},tU sto ids=some e->ids.length=e.length/\ ∀(i:Nat) b y,ids[i]?=some b->e[i]?=some y->sto[b]?=some y
 |[],e,h=>by grind [tU]
 |x::xs,e,h=>by
  simp only[tU]at h;split at h;rename_i y l j g;injection h with h;subst h;obtain⟨h1,h2⟩:=pv g;grind;cases h
theorem OS{b:Nat}: ∀{ids:List Nat} {k j:Nat},eE b ids k=some j->k<=j/\ids[j-k]?=some b
 |[],k,j,h=>by grind [eE]
 |x::r,k,j,h=>by
  simp only[eE]at h;split at h;simp_all;obtain⟨h1,h2⟩:=OS h;grind
theorem o7{b:Nat}: ∀{ids:List Nat} {k:Nat},eE b ids k=none->b∉ids
 |[],_,_=>by simp
 |x::r,k,h=>by
  simp only[eE]at h;split at h;cases h;rename_i g;simp only[dZ,not_or];exact⟨λe=>g e.symm,o7 h⟩
theorem PH: ∀{l:List Nat},iJ l=true->l.Nodup|[],_=>List.nodup_nil|x::r,h=>by simp only[iJ,JW,kR]at h;refine List.nodup_cons.2 ⟨?_,PH h.2⟩;simp_all
theorem OQ{α:Type}: ∀{l:List α},l.Nodup-> ∀{i j:Nat} {x:α},l[i]?=some x->l[j]?=some x->i=j
 |[],_,i,j,x,h,_=>by simp at h
 |y::l,h,i,j,x,h1,h2=>by
  obtain⟨g,e⟩:=List.nodup_cons.1 h;cases i with
  |zero=>
   grind
  |succ i=>
   cases j with
   |zero=>grind
   |succ j=>exact congrArg (· +1) (OQ e (i:=i) (j:=j) (x:=x) (by simpa using h1) (by simpa using h2))
def Zd(s:Sn)(m:Nat)(ids:List Nat):Nat->Nat->Prop:=λr o=>s.g.C r o\/ ∃b wm esz rows,m<=b/\b∉ids/\s.σ[b]?=some (Blk.arr wm esz rows)/\s.g.μ b=some (r,0)/\o<rows.length*esz
def iY(s:Sn)(m:Nat)(ids:List Nat)(σ:List Blk):Sn:=
 ⟨σ,⟨λk=>if k<m then s.g.μ k else match ids[k-m]? with
  |some b=>s.g.μ b
  |none=>none,Zd s m ids⟩,s.w⟩
section
variable {s:Sn} {m:Nat} {ids:List Nat} {l q q':List Blk}
def fS(m:Nat)(ids:List Nat)(k:Nat):Nat:=if k<m then k else(ids[k-m]?).getD 0
structure jr(s:Sn)(m:Nat)(ids:List Nat)(σ:List Blk):Prop where
 inv:Inv s
 le:m<=s.σ.length
 nodup:ids.Nodup
 ge: ∀b∈ids,m<=b
 len:σ.length=m+ids.length
 blk: ∀k x,σ[k]?=some x-> ∃y,s.σ[fS m ids k]?=some y/\fH m ids s.σ y=some x
variable {σ:List Blk} (h:jr s m ids σ)
theorem rO(k:Nat)(hk:k<m+ids.length):(iY s m ids σ).g.μ k=s.g.μ (fS m ids k):=by
 grind [iY,fS]
include h in
theorem YL{k:Nat}{x:Blk}(hk:σ[k]?=some x):k<m+ids.length/\ ∃y,s.σ[fS m ids k]?=some y/\fH m ids s.σ y=some x:=by have:=Jq hk;exact⟨by rw[<-h.len];exact this,h.blk k x hk⟩
include h in
theorem HB{b k:Nat}{y:Blk}(g:fS m ids k=b)(hk:k<m+ids.length)(hb:s.σ[b]?=some y): ∃x,σ[k]?=some x/\fH m ids s.σ y=some x:=by
 have e:k<σ.length:=by rw[h.len];exact hk
 obtain⟨j,h1,h2⟩:=h.blk k σ[k] (aQ e);simp_all
theorem rX{k:Nat}(hk:k<m):fS m ids k=k:=by simp[fS,hk]
theorem YA{b j:Nat}(hj:eE b ids m=some j):fS m ids j=b/\j<m+ids.length:=by
 obtain⟨h1,h2⟩:=OS hj;grind [fS]
include h in
theorem XL{x y:AV}{v:Value}(hr:JD s x v):fin m ids s.σ x=some y->JD (iY s m ids σ) y v:=by
 have J: ∀r o,s.g.C r o->(iY s m ids σ).g.C r o:=λr o h=>.inl h
 induction hr generalizing y with
 |p c v hp=>intro w;simp[fin]at w;subst w;exact .p _ _ (hp.weaken J)
 |data cs vs h1 h2=>intro w;simp[fin]at w;subst w;exact .data _ _ h1 λi x v A D=>(h2 i x v A D).weaken J
 |agg cs vs h1 H h2 ih=>
  intro w;simp only[fin]at w;split at w;rename_i l Q;obtain⟨I,N⟩:=sD Q;have hrel: ∀(i:Nat) y v,l[i]?=some y->vs[i]?=some v->JD (iY s m ids σ) y v:=(by grind [Jq]);split at w;rename_i q hq;injection w with w;subst w;have:=OG hq;subst this;refine .data _ _ (by simp_all) λi c v S D=>?_;have:=hrel i (.p c) v (by simp[S]) D;cases this<;>simp_all
  injection w with w;subst w;exact .agg _ _ (by omega) H hrel;cases w
 |tup cs vs h1 h2 ih=>
  intro w;simp only[fin]at w;split at w;rename_i l Q;injection w with w;subst w;obtain⟨I,N⟩:=sD Q;refine .tup _ _ (by omega) λi y v Y D=>?_;grind [Jq];cases w
 |ptr b off r o hm B=>
  intro w;obtain⟨cs,B⟩:=B;have go: ∀k,fS m ids k=b->k<m+ids.length->JD (iY s m ids σ) (.ptr k off) (.pointer (some ⟨r,o+off,none⟩)):=(by intro k F E;obtain⟨x,A,z⟩:=HB h F E B;simp only[fH]at z;split at z;injection z with z;subst z;exact .ptr k off r o (by grind [rO]) ⟨_,A⟩;cases z);grind [fin,rX,Option.map_eq_some_iff,YA]
 |cp cs off r o vals U p2=>intro w;simp[fin]at w;subst w;exact .cp cs off r o vals (λj x A=>⟨J _ _ (U j x A).1,(U j x A).2⟩) λj x A=>(p2 j x A).weaken J
 |slr b i n v wm esz rows H B G D=>
  intro w;have go: ∀k,fS m ids k=b->k<m+ids.length->JD (iY s m ids σ) (.slr k i n) v:=by
   intro k F E;obtain⟨x,A,z⟩:=HB h F E B;simp only[fH]at z;injection z with z;subst z;refine .slr k i n v wm esz rows H A G λe=>?_;have aa:(iY s m ids σ).g.μ k=s.g.μ b:=by grind [rO]
   rcases D e with⟨M,K,q2,W⟩|⟨r,cap,c,R,fz,M,q⟩;exact .inl ⟨by simp_all,K,q2,W⟩;exact .inr ⟨r,cap,c,R,fz,by simp_all,q⟩
  simp only[fin]at w;split at w;grind [rX];rename_i a7;split at w;grind [YA];rename_i L;rw[B]at w;simp only at w;split at w;rename_i e;injection w with w;subst w;obtain⟨a,cap,I,N,P,V⟩:=iI.of_slr h.inv (.slr b i n v wm esz rows H B G D) B e;refine .p _ _ (d6 (s:=iY s m ids σ) I N P (V.imp id ?_));rintro⟨r,o,rfl,A⟩;refine⟨r,o,rfl,λk j row x E Z=>⟨.inr ⟨b,wm,esz,rows,by omega,o7 L,B,?_⟩,?_⟩⟩;rcases D e with⟨M,K,q2,W⟩|⟨r',a2,c,R,fz,M,K,_⟩;simp_all;rw[I]at K;injection K with v1 v2 v3;injection v1 with v1;injection v1 with v1 v4;subst v1 v4;refine⟨M,?_⟩;have T:=Jq E;have O:=Jq Z;rw[P row (fZ E)]at O;rw[pL]at T;have:=iO (a:=i+k) (b:=j) (n:=rows.length) (e:=esz) (by omega) O;grind;obtain⟨u,hu,hr⟩:=A k j row x E Z;exact⟨u,hu,hr.weaken J⟩;cases w
 |ep b ext i off v wm esz rows H B G D=>
  intro w;have go: ∀k,fS m ids k=b->k<m+ids.length->JD (iY s m ids σ) (.ep k ext i off) v:=(by intro k F E;obtain⟨x,A,z⟩:=HB h F E B;simp only[fH]at z;injection z with z;subst z;refine .ep k ext i off v wm esz rows H A G λR e2=>?_;grind [rO]);grind [fin,rX,Option.map_eq_some_iff,YA]
 |fn f first caps fs cs h1 h2 _ _ a8 a9=>
  intro w;simp only[fin]at w;split at w
  ·rename_i a c ha S;injection w with w;subst w;obtain⟨I,N⟩:=sD ha;obtain⟨P,V⟩:=sD S;refine .fn f a c fs cs (by omega) (by omega) (λi y v Y D=>?_) (λi y v Y D=>?_)
   all_goals grind [Jq]
  cases w
 |unk x=>intro w;simp[fin]at w;subst w;exact .unk x
 |pre=>intro w;simp[fin]at w
include h in
theorem MH(k r o:Nat)(hw:Wr1 (iY s m ids σ) k r o):k<m+ids.length/\Wr1 s (fS m ids k) r o:=by
 unfold Wr1 at hw;have g:(iY s m ids σ).σ=σ:=rfl;rw[g]at hw;cases hk:σ[k]? with
 |none=>simp_all
 |some x=>obtain⟨e,y,j,n⟩:=YL h hk;refine⟨e,?_⟩;rw[hk]at hw;rw[rO k e]at hw;unfold Wr1;rw[j];cases y<;>grind [fH,sD]
include h in
theorem Bs:Inv (iY s m ids σ):=by
 have hi:=h.inv;have S: ∀z n,z<m+ids.length->n<m+ids.length->fS m ids z=fS m ids n->z=n:=by
  intro z n h1 h2 B;simp only[fS]at B;split at B<;>split at B
  exact B;rename_i a b;have:n-m<ids.length:=by omega
  have:=h.ge ids[n-m] (by simp);grind;rename_i a b;have:=h.ge (ids[z-m]'(by omega)) (by simp);grind;have Y:z-m<ids.length:=by omega
  have W:n-m<ids.length:=by omega
  simp[Y,W]at B;have:=OQ h.nodup (aQ Y) (by rw[B];exact aQ W);omega
 refine Ce hi rfl ?_ ?_ (fS m ids) (λz n h1 h2 B=>S z n (by rw[<-h.len];exact h1) (by rw[<-h.len];exact h2) B) (λk r o A=>(MH h k r o A).2) ?_;intro k cs P;obtain⟨J,y,Q,g⟩:=YL h P;cases y with
 |dead=>grind [fH]
 |arr=>grind [fH]
 |box T=>
  simp only[fH]at g;split at g;rename_i l H;injection g with g;injection g with g;subst g;obtain⟨z,n⟩:=sD H;obtain⟨r,o,c,e,fz,q,G,a3,I,K⟩:=hi.box _ _ Q;refine⟨r,o,c,e,fz,by grind [rO],G,by omega,λi x a0=>?_,by simp_all⟩;grind [Jq,XL];cases g
 intro k wm esz rows P;obtain⟨J,y,Q,g⟩:=YL h P;cases y with
 |dead=>grind [fH]
 |box T=>grind [fH]
 |arr w e rs=>
  simp[fH]at g;obtain⟨rfl,rfl,rfl⟩:=g;rcases hi.arr _ _ _ _ Q with⟨q,R⟩|⟨r,c,e,fz,q,G,C,H,I,K⟩;exact .inl ⟨by grind [rO],R⟩;refine .inr ⟨r,c,e,fz,by grind [rO],G,C,H,λi j row x h1 h2=>?_,K⟩;obtain⟨⟨v,Z,R⟩,E⟩:=I i j row x h1 h2;exact⟨⟨v,Z,R.weaken λr o h=>.inl h⟩,λe=>.inl (E e)⟩
 intro r o E;rcases E with E|⟨b,wm,esz,rows,a4,a2,V,U,a1⟩;exact⟨(hi.const r o E).1,λk A=>(hi.const r o E).2 _ (MH h k r o A).2⟩;rcases hi.arr _ _ _ _ V with⟨q,_⟩|⟨r',c,e,fz,q,G,C,H,I,_⟩;simp_all;rw[U]at q;injection q with q;injection q with q _;subst q;refine⟨CV G,λk A=>?_⟩;obtain⟨J,A⟩:=MH h k r o A;have M:fS m ids k≠b:=(by grind [fS]);cases wm with
 |true=>
  refine M (hi.apart _ _ _ _ A ?_);grind [Wr1]
 |false=>
  have N:0<esz:=(by grind);have F:o/esz<rows.length:=Nat.div_lt_of_lt_mul (by grind);have D:rows[o/esz]?=some (rows[o/esz]'F):=aQ _;have hlen:=C _ (fZ D);have O:o%esz<(rows[o/esz]'F).length:=by rw[hlen];exact Nat.mod_lt _ N
  have L:=(I _ _ _ _ D (aQ O)).2 rfl;have:o/esz*esz+o%esz=o:=by grind [Nat.div_add_mod]
  rw[this]at L;exact(hi.const r o L).2 _ A
include h in
theorem pj{E:Sn}(t:aW E s)(N:E.σ.length<=m):aW E (iY s m ids σ):=by
 have hi:=h.inv;refine⟨t.keep,λr o y=>.inl (t.cmono r o y),λr o y=>?_,λr o ⟨k,I⟩=>t.wnew r o ⟨_,(MH h k r o I).2⟩,?_,λb cs C=>?_,λb wm esz rows C=>?_⟩;rcases y with y|⟨b,wm,esz,rows,M,L,F,D,K⟩;exact t.cnew r o y;cases wm with
 |true=>have:=t.wnew r o ⟨b,by grind [Wr1]⟩;exact .inr this
 |false=>
  rcases hi.arr _ _ _ _ F with⟨n,_⟩|⟨r',c,e,fz,n,P,B,J,w,_⟩;simp_all;rw[D]at n;injection n with n;injection n with n _;subst n;have H:0<esz:=(by grind);have v:o/esz<rows.length:=Nat.div_lt_of_lt_mul (by grind);have q:rows[o/esz]?=some (rows[o/esz]'v):=aQ _;have hlen:=B _ (fZ q);have A:o%esz<(rows[o/esz]'v).length:=by simp_all [Nat.mod_lt]
  have z:=(w _ _ _ _ q (aQ A)).2 rfl;have:o/esz*esz+o%esz=o:=by grind [Nat.div_add_mod]
  rw[this]at z;exact t.cnew r o z
 show E.σ.length<=σ.length;rw[h.len];omega;have j:b<m:=by grind
 obtain⟨⟨cs',h1,h2⟩,G⟩:=t.box b cs C;obtain⟨x,w,g⟩:=HB h (rX j) (by omega) h1;simp only[fH]at g;split at g;rename_i l J;injection g with g;subst g;exact⟨⟨l,w,by grind [sD]⟩,by grind [rO,rX]⟩;cases g;have j:b<m:=by grind
 obtain⟨wm',rows',h1,h2,G,O⟩:=t.arr b wm esz rows C;obtain⟨x,w,g⟩:=HB h (rX j) (by omega) h1;simp[fH]at g;subst g;exact⟨wm',rows',w,h2,G,λe=>by grind [rO,rX]⟩
end
end Go.Am
end
section
namespace Go.Am
def J5W(P:Program)(f:FuncId)(args:List AV)(blks:List Blk)(r:Res):Prop:=
 (∃fn,P.funcs[f]?=some fn∧fn.body.isSome=true∧(fn.name== "runtime.NumGoroutine")=false)∧
 ∀(g:Gh) (w:World) (vals:Array Value),Inv ⟨blks,g,w⟩->args.length=vals.size->(∀(i:Nat) x v,args[i]?=some x->vals[i]?=some v->JD ⟨blks,g,w⟩ x v)->
  Calls P f vals w λe w'=> ∃v g',e=.returned v/\Inv ⟨r.2,g',w'⟩/\aW ⟨blks,g,w⟩ ⟨r.2,g',w'⟩/\JD ⟨r.2,g',w'⟩ r.1 v
def iL(P:Program)(F:Orc):Prop:= ∀f args blks r,F f args blks=some r->J5W P f args blks r
theorem vB{e:Ent}: ∀{es:List Ent} {k j:Nat},cW e es k=some j->k<=j/\es[j-k]?=some e
 |[],k,j,h=>by grind [cW]
 |x::r,k,j,h=>by
  simp only[cW]at h;split at h;simp_all;obtain⟨h1,h2⟩:=vB h;grind
theorem sG{ρ:Ent->Option Nat}: ∀{xs e:List AV},ren.renL ρ xs=some e->xs.length=e.length/\ ∀(i:Nat) x y,xs[i]?=some x->e[i]?=some y->ren ρ x=some y
 |[],e,h=>by grind [ren.renL]
 |x::xs,e,h=>by
  simp only[ren.renL]at h;split at h;rename_i y l j g;injection h with h;subst h;obtain⟨h1,h2⟩:=sG g;grind;cases h
theorem sB{es:List Ent}{new:Nat}: ∀{xs e:List AV},bk.bkL es new xs=some e->xs.length=e.length/\ ∀(i:Nat) x y,xs[i]?=some x->e[i]?=some y->bk es new x=some y
 |[],e,h=>by grind [bk.bkL]
 |x::xs,e,h=>by
  simp only[bk.bkL]at h;split at h;rename_i y l j g;injection h with h;subst h;obtain⟨h1,h2⟩:=sB g;grind;cases h
def RW(s:Sn)(ρ:Ent->Option Nat)(e:Ent)(x:Blk):Prop:=
 match e with
 | .whole b=>(∃cs l,s.σ[b]?=some (.box cs)/\ren.renL ρ cs=some l/\x=.box l)\/(∃w esz rows,s.σ[b]?=some (.arr w esz rows)/\x=.arr w esz rows)
 | .elem b ext i=> ∃esz rows row,s.σ[b]?=some (.arr true esz rows)/\ext=rows.length/\rows[i]?=some row/\x=.box (row.map .p)
section
variable {s:Sn} {env:List (Nat×AV)}
theorem ZF{e:List Blk}{ws:List (Nat×Blk)}{b:Nat}{x:Blk}(h:(pN ws b).run ⟨env,e⟩=some x):(upd ws e)[b]?=some x:=by
 grind [pN,RM.run,uM]
theorem JE3{k:List Blk}{ws:List (Nat×Blk)}(n:s.σ=upd ws k){ρ:Ent->Option Nat}{e:Ent}{x:Blk}(h:(wZ ws ρ e).run ⟨env,k⟩=some x):RW s ρ e x:=by
 cases e with
 |whole b=>
  simp only[wZ]at h;obtain⟨y,h1,h⟩:=bind_some h;have g:=ZF h1;rw[<-n]at g;cases y with
  |dead=>cases h
  |box cs=>
   dsimp only at h;split at h;rename_i l o;simp only[RM.run]at h;injection h with h;subst h;exact .inl ⟨cs,l,g,o,rfl⟩;cases h
  |arr w esz rows=>
   simp only[RM.run]at h;injection h with h;subst h;exact .inr ⟨w,esz,rows,g,rfl⟩
 |elem b ext i=>
  simp only[wZ]at h;obtain⟨y,h1,h⟩:=bind_some h;have g:=ZF h1;rw[<-n]at g;cases y with
  |arr w esz rows=>
   cases w;cases h;dsimp only at h;split at h;rename_i q;split at h;rename_i row j;simp only[RM.run]at h;injection h with h;subst h;exact⟨esz,rows,row,g,q,j,rfl⟩;cases h;cases h
  |_=>cases h
theorem qg{g:List Blk}{ws:List (Nat×Blk)}(j:s.σ=upd ws g){ρ:Ent->Option Nat}: ∀{es:List Ent} {blks:List Blk},(jG ws ρ es).run ⟨env,g⟩=some blks->
  es.length=blks.length/\ ∀(k:Nat) e x,es[k]?=some e->blks[k]?=some x->RW s ρ e x
 |[],blks,h=>by grind [jG,RM.run]
 |e::es,blks,h=>by
  simp only[jG]at h;obtain⟨x,h1,h⟩:=bind_some h;obtain⟨l,h2,h⟩:=bind_some h;simp only[RM.run]at h;injection h with h;subst h;obtain⟨n,o⟩:=qg j h2;grind [JE3]
def gR(s:Sn)(es:List Ent)(blks:List Blk):Sn:=
 ⟨blks,⟨λk=>match es[k]? with
  |some (.whole b)=>s.g.μ b
  |some (.elem b _ i)=>(match s.σ[b]? with
   |some (.arr _ esz _)=>(match s.g.μ b with
    |some p=>some (p.1,i*esz)
    |none=>none)
   |_=>none)
  |none=>none,s.g.C⟩,s.w⟩
structure WS(s:Sn)(es:List Ent)(blks:List Blk):Prop where
 inv:Inv s
 nodup:(es.map Ent.id).Nodup
 len:es.length=blks.length
 blk: ∀(k:Nat) e x,es[k]?=some e->blks[k]?=some x->RW s (λe=>cW e es 0) e x
variable {es:List Ent} {blks:List Blk} (h:WS s es blks)
include h in
theorem pW{k:Nat}{e:Ent}(he:es[k]?=some e): ∃x,blks[k]?=some x/\RW s (λe=>cW e es 0) e x:=by
 have g:=Jq he;have:k<blks.length:=by rw[<-h.len];exact g
 exact⟨blks[k],aQ this,h.blk k e _ he (aQ this)⟩
theorem vA{k b:Nat}(he:es[k]?=some (.whole b)):(gR s es blks).g.μ k=s.g.μ b:=by simp[gR,he]
theorem OX{k b ext i esz:Nat}{wm rows r}(he:es[k]?=some (.elem b ext i))(hb:s.σ[b]?=some (.arr wm esz rows))(hm:s.g.μ b=some (r,0)):(gR s es blks).g.μ k=some (r,i*esz):=by
 grind [gR]
include h in
theorem Aj{x y:AV}{v:Value}(hr:JD s x v):ren (λe=>cW e es 0) x=some y->JD (gR s es blks) y v:=by
 induction hr generalizing y with
 |p c v T=>intro j;simp[ren]at j;subst j;exact .p _ _ T
 |data cs vs h1 h2=>intro j;simp[ren]at j;subst j;exact .data _ _ h1 h2
 |cp cs off r o vals Q P=>intro j;simp[ren]at j;subst j;exact .cp cs off r o vals Q P
 |unk x=>intro j;simp[ren]at j;subst j;exact .unk x
 |pre=>intro j;simp[ren]at j
 |agg cs vs h1 E h2 ih=>
  intro j;simp only[ren]at j;obtain⟨l,I,rfl⟩:=gZ.1 j;obtain⟨K,N⟩:=sG I;refine .agg _ _ (by omega) E λi y v J A=>?_;grind [Jq]
 |tup cs vs h1 h2 ih=>
  intro j;simp only[ren]at j;obtain⟨l,I,rfl⟩:=gZ.1 j;obtain⟨K,N⟩:=sG I;refine .tup _ _ (by omega) λi y v J A=>?_;grind [Jq]
 |ptr b off r o hm C=>
  intro j;simp only[ren]at j;obtain⟨k,z,rfl⟩:=gZ.1 j;obtain⟨_,z⟩:=vB z;simp only[tO]at z;obtain⟨cs,C⟩:=C;obtain⟨x,D,B⟩:=pW h z;rcases B with⟨cs',l,h1,h2,rfl⟩|⟨w,esz,rows,h1,rfl⟩;exact .ptr k off r o (by grind [vA]) ⟨l,D⟩;simp_all
 |slr b i n v wm esz rows E C F A=>
  intro j;simp only[ren]at j;obtain⟨k,z,rfl⟩:=gZ.1 j;obtain⟨_,z⟩:=vB z;simp only[tO]at z;obtain⟨x,D,B⟩:=pW h z;rcases B with⟨cs',l,h1,h2,rfl⟩|⟨w,G,rows',h1,rfl⟩;simp_all;rw[C]at h1;injection h1 with h1;injection h1 with a1 a2 a3;subst a1 a2 a3;refine .slr k i n v wm esz rows E D F λe=>?_;have a4:(gR s es blks).g.μ k=s.g.μ b:=vA z;rcases A e with⟨H,R,W,S⟩|⟨r,cap,c,V,fz,H,q⟩;exact .inl ⟨by simp_all,R,W,S⟩;exact .inr ⟨r,cap,c,V,fz,by simp_all,q⟩
 |ep b ext i off v wm esz rows E C F A=>
  intro j;simp only[ren]at j;obtain⟨k,z,rfl⟩:=gZ.1 j;obtain⟨_,z⟩:=vB z;simp only[tO]at z;obtain⟨x,D,B⟩:=pW h z;obtain⟨G,rows',row,h1,h2,U,rfl⟩:=B;have M:=h1;rw[C]at h1;injection h1 with h1;injection h1 with a1 a2 a3;subst a1 a2 a3;have Y:=Jq U;obtain⟨r,H,A⟩:=A h2 (by omega);subst A;exact .ptr k off r (i*esz) (OX z M H) ⟨_,D⟩
 |fn f first caps fs cs h1 h2 _ _ Z a0=>
  intro j;simp only[ren]at j;obtain⟨l1,O,j⟩:=bL.1 j;obtain⟨l2,L,rfl⟩:=gZ.1 j;obtain⟨K,N⟩:=sG O;obtain⟨k3,k4⟩:=sG L;refine .fn f _ _ fs cs (by omega) (by omega) (λi y v J A=>?_) (λi y v J A=>?_)
  all_goals grind [Jq]
def idE(es:List Ent)(k:Nat):Nat:=((es[k]?).map Ent.id).getD 0
theorem uF{k:Nat}{e:Ent}(he:es[k]?=some e):idE es k=e.id:=by simp[idE,he]
include h in
theorem rL(k r o:Nat)(hw:Wr1 (gR s es blks) k r o):k<es.length/\Wr1 s (idE es k) r o:=by
 unfold Wr1 at hw;have q:(gR s es blks).σ=blks:=rfl;rw[q]at hw;cases hk:blks[k]? with
 |none=>simp_all
 |some x=>
  have j:k<es.length:=by rw[h.len];grind
  refine⟨j,?_⟩;have e:es[k]?=some es[k]:=aQ j;have g:=h.blk k _ x e hk;rw[uF e];rw[hk]at hw;unfold Wr1;cases hcase:es[k]with
  |whole b=>
   rw[hcase]at g e;rcases g with⟨cs',l,h1,h2,rfl⟩|⟨w,n,rows',h1,rfl⟩
   all_goals grind [Ent.id,vA,sG]
  |elem b ext i=>
   rw[hcase]at g e;obtain⟨n,rows',row,h1,h2,v,rfl⟩:=g;grind [Ent.id,gR]
include h in
theorem JKP:Inv (gR s es blks):=by
 have hi:=h.inv;have hlen:(gR s es blks).σ.length=es.length:=h.len.symm;refine Ce hi rfl ?_ ?_ (idE es) ?_ (λk r o K=>(rL h k r o K).2) (λr o N=>⟨(hi.const r o N).1,λk K=>(hi.const r o N).2 _ (rL h k r o K).2⟩);intro k cs z;have z:blks[k]?=some (.box cs):=z;have A:k<es.length:=by grind
 have y:es[k]?=some es[k]:=aQ A;have q:=h.blk k _ _ y z;cases hcase:es[k]with
 |whole b=>
  rw[hcase]at q y;rcases q with⟨cs',l,h1,h2,g⟩|⟨w,n,rows',h1,g⟩;injection g with g;subst g;obtain⟨E,I⟩:=sG h2;obtain⟨r,o,c,e,fz,D,L,Y,M,G⟩:=hi.box _ _ h1;refine⟨r,o,c,e,fz,by grind [vA],L,by omega,λi x V=>?_,by simp_all⟩;grind [Jq,Aj];cases g
 |elem b ext i=>
  rw[hcase]at q y;obtain⟨n,rows',row,h1,h2,F,g⟩:=q;injection g with g;subst g;have H:=Jq F;rcases hi.arr _ _ _ _ h1 with⟨D,C⟩|⟨r,c,e,fz,D,L,J,Z,M,G⟩;simp_all;have W:=J row (fZ F);have O:i*n+n<=rows'.length*n:=(by have:=zQ4 n (show i+1<=rows'.length from H);grind);refine⟨r,i*n,c,e,fz,OX y h1 D,L,by simp;omega,λj x B=>?_,λo h1 h2=>G.1 o (zQ2 _) (by grind)⟩;rw[fT]at B;cases hrj:row[j]? with
  |none=>simp_all
  |some P=>simp[hrj]at B;subst B;obtain⟨⟨v,U,C⟩,_⟩:=M i j row P F hrj;exact⟨v,U,.p _ _ C,C.one⟩
 intro k wm esz rows z;have z:blks[k]?=some (.arr wm esz rows):=z;have A:k<es.length:=by grind
 have y:es[k]?=some es[k]:=aQ A;have q:=h.blk k _ _ y z;cases hcase:es[k]with
 |whole b=>
  rw[hcase]at q y;rcases q with⟨cs',l,h1,h2,g⟩|⟨w,n,rows',h1,g⟩;cases g;injection g with a1 a2 a3;subst a1 a2 a3;rcases hi.arr _ _ _ _ h1 with⟨D,C⟩|⟨r,c,e,fz,D,Q⟩;exact .inl ⟨by grind [vA],C⟩;exact .inr ⟨r,c,e,fz,by grind [vA],Q⟩
 |elem b ext i=>rw[hcase]at q y;obtain⟨n,rows',row,h1,h2,F,g⟩:=q;cases g
 ·intro E I h1 h2 T;rw[hlen]at h1 h2;have S:es[E]?=some es[E]:=aQ h1;have R:es[I]?=some es[I]:=aQ h2;rw[uF S,uF R]at T;refine OQ h.nodup (x:=es[E].id) ?_ ?_
  all_goals simp_all
end
end Go.Am
end
