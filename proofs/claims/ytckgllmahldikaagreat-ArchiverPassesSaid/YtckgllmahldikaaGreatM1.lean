/-
  Parts of a proof.
-/
import Derived.Calls
import Derived.LoopN
import Derived.KernelRfl
import Derived.Laws.Sem
import Derived.Laws.StructEq
import Derived.Laws.Cells
import Derived.Laws.Cover3
import Derived.Laws.Pointers
import Derived.Deep.AppendSrc
import Derived.Laws.MakeOwn
import Derived.Laws.BytesString
import Derived.Lib.SliceRun
import Derived.DeepKeys
set_option linter.unusedSimpArgs false
set_option linter.unusedVariables false
open Option renaming some → Z,none → Y
open Bool renaming true → O,false → J
open Go.IntKind renaming i64 → I
open List renaming replicate → _P,getElem?_of_mem → h!
section
namespace Go.Am
abbrev aK:=Option
abbrev zQ0:= @Nat.le_refl
abbrev zQ1:= @Nat.le_trans
abbrev zQ2:= @Nat.zero_le
abbrev zQ3:= @Nat.lt_or_ge
abbrev zQ4:= @Nat.mul_le_mul_right
abbrev zQ5:= @List.mem_of_getElem?
abbrev zQ6:= @List.ext_getElem?
abbrev zQ7:= @List.mem_of_mem_drop
abbrev zQ8:= @Nat.add_mul
abbrev zQ9:= @List.mem_append
abbrev bF:= @List.getElem?_eq_getElem
abbrev qR:= @List.getElem?_eq_none
abbrev cV:= @List.mem_cons
abbrev bB:= @Bool.and_eq_true
abbrev CJ:= @Sem.run_bind
abbrev vC:= @Result.andThen_ok
abbrev hQ:= @Option.map_eq_some_iff
abbrev ui:= @Option.isSome_iff_exists
abbrev dp:= @Nat.add_assoc
abbrev dl:= @Array.ext'
abbrev Kw:= @Array.getElem?_toList
abbrev uW:= @List.flatten_cons
abbrev iM:= @List.getElem?_map
abbrev fK:= @Bool.false_eq_true
abbrev ee:= @List.length_eq_one_iff
abbrev kN:= @List.getElem?_of_mem
abbrev ds:= @Sem.run_pure
abbrev uz:= @List.mem_of_mem_take
abbrev ML:= @List.getElem?_set_self
abbrev dv:= @List.getElem?_set_ne
abbrev pH:= @List.length_cons
abbrev fh:= @Array.all_eq_true_iff_forall_mem
abbrev fy:= @List.length_replicate
abbrev iN:= @List.mem_map
abbrev uQ:= @List.getElem?_append_right
abbrev eN:= @List.length_map
abbrev yI:= @Nat.add_zero
abbrev GL:= @List.drop_zero
abbrev Mj:= @Array.getElem?_append_left
abbrev qX:= @Nat.zero_add
abbrev GO:= @Array.getElem?_eq_getElem
abbrev GN:= @Nat.mul_comm
abbrev dZ:= @List.length_append
abbrev yK:= @List.length_take
abbrev sN:= @List.length_drop
abbrev dx:= @List.getElem?_take
abbrev vm:= @List.getElem?_drop
abbrev gE:= @List.append_nil
abbrev BZ:= @List.getElem?_append_left
abbrev dT:= @List.getElem?_eq_some_iff
abbrev e9:= @Nat.eq_zero_or_pos
abbrev uR:= @List.cons_append
abbrev vA:= @List.drop_drop
abbrev GT:= @Bool.not_eq_true'
abbrev uT:= @Nat.sub_zero
abbrev bV:= @Option.bind_eq_some_iff
abbrev JF:= @Option.bind_some
abbrev fR:= @List.mem_cons_of_mem
abbrev CM:= @Bool.or_eq_true
abbrev iO:= @List.append_assoc
abbrev nV:= @List.take_append_drop
abbrev cJ:= @List.map_cons
abbrev BR:= @List.map_map
abbrev sR:= @List.map_append
abbrev dB:= @Option.map_some
abbrev qS:= @List.nil_append
abbrev em:= @List.map_replicate
abbrev dC:= @List.mem_singleton
abbrev jB:= @Int.le_trans
abbrev mP:= @List.getElem_mem
abbrev bC:= @Int.le_refl
abbrev fA:= @List.mem_iff_getElem?
abbrev GA:= @Nat.pow_le_pow_right
theorem _root_.And.c{h g e:Prop}(x:h/\g/\e):e:=x.2.2
theorem _root_.And.d{g h j e:Prop}(x:g/\h/\j/\e):e:=x.2.2.2
theorem _root_.And.e{j k n h g:Prop}(x:j/\k/\n/\h/\g):g:=x.2.2.2.2
theorem _root_.And.g{j n o h k e:Prop}(x:j/\n/\o/\h/\k/\e):e:=x.2.2.2.2.2
theorem _root_.And.h{j n q g k o e:Prop}(x:j/\n/\q/\g/\k/\o/\e):e:=x.2.2.2.2.2.2
theorem _root_.And.i{h k o g j n q e:Prop}(x:h/\k/\o/\g/\j/\n/\q/\e):e:=x.2.2.2.2.2.2.2
theorem _root_.And.j{h n r g k q v o e:Prop}(x:h/\n/\r/\g/\k/\q/\v/\o/\e):e:=x.2.2.2.2.2.2.2.2
theorem _root_.And.k{h n r g j q w o v e:Prop}(x:h/\n/\r/\g/\j/\q/\w/\o/\v/\e):e:=x.2.2.2.2.2.2.2.2.2
inductive PV where
 |b (x:Bool)
 |i (k:IntKind) (n:Int)
 |s (l:List UInt8)
 |sl (_l:Nat) (_f:List (List PV))
 |np
 |nf
 |slc (_l:Nat) (_f:List (List PV))
 deriving Inhabited
inductive AV where
 |p (c:PV)
 |data (cs:List PV)
 |agg (cs:List AV)
 |tup (vs:List AV)
 |ptr (b off:Nat)
 |cp (cs:List PV) (off:Nat)
 |_r (b i n:Nat)
 |ep (b ext i off:Nat)
 |pre (b n k:Nat)
 |fn (f:FuncId) (first caps:List AV)
 |unk
 deriving Inhabited
inductive _w where
 |dead
 |box (cs:List AV)
 |arr (w:Bool) (_l:Nat) (_f:List (List PV))
 deriving Inhabited
abbrev Res:=AV×List _w
abbrev Orc:=FuncId->List AV->List _w->Option Res
structure St where
 env:List (Nat×AV)
 _o:List _w
def lk(n:Nat):List (Nat×AV)->Option AV|[]=>Y|(m,v)::r=>if n=m then Z v else lk n r
inductive RM(α:Type) where|ret (a:α)|slot (n:Nat) (k:AV->RM α)|blk (b:Nat) (k:_w->RM α)|fail
def RM.bind{α β:Type}:RM α->(α->RM β)->RM β| .ret a,f=>f a| .slot n k,f=>.slot n λv=>(k v).bind f| .blk b k,f=>.blk b λv=>(k v).bind f| .fail,_=>.fail
def RM.run{α:Type}:RM α->St->Option α
 | .ret a,_=>Z a
 | .slot n k,s=>match lk n s.env with|some v=>(k v).run s|none=>Y
 | .blk b k,s=>match s._o[b]? with|some v=>(k v).run s|none=>Y
 | .fail,_=>Y
inductive Loc where
 |slot (n:Nat)
 |blk (b:Nat)
 deriving DecidableEq
def RM.reads{α:Type}:RM α->St->List Loc
 | .ret _,_=>[]
 | .slot n k,s=>.slot n::match lk n s.env with|some v=>(k v).reads s|none=>[]
 | .blk b k,s=>.blk b::match s._o[b]? with|some v=>(k v).reads s|none=>[]
 | .fail,_=>[]
def RM.of{α:Type}:Option α->RM α|some a=>.ret a|none=>.fail
inductive Opd where
 |t (n:Nat)
 |c (x:AV)
 deriving Inhabited
inductive KD where
 |b
 |i (k:IntKind)
 |s
 deriving DecidableEq
inductive BT where
 |plain
 |bool
 |flat (ks:List KD)
 |nils
 |nilp
 |nilf
 deriving DecidableEq
inductive CK where
 |int (k:IntKind)
 |same
 |_C
 |toBytes (own:Bool)
 deriving DecidableEq
inductive SK where
 |str
 |sl (_l:Nat)
 deriving DecidableEq
inductive AOp where
 |mv (x:Opd)
 |mkarr (_l:Nat) (x:Opd)
 |pick (c a b:Opd)
 |newbox (zero:List PV)
 |box (size:Nat) (x:Opd)
 |build (zero:List PV) (parts:List (Nat×Nat×Opd))
 |lits (own:Bool) (_l n:Nat) (zero:List PV) (parts:List (Nat×Opd))
 |load (agg:Bool) (size:Nat) (x:Opd)
 |store (size:Nat) (x v:Opd)
 |nilchk (x:Opd)
 |bin (op:BinOp) (t:BT) (x y:Opd)
 |un (op:UnOp) (x:Opd)
 |conv (k:CK) (x:Opd)
 |_D (own:Bool) (_l bytes:Nat) (zero:List PV) (l c:Opd)
 |slice (k:SK) (x:Opd) (lo hi mx:Option Opd)
 |faddr (off:Nat) (x:Opd)
 |field (agg:Bool) (off size:Nat) (x:Opd)
 |iaddr (_l:Nat) (x i:Opd)
 |aaddr (len _l:Nat) (x i:Opd)
 |sidx (x i:Opd)
 |aidx (agg:Bool) (len _l:Nat) (x i:Opd)
 |extr (x:Opd) (i:Nat)
 |call (f:FuncId) (args:List Opd) (k:Nat)
 |callv (g:Opd) (args:List Opd) (k:Nat)
 |len (str:Bool) (x:Opd)
 |app (_l bytes:Nat) (zero:List PV) (x y:Opd)
 |appn (_l bytes:Nat) (zero:List PV) (y:Opd)
 |mm (mx:Bool) (x y:Opd)
 |mkfn (f:FuncId) (first caps:List Opd)
 |newboxo (zero:List PV) (os:List (Nat×Nat))
 |buildo (zero:List PV) (parts:List (Nat×Nat×Opd)) (os:List (Nat×Nat))
 |storen (_l:Nat) (x:Opd)
 |callo (f:FuncId) (keep:List Bool) (args:List Opd) (k:Nat)
 deriving Inhabited
structure cG where
 op:AOp
 dst:Option Nat
 g:Option (Nat×Bool)
 deriving Inhabited
inductive cP where
 |skip
 |bad
 |reg (draw:Bool) (pairs:List (Nat×Nat)) (ins:List cG)
 |seq (a b:cP)
 |cond (c:Opd) (a b:cP)
 |block (id:Nat) (c:cP)
 |loop (live:List Nat) (c:cP)
 |lp (n:Nat) (live:List Nat) (c:cP)
 |scope (c:cP)
 |exit (id:Nat)
 |ret
 |keep (live:List Nat) (c:cP)
 |tidy (live:List Nat) (c:cP)
 |br (live:List Nat) (pre:cP) (c:Opd) (a b rest:cP)
 deriving Inhabited
inductive AX where
 |normal
 |exit (id:Nat)
 |ret
 deriving DecidableEq
abbrev Out:=AX×St
inductive xT where|tmp (t:Nat)|cell (t:Nat) (agg:Bool) (size:Nat)
structure AFn where
 np:Nat
 nt:Nat
 body:cP
 res:List xT
 fresh:Bool
structure Eff where
 val:AV
 ws:List (Nat×_w)
def upd(ws:List (Nat×_w))(_o:List _w):List _w:=ws.foldl (λs x=>s.set x.1 x.2) _o
def unp:List AV->Option (List PV)
 |[]=>Z []
 | .p c::r=>match unp r with|some l=>Z (c::l)|none=>Y
 |_::_=>Y
def cellsOf:AV->Option (List AV)| .p c=>Z [.p c]| .data cs=>Z (cs.map .p)| .agg cs=>Z cs| .ptr b o=>Z [.ptr b o]| .cp cs o=>Z [.cp cs o]| ._r b i n=>Z [._r b i n]| .ep b e i o=>Z [.ep b e i o]| .fn f a c=>Z [.fn f a c]| .tup _=>Y| .pre _ _ _=>Y| .unk=>Y
def mD(agg:Bool)(cs:List AV):Option AV:=
 if agg then
  match unp cs with
  |some l=>Z (.data l)
  |none=>Z (.agg cs)
 else match cs with|[x]=>Z x|_=>Y
def qJ(agg:Bool)(cs:List PV):Option AV:=
 if agg then Z (.data cs)
 else match cs with|[x]=>Z (.p x)|_=>Y
def sub{α:Type}(cs:List α)(off size:Nat):Option (List α):=if off=0/\cs.length=size then Z cs else if off+size<=cs.length then Z ((cs.drop off).take size)else Y
def spl{α:Type}(cs:List α)(off:Nat)(vs:List α):Option (List α):=if off=0/\cs.length=vs.length then Z vs else if off+vs.length<=cs.length then Z (cs.take off++vs++cs.drop (off+vs.length))else Y
def fz:AV->RM (List PV×List (Nat×_w))
 | .p c=>.ret ([c],[])
 | .data cs=>.ret (cs,[])
 | ._r b i n=>.blk b fun
  | .arr _ _l _f=>if i+n=_f.length then .ret ([.sl _l (_f.drop i)],[(b,.arr J _l _f)])else .fail
  |_=>.fail
 | .agg cs=>fzL cs
 |_=>.fail
where
 fzL:List AV->RM (List PV×List (Nat×_w))
  |[]=>.ret ([],[])
  |x::r=>(fz1 x).bind λa=>(fzL r).bind λc=>.ret (a.1++c.1,a.2++c.2)
 fz1:AV->RM (List PV×List (Nat×_w))
  | .p c=>.ret ([c],[])
  | ._r b i n=>.blk b fun
   | .arr _ _l _f=>if i+n=_f.length then .ret ([.sl _l (_f.drop i)],[(b,.arr J _l _f)])else .fail
   |_=>.fail
  |_=>.fail
def xV:KD->PV->PV->Option Bool| .b,.b x,.b y=>Z (x==y)| .i k,.i k' x,.i e y=>if k=k'/\k=e then Z (x==y)else Y| .s,.s x,.s y=>Z (x==y)|_,_,_=>Y
def cQ:List KD->List PV->List PV->Option Bool
 |[],[],[]=>Z O
 |k::ks,x::xs,y::e=>match xV k x y,cQ ks xs e with|some a,Z c=>Z (a&&c)|_,_=>Y
 |_,_,_=>Y
def PB(op:BinOp)(k:IntKind)(x y:Int):Option PV:=
 if y<0 then Y
 else match op with| .shl=>Z (.i k (k.wrap (x*2^(min y.toNat k.bits))))| .shr=>Z (.i k (x.fdiv (2^(min y.toNat k.bits))))|_=>Y
def BQ(op:BinOp)(k:IntKind)(x y:Int):Option PV:=
 match op with
 | .add=>Z (.i k (k.wrap (x+y)))
 | .sub=>Z (.i k (k.wrap (x-y)))
 | .mul=>Z (.i k (k.wrap (x*y)))
 | .quo=>if y=0 then Y else Z (.i k (k.wrap (x.tdiv y)))
 | .rem=>if y=0 then Y else Z (.i k (x.tmod y))
 | .and=>Z (.i k (k.wrap (BitVec.ofInt k.bits x&&&BitVec.ofInt k.bits y).toNat))
 | .or=>Z (.i k (k.wrap (BitVec.ofInt k.bits x|||BitVec.ofInt k.bits y).toNat))
 | .xor=>Z (.i k (k.wrap (BitVec.ofInt k.bits x^^^BitVec.ofInt k.bits y).toNat))
 | .eql=>Z (.b (x==y))
 | .neq=>Z (.b (x !=y))
 | .lss=>Z (.b (decide (x<y)))
 | .leq=>Z (.b (decide (x<=y)))
 | .gtr=>Z (.b (decide (x>y)))
 | .geq=>Z (.b (decide (x>=y)))
 |_=>Y
def BX(op:BinOp)(x y:List UInt8):Option PV:=
 match op with
 | .add=>if x.length+y.length<=4611686018427387904 then Z (.s (x++y))else Y
 | .eql=>Z (.b (x==y))
 | .neq=>Z (.b (!(x==y)))
 | .lss=>Z (.b (Op.bytesLess x y))
 | .leq=>Z (.b (Op.bytesLess x y||x==y))
 | .gtr=>Z (.b (!(Op.bytesLess x y||x==y)))
 | .geq=>Z (.b (!Op.bytesLess x y))
 |_=>Y
def kM(op:BinOp)(r:Option Bool):Option AV:=
 match op,r with
 | .eql,Z x=>Z (.p (.b x))
 | .neq,Z x=>Z (.p (.b (!x)))
 |_,_=>Y
def RS:BinOp->Option AV| .eql=>Z .unk| .neq=>Z .unk|_=>Y
def pK(op:BinOp)(t:BT)(x y:AV):Option AV:=
 match t with
 | .plain=>match x,y with
  | .p (.i k a),.p (.i k' c)=>match op with| .shl=>(PB .shl k a c).map .p| .shr=>(PB .shr k a c).map .p|_=>if k=k' then(BQ op k a c).map .p else Y
  | .p (.s a),.p (.s c)=>(BX op a c).map .p
  |_,_=>Y
 | .bool=>match x,y with| .p (.b a),.p (.b c)=>kM op (Z (a==c))|_,_=>Y
 | .flat ks=>match x,y with| .data a,.data c=>kM op (cQ ks a c)|_,_=>Y
 | .nils=>match x with
  | .p (.sl _ _f)=>match _f with|[]=>RS op|_::_=>kM op (Z J)
  | ._r _ _ n=>if n=0 then RS op else kM op (Z J)
  |_=>Y
 | .nilp=>match x with| .p .np=>kM op (Z O)| .ptr _ _=>kM op (Z J)| .cp _ _=>kM op (Z J)| .ep _ _ _ _=>kM op (Z J)|_=>Y
 | .nilf=>match x with| .p .nf=>kM op (Z O)| .fn _ _ _=>kM op (Z J)|_=>Y
def unP(op:UnOp)(x:AV):Option AV:=
 match op,x with
 | .neg,.p (.i k n)=>Z (.p (.i k (k.wrap (0-n))))
 | .xor,.p (.i k n)=>Z (.p (.i k (k.wrap (BitVec.ofInt k.bits (if k.signed then -1 else k.max)^^^BitVec.ofInt k.bits n).toNat)))
 | .not,.p (.b x)=>Z (.p (.b (!x)))
 | .not,.unk=>Z .unk
 |_,_=>Y
def wC:List (List PV)->Option (List UInt8)
 |[]=>Z []
 |[.i .u8 n]::r=>match wC r with|some l=>Z (UInt8.ofNat n.toNat::l)|none=>Y
 |_::_=>Y
def oA(x:UInt8):List PV:=[.i .u8 x.toNat]
def ED(_l:Nat):List (Nat×List PV)->List (List PV)->Option (List (List PV))|[],_f=>Z _f|(i,c)::r,_f=>if c.length=_l/\i<_f.length then ED _l r (_f.set i c)else Y
def rS:List (Nat×Nat×List AV)->List AV->Option (List AV)
 |[],cs=>Z cs
 |(off,size,c)::r,cs=>
  if c.length=size then
   match spl cs off c with
   |some cs'=>rS r cs'
   |none=>Y
  else Y
def ev:Opd->RM AV| .t n=>.slot n .ret| .c x=>.ret x
def evs:List Opd->RM (List AV)|[]=>.ret []|x::r=>(ev x).bind λv=>(evs r).bind λvs=>.ret (v::vs)
def val(x:Option AV):RM Eff:=
 match x with
 |some v=>.ret ⟨v,[]⟩
 |none=>.fail
def fzs:List Opd->RM (List (List PV)×List (Nat×_w))|[]=>.ret ([],[])|x::r=>(ev x).bind λv=>(fz v).bind λa=>(fzs r).bind λc=>.ret (a.1::c.1,a.2++c.2)
def rU(x:Option AV)(top e:Nat):Option Nat:=
 match x with
 |none=>Z e
 |some (.p (.i _ n))=>if 0<=n/\n<=top then Z n.toNat else Y
 |some _=>Y
def evo:Option Opd->RM (Option AV)|none=>.ret Y|some x=>(ev x).bind λv=>.ret (Z v)
def xX(n:Nat)(lo hi:Option AV):Option (Nat×Nat):=
 match rU hi n n with
 |none=>Y
 |some h=>match rU lo h 0 with|none=>Y|some l=>Z (l,h)
def zH(x:AV)(lo hi:Option AV):Option AV:=
 match x with
 | .p (.s l)=>match xX l.length lo hi with|some c=>Z (.p (.s ((l.drop c.1).take (c.2-c.1))))|none=>Y
 |_=>Y
def zE(_l:Nat)(x:AV)(lo hi:Option AV):Option AV:=
 match x with
 | .p (.sl e _f)=>if _l=e then
   match xX _f.length lo hi with
   |some c=>Z (.p (.sl _l ((_f.drop c.1).take (c.2-c.1))))
   |none=>Y
  else Y
 |_=>Y
def TM(_l:Nat)(x:AV)(lo hi:Option AV)(m:AV):Option AV:=
 match x,lo,hi,m with
 | .p (.sl e _f),Y,Z (.p (.i _ h)),.p (.i _ n)=>if _l=e/\h=_f.length/\n=_f.length then Z (.p (.slc _l _f))else Y
 |_,_,_,_=>Y
def mA(k:SK)(x:AV)(lo hi mx:Option AV):Option AV:=
 match mx with
 |some m=>match k with| .str=>Y| .sl _l=>TM _l x lo hi m
 |none=>match k with| .str=>zH x lo hi| .sl _l=>zE _l x lo hi
def UK(_f:List (List PV))(n:Int):Option (List PV):=if 0<=n then _f[n.toNat]? else Y
def mZ(_l:Nat)(x i:AV):RM Eff:=
 match x,i with
 | .p (.sl e _f),.p (.i _ n)=>
  if _l=e then
   match UK _f n with
   |some row=>.ret ⟨.cp row 0,[]⟩
   |none=>.fail
  else .fail
 | ._r b j m,.p (.i _ n)=>.blk b fun
  | .arr _ e _f=>if _l=e/\j+m=_f.length/\0<=n/\n<m then .ret ⟨.ep b _f.length (j+n.toNat) 0,[]⟩else .fail
  |_=>.fail
 |_,_=>.fail
def OV(len _l:Nat)(x i:AV):Option AV:=
 match i with
 | .p (.i _ n)=>
  if 0<=n/\n<len then
   match x with
   | .ptr b off=>Z (.ptr b (off+n.toNat*_l))
   | .cp cs off=>Z (.cp cs (off+n.toNat*_l))
   | .ep b e j off=>Z (.ep b e j (off+n.toNat*_l))
   |_=>Y
  else Y
 |_=>Y
def OO(off:Nat):AV->Option AV| .ptr b o=>Z (.ptr b (o+off))| .cp cs o=>Z (.cp cs (o+off))| .ep b e j o=>Z (.ep b e j (o+off))|_=>Y
def hY(agg:Bool)(size:Nat):AV->RM Eff
 | .cp cs off=>match sub cs off size with|some l=>val (qJ agg l)|none=>.fail
 | .ptr b off=>.blk b fun
  | .box cs=>match sub cs off size with|some l=>val (mD agg l)|none=>.fail
  |_=>.fail
 | .ep b ext i off=>.blk b fun
  | .arr _ _ _f=>if ext=_f.length then
    match _f[i]? with
    |some row=>match sub row off size with|some l=>val (qJ agg l)|none=>.fail
    |none=>.fail
   else .fail
  |_=>.fail
 |_=>.fail
def iC:AV:=.tup []
def jI(size:Nat)(x v:AV):RM Eff:=
 match x with
 | .ptr b off=>.blk b fun
  | .box cs=>match cellsOf v with
   |some l=>if l.length=size then
    match spl cs off l with
    |some cs'=>.ret ⟨iC,[(b,.box cs')]⟩
    |none=>.fail
    else .fail
   |none=>.fail
  |_=>.fail
 | .ep b ext i off=>.blk b fun
  | .arr O _l _f=>if ext=_f.length then
    match _f[i]? with
    |some row=>(fz v).bind λa=>
     if a.1.length=size/\(a.2.all λy=>y.1 !=b)then
      match spl row off a.1 with
      |some e=>.ret ⟨iC,a.2++[(b,.arr O _l (_f.set i e))]⟩
      |none=>.fail
     else .fail
    |none=>.fail
   else .fail
  |_=>.fail
 |_=>.fail
def tE(agg:Bool)(off size:Nat):AV->Option AV
 | .data cs=>match sub cs off size with|some l=>qJ agg l|none=>Y
 | .agg cs=>match sub cs off size with|some l=>mD agg l|none=>Y
 |_=>Y
def TR(i:Nat):AV->Option AV| .tup vs=>vs[i]?|_=>Y
def NC:Bool->AV->Option AV|true,.p (.s l)=>Z (.p (.i I l.length))|false,.p (.sl _ _f)=>Z (.p (.i I _f.length))|false,._r _ _ n=>Z (.p (.i I n))|_,_=>Y
def gL(_l:Nat):AV->RM (List (List PV))
 | .p (.sl e _f)=>if _l=e then .ret _f else .fail
 | .p (.s l)=>if _l=1 then .ret (l.map oA)else .fail
 | ._r b i n=>.blk b fun
  | .arr _ e _f=>if _l=e/\i+n=_f.length then .ret (_f.drop i)else .fail
  |_=>.fail
 |_=>.fail
def sY(n bytes:Nat):Bool:=(2*n+512)*bytes<=281474976710656
def kJ(_l bytes:Nat)(x y:AV):RM Eff:=
 match x with
 | ._r b i n=>.blk b fun
  | .arr w e _f=>(gL _l y).bind λ_m=>
   if _l=e/\i=0/\n=_f.length/\sY (n+_m.length) bytes then
    .ret ⟨._r b 0 (n+_m.length),[(b,.arr w _l (_f++_m))]⟩
   else .fail
  |_=>.fail
 |_=>.fail
def mmP(mx:Bool)(x y:AV):Option AV:=
 match x,y with
 | .p (.i k a),.p (.i _ c)=>Z (.p (.i k (if mx then(if c>a then c else a)else(if c<a then c else a))))
 |_,_=>Y
inductive _z where
 |whole (b:Nat)
 |elem (b ext i:Nat)
 deriving DecidableEq
def _z.id:_z->Nat| .whole b=>b| .elem b _ _=>b
def zF(e:_z)(l:List _z):List _z:=if l.any (λx=>x==e)then l else l++[e]
def dA:AV->List _z->List _z
 | .ptr b _,l=>zF (.whole b) l
 | ._r b _ _,l=>zF (.whole b) l
 | .ep b e i _,l=>zF (.elem b e i) l
 | .fn _ first caps,l=>entsOfL caps (entsOfL first l)
 | .agg cs,l=>entsOfL cs l
 | .tup cs,l=>entsOfL cs l
 |_,l=>l
where
 entsOfL:List AV->List _z->List _z
  |[],l=>l
  |x::r,l=>entsOfL r (dA x l)
def dU(e:_z):List _z->Nat->Option Nat|[],_=>Y|x::r,k=>if x=e then Z k else dU e r (k+1)
def ren(ρ:_z->Option Nat):AV->Option AV
 | .p c=>Z (.p c)
 | .data cs=>Z (.data cs)
 | .cp cs o=>Z (.cp cs o)
 | .unk=>Z .unk
 | .ptr b off=>(ρ (.whole b)).map λk=>.ptr k off
 | .ep b e i off=>(ρ (.elem b e i)).map λk=>.ptr k off
 | ._r b i n=>(ρ (.whole b)).map λk=>._r k i n
 | .fn f first caps=>(renL ρ first).bind λa=>(renL ρ caps).map λc=>.fn f a c
 | .agg cs=>(renL ρ cs).map .agg
 | .tup cs=>(renL ρ cs).map .tup
 | .pre _ _ _=>Y
where
 renL (ρ:_z->Option Nat):List AV->Option (List AV)
  |[]=>Z []
  |x::r=>match ren ρ x,renL ρ r with
   |some y,Z l=>Z (y::l)
   |_,_=>Y
def kU:List Nat->Bool|[]=>O|x::r=> !(r.contains x)&&kU r
def kQ(b:Nat):List (Nat×_w)->Option _w|[]=>Y|(c,x)::r=>match kQ b r with|some y=>Z y|none=>if c=b then Z x else Y
def sQ(ws:List (Nat×_w))(b:Nat):RM _w:=
 .blk b λx=>match kQ b ws with|some y=>.ret y|none=>.ret x
def eU(ws:List (Nat×_w)):List _z->List _z->RM (List _z)
 |[],acc=>.ret acc
 | .whole b::r,acc=>(sQ ws b).bind fun
  | .box cs=>eU ws r (dA.entsOfL cs acc)
  |_=>eU ws r acc
 |_::r,acc=>eU ws r acc
def kI:AV->RM (AV×List (Nat×_w))
 | ._r b i n=>(fz (._r b i n)).bind λa=>match a.1 with|[c]=>.ret (.p c,a.2)|_=>.fail
 | .agg cs=>(fz (.agg cs)).bind λa=>.ret (.data a.1,a.2)
 | .tup _=>.fail
 |v=>.ret (v,[])
def lR:List AV->RM (List AV×List (Nat×_w))|[]=>.ret ([],[])|x::r=>(kI x).bind λa=>(lR r).bind λc=>.ret (a.1::c.1,a.2++c.2)
def CQ(ws:List (Nat×_w))(ρ:_z->Option Nat):_z->RM _w
 | .whole b=>(sQ ws b).bind fun
  | .box cs=>match ren.renL ρ cs with|some l=>.ret (.box l)|none=>.fail
  | .arr w _l _f=>.ret (.arr w _l _f)
  | .dead=>.fail
 | .elem b ext i=>(sQ ws b).bind fun
  | .arr O _ _f=>if ext=_f.length then
    match _f[i]? with
    |some row=>.ret (.box (row.map .p))
    |none=>.fail
   else .fail
  |_=>.fail
def lY(ws:List (Nat×_w))(ρ:_z->Option Nat):List _z->RM (List _w)|[]=>.ret []|e::r=>(CQ ws ρ e).bind λx=>(lY ws ρ r).bind λl=>.ret (x::l)
def bk(es:List _z)(_m:Nat):AV->Option AV
 | .p c=>Z (.p c)
 | .data cs=>Z (.data cs)
 | .cp cs o=>Z (.cp cs o)
 | .unk=>Z .unk
 | .ptr k off=>if k<es.length then
   match es[k]? with
   |some (.whole b)=>Z (.ptr b off)
   |some (.elem b e i)=>Z (.ep b e i off)
   |none=>Y
  else Z (.ptr (_m+(k-es.length)) off)
 | ._r k i n=>if k<es.length then
   match es[k]? with
   |some (.whole b)=>Z (._r b i n)
   |_=>Y
  else Z (._r (_m+(k-es.length)) i n)
 | .ep k e i off=>if k<es.length then
   match es[k]? with
   |some (.whole b)=>Z (.ep b e i off)
   |_=>Y
  else Z (.ep (_m+(k-es.length)) e i off)
 | .fn f first caps=>match bkL es _m first,bkL es _m caps with|some a,Z c=>Z (.fn f a c)|_,_=>Y
 | .agg cs=>match bkL es _m cs with|some l=>Z (.agg l)|none=>Y
 | .tup cs=>match bkL es _m cs with|some l=>Z (.tup l)|none=>Y
 | .pre _ _ _=>Y
where
 bkL (es:List _z) (_m:Nat):List AV->Option (List AV)
  |[]=>Z []
  |x::r=>match bk es _m x,bkL es _m r with
   |some y,Z l=>Z (y::l)
   |_,_=>Y
def vU(ws:List (Nat×_w))(es:List _z)(_m:Nat)(e:_z)(x:_w):RM (Nat×_w):=
 match e,x with
 | .whole b,.box cs=>match bk.bkL es _m cs with|some l=>.ret (b,.box l)|none=>.fail
 | .whole b,.arr w _l _f=>.ret (b,.arr w _l _f)
 | .elem b _ i,.box cs=>(sQ ws b).bind fun
  | .arr w _l _f=>match unp cs with|some row=>.ret (b,.arr w _l (_f.set i row))|none=>.fail
  |_=>.fail
 |_,_=>.fail
def jZ(ws:List (Nat×_w))(es:List _z)(_m:Nat):List _z->List _w->RM (List (Nat×_w))|[],_=>.ret []|e::r,x::l=>(vU ws es _m e x).bind λy=>(jZ ws es _m r l).bind λg=>.ret (y::g)|_::_,[]=>.fail
def iV(es:List _z)(_m:Nat):Nat->List _w->Option (List (Nat×_w))
 |_,[]=>Z []
 |k,.box cs::l=>match bk.bkL es _m cs,iV es _m (k+1) l with|some c,Z e=>Z ((k,.box c)::e)|_,_=>Y
 |k,.arr w _l _f::l=>match iV es _m (k+1) l with|some e=>Z ((k,.arr w _l _f)::e)|none=>Y
 |_,.dead::_=>Y
def jF(F:Orc)(f:FuncId)(args:List AV)(k _m:Nat):RM Eff:=
 (lR args).bind λa=>
 (eU a.2 (dA.entsOfL a.1 []) (dA.entsOfL a.1 [])).bind λh=>
 (eU a.2 h h).bind λes=>
 if kU (es.map _z.id)then
  match ren.renL (λe=>dU e es 0) a.1 with
  |none=>.fail
  |some g=>(lY a.2 (λe=>dU e es 0) es).bind λ_q=>
   match F f g _q with
   |none=>.fail
   |some r=>if r.2.length=es.length+k then
    match bk es _m r.1,iV es _m _m (r.2.drop es.length)with
    |some v,Z fresh=>(jZ a.2 es _m es r.2).bind λj=>.ret ⟨v,a.2++j++fresh⟩
    |_,_=>.fail
    else .fail
 else .fail
def lZ:List (Nat×Nat×Opd)->RM (List (Nat×Nat×List AV))|[]=>.ret []|(off,size,x)::r=>(ev x).bind λv=>match cellsOf v with|some cs=>(lZ r).bind λl=>.ret ((off,size,cs)::l)|none=>.fail
def iR:List (Nat×Nat)->Nat->List (Nat×_w)|[],_=>[]|(_,_l)::r,n=>(n,.arr O _l [])::iR r (n+1)
def nS:List (Nat×Nat)->Nat->List AV->List AV|[],_,cs=>cs|(off,_)::r,n,cs=>nS r (n+1) (cs.set off (._r n 0 0))
def fW:List Bool->List AV->RM (List AV×List (Nat×_w))|_,[]=>.ret ([],[])|[],x::r=>(kI x).bind λa=>(fW [] r).bind λc=>.ret (a.1::c.1,a.2++c.2)|true::m,x::r=>(fW m r).bind λc=>.ret (x::c.1,c.2)|false::m,x::r=>(kI x).bind λa=>(fW m r).bind λc=>.ret (a.1::c.1,a.2++c.2)
def gJ(F:Orc)(f:FuncId)(a:List AV×List (Nat×_w))(k _m:Nat):RM Eff:=
 (eU a.2 (dA.entsOfL a.1 []) (dA.entsOfL a.1 [])).bind λh=>
 (eU a.2 h h).bind λes=>
 if kU (es.map _z.id)then
  match ren.renL (λe=>dU e es 0) a.1 with
  |none=>.fail
  |some g=>(lY a.2 (λe=>dU e es 0) es).bind λ_q=>
   match F f g _q with
   |none=>.fail
   |some r=>if es.length<=r.2.length/\r.2.length<=es.length+k then
    match bk es _m r.1,iV es _m _m (r.2.drop es.length)with
    |some v,Z fresh=>(jZ a.2 es _m es r.2).bind λj=>.ret ⟨v,a.2++j++fresh⟩
    |_,_=>.fail
    else .fail
 else .fail
def _y(F:Orc)(op:AOp)(_m:Nat):RM Eff:=
 match op with
 | .mv x=>(ev x).bind λv=>.ret ⟨v,[]⟩
 | .mkarr _l _=>.ret ⟨._r _m 0 0,[(_m,.arr O _l [])]⟩
 | .pick c a b=>(ev c).bind fun
  | .p (.b x)=>if x then(ev a).bind λv=>.ret ⟨v,[]⟩else(ev b).bind λv=>.ret ⟨v,[]⟩
  |_=>.fail
 | .newbox zero=>.ret ⟨.ptr _m 0,[(_m,.box (zero.map .p))]⟩
 | .box size x=>(ev x).bind λv=>match cellsOf v with|some cs=>if cs.length=size then .ret ⟨.ptr _m 0,[(_m,.box cs)]⟩else .fail|none=>.fail
 | .build zero parts=>(lZ parts).bind λl=>match rS l (zero.map .p)with|some cs=>val (mD O cs)|none=>.fail
 | .lits own _l n zero parts=>(fzs (parts.map (·.2))).bind λa=>
  match ED _l ((parts.map (·.1)).zip a.1) (_P n zero)with
  |some _f=>if own then .ret ⟨._r _m 0 n,a.2++[(_m,.arr O _l _f)]⟩else .ret ⟨.p (.sl _l _f),a.2⟩
  |none=>.fail
 | .load agg size x=>(ev x).bind λv=>hY agg size v
 | .store size x y=>(ev x).bind λa=>(ev y).bind λv=>jI size a v
 | .nilchk x=>(ev x).bind fun
  | .ptr b o=>.ret ⟨.ptr b o,[]⟩
  | .cp cs o=>.ret ⟨.cp cs o,[]⟩
  | .ep b e i o=>.ret ⟨.ep b e i o,[]⟩
  | .fn f u c=>.ret ⟨.fn f u c,[]⟩
  |_=>.fail
 | .bin op t x y=>(ev x).bind λa=>(ev y).bind λc=>val (pK op t a c)
 | .un op x=>(ev x).bind λa=>val (unP op a)
 | .conv k x=>(ev x).bind λa=>match k,a with
  | .int k,.p (.i _ n)=>.ret ⟨.p (.i k (k.wrap n)),[]⟩
  | .same,.p (.s l)=>.ret ⟨.p (.s l),[]⟩
  | ._C,a=>(gL 1 a).bind λ_f=>match wC _f with|some l=>.ret ⟨.p (.s l),[]⟩|none=>.fail
  | .toBytes own,.p (.s l)=>if own then .ret ⟨._r _m 0 l.length,[(_m,.arr O 1 (l.map oA))]⟩else .ret ⟨.p (.sl 1 (l.map oA)),[]⟩
  |_,_=>.fail
 | ._D own _l bytes zero l c=>(ev l).bind λa=>(ev c).bind λd=>match a,d with
  | .p (.i _ n),.p (.i _ m)=>
   if 0<=n/\n<=m/\bytes*m<=281474976710656/\m<=281474976710656 then
    if own then .ret ⟨._r _m 0 n.toNat,[(_m,.arr O _l (_P n.toNat zero))]⟩
    else .ret ⟨.p (.sl _l (_P n.toNat zero)),[]⟩
   else .fail
  |_,_=>.fail
 | .slice k x lo hi mx=>(ev x).bind λa=>(evo lo).bind λlo=>(evo hi).bind λhi=>(evo mx).bind λmx=>
  match a with
  | ._r b i n=>(fz (._r b i n)).bind λy=>match y.1 with
   |[c]=>match mA k (.p c) lo hi mx with|some v=>.ret ⟨v,y.2⟩|none=>.fail
   |_=>.fail
  |a=>val (mA k a lo hi mx)
 | .faddr off x=>(ev x).bind λa=>val (OO off a)
 | .field agg off size x=>(ev x).bind λa=>val (tE agg off size a)
 | .iaddr _l x i=>(ev x).bind λa=>(ev i).bind λc=>mZ _l a c
 | .aaddr len _l x i=>(ev x).bind λa=>(ev i).bind λc=>val (OV len _l a c)
 | .sidx x i=>(ev x).bind λa=>(ev i).bind λc=>match a,c with
  | .p (.s l),.p (.i _ n)=>if 0<=n then
    match l[n.toNat]? with
    |some u=>.ret ⟨.p (.i .u8 u.toNat),[]⟩
    |none=>.fail
   else .fail
  |_,_=>.fail
 | .aidx agg len _l x i=>(ev x).bind λa=>(ev i).bind λc=>match c with| .p (.i _ n)=>if 0<=n/\n<len then val (tE agg (n.toNat*_l) _l a)else .fail|_=>.fail
 | .extr x i=>(ev x).bind λa=>val (TR i a)
 | .call f args k=>(evs args).bind λvs=>jF F f vs k _m
 | .callv g args k=>(ev g).bind fun
  | .fn f first caps=>(evs args).bind λvs=>jF F f (first++vs++caps) k _m
  |_=>.fail
 | .len str x=>(ev x).bind λa=>val (NC str a)
 | .appn _l bytes _ y=>(ev y).bind λc=>(gL _l c).bind λ_f=>
  if sY _f.length bytes then .ret ⟨._r _m 0 _f.length,[(_m,.arr O _l _f)]⟩else .fail
 | .app _l bytes _ x y=>(ev x).bind λa=>(ev y).bind λc=>kJ _l bytes a c
 | .mm mx x y=>(ev x).bind λa=>(ev y).bind λc=>val (mmP mx a c)
 | .mkfn f first caps=>(evs first).bind λa=>(evs caps).bind λc=>.ret ⟨.fn f a c,[]⟩
 | .newboxo zero os=>.ret ⟨.ptr (_m+os.length) 0,iR os _m++[(_m+os.length,.box (nS os _m (zero.map .p)))]⟩
 | .buildo zero parts os=>(lZ parts).bind λl=>match rS l (nS os _m (zero.map .p))with
  |some cs=>match mD O cs with|some v=>.ret ⟨v,iR os _m⟩|none=>.fail
  |none=>.fail
 | .storen _l x=>(ev x).bind λa=>(jI 1 a (._r _m 0 0)).bind λe=>.ret ⟨e.val,(_m,.arr O _l [])::e.ws⟩
 | .callo f keep args k=>(evs args).bind λvs=>(fW keep vs).bind λa=>gJ F f a k _m
def nW:AOp->Nat| .newbox _| .box _ _| .mkarr _ _| .appn _ _ _ _=>1| .lits own _ _ _ _=>if own then 1 else 0| ._D own _ _ _ _ _=>if own then 1 else 0| .conv (.toBytes own) _=>if own then 1 else 0| .call _ _ k| .callv _ _ k| .callo _ _ _ k=>k| .newboxo _ os=>os.length+1| .buildo _ _ os=>os.length| .storen _ _=>1|_=>0
def vQ(_m:Nat):Nat->RM Unit
 |0=>.ret ()
 |k+1=>.blk _m fun
  | .dead=>vQ (_m+1) k
  |_=>.fail
def opD(F:Orc)(op:AOp)(_m:Nat):RM Eff:=(vQ _m (nW op)).bind λ_=>_y F op _m
def cL(F:Orc)(i:cG)(_m:Nat):RM Eff:=
 match i.g with
 |none=>opD F i.op _m
 |some (g,e)=>.slot g fun
  | .p (.b x)=>if x=e then opD F i.op _m else .ret ⟨iC,[]⟩
  | .tup []=>.ret ⟨iC,[]⟩
  |_=>.fail
def put(d:Option Nat)(e:Eff)(s:St):St:=
 match d with
 |some d=>⟨(d,e.val)::s.env,upd e.ws s._o⟩
 |none=>⟨s.env,upd e.ws s._o⟩
def hC(F:Orc):List cG->Nat->St->Option St|[],_,s=>Z s|i::r,_m,s=>match(cL F i _m).run s with|some e=>hC F r (_m+nW i.op) (put i.dst e s)|none=>Y
def kY:List Loc->List Nat|[]=>[]| .blk b::r=>b::kY r|_::r=>kY r
abbrev Log:=List (List Nat×List Nat)
def kW(F:Orc):List cG->Nat->St->Log->Option (St×Log)|[],_,s,l=>Z (s,l)|i::r,_m,s,l=>match(cL F i _m).run s with|some e=>kW F r (_m+nW i.op) (put i.dst e s) (l++[(kY ((cL F i _m).reads s),e.ws.map (·.1))])|none=>Y
def hM(a b:List Nat):Bool:=a.all λx=> !(b.contains x)
def IP(l:Log):List (Nat×Nat)->Bool
 |[]=>O
 |(i,j)::r=>(match l[i]?,l[j]? with
  |some a,Z b=>hM a.2 b.1&&hM a.2 b.2&&hM a.1 b.2
  |_,_=>J)&&IP l r
def news:List cG->Nat|[]=>0|i::r=>nW i.op+news r
def room(n:Nat)(_o:List _w):List _w:=if n=0 then _o else _o++_P n .dead
def region(F:Orc)(pairs:List (Nat×Nat))(ins:List cG)(s:St):Option St:=
 match pairs with
 |[]=>hC F ins s._o.length ⟨s.env,room (news ins) s._o⟩
 |_::_=>match kW F ins s._o.length ⟨s.env,room (news ins) s._o⟩ []with|some (s',l)=>if IP l pairs then Z s' else Y|none=>Y
def restr:List Nat->List (Nat×AV)->List (Nat×AV)|[],_=>[]|k::r,env=>match lk k env with|some v=>(k,v)::restr r env|none=>restr r env
def fG(b:Nat):List Nat->Nat->Option Nat|[],_=>Y|x::r,k=>if x=b then Z k else fG b r (k+1)
def fin(m:Nat)(_p:List Nat)(_o:List _w):AV->Option AV
 | .p c=>Z (.p c)
 | .data cs=>Z (.data cs)
 | .cp cs o=>Z (.cp cs o)
 | .unk=>Z .unk
 | .ptr b off=>if b<m then Z (.ptr b off)else
  match fG b _p m with
  |some k=>Z (.ptr k off)
  |none=>match _o[b]? with|some (.box cs)=>(unp cs).map λq=>.cp q off|_=>Y
 | ._r b i n=>if b<m then Z (._r b i n)else
  match fG b _p m with
  |some k=>Z (._r k i n)
  |none=>match _o[b]? with|some (.arr _ _l _f)=>if i+n=_f.length then Z (.p (.sl _l (_f.drop i)))else Y|_=>Y
 | .ep b e i off=>if b<m then Z (.ep b e i off)else(fG b _p m).map λk=>.ep k e i off
 | .fn f first caps=>match finL m _p _o first,finL m _p _o caps with|some a,Z c=>Z (.fn f a c)|_,_=>Y
 | .agg cs=>match finL m _p _o cs with
  |some l=>match unp l with|some q=>Z (.data q)|none=>Z (.agg l)
  |none=>Y
 | .tup cs=>match finL m _p _o cs with|some l=>Z (.tup l)|none=>Y
 | .pre _ _ _=>Y
where
 finL (m:Nat) (_p:List Nat) (_o:List _w):List AV->Option (List AV)
  |[]=>Z []
  |x::r=>match fin m _p _o x,finL m _p _o r with
   |some y,Z l=>Z (y::l)
   |_,_=>Y
def gY(m:Nat)(_p:List Nat)(_o:List _w):_w->Option _w
 | .dead=>Z .dead
 | .box cs=>match fin.finL m _p _o cs with|some l=>Z (.box l)|none=>Y
 | .arr w _l _f=>Z (.arr w _l _f)
def sS(m:Nat)(_p:List Nat)(_o:List _w):List _w->Option (List _w)|[]=>Z []|x::r=>match gY m _p _o x,sS m _p _o r with|some y,Z l=>Z (y::l)|_,_=>Y
def xS(m:Nat)(_o:List _w):List (Nat×AV)->Option (List (Nat×AV))|[]=>Z []|(k,x)::r=>match fin m [] _o x,xS m _o r with|some y,Z l=>Z ((k,y)::l)|_,_=>Y
def clean(n:Nat)(live:List Nat)(s:St):Option St:=
 if s._o.length=n then Z ⟨restr live s.env,s._o⟩
 else match xS n s._o (restr live s.env),sS n [] s._o (s._o.take n)with|some e,Z l=>Z ⟨e,l⟩|_,_=>Y
def pJ:List xT->RM (List AV)|[]=>.ret []| .tmp t::r=>(RM.slot t .ret).bind λv=>(pJ r).bind λl=>.ret (v::l)| .cell t agg size::r=>(RM.slot t .ret).bind λv=>(hY agg size v).bind λe=>(pJ r).bind λl=>.ret (e.val::l)
def kZ(m:Nat)(fresh:Bool)(_o:List _w):List _z->List Nat
 |[]=>[]
 | .whole b::r=>if b<m then kZ m fresh _o r else
  match _o[b]? with
  |some (.box _)=>b::kZ m fresh _o r
  |some (.arr _ _ _)=>if fresh then b::kZ m fresh _o r else kZ m fresh _o r
  |_=>kZ m fresh _o r
 |_::r=>kZ m fresh _o r
def sT(_o:List _w):List _z->List _z->List _z
 |[],acc=>acc
 | .whole b::r,acc=>match _o[b]? with|some (.box cs)=>sT _o r (dA.entsOfL cs acc)|_=>sT _o r acc
 |_::r,acc=>sT _o r acc
def yU(_o:List _w):List Nat->Option (List _w)|[]=>Z []|b::r=>match _o[b]?,yU _o r with|some x,Z l=>Z (x::l)|_,_=>Y
def one:List AV->AV|[x]=>x|l=>.tup l
def iU(fn:AFn)(m:Nat)(s:St):Option Res:=
 match(pJ fn.res).run s with
 |none=>Y
 |some vs=>
  if s._o.length=m then Z (one vs,s._o)
  else
   match kZ m fn.fresh s._o (sT s._o (dA.entsOfL vs []) (dA.entsOfL vs []))with
   |_p=>if kU _p then
    match fin.finL m _p s._o vs,sS m _p s._o (s._o.take m),yU s._o _p with
    |some ws,Z l,Z q=>match sS m _p s._o q with|some q'=>Z (one ws,l++q')|none=>Y
    |_,_,_=>Y
    else Y
def kL:Nat->List AV->List (Nat×AV)|_,[]=>[]|k,x::r=>(k,x)::kL (k+1) r
structure lN where
 np:Nat
 nt:Nat
 p0:cP
 live:List Nat
 pre:cP
 c:Opd
 a:cP
 b:cP
 rest:cP
 res:List xT
 fresh:Bool
def lN.af(k:lN):AFn:=⟨k.np,k.nt,.seq k.p0 (.br k.live k.pre k.c k.a k.b k.rest),k.res,k.fresh⟩
def uS(f:AFn)(m:Nat)(o:Option Out):Option Res:=
 match o with
 |some (.normal,s)=>iU f m s
 |some (.ret,s)=>iU f m s
 |_=>Y
open Classical in
noncomputable def OD(a b:Option Res):Option Res:=
 match a,b with
 |some r,Z r'=>if r=r' then Z r else Y
 |_,_=>Y
def thn(o:Option Out)(k:St->Option Out):Option Out:=
 match o with
 |some (.normal,s)=>k s
 |o=>o
noncomputable def vJ(R:cP->St->Option Out)(k:lN)(args:List AV)(_q:List _w):Option Res:=
 match R k.p0 ⟨kL 0 args,_q⟩with
 |some (.normal,s0)=>match R k.pre s0 with
  |some (.normal,s1)=>match(ev k.c).run s1 with|some (.p (.b x))=>if x=O then uS k.af _q.length (thn (R k.a s1) λs=>R k.rest s)else uS k.af _q.length (thn (R k.b s1) λs=>R k.rest s)|some .unk=>OD (uS k.af _q.length (thn (R k.a s1) λs=>R k.rest s)) (uS k.af _q.length (thn (R k.b s1) λs=>R k.rest s))|_=>Y
  |_=>Y
 |_=>Y
inductive Entry where|fn (f:AFn)|prim (g:List AV->List _w->Option Res)|fork (k:lN)
abbrev dS:=FuncId->Option Entry
noncomputable def rH(T:dS)(R:cP->St->Option Out)(f:FuncId)(args:List AV)(_q:List _w):Option Res:=
 match T f with
 |none=>Y
 |some (.prim g)=>g args _q
 |some (.fork k)=>if args.length=k.np then vJ R k args _q else Y
 |some (.fn fn)=>
  if args.length=fn.np then
   match R fn.body ⟨kL 0 args,_q⟩with
   |some (.normal,s)=>iU fn _q.length s
   |some (.ret,s)=>iU fn _q.length s
   |_=>Y
  else Y
open Classical in
noncomputable def same(a b:Option Out):Option Out:=
 match a,b with
 |some r,Z r'=>if r=r' then Z r else Y
 |_,_=>Y
def nZ(n:Nat)(live:List Nat)(o:Option Out):Option Out:=
 match o with
 |some (e,s)=>match clean n live s with|some s'=>Z (e,s')|none=>Y
 |none=>Y
noncomputable def step(T:dS)(R:cP->St->Option Out)(c:cP)(s:St):Option Out:=
 match c with
 | .skip=>Z (.normal,s)
 | .bad=>Y
 | .reg _ pairs ins=>match region (rH T R) pairs ins s with|some s'=>Z (.normal,s')|none=>Y
 | .seq a b=>match R a s with|some (.normal,s')=>R b s'|o=>o
 | .cond c a b=>match(ev c).run s with|some (.p (.b x))=>if x=O then R a s else R b s|some .unk=>same (R a s) (R b s)|_=>Y
 | .block id c=>match R c s with|some (.exit k,s')=>if k=id then Z (.normal,s')else Z (.exit k,s')|o=>o
 | .loop live c=>match clean s._o.length live s with|some s'=>R (.lp s._o.length live c) s'|none=>Y
 | .lp n live c=>match R c s with
  |some (.normal,s')=>(match clean n live s' with
   |some e=>R (.lp n live c) e
   |none=>Y)
  |o=>o
 | .scope c=>R c s
 | .exit id=>Z (.exit id,s)
 | .ret=>Z (.ret,s)
 | .keep live c=>R c ⟨restr live s.env,s._o⟩
 | .tidy live c=>nZ s._o.length live (R c s)
 | .br live pre c a b rest=>match R pre s with
  |some (.normal,s1)=>(match(ev c).run s1 with
   |some (.p (.b x))=>if x=O then thn (R a s1) λs=>R rest s else thn (R b s1) λs=>R rest s
   |some .unk=>same (nZ s1._o.length live (thn (R a s1) λs=>R rest s)) (nZ s1._o.length live (thn (R b s1) λs=>R rest s))
   |_=>Y)
  |_=>Y
end Go.Am
end
section
namespace Go.Am
def fV{α:Type}(a b:Option α):Prop:=a=Y\/a=b
theorem dF{α:Type}(a:Option α):fV a a:=.inr rfl
theorem run_bind{α β:Type}(m:RM α)(f:α->RM β)(s:St):(m.bind f).run s=(m.run s).bind λa=>(f a).run s:=by
 induction m with
 |ret a=>rfl
 |slot n k ih=>grind [RM.bind,RM.run]
 |blk b k ih=>grind [RM.bind,RM.run]
 |fail=>rfl
theorem oH{α β:Type}{m:RM α}{f f':α->RM β}{s:St}(h: ∀a,fV ((f a).run s) ((f' a).run s)):fV ((m.bind f).run s) ((m.bind f').run s):=by
 rw[run_bind,run_bind];cases m.run s with
 |none=>exact .inl rfl
 |some a=>exact h a
variable {F F':Orc} (h: ∀f a b,fV (F f a b) (F' f a b))
include h in
theorem Dp(f:FuncId)(args:List AV)(k _m:Nat)(s:St):fV ((jF F f args k _m).run s) ((jF F' f args k _m).run s):=by
 unfold jF;refine oH λa=>oH λg=>oH λes=>?_;split;split;simp[dF];refine oH λ_q=>?_;rcases h f ‹_› _q with e|e;rw[e];exact .inl rfl;grind [dF];simp[dF]
include h in
theorem S1(f:FuncId)(a:List AV×List (Nat×_w))(k _m:Nat)(s:St):fV ((gJ F f a k _m).run s) ((gJ F' f a k _m).run s):=by
 unfold gJ;refine oH λg=>oH λes=>?_;split;split;simp[dF];refine oH λ_q=>?_;rcases h f ‹_› _q with e|e;rw[e];exact .inl rfl;grind [dF];simp[dF]
include h in
theorem JGv(op:AOp)(_m:Nat)(s:St):fV ((_y F op _m).run s) ((_y F' op _m).run s):=by
 cases op<;>try exact dF _
 case call f args k=>exact oH λvs=>Dp h ..
 case callo f keep args k=>exact oH λvs=>oH λa=>S1 h ..
 case callv g args k=>
  refine oH λg=>?_;grind [dF,oH,Dp]
include h in
theorem JGz(op:AOp)(_m:Nat)(s:St):fV ((opD F op _m).run s) ((opD F' op _m).run s):=
 oH λ_=>JGv h ..
include h in
theorem De(i:cG)(_m:Nat)(s:St):fV ((cL F i _m).run s) ((cL F' i _m).run s):=by
 unfold cL;split
 all_goals grind [JGz,RM.run,dF]
theorem AI{α β:Type}(m:RM α)(f:α->RM β)(s:St):(m.bind f).reads s=m.reads s++((m.run s).map λa=>(f a).reads s).getD []:=by
 induction m with
 |ret a=>simp[RM.bind,RM.reads,RM.run]
 |slot n k ih=>grind [RM.bind,RM.reads,RM.run]
 |blk b k ih=>grind [RM.bind,RM.reads,RM.run]
 |fail=>simp[RM.bind,RM.reads,RM.run]
theorem oL{α β:Type}{m:RM α}{f f':α->RM β}{s:St}(h: ∀a,(f a).run s=Y\/(f a).reads s=(f' a).reads s):
  ((m.bind f).run s)=Y\/(m.bind f).reads s=(m.bind f').reads s:=by
 rw[run_bind,AI,AI];cases m.run s<;>simp_all
include h in
theorem Dy(f:FuncId)(args:List AV)(k _m:Nat)(s:St):
  (jF F f args k _m).run s=Y\/(jF F f args k _m).reads s=(jF F' f args k _m).reads s:=by
 unfold jF;refine oL λa=>oL λg=>oL λes=>?_;split;split;exact .inr rfl;refine oL λ_q=>?_;rcases h f ‹_› _q with e|e;rw[e];exact .inl rfl;simp_all;simp_all
include h in
theorem Sw(f:FuncId)(a:List AV×List (Nat×_w))(k _m:Nat)(s:St):
  (gJ F f a k _m).run s=Y\/(gJ F f a k _m).reads s=(gJ F' f a k _m).reads s:=by
 unfold gJ;refine oL λg=>oL λes=>?_;split;split;exact .inr rfl;refine oL λ_q=>?_;rcases h f ‹_› _q with e|e;rw[e];exact .inl rfl;simp_all;simp_all
include h in
theorem JHV(op:AOp)(_m:Nat)(s:St):(_y F op _m).run s=Y\/(_y F op _m).reads s=(_y F' op _m).reads s:=by
 cases op<;>try exact .inr rfl
 case call f args k=>exact oL λvs=>Dy h ..
 case callo f keep args k=>exact oL λvs=>oL λa=>Sw h ..
 case callv g args k=>
  refine oL λg=>?_;grind [oL,Dy]
include h in
theorem JH9(op:AOp)(_m:Nat)(s:St):(opD F op _m).run s=Y\/(opD F op _m).reads s=(opD F' op _m).reads s:=
 oL λ_=>JHV h ..
include h in
theorem JFp(i:cG)(_m:Nat)(s:St):(cL F i _m).run s=Y\/(cL F i _m).reads s=(cL F' i _m).reads s:=by
 unfold cL;split
 all_goals grind [JH9,RM.run,RM.reads]
include h in
theorem JA2(ins:List cG): ∀_m s,fV (hC F ins _m s) (hC F' ins _m s):=by
 induction ins with
 |nil=>exact λ_ _=>dF _
 |cons i r ih=>
  intro _m s;simp only[hC];rcases De h i _m s with e|e;rw[e];exact .inl rfl;grind [dF]
include h in
theorem JA1(ins:List cG): ∀_m s l,fV (kW F ins _m s l) (kW F' ins _m s l):=by
 induction ins with
 |nil=>exact λ_ _ _=>dF _
 |cons i r ih=>
  intro _m s l;simp only[kW];rcases De h i _m s with e|e;rw[e];exact .inl rfl;grind [JFp,dF]
include h in
theorem Ud(pairs:List (Nat×Nat))(ins:List cG)(s:St):fV (region F pairs ins s) (region F' pairs ins s):=by
 unfold region;split;grind [JA2];rcases JA1 h ins s._o.length ⟨s.env,Go.Am.room (news ins) s._o⟩ []with e|e;rw[e];exact .inl rfl;grind [dF]
variable {T:dS} {R R':cP->St->Option Out} (hR: ∀c s,fV (R c s) (R' c s))
include hR in
theorem JCj(k:lN)(args:List AV)(_q:List _w):fV (vJ R k args _q) (vJ R' k args _q):=by
 have ht: ∀x s,fV (uS k.af _q.length (thn (R x s) λs=>R k.rest s)) (uS k.af _q.length (thn (R' x s) λs=>R' k.rest s)):=by
  intro x s;rcases hR x s with e|e;rw[e];exact .inl rfl;rw[e];cases hx:R' x s with
  |none=>exact .inl rfl
  |some o=>
   obtain⟨q,s'⟩:=o;cases q with
   |normal=>
    simp only[thn];rcases hR k.rest s' with e'|e';rw[e'];exact .inl rfl;grind [dF]
   |_=>exact dF _
 unfold vJ;rcases hR k.p0 ⟨kL 0 args,_q⟩with e|e;rw[e];exact .inl rfl;rw[e];split;rename_i s0 _;rcases hR k.pre s0 with e|e;rw[e];exact .inl rfl;rw[e];split;split;grind;rename_i s1 _ _ _;rcases ht k.a s1 with e|e;rw[e];exact .inl rfl;rcases ht k.b s1 with e'|e';rw[e'];unfold OD;exact .inl (by simp_all);grind [dF];simp[dF];simp[dF];simp[dF]
include hR in
theorem JBD(f:FuncId)(a:List AV)(b:List _w):fV (rH T R f a b) (rH T R' f a b):=by
 unfold rH;split;simp[dF];simp[dF];grind [JCj,dF];split;rcases hR ‹AFn›.body ⟨kL 0 a,b⟩with e|e;rw[e];exact .inl rfl;grind [dF];simp[dF]
include hR in
theorem qf(c:cP)(s:St):fV (step T R c s) (step T R' c s):=by
 cases c with
 |bad=>exact .inl rfl
 |skip=>exact dF _
 |reg d pairs ins=>
  simp only[step];rcases Ud (JBD (T:=T) hR) pairs ins s with e|e;rw[e];exact .inl rfl;grind [dF]
 |seq a b=>
  simp only[step];rcases hR a s with e|e;rw[e];exact .inl rfl;grind
 |cond c a b=>
  simp only[step];split;grind;rcases hR a s with e|e;rw[e];exact .inl rfl;rcases hR b s with e'|e';rw[e'];unfold same;exact .inl (by simp_all);grind [dF];simp[dF]
 |block id c=>
  simp only[step];rcases hR c s with e|e;rw[e];exact .inl rfl;grind [dF]
 |loop live c=>
  grind [step,dF]
 |lp n live c=>
  simp only[step];rcases hR c s with e|e;rw[e];exact .inl rfl;grind [dF]
 |scope c=>exact hR _ _
 |exit id=>exact dF _
 |ret=>exact dF _
 |keep live c=>exact hR _ _
 |tidy live c=>
  simp only[step];rcases hR c s with e|e;rw[e];exact .inl rfl;grind [dF]
 |br live pre c a b rest=>
  have ht: ∀x s,fV (thn (R x s) λs=>R rest s) (thn (R' x s) λs=>R' rest s):=(by intro x s;rcases hR x s with e|e;rw[e];exact .inl rfl;rw[e];unfold thn;grind);simp only[step];rcases hR pre s with e|e;rw[e];exact .inl rfl;rw[e];split;split;grind;rename_i s1 _ _ _;rcases ht a s1 with e|e;rw[e];exact .inl rfl;rcases ht b s1 with e'|e';rw[e'];unfold same;exact .inl (by simp[nZ]);grind [dF];simp[dF];simp[dF]
def Ml(T:dS)(M:cP->St->Out->Prop):Prop:= ∀R:cP->St->Option Out,(∀c s r,R c s=Z r->M c s r)-> ∀c s r,step T R c s=Z r->M c s r
def Den(T:dS)(c:cP)(s:St)(r:Out):Prop:= ∀M,Ml T M->M c s r
theorem m5(T:dS):Ml T (Den T):=λR hR c s r h M e=>e R (λc s r h=>hR c s r h M e) c s r h
theorem Py{T:dS}{c:cP}{s:St}{r:Out}(h:Den T c s r): ∃R:cP->St->Option Out,(∀c s r,R c s=Z r->Den T c s r)/\step T R c s=Z r:=
 h (λc s r=> ∃R:cP->St->Option Out,(∀c s r,R c s=Z r->Den T c s r)/\step T R c s=Z r) λR hR c s r hs=>
  ⟨R,λc s r h=>let⟨R',h1,h2⟩:=hR c s r h;m5 T R' h1 c s r h2,hs⟩
theorem JM3{T:dS}{c:cP}{s:St}{r:Out}(h:Den T c s r): ∀r',Den T c s r'->r'=r:=by
 have j:Den T c s r/\ ∀r',Den T c s r'->r'=r:=h (λc s r=>Den T c s r/\ ∀r',Den T c s r'->r'=r) λR hR c s r hs=>by
  refine⟨m5 T R (λc s r h=>(hR c s r h).1) c s r hs,λr' k=>?_⟩;obtain⟨R',n,hs'⟩:=Py k;have b1: ∀c s,fV (R c s) ((R c s).or (R' c s)):=λc s=>by cases hc:R c s<;>simp[fV]
  have b2: ∀c s,fV (R' c s) ((R c s).or (R' c s)):=λc s=>by
   cases hc:R c s with
   |none=>simp[fV]
   |some a=>cases hc':R' c s<;>grind [fV]
  have e:=qf (T:=T) b1 c s;have g:=qf (T:=T) b2 c s;rw[hs]at e;rw[hs']at g;rcases e with e|e;cases e
  ·rcases g with g|g
   all_goals grind
 exact j.2
open Classical in
noncomputable def X(T:dS)(c:cP)(s:St):Option Out:=if h: ∃r,Den T c s r then Z h.choose else Y
theorem OS{T:dS}{c:cP}{s:St}{r:Out}:X T c s=Z r↔Den T c s r:=by
 unfold X;constructor
 ·intro h;split at h
  all_goals grind
 intro h;rw[dif_pos ⟨r,h⟩];grind [JM3]
theorem JRp(T:dS)(motive:cP->St->Out->Prop)
  (h: ∀R:cP->St->Option Out,(∀c s r,R c s=Z r->motive c s r)-> ∀c s r,step T R c s=Z r->motive c s r): ∀c s r,X T c s=Z r->motive c s r:=
 λc s r e=>OS.1 e motive h
theorem nT(T:dS)(c:cP)(s:St):X T c s=step T (X T) c s:=by
 have one: ∀r,step T (X T) c s=Z r->X T c s=Z r:=λr h=>OS.2 (m5 T (X T) (λc s r h=>OS.1 h) c s r h);cases hs:step T (X T) c s with
 |some r=>exact one r hs
 |none=>
  cases hx:X T c s with
  |none=>rfl
  |some r=>
   obtain⟨R,hR,h⟩:=Py (OS.1 hx);have:=qf (T:=T) (R:=R) (R':=X T) (λc s=>by
    cases hc:R c s with
    |none=>exact .inl rfl
    |some a=>right;grind [OS]) c s
   rw[h,hs]at this;rcases this with e|e<;>cases e
noncomputable def AF(T:dS):Orc:=rH T (X T)
end Go.Am
end
section
namespace Go.Am
structure Gh where
 μ:Nat->Option (Nat×Nat)
 C:Nat->Nat->Prop
def cellAt(w:World)(r o:Nat):Option Value:=
 match w.heap[r]? with
 |some (.cells c _ _)=>c[o]?
 |_=>Y
theorem wD(w:World)(r o:Nat):w.cell? ⟨r,o,Y⟩=cellAt w r o:=by
 grind [World.cell?,cellAt]
theorem mF{w:World}{r o:Nat}{c e fz}(h:w.heap[r]?=Z (.cells c e fz)):cellAt w r o=c[o]?:=by
 grind [cellAt]
inductive J0d(w:World)(C:Nat->Nat->Prop):PV->Value->Prop where
 |b (x:Bool):J0d w C (.b x) (.bool x)
 |i (k:IntKind) (n:Int):J0d w C (.i k n) (.int k n)
 |s (l:List UInt8):J0d w C (.s l) (.string ⟨l.toArray⟩)
 |np:J0d w C .np (.pointer Y)
 |nf:J0d w C .nf .nilFunc
 |sl0 (_l:Nat) (a:Option Addr) (cap:Nat):J0d w C (.sl _l []) (.slice a 0 cap)
 |sl (_l:Nat) (_f:List (List PV)) (r o cap:Nat) (vals:Nat->Nat->Value):
  _f.length<=cap->(∀row∈_f,row.length=_l)->
  (∀(i j:Nat) row x,_f[i]?=Z row->row[j]?=Z x->C r (o+i*_l+j)/\cellAt w r (o+i*_l+j)=Z (vals i j))->
  (∀(i j:Nat) row x,_f[i]?=Z row->row[j]?=Z x->J0d w C x (vals i j))->
  J0d w C (.sl _l _f) (.slice (Z ⟨r,o,Y⟩) _f.length cap)
 |slc (_l:Nat) (_f:List (List PV)) (a:Option Addr):J0d w C (.sl _l _f) (.slice a _f.length _f.length)->J0d w C (.slc _l _f) (.slice a _f.length _f.length)
structure Sn where
 σ:List _w
 g:Gh
 w:World
def TN(σ:List _w)(b:Nat):Prop:= ∃cs,σ[b]?=Z (.box cs)
def JRk(s:Sn)(b _l i n:Nat)(v:Value):Prop:=(s.g.μ b=Y/\i=0/\n=0/\v=.slice Y 0 0)\/ ∃r cap c e fz,s.g.μ b=Z (r,0)/\v=.slice (Z ⟨r,i*_l,Y⟩) n cap/\n<=cap/\s.w.heap[r]?=Z (.cells c e fz)/\(i+cap)*_l<=c.size
inductive JH(s:Sn):AV->Value->Prop where
 |p (c v):J0d s.w s.g.C c v->JH s (.p c) v
 |data (cs:List PV) (vs:Array Value):cs.length=vs.size->(∀(i:Nat) x v,cs[i]?=Z x->vs[i]?=Z v->J0d s.w s.g.C x v)->JH s (.data cs) (.agg vs)
 |agg (cs:List AV) (vs:Array Value):cs.length=vs.size->(∀(i:Nat) v,vs[i]?=Z v->v.oneCell'=O)->(∀(i:Nat) x v,cs[i]?=Z x->vs[i]?=Z v->JH s x v)->JH s (.agg cs) (.agg vs)
 |tup (cs:List AV) (vs:Array Value):cs.length=vs.size->(∀(i:Nat) x v,cs[i]?=Z x->vs[i]?=Z v->JH s x v)->JH s (.tup cs) (.tuple vs)
 |ptr (b off r o):s.g.μ b=Z (r,o)->TN s.σ b->JH s (.ptr b off) (.pointer (Z ⟨r,o+off,Y⟩))
 |cp (cs:List PV) (off r o:Nat) (vals:Nat->Value):
  (∀(j:Nat) x,cs[j]?=Z x->s.g.C r (o+j)/\cellAt s.w r (o+j)=Z (vals j))->
  (∀(j:Nat) x,cs[j]?=Z x->J0d s.w s.g.C x (vals j))->JH s (.cp cs off) (.pointer (Z ⟨r,o+off,Y⟩))
 |_r (b i n v wm _l _f):(∃a cap,v=.slice a n cap/\(n=0\/a≠Y))->s.σ[b]?=Z (.arr wm _l _f)->i+n<=_f.length->(i+n=_f.length->JRk s b _l i n v)->JH s (._r b i n) v
 |ep (b ext i off v wm _l _f):(∃r o,v=.pointer (Z ⟨r,o,Y⟩))->s.σ[b]?=Z (.arr wm _l _f)->ext<=_f.length->
  (ext=_f.length->i<ext-> ∃r,s.g.μ b=Z (r,0)/\v=.pointer (Z ⟨r,i*_l+off,Y⟩))->JH s (.ep b ext i off) v
 |pre (b n k v wm _l _f):(∃a cap,v=.slice a k cap)->s.σ[b]?=Z (.arr wm _l _f)->n<=_f.length->k<=n->
  (n=_f.length->(n=0/\v=.slice Y 0 0)\/ ∃r cap c e fz,s.g.μ b=Z (r,0)/\v=.slice (Z ⟨r,0,Y⟩) k cap/\n<=cap/\s.w.heap[r]?=Z (.cells c e fz)/\cap*_l<=c.size)->JH s (.pre b n k) v
 |fn (f:FuncId) (first caps:List AV) (fs cs:Array Value):first.length=fs.size->caps.length=cs.size->
  (∀(i:Nat) x v,first[i]?=Z x->fs[i]?=Z v->JH s x v)->(∀(i:Nat) x v,caps[i]?=Z x->cs[i]?=Z v->JH s x v)->
  JH s (.fn f first caps) (.func (.func f) fs cs)
 |unk (x:Bool):JH s .unk (.bool x)
def Wr1(s:Sn)(b r o:Nat):Prop:=
 match s.σ[b]? with
 |some (.box cs)=> ∃e,s.g.μ b=Z (r,e)/\e<=o/\o<e+cs.length
 |some (.arr O _ _)=> ∃e,s.g.μ b=Z (r,e)
 |some (.arr J _l _f)=> ∃e,s.g.μ b=Z (r,e)/\_f.length*_l<=o
 |_=>False
def Wr(s:Sn)(r o:Nat):Prop:= ∃b,Wr1 s b r o
def GW(fz:Nat×Nat)(a b:Nat):Prop:= ∀o,a<=o->o<b-> ¬(fz.1<=o/\o<fz.2)
def yZ(_l:Nat)(fz:Nat×Nat)(n:Nat):Prop:=GW fz 0 n/\(_l≠1-> ¬(fz.1<=n/\n<fz.2))
theorem yZ.zero(_l n:Nat):yZ _l (0,0) n:=⟨λ_ _ _ h=>by simp at h,λ_ h=>by simp at h⟩
def UT(s:Sn)(b:Nat)(cs:List AV):Prop:= ∃r o c e fz,s.g.μ b=Z (r,o)/\s.w.heap[r]?=Z (.cells c e fz)/\o+cs.length<=c.size/\(∀(i:Nat) x,cs[i]?=Z x-> ∃v,c[o+i]?=Z v/\JH s x v/\v.oneCell'=O)/\GW fz o (o+cs.length)
def UE(s:Sn)(b:Nat)(wm:Bool)(_l:Nat)(_f:List (List PV)):Prop:=(s.g.μ b=Y/\(_f=[]\/wm=J))\/ ∃r c e fz,s.g.μ b=Z (r,0)/\s.w.heap[r]?=Z (.cells c e fz)/\(∀row∈_f,row.length=_l)/\_f.length*_l<=c.size/\(∀(i j:Nat) row x,_f[i]?=Z row->row[j]?=Z x->(∃v,c[i*_l+j]?=Z v/\J0d s.w s.g.C x v)/\(wm=J->s.g.C r (i*_l+j)))/\yZ _l fz c.size
structure Inv(s:Sn):Prop where
 box: ∀b cs,s.σ[b]?=Z (.box cs)->UT s b cs
 arr: ∀b wm _l _f,s.σ[b]?=Z (.arr wm _l _f)->UE s b wm _l _f
 apart: ∀b1 b2 r o,Wr1 s b1 r o->Wr1 s b2 r o->b1=b2
 const: ∀r o,s.g.C r o->r<s.w.heap.size/\ ∀b,¬Wr1 s b r o
def pI(W:Nat->Nat->Prop)(w0 w:World):Prop:=w0.heap.size<=w.heap.size/\(∀(r:Nat) c e fz,w0.heap[r]?=Z (.cells c e fz)-> ∃c',w.heap[r]?=Z (.cells c' e fz)/\c'.size=c.size/\ ∀o,¬W r o->c'[o]?=c[o]?)/\(∀(r:Nat) x,w0.heap[r]?=Z x->(∀c e fz,x≠.cells c e fz)->w.heap[r]?=Z x)/\w.os=w0.os/\w.output=w0.output
structure bK(s0 s:Sn):Prop where
 keep:pI (Wr s0) s0.w s.w
 cmono: ∀r o,s0.g.C r o->s.g.C r o
 cnew: ∀r o,s.g.C r o->s0.g.C r o\/Wr s0 r o\/s0.w.heap.size<=r
 wnew: ∀r o,Wr s r o->Wr s0 r o\/s0.w.heap.size<=r
 len:s0.σ.length<=s.σ.length
 box: ∀b cs,s0.σ[b]?=Z (.box cs)->(∃cs',s.σ[b]?=Z (.box cs')/\cs'.length=cs.length)/\s.g.μ b=s0.g.μ b
 arr: ∀b wm _l _f,s0.σ[b]?=Z (.arr wm _l _f)-> ∃wm' rows',s.σ[b]?=Z (.arr wm' _l rows')/\(wm'=O->wm=O)/\
  _f.length<=rows'.length/\(rows'.length=_f.length->s.g.μ b=s0.g.μ b)
theorem pI.refl(W w):pI W w w:=⟨zQ0 _,λ_ c _ _ h=>⟨c,h,rfl,λ_ _=>rfl⟩,λ_ _ h _=>h,rfl,rfl⟩
theorem pI.mono{W W':Nat->Nat->Prop}{w0 w}(h:pI W w0 w)(hw: ∀r o,W r o->W' r o):pI W' w0 w:=
 ⟨h.1,λr c e fz j=>let⟨c',a,b,d⟩:=h.2.1 r c e fz j;⟨c',a,b,λo g=>d o λx=>g (hw _ _ x)⟩,h.2.2⟩
theorem pI.cell{W w0 w}(h:pI W w0 w){r o v}(hn: ¬W r o)(hv:cellAt w0 r o=Z v):cellAt w r o=Z v:=by
 unfold cellAt at hv;split at hv;rename_i c e fz g;obtain⟨c',h1,_,j⟩:=h.2.1 r c e fz g;grind [mF];cases hv
theorem bK.refl(s:Sn):bK s s:=
 ⟨.refl _ _,λ_ _ h=>h,λ_ _ h=>.inl h,λ_ _ h=>.inl h,zQ0 _,λ_ cs h=>⟨⟨cs,h,rfl⟩,rfl⟩,
  λ_ wm _ _f h=>⟨wm,_f,h,id,zQ0 _,λ_=>rfl⟩⟩
theorem AL{w:World}{r:Nat}{x:Obj}(h:w.heap[r]?=Z x):r<w.heap.size:=by
 grind
theorem bK.trans{s0 s1 C:Sn}(h:bK s0 s1)(g:bK s1 C):bK s0 C where
 keep:=by
  refine⟨zQ1 h.keep.1 g.keep.1,λr c e fz A=>?_,λr x A E=>g.keep.2.2.1 r x (h.keep.2.2.1 r x A E) E,g.keep.2.2.2.1.trans h.keep.2.2.2.1,g.keep.2.2.2.2.trans h.keep.2.2.2.2⟩;obtain⟨k,n,b1,z⟩:=h.keep.2.1 r c e fz A;obtain⟨q,w,b2,y⟩:=g.keep.2.1 r k e fz n;refine⟨q,w,b2.trans b1,λo G=>(y o λj=>?_).trans (z o G)⟩;rcases h.wnew r o j with j|j
  all_goals simp_all
 cmono r o hc:=g.cmono r o (h.cmono r o hc)
 cnew r o hc:=by
  rcases g.cnew r o hc with hc|j|v;exact h.cnew r o hc
  ·rcases h.wnew r o j with j|v
   all_goals simp_all
  exact .inr (.inr (zQ1 h.keep.1 v))
 wnew r o j:=by
  rcases g.wnew r o j with j|v;exact h.wnew r o j;exact .inr (zQ1 h.keep.1 v)
 len:=zQ1 h.len g.len
 box b cs hb:=by obtain⟨⟨k,n,_e⟩,K⟩:=h.box b cs hb;obtain⟨⟨q,w,L⟩,_d⟩:=g.box b k n;simp_all
 arr b wm _l _f hb:=by obtain⟨B,F,n,b1,k,z⟩:=h.arr b wm _l _f hb;obtain⟨D,H,w,b2,q,y⟩:=g.arr b B _l F n;exact⟨D,H,w,λe=>b1 (b2 e),zQ1 k q,λe=>(y (by omega)).trans (z (by omega))⟩
theorem Inv.cfix{s0 s:Sn}(hi:Inv s0)(t:bK s0 s){r o v}(hc:s0.g.C r o)(hv:cellAt s0.w r o=Z v):cellAt s.w r o=Z v:=
 t.keep.cell (fun⟨b,hb⟩=>(hi.const r o hc).2 b hb) hv
theorem J0d.mono{s0 s:Sn}(hi:Inv s0)(t:bK s0 s){x v}(h:J0d s0.w s0.g.C x v):J0d s.w s.g.C x v:=by
 induction h with
 |b x=>exact .b x
 |i k n=>exact .i k n
 |s l=>exact .s l
 |np=>exact .np
 |nf=>exact .nf
 |sl0 _l a cap=>exact .sl0 _l a cap
 |sl _l _f r o cap vals h1 h2 q _ ih=>exact .sl _l _f r o cap vals h1 h2 (λi j row x e y=>⟨t.cmono _ _ (q i j row x e y).1,hi.cfix t (q i j row x e y).1 (q i j row x e y).2⟩) ih
 |slc _l _f a _ ih=>exact .slc _l _f a ih
theorem TN.mono{s0 s:Sn}(t:bK s0 s){b}(h:TN s0.σ b):TN s.σ b:=by obtain⟨cs,h⟩:=h;obtain⟨⟨cs',e,_⟩,_⟩:=t.box b cs h;exact⟨cs',e⟩
theorem JH.mono{s0 s:Sn}(hi:Inv s0)(t:bK s0 s){x v}(h:JH s0 x v):JH s x v:=by
 induction h with
 |p c v h=>exact .p c v (h.mono hi t)
 |data cs vs h1 h2=>exact .data cs vs h1 λi x v w y=>(h2 i x v w y).mono hi t
 |agg cs vs h1 h2 _ ih=>exact .agg cs vs h1 h2 ih
 |tup cs vs h1 _ ih=>exact .tup cs vs h1 ih
 |ptr b off r o h1 h2=>obtain⟨cs,q⟩:=h2;exact .ptr b off r o ((t.box b cs q).2.trans h1) (.mono t ⟨cs,q⟩)
 |cp cs off r o vals h1 h2=>exact .cp cs off r o vals (λj x w=>⟨t.cmono _ _ (h1 j x w).1,hi.cfix t (h1 j x w).1 (h1 j x w).2⟩) λj x w=>(h2 j x w).mono hi t
 |_r b i n v wm _l _f z h1 h2 q=>
  obtain⟨wm',rows',a,_,c,d⟩:=t.arr b wm _l _f h1;refine ._r b i n v wm' _l rows' z a (zQ1 h2 c) λe=>?_;have B:rows'.length=_f.length:=by omega
  rcases q (by omega)with⟨m,H,K,y⟩|⟨r,cap,E,A,fz,m,y,g,D,hs⟩;exact .inl ⟨(d B).trans m,H,K,y⟩;obtain⟨c',C,_e,_⟩:=t.keep.2.1 r E A fz D;exact .inr ⟨r,cap,c',A,fz,(d B).trans m,y,g,C,by omega⟩
 |ep b ext i off v wm _l _f z h1 h2 q=>
  obtain⟨wm',rows',a,_,c,d⟩:=t.arr b wm _l _f h1;refine .ep b ext i off v wm' _l rows' z a (zQ1 h2 c) λe L=>?_;grind
 |pre b n k v wm _l _f z h1 h2 _d q=>
  obtain⟨wm',rows',a,_,c,d⟩:=t.arr b wm _l _f h1;refine .pre b n k v wm' _l rows' z a (zQ1 h2 c) _d λe=>?_;have B:rows'.length=_f.length:=by omega
  rcases q (by omega)with h|⟨r,cap,E,A,fz,m,y,g,D,hs⟩;exact .inl h;obtain⟨c',C,_e,_⟩:=t.keep.2.1 r E A fz D;exact .inr ⟨r,cap,c',A,fz,(d B).trans m,y,g,C,by omega⟩
 |fn f first caps fs cs h1 h2 _ _ F G=>exact .fn f first caps fs cs h1 h2 F G
 |unk x=>exact .unk x
theorem pX{s0 s:Sn}(hi:Inv s0)(t:bK s0 s)(D:Nat->Prop)
  (same: ∀b,¬D b->s.σ[b]?=s0.σ[b]?/\s.g.μ b=s0.g.μ b)
  (k: ∀b r o v,¬D b->Wr1 s0 b r o->cellAt s0.w r o=Z v->cellAt s.w r o=Z v)
  (_c: ∀b cs,D b->s.σ[b]?=Z (.box cs)->UT s b cs)
  (P: ∀b wm _l _f,D b->s.σ[b]?=Z (.arr wm _l _f)->UE s b wm _l _f)
  (M: ∀b1 b2 r o,D b1->Wr1 s b1 r o->Wr1 s b2 r o->b1=b2)
  (n: ∀r o,s.g.C r o->r<s.w.heap.size)
  (H: ∀r o b,s.g.C r o->D b-> ¬Wr1 s b r o)
  (K: ∀r o b,s.g.C r o-> ¬s0.g.C r o-> ¬D b-> ¬Wr1 s0 b r o):Inv s:=by
 have wr: ∀b r o,¬D b->(Wr1 s b r o↔Wr1 s0 b r o):=(by intro b r o hd;obtain⟨h1,h2⟩:=same b hd;grind [Wr1]);have cells: ∀(r:Nat) c e fz,s0.w.heap[r]?=Z (.cells c e fz)-> ∃c',s.w.heap[r]?=Z (.cells c' e fz)/\c'.size=c.size/\ ∀o v,cellAt s.w r o=Z v->c'[o]?=Z v:=(by intro r c e fz h;obtain⟨c',h1,h2,_⟩:=t.keep.2.1 r c e fz h;grind [mF]);refine⟨?_,?_,?_,?_⟩;intro b cs hb;by_cases hd:D b;simp_all;obtain⟨h1,h2⟩:=same b hd;obtain⟨r,o,c,e,fz,m,z,hl,B,hf⟩:=hi.box b cs (h1▸hb);obtain⟨c',q,N,y⟩:=cells r c e fz z;refine⟨r,o,c',e,fz,h2.trans m,q,by omega,λi x E=>?_,hf⟩;obtain⟨v,R,h,G⟩:=B i x E;refine⟨v,y _ _ (k b r (o+i) v hd ?_ (by grind [mF])),h.mono hi t,G⟩;grind [Wr1];intro b wm _l _f hb;by_cases hd:D b;grind;obtain⟨h1,h2⟩:=same b hd;rcases hi.arr b wm _l _f (h1▸hb)with⟨m,h⟩|⟨r,c,e,fz,m,z,A,hl,B,hf⟩;exact .inl ⟨h2.trans m,h⟩;obtain⟨c',q,N,y⟩:=cells r c e fz z;refine .inr ⟨r,c',e,fz,h2.trans m,q,A,by omega,λi j row x _e L=>?_,N▸hf⟩;obtain⟨⟨v,R,h⟩,hc⟩:=B i j row x _e L;refine⟨⟨v,y _ _ ?_,h.mono hi t⟩,λe=>t.cmono _ _ (hc e)⟩;cases wm with
 |true=>
  refine k b r _ v hd ?_ (by grind [mF]);grind [Wr1]
 |false=>exact hi.cfix t (hc rfl) (by grind [mF])
 intro b1 b2 r o h1 h2;by_cases _d:D b1;grind;by_cases F:D b2;grind;exact hi.apart b1 b2 r o ((wr b1 r o _d).1 h1) ((wr b2 r o F).1 h2);intro r o hc;refine⟨n r o hc,λb hb=>?_⟩;by_cases hd:D b;simp_all;by_cases Q:s0.g.C r o;exact(hi.const r o Q).2 b ((wr b r o hd).1 hb);simp_all
end Go.Am
end
section
namespace Go.Am
theorem lJ{σ:List _w}{b:Nat}{x y:_w}(h:σ[b]?=Z x):(σ.set b y)[b]?=Z y:=by
 grind
theorem tR{σ:List _w}{b c:Nat}{y:_w}(h:b≠c):(σ.set b y)[c]?=σ[c]?:=by simp[h]
theorem Bu{s0:Sn}(hi:Inv s0){w':World}(k:w'.heap=s0.w.heap)(ho:w'.os=s0.w.os)(hp:w'.output=s0.w.output):
  Inv ⟨s0.σ,s0.g,w'⟩/\bK s0 ⟨s0.σ,s0.g,w'⟩:=by
 have hc: ∀r o,cellAt w' r o=cellAt s0.w r o:=λr o=>by grind [cellAt]
 have t:bK s0 ⟨s0.σ,s0.g,w'⟩:=by
  refine⟨⟨by simp_all,λr c e fz h=>⟨c,by simp_all,rfl,λ_ _=>rfl⟩,λr x h _=>by simp_all,ho,hp⟩,λ_ _ h=>h,λ_ _ h=>.inl h,λr o ⟨b,hb⟩=>.inl ⟨b,hb⟩,zQ0 _,λ_ cs h=>⟨⟨cs,h,rfl⟩,rfl⟩,
   λ_ wm _ _f h=>⟨wm,_f,h,id,zQ0 _,λ_=>rfl⟩⟩
 exact⟨pX hi t (λ_=>False) (λ_ _=>⟨rfl,rfl⟩) (λ_ r o v _ _ h=>by simp_all) (λ_ _ h=>h.elim) (λ_ _ _ _ h=>h.elim)
  (λ_ _ _ _ h=>h.elim) (λr o h=>by show r<w'.heap.size;rw[k];exact(hi.const r o h).1) (λ_ _ _ _ h=>h.elim) (λ_ _ _ h j=>(j h).elim),t⟩
theorem XF{W:Nat->Nat->Prop}{w w':World}{x:Obj}(j:w'.heap=w.heap.push x)(ho:w'.os=w.os)(hp:w'.output=w.output):pI W w w':=by
 have g: ∀(r:Nat) y,w.heap[r]?=Z y->w'.heap[r]?=Z y:=(by grind);exact⟨by rw[j];simp,λr c e fz h=>⟨c,g r _ h,rfl,λ_ _=>rfl⟩,λr y h _=>g r y h,ho,hp⟩
theorem XE{w w':World}{x:Obj}(e:w'.heap=w.heap.push x):w'.heap[w.heap.size]?=Z x:=by rw[e];simp
theorem pn{w w':World}{x:Obj}(e:w'.heap=w.heap.push x){r o v}(h:cellAt w r o=Z v):cellAt w' r o=Z v:=
 (XF (W:=λ_ _=>False) (w:=w) (w':={w' with os:=w.os,output:=w.output}) e rfl rfl).cell (λh=>h) h
def fT(g:Gh)(_m:Nat)(x:Option (Nat×Nat)):Gh:=⟨λb=>if b=_m then x else g.μ b,g.C⟩
theorem B4{s0 s:Sn}{_m:Nat}{blk:_w}(hd:s0.σ[_m]?=Z .dead)(hs:s.σ=s0.σ.set _m blk)(x:Option (Nat×Nat))(hg:s.g.μ=(fT s0.g _m x).μ):
  s0.σ.length<=s.σ.length/\(∀b cs,s0.σ[b]?=Z (.box cs)->(∃cs',s.σ[b]?=Z (.box cs')/\cs'.length=cs.length)/\s.g.μ b=s0.g.μ b)/\
  (∀b wm _l _f,s0.σ[b]?=Z (.arr wm _l _f)-> ∃wm' rows',s.σ[b]?=Z (.arr wm' _l rows')/\(wm'=O->wm=O)/\
  _f.length<=rows'.length/\(rows'.length=_f.length->s.g.μ b=s0.g.μ b)):=by
 have k: ∀b y,s0.σ[b]?=Z y->y≠.dead->s.σ[b]?=Z y/\s.g.μ b=s0.g.μ b:=by
  intro b y hb j;have h:_m≠b:=by grind
  rw[hs,tR h,hg];exact⟨hb,if_neg (λe=>h e.symm)⟩
 simp_all
def JQt(s0:Sn)(c:Array Value):_w->Prop
 | .box cs=>cs.length<=c.size/\ ∀(i:Nat) x,cs[i]?=Z x-> ∃v,c[i]?=Z v/\JH s0 x v/\v.oneCell'=O
 | .arr O _l _f=>(∀row∈_f,row.length=_l)/\_f.length*_l<=c.size/\
  ∀(i j:Nat) row x,_f[i]?=Z row->row[j]?=Z x-> ∃v,c[i*_l+j]?=Z v/\J0d s0.w s0.g.C x v
 |_=>False
theorem WD{s0:Sn}(hi:Inv s0){_m:Nat}(hd:s0.σ[_m]?=Z .dead){blk:_w}{c:Array Value}{e:TypeId}{fz:Nat×Nat}{w':World}
  (y:w'.heap=s0.w.heap.push (.cells c e fz)) (ho:w'.os=s0.w.os) (hp:w'.output=s0.w.output) (hf:GW fz 0 c.size) (E: ∀wm _l _f,blk=.arr wm _l _f->_l≠1-> ¬(fz.1<=c.size/\c.size<fz.2)) (hb:JQt s0 c blk):
  Inv ⟨s0.σ.set _m blk,fT s0.g _m (Z (s0.w.heap.size,0)),w'⟩/\bK s0 ⟨s0.σ.set _m blk,fT s0.g _m (Z (s0.w.heap.size,0)),w'⟩:=by
 have q:(s0.σ.set _m blk)[_m]?=Z blk:=lJ hd;have wr: ∀b r o,b≠_m->(Wr1 ⟨s0.σ.set _m blk,fT s0.g _m (Z (s0.w.heap.size,0)),w'⟩ b r o↔Wr1 s0 b r o):=by simp_all [Wr1,fT,Ne.symm]
 have N: ∀r o,Wr1 ⟨s0.σ.set _m blk,fT s0.g _m (Z (s0.w.heap.size,0)),w'⟩ _m r o->r=s0.w.heap.size:=(by intro r o h;unfold Wr1 at h;simp only[q,fT]at h;grind);have _c: ∀b r o,Wr1 s0 b r o->r<s0.w.heap.size:=by
  intro b r o h;unfold Wr1 at h;split at h;rename_i cs hb;obtain⟨r',P,c',e',B,m,k,_⟩:=hi.box b cs hb;grind
  ·rename_i hb;obtain⟨K,_e⟩:=h;rcases hi.arr b _ _ _ hb with⟨m,_⟩|⟨r',c',e',B,m,k,_⟩
   all_goals grind
  ·rename_i hb;obtain⟨K,_e,_⟩:=h;rcases hi.arr b _ _ _ hb with⟨m,_⟩|⟨r',c',e',B,m,k,_⟩
   all_goals grind
  exact h.elim
 have t:bK s0 ⟨s0.σ.set _m blk,fT s0.g _m (Z (s0.w.heap.size,0)),w'⟩:=(by obtain⟨G,_d,H⟩:=B4 (s:=⟨s0.σ.set _m blk,fT s0.g _m (Z (s0.w.heap.size,0)),w'⟩) hd rfl (Z (s0.w.heap.size,0)) rfl;refine⟨XF y ho hp,λ_ _ h=>h,λ_ _ h=>.inl h,?_,G,_d,H⟩;rintro r o ⟨b,hb⟩;by_cases e:b=_m;grind;exact .inl ⟨b,(wr b r o e).1 hb⟩);refine⟨pX hi t (λb=>b=_m) (λb A=>⟨tR (Ne.symm A),if_neg A⟩) (λb r o v _ _ h=>pn y h) ?_ ?_ ?_ ?_ ?_ ?_,t⟩;rintro b cs rfl n;rw[q]at n;cases n;obtain⟨h1,h2⟩:=hb;refine⟨s0.w.heap.size,0,c,e,fz,if_pos rfl,XE y,by omega,λi x C=>?_,λo _ hl=>hf o (zQ2 _) (by omega)⟩;obtain⟨v,F,z,D⟩:=h2 i x C;exact⟨v,by simp_all,z.mono hi t,D⟩;rintro b wm _l _f rfl n;rw[q]at n;cases n;cases wm with
 |false=>exact hb.elim
 |true=>obtain⟨h1,h2,L⟩:=hb;refine .inr ⟨s0.w.heap.size,c,e,fz,if_pos rfl,XE y,h1,h2,λi j row x z C=>⟨?_,λh=>by cases h⟩,hf,E _ _ _ rfl⟩;obtain⟨v,F,z⟩:=L i j row x z C;exact⟨v,F,z.mono hi t⟩
 grind;intro r o hc;show r<w'.heap.size;rw[y];have:=(hi.const r o hc).1;simp;omega;rintro r o b hc rfl h;have:=(hi.const r o hc).1;grind;exact λr o b hc M=>(M hc).elim
theorem yX{s0:Sn}(hi:Inv s0): ∀b r o,Wr1 s0 b r o->r<s0.w.heap.size:=by
 intro b r o h;unfold Wr1 at h;split at h;rename_i cs hb;obtain⟨r',n,c',e',e,m,k,_⟩:=hi.box b cs hb;grind
 ·rename_i hb;obtain⟨g,j⟩:=h;rcases hi.arr b _ _ _ hb with⟨m,_⟩|⟨r',c',e',e,m,k,_⟩
  all_goals grind
 ·rename_i hb;obtain⟨g,j,_⟩:=h;rcases hi.arr b _ _ _ hb with⟨m,_⟩|⟨r',c',e',e,m,k,_⟩
  all_goals grind
 exact h.elim
theorem WI{s0:Sn}(hi:Inv s0){_m:Nat}(hd:s0.σ[_m]?=Z .dead)(_l:Nat):
  Inv ⟨s0.σ.set _m (.arr O _l []),fT s0.g _m Y,s0.w⟩/\bK s0 ⟨s0.σ.set _m (.arr O _l []),fT s0.g _m Y,s0.w⟩:=by
 have j:(s0.σ.set _m (_w.arr O _l []))[_m]?=Z (.arr O _l []):=lJ hd;have wr: ∀b r o,b≠_m->(Wr1 ⟨s0.σ.set _m (.arr O _l []),fT s0.g _m Y,s0.w⟩ b r o↔Wr1 s0 b r o):=by simp_all [Wr1,fT,Ne.symm]
 have B: ∀r o,¬Wr1 ⟨s0.σ.set _m (.arr O _l []),fT s0.g _m Y,s0.w⟩ _m r o:=by simp_all [Wr1,fT]
 have t:bK s0 ⟨s0.σ.set _m (.arr O _l []),fT s0.g _m Y,s0.w⟩:=(by obtain⟨q,z,x⟩:=B4 (s:=⟨s0.σ.set _m (.arr O _l []),fT s0.g _m Y,s0.w⟩) hd rfl Y rfl;refine⟨.refl _ _,λ_ _ h=>h,λ_ _ h=>.inl h,?_,q,z,x⟩;rintro r o ⟨b,hb⟩;by_cases e:b=_m;simp_all;exact .inl ⟨b,(wr b r o e).1 hb⟩);refine⟨pX hi t (λb=>b=_m) (λb k=>⟨tR (Ne.symm k),if_neg k⟩) (λb r o v _ _ h=>h) ?_ ?_ ?_ ?_ ?_ ?_,t⟩;simp_all;rintro b wm y _f rfl n;rw[j]at n;cases n;exact .inl ⟨if_pos rfl,.inl rfl⟩;simp_all;exact λr o hc=>(hi.const r o hc).1;simp_all;exact λr o b hc A=>(A hc).elim
def qZ(g:Gh)(p:Nat->Nat->Prop):Gh:=⟨g.μ,λr o=>g.C r o\/p r o⟩
theorem JHJ{s0:Sn}(hi:Inv s0){x:Obj}{w':World}
  (e:w'.heap=s0.w.heap.push x) (ho:w'.os=s0.w.os) (hp:w'.output=s0.w.output):
  Inv ⟨s0.σ,qZ s0.g λr _=>r=s0.w.heap.size,w'⟩/\bK s0 ⟨s0.σ,qZ s0.g λr _=>r=s0.w.heap.size,w'⟩:=by
 have t:bK s0 ⟨s0.σ,qZ s0.g λr _=>r=s0.w.heap.size,w'⟩:=by
  refine⟨XF e ho hp,λ_ _ h=>.inl h,λr o h=>?_,λr o h=>.inl h,zQ0 _,λ_ cs h=>⟨⟨cs,h,rfl⟩,rfl⟩,
   λ_ wm _ _f h=>⟨wm,_f,h,id,zQ0 _,λ_=>rfl⟩⟩
  rcases h with h|h
  all_goals simp_all
 refine⟨pX hi t (λ_=>False) (λ_ _=>⟨rfl,rfl⟩) (λb r o v _ _ h=>pn e h) (λ_ _ h=>h.elim) (λ_ _ _ _ h=>h.elim)
  (λ_ _ _ _ h=>h.elim) ?_ (λ_ _ _ _ h=>h.elim) ?_,t⟩
 intro r o hc;show r<w'.heap.size;rw[e];rcases hc with hc|hc;have:=(hi.const r o hc).1;simp;omega;simp;omega;intro r o b hc j _ h;rcases hc with hc|hc;exact j hc;have:=yX hi b r o h;omega
structure Put(r:Nat)(o:Nat)(vs:List Value)(w w':World):Prop where
 there: ∃c e fz c',w.heap[r]?=Z (.cells c e fz)/\w'.heap[r]?=Z (.cells c' e fz)/\c'.size=c.size/\o+vs.length<=c.size/\
  (∀(j:Nat) v,vs[j]?=Z v->c'[o+j]?=Z v)/\ ∀k,(k<o\/o+vs.length<=k)->c'[k]?=c[k]?
 rest: ∀r':Nat,r'≠r->w'.heap[r']?=w.heap[r']?
 size:w'.heap.size=w.heap.size
 os:w'.os=w.os
 output:w'.output=w.output
theorem Put.keep{W:Nat->Nat->Prop}{r o vs w w'}(h:Put r o vs w w')(hw: ∀k,o<=k->k<o+vs.length->W r k):pI W w w':=by
 obtain⟨c,e,fz,c',h1,h2,v,_,_,q⟩:=h.there;refine⟨Nat.le_of_eq h.size.symm,λr' j z n g=>?_,λr' x g y=>?_,h.os,h.output⟩;by_cases e':r'=r;grind;exact⟨j,by rw[h.rest r' e'];exact g,rfl,λ_ _=>rfl⟩;by_cases e':r'=r;grind;rw[h.rest r' e'];exact g
theorem Put.cell{r o vs w w'}(h:Put r o vs w w'){r' k v}(hv:cellAt w r' k=Z v)(hn:r'≠r\/k<o\/o+vs.length<=k):cellAt w' r' k=Z v:=by
 obtain⟨c,e,fz,c',h1,h2,j,_,_,g⟩:=h.there;by_cases e':r'=r;grind [mF];unfold cellAt;rw[h.rest r' e'];exact hv
inductive my:_w->_w->Prop where|box (cs cs':List AV):cs'.length=cs.length->my (.box cs) (.box cs')|arr (_l:Nat) (_f rows':List (List PV)):rows'.length=_f.length->my (.arr O _l _f) (.arr O _l rows')
theorem o8{s0:Sn}(hi:Inv s0){b:Nat}{old blk:_w}{r o:Nat}{vs:List Value}{w':World}(hb:s0.σ[b]?=Z old)
  (q:Put r o vs s0.w w') (hw: ∀k,o<=k->k<o+vs.length->Wr1 s0 b r k)
  (hk:my old blk)
  (z: ∀cs,blk=.box cs->(∀{x v},JH s0 x v->JH ⟨s0.σ.set b blk,s0.g,w'⟩ x v)->UT ⟨s0.σ.set b blk,s0.g,w'⟩ b cs)
  (A: ∀_l _f,blk=.arr O _l _f->(∀{x v},J0d s0.w s0.g.C x v->J0d w' s0.g.C x v)->UE ⟨s0.σ.set b blk,s0.g,w'⟩ b O _l _f):
  Inv ⟨s0.σ.set b blk,s0.g,w'⟩/\bK s0 ⟨s0.σ.set b blk,s0.g,w'⟩:=by
 have n:(s0.σ.set b blk)[b]?=Z blk:=lJ hb;have wr: ∀j r o,(Wr1 ⟨s0.σ.set b blk,s0.g,w'⟩ j r o↔Wr1 s0 j r o):=by
  intro j r o;by_cases e:j=b;subst e;unfold Wr1;simp only[n,hb];cases hk<;>simp_all
  grind [Wr1]
 have t:bK s0 ⟨s0.σ.set b blk,s0.g,w'⟩:=by
  refine⟨q.keep λk h1 h2=>⟨b,hw k h1 h2⟩,λ_ _ h=>h,λ_ _ h=>.inl h,λr o ⟨j,h⟩=>.inl ⟨j,(wr j r o).1 h⟩,by simp,λj cs h=>?_,λj wm _l _f h=>?_⟩;by_cases e:j=b;subst e;rw[hb]at h;cases h;cases hk<;>simp_all
  grind;by_cases e:j=b;subst e;rw[hb]at h;cases h;cases hk<;>simp_all
  grind
 refine⟨pX hi t (λj=>j=b) (λj y=>⟨tR (Ne.symm y),rfl⟩) ?_ ?_ ?_ ?_ ?_ ?_ ?_,t⟩;intro j r' k v y D E;refine q.cell E ?_;rcases zQ3 k o with h|h;simp_all;rcases zQ3 k (o+vs.length)with B|B;refine .inl λe=>y ?_;subst e;exact hi.apart _ _ _ _ D (hw k h B);simp_all;rintro j cs rfl h;rw[n]at h;cases h;exact z _ rfl λh=>h.mono hi t;rintro j wm _l _f rfl h;rw[n]at h;cases h;cases hk with
 |arr _ _ rows' hl=>exact A _ _ rfl λh=>h.mono hi t
 rintro b1 b2 r o rfl h1 h2;exact hi.apart _ _ _ _ ((wr _ _ _).1 h1) ((wr _ _ _).1 h2);intro r o hc;show r<w'.heap.size;rw[q.size];exact(hi.const r o hc).1;rintro r o j hc rfl h;exact(hi.const r o hc).2 _ ((wr _ _ _).1 h);simp_all
end Go.Am
end
section
namespace Go.Am
theorem qA{a b n e:Nat}(h1:a<n)(h2:b<e):a*e+b<n*e:=by
 have h:(a+1)*e<=n*e:=zQ4 e h1;grind
theorem JE{α:Type}{l:List α}{i:Nat}{x:α}(h:l[i]?=Z x):i<l.length:=by
 grind
theorem XZ{α:Type}{l:Array α}{i:Nat}{x:α}(h:l[i]?=Z x):i<l.size:=by
 grind
theorem mH{α:Type}{l:List α}{i:Nat}{x:α}(h:l[i]?=Z x):x∈l:=zQ5 h
def Frz(σ τ:List _w):Prop:=(∀(b:Nat) wm _l _f,σ[b]?=Z (_w.arr wm _l _f)-> ∃wm',τ[b]?=Z (_w.arr wm' _l _f))/\(∀(b:Nat) x,σ[b]?=Z x->(∀wm _l _f,x≠_w.arr wm _l _f)->τ[b]?=Z x)
theorem Frz.refl(σ):Frz σ σ:=⟨λ_ wm _ _ h=>⟨wm,h⟩,λ_ _ h _=>h⟩
theorem Frz.trans{a b c}(h:Frz a b)(g:Frz b c):Frz a c:=
 ⟨λn wm _l _f e=>let⟨wm',h1⟩:=h.1 n wm _l _f e;g.1 n wm' _l _f h1,λn x e j=>g.2 n x (h.2 n x e j) j⟩
theorem JFj{s0:Sn}(hi:Inv s0){b:Nat}{wm:Bool}{_l:Nat}{_f:List (List PV)}(hb:s0.σ[b]?=Z (.arr wm _l _f)):
  ∃g',g'.μ=s0.g.μ/\Inv ⟨s0.σ.set b (.arr J _l _f),g',s0.w⟩/\bK s0 ⟨s0.σ.set b (.arr J _l _f),g',s0.w⟩/\
   Frz s0.σ (s0.σ.set b (.arr J _l _f)):=by
 have q:(s0.σ.set b (.arr J _l _f))[b]?=Z (.arr J _l _f):=lJ hb;have y:Frz s0.σ (s0.σ.set b (.arr J _l _f)):=by
  refine⟨λn wm' B rows' E=>?_,λn x E H=>?_⟩
  all_goals grind
 cases wm with
 |false=>
  have hs:s0.σ.set b (.arr J _l _f)=s0.σ:=(by apply zQ6;grind);refine⟨s0.g,rfl,?_,?_,y⟩
  all_goals simp_all [bK.refl]
 |true=>
  refine⟨qZ s0.g λr o=>s0.g.μ b=Z (r,0)/\o<_f.length*_l,rfl,?_⟩;have wr: ∀k r o,Wr1 ⟨s0.σ.set b (.arr J _l _f),qZ s0.g λr o=>s0.g.μ b=Z (r,0)/\o<_f.length*_l,s0.w⟩ k r o->Wr1 s0 k r o:=(by intro k r o h;by_cases e:k=b;subst e;unfold Wr1 at h⊢;simp only[q,hb]at h⊢;obtain⟨_e,m,_⟩:=h;exact⟨_e,m⟩;unfold Wr1 at h⊢;simp only[tR (Ne.symm e)]at h;exact h);have t:bK s0 ⟨s0.σ.set b (.arr J _l _f),qZ s0.g λr o=>s0.g.μ b=Z (r,0)/\o<_f.length*_l,s0.w⟩:=(by refine⟨.refl _ _,λ_ _ h=>.inl h,λr o h=>?_,λr o ⟨k,h⟩=>.inl ⟨k,wr k r o h⟩,by simp,λk cs h=>?_,λk wm B rows' h=>?_⟩;rcases h with h|⟨h,_⟩;exact .inl h;refine .inr (.inl ⟨b,?_⟩);grind [Wr1];refine⟨⟨cs,y.2 k _ h (by simp),rfl⟩,rfl⟩;by_cases e:k=b;subst e;rw[hb]at h;injection h with h;injection h with h1 h2 h3;subst h1 h2 h3;exact⟨J,_f,q,by simp,zQ0 _,λ_=>rfl⟩;exact⟨wm,rows',by grind,id,zQ0 _,λ_=>rfl⟩);refine⟨pX hi t (λk=>k=b) (λk z=>⟨tR (Ne.symm z),rfl⟩) (λ_ _ _ _ _ _ h=>h) ?_ ?_ ?_ ?_ ?_ ?_,t,y⟩;simp_all;rintro k wm B rows' rfl h;rw[q]at h;cases h;rcases hi.arr _ _ _ _ hb with⟨m,G⟩|⟨r,c,e,fz,m,F,C,hl,H,hf⟩;exact .inl ⟨m,.inr rfl⟩;refine .inr ⟨r,c,e,fz,m,F,C,hl,λi j row x A D=>?_,hf⟩;obtain⟨⟨v,K,G⟩,_⟩:=H i j row x A D;refine⟨⟨v,K,G.mono hi t⟩,λ_=>.inr ⟨m,?_⟩⟩;have h1:=JE A;have h2:=JE D;rw[C row (mH A)]at h2;simp_all [qA];rintro b1 b2 r o rfl h1 h2;exact hi.apart _ _ _ _ (wr _ _ _ h1) (wr _ _ _ h2)
  ·intro r o hc;rcases hc with hc|⟨hc,_⟩
   exact(hi.const r o hc).1
   ·rcases hi.arr _ _ _ _ hb with⟨m,_⟩|⟨r',c,e,fz,m,F,_⟩
    all_goals grind
  rintro r o k hc rfl h;rcases hc with hc|⟨hc,_d⟩;exact(hi.const r o hc).2 _ (wr _ _ _ h);grind [Wr1];intro r o k hc E z h;rcases hc with hc|⟨hc,_d⟩;exact E hc;refine z (hi.apart _ _ r o h ?_);grind [Wr1]
def lV(s:Sn)(_l:Nat)(_f:List (List PV))(v:Value):Prop:= ∃a cap,v=.slice a _f.length cap/\_f.length<=cap/\(∀row∈_f,row.length=_l)/\(_f=[]\/ ∃r o,a=Z ⟨r,o,Y⟩/\ ∀(i j:Nat) row x,_f[i]?=Z row->row[j]?=Z x-> ∃u,cellAt s.w r (o+i*_l+j)=Z u/\J0d s.w s.g.C x u)
theorem lV.of_sl{s:Sn}{_l _f v}(h:J0d s.w s.g.C (.sl _l _f) v):lV s _l _f v:=by
 cases h with
 |sl0 _ a cap=>exact⟨a,cap,rfl,zQ2 _,(λ_ h=>by cases h),.inl rfl⟩
 |sl _ _ r o cap vals h1 h2 q n=>exact⟨_,cap,rfl,h1,h2,.inr ⟨r,o,rfl,λi j row x e k=>⟨_,(q i j row x e k).2,n i j row x e k⟩⟩⟩
theorem lV.of_slr{s:Sn}(hi:Inv s){b i n v wm _l _f}(h:JH s (._r b i n) v)(hb:s.σ[b]?=Z (.arr wm _l _f))(e:i+n=_f.length):
  lV s _l (_f.drop i) v:=by
 cases h with
 |_r _ _ _ _ wm' z rows' _ h1 h2 B=>
  rw[hb]at h1;injection h1 with h1;injection h1 with a1 a2 a3;subst a1 a2 a3;have hl:(_f.drop i).length=n:=by simp;omega
  rcases B e with⟨m,q,C,w⟩|⟨r,cap,c,H,fz,m,w,y,F,hs⟩;subst q C;have:_f=[]:=by grind
  subst this;exact⟨Y,0,by simp[w],by simp,by simp,.inl rfl⟩;rcases hi.arr b wm _l _f hb with⟨g,_⟩|⟨r',c',e',E,g,D,o,hlen,G,_⟩;simp_all;rw[m]at g;injection g with g;injection g with g _;subst g;refine⟨Z ⟨r,i*_l,Y⟩,cap,by simp_all,by omega,λrow A=>o row (zQ7 A),.inr ⟨r,i*_l,rfl,λk j row x hk _e=>?_⟩⟩;grind [mF]
theorem lV.mono{s0 s:Sn}(hi:Inv s0)(t:bK s0 s){_l _f v}(h:lV s0 _l _f v)(hc: ∀r o u,cellAt s0.w r o=Z u->cellAt s.w r o=Z u):lV s _l _f v:=by obtain⟨a,cap,h1,h2,q,g⟩:=h;refine⟨a,cap,h1,h2,q,g.imp id ?_⟩;rintro⟨r,o,A,y⟩;exact⟨r,o,A,λi j row x n z=>let⟨u,k,e⟩:=y i j row x n z;⟨u,hc _ _ _ k,e.mono hi t⟩⟩
theorem qp{s:Sn}{_l:Nat}{_f:List (List PV)}{v:Value}{a:Option Addr}{cap:Nat}(hv:v=.slice a _f.length cap)(e:_f.length<=cap)
  (h: ∀row∈_f,row.length=_l)
  (hx:_f=[]\/ ∃r o,a=Z ⟨r,o,Y⟩/\ ∀(i j:Nat) row x,_f[i]?=Z row->row[j]?=Z x->s.g.C r (o+i*_l+j)/\ ∃u,cellAt s.w r (o+i*_l+j)=Z u/\J0d s.w s.g.C x u):
  J0d s.w s.g.C (.sl _l _f) v:=by
 subst hv;rcases hx with rfl|⟨r,o,rfl,hx⟩;exact .sl0 _ _ _
 ·refine .sl _l _f r o cap (λi j=>(cellAt s.w r (o+i*_l+j)).getD .nilFunc) e h (λi j row x k n=>?_) λi j row x k n=>?_
  all_goals grind
theorem JI7{s0:Sn}(hi:Inv s0){b i n:Nat}{v:Value}{wm:Bool}{_l:Nat}{_f:List (List PV)}(h:JH s0 (._r b i n) v)(hb:s0.σ[b]?=Z (.arr wm _l _f))
  (e:i+n=_f.length):
  ∃g',Inv ⟨s0.σ.set b (.arr J _l _f),g',s0.w⟩/\bK s0 ⟨s0.σ.set b (.arr J _l _f),g',s0.w⟩/\
   Frz s0.σ (s0.σ.set b (.arr J _l _f))/\J0d s0.w g'.C (.sl _l (_f.drop i)) v:=by
 obtain⟨g',R,q,t,hf⟩:=JFj hi hb;refine⟨g',q,t,hf,?_⟩;have B:=h.mono hi t;have y:(s0.σ.set b (.arr J _l _f))[b]?=Z (.arr J _l _f):=lJ hb;obtain⟨a,cap,h1,h2,K,H⟩:=lV.of_slr q B y e;refine qp (s:=⟨s0.σ.set b (.arr J _l _f),g',s0.w⟩) h1 h2 K (H.imp id ?_);rintro⟨r,o,rfl,L⟩;refine⟨r,o,rfl,λk j row x hk M=>⟨?_,L k j row x hk M⟩⟩;cases B with
 |_r _ _ _ _ wm' z rows' _ _e V _d=>
  have g:(s0.σ.set b (.arr J _l _f))[b]?=Z (.arr wm' z rows'):=_e;rw[y]at g;injection g with g;injection g with a1 a2 a3;subst a1 a2 a3;rcases _d e with⟨m,Q,T,A⟩|⟨r',D,c,U,fz,m,A,E,S,hs⟩;simp_all
  ·rw[h1]at A;injection A with v1 v2 v3;injection v1 with v1;injection v1 with v1 v4;subst v1 v4
   rcases q.arr b J _l _f y with⟨F,_⟩|⟨r',c',e',P,F,_c,G,hlen,N,_⟩
   all_goals grind
end Go.Am
end
section
namespace Go.Am
theorem VY{α:Type}{a b:List α}{i:Nat}{x:α}(h:(a++b)[i]?=Z x):a[i]?=Z x\/(a.length<=i/\b[i-a.length]?=Z x):=by
 grind
def w4(g:Gh)(wm:Bool)(r lo hi:Nat):Gh:=qZ g λr' o=>wm=J/\r'=r/\lo<=o/\o<hi
theorem JLV{s0:Sn}(hi:Inv s0){b:Nat}{wm:Bool}{_l:Nat}{_f _m:List (List PV)}{r:Nat}{vs:List Value}{w':World}
  (hb:s0.σ[b]?=Z (.arr wm _l _f)) (hm:s0.g.μ b=Z (r,0)) (K: ∀row∈_m,row.length=_l)
  (z:Put r (_f.length*_l) vs s0.w w') (hlen:vs.length=_m.length*_l)
  (hx: ∀(i j:Nat) row x,_m[i]?=Z row->row[j]?=Z x-> ∃u,vs[i*_l+j]?=Z u/\J0d s0.w s0.g.C x u):
  Inv ⟨s0.σ.set b (.arr wm _l (_f++_m)),w4 s0.g wm r (_f.length*_l) ((_f.length+_m.length)*_l),w'⟩/\
  bK s0 ⟨s0.σ.set b (.arr wm _l (_f++_m)),w4 s0.g wm r (_f.length*_l) ((_f.length+_m.length)*_l),w'⟩:=by
 have A:(s0.σ.set b (.arr wm _l (_f++_m)))[b]?=Z (.arr wm _l (_f++_m)):=lJ hb;have S:(_f.length+_m.length)*_l=_f.length*_l+_m.length*_l:=zQ8 _ _ _;generalize hs:(⟨s0.σ.set b (.arr wm _l (_f++_m)),w4 s0.g wm r (_f.length*_l) ((_f.length+_m.length)*_l),w'⟩:Sn)=s;have H:s.σ=s0.σ.set b (.arr wm _l (_f++_m)):=by rw[<-hs]
 have T:s.g.μ=s0.g.μ:=by rw[<-hs];rfl
 have B: ∀r' o,s.g.C r' o↔s0.g.C r' o\/(wm=J/\r'=r/\_f.length*_l<=o/\o<(_f.length+_m.length)*_l):=by rw[<-hs];exact λ_ _=>Iff.rfl
 have L:s.w=w':=by rw[<-hs]
 have wr: ∀n r' o,Wr1 s n r' o->Wr1 s0 n r' o:=by
  intro n r' o h;by_cases e:n=b;subst e;unfold Wr1 at h⊢;rw[H,A]at h;rw[hb];cases wm<;>grind
  grind [Wr1]
 have y: ∀o,_f.length*_l<=o->Wr1 s0 b r o:=by intro o ho;unfold Wr1;rw[hb];cases wm<;>simp_all
 have t:bK s0 s:=(by refine⟨?_,λr o h=>(B r o).2 (.inl h),λr' o h=>?_,λr o ⟨n,h⟩=>.inl ⟨n,wr n r o h⟩,by rw[H];simp,λn cs h=>?_,λn wm' _e rows' h=>?_⟩;rw[L];exact z.keep λk h1 _=>⟨b,y k h1⟩;rcases(B r' o).1 h with h|⟨_,e,h,_⟩;exact .inl h;subst e;exact .inr (.inl ⟨b,y o h⟩);grind;by_cases e:n=b;subst e;rw[hb]at h;injection h with h;injection h with h1 h2 Q;subst h1 h2 Q;grind;grind);refine⟨pX hi t (λn=>n=b) (λn D=>⟨by grind,by rw[T]⟩) ?_ ?_ ?_ ?_ ?_ ?_ ?_,t⟩;intro n r' k v D P R;rw[L];refine z.cell R ?_;by_cases F:r'=r;subst F;rcases zQ3 k (_f.length*_l)with h|h;simp_all;exact(D (hi.apart _ _ _ _ P (y k h))).elim;simp_all;simp_all;rintro n wm' _e rows' rfl h;rw[H,A]at h;cases h;obtain⟨c,e,fz,c',U,p2,_a,p4,p5,p6⟩:=z.there;rcases hi.arr _ _ _ _ hb with⟨m,_⟩|⟨r',c0,e0,W,m,G,_d,hl,N,hf⟩;simp_all;rw[hm]at m;injection m with m;injection m with m _;subst m;rw[U]at G;injection G with G;injection G with q1 q2 q3;subst q1 q2 q3;refine .inr ⟨r,c',e,fz,by simp_all,by simp_all,?_,?_,?_,?_⟩;grind;simp_all;intro i j row x q E;rcases VY q with q|⟨_b,q⟩;obtain⟨⟨v,R,M⟩,hc⟩:=N i j row x q E;have h1:=JE q;have h2:=JE E;rw[_d row (mH q)]at h2;have:=qA h1 h2;exact⟨⟨v,by simp_all,M.mono hi t⟩,λe=>(B _ _).2 (.inl (hc e))⟩;obtain⟨u,hu,M⟩:=hx _ j row x q E;have h1:=JE q;have h2:=JE E;rw[K row (mH q)]at h2;have Q:=qA h1 h2;have h4:i*_l+j=_f.length*_l+((i-_f.length)*_l+j):=(by grind [Nat.add_sub_cancel']);refine⟨⟨u,by simp_all,M.mono hi t⟩,λe=>(B _ _).2 (.inr ⟨e,rfl,by omega,by simp_all⟩)⟩;simp_all;rintro b1 b2 r o rfl h1 h2;exact hi.apart _ _ _ _ (wr _ _ _ h1) (wr _ _ _ h2);intro r' o hc;rw[L,z.size];rcases(B r' o).1 hc with hc|⟨_,e,_⟩;exact(hi.const r' o hc).1;subst e;exact yX hi b _ _ (y _ (zQ0 _));rintro r' o n hc rfl h;rcases(B r' o).1 hc with hc|⟨e,F,hlo,_c⟩;exact(hi.const r' o hc).2 _ (wr _ _ _ h);subst e F;unfold Wr1 at h;rw[H,A]at h;grind;intro r' o n hc V D h;rcases(B r' o).1 hc with hc|⟨e,F,hlo,_c⟩;exact V hc;subst F;exact D (hi.apart _ _ _ o h (y o hlo))
theorem JMs{s0:Sn}(hi:Inv s0){b:Nat}{wm:Bool}{_l:Nat}{_f rows':List (List PV)}{c:Array Value}{e:TypeId}{w':World}
  (hb:s0.σ[b]?=Z (.arr wm _l _f)) (_c:_f.length<rows'.length) (_d: ∀row∈rows',row.length=_l)
  (K:w'.heap=s0.w.heap.push (.cells c e (0,0))) (ho:w'.os=s0.w.os) (hp:w'.output=s0.w.output)
  (H:rows'.length*_l<=c.size)
  (hx: ∀(i j:Nat) row x,rows'[i]?=Z row->row[j]?=Z x-> ∃u,c[i*_l+j]?=Z u/\J0d s0.w s0.g.C x u):
  ∃g',g'.μ b=Z (s0.w.heap.size,0)/\Inv ⟨s0.σ.set b (.arr wm _l rows'),g',w'⟩/\bK s0 ⟨s0.σ.set b (.arr wm _l rows'),g',w'⟩:=by
 have y:(s0.σ.set b (.arr wm _l rows'))[b]?=Z (.arr wm _l rows'):=lJ hb;refine⟨⟨λk=>if k=b then Z (s0.w.heap.size,0)else s0.g.μ k,λr o=>s0.g.C r o\/(wm=J/\r=s0.w.heap.size/\o<rows'.length*_l)⟩,if_pos rfl,?_⟩;generalize hs:(⟨s0.σ.set b (.arr wm _l rows'),_,w'⟩:Sn)=s;have E:s.σ=s0.σ.set b (.arr wm _l rows'):=by rw[<-hs]
 have Q: ∀k,s.g.μ k=if k=b then Z (s0.w.heap.size,0)else s0.g.μ k:=by grind
 have q: ∀r' o,s.g.C r' o↔s0.g.C r' o\/(wm=J/\r'=s0.w.heap.size/\o<rows'.length*_l):=by rw[<-hs];simp_all
 have L:s.w=w':=by rw[<-hs]
 have wr: ∀k r' o,k≠b->(Wr1 s k r' o↔Wr1 s0 k r' o):=by simp_all [Wr1,Ne.symm]
 have D: ∀r' o,Wr1 s b r' o->r'=s0.w.heap.size/\(wm=J->rows'.length*_l<=o):=(by grind [Wr1]);have t:bK s0 s:=(by refine⟨?_,λr o h=>(q r o).2 (.inl h),λr' o h=>?_,λr o ⟨k,h⟩=>?_,by rw[E];simp,λk cs h=>?_,λk wm' B rows' h=>?_⟩;grind [XF];grind;by_cases n:k=b;grind;exact .inl ⟨k,(wr k r o n).1 h⟩;grind;by_cases n:k=b;subst n;rw[hb]at h;injection h with h;injection h with h1 h2 F;subst h1 h2 F;exact⟨wm,rows',by simp_all,id,by omega,λh=>by omega⟩;grind);refine⟨pX hi t (λk=>k=b) (λk G=>⟨by grind,by simp_all⟩) (λb r o v _ _ h=>by grind [pn]) ?_ ?_ ?_ ?_ ?_ ?_,t⟩;simp_all;rintro k wm' B rows' rfl h;rw[E,y]at h;cases h;refine .inr ⟨s0.w.heap.size,c,e,(0,0),by simp_all,by simp_all,?_,by simp_all,?_,yZ.zero _ _⟩;grind;intro i j row x z A;obtain⟨u,N,M⟩:=hx i j row x z A;refine⟨⟨u,N,M.mono hi t⟩,λ_e=>(q _ _).2 (.inr ⟨_e,rfl,?_⟩)⟩;have h1:=JE z;have h2:=JE A;have F:row.length=_l:=(by grind);simp_all [qA];rintro b1 b2 r o rfl h1 h2;by_cases n:b2=b1;exact n.symm;have:=yX hi _ _ _ ((wr b2 r o n).1 h2);grind;intro r' o hc;rw[L,K];rcases(q r' o).1 hc with hc|⟨_,hc,_⟩;have:=(hi.const r' o hc).1;simp;omega;simp;omega;rintro r' o k hc rfl h;have h1:=D _ _ h;rcases(q r' o).1 hc with hc|⟨R,hc,ho⟩;have:=(hi.const r' o hc).1;omega;grind;intro r' o k hc G P h;rcases(q r' o).1 hc with hc|⟨_,hc,_⟩;exact G hc;have:=yX hi _ _ _ h;omega
theorem JJE{s0:Sn}(hi:Inv s0){b:Nat}{wm:Bool}{_l:Nat}{_f _m:List (List PV)}{c:Array Value}{e:TypeId}{w':World}
  (hb:s0.σ[b]?=Z (.arr wm _l _f)) (o:_m≠[]) (k: ∀row∈_f,row.length=_l) (n: ∀row∈_m,row.length=_l)
  (r:w'.heap=s0.w.heap.push (.cells c e (0,0))) (ho:w'.os=s0.w.os) (hp:w'.output=s0.w.output)
  (h:(_f.length+_m.length)*_l<=c.size)
  (hx: ∀(i j:Nat) row x,(_f++_m)[i]?=Z row->row[j]?=Z x-> ∃u,c[i*_l+j]?=Z u/\J0d s0.w s0.g.C x u):
  ∃g',g'.μ b=Z (s0.w.heap.size,0)/\Inv ⟨s0.σ.set b (.arr wm _l (_f++_m)),g',w'⟩/\bK s0 ⟨s0.σ.set b (.arr wm _l (_f++_m)),g',w'⟩:=
 have q:0<_m.length:=List.length_pos_iff.2 o
 JMs hi hb (by simp;omega) (λrow v=>(zQ9.1 v).elim (k row) (n row)) r ho hp (by simpa using h) hx
end Go.Am
end
section
namespace Go.Am
def okP:PV->Value->Bool| .b x,.bool y=>x==y| .i k n,.int k' e=>k==k'&&n==e| .s l,.string g=>l==g.data.toList| .sl _ [],.slice Y 0 0=>O| .np,.pointer Y=>O| .nf,.nilFunc=>O|_,_=>J
def BY:List PV->List Value->Bool|[],[]=>O|x::xs,v::vs=>okP x v&&BY xs vs|_,_=>J
def okC:AV->Value->Bool| .p c,v=>okP c v| .data cs,.agg vs=>BY cs vs.toList| .fn f [] [],.func (.func g) a c=>f==g&&a.isEmpty&&c.isEmpty| .tup [],.tuple vs=>vs.isEmpty|_,_=>J
def cD:Opd->Operand->Bool| .t n,.tmp m=>n==m| .c x,.const v=>okC x v| .c (.fn f [] []),.func g=>f==g|_,_=>J
def jU:List Opd->List Operand->Bool|[],[]=>O|x::xs,y::e=>cD x y&&jU xs e|_,_=>J
def zA:Option Opd->Option Operand->Bool|none,Y=>O|some x,Z y=>cD x y|_,_=>J
section
variable (P:Program)
def szT(t:TypeId):Option Nat:=(P.info? t).map (·.size)
def byT(t:TypeId):Option Nat:=(P.info? t).map (·.bytes)
def zeT(t:TypeId):Option Value:=(P.info? t).bind (·.zero)
def CC:TypeDesc->Bool| .struct _| .array _ _=>O|_=>J
def agT(t:TypeId):Option Bool:=(P.underlying t).map CC
def elT(t:TypeId):Option TypeId:=match P.underlying t with|some (.slice e)=>Z e|_=>Y
def lX(t:TypeId):Bool:=match P.underlying t with|some .string=>O|_=>J
def fp(t:TypeId):Bool:=match P.underlying t with|some (.int .u8)=>O|_=>J
def kp(t:TypeId):Bool:=match P.underlying t with|some .bool=>O|_=>J
def xy(t:TypeId):Bool:=match P.underlying t with|some (.int _)=>O|_=>J
def j3(k:IntKind)(t:TypeId):Bool:=match P.underlying t with|some (.int k')=>k==k'|_=>J
def arT(t:TypeId):Option (Nat×TypeId):=match P.underlying t with|some (.array n e)=>Z (n,e)|_=>Y
def flT(t:TypeId):Option (Array Field):=match P.underlying t with|some (.struct fs)=>Z fs|_=>Y
def QB(K:TypeId->Option (List KD)):Nat->List Field->Option (List KD)
 |_,[]=>Z []
 |off,f::fs=>
  if f.name= "_" ∨f.offset≠off then none
  else match K f.type with
   |none=>Y
   |some ks=>if szT P f.type=Z ks.length/\0<ks.length then
    match QB K (off+ks.length) fs with
    |some l=>Z (ks++l)
    |none=>Y
    else Y
def rG:Nat->TypeId->Option (List KD)
 |0,_=>Y
 |d+1,t=>match P.underlying t with
  |some .bool=>Z [.b]
  |some (.int k)=>Z [.i k]
  |some .string=>Z [.s]
  |some (.struct fs)=>if P.stoodInHeld t then Y else QB P (rG d) 0 fs.toList
  |some (.array n e)=>match rG d e with|some ks=>if szT P e=Z ks.length/\0<ks.length then Z (_P n ks).flatten else Y|none=>Y
  |_=>Y
def L1(t:TypeId):Operand->Bool| .const (.slice Y 0 0)=>(elT P t).isSome|_=>J
def Mq(t:TypeId):Operand->Bool
 | .const (.pointer Y)=>(match P.underlying t with|some (.pointer _)=>O|_=>J)
 |_=>J
def Km(t:TypeId):Operand->Bool
 | .const .nilFunc=>(match P.underlying t with|some (.func _ _ _)=>O|_=>J)
 |_=>J
def pM(zero:List PV)(t:TypeId):Bool:=match zeT P t with|some v=>BY zero v.cells.toList|none=>J
def UH(t:TypeId)(os:List (Nat×Nat)):Bool:=match zeT P t with
 |some v=>os.all λx=>match v.cells[x.1]? with|some (.slice Y 0 0)=>O|_=>J
 |none=>J
def tP(place:Nat->Option (Nat×Nat)):List (Nat×Nat×Opd)->List (Nat×Operand)->Bool|[],[]=>O|(off,size,x)::r,(i,y)::q=>place i==Z (off,size)&&cD x y&&tP place r q|_,_=>J
def IG(fs:Array Field)(i:Nat):Option (Nat×Nat):=match fs[i]? with|some f=>(szT P f.type).map λn=>(f.offset,n)|none=>Y
def OT:List (Nat×Opd)->List (Nat×Operand)->Bool|[],[]=>O|(i,x)::r,(j,y)::q=>i==j&&cD x y&&OT r q|_,_=>J
def bG(F:AOp)(op:Op):Bool:=
 match F with
 | .mv x=>match op with| .move y| .assign y=>cD x y|_=>J
 | .mkarr _ x=>match op with
  | .move (.const (.slice Y 0 0))| .assign (.const (.slice Y 0 0))=>(match x with| .c _=>O|_=>J)
  |_=>J
 | .pick c a b=>match op with| .pick c' a' E=>cD c c'&&cD a a'&&cD b E|_=>J
 | .newbox zero=>match op with| .alloc t=>pM P zero t|_=>J
 | .box _ x=>match op with| .box _ y=>cD x y|_=>J
 | .build zero parts=>match op with
  | .build t ps=>pM P zero t&&(match P.underlying t with
   |some (.struct fs)=>(fs.all λf=>(szT P f.type).isSome)&&tP (IG P fs) parts ps.toList
   |some (.array _ e)=>(match szT P e with
    |some n=>tP (λi=>Z (i*n,n)) parts ps.toList
    |none=>J)
   |_=>J)
  |_=>J
 | .lits _ _l n zero parts=>match op with
  | .buildSlice t len ps=>len==n&&(match elT P t with
   |some e=>szT P e==Z _l&&decide (n*_l<=16777216)&&pM P zero e&&zero.length==_l&&decide (0<_l)&&OT parts ps.toList
   |none=>J)
  |_=>J
 | .load agg size x=>match op with| .load t y=>agT P t==Z agg&&szT P t==Z size&&cD x y&&(agg||size==1)|_=>J
 | .store size x v=>match op with| .store t y u=>szT P t==Z size&&cD x y&&cD v u|_=>J
 | .nilchk x=>match op with| .nilCheck y=>cD x y|_=>J
 | .bin H bt x y=>match op with
  | .binOp A t o h _=>H==A&&cD x o&&(match bt with
   | .plain=>cD y h
   | .bool=>cD y h&&kp P t
   | .flat ks=>cD y h&&rG P 100 t==Z ks&&agT P t==Z O&& !P.eqGuardType P.depth t
   | .nils=>L1 P t h
   | .nilp=>Mq P t h
   | .nilf=>Km P t h)
  |_=>J
 | .un G x=>match op with| .unOp B _ y=>G==B&&cD x y|_=>J
 | .conv k x=>match op with
  | .convert q dst y=>cD x y&&(match k with
   | .int k=>xy P q&&j3 P k dst
   | .same=>lX P q&&lX P dst
   | ._C=>(match elT P q with|some e=>fp P e&&szT P e==Z 1|none=>J)&&lX P dst
   | .toBytes _=>lX P q&&(match elT P dst with|some e=>fp P e&&szT P e==Z 1|none=>J))
  |_=>J
 | ._D _ _l bytes zero l c=>match op with
  | .makeSlice t l' c'=>cD l l'&&cD c c'&&(match elT P t with
   |some e=>szT P e==Z _l&&byT P e==Z bytes&&pM P zero e&&zero.length==_l&&decide (0<_l)&&decide (0<bytes)
   |none=>J)
  |_=>J
 | .slice k x lo hi mx=>match op with
  | .slice t o C z D=>cD x o&&zA lo C&&zA hi z&&zA mx D&&(match k with
   | .str=>lX P t
   | .sl _l=>(match elT P t with|some e=>szT P e==Z _l|none=>J))
  |_=>J
 | .faddr off x=>match op with
  | .fieldAddr t y f=>cD x y&&(match flT P t with
   |some fs=>(match fs[f]? with
    |some f=>f.offset==off&&(match szT P f.type with|some n=>n !=0|none=>J)
    |none=>J)
   |none=>J)
  |_=>J
 | .field agg off size x=>match op with
  | .field t y f=>cD x y&&(match flT P t with
   |some fs=>(match fs[f]? with
    |some f=>f.offset==off&&szT P f.type==Z size&&agT P f.type==Z agg&&(agg||size==1)
    |none=>J)
   |none=>J)
  |_=>J
 | .iaddr _l x i=>match op with
  | .indexAddr t y j=>cD x y&&cD i j&&(match elT P t with|some e=>szT P e==Z _l|none=>J)
  |_=>J
 | .aaddr len _l x i=>match op with
  | .indexAddr t y j=>cD x y&&cD i j&&(match arT P t with|some (n,e)=>n==len&&szT P e==Z _l|none=>J)
  |_=>J
 | .sidx x i=>match op with| .index t y j=>cD x y&&cD i j&&lX P t|_=>J
 | .aidx agg len _l x i=>match op with
  | .index t y j=>cD x y&&cD i j&&(match arT P t with|some (n,e)=>n==len&&szT P e==Z _l&&agT P e==Z agg&&(agg||_l==1)|none=>J)
  |_=>J
 | .extr x i=>match op with| .extract y j=>cD x y&&i==j|_=>J
 | .call f args _=>match op with
  | .call c=>(match c.callee with
   | .value (.func g)=>f==g&&jU args c.args.toList
   |_=>J)
  |_=>J
 | .callv x args _=>match op with
  | .call c=>(match c.callee with
   | .value y=>cD x y&&jU args c.args.toList
   |_=>J)
  |_=>J
 | .len str x=>match op with
  | .call c=>(match c.callee with
   | .builtin .len=>(match c.args.toList,c.argTypes.toList with
    |[y],[t]=>cD x y&&(if str then lX P t else(elT P t).isSome)
    |_,_=>J)
   |_=>J)
  |_=>J
 | .appn _l bytes zero y=>match op with
  | .call c=>(match c.callee with
   | .builtin .append=>(match c.args.toList,c.argTypes.toList with
    |[.const (.slice Y 0 0),h],[t,u]=>cD y h&&((elT P u).isSome||lX P u)&&(match elT P t with
     |some e=>szT P e==Z _l&&byT P e==Z bytes&&pM P zero e&&zero.length==_l&&decide (0<_l)&&decide (0<bytes)
     |none=>J)
    |_,_=>J)
   |_=>J)
  |_=>J
 | .app _l bytes zero x y=>match op with
  | .call c=>(match c.callee with
   | .builtin .append=>(match c.args.toList,c.argTypes.toList with
    |[o,h],[t,u]=>cD x o&&cD y h&&((elT P u).isSome||lX P u)&&(match elT P t with
     |some e=>szT P e==Z _l&&byT P e==Z bytes&&pM P zero e&&zero.length==_l&&decide (0<_l)&&decide (0<bytes)
     |none=>J)
    |_,_=>J)
   |_=>J)
  |_=>J
 | .mm mx x y=>match op with
  | .call c=>(match c.callee with
   | .builtin b=>b==(if mx then .max else .min)&&(match c.args.toList with
    |[o,h]=>cD x o&&cD y h
    |_=>J)
   |_=>J)
  |_=>J
 | .newboxo zero os=>match op with| .alloc t=>pM P zero t&&UH P t os|_=>J
 | .buildo zero parts os=>match op with
  | .build t ps=>pM P zero t&&UH P t os&&(match P.underlying t with
   |some (.struct fs)=>(fs.all λf=>(szT P f.type).isSome)&&tP (IG P fs) parts ps.toList
   |_=>J)
  |_=>J
 | .storen _ x=>match op with| .store t y (.const (.slice Y 0 0))=>szT P t==Z 1&&cD x y|_=>J
 | .callo f _ args _=>match op with
  | .call c=>(match c.callee with
   | .value (.func g)=>f==g&&jU args c.args.toList
   |_=>J)
  |_=>J
 | .mkfn f first caps=>match op with
  | .makeFunc (.func g) r w=>f==g&&jU first r.toList&&jU caps w.toList
  |_=>J
end
end Go.Am
end
section
namespace Go.Am
def get(s:St):Loc->Option (AV⊕_w)| .slot n=>(lk n s.env).map .inl| .blk b=>(s._o[b]?).map .inr
theorem JHB{α:Type}(m:RM α)(s s':St)(h: ∀l∈m.reads s,get s' l=get s l):m.run s'=m.run s:=by
 induction m with
 |ret a=>rfl
 |slot n k ih=>
  have e:=h (.slot n) (by simp[RM.reads]);grind [get,RM.run,RM.reads]
 |blk b k ih=>
  have e:=h (.blk b) (by simp[RM.reads]);grind [get,RM.run,RM.reads]
 |fail=>rfl
theorem AH{b:Nat}: ∀{ws:List (Nat×_w)},b∉ws.map (·.1)->kQ b ws=Y
 |[],_=>rfl
 |(c,x)::r,h=>by
  simp at h;simp only[kQ];rw[AH (by simpa using h.2)];grind
theorem Do{b:Nat}: ∀{ws:List (Nat×_w)},b∈ws.map (·.1)-> ∃y,kQ b ws=Z y
 |[],h=>by simp at h
 |(c,x)::r,h=>by
  simp only[kQ];by_cases e:b∈r.map (·.1);obtain⟨y,g⟩:=Do e;simp_all;simp_all [AH]
theorem DR: ∀(ws:List (Nat×_w)) (σ:List _w),(upd ws σ).length=σ.length|[],_=>rfl|y::ws,σ=>by show(upd ws (σ.set y.1 y.2)).length=_;rw[DR ws];simp
theorem zO: ∀(ws:List (Nat×_w)) (σ:List _w) (b:Nat),b<σ.length->(upd ws σ)[b]?=match kQ b ws with
  |some y=>Z y
  |none=>σ[b]?
 |[],σ,b,_=>rfl
 |(c,x)::ws,σ,b,h=>by
  show(upd ws (σ.set c x))[b]?=_;rw[zO ws (σ.set c x) b (by simpa using h)];grind [kQ]
structure Run(F:Orc)(ins:List cG)(_m:Nat->Nat)(S:Nat->St)(eff:Nat->Eff):Prop where
 step: ∀k i,ins[k]?=Z i->(cL F i (_m k)).run (S k)=Z (eff k)/\S (k+1)=put i.dst (eff k) (S k)
structure UF(F:Orc)(ins:List cG)(_m:Nat->Nat)(S:Nat->St)(eff:Nat->Eff)(i j:Nat):Prop where
 slotW: ∀x y m,ins[i]?=Z x->ins[j]?=Z y->x.dst=Z m->y.dst≠Z m/\Loc.slot m∉(cL F y (_m j)).reads (S j)
 slotR: ∀x y m,ins[i]?=Z x->ins[j]?=Z y->y.dst=Z m->Loc.slot m∉(cL F x (_m i)).reads (S i)
 blkW: ∀y b,ins[j]?=Z y->b∈(eff i).ws.map (·.1)->b∉(eff j).ws.map (·.1)/\Loc.blk b∉(cL F y (_m j)).reads (S j)
 blkR: ∀x b,ins[i]?=Z x->b∈(eff j).ws.map (·.1)->Loc.blk b∉(cL F x (_m i)).reads (S i)
section
variable {F:Orc} {ins:List cG} {_m:Nat->Nat} {S:Nat->St} {eff:Nat->Eff}
def yY(ins:List cG)(k:Nat):Option Nat:=(ins[k]?).bind (·.dst)
def rC(ins:List cG)(eff:Nat->Eff)(s0:St)(D:Nat->Bool):Nat->Nat->Option AV|0,m=>lk m s0.env|k+1,m=>if D k=O/\yY ins k=Z m then Z (eff k).val else rC ins eff s0 D k m
def pL(eff:Nat->Eff)(s0:St)(D:Nat->Bool):Nat->Nat->Option _w
 |0,b=>s0._o[b]?
 |k+1,b=>if D k=O then(match kQ b (eff k).ws with
  |some y=>Z y
  |none=>pL eff s0 D k b)else pL eff s0 D k b
structure Agree(ins:List cG)(eff:Nat->Eff)(s0:St)(D:Nat->Bool)(s:St):Prop where
 slot: ∀m,lk m s.env=rC ins eff s0 D ins.length m
 len:s._o.length=s0._o.length
 blk: ∀b,b<s0._o.length->s._o[b]?=pL eff s0 D ins.length b
theorem WB(hr:Run F ins _m S eff): ∀k,k<=ins.length->(S k)._o.length=(S 0)._o.length
 |0,_=>rfl
 |k+1,h=>by
  have hk:ins[k]?=Z ins[k]:=bF (by omega);obtain⟨_,h2⟩:=hr.step k _ hk;rw[h2,<-WB hr k (by omega)];unfold put;grind [DR]
theorem ox(hr:Run F ins _m S eff)(D:Nat->Bool): ∀k,k<=ins.length->(∀j,j<k->D j=O)-> ∀m,rC ins eff (S 0) D k m=lk m (S k).env
 |0,_,_,m=>rfl
 |k+1,h,hD,m=>by
  have hk:ins[k]?=Z ins[k]:=bF (by omega);obtain⟨_,h2⟩:=hr.step k _ hk;simp only[rC];rw[ox hr D k (by omega) (λj e=>hD j (by omega)) m,h2];have hd:yY ins k=ins[k].dst:=by grind [yY]
  rw[hd];unfold put;grind [lk]
theorem m4(hr:Run F ins _m S eff)(D:Nat->Bool): ∀k,k<=ins.length->(∀j,j<k->D j=O)-> ∀b,b<(S 0)._o.length->pL eff (S 0) D k b=(S k)._o[b]?
 |0,_,_,b,_=>rfl
 |k+1,h,hD,b,hb=>by
  have hk:ins[k]?=Z ins[k]:=bF (by omega);obtain⟨_,h2⟩:=hr.step k _ hk;simp only[pL];rw[m4 hr D k (by omega) (λj e=>hD j (by omega)) b hb,h2,if_pos (hD k (by omega))];have:(put ins[k].dst (eff k) (S k))._o=upd (eff k).ws (S k)._o:=by unfold put;split<;>rfl
  rw[this,zO _ _ _ (by rw[WB hr k (by omega)];exact hb)]
theorem qd{s0:St}{D D':Nat->Bool}{m:Nat}: ∀n,(∀j,j<n->yY ins j=Z m->D j=D' j)->rC ins eff s0 D n m=rC ins eff s0 D' n m
 |0,_=>rfl
 |n+1,h=>by
  simp only[rC];rw[qd n λj e=>h j (by omega)];grind
theorem pm{s0:St}{D D':Nat->Bool}{b:Nat}: ∀n,(∀j,j<n->b∈(eff j).ws.map (·.1)->D j=D' j)->pL eff s0 D n b=pL eff s0 D' n b
 |0,_=>rfl
 |n+1,h=>by
  simp only[pL];rw[pm n λj e=>h j (by omega)];grind [AH]
theorem XP{s0:St}{D:Nat->Bool}{m k:Nat}: ∀n,k<=n->(∀j,k<=j->j<n->yY ins j=Z m->D j=J)->rC ins eff s0 D n m=rC ins eff s0 D k m
 |0,h,_=>by simp_all
 |n+1,h,hD=>by
  by_cases hk:k=n+1;subst hk;rfl;simp only[rC];rw[XP n (by omega) λj h1 h2=>hD j h1 (by omega)];grind
theorem WL{s0:St}{D:Nat->Bool}{b k:Nat}: ∀n,k<=n->(∀j,k<=j->j<n->b∈(eff j).ws.map (·.1)->D j=J)->pL eff s0 D n b=pL eff s0 D k b
 |0,h,_=>by simp_all
 |n+1,h,hD=>by
  by_cases hk:k=n+1;subst hk;rfl;simp only[pL];rw[WL n (by omega) λj h1 h2=>hD j h1 (by omega)];grind [AH]
theorem JKa(hr:Run F ins _m S eff){D:Nat->Bool}{s:St}(ha:Agree ins eff (S 0) D s){k:Nat}{i:cG}(hk:ins[k]?=Z i)(E:D k=J)
  (q: ∀j,j<k->D j=J->UF F ins _m S eff j k) (h: ∀j,k<j->j<ins.length->D j=O->UF F ins _m S eff k j):
  (cL F i (_m k)).run s=Z (eff k)/\Agree ins eff (S 0) (λj=>if j=k then O else D j) (put i.dst (eff k) s):=by
 have A:k<ins.length:=(by grind);have g: ∀j,j<ins.length->ins[j]?=Z ins[j]! :=λj o=>by simp[o]
 have w: ∀j,j<ins.length->yY ins j=ins[j]!.dst:=λj o=>by grind [yY]
 obtain⟨h1,h2⟩:=hr.step k i hk;have C:yY ins k=i.dst:=by simp_all
 let T:Nat->Bool:=λ_=>O
 have reads: ∀l∈(cL F i (_m k)).reads (S k),get s l=get (S k) l:=by
  intro l hl;cases l with
  |slot m=>
   simp only[get];rw[ha.slot m]
   congr 1
   rw[XP ins.length (k:=k) (by omega) λj r e hd=>?_];rw[qd (D':=T) k λj o hd=>?_,ox hr T k (by omega) (λ_ _=>rfl) m];cases hDj:D j with
   |true=>rfl
   |false=>have:=(q j o hDj).slotW _ i m (g j (by omega)) hk (by grind);simp_all
   by_cases n:j=k;simp_all;cases hDj:D j with
   |false=>rfl
   |true=>have:=(h j (by omega) e hDj).slotR i _ m hk (g j e) (by simp_all);simp_all
  |blk b=>
   simp only[get];by_cases hb:b<(S 0)._o.length;rw[ha.blk b hb]
   congr 1
   rw[WL ins.length (k:=k) (by omega) λj r e hd=>?_];rw[pm (D':=T) k λj o hd=>?_,m4 hr T k (by omega) (λ_ _=>rfl) b hb];cases hDj:D j with
   |true=>rfl
   |false=>exact absurd hl ((q j o hDj).blkW i b hk hd).2
   by_cases n:j=k;simp_all;cases hDj:D j with
   |false=>rfl
   |true=>exact absurd hl ((h j (by omega) e hDj).blkR i b hk hd)
   rw[qR (by have:=ha.len;omega),qR (by have:=WB hr k (by omega);omega)]
 refine⟨by grind [JHB],?_,?_,?_⟩;intro m;have v:lk m (put i.dst (eff k) s).env=if i.dst=Z m then Z (eff k).val else lk m s.env:=(by unfold put;grind [lk])
 rw[v,ha.slot m];by_cases z:i.dst=Z m;rw[if_pos z];rw[XP ins.length (k:=k+1) (by omega) λj r e hd=>?_];grind [rC];have n:j≠k:=by omega
 simp only[if_neg n];cases hDj:D j with
 |false=>rfl
 |true=>have:=(h j (by omega) e hDj).slotW i _ m hk (g j e) z;simp_all
 grind [qd];have:(put i.dst (eff k) s)._o=upd (eff k).ws s._o:=by unfold put;split<;>rfl
 rw[this,DR,ha.len];intro b hb;have:(put i.dst (eff k) s)._o=upd (eff k).ws s._o:=by unfold put;split<;>rfl
 rw[this,zO _ _ _ (by rw[ha.len];exact hb),ha.blk b hb];by_cases x:b∈(eff k).ws.map (·.1);obtain⟨y,B⟩:=Do x;simp only[B];rw[WL (D:=λj=>if j=k then O else D j) ins.length (k:=k+1) (by omega) λj r e hd=>?_];grind [pL];have n:j≠k:=by omega
 simp only[if_neg n];cases hDj:D j with
 |false=>rfl
 |true=>exact absurd hd ((h j (by omega) e hDj).blkW _ b (g j e) x).1
 grind [AH,pm]
theorem JBW:Agree ins eff (S 0) (λ_=>J) (S 0):=by
 refine⟨λm=>?_,rfl,λb _=>?_⟩;rw[XP ins.length (k:=0) (zQ2 _) λ_ _ _ _=>rfl];rfl;rw[WL ins.length (k:=0) (zQ2 _) λ_ _ _ _=>rfl];rfl
theorem JGW(hr:Run F ins _m S eff){D:Nat->Bool}{s:St}(ha:Agree ins eff (S 0) D s)(hD: ∀j,j<ins.length->D j=O):
  (∀m,lk m s.env=lk m (S ins.length).env)/\s._o=(S ins.length)._o:=by
 refine⟨λm=>by rw[ha.slot m,ox hr D _ (zQ0 _) hD m],zQ6 λb=>?_⟩;by_cases hb:b<(S 0)._o.length;rw[ha.blk b hb,m4 hr D _ (zQ0 _) hD b hb];rw[qR (by have:=ha.len;omega),qR (by have:=WB hr _ (zQ0 _);omega)]
end
end Go.Am
end
section
namespace Go.Am
def oSl:Opd->List Nat| .t n=>[n]| .c _=>[]
def jE:List Opd->List Nat|[]=>[]|x::r=>oSl x++jE r
def fx:Option Opd->List Nat|none=>[]|some x=>oSl x
def eF:AOp->List Nat| .mv x| .box _ x| .appn _ _ _ x| .load _ _ x| .nilchk x| .un _ x| .conv _ x| .faddr _ x| .field _ _ _ x| .extr x _| .len _ x=>oSl x| .mkarr _ _| .newbox _=>[]| .pick c a b=>oSl c++(oSl a++oSl b)| .build _ parts=>jE (parts.map (·.2.2))| .lits _ _ _ _ parts=>jE (parts.map (·.2))| .store _ x v=>oSl x++oSl v| .bin _ _ x y| .iaddr _ x y| .aaddr _ _ x y| .sidx x y| .aidx _ _ _ x y| .app _ _ _ x y| .mm _ x y| ._D _ _ _ _ x y=>oSl x++oSl y| .slice _ x lo hi mx=>oSl x++(fx lo++(fx hi++fx mx))| .call _ args _=>jE args| .callv g args _=>oSl g++jE args| .mkfn _ a b=>jE a++jE b| .newboxo _ _=>[]| .buildo _ parts _=>jE (parts.map (·.2.2))| .storen _ x=>oSl x| .callo _ _ args _=>jE args
def zU(i:cG):List Nat:=eF i.op++match i.g with|some (g,_)=>[g]|none=>[]
def CI:AOp->Bool| .mkarr _ _| .newbox _| .box _ _| .lits _ _ _ _ _| .store _ _ _| .conv (.toBytes _) _| ._D _ _ _ _ _ _| .slice (.sl _) _ _ _ _| .call _ _ _| .callv _ _ _| .app _ _ _ _ _| .appn _ _ _ _| .newboxo _ _| .buildo _ _ _| .storen _ _| .callo _ _ _ _=>O|_=>J
def MK:AOp->Bool| .load _ _ _| .iaddr _ _ _| .conv ._C _=>O|op=>CI op
def Sl{α:Type}(L:List Nat)(m:RM α):Prop:= ∀s n,Loc.slot n∈m.reads s->n∈L
section
variable {α β:Type} {L:List Nat}
theorem bR(a:α):Sl L (.ret a):=λs n h=>by grind [RM.reads]
theorem dG:Sl L (.fail:RM α):=λs n h=>by grind [RM.reads]
theorem tD{b:Nat}{k:_w->RM α}(h: ∀v,Sl L (k v)):Sl L (.blk b k):=λs n e=>by
 simp only[RM.reads,cV]at e;rcases e with e|e;cases e;split at e;exact h _ s n e;simp at e
theorem Pv{m:Nat}{k:AV->RM α}(hm:m∈L)(h: ∀v,Sl L (k v)):Sl L (.slot m k):=λs n e=>by
 simp only[RM.reads,cV]at e;rcases e with e|e;simp_all;split at e;exact h _ s n e;simp at e
theorem JA{m:RM α}{f:α->RM β}(h:Sl L m)(hf: ∀a,Sl L (f a)):Sl L (m.bind f):=λs n e=>by
 rw[AI,zQ9]at e;rcases e with e|e;exact h s n e;cases hr:m.run s with
 |none=>simp[hr]at e
 |some a=>simp[hr]at e;exact hf a s n e
theorem JMB{L':List Nat}{m:RM α}(h:Sl L m)(hl: ∀x∈L,x∈L'):Sl L' m:=λs n e=>hl n (h s n e)
theorem ym{c:Prop} [Decidable c]{x y:RM α}(hx:Sl L x)(hy:Sl L y):Sl L (if c then x else y):=by grind
end
theorem dE{L:List Nat}(x:Opd)(h: ∀n∈oSl x,n∈L):Sl L (ev x):=by
 cases x with
 |t n=>exact Pv (h n (by simp[oSl])) λv=>bR v
 |c v=>exact bR v
theorem IB{L:List Nat}: ∀(xs:List Opd),(∀n∈jE xs,n∈L)->Sl L (evs xs)|[],_=>bR _|x::xs,h=>JA (dE x λn e=>h n (by simp[jE,e])) λv=>JA (IB xs λn e=>h n (by simp[jE,e])) λvs=>bR _
theorem jd{L:List Nat}(x:Option Opd)(h: ∀n∈fx x,n∈L):Sl L (evo x):=by
 cases x with
 |none=>exact bR _
 |some x=>exact JA (dE x h) λv=>bR _
theorem pY{L:List Nat}(x:Option AV):Sl L (val x):=by cases x<;>first|exact dG|exact bR _
theorem JOm{L:List Nat}(x:AV):Sl L (fz.fz1 x):=by
 cases x<;>try exact dG
 exact bR _;refine tD λv=>?_;grind [dG,bR]
theorem N1{L:List Nat}: ∀(xs:List AV),Sl L (fz.fzL xs)|[]=>bR _|x::xs=>JA (JOm x) λ_=>JA (N1 xs) λ_=>bR _
theorem NU{L:List Nat}(x:AV):Sl L (fz x):=by
 cases x<;>try first|exact dG|exact bR _
 exact N1 _;refine tD λv=>?_;grind [dG,bR]
theorem N8{L:List Nat}: ∀(xs:List Opd),(∀n∈jE xs,n∈L)->Sl L (fzs xs)|[],_=>bR _|x::xs,h=>JA (dE x λn e=>h n (by simp[jE,e])) λv=>JA (NU v) λ_=>JA (N8 xs λn e=>h n (by simp[jE,e])) λ_=>bR _
theorem pj{L:List Nat}(_l:Nat)(x:AV):Sl L (gL _l x):=by
 unfold gL;grind [bR,dG,tD]
theorem JIA{L:List Nat}(agg:Bool)(size:Nat)(x:AV):Sl L (hY agg size x):=by
 unfold hY;split
 all_goals grind [pY,dG,tD]
theorem Cl{L:List Nat}(size:Nat)(x v:AV):Sl L (jI size x v):=by
 unfold jI;split;grind [tD,dG,bR];refine tD λv=>?_;grind [dG,JA,NU,bR];simp[dG]
theorem JGQ{L:List Nat}(_l:Nat)(x i:AV):Sl L (mZ _l x i):=by
 unfold mZ;grind [dG,bR,tD]
theorem JMF{L:List Nat}(_l bytes:Nat)(x y:AV):Sl L (kJ _l bytes x y):=by
 unfold kJ;grind [tD,dG,JA,pj,bR]
theorem VX{L:List Nat}(ws:List (Nat×_w))(b:Nat):Sl L (sQ ws b):=
 tD λv=>by grind [bR]
theorem IL{L:List Nat}(ws:List (Nat×_w)): ∀(es acc:List _z),Sl L (eU ws es acc)
 |[],acc=>bR _
 | .whole b::r,acc=>JA (VX ws b) λv=>by cases v<;>exact IL ws r _
 | .elem b e i::r,acc=>IL ws r acc
theorem lq{L:List Nat}(x:AV):Sl L (kI x):=by
 cases x<;>try first|exact dG|exact bR _
 exact JA (NU _) λ_=>bR _;refine JA (NU _) λa=>?_;grind [bR,dG]
theorem Ay{L:List Nat}: ∀(xs:List AV),Sl L (lR xs)|[]=>bR _|x::xs=>JA (lq x) λ_=>JA (Ay xs) λ_=>bR _
theorem JKt{L:List Nat}(ws:List (Nat×_w))(ρ:_z->Option Nat)(e:_z):Sl L (CQ ws ρ e):=by
 cases e with
 |whole b=>
  refine JA (VX ws b) λv=>?_;grind [dG,bR]
 |elem b e i=>
  refine JA (VX ws b) λv=>?_;grind [dG,bR]
theorem oy{L:List Nat}(ws:List (Nat×_w))(ρ:_z->Option Nat): ∀(es:List _z),Sl L (lY ws ρ es)|[]=>bR _|e::r=>JA (JKt ws ρ e) λ_=>JA (oy ws ρ r) λ_=>bR _
theorem JGS{L:List Nat}(ws:List (Nat×_w))(es:List _z)(_m:Nat)(e:_z)(x:_w):Sl L (vU ws es _m e x):=by
 unfold vU;grind [bR,dG,JA,VX]
theorem pz{L:List Nat}(ws:List (Nat×_w))(es:List _z)(_m:Nat): ∀(e:List _z) (x:List _w),Sl L (jZ ws es _m e x)|[],_=>bR _|_::_,[]=>dG|e::r,x::l=>JA (JGS ws es _m e x) λ_=>JA (pz ws es _m r l) λ_=>bR _
theorem R2{L:List Nat}(F:Orc)(f:FuncId)(args:List AV)(k _m:Nat):Sl L (jF F f args k _m):=by
 unfold jF;refine JA (Ay _) λa=>JA (IL _ _ _) λe=>JA (IL _ _ _) λes=>ym ?_ dG;split
 all_goals grind [dG,JA,oy,pz,bR]
theorem JGV{L:List Nat}(F:Orc)(f:FuncId)(a:List AV×List (Nat×_w))(k _m:Nat):Sl L (gJ F f a k _m):=by
 unfold gJ;refine JA (IL _ _ _) λe=>JA (IL _ _ _) λes=>ym ?_ dG;split
 all_goals grind [dG,JA,oy,pz,bR]
theorem XC{L:List Nat}: ∀(m:List Bool) (xs:List AV),Sl L (fW m xs)
 |_,[]=>by cases ‹List Bool›<;>exact bR _
 |[],x::xs=>JA (lq x) λ_=>JA (XC [] xs) λ_=>bR _
 |true::m,x::xs=>JA (XC m xs) λ_=>bR _
 |false::m,x::xs=>JA (lq x) λ_=>JA (XC m xs) λ_=>bR _
theorem po{L:List Nat}: ∀(xs:List (Nat×Nat×Opd)),(∀n∈jE (xs.map (·.2.2)),n∈L)->Sl L (lZ xs)
 |[],_=>bR _
 |(a,b,x)::xs,h=>by
  unfold lZ;refine JA (dE x λn e=>h n (by simp[jE,e])) λv=>?_;split;exact JA (po xs λn e=>h n (by simp[jE,e])) λ_=>bR _;simp[dG]
theorem JOr(F:Orc)(op:AOp)(_m:Nat):Sl (eF op) (_y F op _m):=by
 cases op with
 |mv x=>exact JA (dE x λn h=>h) λv=>bR _
 |mkarr=>exact bR _
 |appn _l bytes zero y=>exact JA (dE y λn h=>h) λv=>JA (pj _ _) λ_=>ym (bR _) dG
 |pick c a b=>
  refine JA (dE c λn h=>by grind [eF]) λv=>?_;grind [JA,dE,eF,bR,dG]
 |newbox=>exact bR _
 |box size x=>
  refine JA (dE x λn h=>h) λv=>?_;grind [bR,dG]
 |build zero parts=>
  refine JA (po parts λn h=>h) λv=>?_;grind [pY,dG]
 |lits own _l n zero parts=>
  refine JA (N8 _ λn h=>h) λv=>?_;grind [bR,dG]
 |load agg size x=>exact JA (dE x λn h=>h) λv=>JIA _ _ _
 |store size x y=>exact JA (dE x λn h=>by grind [eF]) λv=>JA (dE y λn h=>by grind [eF]) λ_=>Cl _ _ _
 |nilchk x=>
  refine JA (dE x λn h=>h) λv=>?_;grind [bR,dG]
 |bin op t x y=>exact JA (dE x λn h=>by grind [eF]) λv=>JA (dE y λn h=>by grind [eF]) λ_=>pY _
 |un op x=>exact JA (dE x λn h=>h) λv=>pY _
 |conv k x=>
  refine JA (dE x λn h=>h) λv=>?_;grind [bR,JA,pj,dG]
 |_D own _l bytes zero x y=>
  refine JA (dE x λn h=>by grind [eF]) λv=>JA (dE y λn h=>by grind [eF]) λu=>?_;grind [bR,dG]
 |slice k x lo hi mx=>
  refine JA (dE x λn h=>by grind [eF]) λv=>JA (jd lo λn h=>by grind [eF]) λ_=>JA (jd hi λn h=>by grind [eF]) λ_=>JA (jd mx λn h=>by grind [eF]) λ_=>?_;grind [JA,NU,bR,dG,pY]
 |faddr off x=>exact JA (dE x λn h=>h) λv=>pY _
 |field agg off size x=>exact JA (dE x λn h=>h) λv=>pY _
 |iaddr _l x y=>exact JA (dE x λn h=>by grind [eF]) λv=>JA (dE y λn h=>by grind [eF]) λ_=>JGQ _ _ _
 |aaddr len _l x y=>exact JA (dE x λn h=>by grind [eF]) λv=>JA (dE y λn h=>by grind [eF]) λ_=>pY _
 |sidx x y=>
  refine JA (dE x λn h=>by grind [eF]) λv=>JA (dE y λn h=>by grind [eF]) λu=>?_;grind [dG,bR]
 |aidx agg len _l x y=>
  refine JA (dE x λn h=>by grind [eF]) λv=>JA (dE y λn h=>by grind [eF]) λu=>?_;grind [pY,dG]
 |extr x i=>exact JA (dE x λn h=>h) λv=>pY _
 |call f args k=>exact JA (IB args λn h=>h) λv=>R2 _ _ _ _ _
 |callv g args k=>
  refine JA (dE g λn h=>by grind [eF]) λv=>?_;grind [dG,JA,IB,eF,R2]
 |len str x=>exact JA (dE x λn h=>h) λv=>pY _
 |app _l bytes zero x y=>exact JA (dE x λn h=>by grind [eF]) λv=>JA (dE y λn h=>by grind [eF]) λ_=>JMF _ _ _ _
 |mm mx x y=>exact JA (dE x λn h=>by grind [eF]) λv=>JA (dE y λn h=>by grind [eF]) λ_=>pY _
 |mkfn f a b=>exact JA (IB a λn h=>by grind [eF]) λv=>JA (IB b λn h=>by grind [eF]) λ_=>bR _
 |newboxo=>exact bR _
 |buildo zero parts os=>
  refine JA (po parts λn h=>h) λv=>?_;grind [bR,dG]
 |storen _l x=>exact JA (dE x λn h=>h) λv=>JA (Cl _ _ _) λ_=>bR _
 |callo f keep args k=>exact JA (IB args λn h=>h) λv=>JA (XC _ _) λ_=>JGV _ _ _ _ _
theorem A9{L:List Nat}: ∀(k _m:Nat),Sl L (vQ _m k)|0,_=>bR _|k+1,_m=>tD λv=>by cases v<;>first|exact A9 k _|exact dG
theorem Rs(F:Orc)(i:cG)(_m:Nat):Sl (zU i) (cL F i _m):=by
 have h:Sl (zU i) (opD F i.op _m):=JA (A9 _ _) λ_=>JMB (JOr F i.op _m) λx e=>by grind [zU]
 grind [cL,Pv,zU,bR,dG]
end Go.Am
end
section
namespace Go.Am
def W0(m:RM Eff):Prop:= ∀s e,m.run s=Z e->e.ws=[]
def B0{α:Type}(m:RM α):Prop:= ∀s e,m.run s=Z e-> ∀b,Loc.blk b∉m.reads s
theorem pZ(x:Option AV):W0 (val x):=λs e h=>by cases x<;>grind [val,RM.run]
theorem tF(v:AV):W0 (.ret ⟨v,[]⟩):=λs e h=>by grind [RM.run]
theorem tM:W0 .fail:=λs e h=>by cases h
theorem dW{α:Type}{m:RM α}{f:α->RM Eff}(h: ∀a,W0 (f a)):W0 (m.bind f):=λs e g=>by
 rw[run_bind]at g;cases hm:m.run s with
 |none=>simp_all
 |some a=>rw[hm]at g;exact h a s e g
theorem Oc{b:Nat}{k:_w->RM Eff}(h: ∀v,W0 (k v)):W0 (.blk b k):=λs e g=>by
 simp only[RM.run]at g;split at g;exact h _ s e g;cases g
theorem JMi{g:Nat}{k:AV->RM Eff}(h: ∀v,W0 (k v)):W0 (.slot g k):=λs e j=>by
 simp only[RM.run]at j;split at j;exact h _ s e j;cases j
theorem jX{α:Type}(a:α):B0 (.ret a):=λs e _ b h=>by grind [RM.reads]
theorem wE{α:Type}:B0 (.fail:RM α):=λs e h=>by cases h
theorem rR(x:Option AV):B0 (val x):=by cases x<;>first|exact wE|exact jX _
theorem dR{α β:Type}{m:RM α}{f:α->RM β}(hm:B0 m)(h: ∀a,B0 (f a)):B0 (m.bind f):=λs e g b hb=>by
 rw[run_bind]at g;rw[AI]at hb;cases hr:m.run s with
 |none=>simp_all
 |some a=>
  rw[hr]at g hb;rcases zQ9.1 hb with hb|hb;exact hm s a hr b hb;exact h a s e g b (by simpa using hb)
theorem fL(x:Opd):B0 (ev x):=by
 cases x with
 |t n=>exact λs e _ b h=>by grind [ev,RM.reads]
 |c v=>exact jX _
theorem JNa{α:Type}{g:Nat}{k:AV->RM α}(h: ∀v,B0 (k v)):B0 (.slot g k):=λs e j b hb=>by
 simp only[RM.run]at j;simp only[RM.reads,cV]at hb;rcases hb with hb|hb;cases hb;cases hl:lk g s.env with
 |none=>simp_all
 |some v=>rw[hl]at j hb;exact h v s e j b hb
theorem j8: ∀xs:List Opd,B0 (evs xs)|[]=>jX _|x::xs=>dR (fL x) λ_=>dR (j8 xs) λ_=>jX _
theorem yo(x:Option Opd):B0 (evo x):=by
 cases x with
 |none=>exact jX _
 |some x=>exact dR (fL x) λ_=>jX _
theorem Ct: ∀(xs:List (Nat×Nat×Opd)),B0 (lZ xs)
 |[]=>jX _
 |(a,b,x)::xs=>by
  unfold lZ;refine dR (fL x) λv=>?_;split;exact dR (Ct xs) λ_=>jX _;simp[wE]
theorem Qq(lo hi mx:Option AV)(c:PV)(hc: ∀l,c≠.s l):mA .str (.p c) lo hi mx=Y:=by
 cases mx with
 |some _=>rfl
 |none=>cases c<;>first|rfl|simp_all
theorem JO7(F:Orc)(op:AOp)(_m:Nat)(h:CI op=J):W0 (_y F op _m):=by
 cases op with
 |mkarr=>cases h
 |newboxo=>cases h
 |buildo=>cases h
 |storen=>cases h
 |callo=>cases h
 |newbox=>cases h
 |box=>cases h
 |lits=>cases h
 |store=>cases h
 |_D=>cases h
 |call=>cases h
 |callv=>cases h
 |app=>cases h
 |appn=>cases h
 |mv x=>exact dW λ_=>tF _
 |pick c a b=>
  refine dW λv=>?_;grind [dW,tF,tM]
 |build zero parts=>
  refine dW λv=>?_;grind [pZ,tM]
 |load agg size x=>
  refine dW λv=>?_;unfold hY;split
  all_goals grind [pZ,tM,Oc]
 |nilchk x=>
  refine dW λv=>?_;grind [tF,tM]
 |bin op t x y=>exact dW λ_=>dW λ_=>pZ _
 |un op x=>exact dW λ_=>pZ _
 |conv k x=>
  refine dW λv=>?_;split;exact tF _;exact tF _;grind [dW,tF,tM];cases h;simp[tM]
 |slice k x lo hi mx=>
  cases k with
  |sl _l=>cases h
  |str=>
   refine dW λv=>dW λ_=>dW λ_=>dW λ_=>?_;split;rename_i b i n;intro s e g;exfalso;rw[run_bind]at g;cases h1:(fz (._r b i n)).run s<;>grind [fz,RM.run,Qq]
   simp[pZ]
 |faddr off x=>exact dW λ_=>pZ _
 |field agg off size x=>exact dW λ_=>pZ _
 |iaddr _l x y=>
  refine dW λv=>dW λu=>?_;unfold mZ;grind [tM,tF,Oc]
 |aaddr len _l x y=>exact dW λ_=>dW λ_=>pZ _
 |sidx x y=>
  refine dW λv=>dW λu=>?_;grind [tM,tF]
 |aidx agg len _l x y=>
  refine dW λv=>dW λu=>?_;grind [pZ,tM]
 |extr x i=>exact dW λ_=>pZ _
 |len str x=>exact dW λ_=>pZ _
 |mm mx x y=>exact dW λ_=>dW λ_=>pZ _
 |mkfn f a b=>exact dW λ_=>dW λ_=>tF _
theorem JOU(F:Orc)(op:AOp)(_m:Nat)(h:MK op=J):B0 (_y F op _m):=by
 cases op with
 |mkarr=>cases h
 |newboxo=>cases h
 |buildo=>cases h
 |storen=>cases h
 |callo=>cases h
 |newbox=>cases h
 |box=>cases h
 |lits=>cases h
 |store=>cases h
 |_D=>cases h
 |call=>cases h
 |callv=>cases h
 |app=>cases h
 |appn=>cases h
 |load=>cases h
 |iaddr=>cases h
 |mv x=>exact dR (fL x) λ_=>jX _
 |pick c a b=>
  refine dR (fL c) λv=>?_;grind [dR,fL,jX,wE]
 |build zero parts=>
  refine dR (Ct parts) λv=>?_;grind [rR,wE]
 |nilchk x=>
  refine dR (fL x) λv=>?_;grind [jX,wE]
 |bin op t x y=>exact dR (fL x) λ_=>dR (fL y) λ_=>rR _
 |un op x=>exact dR (fL x) λ_=>rR _
 |conv k x=>
  refine dR (fL x) λv=>?_;split;exact jX _;exact jX _;cases h;cases h;simp[wE]
 |slice k x lo hi mx=>
  cases k with
  |sl _l=>cases h
  |str=>
   refine dR (fL x) λv=>dR (yo lo) λ_=>dR (yo hi) λ_=>dR (yo mx) λ_=>?_;split;rename_i b i n;intro s e g;exfalso;rw[run_bind]at g;cases h1:(fz (._r b i n)).run s<;>grind [fz,RM.run,Qq]
   simp[rR]
 |faddr off x=>exact dR (fL x) λ_=>rR _
 |field agg off size x=>exact dR (fL x) λ_=>rR _
 |aaddr len _l x y=>exact dR (fL x) λ_=>dR (fL y) λ_=>rR _
 |sidx x y=>
  refine dR (fL x) λv=>dR (fL y) λu=>?_;grind [wE,jX]
 |aidx agg len _l x y=>
  refine dR (fL x) λv=>dR (fL y) λu=>?_;grind [rR,wE]
 |extr x i=>exact dR (fL x) λ_=>rR _
 |len str x=>exact dR (fL x) λ_=>rR _
 |mm mx x y=>exact dR (fL x) λ_=>dR (fL y) λ_=>rR _
 |mkfn f a b=>exact dR (j8 a) λ_=>dR (j8 b) λ_=>jX _
theorem Ng{op:AOp}(h:MK op=J):CI op=J:=by
 cases op<;>first|rfl|cases h|skip
 rename_i k x;cases k<;>first|rfl|cases h
 rename_i k x lo hi mx;cases k<;>first|rfl|cases h
theorem JMR{op:AOp}(h:CI op=J):nW op=0:=by
 cases op<;>first|rfl|cases h|skip
 rename_i k x;cases k<;>first|rfl|cases h
theorem lx(F:Orc)(i:cG)(_m:Nat)(h:CI i.op=J):W0 (cL F i _m):=by
 have h1:W0 (opD F i.op _m):=dW λ_=>JO7 F _ _ h;grind [cL,JMi,tF,tM]
theorem Qz(F:Orc)(i:cG)(_m:Nat)(h:MK i.op=J):B0 (cL F i _m):=by
 have h1:B0 (opD F i.op _m):=by unfold opD;rw[JMR (Ng h)];exact dR (jX _) λ_=>JOU F _ _ h
 grind [cL,JNa,jX,wE]
end Go.Am
end
section
namespace Go.Am
theorem bind_some{α β:Type}{m:RM α}{f:α->RM β}{s:St}{b:β}(h:(m.bind f).run s=Z b): ∃a,m.run s=Z a/\(f a).run s=Z b:=by rw[run_bind]at h;cases hm:m.run s<;>simp_all
theorem iD{x:Option AV}{s:St}{e:Eff}(h:(val x).run s=Z e): ∃v,x=Z v/\e=⟨v,[]⟩:=by cases x<;>simp_all [val,RM.run]
theorem Qs{w C c v}(h:okP c v=O):J0d w C c v:=by
 unfold okP at h;split at h;rename_i x y;have:x=y:=by simpa using h
 subst this;exact .b _;simp at h;obtain⟨rfl,rfl⟩:=h;exact .i _ _;rename_i l e;have:l=e.data.toList:=by simpa using h
 subst this;exact .s _;exact .sl0 _ _ _;exact .np;exact .nf;cases h
theorem WT{w C}: ∀{cs:List PV} {vs:List Value},BY cs vs=O->cs.length=vs.length/\ ∀(i:Nat) x v,cs[i]?=Z x->vs[i]?=Z v->J0d w C x v
 |[],[],_=>⟨rfl,λi x v h=>by simp at h⟩
 |x::xs,v::vs,h=>by
  simp only[BY,bB]at h;obtain⟨h1,h2⟩:=WT (w:=w) (C:=C) h.2;grind [Qs]
 |[],_::_,h=>by grind [BY]
 |_::_,[],h=>by grind [BY]
theorem JLM{s:Sn}{c v}(h:okC c v=O):JH s c v:=by
 unfold okC at h;split at h;exact .p _ _ (Qs h);rename_i cs vs;obtain⟨h1,h2⟩:=WT (w:=s.w) (C:=s.g.C) h;exact .data _ _ (by simpa using h1) λi x v j e=>h2 i x v j (by simpa using e);rename_i f g a c;simp at h;obtain⟨⟨rfl,rfl⟩,rfl⟩:=h;exact .fn _ _ _ _ _ rfl rfl (λi x v h=>by simp at h) (λi x v h=>by simp at h);simp at h;subst h;exact .tup _ _ rfl (λi x v h=>by simp at h);cases h
def bZ(s:Sn)(tmps:Array Value)(env:List (Nat×AV)):Prop:= ∀n x,lk n env=Z x-> ∃v,tmps[n]?=Z v/\JH s x v
theorem bZ.mono{s0 s:Sn}(hi:Inv s0)(t:bK s0 s){tmps env}(h:bZ s0 tmps env):bZ s tmps env:=
 λn x e=>let⟨v,h1,h2⟩:=h n x e;⟨v,h1,h2.mono hi t⟩
section
variable {P:Program} {s:Sn} {a:Act} {env:List (Nat×AV)}
theorem bW(he:bZ s a.tmps env){x:Opd}{y:Operand}{v:AV}(h:(ev x).run ⟨env,s.σ⟩=Z v)(hc:cD x y=O):JH s v (a.eval y):=by
 cases x with
 |t n=>
  cases y<;>simp[cD]at hc;subst hc;simp only[ev,RM.run]at h;split at h
  rename_i u e;cases h;obtain⟨w,h1,h2⟩:=he _ _ e;simp_all [Act.eval];cases h
 |c z=>
  simp only[ev,RM.run]at h;injection h with h;subst h;cases y with
  |const u=>exact JLM (v:=u) (by grind [cD])
  |func g=>
   cases z<;>simp[cD]at hc;rename_i f first caps
   cases first<;>cases caps<;>simp[cD]at hc
   subst hc;exact .fn _ _ _ _ _ rfl rfl (λi x v h=>by simp at h) (λi x v h=>by simp at h)
  |tmp n=>grind [cD]
  |global n=>grind [cD]
theorem IE(he:bZ s a.tmps env): ∀{xs:List Opd} {e:List Operand} {vs:List AV},(evs xs).run ⟨env,s.σ⟩=Z vs->jU xs e=O->
  vs.length=e.length/\ ∀(i:Nat) x v,vs[i]?=Z x->(e.map a.eval)[i]?=Z v->JH s x v
 |[],[],vs,h,_=>by
  grind [evs,RM.run]
 |x::xs,y::e,vs,h,hc=>by
  simp only[jU,bB]at hc;simp only[evs]at h;obtain⟨u,h1,h⟩:=bind_some h;obtain⟨g,h2,h⟩:=bind_some h;simp only[RM.run]at h;cases h;obtain⟨l,r⟩:=IE he h2 hc.2;grind [bW]
 |[],_::_,_,_,hc=>by grind [jU]
 |_::_,[],_,_,hc=>by grind [jU]
def cB(P:Program)(o:Oper)(a:Act)(s:Sn)(e:Eff):Prop:= ∀(next:Act->World->Prop) (Q:Exit->Act->World->Prop),(∀v w' g',Inv ⟨upd e.ws s.σ,g',w'⟩->bK s ⟨upd e.ws s.σ,g',w'⟩->JH ⟨upd e.ws s.σ,g',w'⟩ e.val v->next (a.put o.dst v) w')->o.wp P a s.w next Q
theorem jJ{o:Oper}{e:Eff}{v:Value}{w':World}{g':Gh}(hr:(execOp a.eval o).run P s.w=.ok (.value v) w')
  (hi:Inv ⟨upd e.ws s.σ,g',w'⟩) (t:bK s ⟨upd e.ws s.σ,g',w'⟩) (hv:JH ⟨upd e.ws s.σ,g',w'⟩ e.val v):cB P o a s e:=by
 intro next Q h;grind [Oper.wp,Oper.upon]
theorem JQ{o:Oper}{x:AV}{v:Value}(hi:Inv s)(hr:(execOp a.eval o).run P s.w=.ok (.value v) s.w)(hv:JH s x v):cB P o a s ⟨x,[]⟩:=
 jJ (e:=⟨x,[]⟩) (g':=s.g) hr hi (.refl s) hv
theorem Ev{t:TypeId}{i:TypeInfo}(h:P.info? t=Z i)(w:World):(typeInfo t).run P w=.ok i w:=by simp[typeInfo,h]
theorem lE{t:TypeId}{n:Nat}(h:szT P t=Z n)(w:World):(sizeOf t).run P w=.ok n w:=by unfold szT at h;cases hi:P.info? t<;>simp_all [sizeOf,Ev]
theorem IJ{t:TypeId}{b:Bool}(h:agT P t=Z b)(w:World):(isAgg t).run P w=.ok b w:=by
 unfold agT at h;cases hu:P.underlying t with
 |none=>simp_all
 |some d=>rw[hu]at h;simp at h;simp only[isAgg,CJ,run_underlying hu,vC];subst h;cases d<;>rfl
theorem mE{t e:TypeId}(h:elT P t=Z e):P.underlying t=Z (.slice e):=by
 grind [elT]
theorem zY{t:TypeId}(h:lX P t=O):P.underlying t=Z .string:=by
 grind [lX]
theorem Bg{t:TypeId}(h:fp P t=O):P.underlying t=Z (.int .u8):=by
 grind [fp]
theorem JBa{t:TypeId}(h:kp P t=O):P.underlying t=Z .bool:=by
 grind [kp]
theorem JH4{t:TypeId}(h:xy P t=O): ∃k,P.underlying t=Z (.int k):=by
 grind [xy]
theorem JG6{t:TypeId}{k:IntKind}(h:j3 P k t=O):P.underlying t=Z (.int k):=by
 grind [j3]
theorem zm{t e:TypeId}{n:Nat}(h:arT P t=Z (n,e)):P.underlying t=Z (.array n e):=by
 grind [arT]
theorem A4{t:TypeId}{fs:Array Field}(h:flT P t=Z fs):P.underlying t=Z (.struct fs):=by
 grind [flT]
theorem jY{x k n}(h:JH s (.p (.i k n)) x):x=.int k n:=by cases h with|p _ _ h=>cases h;rfl
theorem VO{x n}(h:JH s (.p (.b n)) x):x=.bool n:=by cases h with|p _ _ h=>cases h;rfl
theorem vS{x l}(h:JH s (.p (.s l)) x):x=.string ⟨l.toArray⟩:=by cases h with|p _ _ h=>cases h;rfl
theorem JLC{x}(h:JH s (.p .np) x):x=.pointer Y:=by cases h with|p _ _ h=>cases h;rfl
theorem JNn{x}(h:JH s (.p .nf) x):x=.nilFunc:=by cases h with|p _ _ h=>cases h;rfl
theorem vZ(k n):JH s (.p (.i k n)) (.int k n):=.p _ _ (.i _ _)
theorem rT(n):JH s (.p (.b n)) (.bool n):=.p _ _ (.b _)
theorem Qx(l):JH s (.p (.s l)) (.string ⟨l.toArray⟩):=.p _ _ (.s _)
theorem wB(l:List UInt8):ByteArray.size ⟨l.toArray⟩=l.length:=by simp[ByteArray.size]
theorem JHq(l m:List UInt8):(⟨l.toArray⟩:ByteArray)++⟨m.toArray⟩=⟨(l++m).toArray⟩:=by apply ByteArray.ext;simp_all
theorem JB9{op:BinOp}{k:IntKind}{x y:Int}{t:TypeId}{r:PV}(n:op≠.shl)(j:op≠.shr)(h:BQ op k x y=Z r)(w:World):
  ∃v,(binOp op t (.int k x) (.int k y)).run P w=.ok v w/\J0d s.w s.g.C r v:=by
 cases op<;>simp only[BQ]at h
 case add=>cases h;exact⟨_,by simp[binOp,Op.intArith],.i _ _⟩
 case sub=>cases h;exact⟨_,by simp[binOp,Op.intArith],.i _ _⟩
 case mul=>cases h;exact⟨_,by simp[binOp,Op.intArith],.i _ _⟩
 case quo=>split at h
           cases h;rename_i e;cases h;exact⟨_,by simp[binOp,Op.intDiv,e],.i _ _⟩
 case rem=>split at h
           cases h;rename_i e;cases h;exact⟨_,by simp[binOp,Op.intDiv,e],.i _ _⟩
 case and=>cases h;exact⟨_,by simp[binOp,Op.intBits],.i _ _⟩
 case or=>cases h;exact⟨_,by simp[binOp,Op.intBits],.i _ _⟩
 case xor=>cases h;exact⟨_,by simp[binOp,Op.intBits],.i _ _⟩
 case eql=>cases h;exact⟨_,by simp[binOp,Op.intCmp],.b _⟩
 case neq=>cases h;exact⟨_,by simp[binOp,Op.intCmp],.b _⟩
 case lss=>cases h;exact⟨_,by simp[binOp,Op.intCmp],.b _⟩
 case leq=>cases h;exact⟨_,by simp[binOp,Op.intCmp],.b _⟩
 case gtr=>cases h;exact⟨_,by simp[binOp,Op.intCmp],.b _⟩
 case geq=>cases h;exact⟨_,by simp[binOp,Op.intCmp],.b _⟩
 all_goals simp_all
theorem F9{op:BinOp}{k k':IntKind}{x y:Int}{t:TypeId}{r:PV}(hs:op=.shl\/op=.shr)(h:PB op k x y=Z r)(w:World):
  ∃v,(binOp op t (.int k x) (.int k' y)).run P w=.ok v w/\J0d s.w s.g.C r v:=by
 unfold PB at h;split at h;cases h;rename_i e;rcases hs with rfl|rfl;cases h;exact⟨_,by simp[binOp,Op.shift,e],.i _ _⟩;cases h;exact⟨_,by simp[binOp,Op.shift,e],.i _ _⟩
theorem JBT{op:BinOp}{x y:List UInt8}{t:TypeId}{r:PV}(h:BX op x y=Z r)(w:World):
  ∃v,(binOp op t (.string ⟨x.toArray⟩) (.string ⟨y.toArray⟩)).run P w=.ok v w/\J0d s.w s.g.C r v:=by
 cases op<;>simp only[BX]at h
 case add=>
  split at h;rename_i hl;cases h;refine⟨.string ⟨(x++y).toArray⟩,?_,.s _⟩;have h1: ¬(((ByteArray.size ⟨x.toArray⟩+ByteArray.size ⟨y.toArray⟩:Nat):Int)>IntKind.i64.max):=by rw[wB,wB];show¬(_>(9223372036854775807:Int));omega
  simp_all [binOp,Op.stringOp,JHq];cases h
 case eql=>cases h;exact⟨.bool (x==y),by simp[binOp,Op.stringOp],.b _⟩
 case neq=>cases h;exact⟨.bool (!(x==y)),by simp[binOp,Op.stringOp],.b _⟩
 case lss=>cases h;exact⟨.bool (Op.bytesLess x y),by simp[binOp,Op.stringOp],.b _⟩
 case leq=>cases h;exact⟨.bool (Op.bytesLess x y||x==y),by simp[binOp,Op.stringOp],.b _⟩
 case gtr=>cases h;exact⟨.bool (!(Op.bytesLess x y||x==y)),by simp[binOp,Op.stringOp],.b _⟩
 case geq=>cases h;exact⟨.bool (!Op.bytesLess x y),by simp[binOp,Op.stringOp],.b _⟩
 all_goals cases h
end
end Go.Am
end
section
namespace Go.Am
section
variable {P:Program} {F:Orc} {s:Sn} {a:Act} {env:List (Nat×AV)} {o:Oper} {_m:Nat} {e:Eff}
theorem JQu(hi:Inv s)(he:bZ s a.tmps env){x}(h:(_y F (.mv x) _m).run ⟨env,s.σ⟩=Z e)(hc:bG P (.mv x) o.op=O):cB P o a s e:=by
 simp only[_y]at h;obtain⟨v,h1,h⟩:=bind_some h;simp only[RM.run]at h;cases h;unfold bG at hc;simp only at hc;split at hc;rename_i y g;exact JQ hi (by simp_all [execOp]) (bW he h1 hc);rename_i y g;exact JQ hi (by simp_all [execOp]) (bW he h1 hc);cases hc
theorem JLS(hi:Inv s)(he:bZ s a.tmps env){c x y}(h:(_y F (.pick c x y) _m).run ⟨env,s.σ⟩=Z e)(hc:bG P (.pick c x y) o.op=O):cB P o a s e:=by
 simp only[_y]at h;obtain⟨v,h1,h⟩:=bind_some h;unfold bG at hc;simp only at hc;split at hc;rename_i c' k j n;simp only[bB]at hc;split at h;rename_i b;have hb:=VO (bW he h1 hc.1.1);split at h;rename_i g;obtain⟨u,h2,h⟩:=bind_some h;simp only[RM.run]at h;cases h;exact JQ hi (v:=a.eval k) (by simp_all [execOp,asBool]) (bW he h2 hc.1.2);rename_i g;obtain⟨u,h2,h⟩:=bind_some h;simp only[RM.run]at h;cases h;have g:b=J:=by simpa using g
 exact JQ hi (v:=a.eval j) (by simp_all [execOp,asBool]) (bW he h2 hc.2);grind [RM.run];cases hc
theorem JGx(hi:Inv s)(he:bZ s a.tmps env){x}(h:(_y F (.nilchk x) _m).run ⟨env,s.σ⟩=Z e)(hc:bG P (.nilchk x) o.op=O):cB P o a s e:=by
 simp only[_y]at h;obtain⟨v,h1,h⟩:=bind_some h;unfold bG at hc;simp only at hc;split at hc;rename_i y n;have g:=bW he h1 hc;split at h<;>(simp only[RM.run]at h;try cases h)
 refine JQ hi (v:=a.eval y) ?_ g;generalize j:a.eval y=u at g;cases g;simp_all [execOp];refine JQ hi (v:=a.eval y) ?_ g;generalize j:a.eval y=u at g;cases g;simp_all [execOp];refine JQ hi (v:=a.eval y) ?_ g;generalize j:a.eval y=u at g;cases g with
 |ep _ _ _ _ _ _ _ _ k=>obtain⟨r,q,rfl⟩:=k;simp_all [execOp]
 refine JQ hi (v:=a.eval y) ?_ g;generalize j:a.eval y=u at g;cases g;simp_all [execOp];cases hc
theorem RB{op:BinOp}{t:TypeId}{x y:Operand}{u v:Value}(h:(∀c,u≠.agg c)/\u≠.nilIface)(w:World):(eqGuard op t x y u v).run P w=.ok () w:=by simp_all [eqGuard]
theorem Ta(hi:Inv s)(he:bZ s a.tmps env){op x y}(h:(_y F (.bin op .plain x y) _m).run ⟨env,s.σ⟩=Z e)(hc:bG P (.bin op .plain x y) o.op=O):cB P o a s e:=by
 simp only[_y]at h;obtain⟨u,h1,h⟩:=bind_some h;obtain⟨v,h2,h⟩:=bind_some h;obtain⟨r,g,rfl⟩:=iD h;unfold bG at hc;simp only at hc;split at hc;rename_i L t B E ty K;simp only[bB,beq_iff_eq]at hc;obtain⟨⟨rfl,_d⟩,_e⟩:=hc;have C:=bW he h1 _d;have D:=bW he h2 _e;have j: ∀{z:Value},(∀c,a.eval B≠.agg c)/\a.eval B≠.nilIface->(binOp op t (a.eval B) (a.eval E)).run P s.w=.ok z s.w->(execOp a.eval o).run P s.w=.ok (.value z) s.w:=by simp_all [execOp,RB]
 simp only[pK]at g;split at g;rename_i M p N q;rw[jY C,jY D]at j;split at g;obtain⟨z,k,rfl⟩:=hQ.1 g;obtain⟨v,A,n⟩:=F9 (s:=s) (P:=P) (t:=t) (.inl rfl) k s.w;exact JQ hi (j (by simp) A) (.p _ _ n);obtain⟨z,k,rfl⟩:=hQ.1 g;obtain⟨v,A,n⟩:=F9 (s:=s) (P:=P) (t:=t) (.inr rfl) k s.w;exact JQ hi (j (by simp) A) (.p _ _ n);rename_i G H;split at g;rename_i hk;subst hk;obtain⟨z,k,rfl⟩:=hQ.1 g;obtain⟨v,A,n⟩:=JB9 (s:=s) (P:=P) (t:=t) (λe=>G e) (λe=>H e) k s.w;exact JQ hi (j (by simp) A) (.p _ _ n);cases g;rw[vS C,vS D]at j;obtain⟨z,k,rfl⟩:=hQ.1 g;obtain⟨v,A,n⟩:=JBT (s:=s) (P:=P) (t:=t) k s.w;exact JQ hi (j (by simp) A) (.p _ _ n);cases g;cases hc
theorem JBz(hi:Inv s)(he:bZ s a.tmps env){op x y}(h:(_y F (.bin op .bool x y) _m).run ⟨env,s.σ⟩=Z e)(hc:bG P (.bin op .bool x y) o.op=O):cB P o a s e:=by
 simp only[_y]at h;obtain⟨u,h1,k⟩:=bind_some h;obtain⟨v,h2,j⟩:=bind_some k;obtain⟨r,g,rfl⟩:=iD j;clear h k j;unfold bG at hc;simp only at hc;split at hc
 ·rename_i C t G E ty B;simp only[bB,beq_iff_eq]at hc;obtain⟨⟨rfl,A⟩,z,ht⟩:=hc;have n:=bW he h1 A;have w:=bW he h2 z;have hb:=JBa ht;simp only[pK]at g;split at g
  ·rename_i _ _ p q;have D:=VO n;have H:=VO w;cases op<;>simp only[kM]at g<;>first|(cases g)|cases g
   all_goals simp_all [JQ,execOp,eqGuard,binOp,run_equal_bool,rT]
  cases g
 cases hc
theorem YF{op:BinOp}{t:TypeId}{u v:Value}{b:Bool}(ho:op=.eql\/op=.neq){w:World}(h:(Op.equal t u v).run P w=.ok b w)
  (hu:(∃x n c,u=.slice x n c)\/(∃p,u=.pointer p/\v=.pointer Y)\/u=.nilFunc\/(∃f y c,u=.func f y c)):
  (binOp op t u v).run P w=.ok (.bool (if op=.eql then b else !b)) w:=by
 rcases ho with rfl|rfl;have:binOp .eql t u v=(do pure (.bool (<-Op.equal t u v))):=(by grind [binOp]);simp_all;have:binOp .neq t u v=(do pure (.bool (!(<-Op.equal t u v)))):=(by grind [binOp]);simp_all
theorem wJ{op:BinOp}{b:Bool}{r:AV}(h:kM op (Z b)=Z r):(op=.eql\/op=.neq)/\r=.p (.b (if op=.eql then b else !b)):=by
 cases op<;>simp[kM]at h
 all_goals simp_all
theorem Cy{op:BinOp}{r:AV}(h:RS op=Z r):(op=.eql\/op=.neq)/\r=.unk:=by
 cases op<;>simp[RS]at h
 all_goals simp_all
theorem JCd(hi:Inv s)(he:bZ s a.tmps env){op x y}(h:(_y F (.bin op .nils x y) _m).run ⟨env,s.σ⟩=Z e)(hc:bG P (.bin op .nils x y) o.op=O):cB P o a s e:=by
 simp only[_y]at h;obtain⟨u,h1,E⟩:=bind_some h;obtain⟨v,h2,B⟩:=bind_some E;obtain⟨r,g,rfl⟩:=iD B;clear h E B h2;unfold bG at hc;simp only at hc;split at hc;rename_i M t A G ty L;simp only[bB,beq_iff_eq]at hc;obtain⟨⟨rfl,K⟩,ht⟩:=hc;have D:=bW he h1 K;clear h1;have _e:G=.const (.slice Y 0 0)/\ ∃el,P.underlying t=Z (.slice el):=(by unfold L1 at ht;split at ht;obtain⟨el,N⟩:=ui.1 ht;simp_all [mE];cases ht);obtain⟨rfl,el,_d⟩:=_e;have go: ∀(z:Option Addr) (n c:Nat),a.eval A=.slice z n c->(op=.eql\/op=.neq)->
   (execOp a.eval o).run P s.w=.ok (.value (.bool (if op=.eql then z.isNone else !z.isNone))) s.w:=by
  intro z n c k j;have h1:=YF (P:=P) (t:=t) j (run_equal_slice_nil s.w t el z n c _d) (.inl ⟨z,n,c,rfl⟩);simp_all [execOp,RB,Act.eval]
 simp only[pK]at g;split at g;rename_i _l _f;cases D with
 |p _ _ q=>
  split at g;obtain⟨j,rfl⟩:=Cy g;generalize k:a.eval A=z at q;cases q with
  |sl0 _ C cap=>exact JQ hi (go _ _ _ k j) (.unk _)
  |sl _ _ r Q cap vals=>exact JQ hi (go _ _ _ k j) (.unk _)
  obtain⟨j,rfl⟩:=wJ g;generalize k:a.eval A=z at q;cases q<;>simp_all [JQ,rT]
 rename_i b i n;generalize k:a.eval A=z at D;cases D with
 |_r _ _ _ _ wm _l _f H=>
  obtain⟨C,cap,rfl,R⟩:=H;split at g;obtain⟨j,rfl⟩:=Cy g;exact JQ hi (go _ _ _ k j) (.unk _);rename_i _c;obtain⟨j,rfl⟩:=wJ g;have:C.isNone=J:=by cases C<;>simp_all
  grind [JQ,rT]
 cases g;cases hc
theorem JBX(hi:Inv s)(he:bZ s a.tmps env){op x y}(h:(_y F (.bin op .nilp x y) _m).run ⟨env,s.σ⟩=Z e)(hc:bG P (.bin op .nilp x y) o.op=O):cB P o a s e:=by
 simp only[_y]at h;obtain⟨u,h1,q⟩:=bind_some h;obtain⟨v,h2,n⟩:=bind_some q;obtain⟨r,g,rfl⟩:=iD n;clear h q n h2;unfold bG at hc;simp only at hc;split at hc;rename_i H t A B ty G;simp only[bB,beq_iff_eq]at hc;obtain⟨⟨rfl,E⟩,ht⟩:=hc;have j:=bW he h1 E;clear h1;have D:B=.const (.pointer Y)/\ ∃el,P.underlying t=Z (.pointer el):=(by grind [Mq]);obtain⟨rfl,el,_e⟩:=D;have go: ∀(z:Option Addr),a.eval A=.pointer z->(op=.eql\/op=.neq)->
   (execOp a.eval o).run P s.w=.ok (.value (.bool (if op=.eql then z.isNone else !z.isNone))) s.w:=by
  intro z C k;have:P.pointee t=el:=by grind [Program.pointee]
  simp_all [YF,run_equal_pointer_nil,execOp,RB,Act.eval]
 simp only[pK]at g;generalize C:a.eval A=z at j;split at g;obtain⟨k,rfl⟩:=wJ g;grind [JLC,JQ,rT];obtain⟨k,rfl⟩:=wJ g;cases j;grind [JQ,rT];obtain⟨k,rfl⟩:=wJ g;cases j;grind [JQ,rT];obtain⟨k,rfl⟩:=wJ g;cases j<;>grind [JQ,rT]
 cases g;cases hc
theorem JCa(hi:Inv s)(he:bZ s a.tmps env){op x y}(h:(_y F (.bin op .nilf x y) _m).run ⟨env,s.σ⟩=Z e)(hc:bG P (.bin op .nilf x y) o.op=O):cB P o a s e:=by
 simp only[_y]at h;obtain⟨u,h1,q⟩:=bind_some h;obtain⟨v,h2,k⟩:=bind_some q;obtain⟨r,g,rfl⟩:=iD k;clear h q k h2;unfold bG at hc;simp only at hc;split at hc;rename_i _e t D C ty H;simp only[bB,beq_iff_eq]at hc;obtain⟨⟨rfl,G⟩,ht⟩:=hc;have n:=bW he h1 G;clear h1;have E:C=.const .nilFunc/\ ∃p r v,P.underlying t=Z (.func p r v):=(by grind [Km]);obtain⟨rfl,p,_d,vv,B⟩:=E;simp only[pK]at g;generalize K:a.eval D=z at n;split at g;obtain⟨A,rfl⟩:=wJ g;have:=JNn n;subst this;have j:(Op.equal t .nilFunc .nilFunc).run P s.w=.ok O s.w:=by
  have: ∀d,(Op.equalIn (d+1) t .nilFunc .nilFunc).run P s.w=.ok O s.w:=λd=>by simp[Op.equalIn,run_underlying B]
  exact this 9999
 simp_all [YF,JQ,rT,execOp,RB,Act.eval];obtain⟨A,rfl⟩:=wJ g;cases n;rename_i f _ _ fs cs _ _ _ _;have j:(Op.equal t (.func (.func f) fs cs) .nilFunc).run P s.w=.ok J s.w:=by
  have: ∀d,(Op.equalIn (d+1) t (.func (.func f) fs cs) .nilFunc).run P s.w=.ok J s.w:=λd=>by simp[Op.equalIn,run_underlying B]
  exact this 9999
 have h1:=YF (P:=P) (t:=t) A j (.inr (.inr (.inr ⟨_,_,_,rfl⟩)));simp_all [JQ,rT,execOp,RB,Act.eval];cases g;cases hc
end
end Go.Am
end
section
namespace Go.Am
theorem RF: ∀{vs:List Value} {w:World} {r o:Nat} {c:Array Value} {e:TypeId} {fz:Nat×Nat},w.heap[r]?=Z (.cells c e fz)->o+vs.length<=c.size->
  Put r o vs w (w.setCells r o vs)
 |[],w,r,o,c,e,fz,h,hl=>⟨⟨c,e,fz,c,h,h,rfl,hl,λj v q=>by simp at q,λ_ _=>rfl⟩,λ_ _=>rfl,rfl,rfl,rfl⟩
 |v::vs,w,r,o,c,e,fz,h,hl=>by
  have _e:=AL h;have n:o+1+vs.length<=c.size:=by grind
  have h1:(w.setCell ⟨r,o,Y⟩ v).heap[r]?=Z (.cells (c.setIfInBounds o v) e fz):=(by grind [World.setCell]);obtain⟨⟨G,_d,C,c',g,y,x,E,D,F⟩,H,K,A,z⟩:=RF (vs:=vs) (o:=o+1) h1 (by simpa using n);rw[h1]at g;injection g with g;injection g with a1 a2 a3;subst a1 a2 a3;refine⟨⟨c,e,fz,c',h,y,by simpa using x,hl,λj u q=>?_,λk hk=>?_⟩,λr' B=>?_,?_,A,z⟩;grind;grind;show((w.setCell ⟨r,o,Y⟩ v).setCells r (o+1) vs).heap[r']?=_;grind [World.setCell];show((w.setCell ⟨r,o,Y⟩ v).setCells r (o+1) vs).heap.size=_;simp_all
theorem J0d.one{w C x v}(h:J0d w C x v):v.oneCell'=O:=by cases h<;>rfl
theorem J0d.cells1{w C x v}(h:J0d w C x v):v.cells= #[v]:=by cases h<;>rfl
section
variable {P:Program} {F:Orc} {s:Sn} {a:Act} {env:List (Nat×AV)} {o:Oper} {_m:Nat} {e:Eff}
theorem JQm(hi:Inv s)(he:bZ s a.tmps env){op x}(h:(_y F (.un op x) _m).run ⟨env,s.σ⟩=Z e)(hc:bG P (.un op x) o.op=O):cB P o a s e:=by
 simp only[_y]at h;obtain⟨u,h1,q⟩:=bind_some h;obtain⟨r,g,rfl⟩:=iD q;clear h q;unfold bG at hc;simp only at hc;split at hc;rename_i B t y A;simp only[bB,beq_iff_eq]at hc;obtain⟨rfl,w⟩:=hc;have j:=bW he h1 w;clear h1;generalize C:a.eval y=z at j;unfold unP at g;split at g<;>first|(cases g)|cases g
 rename_i k n;have:=jY j;simp_all [JQ,execOp,Op.unary,Op.intArith,vZ];rename_i k n;have:=jY j;simp_all [JQ,execOp,Op.unary,Op.intBits,vZ];rename_i b;have:=VO j;simp_all [JQ,execOp,Op.unary,rT];cases j with
 |unk b=>exact JQ hi (v:=.bool (!b)) (by simp_all [execOp,Op.unary]) (.unk _)
 cases hc
theorem JJh(hi:Inv s)(he:bZ s a.tmps env){off x}(h:(_y F (.faddr off x) _m).run ⟨env,s.σ⟩=Z e)(hc:bG P (.faddr off x) o.op=O):cB P o a s e:=by
 simp only[_y]at h;obtain⟨u,h1,C⟩:=bind_some h;obtain⟨r,j,rfl⟩:=iD C;clear h C;unfold bG at hc;simp only at hc;split at hc;rename_i t y f E;simp only[bB]at hc;obtain⟨D,ht⟩:=hc;have q:=bW he h1 D;clear h1;have hf: ∃fs k n,P.underlying t=Z (.struct fs)/\fs[f]?=Z k/\k.offset=off/\szT P k.type=Z n/\n≠0:=(by grind [A4]);obtain⟨fs,k,n,K,G,rfl,L,H⟩:=hf;have go: ∀(r g:Nat),a.eval y=.pointer (Z ⟨r,g,Y⟩)->(execOp a.eval o).run P s.w=.ok (.value (.pointer (Z ⟨r,g+k.offset,Y⟩))) s.w:=by simp_all [Addr.add,execOp,Instr.fieldAt,run_underlying,Instr.sureAddr,fieldPlace,lE]
 generalize B:a.eval y=z at q;unfold OO at j;split at j<;>first|(cases j)|cases j
 cases q with
 |ptr _ _ r g m hb=>exact JQ hi (go _ _ B) (by rw[dp];exact .ptr _ _ r g m hb)
 cases q with
 |cp cs _ r g vals A v=>exact JQ hi (go _ _ B) (by rw[dp];exact .cp _ _ r g vals A v)
 cases q with
 |ep _ _ _ _ _ wm _l _f p0 A v _e=>
  obtain⟨r,g,rfl⟩:=p0;refine JQ hi (go _ _ B) (.ep _ _ _ _ _ wm _l _f ⟨_,_,rfl⟩ A v λM _d=>?_);grind
 cases hc
theorem JMS(hi:Inv s)(he:bZ s a.tmps env){x i}(h:(_y F (.extr x i) _m).run ⟨env,s.σ⟩=Z e)(hc:bG P (.extr x i) o.op=O):cB P o a s e:=by
 simp only[_y]at h;obtain⟨u,h1,n⟩:=bind_some h;obtain⟨r,g,rfl⟩:=iD n;clear h n;unfold bG at hc;simp only at hc;split at hc;rename_i y j k;simp only[bB,beq_iff_eq]at hc;obtain⟨C,rfl⟩:=hc;have q:=bW he h1 C;generalize B:a.eval y=z at q;unfold TR at g;split at g;cases q with
 |tup cs vs E A=>
  have D:=JE g;have w:vs[i]?=Z vs[i]:=by simp
  exact JQ hi (v:=vs[i]) (by simp[execOp,k,B,Instr.extract,w]) (A i r _ g w)
 cases g;cases hc
theorem JM2(hi:Inv s)(he:bZ s a.tmps env){f first caps}(h:(_y F (.mkfn f first caps) _m).run ⟨env,s.σ⟩=Z e)(hc:bG P (.mkfn f first caps) o.op=O):cB P o a s e:=by
 simp only[_y]at h;obtain⟨u,h1,w⟩:=bind_some h;obtain⟨v,h2,j⟩:=bind_some w;simp only[RM.run]at j;cases j;clear h w;unfold bG at hc;simp only at hc;split at hc
 ·rename_i g k n D;simp only[bB,beq_iff_eq]at hc;obtain⟨⟨rfl,hf⟩,r⟩:=hc;obtain⟨y,z⟩:=IE he h1 hf;obtain⟨C,A⟩:=IE he h2 r;refine JQ hi (v:=.func (.func f) (k.map a.eval) (n.map a.eval)) (by simp_all [execOp,Instr.makeFunc]) (.fn _ _ _ _ _ (by simpa using y) (by simpa using C) (λi x v q B=>z i x v q ?_) (λi x v q B=>A i x v q ?_))
  all_goals simp_all
 cases hc
theorem JQB(hi:Inv s)(he:bZ s a.tmps env){mx x y}(h:(_y F (.mm mx x y) _m).run ⟨env,s.σ⟩=Z e)(hc:bG P (.mm mx x y) o.op=O):cB P o a s e:=by
 simp only[_y]at h;obtain⟨u,h1,w⟩:=bind_some h;obtain⟨v,h2,n⟩:=bind_some w;obtain⟨r,g,rfl⟩:=iD n;clear h w n;unfold bG at hc;simp only at hc;split at hc;rename_i c E;split at hc;rename_i b B;simp only[bB,beq_iff_eq]at hc;obtain⟨hb,hc⟩:=hc;split at hc;rename_i A z j;simp only[bB]at hc;have C:=bW he h1 hc.1;have D:=bW he h2 hc.2;have _e:c.args.map a.eval= #[a.eval A,a.eval z]:=by apply dl;simp[j]
 unfold mmP at g;split at g;rename_i k p k' q;cases g;have G:=jY C;have H:=jY D;cases mx;simp_all [JQ,vZ,execOp,resolve,invoke,builtin,Builtin.min_,Builtin.min2];simp_all [JQ,vZ,execOp,resolve,invoke,builtin,Builtin.max_,Builtin.max2];cases g;cases hc;cases hc;cases hc
theorem JNI(hi:Inv s)(he:bZ s a.tmps env){str x}(h:(_y F (.len str x) _m).run ⟨env,s.σ⟩=Z e)(hc:bG P (.len str x) o.op=O):cB P o a s e:=by
 simp only[_y]at h;obtain⟨u,h1,D⟩:=bind_some h;obtain⟨r,g,rfl⟩:=iD D;clear h D;unfold bG at hc;simp only at hc;split at hc;rename_i c v;split at hc;rename_i k;split at hc;rename_i y t q B;simp only[bB]at hc;obtain⟨K,ht⟩:=hc;have C:=bW he h1 K;have _e:c.args.map a.eval= #[a.eval y]:=by apply dl;simp[q]
 have A:c.argTypes[0]?=Z t:=by rw[<-Kw,B];rfl
 generalize H:a.eval y=z at C;have hs: ∀l:List UInt8,z=.string ⟨l.toArray⟩->lX P t=O->(execOp a.eval o).run P s.w=.ok (.value (.int I l.length)) s.w:=by intro l hl j;have:=zY j;simp[execOp,v,resolve,k,_e,H,hl,invoke,builtin,Builtin.len_,A,run_underlying this,goInt,wB]
 have L: ∀G n cp,z=.slice G n cp->(elT P t).isSome=O->(execOp a.eval o).run P s.w=.ok (.value (.int I n)) s.w:=by intro G n cp hl j;obtain⟨el,E⟩:=ui.1 j;have:=mE E;simp[execOp,v,resolve,k,_e,H,hl,invoke,builtin,Builtin.len_,A,run_underlying this,goInt]
 unfold NC at g;split at g<;>first|(cases g)|cases g
 grind [JQ,vS,vZ];cases C with
 |p _ _ _d=>cases _d<;>simp_all [JQ,vZ]
 cases C<;>grind [JQ,vZ]
 cases hc;cases hc;cases hc
end
end Go.Am
end
section
namespace Go.Am
section
variable {P:Program} {F:Orc} {s:Sn} {a:Act} {env:List (Nat×AV)} {o:Oper} {_m:Nat} {e:Eff}
theorem lV.of_p{s:Sn}{_l _f v}(h:JH s (.p (.sl _l _f)) v):lV s _l _f v:=by
 grind [of_sl,cases Go.Am.JH]
theorem C0(hi:Inv s){_l:Nat}{x:AV}{_f:List (List PV)}{v:Value}(h:(gL _l x).run ⟨env,s.σ⟩=Z _f)(hr:JH s x v):
  (∃l,x=.p (.s l)/\_l=1/\_f=l.map oA/\v=.string ⟨l.toArray⟩)\/lV s _l _f v:=by
 unfold gL at h;split at h;split at h;rename_i e;subst e;simp only[RM.run]at h;cases h;exact .inr (.of_p hr);cases h;grind [RM.run,vS];simp only[RM.run]at h;split at h;rename_i blk hb;split at h;split at h;rename_i hc;obtain⟨rfl,hc⟩:=hc;simp only[RM.run]at h;cases h;exact .inr (.of_slr hi hr hb hc);cases h;cases h;cases h;cases h
theorem n3{α:Type}{_l:Nat}: ∀{_f:List (List α)},(∀row∈_f,row.length=_l)-> ∀{k:Nat} {x:α},_f.flatten[k]?=Z x->
  ∃i j row,k=i*_l+j/\_f[i]?=Z row/\row[j]?=Z x/\j<_l
 |[],_,k,x,h=>by simp at h
 |r::_f,hl,k,x,h=>by
  simp only[uW]at h;have w:r.length=_l:=hl r (by simp);rcases List.getElem?_append (l₁:=r) (l₂:=_f.flatten) (i:=k)▸h with e;split at e;exact⟨0,k,r,by simp,rfl,e,by omega⟩;obtain⟨i,j,row,v,q,o,g⟩:=n3 (λrow n=>hl row (by simp[n])) e;exact⟨i+1,j,row,by grind,by simpa using q,o,g⟩
theorem WS{α:Type}{_l:Nat}: ∀{_f:List (List α)},(∀row∈_f,row.length=_l)->_f.flatten.length=_f.length*_l
 |[],_=>by simp
 |r::_f,hl=>by
  have:=WS (_f:=_f) (λrow e=>hl row (by simp[e]));grind
theorem lV.cells{s:Sn}{_l _f v}(h:lV s _l _f v):
  ∃(a:Option Addr) (cap:Nat) (vs:List Value),v=.slice a _f.length cap/\_f.length<=cap/\vs.length=_f.length*_l/\
   (∀(k:Nat) x,_f.flatten[k]?=Z x-> ∃u,vs[k]?=Z u/\J0d s.w s.g.C x u)/\
   (_f=[]\/ ∃r o,a=Z ⟨r,o,Y⟩/\ ∀(k:Nat) u,vs[k]?=Z u->cellAt s.w r (o+k)=Z u)/\(∀row∈_f,row.length=_l):=by
 obtain⟨a,cap,h1,h2,n,q⟩:=h;rcases q with rfl|⟨r,o,B,D⟩;simp_all;refine⟨a,cap,(List.range (_f.length*_l)).map λk=>(cellAt s.w r (o+k)).getD .nilFunc,h1,h2,by simp,λk x hk=>?_,.inr ⟨r,o,B,λk u hk=>?_⟩,n⟩;obtain⟨i,j,row,z,y,A,_⟩:=n3 n hk;grind [WS];have e:=JE hk;simp at e;rw[iM,List.getElem?_range e]at hk;simp at hk;have:k<_f.flatten.length:=by grind [WS]
 obtain⟨i,j,row,z,y,A,_⟩:=n3 n (bF this);grind
theorem Ej: ∀{_f:List (List PV)} {l:List UInt8},wC _f=Z l-> ∃e:List Int,_f=e.map (λn=>[PV.i .u8 n])/\l=e.map λn=>UInt8.ofNat n.toNat
 |[],l,h=>by simp_all [wC]
 |row::_f,l,h=>by
  unfold wC at h;split at h;simp_all;rename_i n r j;injection j with e1 e2;subst e1 e2;split at h;rename_i l' g;cases h;obtain⟨e,h1,h2⟩:=Ej g;exact⟨n::e,by simp[h1],by simp[h2]⟩;cases h;cases h
theorem JEk(e:List Int): ∀b:ByteArray,(e.foldl (λr n=>r.push (UInt8.ofNat n.toNat)) b)=⟨b.data++(e.map λn=>UInt8.ofNat n.toNat).toArray⟩:=by
 induction e with
 |nil=>intro b;simp
 |cons n e ih=>simp_all
theorem IT(r o n:Nat):Addr.add ⟨r,o,Y⟩ n=⟨r,o+n,Y⟩:=by simp[Addr.add]
theorem B7{w:World}{r o:Nat}(vs:List Value)(h: ∀(k:Nat) u,vs[k]?=Z u->cellAt w r (o+k)=Z u):
  (loadCells ⟨r,o,Y⟩ vs.length).run P w=.ok vs.toArray w:=
 run_loadCells_list w _ vs λj v e=>by grind [IT,wD]
theorem JML(hi:Inv s)(he:bZ s a.tmps env){k x}(hk: ∀own,k≠.toBytes own)(h:(_y F (.conv k x) _m).run ⟨env,s.σ⟩=Z e)(hc:bG P (.conv k x) o.op=O):cB P o a s e:=by
 simp only[_y]at h;obtain⟨u,h1,g⟩:=bind_some h;clear h;unfold bG at hc;simp only at hc;split at hc;rename_i _b dst y _e;simp only[bB]at hc;obtain⟨V,ht⟩:=hc;have q:=bW he h1 V;generalize U:a.eval y=z at q;split at g;rename_i k' _a n;simp only[RM.run]at g;cases g;simp only[bB]at ht;obtain⟨ks,hs⟩:=JH4 ht.1;have hd:=JG6 ht.2;have:=jY q;simp_all [JQ,execOp,convert,run_underlying,Conv.intToInt,vZ];rename_i l;simp only[RM.run]at g;cases g;simp only[bB]at ht;have hs:=zY ht.1;have hd:=zY ht.2;have:=vS q;simp_all [JQ,execOp,convert,run_underlying];simp only[bB]at ht;obtain⟨ht,hd⟩:=ht;have hd:=zY hd;split at ht;rename_i el K;simp only[bB,beq_iff_eq]at ht;have hs:=mE K;have L:=Bg ht.1;obtain⟨_f,N,A⟩:=bind_some g;clear g;split at A;rename_i l hl;simp only[RM.run]at A;cases A;rcases C0 hi N q with⟨l',rfl,_,Q,H⟩|_d
 
 have:=vS q;subst this;have:l=l':=by
  have: ∀l:List UInt8,wC (l.map oA)=Z l:=by
   intro l
   induction l with
   |nil=>rfl
   |cons b l ih=>simp[wC,oA,ih]
  simp_all
 simp_all [JQ,execOp,convert,run_underlying];obtain⟨C,cap,vs,H,D,hlen,hrel,B,G⟩:=_d.cells;obtain⟨j,_c,rfl⟩:=Ej hl;have hvs:vs=j.map (Value.int .u8):=by
  apply zQ6;intro k;have W:_f.flatten=j.map (PV.i .u8):=by rw[_c];clear _c hl hrel hlen G B H D N q;induction j with|nil=>rfl|cons n j ih=>simp[ih]
  by_cases hk:k<j.length;obtain⟨u,hu,hp⟩:=hrel k (.i .u8 j[k]) (by simp_all);grind [cases Go.Am.J0d];simp_all
 have R:_f.length=vs.length:=by omega
 subst H;have E:(Conv.bytesToString (.slice C _f.length cap)).run P s.w=.ok (.string ⟨(j.map λn=>UInt8.ofNat n.toNat).toArray⟩) s.w:=by
  rcases B with S|⟨r,T,rfl,hm⟩;have M:j=[]:=by simp_all
  subst M;cases C with
  |none=>simp[Conv.bytesToString];rfl
  |some C=>have:=run_bytesToString (P:=P) s.w C _f.length cap [] (by simp_all [loadCells,loadCellsFrom]);rw[this];rfl
  have:=run_bytesToString (P:=P) s.w ⟨r,T,Y⟩ _f.length cap j (by grind [B7]);simp_all [JEk]
 refine JQ hi (v:=.string ⟨(j.map λn=>UInt8.ofNat n.toNat).toArray⟩) ?_ (Qx _);simp[execOp,_e,U,convert,run_underlying hs,run_underlying hd,run_underlying L,E];cases A;cases ht;simp_all;cases g;cases hc
end
end Go.Am
end
section
namespace Go.Am
theorem PW{α:Type}{cs l:List α}{off size:Nat}(h:sub cs off size=Z l):l.length=size/\off+size<=cs.length/\ ∀(i:Nat),i<size->l[i]?=cs[off+i]?:=by
 grind [sub]
theorem QF: ∀{cs:List AV} {l:List PV},unp cs=Z l->cs=l.map .p
 |[],l,h=>by grind [unp]
 |x::cs,l,h=>by
  unfold unp at h;split at h;simp_all;rename_i c r e;injection e with e1 e2;subst e1 e2;split at h;rename_i l' hl;cases h;simp[QF hl];cases h;cases h
section
variable {P:Program} {F:Orc} {s:Sn} {a:Act} {env:List (Nat×AV)} {o:Oper} {_m:Nat} {e:Eff}
theorem lr{agg:Bool}{l:List PV}{x:AV}{vs:List Value}(h:qJ agg l=Z x)(hl:l.length=vs.length)
  (hr: ∀(i:Nat) y v,l[i]?=Z y->vs[i]?=Z v->J0d s.w s.g.C y v):
  (agg=O/\JH s x (.agg vs.toArray))\/(agg=J/\ ∃v,vs=[v]/\JH s x v):=by
 cases agg with
 |true=>simp[qJ]at h;subst h;exact .inl ⟨rfl,.data _ _ (by simpa using hl) λi y v j e=>hr i y v j (by simpa using e)⟩
 |false=>
  simp only[qJ,fK,if_false]at h;split at h;cases h;obtain⟨v,rfl⟩: ∃v,vs=[v]:=ee.1 (by simp_all);exact .inr ⟨rfl,v,rfl,.p _ _ (hr 0 _ v rfl rfl)⟩;cases h
theorem VB{agg:Bool}{l:List AV}{x:AV}{vs:List Value}(h:mD agg l=Z x)(hl:l.length=vs.length)(h1: ∀v∈vs,v.oneCell'=O)
  (hr: ∀(i:Nat) y v,l[i]?=Z y->vs[i]?=Z v->JH s y v):
  (agg=O/\JH s x (.agg vs.toArray))\/(agg=J/\ ∃v,vs=[v]/\JH s x v):=by
 cases agg with
 |true=>
  simp only[mD,if_true]at h;split at h;rename_i q j;cases h;have:=QF j;subst this;refine .inl ⟨rfl,.data _ _ (by simpa using hl) λi y v g e=>?_⟩;have:=hr i (.p y) v (by simp[g]) (by simpa using e);cases this<;>simp_all
  cases h;exact .inl ⟨rfl,.agg _ _ (by simpa using hl) (λi v e=>h1 v (by grind)) λi y v g e=>hr i y v g (by simpa using e)⟩
 |false=>
  simp only[mD,fK,if_false]at h;split at h;cases h;obtain⟨v,rfl⟩: ∃v,vs=[v]:=ee.1 (by simp_all);exact .inr ⟨rfl,v,rfl,hr 0 _ v rfl rfl⟩;cases h
theorem Bs{agg:Bool}{off size:Nat}{x r:AV}{v:Value}{t:TypeId}(h:tE agg off size x=Z r)(hr:JH s x v)(ht:agT P t=Z agg)(hs:szT P t=Z size)
  (h1:agg=O\/size=1): ∃cs u,v=.agg cs/\(part t cs off).run P s.w=.ok u s.w/\JH s r u:=by
 have go: ∀(cs:Array Value) (vs:List Value),vs.length=size->(∀(i:Nat),i<size->vs[i]?=cs[off+i]?)->off+size<=cs.size->
   ((agg=O/\JH s r (.agg vs.toArray))\/(agg=J/\ ∃v,vs=[v]/\JH s r v))-> ∃u,(part t cs off).run P s.w=.ok u s.w/\JH s r u:=by
  intro cs vs j k B e;rcases e with⟨rfl,g⟩|⟨rfl,v,rfl,g⟩;refine⟨.agg (cs.extract off (off+size)),by simp_all [part,IJ,lE],?_⟩;have:cs.extract off (off+size)=vs.toArray:=(by grind);simp_all;simp at j;subst j;have n:=k 0 (by omega);simp at n;exact⟨v,by simp[part,IJ ht,<-n],g⟩
 unfold tE at h;split at h;rename_i cs;split at h;rename_i l hl;obtain⟨o,y,q⟩:=PW hl;cases hr with
 |data _ vs z A=>
  have e:=lr (s:=s) (vs:=((vs.toList.drop off).take size)) h (by simp;omega) (by
   grind)
  grind
 cases h;rename_i cs;split at h;rename_i l hl;obtain⟨o,y,q⟩:=PW hl;cases hr with
 |agg _ vs z C A=>
  have e:=VB (s:=s) (vs:=((vs.toList.drop off).take size)) h (by simp;omega) (by
   grind [h!]) (by
   grind)
  grind
 cases h;cases h
theorem JJs(hi:Inv s)(he:bZ s a.tmps env){agg off size x}(h:(_y F (.field agg off size x) _m).run ⟨env,s.σ⟩=Z e)(hc:bG P (.field agg off size x) o.op=O):cB P o a s e:=by
 simp only[_y]at h;obtain⟨u,h1,g⟩:=bind_some h;obtain⟨r,w,rfl⟩:=iD g;clear h g;unfold bG at hc;simp only at hc;split at hc;rename_i t y f A;simp only[bB]at hc;obtain⟨z,ht⟩:=hc;split at ht;rename_i fs B;split at ht;rename_i D C;simp only[bB,beq_iff_eq]at ht;obtain⟨⟨⟨E,n⟩,k⟩,j⟩:=ht;obtain⟨cs,v,G,hp,q⟩:=Bs w (bW he h1 z) k n (by simpa using j);exact JQ hi (v:=v) (by simp_all [execOp,Instr.field,run_underlying,A4,asAgg]) q;cases ht;cases ht;cases hc
theorem JM4(hi:Inv s)(he:bZ s a.tmps env){x i}(h:(_y F (.sidx x i) _m).run ⟨env,s.σ⟩=Z e)(hc:bG P (.sidx x i) o.op=O):cB P o a s e:=by
 simp only[_y]at h;obtain⟨u,h1,r⟩:=bind_some h;obtain⟨v,h2,g⟩:=bind_some r;clear h r;unfold bG at hc;simp only at hc;split at hc;rename_i t y j C;simp only[bB]at hc;obtain⟨⟨A,B⟩,ht⟩:=hc;have w:=bW he h1 A;have z:=bW he h2 B;split at g;rename_i l k n;split at g;rename_i H;split at g;rename_i b hb;simp only[RM.run]at g;cases g;have E:=vS w;have G:=jY z;have D:(⟨l.toArray⟩:ByteArray)[n.toNat]?=Z b:=by have q:=JE hb;rw[bF q]at hb;rw[getElem?_pos _ _ (by grind [wB])];injection hb with hb;rw[<-hb];rfl
 refine JQ hi (v:=.int .u8 b.toNat) ?_ (vZ _ _);simp_all [execOp,Instr.index,asIntOf,run_underlying,zY];cases g;cases g;cases g;cases hc
theorem JMN(hi:Inv s)(he:bZ s a.tmps env){agg len _l x i}(h:(_y F (.aidx agg len _l x i) _m).run ⟨env,s.σ⟩=Z e)(hc:bG P (.aidx agg len _l x i) o.op=O):cB P o a s e:=by
 simp only[_y]at h;obtain⟨u,h1,A⟩:=bind_some h;obtain⟨v,h2,g⟩:=bind_some A;clear h A;unfold bG at hc;simp only at hc;split at hc;rename_i t y j q;simp only[bB]at hc;obtain⟨⟨K,M⟩,ht⟩:=hc;have E:=bW he h1 K;have G:=bW he h2 M;split at ht;rename_i n el z;simp only[bB,beq_iff_eq]at ht;obtain⟨⟨⟨rfl,B⟩,H⟩,C⟩:=ht;split at g;rename_i k m;split at g;rename_i L;obtain⟨r,_d,rfl⟩:=iD g;obtain⟨cs,w,N,hp,_e⟩:=Bs _d E H B (by simpa using C);have D:=jY G;exact JQ hi (v:=w) (by simp[execOp,q,N,D,Instr.index,asIntOf,run_underlying (zm z),L,lE B,hp]) _e;cases g;cases g;cases ht;cases hc
theorem JKx(hi:Inv s)(he:bZ s a.tmps env){len _l x i}(h:(_y F (.aaddr len _l x i) _m).run ⟨env,s.σ⟩=Z e)(hc:bG P (.aaddr len _l x i) o.op=O):cB P o a s e:=by
 simp only[_y]at h;obtain⟨u,h1,_d⟩:=bind_some h;obtain⟨v,h2,C⟩:=bind_some _d;obtain⟨r,g,rfl⟩:=iD C;clear h _d C;unfold bG at hc;simp only at hc;split at hc;rename_i t y j H;simp only[bB]at hc;obtain⟨⟨_c,R⟩,ht⟩:=hc;have B:=bW he h1 _c;have M:=bW he h2 R;split at ht;rename_i n el _e;simp only[bB,beq_iff_eq]at ht;obtain⟨rfl,N⟩:=ht;unfold OV at g;split at g;rename_i k m;split at g;rename_i Q;have K:=jY M;have go: ∀(r q:Nat),a.eval y=.pointer (Z ⟨r,q,Y⟩)->(execOp a.eval o).run P s.w=.ok (.value (.pointer (Z ⟨r,q+m.toNat*_l,Y⟩))) s.w:=by intro r q A;simp[execOp,H,A,K,Instr.indexAt,asIntOf,run_underlying (zm _e),Instr.sureAddr,Q,lE N,IT]
 generalize A:a.eval y=z at B;split at g<;>first|(cases g)|cases g
 cases B with
 |ptr _ _ r q L hb=>exact JQ hi (go _ _ A) (by rw[dp];exact .ptr _ _ r q L hb)
 cases B with
 |cp cs _ r q vals G D=>exact JQ hi (go _ _ A) (by rw[dp];exact .cp _ _ r q vals G D)
 cases B with
 |ep _ _ _ _ _ wm E _f p0 G D S=>
  obtain⟨r,q,rfl⟩:=p0;refine JQ hi (go _ _ A) (.ep _ _ _ _ _ wm E _f ⟨_,_,rfl⟩ G D λU T=>?_);grind
 cases g;cases g;cases ht;cases hc
theorem JK9(hi:Inv s)(he:bZ s a.tmps env){_l x i}(h:(_y F (.iaddr _l x i) _m).run ⟨env,s.σ⟩=Z e)(hc:bG P (.iaddr _l x i) o.op=O):cB P o a s e:=by
 simp only[_y]at h;obtain⟨u,h1,N⟩:=bind_some h;obtain⟨v,h2,g⟩:=bind_some N;clear h N;unfold bG at hc;simp only at hc;split at hc;rename_i t y j M;simp only[bB]at hc;obtain⟨⟨E,hj⟩,ht⟩:=hc;have G:=bW he h1 E;have S:=bW he h2 hj;split at ht;rename_i el _c;simp only[beq_iff_eq]at ht;have go: ∀(r A len cap:Nat) k (m:Int),a.eval j=.int k m->a.eval y=.slice (Z ⟨r,A,Y⟩) len cap->0<=m->m<len->
   (execOp a.eval o).run P s.w=.ok (.value (.pointer (Z ⟨r,A+m.toNat*_l,Y⟩))) s.w:=by
  intro r A len cap k m C D _a _e;simp[execOp,M,D,C,Instr.indexAt,asIntOf,run_underlying (mE _c),_a,_e,lE ht,IT]
 unfold mZ at g;split at g;rename_i B _f k n;split at g;rename_i Q;subst Q;split at g;rename_i row q;simp only[RM.run]at g;cases g;unfold UK at q;split at q;rename_i L;have C:=jY S;generalize D:a.eval y=z at G;cases G with
 |p _ _ V=>
  cases V with
  |sl0 _ ad cap=>simp at q
  |sl _ _ r A cap vals p1 p2 T U=>have _e:=JE q;refine JQ hi (go r A _ cap k n C D L (by omega)) ?_;have:=JH.cp (s:=s) row 0 r (A+n.toNat*_l) (λj=>vals n.toNat j) (λj x E=>T n.toNat j row x q E) (λj x E=>U n.toNat j row x q E);simp_all
 cases q;cases g;cases g;rename_i b j' m k n;simp only[RM.run]at g;split at g;rename_i blk hb;split at g;rename_i wm B _f;split at g;rename_i K;obtain⟨rfl,R,L,a7⟩:=K;simp only[RM.run]at g;cases g;have C:=jY S;generalize D:a.eval y=z at G;cases G with
 |_r _ _ _ _ wm' B rows' q0 H q2 q3=>
  have _d:s.σ[b]?=Z (.arr wm _l _f):=hb;rw[_d]at H;injection H with H;injection H with a1 a2 a3;subst a1 a2 a3;rcases q3 R with⟨_,_,a6,_⟩|⟨r,cap,c,e1,fz,_b,hv,W,hh,hs⟩;omega;subst hv;refine JQ hi (go r _ _ cap k n C D L (by omega)) (.ep _ _ _ _ _ wm _l _f ⟨_,_,rfl⟩ _d (zQ0 _) λ_ _=>⟨r,_b,?_⟩);grind
 cases g;cases g;cases g;cases g;cases ht;cases hc
end
end Go.Am
end
section
namespace Go.Am
theorem fM(a b:List (Nat×_w))(σ:List _w):upd (a++b) σ=upd b (upd a σ):=by simp[upd]
section
variable {P:Program} {F:Orc} {s:Sn} {a:Act} {env:List (Nat×AV)} {o:Oper} {_m:Nat} {e:Eff}
theorem QT{e:List _w}(hi:Inv s)(j:Frz e s.σ){b i n:Nat}{y:List PV×List (Nat×_w)}{v:Value}(h:(fz (._r b i n)).run ⟨env,e⟩=Z y)(hr:JH s (._r b i n) v):
  ∃g',Inv ⟨upd y.2 s.σ,g',s.w⟩/\bK s ⟨upd y.2 s.σ,g',s.w⟩/\Frz s.σ (upd y.2 s.σ)/\ ∃c,y.1=[c]/\J0d s.w g'.C c v:=by
 simp only[fz,RM.run]at h;split at h;rename_i blk hb;split at h;rename_i wm _l _f;split at h;rename_i hc;simp only[RM.run]at h;cases h;obtain⟨wm',g⟩:=j.1 b _ _ _ hb;obtain⟨g',h1,h2,o,k⟩:=JI7 hi hr g hc;exact⟨g',h1,h2,o,_,rfl,k⟩;cases h;cases h;cases h
theorem JLI{e:List _w}(hi:Inv s)(j:Frz e s.σ){x:AV}{y:List PV×List (Nat×_w)}{v:Value}(h:(fz.fz1 x).run ⟨env,e⟩=Z y)(hr:JH s x v):
  ∃g',Inv ⟨upd y.2 s.σ,g',s.w⟩/\bK s ⟨upd y.2 s.σ,g',s.w⟩/\Frz s.σ (upd y.2 s.σ)/\ ∃c,y.1=[c]/\J0d s.w g'.C c v:=by
 cases x with
 |p c=>
  simp only[fz.fz1,RM.run]at h;cases h;cases hr with
  |p _ _ hr=>exact⟨s.g,hi,.refl s,.refl _,c,rfl,hr⟩
 |_r b i n=>exact QT hi j (by exact h) hr
 |_=>grind [fz.fz1,RM.run]
theorem Qe{z:List _w}: ∀{xs:List AV} {s:Sn} {y:List PV×List (Nat×_w)} {vs:List Value},Inv s->Frz z s.σ->(fz.fzL xs).run ⟨env,z⟩=Z y->xs.length=vs.length->
  (∀(i:Nat) x v,xs[i]?=Z x->vs[i]?=Z v->JH s x v)->
  ∃g',Inv ⟨upd y.2 s.σ,g',s.w⟩/\bK s ⟨upd y.2 s.σ,g',s.w⟩/\Frz s.σ (upd y.2 s.σ)/\y.1.length=vs.length/\
   ∀(i:Nat) c v,y.1[i]?=Z c->vs[i]?=Z v->J0d s.w g'.C c v
 |[],s,y,vs,hi,e,h,hl,j=>by
  simp only[fz.fzL,RM.run]at h;cases h;exact⟨s.g,hi,.refl s,.refl _,by simpa using hl,λi c v hc=>by simp at hc⟩
 |x::xs,s,y,[],hi,e,h,hl,j=>by simp at hl
 |x::xs,s,y,v::vs,hi,e,h,hl,j=>by
  simp only[fz.fzL]at h;obtain⟨n,h1,h⟩:=bind_some h;obtain⟨F,h2,h⟩:=bind_some h;simp only[RM.run]at h;cases h;obtain⟨B,i1,r,q,c,hc,E⟩:=JLI hi e h1 (j 0 x v rfl rfl);obtain⟨A,i2,o,D,_e,K⟩:=Qe (s:=⟨upd n.2 s.σ,B,s.w⟩) i1 (e.trans q) h2 (by simpa using hl) λi x v G H=>(j (i+1) x v (by simpa using G) (by simpa using H)).mono hi r;refine⟨A,by grind [fM],by rw[fM];exact r.trans o,by rw[fM];exact q.trans D,by simp[hc,_e],λi c' _d hc' k=>?_⟩;rw[hc]at hc';cases i with
  |zero=>simp at hc' k;subst hc' k;exact J0d.mono (s0:=⟨upd n.2 s.σ,B,s.w⟩) (s:=⟨upd F.2 (upd n.2 s.σ),A,s.w⟩) i1 o E
  |succ i=>grind
theorem j9{k:List _w}(hi:Inv s)(j:Frz k s.σ){x:AV}{y:List PV×List (Nat×_w)}{v:Value}(h:(fz x).run ⟨env,k⟩=Z y)(hr:JH s x v):
  ∃g',Inv ⟨upd y.2 s.σ,g',s.w⟩/\bK s ⟨upd y.2 s.σ,g',s.w⟩/\Frz s.σ (upd y.2 s.σ)/\y.1.length=v.cells.size/\
   ∀(i:Nat) c u,y.1[i]?=Z c->v.cells[i]?=Z u->J0d s.w g'.C c u:=by
 cases x with
 |p c=>
  simp only[fz,RM.run]at h;cases h;cases hr with
  |p _ _ hr=>
   refine⟨s.g,hi,.refl s,.refl _,by rw[hr.cells1];rfl,λi c' u hc e=>?_⟩;rw[hr.cells1]at e;grind
 |data cs=>
  simp only[fz,RM.run]at h;cases h;cases hr with
  |data _ vs h1 h2=>exact⟨s.g,hi,.refl s,.refl _,h1,λi c u hc e=>h2 i c u hc e⟩
 |_r b i n=>
  obtain⟨g',h1,h2,q,c,hc,o⟩:=QT hi j h hr;refine⟨g',h1,h2,q,by rw[hc,o.cells1];rfl,λi c' u hc' e=>?_⟩;rw[o.cells1]at e;grind
 |agg cs=>
  simp only[fz]at h;cases hr with
  |agg _ vs h1 G h2=>
   obtain⟨g',A,E,B,F,D⟩:=Qe (vs:=vs.toList) hi j h (by simpa using h1) λi x v r z=>h2 i x v r (by simpa using z);grind [Value.cells]
 |_=>grind [fz,RM.run]
theorem IH(he:bZ s a.tmps env){x:Option Opd}{y:Option Operand}{v:Option AV}(h:(evo x).run ⟨env,s.σ⟩=Z v)(hc:zA x y=O):
  (v=Y/\y=Y)\/ ∃u q,v=Z u/\y=Z q/\JH s u (a.eval q):=by
 cases x with
 |none=>
  grind [evo,RM.run,zA]
 |some x=>
  cases y with
  |none=>grind [zA]
  |some y=>
   simp only[evo]at h;obtain⟨u,h1,h⟩:=bind_some h;simp only[RM.run]at h;cases h;exact .inr ⟨u,y,rfl,rfl,bW he h1 hc⟩
theorem XI{x:AV}{top n j:Nat}{v:Value}(h:rU (Z x) top j=Z n)(hr:JH s x v)(g:Nat)(o:top<=g)(k:BoundsCode)(w:World):
  (Instr.sliceBound v g k).run P w=.ok n w/\n<=top:=by
 unfold rU at h;split at h;simp_all;rename_i e;cases e;split at h;rename_i hc;cases h;have:=jY hr;grind [Instr.sliceBound,asIntOf,Sem.run_pure];cases h;cases h
theorem JHW{n:Nat}{lo hi:Option AV}{c:Nat×Nat}(h:xX n lo hi=Z c):rU hi n n=Z c.2/\rU lo c.2 0=Z c.1:=by
 grind [xX]
theorem qh(he:bZ s a.tmps env){lo hi:Option Opd}{o n:Option Operand}{l h:Option AV}{len cap:Nat}{c:Nat×Nat}{isSlice:Bool}
  (h1:(evo lo).run ⟨env,s.σ⟩=Z l) (h2:(evo hi).run ⟨env,s.σ⟩=Z h) (x:zA lo o=O) (B:zA hi n=O)
  (hc:xX len l h=Z c) (r:len<=cap) (w:World):
  (Instr.sliceBounds isSlice len cap (o.map a.eval) (n.map a.eval) Y).run P w=.ok (c.1,c.2,cap) w/\c.1<=c.2/\c.2<=len:=by
 obtain⟨k,e⟩:=JHW hc;obtain⟨i,j⟩:=c;rcases IH he h2 B with⟨rfl,rfl⟩|⟨u,q,rfl,rfl,z⟩;simp[rU]at k;subst k;rcases IH he h1 x with⟨rfl,rfl⟩|⟨A,q',rfl,rfl,g⟩;simp[rU]at e;subst e;simp[Instr.sliceBounds];obtain⟨v,y⟩:=XI (P:=P) e g len (zQ0 _) .sliceB w;simp_all [Instr.sliceBounds];rcases IH he h1 x with⟨rfl,rfl⟩|⟨A,q',rfl,rfl,g⟩;obtain⟨v,y⟩:=XI (P:=P) k z cap r (if isSlice then .sliceAcap else .sliceAlen) w;simp[rU]at e;subst e;simp_all [Instr.sliceBounds];obtain⟨v,y⟩:=XI (P:=P) k z cap r (if isSlice then .sliceAcap else .sliceAlen) w;obtain⟨C,D⟩:=XI (P:=P) e g j (zQ0 _) .sliceB w;simp_all [Instr.sliceBounds]
theorem Ox{_l:Nat}{_f:List (List PV)}{v:Value}{i j:Nat}(h:J0d s.w s.g.C (.sl _l _f) v)(hij:i<=j)(hj:j<=_f.length):
  ∃e cap,v=.slice e _f.length cap/\_f.length<=cap/\
   J0d s.w s.g.C (.sl _l ((_f.drop i).take (j-i))) (.slice (if cap=i then e else e.map (·.add (i*_l))) (j-i) (cap-i)):=by
 have hlen:((_f.drop i).take (j-i)).length=j-i:=by simp;omega
 cases h with
 |sl0 _ e cap=>
  have q:j=0:=by simpa using hj
  have n:i=0:=by omega
  subst q n;refine⟨e,cap,rfl,zQ2 _,?_⟩;simpa using J0d.sl0 (w:=s.w) (C:=s.g.C) _l _ _
 |sl _ _ r o cap vals A z F G=>
  refine⟨_,cap,rfl,A,?_⟩;by_cases y:cap=i;have B:j-i=0:=by omega
  rw[B];simpa using J0d.sl0 (w:=s.w) (C:=s.g.C) _l _ _;rw[if_neg y];have:=J0d.sl (w:=s.w) (C:=s.g.C) _l ((_f.drop i).take (j-i)) r (o+i*_l) (cap-i) (λk m=>vals (i+k) m) (by omega)
   (λrow D=>z row (zQ7 (uz D)))
   (λk m row x hk E=>by
    grind)
   (λk m row x hk E=>by
    grind)
  grind [IT]
def DJ(k:SK)(x:AV)(lo hi:Option AV):Option AV:=
 match k with
 | .str=>zH x lo hi
 | .sl _l=>zE _l x lo hi
theorem P4(hi:Inv s){k:SK}{t:TypeId}{y:Operand}{A z:Option Operand}{q:Operand}{c:PV}{l _e:Option AV}{u r:AV}{g':Gh}{ws:List (Nat×_w)}
  (D:o.op=.slice t y A z (Z q)) (ht:(match k with
   | .str=>lX P t
   | .sl _l=>(match elT P t with|some e=>szT P e==Z _l|none=>J))=O)
  (hl:l=Y->A=Y) (G: ∀H,_e=Z H-> ∃q',z=Z q'/\JH s H (a.eval q')) (hu:JH s u (a.eval q))
  (hs:mA k (.p c) l _e (Z u)=Z r) (E:Inv ⟨upd ws s.σ,g',s.w⟩) (t':bK s ⟨upd ws s.σ,g',s.w⟩) (hr:J0d s.w g'.C c (a.eval y)):cB P o a s ⟨r,ws⟩:=by
 cases k with
 |str=>grind [mA]
 |sl _l=>
  simp only[mA]at hs;unfold TM at hs;split at hs;rename_i _c _f Q h1 S T h;cases h;split at hs;rename_i hc;obtain⟨rfl,rfl,rfl⟩:=hc;cases hs;obtain⟨q',rfl,B⟩:=G _ rfl;obtain rfl:=hl rfl;have W:=jY B;have V:=jY hu;simp only at ht;split at ht;rename_i el F;simp only[beq_iff_eq]at ht;obtain⟨g,cap,_d,N,hrel⟩:=Ox (s:=⟨s.σ,g',s.w⟩) (i:=0) (j:=_f.length) hr (zQ2 _) (zQ0 _);have hb: ∀w:World,(Instr.sliceBounds O _f.length cap Y (Z (a.eval q')) (Z (a.eval q))).run P w=.ok (0,_f.length,_f.length) w:=by simp_all [Instr.sliceBounds,Instr.sliceBound,asIntOf]
  have n:J0d s.w g'.C (.slc _l _f) (.slice g _f.length _f.length):=by
   refine .slc _l _f g ?_;rw[_d]at hr;cases hr with
   |sl0=>exact .sl0 _ _ _
   |sl _ _ r o cap vals R M K L=>exact .sl _l _f r o _f.length vals (zQ0 _) M K L
  refine jJ (e:=⟨_,ws⟩) (w':=s.w) (g':=g') (v:=.slice g _f.length _f.length) ?_ E t' (.p _ _ n);have U:(if _f.length=0 then g else g.map λx=>x.add (0*_l))=g:=by simp[Addr.add]
  simp only[execOp,D,_d];simp[Instr.sliceAt,Instr.slice,run_underlying (mE F),hb,lE ht];simp_all;cases ht;cases hs;cases hs
theorem JJ3(hi:Inv s)(he:bZ s a.tmps env){k x lo v mx}(h:(_y F (.slice k x lo v mx) _m).run ⟨env,s.σ⟩=Z e)(hc:bG P (.slice k x lo v mx) o.op=O):cB P o a s e:=by
 simp only[_y]at h;obtain⟨u,h1,h⟩:=bind_some h;obtain⟨l,h2,h⟩:=bind_some h;obtain⟨A,_c,h⟩:=bind_some h;obtain⟨m,h4,h⟩:=bind_some h;unfold bG at hc;simp only at hc;split at hc
 ·rename_i t y V T ab D;simp only[bB]at hc;obtain⟨⟨⟨⟨hx,N⟩,M⟩,c3⟩,ht⟩:=hc;have j:=bW he h1 hx;rcases IH he h4 c3 with⟨rfl,rfl⟩|⟨um,qm,rfl,rfl,_d⟩
  case inr=>
   have G:l=Y->V=Y:=(by grind [IH]);have _e: ∀u',A=Z u'-> ∃q',T=Z q'/\JH s u' (a.eval q'):=(by grind [IH]);split at h;rename_i b i n;obtain⟨y',Q,h⟩:=bind_some h;obtain⟨g',i1,_a,f1,c,K,U⟩:=QT hi (.refl _) Q j;split at h;rename_i c' hc';rw[K]at hc';cases hc';split at h;rename_i r q;simp only[RM.run]at h;cases h;exact P4 hi D ht G _e _d q i1 _a U;cases h;cases h;rename_i x' S;obtain⟨r,q,rfl⟩:=iD h;cases u with
   |p c=>
    cases j with
    |p _ _ j=>exact P4 (ws:=[]) (g':=s.g) hi D ht G _e _d q hi (.refl s) j
   |_=>grind [mA,TM]
  have z: ∀{c:AV} {r},mA k c l A Y=Z r->(Y:Option Operand)=Y/\DJ k c l A=Z r:=by intro c r hs;exact⟨rfl,hs⟩
  have R: ∀{b:List UInt8} {r},mA k (.p (.s b)) l A Y=Z r->a.eval y=.string ⟨b.toArray⟩->cB P o a s ⟨r,[]⟩:=by
   intro b r hs hz;obtain⟨_,E⟩:=z hs;clear hs;have hs:=E;clear E;cases k with
   |sl _l=>grind [DJ,zE]
   |str=>
    simp only[DJ,zH]at hs;split at hs;rename_i c hc;cases hs;have a9:=zY ht;obtain⟨hb,hij,a8⟩:=qh (P:=P) (isSlice:=false) (cap:=b.length) he h2 _c N M hc (zQ0 _) s.w;have aa:(⟨b.toArray⟩:ByteArray).extract c.1 c.2=⟨((b.drop c.1).take (c.2-c.1)).toArray⟩:=by apply ByteArray.ext;simp_all
    simp_all [JQ,Qx,execOp,Instr.sliceAt,Instr.slice,run_underlying,wB];cases hs
  have B: ∀{s':Sn} {ws} {_l _f r} {g'},s'=⟨upd ws s.σ,g',s.w⟩->Inv s'->bK s s'->mA k (.p (.sl _l _f)) l A Y=Z r->J0d s'.w s'.g.C (.sl _l _f) (a.eval y)->cB P o a s ⟨r,ws⟩:=by
   intro s' ws _l _f r g' hs' v t' hs q;obtain⟨_,E⟩:=z hs;clear hs;have hs:=E;clear E;cases k with
   |str=>grind [DJ,zH]
   |sl ez=>
    simp only[DJ,zE]at hs;split at hs;rename_i _b;subst _b;split at hs;rename_i c hc;cases hs;simp only at ht;split at ht;rename_i el W;simp only[beq_iff_eq]at ht;have H:=qh (P:=P) (isSlice:=true) he h2 _c N M hc (zQ0 _) s.w;obtain⟨ad,cap,hv,L,hrel⟩:=Ox q H.2.1 H.2.2;obtain⟨hb,_,_⟩:=qh (P:=P) (isSlice:=true) he h2 _c N M hc L s.w;subst hs';refine jJ (e:=⟨_,ws⟩) (w':=s.w) (g':=g') ?_ v t' (.p _ _ hrel);simp only[execOp,D,hv];simp[Instr.sliceAt,Instr.slice,run_underlying (mE W),hb,lE ht];cases ht;cases hs;cases hs
  split at h;rename_i b i n;obtain⟨y',Q,h⟩:=bind_some h;obtain⟨g',i1,_a,f1,c,K,U⟩:=QT hi (.refl _) Q j;grind [RM.run,fz];rename_i x' S;obtain⟨r,q,rfl⟩:=iD h;cases u with
  |p c=>
   cases c with
   |s b=>grind [vS]
   |sl _l _f=>cases j with|p _ _ j=>exact B (s':=s) (ws:=[]) (g':=s.g) rfl hi (.refl s) q j
   |_=>grind [DJ,zH,zE]
  |_r b i n=>simp_all
  |_=>grind [DJ,zH,zE]
 cases hc
end
end Go.Am
end
section
namespace Go.Am
section
variable {P:Program} {F:Orc} {s:Sn} {a:Act} {env:List (Nat×AV)} {o:Oper} {_m:Nat} {e:Eff}
theorem B2(hi:Inv s){agg:Bool}{size:Nat}{x:AV}{v:Value}(h:(hY agg size x).run ⟨env,s.σ⟩=Z e)(hr:JH s x v):
  ∃r o vs,v=.pointer (Z ⟨r,o,Y⟩)/\vs.length=size/\(∀(k:Nat) u,vs[k]?=Z u->cellAt s.w r (o+k)=Z u)/\e.ws=[]/\
   ((agg=O/\JH s e.val (.agg vs.toArray))\/(agg=J/\ ∃u,vs=[u]/\JH s e.val u)):=by
 unfold hY at h;split at h;rename_i cs off;split at h;rename_i l hl;obtain⟨r',z,rfl⟩:=iD h;obtain⟨n,H,G⟩:=PW hl;cases hr with
 |cp _ _ r o vals q L=>
  have P: ∀(i:Nat) y u,l[i]?=Z y->((List.range size).map λi=>vals (off+i))[i]?=Z u->J0d s.w s.g.C y u:=(by grind);refine⟨r,o+off,(List.range size).map λi=>vals (off+i),rfl,by simp,λk u B=>?_,rfl,lr z (by simp[n]) P⟩;grind
 cases h
 ·rename_i b off;simp only[RM.run]at h;split at h
  ·rename_i blk hb;split at h
   ·rename_i cs;split at h
    ·rename_i l hl;obtain⟨r',z,rfl⟩:=iD h;obtain⟨n,H,G⟩:=PW hl;cases hr with
     |ptr _ _ r o m U=>
      obtain⟨_c,W,c,S,fz,j,N,_e,R,hf⟩:=hi.box b cs hb;rw[m]at j;injection j with j;injection j with m1 m2;subst m1 m2;have A: ∀k,k<size-> ∃u,c[o+(off+k)]?=Z u/\u.oneCell'=O/\ ∀y,l[k]?=Z y->JH s y u:=(by grind);refine⟨r,o+off,(List.range size).map λi=>(c[o+(off+i)]?).getD .nilFunc,rfl,by simp,λk u B=>?_,rfl,VB z (by simp[n]) (λv _d=>?_) λi y u Q B=>?_⟩
      all_goals grind [mF]
    cases h
   cases h
  cases h
 ·rename_i b ext i off;simp only[RM.run]at h;split at h
  ·rename_i blk hb;split at h
   ·rename_i wm _l _f;split at h
    ·rename_i F;split at h
     ·rename_i row E;split at h
      ·rename_i l hl;obtain⟨r',z,rfl⟩:=iD h;obtain⟨n,H,G⟩:=PW hl;have D:s.σ[b]?=Z (.arr wm _l _f):=hb;cases hr with
       |ep _ _ _ _ _ wm' M rows' p0 q L K=>
        rw[D]at q;injection q with q;injection q with a1 a2 a3;subst a1 a2 a3;have T:=JE E;obtain⟨r,m,_d⟩:=K F (by omega);rcases hi.arr b _ _ _ D with⟨j,_⟩|⟨_c,c,S,fz,j,N,V,_e,R,hf⟩;simp_all
        ·rw[m]at j;injection j with j;injection j with m1 _;subst m1
         have A: ∀k,k<size-> ∃u,c[i*_l+(off+k)]?=Z u/\ ∀y,l[k]?=Z y->J0d s.w s.g.C y u:=(by grind);refine⟨r,i*_l+off,(List.range size).map λk=>(c[i*_l+(off+k)]?).getD .nilFunc,_d,by simp,λk u B=>?_,rfl,lr z (by simp[n]) λk y u Q B=>?_⟩
         all_goals grind [mF]
      cases h
     cases h
    cases h
   cases h
  cases h
 cases h
theorem Dq{t:TypeId}{agg:Bool}{size:Nat}(ht:agT P t=Z agg)(hs:szT P t=Z size){r o:Nat}{vs:List Value}{w:World}(hl:vs.length=size)
  (h: ∀(k:Nat) u,vs[k]?=Z u->cellAt w r (o+k)=Z u):
  (agg=O->(loadVar t ⟨r,o,Y⟩).run P w=.ok (.agg vs.toArray) w)/\(agg=J-> ∀u,vs=[u]->(loadVar t ⟨r,o,Y⟩).run P w=.ok u w):=by
 constructor;rintro rfl;subst hl;simp_all [loadVar,IJ,lE,B7];rintro rfl u rfl;have:=h 0 u rfl;simp_all [loadVar,IJ,wD]
theorem JMY(hi:Inv s)(he:bZ s a.tmps env){agg size x}(h:(_y F (.load agg size x) _m).run ⟨env,s.σ⟩=Z e)(hc:bG P (.load agg size x) o.op=O):cB P o a s e:=by
 simp only[_y]at h;obtain⟨u,h1,n⟩:=bind_some h;clear h;unfold bG at hc;simp only at hc;split at hc
 ·rename_i t y z;simp only[bB,beq_iff_eq]at hc;obtain⟨⟨⟨ht,hs⟩,w⟩,B⟩:=hc;obtain⟨r,D,vs,G,hl,g,j,k⟩:=B2 hi n (bW he h1 w);obtain⟨A,E⟩:=Dq (P:=P) ht hs hl g;obtain⟨ev,C⟩:=e;simp only at j k;subst j;rcases k with⟨rfl,v⟩|⟨rfl,q,rfl,v⟩
  all_goals simp_all [JQ,execOp,Instr.loadAt,Instr.sureAddr]
 cases hc
theorem YO{x:AV}{l:List AV}{v:Value}(h:cellsOf x=Z l)(hr:JH s x v):
  l.length=v.cells.size/\(∀u∈v.cells.toList,u.oneCell'=O)/\ ∀(i:Nat) y u,l[i]?=Z y->v.cells[i]?=Z u->JH s y u:=by
 have e: ∀{z:AV},JH s z v->v.cells= #[v]->v.oneCell'=O->l=[z]->l.length=v.cells.size/\(∀u∈v.cells.toList,u.oneCell'=O)/\ ∀(i:Nat) y u,l[i]?=Z y->v.cells[i]?=Z u->JH s y u:=(by grind);cases hr with
 |p c _ hp=>simp[cellsOf]at h;exact e (.p _ _ hp) hp.cells1 hp.one h.symm
 |data cs vs h1 h2=>
  simp[cellsOf]at h;subst h;refine⟨by grind [Value.cells],λu w=>?_,λi y u q w=>?_⟩;obtain⟨i,hi⟩:=kN w;have hi:vs[i]?=Z u:=by grind [Value.cells]
  have E:=XZ hi;exact(h2 i cs[i] u (by simp_all) hi).one;rw[iM]at q;cases hcs:cs[i]? with
  |none=>simp_all
  |some c=>simp[hcs]at q;subst q;exact .p _ _ (h2 i c u hcs w)
 |agg cs vs h1 F h2=>
  grind [cellsOf,Value.cells,h!]
 |tup=>grind [cellsOf]
 |unk=>grind [cellsOf]
 |pre=>simp[cellsOf]at h
 |ptr b off r o m hb=>simp[cellsOf]at h;exact e (.ptr b off r o m hb) rfl rfl h.symm
 |cp cs off r o vals j g=>simp[cellsOf]at h;exact e (.cp cs off r o vals j g) rfl rfl h.symm
 |_r b i n _ wm _l _f p0 j g k=>obtain⟨A,cap,rfl,D⟩:=p0;simp[cellsOf]at h;exact e (._r b i n _ wm _l _f ⟨A,cap,rfl,D⟩ j g k) rfl rfl h.symm
 |ep b ext i off _ wm _l _f p0 j g k=>obtain⟨r,o,rfl⟩:=p0;simp[cellsOf]at h;exact e (.ep b ext i off _ wm _l _f ⟨r,o,rfl⟩ j g k) rfl rfl h.symm
 |fn f first caps fs cs h1 h2 C B=>simp[cellsOf]at h;exact e (.fn f first caps fs cs h1 h2 C B) rfl rfl h.symm
theorem JNN(hi:Inv s)(he:bZ s a.tmps env)(hn:s.σ[_m]?=Z .dead){size x}(h:(_y F (.box size x) _m).run ⟨env,s.σ⟩=Z e)(hc:bG P (.box size x) o.op=O):cB P o a s e:=by
 simp only[_y]at h;obtain⟨u,h1,g⟩:=bind_some h;clear h;unfold bG at hc;simp only at hc;split at hc;rename_i t y B;have z:=bW he h1 hc;split at g;rename_i cs hcs;split at g;cases g;obtain⟨C,q,n⟩:=YO hcs z;obtain⟨r,t'⟩:=WD hi hn (blk:=.box cs) (c:=(a.eval y).cells) (e:=t) (fz:=(0,0)) (w':={s.w with heap:=s.w.heap.push (.cells (a.eval y).cells t)}) rfl rfl rfl
  (λo _ _ h=>by simp at h) (λ_ _ _ h=>by cases h) ⟨by omega,λi x j=>by
   have A:=JE j;have k:i<(a.eval y).cells.size:=by omega
   exact⟨(a.eval y).cells[i],by simp,n i x _ j (by simp),q _ (by simp)⟩⟩
 refine jJ (e:=⟨.ptr _m 0,[(_m,.box cs)]⟩) (v:=.pointer (Z ⟨s.w.heap.size,0,Y⟩)) ?_ r t' (.ptr _m 0 _ 0 (if_pos rfl) ⟨cs,lJ hn⟩);simp_all [execOp,Instr.box,newVar,newRow];cases g;cases g;cases hc
theorem EO{zero:List PV}{t:TypeId}(h:pM P zero t=O): ∃v,zeT P t=Z v/\zero.length=v.cells.size/\
  ∀{w C} (i:Nat) x u,zero[i]?=Z x->v.cells[i]?=Z u->J0d w C x u:=by
 unfold pM at h;split at h;rename_i v e;refine⟨v,e,?_,λi x u j g=>?_⟩;simpa using(WT (w:=default) (C:=λ_ _=>True) h).1;exact(WT h).2 i x u j (by simpa using g);cases h
theorem IQ{t:TypeId}{v:Value}(h:zeT P t=Z v)(w:World):(zeroValue t).run P w=.ok v w:=by unfold zeT at h;cases hi:P.info? t<;>simp_all [zeroValue,Ev]
theorem JHv(hi:Inv s)(hn:s.σ[_m]?=Z .dead){zero}(h:(_y F (.newbox zero) _m).run ⟨env,s.σ⟩=Z e)(hc:bG P (.newbox zero) o.op=O):cB P o a s e:=by
 simp only[_y,RM.run]at h;cases h;unfold bG at hc;simp only at hc;split at hc;rename_i t y;obtain⟨v,z,hl,q⟩:=EO hc;obtain⟨n,t'⟩:=WD hi hn (blk:=.box (zero.map .p)) (c:=v.cells) (e:=t) (fz:=(0,0)) (w':={s.w with heap:=s.w.heap.push (.cells v.cells t)}) rfl rfl rfl
  (λo _ _ h=>by simp at h) (λ_ _ _ h=>by cases h) ⟨by simp[hl],λi x j=>by
   rw[iM]at j;cases hz:zero[i]? with
   |none=>simp[hz]at j
   |some c=>
    simp[hz]at j;subst j;have r:=JE hz;have k:i<v.cells.size:=by omega
    have:=q (w:=s.w) (C:=s.g.C) i c v.cells[i] hz (by simp);exact⟨v.cells[i],by simp,.p _ _ this,this.one⟩⟩
 refine jJ (e:=⟨.ptr _m 0,[(_m,.box (zero.map .p))]⟩) (v:=.pointer (Z ⟨s.w.heap.size,0,Y⟩)) ?_ n t' (.ptr _m 0 _ 0 (if_pos rfl) ⟨_,lJ hn⟩);simp_all [execOp,Instr.alloc,IQ,newVar,newRow];cases hc
theorem JJ4(hi:Inv s)(hn:s.σ[_m]?=Z .dead){_l x}(h:(_y F (.mkarr _l x) _m).run ⟨env,s.σ⟩=Z e)(hc:bG P (.mkarr _l x) o.op=O):cB P o a s e:=by
 simp only[_y,RM.run]at h;cases h;obtain⟨k,t'⟩:=WI hi hn _l;have hrel:JH ⟨s.σ.set _m (.arr O _l []),fT s.g _m Y,s.w⟩ (._r _m 0 0) (.slice Y 0 0):=
  ._r _m 0 0 _ O _l [] ⟨Y,0,rfl,.inl rfl⟩ (lJ hn) (zQ0 _) λ_=>.inl ⟨if_pos rfl,rfl,rfl,rfl⟩
 unfold bG at hc;simp only at hc;split at hc;rename_i j;exact jJ (e:=⟨._r _m 0 0,[(_m,.arr O _l [])]⟩) (v:=.slice Y 0 0) (by simp only[execOp,j];rfl) k t' hrel;rename_i j;exact jJ (e:=⟨._r _m 0 0,[(_m,.arr O _l [])]⟩) (v:=.slice Y 0 0) (by simp only[execOp,j];rfl) k t' hrel;cases hc
theorem VT{α:Type}{cs vs cs':List α}{off:Nat}(h:spl cs off vs=Z cs'):cs'.length=cs.length/\off+vs.length<=cs.length/\
  (∀(i:Nat),i<vs.length->cs'[off+i]?=vs[i]?)/\ ∀k,(k<off\/off+vs.length<=k)->cs'[k]?=cs[k]?:=by
 unfold spl at h;split at h;simp_all
 ·split at h
  ·rename_i hc;cases h;refine⟨by simp;omega,hc,λi hi=>?_,λk hk=>?_⟩
   all_goals grind
  cases h
theorem JEw{w:World}{r o:Nat}{vs:List Value}{c:Array Value}{et:TypeId}{fz:Nat×Nat}(e:w.heap[r]?=Z (.cells c et fz))(hl:o+vs.length<=c.size)
  (hf:GW fz o (o+vs.length)) (h1: ∀v∈vs,v.oneCell'=O):(storeCells ⟨r,o,Y⟩ vs).run P w=.ok () (w.setCells r o vs):=by
 have:=run_storeCells_cells (P:=P) r o vs 0 w
  (λj g=>by rw[wD,mF e];simp;omega)
  (λj g=>by
   have:=hf (o+0+j) (by omega) (by omega);grind [World.frozen?]) h1
 simp_all
theorem qx{t:TypeId}{v:Value}{w:World}{r o:Nat}{c:Array Value}{et:TypeId}{fz:Nat×Nat}(hs:szT P t=Z v.cells.size)(e:w.heap[r]?=Z (.cells c et fz))(hl:o+v.cells.size<=c.size)
  (hf:GW fz o (o+v.cells.size)) (h1: ∀u∈v.cells.toList,u.oneCell'=O):(storeVar t ⟨r,o,Y⟩ v).run P w=.ok () (w.setCells r o v.cells.toList):=by
 have:=JEw (P:=P) (vs:=v.cells.toList) e (by simpa using hl) (by simpa using hf) h1;simp_all [storeVar,lE]
theorem ou{o:Oper}{e:Eff}{w':World}{g':Gh}(hr:(execOp a.eval o).run P s.w=.ok .skip w')(g:e.val=iC)
  (hi:Inv ⟨upd e.ws s.σ,g',w'⟩) (t:bK s ⟨upd e.ws s.σ,g',w'⟩):cB P o a s e:=by
 intro next Q h;simp only[Oper.wp,hr,Oper.upon];exact h undef w' g' hi t (by rw[g];exact .tup _ _ rfl λi x v h=>by simp at h)
theorem Nk{b:Nat}: ∀{ws:List (Nat×_w)} {σ:List _w},(ws.all λy=>y.1 !=b)=O->(upd ws σ)[b]?=σ[b]?
 |[],_,_=>rfl
 |y::ws,σ,h=>by simp only[List.all_cons,bB,bne_iff_ne]at h;show(upd ws (σ.set y.1 y.2))[b]?=_;rw[Nk h.2,tR h.1]
theorem JJS(hi:Inv s)(he:bZ s a.tmps env){size x y}(h:(_y F (.store size x y) _m).run ⟨env,s.σ⟩=Z e)(hc:bG P (.store size x y) o.op=O):cB P o a s e:=by
 simp only[_y]at h;obtain⟨u,h1,h'⟩:=bind_some h;obtain⟨v,h2,g⟩:=bind_some h';clear h h';unfold bG at hc;simp only at hc;split at hc;rename_i t x' n bx;simp only[bB,beq_iff_eq]at hc;obtain⟨⟨hs,hx⟩,hy⟩:=hc;have rx:=bW he h1 hx;have ry:=bW he h2 hy;have _b: ∀{r K:Nat} {w':World},a.eval x'=.pointer (Z ⟨r,K,Y⟩)->(storeVar t ⟨r,K,Y⟩ (a.eval n)).run P s.w=.ok () w'->(execOp a.eval o).run P s.w=.ok .skip w':=by simp_all [execOp,Instr.storeAt,Instr.sureAddr]
 unfold jI at g;split at g;rename_i b off;simp only[RM.run]at g;split at g;rename_i blk hb;split at g;rename_i cs;split at g;rename_i l hl;split at g;rename_i aj;split at g;rename_i cs' a6;cases g;have hb:s.σ[b]?=Z (.box cs):=hb;generalize hz:a.eval x'=z at rx;cases rx with
 |ptr _ _ r K m bs=>
  obtain⟨k1,k2,k3⟩:=YO hl ry;obtain⟨j1,j2,_a,j4⟩:=VT a6;obtain⟨r1,o1,c,D,fz,C,_d,ao,W,hf⟩:=hi.box b cs hb;rw[m]at C;injection C with C;injection C with m1 m2;subst m1 m2;have B:=RF (vs:=(a.eval n).cells.toList) (o:=K+off) _d (by simp;omega);have hlen:(a.eval n).cells.toList.length=l.length:=by simp[k1]
  obtain⟨i',t'⟩:=o8 hi (blk:=.box cs') hb B (λk h1 h2=>by
   grind [Wr1]) (.box _ _ j1) (λbq q E=>by
   cases q;obtain⟨c0,e0,ap,c',A,p2,p3,p4,p5,p6⟩:=B.there;rw[_d]at A;injection A with A;injection A with _e q2 q3;subst _e q2 q3;refine⟨r,K,c',D,fz,m,p2,by omega,λi x an=>?_,by simp_all⟩;by_cases ax:off<=i/\i<off+l.length;have D:cs'[off+(i-off)]?=l[i-off]?:=_a (i-off) (by omega);rw[show off+(i-off)=i by omega,an]at D;have H:i-off<(a.eval n).cells.size:=by omega
   have e2:=p5 (i-off) (a.eval n).cells[i-off] (by simp);refine⟨(a.eval n).cells[i-off],by rw[<-e2];congr 1;omega,E (k3 (i-off) x _ D.symm (by simp)),k2 _ (by simp)⟩;grind)
   (λ_ _ q=>by cases q)
  refine ou (e:=⟨iC,[(b,.box cs')]⟩) (_b hz (qx (by simp_all) _d (by omega) (λk h1 h2=>hf k (by omega) (by omega)) k2)) rfl i' t'
 cases g;cases g;cases g;cases g;cases g;rename_i b ext i off;simp only[RM.run]at g;split at g;rename_i blk hb;split at g;rename_i _l _f;split at g;rename_i a8;split at g;rename_i row N;obtain⟨G,h3,R⟩:=bind_some g;split at R;rename_i S;split at R;rename_i M T;cases R;have hb:s.σ[b]?=Z (.arr O _l _f):=hb;obtain⟨aj,b6⟩:=S;obtain⟨g1,i1,t1,f1,l1,r1⟩:=j9 hi (.refl _) h3 ry;have Q:(upd G.2 s.σ)[b]?=Z (.arr O _l _f):=by grind [Nk]
 have V:=rx.mono hi t1;obtain⟨j1,j2,_a,j4⟩:=VT T;have a5: ∀u∈(a.eval n).cells.toList,u.oneCell'=O:=by
  intro u hu;obtain⟨k,hk⟩:=kN hu;have hk:(a.eval n).cells[k]?=Z u:=by simpa using hk
  have H:=XZ hk;exact(r1 k G.1[k] u (by simp_all) hk).one
 generalize hz:a.eval x'=z at V;cases V with
 |ep _ _ _ _ _ wm' a0 rows' p0 A p2 p3=>
  have A:(upd G.2 s.σ)[b]?=Z (.arr wm' a0 rows'):=A;rw[Q]at A;injection A with A;injection A with a1 a2 a3;subst a1 a2 a3;have H:=JE N;obtain⟨r,m,hv⟩:=p3 a8 (by omega);rcases i1.arr b _ _ _ Q with⟨C,_⟩|⟨rr,c,D,fz,C,_d,am,ao,W,hf⟩;simp_all;rw[m]at C;injection C with C;injection C with m1 _;subst m1;have b1:=am row (mH N);have hlen:(a.eval n).cells.toList.length=G.1.length:=by simp[l1]
  have be:i*_l+_l<=_f.length*_l:=(by have:=zQ4 _l (show i+1<=_f.length from H);grind);have L:s.w.heap[r]?=Z (.cells c D fz):=_d;have B:=RF (vs:=(a.eval n).cells.toList) (o:=i*_l+off) L (by grind);obtain⟨i2,t2⟩:=o8 (s0:=⟨upd G.2 s.σ,g1,s.w⟩) i1 (blk:=.arr O _l (_f.set i M)) Q B (λk h1 h2=>by
   grind [Wr1]) (.arr _ _ _ (by simp)) (λ_ q=>by cases q) (λb5 b0 q E=>by
   injection q with _ h1 h2;subst h1 h2;obtain⟨c0,e0,ap,c',_e,q2,q3,q4,q5,q6⟩:=B.there;rw[L]at _e;injection _e with _e;injection _e with w1 w2 w3;subst w1 w2 w3;refine .inr ⟨r,c',D,fz,m,q2,λbu bt=>?_,by simp;omega,λk j a4 x0 hk hj=>⟨?_,λh=>by cases h⟩,by simp_all⟩;grind;have bh:=JE hj;by_cases U:k=i;subst U;rw[ML H]at hk;cases hk;by_cases ax:off<=j/\j<off+G.1.length;have D:=_a (j-off) (by omega);rw[show off+(j-off)=j by omega,hj]at D;have _c:j-off<(a.eval n).cells.size:=by omega
   have e2:=q5 (j-off) (a.eval n).cells[j-off] (by simp);refine⟨(a.eval n).cells[j-off],by rw[<-e2];congr 1;omega,E (r1 (j-off) x0 _ D.symm (by simp))⟩;grind;rw[dv (Ne.symm U)]at hk;obtain⟨⟨v',aw,ah⟩,_⟩:=W k j a4 x0 hk hj;refine⟨v',?_,E ah⟩;rw[q6 _ ?_];exact aw;have ak:j<_l:=by grind
   rw[hlen];rcases zQ3 k i with _c|bw;left;have:=qA _c ak;omega;right;have:=zQ4 _l (show i+1<=k by omega);grind)
  refine ou (e:=⟨iC,G.2++[(b,.arr O _l (_f.set i M))]⟩) (g':=g1) (_b (hz.trans hv) (qx (by simp_all) L (by grind) (λk h1 h2=>hf.1 k (by omega) (by grind)) a5)) rfl ?_ ?_;rw[fM];exact i2;rw[fM];exact t1.trans t2
 cases R;cases R;cases g;cases g;cases g;cases g;cases g;cases hc
end
end Go.Am
end
section
namespace Go.Am
theorem JBJ(vs:List Value): ∀(k:Nat) (off:Nat) (cs:Array Value),off+k+vs.length<=cs.size->
  let r:=(vs.zipIdx k).foldl (λcs (x:Value×Nat)=>cs.setIfInBounds (off+x.2) x.1) cs
  r.size=cs.size/\(∀(j:Nat) v,vs[j]?=Z v->r[off+k+j]?=Z v)/\ ∀i,(i<off+k\/off+k+vs.length<=i)->r[i]?=cs[i]?:=by
 induction vs with
 |nil=>simp_all
 |cons v vs ih=>
  intro k off cs h;simp only[pH]at h;have:=ih (k+1) off (cs.setIfInBounds (off+k) v) (by simp;omega);simp only[List.zipIdx_cons,List.foldl_cons];obtain⟨h1,h2,e⟩:=this;grind
section
variable {P:Program} {F:Orc} {s:Sn} {a:Act} {env:List (Nat×AV)} {o:Oper} {_m:Nat} {e:Eff}
theorem Bx{place:Nat->Option (Nat×Nat)}{cells:Array Value}{i:Nat}{v:Value}{rest:List (Nat×Value)}{off size:Nat}(hp:place i=Z (off,size))(hs:v.cells.size=size)(hl:off+size<=cells.size):
  ∃e:Array Value,Instr.fill place cells ((i,v)::rest)=Instr.fill place e rest/\e.size=cells.size/\(∀(j:Nat) u,v.cells[j]?=Z u->e[off+j]?=Z u)/\
   ∀k,(k<off\/off+size<=k)->e[k]?=cells[k]?:=by
 subst hs;obtain⟨h1,h2,h⟩:=JBJ v.cells.toList 0 off cells (by simp;omega);refine⟨v.cells.zipIdx.foldl (λcs (c,j)=>cs.setIfInBounds (off+j) c) cells,?_,?_,?_,?_⟩;grind [Instr.fill]
 all_goals (have g:v.cells.zipIdx.foldl (λcs (x:Value×Nat)=>cs.setIfInBounds (off+x.2) x.1) cells=(v.cells.toList.zipIdx 0).foldl (λcs (x:Value×Nat)=>cs.setIfInBounds (off+x.2) x.1) cells:=by
             rw[<-Array.foldl_toList];simp)
 all_goals simp_all
theorem ny{place:Nat->Option (Nat×Nat)}: ∀{parts:List (Nat×Nat×List AV)} {ps:List (Nat×Value)} {cs cs':List AV} {cells:Array Value},
  rS parts cs=Z cs'->parts.length=ps.length->
  (∀(k:Nat) off size l i v,parts[k]?=Z (off,size,l)->ps[k]?=Z (i,v)->place i=Z (off,size)/\l.length=v.cells.size/\(∀u∈v.cells.toList,u.oneCell'=O)/\
   ∀(j:Nat) y u,l[j]?=Z y->v.cells[j]?=Z u->JH s y u)->
  cs.length=cells.size->(∀(i:Nat) x,cs[i]?=Z x-> ∃u,cells[i]?=Z u/\JH s x u/\u.oneCell'=O)->
  ∃e,Instr.fill place cells ps=Z e/\cs'.length=e.size/\ ∀(i:Nat) x,cs'[i]?=Z x-> ∃u,e[i]?=Z u/\JH s x u/\u.oneCell'=O
 |[],[],cs,cs',cells,h,_,_,hl,hr=>by simp[rS]at h;subst h;exact⟨cells,rfl,hl,hr⟩
 |[],_::_,_,_,_,_,hl,_,_,_=>by simp at hl
 |_::_,[],_,_,_,_,hl,_,_,_=>by simp at hl
 |(off,size,l)::parts,(i,v)::ps,cs,cs',cells,h,hlen,hp,hl,hr=>by
  unfold rS at h;split at h;rename_i C;split at h;rename_i E n;obtain⟨z,G,q,r⟩:=hp 0 off size l i v rfl rfl;obtain⟨F,L,w,H⟩:=VT n;obtain⟨g,_e,_d,A,K⟩:=Bx (v:=v) (rest:=ps) (cells:=cells) z (by omega) (by omega);obtain⟨e,P,N,M⟩:=ny (cells:=g) h (by simpa using hlen) (λk off size l i v h1 h2=>hp (k+1) off size l i v (by simpa using h1) (by simpa using h2)) (by omega) (λk x hk=>by
   by_cases D:off<=k/\k<off+l.length;have o:=w (k-off) (by omega);rw[show off+(k-off)=k by omega,hk]at o;have B:k-off<v.cells.size:=by omega
   have _c:=A (k-off) v.cells[k-off] (by simp);exact⟨v.cells[k-off],by simp_all,r (k-off) x _ o.symm (by simp),q _ (by simp)⟩;grind)
  simp_all;cases h;cases h
theorem pw(he:bZ s a.tmps env){place:Nat->Option (Nat×Nat)}: ∀{parts:List (Nat×Nat×Opd)} {ps:List (Nat×Operand)} {l:List (Nat×Nat×List AV)},
  (lZ parts).run ⟨env,s.σ⟩=Z l->tP place parts ps=O->
  l.length=(ps.map λx=>(x.1,a.eval x.2)).length/\
  ∀(k:Nat) off size cs i v,l[k]?=Z (off,size,cs)->(ps.map λx=>(x.1,a.eval x.2))[k]?=Z (i,v)->place i=Z (off,size)/\cs.length=v.cells.size/\(∀u∈v.cells.toList,u.oneCell'=O)/\
   ∀(j:Nat) y u,cs[j]?=Z y->v.cells[j]?=Z u->JH s y u
 |[],[],l,h,_=>by
  grind [lZ,RM.run]
 |[],_::_,_,_,hc=>by grind [tP]
 |_::_,[],_,_,hc=>by grind [tP]
 |(off,size,x)::parts,(i,y)::ps,l,h,hc=>by
  simp only[tP,bB,beq_iff_eq]at hc;obtain⟨⟨hp,e⟩,hc⟩:=hc;simp only[lZ]at h;obtain⟨v,h1,h⟩:=bind_some h;split at h;rename_i cs hcs;obtain⟨l',h2,h⟩:=bind_some h;simp only[RM.run]at h;cases h;obtain⟨g,n⟩:=pw he h2 hc;obtain⟨o,r,q⟩:=YO hcs (bW he h1 e);grind;cases h
theorem qi: ∀{fs:List Field},(∀f∈fs,(szT P f.type).isSome=O)-> ∀w:World,
  (fs.mapM λf=>do pure (f.offset,<-sizeOf f.type):Sem (List (Nat×Nat))).run P w=.ok (fs.map λf=>(f.offset,(szT P f.type).getD 0)) w
 |[],_,w=>by simp
 |f::fs,h,w=>by
  have hs:(szT P f.type)=Z ((szT P f.type).getD 0):=by have:=h f (by simp);cases hq:szT P f.type<;>simp[hq]at this⊢
  have ih:=qi (fs:=fs) (λg e=>h g (by simp[e])) w;rw[List.mapM_cons];simp only[CJ,lE hs,vC,ds,ih];simp
theorem JJe(hi:Inv s)(he:bZ s a.tmps env){zero parts}(h:(_y F (.build zero parts) _m).run ⟨env,s.σ⟩=Z e)(hc:bG P (.build zero parts) o.op=O):cB P o a s e:=by
 simp only[_y]at h;obtain⟨l,h1,E⟩:=bind_some h;clear h;unfold bG at hc;simp only at hc;split at hc;rename_i t ps a0;simp only[bB]at hc;obtain⟨W,ht⟩:=hc;obtain⟨z,a1,K,L⟩:=EO W;split at E;rename_i cs hcs;obtain⟨r,_b,rfl⟩:=iD E;have D: ∀(i:Nat) x,(zero.map AV.p)[i]?=Z x-> ∃u,z.cells[i]?=Z u/\JH s x u/\u.oneCell'=O:=by
  intro i x _e;rw[iM]at _e;cases hzi:zero[i]? with
  |none=>simp_all
  |some c=>
   simp[hzi]at _e;subst _e;have _d:=JE hzi;have R:i<z.cells.size:=by omega
   have:=L (w:=s.w) (C:=s.g.C) i c z.cells[i] hzi (by simp);exact⟨z.cells[i],by simp,.p _ _ this,this.one⟩
 have fin: ∀{place:Nat->Option (Nat×Nat)},tP place parts ps.toList=O->
   ∃j,Instr.fill place z.cells (ps.toList.map λx=>(x.1,a.eval x.2))=Z j/\JH s r (.agg j):=by
  intro place B;obtain⟨Q,T⟩:=pw he h1 B;obtain⟨j,G,S,V⟩:=ny (s:=s) (cells:=z.cells) hcs Q T (by simp[K]) D;refine⟨j,G,?_⟩;have:=VB (s:=s) (vs:=j.toList) _b (by simpa using S) (λv _c=>by
    obtain⟨i,k⟩:=kN _c;have k:j[i]?=Z v:=by simpa using k
    have _d:=XZ k;obtain⟨u,N,_,h1⟩:=V i cs[i] (by simp_all);simp_all)
   (λi y v hy _c=>by
    grind)
  simp_all
 have a2:(ps.map λx=>(x.1,a.eval x.2)).toList=ps.toList.map λx=>(x.1,a.eval x.2):=by simp
 split at ht;rename_i fs N;simp only[bB]at ht;obtain⟨A,B⟩:=ht;obtain⟨j,G,H⟩:=fin B;have _a:(λi=>(fs.map λf=>(f.offset,(szT P f.type).getD 0))[i]?)=IG P fs:=by
  funext i
  simp only[IG,Array.getElem?_map];cases hfi:fs[i]? with
  |none=>rfl
  |some f=>have:=fh.1 A f (Array.mem_of_getElem? hfi);cases M:szT P f.type<;>simp[M]at this⊢
 refine JQ hi (v:=.agg j) ?_ H;have U:(fs.mapM λf=>do pure (f.offset,<-sizeOf f.type):Sem (Array (Nat×Nat))).run P s.w=.ok (fs.map λf=>(f.offset,(szT P f.type).getD 0)) s.w:=by
  rw[Array.mapM_eq_mapM_toList];simp only[Sem.run_map,qi (P:=P) (fs:=fs.toList) (λf hf=>fh.1 A f (by simpa using hf)),vC]
  congr 1
  grind
 have hf:Instr.fill (λi=>(fs.map λf=>(f.offset,(szT P f.type).getD 0))[i]?) z.cells (ps.map λx=>(x.1,a.eval x.2)).toList=Z j:=by simp_all
 simp_all [Instr.build,IQ,run_underlying,execOp];rename_i n el N;split at ht;rename_i q M;obtain⟨j,G,H⟩:=fin ht;refine JQ hi (v:=.agg j) ?_ H;have hb:(Instr.build t (ps.map λx=>(x.1,a.eval x.2))).run P s.w=.ok (.agg j) s.w:=by simp_all [Instr.build,IQ,run_underlying,lE]
 simp_all [execOp];cases ht;cases ht;cases E;cases hc
end
end Go.Am
end
section
namespace Go.Am
def sV(s:Sn)(_l:Nat)(_f:List (List PV))(c:Array Value):Prop:=(∀row∈_f,row.length=_l)/\_f.length*_l<=c.size/\ ∀(i j:Nat) row x,_f[i]?=Z row->row[j]?=Z x-> ∃u,c[i*_l+j]?=Z u/\J0d s.w s.g.C x u
section
variable {P:Program} {F:Orc} {s:Sn} {a:Act} {env:List (Nat×AV)} {o:Oper} {_m:Nat} {e:Eff}
theorem sV.mono{s0 s:Sn}(hi:Inv s0)(t:bK s0 s){_l _f c}(h:sV s0 _l _f c):sV s _l _f c:=
 ⟨h.1,h.2.1,λi j row x e g=>let⟨u,h1,h2⟩:=h.2.2 i j row x e g;⟨u,h1,h2.mono hi t⟩⟩
theorem na{s0:Sn}(hi:Inv s0)(hn:s0.σ[_m]?=Z .dead){_l:Nat}{_f:List (List PV)}{c:Array Value}{et:TypeId}{fz:Nat×Nat}{w':World}{cap:Nat}
  (j:w'.heap=s0.w.heap.push (.cells c et fz)) (ho:w'.os=s0.w.os) (hp:w'.output=s0.w.output) (hf:yZ _l fz c.size) (hr:sV s0 _l _f c) (e:_f.length<=cap) (g:cap*_l<=c.size):
  (∃g',Inv ⟨s0.σ.set _m (.arr O _l _f),g',w'⟩/\bK s0 ⟨s0.σ.set _m (.arr O _l _f),g',w'⟩/\
   JH ⟨s0.σ.set _m (.arr O _l _f),g',w'⟩ (._r _m 0 _f.length) (.slice (Z ⟨s0.w.heap.size,0,Y⟩) _f.length cap)):=by
 obtain⟨k,t'⟩:=WD hi hn (blk:=.arr O _l _f) j ho hp hf.1 (λ_ _ _ h=>by injection h with _ h _;subst h;exact hf.2) hr;refine⟨_,k,t',._r _m 0 _ _ O _l _f ⟨_,_,rfl,.inr (by simp)⟩ (lJ hn) (by omega) λ_=>.inr ⟨s0.w.heap.size,cap,c,et,fz,if_pos rfl,by simp,e,XE j,by simpa using g⟩⟩
theorem pa{s0:Sn}(hi:Inv s0){_l:Nat}{_f:List (List PV)}{c:Array Value}{et:TypeId}{fz:Nat×Nat}{w':World}{cap:Nat}
  (h:w'.heap=s0.w.heap.push (.cells c et fz)) (ho:w'.os=s0.w.os) (hp:w'.output=s0.w.output) (hr:sV s0 _l _f c) (e:_f.length<=cap):
  (∃g',Inv ⟨s0.σ,g',w'⟩/\bK s0 ⟨s0.σ,g',w'⟩/\JH ⟨s0.σ,g',w'⟩ (.p (.sl _l _f)) (.slice (Z ⟨s0.w.heap.size,0,Y⟩) _f.length cap)):=by
 obtain⟨k,t'⟩:=JHJ hi h ho hp;refine⟨_,k,t',.p _ _ (qp (s:=⟨s0.σ,_,w'⟩) rfl e hr.1 (.inr ⟨_,0,rfl,λi j row x g n=>⟨.inr rfl,?_⟩⟩))⟩;obtain⟨u,o,hrel⟩:=hr.2.2 i j row x g n;exact⟨u,by grind [mF],hrel.mono hi t'⟩
theorem Qv{E:List _w}{tmps:Array Value}(he: ∀n x,lk n env=Z x-> ∃v,a.tmps[n]?=Z v): ∀{xs:List Opd} {e:List Operand} {s:Sn} {y:List (List PV)×List (Nat×_w)},Inv s->Frz E s.σ->bZ s a.tmps env->
  (fzs xs).run ⟨env,E⟩=Z y->jU xs e=O->
  ∃g',Inv ⟨upd y.2 s.σ,g',s.w⟩/\bK s ⟨upd y.2 s.σ,g',s.w⟩/\Frz s.σ (upd y.2 s.σ)/\y.1.length=e.length/\
   ∀(k:Nat) cs q,y.1[k]?=Z cs->e[k]?=Z q->cs.length=(a.eval q).cells.size/\ ∀(i:Nat) c u,cs[i]?=Z c->(a.eval q).cells[i]?=Z u->J0d s.w g'.C c u
 |[],[],s,y,hi,o,r,h,_=>by
  simp only[fzs,RM.run]at h;cases h;exact⟨s.g,hi,.refl s,.refl _,rfl,λk cs q h=>by simp at h⟩
 |[],_::_,_,_,_,_,_,_,hc=>by grind [jU]
 |_::_,[],_,_,_,_,_,_,hc=>by grind [jU]
 |x::xs,q::e,s,y,hi,o,r,h,hc=>by
  simp only[jU,bB]at hc;simp only[fzs]at h;obtain⟨v,h1,h⟩:=bind_some h;obtain⟨j,h2,h⟩:=bind_some h;obtain⟨K,_c,h⟩:=bind_some h;simp only[RM.run]at h;cases h;have D:(ev x).run ⟨env,s.σ⟩=Z v:=by cases x<;>simp_all [ev,RM.run]
  have M:=bW r D hc.1;obtain⟨H,i1,B,A,_d,L⟩:=j9 hi o h2 M;obtain⟨F,i2,z,_e,P,Q⟩:=Qv (tmps:=tmps) he (s:=⟨upd j.2 s.σ,H,s.w⟩) i1 (o.trans A) (r.mono hi B) _c hc.2;refine⟨F,by grind [fM],by rw[fM];exact B.trans z,by rw[fM];exact A.trans _e,by simp[P],λk cs q' hk G=>?_⟩;cases k with
  |zero=>simp at hk G;subst hk G;exact⟨_d,λi c u hc N=>J0d.mono (s0:=⟨upd j.2 s.σ,H,s.w⟩) (s:=⟨upd K.2 (upd j.2 s.σ),F,s.w⟩) i1 z (L i c u hc N)⟩
  |succ k=>grind
theorem Cs{_l:Nat}(y:0<_l): ∀{parts:List (Nat×List PV)} {ps:List (Nat×Value)} {_f rows':List (List PV)} {cells:Array Value},
  ED _l parts _f=Z rows'->parts.length=ps.length->
  (∀(k:Nat) i cs j v,parts[k]?=Z (i,cs)->ps[k]?=Z (j,v)->i=j/\cs.length=v.cells.size/\ ∀(m:Nat) c u,cs[m]?=Z c->v.cells[m]?=Z u->J0d s.w s.g.C c u)->
  sV s _l _f cells->cells.size=_f.length*_l->
  ∃e,Instr.fill (λi=>Z (i*_l,_l)) cells ps=Z e/\sV s _l rows' e/\rows'.length=_f.length/\e.size=_f.length*_l
 |[],[],_f,rows',cells,h,_,_,hr,hs=>by simp[ED]at h;subst h;exact⟨cells,rfl,hr,rfl,hs⟩
 |[],_::_,_,_,_,_,hl,_,_,_=>by simp at hl
 |_::_,[],_,_,_,_,hl,_,_,_=>by simp at hl
 |(i,cs)::parts,(j,v)::ps,_f,rows',cells,h,hlen,hp,hr,hs=>by
  unfold ED at h;split at h;rename_i hc;obtain⟨rfl,K,A⟩:=hp 0 i cs j v rfl rfl;have B:i*_l+_l<=_f.length*_l:=(by have:=zQ4 _l (show i+1<=_f.length from hc.2);grind);obtain⟨n,L,N,E,D⟩:=Bx (place:=λi=>Z (i*_l,_l)) (v:=v) (rest:=ps) (cells:=cells) (i:=i) rfl (by omega) (by omega);obtain⟨F,S,G⟩:=hr;obtain⟨e,Q,P,_c,M⟩:=Cs y (cells:=n) h (by simpa using hlen) (λk i cs j v h1 h2=>hp (k+1) i cs j v (by simpa using h1) (by simpa using h2))
   ⟨λrow R=>by
     grind,by simp;omega,λk m row x hk o=>by
     by_cases q:k=i;subst q;rw[ML hc.2]at hk;cases hk;have _d:=JE o;have r:m<v.cells.size:=by omega
     exact⟨v.cells[m],E m _ (by simp),A m x _ o (by simp)⟩;rw[dv (Ne.symm q)]at hk;obtain⟨u,H,hrel⟩:=G k m row x hk o;refine⟨u,?_,hrel⟩;rw[D _ ?_];exact H;have z:=JE o;rw[F row (mH hk)]at z;rcases zQ3 k i with r|_e;grind [qA];right;have:=zQ4 _l (show i+1<=k by omega);grind⟩ (by simp;omega)
  grind;cases h
theorem ly{t:TypeId}{n:Nat}(h:szT P t=Z n): ∃i,P.info? t=Z i/\i.size=n:=by simp_all [szT]
theorem Q7{t:TypeId}{v:Value}{i:TypeInfo}(h:zeT P t=Z v)(hi:P.info? t=Z i):i.zero=Z v:=by
 grind [zeT]
theorem Sd{t:TypeId}{n:Nat}{i:TypeInfo}(h:byT P t=Z n)(hi:P.info? t=Z i):i.bytes=n:=by
 grind [byT]
theorem JKp{z:Array Value}{_l n i j:Nat}(hz:z.size=_l)(hi:i<n)(hj:j<_l):(madeCells z (n*_l))[i*_l+j]?=z[j]?:=by
 grind [qA,Nat.add_mul_mod_self_right,Nat.mod_eq_of_lt,madeCells]
theorem Dc{zero:List PV}{z:Value}{_l n m:Nat}(hl:zero.length=_l)(k:zero.length=z.cells.size)
  (g: ∀{w C} (i:Nat) x u,zero[i]?=Z x->z.cells[i]?=Z u->J0d w C x u) (q:n<=m):sV s _l (_P n zero) (madeCells z.cells (m*_l)):=by
 refine⟨λrow v=>by simp_all,?_,λi j row x hi h=>?_⟩;simp_all [size_madeCells,zQ4];have e:=JE hi;have:=List.eq_of_mem_replicate (mH hi);subst this;have o:=JE h;simp at e;have r:z.cells.size=_l:=by omega
 refine⟨z.cells[j],?_,g j x _ h (by simp)⟩;grind [JKp]
theorem JEE(hi:Inv s)(he:bZ s a.tmps env){own _l bytes zero l c}(hn:own=O->s.σ[_m]?=Z .dead)(h:(_y F (._D own _l bytes zero l c) _m).run ⟨env,s.σ⟩=Z e)
  (hc:bG P (._D own _l bytes zero l c) o.op=O):cB P o a s e:=by
 simp only[_y]at h;obtain⟨u,h1,D⟩:=bind_some h;obtain⟨v,h2,g⟩:=bind_some D;clear h D;unfold bG at hc;simp only at hc;split at hc;rename_i t l' c' V;simp only[bB]at hc;obtain⟨⟨hl,C⟩,ht⟩:=hc;have S:=bW he h1 hl;have T:=bW he h2 C;split at ht;rename_i el E;simp only[bB,beq_iff_eq,decide_eq_true_eq]at ht;obtain⟨⟨⟨⟨⟨hs,K⟩,U⟩,H⟩,R⟩,Q⟩:=ht;obtain⟨i,j,_e⟩:=ly hs;obtain⟨z,G,_d,L⟩:=EO U;have _c:=Sd K j;split at g;rename_i k n k' m;split at g;rename_i r;obtain⟨M,N,hb,_b⟩:=r;have _a:=jY S;have W:=jY T;have A:=run_make (P:=P) s.w t el i z (mE E) j (Q7 G j) k k' n m M N (by simp_all) (by omega);rw[_e]at A;have q:sV s _l (_P n.toNat zero) (madeCells z.cells (m.toNat*_l)):=Dc H _d L (by omega);have x:(execOp a.eval o).run P s.w=.ok (.value (.slice (Z ⟨s.w.heap.size,0,Y⟩) n.toNat m.toNat)) (s.w.alloc (.cells (madeCells z.cells (m.toNat*_l)) el)):=by simp_all [execOp]
 split at g;rename_i y;simp only[RM.run]at g;cases g;obtain⟨g',B,t',r'⟩:=na hi (hn y) (w':=s.w.alloc (.cells (madeCells z.cells (m.toNat*_l)) el)) (fz:=(0,0)) rfl rfl rfl (yZ.zero _ _) q (cap:=m.toNat) (by simp;omega) (by simp[size_madeCells]);simp only[fy]at r';exact jJ x B t' r';simp only[RM.run]at g;cases g;obtain⟨g',B,t',r'⟩:=pa hi (w':=s.w.alloc (.cells (madeCells z.cells (m.toNat*_l)) el)) (fz:=(0,0)) rfl rfl rfl q (cap:=m.toNat) (by simp;omega);simp only[fy]at r';exact jJ (e:=⟨_,[]⟩) x B t' r';cases g;cases g;cases ht;cases hc
theorem JMQ(hi:Inv s)(he:bZ s a.tmps env){own _l n zero parts}(hn:own=O->s.σ[_m]?=Z .dead)(h:(_y F (.lits own _l n zero parts) _m).run ⟨env,s.σ⟩=Z e)
  (hc:bG P (.lits own _l n zero parts) o.op=O):cB P o a s e:=by
 simp only[_y]at h;obtain⟨y,h1,r⟩:=bind_some h;clear h;unfold bG at hc;simp only at hc;split at hc;rename_i t len ps ac;simp only[bB,beq_iff_eq]at hc;obtain⟨rfl,ht⟩:=hc;split at ht;rename_i el _e;simp only[bB,beq_iff_eq,decide_eq_true_eq]at ht;obtain⟨⟨⟨⟨⟨hs,ad⟩,hz⟩,_a⟩,N⟩,M⟩:=ht;obtain⟨z,W,a0,a4⟩:=EO hz;have A:jU (parts.map (·.2)) (ps.toList.map (·.2))=O/\parts.map (·.1)=ps.toList.map (·.1):=by
  have: ∀{p:List (Nat×Opd)} {q:List (Nat×Operand)},OT p q=O->jU (p.map (·.2)) (q.map (·.2))=O/\p.map (·.1)=q.map (·.1):=by
   intro p
   induction p with
   |nil=>intro q h;cases q<;>simp[OT]at h⊢;rfl
   |cons x p ih=>intro q h;cases q<;>grind [OT,jU]
  exact this M
 obtain⟨T,i1,t1,f1,l1,r1⟩:=Qv (tmps:=a.tmps) (λn x hx=>let⟨v,h,_⟩:=he n x hx;⟨v,h⟩) hi (.refl _) he h1 A.1;split at r;rename_i _f G;have E:(parts.map (·.1)).length=(ps.toList.map (·.1)).length:=by rw[A.2]
 simp at E;simp at l1;have R:((parts.map (·.1)).zip y.1).length=(ps.toList.map λx=>(x.1,a.eval x.2)).length:=by simp;omega
 obtain⟨g,_c,r2,B,V⟩:=Cs (s:=⟨upd y.2 s.σ,T,s.w⟩) N (ps:=ps.toList.map λx=>(x.1,a.eval x.2)) (cells:=madeCells z.cells (len*_l)) G R (λk i cs j v hk S=>by
   rw[List.getElem?_zip_eq_some]at hk;obtain⟨H,U⟩:=hk;rw[iM]at S;cases hpk:ps.toList[k]? with
   |none=>simp_all
   |some q=>
    simp[hpk]at S;obtain⟨rfl,rfl⟩:=S;rw[A.2,iM,hpk]at H;simp at H;obtain⟨k3,k4⟩:=r1 k cs q.2 U (by simp_all);grind)
  (Dc _a a0 a4 (zQ0 _)) (by simp[size_madeCells])
 simp at B V;have _d:(execOp a.eval o).run P s.w=.ok (.value (.slice (Z ⟨s.w.heap.size,0,Y⟩) len len)) (s.w.alloc (.cells g el)):=by
  have D: ¬(len*_l>2^24):=by omega
  have K:(ps.map fun(x:Nat×Operand)=>(x.1,a.eval x.2)).toList=ps.toList.map λx=>(x.1,a.eval x.2):=by simp
  have hb:(Instr.buildSlice t len (ps.map fun(x:Nat×Operand)=>(x.1,a.eval x.2))).run P s.w=.ok (.slice (Z ⟨s.w.heap.size,0,Y⟩) len len) (s.w.alloc (.cells g el)):=by
   unfold Instr.buildSlice;by_cases h0:len*_l=0;have C:madeCells z.cells (len*_l)= #[]:=by grind [madeCells]
   rw[C]at _c;have _b: ¬((0:Nat)>2^24):=by decide
   have a3:Array.range 0= #[]:=rfl;simp only[_b,CJ,run_underlying (mE _e),vC,lE hs,D,if_false,h0,if_true,ds,K,a3,Array.map_empty,_c,newRow,run_newObj];rfl;have C:((Array.range (len*_l)).map λx=>z.cells[x%z.cells.size]!)=madeCells z.cells (len*_l):=rfl;simp only[CJ,run_underlying (mE _e),vC,lE hs,D,if_false,h0,IQ W,ds,K,C,_c,newRow,run_newObj];rfl
  simp_all [execOp]
 split at r;rename_i L;simp only[RM.run]at r;cases r;have a1:(upd y.2 s.σ)[_m]?=Z .dead:=f1.2 _ _ (hn L) (by simp);obtain⟨g',Q,t',r'⟩:=na (s0:=⟨upd y.2 s.σ,T,s.w⟩) i1 a1 (w':=s.w.alloc (.cells g el)) (fz:=(0,0)) rfl rfl rfl (yZ.zero _ _) r2 (cap:=len) (by omega) (by omega);rw[B]at r';refine jJ (e:=⟨_,y.2++[(_m,.arr O _l _f)]⟩) (g':=g') _d ?_ ?_ ?_;rw[fM];exact Q;rw[fM];exact t1.trans t';rw[fM];exact r';simp only[RM.run]at r;cases r;obtain⟨g',Q,t',r'⟩:=pa (s0:=⟨upd y.2 s.σ,T,s.w⟩) i1 (w':=s.w.alloc (.cells g el)) (fz:=(0,0)) rfl rfl rfl r2 (cap:=len) (by omega);rw[B]at r';exact jJ (e:=⟨_,y.2⟩) _d Q (t1.trans t') r';cases r;cases ht;cases hc
end
end Go.Am
end
section
namespace Go.Am
section
variable {P:Program} {F:Orc} {s:Sn} {a:Act} {env:List (Nat×AV)} {o:Oper} {_m:Nat} {e:Eff}
theorem D8(l:List UInt8)(c:Array Value)(hc: ∀(i:Nat) b,l[i]?=Z b->c[i]?=Z (.int .u8 b.toNat))(hl:l.length<=c.size):sV s 1 (l.map oA) c:=by
 refine⟨λrow g=>?_,by simpa using hl,λi j row x hi e=>?_⟩;obtain⟨b,_,rfl⟩:=iN.1 g;rfl;rw[iM]at hi;cases hli:l[i]? with
 |none=>simp_all
 |some b=>
  simp[hli]at hi;subst hi;have:j=0:=by grind [oA]
  subst this;simp[oA]at e;subst e;exact⟨_,by simp_all,.i _ _⟩
theorem Rj{α:Type}{_l:Nat}: ∀{_f:List (List α)},(∀row∈_f,row.length=_l)-> ∀{i j:Nat} {row:List α} {x:α},_f[i]?=Z row->row[j]?=Z x->_f.flatten[i*_l+j]?=Z x
 |[],_,i,j,row,x,h,_=>by simp at h
 |r0::e,hl,i,j,row,x,h,k=>by
  have n:r0.length=_l:=hl r0 (by simp);cases i with
  |zero=>
   grind
  |succ i=>
   simp only[uW];rw[uQ (by grind)];have:=Rj (_f:=e) (λrow g=>hl row (by simp[g])) (by simpa using h) k;grind
theorem Te{el:TypeId}(l:List UInt8)(w:World): ∃w' cap c fz,(Conv.stringToBytes el ⟨l.toArray⟩).run P w=.ok (.slice (Z ⟨w.heap.size,0,Y⟩) l.length cap) w'/\
  w'.heap=w.heap.push (.cells c el fz)/\w'.os=w.os/\w'.output=w.output/\GW fz 0 c.size/\l.length<=cap/\c.size=cap/\ ∀(i:Nat) b,l[i]?=Z b->c[i]?=Z (.int .u8 b.toNat):=by
 have hf:(Question.appendCap l.length 0 el).forced=J:=rfl;have e:l.length<=(Question.appendCap l.length 0 el).cut (w.tape w.drawn (.appendCap l.length 0 el)):=by simp[Question.cut]
 generalize j:(Question.appendCap l.length 0 el).cut (w.tape w.drawn (.appendCap l.length 0 el))=cap at e
 let c:Array Value:=(l.toArray.map λb=>Value.int .u8 b.toNat)++Array.replicate (cap-l.length) (.int .u8 0)
 have hc:c.size=cap:=by simp[c];omega
 refine⟨({w with drawn:=w.drawn+1,heap:=w.heap.push (.cells c el)}).freeze {block:=w.heap.size,off:=c.size} 1,cap,c,(c.size,c.size+1),?_,?_,?_,?_,?_,e,hc,?_⟩;unfold Conv.stringToBytes;have hs:ByteArray.size ⟨l.toArray⟩=l.length:=wB l;have g:World.shape? {w with drawn:=w.drawn+1,heap:=w.heap.push (.cells c el)} w.heap.size=Z (el,c.size):=by simp[World.shape?]
 have k:(Array.map (λb=>Value.int IntKind.u8 ↑(UInt8.toNat b)) l.toArray++Array.replicate (cap-l.length) (Value.int IntKind.u8 0))=c:=rfl;simp only[CJ,run_choose,hs,hf,fK,if_false,vC,j,newRow,run_newObj,ds,markStringish,run_shape,run_freeze,k,g];grind [World.freeze];simp[World.freeze];simp[World.freeze];intro o _ h;simp;omega;grind
theorem JFb(hi:Inv s)(he:bZ s a.tmps env){own x}(hn:own=O->s.σ[_m]?=Z .dead)(h:(_y F (.conv (.toBytes own) x) _m).run ⟨env,s.σ⟩=Z e)
  (hc:bG P (.conv (.toBytes own) x) o.op=O):cB P o a s e:=by
 simp only[_y]at h;obtain⟨u,h1,g⟩:=bind_some h;clear h;unfold bG at hc;simp only at hc;split at hc;rename_i _e dst y G;simp only[bB]at hc;obtain⟨E,hs,ht⟩:=hc;have C:=bW he h1 E;split at ht;rename_i el H;simp only[bB,beq_iff_eq]at ht;have r: ∃l,u=.p (.s l)/\(if own=O then RM.ret ⟨._r _m 0 l.length,[(_m,.arr O 1 (l.map oA))]⟩else RM.ret ⟨.p (.sl 1 (l.map oA)),[]⟩:RM Eff).run ⟨env,s.σ⟩=Z e:=by
  cases u with
  |p c=>cases c with|s l=>simp_all|_=>cases g
  |_=>cases g
 clear g;obtain⟨l,rfl,g⟩:=r
 skip
 obtain⟨w',cap,c,fz,B,v,z,hp,hf,A,hcs,D⟩:=Te (P:=P) (el:=el) l s.w;have _d:=vS C;have k:(execOp a.eval o).run P s.w=.ok (.value (.slice (Z ⟨s.w.heap.size,0,Y⟩) l.length cap)) w':=by simp_all [execOp,convert,run_underlying,zY,mE,Bg]
 have j:=D8 (s:=s) l c D (by omega);split at g;rename_i n;simp only[RM.run]at g;cases g;obtain⟨g',q,t',r'⟩:=na (_l:=1) hi (hn n) v z hp ⟨hf,λh=>absurd rfl h⟩ j (cap:=cap) (by simp_all) (by omega);simp only[eN]at r';exact jJ k q t' r';simp only[RM.run]at g;cases g;obtain⟨g',q,t',r'⟩:=pa hi v z hp j (cap:=cap) (by simp_all);simp only[eN]at r';exact jJ (e:=⟨_,[]⟩) k q t' r';cases ht;cases hc
theorem JNH(hi:Inv s){_l:Nat}{x:AV}{_m:List (List PV)}{v:Value}{u:TypeId}(h:(gL _l x).run ⟨env,s.σ⟩=Z _m)(hr:JH s x v)
  (hu:(elT P u).isSome=O\/lX P u=O):
  ∃news,Src P _l u v _m.length news s.w/\(∀row∈_m,row.length=_l)/\
   ∀(i j:Nat) row y,_m[i]?=Z row->row[j]?=Z y-> ∃q,news[i*_l+j]?=Z q/\J0d s.w s.g.C y q:=by
 have e:(∃e',P.underlying u=Z (.slice e'))\/P.underlying u=Z .string:=(by rcases hu with hu|hu;obtain⟨e',N⟩:=ui.1 hu;simp_all [mE];grind [zY]);rcases C0 hi h hr with⟨l,rfl,rfl,rfl,rfl⟩|F;have hlen:(byteCells ⟨l.toArray⟩).length=l.length:=by rw[byteCells_length,wB]
 have Q: ∀w:World,(Builtin.firstCells 1 l.length (.string ⟨l.toArray⟩)).run P w=.ok (byteCells ⟨l.toArray⟩).toArray w:=(by grind [firstCells_string,wB]);refine⟨byteCells ⟨l.toArray⟩,⟨e,λw=>by rw[eN,<-wB];rfl,by simp_all,by simp_all,by rw[hlen];simp,λq _e=>by obtain⟨_,_,rfl⟩:=iN.1 _e;rfl⟩,λrow hr=>?_,?_⟩;obtain⟨b,_,rfl⟩:=iN.1 hr;rfl;have:=(D8 (s:=s) l (byteCells ⟨l.toArray⟩).toArray (λi b hb=>by
  grind [byteCells]) (by simp_all)).2.2
 simp_all;obtain⟨D,cap,vs,K,G,hlen,hrel,A,n⟩:=F.cells;have z: ∀q∈vs,q.oneCell'=O:=by
  intro q _e;obtain⟨k,hk⟩:=kN _e;have M:=JE hk;have:k<_m.flatten.length:=by grind [WS]
  obtain⟨q',o,hr⟩:=hrel k _ (bF this);rw[hk]at o;cases o;exact hr.one
 have B: ∀(i j:Nat) row y,_m[i]?=Z row->row[j]?=Z y-> ∃q,vs[i*_l+j]?=Z q/\J0d s.w s.g.C y q:=by
  intro i j row y h1 h2;refine hrel _ _ ?_;clear hrel A hlen z h hr K G F
  induction _m generalizing i with
  |nil=>simp at h1
  |cons _d _m ih=>have _c:_d.length=_l:=n _d (by simp);cases i<;>grind
 subst K;rcases A with H|⟨r,L,rfl,R⟩;subst H;simp at hlen;subst hlen;refine⟨[],?_,n,B⟩;cases D with
 |none=>exact⟨e,λ_=>rfl,run_firstCells_none s.w _l 0 0 cap,run_firstCells_none s.w.drew _l 0 0 cap,by simp,λ_ h=>by cases h⟩
 |some D=>exact⟨e,λ_=>rfl,run_firstCells_some s.w _l 0 D 0 cap [] (by simp) (λj u h=>by simp at h),run_firstCells_some s.w.drew _l 0 D 0 cap [] (by simp) (λj u h=>by simp at h),by simp,λ_ h=>by cases h⟩
 have E: ∀j q,vs[j]?=Z q->s.w.cell? (Addr.add ⟨r,L,Y⟩ j)=Z q:=λj q S=>by grind [IT,wD]
 exact⟨vs,⟨e,λ_=>rfl,run_firstCells_some s.w _l _ _ _ cap vs hlen E,run_firstCells_some s.w.drew _l _ _ _ cap vs hlen (by simpa using E),hlen,z⟩,n,B⟩
theorem VP(b:Nat)(x:_w)(σ:List _w):upd [(b,x)] σ=σ.set b x:=rfl
structure L0(P:Program)(_l bytes:Nat)(t ut ty el:TypeId)(z v:Value)(n:Nat)(news:List Value)(w:World):Prop where
 newsLen:news.length=n*_l
 room: ∀(r off sLen sCap:Nat),sLen+n<=sCap->(∀j,j<news.length->(w.cell? ⟨r,off+sLen*_l+j,Y⟩).isSome=O)->(∀j,j<news.length->w.frozen? ⟨r,off+sLen*_l+j,Y⟩=J)->
  (Builtin.append_ #[t,ut] ty #[.slice (Z ⟨r,off,Y⟩) sLen sCap,v]).run P w=.ok (.slice (Z ⟨r,off,Y⟩) (sLen+n) sCap) (w.setCells r (off+sLen*_l) news)
 grow: ∀(base:Option Addr) (sLen sCap:Nat) (olds:List Value),(Builtin.firstCells _l sLen (.slice base sLen sCap)).run P w.drew=.ok olds.toArray w.drew->sCap<sLen+n->((sLen+n:Nat):Int)<=9223372036854775807->
  Builtin.nextslicecap (sLen+n) sCap*bytes<=281474976710656->
  (Builtin.append_ #[t,ut] ty #[.slice base sLen sCap,v]).run P w=.ok (.slice (Z ⟨w.heap.size,0,Y⟩) (sLen+n) (grownCap w (sLen+n) sCap el)) (w.drew.alloc (.cells ((olds++news).toArray++Builtin.zeroCells z.cells (grownCap w (sLen+n) sCap el-(sLen+n))) el))
 nil:n=0->(Builtin.append_ #[t,ut] ty #[.slice Y 0 0,v]).run P w=.ok (.slice Y 0 0) w
theorem Src.gen{_l bytes:Nat}{t ut ty el:TypeId}{i:TypeInfo}{z v:Value}{n:Nat}{news:List Value}{w:World}(g:elT P t=Z el)(hs:szT P el=Z _l)(j:P.info? el=Z i)(q:i.size=_l)(x:i.bytes=bytes)(k:i.zero=Z z)
  (h:Src P _l ut v n news w):L0 P _l bytes t ut ty el z v n news w:=by
 have e:=h;rw[<-q]at e;refine⟨h.newsLen,λr off sLen sCap h1 h2 y=>?_,λbase sLen sCap olds h1 h2 y C=>?_,λB=>?_⟩;have A:=run_append_room_src (P:=P) w t ut ty el i (mE g) j r off sLen sCap v n news e h1 (by simp_all) (by simp_all);simp_all;exact run_append_grow_src (P:=P) w t ut ty el i z (mE g) j k base sLen sCap olds (by simp_all) v n news e h2 y (by simp_all);subst B;have hl:=h.len w;have o:=h.cells;rcases h.kind with⟨e',hk⟩|hk;simp[Builtin.append_,run_underlying (mE g),run_underlying hk,lE hs,hl,o];simp[Builtin.append_,run_underlying (mE g),run_underlying hk,lE hs,hl,o]
theorem JHx(hi:Inv s){_l bytes:Nat}{zero:List PV}{u v:AV}{c:Call}{_a _b:Operand}{t ut el:TypeId}(b8:o.op=.call c)(au:c.callee=.builtin .append)
  (ab:c.args.toList=[_a,_b]) (bq:c.argTypes.toList=[t,ut]) (cf:elT P t=Z el)
  (ht:(szT P el==Z _l&&byT P el==Z bytes&&pM P zero el&&zero.length==_l&&decide (0<_l)&&decide (0<bytes))=O)
  (rx:JH s u (a.eval _a)) (hG: ∀(i:TypeInfo) (z:Value) (_m:List (List PV)),szT P el=Z _l->P.info? el=Z i->i.size=_l->i.bytes=bytes->i.zero=Z z->zeT P el=Z z->zero.length=z.cells.size->_m.length*bytes<=281474976710656->_m.length<=281474976710656->(gL _l v).run ⟨env,s.σ⟩=Z _m->
   ∃news,L0 P _l bytes t ut o.type el z (a.eval _b) _m.length news s.w/\(∀row∈_m,row.length=_l)/\
    ∀(i j:Nat) row y,_m[i]?=Z row->row[j]?=Z y-> ∃q,news[i*_l+j]?=Z q/\J0d s.w s.g.C y q)
  (x:(kJ _l bytes u v).run ⟨env,s.σ⟩=Z e):cB P o a s e:=by
 simp only[bB,beq_iff_eq,decide_eq_true_eq]at ht;obtain⟨⟨⟨⟨⟨hs,b3⟩,hz⟩,c7⟩,bh⟩,ag⟩:=ht;obtain⟨i,L,az⟩:=ly hs;obtain⟨z,ak,cg,c8⟩:=EO hz;have _e:=Sd b3 L;have ae:=Q7 ak L;have hm:c.args.map a.eval= #[a.eval _a,a.eval _b]:=by apply dl;simp[ab]
 have b0:c.argTypes= #[t,ut]:=by grind
 have a4: ∀{q:Value} {w':World},(Builtin.append_ #[t,ut] o.type #[a.eval _a,a.eval _b]).run P s.w=.ok q w'->(execOp a.eval o).run P s.w=.ok (.value q) w':=by intro q w' hr;simp[execOp,b8,resolve,au,hm,b0,invoke,builtin,hr]
 unfold kJ at x;split at x;rename_i b j n;simp only[RM.run]at x;split at x;rename_i blk hb;split at x;rename_i wm V _f;obtain⟨h,h3,S⟩:=bind_some x;clear x;split at S;rename_i a9;obtain⟨rfl,rfl,rfl,aa⟩:=a9;simp only[RM.run]at S;cases S;have hb:s.σ[b]?=Z (.arr wm _l _f):=hb;have aa:(2*(_f.length+h.length)+512)*bytes<=281474976710656:=by grind [sY]
 have ba:_f.length+h.length<=281474976710656:=by have h5:(2*(_f.length+h.length)+512)*1<=(2*(_f.length+h.length)+512)*bytes:=Nat.mul_le_mul_left _ ag;omega
 have an:h.length*bytes<=281474976710656:=(by grind);obtain⟨news,H,D,M⟩:=hG i z h hs L az _e ae ak (by omega) an (by omega) h3;have a0:=H.newsLen;have _d:=lV.of_slr hi rx hb (by omega);simp only[GL]at _d;generalize Q:a.eval _a=zz at rx;have bo: ∀{old:Nat},old<_f.length+h.length->Builtin.nextslicecap (_f.length+h.length) old*i.bytes<=281474976710656:=by intro old ho;have h5:=nextslicecap_le ho;rw[_e];have h6:Builtin.nextslicecap (_f.length+h.length) old*bytes<=(2*(_f.length+h.length)+512)*bytes:=zQ4 _ (by omega);omega
 have grow: ∀{base:Option Addr} {cap:Nat},zz=.slice base _f.length cap->cap<_f.length+h.length->
   cB P o a s ⟨._r b 0 (_f.length+h.length),[(b,.arr wm _l (_f++h))]⟩:=by
  intro base cap ai b2;rw[Q]at _d;obtain⟨ad,bg,vs,T,bb,F,a7,af,G⟩:=_d.cells;rw[ai]at T;injection T with v1 v2 v3;subst v1 v3;have ap:(Builtin.firstCells _l _f.length (.slice base _f.length cap)).run P s.w.drew=.ok vs.toArray s.w.drew:=by
   rcases af with al|⟨r,o',rfl,cb⟩;subst al;simp at F;subst F;cases base<;>grind [run_firstCells_none,run_firstCells_some]
   exact run_firstCells_some s.w.drew _l _ _ _ cap vs F (λj q hj=>by
   have:s.w.drew.cell? (Addr.add ⟨r,o',Y⟩ j)=s.w.cell? (Addr.add ⟨r,o',Y⟩ j):=by simp
   grind [IT,wD])
  have A:=H.grow base _f.length cap vs ap b2 (by omega) (by grind);have aj:_f.length+h.length<=grownCap s.w (_f.length+h.length) cap el:=by simp[grownCap,Question.cut]
  generalize grownCap s.w (_f.length+h.length) cap el=R at A aj;have ay:h≠[]:=by grind
  have c9:z.cells.size=_l:=by omega
  obtain⟨i0,t0⟩:=Bu (w':=s.w.drew) hi rfl rfl rfl;have bm:((vs++news).toArray++Builtin.zeroCells z.cells (R-(_f.length+h.length))).size=R*_l:=by
   have:R*_l=(_f.length+h.length)*_l+(R-(_f.length+h.length))*_l:=by rw[<-zQ8];congr 1;omega
   grind [size_zeroCells]
  obtain⟨g',bs,i',t'⟩:=JJE (s0:=⟨s.σ,s.g,s.w.drew⟩) i0 (w':=s.w.drew.alloc (.cells ((vs++news).toArray++Builtin.zeroCells z.cells (R-(_f.length+h.length))) el)) hb ay G D rfl rfl rfl
   (by grind) (λk m row q hk hq=>by
    have N:=JE hq;rcases VY hk with hk|⟨bj,hk⟩;have W:=JE hk;rw[G row (mH hk)]at N;have ao:=qA W N;have b4:=Rj G hk hq;obtain⟨w,hw,hrel⟩:=a7 _ q b4;refine⟨w,?_,hrel.mono hi t0⟩;grind;rw[D row (mH hk)]at N;have W:=JE hk;have ao:=qA W N;obtain⟨w,hw,hrel⟩:=M _ m row q hk hq;have e4:k*_l+m=_f.length*_l+((k-_f.length)*_l+m):=(by grind [Nat.add_sub_cancel']);refine⟨w,?_,hrel.mono hi t0⟩;rw[Mj (by simp;omega)];simp;rw[uQ (by omega),<-hw];congr 1;omega)
  refine jJ (e:=⟨._r b 0 (_f.length+h.length),[(b,.arr wm _l (_f++h))]⟩) (g':=g') (a4 (by rw[Q,ai];exact A)) i' (t0.trans t') ?_;refine ._r b 0 _ _ wm _l (_f++h) ⟨_,_,rfl,.inr (by simp)⟩ (lJ hb) (by simp) λ_=>.inr ⟨_,R,_,el,(0,0),bs,by simp,aj,XE rfl,?_⟩;grind
 cases rx with
 |_r _ _ _ _ wm' V rows' q0 U q2 q3=>
  have U:s.σ[b]?=Z (.arr wm' V rows'):=U;rw[hb]at U;injection U with U;injection U with a1 a2 a3;subst a1 a2 a3;rcases q3 (by omega)with⟨m',_,b7,T⟩|⟨r,cap,cc,e1,fz,m',T,bd,hh,bt⟩;have a8:_f=[]:=List.eq_nil_of_length_eq_zero b7;subst a8;by_cases aq:h=[];subst aq;simp at a0;subst a0;subst T;have A:(Builtin.append_ #[t,ut] o.type #[.slice Y 0 0,a.eval _b]).run P s.w=.ok (.slice Y 0 0) s.w:=by exact H.nil rfl
  have K:s.σ.set b (.arr wm _l [])=s.σ:=(by apply zQ6;grind);refine jJ (e:=⟨._r b 0 0,[(b,.arr wm _l [])]⟩) (g':=s.g) (a4 (by rw[Q];exact A)) ?_ ?_ ?_;rw[VP,K];exact hi;rw[VP,K];exact .refl s;rw[VP,K];exact ._r b 0 0 _ wm _l [] ⟨Y,0,rfl,.inl rfl⟩ hb (zQ0 _) λ_=>.inl ⟨m',rfl,rfl,rfl⟩;grind [List.length_pos_iff];subst T;by_cases E:_f.length+h.length<=cap;rcases hi.arr b _ _ _ hb with⟨B,_⟩|⟨r',c',e',ca,B,_c,bp,hlen,cd,b6⟩;grind;rw[m']at B;injection B with B;injection B with B _;subst B;rw[hh]at _c;injection _c with _c;injection _c with w1 w2 w3;subst w1 w2 w3;have bw:(_f.length+h.length)*_l<=cc.size:=(by have:=zQ4 _l E;grind);have bn:(_f.length+h.length)*_l=_f.length*_l+h.length*_l:=zQ8 _ _ _;have a6:=RF (vs:=news) (o:=_f.length*_l) hh (by omega);obtain⟨i',t'⟩:=JLV hi hb m' D a6 a0 M;have A:=H.room r 0 _f.length cap E
   (λk hk=>by rw[wD,mF hh];simp;omega)
   (λk hk=>by
    have:=b6.1 (0+_f.length*_l+k) (by omega) (by omega);grind [World.frozen?])
  simp only[qX]at A;obtain⟨c0,e0,ce,b1,p1,p2,p3,p4,p5,p6⟩:=a6.there;rw[hh]at p1;injection p1 with p1;injection p1 with w1 w2 w3;subst w1 w2 w3;refine jJ (e:=⟨._r b 0 (_f.length+h.length),[(b,.arr wm _l (_f++h))]⟩) (a4 (by rw[Q];simpa using A)) i' t' ?_;refine ._r b 0 _ _ wm _l (_f++h) ⟨_,_,rfl,.inr (by simp)⟩ (lJ hb) (by simp) λ_=>.inr ⟨r,cap,b1,e1,fz,m',by simp,E,p2,by grind⟩;grind
 cases S;cases x;cases x;cases x
theorem zx(hi:Inv s){_l bytes:Nat}{zero:List PV}{u v:AV}{c:Call}{B A:Operand}{t ut el:TypeId}(x:o.op=.call c)(r:c.callee=.builtin .append)
  (h:c.args.toList=[B,A]) (n:c.argTypes.toList=[t,ut]) (z:((elT P ut).isSome||lX P ut)=O) (k:elT P t=Z el)
  (ht:(szT P el==Z _l&&byT P el==Z bytes&&pM P zero el&&zero.length==_l&&decide (0<_l)&&decide (0<bytes))=O)
  (D:JH s u (a.eval B)) (E:JH s v (a.eval A)) (y:(kJ _l bytes u v).run ⟨env,s.σ⟩=Z e):cB P o a s e:=
 JHx hi x r h n k ht D (λ_ _ _ hs q C g j _ _ _ _ F=>by obtain⟨news,w,h1,h2⟩:=JNH (u:=ut) hi F E (Bool.or_eq_true_iff.1 z);exact⟨news,Src.gen k hs q C g j w,h1,h2⟩) y
theorem JO6(hi:Inv s)(he:bZ s a.tmps env){_l bytes zero x y}(h:(_y F (.app _l bytes zero x y) _m).run ⟨env,s.σ⟩=Z e)(hc:bG P (.app _l bytes zero x y) o.op=O):cB P o a s e:=by
 simp only[_y]at h;obtain⟨u,h1,r⟩:=bind_some h;obtain⟨v,h2,q⟩:=bind_some r;clear h r;unfold bG at hc;simp only at hc;split at hc;rename_i c n;split at hc;rename_i k;split at hc;rename_i D C t ut g j;simp only[bB]at hc;obtain⟨⟨⟨B,A⟩,w⟩,ht⟩:=hc;split at ht;rename_i el z;exact zx hi n k g j w z (by omega) (bW he h1 B) (bW he h2 A) q;cases ht;cases hc;cases hc;cases hc
theorem JMO(hi:Inv s)(he:bZ s a.tmps env)(hn:s.σ[_m]?=Z .dead){_l bytes zero y}(h:(_y F (.appn _l bytes zero y) _m).run ⟨env,s.σ⟩=Z e)(hc:bG P (.appn _l bytes zero y) o.op=O):cB P o a s e:=by
 simp only[_y]at h;obtain⟨v,h2,H⟩:=bind_some h;obtain⟨_f,j,k⟩:=bind_some H;clear h H;unfold bG at hc;simp only at hc;split at hc
 ·rename_i c G;split at hc
  ·rename_i E;split at hc
   ·rename_i V t ut z C;simp only[bB]at hc;obtain⟨⟨T,_e⟩,ht⟩:=hc;split at ht
    ·rename_i el _d;split at k
     ·rename_i L;simp only[RM.run]at k;cases k
      obtain⟨i1,K⟩:=WI hi hn _l;have B:(s.σ.set _m (.arr O _l []))[_m]?=Z (.arr O _l []):=lJ hn;have R:JH ⟨s.σ.set _m (.arr O _l []),fT s.g _m Y,s.w⟩ (._r _m 0 0) (a.eval (.const (.slice Y 0 0))):=
       ._r _m 0 0 _ O _l [] ⟨Y,0,rfl,.inl rfl⟩ B (zQ0 _) λ_=>.inl ⟨if_pos rfl,rfl,rfl,rfl⟩
      have S:=(bW he h2 T).mono hi K;have U:(gL _l v).run ⟨env,s.σ.set _m (.arr O _l [])⟩=Z _f:=by
       cases v with
       |_r b i n=>
        grind [gL,RM.run]
       |p c=>cases c<;>simp only[gL]at j⊢ <;>first|exact j|(split at j<;>rename_i _c<;>first|(rw[if_pos _c];exact j)|cases j)|cases j
       |_=>cases j
      have D:(kJ _l bytes (._r _m 0 0) v).run ⟨env,s.σ.set _m (.arr O _l [])⟩=Z ⟨._r _m 0 _f.length,[(_m,.arr O _l _f)]⟩:=(by grind [kJ,RM.run,run_bind]);have ok:=zx (s:=⟨s.σ.set _m (.arr O _l []),fT s.g _m Y,s.w⟩) i1 G E z C _e _d (by omega) R S D;intro next Q A;refine ok next Q λM w' g' r x q=>?_;have N:upd [(_m,_w.arr O _l _f)] (s.σ.set _m (.arr O _l []))=upd [(_m,_w.arr O _l _f)] s.σ:=by simp[VP]
      simp only at r x q;rw[N]at r x q;exact A M w' g' r (K.trans x) q
     cases k
    cases ht
   cases hc
  cases hc
 cases hc
end
end Go.Am
end
section
namespace Go.Am
end Go.Am
end
section
namespace Go.Am
end Go.Am
end
section
namespace Go.Am
theorem nw: ∀{e j:List KD} {xs g:List PV} {r:Bool},cQ (e++j) xs g=Z r->
  ∃r1 r2,cQ e (xs.take e.length) (g.take e.length)=Z r1/\cQ j (xs.drop e.length) (g.drop e.length)=Z r2/\r=(r1&&r2)
 |[],j,xs,g,r,h=>⟨O,r,by simp[cQ],by simpa using h,by simp⟩
 |k::e,j,xs,g,r,h=>by
  cases xs with
  |nil=>grind [cQ]
  |cons x xs=>
   cases g with
   |nil=>grind [cQ]
   |cons y g=>
    simp only[uR,cQ]at h;split at h;rename_i a c n hc;cases h;obtain⟨r1,r2,h1,h2,o⟩:=nw hc;grind [cQ];cases h
theorem WV: ∀{ks:List KD} {xs e:List PV} {r:Bool},cQ ks xs e=Z r->xs.length=ks.length/\e.length=ks.length
 |[],xs,e,r,h=>by grind [cQ]
 |k::ks,xs,e,r,h=>by
  cases xs with
  |nil=>grind [cQ]
  |cons x xs=>
   cases e with
   |nil=>grind [cQ]
   |cons y e=>
    simp only[cQ]at h;split at h;rename_i a c g hc;obtain⟨h1,h2⟩:=WV hc;simp[h1,h2];cases h
section
variable {P:Program} {F:Orc} {s:Sn} {a:Act} {env:List (Nat×AV)} {o:Oper} {_m:Nat} {e:Eff}
def vu(P:Program)(t:TypeId)(vs:List Value)(X:Value):Prop:=(agT P t=Z O/\X=.agg vs.toArray)\/(agT P t=Z J/\ ∃v,vs=[v]/\X=v)
theorem XM{t:TypeId}{n off:Nat}{cs:Array Value}(hs:szT P t=Z n)(j:off+n<=cs.size)(g:(agT P t=Z O)\/(agT P t=Z J/\n=1))(w:World):
  ∃X,(part t cs off).run P w=.ok X w/\vu P t ((cs.toList.drop off).take n) X:=by
 rcases g with h|⟨h,rfl⟩;refine⟨.agg (cs.extract off (off+n)),by simp_all [part,IJ,lE],.inl ⟨h,?_⟩⟩
 congr 1
 grind;have e:off<cs.size:=by omega
 have k:cs[off]?=Z cs[off]:=by simp[e]
 refine⟨cs[off],by simp_all [part,IJ],.inr ⟨h,cs[off],?_,rfl⟩⟩;grind [List.drop_eq_getElem_cons]
def pF(s:Sn)(xs:List PV)(vs:List Value):Prop:=xs.length=vs.length/\ ∀(i:Nat) x v,xs[i]?=Z x->vs[i]?=Z v->J0d s.w s.g.C x v
theorem pF.take{xs vs}(h:pF s xs vs)(n:Nat):pF s (xs.take n) (vs.take n):=
 ⟨by simp[h.1],λi x v e g=>by
  rw[dx]at e g;split at e;rename_i hi;rw[if_pos hi]at g;exact h.2 i x v e g;cases e⟩
theorem pF.drop{xs vs}(h:pF s xs vs)(n:Nat):pF s (xs.drop n) (vs.drop n):=
 ⟨by simp[h.1],λi x v g e=>by
  rw[vm]at g e;exact h.2 _ x v g e⟩
def EqK(P:Program)(s:Sn)(d:Nat)(t:TypeId)(ks:List KD):Prop:= ∀(e:Nat) (w:World) (xs h:List PV) (vs g:List Value) (r:Bool) (X _b:Value),cQ ks xs h=Z r->pF s xs vs->pF s h g->vu P t vs X->vu P t g _b->(Op.equalIn (d+e) t X _b).run P w=.ok r w
theorem Ed{d:Nat}{t:TypeId}{ks:List KD}(h:rG P d t=Z ks):agT P t=Z O\/(agT P t=Z J/\ks.length=1):=by cases d<;>grind [rG,agT,CC]
theorem Cw(d e:Nat)(A: ∀t ks,rG P d t=Z ks->EqK P s d t ks)(w:World){xs q:List PV}{vs o:List Value}(hx:pF s xs vs)(hy:pF s q o):
  ∀{fs:List Field} {off:Nat} {ks:List KD} {r:Bool},QB P (rG P d) off fs=Z ks->cQ ks (xs.drop off) (q.drop off)=Z r->
   (Op.eqFields (d+e) vs.toArray o.toArray fs).run P w=.ok r w
 |[],off,ks,r,h,hc=>by simp[QB]at h;subst h;cases hxd:xs.drop off<;>cases hyd:q.drop off<;>simp[hxd,hyd,cQ]at hc;simp_all [Op.eqFields]
 |f::fs,off,ks,r,h,hc=>by
  unfold QB at h;split at h;cases h
  ·rename_i _d;have j:f.name≠ "_" :=λe=>_d (.inl e);have v:f.offset=off:=by simp_all
   split at h;cases h
   ·rename_i C k;split at h
    ·rename_i g;obtain⟨g,D⟩:=g;split at h
     ·rename_i M x;cases h;obtain⟨B,N,y,z,rfl⟩:=nw hc;obtain⟨G,L⟩:=WV y;rw[yK,sN]at G L;rw[vA,vA]at z;have n:=Ed k;obtain⟨X,E,H⟩:=XM (P:=P) (cs:=vs.toArray) (off:=off) g (by have:=hx.1;simp;omega) n w;obtain⟨_b,_e,F⟩:=XM (P:=P) (cs:=o.toArray) (off:=off) g (by have:=hy.1;simp;omega) n w;have K:=A f.type C k e w _ _ _ _ B X _b y ((hx.drop off).take _) ((hy.drop off).take _) (by simpa using H) (by simpa using F);have ih:=Cw d e A w hx hy x z;simp only[Op.eqFields];rw[if_pos j];simp only[CJ,v,E,_e,K,vC,Sem.run_ite];cases B
      all_goals simp_all
     cases h
    cases h
theorem Bd(d e:Nat){t:TypeId}{ks:List KD}(q:EqK P s d t ks)(hk:rG P d t=Z ks)(g:szT P t=Z ks.length)(j:0<ks.length)(w:World){xs n:List PV}{vs k:List Value}(hx:pF s xs vs)(hy:pF s n k):
  ∀{m i:Nat} {r:Bool},cQ (_P m ks).flatten (xs.drop (i*ks.length)) (n.drop (i*ks.length))=Z r->
   (Op.eqItems (d+e) t ks.length vs.toArray k.toArray (List.range' i m)).run P w=.ok r w
 |0,i,r,hc=>by simp only[List.replicate_zero,List.flatten_nil]at hc;cases hxd:xs.drop (i*ks.length)<;>cases hyd:n.drop (i*ks.length)<;>simp[hxd,hyd,cQ]at hc;simp_all [Op.eqItems]
 |m+1,i,r,hc=>by
  rw[List.replicate_succ,uW]at hc;obtain⟨v,D,o,y,rfl⟩:=nw hc;obtain⟨A,F⟩:=WV o;rw[yK,sN]at A F;rw[vA,vA]at y;have h:=Ed hk;obtain⟨X,x,B⟩:=XM (P:=P) (cs:=vs.toArray) (off:=i*ks.length) g (by have:=hx.1;simp;omega) h w;obtain⟨_b,C,z⟩:=XM (P:=P) (cs:=k.toArray) (off:=i*ks.length) g (by have:=hy.1;simp;omega) h w;have E:=q e w _ _ _ _ v X _b o ((hx.drop _).take _) ((hy.drop _).take _) (by simpa using B) (by simpa using z);have ih:=Bd d e q hk g j w hx hy (m:=m) (i:=i+1) (r:=D) (by
   grind)
  rw[List.range'_succ];simp only[Op.eqItems,CJ,x,C,E,vC,Sem.run_ite];cases v
  all_goals simp_all
theorem eqK: ∀(d:Nat) (t:TypeId) (ks:List KD),rG P d t=Z ks->EqK P s d t ks
 |0,t,ks,h=>by grind [rG]
 |d+1,t,ks,h=>by
  intro e w xs Q vs S r X _b hc _d _e H G;have M:d+1+e=(d+e)+1:=by omega
  rw[M];have hl:=WV hc;unfold rG at h;have q: ∀{k:KD},agT P t=Z J->ks=[k]-> ∃x y,xs=[x]/\Q=[y]/\xV k x y=Z r/\J0d s.w s.g.C x X/\J0d s.w s.g.C y _b:=(by rintro k F rfl;obtain⟨x,rfl⟩:=ee.1 hl.1;obtain⟨y,rfl⟩:=ee.1 hl.2;rcases H with⟨o,_⟩|⟨_,v,rfl,rfl⟩;simp_all;rcases G with⟨o,_⟩|⟨_,u,rfl,rfl⟩;simp_all;refine⟨x,y,rfl,rfl,?_,_d.2 0 x _ rfl rfl,_e.2 0 y _ rfl rfl⟩;grind [cQ]);split at h<;>rename_i R
  cases h;obtain⟨x,y,rfl,rfl,j,A,B⟩:=q (by grind [agT,CC]) rfl;cases A<;>cases B<;>simp only[xV]at j<;>try (cases j;done)
  grind [run_equalIn_bool];cases h;obtain⟨x,y,rfl,rfl,j,A,B⟩:=q (by grind [agT,CC]) rfl;cases A<;>cases B<;>simp only[xV]at j<;>try (cases j;done)
  grind [run_equalIn_int];cases h;obtain⟨x,y,rfl,rfl,j,A,B⟩:=q (by grind [agT,CC]) rfl;cases A<;>cases B<;>simp only[xV]at j<;>try (cases j;done)
  simp_all [run_equalIn_string];rename_i fs;split at h;cases h;rename_i L;have F:agT P t=Z O:=by grind [agT,CC]
  rcases H with⟨_,rfl⟩|⟨o,_⟩;rcases G with⟨_,rfl⟩|⟨o,_⟩;have N:P.fieldsOf t=fs:=by grind [Program.fieldsOf]
  rw[run_equalIn_struct w (d+e) t _ _ (by simp_all) (by simpa using L),N];exact Cw d e (λt ks hk=>eqK d t ks hk) w _d _e h (by simpa using hc);simp_all;simp_all;rename_i n el;split at h;rename_i K E;split at h;rename_i z;cases h;have F:agT P t=Z O:=by grind [agT,CC]
  rcases H with⟨_,rfl⟩|⟨o,_⟩;rcases G with⟨_,rfl⟩|⟨o,_⟩;obtain⟨i,hi,_c⟩:=ly z.1;have D:P.cellsOf el=K.length:=by grind [Program.cellsOf]
  rw[run_equalIn_array w (d+e) _ _ R hi,D,List.range_eq_range'];exact Bd d e (eqK d el K E) E z.1 z.2 w _d _e (i:=0) (by simpa using hc);simp_all;simp_all;cases h;cases h;cases h
theorem JC2(hi:Inv s)(he:bZ s a.tmps env){op ks x y}(h:(_y F (.bin op (.flat ks) x y) _m).run ⟨env,s.σ⟩=Z e)(hc:bG P (.bin op (.flat ks) x y) o.op=O):cB P o a s e:=by
 simp only[_y]at h;obtain⟨u,h1,D⟩:=bind_some h;obtain⟨v,h2,z⟩:=bind_some D;obtain⟨r,j,rfl⟩:=iD z;clear h D z;unfold bG at hc;simp only at hc;split at hc
 ·rename_i T t B A ty S;simp only[bB,beq_iff_eq]at hc;obtain⟨⟨rfl,k⟩,⟨⟨_c,hk⟩,n⟩,L⟩:=hc;have G:=bW he h1 k;have H:=bW he h2 _c;generalize U:a.eval B=_b at G;generalize V:a.eval A=W at H;simp only[pK]at j;split at j
  ·rename_i p q;cases G with
   |data _ vs _d _e=>
    cases H with
    |data _ g M Q=>
     have hb: ∃b,cQ ks p q=Z b:=by cases hcm:cQ ks p q<;>simp_all [kM]
     obtain⟨b,hb⟩:=hb;rw[hb]at j;obtain⟨N,rfl⟩:=wJ j;have E:(eqGuard op t B A (.agg vs) (.agg g)).run P s.w=.ok () s.w:=run_eqGuard_agg s.w op t B A vs g (by simpa using L);have R:=eqK (P:=P) (s:=s) 100 t ks hk 9900 s.w p q vs.toList g.toList b (.agg vs) (.agg g) hb ⟨by simpa using _d,λi x v k C=>_e i x v k (by simpa using C)⟩ ⟨by simpa using M,λi x v k C=>Q i x v k (by simpa using C)⟩ (.inl ⟨n,by simp⟩) (.inl ⟨n,by simp⟩);have K:(binOp op t (.agg vs) (.agg g)).run P s.w=.ok (.bool (if op=.eql then b else !b)) s.w:=by
      rcases N with rfl|rfl
      all_goals simp_all [run_eql_struct,run_neq_struct]
     simp_all [JQ,execOp,rT]
  cases j
 cases hc
end
end Go.Am
end
section
namespace Go.Am
theorem J0d.weaken{w:World}{C e:Nat->Nat->Prop}(h: ∀r o,C r o->e r o){x v}(hr:J0d w C x v):J0d w e x v:=by
 induction hr with
 |b x=>exact .b x
 |i k n=>exact .i k n
 |s l=>exact .s l
 |np=>exact .np
 |nf=>exact .nf
 |sl0 _l a cap=>exact .sl0 _l a cap
 |sl _l _f r o cap vals h1 h2 g _ ih=>exact .sl _l _f r o cap vals h1 h2 (λi j row x hr q=>⟨h _ _ (g i j row x hr q).1,(g i j row x hr q).2⟩) ih
 |slc _l _f a _ ih=>exact .slc _l _f a ih
theorem Ps{s c:Sn}(hi:Inv s)(hw:c.w=s.w)(q: ∀k cs,c.σ[k]?=Z (.box cs)->UT c k cs)(v: ∀k wm _l _f,c.σ[k]?=Z (.arr wm _l _f)->UE c k wm _l _f)
  (id:Nat->Nat) (x: ∀e j,e<c.σ.length->j<c.σ.length->id e=id j->e=j) (wr: ∀k r o,Wr1 c k r o->Wr1 s (id k) r o)
  (y: ∀r o,c.g.C r o->r<s.w.heap.size/\ ∀k,¬Wr1 c k r o):Inv c:=by
 have n: ∀k r o,Wr1 c k r o->k<c.σ.length:=(by grind [Wr1]);exact⟨q,v,λe j r o h1 h2=>x e j (n _ _ _ h1) (n _ _ _ h2) (hi.apart _ _ _ _ (wr _ _ _ h1) (wr _ _ _ h2)),λr o h=>by grind⟩
theorem wI{m _p _o}: ∀{xs e:List AV},fin.finL m _p _o xs=Z e->xs.length=e.length/\ ∀(i:Nat) x y,xs[i]?=Z x->e[i]?=Z y->fin m _p _o x=Z y
 |[],e,h=>by grind [fin.finL]
 |x::xs,e,h=>by
  simp only[fin.finL]at h;split at h;rename_i y l g hl;cases h;obtain⟨h1,h2⟩:=wI hl;grind;cases h
theorem YE{m _p _o}: ∀{xs e:List _w},sS m _p _o xs=Z e->xs.length=e.length/\ ∀(i:Nat) x y,xs[i]?=Z x->e[i]?=Z y->gY m _p _o x=Z y
 |[],e,h=>by grind [sS]
 |x::xs,e,h=>by
  simp only[sS]at h;split at h;rename_i y l g hl;cases h;obtain⟨h1,h2⟩:=YE hl;grind;cases h
theorem C7{_o}: ∀{_p:List Nat} {e:List _w},yU _o _p=Z e->_p.length=e.length/\ ∀(i:Nat) b y,_p[i]?=Z b->e[i]?=Z y->_o[b]?=Z y
 |[],e,h=>by grind [yU]
 |x::xs,e,h=>by
  simp only[yU]at h;split at h;rename_i y l g hl;cases h;obtain⟨h1,h2⟩:=C7 hl;grind;cases h
theorem XX{b:Nat}: ∀{_p:List Nat} {k j:Nat},fG b _p k=Z j->k<=j/\_p[j-k]?=Z b
 |[],k,j,h=>by grind [fG]
 |x::r,k,j,h=>by
  simp only[fG]at h;split at h;simp_all;obtain⟨h1,h2⟩:=XX h;grind
theorem pd{b:Nat}: ∀{_p:List Nat} {k:Nat},fG b _p k=Y->b∉_p
 |[],_,_=>by simp
 |x::r,k,h=>by
  simp only[fG]at h;split at h;cases h;rename_i g;simp only[cV,not_or];exact⟨λe=>g e.symm,pd h⟩
theorem XY: ∀{l:List Nat},kU l=O->l.Nodup|[],_=>List.nodup_nil|x::r,h=>by simp only[kU,bB,GT]at h;refine List.nodup_cons.2 ⟨?_,XY h.2⟩;simp_all
theorem XV{α:Type}: ∀{l:List α},l.Nodup-> ∀{i j:Nat} {x:α},l[i]?=Z x->l[j]?=Z x->i=j
 |[],_,i,j,x,h,_=>by simp at h
 |y::l,h,i,j,x,h1,h2=>by
  obtain⟨e,hl⟩:=List.nodup_cons.1 h;cases i with
  |zero=>
   grind
  |succ i=>
   cases j with
   |zero=>grind
   |succ j=>exact congrArg (· +1) (XV hl (i:=i) (j:=j) (x:=x) (by simpa using h1) (by simpa using h2))
def JRE(s:Sn)(m:Nat)(_p:List Nat):Nat->Nat->Prop:=λr o=>s.g.C r o\/(∃b wm _l _f,m<=b/\b∉_p/\s.σ[b]?=Z (_w.arr wm _l _f)/\s.g.μ b=Z (r,0)/\o<_f.length*_l)\/ ∃b cs,m<=b/\b∉_p/\s.σ[b]?=Z (_w.box cs)/\Wr1 s b r o
def lU(s:Sn)(m:Nat)(_p:List Nat)(σ:List _w):Sn:=
 ⟨σ,⟨λk=>if k<m then s.g.μ k else match _p[k-m]? with
  |some b=>s.g.μ b
  |none=>Y,JRE s m _p⟩,s.w⟩
section
variable {s:Sn} {m:Nat} {_p:List Nat} {l q q':List _w}
def gB(m:Nat)(_p:List Nat)(k:Nat):Nat:=if k<m then k else(_p[k-m]?).getD 0
structure xq(s:Sn)(m:Nat)(_p:List Nat)(σ:List _w):Prop where
 inv:Inv s
 le:m<=s.σ.length
 nodup:_p.Nodup
 ge: ∀b∈_p,m<=b
 len:σ.length=m+_p.length
 blk: ∀k x,σ[k]?=Z x-> ∃y,s.σ[gB m _p k]?=Z y/\gY m _p s.σ y=Z x
variable {σ:List _w} (h:xq s m _p σ)
theorem vF(k:Nat)(hk:k<m+_p.length):(lU s m _p σ).g.μ k=s.g.μ (gB m _p k):=by
 grind [lU,gB]
include h in
theorem mb{k:Nat}{x:_w}(hk:σ[k]?=Z x):k<m+_p.length/\ ∃y,s.σ[gB m _p k]?=Z y/\gY m _p s.σ y=Z x:=by have:=JE hk;exact⟨by rw[<-h.len];exact this,h.blk k x hk⟩
include h in
theorem OY{b k:Nat}{y:_w}(g:gB m _p k=b)(hk:k<m+_p.length)(hb:s.σ[b]?=Z y): ∃x,σ[k]?=Z x/\gY m _p s.σ y=Z x:=by
 have e:k<σ.length:=by rw[h.len];exact hk
 obtain⟨j,h1,h2⟩:=h.blk k σ[k] (bF e);simp_all
theorem wA{k:Nat}(hk:k<m):gB m _p k=k:=by simp[gB,hk]
theorem k5{b j:Nat}(hj:fG b _p m=Z j):gB m _p j=b/\j<m+_p.length:=by
 obtain⟨h1,h2⟩:=XX hj;grind [gB]
include h in
theorem kz{x y:AV}{v:Value}(hr:JH s x v):fin m _p s.σ x=Z y->JH (lU s m _p σ) y v:=by
 have _e: ∀r o,s.g.C r o->(lU s m _p σ).g.C r o:=λr o h=>.inl h
 induction hr generalizing y with
 |p c v hp=>intro hf;simp[fin]at hf;subst hf;exact .p _ _ (hp.weaken _e)
 |data cs vs h1 h2=>intro hf;simp[fin]at hf;subst hf;exact .data _ _ h1 λi x v A B=>(h2 i x v A B).weaken _e
 |agg cs vs h1 _d h2 ih=>
  intro hf;simp only[fin]at hf;split at hf;rename_i l hl;obtain⟨K,N⟩:=wI hl;have hrel: ∀(i:Nat) y v,l[i]?=Z y->vs[i]?=Z v->JH (lU s m _p σ) y v:=(by grind [JE]);split at hf;rename_i q hq;cases hf;have:=QF hq;subst this;refine .data _ _ (by simp_all) λi c v hc B=>?_;have:=hrel i (.p c) v (by simp[hc]) B;cases this<;>simp_all
  cases hf;exact .agg _ _ (by omega) _d hrel;cases hf
 |tup cs vs h1 h2 ih=>
  intro hf;simp only[fin]at hf;split at hf;rename_i l hl;cases hf;obtain⟨K,N⟩:=wI hl;refine .tup _ _ (by omega) λi y v W B=>?_;grind [JE];cases hf
 |ptr b off r o _b hb=>
  intro hf;obtain⟨cs,hb⟩:=hb;have go: ∀k,gB m _p k=b->k<m+_p.length->JH (lU s m _p σ) (.ptr k off) (.pointer (Z ⟨r,o+off,Y⟩)):=(by intro k G hk;obtain⟨x,A,z⟩:=OY h G hk hb;simp only[gY]at z;split at z;cases z;exact .ptr k off r o (by grind [vF]) ⟨_,A⟩;cases z);simp only[fin]at hf;split at hf;grind [wA];rename_i T;split at hf;grind [k5];rename_i D;rw[hb]at hf;simp only[hQ]at hf;obtain⟨p,hp,rfl⟩:=hf;have:=QF hp;subst this;obtain⟨r',o',c,e,fz,H,hh,F,A,a8⟩:=h.inv.box _ _ hb;rw[_b]at H;injection H with H;injection H with L _a;subst L _a;have at_: ∀(j:Nat) x,p[j]?=Z x-> ∃v,c[o+j]?=Z v/\J0d s.w s.g.C x v:=λj x E=>by
   obtain⟨v,h1,h2,_⟩:=A j (.p x) (by simp[E]);cases h2 with
   |p _ _ h2=>exact⟨v,h1,h2⟩
  refine .cp p off r o (λj=>(c[o+j]?).getD undef) (λj x E=>?_) λj x E=>?_;obtain⟨v,h1,h2⟩:=at_ j x E;refine⟨.inr (.inr ⟨b,_,by omega,pd D,hb,?_⟩),?_⟩;have:=JE E;simp only[Wr1,hb];exact⟨o,_b,by omega,by simp;omega⟩;show cellAt s.w r (o+j)=_;simp[cellAt,hh,h1];obtain⟨v,h1,h2⟩:=at_ j x E;rw[h1];exact h2.weaken _e
 |cp cs off r o vals U p2=>intro hf;simp[fin]at hf;subst hf;exact .cp cs off r o vals (λj x A=>⟨_e _ _ (U j x A).1,(U j x A).2⟩) λj x A=>(p2 j x A).weaken _e
 |_r b i n v wm _l _f _d hb F B=>
  intro hf;have go: ∀k,gB m _p k=b->k<m+_p.length->JH (lU s m _p σ) (._r k i n) v:=by
   intro k G hk;obtain⟨x,A,z⟩:=OY h G hk hb;simp only[gY]at z;cases z;refine ._r k i n v wm _l _f _d A F λe=>?_;have ab:(lU s m _p σ).g.μ k=s.g.μ b:=by grind [vF]
   rcases B e with⟨_c,M,q2,V⟩|⟨r,cap,c,L,fz,_c,q⟩;exact .inl ⟨by simp_all,M,q2,V⟩;exact .inr ⟨r,cap,c,L,fz,by simp_all,q⟩
  simp only[fin]at hf;split at hf;grind [wA];rename_i T;split at hf;grind [k5];rename_i D;rw[hb]at hf;simp only at hf;split at hf;rename_i e;cases hf;obtain⟨a,cap,K,N,Q,S⟩:=lV.of_slr h.inv (._r b i n v wm _l _f _d hb F B) hb e;refine .p _ _ (qp (s:=lU s m _p σ) K N Q (S.imp id ?_));rintro⟨r,o,rfl,A⟩;refine⟨r,o,rfl,λk j row x hk E=>⟨.inr (.inl ⟨b,wm,_l,_f,by omega,pd D,hb,?_⟩),?_⟩⟩;rcases B e with⟨_c,M,q2,V⟩|⟨r',a2,c,L,fz,_c,M,_⟩;simp_all;rw[K]at M;injection M with v1 v2 v3;injection v1 with v1;injection v1 with v1 v4;subst v1 v4;refine⟨_c,?_⟩;have R:=JE hk;have P:=JE E;rw[Q row (mH hk)]at P;rw[sN]at R;have:=qA (a:=i+k) (b:=j) (n:=_f.length) (e:=_l) (by omega) P;grind;obtain⟨u,hu,hr⟩:=A k j row x hk E;exact⟨u,hu,hr.weaken _e⟩;cases hf
 |ep b ext i off v wm _l _f _d hb F B=>
  intro hf;have go: ∀k,gB m _p k=b->k<m+_p.length->JH (lU s m _p σ) (.ep k ext i off) v:=(by intro k G hk;obtain⟨x,A,z⟩:=OY h G hk hb;simp only[gY]at z;cases z;refine .ep k ext i off v wm _l _f _d A F λL _a=>?_;grind [vF]);grind [fin,wA,Option.map_eq_some_iff,k5]
 |fn f first caps fs cs h1 h2 _ _ a9 a7=>
  intro hf;simp only[fin]at hf;split at hf
  ·rename_i a c ha hc;cases hf;obtain⟨K,N⟩:=wI ha;obtain⟨Q,S⟩:=wI hc;refine .fn f a c fs cs (by omega) (by omega) (λi y v W B=>?_) (λi y v W B=>?_)
   all_goals grind [JE]
  cases hf
 |unk x=>intro hf;simp[fin]at hf;subst hf;exact .unk x
 |pre=>intro hf;simp[fin]at hf
include h in
theorem OP(k r o:Nat)(hw:Wr1 (lU s m _p σ) k r o):k<m+_p.length/\Wr1 s (gB m _p k) r o:=by
 unfold Wr1 at hw;have g:(lU s m _p σ).σ=σ:=rfl;rw[g]at hw;cases hk:σ[k]? with
 |none=>simp_all
 |some x=>obtain⟨e,y,j,hf⟩:=mb h hk;refine⟨e,?_⟩;rw[hk]at hw;rw[vF k e]at hw;unfold Wr1;rw[j];cases y<;>grind [gY,wI]
include h in
theorem Pf:Inv (lU s m _p σ):=by
 have hi:=h.inv;have R: ∀A z,A<m+_p.length->z<m+_p.length->gB m _p A=gB m _p z->A=z:=by
  intro A z h1 h2 C;simp only[gB]at C;split at C<;>split at C
  exact C;rename_i a b;have:z-m<_p.length:=by omega
  have:=h.ge _p[z-m] (by simp);grind;rename_i a b;have:=h.ge (_p[A-m]'(by omega)) (by simp);grind;have W:A-m<_p.length:=by omega
  have V:z-m<_p.length:=by omega
  simp[W,V]at C;have:=XV h.nodup (bF W) (by rw[C];exact bF V);omega
 refine Ps hi rfl ?_ ?_ (gB m _p) (λA z h1 h2 C=>R A z (by rw[<-h.len];exact h1) (by rw[<-h.len];exact h2) C) (λk r o n=>(OP h k r o n).2) ?_;intro k cs hk;obtain⟨_e,y,P,hf⟩:=mb h hk;cases y with
 |dead=>grind [gY]
 |arr=>grind [gY]
 |box S=>
  simp only[gY]at hf;split at hf;rename_i l hl;injection hf with hf;cases hf;obtain⟨A,z⟩:=wI hl;obtain⟨r,o,c,e,fz,g,E,a1,K,L⟩:=hi.box _ _ P;refine⟨r,o,c,e,fz,by grind [vF],E,by omega,λi x _a=>?_,by simp_all⟩;grind [JE,kz];cases hf
 intro k wm _l _f hk;obtain⟨_e,y,P,hf⟩:=mb h hk;cases y with
 |dead=>grind [gY]
 |box S=>grind [gY]
 |arr w e rs=>
  simp[gY]at hf;obtain⟨rfl,rfl,rfl⟩:=hf;rcases hi.arr _ _ _ _ P with⟨g,Q⟩|⟨r,c,e,fz,g,E,F,hl,K,L⟩;exact .inl ⟨by grind [vF],Q⟩;refine .inr ⟨r,c,e,fz,by grind [vF],E,F,hl,λi j row x h1 h2=>?_,L⟩;obtain⟨⟨v,_b,Q⟩,hc⟩:=K i j row x h1 h2;exact⟨⟨v,_b,Q.weaken λr o h=>.inl h⟩,λe=>.inl (hc e)⟩
 intro r o hc;rcases hc with hc|⟨b,wm,_l,_f,U,T,H,B,a0⟩|⟨b,cs,U,T,H,B⟩;exact⟨(hi.const r o hc).1,λk n=>(hi.const r o hc).2 _ (OP h k r o n).2⟩;rcases hi.arr _ _ _ _ H with⟨g,_⟩|⟨r',c,e,fz,g,E,F,hl,K,_⟩;simp_all;rw[B]at g;injection g with g;injection g with g _;subst g;refine⟨AL E,λk n=>?_⟩;obtain⟨_e,n⟩:=OP h k r o n;have D:gB m _p k≠b:=(by grind [gB]);cases wm with
 |true=>
  refine D (hi.apart _ _ _ _ n ?_);grind [Wr1]
 |false=>
  have N:0<_l:=(by grind);have _d:o/_l<_f.length:=Nat.div_lt_of_lt_mul (by grind);have G:_f[o/_l]?=Z (_f[o/_l]'_d):=bF _;have hlen:=F _ (mH G);have _c:o%_l<(_f[o/_l]'_d).length:=by rw[hlen];exact Nat.mod_lt _ N
  have M:=(K _ _ _ _ G (bF _c)).2 rfl;have:o/_l*_l+o%_l=o:=by grind [Nat.div_add_mod]
  rw[this]at M;exact(hi.const r o M).2 _ n
 refine⟨?_,λk n=>?_⟩;obtain⟨r',o',c,e,fz,g,E,_⟩:=hi.box _ _ H;simp only[Wr1,H]at B;obtain⟨o0,q,_⟩:=B;rw[q]at g;injection g with g;injection g with g _;subst g;exact AL E;obtain⟨_e,n⟩:=OP h k r o n;have D:gB m _p k≠b:=(by grind [gB]);exact D (hi.apart _ _ _ _ n B)
include h in
theorem B1{E:Sn}(t:bK E s)(K:E.σ.length<=m):bK E (lU s m _p σ):=by
 have hi:=h.inv;refine⟨t.keep,λr o hc=>.inl (t.cmono r o hc),λr o hc=>?_,λr o ⟨k,G⟩=>t.wnew r o ⟨_,(OP h k r o G).2⟩,?_,λb cs hb=>?_,λb wm _l _f hb=>?_⟩;rcases hc with hc|⟨b,wm,_l,_f,_d,_e,C,v,H⟩|⟨b,cs,_,_,_,v⟩;exact t.cnew r o hc;cases wm with
 |true=>have:=t.wnew r o ⟨b,by grind [Wr1]⟩;exact .inr this
 |false=>
  rcases hi.arr _ _ _ _ C with⟨n,_⟩|⟨r',c,e,fz,n,L,B,hl,y,_⟩;simp_all;rw[v]at n;injection n with n;injection n with n _;subst n;have F:0<_l:=(by grind);have w:o/_l<_f.length:=Nat.div_lt_of_lt_mul (by grind);have q:_f[o/_l]?=Z (_f[o/_l]'w):=bF _;have hlen:=B _ (mH q);have A:o%_l<(_f[o/_l]'w).length:=by simp_all [Nat.mod_lt]
  have z:=(y _ _ _ _ q (bF A)).2 rfl;have:o/_l*_l+o%_l=o:=by grind [Nat.div_add_mod]
  rw[this]at z;exact t.cnew r o z
 exact .inr (t.wnew r o ⟨b,v⟩);show E.σ.length<=σ.length;rw[h.len];omega;have j:b<m:=by grind
 obtain⟨⟨cs',h1,h2⟩,D⟩:=t.box b cs hb;obtain⟨x,y,g⟩:=OY h (wA j) (by omega) h1;simp only[gY]at g;split at g;rename_i l hl;cases g;exact⟨⟨l,y,by grind [wI]⟩,by grind [vF,wA]⟩;cases g;have j:b<m:=by grind
 obtain⟨wm',rows',h1,h2,D,M⟩:=t.arr b wm _l _f hb;obtain⟨x,y,g⟩:=OY h (wA j) (by omega) h1;simp[gY]at g;subst g;exact⟨wm',rows',y,h2,D,λe=>by grind [vF,wA]⟩
end
end Go.Am
end
section
namespace Go.Am
def J60(P:Program)(f:FuncId)(args:List AV)(_q:List _w)(r:Res):Prop:=
 (∃fn,P.funcs[f]?=some fn∧fn.body.isSome=true∧(fn.name== "runtime.NumGoroutine")=false)∧
 ∀(g:Gh) (w:World) (vals:Array Value),Inv ⟨_q,g,w⟩->args.length=vals.size->(∀(i:Nat) x v,args[i]?=Z x->vals[i]?=Z v->JH ⟨_q,g,w⟩ x v)->
  Calls P f vals w λe w'=> ∃v g',e=.returned v/\Inv ⟨r.2,g',w'⟩/\bK ⟨_q,g,w⟩ ⟨r.2,g',w'⟩/\JH ⟨r.2,g',w'⟩ r.1 v
def kX(P:Program)(F:Orc):Prop:= ∀f args _q r,F f args _q=Z r->J60 P f args _q r
theorem AC{e:_z}: ∀{es:List _z} {k j:Nat},dU e es k=Z j->k<=j/\es[j-k]?=Z e
 |[],k,j,h=>by grind [dU]
 |x::r,k,j,h=>by
  simp only[dU]at h;split at h;simp_all;obtain⟨h1,h2⟩:=AC h;grind
theorem wH{ρ:_z->Option Nat}: ∀{xs e:List AV},ren.renL ρ xs=Z e->xs.length=e.length/\ ∀(i:Nat) x y,xs[i]?=Z x->e[i]?=Z y->ren ρ x=Z y
 |[],e,h=>by grind [ren.renL]
 |x::xs,e,h=>by
  simp only[ren.renL]at h;split at h;rename_i y l g hl;cases h;obtain⟨h1,h2⟩:=wH hl;grind;cases h
theorem wG{es:List _z}{_m:Nat}: ∀{xs e:List AV},bk.bkL es _m xs=Z e->xs.length=e.length/\ ∀(i:Nat) x y,xs[i]?=Z x->e[i]?=Z y->bk es _m x=Z y
 |[],e,h=>by grind [bk.bkL]
 |x::xs,e,h=>by
  simp only[bk.bkL]at h;split at h;rename_i y l g hl;cases h;obtain⟨h1,h2⟩:=wG hl;grind;cases h
def fg(s:Sn)(ρ:_z->Option Nat)(e:_z)(x:_w):Prop:=
 match e with
 | .whole b=>(∃cs l,s.σ[b]?=Z (.box cs)/\ren.renL ρ cs=Z l/\x=.box l)\/(∃w _l _f,s.σ[b]?=Z (.arr w _l _f)/\x=.arr w _l _f)
 | .elem b ext i=> ∃_l _f row,s.σ[b]?=Z (.arr O _l _f)/\ext=_f.length/\_f[i]?=Z row/\x=.box (row.map .p)
section
variable {s:Sn} {env:List (Nat×AV)}
theorem m9{e:List _w}{ws:List (Nat×_w)}{b:Nat}{x:_w}(h:(sQ ws b).run ⟨env,e⟩=Z x):(upd ws e)[b]?=Z x:=by
 grind [sQ,RM.run,zO]
theorem JHr{j:List _w}{ws:List (Nat×_w)}(k:s.σ=upd ws j){ρ:_z->Option Nat}{e:_z}{x:_w}(h:(CQ ws ρ e).run ⟨env,j⟩=Z x):fg s ρ e x:=by
 cases e with
 |whole b=>
  simp only[CQ]at h;obtain⟨y,h1,h⟩:=bind_some h;have hb:=m9 h1;rw[<-k]at hb;cases y with
  |dead=>cases h
  |box cs=>
   dsimp only at h;split at h;rename_i l hl;simp only[RM.run]at h;cases h;exact .inl ⟨cs,l,hb,hl,rfl⟩;cases h
  |arr w _l _f=>
   simp only[RM.run]at h;cases h;exact .inr ⟨w,_l,_f,hb,rfl⟩
 |elem b ext i=>
  simp only[CQ]at h;obtain⟨y,h1,h⟩:=bind_some h;have hb:=m9 h1;rw[<-k]at hb;cases y with
  |arr w _l _f=>
   cases w;cases h;dsimp only at h;split at h;rename_i n;split at h;rename_i row g;simp only[RM.run]at h;cases h;exact⟨_l,_f,row,hb,n,g,rfl⟩;cases h;cases h
  |_=>cases h
theorem Dj{g:List _w}{ws:List (Nat×_w)}(j:s.σ=upd ws g){ρ:_z->Option Nat}: ∀{es:List _z} {_q:List _w},(lY ws ρ es).run ⟨env,g⟩=Z _q->
  es.length=_q.length/\ ∀(k:Nat) e x,es[k]?=Z e->_q[k]?=Z x->fg s ρ e x
 |[],_q,h=>by grind [lY,RM.run]
 |e::es,_q,h=>by
  simp only[lY]at h;obtain⟨x,h1,h⟩:=bind_some h;obtain⟨l,h2,h⟩:=bind_some h;simp only[RM.run]at h;cases h;obtain⟨n,o⟩:=Dj j h2;grind [JHr]
def jA(s:Sn)(es:List _z)(_q:List _w):Sn:=
 ⟨_q,⟨λk=>match es[k]? with
  |some (.whole b)=>s.g.μ b
  |some (.elem b _ i)=>(match s.σ[b]? with
   |some (.arr _ _l _)=>(match s.g.μ b with
    |some p=>Z (p.1,i*_l)
    |none=>Y)
   |_=>Y)
  |none=>Y,s.g.C⟩,s.w⟩
structure jt(s:Sn)(es:List _z)(_q:List _w):Prop where
 inv:Inv s
 nodup:(es.map _z.id).Nodup
 len:es.length=_q.length
 blk: ∀(k:Nat) e x,es[k]?=Z e->_q[k]?=Z x->fg s (λe=>dU e es 0) e x
variable {es:List _z} {_q:List _w} (h:jt s es _q)
include h in
theorem sX{k:Nat}{e:_z}(he:es[k]?=Z e): ∃x,_q[k]?=Z x/\fg s (λe=>dU e es 0) e x:=by
 have g:=JE he;have:k<_q.length:=by rw[<-h.len];exact g
 exact⟨_q[k],bF this,h.blk k e _ he (bF this)⟩
theorem zZ{k b:Nat}(he:es[k]?=Z (.whole b)):(jA s es _q).g.μ k=s.g.μ b:=by simp[jA,he]
theorem XU{k b ext i _l:Nat}{wm _f r}(he:es[k]?=Z (.elem b ext i))(hb:s.σ[b]?=Z (.arr wm _l _f))(hm:s.g.μ b=Z (r,0)):(jA s es _q).g.μ k=Z (r,i*_l):=by
 grind [jA]
include h in
theorem Np{x y:AV}{v:Value}(hr:JH s x v):ren (λe=>dU e es 0) x=Z y->JH (jA s es _q) y v:=by
 induction hr generalizing y with
 |p c v hp=>intro hf;simp[ren]at hf;subst hf;exact .p _ _ hp
 |data cs vs h1 h2=>intro hf;simp[ren]at hf;subst hf;exact .data _ _ h1 h2
 |cp cs off r o vals M L=>intro hf;simp[ren]at hf;subst hf;exact .cp cs off r o vals M L
 |unk x=>intro hf;simp[ren]at hf;subst hf;exact .unk x
 |pre=>intro hf;simp[ren]at hf
 |agg cs vs h1 B h2 ih=>
  intro hf;simp only[ren]at hf;obtain⟨l,hl,rfl⟩:=hQ.1 hf;obtain⟨G,_d⟩:=wH hl;refine .agg _ _ (by omega) B λi y v F j=>?_;grind [JE]
 |tup cs vs h1 h2 ih=>
  intro hf;simp only[ren]at hf;obtain⟨l,hl,rfl⟩:=hQ.1 hf;obtain⟨G,_d⟩:=wH hl;refine .tup _ _ (by omega) λi y v F j=>?_;grind [JE]
 |ptr b off r o hm hb=>
  intro hf;simp only[ren]at hf;obtain⟨k,hk,rfl⟩:=hQ.1 hf;obtain⟨_,hk⟩:=AC hk;simp only[uT]at hk;obtain⟨cs,hb⟩:=hb;obtain⟨x,A,z⟩:=sX h hk;rcases z with⟨cs',l,h1,h2,rfl⟩|⟨w,_l,_f,h1,rfl⟩;exact .ptr k off r o (by grind [zZ]) ⟨l,A⟩;simp_all
 |_r b i n v wm _l _f B hb C j=>
  intro hf;simp only[ren]at hf;obtain⟨k,hk,rfl⟩:=hQ.1 hf;obtain⟨_,hk⟩:=AC hk;simp only[uT]at hk;obtain⟨x,A,z⟩:=sX h hk;rcases z with⟨cs',l,h1,h2,rfl⟩|⟨w,D,rows',h1,rfl⟩;simp_all;rw[hb]at h1;injection h1 with h1;injection h1 with a1 a2 a3;subst a1 a2 a3;refine ._r k i n v wm _l _f B A C λe=>?_;have V:(jA s es _q).g.μ k=s.g.μ b:=zZ hk;rcases j e with⟨E,N,R,_c⟩|⟨r,cap,c,Q,fz,E,q⟩;exact .inl ⟨by simp_all,N,R,_c⟩;exact .inr ⟨r,cap,c,Q,fz,by simp_all,q⟩
 |ep b ext i off v wm _l _f B hb C j=>
  intro hf;simp only[ren]at hf;obtain⟨k,hk,rfl⟩:=hQ.1 hf;obtain⟨_,hk⟩:=AC hk;simp only[uT]at hk;obtain⟨x,A,z⟩:=sX h hk;obtain⟨D,rows',row,h1,h2,P,rfl⟩:=z;have _e:=h1;rw[hb]at h1;injection h1 with h1;injection h1 with a1 a2 a3;subst a1 a2 a3;have S:=JE P;obtain⟨r,E,j⟩:=j h2 (by omega);subst j;exact .ptr k off r (i*_l) (XU hk _e E) ⟨_,A⟩
 |fn f first caps fs cs h1 h2 _ _ T U=>
  intro hf;simp only[ren]at hf;obtain⟨_b,K,hf⟩:=bV.1 hf;obtain⟨l2,H,rfl⟩:=hQ.1 hf;obtain⟨G,_d⟩:=wH K;obtain⟨W,_a⟩:=wH H;refine .fn f _ _ fs cs (by omega) (by omega) (λi y v F j=>?_) (λi y v F j=>?_)
  all_goals grind [JE]
def idE(es:List _z)(k:Nat):Nat:=((es[k]?).map _z.id).getD 0
theorem zB{k:Nat}{e:_z}(he:es[k]?=Z e):idE es k=e.id:=by simp[idE,he]
include h in
theorem vN(k r o:Nat)(hw:Wr1 (jA s es _q) k r o):k<es.length/\Wr1 s (idE es k) r o:=by
 unfold Wr1 at hw;have q:(jA s es _q).σ=_q:=rfl;rw[q]at hw;cases hk:_q[k]? with
 |none=>simp_all
 |some x=>
  have j:k<es.length:=by rw[h.len];grind
  refine⟨j,?_⟩;have e:es[k]?=Z es[k]:=bF j;have g:=h.blk k _ x e hk;rw[zB e];rw[hk]at hw;unfold Wr1;cases hcase:es[k]with
  |whole b=>
   rw[hcase]at g e;rcases g with⟨cs',l,h1,h2,rfl⟩|⟨w,n,rows',h1,rfl⟩
   all_goals grind [_z.id,zZ,wH]
  |elem b ext i=>
   rw[hcase]at g e;obtain⟨n,rows',row,h1,h2,v,rfl⟩:=g;grind [_z.id,jA]
include h in
theorem JQ4:Inv (jA s es _q):=by
 have hi:=h.inv;have hlen:(jA s es _q).σ.length=es.length:=h.len.symm;refine Ps hi rfl ?_ ?_ (idE es) ?_ (λk r o K=>(vN h k r o K).2) (λr o hc=>⟨(hi.const r o hc).1,λk K=>(hi.const r o hc).2 _ (vN h k r o K).2⟩);intro k cs hk;have hk:_q[k]?=Z (.box cs):=hk;have z:k<es.length:=by grind
 have y:es[k]?=Z es[k]:=bF z;have q:=h.blk k _ _ y hk;cases hcase:es[k]with
 |whole b=>
  rw[hcase]at q y;rcases q with⟨cs',l,h1,h2,g⟩|⟨w,n,rows',h1,g⟩;cases g;obtain⟨D,_e⟩:=wH h2;obtain⟨r,o,c,e,fz,C,H,V,L,F⟩:=hi.box _ _ h1;refine⟨r,o,c,e,fz,by grind [zZ],H,by omega,λi x T=>?_,by simp_all⟩;grind [JE,Np];cases g
 |elem b ext i=>
  rw[hcase]at q y;obtain⟨n,rows',row,h1,h2,E,g⟩:=q;cases g;have G:=JE E;rcases hi.arr _ _ _ _ h1 with⟨C,B⟩|⟨r,c,e,fz,C,H,_d,hl,L,F⟩;simp_all;have U:=_d row (mH E);have M:i*n+n<=rows'.length*n:=(by have:=zQ4 n (show i+1<=rows'.length from G);grind);refine⟨r,i*n,c,e,fz,XU y h1 C,H,by simp;omega,λj x A=>?_,λo h1 h2=>F.1 o (zQ2 _) (by grind)⟩;rw[iM]at A;cases hrj:row[j]? with
  |none=>simp_all
  |some N=>simp[hrj]at A;subst A;obtain⟨⟨v,S,B⟩,_⟩:=L i j row N E hrj;exact⟨v,S,.p _ _ B,B.one⟩
 intro k wm _l _f hk;have hk:_q[k]?=Z (.arr wm _l _f):=hk;have z:k<es.length:=by grind
 have y:es[k]?=Z es[k]:=bF z;have q:=h.blk k _ _ y hk;cases hcase:es[k]with
 |whole b=>
  rw[hcase]at q y;rcases q with⟨cs',l,h1,h2,g⟩|⟨w,n,rows',h1,g⟩;cases g;injection g with a1 a2 a3;subst a1 a2 a3;rcases hi.arr _ _ _ _ h1 with⟨C,B⟩|⟨r,c,e,fz,C,_c⟩;exact .inl ⟨by grind [zZ],B⟩;exact .inr ⟨r,c,e,fz,by grind [zZ],_c⟩
 |elem b ext i=>rw[hcase]at q y;obtain⟨n,rows',row,h1,h2,E,g⟩:=q;cases g
 ·intro D _e h1 h2 R;rw[hlen]at h1 h2;have Q:es[D]?=Z es[D]:=bF h1;have P:es[_e]?=Z es[_e]:=bF h2;rw[zB Q,zB P]at R;refine XV h.nodup (x:=es[D].id) ?_ ?_
  all_goals simp_all
end
end Go.Am
end
section
namespace Go.Am
def rB(s1:Sn)(es:List _z)(_m:Nat)(σ2:List _w)(k:Nat)(y:_w):Prop:=
 match es[k]? with
 |some (.whole b)=>(∃cs l,y=.box cs/\bk.bkL es _m cs=Z l/\σ2[b]?=Z (.box l))\/(∃w _l _f,y=.arr w _l _f/\σ2[b]?=Z (.arr w _l _f))
 |some (.elem b _ i)=> ∃w _l _f e,s1.σ[b]?=Z (.arr w _l _f)/\y=.box (e.map .p)/\σ2[b]?=Z (.arr w _l (_f.set i e))
 |none=>(∃cs l,y=.box cs/\bk.bkL es _m cs=Z l/\σ2[_m+(k-es.length)]?=Z (.box l))\/(∃w _l _f,y=.arr w _l _f/\σ2[_m+(k-es.length)]?=Z (.arr w _l _f))
structure Pk(s1:Sn)(es:List _z)(_q:List _w)(_m kf:Nat)(c':Sn)(σ2:List _w):Prop where
 cin:jt s1 es _q
 inv:Inv c'
 trans:bK (jA s1 es _q) c'
 len:c'.σ.length=es.length+kf
 slen:σ2.length=s1.σ.length
 dead: ∀j,j<kf->s1.σ[_m+j]?=Z .dead
 out: ∀k y,c'.σ[k]?=Z y->rB s1 es _m σ2 k y
 same: ∀b,b∉es.map _z.id->(b<_m\/_m+kf<=b)->σ2[b]?=s1.σ[b]?
def kOf(es:List _z)(_m kf b:Nat):Option Nat:=
 match dU (.whole b) es 0 with
 |some k=>Z k
 |none=>if _m<=b/\b<_m+kf/\b∉es.map _z.id then Z (es.length+(b-_m))else Y
def fX(s1:Sn)(es:List _z)(_m kf:Nat)(c':Sn)(σ2:List _w):Sn:=
 ⟨σ2,⟨λb=>match kOf es _m kf b with
  |some k=>c'.g.μ k
  |none=>s1.g.μ b,c'.g.C⟩,c'.w⟩
theorem Dm{e:_z}: ∀{es:List _z} {k:Nat},dU e es k=Y->e∉es
 |[],k,_=>by simp
 |x::r,k,h=>by
  simp only[dU]at h;split at h;cases h;rename_i g;simp only[cV,not_or];exact⟨λe=>g e.symm,Dm h⟩
section
variable {s1 c':Sn} {es:List _z} {_q σ2:List _w} {_m kf:Nat} (h:Pk s1 es _q _m kf c' σ2)
theorem VD{k:Nat}{e:_z}(he:es[k]?=Z e):e.id∈es.map _z.id:=iN.2 ⟨e,mH he,rfl⟩
include h in
theorem IA{e g:Nat}{e1 e2:_z}(h1:es[e]?=Z e1)(h2:es[g]?=Z e2)(he:e1.id=e2.id):e=g:=
 XV h.cin.nodup (x:=e1.id) (by simp_all) (by simp_all)
include h in
theorem JMc{k:Nat}{e:_z}(he:es[k]?=Z e): ∃y,s1.σ[e.id]?=Z y/\y≠.dead:=by
 obtain⟨x,_,g⟩:=sX h.cin he;cases e with
 |whole b=>
  rcases g with⟨cs',l,h1,h2,rfl⟩|⟨w,j,rows',h1,rfl⟩;exact⟨_,h1,by simp⟩;exact⟨_,h1,by simp⟩
 |elem b ext i=>obtain⟨j,rows',row,h1,h2,n,rfl⟩:=g;exact⟨_,h1,by simp⟩
include h in
theorem JJ0{j:Nat}(hj:j<kf):_m+j∉es.map _z.id:=by intro n;obtain⟨e,o,g⟩:=iN.1 n;obtain⟨k,hk⟩:=kN o;obtain⟨y,q,hd⟩:=JMc h hk;rw[g,h.dead j hj]at q;simp_all
include h in
theorem JHg{k b:Nat}(he:es[k]?=Z (.whole b)):kOf es _m kf b=Z k:=by
 unfold kOf;cases hc:dU (.whole b) es 0 with
 |none=>exact absurd (mH he) (Dm hc)
 |some k'=>
  obtain⟨_,e⟩:=AC hc;grind [IA]
include h in
theorem JKW{k b e i:Nat}(he:es[k]?=Z (.elem b e i)):kOf es _m kf b=Y:=by
 unfold kOf;cases hc:dU (.whole b) es 0 with
 |some k'=>obtain⟨_,g⟩:=AC hc;simp only[uT]at g;have:=IA h g he rfl;simp_all
 |none=>have:b∈es.map _z.id:=VD he;simp[this]
include h in
theorem JHD{j:Nat}(hj:j<kf):kOf es _m kf (_m+j)=Z (es.length+j):=by
 unfold kOf;have g:=JJ0 h hj;cases hc:dU (.whole (_m+j)) es 0 with
 |some k'=>obtain⟨_,e⟩:=AC hc;simp only[uT]at e;exact absurd (VD e) g
 |none=>simp_all
theorem XQ{b:Nat}(h1:b∉es.map _z.id)(h2:b<_m\/_m+kf<=b):kOf es _m kf b=Y:=by
 unfold kOf;cases hc:dU (.whole b) es 0 with
 |some k'=>obtain⟨_,e⟩:=AC hc;simp only[uT]at e;exact absurd (VD e) h1
 |none=>
  grind
def tgt(es:List _z)(_m k:Nat):Nat:=match es[k]? with|some e=>e.id|none=>_m+(k-es.length)
include h in
theorem pV{k:Nat}(hk:k<es.length+kf)(j: ∀b e i,es[k]?≠Z (.elem b e i)):(fX s1 es _m kf c' σ2).g.μ (tgt es _m k)=c'.g.μ k:=by
 simp only[fX,tgt];cases he:es[k]? with
 |some e=>
  cases e with
  |whole b=>simp only[_z.id];rw[JHg h he]
  |elem b e i=>simp_all
 |none=>
  grind [JHD]
include h in
theorem IX{k b ext i:Nat}(he:es[k]?=Z (.elem b ext i)): ∃_l _f row r j,s1.σ[b]?=Z (.arr O _l _f)/\ext=_f.length/\_f[i]?=Z row/\s1.g.μ b=Z (r,0)/\
  c'.σ[k]?=Z (.box (j.map .p))/\j.length=row.length/\row.length=_l/\c'.g.μ k=Z (r,i*_l)/\σ2[b]?=Z (.arr O _l (_f.set i j))/\(fX s1 es _m kf c' σ2).g.μ b=Z (r,0):=by
 obtain⟨x,B,q⟩:=sX h.cin he;obtain⟨_l,_f,row,h1,h2,A,rfl⟩:=q;have D:=JE A;rcases h.cin.inv.arr _ _ _ _ h1 with⟨C,K⟩|⟨r,c,e,fz,C,_e,y,hl,F,E⟩;simp_all;obtain⟨⟨cs',z,L⟩,_d⟩:=h.trans.box k _ B;have o:=h.out k _ z;unfold rB at o;rw[he]at o;obtain⟨w,v,rows',j,n,G,H⟩:=o;rw[h1]at n;injection n with n;injection n with a1 a2 a3;subst a1 a2 a3;grind [XU,fX,JKW]
include h in
theorem Rq{x y:AV}{v:Value}(hr:JH c' x v):bk es _m x=Z y->JH (fX s1 es _m kf c' σ2) y v:=by
 have D: ∀{k:Nat} {z:_w},c'.σ[k]?=Z z->k<es.length+kf:=λhz=>by rw[<-h.len];grind
 induction hr generalizing y with
 |p c v hp=>intro hf;simp[bk]at hf;subst hf;exact .p _ _ hp
 |data cs vs h1 h2=>intro hf;simp[bk]at hf;subst hf;exact .data _ _ h1 h2
 |cp cs off r o vals V S=>intro hf;simp[bk]at hf;subst hf;exact .cp cs off r o vals V S
 |unk x=>intro hf;simp[bk]at hf;subst hf;exact .unk x
 |pre=>intro hf;simp[bk]at hf
 |agg cs vs h1 H h2 ih=>
  intro hf;simp only[bk]at hf;split at hf;rename_i l hl;cases hf;obtain⟨Q,P⟩:=wG hl;refine .agg _ _ (by omega) H λi y v N E=>?_;grind [JE];cases hf
 |tup cs vs h1 h2 ih=>
  intro hf;simp only[bk]at hf;split at hf;rename_i l hl;cases hf;obtain⟨Q,P⟩:=wG hl;refine .tup _ _ (by omega) λi y v N E=>?_;grind [JE];cases hf
 |ptr k off r o _a hb=>
  intro hf;obtain⟨cs,hb⟩:=hb;have hk:=D hb;have B:=h.out k _ hb;unfold rB at B;simp only[bk]at hf;split at hf;rename_i F;have a4:es[k]?=Z es[k]:=bF F;split at hf;rename_i b j;cases hf;have A:=pV h hk (by rw[j];simp);simp only[tgt,j,_z.id]at A;rw[j]at B;rcases B with⟨cs',l,C,_d,_c⟩|⟨w,_l,_f,C,_d⟩;exact .ptr b off r o (by simp_all) ⟨l,_c⟩;cases C;rename_i b e i j;cases hf;obtain⟨_l,_f,row,r',L,f1,T,f3,f4,f5,f6,f7,_e,U,R⟩:=IX h j;rw[_a]at _e;injection _e with _e;injection _e with g1 g2;subst g1 g2;exact .ep b e i off _ O _l (_f.set i L) ⟨_,_,rfl⟩ U (by simp[T]) λ_ _=>⟨r,R,rfl⟩;cases hf;rename_i K;cases hf;have j:es[k]?=Y:=qR (by omega);have A:=pV h hk (by rw[j];simp);simp only[tgt,j]at A;rw[j]at B;rcases B with⟨cs',l,C,_d,_c⟩|⟨w,_l,_f,C,_d⟩;exact .ptr _ off r o (by simp_all) ⟨l,_c⟩;cases C
 |_r k i n v wm _l _f H hb G E=>
  intro hf;have hk:=D hb;have B:=h.out k _ hb;unfold rB at B;have go: ∀b,(fX s1 es _m kf c' σ2).g.μ b=c'.g.μ k->σ2[b]?=Z (.arr wm _l _f)->JH (fX s1 es _m kf c' σ2) (._r b i n) v:=(by intro b A M;refine ._r b i n v wm _l _f H M G λe=>?_;rcases E e with⟨W,q1,q2,_b⟩|⟨r,cap,c,C,fz,W,q⟩;exact .inl ⟨by simp_all,q1,q2,_b⟩;exact .inr ⟨r,cap,c,C,fz,by simp_all,q⟩);simp only[bk]at hf;split at hf;rename_i F;split at hf;rename_i b j;cases hf;have A:=pV h hk (by rw[j];simp);grind [tgt,_z.id];cases hf;rename_i K;cases hf;have j:es[k]?=Y:=qR (by omega);have A:=pV h hk (by rw[j];simp);grind [tgt]
 |ep k ext i off v wm _l _f H hb G E=>
  intro hf;have hk:=D hb;have B:=h.out k _ hb;unfold rB at B;have go: ∀b,(fX s1 es _m kf c' σ2).g.μ b=c'.g.μ k->σ2[b]?=Z (.arr wm _l _f)->JH (fX s1 es _m kf c' σ2) (.ep b ext i off) v:=by intro b A M;refine .ep b ext i off v wm _l _f H M G λC _d=>?_;simp_all
  simp only[bk]at hf;split at hf;rename_i F;split at hf;rename_i b j;cases hf;have A:=pV h hk (by rw[j];simp);grind [tgt,_z.id];cases hf;rename_i K;cases hf;have j:es[k]?=Y:=qR (by omega);have A:=pV h hk (by rw[j];simp);grind [tgt]
 |fn f first caps fs cs h1 h2 _ _ a5 a3=>
  intro hf;simp only[bk]at hf;split at hf
  ·rename_i a c ha hc;cases hf;obtain⟨Q,P⟩:=wG ha;obtain⟨k3,k4⟩:=wG hc;refine .fn f a c fs cs (by omega) (by omega) (λi y v N E=>?_) (λi y v N E=>?_)
   all_goals grind [JE]
  cases hf
inductive er(es:List _z)(_m kf b:Nat):Prop where|out (k:Nat):k<es.length+kf->tgt es _m k=b->(∀b e i,es[k]?≠Z (.elem b e i))->er es _m kf b|elem (k e i:Nat):es[k]?=Z (.elem b e i)->er es _m kf b|other:b∉es.map _z.id->(b<_m\/_m+kf<=b)->er es _m kf b
theorem vY(b:Nat):er es _m kf b:=by
 by_cases j:b∈es.map _z.id;obtain⟨e,h,g⟩:=iN.1 j;obtain⟨k,hk⟩:=kN h;have q:=JE hk;cases e with
 |whole o=>simp only[_z.id]at g;subst g;exact .out k (by omega) (by grind [tgt,_z.id]) (by rw[hk];simp)
 |elem o e' n=>simp only[_z.id]at g;subst g;exact .elem k e' n hk
 by_cases r:_m<=b/\b<_m+kf;have h:es[es.length+(b-_m)]?=Y:=qR (by omega);refine .out (es.length+(b-_m)) (by omega) ?_ (by rw[h];simp);grind [tgt];exact .other j (by omega)
include h in
theorem PG{k:Nat}(hk:k<es.length+kf)(j: ∀b e i,es[k]?≠Z (.elem b e i))(r o:Nat):
  Wr1 (fX s1 es _m kf c' σ2) (tgt es _m k) r o↔Wr1 c' k r o:=by
 have q:=pV h hk j;have g:k<c'.σ.length:=by rw[h.len];exact hk
 have n:c'.σ[k]?=Z c'.σ[k]:=bF g;have w:=h.out k _ n;unfold rB at w;unfold Wr1;rw[n,q];have v:(fX s1 es _m kf c' σ2).σ=σ2:=rfl;rw[v];cases he:es[k]? with
 |some e=>
  grind [tgt,_z.id,wG]
 |none=>
  grind [tgt,wG]
include h in
theorem PP{k b e i:Nat}(he:es[k]?=Z (.elem b e i))(r o:Nat):Wr1 (fX s1 es _m kf c' σ2) b r o↔Wr1 s1 b r o:=by
 obtain⟨_l,_f,row,r',g,v,x,z,y,w,B,q,n,A,j⟩:=IX h he;grind [Wr1,fX]
include h in
theorem oe{b:Nat}(h1:b∉es.map _z.id)(h2:b<_m\/_m+kf<=b)(r o:Nat):Wr1 (fX s1 es _m kf c' σ2) b r o↔Wr1 s1 b r o:=by
 unfold Wr1;have j:(fX s1 es _m kf c' σ2).σ=σ2:=rfl;have e:(fX s1 es _m kf c' σ2).g.μ b=s1.g.μ b:=by grind [fX,XQ]
 rw[j,h.same b h1 h2,e]
include h in
theorem Ca{r o:Nat}(hw:Wr c' r o):(∃k e,es[k]?=Z e/\Wr1 (jA s1 es _q) k r o/\Wr1 s1 e.id r o)\/s1.w.heap.size<=r:=by
 rcases h.trans.wnew r o hw with⟨k,hk⟩|j;obtain⟨g,n⟩:=vN h.cin k r o hk;have q:es[k]?=Z es[k]:=bF g;grind [zB];exact .inr j
include h in
theorem Bn:bK s1 (fX s1 es _m kf c' σ2):=by
 refine⟨?_,λr o hc=>h.trans.cmono r o hc,λr o hc=>?_,λr o ⟨b,E⟩=>?_,Nat.le_of_eq h.slen.symm,λb cs hb=>?_,λb wm _l _f hb=>?_⟩;refine h.trans.keep.mono λr o ⟨k,hk⟩=>?_;exact⟨_,(vN h.cin k r o hk).2⟩;rcases h.trans.cnew r o hc with hc|⟨k,hk⟩|L;exact .inl hc;exact .inr (.inl ⟨_,(vN h.cin k r o hk).2⟩);exact .inr (.inr L);cases vY (es:=es) (_m:=_m) (kf:=kf) b with
 |out k hk ht n=>
  subst ht;rcases Ca h ⟨k,(PG h hk n r o).1 E⟩with⟨k',e,_,_,H⟩|L;exact .inl ⟨_,H⟩;simp_all
 |elem k e i g=>exact .inl ⟨b,(PP h g r o).1 E⟩
 |other h1 h2=>exact .inl ⟨b,(oe h h1 h2 r o).1 E⟩
 ·cases vY (es:=es) (_m:=_m) (kf:=kf) b with
  |out k hk ht n=>
   cases g:es[k]? with
   |none=>
    exfalso;simp only[tgt,g]at ht;have G:es.length<=k:=by simp_all
    have:=h.dead (k-es.length) (by omega);simp_all
   |some e=>
    cases e with
    |elem b e i=>simp_all
    |whole Q=>
     simp only[tgt,g,_z.id]at ht;subst ht;obtain⟨x,F,y⟩:=sX h.cin g;rcases y with⟨cs',l,h1,h2,rfl⟩|⟨w,v,rows',h1,rfl⟩
     ·rw[hb]at h1;injection h1 with h1;cases h1
      obtain⟨⟨U,D,N⟩,K⟩:=h.trans.box k _ F;have q:=h.out k _ D;unfold rB at q;rw[g]at q;have C:=pV h hk n;simp only[tgt,g,_z.id]at C;rcases q with⟨_d,l',j,B,M⟩|⟨w,_l,_f,j,B⟩
      ·cases j;refine⟨⟨l',M,?_⟩,?_⟩
       all_goals grind [wG,wH,zZ]
      cases j
     simp_all
  |elem k e i g=>
   grind [IX]
  |other h1 h2=>
   refine⟨⟨cs,by rw[<-hb];exact h.same b h1 h2,rfl⟩,?_⟩;grind [fX,XQ]
 cases vY (es:=es) (_m:=_m) (kf:=kf) b with
 |out k hk ht n=>
  cases g:es[k]? with
  |none=>
   exfalso;simp only[tgt,g]at ht;have G:es.length<=k:=by simp_all
   have:=h.dead (k-es.length) (by omega);simp_all
  |some e=>
   cases e with
   |elem b e i=>simp_all
   |whole Q=>
    simp only[tgt,g,_z.id]at ht;subst ht;obtain⟨x,F,y⟩:=sX h.cin g;rcases y with⟨cs',l,h1,h2,rfl⟩|⟨w,v,rows',h1,rfl⟩;simp_all;rw[hb]at h1;injection h1 with h1;injection h1 with a1 a2 a3;subst a1 a2 a3;obtain⟨wm',A,D,N,K,_b⟩:=h.trans.arr k _ _ _ F;have q:=h.out k _ D;unfold rB at q;rw[g]at q;have C:=pV h hk n;simp only[tgt,g,_z.id]at C;rcases q with⟨_d,l',j,B,M⟩|⟨w,P,_c,j,B⟩;cases j;injection j with a1 a2 a3;subst a1 a2 a3;exact⟨wm',A,B,N,K,λe=>by grind [zZ]⟩
 |elem k e i g=>
  obtain⟨v,rows',row,r',S,z,f2,f3,R,_a,f6,W,V,T,_e⟩:=IX h g;rw[hb]at z;injection z with z;injection z with a1 a2 a3;subst a1 a2 a3;exact⟨O,_,T,λ_=>rfl,by simp,λ_=>by rw[_e,R]⟩
 |other h1 h2=>
  refine⟨wm,_f,by rw[<-hb];exact h.same b h1 h2,id,zQ0 _,λ_=>?_⟩;grind [fX,XQ]
include h in
theorem JMf:Inv (fX s1 es _m kf c' σ2):=by
 have hi:=h.cin.inv;have t:=Bn h;have L: ∀{b},¬(b∈es.map _z.id\/(_m<=b/\b<_m+kf))->b∉es.map _z.id/\(b<_m\/_m+kf<=b):=λG=>⟨λA=>G (.inl A),by omega⟩;have z: ∀{k b e i r o},es[k]?=Z (.elem b e i)->(Wr1 (jA s1 es _q) k r o↔Wr1 c' k r o):=(by intro k b e i r o n;obtain⟨x,hx,a6⟩:=sX h.cin n;obtain⟨_l,_f,row,h1,h2,h3,rfl⟩:=a6;obtain⟨⟨cs',q1,q2⟩,q3⟩:=h.trans.box k _ hx;grind [jA,Wr1]);have M: ∀{k b r o},k<es.length+kf->Wr1 c' k r o->Wr1 s1 b r o->(∃k',es[k']?=Z (.whole b)\/ ∃e i,es[k']?=Z (.elem b e i)/\k'=k):=by
  intro k b r o hk _e hb;rcases Ca h ⟨k,_e⟩with⟨k',e,n,ak,q⟩|G;have D:=hi.apart _ _ _ _ q hb;cases e with
  |whole b'=>grind [_z.id]
  |elem b' e' i'=>
   simp only[_z.id]at D;subst D;have:=h.inv.apart _ _ _ _ ((z n).1 ak) _e;grind
  have:=yX hi b r o hb;omega
 refine pX hi t (λb=>b∈es.map _z.id\/(_m<=b/\b<_m+kf)) ?_ ?_ ?_ ?_ ?_ ?_ ?_ ?_;intro b G;obtain⟨h1,h2⟩:=L G;exact⟨h.same b h1 h2,by grind [fX,XQ]⟩;intro b r o v G _e hv;refine h.trans.keep.cell ?_ hv;rintro⟨k,hk⟩;obtain⟨C,q⟩:=vN h.cin k r o hk;have n:es[k]?=Z es[k]:=bF C;rw[zB n]at q;have:=hi.apart _ _ _ _ q _e;simp_all;intro b cs hd hb;have hb:σ2[b]?=Z (.box cs):=hb;cases vY (es:=es) (_m:=_m) (kf:=kf) b with
 |other h1 h2=>grind
 |elem k e i n=>
  grind [IX]
 |out k hk ht T=>
  subst ht;have C:k<c'.σ.length:=by rw[h.len];exact hk
  have hg:c'.σ[k]?=Z c'.σ[k]:=bF C;have ho:=h.out k _ hg;unfold rB at ho;have a5: ∃V,c'.σ[k]?=Z (.box V)/\bk.bkL es _m V=Z cs:=by
   cases n:es[k]? with
   |some e=>
    grind [tgt,_z.id]
   |none=>
    grind [tgt]
  obtain⟨V,h0,hl⟩:=a5;obtain⟨k1,k2⟩:=wG hl;obtain⟨r,o,c,e,fz,A,hh,c4,hx,b9⟩:=h.inv.box _ _ h0;refine⟨r,o,c,e,fz,by grind [pV],hh,by omega,λi x c0=>?_,by simp_all⟩;grind [JE,Rq]
 intro b wm _l _f hd hb;have hb:σ2[b]?=Z (.arr wm _l _f):=hb;cases vY (es:=es) (_m:=_m) (kf:=kf) b with
 |other h1 h2=>grind
 |elem k e i n=>
  obtain⟨be,rows',row,r',bi,f1,f2,f3,f4,f5,f6,f7,f8,f9,bb⟩:=IX h n;rw[hb]at f9;injection f9 with f9;injection f9 with a1 a2 a3;subst a1 a2 a3;have C:=JE f3;rcases hi.arr _ _ _ _ f1 with⟨A,S⟩|⟨r,c,e1,fz,A,hh,ai,hl,hx,b9⟩;simp_all;rw[f4]at A;injection A with A;injection A with A _;subst A;obtain⟨c2,q1,q2,q3⟩:=t.keep.2.1 _ _ _ _ hh;obtain⟨rr,oo,c3,e3,c1,m3,Q,bf,az,bh⟩:=h.inv.box _ _ f5;rw[f8]at m3;injection m3 with m3;injection m3 with y H;subst y H;have b0:c'.w.heap[r']?=Z (.cells c2 e1 fz):=q1;rw[b0]at Q;injection Q with Q;injection Q with y H w3;subst y H w3;refine .inr ⟨r',c2,e1,fz,bb,q1,λc6 c5=>?_,by simp;omega,λN j ae x0 K W=>⟨?_,λh=>by cases h⟩,by simp_all⟩;grind;have bs:=JE W;by_cases ad:N=i;subst ad;rw[ML C]at K;cases K;obtain⟨v,hv,S,_⟩:=az j (.p x0) (by simp[W]);refine⟨v,hv,?_⟩;cases S with|p _ _ S=>exact S
  rw[dv (Ne.symm ad)]at K;obtain⟨⟨v',c7,av⟩,_⟩:=hx N j ae x0 K W;refine⟨v',?_,av.mono hi t⟩;have a8:cellAt s1.w r' (N*_l+j)=Z v':=by grind [mF]
  have b3:j<_l:=by grind
  have ax: ¬Wr (jA s1 es _q) r' (N*_l+j):=by
   rintro⟨k',g⟩;obtain⟨E,q⟩:=vN h.cin k' _ _ g;have B:es[k']?=Z es[k']:=bF E;rw[zB B]at q;have bc:Wr1 s1 b r' (N*_l+j):=by grind [Wr1]
   have D:=hi.apart _ _ _ _ q bc;have _d:k'=k:=IA h B n D;subst _d;obtain⟨x,b6,a6⟩:=sX h.cin n;obtain⟨bo,bd,U,F,R,g3,rfl⟩:=a6;rw[f1]at F;injection F with F;injection F with z1 z2 z3;subst z2 z3;have ag:(jA s1 es _q).σ[k']?=Z (.box (U.map .p)):=b6;unfold Wr1 at g;rw[ag,XU n f1 f4]at g;obtain⟨o0,_b,hlo,b4⟩:=g;injection _b with _b;injection _b with _ _b;subst _b;have bj:=ai U (mH g3);simp at b4;rcases zQ3 N i with aj|bp;have:=qA aj b3;omega;have:=zQ4 _l (show i+1<=N by omega);grind
  have:=h.trans.keep.cell ax a8;grind [mF]
 |out k hk ht T=>
  subst ht;have C:k<c'.σ.length:=by rw[h.len];exact hk
  have hg:c'.σ[k]?=Z c'.σ[k]:=bF C;have ho:=h.out k _ hg;unfold rB at ho;have a5:c'.σ[k]?=Z (.arr wm _l _f):=by
   cases n:es[k]? with
   |some e=>
    grind [tgt,_z.id]
   |none=>
    grind [tgt]
  rcases h.inv.arr _ _ _ _ a5 with⟨A,S⟩|⟨r,c,e,fz,A,hq⟩;exact .inl ⟨by grind [pV],S⟩;exact .inr ⟨r,c,e,fz,by grind [pV],hq⟩
 
 intro b1 b2 r o hd h1 h2;cases vY (es:=es) (_m:=_m) (kf:=kf) b1 with
 |other F R=>grind
 |out k1 a4 b7 al=>
  subst b7;have y:=(PG h a4 al r o).1 h1;cases vY (es:=es) (_m:=_m) (kf:=kf) b2 with
  |out k2 P a0 _c=>subst a0;have H:=(PG h P _c r o).1 h2;rw[h.inv.apart _ _ _ _ y H]
  |elem k2 e i n=>
   exfalso;have H:=(PP h n r o).1 h2;obtain⟨k',g|⟨e',i',g,_d⟩⟩:=M a4 y H;have:=IA h g n rfl;simp_all;simp_all
  |other F R=>
   exfalso;have H:=(oe h F R r o).1 h2;obtain⟨k',g|⟨e',i',g,_d⟩⟩:=M a4 y H;exact F (VD g);simp_all
 |elem k1 e1 i1 ac=>
  have y:=(PP h ac r o).1 h1;cases vY (es:=es) (_m:=_m) (kf:=kf) b2 with
  |out k2 P a0 _c=>
   subst a0;exfalso;have H:=(PG h P _c r o).1 h2;obtain⟨k',g|⟨e',i',g,_d⟩⟩:=M P H y;have:=IA h g ac rfl;simp_all;simp_all
  |elem k2 e i n=>exact hi.apart _ _ _ _ y ((PP h n r o).1 h2)
  |other F R=>exact hi.apart _ _ _ _ y ((oe h F R r o).1 h2)
 exact λr o hc=>(h.inv.const r o hc).1;intro r o b hc hd _e;cases vY (es:=es) (_m:=_m) (kf:=kf) b with
 |other F R=>grind
 |out k hk ht T=>subst ht;exact(h.inv.const r o hc).2 _ ((PG h hk T r o).1 _e)
 |elem k e i n=>
  have y:=(PP h n r o).1 _e;rcases h.trans.cnew r o hc with _a|⟨k',g⟩|G;exact(hi.const r o _a).2 _ y;obtain⟨E,q⟩:=vN h.cin k' _ _ g;have B:es[k']?=Z es[k']:=bF E;rw[zB B]at q;have D:=hi.apart _ _ _ _ q y;have _d:k'=k:=IA h B n D;subst _d;exact(h.inv.const r o hc).2 _ ((z n).1 g);have G:s1.w.heap.size<=r:=G;have:=yX hi _ _ _ y;omega
 intro r o b hc b5 hd _e;rcases h.trans.cnew r o hc with _a|⟨k',g⟩|G;exact b5 _a;obtain⟨E,q⟩:=vN h.cin k' _ _ g;have B:es[k']?=Z es[k']:=bF E;rw[zB B]at q;have D:=hi.apart _ _ _ _ q _e;simp_all;have G:s1.w.heap.size<=r:=G;have:=yX hi _ _ _ _e;omega
end
end Go.Am
end
section
namespace Go.Am
section
variable {P:Program} {F:Orc} {s:Sn} {a:Act} {env:List (Nat×AV)} {o:Oper} {_m:Nat} {e:Eff}
theorem zt{r:List _w}(hi:Inv s)(B:Frz r s.σ){x:AV}{y:AV×List (Nat×_w)}{v:Value}(h:(kI x).run ⟨env,r⟩=Z y)(hr:JH s x v):
  ∃g',Inv ⟨upd y.2 s.σ,g',s.w⟩/\bK s ⟨upd y.2 s.σ,g',s.w⟩/\Frz s.σ (upd y.2 s.σ)/\JH ⟨upd y.2 s.σ,g',s.w⟩ y.1 v:=by
 have same: ∀{z:AV},(RM.ret (z,[]):RM (AV×List (Nat×_w))).run ⟨env,r⟩=Z y->JH s z v-> ∃g',Inv ⟨upd y.2 s.σ,g',s.w⟩/\bK s ⟨upd y.2 s.σ,g',s.w⟩/\Frz s.σ (upd y.2 s.σ)/\JH ⟨upd y.2 s.σ,g',s.w⟩ y.1 v:=(by intro z j hr;simp only[RM.run]at j;cases j;exact⟨s.g,hi,.refl s,.refl _,hr⟩);cases x with
 |_r b i n=>
  simp only[kI]at h;obtain⟨C,h1,h⟩:=bind_some h;obtain⟨g',o,A,q,c,hc,E⟩:=QT hi B h1 hr;rw[hc]at h;simp only[RM.run]at h;cases h;exact⟨g',o,A,q,.p _ _ E⟩
 |agg cs=>
  simp only[kI]at h;obtain⟨C,h1,h⟩:=bind_some h;simp only[RM.run]at h;cases h;obtain⟨g',o,A,q,F,D⟩:=j9 hi B h1 hr;cases hr with
  |agg _ vs h1 _e h2=>exact⟨g',o,A,q,.data _ _ F λi x v G H=>D i x v G H⟩
 |tup=>grind [kI,RM.run]
 |p c=>exact same h hr
 |data cs=>exact same h hr
 |ptr b off=>exact same h hr
 |cp cs off=>exact same h hr
 |ep b e i off=>exact same h hr
 |fn f first caps=>exact same h hr
 |unk=>exact same h hr
 |pre b n k=>exact same h hr
theorem Ce{o:List _w}: ∀{xs:List AV} {s:Sn} {y:List AV×List (Nat×_w)} {vs:List Value},Inv s->Frz o s.σ->(lR xs).run ⟨env,o⟩=Z y->xs.length=vs.length->
  (∀(i:Nat) x v,xs[i]?=Z x->vs[i]?=Z v->JH s x v)->
  ∃g',Inv ⟨upd y.2 s.σ,g',s.w⟩/\bK s ⟨upd y.2 s.σ,g',s.w⟩/\Frz s.σ (upd y.2 s.σ)/\y.1.length=vs.length/\
   ∀(i:Nat) x v,y.1[i]?=Z x->vs[i]?=Z v->JH ⟨upd y.2 s.σ,g',s.w⟩ x v
 |[],s,y,vs,hi,e,h,hl,j=>by
  simp only[lR,RM.run]at h;cases h;exact⟨s.g,hi,.refl s,.refl _,by simpa using hl,λi c v hc=>by simp at hc⟩
 |x::xs,s,y,[],hi,e,h,hl,j=>by simp at hl
 |x::xs,s,y,v::vs,hi,e,h,hl,j=>by
  simp only[lR]at h;obtain⟨r,h1,h⟩:=bind_some h;obtain⟨H,h2,h⟩:=bind_some h;simp only[RM.run]at h;cases h;obtain⟨B,i1,n,k,_e⟩:=zt hi e h1 (j 0 x v rfl rfl);obtain⟨A,i2,q,z,E,_d⟩:=Ce (s:=⟨upd r.2 s.σ,B,s.w⟩) i1 (e.trans k) h2 (by simpa using hl) λi x v C D=>(j (i+1) x v (by simpa using C) (by simpa using D)).mono hi n;refine⟨A,by grind [fM],by rw[fM];exact n.trans q,by rw[fM];exact k.trans z,by simp[E],λi c' G hc' F=>?_⟩;grind [JH.mono,upd]
def Nf(s1:Sn)(es:List _z)(_m:Nat)(e:_z)(x:_w)(y:Nat×_w):Prop:=
 y.1=e.id/\match e with
 | .whole _=>(∃cs l,x=.box cs/\bk.bkL es _m cs=Z l/\y.2=.box l)\/(∃w _l _f,x=.arr w _l _f/\y.2=.arr w _l _f)
 | .elem b _ i=> ∃w _l _f g,s1.σ[b]?=Z (.arr w _l _f)/\x=.box (g.map .p)/\y.2=.arr w _l (_f.set i g)
theorem JFl{g:List _w}{ws:List (Nat×_w)}(j:s.σ=upd ws g){es:List _z}{en:_z}{x:_w}{y:Nat×_w}(h:(vU ws es _m en x).run ⟨env,g⟩=Z y):Nf s es _m en x y:=by
 unfold vU at h;split at h;rename_i b cs;split at h;rename_i l hl;simp only[RM.run]at h;cases h;exact⟨rfl,.inl ⟨cs,l,rfl,hl,rfl⟩⟩;cases h;simp only[RM.run]at h;cases h;exact⟨rfl,.inr ⟨_,_,_,rfl,rfl⟩⟩;rename_i b ext i cs;obtain⟨z,h1,h⟩:=bind_some h;have hb:=m9 h1;rw[<-j]at hb;cases z with
 |arr w _l _f=>
  dsimp only at h;split at h;rename_i e k;simp only[RM.run]at h;cases h;exact⟨rfl,w,_l,_f,e,hb,by grind [QF],rfl⟩;cases h
 |_=>cases h
 cases h
theorem D4{j:List _w}{ws:List (Nat×_w)}(n:s.σ=upd ws j){es:List _z}: ∀{e:List _z} {xs:List _w} {g:List (Nat×_w)},(jZ ws es _m e xs).run ⟨env,j⟩=Z g->
  e.length=g.length/\e.length<=xs.length/\ ∀(k:Nat) en x y,e[k]?=Z en->xs[k]?=Z x->g[k]?=Z y->Nf s es _m en x y
 |[],xs,g,h=>by grind [jZ,RM.run]
 |_::_,[],g,h=>by cases h
 |en::e,x::xs,g,h=>by
  simp only[jZ]at h;obtain⟨y,h1,h⟩:=bind_some h;obtain⟨l,h2,h⟩:=bind_some h;simp only[RM.run]at h;cases h;obtain⟨o,q,r⟩:=D4 n h2;grind [JFl]
theorem qq{es:List _z}: ∀{xs:List _w} {g:Nat} {e:List (Nat×_w)},iV es _m g xs=Z e->
  xs.length=e.length/\ ∀(j:Nat) x y,xs[j]?=Z x->e[j]?=Z y->y.1=g+j/\((∃cs l,x=.box cs/\bk.bkL es _m cs=Z l/\y.2=.box l)\/(∃w _l _f,x=.arr w _l _f/\y.2=.arr w _l _f))
 |[],g,e,h=>by grind [iV]
 | .dead::_,g,e,h=>by grind [iV]
 | .box cs::xs,g,e,h=>by
  simp only[iV]at h;split at h;rename_i c l hc hl;cases h;obtain⟨k,n⟩:=qq hl;grind;cases h
 | .arr w _l _f::xs,g,e,h=>by
  simp only[iV]at h;split at h;rename_i l hl;cases h;obtain⟨k,n⟩:=qq hl;grind;cases h
theorem B6(b:Nat)(p q:List (Nat×_w)):kQ b (p++q)=match kQ b q with
  |some y=>Z y
  |none=>kQ b p:=by
 induction p with
 |nil=>grind [kQ]
 |cons x p ih=>
  grind [kQ]
theorem nh{b:Nat}{x:_w}: ∀{ws:List (Nat×_w)},(ws.map (·.1)).Nodup-> ∀{k:Nat},ws[k]?=Z (b,x)->kQ b ws=Z x
 |[],_,k,h=>by simp at h
 |(c,z)::r,hn,k,h=>by
  obtain⟨h1,h2⟩:=List.nodup_cons.1 hn;simp only[kQ];cases k with
  |zero=>
   grind [AH]
  |succ k=>rw[nh h2 (k:=k) (by simpa using h)]
theorem JBu(n k:Nat):((List.range k).map (n+ ·)).Nodup:=by
 grind [List.nodup_range]
theorem B9(hF:kX P F){f:FuncId}{ar:List AV×List (Nat×_w)}{q:Nat}{vals:Array Value}(H: ∀j,j<q->s.σ[_m+j]?=Z .dead)
  {g1:Gh} (i1:Inv ⟨upd ar.2 s.σ,g1,s.w⟩) (t1:bK s ⟨upd ar.2 s.σ,g1,s.w⟩) (f1:Frz s.σ (upd ar.2 s.σ)) (l1:ar.1.length=vals.toList.length)
  (r1: ∀(i:Nat) x v,ar.1[i]?=Z x->vals.toList[i]?=Z v->JH ⟨upd ar.2 s.σ,g1,s.w⟩ x v)
  (h:(gJ F f ar q _m).run ⟨env,s.σ⟩=Z e)
  (ai: ∀fn,P.funcs[f]?=some fn→fn.body.isSome=true→(fn.name== "runtime.NumGoroutine")=false→(execOp a.eval o).run P s.w=.ok (.enter f vals) s.w):cB P o a s e:=by
 unfold gJ at h;obtain⟨b6,h2,h⟩:=bind_some h;obtain⟨es,h3,h⟩:=bind_some h;split at h;rename_i ah;split at h;cases h;rename_i N a6;obtain⟨_q,h4,h⟩:=bind_some h;split at h;cases h;rename_i r a8;split at h;rename_i V;obtain⟨k,hlen,hk⟩: ∃k,r.2.length=es.length+k/\k<=q:=⟨r.2.length-es.length,by omega,by omega⟩;have M: ∀j,j<k->s.σ[_m+j]?=Z .dead:=λj hj=>H j (by omega);clear V;split at h;rename_i v fresh hv K;obtain⟨n,h5,h⟩:=bind_some h;simp only[RM.run]at h;cases h
 let s1:Sn:=⟨upd ar.2 s.σ,g1,s.w⟩
 obtain⟨bl,a5⟩:=Dj (s:=s1) rfl h4;have cin:jt s1 es _q:=⟨i1,XY ah,bl,a5⟩;obtain⟨⟨fn,af,_c,S⟩,R⟩:=hF f N _q r a8;obtain⟨q1,q2⟩:=wH a6;have ci:=JQ4 cin;have hc:=R (jA s1 es _q).g s.w vals ci (by grind) (λi x v hx hv=>by have A:=JE hx;have _b:ar.1[i]?=Z (ar.1[i]'(by omega)):=bF _;exact Np cin (r1 i _ v _b (by simpa using hv)) (q2 i _ x _b hx));intro next Q T;simp only[Oper.wp,ai fn af _c S,Oper.upon];refine hc.mono ?_;rintro e w' ⟨rv,g',rfl,a7,_e,a3⟩;simp only;obtain⟨b1,b2,b3⟩:=D4 (s:=s1) rfl h5;obtain⟨n1,n2⟩:=qq K;have B: ∀j,j<k->s1.σ[_m+j]?=Z .dead:=λj hj=>f1.2 _ _ (M j hj) (by simp);have b9:(r.2.drop es.length).length=k:=by simp;omega
 have ac:n.map (·.1)=es.map _z.id:=(by apply zQ6;intro i;rw[iM,iM];by_cases A:i<es.length;have E:es[i]?=Z es[i]:=bF A;have L:n[i]?=Z (n[i]'(by omega)):=bF _;have G:r.2[i]?=Z (r.2[i]'(by omega)):=bF _;have:=(b3 i _ _ _ E G L).1;grind;grind);have ab: ∀j,j<k->fresh[j]?=Z (_m+j,(fresh[j]?.map (·.2)).getD .dead):=(by grind);have am:(fresh.map (·.1)).Nodup:=(by have:fresh.map (·.1)=(List.range k).map (_m+ ·):=(by apply zQ6;grind);grind [JBu]);have al: ∀b,b∈fresh.map (·.1)↔_m<=b/\b<_m+k:=(by intro b;constructor;grind [h!];intro hm;have:=ab (b-_m) (by omega);grind);have W:(upd (n++fresh) s1.σ).length=s1.σ.length:=DR _ _;have U: ∀{q:Nat} {en:_z},es[q]?=Z en->en.id<s1.σ.length/\ ¬(_m<=en.id/\en.id<_m+k):=by
  intro q en C;obtain⟨x,_,_a⟩:=sX cin C;have z: ∃y,s1.σ[en.id]?=Z y/\y≠.dead:=by
   cases en with
   |whole b=>
    rcases _a with⟨cs',l,h1,h2,rfl⟩|⟨w,a2,rows',h1,rfl⟩;exact⟨_,h1,by simp⟩;exact⟨_,h1,by simp⟩
   |elem b ext i=>obtain⟨a2,rows',row,h1,h2,h3,rfl⟩:=_a;exact⟨_,h1,by simp⟩
  obtain⟨y,z,hd⟩:=z;refine⟨JE z,λhm=>?_⟩;have:=B (en.id-_m) (by omega);rw[show _m+(en.id-_m)=en.id by omega,z]at this;grind
 have aa: ∀{q:Nat} {en:_z} {y:Nat×_w},es[q]?=Z en->n[q]?=Z y->(upd (n++fresh) s1.σ)[en.id]?=Z y.2:=by intro q en y C z;obtain⟨A,b7⟩:=U C;have G:r.2[q]?=Z (r.2[q]'(by grind)):=bF _;have ag:=(b3 q en _ y C G z).1;rw[zO _ _ _ A,B6,AH (by grind)];simp only;rw[nh (x:=y.2) (by rw[ac];exact cin.nodup) (k:=q) (by grind)]
 have av: ∀{j:Nat} {y:Nat×_w},j<k->fresh[j]?=Z y->(upd (n++fresh) s1.σ)[_m+j]?=Z y.2:=(by grind [zO,B6,nh]);have co:Pk s1 es _q _m k ⟨r.2,g',w'⟩ (upd (n++fresh) s1.σ):=by
  refine⟨cin,a7,_e,hlen,W,B,λq y z=>?_,λb bb b8=>?_⟩;have z:r.2[q]?=Z y:=z;unfold rB;cases C:es[q]? with
  |some en=>
   have A:=JE C;have L:n[q]?=Z (n[q]'(by omega)):=bF _;obtain⟨ag,a0⟩:=b3 q en y _ C z L;have hg:=aa C L;cases en with
   |whole b=>
    rcases a0 with⟨cs,l,E,G,_d⟩|⟨w,_l,_f,E,_d⟩;exact .inl ⟨cs,l,E,G,by rw[<-_d];exact hg⟩;exact .inr ⟨w,_l,_f,E,by rw[<-_d];exact hg⟩
   |elem b ext i=>obtain⟨w,_l,_f,a4,E,G,_d⟩:=a0;exact⟨w,_l,_f,a4,E,G,by rw[<-_d];exact hg⟩
  |none=>
   have ba:es.length<=q:=(by grind);have A:=JE z;have L:fresh[q-es.length]?=Z (fresh[q-es.length]'(by omega)):=bF _;grind
  grind [zO,AH]
 have oi:=JMf co;have ot:=Bn co;have D:upd (ar.2++n++fresh) s.σ=upd (n++fresh) s1.σ:=by grind [fM]
 refine T rv w' (fX s1 es _m k ⟨r.2,g',w'⟩ (upd (n++fresh) s1.σ)).g ?_ ?_ ?_;rw[D];exact oi;rw[D];exact t1.trans ot;rw[D];exact Rq co a3 hv;cases h;cases h;cases h
theorem Qi{f:FuncId}{args:List AV}{k:Nat}{s:St}(h:(jF F f args k _m).run s=Z e): ∃ar,(lR args).run s=Z ar/\(gJ F f ar k _m).run s=Z e:=by
 unfold jF at h;obtain⟨ar,h1,h⟩:=bind_some h;obtain⟨w,h2,h⟩:=bind_some h;obtain⟨es,v,h⟩:=bind_some h;refine⟨ar,h1,?_⟩;unfold gJ;rw[run_bind,h2,JF,run_bind,v,JF];split at h;rename_i n;rw[if_pos n];split at h;cases h;rename_i o g;obtain⟨_q,q,h⟩:=bind_some h
 try rw[g]
 try dsimp only
 rw[run_bind,q,JF];split at h;cases h;rename_i r j
 try rw[j]
 try dsimp only
 split at h;grind;cases h;cases h
theorem Qm(z:kX P F)(hi:Inv s){f:FuncId}{args:List AV}{k:Nat}{vals:Array Value}(g: ∀j,j<k->s.σ[_m+j]?=Z .dead)
  (h:(jF F f args k _m).run ⟨env,s.σ⟩=Z e) (hl:args.length=vals.size) (hr: ∀(i:Nat) x v,args[i]?=Z x->vals[i]?=Z v->JH s x v)
  (r: ∀fn,P.funcs[f]?=some fn→fn.body.isSome=true→(fn.name== "runtime.NumGoroutine")=false→(execOp a.eval o).run P s.w=.ok (.enter f vals) s.w):cB P o a s e:=by
 obtain⟨ar,h1,h2⟩:=Qi h;obtain⟨D,i1,A,y,B,C⟩:=Ce (vs:=vals.toList) hi (.refl _) h1 (by simpa using hl) (λi x v n q=>hr i x v n (by simpa using q));grind [B9]
theorem JH5{q:List _w}: ∀{m:List Bool} {xs:List AV} {s:Sn} {y:List AV×List (Nat×_w)} {vs:List Value},Inv s->Frz q s.σ->(fW m xs).run ⟨env,q⟩=Z y->xs.length=vs.length->
  (∀(i:Nat) x v,xs[i]?=Z x->vs[i]?=Z v->JH s x v)->
  ∃g',Inv ⟨upd y.2 s.σ,g',s.w⟩/\bK s ⟨upd y.2 s.σ,g',s.w⟩/\Frz s.σ (upd y.2 s.σ)/\y.1.length=vs.length/\
   ∀(i:Nat) x v,y.1[i]?=Z x->vs[i]?=Z v->JH ⟨upd y.2 s.σ,g',s.w⟩ x v:=by
 intro m xs
 induction xs generalizing m with
 |nil=>
  intro s y vs hi o h hl j;have h:(RM.ret ([],[]):RM (List AV×List (Nat×_w))).run ⟨env,q⟩=Z y:=by cases m<;>exact h
  simp only[RM.run]at h;cases h;exact⟨s.g,hi,.refl s,.refl _,by simpa using hl,λi c v hc=>by simp at hc⟩
 |cons x xs ih=>
  intro s y vs hi o h hl j;cases vs with
  |nil=>simp at hl
  |cons v vs=>
   have r: ∀{z:List Bool},((kI x).bind λa=>(fW z xs).bind λc=>.ret (a.1::c.1,a.2++c.2)).run ⟨env,q⟩=Z y->
     ∃g',Inv ⟨upd y.2 s.σ,g',s.w⟩/\bK s ⟨upd y.2 s.σ,g',s.w⟩/\Frz s.σ (upd y.2 s.σ)/\y.1.length=(v::vs).length/\
      ∀(i:Nat) x n,y.1[i]?=Z x->(v::vs)[i]?=Z n->JH ⟨upd y.2 s.σ,g',s.w⟩ x n:=by
    intro z h;obtain⟨H,h1,h⟩:=bind_some h;obtain⟨_e,h2,h⟩:=bind_some h;simp only[RM.run]at h;cases h;obtain⟨_d,i1,G,F,L⟩:=zt hi o h1 (j 0 x v rfl rfl);obtain⟨B,i2,k,A,E,K⟩:=ih (m:=z) (s:=⟨upd H.2 s.σ,_d,s.w⟩) i1 (o.trans F) h2 (by simpa using hl) λi x v C D=>(j (i+1) x v (by simpa using C) (by simpa using D)).mono hi G;refine⟨B,by grind [fM],by rw[fM];exact G.trans k,by rw[fM];exact F.trans A,by simp[E],λi c' n hc' e=>?_⟩;grind [JH.mono,upd]
   cases m with
   |nil=>exact r h
   |cons b m=>
    cases b with
    |false=>exact r h
    |true=>
     simp only[fW]at h;obtain⟨_e,h2,h⟩:=bind_some h;simp only[RM.run]at h;cases h;obtain⟨B,i2,k,A,E,K⟩:=ih (m:=m) hi o h2 (by simpa using hl) λi x v C D=>j (i+1) x v (by simpa using C) (by simpa using D);refine⟨B,i2,k,A,by simp[E],λi c' n hc' e=>?_⟩;cases i with
     |zero=>simp at hc' e;subst hc' e;exact(j 0 x v rfl rfl).mono hi k
     |succ i=>grind
theorem rj{f:FuncId}{args:Array Value}{fn:Func}(h1:P.funcs[f]?=some fn)(h2:fn.body.isSome=true)(h3:(fn.name== "runtime.NumGoroutine")=false)(w:World):
  (callFunc f args).run P w=.ok (.enter f args) w:=by
 have e:fn.name≠ "runtime.NumGoroutine" :=by simpa using h3
 have g:fn.body≠Y:=by grind
 simp_all [callFunc]
theorem JME(y:kX P F)(hi:Inv s)(he:bZ s a.tmps env){f args k}(n: ∀j,j<k->s.σ[_m+j]?=Z .dead)(h:(_y F (.call f args k) _m).run ⟨env,s.σ⟩=Z e)
  (hc:bG P (.call f args k) o.op=O):cB P o a s e:=by
 simp only[_y]at h;obtain⟨vs,h1,w⟩:=bind_some h;clear h;unfold bG at hc;simp only at hc;split at hc;rename_i c C;split at hc;rename_i g z;simp only[bB,beq_iff_eq]at hc;obtain⟨rfl,q⟩:=hc;obtain⟨l,r⟩:=IE he h1 q;refine Qm y hi n w (vals:=c.args.map a.eval) (by simpa using l) (λi x v A B=>r i x v A (by simpa using B)) λfn G E D=>?_;simp_all [execOp,resolve,Act.eval,Deferred.ofValue,invoke,rj];cases hc;cases hc
theorem JIJ(z:kX P F)(hi:Inv s)(he:bZ s a.tmps env){f keep args k}(n: ∀j,j<k->s.σ[_m+j]?=Z .dead)(h:(_y F (.callo f keep args k) _m).run ⟨env,s.σ⟩=Z e)
  (hc:bG P (.callo f keep args k) o.op=O):cB P o a s e:=by
 simp only[_y]at h;obtain⟨vs,h1,w⟩:=bind_some h;obtain⟨ar,h2,G⟩:=bind_some w;clear h w;unfold bG at hc;simp only at hc;split at hc;rename_i c _d;split at hc;rename_i g A;simp only[bB,beq_iff_eq]at hc;obtain⟨rfl,q⟩:=hc;obtain⟨l,r⟩:=IE he h1 q;obtain⟨E,i1,B,y,C,D⟩:=JH5 (vs:=(c.args.map a.eval).toList) hi (.refl _) h2 (by simpa using l) (λi x v H _e=>r i x v H (by simpa using _e));refine B9 z n (vals:=c.args.map a.eval) i1 B y C D G λfn E L K=>?_;simp_all [execOp,resolve,Act.eval,Deferred.ofValue,invoke,rj];cases hc;cases hc
theorem JID(C:kX P F)(hi:Inv s)(he:bZ s a.tmps env){x args k}(g: ∀j,j<k->s.σ[_m+j]?=Z .dead)(h:(_y F (.callv x args k) _m).run ⟨env,s.σ⟩=Z e)
  (hc:bG P (.callv x args k) o.op=O):cB P o a s e:=by
 simp only[_y]at h;obtain⟨u,E,q⟩:=bind_some h;clear h;unfold bG at hc;simp only at hc;split at hc;rename_i c G;split at hc;rename_i y D;simp only[bB]at hc;obtain⟨B,n⟩:=hc;have A:=bW he E B;cases u with
 |fn f first caps=>
  dsimp only at q;obtain⟨vs,h1,w⟩:=bind_some q;obtain⟨l,r⟩:=IE he h1 n;generalize N:a.eval y=z at A;cases A with
  |fn _ _ _ fs cs K _d H _e=>
   have l':vs.length=c.args.size:=by simpa using l
   refine Qm C hi g w (vals:=fs++c.args.map a.eval++cs) (by simp;omega) (λi x v B Q=>?_) λfn _c M L=>?_;grind;grind [execOp,resolve,Deferred.ofValue,invoke,rj]
 |_=>cases q
 cases hc;cases hc
end
end Go.Am
end
