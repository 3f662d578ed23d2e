/-
  Parts of a proof.
-/
import Derived.Calls
import Derived.LoopN
import Derived.KernelRfl
import Derived.Laws.Sem
import Derived.Laws.StructEq
import Derived.Laws.Cells
import Derived.Laws.Cover3
import Derived.Laws.Pointers
import Derived.Deep.AppendSrc
import Derived.Laws.MakeOwn
import Derived.Laws.BytesString
import Derived.Lib.SliceRun
import Derived.DeepKeys
set_option linter.unusedSimpArgs false
set_option linter.unusedVariables false
set_option linter.unusedSectionVars false
open Option renaming some → Z,none → Y
open Bool renaming true → O,false → J
open Go.IntKind renaming i64 → I
open List renaming replicate → _J
section
namespace Go.Am
abbrev aI:=Option
abbrev zQ0:= @Nat.le_refl
abbrev zQ1:= @Nat.le_trans
abbrev zQ2:= @Nat.zero_le
abbrev zQ3:= @Nat.lt_or_ge
abbrev zQ4:= @Nat.mul_le_mul_right
abbrev zQ5:= @List.mem_of_getElem?
abbrev zQ6:= @List.ext_getElem?
abbrev zQ7:= @List.mem_of_mem_drop
abbrev zQ8:= @Nat.add_mul
abbrev zQ9:= @List.mem_append
abbrev aZ:= @List.getElem?_eq_getElem
abbrev nT:= @List.getElem?_eq_none
abbrev bS:= @List.mem_cons
abbrev aX:= @Bool.and_eq_true
abbrev AS:= @Sem.run_bind
abbrev uY:= @Result.andThen_ok
abbrev hX:= @Option.map_eq_some_iff
abbrev sd:= @Option.isSome_iff_exists
abbrev da:= @Nat.add_assoc
abbrev PI:= @Array.ext'
abbrev I2:= @Array.getElem?_toList
abbrev uT:= @List.flatten_cons
abbrev iL:= @List.getElem?_map
abbrev fJ:= @Bool.false_eq_true
abbrev dn:= @List.length_eq_one_iff
abbrev jK:= @List.getElem?_of_mem
abbrev db:= @Sem.run_pure
abbrev FP:= @List.mem_of_mem_take
abbrev sW:= @List.getElem?_set_self
abbrev AN:= @List.getElem?_set_ne
abbrev rC:= @List.length_cons
abbrev ek:= @Array.all_eq_true_iff_forall_mem
abbrev BN:= @List.length_replicate
abbrev oA:= @List.mem_map
abbrev uO:= @List.getElem?_append_right
abbrev dT:= @List.length_map
abbrev uW:= @Nat.add_zero
abbrev FU:= @List.drop_zero
abbrev L3:= @Array.getElem?_append_left
abbrev pV:= @Nat.zero_add
abbrev xG:= @Array.getElem?_eq_getElem
abbrev FX:= @Nat.mul_comm
abbrev qZ:= @List.length_append
abbrev mN:= @List.length_take
abbrev AT:= @List.length_drop
abbrev PJ:= @List.getElem?_take
abbrev eo:= @List.getElem?_drop
abbrev gH:= @List.append_nil
abbrev GH:= @List.getElem?_append_left
abbrev cY:= @List.getElem?_eq_some_iff
abbrev QL:= @Nat.eq_zero_or_pos
abbrev nP:= @List.cons_append
abbrev sX:= @List.drop_drop
abbrev GQ:= @Bool.not_eq_true'
abbrev uQ:= @Nat.sub_zero
abbrev bN:= @Option.bind_eq_some_iff
abbrev JF:= @Option.bind_some
abbrev gF:= @List.mem_cons_of_mem
abbrev AW:= @Bool.or_eq_true
abbrev pW:= @List.append_assoc
abbrev pR:= @List.take_append_drop
abbrev Ky:= @List.map_take
abbrev cH:= @List.map_cons
abbrev FQ:= @List.map_map
abbrev tA:= @List.map_append
abbrev cN:= @Option.map_some
abbrev rD:= @List.nil_append
abbrev dp:= @List.all_eq_true
abbrev dq:= @List.map_replicate
abbrev fR:= @List.mem_singleton
abbrev iZ:= @Int.le_trans
abbrev rA:= @List.getElem_mem
abbrev bA:= @Int.le_refl
abbrev cw:= @List.mem_or_eq_of_mem_set
abbrev sT:= @List.mem_iff_getElem?
abbrev GN:= @Nat.pow_le_pow_right
theorem _root_.And.c{h g e:Prop}(x:h/\g/\e):e:=x.2.2
theorem _root_.And.d{g h j e:Prop}(x:g/\h/\j/\e):e:=x.2.2.2
theorem _root_.And.e{j k n h g:Prop}(x:j/\k/\n/\h/\g):g:=x.2.2.2.2
theorem _root_.And.g{j n o h k e:Prop}(x:j/\n/\o/\h/\k/\e):e:=x.2.2.2.2.2
theorem _root_.And.h{j n q g k o e:Prop}(x:j/\n/\q/\g/\k/\o/\e):e:=x.2.2.2.2.2.2
theorem _root_.And.i{h k o g j n q e:Prop}(x:h/\k/\o/\g/\j/\n/\q/\e):e:=x.2.2.2.2.2.2.2
theorem _root_.And.j{h n r g k q v o e:Prop}(x:h/\n/\r/\g/\k/\q/\v/\o/\e):e:=x.2.2.2.2.2.2.2.2
theorem _root_.And.k{h n r g j q w o v e:Prop}(x:h/\n/\r/\g/\j/\q/\w/\o/\v/\e):e:=x.2.2.2.2.2.2.2.2.2
inductive PV where
 |b (x:Bool)
 |i (k:IntKind) (n:Int)
 |s (l:List UInt8)
 |sl (_l:Nat) (_f:List (List PV))
 |np
 |nf
 |slc (_l:Nat) (_f:List (List PV))
 deriving Inhabited
inductive AV where
 |p (c:PV)
 |data (cs:List PV)
 |agg (cs:List AV)
 |tup (vs:List AV)
 |ptr (b off:Nat)
 |cp (cs:List PV) (off:Nat)
 |_r (b i n:Nat)
 |ep (b ext i off:Nat)
 |pre (b n k:Nat)
 |fn (f:FuncId) (first caps:List AV)
 |unk
 deriving Inhabited
inductive _x where
 |dead
 |box (cs:List AV)
 |arr (w:Bool) (_l:Nat) (_f:List (List PV))
 deriving Inhabited
abbrev Res:=AV×List _x
abbrev Orc:=FuncId->List AV->List _x->Option Res
structure St where
 env:List (Nat×AV)
 _o:List _x
def lk(n:Nat):List (Nat×AV)->Option AV|[]=>Y|(m,v)::r=>if n=m then Z v else lk n r
inductive RM(α:Type) where|ret (a:α)|slot (n:Nat) (k:AV->RM α)|blk (b:Nat) (k:_x->RM α)|fail
def RM.bind{α β:Type}:RM α->(α->RM β)->RM β| .ret a,f=>f a| .slot n k,f=>.slot n λv=>(k v).bind f| .blk b k,f=>.blk b λv=>(k v).bind f| .fail,_=>.fail
def RM.run{α:Type}:RM α->St->Option α
 | .ret a,_=>Z a
 | .slot n k,s=>match lk n s.env with|some v=>(k v).run s|none=>Y
 | .blk b k,s=>match s._o[b]? with|some v=>(k v).run s|none=>Y
 | .fail,_=>Y
inductive Loc where
 |slot (n:Nat)
 |blk (b:Nat)
 deriving DecidableEq
def RM.reads{α:Type}:RM α->St->List Loc
 | .ret _,_=>[]
 | .slot n k,s=>.slot n::match lk n s.env with|some v=>(k v).reads s|none=>[]
 | .blk b k,s=>.blk b::match s._o[b]? with|some v=>(k v).reads s|none=>[]
 | .fail,_=>[]
def RM.of{α:Type}:Option α->RM α|some a=>.ret a|none=>.fail
inductive Opd where
 |t (n:Nat)
 |c (x:AV)
 deriving Inhabited
inductive KD where
 |b
 |i (k:IntKind)
 |s
 deriving DecidableEq
inductive BT where
 |plain
 |bool
 |flat (ks:List KD)
 |nils
 |nilp
 |nilf
 deriving DecidableEq
inductive CK where
 |int (k:IntKind)
 |same
 |_D
 |toBytes (own:Bool)
 deriving DecidableEq
inductive SK where
 |str
 |sl (_l:Nat)
 deriving DecidableEq
inductive AOp where
 |mv (x:Opd)
 |mkarr (_l:Nat) (x:Opd)
 |pick (c a b:Opd)
 |newbox (zero:List PV)
 |box (size:Nat) (x:Opd)
 |build (zero:List PV) (parts:List (Nat×Nat×Opd))
 |lits (own:Bool) (_l n:Nat) (zero:List PV) (parts:List (Nat×Opd))
 |load (agg:Bool) (size:Nat) (x:Opd)
 |store (size:Nat) (x v:Opd)
 |nilchk (x:Opd)
 |bin (op:BinOp) (t:BT) (x y:Opd)
 |un (op:UnOp) (x:Opd)
 |conv (k:CK) (x:Opd)
 |_E (own:Bool) (_l bytes:Nat) (zero:List PV) (l c:Opd)
 |slice (k:SK) (x:Opd) (lo hi mx:Option Opd)
 |faddr (off:Nat) (x:Opd)
 |field (agg:Bool) (off size:Nat) (x:Opd)
 |iaddr (_l:Nat) (x i:Opd)
 |aaddr (len _l:Nat) (x i:Opd)
 |sidx (x i:Opd)
 |aidx (agg:Bool) (len _l:Nat) (x i:Opd)
 |extr (x:Opd) (i:Nat)
 |call (f:FuncId) (args:List Opd) (k:Nat)
 |callv (g:Opd) (args:List Opd) (k:Nat)
 |len (str:Bool) (x:Opd)
 |app (_l bytes:Nat) (zero:List PV) (x y:Opd)
 |appn (_l bytes:Nat) (zero:List PV) (y:Opd)
 |mm (mx:Bool) (x y:Opd)
 |mkfn (f:FuncId) (first caps:List Opd)
 |newboxo (zero:List PV) (os:List (Nat×Nat))
 |buildo (zero:List PV) (parts:List (Nat×Nat×Opd)) (os:List (Nat×Nat))
 |storen (_l:Nat) (x:Opd)
 |callo (f:FuncId) (keep:List Bool) (args:List Opd) (k:Nat)
 |psuf (_l:Nat) (x lo:Opd)
 |shr (_l:Nat) (zero:List PV) (x hi:Opd)
 |clr (_l:Nat) (zero:List PV) (x:Opd)
 |mvn (_l:Nat) (zero:List PV) (x:Opd)
 deriving Inhabited
structure bX where
 op:AOp
 dst:Option Nat
 g:Option (Nat×Bool)
 deriving Inhabited
inductive cD where
 |skip
 |bad
 |reg (draw:Bool) (pairs:List (Nat×Nat)) (ins:List bX)
 |seq (a b:cD)
 |cond (c:Opd) (a b:cD)
 |block (id:Nat) (c:cD)
 |loop (live:List Nat) (c:cD)
 |lp (n:Nat) (live:List Nat) (c:cD)
 |scope (c:cD)
 |exit (id:Nat)
 |ret
 |keep (live:List Nat) (c:cD)
 |tidy (live:List Nat) (c:cD)
 |br (live:List Nat) (pre:cD) (c:Opd) (a b rest:cD)
 deriving Inhabited
inductive AX where
 |normal
 |exit (id:Nat)
 |ret
 deriving DecidableEq
abbrev Out:=AX×St
inductive xN where|tmp (t:Nat)|cell (t:Nat) (agg:Bool) (size:Nat)
structure AFn where
 np:Nat
 nt:Nat
 body:cD
 res:List xN
 fresh:Bool
structure Eff where
 val:AV
 ws:List (Nat×_x)
def upd(ws:List (Nat×_x))(_o:List _x):List _x:=ws.foldl (λs x=>s.set x.1 x.2) _o
def unp:List AV->Option (List PV)
 |[]=>Z []
 | .p c::r=>match unp r with|some l=>Z (c::l)|none=>Y
 |_::_=>Y
def cellsOf:AV->Option (List AV)| .p c=>Z [.p c]| .data cs=>Z (cs.map .p)| .agg cs=>Z cs| .ptr b o=>Z [.ptr b o]| .cp cs o=>Z [.cp cs o]| ._r b i n=>Z [._r b i n]| .ep b e i o=>Z [.ep b e i o]| .fn f a c=>Z [.fn f a c]| .tup _=>Y| .pre _ _ _=>Y| .unk=>Y
def mA(agg:Bool)(cs:List AV):Option AV:=
 if agg then
  match unp cs with
  |some l=>Z (.data l)
  |none=>Z (.agg cs)
 else match cs with|[x]=>Z x|_=>Y
def qJ(agg:Bool)(cs:List PV):Option AV:=
 if agg then Z (.data cs)
 else match cs with|[x]=>Z (.p x)|_=>Y
def sub{α:Type}(cs:List α)(off size:Nat):Option (List α):=if off=0/\cs.length=size then Z cs else if off+size<=cs.length then Z ((cs.drop off).take size)else Y
def spl{α:Type}(cs:List α)(off:Nat)(vs:List α):Option (List α):=if off=0/\cs.length=vs.length then Z vs else if off+vs.length<=cs.length then Z (cs.take off++vs++cs.drop (off+vs.length))else Y
def fz:AV->RM (List PV×List (Nat×_x))
 | .p c=>.ret ([c],[])
 | .data cs=>.ret (cs,[])
 | ._r b i n=>.blk b fun
  | .arr _ _l _f=>if i+n=_f.length then .ret ([.sl _l (_f.drop i)],[(b,.arr J _l _f)])else .fail
  |_=>.fail
 | .agg cs=>fzL cs
 |_=>.fail
where
 fzL:List AV->RM (List PV×List (Nat×_x))
  |[]=>.ret ([],[])
  |x::r=>(fz1 x).bind λa=>(fzL r).bind λc=>.ret (a.1++c.1,a.2++c.2)
 fz1:AV->RM (List PV×List (Nat×_x))
  | .p c=>.ret ([c],[])
  | ._r b i n=>.blk b fun
   | .arr _ _l _f=>if i+n=_f.length then .ret ([.sl _l (_f.drop i)],[(b,.arr J _l _f)])else .fail
   |_=>.fail
  |_=>.fail
def xE:KD->PV->PV->Option Bool| .b,.b x,.b y=>Z (x==y)| .i k,.i g x,.i e y=>if k=g/\k=e then Z (x==y)else Y| .s,.s x,.s y=>Z (x==y)|_,_,_=>Y
def cG:List KD->List PV->List PV->Option Bool
 |[],[],[]=>Z O
 |k::ks,x::xs,y::e=>match xE k x y,cG ks xs e with|some a,Z c=>Z (a&&c)|_,_=>Y
 |_,_,_=>Y
def NC(op:BinOp)(k:IntKind)(x y:Int):Option PV:=
 if y<0 then Y
 else match op with| .shl=>Z (.i k (k.wrap (x*2^(min y.toNat k.bits))))| .shr=>Z (.i k (x.fdiv (2^(min y.toNat k.bits))))|_=>Y
def AK(op:BinOp)(k:IntKind)(x y:Int):Option PV:=
 match op with
 | .add=>Z (.i k (k.wrap (x+y)))
 | .sub=>Z (.i k (k.wrap (x-y)))
 | .mul=>Z (.i k (k.wrap (x*y)))
 | .quo=>if y=0 then Y else Z (.i k (k.wrap (x.tdiv y)))
 | .rem=>if y=0 then Y else Z (.i k (x.tmod y))
 | .and=>Z (.i k (k.wrap (BitVec.ofInt k.bits x&&&BitVec.ofInt k.bits y).toNat))
 | .or=>Z (.i k (k.wrap (BitVec.ofInt k.bits x|||BitVec.ofInt k.bits y).toNat))
 | .xor=>Z (.i k (k.wrap (BitVec.ofInt k.bits x^^^BitVec.ofInt k.bits y).toNat))
 | .eql=>Z (.b (x==y))
 | .neq=>Z (.b (x !=y))
 | .lss=>Z (.b (decide (x<y)))
 | .leq=>Z (.b (decide (x<=y)))
 | .gtr=>Z (.b (decide (x>y)))
 | .geq=>Z (.b (decide (x>=y)))
 |_=>Y
def BB(op:BinOp)(x y:List UInt8):Option PV:=
 match op with
 | .add=>if x.length+y.length<=4611686018427387904 then Z (.s (x++y))else Y
 | .eql=>Z (.b (x==y))
 | .neq=>Z (.b (!(x==y)))
 | .lss=>Z (.b (Op.bytesLess x y))
 | .leq=>Z (.b (Op.bytesLess x y||x==y))
 | .gtr=>Z (.b (!(Op.bytesLess x y||x==y)))
 | .geq=>Z (.b (!Op.bytesLess x y))
 |_=>Y
def kM(op:BinOp)(r:Option Bool):Option AV:=
 match op,r with
 | .eql,Z x=>Z (.p (.b x))
 | .neq,Z x=>Z (.p (.b (!x)))
 |_,_=>Y
def PR:BinOp->Option AV| .eql=>Z .unk| .neq=>Z .unk|_=>Y
def pP(op:BinOp)(t:BT)(x y:AV):Option AV:=
 match t with
 | .plain=>match x,y with
  | .p (.i k a),.p (.i e c)=>match op with| .shl=>(NC .shl k a c).map .p| .shr=>(NC .shr k a c).map .p|_=>if k=e then(AK op k a c).map .p else Y
  | .p (.s a),.p (.s c)=>(BB op a c).map .p
  |_,_=>Y
 | .bool=>match x,y with| .p (.b a),.p (.b c)=>kM op (Z (a==c))|_,_=>Y
 | .flat ks=>match x,y with| .data a,.data c=>kM op (cG ks a c)|_,_=>Y
 | .nils=>match x with
  | .p (.sl _ _f)=>match _f with|[]=>PR op|_::_=>kM op (Z J)
  | ._r _ _ n=>if n=0 then PR op else kM op (Z J)
  |_=>Y
 | .nilp=>match x with| .p .np=>kM op (Z O)| .ptr _ _=>kM op (Z J)| .cp _ _=>kM op (Z J)| .ep _ _ _ _=>kM op (Z J)|_=>Y
 | .nilf=>match x with| .p .nf=>kM op (Z O)| .fn _ _ _=>kM op (Z J)|_=>Y
def unP(op:UnOp)(x:AV):Option AV:=
 match op,x with
 | .neg,.p (.i k n)=>Z (.p (.i k (k.wrap (0-n))))
 | .xor,.p (.i k n)=>Z (.p (.i k (k.wrap (BitVec.ofInt k.bits (if k.signed then -1 else k.max)^^^BitVec.ofInt k.bits n).toNat)))
 | .not,.p (.b x)=>Z (.p (.b (!x)))
 | .not,.unk=>Z .unk
 |_,_=>Y
def vU:List (List PV)->Option (List UInt8)
 |[]=>Z []
 |[.i .u8 n]::r=>match vU r with|some l=>Z (UInt8.ofNat n.toNat::l)|none=>Y
 |_::_=>Y
def oJ(x:UInt8):List PV:=[.i .u8 x.toNat]
def DC(_l:Nat):List (Nat×List PV)->List (List PV)->Option (List (List PV))|[],_f=>Z _f|(i,c)::r,_f=>if c.length=_l/\i<_f.length then DC _l r (_f.set i c)else Y
def rX:List (Nat×Nat×List AV)->List AV->Option (List AV)
 |[],cs=>Z cs
 |(off,size,c)::r,cs=>
  if c.length=size then
   match spl cs off c with
   |some cs'=>rX r cs'
   |none=>Y
  else Y
def ev:Opd->RM AV| .t n=>.slot n .ret| .c x=>.ret x
def evs:List Opd->RM (List AV)|[]=>.ret []|x::r=>(ev x).bind λv=>(evs r).bind λvs=>.ret (v::vs)
def val(x:Option AV):RM Eff:=
 match x with
 |some v=>.ret ⟨v,[]⟩
 |none=>.fail
def fzs:List Opd->RM (List (List PV)×List (Nat×_x))|[]=>.ret ([],[])|x::r=>(ev x).bind λv=>(fz v).bind λa=>(fzs r).bind λc=>.ret (a.1::c.1,a.2++c.2)
def oL(x:Option AV)(top e:Nat):Option Nat:=
 match x with
 |none=>Z e
 |some (.p (.i _ n))=>if 0<=n/\n<=top then Z n.toNat else Y
 |some _=>Y
def evo:Option Opd->RM (Option AV)|none=>.ret Y|some x=>(ev x).bind λv=>.ret (Z v)
def pN(n:Nat)(lo hi:Option AV):Option (Nat×Nat):=
 match oL hi n n with
 |none=>Y
 |some h=>match oL lo h 0 with|none=>Y|some l=>Z (l,h)
def yP(x:AV)(lo hi:Option AV):Option AV:=
 match x with
 | .p (.s l)=>match pN l.length lo hi with|some c=>Z (.p (.s ((l.drop c.1).take (c.2-c.1))))|none=>Y
 |_=>Y
def yN(_l:Nat)(x:AV)(lo hi:Option AV):Option AV:=
 match x with
 | .p (.sl e _f)=>if _l=e then
   match pN _f.length lo hi with
   |some c=>Z (.p (.sl _l ((_f.drop c.1).take (c.2-c.1))))
   |none=>Y
  else Y
 |_=>Y
def gp(_l:Nat)(x:AV)(lo hi:Option AV)(m:AV):Option AV:=
 match x,lo,hi,m with
 | .p (.sl e _f),Y,Z (.p (.i _ h)),.p (.i _ n)=>if _l=e/\h=_f.length/\n=_f.length then Z (.p (.slc _l _f))else Y
 |_,_,_,_=>Y
def lX(k:SK)(x:AV)(lo hi mx:Option AV):Option AV:=
 match mx with
 |some m=>match k with| .str=>Y| .sl _l=>gp _l x lo hi m
 |none=>match k with| .str=>yP x lo hi| .sl _l=>yN _l x lo hi
def ft(_f:List (List PV))(n:Int):Option (List PV):=if 0<=n then _f[n.toNat]? else Y
def mS(_l:Nat)(x i:AV):RM Eff:=
 match x,i with
 | .p (.sl e _f),.p (.i _ n)=>
  if _l=e then
   match ft _f n with
   |some row=>.ret ⟨.cp row 0,[]⟩
   |none=>.fail
  else .fail
 | ._r b j m,.p (.i _ n)=>.blk b fun
  | .arr _ e _f=>if _l=e/\j+m=_f.length/\0<=n/\n<m then .ret ⟨.ep b _f.length (j+n.toNat) 0,[]⟩else .fail
  |_=>.fail
 |_,_=>.fail
def MR(len _l:Nat)(x i:AV):Option AV:=
 match i with
 | .p (.i _ n)=>
  if 0<=n/\n<len then
   match x with
   | .ptr b off=>Z (.ptr b (off+n.toNat*_l))
   | .cp cs off=>Z (.cp cs (off+n.toNat*_l))
   | .ep b e j off=>Z (.ep b e j (off+n.toNat*_l))
   |_=>Y
  else Y
 |_=>Y
def MS(off:Nat):AV->Option AV| .ptr b o=>Z (.ptr b (o+off))| .cp cs o=>Z (.cp cs (o+off))| .ep b e j o=>Z (.ep b e j (o+off))|_=>Y
def iD(agg:Bool)(size:Nat):AV->RM Eff
 | .cp cs off=>match sub cs off size with|some l=>val (qJ agg l)|none=>.fail
 | .ptr b off=>.blk b fun
  | .box cs=>match sub cs off size with|some l=>val (mA agg l)|none=>.fail
  |_=>.fail
 | .ep b ext i off=>.blk b fun
  | .arr _ _ _f=>if ext=_f.length then
    match _f[i]? with
    |some row=>match sub row off size with|some l=>val (qJ agg l)|none=>.fail
    |none=>.fail
   else .fail
  |_=>.fail
 |_=>.fail
def iE:AV:=.tup []
def jE(size:Nat)(x v:AV):RM Eff:=
 match x with
 | .ptr b off=>.blk b fun
  | .box cs=>match cellsOf v with
   |some l=>if l.length=size then
    match spl cs off l with
    |some cs'=>.ret ⟨iE,[(b,.box cs')]⟩
    |none=>.fail
    else .fail
   |none=>.fail
  |_=>.fail
 | .ep b ext i off=>.blk b fun
  | .arr O _l _f=>if ext=_f.length then
    match _f[i]? with
    |some row=>(fz v).bind λa=>
     if a.1.length=size/\(a.2.all λy=>y.1 !=b)then
      match spl row off a.1 with
      |some e=>.ret ⟨iE,a.2++[(b,.arr O _l (_f.set i e))]⟩
      |none=>.fail
     else .fail
    |none=>.fail
   else .fail
  |_=>.fail
 |_=>.fail
def tI(agg:Bool)(off size:Nat):AV->Option AV
 | .data cs=>match sub cs off size with|some l=>qJ agg l|none=>Y
 | .agg cs=>match sub cs off size with|some l=>mA agg l|none=>Y
 |_=>Y
def gx(i:Nat):AV->Option AV| .tup vs=>vs[i]?|_=>Y
def QP:Bool->AV->Option AV|true,.p (.s l)=>Z (.p (.i I l.length))|false,.p (.sl _ _f)=>Z (.p (.i I _f.length))|false,._r _ _ n=>Z (.p (.i I n))|_,_=>Y
def gO(_l:Nat):AV->RM (List (List PV))
 | .p (.sl e _f)=>if _l=e then .ret _f else .fail
 | .p (.s l)=>if _l=1 then .ret (l.map oJ)else .fail
 | ._r b i n=>.blk b fun
  | .arr _ e _f=>if _l=e/\i+n=_f.length then .ret (_f.drop i)else .fail
  |_=>.fail
 |_=>.fail
def rI(n bytes:Nat):Bool:=(2*n+512)*bytes<=281474976710656
def kJ(_l bytes:Nat)(x y:AV):RM Eff:=
 match x with
 | ._r b i n=>.blk b fun
  | .arr w e _f=>(gO _l y).bind λ_m=>
   if _l=e/\i=0/\n=_f.length/\rI (n+_m.length) bytes then
    .ret ⟨._r b 0 (n+_m.length),[(b,.arr w _l (_f++_m))]⟩
   else .fail
  |_=>.fail
 |_=>.fail
def vA(_l:Nat):AV->AV->RM Eff
 | ._r b i n,.p (.i _ k)=>.blk b fun
  | .arr _ e _f=>if _l=e/\i+n=_f.length/\0<=k/\k.toNat<n then .ret ⟨._r b (i+k.toNat) (n-k.toNat),[]⟩else .fail
  |_=>.fail
 |_,_=>.fail
def QO(_l:Nat)(zero:List PV)(_m:Nat):AV->AV->RM Eff
 | ._r b i n,.p (.i _ k)=>.blk b fun
  | .arr O e _f=>if _l=e/\i=0/\n=_f.length/\0<=k/\k.toNat<=n then .ret ⟨._r _m 0 k.toNat,[(b,.arr J _l (_f++[zero])),(_m,.arr O _l (_f.take k.toNat))]⟩else .fail
  |_=>.fail
 |_,_=>.fail
def PH(_l:Nat)(zero:List PV)(_m:Nat):AV->RM Eff
 | ._r b i n=>.blk b fun
  | .arr O e _f=>if _l=e/\i=0/\n=_f.length then .ret ⟨._r _m 0 n,[(b,.arr J _l (_f++[zero])),(_m,.arr O _l _f)]⟩else .fail
  |_=>.fail
 |_=>.fail
def PT(_l:Nat)(zero:List PV):AV->RM Eff
 | ._r b i n=>.blk b fun
  | .arr O e _f=>if _l=e/\i+n=_f.length then .ret ⟨.tup [],[(b,.arr O _l (_f.take i++_J n zero))]⟩else .fail
  |_=>.fail
 |_=>.fail
def mmP(mx:Bool)(x y:AV):Option AV:=
 match x,y with
 | .p (.i k a),.p (.i _ c)=>Z (.p (.i k (if mx then(if c>a then c else a)else(if c<a then c else a))))
 |_,_=>Y
inductive _A where
 |whole (b:Nat)
 |elem (b ext i:Nat)
 deriving DecidableEq
def _A.id:_A->Nat| .whole b=>b| .elem b _ _=>b
def yO(e:_A)(l:List _A):List _A:=if l.any (λx=>x==e)then l else l++[e]
def cV:AV->List _A->List _A
 | .ptr b _,l=>yO (.whole b) l
 | ._r b _ _,l=>yO (.whole b) l
 | .ep b e i _,l=>yO (.elem b e i) l
 | .fn _ first caps,l=>entsOfL caps (entsOfL first l)
 | .agg cs,l=>entsOfL cs l
 | .tup cs,l=>entsOfL cs l
 |_,l=>l
where
 entsOfL:List AV->List _A->List _A
  |[],l=>l
  |x::r,l=>entsOfL r (cV x l)
def dV(e:_A):List _A->Nat->Option Nat|[],_=>Y|x::r,k=>if x=e then Z k else dV e r (k+1)
def ren(ρ:_A->Option Nat):AV->Option AV
 | .p c=>Z (.p c)
 | .data cs=>Z (.data cs)
 | .cp cs o=>Z (.cp cs o)
 | .unk=>Z .unk
 | .ptr b off=>(ρ (.whole b)).map λk=>.ptr k off
 | .ep b e i off=>(ρ (.elem b e i)).map λk=>.ptr k off
 | ._r b i n=>(ρ (.whole b)).map λk=>._r k i n
 | .fn f first caps=>(renL ρ first).bind λa=>(renL ρ caps).map λc=>.fn f a c
 | .agg cs=>(renL ρ cs).map .agg
 | .tup cs=>(renL ρ cs).map .tup
 | .pre _ _ _=>Y
where
 renL (ρ:_A->Option Nat):List AV->Option (List AV)
  |[]=>Z []
  |x::r=>match ren ρ x,renL ρ r with
   |some y,Z l=>Z (y::l)
   |_,_=>Y
def kR:List Nat->Bool|[]=>O|x::r=> !(r.contains x)&&kR r
def kN(b:Nat):List (Nat×_x)->Option _x|[]=>Y|(c,x)::r=>match kN b r with|some y=>Z y|none=>if c=b then Z x else Y
def sY(ws:List (Nat×_x))(b:Nat):RM _x:=
 .blk b λx=>match kN b ws with|some y=>.ret y|none=>.ret x
def eR(ws:List (Nat×_x)):List _A->List _A->RM (List _A)
 |[],acc=>.ret acc
 | .whole b::r,acc=>(sY ws b).bind fun
  | .box cs=>eR ws r (cV.entsOfL cs acc)
  |_=>eR ws r acc
 |_::r,acc=>eR ws r acc
def kH:AV->RM (AV×List (Nat×_x))
 | ._r b i n=>(fz (._r b i n)).bind λa=>match a.1 with|[c]=>.ret (.p c,a.2)|_=>.fail
 | .agg cs=>(fz (.agg cs)).bind λa=>.ret (.data a.1,a.2)
 | .tup _=>.fail
 |v=>.ret (v,[])
def lN:List AV->RM (List AV×List (Nat×_x))|[]=>.ret ([],[])|x::r=>(kH x).bind λa=>(lN r).bind λc=>.ret (a.1::c.1,a.2++c.2)
def BU(ws:List (Nat×_x))(ρ:_A->Option Nat):_A->RM _x
 | .whole b=>(sY ws b).bind fun
  | .box cs=>match ren.renL ρ cs with|some l=>.ret (.box l)|none=>.fail
  | .arr w _l _f=>.ret (.arr w _l _f)
  | .dead=>.fail
 | .elem b ext i=>(sY ws b).bind fun
  | .arr O _ _f=>if ext=_f.length then
    match _f[i]? with
    |some row=>.ret (.box (row.map .p))
    |none=>.fail
   else .fail
  |_=>.fail
def lZ(ws:List (Nat×_x))(ρ:_A->Option Nat):List _A->RM (List _x)|[]=>.ret []|e::r=>(BU ws ρ e).bind λx=>(lZ ws ρ r).bind λl=>.ret (x::l)
def bk(es:List _A)(_m:Nat):AV->Option AV
 | .p c=>Z (.p c)
 | .data cs=>Z (.data cs)
 | .cp cs o=>Z (.cp cs o)
 | .unk=>Z .unk
 | .ptr k off=>if k<es.length then
   match es[k]? with
   |some (.whole b)=>Z (.ptr b off)
   |some (.elem b e i)=>Z (.ep b e i off)
   |none=>Y
  else Z (.ptr (_m+(k-es.length)) off)
 | ._r k i n=>if k<es.length then
   match es[k]? with
   |some (.whole b)=>Z (._r b i n)
   |_=>Y
  else Z (._r (_m+(k-es.length)) i n)
 | .ep k e i off=>if k<es.length then
   match es[k]? with
   |some (.whole b)=>Z (.ep b e i off)
   |_=>Y
  else Z (.ep (_m+(k-es.length)) e i off)
 | .fn f first caps=>match bkL es _m first,bkL es _m caps with|some a,Z c=>Z (.fn f a c)|_,_=>Y
 | .agg cs=>match bkL es _m cs with|some l=>Z (.agg l)|none=>Y
 | .tup cs=>match bkL es _m cs with|some l=>Z (.tup l)|none=>Y
 | .pre _ _ _=>Y
where
 bkL (es:List _A) (_m:Nat):List AV->Option (List AV)
  |[]=>Z []
  |x::r=>match bk es _m x,bkL es _m r with
   |some y,Z l=>Z (y::l)
   |_,_=>Y
def vP(ws:List (Nat×_x))(es:List _A)(_m:Nat)(e:_A)(x:_x):RM (Nat×_x):=
 match e,x with
 | .whole b,.box cs=>match bk.bkL es _m cs with|some l=>.ret (b,.box l)|none=>.fail
 | .whole b,.arr w _l _f=>.ret (b,.arr w _l _f)
 | .elem b _ i,.box cs=>(sY ws b).bind fun
  | .arr w _l _f=>match unp cs with|some row=>.ret (b,.arr w _l (_f.set i row))|none=>.fail
  |_=>.fail
 |_,_=>.fail
def jT(ws:List (Nat×_x))(es:List _A)(_m:Nat):List _A->List _x->RM (List (Nat×_x))|[],_=>.ret []|e::r,x::l=>(vP ws es _m e x).bind λy=>(jT ws es _m r l).bind λg=>.ret (y::g)|_::_,[]=>.fail
def iU(es:List _A)(_m:Nat):Nat->List _x->Option (List (Nat×_x))
 |_,[]=>Z []
 |k,.box cs::l=>match bk.bkL es _m cs,iU es _m (k+1) l with|some c,Z e=>Z ((k,.box c)::e)|_,_=>Y
 |k,.arr w _l _f::l=>match iU es _m (k+1) l with|some e=>Z ((k,.arr w _l _f)::e)|none=>Y
 |_,.dead::_=>Y
def jD(F:Orc)(f:FuncId)(args:List AV)(k _m:Nat):RM Eff:=
 (lN args).bind λa=>
 (eR a.2 (cV.entsOfL a.1 []) (cV.entsOfL a.1 [])).bind λh=>
 (eR a.2 h h).bind λes=>
 if kR (es.map _A.id)then
  match ren.renL (λe=>dV e es 0) a.1 with
  |none=>.fail
  |some g=>(lZ a.2 (λe=>dV e es 0) es).bind λ_q=>
   match F f g _q with
   |none=>.fail
   |some r=>if r.2.length=es.length+k then
    match bk es _m r.1,iU es _m _m (r.2.drop es.length)with
    |some v,Z fresh=>(jT a.2 es _m es r.2).bind λj=>.ret ⟨v,a.2++j++fresh⟩
    |_,_=>.fail
    else .fail
 else .fail
def lW:List (Nat×Nat×Opd)->RM (List (Nat×Nat×List AV))|[]=>.ret []|(off,size,x)::r=>(ev x).bind λv=>match cellsOf v with|some cs=>(lW r).bind λl=>.ret ((off,size,cs)::l)|none=>.fail
def iQ:List (Nat×Nat)->Nat->List (Nat×_x)|[],_=>[]|(_,_l)::r,n=>(n,.arr O _l [])::iQ r (n+1)
def nR:List (Nat×Nat)->Nat->List AV->List AV|[],_,cs=>cs|(off,_)::r,n,cs=>nR r (n+1) (cs.set off (._r n 0 0))
def fY:List Bool->List AV->RM (List AV×List (Nat×_x))|_,[]=>.ret ([],[])|[],x::r=>(kH x).bind λa=>(fY [] r).bind λc=>.ret (a.1::c.1,a.2++c.2)|true::m,x::r=>(fY m r).bind λc=>.ret (x::c.1,c.2)|false::m,x::r=>(kH x).bind λa=>(fY m r).bind λc=>.ret (a.1::c.1,a.2++c.2)
def gM(F:Orc)(f:FuncId)(a:List AV×List (Nat×_x))(k _m:Nat):RM Eff:=
 (eR a.2 (cV.entsOfL a.1 []) (cV.entsOfL a.1 [])).bind λh=>
 (eR a.2 h h).bind λes=>
 if kR (es.map _A.id)then
  match ren.renL (λe=>dV e es 0) a.1 with
  |none=>.fail
  |some g=>(lZ a.2 (λe=>dV e es 0) es).bind λ_q=>
   match F f g _q with
   |none=>.fail
   |some r=>if es.length<=r.2.length/\r.2.length<=es.length+k then
    match bk es _m r.1,iU es _m _m (r.2.drop es.length)with
    |some v,Z fresh=>(jT a.2 es _m es r.2).bind λj=>.ret ⟨v,a.2++j++fresh⟩
    |_,_=>.fail
    else .fail
 else .fail
def _z(F:Orc)(op:AOp)(_m:Nat):RM Eff:=
 match op with
 | .mv x=>(ev x).bind λv=>.ret ⟨v,[]⟩
 | .mkarr _l _=>.ret ⟨._r _m 0 0,[(_m,.arr O _l [])]⟩
 | .pick c a b=>(ev c).bind fun
  | .p (.b x)=>if x then(ev a).bind λv=>.ret ⟨v,[]⟩else(ev b).bind λv=>.ret ⟨v,[]⟩
  |_=>.fail
 | .newbox zero=>.ret ⟨.ptr _m 0,[(_m,.box (zero.map .p))]⟩
 | .box size x=>(ev x).bind λv=>match cellsOf v with|some cs=>if cs.length=size then .ret ⟨.ptr _m 0,[(_m,.box cs)]⟩else .fail|none=>.fail
 | .build zero parts=>(lW parts).bind λl=>match rX l (zero.map .p)with|some cs=>val (mA O cs)|none=>.fail
 | .lits own _l n zero parts=>(fzs (parts.map (·.2))).bind λa=>
  match DC _l ((parts.map (·.1)).zip a.1) (_J n zero)with
  |some _f=>if own then .ret ⟨._r _m 0 n,a.2++[(_m,.arr O _l _f)]⟩else .ret ⟨.p (.sl _l _f),a.2⟩
  |none=>.fail
 | .load agg size x=>(ev x).bind λv=>iD agg size v
 | .store size x y=>(ev x).bind λa=>(ev y).bind λv=>jE size a v
 | .nilchk x=>(ev x).bind fun
  | .ptr b o=>.ret ⟨.ptr b o,[]⟩
  | .cp cs o=>.ret ⟨.cp cs o,[]⟩
  | .ep b e i o=>.ret ⟨.ep b e i o,[]⟩
  | .fn f u c=>.ret ⟨.fn f u c,[]⟩
  |_=>.fail
 | .bin op t x y=>(ev x).bind λa=>(ev y).bind λc=>val (pP op t a c)
 | .un op x=>(ev x).bind λa=>val (unP op a)
 | .conv k x=>(ev x).bind λa=>match k,a with
  | .int k,.p (.i _ n)=>.ret ⟨.p (.i k (k.wrap n)),[]⟩
  | .same,.p (.s l)=>.ret ⟨.p (.s l),[]⟩
  | ._D,a=>(gO 1 a).bind λ_f=>match vU _f with|some l=>.ret ⟨.p (.s l),[]⟩|none=>.fail
  | .toBytes own,.p (.s l)=>if own then .ret ⟨._r _m 0 l.length,[(_m,.arr O 1 (l.map oJ))]⟩else .ret ⟨.p (.sl 1 (l.map oJ)),[]⟩
  |_,_=>.fail
 | ._E own _l bytes zero l c=>(ev l).bind λa=>(ev c).bind λd=>match a,d with
  | .p (.i _ n),.p (.i _ m)=>
   if 0<=n/\n<=m/\bytes*m<=281474976710656/\m<=281474976710656 then
    if own then .ret ⟨._r _m 0 n.toNat,[(_m,.arr O _l (_J n.toNat zero))]⟩
    else .ret ⟨.p (.sl _l (_J n.toNat zero)),[]⟩
   else .fail
  |_,_=>.fail
 | .slice k x lo hi mx=>(ev x).bind λa=>(evo lo).bind λlo=>(evo hi).bind λhi=>(evo mx).bind λmx=>
  match a with
  | ._r b i n=>(fz (._r b i n)).bind λy=>match y.1 with
   |[c]=>match lX k (.p c) lo hi mx with|some v=>.ret ⟨v,y.2⟩|none=>.fail
   |_=>.fail
  |a=>val (lX k a lo hi mx)
 | .faddr off x=>(ev x).bind λa=>val (MS off a)
 | .field agg off size x=>(ev x).bind λa=>val (tI agg off size a)
 | .iaddr _l x i=>(ev x).bind λa=>(ev i).bind λc=>mS _l a c
 | .aaddr len _l x i=>(ev x).bind λa=>(ev i).bind λc=>val (MR len _l a c)
 | .sidx x i=>(ev x).bind λa=>(ev i).bind λc=>match a,c with
  | .p (.s l),.p (.i _ n)=>if 0<=n then
    match l[n.toNat]? with
    |some u=>.ret ⟨.p (.i .u8 u.toNat),[]⟩
    |none=>.fail
   else .fail
  |_,_=>.fail
 | .aidx agg len _l x i=>(ev x).bind λa=>(ev i).bind λc=>match c with| .p (.i _ n)=>if 0<=n/\n<len then val (tI agg (n.toNat*_l) _l a)else .fail|_=>.fail
 | .extr x i=>(ev x).bind λa=>val (gx i a)
 | .call f args k=>(evs args).bind λvs=>jD F f vs k _m
 | .callv g args k=>(ev g).bind fun
  | .fn f first caps=>(evs args).bind λvs=>jD F f (first++vs++caps) k _m
  |_=>.fail
 | .len str x=>(ev x).bind λa=>val (QP str a)
 | .appn _l bytes _ y=>(ev y).bind λc=>(gO _l c).bind λ_f=>
  if rI _f.length bytes then .ret ⟨._r _m 0 _f.length,[(_m,.arr O _l _f)]⟩else .fail
 | .app _l bytes _ x y=>(ev x).bind λa=>(ev y).bind λc=>kJ _l bytes a c
 | .psuf _l x lo=>(ev x).bind λa=>(ev lo).bind λc=>vA _l a c
 | .shr _l zero x hi=>(ev x).bind λa=>(ev hi).bind λc=>QO _l zero _m a c
 | .clr _l zero x=>(ev x).bind λa=>PT _l zero a
 | .mvn _l zero x=>(ev x).bind λa=>PH _l zero _m a
 | .mm mx x y=>(ev x).bind λa=>(ev y).bind λc=>val (mmP mx a c)
 | .mkfn f first caps=>(evs first).bind λa=>(evs caps).bind λc=>.ret ⟨.fn f a c,[]⟩
 | .newboxo zero os=>.ret ⟨.ptr (_m+os.length) 0,iQ os _m++[(_m+os.length,.box (nR os _m (zero.map .p)))]⟩
 | .buildo zero parts os=>(lW parts).bind λl=>match rX l (nR os _m (zero.map .p))with
  |some cs=>match mA O cs with|some v=>.ret ⟨v,iQ os _m⟩|none=>.fail
  |none=>.fail
 | .storen _l x=>(ev x).bind λa=>(jE 1 a (._r _m 0 0)).bind λe=>.ret ⟨e.val,(_m,.arr O _l [])::e.ws⟩
 | .callo f keep args k=>(evs args).bind λvs=>(fY keep vs).bind λa=>gM F f a k _m
def oB:AOp->Nat| .newbox _| .box _ _| .mkarr _ _| .appn _ _ _ _| .shr _ _ _ _| .mvn _ _ _=>1| .lits own _ _ _ _=>if own then 1 else 0| ._E own _ _ _ _ _=>if own then 1 else 0| .conv (.toBytes own) _=>if own then 1 else 0| .call _ _ k| .callv _ _ k| .callo _ _ _ k=>k| .newboxo _ os=>os.length+1| .buildo _ _ os=>os.length| .storen _ _=>1|_=>0
def vL(_m:Nat):Nat->RM Unit
 |0=>.ret ()
 |k+1=>.blk _m fun
  | .dead=>vL (_m+1) k
  |_=>.fail
def opD(F:Orc)(op:AOp)(_m:Nat):RM Eff:=(vL _m (oB op)).bind λ_=>_z F op _m
def bZ(F:Orc)(i:bX)(_m:Nat):RM Eff:=
 match i.g with
 |none=>opD F i.op _m
 |some (g,e)=>.slot g fun
  | .p (.b x)=>if x=e then opD F i.op _m else .ret ⟨iE,[]⟩
  | .tup []=>.ret ⟨iE,[]⟩
  |_=>.fail
def put(d:Option Nat)(e:Eff)(s:St):St:=
 match d with
 |some d=>⟨(d,e.val)::s.env,upd e.ws s._o⟩
 |none=>⟨s.env,upd e.ws s._o⟩
def hE(F:Orc):List bX->Nat->St->Option St|[],_,s=>Z s|i::r,_m,s=>match(bZ F i _m).run s with|some e=>hE F r (_m+oB i.op) (put i.dst e s)|none=>Y
def kU:List Loc->List Nat|[]=>[]| .blk b::r=>b::kU r|_::r=>kU r
abbrev Log:=List (List Nat×List Nat)
def kS(F:Orc):List bX->Nat->St->Log->Option (St×Log)|[],_,s,l=>Z (s,l)|i::r,_m,s,l=>match(bZ F i _m).run s with|some e=>kS F r (_m+oB i.op) (put i.dst e s) (l++[(kU ((bZ F i _m).reads s),e.ws.map (·.1))])|none=>Y
def hW(a b:List Nat):Bool:=a.all λx=> !(b.contains x)
def IM(l:Log):List (Nat×Nat)->Bool
 |[]=>O
 |(i,j)::r=>(match l[i]?,l[j]? with
  |some a,Z b=>hW a.2 b.1&&hW a.2 b.2&&hW a.1 b.2
  |_,_=>J)&&IM l r
def news:List bX->Nat|[]=>0|i::r=>oB i.op+news r
def room(n:Nat)(_o:List _x):List _x:=if n=0 then _o else _o++_J n .dead
def region(F:Orc)(pairs:List (Nat×Nat))(ins:List bX)(s:St):Option St:=
 match pairs with
 |[]=>hE F ins s._o.length ⟨s.env,room (news ins) s._o⟩
 |_::_=>match kS F ins s._o.length ⟨s.env,room (news ins) s._o⟩ []with|some (s',l)=>if IM l pairs then Z s' else Y|none=>Y
def restr:List Nat->List (Nat×AV)->List (Nat×AV)|[],_=>[]|k::r,env=>match lk k env with|some v=>(k,v)::restr r env|none=>restr r env
def fD(b:Nat):List Nat->Nat->Option Nat|[],_=>Y|x::r,k=>if x=b then Z k else fD b r (k+1)
def fin(m:Nat)(_p:List Nat)(_o:List _x):AV->Option AV
 | .p c=>Z (.p c)
 | .data cs=>Z (.data cs)
 | .cp cs o=>Z (.cp cs o)
 | .unk=>Z .unk
 | .ptr b off=>if b<m then Z (.ptr b off)else
  match fD b _p m with
  |some k=>Z (.ptr k off)
  |none=>match _o[b]? with|some (.box cs)=>(unp cs).map λq=>.cp q off|_=>Y
 | ._r b i n=>if b<m then Z (._r b i n)else
  match fD b _p m with
  |some k=>Z (._r k i n)
  |none=>match _o[b]? with|some (.arr _ _l _f)=>if i+n=_f.length then Z (.p (.sl _l (_f.drop i)))else Y|_=>Y
 | .ep b e i off=>if b<m then Z (.ep b e i off)else(fD b _p m).map λk=>.ep k e i off
 | .fn f first caps=>match finL m _p _o first,finL m _p _o caps with|some a,Z c=>Z (.fn f a c)|_,_=>Y
 | .agg cs=>match finL m _p _o cs with
  |some l=>match unp l with|some q=>Z (.data q)|none=>Z (.agg l)
  |none=>Y
 | .tup cs=>match finL m _p _o cs with|some l=>Z (.tup l)|none=>Y
 | .pre _ _ _=>Y
where
 finL (m:Nat) (_p:List Nat) (_o:List _x):List AV->Option (List AV)
  |[]=>Z []
  |x::r=>match fin m _p _o x,finL m _p _o r with
   |some y,Z l=>Z (y::l)
   |_,_=>Y
def gY(m:Nat)(_p:List Nat)(_o:List _x):_x->Option _x
 | .dead=>Z .dead
 | .box cs=>match fin.finL m _p _o cs with|some l=>Z (.box l)|none=>Y
 | .arr w _l _f=>Z (.arr w _l _f)
def tB(m:Nat)(_p:List Nat)(_o:List _x):List _x->Option (List _x)|[]=>Z []|x::r=>match gY m _p _o x,tB m _p _o r with|some y,Z l=>Z (y::l)|_,_=>Y
def xM(m:Nat)(_o:List _x):List (Nat×AV)->Option (List (Nat×AV))|[]=>Z []|(k,x)::r=>match fin m [] _o x,xM m _o r with|some y,Z l=>Z ((k,y)::l)|_,_=>Y
def clean(n:Nat)(live:List Nat)(s:St):Option St:=
 if s._o.length=n then Z ⟨restr live s.env,s._o⟩
 else match xM n s._o (restr live s.env),tB n [] s._o (s._o.take n)with|some e,Z l=>Z ⟨e,l⟩|_,_=>Y
def pO:List xN->RM (List AV)|[]=>.ret []| .tmp t::r=>(RM.slot t .ret).bind λv=>(pO r).bind λl=>.ret (v::l)| .cell t agg size::r=>(RM.slot t .ret).bind λv=>(iD agg size v).bind λe=>(pO r).bind λl=>.ret (e.val::l)
def kW(m:Nat)(fresh:Bool)(_o:List _x):List _A->List Nat
 |[]=>[]
 | .whole b::r=>if b<m then kW m fresh _o r else
  match _o[b]? with
  |some (.box _)=>b::kW m fresh _o r
  |some (.arr _ _ _)=>if fresh then b::kW m fresh _o r else kW m fresh _o r
  |_=>kW m fresh _o r
 |_::r=>kW m fresh _o r
def tC(_o:List _x):List _A->List _A->List _A
 |[],acc=>acc
 | .whole b::r,acc=>match _o[b]? with|some (.box cs)=>tC _o r (cV.entsOfL cs acc)|_=>tC _o r acc
 |_::r,acc=>tC _o r acc
def yH(_o:List _x):List Nat->Option (List _x)|[]=>Z []|b::r=>match _o[b]?,yH _o r with|some x,Z l=>Z (x::l)|_,_=>Y
def one:List AV->AV|[x]=>x|l=>.tup l
def iR(fn:AFn)(m:Nat)(s:St):Option Res:=
 match(pO fn.res).run s with
 |none=>Y
 |some vs=>
  if s._o.length=m then Z (one vs,s._o)
  else
   match kW m fn.fresh s._o (tC s._o (cV.entsOfL vs []) (cV.entsOfL vs []))with
   |_p=>if kR _p then
    match fin.finL m _p s._o vs,tB m _p s._o (s._o.take m),yH s._o _p with
    |some ws,Z l,Z q=>match tB m _p s._o q with|some q'=>Z (one ws,l++q')|none=>Y
    |_,_,_=>Y
    else Y
def kL:Nat->List AV->List (Nat×AV)|_,[]=>[]|k,x::r=>(k,x)::kL (k+1) r
structure lJ where
 np:Nat
 nt:Nat
 p0:cD
 live:List Nat
 pre:cD
 c:Opd
 a:cD
 b:cD
 rest:cD
 res:List xN
 fresh:Bool
def lJ.af(k:lJ):AFn:=⟨k.np,k.nt,.seq k.p0 (.br k.live k.pre k.c k.a k.b k.rest),k.res,k.fresh⟩
def uP(f:AFn)(m:Nat)(o:Option Out):Option Res:=
 match o with
 |some (.normal,s)=>iR f m s
 |some (.ret,s)=>iR f m s
 |_=>Y
open Classical in
noncomputable def MF(a b:Option Res):Option Res:=
 match a,b with
 |some r,Z r'=>if r=r' then Z r else Y
 |_,_=>Y
def thn(o:Option Out)(k:St->Option Out):Option Out:=
 match o with
 |some (.normal,s)=>k s
 |o=>o
noncomputable def vE(R:cD->St->Option Out)(k:lJ)(args:List AV)(_q:List _x):Option Res:=
 match R k.p0 ⟨kL 0 args,_q⟩with
 |some (.normal,s0)=>match R k.pre s0 with
  |some (.normal,s1)=>match(ev k.c).run s1 with|some (.p (.b x))=>if x=O then uP k.af _q.length (thn (R k.a s1) λs=>R k.rest s)else uP k.af _q.length (thn (R k.b s1) λs=>R k.rest s)|some .unk=>MF (uP k.af _q.length (thn (R k.a s1) λs=>R k.rest s)) (uP k.af _q.length (thn (R k.b s1) λs=>R k.rest s))|_=>Y
  |_=>Y
 |_=>Y
inductive Entry where|fn (f:AFn)|prim (g:List AV->List _x->Option Res)|fork (k:lJ)
abbrev dU:=FuncId->Option Entry
noncomputable def rP(T:dU)(R:cD->St->Option Out)(f:FuncId)(args:List AV)(_q:List _x):Option Res:=
 match T f with
 |none=>Y
 |some (.prim g)=>g args _q
 |some (.fork k)=>if args.length=k.np then vE R k args _q else Y
 |some (.fn fn)=>
  if args.length=fn.np then
   match R fn.body ⟨kL 0 args,_q⟩with
   |some (.normal,s)=>iR fn _q.length s
   |some (.ret,s)=>iR fn _q.length s
   |_=>Y
  else Y
open Classical in
noncomputable def same(a b:Option Out):Option Out:=
 match a,b with
 |some r,Z r'=>if r=r' then Z r else Y
 |_,_=>Y
def oE(n:Nat)(live:List Nat)(o:Option Out):Option Out:=
 match o with
 |some (e,s)=>match clean n live s with|some s'=>Z (e,s')|none=>Y
 |none=>Y
noncomputable def step(T:dU)(R:cD->St->Option Out)(c:cD)(s:St):Option Out:=
 match c with
 | .skip=>Z (.normal,s)
 | .bad=>Y
 | .reg _ pairs ins=>match region (rP T R) pairs ins s with|some s'=>Z (.normal,s')|none=>Y
 | .seq a b=>match R a s with|some (.normal,s')=>R b s'|o=>o
 | .cond c a b=>match(ev c).run s with|some (.p (.b x))=>if x=O then R a s else R b s|some .unk=>same (R a s) (R b s)|_=>Y
 | .block id c=>match R c s with|some (.exit k,s')=>if k=id then Z (.normal,s')else Z (.exit k,s')|o=>o
 | .loop live c=>match clean s._o.length live s with|some s'=>R (.lp s._o.length live c) s'|none=>Y
 | .lp n live c=>match R c s with
  |some (.normal,s')=>(match clean n live s' with
   |some e=>R (.lp n live c) e
   |none=>Y)
  |o=>o
 | .scope c=>R c s
 | .exit id=>Z (.exit id,s)
 | .ret=>Z (.ret,s)
 | .keep live c=>R c ⟨restr live s.env,s._o⟩
 | .tidy live c=>oE s._o.length live (R c s)
 | .br live pre c a b rest=>match R pre s with
  |some (.normal,s1)=>(match(ev c).run s1 with
   |some (.p (.b x))=>if x=O then thn (R a s1) λs=>R rest s else thn (R b s1) λs=>R rest s
   |some .unk=>same (oE s1._o.length live (thn (R a s1) λs=>R rest s)) (oE s1._o.length live (thn (R b s1) λs=>R rest s))
   |_=>Y)
  |_=>Y
end Go.Am
end
section
namespace Go.Am
def fW{α:Type}(a b:Option α):Prop:=a=Y\/a=b
theorem dA{α:Type}(a:Option α):fW a a:=.inr rfl
theorem run_bind{α β:Type}(m:RM α)(f:α->RM β)(s:St):(m.bind f).run s=(m.run s).bind λa=>(f a).run s:=by
 induction m with
 |ret a=>rfl
 |slot n k ih=>grind [RM.bind,RM.run]
 |blk b k ih=>grind [RM.bind,RM.run]
 |fail=>rfl
theorem oO{α β:Type}{m:RM α}{f e:α->RM β}{s:St}(h: ∀a,fW ((f a).run s) ((e a).run s)):fW ((m.bind f).run s) ((m.bind e).run s):=by
 rw[run_bind,run_bind];cases m.run s with
 |none=>exact .inl rfl
 |some a=>exact h a
variable {F F':Orc} (h: ∀f a b,fW (F f a b) (F' f a b))
include h in
theorem Bu(f:FuncId)(args:List AV)(k _m:Nat)(s:St):fW ((jD F f args k _m).run s) ((jD F' f args k _m).run s):=by
 unfold jD;refine oO λa=>oO λg=>oO λes=>?_;split;split;simp[dA];refine oO λ_q=>?_;rcases h f ‹_› _q with e|e;rw[e];exact .inl rfl;grind [dA];simp[dA]
include h in
theorem JDT(f:FuncId)(a:List AV×List (Nat×_x))(k _m:Nat)(s:St):fW ((gM F f a k _m).run s) ((gM F' f a k _m).run s):=by
 unfold gM;refine oO λg=>oO λes=>?_;split;split;simp[dA];refine oO λ_q=>?_;rcases h f ‹_› _q with e|e;rw[e];exact .inl rfl;grind [dA];simp[dA]
include h in
theorem JLw(op:AOp)(_m:Nat)(s:St):fW ((_z F op _m).run s) ((_z F' op _m).run s):=by
 cases op<;>try exact dA _
 case call f args k=>exact oO λvs=>Bu h ..
 case callo f keep args k=>exact oO λvs=>oO λa=>JDT h ..
 case callv g args k=>
  refine oO λg=>?_;grind [dA,oO,Bu]
include h in
theorem JLz(op:AOp)(_m:Nat)(s:St):fW ((opD F op _m).run s) ((opD F' op _m).run s):=
 oO λ_=>JLw h ..
include h in
theorem A9(i:bX)(_m:Nat)(s:St):fW ((bZ F i _m).run s) ((bZ F' i _m).run s):=by
 unfold bZ;split
 all_goals grind [JLz,RM.run,dA]
theorem zE{α β:Type}(m:RM α)(f:α->RM β)(s:St):(m.bind f).reads s=m.reads s++((m.run s).map λa=>(f a).reads s).getD []:=by
 induction m with
 |ret a=>simp[RM.bind,RM.reads,RM.run]
 |slot n k ih=>grind [RM.bind,RM.reads,RM.run]
 |blk b k ih=>grind [RM.bind,RM.reads,RM.run]
 |fail=>simp[RM.bind,RM.reads,RM.run]
theorem oT{α β:Type}{m:RM α}{f e:α->RM β}{s:St}(h: ∀a,(f a).run s=Y\/(f a).reads s=(e a).reads s):
  ((m.bind f).run s)=Y\/(m.bind f).reads s=(m.bind e).reads s:=by
 rw[run_bind,zE,zE];cases m.run s<;>simp_all
include h in
theorem B2(f:FuncId)(args:List AV)(k _m:Nat)(s:St):
  (jD F f args k _m).run s=Y\/(jD F f args k _m).reads s=(jD F' f args k _m).reads s:=by
 unfold jD;refine oT λa=>oT λg=>oT λes=>?_;split;split;exact .inr rfl;refine oT λ_q=>?_;rcases h f ‹_› _q with e|e;rw[e];exact .inl rfl;simp_all;simp_all
include h in
theorem JEf(f:FuncId)(a:List AV×List (Nat×_x))(k _m:Nat)(s:St):
  (gM F f a k _m).run s=Y\/(gM F f a k _m).reads s=(gM F' f a k _m).reads s:=by
 unfold gM;refine oT λg=>oT λes=>?_;split;split;exact .inr rfl;refine oT λ_q=>?_;rcases h f ‹_› _q with e|e;rw[e];exact .inl rfl;simp_all;simp_all
include h in
theorem JMK(op:AOp)(_m:Nat)(s:St):(_z F op _m).run s=Y\/(_z F op _m).reads s=(_z F' op _m).reads s:=by
 cases op<;>try exact .inr rfl
 case call f args k=>exact oT λvs=>B2 h ..
 case callo f keep args k=>exact oT λvs=>oT λa=>JEf h ..
 case callv g args k=>
  refine oT λg=>?_;grind [oT,B2]
include h in
theorem JM9(op:AOp)(_m:Nat)(s:St):(opD F op _m).run s=Y\/(opD F op _m).reads s=(opD F' op _m).reads s:=
 oT λ_=>JMK h ..
include h in
theorem JKw(i:bX)(_m:Nat)(s:St):(bZ F i _m).run s=Y\/(bZ F i _m).reads s=(bZ F' i _m).reads s:=by
 unfold bZ;split
 all_goals grind [JM9,RM.run,RM.reads]
include h in
theorem JET(ins:List bX): ∀_m s,fW (hE F ins _m s) (hE F' ins _m s):=by
 induction ins with
 |nil=>exact λ_ _=>dA _
 |cons i r ih=>
  intro _m s;simp only[hE];rcases A9 h i _m s with e|e;rw[e];exact .inl rfl;grind [dA]
include h in
theorem JES(ins:List bX): ∀_m s l,fW (kS F ins _m s l) (kS F' ins _m s l):=by
 induction ins with
 |nil=>exact λ_ _ _=>dA _
 |cons i r ih=>
  intro _m s l;simp only[kS];rcases A9 h i _m s with e|e;rw[e];exact .inl rfl;grind [JKw,dA]
include h in
theorem JC7(pairs:List (Nat×Nat))(ins:List bX)(s:St):fW (region F pairs ins s) (region F' pairs ins s):=by
 unfold region;split;grind [JET];rcases JES h ins s._o.length ⟨s.env,Go.Am.room (news ins) s._o⟩ []with e|e;rw[e];exact .inl rfl;grind [dA]
variable {T:dU} {R R':cD->St->Option Out} (hR: ∀c s,fW (R c s) (R' c s))
include hR in
theorem JHA(k:lJ)(args:List AV)(_q:List _x):fW (vE R k args _q) (vE R' k args _q):=by
 have ht: ∀x s,fW (uP k.af _q.length (thn (R x s) λs=>R k.rest s)) (uP k.af _q.length (thn (R' x s) λs=>R' k.rest s)):=by
  intro x s;rcases hR x s with e|e;rw[e];exact .inl rfl;rw[e];cases hx:R' x s with
  |none=>exact .inl rfl
  |some o=>
   obtain⟨q,s'⟩:=o;cases q with
   |normal=>
    simp only[thn];rcases hR k.rest s' with e'|e';rw[e'];exact .inl rfl;grind [dA]
   |_=>exact dA _
 unfold vE;rcases hR k.p0 ⟨kL 0 args,_q⟩with e|e;rw[e];exact .inl rfl;rw[e];split;rename_i s0 _;rcases hR k.pre s0 with e|e;rw[e];exact .inl rfl;rw[e];split;split;grind;rename_i s1 _ _ _;rcases ht k.a s1 with e|e;rw[e];exact .inl rfl;rcases ht k.b s1 with e'|e';rw[e'];unfold MF;exact .inl (by simp_all);grind [dA];simp[dA];simp[dA];simp[dA]
include hR in
theorem JGN(f:FuncId)(a:List AV)(b:List _x):fW (rP T R f a b) (rP T R' f a b):=by
 unfold rP;split;simp[dA];simp[dA];grind [JHA,dA];split;rcases hR ‹AFn›.body ⟨kL 0 a,b⟩with e|e;rw[e];exact .inl rfl;grind [dA];simp[dA]
include hR in
theorem n9(c:cD)(s:St):fW (step T R c s) (step T R' c s):=by
 cases c with
 |bad=>exact .inl rfl
 |skip=>exact dA _
 |reg d pairs ins=>
  simp only[step];rcases JC7 (JGN (T:=T) hR) pairs ins s with e|e;rw[e];exact .inl rfl;grind [dA]
 |seq a b=>
  simp only[step];rcases hR a s with e|e;rw[e];exact .inl rfl;grind
 |cond c a b=>
  simp only[step];split;grind;rcases hR a s with e|e;rw[e];exact .inl rfl;rcases hR b s with e'|e';rw[e'];unfold same;exact .inl (by simp_all);grind [dA];simp[dA]
 |block id c=>
  simp only[step];rcases hR c s with e|e;rw[e];exact .inl rfl;grind [dA]
 |loop live c=>
  grind [step,dA]
 |lp n live c=>
  simp only[step];rcases hR c s with e|e;rw[e];exact .inl rfl;grind [dA]
 |scope c=>exact hR _ _
 |exit id=>exact dA _
 |ret=>exact dA _
 |keep live c=>exact hR _ _
 |tidy live c=>
  simp only[step];rcases hR c s with e|e;rw[e];exact .inl rfl;grind [dA]
 |br live pre c a b rest=>
  have ht: ∀x s,fW (thn (R x s) λs=>R rest s) (thn (R' x s) λs=>R' rest s):=(by intro x s;rcases hR x s with e|e;rw[e];exact .inl rfl;rw[e];unfold thn;grind);simp only[step];rcases hR pre s with e|e;rw[e];exact .inl rfl;rw[e];split;split;grind;rename_i s1 _ _ _;rcases ht a s1 with e|e;rw[e];exact .inl rfl;rcases ht b s1 with e'|e';rw[e'];unfold same;exact .inl (by simp[oE]);grind [dA];simp[dA];simp[dA]
def Lb(T:dU)(M:cD->St->Out->Prop):Prop:= ∀R:cD->St->Option Out,(∀c s r,R c s=Z r->M c s r)-> ∀c s r,step T R c s=Z r->M c s r
def Den(T:dU)(c:cD)(s:St)(r:Out):Prop:= ∀M,Lb T M->M c s r
theorem lc(T:dU):Lb T (Den T):=λR hR c s r h M e=>e R (λc s r h=>hR c s r h M e) c s r h
theorem Pg{T:dU}{c:cD}{s:St}{r:Out}(h:Den T c s r): ∃R:cD->St->Option Out,(∀c s r,R c s=Z r->Den T c s r)/\step T R c s=Z r:=
 h (λc s r=> ∃R:cD->St->Option Out,(∀c s r,R c s=Z r->Den T c s r)/\step T R c s=Z r) λR hR c s r hs=>
  ⟨R,λc s r h=>let⟨R',h1,h2⟩:=hR c s r h;lc T R' h1 c s r h2,hs⟩
theorem JQN{T:dU}{c:cD}{s:St}{r:Out}(h:Den T c s r): ∀r',Den T c s r'->r'=r:=by
 have j:Den T c s r/\ ∀r',Den T c s r'->r'=r:=h (λc s r=>Den T c s r/\ ∀r',Den T c s r'->r'=r) λR hR c s r hs=>by
  refine⟨lc T R (λc s r h=>(hR c s r h).1) c s r hs,λr' k=>?_⟩;obtain⟨R',n,hs'⟩:=Pg k;have b1: ∀c s,fW (R c s) ((R c s).or (R' c s)):=λc s=>by cases hc:R c s<;>simp[fW]
  have b2: ∀c s,fW (R' c s) ((R c s).or (R' c s)):=λc s=>by
   cases hc:R c s with
   |none=>simp[fW]
   |some a=>cases hc':R' c s<;>grind [fW]
  have e:=n9 (T:=T) b1 c s;have g:=n9 (T:=T) b2 c s;rw[hs]at e;rw[hs']at g;rcases e with e|e;cases e
  ·rcases g with g|g
   all_goals grind
 exact j.2
open Classical in
noncomputable def X(T:dU)(c:cD)(s:St):Option Out:=if h: ∃r,Den T c s r then Z h.choose else Y
theorem NA{T:dU}{c:cD}{s:St}{r:Out}:X T c s=Z r↔Den T c s r:=by
 unfold X;constructor
 ·intro h;split at h
  all_goals grind
 intro h;rw[dif_pos ⟨r,h⟩];grind [JQN]
theorem JW7(T:dU)(motive:cD->St->Out->Prop)
  (h: ∀R:cD->St->Option Out,(∀c s r,R c s=Z r->motive c s r)-> ∀c s r,step T R c s=Z r->motive c s r): ∀c s r,X T c s=Z r->motive c s r:=
 λc s r e=>NA.1 e motive h
theorem nS(T:dU)(c:cD)(s:St):X T c s=step T (X T) c s:=by
 have one: ∀r,step T (X T) c s=Z r->X T c s=Z r:=λr h=>NA.2 (lc T (X T) (λc s r h=>NA.1 h) c s r h);cases hs:step T (X T) c s with
 |some r=>exact one r hs
 |none=>
  cases hx:X T c s with
  |none=>rfl
  |some r=>
   obtain⟨R,hR,h⟩:=Pg (NA.1 hx);have:=n9 (T:=T) (R:=R) (R':=X T) (λc s=>by
    cases hc:R c s with
    |none=>exact .inl rfl
    |some a=>right;grind [NA]) c s
   rw[h,hs]at this;rcases this with e|e<;>cases e
noncomputable def AF(T:dU):Orc:=rP T (X T)
end Go.Am
end
section
namespace Go.Am
structure Gh where
 μ:Nat->Option (Nat×Nat)
 C:Nat->Nat->Prop
def cellAt(w:World)(r o:Nat):Option Value:=
 match w.heap[r]? with
 |some (.cells c _ _)=>c[o]?
 |_=>Y
theorem tN(w:World)(r o:Nat):w.cell? ⟨r,o,Y⟩=cellAt w r o:=by
 grind [World.cell?,cellAt]
theorem kX{w:World}{r o:Nat}{c e fz}(h:w.heap[r]?=Z (.cells c e fz)):cellAt w r o=c[o]?:=by
 grind [cellAt]
inductive J08(w:World)(C:Nat->Nat->Prop):PV->Value->Prop where
 |b (x:Bool):J08 w C (.b x) (.bool x)
 |i (k:IntKind) (n:Int):J08 w C (.i k n) (.int k n)
 |s (l:List UInt8):J08 w C (.s l) (.string ⟨l.toArray⟩)
 |np:J08 w C .np (.pointer Y)
 |nf:J08 w C .nf .nilFunc
 |sl0 (_l:Nat) (a:Option Addr) (cap:Nat):J08 w C (.sl _l []) (.slice a 0 cap)
 |sl (_l:Nat) (_f:List (List PV)) (r o cap:Nat) (vals:Nat->Nat->Value):
  _f.length<=cap->(∀row∈_f,row.length=_l)->
  (∀(i j:Nat) row x,_f[i]?=Z row->row[j]?=Z x->C r (o+i*_l+j)/\cellAt w r (o+i*_l+j)=Z (vals i j))->
  (∀(i j:Nat) row x,_f[i]?=Z row->row[j]?=Z x->J08 w C x (vals i j))->
  J08 w C (.sl _l _f) (.slice (Z ⟨r,o,Y⟩) _f.length cap)
 |slc (_l:Nat) (_f:List (List PV)) (a:Option Addr):J08 w C (.sl _l _f) (.slice a _f.length _f.length)->J08 w C (.slc _l _f) (.slice a _f.length _f.length)
structure Sn where
 σ:List _x
 g:Gh
 w:World
def gq(σ:List _x)(b:Nat):Prop:= ∃cs,σ[b]?=Z (.box cs)
def Ls(s:Sn)(b _l i n:Nat)(v:Value):Prop:=(s.g.μ b=Y/\i=0/\n=0/\v=.slice Y 0 0)\/ ∃r cap c e fz,s.g.μ b=Z (r,0)/\v=.slice (Z ⟨r,i*_l,Y⟩) n cap/\n<=cap/\s.w.heap[r]?=Z (.cells c e fz)/\(i+cap)*_l<=c.size
inductive JH(s:Sn):AV->Value->Prop where
 |p (c v):J08 s.w s.g.C c v->JH s (.p c) v
 |data (cs:List PV) (vs:Array Value):cs.length=vs.size->(∀(i:Nat) x v,cs[i]?=Z x->vs[i]?=Z v->J08 s.w s.g.C x v)->JH s (.data cs) (.agg vs)
 |agg (cs:List AV) (vs:Array Value):cs.length=vs.size->(∀(i:Nat) v,vs[i]?=Z v->v.oneCell'=O)->(∀(i:Nat) x v,cs[i]?=Z x->vs[i]?=Z v->JH s x v)->JH s (.agg cs) (.agg vs)
 |tup (cs:List AV) (vs:Array Value):cs.length=vs.size->(∀(i:Nat) x v,cs[i]?=Z x->vs[i]?=Z v->JH s x v)->JH s (.tup cs) (.tuple vs)
 |ptr (b off r o):s.g.μ b=Z (r,o)->gq s.σ b->JH s (.ptr b off) (.pointer (Z ⟨r,o+off,Y⟩))
 |cp (cs:List PV) (off r o:Nat) (vals:Nat->Value):
  (∀(j:Nat) x,cs[j]?=Z x->s.g.C r (o+j)/\cellAt s.w r (o+j)=Z (vals j))->
  (∀(j:Nat) x,cs[j]?=Z x->J08 s.w s.g.C x (vals j))->JH s (.cp cs off) (.pointer (Z ⟨r,o+off,Y⟩))
 |_r (b i n v wm _l _f):(∃a cap,v=.slice a n cap/\(n=0\/a≠Y))->s.σ[b]?=Z (.arr wm _l _f)->i+n<=_f.length->(i+n=_f.length->Ls s b _l i n v)->JH s (._r b i n) v
 |ep (b ext i off v wm _l _f):(∃r o,v=.pointer (Z ⟨r,o,Y⟩))->s.σ[b]?=Z (.arr wm _l _f)->ext<=_f.length->
  (ext=_f.length->i<ext-> ∃r,s.g.μ b=Z (r,0)/\v=.pointer (Z ⟨r,i*_l+off,Y⟩))->JH s (.ep b ext i off) v
 |pre (b n k v wm _l _f):(∃a cap,v=.slice a k cap)->s.σ[b]?=Z (.arr wm _l _f)->n<=_f.length->k<=n->
  (n=_f.length->(n=0/\v=.slice Y 0 0)\/ ∃r cap c e fz,s.g.μ b=Z (r,0)/\v=.slice (Z ⟨r,0,Y⟩) k cap/\n<=cap/\s.w.heap[r]?=Z (.cells c e fz)/\cap*_l<=c.size)->JH s (.pre b n k) v
 |fn (f:FuncId) (first caps:List AV) (fs cs:Array Value):first.length=fs.size->caps.length=cs.size->
  (∀(i:Nat) x v,first[i]?=Z x->fs[i]?=Z v->JH s x v)->(∀(i:Nat) x v,caps[i]?=Z x->cs[i]?=Z v->JH s x v)->
  JH s (.fn f first caps) (.func (.func f) fs cs)
 |unk (x:Bool):JH s .unk (.bool x)
def Wr1(s:Sn)(b r o:Nat):Prop:=
 match s.σ[b]? with
 |some (.box cs)=> ∃e,s.g.μ b=Z (r,e)/\e<=o/\o<e+cs.length
 |some (.arr O _ _)=> ∃e,s.g.μ b=Z (r,e)
 |some (.arr J _l _f)=> ∃e,s.g.μ b=Z (r,e)/\_f.length*_l<=o
 |_=>False
def Wr(s:Sn)(r o:Nat):Prop:= ∃b,Wr1 s b r o
def GJ(fz:Nat×Nat)(a b:Nat):Prop:= ∀o,a<=o->o<b-> ¬(fz.1<=o/\o<fz.2)
def yD(_l:Nat)(fz:Nat×Nat)(n:Nat):Prop:=GJ fz 0 n/\(_l≠1-> ¬(fz.1<=n/\n<fz.2))
theorem yD.zero(_l n:Nat):yD _l (0,0) n:=⟨λ_ _ _ h=>by simp at h,λ_ h=>by simp at h⟩
def ga(s:Sn)(b:Nat)(cs:List AV):Prop:= ∃r o c e fz,s.g.μ b=Z (r,o)/\s.w.heap[r]?=Z (.cells c e fz)/\o+cs.length<=c.size/\(∀(i:Nat) x,cs[i]?=Z x-> ∃v,c[o+i]?=Z v/\JH s x v/\v.oneCell'=O)/\GJ fz o (o+cs.length)
def fi(s:Sn)(b:Nat)(wm:Bool)(_l:Nat)(_f:List (List PV)):Prop:=(s.g.μ b=Y/\(_f=[]\/wm=J))\/ ∃r c e fz,s.g.μ b=Z (r,0)/\s.w.heap[r]?=Z (.cells c e fz)/\(∀row∈_f,row.length=_l)/\_f.length*_l<=c.size/\(∀(i j:Nat) row x,_f[i]?=Z row->row[j]?=Z x->(∃v,c[i*_l+j]?=Z v/\J08 s.w s.g.C x v)/\(wm=J->s.g.C r (i*_l+j)))/\yD _l fz c.size
structure Inv(s:Sn):Prop where
 box: ∀b cs,s.σ[b]?=Z (.box cs)->ga s b cs
 arr: ∀b wm _l _f,s.σ[b]?=Z (.arr wm _l _f)->fi s b wm _l _f
 apart: ∀b1 b2 r o,Wr1 s b1 r o->Wr1 s b2 r o->b1=b2
 const: ∀r o,s.g.C r o->r<s.w.heap.size/\ ∀b,¬Wr1 s b r o
def nW(W:Nat->Nat->Prop)(w0 w:World):Prop:=w0.heap.size<=w.heap.size/\(∀(r:Nat) c e fz,w0.heap[r]?=Z (.cells c e fz)-> ∃c',w.heap[r]?=Z (.cells c' e fz)/\c'.size=c.size/\ ∀o,¬W r o->c'[o]?=c[o]?)/\(∀(r:Nat) x,w0.heap[r]?=Z x->(∀c e fz,x≠.cells c e fz)->w.heap[r]?=Z x)/\w.os=w0.os/\w.output=w0.output
structure bE(s0 s:Sn):Prop where
 keep:nW (Wr s0) s0.w s.w
 cmono: ∀r o,s0.g.C r o->s.g.C r o
 cnew: ∀r o,s.g.C r o->s0.g.C r o\/Wr s0 r o\/s0.w.heap.size<=r
 wnew: ∀r o,Wr s r o->Wr s0 r o\/s0.w.heap.size<=r
 len:s0.σ.length<=s.σ.length
 box: ∀b cs,s0.σ[b]?=Z (.box cs)->(∃cs',s.σ[b]?=Z (.box cs')/\cs'.length=cs.length)/\s.g.μ b=s0.g.μ b
 arr: ∀b wm _l _f,s0.σ[b]?=Z (.arr wm _l _f)-> ∃wm' rows',s.σ[b]?=Z (.arr wm' _l rows')/\(wm'=O->wm=O)/\
  _f.length<=rows'.length/\(rows'.length=_f.length->s.g.μ b=s0.g.μ b)
theorem nW.refl(W w):nW W w w:=⟨zQ0 _,λ_ c _ _ h=>⟨c,h,rfl,λ_ _=>rfl⟩,λ_ _ h _=>h,rfl,rfl⟩
theorem nW.mono{W W':Nat->Nat->Prop}{w0 w}(h:nW W w0 w)(hw: ∀r o,W r o->W' r o):nW W' w0 w:=
 ⟨h.1,λr c e fz j=>let⟨c',a,b,d⟩:=h.2.1 r c e fz j;⟨c',a,b,λo g=>d o λx=>g (hw _ _ x)⟩,h.2.2⟩
theorem nW.cell{W w0 w}(h:nW W w0 w){r o v}(hn: ¬W r o)(hv:cellAt w0 r o=Z v):cellAt w r o=Z v:=by
 unfold cellAt at hv;split at hv;rename_i c e fz g;obtain⟨c',h1,_,j⟩:=h.2.1 r c e fz g;grind [kX];cases hv
theorem bE.refl(s:Sn):bE s s:=
 ⟨.refl _ _,λ_ _ h=>h,λ_ _ h=>.inl h,λ_ _ h=>.inl h,zQ0 _,λ_ cs h=>⟨⟨cs,h,rfl⟩,rfl⟩,
  λ_ wm _ _f h=>⟨wm,_f,h,id,zQ0 _,λ_=>rfl⟩⟩
theorem zG{w:World}{r:Nat}{x:Obj}(h:w.heap[r]?=Z x):r<w.heap.size:=by
 grind
theorem bE.trans{s0 s1 C:Sn}(h:bE s0 s1)(g:bE s1 C):bE s0 C where
 keep:=by
  refine⟨zQ1 h.keep.1 g.keep.1,λr c e fz A=>?_,λr x A E=>g.keep.2.2.1 r x (h.keep.2.2.1 r x A E) E,g.keep.2.2.2.1.trans h.keep.2.2.2.1,g.keep.2.2.2.2.trans h.keep.2.2.2.2⟩;obtain⟨k,n,b1,z⟩:=h.keep.2.1 r c e fz A;obtain⟨q,w,b2,y⟩:=g.keep.2.1 r k e fz n;refine⟨q,w,b2.trans b1,λo H=>(y o λj=>?_).trans (z o H)⟩;rcases h.wnew r o j with j|j
  all_goals simp_all
 cmono r o hc:=g.cmono r o (h.cmono r o hc)
 cnew r o hc:=by
  rcases g.cnew r o hc with hc|j|v;exact h.cnew r o hc
  ·rcases h.wnew r o j with j|v
   all_goals simp_all
  exact .inr (.inr (zQ1 h.keep.1 v))
 wnew r o j:=by
  rcases g.wnew r o j with j|v;exact h.wnew r o j;exact .inr (zQ1 h.keep.1 v)
 len:=zQ1 h.len g.len
 box b cs hb:=by obtain⟨⟨k,n,_e⟩,L⟩:=h.box b cs hb;obtain⟨⟨q,w,_d⟩,K⟩:=g.box b k n;simp_all
 arr b wm _l _f hb:=by obtain⟨B,F,n,b1,k,z⟩:=h.arr b wm _l _f hb;obtain⟨D,G,w,b2,q,y⟩:=g.arr b B _l F n;exact⟨D,G,w,λe=>b1 (b2 e),zQ1 k q,λe=>(y (by omega)).trans (z (by omega))⟩
theorem Inv.cfix{s0 s:Sn}(hi:Inv s0)(t:bE s0 s){r o v}(hc:s0.g.C r o)(hv:cellAt s0.w r o=Z v):cellAt s.w r o=Z v:=
 t.keep.cell (fun⟨b,hb⟩=>(hi.const r o hc).2 b hb) hv
theorem J08.mono{s0 s:Sn}(hi:Inv s0)(t:bE s0 s){x v}(h:J08 s0.w s0.g.C x v):J08 s.w s.g.C x v:=by
 induction h with
 |b x=>exact .b x
 |i k n=>exact .i k n
 |s l=>exact .s l
 |np=>exact .np
 |nf=>exact .nf
 |sl0 _l a cap=>exact .sl0 _l a cap
 |sl _l _f r o cap vals h1 h2 q _ ih=>exact .sl _l _f r o cap vals h1 h2 (λi j row x e y=>⟨t.cmono _ _ (q i j row x e y).1,hi.cfix t (q i j row x e y).1 (q i j row x e y).2⟩) ih
 |slc _l _f a _ ih=>exact .slc _l _f a ih
theorem gq.mono{s0 s:Sn}(t:bE s0 s){b}(h:gq s0.σ b):gq s.σ b:=by obtain⟨cs,h⟩:=h;obtain⟨⟨cs',e,_⟩,_⟩:=t.box b cs h;exact⟨cs',e⟩
theorem JH.mono{s0 s:Sn}(hi:Inv s0)(t:bE s0 s){x v}(h:JH s0 x v):JH s x v:=by
 induction h with
 |p c v h=>exact .p c v (h.mono hi t)
 |data cs vs h1 h2=>exact .data cs vs h1 λi x v w y=>(h2 i x v w y).mono hi t
 |agg cs vs h1 h2 _ ih=>exact .agg cs vs h1 h2 ih
 |tup cs vs h1 _ ih=>exact .tup cs vs h1 ih
 |ptr b off r o h1 h2=>obtain⟨cs,q⟩:=h2;exact .ptr b off r o ((t.box b cs q).2.trans h1) (.mono t ⟨cs,q⟩)
 |cp cs off r o vals h1 h2=>exact .cp cs off r o vals (λj x w=>⟨t.cmono _ _ (h1 j x w).1,hi.cfix t (h1 j x w).1 (h1 j x w).2⟩) λj x w=>(h2 j x w).mono hi t
 |_r b i n v wm _l _f z h1 h2 q=>
  obtain⟨wm',rows',a,_,c,d⟩:=t.arr b wm _l _f h1;refine ._r b i n v wm' _l rows' z a (zQ1 h2 c) λe=>?_;have B:rows'.length=_f.length:=by omega
  rcases q (by omega)with⟨m,H,K,y⟩|⟨r,cap,D,A,fz,m,y,g,E,hs⟩;exact .inl ⟨(d B).trans m,H,K,y⟩;obtain⟨c',C,_e,_⟩:=t.keep.2.1 r D A fz E;exact .inr ⟨r,cap,c',A,fz,(d B).trans m,y,g,C,by omega⟩
 |ep b ext i off v wm _l _f z h1 h2 q=>
  obtain⟨wm',rows',a,_,c,d⟩:=t.arr b wm _l _f h1;refine .ep b ext i off v wm' _l rows' z a (zQ1 h2 c) λe L=>?_;grind
 |pre b n k v wm _l _f z h1 h2 _d q=>
  obtain⟨wm',rows',a,_,c,d⟩:=t.arr b wm _l _f h1;refine .pre b n k v wm' _l rows' z a (zQ1 h2 c) _d λe=>?_;have B:rows'.length=_f.length:=by omega
  rcases q (by omega)with h|⟨r,cap,D,A,fz,m,y,g,E,hs⟩;exact .inl h;obtain⟨c',C,_e,_⟩:=t.keep.2.1 r D A fz E;exact .inr ⟨r,cap,c',A,fz,(d B).trans m,y,g,C,by omega⟩
 |fn f first caps fs cs h1 h2 _ _ F G=>exact .fn f first caps fs cs h1 h2 F G
 |unk x=>exact .unk x
theorem mU{s0 s:Sn}(hi:Inv s0)(t:bE s0 s)(D:Nat->Prop)
  (same: ∀b,¬D b->s.σ[b]?=s0.σ[b]?/\s.g.μ b=s0.g.μ b)
  (k: ∀b r o v,¬D b->Wr1 s0 b r o->cellAt s0.w r o=Z v->cellAt s.w r o=Z v)
  (_c: ∀b cs,D b->s.σ[b]?=Z (.box cs)->ga s b cs)
  (P: ∀b wm _l _f,D b->s.σ[b]?=Z (.arr wm _l _f)->fi s b wm _l _f)
  (M: ∀b1 b2 r o,D b1->Wr1 s b1 r o->Wr1 s b2 r o->b1=b2)
  (n: ∀r o,s.g.C r o->r<s.w.heap.size)
  (H: ∀r o b,s.g.C r o->D b-> ¬Wr1 s b r o)
  (K: ∀r o b,s.g.C r o-> ¬s0.g.C r o-> ¬D b-> ¬Wr1 s0 b r o):Inv s:=by
 have wr: ∀b r o,¬D b->(Wr1 s b r o↔Wr1 s0 b r o):=(by intro b r o hd;obtain⟨h1,h2⟩:=same b hd;grind [Wr1]);have cells: ∀(r:Nat) c e fz,s0.w.heap[r]?=Z (.cells c e fz)-> ∃c',s.w.heap[r]?=Z (.cells c' e fz)/\c'.size=c.size/\ ∀o v,cellAt s.w r o=Z v->c'[o]?=Z v:=(by intro r c e fz h;obtain⟨c',h1,h2,_⟩:=t.keep.2.1 r c e fz h;grind [kX]);refine⟨?_,?_,?_,?_⟩;intro b cs hb;by_cases hd:D b;simp_all;obtain⟨h1,h2⟩:=same b hd;obtain⟨r,o,c,e,fz,m,A,R,B,hf⟩:=hi.box b cs (h1▸hb);obtain⟨c',q,N,y⟩:=cells r c e fz A;refine⟨r,o,c',e,fz,h2.trans m,q,by omega,λi x E=>?_,hf⟩;obtain⟨v,S,h,G⟩:=B i x E;refine⟨v,y _ _ (k b r (o+i) v hd ?_ (by grind [kX])),h.mono hi t,G⟩;grind [Wr1];intro b wm _l _f hb;by_cases hd:D b;grind;obtain⟨h1,h2⟩:=same b hd;rcases hi.arr b wm _l _f (h1▸hb)with⟨m,h⟩|⟨r,c,e,fz,m,A,z,R,B,hf⟩;exact .inl ⟨h2.trans m,h⟩;obtain⟨c',q,N,y⟩:=cells r c e fz A;refine .inr ⟨r,c',e,fz,h2.trans m,q,z,by omega,λi j row x _e L=>?_,N▸hf⟩;obtain⟨⟨v,S,h⟩,hc⟩:=B i j row x _e L;refine⟨⟨v,y _ _ ?_,h.mono hi t⟩,λe=>t.cmono _ _ (hc e)⟩;cases wm with
 |true=>
  refine k b r _ v hd ?_ (by grind [kX]);grind [Wr1]
 |false=>exact hi.cfix t (hc rfl) (by grind [kX])
 intro b1 b2 r o h1 h2;by_cases _d:D b1;grind;by_cases F:D b2;grind;exact hi.apart b1 b2 r o ((wr b1 r o _d).1 h1) ((wr b2 r o F).1 h2);intro r o hc;refine⟨n r o hc,λb hb=>?_⟩;by_cases hd:D b;simp_all;by_cases Q:s0.g.C r o;exact(hi.const r o Q).2 b ((wr b r o hd).1 hb);simp_all
end Go.Am
end
section
namespace Go.Am
theorem kD{σ:List _x}{b:Nat}{x y:_x}(h:σ[b]?=Z x):(σ.set b y)[b]?=Z y:=by
 grind
theorem tS{σ:List _x}{b c:Nat}{y:_x}(h:b≠c):(σ.set b y)[c]?=σ[c]?:=by simp[h]
theorem zc{s0:Sn}(hi:Inv s0){w':World}(hh:w'.heap=s0.w.heap)(ho:w'.os=s0.w.os)(hp:w'.output=s0.w.output):
  Inv ⟨s0.σ,s0.g,w'⟩/\bE s0 ⟨s0.σ,s0.g,w'⟩:=by
 have hc: ∀r o,cellAt w' r o=cellAt s0.w r o:=λr o=>by grind [cellAt]
 have t:bE s0 ⟨s0.σ,s0.g,w'⟩:=by
  refine⟨⟨by simp_all,λr c e fz h=>⟨c,by simp_all,rfl,λ_ _=>rfl⟩,λr x h _=>by simp_all,ho,hp⟩,λ_ _ h=>h,λ_ _ h=>.inl h,λr o ⟨b,hb⟩=>.inl ⟨b,hb⟩,zQ0 _,λ_ cs h=>⟨⟨cs,h,rfl⟩,rfl⟩,
   λ_ wm _ _f h=>⟨wm,_f,h,id,zQ0 _,λ_=>rfl⟩⟩
 exact⟨mU hi t (λ_=>False) (λ_ _=>⟨rfl,rfl⟩) (λ_ r o v _ _ h=>by simp_all) (λ_ _ h=>h.elim) (λ_ _ _ _ h=>h.elim)
  (λ_ _ _ _ h=>h.elim) (λr o h=>by show r<w'.heap.size;rw[hh];exact(hi.const r o h).1) (λ_ _ _ _ h=>h.elim) (λ_ _ _ h j=>(j h).elim),t⟩
theorem VI{W:Nat->Nat->Prop}{w w':World}{x:Obj}(hh:w'.heap=w.heap.push x)(ho:w'.os=w.os)(hp:w'.output=w.output):nW W w w':=by
 have g: ∀(r:Nat) y,w.heap[r]?=Z y->w'.heap[r]?=Z y:=(by grind);exact⟨by rw[hh];simp,λr c e fz h=>⟨c,g r _ h,rfl,λ_ _=>rfl⟩,λr y h _=>g r y h,ho,hp⟩
theorem VK{w w':World}{x:Obj}(hh:w'.heap=w.heap.push x):w'.heap[w.heap.size]?=Z x:=by rw[hh];simp
theorem nz{w w':World}{x:Obj}(hh:w'.heap=w.heap.push x){r o v}(h:cellAt w r o=Z v):cellAt w' r o=Z v:=
 (VI (W:=λ_ _=>False) (w:=w) (w':={w' with os:=w.os,output:=w.output}) hh rfl rfl).cell (λh=>h) h
def fV(g:Gh)(_m:Nat)(x:Option (Nat×Nat)):Gh:=⟨λb=>if b=_m then x else g.μ b,g.C⟩
theorem zj{s0 s:Sn}{_m:Nat}{blk:_x}(hd:s0.σ[_m]?=Z .dead)(hs:s.σ=s0.σ.set _m blk)(x:Option (Nat×Nat))(hg:s.g.μ=(fV s0.g _m x).μ):
  s0.σ.length<=s.σ.length/\(∀b cs,s0.σ[b]?=Z (.box cs)->(∃cs',s.σ[b]?=Z (.box cs')/\cs'.length=cs.length)/\s.g.μ b=s0.g.μ b)/\
  (∀b wm _l _f,s0.σ[b]?=Z (.arr wm _l _f)-> ∃wm' rows',s.σ[b]?=Z (.arr wm' _l rows')/\(wm'=O->wm=O)/\
  _f.length<=rows'.length/\(rows'.length=_f.length->s.g.μ b=s0.g.μ b)):=by
 have k: ∀b y,s0.σ[b]?=Z y->y≠.dead->s.σ[b]?=Z y/\s.g.μ b=s0.g.μ b:=by
  intro b y hb j;have h:_m≠b:=by grind
  rw[hs,tS h,hg];exact⟨hb,if_neg (λe=>h e.symm)⟩
 simp_all
def JVi(s0:Sn)(c:Array Value):_x->Prop
 | .box cs=>cs.length<=c.size/\ ∀(i:Nat) x,cs[i]?=Z x-> ∃v,c[i]?=Z v/\JH s0 x v/\v.oneCell'=O
 | .arr O _l _f=>(∀row∈_f,row.length=_l)/\_f.length*_l<=c.size/\
  ∀(i j:Nat) row x,_f[i]?=Z row->row[j]?=Z x-> ∃v,c[i*_l+j]?=Z v/\J08 s0.w s0.g.C x v
 |_=>False
theorem TL{s0:Sn}(hi:Inv s0){_m:Nat}(hd:s0.σ[_m]?=Z .dead){blk:_x}{c:Array Value}{e:TypeId}{fz:Nat×Nat}{w':World}
  (hh:w'.heap=s0.w.heap.push (.cells c e fz)) (ho:w'.os=s0.w.os) (hp:w'.output=s0.w.output) (hf:GJ fz 0 c.size) (D: ∀wm _l _f,blk=.arr wm _l _f->_l≠1-> ¬(fz.1<=c.size/\c.size<fz.2)) (hb:JVi s0 c blk):
  Inv ⟨s0.σ.set _m blk,fV s0.g _m (Z (s0.w.heap.size,0)),w'⟩/\bE s0 ⟨s0.σ.set _m blk,fV s0.g _m (Z (s0.w.heap.size,0)),w'⟩:=by
 have q:(s0.σ.set _m blk)[_m]?=Z blk:=kD hd;have wr: ∀b r o,b≠_m->(Wr1 ⟨s0.σ.set _m blk,fV s0.g _m (Z (s0.w.heap.size,0)),w'⟩ b r o↔Wr1 s0 b r o):=by simp_all [Wr1,fV,Ne.symm]
 have M: ∀r o,Wr1 ⟨s0.σ.set _m blk,fV s0.g _m (Z (s0.w.heap.size,0)),w'⟩ _m r o->r=s0.w.heap.size:=(by intro r o h;unfold Wr1 at h;simp only[q,fV]at h;grind);have N: ∀b r o,Wr1 s0 b r o->r<s0.w.heap.size:=by
  intro b r o h;unfold Wr1 at h;split at h;rename_i cs hb;obtain⟨r',_c,c',e',A,m,k,_⟩:=hi.box b cs hb;grind
  ·rename_i hb;obtain⟨_d,H⟩:=h;rcases hi.arr b _ _ _ hb with⟨m,_⟩|⟨r',c',e',A,m,k,_⟩
   all_goals grind
  ·rename_i hb;obtain⟨_d,H,_⟩:=h;rcases hi.arr b _ _ _ hb with⟨m,_⟩|⟨r',c',e',A,m,k,_⟩
   all_goals grind
  exact h.elim
 have t:bE s0 ⟨s0.σ.set _m blk,fV s0.g _m (Z (s0.w.heap.size,0)),w'⟩:=(by obtain⟨F,_e,G⟩:=zj (s:=⟨s0.σ.set _m blk,fV s0.g _m (Z (s0.w.heap.size,0)),w'⟩) hd rfl (Z (s0.w.heap.size,0)) rfl;refine⟨VI hh ho hp,λ_ _ h=>h,λ_ _ h=>.inl h,?_,F,_e,G⟩;rintro r o ⟨b,hb⟩;by_cases e:b=_m;grind;exact .inl ⟨b,(wr b r o e).1 hb⟩);refine⟨mU hi t (λb=>b=_m) (λb z=>⟨tS (Ne.symm z),if_neg z⟩) (λb r o v _ _ h=>nz hh h) ?_ ?_ ?_ ?_ ?_ ?_,t⟩;rintro b cs rfl n;rw[q]at n;cases n;obtain⟨h1,h2⟩:=hb;refine⟨s0.w.heap.size,0,c,e,fz,if_pos rfl,VK hh,by omega,λi x B=>?_,λo _ P=>hf o (zQ2 _) (by omega)⟩;obtain⟨v,E,y,C⟩:=h2 i x B;exact⟨v,by simp_all,y.mono hi t,C⟩;rintro b wm _l _f rfl n;rw[q]at n;cases n;cases wm with
 |false=>exact hb.elim
 |true=>obtain⟨h1,h2,K⟩:=hb;refine .inr ⟨s0.w.heap.size,c,e,fz,if_pos rfl,VK hh,h1,h2,λi j row x y B=>⟨?_,λh=>by cases h⟩,hf,D _ _ _ rfl⟩;obtain⟨v,E,y⟩:=K i j row x y B;exact⟨v,E,y.mono hi t⟩
 grind;intro r o hc;show r<w'.heap.size;rw[hh];have:=(hi.const r o hc).1;simp;omega;rintro r o b hc rfl h;have:=(hi.const r o hc).1;grind;exact λr o b hc L=>(L hc).elim
theorem yJ{s0:Sn}(hi:Inv s0): ∀b r o,Wr1 s0 b r o->r<s0.w.heap.size:=by
 intro b r o h;unfold Wr1 at h;split at h;rename_i cs hb;obtain⟨r',n,c',e',e,m,k,_⟩:=hi.box b cs hb;grind
 ·rename_i hb;obtain⟨g,j⟩:=h;rcases hi.arr b _ _ _ hb with⟨m,_⟩|⟨r',c',e',e,m,k,_⟩
  all_goals grind
 ·rename_i hb;obtain⟨g,j,_⟩:=h;rcases hi.arr b _ _ _ hb with⟨m,_⟩|⟨r',c',e',e,m,k,_⟩
  all_goals grind
 exact h.elim
theorem TT{s0:Sn}(hi:Inv s0){_m:Nat}(hd:s0.σ[_m]?=Z .dead)(_l:Nat):
  Inv ⟨s0.σ.set _m (.arr O _l []),fV s0.g _m Y,s0.w⟩/\bE s0 ⟨s0.σ.set _m (.arr O _l []),fV s0.g _m Y,s0.w⟩:=by
 have j:(s0.σ.set _m (_x.arr O _l []))[_m]?=Z (.arr O _l []):=kD hd;have wr: ∀b r o,b≠_m->(Wr1 ⟨s0.σ.set _m (.arr O _l []),fV s0.g _m Y,s0.w⟩ b r o↔Wr1 s0 b r o):=by simp_all [Wr1,fV,Ne.symm]
 have B: ∀r o,¬Wr1 ⟨s0.σ.set _m (.arr O _l []),fV s0.g _m Y,s0.w⟩ _m r o:=by simp_all [Wr1,fV]
 have t:bE s0 ⟨s0.σ.set _m (.arr O _l []),fV s0.g _m Y,s0.w⟩:=(by obtain⟨q,z,x⟩:=zj (s:=⟨s0.σ.set _m (.arr O _l []),fV s0.g _m Y,s0.w⟩) hd rfl Y rfl;refine⟨.refl _ _,λ_ _ h=>h,λ_ _ h=>.inl h,?_,q,z,x⟩;rintro r o ⟨b,hb⟩;by_cases e:b=_m;simp_all;exact .inl ⟨b,(wr b r o e).1 hb⟩);refine⟨mU hi t (λb=>b=_m) (λb k=>⟨tS (Ne.symm k),if_neg k⟩) (λb r o v _ _ h=>h) ?_ ?_ ?_ ?_ ?_ ?_,t⟩;simp_all;rintro b wm y _f rfl n;rw[j]at n;cases n;exact .inl ⟨if_pos rfl,.inl rfl⟩;simp_all;exact λr o hc=>(hi.const r o hc).1;simp_all;exact λr o b hc A=>(A hc).elim
def rF(g:Gh)(p:Nat->Nat->Prop):Gh:=⟨g.μ,λr o=>g.C r o\/p r o⟩
theorem JMD{s0:Sn}(hi:Inv s0){x:Obj}{w':World}
  (hh:w'.heap=s0.w.heap.push x) (ho:w'.os=s0.w.os) (hp:w'.output=s0.w.output):
  Inv ⟨s0.σ,rF s0.g λr _=>r=s0.w.heap.size,w'⟩/\bE s0 ⟨s0.σ,rF s0.g λr _=>r=s0.w.heap.size,w'⟩:=by
 have t:bE s0 ⟨s0.σ,rF s0.g λr _=>r=s0.w.heap.size,w'⟩:=by
  refine⟨VI hh ho hp,λ_ _ h=>.inl h,λr o h=>?_,λr o h=>.inl h,zQ0 _,λ_ cs h=>⟨⟨cs,h,rfl⟩,rfl⟩,
   λ_ wm _ _f h=>⟨wm,_f,h,id,zQ0 _,λ_=>rfl⟩⟩
  rcases h with h|h
  all_goals simp_all
 refine⟨mU hi t (λ_=>False) (λ_ _=>⟨rfl,rfl⟩) (λb r o v _ _ h=>nz hh h) (λ_ _ h=>h.elim) (λ_ _ _ _ h=>h.elim)
  (λ_ _ _ _ h=>h.elim) ?_ (λ_ _ _ _ h=>h.elim) ?_,t⟩
 intro r o hc;show r<w'.heap.size;rw[hh];rcases hc with hc|hc;have:=(hi.const r o hc).1;simp;omega;simp;omega;intro r o b hc e _ h;rcases hc with hc|hc;exact e hc;have:=yJ hi b r o h;omega
structure Put(r:Nat)(o:Nat)(vs:List Value)(w w':World):Prop where
 there: ∃c e fz c',w.heap[r]?=Z (.cells c e fz)/\w'.heap[r]?=Z (.cells c' e fz)/\c'.size=c.size/\o+vs.length<=c.size/\
  (∀(j:Nat) v,vs[j]?=Z v->c'[o+j]?=Z v)/\ ∀k,(k<o\/o+vs.length<=k)->c'[k]?=c[k]?
 rest: ∀r':Nat,r'≠r->w'.heap[r']?=w.heap[r']?
 size:w'.heap.size=w.heap.size
 os:w'.os=w.os
 output:w'.output=w.output
theorem Put.keep{W:Nat->Nat->Prop}{r o vs w w'}(h:Put r o vs w w')(hw: ∀k,o<=k->k<o+vs.length->W r k):nW W w w':=by
 obtain⟨c,e,fz,c',h1,h2,v,_,_,q⟩:=h.there;refine⟨Nat.le_of_eq h.size.symm,λr' j z n g=>?_,λr' x g y=>?_,h.os,h.output⟩;by_cases e':r'=r;grind;exact⟨j,by rw[h.rest r' e'];exact g,rfl,λ_ _=>rfl⟩;by_cases e':r'=r;grind;rw[h.rest r' e'];exact g
theorem Put.cell{r o vs w w'}(h:Put r o vs w w'){r' k v}(hv:cellAt w r' k=Z v)(hn:r'≠r\/k<o\/o+vs.length<=k):cellAt w' r' k=Z v:=by
 obtain⟨c,e,fz,c',h1,h2,j,_,_,g⟩:=h.there;by_cases e':r'=r;grind [kX];unfold cellAt;rw[h.rest r' e'];exact hv
inductive kz:_x->_x->Prop where|box (cs cs':List AV):cs'.length=cs.length->kz (.box cs) (.box cs')|arr (_l:Nat) (_f rows':List (List PV)):rows'.length=_f.length->kz (.arr O _l _f) (.arr O _l rows')
theorem nu{s0:Sn}(hi:Inv s0){b:Nat}{z blk:_x}{r o:Nat}{vs:List Value}{w':World}(hb:s0.σ[b]?=Z z)
  (q:Put r o vs s0.w w') (hw: ∀k,o<=k->k<o+vs.length->Wr1 s0 b r k)
  (hk:kz z blk)
  (A: ∀cs,blk=.box cs->(∀{x v},JH s0 x v->JH ⟨s0.σ.set b blk,s0.g,w'⟩ x v)->ga ⟨s0.σ.set b blk,s0.g,w'⟩ b cs)
  (B: ∀_l _f,blk=.arr O _l _f->(∀{x v},J08 s0.w s0.g.C x v->J08 w' s0.g.C x v)->fi ⟨s0.σ.set b blk,s0.g,w'⟩ b O _l _f):
  Inv ⟨s0.σ.set b blk,s0.g,w'⟩/\bE s0 ⟨s0.σ.set b blk,s0.g,w'⟩:=by
 have n:(s0.σ.set b blk)[b]?=Z blk:=kD hb;have wr: ∀j r o,(Wr1 ⟨s0.σ.set b blk,s0.g,w'⟩ j r o↔Wr1 s0 j r o):=by
  intro j r o;by_cases e:j=b;subst e;unfold Wr1;simp only[n,hb];cases hk<;>simp_all
  grind [Wr1]
 have t:bE s0 ⟨s0.σ.set b blk,s0.g,w'⟩:=by
  refine⟨q.keep λk h1 h2=>⟨b,hw k h1 h2⟩,λ_ _ h=>h,λ_ _ h=>.inl h,λr o ⟨j,h⟩=>.inl ⟨j,(wr j r o).1 h⟩,by simp,λj cs h=>?_,λj wm _l _f h=>?_⟩;by_cases e:j=b;subst e;rw[hb]at h;cases h;cases hk<;>simp_all
  grind;by_cases e:j=b;subst e;rw[hb]at h;cases h;cases hk<;>simp_all
  grind
 refine⟨mU hi t (λj=>j=b) (λj y=>⟨tS (Ne.symm y),rfl⟩) ?_ ?_ ?_ ?_ ?_ ?_ ?_,t⟩;intro j r' k v y E F;refine q.cell F ?_;rcases zQ3 k o with h|h;simp_all;rcases zQ3 k (o+vs.length)with D|D;refine .inl λe=>y ?_;subst e;exact hi.apart _ _ _ _ E (hw k h D);simp_all;rintro j cs rfl h;rw[n]at h;cases h;exact A _ rfl λh=>h.mono hi t;rintro j wm _l _f rfl h;rw[n]at h;cases h;cases hk with
 |arr _ _ rows' G=>exact B _ _ rfl λh=>h.mono hi t
 rintro b1 b2 r o rfl h1 h2;exact hi.apart _ _ _ _ ((wr _ _ _).1 h1) ((wr _ _ _).1 h2);intro r o hc;show r<w'.heap.size;rw[q.size];exact(hi.const r o hc).1;rintro r o j hc rfl h;exact(hi.const r o hc).2 _ ((wr _ _ _).1 h);simp_all
end Go.Am
end
section
namespace Go.Am
theorem mX{a b n e:Nat}(h1:a<n)(h2:b<e):a*e+b<n*e:=by
 have h:(a+1)*e<=n*e:=zQ4 e h1;grind
theorem JA{α:Type}{l:List α}{i:Nat}{x:α}(h:l[i]?=Z x):i<l.length:=by
 grind
theorem VU{α:Type}{l:Array α}{i:Nat}{x:α}(h:l[i]?=Z x):i<l.size:=by
 grind
theorem jV{α:Type}{l:List α}{i:Nat}{x:α}(h:l[i]?=Z x):x∈l:=zQ5 h
def Frz(σ τ:List _x):Prop:=(∀(b:Nat) wm _l _f,σ[b]?=Z (_x.arr wm _l _f)-> ∃wm',τ[b]?=Z (_x.arr wm' _l _f))/\(∀(b:Nat) x,σ[b]?=Z x->(∀wm _l _f,x≠_x.arr wm _l _f)->τ[b]?=Z x)
theorem Frz.refl(σ):Frz σ σ:=⟨λ_ wm _ _ h=>⟨wm,h⟩,λ_ _ h _=>h⟩
theorem Frz.trans{a b c}(h:Frz a b)(g:Frz b c):Frz a c:=
 ⟨λn wm _l _f e=>let⟨wm',h1⟩:=h.1 n wm _l _f e;g.1 n wm' _l _f h1,λn x e j=>g.2 n x (h.2 n x e j) j⟩
theorem JKq{s0:Sn}(hi:Inv s0){b:Nat}{wm:Bool}{_l:Nat}{_f:List (List PV)}(hb:s0.σ[b]?=Z (.arr wm _l _f)):
  ∃g',g'.μ=s0.g.μ/\Inv ⟨s0.σ.set b (.arr J _l _f),g',s0.w⟩/\bE s0 ⟨s0.σ.set b (.arr J _l _f),g',s0.w⟩/\
   Frz s0.σ (s0.σ.set b (.arr J _l _f)):=by
 have q:(s0.σ.set b (.arr J _l _f))[b]?=Z (.arr J _l _f):=kD hb;have y:Frz s0.σ (s0.σ.set b (.arr J _l _f)):=by
  refine⟨λn wm' B rows' E=>?_,λn x E H=>?_⟩
  all_goals grind
 cases wm with
 |false=>
  have hs:s0.σ.set b (.arr J _l _f)=s0.σ:=(by apply zQ6;grind);refine⟨s0.g,rfl,?_,?_,y⟩
  all_goals simp_all [bE.refl]
 |true=>
  refine⟨rF s0.g λr o=>s0.g.μ b=Z (r,0)/\o<_f.length*_l,rfl,?_⟩;have wr: ∀k r o,Wr1 ⟨s0.σ.set b (.arr J _l _f),rF s0.g λr o=>s0.g.μ b=Z (r,0)/\o<_f.length*_l,s0.w⟩ k r o->Wr1 s0 k r o:=(by intro k r o h;by_cases e:k=b;subst e;unfold Wr1 at h⊢;simp only[q,hb]at h⊢;obtain⟨_e,m,_⟩:=h;exact⟨_e,m⟩;unfold Wr1 at h⊢;simp only[tS (Ne.symm e)]at h;exact h);have t:bE s0 ⟨s0.σ.set b (.arr J _l _f),rF s0.g λr o=>s0.g.μ b=Z (r,0)/\o<_f.length*_l,s0.w⟩:=(by refine⟨.refl _ _,λ_ _ h=>.inl h,λr o h=>?_,λr o ⟨k,h⟩=>.inl ⟨k,wr k r o h⟩,by simp,λk cs h=>?_,λk wm B rows' h=>?_⟩;rcases h with h|⟨h,_⟩;exact .inl h;refine .inr (.inl ⟨b,?_⟩);grind [Wr1];refine⟨⟨cs,y.2 k _ h (by simp),rfl⟩,rfl⟩;by_cases e:k=b;subst e;rw[hb]at h;injection h with h;injection h with h1 h2 h3;subst h1 h2 h3;exact⟨J,_f,q,by simp,zQ0 _,λ_=>rfl⟩;exact⟨wm,rows',by grind,id,zQ0 _,λ_=>rfl⟩);refine⟨mU hi t (λk=>k=b) (λk z=>⟨tS (Ne.symm z),rfl⟩) (λ_ _ _ _ _ _ h=>h) ?_ ?_ ?_ ?_ ?_ ?_,t,y⟩;simp_all;rintro k wm B rows' rfl h;rw[q]at h;cases h;rcases hi.arr _ _ _ _ hb with⟨m,G⟩|⟨r,c,e,fz,m,F,C,K,H,hf⟩;exact .inl ⟨m,.inr rfl⟩;refine .inr ⟨r,c,e,fz,m,F,C,K,λi j row x A D=>?_,hf⟩;obtain⟨⟨v,L,G⟩,_⟩:=H i j row x A D;refine⟨⟨v,L,G.mono hi t⟩,λ_=>.inr ⟨m,?_⟩⟩;have h1:=JA A;have h2:=JA D;rw[C row (jV A)]at h2;simp_all [mX];rintro b1 b2 r o rfl h1 h2;exact hi.apart _ _ _ _ (wr _ _ _ h1) (wr _ _ _ h2)
  ·intro r o hc;rcases hc with hc|⟨hc,_⟩
   exact(hi.const r o hc).1
   ·rcases hi.arr _ _ _ _ hb with⟨m,_⟩|⟨r',c,e,fz,m,F,_⟩
    all_goals grind
  rintro r o k hc rfl h;rcases hc with hc|⟨hc,_d⟩;exact(hi.const r o hc).2 _ (wr _ _ _ h);grind [Wr1];intro r o k hc E z h;rcases hc with hc|⟨hc,_d⟩;exact E hc;refine z (hi.apart _ _ r o h ?_);grind [Wr1]
def lQ(s:Sn)(_l:Nat)(_f:List (List PV))(v:Value):Prop:= ∃a cap,v=.slice a _f.length cap/\_f.length<=cap/\(∀row∈_f,row.length=_l)/\(_f=[]\/ ∃r o,a=Z ⟨r,o,Y⟩/\ ∀(i j:Nat) row x,_f[i]?=Z row->row[j]?=Z x-> ∃u,cellAt s.w r (o+i*_l+j)=Z u/\J08 s.w s.g.C x u)
theorem lQ.of_sl{s:Sn}{_l _f v}(h:J08 s.w s.g.C (.sl _l _f) v):lQ s _l _f v:=by
 cases h with
 |sl0 _ a cap=>exact⟨a,cap,rfl,zQ2 _,(λ_ h=>by cases h),.inl rfl⟩
 |sl _ _ r o cap vals h1 h2 q n=>exact⟨_,cap,rfl,h1,h2,.inr ⟨r,o,rfl,λi j row x e k=>⟨_,(q i j row x e k).2,n i j row x e k⟩⟩⟩
theorem lQ.of_slr{s:Sn}(hi:Inv s){b i n v wm _l _f}(h:JH s (._r b i n) v)(hb:s.σ[b]?=Z (.arr wm _l _f))(e:i+n=_f.length):
  lQ s _l (_f.drop i) v:=by
 cases h with
 |_r _ _ _ _ wm' z rows' _ h1 h2 B=>
  rw[hb]at h1;injection h1 with h1;injection h1 with a1 a2 a3;subst a1 a2 a3;have F:(_f.drop i).length=n:=by simp;omega
  rcases B e with⟨m,q,C,w⟩|⟨r,cap,c,_e,fz,m,w,y,G,hs⟩;subst q C;have:_f=[]:=by grind
  subst this;exact⟨Y,0,by simp[w],by simp,by simp,.inl rfl⟩;rcases hi.arr b wm _l _f hb with⟨g,_⟩|⟨r',c',e',E,g,D,o,hlen,H,_⟩;simp_all;rw[m]at g;injection g with g;injection g with g _;subst g;refine⟨Z ⟨r,i*_l,Y⟩,cap,by simp_all,by omega,λrow A=>o row (zQ7 A),.inr ⟨r,i*_l,rfl,λk j row x hk _d=>?_⟩⟩;grind [kX]
theorem lQ.mono{s0 s:Sn}(hi:Inv s0)(t:bE s0 s){_l _f v}(h:lQ s0 _l _f v)(hc: ∀r o u,cellAt s0.w r o=Z u->cellAt s.w r o=Z u):lQ s _l _f v:=by obtain⟨a,cap,h1,h2,q,g⟩:=h;refine⟨a,cap,h1,h2,q,g.imp id ?_⟩;rintro⟨r,o,A,y⟩;exact⟨r,o,A,λi j row x n z=>let⟨u,k,e⟩:=y i j row x n z;⟨u,hc _ _ _ k,e.mono hi t⟩⟩
theorem ou{s:Sn}{_l:Nat}{_f:List (List PV)}{v:Value}{a:Option Addr}{cap:Nat}(hv:v=.slice a _f.length cap)(e:_f.length<=cap)
  (h: ∀row∈_f,row.length=_l)
  (hx:_f=[]\/ ∃r o,a=Z ⟨r,o,Y⟩/\ ∀(i j:Nat) row x,_f[i]?=Z row->row[j]?=Z x->s.g.C r (o+i*_l+j)/\ ∃u,cellAt s.w r (o+i*_l+j)=Z u/\J08 s.w s.g.C x u):
  J08 s.w s.g.C (.sl _l _f) v:=by
 subst hv;rcases hx with rfl|⟨r,o,rfl,hx⟩;exact .sl0 _ _ _
 ·refine .sl _l _f r o cap (λi j=>(cellAt s.w r (o+i*_l+j)).getD .nilFunc) e h (λi j row x k n=>?_) λi j row x k n=>?_
  all_goals grind
theorem JMW{s0:Sn}(hi:Inv s0){b i n:Nat}{v:Value}{wm:Bool}{_l:Nat}{_f:List (List PV)}(h:JH s0 (._r b i n) v)(hb:s0.σ[b]?=Z (.arr wm _l _f))
  (e:i+n=_f.length):
  ∃g',Inv ⟨s0.σ.set b (.arr J _l _f),g',s0.w⟩/\bE s0 ⟨s0.σ.set b (.arr J _l _f),g',s0.w⟩/\
   Frz s0.σ (s0.σ.set b (.arr J _l _f))/\J08 s0.w g'.C (.sl _l (_f.drop i)) v:=by
 obtain⟨g',Q,hi',t,hf⟩:=JKq hi hb;refine⟨g',hi',t,hf,?_⟩;have A:=h.mono hi t;have q:(s0.σ.set b (.arr J _l _f))[b]?=Z (.arr J _l _f):=kD hb;obtain⟨a,cap,h1,h2,_d,G⟩:=lQ.of_slr hi' A q e;refine ou (s:=⟨s0.σ.set b (.arr J _l _f),g',s0.w⟩) h1 h2 _d (G.imp id ?_);rintro⟨r,o,rfl,K⟩;refine⟨r,o,rfl,λk j row x hk L=>⟨?_,K k j row x hk L⟩⟩;cases A with
 |_r _ _ _ _ wm' y rows' _ H U _e=>
  have g:(s0.σ.set b (.arr J _l _f))[b]?=Z (.arr wm' y rows'):=H;rw[q]at g;injection g with g;injection g with a1 a2 a3;subst a1 a2 a3;rcases _e e with⟨m,P,S,z⟩|⟨r',B,c,T,fz,m,z,D,R,hs⟩;simp_all
  ·rw[h1]at z;injection z with v1 v2 v3;injection v1 with v1;injection v1 with v1 v4;subst v1 v4
   rcases hi'.arr b J _l _f q with⟨E,_⟩|⟨r',c',e',_c,E,N,F,hlen,M,_⟩
   all_goals grind
end Go.Am
end
section
namespace Go.Am
theorem NU{α:Type}{a b:List α}{i:Nat}{x:α}(h:(a++b)[i]?=Z x):a[i]?=Z x\/(a.length<=i/\b[i-a.length]?=Z x):=by
 grind
def vk(g:Gh)(wm:Bool)(r lo hi:Nat):Gh:=rF g λr' o=>wm=J/\r'=r/\lo<=o/\o<hi
theorem JQI{s0:Sn}(hi:Inv s0){b:Nat}{wm:Bool}{_l:Nat}{_f _m:List (List PV)}{r:Nat}{vs:List Value}{w':World}
  (hb:s0.σ[b]?=Z (.arr wm _l _f)) (hm:s0.g.μ b=Z (r,0)) (K: ∀row∈_m,row.length=_l)
  (z:Put r (_f.length*_l) vs s0.w w') (hlen:vs.length=_m.length*_l)
  (hx: ∀(i j:Nat) row x,_m[i]?=Z row->row[j]?=Z x-> ∃u,vs[i*_l+j]?=Z u/\J08 s0.w s0.g.C x u):
  Inv ⟨s0.σ.set b (.arr wm _l (_f++_m)),vk s0.g wm r (_f.length*_l) ((_f.length+_m.length)*_l),w'⟩/\
  bE s0 ⟨s0.σ.set b (.arr wm _l (_f++_m)),vk s0.g wm r (_f.length*_l) ((_f.length+_m.length)*_l),w'⟩:=by
 have A:(s0.σ.set b (.arr wm _l (_f++_m)))[b]?=Z (.arr wm _l (_f++_m)):=kD hb;have S:(_f.length+_m.length)*_l=_f.length*_l+_m.length*_l:=zQ8 _ _ _;generalize hs:(⟨s0.σ.set b (.arr wm _l (_f++_m)),vk s0.g wm r (_f.length*_l) ((_f.length+_m.length)*_l),w'⟩:Sn)=s;have G:s.σ=s0.σ.set b (.arr wm _l (_f++_m)):=by rw[<-hs]
 have T:s.g.μ=s0.g.μ:=by rw[<-hs];rfl
 have B: ∀r' o,s.g.C r' o↔s0.g.C r' o\/(wm=J/\r'=r/\_f.length*_l<=o/\o<(_f.length+_m.length)*_l):=by rw[<-hs];exact λ_ _=>Iff.rfl
 have L:s.w=w':=by rw[<-hs]
 have wr: ∀n r' o,Wr1 s n r' o->Wr1 s0 n r' o:=by
  intro n r' o h;by_cases e:n=b;subst e;unfold Wr1 at h⊢;rw[G,A]at h;rw[hb];cases wm<;>grind
  grind [Wr1]
 have y: ∀o,_f.length*_l<=o->Wr1 s0 b r o:=by intro o ho;unfold Wr1;rw[hb];cases wm<;>simp_all
 have t:bE s0 s:=(by refine⟨?_,λr o h=>(B r o).2 (.inl h),λr' o h=>?_,λr o ⟨n,h⟩=>.inl ⟨n,wr n r o h⟩,by rw[G];simp,λn cs h=>?_,λn wm' _e rows' h=>?_⟩;rw[L];exact z.keep λk h1 _=>⟨b,y k h1⟩;rcases(B r' o).1 h with h|⟨_,e,h,_⟩;exact .inl h;subst e;exact .inr (.inl ⟨b,y o h⟩);grind;by_cases e:n=b;subst e;rw[hb]at h;injection h with h;injection h with h1 h2 Q;subst h1 h2 Q;grind;grind);refine⟨mU hi t (λn=>n=b) (λn D=>⟨by grind,by rw[T]⟩) ?_ ?_ ?_ ?_ ?_ ?_ ?_,t⟩;intro n r' k v D P R;rw[L];refine z.cell R ?_;by_cases F:r'=r;subst F;rcases zQ3 k (_f.length*_l)with h|h;simp_all;exact(D (hi.apart _ _ _ _ P (y k h))).elim;simp_all;simp_all;rintro n wm' _e rows' rfl h;rw[G,A]at h;cases h;obtain⟨c,e,fz,c',U,p2,_a,p4,p5,p6⟩:=z.there;rcases hi.arr _ _ _ _ hb with⟨m,_⟩|⟨r',c0,e0,W,m,H,_d,hl,N,hf⟩;simp_all;rw[hm]at m;injection m with m;injection m with m _;subst m;rw[U]at H;injection H with H;injection H with q1 q2 q3;subst q1 q2 q3;refine .inr ⟨r,c',e,fz,by simp_all,by simp_all,?_,?_,?_,?_⟩;grind;simp_all;intro i j row x q E;rcases NU q with q|⟨_b,q⟩;obtain⟨⟨v,R,M⟩,hc⟩:=N i j row x q E;have h1:=JA q;have h2:=JA E;rw[_d row (jV q)]at h2;have:=mX h1 h2;exact⟨⟨v,by simp_all,M.mono hi t⟩,λe=>(B _ _).2 (.inl (hc e))⟩;obtain⟨u,hu,M⟩:=hx _ j row x q E;have h1:=JA q;have h2:=JA E;rw[K row (jV q)]at h2;have Q:=mX h1 h2;have h4:i*_l+j=_f.length*_l+((i-_f.length)*_l+j):=(by grind [Nat.add_sub_cancel']);refine⟨⟨u,by simp_all,M.mono hi t⟩,λe=>(B _ _).2 (.inr ⟨e,rfl,by omega,by simp_all⟩)⟩;simp_all;rintro b1 b2 r o rfl h1 h2;exact hi.apart _ _ _ _ (wr _ _ _ h1) (wr _ _ _ h2);intro r' o hc;rw[L,z.size];rcases(B r' o).1 hc with hc|⟨_,e,_⟩;exact(hi.const r' o hc).1;subst e;exact yJ hi b _ _ (y _ (zQ0 _));rintro r' o n hc rfl h;rcases(B r' o).1 hc with hc|⟨e,F,hlo,_c⟩;exact(hi.const r' o hc).2 _ (wr _ _ _ h);subst e F;unfold Wr1 at h;rw[G,A]at h;grind;intro r' o n hc V D h;rcases(B r' o).1 hc with hc|⟨e,F,hlo,_c⟩;exact V hc;subst F;exact D (hi.apart _ _ _ o h (y o hlo))
theorem JQy{s0:Sn}(hi:Inv s0){b _l:Nat}{_f rows':List (List PV)}{r o:Nat}{vs:List Value}{w':World}
  (hb:s0.σ[b]?=Z (.arr O _l _f)) (hm:s0.g.μ b=Z (r,0)) (_e: ∀row∈rows',row.length=_l) (M:_f.length<=rows'.length) (y:Put r o vs s0.w w')
  (hx: ∀(c c':Array Value),(∀(i j:Nat) row x,_f[i]?=Z row->row[j]?=Z x-> ∃u,c[i*_l+j]?=Z u/\J08 s0.w s0.g.C x u)->c'.size=c.size->(∃e fz,s0.w.heap[r]?=Z (.cells c e fz))->
   (∀(j:Nat) v,vs[j]?=Z v->c'[o+j]?=Z v)->(∀k,(k<o\/o+vs.length<=k)->c'[k]?=c[k]?)->
   rows'.length*_l<=c.size/\ ∀(i j:Nat) row x,rows'[i]?=Z row->row[j]?=Z x-> ∃u,c'[i*_l+j]?=Z u/\J08 s0.w s0.g.C x u):
  Inv ⟨s0.σ.set b (.arr O _l rows'),s0.g,w'⟩/\bE s0 ⟨s0.σ.set b (.arr O _l rows'),s0.g,w'⟩:=by
 have q:(s0.σ.set b (.arr O _l rows'))[b]?=Z (.arr O _l rows'):=kD hb;generalize hs:(⟨s0.σ.set b (.arr O _l rows'),s0.g,w'⟩:Sn)=s;have D:s.σ=s0.σ.set b (.arr O _l rows'):=by rw[<-hs]
 have z:s.g=s0.g:=by rw[<-hs]
 have E:s.w=w':=by rw[<-hs]
 have wr: ∀n r' o,Wr1 s n r' o->Wr1 s0 n r' o:=(by intro n r' o h;by_cases e:n=b;subst e;unfold Wr1 at h⊢;rw[D,q]at h;rw[hb];grind;grind [Wr1]);have A: ∀o,Wr1 s0 b r o:=by intro o;unfold Wr1;rw[hb];simp_all
 have t:bE s0 s:=(by refine⟨?_,λr o h=>by rw[z];exact h,λr' o h=>.inl (by rw[<-z];exact h),λr o ⟨n,h⟩=>.inl ⟨n,wr n r o h⟩,by rw[D];simp,λn cs h=>?_,λn wm' H _d h=>?_⟩;rw[E];exact y.keep λk h1 _=>⟨b,A k⟩;grind;by_cases e:n=b;subst e;rw[hb]at h;injection h with h;injection h with h1 h2 h3;subst h1 h2 h3;exact⟨O,rows',by rw[D];exact q,id,M,λ_=>by rw[z]⟩;grind);refine⟨mU hi t (λn=>n=b) (λn B=>⟨by grind,by rw[z]⟩) ?_ ?_ ?_ ?_ ?_ ?_ ?_,t⟩;intro n r' k v B N _a;rw[E];refine y.cell _a ?_;by_cases T:r'=r;subst T;exact(B (hi.apart _ _ _ _ N (A k))).elim;simp_all;simp_all;rintro n wm' H _d rfl h;rw[D,q]at h;cases h;obtain⟨c,e,fz,c',K,R,G,p4,Q,S⟩:=y.there;rcases hi.arr _ _ _ _ hb with⟨m,_⟩|⟨r',c0,e0,a0,m,F,_c,hl,L,hf⟩;simp_all;rw[hm]at m;injection m with m;injection m with m _;subst m;rw[K]at F;injection F with F;injection F with q1 q2 q3;subst q1 q2 q3;obtain⟨P,U⟩:=hx c c' (λi j row x h1 h2=>(L i j row x h1 h2).1) G ⟨e,fz,K⟩ Q S;refine .inr ⟨r,c',e,fz,by rw[z];exact hm,by rw[E];exact R,_e,by rw[G];exact P,λi j row x h1 h2=>?_,by rw[G];exact hf⟩;obtain⟨u,W,V⟩:=U i j row x h1 h2;exact⟨⟨u,W,V.mono hi t⟩,λh=>by cases h⟩;rintro b1 b2 r o rfl h1 h2;exact hi.apart _ _ _ _ (wr _ _ _ h1) (wr _ _ _ h2);intro r' o hc;rw[E,y.size];rw[z]at hc;exact(hi.const r' o hc).1;rintro r' o n hc rfl h;rw[z]at hc;exact(hi.const r' o hc).2 _ (wr _ _ _ h);intro r' o n hc _b B h;rw[z]at hc;exact _b hc
theorem JRf{s0:Sn}(hi:Inv s0){b:Nat}{wm:Bool}{_l:Nat}{_f rows':List (List PV)}{c:Array Value}{e:TypeId}{w':World}
  (hb:s0.σ[b]?=Z (.arr wm _l _f)) (N:_f.length<rows'.length) (_d: ∀row∈rows',row.length=_l)
  (hh:w'.heap=s0.w.heap.push (.cells c e (0,0))) (ho:w'.os=s0.w.os) (hp:w'.output=s0.w.output)
  (H:rows'.length*_l<=c.size)
  (hx: ∀(i j:Nat) row x,rows'[i]?=Z row->row[j]?=Z x-> ∃u,c[i*_l+j]?=Z u/\J08 s0.w s0.g.C x u):
  ∃g',g'.μ b=Z (s0.w.heap.size,0)/\Inv ⟨s0.σ.set b (.arr wm _l rows'),g',w'⟩/\bE s0 ⟨s0.σ.set b (.arr wm _l rows'),g',w'⟩:=by
 have y:(s0.σ.set b (.arr wm _l rows'))[b]?=Z (.arr wm _l rows'):=kD hb;refine⟨⟨λk=>if k=b then Z (s0.w.heap.size,0)else s0.g.μ k,λr o=>s0.g.C r o\/(wm=J/\r=s0.w.heap.size/\o<rows'.length*_l)⟩,if_pos rfl,?_⟩;generalize hs:(⟨s0.σ.set b (.arr wm _l rows'),_,w'⟩:Sn)=s;have E:s.σ=s0.σ.set b (.arr wm _l rows'):=by rw[<-hs]
 have P: ∀k,s.g.μ k=if k=b then Z (s0.w.heap.size,0)else s0.g.μ k:=by grind
 have q: ∀r' o,s.g.C r' o↔s0.g.C r' o\/(wm=J/\r'=s0.w.heap.size/\o<rows'.length*_l):=by rw[<-hs];simp_all
 have K:s.w=w':=by rw[<-hs]
 have wr: ∀k r' o,k≠b->(Wr1 s k r' o↔Wr1 s0 k r' o):=by simp_all [Wr1,Ne.symm]
 have D: ∀r' o,Wr1 s b r' o->r'=s0.w.heap.size/\(wm=J->rows'.length*_l<=o):=(by grind [Wr1]);have t:bE s0 s:=(by refine⟨?_,λr o h=>(q r o).2 (.inl h),λr' o h=>?_,λr o ⟨k,h⟩=>?_,by rw[E];simp,λk cs h=>?_,λk wm' B rows' h=>?_⟩;grind [VI];grind;by_cases n:k=b;grind;exact .inl ⟨k,(wr k r o n).1 h⟩;grind;by_cases n:k=b;subst n;rw[hb]at h;injection h with h;injection h with h1 h2 F;subst h1 h2 F;exact⟨wm,rows',by simp_all,id,by omega,λh=>by omega⟩;grind);refine⟨mU hi t (λk=>k=b) (λk G=>⟨by grind,by simp_all⟩) (λb r o v _ _ h=>by grind [nz]) ?_ ?_ ?_ ?_ ?_ ?_,t⟩;simp_all;rintro k wm' B rows' rfl h;rw[E,y]at h;cases h;refine .inr ⟨s0.w.heap.size,c,e,(0,0),by simp_all,by simp_all,?_,by simp_all,?_,yD.zero _ _⟩;grind;intro i j row x z A;obtain⟨u,M,L⟩:=hx i j row x z A;refine⟨⟨u,M,L.mono hi t⟩,λ_e=>(q _ _).2 (.inr ⟨_e,rfl,?_⟩)⟩;have h1:=JA z;have h2:=JA A;have F:row.length=_l:=(by grind);simp_all [mX];rintro b1 b2 r o rfl h1 h2;by_cases n:b2=b1;exact n.symm;have:=yJ hi _ _ _ ((wr b2 r o n).1 h2);grind;intro r' o hc;rw[K,hh];rcases(q r' o).1 hc with hc|⟨_,hc,_⟩;have:=(hi.const r' o hc).1;simp;omega;simp;omega;rintro r' o k hc rfl h;have h1:=D _ _ h;rcases(q r' o).1 hc with hc|⟨Q,hc,ho⟩;have:=(hi.const r' o hc).1;omega;grind;intro r' o k hc G _c h;rcases(q r' o).1 hc with hc|⟨_,hc,_⟩;exact G hc;have:=yJ hi _ _ _ h;omega
theorem JOo{s0:Sn}(hi:Inv s0){b:Nat}{wm:Bool}{_l:Nat}{_f _m:List (List PV)}{c:Array Value}{e:TypeId}{w':World}
  (hb:s0.σ[b]?=Z (.arr wm _l _f)) (o:_m≠[]) (k: ∀row∈_f,row.length=_l) (n: ∀row∈_m,row.length=_l)
  (hh:w'.heap=s0.w.heap.push (.cells c e (0,0))) (ho:w'.os=s0.w.os) (hp:w'.output=s0.w.output)
  (h:(_f.length+_m.length)*_l<=c.size)
  (hx: ∀(i j:Nat) row x,(_f++_m)[i]?=Z row->row[j]?=Z x-> ∃u,c[i*_l+j]?=Z u/\J08 s0.w s0.g.C x u):
  ∃g',g'.μ b=Z (s0.w.heap.size,0)/\Inv ⟨s0.σ.set b (.arr wm _l (_f++_m)),g',w'⟩/\bE s0 ⟨s0.σ.set b (.arr wm _l (_f++_m)),g',w'⟩:=
 have q:0<_m.length:=List.length_pos_iff.2 o
 JRf hi hb (by simp;omega) (λrow r=>(zQ9.1 r).elim (k row) (n row)) hh ho hp (by simpa using h) hx
end Go.Am
end
section
namespace Go.Am
def okP:PV->Value->Bool| .b x,.bool y=>x==y| .i k n,.int h e=>k==h&&n==e| .s l,.string g=>l==g.data.toList| .sl _ [],.slice Y 0 0=>O| .np,.pointer Y=>O| .nf,.nilFunc=>O|_,_=>J
def AZ:List PV->List Value->Bool|[],[]=>O|x::xs,v::vs=>okP x v&&AZ xs vs|_,_=>J
def okC:AV->Value->Bool| .p c,v=>okP c v| .data cs,.agg vs=>AZ cs vs.toList| .fn f [] [],.func (.func g) a c=>f==g&&a.isEmpty&&c.isEmpty| .tup [],.tuple vs=>vs.isEmpty|_,_=>J
def bP:Opd->Operand->Bool| .t n,.tmp m=>n==m| .c x,.const v=>okC x v| .c (.fn f [] []),.func g=>f==g|_,_=>J
def jL:List Opd->List Operand->Bool|[],[]=>O|x::xs,y::e=>bP x y&&jL xs e|_,_=>J
def yE:Option Opd->Option Operand->Bool|none,Y=>O|some x,Z y=>bP x y|_,_=>J
section
variable (P:Program)
def szT(t:TypeId):Option Nat:=(P.info? t).map (·.size)
def byT(t:TypeId):Option Nat:=(P.info? t).map (·.bytes)
def zeT(t:TypeId):Option Value:=(P.info? t).bind (·.zero)
def BE:TypeDesc->Bool| .struct _| .array _ _=>O|_=>J
def agT(t:TypeId):Option Bool:=(P.underlying t).map BE
def elT(t:TypeId):Option TypeId:=match P.underlying t with|some (.slice e)=>Z e|_=>Y
def lS(t:TypeId):Bool:=match P.underlying t with|some .string=>O|_=>J
def eu(t:TypeId):Bool:=match P.underlying t with|some (.int .u8)=>O|_=>J
def jq(t:TypeId):Bool:=match P.underlying t with|some .bool=>O|_=>J
def u1(t:TypeId):Bool:=match P.underlying t with|some (.int _)=>O|_=>J
def xx(k:IntKind)(t:TypeId):Bool:=match P.underlying t with|some (.int e)=>k==e|_=>J
def arT(t:TypeId):Option (Nat×TypeId):=match P.underlying t with|some (.array n e)=>Z (n,e)|_=>Y
def flT(t:TypeId):Option (Array Field):=match P.underlying t with|some (.struct fs)=>Z fs|_=>Y
def NQ(K:TypeId->Option (List KD)):Nat->List Field->Option (List KD)
 |_,[]=>Z []
 |off,f::fs=>
  if f.name= "_" ∨f.offset≠off then none
  else match K f.type with
   |none=>Y
   |some ks=>if szT P f.type=Z ks.length/\0<ks.length then
    match NQ K (off+ks.length) fs with
    |some l=>Z (ks++l)
    |none=>Y
    else Y
def rN:Nat->TypeId->Option (List KD)
 |0,_=>Y
 |d+1,t=>match P.underlying t with
  |some .bool=>Z [.b]
  |some (.int k)=>Z [.i k]
  |some .string=>Z [.s]
  |some (.struct fs)=>if P.stoodInHeld t then Y else NQ P (rN d) 0 fs.toList
  |some (.array n e)=>match rN d e with|some ks=>if szT P e=Z ks.length/\0<ks.length then Z (_J n ks).flatten else Y|none=>Y
  |_=>Y
def Kf(t:TypeId):Operand->Bool| .const (.slice Y 0 0)=>(elT P t).isSome|_=>J
def L6(t:TypeId):Operand->Bool
 | .const (.pointer Y)=>(match P.underlying t with|some (.pointer _)=>O|_=>J)
 |_=>J
def Iv(t:TypeId):Operand->Bool
 | .const .nilFunc=>(match P.underlying t with|some (.func _ _ _)=>O|_=>J)
 |_=>J
def nY(zero:List PV)(t:TypeId):Bool:=match zeT P t with|some v=>AZ zero v.cells.toList|none=>J
def fo(t:TypeId)(os:List (Nat×Nat)):Bool:=match zeT P t with
 |some v=>os.all λx=>match v.cells[x.1]? with|some (.slice Y 0 0)=>O|_=>J
 |none=>J
def tQ(place:Nat->Option (Nat×Nat)):List (Nat×Nat×Opd)->List (Nat×Operand)->Bool|[],[]=>O|(off,size,x)::r,(i,y)::q=>place i==Z (off,size)&&bP x y&&tQ place r q|_,_=>J
def IE(fs:Array Field)(i:Nat):Option (Nat×Nat):=match fs[i]? with|some f=>(szT P f.type).map λn=>(f.offset,n)|none=>Y
def MP:List (Nat×Opd)->List (Nat×Operand)->Bool|[],[]=>O|(i,x)::r,(j,y)::q=>i==j&&bP x y&&MP r q|_,_=>J
def JZ(D:AOp)(op:Op):Bool:=
 match D with
 | .mv x=>match op with| .move y| .assign y=>bP x y|_=>J
 | .mkarr _ x=>match op with
  | .move (.const (.slice Y 0 0))| .assign (.const (.slice Y 0 0))=>(match x with| .c _=>O|_=>J)
  |_=>J
 | .pick c a b=>match op with| .pick c' E C=>bP c c'&&bP a E&&bP b C|_=>J
 | .newbox zero=>match op with| .alloc t=>nY P zero t|_=>J
 | .box _ x=>match op with| .box _ y=>bP x y|_=>J
 | .build zero parts=>match op with
  | .build t ps=>nY P zero t&&(match P.underlying t with
   |some (.struct fs)=>(fs.all λf=>(szT P f.type).isSome)&&tQ (IE P fs) parts ps.toList
   |some (.array _ e)=>(match szT P e with
    |some n=>tQ (λi=>Z (i*n,n)) parts ps.toList
    |none=>J)
   |_=>J)
  |_=>J
 | .lits _ _l n zero parts=>match op with
  | .buildSlice t len ps=>len==n&&(match elT P t with
   |some e=>szT P e==Z _l&&decide (n*_l<=16777216)&&nY P zero e&&zero.length==_l&&decide (0<_l)&&MP parts ps.toList
   |none=>J)
  |_=>J
 | .load agg size x=>match op with| .load t y=>agT P t==Z agg&&szT P t==Z size&&bP x y&&(agg||size==1)|_=>J
 | .store size x v=>match op with| .store t y u=>szT P t==Z size&&bP x y&&bP v u|_=>J
 | .nilchk x=>match op with| .nilCheck y=>bP x y|_=>J
 | .bin G bt x y=>match op with
  | .binOp z t h o _=>G==z&&bP x h&&(match bt with
   | .plain=>bP y o
   | .bool=>bP y o&&jq P t
   | .flat ks=>bP y o&&rN P 100 t==Z ks&&agT P t==Z O&& !P.eqGuardType P.depth t
   | .nils=>Kf P t o
   | .nilp=>L6 P t o
   | .nilf=>Iv P t o)
  |_=>J
 | .un F x=>match op with| .unOp A _ y=>F==A&&bP x y|_=>J
 | .conv k x=>match op with
  | .convert q dst y=>bP x y&&(match k with
   | .int k=>u1 P q&&xx P k dst
   | .same=>lS P q&&lS P dst
   | ._D=>(match elT P q with|some e=>eu P e&&szT P e==Z 1|none=>J)&&lS P dst
   | .toBytes _=>lS P q&&(match elT P dst with|some e=>eu P e&&szT P e==Z 1|none=>J))
  |_=>J
 | ._E _ _l bytes zero l c=>match op with
  | .makeSlice t H c'=>bP l H&&bP c c'&&(match elT P t with
   |some e=>szT P e==Z _l&&byT P e==Z bytes&&nY P zero e&&zero.length==_l&&decide (0<_l)&&decide (0<bytes)
   |none=>J)
  |_=>J
 | .slice k x lo hi mx=>match op with
  | .slice t h lo' hi' B=>bP x h&&yE lo lo'&&yE hi hi'&&yE mx B&&(match k with
   | .str=>lS P t
   | .sl _l=>(match elT P t with|some e=>szT P e==Z _l|none=>J))
  |_=>J
 | .psuf _l x lo=>match op with
  | .slice t h (Z lo') Y Y=>bP x h&&bP lo lo'&&(match elT P t with|some e=>szT P e==Z _l|none=>J)
  |_=>J
 | .faddr off x=>match op with
  | .fieldAddr t y f=>bP x y&&(match flT P t with
   |some fs=>(match fs[f]? with
    |some f=>f.offset==off&&(match szT P f.type with|some n=>n !=0|none=>J)
    |none=>J)
   |none=>J)
  |_=>J
 | .field agg off size x=>match op with
  | .field t y f=>bP x y&&(match flT P t with
   |some fs=>(match fs[f]? with
    |some f=>f.offset==off&&szT P f.type==Z size&&agT P f.type==Z agg&&(agg||size==1)
    |none=>J)
   |none=>J)
  |_=>J
 | .iaddr _l x i=>match op with
  | .indexAddr t y j=>bP x y&&bP i j&&(match elT P t with|some e=>szT P e==Z _l|none=>J)
  |_=>J
 | .aaddr len _l x i=>match op with
  | .indexAddr t y j=>bP x y&&bP i j&&(match arT P t with|some (n,e)=>n==len&&szT P e==Z _l|none=>J)
  |_=>J
 | .sidx x i=>match op with| .index t y j=>bP x y&&bP i j&&lS P t|_=>J
 | .aidx agg len _l x i=>match op with
  | .index t y j=>bP x y&&bP i j&&(match arT P t with|some (n,e)=>n==len&&szT P e==Z _l&&agT P e==Z agg&&(agg||_l==1)|none=>J)
  |_=>J
 | .extr x i=>match op with| .extract y j=>bP x y&&i==j|_=>J
 | .call f args _=>match op with
  | .call c=>(match c.callee with
   | .value (.func g)=>f==g&&jL args c.args.toList
   |_=>J)
  |_=>J
 | .callv x args _=>match op with
  | .call c=>(match c.callee with
   | .value y=>bP x y&&jL args c.args.toList
   |_=>J)
  |_=>J
 | .len str x=>match op with
  | .call c=>(match c.callee with
   | .builtin .len=>(match c.args.toList,c.argTypes.toList with
    |[y],[t]=>bP x y&&(if str then lS P t else(elT P t).isSome)
    |_,_=>J)
   |_=>J)
  |_=>J
 | .appn _l bytes zero y=>match op with
  | .call c=>(match c.callee with
   | .builtin .append=>(match c.args.toList,c.argTypes.toList with
    |[.const (.slice Y 0 0),o],[t,u]=>bP y o&&((elT P u).isSome||lS P u)&&(match elT P t with
     |some e=>szT P e==Z _l&&byT P e==Z bytes&&nY P zero e&&zero.length==_l&&decide (0<_l)&&decide (0<bytes)
     |none=>J)
    |_,_=>J)
   |_=>J)
  |_=>J
 | .mvn _l zero x=>match op with| .move y| .assign y=>bP x y|_=>J
 | .shr _l zero x hi=>match op with
  | .slice t h Y (Z hi') Y=>bP x h&&bP hi hi'&&(match elT P t with|some e=>szT P e==Z _l|none=>J)
  |_=>J
 | .clr _l zero x=>match op with
  | .call c=>(match c.callee with
   | .builtin .clear=>(match c.args.toList,c.argTypes.toList with
    |[h],[t]=>bP x h&&(match elT P t with
     |some e=>szT P e==Z _l&&nY P zero e&&zero.length==_l
     |none=>J)
    |_,_=>J)
   |_=>J)
  |_=>J
 | .app _l bytes zero x y=>match op with
  | .call c=>(match c.callee with
   | .builtin .append=>(match c.args.toList,c.argTypes.toList with
    |[h,o],[t,u]=>bP x h&&bP y o&&((elT P u).isSome||lS P u)&&(match elT P t with
     |some e=>szT P e==Z _l&&byT P e==Z bytes&&nY P zero e&&zero.length==_l&&decide (0<_l)&&decide (0<bytes)
     |none=>J)
    |_,_=>J)
   |_=>J)
  |_=>J
 | .mm mx x y=>match op with
  | .call c=>(match c.callee with
   | .builtin b=>b==(if mx then .max else .min)&&(match c.args.toList with
    |[h,o]=>bP x h&&bP y o
    |_=>J)
   |_=>J)
  |_=>J
 | .newboxo zero os=>match op with| .alloc t=>nY P zero t&&fo P t os|_=>J
 | .buildo zero parts os=>match op with
  | .build t ps=>nY P zero t&&fo P t os&&(match P.underlying t with
   |some (.struct fs)=>(fs.all λf=>(szT P f.type).isSome)&&tQ (IE P fs) parts ps.toList
   |_=>J)
  |_=>J
 | .storen _ x=>match op with| .store t y (.const (.slice Y 0 0))=>szT P t==Z 1&&bP x y|_=>J
 | .callo f _ args _=>match op with
  | .call c=>(match c.callee with
   | .value (.func g)=>f==g&&jL args c.args.toList
   |_=>J)
  |_=>J
 | .mkfn f first caps=>match op with
  | .makeFunc (.func g) r w=>f==g&&jL first r.toList&&jL caps w.toList
  |_=>J
end
end Go.Am
end
section
namespace Go.Am
def get(s:St):Loc->Option (AV⊕_x)| .slot n=>(lk n s.env).map .inl| .blk b=>(s._o[b]?).map .inr
theorem JMy{α:Type}(m:RM α)(s s':St)(h: ∀l∈m.reads s,get s' l=get s l):m.run s'=m.run s:=by
 induction m with
 |ret a=>rfl
 |slot n k ih=>
  have e:=h (.slot n) (by simp[RM.reads]);grind [get,RM.run,RM.reads]
 |blk b k ih=>
  have e:=h (.blk b) (by simp[RM.reads]);grind [get,RM.run,RM.reads]
 |fail=>rfl
theorem zC{b:Nat}: ∀{ws:List (Nat×_x)},b∉ws.map (·.1)->kN b ws=Y
 |[],_=>rfl
 |(c,x)::r,h=>by
  simp at h;simp only[kN];rw[zC (by simpa using h.2)];grind
theorem Bi{b:Nat}: ∀{ws:List (Nat×_x)},b∈ws.map (·.1)-> ∃y,kN b ws=Z y
 |[],h=>by simp at h
 |(c,x)::r,h=>by
  simp only[kN];by_cases e:b∈r.map (·.1);obtain⟨y,g⟩:=Bi e;simp_all;simp_all [zC]
theorem CU: ∀(ws:List (Nat×_x)) (σ:List _x),(upd ws σ).length=σ.length|[],_=>rfl|y::ws,σ=>by show(upd ws (σ.set y.1 y.2)).length=_;rw[CU ws];simp
theorem yQ: ∀(ws:List (Nat×_x)) (σ:List _x) (b:Nat),b<σ.length->(upd ws σ)[b]?=match kN b ws with
  |some y=>Z y
  |none=>σ[b]?
 |[],σ,b,_=>rfl
 |(c,x)::ws,σ,b,h=>by
  show(upd ws (σ.set c x))[b]?=_;rw[yQ ws (σ.set c x) b (by simpa using h)];grind [kN]
structure Run(F:Orc)(ins:List bX)(_m:Nat->Nat)(S:Nat->St)(eff:Nat->Eff):Prop where
 step: ∀k i,ins[k]?=Z i->(bZ F i (_m k)).run (S k)=Z (eff k)/\S (k+1)=put i.dst (eff k) (S k)
structure fj(F:Orc)(ins:List bX)(_m:Nat->Nat)(S:Nat->St)(eff:Nat->Eff)(i j:Nat):Prop where
 slotW: ∀x y m,ins[i]?=Z x->ins[j]?=Z y->x.dst=Z m->y.dst≠Z m/\Loc.slot m∉(bZ F y (_m j)).reads (S j)
 slotR: ∀x y m,ins[i]?=Z x->ins[j]?=Z y->y.dst=Z m->Loc.slot m∉(bZ F x (_m i)).reads (S i)
 blkW: ∀y b,ins[j]?=Z y->b∈(eff i).ws.map (·.1)->b∉(eff j).ws.map (·.1)/\Loc.blk b∉(bZ F y (_m j)).reads (S j)
 blkR: ∀x b,ins[i]?=Z x->b∈(eff j).ws.map (·.1)->Loc.blk b∉(bZ F x (_m i)).reads (S i)
section
variable {F:Orc} {ins:List bX} {_m:Nat->Nat} {S:Nat->St} {eff:Nat->Eff}
def yC(ins:List bX)(k:Nat):Option Nat:=(ins[k]?).bind (·.dst)
def rK(ins:List bX)(eff:Nat->Eff)(s0:St)(D:Nat->Bool):Nat->Nat->Option AV|0,m=>lk m s0.env|k+1,m=>if D k=O/\yC ins k=Z m then Z (eff k).val else rK ins eff s0 D k m
def pQ(eff:Nat->Eff)(s0:St)(D:Nat->Bool):Nat->Nat->Option _x
 |0,b=>s0._o[b]?
 |k+1,b=>if D k=O then(match kN b (eff k).ws with
  |some y=>Z y
  |none=>pQ eff s0 D k b)else pQ eff s0 D k b
structure Agree(ins:List bX)(eff:Nat->Eff)(s0:St)(D:Nat->Bool)(s:St):Prop where
 slot: ∀m,lk m s.env=rK ins eff s0 D ins.length m
 len:s._o.length=s0._o.length
 blk: ∀b,b<s0._o.length->s._o[b]?=pQ eff s0 D ins.length b
theorem UH(hr:Run F ins _m S eff): ∀k,k<=ins.length->(S k)._o.length=(S 0)._o.length
 |0,_=>rfl
 |k+1,h=>by
  have hk:ins[k]?=Z ins[k]:=aZ (by omega);obtain⟨_,h2⟩:=hr.step k _ hk;rw[h2,<-UH hr k (by omega)];unfold put;grind [CU]
theorem nm(hr:Run F ins _m S eff)(D:Nat->Bool): ∀k,k<=ins.length->(∀j,j<k->D j=O)-> ∀m,rK ins eff (S 0) D k m=lk m (S k).env
 |0,_,_,m=>rfl
 |k+1,h,hD,m=>by
  have hk:ins[k]?=Z ins[k]:=aZ (by omega);obtain⟨_,h2⟩:=hr.step k _ hk;simp only[rK];rw[nm hr D k (by omega) (λj e=>hD j (by omega)) m,h2];have hd:yC ins k=ins[k].dst:=by grind [yC]
  rw[hd];unfold put;grind [lk]
theorem k0(hr:Run F ins _m S eff)(D:Nat->Bool): ∀k,k<=ins.length->(∀j,j<k->D j=O)-> ∀b,b<(S 0)._o.length->pQ eff (S 0) D k b=(S k)._o[b]?
 |0,_,_,b,_=>rfl
 |k+1,h,hD,b,hb=>by
  have hk:ins[k]?=Z ins[k]:=aZ (by omega);obtain⟨_,h2⟩:=hr.step k _ hk;simp only[pQ];rw[k0 hr D k (by omega) (λj e=>hD j (by omega)) b hb,h2,if_pos (hD k (by omega))];have:(put ins[k].dst (eff k) (S k))._o=upd (eff k).ws (S k)._o:=by unfold put;split<;>rfl
  rw[this,yQ _ _ _ (by rw[UH hr k (by omega)];exact hb)]
theorem n8{s0:St}{D D':Nat->Bool}{m:Nat}: ∀n,(∀j,j<n->yC ins j=Z m->D j=D' j)->rK ins eff s0 D n m=rK ins eff s0 D' n m
 |0,_=>rfl
 |n+1,h=>by
  simp only[rK];rw[n8 n λj e=>h j (by omega)];grind
theorem n4{s0:St}{D D':Nat->Bool}{b:Nat}: ∀n,(∀j,j<n->b∈(eff j).ws.map (·.1)->D j=D' j)->pQ eff s0 D n b=pQ eff s0 D' n b
 |0,_=>rfl
 |n+1,h=>by
  simp only[pQ];rw[n4 n λj e=>h j (by omega)];grind [zC]
theorem VC{s0:St}{D:Nat->Bool}{m k:Nat}: ∀n,k<=n->(∀j,k<=j->j<n->yC ins j=Z m->D j=J)->rK ins eff s0 D n m=rK ins eff s0 D k m
 |0,h,_=>by simp_all
 |n+1,h,hD=>by
  by_cases hk:k=n+1;subst hk;rfl;simp only[rK];rw[VC n (by omega) λj h1 h2=>hD j h1 (by omega)];grind
theorem UK{s0:St}{D:Nat->Bool}{b k:Nat}: ∀n,k<=n->(∀j,k<=j->j<n->b∈(eff j).ws.map (·.1)->D j=J)->pQ eff s0 D n b=pQ eff s0 D k b
 |0,h,_=>by simp_all
 |n+1,h,hD=>by
  by_cases hk:k=n+1;subst hk;rfl;simp only[pQ];rw[UK n (by omega) λj h1 h2=>hD j h1 (by omega)];grind [zC]
theorem JOV(hr:Run F ins _m S eff){D:Nat->Bool}{s:St}(ha:Agree ins eff (S 0) D s){k:Nat}{i:bX}(hk:ins[k]?=Z i)(G:D k=J)
  (q: ∀j,j<k->D j=J->fj F ins _m S eff j k) (h: ∀j,k<j->j<ins.length->D j=O->fj F ins _m S eff k j):
  (bZ F i (_m k)).run s=Z (eff k)/\Agree ins eff (S 0) (λj=>if j=k then O else D j) (put i.dst (eff k) s):=by
 have B:k<ins.length:=(by grind);have g: ∀j,j<ins.length->ins[j]?=Z ins[j]! :=λj o=>by simp[o]
 have w: ∀j,j<ins.length->yC ins j=ins[j]!.dst:=λj o=>by grind [yC]
 obtain⟨h1,h2⟩:=hr.step k i hk;have E:yC ins k=i.dst:=by simp_all
 let T:Nat->Bool:=λ_=>O
 have reads: ∀l∈(bZ F i (_m k)).reads (S k),get s l=get (S k) l:=by
  intro l z;cases l with
  |slot m=>
   simp only[get];rw[ha.slot m]
   congr 1
   rw[VC ins.length (k:=k) (by omega) λj r e hd=>?_];rw[n8 (D':=T) k λj o hd=>?_,nm hr T k (by omega) (λ_ _=>rfl) m];cases hDj:D j with
   |true=>rfl
   |false=>have:=(q j o hDj).slotW _ i m (g j (by omega)) hk (by grind);simp_all
   by_cases n:j=k;simp_all;cases hDj:D j with
   |false=>rfl
   |true=>have:=(h j (by omega) e hDj).slotR i _ m hk (g j e) (by simp_all);simp_all
  |blk b=>
   simp only[get];by_cases hb:b<(S 0)._o.length;rw[ha.blk b hb]
   congr 1
   rw[UK ins.length (k:=k) (by omega) λj r e hd=>?_];rw[n4 (D':=T) k λj o hd=>?_,k0 hr T k (by omega) (λ_ _=>rfl) b hb];cases hDj:D j with
   |true=>rfl
   |false=>exact absurd z ((q j o hDj).blkW i b hk hd).2
   by_cases n:j=k;simp_all;cases hDj:D j with
   |false=>rfl
   |true=>exact absurd z ((h j (by omega) e hDj).blkR i b hk hd)
   rw[nT (by have:=ha.len;omega),nT (by have:=UH hr k (by omega);omega)]
 refine⟨by grind [JMy],?_,?_,?_⟩;intro m;have v:lk m (put i.dst (eff k) s).env=if i.dst=Z m then Z (eff k).val else lk m s.env:=(by unfold put;grind [lk])
 rw[v,ha.slot m];by_cases A:i.dst=Z m;rw[if_pos A];rw[VC ins.length (k:=k+1) (by omega) λj r e hd=>?_];grind [rK];have n:j≠k:=by omega
 simp only[if_neg n];cases hDj:D j with
 |false=>rfl
 |true=>have:=(h j (by omega) e hDj).slotW i _ m hk (g j e) A;simp_all
 grind [n8];have:(put i.dst (eff k) s)._o=upd (eff k).ws s._o:=by unfold put;split<;>rfl
 rw[this,CU,ha.len];intro b hb;have:(put i.dst (eff k) s)._o=upd (eff k).ws s._o:=by unfold put;split<;>rfl
 rw[this,yQ _ _ _ (by rw[ha.len];exact hb),ha.blk b hb];by_cases x:b∈(eff k).ws.map (·.1);obtain⟨y,C⟩:=Bi x;simp only[C];rw[UK (D:=λj=>if j=k then O else D j) ins.length (k:=k+1) (by omega) λj r e hd=>?_];grind [pQ];have n:j≠k:=by omega
 simp only[if_neg n];cases hDj:D j with
 |false=>rfl
 |true=>exact absurd hd ((h j (by omega) e hDj).blkW _ b (g j e) x).1
 grind [zC,n4]
theorem JH9:Agree ins eff (S 0) (λ_=>J) (S 0):=by
 refine⟨λm=>?_,rfl,λb _=>?_⟩;rw[VC ins.length (k:=0) (zQ2 _) λ_ _ _ _=>rfl];rfl;rw[UK ins.length (k:=0) (zQ2 _) λ_ _ _ _=>rfl];rfl
theorem JLT(hr:Run F ins _m S eff){D:Nat->Bool}{s:St}(ha:Agree ins eff (S 0) D s)(hD: ∀j,j<ins.length->D j=O):
  (∀m,lk m s.env=lk m (S ins.length).env)/\s._o=(S ins.length)._o:=by
 refine⟨λm=>by rw[ha.slot m,nm hr D _ (zQ0 _) hD m],zQ6 λb=>?_⟩;by_cases hb:b<(S 0)._o.length;rw[ha.blk b hb,k0 hr D _ (zQ0 _) hD b hb];rw[nT (by have:=ha.len;omega),nT (by have:=UH hr _ (zQ0 _);omega)]
end
end Go.Am
end
section
namespace Go.Am
def oSl:Opd->List Nat| .t n=>[n]| .c _=>[]
def jC:List Opd->List Nat|[]=>[]|x::r=>oSl x++jC r
def ef:Option Opd->List Nat|none=>[]|some x=>oSl x
def dD:AOp->List Nat| .mv x| .box _ x| .appn _ _ _ x| .clr _ _ x| .mvn _ _ x| .load _ _ x| .nilchk x| .un _ x| .conv _ x| .faddr _ x| .field _ _ _ x| .extr x _| .len _ x=>oSl x| .mkarr _ _| .newbox _=>[]| .pick c a b=>oSl c++(oSl a++oSl b)| .build _ parts=>jC (parts.map (·.2.2))| .lits _ _ _ _ parts=>jC (parts.map (·.2))| .store _ x v=>oSl x++oSl v| .bin _ _ x y| .iaddr _ x y| .aaddr _ _ x y| .sidx x y| .aidx _ _ _ x y| .app _ _ _ x y| .mm _ x y| ._E _ _ _ _ x y| .psuf _ x y| .shr _ _ x y=>oSl x++oSl y| .slice _ x lo hi mx=>oSl x++(ef lo++(ef hi++ef mx))| .call _ args _=>jC args| .callv g args _=>oSl g++jC args| .mkfn _ a b=>jC a++jC b| .newboxo _ _=>[]| .buildo _ parts _=>jC (parts.map (·.2.2))| .storen _ x=>oSl x| .callo _ _ args _=>jC args
def yX(i:bX):List Nat:=dD i.op++match i.g with|some (g,_)=>[g]|none=>[]
def AR:AOp->Bool| .mkarr _ _| .newbox _| .box _ _| .lits _ _ _ _ _| .store _ _ _| .conv (.toBytes _) _| ._E _ _ _ _ _ _| .slice (.sl _) _ _ _ _| .call _ _ _| .callv _ _ _| .app _ _ _ _ _| .appn _ _ _ _| .newboxo _ _| .buildo _ _ _| .storen _ _| .callo _ _ _ _| .psuf _ _ _| .shr _ _ _ _| .clr _ _ _| .mvn _ _ _=>O|_=>J
def PZ:AOp->Bool| .load _ _ _| .iaddr _ _ _| .conv ._D _=>O|op=>AR op
def Sl{α:Type}(L:List Nat)(m:RM α):Prop:= ∀s n,Loc.slot n∈m.reads s->n∈L
section
variable {α β:Type} {L:List Nat}
theorem bK(a:α):Sl L (.ret a):=λs n h=>by grind [RM.reads]
theorem bW:Sl L (.fail:RM α):=λs n h=>by grind [RM.reads]
theorem mW{b:Nat}{k:_x->RM α}(h: ∀v,Sl L (k v)):Sl L (.blk b k):=λs n e=>by
 simp only[RM.reads,bS]at e;rcases e with e|e;cases e;split at e;exact h _ s n e;simp at e
theorem Oi{m:Nat}{k:AV->RM α}(hm:m∈L)(h: ∀v,Sl L (k v)):Sl L (.slot m k):=λs n e=>by
 simp only[RM.reads,bS]at e;rcases e with e|e;simp_all;split at e;exact h _ s n e;simp at e
theorem Jv{m:RM α}{f:α->RM β}(h:Sl L m)(hf: ∀a,Sl L (f a)):Sl L (m.bind f):=λs n e=>by
 rw[zE,zQ9]at e;rcases e with e|e;exact h s n e;cases hr:m.run s with
 |none=>simp[hr]at e
 |some a=>simp[hr]at e;exact hf a s n e
theorem JRq{L':List Nat}{m:RM α}(h:Sl L m)(hl: ∀x∈L,x∈L'):Sl L' m:=λs n e=>hl n (h s n e)
theorem wc{c:Prop} [Decidable c]{x y:RM α}(hx:Sl L x)(hy:Sl L y):Sl L (if c then x else y):=by grind
end
theorem cJ{L:List Nat}(x:Opd)(h: ∀n∈oSl x,n∈L):Sl L (ev x):=by
 cases x with
 |t n=>exact Oi (h n (by simp[oSl])) λv=>bK v
 |c v=>exact bK v
theorem HY{L:List Nat}: ∀(xs:List Opd),(∀n∈jC xs,n∈L)->Sl L (evs xs)|[],_=>bK _|x::xs,h=>Jv (cJ x λn e=>h n (by simp[jC,e])) λv=>Jv (HY xs λn e=>h n (by simp[jC,e])) λvs=>bK _
theorem wu{L:List Nat}(x:Option Opd)(h: ∀n∈ef x,n∈L):Sl L (evo x):=by
 cases x with
 |none=>exact bK _
 |some x=>exact Jv (cJ x h) λv=>bK _
theorem qE{L:List Nat}(x:Option AV):Sl L (val x):=by cases x<;>first|exact bW|exact bK _
theorem JTe{L:List Nat}(x:AV):Sl L (fz.fz1 x):=by
 cases x<;>try exact bW
 exact bK _;refine mW λv=>?_;grind [bW,bK]
theorem Nd{L:List Nat}: ∀(xs:List AV),Sl L (fz.fzL xs)|[]=>bK _|x::xs=>Jv (JTe x) λ_=>Jv (Nd xs) λ_=>bK _
theorem LY{L:List Nat}(x:AV):Sl L (fz x):=by
 cases x<;>try first|exact bW|exact bK _
 exact Nd _;refine mW λv=>?_;grind [bW,bK]
theorem Nr{L:List Nat}: ∀(xs:List Opd),(∀n∈jC xs,n∈L)->Sl L (fzs xs)|[],_=>bK _|x::xs,h=>Jv (cJ x λn e=>h n (by simp[jC,e])) λv=>Jv (LY v) λ_=>Jv (Nr xs λn e=>h n (by simp[jC,e])) λ_=>bK _
theorem n0{L:List Nat}(_l:Nat)(x:AV):Sl L (gO _l x):=by
 unfold gO;grind [bK,bW,mW]
theorem JNr{L:List Nat}(agg:Bool)(size:Nat)(x:AV):Sl L (iD agg size x):=by
 unfold iD;split
 all_goals grind [qE,bW,mW]
theorem Af{L:List Nat}(size:Nat)(x v:AV):Sl L (jE size x v):=by
 unfold jE;split;grind [mW,bW,bK];refine mW λv=>?_;grind [bW,Jv,LY,bK];simp[bW]
theorem JLN{L:List Nat}(_l:Nat)(x i:AV):Sl L (mS _l x i):=by
 unfold mS;grind [bW,bK,mW]
theorem JRu{L:List Nat}(_l bytes:Nat)(x y:AV):Sl L (kJ _l bytes x y):=by
 unfold kJ;grind [mW,bW,Jv,n0,bK]
theorem UE{L:List Nat}(ws:List (Nat×_x))(b:Nat):Sl L (sY ws b):=
 mW λv=>by grind [bK]
theorem IK{L:List Nat}(ws:List (Nat×_x)): ∀(es acc:List _A),Sl L (eR ws es acc)
 |[],acc=>bK _
 | .whole b::r,acc=>Jv (UE ws b) λv=>by cases v<;>exact IK ws r _
 | .elem b e i::r,acc=>IK ws r acc
theorem j5{L:List Nat}(x:AV):Sl L (kH x):=by
 cases x<;>try first|exact bW|exact bK _
 exact Jv (LY _) λ_=>bK _;refine Jv (LY _) λa=>?_;grind [bK,bW]
theorem S5{L:List Nat}: ∀(xs:List AV),Sl L (lN xs)|[]=>bK _|x::xs=>Jv (j5 x) λ_=>Jv (S5 xs) λ_=>bK _
theorem JPi{L:List Nat}(ws:List (Nat×_x))(ρ:_A->Option Nat)(e:_A):Sl L (BU ws ρ e):=by
 cases e with
 |whole b=>
  refine Jv (UE ws b) λv=>?_;grind [bW,bK]
 |elem b e i=>
  refine Jv (UE ws b) λv=>?_;grind [bW,bK]
theorem nq{L:List Nat}(ws:List (Nat×_x))(ρ:_A->Option Nat): ∀(es:List _A),Sl L (lZ ws ρ es)|[]=>bK _|e::r=>Jv (JPi ws ρ e) λ_=>Jv (nq ws ρ r) λ_=>bK _
theorem JLP{L:List Nat}(ws:List (Nat×_x))(es:List _A)(_m:Nat)(e:_A)(x:_x):Sl L (vP ws es _m e x):=by
 unfold vP;grind [bK,bW,Jv,UE]
theorem oc{L:List Nat}(ws:List (Nat×_x))(es:List _A)(_m:Nat): ∀(e:List _A) (x:List _x),Sl L (jT ws es _m e x)|[],_=>bK _|_::_,[]=>bW|e::r,x::l=>Jv (JLP ws es _m e x) λ_=>Jv (oc ws es _m r l) λ_=>bK _
theorem Q6{L:List Nat}(F:Orc)(f:FuncId)(args:List AV)(k _m:Nat):Sl L (jD F f args k _m):=by
 unfold jD;refine Jv (S5 _) λa=>Jv (IK _ _ _) λe=>Jv (IK _ _ _) λes=>wc ?_ bW;split
 all_goals grind [bW,Jv,nq,oc,bK]
theorem JLS{L:List Nat}(F:Orc)(f:FuncId)(a:List AV×List (Nat×_x))(k _m:Nat):Sl L (gM F f a k _m):=by
 unfold gM;refine Jv (IK _ _ _) λe=>Jv (IK _ _ _) λes=>wc ?_ bW;split
 all_goals grind [bW,Jv,nq,oc,bK]
theorem UX{L:List Nat}: ∀(m:List Bool) (xs:List AV),Sl L (fY m xs)
 |_,[]=>by cases ‹List Bool›<;>exact bK _
 |[],x::xs=>Jv (j5 x) λ_=>Jv (UX [] xs) λ_=>bK _
 |true::m,x::xs=>Jv (UX m xs) λ_=>bK _
 |false::m,x::xs=>Jv (j5 x) λ_=>Jv (UX m xs) λ_=>bK _
theorem na{L:List Nat}: ∀(xs:List (Nat×Nat×Opd)),(∀n∈jC (xs.map (·.2.2)),n∈L)->Sl L (lW xs)
 |[],_=>bK _
 |(a,b,x)::xs,h=>by
  unfold lW;refine Jv (cJ x λn e=>h n (by simp[jC,e])) λv=>?_;split;exact Jv (na xs λn e=>h n (by simp[jC,e])) λ_=>bK _;simp[bW]
theorem JTh(F:Orc)(op:AOp)(_m:Nat):Sl (dD op) (_z F op _m):=by
 cases op with
 |mv x=>exact Jv (cJ x λn h=>h) λv=>bK _
 |mkarr=>exact bK _
 |appn _l bytes zero y=>exact Jv (cJ y λn h=>h) λv=>Jv (n0 _ _) λ_=>wc (bK _) bW
 |pick c a b=>
  refine Jv (cJ c λn h=>by grind [dD]) λv=>?_;grind [Jv,cJ,dD,bK,bW]
 |newbox=>exact bK _
 |box size x=>
  refine Jv (cJ x λn h=>h) λv=>?_;grind [bK,bW]
 |build zero parts=>
  refine Jv (na parts λn h=>h) λv=>?_;grind [qE,bW]
 |lits own _l n zero parts=>
  refine Jv (Nr _ λn h=>h) λv=>?_;grind [bK,bW]
 |load agg size x=>exact Jv (cJ x λn h=>h) λv=>JNr _ _ _
 |store size x y=>exact Jv (cJ x λn h=>by grind [dD]) λv=>Jv (cJ y λn h=>by grind [dD]) λ_=>Af _ _ _
 |nilchk x=>
  refine Jv (cJ x λn h=>h) λv=>?_;grind [bK,bW]
 |bin op t x y=>exact Jv (cJ x λn h=>by grind [dD]) λv=>Jv (cJ y λn h=>by grind [dD]) λ_=>qE _
 |un op x=>exact Jv (cJ x λn h=>h) λv=>qE _
 |conv k x=>
  refine Jv (cJ x λn h=>h) λv=>?_;grind [bK,Jv,n0,bW]
 |_E own _l bytes zero x y=>
  refine Jv (cJ x λn h=>by grind [dD]) λv=>Jv (cJ y λn h=>by grind [dD]) λu=>?_;grind [bK,bW]
 |slice k x lo hi mx=>
  refine Jv (cJ x λn h=>by grind [dD]) λv=>Jv (wu lo λn h=>by grind [dD]) λ_=>Jv (wu hi λn h=>by grind [dD]) λ_=>Jv (wu mx λn h=>by grind [dD]) λ_=>?_;grind [Jv,LY,bK,bW,qE]
 |faddr off x=>exact Jv (cJ x λn h=>h) λv=>qE _
 |field agg off size x=>exact Jv (cJ x λn h=>h) λv=>qE _
 |iaddr _l x y=>exact Jv (cJ x λn h=>by grind [dD]) λv=>Jv (cJ y λn h=>by grind [dD]) λ_=>JLN _ _ _
 |aaddr len _l x y=>exact Jv (cJ x λn h=>by grind [dD]) λv=>Jv (cJ y λn h=>by grind [dD]) λ_=>qE _
 |sidx x y=>
  refine Jv (cJ x λn h=>by grind [dD]) λv=>Jv (cJ y λn h=>by grind [dD]) λu=>?_;grind [bW,bK]
 |aidx agg len _l x y=>
  refine Jv (cJ x λn h=>by grind [dD]) λv=>Jv (cJ y λn h=>by grind [dD]) λu=>?_;grind [qE,bW]
 |extr x i=>exact Jv (cJ x λn h=>h) λv=>qE _
 |call f args k=>exact Jv (HY args λn h=>h) λv=>Q6 _ _ _ _ _
 |callv g args k=>
  refine Jv (cJ g λn h=>by grind [dD]) λv=>?_;grind [bW,Jv,HY,dD,Q6]
 |len str x=>exact Jv (cJ x λn h=>h) λv=>qE _
 |psuf _l x y=>
  refine Jv (cJ x λn h=>by grind [dD]) λv=>Jv (cJ y λn h=>by grind [dD]) λc=>?_;unfold vA;split;refine mW λv=>?_;split;split<;>first|exact bK _|exact bW
  exact bW;exact bW
 |shr _l zero x y=>
  refine Jv (cJ x λn h=>by grind [dD]) λv=>Jv (cJ y λn h=>by grind [dD]) λc=>?_;unfold QO;split;refine mW λv=>?_;split;split<;>first|exact bK _|exact bW
  exact bW;exact bW
 |mvn _l zero x=>
  refine Jv (cJ x λn h=>by grind [dD]) λv=>?_;unfold PH;split;refine mW λv=>?_;split;split<;>first|exact bK _|exact bW
  exact bW;exact bW
 |clr _l zero x=>
  refine Jv (cJ x λn h=>by grind [dD]) λv=>?_;unfold PT;split;refine mW λv=>?_;split;split<;>first|exact bK _|exact bW
  exact bW;exact bW
 |app _l bytes zero x y=>exact Jv (cJ x λn h=>by grind [dD]) λv=>Jv (cJ y λn h=>by grind [dD]) λ_=>JRu _ _ _ _
 |mm mx x y=>exact Jv (cJ x λn h=>by grind [dD]) λv=>Jv (cJ y λn h=>by grind [dD]) λ_=>qE _
 |mkfn f a b=>exact Jv (HY a λn h=>by grind [dD]) λv=>Jv (HY b λn h=>by grind [dD]) λ_=>bK _
 |newboxo=>exact bK _
 |buildo zero parts os=>
  refine Jv (na parts λn h=>h) λv=>?_;grind [bK,bW]
 |storen _l x=>exact Jv (cJ x λn h=>h) λv=>Jv (Af _ _ _) λ_=>bK _
 |callo f keep args k=>exact Jv (HY args λn h=>h) λv=>Jv (UX _ _) λ_=>JLS _ _ _ _ _
theorem S6{L:List Nat}: ∀(k _m:Nat),Sl L (vL _m k)|0,_=>bK _|k+1,_m=>mW λv=>by cases v<;>first|exact S6 k _|exact bW
theorem Qk(F:Orc)(i:bX)(_m:Nat):Sl (yX i) (bZ F i _m):=by
 have h:Sl (yX i) (opD F i.op _m):=Jv (S6 _ _) λ_=>JRq (JTh F i.op _m) λx e=>by grind [yX]
 grind [bZ,Oi,yX,bK,bW]
end Go.Am
end
section
namespace Go.Am
def W0(m:RM Eff):Prop:= ∀s e,m.run s=Z e->e.ws=[]
def B0{α:Type}(m:RM α):Prop:= ∀s e,m.run s=Z e-> ∀b,Loc.blk b∉m.reads s
theorem qF(x:Option AV):W0 (val x):=λs e h=>by cases x<;>grind [val,RM.run]
theorem tJ(v:AV):W0 (.ret ⟨v,[]⟩):=λs e h=>by grind [RM.run]
theorem tO:W0 .fail:=λs e h=>by cases h
theorem dY{α:Type}{m:RM α}{f:α->RM Eff}(h: ∀a,W0 (f a)):W0 (m.bind f):=λs e g=>by
 rw[run_bind]at g;cases hm:m.run s with
 |none=>simp_all
 |some a=>rw[hm]at g;exact h a s e g
theorem Nt{b:Nat}{k:_x->RM Eff}(h: ∀v,W0 (k v)):W0 (.blk b k):=λs e g=>by
 simp only[RM.run]at g;split at g;exact h _ s e g;cases g
theorem JR3{g:Nat}{k:AV->RM Eff}(h: ∀v,W0 (k v)):W0 (.slot g k):=λs e j=>by
 simp only[RM.run]at j;split at j;exact h _ s e j;cases j
theorem jP{α:Type}(a:α):B0 (.ret a):=λs e _ b h=>by grind [RM.reads]
theorem vV{α:Type}:B0 (.fail:RM α):=λs e h=>by cases h
theorem rW(x:Option AV):B0 (val x):=by cases x<;>first|exact vV|exact jP _
theorem dQ{α β:Type}{m:RM α}{f:α->RM β}(hm:B0 m)(h: ∀a,B0 (f a)):B0 (m.bind f):=λs e g b hb=>by
 rw[run_bind]at g;rw[zE]at hb;cases hr:m.run s with
 |none=>simp_all
 |some a=>
  rw[hr]at g hb;rcases zQ9.1 hb with hb|hb;exact hm s a hr b hb;exact h a s e g b (by simpa using hb)
theorem fK(x:Opd):B0 (ev x):=by
 cases x with
 |t n=>exact λs e _ b h=>by grind [ev,RM.reads]
 |c v=>exact jP _
theorem JS0{α:Type}{g:Nat}{k:AV->RM α}(h: ∀v,B0 (k v)):B0 (.slot g k):=λs e j b hb=>by
 simp only[RM.run]at j;simp only[RM.reads,bS]at hb;rcases hb with hb|hb;cases hb;cases hl:lk g s.env with
 |none=>simp_all
 |some v=>rw[hl]at j hb;exact h v s e j b hb
theorem x8: ∀xs:List Opd,B0 (evs xs)|[]=>jP _|x::xs=>dQ (fK x) λ_=>dQ (x8 xs) λ_=>jP _
theorem wx(x:Option Opd):B0 (evo x):=by
 cases x with
 |none=>exact jP _
 |some x=>exact dQ (fK x) λ_=>jP _
theorem An: ∀(xs:List (Nat×Nat×Opd)),B0 (lW xs)
 |[]=>jP _
 |(a,b,x)::xs=>by
  unfold lW;refine dQ (fK x) λv=>?_;split;exact dQ (An xs) λ_=>jP _;simp[vV]
theorem Qr(lo hi mx:Option AV)(c:PV)(hc: ∀l,c≠.s l):lX .str (.p c) lo hi mx=Y:=by
 cases mx with
 |some _=>rfl
 |none=>cases c<;>first|rfl|simp_all
theorem JSY(F:Orc)(op:AOp)(_m:Nat)(h:AR op=J):W0 (_z F op _m):=by
 cases op with
 |mkarr=>cases h
 |newboxo=>cases h
 |buildo=>cases h
 |storen=>cases h
 |callo=>cases h
 |newbox=>cases h
 |box=>cases h
 |lits=>cases h
 |store=>cases h
 |_E=>cases h
 |call=>cases h
 |callv=>cases h
 |app=>cases h
 |psuf=>cases h
 |shr=>cases h
 |clr=>cases h
 |mvn=>cases h
 |appn=>cases h
 |mv x=>exact dY λ_=>tJ _
 |pick c a b=>
  refine dY λv=>?_;grind [dY,tJ,tO]
 |build zero parts=>
  refine dY λv=>?_;grind [qF,tO]
 |load agg size x=>
  refine dY λv=>?_;unfold iD;split
  all_goals grind [qF,tO,Nt]
 |nilchk x=>
  refine dY λv=>?_;grind [tJ,tO]
 |bin op t x y=>exact dY λ_=>dY λ_=>qF _
 |un op x=>exact dY λ_=>qF _
 |conv k x=>
  refine dY λv=>?_;split;exact tJ _;exact tJ _;grind [dY,tJ,tO];cases h;simp[tO]
 |slice k x lo hi mx=>
  cases k with
  |sl _l=>cases h
  |str=>
   refine dY λv=>dY λ_=>dY λ_=>dY λ_=>?_;split;rename_i b i n;intro s e g;exfalso;rw[run_bind]at g;cases h1:(fz (._r b i n)).run s<;>grind [fz,RM.run,Qr]
   simp[qF]
 |faddr off x=>exact dY λ_=>qF _
 |field agg off size x=>exact dY λ_=>qF _
 |iaddr _l x y=>
  refine dY λv=>dY λu=>?_;unfold mS;grind [tO,tJ,Nt]
 |aaddr len _l x y=>exact dY λ_=>dY λ_=>qF _
 |sidx x y=>
  refine dY λv=>dY λu=>?_;grind [tO,tJ]
 |aidx agg len _l x y=>
  refine dY λv=>dY λu=>?_;grind [qF,tO]
 |extr x i=>exact dY λ_=>qF _
 |len str x=>exact dY λ_=>qF _
 |mm mx x y=>exact dY λ_=>dY λ_=>qF _
 |mkfn f a b=>exact dY λ_=>dY λ_=>tJ _
theorem JTL(F:Orc)(op:AOp)(_m:Nat)(h:PZ op=J):B0 (_z F op _m):=by
 cases op with
 |mkarr=>cases h
 |newboxo=>cases h
 |buildo=>cases h
 |storen=>cases h
 |callo=>cases h
 |newbox=>cases h
 |box=>cases h
 |lits=>cases h
 |store=>cases h
 |_E=>cases h
 |call=>cases h
 |callv=>cases h
 |app=>cases h
 |psuf=>cases h
 |shr=>cases h
 |clr=>cases h
 |mvn=>cases h
 |appn=>cases h
 |load=>cases h
 |iaddr=>cases h
 |mv x=>exact dQ (fK x) λ_=>jP _
 |pick c a b=>
  refine dQ (fK c) λv=>?_;grind [dQ,fK,jP,vV]
 |build zero parts=>
  refine dQ (An parts) λv=>?_;grind [rW,vV]
 |nilchk x=>
  refine dQ (fK x) λv=>?_;grind [jP,vV]
 |bin op t x y=>exact dQ (fK x) λ_=>dQ (fK y) λ_=>rW _
 |un op x=>exact dQ (fK x) λ_=>rW _
 |conv k x=>
  refine dQ (fK x) λv=>?_;split;exact jP _;exact jP _;cases h;cases h;simp[vV]
 |slice k x lo hi mx=>
  cases k with
  |sl _l=>cases h
  |str=>
   refine dQ (fK x) λv=>dQ (wx lo) λ_=>dQ (wx hi) λ_=>dQ (wx mx) λ_=>?_;split;rename_i b i n;intro s e g;exfalso;rw[run_bind]at g;cases h1:(fz (._r b i n)).run s<;>grind [fz,RM.run,Qr]
   simp[rW]
 |faddr off x=>exact dQ (fK x) λ_=>rW _
 |field agg off size x=>exact dQ (fK x) λ_=>rW _
 |aaddr len _l x y=>exact dQ (fK x) λ_=>dQ (fK y) λ_=>rW _
 |sidx x y=>
  refine dQ (fK x) λv=>dQ (fK y) λu=>?_;grind [vV,jP]
 |aidx agg len _l x y=>
  refine dQ (fK x) λv=>dQ (fK y) λu=>?_;grind [rW,vV]
 |extr x i=>exact dQ (fK x) λ_=>rW _
 |len str x=>exact dQ (fK x) λ_=>rW _
 |mm mx x y=>exact dQ (fK x) λ_=>dQ (fK y) λ_=>rW _
 |mkfn f a b=>exact dQ (x8 a) λ_=>dQ (x8 b) λ_=>jP _
theorem Mx{op:AOp}(h:PZ op=J):AR op=J:=by
 cases op<;>first|rfl|cases h|skip
 rename_i k x;cases k<;>first|rfl|cases h
 rename_i k x lo hi mx;cases k<;>first|rfl|cases h
theorem JRH{op:AOp}(h:AR op=J):oB op=0:=by
 cases op<;>first|rfl|cases h|skip
 rename_i k x;cases k<;>first|rfl|cases h
theorem ju(F:Orc)(i:bX)(_m:Nat)(h:AR i.op=J):W0 (bZ F i _m):=by
 have h1:W0 (opD F i.op _m):=dY λ_=>JSY F _ _ h;grind [bZ,JR3,tJ,tO]
theorem Q1(F:Orc)(i:bX)(_m:Nat)(h:PZ i.op=J):B0 (bZ F i _m):=by
 have h1:B0 (opD F i.op _m):=by unfold opD;rw[JRH (Mx h)];exact dQ (jP _) λ_=>JTL F _ _ h
 grind [bZ,JS0,jP,vV]
end Go.Am
end
section
namespace Go.Am
theorem bind_some{α β:Type}{m:RM α}{f:α->RM β}{s:St}{b:β}(h:(m.bind f).run s=Z b): ∃a,m.run s=Z a/\(f a).run s=Z b:=by rw[run_bind]at h;cases hm:m.run s<;>simp_all
theorem iF{x:Option AV}{s:St}{e:Eff}(h:(val x).run s=Z e): ∃v,x=Z v/\e=⟨v,[]⟩:=by cases x<;>simp_all [val,RM.run]
theorem Qt{w C c v}(h:okP c v=O):J08 w C c v:=by
 unfold okP at h;split at h;rename_i x y;have:x=y:=by simpa using h
 subst this;exact .b _;simp at h;obtain⟨rfl,rfl⟩:=h;exact .i _ _;rename_i l e;have:l=e.data.toList:=by simpa using h
 subst this;exact .s _;exact .sl0 _ _ _;exact .np;exact .nf;cases h
theorem US{w C}: ∀{cs:List PV} {vs:List Value},AZ cs vs=O->cs.length=vs.length/\ ∀(i:Nat) x v,cs[i]?=Z x->vs[i]?=Z v->J08 w C x v
 |[],[],_=>⟨rfl,λi x v h=>by simp at h⟩
 |x::xs,v::vs,h=>by
  simp only[AZ,aX]at h;obtain⟨h1,h2⟩:=US (w:=w) (C:=C) h.2;grind [Qt]
 |[],_::_,h=>by grind [AZ]
 |_::_,[],h=>by grind [AZ]
theorem JQA{s:Sn}{c v}(h:okC c v=O):JH s c v:=by
 unfold okC at h;split at h;exact .p _ _ (Qt h);rename_i cs vs;obtain⟨h1,h2⟩:=US (w:=s.w) (C:=s.g.C) h;exact .data _ _ (by simpa using h1) λi x v j e=>h2 i x v j (by simpa using e);rename_i f g a c;simp at h;obtain⟨⟨rfl,rfl⟩,rfl⟩:=h;exact .fn _ _ _ _ _ rfl rfl (λi x v h=>by simp at h) (λi x v h=>by simp at h);simp at h;subst h;exact .tup _ _ rfl (λi x v h=>by simp at h);cases h
def bR(s:Sn)(tmps:Array Value)(env:List (Nat×AV)):Prop:= ∀n x,lk n env=Z x-> ∃v,tmps[n]?=Z v/\JH s x v
theorem bR.mono{s0 s:Sn}(hi:Inv s0)(t:bE s0 s){tmps env}(h:bR s0 tmps env):bR s tmps env:=
 λn x e=>let⟨v,h1,h2⟩:=h n x e;⟨v,h1,h2.mono hi t⟩
section
variable {P:Program} {s:Sn} {a:Act} {env:List (Nat×AV)}
theorem bO(he:bR s a.tmps env){x:Opd}{y:Operand}{v:AV}(h:(ev x).run ⟨env,s.σ⟩=Z v)(hc:bP x y=O):JH s v (a.eval y):=by
 cases x with
 |t n=>
  cases y<;>simp[bP]at hc;subst hc;simp only[ev,RM.run]at h;split at h
  rename_i u e;cases h;obtain⟨w,h1,h2⟩:=he _ _ e;simp_all [Act.eval];cases h
 |c z=>
  simp only[ev,RM.run]at h;injection h with h;subst h;cases y with
  |const u=>exact JQA (v:=u) (by grind [bP])
  |func g=>
   cases z<;>simp[bP]at hc;rename_i f first caps
   cases first<;>cases caps<;>simp[bP]at hc
   subst hc;exact .fn _ _ _ _ _ rfl rfl (λi x v h=>by simp at h) (λi x v h=>by simp at h)
  |tmp n=>grind [bP]
  |global n=>grind [bP]
theorem IC(he:bR s a.tmps env): ∀{xs:List Opd} {e:List Operand} {vs:List AV},(evs xs).run ⟨env,s.σ⟩=Z vs->jL xs e=O->
  vs.length=e.length/\ ∀(i:Nat) x v,vs[i]?=Z x->(e.map a.eval)[i]?=Z v->JH s x v
 |[],[],vs,h,_=>by
  grind [evs,RM.run]
 |x::xs,y::e,vs,h,hc=>by
  simp only[jL,aX]at hc;simp only[evs]at h;obtain⟨u,h1,h⟩:=bind_some h;obtain⟨g,h2,h⟩:=bind_some h;simp only[RM.run]at h;cases h;obtain⟨l,r⟩:=IC he h2 hc.2;grind [bO]
 |[],_::_,_,_,hc=>by grind [jL]
 |_::_,[],_,_,hc=>by grind [jL]
def bQ(P:Program)(o:Oper)(a:Act)(s:Sn)(e:Eff):Prop:= ∀(next:Act->World->Prop) (Q:Exit->Act->World->Prop),(∀v w' g',Inv ⟨upd e.ws s.σ,g',w'⟩->bE s ⟨upd e.ws s.σ,g',w'⟩->JH ⟨upd e.ws s.σ,g',w'⟩ e.val v->next (a.put o.dst v) w')->o.wp P a s.w next Q
theorem gP{o:Oper}{e:Eff}{v:Value}{w':World}{g':Gh}(hr:(execOp a.eval o).run P s.w=.ok (.value v) w')
  (hi:Inv ⟨upd e.ws s.σ,g',w'⟩) (t:bE s ⟨upd e.ws s.σ,g',w'⟩) (hv:JH ⟨upd e.ws s.σ,g',w'⟩ e.val v):bQ P o a s e:=by
 intro next Q h;grind [Oper.wp,Oper.upon]
theorem JM{o:Oper}{x:AV}{v:Value}(hi:Inv s)(hr:(execOp a.eval o).run P s.w=.ok (.value v) s.w)(hv:JH s x v):bQ P o a s ⟨x,[]⟩:=
 gP (e:=⟨x,[]⟩) (g':=s.g) hr hi (.refl s) hv
theorem Cz{t:TypeId}{i:TypeInfo}(h:P.info? t=Z i)(w:World):(typeInfo t).run P w=.ok i w:=by simp[typeInfo,h]
theorem iS{t:TypeId}{n:Nat}(h:szT P t=Z n)(w:World):(sizeOf t).run P w=.ok n w:=by unfold szT at h;cases hi:P.info? t<;>simp_all [sizeOf,Cz]
theorem IJ{t:TypeId}{b:Bool}(h:agT P t=Z b)(w:World):(isAgg t).run P w=.ok b w:=by
 unfold agT at h;cases hu:P.underlying t with
 |none=>simp_all
 |some d=>rw[hu]at h;simp at h;simp only[isAgg,AS,run_underlying hu,uY];subst h;cases d<;>rfl
theorem iT{t e:TypeId}(h:elT P t=Z e):P.underlying t=Z (.slice e):=by
 grind [elT]
theorem yZ{t:TypeId}(h:lS P t=O):P.underlying t=Z .string:=by
 grind [lS]
theorem S2{t:TypeId}(h:eu P t=O):P.underlying t=Z (.int .u8):=by
 grind [eu]
theorem JG9{t:TypeId}(h:jq P t=O):P.underlying t=Z .bool:=by
 grind [jq]
theorem JM3{t:TypeId}(h:u1 P t=O): ∃k,P.underlying t=Z (.int k):=by
 grind [u1]
theorem JL8{t:TypeId}{k:IntKind}(h:xx P k t=O):P.underlying t=Z (.int k):=by
 grind [xx]
theorem Rk{t e:TypeId}{n:Nat}(h:arT P t=Z (n,e)):P.underlying t=Z (.array n e):=by
 grind [arT]
theorem Se{t:TypeId}{fs:Array Field}(h:flT P t=Z fs):P.underlying t=Z (.struct fs):=by
 grind [flT]
theorem jR{x k n}(h:JH s (.p (.i k n)) x):x=.int k n:=by cases h with|p _ _ h=>cases h;rfl
theorem SY{x n}(h:JH s (.p (.b n)) x):x=.bool n:=by cases h with|p _ _ h=>cases h;rfl
theorem vO{x l}(h:JH s (.p (.s l)) x):x=.string ⟨l.toArray⟩:=by cases h with|p _ _ h=>cases h;rfl
theorem JQq{x}(h:JH s (.p .np) x):x=.pointer Y:=by cases h with|p _ _ h=>cases h;rfl
theorem JSa{x}(h:JH s (.p .nf) x):x=.nilFunc:=by cases h with|p _ _ h=>cases h;rfl
theorem vY(k n):JH s (.p (.i k n)) (.int k n):=.p _ _ (.i _ _)
theorem rY(n):JH s (.p (.b n)) (.bool n):=.p _ _ (.b _)
theorem Qz(l):JH s (.p (.s l)) (.string ⟨l.toArray⟩):=.p _ _ (.s _)
theorem vT(l:List UInt8):ByteArray.size ⟨l.toArray⟩=l.length:=by simp[ByteArray.size]
theorem JMn(l m:List UInt8):(⟨l.toArray⟩:ByteArray)++⟨m.toArray⟩=⟨(l++m).toArray⟩:=by apply ByteArray.ext;simp_all
theorem JG8{op:BinOp}{k:IntKind}{x y:Int}{t:TypeId}{r:PV}(n:op≠.shl)(j:op≠.shr)(h:AK op k x y=Z r)(w:World):
  ∃v,(binOp op t (.int k x) (.int k y)).run P w=.ok v w/\J08 s.w s.g.C r v:=by
 cases op<;>simp only[AK]at h
 case add=>cases h;exact⟨_,by simp[binOp,Op.intArith],.i _ _⟩
 case sub=>cases h;exact⟨_,by simp[binOp,Op.intArith],.i _ _⟩
 case mul=>cases h;exact⟨_,by simp[binOp,Op.intArith],.i _ _⟩
 case quo=>split at h
           cases h;rename_i e;cases h;exact⟨_,by simp[binOp,Op.intDiv,e],.i _ _⟩
 case rem=>split at h
           cases h;rename_i e;cases h;exact⟨_,by simp[binOp,Op.intDiv,e],.i _ _⟩
 case and=>cases h;exact⟨_,by simp[binOp,Op.intBits],.i _ _⟩
 case or=>cases h;exact⟨_,by simp[binOp,Op.intBits],.i _ _⟩
 case xor=>cases h;exact⟨_,by simp[binOp,Op.intBits],.i _ _⟩
 case eql=>cases h;exact⟨_,by simp[binOp,Op.intCmp],.b _⟩
 case neq=>cases h;exact⟨_,by simp[binOp,Op.intCmp],.b _⟩
 case lss=>cases h;exact⟨_,by simp[binOp,Op.intCmp],.b _⟩
 case leq=>cases h;exact⟨_,by simp[binOp,Op.intCmp],.b _⟩
 case gtr=>cases h;exact⟨_,by simp[binOp,Op.intCmp],.b _⟩
 case geq=>cases h;exact⟨_,by simp[binOp,Op.intCmp],.b _⟩
 all_goals simp_all
theorem Dw{op:BinOp}{k j:IntKind}{x y:Int}{t:TypeId}{r:PV}(hs:op=.shl\/op=.shr)(h:NC op k x y=Z r)(w:World):
  ∃v,(binOp op t (.int k x) (.int j y)).run P w=.ok v w/\J08 s.w s.g.C r v:=by
 unfold NC at h;split at h;cases h;rename_i e;rcases hs with rfl|rfl;cases h;exact⟨_,by simp[binOp,Op.shift,e],.i _ _⟩;cases h;exact⟨_,by simp[binOp,Op.shift,e],.i _ _⟩
theorem JH6{op:BinOp}{x y:List UInt8}{t:TypeId}{r:PV}(h:BB op x y=Z r)(w:World):
  ∃v,(binOp op t (.string ⟨x.toArray⟩) (.string ⟨y.toArray⟩)).run P w=.ok v w/\J08 s.w s.g.C r v:=by
 cases op<;>simp only[BB]at h
 case add=>
  split at h;rename_i e;cases h;refine⟨.string ⟨(x++y).toArray⟩,?_,.s _⟩;have h1: ¬(((ByteArray.size ⟨x.toArray⟩+ByteArray.size ⟨y.toArray⟩:Nat):Int)>IntKind.i64.max):=by rw[vT,vT];show¬(_>(9223372036854775807:Int));omega
  simp_all [binOp,Op.stringOp,JMn];cases h
 case eql=>cases h;exact⟨.bool (x==y),by simp[binOp,Op.stringOp],.b _⟩
 case neq=>cases h;exact⟨.bool (!(x==y)),by simp[binOp,Op.stringOp],.b _⟩
 case lss=>cases h;exact⟨.bool (Op.bytesLess x y),by simp[binOp,Op.stringOp],.b _⟩
 case leq=>cases h;exact⟨.bool (Op.bytesLess x y||x==y),by simp[binOp,Op.stringOp],.b _⟩
 case gtr=>cases h;exact⟨.bool (!(Op.bytesLess x y||x==y)),by simp[binOp,Op.stringOp],.b _⟩
 case geq=>cases h;exact⟨.bool (!Op.bytesLess x y),by simp[binOp,Op.stringOp],.b _⟩
 all_goals cases h
end
end Go.Am
end
section
namespace Go.Am
section
variable {P:Program} {F:Orc} {s:Sn} {a:Act} {env:List (Nat×AV)} {o:Oper} {_m:Nat} {e:Eff}
theorem JVj(hi:Inv s)(he:bR s a.tmps env){x}(h:(_z F (.mv x) _m).run ⟨env,s.σ⟩=Z e)(hc:JZ P (.mv x) o.op=O):bQ P o a s e:=by
 simp only[_z]at h;obtain⟨v,h1,h⟩:=bind_some h;simp only[RM.run]at h;cases h;unfold JZ at hc;simp only at hc;split at hc;rename_i y g;exact JM hi (by simp_all [execOp]) (bO he h1 hc);rename_i y g;exact JM hi (by simp_all [execOp]) (bO he h1 hc);cases hc
theorem JQF(hi:Inv s)(he:bR s a.tmps env){c x y}(h:(_z F (.pick c x y) _m).run ⟨env,s.σ⟩=Z e)(hc:JZ P (.pick c x y) o.op=O):bQ P o a s e:=by
 simp only[_z]at h;obtain⟨v,h1,h⟩:=bind_some h;unfold JZ at hc;simp only at hc;split at hc;rename_i c' k j n;simp only[aX]at hc;split at h;rename_i b;have hb:=SY (bO he h1 hc.1.1);split at h;rename_i g;obtain⟨u,h2,h⟩:=bind_some h;simp only[RM.run]at h;cases h;exact JM hi (v:=a.eval k) (by simp_all [execOp,asBool]) (bO he h2 hc.1.2);rename_i g;obtain⟨u,h2,h⟩:=bind_some h;simp only[RM.run]at h;cases h;have g:b=J:=by simpa using g
 exact JM hi (v:=a.eval j) (by simp_all [execOp,asBool]) (bO he h2 hc.2);grind [RM.run];cases hc
theorem JLx(hi:Inv s)(he:bR s a.tmps env){x}(h:(_z F (.nilchk x) _m).run ⟨env,s.σ⟩=Z e)(hc:JZ P (.nilchk x) o.op=O):bQ P o a s e:=by
 simp only[_z]at h;obtain⟨v,h1,h⟩:=bind_some h;unfold JZ at hc;simp only at hc;split at hc;rename_i y n;have g:=bO he h1 hc;split at h<;>(simp only[RM.run]at h;try cases h)
 refine JM hi (v:=a.eval y) ?_ g;generalize j:a.eval y=u at g;cases g;simp_all [execOp];refine JM hi (v:=a.eval y) ?_ g;generalize j:a.eval y=u at g;cases g;simp_all [execOp];refine JM hi (v:=a.eval y) ?_ g;generalize j:a.eval y=u at g;cases g with
 |ep _ _ _ _ _ _ _ _ k=>obtain⟨r,q,rfl⟩:=k;simp_all [execOp]
 refine JM hi (v:=a.eval y) ?_ g;generalize j:a.eval y=u at g;cases g;simp_all [execOp];cases hc
theorem PA{op:BinOp}{t:TypeId}{x y:Operand}{u v:Value}(h:(∀c,u≠.agg c)/\u≠.nilIface)(w:World):(eqGuard op t x y u v).run P w=.ok () w:=by simp_all [eqGuard]
theorem JEC(hi:Inv s)(he:bR s a.tmps env){op x y}(h:(_z F (.bin op .plain x y) _m).run ⟨env,s.σ⟩=Z e)(hc:JZ P (.bin op .plain x y) o.op=O):bQ P o a s e:=by
 simp only[_z]at h;obtain⟨u,h1,h⟩:=bind_some h;obtain⟨v,h2,h⟩:=bind_some h;obtain⟨r,g,rfl⟩:=iF h;unfold JZ at hc;simp only at hc;split at hc;rename_i L t B E ty K;simp only[aX,beq_iff_eq]at hc;obtain⟨⟨rfl,_d⟩,_e⟩:=hc;have C:=bO he h1 _d;have D:=bO he h2 _e;have j: ∀{z:Value},(∀c,a.eval B≠.agg c)/\a.eval B≠.nilIface->(binOp op t (a.eval B) (a.eval E)).run P s.w=.ok z s.w->(execOp a.eval o).run P s.w=.ok (.value z) s.w:=by simp_all [execOp,PA]
 simp only[pP]at g;split at g;rename_i M p N q;rw[jR C,jR D]at j;split at g;obtain⟨z,k,rfl⟩:=hX.1 g;obtain⟨v,A,n⟩:=Dw (s:=s) (P:=P) (t:=t) (.inl rfl) k s.w;exact JM hi (j (by simp) A) (.p _ _ n);obtain⟨z,k,rfl⟩:=hX.1 g;obtain⟨v,A,n⟩:=Dw (s:=s) (P:=P) (t:=t) (.inr rfl) k s.w;exact JM hi (j (by simp) A) (.p _ _ n);rename_i G H;split at g;rename_i hk;subst hk;obtain⟨z,k,rfl⟩:=hX.1 g;obtain⟨v,A,n⟩:=JG8 (s:=s) (P:=P) (t:=t) (λe=>G e) (λe=>H e) k s.w;exact JM hi (j (by simp) A) (.p _ _ n);cases g;rw[vO C,vO D]at j;obtain⟨z,k,rfl⟩:=hX.1 g;obtain⟨v,A,n⟩:=JH6 (s:=s) (P:=P) (t:=t) k s.w;exact JM hi (j (by simp) A) (.p _ _ n);cases g;cases hc
theorem JGJ(hi:Inv s)(he:bR s a.tmps env){op x y}(h:(_z F (.bin op .bool x y) _m).run ⟨env,s.σ⟩=Z e)(hc:JZ P (.bin op .bool x y) o.op=O):bQ P o a s e:=by
 simp only[_z]at h;obtain⟨u,h1,k⟩:=bind_some h;obtain⟨v,h2,j⟩:=bind_some k;obtain⟨r,g,rfl⟩:=iF j;clear h k j;unfold JZ at hc;simp only at hc;split at hc
 ·rename_i C t G E ty B;simp only[aX,beq_iff_eq]at hc;obtain⟨⟨rfl,A⟩,z,ht⟩:=hc;have n:=bO he h1 A;have w:=bO he h2 z;have hb:=JG9 ht;simp only[pP]at g;split at g
  ·rename_i _ _ p q;have D:=SY n;have H:=SY w;cases op<;>simp only[kM]at g<;>first|(cases g)|cases g
   all_goals simp_all [JM,execOp,eqGuard,binOp,run_equal_bool,rY]
  cases g
 cases hc
theorem WB{op:BinOp}{t:TypeId}{u v:Value}{b:Bool}(ho:op=.eql\/op=.neq){w:World}(h:(Op.equal t u v).run P w=.ok b w)
  (hu:(∃x n c,u=.slice x n c)\/(∃p,u=.pointer p/\v=.pointer Y)\/u=.nilFunc\/(∃f y c,u=.func f y c)):
  (binOp op t u v).run P w=.ok (.bool (if op=.eql then b else !b)) w:=by
 rcases ho with rfl|rfl;have:binOp .eql t u v=(do pure (.bool (<-Op.equal t u v))):=(by grind [binOp]);simp_all;have:binOp .neq t u v=(do pure (.bool (!(<-Op.equal t u v)))):=(by grind [binOp]);simp_all
theorem wD{op:BinOp}{b:Bool}{r:AV}(h:kM op (Z b)=Z r):(op=.eql\/op=.neq)/\r=.p (.b (if op=.eql then b else !b)):=by
 cases op<;>simp[kM]at h
 all_goals simp_all
theorem zn{op:BinOp}{r:AV}(h:PR op=Z r):(op=.eql\/op=.neq)/\r=.unk:=by
 cases op<;>simp[PR]at h
 all_goals simp_all
theorem JHu(hi:Inv s)(he:bR s a.tmps env){op x y}(h:(_z F (.bin op .nils x y) _m).run ⟨env,s.σ⟩=Z e)(hc:JZ P (.bin op .nils x y) o.op=O):bQ P o a s e:=by
 simp only[_z]at h;obtain⟨u,h1,E⟩:=bind_some h;obtain⟨v,h2,B⟩:=bind_some E;obtain⟨r,g,rfl⟩:=iF B;clear h E B h2;unfold JZ at hc;simp only at hc;split at hc;rename_i M t A G ty L;simp only[aX,beq_iff_eq]at hc;obtain⟨⟨rfl,K⟩,ht⟩:=hc;have D:=bO he h1 K;clear h1;have _e:G=.const (.slice Y 0 0)/\ ∃el,P.underlying t=Z (.slice el):=(by unfold Kf at ht;split at ht;obtain⟨el,N⟩:=sd.1 ht;simp_all [iT];cases ht);obtain⟨rfl,el,_d⟩:=_e;have go: ∀(z:Option Addr) (n c:Nat),a.eval A=.slice z n c->(op=.eql\/op=.neq)->
   (execOp a.eval o).run P s.w=.ok (.value (.bool (if op=.eql then z.isNone else !z.isNone))) s.w:=by
  intro z n c k j;have h1:=WB (P:=P) (t:=t) j (run_equal_slice_nil s.w t el z n c _d) (.inl ⟨z,n,c,rfl⟩);simp_all [execOp,PA,Act.eval]
 simp only[pP]at g;split at g;rename_i _l _f;cases D with
 |p _ _ q=>
  split at g;obtain⟨j,rfl⟩:=zn g;generalize k:a.eval A=z at q;cases q with
  |sl0 _ C cap=>exact JM hi (go _ _ _ k j) (.unk _)
  |sl _ _ r Q cap vals=>exact JM hi (go _ _ _ k j) (.unk _)
  obtain⟨j,rfl⟩:=wD g;generalize k:a.eval A=z at q;cases q<;>simp_all [JM,rY]
 rename_i b i n;generalize k:a.eval A=z at D;cases D with
 |_r _ _ _ _ wm _l _f H=>
  obtain⟨C,cap,rfl,R⟩:=H;split at g;obtain⟨j,rfl⟩:=zn g;exact JM hi (go _ _ _ k j) (.unk _);rename_i _c;obtain⟨j,rfl⟩:=wD g;have:C.isNone=J:=by cases C<;>simp_all
  grind [JM,rY]
 cases g;cases hc
theorem JHa(hi:Inv s)(he:bR s a.tmps env){op x y}(h:(_z F (.bin op .nilp x y) _m).run ⟨env,s.σ⟩=Z e)(hc:JZ P (.bin op .nilp x y) o.op=O):bQ P o a s e:=by
 simp only[_z]at h;obtain⟨u,h1,q⟩:=bind_some h;obtain⟨v,h2,n⟩:=bind_some q;obtain⟨r,g,rfl⟩:=iF n;clear h q n h2;unfold JZ at hc;simp only at hc;split at hc;rename_i H t A B ty G;simp only[aX,beq_iff_eq]at hc;obtain⟨⟨rfl,E⟩,ht⟩:=hc;have j:=bO he h1 E;clear h1;have D:B=.const (.pointer Y)/\ ∃el,P.underlying t=Z (.pointer el):=(by grind [L6]);obtain⟨rfl,el,_e⟩:=D;have go: ∀(z:Option Addr),a.eval A=.pointer z->(op=.eql\/op=.neq)->
   (execOp a.eval o).run P s.w=.ok (.value (.bool (if op=.eql then z.isNone else !z.isNone))) s.w:=by
  intro z C k;have:P.pointee t=el:=by grind [Program.pointee]
  simp_all [WB,run_equal_pointer_nil,execOp,PA,Act.eval]
 simp only[pP]at g;generalize C:a.eval A=z at j;split at g;obtain⟨k,rfl⟩:=wD g;grind [JQq,JM,rY];obtain⟨k,rfl⟩:=wD g;cases j;grind [JM,rY];obtain⟨k,rfl⟩:=wD g;cases j;grind [JM,rY];obtain⟨k,rfl⟩:=wD g;cases j<;>grind [JM,rY]
 cases g;cases hc
theorem JHr(hi:Inv s)(he:bR s a.tmps env){op x y}(h:(_z F (.bin op .nilf x y) _m).run ⟨env,s.σ⟩=Z e)(hc:JZ P (.bin op .nilf x y) o.op=O):bQ P o a s e:=by
 simp only[_z]at h;obtain⟨u,h1,q⟩:=bind_some h;obtain⟨v,h2,k⟩:=bind_some q;obtain⟨r,g,rfl⟩:=iF k;clear h q k h2;unfold JZ at hc;simp only at hc;split at hc;rename_i _e t D C ty H;simp only[aX,beq_iff_eq]at hc;obtain⟨⟨rfl,G⟩,ht⟩:=hc;have n:=bO he h1 G;clear h1;have E:C=.const .nilFunc/\ ∃p r v,P.underlying t=Z (.func p r v):=(by grind [Iv]);obtain⟨rfl,p,_d,vv,B⟩:=E;simp only[pP]at g;generalize K:a.eval D=z at n;split at g;obtain⟨A,rfl⟩:=wD g;have:=JSa n;subst this;have j:(Op.equal t .nilFunc .nilFunc).run P s.w=.ok O s.w:=by
  have: ∀d,(Op.equalIn (d+1) t .nilFunc .nilFunc).run P s.w=.ok O s.w:=λd=>by simp[Op.equalIn,run_underlying B]
  exact this 9999
 simp_all [WB,JM,rY,execOp,PA,Act.eval];obtain⟨A,rfl⟩:=wD g;cases n;rename_i f _ _ fs cs _ _ _ _;have j:(Op.equal t (.func (.func f) fs cs) .nilFunc).run P s.w=.ok J s.w:=by
  have: ∀d,(Op.equalIn (d+1) t (.func (.func f) fs cs) .nilFunc).run P s.w=.ok J s.w:=λd=>by simp[Op.equalIn,run_underlying B]
  exact this 9999
 have h1:=WB (P:=P) (t:=t) A j (.inr (.inr (.inr ⟨_,_,_,rfl⟩)));simp_all [JM,rY,execOp,PA,Act.eval];cases g;cases hc
end
end Go.Am
end
section
namespace Go.Am
theorem KG: ∀{vs:List Value} {w:World} {r o:Nat} {c:Array Value} {e:TypeId} {fz:Nat×Nat},w.heap[r]?=Z (.cells c e fz)->o+vs.length<=c.size->
  Put r o vs w (w.setCells r o vs)
 |[],w,r,o,c,e,fz,h,n=>⟨⟨c,e,fz,c,h,h,rfl,n,λj v x=>by simp at x,λ_ _=>rfl⟩,λ_ _=>rfl,rfl,rfl,rfl⟩
 |v::vs,w,r,o,c,e,fz,h,n=>by
  have _d:=zG h;have q:o+1+vs.length<=c.size:=by grind
  have h1:(w.setCell ⟨r,o,Y⟩ v).heap[r]?=Z (.cells (c.setIfInBounds o v) e fz):=(by grind [World.setCell]);obtain⟨⟨H,K,D,c',g,z,y,F,E,G⟩,_e,L,B,A⟩:=KG (vs:=vs) (o:=o+1) h1 (by simpa using q);rw[h1]at g;injection g with g;injection g with a1 a2 a3;subst a1 a2 a3;refine⟨⟨c,e,fz,c',h,z,by simpa using y,n,λj u x=>?_,λk hk=>?_⟩,λr' C=>?_,?_,B,A⟩;grind;grind;show((w.setCell ⟨r,o,Y⟩ v).setCells r (o+1) vs).heap[r']?=_;grind [World.setCell];show((w.setCell ⟨r,o,Y⟩ v).setCells r (o+1) vs).heap.size=_;simp_all
theorem J08.one{w C x v}(h:J08 w C x v):v.oneCell'=O:=by cases h<;>rfl
theorem J08.cells1{w C x v}(h:J08 w C x v):v.cells= #[v]:=by cases h<;>rfl
section
variable {P:Program} {F:Orc} {s:Sn} {a:Act} {env:List (Nat×AV)} {o:Oper} {_m:Nat} {e:Eff}
theorem JVc(hi:Inv s)(he:bR s a.tmps env){op x}(h:(_z F (.un op x) _m).run ⟨env,s.σ⟩=Z e)(hc:JZ P (.un op x) o.op=O):bQ P o a s e:=by
 simp only[_z]at h;obtain⟨u,h1,q⟩:=bind_some h;obtain⟨r,g,rfl⟩:=iF q;clear h q;unfold JZ at hc;simp only at hc;split at hc;rename_i B t y A;simp only[aX,beq_iff_eq]at hc;obtain⟨rfl,w⟩:=hc;have j:=bO he h1 w;clear h1;generalize C:a.eval y=z at j;unfold unP at g;split at g<;>first|(cases g)|cases g
 rename_i k n;have:=jR j;simp_all [JM,execOp,Op.unary,Op.intArith,vY];rename_i k n;have:=jR j;simp_all [JM,execOp,Op.unary,Op.intBits,vY];rename_i b;have:=SY j;simp_all [JM,execOp,Op.unary,rY];cases j with
 |unk b=>exact JM hi (v:=.bool (!b)) (by simp_all [execOp,Op.unary]) (.unk _)
 cases hc
theorem JO2(hi:Inv s)(he:bR s a.tmps env){off x}(h:(_z F (.faddr off x) _m).run ⟨env,s.σ⟩=Z e)(hc:JZ P (.faddr off x) o.op=O):bQ P o a s e:=by
 simp only[_z]at h;obtain⟨u,h1,C⟩:=bind_some h;obtain⟨r,j,rfl⟩:=iF C;clear h C;unfold JZ at hc;simp only at hc;split at hc;rename_i t y f E;simp only[aX]at hc;obtain⟨D,ht⟩:=hc;have q:=bO he h1 D;clear h1;have hf: ∃fs k n,P.underlying t=Z (.struct fs)/\fs[f]?=Z k/\k.offset=off/\szT P k.type=Z n/\n≠0:=(by grind [Se]);obtain⟨fs,k,n,K,G,rfl,L,H⟩:=hf;have go: ∀(r g:Nat),a.eval y=.pointer (Z ⟨r,g,Y⟩)->(execOp a.eval o).run P s.w=.ok (.value (.pointer (Z ⟨r,g+k.offset,Y⟩))) s.w:=by simp_all [Addr.add,execOp,Instr.fieldAt,run_underlying,Instr.sureAddr,fieldPlace,iS]
 generalize B:a.eval y=z at q;unfold MS at j;split at j<;>first|(cases j)|cases j
 cases q with
 |ptr _ _ r g m hb=>exact JM hi (go _ _ B) (by rw[da];exact .ptr _ _ r g m hb)
 cases q with
 |cp cs _ r g vals A v=>exact JM hi (go _ _ B) (by rw[da];exact .cp _ _ r g vals A v)
 cases q with
 |ep _ _ _ _ _ wm _l _f p0 A v _e=>
  obtain⟨r,g,rfl⟩:=p0;refine JM hi (go _ _ B) (.ep _ _ _ _ _ wm _l _f ⟨_,_,rfl⟩ A v λM _d=>?_);grind
 cases hc
theorem JRI(hi:Inv s)(he:bR s a.tmps env){x i}(h:(_z F (.extr x i) _m).run ⟨env,s.σ⟩=Z e)(hc:JZ P (.extr x i) o.op=O):bQ P o a s e:=by
 simp only[_z]at h;obtain⟨u,h1,n⟩:=bind_some h;obtain⟨r,g,rfl⟩:=iF n;clear h n;unfold JZ at hc;simp only at hc;split at hc;rename_i y j k;simp only[aX,beq_iff_eq]at hc;obtain⟨C,rfl⟩:=hc;have q:=bO he h1 C;generalize B:a.eval y=z at q;unfold gx at g;split at g;cases q with
 |tup cs vs E A=>
  have D:=JA g;have w:vs[i]?=Z vs[i]:=by simp
  exact JM hi (v:=vs[i]) (by simp[execOp,k,B,Instr.extract,w]) (A i r _ g w)
 cases g;cases hc
theorem JQM(hi:Inv s)(he:bR s a.tmps env){f first caps}(h:(_z F (.mkfn f first caps) _m).run ⟨env,s.σ⟩=Z e)(hc:JZ P (.mkfn f first caps) o.op=O):bQ P o a s e:=by
 simp only[_z]at h;obtain⟨u,h1,w⟩:=bind_some h;obtain⟨v,h2,j⟩:=bind_some w;simp only[RM.run]at j;cases j;clear h w;unfold JZ at hc;simp only at hc;split at hc
 ·rename_i g k n D;simp only[aX,beq_iff_eq]at hc;obtain⟨⟨rfl,hf⟩,r⟩:=hc;obtain⟨A,y⟩:=IC he h1 hf;obtain⟨B,z⟩:=IC he h2 r;refine JM hi (v:=.func (.func f) (k.map a.eval) (n.map a.eval)) (by simp_all [execOp,Instr.makeFunc]) (.fn _ _ _ _ _ (by simpa using A) (by simpa using B) (λi x v q C=>y i x v q ?_) (λi x v q C=>z i x v q ?_))
  all_goals simp_all
 cases hc
theorem JVp(hi:Inv s)(he:bR s a.tmps env){mx x y}(h:(_z F (.mm mx x y) _m).run ⟨env,s.σ⟩=Z e)(hc:JZ P (.mm mx x y) o.op=O):bQ P o a s e:=by
 simp only[_z]at h;obtain⟨u,h1,w⟩:=bind_some h;obtain⟨v,h2,n⟩:=bind_some w;obtain⟨r,g,rfl⟩:=iF n;clear h w n;unfold JZ at hc;simp only at hc;split at hc;rename_i c E;split at hc;rename_i b B;simp only[aX,beq_iff_eq]at hc;obtain⟨hb,hc⟩:=hc;split at hc;rename_i A z j;simp only[aX]at hc;have C:=bO he h1 hc.1;have D:=bO he h2 hc.2;have _d:c.args.map a.eval= #[a.eval A,a.eval z]:=by apply PI;simp[j]
 unfold mmP at g;split at g;rename_i k p H q;cases g;have G:=jR C;have _e:=jR D;cases mx;simp_all [JM,vY,execOp,resolve,invoke,builtin,Builtin.min_,Builtin.min2];simp_all [JM,vY,execOp,resolve,invoke,builtin,Builtin.max_,Builtin.max2];cases g;cases hc;cases hc;cases hc
theorem JSx(hi:Inv s)(he:bR s a.tmps env){str x}(h:(_z F (.len str x) _m).run ⟨env,s.σ⟩=Z e)(hc:JZ P (.len str x) o.op=O):bQ P o a s e:=by
 simp only[_z]at h;obtain⟨u,h1,E⟩:=bind_some h;obtain⟨r,g,rfl⟩:=iF E;clear h E;unfold JZ at hc;simp only at hc;split at hc;rename_i c v;split at hc;rename_i k;split at hc;rename_i y t q B;simp only[aX]at hc;obtain⟨L,ht⟩:=hc;have C:=bO he h1 L;have _d:c.args.map a.eval= #[a.eval y]:=by apply PI;simp[q]
 have A:c.argTypes[0]?=Z t:=by rw[<-I2,B];rfl
 generalize _e:a.eval y=z at C;have hs: ∀l:List UInt8,z=.string ⟨l.toArray⟩->lS P t=O->(execOp a.eval o).run P s.w=.ok (.value (.int I l.length)) s.w:=by intro l D j;have:=yZ j;simp[execOp,v,resolve,k,_d,_e,D,invoke,builtin,Builtin.len_,A,run_underlying this,goInt,vT]
 have M: ∀H n cp,z=.slice H n cp->(elT P t).isSome=O->(execOp a.eval o).run P s.w=.ok (.value (.int I n)) s.w:=by intro H n cp D j;obtain⟨el,G⟩:=sd.1 j;have:=iT G;simp[execOp,v,resolve,k,_d,_e,D,invoke,builtin,Builtin.len_,A,run_underlying this,goInt]
 unfold QP at g;split at g<;>first|(cases g)|cases g
 grind [JM,vO,vY];cases C with
 |p _ _ K=>cases K<;>simp_all [JM,vY]
 cases C<;>grind [JM,vY]
 cases hc;cases hc;cases hc
end
end Go.Am
end
section
namespace Go.Am
section
variable {P:Program} {F:Orc} {s:Sn} {a:Act} {env:List (Nat×AV)} {o:Oper} {_m:Nat} {e:Eff}
theorem lQ.of_p{s:Sn}{_l _f v}(h:JH s (.p (.sl _l _f)) v):lQ s _l _f v:=by
 grind [of_sl,cases Go.Am.JH]
theorem Ar(hi:Inv s){_l:Nat}{x:AV}{_f:List (List PV)}{v:Value}(h:(gO _l x).run ⟨env,s.σ⟩=Z _f)(hr:JH s x v):
  (∃l,x=.p (.s l)/\_l=1/\_f=l.map oJ/\v=.string ⟨l.toArray⟩)\/lQ s _l _f v:=by
 unfold gO at h;split at h;split at h;rename_i e;subst e;simp only[RM.run]at h;cases h;exact .inr (.of_p hr);cases h;grind [RM.run,vO];simp only[RM.run]at h;split at h;rename_i blk hb;split at h;split at h;rename_i hc;obtain⟨rfl,hc⟩:=hc;simp only[RM.run]at h;cases h;exact .inr (.of_slr hi hr hb hc);cases h;cases h;cases h;cases h
theorem ma{α:Type}{_l:Nat}: ∀{_f:List (List α)},(∀row∈_f,row.length=_l)-> ∀{k:Nat} {x:α},_f.flatten[k]?=Z x->
  ∃i j row,k=i*_l+j/\_f[i]?=Z row/\row[j]?=Z x/\j<_l
 |[],_,k,x,h=>by simp at h
 |r::_f,g,k,x,h=>by
  simp only[uT]at h;have y:r.length=_l:=g r (by simp);rcases List.getElem?_append (l₁:=r) (l₂:=_f.flatten) (i:=k)▸h with e;split at e;exact⟨0,k,r,by simp,rfl,e,by omega⟩;obtain⟨i,j,row,w,v,q,n⟩:=ma (λrow o=>g row (by simp[o])) e;exact⟨i+1,j,row,by grind,by simpa using v,q,n⟩
theorem VB{α:Type}{_l:Nat}: ∀{_f:List (List α)},(∀row∈_f,row.length=_l)->_f.flatten.length=_f.length*_l
 |[],_=>by simp
 |r::_f,g=>by
  have:=VB (_f:=_f) (λrow e=>g row (by simp[e]));grind
theorem lQ.cells{s:Sn}{_l _f v}(h:lQ s _l _f v):
  ∃(a:Option Addr) (cap:Nat) (vs:List Value),v=.slice a _f.length cap/\_f.length<=cap/\vs.length=_f.length*_l/\
   (∀(k:Nat) x,_f.flatten[k]?=Z x-> ∃u,vs[k]?=Z u/\J08 s.w s.g.C x u)/\
   (_f=[]\/ ∃r o,a=Z ⟨r,o,Y⟩/\ ∀(k:Nat) u,vs[k]?=Z u->cellAt s.w r (o+k)=Z u)/\(∀row∈_f,row.length=_l):=by
 obtain⟨a,cap,h1,h2,n,q⟩:=h;rcases q with rfl|⟨r,o,B,D⟩;simp_all;refine⟨a,cap,(List.range (_f.length*_l)).map λk=>(cellAt s.w r (o+k)).getD .nilFunc,h1,h2,by simp,λk x hk=>?_,.inr ⟨r,o,B,λk u hk=>?_⟩,n⟩;obtain⟨i,j,row,z,y,A,_⟩:=ma n hk;grind [VB];have e:=JA hk;simp at e;rw[iL,List.getElem?_range e]at hk;simp at hk;have:k<_f.flatten.length:=by grind [VB]
 obtain⟨i,j,row,z,y,A,_⟩:=ma n (aZ this);grind
theorem Cq: ∀{_f:List (List PV)} {l:List UInt8},vU _f=Z l-> ∃e:List Int,_f=e.map (λn=>[PV.i .u8 n])/\l=e.map λn=>UInt8.ofNat n.toNat
 |[],l,h=>by simp_all [vU]
 |row::_f,l,h=>by
  unfold vU at h;split at h;simp_all;rename_i n r j;injection j with e1 e2;subst e1 e2;split at h;rename_i k g;cases h;obtain⟨e,h1,h2⟩:=Cq g;exact⟨n::e,by simp[h1],by simp[h2]⟩;cases h;cases h
theorem JJr(e:List Int): ∀b:ByteArray,(e.foldl (λr n=>r.push (UInt8.ofNat n.toNat)) b)=⟨b.data++(e.map λn=>UInt8.ofNat n.toNat).toArray⟩:=by
 induction e with
 |nil=>intro b;simp
 |cons n e ih=>simp_all
theorem IR(r o n:Nat):Addr.add ⟨r,o,Y⟩ n=⟨r,o+n,Y⟩:=by simp[Addr.add]
theorem zo{w:World}{r o:Nat}(vs:List Value)(h: ∀(k:Nat) u,vs[k]?=Z u->cellAt w r (o+k)=Z u):
  (loadCells ⟨r,o,Y⟩ vs.length).run P w=.ok vs.toArray w:=
 run_loadCells_list w _ vs λj v e=>by grind [IR,tN]
theorem JRA(hi:Inv s)(he:bR s a.tmps env){k x}(hk: ∀own,k≠.toBytes own)(h:(_z F (.conv k x) _m).run ⟨env,s.σ⟩=Z e)(hc:JZ P (.conv k x) o.op=O):bQ P o a s e:=by
 simp only[_z]at h;obtain⟨u,h1,g⟩:=bind_some h;clear h;unfold JZ at hc;simp only at hc;split at hc;rename_i a0 dst y _e;simp only[aX]at hc;obtain⟨_b,ht⟩:=hc;have q:=bO he h1 _b;generalize W:a.eval y=z at q;split at g;rename_i k' k1 n;simp only[RM.run]at g;cases g;simp only[aX]at ht;obtain⟨ks,hs⟩:=JM3 ht.1;have hd:=JL8 ht.2;have:=jR q;simp_all [JM,execOp,convert,run_underlying,Conv.intToInt,vY];rename_i l;simp only[RM.run]at g;cases g;simp only[aX]at ht;have hs:=yZ ht.1;have hd:=yZ ht.2;have:=vO q;simp_all [JM,execOp,convert,run_underlying];simp only[aX]at ht;obtain⟨ht,hd⟩:=ht;have hd:=yZ hd;split at ht;rename_i el K;simp only[aX,beq_iff_eq]at ht;have hs:=iT K;have L:=S2 ht.1;obtain⟨_f,N,A⟩:=bind_some g;clear g;split at A;rename_i l _c;simp only[RM.run]at A;cases A;rcases Ar hi N q with⟨V,rfl,_,R,H⟩|_d
 
 have:=vO q;subst this;have:l=V:=by
  have: ∀l:List UInt8,vU (l.map oJ)=Z l:=by
   intro l
   induction l with
   |nil=>rfl
   |cons b l ih=>simp[vU,oJ,ih]
  simp_all
 simp_all [JM,execOp,convert,run_underlying];obtain⟨C,cap,vs,H,D,hlen,hrel,B,G⟩:=_d.cells;obtain⟨j,Q,rfl⟩:=Cq _c;have hvs:vs=j.map (Value.int .u8):=by
  apply zQ6;intro k;have _a:_f.flatten=j.map (PV.i .u8):=by rw[Q];clear Q _c hrel hlen G B H D N q;induction j with|nil=>rfl|cons n j ih=>simp[ih]
  by_cases hk:k<j.length;obtain⟨u,hu,hp⟩:=hrel k (.i .u8 j[k]) (by simp_all);grind [cases Go.Am.J08];simp_all
 have S:_f.length=vs.length:=by omega
 subst H;have E:(Conv.bytesToString (.slice C _f.length cap)).run P s.w=.ok (.string ⟨(j.map λn=>UInt8.ofNat n.toNat).toArray⟩) s.w:=by
  rcases B with T|⟨r,U,rfl,hm⟩;have M:j=[]:=by simp_all
  subst M;cases C with
  |none=>simp[Conv.bytesToString];rfl
  |some C=>have:=run_bytesToString (P:=P) s.w C _f.length cap [] (by simp_all [loadCells,loadCellsFrom]);rw[this];rfl
  have:=run_bytesToString (P:=P) s.w ⟨r,U,Y⟩ _f.length cap j (by grind [zo]);simp_all [JJr]
 refine JM hi (v:=.string ⟨(j.map λn=>UInt8.ofNat n.toNat).toArray⟩) ?_ (Qz _);simp[execOp,_e,W,convert,run_underlying hs,run_underlying hd,run_underlying L,E];cases A;cases ht;simp_all;cases g;cases hc
end
end Go.Am
end
section
namespace Go.Am
theorem NY{α:Type}{cs l:List α}{off size:Nat}(h:sub cs off size=Z l):l.length=size/\off+size<=cs.length/\ ∀(i:Nat),i<size->l[i]?=cs[off+i]?:=by
 grind [sub]
theorem OB: ∀{cs:List AV} {l:List PV},unp cs=Z l->cs=l.map .p
 |[],l,h=>by grind [unp]
 |x::cs,l,h=>by
  unfold unp at h;split at h;simp_all;rename_i c r e;injection e with e1 e2;subst e1 e2;split at h;rename_i j g;cases h;simp[OB g];cases h;cases h
section
variable {P:Program} {F:Orc} {s:Sn} {a:Act} {env:List (Nat×AV)} {o:Oper} {_m:Nat} {e:Eff}
theorem jt{agg:Bool}{l:List PV}{x:AV}{vs:List Value}(h:qJ agg l=Z x)(hl:l.length=vs.length)
  (hr: ∀(i:Nat) y v,l[i]?=Z y->vs[i]?=Z v->J08 s.w s.g.C y v):
  (agg=O/\JH s x (.agg vs.toArray))\/(agg=J/\ ∃v,vs=[v]/\JH s x v):=by
 cases agg with
 |true=>simp[qJ]at h;subst h;exact .inl ⟨rfl,.data _ _ (by simpa using hl) λi y v j e=>hr i y v j (by simpa using e)⟩
 |false=>
  simp only[qJ,fJ,if_false]at h;split at h;cases h;obtain⟨v,rfl⟩: ∃v,vs=[v]:=dn.1 (by simp_all);exact .inr ⟨rfl,v,rfl,.p _ _ (hr 0 _ v rfl rfl)⟩;cases h
theorem SI{agg:Bool}{l:List AV}{x:AV}{vs:List Value}(h:mA agg l=Z x)(hl:l.length=vs.length)(h1: ∀v∈vs,v.oneCell'=O)
  (hr: ∀(i:Nat) y v,l[i]?=Z y->vs[i]?=Z v->JH s y v):
  (agg=O/\JH s x (.agg vs.toArray))\/(agg=J/\ ∃v,vs=[v]/\JH s x v):=by
 cases agg with
 |true=>
  simp only[mA,if_true]at h;split at h;rename_i q j;cases h;have:=OB j;subst this;refine .inl ⟨rfl,.data _ _ (by simpa using hl) λi y v g e=>?_⟩;have:=hr i (.p y) v (by simp[g]) (by simpa using e);cases this<;>simp_all
  cases h;exact .inl ⟨rfl,.agg _ _ (by simpa using hl) (λi v e=>h1 v (by grind)) λi y v g e=>hr i y v g (by simpa using e)⟩
 |false=>
  simp only[mA,fJ,if_false]at h;split at h;cases h;obtain⟨v,rfl⟩: ∃v,vs=[v]:=dn.1 (by simp_all);exact .inr ⟨rfl,v,rfl,hr 0 _ v rfl rfl⟩;cases h
theorem zb{agg:Bool}{off size:Nat}{x r:AV}{v:Value}{t:TypeId}(h:tI agg off size x=Z r)(hr:JH s x v)(ht:agT P t=Z agg)(hs:szT P t=Z size)
  (h1:agg=O\/size=1): ∃cs u,v=.agg cs/\(part t cs off).run P s.w=.ok u s.w/\JH s r u:=by
 have go: ∀(cs:Array Value) (vs:List Value),vs.length=size->(∀(i:Nat),i<size->vs[i]?=cs[off+i]?)->off+size<=cs.size->
   ((agg=O/\JH s r (.agg vs.toArray))\/(agg=J/\ ∃v,vs=[v]/\JH s r v))-> ∃u,(part t cs off).run P s.w=.ok u s.w/\JH s r u:=by
  intro cs vs j n C e;rcases e with⟨rfl,g⟩|⟨rfl,v,rfl,g⟩;refine⟨.agg (cs.extract off (off+size)),by simp_all [part,IJ,iS],?_⟩;have:cs.extract off (off+size)=vs.toArray:=(by grind);simp_all;simp at j;subst j;have o:=n 0 (by omega);simp at o;exact⟨v,by simp[part,IJ ht,<-o],g⟩
 unfold tI at h;split at h;rename_i cs;split at h;rename_i l k;obtain⟨q,z,y⟩:=NY k;cases hr with
 |data _ vs A B=>
  have e:=jt (s:=s) (vs:=((vs.toList.drop off).take size)) h (by simp;omega) (by
   grind)
  grind
 cases h;rename_i cs;split at h;rename_i l k;obtain⟨q,z,y⟩:=NY k;cases hr with
 |agg _ vs A D B=>
  have e:=SI (s:=s) (vs:=((vs.toList.drop off).take size)) h (by simp;omega) (by
   grind [List.getElem?_of_mem]) (by
   grind)
  grind
 cases h;cases h
theorem JOd(hi:Inv s)(he:bR s a.tmps env){agg off size x}(h:(_z F (.field agg off size x) _m).run ⟨env,s.σ⟩=Z e)(hc:JZ P (.field agg off size x) o.op=O):bQ P o a s e:=by
 simp only[_z]at h;obtain⟨u,h1,g⟩:=bind_some h;obtain⟨r,w,rfl⟩:=iF g;clear h g;unfold JZ at hc;simp only at hc;split at hc;rename_i t y f A;simp only[aX]at hc;obtain⟨z,ht⟩:=hc;split at ht;rename_i fs B;split at ht;rename_i D C;simp only[aX,beq_iff_eq]at ht;obtain⟨⟨⟨E,n⟩,k⟩,j⟩:=ht;obtain⟨cs,v,H,G,q⟩:=zb w (bO he h1 z) k n (by simpa using j);exact JM hi (v:=v) (by simp_all [execOp,Instr.field,run_underlying,Se,asAgg]) q;cases ht;cases ht;cases hc
theorem JQO(hi:Inv s)(he:bR s a.tmps env){x i}(h:(_z F (.sidx x i) _m).run ⟨env,s.σ⟩=Z e)(hc:JZ P (.sidx x i) o.op=O):bQ P o a s e:=by
 simp only[_z]at h;obtain⟨u,h1,r⟩:=bind_some h;obtain⟨v,h2,g⟩:=bind_some r;clear h r;unfold JZ at hc;simp only at hc;split at hc;rename_i t y j C;simp only[aX]at hc;obtain⟨⟨A,B⟩,ht⟩:=hc;have w:=bO he h1 A;have z:=bO he h2 B;split at g;rename_i l k n;split at g;rename_i H;split at g;rename_i b hb;simp only[RM.run]at g;cases g;have E:=vO w;have G:=jR z;have D:(⟨l.toArray⟩:ByteArray)[n.toNat]?=Z b:=by have q:=JA hb;rw[aZ q]at hb;rw[getElem?_pos _ _ (by grind [vT])];injection hb with hb;rw[<-hb];rfl
 refine JM hi (v:=.int .u8 b.toNat) ?_ (vY _ _);simp_all [execOp,Instr.index,asIntOf,run_underlying,yZ];cases g;cases g;cases g;cases hc
theorem JRC(hi:Inv s)(he:bR s a.tmps env){agg len _l x i}(h:(_z F (.aidx agg len _l x i) _m).run ⟨env,s.σ⟩=Z e)(hc:JZ P (.aidx agg len _l x i) o.op=O):bQ P o a s e:=by
 simp only[_z]at h;obtain⟨u,h1,A⟩:=bind_some h;obtain⟨v,h2,g⟩:=bind_some A;clear h A;unfold JZ at hc;simp only at hc;split at hc;rename_i t y j q;simp only[aX]at hc;obtain⟨⟨L,N⟩,ht⟩:=hc;have E:=bO he h1 L;have G:=bO he h2 N;split at ht;rename_i n el z;simp only[aX,beq_iff_eq]at ht;obtain⟨⟨⟨rfl,B⟩,H⟩,C⟩:=ht;split at g;rename_i k m;split at g;rename_i M;obtain⟨r,K,rfl⟩:=iF g;obtain⟨cs,w,_c,_e,_d⟩:=zb K E H B (by simpa using C);have D:=jR G;exact JM hi (v:=w) (by simp[execOp,q,_c,D,Instr.index,asIntOf,run_underlying (Rk z),M,iS B,_e]) _d;cases g;cases g;cases ht;cases hc
theorem JPl(hi:Inv s)(he:bR s a.tmps env){len _l x i}(h:(_z F (.aaddr len _l x i) _m).run ⟨env,s.σ⟩=Z e)(hc:JZ P (.aaddr len _l x i) o.op=O):bQ P o a s e:=by
 simp only[_z]at h;obtain⟨u,h1,_d⟩:=bind_some h;obtain⟨v,h2,C⟩:=bind_some _d;obtain⟨r,g,rfl⟩:=iF C;clear h _d C;unfold JZ at hc;simp only at hc;split at hc;rename_i t y j H;simp only[aX]at hc;obtain⟨⟨_c,R⟩,ht⟩:=hc;have B:=bO he h1 _c;have M:=bO he h2 R;split at ht;rename_i n el _e;simp only[aX,beq_iff_eq]at ht;obtain⟨rfl,N⟩:=ht;unfold MR at g;split at g;rename_i k m;split at g;rename_i Q;have K:=jR M;have go: ∀(r q:Nat),a.eval y=.pointer (Z ⟨r,q,Y⟩)->(execOp a.eval o).run P s.w=.ok (.value (.pointer (Z ⟨r,q+m.toNat*_l,Y⟩))) s.w:=by intro r q A;simp[execOp,H,A,K,Instr.indexAt,asIntOf,run_underlying (Rk _e),Instr.sureAddr,Q,iS N,IR]
 generalize A:a.eval y=z at B;split at g<;>first|(cases g)|cases g
 cases B with
 |ptr _ _ r q L hb=>exact JM hi (go _ _ A) (by rw[da];exact .ptr _ _ r q L hb)
 cases B with
 |cp cs _ r q vals G D=>exact JM hi (go _ _ A) (by rw[da];exact .cp _ _ r q vals G D)
 cases B with
 |ep _ _ _ _ _ wm E _f p0 G D S=>
  obtain⟨r,q,rfl⟩:=p0;refine JM hi (go _ _ A) (.ep _ _ _ _ _ wm E _f ⟨_,_,rfl⟩ G D λU T=>?_);grind
 cases g;cases g;cases ht;cases hc
theorem JOT(hi:Inv s)(he:bR s a.tmps env){_l x i}(h:(_z F (.iaddr _l x i) _m).run ⟨env,s.σ⟩=Z e)(hc:JZ P (.iaddr _l x i) o.op=O):bQ P o a s e:=by
 simp only[_z]at h;obtain⟨u,h1,N⟩:=bind_some h;obtain⟨v,h2,g⟩:=bind_some N;clear h N;unfold JZ at hc;simp only at hc;split at hc;rename_i t y j M;simp only[aX]at hc;obtain⟨⟨E,hj⟩,ht⟩:=hc;have G:=bO he h1 E;have S:=bO he h2 hj;split at ht;rename_i el _c;simp only[beq_iff_eq]at ht;have go: ∀(r A len cap:Nat) k (m:Int),a.eval j=.int k m->a.eval y=.slice (Z ⟨r,A,Y⟩) len cap->0<=m->m<len->
   (execOp a.eval o).run P s.w=.ok (.value (.pointer (Z ⟨r,A+m.toNat*_l,Y⟩))) s.w:=by
  intro r A len cap k m C D _a _e;simp[execOp,M,D,C,Instr.indexAt,asIntOf,run_underlying (iT _c),_a,_e,iS ht,IR]
 unfold mS at g;split at g;rename_i B _f k n;split at g;rename_i Q;subst Q;split at g;rename_i row q;simp only[RM.run]at g;cases g;unfold ft at q;split at q;rename_i L;have C:=jR S;generalize D:a.eval y=z at G;cases G with
 |p _ _ V=>
  cases V with
  |sl0 _ ad cap=>simp at q
  |sl _ _ r A cap vals p1 p2 T U=>have _e:=JA q;refine JM hi (go r A _ cap k n C D L (by omega)) ?_;have:=JH.cp (s:=s) row 0 r (A+n.toNat*_l) (λj=>vals n.toNat j) (λj x E=>T n.toNat j row x q E) (λj x E=>U n.toNat j row x q E);simp_all
 cases q;cases g;cases g;rename_i b j' m k n;simp only[RM.run]at g;split at g;rename_i blk hb;split at g;rename_i wm B _f;split at g;rename_i K;obtain⟨rfl,R,L,a7⟩:=K;simp only[RM.run]at g;cases g;have C:=jR S;generalize D:a.eval y=z at G;cases G with
 |_r _ _ _ _ wm' B rows' q0 H q2 q3=>
  have _d:s.σ[b]?=Z (.arr wm _l _f):=hb;rw[_d]at H;injection H with H;injection H with a1 a2 a3;subst a1 a2 a3;rcases q3 R with⟨_,_,a6,_⟩|⟨r,cap,c,e1,fz,_b,hv,W,hh,hs⟩;omega;subst hv;refine JM hi (go r _ _ cap k n C D L (by omega)) (.ep _ _ _ _ _ wm _l _f ⟨_,_,rfl⟩ _d (zQ0 _) λ_ _=>⟨r,_b,?_⟩);grind
 cases g;cases g;cases g;cases g;cases ht;cases hc
end
end Go.Am
end
section
namespace Go.Am
theorem fM(a b:List (Nat×_x))(σ:List _x):upd (a++b) σ=upd b (upd a σ):=by simp[upd]
section
variable {P:Program} {F:Orc} {s:Sn} {a:Act} {env:List (Nat×AV)} {o:Oper} {_m:Nat} {e:Eff}
theorem OP{e:List _x}(hi:Inv s)(j:Frz e s.σ){b i n:Nat}{y:List PV×List (Nat×_x)}{v:Value}(h:(fz (._r b i n)).run ⟨env,e⟩=Z y)(hr:JH s (._r b i n) v):
  ∃g',Inv ⟨upd y.2 s.σ,g',s.w⟩/\bE s ⟨upd y.2 s.σ,g',s.w⟩/\Frz s.σ (upd y.2 s.σ)/\ ∃c,y.1=[c]/\J08 s.w g'.C c v:=by
 simp only[fz,RM.run]at h;split at h;rename_i blk hb;split at h;rename_i wm _l _f;split at h;rename_i hc;simp only[RM.run]at h;cases h;obtain⟨wm',g⟩:=j.1 b _ _ _ hb;obtain⟨g',h1,h2,o,k⟩:=JMW hi hr g hc;exact⟨g',h1,h2,o,_,rfl,k⟩;cases h;cases h;cases h
theorem JQw{e:List _x}(hi:Inv s)(j:Frz e s.σ){x:AV}{y:List PV×List (Nat×_x)}{v:Value}(h:(fz.fz1 x).run ⟨env,e⟩=Z y)(hr:JH s x v):
  ∃g',Inv ⟨upd y.2 s.σ,g',s.w⟩/\bE s ⟨upd y.2 s.σ,g',s.w⟩/\Frz s.σ (upd y.2 s.σ)/\ ∃c,y.1=[c]/\J08 s.w g'.C c v:=by
 cases x with
 |p c=>
  simp only[fz.fz1,RM.run]at h;cases h;cases hr with
  |p _ _ hr=>exact⟨s.g,hi,.refl s,.refl _,c,rfl,hr⟩
 |_r b i n=>exact OP hi j (by exact h) hr
 |_=>grind [fz.fz1,RM.run]
theorem O1{A:List _x}: ∀{xs:List AV} {s:Sn} {y:List PV×List (Nat×_x)} {vs:List Value},Inv s->Frz A s.σ->(fz.fzL xs).run ⟨env,A⟩=Z y->xs.length=vs.length->
  (∀(i:Nat) x v,xs[i]?=Z x->vs[i]?=Z v->JH s x v)->
  ∃g',Inv ⟨upd y.2 s.σ,g',s.w⟩/\bE s ⟨upd y.2 s.σ,g',s.w⟩/\Frz s.σ (upd y.2 s.σ)/\y.1.length=vs.length/\
   ∀(i:Nat) c v,y.1[i]?=Z c->vs[i]?=Z v->J08 s.w g'.C c v
 |[],s,y,vs,hi,j,h,e,k=>by
  simp only[fz.fzL,RM.run]at h;cases h;exact⟨s.g,hi,.refl s,.refl _,by simpa using e,λi c v hc=>by simp at hc⟩
 |x::xs,s,y,[],hi,j,h,e,k=>by simp at e
 |x::xs,s,y,v::vs,hi,j,h,e,k=>by
  simp only[fz.fzL]at h;obtain⟨o,h1,h⟩:=bind_some h;obtain⟨H,h2,h⟩:=bind_some h;simp only[RM.run]at h;cases h;obtain⟨D,i1,z,r,c,hc,G⟩:=JQw hi j h1 (k 0 x v rfl rfl);obtain⟨B,i2,q,E,F,L⟩:=O1 (s:=⟨upd o.2 s.σ,D,s.w⟩) i1 (j.trans r) h2 (by simpa using e) λi x v _e _d=>(k (i+1) x v (by simpa using _e) (by simpa using _d)).mono hi z;refine⟨B,by grind [fM],by rw[fM];exact z.trans q,by rw[fM];exact r.trans E,by simp[hc,F],λi c' K hc' n=>?_⟩;rw[hc]at hc';cases i with
  |zero=>simp at hc' n;subst hc' n;exact J08.mono (s0:=⟨upd o.2 s.σ,D,s.w⟩) (s:=⟨upd H.2 (upd o.2 s.σ),B,s.w⟩) i1 q G
  |succ i=>grind
theorem xo{k:List _x}(hi:Inv s)(j:Frz k s.σ){x:AV}{y:List PV×List (Nat×_x)}{v:Value}(h:(fz x).run ⟨env,k⟩=Z y)(hr:JH s x v):
  ∃g',Inv ⟨upd y.2 s.σ,g',s.w⟩/\bE s ⟨upd y.2 s.σ,g',s.w⟩/\Frz s.σ (upd y.2 s.σ)/\y.1.length=v.cells.size/\
   ∀(i:Nat) c u,y.1[i]?=Z c->v.cells[i]?=Z u->J08 s.w g'.C c u:=by
 cases x with
 |p c=>
  simp only[fz,RM.run]at h;cases h;cases hr with
  |p _ _ hr=>
   refine⟨s.g,hi,.refl s,.refl _,by rw[hr.cells1];rfl,λi c' u hc e=>?_⟩;rw[hr.cells1]at e;grind
 |data cs=>
  simp only[fz,RM.run]at h;cases h;cases hr with
  |data _ vs h1 h2=>exact⟨s.g,hi,.refl s,.refl _,h1,λi c u hc e=>h2 i c u hc e⟩
 |_r b i n=>
  obtain⟨g',h1,h2,q,c,hc,o⟩:=OP hi j h hr;refine⟨g',h1,h2,q,by rw[hc,o.cells1];rfl,λi c' u hc' e=>?_⟩;rw[o.cells1]at e;grind
 |agg cs=>
  simp only[fz]at h;cases hr with
  |agg _ vs h1 G h2=>
   obtain⟨g',A,E,B,F,D⟩:=O1 (vs:=vs.toList) hi j h (by simpa using h1) λi x v r z=>h2 i x v r (by simpa using z);grind [Value.cells]
 |_=>grind [fz,RM.run]
theorem IF(he:bR s a.tmps env){x:Option Opd}{y:Option Operand}{v:Option AV}(h:(evo x).run ⟨env,s.σ⟩=Z v)(hc:yE x y=O):
  (v=Y/\y=Y)\/ ∃u q,v=Z u/\y=Z q/\JH s u (a.eval q):=by
 cases x with
 |none=>
  grind [evo,RM.run,yE]
 |some x=>
  cases y with
  |none=>grind [yE]
  |some y=>
   simp only[evo]at h;obtain⟨u,h1,h⟩:=bind_some h;simp only[RM.run]at h;cases h;exact .inr ⟨u,y,rfl,rfl,bO he h1 hc⟩
theorem VN{x:AV}{top n j:Nat}{v:Value}(h:oL (Z x) top j=Z n)(hr:JH s x v)(g:Nat)(o:top<=g)(k:BoundsCode)(w:World):
  (Instr.sliceBound v g k).run P w=.ok n w/\n<=top:=by
 unfold oL at h;split at h;simp_all;rename_i e;cases e;split at h;rename_i hc;cases h;have:=jR hr;grind [Instr.sliceBound,asIntOf,Sem.run_pure];cases h;cases h
theorem JMM{n:Nat}{lo hi:Option AV}{c:Nat×Nat}(h:pN n lo hi=Z c):oL hi n n=Z c.2/\oL lo c.2 0=Z c.1:=by
 grind [pN]
theorem OO(he:bR s a.tmps env){lo hi:Option Opd}{lo' hi':Option Operand}{l h:Option AV}{len cap:Nat}{c:Nat×Nat}{isSlice:Bool}
  (h1:(evo lo).run ⟨env,s.σ⟩=Z l) (h2:(evo hi).run ⟨env,s.σ⟩=Z h) (r:yE lo lo'=O) (z:yE hi hi'=O)
  (hc:pN len l h=Z c) (n:len<=cap) (w:World):
  (Instr.sliceBounds isSlice len cap (lo'.map a.eval) (hi'.map a.eval) Y).run P w=.ok (c.1,c.2,cap) w/\c.1<=c.2/\c.2<=len:=by
 obtain⟨k,e⟩:=JMM hc;obtain⟨i,j⟩:=c;rcases IF he h2 z with⟨rfl,rfl⟩|⟨u,q,rfl,rfl,x⟩;simp[oL]at k;subst k;rcases IF he h1 r with⟨rfl,rfl⟩|⟨y,q',rfl,rfl,g⟩;simp[oL]at e;subst e;simp[Instr.sliceBounds];obtain⟨o,v⟩:=VN (P:=P) e g len (zQ0 _) .sliceB w;simp_all [Instr.sliceBounds];rcases IF he h1 r with⟨rfl,rfl⟩|⟨y,q',rfl,rfl,g⟩;obtain⟨o,v⟩:=VN (P:=P) k x cap n (if isSlice then .sliceAcap else .sliceAlen) w;simp[oL]at e;subst e;simp_all [Instr.sliceBounds];obtain⟨o,v⟩:=VN (P:=P) k x cap n (if isSlice then .sliceAcap else .sliceAlen) w;obtain⟨A,B⟩:=VN (P:=P) e g j (zQ0 _) .sliceB w;simp_all [Instr.sliceBounds]
theorem N8{_l:Nat}{_f:List (List PV)}{v:Value}{i j:Nat}(h:J08 s.w s.g.C (.sl _l _f) v)(hij:i<=j)(hj:j<=_f.length):
  ∃e cap,v=.slice e _f.length cap/\_f.length<=cap/\
   J08 s.w s.g.C (.sl _l ((_f.drop i).take (j-i))) (.slice (if cap=i then e else e.map (·.add (i*_l))) (j-i) (cap-i)):=by
 have hlen:((_f.drop i).take (j-i)).length=j-i:=by simp;omega
 cases h with
 |sl0 _ e cap=>
  have n:j=0:=by simpa using hj
  have hi':i=0:=by omega
  subst n hi';refine⟨e,cap,rfl,zQ2 _,?_⟩;simpa using J08.sl0 (w:=s.w) (C:=s.g.C) _l _ _
 |sl _ _ r o cap vals z y E F=>
  refine⟨_,cap,rfl,z,?_⟩;by_cases q:cap=i;have A:j-i=0:=by omega
  rw[A];simpa using J08.sl0 (w:=s.w) (C:=s.g.C) _l _ _;rw[if_neg q];have:=J08.sl (w:=s.w) (C:=s.g.C) _l ((_f.drop i).take (j-i)) r (o+i*_l) (cap-i) (λk m=>vals (i+k) m) (by omega)
   (λrow B=>y row (zQ7 (FP B)))
   (λk m row x hk D=>by
    grind)
   (λk m row x hk D=>by
    grind)
  grind [IR]
def CL(k:SK)(x:AV)(lo hi:Option AV):Option AV:=
 match k with
 | .str=>yP x lo hi
 | .sl _l=>yN _l x lo hi
theorem Pm(hi:Inv s){k:SK}{t:TypeId}{y:Operand}{A z:Option Operand}{q:Operand}{c:PV}{l hh:Option AV}{u r:AV}{g':Gh}{ws:List (Nat×_x)}
  (D:o.op=.slice t y A z (Z q)) (ht:(match k with
   | .str=>lS P t
   | .sl _l=>(match elT P t with|some e=>szT P e==Z _l|none=>J))=O)
  (hl:l=Y->A=Y) (F: ∀G,hh=Z G-> ∃q',z=Z q'/\JH s G (a.eval q')) (hu:JH s u (a.eval q))
  (hs:lX k (.p c) l hh (Z u)=Z r) (hi':Inv ⟨upd ws s.σ,g',s.w⟩) (t':bE s ⟨upd ws s.σ,g',s.w⟩) (hr:J08 s.w g'.C c (a.eval y)):bQ P o a s ⟨r,ws⟩:=by
 cases k with
 |str=>grind [lX]
 |sl _l=>
  simp only[lX]at hs;unfold gp at hs;split at hs;rename_i M _f N h1 R S h;cases h;split at hs;rename_i hc;obtain⟨rfl,rfl,rfl⟩:=hc;cases hs;obtain⟨q',rfl,B⟩:=F _ rfl;obtain rfl:=hl rfl;have U:=jR B;have T:=jR hu;simp only at ht;split at ht;rename_i el E;simp only[beq_iff_eq]at ht;obtain⟨g,cap,H,L,hrel⟩:=N8 (s:=⟨s.σ,g',s.w⟩) (i:=0) (j:=_f.length) hr (zQ2 _) (zQ0 _);have hb: ∀w:World,(Instr.sliceBounds O _f.length cap Y (Z (a.eval q')) (Z (a.eval q))).run P w=.ok (0,_f.length,_f.length) w:=by simp_all [Instr.sliceBounds,Instr.sliceBound,asIntOf]
  have n:J08 s.w g'.C (.slc _l _f) (.slice g _f.length _f.length):=by
   refine .slc _l _f g ?_;rw[H]at hr;cases hr with
   |sl0=>exact .sl0 _ _ _
   |sl _ _ r o cap vals Q K _e _d=>exact .sl _l _f r o _f.length vals (zQ0 _) K _e _d
  refine gP (e:=⟨_,ws⟩) (w':=s.w) (g':=g') (v:=.slice g _f.length _f.length) ?_ hi' t' (.p _ _ n);have _c:(if _f.length=0 then g else g.map λx=>x.add (0*_l))=g:=by simp[Addr.add]
  simp only[execOp,D,H];simp[Instr.sliceAt,Instr.slice,run_underlying (iT E),hb,iS ht];simp_all;cases ht;cases hs;cases hs
theorem JNS(hi:Inv s)(he:bR s a.tmps env){k x lo hi' mx}(h:(_z F (.slice k x lo hi' mx) _m).run ⟨env,s.σ⟩=Z e)(hc:JZ P (.slice k x lo hi' mx) o.op=O):bQ P o a s e:=by
 simp only[_z]at h;obtain⟨u,h1,h⟩:=bind_some h;obtain⟨l,h2,h⟩:=bind_some h;obtain⟨B,N,h⟩:=bind_some h;obtain⟨m,h4,h⟩:=bind_some h;unfold JZ at hc;simp only at hc;split at hc
 ·rename_i t y U S aa A;simp only[aX]at hc;obtain⟨⟨⟨⟨hx,M⟩,L⟩,c3⟩,ht⟩:=hc;have j:=bO he h1 hx;rcases IF he h4 c3 with⟨rfl,rfl⟩|⟨um,qm,rfl,rfl,_e⟩
  case inr=>
   have E:l=Y->U=Y:=(by grind [IF]);have H: ∀_a,B=Z _a-> ∃q',S=Z q'/\JH s _a (a.eval q'):=(by grind [IF]);split at h;rename_i b i n;obtain⟨y',_c,h⟩:=bind_some h;obtain⟨g',i1,_b,f1,c,_d,T⟩:=OP hi (.refl _) _c j;split at h;rename_i c' hc';rw[_d]at hc';cases hc';split at h;rename_i r q;simp only[RM.run]at h;cases h;exact Pm hi A ht E H _e q i1 _b T;cases h;cases h;rename_i x' R;obtain⟨r,q,rfl⟩:=iF h;cases u with
   |p c=>
    cases j with
    |p _ _ j=>exact Pm (ws:=[]) (g':=s.g) hi A ht E H _e q hi (.refl s) j
   |_=>grind [lX,gp]
  have v: ∀{c:AV} {r},lX k c l B Y=Z r->(Y:Option Operand)=Y/\CL k c l B=Z r:=by intro c r hs;exact⟨rfl,hs⟩
  have Q: ∀{b:List UInt8} {r},lX k (.p (.s b)) l B Y=Z r->a.eval y=.string ⟨b.toArray⟩->bQ P o a s ⟨r,[]⟩:=by
   intro b r hs hz;obtain⟨_,D⟩:=v hs;clear hs;have hs:=D;clear D;cases k with
   |sl _l=>grind [CL,yN]
   |str=>
    simp only[CL,yP]at hs;split at hs;rename_i c hc;cases hs;have a8:=yZ ht;obtain⟨hb,hij,a7⟩:=OO (P:=P) (isSlice:=false) (cap:=b.length) he h2 N M L hc (zQ0 _) s.w;have a9:(⟨b.toArray⟩:ByteArray).extract c.1 c.2=⟨((b.drop c.1).take (c.2-c.1)).toArray⟩:=by apply ByteArray.ext;simp_all
    simp_all [JM,Qz,execOp,Instr.sliceAt,Instr.slice,run_underlying,vT];cases hs
  have z: ∀{s':Sn} {ws} {_l _f r} {g'},s'=⟨upd ws s.σ,g',s.w⟩->Inv s'->bE s s'->lX k (.p (.sl _l _f)) l B Y=Z r->J08 s'.w s'.g.C (.sl _l _f) (a.eval y)->bQ P o a s ⟨r,ws⟩:=by
   intro s' ws _l _f r g' hs' hi' t' hs q;obtain⟨_,D⟩:=v hs;clear hs;have hs:=D;clear D;cases k with
   |str=>grind [CL,yP]
   |sl ez=>
    simp only[CL,yN]at hs;split at hs;rename_i W;subst W;split at hs;rename_i c hc;cases hs;simp only at ht;split at ht;rename_i el V;simp only[beq_iff_eq]at ht;have G:=OO (P:=P) (isSlice:=true) he h2 N M L hc (zQ0 _) s.w;obtain⟨ad,cap,hv,K,hrel⟩:=N8 q G.2.1 G.2.2;obtain⟨hb,_,_⟩:=OO (P:=P) (isSlice:=true) he h2 N M L hc K s.w;subst hs';refine gP (e:=⟨_,ws⟩) (w':=s.w) (g':=g') ?_ hi' t' (.p _ _ hrel);simp only[execOp,A,hv];simp[Instr.sliceAt,Instr.slice,run_underlying (iT V),hb,iS ht];cases ht;cases hs;cases hs
  split at h;rename_i b i n;obtain⟨y',_c,h⟩:=bind_some h;obtain⟨g',i1,_b,f1,c,_d,T⟩:=OP hi (.refl _) _c j;grind [RM.run,fz];rename_i x' R;obtain⟨r,q,rfl⟩:=iF h;cases u with
  |p c=>
   cases c with
   |s b=>grind [vO]
   |sl _l _f=>cases j with|p _ _ j=>exact z (s':=s) (ws:=[]) (g':=s.g) rfl hi (.refl s) q j
   |_=>grind [CL,yP,yN]
  |_r b i n=>simp_all
  |_=>grind [CL,yP,yN]
 cases hc
end
end Go.Am
end
section
namespace Go.Am
section
variable {P:Program} {F:Orc} {s:Sn} {a:Act} {env:List (Nat×AV)} {o:Oper} {_m:Nat} {e:Eff}
theorem zh(hi:Inv s){agg:Bool}{size:Nat}{x:AV}{v:Value}(h:(iD agg size x).run ⟨env,s.σ⟩=Z e)(hr:JH s x v):
  ∃r o vs,v=.pointer (Z ⟨r,o,Y⟩)/\vs.length=size/\(∀(k:Nat) u,vs[k]?=Z u->cellAt s.w r (o+k)=Z u)/\e.ws=[]/\
   ((agg=O/\JH s e.val (.agg vs.toArray))\/(agg=J/\ ∃u,vs=[u]/\JH s e.val u)):=by
 unfold iD at h;split at h;rename_i cs off;split at h;rename_i l z;obtain⟨r',A,rfl⟩:=iF h;obtain⟨n,_e,H⟩:=NY z;cases hr with
 |cp _ _ r o vals q M=>
  have P: ∀(i:Nat) y u,l[i]?=Z y->((List.range size).map λi=>vals (off+i))[i]?=Z u->J08 s.w s.g.C y u:=(by grind);refine⟨r,o+off,(List.range size).map λi=>vals (off+i),rfl,by simp,λk u D=>?_,rfl,jt A (by simp[n]) P⟩;grind
 cases h
 ·rename_i b off;simp only[RM.run]at h;split at h
  ·rename_i blk hb;split at h
   ·rename_i cs;split at h
    ·rename_i l z;obtain⟨r',A,rfl⟩:=iF h;obtain⟨n,_e,H⟩:=NY z;cases hr with
     |ptr _ _ r o m V=>
      obtain⟨N,_b,c,T,fz,j,R,_d,S,hf⟩:=hi.box b cs hb;rw[m]at j;injection j with j;injection j with m1 m2;subst m1 m2;have B: ∀k,k<size-> ∃u,c[o+(off+k)]?=Z u/\u.oneCell'=O/\ ∀y,l[k]?=Z y->JH s y u:=(by grind);refine⟨r,o+off,(List.range size).map λi=>(c[o+(off+i)]?).getD .nilFunc,rfl,by simp,λk u D=>?_,rfl,SI A (by simp[n]) (λv K=>?_) λi y u Q D=>?_⟩
      all_goals grind [kX]
    cases h
   cases h
  cases h
 ·rename_i b ext i off;simp only[RM.run]at h;split at h
  ·rename_i blk hb;split at h
   ·rename_i wm _l _f;split at h
    ·rename_i G;split at h
     ·rename_i row F;split at h
      ·rename_i l z;obtain⟨r',A,rfl⟩:=iF h;obtain⟨n,_e,H⟩:=NY z;have E:s.σ[b]?=Z (.arr wm _l _f):=hb;cases hr with
       |ep _ _ _ _ _ wm' _c rows' p0 q M L=>
        rw[E]at q;injection q with q;injection q with a1 a2 a3;subst a1 a2 a3;have U:=JA F;obtain⟨r,m,K⟩:=L G (by omega);rcases hi.arr b _ _ _ E with⟨j,_⟩|⟨N,c,T,fz,j,R,W,_d,S,hf⟩;simp_all
        ·rw[m]at j;injection j with j;injection j with m1 _;subst m1
         have B: ∀k,k<size-> ∃u,c[i*_l+(off+k)]?=Z u/\ ∀y,l[k]?=Z y->J08 s.w s.g.C y u:=(by grind);refine⟨r,i*_l+off,(List.range size).map λk=>(c[i*_l+(off+k)]?).getD .nilFunc,K,by simp,λk u D=>?_,rfl,jt A (by simp[n]) λk y u Q D=>?_⟩
         all_goals grind [kX]
      cases h
     cases h
    cases h
   cases h
  cases h
 cases h
theorem Bv{t:TypeId}{agg:Bool}{size:Nat}(ht:agT P t=Z agg)(hs:szT P t=Z size){r o:Nat}{vs:List Value}{w:World}(hl:vs.length=size)
  (h: ∀(k:Nat) u,vs[k]?=Z u->cellAt w r (o+k)=Z u):
  (agg=O->(loadVar t ⟨r,o,Y⟩).run P w=.ok (.agg vs.toArray) w)/\(agg=J-> ∀u,vs=[u]->(loadVar t ⟨r,o,Y⟩).run P w=.ok u w):=by
 constructor;rintro rfl;subst hl;simp_all [loadVar,IJ,iS,zo];rintro rfl u rfl;have:=h 0 u rfl;simp_all [loadVar,IJ,tN]
theorem JRP(hi:Inv s)(he:bR s a.tmps env){agg size x}(h:(_z F (.load agg size x) _m).run ⟨env,s.σ⟩=Z e)(hc:JZ P (.load agg size x) o.op=O):bQ P o a s e:=by
 simp only[_z]at h;obtain⟨u,h1,n⟩:=bind_some h;clear h;unfold JZ at hc;simp only at hc;split at hc
 ·rename_i t y A;simp only[aX,beq_iff_eq]at hc;obtain⟨⟨⟨ht,hs⟩,z⟩,C⟩:=hc;obtain⟨r,E,vs,H,v,g,j,k⟩:=zh hi n (bO he h1 z);obtain⟨B,G⟩:=Bv (P:=P) ht hs v g;obtain⟨ev,D⟩:=e;simp only at j k;subst j;rcases k with⟨rfl,w⟩|⟨rfl,q,rfl,w⟩
  all_goals simp_all [JM,execOp,Instr.loadAt,Instr.sureAddr]
 cases hc
theorem WO{x:AV}{l:List AV}{v:Value}(h:cellsOf x=Z l)(hr:JH s x v):
  l.length=v.cells.size/\(∀u∈v.cells.toList,u.oneCell'=O)/\ ∀(i:Nat) y u,l[i]?=Z y->v.cells[i]?=Z u->JH s y u:=by
 have e: ∀{z:AV},JH s z v->v.cells= #[v]->v.oneCell'=O->l=[z]->l.length=v.cells.size/\(∀u∈v.cells.toList,u.oneCell'=O)/\ ∀(i:Nat) y u,l[i]?=Z y->v.cells[i]?=Z u->JH s y u:=(by grind);cases hr with
 |p c _ q=>simp[cellsOf]at h;exact e (.p _ _ q) q.cells1 q.one h.symm
 |data cs vs h1 h2=>
  simp[cellsOf]at h;subst h;refine⟨by grind [Value.cells],λu A=>?_,λi y u w A=>?_⟩;obtain⟨i,hi⟩:=jK A;have hi:vs[i]?=Z u:=by grind [Value.cells]
  have F:=VU hi;exact(h2 i cs[i] u (by simp_all) hi).one;rw[iL]at w;cases hcs:cs[i]? with
  |none=>simp_all
  |some c=>simp[hcs]at w;subst w;exact .p _ _ (h2 i c u hcs A)
 |agg cs vs h1 G h2=>
  grind [cellsOf,Value.cells,List.getElem?_of_mem]
 |tup=>grind [cellsOf]
 |unk=>grind [cellsOf]
 |pre=>simp[cellsOf]at h
 |ptr b off r o m hb=>simp[cellsOf]at h;exact e (.ptr b off r o m hb) rfl rfl h.symm
 |cp cs off r o vals j g=>simp[cellsOf]at h;exact e (.cp cs off r o vals j g) rfl rfl h.symm
 |_r b i n _ wm _l _f p0 j g k=>obtain⟨B,cap,rfl,E⟩:=p0;simp[cellsOf]at h;exact e (._r b i n _ wm _l _f ⟨B,cap,rfl,E⟩ j g k) rfl rfl h.symm
 |ep b ext i off _ wm _l _f p0 j g k=>obtain⟨r,o,rfl⟩:=p0;simp[cellsOf]at h;exact e (.ep b ext i off _ wm _l _f ⟨r,o,rfl⟩ j g k) rfl rfl h.symm
 |fn f first caps fs cs h1 h2 D C=>simp[cellsOf]at h;exact e (.fn f first caps fs cs h1 h2 D C) rfl rfl h.symm
theorem JSC(hi:Inv s)(he:bR s a.tmps env)(hn:s.σ[_m]?=Z .dead){size x}(h:(_z F (.box size x) _m).run ⟨env,s.σ⟩=Z e)(hc:JZ P (.box size x) o.op=O):bQ P o a s e:=by
 simp only[_z]at h;obtain⟨u,h1,g⟩:=bind_some h;clear h;unfold JZ at hc;simp only at hc;split at hc;rename_i t y B;have z:=bO he h1 hc;split at g;rename_i cs hcs;split at g;cases g;obtain⟨C,q,n⟩:=WO hcs z;obtain⟨r,t'⟩:=TL hi hn (blk:=.box cs) (c:=(a.eval y).cells) (e:=t) (fz:=(0,0)) (w':={s.w with heap:=s.w.heap.push (.cells (a.eval y).cells t)}) rfl rfl rfl
  (λo _ _ h=>by simp at h) (λ_ _ _ h=>by cases h) ⟨by omega,λi x j=>by
   have A:=JA j;have k:i<(a.eval y).cells.size:=by omega
   exact⟨(a.eval y).cells[i],by simp,n i x _ j (by simp),q _ (by simp)⟩⟩
 refine gP (e:=⟨.ptr _m 0,[(_m,.box cs)]⟩) (v:=.pointer (Z ⟨s.w.heap.size,0,Y⟩)) ?_ r t' (.ptr _m 0 _ 0 (if_pos rfl) ⟨cs,kD hn⟩);simp_all [execOp,Instr.box,newVar,newRow];cases g;cases g;cases hc
theorem zD{zero:List PV}{t:TypeId}(h:nY P zero t=O): ∃v,zeT P t=Z v/\zero.length=v.cells.size/\
  ∀{w C} (i:Nat) x u,zero[i]?=Z x->v.cells[i]?=Z u->J08 w C x u:=by
 unfold nY at h;split at h;rename_i v e;refine⟨v,e,?_,λi x u j g=>?_⟩;simpa using(US (w:=default) (C:=λ_ _=>True) h).1;exact(US h).2 i x u j (by simpa using g);cases h
theorem IN{t:TypeId}{v:Value}(h:zeT P t=Z v)(w:World):(zeroValue t).run P w=.ok v w:=by unfold zeT at h;cases hi:P.info? t<;>simp_all [zeroValue,Cz]
theorem JMs(hi:Inv s)(hn:s.σ[_m]?=Z .dead){zero}(h:(_z F (.newbox zero) _m).run ⟨env,s.σ⟩=Z e)(hc:JZ P (.newbox zero) o.op=O):bQ P o a s e:=by
 simp only[_z,RM.run]at h;cases h;unfold JZ at hc;simp only at hc;split at hc;rename_i t z;obtain⟨v,A,q,r⟩:=zD hc;obtain⟨n,t'⟩:=TL hi hn (blk:=.box (zero.map .p)) (c:=v.cells) (e:=t) (fz:=(0,0)) (w':={s.w with heap:=s.w.heap.push (.cells v.cells t)}) rfl rfl rfl
  (λo _ _ h=>by simp at h) (λ_ _ _ h=>by cases h) ⟨by simp[q],λi x j=>by
   rw[iL]at j;cases hz:zero[i]? with
   |none=>simp[hz]at j
   |some c=>
    simp[hz]at j;subst j;have y:=JA hz;have k:i<v.cells.size:=by omega
    have:=r (w:=s.w) (C:=s.g.C) i c v.cells[i] hz (by simp);exact⟨v.cells[i],by simp,.p _ _ this,this.one⟩⟩
 refine gP (e:=⟨.ptr _m 0,[(_m,.box (zero.map .p))]⟩) (v:=.pointer (Z ⟨s.w.heap.size,0,Y⟩)) ?_ n t' (.ptr _m 0 _ 0 (if_pos rfl) ⟨_,kD hn⟩);simp_all [execOp,Instr.alloc,IN,newVar,newRow];cases hc
theorem JNT(hi:Inv s)(hn:s.σ[_m]?=Z .dead){_l x}(h:(_z F (.mkarr _l x) _m).run ⟨env,s.σ⟩=Z e)(hc:JZ P (.mkarr _l x) o.op=O):bQ P o a s e:=by
 simp only[_z,RM.run]at h;cases h;obtain⟨k,t'⟩:=TT hi hn _l;have hrel:JH ⟨s.σ.set _m (.arr O _l []),fV s.g _m Y,s.w⟩ (._r _m 0 0) (.slice Y 0 0):=
  ._r _m 0 0 _ O _l [] ⟨Y,0,rfl,.inl rfl⟩ (kD hn) (zQ0 _) λ_=>.inl ⟨if_pos rfl,rfl,rfl,rfl⟩
 unfold JZ at hc;simp only at hc;split at hc;rename_i j;exact gP (e:=⟨._r _m 0 0,[(_m,.arr O _l [])]⟩) (v:=.slice Y 0 0) (by simp only[execOp,j];rfl) k t' hrel;rename_i j;exact gP (e:=⟨._r _m 0 0,[(_m,.arr O _l [])]⟩) (v:=.slice Y 0 0) (by simp only[execOp,j];rfl) k t' hrel;cases hc
theorem UA{α:Type}{cs vs cs':List α}{off:Nat}(h:spl cs off vs=Z cs'):cs'.length=cs.length/\off+vs.length<=cs.length/\
  (∀(i:Nat),i<vs.length->cs'[off+i]?=vs[i]?)/\ ∀k,(k<off\/off+vs.length<=k)->cs'[k]?=cs[k]?:=by
 unfold spl at h;split at h;simp_all
 ·split at h
  ·rename_i hc;cases h;refine⟨by simp;omega,hc,λi hi=>?_,λk hk=>?_⟩
   all_goals grind
  cases h
theorem JJF{w:World}{r o:Nat}{vs:List Value}{c:Array Value}{et:TypeId}{fz:Nat×Nat}(hh:w.heap[r]?=Z (.cells c et fz))(hl:o+vs.length<=c.size)
  (hf:GJ fz o (o+vs.length)) (h1: ∀v∈vs,v.oneCell'=O):(storeCells ⟨r,o,Y⟩ vs).run P w=.ok () (w.setCells r o vs):=by
 have:=run_storeCells_cells (P:=P) r o vs 0 w
  (λj e=>by rw[tN,kX hh];simp;omega)
  (λj e=>by
   have:=hf (o+0+j) (by omega) (by omega);grind [World.frozen?]) h1
 simp_all
theorem oy{t:TypeId}{v:Value}{w:World}{r o:Nat}{c:Array Value}{et:TypeId}{fz:Nat×Nat}(hs:szT P t=Z v.cells.size)(hh:w.heap[r]?=Z (.cells c et fz))(hl:o+v.cells.size<=c.size)
  (hf:GJ fz o (o+v.cells.size)) (h1: ∀u∈v.cells.toList,u.oneCell'=O):(storeVar t ⟨r,o,Y⟩ v).run P w=.ok () (w.setCells r o v.cells.toList):=by
 have:=JJF (P:=P) (vs:=v.cells.toList) hh (by simpa using hl) (by simpa using hf) h1;simp_all [storeVar,iS]
theorem nh{o:Oper}{e:Eff}{w':World}{g':Gh}(hr:(execOp a.eval o).run P s.w=.ok .skip w')(g:e.val=iE)
  (hi:Inv ⟨upd e.ws s.σ,g',w'⟩) (t:bE s ⟨upd e.ws s.σ,g',w'⟩):bQ P o a s e:=by
 intro next Q h;simp only[Oper.wp,hr,Oper.upon];exact h undef w' g' hi t (by rw[g];exact .tup _ _ rfl λi x v h=>by simp at h)
theorem M1{b:Nat}: ∀{ws:List (Nat×_x)} {σ:List _x},(ws.all λy=>y.1 !=b)=O->(upd ws σ)[b]?=σ[b]?
 |[],_,_=>rfl
 |y::ws,σ,h=>by simp only[List.all_cons,aX,bne_iff_ne]at h;show(upd ws (σ.set y.1 y.2))[b]?=_;rw[M1 h.2,tS h.1]
theorem JOD(hi:Inv s)(he:bR s a.tmps env){size x y}(h:(_z F (.store size x y) _m).run ⟨env,s.σ⟩=Z e)(hc:JZ P (.store size x y) o.op=O):bQ P o a s e:=by
 simp only[_z]at h;obtain⟨u,h1,h'⟩:=bind_some h;obtain⟨v,h2,g⟩:=bind_some h';clear h h';unfold JZ at hc;simp only at hc;split at hc;rename_i t x' n bz;simp only[aX,beq_iff_eq]at hc;obtain⟨⟨hs,hx⟩,hy⟩:=hc;have rx:=bO he h1 hx;have ry:=bO he h2 hy;have _b: ∀{r _d:Nat} {w':World},a.eval x'=.pointer (Z ⟨r,_d,Y⟩)->(storeVar t ⟨r,_d,Y⟩ (a.eval n)).run P s.w=.ok () w'->(execOp a.eval o).run P s.w=.ok .skip w':=by simp_all [execOp,Instr.storeAt,Instr.sureAddr]
 unfold jE at g;split at g;rename_i b off;simp only[RM.run]at g;split at g;rename_i blk hb;split at g;rename_i cs;split at g;rename_i l hl;split at g;rename_i aj;split at g;rename_i cs' a6;cases g;have hb:s.σ[b]?=Z (.box cs):=hb;generalize hz:a.eval x'=z at rx;cases rx with
 |ptr _ _ r _d m bt=>
  obtain⟨k1,k2,k3⟩:=WO hl ry;obtain⟨j1,j2,_a,j4⟩:=UA a6;obtain⟨r1,o1,c,D,fz,C,Q,ao,W,hf⟩:=hi.box b cs hb;rw[m]at C;injection C with C;injection C with m1 m2;subst m1 m2;have B:=KG (vs:=(a.eval n).cells.toList) (o:=_d+off) Q (by simp;omega);have hlen:(a.eval n).cells.toList.length=l.length:=by simp[k1]
  obtain⟨i',t'⟩:=nu hi (blk:=.box cs') hb B (λk h1 h2=>by
   grind [Wr1]) (.box _ _ j1) (λbs q E=>by
   cases q;obtain⟨c0,e0,ap,c',A,p2,p3,p4,p5,p6⟩:=B.there;rw[Q]at A;injection A with A;injection A with _e q2 q3;subst _e q2 q3;refine⟨r,_d,c',D,fz,m,p2,by omega,λi x an=>?_,by simp_all⟩;by_cases ax:off<=i/\i<off+l.length;have D:cs'[off+(i-off)]?=l[i-off]?:=_a (i-off) (by omega);rw[show off+(i-off)=i by omega,an]at D;have H:i-off<(a.eval n).cells.size:=by omega
   have e2:=p5 (i-off) (a.eval n).cells[i-off] (by simp);refine⟨(a.eval n).cells[i-off],by rw[<-e2];congr 1;omega,E (k3 (i-off) x _ D.symm (by simp)),k2 _ (by simp)⟩;grind)
   (λ_ _ q=>by cases q)
  refine nh (e:=⟨iE,[(b,.box cs')]⟩) (_b hz (oy (by simp_all) Q (by omega) (λk h1 h2=>hf k (by omega) (by omega)) k2)) rfl i' t'
 cases g;cases g;cases g;cases g;cases g;rename_i b ext i off;simp only[RM.run]at g;split at g;rename_i blk hb;split at g;rename_i _l _f;split at g;rename_i a8;split at g;rename_i row M;obtain⟨G,h3,R⟩:=bind_some g;split at R;rename_i S;split at R;rename_i L T;cases R;have hb:s.σ[b]?=Z (.arr O _l _f):=hb;obtain⟨aj,b7⟩:=S;obtain⟨g1,i1,t1,f1,l1,r1⟩:=xo hi (.refl _) h3 ry;have _c:(upd G.2 s.σ)[b]?=Z (.arr O _l _f):=by grind [M1]
 have V:=rx.mono hi t1;obtain⟨j1,j2,_a,j4⟩:=UA T;have a5: ∀u∈(a.eval n).cells.toList,u.oneCell'=O:=by
  intro u hu;obtain⟨k,hk⟩:=jK hu;have hk:(a.eval n).cells[k]?=Z u:=by simpa using hk
  have H:=VU hk;exact(r1 k G.1[k] u (by simp_all) hk).one
 generalize hz:a.eval x'=z at V;cases V with
 |ep _ _ _ _ _ wm' a0 rows' p0 A p2 p3=>
  have A:(upd G.2 s.σ)[b]?=Z (.arr wm' a0 rows'):=A;rw[_c]at A;injection A with A;injection A with a1 a2 a3;subst a1 a2 a3;have H:=JA M;obtain⟨r,m,hv⟩:=p3 a8 (by omega);rcases i1.arr b _ _ _ _c with⟨C,_⟩|⟨rr,c,D,fz,C,Q,am,ao,W,hf⟩;simp_all;rw[m]at C;injection C with C;injection C with m1 _;subst m1;have b1:=am row (jV M);have hlen:(a.eval n).cells.toList.length=G.1.length:=by simp[l1]
  have bf:i*_l+_l<=_f.length*_l:=(by have:=zQ4 _l (show i+1<=_f.length from H);grind);have K:s.w.heap[r]?=Z (.cells c D fz):=Q;have B:=KG (vs:=(a.eval n).cells.toList) (o:=i*_l+off) K (by grind);obtain⟨i2,t2⟩:=nu (s0:=⟨upd G.2 s.σ,g1,s.w⟩) i1 (blk:=.arr O _l (_f.set i L)) _c B (λk h1 h2=>by
   grind [Wr1]) (.arr _ _ _ (by simp)) (λ_ q=>by cases q) (λb6 b0 q E=>by
   injection q with _ h1 h2;subst h1 h2;obtain⟨c0,e0,ap,c',_e,q2,q3,q4,q5,q6⟩:=B.there;rw[K]at _e;injection _e with _e;injection _e with w1 w2 w3;subst w1 w2 w3;refine .inr ⟨r,c',D,fz,m,q2,λbw bu=>?_,by simp;omega,λk j a4 x0 hk hj=>⟨?_,λh=>by cases h⟩,by simp_all⟩;grind;have bi:=JA hj;by_cases U:k=i;subst U;rw[sW H]at hk;cases hk;by_cases ax:off<=j/\j<off+G.1.length;have D:=_a (j-off) (by omega);rw[show off+(j-off)=j by omega,hj]at D;have N:j-off<(a.eval n).cells.size:=by omega
   have e2:=q5 (j-off) (a.eval n).cells[j-off] (by simp);refine⟨(a.eval n).cells[j-off],by rw[<-e2];congr 1;omega,E (r1 (j-off) x0 _ D.symm (by simp))⟩;grind;rw[AN (Ne.symm U)]at hk;obtain⟨⟨v',aw,ah⟩,_⟩:=W k j a4 x0 hk hj;refine⟨v',?_,E ah⟩;rw[q6 _ ?_];exact aw;have ak:j<_l:=by grind
   rw[hlen];rcases zQ3 k i with N|bx;left;have:=mX N ak;omega;right;have:=zQ4 _l (show i+1<=k by omega);grind)
  refine nh (e:=⟨iE,G.2++[(b,.arr O _l (_f.set i L))]⟩) (g':=g1) (_b (hz.trans hv) (oy (by simp_all) K (by grind) (λk h1 h2=>hf.1 k (by omega) (by grind)) a5)) rfl ?_ ?_;rw[fM];exact i2;rw[fM];exact t1.trans t2
 cases R;cases R;cases g;cases g;cases g;cases g;cases g;cases hc
end
end Go.Am
end
section
namespace Go.Am
theorem JGU(vs:List Value): ∀(k:Nat) (off:Nat) (cs:Array Value),off+k+vs.length<=cs.size->
  let r:=(vs.zipIdx k).foldl (λcs (x:Value×Nat)=>cs.setIfInBounds (off+x.2) x.1) cs
  r.size=cs.size/\(∀(j:Nat) v,vs[j]?=Z v->r[off+k+j]?=Z v)/\ ∀i,(i<off+k\/off+k+vs.length<=i)->r[i]?=cs[i]?:=by
 induction vs with
 |nil=>simp_all
 |cons v vs ih=>
  intro k off cs h;simp only[rC]at h;have:=ih (k+1) off (cs.setIfInBounds (off+k) v) (by simp;omega);simp only[List.zipIdx_cons,List.foldl_cons];obtain⟨h1,h2,e⟩:=this;grind
section
variable {P:Program} {F:Orc} {s:Sn} {a:Act} {env:List (Nat×AV)} {o:Oper} {_m:Nat} {e:Eff}
theorem zd{place:Nat->Option (Nat×Nat)}{cells:Array Value}{i:Nat}{v:Value}{rest:List (Nat×Value)}{off size:Nat}(hp:place i=Z (off,size))(hs:v.cells.size=size)(hl:off+size<=cells.size):
  ∃e:Array Value,Instr.fill place cells ((i,v)::rest)=Instr.fill place e rest/\e.size=cells.size/\(∀(j:Nat) u,v.cells[j]?=Z u->e[off+j]?=Z u)/\
   ∀k,(k<off\/off+size<=k)->e[k]?=cells[k]?:=by
 subst hs;obtain⟨h1,h2,h⟩:=JGU v.cells.toList 0 off cells (by simp;omega);refine⟨v.cells.zipIdx.foldl (λcs (c,j)=>cs.setIfInBounds (off+j) c) cells,?_,?_,?_,?_⟩;grind [Instr.fill]
 all_goals (have g:v.cells.zipIdx.foldl (λcs (x:Value×Nat)=>cs.setIfInBounds (off+x.2) x.1) cells=(v.cells.toList.zipIdx 0).foldl (λcs (x:Value×Nat)=>cs.setIfInBounds (off+x.2) x.1) cells:=by
             rw[<-Array.foldl_toList];simp)
 all_goals simp_all
theorem ms{place:Nat->Option (Nat×Nat)}: ∀{parts:List (Nat×Nat×List AV)} {ps:List (Nat×Value)} {cs cs':List AV} {cells:Array Value},
  rX parts cs=Z cs'->parts.length=ps.length->
  (∀(k:Nat) off size l i v,parts[k]?=Z (off,size,l)->ps[k]?=Z (i,v)->place i=Z (off,size)/\l.length=v.cells.size/\(∀u∈v.cells.toList,u.oneCell'=O)/\
   ∀(j:Nat) y u,l[j]?=Z y->v.cells[j]?=Z u->JH s y u)->
  cs.length=cells.size->(∀(i:Nat) x,cs[i]?=Z x-> ∃u,cells[i]?=Z u/\JH s x u/\u.oneCell'=O)->
  ∃e,Instr.fill place cells ps=Z e/\cs'.length=e.size/\ ∀(i:Nat) x,cs'[i]?=Z x-> ∃u,e[i]?=Z u/\JH s x u/\u.oneCell'=O
 |[],[],cs,cs',cells,h,_,_,hl,hr=>by simp[rX]at h;subst h;exact⟨cells,rfl,hl,hr⟩
 |[],_::_,_,_,_,_,hl,_,_,_=>by simp at hl
 |_::_,[],_,_,_,_,hl,_,_,_=>by simp at hl
 |(off,size,l)::parts,(i,v)::ps,cs,cs',cells,h,hlen,hp,hl,hr=>by
  unfold rX at h;split at h;rename_i C;split at h;rename_i E n;obtain⟨z,G,q,r⟩:=hp 0 off size l i v rfl rfl;obtain⟨F,L,w,H⟩:=UA n;obtain⟨g,_e,_d,A,K⟩:=zd (v:=v) (rest:=ps) (cells:=cells) z (by omega) (by omega);obtain⟨e,P,N,M⟩:=ms (cells:=g) h (by simpa using hlen) (λk off size l i v h1 h2=>hp (k+1) off size l i v (by simpa using h1) (by simpa using h2)) (by omega) (λk x hk=>by
   by_cases D:off<=k/\k<off+l.length;have o:=w (k-off) (by omega);rw[show off+(k-off)=k by omega,hk]at o;have B:k-off<v.cells.size:=by omega
   have _c:=A (k-off) v.cells[k-off] (by simp);exact⟨v.cells[k-off],by simp_all,r (k-off) x _ o.symm (by simp),q _ (by simp)⟩;grind)
  simp_all;cases h;cases h
theorem n5(he:bR s a.tmps env){place:Nat->Option (Nat×Nat)}: ∀{parts:List (Nat×Nat×Opd)} {ps:List (Nat×Operand)} {l:List (Nat×Nat×List AV)},
  (lW parts).run ⟨env,s.σ⟩=Z l->tQ place parts ps=O->
  l.length=(ps.map λx=>(x.1,a.eval x.2)).length/\
  ∀(k:Nat) off size cs i v,l[k]?=Z (off,size,cs)->(ps.map λx=>(x.1,a.eval x.2))[k]?=Z (i,v)->place i=Z (off,size)/\cs.length=v.cells.size/\(∀u∈v.cells.toList,u.oneCell'=O)/\
   ∀(j:Nat) y u,cs[j]?=Z y->v.cells[j]?=Z u->JH s y u
 |[],[],l,h,_=>by
  grind [lW,RM.run]
 |[],_::_,_,_,hc=>by grind [tQ]
 |_::_,[],_,_,hc=>by grind [tQ]
 |(off,size,x)::parts,(i,y)::ps,l,h,hc=>by
  simp only[tQ,aX,beq_iff_eq]at hc;obtain⟨⟨w,e⟩,hc⟩:=hc;simp only[lW]at h;obtain⟨v,h1,h⟩:=bind_some h;split at h;rename_i cs hcs;obtain⟨o,h2,h⟩:=bind_some h;simp only[RM.run]at h;cases h;obtain⟨g,n⟩:=n5 he h2 hc;obtain⟨q,z,r⟩:=WO hcs (bO he h1 e);grind;cases h
theorem oa: ∀{fs:List Field},(∀f∈fs,(szT P f.type).isSome=O)-> ∀w:World,
  (fs.mapM λf=>do pure (f.offset,<-sizeOf f.type):Sem (List (Nat×Nat))).run P w=.ok (fs.map λf=>(f.offset,(szT P f.type).getD 0)) w
 |[],_,w=>by simp
 |f::fs,h,w=>by
  have hs:(szT P f.type)=Z ((szT P f.type).getD 0):=by have:=h f (by simp);cases hq:szT P f.type<;>simp[hq]at this⊢
  have ih:=oa (fs:=fs) (λg e=>h g (by simp[e])) w;rw[List.mapM_cons];simp only[AS,iS hs,uY,db,ih];simp
theorem JO0(hi:Inv s)(he:bR s a.tmps env){zero parts}(h:(_z F (.build zero parts) _m).run ⟨env,s.σ⟩=Z e)(hc:JZ P (.build zero parts) o.op=O):bQ P o a s e:=by
 simp only[_z]at h;obtain⟨l,h1,D⟩:=bind_some h;clear h;unfold JZ at hc;simp only at hc;split at hc;rename_i t ps _a;simp only[aX]at hc;obtain⟨V,ht⟩:=hc;obtain⟨z,a0,_d,K⟩:=zD V;split at D;rename_i cs hcs;obtain⟨r,W,rfl⟩:=iF D;have B: ∀(i:Nat) x,(zero.map AV.p)[i]?=Z x-> ∃u,z.cells[i]?=Z u/\JH s x u/\u.oneCell'=O:=by
  intro i x H;rw[iL]at H;cases hzi:zero[i]? with
  |none=>simp_all
  |some c=>
   simp[hzi]at H;subst H;have _e:=JA hzi;have Q:i<z.cells.size:=by omega
   have:=K (w:=s.w) (C:=s.g.C) i c z.cells[i] hzi (by simp);exact⟨z.cells[i],by simp,.p _ _ this,this.one⟩
 have fin: ∀{place:Nat->Option (Nat×Nat)},tQ place parts ps.toList=O->
   ∃j,Instr.fill place z.cells (ps.toList.map λx=>(x.1,a.eval x.2))=Z j/\JH s r (.agg j):=by
  intro place A;obtain⟨_c,S⟩:=n5 he h1 A;obtain⟨j,E,R,U⟩:=ms (s:=s) (cells:=z.cells) hcs _c S (by simp[_d]) B;refine⟨j,E,?_⟩;have:=SI (s:=s) (vs:=j.toList) W (by simpa using R) (λv N=>by
    obtain⟨i,hi'⟩:=jK N;have hi':j[i]?=Z v:=by simpa using hi'
    have _e:=VU hi';obtain⟨u,M,_,h1⟩:=U i cs[i] (by simp_all);simp_all)
   (λi y v hy N=>by
    grind)
  simp_all
 have a1:(ps.map λx=>(x.1,a.eval x.2)).toList=ps.toList.map λx=>(x.1,a.eval x.2):=by simp
 split at ht;rename_i fs M;simp only[aX]at ht;obtain⟨k,A⟩:=ht;obtain⟨j,E,G⟩:=fin A;have _b:(λi=>(fs.map λf=>(f.offset,(szT P f.type).getD 0))[i]?)=IE P fs:=by
  funext i
  simp only[IE,Array.getElem?_map];cases hfi:fs[i]? with
  |none=>rfl
  |some f=>have:=ek.1 k f (Array.mem_of_getElem? hfi);cases L:szT P f.type<;>simp[L]at this⊢
 refine JM hi (v:=.agg j) ?_ G;have T:(fs.mapM λf=>do pure (f.offset,<-sizeOf f.type):Sem (Array (Nat×Nat))).run P s.w=.ok (fs.map λf=>(f.offset,(szT P f.type).getD 0)) s.w:=by
  rw[Array.mapM_eq_mapM_toList];simp only[Sem.run_map,oa (P:=P) (fs:=fs.toList) (λf hf=>ek.1 k f (by simpa using hf)),uY]
  congr 1
  grind
 have hf:Instr.fill (λi=>(fs.map λf=>(f.offset,(szT P f.type).getD 0))[i]?) z.cells (ps.map λx=>(x.1,a.eval x.2)).toList=Z j:=by simp_all
 simp_all [Instr.build,IN,run_underlying,execOp];rename_i n el M;split at ht;rename_i q L;obtain⟨j,E,G⟩:=fin ht;refine JM hi (v:=.agg j) ?_ G;have hb:(Instr.build t (ps.map λx=>(x.1,a.eval x.2))).run P s.w=.ok (.agg j) s.w:=by simp_all [Instr.build,IN,run_underlying,iS]
 simp_all [execOp];cases ht;cases ht;cases D;cases hc
end
end Go.Am
end
section
namespace Go.Am
def tE(s:Sn)(_l:Nat)(_f:List (List PV))(c:Array Value):Prop:=(∀row∈_f,row.length=_l)/\_f.length*_l<=c.size/\ ∀(i j:Nat) row x,_f[i]?=Z row->row[j]?=Z x-> ∃u,c[i*_l+j]?=Z u/\J08 s.w s.g.C x u
section
variable {P:Program} {F:Orc} {s:Sn} {a:Act} {env:List (Nat×AV)} {o:Oper} {_m:Nat} {e:Eff}
theorem tE.mono{s0 s:Sn}(hi:Inv s0)(t:bE s0 s){_l _f c}(h:tE s0 _l _f c):tE s _l _f c:=
 ⟨h.1,h.2.1,λi j row x e g=>let⟨u,h1,h2⟩:=h.2.2 i j row x e g;⟨u,h1,h2.mono hi t⟩⟩
theorem lr{s0:Sn}(hi:Inv s0)(hn:s0.σ[_m]?=Z .dead){_l:Nat}{_f:List (List PV)}{c:Array Value}{et:TypeId}{fz:Nat×Nat}{w':World}{cap:Nat}
  (hh:w'.heap=s0.w.heap.push (.cells c et fz)) (ho:w'.os=s0.w.os) (hp:w'.output=s0.w.output) (hf:yD _l fz c.size) (hr:tE s0 _l _f c) (e:_f.length<=cap) (g:cap*_l<=c.size):
  (∃g',Inv ⟨s0.σ.set _m (.arr O _l _f),g',w'⟩/\bE s0 ⟨s0.σ.set _m (.arr O _l _f),g',w'⟩/\
   JH ⟨s0.σ.set _m (.arr O _l _f),g',w'⟩ (._r _m 0 _f.length) (.slice (Z ⟨s0.w.heap.size,0,Y⟩) _f.length cap)):=by
 obtain⟨j,t'⟩:=TL hi hn (blk:=.arr O _l _f) hh ho hp hf.1 (λ_ _ _ h=>by injection h with _ h _;subst h;exact hf.2) hr;refine⟨_,j,t',._r _m 0 _ _ O _l _f ⟨_,_,rfl,.inr (by simp)⟩ (kD hn) (by omega) λ_=>.inr ⟨s0.w.heap.size,cap,c,et,fz,if_pos rfl,by simp,e,VK hh,by simpa using g⟩⟩
theorem nv{s0:Sn}(hi:Inv s0){_l:Nat}{_f:List (List PV)}{c:Array Value}{et:TypeId}{fz:Nat×Nat}{w':World}{cap:Nat}
  (hh:w'.heap=s0.w.heap.push (.cells c et fz)) (ho:w'.os=s0.w.os) (hp:w'.output=s0.w.output) (hr:tE s0 _l _f c) (e:_f.length<=cap):
  (∃g',Inv ⟨s0.σ,g',w'⟩/\bE s0 ⟨s0.σ,g',w'⟩/\JH ⟨s0.σ,g',w'⟩ (.p (.sl _l _f)) (.slice (Z ⟨s0.w.heap.size,0,Y⟩) _f.length cap)):=by
 obtain⟨g,t'⟩:=JMD hi hh ho hp;refine⟨_,g,t',.p _ _ (ou (s:=⟨s0.σ,_,w'⟩) rfl e hr.1 (.inr ⟨_,0,rfl,λi j row x hi' h=>⟨.inr rfl,?_⟩⟩))⟩;obtain⟨u,k,hrel⟩:=hr.2.2 i j row x hi' h;exact⟨u,by grind [kX],hrel.mono hi t'⟩
theorem Qx{E:List _x}{tmps:Array Value}(he: ∀n x,lk n env=Z x-> ∃v,a.tmps[n]?=Z v): ∀{xs:List Opd} {e:List Operand} {s:Sn} {y:List (List PV)×List (Nat×_x)},Inv s->Frz E s.σ->bR s a.tmps env->
  (fzs xs).run ⟨env,E⟩=Z y->jL xs e=O->
  ∃g',Inv ⟨upd y.2 s.σ,g',s.w⟩/\bE s ⟨upd y.2 s.σ,g',s.w⟩/\Frz s.σ (upd y.2 s.σ)/\y.1.length=e.length/\
   ∀(k:Nat) cs q,y.1[k]?=Z cs->e[k]?=Z q->cs.length=(a.eval q).cells.size/\ ∀(i:Nat) c u,cs[i]?=Z c->(a.eval q).cells[i]?=Z u->J08 s.w g'.C c u
 |[],[],s,y,hi,o,r,h,_=>by
  simp only[fzs,RM.run]at h;cases h;exact⟨s.g,hi,.refl s,.refl _,rfl,λk cs q h=>by simp at h⟩
 |[],_::_,_,_,_,_,_,_,hc=>by grind [jL]
 |_::_,[],_,_,_,_,_,_,hc=>by grind [jL]
 |x::xs,q::e,s,y,hi,o,r,h,hc=>by
  simp only[jL,aX]at hc;simp only[fzs]at h;obtain⟨v,h1,h⟩:=bind_some h;obtain⟨j,h2,h⟩:=bind_some h;obtain⟨M,P,h⟩:=bind_some h;simp only[RM.run]at h;cases h;have D:(ev x).run ⟨env,s.σ⟩=Z v:=by cases x<;>simp_all [ev,RM.run]
  have N:=bO r D hc.1;obtain⟨H,i1,B,A,K,_e⟩:=xo hi o h2 N;obtain⟨F,i2,z,_d,L,Q⟩:=Qx (tmps:=tmps) he (s:=⟨upd j.2 s.σ,H,s.w⟩) i1 (o.trans A) (r.mono hi B) P hc.2;refine⟨F,by grind [fM],by rw[fM];exact B.trans z,by rw[fM];exact A.trans _d,by simp[L],λk cs q' hk G=>?_⟩;cases k with
  |zero=>simp at hk G;subst hk G;exact⟨K,λi c u hc _c=>J08.mono (s0:=⟨upd j.2 s.σ,H,s.w⟩) (s:=⟨upd M.2 (upd j.2 s.σ),F,s.w⟩) i1 z (_e i c u hc _c)⟩
  |succ k=>grind
theorem Al{_l:Nat}(y:0<_l): ∀{parts:List (Nat×List PV)} {ps:List (Nat×Value)} {_f rows':List (List PV)} {cells:Array Value},
  DC _l parts _f=Z rows'->parts.length=ps.length->
  (∀(k:Nat) i cs j v,parts[k]?=Z (i,cs)->ps[k]?=Z (j,v)->i=j/\cs.length=v.cells.size/\ ∀(m:Nat) c u,cs[m]?=Z c->v.cells[m]?=Z u->J08 s.w s.g.C c u)->
  tE s _l _f cells->cells.size=_f.length*_l->
  ∃e,Instr.fill (λi=>Z (i*_l,_l)) cells ps=Z e/\tE s _l rows' e/\rows'.length=_f.length/\e.size=_f.length*_l
 |[],[],_f,rows',cells,h,_,_,hr,hs=>by simp[DC]at h;subst h;exact⟨cells,rfl,hr,rfl,hs⟩
 |[],_::_,_,_,_,_,hl,_,_,_=>by simp at hl
 |_::_,[],_,_,_,_,hl,_,_,_=>by simp at hl
 |(i,cs)::parts,(j,v)::ps,_f,rows',cells,h,hlen,hp,hr,hs=>by
  unfold DC at h;split at h;rename_i hc;obtain⟨rfl,K,A⟩:=hp 0 i cs j v rfl rfl;have B:i*_l+_l<=_f.length*_l:=(by have:=zQ4 _l (show i+1<=_f.length from hc.2);grind);obtain⟨n,L,N,E,D⟩:=zd (place:=λi=>Z (i*_l,_l)) (v:=v) (rest:=ps) (cells:=cells) (i:=i) rfl (by omega) (by omega);obtain⟨F,S,G⟩:=hr;obtain⟨e,Q,P,_c,M⟩:=Al y (cells:=n) h (by simpa using hlen) (λk i cs j v h1 h2=>hp (k+1) i cs j v (by simpa using h1) (by simpa using h2))
   ⟨λrow R=>by
     grind,by simp;omega,λk m row x hk o=>by
     by_cases q:k=i;subst q;rw[sW hc.2]at hk;cases hk;have _d:=JA o;have r:m<v.cells.size:=by omega
     exact⟨v.cells[m],E m _ (by simp),A m x _ o (by simp)⟩;rw[AN (Ne.symm q)]at hk;obtain⟨u,H,hrel⟩:=G k m row x hk o;refine⟨u,?_,hrel⟩;rw[D _ ?_];exact H;have z:=JA o;rw[F row (jV hk)]at z;rcases zQ3 k i with r|_e;grind [mX];right;have:=zQ4 _l (show i+1<=k by omega);grind⟩ (by simp;omega)
  grind;cases h
theorem TR{t:TypeId}{n:Nat}(h:szT P t=Z n): ∃i,P.info? t=Z i/\i.size=n:=by simp_all [szT]
theorem ke{t:TypeId}{v:Value}{i:TypeInfo}(h:zeT P t=Z v)(hi:P.info? t=Z i):i.zero=Z v:=by
 grind [zeT]
theorem Q5{t:TypeId}{n:Nat}{i:TypeInfo}(h:byT P t=Z n)(hi:P.info? t=Z i):i.bytes=n:=by
 grind [byT]
theorem JPf{z:Array Value}{_l n i j:Nat}(hz:z.size=_l)(hi:i<n)(hj:j<_l):(madeCells z (n*_l))[i*_l+j]?=z[j]?:=by
 grind [mX,Nat.add_mul_mod_self_right,Nat.mod_eq_of_lt,madeCells]
theorem Bj{zero:List PV}{z:Value}{_l n m:Nat}(hl:zero.length=_l)(k:zero.length=z.cells.size)
  (g: ∀{w C} (i:Nat) x u,zero[i]?=Z x->z.cells[i]?=Z u->J08 w C x u) (q:n<=m):tE s _l (_J n zero) (madeCells z.cells (m*_l)):=by
 refine⟨λrow v=>by simp_all,?_,λi j row x hi h=>?_⟩;simp_all [size_madeCells,zQ4];have e:=JA hi;have:=List.eq_of_mem_replicate (jV hi);subst this;have o:=JA h;simp at e;have r:z.cells.size=_l:=by omega
 refine⟨z.cells[j],?_,g j x _ h (by simp)⟩;grind [JPf]
theorem JJL(hi:Inv s)(he:bR s a.tmps env){own _l bytes zero l c}(hn:own=O->s.σ[_m]?=Z .dead)(h:(_z F (._E own _l bytes zero l c) _m).run ⟨env,s.σ⟩=Z e)
  (hc:JZ P (._E own _l bytes zero l c) o.op=O):bQ P o a s e:=by
 simp only[_z]at h;obtain⟨u,h1,D⟩:=bind_some h;obtain⟨v,h2,g⟩:=bind_some D;clear h D;unfold JZ at hc;simp only at hc;split at hc;rename_i t _a c' _b;simp only[aX]at hc;obtain⟨⟨W,C⟩,ht⟩:=hc;have T:=bO he h1 W;have U:=bO he h2 C;split at ht;rename_i el E;simp only[aX,beq_iff_eq,decide_eq_true_eq]at ht;obtain⟨⟨⟨⟨⟨hs,K⟩,V⟩,H⟩,R⟩,Q⟩:=ht;obtain⟨i,j,_e⟩:=TR hs;obtain⟨z,G,_d,L⟩:=zD V;have _c:=Q5 K j;split at g;rename_i k n S m;split at g;rename_i r;obtain⟨M,N,hb,hm⟩:=r;have e1:=jR T;have e2:=jR U;have A:=run_make (P:=P) s.w t el i z (iT E) j (ke G j) k S n m M N (by simp_all) (by omega);rw[_e]at A;have q:tE s _l (_J n.toNat zero) (madeCells z.cells (m.toNat*_l)):=Bj H _d L (by omega);have x:(execOp a.eval o).run P s.w=.ok (.value (.slice (Z ⟨s.w.heap.size,0,Y⟩) n.toNat m.toNat)) (s.w.alloc (.cells (madeCells z.cells (m.toNat*_l)) el)):=by simp_all [execOp]
 split at g;rename_i y;simp only[RM.run]at g;cases g;obtain⟨g',B,t',r'⟩:=lr hi (hn y) (w':=s.w.alloc (.cells (madeCells z.cells (m.toNat*_l)) el)) (fz:=(0,0)) rfl rfl rfl (yD.zero _ _) q (cap:=m.toNat) (by simp;omega) (by simp[size_madeCells]);simp only[BN]at r';exact gP x B t' r';simp only[RM.run]at g;cases g;obtain⟨g',B,t',r'⟩:=nv hi (w':=s.w.alloc (.cells (madeCells z.cells (m.toNat*_l)) el)) (fz:=(0,0)) rfl rfl rfl q (cap:=m.toNat) (by simp;omega);simp only[BN]at r';exact gP (e:=⟨_,[]⟩) x B t' r';cases g;cases g;cases ht;cases hc
theorem JRG(hi:Inv s)(he:bR s a.tmps env){own _l n zero parts}(hn:own=O->s.σ[_m]?=Z .dead)(h:(_z F (.lits own _l n zero parts) _m).run ⟨env,s.σ⟩=Z e)
  (hc:JZ P (.lits own _l n zero parts) o.op=O):bQ P o a s e:=by
 simp only[_z]at h;obtain⟨y,h1,r⟩:=bind_some h;clear h;unfold JZ at hc;simp only at hc;split at hc;rename_i t len ps ac;simp only[aX,beq_iff_eq]at hc;obtain⟨rfl,ht⟩:=hc;split at ht;rename_i el _e;simp only[aX,beq_iff_eq,decide_eq_true_eq]at ht;obtain⟨⟨⟨⟨⟨hs,ad⟩,hz⟩,_a⟩,N⟩,M⟩:=ht;obtain⟨z,W,a0,a4⟩:=zD hz;have A:jL (parts.map (·.2)) (ps.toList.map (·.2))=O/\parts.map (·.1)=ps.toList.map (·.1):=by
  have: ∀{p:List (Nat×Opd)} {q:List (Nat×Operand)},MP p q=O->jL (p.map (·.2)) (q.map (·.2))=O/\p.map (·.1)=q.map (·.1):=by
   intro p
   induction p with
   |nil=>intro q h;cases q<;>simp[MP]at h⊢;rfl
   |cons x p ih=>intro q h;cases q<;>grind [MP,jL]
  exact this M
 obtain⟨T,i1,t1,f1,l1,r1⟩:=Qx (tmps:=a.tmps) (λn x hx=>let⟨v,h,_⟩:=he n x hx;⟨v,h⟩) hi (.refl _) he h1 A.1;split at r;rename_i _f G;have E:(parts.map (·.1)).length=(ps.toList.map (·.1)).length:=by rw[A.2]
 simp at E;simp at l1;have R:((parts.map (·.1)).zip y.1).length=(ps.toList.map λx=>(x.1,a.eval x.2)).length:=by simp;omega
 obtain⟨g,_c,r2,B,V⟩:=Al (s:=⟨upd y.2 s.σ,T,s.w⟩) N (ps:=ps.toList.map λx=>(x.1,a.eval x.2)) (cells:=madeCells z.cells (len*_l)) G R (λk i cs j v hk S=>by
   rw[List.getElem?_zip_eq_some]at hk;obtain⟨H,U⟩:=hk;rw[iL]at S;cases hpk:ps.toList[k]? with
   |none=>simp_all
   |some q=>
    simp[hpk]at S;obtain⟨rfl,rfl⟩:=S;rw[A.2,iL,hpk]at H;simp at H;obtain⟨k3,k4⟩:=r1 k cs q.2 U (by simp_all);grind)
  (Bj _a a0 a4 (zQ0 _)) (by simp[size_madeCells])
 simp at B V;have _d:(execOp a.eval o).run P s.w=.ok (.value (.slice (Z ⟨s.w.heap.size,0,Y⟩) len len)) (s.w.alloc (.cells g el)):=by
  have D: ¬(len*_l>2^24):=by omega
  have K:(ps.map fun(x:Nat×Operand)=>(x.1,a.eval x.2)).toList=ps.toList.map λx=>(x.1,a.eval x.2):=by simp
  have hb:(Instr.buildSlice t len (ps.map fun(x:Nat×Operand)=>(x.1,a.eval x.2))).run P s.w=.ok (.slice (Z ⟨s.w.heap.size,0,Y⟩) len len) (s.w.alloc (.cells g el)):=by
   unfold Instr.buildSlice;by_cases h0:len*_l=0;have C:madeCells z.cells (len*_l)= #[]:=by grind [madeCells]
   rw[C]at _c;have _b: ¬((0:Nat)>2^24):=by decide
   have a3:Array.range 0= #[]:=rfl;simp only[_b,AS,run_underlying (iT _e),uY,iS hs,D,if_false,h0,if_true,db,K,a3,Array.map_empty,_c,newRow,run_newObj];rfl;have C:((Array.range (len*_l)).map λx=>z.cells[x%z.cells.size]!)=madeCells z.cells (len*_l):=rfl;simp only[AS,run_underlying (iT _e),uY,iS hs,D,if_false,h0,IN W,db,K,C,_c,newRow,run_newObj];rfl
  simp_all [execOp]
 split at r;rename_i L;simp only[RM.run]at r;cases r;have a1:(upd y.2 s.σ)[_m]?=Z .dead:=f1.2 _ _ (hn L) (by simp);obtain⟨g',Q,t',r'⟩:=lr (s0:=⟨upd y.2 s.σ,T,s.w⟩) i1 a1 (w':=s.w.alloc (.cells g el)) (fz:=(0,0)) rfl rfl rfl (yD.zero _ _) r2 (cap:=len) (by omega) (by omega);rw[B]at r';refine gP (e:=⟨_,y.2++[(_m,.arr O _l _f)]⟩) (g':=g') _d ?_ ?_ ?_;rw[fM];exact Q;rw[fM];exact t1.trans t';rw[fM];exact r';simp only[RM.run]at r;cases r;obtain⟨g',Q,t',r'⟩:=nv (s0:=⟨upd y.2 s.σ,T,s.w⟩) i1 (w':=s.w.alloc (.cells g el)) (fz:=(0,0)) rfl rfl rfl r2 (cap:=len) (by omega);rw[B]at r';exact gP (e:=⟨_,y.2⟩) _d Q (t1.trans t') r';cases r;cases ht;cases hc
end
end Go.Am
end
section
namespace Go.Am
section
variable {P:Program} {F:Orc} {s:Sn} {a:Act} {env:List (Nat×AV)} {o:Oper} {_m:Nat} {e:Eff}
theorem Bk(l:List UInt8)(c:Array Value)(hc: ∀(i:Nat) b,l[i]?=Z b->c[i]?=Z (.int .u8 b.toNat))(hl:l.length<=c.size):tE s 1 (l.map oJ) c:=by
 refine⟨λrow g=>?_,by simpa using hl,λi j row x hi e=>?_⟩;obtain⟨b,_,rfl⟩:=oA.1 g;rfl;rw[iL]at hi;cases hli:l[i]? with
 |none=>simp_all
 |some b=>
  simp[hli]at hi;subst hi;have:j=0:=by grind [oJ]
  subst this;simp[oJ]at e;subst e;exact⟨_,by simp_all,.i _ _⟩
theorem Qc{α:Type}{_l:Nat}: ∀{_f:List (List α)},(∀row∈_f,row.length=_l)-> ∀{i j:Nat} {row:List α} {x:α},_f[i]?=Z row->row[j]?=Z x->_f.flatten[i*_l+j]?=Z x
 |[],_,i,j,row,x,h,_=>by simp at h
 |r0::g,e,i,j,row,x,h,n=>by
  have o:r0.length=_l:=e r0 (by simp);cases i with
  |zero=>
   grind
  |succ i=>
   simp only[uT];rw[uO (by grind)];have:=Qc (_f:=g) (λrow k=>e row (by simp[k])) (by simpa using h) n;grind
theorem JEx{el:TypeId}(l:List UInt8)(w:World): ∃w' cap c fz,(Conv.stringToBytes el ⟨l.toArray⟩).run P w=.ok (.slice (Z ⟨w.heap.size,0,Y⟩) l.length cap) w'/\
  w'.heap=w.heap.push (.cells c el fz)/\w'.os=w.os/\w'.output=w.output/\GJ fz 0 c.size/\l.length<=cap/\c.size=cap/\ ∀(i:Nat) b,l[i]?=Z b->c[i]?=Z (.int .u8 b.toNat):=by
 have hf:(Question.appendCap l.length 0 el).forced=J:=rfl;have e:l.length<=(Question.appendCap l.length 0 el).cut (w.tape w.drawn (.appendCap l.length 0 el)):=by simp[Question.cut]
 generalize j:(Question.appendCap l.length 0 el).cut (w.tape w.drawn (.appendCap l.length 0 el))=cap at e
 let c:Array Value:=(l.toArray.map λb=>Value.int .u8 b.toNat)++Array.replicate (cap-l.length) (.int .u8 0)
 have hc:c.size=cap:=by simp[c];omega
 refine⟨({w with drawn:=w.drawn+1,heap:=w.heap.push (.cells c el)}).freeze {block:=w.heap.size,off:=c.size} 1,cap,c,(c.size,c.size+1),?_,?_,?_,?_,?_,e,hc,?_⟩;unfold Conv.stringToBytes;have hs:ByteArray.size ⟨l.toArray⟩=l.length:=vT l;have g:World.shape? {w with drawn:=w.drawn+1,heap:=w.heap.push (.cells c el)} w.heap.size=Z (el,c.size):=by simp[World.shape?]
 have k:(Array.map (λb=>Value.int IntKind.u8 ↑(UInt8.toNat b)) l.toArray++Array.replicate (cap-l.length) (Value.int IntKind.u8 0))=c:=rfl;simp only[AS,run_choose,hs,hf,fJ,if_false,uY,j,newRow,run_newObj,db,markStringish,run_shape,run_freeze,k,g];grind [World.freeze];simp[World.freeze];simp[World.freeze];intro o _ h;simp;omega;grind
theorem JKj(hi:Inv s)(he:bR s a.tmps env){own x}(hn:own=O->s.σ[_m]?=Z .dead)(h:(_z F (.conv (.toBytes own) x) _m).run ⟨env,s.σ⟩=Z e)
  (hc:JZ P (.conv (.toBytes own) x) o.op=O):bQ P o a s e:=by
 simp only[_z]at h;obtain⟨u,h1,g⟩:=bind_some h;clear h;unfold JZ at hc;simp only at hc;split at hc;rename_i _d dst y H;simp only[aX]at hc;obtain⟨G,hs,ht⟩:=hc;have D:=bO he h1 G;split at ht;rename_i el _e;simp only[aX,beq_iff_eq]at ht;have r: ∃l,u=.p (.s l)/\(if own=O then RM.ret ⟨._r _m 0 l.length,[(_m,.arr O 1 (l.map oJ))]⟩else RM.ret ⟨.p (.sl 1 (l.map oJ)),[]⟩:RM Eff).run ⟨env,s.σ⟩=Z e:=by
  cases u with
  |p c=>cases c with|s l=>simp_all|_=>cases g
  |_=>cases g
 clear g;obtain⟨l,rfl,g⟩:=r
 skip
 obtain⟨w',cap,c,fz,C,A,z,v,hf,B,hcs,E⟩:=JEx (P:=P) (el:=el) l s.w;have K:=vO D;have k:(execOp a.eval o).run P s.w=.ok (.value (.slice (Z ⟨s.w.heap.size,0,Y⟩) l.length cap)) w':=by simp_all [execOp,convert,run_underlying,yZ,iT,S2]
 have j:=Bk (s:=s) l c E (by omega);split at g;rename_i n;simp only[RM.run]at g;cases g;obtain⟨g',q,t',r'⟩:=lr (_l:=1) hi (hn n) A z v ⟨hf,λh=>absurd rfl h⟩ j (cap:=cap) (by simp_all) (by omega);simp only[dT]at r';exact gP k q t' r';simp only[RM.run]at g;cases g;obtain⟨g',q,t',r'⟩:=nv hi A z v j (cap:=cap) (by simp_all);simp only[dT]at r';exact gP (e:=⟨_,[]⟩) k q t' r';cases ht;cases hc
theorem JSw(hi:Inv s){_l:Nat}{x:AV}{_m:List (List PV)}{v:Value}{u:TypeId}(h:(gO _l x).run ⟨env,s.σ⟩=Z _m)(hr:JH s x v)
  (hu:(elT P u).isSome=O\/lS P u=O):
  ∃news,Src P _l u v _m.length news s.w/\(∀row∈_m,row.length=_l)/\
   ∀(i j:Nat) row y,_m[i]?=Z row->row[j]?=Z y-> ∃q,news[i*_l+j]?=Z q/\J08 s.w s.g.C y q:=by
 have e:(∃e',P.underlying u=Z (.slice e'))\/P.underlying u=Z .string:=(by rcases hu with hu|hu;obtain⟨e',N⟩:=sd.1 hu;simp_all [iT];grind [yZ]);rcases Ar hi h hr with⟨l,rfl,rfl,rfl,rfl⟩|F;have hlen:(byteCells ⟨l.toArray⟩).length=l.length:=by rw[byteCells_length,vT]
 have Q: ∀w:World,(Builtin.firstCells 1 l.length (.string ⟨l.toArray⟩)).run P w=.ok (byteCells ⟨l.toArray⟩).toArray w:=(by grind [firstCells_string,vT]);refine⟨byteCells ⟨l.toArray⟩,⟨e,λw=>by rw[dT,<-vT];rfl,by simp_all,by simp_all,by rw[hlen];simp,λq _e=>by obtain⟨_,_,rfl⟩:=oA.1 _e;rfl⟩,λrow hr=>?_,?_⟩;obtain⟨b,_,rfl⟩:=oA.1 hr;rfl;have:=(Bk (s:=s) l (byteCells ⟨l.toArray⟩).toArray (λi b hb=>by
  grind [byteCells]) (by simp_all)).2.2
 simp_all;obtain⟨D,cap,vs,K,G,hlen,hrel,A,n⟩:=F.cells;have z: ∀q∈vs,q.oneCell'=O:=by
  intro q _e;obtain⟨k,hk⟩:=jK _e;have M:=JA hk;have:k<_m.flatten.length:=by grind [VB]
  obtain⟨q',o,hr⟩:=hrel k _ (aZ this);rw[hk]at o;cases o;exact hr.one
 have B: ∀(i j:Nat) row y,_m[i]?=Z row->row[j]?=Z y-> ∃q,vs[i*_l+j]?=Z q/\J08 s.w s.g.C y q:=by
  intro i j row y h1 h2;refine hrel _ _ ?_;clear hrel A hlen z h hr K G F
  induction _m generalizing i with
  |nil=>simp at h1
  |cons _d _m ih=>have _c:_d.length=_l:=n _d (by simp);cases i<;>grind
 subst K;rcases A with H|⟨r,L,rfl,R⟩;subst H;simp at hlen;subst hlen;refine⟨[],?_,n,B⟩;cases D with
 |none=>exact⟨e,λ_=>rfl,run_firstCells_none s.w _l 0 0 cap,run_firstCells_none s.w.drew _l 0 0 cap,by simp,λ_ h=>by cases h⟩
 |some D=>exact⟨e,λ_=>rfl,run_firstCells_some s.w _l 0 D 0 cap [] (by simp) (λj u h=>by simp at h),run_firstCells_some s.w.drew _l 0 D 0 cap [] (by simp) (λj u h=>by simp at h),by simp,λ_ h=>by cases h⟩
 have E: ∀j q,vs[j]?=Z q->s.w.cell? (Addr.add ⟨r,L,Y⟩ j)=Z q:=λj q S=>by grind [IR,tN]
 exact⟨vs,⟨e,λ_=>rfl,run_firstCells_some s.w _l _ _ _ cap vs hlen E,run_firstCells_some s.w.drew _l _ _ _ cap vs hlen (by simpa using E),hlen,z⟩,n,B⟩
theorem TH(b:Nat)(x:_x)(σ:List _x):upd [(b,x)] σ=σ.set b x:=rfl
structure Ke(P:Program)(_l bytes:Nat)(t ut ty el:TypeId)(z v:Value)(n:Nat)(news:List Value)(w:World):Prop where
 newsLen:news.length=n*_l
 room: ∀(r off sLen sCap:Nat),sLen+n<=sCap->(∀j,j<news.length->(w.cell? ⟨r,off+sLen*_l+j,Y⟩).isSome=O)->(∀j,j<news.length->w.frozen? ⟨r,off+sLen*_l+j,Y⟩=J)->
  (Builtin.append_ #[t,ut] ty #[.slice (Z ⟨r,off,Y⟩) sLen sCap,v]).run P w=.ok (.slice (Z ⟨r,off,Y⟩) (sLen+n) sCap) (w.setCells r (off+sLen*_l) news)
 grow: ∀(base:Option Addr) (sLen sCap:Nat) (olds:List Value),(Builtin.firstCells _l sLen (.slice base sLen sCap)).run P w.drew=.ok olds.toArray w.drew->sCap<sLen+n->((sLen+n:Nat):Int)<=9223372036854775807->
  Builtin.nextslicecap (sLen+n) sCap*bytes<=281474976710656->
  (Builtin.append_ #[t,ut] ty #[.slice base sLen sCap,v]).run P w=.ok (.slice (Z ⟨w.heap.size,0,Y⟩) (sLen+n) (grownCap w (sLen+n) sCap el)) (w.drew.alloc (.cells ((olds++news).toArray++Builtin.zeroCells z.cells (grownCap w (sLen+n) sCap el-(sLen+n))) el))
 nil:n=0->(Builtin.append_ #[t,ut] ty #[.slice Y 0 0,v]).run P w=.ok (.slice Y 0 0) w
theorem Src.gen{_l bytes:Nat}{t ut ty el:TypeId}{i:TypeInfo}{z v:Value}{n:Nat}{news:List Value}{w:World}(g:elT P t=Z el)(hs:szT P el=Z _l)(j:P.info? el=Z i)(q:i.size=_l)(x:i.bytes=bytes)(k:i.zero=Z z)
  (h:Src P _l ut v n news w):Ke P _l bytes t ut ty el z v n news w:=by
 have e:=h;rw[<-q]at e;refine⟨h.newsLen,λr off sLen sCap h1 h2 A=>?_,λbase sLen sCap olds h1 h2 A D=>?_,λC=>?_⟩;have B:=run_append_room_src (P:=P) w t ut ty el i (iT g) j r off sLen sCap v n news e h1 (by simp_all) (by simp_all);simp_all;exact run_append_grow_src (P:=P) w t ut ty el i z (iT g) j k base sLen sCap olds (by simp_all) v n news e h2 A (by simp_all);subst C;have y:=h.len w;have o:=h.cells;rcases h.kind with⟨e',hk⟩|hk;simp[Builtin.append_,run_underlying (iT g),run_underlying hk,iS hs,y,o];simp[Builtin.append_,run_underlying (iT g),run_underlying hk,iS hs,y,o]
theorem JMt(hi:Inv s){_l bytes:Nat}{zero:List PV}{u v:AV}{c:Call}{x' _a:Operand}{t ut el:TypeId}(b9:o.op=.call c)(av:c.callee=.builtin .append)
  (ac:c.args.toList=[x',_a]) (bs:c.argTypes.toList=[t,ut]) (cg:elT P t=Z el)
  (ht:(szT P el==Z _l&&byT P el==Z bytes&&nY P zero el&&zero.length==_l&&decide (0<_l)&&decide (0<bytes))=O)
  (rx:JH s u (a.eval x')) (hG: ∀(i:TypeInfo) (z:Value) (_m:List (List PV)),szT P el=Z _l->P.info? el=Z i->i.size=_l->i.bytes=bytes->i.zero=Z z->zeT P el=Z z->zero.length=z.cells.size->_m.length*bytes<=281474976710656->_m.length<=281474976710656->(gO _l v).run ⟨env,s.σ⟩=Z _m->
   ∃news,Ke P _l bytes t ut o.type el z (a.eval _a) _m.length news s.w/\(∀row∈_m,row.length=_l)/\
    ∀(i j:Nat) row y,_m[i]?=Z row->row[j]?=Z y-> ∃q,news[i*_l+j]?=Z q/\J08 s.w s.g.C y q)
  (x:(kJ _l bytes u v).run ⟨env,s.σ⟩=Z e):bQ P o a s e:=by
 simp only[aX,beq_iff_eq,decide_eq_true_eq]at ht;obtain⟨⟨⟨⟨⟨hs,b4⟩,hz⟩,c8⟩,bi⟩,ag⟩:=ht;obtain⟨i,L,b0⟩:=TR hs;obtain⟨z,al,ch,c9⟩:=zD hz;have _e:=Q5 b4 L;have ae:=ke al L;have hm:c.args.map a.eval= #[a.eval x',a.eval _a]:=by apply PI;simp[ac]
 have b1:c.argTypes= #[t,ut]:=by grind
 have a5: ∀{q:Value} {w':World},(Builtin.append_ #[t,ut] o.type #[a.eval x',a.eval _a]).run P s.w=.ok q w'->(execOp a.eval o).run P s.w=.ok (.value q) w':=by intro q w' hr;simp[execOp,b9,resolve,av,hm,b1,invoke,builtin,hr]
 unfold kJ at x;split at x;rename_i b j n;simp only[RM.run]at x;split at x;rename_i blk hb;split at x;rename_i wm W _f;obtain⟨h,h3,T⟩:=bind_some x;clear x;split at T;rename_i aa;obtain⟨rfl,rfl,rfl,ab⟩:=aa;simp only[RM.run]at T;cases T;have hb:s.σ[b]?=Z (.arr wm _l _f):=hb;have ab:(2*(_f.length+h.length)+512)*bytes<=281474976710656:=by grind [rI]
 have bb:_f.length+h.length<=281474976710656:=by have h5:(2*(_f.length+h.length)+512)*1<=(2*(_f.length+h.length)+512)*bytes:=Nat.mul_le_mul_left _ ag;omega
 have ao:h.length*bytes<=281474976710656:=(by grind);obtain⟨news,H,D,N⟩:=hG i z h hs L b0 _e ae al (by omega) ao (by omega) h3;have a4:=H.newsLen;have _d:=lQ.of_slr hi rx hb (by omega);simp only[FU]at _d;generalize R:a.eval x'=zz at rx;have bp: ∀{M:Nat},M<_f.length+h.length->Builtin.nextslicecap (_f.length+h.length) M*i.bytes<=281474976710656:=by intro M ho;have h5:=nextslicecap_le ho;rw[_e];have h6:Builtin.nextslicecap (_f.length+h.length) M*bytes<=(2*(_f.length+h.length)+512)*bytes:=zQ4 _ (by omega);omega
 have grow: ∀{base:Option Addr} {cap:Nat},zz=.slice base _f.length cap->cap<_f.length+h.length->
   bQ P o a s ⟨._r b 0 (_f.length+h.length),[(b,.arr wm _l (_f++h))]⟩:=by
  intro base cap aj b3;rw[R]at _d;obtain⟨ad,bh,vs,U,bc,F,a8,af,G⟩:=_d.cells;rw[aj]at U;injection U with v1 v2 v3;subst v1 v3;have aq:(Builtin.firstCells _l _f.length (.slice base _f.length cap)).run P s.w.drew=.ok vs.toArray s.w.drew:=by
   rcases af with am|⟨r,o',rfl,cd⟩;subst am;simp at F;subst F;cases base<;>grind [run_firstCells_none,run_firstCells_some]
   exact run_firstCells_some s.w.drew _l _ _ _ cap vs F (λj q hj=>by
   have:s.w.drew.cell? (Addr.add ⟨r,o',Y⟩ j)=s.w.cell? (Addr.add ⟨r,o',Y⟩ j):=by simp
   grind [IR,tN])
  have A:=H.grow base _f.length cap vs aq b3 (by omega) (by grind);have ak:_f.length+h.length<=grownCap s.w (_f.length+h.length) cap el:=by simp[grownCap,Question.cut]
  generalize grownCap s.w (_f.length+h.length) cap el=S at A ak;have az:h≠[]:=by grind
  have ca:z.cells.size=_l:=by omega
  obtain⟨i0,t0⟩:=zc (w':=s.w.drew) hi rfl rfl rfl;have bn:((vs++news).toArray++Builtin.zeroCells z.cells (S-(_f.length+h.length))).size=S*_l:=by
   have:S*_l=(_f.length+h.length)*_l+(S-(_f.length+h.length))*_l:=by rw[<-zQ8];congr 1;omega
   grind [size_zeroCells]
  obtain⟨g',bt,i',t'⟩:=JOo (s0:=⟨s.σ,s.g,s.w.drew⟩) i0 (w':=s.w.drew.alloc (.cells ((vs++news).toArray++Builtin.zeroCells z.cells (S-(_f.length+h.length))) el)) hb az G D rfl rfl rfl
   (by grind) (λk m row q hk hq=>by
    have _c:=JA hq;rcases NU hk with hk|⟨bm,hk⟩;have _b:=JA hk;rw[G row (jV hk)]at _c;have ap:=mX _b _c;have b5:=Qc G hk hq;obtain⟨w,hw,hrel⟩:=a8 _ q b5;refine⟨w,?_,hrel.mono hi t0⟩;grind;rw[D row (jV hk)]at _c;have _b:=JA hk;have ap:=mX _b _c;obtain⟨w,hw,hrel⟩:=N _ m row q hk hq;have e4:k*_l+m=_f.length*_l+((k-_f.length)*_l+m):=(by grind [Nat.add_sub_cancel']);refine⟨w,?_,hrel.mono hi t0⟩;rw[L3 (by simp;omega)];simp;rw[uO (by omega),<-hw];congr 1;omega)
  refine gP (e:=⟨._r b 0 (_f.length+h.length),[(b,.arr wm _l (_f++h))]⟩) (g':=g') (a5 (by rw[R,aj];exact A)) i' (t0.trans t') ?_;refine ._r b 0 _ _ wm _l (_f++h) ⟨_,_,rfl,.inr (by simp)⟩ (kD hb) (by simp) λ_=>.inr ⟨_,S,_,el,(0,0),bt,by simp,ak,VK rfl,?_⟩;grind
 cases rx with
 |_r _ _ _ _ wm' W rows' q0 V q2 q3=>
  have V:s.σ[b]?=Z (.arr wm' W rows'):=V;rw[hb]at V;injection V with V;injection V with a1 a2 a3;subst a1 a2 a3;rcases q3 (by omega)with⟨m',_,b8,U⟩|⟨r,cap,cc,e1,fz,m',U,be,hh,bu⟩;have a9:_f=[]:=List.eq_nil_of_length_eq_zero b8;subst a9;by_cases au:h=[];subst au;simp at a4;subst a4;subst U;have A:(Builtin.append_ #[t,ut] o.type #[.slice Y 0 0,a.eval _a]).run P s.w=.ok (.slice Y 0 0) s.w:=by exact H.nil rfl
  have K:s.σ.set b (.arr wm _l [])=s.σ:=(by apply zQ6;grind);refine gP (e:=⟨._r b 0 0,[(b,.arr wm _l [])]⟩) (g':=s.g) (a5 (by rw[R];exact A)) ?_ ?_ ?_;rw[TH,K];exact hi;rw[TH,K];exact .refl s;rw[TH,K];exact ._r b 0 0 _ wm _l [] ⟨Y,0,rfl,.inl rfl⟩ hb (zQ0 _) λ_=>.inl ⟨m',rfl,rfl,rfl⟩;grind [List.length_pos_iff];subst U;by_cases E:_f.length+h.length<=cap;rcases hi.arr b _ _ _ hb with⟨B,_⟩|⟨r',c',e',cb,B,Q,bq,hlen,ce,b7⟩;grind;rw[m']at B;injection B with B;injection B with B _;subst B;rw[hh]at Q;injection Q with Q;injection Q with w1 w2 w3;subst w1 w2 w3;have bx:(_f.length+h.length)*_l<=cc.size:=(by have:=zQ4 _l E;grind);have bo:(_f.length+h.length)*_l=_f.length*_l+h.length*_l:=zQ8 _ _ _;have a7:=KG (vs:=news) (o:=_f.length*_l) hh (by omega);obtain⟨i',t'⟩:=JQI hi hb m' D a7 a4 N;have A:=H.room r 0 _f.length cap E
   (λk hk=>by rw[tN,kX hh];simp;omega)
   (λk hk=>by
    have:=b7.1 (0+_f.length*_l+k) (by omega) (by omega);grind [World.frozen?])
  simp only[pV]at A;obtain⟨c0,e0,cf,b2,p1,p2,p3,p4,p5,p6⟩:=a7.there;rw[hh]at p1;injection p1 with p1;injection p1 with w1 w2 w3;subst w1 w2 w3;refine gP (e:=⟨._r b 0 (_f.length+h.length),[(b,.arr wm _l (_f++h))]⟩) (a5 (by rw[R];simpa using A)) i' t' ?_;refine ._r b 0 _ _ wm _l (_f++h) ⟨_,_,rfl,.inr (by simp)⟩ (kD hb) (by simp) λ_=>.inr ⟨r,cap,b2,e1,fz,m',by simp,E,p2,by grind⟩;grind
 cases T;cases x;cases x;cases x
theorem Ri(hi:Inv s){_l bytes:Nat}{zero:List PV}{u v:AV}{c:Call}{B A:Operand}{t ut el:TypeId}(x:o.op=.call c)(r:c.callee=.builtin .append)
  (h:c.args.toList=[B,A]) (n:c.argTypes.toList=[t,ut]) (z:((elT P ut).isSome||lS P ut)=O) (k:elT P t=Z el)
  (ht:(szT P el==Z _l&&byT P el==Z bytes&&nY P zero el&&zero.length==_l&&decide (0<_l)&&decide (0<bytes))=O)
  (D:JH s u (a.eval B)) (E:JH s v (a.eval A)) (y:(kJ _l bytes u v).run ⟨env,s.σ⟩=Z e):bQ P o a s e:=
 JMt hi x r h n k ht D (λ_ _ _ hs q C g j _ _ _ _ F=>by obtain⟨news,w,h1,h2⟩:=JSw (u:=ut) hi F E (Bool.or_eq_true_iff.1 z);exact⟨news,Src.gen k hs q C g j w,h1,h2⟩) y
theorem JSW(hi:Inv s)(he:bR s a.tmps env){_l bytes zero x y}(h:(_z F (.app _l bytes zero x y) _m).run ⟨env,s.σ⟩=Z e)(hc:JZ P (.app _l bytes zero x y) o.op=O):bQ P o a s e:=by
 simp only[_z]at h;obtain⟨u,h1,r⟩:=bind_some h;obtain⟨v,h2,q⟩:=bind_some r;clear h r;unfold JZ at hc;simp only at hc;split at hc;rename_i c n;split at hc;rename_i k;split at hc;rename_i D C t ut g j;simp only[aX]at hc;obtain⟨⟨⟨B,A⟩,w⟩,ht⟩:=hc;split at ht;rename_i el z;exact Ri hi n k g j w z (by omega) (bO he h1 B) (bO he h2 A) q;cases ht;cases hc;cases hc;cases hc
theorem JRE(hi:Inv s)(he:bR s a.tmps env)(hn:s.σ[_m]?=Z .dead){_l bytes zero y}(h:(_z F (.appn _l bytes zero y) _m).run ⟨env,s.σ⟩=Z e)(hc:JZ P (.appn _l bytes zero y) o.op=O):bQ P o a s e:=by
 simp only[_z]at h;obtain⟨v,h2,G⟩:=bind_some h;obtain⟨_f,j,k⟩:=bind_some G;clear h G;unfold JZ at hc;simp only at hc;split at hc
 ·rename_i c E;split at hc
  ·rename_i D;split at hc
   ·rename_i U t ut x B;simp only[aX]at hc;obtain⟨⟨R,H⟩,ht⟩:=hc;split at ht
    ·rename_i el _e;split at k
     ·rename_i K;simp only[RM.run]at k;cases k
      obtain⟨i1,_d⟩:=TT hi hn _l;have A:(s.σ.set _m (.arr O _l []))[_m]?=Z (.arr O _l []):=kD hn;have N:JH ⟨s.σ.set _m (.arr O _l []),fV s.g _m Y,s.w⟩ (._r _m 0 0) (a.eval (.const (.slice Y 0 0))):=
       ._r _m 0 0 _ O _l [] ⟨Y,0,rfl,.inl rfl⟩ A (zQ0 _) λ_=>.inl ⟨if_pos rfl,rfl,rfl,rfl⟩
      have _c:=(bO he h2 R).mono hi _d;have T:(gO _l v).run ⟨env,s.σ.set _m (.arr O _l [])⟩=Z _f:=by
       cases v with
       |_r b i n=>
        grind [gO,RM.run]
       |p c=>cases c<;>simp only[gO]at j⊢ <;>first|exact j|(split at j<;>rename_i S<;>first|(rw[if_pos S];exact j)|cases j)|cases j
       |_=>cases j
      have C:(kJ _l bytes (._r _m 0 0) v).run ⟨env,s.σ.set _m (.arr O _l [])⟩=Z ⟨._r _m 0 _f.length,[(_m,.arr O _l _f)]⟩:=(by grind [kJ,RM.run,run_bind]);have ok:=Ri (s:=⟨s.σ.set _m (.arr O _l []),fV s.g _m Y,s.w⟩) i1 E D x B H _e (by omega) N _c C;intro next Q z;refine ok next Q λL w' g' hi' r q=>?_;have M:upd [(_m,_x.arr O _l _f)] (s.σ.set _m (.arr O _l []))=upd [(_m,_x.arr O _l _f)] s.σ:=by simp[TH]
      simp only at hi' r q;rw[M]at hi' r q;exact z L w' g' hi' (_d.trans r) q
     cases k
    cases ht
   cases hc
  cases hc
 cases hc
end
end Go.Am
end
section
namespace Go.Am
section
variable {P:Program} {F:Orc} {s:Sn} {a:Act} {env:List (Nat×AV)} {o:Oper} {_m:Nat} {e:Eff}
theorem Rs{x:Opd}{v:AV}(h:(ev x).run ⟨env,s.σ⟩=Z v):(evo (Z x)).run ⟨env,s.σ⟩=Z (Z v):=by simp[evo,run_bind,h,RM.run]
theorem JRp(hi:Inv s)(he:bR s a.tmps env){_l x hh}(h:(_z F (.psuf _l x hh) _m).run ⟨env,s.σ⟩=Z e)(hc:JZ P (.psuf _l x hh) o.op=O):bQ P o a s e:=by
 simp only[_z]at h;obtain⟨u,h1,C⟩:=bind_some h;obtain⟨l,h2,q⟩:=bind_some C;clear h C;have h:=q;clear q;unfold JZ at hc;simp only at hc;split at hc
 case h_2=>cases hc
 rename_i t N hi' B;simp only[aX]at hc;obtain⟨⟨_c,Q⟩,ht⟩:=hc;have G:=bO he h1 _c;unfold vA at h;split at h
 case h_2=>cases h
 rename_i b i n M k;simp only[RM.run]at h;split at h
 case h_2=>cases h
 rename_i blk hb;split at h
 case h_2=>cases h
 rename_i y T _f;have hb:s.σ[b]?=Z (.arr y T _f):=hb;split at h
 case isFalse=>cases h
 rename_i hk;obtain⟨rfl,hn,E,_a⟩:=hk;simp only[RM.run]at h;cases h;split at ht
 case h_2=>cases ht
 rename_i el D;simp only[beq_iff_eq]at ht;have A:pN n (Z (.p (.i M k))) Y=Z (k.toNat,n):=by unfold pN oL;simp only;rw[if_pos ⟨E,by omega⟩]
 have _e: ∀cap,n<=cap->(Instr.sliceBounds O n cap (Z (a.eval hi')) Y Y).run P s.w=.ok (k.toNat,n,cap) s.w:=λcap g=>
  (OO (P:=P) (isSlice:=true) he (hi:=none) (hi':=Y) (lo:=some hh) (lo':=Z hi') (Rs h2) rfl Q rfl A g s.w).1
 generalize V:a.eval N=z at G;cases G with
 |_r _ _ _ _ wm R rows' q0 j q2 U=>
  rw[hb]at j;injection j with j;injection j with a1 a2 a3;subst a1 a2 a3;rcases U (by omega)with⟨m,a0,a5,K⟩|⟨r,cap,L,_b,fz,m,K,g,H,a4⟩;omega;subst K;have W:=_e cap g;have S:(i+k.toNat+(cap-k.toNat))*_l=(i+cap)*_l:=by congr 1;omega
  refine JM hi (v:=.slice (Z ⟨r,(i+k.toNat)*_l,Y⟩) (n-k.toNat) (cap-k.toNat)) ?_ ?_;simp only[execOp,B,V];have _d: ¬cap=k.toNat:=by omega
  simp[Instr.sliceAt,Instr.slice,run_underlying (iT D),W,iS ht,Addr.add,_d,zQ8];exact ._r b _ _ _ y _l _f ⟨_,_,rfl,.inr (by simp)⟩ hb (by omega) λ_=>.inr ⟨r,cap-k.toNat,L,_b,fz,m,rfl,by omega,H,by omega⟩
end
end Go.Am
end
section
namespace Go.Am
theorem Ba{s0:Sn}(hi:Inv s0){b _m _l m:Nat}{R G:List (List PV)}(U:R.length<G.length)(hb:s0.σ[b]?=Z (.arr O _l R))(hn:s0.σ[_m]?=Z .dead):
  ∃g',g'.μ _m=s0.g.μ b/\Inv ⟨(s0.σ.set b (.arr J _l G)).set _m (.arr O _l (R.take m)),g',s0.w⟩/\bE s0 ⟨(s0.σ.set b (.arr J _l G)).set _m (.arr O _l (R.take m)),g',s0.w⟩:=by
 have F:_m≠b:=λe=>by rw[e,hb]at hn;cases hn
 have _d:=hi.arr b O _l R hb;refine⟨⟨λk=>if k=_m then s0.g.μ b else if k=b then Y else s0.g.μ k,s0.g.C⟩,if_pos rfl,?_⟩;generalize hs:(⟨(s0.σ.set b (.arr J _l G)).set _m (.arr O _l (R.take m)),_,s0.w⟩:Sn)=s;have B:s.σ[b]?=Z (.arr J _l G):=by rw[<-hs];simp only[List.getElem?_set];rw[if_neg F];have:=(cY.1 hb).1;simp[this]
 have E:s.σ[_m]?=Z (.arr O _l (R.take m)):=by rw[<-hs];have:=(cY.1 hn).1;simp[this]
 have L: ∀k,k≠b->k≠_m->s.σ[k]?=s0.σ[k]?:=λk h1 h2=>by rw[<-hs];simp only[List.getElem?_set];rw[if_neg (Ne.symm h2),if_neg (Ne.symm h1)]
 have V:s.σ.length=s0.σ.length:=by rw[<-hs];simp
 have H:s.g.μ _m=s0.g.μ b:=by rw[<-hs];exact if_pos rfl
 have _c:s.g.μ b=Y:=by rw[<-hs];show(if b=_m then s0.g.μ b else if b=b then Y else s0.g.μ b)=Y;rw[if_neg (Ne.symm F),if_pos rfl]
 have _e: ∀k,k≠b->k≠_m->s.g.μ k=s0.g.μ k:=λk h1 h2=>by rw[<-hs];show(if k=_m then s0.g.μ b else if k=b then Y else s0.g.μ k)=_;rw[if_neg h2,if_neg h1]
 have z:s.g.C=s0.g.C:=by rw[<-hs]
 have D:s.w=s0.w:=by rw[<-hs]
 clear hs;have y: ∀r o,¬Wr1 s b r o:=λr o h=>by grind [Wr1]
 have A: ∀r o,Wr1 s _m r o->Wr1 s0 b r o:=λr o h=>by grind [Wr1]
 have wr: ∀k r o,k≠b->k≠_m->(Wr1 s k r o↔Wr1 s0 k r o):=λk r o h1 h2=>by grind [Wr1]
 have t:bE s0 s:=by
  refine⟨by rw[D];exact nW.refl _ _,λr o h=>by rw[z];exact h,λr o h=>.inl (by rw[z]at h;exact h),λr o ⟨k,h⟩=>?_,by omega,λk cs h=>?_,λk wm K _f h=>?_⟩;by_cases n:k=b;exact absurd (n▸h) (y r o);by_cases q:k=_m;exact .inl ⟨b,A r o (q▸h)⟩;exact .inl ⟨k,(wr k r o n q).1 h⟩;have n:k≠b:=λe=>by rw[e,hb]at h;cases h
  have q:k≠_m:=λe=>by rw[e,hn]at h;cases h
  exact⟨⟨cs,by rw[L k n q];exact h,rfl⟩,_e k n q⟩;have q:k≠_m:=λe=>by rw[e,hn]at h;cases h
  by_cases n:k=b;subst n;rw[hb]at h;injection h with h;injection h with a1 a2 a3;subst a1 a2 a3;exact⟨J,G,B,nofun,by omega,λh=>by omega⟩;exact⟨wm,_f,by rw[L k n q];exact h,id,zQ0 _,λ_=>_e k n q⟩
 refine⟨mU hi t (λk=>k=b\/k=_m) (λk h=>⟨L k (λe=>h (.inl e)) (λe=>h (.inr e)),_e k (λe=>h (.inl e)) (λe=>h (.inr e))⟩) (λk r o v _ _ h=>by rw[D];exact h) ?_ ?_ ?_ ?_ ?_ ?_,t⟩;rintro k cs (rfl|rfl) h;rw[B]at h;cases h;rw[E]at h;cases h;rintro k wm K _f (rfl|rfl) h;rw[B]at h;injection h with h;injection h with a1 a2 a3;subst a1 a2 a3;exact .inl ⟨_c,.inr rfl⟩;rw[E]at h;injection h with h;injection h with a1 a2 a3;subst a1 a2 a3;rcases _d with⟨N,h1⟩|⟨r,c,et,fz,N,P,M,hlen,T,hf⟩;refine .inl ⟨by rw[H];exact N,.inl ?_⟩;rcases h1 with h1|h1;rw[h1];simp;cases h1;refine .inr ⟨r,c,et,fz,by rw[H];exact N,by rw[D];exact P,λrow h=>M row (FP h),zQ1 (zQ4 _l (by rw[mN];omega)) hlen,λi j row x h1 h2=>?_,hf⟩;rw[PJ]at h1;split at h1;obtain⟨⟨u,S,Q⟩,_⟩:=T i j row x h1 h2;exact⟨⟨u,S,Q.mono hi t⟩,nofun⟩;cases h1;rintro b1 b2 r o (rfl|rfl) h1 h2;exact absurd h1 (y r o);by_cases n:b2=b;exact absurd (n▸h2) (y r o);by_cases q:b2=b1;exact q.symm;exact absurd (hi.apart b b2 r o (A r o h1) ((wr b2 r o n q).1 h2)).symm n;intro r o h;rw[z]at h;rw[D];exact(hi.const r o h).1;rintro r o k h (rfl|rfl) h1;exact y r o h1;rw[z]at h;exact(hi.const r o h).2 b (A r o h1);intro r o k h h1 _ _;rw[z]at h;exact h1 h
theorem JHo{P:Program}(w:World)(t e ty:TypeId)(z:Value)(ht:P.underlying t=Z (.slice e))(hv: ∀w,(zeroValue e).run P w=.ok z w)(b o n c:Nat)(hn:0<n)
  (hc: ∀j,j<n*z.cells.size->(w.cell? ⟨b,o+j,Y⟩).isSome=O) (hf: ∀j,j<n*z.cells.size->w.frozen? ⟨b,o+j,Y⟩=J) (h1: ∀v∈(Builtin.zeroCells z.cells n).toList,v.oneCell'=O):
  (Builtin.clear_ #[t] ty #[.slice (Z ⟨b,o,Y⟩) n c]).run P w=.ok (.tuple #[]) (w.setCells b o (Builtin.zeroCells z.cells n).toList):=by
 have h:(Builtin.zeroCells z.cells n).toList.length=n*z.cells.size:=by rw[Array.length_toList,size_zeroCells]
 have g:=run_storeCells_cells (P:=P) b o (Builtin.zeroCells z.cells n).toList 0 w (by rw[h];simpa using hc) (by rw[h];simpa using hf) h1;simp only[uW]at g;obtain⟨m,rfl⟩: ∃m,n=m+1:=⟨n-1,by omega⟩;simp[Builtin.clear_,run_underlying ht,hv,g]
theorem JNk{P:Program}{s:Sn}(hi:Inv s){b i n _l:Nat}{_f:List (List PV)}{zero:List PV}{v z:Value}{t el ty:TypeId}(hb:s.σ[b]?=Z (.arr O _l _f))(rx:JH s (._r b i n) v)(hn:i+n=_f.length)
  (ht:P.underlying t=Z (.slice el)) (S: ∀w,(zeroValue el).run P w=.ok z w) (R:zero.length=_l) (ak:zero.length=z.cells.size) (L: ∀{w C} (j:Nat) x u,zero[j]?=Z x->z.cells[j]?=Z u->J08 w C x u):
  ∃w',(Builtin.clear_ #[t] ty #[v]).run P s.w=.ok (.tuple #[]) w'/\Inv ⟨s.σ.set b (.arr O _l (_f.take i++_J n zero)),s.g,w'⟩/\bE s ⟨s.σ.set b (.arr O _l (_f.take i++_J n zero)),s.g,w'⟩:=by
 have same:n=0->s.σ.set b (.arr O _l (_f.take i++_J n zero))=s.σ:=λh=>by subst h;obtain⟨hl,he⟩:=cY.1 hb;rw[List.take_of_length_le (by omega),List.replicate_zero,gH,<-he];exact List.set_getElem_self hl
 have D:n=0->(Builtin.clear_ #[t] ty #[v]).run P s.w=.ok (.tuple #[]) s.w-> ∃w',(Builtin.clear_ #[t] ty #[v]).run P s.w=.ok (.tuple #[]) w'/\Inv ⟨s.σ.set b (.arr O _l (_f.take i++_J n zero)),s.g,w'⟩/\bE s ⟨s.σ.set b (.arr O _l (_f.take i++_J n zero)),s.g,w'⟩:=λh _e=>
  ⟨s.w,_e,by rw[same h];exact hi,by rw[same h];exact .refl s⟩
 cases rx with
 |_r _ _ _ _ wm a4 rows' q0 K q2 q3=>
  rw[hb]at K;injection K with K;injection K with a1 a2 a3;subst a1 a2 a3;rcases q3 (by omega)with⟨m,al,U,Q⟩|⟨r,cap,cc,e1,fz,m,Q,a0,_d,ag⟩;subst Q;exact D U (by simp[Builtin.clear_,run_underlying ht]);subst Q;by_cases h0:n=0;subst h0;exact D rfl (by simp[Builtin.clear_,run_underlying ht]);rcases hi.arr b _ _ _ hb with⟨k,_⟩|⟨r',c',e',ai,k,B,H,hlen,aj,T⟩;rw[m]at k;cases k;rw[m]at k;injection k with k;injection k with k _;subst k;rw[_d]at B;injection B with B;injection B with w1 w2 w3;subst w1 w2 w3;have G:z.cells.size=_l:=by omega
  have a7:_f.length*_l=i*_l+n*_l:=by rw[<-hn];exact zQ8 _ _ _
  have am:(Builtin.zeroCells z.cells n).toList.length=n*_l:=by rw[Array.length_toList,size_zeroCells,G]
  have M:=JHo (P:=P) s.w t el ty z ht S r (i*_l) n cap (by omega)
   (λj A=>by rw[G]at A;rw[tN,kX _d];simp;omega)
   (λj A=>by
    rw[G]at A;have:=T.1 (i*_l+j) (by omega) (by omega);grind [World.frozen?])
   (λu E=>by
    have E:u∈z.cells:=(by simp only[Builtin.zeroCells,Array.toList_map,oA]at E;obtain⟨j,A,rfl⟩:=E;have e:0<z.cells.size:=(by rcases QL z.cells.size with h|h;rw[h]at A;simp at A;exact h);have _a:=Nat.mod_lt j e;rw[getElem!_pos z.cells _ _a];exact Array.getElem_mem _a);obtain⟨q,F,rfl⟩:=Array.getElem_of_mem E;exact(L (w:=s.w) (C:=s.g.C) q zero[q] _ (aZ (by omega)) (xG F)).one)
  have _c:=KG (vs:=(Builtin.zeroCells z.cells n).toList) (o:=i*_l) _d (by omega);refine⟨_,M,?_⟩;have N:(_f.take i).length=i:=by rw[mN];omega
  have hN:(_f.take i++_J n zero).length=_f.length:=by rw[qZ,N,BN];exact hn
  refine JQy hi hb m (λrow _e=>(zQ9.1 _e).elim (λh=>H row (FP h)) λh=>by rw[(List.mem_replicate.1 h).2];exact R) (by omega) _c λc0 c1 k1 k2 y k4 k5=>?_;obtain⟨e3,ah,y⟩:=y;rw[_d]at y;injection y with y;injection y with y _ _;subst y;refine⟨by rw[hN];exact hlen,λp q row x e F=>?_⟩;rcases NU e with e|⟨W,e⟩;have hpk:=JA e;rw[N]at hpk;rw[PJ,if_pos hpk]at e;obtain⟨u,E,_e⟩:=k1 p q row x e F;have:=(mX hpk (by have:=JA F;rw[H row (jV e)]at this;exact this):p*_l+q<i*_l);exact⟨u,by rw[k5 _ (.inl this)];exact E,_e⟩;rw[N]at W e;have hre:row=zero:=(List.mem_replicate.1 (jV e)).2;have V:=JA e;rw[BN]at V;subst hre;have A:=JA F;have _b:q<z.cells.size:=by omega
  refine⟨z.cells[q],?_,L q x _ F (xG _b)⟩;have e4:p*_l+q=i*_l+((p-i)*_l+q):=by
   have:p*_l=i*_l+(p-i)*_l:=by rw[<-zQ8];congr 1;omega
   omega
  rw[e4];exact k4 _ _ (by grind [mX,Builtin.zeroCells,Nat.mul_comm,Nat.mul_add_mod,Nat.mod_eq_of_lt])
section
variable {P:Program} {F:Orc} {s:Sn} {a:Act} {env:List (Nat×AV)} {o:Oper} {_m:Nat} {e:Eff}
theorem JU7(hi:Inv s)(he:bR s a.tmps env)(hn:s.σ[_m]?=Z .dead){_l zero x hh}(h:(_z F (.shr _l zero x hh) _m).run ⟨env,s.σ⟩=Z e)(hc:JZ P (.shr _l zero x hh) o.op=O):bQ P o a s e:=by
 simp only[_z]at h;obtain⟨u,h1,L⟩:=bind_some h;obtain⟨l,h2,C⟩:=bind_some L;clear h L;have h:=C;clear C;unfold JZ at hc;simp only at hc;split at hc
 case h_2=>cases hc
 rename_i t V hi' B;simp only[aX]at hc;obtain⟨⟨W,_b⟩,ht⟩:=hc;have _c:=bO he h1 W;unfold QO at h;split at h
 case h_2=>cases h
 rename_i b i n U k;simp only[RM.run]at h;split at h
 case h_2=>cases h
 rename_i blk hb;split at h
 case h_2=>cases h
 rename_i ez _f;have hb:s.σ[b]?=Z (.arr O ez _f):=hb;split at h
 case isFalse=>cases h
 rename_i hk;obtain⟨rfl,rfl,a7,M,a6⟩:=hk;simp only[RM.run]at h;cases h;split at ht
 case h_2=>cases ht
 rename_i el D;simp only[beq_iff_eq]at ht;have H:pN n Y (Z (.p (.i U k)))=Z (0,k.toNat):=by unfold pN oL;simp only;rw[if_pos ⟨M,by omega⟩]
 have E: ∀cap,n<=cap->(Instr.sliceBounds O n cap Y (Z (a.eval hi')) Y).run P s.w=.ok (0,k.toNat,cap) s.w:=λcap g=>
  (OO (P:=P) (isSlice:=true) he (lo:=none) (lo':=Y) (hi:=some hh) (hi':=Z hi') rfl (Rs h2) rfl _b H g s.w).1
 obtain⟨g',K,i2,_d⟩:=Ba (m:=k.toNat) (G:=_f++[zero]) hi (by simp) hb hn;have j:((s.σ.set b (.arr J _l (_f++[zero]))).set _m (.arr O _l (_f.take k.toNat)))[_m]?=Z (.arr O _l (_f.take k.toNat)):=by have:=(cY.1 hn).1;simp[this]
 have lt:(_f.take k.toNat).length=k.toNat:=by rw[mN];omega
 generalize S:a.eval V=z at _c;cases _c with
 |_r _ _ _ _ wm _a rows' q0 y q2 q3=>
  rw[hb]at y;injection y with y;injection y with a1 a2 a3;subst a1 a2 a3;rcases q3 (by omega)with⟨m,_,R,_e⟩|⟨r,cap,T,e1,fz,m,_e,g,Q,N⟩;subst _e;have q:k.toNat=0:=by omega
  have A:=E 0 (by omega);refine gP (e:=⟨._r _m 0 k.toNat,[(b,.arr J _l (_f++[zero])),(_m,.arr O _l (_f.take k.toNat))]⟩) (v:=.slice Y 0 0) (g':=g') ?_ i2 _d (._r _m 0 k.toNat _ O _l _ ⟨Y,0,by rw[q],.inl q⟩ j (by omega) λ_=>.inl ⟨K.trans m,rfl,q,rfl⟩);simp only[execOp,B,S];rw[R]at A;simp[Instr.sliceAt,Instr.slice,run_underlying (iT D),A,iS ht,q];subst _e;have A:=E cap g;refine gP (e:=⟨._r _m 0 k.toNat,[(b,.arr J _l (_f++[zero])),(_m,.arr O _l (_f.take k.toNat))]⟩) (v:=.slice (Z ⟨r,0,Y⟩) k.toNat cap) (g':=g') ?_ i2 _d (._r _m 0 k.toNat _ O _l _ ⟨_,_,rfl,.inr nofun⟩ j (by omega) λ_=>.inr ⟨r,cap,T,e1,fz,K.trans m,by simp,by omega,Q,N⟩);simp only[execOp,B,S];simp[Instr.sliceAt,Instr.slice,run_underlying (iT D),A,iS ht,Addr.add]
theorem JTI(hi:Inv s)(he:bR s a.tmps env){_l zero x}(h:(_z F (.clr _l zero x) _m).run ⟨env,s.σ⟩=Z e)(hc:JZ P (.clr _l zero x) o.op=O):bQ P o a s e:=by
 simp only[_z]at h;obtain⟨u,h1,g⟩:=bind_some h;clear h;unfold JZ at hc;simp only at hc;split at hc
 case h_2=>cases hc
 rename_i c y;split at hc
 case h_2=>cases hc
 rename_i r;split at hc
 case h_2=>cases hc
 rename_i K t k _e;simp only[aX]at hc;obtain⟨Q,ht⟩:=hc;split at ht
 case h_2=>cases ht
 rename_i el A;have M:=bO he h1 Q;simp only[aX,beq_iff_eq]at ht;obtain⟨⟨hs,N⟩,C⟩:=ht;obtain⟨T,j,S⟩:=TR hs;obtain⟨z,B,D,G⟩:=zD N;have q:=ke B j;have R:c.args.map a.eval= #[a.eval K]:=by apply PI;simp[k]
 have E:c.argTypes= #[t]:=by grind
 unfold PT at g;split at g
 case h_2=>cases g
 rename_i b i n;simp only[RM.run]at g;split at g
 case h_2=>cases g
 rename_i blk hb;split at g
 case h_2=>cases g
 rename_i L _f;have hb:s.σ[b]?=Z (.arr O L _f):=hb;split at g
 case isFalse=>cases g
 rename_i hk;obtain⟨rfl,H⟩:=hk;simp only[RM.run]at g;cases g;obtain⟨w',_c,i2,_d⟩:=JNk (P:=P) (ty:=o.type) (zero:=zero) (z:=z) (t:=t) (el:=el) hi hb M H (iT A) (λw=>by simp[zeroValue,typeInfo,j,q]) C D G;exact gP (e:=⟨.tup [],[(b,.arr O _l (_f.take i++_J n zero))]⟩) (v:=.tuple #[]) (by simp[execOp,y,resolve,r,R,E,invoke,builtin,_c]) i2 _d (.tup [] #[] rfl λi x v h=>by simp at h)
theorem JUm(hi:Inv s)(he:bR s a.tmps env)(hn:s.σ[_m]?=Z .dead){_l zero x}(h:(_z F (.mvn _l zero x) _m).run ⟨env,s.σ⟩=Z e)(hc:JZ P (.mvn _l zero x) o.op=O):bQ P o a s e:=by
 simp only[_z]at h;obtain⟨u,h1,g⟩:=bind_some h;clear h;unfold PH at g;split at g
 case h_2=>cases g
 rename_i b i n;simp only[RM.run]at g;split at g
 case h_2=>cases g
 rename_i blk hb;split at g
 case h_2=>cases g
 rename_i D _f;have hb:s.σ[b]?=Z (.arr O D _f):=hb;split at g
 case isFalse=>cases g
 rename_i hk;obtain⟨rfl,rfl,_d⟩:=hk;simp only[RM.run]at g;cases g;obtain⟨g',A,i2,r⟩:=Ba (m:=n) (G:=_f++[zero]) hi (by simp) hb hn;rw[List.take_of_length_le (by omega)]at i2 r;have j:((s.σ.set b (.arr J _l (_f++[zero]))).set _m (.arr O _l _f))[_m]?=Z (.arr O _l _f):=by have:=(cY.1 hn).1;simp[this]
 have q: ∀v,JH s (._r b 0 n) v->(execOp a.eval o).run P s.w=.ok (.value v) s.w->bQ P o a s ⟨._r _m 0 n,[(b,.arr J _l (_f++[zero])),(_m,.arr O _l _f)]⟩:=by
  intro v E _e;cases E with
  |_r _ _ _ _ wm C rows' B k K H=>
   rw[hb]at k;injection k with k;injection k with a1 a2 a3;subst a1 a2 a3;refine gP (e:=⟨._r _m 0 n,[(b,.arr J _l (_f++[zero])),(_m,.arr O _l _f)]⟩) (g':=g') _e i2 r (._r _m 0 n _ O _l _ B j (by omega) λ_=>?_);have:=H (by omega);unfold Ls at this⊢;simp only at this⊢;rw[A];exact this
 unfold JZ at hc;simp only at hc;split at hc;rename_i y z;exact q _ (bO he h1 hc) (by simp_all [execOp]);rename_i y z;exact q _ (bO he h1 hc) (by simp_all [execOp]);cases hc
end
end Go.Am
end
section
namespace Go.Am
theorem mr: ∀{e j:List KD} {xs g:List PV} {r:Bool},cG (e++j) xs g=Z r->
  ∃o n,cG e (xs.take e.length) (g.take e.length)=Z o/\cG j (xs.drop e.length) (g.drop e.length)=Z n/\r=(o&&n)
 |[],j,xs,g,r,h=>⟨O,r,by simp[cG],by simpa using h,by simp⟩
 |k::e,j,xs,g,r,h=>by
  cases xs with
  |nil=>grind [cG]
  |cons x xs=>
   cases g with
   |nil=>grind [cG]
   |cons y g=>
    simp only[nP,cG]at h;split at h;rename_i a c q hc;cases h;obtain⟨o,n,h1,h2,v⟩:=mr hc;grind [cG];cases h
theorem UP: ∀{ks:List KD} {xs e:List PV} {r:Bool},cG ks xs e=Z r->xs.length=ks.length/\e.length=ks.length
 |[],xs,e,r,h=>by grind [cG]
 |k::ks,xs,e,r,h=>by
  cases xs with
  |nil=>grind [cG]
  |cons x xs=>
   cases e with
   |nil=>grind [cG]
   |cons y e=>
    simp only[cG]at h;split at h;rename_i a c g hc;obtain⟨h1,h2⟩:=UP hc;simp[h1,h2];cases h
section
variable {P:Program} {F:Orc} {s:Sn} {a:Act} {env:List (Nat×AV)} {o:Oper} {_m:Nat} {e:Eff}
def sv(P:Program)(t:TypeId)(vs:List Value)(X:Value):Prop:=(agT P t=Z O/\X=.agg vs.toArray)\/(agT P t=Z J/\ ∃v,vs=[v]/\X=v)
theorem VL{t:TypeId}{n off:Nat}{cs:Array Value}(hs:szT P t=Z n)(j:off+n<=cs.size)(g:(agT P t=Z O)\/(agT P t=Z J/\n=1))(w:World):
  ∃X,(part t cs off).run P w=.ok X w/\sv P t ((cs.toList.drop off).take n) X:=by
 rcases g with h|⟨h,rfl⟩;refine⟨.agg (cs.extract off (off+n)),by simp_all [part,IJ,iS],.inl ⟨h,?_⟩⟩
 congr 1
 grind;have e:off<cs.size:=by omega
 have k:cs[off]?=Z cs[off]:=by simp[e]
 refine⟨cs[off],by simp_all [part,IJ],.inr ⟨h,cs[off],?_,rfl⟩⟩;grind [List.drop_eq_getElem_cons]
def pL(s:Sn)(xs:List PV)(vs:List Value):Prop:=xs.length=vs.length/\ ∀(i:Nat) x v,xs[i]?=Z x->vs[i]?=Z v->J08 s.w s.g.C x v
theorem pL.take{xs vs}(h:pL s xs vs)(n:Nat):pL s (xs.take n) (vs.take n):=
 ⟨by simp[h.1],λi x v e g=>by
  rw[PJ]at e g;split at e;rename_i hi;rw[if_pos hi]at g;exact h.2 i x v e g;cases e⟩
theorem pL.drop{xs vs}(h:pL s xs vs)(n:Nat):pL s (xs.drop n) (vs.drop n):=
 ⟨by simp[h.1],λi x v g e=>by
  rw[eo]at g e;exact h.2 _ x v g e⟩
def EqK(P:Program)(s:Sn)(d:Nat)(t:TypeId)(ks:List KD):Prop:= ∀(e:Nat) (w:World) (xs h:List PV) (vs g:List Value) (r:Bool) (X _b:Value),cG ks xs h=Z r->pL s xs vs->pL s h g->sv P t vs X->sv P t g _b->(Op.equalIn (d+e) t X _b).run P w=.ok r w
theorem Br{d:Nat}{t:TypeId}{ks:List KD}(h:rN P d t=Z ks):agT P t=Z O\/(agT P t=Z J/\ks.length=1):=by cases d<;>grind [rN,agT,BE]
theorem Ap(d e:Nat)(B: ∀t ks,rN P d t=Z ks->EqK P s d t ks)(w:World){xs q:List PV}{vs o:List Value}(hx:pL s xs vs)(hy:pL s q o):
  ∀{fs:List Field} {off:Nat} {ks:List KD} {r:Bool},NQ P (rN P d) off fs=Z ks->cG ks (xs.drop off) (q.drop off)=Z r->
   (Op.eqFields (d+e) vs.toArray o.toArray fs).run P w=.ok r w
 |[],off,ks,r,h,hc=>by simp[NQ]at h;subst h;cases hxd:xs.drop off<;>cases hyd:q.drop off<;>simp[hxd,hyd,cG]at hc;simp_all [Op.eqFields]
 |f::fs,off,ks,r,h,hc=>by
  unfold NQ at h;split at h;cases h
  ·rename_i K;have j:f.name≠ "_" :=λe=>K (.inl e);have v:f.offset=off:=by simp_all
   split at h;cases h
   ·rename_i C k;split at h
    ·rename_i g;obtain⟨g,D⟩:=g;split at h
     ·rename_i N x;cases h;obtain⟨y,M,z,A,rfl⟩:=mr hc;obtain⟨G,H⟩:=UP z;rw[mN,AT]at G H;rw[sX,sX]at A;have n:=Br k;obtain⟨X,E,_e⟩:=VL (P:=P) (cs:=vs.toArray) (off:=off) g (by have:=hx.1;simp;omega) n w;obtain⟨_b,_d,F⟩:=VL (P:=P) (cs:=o.toArray) (off:=off) g (by have:=hy.1;simp;omega) n w;have L:=B f.type C k e w _ _ _ _ y X _b z ((hx.drop off).take _) ((hy.drop off).take _) (by simpa using _e) (by simpa using F);have ih:=Ap d e B w hx hy x A;simp only[Op.eqFields];rw[if_pos j];simp only[AS,v,E,_d,L,uY,Sem.run_ite];cases y
      all_goals simp_all
     cases h
    cases h
theorem Sy(d e:Nat){t:TypeId}{ks:List KD}(v:EqK P s d t ks)(hk:rN P d t=Z ks)(g:szT P t=Z ks.length)(j:0<ks.length)(w:World){xs n:List PV}{vs k:List Value}(hx:pL s xs vs)(hy:pL s n k):
  ∀{m i:Nat} {r:Bool},cG (_J m ks).flatten (xs.drop (i*ks.length)) (n.drop (i*ks.length))=Z r->
   (Op.eqItems (d+e) t ks.length vs.toArray k.toArray (List.range' i m)).run P w=.ok r w
 |0,i,r,hc=>by simp only[List.replicate_zero,List.flatten_nil]at hc;cases hxd:xs.drop (i*ks.length)<;>cases hyd:n.drop (i*ks.length)<;>simp[hxd,hyd,cG]at hc;simp_all [Op.eqItems]
 |m+1,i,r,hc=>by
  rw[List.replicate_succ,uT]at hc;obtain⟨o,A,q,y,rfl⟩:=mr hc;obtain⟨B,C⟩:=UP q;rw[mN,AT]at B C;rw[sX,sX]at y;have h:=Br hk;obtain⟨X,x,D⟩:=VL (P:=P) (cs:=vs.toArray) (off:=i*ks.length) g (by have:=hx.1;simp;omega) h w;obtain⟨_b,E,z⟩:=VL (P:=P) (cs:=k.toArray) (off:=i*ks.length) g (by have:=hy.1;simp;omega) h w;have F:=v e w _ _ _ _ o X _b q ((hx.drop _).take _) ((hy.drop _).take _) (by simpa using D) (by simpa using z);have ih:=Sy d e v hk g j w hx hy (m:=m) (i:=i+1) (r:=A) (by
   grind)
  rw[List.range'_succ];simp only[Op.eqItems,AS,x,E,F,uY,Sem.run_ite];cases o
  all_goals simp_all
theorem eqK: ∀(d:Nat) (t:TypeId) (ks:List KD),rN P d t=Z ks->EqK P s d t ks
 |0,t,ks,h=>by grind [rN]
 |d+1,t,ks,h=>by
  intro e w xs R vs T r X _b hc _d _e H G;have M:d+1+e=(d+e)+1:=by omega
  rw[M];have _c:=UP hc;unfold rN at h;have q: ∀{k:KD},agT P t=Z J->ks=[k]-> ∃x y,xs=[x]/\R=[y]/\xE k x y=Z r/\J08 s.w s.g.C x X/\J08 s.w s.g.C y _b:=(by rintro k F rfl;obtain⟨x,rfl⟩:=dn.1 _c.1;obtain⟨y,rfl⟩:=dn.1 _c.2;rcases H with⟨o,_⟩|⟨_,v,rfl,rfl⟩;simp_all;rcases G with⟨o,_⟩|⟨_,u,rfl,rfl⟩;simp_all;refine⟨x,y,rfl,rfl,?_,_d.2 0 x _ rfl rfl,_e.2 0 y _ rfl rfl⟩;grind [cG]);split at h<;>rename_i S
  cases h;obtain⟨x,y,rfl,rfl,j,A,B⟩:=q (by grind [agT,BE]) rfl;cases A<;>cases B<;>simp only[xE]at j<;>try (cases j;done)
  grind [run_equalIn_bool];cases h;obtain⟨x,y,rfl,rfl,j,A,B⟩:=q (by grind [agT,BE]) rfl;cases A<;>cases B<;>simp only[xE]at j<;>try (cases j;done)
  grind [run_equalIn_int];cases h;obtain⟨x,y,rfl,rfl,j,A,B⟩:=q (by grind [agT,BE]) rfl;cases A<;>cases B<;>simp only[xE]at j<;>try (cases j;done)
  simp_all [run_equalIn_string];rename_i fs;split at h;cases h;rename_i L;have F:agT P t=Z O:=by grind [agT,BE]
  rcases H with⟨_,rfl⟩|⟨o,_⟩;rcases G with⟨_,rfl⟩|⟨o,_⟩;have N:P.fieldsOf t=fs:=by grind [Program.fieldsOf]
  rw[run_equalIn_struct w (d+e) t _ _ (by simp_all) (by simpa using L),N];exact Ap d e (λt ks hk=>eqK d t ks hk) w _d _e h (by simpa using hc);simp_all;simp_all;rename_i n el;split at h;rename_i K E;split at h;rename_i z;cases h;have F:agT P t=Z O:=by grind [agT,BE]
  rcases H with⟨_,rfl⟩|⟨o,_⟩;rcases G with⟨_,rfl⟩|⟨o,_⟩;obtain⟨i,hi,Q⟩:=TR z.1;have D:P.cellsOf el=K.length:=by grind [Program.cellsOf]
  rw[run_equalIn_array w (d+e) _ _ S hi,D,List.range_eq_range'];exact Sy d e (eqK d el K E) E z.1 z.2 w _d _e (i:=0) (by simpa using hc);simp_all;simp_all;cases h;cases h;cases h
theorem JHg(hi:Inv s)(he:bR s a.tmps env){op ks x y}(h:(_z F (.bin op (.flat ks) x y) _m).run ⟨env,s.σ⟩=Z e)(hc:JZ P (.bin op (.flat ks) x y) o.op=O):bQ P o a s e:=by
 simp only[_z]at h;obtain⟨u,h1,D⟩:=bind_some h;obtain⟨v,h2,z⟩:=bind_some D;obtain⟨r,j,rfl⟩:=iF z;clear h D z;unfold JZ at hc;simp only at hc;split at hc
 ·rename_i T t B A ty S;simp only[aX,beq_iff_eq]at hc;obtain⟨⟨rfl,k⟩,⟨⟨_c,hk⟩,n⟩,L⟩:=hc;have G:=bO he h1 k;have H:=bO he h2 _c;generalize U:a.eval B=_b at G;generalize V:a.eval A=W at H;simp only[pP]at j;split at j
  ·rename_i p q;cases G with
   |data _ vs _d _e=>
    cases H with
    |data _ g M Q=>
     have hb: ∃b,cG ks p q=Z b:=by cases hcm:cG ks p q<;>simp_all [kM]
     obtain⟨b,hb⟩:=hb;rw[hb]at j;obtain⟨N,rfl⟩:=wD j;have E:(eqGuard op t B A (.agg vs) (.agg g)).run P s.w=.ok () s.w:=run_eqGuard_agg s.w op t B A vs g (by simpa using L);have R:=eqK (P:=P) (s:=s) 100 t ks hk 9900 s.w p q vs.toList g.toList b (.agg vs) (.agg g) hb ⟨by simpa using _d,λi x v k C=>_e i x v k (by simpa using C)⟩ ⟨by simpa using M,λi x v k C=>Q i x v k (by simpa using C)⟩ (.inl ⟨n,by simp⟩) (.inl ⟨n,by simp⟩);have K:(binOp op t (.agg vs) (.agg g)).run P s.w=.ok (.bool (if op=.eql then b else !b)) s.w:=by
      rcases N with rfl|rfl
      all_goals simp_all [run_eql_struct,run_neq_struct]
     simp_all [JM,execOp,rY]
  cases j
 cases hc
end
end Go.Am
end
section
namespace Go.Am
theorem J08.weaken{w:World}{C e:Nat->Nat->Prop}(h: ∀r o,C r o->e r o){x v}(hr:J08 w C x v):J08 w e x v:=by
 induction hr with
 |b x=>exact .b x
 |i k n=>exact .i k n
 |s l=>exact .s l
 |np=>exact .np
 |nf=>exact .nf
 |sl0 _l a cap=>exact .sl0 _l a cap
 |sl _l _f r o cap vals h1 h2 g _ ih=>exact .sl _l _f r o cap vals h1 h2 (λi j row x hr q=>⟨h _ _ (g i j row x hr q).1,(g i j row x hr q).2⟩) ih
 |slc _l _f a _ ih=>exact .slc _l _f a ih
theorem Oe{s c:Sn}(hi:Inv s)(hw:c.w=s.w)(q: ∀k cs,c.σ[k]?=Z (.box cs)->ga c k cs)(v: ∀k wm _l _f,c.σ[k]?=Z (.arr wm _l _f)->fi c k wm _l _f)
  (id:Nat->Nat) (x: ∀e j,e<c.σ.length->j<c.σ.length->id e=id j->e=j) (wr: ∀k r o,Wr1 c k r o->Wr1 s (id k) r o)
  (y: ∀r o,c.g.C r o->r<s.w.heap.size/\ ∀k,¬Wr1 c k r o):Inv c:=by
 have n: ∀k r o,Wr1 c k r o->k<c.σ.length:=(by grind [Wr1]);exact⟨q,v,λe j r o h1 h2=>x e j (n _ _ _ h1) (n _ _ _ h2) (hi.apart _ _ _ _ (wr _ _ _ h1) (wr _ _ _ h2)),λr o h=>by grind⟩
theorem wC{m _p _o}: ∀{xs e:List AV},fin.finL m _p _o xs=Z e->xs.length=e.length/\ ∀(i:Nat) x y,xs[i]?=Z x->e[i]?=Z y->fin m _p _o x=Z y
 |[],e,h=>by grind [fin.finL]
 |x::xs,e,h=>by
  simp only[fin.finL]at h;split at h;rename_i y l j g;cases h;obtain⟨h1,h2⟩:=wC g;grind;cases h
theorem WA{m _p _o}: ∀{xs e:List _x},tB m _p _o xs=Z e->xs.length=e.length/\ ∀(i:Nat) x y,xs[i]?=Z x->e[i]?=Z y->gY m _p _o x=Z y
 |[],e,h=>by grind [tB]
 |x::xs,e,h=>by
  simp only[tB]at h;split at h;rename_i y l j g;cases h;obtain⟨h1,h2⟩:=WA g;grind;cases h
theorem A1{_o}: ∀{_p:List Nat} {e:List _x},yH _o _p=Z e->_p.length=e.length/\ ∀(i:Nat) b y,_p[i]?=Z b->e[i]?=Z y->_o[b]?=Z y
 |[],e,h=>by grind [yH]
 |x::xs,e,h=>by
  simp only[yH]at h;split at h;rename_i y l j g;cases h;obtain⟨h1,h2⟩:=A1 g;grind;cases h
theorem VO{b:Nat}: ∀{_p:List Nat} {k j:Nat},fD b _p k=Z j->k<=j/\_p[j-k]?=Z b
 |[],k,j,h=>by grind [fD]
 |x::r,k,j,h=>by
  simp only[fD]at h;split at h;simp_all;obtain⟨h1,h2⟩:=VO h;grind
theorem m4{b:Nat}: ∀{_p:List Nat} {k:Nat},fD b _p k=Y->b∉_p
 |[],_,_=>by simp
 |x::r,k,h=>by
  simp only[fD]at h;split at h;cases h;rename_i g;simp only[bS,not_or];exact⟨λe=>g e.symm,m4 h⟩
theorem WH: ∀{l:List Nat},kR l=O->l.Nodup|[],_=>List.nodup_nil|x::r,h=>by simp only[kR,aX,GQ]at h;refine List.nodup_cons.2 ⟨?_,WH h.2⟩;simp_all
theorem VS{α:Type}: ∀{l:List α},l.Nodup-> ∀{i j:Nat} {x:α},l[i]?=Z x->l[j]?=Z x->i=j
 |[],_,i,j,x,h,_=>by simp at h
 |y::l,h,i,j,x,h1,h2=>by
  obtain⟨g,e⟩:=List.nodup_cons.1 h;cases i with
  |zero=>
   grind
  |succ i=>
   cases j with
   |zero=>grind
   |succ j=>exact congrArg (· +1) (VS e (i:=i) (j:=j) (x:=x) (by simpa using h1) (by simpa using h2))
def JWl(s:Sn)(m:Nat)(_p:List Nat):Nat->Nat->Prop:=λr o=>s.g.C r o\/(∃b wm _l _f,m<=b/\b∉_p/\s.σ[b]?=Z (_x.arr wm _l _f)/\s.g.μ b=Z (r,0)/\o<_f.length*_l)\/ ∃b cs,m<=b/\b∉_p/\s.σ[b]?=Z (_x.box cs)/\Wr1 s b r o
def lP(s:Sn)(m:Nat)(_p:List Nat)(σ:List _x):Sn:=
 ⟨σ,⟨λk=>if k<m then s.g.μ k else match _p[k-m]? with
  |some b=>s.g.μ b
  |none=>Y,JWl s m _p⟩,s.w⟩
section
variable {s:Sn} {m:Nat} {_p:List Nat} {l q q':List _x}
def gG(m:Nat)(_p:List Nat)(k:Nat):Nat:=if k<m then k else(_p[k-m]?).getD 0
structure ve(s:Sn)(m:Nat)(_p:List Nat)(σ:List _x):Prop where
 inv:Inv s
 le:m<=s.σ.length
 nodup:_p.Nodup
 ge: ∀b∈_p,m<=b
 len:σ.length=m+_p.length
 blk: ∀k x,σ[k]?=Z x-> ∃y,s.σ[gG m _p k]?=Z y/\gY m _p s.σ y=Z x
variable {σ:List _x} (h:ve s m _p σ)
theorem vM(k:Nat)(hk:k<m+_p.length):(lP s m _p σ).g.μ k=s.g.μ (gG m _p k):=by
 grind [lP,gG]
include h in
theorem kp{k:Nat}{x:_x}(hk:σ[k]?=Z x):k<m+_p.length/\ ∃y,s.σ[gG m _p k]?=Z y/\gY m _p s.σ y=Z x:=by have:=JA hk;exact⟨by rw[<-h.len];exact this,h.blk k x hk⟩
include h in
theorem MU{b k:Nat}{y:_x}(g:gG m _p k=b)(hk:k<m+_p.length)(hb:s.σ[b]?=Z y): ∃x,σ[k]?=Z x/\gY m _p s.σ y=Z x:=by
 have e:k<σ.length:=by rw[h.len];exact hk
 obtain⟨j,h1,h2⟩:=h.blk k σ[k] (aZ e);simp_all
theorem vZ{k:Nat}(hk:k<m):gG m _p k=k:=by simp[gG,hk]
theorem j6{b j:Nat}(hj:fD b _p m=Z j):gG m _p j=b/\j<m+_p.length:=by
 obtain⟨h1,h2⟩:=VO hj;grind [gG]
include h in
theorem jz{x y:AV}{v:Value}(hr:JH s x v):fin m _p s.σ x=Z y->JH (lP s m _p σ) y v:=by
 have _e: ∀r o,s.g.C r o->(lP s m _p σ).g.C r o:=λr o h=>.inl h
 induction hr generalizing y with
 |p c v S=>intro hf;simp[fin]at hf;subst hf;exact .p _ _ (S.weaken _e)
 |data cs vs h1 h2=>intro hf;simp[fin]at hf;subst hf;exact .data _ _ h1 λi x v A B=>(h2 i x v A B).weaken _e
 |agg cs vs h1 _d h2 ih=>
  intro hf;simp only[fin]at hf;split at hf;rename_i l R;obtain⟨K,N⟩:=wC R;have hrel: ∀(i:Nat) y v,l[i]?=Z y->vs[i]?=Z v->JH (lP s m _p σ) y v:=(by grind [JA]);split at hf;rename_i q hq;cases hf;have:=OB hq;subst this;refine .data _ _ (by simp_all) λi c v hc B=>?_;have:=hrel i (.p c) v (by simp[hc]) B;cases this<;>simp_all
  cases hf;exact .agg _ _ (by omega) _d hrel;cases hf
 |tup cs vs h1 h2 ih=>
  intro hf;simp only[fin]at hf;split at hf;rename_i l R;cases hf;obtain⟨K,N⟩:=wC R;refine .tup _ _ (by omega) λi y v _a B=>?_;grind [JA];cases hf
 |ptr b off r o hm hb=>
  intro hf;obtain⟨cs,hb⟩:=hb;have go: ∀k,gG m _p k=b->k<m+_p.length->JH (lP s m _p σ) (.ptr k off) (.pointer (Z ⟨r,o+off,Y⟩)):=(by intro k G hk;obtain⟨x,A,z⟩:=MU h G hk hb;simp only[gY]at z;split at z;cases z;exact .ptr k off r o (by grind [vM]) ⟨_,A⟩;cases z);simp only[fin]at hf;split at hf;grind [vZ];rename_i V;split at hf;grind [j6];rename_i D;rw[hb]at hf;simp only[hX]at hf;obtain⟨p,S,rfl⟩:=hf;have:=OB S;subst this;obtain⟨r',o',c,e,fz,H,hh,F,A,aa⟩:=h.inv.box _ _ hb;rw[hm]at H;injection H with H;injection H with L e2;subst L e2;have at_: ∀(j:Nat) x,p[j]?=Z x-> ∃v,c[o+j]?=Z v/\J08 s.w s.g.C x v:=λj x E=>by
   obtain⟨v,h1,h2,_⟩:=A j (.p x) (by simp[E]);cases h2 with
   |p _ _ h2=>exact⟨v,h1,h2⟩
  refine .cp p off r o (λj=>(c[o+j]?).getD undef) (λj x E=>?_) λj x E=>?_;obtain⟨v,h1,h2⟩:=at_ j x E;refine⟨.inr (.inr ⟨b,_,by omega,m4 D,hb,?_⟩),?_⟩;have:=JA E;simp only[Wr1,hb];exact⟨o,hm,by omega,by simp;omega⟩;show cellAt s.w r (o+j)=_;simp[cellAt,hh,h1];obtain⟨v,h1,h2⟩:=at_ j x E;rw[h1];exact h2.weaken _e
 |cp cs off r o vals W p2=>intro hf;simp[fin]at hf;subst hf;exact .cp cs off r o vals (λj x A=>⟨_e _ _ (W j x A).1,(W j x A).2⟩) λj x A=>(p2 j x A).weaken _e
 |_r b i n v wm _l _f _d hb F B=>
  intro hf;have go: ∀k,gG m _p k=b->k<m+_p.length->JH (lP s m _p σ) (._r k i n) v:=by
   intro k G hk;obtain⟨x,A,z⟩:=MU h G hk hb;simp only[gY]at z;cases z;refine ._r k i n v wm _l _f _d A F λe=>?_;have ad:(lP s m _p σ).g.μ k=s.g.μ b:=by grind [vM]
   rcases B e with⟨_c,M,q2,_b⟩|⟨r,cap,c,L,fz,_c,q⟩;exact .inl ⟨by simp_all,M,q2,_b⟩;exact .inr ⟨r,cap,c,L,fz,by simp_all,q⟩
  simp only[fin]at hf;split at hf;grind [vZ];rename_i V;split at hf;grind [j6];rename_i D;rw[hb]at hf;simp only at hf;split at hf;rename_i e;cases hf;obtain⟨a,cap,K,N,Q,U⟩:=lQ.of_slr h.inv (._r b i n v wm _l _f _d hb F B) hb e;refine .p _ _ (ou (s:=lP s m _p σ) K N Q (U.imp id ?_));rintro⟨r,o,rfl,A⟩;refine⟨r,o,rfl,λk j row x hk E=>⟨.inr (.inl ⟨b,wm,_l,_f,by omega,m4 D,hb,?_⟩),?_⟩⟩;rcases B e with⟨_c,M,q2,_b⟩|⟨r',a4,c,L,fz,_c,M,_⟩;simp_all;rw[K]at M;injection M with v1 v2 v3;injection v1 with v1;injection v1 with v1 v4;subst v1 v4;refine⟨_c,?_⟩;have T:=JA hk;have P:=JA E;rw[Q row (jV hk)]at P;rw[AT]at T;have:=mX (a:=i+k) (b:=j) (n:=_f.length) (e:=_l) (by omega) P;grind;obtain⟨u,hu,hr⟩:=A k j row x hk E;exact⟨u,hu,hr.weaken _e⟩;cases hf
 |ep b ext i off v wm _l _f _d hb F B=>
  intro hf;have go: ∀k,gG m _p k=b->k<m+_p.length->JH (lP s m _p σ) (.ep k ext i off) v:=(by intro k G hk;obtain⟨x,A,z⟩:=MU h G hk hb;simp only[gY]at z;cases z;refine .ep k ext i off v wm _l _f _d A F λL e2=>?_;grind [vM]);grind [fin,vZ,Option.map_eq_some_iff,j6]
 |fn f first caps fs cs h1 h2 _ _ ab a9=>
  intro hf;simp only[fin]at hf;split at hf
  ·rename_i a c ha hc;cases hf;obtain⟨K,N⟩:=wC ha;obtain⟨Q,U⟩:=wC hc;refine .fn f a c fs cs (by omega) (by omega) (λi y v _a B=>?_) (λi y v _a B=>?_)
   all_goals grind [JA]
  cases hf
 |unk x=>intro hf;simp[fin]at hf;subst hf;exact .unk x
 |pre=>intro hf;simp[fin]at hf
include h in
theorem MX(k r o:Nat)(hw:Wr1 (lP s m _p σ) k r o):k<m+_p.length/\Wr1 s (gG m _p k) r o:=by
 unfold Wr1 at hw;have g:(lP s m _p σ).σ=σ:=rfl;rw[g]at hw;cases hk:σ[k]? with
 |none=>simp_all
 |some x=>obtain⟨e,y,j,hf⟩:=kp h hk;refine⟨e,?_⟩;rw[hk]at hw;rw[vM k e]at hw;unfold Wr1;rw[j];cases y<;>grind [gY,wC]
include h in
theorem On:Inv (lP s m _p σ):=by
 have hi:=h.inv;have S: ∀A z,A<m+_p.length->z<m+_p.length->gG m _p A=gG m _p z->A=z:=by
  intro A z h1 h2 C;simp only[gG]at C;split at C<;>split at C
  exact C;rename_i a b;have:z-m<_p.length:=by omega
  have:=h.ge _p[z-m] (by simp);grind;rename_i a b;have:=h.ge (_p[A-m]'(by omega)) (by simp);grind;have _b:A-m<_p.length:=by omega
  have W:z-m<_p.length:=by omega
  simp[_b,W]at C;have:=VS h.nodup (aZ _b) (by rw[C];exact aZ W);omega
 refine Oe hi rfl ?_ ?_ (gG m _p) (λA z h1 h2 C=>S A z (by rw[<-h.len];exact h1) (by rw[<-h.len];exact h2) C) (λk r o n=>(MX h k r o n).2) ?_;intro k cs hk;obtain⟨_e,y,Q,hf⟩:=kp h hk;cases y with
 |dead=>grind [gY]
 |arr=>grind [gY]
 |box T=>
  simp only[gY]at hf;split at hf;rename_i l K;injection hf with hf;cases hf;obtain⟨A,z⟩:=wC K;obtain⟨r,o,c,e,fz,g,F,a2,L,M⟩:=hi.box _ _ Q;refine⟨r,o,c,e,fz,by grind [vM],F,by omega,λi x a0=>?_,by simp_all⟩;grind [JA,jz];cases hf
 intro k wm _l _f hk;obtain⟨_e,y,Q,hf⟩:=kp h hk;cases y with
 |dead=>grind [gY]
 |box T=>grind [gY]
 |arr w e rs=>
  simp[gY]at hf;obtain⟨rfl,rfl,rfl⟩:=hf;rcases hi.arr _ _ _ _ Q with⟨g,R⟩|⟨r,c,e,fz,g,F,E,K,L,M⟩;exact .inl ⟨by grind [vM],R⟩;refine .inr ⟨r,c,e,fz,by grind [vM],F,E,K,λi j row x h1 h2=>?_,M⟩;obtain⟨⟨v,_a,R⟩,hc⟩:=L i j row x h1 h2;exact⟨⟨v,_a,R.weaken λr o h=>.inl h⟩,λe=>.inl (hc e)⟩
 intro r o hc;rcases hc with hc|⟨b,wm,_l,_f,V,U,H,B,a1⟩|⟨b,cs,V,U,H,B⟩;exact⟨(hi.const r o hc).1,λk n=>(hi.const r o hc).2 _ (MX h k r o n).2⟩;rcases hi.arr _ _ _ _ H with⟨g,_⟩|⟨r',c,e,fz,g,F,E,K,L,_⟩;simp_all;rw[B]at g;injection g with g;injection g with g _;subst g;refine⟨zG F,λk n=>?_⟩;obtain⟨_e,n⟩:=MX h k r o n;have D:gG m _p k≠b:=(by grind [gG]);cases wm with
 |true=>
  refine D (hi.apart _ _ _ _ n ?_);grind [Wr1]
 |false=>
  have _c:0<_l:=(by grind);have _d:o/_l<_f.length:=Nat.div_lt_of_lt_mul (by grind);have G:_f[o/_l]?=Z (_f[o/_l]'_d):=aZ _;have hlen:=E _ (jV G);have P:o%_l<(_f[o/_l]'_d).length:=by rw[hlen];exact Nat.mod_lt _ _c
  have N:=(L _ _ _ _ G (aZ P)).2 rfl;have:o/_l*_l+o%_l=o:=by grind [Nat.div_add_mod]
  rw[this]at N;exact(hi.const r o N).2 _ n
 refine⟨?_,λk n=>?_⟩;obtain⟨r',o',c,e,fz,g,F,_⟩:=hi.box _ _ H;simp only[Wr1,H]at B;obtain⟨o0,q,_⟩:=B;rw[q]at g;injection g with g;injection g with g _;subst g;exact zG F;obtain⟨_e,n⟩:=MX h k r o n;have D:gG m _p k≠b:=(by grind [gG]);exact D (hi.apart _ _ _ _ n B)
include h in
theorem zg{E:Sn}(t:bE E s)(L:E.σ.length<=m):bE E (lP s m _p σ):=by
 have hi:=h.inv;refine⟨t.keep,λr o hc=>.inl (t.cmono r o hc),λr o hc=>?_,λr o ⟨k,G⟩=>t.wnew r o ⟨_,(MX h k r o G).2⟩,?_,λb cs hb=>?_,λb wm _l _f hb=>?_⟩;rcases hc with hc|⟨b,wm,_l,_f,K,_d,C,v,_e⟩|⟨b,cs,_,_,_,v⟩;exact t.cnew r o hc;cases wm with
 |true=>have:=t.wnew r o ⟨b,by grind [Wr1]⟩;exact .inr this
 |false=>
  rcases hi.arr _ _ _ _ C with⟨n,_⟩|⟨r',c,e,fz,n,N,B,H,y,_⟩;simp_all;rw[v]at n;injection n with n;injection n with n _;subst n;have F:0<_l:=(by grind);have w:o/_l<_f.length:=Nat.div_lt_of_lt_mul (by grind);have q:_f[o/_l]?=Z (_f[o/_l]'w):=aZ _;have hlen:=B _ (jV q);have A:o%_l<(_f[o/_l]'w).length:=by simp_all [Nat.mod_lt]
  have z:=(y _ _ _ _ q (aZ A)).2 rfl;have:o/_l*_l+o%_l=o:=by grind [Nat.div_add_mod]
  rw[this]at z;exact t.cnew r o z
 exact .inr (t.wnew r o ⟨b,v⟩);show E.σ.length<=σ.length;rw[h.len];omega;have j:b<m:=by grind
 obtain⟨⟨cs',h1,h2⟩,D⟩:=t.box b cs hb;obtain⟨x,y,g⟩:=MU h (vZ j) (by omega) h1;simp only[gY]at g;split at g;rename_i l H;cases g;exact⟨⟨l,y,by grind [wC]⟩,by grind [vM,vZ]⟩;cases g;have j:b<m:=by grind
 obtain⟨wm',rows',h1,h2,D,M⟩:=t.arr b wm _l _f hb;obtain⟨x,y,g⟩:=MU h (vZ j) (by omega) h1;simp[gY]at g;subst g;exact⟨wm',rows',y,h2,D,λe=>by grind [vM,vZ]⟩
end
end Go.Am
end
section
namespace Go.Am
def J6J(P:Program)(f:FuncId)(args:List AV)(_q:List _x)(r:Res):Prop:=
 (∃fn,P.funcs[f]?=some fn∧fn.body.isSome=true∧(fn.name== "runtime.NumGoroutine")=false)∧
 ∀(g:Gh) (w:World) (vals:Array Value),Inv ⟨_q,g,w⟩->args.length=vals.size->(∀(i:Nat) x v,args[i]?=Z x->vals[i]?=Z v->JH ⟨_q,g,w⟩ x v)->
  Calls P f vals w λe w'=> ∃v g',e=.returned v/\Inv ⟨r.2,g',w'⟩/\bE ⟨_q,g,w⟩ ⟨r.2,g',w'⟩/\JH ⟨r.2,g',w'⟩ r.1 v
def kT(P:Program)(F:Orc):Prop:= ∀f args _q r,F f args _q=Z r->J6J P f args _q r
theorem zB{e:_A}: ∀{es:List _A} {k j:Nat},dV e es k=Z j->k<=j/\es[j-k]?=Z e
 |[],k,j,h=>by grind [dV]
 |x::r,k,j,h=>by
  simp only[dV]at h;split at h;simp_all;obtain⟨h1,h2⟩:=zB h;grind
theorem wE{ρ:_A->Option Nat}: ∀{xs e:List AV},ren.renL ρ xs=Z e->xs.length=e.length/\ ∀(i:Nat) x y,xs[i]?=Z x->e[i]?=Z y->ren ρ x=Z y
 |[],e,h=>by grind [ren.renL]
 |x::xs,e,h=>by
  simp only[ren.renL]at h;split at h;rename_i y l j g;cases h;obtain⟨h1,h2⟩:=wE g;grind;cases h
theorem wB{es:List _A}{_m:Nat}: ∀{xs e:List AV},bk.bkL es _m xs=Z e->xs.length=e.length/\ ∀(i:Nat) x y,xs[i]?=Z x->e[i]?=Z y->bk es _m x=Z y
 |[],e,h=>by grind [bk.bkL]
 |x::xs,e,h=>by
  simp only[bk.bkL]at h;split at h;rename_i y l j g;cases h;obtain⟨h1,h2⟩:=wB g;grind;cases h
def d7(s:Sn)(ρ:_A->Option Nat)(e:_A)(x:_x):Prop:=
 match e with
 | .whole b=>(∃cs l,s.σ[b]?=Z (.box cs)/\ren.renL ρ cs=Z l/\x=.box l)\/(∃w _l _f,s.σ[b]?=Z (.arr w _l _f)/\x=.arr w _l _f)
 | .elem b ext i=> ∃_l _f row,s.σ[b]?=Z (.arr O _l _f)/\ext=_f.length/\_f[i]?=Z row/\x=.box (row.map .p)
section
variable {s:Sn} {env:List (Nat×AV)}
theorem lq{e:List _x}{ws:List (Nat×_x)}{b:Nat}{x:_x}(h:(sY ws b).run ⟨env,e⟩=Z x):(upd ws e)[b]?=Z x:=by
 grind [sY,RM.run,yQ]
theorem JMo{j:List _x}{ws:List (Nat×_x)}(k:s.σ=upd ws j){ρ:_A->Option Nat}{e:_A}{x:_x}(h:(BU ws ρ e).run ⟨env,j⟩=Z x):d7 s ρ e x:=by
 cases e with
 |whole b=>
  simp only[BU]at h;obtain⟨y,h1,h⟩:=bind_some h;have hb:=lq h1;rw[<-k]at hb;cases y with
  |dead=>cases h
  |box cs=>
   dsimp only at h;split at h;rename_i l n;simp only[RM.run]at h;cases h;exact .inl ⟨cs,l,hb,n,rfl⟩;cases h
  |arr w _l _f=>
   simp only[RM.run]at h;cases h;exact .inr ⟨w,_l,_f,hb,rfl⟩
 |elem b ext i=>
  simp only[BU]at h;obtain⟨y,h1,h⟩:=bind_some h;have hb:=lq h1;rw[<-k]at hb;cases y with
  |arr w _l _f=>
   cases w;cases h;dsimp only at h;split at h;rename_i o;split at h;rename_i row g;simp only[RM.run]at h;cases h;exact⟨_l,_f,row,hb,o,g,rfl⟩;cases h;cases h
  |_=>cases h
theorem A7{g:List _x}{ws:List (Nat×_x)}(j:s.σ=upd ws g){ρ:_A->Option Nat}: ∀{es:List _A} {_q:List _x},(lZ ws ρ es).run ⟨env,g⟩=Z _q->
  es.length=_q.length/\ ∀(k:Nat) e x,es[k]?=Z e->_q[k]?=Z x->d7 s ρ e x
 |[],_q,h=>by grind [lZ,RM.run]
 |e::es,_q,h=>by
  simp only[lZ]at h;obtain⟨x,h1,h⟩:=bind_some h;obtain⟨l,h2,h⟩:=bind_some h;simp only[RM.run]at h;cases h;obtain⟨n,o⟩:=A7 j h2;grind [JMo]
def iX(s:Sn)(es:List _A)(_q:List _x):Sn:=
 ⟨_q,⟨λk=>match es[k]? with
  |some (.whole b)=>s.g.μ b
  |some (.elem b _ i)=>(match s.σ[b]? with
   |some (.arr _ _l _)=>(match s.g.μ b with
    |some p=>Z (p.1,i*_l)
    |none=>Y)
   |_=>Y)
  |none=>Y,s.g.C⟩,s.w⟩
structure xu(s:Sn)(es:List _A)(_q:List _x):Prop where
 inv:Inv s
 nodup:(es.map _A.id).Nodup
 len:es.length=_q.length
 blk: ∀(k:Nat) e x,es[k]?=Z e->_q[k]?=Z x->d7 s (λe=>dV e es 0) e x
variable {es:List _A} {_q:List _x} (h:xu s es _q)
include h in
theorem tH{k:Nat}{e:_A}(he:es[k]?=Z e): ∃x,_q[k]?=Z x/\d7 s (λe=>dV e es 0) e x:=by
 have g:=JA he;have:k<_q.length:=by rw[<-h.len];exact g
 exact⟨_q[k],aZ this,h.blk k e _ he (aZ this)⟩
theorem zA{k b:Nat}(he:es[k]?=Z (.whole b)):(iX s es _q).g.μ k=s.g.μ b:=by simp[iX,he]
theorem VH{k b ext i _l:Nat}{wm _f r}(he:es[k]?=Z (.elem b ext i))(hb:s.σ[b]?=Z (.arr wm _l _f))(hm:s.g.μ b=Z (r,0)):(iX s es _q).g.μ k=Z (r,i*_l):=by
 grind [iX]
include h in
theorem Ni{x y:AV}{v:Value}(hr:JH s x v):ren (λe=>dV e es 0) x=Z y->JH (iX s es _q) y v:=by
 induction hr generalizing y with
 |p c v Q=>intro hf;simp[ren]at hf;subst hf;exact .p _ _ Q
 |data cs vs h1 h2=>intro hf;simp[ren]at hf;subst hf;exact .data _ _ h1 h2
 |cp cs off r o vals N M=>intro hf;simp[ren]at hf;subst hf;exact .cp cs off r o vals N M
 |unk x=>intro hf;simp[ren]at hf;subst hf;exact .unk x
 |pre=>intro hf;simp[ren]at hf
 |agg cs vs h1 B h2 ih=>
  intro hf;simp only[ren]at hf;obtain⟨l,F,rfl⟩:=hX.1 hf;obtain⟨H,K⟩:=wE F;refine .agg _ _ (by omega) B λi y v G j=>?_;grind [JA]
 |tup cs vs h1 h2 ih=>
  intro hf;simp only[ren]at hf;obtain⟨l,F,rfl⟩:=hX.1 hf;obtain⟨H,K⟩:=wE F;refine .tup _ _ (by omega) λi y v G j=>?_;grind [JA]
 |ptr b off r o hm hb=>
  intro hf;simp only[ren]at hf;obtain⟨k,hk,rfl⟩:=hX.1 hf;obtain⟨_,hk⟩:=zB hk;simp only[uQ]at hk;obtain⟨cs,hb⟩:=hb;obtain⟨x,A,z⟩:=tH h hk;rcases z with⟨cs',l,h1,h2,rfl⟩|⟨w,_l,_f,h1,rfl⟩;exact .ptr k off r o (by grind [zA]) ⟨l,A⟩;simp_all
 |_r b i n v wm _l _f B hb C j=>
  intro hf;simp only[ren]at hf;obtain⟨k,hk,rfl⟩:=hX.1 hf;obtain⟨_,hk⟩:=zB hk;simp only[uQ]at hk;obtain⟨x,A,z⟩:=tH h hk;rcases z with⟨cs',l,h1,h2,rfl⟩|⟨w,D,rows',h1,rfl⟩;simp_all;rw[hb]at h1;injection h1 with h1;injection h1 with a1 a2 a3;subst a1 a2 a3;refine ._r k i n v wm _l _f B A C λe=>?_;have _b:(iX s es _q).g.μ k=s.g.μ b:=zA hk;rcases j e with⟨E,_c,T,P⟩|⟨r,cap,c,S,fz,E,q⟩;exact .inl ⟨by simp_all,_c,T,P⟩;exact .inr ⟨r,cap,c,S,fz,by simp_all,q⟩
 |ep b ext i off v wm _l _f B hb C j=>
  intro hf;simp only[ren]at hf;obtain⟨k,hk,rfl⟩:=hX.1 hf;obtain⟨_,hk⟩:=zB hk;simp only[uQ]at hk;obtain⟨x,A,z⟩:=tH h hk;obtain⟨D,rows',row,h1,h2,R,rfl⟩:=z;have _d:=h1;rw[hb]at h1;injection h1 with h1;injection h1 with a1 a2 a3;subst a1 a2 a3;have U:=JA R;obtain⟨r,E,j⟩:=j h2 (by omega);subst j;exact .ptr k off r (i*_l) (VH hk _d E) ⟨_,A⟩
 |fn f first caps fs cs h1 h2 _ _ V W=>
  intro hf;simp only[ren]at hf;obtain⟨l1,L,hf⟩:=bN.1 hf;obtain⟨l2,_e,rfl⟩:=hX.1 hf;obtain⟨H,K⟩:=wE L;obtain⟨_a,k4⟩:=wE _e;refine .fn f _ _ fs cs (by omega) (by omega) (λi y v G j=>?_) (λi y v G j=>?_)
  all_goals grind [JA]
def idE(es:List _A)(k:Nat):Nat:=((es[k]?).map _A.id).getD 0
theorem yK{k:Nat}{e:_A}(he:es[k]?=Z e):idE es k=e.id:=by simp[idE,he]
include h in
theorem vI(k r o:Nat)(hw:Wr1 (iX s es _q) k r o):k<es.length/\Wr1 s (idE es k) r o:=by
 unfold Wr1 at hw;have q:(iX s es _q).σ=_q:=rfl;rw[q]at hw;cases hk:_q[k]? with
 |none=>simp_all
 |some x=>
  have j:k<es.length:=by rw[h.len];grind
  refine⟨j,?_⟩;have e:es[k]?=Z es[k]:=aZ j;have g:=h.blk k _ x e hk;rw[yK e];rw[hk]at hw;unfold Wr1;cases hcase:es[k]with
  |whole b=>
   rw[hcase]at g e;rcases g with⟨cs',l,h1,h2,rfl⟩|⟨w,n,rows',h1,rfl⟩
   all_goals grind [_A.id,zA,wE]
  |elem b ext i=>
   rw[hcase]at g e;obtain⟨n,rows',row,h1,h2,v,rfl⟩:=g;grind [_A.id,iX]
include h in
theorem JUS:Inv (iX s es _q):=by
 have hi:=h.inv;have hlen:(iX s es _q).σ.length=es.length:=h.len.symm;refine Oe hi rfl ?_ ?_ (idE es) ?_ (λk r o _d=>(vI h k r o _d).2) (λr o hc=>⟨(hi.const r o hc).1,λk _d=>(hi.const r o hc).2 _ (vI h k r o _d).2⟩);intro k cs hk;have hk:_q[k]?=Z (.box cs):=hk;have z:k<es.length:=by grind
 have y:es[k]?=Z es[k]:=aZ z;have q:=h.blk k _ _ y hk;cases hcase:es[k]with
 |whole b=>
  rw[hcase]at q y;rcases q with⟨cs',l,h1,h2,g⟩|⟨w,n,rows',h1,g⟩;cases g;obtain⟨D,H⟩:=wE h2;obtain⟨r,o,c,e,fz,C,K,V,L,F⟩:=hi.box _ _ h1;refine⟨r,o,c,e,fz,by grind [zA],K,by omega,λi x T=>?_,by simp_all⟩;grind [JA,Ni];cases g
 |elem b ext i=>
  rw[hcase]at q y;obtain⟨n,rows',row,h1,h2,E,g⟩:=q;cases g;have G:=JA E;rcases hi.arr _ _ _ _ h1 with⟨C,B⟩|⟨r,c,e,fz,C,K,_e,W,L,F⟩;simp_all;have U:=_e row (jV E);have M:i*n+n<=rows'.length*n:=(by have:=zQ4 n (show i+1<=rows'.length from G);grind);refine⟨r,i*n,c,e,fz,VH y h1 C,K,by simp;omega,λj x A=>?_,λo h1 h2=>F.1 o (zQ2 _) (by grind)⟩;rw[iL]at A;cases hrj:row[j]? with
  |none=>simp_all
  |some N=>simp[hrj]at A;subst A;obtain⟨⟨v,S,B⟩,_⟩:=L i j row N E hrj;exact⟨v,S,.p _ _ B,B.one⟩
 intro k wm _l _f hk;have hk:_q[k]?=Z (.arr wm _l _f):=hk;have z:k<es.length:=by grind
 have y:es[k]?=Z es[k]:=aZ z;have q:=h.blk k _ _ y hk;cases hcase:es[k]with
 |whole b=>
  rw[hcase]at q y;rcases q with⟨cs',l,h1,h2,g⟩|⟨w,n,rows',h1,g⟩;cases g;injection g with a1 a2 a3;subst a1 a2 a3;rcases hi.arr _ _ _ _ h1 with⟨C,B⟩|⟨r,c,e,fz,C,_c⟩;exact .inl ⟨by grind [zA],B⟩;exact .inr ⟨r,c,e,fz,by grind [zA],_c⟩
 |elem b ext i=>rw[hcase]at q y;obtain⟨n,rows',row,h1,h2,E,g⟩:=q;cases g
 ·intro D H h1 h2 R;rw[hlen]at h1 h2;have Q:es[D]?=Z es[D]:=aZ h1;have P:es[H]?=Z es[H]:=aZ h2;rw[yK Q,yK P]at R;refine VS h.nodup (x:=es[D].id) ?_ ?_
  all_goals simp_all
end
end Go.Am
end
