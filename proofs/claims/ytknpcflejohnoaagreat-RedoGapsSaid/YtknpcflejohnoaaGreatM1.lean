/-
  Parts of a proof.
-/
import Derived.Calls
import Derived.LoopN
import Derived.KernelRfl
import Derived.Laws.Sem
import Derived.Laws.StructEq
import Derived.Laws.Cells
import Derived.Laws.Cover3
import Derived.Laws.Pointers
import Derived.Deep.AppendSrc
import Derived.Laws.MakeOwn
import Derived.Laws.BytesString
import Derived.DeepKeys
set_option linter.unusedSimpArgs false
set_option linter.unusedVariables false
section
namespace Go.Am
abbrev aI:=Option
abbrev zQ0:= @Nat.le_refl
abbrev zQ1:= @Nat.le_trans
abbrev zQ2:= @Nat.zero_le
abbrev zQ3:= @Nat.lt_or_ge
abbrev zQ4:= @Nat.mul_le_mul_right
abbrev zQ5:= @List.mem_of_getElem?
abbrev zQ6:= @List.ext_getElem?
abbrev zQ7:= @List.mem_of_mem_drop
abbrev zQ8:= @Nat.add_mul
abbrev zQ9:= @List.getElem?_eq_getElem
abbrev kS:= @List.getElem?_eq_none
abbrev eR:= @List.mem_cons
abbrev cK:= @List.mem_append
abbrev JZ:= @Bool.and_eq_true
abbrev yM:= @Sem.run_bind
abbrev tL:= @Result.andThen_ok
abbrev gM:= @Option.map_eq_some_iff
abbrev kh:= @Option.isSome_iff_exists
abbrev HF:= @Nat.add_assoc
abbrev DC:= @Array.ext'
abbrev TP:= @Array.getElem?_toList
abbrev kR:= @List.flatten_cons
abbrev gA:= @List.getElem?_map
abbrev eL:= @Bool.false_eq_true
abbrev UU:= @List.length_eq_one_iff
abbrev mT:= @List.getElem?_of_mem
abbrev HG:= @Sem.run_pure
abbrev kr:= @List.mem_of_mem_take
abbrev DK:= @List.getElem?_set_self
abbrev HH:= @List.getElem?_set_ne
abbrev vQ:= @List.length_cons
abbrev UH:= @Array.all_eq_true_iff_forall_mem
abbrev zD:= @List.length_replicate
abbrev jM:= @List.mem_map
abbrev mM:= @List.getElem?_append_right
abbrev fE:= @List.length_map
abbrev yO:= @Nat.add_zero
abbrev HZ:= @List.drop_zero
abbrev lO:= @Nat.zero_add
abbrev DW:= @Array.getElem?_eq_getElem
abbrev dS:= @List.length_append
abbrev tK:= @List.cons_append
abbrev UM:= @List.getElem?_take
abbrev EC:= @List.getElem?_drop
abbrev eD:= @List.length_take
abbrev rA:= @List.length_drop
abbrev wA:= @List.drop_drop
abbrev mR:= @Bool.not_eq_true'
abbrev vV:= @Nat.sub_zero
abbrev cR:= @Option.bind_eq_some_iff
abbrev JI:= @Option.bind_some
abbrev yQ:= @List.mem_cons_of_mem
abbrev DY:= @Bool.or_eq_true
abbrev pI:= @Array.getElem?_eq_some_iff
abbrev fM:= @List.append_assoc
abbrev tM:= @List.take_append_drop
abbrev Ci:= @List.map_take
abbrev bP:= @List.map_cons
abbrev kO:= @List.append_nil
abbrev zH:= @List.map_map
abbrev yI:= @List.map_append
abbrev dU:= @Option.map_some
abbrev lP:= @List.nil_append
abbrev TW:= @List.all_eq_true
abbrev zE:= @List.map_replicate
abbrev jK:= @List.mem_singleton
abbrev UQ:= @Option.getD_some
abbrev rD:= @List.getElem?_append_left
abbrev pC:= @Int.le_trans
abbrev lK:= @List.getElem_mem
abbrev aU:= @Int.le_refl
abbrev lz:= @List.mem_or_eq_of_mem_set
abbrev kN:= @List.mem_iff_getElem?
abbrev DD:= @Nat.pow_le_pow_right
abbrev dK:= @List.getElem?_eq_some_iff
abbrev IN:= @List.length_flatten
abbrev kx:= @List.take_succ_cons
theorem _root_.And.c{h g e:Prop}(x:h/\g/\e):e:=x.2.2
theorem _root_.And.d{g h j e:Prop}(x:g/\h/\j/\e):e:=x.2.2.2
theorem _root_.And.e{j k n h g:Prop}(x:j/\k/\n/\h/\g):g:=x.2.2.2.2
theorem _root_.And.g{j n o h k e:Prop}(x:j/\n/\o/\h/\k/\e):e:=x.2.2.2.2.2
theorem _root_.And.h{j n q g k o e:Prop}(x:j/\n/\q/\g/\k/\o/\e):e:=x.2.2.2.2.2.2
theorem _root_.And.i{h k o g j n q e:Prop}(x:h/\k/\o/\g/\j/\n/\q/\e):e:=x.2.2.2.2.2.2.2
theorem _root_.And.j{h n r g k q v o e:Prop}(x:h/\n/\r/\g/\k/\q/\v/\o/\e):e:=x.2.2.2.2.2.2.2.2
theorem _root_.And.k{h n r g j q w o v e:Prop}(x:h/\n/\r/\g/\j/\q/\w/\o/\v/\e):e:=x.2.2.2.2.2.2.2.2.2
inductive PV where
 |b (x:Bool)
 |i (k:IntKind) (n:Int)
 |s (l:List UInt8)
 |sl (esz:Nat) (rows:List (List PV))
 |np
 |nf
 |slc (esz:Nat) (rows:List (List PV))
 deriving Inhabited
inductive AV where
 |p (c:PV)
 |data (cs:List PV)
 |agg (cs:List AV)
 |tup (vs:List AV)
 |ptr (b off:Nat)
 |cp (cs:List PV) (off:Nat)
 |slr (b i n:Nat)
 |ep (b ext i off:Nat)
 |fn (f:FuncId) (first caps:List AV)
 |unk
 deriving Inhabited
inductive Blk where
 |dead
 |box (cs:List AV)
 |arr (w:Bool) (esz:Nat) (rows:List (List PV))
 deriving Inhabited
abbrev Res:=AV×List Blk
abbrev Orc:=FuncId->List AV->List Blk->Option Res
structure St where
 env:List (Nat×AV)
 sto:List Blk
def lk(n:Nat):List (Nat×AV)->Option AV|[]=>none|(m,v)::r=>if n=m then some v else lk n r
inductive RM(α:Type) where|ret (a:α)|slot (n:Nat) (k:AV->RM α)|blk (b:Nat) (k:Blk->RM α)|fail
def RM.bind{α β:Type}:RM α->(α->RM β)->RM β| .ret a,f=>f a| .slot n k,f=>.slot n λv=>(k v).bind f| .blk b k,f=>.blk b λv=>(k v).bind f| .fail,_=>.fail
def RM.run{α:Type}:RM α->St->Option α
 | .ret a,_=>some a
 | .slot n k,s=>match lk n s.env with|some v=>(k v).run s|none=>none
 | .blk b k,s=>match s.sto[b]? with|some v=>(k v).run s|none=>none
 | .fail,_=>none
inductive Loc where
 |slot (n:Nat)
 |blk (b:Nat)
 deriving DecidableEq
def RM.reads{α:Type}:RM α->St->List Loc
 | .ret _,_=>[]
 | .slot n k,s=>.slot n::match lk n s.env with|some v=>(k v).reads s|none=>[]
 | .blk b k,s=>.blk b::match s.sto[b]? with|some v=>(k v).reads s|none=>[]
 | .fail,_=>[]
def RM.of{α:Type}:Option α->RM α|some a=>.ret a|none=>.fail
inductive Opd where
 |t (n:Nat)
 |c (x:AV)
 deriving Inhabited
inductive KD where
 |b
 |i (k:IntKind)
 |s
 deriving DecidableEq
inductive BT where
 |plain
 |bool
 |flat (ks:List KD)
 |nils
 |nilp
 |nilf
 deriving DecidableEq
inductive CK where
 |int (k:IntKind)
 |same
 |toStr
 |toBytes (own:Bool)
 deriving DecidableEq
inductive SK where
 |str
 |sl (esz:Nat)
 deriving DecidableEq
inductive AOp where
 |mv (x:Opd)
 |mkarr (esz:Nat) (x:Opd)
 |pick (c a b:Opd)
 |newbox (zero:List PV)
 |box (size:Nat) (x:Opd)
 |build (zero:List PV) (parts:List (Nat×Nat×Opd))
 |lits (own:Bool) (esz n:Nat) (zero:List PV) (parts:List (Nat×Opd))
 |load (agg:Bool) (size:Nat) (x:Opd)
 |store (size:Nat) (x v:Opd)
 |nilchk (x:Opd)
 |bin (op:BinOp) (t:BT) (x y:Opd)
 |un (op:UnOp) (x:Opd)
 |conv (k:CK) (x:Opd)
 |mkslice (own:Bool) (esz bytes:Nat) (zero:List PV) (l c:Opd)
 |slice (k:SK) (x:Opd) (lo hi mx:Option Opd)
 |faddr (off:Nat) (x:Opd)
 |field (agg:Bool) (off size:Nat) (x:Opd)
 |iaddr (esz:Nat) (x i:Opd)
 |aaddr (len esz:Nat) (x i:Opd)
 |sidx (x i:Opd)
 |aidx (agg:Bool) (len esz:Nat) (x i:Opd)
 |extr (x:Opd) (i:Nat)
 |call (f:FuncId) (args:List Opd) (k:Nat)
 |callv (g:Opd) (args:List Opd) (k:Nat)
 |len (str:Bool) (x:Opd)
 |alen (n:Nat)
 |app (esz bytes:Nat) (zero:List PV) (x y:Opd)
 |appn (esz bytes:Nat) (zero:List PV) (y:Opd)
 |appz (esz bytes:Nat) (zero:List PV) (x y:Opd)
 |appc (esz bytes:Nat) (zero:List PV) (x y:Opd)
 |mm (mx:Bool) (x y:Opd)
 |mkfn (f:FuncId) (first caps:List Opd)
 |newboxo (zero:List PV) (os:List (Nat×Nat))
 |buildo (zero:List PV) (parts:List (Nat×Nat×Opd)) (os:List (Nat×Nat))
 |storen (esz:Nat) (x:Opd)
 |callo (f:FuncId) (keep:List Bool) (args:List Opd) (k:Nat)
 deriving Inhabited
structure cD where
 op:AOp
 dst:Option Nat
 g:Option (Nat×Bool)
 deriving Inhabited
inductive cF where
 |skip
 |bad
 |reg (draw:Bool) (pairs:List (Nat×Nat)) (ins:List cD)
 |seq (a b:cF)
 |cond (c:Opd) (a b:cF)
 |block (id:Nat) (c:cF)
 |loop (live:List Nat) (c:cF)
 |lp (n:Nat) (live:List Nat) (c:cF)
 |scope (c:cF)
 |exit (id:Nat)
 |ret
 |keep (live:List Nat) (c:cF)
 |tidy (live:List Nat) (c:cF)
 |br (live:List Nat) (pre:cF) (c:Opd) (a b rest:cF)
 deriving Inhabited
inductive AX where
 |normal
 |exit (id:Nat)
 |ret
 deriving DecidableEq
abbrev Out:=AX×St
inductive vU where|tmp (t:Nat)|cell (t:Nat) (agg:Bool) (size:Nat)
structure AFn where
 np:Nat
 nt:Nat
 body:cF
 res:List vU
 fresh:Bool
structure Eff where
 val:AV
 ws:List (Nat×Blk)
def upd(ws:List (Nat×Blk))(sto:List Blk):List Blk:=ws.foldl (λs x=>s.set x.1 x.2) sto
def unp:List AV->Option (List PV)
 |[]=>some []
 | .p c::r=>match unp r with|some l=>some (c::l)|none=>none
 |_::_=>none
def cellsOf:AV->Option (List AV)| .p c=>some [.p c]| .data cs=>some (cs.map .p)| .agg cs=>some cs| .ptr b o=>some [.ptr b o]| .cp cs o=>some [.cp cs o]| .slr b i n=>some [.slr b i n]| .ep b e i o=>some [.ep b e i o]| .fn f a c=>some [.fn f a c]| .tup _=>none| .unk=>none
def lC(agg:Bool)(cs:List AV):Option AV:=
 if agg then
  match unp cs with
  |some l=>some (.data l)
  |none=>some (.agg cs)
 else match cs with|[x]=>some x|_=>none
def oQ(agg:Bool)(cs:List PV):Option AV:=
 if agg then some (.data cs)
 else match cs with|[x]=>some (.p x)|_=>none
def sub{α:Type}(cs:List α)(off size:Nat):Option (List α):=if off=0/\cs.length=size then some cs else if off+size<=cs.length then some ((cs.drop off).take size)else none
def spl{α:Type}(cs:List α)(off:Nat)(vs:List α):Option (List α):=if off=0/\cs.length=vs.length then some vs else if off+vs.length<=cs.length then some (cs.take off++vs++cs.drop (off+vs.length))else none
def fz:AV->RM (List PV×List (Nat×Blk))
 | .p c=>.ret ([c],[])
 | .data cs=>.ret (cs,[])
 | .slr b i n=>.blk b fun
  | .arr _ esz rows=>if i+n=rows.length then .ret ([.sl esz (rows.drop i)],[(b,.arr false esz rows)])else .fail
  |_=>.fail
 | .agg cs=>fzL cs
 |_=>.fail
where
 fzL:List AV->RM (List PV×List (Nat×Blk))
  |[]=>.ret ([],[])
  |x::r=>(fz1 x).bind λa=>(fzL r).bind λc=>.ret (a.1++c.1,a.2++c.2)
 fz1:AV->RM (List PV×List (Nat×Blk))
  | .p c=>.ret ([c],[])
  | .slr b i n=>.blk b fun
   | .arr _ esz rows=>if i+n=rows.length then .ret ([.sl esz (rows.drop i)],[(b,.arr false esz rows)])else .fail
   |_=>.fail
  |_=>.fail
def vO:KD->PV->PV->Option Bool| .b,.b x,.b y=>some (x==y)| .i k,.i k' x,.i e y=>if k=k'/\k=e then some (x==y)else none| .s,.s x,.s y=>some (x==y)|_,_,_=>none
def cH:List KD->List PV->List PV->Option Bool
 |[],[],[]=>some true
 |k::ks,x::xs,y::e=>match vO k x y,cH ks xs e with|some a,some c=>some (a&&c)|_,_=>none
 |_,_,_=>none
def KY(op:BinOp)(k:IntKind)(x y:Int):Option PV:=
 if y<0 then none
 else match op with| .shl=>some (.i k (k.wrap (x*2^(min y.toNat k.bits))))| .shr=>some (.i k (x.fdiv (2^(min y.toNat k.bits))))|_=>none
def yH(op:BinOp)(k:IntKind)(x y:Int):Option PV:=
 match op with
 | .add=>some (.i k (k.wrap (x+y)))
 | .sub=>some (.i k (k.wrap (x-y)))
 | .mul=>some (.i k (k.wrap (x*y)))
 | .quo=>if y=0 then none else some (.i k (k.wrap (x.tdiv y)))
 | .rem=>if y=0 then none else some (.i k (x.tmod y))
 | .and=>some (.i k (k.wrap (BitVec.ofInt k.bits x&&&BitVec.ofInt k.bits y).toNat))
 | .or=>some (.i k (k.wrap (BitVec.ofInt k.bits x|||BitVec.ofInt k.bits y).toNat))
 | .xor=>some (.i k (k.wrap (BitVec.ofInt k.bits x^^^BitVec.ofInt k.bits y).toNat))
 | .eql=>some (.b (x==y))
 | .neq=>some (.b (x !=y))
 | .lss=>some (.b (decide (x<y)))
 | .leq=>some (.b (decide (x<=y)))
 | .gtr=>some (.b (decide (x>y)))
 | .geq=>some (.b (decide (x>=y)))
 |_=>none
def yR(op:BinOp)(x y:List UInt8):Option PV:=
 match op with
 | .add=>if x.length+y.length<=4611686018427387904 then some (.s (x++y))else none
 | .eql=>some (.b (x==y))
 | .neq=>some (.b (!(x==y)))
 | .lss=>some (.b (Op.bytesLess x y))
 | .leq=>some (.b (Op.bytesLess x y||x==y))
 | .gtr=>some (.b (!(Op.bytesLess x y||x==y)))
 | .geq=>some (.b (!Op.bytesLess x y))
 |_=>none
def jP(op:BinOp)(r:Option Bool):Option AV:=
 match op,r with
 | .eql,some x=>some (.p (.b x))
 | .neq,some x=>some (.p (.b (!x)))
 |_,_=>none
def HU:BinOp->Option AV| .eql=>some .unk| .neq=>some .unk|_=>none
def nV(op:BinOp)(t:BT)(x y:AV):Option AV:=
 match t with
 | .plain=>match x,y with
  | .p (.i k a),.p (.i k' c)=>match op with| .shl=>(KY .shl k a c).map .p| .shr=>(KY .shr k a c).map .p|_=>if k=k' then(yH op k a c).map .p else none
  | .p (.s a),.p (.s c)=>(yR op a c).map .p
  |_,_=>none
 | .bool=>match x,y with| .p (.b a),.p (.b c)=>jP op (some (a==c))|_,_=>none
 | .flat ks=>match x,y with| .data a,.data c=>jP op (cH ks a c)|_,_=>none
 | .nils=>match x with
  | .p (.sl _ rows)=>match rows with|[]=>HU op|_::_=>jP op (some false)
  | .slr _ _ n=>if n=0 then HU op else jP op (some false)
  |_=>none
 | .nilp=>match x with| .p .np=>jP op (some true)| .ptr _ _=>jP op (some false)| .cp _ _=>jP op (some false)| .ep _ _ _ _=>jP op (some false)|_=>none
 | .nilf=>match x with| .p .nf=>jP op (some true)| .fn _ _ _=>jP op (some false)|_=>none
def unP(op:UnOp)(x:AV):Option AV:=
 match op,x with
 | .neg,.p (.i k n)=>some (.p (.i k (k.wrap (0-n))))
 | .xor,.p (.i k n)=>some (.p (.i k (k.wrap (BitVec.ofInt k.bits (if k.signed then -1 else k.max)^^^BitVec.ofInt k.bits n).toNat)))
 | .not,.p (.b x)=>some (.p (.b (!x)))
 | .not,.unk=>some .unk
 |_,_=>none
def uG:List (List PV)->Option (List UInt8)
 |[]=>some []
 |[.i .u8 n]::r=>match uG r with|some l=>some (UInt8.ofNat n.toNat::l)|none=>none
 |_::_=>none
def mW(x:UInt8):List PV:=[.i .u8 x.toNat]
def AH(esz:Nat):List (Nat×List PV)->List (List PV)->Option (List (List PV))|[],rows=>some rows|(i,c)::r,rows=>if c.length=esz/\i<rows.length then AH esz r (rows.set i c)else none
def qC:List (Nat×Nat×List AV)->List AV->Option (List AV)
 |[],cs=>some cs
 |(off,size,c)::r,cs=>
  if c.length=size then
   match spl cs off c with
   |some cs'=>qC r cs'
   |none=>none
  else none
def ev:Opd->RM AV| .t n=>.slot n .ret| .c x=>.ret x
def evs:List Opd->RM (List AV)|[]=>.ret []|x::r=>(ev x).bind λv=>(evs r).bind λvs=>.ret (v::vs)
def val(x:Option AV):RM Eff:=
 match x with
 |some v=>.ret ⟨v,[]⟩
 |none=>.fail
def fzs:List Opd->RM (List (List PV)×List (Nat×Blk))|[]=>.ret ([],[])|x::r=>(ev x).bind λv=>(fz v).bind λa=>(fzs r).bind λc=>.ret (a.1::c.1,a.2++c.2)
def qF(x:Option AV)(top e:Nat):Option Nat:=
 match x with
 |none=>some e
 |some (.p (.i _ n))=>if 0<=n/\n<=top then some n.toNat else none
 |some _=>none
def evo:Option Opd->RM (Option AV)|none=>.ret none|some x=>(ev x).bind λv=>.ret (some v)
def vX(n:Nat)(lo hi:Option AV):Option (Nat×Nat):=
 match qF hi n n with
 |none=>none
 |some h=>match qF lo h 0 with|none=>none|some l=>some (l,h)
def wY(x:AV)(lo hi:Option AV):Option AV:=
 match x with
 | .p (.s l)=>match vX l.length lo hi with|some c=>some (.p (.s ((l.drop c.1).take (c.2-c.1))))|none=>none
 |_=>none
def wV(esz:Nat)(x:AV)(lo hi:Option AV):Option AV:=
 match x with
 | .p (.sl e rows)=>if esz=e then
   match vX rows.length lo hi with
   |some c=>some (.p (.sl esz ((rows.drop c.1).take (c.2-c.1))))
   |none=>none
  else none
 |_=>none
def OT(esz:Nat)(x:AV)(lo hi:Option AV)(m:AV):Option AV:=
 match x,lo,hi,m with
 | .p (.sl e rows),none,some (.p (.i _ h)),.p (.i _ n)=>if esz=e/\h=rows.length/\n=rows.length then some (.p (.slc esz rows))else none
 |_,_,_,_=>none
def kZ(k:SK)(x:AV)(lo hi mx:Option AV):Option AV:=
 match mx with
 |some m=>match k with| .str=>none| .sl esz=>OT esz x lo hi m
 |none=>match k with| .str=>wY x lo hi| .sl esz=>wV esz x lo hi
def OH(rows:List (List PV))(n:Int):Option (List PV):=if 0<=n then rows[n.toNat]? else none
def mV(esz:Nat)(x i:AV):RM Eff:=
 match x,i with
 | .p (.sl e rows),.p (.i _ n)=>
  if esz=e then
   match OH rows n with
   |some row=>.ret ⟨.cp row 0,[]⟩
   |none=>.fail
  else .fail
 | .slr b j m,.p (.i _ n)=>.blk b fun
  | .arr _ e rows=>if esz=e/\j+m=rows.length/\0<=n/\n<m then .ret ⟨.ep b rows.length (j+n.toNat) 0,[]⟩else .fail
  |_=>.fail
 |_,_=>.fail
def KO(len esz:Nat)(x i:AV):Option AV:=
 match i with
 | .p (.i _ n)=>
  if 0<=n/\n<len then
   match x with
   | .ptr b off=>some (.ptr b (off+n.toNat*esz))
   | .cp cs off=>some (.cp cs (off+n.toNat*esz))
   | .ep b e j off=>some (.ep b e j (off+n.toNat*esz))
   |_=>none
  else none
 |_=>none
def KT(off:Nat):AV->Option AV| .ptr b o=>some (.ptr b (o+off))| .cp cs o=>some (.cp cs (o+off))| .ep b e j o=>some (.ep b e j (o+off))|_=>none
def gX(agg:Bool)(size:Nat):AV->RM Eff
 | .cp cs off=>match sub cs off size with|some l=>val (oQ agg l)|none=>.fail
 | .ptr b off=>.blk b fun
  | .box cs=>match sub cs off size with|some l=>val (lC agg l)|none=>.fail
  |_=>.fail
 | .ep b ext i off=>.blk b fun
  | .arr _ _ rows=>if ext=rows.length then
    match rows[i]? with
    |some row=>match sub row off size with|some l=>val (oQ agg l)|none=>.fail
    |none=>.fail
   else .fail
  |_=>.fail
 |_=>.fail
def gY:AV:=.tup []
def iS(size:Nat)(x v:AV):RM Eff:=
 match x with
 | .ptr b off=>.blk b fun
  | .box cs=>match cellsOf v with
   |some l=>if l.length=size then
    match spl cs off l with
    |some cs'=>.ret ⟨gY,[(b,.box cs')]⟩
    |none=>.fail
    else .fail
   |none=>.fail
  |_=>.fail
 | .ep b ext i off=>.blk b fun
  | .arr true esz rows=>if ext=rows.length then
    match rows[i]? with
    |some row=>(fz v).bind λa=>
     if a.1.length=size/\(a.2.all λy=>y.1 !=b)then
      match spl row off a.1 with
      |some e=>.ret ⟨gY,a.2++[(b,.arr true esz (rows.set i e))]⟩
      |none=>.fail
     else .fail
    |none=>.fail
   else .fail
  |_=>.fail
 |_=>.fail
def rO(agg:Bool)(off size:Nat):AV->Option AV
 | .data cs=>match sub cs off size with|some l=>oQ agg l|none=>none
 | .agg cs=>match sub cs off size with|some l=>lC agg l|none=>none
 |_=>none
def OW(i:Nat):AV->Option AV| .tup vs=>vs[i]?|_=>none
def IQ:Bool->AV->Option AV|true,.p (.s l)=>some (.p (.i .i64 l.length))|false,.p (.sl _ rows)=>some (.p (.i .i64 rows.length))|false,.slr _ _ n=>some (.p (.i .i64 n))|_,_=>none
def dH(esz:Nat):AV->RM (List (List PV))
 | .p (.sl e rows)=>if esz=e then .ret rows else .fail
 | .p (.s l)=>if esz=1 then .ret (l.map mW)else .fail
 | .slr b i n=>.blk b fun
  | .arr _ e rows=>if esz=e/\i+n=rows.length then .ret (rows.drop i)else .fail
  |_=>.fail
 |_=>.fail
def oA(n bytes:Nat):Bool:=(2*n+512)*bytes<=281474976710656
def iX(esz bytes:Nat)(x y:AV):RM Eff:=
 match x with
 | .slr b i n=>.blk b fun
  | .arr w e rows=>(dH esz y).bind λnew=>
   if esz=e/\i=0/\n=rows.length/\oA (n+new.length) bytes then
    .ret ⟨.slr b 0 (n+new.length),[(b,.arr w esz (rows++new))]⟩
   else .fail
  |_=>.fail
 |_=>.fail
def IE(esz bytes:Nat)(x y:AV)(new:Nat):RM Eff:=
 match x with
 | .p (.slc e rows)=>(dH esz y).bind λadd=>
   if esz=e/\0<add.length/\oA (rows.length+add.length) bytes then
    .ret ⟨.slr new 0 (rows.length+add.length),[(new,.arr true esz (rows++add))]⟩
   else .fail
 |_=>.fail
def zrs(esz:Nat)(zero:List PV):AV->Option AV| .p (.i _ n)=>if 0<=n then some (.p (.sl esz (List.replicate n.toNat zero)))else none|_=>none
def mmP(mx:Bool)(x y:AV):Option AV:=
 match x,y with
 | .p (.i k a),.p (.i _ c)=>some (.p (.i k (if mx then(if c>a then c else a)else(if c<a then c else a))))
 |_,_=>none
inductive Ent where
 |whole (b:Nat)
 |elem (b ext i:Nat)
 deriving DecidableEq
def Ent.id:Ent->Nat| .whole b=>b| .elem b _ _=>b
def wW(e:Ent)(l:List Ent):List Ent:=if l.any (λx=>x==e)then l else l++[e]
def cS:AV->List Ent->List Ent
 | .ptr b _,l=>wW (.whole b) l
 | .slr b _ _,l=>wW (.whole b) l
 | .ep b e i _,l=>wW (.elem b e i) l
 | .fn _ first caps,l=>entsOfL caps (entsOfL first l)
 | .agg cs,l=>entsOfL cs l
 | .tup cs,l=>entsOfL cs l
 |_,l=>l
where
 entsOfL:List AV->List Ent->List Ent
  |[],l=>l
  |x::r,l=>entsOfL r (cS x l)
def dY(e:Ent):List Ent->Nat->Option Nat|[],_=>none|x::r,k=>if x=e then some k else dY e r (k+1)
def ren(ρ:Ent->Option Nat):AV->Option AV
 | .p c=>some (.p c)
 | .data cs=>some (.data cs)
 | .cp cs o=>some (.cp cs o)
 | .unk=>some .unk
 | .ptr b off=>(ρ (.whole b)).map λk=>.ptr k off
 | .ep b e i off=>(ρ (.elem b e i)).map λk=>.ptr k off
 | .slr b i n=>(ρ (.whole b)).map λk=>.slr k i n
 | .fn f first caps=>(renL ρ first).bind λa=>(renL ρ caps).map λc=>.fn f a c
 | .agg cs=>(renL ρ cs).map .agg
 | .tup cs=>(renL ρ cs).map .tup
where
 renL (ρ:Ent->Option Nat):List AV->Option (List AV)
  |[]=>some []
  |x::r=>match ren ρ x,renL ρ r with
   |some y,some l=>some (y::l)
   |_,_=>none
end Go.Am
end
section
namespace Go.Am
def jT:List Nat->Bool|[]=>true|x::r=> !(r.contains x)&&jT r
def jQ(b:Nat):List (Nat×Blk)->Option Blk|[]=>none|(c,x)::r=>match jQ b r with|some y=>some y|none=>if c=b then some x else none
def qW(ws:List (Nat×Blk))(b:Nat):RM Blk:=
 .blk b λx=>match jQ b ws with|some y=>.ret y|none=>.ret x
def eN(ws:List (Nat×Blk)):List Ent->List Ent->RM (List Ent)
 |[],acc=>.ret acc
 | .whole b::r,acc=>(qW ws b).bind fun
  | .box cs=>eN ws r (cS.entsOfL cs acc)
  |_=>eN ws r acc
 |_::r,acc=>eN ws r acc
def jJ:AV->RM (AV×List (Nat×Blk))
 | .slr b i n=>(fz (.slr b i n)).bind λa=>match a.1 with|[c]=>.ret (.p c,a.2)|_=>.fail
 | .agg cs=>(fz (.agg cs)).bind λa=>.ret (.data a.1,a.2)
 | .tup _=>.fail
 |v=>.ret (v,[])
def kT:List AV->RM (List AV×List (Nat×Blk))|[]=>.ret ([],[])|x::r=>(jJ x).bind λa=>(kT r).bind λc=>.ret (a.1::c.1,a.2++c.2)
def zL(ws:List (Nat×Blk))(ρ:Ent->Option Nat):Ent->RM Blk
 | .whole b=>(qW ws b).bind fun
  | .box cs=>match ren.renL ρ cs with|some l=>.ret (.box l)|none=>.fail
  | .arr w esz rows=>.ret (.arr w esz rows)
  | .dead=>.fail
 | .elem b ext i=>(qW ws b).bind fun
  | .arr true _ rows=>if ext=rows.length then
    match rows[i]? with
    |some row=>.ret (.box (row.map .p))
    |none=>.fail
   else .fail
  |_=>.fail
def lA(ws:List (Nat×Blk))(ρ:Ent->Option Nat):List Ent->RM (List Blk)|[]=>.ret []|e::r=>(zL ws ρ e).bind λx=>(lA ws ρ r).bind λl=>.ret (x::l)
def bk(es:List Ent)(new:Nat):AV->Option AV
 | .p c=>some (.p c)
 | .data cs=>some (.data cs)
 | .cp cs o=>some (.cp cs o)
 | .unk=>some .unk
 | .ptr k off=>if k<es.length then
   match es[k]? with
   |some (.whole b)=>some (.ptr b off)
   |some (.elem b e i)=>some (.ep b e i off)
   |none=>none
  else some (.ptr (new+(k-es.length)) off)
 | .slr k i n=>if k<es.length then
   match es[k]? with
   |some (.whole b)=>some (.slr b i n)
   |_=>none
  else some (.slr (new+(k-es.length)) i n)
 | .ep k e i off=>if k<es.length then
   match es[k]? with
   |some (.whole b)=>some (.ep b e i off)
   |_=>none
  else some (.ep (new+(k-es.length)) e i off)
 | .fn f first caps=>match bkL es new first,bkL es new caps with|some a,some c=>some (.fn f a c)|_,_=>none
 | .agg cs=>match bkL es new cs with|some l=>some (.agg l)|none=>none
 | .tup cs=>match bkL es new cs with|some l=>some (.tup l)|none=>none
where
 bkL (es:List Ent) (new:Nat):List AV->Option (List AV)
  |[]=>some []
  |x::r=>match bk es new x,bkL es new r with
   |some y,some l=>some (y::l)
   |_,_=>none
def tY(ws:List (Nat×Blk))(es:List Ent)(new:Nat)(e:Ent)(x:Blk):RM (Nat×Blk):=
 match e,x with
 | .whole b,.box cs=>match bk.bkL es new cs with|some l=>.ret (b,.box l)|none=>.fail
 | .whole b,.arr w esz rows=>.ret (b,.arr w esz rows)
 | .elem b _ i,.box cs=>(qW ws b).bind fun
  | .arr w esz rows=>match unp cs with|some row=>.ret (b,.arr w esz (rows.set i row))|none=>.fail
  |_=>.fail
 |_,_=>.fail
def jB(ws:List (Nat×Blk))(es:List Ent)(new:Nat):List Ent->List Blk->RM (List (Nat×Blk))|[],_=>.ret []|e::r,x::l=>(tY ws es new e x).bind λy=>(jB ws es new r l).bind λg=>.ret (y::g)|_::_,[]=>.fail
def iD(es:List Ent)(new:Nat):Nat->List Blk->Option (List (Nat×Blk))
 |_,[]=>some []
 |k,.box cs::l=>match bk.bkL es new cs,iD es new (k+1) l with|some c,some e=>some ((k,.box c)::e)|_,_=>none
 |k,.arr w esz rows::l=>match iD es new (k+1) l with|some e=>some ((k,.arr w esz rows)::e)|none=>none
 |_,.dead::_=>none
def iQ(F:Orc)(f:FuncId)(args:List AV)(k new:Nat):RM Eff:=
 (kT args).bind λa=>
 (eN a.2 (cS.entsOfL a.1 []) (cS.entsOfL a.1 [])).bind λh=>
 (eN a.2 h h).bind λes=>
 if jT (es.map Ent.id)then
  match ren.renL (λe=>dY e es 0) a.1 with
  |none=>.fail
  |some g=>(lA a.2 (λe=>dY e es 0) es).bind λblks=>
   match F f g blks with
   |none=>.fail
   |some r=>if r.2.length=es.length+k then
    match bk es new r.1,iD es new new (r.2.drop es.length)with
    |some v,some fresh=>(jB a.2 es new es r.2).bind λj=>.ret ⟨v,a.2++j++fresh⟩
    |_,_=>.fail
    else .fail
 else .fail
def kY:List (Nat×Nat×Opd)->RM (List (Nat×Nat×List AV))|[]=>.ret []|(off,size,x)::r=>(ev x).bind λv=>match cellsOf v with|some cs=>(kY r).bind λl=>.ret ((off,size,cs)::l)|none=>.fail
def hZ:List (Nat×Nat)->Nat->List (Nat×Blk)|[],_=>[]|(_,esz)::r,n=>(n,.arr true esz [])::hZ r (n+1)
def mO:List (Nat×Nat)->Nat->List AV->List AV|[],_,cs=>cs|(off,_)::r,n,cs=>mO r (n+1) (cs.set off (.slr n 0 0))
def fR:List Bool->List AV->RM (List AV×List (Nat×Blk))|_,[]=>.ret ([],[])|[],x::r=>(jJ x).bind λa=>(fR [] r).bind λc=>.ret (a.1::c.1,a.2++c.2)|true::m,x::r=>(fR m r).bind λc=>.ret (x::c.1,c.2)|false::m,x::r=>(jJ x).bind λa=>(fR m r).bind λc=>.ret (a.1::c.1,a.2++c.2)
def gH(F:Orc)(f:FuncId)(a:List AV×List (Nat×Blk))(k new:Nat):RM Eff:=
 (eN a.2 (cS.entsOfL a.1 []) (cS.entsOfL a.1 [])).bind λh=>
 (eN a.2 h h).bind λes=>
 if jT (es.map Ent.id)then
  match ren.renL (λe=>dY e es 0) a.1 with
  |none=>.fail
  |some g=>(lA a.2 (λe=>dY e es 0) es).bind λblks=>
   match F f g blks with
   |none=>.fail
   |some r=>if es.length<=r.2.length/\r.2.length<=es.length+k then
    match bk es new r.1,iD es new new (r.2.drop es.length)with
    |some v,some fresh=>(jB a.2 es new es r.2).bind λj=>.ret ⟨v,a.2++j++fresh⟩
    |_,_=>.fail
    else .fail
 else .fail
def opR(F:Orc)(op:AOp)(new:Nat):RM Eff:=
 match op with
 | .mv x=>(ev x).bind λv=>.ret ⟨v,[]⟩
 | .mkarr esz _=>.ret ⟨.slr new 0 0,[(new,.arr true esz [])]⟩
 | .pick c a b=>(ev c).bind fun
  | .p (.b x)=>if x then(ev a).bind λv=>.ret ⟨v,[]⟩else(ev b).bind λv=>.ret ⟨v,[]⟩
  |_=>.fail
 | .newbox zero=>.ret ⟨.ptr new 0,[(new,.box (zero.map .p))]⟩
 | .box size x=>(ev x).bind λv=>match cellsOf v with|some cs=>if cs.length=size then .ret ⟨.ptr new 0,[(new,.box cs)]⟩else .fail|none=>.fail
 | .build zero parts=>(kY parts).bind λl=>match qC l (zero.map .p)with|some cs=>val (lC true cs)|none=>.fail
 | .lits own esz n zero parts=>(fzs (parts.map (·.2))).bind λa=>
  match AH esz ((parts.map (·.1)).zip a.1) (List.replicate n zero)with
  |some rows=>if own then .ret ⟨.slr new 0 n,a.2++[(new,.arr true esz rows)]⟩else .ret ⟨.p (.sl esz rows),a.2⟩
  |none=>.fail
 | .load agg size x=>(ev x).bind λv=>gX agg size v
 | .store size x y=>(ev x).bind λa=>(ev y).bind λv=>iS size a v
 | .nilchk x=>(ev x).bind fun
  | .ptr b o=>.ret ⟨.ptr b o,[]⟩
  | .cp cs o=>.ret ⟨.cp cs o,[]⟩
  | .ep b e i o=>.ret ⟨.ep b e i o,[]⟩
  | .fn f u c=>.ret ⟨.fn f u c,[]⟩
  |_=>.fail
 | .bin op t x y=>(ev x).bind λa=>(ev y).bind λc=>val (nV op t a c)
 | .un op x=>(ev x).bind λa=>val (unP op a)
 | .conv k x=>(ev x).bind λa=>match k,a with
  | .int k,.p (.i _ n)=>.ret ⟨.p (.i k (k.wrap n)),[]⟩
  | .same,.p (.s l)=>.ret ⟨.p (.s l),[]⟩
  | .toStr,a=>(dH 1 a).bind λrows=>match uG rows with|some l=>.ret ⟨.p (.s l),[]⟩|none=>.fail
  | .toBytes own,.p (.s l)=>if own then .ret ⟨.slr new 0 l.length,[(new,.arr true 1 (l.map mW))]⟩else .ret ⟨.p (.sl 1 (l.map mW)),[]⟩
  |_,_=>.fail
 | .mkslice own esz bytes zero l c=>(ev l).bind λa=>(ev c).bind λd=>match a,d with
  | .p (.i _ n),.p (.i _ m)=>
   if 0<=n/\n<=m/\bytes*m<=281474976710656/\m<=281474976710656 then
    if own then .ret ⟨.slr new 0 n.toNat,[(new,.arr true esz (List.replicate n.toNat zero))]⟩
    else .ret ⟨.p (.sl esz (List.replicate n.toNat zero)),[]⟩
   else .fail
  |_,_=>.fail
 | .slice k x lo hi mx=>(ev x).bind λa=>(evo lo).bind λlo=>(evo hi).bind λhi=>(evo mx).bind λmx=>
  match a with
  | .slr b i n=>(fz (.slr b i n)).bind λy=>match y.1 with
   |[c]=>match kZ k (.p c) lo hi mx with|some v=>.ret ⟨v,y.2⟩|none=>.fail
   |_=>.fail
  |a=>val (kZ k a lo hi mx)
 | .faddr off x=>(ev x).bind λa=>val (KT off a)
 | .field agg off size x=>(ev x).bind λa=>val (rO agg off size a)
 | .iaddr esz x i=>(ev x).bind λa=>(ev i).bind λc=>mV esz a c
 | .aaddr len esz x i=>(ev x).bind λa=>(ev i).bind λc=>val (KO len esz a c)
 | .sidx x i=>(ev x).bind λa=>(ev i).bind λc=>match a,c with
  | .p (.s l),.p (.i _ n)=>if 0<=n then
    match l[n.toNat]? with
    |some u=>.ret ⟨.p (.i .u8 u.toNat),[]⟩
    |none=>.fail
   else .fail
  |_,_=>.fail
 | .aidx agg len esz x i=>(ev x).bind λa=>(ev i).bind λc=>match c with| .p (.i _ n)=>if 0<=n/\n<len then val (rO agg (n.toNat*esz) esz a)else .fail|_=>.fail
 | .extr x i=>(ev x).bind λa=>val (OW i a)
 | .call f args k=>(evs args).bind λvs=>iQ F f vs k new
 | .callv g args k=>(ev g).bind fun
  | .fn f first caps=>(evs args).bind λvs=>iQ F f (first++vs++caps) k new
  |_=>.fail
 | .len str x=>(ev x).bind λa=>val (IQ str a)
 | .alen n=>.ret ⟨.p (.i .i64 n),[]⟩
 | .appn esz bytes _ y=>(ev y).bind λc=>(dH esz c).bind λrows=>
  if oA rows.length bytes then .ret ⟨.slr new 0 rows.length,[(new,.arr true esz rows)]⟩else .fail
 | .app esz bytes _ x y=>(ev x).bind λa=>(ev y).bind λc=>iX esz bytes a c
 | .appz esz bytes zero x y=>(ev x).bind λa=>(ev y).bind λc=>match zrs esz zero c with|some c1=>iX esz bytes a c1|none=>.fail
 | .appc esz bytes _ x y=>(ev x).bind λa=>(ev y).bind λc=>IE esz bytes a c new
 | .mm mx x y=>(ev x).bind λa=>(ev y).bind λc=>val (mmP mx a c)
 | .mkfn f first caps=>(evs first).bind λa=>(evs caps).bind λc=>.ret ⟨.fn f a c,[]⟩
 | .newboxo zero os=>.ret ⟨.ptr (new+os.length) 0,hZ os new++[(new+os.length,.box (mO os new (zero.map .p)))]⟩
 | .buildo zero parts os=>(kY parts).bind λl=>match qC l (mO os new (zero.map .p))with
  |some cs=>match lC true cs with|some v=>.ret ⟨v,hZ os new⟩|none=>.fail
  |none=>.fail
 | .storen esz x=>(ev x).bind λa=>(iS 1 a (.slr new 0 0)).bind λe=>.ret ⟨e.val,(new,.arr true esz [])::e.ws⟩
 | .callo f keep args k=>(evs args).bind λvs=>(fR keep vs).bind λa=>gH F f a k new
def lR:AOp->Nat| .newbox _| .box _ _| .mkarr _ _| .appn _ _ _ _| .appc _ _ _ _ _=>1| .lits own _ _ _ _=>if own then 1 else 0| .mkslice own _ _ _ _ _=>if own then 1 else 0| .conv (.toBytes own) _=>if own then 1 else 0| .call _ _ k| .callv _ _ k| .callo _ _ _ k=>k| .newboxo _ os=>os.length+1| .buildo _ _ os=>os.length| .storen _ _=>1|_=>0
def tR(new:Nat):Nat->RM Unit
 |0=>.ret ()
 |k+1=>.blk new fun
  | .dead=>tR (new+1) k
  |_=>.fail
def opD(F:Orc)(op:AOp)(new:Nat):RM Eff:=(tR new (lR op)).bind λ_=>opR F op new
def cE(F:Orc)(i:cD)(new:Nat):RM Eff:=
 match i.g with
 |none=>opD F i.op new
 |some (g,e)=>.slot g fun
  | .p (.b x)=>if x=e then opD F i.op new else .ret ⟨gY,[]⟩
  | .tup []=>.ret ⟨gY,[]⟩
  |_=>.fail
def put(d:Option Nat)(e:Eff)(s:St):St:=
 match d with
 |some d=>⟨(d,e.val)::s.env,upd e.ws s.sto⟩
 |none=>⟨s.env,upd e.ws s.sto⟩
def gO(F:Orc):List cD->Nat->St->Option St|[],_,s=>some s|i::r,new,s=>match(cE F i new).run s with|some e=>gO F r (new+lR i.op) (put i.dst e s)|none=>none
def jZ:List Loc->List Nat|[]=>[]| .blk b::r=>b::jZ r|_::r=>jZ r
abbrev Log:=List (List Nat×List Nat)
def jW(F:Orc):List cD->Nat->St->Log->Option (St×Log)|[],_,s,l=>some (s,l)|i::r,new,s,l=>match(cE F i new).run s with|some e=>jW F r (new+lR i.op) (put i.dst e s) (l++[(jZ ((cE F i new).reads s),e.ws.map (·.1))])|none=>none
def gT(a b:List Nat):Bool:=a.all λx=> !(b.contains x)
def FI(l:Log):List (Nat×Nat)->Bool
 |[]=>true
 |(i,j)::r=>(match l[i]?,l[j]? with
  |some a,some b=>gT a.2 b.1&&gT a.2 b.2&&gT a.1 b.2
  |_,_=>false)&&FI l r
def news:List cD->Nat|[]=>0|i::r=>lR i.op+news r
def room(n:Nat)(sto:List Blk):List Blk:=if n=0 then sto else sto++List.replicate n .dead
def region(F:Orc)(pairs:List (Nat×Nat))(ins:List cD)(s:St):Option St:=
 match pairs with
 |[]=>gO F ins s.sto.length ⟨s.env,room (news ins) s.sto⟩
 |_::_=>match jW F ins s.sto.length ⟨s.env,room (news ins) s.sto⟩ []with|some (s',l)=>if FI l pairs then some s' else none|none=>none
def restr:List Nat->List (Nat×AV)->List (Nat×AV)|[],_=>[]|k::r,env=>match lk k env with|some v=>(k,v)::restr r env|none=>restr r env
def eX(b:Nat):List Nat->Nat->Option Nat|[],_=>none|x::r,k=>if x=b then some k else eX b r (k+1)
def fin(m:Nat)(ids:List Nat)(sto:List Blk):AV->Option AV
 | .p c=>some (.p c)
 | .data cs=>some (.data cs)
 | .cp cs o=>some (.cp cs o)
 | .unk=>some .unk
 | .ptr b off=>if b<m then some (.ptr b off)else(eX b ids m).map λk=>.ptr k off
 | .slr b i n=>if b<m then some (.slr b i n)else
  match eX b ids m with
  |some k=>some (.slr k i n)
  |none=>match sto[b]? with|some (.arr _ esz rows)=>if i+n=rows.length then some (.p (.sl esz (rows.drop i)))else none|_=>none
 | .ep b e i off=>if b<m then some (.ep b e i off)else(eX b ids m).map λk=>.ep k e i off
 | .fn f first caps=>match finL m ids sto first,finL m ids sto caps with|some a,some c=>some (.fn f a c)|_,_=>none
 | .agg cs=>match finL m ids sto cs with
  |some l=>match unp l with|some q=>some (.data q)|none=>some (.agg l)
  |none=>none
 | .tup cs=>match finL m ids sto cs with|some l=>some (.tup l)|none=>none
where
 finL (m:Nat) (ids:List Nat) (sto:List Blk):List AV->Option (List AV)
  |[]=>some []
  |x::r=>match fin m ids sto x,finL m ids sto r with
   |some y,some l=>some (y::l)
   |_,_=>none
def gN(m:Nat)(ids:List Nat)(sto:List Blk):Blk->Option Blk
 | .dead=>some .dead
 | .box cs=>match fin.finL m ids sto cs with|some l=>some (.box l)|none=>none
 | .arr w esz rows=>some (.arr w esz rows)
def rG(m:Nat)(ids:List Nat)(sto:List Blk):List Blk->Option (List Blk)|[]=>some []|x::r=>match gN m ids sto x,rG m ids sto r with|some y,some l=>some (y::l)|_,_=>none
def vT(m:Nat)(sto:List Blk):List (Nat×AV)->Option (List (Nat×AV))|[]=>some []|(k,x)::r=>match fin m [] sto x,vT m sto r with|some y,some l=>some ((k,y)::l)|_,_=>none
def clean(n:Nat)(live:List Nat)(s:St):Option St:=
 if s.sto.length=n then some ⟨restr live s.env,s.sto⟩
 else match vT n s.sto (restr live s.env),rG n [] s.sto (s.sto.take n)with|some e,some l=>some ⟨e,l⟩|_,_=>none
def nU:List vU->RM (List AV)|[]=>.ret []| .tmp t::r=>(RM.slot t .ret).bind λv=>(nU r).bind λl=>.ret (v::l)| .cell t agg size::r=>(RM.slot t .ret).bind λv=>(gX agg size v).bind λe=>(nU r).bind λl=>.ret (e.val::l)
def kD(m:Nat)(fresh:Bool)(sto:List Blk):List Ent->List Nat
 |[]=>[]
 | .whole b::r=>if b<m then kD m fresh sto r else
  match sto[b]? with
  |some (.box _)=>b::kD m fresh sto r
  |some (.arr _ _ _)=>if fresh then b::kD m fresh sto r else kD m fresh sto r
  |_=>kD m fresh sto r
 |_::r=>kD m fresh sto r
def rH(sto:List Blk):List Ent->List Ent->List Ent
 |[],acc=>acc
 | .whole b::r,acc=>match sto[b]? with|some (.box cs)=>rH sto r (cS.entsOfL cs acc)|_=>rH sto r acc
 |_::r,acc=>rH sto r acc
def wO(sto:List Blk):List Nat->Option (List Blk)|[]=>some []|b::r=>match sto[b]?,wO sto r with|some x,some l=>some (x::l)|_,_=>none
def one:List AV->AV|[x]=>x|l=>.tup l
def iE(fn:AFn)(m:Nat)(s:St):Option Res:=
 match(nU fn.res).run s with
 |none=>none
 |some vs=>
  if s.sto.length=m then some (one vs,s.sto)
  else
   match kD m fn.fresh s.sto (rH s.sto (cS.entsOfL vs []) (cS.entsOfL vs []))with
   |ids=>if jT ids then
    match fin.finL m ids s.sto vs,rG m ids s.sto (s.sto.take m),wO s.sto ids with
    |some ws,some l,some q=>match rG m ids s.sto q with|some q'=>some (one ws,l++q')|none=>none
    |_,_,_=>none
    else none
def jO:Nat->List AV->List (Nat×AV)|_,[]=>[]|k,x::r=>(k,x)::jO (k+1) r
structure pA where
 np:Nat
 nt:Nat
 p0:cF
 live:List Nat
 pre:cF
 c:Opd
 a:cF
 b:cF
 rest:cF
 res:List vU
 fresh:Bool
def pA.af(k:pA):AFn:=⟨k.np,k.nt,.seq k.p0 (.br k.live k.pre k.c k.a k.b k.rest),k.res,k.fresh⟩
def yS(f:AFn)(m:Nat)(o:Option Out):Option Res:=
 match o with
 |some (.normal,s)=>iE f m s
 |some (.ret,s)=>iE f m s
 |_=>none
open Classical in
noncomputable def KH(a b:Option Res):Option Res:=
 match a,b with
 |some r,some r'=>if r=r' then some r else none
 |_,_=>none
def thn(o:Option Out)(k:St->Option Out):Option Out:=
 match o with
 |some (.normal,s)=>k s
 |o=>o
noncomputable def EO(R:cF->St->Option Out)(k:pA)(args:List AV)(blks:List Blk):Option Res:=
 match R k.p0 ⟨jO 0 args,blks⟩with
 |some (.normal,s0)=>match R k.pre s0 with
  |some (.normal,s1)=>match(ev k.c).run s1 with|some (.p (.b x))=>if x=true then yS k.af blks.length (thn (R k.a s1) λs=>R k.rest s)else yS k.af blks.length (thn (R k.b s1) λs=>R k.rest s)|some .unk=>KH (yS k.af blks.length (thn (R k.a s1) λs=>R k.rest s)) (yS k.af blks.length (thn (R k.b s1) λs=>R k.rest s))|_=>none
  |_=>none
 |_=>none
inductive Entry where|fn (f:AFn)|prim (g:List AV->List Blk->Option Res)|fork (k:pA)
abbrev eO:=FuncId->Option Entry
noncomputable def rJ(T:eO)(R:cF->St->Option Out)(f:FuncId)(args:List AV)(blks:List Blk):Option Res:=
 match T f with
 |none=>none
 |some (.prim g)=>g args blks
 |some (.fork k)=>if args.length=k.np then EO R k args blks else none
 |some (.fn fn)=>
  if args.length=fn.np then
   match R fn.body ⟨jO 0 args,blks⟩with
   |some (.normal,s)=>iE fn blks.length s
   |some (.ret,s)=>iE fn blks.length s
   |_=>none
  else none
open Classical in
noncomputable def same(a b:Option Out):Option Out:=
 match a,b with
 |some r,some r'=>if r=r' then some r else none
 |_,_=>none
def mU(n:Nat)(live:List Nat)(o:Option Out):Option Out:=
 match o with
 |some (e,s)=>match clean n live s with|some s'=>some (e,s')|none=>none
 |none=>none
noncomputable def step(T:eO)(R:cF->St->Option Out)(c:cF)(s:St):Option Out:=
 match c with
 | .skip=>some (.normal,s)
 | .bad=>none
 | .reg _ pairs ins=>match region (rJ T R) pairs ins s with|some s'=>some (.normal,s')|none=>none
 | .seq a b=>match R a s with|some (.normal,s')=>R b s'|o=>o
 | .cond c a b=>match(ev c).run s with|some (.p (.b x))=>if x=true then R a s else R b s|some .unk=>same (R a s) (R b s)|_=>none
 | .block id c=>match R c s with|some (.exit k,s')=>if k=id then some (.normal,s')else some (.exit k,s')|o=>o
 | .loop live c=>match clean s.sto.length live s with|some s'=>R (.lp s.sto.length live c) s'|none=>none
 | .lp n live c=>match R c s with
  |some (.normal,s')=>(match clean n live s' with
   |some e=>R (.lp n live c) e
   |none=>none)
  |o=>o
 | .scope c=>R c s
 | .exit id=>some (.exit id,s)
 | .ret=>some (.ret,s)
 | .keep live c=>R c ⟨restr live s.env,s.sto⟩
 | .tidy live c=>mU s.sto.length live (R c s)
 | .br live pre c a b rest=>match R pre s with
  |some (.normal,s1)=>(match(ev c).run s1 with
   |some (.p (.b x))=>if x=true then thn (R a s1) λs=>R rest s else thn (R b s1) λs=>R rest s
   |some .unk=>same (mU s1.sto.length live (thn (R a s1) λs=>R rest s)) (mU s1.sto.length live (thn (R b s1) λs=>R rest s))
   |_=>none)
  |_=>none
end Go.Am
end
section
namespace Go.Am
def fQ{α:Type}(a b:Option α):Prop:=a=none\/a=b
theorem cW{α:Type}(a:Option α):fQ a a:=.inr rfl
theorem run_bind{α β:Type}(m:RM α)(f:α->RM β)(s:St):(m.bind f).run s=(m.run s).bind λa=>(f a).run s:=by
 induction m with
 |ret a=>rfl
 |slot n k ih=>grind [RM.bind,RM.run]
 |blk b k ih=>grind [RM.bind,RM.run]
 |fail=>rfl
theorem mX{α β:Type}{m:RM α}{f f':α->RM β}{s:St}(h: ∀a,fQ ((f a).run s) ((f' a).run s)):fQ ((m.bind f).run s) ((m.bind f').run s):=by
 rw[run_bind,run_bind];cases m.run s with
 |none=>exact .inl rfl
 |some a=>exact h a
variable {F F':Orc} (h: ∀f a b,fQ (F f a b) (F' f a b))
include h in
theorem wh(f:FuncId)(args:List AV)(k new:Nat)(s:St):fQ ((iQ F f args k new).run s) ((iQ F' f args k new).run s):=by
 unfold iQ;refine mX λa=>mX λg=>mX λes=>?_;split;split;simp[cW];refine mX λblks=>?_;rcases h f ‹_› blks with e|e;rw[e];exact .inl rfl;grind [cW];simp[cW]
include h in
theorem Ks(f:FuncId)(a:List AV×List (Nat×Blk))(k new:Nat)(s:St):fQ ((gH F f a k new).run s) ((gH F' f a k new).run s):=by
 unfold gH;refine mX λg=>mX λes=>?_;split;split;simp[cW];refine mX λblks=>?_;rcases h f ‹_› blks with e|e;rw[e];exact .inl rfl;grind [cW];simp[cW]
include h in
theorem JCW(op:AOp)(new:Nat)(s:St):fQ ((opR F op new).run s) ((opR F' op new).run s):=by
 cases op<;>try exact cW _
 case call f args k=>exact mX λvs=>wh h ..
 case callo f keep args k=>exact mX λvs=>mX λa=>Ks h ..
 case callv g args k=>
  refine mX λg=>?_;grind [cW,mX,wh]
include h in
theorem JCY(op:AOp)(new:Nat)(s:St):fQ ((opD F op new).run s) ((opD F' op new).run s):=
 mX λ_=>JCW h ..
include h in
theorem vk(i:cD)(new:Nat)(s:St):fQ ((cE F i new).run s) ((cE F' i new).run s):=by
 unfold cE;split
 all_goals grind [JCY,RM.run,cW]
theorem xM{α β:Type}(m:RM α)(f:α->RM β)(s:St):(m.bind f).reads s=m.reads s++((m.run s).map λa=>(f a).reads s).getD []:=by
 induction m with
 |ret a=>simp[RM.bind,RM.reads,RM.run]
 |slot n k ih=>grind [RM.bind,RM.reads,RM.run]
 |blk b k ih=>grind [RM.bind,RM.reads,RM.run]
 |fail=>simp[RM.bind,RM.reads,RM.run]
theorem nJ{α β:Type}{m:RM α}{f f':α->RM β}{s:St}(h: ∀a,(f a).run s=none\/(f a).reads s=(f' a).reads s):
  ((m.bind f).run s)=none\/(m.bind f).reads s=(m.bind f').reads s:=by
 rw[run_bind,xM,xM];cases m.run s<;>simp_all
include h in
theorem vt(f:FuncId)(args:List AV)(k new:Nat)(s:St):
  (iQ F f args k new).run s=none\/(iQ F f args k new).reads s=(iQ F' f args k new).reads s:=by
 unfold iQ;refine nJ λa=>nJ λg=>nJ λes=>?_;split;split;exact .inr rfl;refine nJ λblks=>?_;rcases h f ‹_› blks with e|e;rw[e];exact .inl rfl;simp_all;simp_all
include h in
theorem La(f:FuncId)(a:List AV×List (Nat×Blk))(k new:Nat)(s:St):
  (gH F f a k new).run s=none\/(gH F f a k new).reads s=(gH F' f a k new).reads s:=by
 unfold gH;refine nJ λg=>nJ λes=>?_;split;split;exact .inr rfl;refine nJ λblks=>?_;rcases h f ‹_› blks with e|e;rw[e];exact .inl rfl;simp_all;simp_all
include h in
theorem JE5(op:AOp)(new:Nat)(s:St):(opR F op new).run s=none\/(opR F op new).reads s=(opR F' op new).reads s:=by
 cases op<;>try exact .inr rfl
 case call f args k=>exact nJ λvs=>vt h ..
 case callo f keep args k=>exact nJ λvs=>nJ λa=>La h ..
 case callv g args k=>
  refine nJ λg=>?_;grind [nJ,vt]
include h in
theorem JDs(op:AOp)(new:Nat)(s:St):(opD F op new).run s=none\/(opD F op new).reads s=(opD F' op new).reads s:=
 nJ λ_=>JE5 h ..
include h in
theorem JBV(i:cD)(new:Nat)(s:St):(cE F i new).run s=none\/(cE F i new).reads s=(cE F' i new).reads s:=by
 unfold cE;split
 all_goals grind [JDs,RM.run,RM.reads]
include h in
theorem Iy(ins:List cD): ∀new s,fQ (gO F ins new s) (gO F' ins new s):=by
 induction ins with
 |nil=>exact λ_ _=>cW _
 |cons i r ih=>
  intro new s;simp only[gO];rcases vk h i new s with e|e;rw[e];exact .inl rfl;grind [cW]
include h in
theorem Iz(ins:List cD): ∀new s l,fQ (jW F ins new s l) (jW F' ins new s l):=by
 induction ins with
 |nil=>exact λ_ _ _=>cW _
 |cons i r ih=>
  intro new s l;simp only[jW];rcases vk h i new s with e|e;rw[e];exact .inl rfl;grind [JBV,cW]
include h in
theorem M1(pairs:List (Nat×Nat))(ins:List cD)(s:St):fQ (region F pairs ins s) (region F' pairs ins s):=by
 unfold region;split;grind [Iy];rcases Iz h ins s.sto.length ⟨s.env,Go.Am.room (news ins) s.sto⟩ []with e|e;rw[e];exact .inl rfl;grind [cW]
variable {T:eO} {R R':cF->St->Option Out} (hR: ∀c s,fQ (R c s) (R' c s))
include hR in
theorem Fa(k:pA)(args:List AV)(blks:List Blk):fQ (EO R k args blks) (EO R' k args blks):=by
 have g: ∀x s,fQ (yS k.af blks.length (thn (R x s) λs=>R k.rest s)) (yS k.af blks.length (thn (R' x s) λs=>R' k.rest s)):=by
  intro x s;rcases hR x s with e|e;rw[e];exact .inl rfl;rw[e];cases hx:R' x s with
  |none=>exact .inl rfl
  |some o=>
   obtain⟨q,s'⟩:=o;cases q with
   |normal=>
    simp only[thn];rcases hR k.rest s' with e'|e';rw[e'];exact .inl rfl;grind [cW]
   |_=>exact cW _
 unfold EO;rcases hR k.p0 ⟨jO 0 args,blks⟩with e|e;rw[e];exact .inl rfl;rw[e];split;rename_i s0 _;rcases hR k.pre s0 with e|e;rw[e];exact .inl rfl;rw[e];split;split;grind;rename_i s1 _ _ _;rcases g k.a s1 with e|e;rw[e];exact .inl rfl;rcases g k.b s1 with e'|e';rw[e'];unfold KH;exact .inl (by simp_all);grind [cW];simp[cW];simp[cW];simp[cW]
include hR in
theorem F9(f:FuncId)(a:List AV)(b:List Blk):fQ (rJ T R f a b) (rJ T R' f a b):=by
 unfold rJ;split;simp[cW];simp[cW];grind [Fa,cW];split;rcases hR ‹AFn›.body ⟨jO 0 a,b⟩with e|e;rw[e];exact .inl rfl;grind [cW];simp[cW]
include hR in
theorem ib(c:cF)(s:St):fQ (step T R c s) (step T R' c s):=by
 cases c with
 |bad=>exact .inl rfl
 |skip=>exact cW _
 |reg d pairs ins=>
  simp only[step];rcases M1 (F9 (T:=T) hR) pairs ins s with e|e;rw[e];exact .inl rfl;grind [cW]
 |seq a b=>
  simp only[step];rcases hR a s with e|e;rw[e];exact .inl rfl;grind
 |cond c a b=>
  simp only[step];split;grind;rcases hR a s with e|e;rw[e];exact .inl rfl;rcases hR b s with e'|e';rw[e'];unfold same;exact .inl (by simp_all);grind [cW];simp[cW]
 |block id c=>
  simp only[step];rcases hR c s with e|e;rw[e];exact .inl rfl;grind [cW]
 |loop live c=>
  grind [step,cW]
 |lp n live c=>
  simp only[step];rcases hR c s with e|e;rw[e];exact .inl rfl;grind [cW]
 |scope c=>exact hR _ _
 |exit id=>exact cW _
 |ret=>exact cW _
 |keep live c=>exact hR _ _
 |tidy live c=>
  simp only[step];rcases hR c s with e|e;rw[e];exact .inl rfl;grind [cW]
 |br live pre c a b rest=>
  have g: ∀x s,fQ (thn (R x s) λs=>R rest s) (thn (R' x s) λs=>R' rest s):=(by intro x s;rcases hR x s with e|e;rw[e];exact .inl rfl;rw[e];unfold thn;grind);simp only[step];rcases hR pre s with e|e;rw[e];exact .inl rfl;rw[e];split;split;grind;rename_i s1 _ _ _;rcases g a s1 with e|e;rw[e];exact .inl rfl;rcases g b s1 with e'|e';rw[e'];unfold same;exact .inl (by simp[mU]);grind [cW];simp[cW];simp[cW]
def Cd(T:eO)(M:cF->St->Out->Prop):Prop:= ∀R:cF->St->Option Out,(∀c s r,R c s=some r->M c s r)-> ∀c s r,step T R c s=some r->M c s r
def Den(T:eO)(c:cF)(s:St)(r:Out):Prop:= ∀M,Cd T M->M c s r
theorem dk(T:eO):Cd T (Den T):=λR hR c s r h M e=>e R (λc s r h=>hR c s r h M e) c s r h
theorem Ei{T:eO}{c:cF}{s:St}{r:Out}(h:Den T c s r): ∃R:cF->St->Option Out,(∀c s r,R c s=some r->Den T c s r)/\step T R c s=some r:=
 h (λc s r=> ∃R:cF->St->Option Out,(∀c s r,R c s=some r->Den T c s r)/\step T R c s=some r) λR hR c s r e=>
  ⟨R,λc s r h=>let⟨R',h1,h2⟩:=hR c s r h;dk T R' h1 c s r h2,e⟩
theorem JHG{T:eO}{c:cF}{s:St}{r:Out}(h:Den T c s r): ∀r',Den T c s r'->r'=r:=by
 have j:Den T c s r/\ ∀r',Den T c s r'->r'=r:=h (λc s r=>Den T c s r/\ ∀r',Den T c s r'->r'=r) λR hR c s r k=>by
  refine⟨dk T R (λc s r h=>(hR c s r h).1) c s r k,λr' n=>?_⟩;obtain⟨R',o,hs'⟩:=Ei n;have b1: ∀c s,fQ (R c s) ((R c s).or (R' c s)):=λc s=>by cases hc:R c s<;>simp[fQ]
  have b2: ∀c s,fQ (R' c s) ((R c s).or (R' c s)):=λc s=>by
   cases hc:R c s with
   |none=>simp[fQ]
   |some a=>cases hc':R' c s<;>grind [fQ]
  have e:=ib (T:=T) b1 c s;have g:=ib (T:=T) b2 c s;rw[k]at e;rw[hs']at g;rcases e with e|e;cases e
  ·rcases g with g|g
   all_goals grind
 exact j.2
open Classical in
noncomputable def X(T:eO)(c:cF)(s:St):Option Out:=if h: ∃r,Den T c s r then some h.choose else none
theorem KX{T:eO}{c:cF}{s:St}{r:Out}:X T c s=some r↔Den T c s r:=by
 unfold X;constructor
 ·intro h;split at h
  all_goals grind
 intro h;rw[dif_pos ⟨r,h⟩];grind [JHG]
theorem Zt(T:eO)(motive:cF->St->Out->Prop)
  (h: ∀R:cF->St->Option Out,(∀c s r,R c s=some r->motive c s r)-> ∀c s r,step T R c s=some r->motive c s r): ∀c s r,X T c s=some r->motive c s r:=
 λc s r e=>KX.1 e motive h
theorem mP(T:eO)(c:cF)(s:St):X T c s=step T (X T) c s:=by
 have one: ∀r,step T (X T) c s=some r->X T c s=some r:=λr h=>KX.2 (dk T (X T) (λc s r h=>KX.1 h) c s r h);cases hs:step T (X T) c s with
 |some r=>exact one r hs
 |none=>
  cases hx:X T c s with
  |none=>rfl
  |some r=>
   obtain⟨R,hR,h⟩:=Ei (KX.1 hx);have:=ib (T:=T) (R:=R) (R':=X T) (λc s=>by
    cases hc:R c s with
    |none=>exact .inl rfl
    |some a=>right;grind [KX]) c s
   rw[h,hs]at this;rcases this with e|e<;>cases e
noncomputable def AF(T:eO):Orc:=rJ T (X T)
end Go.Am
end
section
namespace Go.Am
structure Gh where
 μ:Nat->Option (Nat×Nat)
 C:Nat->Nat->Prop
def cellAt(w:World)(r o:Nat):Option Value:=
 match w.heap[r]? with
 |some (.cells c _ _)=>c[o]?
 |_=>none
theorem rY(w:World)(r o:Nat):w.cell? ⟨r,o,none⟩=cellAt w r o:=by
 grind [World.cell?,cellAt]
theorem lZ{w:World}{r o:Nat}{c e fz}(h:w.heap[r]?=some (.cells c e fz)):cellAt w r o=c[o]?:=by
 grind [cellAt]
inductive J0e(w:World)(C:Nat->Nat->Prop):PV->Value->Prop where
 |b (x:Bool):J0e w C (.b x) (.bool x)
 |i (k:IntKind) (n:Int):J0e w C (.i k n) (.int k n)
 |s (l:List UInt8):J0e w C (.s l) (.string ⟨l.toArray⟩)
 |np:J0e w C .np (.pointer none)
 |nf:J0e w C .nf .nilFunc
 |sl0 (esz:Nat) (a:Option Addr) (cap:Nat):J0e w C (.sl esz []) (.slice a 0 cap)
 |sl (esz:Nat) (rows:List (List PV)) (r o cap:Nat) (vals:Nat->Nat->Value):
  rows.length<=cap->(∀row∈rows,row.length=esz)->
  (∀(i j:Nat) row x,rows[i]?=some row->row[j]?=some x->C r (o+i*esz+j)/\cellAt w r (o+i*esz+j)=some (vals i j))->
  (∀(i j:Nat) row x,rows[i]?=some row->row[j]?=some x->J0e w C x (vals i j))->
  J0e w C (.sl esz rows) (.slice (some ⟨r,o,none⟩) rows.length cap)
 |slc (esz:Nat) (rows:List (List PV)) (a:Option Addr):J0e w C (.sl esz rows) (.slice a rows.length rows.length)->J0e w C (.slc esz rows) (.slice a rows.length rows.length)
structure Sn where
 σ:List Blk
 g:Gh
 w:World
def OU(σ:List Blk)(b:Nat):Prop:= ∃cs,σ[b]?=some (.box cs)
def Zw(s:Sn)(b esz i n:Nat)(v:Value):Prop:=(s.g.μ b=none/\i=0/\n=0/\v=.slice none 0 0)\/ ∃r cap c e fz,s.g.μ b=some (r,0)/\v=.slice (some ⟨r,i*esz,none⟩) n cap/\n<=cap/\s.w.heap[r]?=some (.cells c e fz)/\(i+cap)*esz<=c.size
inductive JK(s:Sn):AV->Value->Prop where
 |p (c v):J0e s.w s.g.C c v->JK s (.p c) v
 |data (cs:List PV) (vs:Array Value):cs.length=vs.size->(∀(i:Nat) x v,cs[i]?=some x->vs[i]?=some v->J0e s.w s.g.C x v)->JK s (.data cs) (.agg vs)
 |agg (cs:List AV) (vs:Array Value):cs.length=vs.size->(∀(i:Nat) v,vs[i]?=some v->v.oneCell'=true)->(∀(i:Nat) x v,cs[i]?=some x->vs[i]?=some v->JK s x v)->JK s (.agg cs) (.agg vs)
 |tup (cs:List AV) (vs:Array Value):cs.length=vs.size->(∀(i:Nat) x v,cs[i]?=some x->vs[i]?=some v->JK s x v)->JK s (.tup cs) (.tuple vs)
 |ptr (b off r o):s.g.μ b=some (r,o)->OU s.σ b->JK s (.ptr b off) (.pointer (some ⟨r,o+off,none⟩))
 |cp (cs:List PV) (off r o:Nat) (vals:Nat->Value):
  (∀(j:Nat) x,cs[j]?=some x->s.g.C r (o+j)/\cellAt s.w r (o+j)=some (vals j))->
  (∀(j:Nat) x,cs[j]?=some x->J0e s.w s.g.C x (vals j))->JK s (.cp cs off) (.pointer (some ⟨r,o+off,none⟩))
 |slr (b i n v wm esz rows):(∃a cap,v=.slice a n cap/\(n=0\/a≠none))->s.σ[b]?=some (.arr wm esz rows)->i+n<=rows.length->(i+n=rows.length->Zw s b esz i n v)->JK s (.slr b i n) v
 |ep (b ext i off v wm esz rows):(∃r o,v=.pointer (some ⟨r,o,none⟩))->s.σ[b]?=some (.arr wm esz rows)->ext<=rows.length->
  (ext=rows.length->i<ext-> ∃r,s.g.μ b=some (r,0)/\v=.pointer (some ⟨r,i*esz+off,none⟩))->JK s (.ep b ext i off) v
 |fn (f:FuncId) (first caps:List AV) (fs cs:Array Value):first.length=fs.size->caps.length=cs.size->
  (∀(i:Nat) x v,first[i]?=some x->fs[i]?=some v->JK s x v)->(∀(i:Nat) x v,caps[i]?=some x->cs[i]?=some v->JK s x v)->
  JK s (.fn f first caps) (.func (.func f) fs cs)
 |unk (x:Bool):JK s .unk (.bool x)
def Wr1(s:Sn)(b r o:Nat):Prop:=
 match s.σ[b]? with
 |some (.box cs)=> ∃e,s.g.μ b=some (r,e)/\e<=o/\o<e+cs.length
 |some (.arr true _ _)=> ∃e,s.g.μ b=some (r,e)
 |some (.arr false esz rows)=> ∃e,s.g.μ b=some (r,e)/\rows.length*esz<=o
 |_=>False
def Wr(s:Sn)(r o:Nat):Prop:= ∃b,Wr1 s b r o
def DX(fz:Nat×Nat)(a b:Nat):Prop:= ∀o,a<=o->o<b-> ¬(fz.1<=o/\o<fz.2)
def wI(esz:Nat)(fz:Nat×Nat)(n:Nat):Prop:=DX fz 0 n/\(esz≠1-> ¬(fz.1<=n/\n<fz.2))
theorem wI.zero(esz n:Nat):wI esz (0,0) n:=⟨λ_ _ _ h=>by simp at h,λ_ h=>by simp at h⟩
def OM(s:Sn)(b:Nat)(cs:List AV):Prop:= ∃r o c e fz,s.g.μ b=some (r,o)/\s.w.heap[r]?=some (.cells c e fz)/\o+cs.length<=c.size/\(∀(i:Nat) x,cs[i]?=some x-> ∃v,c[o+i]?=some v/\JK s x v/\v.oneCell'=true)/\DX fz o (o+cs.length)
def OA(s:Sn)(b:Nat)(wm:Bool)(esz:Nat)(rows:List (List PV)):Prop:=(s.g.μ b=none/\rows=[])\/ ∃r c e fz,s.g.μ b=some (r,0)/\s.w.heap[r]?=some (.cells c e fz)/\(∀row∈rows,row.length=esz)/\rows.length*esz<=c.size/\(∀(i j:Nat) row x,rows[i]?=some row->row[j]?=some x->(∃v,c[i*esz+j]?=some v/\J0e s.w s.g.C x v)/\(wm=false->s.g.C r (i*esz+j)))/\wI esz fz c.size
structure Inv(s:Sn):Prop where
 box: ∀b cs,s.σ[b]?=some (.box cs)->OM s b cs
 arr: ∀b wm esz rows,s.σ[b]?=some (.arr wm esz rows)->OA s b wm esz rows
 apart: ∀b1 b2 r o,Wr1 s b1 r o->Wr1 s b2 r o->b1=b2
 const: ∀r o,s.g.C r o->r<s.w.heap.size/\ ∀b,¬Wr1 s b r o
def pB(W:Nat->Nat->Prop)(w0 w:World):Prop:=w0.heap.size<=w.heap.size/\(∀(r:Nat) c e fz,w0.heap[r]?=some (.cells c e fz)-> ∃c',w.heap[r]?=some (.cells c' e fz)/\c'.size=c.size/\ ∀o,¬W r o->c'[o]?=c[o]?)/\(∀(r:Nat) x,w0.heap[r]?=some x->(∀c e fz,x≠.cells c e fz)->w.heap[r]?=some x)/\w.os=w0.os/\w.output=w0.output
structure bE(s0 s:Sn):Prop where
 keep:pB (Wr s0) s0.w s.w
 cmono: ∀r o,s0.g.C r o->s.g.C r o
 cnew: ∀r o,s.g.C r o->s0.g.C r o\/Wr s0 r o\/s0.w.heap.size<=r
 wnew: ∀r o,Wr s r o->Wr s0 r o\/s0.w.heap.size<=r
 len:s0.σ.length<=s.σ.length
 box: ∀b cs,s0.σ[b]?=some (.box cs)->(∃cs',s.σ[b]?=some (.box cs')/\cs'.length=cs.length)/\s.g.μ b=s0.g.μ b
 arr: ∀b wm esz rows,s0.σ[b]?=some (.arr wm esz rows)-> ∃wm' rows',s.σ[b]?=some (.arr wm' esz rows')/\(wm'=true->wm=true)/\
  rows.length<=rows'.length/\(rows'.length=rows.length->s.g.μ b=s0.g.μ b)
theorem pB.refl(W w):pB W w w:=⟨zQ0 _,λ_ c _ _ h=>⟨c,h,rfl,λ_ _=>rfl⟩,λ_ _ h _=>h,rfl,rfl⟩
theorem pB.mono{W W':Nat->Nat->Prop}{w0 w}(h:pB W w0 w)(hw: ∀r o,W r o->W' r o):pB W' w0 w:=
 ⟨h.1,λr c e fz j=>let⟨c',a,b,d⟩:=h.2.1 r c e fz j;⟨c',a,b,λo g=>d o λx=>g (hw _ _ x)⟩,h.2.2⟩
theorem pB.cell{W w0 w}(h:pB W w0 w){r o v}(hn: ¬W r o)(hv:cellAt w0 r o=some v):cellAt w r o=some v:=by
 unfold cellAt at hv;split at hv;rename_i c e fz g;obtain⟨c',h1,_,h3⟩:=h.2.1 r c e fz g;grind [lZ];cases hv
theorem bE.refl(s:Sn):bE s s:=
 ⟨.refl _ _,λ_ _ h=>h,λ_ _ h=>.inl h,λ_ _ h=>.inl h,zQ0 _,λ_ cs h=>⟨⟨cs,h,rfl⟩,rfl⟩,
  λ_ wm _ rows h=>⟨wm,rows,h,id,zQ0 _,λ_=>rfl⟩⟩
theorem SM{w:World}{r:Nat}{x:Obj}(h:w.heap[r]?=some x):r<w.heap.size:=by
 grind
theorem bE.trans{s0 s1 C:Sn}(h:bE s0 s1)(g:bE s1 C):bE s0 C where
 keep:=by
  refine⟨zQ1 h.keep.1 g.keep.1,λr c e fz A=>?_,λr x A E=>g.keep.2.2.1 r x (h.keep.2.2.1 r x A E) E,g.keep.2.2.2.1.trans h.keep.2.2.2.1,g.keep.2.2.2.2.trans h.keep.2.2.2.2⟩;obtain⟨c1,k,b1,z⟩:=h.keep.2.1 r c e fz A;obtain⟨q,w,b2,y⟩:=g.keep.2.1 r c1 e fz k;refine⟨q,w,b2.trans b1,λo H=>(y o λj=>?_).trans (z o H)⟩;rcases h.wnew r o j with j|j
  all_goals simp_all
 cmono r o n:=g.cmono r o (h.cmono r o n)
 cnew r o n:=by
  rcases g.cnew r o n with n|j|v;exact h.cnew r o n
  ·rcases h.wnew r o j with j|v
   all_goals simp_all
  exact .inr (.inr (zQ1 h.keep.1 v))
 wnew r o j:=by
  rcases g.wnew r o j with j|v;exact h.wnew r o j;exact .inr (zQ1 h.keep.1 v)
 len:=zQ1 h.len g.len
 box b cs hb:=by obtain⟨⟨c1,k,I⟩,K⟩:=h.box b cs hb;obtain⟨⟨q,w,L⟩,J⟩:=g.box b c1 k;simp_all
 arr b wm esz rows hb:=by obtain⟨B,F,k,b1,c1,z⟩:=h.arr b wm esz rows hb;obtain⟨D,G,w,b2,q,y⟩:=g.arr b B esz F k;exact⟨D,G,w,λe=>b1 (b2 e),zQ1 c1 q,λe=>(y (by omega)).trans (z (by omega))⟩
theorem Inv.cfix{s0 s:Sn}(hi:Inv s0)(t:bE s0 s){r o v}(hc:s0.g.C r o)(hv:cellAt s0.w r o=some v):cellAt s.w r o=some v:=
 t.keep.cell (fun⟨b,e⟩=>(hi.const r o hc).2 b e) hv
theorem J0e.mono{s0 s:Sn}(hi:Inv s0)(t:bE s0 s){x v}(h:J0e s0.w s0.g.C x v):J0e s.w s.g.C x v:=by
 induction h with
 |b x=>exact .b x
 |i k n=>exact .i k n
 |s l=>exact .s l
 |np=>exact .np
 |nf=>exact .nf
 |sl0 esz a cap=>exact .sl0 esz a cap
 |sl esz rows r o cap vals h1 h2 h3 _ ih=>exact .sl esz rows r o cap vals h1 h2 (λi j row x e q=>⟨t.cmono _ _ (h3 i j row x e q).1,hi.cfix t (h3 i j row x e q).1 (h3 i j row x e q).2⟩) ih
 |slc esz rows a _ ih=>exact .slc esz rows a ih
theorem OU.mono{s0 s:Sn}(t:bE s0 s){b}(h:OU s0.σ b):OU s.σ b:=by obtain⟨cs,h⟩:=h;obtain⟨⟨cs',e,_⟩,_⟩:=t.box b cs h;exact⟨cs',e⟩
theorem JK.mono{s0 s:Sn}(hi:Inv s0)(t:bE s0 s){x v}(h:JK s0 x v):JK s x v:=by
 induction h with
 |p c v h=>exact .p c v (h.mono hi t)
 |data cs vs h1 h2=>exact .data cs vs h1 λi x v g k=>(h2 i x v g k).mono hi t
 |agg cs vs h1 h2 _ ih=>exact .agg cs vs h1 h2 ih
 |tup cs vs h1 _ ih=>exact .tup cs vs h1 ih
 |ptr b off r o h1 h2=>obtain⟨cs,h3⟩:=h2;exact .ptr b off r o ((t.box b cs h3).2.trans h1) (.mono t ⟨cs,h3⟩)
 |cp cs off r o vals h1 h2=>exact .cp cs off r o vals (λj x g=>⟨t.cmono _ _ (h1 j x g).1,hi.cfix t (h1 j x g).1 (h1 j x g).2⟩) λj x g=>(h2 j x g).mono hi t
 |slr b i n v wm esz rows h0 h1 h2 h3=>
  obtain⟨wm',rows',a,_,c,d⟩:=t.arr b wm esz rows h1;refine .slr b i n v wm' esz rows' h0 a (zQ1 h2 c) λe=>?_;have A:rows'.length=rows.length:=by omega
  rcases h3 (by omega)with⟨m,z,F,k⟩|⟨r,cap,E,B,fz,m,k,q,D,I⟩;exact .inl ⟨(d A).trans m,z,F,k⟩;obtain⟨c',C,H,_⟩:=t.keep.2.1 r E B fz D;exact .inr ⟨r,cap,c',B,fz,(d A).trans m,k,q,C,by omega⟩
 |ep b ext i off v wm esz rows h0 h1 h2 h3=>
  obtain⟨wm',rows',a,_,c,d⟩:=t.arr b wm esz rows h1;refine .ep b ext i off v wm' esz rows' h0 a (zQ1 h2 c) λe G=>?_;grind
 |fn f first caps fs cs h1 h2 _ _ w y=>exact .fn f first caps fs cs h1 h2 w y
 |unk x=>exact .unk x
theorem pZ{s0 s:Sn}(hi:Inv s0)(t:bE s0 s)(D:Nat->Prop)
  (same: ∀b,¬D b->s.σ[b]?=s0.σ[b]?/\s.g.μ b=s0.g.μ b)
  (n: ∀b r o v,¬D b->Wr1 s0 b r o->cellAt s0.w r o=some v->cellAt s.w r o=some v)
  (S: ∀b cs,D b->s.σ[b]?=some (.box cs)->OM s b cs)
  (T: ∀b wm esz rows,D b->s.σ[b]?=some (.arr wm esz rows)->OA s b wm esz rows)
  (Q: ∀b1 b2 r o,D b1->Wr1 s b1 r o->Wr1 s b2 r o->b1=b2)
  (q: ∀r o,s.g.C r o->r<s.w.heap.size)
  (L: ∀r o b,s.g.C r o->D b-> ¬Wr1 s b r o)
  (O: ∀r o b,s.g.C r o-> ¬s0.g.C r o-> ¬D b-> ¬Wr1 s0 b r o):Inv s:=by
 have wr: ∀b r o,¬D b->(Wr1 s b r o↔Wr1 s0 b r o):=(by intro b r o h;obtain⟨h1,h2⟩:=same b h;grind [Wr1]);have cells: ∀(r:Nat) c e fz,s0.w.heap[r]?=some (.cells c e fz)-> ∃c',s.w.heap[r]?=some (.cells c' e fz)/\c'.size=c.size/\ ∀o v,cellAt s.w r o=some v->c'[o]?=some v:=(by intro r c e fz k;obtain⟨c',h1,h2,_⟩:=t.keep.2.1 r c e fz k;grind [lZ]);refine⟨?_,?_,?_,?_⟩;intro b cs y;by_cases h:D b;simp_all;obtain⟨h1,h2⟩:=same b h;obtain⟨r,o,c,e,fz,m,E,U,H,G⟩:=hi.box b cs (h1▸y);obtain⟨c',A,R,B⟩:=cells r c e fz E;refine⟨r,o,c',e,fz,h2.trans m,A,by omega,λi x I=>?_,G⟩;obtain⟨v,V,k,K⟩:=H i x I;refine⟨v,B _ _ (n b r (o+i) v h ?_ (by grind [lZ])),k.mono hi t,K⟩;grind [Wr1];intro b wm esz rows y;by_cases h:D b;grind;obtain⟨h1,h2⟩:=same b h;rcases hi.arr b wm esz rows (h1▸y)with⟨m,k⟩|⟨r,c,e,fz,m,E,F,U,H,G⟩;exact .inl ⟨h2.trans m,k⟩;obtain⟨c',A,R,B⟩:=cells r c e fz E;refine .inr ⟨r,c',e,fz,h2.trans m,A,F,by omega,λi j row x M P=>?_,R▸G⟩;obtain⟨⟨v,V,k⟩,z⟩:=H i j row x M P;refine⟨⟨v,B _ _ ?_,k.mono hi t⟩,λe=>t.cmono _ _ (z e)⟩;cases wm with
 |true=>
  refine n b r _ v h ?_ (by grind [lZ]);grind [Wr1]
 |false=>exact hi.cfix t (z rfl) (by grind [lZ])
 intro b1 b2 r o h1 h2;by_cases N:D b1;grind;by_cases J:D b2;grind;exact hi.apart b1 b2 r o ((wr b1 r o N).1 h1) ((wr b2 r o J).1 h2);intro r o z;refine⟨q r o z,λb y=>?_⟩;by_cases h:D b;simp_all;by_cases h0:s0.g.C r o;exact(hi.const r o h0).2 b ((wr b r o h).1 y);simp_all
end Go.Am
end
section
namespace Go.Am
theorem kJ{σ:List Blk}{b:Nat}{x y:Blk}(h:σ[b]?=some x):(σ.set b y)[b]?=some y:=by
 grind
theorem sG{σ:List Blk}{b c:Nat}{y:Blk}(h:b≠c):(σ.set b y)[c]?=σ[c]?:=by simp[h]
theorem fy{s0:Sn}(hi:Inv s0){w':World}(k:w'.heap=s0.w.heap)(ho:w'.os=s0.w.os)(hp:w'.output=s0.w.output):
  Inv ⟨s0.σ,s0.g,w'⟩/\bE s0 ⟨s0.σ,s0.g,w'⟩:=by
 have q: ∀r o,cellAt w' r o=cellAt s0.w r o:=λr o=>by grind [cellAt]
 have t:bE s0 ⟨s0.σ,s0.g,w'⟩:=by
  refine⟨⟨by simp_all,λr c e fz h=>⟨c,by simp_all,rfl,λ_ _=>rfl⟩,λr x h _=>by simp_all,ho,hp⟩,λ_ _ h=>h,λ_ _ h=>.inl h,λr o ⟨b,n⟩=>.inl ⟨b,n⟩,zQ0 _,λ_ cs h=>⟨⟨cs,h,rfl⟩,rfl⟩,
   λ_ wm _ rows h=>⟨wm,rows,h,id,zQ0 _,λ_=>rfl⟩⟩
 exact⟨pZ hi t (λ_=>False) (λ_ _=>⟨rfl,rfl⟩) (λ_ r o v _ _ h=>by simp_all) (λ_ _ h=>h.elim) (λ_ _ _ _ h=>h.elim)
  (λ_ _ _ _ h=>h.elim) (λr o h=>by show r<w'.heap.size;rw[k];exact(hi.const r o h).1) (λ_ _ _ _ h=>h.elim) (λ_ _ _ h j=>(j h).elim),t⟩
theorem RS{W:Nat->Nat->Prop}{w w':World}{x:Obj}(j:w'.heap=w.heap.push x)(ho:w'.os=w.os)(hp:w'.output=w.output):pB W w w':=by
 have g: ∀(r:Nat) y,w.heap[r]?=some y->w'.heap[r]?=some y:=(by grind);exact⟨by rw[j];simp,λr c e fz h=>⟨c,g r _ h,rfl,λ_ _=>rfl⟩,λr y h _=>g r y h,ho,hp⟩
theorem RI{w w':World}{x:Obj}(e:w'.heap=w.heap.push x):w'.heap[w.heap.size]?=some x:=by rw[e];simp
theorem gn{w w':World}{x:Obj}(e:w'.heap=w.heap.push x){r o v}(h:cellAt w r o=some v):cellAt w' r o=some v:=
 (RS (W:=λ_ _=>False) (w:=w) (w':={w' with os:=w.os,output:=w.output}) e rfl rfl).cell (λh=>h) h
def fP(g:Gh)(new:Nat)(x:Option (Nat×Nat)):Gh:=⟨λb=>if b=new then x else g.μ b,g.C⟩
theorem tl{s0 s:Sn}{new:Nat}{blk:Blk}(hd:s0.σ[new]?=some .dead)(hs:s.σ=s0.σ.set new blk)(x:Option (Nat×Nat))(j:s.g.μ=(fP s0.g new x).μ):
  s0.σ.length<=s.σ.length/\(∀b cs,s0.σ[b]?=some (.box cs)->(∃cs',s.σ[b]?=some (.box cs')/\cs'.length=cs.length)/\s.g.μ b=s0.g.μ b)/\
  (∀b wm esz rows,s0.σ[b]?=some (.arr wm esz rows)-> ∃wm' rows',s.σ[b]?=some (.arr wm' esz rows')/\(wm'=true->wm=true)/\
  rows.length<=rows'.length/\(rows'.length=rows.length->s.g.μ b=s0.g.μ b)):=by
 have o: ∀b y,s0.σ[b]?=some y->y≠.dead->s.σ[b]?=some y/\s.g.μ b=s0.g.μ b:=by
  intro b y k n;have h:new≠b:=by grind
  rw[hs,sG h,j];exact⟨k,if_neg (λe=>h e.symm)⟩
 simp_all
def JLh(s0:Sn)(c:Array Value):Blk->Prop
 | .box cs=>cs.length<=c.size/\ ∀(i:Nat) x,cs[i]?=some x-> ∃v,c[i]?=some v/\JK s0 x v/\v.oneCell'=true
 | .arr true esz rows=>(∀row∈rows,row.length=esz)/\rows.length*esz<=c.size/\
  ∀(i j:Nat) row x,rows[i]?=some row->row[j]?=some x-> ∃v,c[i*esz+j]?=some v/\J0e s0.w s0.g.C x v
 |_=>False
theorem QE{s0:Sn}(hi:Inv s0){new:Nat}(hd:s0.σ[new]?=some .dead){blk:Blk}{c:Array Value}{e:TypeId}{fz:Nat×Nat}{w':World}
  (y:w'.heap=s0.w.heap.push (.cells c e fz)) (ho:w'.os=s0.w.os) (hp:w'.output=s0.w.output) (hf:DX fz 0 c.size) (F: ∀wm esz rows,blk=.arr wm esz rows->esz≠1-> ¬(fz.1<=c.size/\c.size<fz.2)) (hb:JLh s0 c blk):
  Inv ⟨s0.σ.set new blk,fP s0.g new (some (s0.w.heap.size,0)),w'⟩/\bE s0 ⟨s0.σ.set new blk,fP s0.g new (some (s0.w.heap.size,0)),w'⟩:=by
 have q:(s0.σ.set new blk)[new]?=some blk:=kJ hd;have wr: ∀b r o,b≠new->(Wr1 ⟨s0.σ.set new blk,fP s0.g new (some (s0.w.heap.size,0)),w'⟩ b r o↔Wr1 s0 b r o):=by simp_all [Wr1,fP,Ne.symm]
 have N: ∀r o,Wr1 ⟨s0.σ.set new blk,fP s0.g new (some (s0.w.heap.size,0)),w'⟩ new r o->r=s0.w.heap.size:=(by intro r o h;unfold Wr1 at h;simp only[q,fP]at h;grind);have O: ∀b r o,Wr1 s0 b r o->r<s0.w.heap.size:=by
  intro b r o h;unfold Wr1 at h;split at h;rename_i cs hb;obtain⟨r',P,c',e',C,m,k,_⟩:=hi.box b cs hb;grind
  ·rename_i hb;obtain⟨L,J⟩:=h;rcases hi.arr b _ _ _ hb with⟨m,_⟩|⟨r',c',e',C,m,k,_⟩
   all_goals grind
  ·rename_i hb;obtain⟨L,J,_⟩:=h;rcases hi.arr b _ _ _ hb with⟨m,_⟩|⟨r',c',e',C,m,k,_⟩
   all_goals grind
  exact h.elim
 have t:bE s0 ⟨s0.σ.set new blk,fP s0.g new (some (s0.w.heap.size,0)),w'⟩:=(by obtain⟨H,K,I⟩:=tl (s:=⟨s0.σ.set new blk,fP s0.g new (some (s0.w.heap.size,0)),w'⟩) hd rfl (some (s0.w.heap.size,0)) rfl;refine⟨RS y ho hp,λ_ _ h=>h,λ_ _ h=>.inl h,?_,H,K,I⟩;rintro r o ⟨b,hb⟩;by_cases e:b=new;grind;exact .inl ⟨b,(wr b r o e).1 hb⟩);refine⟨pZ hi t (λb=>b=new) (λb B=>⟨sG (Ne.symm B),if_neg B⟩) (λb r o v _ _ h=>gn y h) ?_ ?_ ?_ ?_ ?_ ?_,t⟩;rintro b cs rfl n;rw[q]at n;injection n with n;subst n;obtain⟨h1,h2⟩:=hb;refine⟨s0.w.heap.size,0,c,e,fz,if_pos rfl,RI y,by omega,λi x D=>?_,λo _ Q=>hf o (zQ2 _) (by omega)⟩;obtain⟨v,G,z,E⟩:=h2 i x D;exact⟨v,by simp_all,z.mono hi t,E⟩;rintro b wm esz rows rfl n;rw[q]at n;injection n with n;subst n;cases wm with
 |false=>exact hb.elim
 |true=>obtain⟨h1,h2,h3⟩:=hb;refine .inr ⟨s0.w.heap.size,c,e,fz,if_pos rfl,RI y,h1,h2,λi j row x z D=>⟨?_,λh=>by cases h⟩,hf,F _ _ _ rfl⟩;obtain⟨v,G,z⟩:=h3 i j row x z D;exact⟨v,G,z.mono hi t⟩
 grind;intro r o A;show r<w'.heap.size;rw[y];have:=(hi.const r o A).1;simp;omega;rintro r o b A rfl h;have:=(hi.const r o A).1;grind;exact λr o b A M=>(M A).elim
theorem wR{s0:Sn}(hi:Inv s0): ∀b r o,Wr1 s0 b r o->r<s0.w.heap.size:=by
 intro b r o h;unfold Wr1 at h;split at h;rename_i cs e;obtain⟨r',q,c',e',g,m,k,_⟩:=hi.box b cs e;grind
 ·rename_i e;obtain⟨j,n⟩:=h;rcases hi.arr b _ _ _ e with⟨m,_⟩|⟨r',c',e',g,m,k,_⟩
  all_goals grind
 ·rename_i e;obtain⟨j,n,_⟩:=h;rcases hi.arr b _ _ _ e with⟨m,_⟩|⟨r',c',e',g,m,k,_⟩
  all_goals grind
 exact h.elim
theorem QL{s0:Sn}(hi:Inv s0){new:Nat}(hd:s0.σ[new]?=some .dead)(esz:Nat):
  Inv ⟨s0.σ.set new (.arr true esz []),fP s0.g new none,s0.w⟩/\bE s0 ⟨s0.σ.set new (.arr true esz []),fP s0.g new none,s0.w⟩:=by
 have j:(s0.σ.set new (Blk.arr true esz []))[new]?=some (.arr true esz []):=kJ hd;have wr: ∀b r o,b≠new->(Wr1 ⟨s0.σ.set new (.arr true esz []),fP s0.g new none,s0.w⟩ b r o↔Wr1 s0 b r o):=by simp_all [Wr1,fP,Ne.symm]
 have D: ∀r o,¬Wr1 ⟨s0.σ.set new (.arr true esz []),fP s0.g new none,s0.w⟩ new r o:=by simp_all [Wr1,fP]
 have t:bE s0 ⟨s0.σ.set new (.arr true esz []),fP s0.g new none,s0.w⟩:=(by obtain⟨x,A,y⟩:=tl (s:=⟨s0.σ.set new (.arr true esz []),fP s0.g new none,s0.w⟩) hd rfl none rfl;refine⟨.refl _ _,λ_ _ h=>h,λ_ _ h=>.inl h,?_,x,A,y⟩;rintro r o ⟨b,B⟩;by_cases e:b=new;simp_all;exact .inl ⟨b,(wr b r o e).1 B⟩);refine⟨pZ hi t (λb=>b=new) (λb k=>⟨sG (Ne.symm k),if_neg k⟩) (λb r o v _ _ h=>h) ?_ ?_ ?_ ?_ ?_ ?_,t⟩;simp_all;rintro b wm z rows rfl n;rw[j]at n;cases n;exact .inl ⟨if_pos rfl,rfl⟩;simp_all;exact λr o q=>(hi.const r o q).1;simp_all;exact λr o b q C=>(C q).elim
def pJ(g:Gh)(p:Nat->Nat->Prop):Gh:=⟨g.μ,λr o=>g.C r o\/p r o⟩
theorem JDW{s0:Sn}(hi:Inv s0){x:Obj}{w':World}
  (j:w'.heap=s0.w.heap.push x) (ho:w'.os=s0.w.os) (hp:w'.output=s0.w.output):
  Inv ⟨s0.σ,pJ s0.g λr _=>r=s0.w.heap.size,w'⟩/\bE s0 ⟨s0.σ,pJ s0.g λr _=>r=s0.w.heap.size,w'⟩:=by
 have t:bE s0 ⟨s0.σ,pJ s0.g λr _=>r=s0.w.heap.size,w'⟩:=by
  refine⟨RS j ho hp,λ_ _ h=>.inl h,λr o h=>?_,λr o h=>.inl h,zQ0 _,λ_ cs h=>⟨⟨cs,h,rfl⟩,rfl⟩,
   λ_ wm _ rows h=>⟨wm,rows,h,id,zQ0 _,λ_=>rfl⟩⟩
  rcases h with h|h
  all_goals simp_all
 refine⟨pZ hi t (λ_=>False) (λ_ _=>⟨rfl,rfl⟩) (λb r o v _ _ h=>gn j h) (λ_ _ h=>h.elim) (λ_ _ _ _ h=>h.elim)
  (λ_ _ _ _ h=>h.elim) ?_ (λ_ _ _ _ h=>h.elim) ?_,t⟩
 intro r o e;show r<w'.heap.size;rw[j];rcases e with e|e;have:=(hi.const r o e).1;simp;omega;simp;omega;intro r o b e k _ h;rcases e with e|e;exact k e;have:=wR hi b r o h;omega
structure Put(r:Nat)(o:Nat)(vs:List Value)(w w':World):Prop where
 there: ∃c e fz c',w.heap[r]?=some (.cells c e fz)/\w'.heap[r]?=some (.cells c' e fz)/\c'.size=c.size/\o+vs.length<=c.size/\
  (∀(j:Nat) v,vs[j]?=some v->c'[o+j]?=some v)/\ ∀k,(k<o\/o+vs.length<=k)->c'[k]?=c[k]?
 rest: ∀r':Nat,r'≠r->w'.heap[r']?=w.heap[r']?
 size:w'.heap.size=w.heap.size
 os:w'.os=w.os
 output:w'.output=w.output
theorem Put.keep{W:Nat->Nat->Prop}{r o vs w w'}(h:Put r o vs w w')(hw: ∀k,o<=k->k<o+vs.length->W r k):pB W w w':=by
 obtain⟨c,e,fz,c',h1,h2,h3,_,_,n⟩:=h.there;refine⟨Nat.le_of_eq h.size.symm,λr' c1 v j g=>?_,λr' x g q=>?_,h.os,h.output⟩;by_cases e':r'=r;grind;exact⟨c1,by rw[h.rest r' e'];exact g,rfl,λ_ _=>rfl⟩;by_cases e':r'=r;grind;rw[h.rest r' e'];exact g
theorem Put.cell{r o vs w w'}(h:Put r o vs w w'){r' k v}(hv:cellAt w r' k=some v)(hn:r'≠r\/k<o\/o+vs.length<=k):cellAt w' r' k=some v:=by
 obtain⟨c,e,fz,c',h1,h2,h3,_,_,g⟩:=h.there;by_cases e':r'=r;grind [lZ];unfold cellAt;rw[h.rest r' e'];exact hv
inductive cm:Blk->Blk->Prop where|box (cs cs':List AV):cs'.length=cs.length->cm (.box cs) (.box cs')|arr (esz:Nat) (rows rows':List (List PV)):rows'.length=rows.length->cm (.arr true esz rows) (.arr true esz rows')
theorem gi{s0:Sn}(hi:Inv s0){b:Nat}{z blk:Blk}{r o:Nat}{vs:List Value}{w':World}(hb:s0.σ[b]?=some z)
  (q:Put r o vs s0.w w') (hw: ∀k,o<=k->k<o+vs.length->Wr1 s0 b r k)
  (hk:cm z blk)
  (A: ∀cs,blk=.box cs->(∀{x v},JK s0 x v->JK ⟨s0.σ.set b blk,s0.g,w'⟩ x v)->OM ⟨s0.σ.set b blk,s0.g,w'⟩ b cs)
  (B: ∀esz rows,blk=.arr true esz rows->(∀{x v},J0e s0.w s0.g.C x v->J0e w' s0.g.C x v)->OA ⟨s0.σ.set b blk,s0.g,w'⟩ b true esz rows):
  Inv ⟨s0.σ.set b blk,s0.g,w'⟩/\bE s0 ⟨s0.σ.set b blk,s0.g,w'⟩:=by
 have n:(s0.σ.set b blk)[b]?=some blk:=kJ hb;have wr: ∀j r o,(Wr1 ⟨s0.σ.set b blk,s0.g,w'⟩ j r o↔Wr1 s0 j r o):=by
  intro j r o;by_cases e:j=b;subst e;unfold Wr1;simp only[n,hb];cases hk<;>simp_all
  grind [Wr1]
 have t:bE s0 ⟨s0.σ.set b blk,s0.g,w'⟩:=by
  refine⟨q.keep λk h1 h2=>⟨b,hw k h1 h2⟩,λ_ _ h=>h,λ_ _ h=>.inl h,λr o ⟨j,h⟩=>.inl ⟨j,(wr j r o).1 h⟩,by simp,λj cs h=>?_,λj wm esz rows h=>?_⟩;by_cases e:j=b;subst e;rw[hb]at h;injection h with h;subst h;cases hk<;>simp_all
  grind;by_cases e:j=b;subst e;rw[hb]at h;injection h with h;subst h;cases hk<;>simp_all
  grind
 refine⟨pZ hi t (λj=>j=b) (λj y=>⟨sG (Ne.symm y),rfl⟩) ?_ ?_ ?_ ?_ ?_ ?_ ?_,t⟩;intro j r' k v y F G;refine q.cell G ?_;rcases zQ3 k o with h|h;simp_all;rcases zQ3 k (o+vs.length)with E|E;refine .inl λe=>y ?_;subst e;exact hi.apart _ _ _ _ F (hw k h E);simp_all;rintro j cs rfl h;rw[n]at h;injection h with h;subst h;exact A _ rfl λh=>h.mono hi t;rintro j wm esz rows rfl h;rw[n]at h;injection h with h;subst h;cases hk with
 |arr _ _ rows' H=>exact B _ _ rfl λh=>h.mono hi t
 rintro b1 b2 r o rfl h1 h2;exact hi.apart _ _ _ _ ((wr _ _ _).1 h1) ((wr _ _ _).1 h2);intro r o D;show r<w'.heap.size;rw[q.size];exact(hi.const r o D).1;rintro r o j D rfl h;exact(hi.const r o D).2 _ ((wr _ _ _).1 h);simp_all
end Go.Am
end
section
namespace Go.Am
theorem lW{a b n e:Nat}(h1:a<n)(h2:b<e):a*e+b<n*e:=by
 have h:(a+1)*e<=n*e:=zQ4 e h1;grind
theorem JA{α:Type}{l:List α}{i:Nat}{x:α}(h:l[i]?=some x):i<l.length:=by
 grind
theorem SF{α:Type}{l:Array α}{i:Nat}{x:α}(h:l[i]?=some x):i<l.size:=by
 grind
theorem iU{α:Type}{l:List α}{i:Nat}{x:α}(h:l[i]?=some x):x∈l:=zQ5 h
def Frz(σ τ:List Blk):Prop:=(∀(b:Nat) wm esz rows,σ[b]?=some (Blk.arr wm esz rows)-> ∃wm',τ[b]?=some (Blk.arr wm' esz rows))/\(∀(b:Nat) x,σ[b]?=some x->(∀wm esz rows,x≠Blk.arr wm esz rows)->τ[b]?=some x)
theorem Frz.refl(σ):Frz σ σ:=⟨λ_ wm _ _ h=>⟨wm,h⟩,λ_ _ h _=>h⟩
theorem Frz.trans{a b c}(h:Frz a b)(g:Frz b c):Frz a c:=
 ⟨λn wm esz rows e=>let⟨wm',h1⟩:=h.1 n wm esz rows e;g.1 n wm' esz rows h1,λn x e j=>g.2 n x (h.2 n x e j) j⟩
theorem JBP{s0:Sn}(hi:Inv s0){b:Nat}{wm:Bool}{esz:Nat}{rows:List (List PV)}(hb:s0.σ[b]?=some (.arr wm esz rows)):
  ∃g',g'.μ=s0.g.μ/\Inv ⟨s0.σ.set b (.arr false esz rows),g',s0.w⟩/\bE s0 ⟨s0.σ.set b (.arr false esz rows),g',s0.w⟩/\
   Frz s0.σ (s0.σ.set b (.arr false esz rows)):=by
 have y:(s0.σ.set b (.arr false esz rows))[b]?=some (.arr false esz rows):=kJ hb;have z:Frz s0.σ (s0.σ.set b (.arr false esz rows)):=by
  refine⟨λn wm' C rows' G=>?_,λn x G I=>?_⟩
  all_goals grind
 cases wm with
 |false=>
  have O:s0.σ.set b (.arr false esz rows)=s0.σ:=(by apply zQ6;grind);refine⟨s0.g,rfl,?_,?_,z⟩
  all_goals simp_all [bE.refl]
 |true=>
  refine⟨pJ s0.g λr o=>s0.g.μ b=some (r,0)/\o<rows.length*esz,rfl,?_⟩;have wr: ∀k r o,Wr1 ⟨s0.σ.set b (.arr false esz rows),pJ s0.g λr o=>s0.g.μ b=some (r,0)/\o<rows.length*esz,s0.w⟩ k r o->Wr1 s0 k r o:=(by intro k r o h;by_cases e:k=b;subst e;unfold Wr1 at h⊢;simp only[y,hb]at h⊢;obtain⟨J,m,_⟩:=h;exact⟨J,m⟩;unfold Wr1 at h⊢;simp only[sG (Ne.symm e)]at h;exact h);have t:bE s0 ⟨s0.σ.set b (.arr false esz rows),pJ s0.g λr o=>s0.g.μ b=some (r,0)/\o<rows.length*esz,s0.w⟩:=(by refine⟨.refl _ _,λ_ _ h=>.inl h,λr o h=>?_,λr o ⟨k,h⟩=>.inl ⟨k,wr k r o h⟩,by simp,λk cs h=>?_,λk wm C rows' h=>?_⟩;rcases h with h|⟨h,_⟩;exact .inl h;refine .inr (.inl ⟨b,?_⟩);grind [Wr1];refine⟨⟨cs,z.2 k _ h (by simp),rfl⟩,rfl⟩;by_cases e:k=b;subst e;rw[hb]at h;injection h with h;injection h with h1 h2 h3;subst h1 h2 h3;exact⟨false,rows,y,by simp,zQ0 _,λ_=>rfl⟩;exact⟨wm,rows',by grind,id,zQ0 _,λ_=>rfl⟩);refine⟨pZ hi t (λk=>k=b) (λk A=>⟨sG (Ne.symm A),rfl⟩) (λ_ _ _ _ _ _ h=>h) ?_ ?_ ?_ ?_ ?_ ?_,t,z⟩;simp_all;rintro k wm C rows' rfl h;rw[y]at h;cases h;rcases hi.arr _ _ _ _ hb with⟨m,F⟩|⟨r,c,e,fz,m,H,D,M,I,K⟩;exact .inl ⟨m,F⟩;refine .inr ⟨r,c,e,fz,m,H,D,M,λi j row x B E=>?_,K⟩;obtain⟨⟨v,N,F⟩,_⟩:=I i j row x B E;refine⟨⟨v,N,F.mono hi t⟩,λ_=>.inr ⟨m,?_⟩⟩;have h1:=JA B;have h2:=JA E;rw[D row (iU B)]at h2;simp_all [lW];rintro b1 b2 r o rfl h1 h2;exact hi.apart _ _ _ _ (wr _ _ _ h1) (wr _ _ _ h2)
  ·intro r o q;rcases q with q|⟨q,_⟩
   exact(hi.const r o q).1
   ·rcases hi.arr _ _ _ _ hb with⟨m,_⟩|⟨r',c,e,fz,m,H,_⟩
    all_goals grind
  rintro r o k q rfl h;rcases q with q|⟨q,L⟩;exact(hi.const r o q).2 _ (wr _ _ _ h);grind [Wr1];intro r o k q G A h;rcases q with q|⟨q,L⟩;exact G q;refine A (hi.apart _ _ r o h ?_);grind [Wr1]
def jR(s:Sn)(esz:Nat)(rows:List (List PV))(v:Value):Prop:= ∃a cap,v=.slice a rows.length cap/\rows.length<=cap/\(∀row∈rows,row.length=esz)/\(rows=[]\/ ∃r o,a=some ⟨r,o,none⟩/\ ∀(i j:Nat) row x,rows[i]?=some row->row[j]?=some x-> ∃u,cellAt s.w r (o+i*esz+j)=some u/\J0e s.w s.g.C x u)
theorem jR.of_sl{s:Sn}{esz rows v}(h:J0e s.w s.g.C (.sl esz rows) v):jR s esz rows v:=by
 cases h with
 |sl0 _ a cap=>exact⟨a,cap,rfl,zQ2 _,(λ_ h=>by cases h),.inl rfl⟩
 |sl _ _ r o cap vals h1 h2 h3 n=>exact⟨_,cap,rfl,h1,h2,.inr ⟨r,o,rfl,λi j row x e k=>⟨_,(h3 i j row x e k).2,n i j row x e k⟩⟩⟩
theorem jR.of_slr{s:Sn}(hi:Inv s){b i n v wm esz rows}(h:JK s (.slr b i n) v)(hb:s.σ[b]?=some (.arr wm esz rows))(e:i+n=rows.length):
  jR s esz (rows.drop i) v:=by
 cases h with
 |slr _ _ _ _ wm' z rows' _ h1 h2 h3=>
  rw[hb]at h1;injection h1 with h1;injection h1 with a1 a2 a3;subst a1 a2 a3;have G:(rows.drop i).length=n:=by simp;omega
  rcases h3 e with⟨m,q,B,w⟩|⟨r,cap,c,J,fz,m,w,y,E,H⟩;subst q B;have:rows=[]:=by grind
  subst this;exact⟨none,0,by simp[w],by simp,by simp,.inl rfl⟩;rcases hi.arr b wm esz rows hb with⟨g,_⟩|⟨r',c',e',D,g,C,o,hlen,I,_⟩;simp_all;rw[m]at g;injection g with g;injection g with g _;subst g;refine⟨some ⟨r,i*esz,none⟩,cap,by simp_all,by omega,λrow A=>o row (zQ7 A),.inr ⟨r,i*esz,rfl,λk j row x F K=>?_⟩⟩;grind [lZ]
theorem jR.mono{s0 s:Sn}(hi:Inv s0)(t:bE s0 s){esz rows v}(h:jR s0 esz rows v)(hc: ∀r o u,cellAt s0.w r o=some u->cellAt s.w r o=some u):jR s esz rows v:=by obtain⟨a,cap,h1,h2,h3,g⟩:=h;refine⟨a,cap,h1,h2,h3,g.imp id ?_⟩;rintro⟨r,o,z,q⟩;exact⟨r,o,z,λi j row x n y=>let⟨u,k,e⟩:=q i j row x n y;⟨u,hc _ _ _ k,e.mono hi t⟩⟩
theorem io{s:Sn}{esz:Nat}{rows:List (List PV)}{v:Value}{a:Option Addr}{cap:Nat}(hv:v=.slice a rows.length cap)(e:rows.length<=cap)
  (h: ∀row∈rows,row.length=esz)
  (hx:rows=[]\/ ∃r o,a=some ⟨r,o,none⟩/\ ∀(i j:Nat) row x,rows[i]?=some row->row[j]?=some x->s.g.C r (o+i*esz+j)/\ ∃u,cellAt s.w r (o+i*esz+j)=some u/\J0e s.w s.g.C x u):
  J0e s.w s.g.C (.sl esz rows) v:=by
 subst hv;rcases hx with rfl|⟨r,o,rfl,hx⟩;exact .sl0 _ _ _
 ·refine .sl esz rows r o cap (λi j=>(cellAt s.w r (o+i*esz+j)).getD .nilFunc) e h (λi j row x k n=>?_) λi j row x k n=>?_
  all_goals grind
theorem JEe{s0:Sn}(hi:Inv s0){b i n:Nat}{v:Value}{wm:Bool}{esz:Nat}{rows:List (List PV)}(h:JK s0 (.slr b i n) v)(hb:s0.σ[b]?=some (.arr wm esz rows))
  (e:i+n=rows.length):
  ∃g',Inv ⟨s0.σ.set b (.arr false esz rows),g',s0.w⟩/\bE s0 ⟨s0.σ.set b (.arr false esz rows),g',s0.w⟩/\
   Frz s0.σ (s0.σ.set b (.arr false esz rows))/\J0e s0.w g'.C (.sl esz (rows.drop i)) v:=by
 obtain⟨g',S,q,t,L⟩:=JBP hi hb;refine⟨g',q,t,L,?_⟩;have B:=h.mono hi t;have y:(s0.σ.set b (.arr false esz rows))[b]?=some (.arr false esz rows):=kJ hb;obtain⟨a,cap,h1,h2,h3,I⟩:=jR.of_slr q B y e;refine io (s:=⟨s0.σ.set b (.arr false esz rows),g',s0.w⟩) h1 h2 h3 (I.imp id ?_);rintro⟨r,o,rfl,M⟩;refine⟨r,o,rfl,λk j row x H N=>⟨?_,M k j row x H N⟩⟩;cases B with
 |slr _ _ _ _ wm' z rows' _ J Y K=>
  have g:(s0.σ.set b (.arr false esz rows))[b]?=some (.arr wm' z rows'):=J;rw[y]at g;injection g with g;injection g with a1 a2 a3;subst a1 a2 a3;rcases K e with⟨m,R,V,A⟩|⟨r',D,c,W,fz,m,A,E,T,U⟩;simp_all
  ·rw[h1]at A;injection A with v1 v2 v3;injection v1 with v1;injection v1 with v1 v4;subst v1 v4
   rcases q.arr b false esz rows y with⟨F,_⟩|⟨r',c',e',Q,F,P,G,hlen,O,_⟩
   all_goals grind
end Go.Am
end
section
namespace Go.Am
theorem LO{α:Type}{a b:List α}{i:Nat}{x:α}(h:(a++b)[i]?=some x):a[i]?=some x\/(a.length<=i/\b[i-a.length]?=some x):=by
 grind
def ms(g:Gh)(wm:Bool)(r lo hi:Nat):Gh:=pJ g λr' o=>wm=false/\r'=r/\lo<=o/\o<hi
theorem JHC{s0:Sn}(hi:Inv s0){b:Nat}{wm:Bool}{esz:Nat}{rows new:List (List PV)}{r:Nat}{vs:List Value}{w':World}
  (hb:s0.σ[b]?=some (.arr wm esz rows)) (hm:s0.g.μ b=some (r,0)) (N: ∀row∈new,row.length=esz)
  (A:Put r (rows.length*esz) vs s0.w w') (hlen:vs.length=new.length*esz)
  (hx: ∀(i j:Nat) row x,new[i]?=some row->row[j]?=some x-> ∃u,vs[i*esz+j]?=some u/\J0e s0.w s0.g.C x u):
  Inv ⟨s0.σ.set b (.arr wm esz (rows++new)),ms s0.g wm r (rows.length*esz) ((rows.length+new.length)*esz),w'⟩/\
  bE s0 ⟨s0.σ.set b (.arr wm esz (rows++new)),ms s0.g wm r (rows.length*esz) ((rows.length+new.length)*esz),w'⟩:=by
 have B:(s0.σ.set b (.arr wm esz (rows++new)))[b]?=some (.arr wm esz (rows++new)):=kJ hb;have U:(rows.length+new.length)*esz=rows.length*esz+new.length*esz:=zQ8 _ _ _;generalize J:(⟨s0.σ.set b (.arr wm esz (rows++new)),ms s0.g wm r (rows.length*esz) ((rows.length+new.length)*esz),w'⟩:Sn)=s;have I:s.σ=s0.σ.set b (.arr wm esz (rows++new)):=by rw[<-J]
 have V:s.g.μ=s0.g.μ:=by rw[<-J];rfl
 have D: ∀r' o,s.g.C r' o↔s0.g.C r' o\/(wm=false/\r'=r/\rows.length*esz<=o/\o<(rows.length+new.length)*esz):=by rw[<-J];exact λ_ _=>Iff.rfl
 have O:s.w=w':=by rw[<-J]
 have wr: ∀n r' o,Wr1 s n r' o->Wr1 s0 n r' o:=by
  intro n r' o h;by_cases e:n=b;subst e;unfold Wr1 at h⊢;rw[I,B]at h;rw[hb];cases wm<;>grind
  grind [Wr1]
 have y: ∀o,rows.length*esz<=o->Wr1 s0 b r o:=by intro o ho;unfold Wr1;rw[hb];cases wm<;>simp_all
 have t:bE s0 s:=(by refine⟨?_,λr o h=>(D r o).2 (.inl h),λr' o h=>?_,λr o ⟨n,h⟩=>.inl ⟨n,wr n r o h⟩,by rw[I];simp,λn cs h=>?_,λn wm' L rows' h=>?_⟩;rw[O];exact A.keep λk h1 _=>⟨b,y k h1⟩;rcases(D r' o).1 h with h|⟨_,e,h,_⟩;exact .inl h;subst e;exact .inr (.inl ⟨b,y o h⟩);grind;by_cases e:n=b;subst e;rw[hb]at h;injection h with h;injection h with h1 h2 h3;subst h1 h2 h3;grind;grind);refine⟨pZ hi t (λn=>n=b) (λn E=>⟨by grind,by rw[V]⟩) ?_ ?_ ?_ ?_ ?_ ?_ ?_,t⟩;intro n r' k v E S T;rw[O];refine A.cell T ?_;by_cases G:r'=r;subst G;rcases zQ3 k (rows.length*esz)with h|h;simp_all;exact(E (hi.apart _ _ _ _ S (y k h))).elim;simp_all;simp_all;rintro n wm' L rows' rfl h;rw[I,B]at h;cases h;obtain⟨c,e,fz,c',W,p2,p3,p4,p5,p6⟩:=A.there;rcases hi.arr _ _ _ _ hb with⟨m,_⟩|⟨r',c0,e0,Z,m,H,M,hl,Q,hf⟩;simp_all;rw[hm]at m;injection m with m;injection m with m _;subst m;rw[W]at H;injection H with H;injection H with q1 q2 q3;subst q1 q2 q3;refine .inr ⟨r,c',e,fz,by simp_all,by simp_all,?_,?_,?_,?_⟩;grind;simp_all;intro i j row x q F;rcases LO q with q|⟨a0,q⟩;obtain⟨⟨v,T,P⟩,z⟩:=Q i j row x q F;have h1:=JA q;have h2:=JA F;rw[M row (iU q)]at h2;have:=lW h1 h2;exact⟨⟨v,by simp_all,P.mono hi t⟩,λe=>(D _ _).2 (.inl (z e))⟩;obtain⟨u,hu,P⟩:=hx _ j row x q F;have h1:=JA q;have h2:=JA F;rw[N row (iU q)]at h2;have h3:=lW h1 h2;have h4:i*esz+j=rows.length*esz+((i-rows.length)*esz+j):=(by grind [Nat.add_sub_cancel']);refine⟨⟨u,by simp_all,P.mono hi t⟩,λe=>(D _ _).2 (.inr ⟨e,rfl,by omega,by simp_all⟩)⟩;simp_all;rintro b1 b2 r o rfl h1 h2;exact hi.apart _ _ _ _ (wr _ _ _ h1) (wr _ _ _ h2);intro r' o z;rw[O,A.size];rcases(D r' o).1 z with z|⟨_,e,_⟩;exact(hi.const r' o z).1;subst e;exact wR hi b _ _ (y _ (zQ0 _));rintro r' o n z rfl h;rcases(D r' o).1 z with z|⟨e,G,K,R⟩;exact(hi.const r' o z).2 _ (wr _ _ _ h);subst e G;unfold Wr1 at h;rw[I,B]at h;grind;intro r' o n z Y E h;rcases(D r' o).1 z with z|⟨e,G,K,R⟩;exact Y z;subst G;exact E (hi.apart _ _ _ o h (y o K))
theorem JFA{s0:Sn}(hi:Inv s0){b:Nat}{wm:Bool}{esz:Nat}{rows new:List (List PV)}{c:Array Value}{e:TypeId}{w':World}
  (hb:s0.σ[b]?=some (.arr wm esz rows)) (A:new≠[]) (K: ∀row∈rows,row.length=esz) (N: ∀row∈new,row.length=esz)
  (O:w'.heap=s0.w.heap.push (.cells c e (0,0))) (ho:w'.os=s0.w.os) (hp:w'.output=s0.w.output)
  (J:(rows.length+new.length)*esz<=c.size)
  (hx: ∀(i j:Nat) row x,(rows++new)[i]?=some row->row[j]?=some x-> ∃u,c[i*esz+j]?=some u/\J0e s0.w s0.g.C x u):
  ∃g',g'.μ b=some (s0.w.heap.size,0)/\Inv ⟨s0.σ.set b (.arr wm esz (rows++new)),g',w'⟩/\bE s0 ⟨s0.σ.set b (.arr wm esz (rows++new)),g',w'⟩:=by
 have z:(s0.σ.set b (.arr wm esz (rows++new)))[b]?=some (.arr wm esz (rows++new)):=kJ hb;refine⟨⟨λk=>if k=b then some (s0.w.heap.size,0)else s0.g.μ k,λr o=>s0.g.C r o\/(wm=false/\r=s0.w.heap.size/\o<(rows.length+new.length)*esz)⟩,if_pos rfl,?_⟩;generalize F:(⟨s0.σ.set b (.arr wm esz (rows++new)),_,w'⟩:Sn)=s;have H:s.σ=s0.σ.set b (.arr wm esz (rows++new)):=by rw[<-F]
 have S: ∀k,s.g.μ k=if k=b then some (s0.w.heap.size,0)else s0.g.μ k:=by grind
 have y: ∀r' o,s.g.C r' o↔s0.g.C r' o\/(wm=false/\r'=s0.w.heap.size/\o<(rows.length+new.length)*esz):=by rw[<-F];simp_all
 have P:s.w=w':=by rw[<-F]
 have L:0<new.length:=List.length_pos_iff.2 A;have wr: ∀k r' o,k≠b->(Wr1 s k r' o↔Wr1 s0 k r' o):=by simp_all [Wr1,Ne.symm]
 have G: ∀r' o,Wr1 s b r' o->r'=s0.w.heap.size/\(wm=false->(rows.length+new.length)*esz<=o):=(by grind [Wr1]);have t:bE s0 s:=(by refine⟨?_,λr o h=>(y r o).2 (.inl h),λr' o h=>?_,λr o ⟨k,h⟩=>?_,by rw[H];simp,λk cs h=>?_,λk wm' E rows' h=>?_⟩;grind [RS];grind;by_cases q:k=b;grind;exact .inl ⟨k,(wr k r o q).1 h⟩;grind;by_cases q:k=b;subst q;rw[hb]at h;injection h with h;injection h with h1 h2 h3;subst h1 h2 h3;exact⟨wm,rows++new,by simp_all,id,by simp,λh=>by simp_all⟩;grind);refine⟨pZ hi t (λk=>k=b) (λk I=>⟨by grind,by simp_all⟩) (λb r o v _ _ h=>by grind [gn]) ?_ ?_ ?_ ?_ ?_ ?_,t⟩;simp_all;rintro k wm' E rows' rfl h;rw[H,z]at h;cases h;refine .inr ⟨s0.w.heap.size,c,e,(0,0),by simp_all,by simp_all,?_,by simp_all,?_,wI.zero _ _⟩;grind;intro i j row x B D;obtain⟨u,R,Q⟩:=hx i j row x B D;refine⟨⟨u,R,Q.mono hi t⟩,λM=>(y _ _).2 (.inr ⟨M,rfl,?_⟩)⟩;have h1:=JA B;have h2:=JA D;have h3:row.length=esz:=(by grind);simp_all [lW];rintro b1 b2 r o rfl h1 h2;by_cases q:b2=b1;exact q.symm;have:=wR hi _ _ _ ((wr b2 r o q).1 h2);grind;intro r' o n;rw[P,O];rcases(y r' o).1 n with n|⟨_,n,_⟩;have:=(hi.const r' o n).1;simp;omega;simp;omega;rintro r' o k n rfl h;have h1:=G _ _ h;rcases(y r' o).1 n with n|⟨T,n,ho⟩;have:=(hi.const r' o n).1;omega;grind;intro r' o k n I A h;rcases(y r' o).1 n with n|⟨_,n,_⟩;exact I n;have:=wR hi _ _ _ h;omega
end Go.Am
end
section
namespace Go.Am
def okP:PV->Value->Bool| .b x,.bool y=>x==y| .i k n,.int k' e=>k==k'&&n==e| .s l,.string g=>l==g.data.toList| .sl _ [],.slice none 0 0=>true| .np,.pointer none=>true| .nf,.nilFunc=>true|_,_=>false
def yY:List PV->List Value->Bool|[],[]=>true|x::xs,v::vs=>okP x v&&yY xs vs|_,_=>false
def okC:AV->Value->Bool| .p c,v=>okP c v| .data cs,.agg vs=>yY cs vs.toList| .fn f [] [],.func (.func g) a c=>f==g&&a.isEmpty&&c.isEmpty| .tup [],.tuple vs=>vs.isEmpty|_,_=>false
def bR:Opd->Operand->Bool| .t n,.tmp m=>n==m| .c x,.const v=>okC x v| .c (.fn f [] []),.func g=>f==g|_,_=>false
def iZ:List Opd->List Operand->Bool|[],[]=>true|x::xs,y::e=>bR x y&&iZ xs e|_,_=>false
def wJ:Option Opd->Option Operand->Bool|none,none=>true|some x,some y=>bR x y|_,_=>false
section
variable (P:Program)
def szT(t:TypeId):Option Nat:=(P.info? t).map (·.size)
def byT(t:TypeId):Option Nat:=(P.info? t).map (·.bytes)
def zeT(t:TypeId):Option Value:=(P.info? t).bind (·.zero)
def yT:TypeDesc->Bool| .struct _| .array _ _=>true|_=>false
def agT(t:TypeId):Option Bool:=(P.underlying t).map yT
def elT(t:TypeId):Option TypeId:=match P.underlying t with|some (.slice e)=>some e|_=>none
def jS(t:TypeId):Bool:=match P.underlying t with|some .string=>true|_=>false
def UL(t:TypeId):Bool:=match P.underlying t with|some (.int .u8)=>true|_=>false
def YV(t:TypeId):Bool:=match P.underlying t with|some .bool=>true|_=>false
def nd(t:TypeId):Bool:=match P.underlying t with|some (.int _)=>true|_=>false
def YK(k:IntKind)(t:TypeId):Bool:=match P.underlying t with|some (.int k')=>k==k'|_=>false
def arT(t:TypeId):Option (Nat×TypeId):=match P.underlying t with|some (.array n e)=>some (n,e)|_=>none
def flT(t:TypeId):Option (Array Field):=match P.underlying t with|some (.struct fs)=>some fs|_=>none
def LY(K:TypeId->Option (List KD)):Nat->List Field->Option (List KD)
 |_,[]=>some []
 |off,f::fs=>
  if f.name= "_" ∨f.offset≠off then none
  else match K f.type with
   |none=>none
   |some ks=>if szT P f.type=some ks.length/\0<ks.length then
    match LY K (off+ks.length) fs with
    |some l=>some (ks++l)
    |none=>none
    else none
def pO:Nat->TypeId->Option (List KD)
 |0,_=>none
 |d+1,t=>match P.underlying t with
  |some .bool=>some [.b]
  |some (.int k)=>some [.i k]
  |some .string=>some [.s]
  |some (.struct fs)=>if P.stoodInHeld t then none else LY P (pO d) 0 fs.toList
  |some (.array n e)=>match pO d e with|some ks=>if szT P e=some ks.length/\0<ks.length then some (List.replicate n ks).flatten else none|none=>none
  |_=>none
def B8(t:TypeId):Operand->Bool| .const (.slice none 0 0)=>(elT P t).isSome|_=>false
def Co(t:TypeId):Operand->Bool
 | .const (.pointer none)=>(match P.underlying t with|some (.pointer _)=>true|_=>false)
 |_=>false
def Bb(t:TypeId):Operand->Bool
 | .const .nilFunc=>(match P.underlying t with|some (.func _ _ _)=>true|_=>false)
 |_=>false
def lL(zero:List PV)(t:TypeId):Bool:=match zeT P t with|some v=>yY zero v.cells.toList|none=>false
def OD(t:TypeId)(os:List (Nat×Nat)):Bool:=match zeT P t with
 |some v=>os.all λx=>match v.cells[x.1]? with|some (.slice none 0 0)=>true|_=>false
 |none=>false
def sB(place:Nat->Option (Nat×Nat)):List (Nat×Nat×Opd)->List (Nat×Operand)->Bool|[],[]=>true|(off,size,x)::r,(i,y)::q=>place i==some (off,size)&&bR x y&&sB place r q|_,_=>false
def FK(fs:Array Field)(i:Nat):Option (Nat×Nat):=match fs[i]? with|some f=>(szT P f.type).map λn=>(f.offset,n)|none=>none
def KU:List (Nat×Opd)->List (Nat×Operand)->Bool|[],[]=>true|(i,x)::r,(j,y)::q=>i==j&&bR x y&&KU r q|_,_=>false
def JX(F:AOp)(op:Op):Bool:=
 match F with
 | .mv x=>match op with| .move y| .assign y=>bR x y|_=>false
 | .mkarr _ x=>match op with
  | .move (.const (.slice none 0 0))| .assign (.const (.slice none 0 0))=>(match x with| .c _=>true|_=>false)
  |_=>false
 | .pick c a b=>match op with| .pick c' G E=>bR c c'&&bR a G&&bR b E|_=>false
 | .newbox zero=>match op with| .alloc t=>lL P zero t|_=>false
 | .box _ x=>match op with| .box _ y=>bR x y|_=>false
 | .build zero parts=>match op with
  | .build t ps=>lL P zero t&&(match P.underlying t with
   |some (.struct fs)=>(fs.all λf=>(szT P f.type).isSome)&&sB (FK P fs) parts ps.toList
   |some (.array _ e)=>(match szT P e with
    |some n=>sB (λi=>some (i*n,n)) parts ps.toList
    |none=>false)
   |_=>false)
  |_=>false
 | .lits _ esz n zero parts=>match op with
  | .buildSlice t len ps=>len==n&&(match elT P t with
   |some e=>szT P e==some esz&&decide (n*esz<=16777216)&&lL P zero e&&zero.length==esz&&decide (0<esz)&&KU parts ps.toList
   |none=>false)
  |_=>false
 | .load agg size x=>match op with| .load t y=>agT P t==some agg&&szT P t==some size&&bR x y&&(agg||size==1)|_=>false
 | .store size x v=>match op with| .store t y u=>szT P t==some size&&bR x y&&bR v u|_=>false
 | .nilchk x=>match op with| .nilCheck y=>bR x y|_=>false
 | .bin I bt x y=>match op with
  | .binOp A t o h _=>I==A&&bR x o&&(match bt with
   | .plain=>bR y h
   | .bool=>bR y h&&YV P t
   | .flat ks=>bR y h&&pO P 100 t==some ks&&agT P t==some true&& !P.eqGuardType P.depth t
   | .nils=>B8 P t h
   | .nilp=>Co P t h
   | .nilf=>Bb P t h)
  |_=>false
 | .un H x=>match op with| .unOp B _ y=>H==B&&bR x y|_=>false
 | .conv k x=>match op with
  | .convert q dst y=>bR x y&&(match k with
   | .int k=>nd P q&&YK P k dst
   | .same=>jS P q&&jS P dst
   | .toStr=>(match elT P q with|some e=>UL P e&&szT P e==some 1|none=>false)&&jS P dst
   | .toBytes _=>jS P q&&(match elT P dst with|some e=>UL P e&&szT P e==some 1|none=>false))
  |_=>false
 | .mkslice _ esz bytes zero l c=>match op with
  | .makeSlice t l' c'=>bR l l'&&bR c c'&&(match elT P t with
   |some e=>szT P e==some esz&&byT P e==some bytes&&lL P zero e&&zero.length==esz&&decide (0<esz)&&decide (0<bytes)
   |none=>false)
  |_=>false
 | .slice k x lo hi mx=>match op with
  | .slice t o C z D=>bR x o&&wJ lo C&&wJ hi z&&wJ mx D&&(match k with
   | .str=>jS P t
   | .sl esz=>(match elT P t with|some e=>szT P e==some esz|none=>false))
  |_=>false
 | .faddr off x=>match op with
  | .fieldAddr t y f=>bR x y&&(match flT P t with
   |some fs=>(match fs[f]? with
    |some f=>f.offset==off&&(match szT P f.type with|some n=>n !=0|none=>false)
    |none=>false)
   |none=>false)
  |_=>false
 | .field agg off size x=>match op with
  | .field t y f=>bR x y&&(match flT P t with
   |some fs=>(match fs[f]? with
    |some f=>f.offset==off&&szT P f.type==some size&&agT P f.type==some agg&&(agg||size==1)
    |none=>false)
   |none=>false)
  |_=>false
 | .iaddr esz x i=>match op with
  | .indexAddr t y j=>bR x y&&bR i j&&(match elT P t with|some e=>szT P e==some esz|none=>false)
  |_=>false
 | .aaddr len esz x i=>match op with
  | .indexAddr t y j=>bR x y&&bR i j&&(match arT P t with|some (n,e)=>n==len&&szT P e==some esz|none=>false)
  |_=>false
 | .sidx x i=>match op with| .index t y j=>bR x y&&bR i j&&jS P t|_=>false
 | .aidx agg len esz x i=>match op with
  | .index t y j=>bR x y&&bR i j&&(match arT P t with|some (n,e)=>n==len&&szT P e==some esz&&agT P e==some agg&&(agg||esz==1)|none=>false)
  |_=>false
 | .extr x i=>match op with| .extract y j=>bR x y&&i==j|_=>false
 | .call f args _=>match op with
  | .call c=>(match c.callee with
   | .value (.func g)=>f==g&&iZ args c.args.toList
   |_=>false)
  |_=>false
 | .callv x args _=>match op with
  | .call c=>(match c.callee with
   | .value y=>bR x y&&iZ args c.args.toList
   |_=>false)
  |_=>false
 | .len str x=>match op with
  | .call c=>(match c.callee with
   | .builtin .len=>(match c.args.toList,c.argTypes.toList with
    |[y],[t]=>bR x y&&(if str then jS P t else(elT P t).isSome)
    |_,_=>false)
   |_=>false)
  |_=>false
 | .alen n=>match op with
  | .call c=>(match c.callee with
   | .builtin .len=>(match c.args.toList,c.argTypes.toList with
    |[_],[t]=>(match P.underlying t with
     |some (.array m _)=>m==n
     |some (.pointer a)=>(match arT P a with|some (m,_)=>m==n|none=>false)
     |_=>false)
    |_,_=>false)
   |_=>false)
  |_=>false
 | .appn esz bytes zero y=>match op with
  | .call c=>(match c.callee with
   | .builtin .append=>(match c.args.toList,c.argTypes.toList with
    |[.const (.slice none 0 0),h],[t,u]=>bR y h&&((elT P u).isSome||jS P u)&&(match elT P t with
     |some e=>szT P e==some esz&&byT P e==some bytes&&lL P zero e&&zero.length==esz&&decide (0<esz)&&decide (0<bytes)
     |none=>false)
    |_,_=>false)
   |_=>false)
  |_=>false
 | .app esz bytes zero x y=>match op with
  | .call c=>(match c.callee with
   | .builtin .append=>(match c.args.toList,c.argTypes.toList with
    |[o,h],[t,u]=>bR x o&&bR y h&&((elT P u).isSome||jS P u)&&(match elT P t with
     |some e=>szT P e==some esz&&byT P e==some bytes&&lL P zero e&&zero.length==esz&&decide (0<esz)&&decide (0<bytes)
     |none=>false)
    |_,_=>false)
   |_=>false)
  |_=>false
 | .appc esz bytes zero x y=>match op with
  | .call c=>(match c.callee with
   | .builtin .append=>(match c.args.toList,c.argTypes.toList with
    |[o,h],[t,u]=>bR x o&&bR y h&&((elT P u).isSome||jS P u)&&(match elT P t with
     |some e=>szT P e==some esz&&byT P e==some bytes&&lL P zero e&&zero.length==esz&&decide (0<esz)&&decide (0<bytes)
     |none=>false)
    |_,_=>false)
   |_=>false)
  |_=>false
 | .appz esz bytes zero x y=>match op with
  | .call c=>(match c.callee with
   | .builtin .append=>(match c.args.toList,c.argTypes.toList with
    |[o,h],[t,u]=>bR x o&&bR y h&&(match P.underlying u with
     |some (.int _)=>true
     |_=>false)&&(match elT P t with
     |some e=>szT P e==some esz&&byT P e==some bytes&&lL P zero e&&zero.length==esz&&decide (0<esz)&&decide (0<bytes)
     |none=>false)
    |_,_=>false)
   |_=>false)
  |_=>false
 | .mm mx x y=>match op with
  | .call c=>(match c.callee with
   | .builtin b=>b==(if mx then .max else .min)&&(match c.args.toList with
    |[o,h]=>bR x o&&bR y h
    |_=>false)
   |_=>false)
  |_=>false
 | .newboxo zero os=>match op with| .alloc t=>lL P zero t&&OD P t os|_=>false
 | .buildo zero parts os=>match op with
  | .build t ps=>lL P zero t&&OD P t os&&(match P.underlying t with
   |some (.struct fs)=>(fs.all λf=>(szT P f.type).isSome)&&sB (FK P fs) parts ps.toList
   |_=>false)
  |_=>false
 | .storen _ x=>match op with| .store t y (.const (.slice none 0 0))=>szT P t==some 1&&bR x y|_=>false
 | .callo f _ args _=>match op with
  | .call c=>(match c.callee with
   | .value (.func g)=>f==g&&iZ args c.args.toList
   |_=>false)
  |_=>false
 | .mkfn f first caps=>match op with
  | .makeFunc (.func g) r w=>f==g&&iZ first r.toList&&iZ caps w.toList
  |_=>false
end
end Go.Am
end
section
namespace Go.Am
def get(s:St):Loc->Option (AV⊕Blk)| .slot n=>(lk n s.env).map .inl| .blk b=>(s.sto[b]?).map .inr
theorem JDP{α:Type}(m:RM α)(s s':St)(h: ∀l∈m.reads s,get s' l=get s l):m.run s'=m.run s:=by
 induction m with
 |ret a=>rfl
 |slot n k ih=>
  have h0:=h (.slot n) (by simp[RM.reads]);grind [get,RM.run,RM.reads]
 |blk b k ih=>
  have h0:=h (.blk b) (by simp[RM.reads]);grind [get,RM.run,RM.reads]
 |fail=>rfl
theorem xL{b:Nat}: ∀{ws:List (Nat×Blk)},b∉ws.map (·.1)->jQ b ws=none
 |[],_=>rfl
 |(c,x)::r,h=>by
  simp at h;simp only[jQ];rw[xL (by simpa using h.2)];grind
theorem vg{b:Nat}: ∀{ws:List (Nat×Blk)},b∈ws.map (·.1)-> ∃y,jQ b ws=some y
 |[],h=>by simp at h
 |(c,x)::r,h=>by
  simp only[jQ];by_cases e:b∈r.map (·.1);obtain⟨y,g⟩:=vg e;simp_all;simp_all [xL]
theorem zY: ∀(ws:List (Nat×Blk)) (σ:List Blk),(upd ws σ).length=σ.length|[],_=>rfl|y::ws,σ=>by show(upd ws (σ.set y.1 y.2)).length=_;rw[zY ws];simp
theorem wZ: ∀(ws:List (Nat×Blk)) (σ:List Blk) (b:Nat),b<σ.length->(upd ws σ)[b]?=match jQ b ws with
  |some y=>some y
  |none=>σ[b]?
 |[],σ,b,_=>rfl
 |(c,x)::ws,σ,b,h=>by
  show(upd ws (σ.set c x))[b]?=_;rw[wZ ws (σ.set c x) b (by simpa using h)];grind [jQ]
structure Run(F:Orc)(ins:List cD)(new:Nat->Nat)(S:Nat->St)(eff:Nat->Eff):Prop where
 step: ∀k i,ins[k]?=some i->(cE F i (new k)).run (S k)=some (eff k)/\S (k+1)=put i.dst (eff k) (S k)
structure OB(F:Orc)(ins:List cD)(new:Nat->Nat)(S:Nat->St)(eff:Nat->Eff)(i j:Nat):Prop where
 slotW: ∀x y m,ins[i]?=some x->ins[j]?=some y->x.dst=some m->y.dst≠some m/\Loc.slot m∉(cE F y (new j)).reads (S j)
 slotR: ∀x y m,ins[i]?=some x->ins[j]?=some y->y.dst=some m->Loc.slot m∉(cE F x (new i)).reads (S i)
 blkW: ∀y b,ins[j]?=some y->b∈(eff i).ws.map (·.1)->b∉(eff j).ws.map (·.1)/\Loc.blk b∉(cE F y (new j)).reads (S j)
 blkR: ∀x b,ins[i]?=some x->b∈(eff j).ws.map (·.1)->Loc.blk b∉(cE F x (new i)).reads (S i)
section
variable {F:Orc} {ins:List cD} {new:Nat->Nat} {S:Nat->St} {eff:Nat->Eff}
def wH(ins:List cD)(k:Nat):Option Nat:=(ins[k]?).bind (·.dst)
def pL(ins:List cD)(eff:Nat->Eff)(s0:St)(D:Nat->Bool):Nat->Nat->Option AV|0,m=>lk m s0.env|k+1,m=>if D k=true/\wH ins k=some m then some (eff k).val else pL ins eff s0 D k m
def nW(eff:Nat->Eff)(s0:St)(D:Nat->Bool):Nat->Nat->Option Blk
 |0,b=>s0.sto[b]?
 |k+1,b=>if D k=true then(match jQ b (eff k).ws with
  |some y=>some y
  |none=>nW eff s0 D k b)else nW eff s0 D k b
structure Agree(ins:List cD)(eff:Nat->Eff)(s0:St)(D:Nat->Bool)(s:St):Prop where
 slot: ∀m,lk m s.env=pL ins eff s0 D ins.length m
 len:s.sto.length=s0.sto.length
 blk: ∀b,b<s0.sto.length->s.sto[b]?=nW eff s0 D ins.length b
theorem QC(hr:Run F ins new S eff): ∀k,k<=ins.length->(S k).sto.length=(S 0).sto.length
 |0,_=>rfl
 |k+1,h=>by
  have e:ins[k]?=some ins[k]:=zQ9 (by omega);obtain⟨_,h2⟩:=hr.step k _ e;rw[h2,<-QC hr k (by omega)];unfold put;grind [zY]
theorem gc(hr:Run F ins new S eff)(D:Nat->Bool): ∀k,k<=ins.length->(∀j,j<k->D j=true)-> ∀m,pL ins eff (S 0) D k m=lk m (S k).env
 |0,_,_,m=>rfl
 |k+1,h,hD,m=>by
  have g:ins[k]?=some ins[k]:=zQ9 (by omega);obtain⟨_,h2⟩:=hr.step k _ g;simp only[pL];rw[gc hr D k (by omega) (λj n=>hD j (by omega)) m,h2];have e:wH ins k=ins[k].dst:=by grind [wH]
  rw[e];unfold put;grind [lk]
theorem ct(hr:Run F ins new S eff)(D:Nat->Bool): ∀k,k<=ins.length->(∀j,j<k->D j=true)-> ∀b,b<(S 0).sto.length->nW eff (S 0) D k b=(S k).sto[b]?
 |0,_,_,b,_=>rfl
 |k+1,h,hD,b,hb=>by
  have e:ins[k]?=some ins[k]:=zQ9 (by omega);obtain⟨_,h2⟩:=hr.step k _ e;simp only[nW];rw[ct hr D k (by omega) (λj g=>hD j (by omega)) b hb,h2,if_pos (hD k (by omega))];have:(put ins[k].dst (eff k) (S k)).sto=upd (eff k).ws (S k).sto:=by unfold put;split<;>rfl
  rw[this,wZ _ _ _ (by rw[QC hr k (by omega)];exact hb)]
theorem ia{s0:St}{D D':Nat->Bool}{m:Nat}: ∀n,(∀j,j<n->wH ins j=some m->D j=D' j)->pL ins eff s0 D n m=pL ins eff s0 D' n m
 |0,_=>rfl
 |n+1,h=>by
  simp only[pL];rw[ia n λj e=>h j (by omega)];grind
theorem gm{s0:St}{D D':Nat->Bool}{b:Nat}: ∀n,(∀j,j<n->b∈(eff j).ws.map (·.1)->D j=D' j)->nW eff s0 D n b=nW eff s0 D' n b
 |0,_=>rfl
 |n+1,h=>by
  simp only[nW];rw[gm n λj e=>h j (by omega)];grind [xL]
theorem RL{s0:St}{D:Nat->Bool}{m k:Nat}: ∀n,k<=n->(∀j,k<=j->j<n->wH ins j=some m->D j=false)->pL ins eff s0 D n m=pL ins eff s0 D k m
 |0,h,_=>by simp_all
 |n+1,h,hD=>by
  by_cases e:k=n+1;subst e;rfl;simp only[pL];rw[RL n (by omega) λj h1 h2=>hD j h1 (by omega)];grind
theorem QQ{s0:St}{D:Nat->Bool}{b k:Nat}: ∀n,k<=n->(∀j,k<=j->j<n->b∈(eff j).ws.map (·.1)->D j=false)->nW eff s0 D n b=nW eff s0 D k b
 |0,h,_=>by simp_all
 |n+1,h,hD=>by
  by_cases e:k=n+1;subst e;rfl;simp only[nW];rw[QQ n (by omega) λj h1 h2=>hD j h1 (by omega)];grind [xL]
theorem JG6(hr:Run F ins new S eff){D:Nat->Bool}{s:St}(ha:Agree ins eff (S 0) D s){k:Nat}{i:cD}(hk:ins[k]?=some i)(I:D k=false)
  (r: ∀j,j<k->D j=false->OB F ins new S eff j k) (h: ∀j,k<j->j<ins.length->D j=true->OB F ins new S eff k j):
  (cE F i (new k)).run s=some (eff k)/\Agree ins eff (S 0) (λj=>if j=k then true else D j) (put i.dst (eff k) s):=by
 have E:k<ins.length:=(by grind);have g: ∀j,j<ins.length->ins[j]?=some ins[j]! :=λj q=>by simp[q]
 have z: ∀j,j<ins.length->wH ins j=ins[j]!.dst:=λj q=>by grind [wH]
 obtain⟨h1,h2⟩:=hr.step k i hk;have H:wH ins k=i.dst:=by simp_all
 let T:Nat->Bool:=λ_=>true
 have reads: ∀l∈(cE F i (new k)).reads (S k),get s l=get (S k) l:=by
  intro l B;cases l with
  |slot m=>
   simp only[get];rw[ha.slot m]
   congr 1
   rw[RL ins.length (k:=k) (by omega) λj v e o=>?_];rw[ia (D':=T) k λj q o=>?_,gc hr T k (by omega) (λ_ _=>rfl) m];cases hDj:D j with
   |true=>rfl
   |false=>have:=(r j q hDj).slotW _ i m (g j (by omega)) hk (by grind);simp_all
   by_cases n:j=k;simp_all;cases hDj:D j with
   |false=>rfl
   |true=>have:=(h j (by omega) e hDj).slotR i _ m hk (g j e) (by simp_all);simp_all
  |blk b=>
   simp only[get];by_cases w:b<(S 0).sto.length;rw[ha.blk b w]
   congr 1
   rw[QQ ins.length (k:=k) (by omega) λj v e o=>?_];rw[gm (D':=T) k λj q o=>?_,ct hr T k (by omega) (λ_ _=>rfl) b w];cases hDj:D j with
   |true=>rfl
   |false=>exact absurd B ((r j q hDj).blkW i b hk o).2
   by_cases n:j=k;simp_all;cases hDj:D j with
   |false=>rfl
   |true=>exact absurd B ((h j (by omega) e hDj).blkR i b hk o)
   rw[kS (by have:=ha.len;omega),kS (by have:=QC hr k (by omega);omega)]
 refine⟨by grind [JDP],?_,?_,?_⟩;intro m;have x:lk m (put i.dst (eff k) s).env=if i.dst=some m then some (eff k).val else lk m s.env:=(by unfold put;grind [lk])
 rw[x,ha.slot m];by_cases C:i.dst=some m;rw[if_pos C];rw[RL ins.length (k:=k+1) (by omega) λj v e o=>?_];grind [pL];have n:j≠k:=by omega
 simp only[if_neg n];cases hDj:D j with
 |false=>rfl
 |true=>have:=(h j (by omega) e hDj).slotW i _ m hk (g j e) C;simp_all
 grind [ia];have:(put i.dst (eff k) s).sto=upd (eff k).ws s.sto:=by unfold put;split<;>rfl
 rw[this,zY,ha.len];intro b w;have:(put i.dst (eff k) s).sto=upd (eff k).ws s.sto:=by unfold put;split<;>rfl
 rw[this,wZ _ _ _ (by rw[ha.len];exact w),ha.blk b w];by_cases A:b∈(eff k).ws.map (·.1);obtain⟨y,G⟩:=vg A;simp only[G];rw[QQ (D:=λj=>if j=k then true else D j) ins.length (k:=k+1) (by omega) λj v e o=>?_];grind [nW];have n:j≠k:=by omega
 simp only[if_neg n];cases hDj:D j with
 |false=>rfl
 |true=>exact absurd o ((h j (by omega) e hDj).blkW _ b (g j e) A).1
 grind [xL,gm]
theorem G1:Agree ins eff (S 0) (λ_=>false) (S 0):=by
 refine⟨λm=>?_,rfl,λb _=>?_⟩;rw[RL ins.length (k:=0) (zQ2 _) λ_ _ _ _=>rfl];rfl;rw[QQ ins.length (k:=0) (zQ2 _) λ_ _ _ _=>rfl];rfl
theorem JDi(hr:Run F ins new S eff){D:Nat->Bool}{s:St}(ha:Agree ins eff (S 0) D s)(hD: ∀j,j<ins.length->D j=true):
  (∀m,lk m s.env=lk m (S ins.length).env)/\s.sto=(S ins.length).sto:=by
 refine⟨λm=>by rw[ha.slot m,gc hr D _ (zQ0 _) hD m],zQ6 λb=>?_⟩;by_cases e:b<(S 0).sto.length;rw[ha.blk b e,ct hr D _ (zQ0 _) hD b e];rw[kS (by have:=ha.len;omega),kS (by have:=QC hr _ (zQ0 _);omega)]
end
end Go.Am
end
section
namespace Go.Am
def oSl:Opd->List Nat| .t n=>[n]| .c _=>[]
def iN:List Opd->List Nat|[]=>[]|x::r=>oSl x++iN r
def VI:Option Opd->List Nat|none=>[]|some x=>oSl x
def dN:AOp->List Nat| .mv x| .box _ x| .appn _ _ _ x| .load _ _ x| .nilchk x| .un _ x| .conv _ x| .faddr _ x| .field _ _ _ x| .extr x _| .len _ x=>oSl x| .mkarr _ _| .newbox _| .alen _=>[]| .pick c a b=>oSl c++(oSl a++oSl b)| .build _ parts=>iN (parts.map (·.2.2))| .lits _ _ _ _ parts=>iN (parts.map (·.2))| .store _ x v=>oSl x++oSl v| .bin _ _ x y| .iaddr _ x y| .aaddr _ _ x y| .sidx x y| .aidx _ _ _ x y| .app _ _ _ x y| .appz _ _ _ x y| .appc _ _ _ x y| .mm _ x y| .mkslice _ _ _ _ x y=>oSl x++oSl y| .slice _ x lo hi mx=>oSl x++(VI lo++(VI hi++VI mx))| .call _ args _=>iN args| .callv g args _=>oSl g++iN args| .mkfn _ a b=>iN a++iN b| .newboxo _ _=>[]| .buildo _ parts _=>iN (parts.map (·.2.2))| .storen _ x=>oSl x| .callo _ _ args _=>iN args
def xF(i:cD):List Nat:=dN i.op++match i.g with|some (g,_)=>[g]|none=>[]
def yL:AOp->Bool| .mkarr _ _| .newbox _| .box _ _| .lits _ _ _ _ _| .store _ _ _| .conv (.toBytes _) _| .mkslice _ _ _ _ _ _| .slice (.sl _) _ _ _ _| .call _ _ _| .callv _ _ _| .app _ _ _ _ _| .appz _ _ _ _ _| .appc _ _ _ _ _| .appn _ _ _ _| .newboxo _ _| .buildo _ _ _| .storen _ _| .callo _ _ _ _=>true|_=>false
def ID:AOp->Bool| .load _ _ _| .iaddr _ _ _| .conv .toStr _=>true|op=>yL op
def Sl{α:Type}(L:List Nat)(m:RM α):Prop:= ∀s n,Loc.slot n∈m.reads s->n∈L
section
variable {α β:Type} {L:List Nat}
theorem bF(a:α):Sl L (.ret a):=λs n h=>by grind [RM.reads]
theorem cT:Sl L (.fail:RM α):=λs n h=>by grind [RM.reads]
theorem rV{b:Nat}{k:Blk->RM α}(h: ∀v,Sl L (k v)):Sl L (.blk b k):=λs n e=>by
 simp only[RM.reads,eR]at e;rcases e with e|e;cases e;split at e;exact h _ s n e;simp at e
theorem Eg{m:Nat}{k:AV->RM α}(hm:m∈L)(h: ∀v,Sl L (k v)):Sl L (.slot m k):=λs n e=>by
 simp only[RM.reads,eR]at e;rcases e with e|e;simp_all;split at e;exact h _ s n e;simp at e
theorem Jy{m:RM α}{f:α->RM β}(h:Sl L m)(hf: ∀a,Sl L (f a)):Sl L (m.bind f):=λs n e=>by
 rw[xM,cK]at e;rcases e with e|e;exact h s n e;cases hr:m.run s with
 |none=>simp[hr]at e
 |some a=>simp[hr]at e;exact hf a s n e
theorem JI7{L':List Nat}{m:RM α}(h:Sl L m)(hl: ∀x∈L,x∈L'):Sl L' m:=λs n e=>hl n (h s n e)
theorem XL{c:Prop} [Decidable c]{x y:RM α}(hx:Sl L x)(hy:Sl L y):Sl L (if c then x else y):=by grind
end
theorem cL{L:List Nat}(x:Opd)(h: ∀n∈oSl x,n∈L):Sl L (ev x):=by
 cases x with
 |t n=>exact Eg (h n (by simp[oSl])) λv=>bF v
 |c v=>exact bF v
theorem ET{L:List Nat}: ∀(xs:List Opd),(∀n∈iN xs,n∈L)->Sl L (evs xs)|[],_=>bF _|x::xs,h=>Jy (cL x λn e=>h n (by simp[iN,e])) λv=>Jy (ET xs λn e=>h n (by simp[iN,e])) λvs=>bF _
theorem XW{L:List Nat}(x:Option Opd)(h: ∀n∈VI x,n∈L):Sl L (evo x):=by
 cases x with
 |none=>exact bF _
 |some x=>exact Jy (cL x h) λv=>bF _
theorem oI{L:List Nat}(x:Option AV):Sl L (val x):=by cases x<;>first|exact cT|exact bF _
theorem JJy{L:List Nat}(x:AV):Sl L (fz.fz1 x):=by
 cases x<;>try exact cT
 exact bF _;refine rV λv=>?_;grind [cT,bF]
theorem D4{L:List Nat}: ∀(xs:List AV),Sl L (fz.fzL xs)|[]=>bF _|x::xs=>Jy (JJy x) λ_=>Jy (D4 xs) λ_=>bF _
theorem KJ{L:List Nat}(x:AV):Sl L (fz x):=by
 cases x<;>try first|exact cT|exact bF _
 exact D4 _;refine rV λv=>?_;grind [cT,bF]
theorem Dn{L:List Nat}: ∀(xs:List Opd),(∀n∈iN xs,n∈L)->Sl L (fzs xs)|[],_=>bF _|x::xs,h=>Jy (cL x λn e=>h n (by simp[iN,e])) λv=>Jy (KJ v) λ_=>Jy (Dn xs λn e=>h n (by simp[iN,e])) λ_=>bF _
theorem RX{L:List Nat}(esz:Nat)(x:AV):Sl L (dH esz x):=by
 unfold dH;grind [bF,cT,rV]
theorem JEH{L:List Nat}(agg:Bool)(size:Nat)(x:AV):Sl L (gX agg size x):=by
 unfold gX;split
 all_goals grind [oI,cT,rV]
theorem ug{L:List Nat}(size:Nat)(x v:AV):Sl L (iS size x v):=by
 unfold iS;split;grind [rV,cT,bF];refine rV λv=>?_;grind [cT,Jy,KJ,bF];simp[cT]
theorem JDc{L:List Nat}(esz:Nat)(x i:AV):Sl L (mV esz x i):=by
 unfold mV;grind [cT,bF,rV]
theorem E1{L:List Nat}(esz bytes:Nat)(x y:AV):Sl L (iX esz bytes x y):=by
 unfold iX;grind [rV,cT,Jy,RX,bF]
theorem PZ{L:List Nat}(ws:List (Nat×Blk))(b:Nat):Sl L (qW ws b):=
 rV λv=>by grind [bF]
theorem FC{L:List Nat}(ws:List (Nat×Blk)): ∀(es acc:List Ent),Sl L (eN ws es acc)
 |[],acc=>bF _
 | .whole b::r,acc=>Jy (PZ ws b) λv=>by cases v<;>exact FC ws r _
 | .elem b e i::r,acc=>FC ws r acc
theorem ZH{L:List Nat}(x:AV):Sl L (jJ x):=by
 cases x<;>try first|exact cT|exact bF _
 exact Jy (KJ _) λ_=>bF _;refine Jy (KJ _) λa=>?_;grind [bF,cT]
theorem sk{L:List Nat}: ∀(xs:List AV),Sl L (kT xs)|[]=>bF _|x::xs=>Jy (ZH x) λ_=>Jy (sk xs) λ_=>bF _
theorem JGl{L:List Nat}(ws:List (Nat×Blk))(ρ:Ent->Option Nat)(e:Ent):Sl L (zL ws ρ e):=by
 cases e with
 |whole b=>
  refine Jy (PZ ws b) λv=>?_;grind [cT,bF]
 |elem b e i=>
  refine Jy (PZ ws b) λv=>?_;grind [cT,bF]
theorem gg{L:List Nat}(ws:List (Nat×Blk))(ρ:Ent->Option Nat): ∀(es:List Ent),Sl L (lA ws ρ es)|[]=>bF _|e::r=>Jy (JGl ws ρ e) λ_=>Jy (gg ws ρ r) λ_=>bF _
theorem JDe{L:List Nat}(ws:List (Nat×Blk))(es:List Ent)(new:Nat)(e:Ent)(x:Blk):Sl L (tY ws es new e x):=by
 unfold tY;grind [bF,cT,Jy,PZ]
theorem g8{L:List Nat}(ws:List (Nat×Blk))(es:List Ent)(new:Nat): ∀(e:List Ent) (x:List Blk),Sl L (jB ws es new e x)|[],_=>bF _|_::_,[]=>cT|e::r,x::l=>Jy (JDe ws es new e x) λ_=>Jy (g8 ws es new r l) λ_=>bF _
theorem rh{L:List Nat}(F:Orc)(f:FuncId)(args:List AV)(k new:Nat):Sl L (iQ F f args k new):=by
 unfold iQ;refine Jy (sk _) λa=>Jy (FC _ _ _) λe=>Jy (FC _ _ _) λes=>XL ?_ cT;split
 all_goals grind [cT,Jy,gg,g8,bF]
theorem JDh{L:List Nat}(F:Orc)(f:FuncId)(a:List AV×List (Nat×Blk))(k new:Nat):Sl L (gH F f a k new):=by
 unfold gH;refine Jy (FC _ _ _) λe=>Jy (FC _ _ _) λes=>XL ?_ cT;split
 all_goals grind [cT,Jy,gg,g8,bF]
theorem RB{L:List Nat}: ∀(m:List Bool) (xs:List AV),Sl L (fR m xs)
 |_,[]=>by cases ‹List Bool›<;>exact bF _
 |[],x::xs=>Jy (ZH x) λ_=>Jy (RB [] xs) λ_=>bF _
 |true::m,x::xs=>Jy (RB m xs) λ_=>bF _
 |false::m,x::xs=>Jy (ZH x) λ_=>Jy (RB m xs) λ_=>bF _
theorem gq{L:List Nat}: ∀(xs:List (Nat×Nat×Opd)),(∀n∈iN (xs.map (·.2.2)),n∈L)->Sl L (kY xs)
 |[],_=>bF _
 |(a,b,x)::xs,h=>by
  unfold kY;refine Jy (cL x λn e=>h n (by simp[iN,e])) λv=>?_;split;exact Jy (gq xs λn e=>h n (by simp[iN,e])) λ_=>bF _;simp[cT]
theorem JJC(F:Orc)(op:AOp)(new:Nat):Sl (dN op) (opR F op new):=by
 cases op with
 |mv x=>exact Jy (cL x λn h=>h) λv=>bF _
 |mkarr=>exact bF _
 |appn esz bytes zero y=>exact Jy (cL y λn h=>h) λv=>Jy (RX _ _) λ_=>XL (bF _) cT
 |pick c a b=>
  refine Jy (cL c λn h=>by grind [dN]) λv=>?_;grind [Jy,cL,dN,bF,cT]
 |newbox=>exact bF _
 |box size x=>
  refine Jy (cL x λn h=>h) λv=>?_;grind [bF,cT]
 |build zero parts=>
  refine Jy (gq parts λn h=>h) λv=>?_;grind [oI,cT]
 |lits own esz n zero parts=>
  refine Jy (Dn _ λn h=>h) λv=>?_;grind [bF,cT]
 |load agg size x=>exact Jy (cL x λn h=>h) λv=>JEH _ _ _
 |store size x y=>exact Jy (cL x λn h=>by grind [dN]) λv=>Jy (cL y λn h=>by grind [dN]) λ_=>ug _ _ _
 |nilchk x=>
  refine Jy (cL x λn h=>h) λv=>?_;grind [bF,cT]
 |bin op t x y=>exact Jy (cL x λn h=>by grind [dN]) λv=>Jy (cL y λn h=>by grind [dN]) λ_=>oI _
 |un op x=>exact Jy (cL x λn h=>h) λv=>oI _
 |conv k x=>
  refine Jy (cL x λn h=>h) λv=>?_;grind [bF,Jy,RX,cT]
 |mkslice own esz bytes zero x y=>
  refine Jy (cL x λn h=>by grind [dN]) λv=>Jy (cL y λn h=>by grind [dN]) λu=>?_;grind [bF,cT]
 |slice k x lo hi mx=>
  refine Jy (cL x λn h=>by grind [dN]) λv=>Jy (XW lo λn h=>by grind [dN]) λ_=>Jy (XW hi λn h=>by grind [dN]) λ_=>Jy (XW mx λn h=>by grind [dN]) λ_=>?_;grind [Jy,KJ,bF,cT,oI]
 |faddr off x=>exact Jy (cL x λn h=>h) λv=>oI _
 |field agg off size x=>exact Jy (cL x λn h=>h) λv=>oI _
 |iaddr esz x y=>exact Jy (cL x λn h=>by grind [dN]) λv=>Jy (cL y λn h=>by grind [dN]) λ_=>JDc _ _ _
 |aaddr len esz x y=>exact Jy (cL x λn h=>by grind [dN]) λv=>Jy (cL y λn h=>by grind [dN]) λ_=>oI _
 |sidx x y=>
  refine Jy (cL x λn h=>by grind [dN]) λv=>Jy (cL y λn h=>by grind [dN]) λu=>?_;grind [cT,bF]
 |aidx agg len esz x y=>
  refine Jy (cL x λn h=>by grind [dN]) λv=>Jy (cL y λn h=>by grind [dN]) λu=>?_;grind [oI,cT]
 |extr x i=>exact Jy (cL x λn h=>h) λv=>oI _
 |call f args k=>exact Jy (ET args λn h=>h) λv=>rh _ _ _ _ _
 |callv g args k=>
  refine Jy (cL g λn h=>by grind [dN]) λv=>?_;grind [cT,Jy,ET,dN,rh]
 |len str x=>exact Jy (cL x λn h=>h) λv=>oI _
 |alen n=>exact bF _
 |appz esz bytes zero x y=>
  refine Jy (cL x λn h=>by grind [dN]) λv=>Jy (cL y λn h=>by grind [dN]) λc=>?_;grind [E1,cT]
 |appc esz bytes zero x y=>
  refine Jy (cL x λn h=>by grind [dN]) λv=>Jy (cL y λn h=>by grind [dN]) λc=>?_;unfold IE;grind [Jy,RX,bF,cT]
 |app esz bytes zero x y=>exact Jy (cL x λn h=>by grind [dN]) λv=>Jy (cL y λn h=>by grind [dN]) λ_=>E1 _ _ _ _
 |mm mx x y=>exact Jy (cL x λn h=>by grind [dN]) λv=>Jy (cL y λn h=>by grind [dN]) λ_=>oI _
 |mkfn f a b=>exact Jy (ET a λn h=>by grind [dN]) λv=>Jy (ET b λn h=>by grind [dN]) λ_=>bF _
 |newboxo=>exact bF _
 |buildo zero parts os=>
  refine Jy (gq parts λn h=>h) λv=>?_;grind [bF,cT]
 |storen esz x=>exact Jy (cL x λn h=>h) λv=>Jy (ug _ _ _) λ_=>bF _
 |callo f keep args k=>exact Jy (ET args λn h=>h) λv=>Jy (RB _ _) λ_=>JDh _ _ _ _ _
theorem sm{L:List Nat}: ∀(k new:Nat),Sl L (tR new k)|0,_=>bF _|k+1,new=>rV λv=>by cases v<;>first|exact sm k _|exact cT
theorem oy(F:Orc)(i:cD)(new:Nat):Sl (xF i) (cE F i new):=by
 have h:Sl (xF i) (opD F i.op new):=Jy (sm _ _) λ_=>JI7 (JJC F i.op new) λx e=>by grind [xF]
 grind [cE,Eg,xF,bF,cT]
end Go.Am
end
section
namespace Go.Am
def W0(m:RM Eff):Prop:= ∀s e,m.run s=some e->e.ws=[]
def B0{α:Type}(m:RM α):Prop:= ∀s e,m.run s=some e-> ∀b,Loc.blk b∉m.reads s
theorem oL(x:Option AV):W0 (val x):=λs e h=>by cases x<;>grind [val,RM.run]
theorem pU(v:AV):W0 (.ret ⟨v,[]⟩):=λs e h=>by grind [RM.run]
theorem sA:W0 .fail:=λs e h=>by cases h
theorem eA{α:Type}{m:RM α}{f:α->RM Eff}(h: ∀a,W0 (f a)):W0 (m.bind f):=λs e g=>by
 rw[run_bind]at g;cases hm:m.run s with
 |none=>simp_all
 |some a=>rw[hm]at g;exact h a s e g
theorem Dx{b:Nat}{k:Blk->RM Eff}(h: ∀v,W0 (k v)):W0 (.blk b k):=λs e g=>by
 simp only[RM.run]at g;split at g;exact h _ s e g;cases g
theorem JHT{g:Nat}{k:AV->RM Eff}(h: ∀v,W0 (k v)):W0 (.slot g k):=λs e j=>by
 simp only[RM.run]at j;split at j;exact h _ s e j;cases j
theorem iR{α:Type}(a:α):B0 (.ret a):=λs e _ b h=>by grind [RM.reads]
theorem uC{α:Type}:B0 (.fail:RM α):=λs e h=>by cases h
theorem qA(x:Option AV):B0 (val x):=by cases x<;>first|exact uC|exact iR _
theorem dV{α β:Type}{m:RM α}{f:α->RM β}(hm:B0 m)(h: ∀a,B0 (f a)):B0 (m.bind f):=λs e j b g=>by
 rw[run_bind]at j;rw[xM]at g;cases hr:m.run s with
 |none=>simp_all
 |some a=>
  rw[hr]at j g;rcases cK.1 g with g|g;exact hm s a hr b g;exact h a s e j b (by simpa using g)
theorem fG(x:Opd):B0 (ev x):=by
 cases x with
 |t n=>exact λs e _ b h=>by grind [ev,RM.reads]
 |c v=>exact iR _
theorem JIA{α:Type}{g:Nat}{k:AV->RM α}(h: ∀v,B0 (k v)):B0 (.slot g k):=λs e n b j=>by
 simp only[RM.run]at n;simp only[RM.reads,eR]at j;rcases j with j|j;cases j;cases hl:lk g s.env with
 |none=>simp_all
 |some v=>rw[hl]at n j;exact h v s e n b j
theorem YT: ∀xs:List Opd,B0 (evs xs)|[]=>iR _|x::xs=>dV (fG x) λ_=>dV (YT xs) λ_=>iR _
theorem XO(x:Option Opd):B0 (evo x):=by
 cases x with
 |none=>exact iR _
 |some x=>exact dV (fG x) λ_=>iR _
theorem uo: ∀(xs:List (Nat×Nat×Opd)),B0 (kY xs)
 |[]=>iR _
 |(a,b,x)::xs=>by
  unfold kY;refine dV (fG x) λv=>?_;split;exact dV (uo xs) λ_=>iR _;simp[uC]
theorem pc(lo hi mx:Option AV)(c:PV)(hc: ∀l,c≠.s l):kZ .str (.p c) lo hi mx=none:=by
 cases mx with
 |some _=>rfl
 |none=>cases c<;>first|rfl|simp_all
theorem JJh(F:Orc)(op:AOp)(new:Nat)(h:yL op=false):W0 (opR F op new):=by
 cases op with
 |mkarr=>cases h
 |newboxo=>cases h
 |buildo=>cases h
 |storen=>cases h
 |callo=>cases h
 |newbox=>cases h
 |box=>cases h
 |lits=>cases h
 |store=>cases h
 |mkslice=>cases h
 |call=>cases h
 |callv=>cases h
 |app=>cases h
 |appz=>cases h
 |appc=>cases h
 |appn=>cases h
 |mv x=>exact eA λ_=>pU _
 |pick c a b=>
  refine eA λv=>?_;grind [eA,pU,sA]
 |build zero parts=>
  refine eA λv=>?_;grind [oL,sA]
 |load agg size x=>
  refine eA λv=>?_;unfold gX;split
  all_goals grind [oL,sA,Dx]
 |nilchk x=>
  refine eA λv=>?_;grind [pU,sA]
 |bin op t x y=>exact eA λ_=>eA λ_=>oL _
 |un op x=>exact eA λ_=>oL _
 |conv k x=>
  refine eA λv=>?_;split;exact pU _;exact pU _;grind [eA,pU,sA];cases h;simp[sA]
 |slice k x lo hi mx=>
  cases k with
  |sl esz=>cases h
  |str=>
   refine eA λv=>eA λ_=>eA λ_=>eA λ_=>?_;split;rename_i b i n;intro s e g;exfalso;rw[run_bind]at g;cases h1:(fz (.slr b i n)).run s<;>grind [fz,RM.run,pc]
   simp[oL]
 |faddr off x=>exact eA λ_=>oL _
 |field agg off size x=>exact eA λ_=>oL _
 |iaddr esz x y=>
  refine eA λv=>eA λu=>?_;unfold mV;grind [sA,pU,Dx]
 |aaddr len esz x y=>exact eA λ_=>eA λ_=>oL _
 |sidx x y=>
  refine eA λv=>eA λu=>?_;grind [sA,pU]
 |aidx agg len esz x y=>
  refine eA λv=>eA λu=>?_;grind [oL,sA]
 |extr x i=>exact eA λ_=>oL _
 |len str x=>exact eA λ_=>oL _
 |alen n=>exact pU _
 |mm mx x y=>exact eA λ_=>eA λ_=>oL _
 |mkfn f a b=>exact eA λ_=>eA λ_=>pU _
theorem JJW(F:Orc)(op:AOp)(new:Nat)(h:ID op=false):B0 (opR F op new):=by
 cases op with
 |mkarr=>cases h
 |newboxo=>cases h
 |buildo=>cases h
 |storen=>cases h
 |callo=>cases h
 |newbox=>cases h
 |box=>cases h
 |lits=>cases h
 |store=>cases h
 |mkslice=>cases h
 |call=>cases h
 |callv=>cases h
 |app=>cases h
 |appz=>cases h
 |appc=>cases h
 |appn=>cases h
 |load=>cases h
 |iaddr=>cases h
 |mv x=>exact dV (fG x) λ_=>iR _
 |pick c a b=>
  refine dV (fG c) λv=>?_;grind [dV,fG,iR,uC]
 |build zero parts=>
  refine dV (uo parts) λv=>?_;grind [qA,uC]
 |nilchk x=>
  refine dV (fG x) λv=>?_;grind [iR,uC]
 |bin op t x y=>exact dV (fG x) λ_=>dV (fG y) λ_=>qA _
 |un op x=>exact dV (fG x) λ_=>qA _
 |conv k x=>
  refine dV (fG x) λv=>?_;split;exact iR _;exact iR _;cases h;cases h;simp[uC]
 |slice k x lo hi mx=>
  cases k with
  |sl esz=>cases h
  |str=>
   refine dV (fG x) λv=>dV (XO lo) λ_=>dV (XO hi) λ_=>dV (XO mx) λ_=>?_;split;rename_i b i n;intro s e g;exfalso;rw[run_bind]at g;cases h1:(fz (.slr b i n)).run s<;>grind [fz,RM.run,pc]
   simp[qA]
 |faddr off x=>exact dV (fG x) λ_=>qA _
 |field agg off size x=>exact dV (fG x) λ_=>qA _
 |aaddr len esz x y=>exact dV (fG x) λ_=>dV (fG y) λ_=>qA _
 |sidx x y=>
  refine dV (fG x) λv=>dV (fG y) λu=>?_;grind [uC,iR]
 |aidx agg len esz x y=>
  refine dV (fG x) λv=>dV (fG y) λu=>?_;grind [qA,uC]
 |extr x i=>exact dV (fG x) λ_=>qA _
 |len str x=>exact dV (fG x) λ_=>qA _
 |alen n=>exact iR _
 |mm mx x y=>exact dV (fG x) λ_=>dV (fG y) λ_=>qA _
 |mkfn f a b=>exact dV (YT a) λ_=>dV (YT b) λ_=>iR _
theorem C9{op:AOp}(h:ID op=false):yL op=false:=by
 cases op<;>first|rfl|cases h|skip
 rename_i k x;cases k<;>first|rfl|cases h
 rename_i k x lo hi mx;cases k<;>first|rfl|cases h
theorem JIl{op:AOp}(h:yL op=false):lR op=0:=by
 cases op<;>first|rfl|cases h|skip
 rename_i k x;cases k<;>first|rfl|cases h
theorem ZA(F:Orc)(i:cD)(new:Nat)(h:yL i.op=false):W0 (cE F i new):=by
 have h1:W0 (opD F i.op new):=eA λ_=>JJh F _ _ h;grind [cE,JHT,pU,sA]
theorem pt(F:Orc)(i:cD)(new:Nat)(h:ID i.op=false):B0 (cE F i new):=by
 have h1:B0 (opD F i.op new):=by unfold opD;rw[JIl (C9 h)];exact dV (iR _) λ_=>JJW F _ _ h
 grind [cE,JIA,iR,uC]
end Go.Am
end
section
namespace Go.Am
theorem bind_some{α β:Type}{m:RM α}{f:α->RM β}{s:St}{b:β}(h:(m.bind f).run s=some b): ∃a,m.run s=some a/\(f a).run s=some b:=by rw[run_bind]at h;cases hm:m.run s<;>simp_all
theorem hA{x:Option AV}{s:St}{e:Eff}(h:(val x).run s=some e): ∃v,x=some v/\e=⟨v,[]⟩:=by cases x<;>simp_all [val,RM.run]
theorem pe{w C c v}(h:okP c v=true):J0e w C c v:=by
 unfold okP at h;split at h;rename_i x y;have:x=y:=by simpa using h
 subst this;exact .b _;simp at h;obtain⟨rfl,rfl⟩:=h;exact .i _ _;rename_i l e;have:l=e.data.toList:=by simpa using h
 subst this;exact .s _;exact .sl0 _ _ _;exact .np;exact .nf;cases h
theorem RG{w C}: ∀{cs:List PV} {vs:List Value},yY cs vs=true->cs.length=vs.length/\ ∀(i:Nat) x v,cs[i]?=some x->vs[i]?=some v->J0e w C x v
 |[],[],_=>⟨rfl,λi x v h=>by simp at h⟩
 |x::xs,v::vs,h=>by
  simp only[yY,JZ]at h;obtain⟨h1,h2⟩:=RG (w:=w) (C:=C) h.2;grind [pe]
 |[],_::_,h=>by grind [yY]
 |_::_,[],h=>by grind [yY]
theorem JHt{s:Sn}{c v}(h:okC c v=true):JK s c v:=by
 unfold okC at h;split at h;exact .p _ _ (pe h);rename_i cs vs;obtain⟨h1,h2⟩:=RG (w:=s.w) (C:=s.g.C) h;exact .data _ _ (by simpa using h1) λi x v j e=>h2 i x v j (by simpa using e);rename_i f g a c;simp at h;obtain⟨⟨rfl,rfl⟩,rfl⟩:=h;exact .fn _ _ _ _ _ rfl rfl (λi x v h=>by simp at h) (λi x v h=>by simp at h);simp at h;subst h;exact .tup _ _ rfl (λi x v h=>by simp at h);cases h
def bT(s:Sn)(tmps:Array Value)(env:List (Nat×AV)):Prop:= ∀n x,lk n env=some x-> ∃v,tmps[n]?=some v/\JK s x v
theorem bT.mono{s0 s:Sn}(hi:Inv s0)(t:bE s0 s){tmps env}(h:bT s0 tmps env):bT s tmps env:=
 λn x e=>let⟨v,h1,h2⟩:=h n x e;⟨v,h1,h2.mono hi t⟩
section
variable {P:Program} {s:Sn} {a:Act} {env:List (Nat×AV)}
theorem bL(he:bT s a.tmps env){x:Opd}{y:Operand}{v:AV}(h:(ev x).run ⟨env,s.σ⟩=some v)(hc:bR x y=true):JK s v (a.eval y):=by
 cases x with
 |t n=>
  cases y<;>simp[bR]at hc;subst hc;simp only[ev,RM.run]at h;split at h
  rename_i u e;injection h with h;subst h;obtain⟨w,h1,h2⟩:=he _ _ e;simp_all [Act.eval];cases h
 |c z=>
  simp only[ev,RM.run]at h;injection h with h;subst h;cases y with
  |const u=>exact JHt (v:=u) (by grind [bR])
  |func g=>
   cases z<;>simp[bR]at hc;rename_i f first caps
   cases first<;>cases caps<;>simp[bR]at hc
   subst hc;exact .fn _ _ _ _ _ rfl rfl (λi x v h=>by simp at h) (λi x v h=>by simp at h)
  |tmp n=>grind [bR]
  |global n=>grind [bR]
theorem FJ(he:bT s a.tmps env): ∀{xs:List Opd} {e:List Operand} {vs:List AV},(evs xs).run ⟨env,s.σ⟩=some vs->iZ xs e=true->
  vs.length=e.length/\ ∀(i:Nat) x v,vs[i]?=some x->(e.map a.eval)[i]?=some v->JK s x v
 |[],[],vs,h,_=>by
  grind [evs,RM.run]
 |x::xs,y::e,vs,h,g=>by
  simp only[iZ,JZ]at g;simp only[evs]at h;obtain⟨u,h1,h⟩:=bind_some h;obtain⟨j,h2,h⟩:=bind_some h;simp only[RM.run]at h;injection h with h;subst h;obtain⟨l,r⟩:=FJ he h2 g.2;grind [bL]
 |[],_::_,_,_,g=>by grind [iZ]
 |_::_,[],_,_,g=>by grind [iZ]
def bS(P:Program)(o:Oper)(a:Act)(s:Sn)(e:Eff):Prop:= ∀(next:Act->World->Prop) (Q:Exit->Act->World->Prop),(∀v w' g',Inv ⟨upd e.ws s.σ,g',w'⟩->bE s ⟨upd e.ws s.σ,g',w'⟩->JK ⟨upd e.ws s.σ,g',w'⟩ e.val v->next (a.put o.dst v) w')->o.wp P a s.w next Q
theorem iF{o:Oper}{e:Eff}{v:Value}{w':World}{g':Gh}(hr:(execOp a.eval o).run P s.w=.ok (.value v) w')
  (hi:Inv ⟨upd e.ws s.σ,g',w'⟩) (t:bE s ⟨upd e.ws s.σ,g',w'⟩) (hv:JK ⟨upd e.ws s.σ,g',w'⟩ e.val v):bS P o a s e:=by
 intro next Q h;grind [Oper.wp,Oper.upon]
theorem JN{o:Oper}{x:AV}{v:Value}(hi:Inv s)(hr:(execOp a.eval o).run P s.w=.ok (.value v) s.w)(hv:JK s x v):bS P o a s ⟨x,[]⟩:=
 iF (e:=⟨x,[]⟩) (g':=s.g) hr hi (.refl s) hv
theorem xj{t:TypeId}{i:TypeInfo}(h:P.info? t=some i)(w:World):(typeInfo t).run P w=.ok i w:=by simp[typeInfo,h]
theorem kF{t:TypeId}{n:Nat}(h:szT P t=some n)(w:World):(sizeOf t).run P w=.ok n w:=by unfold szT at h;cases hi:P.info? t<;>simp_all [sizeOf,xj]
theorem FM{t:TypeId}{b:Bool}(h:agT P t=some b)(w:World):(isAgg t).run P w=.ok b w:=by
 unfold agT at h;cases hu:P.underlying t with
 |none=>simp_all
 |some d=>rw[hu]at h;simp at h;simp only[isAgg,yM,run_underlying hu,tL];subst h;cases d<;>rfl
theorem gZ{t e:TypeId}(h:elT P t=some e):P.underlying t=some (.slice e):=by
 grind [elT]
theorem xI{t:TypeId}(h:jS P t=true):P.underlying t=some .string:=by
 grind [jS]
theorem su{t:TypeId}(h:UL P t=true):P.underlying t=some (.int .u8):=by
 grind [UL]
theorem Ij{t:TypeId}(h:YV P t=true):P.underlying t=some .bool:=by
 grind [YV]
theorem JDo{t:TypeId}(h:nd P t=true): ∃k,P.underlying t=some (.int k):=by
 grind [nd]
theorem JCz{t:TypeId}{k:IntKind}(h:YK P k t=true):P.underlying t=some (.int k):=by
 grind [YK]
theorem fa{t e:TypeId}{n:Nat}(h:arT P t=some (n,e)):P.underlying t=some (.array n e):=by
 grind [arT]
theorem r8{t:TypeId}{fs:Array Field}(h:flT P t=some fs):P.underlying t=some (.struct fs):=by
 grind [flT]
theorem jA{x k n}(h:JK s (.p (.i k n)) x):x=.int k n:=by cases h with|p _ _ h=>cases h;rfl
theorem PO{x n}(h:JK s (.p (.b n)) x):x=.bool n:=by cases h with|p _ _ h=>cases h;rfl
theorem tX{x l}(h:JK s (.p (.s l)) x):x=.string ⟨l.toArray⟩:=by cases h with|p _ _ h=>cases h;rfl
theorem JHk{x}(h:JK s (.p .np) x):x=.pointer none:=by cases h with|p _ _ h=>cases h;rfl
theorem JII{x}(h:JK s (.p .nf) x):x=.nilFunc:=by cases h with|p _ _ h=>cases h;rfl
theorem qB(k n):JK s (.p (.i k n)) (.int k n):=.p _ _ (.i _ _)
theorem qD(n):JK s (.p (.b n)) (.bool n):=.p _ _ (.b _)
theorem pn(l):JK s (.p (.s l)) (.string ⟨l.toArray⟩):=.p _ _ (.s _)
theorem uF(l:List UInt8):ByteArray.size ⟨l.toArray⟩=l.length:=by simp[ByteArray.size]
theorem JDH(l m:List UInt8):(⟨l.toArray⟩:ByteArray)++⟨m.toArray⟩=⟨(l++m).toArray⟩:=by apply ByteArray.ext;simp_all
theorem Ik{op:BinOp}{k:IntKind}{x y:Int}{t:TypeId}{r:PV}(n:op≠.shl)(j:op≠.shr)(h:yH op k x y=some r)(w:World):
  ∃v,(binOp op t (.int k x) (.int k y)).run P w=.ok v w/\J0e s.w s.g.C r v:=by
 cases op<;>simp only[yH]at h
 case add=>injection h with h;subst h;exact⟨_,by simp[binOp,Op.intArith],.i _ _⟩
 case sub=>injection h with h;subst h;exact⟨_,by simp[binOp,Op.intArith],.i _ _⟩
 case mul=>injection h with h;subst h;exact⟨_,by simp[binOp,Op.intArith],.i _ _⟩
 case quo=>split at h
           cases h;rename_i e;injection h with h;subst h;exact⟨_,by simp[binOp,Op.intDiv,e],.i _ _⟩
 case rem=>split at h
           cases h;rename_i e;injection h with h;subst h;exact⟨_,by simp[binOp,Op.intDiv,e],.i _ _⟩
 case and=>injection h with h;subst h;exact⟨_,by simp[binOp,Op.intBits],.i _ _⟩
 case or=>injection h with h;subst h;exact⟨_,by simp[binOp,Op.intBits],.i _ _⟩
 case xor=>injection h with h;subst h;exact⟨_,by simp[binOp,Op.intBits],.i _ _⟩
 case eql=>injection h with h;subst h;exact⟨_,by simp[binOp,Op.intCmp],.b _⟩
 case neq=>injection h with h;subst h;exact⟨_,by simp[binOp,Op.intCmp],.b _⟩
 case lss=>injection h with h;subst h;exact⟨_,by simp[binOp,Op.intCmp],.b _⟩
 case leq=>injection h with h;subst h;exact⟨_,by simp[binOp,Op.intCmp],.b _⟩
 case gtr=>injection h with h;subst h;exact⟨_,by simp[binOp,Op.intCmp],.b _⟩
 case geq=>injection h with h;subst h;exact⟨_,by simp[binOp,Op.intCmp],.b _⟩
 all_goals simp_all
theorem xv{op:BinOp}{k k':IntKind}{x y:Int}{t:TypeId}{r:PV}(hs:op=.shl\/op=.shr)(h:KY op k x y=some r)(w:World):
  ∃v,(binOp op t (.int k x) (.int k' y)).run P w=.ok v w/\J0e s.w s.g.C r v:=by
 unfold KY at h;split at h;cases h;rename_i e;rcases hs with rfl|rfl;injection h with h;subst h;exact⟨_,by simp[binOp,Op.shift,e],.i _ _⟩;injection h with h;subst h;exact⟨_,by simp[binOp,Op.shift,e],.i _ _⟩
theorem G4{op:BinOp}{x y:List UInt8}{t:TypeId}{r:PV}(h:yR op x y=some r)(w:World):
  ∃v,(binOp op t (.string ⟨x.toArray⟩) (.string ⟨y.toArray⟩)).run P w=.ok v w/\J0e s.w s.g.C r v:=by
 cases op<;>simp only[yR]at h
 case add=>
  split at h;rename_i e;injection h with h;subst h;refine⟨.string ⟨(x++y).toArray⟩,?_,.s _⟩;have h1: ¬(((ByteArray.size ⟨x.toArray⟩+ByteArray.size ⟨y.toArray⟩:Nat):Int)>IntKind.i64.max):=by rw[uF,uF];show¬(_>(9223372036854775807:Int));omega
  simp_all [binOp,Op.stringOp,JDH];cases h
 case eql=>injection h with h;subst h;exact⟨.bool (x==y),by simp[binOp,Op.stringOp],.b _⟩
 case neq=>injection h with h;subst h;exact⟨.bool (!(x==y)),by simp[binOp,Op.stringOp],.b _⟩
 case lss=>injection h with h;subst h;exact⟨.bool (Op.bytesLess x y),by simp[binOp,Op.stringOp],.b _⟩
 case leq=>injection h with h;subst h;exact⟨.bool (Op.bytesLess x y||x==y),by simp[binOp,Op.stringOp],.b _⟩
 case gtr=>injection h with h;subst h;exact⟨.bool (!(Op.bytesLess x y||x==y)),by simp[binOp,Op.stringOp],.b _⟩
 case geq=>injection h with h;subst h;exact⟨.bool (!Op.bytesLess x y),by simp[binOp,Op.stringOp],.b _⟩
 all_goals cases h
end
end Go.Am
end
section
namespace Go.Am
section
variable {P:Program} {F:Orc} {s:Sn} {a:Act} {env:List (Nat×AV)} {o:Oper} {new:Nat} {e:Eff}
theorem JLi(hi:Inv s)(he:bT s a.tmps env){x}(h:(opR F (.mv x) new).run ⟨env,s.σ⟩=some e)(hc:JX P (.mv x) o.op=true):bS P o a s e:=by
 simp only[opR]at h;obtain⟨v,h1,h⟩:=bind_some h;simp only[RM.run]at h;injection h with h;subst h;unfold JX at hc;simp only at hc;split at hc;rename_i y g;exact JN hi (by simp_all [execOp]) (bL he h1 hc);rename_i y g;exact JN hi (by simp_all [execOp]) (bL he h1 hc);cases hc
theorem JHA(hi:Inv s)(he:bT s a.tmps env){c x y}(h:(opR F (.pick c x y) new).run ⟨env,s.σ⟩=some e)(hc:JX P (.pick c x y) o.op=true):bS P o a s e:=by
 simp only[opR]at h;obtain⟨v,h1,h⟩:=bind_some h;unfold JX at hc;simp only at hc;split at hc;rename_i c' k j n;simp only[JZ]at hc;split at h;rename_i b;have q:=PO (bL he h1 hc.1.1);split at h;rename_i g;obtain⟨u,h2,h⟩:=bind_some h;simp only[RM.run]at h;injection h with h;subst h;exact JN hi (v:=a.eval k) (by simp_all [execOp,asBool]) (bL he h2 hc.1.2);rename_i g;obtain⟨u,h2,h⟩:=bind_some h;simp only[RM.run]at h;injection h with h;subst h;have g:b=false:=by simpa using g
 exact JN hi (v:=a.eval j) (by simp_all [execOp,asBool]) (bL he h2 hc.2);grind [RM.run];cases hc
theorem JCX(hi:Inv s)(he:bT s a.tmps env){x}(h:(opR F (.nilchk x) new).run ⟨env,s.σ⟩=some e)(hc:JX P (.nilchk x) o.op=true):bS P o a s e:=by
 simp only[opR]at h;obtain⟨v,h1,h⟩:=bind_some h;unfold JX at hc;simp only at hc;split at hc;rename_i y k;have g:=bL he h1 hc;split at h<;>(simp only[RM.run]at h;try cases h)
 refine JN hi (v:=a.eval y) ?_ g;generalize j:a.eval y=u at g;cases g;simp_all [execOp];refine JN hi (v:=a.eval y) ?_ g;generalize j:a.eval y=u at g;cases g;simp_all [execOp];refine JN hi (v:=a.eval y) ?_ g;generalize j:a.eval y=u at g;cases g with
 |ep _ _ _ _ _ _ _ _ h0=>obtain⟨r,n,rfl⟩:=h0;simp_all [execOp]
 refine JN hi (v:=a.eval y) ?_ g;generalize j:a.eval y=u at g;cases g;simp_all [execOp];cases hc
theorem MS{op:BinOp}{t:TypeId}{x y:Operand}{u v:Value}(h:(∀c,u≠.agg c)/\u≠.nilIface)(w:World):(eqGuard op t x y u v).run P w=.ok () w:=by simp_all [eqGuard]
theorem I8(hi:Inv s)(he:bT s a.tmps env){op x y}(h:(opR F (.bin op .plain x y) new).run ⟨env,s.σ⟩=some e)(hc:JX P (.bin op .plain x y) o.op=true):bS P o a s e:=by
 simp only[opR]at h;obtain⟨u,h1,h⟩:=bind_some h;obtain⟨v,h2,h⟩:=bind_some h;obtain⟨r,h3,rfl⟩:=hA h;unfold JX at hc;simp only at hc;split at hc;rename_i L t A D ty K;simp only[JZ,beq_iff_eq]at hc;obtain⟨⟨rfl,J⟩,I⟩:=hc;have B:=bL he h1 J;have C:=bL he h2 I;have g: ∀{z:Value},(∀c,a.eval A≠.agg c)/\a.eval A≠.nilIface->(binOp op t (a.eval A) (a.eval D)).run P s.w=.ok z s.w->(execOp a.eval o).run P s.w=.ok (.value z) s.w:=by simp_all [execOp,MS]
 simp only[nV]at h3;split at h3;rename_i M p N q;rw[jA B,jA C]at g;split at h3;obtain⟨z,j,rfl⟩:=gM.1 h3;obtain⟨v,n,k⟩:=xv (s:=s) (P:=P) (t:=t) (.inl rfl) j s.w;exact JN hi (g (by simp) n) (.p _ _ k);obtain⟨z,j,rfl⟩:=gM.1 h3;obtain⟨v,n,k⟩:=xv (s:=s) (P:=P) (t:=t) (.inr rfl) j s.w;exact JN hi (g (by simp) n) (.p _ _ k);rename_i E G;split at h3;rename_i H;subst H;obtain⟨z,j,rfl⟩:=gM.1 h3;obtain⟨v,n,k⟩:=Ik (s:=s) (P:=P) (t:=t) (λe=>E e) (λe=>G e) j s.w;exact JN hi (g (by simp) n) (.p _ _ k);cases h3;rw[tX B,tX C]at g;obtain⟨z,j,rfl⟩:=gM.1 h3;obtain⟨v,n,k⟩:=G4 (s:=s) (P:=P) (t:=t) j s.w;exact JN hi (g (by simp) n) (.p _ _ k);cases h3;cases hc
theorem Gd(hi:Inv s)(he:bT s a.tmps env){op x y}(h:(opR F (.bin op .bool x y) new).run ⟨env,s.σ⟩=some e)(hc:JX P (.bin op .bool x y) o.op=true):bS P o a s e:=by
 simp only[opR]at h;obtain⟨u,h1,j⟩:=bind_some h;obtain⟨v,h2,g⟩:=bind_some j;obtain⟨r,h3,rfl⟩:=hA g;clear h j g;unfold JX at hc;simp only at hc;split at hc
 ·rename_i C t G E ty B;simp only[JZ,beq_iff_eq]at hc;obtain⟨⟨rfl,A⟩,z,k⟩:=hc;have n:=bL he h1 A;have w:=bL he h2 z;have I:=Ij k;simp only[nV]at h3;split at h3
  ·rename_i _ _ p q;have D:=PO n;have H:=PO w;cases op<;>simp only[jP]at h3<;>first|(injection h3 with h3;subst h3)|cases h3
   all_goals simp_all [JN,execOp,eqGuard,binOp,run_equal_bool,qD]
  cases h3
 cases hc
theorem SC{op:BinOp}{t:TypeId}{u v:Value}{b:Bool}(ho:op=.eql\/op=.neq){w:World}(h:(Op.equal t u v).run P w=.ok b w)
  (hu:(∃x n c,u=.slice x n c)\/(∃p,u=.pointer p/\v=.pointer none)\/u=.nilFunc\/(∃f y c,u=.func f y c)):
  (binOp op t u v).run P w=.ok (.bool (if op=.eql then b else !b)) w:=by
 rcases ho with rfl|rfl;have:binOp .eql t u v=(do pure (.bool (<-Op.equal t u v))):=(by grind [binOp]);simp_all;have:binOp .neq t u v=(do pure (.bool (!(<-Op.equal t u v)))):=(by grind [binOp]);simp_all
theorem uL{op:BinOp}{b:Bool}{r:AV}(h:jP op (some b)=some r):(op=.eql\/op=.neq)/\r=.p (.b (if op=.eql then b else !b)):=by
 cases op<;>simp[jP]at h
 all_goals simp_all
theorem ur{op:BinOp}{r:AV}(h:HU op=some r):(op=.eql\/op=.neq)/\r=.unk:=by
 cases op<;>simp[HU]at h
 all_goals simp_all
theorem Fh(hi:Inv s)(he:bT s a.tmps env){op x y}(h:(opR F (.bin op .nils x y) new).run ⟨env,s.σ⟩=some e)(hc:JX P (.bin op .nils x y) o.op=true):bS P o a s e:=by
 simp only[opR]at h;obtain⟨u,h1,E⟩:=bind_some h;obtain⟨v,h2,B⟩:=bind_some E;obtain⟨r,h3,rfl⟩:=hA B;clear h E B h2;unfold JX at hc;simp only at hc;split at hc;rename_i L t A G ty K;simp only[JZ,beq_iff_eq]at hc;obtain⟨⟨rfl,J⟩,q⟩:=hc;have D:=bL he h1 J;clear h1;have H:G=.const (.slice none 0 0)/\ ∃el,P.underlying t=some (.slice el):=(by unfold B8 at q;split at q;obtain⟨el,M⟩:=kh.1 q;simp_all [gZ];cases q);obtain⟨rfl,el,I⟩:=H;have go: ∀(z:Option Addr) (n c:Nat),a.eval A=.slice z n c->(op=.eql\/op=.neq)->
   (execOp a.eval o).run P s.w=.ok (.value (.bool (if op=.eql then z.isNone else !z.isNone))) s.w:=by
  intro z n c j g;have h1:=SC (P:=P) (t:=t) g (run_equal_slice_nil s.w t el z n c I) (.inl ⟨z,n,c,rfl⟩);simp_all [execOp,MS,Act.eval]
 simp only[nV]at h3;split at h3;rename_i esz rows;cases D with
 |p _ _ k=>
  split at h3;obtain⟨g,rfl⟩:=ur h3;generalize j:a.eval A=z at k;cases k with
  |sl0 _ C cap=>exact JN hi (go _ _ _ j g) (.unk _)
  |sl _ _ r O cap vals=>exact JN hi (go _ _ _ j g) (.unk _)
  obtain⟨g,rfl⟩:=uL h3;generalize j:a.eval A=z at k;cases k<;>simp_all [JN,qD]
 rename_i b i n;generalize j:a.eval A=z at D;cases D with
 |slr _ _ _ _ wm esz rows h0=>
  obtain⟨C,cap,rfl,Q⟩:=h0;split at h3;obtain⟨g,rfl⟩:=ur h3;exact JN hi (go _ _ _ j g) (.unk _);rename_i N;obtain⟨g,rfl⟩:=uL h3;have:C.isNone=false:=by cases C<;>simp_all
  grind [JN,qD]
 cases h3;cases hc
theorem G0(hi:Inv s)(he:bT s a.tmps env){op x y}(h:(opR F (.bin op .nilp x y) new).run ⟨env,s.σ⟩=some e)(hc:JX P (.bin op .nilp x y) o.op=true):bS P o a s e:=by
 simp only[opR]at h;obtain⟨u,h1,n⟩:=bind_some h;obtain⟨v,h2,k⟩:=bind_some n;obtain⟨r,h3,rfl⟩:=hA k;clear h n k h2;unfold JX at hc;simp only at hc;split at hc;rename_i G t q A ty E;simp only[JZ,beq_iff_eq]at hc;obtain⟨⟨rfl,D⟩,H⟩:=hc;have g:=bL he h1 D;clear h1;have C:A=.const (.pointer none)/\ ∃el,P.underlying t=some (.pointer el):=(by grind [Co]);obtain⟨rfl,el,I⟩:=C;have go: ∀(z:Option Addr),a.eval q=.pointer z->(op=.eql\/op=.neq)->
   (execOp a.eval o).run P s.w=.ok (.value (.bool (if op=.eql then z.isNone else !z.isNone))) s.w:=by
  intro z B j;have:P.pointee t=el:=by grind [Program.pointee]
  simp_all [SC,run_equal_pointer_nil,execOp,MS,Act.eval]
 simp only[nV]at h3;generalize B:a.eval q=z at g;split at h3;obtain⟨j,rfl⟩:=uL h3;grind [JHk,JN,qD];obtain⟨j,rfl⟩:=uL h3;cases g;grind [JN,qD];obtain⟨j,rfl⟩:=uL h3;cases g;grind [JN,qD];obtain⟨j,rfl⟩:=uL h3;cases g<;>grind [JN,qD]
 cases h3;cases hc
theorem Fk(hi:Inv s)(he:bT s a.tmps env){op x y}(h:(opR F (.bin op .nilf x y) new).run ⟨env,s.σ⟩=some e)(hc:JX P (.bin op .nilf x y) o.op=true):bS P o a s e:=by
 simp only[opR]at h;obtain⟨u,h1,n⟩:=bind_some h;obtain⟨v,h2,j⟩:=bind_some n;obtain⟨r,h3,rfl⟩:=hA j;clear h n j h2;unfold JX at hc;simp only at hc;split at hc;rename_i H t C B ty G;simp only[JZ,beq_iff_eq]at hc;obtain⟨⟨rfl,E⟩,I⟩:=hc;have k:=bL he h1 E;clear h1;have D:B=.const .nilFunc/\ ∃p r v,P.underlying t=some (.func p r v):=(by grind [Bb]);obtain⟨rfl,p,J,K,A⟩:=D;simp only[nV]at h3;generalize L:a.eval C=z at k;split at h3;obtain⟨q,rfl⟩:=uL h3;have:=JII k;subst this;have g:(Op.equal t .nilFunc .nilFunc).run P s.w=.ok true s.w:=by
  have: ∀d,(Op.equalIn (d+1) t .nilFunc .nilFunc).run P s.w=.ok true s.w:=λd=>by simp[Op.equalIn,run_underlying A]
  exact this 9999
 simp_all [SC,JN,qD,execOp,MS,Act.eval];obtain⟨q,rfl⟩:=uL h3;cases k;rename_i f _ _ fs cs _ _ _ _;have g:(Op.equal t (.func (.func f) fs cs) .nilFunc).run P s.w=.ok false s.w:=by
  have: ∀d,(Op.equalIn (d+1) t (.func (.func f) fs cs) .nilFunc).run P s.w=.ok false s.w:=λd=>by simp[Op.equalIn,run_underlying A]
  exact this 9999
 have h1:=SC (P:=P) (t:=t) q g (.inr (.inr (.inr ⟨_,_,_,rfl⟩)));simp_all [JN,qD,execOp,MS,Act.eval];cases h3;cases hc
end
end Go.Am
end
section
namespace Go.Am
theorem MY: ∀{vs:List Value} {w:World} {r o:Nat} {c:Array Value} {e:TypeId} {fz:Nat×Nat},w.heap[r]?=some (.cells c e fz)->o+vs.length<=c.size->
  Put r o vs w (w.setCells r o vs)
 |[],w,r,o,c,e,fz,h,n=>⟨⟨c,e,fz,c,h,h,rfl,n,λj v x=>by simp at x,λ_ _=>rfl⟩,λ_ _=>rfl,rfl,rfl,rfl⟩
 |v::vs,w,r,o,c,e,fz,h,n=>by
  have J:=SM h;have q:o+1+vs.length<=c.size:=by grind
  have h1:(w.setCell ⟨r,o,none⟩ v).heap[r]?=some (.cells (c.setIfInBounds o v) e fz):=(by grind [World.setCell]);obtain⟨⟨c1,K,D,c',g,z,y,F,E,G⟩,I,L,B,A⟩:=MY (vs:=vs) (o:=o+1) h1 (by simpa using q);rw[h1]at g;injection g with g;injection g with a1 a2 a3;subst a1 a2 a3;refine⟨⟨c,e,fz,c',h,z,by simpa using y,n,λj u x=>?_,λk H=>?_⟩,λr' C=>?_,?_,B,A⟩;grind;grind;show((w.setCell ⟨r,o,none⟩ v).setCells r (o+1) vs).heap[r']?=_;grind [World.setCell];show((w.setCell ⟨r,o,none⟩ v).setCells r (o+1) vs).heap.size=_;simp_all
theorem J0e.one{w C x v}(h:J0e w C x v):v.oneCell'=true:=by cases h<;>rfl
theorem J0e.cells1{w C x v}(h:J0e w C x v):v.cells= #[v]:=by cases h<;>rfl
section
variable {P:Program} {F:Orc} {s:Sn} {a:Act} {env:List (Nat×AV)} {o:Oper} {new:Nat} {e:Eff}
theorem JL4(hi:Inv s)(he:bT s a.tmps env){op x}(h:(opR F (.un op x) new).run ⟨env,s.σ⟩=some e)(hc:JX P (.un op x) o.op=true):bS P o a s e:=by
 simp only[opR]at h;obtain⟨u,h1,j⟩:=bind_some h;obtain⟨r,h3,rfl⟩:=hA j;clear h j;unfold JX at hc;simp only at hc;split at hc;rename_i A t y w;simp only[JZ,beq_iff_eq]at hc;obtain⟨rfl,q⟩:=hc;have g:=bL he h1 q;clear h1;generalize B:a.eval y=z at g;unfold unP at h3;split at h3<;>first|(injection h3 with h3;subst h3)|cases h3
 rename_i k n;have:=jA g;simp_all [JN,execOp,Op.unary,Op.intArith,qB];rename_i k n;have:=jA g;simp_all [JN,execOp,Op.unary,Op.intBits,qB];rename_i b;have:=PO g;simp_all [JN,execOp,Op.unary,qD];cases g with
 |unk b=>exact JN hi (v:=.bool (!b)) (by simp_all [execOp,Op.unary]) (.unk _)
 cases hc
theorem JFg(hi:Inv s)(he:bT s a.tmps env){off x}(h:(opR F (.faddr off x) new).run ⟨env,s.σ⟩=some e)(hc:JX P (.faddr off x) o.op=true):bS P o a s e:=by
 simp only[opR]at h;obtain⟨u,h1,B⟩:=bind_some h;obtain⟨r,h3,rfl⟩:=hA B;clear h B;unfold JX at hc;simp only at hc;split at hc;rename_i t y f G;simp only[JZ]at hc;obtain⟨E,K⟩:=hc;have k:=bL he h1 E;clear h1;have D: ∃fs j n,P.underlying t=some (.struct fs)/\fs[f]?=some j/\j.offset=off/\szT P j.type=some n/\n≠0:=(by grind [r8]);obtain⟨fs,j,n,M,H,rfl,N,I⟩:=D;have go: ∀(r g:Nat),a.eval y=.pointer (some ⟨r,g,none⟩)->(execOp a.eval o).run P s.w=.ok (.value (.pointer (some ⟨r,g+j.offset,none⟩))) s.w:=by simp_all [Addr.add,execOp,Instr.fieldAt,run_underlying,Instr.sureAddr,fieldPlace,kF]
 generalize A:a.eval y=z at k;unfold KT at h3;split at h3<;>first|(injection h3 with h3;subst h3)|cases h3
 cases k with
 |ptr _ _ r g m C=>exact JN hi (go _ _ A) (by rw[HF];exact .ptr _ _ r g m C)
 cases k with
 |cp cs _ r g vals v q=>exact JN hi (go _ _ A) (by rw[HF];exact .cp _ _ r g vals v q)
 cases k with
 |ep _ _ _ _ _ wm esz rows p0 v q J=>
  obtain⟨r,g,rfl⟩:=p0;refine JN hi (go _ _ A) (.ep _ _ _ _ _ wm esz rows ⟨_,_,rfl⟩ v q λO L=>?_);grind
 cases hc
theorem JIm(hi:Inv s)(he:bT s a.tmps env){x i}(h:(opR F (.extr x i) new).run ⟨env,s.σ⟩=some e)(hc:JX P (.extr x i) o.op=true):bS P o a s e:=by
 simp only[opR]at h;obtain⟨u,h1,k⟩:=bind_some h;obtain⟨r,h3,rfl⟩:=hA k;clear h k;unfold JX at hc;simp only at hc;split at hc;rename_i y j g;simp only[JZ,beq_iff_eq]at hc;obtain⟨B,rfl⟩:=hc;have n:=bL he h1 B;generalize A:a.eval y=z at n;unfold OW at h3;split at h3;cases n with
 |tup cs vs D w=>
  have C:=JA h3;have q:vs[i]?=some vs[i]:=by simp
  exact JN hi (v:=vs[i]) (by simp[execOp,g,A,Instr.extract,q]) (w i r _ h3 q)
 cases h3;cases hc
theorem JHF(hi:Inv s)(he:bT s a.tmps env){f first caps}(h:(opR F (.mkfn f first caps) new).run ⟨env,s.σ⟩=some e)(hc:JX P (.mkfn f first caps) o.op=true):bS P o a s e:=by
 simp only[opR]at h;obtain⟨u,h1,w⟩:=bind_some h;obtain⟨v,h2,j⟩:=bind_some w;simp only[RM.run]at j;injection j with j;subst j;clear h w;unfold JX at hc;simp only at hc;split at hc
 ·rename_i g k n E;simp only[JZ,beq_iff_eq]at hc;obtain⟨⟨rfl,B⟩,r⟩:=hc;obtain⟨A,y⟩:=FJ he h1 B;obtain⟨D,z⟩:=FJ he h2 r;refine JN hi (v:=.func (.func f) (k.map a.eval) (n.map a.eval)) (by simp_all [execOp,Instr.makeFunc]) (.fn _ _ _ _ _ (by simpa using A) (by simpa using D) (λi x v q C=>y i x v q ?_) (λi x v q C=>z i x v q ?_))
  all_goals simp_all
 cases hc
theorem Z8(hi:Inv s)(he:bT s a.tmps env){mx x y}(h:(opR F (.mm mx x y) new).run ⟨env,s.σ⟩=some e)(hc:JX P (.mm mx x y) o.op=true):bS P o a s e:=by
 simp only[opR]at h;obtain⟨u,h1,n⟩:=bind_some h;obtain⟨v,h2,j⟩:=bind_some n;obtain⟨r,h3,rfl⟩:=hA j;clear h n j;unfold JX at hc;simp only at hc;split at hc;rename_i c D;split at hc;rename_i b A;simp only[JZ,beq_iff_eq]at hc;obtain⟨H,hc⟩:=hc;split at hc;rename_i z w g;simp only[JZ]at hc;have B:=bL he h1 hc.1;have C:=bL he h2 hc.2;have I:c.args.map a.eval= #[a.eval z,a.eval w]:=by apply DC;simp[g]
 unfold mmP at h3;split at h3;rename_i k p k' q;injection h3 with h3;subst h3;have E:=jA B;have G:=jA C;cases mx;simp_all [JN,qB,execOp,resolve,invoke,builtin,Builtin.min_,Builtin.min2];simp_all [JN,qB,execOp,resolve,invoke,builtin,Builtin.max_,Builtin.max2];cases h3;cases hc;cases hc;cases hc
theorem JJ2(hi:Inv s)(he:bT s a.tmps env){str x}(h:(opR F (.len str x) new).run ⟨env,s.σ⟩=some e)(hc:JX P (.len str x) o.op=true):bS P o a s e:=by
 simp only[opR]at h;obtain⟨u,h1,D⟩:=bind_some h;obtain⟨r,h3,rfl⟩:=hA D;clear h D;unfold JX at hc;simp only at hc;split at hc;rename_i c q;split at hc;rename_i j;split at hc;rename_i y t k A;simp only[JZ]at hc;obtain⟨K,M⟩:=hc;have B:=bL he h1 K;have I:c.args.map a.eval= #[a.eval y]:=by apply DC;simp[k]
 have v:c.argTypes[0]?=some t:=by rw[<-TP,A];rfl
 generalize H:a.eval y=z at B;have N: ∀l:List UInt8,z=.string ⟨l.toArray⟩->jS P t=true->(execOp a.eval o).run P s.w=.ok (.value (.int .i64 l.length)) s.w:=by intro l C g;have:=xI g;simp[execOp,q,resolve,j,I,H,C,invoke,builtin,Builtin.len_,v,run_underlying this,goInt,uF]
 have L: ∀G n cp,z=.slice G n cp->(elT P t).isSome=true->(execOp a.eval o).run P s.w=.ok (.value (.int .i64 n)) s.w:=by intro G n cp C g;obtain⟨el,E⟩:=kh.1 g;have:=gZ E;simp[execOp,q,resolve,j,I,H,C,invoke,builtin,Builtin.len_,v,run_underlying this,goInt]
 unfold IQ at h3;split at h3<;>first|(injection h3 with h3;subst h3)|cases h3
 grind [JN,tX,qB];cases B with
 |p _ _ J=>cases J<;>simp_all [JN,qB]
 cases B<;>grind [JN,qB]
 cases hc;cases hc;cases hc
end
end Go.Am
end
section
namespace Go.Am
section
variable {P:Program} {F:Orc} {s:Sn} {a:Act} {env:List (Nat×AV)} {o:Oper} {new:Nat} {e:Eff}
theorem jR.of_p{s:Sn}{esz rows v}(h:JK s (.p (.sl esz rows)) v):jR s esz rows v:=by
 grind [of_sl,cases Go.Am.JK]
theorem u9(hi:Inv s){esz:Nat}{x:AV}{rows:List (List PV)}{v:Value}(h:(dH esz x).run ⟨env,s.σ⟩=some rows)(hr:JK s x v):
  (∃l,x=.p (.s l)/\esz=1/\rows=l.map mW/\v=.string ⟨l.toArray⟩)\/jR s esz rows v:=by
 unfold dH at h;split at h;split at h;rename_i g;subst g;simp only[RM.run]at h;injection h with h;subst h;exact .inr (.of_p hr);cases h;grind [RM.run,tX];simp only[RM.run]at h;split at h;rename_i blk j;split at h;split at h;rename_i e;obtain⟨rfl,e⟩:=e;simp only[RM.run]at h;injection h with h;subst h;exact .inr (.of_slr hi hr j e);cases h;cases h;cases h;cases h
theorem ej{α:Type}{esz:Nat}: ∀{rows:List (List α)},(∀row∈rows,row.length=esz)-> ∀{k:Nat} {x:α},rows.flatten[k]?=some x->
  ∃i j row,k=i*esz+j/\rows[i]?=some row/\row[j]?=some x/\j<esz
 |[],_,k,x,h=>by simp at h
 |r::rows,g,k,x,h=>by
  simp only[kR]at h;have y:r.length=esz:=g r (by simp);rcases List.getElem?_append (l₁:=r) (l₂:=rows.flatten) (i:=k)▸h with e;split at e;exact⟨0,k,r,by simp,rfl,e,by omega⟩;obtain⟨i,j,row,w,v,n,o⟩:=ej (λrow q=>g row (by simp[q])) e;exact⟨i+1,j,row,by grind,by simpa using v,n,o⟩
theorem RF{α:Type}{esz:Nat}: ∀{rows:List (List α)},(∀row∈rows,row.length=esz)->rows.flatten.length=rows.length*esz
 |[],_=>by simp
 |r::rows,g=>by
  have:=RF (rows:=rows) (λrow e=>g row (by simp[e]));grind
theorem jR.cells{s:Sn}{esz rows v}(h:jR s esz rows v):
  ∃(a:Option Addr) (cap:Nat) (vs:List Value),v=.slice a rows.length cap/\rows.length<=cap/\vs.length=rows.length*esz/\
   (∀(k:Nat) x,rows.flatten[k]?=some x-> ∃u,vs[k]?=some u/\J0e s.w s.g.C x u)/\
   (rows=[]\/ ∃r o,a=some ⟨r,o,none⟩/\ ∀(k:Nat) u,vs[k]?=some u->cellAt s.w r (o+k)=some u)/\(∀row∈rows,row.length=esz):=by
 obtain⟨a,cap,h1,h2,h3,y⟩:=h;rcases y with rfl|⟨r,o,B,D⟩;simp_all;refine⟨a,cap,(List.range (rows.length*esz)).map λk=>(cellAt s.w r (o+k)).getD .nilFunc,h1,h2,by simp,λk x e=>?_,.inr ⟨r,o,B,λk u e=>?_⟩,h3⟩;obtain⟨i,j,row,A,z,q,_⟩:=ej h3 e;grind [RF];have n:=JA e;simp at n;rw[gA,List.getElem?_range n]at e;simp at e;have:k<rows.flatten.length:=by grind [RF]
 obtain⟨i,j,row,A,z,q,_⟩:=ej h3 (zQ9 this);grind
theorem wv: ∀{rows:List (List PV)} {l:List UInt8},uG rows=some l-> ∃e:List Int,rows=e.map (λn=>[PV.i .u8 n])/\l=e.map λn=>UInt8.ofNat n.toNat
 |[],l,h=>by simp_all [uG]
 |row::rows,l,h=>by
  unfold uG at h;split at h;simp_all;rename_i n r j;injection j with e1 e2;subst e1 e2;split at h;rename_i l' g;injection h with h;subst h;obtain⟨e,h1,h2⟩:=wv g;exact⟨n::e,by simp[h1],by simp[h2]⟩;cases h;cases h
theorem JAV(e:List Int): ∀b:ByteArray,(e.foldl (λr n=>r.push (UInt8.ofNat n.toNat)) b)=⟨b.data++(e.map λn=>UInt8.ofNat n.toNat).toArray⟩:=by
 induction e with
 |nil=>intro b;simp
 |cons n e ih=>simp_all
theorem AG(r o n:Nat):Addr.add ⟨r,o,none⟩ n=⟨r,o+n,none⟩:=by simp[Addr.add]
theorem tn{w:World}{r o:Nat}(vs:List Value)(h: ∀(k:Nat) u,vs[k]?=some u->cellAt w r (o+k)=some u):
  (loadCells ⟨r,o,none⟩ vs.length).run P w=.ok vs.toArray w:=
 run_loadCells_list w _ vs λj v e=>by grind [AG,rY]
theorem JId(hi:Inv s)(he:bT s a.tmps env){k x}(hk: ∀own,k≠.toBytes own)(h:(opR F (.conv k x) new).run ⟨env,s.σ⟩=some e)(hc:JX P (.conv k x) o.op=true):bS P o a s e:=by
 simp only[opR]at h;obtain⟨u,h1,j⟩:=bind_some h;clear h;unfold JX at hc;simp only at hc;split at hc;rename_i a2 dst y L;simp only[JZ]at hc;obtain⟨hx,g⟩:=hc;have A:=bL he h1 hx;generalize Z:a.eval y=z at A;split at j;rename_i k' k1 n;simp only[RM.run]at j;injection j with j;subst j;simp only[JZ]at g;obtain⟨ks,J⟩:=JDo g.1;have D:=JCz g.2;have:=jA A;simp_all [JN,execOp,convert,run_underlying,Conv.intToInt,qB];rename_i l;simp only[RM.run]at j;injection j with j;subst j;simp only[JZ]at g;have J:=xI g.1;have D:=xI g.2;have:=tX A;simp_all [JN,execOp,convert,run_underlying];simp only[JZ]at g;obtain⟨g,D⟩:=g;have D:=xI D;split at g;rename_i el N;simp only[JZ,beq_iff_eq]at g;have J:=gZ N;have O:=su g.1;obtain⟨rows,R,B⟩:=bind_some j;clear j;split at B;rename_i l S;simp only[RM.run]at B;injection B with B;subst B;rcases u9 hi R A with⟨l',rfl,_,U,K⟩|M
 
 have:=tX A;subst this;have:l=l':=by
  have: ∀l:List UInt8,uG (l.map mW)=some l:=by
   intro l
   induction l with
   |nil=>rfl
   |cons b l ih=>simp[uG,mW,ih]
  simp_all
 simp_all [JN,execOp,convert,run_underlying];obtain⟨E,cap,vs,K,G,hlen,hrel,C,I⟩:=M.cells;obtain⟨q,T,rfl⟩:=wv S;have hvs:vs=q.map (Value.int .u8):=by
  apply zQ6;intro k;have a1:rows.flatten=q.map (PV.i .u8):=by rw[T];clear T S hrel hlen I C K G R A;induction q with|nil=>rfl|cons n q ih=>simp[ih]
  by_cases hk:k<q.length;obtain⟨u,hu,hp⟩:=hrel k (.i .u8 q[k]) (by simp_all);grind [cases Go.Am.J0e];simp_all
 have V:rows.length=vs.length:=by omega
 subst K;have H:(Conv.bytesToString (.slice E rows.length cap)).run P s.w=.ok (.string ⟨(q.map λn=>UInt8.ofNat n.toNat).toArray⟩) s.w:=by
  rcases C with W|⟨r,Y,rfl,hm⟩;have Q:q=[]:=by simp_all
  subst Q;cases E with
  |none=>simp[Conv.bytesToString];rfl
  |some E=>have:=run_bytesToString (P:=P) s.w E rows.length cap [] (by simp_all [loadCells,loadCellsFrom]);rw[this];rfl
  have:=run_bytesToString (P:=P) s.w ⟨r,Y,none⟩ rows.length cap q (by grind [tn]);simp_all [JAV]
 refine JN hi (v:=.string ⟨(q.map λn=>UInt8.ofNat n.toNat).toArray⟩) ?_ (pn _);simp[execOp,L,Z,convert,run_underlying J,run_underlying D,run_underlying O,H];cases B;cases g;simp_all;cases j;cases hc
end
end Go.Am
end
section
namespace Go.Am
theorem LR{α:Type}{cs l:List α}{off size:Nat}(h:sub cs off size=some l):l.length=size/\off+size<=cs.length/\ ∀(i:Nat),i<size->l[i]?=cs[off+i]?:=by
 grind [sub]
theorem QZ: ∀{cs:List AV} {l:List PV},unp cs=some l->cs=l.map .p
 |[],l,h=>by grind [unp]
 |x::cs,l,h=>by
  unfold unp at h;split at h;simp_all;rename_i c r e;injection e with e1 e2;subst e1 e2;split at h;rename_i l' g;injection h with h;subst h;simp[QZ g];cases h;cases h
section
variable {P:Program} {F:Orc} {s:Sn} {a:Act} {env:List (Nat×AV)} {o:Oper} {new:Nat} {e:Eff}
theorem YZ{agg:Bool}{l:List PV}{x:AV}{vs:List Value}(h:oQ agg l=some x)(hl:l.length=vs.length)
  (hr: ∀(i:Nat) y v,l[i]?=some y->vs[i]?=some v->J0e s.w s.g.C y v):
  (agg=true/\JK s x (.agg vs.toArray))\/(agg=false/\ ∃v,vs=[v]/\JK s x v):=by
 cases agg with
 |true=>simp[oQ]at h;subst h;exact .inl ⟨rfl,.data _ _ (by simpa using hl) λi y v j e=>hr i y v j (by simpa using e)⟩
 |false=>
  simp only[oQ,eL,if_false]at h;split at h;injection h with h;subst h;obtain⟨v,rfl⟩: ∃v,vs=[v]:=UU.1 (by simp_all);exact .inr ⟨rfl,v,rfl,.p _ _ (hr 0 _ v rfl rfl)⟩;cases h
theorem PG{agg:Bool}{l:List AV}{x:AV}{vs:List Value}(h:lC agg l=some x)(hl:l.length=vs.length)(h1: ∀v∈vs,v.oneCell'=true)
  (hr: ∀(i:Nat) y v,l[i]?=some y->vs[i]?=some v->JK s y v):
  (agg=true/\JK s x (.agg vs.toArray))\/(agg=false/\ ∃v,vs=[v]/\JK s x v):=by
 cases agg with
 |true=>
  simp only[lC,if_true]at h;split at h;rename_i q j;injection h with h;subst h;have:=QZ j;subst this;refine .inl ⟨rfl,.data _ _ (by simpa using hl) λi y v g e=>?_⟩;have:=hr i (.p y) v (by simp[g]) (by simpa using e);cases this<;>simp_all
  injection h with h;subst h;exact .inl ⟨rfl,.agg _ _ (by simpa using hl) (λi v e=>h1 v (by grind)) λi y v g e=>hr i y v g (by simpa using e)⟩
 |false=>
  simp only[lC,eL,if_false]at h;split at h;injection h with h;subst h;obtain⟨v,rfl⟩: ∃v,vs=[v]:=UU.1 (by simp_all);exact .inr ⟨rfl,v,rfl,hr 0 _ v rfl rfl⟩;cases h
theorem s8{agg:Bool}{off size:Nat}{x r:AV}{v:Value}{t:TypeId}(h:rO agg off size x=some r)(hr:JK s x v)(q:agT P t=some agg)(hs:szT P t=some size)
  (h1:agg=true\/size=1): ∃cs u,v=.agg cs/\(part t cs off).run P s.w=.ok u s.w/\JK s r u:=by
 have go: ∀(cs:Array Value) (vs:List Value),vs.length=size->(∀(i:Nat),i<size->vs[i]?=cs[off+i]?)->off+size<=cs.size->
   ((agg=true/\JK s r (.agg vs.toArray))\/(agg=false/\ ∃v,vs=[v]/\JK s r v))-> ∃u,(part t cs off).run P s.w=.ok u s.w/\JK s r u:=by
  intro cs vs j n C e;rcases e with⟨rfl,g⟩|⟨rfl,v,rfl,g⟩;refine⟨.agg (cs.extract off (off+size)),by simp_all [part,FM,kF],?_⟩;have:cs.extract off (off+size)=vs.toArray:=(by grind);simp_all;simp at j;subst j;have h0:=n 0 (by omega);simp at h0;exact⟨v,by simp[part,FM q,<-h0],g⟩
 unfold rO at h;split at h;rename_i cs;split at h;rename_i l k;obtain⟨o,z,y⟩:=LR k;cases hr with
 |data _ vs A B=>
  have e:=YZ (s:=s) (vs:=((vs.toList.drop off).take size)) h (by simp;omega) (by
   grind)
  grind
 cases h;rename_i cs;split at h;rename_i l k;obtain⟨o,z,y⟩:=LR k;cases hr with
 |agg _ vs A D B=>
  have e:=PG (s:=s) (vs:=((vs.toList.drop off).take size)) h (by simp;omega) (by
   grind [List.getElem?_of_mem]) (by
   grind)
  grind
 cases h;cases h
theorem JFr(hi:Inv s)(he:bT s a.tmps env){agg off size x}(h:(opR F (.field agg off size x) new).run ⟨env,s.σ⟩=some e)(hc:JX P (.field agg off size x) o.op=true):bS P o a s e:=by
 simp only[opR]at h;obtain⟨u,h1,j⟩:=bind_some h;obtain⟨r,h3,rfl⟩:=hA j;clear h j;unfold JX at hc;simp only at hc;split at hc;rename_i t y f A;simp only[JZ]at hc;obtain⟨z,g⟩:=hc;split at g;rename_i fs B;split at g;rename_i D C;simp only[JZ,beq_iff_eq]at g;obtain⟨⟨⟨E,q⟩,n⟩,k⟩:=g;obtain⟨cs,v,H,G,w⟩:=s8 h3 (bL he h1 z) n q (by simpa using k);exact JN hi (v:=v) (by simp_all [execOp,Instr.field,run_underlying,r8,asAgg]) w;cases g;cases g;cases hc
theorem JHH(hi:Inv s)(he:bT s a.tmps env){x i}(h:(opR F (.sidx x i) new).run ⟨env,s.σ⟩=some e)(hc:JX P (.sidx x i) o.op=true):bS P o a s e:=by
 simp only[opR]at h;obtain⟨u,h1,w⟩:=bind_some h;obtain⟨v,h2,g⟩:=bind_some w;clear h w;unfold JX at hc;simp only at hc;split at hc;rename_i t y j D;simp only[JZ]at hc;obtain⟨⟨B,C⟩,H⟩:=hc;have z:=bL he h1 B;have A:=bL he h2 C;split at g;rename_i l k n;split at g;rename_i J;split at g;rename_i b q;simp only[RM.run]at g;injection g with g;subst g;have G:=tX z;have I:=jA A;have E:(⟨l.toArray⟩:ByteArray)[n.toNat]?=some b:=by have r:=JA q;rw[zQ9 r]at q;rw[getElem?_pos _ _ (by grind [uF])];injection q with q;rw[<-q];rfl
 refine JN hi (v:=.int .u8 b.toNat) ?_ (qB _ _);simp_all [execOp,Instr.index,asIntOf,run_underlying,xI];cases g;cases g;cases g;cases hc
theorem JIg(hi:Inv s)(he:bT s a.tmps env){agg len esz x i}(h:(opR F (.aidx agg len esz x i) new).run ⟨env,s.σ⟩=some e)(hc:JX P (.aidx agg len esz x i) o.op=true):bS P o a s e:=by
 simp only[opR]at h;obtain⟨u,h1,B⟩:=bind_some h;obtain⟨v,h2,g⟩:=bind_some B;clear h B;unfold JX at hc;simp only at hc;split at hc;rename_i t y j z;simp only[JZ]at hc;obtain⟨⟨L,N⟩,q⟩:=hc;have G:=bL he h1 L;have H:=bL he h2 N;split at q;rename_i n el A;simp only[JZ,beq_iff_eq]at q;obtain⟨⟨⟨rfl,C⟩,I⟩,D⟩:=q;split at g;rename_i k m;split at g;rename_i M;obtain⟨r,h3,rfl⟩:=hA g;obtain⟨cs,w,O,J,K⟩:=s8 h3 G I C (by simpa using D);have E:=jA H;exact JN hi (v:=w) (by simp[execOp,z,O,E,Instr.index,asIntOf,run_underlying (fa A),M,kF C,J]) K;cases g;cases g;cases q;cases hc
theorem JGp(hi:Inv s)(he:bT s a.tmps env){len esz x i}(h:(opR F (.aaddr len esz x i) new).run ⟨env,s.σ⟩=some e)(hc:JX P (.aaddr len esz x i) o.op=true):bS P o a s e:=by
 simp only[opR]at h;obtain⟨u,h1,J⟩:=bind_some h;obtain⟨v,h2,C⟩:=bind_some J;obtain⟨r,h3,rfl⟩:=hA C;clear h J C;unfold JX at hc;simp only at hc;split at hc;rename_i t y j H;simp only[JZ]at hc;obtain⟨⟨Q,S⟩,A⟩:=hc;have B:=bL he h1 Q;have M:=bL he h2 S;split at A;rename_i n el I;simp only[JZ,beq_iff_eq]at A;obtain⟨rfl,O⟩:=A;unfold KO at h3;split at h3;rename_i k m;split at h3;rename_i R;have K:=jA M;have go: ∀(r g:Nat),a.eval y=.pointer (some ⟨r,g,none⟩)->(execOp a.eval o).run P s.w=.ok (.value (.pointer (some ⟨r,g+m.toNat*esz,none⟩))) s.w:=by intro r g q;simp[execOp,H,q,K,Instr.indexAt,asIntOf,run_underlying (fa I),Instr.sureAddr,R,kF O,AG]
 generalize q:a.eval y=z at B;split at h3<;>first|(injection h3 with h3;subst h3)|cases h3
 cases B with
 |ptr _ _ r g L N=>exact JN hi (go _ _ q) (by rw[HF];exact .ptr _ _ r g L N)
 cases B with
 |cp cs _ r g vals G D=>exact JN hi (go _ _ q) (by rw[HF];exact .cp _ _ r g vals G D)
 cases B with
 |ep _ _ _ _ _ wm E rows p0 G D T=>
  obtain⟨r,g,rfl⟩:=p0;refine JN hi (go _ _ q) (.ep _ _ _ _ _ wm E rows ⟨_,_,rfl⟩ G D λV U=>?_);grind
 cases h3;cases h3;cases A;cases hc
theorem JG3(hi:Inv s)(he:bT s a.tmps env){esz x i}(h:(opR F (.iaddr esz x i) new).run ⟨env,s.σ⟩=some e)(hc:JX P (.iaddr esz x i) o.op=true):bS P o a s e:=by
 simp only[opR]at h;obtain⟨u,h1,O⟩:=bind_some h;obtain⟨v,h2,g⟩:=bind_some O;clear h O;unfold JX at hc;simp only at hc;split at hc;rename_i t y j N;simp only[JZ]at hc;obtain⟨⟨E,hj⟩,G⟩:=hc;have H:=bL he h1 E;have T:=bL he h2 hj;split at G;rename_i el Q;simp only[beq_iff_eq]at G;have go: ∀(r A len cap:Nat) k (m:Int),a.eval j=.int k m->a.eval y=.slice (some ⟨r,A,none⟩) len cap->0<=m->m<len->
   (execOp a.eval o).run P s.w=.ok (.value (.pointer (some ⟨r,A+m.toNat*esz,none⟩))) s.w:=by
  intro r A len cap k m C D h0 J;simp[execOp,N,D,C,Instr.indexAt,asIntOf,run_underlying (gZ Q),h0,J,kF G,AG]
 unfold mV at g;split at g;rename_i B rows k n;split at g;rename_i R;subst R;split at g;rename_i row q;simp only[RM.run]at g;injection g with g;subst g;unfold OH at q;split at q;rename_i M;have C:=jA T;generalize D:a.eval y=z at H;cases H with
 |p _ _ W=>
  cases W with
  |sl0 _ ad cap=>simp at q
  |sl _ _ r A cap vals p1 p2 U V=>have J:=JA q;refine JN hi (go r A _ cap k n C D M (by omega)) ?_;have:=JK.cp (s:=s) row 0 r (A+n.toNat*esz) (λj=>vals n.toNat j) (λj x E=>U n.toNat j row x q E) (λj x E=>V n.toNat j row x q E);simp_all
 cases q;cases g;cases g;rename_i b j' m k n;simp only[RM.run]at g;split at g;rename_i blk hb;split at g;rename_i wm B rows;split at g;rename_i L;obtain⟨rfl,S,M,a8⟩:=L;simp only[RM.run]at g;injection g with g;subst g;have C:=jA T;generalize D:a.eval y=z at H;cases H with
 |slr _ _ _ _ wm' B rows' q0 I q2 q3=>
  have K:s.σ[b]?=some (.arr wm esz rows):=hb;rw[K]at I;injection I with I;injection I with a1 a2 a3;subst a1 a2 a3;rcases q3 S with⟨_,_,a7,_⟩|⟨r,cap,c,e1,fz,Z,hv,Y,hh,hs⟩;omega;subst hv;refine JN hi (go r _ _ cap k n C D M (by omega)) (.ep _ _ _ _ _ wm esz rows ⟨_,_,rfl⟩ K (zQ0 _) λ_ _=>⟨r,Z,?_⟩);grind
 cases g;cases g;cases g;cases g;cases G;cases hc
end
end Go.Am
end
section
namespace Go.Am
theorem fH(a b:List (Nat×Blk))(σ:List Blk):upd (a++b) σ=upd b (upd a σ):=by simp[upd]
section
variable {P:Program} {F:Orc} {s:Sn} {a:Act} {env:List (Nat×AV)} {o:Oper} {new:Nat} {e:Eff}
theorem ML{e:List Blk}(hi:Inv s)(j:Frz e s.σ){b i n:Nat}{y:List PV×List (Nat×Blk)}{v:Value}(h:(fz (.slr b i n)).run ⟨env,e⟩=some y)(hr:JK s (.slr b i n) v):
  ∃g',Inv ⟨upd y.2 s.σ,g',s.w⟩/\bE s ⟨upd y.2 s.σ,g',s.w⟩/\Frz s.σ (upd y.2 s.σ)/\ ∃c,y.1=[c]/\J0e s.w g'.C c v:=by
 simp only[fz,RM.run]at h;split at h;rename_i blk k;split at h;rename_i wm esz rows;split at h;rename_i q;simp only[RM.run]at h;injection h with h;subst h;obtain⟨wm',g⟩:=j.1 b _ _ _ k;obtain⟨g',h1,h2,h3,o⟩:=JEe hi hr g q;exact⟨g',h1,h2,h3,_,rfl,o⟩;cases h;cases h;cases h
theorem JHq{e:List Blk}(hi:Inv s)(j:Frz e s.σ){x:AV}{y:List PV×List (Nat×Blk)}{v:Value}(h:(fz.fz1 x).run ⟨env,e⟩=some y)(hr:JK s x v):
  ∃g',Inv ⟨upd y.2 s.σ,g',s.w⟩/\bE s ⟨upd y.2 s.σ,g',s.w⟩/\Frz s.σ (upd y.2 s.σ)/\ ∃c,y.1=[c]/\J0e s.w g'.C c v:=by
 cases x with
 |p c=>
  simp only[fz.fz1,RM.run]at h;injection h with h;subst h;cases hr with
  |p _ _ hr=>exact⟨s.g,hi,.refl s,.refl _,c,rfl,hr⟩
 |slr b i n=>exact ML hi j (by exact h) hr
 |_=>grind [fz.fz1,RM.run]
theorem p7{B:List Blk}: ∀{xs:List AV} {s:Sn} {y:List PV×List (Nat×Blk)} {vs:List Value},Inv s->Frz B s.σ->(fz.fzL xs).run ⟨env,B⟩=some y->xs.length=vs.length->
  (∀(i:Nat) x v,xs[i]?=some x->vs[i]?=some v->JK s x v)->
  ∃g',Inv ⟨upd y.2 s.σ,g',s.w⟩/\bE s ⟨upd y.2 s.σ,g',s.w⟩/\Frz s.σ (upd y.2 s.σ)/\y.1.length=vs.length/\
   ∀(i:Nat) c v,y.1[i]?=some c->vs[i]?=some v->J0e s.w g'.C c v
 |[],s,y,vs,hi,j,h,e,k=>by
  simp only[fz.fzL,RM.run]at h;injection h with h;subst h;exact⟨s.g,hi,.refl s,.refl _,by simpa using e,λi c v n=>by simp at n⟩
 |x::xs,s,y,[],hi,j,h,e,k=>by simp at e
 |x::xs,s,y,v::vs,hi,j,h,e,k=>by
  simp only[fz.fzL]at h;obtain⟨q,h1,h⟩:=bind_some h;obtain⟨H,h2,h⟩:=bind_some h;simp only[RM.run]at h;injection h with h;subst h;obtain⟨E,i1,A,z,c,n,G⟩:=JHq hi j h1 (k 0 x v rfl rfl);obtain⟨D,i2,r,F,K,M⟩:=p7 (s:=⟨upd q.2 s.σ,E,s.w⟩) i1 (j.trans z) h2 (by simpa using e) λi x v I J=>(k (i+1) x v (by simpa using I) (by simpa using J)).mono hi A;refine⟨D,by grind [fH],by rw[fH];exact A.trans r,by rw[fH];exact z.trans F,by simp[n,K],λi c' L hc' o=>?_⟩;rw[n]at hc';cases i with
  |zero=>simp at hc' o;subst hc' o;exact J0e.mono (s0:=⟨upd q.2 s.σ,E,s.w⟩) (s:=⟨upd H.2 (upd q.2 s.σ),D,s.w⟩) i1 r G
  |succ i=>grind
theorem YL{o:List Blk}(hi:Inv s)(k:Frz o s.σ){x:AV}{y:List PV×List (Nat×Blk)}{v:Value}(h:(fz x).run ⟨env,o⟩=some y)(hr:JK s x v):
  ∃g',Inv ⟨upd y.2 s.σ,g',s.w⟩/\bE s ⟨upd y.2 s.σ,g',s.w⟩/\Frz s.σ (upd y.2 s.σ)/\y.1.length=v.cells.size/\
   ∀(i:Nat) c u,y.1[i]?=some c->v.cells[i]?=some u->J0e s.w g'.C c u:=by
 cases x with
 |p c=>
  simp only[fz,RM.run]at h;injection h with h;subst h;cases hr with
  |p _ _ hr=>
   refine⟨s.g,hi,.refl s,.refl _,by rw[hr.cells1];rfl,λi c' u j e=>?_⟩;rw[hr.cells1]at e;grind
 |data cs=>
  simp only[fz,RM.run]at h;injection h with h;subst h;cases hr with
  |data _ vs h1 h2=>exact⟨s.g,hi,.refl s,.refl _,h1,λi c u j e=>h2 i c u j e⟩
 |slr b i n=>
  obtain⟨g',h1,h2,h3,c,j,q⟩:=ML hi k h hr;refine⟨g',h1,h2,h3,by rw[j,q.cells1];rfl,λi c' u hc' e=>?_⟩;rw[q.cells1]at e;grind
 |agg cs=>
  simp only[fz]at h;cases hr with
  |agg _ vs h1 h0 h2=>
   obtain⟨g',A,E,B,F,D⟩:=p7 (vs:=vs.toList) hi k h (by simpa using h1) λi x v r z=>h2 i x v r (by simpa using z);grind [Value.cells]
 |_=>grind [fz,RM.run]
theorem FL(he:bT s a.tmps env){x:Option Opd}{y:Option Operand}{v:Option AV}(h:(evo x).run ⟨env,s.σ⟩=some v)(hc:wJ x y=true):
  (v=none/\y=none)\/ ∃u q,v=some u/\y=some q/\JK s u (a.eval q):=by
 cases x with
 |none=>
  grind [evo,RM.run,wJ]
 |some x=>
  cases y with
  |none=>grind [wJ]
  |some y=>
   simp only[evo]at h;obtain⟨u,h1,h⟩:=bind_some h;simp only[RM.run]at h;injection h with h;subst h;exact .inr ⟨u,y,rfl,rfl,bL he h1 hc⟩
theorem RU{x:AV}{top n j:Nat}{v:Value}(h:qF (some x) top j=some n)(hr:JK s x v)(g:Nat)(o:top<=g)(k:BoundsCode)(w:World):
  (Instr.sliceBound v g k).run P w=.ok n w/\n<=top:=by
 unfold qF at h;split at h;simp_all;rename_i e;injection e with e;subst e;split at h;rename_i q;injection h with h;subst h;have:=jA hr;grind [Instr.sliceBound,asIntOf,Sem.run_pure];cases h;cases h
theorem JE6{n:Nat}{lo hi:Option AV}{c:Nat×Nat}(h:vX n lo hi=some c):qF hi n n=some c.2/\qF lo c.2 0=some c.1:=by
 grind [vX]
theorem g0(he:bT s a.tmps env){lo hi:Option Opd}{o n:Option Operand}{l h:Option AV}{len cap:Nat}{c:Nat×Nat}{isSlice:Bool}
  (h1:(evo lo).run ⟨env,s.σ⟩=some l) (h2:(evo hi).run ⟨env,s.σ⟩=some h) (c1:wJ lo o=true) (A:wJ hi n=true)
  (hc:vX len l h=some c) (r:len<=cap) (w:World):
  (Instr.sliceBounds isSlice len cap (o.map a.eval) (n.map a.eval) none).run P w=.ok (c.1,c.2,cap) w/\c.1<=c.2/\c.2<=len:=by
 obtain⟨k,e⟩:=JE6 hc;obtain⟨i,j⟩:=c;rcases FL he h2 A with⟨rfl,rfl⟩|⟨u,q,rfl,rfl,y⟩;simp[qF]at k;subst k;rcases FL he h1 c1 with⟨rfl,rfl⟩|⟨z,q',rfl,rfl,g⟩;simp[qF]at e;subst e;simp[Instr.sliceBounds];obtain⟨v,x⟩:=RU (P:=P) e g len (zQ0 _) .sliceB w;simp_all [Instr.sliceBounds];rcases FL he h1 c1 with⟨rfl,rfl⟩|⟨z,q',rfl,rfl,g⟩;obtain⟨v,x⟩:=RU (P:=P) k y cap r (if isSlice then .sliceAcap else .sliceAlen) w;simp[qF]at e;subst e;simp_all [Instr.sliceBounds];obtain⟨v,x⟩:=RU (P:=P) k y cap r (if isSlice then .sliceAcap else .sliceAlen) w;obtain⟨B,C⟩:=RU (P:=P) e g j (zQ0 _) .sliceB w;simp_all [Instr.sliceBounds]
theorem D9{esz:Nat}{rows:List (List PV)}{v:Value}{i j:Nat}(h:J0e s.w s.g.C (.sl esz rows) v)(F:i<=j)(hj:j<=rows.length):
  ∃e cap,v=.slice e rows.length cap/\rows.length<=cap/\
   J0e s.w s.g.C (.sl esz ((rows.drop i).take (j-i))) (.slice (if cap=i then e else e.map (·.add (i*esz))) (j-i) (cap-i)):=by
 have hlen:((rows.drop i).take (j-i)).length=j-i:=by simp;omega
 cases h with
 |sl0 _ e cap=>
  have q:j=0:=by simpa using hj
  have n:i=0:=by omega
  subst q n;refine⟨e,cap,rfl,zQ2 _,?_⟩;simpa using J0e.sl0 (w:=s.w) (C:=s.g.C) esz _ _
 |sl _ _ r o cap vals A z G H=>
  refine⟨_,cap,rfl,A,?_⟩;by_cases y:cap=i;have h0:j-i=0:=by omega
  rw[h0];simpa using J0e.sl0 (w:=s.w) (C:=s.g.C) esz _ _;rw[if_neg y];have:=J0e.sl (w:=s.w) (C:=s.g.C) esz ((rows.drop i).take (j-i)) r (o+i*esz) (cap-i) (λk m=>vals (i+k) m) (by omega)
   (λrow D=>z row (zQ7 (kr D)))
   (λk m row x B E=>by
    grind)
   (λk m row x B E=>by
    grind)
  grind [AG]
def zT(k:SK)(x:AV)(lo hi:Option AV):Option AV:=
 match k with
 | .str=>wY x lo hi
 | .sl esz=>wV esz x lo hi
theorem En(hi:Inv s){k:SK}{t:TypeId}{y:Operand}{B A:Option Operand}{q:Operand}{c:PV}{l J:Option AV}{u r:AV}{g':Gh}{ws:List (Nat×Blk)}
  (E:o.op=.slice t y B A (some q)) (h:(match k with
   | .str=>jS P t
   | .sl esz=>(match elT P t with|some e=>szT P e==some esz|none=>false))=true)
  (hl:l=none->B=none) (H: ∀I,J=some I-> ∃q',A=some q'/\JK s I (a.eval q')) (hu:JK s u (a.eval q))
  (hs:kZ k (.p c) l J (some u)=some r) (F:Inv ⟨upd ws s.σ,g',s.w⟩) (t':bE s ⟨upd ws s.σ,g',s.w⟩) (hr:J0e s.w g'.C c (a.eval y)):bS P o a s ⟨r,ws⟩:=by
 cases k with
 |str=>grind [kZ]
 |sl esz=>
  simp only[kZ]at hs;unfold OT at hs;split at hs;rename_i Q rows T h1 V W n;injection n with n;subst n;split at hs;rename_i S;obtain⟨rfl,rfl,rfl⟩:=S;injection hs with hs;subst hs;obtain⟨q',rfl,D⟩:=H _ rfl;obtain rfl:=hl rfl;have e1:=jA D;have Z:=jA hu;simp only at h;split at h;rename_i el G;simp only[beq_iff_eq]at h;obtain⟨g,cap,K,O,hrel⟩:=D9 (s:=⟨s.σ,g',s.w⟩) (i:=0) (j:=rows.length) hr (zQ2 _) (zQ0 _);have R: ∀w:World,(Instr.sliceBounds true rows.length cap none (some (a.eval q')) (some (a.eval q))).run P w=.ok (0,rows.length,rows.length) w:=by simp_all [Instr.sliceBounds,Instr.sliceBound,asIntOf]
  have z:J0e s.w g'.C (.slc esz rows) (.slice g rows.length rows.length):=by
   refine .slc esz rows g ?_;rw[K]at hr;cases hr with
   |sl0=>exact .sl0 _ _ _
   |sl _ _ r o cap vals U N L M=>exact .sl esz rows r o rows.length vals (zQ0 _) N L M
  refine iF (e:=⟨_,ws⟩) (w':=s.w) (g':=g') (v:=.slice g rows.length rows.length) ?_ F t' (.p _ _ z);have Y:(if rows.length=0 then g else g.map λx=>x.add (0*esz))=g:=by simp[Addr.add]
  simp only[execOp,E,K];simp[Instr.sliceAt,Instr.slice,run_underlying (gZ G),R,kF h];simp_all;cases h;cases hs;cases hs
theorem JF7(hi:Inv s)(he:bT s a.tmps env){k x lo A mx}(h:(opR F (.slice k x lo A mx) new).run ⟨env,s.σ⟩=some e)(hc:JX P (.slice k x lo A mx) o.op=true):bS P o a s e:=by
 simp only[opR]at h;obtain⟨u,h1,h⟩:=bind_some h;obtain⟨l,h2,h⟩:=bind_some h;obtain⟨D,h3,h⟩:=bind_some h;obtain⟨m,h4,h⟩:=bind_some h;unfold JX at hc;simp only at hc;split at hc
 ·rename_i t y V T ae G;simp only[JZ]at hc;obtain⟨⟨⟨⟨hx,c1⟩,O⟩,c3⟩,q⟩:=hc;have v:=bL he h1 hx;rcases FL he h4 c3 with⟨rfl,rfl⟩|⟨um,qm,rfl,rfl,L⟩
  case inr=>
   have I:l=none->V=none:=(by grind [FL]);have K: ∀u',D=some u'-> ∃q',T=some q'/\JK s u' (a.eval q'):=(by grind [FL]);split at h;rename_i b i n;obtain⟨y',Q,h⟩:=bind_some h;obtain⟨g',i1,Z,f1,c,M,U⟩:=ML hi (.refl _) Q v;split at h;rename_i c' hc';rw[M]at hc';injection hc' with hc';subst hc';split at h;rename_i r z;simp only[RM.run]at h;injection h with h;subst h;exact En hi G q I K L z i1 Z U;cases h;cases h;rename_i x' S;obtain⟨r,z,rfl⟩:=hA h;cases u with
   |p c=>
    cases v with
    |p _ _ v=>exact En (ws:=[]) (g':=s.g) hi G q I K L z hi (.refl s) v
   |_=>grind [kZ,OT]
  have B: ∀{c:AV} {r},kZ k c l D none=some r->(none:Option Operand)=none/\zT k c l D=some r:=by intro c r j;exact⟨rfl,j⟩
  have R: ∀{b:List UInt8} {r},kZ k (.p (.s b)) l D none=some r->a.eval y=.string ⟨b.toArray⟩->bS P o a s ⟨r,[]⟩:=by
   intro b r j hz;obtain⟨_,H⟩:=B j;clear j;have j:=H;clear H;cases k with
   |sl esz=>grind [zT,wV]
   |str=>
    simp only[zT,wY]at j;split at j;rename_i c hc;injection j with j;subst j;have aa:=xI q;obtain⟨hb,ab,a9⟩:=g0 (P:=P) (isSlice:=false) (cap:=b.length) he h2 h3 c1 O hc (zQ0 _) s.w;have ac:(⟨b.toArray⟩:ByteArray).extract c.1 c.2=⟨((b.drop c.1).take (c.2-c.1)).toArray⟩:=by apply ByteArray.ext;simp_all
    simp_all [JN,pn,execOp,Instr.sliceAt,Instr.slice,run_underlying,uF];cases j
  have E: ∀{s':Sn} {ws} {esz rows r} {g'},s'=⟨upd ws s.σ,g',s.w⟩->Inv s'->bE s s'->kZ k (.p (.sl esz rows)) l D none=some r->J0e s'.w s'.g.C (.sl esz rows) (a.eval y)->bS P o a s ⟨r,ws⟩:=by
   intro s' ws esz rows r g' hs' A t' j z;obtain⟨_,H⟩:=B j;clear j;have j:=H;clear H;cases k with
   |str=>grind [zT,wY]
   |sl ez=>
    simp only[zT,wV]at j;split at j;rename_i Y;subst Y;split at j;rename_i c hc;injection j with j;subst j;simp only at q;split at q;rename_i el W;simp only[beq_iff_eq]at q;have J:=g0 (P:=P) (isSlice:=true) he h2 h3 c1 O hc (zQ0 _) s.w;obtain⟨ad,cap,hv,N,hrel⟩:=D9 z J.2.1 J.2.2;obtain⟨hb,_,_⟩:=g0 (P:=P) (isSlice:=true) he h2 h3 c1 O hc N s.w;subst hs';refine iF (e:=⟨_,ws⟩) (w':=s.w) (g':=g') ?_ A t' (.p _ _ hrel);simp only[execOp,G,hv];simp[Instr.sliceAt,Instr.slice,run_underlying (gZ W),hb,kF q];cases q;cases j;cases j
  split at h;rename_i b i n;obtain⟨y',Q,h⟩:=bind_some h;obtain⟨g',i1,Z,f1,c,M,U⟩:=ML hi (.refl _) Q v;grind [RM.run,fz];rename_i x' S;obtain⟨r,z,rfl⟩:=hA h;cases u with
  |p c=>
   cases c with
   |s b=>grind [tX]
   |sl esz rows=>cases v with|p _ _ v=>exact E (s':=s) (ws:=[]) (g':=s.g) rfl hi (.refl s) z v
   |_=>grind [zT,wY,wV]
  |slr b i n=>simp_all
  |_=>grind [zT,wY,wV]
 cases hc
end
end Go.Am
end
section
namespace Go.Am
section
variable {P:Program} {F:Orc} {s:Sn} {a:Act} {env:List (Nat×AV)} {o:Oper} {new:Nat} {e:Eff}
theorem tg(hi:Inv s){agg:Bool}{size:Nat}{x:AV}{v:Value}(h:(gX agg size x).run ⟨env,s.σ⟩=some e)(hr:JK s x v):
  ∃r o vs,v=.pointer (some ⟨r,o,none⟩)/\vs.length=size/\(∀(k:Nat) u,vs[k]?=some u->cellAt s.w r (o+k)=some u)/\e.ws=[]/\
   ((agg=true/\JK s e.val (.agg vs.toArray))\/(agg=false/\ ∃u,vs=[u]/\JK s e.val u)):=by
 unfold gX at h;split at h;rename_i cs off;split at h;rename_i l z;obtain⟨r',h3,rfl⟩:=hA h;obtain⟨n,I,H⟩:=LR z;cases hr with
 |cp _ _ r o vals q M=>
  have O: ∀(i:Nat) y u,l[i]?=some y->((List.range size).map λi=>vals (off+i))[i]?=some u->J0e s.w s.g.C y u:=(by grind);refine⟨r,o+off,(List.range size).map λi=>vals (off+i),rfl,by simp,λk u B=>?_,rfl,YZ h3 (by simp[n]) O⟩;grind
 cases h
 ·rename_i b off;simp only[RM.run]at h;split at h
  ·rename_i blk G;split at h
   ·rename_i cs;split at h
    ·rename_i l z;obtain⟨r',h3,rfl⟩:=hA h;obtain⟨n,I,H⟩:=LR z;cases hr with
     |ptr _ _ r o m W=>
      obtain⟨N,Z,c,U,fz,j,Q,J,T,R⟩:=hi.box b cs G;rw[m]at j;injection j with j;injection j with m1 m2;subst m1 m2;have A: ∀k,k<size-> ∃u,c[o+(off+k)]?=some u/\u.oneCell'=true/\ ∀y,l[k]?=some y->JK s y u:=(by grind);refine⟨r,o+off,(List.range size).map λi=>(c[o+(off+i)]?).getD .nilFunc,rfl,by simp,λk u B=>?_,rfl,PG h3 (by simp[n]) (λv K=>?_) λi y u S B=>?_⟩
      all_goals grind [lZ]
    cases h
   cases h
  cases h
 ·rename_i b ext i off;simp only[RM.run]at h;split at h
  ·rename_i blk G;split at h
   ·rename_i wm esz rows;split at h
    ·rename_i F;split at h
     ·rename_i row E;split at h
      ·rename_i l z;obtain⟨r',h3,rfl⟩:=hA h;obtain⟨n,I,H⟩:=LR z;have D:s.σ[b]?=some (.arr wm esz rows):=G;cases hr with
       |ep _ _ _ _ _ wm' P rows' p0 q M L=>
        rw[D]at q;injection q with q;injection q with a1 a2 a3;subst a1 a2 a3;have V:=JA E;obtain⟨r,m,K⟩:=L F (by omega);rcases hi.arr b _ _ _ D with⟨j,_⟩|⟨N,c,U,fz,j,Q,Y,J,T,R⟩;simp_all
        ·rw[m]at j;injection j with j;injection j with m1 _;subst m1
         have A: ∀k,k<size-> ∃u,c[i*esz+(off+k)]?=some u/\ ∀y,l[k]?=some y->J0e s.w s.g.C y u:=(by grind);refine⟨r,i*esz+off,(List.range size).map λk=>(c[i*esz+(off+k)]?).getD .nilFunc,K,by simp,λk u B=>?_,rfl,YZ h3 (by simp[n]) λk y u S B=>?_⟩
         all_goals grind [lZ]
      cases h
     cases h
    cases h
   cases h
  cases h
 cases h
theorem wi{t:TypeId}{agg:Bool}{size:Nat}(e:agT P t=some agg)(hs:szT P t=some size){r o:Nat}{vs:List Value}{w:World}(hl:vs.length=size)
  (h: ∀(k:Nat) u,vs[k]?=some u->cellAt w r (o+k)=some u):
  (agg=true->(loadVar t ⟨r,o,none⟩).run P w=.ok (.agg vs.toArray) w)/\(agg=false-> ∀u,vs=[u]->(loadVar t ⟨r,o,none⟩).run P w=.ok u w):=by
 constructor;rintro rfl;subst hl;simp_all [loadVar,FM,kF,tn];rintro rfl u rfl;have:=h 0 u rfl;simp_all [loadVar,FM,rY]
theorem JIq(hi:Inv s)(he:bT s a.tmps env){agg size x}(h:(opR F (.load agg size x) new).run ⟨env,s.σ⟩=some e)(hc:JX P (.load agg size x) o.op=true):bS P o a s e:=by
 simp only[opR]at h;obtain⟨u,h1,v⟩:=bind_some h;clear h;unfold JX at hc;simp only at hc;split at hc
 ·rename_i t y C;simp only[JZ,beq_iff_eq]at hc;obtain⟨⟨⟨n,A⟩,B⟩,E⟩:=hc;obtain⟨r,H,vs,J,w,g,j,k⟩:=tg hi v (bL he h1 B);obtain⟨D,I⟩:=wi (P:=P) n A w g;obtain⟨ev,G⟩:=e;simp only at j k;subst j;rcases k with⟨rfl,z⟩|⟨rfl,q,rfl,z⟩
  all_goals simp_all [JN,execOp,Instr.loadAt,Instr.sureAddr]
 cases hc
theorem SR{x:AV}{l:List AV}{v:Value}(h:cellsOf x=some l)(hr:JK s x v):
  l.length=v.cells.size/\(∀u∈v.cells.toList,u.oneCell'=true)/\ ∀(i:Nat) y u,l[i]?=some y->v.cells[i]?=some u->JK s y u:=by
 have e: ∀{z:AV},JK s z v->v.cells= #[v]->v.oneCell'=true->l=[z]->l.length=v.cells.size/\(∀u∈v.cells.toList,u.oneCell'=true)/\ ∀(i:Nat) y u,l[i]?=some y->v.cells[i]?=some u->JK s y u:=(by grind);cases hr with
 |p c _ q=>simp[cellsOf]at h;exact e (.p _ _ q) q.cells1 q.one h.symm
 |data cs vs h1 h2=>
  simp[cellsOf]at h;subst h;refine⟨by grind [Value.cells],λu A=>?_,λi y u w A=>?_⟩;obtain⟨i,hi⟩:=mT A;have hi:vs[i]?=some u:=by grind [Value.cells]
  have F:=SF hi;exact(h2 i cs[i] u (by simp_all) hi).one;rw[gA]at w;cases hcs:cs[i]? with
  |none=>simp_all
  |some c=>simp[hcs]at w;subst w;exact .p _ _ (h2 i c u hcs A)
 |agg cs vs h1 h0 h2=>
  grind [cellsOf,Value.cells,List.getElem?_of_mem]
 |tup=>grind [cellsOf]
 |unk=>grind [cellsOf]
 |ptr b off r o m C=>simp[cellsOf]at h;exact e (.ptr b off r o m C) rfl rfl h.symm
 |cp cs off r o vals j g=>simp[cellsOf]at h;exact e (.cp cs off r o vals j g) rfl rfl h.symm
 |slr b i n _ wm esz rows p0 j g k=>obtain⟨B,cap,rfl,E⟩:=p0;simp[cellsOf]at h;exact e (.slr b i n _ wm esz rows ⟨B,cap,rfl,E⟩ j g k) rfl rfl h.symm
 |ep b ext i off _ wm esz rows p0 j g k=>obtain⟨r,o,rfl⟩:=p0;simp[cellsOf]at h;exact e (.ep b ext i off _ wm esz rows ⟨r,o,rfl⟩ j g k) rfl rfl h.symm
 |fn f first caps fs cs h1 h2 h3 D=>simp[cellsOf]at h;exact e (.fn f first caps fs cs h1 h2 h3 D) rfl rfl h.symm
theorem JJ6(hi:Inv s)(he:bT s a.tmps env)(hn:s.σ[new]?=some .dead){size x}(h:(opR F (.box size x) new).run ⟨env,s.σ⟩=some e)(hc:JX P (.box size x) o.op=true):bS P o a s e:=by
 simp only[opR]at h;obtain⟨u,h1,g⟩:=bind_some h;clear h;unfold JX at hc;simp only at hc;split at hc;rename_i t y B;have z:=bL he h1 hc;split at g;rename_i cs hcs;split at g;cases g;obtain⟨C,q,n⟩:=SR hcs z;obtain⟨r,t'⟩:=QE hi hn (blk:=.box cs) (c:=(a.eval y).cells) (e:=t) (fz:=(0,0)) (w':={s.w with heap:=s.w.heap.push (.cells (a.eval y).cells t)}) rfl rfl rfl
  (λo _ _ h=>by simp at h) (λ_ _ _ h=>by cases h) ⟨by omega,λi x j=>by
   have A:=JA j;have k:i<(a.eval y).cells.size:=by omega
   exact⟨(a.eval y).cells[i],by simp,n i x _ j (by simp),q _ (by simp)⟩⟩
 refine iF (e:=⟨.ptr new 0,[(new,.box cs)]⟩) (v:=.pointer (some ⟨s.w.heap.size,0,none⟩)) ?_ r t' (.ptr new 0 _ 0 (if_pos rfl) ⟨cs,kJ hn⟩);simp_all [execOp,Instr.box,newVar,newRow];cases g;cases g;cases hc
theorem uP{zero:List PV}{t:TypeId}(h:lL P zero t=true): ∃v,zeT P t=some v/\zero.length=v.cells.size/\
  ∀{w C} (i:Nat) x u,zero[i]?=some x->v.cells[i]?=some u->J0e w C x u:=by
 unfold lL at h;split at h;rename_i v e;refine⟨v,e,?_,λi x u j g=>?_⟩;simpa using(RG (w:=default) (C:=λ_ _=>True) h).1;exact(RG h).2 i x u j (by simpa using g);cases h
theorem FP{t:TypeId}{v:Value}(h:zeT P t=some v)(w:World):(zeroValue t).run P w=.ok v w:=by unfold zeT at h;cases hi:P.info? t<;>simp_all [zeroValue,xj]
theorem JDL(hi:Inv s)(hn:s.σ[new]?=some .dead){zero}(h:(opR F (.newbox zero) new).run ⟨env,s.σ⟩=some e)(hc:JX P (.newbox zero) o.op=true):bS P o a s e:=by
 simp only[opR,RM.run]at h;cases h;unfold JX at hc;simp only at hc;split at hc;rename_i t z;obtain⟨v,A,q,r⟩:=uP hc;obtain⟨n,t'⟩:=QE hi hn (blk:=.box (zero.map .p)) (c:=v.cells) (e:=t) (fz:=(0,0)) (w':={s.w with heap:=s.w.heap.push (.cells v.cells t)}) rfl rfl rfl
  (λo _ _ h=>by simp at h) (λ_ _ _ h=>by cases h) ⟨by simp[q],λi x j=>by
   rw[gA]at j;cases hz:zero[i]? with
   |none=>simp[hz]at j
   |some c=>
    simp[hz]at j;subst j;have y:=JA hz;have k:i<v.cells.size:=by omega
    have:=r (w:=s.w) (C:=s.g.C) i c v.cells[i] hz (by simp);exact⟨v.cells[i],by simp,.p _ _ this,this.one⟩⟩
 refine iF (e:=⟨.ptr new 0,[(new,.box (zero.map .p))]⟩) (v:=.pointer (some ⟨s.w.heap.size,0,none⟩)) ?_ n t' (.ptr new 0 _ 0 (if_pos rfl) ⟨_,kJ hn⟩);simp_all [execOp,Instr.alloc,FP,newVar,newRow];cases hc
theorem JF8(hi:Inv s)(hn:s.σ[new]?=some .dead){esz x}(h:(opR F (.mkarr esz x) new).run ⟨env,s.σ⟩=some e)(hc:JX P (.mkarr esz x) o.op=true):bS P o a s e:=by
 simp only[opR,RM.run]at h;cases h;obtain⟨k,t'⟩:=QL hi hn esz;have hrel:JK ⟨s.σ.set new (.arr true esz []),fP s.g new none,s.w⟩ (.slr new 0 0) (.slice none 0 0):=
  .slr new 0 0 _ true esz [] ⟨none,0,rfl,.inl rfl⟩ (kJ hn) (zQ0 _) λ_=>.inl ⟨if_pos rfl,rfl,rfl,rfl⟩
 unfold JX at hc;simp only at hc;split at hc;rename_i j;exact iF (e:=⟨.slr new 0 0,[(new,.arr true esz [])]⟩) (v:=.slice none 0 0) (by simp only[execOp,j];rfl) k t' hrel;rename_i j;exact iF (e:=⟨.slr new 0 0,[(new,.arr true esz [])]⟩) (v:=.slice none 0 0) (by simp only[execOp,j];rfl) k t' hrel;cases hc
theorem PW{α:Type}{cs vs cs':List α}{off:Nat}(h:spl cs off vs=some cs'):cs'.length=cs.length/\off+vs.length<=cs.length/\
  (∀(i:Nat),i<vs.length->cs'[off+i]?=vs[i]?)/\ ∀k,(k<off\/off+vs.length<=k)->cs'[k]?=cs[k]?:=by
 unfold spl at h;split at h;simp_all
 ·split at h
  ·rename_i e;cases h;refine⟨by simp;omega,e,λi hi=>?_,λk g=>?_⟩
   all_goals grind
  cases h
theorem JB7{w:World}{r o:Nat}{vs:List Value}{c:Array Value}{g:TypeId}{fz:Nat×Nat}(e:w.heap[r]?=some (.cells c g fz))(hl:o+vs.length<=c.size)
  (hf:DX fz o (o+vs.length)) (h1: ∀v∈vs,v.oneCell'=true):(storeCells ⟨r,o,none⟩ vs).run P w=.ok () (w.setCells r o vs):=by
 have:=run_storeCells_cells (P:=P) r o vs 0 w
  (λj h=>by rw[rY,lZ e];simp;omega)
  (λj h=>by
   have:=hf (o+0+j) (by omega) (by omega);grind [World.frozen?]) h1
 simp_all
theorem ir{t:TypeId}{v:Value}{w:World}{r o:Nat}{c:Array Value}{g:TypeId}{fz:Nat×Nat}(hs:szT P t=some v.cells.size)(e:w.heap[r]?=some (.cells c g fz))(hl:o+v.cells.size<=c.size)
  (hf:DX fz o (o+v.cells.size)) (h1: ∀u∈v.cells.toList,u.oneCell'=true):(storeVar t ⟨r,o,none⟩ v).run P w=.ok () (w.setCells r o v.cells.toList):=by
 have:=JB7 (P:=P) (vs:=v.cells.toList) e (by simpa using hl) (by simpa using hf) h1;simp_all [storeVar,kF]
theorem fx{o:Oper}{e:Eff}{w':World}{g':Gh}(hr:(execOp a.eval o).run P s.w=.ok .skip w')(g:e.val=gY)
  (hi:Inv ⟨upd e.ws s.σ,g',w'⟩) (t:bE s ⟨upd e.ws s.σ,g',w'⟩):bS P o a s e:=by
 intro next Q h;simp only[Oper.wp,hr,Oper.upon];exact h undef w' g' hi t (by rw[g];exact .tup _ _ rfl λi x v h=>by simp at h)
theorem Dc{b:Nat}: ∀{ws:List (Nat×Blk)} {σ:List Blk},(ws.all λy=>y.1 !=b)=true->(upd ws σ)[b]?=σ[b]?
 |[],_,_=>rfl
 |y::ws,σ,h=>by simp only[List.all_cons,JZ,bne_iff_ne]at h;show(upd ws (σ.set y.1 y.2))[b]?=_;rw[Dc h.2,sG h.1]
theorem JFQ(hi:Inv s)(he:bT s a.tmps env){size x y}(h:(opR F (.store size x y) new).run ⟨env,s.σ⟩=some e)(hc:JX P (.store size x y) o.op=true):bS P o a s e:=by
 simp only[opR]at h;obtain⟨u,h1,h'⟩:=bind_some h;obtain⟨v,h2,g⟩:=bind_some h';clear h h';unfold JX at hc;simp only at hc;split at hc;rename_i t x' n c2;simp only[JZ,beq_iff_eq]at hc;obtain⟨⟨hs,hx⟩,hy⟩:=hc;have rx:=bL he h1 hx;have ry:=bL he h2 hy;have a0: ∀{r M:Nat} {w':World},a.eval x'=.pointer (some ⟨r,M,none⟩)->(storeVar t ⟨r,M,none⟩ (a.eval n)).run P s.w=.ok () w'->(execOp a.eval o).run P s.w=.ok .skip w':=by simp_all [execOp,Instr.storeAt,Instr.sureAddr]
 unfold iS at g;split at g;rename_i b off;simp only[RM.run]at g;split at g;rename_i blk I;split at g;rename_i cs;split at g;rename_i l hl;split at g;rename_i am;split at g;rename_i cs' a8;cases g;have I:s.σ[b]?=some (.box cs):=I;generalize hz:a.eval x'=z at rx;cases rx with
 |ptr _ _ r M m bw=>
  obtain⟨k1,k2,k3⟩:=SR hl ry;obtain⟨j1,j2,j3,j4⟩:=PW a8;obtain⟨r1,o1,c,D,fz,C,L,av,Z,hf⟩:=hi.box b cs I;rw[m]at C;injection C with C;injection C with m1 m2;subst m1 m2;have B:=MY (vs:=(a.eval n).cells.toList) (o:=M+off) L (by simp;omega);have hlen:(a.eval n).cells.toList.length=l.length:=by simp[k1]
  obtain⟨i',t'⟩:=gi hi (blk:=.box cs') I B (λk h1 h2=>by
   grind [Wr1]) (.box _ _ j1) (λbu q E=>by
   cases q;obtain⟨c0,e0,aw,c',A,p2,p3,p4,p5,p6⟩:=B.there;rw[L]at A;injection A with A;injection A with K q2 q3;subst K q2 q3;refine⟨r,M,c',D,fz,m,p2,by omega,λi x au=>?_,by simp_all⟩;by_cases b1:off<=i/\i<off+l.length;have D:cs'[off+(i-off)]?=l[i-off]?:=j3 (i-off) (by omega);rw[show off+(i-off)=i by omega,au]at D;have J:i-off<(a.eval n).cells.size:=by omega
   have e2:=p5 (i-off) (a.eval n).cells[i-off] (by simp);refine⟨(a.eval n).cells[i-off],by rw[<-e2];congr 1;omega,E (k3 (i-off) x _ D.symm (by simp)),k2 _ (by simp)⟩;grind)
   (λ_ _ q=>by cases q)
  refine fx (e:=⟨gY,[(b,.box cs')]⟩) (a0 hz (ir (by simp_all) L (by omega) (λk h1 h2=>hf k (by omega) (by omega)) k2)) rfl i' t'
 cases g;cases g;cases g;cases g;cases g;rename_i b ext i off;simp only[RM.run]at g;split at g;rename_i blk I;split at g;rename_i esz rows;split at g;rename_i aa;split at g;rename_i row Q;obtain⟨H,h3,T⟩:=bind_some g;split at T;rename_i U;split at T;rename_i O V;cases T;have I:s.σ[b]?=some (.arr true esz rows):=I;obtain⟨am,ba⟩:=U;obtain⟨g1,i1,t1,f1,l1,r1⟩:=YL hi (.refl _) h3 ry;have S:(upd H.2 s.σ)[b]?=some (.arr true esz rows):=by grind [Dc]
 have Y:=rx.mono hi t1;obtain⟨j1,j2,j3,j4⟩:=PW V;have a7: ∀u∈(a.eval n).cells.toList,u.oneCell'=true:=by
  intro u hu;obtain⟨k,G⟩:=mT hu;have G:(a.eval n).cells[k]?=some u:=by simpa using G
  have J:=SF G;exact(r1 k H.1[k] u (by simp_all) G).one
 generalize hz:a.eval x'=z at Y;cases Y with
 |ep _ _ _ _ _ wm' a5 rows' p0 A p2 p3=>
  have A:(upd H.2 s.σ)[b]?=some (.arr wm' a5 rows'):=A;rw[S]at A;injection A with A;injection A with a1 a2 a3;subst a1 a2 a3;have J:=JA Q;obtain⟨r,m,hv⟩:=p3 aa (by omega);rcases i1.arr b _ _ _ S with⟨C,_⟩|⟨rr,c,D,fz,C,L,aq,av,Z,hf⟩;simp_all;rw[m]at C;injection C with C;injection C with m1 _;subst m1;have b5:=aq row (iU Q);have hlen:(a.eval n).cells.toList.length=H.1.length:=by simp[l1]
  have bh:i*esz+esz<=rows.length*esz:=(by have:=zQ4 esz (show i+1<=rows.length from J);grind);have N:s.w.heap[r]?=some (.cells c D fz):=L;have B:=MY (vs:=(a.eval n).cells.toList) (o:=i*esz+off) N (by grind);obtain⟨i2,t2⟩:=gi (s0:=⟨upd H.2 s.σ,g1,s.w⟩) i1 (blk:=.arr true esz (rows.set i O)) S B (λk h1 h2=>by
   grind [Wr1]) (.arr _ _ _ (by simp)) (λ_ q=>by cases q) (λb9 b4 q E=>by
   injection q with _ h1 h2;subst h1 h2;obtain⟨c0,e0,aw,c',K,q2,q3,q4,q5,q6⟩:=B.there;rw[N]at K;injection K with K;injection K with w1 w2 w3;subst w1 w2 w3;refine .inr ⟨r,c',D,fz,m,q2,λbz bx=>?_,by simp;omega,λk j a6 x0 G hj=>⟨?_,λh=>by cases h⟩,by simp_all⟩;grind;have bm:=JA hj;by_cases W:k=i;subst W;rw[DK J]at G;cases G;by_cases b1:off<=j/\j<off+H.1.length;have D:=j3 (j-off) (by omega);rw[show off+(j-off)=j by omega,hj]at D;have R:j-off<(a.eval n).cells.size:=by omega
   have e2:=q5 (j-off) (a.eval n).cells[j-off] (by simp);refine⟨(a.eval n).cells[j-off],by rw[<-e2];congr 1;omega,E (r1 (j-off) x0 _ D.symm (by simp))⟩;grind;rw[HH (Ne.symm W)]at G;obtain⟨⟨v',b0,ak⟩,_⟩:=Z k j a6 x0 G hj;refine⟨v',?_,E ak⟩;rw[q6 _ ?_];exact b0;have an:j<esz:=by grind
   rw[hlen];rcases zQ3 k i with R|c1;left;have:=lW R an;omega;right;have:=zQ4 esz (show i+1<=k by omega);grind)
  refine fx (e:=⟨gY,H.2++[(b,.arr true esz (rows.set i O))]⟩) (g':=g1) (a0 (hz.trans hv) (ir (by simp_all) N (by grind) (λk h1 h2=>hf.1 k (by omega) (by grind)) a7)) rfl ?_ ?_;rw[fH];exact i2;rw[fH];exact t1.trans t2
 cases T;cases T;cases g;cases g;cases g;cases g;cases g;cases hc
end
end Go.Am
end
section
namespace Go.Am
theorem Fz(vs:List Value): ∀(k:Nat) (off:Nat) (cs:Array Value),off+k+vs.length<=cs.size->
  let r:=(vs.zipIdx k).foldl (λcs (x:Value×Nat)=>cs.setIfInBounds (off+x.2) x.1) cs
  r.size=cs.size/\(∀(j:Nat) v,vs[j]?=some v->r[off+k+j]?=some v)/\ ∀i,(i<off+k\/off+k+vs.length<=i)->r[i]?=cs[i]?:=by
 induction vs with
 |nil=>simp_all
 |cons v vs ih=>
  intro k off cs h;simp only[vQ]at h;have:=ih (k+1) off (cs.setIfInBounds (off+k) v) (by simp;omega);simp only[List.zipIdx_cons,List.foldl_cons];obtain⟨h1,h2,h3⟩:=this;grind
section
variable {P:Program} {F:Orc} {s:Sn} {a:Act} {env:List (Nat×AV)} {o:Oper} {new:Nat} {e:Eff}
theorem ta{place:Nat->Option (Nat×Nat)}{cells:Array Value}{i:Nat}{v:Value}{rest:List (Nat×Value)}{off size:Nat}(hp:place i=some (off,size))(hs:v.cells.size=size)(hl:off+size<=cells.size):
  ∃e:Array Value,Instr.fill place cells ((i,v)::rest)=Instr.fill place e rest/\e.size=cells.size/\(∀(j:Nat) u,v.cells[j]?=some u->e[off+j]?=some u)/\
   ∀k,(k<off\/off+size<=k)->e[k]?=cells[k]?:=by
 subst hs;obtain⟨h1,h2,h3⟩:=Fz v.cells.toList 0 off cells (by simp;omega);refine⟨v.cells.zipIdx.foldl (λcs (c,j)=>cs.setIfInBounds (off+j) c) cells,?_,?_,?_,?_⟩;grind [Instr.fill]
 all_goals (have g:v.cells.zipIdx.foldl (λcs (x:Value×Nat)=>cs.setIfInBounds (off+x.2) x.1) cells=(v.cells.toList.zipIdx 0).foldl (λcs (x:Value×Nat)=>cs.setIfInBounds (off+x.2) x.1) cells:=by
             rw[<-Array.foldl_toList];simp)
 all_goals simp_all
theorem fo{place:Nat->Option (Nat×Nat)}: ∀{parts:List (Nat×Nat×List AV)} {ps:List (Nat×Value)} {cs cs':List AV} {cells:Array Value},
  qC parts cs=some cs'->parts.length=ps.length->
  (∀(k:Nat) off size l i v,parts[k]?=some (off,size,l)->ps[k]?=some (i,v)->place i=some (off,size)/\l.length=v.cells.size/\(∀u∈v.cells.toList,u.oneCell'=true)/\
   ∀(j:Nat) y u,l[j]?=some y->v.cells[j]?=some u->JK s y u)->
  cs.length=cells.size->(∀(i:Nat) x,cs[i]?=some x-> ∃u,cells[i]?=some u/\JK s x u/\u.oneCell'=true)->
  ∃e,Instr.fill place cells ps=some e/\cs'.length=e.size/\ ∀(i:Nat) x,cs'[i]?=some x-> ∃u,e[i]?=some u/\JK s x u/\u.oneCell'=true
 |[],[],cs,cs',cells,h,_,_,hl,hr=>by simp[qC]at h;subst h;exact⟨cells,rfl,hl,hr⟩
 |[],_::_,_,_,_,_,hl,_,_,_=>by simp at hl
 |_::_,[],_,_,_,_,hl,_,_,_=>by simp at hl
 |(off,size,l)::parts,(i,v)::ps,cs,cs',cells,h,hlen,hp,hl,hr=>by
  unfold qC at h;split at h;rename_i D;split at h;rename_i F n;obtain⟨z,H,q,r⟩:=hp 0 off size l i v rfl rfl;obtain⟨G,M,w,I⟩:=PW n;obtain⟨g,J,K,A,L⟩:=ta (v:=v) (rest:=ps) (cells:=cells) z (by omega) (by omega);obtain⟨e,Q,O,N⟩:=fo (cells:=g) h (by simpa using hlen) (λk off size l i v h1 h2=>hp (k+1) off size l i v (by simpa using h1) (by simpa using h2)) (by omega) (λk x B=>by
   by_cases E:off<=k/\k<off+l.length;have o:=w (k-off) (by omega);rw[show off+(k-off)=k by omega,B]at o;have C:k-off<v.cells.size:=by omega
   have P:=A (k-off) v.cells[k-off] (by simp);exact⟨v.cells[k-off],by simp_all,r (k-off) x _ o.symm (by simp),q _ (by simp)⟩;grind)
  simp_all;cases h;cases h
theorem gx(he:bT s a.tmps env){place:Nat->Option (Nat×Nat)}: ∀{parts:List (Nat×Nat×Opd)} {ps:List (Nat×Operand)} {l:List (Nat×Nat×List AV)},
  (kY parts).run ⟨env,s.σ⟩=some l->sB place parts ps=true->
  l.length=(ps.map λx=>(x.1,a.eval x.2)).length/\
  ∀(k:Nat) off size cs i v,l[k]?=some (off,size,cs)->(ps.map λx=>(x.1,a.eval x.2))[k]?=some (i,v)->place i=some (off,size)/\cs.length=v.cells.size/\(∀u∈v.cells.toList,u.oneCell'=true)/\
   ∀(j:Nat) y u,cs[j]?=some y->v.cells[j]?=some u->JK s y u
 |[],[],l,h,_=>by
  grind [kY,RM.run]
 |[],_::_,_,_,e=>by grind [sB]
 |_::_,[],_,_,e=>by grind [sB]
 |(off,size,x)::parts,(i,y)::ps,l,h,e=>by
  simp only[sB,JZ,beq_iff_eq]at e;obtain⟨⟨w,g⟩,e⟩:=e;simp only[kY]at h;obtain⟨v,h1,h⟩:=bind_some h;split at h;rename_i cs hcs;obtain⟨l',h2,h⟩:=bind_some h;simp only[RM.run]at h;injection h with h;subst h;obtain⟨n,o⟩:=gx he h2 e;obtain⟨q,z,r⟩:=SR hcs (bL he h1 g);grind;cases h
theorem g5: ∀{fs:List Field},(∀f∈fs,(szT P f.type).isSome=true)-> ∀w:World,
  (fs.mapM λf=>do pure (f.offset,<-sizeOf f.type):Sem (List (Nat×Nat))).run P w=.ok (fs.map λf=>(f.offset,(szT P f.type).getD 0)) w
 |[],_,w=>by simp
 |f::fs,h,w=>by
  have j:(szT P f.type)=some ((szT P f.type).getD 0):=by have:=h f (by simp);cases hq:szT P f.type<;>simp[hq]at this⊢
  have ih:=g5 (fs:=fs) (λg e=>h g (by simp[e])) w;rw[List.mapM_cons];simp only[yM,kF j,tL,HG,ih];simp
theorem JFd(hi:Inv s)(he:bT s a.tmps env){zero parts}(h:(opR F (.build zero parts) new).run ⟨env,s.σ⟩=some e)(hc:JX P (.build zero parts) o.op=true):bS P o a s e:=by
 simp only[opR]at h;obtain⟨l,h1,G⟩:=bind_some h;clear h;unfold JX at hc;simp only at hc;split at hc;rename_i t ps a1;simp only[JZ]at hc;obtain⟨Z,k⟩:=hc;obtain⟨z,a2,L,M⟩:=uP Z;split at G;rename_i cs hcs;obtain⟨r,h3,rfl⟩:=hA G;have E: ∀(i:Nat) x,(zero.map AV.p)[i]?=some x-> ∃u,z.cells[i]?=some u/\JK s x u/\u.oneCell'=true:=by
  intro i x J;rw[gA]at J;cases hzi:zero[i]? with
  |none=>simp_all
  |some c=>
   simp[hzi]at J;subst J;have K:=JA hzi;have T:i<z.cells.size:=by omega
   have:=M (w:=s.w) (C:=s.g.C) i c z.cells[i] hzi (by simp);exact⟨z.cells[i],by simp,.p _ _ this,this.one⟩
 have fin: ∀{place:Nat->Option (Nat×Nat)},sB place parts ps.toList=true->
   ∃j,Instr.fill place z.cells (ps.toList.map λx=>(x.1,a.eval x.2))=some j/\JK s r (.agg j):=by
  intro place D;obtain⟨S,V⟩:=gx he h1 D;obtain⟨j,H,U,Y⟩:=fo (s:=s) (cells:=z.cells) hcs S V (by simp[L]) E;refine⟨j,H,?_⟩;have:=PG (s:=s) (vs:=j.toList) h3 (by simpa using U) (λv R=>by
    obtain⟨i,A⟩:=mT R;have A:j[i]?=some v:=by simpa using A
    have K:=SF A;obtain⟨u,Q,_,h1⟩:=Y i cs[i] (by simp_all);simp_all)
   (λi y v hy R=>by
    grind)
  simp_all
 have a3:(ps.map λx=>(x.1,a.eval x.2)).toList=ps.toList.map λx=>(x.1,a.eval x.2):=by simp
 split at k;rename_i fs Q;simp only[JZ]at k;obtain⟨B,D⟩:=k;obtain⟨j,H,I⟩:=fin D;have a0:(λi=>(fs.map λf=>(f.offset,(szT P f.type).getD 0))[i]?)=FK P fs:=by
  funext i
  simp only[FK,Array.getElem?_map];cases hfi:fs[i]? with
  |none=>rfl
  |some f=>have:=UH.1 B f (Array.mem_of_getElem? hfi);cases N:szT P f.type<;>simp[N]at this⊢
 refine JN hi (v:=.agg j) ?_ I;have W:(fs.mapM λf=>do pure (f.offset,<-sizeOf f.type):Sem (Array (Nat×Nat))).run P s.w=.ok (fs.map λf=>(f.offset,(szT P f.type).getD 0)) s.w:=by
  rw[Array.mapM_eq_mapM_toList];simp only[Sem.run_map,g5 (P:=P) (fs:=fs.toList) (λf O=>UH.1 B f (by simpa using O)),tL]
  congr 1
  grind
 have O:Instr.fill (λi=>(fs.map λf=>(f.offset,(szT P f.type).getD 0))[i]?) z.cells (ps.map λx=>(x.1,a.eval x.2)).toList=some j:=by simp_all
 simp_all [Instr.build,FP,run_underlying,execOp];rename_i n el Q;split at k;rename_i q N;obtain⟨j,H,I⟩:=fin k;refine JN hi (v:=.agg j) ?_ I;have hb:(Instr.build t (ps.map λx=>(x.1,a.eval x.2))).run P s.w=.ok (.agg j) s.w:=by simp_all [Instr.build,FP,run_underlying,kF]
 simp_all [execOp];cases k;cases k;cases G;cases hc
theorem JIJ(hi:Inv s){n}(h:(opR F (.alen n) new).run ⟨env,s.σ⟩=some e)(hc:JX P (.alen n) o.op=true):bS P o a s e:=by
 simp only[opR,RM.run]at h;injection h with h;subst h;unfold JX at hc;simp only at hc;split at hc;rename_i c k;split at hc;rename_i g;split at hc;rename_i y t j r;have z:c.args.map a.eval= #[a.eval y]:=by apply DC;simp[j]
 have q:c.argTypes[0]?=some t:=by rw[<-TP,r];rfl
 split at hc;rename_i m el w;have:m=n:=by simpa using hc
 subst this;exact JN hi (v:=.int .i64 m) (by simp[execOp,k,resolve,g,z,invoke,builtin,Builtin.len_,q,run_underlying w,goInt]) (qB _ _);rename_i ar w;split at hc;rename_i m el x;have:m=n:=by simpa using hc
 subst this;exact JN hi (v:=.int .i64 m) (by simp[execOp,k,resolve,g,z,invoke,builtin,Builtin.len_,q,run_underlying w,run_underlying (fa x),goInt]) (qB _ _);cases hc;cases hc;cases hc;cases hc;cases hc
end
end Go.Am
end
section
namespace Go.Am
def rK(s:Sn)(esz:Nat)(rows:List (List PV))(c:Array Value):Prop:=(∀row∈rows,row.length=esz)/\rows.length*esz<=c.size/\ ∀(i j:Nat) row x,rows[i]?=some row->row[j]?=some x-> ∃u,c[i*esz+j]?=some u/\J0e s.w s.g.C x u
section
variable {P:Program} {F:Orc} {s:Sn} {a:Act} {env:List (Nat×AV)} {o:Oper} {new:Nat} {e:Eff}
theorem rK.mono{s0 s:Sn}(hi:Inv s0)(t:bE s0 s){esz rows c}(h:rK s0 esz rows c):rK s esz rows c:=
 ⟨h.1,h.2.1,λi j row x e g=>let⟨u,h1,h2⟩:=h.2.2 i j row x e g;⟨u,h1,h2.mono hi t⟩⟩
theorem RA{s0:Sn}(hi:Inv s0)(hn:s0.σ[new]?=some .dead){esz:Nat}{rows:List (List PV)}{c:Array Value}{g:TypeId}{fz:Nat×Nat}{w':World}{cap:Nat}
  (k:w'.heap=s0.w.heap.push (.cells c g fz)) (ho:w'.os=s0.w.os) (hp:w'.output=s0.w.output) (hf:wI esz fz c.size) (hr:rK s0 esz rows c) (e:rows.length<=cap) (j:cap*esz<=c.size):
  (∃g',Inv ⟨s0.σ.set new (.arr true esz rows),g',w'⟩/\bE s0 ⟨s0.σ.set new (.arr true esz rows),g',w'⟩/\
   JK ⟨s0.σ.set new (.arr true esz rows),g',w'⟩ (.slr new 0 rows.length) (.slice (some ⟨s0.w.heap.size,0,none⟩) rows.length cap)):=by
 obtain⟨n,t'⟩:=QE hi hn (blk:=.arr true esz rows) k ho hp hf.1 (λ_ _ _ h=>by injection h with _ h _;subst h;exact hf.2) hr;refine⟨_,n,t',.slr new 0 _ _ true esz rows ⟨_,_,rfl,.inr (by simp)⟩ (kJ hn) (by omega) λ_=>.inr ⟨s0.w.heap.size,cap,c,g,fz,if_pos rfl,by simp,e,RI k,by simpa using j⟩⟩
theorem gj{s0:Sn}(hi:Inv s0){esz:Nat}{rows:List (List PV)}{c:Array Value}{h:TypeId}{fz:Nat×Nat}{w':World}{cap:Nat}
  (k:w'.heap=s0.w.heap.push (.cells c h fz)) (ho:w'.os=s0.w.os) (hp:w'.output=s0.w.output) (hr:rK s0 esz rows c) (e:rows.length<=cap):
  (∃g',Inv ⟨s0.σ,g',w'⟩/\bE s0 ⟨s0.σ,g',w'⟩/\JK ⟨s0.σ,g',w'⟩ (.p (.sl esz rows)) (.slice (some ⟨s0.w.heap.size,0,none⟩) rows.length cap)):=by
 obtain⟨n,t'⟩:=JDW hi k ho hp;refine⟨_,n,t',.p _ _ (io (s:=⟨s0.σ,_,w'⟩) rfl e hr.1 (.inr ⟨_,0,rfl,λi j row x g o=>⟨.inr rfl,?_⟩⟩))⟩;obtain⟨u,q,hrel⟩:=hr.2.2 i j row x g o;exact⟨u,by grind [lZ],hrel.mono hi t'⟩
theorem pk{F:List Blk}{tmps:Array Value}(he: ∀n x,lk n env=some x-> ∃v,a.tmps[n]?=some v): ∀{xs:List Opd} {j:List Operand} {s:Sn} {y:List (List PV)×List (Nat×Blk)},Inv s->Frz F s.σ->bT s a.tmps env->
  (fzs xs).run ⟨env,F⟩=some y->iZ xs j=true->
  ∃g',Inv ⟨upd y.2 s.σ,g',s.w⟩/\bE s ⟨upd y.2 s.σ,g',s.w⟩/\Frz s.σ (upd y.2 s.σ)/\y.1.length=j.length/\
   ∀(k:Nat) cs q,y.1[k]?=some cs->j[k]?=some q->cs.length=(a.eval q).cells.size/\ ∀(i:Nat) c u,cs[i]?=some c->(a.eval q).cells[i]?=some u->J0e s.w g'.C c u
 |[],[],s,y,hi,r,z,h,_=>by
  simp only[fzs,RM.run]at h;injection h with h;subst h;exact⟨s.g,hi,.refl s,.refl _,rfl,λk cs q h=>by simp at h⟩
 |[],_::_,_,_,_,_,_,_,e=>by grind [iZ]
 |_::_,[],_,_,_,_,_,_,e=>by grind [iZ]
 |x::xs,q::j,s,y,hi,r,z,h,e=>by
  simp only[iZ,JZ]at e;simp only[fzs]at h;obtain⟨v,h1,h⟩:=bind_some h;obtain⟨o,h2,h⟩:=bind_some h;obtain⟨N,h3,h⟩:=bind_some h;simp only[RM.run]at h;injection h with h;subst h;have E:(ev x).run ⟨env,s.σ⟩=some v:=by cases x<;>simp_all [ev,RM.run]
  have O:=bL z E e.1;obtain⟨J,i1,D,B,M,K⟩:=YL hi r h2 O;obtain⟨H,i2,A,L,Q,R⟩:=pk (tmps:=tmps) he (s:=⟨upd o.2 s.σ,J,s.w⟩) i1 (r.trans B) (z.mono hi D) h3 e.2;refine⟨H,by grind [fH],by rw[fH];exact D.trans A,by rw[fH];exact B.trans L,by simp[Q],λk cs q' G I=>?_⟩;cases k with
  |zero=>simp at G I;subst G I;exact⟨M,λi c u e P=>J0e.mono (s0:=⟨upd o.2 s.σ,J,s.w⟩) (s:=⟨upd N.2 (upd o.2 s.σ),H,s.w⟩) i1 A (K i c u e P)⟩
  |succ k=>grind
theorem ul{esz:Nat}(z:0<esz): ∀{parts:List (Nat×List PV)} {ps:List (Nat×Value)} {rows rows':List (List PV)} {cells:Array Value},
  AH esz parts rows=some rows'->parts.length=ps.length->
  (∀(k:Nat) i cs j v,parts[k]?=some (i,cs)->ps[k]?=some (j,v)->i=j/\cs.length=v.cells.size/\ ∀(m:Nat) c u,cs[m]?=some c->v.cells[m]?=some u->J0e s.w s.g.C c u)->
  rK s esz rows cells->cells.size=rows.length*esz->
  ∃e,Instr.fill (λi=>some (i*esz,esz)) cells ps=some e/\rK s esz rows' e/\rows'.length=rows.length/\e.size=rows.length*esz
 |[],[],rows,rows',cells,h,_,_,hr,hs=>by simp[AH]at h;subst h;exact⟨cells,rfl,hr,rfl,hs⟩
 |[],_::_,_,_,_,_,hl,_,_,_=>by simp at hl
 |_::_,[],_,_,_,_,hl,_,_,_=>by simp at hl
 |(i,cs)::parts,(j,v)::ps,rows,rows',cells,h,hlen,hp,hr,hs=>by
  unfold AH at h;split at h;rename_i B;obtain⟨rfl,M,D⟩:=hp 0 i cs j v rfl rfl;have E:i*esz+esz<=rows.length*esz:=(by have:=zQ4 esz (show i+1<=rows.length from B.2);grind);obtain⟨o,N,P,G,F⟩:=ta (place:=λi=>some (i*esz,esz)) (v:=v) (rest:=ps) (cells:=cells) (i:=i) rfl (by omega) (by omega);obtain⟨H,U,I⟩:=hr;obtain⟨e,S,R,Q,O⟩:=ul z (cells:=o) h (by simpa using hlen) (λk i cs j v h1 h2=>hp (k+1) i cs j v (by simpa using h1) (by simpa using h2))
   ⟨λrow T=>by
     grind,by simp;omega,λk m row x n q=>by
     by_cases r:k=i;subst r;rw[DK B.2]at n;injection n with n;subst n;have L:=JA q;have y:m<v.cells.size:=by omega
     exact⟨v.cells[m],G m _ (by simp),D m x _ q (by simp)⟩;rw[HH (Ne.symm r)]at n;obtain⟨u,J,hrel⟩:=I k m row x n q;refine⟨u,?_,hrel⟩;rw[F _ ?_];exact J;have A:=JA q;rw[H row (iU n)]at A;rcases zQ3 k i with y|K;grind [lW];right;have:=zQ4 esz (show i+1<=k by omega);grind⟩ (by simp;omega)
  grind;cases h
theorem QH{t:TypeId}{n:Nat}(h:szT P t=some n): ∃i,P.info? t=some i/\i.size=n:=by simp_all [szT]
theorem ZL{t:TypeId}{v:Value}{i:TypeInfo}(h:zeT P t=some v)(hi:P.info? t=some i):i.zero=some v:=by
 grind [zeT]
theorem di{t:TypeId}{n:Nat}{i:TypeInfo}(h:byT P t=some n)(hi:P.info? t=some i):i.bytes=n:=by
 grind [byT]
theorem JGk{z:Array Value}{esz n i j:Nat}(hz:z.size=esz)(hi:i<n)(hj:j<esz):(madeCells z (n*esz))[i*esz+j]?=z[j]?:=by
 grind [lW,Nat.add_mul_mod_self_right,Nat.mod_eq_of_lt,madeCells]
theorem vh{zero:List PV}{z:Value}{esz n m:Nat}(hl:zero.length=esz)(k:zero.length=z.cells.size)
  (g: ∀{w C} (i:Nat) x u,zero[i]?=some x->z.cells[i]?=some u->J0e w C x u) (q:n<=m):rK s esz (List.replicate n zero) (madeCells z.cells (m*esz)):=by
 refine⟨λrow v=>by simp_all,?_,λi j row x hi h=>?_⟩;simp_all [size_madeCells,zQ4];have e:=JA hi;have:=List.eq_of_mem_replicate (iU hi);subst this;have o:=JA h;simp at e;have r:z.cells.size=esz:=by omega
 refine⟨z.cells[j],?_,g j x _ h (by simp)⟩;grind [JGk]
theorem JBe(hi:Inv s)(he:bT s a.tmps env){own esz bytes zero l c}(hn:own=true->s.σ[new]?=some .dead)(h:(opR F (.mkslice own esz bytes zero l c) new).run ⟨env,s.σ⟩=some e)
  (hc:JX P (.mkslice own esz bytes zero l c) o.op=true):bS P o a s e:=by
 simp only[opR]at h;obtain⟨u,h1,E⟩:=bind_some h;obtain⟨v,h2,g⟩:=bind_some E;clear h E;unfold JX at hc;simp only at hc;split at hc;rename_i t l' c' Z;simp only[JZ]at hc;obtain⟨⟨W,D⟩,x⟩:=hc;have T:=bL he h1 W;have U:=bL he h2 D;split at x;rename_i el G;simp only[JZ,beq_iff_eq,decide_eq_true_eq]at x;obtain⟨⟨⟨⟨⟨Y,L⟩,V⟩,I⟩,S⟩,R⟩:=x;obtain⟨i,j,J⟩:=QH Y;obtain⟨z,H,K,M⟩:=uP V;have Q:=di L j;split at g;rename_i k n k' m;split at g;rename_i r;obtain⟨N,O,hb,hm⟩:=r;have e1:=jA T;have e2:=jA U;have B:=run_make (P:=P) s.w t el i z (gZ G) j (ZL H j) k k' n m N O (by simp_all) (by omega);rw[J]at B;have q:rK s esz (List.replicate n.toNat zero) (madeCells z.cells (m.toNat*esz)):=vh I K M (by omega);have y:(execOp a.eval o).run P s.w=.ok (.value (.slice (some ⟨s.w.heap.size,0,none⟩) n.toNat m.toNat)) (s.w.alloc (.cells (madeCells z.cells (m.toNat*esz)) el)):=by simp_all [execOp]
 split at g;rename_i A;simp only[RM.run]at g;injection g with g;subst g;obtain⟨g',C,t',r'⟩:=RA hi (hn A) (w':=s.w.alloc (.cells (madeCells z.cells (m.toNat*esz)) el)) (fz:=(0,0)) rfl rfl rfl (wI.zero _ _) q (cap:=m.toNat) (by simp;omega) (by simp[size_madeCells]);simp only[zD]at r';exact iF y C t' r';simp only[RM.run]at g;injection g with g;subst g;obtain⟨g',C,t',r'⟩:=gj hi (w':=s.w.alloc (.cells (madeCells z.cells (m.toNat*esz)) el)) (fz:=(0,0)) rfl rfl rfl q (cap:=m.toNat) (by simp;omega);simp only[zD]at r';exact iF (e:=⟨_,[]⟩) y C t' r';cases g;cases g;cases x;cases hc
theorem JIk(hi:Inv s)(he:bT s a.tmps env){own esz n zero parts}(hn:own=true->s.σ[new]?=some .dead)(h:(opR F (.lits own esz n zero parts) new).run ⟨env,s.σ⟩=some e)
  (hc:JX P (.lits own esz n zero parts) o.op=true):bS P o a s e:=by
 simp only[opR]at h;obtain⟨y,h1,r⟩:=bind_some h;clear h;unfold JX at hc;simp only at hc;split at hc;rename_i t len ps ad;simp only[JZ,beq_iff_eq]at hc;obtain⟨rfl,G⟩:=hc;split at G;rename_i el J;simp only[JZ,beq_iff_eq,decide_eq_true_eq]at G;obtain⟨⟨⟨⟨⟨hs,ae⟩,hz⟩,Z⟩,N⟩,hidx⟩:=G;obtain⟨z,W,a0,a4⟩:=uP hz;have A:iZ (parts.map (·.2)) (ps.toList.map (·.2))=true/\parts.map (·.1)=ps.toList.map (·.1):=by
  have: ∀{p:List (Nat×Opd)} {q:List (Nat×Operand)},KU p q=true->iZ (p.map (·.2)) (q.map (·.2))=true/\p.map (·.1)=q.map (·.1):=by
   intro p
   induction p with
   |nil=>intro q h;cases q<;>simp[KU]at h⊢;rfl
   |cons x p ih=>intro q h;cases q<;>grind [KU,iZ]
  exact this hidx
 obtain⟨T,i1,t1,f1,l1,r1⟩:=pk (tmps:=a.tmps) (λn x hx=>let⟨v,h,_⟩:=he n x hx;⟨v,h⟩) hi (.refl _) he h1 A.1;split at r;rename_i rows H;have E:(parts.map (·.1)).length=(ps.toList.map (·.1)).length:=by rw[A.2]
 simp at E;simp at l1;have R:((parts.map (·.1)).zip y.1).length=(ps.toList.map λx=>(x.1,a.eval x.2)).length:=by simp;omega
 obtain⟨g,O,r2,B,V⟩:=ul (s:=⟨upd y.2 s.σ,T,s.w⟩) N (ps:=ps.toList.map λx=>(x.1,a.eval x.2)) (cells:=madeCells z.cells (len*esz)) H R (λk i cs j v hk S=>by
   rw[List.getElem?_zip_eq_some]at hk;obtain⟨I,U⟩:=hk;rw[gA]at S;cases hpk:ps.toList[k]? with
   |none=>simp_all
   |some q=>
    simp[hpk]at S;obtain⟨rfl,rfl⟩:=S;rw[A.2,gA,hpk]at I;simp at I;obtain⟨k3,k4⟩:=r1 k cs q.2 U (by simp_all);grind)
  (vh Z a0 a4 (zQ0 _)) (by simp[size_madeCells])
 simp at B V;have K:(execOp a.eval o).run P s.w=.ok (.value (.slice (some ⟨s.w.heap.size,0,none⟩) len len)) (s.w.alloc (.cells g el)):=by
  have D: ¬(len*esz>2^24):=by omega
  have L:(ps.map fun(x:Nat×Operand)=>(x.1,a.eval x.2)).toList=ps.toList.map λx=>(x.1,a.eval x.2):=by simp
  have hb:(Instr.buildSlice t len (ps.map fun(x:Nat×Operand)=>(x.1,a.eval x.2))).run P s.w=.ok (.slice (some ⟨s.w.heap.size,0,none⟩) len len) (s.w.alloc (.cells g el)):=by
   unfold Instr.buildSlice;by_cases h0:len*esz=0;have C:madeCells z.cells (len*esz)= #[]:=by grind [madeCells]
   rw[C]at O;have Y: ¬((0:Nat)>2^24):=by decide
   have a3:Array.range 0= #[]:=rfl;simp only[Y,yM,run_underlying (gZ J),tL,kF hs,D,if_false,h0,if_true,HG,L,a3,Array.map_empty,O,newRow,run_newObj];rfl;have C:((Array.range (len*esz)).map λx=>z.cells[x%z.cells.size]!)=madeCells z.cells (len*esz):=rfl;simp only[yM,run_underlying (gZ J),tL,kF hs,D,if_false,h0,FP W,HG,L,C,O,newRow,run_newObj];rfl
  simp_all [execOp]
 split at r;rename_i M;simp only[RM.run]at r;injection r with r;subst r;have a1:(upd y.2 s.σ)[new]?=some .dead:=f1.2 _ _ (hn M) (by simp);obtain⟨g',Q,t',r'⟩:=RA (s0:=⟨upd y.2 s.σ,T,s.w⟩) i1 a1 (w':=s.w.alloc (.cells g el)) (fz:=(0,0)) rfl rfl rfl (wI.zero _ _) r2 (cap:=len) (by omega) (by omega);rw[B]at r';refine iF (e:=⟨_,y.2++[(new,.arr true esz rows)]⟩) (g':=g') K ?_ ?_ ?_;rw[fH];exact Q;rw[fH];exact t1.trans t';rw[fH];exact r';simp only[RM.run]at r;injection r with r;subst r;obtain⟨g',Q,t',r'⟩:=gj (s0:=⟨upd y.2 s.σ,T,s.w⟩) i1 (w':=s.w.alloc (.cells g el)) (fz:=(0,0)) rfl rfl rfl r2 (cap:=len) (by omega);rw[B]at r';exact iF (e:=⟨_,y.2⟩) K Q (t1.trans t') r';cases r;cases G;cases hc
end
end Go.Am
end
section
namespace Go.Am
section
variable {P:Program} {F:Orc} {s:Sn} {a:Act} {env:List (Nat×AV)} {o:Oper} {new:Nat} {e:Eff}
theorem wa(l:List UInt8)(c:Array Value)(hc: ∀(i:Nat) b,l[i]?=some b->c[i]?=some (.int .u8 b.toNat))(hl:l.length<=c.size):rK s 1 (l.map mW) c:=by
 refine⟨λrow g=>?_,by simpa using hl,λi j row x hi e=>?_⟩;obtain⟨b,_,rfl⟩:=jM.1 g;rfl;rw[gA]at hi;cases hli:l[i]? with
 |none=>simp_all
 |some b=>
  simp[hli]at hi;subst hi;have:j=0:=by grind [mW]
  subst this;simp[mW]at e;subst e;exact⟨_,by simp_all,.i _ _⟩
theorem ZW{α:Type}{esz:Nat}: ∀{rows:List (List α)},(∀row∈rows,row.length=esz)-> ∀{i j:Nat} {row:List α} {x:α},rows[i]?=some row->row[j]?=some x->rows.flatten[i*esz+j]?=some x
 |[],_,i,j,row,x,h,_=>by simp at h
 |r0::g,e,i,j,row,x,h,n=>by
  have o:r0.length=esz:=e r0 (by simp);cases i with
  |zero=>
   grind
  |succ i=>
   simp only[kR];rw[mM (by grind)];have:=ZW (rows:=g) (λrow k=>e row (by simp[k])) (by simpa using h) n;grind
theorem Kc{el:TypeId}(l:List UInt8)(w:World): ∃w' cap c fz,(Conv.stringToBytes el ⟨l.toArray⟩).run P w=.ok (.slice (some ⟨w.heap.size,0,none⟩) l.length cap) w'/\
  w'.heap=w.heap.push (.cells c el fz)/\w'.os=w.os/\w'.output=w.output/\DX fz 0 c.size/\l.length<=cap/\c.size=cap/\ ∀(i:Nat) b,l[i]?=some b->c[i]?=some (.int .u8 b.toNat):=by
 have k:(Question.appendCap l.length 0 el).forced=false:=rfl;have e:l.length<=(Question.appendCap l.length 0 el).cut (w.tape w.drawn (.appendCap l.length 0 el)):=by simp[Question.cut]
 generalize j:(Question.appendCap l.length 0 el).cut (w.tape w.drawn (.appendCap l.length 0 el))=cap at e
 let c:Array Value:=(l.toArray.map λb=>Value.int .u8 b.toNat)++Array.replicate (cap-l.length) (.int .u8 0)
 have r:c.size=cap:=by simp[c];omega
 refine⟨({w with drawn:=w.drawn+1,heap:=w.heap.push (.cells c el)}).freeze {block:=w.heap.size,off:=c.size} 1,cap,c,(c.size,c.size+1),?_,?_,?_,?_,?_,e,r,?_⟩;unfold Conv.stringToBytes;have n:ByteArray.size ⟨l.toArray⟩=l.length:=uF l;have g:World.shape? {w with drawn:=w.drawn+1,heap:=w.heap.push (.cells c el)} w.heap.size=some (el,c.size):=by simp[World.shape?]
 have q:(Array.map (λb=>Value.int IntKind.u8 ↑(UInt8.toNat b)) l.toArray++Array.replicate (cap-l.length) (Value.int IntKind.u8 0))=c:=rfl;simp only[yM,run_choose,n,k,eL,if_false,tL,j,newRow,run_newObj,HG,markStringish,run_shape,run_freeze,q,g];grind [World.freeze];simp[World.freeze];simp[World.freeze];intro o _ h;simp;omega;grind
theorem JBH(hi:Inv s)(he:bT s a.tmps env){own x}(hn:own=true->s.σ[new]?=some .dead)(h:(opR F (.conv (.toBytes own) x) new).run ⟨env,s.σ⟩=some e)
  (hc:JX P (.conv (.toBytes own) x) o.op=true):bS P o a s e:=by
 simp only[opR]at h;obtain⟨u,h1,g⟩:=bind_some h;clear h;unfold JX at hc;simp only at hc;split at hc;rename_i L dst y J;simp only[JZ]at hc;obtain⟨I,N,q⟩:=hc;have G:=bL he h1 I;split at q;rename_i el K;simp only[JZ,beq_iff_eq]at q;have v: ∃l,u=.p (.s l)/\(if own=true then RM.ret ⟨.slr new 0 l.length,[(new,.arr true 1 (l.map mW))]⟩else RM.ret ⟨.p (.sl 1 (l.map mW)),[]⟩:RM Eff).run ⟨env,s.σ⟩=some e:=by
  cases u with
  |p c=>cases c with|s l=>simp_all|_=>cases g
  |_=>cases g
 clear g;obtain⟨l,rfl,g⟩:=v
 skip
 obtain⟨w',cap,c,fz,E,z,B,A,H,D,hcs,C⟩:=Kc (P:=P) (el:=el) l s.w;have M:=tX G;have k:(execOp a.eval o).run P s.w=.ok (.value (.slice (some ⟨s.w.heap.size,0,none⟩) l.length cap)) w':=by simp_all [execOp,convert,run_underlying,xI,gZ,su]
 have j:=wa (s:=s) l c C (by omega);split at g;rename_i n;simp only[RM.run]at g;injection g with g;subst g;obtain⟨g',r,t',r'⟩:=RA (esz:=1) hi (hn n) z B A ⟨H,λh=>absurd rfl h⟩ j (cap:=cap) (by simp_all) (by omega);simp only[fE]at r';exact iF k r t' r';simp only[RM.run]at g;injection g with g;subst g;obtain⟨g',r,t',r'⟩:=gj hi z B A j (cap:=cap) (by simp_all);simp only[fE]at r';exact iF (e:=⟨_,[]⟩) k r t' r';cases q;cases hc
theorem Dv(hi:Inv s){esz:Nat}{x:AV}{new:List (List PV)}{v:Value}{u:TypeId}(h:(dH esz x).run ⟨env,s.σ⟩=some new)(hr:JK s x v)
  (hu:(elT P u).isSome=true\/jS P u=true):
  ∃news,Src P esz u v new.length news s.w/\(∀row∈new,row.length=esz)/\
   ∀(i j:Nat) row y,new[i]?=some row->row[j]?=some y-> ∃q,news[i*esz+j]?=some q/\J0e s.w s.g.C y q:=by
 have e:(∃e',P.underlying u=some (.slice e'))\/P.underlying u=some .string:=(by rcases hu with hu|hu;obtain⟨e',O⟩:=kh.1 hu;simp_all [gZ];grind [xI]);rcases u9 hi h hr with⟨l,rfl,rfl,rfl,rfl⟩|F;have hlen:(byteCells ⟨l.toArray⟩).length=l.length:=by rw[byteCells_length,uF]
 have R: ∀w:World,(Builtin.firstCells 1 l.length (.string ⟨l.toArray⟩)).run P w=.ok (byteCells ⟨l.toArray⟩).toArray w:=(by grind [firstCells_string,uF]);refine⟨byteCells ⟨l.toArray⟩,⟨e,λw=>by rw[fE,<-uF];rfl,by simp_all,by simp_all,by rw[hlen];simp,λq I=>by obtain⟨_,_,rfl⟩:=jM.1 I;rfl⟩,λrow hr=>?_,?_⟩;obtain⟨b,_,rfl⟩:=jM.1 hr;rfl;have:=(wa (s:=s) l (byteCells ⟨l.toArray⟩).toArray (λi b S=>by
  grind [byteCells]) (by simp_all)).2.2
 simp_all;obtain⟨D,cap,vs,L,G,hlen,hrel,A,n⟩:=F.cells;have z: ∀q∈vs,q.oneCell'=true:=by
  intro q I;obtain⟨k,J⟩:=mT I;have N:=JA J;have:k<new.flatten.length:=by grind [RF]
  obtain⟨q',o,hr⟩:=hrel k _ (zQ9 this);rw[J]at o;injection o with o;subst o;exact hr.one
 have B: ∀(i j:Nat) row y,new[i]?=some row->row[j]?=some y-> ∃q,vs[i*esz+j]?=some q/\J0e s.w s.g.C y q:=by
  intro i j row y h1 h2;refine hrel _ _ ?_;clear hrel A hlen z h hr L G F
  induction new generalizing i with
  |nil=>simp at h1
  |cons K new ih=>have Q:K.length=esz:=n K (by simp);cases i<;>grind
 subst L;rcases A with H|⟨r,M,rfl,T⟩;subst H;simp at hlen;subst hlen;refine⟨[],?_,n,B⟩;cases D with
 |none=>exact⟨e,λ_=>rfl,run_firstCells_none s.w esz 0 0 cap,run_firstCells_none s.w.drew esz 0 0 cap,by simp,λ_ h=>by cases h⟩
 |some D=>exact⟨e,λ_=>rfl,run_firstCells_some s.w esz 0 D 0 cap [] (by simp) (λj u h=>by simp at h),run_firstCells_some s.w.drew esz 0 D 0 cap [] (by simp) (λj u h=>by simp at h),by simp,λ_ h=>by cases h⟩
 have E: ∀j q,vs[j]?=some q->s.w.cell? (Addr.add ⟨r,M,none⟩ j)=some q:=λj q U=>by grind [AG,rY]
 exact⟨vs,⟨e,λ_=>rfl,run_firstCells_some s.w esz _ _ _ cap vs hlen E,run_firstCells_some s.w.drew esz _ _ _ cap vs hlen (by simpa using E),hlen,z⟩,n,B⟩
theorem PQ(b:Nat)(x:Blk)(σ:List Blk):upd [(b,x)] σ=σ.set b x:=rfl
structure lq(P:Program)(esz bytes:Nat)(t ut ty el:TypeId)(z v:Value)(n:Nat)(news:List Value)(w:World):Prop where
 newsLen:news.length=n*esz
 room: ∀(r off sLen sCap:Nat),sLen+n<=sCap->(∀j,j<news.length->(w.cell? ⟨r,off+sLen*esz+j,none⟩).isSome=true)->(∀j,j<news.length->w.frozen? ⟨r,off+sLen*esz+j,none⟩=false)->
  (Builtin.append_ #[t,ut] ty #[.slice (some ⟨r,off,none⟩) sLen sCap,v]).run P w=.ok (.slice (some ⟨r,off,none⟩) (sLen+n) sCap) (w.setCells r (off+sLen*esz) news)
 grow: ∀(base:Option Addr) (sLen sCap:Nat) (olds:List Value),(Builtin.firstCells esz sLen (.slice base sLen sCap)).run P w.drew=.ok olds.toArray w.drew->sCap<sLen+n->((sLen+n:Nat):Int)<=9223372036854775807->
  Builtin.nextslicecap (sLen+n) sCap*bytes<=281474976710656->
  (Builtin.append_ #[t,ut] ty #[.slice base sLen sCap,v]).run P w=.ok (.slice (some ⟨w.heap.size,0,none⟩) (sLen+n) (grownCap w (sLen+n) sCap el)) (w.drew.alloc (.cells ((olds++news).toArray++Builtin.zeroCells z.cells (grownCap w (sLen+n) sCap el-(sLen+n))) el))
 nil:n=0->(Builtin.append_ #[t,ut] ty #[.slice none 0 0,v]).run P w=.ok (.slice none 0 0) w
theorem Src.gen{esz bytes:Nat}{t ut ty el:TypeId}{i:TypeInfo}{z v:Value}{n:Nat}{news:List Value}{w:World}(g:elT P t=some el)(hs:szT P el=some esz)(j:P.info? el=some i)(x:i.size=esz)(y:i.bytes=bytes)(k:i.zero=some z)
  (h:Src P esz ut v n news w):lq P esz bytes t ut ty el z v n news w:=by
 have e:=h;rw[<-x]at e;refine⟨h.newsLen,λr off sLen sCap h1 h2 h3=>?_,λbase sLen sCap olds h1 h2 h3 C=>?_,λh0=>?_⟩;have B:=run_append_room_src (P:=P) w t ut ty el i (gZ g) j r off sLen sCap v n news e h1 (by simp_all) (by simp_all);simp_all;exact run_append_grow_src (P:=P) w t ut ty el i z (gZ g) j k base sLen sCap olds (by simp_all) v n news e h2 h3 (by simp_all);subst h0;have A:=h.len w;have o:=h.cells;rcases h.kind with⟨e',q⟩|q;simp[Builtin.append_,run_underlying (gZ g),run_underlying q,kF hs,A,o];simp[Builtin.append_,run_underlying (gZ g),run_underlying q,kF hs,A,o]
theorem JBR{esz bytes:Nat}{t ut ty el:TypeId}{i:TypeInfo}{z:Value}{k k':IntKind}{m:Nat}{w:World}(n:elT P t=some el)(hs:szT P el=some esz)(h:P.info? el=some i)(o:i.size=esz)(g:i.bytes=bytes)(j:i.zero=some z)
  (I:z.cells.size=esz) (F: ∀u∈z.cells.toList,u.oneCell'=true) (hk:P.underlying ut=some (.int k)) (hm:m*bytes<=281474976710656) (H:m<=281474976710656):
  lq P esz bytes t ut ty el z (.int k' (m:Int)) m (Builtin.zeroCells z.cells m).toList w:=by
 have B:IntKind.i64.wrap (m:Int)=(m:Int):=by grind [IntKind.wrap_i64]
 have c0: ¬(m:Int)<0:=by omega
 have c1: ¬(281474976710656:Int)<(m:Int)*(bytes:Int):=(by grind);have G:(Builtin.zeroCells z.cells m).toList.length=m*esz:=by grind [size_zeroCells]
 have A: ∀u∈(Builtin.zeroCells z.cells m).toList,u.oneCell'=true:=(by grind [Builtin.zeroCells,Nat.mod_lt]);have C:m*esz=0->Builtin.zeroCells z.cells m= #[]:=(by grind);refine⟨G,λr off sLen sCap h1 h2 h3=>?_,λbase sLen sCap olds h1 h2 h3 J=>?_,λh0=>?_⟩;have v:=run_storeCells_cells (P:=P) r (off+sLen*esz) (Builtin.zeroCells z.cells m).toList 0 w (by simpa using h2) (by simpa using h3) A;simp only[yO]at v;by_cases q:m*esz=0;have e:=C q;rw[e]at v⊢;simp[Builtin.append_,run_underlying (gZ n),run_underlying hk,sizeOf,typeInfo,h,o,g,asInt,asIntOf,B,c0,c1,h1,q,Addr.add_lit,v];simp[Builtin.append_,run_underlying (gZ n),run_underlying hk,sizeOf,typeInfo,zeroValue,h,j,o,g,asInt,asIntOf,B,c0,c1,h1,q,Addr.add_lit,v];have E: ¬(sLen+m<=sCap):=by omega
 have x: ¬(9223372036854775807<((sLen:Int)+(m:Int))):=by omega
 have y: ¬(281474976710656<Builtin.nextslicecap (sLen+m) sCap*bytes):=by omega
 by_cases q:m*esz=0;have e:=C q;rw[e];simp[Builtin.append_,run_underlying (gZ n),run_underlying hk,sizeOf,typeInfo,zeroValue,h,j,o,g,asInt,asIntOf,B,c0,c1,q,E,x,y,Question.forced,h1,newRow,grownCap];simp[Builtin.append_,run_underlying (gZ n),run_underlying hk,sizeOf,typeInfo,zeroValue,h,j,o,g,asInt,asIntOf,B,c0,c1,q,E,x,y,Question.forced,h1,newRow,grownCap]
 congr 2
 grind;subst h0;have D:IntKind.i64.wrap 0=0:=by decide
 simp[Builtin.append_,run_underlying (gZ n),run_underlying hk,sizeOf,typeInfo,h,o,g,asInt,asIntOf,D]
theorem tq(hi:Inv s){esz bytes:Nat}{zero:List PV}{u v:AV}{c:Call}{x' y':Operand}{t ut el:TypeId}(bc:o.op=.call c)(ax:c.callee=.builtin .append)
  (af:c.args.toList=[x',y']) (bx:c.argTypes.toList=[t,ut]) (cj:elT P t=some el)
  (ht:(szT P el==some esz&&byT P el==some bytes&&lL P zero el&&zero.length==esz&&decide (0<esz)&&decide (0<bytes))=true)
  (rx:JK s u (a.eval x')) (hG: ∀(i:TypeInfo) (z:Value) (new:List (List PV)),szT P el=some esz->P.info? el=some i->i.size=esz->i.bytes=bytes->i.zero=some z->zeT P el=some z->zero.length=z.cells.size->new.length*bytes<=281474976710656->new.length<=281474976710656->(dH esz v).run ⟨env,s.σ⟩=some new->
   ∃news,lq P esz bytes t ut o.type el z (a.eval y') new.length news s.w/\(∀row∈new,row.length=esz)/\
    ∀(i j:Nat) row y,new[i]?=some row->row[j]?=some y-> ∃q,news[i*esz+j]?=some q/\J0e s.w s.g.C y q)
  (x:(iX esz bytes u v).run ⟨env,s.σ⟩=some e):bS P o a s e:=by
 simp only[JZ,beq_iff_eq,decide_eq_true_eq]at ht;obtain⟨⟨⟨⟨⟨hs,b7⟩,hz⟩,cb⟩,bo⟩,aj⟩:=ht;obtain⟨i,N,b3⟩:=QH hs;obtain⟨z,an,ck,cd⟩:=uP hz;have K:=di b7 N;have ah:=ZL an N;have hm:c.args.map a.eval= #[a.eval x',a.eval y']:=by apply DC;simp[af]
 have b4:c.argTypes= #[t,ut]:=by grind
 have a7: ∀{q:Value} {w':World},(Builtin.append_ #[t,ut] o.type #[a.eval x',a.eval y']).run P s.w=.ok q w'->(execOp a.eval o).run P s.w=.ok (.value q) w':=by intro q w' hr;simp[execOp,bc,resolve,ax,hm,b4,invoke,builtin,hr]
 unfold iX at x;split at x;rename_i b j n;simp only[RM.run]at x;split at x;rename_i blk E;split at x;rename_i wm Z rows;obtain⟨h,h3,V⟩:=bind_some x;clear x;split at V;rename_i ac;obtain⟨rfl,rfl,rfl,ae⟩:=ac;simp only[RM.run]at V;injection V with V;subst V;have E:s.σ[b]?=some (.arr wm esz rows):=E;have ae:(2*(rows.length+h.length)+512)*bytes<=281474976710656:=by grind [oA]
 have bf:rows.length+h.length<=281474976710656:=by have h5:(2*(rows.length+h.length)+512)*1<=(2*(rows.length+h.length)+512)*bytes:=Nat.mul_le_mul_left _ aj;omega
 have aq:h.length*bytes<=281474976710656:=(by grind);obtain⟨news,J,F,Q⟩:=hG i z h hs N b3 K ah an (by omega) aq (by omega) h3;have a6:=J.newsLen;have L:=jR.of_slr hi rx E (by omega);simp only[HZ]at L;generalize T:a.eval x'=zz at rx;have bu: ∀{O:Nat},O<rows.length+h.length->Builtin.nextslicecap (rows.length+h.length) O*i.bytes<=281474976710656:=by intro O ho;have h5:=nextslicecap_le ho;rw[K];have h6:Builtin.nextslicecap (rows.length+h.length) O*bytes<=(2*(rows.length+h.length)+512)*bytes:=zQ4 _ (by omega);omega
 have grow: ∀{base:Option Addr} {cap:Nat},zz=.slice base rows.length cap->cap<rows.length+h.length->
   bS P o a s ⟨.slr b 0 (rows.length+h.length),[(b,.arr wm esz (rows++h))]⟩:=by
  intro base cap al b6;rw[T]at L;obtain⟨ad,bn,vs,W,bg,H,aa,ai,I⟩:=L.cells;rw[al]at W;injection W with v1 v2 v3;subst v1 v3;have av:(Builtin.firstCells esz rows.length (.slice base rows.length cap)).run P s.w.drew=.ok vs.toArray s.w.drew:=by
   rcases ai with ao|⟨r,o',rfl,cg⟩;subst ao;simp at H;subst H;cases base<;>grind [run_firstCells_none,run_firstCells_some]
   exact run_firstCells_some s.w.drew esz _ _ _ cap vs H (λj q hj=>by
   have:s.w.drew.cell? (Addr.add ⟨r,o',none⟩ j)=s.w.cell? (Addr.add ⟨r,o',none⟩ j):=by simp
   grind [AG,rY])
  have A:=J.grow base rows.length cap vs av b6 (by omega) (by grind);have am:rows.length+h.length<=grownCap s.w (rows.length+h.length) cap el:=by simp[grownCap,Question.cut]
  generalize grownCap s.w (rows.length+h.length) cap el=U at A am;have b1:h≠[]:=by grind
  have ce:z.cells.size=esz:=by omega
  obtain⟨i0,t0⟩:=fy (w':=s.w.drew) hi rfl rfl rfl;have bs:((vs++news).toArray++Builtin.zeroCells z.cells (U-(rows.length+h.length))).size=U*esz:=by
   have:U*esz=(rows.length+h.length)*esz+(U-(rows.length+h.length))*esz:=by rw[<-zQ8];congr 1;omega
   grind [size_zeroCells]
  obtain⟨g',bz,i',t'⟩:=JFA (s0:=⟨s.σ,s.g,s.w.drew⟩) i0 (w':=s.w.drew.alloc (.cells ((vs++news).toArray++Builtin.zeroCells z.cells (U-(rows.length+h.length))) el)) E b1 I F rfl rfl rfl
   (by grind) (λk m row q D hq=>by
    have R:=JA hq;rcases LO D with D|⟨bq,D⟩;have a0:=JA D;rw[I row (iU D)]at R;have au:=lW a0 R;have b8:=ZW I D hq;obtain⟨w,hw,hrel⟩:=aa _ q b8;refine⟨w,?_,hrel.mono hi t0⟩;grind;rw[F row (iU D)]at R;have a0:=JA D;have au:=lW a0 R;obtain⟨w,hw,hrel⟩:=Q _ m row q D hq;have e4:k*esz+m=rows.length*esz+((k-rows.length)*esz+m):=(by grind [Nat.add_sub_cancel']);refine⟨w,?_,hrel.mono hi t0⟩;rw[Array.getElem?_append_left (by simp;omega)];simp;rw[mM (by omega),<-hw];congr 1;omega)
  refine iF (e:=⟨.slr b 0 (rows.length+h.length),[(b,.arr wm esz (rows++h))]⟩) (g':=g') (a7 (by rw[T,al];exact A)) i' (t0.trans t') ?_;refine .slr b 0 _ _ wm esz (rows++h) ⟨_,_,rfl,.inr (by simp)⟩ (kJ E) (by simp) λ_=>.inr ⟨_,U,_,el,(0,0),bz,by simp,am,RI rfl,?_⟩;grind
 cases rx with
 |slr _ _ _ _ wm' Z rows' q0 Y q2 q3=>
  have Y:s.σ[b]?=some (.arr wm' Z rows'):=Y;rw[E]at Y;injection Y with Y;injection Y with a1 a2 a3;subst a1 a2 a3;rcases q3 (by omega)with⟨m',_,bb,W⟩|⟨r,cap,cc,e1,fz,m',W,bi,hh,c1⟩;have ab:rows=[]:=List.eq_nil_of_length_eq_zero bb;subst ab;by_cases aw:h=[];subst aw;simp at a6;subst a6;subst W;have A:(Builtin.append_ #[t,ut] o.type #[.slice none 0 0,a.eval y']).run P s.w=.ok (.slice none 0 0) s.w:=by exact J.nil rfl
  have M:s.σ.set b (.arr wm esz [])=s.σ:=(by apply zQ6;grind);refine iF (e:=⟨.slr b 0 0,[(b,.arr wm esz [])]⟩) (g':=s.g) (a7 (by rw[T];exact A)) ?_ ?_ ?_;rw[PQ,M];exact hi;rw[PQ,M];exact .refl s;rw[PQ,M];exact .slr b 0 0 _ wm esz [] ⟨none,0,rfl,.inl rfl⟩ E (zQ0 _) λ_=>.inl ⟨m',rfl,rfl,rfl⟩;grind [List.length_pos_iff];subst W;by_cases G:rows.length+h.length<=cap;rcases hi.arr b _ _ _ E with⟨B,_⟩|⟨r',c',e',cf,B,S,bw,hlen,ch,ba⟩;grind;rw[m']at B;injection B with B;injection B with B _;subst B;rw[hh]at S;injection S with S;injection S with w1 w2 w3;subst w1 w2 w3;have c3:(rows.length+h.length)*esz<=cc.size:=(by have:=zQ4 esz G;grind);have bt:(rows.length+h.length)*esz=rows.length*esz+h.length*esz:=zQ8 _ _ _;have a9:=MY (vs:=news) (o:=rows.length*esz) hh (by omega);obtain⟨i',t'⟩:=JHC hi E m' F a9 a6 Q;have A:=J.room r 0 rows.length cap G
   (λk D=>by rw[rY,lZ hh];simp;omega)
   (λk D=>by
    have:=ba.1 (0+rows.length*esz+k) (by omega) (by omega);grind [World.frozen?])
  simp only[lO]at A;obtain⟨c0,e0,ci,b5,p1,p2,p3,p4,p5,p6⟩:=a9.there;rw[hh]at p1;injection p1 with p1;injection p1 with w1 w2 w3;subst w1 w2 w3;refine iF (e:=⟨.slr b 0 (rows.length+h.length),[(b,.arr wm esz (rows++h))]⟩) (a7 (by rw[T];simpa using A)) i' t' ?_;refine .slr b 0 _ _ wm esz (rows++h) ⟨_,_,rfl,.inr (by simp)⟩ (kJ E) (by simp) λ_=>.inr ⟨r,cap,b5,e1,fz,m',by simp,G,p2,by grind⟩;grind
 cases V;cases x;cases x;cases x
theorem rk(hi:Inv s){esz bytes:Nat}{zero:List PV}{u v:AV}{c:Call}{B A:Operand}{t ut el:TypeId}(x:o.op=.call c)(r:c.callee=.builtin .append)
  (h:c.args.toList=[B,A]) (n:c.argTypes.toList=[t,ut]) (z:((elT P ut).isSome||jS P ut)=true) (k:elT P t=some el)
  (D:(szT P el==some esz&&byT P el==some bytes&&lL P zero el&&zero.length==esz&&decide (0<esz)&&decide (0<bytes))=true)
  (E:JK s u (a.eval B)) (F:JK s v (a.eval A)) (y:(iX esz bytes u v).run ⟨env,s.σ⟩=some e):bS P o a s e:=
 tq hi x r h n k D E (λ_ _ _ G q C g j _ _ _ _ h3=>by obtain⟨news,w,h1,h2⟩:=Dv (u:=ut) hi h3 F (Bool.or_eq_true_iff.1 z);exact⟨news,Src.gen k G q C g j w,h1,h2⟩) y
theorem JIG(hi:Inv s)(he:bT s a.tmps env){esz bytes zero x y}(h:(opR F (.appz esz bytes zero x y) new).run ⟨env,s.σ⟩=some e)(hc:JX P (.appz esz bytes zero x y) o.op=true):bS P o a s e:=by
 simp only[opR]at h;obtain⟨u,h1,Y⟩:=bind_some h;obtain⟨v,h2,A⟩:=bind_some Y;clear h Y;unfold JX at hc;simp only at hc;split at hc
 ·rename_i c W;split at hc
  ·rename_i R;split at hc
   ·rename_i x' Z t ut G O;simp only[JZ]at hc;obtain⟨⟨⟨hx,I⟩,J⟩,E⟩:=hc;split at E
    ·rename_i el K;split at J
     ·rename_i k hk;split at A
      ·rename_i c1 q;unfold zrs at q;split at q
       ·rename_i k' n;split at q
        case isFalse=>cases q
        rename_i hn;injection q with q;subst q;have ry:=bL he h2 I;obtain⟨m,rfl⟩: ∃m:Nat,n=(m:Int):=⟨n.toNat,by omega⟩;have hv:a.eval Z=.int k' (m:Int):=by generalize a.eval Z=v0 at ry;cases ry with|p _ _ h=>cases h<;>grind
        refine tq hi W R G O K (by omega) (bL he h1 hx) (λi z new hs Q a0 B H hz ae N M h3=>?_) A;simp only[dH,if_pos,RM.run,Int.toNat_natCast]at h3;injection h3 with h3;subst h3;rw[zD]at N M;simp only[JZ,beq_iff_eq,decide_eq_true_eq]at E;obtain⟨⟨⟨⟨⟨_,_⟩,S⟩,a7⟩,a5⟩,_⟩:=E;obtain⟨z',r,a6,L⟩:=uP S;rw[hz]at r;injection r with r;subst r;have a3:z.cells.size=esz:=by omega
        have U: ∀(j:Nat) (u:Value),z.cells[j]?=some u-> ∃y:PV,zero[j]?=some y/\J0e s.w s.g.C y u:=(by intro j u V;have D:j<zero.length:=(by grind);exact⟨zero[j],zQ9 D,L j _ u (zQ9 D) V⟩);refine⟨(Builtin.zeroCells z.cells m).toList,?_,λrow hr=>by simp_all,λi j row y T I=>?_⟩;rw[zD,hv];refine JBR K hs Q a0 B H a3 (λu V=>?_) hk N M;obtain⟨j,D⟩:=mT V;obtain⟨y,_,hr⟩:=U j u (by simpa using D);exact hr.one;have ad:i<m:=(by grind);have hre:row=zero:=(List.mem_replicate.1 (iU T)).2;subst hre;have D:=JA I;have a1:j<z.cells.size:=by omega
        refine⟨z.cells[j],?_,L j y _ I (DW a1)⟩;grind [lW,Builtin.zeroCells,Nat.mul_comm,Nat.mul_add_mod,Nat.mod_eq_of_lt]
       cases q
      cases A
     cases J
    cases E
   cases hc
  cases hc
 cases hc
theorem JJg(hi:Inv s)(he:bT s a.tmps env){esz bytes zero x y}(h:(opR F (.app esz bytes zero x y) new).run ⟨env,s.σ⟩=some e)(hc:JX P (.app esz bytes zero x y) o.op=true):bS P o a s e:=by
 simp only[opR]at h;obtain⟨u,h1,w⟩:=bind_some h;obtain⟨v,h2,r⟩:=bind_some w;clear h w;unfold JX at hc;simp only at hc;split at hc;rename_i c q;split at hc;rename_i k;split at hc;rename_i E D t ut g j;simp only[JZ]at hc;obtain⟨⟨⟨C,B⟩,z⟩,n⟩:=hc;split at n;rename_i el A;exact rk hi q k g j z A (by omega) (bL he h1 C) (bL he h2 B) r;cases n;cases hc;cases hc;cases hc
theorem JIi(hi:Inv s)(he:bT s a.tmps env)(hn:s.σ[new]?=some .dead){esz bytes zero y}(h:(opR F (.appn esz bytes zero y) new).run ⟨env,s.σ⟩=some e)(hc:JX P (.appn esz bytes zero y) o.op=true):bS P o a s e:=by
 simp only[opR]at h;obtain⟨v,h2,H⟩:=bind_some h;obtain⟨rows,h3,j⟩:=bind_some H;clear h H;unfold JX at hc;simp only at hc;split at hc
 ·rename_i c G;split at hc
  ·rename_i D;split at hc
   ·rename_i V t ut x B;simp only[JZ]at hc;obtain⟨⟨T,I⟩,E⟩:=hc;split at E
    ·rename_i el J;split at j
     ·rename_i L;simp only[RM.run]at j;injection j with j;subst j
      obtain⟨i1,K⟩:=QL hi hn esz;have A:(s.σ.set new (.arr true esz []))[new]?=some (.arr true esz []):=kJ hn;have R:JK ⟨s.σ.set new (.arr true esz []),fP s.g new none,s.w⟩ (.slr new 0 0) (a.eval (.const (.slice none 0 0))):=
       .slr new 0 0 _ true esz [] ⟨none,0,rfl,.inl rfl⟩ A (zQ0 _) λ_=>.inl ⟨if_pos rfl,rfl,rfl,rfl⟩
      have S:=(bL he h2 T).mono hi K;have U:(dH esz v).run ⟨env,s.σ.set new (.arr true esz [])⟩=some rows:=by
       cases v with
       |slr b i n=>
        grind [dH,RM.run]
       |p c=>cases c<;>simp only[dH]at h3⊢ <;>first|exact h3|(split at h3<;>rename_i O<;>first|(rw[if_pos O];exact h3)|cases h3)|cases h3
       |_=>cases h3
      have C:(iX esz bytes (.slr new 0 0) v).run ⟨env,s.σ.set new (.arr true esz [])⟩=some ⟨.slr new 0 rows.length,[(new,.arr true esz rows)]⟩:=(by grind [iX,RM.run,run_bind]);have ok:=rk (s:=⟨s.σ.set new (.arr true esz []),fP s.g new none,s.w⟩) i1 G D x B I J (by omega) R S C;intro next Q z;refine ok next Q λM w' g' q r k=>?_;have N:upd [(new,Blk.arr true esz rows)] (s.σ.set new (.arr true esz []))=upd [(new,Blk.arr true esz rows)] s.σ:=by simp[PQ]
      simp only at q r k;rw[N]at q r k;exact z M w' g' q (K.trans r) k
     cases j
    cases E
   cases hc
  cases hc
 cases hc
theorem JHu(hi:Inv s)(he:bT s a.tmps env)(hn:s.σ[new]?=some .dead){esz bytes zero x y}(h:(opR F (.appc esz bytes zero x y) new).run ⟨env,s.σ⟩=some e)(hc:JX P (.appc esz bytes zero x y) o.op=true):bS P o a s e:=by
 simp only[opR]at h;obtain⟨u,h1,h'⟩:=bind_some h;obtain⟨v,h2,C⟩:=bind_some h';clear h h';unfold JX at hc;simp only at hc;split at hc;rename_i c bg;split at hc;rename_i az;split at hc;rename_i x' y' t ut S ay;simp only[JZ]at hc;obtain⟨⟨⟨hx,hy⟩,aa⟩,N⟩:=hc;split at N;rename_i el ag;simp only[JZ,beq_iff_eq,decide_eq_true_eq]at N;obtain⟨⟨⟨⟨⟨hs,ab⟩,hz⟩,b9⟩,aq⟩,Y⟩:=N;obtain⟨i,E,a9⟩:=QH hs;obtain⟨z,aj,be,bb⟩:=uP hz;have D:=di ab E;have U:=ZL aj E;have hm:c.args.map a.eval= #[a.eval x',a.eval y']:=by apply DC;simp[S]
 have ba:c.argTypes= #[t,ut]:=by grind
 have ak: ∀{q:Value} {w':World},(Builtin.append_ #[t,ut] o.type #[a.eval x',a.eval y']).run P s.w=.ok q w'->(execOp a.eval o).run P s.w=.ok (.value q) w':=by simp_all [execOp,resolve,invoke,builtin]
 have T:=bL he h1 hx;have ry:=bL he h2 hy;unfold IE at C;split at C;rename_i ao rows;obtain⟨add,h3,J⟩:=bind_some C;clear C;split at J;rename_i Q;obtain⟨rfl,b8,R⟩:=Q;simp only[RM.run]at J;injection J with J;subst J;have R:(2*(rows.length+add.length)+512)*bytes<=281474976710656:=by grind [oA]
 have am:rows.length+add.length<=281474976710656:=by have h5:(2*(rows.length+add.length)+512)*1<=(2*(rows.length+add.length)+512)*bytes:=Nat.mul_le_mul_left _ Y;omega
 obtain⟨news,V,G,O⟩:=Dv (u:=ut) hi h3 ry (Bool.or_eq_true_iff.1 aa);have L:=Src.gen (t:=t) (ty:=o.type) ag hs E a9 D U V;have bh:=L.newsLen;generalize bf:a.eval x'=zz at T;cases T with
 |p _ _ T=>
  cases T with
  |slc _ _ base hrel=>
   have a0:=jR.of_sl hrel;obtain⟨ad,ap,vs,hv,an,n,M,W,A⟩:=a0.cells;injection hv with v1 v2 v3;subst v1 v3;have Z:rows.length<rows.length+add.length:=by omega
   have aw:Builtin.nextslicecap (rows.length+add.length) rows.length*i.bytes<=281474976710656:=by have h5:=nextslicecap_le Z;rw[D];have h6:Builtin.nextslicecap (rows.length+add.length) rows.length*bytes<=(2*(rows.length+add.length)+512)*bytes:=zQ4 _ (by omega);omega
   have a5:(Builtin.firstCells esz rows.length (.slice base rows.length rows.length)).run P s.w.drew=.ok vs.toArray s.w.drew:=by
    rcases W with a1|⟨r,o',rfl,bd⟩;subst a1;simp at n;subst n;cases base<;>grind [run_firstCells_none,run_firstCells_some]
    exact run_firstCells_some s.w.drew esz _ _ _ rows.length vs n (λj q hj=>by
    have:s.w.drew.cell? (Addr.add ⟨r,o',none⟩ j)=s.w.cell? (Addr.add ⟨r,o',none⟩ j):=by simp
    grind [AG,rY])
   have a3:=L.grow base rows.length rows.length vs a5 Z (by omega) (by simp_all);have ai:rows.length+add.length<=grownCap s.w (rows.length+add.length) rows.length el:=by simp[grownCap,Question.cut]
   generalize grownCap s.w (rows.length+add.length) rows.length el=I at a3 ai;have bc:z.cells.size=esz:=by omega
   obtain⟨i0,t0⟩:=fy (w':=s.w.drew) hi rfl rfl rfl;have a2:((vs++news).toArray++Builtin.zeroCells z.cells (I-(rows.length+add.length))).size=I*esz:=by
    have:I*esz=(rows.length+add.length)*esz+(I-(rows.length+add.length))*esz:=by rw[<-zQ8];congr 1;omega
    grind [size_zeroCells]
   have hlen:(rows++add).length=rows.length+add.length:=dS;obtain⟨g',i',t',r'⟩:=RA (s0:=⟨s.σ,s.g,s.w.drew⟩) (new:=new) i0 hn (esz:=esz) (rows:=rows++add) (cap:=I) (w':=s.w.drew.alloc (.cells ((vs++news).toArray++Builtin.zeroCells z.cells (I-(rows.length+add.length))) el)) rfl rfl rfl
    (wI.zero _ _)
    ⟨λrow hr=>(cK.1 hr).elim (A row) (G row),by rw[a2,hlen];grind,λk m row q B hq=>by
     have H:=JA hq;rcases LO B with B|⟨av,B⟩;have K:=JA B;rw[A row (iU B)]at H;have a4:=lW K H;have ac:=ZW A B hq;obtain⟨w,hw,hrel⟩:=M _ q ac;refine⟨w,?_,hrel.mono hi t0⟩;grind;rw[G row (iU B)]at H;have K:=JA B;have a4:=lW K H;obtain⟨w,hw,hrel⟩:=O _ m row q B hq;have e4:k*esz+m=rows.length*esz+((k-rows.length)*esz+m):=(by grind [Nat.add_sub_cancel']);refine⟨w,?_,hrel.mono hi t0⟩;simp_all [Array.getElem?_append_left]⟩ (by simp_all) (by simp_all)
   rw[hlen]at r';exact iF (e:=⟨.slr new 0 (rows.length+add.length),[(new,.arr true esz (rows++add))]⟩) (g':=g') (ak (by simp_all)) i' (t0.trans t') r'
 cases J;cases C;cases N;cases hc;cases hc;cases hc
end
end Go.Am
end
section
namespace Go.Am
theorem fl: ∀{e j:List KD} {xs g:List PV} {r:Bool},cH (e++j) xs g=some r->
  ∃o n,cH e (xs.take e.length) (g.take e.length)=some o/\cH j (xs.drop e.length) (g.drop e.length)=some n/\r=(o&&n)
 |[],j,xs,g,r,h=>⟨true,r,by simp[cH],by simpa using h,by simp⟩
 |k::e,j,xs,g,r,h=>by
  cases xs with
  |nil=>grind [cH]
  |cons x xs=>
   cases g with
   |nil=>grind [cH]
   |cons y g=>
    simp only[tK,cH]at h;split at h;rename_i a c v q;injection h with h;subst h;obtain⟨o,n,h1,h2,h3⟩:=fl q;grind [cH];cases h
theorem QU: ∀{ks:List KD} {xs e:List PV} {r:Bool},cH ks xs e=some r->xs.length=ks.length/\e.length=ks.length
 |[],xs,e,r,h=>by grind [cH]
 |k::ks,xs,e,r,h=>by
  cases xs with
  |nil=>grind [cH]
  |cons x xs=>
   cases e with
   |nil=>grind [cH]
   |cons y e=>
    simp only[cH]at h;split at h;rename_i a c j g;obtain⟨h1,h2⟩:=QU g;simp[h1,h2];cases h
section
variable {P:Program} {F:Orc} {s:Sn} {a:Act} {env:List (Nat×AV)} {o:Oper} {new:Nat} {e:Eff}
def ln(P:Program)(t:TypeId)(vs:List Value)(X:Value):Prop:=(agT P t=some true/\X=.agg vs.toArray)\/(agT P t=some false/\ ∃v,vs=[v]/\X=v)
theorem RJ{t:TypeId}{n off:Nat}{cs:Array Value}(hs:szT P t=some n)(j:off+n<=cs.size)(g:(agT P t=some true)\/(agT P t=some false/\n=1))(w:World):
  ∃X,(part t cs off).run P w=.ok X w/\ln P t ((cs.toList.drop off).take n) X:=by
 rcases g with h|⟨h,rfl⟩;refine⟨.agg (cs.extract off (off+n)),by simp_all [part,FM,kF],.inl ⟨h,?_⟩⟩
 congr 1
 grind;have e:off<cs.size:=by omega
 have k:cs[off]?=some cs[off]:=by simp[e]
 refine⟨cs[off],by simp_all [part,FM],.inr ⟨h,cs[off],?_,rfl⟩⟩;grind [List.drop_eq_getElem_cons]
def nR(s:Sn)(xs:List PV)(vs:List Value):Prop:=xs.length=vs.length/\ ∀(i:Nat) x v,xs[i]?=some x->vs[i]?=some v->J0e s.w s.g.C x v
theorem nR.take{xs vs}(h:nR s xs vs)(n:Nat):nR s (xs.take n) (vs.take n):=
 ⟨by simp[h.1],λi x v e g=>by
  rw[UM]at e g;split at e;rename_i hi;rw[if_pos hi]at g;exact h.2 i x v e g;cases e⟩
theorem nR.drop{xs vs}(h:nR s xs vs)(n:Nat):nR s (xs.drop n) (vs.drop n):=
 ⟨by simp[h.1],λi x v g e=>by
  rw[EC]at g e;exact h.2 _ x v g e⟩
def EqK(P:Program)(s:Sn)(d:Nat)(t:TypeId)(ks:List KD):Prop:= ∀(e:Nat) (w:World) (xs h:List PV) (vs g:List Value) (r:Bool) (X Y:Value),cH ks xs h=some r->nR s xs vs->nR s h g->ln P t vs X->ln P t g Y->(Op.equalIn (d+e) t X Y).run P w=.ok r w
theorem we{d:Nat}{t:TypeId}{ks:List KD}(h:pO P d t=some ks):agT P t=some true\/(agT P t=some false/\ks.length=1):=by cases d<;>grind [pO,agT,yT]
theorem uq(d e:Nat)(B: ∀t ks,pO P d t=some ks->EqK P s d t ks)(w:World){xs q:List PV}{vs o:List Value}(hx:nR s xs vs)(hy:nR s q o):
  ∀{fs:List Field} {off:Nat} {ks:List KD} {r:Bool},LY P (pO P d) off fs=some ks->cH ks (xs.drop off) (q.drop off)=some r->
   (Op.eqFields (d+e) vs.toArray o.toArray fs).run P w=.ok r w
 |[],off,ks,r,h,x=>by simp[LY]at h;subst h;cases hxd:xs.drop off<;>cases hyd:q.drop off<;>simp[hxd,hyd,cH]at x;simp_all [Op.eqFields]
 |f::fs,off,ks,r,h,x=>by
  unfold LY at h;split at h;cases h
  ·rename_i J;have j:f.name≠ "_" :=λe=>J (.inl e);have v:f.offset=off:=by simp_all
   split at h;cases h
   ·rename_i C k;split at h
    ·rename_i g;obtain⟨g,D⟩:=g;split at h
     ·rename_i N y;injection h with h;subst h;obtain⟨z,M,c1,A,rfl⟩:=fl x;obtain⟨G,L⟩:=QU c1;rw[eD,rA]at G L;rw[wA,wA]at A;have n:=we k;obtain⟨X,E,H⟩:=RJ (P:=P) (cs:=vs.toArray) (off:=off) g (by have:=hx.1;simp;omega) n w;obtain⟨Y,I,F⟩:=RJ (P:=P) (cs:=o.toArray) (off:=off) g (by have:=hy.1;simp;omega) n w;have K:=B f.type C k e w _ _ _ _ z X Y c1 ((hx.drop off).take _) ((hy.drop off).take _) (by simpa using H) (by simpa using F);have ih:=uq d e B w hx hy y A;simp only[Op.eqFields];rw[if_pos j];simp only[yM,v,E,I,K,tL,Sem.run_ite];cases z
      all_goals simp_all
     cases h
    cases h
theorem ss(d e:Nat){t:TypeId}{ks:List KD}(q:EqK P s d t ks)(hk:pO P d t=some ks)(g:szT P t=some ks.length)(j:0<ks.length)(w:World){xs n:List PV}{vs k:List Value}(hx:nR s xs vs)(hy:nR s n k):
  ∀{m i:Nat} {r:Bool},cH (List.replicate m ks).flatten (xs.drop (i*ks.length)) (n.drop (i*ks.length))=some r->
   (Op.eqItems (d+e) t ks.length vs.toArray k.toArray (List.range' i m)).run P w=.ok r w
 |0,i,r,hc=>by simp only[List.replicate_zero,List.flatten_nil]at hc;cases hxd:xs.drop (i*ks.length)<;>cases hyd:n.drop (i*ks.length)<;>simp[hxd,hyd,cH]at hc;simp_all [Op.eqItems]
 |m+1,i,r,hc=>by
  rw[List.replicate_succ,kR]at hc;obtain⟨o,z,c1,x,rfl⟩:=fl hc;obtain⟨A,E⟩:=QU c1;rw[eD,rA]at A E;rw[wA,wA]at x;have h:=we hk;obtain⟨X,v,B⟩:=RJ (P:=P) (cs:=vs.toArray) (off:=i*ks.length) g (by have:=hx.1;simp;omega) h w;obtain⟨Y,C,y⟩:=RJ (P:=P) (cs:=k.toArray) (off:=i*ks.length) g (by have:=hy.1;simp;omega) h w;have D:=q e w _ _ _ _ o X Y c1 ((hx.drop _).take _) ((hy.drop _).take _) (by simpa using B) (by simpa using y);have ih:=ss d e q hk g j w hx hy (m:=m) (i:=i+1) (r:=z) (by
   grind)
  rw[List.range'_succ];simp only[Op.eqItems,yM,v,C,D,tL,Sem.run_ite];cases o
  all_goals simp_all
theorem eqK: ∀(d:Nat) (t:TypeId) (ks:List KD),pO P d t=some ks->EqK P s d t ks
 |0,t,ks,h=>by grind [pO]
 |d+1,t,ks,h=>by
  intro e w xs S vs V r X Y K J I H G;have N:d+1+e=(d+e)+1:=by omega
  rw[N];have Q:=QU K;unfold pO at h;have q: ∀{k:KD},agT P t=some false->ks=[k]-> ∃x y,xs=[x]/\S=[y]/\vO k x y=some r/\J0e s.w s.g.C x X/\J0e s.w s.g.C y Y:=(by rintro k F rfl;obtain⟨x,rfl⟩:=UU.1 Q.1;obtain⟨y,rfl⟩:=UU.1 Q.2;rcases H with⟨o,_⟩|⟨_,v,rfl,rfl⟩;simp_all;rcases G with⟨o,_⟩|⟨_,u,rfl,rfl⟩;simp_all;refine⟨x,y,rfl,rfl,?_,J.2 0 x _ rfl rfl,I.2 0 y _ rfl rfl⟩;grind [cH]);split at h<;>rename_i U
  injection h with h;subst h;obtain⟨x,y,rfl,rfl,j,A,B⟩:=q (by grind [agT,yT]) rfl;cases A<;>cases B<;>simp only[vO]at j<;>try (cases j;done)
  grind [run_equalIn_bool];injection h with h;subst h;obtain⟨x,y,rfl,rfl,j,A,B⟩:=q (by grind [agT,yT]) rfl;cases A<;>cases B<;>simp only[vO]at j<;>try (cases j;done)
  grind [run_equalIn_int];injection h with h;subst h;obtain⟨x,y,rfl,rfl,j,A,B⟩:=q (by grind [agT,yT]) rfl;cases A<;>cases B<;>simp only[vO]at j<;>try (cases j;done)
  simp_all [run_equalIn_string];rename_i fs;split at h;cases h;rename_i M;have F:agT P t=some true:=by grind [agT,yT]
  rcases H with⟨_,rfl⟩|⟨o,_⟩;rcases G with⟨_,rfl⟩|⟨o,_⟩;have O:P.fieldsOf t=fs:=by grind [Program.fieldsOf]
  rw[run_equalIn_struct w (d+e) t _ _ (by simp_all) (by simpa using M),O];exact uq d e (λt ks T=>eqK d t ks T) w J I h (by simpa using K);simp_all;simp_all;rename_i n el;split at h;rename_i L E;split at h;rename_i z;injection h with h;subst h;have F:agT P t=some true:=by grind [agT,yT]
  rcases H with⟨_,rfl⟩|⟨o,_⟩;rcases G with⟨_,rfl⟩|⟨o,_⟩;obtain⟨i,hi,R⟩:=QH z.1;have D:P.cellsOf el=L.length:=by grind [Program.cellsOf]
  rw[run_equalIn_array w (d+e) _ _ U hi,D,List.range_eq_range'];exact ss d e (eqK d el L E) E z.1 z.2 w J I (i:=0) (by simpa using K);simp_all;simp_all;cases h;cases h;cases h
theorem Gs(hi:Inv s)(he:bT s a.tmps env){op ks x y}(h:(opR F (.bin op (.flat ks) x y) new).run ⟨env,s.σ⟩=some e)(hc:JX P (.bin op (.flat ks) x y) o.op=true):bS P o a s e:=by
 simp only[opR]at h;obtain⟨u,h1,D⟩:=bind_some h;obtain⟨v,h2,z⟩:=bind_some D;obtain⟨r,h3,rfl⟩:=hA z;clear h D z;unfold JX at hc;simp only at hc;split at hc
 ·rename_i U t B A ty T;simp only[JZ,beq_iff_eq]at hc;obtain⟨⟨rfl,j⟩,⟨⟨Q,M⟩,n⟩,J⟩:=hc;have G:=bL he h1 j;have H:=bL he h2 Q;generalize V:a.eval B=Z at G;generalize W:a.eval A=Y at H;simp only[nV]at h3;split at h3
  ·rename_i p q;cases G with
   |data _ vs K I=>
    cases H with
    |data _ g N R=>
     have k: ∃b,cH ks p q=some b:=by cases hcm:cH ks p q<;>simp_all [jP]
     obtain⟨b,k⟩:=k;rw[k]at h3;obtain⟨O,rfl⟩:=uL h3;have E:(eqGuard op t B A (.agg vs) (.agg g)).run P s.w=.ok () s.w:=run_eqGuard_agg s.w op t B A vs g (by simpa using J);have S:=eqK (P:=P) (s:=s) 100 t ks M 9900 s.w p q vs.toList g.toList b (.agg vs) (.agg g) k ⟨by simpa using K,λi x v j C=>I i x v j (by simpa using C)⟩ ⟨by simpa using N,λi x v j C=>R i x v j (by simpa using C)⟩ (.inl ⟨n,by simp⟩) (.inl ⟨n,by simp⟩);have L:(binOp op t (.agg vs) (.agg g)).run P s.w=.ok (.bool (if op=.eql then b else !b)) s.w:=by
      rcases O with rfl|rfl
      all_goals simp_all [run_eql_struct,run_neq_struct]
     simp_all [JN,execOp,qD]
  cases h3
 cases hc
end
end Go.Am
end
section
namespace Go.Am
theorem J0e.weaken{w:World}{C e:Nat->Nat->Prop}(h: ∀r o,C r o->e r o){x v}(hr:J0e w C x v):J0e w e x v:=by
 induction hr with
 |b x=>exact .b x
 |i k n=>exact .i k n
 |s l=>exact .s l
 |np=>exact .np
 |nf=>exact .nf
 |sl0 esz a cap=>exact .sl0 esz a cap
 |sl esz rows r o cap vals h1 h2 h3 _ ih=>exact .sl esz rows r o cap vals h1 h2 (λi j row x hr g=>⟨h _ _ (h3 i j row x hr g).1,(h3 i j row x hr g).2⟩) ih
 |slc esz rows a _ ih=>exact .slc esz rows a ih
theorem Ee{s c:Sn}(hi:Inv s)(hw:c.w=s.w)(q: ∀k cs,c.σ[k]?=some (.box cs)->OM c k cs)(v: ∀k wm esz rows,c.σ[k]?=some (.arr wm esz rows)->OA c k wm esz rows)
  (id:Nat->Nat) (x: ∀e j,e<c.σ.length->j<c.σ.length->id e=id j->e=j) (wr: ∀k r o,Wr1 c k r o->Wr1 s (id k) r o)
  (y: ∀r o,c.g.C r o->r<s.w.heap.size/\ ∀k,¬Wr1 c k r o):Inv c:=by
 have n: ∀k r o,Wr1 c k r o->k<c.σ.length:=(by grind [Wr1]);exact⟨q,v,λe j r o h1 h2=>x e j (n _ _ _ h1) (n _ _ _ h2) (hi.apart _ _ _ _ (wr _ _ _ h1) (wr _ _ _ h2)),λr o h=>by grind⟩
theorem uK{m ids sto}: ∀{xs e:List AV},fin.finL m ids sto xs=some e->xs.length=e.length/\ ∀(i:Nat) x y,xs[i]?=some x->e[i]?=some y->fin m ids sto x=some y
 |[],e,h=>by grind [fin.finL]
 |x::xs,e,h=>by
  simp only[fin.finL]at h;split at h;rename_i y l j g;injection h with h;subst h;obtain⟨h1,h2⟩:=uK g;grind;cases h
theorem SB{m ids sto}: ∀{xs e:List Blk},rG m ids sto xs=some e->xs.length=e.length/\ ∀(i:Nat) x y,xs[i]?=some x->e[i]?=some y->gN m ids sto x=some y
 |[],e,h=>by grind [rG]
 |x::xs,e,h=>by
  simp only[rG]at h;split at h;rename_i y l j g;injection h with h;subst h;obtain⟨h1,h2⟩:=SB g;grind;cases h
theorem vo{sto}: ∀{ids:List Nat} {e:List Blk},wO sto ids=some e->ids.length=e.length/\ ∀(i:Nat) b y,ids[i]?=some b->e[i]?=some y->sto[b]?=some y
 |[],e,h=>by grind [wO]
 |x::xs,e,h=>by
  simp only[wO]at h;split at h;rename_i y l j g;injection h with h;subst h;obtain⟨h1,h2⟩:=vo g;grind;cases h
theorem RT{b:Nat}: ∀{ids:List Nat} {k j:Nat},eX b ids k=some j->k<=j/\ids[j-k]?=some b
 |[],k,j,h=>by grind [eX]
 |x::r,k,j,h=>by
  simp only[eX]at h;split at h;simp_all;obtain⟨h1,h2⟩:=RT h;grind
theorem sy{b:Nat}: ∀{ids:List Nat} {k:Nat},eX b ids k=none->b∉ids
 |[],_,_=>by simp
 |x::r,k,h=>by
  simp only[eX]at h;split at h;cases h;rename_i g;simp only[eR,not_or];exact⟨λe=>g e.symm,sy h⟩
theorem SE: ∀{l:List Nat},jT l=true->l.Nodup|[],_=>List.nodup_nil|x::r,h=>by simp only[jT,JZ,mR]at h;refine List.nodup_cons.2 ⟨?_,SE h.2⟩;simp_all
theorem RY{α:Type}: ∀{l:List α},l.Nodup-> ∀{i j:Nat} {x:α},l[i]?=some x->l[j]?=some x->i=j
 |[],_,i,j,x,h,_=>by simp at h
 |y::l,h,i,j,x,h1,h2=>by
  obtain⟨g,e⟩:=List.nodup_cons.1 h;cases i with
  |zero=>
   grind
  |succ i=>
   cases j with
   |zero=>grind
   |succ j=>exact congrArg (· +1) (RY e (i:=i) (j:=j) (x:=x) (by simpa using h1) (by simpa using h2))
def Zi(s:Sn)(m:Nat)(ids:List Nat):Nat->Nat->Prop:=λr o=>s.g.C r o\/ ∃b wm esz rows,m<=b/\b∉ids/\s.σ[b]?=some (Blk.arr wm esz rows)/\s.g.μ b=some (r,0)/\o<rows.length*esz
def kW(s:Sn)(m:Nat)(ids:List Nat)(σ:List Blk):Sn:=
 ⟨σ,⟨λk=>if k<m then s.g.μ k else match ids[k-m]? with
  |some b=>s.g.μ b
  |none=>none,Zi s m ids⟩,s.w⟩
section
variable {s:Sn} {m:Nat} {ids:List Nat} {l q q':List Blk}
def gU(m:Nat)(ids:List Nat)(k:Nat):Nat:=if k<m then k else(ids[k-m]?).getD 0
structure mg(s:Sn)(m:Nat)(ids:List Nat)(σ:List Blk):Prop where
 inv:Inv s
 le:m<=s.σ.length
 nodup:ids.Nodup
 ge: ∀b∈ids,m<=b
 len:σ.length=m+ids.length
 blk: ∀k x,σ[k]?=some x-> ∃y,s.σ[gU m ids k]?=some y/\gN m ids s.σ y=some x
variable {σ:List Blk} (h:mg s m ids σ)
theorem tS(k:Nat)(hk:k<m+ids.length):(kW s m ids σ).g.μ k=s.g.μ (gU m ids k):=by
 grind [kW,gU]
include h in
theorem ZS{k:Nat}{x:Blk}(hk:σ[k]?=some x):k<m+ids.length/\ ∃y,s.σ[gU m ids k]?=some y/\gN m ids s.σ y=some x:=by have:=JA hk;exact⟨by rw[<-h.len];exact this,h.blk k x hk⟩
include h in
theorem LF{b k:Nat}{y:Blk}(g:gU m ids k=b)(hk:k<m+ids.length)(hb:s.σ[b]?=some y): ∃x,σ[k]?=some x/\gN m ids s.σ y=some x:=by
 have e:k<σ.length:=by rw[h.len];exact hk
 obtain⟨j,h1,h2⟩:=h.blk k σ[k] (zQ9 e);simp_all
theorem uE{k:Nat}(hk:k<m):gU m ids k=k:=by simp[gU,hk]
theorem ZB{b j:Nat}(hj:eX b ids m=some j):gU m ids j=b/\j<m+ids.length:=by
 obtain⟨h1,h2⟩:=RT hj;grind [gU]
include h in
theorem ZF{x y:AV}{v:Value}(hr:JK s x v):fin m ids s.σ x=some y->JK (kW s m ids σ) y v:=by
 have I: ∀r o,s.g.C r o->(kW s m ids σ).g.C r o:=λr o h=>.inl h
 induction hr generalizing y with
 |p c v hp=>intro w;simp[fin]at w;subst w;exact .p _ _ (hp.weaken I)
 |data cs vs h1 h2=>intro w;simp[fin]at w;subst w;exact .data _ _ h1 λi x v A D=>(h2 i x v A D).weaken I
 |agg cs vs h1 h0 h2 ih=>
  intro w;simp only[fin]at w;split at w;rename_i l P;obtain⟨H,M⟩:=uK P;have hrel: ∀(i:Nat) y v,l[i]?=some y->vs[i]?=some v->JK (kW s m ids σ) y v:=(by grind [JA]);split at w;rename_i q hq;injection w with w;subst w;have:=QZ hq;subst this;refine .data _ _ (by simp_all) λi c v R D=>?_;have:=hrel i (.p c) v (by simp[R]) D;cases this<;>simp_all
  injection w with w;subst w;exact .agg _ _ (by omega) h0 hrel;cases w
 |tup cs vs h1 h2 ih=>
  intro w;simp only[fin]at w;split at w;rename_i l P;injection w with w;subst w;obtain⟨H,M⟩:=uK P;refine .tup _ _ (by omega) λi y v W D=>?_;grind [JA];cases w
 |ptr b off r o hm B=>
  intro w;obtain⟨cs,B⟩:=B;have go: ∀k,gU m ids k=b->k<m+ids.length->JK (kW s m ids σ) (.ptr k off) (.pointer (some ⟨r,o+off,none⟩)):=(by intro k F E;obtain⟨x,A,z⟩:=LF h F E B;simp only[gN]at z;split at z;injection z with z;subst z;exact .ptr k off r o (by grind [tS]) ⟨_,A⟩;cases z);grind [fin,uE,Option.map_eq_some_iff,ZB]
 |cp cs off r o vals T p2=>intro w;simp[fin]at w;subst w;exact .cp cs off r o vals (λj x A=>⟨I _ _ (T j x A).1,(T j x A).2⟩) λj x A=>(p2 j x A).weaken I
 |slr b i n v wm esz rows h0 B G D=>
  intro w;have go: ∀k,gU m ids k=b->k<m+ids.length->JK (kW s m ids σ) (.slr k i n) v:=by
   intro k F E;obtain⟨x,A,z⟩:=LF h F E B;simp only[gN]at z;injection z with z;subst z;refine .slr k i n v wm esz rows h0 A G λe=>?_;have a9:(kW s m ids σ).g.μ k=s.g.μ b:=by grind [tS]
   rcases D e with⟨L,J,Z,V⟩|⟨r,cap,c,Q,fz,L,q⟩;exact .inl ⟨by simp_all,J,Z,V⟩;exact .inr ⟨r,cap,c,Q,fz,by simp_all,q⟩
  simp only[fin]at w;split at w;grind [uE];rename_i a6;split at w;grind [ZB];rename_i K;rw[B]at w;simp only at w;split at w;rename_i e;injection w with w;subst w;obtain⟨a,cap,H,M,O,U⟩:=jR.of_slr h.inv (.slr b i n v wm esz rows h0 B G D) B e;refine .p _ _ (io (s:=kW s m ids σ) H M O (U.imp id ?_));rintro⟨r,o,rfl,A⟩;refine⟨r,o,rfl,λk j row x E Y=>⟨.inr ⟨b,wm,esz,rows,by omega,sy K,B,?_⟩,?_⟩⟩;rcases D e with⟨L,J,Z,V⟩|⟨r',a1,c,Q,fz,L,J,_⟩;simp_all;rw[H]at J;injection J with v1 v2 v3;injection v1 with v1;injection v1 with v1 v4;subst v1 v4;refine⟨L,?_⟩;have S:=JA E;have N:=JA Y;rw[O row (iU E)]at N;rw[rA]at S;have:=lW (a:=i+k) (b:=j) (n:=rows.length) (e:=esz) (by omega) N;grind;obtain⟨u,hu,hr⟩:=A k j row x E Y;exact⟨u,hu,hr.weaken I⟩;cases w
 |ep b ext i off v wm esz rows h0 B G D=>
  intro w;have go: ∀k,gU m ids k=b->k<m+ids.length->JK (kW s m ids σ) (.ep k ext i off) v:=(by intro k F E;obtain⟨x,A,z⟩:=LF h F E B;simp only[gN]at z;injection z with z;subst z;refine .ep k ext i off v wm esz rows h0 A G λQ e2=>?_;grind [tS]);grind [fin,uE,Option.map_eq_some_iff,ZB]
 |fn f first caps fs cs h1 h2 _ _ a7 a8=>
  intro w;simp only[fin]at w;split at w
  ·rename_i a c ha R;injection w with w;subst w;obtain⟨H,M⟩:=uK ha;obtain⟨O,U⟩:=uK R;refine .fn f a c fs cs (by omega) (by omega) (λi y v W D=>?_) (λi y v W D=>?_)
   all_goals grind [JA]
  cases w
 |unk x=>intro w;simp[fin]at w;subst w;exact .unk x
include h in
theorem PE(k r o:Nat)(hw:Wr1 (kW s m ids σ) k r o):k<m+ids.length/\Wr1 s (gU m ids k) r o:=by
 unfold Wr1 at hw;have g:(kW s m ids σ).σ=σ:=rfl;rw[g]at hw;cases hk:σ[k]? with
 |none=>simp_all
 |some x=>obtain⟨e,y,j,n⟩:=ZS h hk;refine⟨e,?_⟩;rw[hk]at hw;rw[tS k e]at hw;unfold Wr1;rw[j];cases y<;>grind [gN,uK]
include h in
theorem E4:Inv (kW s m ids σ):=by
 have hi:=h.inv;have S: ∀z n,z<m+ids.length->n<m+ids.length->gU m ids z=gU m ids n->z=n:=by
  intro z n h1 h2 B;simp only[gU]at B;split at B<;>split at B
  exact B;rename_i a b;have:n-m<ids.length:=by omega
  have:=h.ge ids[n-m] (by simp);grind;rename_i a b;have:=h.ge (ids[z-m]'(by omega)) (by simp);grind;have Y:z-m<ids.length:=by omega
  have W:n-m<ids.length:=by omega
  simp[Y,W]at B;have:=RY h.nodup (zQ9 Y) (by rw[B];exact zQ9 W);omega
 refine Ee hi rfl ?_ ?_ (gU m ids) (λz n h1 h2 B=>S z n (by rw[<-h.len];exact h1) (by rw[<-h.len];exact h2) B) (λk r o A=>(PE h k r o A).2) ?_;intro k cs P;obtain⟨J,y,Q,g⟩:=ZS h P;cases y with
 |dead=>grind [gN]
 |arr=>grind [gN]
 |box T=>
  simp only[gN]at g;split at g;rename_i l H;injection g with g;injection g with g;subst g;obtain⟨z,n⟩:=uK H;obtain⟨r,o,c,e,fz,q,F,a3,I,K⟩:=hi.box _ _ Q;refine⟨r,o,c,e,fz,by grind [tS],F,by omega,λi x a0=>?_,by simp_all⟩;grind [JA,ZF];cases g
 intro k wm esz rows P;obtain⟨J,y,Q,g⟩:=ZS h P;cases y with
 |dead=>grind [gN]
 |box T=>grind [gN]
 |arr w e rs=>
  simp[gN]at g;obtain⟨rfl,rfl,rfl⟩:=g;rcases hi.arr _ _ _ _ Q with⟨q,R⟩|⟨r,c,e,fz,q,F,C,H,I,K⟩;exact .inl ⟨by grind [tS],R⟩;refine .inr ⟨r,c,e,fz,by grind [tS],F,C,H,λi j row x h1 h2=>?_,K⟩;obtain⟨⟨v,Z,R⟩,E⟩:=I i j row x h1 h2;exact⟨⟨v,Z,R.weaken λr o h=>.inl h⟩,λe=>.inl (E e)⟩
 intro r o E;rcases E with E|⟨b,wm,esz,rows,a4,a2,V,U,a1⟩;exact⟨(hi.const r o E).1,λk A=>(hi.const r o E).2 _ (PE h k r o A).2⟩;rcases hi.arr _ _ _ _ V with⟨q,_⟩|⟨r',c,e,fz,q,F,C,H,I,_⟩;simp_all;rw[U]at q;injection q with q;injection q with q _;subst q;refine⟨SM F,λk A=>?_⟩;obtain⟨J,A⟩:=PE h k r o A;have M:gU m ids k≠b:=(by grind [gU]);cases wm with
 |true=>
  refine M (hi.apart _ _ _ _ A ?_);grind [Wr1]
 |false=>
  have N:0<esz:=(by grind);have G:o/esz<rows.length:=Nat.div_lt_of_lt_mul (by grind);have D:rows[o/esz]?=some (rows[o/esz]'G):=zQ9 _;have hlen:=C _ (iU D);have O:o%esz<(rows[o/esz]'G).length:=by rw[hlen];exact Nat.mod_lt _ N
  have L:=(I _ _ _ _ D (zQ9 O)).2 rfl;have:o/esz*esz+o%esz=o:=by grind [Nat.div_add_mod]
  rw[this]at L;exact(hi.const r o L).2 _ A
include h in
theorem tf{E:Sn}(t:bE E s)(M:E.σ.length<=m):bE E (kW s m ids σ):=by
 have hi:=h.inv;refine⟨t.keep,λr o y=>.inl (t.cmono r o y),λr o y=>?_,λr o ⟨k,H⟩=>t.wnew r o ⟨_,(PE h k r o H).2⟩,?_,λb cs C=>?_,λb wm esz rows C=>?_⟩;rcases y with y|⟨b,wm,esz,rows,L,K,F,D,J⟩;exact t.cnew r o y;cases wm with
 |true=>have:=t.wnew r o ⟨b,by grind [Wr1]⟩;exact .inr this
 |false=>
  rcases hi.arr _ _ _ _ F with⟨n,_⟩|⟨r',c,e,fz,n,N,B,I,w,_⟩;simp_all;rw[D]at n;injection n with n;injection n with n _;subst n;have G:0<esz:=(by grind);have v:o/esz<rows.length:=Nat.div_lt_of_lt_mul (by grind);have q:rows[o/esz]?=some (rows[o/esz]'v):=zQ9 _;have hlen:=B _ (iU q);have A:o%esz<(rows[o/esz]'v).length:=by simp_all [Nat.mod_lt]
  have z:=(w _ _ _ _ q (zQ9 A)).2 rfl;have:o/esz*esz+o%esz=o:=by grind [Nat.div_add_mod]
  rw[this]at z;exact t.cnew r o z
 show E.σ.length<=σ.length;rw[h.len];omega;have j:b<m:=by grind
 obtain⟨⟨cs',h1,h2⟩,h3⟩:=t.box b cs C;obtain⟨x,w,g⟩:=LF h (uE j) (by omega) h1;simp only[gN]at g;split at g;rename_i l I;injection g with g;subst g;exact⟨⟨l,w,by grind [uK]⟩,by grind [tS,uE]⟩;cases g;have j:b<m:=by grind
 obtain⟨wm',rows',h1,h2,h3,O⟩:=t.arr b wm esz rows C;obtain⟨x,w,g⟩:=LF h (uE j) (by omega) h1;simp[gN]at g;subst g;exact⟨wm',rows',w,h2,h3,λe=>by grind [tS,uE]⟩
end
end Go.Am
end
section
namespace Go.Am
def J61(P:Program)(f:FuncId)(args:List AV)(blks:List Blk)(r:Res):Prop:=
 (∃fn,P.funcs[f]?=some fn∧fn.body.isSome=true∧(fn.name== "runtime.NumGoroutine")=false)∧
 ∀(g:Gh) (w:World) (vals:Array Value),Inv ⟨blks,g,w⟩->args.length=vals.size->(∀(i:Nat) x v,args[i]?=some x->vals[i]?=some v->JK ⟨blks,g,w⟩ x v)->
  Calls P f vals w λe w'=> ∃v g',e=.returned v/\Inv ⟨r.2,g',w'⟩/\bE ⟨blks,g,w⟩ ⟨r.2,g',w'⟩/\JK ⟨r.2,g',w'⟩ r.1 v
def jX(P:Program)(F:Orc):Prop:= ∀f args blks r,F f args blks=some r->J61 P f args blks r
theorem xK{e:Ent}: ∀{es:List Ent} {k j:Nat},dY e es k=some j->k<=j/\es[j-k]?=some e
 |[],k,j,h=>by grind [dY]
 |x::r,k,j,h=>by
  simp only[dY]at h;split at h;simp_all;obtain⟨h1,h2⟩:=xK h;grind
theorem uM{ρ:Ent->Option Nat}: ∀{xs e:List AV},ren.renL ρ xs=some e->xs.length=e.length/\ ∀(i:Nat) x y,xs[i]?=some x->e[i]?=some y->ren ρ x=some y
 |[],e,h=>by grind [ren.renL]
 |x::xs,e,h=>by
  simp only[ren.renL]at h;split at h;rename_i y l j g;injection h with h;subst h;obtain⟨h1,h2⟩:=uM g;grind;cases h
theorem uJ{es:List Ent}{new:Nat}: ∀{xs e:List AV},bk.bkL es new xs=some e->xs.length=e.length/\ ∀(i:Nat) x y,xs[i]?=some x->e[i]?=some y->bk es new x=some y
 |[],e,h=>by grind [bk.bkL]
 |x::xs,e,h=>by
  simp only[bk.bkL]at h;split at h;rename_i y l j g;injection h with h;subst h;obtain⟨h1,h2⟩:=uJ g;grind;cases h
def UF(s:Sn)(ρ:Ent->Option Nat)(e:Ent)(x:Blk):Prop:=
 match e with
 | .whole b=>(∃cs l,s.σ[b]?=some (.box cs)/\ren.renL ρ cs=some l/\x=.box l)\/(∃w esz rows,s.σ[b]?=some (.arr w esz rows)/\x=.arr w esz rows)
 | .elem b ext i=> ∃esz rows row,s.σ[b]?=some (.arr true esz rows)/\ext=rows.length/\rows[i]?=some row/\x=.box (row.map .p)
section
variable {s:Sn} {env:List (Nat×AV)}
theorem dh{e:List Blk}{ws:List (Nat×Blk)}{b:Nat}{x:Blk}(h:(qW ws b).run ⟨env,e⟩=some x):(upd ws e)[b]?=some x:=by
 grind [qW,RM.run,wZ]
theorem JDI{k:List Blk}{ws:List (Nat×Blk)}(n:s.σ=upd ws k){ρ:Ent->Option Nat}{e:Ent}{x:Blk}(h:(zL ws ρ e).run ⟨env,k⟩=some x):UF s ρ e x:=by
 cases e with
 |whole b=>
  simp only[zL]at h;obtain⟨y,h1,h⟩:=bind_some h;have g:=dh h1;rw[<-n]at g;cases y with
  |dead=>cases h
  |box cs=>
   dsimp only at h;split at h;rename_i l o;simp only[RM.run]at h;injection h with h;subst h;exact .inl ⟨cs,l,g,o,rfl⟩;cases h
  |arr w esz rows=>
   simp only[RM.run]at h;injection h with h;subst h;exact .inr ⟨w,esz,rows,g,rfl⟩
 |elem b ext i=>
  simp only[zL]at h;obtain⟨y,h1,h⟩:=bind_some h;have g:=dh h1;rw[<-n]at g;cases y with
  |arr w esz rows=>
   cases w;cases h;dsimp only at h;split at h;rename_i q;split at h;rename_i row j;simp only[RM.run]at h;injection h with h;subst h;exact⟨esz,rows,row,g,q,j,rfl⟩;cases h;cases h
  |_=>cases h
theorem vq{g:List Blk}{ws:List (Nat×Blk)}(j:s.σ=upd ws g){ρ:Ent->Option Nat}: ∀{es:List Ent} {blks:List Blk},(lA ws ρ es).run ⟨env,g⟩=some blks->
  es.length=blks.length/\ ∀(k:Nat) e x,es[k]?=some e->blks[k]?=some x->UF s ρ e x
 |[],blks,h=>by grind [lA,RM.run]
 |e::es,blks,h=>by
  simp only[lA]at h;obtain⟨x,h1,h⟩:=bind_some h;obtain⟨l,h2,h⟩:=bind_some h;simp only[RM.run]at h;injection h with h;subst h;obtain⟨n,o⟩:=vq j h2;grind [JDI]
def iL(s:Sn)(es:List Ent)(blks:List Blk):Sn:=
 ⟨blks,⟨λk=>match es[k]? with
  |some (.whole b)=>s.g.μ b
  |some (.elem b _ i)=>(match s.σ[b]? with
   |some (.arr _ esz _)=>(match s.g.μ b with
    |some p=>some (p.1,i*esz)
    |none=>none)
   |_=>none)
  |none=>none,s.g.C⟩,s.w⟩
structure YI(s:Sn)(es:List Ent)(blks:List Blk):Prop where
 inv:Inv s
 nodup:(es.map Ent.id).Nodup
 len:es.length=blks.length
 blk: ∀(k:Nat) e x,es[k]?=some e->blks[k]?=some x->UF s (λe=>dY e es 0) e x
variable {es:List Ent} {blks:List Blk} (h:YI s es blks)
include h in
theorem rL{k:Nat}{e:Ent}(he:es[k]?=some e): ∃x,blks[k]?=some x/\UF s (λe=>dY e es 0) e x:=by
 have g:=JA he;have:k<blks.length:=by rw[<-h.len];exact g
 exact⟨blks[k],zQ9 this,h.blk k e _ he (zQ9 this)⟩
theorem xJ{k b:Nat}(he:es[k]?=some (.whole b)):(iL s es blks).g.μ k=s.g.μ b:=by simp[iL,he]
theorem RQ{k b ext i esz:Nat}{wm rows r}(he:es[k]?=some (.elem b ext i))(hb:s.σ[b]?=some (.arr wm esz rows))(hm:s.g.μ b=some (r,0)):(iL s es blks).g.μ k=some (r,i*esz):=by
 grind [iL]
include h in
theorem Dh{x y:AV}{v:Value}(hr:JK s x v):ren (λe=>dY e es 0) x=some y->JK (iL s es blks) y v:=by
 induction hr generalizing y with
 |p c v S=>intro j;simp[ren]at j;subst j;exact .p _ _ S
 |data cs vs h1 h2=>intro j;simp[ren]at j;subst j;exact .data _ _ h1 h2
 |cp cs off r o vals P O=>intro j;simp[ren]at j;subst j;exact .cp cs off r o vals P O
 |unk x=>intro j;simp[ren]at j;subst j;exact .unk x
 |agg cs vs h1 h0 h2 ih=>
  intro j;simp only[ren]at j;obtain⟨l,H,rfl⟩:=gM.1 j;obtain⟨J,M⟩:=uM H;refine .agg _ _ (by omega) h0 λi y v I A=>?_;grind [JA]
 |tup cs vs h1 h2 ih=>
  intro j;simp only[ren]at j;obtain⟨l,H,rfl⟩:=gM.1 j;obtain⟨J,M⟩:=uM H;refine .tup _ _ (by omega) λi y v I A=>?_;grind [JA]
 |ptr b off r o hm C=>
  intro j;simp only[ren]at j;obtain⟨k,z,rfl⟩:=gM.1 j;obtain⟨_,z⟩:=xK z;simp only[vV]at z;obtain⟨cs,C⟩:=C;obtain⟨x,D,B⟩:=rL h z;rcases B with⟨cs',l,h1,h2,rfl⟩|⟨w,esz,rows,h1,rfl⟩;exact .ptr k off r o (by grind [xJ]) ⟨l,D⟩;simp_all
 |slr b i n v wm esz rows h0 C E A=>
  intro j;simp only[ren]at j;obtain⟨k,z,rfl⟩:=gM.1 j;obtain⟨_,z⟩:=xK z;simp only[vV]at z;obtain⟨x,D,B⟩:=rL h z;rcases B with⟨cs',l,h1,h2,rfl⟩|⟨w,F,rows',h1,rfl⟩;simp_all;rw[C]at h1;injection h1 with h1;injection h1 with a1 a2 a3;subst a1 a2 a3;refine .slr k i n v wm esz rows h0 D E λe=>?_;have Z:(iL s es blks).g.μ k=s.g.μ b:=xJ z;rcases A e with⟨G,Q,U,R⟩|⟨r,cap,c,T,fz,G,q⟩;exact .inl ⟨by simp_all,Q,U,R⟩;exact .inr ⟨r,cap,c,T,fz,by simp_all,q⟩
 |ep b ext i off v wm esz rows h0 C E A=>
  intro j;simp only[ren]at j;obtain⟨k,z,rfl⟩:=gM.1 j;obtain⟨_,z⟩:=xK z;simp only[vV]at z;obtain⟨x,D,B⟩:=rL h z;obtain⟨F,rows',row,h1,h2,h3,rfl⟩:=B;have L:=h1;rw[C]at h1;injection h1 with h1;injection h1 with a1 a2 a3;subst a1 a2 a3;have V:=JA h3;obtain⟨r,G,A⟩:=A h2 (by omega);subst A;exact .ptr k off r (i*esz) (RQ z L G) ⟨_,D⟩
 |fn f first caps fs cs h1 h2 _ _ W Y=>
  intro j;simp only[ren]at j;obtain⟨l1,N,j⟩:=cR.1 j;obtain⟨l2,K,rfl⟩:=gM.1 j;obtain⟨J,M⟩:=uM N;obtain⟨k3,k4⟩:=uM K;refine .fn f _ _ fs cs (by omega) (by omega) (λi y v I A=>?_) (λi y v I A=>?_)
  all_goals grind [JA]
def idE(es:List Ent)(k:Nat):Nat:=((es[k]?).map Ent.id).getD 0
theorem wT{k:Nat}{e:Ent}(he:es[k]?=some e):idE es k=e.id:=by simp[idE,he]
include h in
theorem tN(k r o:Nat)(hw:Wr1 (iL s es blks) k r o):k<es.length/\Wr1 s (idE es k) r o:=by
 unfold Wr1 at hw;have q:(iL s es blks).σ=blks:=rfl;rw[q]at hw;cases hk:blks[k]? with
 |none=>simp_all
 |some x=>
  have j:k<es.length:=by rw[h.len];grind
  refine⟨j,?_⟩;have e:es[k]?=some es[k]:=zQ9 j;have g:=h.blk k _ x e hk;rw[wT e];rw[hk]at hw;unfold Wr1;cases hcase:es[k]with
  |whole b=>
   rw[hcase]at g e;rcases g with⟨cs',l,h1,h2,rfl⟩|⟨w,n,rows',h1,rfl⟩
   all_goals grind [Ent.id,xJ,uM]
  |elem b ext i=>
   rw[hcase]at g e;obtain⟨n,rows',row,h1,h2,h3,rfl⟩:=g;grind [Ent.id,iL]
include h in
theorem JKM:Inv (iL s es blks):=by
 have hi:=h.inv;have hlen:(iL s es blks).σ.length=es.length:=h.len.symm;refine Ee hi rfl ?_ ?_ (idE es) ?_ (λk r o K=>(tN h k r o K).2) (λr o M=>⟨(hi.const r o M).1,λk K=>(hi.const r o M).2 _ (tN h k r o K).2⟩);intro k cs z;have z:blks[k]?=some (.box cs):=z;have A:k<es.length:=by grind
 have y:es[k]?=some es[k]:=zQ9 A;have q:=h.blk k _ _ y z;cases hcase:es[k]with
 |whole b=>
  rw[hcase]at q y;rcases q with⟨cs',l,h1,h2,g⟩|⟨w,n,rows',h1,g⟩;injection g with g;subst g;obtain⟨E,I⟩:=uM h2;obtain⟨r,o,c,e,fz,D,H,V,L,F⟩:=hi.box _ _ h1;refine⟨r,o,c,e,fz,by grind [xJ],H,by omega,λi x T=>?_,by simp_all⟩;grind [JA,Dh];cases g
 |elem b ext i=>
  rw[hcase]at q y;obtain⟨n,rows',row,h1,h2,h3,g⟩:=q;injection g with g;subst g;have G:=JA h3;rcases hi.arr _ _ _ _ h1 with⟨D,C⟩|⟨r,c,e,fz,D,H,J,W,L,F⟩;simp_all;have U:=J row (iU h3);have N:i*n+n<=rows'.length*n:=(by have:=zQ4 n (show i+1<=rows'.length from G);grind);refine⟨r,i*n,c,e,fz,RQ y h1 D,H,by simp;omega,λj x B=>?_,λo h1 h2=>F.1 o (zQ2 _) (by grind)⟩;rw[gA]at B;cases hrj:row[j]? with
  |none=>simp_all
  |some c0=>simp[hrj]at B;subst B;obtain⟨⟨v,S,C⟩,_⟩:=L i j row c0 h3 hrj;exact⟨v,S,.p _ _ C,C.one⟩
 intro k wm esz rows z;have z:blks[k]?=some (.arr wm esz rows):=z;have A:k<es.length:=by grind
 have y:es[k]?=some es[k]:=zQ9 A;have q:=h.blk k _ _ y z;cases hcase:es[k]with
 |whole b=>
  rw[hcase]at q y;rcases q with⟨cs',l,h1,h2,g⟩|⟨w,n,rows',h1,g⟩;cases g;injection g with a1 a2 a3;subst a1 a2 a3;rcases hi.arr _ _ _ _ h1 with⟨D,C⟩|⟨r,c,e,fz,D,O⟩;exact .inl ⟨by grind [xJ],C⟩;exact .inr ⟨r,c,e,fz,by grind [xJ],O⟩
 |elem b ext i=>rw[hcase]at q y;obtain⟨n,rows',row,h1,h2,h3,g⟩:=q;cases g
 ·intro E I h1 h2 R;rw[hlen]at h1 h2;have Q:es[E]?=some es[E]:=zQ9 h1;have P:es[I]?=some es[I]:=zQ9 h2;rw[wT Q,wT P]at R;refine RY h.nodup (x:=es[E].id) ?_ ?_
  all_goals simp_all
end
end Go.Am
end
section
namespace Go.Am
def pS(s1:Sn)(es:List Ent)(new:Nat)(σ2:List Blk)(k:Nat)(y:Blk):Prop:=
 match es[k]? with
 |some (.whole b)=>(∃cs l,y=.box cs/\bk.bkL es new cs=some l/\σ2[b]?=some (.box l))\/(∃w esz rows,y=.arr w esz rows/\σ2[b]?=some (.arr w esz rows))
 |some (.elem b _ i)=> ∃w esz rows e,s1.σ[b]?=some (.arr w esz rows)/\y=.box (e.map .p)/\σ2[b]?=some (.arr w esz (rows.set i e))
 |none=>(∃cs l,y=.box cs/\bk.bkL es new cs=some l/\σ2[new+(k-es.length)]?=some (.box l))\/(∃w esz rows,y=.arr w esz rows/\σ2[new+(k-es.length)]?=some (.arr w esz rows))
structure pw(s1:Sn)(es:List Ent)(blks:List Blk)(new kf:Nat)(c':Sn)(σ2:List Blk):Prop where
 cin:YI s1 es blks
 inv:Inv c'
 trans:bE (iL s1 es blks) c'
 len:c'.σ.length=es.length+kf
 slen:σ2.length=s1.σ.length
 dead: ∀j,j<kf->s1.σ[new+j]?=some .dead
 out: ∀k y,c'.σ[k]?=some y->pS s1 es new σ2 k y
 same: ∀b,b∉es.map Ent.id->(b<new\/new+kf<=b)->σ2[b]?=s1.σ[b]?
def kOf(es:List Ent)(new kf b:Nat):Option Nat:=
 match dY (.whole b) es 0 with
 |some k=>some k
 |none=>if new<=b/\b<new+kf/\b∉es.map Ent.id then some (es.length+(b-new))else none
def fT(s1:Sn)(es:List Ent)(new kf:Nat)(c':Sn)(σ2:List Blk):Sn:=
 ⟨σ2,⟨λb=>match kOf es new kf b with
  |some k=>c'.g.μ k
  |none=>s1.g.μ b,c'.g.C⟩,c'.w⟩
theorem vf{e:Ent}: ∀{es:List Ent} {k:Nat},dY e es k=none->e∉es
 |[],k,_=>by simp
 |x::r,k,h=>by
  simp only[dY]at h;split at h;cases h;rename_i g;simp only[eR,not_or];exact⟨λe=>g e.symm,vf h⟩
section
variable {s1 c':Sn} {es:List Ent} {blks σ2:List Blk} {new kf:Nat} (h:pw s1 es blks new kf c' σ2)
theorem PB{k:Nat}{e:Ent}(he:es[k]?=some e):e.id∈es.map Ent.id:=jM.2 ⟨e,iU he,rfl⟩
include h in
theorem FB{e g:Nat}{e1 e2:Ent}(h1:es[e]?=some e1)(h2:es[g]?=some e2)(he:e1.id=e2.id):e=g:=
 RY h.cin.nodup (x:=e1.id) (by simp_all) (by simp_all)
include h in
theorem JHN{k:Nat}{e:Ent}(he:es[k]?=some e): ∃y,s1.σ[e.id]?=some y/\y≠.dead:=by
 obtain⟨x,_,g⟩:=rL h.cin he;cases e with
 |whole b=>
  rcases g with⟨cs',l,h1,h2,rfl⟩|⟨w,j,rows',h1,rfl⟩;exact⟨_,h1,by simp⟩;exact⟨_,h1,by simp⟩
 |elem b ext i=>obtain⟨j,rows',row,h1,h2,h3,rfl⟩:=g;exact⟨_,h1,by simp⟩
include h in
theorem JF4{j:Nat}(hj:j<kf):new+j∉es.map Ent.id:=by intro n;obtain⟨e,q,g⟩:=jM.1 n;obtain⟨k,o⟩:=mT q;obtain⟨y,r,v⟩:=JHN h o;rw[g,h.dead j hj]at r;simp_all
include h in
theorem JDx{k b:Nat}(he:es[k]?=some (.whole b)):kOf es new kf b=some k:=by
 unfold kOf;cases hc:dY (.whole b) es 0 with
 |none=>exact absurd (iU he) (vf hc)
 |some k'=>
  obtain⟨_,e⟩:=xK hc;grind [FB]
include h in
theorem JGK{k b e i:Nat}(he:es[k]?=some (.elem b e i)):kOf es new kf b=none:=by
 unfold kOf;cases hc:dY (.whole b) es 0 with
 |some k'=>obtain⟨_,g⟩:=xK hc;simp only[vV]at g;have:=FB h g he rfl;simp_all
 |none=>have:b∈es.map Ent.id:=PB he;simp[this]
include h in
theorem JDR{j:Nat}(hj:j<kf):kOf es new kf (new+j)=some (es.length+j):=by
 unfold kOf;have g:=JF4 h hj;cases hc:dY (.whole (new+j)) es 0 with
 |some k'=>obtain⟨_,e⟩:=xK hc;simp only[vV]at e;exact absurd (PB e) g
 |none=>simp_all
theorem RN{b:Nat}(h1:b∉es.map Ent.id)(h2:b<new\/new+kf<=b):kOf es new kf b=none:=by
 unfold kOf;cases hc:dY (.whole b) es 0 with
 |some k'=>obtain⟨_,e⟩:=xK hc;simp only[vV]at e;exact absurd (PB e) h1
 |none=>
  grind
def tgt(es:List Ent)(new k:Nat):Nat:=match es[k]? with|some e=>e.id|none=>new+(k-es.length)
include h in
theorem oE{k:Nat}(hk:k<es.length+kf)(j: ∀b e i,es[k]?≠some (.elem b e i)):(fT s1 es new kf c' σ2).g.μ (tgt es new k)=c'.g.μ k:=by
 simp only[fT,tgt];cases he:es[k]? with
 |some e=>
  cases e with
  |whole b=>simp only[Ent.id];rw[JDx h he]
  |elem b e i=>simp_all
 |none=>
  grind [JDR]
include h in
theorem FZ{k b ext i:Nat}(he:es[k]?=some (.elem b ext i)): ∃esz rows row r j,s1.σ[b]?=some (.arr true esz rows)/\ext=rows.length/\rows[i]?=some row/\s1.g.μ b=some (r,0)/\
  c'.σ[k]?=some (.box (j.map .p))/\j.length=row.length/\row.length=esz/\c'.g.μ k=some (r,i*esz)/\σ2[b]?=some (.arr true esz (rows.set i j))/\(fT s1 es new kf c' σ2).g.μ b=some (r,0):=by
 obtain⟨x,A,q⟩:=rL h.cin he;obtain⟨esz,rows,row,h1,h2,h3,rfl⟩:=q;have C:=JA h3;rcases h.cin.inv.arr _ _ _ _ h1 with⟨B,K⟩|⟨r,c,e,fz,B,H,y,J,E,D⟩;simp_all;obtain⟨⟨cs',z,L⟩,I⟩:=h.trans.box k _ A;have o:=h.out k _ z;unfold pS at o;rw[he]at o;obtain⟨w,v,rows',j,n,F,G⟩:=o;rw[h1]at n;injection n with n;injection n with a1 a2 a3;subst a1 a2 a3;grind [RQ,fT,JGK]
include h in
theorem qt{x y:AV}{v:Value}(hr:JK c' x v):bk es new x=some y->JK (fT s1 es new kf c' σ2) y v:=by
 have G: ∀{k:Nat} {z:Blk},c'.σ[k]?=some z->k<es.length+kf:=λhz=>by rw[<-h.len];grind
 induction hr generalizing y with
 |p c v hp=>intro j;simp[bk]at j;subst j;exact .p _ _ hp
 |data cs vs h1 h2=>intro j;simp[bk]at j;subst j;exact .data _ _ h1 h2
 |cp cs off r o vals Z V=>intro j;simp[bk]at j;subst j;exact .cp cs off r o vals Z V
 |unk x=>intro j;simp[bk]at j;subst j;exact .unk x
 |agg cs vs h1 h0 h2 ih=>
  intro j;simp only[bk]at j;split at j;rename_i l R;injection j with j;subst j;obtain⟨T,S⟩:=uJ R;refine .agg _ _ (by omega) h0 λi y v Q H=>?_;grind [JA];cases j
 |tup cs vs h1 h2 ih=>
  intro j;simp only[bk]at j;split at j;rename_i l R;injection j with j;subst j;obtain⟨T,S⟩:=uJ R;refine .tup _ _ (by omega) λi y v Q H=>?_;grind [JA];cases j
 |ptr k off r o hm B=>
  intro j;obtain⟨cs,B⟩:=B;have F:=G B;have D:=h.out k _ B;unfold pS at D;simp only[bk]at j;split at j;rename_i I;have a9:es[k]?=some es[k]:=zQ9 I;split at j;rename_i b A;injection j with j;subst j;have C:=oE h F (by rw[A];simp);simp only[tgt,A,Ent.id]at C;rw[A]at D;rcases D with⟨cs',l,E,L,P⟩|⟨w,esz,rows,E,L⟩;exact .ptr b off r o (by simp_all) ⟨l,P⟩;cases E;rename_i b e i A;injection j with j;subst j;obtain⟨esz,rows,row,r',N,f1,W,f3,f4,f5,f6,f7,K,Y,U⟩:=FZ h A;rw[hm]at K;injection K with K;injection K with g1 g2;subst g1 g2;exact .ep b e i off _ true esz (rows.set i N) ⟨_,_,rfl⟩ Y (by simp[W]) λ_ _=>⟨r,U,rfl⟩;cases j;rename_i M;injection j with j;subst j;have A:es[k]?=none:=kS (by omega);have C:=oE h F (by rw[A];simp);simp only[tgt,A]at C;rw[A]at D;rcases D with⟨cs',l,E,L,P⟩|⟨w,esz,rows,E,L⟩;exact .ptr _ off r o (by simp_all) ⟨l,P⟩;cases E
 |slr k i n v wm esz rows h0 B J H=>
  intro j;have F:=G B;have D:=h.out k _ B;unfold pS at D;have go: ∀b,(fT s1 es new kf c' σ2).g.μ b=c'.g.μ k->σ2[b]?=some (.arr wm esz rows)->JK (fT s1 es new kf c' σ2) (.slr b i n) v:=(by intro b C O;refine .slr b i n v wm esz rows h0 O J λe=>?_;rcases H e with⟨m',q1,q2,q3⟩|⟨r,cap,c,E,fz,m',q⟩;exact .inl ⟨by simp_all,q1,q2,q3⟩;exact .inr ⟨r,cap,c,E,fz,by simp_all,q⟩);simp only[bk]at j;split at j;rename_i I;split at j;rename_i b A;injection j with j;subst j;have C:=oE h F (by rw[A];simp);grind [tgt,Ent.id];cases j;rename_i M;injection j with j;subst j;have A:es[k]?=none:=kS (by omega);have C:=oE h F (by rw[A];simp);grind [tgt]
 |ep k ext i off v wm esz rows h0 B J H=>
  intro j;have F:=G B;have D:=h.out k _ B;unfold pS at D;have go: ∀b,(fT s1 es new kf c' σ2).g.μ b=c'.g.μ k->σ2[b]?=some (.arr wm esz rows)->JK (fT s1 es new kf c' σ2) (.ep b ext i off) v:=by intro b C O;refine .ep b ext i off v wm esz rows h0 O J λE L=>?_;simp_all
  simp only[bk]at j;split at j;rename_i I;split at j;rename_i b A;injection j with j;subst j;have C:=oE h F (by rw[A];simp);grind [tgt,Ent.id];cases j;rename_i M;injection j with j;subst j;have A:es[k]?=none:=kS (by omega);have C:=oE h F (by rw[A];simp);grind [tgt]
 |fn f first caps fs cs h1 h2 _ _ aa a8=>
  intro j;simp only[bk]at j;split at j
  ·rename_i a c ha hc;injection j with j;subst j;obtain⟨T,S⟩:=uJ ha;obtain⟨k3,k4⟩:=uJ hc;refine .fn f a c fs cs (by omega) (by omega) (λi y v Q H=>?_) (λi y v Q H=>?_)
   all_goals grind [JA]
  cases j
inductive UZ(es:List Ent)(new kf b:Nat):Prop where|out (k:Nat):k<es.length+kf->tgt es new k=b->(∀b e i,es[k]?≠some (.elem b e i))->UZ es new kf b|elem (k e i:Nat):es[k]?=some (.elem b e i)->UZ es new kf b|other:b∉es.map Ent.id->(b<new\/new+kf<=b)->UZ es new kf b
theorem uD(b:Nat):UZ es new kf b:=by
 by_cases n:b∈es.map Ent.id;obtain⟨e,j,g⟩:=jM.1 n;obtain⟨k,h⟩:=mT j;have r:=JA h;cases e with
 |whole q=>simp only[Ent.id]at g;subst g;exact .out k (by omega) (by grind [tgt,Ent.id]) (by rw[h];simp)
 |elem q e' o=>simp only[Ent.id]at g;subst g;exact .elem k e' o h
 by_cases v:new<=b/\b<new+kf;have j:es[es.length+(b-new)]?=none:=kS (by omega);refine .out (es.length+(b-new)) (by omega) ?_ (by rw[j];simp);grind [tgt];exact .other n (by omega)
include h in
theorem LD{k:Nat}(hk:k<es.length+kf)(j: ∀b e i,es[k]?≠some (.elem b e i))(r o:Nat):
  Wr1 (fT s1 es new kf c' σ2) (tgt es new k) r o↔Wr1 c' k r o:=by
 have q:=oE h hk j;have g:k<c'.σ.length:=by rw[h.len];exact hk
 have n:c'.σ[k]?=some c'.σ[k]:=zQ9 g;have w:=h.out k _ n;unfold pS at w;unfold Wr1;rw[n,q];have v:(fT s1 es new kf c' σ2).σ=σ2:=rfl;rw[v];cases he:es[k]? with
 |some e=>
  grind [tgt,Ent.id,uJ]
 |none=>
  grind [tgt,uJ]
include h in
theorem LZ{k b e i:Nat}(he:es[k]?=some (.elem b e i))(r o:Nat):Wr1 (fT s1 es new kf c' σ2) b r o↔Wr1 s1 b r o:=by
 obtain⟨esz,rows,row,r',g,v,y,A,z,w,x,q,n,B,j⟩:=FZ h he;grind [Wr1,fT]
include h in
theorem de{b:Nat}(h1:b∉es.map Ent.id)(h2:b<new\/new+kf<=b)(r o:Nat):Wr1 (fT s1 es new kf c' σ2) b r o↔Wr1 s1 b r o:=by
 unfold Wr1;have j:(fT s1 es new kf c' σ2).σ=σ2:=rfl;have e:(fT s1 es new kf c' σ2).g.μ b=s1.g.μ b:=by grind [fT,RN]
 rw[j,h.same b h1 h2,e]
include h in
theorem tt{r o:Nat}(hw:Wr c' r o):(∃k e,es[k]?=some e/\Wr1 (iL s1 es blks) k r o/\Wr1 s1 e.id r o)\/s1.w.heap.size<=r:=by
 rcases h.trans.wnew r o hw with⟨k,j⟩|n;obtain⟨g,q⟩:=tN h.cin k r o j;have v:es[k]?=some es[k]:=zQ9 g;grind [wT];exact .inr n
include h in
theorem s5:bE s1 (fT s1 es new kf c' σ2):=by
 refine⟨?_,λr o C=>h.trans.cmono r o C,λr o C=>?_,λr o ⟨b,I⟩=>?_,Nat.le_of_eq h.slen.symm,λb cs z=>?_,λb wm esz rows z=>?_⟩;refine h.trans.keep.mono λr o ⟨k,n⟩=>?_;exact⟨_,(tN h.cin k r o n).2⟩;rcases h.trans.cnew r o C with C|⟨k,n⟩|Q;exact .inl C;exact .inr (.inl ⟨_,(tN h.cin k r o n).2⟩);exact .inr (.inr Q);cases uD (es:=es) (new:=new) (kf:=kf) b with
 |out k n j v=>
  subst j;rcases tt h ⟨k,(LD h n v r o).1 I⟩with⟨k',e,_,_,L⟩|Q;exact .inl ⟨_,L⟩;simp_all
 |elem k e i g=>exact .inl ⟨b,(LZ h g r o).1 I⟩
 |other h1 h2=>exact .inl ⟨b,(de h h1 h2 r o).1 I⟩
 ·cases uD (es:=es) (new:=new) (kf:=kf) b with
  |out k n j v=>
   cases g:es[k]? with
   |none=>
    exfalso;simp only[tgt,g]at j;have K:es.length<=k:=by simp_all
    have:=h.dead (k-es.length) (by omega);simp_all
   |some e=>
    cases e with
    |elem b e i=>simp_all
    |whole U=>
     simp only[tgt,g,Ent.id]at j;subst j;obtain⟨x,J,B⟩:=rL h.cin g;rcases B with⟨cs',l,h1,h2,rfl⟩|⟨w,A,rows',h1,rfl⟩
     ·rw[z]at h1;injection h1 with h1;injection h1 with h1;subst h1
      obtain⟨⟨Z,H,R⟩,P⟩:=h.trans.box k _ J;have y:=h.out k _ H;unfold pS at y;rw[g]at y;have G:=oE h n v;simp only[tgt,g,Ent.id]at G;rcases y with⟨O,l',q,F,N⟩|⟨w,esz,rows,q,F⟩
      ·injection q with q;subst q;refine⟨⟨l',N,?_⟩,?_⟩
       all_goals grind [uJ,uM,xJ]
      cases q
     simp_all
  |elem k e i g=>
   grind [FZ]
  |other h1 h2=>
   refine⟨⟨cs,by rw[<-z];exact h.same b h1 h2,rfl⟩,?_⟩;grind [fT,RN]
 cases uD (es:=es) (new:=new) (kf:=kf) b with
 |out k n j v=>
  cases g:es[k]? with
  |none=>
   exfalso;simp only[tgt,g]at j;have K:es.length<=k:=by simp_all
   have:=h.dead (k-es.length) (by omega);simp_all
  |some e=>
   cases e with
   |elem b e i=>simp_all
   |whole U=>
    simp only[tgt,g,Ent.id]at j;subst j;obtain⟨x,J,B⟩:=rL h.cin g;rcases B with⟨cs',l,h1,h2,rfl⟩|⟨w,A,rows',h1,rfl⟩;simp_all;rw[z]at h1;injection h1 with h1;injection h1 with a1 a2 a3;subst a1 a2 a3;obtain⟨wm',E,H,R,P,q4⟩:=h.trans.arr k _ _ _ J;have y:=h.out k _ H;unfold pS at y;rw[g]at y;have G:=oE h n v;simp only[tgt,g,Ent.id]at G;rcases y with⟨O,l',q,F,N⟩|⟨w,T,S,q,F⟩;cases q;injection q with a1 a2 a3;subst a1 a2 a3;exact⟨wm',E,F,R,P,λe=>by grind [xJ]⟩
 |elem k e i g=>
  obtain⟨A,rows',row,r',W,D,f2,f3,V,f5,f6,f7,f8,Y,M⟩:=FZ h g;rw[z]at D;injection D with D;injection D with a1 a2 a3;subst a1 a2 a3;exact⟨true,_,Y,λ_=>rfl,by simp,λ_=>by rw[M,V]⟩
 |other h1 h2=>
  refine⟨wm,rows,by rw[<-z];exact h.same b h1 h2,id,zQ0 _,λ_=>?_⟩;grind [fT,RN]
include h in
theorem JHQ:Inv (fT s1 es new kf c' σ2):=by
 have hi:=h.cin.inv;have t:=s5 h;have N: ∀{b},¬(b∈es.map Ent.id\/(new<=b/\b<new+kf))->b∉es.map Ent.id/\(b<new\/new+kf<=b):=λG=>⟨λA=>G (.inl A),by omega⟩;have z: ∀{k b e i r o},es[k]?=some (.elem b e i)->(Wr1 (iL s1 es blks) k r o↔Wr1 c' k r o):=(by intro k b e i r o n;obtain⟨x,hx,aa⟩:=rL h.cin n;obtain⟨esz,rows,row,h1,h2,h3,rfl⟩:=aa;obtain⟨⟨cs',q1,q2⟩,q3⟩:=h.trans.box k _ hx;grind [iL,Wr1]);have O: ∀{k b r o},k<es.length+kf->Wr1 c' k r o->Wr1 s1 b r o->(∃k',es[k']?=some (.whole b)\/ ∃e i,es[k']?=some (.elem b e i)/\k'=k):=by
  intro k b r o M I L;rcases tt h ⟨k,I⟩with⟨k',e,n,aq,q⟩|G;have D:=hi.apart _ _ _ _ q L;cases e with
  |whole b'=>grind [Ent.id]
  |elem b' e' i'=>
   simp only[Ent.id]at D;subst D;have:=h.inv.apart _ _ _ _ ((z n).1 aq) I;grind
  have:=wR hi b r o L;omega
 refine pZ hi t (λb=>b∈es.map Ent.id\/(new<=b/\b<new+kf)) ?_ ?_ ?_ ?_ ?_ ?_ ?_ ?_;intro b G;obtain⟨h1,h2⟩:=N G;exact⟨h.same b h1 h2,by grind [fT,RN]⟩;intro b r o v G I hv;refine h.trans.keep.cell ?_ hv;rintro⟨k,M⟩;obtain⟨C,q⟩:=tN h.cin k r o M;have n:es[k]?=some es[k]:=zQ9 C;rw[wT n]at q;have:=hi.apart _ _ _ _ q I;simp_all;intro b cs hd L;have L:σ2[b]?=some (.box cs):=L;cases uD (es:=es) (new:=new) (kf:=kf) b with
 |other h1 h2=>grind
 |elem k e i n=>
  grind [FZ]
 |out k M Y W=>
  subst Y;have C:k<c'.σ.length:=by rw[h.len];exact M
  have hg:c'.σ[k]?=some c'.σ[k]:=zQ9 C;have ho:=h.out k _ hg;unfold pS at ho;have a9: ∃a0,c'.σ[k]?=some (.box a0)/\bk.bkL es new a0=some cs:=by
   cases n:es[k]? with
   |some e=>
    grind [tgt,Ent.id]
   |none=>
    grind [tgt]
  obtain⟨a0,h0,hl⟩:=a9;obtain⟨k1,k2⟩:=uJ hl;obtain⟨r,o,c,e,fz,A,hh,cb,hx,bf⟩:=h.inv.box _ _ h0;refine⟨r,o,c,e,fz,by grind [oE],hh,by omega,λi x c8=>?_,by simp_all⟩;grind [JA,qt]
 intro b wm esz rows hd L;have L:σ2[b]?=some (.arr wm esz rows):=L;cases uD (es:=es) (new:=new) (kf:=kf) b with
 |other h1 h2=>grind
 |elem k e i n=>
  obtain⟨bn,rows',row,r',bs,f1,f2,f3,f4,f5,f6,f7,f8,f9,bh⟩:=FZ h n;rw[L]at f9;injection f9 with f9;injection f9 with a1 a2 a3;subst a1 a2 a3;have C:=JA f3;rcases hi.arr _ _ _ _ f1 with⟨A,V⟩|⟨r,c,e1,fz,A,hh,ao,hl,hx,bf⟩;simp_all;rw[f4]at A;injection A with A;injection A with A _;subst A;obtain⟨c2,q1,q2,q3⟩:=t.keep.2.1 _ _ _ _ hh;obtain⟨rr,oo,c3,e3,c9,m3,T,bo,b7,bq⟩:=h.inv.box _ _ f5;rw[f8]at m3;injection m3 with m3;injection m3 with y H;subst y H;have b8:c'.w.heap[r']?=some (.cells c2 e1 fz):=q1;rw[b8]at T;injection T with T;injection T with y H w3;subst y H w3;refine .inr ⟨r',c2,e1,fz,bh,q1,λcd cc=>?_,by simp;omega,λP j aj x0 K a4=>⟨?_,λh=>by cases h⟩,by simp_all⟩;grind;have c1:=JA a4;by_cases ai:P=i;subst ai;rw[DK C]at K;injection K with K;subst K;obtain⟨v,hv,V,_⟩:=b7 j (.p x0) (by simp[a4]);refine⟨v,hv,?_⟩;cases V with|p _ _ V=>exact V
  rw[HH (Ne.symm ai)]at K;obtain⟨⟨v',ce,b0⟩,_⟩:=hx P j aj x0 K a4;refine⟨v',?_,b0.mono hi t⟩;have ac:cellAt s1.w r' (P*esz+j)=some v':=by grind [lZ]
  have b9:j<esz:=by grind
  have b4: ¬Wr (iL s1 es blks) r' (P*esz+j):=by
   rintro⟨k',g⟩;obtain⟨E,q⟩:=tN h.cin k' _ _ g;have B:es[k']?=some es[k']:=zQ9 E;rw[wT B]at q;have bi:Wr1 s1 b r' (P*esz+j):=by grind [Wr1]
   have D:=hi.apart _ _ _ _ q bi;have J:k'=k:=FB h B n D;subst J;obtain⟨x,bc,aa⟩:=rL h.cin n;obtain⟨bx,bm,Z,F,U,g3,rfl⟩:=aa;rw[f1]at F;injection F with F;injection F with z1 z2 z3;subst z2 z3;have am:(iL s1 es blks).σ[k']?=some (.box (Z.map .p)):=bc;unfold Wr1 at g;rw[am,RQ n f1 f4]at g;obtain⟨o0,m0,ca,ba⟩:=g;injection m0 with m0;injection m0 with _ m0;subst m0;have bt:=ao Z (iU g3);simp at ba;rcases zQ3 P i with ap|bz;have:=lW ap b9;omega;have:=zQ4 esz (show i+1<=P by omega);grind
  have:=h.trans.keep.cell b4 ac;grind [lZ]
 |out k M Y W=>
  subst Y;have C:k<c'.σ.length:=by rw[h.len];exact M
  have hg:c'.σ[k]?=some c'.σ[k]:=zQ9 C;have ho:=h.out k _ hg;unfold pS at ho;have a9:c'.σ[k]?=some (.arr wm esz rows):=by
   cases n:es[k]? with
   |some e=>
    grind [tgt,Ent.id]
   |none=>
    grind [tgt]
  rcases h.inv.arr _ _ _ _ a9 with⟨A,V⟩|⟨r,c,e,fz,A,hq⟩;exact .inl ⟨by grind [oE],V⟩;exact .inr ⟨r,c,e,fz,by grind [oE],hq⟩
 
 intro b1 b2 r o hd h1 h2;cases uD (es:=es) (new:=new) (kf:=kf) b1 with
 |other F U=>grind
 |out k1 a8 bd au=>
  subst bd;have y:=(LD h a8 au r o).1 h1;cases uD (es:=es) (new:=new) (kf:=kf) b2 with
  |out k2 S a7 Q=>subst a7;have H:=(LD h S Q r o).1 h2;rw[h.inv.apart _ _ _ _ y H]
  |elem k2 e i n=>
   exfalso;have H:=(LZ h n r o).1 h2;obtain⟨k',g|⟨e',i',g,J⟩⟩:=O a8 y H;have:=FB h g n rfl;simp_all;simp_all
  |other F U=>
   exfalso;have H:=(de h F U r o).1 h2;obtain⟨k',g|⟨e',i',g,J⟩⟩:=O a8 y H;exact F (PB g);simp_all
 |elem k1 e1 i1 ah=>
  have y:=(LZ h ah r o).1 h1;cases uD (es:=es) (new:=new) (kf:=kf) b2 with
  |out k2 S a7 Q=>
   subst a7;exfalso;have H:=(LD h S Q r o).1 h2;obtain⟨k',g|⟨e',i',g,J⟩⟩:=O S H y;have:=FB h g ah rfl;simp_all;simp_all
  |elem k2 e i n=>exact hi.apart _ _ _ _ y ((LZ h n r o).1 h2)
  |other F U=>exact hi.apart _ _ _ _ y ((de h F U r o).1 h2)
 exact λr o R=>(h.inv.const r o R).1;intro r o b R hd I;cases uD (es:=es) (new:=new) (kf:=kf) b with
 |other F U=>grind
 |out k M Y W=>subst Y;exact(h.inv.const r o R).2 _ ((LD h M W r o).1 I)
 |elem k e i n=>
  have y:=(LZ h n r o).1 I;rcases h.trans.cnew r o R with a6|⟨k',g⟩|G;exact(hi.const r o a6).2 _ y;obtain⟨E,q⟩:=tN h.cin k' _ _ g;have B:es[k']?=some es[k']:=zQ9 E;rw[wT B]at q;have D:=hi.apart _ _ _ _ q y;have J:k'=k:=FB h B n D;subst J;exact(h.inv.const r o R).2 _ ((z n).1 g);have G:s1.w.heap.size<=r:=G;have:=wR hi _ _ _ y;omega
 intro r o b R bb hd I;rcases h.trans.cnew r o R with a6|⟨k',g⟩|G;exact bb a6;obtain⟨E,q⟩:=tN h.cin k' _ _ g;have B:es[k']?=some es[k']:=zQ9 E;rw[wT B]at q;have D:=hi.apart _ _ _ _ q I;simp_all;have G:s1.w.heap.size<=r:=G;have:=wR hi _ _ _ I;omega
end
end Go.Am
end
