/-
  Parts of a proof.
-/
import Derived.Calls
import Derived.LoopN
import Derived.KernelRfl
import Derived.Laws.Sem
import Derived.Laws.StructEq
import Derived.Laws.Cells
import Derived.Laws.Cover3
import Derived.Laws.Pointers
import Derived.Deep.AppendSrc
import Derived.Laws.MakeOwn
import Derived.Laws.BytesString
import Derived.Lib.SliceRun
import Derived.DeepKeys
set_option linter.unusedSimpArgs false
set_option linter.unusedVariables false
set_option linter.unusedSectionVars false
section
namespace Go.Am
abbrev aJ:=Option
abbrev zQ0:= @Nat.le_refl
abbrev zQ1:= @Nat.le_trans
abbrev zQ2:= @Nat.zero_le
abbrev zQ3:= @Nat.lt_or_ge
abbrev zQ4:= @Nat.mul_le_mul_right
abbrev zQ5:= @List.mem_of_getElem?
abbrev zQ6:= @List.ext_getElem?
abbrev zQ7:= @List.mem_of_mem_drop
abbrev zQ8:= @Nat.add_mul
abbrev zQ9:= @List.mem_append
abbrev bA:= @List.getElem?_eq_getElem
abbrev qI:= @List.getElem?_eq_none
abbrev cJ:= @List.mem_cons
abbrev aV:= @Bool.and_eq_true
abbrev AB:= @Sem.run_bind
abbrev tW:= @Result.andThen_ok
abbrev iQ:= @Option.map_eq_some_iff
abbrev qs:= @Option.isSome_iff_exists
abbrev OZ:= @Array.ext'
abbrev JTj:= @Array.getElem?_toList
abbrev tS:= @List.flatten_cons
abbrev iS:= @List.getElem?_map
abbrev fB:= @Bool.false_eq_true
abbrev dv:= @List.length_eq_one_iff
abbrev jU:= @List.getElem?_of_mem
abbrev dy:= @Sem.run_pure
abbrev PA:= @List.mem_of_mem_take
abbrev DZ:= @List.getElem?_set_self
abbrev ch:= @List.getElem?_set_ne
abbrev kQ:= @List.length_cons
abbrev ZV:= @Array.all_eq_true_iff_forall_mem
abbrev AJ:= @List.length_replicate
abbrev gY:= @List.mem_map
abbrev rX:= @List.getElem?_append_right
abbrev dW:= @List.length_map
abbrev wI:= @Nat.add_zero
abbrev EK:= @List.drop_zero
abbrev JT9:= @Array.getElem?_append_left
abbrev qM:= @Nat.zero_add
abbrev AC:= @Array.getElem?_eq_getElem
abbrev dd:= @Nat.mul_comm
abbrev dP:= @List.length_append
abbrev kT:= @List.length_take
abbrev AN:= @List.length_drop
abbrev rl:= @List.getElem?_take
abbrev fM:= @List.append_nil
abbrev AK:= @List.getElem?_append_left
abbrev eC:= @List.getElem?_eq_some_iff
abbrev KQ:= @Nat.eq_zero_or_pos
abbrev tZ:= @List.cons_append
abbrev wM:= @List.drop_drop
abbrev ZQ:= @Bool.not_eq_true'
abbrev wT:= @Nat.sub_zero
abbrev bU:= @Option.bind_eq_some_iff
abbrev Jy:= @Option.bind_some
abbrev eF:= @List.mem_cons_of_mem
abbrev ER:= @Bool.or_eq_true
abbrev iC:= @List.append_assoc
abbrev lV:= @List.take_append_drop
abbrev Iz:= @List.map_take
abbrev bZ:= @List.map_cons
abbrev wK:= @List.map_map
abbrev oO:= @List.map_append
abbrev cT:= @Option.map_some
abbrev sA:= @List.nil_append
abbrev ZU:= @List.map_replicate
abbrev eB:= @List.mem_singleton
abbrev jC:= @Int.le_trans
abbrev qJ:= @List.getElem_mem
abbrev aY:= @Int.le_refl
abbrev qK:= @List.mem_iff_getElem?
abbrev EO:= @Nat.pow_le_pow_right
abbrev qf:= @List.take_succ_cons
theorem _root_.And.c{h g e:Prop}(x:h/\g/\e):e:=x.2.2
theorem _root_.And.d{g h j e:Prop}(x:g/\h/\j/\e):e:=x.2.2.2
theorem _root_.And.e{j k n h g:Prop}(x:j/\k/\n/\h/\g):g:=x.2.2.2.2
theorem _root_.And.g{j n o h k e:Prop}(x:j/\n/\o/\h/\k/\e):e:=x.2.2.2.2.2
theorem _root_.And.h{j n q g k o e:Prop}(x:j/\n/\q/\g/\k/\o/\e):e:=x.2.2.2.2.2.2
theorem _root_.And.i{h k o g j n q e:Prop}(x:h/\k/\o/\g/\j/\n/\q/\e):e:=x.2.2.2.2.2.2.2
theorem _root_.And.j{h n r g k q v o e:Prop}(x:h/\n/\r/\g/\k/\q/\v/\o/\e):e:=x.2.2.2.2.2.2.2.2
theorem _root_.And.k{h n r g j q w o v e:Prop}(x:h/\n/\r/\g/\j/\q/\w/\o/\v/\e):e:=x.2.2.2.2.2.2.2.2.2
inductive PV where
 |b (x:Bool)
 |i (k:IntKind) (n:Int)
 |s (l:List UInt8)
 |sl (esz:Nat) (rows:List (List PV))
 |np
 |nf
 |slc (esz:Nat) (rows:List (List PV))
 deriving Inhabited
inductive AV where
 |p (c:PV)
 |data (cs:List PV)
 |agg (cs:List AV)
 |tup (vs:List AV)
 |ptr (b off:Nat)
 |cp (cs:List PV) (off:Nat)
 |slr (b i n:Nat)
 |ep (b ext i off:Nat)
 |pre (b n k:Nat)
 |fn (f:FuncId) (first caps:List AV)
 |unk
 deriving Inhabited
inductive Blk where
 |dead
 |box (cs:List AV)
 |arr (w:Bool) (esz:Nat) (rows:List (List PV))
 deriving Inhabited
abbrev Res:=AV×List Blk
abbrev Orc:=FuncId->List AV->List Blk->Option Res
structure St where
 env:List (Nat×AV)
 sto:List Blk
def lk(n:Nat):List (Nat×AV)->Option AV|[]=>none|(m,v)::r=>if n=m then some v else lk n r
inductive RM(α:Type) where|ret (a:α)|slot (n:Nat) (k:AV->RM α)|blk (b:Nat) (k:Blk->RM α)|fail
def RM.bind{α β:Type}:RM α->(α->RM β)->RM β| .ret a,f=>f a| .slot n k,f=>.slot n λv=>(k v).bind f| .blk b k,f=>.blk b λv=>(k v).bind f| .fail,_=>.fail
def RM.run{α:Type}:RM α->St->Option α
 | .ret a,_=>some a
 | .slot n k,s=>match lk n s.env with|some v=>(k v).run s|none=>none
 | .blk b k,s=>match s.sto[b]? with|some v=>(k v).run s|none=>none
 | .fail,_=>none
inductive Loc where
 |slot (n:Nat)
 |blk (b:Nat)
 deriving DecidableEq
def RM.reads{α:Type}:RM α->St->List Loc
 | .ret _,_=>[]
 | .slot n k,s=>.slot n::match lk n s.env with|some v=>(k v).reads s|none=>[]
 | .blk b k,s=>.blk b::match s.sto[b]? with|some v=>(k v).reads s|none=>[]
 | .fail,_=>[]
def RM.of{α:Type}:Option α->RM α|some a=>.ret a|none=>.fail
inductive Opd where
 |t (n:Nat)
 |c (x:AV)
 deriving Inhabited
inductive KD where
 |b
 |i (k:IntKind)
 |s
 deriving DecidableEq
inductive BT where
 |plain
 |bool
 |flat (ks:List KD)
 |nils
 |nilp
 |nilf
 deriving DecidableEq
inductive CK where
 |int (k:IntKind)
 |same
 |toStr
 |toBytes (own:Bool)
 deriving DecidableEq
inductive SK where
 |str
 |sl (esz:Nat)
 deriving DecidableEq
inductive AOp where
 |mv (x:Opd)
 |mkarr (esz:Nat) (x:Opd)
 |pick (c a b:Opd)
 |newbox (zero:List PV)
 |box (size:Nat) (x:Opd)
 |build (zero:List PV) (parts:List (Nat×Nat×Opd))
 |lits (own:Bool) (esz n:Nat) (zero:List PV) (parts:List (Nat×Opd))
 |load (agg:Bool) (size:Nat) (x:Opd)
 |store (size:Nat) (x v:Opd)
 |nilchk (x:Opd)
 |bin (op:BinOp) (t:BT) (x y:Opd)
 |un (op:UnOp) (x:Opd)
 |conv (k:CK) (x:Opd)
 |mkslice (own:Bool) (esz bytes:Nat) (zero:List PV) (l c:Opd)
 |slice (k:SK) (x:Opd) (lo hi mx:Option Opd)
 |faddr (off:Nat) (x:Opd)
 |field (agg:Bool) (off size:Nat) (x:Opd)
 |iaddr (esz:Nat) (x i:Opd)
 |aaddr (len esz:Nat) (x i:Opd)
 |sidx (x i:Opd)
 |aidx (agg:Bool) (len esz:Nat) (x i:Opd)
 |extr (x:Opd) (i:Nat)
 |call (f:FuncId) (args:List Opd) (k:Nat)
 |callv (g:Opd) (args:List Opd) (k:Nat)
 |len (str:Bool) (x:Opd)
 |app (esz bytes:Nat) (zero:List PV) (x y:Opd)
 |appn (esz bytes:Nat) (zero:List PV) (y:Opd)
 |mm (mx:Bool) (x y:Opd)
 |mkfn (f:FuncId) (first caps:List Opd)
 |newboxo (zero:List PV) (os:List (Nat×Nat))
 |buildo (zero:List PV) (parts:List (Nat×Nat×Opd)) (os:List (Nat×Nat))
 |storen (esz:Nat) (x:Opd)
 |callo (f:FuncId) (keep:List Bool) (args:List Opd) (k:Nat)
 |psuf (esz:Nat) (x lo:Opd)
 |shr (esz:Nat) (zero:List PV) (x hi:Opd)
 |clr (esz:Nat) (zero:List PV) (x:Opd)
 |mvn (esz:Nat) (zero:List PV) (x:Opd)
 deriving Inhabited
structure bW where
 op:AOp
 dst:Option Nat
 g:Option (Nat×Bool)
 deriving Inhabited
inductive cG where
 |skip
 |bad
 |reg (draw:Bool) (pairs:List (Nat×Nat)) (ins:List bW)
 |seq (a b:cG)
 |cond (c:Opd) (a b:cG)
 |block (id:Nat) (c:cG)
 |loop (live:List Nat) (c:cG)
 |lp (n:Nat) (live:List Nat) (c:cG)
 |scope (c:cG)
 |exit (id:Nat)
 |ret
 |keep (live:List Nat) (c:cG)
 |tidy (live:List Nat) (c:cG)
 |br (live:List Nat) (pre:cG) (c:Opd) (a b rest:cG)
 deriving Inhabited
inductive AX where
 |normal
 |exit (id:Nat)
 |ret
 deriving DecidableEq
abbrev Out:=AX×St
inductive wG where|tmp (t:Nat)|cell (t:Nat) (agg:Bool) (size:Nat)
structure AFn where
 np:Nat
 nt:Nat
 body:cG
 res:List wG
 fresh:Bool
structure Eff where
 val:AV
 ws:List (Nat×Blk)
def upd(ws:List (Nat×Blk))(sto:List Blk):List Blk:=ws.foldl (λs x=>s.set x.1 x.2) sto
def unp:List AV->Option (List PV)
 |[]=>some []
 | .p c::r=>match unp r with|some l=>some (c::l)|none=>none
 |_::_=>none
def cellsOf:AV->Option (List AV)| .p c=>some [.p c]| .data cs=>some (cs.map .p)| .agg cs=>some cs| .ptr b o=>some [.ptr b o]| .cp cs o=>some [.cp cs o]| .slr b i n=>some [.slr b i n]| .ep b e i o=>some [.ep b e i o]| .fn f a c=>some [.fn f a c]| .tup _=>none| .pre _ _ _=>none| .unk=>none
def lO(agg:Bool)(cs:List AV):Option AV:=
 if agg then
  match unp cs with
  |some l=>some (.data l)
  |none=>some (.agg cs)
 else match cs with|[x]=>some x|_=>none
def pM(agg:Bool)(cs:List PV):Option AV:=
 if agg then some (.data cs)
 else match cs with|[x]=>some (.p x)|_=>none
def sub{α:Type}(cs:List α)(off size:Nat):Option (List α):=if off=0/\cs.length=size then some cs else if off+size<=cs.length then some ((cs.drop off).take size)else none
def spl{α:Type}(cs:List α)(off:Nat)(vs:List α):Option (List α):=if off=0/\cs.length=vs.length then some vs else if off+vs.length<=cs.length then some (cs.take off++vs++cs.drop (off+vs.length))else none
def fz:AV->RM (List PV×List (Nat×Blk))
 | .p c=>.ret ([c],[])
 | .data cs=>.ret (cs,[])
 | .slr b i n=>.blk b fun
  | .arr _ esz rows=>if i+n=rows.length then .ret ([.sl esz (rows.drop i)],[(b,.arr false esz rows)])else .fail
  |_=>.fail
 | .agg cs=>fzL cs
 |_=>.fail
where
 fzL:List AV->RM (List PV×List (Nat×Blk))
  |[]=>.ret ([],[])
  |x::r=>(fz1 x).bind λa=>(fzL r).bind λc=>.ret (a.1++c.1,a.2++c.2)
 fz1:AV->RM (List PV×List (Nat×Blk))
  | .p c=>.ret ([c],[])
  | .slr b i n=>.blk b fun
   | .arr _ esz rows=>if i+n=rows.length then .ret ([.sl esz (rows.drop i)],[(b,.arr false esz rows)])else .fail
   |_=>.fail
  |_=>.fail
def wE:KD->PV->PV->Option Bool| .b,.b x,.b y=>some (x==y)| .i k,.i g x,.i e y=>if k=g/\k=e then some (x==y)else none| .s,.s x,.s y=>some (x==y)|_,_,_=>none
def cI:List KD->List PV->List PV->Option Bool
 |[],[],[]=>some true
 |k::ks,x::xs,y::e=>match wE k x y,cI ks xs e with|some a,some c=>some (a&&c)|_,_=>none
 |_,_,_=>none
def MP(op:BinOp)(k:IntKind)(x y:Int):Option PV:=
 if y<0 then none
 else match op with| .shl=>some (.i k (k.wrap (x*2^(min y.toNat k.bits))))| .shr=>some (.i k (x.fdiv (2^(min y.toNat k.bits))))|_=>none
def zV(op:BinOp)(k:IntKind)(x y:Int):Option PV:=
 match op with
 | .add=>some (.i k (k.wrap (x+y)))
 | .sub=>some (.i k (k.wrap (x-y)))
 | .mul=>some (.i k (k.wrap (x*y)))
 | .quo=>if y=0 then none else some (.i k (k.wrap (x.tdiv y)))
 | .rem=>if y=0 then none else some (.i k (x.tmod y))
 | .and=>some (.i k (k.wrap (BitVec.ofInt k.bits x&&&BitVec.ofInt k.bits y).toNat))
 | .or=>some (.i k (k.wrap (BitVec.ofInt k.bits x|||BitVec.ofInt k.bits y).toNat))
 | .xor=>some (.i k (k.wrap (BitVec.ofInt k.bits x^^^BitVec.ofInt k.bits y).toNat))
 | .eql=>some (.b (x==y))
 | .neq=>some (.b (x !=y))
 | .lss=>some (.b (decide (x<y)))
 | .leq=>some (.b (decide (x<=y)))
 | .gtr=>some (.b (decide (x>y)))
 | .geq=>some (.b (decide (x>=y)))
 |_=>none
def zP(op:BinOp)(x y:List UInt8):Option PV:=
 match op with
 | .add=>if x.length+y.length<=4611686018427387904 then some (.s (x++y))else none
 | .eql=>some (.b (x==y))
 | .neq=>some (.b (!(x==y)))
 | .lss=>some (.b (Op.bytesLess x y))
 | .leq=>some (.b (Op.bytesLess x y||x==y))
 | .gtr=>some (.b (!(Op.bytesLess x y||x==y)))
 | .geq=>some (.b (!Op.bytesLess x y))
 |_=>none
def jZ(op:BinOp)(r:Option Bool):Option AV:=
 match op,r with
 | .eql,some x=>some (.p (.b x))
 | .neq,some x=>some (.p (.b (!x)))
 |_,_=>none
def PC:BinOp->Option AV| .eql=>some .unk| .neq=>some .unk|_=>none
def oW(op:BinOp)(t:BT)(x y:AV):Option AV:=
 match t with
 | .plain=>match x,y with
  | .p (.i k a),.p (.i e c)=>match op with| .shl=>(MP .shl k a c).map .p| .shr=>(MP .shr k a c).map .p|_=>if k=e then(zV op k a c).map .p else none
  | .p (.s a),.p (.s c)=>(zP op a c).map .p
  |_,_=>none
 | .bool=>match x,y with| .p (.b a),.p (.b c)=>jZ op (some (a==c))|_,_=>none
 | .flat ks=>match x,y with| .data a,.data c=>jZ op (cI ks a c)|_,_=>none
 | .nils=>match x with
  | .p (.sl _ rows)=>match rows with|[]=>PC op|_::_=>jZ op (some false)
  | .slr _ _ n=>if n=0 then PC op else jZ op (some false)
  |_=>none
 | .nilp=>match x with| .p .np=>jZ op (some true)| .ptr _ _=>jZ op (some false)| .cp _ _=>jZ op (some false)| .ep _ _ _ _=>jZ op (some false)|_=>none
 | .nilf=>match x with| .p .nf=>jZ op (some true)| .fn _ _ _=>jZ op (some false)|_=>none
def unP(op:UnOp)(x:AV):Option AV:=
 match op,x with
 | .neg,.p (.i k n)=>some (.p (.i k (k.wrap (0-n))))
 | .xor,.p (.i k n)=>some (.p (.i k (k.wrap (BitVec.ofInt k.bits (if k.signed then -1 else k.max)^^^BitVec.ofInt k.bits n).toNat)))
 | .not,.p (.b x)=>some (.p (.b (!x)))
 | .not,.unk=>some .unk
 |_,_=>none
def uU:List (List PV)->Option (List UInt8)
 |[]=>some []
 |[.i .u8 n]::r=>match uU r with|some l=>some (UInt8.ofNat n.toNat::l)|none=>none
 |_::_=>none
def nQ(x:UInt8):List PV:=[.i .u8 x.toNat]
def BZ(esz:Nat):List (Nat×List PV)->List (List PV)->Option (List (List PV))|[],rows=>some rows|(i,c)::r,rows=>if c.length=esz/\i<rows.length then BZ esz r (rows.set i c)else none
def rD:List (Nat×Nat×List AV)->List AV->Option (List AV)
 |[],cs=>some cs
 |(off,size,c)::r,cs=>
  if c.length=size then
   match spl cs off c with
   |some cs'=>rD r cs'
   |none=>none
  else none
def ev:Opd->RM AV| .t n=>.slot n .ret| .c x=>.ret x
def evs:List Opd->RM (List AV)|[]=>.ret []|x::r=>(ev x).bind λv=>(evs r).bind λvs=>.ret (v::vs)
def val(x:Option AV):RM Eff:=
 match x with
 |some v=>.ret ⟨v,[]⟩
 |none=>.fail
def fzs:List Opd->RM (List (List PV)×List (Nat×Blk))|[]=>.ret ([],[])|x::r=>(ev x).bind λv=>(fz v).bind λa=>(fzs r).bind λc=>.ret (a.1::c.1,a.2++c.2)
def nS(x:Option AV)(top e:Nat):Option Nat:=
 match x with
 |none=>some e
 |some (.p (.i _ n))=>if 0<=n/\n<=top then some n.toNat else none
 |some _=>none
def evo:Option Opd->RM (Option AV)|none=>.ret none|some x=>(ev x).bind λv=>.ret (some v)
def oT(n:Nat)(lo hi:Option AV):Option (Nat×Nat):=
 match nS hi n n with
 |none=>none
 |some h=>match nS lo h 0 with|none=>none|some l=>some (l,h)
def xV(x:AV)(lo hi:Option AV):Option AV:=
 match x with
 | .p (.s l)=>match oT l.length lo hi with|some c=>some (.p (.s ((l.drop c.1).take (c.2-c.1))))|none=>none
 |_=>none
def xR(esz:Nat)(x:AV)(lo hi:Option AV):Option AV:=
 match x with
 | .p (.sl e rows)=>if esz=e then
   match oT rows.length lo hi with
   |some c=>some (.p (.sl esz ((rows.drop c.1).take (c.2-c.1))))
   |none=>none
  else none
 |_=>none
def SS(esz:Nat)(x:AV)(lo hi:Option AV)(m:AV):Option AV:=
 match x,lo,hi,m with
 | .p (.sl e rows),none,some (.p (.i _ h)),.p (.i _ n)=>if esz=e/\h=rows.length/\n=rows.length then some (.p (.slc esz rows))else none
 |_,_,_,_=>none
def lJ(k:SK)(x:AV)(lo hi mx:Option AV):Option AV:=
 match mx with
 |some m=>match k with| .str=>none| .sl esz=>SS esz x lo hi m
 |none=>match k with| .str=>xV x lo hi| .sl esz=>xR esz x lo hi
def RU(rows:List (List PV))(n:Int):Option (List PV):=if 0<=n then rows[n.toNat]? else none
def nK(esz:Nat)(x i:AV):RM Eff:=
 match x,i with
 | .p (.sl e rows),.p (.i _ n)=>
  if esz=e then
   match RU rows n with
   |some row=>.ret ⟨.cp row 0,[]⟩
   |none=>.fail
  else .fail
 | .slr b j m,.p (.i _ n)=>.blk b fun
  | .arr _ e rows=>if esz=e/\j+m=rows.length/\0<=n/\n<m then .ret ⟨.ep b rows.length (j+n.toNat) 0,[]⟩else .fail
  |_=>.fail
 |_,_=>.fail
def ML(len esz:Nat)(x i:AV):Option AV:=
 match i with
 | .p (.i _ n)=>
  if 0<=n/\n<len then
   match x with
   | .ptr b off=>some (.ptr b (off+n.toNat*esz))
   | .cp cs off=>some (.cp cs (off+n.toNat*esz))
   | .ep b e j off=>some (.ep b e j (off+n.toNat*esz))
   |_=>none
  else none
 |_=>none
def MC(off:Nat):AV->Option AV| .ptr b o=>some (.ptr b (o+off))| .cp cs o=>some (.cp cs (o+off))| .ep b e j o=>some (.ep b e j (o+off))|_=>none
def gZ(agg:Bool)(size:Nat):AV->RM Eff
 | .cp cs off=>match sub cs off size with|some l=>val (pM agg l)|none=>.fail
 | .ptr b off=>.blk b fun
  | .box cs=>match sub cs off size with|some l=>val (lO agg l)|none=>.fail
  |_=>.fail
 | .ep b ext i off=>.blk b fun
  | .arr _ _ rows=>if ext=rows.length then
    match rows[i]? with
    |some row=>match sub row off size with|some l=>val (pM agg l)|none=>.fail
    |none=>.fail
   else .fail
  |_=>.fail
 |_=>.fail
def hH:AV:=.tup []
def iV(size:Nat)(x v:AV):RM Eff:=
 match x with
 | .ptr b off=>.blk b fun
  | .box cs=>match cellsOf v with
   |some l=>if l.length=size then
    match spl cs off l with
    |some cs'=>.ret ⟨hH,[(b,.box cs')]⟩
    |none=>.fail
    else .fail
   |none=>.fail
  |_=>.fail
 | .ep b ext i off=>.blk b fun
  | .arr true esz rows=>if ext=rows.length then
    match rows[i]? with
    |some row=>(fz v).bind λa=>
     if a.1.length=size/\(a.2.all λy=>y.1 !=b)then
      match spl row off a.1 with
      |some e=>.ret ⟨hH,a.2++[(b,.arr true esz (rows.set i e))]⟩
      |none=>.fail
     else .fail
    |none=>.fail
   else .fail
  |_=>.fail
 |_=>.fail
def sJ(agg:Bool)(off size:Nat):AV->Option AV
 | .data cs=>match sub cs off size with|some l=>pM agg l|none=>none
 | .agg cs=>match sub cs off size with|some l=>lO agg l|none=>none
 |_=>none
def SW(i:Nat):AV->Option AV| .tup vs=>vs[i]?|_=>none
def KU:Bool->AV->Option AV|true,.p (.s l)=>some (.p (.i .i64 l.length))|false,.p (.sl _ rows)=>some (.p (.i .i64 rows.length))|false,.slr _ _ n=>some (.p (.i .i64 n))|_,_=>none
def gB(esz:Nat):AV->RM (List (List PV))
 | .p (.sl e rows)=>if esz=e then .ret rows else .fail
 | .p (.s l)=>if esz=1 then .ret (l.map nQ)else .fail
 | .slr b i n=>.blk b fun
  | .arr _ e rows=>if esz=e/\i+n=rows.length then .ret (rows.drop i)else .fail
  |_=>.fail
 |_=>.fail
def qN(n bytes:Nat):Bool:=(2*n+512)*bytes<=281474976710656
def jV(esz bytes:Nat)(x y:AV):RM Eff:=
 match x with
 | .slr b i n=>.blk b fun
  | .arr w e rows=>(gB esz y).bind λnew=>
   if esz=e/\i=0/\n=rows.length/\qN (n+new.length) bytes then
    .ret ⟨.slr b 0 (n+new.length),[(b,.arr w esz (rows++new))]⟩
   else .fail
  |_=>.fail
 |_=>.fail
def tY(esz:Nat):AV->AV->RM Eff
 | .slr b i n,.p (.i _ k)=>.blk b fun
  | .arr _ e rows=>if esz=e/\i+n=rows.length/\0<=k/\k.toNat<n then .ret ⟨.slr b (i+k.toNat) (n-k.toNat),[]⟩else .fail
  |_=>.fail
 |_,_=>.fail
def KT(esz:Nat)(zero:List PV)(new:Nat):AV->AV->RM Eff
 | .slr b i n,.p (.i _ k)=>.blk b fun
  | .arr true e rows=>if esz=e/\i=0/\n=rows.length/\0<=k/\k.toNat<=n then .ret ⟨.slr new 0 k.toNat,[(b,.arr false esz (rows++[zero])),(new,.arr true esz (rows.take k.toNat))]⟩else .fail
  |_=>.fail
 |_,_=>.fail
def OS(esz:Nat)(zero:List PV)(new:Nat):AV->RM Eff
 | .slr b i n=>.blk b fun
  | .arr true e rows=>if esz=e/\i=0/\n=rows.length then .ret ⟨.slr new 0 n,[(b,.arr false esz (rows++[zero])),(new,.arr true esz rows)]⟩else .fail
  |_=>.fail
 |_=>.fail
def PH(esz:Nat)(zero:List PV):AV->RM Eff
 | .slr b i n=>.blk b fun
  | .arr true e rows=>if esz=e/\i+n=rows.length then .ret ⟨.tup [],[(b,.arr true esz (rows.take i++List.replicate n zero))]⟩else .fail
  |_=>.fail
 |_=>.fail
def mmP(mx:Bool)(x y:AV):Option AV:=
 match x,y with
 | .p (.i k a),.p (.i _ c)=>some (.p (.i k (if mx then(if c>a then c else a)else(if c<a then c else a))))
 |_,_=>none
inductive Ent where
 |whole (b:Nat)
 |elem (b ext i:Nat)
 deriving DecidableEq
def Ent.id:Ent->Nat| .whole b=>b| .elem b _ _=>b
def xS(e:Ent)(l:List Ent):List Ent:=if l.any (λx=>x==e)then l else l++[e]
def cV:AV->List Ent->List Ent
 | .ptr b _,l=>xS (.whole b) l
 | .slr b _ _,l=>xS (.whole b) l
 | .ep b e i _,l=>xS (.elem b e i) l
 | .fn _ first caps,l=>entsOfL caps (entsOfL first l)
 | .agg cs,l=>entsOfL cs l
 | .tup cs,l=>entsOfL cs l
 |_,l=>l
where
 entsOfL:List AV->List Ent->List Ent
  |[],l=>l
  |x::r,l=>entsOfL r (cV x l)
def dS(e:Ent):List Ent->Nat->Option Nat|[],_=>none|x::r,k=>if x=e then some k else dS e r (k+1)
def ren(ρ:Ent->Option Nat):AV->Option AV
 | .p c=>some (.p c)
 | .data cs=>some (.data cs)
 | .cp cs o=>some (.cp cs o)
 | .unk=>some .unk
 | .ptr b off=>(ρ (.whole b)).map λk=>.ptr k off
 | .ep b e i off=>(ρ (.elem b e i)).map λk=>.ptr k off
 | .slr b i n=>(ρ (.whole b)).map λk=>.slr k i n
 | .fn f first caps=>(renL ρ first).bind λa=>(renL ρ caps).map λc=>.fn f a c
 | .agg cs=>(renL ρ cs).map .agg
 | .tup cs=>(renL ρ cs).map .tup
 | .pre _ _ _=>none
where
 renL (ρ:Ent->Option Nat):List AV->Option (List AV)
  |[]=>some []
  |x::r=>match ren ρ x,renL ρ r with
   |some y,some l=>some (y::l)
   |_,_=>none
def kI:List Nat->Bool|[]=>true|x::r=> !(r.contains x)&&kI r
def kF(b:Nat):List (Nat×Blk)->Option Blk|[]=>none|(c,x)::r=>match kF b r with|some y=>some y|none=>if c=b then some x else none
def rZ(ws:List (Nat×Blk))(b:Nat):RM Blk:=
 .blk b λx=>match kF b ws with|some y=>.ret y|none=>.ret x
def eM(ws:List (Nat×Blk)):List Ent->List Ent->RM (List Ent)
 |[],acc=>.ret acc
 | .whole b::r,acc=>(rZ ws b).bind fun
  | .box cs=>eM ws r (cV.entsOfL cs acc)
  |_=>eM ws r acc
 |_::r,acc=>eM ws r acc
def jT:AV->RM (AV×List (Nat×Blk))
 | .slr b i n=>(fz (.slr b i n)).bind λa=>match a.1 with|[c]=>.ret (.p c,a.2)|_=>.fail
 | .agg cs=>(fz (.agg cs)).bind λa=>.ret (.data a.1,a.2)
 | .tup _=>.fail
 |v=>.ret (v,[])
def lE:List AV->RM (List AV×List (Nat×Blk))|[]=>.ret ([],[])|x::r=>(jT x).bind λa=>(lE r).bind λc=>.ret (a.1::c.1,a.2++c.2)
def AR(ws:List (Nat×Blk))(ρ:Ent->Option Nat):Ent->RM Blk
 | .whole b=>(rZ ws b).bind fun
  | .box cs=>match ren.renL ρ cs with|some l=>.ret (.box l)|none=>.fail
  | .arr w esz rows=>.ret (.arr w esz rows)
  | .dead=>.fail
 | .elem b ext i=>(rZ ws b).bind fun
  | .arr true _ rows=>if ext=rows.length then
    match rows[i]? with
    |some row=>.ret (.box (row.map .p))
    |none=>.fail
   else .fail
  |_=>.fail
def lL(ws:List (Nat×Blk))(ρ:Ent->Option Nat):List Ent->RM (List Blk)|[]=>.ret []|e::r=>(AR ws ρ e).bind λx=>(lL ws ρ r).bind λl=>.ret (x::l)
def bk(es:List Ent)(new:Nat):AV->Option AV
 | .p c=>some (.p c)
 | .data cs=>some (.data cs)
 | .cp cs o=>some (.cp cs o)
 | .unk=>some .unk
 | .ptr k off=>if k<es.length then
   match es[k]? with
   |some (.whole b)=>some (.ptr b off)
   |some (.elem b e i)=>some (.ep b e i off)
   |none=>none
  else some (.ptr (new+(k-es.length)) off)
 | .slr k i n=>if k<es.length then
   match es[k]? with
   |some (.whole b)=>some (.slr b i n)
   |_=>none
  else some (.slr (new+(k-es.length)) i n)
 | .ep k e i off=>if k<es.length then
   match es[k]? with
   |some (.whole b)=>some (.ep b e i off)
   |_=>none
  else some (.ep (new+(k-es.length)) e i off)
 | .fn f first caps=>match bkL es new first,bkL es new caps with|some a,some c=>some (.fn f a c)|_,_=>none
 | .agg cs=>match bkL es new cs with|some l=>some (.agg l)|none=>none
 | .tup cs=>match bkL es new cs with|some l=>some (.tup l)|none=>none
 | .pre _ _ _=>none
where
 bkL (es:List Ent) (new:Nat):List AV->Option (List AV)
  |[]=>some []
  |x::r=>match bk es new x,bkL es new r with
   |some y,some l=>some (y::l)
   |_,_=>none
def uS(ws:List (Nat×Blk))(es:List Ent)(new:Nat)(e:Ent)(x:Blk):RM (Nat×Blk):=
 match e,x with
 | .whole b,.box cs=>match bk.bkL es new cs with|some l=>.ret (b,.box l)|none=>.fail
 | .whole b,.arr w esz rows=>.ret (b,.arr w esz rows)
 | .elem b _ i,.box cs=>(rZ ws b).bind fun
  | .arr w esz rows=>match unp cs with|some row=>.ret (b,.arr w esz (rows.set i row))|none=>.fail
  |_=>.fail
 |_,_=>.fail
def jK(ws:List (Nat×Blk))(es:List Ent)(new:Nat):List Ent->List Blk->RM (List (Nat×Blk))|[],_=>.ret []|e::r,x::l=>(uS ws es new e x).bind λy=>(jK ws es new r l).bind λg=>.ret (y::g)|_::_,[]=>.fail
def iH(es:List Ent)(new:Nat):Nat->List Blk->Option (List (Nat×Blk))
 |_,[]=>some []
 |k,.box cs::l=>match bk.bkL es new cs,iH es new (k+1) l with|some c,some e=>some ((k,.box c)::e)|_,_=>none
 |k,.arr w esz rows::l=>match iH es new (k+1) l with|some e=>some ((k,.arr w esz rows)::e)|none=>none
 |_,.dead::_=>none
def iU(F:Orc)(f:FuncId)(args:List AV)(k new:Nat):RM Eff:=
 (lE args).bind λa=>
 (eM a.2 (cV.entsOfL a.1 []) (cV.entsOfL a.1 [])).bind λh=>
 (eM a.2 h h).bind λes=>
 if kI (es.map Ent.id)then
  match ren.renL (λe=>dS e es 0) a.1 with
  |none=>.fail
  |some g=>(lL a.2 (λe=>dS e es 0) es).bind λblks=>
   match F f g blks with
   |none=>.fail
   |some r=>if r.2.length=es.length+k then
    match bk es new r.1,iH es new new (r.2.drop es.length)with
    |some v,some fresh=>(jK a.2 es new es r.2).bind λj=>.ret ⟨v,a.2++j++fresh⟩
    |_,_=>.fail
    else .fail
 else .fail
def lI:List (Nat×Nat×Opd)->RM (List (Nat×Nat×List AV))|[]=>.ret []|(off,size,x)::r=>(ev x).bind λv=>match cellsOf v with|some cs=>(lI r).bind λl=>.ret ((off,size,cs)::l)|none=>.fail
def iE:List (Nat×Nat)->Nat->List (Nat×Blk)|[],_=>[]|(_,esz)::r,n=>(n,.arr true esz [])::iE r (n+1)
def nD:List (Nat×Nat)->Nat->List AV->List AV|[],_,cs=>cs|(off,_)::r,n,cs=>nD r (n+1) (cs.set off (.slr n 0 0))
def fO:List Bool->List AV->RM (List AV×List (Nat×Blk))|_,[]=>.ret ([],[])|[],x::r=>(jT x).bind λa=>(fO [] r).bind λc=>.ret (a.1::c.1,a.2++c.2)|true::m,x::r=>(fO m r).bind λc=>.ret (x::c.1,c.2)|false::m,x::r=>(jT x).bind λa=>(fO m r).bind λc=>.ret (a.1::c.1,a.2++c.2)
def gA(F:Orc)(f:FuncId)(a:List AV×List (Nat×Blk))(k new:Nat):RM Eff:=
 (eM a.2 (cV.entsOfL a.1 []) (cV.entsOfL a.1 [])).bind λh=>
 (eM a.2 h h).bind λes=>
 if kI (es.map Ent.id)then
  match ren.renL (λe=>dS e es 0) a.1 with
  |none=>.fail
  |some g=>(lL a.2 (λe=>dS e es 0) es).bind λblks=>
   match F f g blks with
   |none=>.fail
   |some r=>if es.length<=r.2.length/\r.2.length<=es.length+k then
    match bk es new r.1,iH es new new (r.2.drop es.length)with
    |some v,some fresh=>(jK a.2 es new es r.2).bind λj=>.ret ⟨v,a.2++j++fresh⟩
    |_,_=>.fail
    else .fail
 else .fail
def opR(F:Orc)(op:AOp)(new:Nat):RM Eff:=
 match op with
 | .mv x=>(ev x).bind λv=>.ret ⟨v,[]⟩
 | .mkarr esz _=>.ret ⟨.slr new 0 0,[(new,.arr true esz [])]⟩
 | .pick c a b=>(ev c).bind fun
  | .p (.b x)=>if x then(ev a).bind λv=>.ret ⟨v,[]⟩else(ev b).bind λv=>.ret ⟨v,[]⟩
  |_=>.fail
 | .newbox zero=>.ret ⟨.ptr new 0,[(new,.box (zero.map .p))]⟩
 | .box size x=>(ev x).bind λv=>match cellsOf v with|some cs=>if cs.length=size then .ret ⟨.ptr new 0,[(new,.box cs)]⟩else .fail|none=>.fail
 | .build zero parts=>(lI parts).bind λl=>match rD l (zero.map .p)with|some cs=>val (lO true cs)|none=>.fail
 | .lits own esz n zero parts=>(fzs (parts.map (·.2))).bind λa=>
  match BZ esz ((parts.map (·.1)).zip a.1) (List.replicate n zero)with
  |some rows=>if own then .ret ⟨.slr new 0 n,a.2++[(new,.arr true esz rows)]⟩else .ret ⟨.p (.sl esz rows),a.2⟩
  |none=>.fail
 | .load agg size x=>(ev x).bind λv=>gZ agg size v
 | .store size x y=>(ev x).bind λa=>(ev y).bind λv=>iV size a v
 | .nilchk x=>(ev x).bind fun
  | .ptr b o=>.ret ⟨.ptr b o,[]⟩
  | .cp cs o=>.ret ⟨.cp cs o,[]⟩
  | .ep b e i o=>.ret ⟨.ep b e i o,[]⟩
  | .fn f u c=>.ret ⟨.fn f u c,[]⟩
  |_=>.fail
 | .bin op t x y=>(ev x).bind λa=>(ev y).bind λc=>val (oW op t a c)
 | .un op x=>(ev x).bind λa=>val (unP op a)
 | .conv k x=>(ev x).bind λa=>match k,a with
  | .int k,.p (.i _ n)=>.ret ⟨.p (.i k (k.wrap n)),[]⟩
  | .same,.p (.s l)=>.ret ⟨.p (.s l),[]⟩
  | .toStr,a=>(gB 1 a).bind λrows=>match uU rows with|some l=>.ret ⟨.p (.s l),[]⟩|none=>.fail
  | .toBytes own,.p (.s l)=>if own then .ret ⟨.slr new 0 l.length,[(new,.arr true 1 (l.map nQ))]⟩else .ret ⟨.p (.sl 1 (l.map nQ)),[]⟩
  |_,_=>.fail
 | .mkslice own esz bytes zero l c=>(ev l).bind λa=>(ev c).bind λd=>match a,d with
  | .p (.i _ n),.p (.i _ m)=>
   if 0<=n/\n<=m/\bytes*m<=281474976710656/\m<=281474976710656 then
    if own then .ret ⟨.slr new 0 n.toNat,[(new,.arr true esz (List.replicate n.toNat zero))]⟩
    else .ret ⟨.p (.sl esz (List.replicate n.toNat zero)),[]⟩
   else .fail
  |_,_=>.fail
 | .slice k x lo hi mx=>(ev x).bind λa=>(evo lo).bind λlo=>(evo hi).bind λhi=>(evo mx).bind λmx=>
  match a with
  | .slr b i n=>(fz (.slr b i n)).bind λy=>match y.1 with
   |[c]=>match lJ k (.p c) lo hi mx with|some v=>.ret ⟨v,y.2⟩|none=>.fail
   |_=>.fail
  |a=>val (lJ k a lo hi mx)
 | .faddr off x=>(ev x).bind λa=>val (MC off a)
 | .field agg off size x=>(ev x).bind λa=>val (sJ agg off size a)
 | .iaddr esz x i=>(ev x).bind λa=>(ev i).bind λc=>nK esz a c
 | .aaddr len esz x i=>(ev x).bind λa=>(ev i).bind λc=>val (ML len esz a c)
 | .sidx x i=>(ev x).bind λa=>(ev i).bind λc=>match a,c with
  | .p (.s l),.p (.i _ n)=>if 0<=n then
    match l[n.toNat]? with
    |some u=>.ret ⟨.p (.i .u8 u.toNat),[]⟩
    |none=>.fail
   else .fail
  |_,_=>.fail
 | .aidx agg len esz x i=>(ev x).bind λa=>(ev i).bind λc=>match c with| .p (.i _ n)=>if 0<=n/\n<len then val (sJ agg (n.toNat*esz) esz a)else .fail|_=>.fail
 | .extr x i=>(ev x).bind λa=>val (SW i a)
 | .call f args k=>(evs args).bind λvs=>iU F f vs k new
 | .callv g args k=>(ev g).bind fun
  | .fn f first caps=>(evs args).bind λvs=>iU F f (first++vs++caps) k new
  |_=>.fail
 | .len str x=>(ev x).bind λa=>val (KU str a)
 | .appn esz bytes _ y=>(ev y).bind λc=>(gB esz c).bind λrows=>
  if qN rows.length bytes then .ret ⟨.slr new 0 rows.length,[(new,.arr true esz rows)]⟩else .fail
 | .app esz bytes _ x y=>(ev x).bind λa=>(ev y).bind λc=>jV esz bytes a c
 | .psuf esz x lo=>(ev x).bind λa=>(ev lo).bind λc=>tY esz a c
 | .shr esz zero x hi=>(ev x).bind λa=>(ev hi).bind λc=>KT esz zero new a c
 | .clr esz zero x=>(ev x).bind λa=>PH esz zero a
 | .mvn esz zero x=>(ev x).bind λa=>OS esz zero new a
 | .mm mx x y=>(ev x).bind λa=>(ev y).bind λc=>val (mmP mx a c)
 | .mkfn f first caps=>(evs first).bind λa=>(evs caps).bind λc=>.ret ⟨.fn f a c,[]⟩
 | .newboxo zero os=>.ret ⟨.ptr (new+os.length) 0,iE os new++[(new+os.length,.box (nD os new (zero.map .p)))]⟩
 | .buildo zero parts os=>(lI parts).bind λl=>match rD l (nD os new (zero.map .p))with
  |some cs=>match lO true cs with|some v=>.ret ⟨v,iE os new⟩|none=>.fail
  |none=>.fail
 | .storen esz x=>(ev x).bind λa=>(iV 1 a (.slr new 0 0)).bind λe=>.ret ⟨e.val,(new,.arr true esz [])::e.ws⟩
 | .callo f keep args k=>(evs args).bind λvs=>(fO keep vs).bind λa=>gA F f a k new
def nG:AOp->Nat| .newbox _| .box _ _| .mkarr _ _| .appn _ _ _ _| .shr _ _ _ _| .mvn _ _ _=>1| .lits own _ _ _ _=>if own then 1 else 0| .mkslice own _ _ _ _ _=>if own then 1 else 0| .conv (.toBytes own) _=>if own then 1 else 0| .call _ _ k| .callv _ _ k| .callo _ _ _ k=>k| .newboxo _ os=>os.length+1| .buildo _ _ os=>os.length| .storen _ _=>1|_=>0
def uJ(new:Nat):Nat->RM Unit
 |0=>.ret ()
 |k+1=>.blk new fun
  | .dead=>uJ (new+1) k
  |_=>.fail
def opD(F:Orc)(op:AOp)(new:Nat):RM Eff:=(uJ new (nG op)).bind λ_=>opR F op new
def cB(F:Orc)(i:bW)(new:Nat):RM Eff:=
 match i.g with
 |none=>opD F i.op new
 |some (g,e)=>.slot g fun
  | .p (.b x)=>if x=e then opD F i.op new else .ret ⟨hH,[]⟩
  | .tup []=>.ret ⟨hH,[]⟩
  |_=>.fail
def put(d:Option Nat)(e:Eff)(s:St):St:=
 match d with
 |some d=>⟨(d,e.val)::s.env,upd e.ws s.sto⟩
 |none=>⟨s.env,upd e.ws s.sto⟩
def gP(F:Orc):List bW->Nat->St->Option St|[],_,s=>some s|i::r,new,s=>match(cB F i new).run s with|some e=>gP F r (new+nG i.op) (put i.dst e s)|none=>none
def kM:List Loc->List Nat|[]=>[]| .blk b::r=>b::kM r|_::r=>kM r
abbrev Log:=List (List Nat×List Nat)
def kJ(F:Orc):List bW->Nat->St->Log->Option (St×Log)|[],_,s,l=>some (s,l)|i::r,new,s,l=>match(cB F i new).run s with|some e=>kJ F r (new+nG i.op) (put i.dst e s) (l++[(kM ((cB F i new).reads s),e.ws.map (·.1))])|none=>none
def gV(a b:List Nat):Bool:=a.all λx=> !(b.contains x)
def GM(l:Log):List (Nat×Nat)->Bool
 |[]=>true
 |(i,j)::r=>(match l[i]?,l[j]? with
  |some a,some b=>gV a.2 b.1&&gV a.2 b.2&&gV a.1 b.2
  |_,_=>false)&&GM l r
def news:List bW->Nat|[]=>0|i::r=>nG i.op+news r
def room(n:Nat)(sto:List Blk):List Blk:=if n=0 then sto else sto++List.replicate n .dead
def region(F:Orc)(pairs:List (Nat×Nat))(ins:List bW)(s:St):Option St:=
 match pairs with
 |[]=>gP F ins s.sto.length ⟨s.env,room (news ins) s.sto⟩
 |_::_=>match kJ F ins s.sto.length ⟨s.env,room (news ins) s.sto⟩ []with|some (s',l)=>if GM l pairs then some s' else none|none=>none
def restr:List Nat->List (Nat×AV)->List (Nat×AV)|[],_=>[]|k::r,env=>match lk k env with|some v=>(k,v)::restr r env|none=>restr r env
def eW(b:Nat):List Nat->Nat->Option Nat|[],_=>none|x::r,k=>if x=b then some k else eW b r (k+1)
def fin(m:Nat)(ids:List Nat)(sto:List Blk):AV->Option AV
 | .p c=>some (.p c)
 | .data cs=>some (.data cs)
 | .cp cs o=>some (.cp cs o)
 | .unk=>some .unk
 | .ptr b off=>if b<m then some (.ptr b off)else
  match eW b ids m with
  |some k=>some (.ptr k off)
  |none=>match sto[b]? with|some (.box cs)=>(unp cs).map λq=>.cp q off|_=>none
 | .slr b i n=>if b<m then some (.slr b i n)else
  match eW b ids m with
  |some k=>some (.slr k i n)
  |none=>match sto[b]? with|some (.arr _ esz rows)=>if i+n=rows.length then some (.p (.sl esz (rows.drop i)))else none|_=>none
 | .ep b e i off=>if b<m then some (.ep b e i off)else(eW b ids m).map λk=>.ep k e i off
 | .fn f first caps=>match finL m ids sto first,finL m ids sto caps with|some a,some c=>some (.fn f a c)|_,_=>none
 | .agg cs=>match finL m ids sto cs with
  |some l=>match unp l with|some q=>some (.data q)|none=>some (.agg l)
  |none=>none
 | .tup cs=>match finL m ids sto cs with|some l=>some (.tup l)|none=>none
 | .pre _ _ _=>none
where
 finL (m:Nat) (ids:List Nat) (sto:List Blk):List AV->Option (List AV)
  |[]=>some []
  |x::r=>match fin m ids sto x,finL m ids sto r with
   |some y,some l=>some (y::l)
   |_,_=>none
def gL(m:Nat)(ids:List Nat)(sto:List Blk):Blk->Option Blk
 | .dead=>some .dead
 | .box cs=>match fin.finL m ids sto cs with|some l=>some (.box l)|none=>none
 | .arr w esz rows=>some (.arr w esz rows)
def sC(m:Nat)(ids:List Nat)(sto:List Blk):List Blk->Option (List Blk)|[]=>some []|x::r=>match gL m ids sto x,sC m ids sto r with|some y,some l=>some (y::l)|_,_=>none
def wF(m:Nat)(sto:List Blk):List (Nat×AV)->Option (List (Nat×AV))|[]=>some []|(k,x)::r=>match fin m [] sto x,wF m sto r with|some y,some l=>some ((k,y)::l)|_,_=>none
def clean(n:Nat)(live:List Nat)(s:St):Option St:=
 if s.sto.length=n then some ⟨restr live s.env,s.sto⟩
 else match wF n s.sto (restr live s.env),sC n [] s.sto (s.sto.take n)with|some e,some l=>some ⟨e,l⟩|_,_=>none
def oV:List wG->RM (List AV)|[]=>.ret []| .tmp t::r=>(RM.slot t .ret).bind λv=>(oV r).bind λl=>.ret (v::l)| .cell t agg size::r=>(RM.slot t .ret).bind λv=>(gZ agg size v).bind λe=>(oV r).bind λl=>.ret (e.val::l)
def kN(m:Nat)(fresh:Bool)(sto:List Blk):List Ent->List Nat
 |[]=>[]
 | .whole b::r=>if b<m then kN m fresh sto r else
  match sto[b]? with
  |some (.box _)=>b::kN m fresh sto r
  |some (.arr _ _ _)=>if fresh then b::kN m fresh sto r else kN m fresh sto r
  |_=>kN m fresh sto r
 |_::r=>kN m fresh sto r
def sD(sto:List Blk):List Ent->List Ent->List Ent
 |[],acc=>acc
 | .whole b::r,acc=>match sto[b]? with|some (.box cs)=>sD sto r (cV.entsOfL cs acc)|_=>sD sto r acc
 |_::r,acc=>sD sto r acc
def xN(sto:List Blk):List Nat->Option (List Blk)|[]=>some []|b::r=>match sto[b]?,xN sto r with|some x,some l=>some (x::l)|_,_=>none
def one:List AV->AV|[x]=>x|l=>.tup l
def iF(fn:AFn)(m:Nat)(s:St):Option Res:=
 match(oV fn.res).run s with
 |none=>none
 |some vs=>
  if s.sto.length=m then some (one vs,s.sto)
  else
   match kN m fn.fresh s.sto (sD s.sto (cV.entsOfL vs []) (cV.entsOfL vs []))with
   |ids=>if kI ids then
    match fin.finL m ids s.sto vs,sC m ids s.sto (s.sto.take m),xN s.sto ids with
    |some ws,some l,some q=>match sC m ids s.sto q with|some q'=>some (one ws,l++q')|none=>none
    |_,_,_=>none
    else none
def jX:Nat->List AV->List (Nat×AV)|_,[]=>[]|k,x::r=>(k,x)::jX (k+1) r
structure kR where
 np:Nat
 nt:Nat
 p0:cG
 live:List Nat
 pre:cG
 c:Opd
 a:cG
 b:cG
 rest:cG
 res:List wG
 fresh:Bool
def kR.af(k:kR):AFn:=⟨k.np,k.nt,.seq k.p0 (.br k.live k.pre k.c k.a k.b k.rest),k.res,k.fresh⟩
def uC(f:AFn)(m:Nat)(o:Option Out):Option Res:=
 match o with
 |some (.normal,s)=>iF f m s
 |some (.ret,s)=>iF f m s
 |_=>none
open Classical in
noncomputable def LZ(a b:Option Res):Option Res:=
 match a,b with
 |some r,some r'=>if r=r' then some r else none
 |_,_=>none
def thn(o:Option Out)(k:St->Option Out):Option Out:=
 match o with
 |some (.normal,s)=>k s
 |o=>o
noncomputable def uM(R:cG->St->Option Out)(k:kR)(args:List AV)(blks:List Blk):Option Res:=
 match R k.p0 ⟨jX 0 args,blks⟩with
 |some (.normal,s0)=>match R k.pre s0 with
  |some (.normal,s1)=>match(ev k.c).run s1 with|some (.p (.b x))=>if x=true then uC k.af blks.length (thn (R k.a s1) λs=>R k.rest s)else uC k.af blks.length (thn (R k.b s1) λs=>R k.rest s)|some .unk=>LZ (uC k.af blks.length (thn (R k.a s1) λs=>R k.rest s)) (uC k.af blks.length (thn (R k.b s1) λs=>R k.rest s))|_=>none
  |_=>none
 |_=>none
inductive sn where|fn (f:AFn)|prim (g:List AV->List Blk->Option Res)|fork (k:kR)
abbrev dY:=FuncId->Option sn
noncomputable def qW(T:dY)(R:cG->St->Option Out)(f:FuncId)(args:List AV)(blks:List Blk):Option Res:=
 match T f with
 |none=>none
 |some (.prim g)=>g args blks
 |some (.fork k)=>if args.length=k.np then uM R k args blks else none
 |some (.fn fn)=>
  if args.length=fn.np then
   match R fn.body ⟨jX 0 args,blks⟩with
   |some (.normal,s)=>iF fn blks.length s
   |some (.ret,s)=>iF fn blks.length s
   |_=>none
  else none
open Classical in
noncomputable def same(a b:Option Out):Option Out:=
 match a,b with
 |some r,some r'=>if r=r' then some r else none
 |_,_=>none
def nJ(n:Nat)(live:List Nat)(o:Option Out):Option Out:=
 match o with
 |some (e,s)=>match clean n live s with|some s'=>some (e,s')|none=>none
 |none=>none
noncomputable def step(T:dY)(R:cG->St->Option Out)(c:cG)(s:St):Option Out:=
 match c with
 | .skip=>some (.normal,s)
 | .bad=>none
 | .reg _ pairs ins=>match region (qW T R) pairs ins s with|some s'=>some (.normal,s')|none=>none
 | .seq a b=>match R a s with|some (.normal,s')=>R b s'|o=>o
 | .cond c a b=>match(ev c).run s with|some (.p (.b x))=>if x=true then R a s else R b s|some .unk=>same (R a s) (R b s)|_=>none
 | .block id c=>match R c s with|some (.exit k,s')=>if k=id then some (.normal,s')else some (.exit k,s')|o=>o
 | .loop live c=>match clean s.sto.length live s with|some s'=>R (.lp s.sto.length live c) s'|none=>none
 | .lp n live c=>match R c s with
  |some (.normal,s')=>(match clean n live s' with
   |some e=>R (.lp n live c) e
   |none=>none)
  |o=>o
 | .scope c=>R c s
 | .exit id=>some (.exit id,s)
 | .ret=>some (.ret,s)
 | .keep live c=>R c ⟨restr live s.env,s.sto⟩
 | .tidy live c=>nJ s.sto.length live (R c s)
 | .br live pre c a b rest=>match R pre s with
  |some (.normal,s1)=>(match(ev c).run s1 with
   |some (.p (.b x))=>if x=true then thn (R a s1) λs=>R rest s else thn (R b s1) λs=>R rest s
   |some .unk=>same (nJ s1.sto.length live (thn (R a s1) λs=>R rest s)) (nJ s1.sto.length live (thn (R b s1) λs=>R rest s))
   |_=>none)
  |_=>none
end Go.Am
end
section
namespace Go.Am
def fN{α:Type}(a b:Option α):Prop:=a=none\/a=b
theorem dA{α:Type}(a:Option α):fN a a:=.inr rfl
theorem run_bind{α β:Type}(m:RM α)(f:α->RM β)(s:St):(m.bind f).run s=(m.run s).bind λa=>(f a).run s:=by
 induction m with
 |ret a=>rfl
 |slot n k ih=>grind [RM.bind,RM.run]
 |blk b k ih=>grind [RM.bind,RM.run]
 |fail=>rfl
theorem nV{α β:Type}{m:RM α}{f e:α->RM β}{s:St}(h: ∀a,fN ((f a).run s) ((e a).run s)):fN ((m.bind f).run s) ((m.bind e).run s):=by
 rw[run_bind,run_bind];cases m.run s with
 |none=>exact .inl rfl
 |some a=>exact h a
variable {F F':Orc} (h: ∀f a b,fN (F f a b) (F' f a b))
include h in
theorem An(f:FuncId)(args:List AV)(k new:Nat)(s:St):fN ((iU F f args k new).run s) ((iU F' f args k new).run s):=by
 unfold iU;refine nV λa=>nV λg=>nV λes=>?_;split;split;simp[dA];refine nV λblks=>?_;rcases h f ‹_› blks with e|e;rw[e];exact .inl rfl;grind [dA];simp[dA]
include h in
theorem JAR(f:FuncId)(a:List AV×List (Nat×Blk))(k new:Nat)(s:St):fN ((gA F f a k new).run s) ((gA F' f a k new).run s):=by
 unfold gA;refine nV λg=>nV λes=>?_;split;split;simp[dA];refine nV λblks=>?_;rcases h f ‹_› blks with e|e;rw[e];exact .inl rfl;grind [dA];simp[dA]
include h in
theorem JIK(op:AOp)(new:Nat)(s:St):fN ((opR F op new).run s) ((opR F' op new).run s):=by
 cases op<;>try exact dA _
 case call f args k=>exact nV λvs=>An h ..
 case callo f keep args k=>exact nV λvs=>nV λa=>JAR h ..
 case callv g args k=>
  refine nV λg=>?_;grind [dA,nV,An]
include h in
theorem JIN(op:AOp)(new:Nat)(s:St):fN ((opD F op new).run s) ((opD F' op new).run s):=
 nV λ_=>JIK h ..
include h in
theorem Ae(i:bW)(new:Nat)(s:St):fN ((cB F i new).run s) ((cB F' i new).run s):=by
 unfold cB;split
 all_goals grind [JIN,RM.run,dA]
theorem yP{α β:Type}(m:RM α)(f:α->RM β)(s:St):(m.bind f).reads s=m.reads s++((m.run s).map λa=>(f a).reads s).getD []:=by
 induction m with
 |ret a=>simp[RM.bind,RM.reads,RM.run]
 |slot n k ih=>grind [RM.bind,RM.reads,RM.run]
 |blk b k ih=>grind [RM.bind,RM.reads,RM.run]
 |fail=>simp[RM.bind,RM.reads,RM.run]
theorem nZ{α β:Type}{m:RM α}{f e:α->RM β}{s:St}(h: ∀a,(f a).run s=none\/(f a).reads s=(e a).reads s):
  ((m.bind f).run s)=none\/(m.bind f).reads s=(m.bind e).reads s:=by
 rw[run_bind,yP,yP];cases m.run s<;>simp_all
include h in
theorem Ax(f:FuncId)(args:List AV)(k new:Nat)(s:St):
  (iU F f args k new).run s=none\/(iU F f args k new).reads s=(iU F' f args k new).reads s:=by
 unfold iU;refine nZ λa=>nZ λg=>nZ λes=>?_;split;split;exact .inr rfl;refine nZ λblks=>?_;rcases h f ‹_› blks with e|e;rw[e];exact .inl rfl;simp_all;simp_all
include h in
theorem JBc(f:FuncId)(a:List AV×List (Nat×Blk))(k new:Nat)(s:St):
  (gA F f a k new).run s=none\/(gA F f a k new).reads s=(gA F' f a k new).reads s:=by
 unfold gA;refine nZ λg=>nZ λes=>?_;split;split;exact .inr rfl;refine nZ λblks=>?_;rcases h f ‹_› blks with e|e;rw[e];exact .inl rfl;simp_all;simp_all
include h in
theorem JK9(op:AOp)(new:Nat)(s:St):(opR F op new).run s=none\/(opR F op new).reads s=(opR F' op new).reads s:=by
 cases op<;>try exact .inr rfl
 case call f args k=>exact nZ λvs=>Ax h ..
 case callo f keep args k=>exact nZ λvs=>nZ λa=>JBc h ..
 case callv g args k=>
  refine nZ λg=>?_;grind [nZ,Ax]
include h in
theorem JJr(op:AOp)(new:Nat)(s:St):(opD F op new).run s=none\/(opD F op new).reads s=(opD F' op new).reads s:=
 nZ λ_=>JK9 h ..
include h in
theorem JHJ(i:bW)(new:Nat)(s:St):(cB F i new).run s=none\/(cB F i new).reads s=(cB F' i new).reads s:=by
 unfold cB;split
 all_goals grind [JJr,RM.run,RM.reads]
include h in
theorem JBT(ins:List bW): ∀new s,fN (gP F ins new s) (gP F' ins new s):=by
 induction ins with
 |nil=>exact λ_ _=>dA _
 |cons i r ih=>
  intro new s;simp only[gP];rcases Ae h i new s with e|e;rw[e];exact .inl rfl;grind [dA]
include h in
theorem JBS(ins:List bW): ∀new s l,fN (kJ F ins new s l) (kJ F' ins new s l):=by
 induction ins with
 |nil=>exact λ_ _ _=>dA _
 |cons i r ih=>
  intro new s l;simp only[kJ];rcases Ae h i new s with e|e;rw[e];exact .inl rfl;grind [JHJ,dA]
include h in
theorem Rg(pairs:List (Nat×Nat))(ins:List bW)(s:St):fN (region F pairs ins s) (region F' pairs ins s):=by
 unfold region;split;grind [JBT];rcases JBS h ins s.sto.length ⟨s.env,Go.Am.room (news ins) s.sto⟩ []with e|e;rw[e];exact .inl rfl;grind [dA]
variable {T:dY} {R R':cG->St->Option Out} (hR: ∀c s,fN (R c s) (R' c s))
include hR in
theorem JEw(k:kR)(args:List AV)(blks:List Blk):fN (uM R k args blks) (uM R' k args blks):=by
 have ht: ∀x s,fN (uC k.af blks.length (thn (R x s) λs=>R k.rest s)) (uC k.af blks.length (thn (R' x s) λs=>R' k.rest s)):=by
  intro x s;rcases hR x s with e|e;rw[e];exact .inl rfl;rw[e];cases hx:R' x s with
  |none=>exact .inl rfl
  |some o=>
   obtain⟨q,s'⟩:=o;cases q with
   |normal=>
    simp only[thn];rcases hR k.rest s' with e'|e';rw[e'];exact .inl rfl;grind [dA]
   |_=>exact dA _
 unfold uM;rcases hR k.p0 ⟨jX 0 args,blks⟩with e|e;rw[e];exact .inl rfl;rw[e];split;rename_i s0 _;rcases hR k.pre s0 with e|e;rw[e];exact .inl rfl;rw[e];split;split;grind;rename_i s1 _ _ _;rcases ht k.a s1 with e|e;rw[e];exact .inl rfl;rcases ht k.b s1 with e'|e';rw[e'];unfold LZ;exact .inl (by simp_all);grind [dA];simp[dA];simp[dA];simp[dA]
include hR in
theorem JDL(f:FuncId)(a:List AV)(b:List Blk):fN (qW T R f a b) (qW T R' f a b):=by
 unfold qW;split;simp[dA];simp[dA];grind [JEw,dA];split;rcases hR ‹AFn›.body ⟨jX 0 a,b⟩with e|e;rw[e];exact .inl rfl;grind [dA];simp[dA]
include hR in
theorem mr(c:cG)(s:St):fN (step T R c s) (step T R' c s):=by
 cases c with
 |bad=>exact .inl rfl
 |skip=>exact dA _
 |reg d pairs ins=>
  simp only[step];rcases Rg (JDL (T:=T) hR) pairs ins s with e|e;rw[e];exact .inl rfl;grind [dA]
 |seq a b=>
  simp only[step];rcases hR a s with e|e;rw[e];exact .inl rfl;grind
 |cond c a b=>
  simp only[step];split;grind;rcases hR a s with e|e;rw[e];exact .inl rfl;rcases hR b s with e'|e';rw[e'];unfold same;exact .inl (by simp_all);grind [dA];simp[dA]
 |block id c=>
  simp only[step];rcases hR c s with e|e;rw[e];exact .inl rfl;grind [dA]
 |loop live c=>
  grind [step,dA]
 |lp n live c=>
  simp only[step];rcases hR c s with e|e;rw[e];exact .inl rfl;grind [dA]
 |scope c=>exact hR _ _
 |exit id=>exact dA _
 |ret=>exact dA _
 |keep live c=>exact hR _ _
 |tidy live c=>
  simp only[step];rcases hR c s with e|e;rw[e];exact .inl rfl;grind [dA]
 |br live pre c a b rest=>
  have ht: ∀x s,fN (thn (R x s) λs=>R rest s) (thn (R' x s) λs=>R' rest s):=(by intro x s;rcases hR x s with e|e;rw[e];exact .inl rfl;rw[e];unfold thn;grind);simp only[step];rcases hR pre s with e|e;rw[e];exact .inl rfl;rw[e];split;split;grind;rename_i s1 _ _ _;rcases ht a s1 with e|e;rw[e];exact .inl rfl;rcases ht b s1 with e'|e';rw[e'];unfold same;exact .inl (by simp[nJ]);grind [dA];simp[dA];simp[dA]
def I4(T:dY)(M:cG->St->Out->Prop):Prop:= ∀R:cG->St->Option Out,(∀c s r,R c s=some r->M c s r)-> ∀c s r,step T R c s=some r->M c s r
def Den(T:dY)(c:cG)(s:St)(r:Out):Prop:= ∀M,I4 T M->M c s r
theorem jm(T:dY):I4 T (Den T):=λR hR c s r h M e=>e R (λc s r h=>hR c s r h M e) c s r h
theorem Mx{T:dY}{c:cG}{s:St}{r:Out}(h:Den T c s r): ∃R:cG->St->Option Out,(∀c s r,R c s=some r->Den T c s r)/\step T R c s=some r:=
 h (λc s r=> ∃R:cG->St->Option Out,(∀c s r,R c s=some r->Den T c s r)/\step T R c s=some r) λR hR c s r hs=>
  ⟨R,λc s r h=>let⟨R',h1,h2⟩:=hR c s r h;jm T R' h1 c s r h2,hs⟩
theorem JOc{T:dY}{c:cG}{s:St}{r:Out}(h:Den T c s r): ∀r',Den T c s r'->r'=r:=by
 have j:Den T c s r/\ ∀r',Den T c s r'->r'=r:=h (λc s r=>Den T c s r/\ ∀r',Den T c s r'->r'=r) λR hR c s r hs=>by
  refine⟨jm T R (λc s r h=>(hR c s r h).1) c s r hs,λr' k=>?_⟩;obtain⟨R',n,hs'⟩:=Mx k;have b1: ∀c s,fN (R c s) ((R c s).or (R' c s)):=λc s=>by cases hc:R c s<;>simp[fN]
  have b2: ∀c s,fN (R' c s) ((R c s).or (R' c s)):=λc s=>by
   cases hc:R c s with
   |none=>simp[fN]
   |some a=>cases hc':R' c s<;>grind [fN]
  have e:=mr (T:=T) b1 c s;have g:=mr (T:=T) b2 c s;rw[hs]at e;rw[hs']at g;rcases e with e|e;cases e
  ·rcases g with g|g
   all_goals grind
 exact j.2
open Classical in
noncomputable def X(T:dY)(c:cG)(s:St):Option Out:=if h: ∃r,Den T c s r then some h.choose else none
theorem MM{T:dY}{c:cG}{s:St}{r:Out}:X T c s=some r↔Den T c s r:=by
 unfold X;constructor
 ·intro h;split at h
  all_goals grind
 intro h;rw[dif_pos ⟨r,h⟩];grind [JOc]
theorem JT6(T:dY)(motive:cG->St->Out->Prop)
  (h: ∀R:cG->St->Option Out,(∀c s r,R c s=some r->motive c s r)-> ∀c s r,step T R c s=some r->motive c s r): ∀c s r,X T c s=some r->motive c s r:=
 λc s r e=>MM.1 e motive h
theorem nE(T:dY)(c:cG)(s:St):X T c s=step T (X T) c s:=by
 have one: ∀r,step T (X T) c s=some r->X T c s=some r:=λr h=>MM.2 (jm T (X T) (λc s r h=>MM.1 h) c s r h);cases hs:step T (X T) c s with
 |some r=>exact one r hs
 |none=>
  cases hx:X T c s with
  |none=>rfl
  |some r=>
   obtain⟨R,hR,h⟩:=Mx (MM.1 hx);have:=mr (T:=T) (R:=R) (R':=X T) (λc s=>by
    cases hc:R c s with
    |none=>exact .inl rfl
    |some a=>right;grind [MM]) c s
   rw[h,hs]at this;rcases this with e|e<;>cases e
noncomputable def AF(T:dY):Orc:=qW T (X T)
end Go.Am
end
section
namespace Go.Am
structure Gh where
 μ:Nat->Option (Nat×Nat)
 C:Nat->Nat->Prop
def cellAt(w:World)(r o:Nat):Option Value:=
 match w.heap[r]? with
 |some (.cells c _ _)=>c[o]?
 |_=>none
theorem uV(w:World)(r o:Nat):w.cell? ⟨r,o,none⟩=cellAt w r o:=by
 grind [World.cell?,cellAt]
theorem lP{w:World}{r o:Nat}{c e fz}(h:w.heap[r]?=some (.cells c e fz)):cellAt w r o=c[o]?:=by
 grind [cellAt]
inductive J0b(w:World)(C:Nat->Nat->Prop):PV->Value->Prop where
 |b (x:Bool):J0b w C (.b x) (.bool x)
 |i (k:IntKind) (n:Int):J0b w C (.i k n) (.int k n)
 |s (l:List UInt8):J0b w C (.s l) (.string ⟨l.toArray⟩)
 |np:J0b w C .np (.pointer none)
 |nf:J0b w C .nf .nilFunc
 |sl0 (esz:Nat) (a:Option Addr) (cap:Nat):J0b w C (.sl esz []) (.slice a 0 cap)
 |sl (esz:Nat) (rows:List (List PV)) (r o cap:Nat) (vals:Nat->Nat->Value):
  rows.length<=cap->(∀row∈rows,row.length=esz)->
  (∀(i j:Nat) row x,rows[i]?=some row->row[j]?=some x->C r (o+i*esz+j)/\cellAt w r (o+i*esz+j)=some (vals i j))->
  (∀(i j:Nat) row x,rows[i]?=some row->row[j]?=some x->J0b w C x (vals i j))->
  J0b w C (.sl esz rows) (.slice (some ⟨r,o,none⟩) rows.length cap)
 |slc (esz:Nat) (rows:List (List PV)) (a:Option Addr):J0b w C (.sl esz rows) (.slice a rows.length rows.length)->J0b w C (.slc esz rows) (.slice a rows.length rows.length)
structure Sn where
 σ:List Blk
 g:Gh
 w:World
def SU(σ:List Blk)(b:Nat):Prop:= ∃cs,σ[b]?=some (.box cs)
def Is(s:Sn)(b esz i n:Nat)(v:Value):Prop:=(s.g.μ b=none/\i=0/\n=0/\v=.slice none 0 0)\/ ∃r cap c e fz,s.g.μ b=some (r,0)/\v=.slice (some ⟨r,i*esz,none⟩) n cap/\n<=cap/\s.w.heap[r]?=some (.cells c e fz)/\(i+cap)*esz<=c.size
inductive JH(s:Sn):AV->Value->Prop where
 |p (c v):J0b s.w s.g.C c v->JH s (.p c) v
 |data (cs:List PV) (vs:Array Value):cs.length=vs.size->(∀(i:Nat) x v,cs[i]?=some x->vs[i]?=some v->J0b s.w s.g.C x v)->JH s (.data cs) (.agg vs)
 |agg (cs:List AV) (vs:Array Value):cs.length=vs.size->(∀(i:Nat) v,vs[i]?=some v->v.oneCell'=true)->(∀(i:Nat) x v,cs[i]?=some x->vs[i]?=some v->JH s x v)->JH s (.agg cs) (.agg vs)
 |tup (cs:List AV) (vs:Array Value):cs.length=vs.size->(∀(i:Nat) x v,cs[i]?=some x->vs[i]?=some v->JH s x v)->JH s (.tup cs) (.tuple vs)
 |ptr (b off r o):s.g.μ b=some (r,o)->SU s.σ b->JH s (.ptr b off) (.pointer (some ⟨r,o+off,none⟩))
 |cp (cs:List PV) (off r o:Nat) (vals:Nat->Value):
  (∀(j:Nat) x,cs[j]?=some x->s.g.C r (o+j)/\cellAt s.w r (o+j)=some (vals j))->
  (∀(j:Nat) x,cs[j]?=some x->J0b s.w s.g.C x (vals j))->JH s (.cp cs off) (.pointer (some ⟨r,o+off,none⟩))
 |slr (b i n v wm esz rows):(∃a cap,v=.slice a n cap/\(n=0\/a≠none))->s.σ[b]?=some (.arr wm esz rows)->i+n<=rows.length->(i+n=rows.length->Is s b esz i n v)->JH s (.slr b i n) v
 |ep (b ext i off v wm esz rows):(∃r o,v=.pointer (some ⟨r,o,none⟩))->s.σ[b]?=some (.arr wm esz rows)->ext<=rows.length->
  (ext=rows.length->i<ext-> ∃r,s.g.μ b=some (r,0)/\v=.pointer (some ⟨r,i*esz+off,none⟩))->JH s (.ep b ext i off) v
 |pre (b n k v wm esz rows):(∃a cap,v=.slice a k cap)->s.σ[b]?=some (.arr wm esz rows)->n<=rows.length->k<=n->
  (n=rows.length->(n=0/\v=.slice none 0 0)\/ ∃r cap c e fz,s.g.μ b=some (r,0)/\v=.slice (some ⟨r,0,none⟩) k cap/\n<=cap/\s.w.heap[r]?=some (.cells c e fz)/\cap*esz<=c.size)->JH s (.pre b n k) v
 |fn (f:FuncId) (first caps:List AV) (fs cs:Array Value):first.length=fs.size->caps.length=cs.size->
  (∀(i:Nat) x v,first[i]?=some x->fs[i]?=some v->JH s x v)->(∀(i:Nat) x v,caps[i]?=some x->cs[i]?=some v->JH s x v)->
  JH s (.fn f first caps) (.func (.func f) fs cs)
 |unk (x:Bool):JH s .unk (.bool x)
def Wr1(s:Sn)(b r o:Nat):Prop:=
 match s.σ[b]? with
 |some (.box cs)=> ∃e,s.g.μ b=some (r,e)/\e<=o/\o<e+cs.length
 |some (.arr true _ _)=> ∃e,s.g.μ b=some (r,e)
 |some (.arr false esz rows)=> ∃e,s.g.μ b=some (r,e)/\rows.length*esz<=o
 |_=>False
def Wr(s:Sn)(r o:Nat):Prop:= ∃b,Wr1 s b r o
def EM(fz:Nat×Nat)(a b:Nat):Prop:= ∀o,a<=o->o<b-> ¬(fz.1<=o/\o<fz.2)
def AS(esz:Nat)(fz:Nat×Nat)(n:Nat):Prop:=EM fz 0 n/\(esz≠1-> ¬(fz.1<=n/\n<fz.2))
theorem AS.zero(esz n:Nat):AS esz (0,0) n:=⟨λ_ _ _ h=>by simp at h,λ_ h=>by simp at h⟩
def SC(s:Sn)(b:Nat)(cs:List AV):Prop:= ∃r o c e fz,s.g.μ b=some (r,o)/\s.w.heap[r]?=some (.cells c e fz)/\o+cs.length<=c.size/\(∀(i:Nat) x,cs[i]?=some x-> ∃v,c[o+i]?=some v/\JH s x v/\v.oneCell'=true)/\EM fz o (o+cs.length)
def RL(s:Sn)(b:Nat)(wm:Bool)(esz:Nat)(rows:List (List PV)):Prop:=(s.g.μ b=none/\(rows=[]\/wm=false))\/ ∃r c e fz,s.g.μ b=some (r,0)/\s.w.heap[r]?=some (.cells c e fz)/\(∀row∈rows,row.length=esz)/\rows.length*esz<=c.size/\(∀(i j:Nat) row x,rows[i]?=some row->row[j]?=some x->(∃v,c[i*esz+j]?=some v/\J0b s.w s.g.C x v)/\(wm=false->s.g.C r (i*esz+j)))/\AS esz fz c.size
structure Inv(s:Sn):Prop where
 box: ∀b cs,s.σ[b]?=some (.box cs)->SC s b cs
 arr: ∀b wm esz rows,s.σ[b]?=some (.arr wm esz rows)->RL s b wm esz rows
 apart: ∀b1 b2 r o,Wr1 s b1 r o->Wr1 s b2 r o->b1=b2
 const: ∀r o,s.g.C r o->r<s.w.heap.size/\ ∀b,¬Wr1 s b r o
def oS(W:Nat->Nat->Prop)(w0 w:World):Prop:=w0.heap.size<=w.heap.size/\(∀(r:Nat) c e fz,w0.heap[r]?=some (.cells c e fz)-> ∃c',w.heap[r]?=some (.cells c' e fz)/\c'.size=c.size/\ ∀o,¬W r o->c'[o]?=c[o]?)/\(∀(r:Nat) x,w0.heap[r]?=some x->(∀c e fz,x≠.cells c e fz)->w.heap[r]?=some x)/\w.os=w0.os/\w.output=w0.output
structure bD(s0 s:Sn):Prop where
 keep:oS (Wr s0) s0.w s.w
 cmono: ∀r o,s0.g.C r o->s.g.C r o
 cnew: ∀r o,s.g.C r o->s0.g.C r o\/Wr s0 r o\/s0.w.heap.size<=r
 wnew: ∀r o,Wr s r o->Wr s0 r o\/s0.w.heap.size<=r
 len:s0.σ.length<=s.σ.length
 box: ∀b cs,s0.σ[b]?=some (.box cs)->(∃cs',s.σ[b]?=some (.box cs')/\cs'.length=cs.length)/\s.g.μ b=s0.g.μ b
 arr: ∀b wm esz rows,s0.σ[b]?=some (.arr wm esz rows)-> ∃wm' rows',s.σ[b]?=some (.arr wm' esz rows')/\(wm'=true->wm=true)/\
  rows.length<=rows'.length/\(rows'.length=rows.length->s.g.μ b=s0.g.μ b)
theorem oS.refl(W w):oS W w w:=⟨zQ0 _,λ_ c _ _ h=>⟨c,h,rfl,λ_ _=>rfl⟩,λ_ _ h _=>h,rfl,rfl⟩
theorem oS.mono{W W':Nat->Nat->Prop}{w0 w}(h:oS W w0 w)(hw: ∀r o,W r o->W' r o):oS W' w0 w:=
 ⟨h.1,λr c e fz j=>let⟨c',a,b,d⟩:=h.2.1 r c e fz j;⟨c',a,b,λo g=>d o λx=>g (hw _ _ x)⟩,h.2.2⟩
theorem oS.cell{W w0 w}(h:oS W w0 w){r o v}(hn: ¬W r o)(hv:cellAt w0 r o=some v):cellAt w r o=some v:=by
 unfold cellAt at hv;split at hv;rename_i c e fz g;obtain⟨c',h1,_,j⟩:=h.2.1 r c e fz g;grind [lP];cases hv
theorem bD.refl(s:Sn):bD s s:=
 ⟨.refl _ _,λ_ _ h=>h,λ_ _ h=>.inl h,λ_ _ h=>.inl h,zQ0 _,λ_ cs h=>⟨⟨cs,h,rfl⟩,rfl⟩,
  λ_ wm _ rows h=>⟨wm,rows,h,id,zQ0 _,λ_=>rfl⟩⟩
theorem CI{w:World}{r:Nat}{x:Obj}(h:w.heap[r]?=some x):r<w.heap.size:=by
 grind
theorem bD.trans{s0 s1 C:Sn}(h:bD s0 s1)(g:bD s1 C):bD s0 C where
 keep:=by
  refine⟨zQ1 h.keep.1 g.keep.1,λr c e fz A=>?_,λr x A E=>g.keep.2.2.1 r x (h.keep.2.2.1 r x A E) E,g.keep.2.2.2.1.trans h.keep.2.2.2.1,g.keep.2.2.2.2.trans h.keep.2.2.2.2⟩;obtain⟨k,n,b1,z⟩:=h.keep.2.1 r c e fz A;obtain⟨q,w,b2,y⟩:=g.keep.2.1 r k e fz n;refine⟨q,w,b2.trans b1,λo H=>(y o λj=>?_).trans (z o H)⟩;rcases h.wnew r o j with j|j
  all_goals simp_all
 cmono r o hc:=g.cmono r o (h.cmono r o hc)
 cnew r o hc:=by
  rcases g.cnew r o hc with hc|j|v;exact h.cnew r o hc
  ·rcases h.wnew r o j with j|v
   all_goals simp_all
  exact .inr (.inr (zQ1 h.keep.1 v))
 wnew r o j:=by
  rcases g.wnew r o j with j|v;exact h.wnew r o j;exact .inr (zQ1 h.keep.1 v)
 len:=zQ1 h.len g.len
 box b cs hb:=by obtain⟨⟨k,n,I⟩,L⟩:=h.box b cs hb;obtain⟨⟨q,w,J⟩,K⟩:=g.box b k n;simp_all
 arr b wm esz rows hb:=by obtain⟨B,F,n,b1,k,z⟩:=h.arr b wm esz rows hb;obtain⟨D,G,w,b2,q,y⟩:=g.arr b B esz F n;exact⟨D,G,w,λe=>b1 (b2 e),zQ1 k q,λe=>(y (by omega)).trans (z (by omega))⟩
theorem Inv.cfix{s0 s:Sn}(hi:Inv s0)(t:bD s0 s){r o v}(hc:s0.g.C r o)(hv:cellAt s0.w r o=some v):cellAt s.w r o=some v:=
 t.keep.cell (fun⟨b,hb⟩=>(hi.const r o hc).2 b hb) hv
theorem J0b.mono{s0 s:Sn}(hi:Inv s0)(t:bD s0 s){x v}(h:J0b s0.w s0.g.C x v):J0b s.w s.g.C x v:=by
 induction h with
 |b x=>exact .b x
 |i k n=>exact .i k n
 |s l=>exact .s l
 |np=>exact .np
 |nf=>exact .nf
 |sl0 esz a cap=>exact .sl0 esz a cap
 |sl esz rows r o cap vals h1 h2 q _ ih=>exact .sl esz rows r o cap vals h1 h2 (λi j row x e y=>⟨t.cmono _ _ (q i j row x e y).1,hi.cfix t (q i j row x e y).1 (q i j row x e y).2⟩) ih
 |slc esz rows a _ ih=>exact .slc esz rows a ih
theorem SU.mono{s0 s:Sn}(t:bD s0 s){b}(h:SU s0.σ b):SU s.σ b:=by obtain⟨cs,h⟩:=h;obtain⟨⟨cs',e,_⟩,_⟩:=t.box b cs h;exact⟨cs',e⟩
theorem JH.mono{s0 s:Sn}(hi:Inv s0)(t:bD s0 s){x v}(h:JH s0 x v):JH s x v:=by
 induction h with
 |p c v h=>exact .p c v (h.mono hi t)
 |data cs vs h1 h2=>exact .data cs vs h1 λi x v w y=>(h2 i x v w y).mono hi t
 |agg cs vs h1 h2 _ ih=>exact .agg cs vs h1 h2 ih
 |tup cs vs h1 _ ih=>exact .tup cs vs h1 ih
 |ptr b off r o h1 h2=>obtain⟨cs,q⟩:=h2;exact .ptr b off r o ((t.box b cs q).2.trans h1) (.mono t ⟨cs,q⟩)
 |cp cs off r o vals h1 h2=>exact .cp cs off r o vals (λj x w=>⟨t.cmono _ _ (h1 j x w).1,hi.cfix t (h1 j x w).1 (h1 j x w).2⟩) λj x w=>(h2 j x w).mono hi t
 |slr b i n v wm esz rows z h1 h2 q=>
  obtain⟨wm',rows',a,_,c,d⟩:=t.arr b wm esz rows h1;refine .slr b i n v wm' esz rows' z a (zQ1 h2 c) λe=>?_;have B:rows'.length=rows.length:=by omega
  rcases q (by omega)with⟨m,H,K,y⟩|⟨r,cap,D,A,fz,m,y,g,E,hs⟩;exact .inl ⟨(d B).trans m,H,K,y⟩;obtain⟨c',C,I,_⟩:=t.keep.2.1 r D A fz E;exact .inr ⟨r,cap,c',A,fz,(d B).trans m,y,g,C,by omega⟩
 |ep b ext i off v wm esz rows z h1 h2 q=>
  obtain⟨wm',rows',a,_,c,d⟩:=t.arr b wm esz rows h1;refine .ep b ext i off v wm' esz rows' z a (zQ1 h2 c) λe L=>?_;grind
 |pre b n k v wm esz rows z h1 h2 J q=>
  obtain⟨wm',rows',a,_,c,d⟩:=t.arr b wm esz rows h1;refine .pre b n k v wm' esz rows' z a (zQ1 h2 c) J λe=>?_;have B:rows'.length=rows.length:=by omega
  rcases q (by omega)with h|⟨r,cap,D,A,fz,m,y,g,E,hs⟩;exact .inl h;obtain⟨c',C,I,_⟩:=t.keep.2.1 r D A fz E;exact .inr ⟨r,cap,c',A,fz,(d B).trans m,y,g,C,by omega⟩
 |fn f first caps fs cs h1 h2 _ _ F G=>exact .fn f first caps fs cs h1 h2 F G
 |unk x=>exact .unk x
theorem nM{s0 s:Sn}(hi:Inv s0)(t:bD s0 s)(D:Nat->Prop)
  (same: ∀b,¬D b->s.σ[b]?=s0.σ[b]?/\s.g.μ b=s0.g.μ b)
  (k: ∀b r o v,¬D b->Wr1 s0 b r o->cellAt s0.w r o=some v->cellAt s.w r o=some v)
  (O: ∀b cs,D b->s.σ[b]?=some (.box cs)->SC s b cs)
  (P: ∀b wm esz rows,D b->s.σ[b]?=some (.arr wm esz rows)->RL s b wm esz rows)
  (M: ∀b1 b2 r o,D b1->Wr1 s b1 r o->Wr1 s b2 r o->b1=b2)
  (n: ∀r o,s.g.C r o->r<s.w.heap.size)
  (H: ∀r o b,s.g.C r o->D b-> ¬Wr1 s b r o)
  (K: ∀r o b,s.g.C r o-> ¬s0.g.C r o-> ¬D b-> ¬Wr1 s0 b r o):Inv s:=by
 have wr: ∀b r o,¬D b->(Wr1 s b r o↔Wr1 s0 b r o):=(by intro b r o hd;obtain⟨h1,h2⟩:=same b hd;grind [Wr1]);have cells: ∀(r:Nat) c e fz,s0.w.heap[r]?=some (.cells c e fz)-> ∃c',s.w.heap[r]?=some (.cells c' e fz)/\c'.size=c.size/\ ∀o v,cellAt s.w r o=some v->c'[o]?=some v:=(by intro r c e fz h;obtain⟨c',h1,h2,_⟩:=t.keep.2.1 r c e fz h;grind [lP]);refine⟨?_,?_,?_,?_⟩;intro b cs hb;by_cases hd:D b;simp_all;obtain⟨h1,h2⟩:=same b hd;obtain⟨r,o,c,e,fz,m,A,hl,B,hf⟩:=hi.box b cs (h1▸hb);obtain⟨c',q,N,y⟩:=cells r c e fz A;refine⟨r,o,c',e,fz,h2.trans m,q,by omega,λi x E=>?_,hf⟩;obtain⟨v,R,h,G⟩:=B i x E;refine⟨v,y _ _ (k b r (o+i) v hd ?_ (by grind [lP])),h.mono hi t,G⟩;grind [Wr1];intro b wm esz rows hb;by_cases hd:D b;grind;obtain⟨h1,h2⟩:=same b hd;rcases hi.arr b wm esz rows (h1▸hb)with⟨m,h⟩|⟨r,c,e,fz,m,A,z,hl,B,hf⟩;exact .inl ⟨h2.trans m,h⟩;obtain⟨c',q,N,y⟩:=cells r c e fz A;refine .inr ⟨r,c',e,fz,h2.trans m,q,z,by omega,λi j row x I L=>?_,N▸hf⟩;obtain⟨⟨v,R,h⟩,hc⟩:=B i j row x I L;refine⟨⟨v,y _ _ ?_,h.mono hi t⟩,λe=>t.cmono _ _ (hc e)⟩;cases wm with
 |true=>
  refine k b r _ v hd ?_ (by grind [lP]);grind [Wr1]
 |false=>exact hi.cfix t (hc rfl) (by grind [lP])
 intro b1 b2 r o h1 h2;by_cases J:D b1;grind;by_cases F:D b2;grind;exact hi.apart b1 b2 r o ((wr b1 r o J).1 h1) ((wr b2 r o F).1 h2);intro r o hc;refine⟨n r o hc,λb hb=>?_⟩;by_cases hd:D b;simp_all;by_cases Q:s0.g.C r o;exact(hi.const r o Q).2 b ((wr b r o hd).1 hb);simp_all
end Go.Am
end
section
namespace Go.Am
theorem jP{σ:List Blk}{b:Nat}{x y:Blk}(h:σ[b]?=some x):(σ.set b y)[b]?=some y:=by
 grind
theorem sT{σ:List Blk}{b c:Nat}{y:Blk}(h:b≠c):(σ.set b y)[c]?=σ[c]?:=by simp[h]
theorem xz{s0:Sn}(hi:Inv s0){w':World}(hh:w'.heap=s0.w.heap)(ho:w'.os=s0.w.os)(hp:w'.output=s0.w.output):
  Inv ⟨s0.σ,s0.g,w'⟩/\bD s0 ⟨s0.σ,s0.g,w'⟩:=by
 have hc: ∀r o,cellAt w' r o=cellAt s0.w r o:=λr o=>by grind [cellAt]
 have t:bD s0 ⟨s0.σ,s0.g,w'⟩:=by
  refine⟨⟨by simp_all,λr c e fz h=>⟨c,by simp_all,rfl,λ_ _=>rfl⟩,λr x h _=>by simp_all,ho,hp⟩,λ_ _ h=>h,λ_ _ h=>.inl h,λr o ⟨b,hb⟩=>.inl ⟨b,hb⟩,zQ0 _,λ_ cs h=>⟨⟨cs,h,rfl⟩,rfl⟩,
   λ_ wm _ rows h=>⟨wm,rows,h,id,zQ0 _,λ_=>rfl⟩⟩
 exact⟨nM hi t (λ_=>False) (λ_ _=>⟨rfl,rfl⟩) (λ_ r o v _ _ h=>by simp_all) (λ_ _ h=>h.elim) (λ_ _ _ _ h=>h.elim)
  (λ_ _ _ _ h=>h.elim) (λr o h=>by show r<w'.heap.size;rw[hh];exact(hi.const r o h).1) (λ_ _ _ _ h=>h.elim) (λ_ _ _ h j=>(j h).elim),t⟩
theorem WE{W:Nat->Nat->Prop}{w w':World}{x:Obj}(hh:w'.heap=w.heap.push x)(ho:w'.os=w.os)(hp:w'.output=w.output):oS W w w':=by
 have g: ∀(r:Nat) y,w.heap[r]?=some y->w'.heap[r]?=some y:=(by grind);exact⟨by rw[hh];simp,λr c e fz h=>⟨c,g r _ h,rfl,λ_ _=>rfl⟩,λr y h _=>g r y h,ho,hp⟩
theorem WB{w w':World}{x:Obj}(hh:w'.heap=w.heap.push x):w'.heap[w.heap.size]?=some x:=by rw[hh];simp
theorem mh{w w':World}{x:Obj}(hh:w'.heap=w.heap.push x){r o v}(h:cellAt w r o=some v):cellAt w' r o=some v:=
 (WE (W:=λ_ _=>False) (w:=w) (w':={w' with os:=w.os,output:=w.output}) hh rfl rfl).cell (λh=>h) h
def fL(g:Gh)(new:Nat)(x:Option (Nat×Nat)):Gh:=⟨λb=>if b=new then x else g.μ b,g.C⟩
theorem yd{s0 s:Sn}{new:Nat}{blk:Blk}(hd:s0.σ[new]?=some .dead)(hs:s.σ=s0.σ.set new blk)(x:Option (Nat×Nat))(hg:s.g.μ=(fL s0.g new x).μ):
  s0.σ.length<=s.σ.length/\(∀b cs,s0.σ[b]?=some (.box cs)->(∃cs',s.σ[b]?=some (.box cs')/\cs'.length=cs.length)/\s.g.μ b=s0.g.μ b)/\
  (∀b wm esz rows,s0.σ[b]?=some (.arr wm esz rows)-> ∃wm' rows',s.σ[b]?=some (.arr wm' esz rows')/\(wm'=true->wm=true)/\
  rows.length<=rows'.length/\(rows'.length=rows.length->s.g.μ b=s0.g.μ b)):=by
 have k: ∀b y,s0.σ[b]?=some y->y≠.dead->s.σ[b]?=some y/\s.g.μ b=s0.g.μ b:=by
  intro b y hb j;have h:new≠b:=by grind
  rw[hs,sT h,hg];exact⟨hb,if_neg (λe=>h e.symm)⟩
 simp_all
def JSr(s0:Sn)(c:Array Value):Blk->Prop
 | .box cs=>cs.length<=c.size/\ ∀(i:Nat) x,cs[i]?=some x-> ∃v,c[i]?=some v/\JH s0 x v/\v.oneCell'=true
 | .arr true esz rows=>(∀row∈rows,row.length=esz)/\rows.length*esz<=c.size/\
  ∀(i j:Nat) row x,rows[i]?=some row->row[j]?=some x-> ∃v,c[i*esz+j]?=some v/\J0b s0.w s0.g.C x v
 |_=>False
theorem UR{s0:Sn}(hi:Inv s0){new:Nat}(hd:s0.σ[new]?=some .dead){blk:Blk}{c:Array Value}{e:TypeId}{fz:Nat×Nat}{w':World}
  (hh:w'.heap=s0.w.heap.push (.cells c e fz)) (ho:w'.os=s0.w.os) (hp:w'.output=s0.w.output) (hf:EM fz 0 c.size) (D: ∀wm esz rows,blk=.arr wm esz rows->esz≠1-> ¬(fz.1<=c.size/\c.size<fz.2)) (hb:JSr s0 c blk):
  Inv ⟨s0.σ.set new blk,fL s0.g new (some (s0.w.heap.size,0)),w'⟩/\bD s0 ⟨s0.σ.set new blk,fL s0.g new (some (s0.w.heap.size,0)),w'⟩:=by
 have q:(s0.σ.set new blk)[new]?=some blk:=jP hd;have wr: ∀b r o,b≠new->(Wr1 ⟨s0.σ.set new blk,fL s0.g new (some (s0.w.heap.size,0)),w'⟩ b r o↔Wr1 s0 b r o):=by simp_all [Wr1,fL,Ne.symm]
 have M: ∀r o,Wr1 ⟨s0.σ.set new blk,fL s0.g new (some (s0.w.heap.size,0)),w'⟩ new r o->r=s0.w.heap.size:=(by intro r o h;unfold Wr1 at h;simp only[q,fL]at h;grind);have N: ∀b r o,Wr1 s0 b r o->r<s0.w.heap.size:=by
  intro b r o h;unfold Wr1 at h;split at h;rename_i cs hb;obtain⟨r',O,c',e',A,m,k,_⟩:=hi.box b cs hb;grind
  ·rename_i hb;obtain⟨J,H⟩:=h;rcases hi.arr b _ _ _ hb with⟨m,_⟩|⟨r',c',e',A,m,k,_⟩
   all_goals grind
  ·rename_i hb;obtain⟨J,H,_⟩:=h;rcases hi.arr b _ _ _ hb with⟨m,_⟩|⟨r',c',e',A,m,k,_⟩
   all_goals grind
  exact h.elim
 have t:bD s0 ⟨s0.σ.set new blk,fL s0.g new (some (s0.w.heap.size,0)),w'⟩:=(by obtain⟨F,I,G⟩:=yd (s:=⟨s0.σ.set new blk,fL s0.g new (some (s0.w.heap.size,0)),w'⟩) hd rfl (some (s0.w.heap.size,0)) rfl;refine⟨WE hh ho hp,λ_ _ h=>h,λ_ _ h=>.inl h,?_,F,I,G⟩;rintro r o ⟨b,hb⟩;by_cases e:b=new;grind;exact .inl ⟨b,(wr b r o e).1 hb⟩);refine⟨nM hi t (λb=>b=new) (λb z=>⟨sT (Ne.symm z),if_neg z⟩) (λb r o v _ _ h=>mh hh h) ?_ ?_ ?_ ?_ ?_ ?_,t⟩;rintro b cs rfl n;rw[q]at n;injection n with n;subst n;obtain⟨h1,h2⟩:=hb;refine⟨s0.w.heap.size,0,c,e,fz,if_pos rfl,WB hh,by omega,λi x B=>?_,λo _ hl=>hf o (zQ2 _) (by omega)⟩;obtain⟨v,E,y,C⟩:=h2 i x B;exact⟨v,by simp_all,y.mono hi t,C⟩;rintro b wm esz rows rfl n;rw[q]at n;injection n with n;subst n;cases wm with
 |false=>exact hb.elim
 |true=>obtain⟨h1,h2,K⟩:=hb;refine .inr ⟨s0.w.heap.size,c,e,fz,if_pos rfl,WB hh,h1,h2,λi j row x y B=>⟨?_,λh=>by cases h⟩,hf,D _ _ _ rfl⟩;obtain⟨v,E,y⟩:=K i j row x y B;exact⟨v,E,y.mono hi t⟩
 grind;intro r o hc;show r<w'.heap.size;rw[hh];have:=(hi.const r o hc).1;simp;omega;rintro r o b hc rfl h;have:=(hi.const r o hc).1;grind;exact λr o b hc L=>(L hc).elim
theorem xH{s0:Sn}(hi:Inv s0): ∀b r o,Wr1 s0 b r o->r<s0.w.heap.size:=by
 intro b r o h;unfold Wr1 at h;split at h;rename_i cs hb;obtain⟨r',n,c',e',e,m,k,_⟩:=hi.box b cs hb;grind
 ·rename_i hb;obtain⟨g,j⟩:=h;rcases hi.arr b _ _ _ hb with⟨m,_⟩|⟨r',c',e',e,m,k,_⟩
  all_goals grind
 ·rename_i hb;obtain⟨g,j,_⟩:=h;rcases hi.arr b _ _ _ hb with⟨m,_⟩|⟨r',c',e',e,m,k,_⟩
  all_goals grind
 exact h.elim
theorem UY{s0:Sn}(hi:Inv s0){new:Nat}(hd:s0.σ[new]?=some .dead)(esz:Nat):
  Inv ⟨s0.σ.set new (.arr true esz []),fL s0.g new none,s0.w⟩/\bD s0 ⟨s0.σ.set new (.arr true esz []),fL s0.g new none,s0.w⟩:=by
 have j:(s0.σ.set new (Blk.arr true esz []))[new]?=some (.arr true esz []):=jP hd;have wr: ∀b r o,b≠new->(Wr1 ⟨s0.σ.set new (.arr true esz []),fL s0.g new none,s0.w⟩ b r o↔Wr1 s0 b r o):=by simp_all [Wr1,fL,Ne.symm]
 have B: ∀r o,¬Wr1 ⟨s0.σ.set new (.arr true esz []),fL s0.g new none,s0.w⟩ new r o:=by simp_all [Wr1,fL]
 have t:bD s0 ⟨s0.σ.set new (.arr true esz []),fL s0.g new none,s0.w⟩:=(by obtain⟨q,z,x⟩:=yd (s:=⟨s0.σ.set new (.arr true esz []),fL s0.g new none,s0.w⟩) hd rfl none rfl;refine⟨.refl _ _,λ_ _ h=>h,λ_ _ h=>.inl h,?_,q,z,x⟩;rintro r o ⟨b,hb⟩;by_cases e:b=new;simp_all;exact .inl ⟨b,(wr b r o e).1 hb⟩);refine⟨nM hi t (λb=>b=new) (λb k=>⟨sT (Ne.symm k),if_neg k⟩) (λb r o v _ _ h=>h) ?_ ?_ ?_ ?_ ?_ ?_,t⟩;simp_all;rintro b wm y rows rfl n;rw[j]at n;cases n;exact .inl ⟨if_pos rfl,.inl rfl⟩;simp_all;exact λr o hc=>(hi.const r o hc).1;simp_all;exact λr o b hc A=>(A hc).elim
def qG(g:Gh)(p:Nat->Nat->Prop):Gh:=⟨g.μ,λr o=>g.C r o\/p r o⟩
theorem JJZ{s0:Sn}(hi:Inv s0){x:Obj}{w':World}
  (hh:w'.heap=s0.w.heap.push x) (ho:w'.os=s0.w.os) (hp:w'.output=s0.w.output):
  Inv ⟨s0.σ,qG s0.g λr _=>r=s0.w.heap.size,w'⟩/\bD s0 ⟨s0.σ,qG s0.g λr _=>r=s0.w.heap.size,w'⟩:=by
 have t:bD s0 ⟨s0.σ,qG s0.g λr _=>r=s0.w.heap.size,w'⟩:=by
  refine⟨WE hh ho hp,λ_ _ h=>.inl h,λr o h=>?_,λr o h=>.inl h,zQ0 _,λ_ cs h=>⟨⟨cs,h,rfl⟩,rfl⟩,
   λ_ wm _ rows h=>⟨wm,rows,h,id,zQ0 _,λ_=>rfl⟩⟩
  rcases h with h|h
  all_goals simp_all
 refine⟨nM hi t (λ_=>False) (λ_ _=>⟨rfl,rfl⟩) (λb r o v _ _ h=>mh hh h) (λ_ _ h=>h.elim) (λ_ _ _ _ h=>h.elim)
  (λ_ _ _ _ h=>h.elim) ?_ (λ_ _ _ _ h=>h.elim) ?_,t⟩
 intro r o hc;show r<w'.heap.size;rw[hh];rcases hc with hc|hc;have:=(hi.const r o hc).1;simp;omega;simp;omega;intro r o b hc e _ h;rcases hc with hc|hc;exact e hc;have:=xH hi b r o h;omega
structure Put(r:Nat)(o:Nat)(vs:List Value)(w w':World):Prop where
 there: ∃c e fz c',w.heap[r]?=some (.cells c e fz)/\w'.heap[r]?=some (.cells c' e fz)/\c'.size=c.size/\o+vs.length<=c.size/\
  (∀(j:Nat) v,vs[j]?=some v->c'[o+j]?=some v)/\ ∀k,(k<o\/o+vs.length<=k)->c'[k]?=c[k]?
 rest: ∀r':Nat,r'≠r->w'.heap[r']?=w.heap[r']?
 size:w'.heap.size=w.heap.size
 os:w'.os=w.os
 output:w'.output=w.output
theorem Put.keep{W:Nat->Nat->Prop}{r o vs w w'}(h:Put r o vs w w')(hw: ∀k,o<=k->k<o+vs.length->W r k):oS W w w':=by
 obtain⟨c,e,fz,c',h1,h2,v,_,_,q⟩:=h.there;refine⟨Nat.le_of_eq h.size.symm,λr' j z n g=>?_,λr' x g y=>?_,h.os,h.output⟩;by_cases e':r'=r;grind;exact⟨j,by rw[h.rest r' e'];exact g,rfl,λ_ _=>rfl⟩;by_cases e':r'=r;grind;rw[h.rest r' e'];exact g
theorem Put.cell{r o vs w w'}(h:Put r o vs w w'){r' k v}(hv:cellAt w r' k=some v)(hn:r'≠r\/k<o\/o+vs.length<=k):cellAt w' r' k=some v:=by
 obtain⟨c,e,fz,c',h1,h2,j,_,_,g⟩:=h.there;by_cases e':r'=r;grind [lP];unfold cellAt;rw[h.rest r' e'];exact hv
inductive jy:Blk->Blk->Prop where|box (cs cs':List AV):cs'.length=cs.length->jy (.box cs) (.box cs')|arr (esz:Nat) (rows rows':List (List PV)):rows'.length=rows.length->jy (.arr true esz rows) (.arr true esz rows')
theorem lq{s0:Sn}(hi:Inv s0){b:Nat}{old blk:Blk}{r o:Nat}{vs:List Value}{w':World}(hb:s0.σ[b]?=some old)
  (q:Put r o vs s0.w w') (hw: ∀k,o<=k->k<o+vs.length->Wr1 s0 b r k)
  (hk:jy old blk)
  (z: ∀cs,blk=.box cs->(∀{x v},JH s0 x v->JH ⟨s0.σ.set b blk,s0.g,w'⟩ x v)->SC ⟨s0.σ.set b blk,s0.g,w'⟩ b cs)
  (A: ∀esz rows,blk=.arr true esz rows->(∀{x v},J0b s0.w s0.g.C x v->J0b w' s0.g.C x v)->RL ⟨s0.σ.set b blk,s0.g,w'⟩ b true esz rows):
  Inv ⟨s0.σ.set b blk,s0.g,w'⟩/\bD s0 ⟨s0.σ.set b blk,s0.g,w'⟩:=by
 have n:(s0.σ.set b blk)[b]?=some blk:=jP hb;have wr: ∀j r o,(Wr1 ⟨s0.σ.set b blk,s0.g,w'⟩ j r o↔Wr1 s0 j r o):=by
  intro j r o;by_cases e:j=b;subst e;unfold Wr1;simp only[n,hb];cases hk<;>simp_all
  grind [Wr1]
 have t:bD s0 ⟨s0.σ.set b blk,s0.g,w'⟩:=by
  refine⟨q.keep λk h1 h2=>⟨b,hw k h1 h2⟩,λ_ _ h=>h,λ_ _ h=>.inl h,λr o ⟨j,h⟩=>.inl ⟨j,(wr j r o).1 h⟩,by simp,λj cs h=>?_,λj wm esz rows h=>?_⟩;by_cases e:j=b;subst e;rw[hb]at h;injection h with h;subst h;cases hk<;>simp_all
  grind;by_cases e:j=b;subst e;rw[hb]at h;injection h with h;subst h;cases hk<;>simp_all
  grind
 refine⟨nM hi t (λj=>j=b) (λj y=>⟨sT (Ne.symm y),rfl⟩) ?_ ?_ ?_ ?_ ?_ ?_ ?_,t⟩;intro j r' k v y D E;refine q.cell E ?_;rcases zQ3 k o with h|h;simp_all;rcases zQ3 k (o+vs.length)with B|B;refine .inl λe=>y ?_;subst e;exact hi.apart _ _ _ _ D (hw k h B);simp_all;rintro j cs rfl h;rw[n]at h;injection h with h;subst h;exact z _ rfl λh=>h.mono hi t;rintro j wm esz rows rfl h;rw[n]at h;injection h with h;subst h;cases hk with
 |arr _ _ rows' hl=>exact A _ _ rfl λh=>h.mono hi t
 rintro b1 b2 r o rfl h1 h2;exact hi.apart _ _ _ _ ((wr _ _ _).1 h1) ((wr _ _ _).1 h2);intro r o hc;show r<w'.heap.size;rw[q.size];exact(hi.const r o hc).1;rintro r o j hc rfl h;exact(hi.const r o hc).2 _ ((wr _ _ _).1 h);simp_all
end Go.Am
end
section
namespace Go.Am
theorem nO{a b n e:Nat}(h1:a<n)(h2:b<e):a*e+b<n*e:=by
 have h:(a+1)*e<=n*e:=zQ4 e h1;grind
theorem JC{α:Type}{l:List α}{i:Nat}{x:α}(h:l[i]?=some x):i<l.length:=by
 grind
theorem WU{α:Type}{l:Array α}{i:Nat}{x:α}(h:l[i]?=some x):i<l.size:=by
 grind
theorem jM{α:Type}{l:List α}{i:Nat}{x:α}(h:l[i]?=some x):x∈l:=zQ5 h
def Frz(σ τ:List Blk):Prop:=(∀(b:Nat) wm esz rows,σ[b]?=some (Blk.arr wm esz rows)-> ∃wm',τ[b]?=some (Blk.arr wm' esz rows))/\(∀(b:Nat) x,σ[b]?=some x->(∀wm esz rows,x≠Blk.arr wm esz rows)->τ[b]?=some x)
theorem Frz.refl(σ):Frz σ σ:=⟨λ_ wm _ _ h=>⟨wm,h⟩,λ_ _ h _=>h⟩
theorem Frz.trans{a b c}(h:Frz a b)(g:Frz b c):Frz a c:=
 ⟨λn wm esz rows e=>let⟨wm',h1⟩:=h.1 n wm esz rows e;g.1 n wm' esz rows h1,λn x e j=>g.2 n x (h.2 n x e j) j⟩
theorem JHC{s0:Sn}(hi:Inv s0){b:Nat}{wm:Bool}{esz:Nat}{rows:List (List PV)}(hb:s0.σ[b]?=some (.arr wm esz rows)):
  ∃g',g'.μ=s0.g.μ/\Inv ⟨s0.σ.set b (.arr false esz rows),g',s0.w⟩/\bD s0 ⟨s0.σ.set b (.arr false esz rows),g',s0.w⟩/\
   Frz s0.σ (s0.σ.set b (.arr false esz rows)):=by
 have q:(s0.σ.set b (.arr false esz rows))[b]?=some (.arr false esz rows):=jP hb;have y:Frz s0.σ (s0.σ.set b (.arr false esz rows)):=by
  refine⟨λn wm' B rows' E=>?_,λn x E H=>?_⟩
  all_goals grind
 cases wm with
 |false=>
  have hs:s0.σ.set b (.arr false esz rows)=s0.σ:=(by apply zQ6;grind);refine⟨s0.g,rfl,?_,?_,y⟩
  all_goals simp_all [bD.refl]
 |true=>
  refine⟨qG s0.g λr o=>s0.g.μ b=some (r,0)/\o<rows.length*esz,rfl,?_⟩;have wr: ∀k r o,Wr1 ⟨s0.σ.set b (.arr false esz rows),qG s0.g λr o=>s0.g.μ b=some (r,0)/\o<rows.length*esz,s0.w⟩ k r o->Wr1 s0 k r o:=(by intro k r o h;by_cases e:k=b;subst e;unfold Wr1 at h⊢;simp only[q,hb]at h⊢;obtain⟨I,m,_⟩:=h;exact⟨I,m⟩;unfold Wr1 at h⊢;simp only[sT (Ne.symm e)]at h;exact h);have t:bD s0 ⟨s0.σ.set b (.arr false esz rows),qG s0.g λr o=>s0.g.μ b=some (r,0)/\o<rows.length*esz,s0.w⟩:=(by refine⟨.refl _ _,λ_ _ h=>.inl h,λr o h=>?_,λr o ⟨k,h⟩=>.inl ⟨k,wr k r o h⟩,by simp,λk cs h=>?_,λk wm B rows' h=>?_⟩;rcases h with h|⟨h,_⟩;exact .inl h;refine .inr (.inl ⟨b,?_⟩);grind [Wr1];refine⟨⟨cs,y.2 k _ h (by simp),rfl⟩,rfl⟩;by_cases e:k=b;subst e;rw[hb]at h;injection h with h;injection h with h1 h2 h3;subst h1 h2 h3;exact⟨false,rows,q,by simp,zQ0 _,λ_=>rfl⟩;exact⟨wm,rows',by grind,id,zQ0 _,λ_=>rfl⟩);refine⟨nM hi t (λk=>k=b) (λk z=>⟨sT (Ne.symm z),rfl⟩) (λ_ _ _ _ _ _ h=>h) ?_ ?_ ?_ ?_ ?_ ?_,t,y⟩;simp_all;rintro k wm B rows' rfl h;rw[q]at h;cases h;rcases hi.arr _ _ _ _ hb with⟨m,G⟩|⟨r,c,e,fz,m,F,C,hl,H,hf⟩;exact .inl ⟨m,.inr rfl⟩;refine .inr ⟨r,c,e,fz,m,F,C,hl,λi j row x A D=>?_,hf⟩;obtain⟨⟨v,K,G⟩,_⟩:=H i j row x A D;refine⟨⟨v,K,G.mono hi t⟩,λ_=>.inr ⟨m,?_⟩⟩;have h1:=JC A;have h2:=JC D;rw[C row (jM A)]at h2;simp_all [nO];rintro b1 b2 r o rfl h1 h2;exact hi.apart _ _ _ _ (wr _ _ _ h1) (wr _ _ _ h2)
  ·intro r o hc;rcases hc with hc|⟨hc,_⟩
   exact(hi.const r o hc).1
   ·rcases hi.arr _ _ _ _ hb with⟨m,_⟩|⟨r',c,e,fz,m,F,_⟩
    all_goals grind
  rintro r o k hc rfl h;rcases hc with hc|⟨hc,J⟩;exact(hi.const r o hc).2 _ (wr _ _ _ h);grind [Wr1];intro r o k hc E z h;rcases hc with hc|⟨hc,J⟩;exact E hc;refine z (hi.apart _ _ r o h ?_);grind [Wr1]
def kX(s:Sn)(esz:Nat)(rows:List (List PV))(v:Value):Prop:= ∃a cap,v=.slice a rows.length cap/\rows.length<=cap/\(∀row∈rows,row.length=esz)/\(rows=[]\/ ∃r o,a=some ⟨r,o,none⟩/\ ∀(i j:Nat) row x,rows[i]?=some row->row[j]?=some x-> ∃u,cellAt s.w r (o+i*esz+j)=some u/\J0b s.w s.g.C x u)
theorem kX.of_sl{s:Sn}{esz rows v}(h:J0b s.w s.g.C (.sl esz rows) v):kX s esz rows v:=by
 cases h with
 |sl0 _ a cap=>exact⟨a,cap,rfl,zQ2 _,(λ_ h=>by cases h),.inl rfl⟩
 |sl _ _ r o cap vals h1 h2 q n=>exact⟨_,cap,rfl,h1,h2,.inr ⟨r,o,rfl,λi j row x e k=>⟨_,(q i j row x e k).2,n i j row x e k⟩⟩⟩
theorem kX.of_slr{s:Sn}(hi:Inv s){b i n v wm esz rows}(h:JH s (.slr b i n) v)(hb:s.σ[b]?=some (.arr wm esz rows))(e:i+n=rows.length):
  kX s esz (rows.drop i) v:=by
 cases h with
 |slr _ _ _ _ wm' z rows' _ h1 h2 B=>
  rw[hb]at h1;injection h1 with h1;injection h1 with a1 a2 a3;subst a1 a2 a3;have hl:(rows.drop i).length=n:=by simp;omega
  rcases B e with⟨m,q,C,w⟩|⟨r,cap,c,H,fz,m,w,y,F,hs⟩;subst q C;have:rows=[]:=by grind
  subst this;exact⟨none,0,by simp[w],by simp,by simp,.inl rfl⟩;rcases hi.arr b wm esz rows hb with⟨g,_⟩|⟨r',c',e',E,g,D,o,hlen,G,_⟩;simp_all;rw[m]at g;injection g with g;injection g with g _;subst g;refine⟨some ⟨r,i*esz,none⟩,cap,by simp_all,by omega,λrow A=>o row (zQ7 A),.inr ⟨r,i*esz,rfl,λk j row x hk I=>?_⟩⟩;grind [lP]
theorem kX.mono{s0 s:Sn}(hi:Inv s0)(t:bD s0 s){esz rows v}(h:kX s0 esz rows v)(hc: ∀r o u,cellAt s0.w r o=some u->cellAt s.w r o=some u):kX s esz rows v:=by obtain⟨a,cap,h1,h2,q,g⟩:=h;refine⟨a,cap,h1,h2,q,g.imp id ?_⟩;rintro⟨r,o,A,y⟩;exact⟨r,o,A,λi j row x n z=>let⟨u,k,e⟩:=y i j row x n z;⟨u,hc _ _ _ k,e.mono hi t⟩⟩
theorem m4{s:Sn}{esz:Nat}{rows:List (List PV)}{v:Value}{a:Option Addr}{cap:Nat}(hv:v=.slice a rows.length cap)(e:rows.length<=cap)
  (h: ∀row∈rows,row.length=esz)
  (hx:rows=[]\/ ∃r o,a=some ⟨r,o,none⟩/\ ∀(i j:Nat) row x,rows[i]?=some row->row[j]?=some x->s.g.C r (o+i*esz+j)/\ ∃u,cellAt s.w r (o+i*esz+j)=some u/\J0b s.w s.g.C x u):
  J0b s.w s.g.C (.sl esz rows) v:=by
 subst hv;rcases hx with rfl|⟨r,o,rfl,hx⟩;exact .sl0 _ _ _
 ·refine .sl esz rows r o cap (λi j=>(cellAt s.w r (o+i*esz+j)).getD .nilFunc) e h (λi j row x k n=>?_) λi j row x k n=>?_
  all_goals grind
theorem JKj{s0:Sn}(hi:Inv s0){b i n:Nat}{v:Value}{wm:Bool}{esz:Nat}{rows:List (List PV)}(h:JH s0 (.slr b i n) v)(hb:s0.σ[b]?=some (.arr wm esz rows))
  (e:i+n=rows.length):
  ∃g',Inv ⟨s0.σ.set b (.arr false esz rows),g',s0.w⟩/\bD s0 ⟨s0.σ.set b (.arr false esz rows),g',s0.w⟩/\
   Frz s0.σ (s0.σ.set b (.arr false esz rows))/\J0b s0.w g'.C (.sl esz (rows.drop i)) v:=by
 obtain⟨g',Q,hi',t,hf⟩:=JHC hi hb;refine⟨g',hi',t,hf,?_⟩;have A:=h.mono hi t;have q:(s0.σ.set b (.arr false esz rows))[b]?=some (.arr false esz rows):=jP hb;obtain⟨a,cap,h1,h2,J,G⟩:=kX.of_slr hi' A q e;refine m4 (s:=⟨s0.σ.set b (.arr false esz rows),g',s0.w⟩) h1 h2 J (G.imp id ?_);rintro⟨r,o,rfl,K⟩;refine⟨r,o,rfl,λk j row x hk L=>⟨?_,K k j row x hk L⟩⟩;cases A with
 |slr _ _ _ _ wm' y rows' _ H U I=>
  have g:(s0.σ.set b (.arr false esz rows))[b]?=some (.arr wm' y rows'):=H;rw[q]at g;injection g with g;injection g with a1 a2 a3;subst a1 a2 a3;rcases I e with⟨m,P,S,z⟩|⟨r',B,c,T,fz,m,z,D,R,hs⟩;simp_all
  ·rw[h1]at z;injection z with v1 v2 v3;injection v1 with v1;injection v1 with v1 v4;subst v1 v4
   rcases hi'.arr b false esz rows q with⟨E,_⟩|⟨r',c',e',O,E,N,F,hlen,M,_⟩
   all_goals grind
end Go.Am
end
section
namespace Go.Am
theorem NM{α:Type}{a b:List α}{i:Nat}{x:α}(h:(a++b)[i]?=some x):a[i]?=some x\/(a.length<=i/\b[i-a.length]?=some x):=by
 grind
def tq(g:Gh)(wm:Bool)(r lo hi:Nat):Gh:=qG g λr' o=>wm=false/\r'=r/\lo<=o/\o<hi
theorem JO6{s0:Sn}(hi:Inv s0){b:Nat}{wm:Bool}{esz:Nat}{rows new:List (List PV)}{r:Nat}{vs:List Value}{w':World}
  (hb:s0.σ[b]?=some (.arr wm esz rows)) (hm:s0.g.μ b=some (r,0)) (K: ∀row∈new,row.length=esz)
  (z:Put r (rows.length*esz) vs s0.w w') (hlen:vs.length=new.length*esz)
  (hx: ∀(i j:Nat) row x,new[i]?=some row->row[j]?=some x-> ∃u,vs[i*esz+j]?=some u/\J0b s0.w s0.g.C x u):
  Inv ⟨s0.σ.set b (.arr wm esz (rows++new)),tq s0.g wm r (rows.length*esz) ((rows.length+new.length)*esz),w'⟩/\
  bD s0 ⟨s0.σ.set b (.arr wm esz (rows++new)),tq s0.g wm r (rows.length*esz) ((rows.length+new.length)*esz),w'⟩:=by
 have A:(s0.σ.set b (.arr wm esz (rows++new)))[b]?=some (.arr wm esz (rows++new)):=jP hb;have S:(rows.length+new.length)*esz=rows.length*esz+new.length*esz:=zQ8 _ _ _;generalize hs:(⟨s0.σ.set b (.arr wm esz (rows++new)),tq s0.g wm r (rows.length*esz) ((rows.length+new.length)*esz),w'⟩:Sn)=s;have G:s.σ=s0.σ.set b (.arr wm esz (rows++new)):=by rw[<-hs]
 have T:s.g.μ=s0.g.μ:=by rw[<-hs];rfl
 have B: ∀r' o,s.g.C r' o↔s0.g.C r' o\/(wm=false/\r'=r/\rows.length*esz<=o/\o<(rows.length+new.length)*esz):=by rw[<-hs];exact λ_ _=>Iff.rfl
 have L:s.w=w':=by rw[<-hs]
 have wr: ∀n r' o,Wr1 s n r' o->Wr1 s0 n r' o:=by
  intro n r' o h;by_cases e:n=b;subst e;unfold Wr1 at h⊢;rw[G,A]at h;rw[hb];cases wm<;>grind
  grind [Wr1]
 have y: ∀o,rows.length*esz<=o->Wr1 s0 b r o:=by intro o ho;unfold Wr1;rw[hb];cases wm<;>simp_all
 have t:bD s0 s:=(by refine⟨?_,λr o h=>(B r o).2 (.inl h),λr' o h=>?_,λr o ⟨n,h⟩=>.inl ⟨n,wr n r o h⟩,by rw[G];simp,λn cs h=>?_,λn wm' I rows' h=>?_⟩;rw[L];exact z.keep λk h1 _=>⟨b,y k h1⟩;rcases(B r' o).1 h with h|⟨_,e,h,_⟩;exact .inl h;subst e;exact .inr (.inl ⟨b,y o h⟩);grind;by_cases e:n=b;subst e;rw[hb]at h;injection h with h;injection h with h1 h2 Q;subst h1 h2 Q;grind;grind);refine⟨nM hi t (λn=>n=b) (λn D=>⟨by grind,by rw[T]⟩) ?_ ?_ ?_ ?_ ?_ ?_ ?_,t⟩;intro n r' k v D P R;rw[L];refine z.cell R ?_;by_cases F:r'=r;subst F;rcases zQ3 k (rows.length*esz)with h|h;simp_all;exact(D (hi.apart _ _ _ _ P (y k h))).elim;simp_all;simp_all;rintro n wm' I rows' rfl h;rw[G,A]at h;cases h;obtain⟨c,e,fz,c',U,p2,Z,p4,p5,p6⟩:=z.there;rcases hi.arr _ _ _ _ hb with⟨m,_⟩|⟨r',c0,e0,W,m,H,J,hl,N,hf⟩;simp_all;rw[hm]at m;injection m with m;injection m with m _;subst m;rw[U]at H;injection H with H;injection H with q1 q2 q3;subst q1 q2 q3;refine .inr ⟨r,c',e,fz,by simp_all,by simp_all,?_,?_,?_,?_⟩;grind;simp_all;intro i j row x q E;rcases NM q with q|⟨Y,q⟩;obtain⟨⟨v,R,M⟩,hc⟩:=N i j row x q E;have h1:=JC q;have h2:=JC E;rw[J row (jM q)]at h2;have:=nO h1 h2;exact⟨⟨v,by simp_all,M.mono hi t⟩,λe=>(B _ _).2 (.inl (hc e))⟩;obtain⟨u,hu,M⟩:=hx _ j row x q E;have h1:=JC q;have h2:=JC E;rw[K row (jM q)]at h2;have Q:=nO h1 h2;have h4:i*esz+j=rows.length*esz+((i-rows.length)*esz+j):=(by grind [Nat.add_sub_cancel']);refine⟨⟨u,by simp_all,M.mono hi t⟩,λe=>(B _ _).2 (.inr ⟨e,rfl,by omega,by simp_all⟩)⟩;simp_all;rintro b1 b2 r o rfl h1 h2;exact hi.apart _ _ _ _ (wr _ _ _ h1) (wr _ _ _ h2);intro r' o hc;rw[L,z.size];rcases(B r' o).1 hc with hc|⟨_,e,_⟩;exact(hi.const r' o hc).1;subst e;exact xH hi b _ _ (y _ (zQ0 _));rintro r' o n hc rfl h;rcases(B r' o).1 hc with hc|⟨e,F,hlo,O⟩;exact(hi.const r' o hc).2 _ (wr _ _ _ h);subst e F;unfold Wr1 at h;rw[G,A]at h;grind;intro r' o n hc V D h;rcases(B r' o).1 hc with hc|⟨e,F,hlo,O⟩;exact V hc;subst F;exact D (hi.apart _ _ _ o h (y o hlo))
theorem JNW{s0:Sn}(hi:Inv s0){b esz:Nat}{rows rows':List (List PV)}{r o:Nat}{vs:List Value}{w':World}
  (hb:s0.σ[b]?=some (.arr true esz rows)) (hm:s0.g.μ b=some (r,0)) (I: ∀row∈rows',row.length=esz) (M:rows.length<=rows'.length) (y:Put r o vs s0.w w')
  (hx: ∀(c c':Array Value),(∀(i j:Nat) row x,rows[i]?=some row->row[j]?=some x-> ∃u,c[i*esz+j]?=some u/\J0b s0.w s0.g.C x u)->c'.size=c.size->(∃e fz,s0.w.heap[r]?=some (.cells c e fz))->
   (∀(j:Nat) v,vs[j]?=some v->c'[o+j]?=some v)->(∀k,(k<o\/o+vs.length<=k)->c'[k]?=c[k]?)->
   rows'.length*esz<=c.size/\ ∀(i j:Nat) row x,rows'[i]?=some row->row[j]?=some x-> ∃u,c'[i*esz+j]?=some u/\J0b s0.w s0.g.C x u):
  Inv ⟨s0.σ.set b (.arr true esz rows'),s0.g,w'⟩/\bD s0 ⟨s0.σ.set b (.arr true esz rows'),s0.g,w'⟩:=by
 have q:(s0.σ.set b (.arr true esz rows'))[b]?=some (.arr true esz rows'):=jP hb;generalize hs:(⟨s0.σ.set b (.arr true esz rows'),s0.g,w'⟩:Sn)=s;have D:s.σ=s0.σ.set b (.arr true esz rows'):=by rw[<-hs]
 have z:s.g=s0.g:=by rw[<-hs]
 have E:s.w=w':=by rw[<-hs]
 have wr: ∀n r' o,Wr1 s n r' o->Wr1 s0 n r' o:=(by intro n r' o h;by_cases e:n=b;subst e;unfold Wr1 at h⊢;rw[D,q]at h;rw[hb];grind;grind [Wr1]);have A: ∀o,Wr1 s0 b r o:=by intro o;unfold Wr1;rw[hb];simp_all
 have t:bD s0 s:=(by refine⟨?_,λr o h=>by rw[z];exact h,λr' o h=>.inl (by rw[<-z];exact h),λr o ⟨n,h⟩=>.inl ⟨n,wr n r o h⟩,by rw[D];simp,λn cs h=>?_,λn wm' H J h=>?_⟩;rw[E];exact y.keep λk h1 _=>⟨b,A k⟩;grind;by_cases e:n=b;subst e;rw[hb]at h;injection h with h;injection h with h1 h2 h3;subst h1 h2 h3;exact⟨true,rows',by rw[D];exact q,id,M,λ_=>by rw[z]⟩;grind);refine⟨nM hi t (λn=>n=b) (λn B=>⟨by grind,by rw[z]⟩) ?_ ?_ ?_ ?_ ?_ ?_ ?_,t⟩;intro n r' k v B N Z;rw[E];refine y.cell Z ?_;by_cases T:r'=r;subst T;exact(B (hi.apart _ _ _ _ N (A k))).elim;simp_all;simp_all;rintro n wm' H J rfl h;rw[D,q]at h;cases h;obtain⟨c,e,fz,c',K,R,G,p4,Q,S⟩:=y.there;rcases hi.arr _ _ _ _ hb with⟨m,_⟩|⟨r',c0,e0,a0,m,F,O,hl,L,hf⟩;simp_all;rw[hm]at m;injection m with m;injection m with m _;subst m;rw[K]at F;injection F with F;injection F with q1 q2 q3;subst q1 q2 q3;obtain⟨P,U⟩:=hx c c' (λi j row x h1 h2=>(L i j row x h1 h2).1) G ⟨e,fz,K⟩ Q S;refine .inr ⟨r,c',e,fz,by rw[z];exact hm,by rw[E];exact R,I,by rw[G];exact P,λi j row x h1 h2=>?_,by rw[G];exact hf⟩;obtain⟨u,W,V⟩:=U i j row x h1 h2;exact⟨⟨u,W,V.mono hi t⟩,λh=>by cases h⟩;rintro b1 b2 r o rfl h1 h2;exact hi.apart _ _ _ _ (wr _ _ _ h1) (wr _ _ _ h2);intro r' o hc;rw[E,y.size];rw[z]at hc;exact(hi.const r' o hc).1;rintro r' o n hc rfl h;rw[z]at hc;exact(hi.const r' o hc).2 _ (wr _ _ _ h);intro r' o n hc Y B h;rw[z]at hc;exact Y hc
theorem JOC{s0:Sn}(hi:Inv s0){b:Nat}{wm:Bool}{esz:Nat}{rows rows':List (List PV)}{c:Array Value}{e:TypeId}{w':World}
  (hb:s0.σ[b]?=some (.arr wm esz rows)) (N:rows.length<rows'.length) (J: ∀row∈rows',row.length=esz)
  (hh:w'.heap=s0.w.heap.push (.cells c e (0,0))) (ho:w'.os=s0.w.os) (hp:w'.output=s0.w.output)
  (H:rows'.length*esz<=c.size)
  (hx: ∀(i j:Nat) row x,rows'[i]?=some row->row[j]?=some x-> ∃u,c[i*esz+j]?=some u/\J0b s0.w s0.g.C x u):
  ∃g',g'.μ b=some (s0.w.heap.size,0)/\Inv ⟨s0.σ.set b (.arr wm esz rows'),g',w'⟩/\bD s0 ⟨s0.σ.set b (.arr wm esz rows'),g',w'⟩:=by
 have y:(s0.σ.set b (.arr wm esz rows'))[b]?=some (.arr wm esz rows'):=jP hb;refine⟨⟨λk=>if k=b then some (s0.w.heap.size,0)else s0.g.μ k,λr o=>s0.g.C r o\/(wm=false/\r=s0.w.heap.size/\o<rows'.length*esz)⟩,if_pos rfl,?_⟩;generalize hs:(⟨s0.σ.set b (.arr wm esz rows'),_,w'⟩:Sn)=s;have E:s.σ=s0.σ.set b (.arr wm esz rows'):=by rw[<-hs]
 have P: ∀k,s.g.μ k=if k=b then some (s0.w.heap.size,0)else s0.g.μ k:=by grind
 have q: ∀r' o,s.g.C r' o↔s0.g.C r' o\/(wm=false/\r'=s0.w.heap.size/\o<rows'.length*esz):=by rw[<-hs];simp_all
 have K:s.w=w':=by rw[<-hs]
 have wr: ∀k r' o,k≠b->(Wr1 s k r' o↔Wr1 s0 k r' o):=by simp_all [Wr1,Ne.symm]
 have D: ∀r' o,Wr1 s b r' o->r'=s0.w.heap.size/\(wm=false->rows'.length*esz<=o):=(by grind [Wr1]);have t:bD s0 s:=(by refine⟨?_,λr o h=>(q r o).2 (.inl h),λr' o h=>?_,λr o ⟨k,h⟩=>?_,by rw[E];simp,λk cs h=>?_,λk wm' B rows' h=>?_⟩;grind [WE];grind;by_cases n:k=b;grind;exact .inl ⟨k,(wr k r o n).1 h⟩;grind;by_cases n:k=b;subst n;rw[hb]at h;injection h with h;injection h with h1 h2 F;subst h1 h2 F;exact⟨wm,rows',by simp_all,id,by omega,λh=>by omega⟩;grind);refine⟨nM hi t (λk=>k=b) (λk G=>⟨by grind,by simp_all⟩) (λb r o v _ _ h=>by grind [mh]) ?_ ?_ ?_ ?_ ?_ ?_,t⟩;simp_all;rintro k wm' B rows' rfl h;rw[E,y]at h;cases h;refine .inr ⟨s0.w.heap.size,c,e,(0,0),by simp_all,by simp_all,?_,by simp_all,?_,AS.zero _ _⟩;grind;intro i j row x z A;obtain⟨u,M,L⟩:=hx i j row x z A;refine⟨⟨u,M,L.mono hi t⟩,λI=>(q _ _).2 (.inr ⟨I,rfl,?_⟩)⟩;have h1:=JC z;have h2:=JC A;have F:row.length=esz:=(by grind);simp_all [nO];rintro b1 b2 r o rfl h1 h2;by_cases n:b2=b1;exact n.symm;have:=xH hi _ _ _ ((wr b2 r o n).1 h2);grind;intro r' o hc;rw[K,hh];rcases(q r' o).1 hc with hc|⟨_,hc,_⟩;have:=(hi.const r' o hc).1;simp;omega;simp;omega;rintro r' o k hc rfl h;have h1:=D _ _ h;rcases(q r' o).1 hc with hc|⟨Q,hc,ho⟩;have:=(hi.const r' o hc).1;omega;grind;intro r' o k hc G O h;rcases(q r' o).1 hc with hc|⟨_,hc,_⟩;exact G hc;have:=xH hi _ _ _ h;omega
theorem JLQ{s0:Sn}(hi:Inv s0){b:Nat}{wm:Bool}{esz:Nat}{rows new:List (List PV)}{c:Array Value}{e:TypeId}{w':World}
  (hb:s0.σ[b]?=some (.arr wm esz rows)) (o:new≠[]) (k: ∀row∈rows,row.length=esz) (n: ∀row∈new,row.length=esz)
  (hh:w'.heap=s0.w.heap.push (.cells c e (0,0))) (ho:w'.os=s0.w.os) (hp:w'.output=s0.w.output)
  (h:(rows.length+new.length)*esz<=c.size)
  (hx: ∀(i j:Nat) row x,(rows++new)[i]?=some row->row[j]?=some x-> ∃u,c[i*esz+j]?=some u/\J0b s0.w s0.g.C x u):
  ∃g',g'.μ b=some (s0.w.heap.size,0)/\Inv ⟨s0.σ.set b (.arr wm esz (rows++new)),g',w'⟩/\bD s0 ⟨s0.σ.set b (.arr wm esz (rows++new)),g',w'⟩:=
 have q:0<new.length:=List.length_pos_iff.2 o
 JOC hi hb (by simp;omega) (λrow r=>(zQ9.1 r).elim (k row) (n row)) hh ho hp (by simpa using h) hx
end Go.Am
end
section
namespace Go.Am
def okP:PV->Value->Bool| .b x,.bool y=>x==y| .i k n,.int h e=>k==h&&n==e| .s l,.string g=>l==g.data.toList| .sl _ [],.slice none 0 0=>true| .np,.pointer none=>true| .nf,.nilFunc=>true|_,_=>false
def AM:List PV->List Value->Bool|[],[]=>true|x::xs,v::vs=>okP x v&&AM xs vs|_,_=>false
def okC:AV->Value->Bool| .p c,v=>okP c v| .data cs,.agg vs=>AM cs vs.toList| .fn f [] [],.func (.func g) a c=>f==g&&a.isEmpty&&c.isEmpty| .tup [],.tuple vs=>vs.isEmpty|_,_=>false
def bM:Opd->Operand->Bool| .t n,.tmp m=>n==m| .c x,.const v=>okC x v| .c (.fn f [] []),.func g=>f==g|_,_=>false
def jF:List Opd->List Operand->Bool|[],[]=>true|x::xs,y::e=>bM x y&&jF xs e|_,_=>false
def xK:Option Opd->Option Operand->Bool|none,none=>true|some x,some y=>bM x y|_,_=>false
section
variable (P:Program)
def szT(t:TypeId):Option Nat:=(P.info? t).map (·.size)
def byT(t:TypeId):Option Nat:=(P.info? t).map (·.bytes)
def zeT(t:TypeId):Option Value:=(P.info? t).bind (·.zero)
def zS:TypeDesc->Bool| .struct _| .array _ _=>true|_=>false
def agT(t:TypeId):Option Bool:=(P.underlying t).map zS
def elT(t:TypeId):Option TypeId:=match P.underlying t with|some (.slice e)=>some e|_=>none
def kZ(t:TypeId):Bool:=match P.underlying t with|some .string=>true|_=>false
def dk(t:TypeId):Bool:=match P.underlying t with|some (.int .u8)=>true|_=>false
def gz(t:TypeId):Bool:=match P.underlying t with|some .bool=>true|_=>false
def ta(t:TypeId):Bool:=match P.underlying t with|some (.int _)=>true|_=>false
def gm(k:IntKind)(t:TypeId):Bool:=match P.underlying t with|some (.int e)=>k==e|_=>false
def arT(t:TypeId):Option (Nat×TypeId):=match P.underlying t with|some (.array n e)=>some (n,e)|_=>none
def flT(t:TypeId):Option (Array Field):=match P.underlying t with|some (.struct fs)=>some fs|_=>none
def NG(K:TypeId->Option (List KD)):Nat->List Field->Option (List KD)
 |_,[]=>some []
 |off,f::fs=>
  if f.name= "_" ∨f.offset≠off then none
  else match K f.type with
   |none=>none
   |some ks=>if szT P f.type=some ks.length/\0<ks.length then
    match NG K (off+ks.length) fs with
    |some l=>some (ks++l)
    |none=>none
    else none
def qV:Nat->TypeId->Option (List KD)
 |0,_=>none
 |d+1,t=>match P.underlying t with
  |some .bool=>some [.b]
  |some (.int k)=>some [.i k]
  |some .string=>some [.s]
  |some (.struct fs)=>if P.stoodInHeld t then none else NG P (qV d) 0 fs.toList
  |some (.array n e)=>match qV d e with|some ks=>if szT P e=some ks.length/\0<ks.length then some (List.replicate n ks).flatten else none|none=>none
  |_=>none
def Im(t:TypeId):Operand->Bool| .const (.slice none 0 0)=>(elT P t).isSome|_=>false
def K1(t:TypeId):Operand->Bool
 | .const (.pointer none)=>(match P.underlying t with|some (.pointer _)=>true|_=>false)
 |_=>false
def Hd(t:TypeId):Operand->Bool
 | .const .nilFunc=>(match P.underlying t with|some (.func _ _ _)=>true|_=>false)
 |_=>false
def mX(zero:List PV)(t:TypeId):Bool:=match zeT P t with|some v=>AM zero v.cells.toList|none=>false
def RP(t:TypeId)(os:List (Nat×Nat)):Bool:=match zeT P t with
 |some v=>os.all λx=>match v.cells[x.1]? with|some (.slice none 0 0)=>true|_=>false
 |none=>false
def sS(place:Nat->Option (Nat×Nat)):List (Nat×Nat×Opd)->List (Nat×Operand)->Bool|[],[]=>true|(off,size,x)::r,(i,y)::q=>place i==some (off,size)&&bM x y&&sS place r q|_,_=>false
def GF(fs:Array Field)(i:Nat):Option (Nat×Nat):=match fs[i]? with|some f=>(szT P f.type).map λn=>(f.offset,n)|none=>none
def MJ:List (Nat×Opd)->List (Nat×Operand)->Bool|[],[]=>true|(i,x)::r,(j,y)::q=>i==j&&bM x y&&MJ r q|_,_=>false
def JX(D:AOp)(op:Op):Bool:=
 match D with
 | .mv x=>match op with| .move y| .assign y=>bM x y|_=>false
 | .mkarr _ x=>match op with
  | .move (.const (.slice none 0 0))| .assign (.const (.slice none 0 0))=>(match x with| .c _=>true|_=>false)
  |_=>false
 | .pick c a b=>match op with| .pick c' a' C=>bM c c'&&bM a a'&&bM b C|_=>false
 | .newbox zero=>match op with| .alloc t=>mX P zero t|_=>false
 | .box _ x=>match op with| .box _ y=>bM x y|_=>false
 | .build zero parts=>match op with
  | .build t ps=>mX P zero t&&(match P.underlying t with
   |some (.struct fs)=>(fs.all λf=>(szT P f.type).isSome)&&sS (GF P fs) parts ps.toList
   |some (.array _ e)=>(match szT P e with
    |some n=>sS (λi=>some (i*n,n)) parts ps.toList
    |none=>false)
   |_=>false)
  |_=>false
 | .lits _ esz n zero parts=>match op with
  | .buildSlice t len ps=>len==n&&(match elT P t with
   |some e=>szT P e==some esz&&decide (n*esz<=16777216)&&mX P zero e&&zero.length==esz&&decide (0<esz)&&MJ parts ps.toList
   |none=>false)
  |_=>false
 | .load agg size x=>match op with| .load t y=>agT P t==some agg&&szT P t==some size&&bM x y&&(agg||size==1)|_=>false
 | .store size x v=>match op with| .store t y u=>szT P t==some size&&bM x y&&bM v u|_=>false
 | .nilchk x=>match op with| .nilCheck y=>bM x y|_=>false
 | .bin F bt x y=>match op with
  | .binOp z t h o _=>F==z&&bM x h&&(match bt with
   | .plain=>bM y o
   | .bool=>bM y o&&gz P t
   | .flat ks=>bM y o&&qV P 100 t==some ks&&agT P t==some true&& !P.eqGuardType P.depth t
   | .nils=>Im P t o
   | .nilp=>K1 P t o
   | .nilf=>Hd P t o)
  |_=>false
 | .un E x=>match op with| .unOp A _ y=>E==A&&bM x y|_=>false
 | .conv k x=>match op with
  | .convert q dst y=>bM x y&&(match k with
   | .int k=>ta P q&&gm P k dst
   | .same=>kZ P q&&kZ P dst
   | .toStr=>(match elT P q with|some e=>dk P e&&szT P e==some 1|none=>false)&&kZ P dst
   | .toBytes _=>kZ P q&&(match elT P dst with|some e=>dk P e&&szT P e==some 1|none=>false))
  |_=>false
 | .mkslice _ esz bytes zero l c=>match op with
  | .makeSlice t G c'=>bM l G&&bM c c'&&(match elT P t with
   |some e=>szT P e==some esz&&byT P e==some bytes&&mX P zero e&&zero.length==esz&&decide (0<esz)&&decide (0<bytes)
   |none=>false)
  |_=>false
 | .slice k x lo hi mx=>match op with
  | .slice t h lo' hi' B=>bM x h&&xK lo lo'&&xK hi hi'&&xK mx B&&(match k with
   | .str=>kZ P t
   | .sl esz=>(match elT P t with|some e=>szT P e==some esz|none=>false))
  |_=>false
 | .psuf esz x lo=>match op with
  | .slice t h (some lo') none none=>bM x h&&bM lo lo'&&(match elT P t with|some e=>szT P e==some esz|none=>false)
  |_=>false
 | .faddr off x=>match op with
  | .fieldAddr t y f=>bM x y&&(match flT P t with
   |some fs=>(match fs[f]? with
    |some f=>f.offset==off&&(match szT P f.type with|some n=>n !=0|none=>false)
    |none=>false)
   |none=>false)
  |_=>false
 | .field agg off size x=>match op with
  | .field t y f=>bM x y&&(match flT P t with
   |some fs=>(match fs[f]? with
    |some f=>f.offset==off&&szT P f.type==some size&&agT P f.type==some agg&&(agg||size==1)
    |none=>false)
   |none=>false)
  |_=>false
 | .iaddr esz x i=>match op with
  | .indexAddr t y j=>bM x y&&bM i j&&(match elT P t with|some e=>szT P e==some esz|none=>false)
  |_=>false
 | .aaddr len esz x i=>match op with
  | .indexAddr t y j=>bM x y&&bM i j&&(match arT P t with|some (n,e)=>n==len&&szT P e==some esz|none=>false)
  |_=>false
 | .sidx x i=>match op with| .index t y j=>bM x y&&bM i j&&kZ P t|_=>false
 | .aidx agg len esz x i=>match op with
  | .index t y j=>bM x y&&bM i j&&(match arT P t with|some (n,e)=>n==len&&szT P e==some esz&&agT P e==some agg&&(agg||esz==1)|none=>false)
  |_=>false
 | .extr x i=>match op with| .extract y j=>bM x y&&i==j|_=>false
 | .call f args _=>match op with
  | .call c=>(match c.callee with
   | .value (.func g)=>f==g&&jF args c.args.toList
   |_=>false)
  |_=>false
 | .callv x args _=>match op with
  | .call c=>(match c.callee with
   | .value y=>bM x y&&jF args c.args.toList
   |_=>false)
  |_=>false
 | .len str x=>match op with
  | .call c=>(match c.callee with
   | .builtin .len=>(match c.args.toList,c.argTypes.toList with
    |[y],[t]=>bM x y&&(if str then kZ P t else(elT P t).isSome)
    |_,_=>false)
   |_=>false)
  |_=>false
 | .appn esz bytes zero y=>match op with
  | .call c=>(match c.callee with
   | .builtin .append=>(match c.args.toList,c.argTypes.toList with
    |[.const (.slice none 0 0),o],[t,u]=>bM y o&&((elT P u).isSome||kZ P u)&&(match elT P t with
     |some e=>szT P e==some esz&&byT P e==some bytes&&mX P zero e&&zero.length==esz&&decide (0<esz)&&decide (0<bytes)
     |none=>false)
    |_,_=>false)
   |_=>false)
  |_=>false
 | .mvn esz zero x=>match op with| .move y| .assign y=>bM x y|_=>false
 | .shr esz zero x hi=>match op with
  | .slice t h none (some hi') none=>bM x h&&bM hi hi'&&(match elT P t with|some e=>szT P e==some esz|none=>false)
  |_=>false
 | .clr esz zero x=>match op with
  | .call c=>(match c.callee with
   | .builtin .clear=>(match c.args.toList,c.argTypes.toList with
    |[h],[t]=>bM x h&&(match elT P t with
     |some e=>szT P e==some esz&&mX P zero e&&zero.length==esz
     |none=>false)
    |_,_=>false)
   |_=>false)
  |_=>false
 | .app esz bytes zero x y=>match op with
  | .call c=>(match c.callee with
   | .builtin .append=>(match c.args.toList,c.argTypes.toList with
    |[h,o],[t,u]=>bM x h&&bM y o&&((elT P u).isSome||kZ P u)&&(match elT P t with
     |some e=>szT P e==some esz&&byT P e==some bytes&&mX P zero e&&zero.length==esz&&decide (0<esz)&&decide (0<bytes)
     |none=>false)
    |_,_=>false)
   |_=>false)
  |_=>false
 | .mm mx x y=>match op with
  | .call c=>(match c.callee with
   | .builtin b=>b==(if mx then .max else .min)&&(match c.args.toList with
    |[h,o]=>bM x h&&bM y o
    |_=>false)
   |_=>false)
  |_=>false
 | .newboxo zero os=>match op with| .alloc t=>mX P zero t&&RP P t os|_=>false
 | .buildo zero parts os=>match op with
  | .build t ps=>mX P zero t&&RP P t os&&(match P.underlying t with
   |some (.struct fs)=>(fs.all λf=>(szT P f.type).isSome)&&sS (GF P fs) parts ps.toList
   |_=>false)
  |_=>false
 | .storen _ x=>match op with| .store t y (.const (.slice none 0 0))=>szT P t==some 1&&bM x y|_=>false
 | .callo f _ args _=>match op with
  | .call c=>(match c.callee with
   | .value (.func g)=>f==g&&jF args c.args.toList
   |_=>false)
  |_=>false
 | .mkfn f first caps=>match op with
  | .makeFunc (.func g) r w=>f==g&&jF first r.toList&&jF caps w.toList
  |_=>false
end
end Go.Am
end
section
namespace Go.Am
def get(s:St):Loc->Option (AV⊕Blk)| .slot n=>(lk n s.env).map .inl| .blk b=>(s.sto[b]?).map .inr
theorem JJT{α:Type}(m:RM α)(s s':St)(h: ∀l∈m.reads s,get s' l=get s l):m.run s'=m.run s:=by
 induction m with
 |ret a=>rfl
 |slot n k ih=>
  have e:=h (.slot n) (by simp[RM.reads]);grind [get,RM.run,RM.reads]
 |blk b k ih=>
  have e:=h (.blk b) (by simp[RM.reads]);grind [get,RM.run,RM.reads]
 |fail=>rfl
theorem yN{b:Nat}: ∀{ws:List (Nat×Blk)},b∉ws.map (·.1)->kF b ws=none
 |[],_=>rfl
 |(c,x)::r,h=>by
  simp at h;simp only[kF];rw[yN (by simpa using h.2)];grind
theorem Ab{b:Nat}: ∀{ws:List (Nat×Blk)},b∈ws.map (·.1)-> ∃y,kF b ws=some y
 |[],h=>by simp at h
 |(c,x)::r,h=>by
  simp only[kF];by_cases e:b∈r.map (·.1);obtain⟨y,g⟩:=Ab e;simp_all;simp_all [yN]
theorem BW: ∀(ws:List (Nat×Blk)) (σ:List Blk),(upd ws σ).length=σ.length|[],_=>rfl|y::ws,σ=>by show(upd ws (σ.set y.1 y.2)).length=_;rw[BW ws];simp
theorem xY: ∀(ws:List (Nat×Blk)) (σ:List Blk) (b:Nat),b<σ.length->(upd ws σ)[b]?=match kF b ws with
  |some y=>some y
  |none=>σ[b]?
 |[],σ,b,_=>rfl
 |(c,x)::ws,σ,b,h=>by
  show(upd ws (σ.set c x))[b]?=_;rw[xY ws (σ.set c x) b (by simpa using h)];grind [kF]
structure Run(F:Orc)(ins:List bW)(new:Nat->Nat)(S:Nat->St)(eff:Nat->Eff):Prop where
 step: ∀k i,ins[k]?=some i->(cB F i (new k)).run (S k)=some (eff k)/\S (k+1)=put i.dst (eff k) (S k)
structure RN(F:Orc)(ins:List bW)(new:Nat->Nat)(S:Nat->St)(eff:Nat->Eff)(i j:Nat):Prop where
 slotW: ∀x y m,ins[i]?=some x->ins[j]?=some y->x.dst=some m->y.dst≠some m/\Loc.slot m∉(cB F y (new j)).reads (S j)
 slotR: ∀x y m,ins[i]?=some x->ins[j]?=some y->y.dst=some m->Loc.slot m∉(cB F x (new i)).reads (S i)
 blkW: ∀y b,ins[j]?=some y->b∈(eff i).ws.map (·.1)->b∉(eff j).ws.map (·.1)/\Loc.blk b∉(cB F y (new j)).reads (S j)
 blkR: ∀x b,ins[i]?=some x->b∈(eff j).ws.map (·.1)->Loc.blk b∉(cB F x (new i)).reads (S i)
section
variable {F:Orc} {ins:List bW} {new:Nat->Nat} {S:Nat->St} {eff:Nat->Eff}
def xI(ins:List bW)(k:Nat):Option Nat:=(ins[k]?).bind (·.dst)
def qR(ins:List bW)(eff:Nat->Eff)(s0:St)(D:Nat->Bool):Nat->Nat->Option AV|0,m=>lk m s0.env|k+1,m=>if D k=true/\xI ins k=some m then some (eff k).val else qR ins eff s0 D k m
def oL(eff:Nat->Eff)(s0:St)(D:Nat->Bool):Nat->Nat->Option Blk
 |0,b=>s0.sto[b]?
 |k+1,b=>if D k=true then(match kF b (eff k).ws with
  |some y=>some y
  |none=>oL eff s0 D k b)else oL eff s0 D k b
structure Agree(ins:List bW)(eff:Nat->Eff)(s0:St)(D:Nat->Bool)(s:St):Prop where
 slot: ∀m,lk m s.env=qR ins eff s0 D ins.length m
 len:s.sto.length=s0.sto.length
 blk: ∀b,b<s0.sto.length->s.sto[b]?=oL eff s0 D ins.length b
theorem UP(hr:Run F ins new S eff): ∀k,k<=ins.length->(S k).sto.length=(S 0).sto.length
 |0,_=>rfl
 |k+1,h=>by
  have hk:ins[k]?=some ins[k]:=bA (by omega);obtain⟨_,h2⟩:=hr.step k _ hk;rw[h2,<-UP hr k (by omega)];unfold put;grind [BW]
theorem lf(hr:Run F ins new S eff)(D:Nat->Bool): ∀k,k<=ins.length->(∀j,j<k->D j=true)-> ∀m,qR ins eff (S 0) D k m=lk m (S k).env
 |0,_,_,m=>rfl
 |k+1,h,hD,m=>by
  have hk:ins[k]?=some ins[k]:=bA (by omega);obtain⟨_,h2⟩:=hr.step k _ hk;simp only[qR];rw[lf hr D k (by omega) (λj e=>hD j (by omega)) m,h2];have hd:xI ins k=ins[k].dst:=by grind [xI]
  rw[hd];unfold put;grind [lk]
theorem jz(hr:Run F ins new S eff)(D:Nat->Bool): ∀k,k<=ins.length->(∀j,j<k->D j=true)-> ∀b,b<(S 0).sto.length->oL eff (S 0) D k b=(S k).sto[b]?
 |0,_,_,b,_=>rfl
 |k+1,h,hD,b,hb=>by
  have hk:ins[k]?=some ins[k]:=bA (by omega);obtain⟨_,h2⟩:=hr.step k _ hk;simp only[oL];rw[jz hr D k (by omega) (λj e=>hD j (by omega)) b hb,h2,if_pos (hD k (by omega))];have:(put ins[k].dst (eff k) (S k)).sto=upd (eff k).ws (S k).sto:=by unfold put;split<;>rfl
  rw[this,xY _ _ _ (by rw[UP hr k (by omega)];exact hb)]
theorem mq{s0:St}{D D':Nat->Bool}{m:Nat}: ∀n,(∀j,j<n->xI ins j=some m->D j=D' j)->qR ins eff s0 D n m=qR ins eff s0 D' n m
 |0,_=>rfl
 |n+1,h=>by
  simp only[qR];rw[mq n λj e=>h j (by omega)];grind
theorem ly{s0:St}{D D':Nat->Bool}{b:Nat}: ∀n,(∀j,j<n->b∈(eff j).ws.map (·.1)->D j=D' j)->oL eff s0 D n b=oL eff s0 D' n b
 |0,_=>rfl
 |n+1,h=>by
  simp only[oL];rw[ly n λj e=>h j (by omega)];grind [yN]
theorem VV{s0:St}{D:Nat->Bool}{m k:Nat}: ∀n,k<=n->(∀j,k<=j->j<n->xI ins j=some m->D j=false)->qR ins eff s0 D n m=qR ins eff s0 D k m
 |0,h,_=>by simp_all
 |n+1,h,hD=>by
  by_cases hk:k=n+1;subst hk;rfl;simp only[qR];rw[VV n (by omega) λj h1 h2=>hD j h1 (by omega)];grind
theorem VC{s0:St}{D:Nat->Bool}{b k:Nat}: ∀n,k<=n->(∀j,k<=j->j<n->b∈(eff j).ws.map (·.1)->D j=false)->oL eff s0 D n b=oL eff s0 D k b
 |0,h,_=>by simp_all
 |n+1,h,hD=>by
  by_cases hk:k=n+1;subst hk;rfl;simp only[oL];rw[VC n (by omega) λj h1 h2=>hD j h1 (by omega)];grind [yN]
theorem JMk(hr:Run F ins new S eff){D:Nat->Bool}{s:St}(ha:Agree ins eff (S 0) D s){k:Nat}{i:bW}(hk:ins[k]?=some i)(E:D k=false)
  (q: ∀j,j<k->D j=false->RN F ins new S eff j k) (h: ∀j,k<j->j<ins.length->D j=true->RN F ins new S eff k j):
  (cB F i (new k)).run s=some (eff k)/\Agree ins eff (S 0) (λj=>if j=k then true else D j) (put i.dst (eff k) s):=by
 have A:k<ins.length:=(by grind);have g: ∀j,j<ins.length->ins[j]?=some ins[j]! :=λj o=>by simp[o]
 have w: ∀j,j<ins.length->xI ins j=ins[j]!.dst:=λj o=>by grind [xI]
 obtain⟨h1,h2⟩:=hr.step k i hk;have C:xI ins k=i.dst:=by simp_all
 let T:Nat->Bool:=λ_=>true
 have reads: ∀l∈(cB F i (new k)).reads (S k),get s l=get (S k) l:=by
  intro l hl;cases l with
  |slot m=>
   simp only[get];rw[ha.slot m]
   congr 1
   rw[VV ins.length (k:=k) (by omega) λj r e hd=>?_];rw[mq (D':=T) k λj o hd=>?_,lf hr T k (by omega) (λ_ _=>rfl) m];cases hDj:D j with
   |true=>rfl
   |false=>have:=(q j o hDj).slotW _ i m (g j (by omega)) hk (by grind);simp_all
   by_cases n:j=k;simp_all;cases hDj:D j with
   |false=>rfl
   |true=>have:=(h j (by omega) e hDj).slotR i _ m hk (g j e) (by simp_all);simp_all
  |blk b=>
   simp only[get];by_cases hb:b<(S 0).sto.length;rw[ha.blk b hb]
   congr 1
   rw[VC ins.length (k:=k) (by omega) λj r e hd=>?_];rw[ly (D':=T) k λj o hd=>?_,jz hr T k (by omega) (λ_ _=>rfl) b hb];cases hDj:D j with
   |true=>rfl
   |false=>exact absurd hl ((q j o hDj).blkW i b hk hd).2
   by_cases n:j=k;simp_all;cases hDj:D j with
   |false=>rfl
   |true=>exact absurd hl ((h j (by omega) e hDj).blkR i b hk hd)
   rw[qI (by have:=ha.len;omega),qI (by have:=UP hr k (by omega);omega)]
 refine⟨by grind [JJT],?_,?_,?_⟩;intro m;have v:lk m (put i.dst (eff k) s).env=if i.dst=some m then some (eff k).val else lk m s.env:=(by unfold put;grind [lk])
 rw[v,ha.slot m];by_cases z:i.dst=some m;rw[if_pos z];rw[VV ins.length (k:=k+1) (by omega) λj r e hd=>?_];grind [qR];have n:j≠k:=by omega
 simp only[if_neg n];cases hDj:D j with
 |false=>rfl
 |true=>have:=(h j (by omega) e hDj).slotW i _ m hk (g j e) z;simp_all
 grind [mq];have:(put i.dst (eff k) s).sto=upd (eff k).ws s.sto:=by unfold put;split<;>rfl
 rw[this,BW,ha.len];intro b hb;have:(put i.dst (eff k) s).sto=upd (eff k).ws s.sto:=by unfold put;split<;>rfl
 rw[this,xY _ _ _ (by rw[ha.len];exact hb),ha.blk b hb];by_cases x:b∈(eff k).ws.map (·.1);obtain⟨y,B⟩:=Ab x;simp only[B];rw[VC (D:=λj=>if j=k then true else D j) ins.length (k:=k+1) (by omega) λj r e hd=>?_];grind [oL];have n:j≠k:=by omega
 simp only[if_neg n];cases hDj:D j with
 |false=>rfl
 |true=>exact absurd hd ((h j (by omega) e hDj).blkW _ b (g j e) x).1
 grind [yN,ly]
theorem JE6:Agree ins eff (S 0) (λ_=>false) (S 0):=by
 refine⟨λm=>?_,rfl,λb _=>?_⟩;rw[VV ins.length (k:=0) (zQ2 _) λ_ _ _ _=>rfl];rfl;rw[VC ins.length (k:=0) (zQ2 _) λ_ _ _ _=>rfl];rfl
theorem JJ9(hr:Run F ins new S eff){D:Nat->Bool}{s:St}(ha:Agree ins eff (S 0) D s)(hD: ∀j,j<ins.length->D j=true):
  (∀m,lk m s.env=lk m (S ins.length).env)/\s.sto=(S ins.length).sto:=by
 refine⟨λm=>by rw[ha.slot m,lf hr D _ (zQ0 _) hD m],zQ6 λb=>?_⟩;by_cases hb:b<(S 0).sto.length;rw[ha.blk b hb,jz hr D _ (zQ0 _) hD b hb];rw[qI (by have:=ha.len;omega),qI (by have:=UP hr _ (zQ0 _);omega)]
end
end Go.Am
end
section
namespace Go.Am
def oSl:Opd->List Nat| .t n=>[n]| .c _=>[]
def iR:List Opd->List Nat|[]=>[]|x::r=>oSl x++iR r
def dr:Option Opd->List Nat|none=>[]|some x=>oSl x
def dE:AOp->List Nat| .mv x| .box _ x| .appn _ _ _ x| .clr _ _ x| .mvn _ _ x| .load _ _ x| .nilchk x| .un _ x| .conv _ x| .faddr _ x| .field _ _ _ x| .extr x _| .len _ x=>oSl x| .mkarr _ _| .newbox _=>[]| .pick c a b=>oSl c++(oSl a++oSl b)| .build _ parts=>iR (parts.map (·.2.2))| .lits _ _ _ _ parts=>iR (parts.map (·.2))| .store _ x v=>oSl x++oSl v| .bin _ _ x y| .iaddr _ x y| .aaddr _ _ x y| .sidx x y| .aidx _ _ _ x y| .app _ _ _ x y| .mm _ x y| .mkslice _ _ _ _ x y| .psuf _ x y| .shr _ _ x y=>oSl x++oSl y| .slice _ x lo hi mx=>oSl x++(dr lo++(dr hi++dr mx))| .call _ args _=>iR args| .callv g args _=>oSl g++iR args| .mkfn _ a b=>iR a++iR b| .newboxo _ _=>[]| .buildo _ parts _=>iR (parts.map (·.2.2))| .storen _ x=>oSl x| .callo _ _ args _=>iR args
def yH(i:bW):List Nat:=dE i.op++match i.g with|some (g,_)=>[g]|none=>[]
def AA:AOp->Bool| .mkarr _ _| .newbox _| .box _ _| .lits _ _ _ _ _| .store _ _ _| .conv (.toBytes _) _| .mkslice _ _ _ _ _ _| .slice (.sl _) _ _ _ _| .call _ _ _| .callv _ _ _| .app _ _ _ _ _| .appn _ _ _ _| .newboxo _ _| .buildo _ _ _| .storen _ _| .callo _ _ _ _| .psuf _ _ _| .shr _ _ _ _| .clr _ _ _| .mvn _ _ _=>true|_=>false
def PM:AOp->Bool| .load _ _ _| .iaddr _ _ _| .conv .toStr _=>true|op=>AA op
def Sl{α:Type}(L:List Nat)(m:RM α):Prop:= ∀s n,Loc.slot n∈m.reads s->n∈L
section
variable {α β:Type} {L:List Nat}
theorem bH(a:α):Sl L (.ret a):=λs n h=>by grind [RM.reads]
theorem bV:Sl L (.fail:RM α):=λs n h=>by grind [RM.reads]
theorem mF{b:Nat}{k:Blk->RM α}(h: ∀v,Sl L (k v)):Sl L (.blk b k):=λs n e=>by
 simp only[RM.reads,cJ]at e;rcases e with e|e;cases e;split at e;exact h _ s n e;simp at e
theorem Mu{m:Nat}{k:AV->RM α}(hm:m∈L)(h: ∀v,Sl L (k v)):Sl L (.slot m k):=λs n e=>by
 simp only[RM.reads,cJ]at e;rcases e with e|e;simp_all;split at e;exact h _ s n e;simp at e
theorem Jv{m:RM α}{f:α->RM β}(h:Sl L m)(hf: ∀a,Sl L (f a)):Sl L (m.bind f):=λs n e=>by
 rw[yP,zQ9]at e;rcases e with e|e;exact h s n e;cases hr:m.run s with
 |none=>simp[hr]at e
 |some a=>simp[hr]at e;exact hf a s n e
theorem JOK{L':List Nat}{m:RM α}(h:Sl L m)(hl: ∀x∈L,x∈L'):Sl L' m:=λs n e=>hl n (h s n e)
theorem us{c:Prop} [Decidable c]{x y:RM α}(hx:Sl L x)(hy:Sl L y):Sl L (if c then x else y):=by grind
end
theorem cL{L:List Nat}(x:Opd)(h: ∀n∈oSl x,n∈L):Sl L (ev x):=by
 cases x with
 |t n=>exact Mu (h n (by simp[oSl])) λv=>bH v
 |c v=>exact bH v
theorem GB{L:List Nat}: ∀(xs:List Opd),(∀n∈iR xs,n∈L)->Sl L (evs xs)|[],_=>bH _|x::xs,h=>Jv (cL x λn e=>h n (by simp[iR,e])) λv=>Jv (GB xs λn e=>h n (by simp[iR,e])) λvs=>bH _
theorem uz{L:List Nat}(x:Option Opd)(h: ∀n∈dr x,n∈L):Sl L (evo x):=by
 cases x with
 |none=>exact bH _
 |some x=>exact Jv (cL x h) λv=>bH _
theorem pH{L:List Nat}(x:Option AV):Sl L (val x):=by cases x<;>first|exact bV|exact bH _
theorem JQr{L:List Nat}(x:AV):Sl L (fz.fz1 x):=by
 cases x<;>try exact bV
 exact bH _;refine mF λv=>?_;grind [bV,bH]
theorem Mc{L:List Nat}: ∀(xs:List AV),Sl L (fz.fzL xs)|[]=>bH _|x::xs=>Jv (JQr x) λ_=>Jv (Mc xs) λ_=>bH _
theorem LQ{L:List Nat}(x:AV):Sl L (fz x):=by
 cases x<;>try first|exact bV|exact bH _
 exact Mc _;refine mF λv=>?_;grind [bV,bH]
theorem Ln{L:List Nat}: ∀(xs:List Opd),(∀n∈iR xs,n∈L)->Sl L (fzs xs)|[],_=>bH _|x::xs,h=>Jv (cL x λn e=>h n (by simp[iR,e])) λv=>Jv (LQ v) λ_=>Jv (Ln xs λn e=>h n (by simp[iR,e])) λ_=>bH _
theorem lw{L:List Nat}(esz:Nat)(x:AV):Sl L (gB esz x):=by
 unfold gB;grind [bH,bV,mF]
theorem JKR{L:List Nat}(agg:Bool)(size:Nat)(x:AV):Sl L (gZ agg size x):=by
 unfold gZ;split
 all_goals grind [pH,bV,mF]
theorem yy{L:List Nat}(size:Nat)(x v:AV):Sl L (iV size x v):=by
 unfold iV;split;grind [mF,bV,bH];refine mF λv=>?_;grind [bV,Jv,LQ,bH];simp[bV]
theorem JJ3{L:List Nat}(esz:Nat)(x i:AV):Sl L (nK esz x i):=by
 unfold nK;grind [bV,bH,mF]
theorem JOP{L:List Nat}(esz bytes:Nat)(x y:AV):Sl L (jV esz bytes x y):=by
 unfold jV;grind [mF,bV,Jv,lw,bH]
theorem UM{L:List Nat}(ws:List (Nat×Blk))(b:Nat):Sl L (rZ ws b):=
 mF λv=>by grind [bH]
theorem GK{L:List Nat}(ws:List (Nat×Blk)): ∀(es acc:List Ent),Sl L (eM ws es acc)
 |[],acc=>bH _
 | .whole b::r,acc=>Jv (UM ws b) λv=>by cases v<;>exact GK ws r _
 | .elem b e i::r,acc=>GK ws r acc
theorem it{L:List Nat}(x:AV):Sl L (jT x):=by
 cases x<;>try first|exact bV|exact bH _
 exact Jv (LQ _) λ_=>bH _;refine Jv (LQ _) λa=>?_;grind [bH,bV]
theorem xh{L:List Nat}: ∀(xs:List AV),Sl L (lE xs)|[]=>bH _|x::xs=>Jv (it x) λ_=>Jv (xh xs) λ_=>bH _
theorem JMG{L:List Nat}(ws:List (Nat×Blk))(ρ:Ent->Option Nat)(e:Ent):Sl L (AR ws ρ e):=by
 cases e with
 |whole b=>
  refine Jv (UM ws b) λv=>?_;grind [bV,bH]
 |elem b e i=>
  refine Jv (UM ws b) λv=>?_;grind [bV,bH]
theorem lg{L:List Nat}(ws:List (Nat×Blk))(ρ:Ent->Option Nat): ∀(es:List Ent),Sl L (lL ws ρ es)|[]=>bH _|e::r=>Jv (JMG ws ρ e) λ_=>Jv (lg ws ρ r) λ_=>bH _
theorem JJ5{L:List Nat}(ws:List (Nat×Blk))(es:List Ent)(new:Nat)(e:Ent)(x:Blk):Sl L (uS ws es new e x):=by
 unfold uS;grind [bH,bV,Jv,UM]
theorem mn{L:List Nat}(ws:List (Nat×Blk))(es:List Ent)(new:Nat): ∀(e:List Ent) (x:List Blk),Sl L (jK ws es new e x)|[],_=>bH _|_::_,[]=>bV|e::r,x::l=>Jv (JJ5 ws es new e x) λ_=>Jv (mn ws es new r l) λ_=>bH _
theorem Pw{L:List Nat}(F:Orc)(f:FuncId)(args:List AV)(k new:Nat):Sl L (iU F f args k new):=by
 unfold iU;refine Jv (xh _) λa=>Jv (GK _ _ _) λe=>Jv (GK _ _ _) λes=>us ?_ bV;split
 all_goals grind [bV,Jv,lg,mn,bH]
theorem JJ8{L:List Nat}(F:Orc)(f:FuncId)(a:List AV×List (Nat×Blk))(k new:Nat):Sl L (gA F f a k new):=by
 unfold gA;refine Jv (GK _ _ _) λe=>Jv (GK _ _ _) λes=>us ?_ bV;split
 all_goals grind [bV,Jv,lg,mn,bH]
theorem VH{L:List Nat}: ∀(m:List Bool) (xs:List AV),Sl L (fO m xs)
 |_,[]=>by cases ‹List Bool›<;>exact bH _
 |[],x::xs=>Jv (it x) λ_=>Jv (VH [] xs) λ_=>bH _
 |true::m,x::xs=>Jv (VH m xs) λ_=>bH _
 |false::m,x::xs=>Jv (it x) λ_=>Jv (VH m xs) λ_=>bH _
theorem mb{L:List Nat}: ∀(xs:List (Nat×Nat×Opd)),(∀n∈iR (xs.map (·.2.2)),n∈L)->Sl L (lI xs)
 |[],_=>bH _
 |(a,b,x)::xs,h=>by
  unfold lI;refine Jv (cL x λn e=>h n (by simp[iR,e])) λv=>?_;split;exact Jv (mb xs λn e=>h n (by simp[iR,e])) λ_=>bH _;simp[bV]
theorem JQw(F:Orc)(op:AOp)(new:Nat):Sl (dE op) (opR F op new):=by
 cases op with
 |mv x=>exact Jv (cL x λn h=>h) λv=>bH _
 |mkarr=>exact bH _
 |appn esz bytes zero y=>exact Jv (cL y λn h=>h) λv=>Jv (lw _ _) λ_=>us (bH _) bV
 |pick c a b=>
  refine Jv (cL c λn h=>by grind [dE]) λv=>?_;grind [Jv,cL,dE,bH,bV]
 |newbox=>exact bH _
 |box size x=>
  refine Jv (cL x λn h=>h) λv=>?_;grind [bH,bV]
 |build zero parts=>
  refine Jv (mb parts λn h=>h) λv=>?_;grind [pH,bV]
 |lits own esz n zero parts=>
  refine Jv (Ln _ λn h=>h) λv=>?_;grind [bH,bV]
 |load agg size x=>exact Jv (cL x λn h=>h) λv=>JKR _ _ _
 |store size x y=>exact Jv (cL x λn h=>by grind [dE]) λv=>Jv (cL y λn h=>by grind [dE]) λ_=>yy _ _ _
 |nilchk x=>
  refine Jv (cL x λn h=>h) λv=>?_;grind [bH,bV]
 |bin op t x y=>exact Jv (cL x λn h=>by grind [dE]) λv=>Jv (cL y λn h=>by grind [dE]) λ_=>pH _
 |un op x=>exact Jv (cL x λn h=>h) λv=>pH _
 |conv k x=>
  refine Jv (cL x λn h=>h) λv=>?_;grind [bH,Jv,lw,bV]
 |mkslice own esz bytes zero x y=>
  refine Jv (cL x λn h=>by grind [dE]) λv=>Jv (cL y λn h=>by grind [dE]) λu=>?_;grind [bH,bV]
 |slice k x lo hi mx=>
  refine Jv (cL x λn h=>by grind [dE]) λv=>Jv (uz lo λn h=>by grind [dE]) λ_=>Jv (uz hi λn h=>by grind [dE]) λ_=>Jv (uz mx λn h=>by grind [dE]) λ_=>?_;grind [Jv,LQ,bH,bV,pH]
 |faddr off x=>exact Jv (cL x λn h=>h) λv=>pH _
 |field agg off size x=>exact Jv (cL x λn h=>h) λv=>pH _
 |iaddr esz x y=>exact Jv (cL x λn h=>by grind [dE]) λv=>Jv (cL y λn h=>by grind [dE]) λ_=>JJ3 _ _ _
 |aaddr len esz x y=>exact Jv (cL x λn h=>by grind [dE]) λv=>Jv (cL y λn h=>by grind [dE]) λ_=>pH _
 |sidx x y=>
  refine Jv (cL x λn h=>by grind [dE]) λv=>Jv (cL y λn h=>by grind [dE]) λu=>?_;grind [bV,bH]
 |aidx agg len esz x y=>
  refine Jv (cL x λn h=>by grind [dE]) λv=>Jv (cL y λn h=>by grind [dE]) λu=>?_;grind [pH,bV]
 |extr x i=>exact Jv (cL x λn h=>h) λv=>pH _
 |call f args k=>exact Jv (GB args λn h=>h) λv=>Pw _ _ _ _ _
 |callv g args k=>
  refine Jv (cL g λn h=>by grind [dE]) λv=>?_;grind [bV,Jv,GB,dE,Pw]
 |len str x=>exact Jv (cL x λn h=>h) λv=>pH _
 |psuf esz x y=>
  refine Jv (cL x λn h=>by grind [dE]) λv=>Jv (cL y λn h=>by grind [dE]) λc=>?_;unfold tY;split;refine mF λv=>?_;split;split<;>first|exact bH _|exact bV
  exact bV;exact bV
 |shr esz zero x y=>
  refine Jv (cL x λn h=>by grind [dE]) λv=>Jv (cL y λn h=>by grind [dE]) λc=>?_;unfold KT;split;refine mF λv=>?_;split;split<;>first|exact bH _|exact bV
  exact bV;exact bV
 |mvn esz zero x=>
  refine Jv (cL x λn h=>by grind [dE]) λv=>?_;unfold OS;split;refine mF λv=>?_;split;split<;>first|exact bH _|exact bV
  exact bV;exact bV
 |clr esz zero x=>
  refine Jv (cL x λn h=>by grind [dE]) λv=>?_;unfold PH;split;refine mF λv=>?_;split;split<;>first|exact bH _|exact bV
  exact bV;exact bV
 |app esz bytes zero x y=>exact Jv (cL x λn h=>by grind [dE]) λv=>Jv (cL y λn h=>by grind [dE]) λ_=>JOP _ _ _ _
 |mm mx x y=>exact Jv (cL x λn h=>by grind [dE]) λv=>Jv (cL y λn h=>by grind [dE]) λ_=>pH _
 |mkfn f a b=>exact Jv (GB a λn h=>by grind [dE]) λv=>Jv (GB b λn h=>by grind [dE]) λ_=>bH _
 |newboxo=>exact bH _
 |buildo zero parts os=>
  refine Jv (mb parts λn h=>h) λv=>?_;grind [bH,bV]
 |storen esz x=>exact Jv (cL x λn h=>h) λv=>Jv (yy _ _ _) λ_=>bH _
 |callo f keep args k=>exact Jv (GB args λn h=>h) λv=>Jv (VH _ _) λ_=>JJ8 _ _ _ _ _
theorem xi{L:List Nat}: ∀(k new:Nat),Sl L (uJ new k)|0,_=>bH _|k+1,new=>mF λv=>by cases v<;>first|exact xi k _|exact bV
theorem Pa(F:Orc)(i:bW)(new:Nat):Sl (yH i) (cB F i new):=by
 have h:Sl (yH i) (opD F i.op new):=Jv (xi _ _) λ_=>JOK (JQw F i.op new) λx e=>by grind [yH]
 grind [cB,Mu,yH,bH,bV]
end Go.Am
end
section
namespace Go.Am
def W0(m:RM Eff):Prop:= ∀s e,m.run s=some e->e.ws=[]
def B0{α:Type}(m:RM α):Prop:= ∀s e,m.run s=some e-> ∀b,Loc.blk b∉m.reads s
theorem pI(x:Option AV):W0 (val x):=λs e h=>by cases x<;>grind [val,RM.run]
theorem sK(v:AV):W0 (.ret ⟨v,[]⟩):=λs e h=>by grind [RM.run]
theorem sP:W0 .fail:=λs e h=>by cases h
theorem dT{α:Type}{m:RM α}{f:α->RM Eff}(h: ∀a,W0 (f a)):W0 (m.bind f):=λs e g=>by
 rw[run_bind]at g;cases hm:m.run s with
 |none=>simp_all
 |some a=>rw[hm]at g;exact h a s e g
theorem Ls{b:Nat}{k:Blk->RM Eff}(h: ∀v,W0 (k v)):W0 (.blk b k):=λs e g=>by
 simp only[RM.run]at g;split at g;exact h _ s e g;cases g
theorem JOr{g:Nat}{k:AV->RM Eff}(h: ∀v,W0 (k v)):W0 (.slot g k):=λs e j=>by
 simp only[RM.run]at j;split at j;exact h _ s e j;cases j
theorem jI{α:Type}(a:α):B0 (.ret a):=λs e _ b h=>by grind [RM.reads]
theorem uW{α:Type}:B0 (.fail:RM α):=λs e h=>by cases h
theorem rC(x:Option AV):B0 (val x):=by cases x<;>first|exact uW|exact jI _
theorem dR{α β:Type}{m:RM α}{f:α->RM β}(hm:B0 m)(h: ∀a,B0 (f a)):B0 (m.bind f):=λs e g b hb=>by
 rw[run_bind]at g;rw[yP]at hb;cases hr:m.run s with
 |none=>simp_all
 |some a=>
  rw[hr]at g hb;rcases zQ9.1 hb with hb|hb;exact hm s a hr b hb;exact h a s e g b (by simpa using hb)
theorem fC(x:Opd):B0 (ev x):=by
 cases x with
 |t n=>exact λs e _ b h=>by grind [ev,RM.reads]
 |c v=>exact jI _
theorem JPi{α:Type}{g:Nat}{k:AV->RM α}(h: ∀v,B0 (k v)):B0 (.slot g k):=λs e j b hb=>by
 simp only[RM.run]at j;simp only[RM.reads,cJ]at hb;rcases hb with hb|hb;cases hb;cases hl:lk g s.env with
 |none=>simp_all
 |some v=>rw[hl]at j hb;exact h v s e j b hb
theorem gu: ∀xs:List Opd,B0 (evs xs)|[]=>jI _|x::xs=>dR (fC x) λ_=>dR (gu xs) λ_=>jI _
theorem u4(x:Option Opd):B0 (evo x):=by
 cases x with
 |none=>exact jI _
 |some x=>exact dR (fC x) λ_=>jI _
theorem zc: ∀(xs:List (Nat×Nat×Opd)),B0 (lI xs)
 |[]=>jI _
 |(a,b,x)::xs=>by
  unfold lI;refine dR (fC x) λv=>?_;split;exact dR (zc xs) λ_=>jI _;simp[uW]
theorem Pg(lo hi mx:Option AV)(c:PV)(hc: ∀l,c≠.s l):lJ .str (.p c) lo hi mx=none:=by
 cases mx with
 |some _=>rfl
 |none=>cases c<;>first|rfl|simp_all
theorem JQb(F:Orc)(op:AOp)(new:Nat)(h:AA op=false):W0 (opR F op new):=by
 cases op with
 |mkarr=>cases h
 |newboxo=>cases h
 |buildo=>cases h
 |storen=>cases h
 |callo=>cases h
 |newbox=>cases h
 |box=>cases h
 |lits=>cases h
 |store=>cases h
 |mkslice=>cases h
 |call=>cases h
 |callv=>cases h
 |app=>cases h
 |psuf=>cases h
 |shr=>cases h
 |clr=>cases h
 |mvn=>cases h
 |appn=>cases h
 |mv x=>exact dT λ_=>sK _
 |pick c a b=>
  refine dT λv=>?_;grind [dT,sK,sP]
 |build zero parts=>
  refine dT λv=>?_;grind [pI,sP]
 |load agg size x=>
  refine dT λv=>?_;unfold gZ;split
  all_goals grind [pI,sP,Ls]
 |nilchk x=>
  refine dT λv=>?_;grind [sK,sP]
 |bin op t x y=>exact dT λ_=>dT λ_=>pI _
 |un op x=>exact dT λ_=>pI _
 |conv k x=>
  refine dT λv=>?_;split;exact sK _;exact sK _;grind [dT,sK,sP];cases h;simp[sP]
 |slice k x lo hi mx=>
  cases k with
  |sl esz=>cases h
  |str=>
   refine dT λv=>dT λ_=>dT λ_=>dT λ_=>?_;split;rename_i b i n;intro s e g;exfalso;rw[run_bind]at g;cases h1:(fz (.slr b i n)).run s<;>grind [fz,RM.run,Pg]
   simp[pI]
 |faddr off x=>exact dT λ_=>pI _
 |field agg off size x=>exact dT λ_=>pI _
 |iaddr esz x y=>
  refine dT λv=>dT λu=>?_;unfold nK;grind [sP,sK,Ls]
 |aaddr len esz x y=>exact dT λ_=>dT λ_=>pI _
 |sidx x y=>
  refine dT λv=>dT λu=>?_;grind [sP,sK]
 |aidx agg len esz x y=>
  refine dT λv=>dT λu=>?_;grind [pI,sP]
 |extr x i=>exact dT λ_=>pI _
 |len str x=>exact dT λ_=>pI _
 |mm mx x y=>exact dT λ_=>dT λ_=>pI _
 |mkfn f a b=>exact dT λ_=>dT λ_=>sK _
theorem JQW(F:Orc)(op:AOp)(new:Nat)(h:PM op=false):B0 (opR F op new):=by
 cases op with
 |mkarr=>cases h
 |newboxo=>cases h
 |buildo=>cases h
 |storen=>cases h
 |callo=>cases h
 |newbox=>cases h
 |box=>cases h
 |lits=>cases h
 |store=>cases h
 |mkslice=>cases h
 |call=>cases h
 |callv=>cases h
 |app=>cases h
 |psuf=>cases h
 |shr=>cases h
 |clr=>cases h
 |mvn=>cases h
 |appn=>cases h
 |load=>cases h
 |iaddr=>cases h
 |mv x=>exact dR (fC x) λ_=>jI _
 |pick c a b=>
  refine dR (fC c) λv=>?_;grind [dR,fC,jI,uW]
 |build zero parts=>
  refine dR (zc parts) λv=>?_;grind [rC,uW]
 |nilchk x=>
  refine dR (fC x) λv=>?_;grind [jI,uW]
 |bin op t x y=>exact dR (fC x) λ_=>dR (fC y) λ_=>rC _
 |un op x=>exact dR (fC x) λ_=>rC _
 |conv k x=>
  refine dR (fC x) λv=>?_;split;exact jI _;exact jI _;cases h;cases h;simp[uW]
 |slice k x lo hi mx=>
  cases k with
  |sl esz=>cases h
  |str=>
   refine dR (fC x) λv=>dR (u4 lo) λ_=>dR (u4 hi) λ_=>dR (u4 mx) λ_=>?_;split;rename_i b i n;intro s e g;exfalso;rw[run_bind]at g;cases h1:(fz (.slr b i n)).run s<;>grind [fz,RM.run,Pg]
   simp[rC]
 |faddr off x=>exact dR (fC x) λ_=>rC _
 |field agg off size x=>exact dR (fC x) λ_=>rC _
 |aaddr len esz x y=>exact dR (fC x) λ_=>dR (fC y) λ_=>rC _
 |sidx x y=>
  refine dR (fC x) λv=>dR (fC y) λu=>?_;grind [uW,jI]
 |aidx agg len esz x y=>
  refine dR (fC x) λv=>dR (fC y) λu=>?_;grind [rC,uW]
 |extr x i=>exact dR (fC x) λ_=>rC _
 |len str x=>exact dR (fC x) λ_=>rC _
 |mm mx x y=>exact dR (fC x) λ_=>dR (fC y) λ_=>rC _
 |mkfn f a b=>exact dR (gu a) λ_=>dR (gu b) λ_=>jI _
theorem Ll{op:AOp}(h:PM op=false):AA op=false:=by
 cases op<;>first|rfl|cases h|skip
 rename_i k x;cases k<;>first|rfl|cases h
 rename_i k x lo hi mx;cases k<;>first|rfl|cases h
theorem JOZ{op:AOp}(h:AA op=false):nG op=0:=by
 cases op<;>first|rfl|cases h|skip
 rename_i k x;cases k<;>first|rfl|cases h
theorem ig(F:Orc)(i:bW)(new:Nat)(h:AA i.op=false):W0 (cB F i new):=by
 have h1:W0 (opD F i.op new):=dT λ_=>JQb F _ _ h;grind [cB,JOr,sK,sP]
theorem Pp(F:Orc)(i:bW)(new:Nat)(h:PM i.op=false):B0 (cB F i new):=by
 have h1:B0 (opD F i.op new):=by unfold opD;rw[JOZ (Ll h)];exact dR (jI _) λ_=>JQW F _ _ h
 grind [cB,JPi,jI,uW]
end Go.Am
end
section
namespace Go.Am
theorem bind_some{α β:Type}{m:RM α}{f:α->RM β}{s:St}{b:β}(h:(m.bind f).run s=some b): ∃a,m.run s=some a/\(f a).run s=some b:=by rw[run_bind]at h;cases hm:m.run s<;>simp_all
theorem hI{x:Option AV}{s:St}{e:Eff}(h:(val x).run s=some e): ∃v,x=some v/\e=⟨v,[]⟩:=by cases x<;>simp_all [val,RM.run]
theorem Pi{w C c v}(h:okP c v=true):J0b w C c v:=by
 unfold okP at h;split at h;rename_i x y;have:x=y:=by simpa using h
 subst this;exact .b _;simp at h;obtain⟨rfl,rfl⟩:=h;exact .i _ _;rename_i l e;have:l=e.data.toList:=by simpa using h
 subst this;exact .s _;exact .sl0 _ _ _;exact .np;exact .nf;cases h
theorem VL{w C}: ∀{cs:List PV} {vs:List Value},AM cs vs=true->cs.length=vs.length/\ ∀(i:Nat) x v,cs[i]?=some x->vs[i]?=some v->J0b w C x v
 |[],[],_=>⟨rfl,λi x v h=>by simp at h⟩
 |x::xs,v::vs,h=>by
  simp only[AM,aV]at h;obtain⟨h1,h2⟩:=VL (w:=w) (C:=C) h.2;grind [Pi]
 |[],_::_,h=>by grind [AM]
 |_::_,[],h=>by grind [AM]
theorem JNY{s:Sn}{c v}(h:okC c v=true):JH s c v:=by
 unfold okC at h;split at h;exact .p _ _ (Pi h);rename_i cs vs;obtain⟨h1,h2⟩:=VL (w:=s.w) (C:=s.g.C) h;exact .data _ _ (by simpa using h1) λi x v j e=>h2 i x v j (by simpa using e);rename_i f g a c;simp at h;obtain⟨⟨rfl,rfl⟩,rfl⟩:=h;exact .fn _ _ _ _ _ rfl rfl (λi x v h=>by simp at h) (λi x v h=>by simp at h);simp at h;subst h;exact .tup _ _ rfl (λi x v h=>by simp at h);cases h
def bO(s:Sn)(tmps:Array Value)(env:List (Nat×AV)):Prop:= ∀n x,lk n env=some x-> ∃v,tmps[n]?=some v/\JH s x v
theorem bO.mono{s0 s:Sn}(hi:Inv s0)(t:bD s0 s){tmps env}(h:bO s0 tmps env):bO s tmps env:=
 λn x e=>let⟨v,h1,h2⟩:=h n x e;⟨v,h1,h2.mono hi t⟩
section
variable {P:Program} {s:Sn} {a:Act} {env:List (Nat×AV)}
theorem bK(he:bO s a.tmps env){x:Opd}{y:Operand}{v:AV}(h:(ev x).run ⟨env,s.σ⟩=some v)(hc:bM x y=true):JH s v (a.eval y):=by
 cases x with
 |t n=>
  cases y<;>simp[bM]at hc;subst hc;simp only[ev,RM.run]at h;split at h
  rename_i u e;injection h with h;subst h;obtain⟨w,h1,h2⟩:=he _ _ e;simp_all [Act.eval];cases h
 |c z=>
  simp only[ev,RM.run]at h;injection h with h;subst h;cases y with
  |const u=>exact JNY (v:=u) (by grind [bM])
  |func g=>
   cases z<;>simp[bM]at hc;rename_i f first caps
   cases first<;>cases caps<;>simp[bM]at hc
   subst hc;exact .fn _ _ _ _ _ rfl rfl (λi x v h=>by simp at h) (λi x v h=>by simp at h)
  |tmp n=>grind [bM]
  |global n=>grind [bM]
theorem GD(he:bO s a.tmps env): ∀{xs:List Opd} {e:List Operand} {vs:List AV},(evs xs).run ⟨env,s.σ⟩=some vs->jF xs e=true->
  vs.length=e.length/\ ∀(i:Nat) x v,vs[i]?=some x->(e.map a.eval)[i]?=some v->JH s x v
 |[],[],vs,h,_=>by
  grind [evs,RM.run]
 |x::xs,y::e,vs,h,hc=>by
  simp only[jF,aV]at hc;simp only[evs]at h;obtain⟨u,h1,h⟩:=bind_some h;obtain⟨g,h2,h⟩:=bind_some h;simp only[RM.run]at h;injection h with h;subst h;obtain⟨l,r⟩:=GD he h2 hc.2;grind [bK]
 |[],_::_,_,_,hc=>by grind [jF]
 |_::_,[],_,_,hc=>by grind [jF]
def bN(P:Program)(o:Oper)(a:Act)(s:Sn)(e:Eff):Prop:= ∀(next:Act->World->Prop) (Q:Exit->Act->World->Prop),(∀v w' g',Inv ⟨upd e.ws s.σ,g',w'⟩->bD s ⟨upd e.ws s.σ,g',w'⟩->JH ⟨upd e.ws s.σ,g',w'⟩ e.val v->next (a.put o.dst v) w')->o.wp P a s.w next Q
theorem gE{o:Oper}{e:Eff}{v:Value}{w':World}{g':Gh}(hr:(execOp a.eval o).run P s.w=.ok (.value v) w')
  (hi:Inv ⟨upd e.ws s.σ,g',w'⟩) (t:bD s ⟨upd e.ws s.σ,g',w'⟩) (hv:JH ⟨upd e.ws s.σ,g',w'⟩ e.val v):bN P o a s e:=by
 intro next Q h;grind [Oper.wp,Oper.upon]
theorem JP{o:Oper}{x:AV}{v:Value}(hi:Inv s)(hr:(execOp a.eval o).run P s.w=.ok (.value v) s.w)(hv:JH s x v):bN P o a s ⟨x,[]⟩:=
 gE (e:=⟨x,[]⟩) (g':=s.g) hr hi (.refl s) hv
theorem Bs{t:TypeId}{i:TypeInfo}(h:P.info? t=some i)(w:World):(typeInfo t).run P w=.ok i w:=by simp[typeInfo,h]
theorem iI{t:TypeId}{n:Nat}(h:szT P t=some n)(w:World):(sizeOf t).run P w=.ok n w:=by unfold szT at h;cases hi:P.info? t<;>simp_all [sizeOf,Bs]
theorem GI{t:TypeId}{b:Bool}(h:agT P t=some b)(w:World):(isAgg t).run P w=.ok b w:=by
 unfold agT at h;cases hu:P.underlying t with
 |none=>simp_all
 |some d=>rw[hu]at h;simp at h;simp only[isAgg,AB,run_underlying hu,tW];subst h;cases d<;>rfl
theorem iJ{t e:TypeId}(h:elT P t=some e):P.underlying t=some (.slice e):=by
 grind [elT]
theorem yJ{t:TypeId}(h:kZ P t=true):P.underlying t=some .string:=by
 grind [kZ]
theorem xp{t:TypeId}(h:dk P t=true):P.underlying t=some (.int .u8):=by
 grind [dk]
theorem JDb{t:TypeId}(h:gz P t=true):P.underlying t=some .bool:=by
 grind [gz]
theorem JJk{t:TypeId}(h:ta P t=true): ∃k,P.underlying t=some (.int k):=by
 grind [ta]
theorem JIp{t:TypeId}{k:IntKind}(h:gm P k t=true):P.underlying t=some (.int k):=by
 grind [gm]
theorem P8{t e:TypeId}{n:Nat}(h:arT P t=some (n,e)):P.underlying t=some (.array n e):=by
 grind [arT]
theorem wx{t:TypeId}{fs:Array Field}(h:flT P t=some fs):P.underlying t=some (.struct fs):=by
 grind [flT]
theorem jJ{x k n}(h:JH s (.p (.i k n)) x):x=.int k n:=by cases h with|p _ _ h=>cases h;rfl
theorem TT{x n}(h:JH s (.p (.b n)) x):x=.bool n:=by cases h with|p _ _ h=>cases h;rfl
theorem uR{x l}(h:JH s (.p (.s l)) x):x=.string ⟨l.toArray⟩:=by cases h with|p _ _ h=>cases h;rfl
theorem JNO{x}(h:JH s (.p .np) x):x=.pointer none:=by cases h with|p _ _ h=>cases h;rfl
theorem JPs{x}(h:JH s (.p .nf) x):x=.nilFunc:=by cases h with|p _ _ h=>cases h;rfl
theorem uY(k n):JH s (.p (.i k n)) (.int k n):=.p _ _ (.i _ _)
theorem rF(n):JH s (.p (.b n)) (.bool n):=.p _ _ (.b _)
theorem Pn(l):JH s (.p (.s l)) (.string ⟨l.toArray⟩):=.p _ _ (.s _)
theorem vA(l:List UInt8):ByteArray.size ⟨l.toArray⟩=l.length:=by simp[ByteArray.size]
theorem JJJ(l m:List UInt8):(⟨l.toArray⟩:ByteArray)++⟨m.toArray⟩=⟨(l++m).toArray⟩:=by apply ByteArray.ext;simp_all
theorem JDa{op:BinOp}{k:IntKind}{x y:Int}{t:TypeId}{r:PV}(n:op≠.shl)(j:op≠.shr)(h:zV op k x y=some r)(w:World):
  ∃v,(binOp op t (.int k x) (.int k y)).run P w=.ok v w/\J0b s.w s.g.C r v:=by
 cases op<;>simp only[zV]at h
 case add=>injection h with h;subst h;exact⟨_,by simp[binOp,Op.intArith],.i _ _⟩
 case sub=>injection h with h;subst h;exact⟨_,by simp[binOp,Op.intArith],.i _ _⟩
 case mul=>injection h with h;subst h;exact⟨_,by simp[binOp,Op.intArith],.i _ _⟩
 case quo=>split at h
           cases h;rename_i e;injection h with h;subst h;exact⟨_,by simp[binOp,Op.intDiv,e],.i _ _⟩
 case rem=>split at h
           cases h;rename_i e;injection h with h;subst h;exact⟨_,by simp[binOp,Op.intDiv,e],.i _ _⟩
 case and=>injection h with h;subst h;exact⟨_,by simp[binOp,Op.intBits],.i _ _⟩
 case or=>injection h with h;subst h;exact⟨_,by simp[binOp,Op.intBits],.i _ _⟩
 case xor=>injection h with h;subst h;exact⟨_,by simp[binOp,Op.intBits],.i _ _⟩
 case eql=>injection h with h;subst h;exact⟨_,by simp[binOp,Op.intCmp],.b _⟩
 case neq=>injection h with h;subst h;exact⟨_,by simp[binOp,Op.intCmp],.b _⟩
 case lss=>injection h with h;subst h;exact⟨_,by simp[binOp,Op.intCmp],.b _⟩
 case leq=>injection h with h;subst h;exact⟨_,by simp[binOp,Op.intCmp],.b _⟩
 case gtr=>injection h with h;subst h;exact⟨_,by simp[binOp,Op.intCmp],.b _⟩
 case geq=>injection h with h;subst h;exact⟨_,by simp[binOp,Op.intCmp],.b _⟩
 all_goals simp_all
theorem Da{op:BinOp}{k j:IntKind}{x y:Int}{t:TypeId}{r:PV}(hs:op=.shl\/op=.shr)(h:MP op k x y=some r)(w:World):
  ∃v,(binOp op t (.int k x) (.int j y)).run P w=.ok v w/\J0b s.w s.g.C r v:=by
 unfold MP at h;split at h;cases h;rename_i e;rcases hs with rfl|rfl;injection h with h;subst h;exact⟨_,by simp[binOp,Op.shift,e],.i _ _⟩;injection h with h;subst h;exact⟨_,by simp[binOp,Op.shift,e],.i _ _⟩
theorem JE3{op:BinOp}{x y:List UInt8}{t:TypeId}{r:PV}(h:zP op x y=some r)(w:World):
  ∃v,(binOp op t (.string ⟨x.toArray⟩) (.string ⟨y.toArray⟩)).run P w=.ok v w/\J0b s.w s.g.C r v:=by
 cases op<;>simp only[zP]at h
 case add=>
  split at h;rename_i hl;injection h with h;subst h;refine⟨.string ⟨(x++y).toArray⟩,?_,.s _⟩;have h1: ¬(((ByteArray.size ⟨x.toArray⟩+ByteArray.size ⟨y.toArray⟩:Nat):Int)>IntKind.i64.max):=by rw[vA,vA];show¬(_>(9223372036854775807:Int));omega
  simp_all [binOp,Op.stringOp,JJJ];cases h
 case eql=>injection h with h;subst h;exact⟨.bool (x==y),by simp[binOp,Op.stringOp],.b _⟩
 case neq=>injection h with h;subst h;exact⟨.bool (!(x==y)),by simp[binOp,Op.stringOp],.b _⟩
 case lss=>injection h with h;subst h;exact⟨.bool (Op.bytesLess x y),by simp[binOp,Op.stringOp],.b _⟩
 case leq=>injection h with h;subst h;exact⟨.bool (Op.bytesLess x y||x==y),by simp[binOp,Op.stringOp],.b _⟩
 case gtr=>injection h with h;subst h;exact⟨.bool (!(Op.bytesLess x y||x==y)),by simp[binOp,Op.stringOp],.b _⟩
 case geq=>injection h with h;subst h;exact⟨.bool (!Op.bytesLess x y),by simp[binOp,Op.stringOp],.b _⟩
 all_goals cases h
end
end Go.Am
end
section
namespace Go.Am
section
variable {P:Program} {F:Orc} {s:Sn} {a:Act} {env:List (Nat×AV)} {o:Oper} {new:Nat} {e:Eff}
theorem JSs(hi:Inv s)(he:bO s a.tmps env){x}(h:(opR F (.mv x) new).run ⟨env,s.σ⟩=some e)(hc:JX P (.mv x) o.op=true):bN P o a s e:=by
 simp only[opR]at h;obtain⟨v,h1,h⟩:=bind_some h;simp only[RM.run]at h;injection h with h;subst h;unfold JX at hc;simp only at hc;split at hc;rename_i y g;exact JP hi (by simp_all [execOp]) (bK he h1 hc);rename_i y g;exact JP hi (by simp_all [execOp]) (bK he h1 hc);cases hc
theorem JO3(hi:Inv s)(he:bO s a.tmps env){c x y}(h:(opR F (.pick c x y) new).run ⟨env,s.σ⟩=some e)(hc:JX P (.pick c x y) o.op=true):bN P o a s e:=by
 simp only[opR]at h;obtain⟨v,h1,h⟩:=bind_some h;unfold JX at hc;simp only at hc;split at hc;rename_i c' k j n;simp only[aV]at hc;split at h;rename_i b;have hb:=TT (bK he h1 hc.1.1);split at h;rename_i g;obtain⟨u,h2,h⟩:=bind_some h;simp only[RM.run]at h;injection h with h;subst h;exact JP hi (v:=a.eval k) (by simp_all [execOp,asBool]) (bK he h2 hc.1.2);rename_i g;obtain⟨u,h2,h⟩:=bind_some h;simp only[RM.run]at h;injection h with h;subst h;have g:b=false:=by simpa using g
 exact JP hi (v:=a.eval j) (by simp_all [execOp,asBool]) (bK he h2 hc.2);grind [RM.run];cases hc
theorem JIL(hi:Inv s)(he:bO s a.tmps env){x}(h:(opR F (.nilchk x) new).run ⟨env,s.σ⟩=some e)(hc:JX P (.nilchk x) o.op=true):bN P o a s e:=by
 simp only[opR]at h;obtain⟨v,h1,h⟩:=bind_some h;unfold JX at hc;simp only at hc;split at hc;rename_i y n;have g:=bK he h1 hc;split at h<;>(simp only[RM.run]at h;try cases h)
 refine JP hi (v:=a.eval y) ?_ g;generalize j:a.eval y=u at g;cases g;simp_all [execOp];refine JP hi (v:=a.eval y) ?_ g;generalize j:a.eval y=u at g;cases g;simp_all [execOp];refine JP hi (v:=a.eval y) ?_ g;generalize j:a.eval y=u at g;cases g with
 |ep _ _ _ _ _ _ _ _ k=>obtain⟨r,q,rfl⟩:=k;simp_all [execOp]
 refine JP hi (v:=a.eval y) ?_ g;generalize j:a.eval y=u at g;cases g;simp_all [execOp];cases hc
theorem ON{op:BinOp}{t:TypeId}{x y:Operand}{u v:Value}(h:(∀c,u≠.agg c)/\u≠.nilIface)(w:World):(eqGuard op t x y u v).run P w=.ok () w:=by simp_all [eqGuard]
theorem JBD(hi:Inv s)(he:bO s a.tmps env){op x y}(h:(opR F (.bin op .plain x y) new).run ⟨env,s.σ⟩=some e)(hc:JX P (.bin op .plain x y) o.op=true):bN P o a s e:=by
 simp only[opR]at h;obtain⟨u,h1,h⟩:=bind_some h;obtain⟨v,h2,h⟩:=bind_some h;obtain⟨r,g,rfl⟩:=hI h;unfold JX at hc;simp only at hc;split at hc;rename_i L t B E ty K;simp only[aV,beq_iff_eq]at hc;obtain⟨⟨rfl,J⟩,I⟩:=hc;have C:=bK he h1 J;have D:=bK he h2 I;have j: ∀{z:Value},(∀c,a.eval B≠.agg c)/\a.eval B≠.nilIface->(binOp op t (a.eval B) (a.eval E)).run P s.w=.ok z s.w->(execOp a.eval o).run P s.w=.ok (.value z) s.w:=by simp_all [execOp,ON]
 simp only[oW]at g;split at g;rename_i M p N q;rw[jJ C,jJ D]at j;split at g;obtain⟨z,k,rfl⟩:=iQ.1 g;obtain⟨v,A,n⟩:=Da (s:=s) (P:=P) (t:=t) (.inl rfl) k s.w;exact JP hi (j (by simp) A) (.p _ _ n);obtain⟨z,k,rfl⟩:=iQ.1 g;obtain⟨v,A,n⟩:=Da (s:=s) (P:=P) (t:=t) (.inr rfl) k s.w;exact JP hi (j (by simp) A) (.p _ _ n);rename_i G H;split at g;rename_i hk;subst hk;obtain⟨z,k,rfl⟩:=iQ.1 g;obtain⟨v,A,n⟩:=JDa (s:=s) (P:=P) (t:=t) (λe=>G e) (λe=>H e) k s.w;exact JP hi (j (by simp) A) (.p _ _ n);cases g;rw[uR C,uR D]at j;obtain⟨z,k,rfl⟩:=iQ.1 g;obtain⟨v,A,n⟩:=JE3 (s:=s) (P:=P) (t:=t) k s.w;exact JP hi (j (by simp) A) (.p _ _ n);cases g;cases hc
theorem JDH(hi:Inv s)(he:bO s a.tmps env){op x y}(h:(opR F (.bin op .bool x y) new).run ⟨env,s.σ⟩=some e)(hc:JX P (.bin op .bool x y) o.op=true):bN P o a s e:=by
 simp only[opR]at h;obtain⟨u,h1,k⟩:=bind_some h;obtain⟨v,h2,j⟩:=bind_some k;obtain⟨r,g,rfl⟩:=hI j;clear h k j;unfold JX at hc;simp only at hc;split at hc
 ·rename_i C t G E ty B;simp only[aV,beq_iff_eq]at hc;obtain⟨⟨rfl,A⟩,z,ht⟩:=hc;have n:=bK he h1 A;have w:=bK he h2 z;have hb:=JDb ht;simp only[oW]at g;split at g
  ·rename_i _ _ p q;have D:=TT n;have H:=TT w;cases op<;>simp only[jZ]at g<;>first|(injection g with g;subst g)|cases g
   all_goals simp_all [JP,execOp,eqGuard,binOp,run_equal_bool,rF]
  cases g
 cases hc
theorem WP{op:BinOp}{t:TypeId}{u v:Value}{b:Bool}(ho:op=.eql\/op=.neq){w:World}(h:(Op.equal t u v).run P w=.ok b w)
  (hu:(∃x n c,u=.slice x n c)\/(∃p,u=.pointer p/\v=.pointer none)\/u=.nilFunc\/(∃f y c,u=.func f y c)):
  (binOp op t u v).run P w=.ok (.bool (if op=.eql then b else !b)) w:=by
 rcases ho with rfl|rfl;have:binOp .eql t u v=(do pure (.bool (<-Op.equal t u v))):=(by grind [binOp]);simp_all;have:binOp .neq t u v=(do pure (.bool (!(<-Op.equal t u v)))):=(by grind [binOp]);simp_all
theorem vE{op:BinOp}{b:Bool}{r:AV}(h:jZ op (some b)=some r):(op=.eql\/op=.neq)/\r=.p (.b (if op=.eql then b else !b)):=by
 cases op<;>simp[jZ]at h
 all_goals simp_all
theorem zg{op:BinOp}{r:AV}(h:PC op=some r):(op=.eql\/op=.neq)/\r=.unk:=by
 cases op<;>simp[PC]at h
 all_goals simp_all
theorem JEq(hi:Inv s)(he:bO s a.tmps env){op x y}(h:(opR F (.bin op .nils x y) new).run ⟨env,s.σ⟩=some e)(hc:JX P (.bin op .nils x y) o.op=true):bN P o a s e:=by
 simp only[opR]at h;obtain⟨u,h1,E⟩:=bind_some h;obtain⟨v,h2,B⟩:=bind_some E;obtain⟨r,g,rfl⟩:=hI B;clear h E B h2;unfold JX at hc;simp only at hc;split at hc;rename_i M t A G ty L;simp only[aV,beq_iff_eq]at hc;obtain⟨⟨rfl,K⟩,ht⟩:=hc;have D:=bK he h1 K;clear h1;have I:G=.const (.slice none 0 0)/\ ∃el,P.underlying t=some (.slice el):=(by unfold Im at ht;split at ht;obtain⟨el,N⟩:=qs.1 ht;simp_all [iJ];cases ht);obtain⟨rfl,el,J⟩:=I;have go: ∀(z:Option Addr) (n c:Nat),a.eval A=.slice z n c->(op=.eql\/op=.neq)->
   (execOp a.eval o).run P s.w=.ok (.value (.bool (if op=.eql then z.isNone else !z.isNone))) s.w:=by
  intro z n c k j;have h1:=WP (P:=P) (t:=t) j (run_equal_slice_nil s.w t el z n c J) (.inl ⟨z,n,c,rfl⟩);simp_all [execOp,ON,Act.eval]
 simp only[oW]at g;split at g;rename_i esz rows;cases D with
 |p _ _ q=>
  split at g;obtain⟨j,rfl⟩:=zg g;generalize k:a.eval A=z at q;cases q with
  |sl0 _ C cap=>exact JP hi (go _ _ _ k j) (.unk _)
  |sl _ _ r Q cap vals=>exact JP hi (go _ _ _ k j) (.unk _)
  obtain⟨j,rfl⟩:=vE g;generalize k:a.eval A=z at q;cases q<;>simp_all [JP,rF]
 rename_i b i n;generalize k:a.eval A=z at D;cases D with
 |slr _ _ _ _ wm esz rows H=>
  obtain⟨C,cap,rfl,R⟩:=H;split at g;obtain⟨j,rfl⟩:=zg g;exact JP hi (go _ _ _ k j) (.unk _);rename_i O;obtain⟨j,rfl⟩:=vE g;have:C.isNone=false:=by cases C<;>simp_all
  grind [JP,rF]
 cases g;cases hc
theorem JE7(hi:Inv s)(he:bO s a.tmps env){op x y}(h:(opR F (.bin op .nilp x y) new).run ⟨env,s.σ⟩=some e)(hc:JX P (.bin op .nilp x y) o.op=true):bN P o a s e:=by
 simp only[opR]at h;obtain⟨u,h1,q⟩:=bind_some h;obtain⟨v,h2,n⟩:=bind_some q;obtain⟨r,g,rfl⟩:=hI n;clear h q n h2;unfold JX at hc;simp only at hc;split at hc;rename_i H t A B ty G;simp only[aV,beq_iff_eq]at hc;obtain⟨⟨rfl,E⟩,ht⟩:=hc;have j:=bK he h1 E;clear h1;have D:B=.const (.pointer none)/\ ∃el,P.underlying t=some (.pointer el):=(by grind [K1]);obtain⟨rfl,el,I⟩:=D;have go: ∀(z:Option Addr),a.eval A=.pointer z->(op=.eql\/op=.neq)->
   (execOp a.eval o).run P s.w=.ok (.value (.bool (if op=.eql then z.isNone else !z.isNone))) s.w:=by
  intro z C k;have:P.pointee t=el:=by grind [Program.pointee]
  simp_all [WP,run_equal_pointer_nil,execOp,ON,Act.eval]
 simp only[oW]at g;generalize C:a.eval A=z at j;split at g;obtain⟨k,rfl⟩:=vE g;grind [JNO,JP,rF];obtain⟨k,rfl⟩:=vE g;cases j;grind [JP,rF];obtain⟨k,rfl⟩:=vE g;cases j;grind [JP,rF];obtain⟨k,rfl⟩:=vE g;cases j<;>grind [JP,rF]
 cases g;cases hc
theorem JEn(hi:Inv s)(he:bO s a.tmps env){op x y}(h:(opR F (.bin op .nilf x y) new).run ⟨env,s.σ⟩=some e)(hc:JX P (.bin op .nilf x y) o.op=true):bN P o a s e:=by
 simp only[opR]at h;obtain⟨u,h1,q⟩:=bind_some h;obtain⟨v,h2,k⟩:=bind_some q;obtain⟨r,g,rfl⟩:=hI k;clear h q k h2;unfold JX at hc;simp only at hc;split at hc;rename_i I t D C ty H;simp only[aV,beq_iff_eq]at hc;obtain⟨⟨rfl,G⟩,ht⟩:=hc;have n:=bK he h1 G;clear h1;have E:C=.const .nilFunc/\ ∃p r v,P.underlying t=some (.func p r v):=(by grind [Hd]);obtain⟨rfl,p,J,vv,B⟩:=E;simp only[oW]at g;generalize K:a.eval D=z at n;split at g;obtain⟨A,rfl⟩:=vE g;have:=JPs n;subst this;have j:(Op.equal t .nilFunc .nilFunc).run P s.w=.ok true s.w:=by
  have: ∀d,(Op.equalIn (d+1) t .nilFunc .nilFunc).run P s.w=.ok true s.w:=λd=>by simp[Op.equalIn,run_underlying B]
  exact this 9999
 simp_all [WP,JP,rF,execOp,ON,Act.eval];obtain⟨A,rfl⟩:=vE g;cases n;rename_i f _ _ fs cs _ _ _ _;have j:(Op.equal t (.func (.func f) fs cs) .nilFunc).run P s.w=.ok false s.w:=by
  have: ∀d,(Op.equalIn (d+1) t (.func (.func f) fs cs) .nilFunc).run P s.w=.ok false s.w:=λd=>by simp[Op.equalIn,run_underlying B]
  exact this 9999
 have h1:=WP (P:=P) (t:=t) A j (.inr (.inr (.inr ⟨_,_,_,rfl⟩)));simp_all [JP,rF,execOp,ON,Act.eval];cases g;cases hc
end
end Go.Am
end
section
namespace Go.Am
theorem HT: ∀{vs:List Value} {w:World} {r o:Nat} {c:Array Value} {e:TypeId} {fz:Nat×Nat},w.heap[r]?=some (.cells c e fz)->o+vs.length<=c.size->
  Put r o vs w (w.setCells r o vs)
 |[],w,r,o,c,e,fz,h,hl=>⟨⟨c,e,fz,c,h,h,rfl,hl,λj v q=>by simp at q,λ_ _=>rfl⟩,λ_ _=>rfl,rfl,rfl,rfl⟩
 |v::vs,w,r,o,c,e,fz,h,hl=>by
  have I:=CI h;have n:o+1+vs.length<=c.size:=by grind
  have h1:(w.setCell ⟨r,o,none⟩ v).heap[r]?=some (.cells (c.setIfInBounds o v) e fz):=(by grind [World.setCell]);obtain⟨⟨G,J,C,c',g,y,x,E,D,F⟩,H,K,A,z⟩:=HT (vs:=vs) (o:=o+1) h1 (by simpa using n);rw[h1]at g;injection g with g;injection g with a1 a2 a3;subst a1 a2 a3;refine⟨⟨c,e,fz,c',h,y,by simpa using x,hl,λj u q=>?_,λk hk=>?_⟩,λr' B=>?_,?_,A,z⟩;grind;grind;show((w.setCell ⟨r,o,none⟩ v).setCells r (o+1) vs).heap[r']?=_;grind [World.setCell];show((w.setCell ⟨r,o,none⟩ v).setCells r (o+1) vs).heap.size=_;simp_all
theorem J0b.one{w C x v}(h:J0b w C x v):v.oneCell'=true:=by cases h<;>rfl
theorem J0b.cells1{w C x v}(h:J0b w C x v):v.cells= #[v]:=by cases h<;>rfl
section
variable {P:Program} {F:Orc} {s:Sn} {a:Act} {env:List (Nat×AV)} {o:Oper} {new:Nat} {e:Eff}
theorem JSk(hi:Inv s)(he:bO s a.tmps env){op x}(h:(opR F (.un op x) new).run ⟨env,s.σ⟩=some e)(hc:JX P (.un op x) o.op=true):bN P o a s e:=by
 simp only[opR]at h;obtain⟨u,h1,q⟩:=bind_some h;obtain⟨r,g,rfl⟩:=hI q;clear h q;unfold JX at hc;simp only at hc;split at hc;rename_i B t y A;simp only[aV,beq_iff_eq]at hc;obtain⟨rfl,w⟩:=hc;have j:=bK he h1 w;clear h1;generalize C:a.eval y=z at j;unfold unP at g;split at g<;>first|(injection g with g;subst g)|cases g
 rename_i k n;have:=jJ j;simp_all [JP,execOp,Op.unary,Op.intArith,uY];rename_i k n;have:=jJ j;simp_all [JP,execOp,Op.unary,Op.intBits,uY];rename_i b;have:=TT j;simp_all [JP,execOp,Op.unary,rF];cases j with
 |unk b=>exact JP hi (v:=.bool (!b)) (by simp_all [execOp,Op.unary]) (.unk _)
 cases hc
theorem JLv(hi:Inv s)(he:bO s a.tmps env){off x}(h:(opR F (.faddr off x) new).run ⟨env,s.σ⟩=some e)(hc:JX P (.faddr off x) o.op=true):bN P o a s e:=by
 simp only[opR]at h;obtain⟨u,h1,C⟩:=bind_some h;obtain⟨r,j,rfl⟩:=hI C;clear h C;unfold JX at hc;simp only at hc;split at hc;rename_i t y f E;simp only[aV]at hc;obtain⟨D,ht⟩:=hc;have q:=bK he h1 D;clear h1;have hf: ∃fs k n,P.underlying t=some (.struct fs)/\fs[f]?=some k/\k.offset=off/\szT P k.type=some n/\n≠0:=(by grind [wx]);obtain⟨fs,k,n,K,G,rfl,L,H⟩:=hf;have go: ∀(r g:Nat),a.eval y=.pointer (some ⟨r,g,none⟩)->(execOp a.eval o).run P s.w=.ok (.value (.pointer (some ⟨r,g+k.offset,none⟩))) s.w:=by simp_all [Addr.add,execOp,Instr.fieldAt,run_underlying,Instr.sureAddr,fieldPlace,iI]
 generalize B:a.eval y=z at q;unfold MC at j;split at j<;>first|(injection j with j;subst j)|cases j
 cases q with
 |ptr _ _ r g m hb=>exact JP hi (go _ _ B) (by rw[Nat.add_assoc];exact .ptr _ _ r g m hb)
 cases q with
 |cp cs _ r g vals A v=>exact JP hi (go _ _ B) (by rw[Nat.add_assoc];exact .cp _ _ r g vals A v)
 cases q with
 |ep _ _ _ _ _ wm esz rows p0 A v I=>
  obtain⟨r,g,rfl⟩:=p0;refine JP hi (go _ _ B) (.ep _ _ _ _ _ wm esz rows ⟨_,_,rfl⟩ A v λM J=>?_);grind
 cases hc
theorem JP0(hi:Inv s)(he:bO s a.tmps env){x i}(h:(opR F (.extr x i) new).run ⟨env,s.σ⟩=some e)(hc:JX P (.extr x i) o.op=true):bN P o a s e:=by
 simp only[opR]at h;obtain⟨u,h1,n⟩:=bind_some h;obtain⟨r,g,rfl⟩:=hI n;clear h n;unfold JX at hc;simp only at hc;split at hc;rename_i y j k;simp only[aV,beq_iff_eq]at hc;obtain⟨C,rfl⟩:=hc;have q:=bK he h1 C;generalize B:a.eval y=z at q;unfold SW at g;split at g;cases q with
 |tup cs vs E A=>
  have D:=JC g;have w:vs[i]?=some vs[i]:=by simp
  exact JP hi (v:=vs[i]) (by simp[execOp,k,B,Instr.extract,w]) (A i r _ g w)
 cases g;cases hc
theorem JOa(hi:Inv s)(he:bO s a.tmps env){f first caps}(h:(opR F (.mkfn f first caps) new).run ⟨env,s.σ⟩=some e)(hc:JX P (.mkfn f first caps) o.op=true):bN P o a s e:=by
 simp only[opR]at h;obtain⟨u,h1,w⟩:=bind_some h;obtain⟨v,h2,j⟩:=bind_some w;simp only[RM.run]at j;injection j with j;subst j;clear h w;unfold JX at hc;simp only at hc;split at hc
 ·rename_i g k n D;simp only[aV,beq_iff_eq]at hc;obtain⟨⟨rfl,hf⟩,r⟩:=hc;obtain⟨A,y⟩:=GD he h1 hf;obtain⟨B,z⟩:=GD he h2 r;refine JP hi (v:=.func (.func f) (k.map a.eval) (n.map a.eval)) (by simp_all [execOp,Instr.makeFunc]) (.fn _ _ _ _ _ (by simpa using A) (by simpa using B) (λi x v q C=>y i x v q ?_) (λi x v q C=>z i x v q ?_))
  all_goals simp_all
 cases hc
theorem JSw(hi:Inv s)(he:bO s a.tmps env){mx x y}(h:(opR F (.mm mx x y) new).run ⟨env,s.σ⟩=some e)(hc:JX P (.mm mx x y) o.op=true):bN P o a s e:=by
 simp only[opR]at h;obtain⟨u,h1,w⟩:=bind_some h;obtain⟨v,h2,n⟩:=bind_some w;obtain⟨r,g,rfl⟩:=hI n;clear h w n;unfold JX at hc;simp only at hc;split at hc;rename_i c E;split at hc;rename_i b B;simp only[aV,beq_iff_eq]at hc;obtain⟨hb,hc⟩:=hc;split at hc;rename_i A z j;simp only[aV]at hc;have C:=bK he h1 hc.1;have D:=bK he h2 hc.2;have J:c.args.map a.eval= #[a.eval A,a.eval z]:=by apply OZ;simp[j]
 unfold mmP at g;split at g;rename_i k p H q;injection g with g;subst g;have G:=jJ C;have I:=jJ D;cases mx;simp_all [JP,uY,execOp,resolve,invoke,builtin,Builtin.min_,Builtin.min2];simp_all [JP,uY,execOp,resolve,invoke,builtin,Builtin.max_,Builtin.max2];cases g;cases hc;cases hc;cases hc
theorem JPQ(hi:Inv s)(he:bO s a.tmps env){str x}(h:(opR F (.len str x) new).run ⟨env,s.σ⟩=some e)(hc:JX P (.len str x) o.op=true):bN P o a s e:=by
 simp only[opR]at h;obtain⟨u,h1,D⟩:=bind_some h;obtain⟨r,g,rfl⟩:=hI D;clear h D;unfold JX at hc;simp only at hc;split at hc;rename_i c v;split at hc;rename_i k;split at hc;rename_i y t q B;simp only[aV]at hc;obtain⟨K,ht⟩:=hc;have C:=bK he h1 K;have I:c.args.map a.eval= #[a.eval y]:=by apply OZ;simp[q]
 have A:c.argTypes[0]?=some t:=by rw[<-JTj,B];rfl
 generalize H:a.eval y=z at C;have hs: ∀l:List UInt8,z=.string ⟨l.toArray⟩->kZ P t=true->(execOp a.eval o).run P s.w=.ok (.value (.int .i64 l.length)) s.w:=by intro l hl j;have:=yJ j;simp[execOp,v,resolve,k,I,H,hl,invoke,builtin,Builtin.len_,A,run_underlying this,goInt,vA]
 have L: ∀G n cp,z=.slice G n cp->(elT P t).isSome=true->(execOp a.eval o).run P s.w=.ok (.value (.int .i64 n)) s.w:=by intro G n cp hl j;obtain⟨el,E⟩:=qs.1 j;have:=iJ E;simp[execOp,v,resolve,k,I,H,hl,invoke,builtin,Builtin.len_,A,run_underlying this,goInt]
 unfold KU at g;split at g<;>first|(injection g with g;subst g)|cases g
 grind [JP,uR,uY];cases C with
 |p _ _ J=>cases J<;>simp_all [JP,uY]
 cases C<;>grind [JP,uY]
 cases hc;cases hc;cases hc
end
end Go.Am
end
section
namespace Go.Am
section
variable {P:Program} {F:Orc} {s:Sn} {a:Act} {env:List (Nat×AV)} {o:Oper} {new:Nat} {e:Eff}
theorem kX.of_p{s:Sn}{esz rows v}(h:JH s (.p (.sl esz rows)) v):kX s esz rows v:=by
 grind [of_sl,cases Go.Am.JH]
theorem zm(hi:Inv s){esz:Nat}{x:AV}{rows:List (List PV)}{v:Value}(h:(gB esz x).run ⟨env,s.σ⟩=some rows)(hr:JH s x v):
  (∃l,x=.p (.s l)/\esz=1/\rows=l.map nQ/\v=.string ⟨l.toArray⟩)\/kX s esz rows v:=by
 unfold gB at h;split at h;split at h;rename_i e;subst e;simp only[RM.run]at h;injection h with h;subst h;exact .inr (.of_p hr);cases h;grind [RM.run,uR];simp only[RM.run]at h;split at h;rename_i blk hb;split at h;split at h;rename_i hc;obtain⟨rfl,hc⟩:=hc;simp only[RM.run]at h;injection h with h;subst h;exact .inr (.of_slr hi hr hb hc);cases h;cases h;cases h;cases h
theorem jq{α:Type}{esz:Nat}: ∀{rows:List (List α)},(∀row∈rows,row.length=esz)-> ∀{k:Nat} {x:α},rows.flatten[k]?=some x->
  ∃i j row,k=i*esz+j/\rows[i]?=some row/\row[j]?=some x/\j<esz
 |[],_,k,x,h=>by simp at h
 |r::rows,hl,k,x,h=>by
  simp only[tS]at h;have w:r.length=esz:=hl r (by simp);rcases List.getElem?_append (l₁:=r) (l₂:=rows.flatten) (i:=k)▸h with e;split at e;exact⟨0,k,r,by simp,rfl,e,by omega⟩;obtain⟨i,j,row,v,q,g,n⟩:=jq (λrow o=>hl row (by simp[o])) e;exact⟨i+1,j,row,by grind,by simpa using q,g,n⟩
theorem VK{α:Type}{esz:Nat}: ∀{rows:List (List α)},(∀row∈rows,row.length=esz)->rows.flatten.length=rows.length*esz
 |[],_=>by simp
 |r::rows,hl=>by
  have:=VK (rows:=rows) (λrow e=>hl row (by simp[e]));grind
theorem kX.cells{s:Sn}{esz rows v}(h:kX s esz rows v):
  ∃(a:Option Addr) (cap:Nat) (vs:List Value),v=.slice a rows.length cap/\rows.length<=cap/\vs.length=rows.length*esz/\
   (∀(k:Nat) x,rows.flatten[k]?=some x-> ∃u,vs[k]?=some u/\J0b s.w s.g.C x u)/\
   (rows=[]\/ ∃r o,a=some ⟨r,o,none⟩/\ ∀(k:Nat) u,vs[k]?=some u->cellAt s.w r (o+k)=some u)/\(∀row∈rows,row.length=esz):=by
 obtain⟨a,cap,h1,h2,n,y⟩:=h;rcases y with rfl|⟨r,o,B,D⟩;simp_all;refine⟨a,cap,(List.range (rows.length*esz)).map λk=>(cellAt s.w r (o+k)).getD .nilFunc,h1,h2,by simp,λk x hk=>?_,.inr ⟨r,o,B,λk u hk=>?_⟩,n⟩;obtain⟨i,j,row,A,z,q,_⟩:=jq n hk;grind [VK];have e:=JC hk;simp at e;rw[iS,List.getElem?_range e]at hk;simp at hk;have:k<rows.flatten.length:=by grind [VK]
 obtain⟨i,j,row,A,z,q,_⟩:=jq n (bA this);grind
theorem Bf: ∀{rows:List (List PV)} {l:List UInt8},uU rows=some l-> ∃e:List Int,rows=e.map (λn=>[PV.i .u8 n])/\l=e.map λn=>UInt8.ofNat n.toNat
 |[],l,h=>by simp_all [uU]
 |row::rows,l,h=>by
  unfold uU at h;split at h;simp_all;rename_i n r j;injection j with e1 e2;subst e1 e2;split at h;rename_i k g;injection h with h;subst h;obtain⟨e,h1,h2⟩:=Bf g;exact⟨n::e,by simp[h1],by simp[h2]⟩;cases h;cases h
theorem JGA(e:List Int): ∀b:ByteArray,(e.foldl (λr n=>r.push (UInt8.ofNat n.toNat)) b)=⟨b.data++(e.map λn=>UInt8.ofNat n.toNat).toArray⟩:=by
 induction e with
 |nil=>intro b;simp
 |cons n e ih=>simp_all
theorem GN(r o n:Nat):Addr.add ⟨r,o,none⟩ n=⟨r,o+n,none⟩:=by simp[Addr.add]
theorem yg{w:World}{r o:Nat}(vs:List Value)(h: ∀(k:Nat) u,vs[k]?=some u->cellAt w r (o+k)=some u):
  (loadCells ⟨r,o,none⟩ vs.length).run P w=.ok vs.toArray w:=
 run_loadCells_list w _ vs λj v e=>by grind [GN,uV]
theorem JOT(hi:Inv s)(he:bO s a.tmps env){k x}(hk: ∀own,k≠.toBytes own)(h:(opR F (.conv k x) new).run ⟨env,s.σ⟩=some e)(hc:JX P (.conv k x) o.op=true):bN P o a s e:=by
 simp only[opR]at h;obtain⟨u,h1,g⟩:=bind_some h;clear h;unfold JX at hc;simp only at hc;split at hc;rename_i Z dst y I;simp only[aV]at hc;obtain⟨W,ht⟩:=hc;have q:=bK he h1 W;generalize V:a.eval y=z at q;split at g;rename_i k' k1 n;simp only[RM.run]at g;injection g with g;subst g;simp only[aV]at ht;obtain⟨ks,hs⟩:=JJk ht.1;have hd:=JIp ht.2;have:=jJ q;simp_all [JP,execOp,convert,run_underlying,Conv.intToInt,uY];rename_i l;simp only[RM.run]at g;injection g with g;subst g;simp only[aV]at ht;have hs:=yJ ht.1;have hd:=yJ ht.2;have:=uR q;simp_all [JP,execOp,convert,run_underlying];simp only[aV]at ht;obtain⟨ht,hd⟩:=ht;have hd:=yJ hd;split at ht;rename_i el K;simp only[aV,beq_iff_eq]at ht;have hs:=iJ K;have L:=xp ht.1;obtain⟨rows,N,A⟩:=bind_some g;clear g;split at A;rename_i l hl;simp only[RM.run]at A;injection A with A;subst A;rcases zm hi N q with⟨U,rfl,_,Q,H⟩|J
 
 have:=uR q;subst this;have:l=U:=by
  have: ∀l:List UInt8,uU (l.map nQ)=some l:=by
   intro l
   induction l with
   |nil=>rfl
   |cons b l ih=>simp[uU,nQ,ih]
  simp_all
 simp_all [JP,execOp,convert,run_underlying];obtain⟨C,cap,vs,H,D,hlen,hrel,B,G⟩:=J.cells;obtain⟨j,O,rfl⟩:=Bf hl;have hvs:vs=j.map (Value.int .u8):=by
  apply zQ6;intro k;have Y:rows.flatten=j.map (PV.i .u8):=by rw[O];clear O hl hrel hlen G B H D N q;induction j with|nil=>rfl|cons n j ih=>simp[ih]
  by_cases hk:k<j.length;obtain⟨u,hu,hp⟩:=hrel k (.i .u8 j[k]) (by simp_all);grind [cases Go.Am.J0b];simp_all
 have R:rows.length=vs.length:=by omega
 subst H;have E:(Conv.bytesToString (.slice C rows.length cap)).run P s.w=.ok (.string ⟨(j.map λn=>UInt8.ofNat n.toNat).toArray⟩) s.w:=by
  rcases B with S|⟨r,T,rfl,hm⟩;have M:j=[]:=by simp_all
  subst M;cases C with
  |none=>simp[Conv.bytesToString];rfl
  |some C=>have:=run_bytesToString (P:=P) s.w C rows.length cap [] (by simp_all [loadCells,loadCellsFrom]);rw[this];rfl
  have:=run_bytesToString (P:=P) s.w ⟨r,T,none⟩ rows.length cap j (by grind [yg]);simp_all [JGA]
 refine JP hi (v:=.string ⟨(j.map λn=>UInt8.ofNat n.toNat).toArray⟩) ?_ (Pn _);simp[execOp,I,V,convert,run_underlying hs,run_underlying hd,run_underlying L,E];cases A;cases ht;simp_all;cases g;cases hc
end
end Go.Am
end
section
namespace Go.Am
theorem MZ{α:Type}{cs l:List α}{off size:Nat}(h:sub cs off size=some l):l.length=size/\off+size<=cs.length/\ ∀(i:Nat),i<size->l[i]?=cs[off+i]?:=by
 grind [sub]
theorem NU: ∀{cs:List AV} {l:List PV},unp cs=some l->cs=l.map .p
 |[],l,h=>by grind [unp]
 |x::cs,l,h=>by
  unfold unp at h;split at h;simp_all;rename_i c r e;injection e with e1 e2;subst e1 e2;split at h;rename_i g hl;injection h with h;subst h;simp[NU hl];cases h;cases h
section
variable {P:Program} {F:Orc} {s:Sn} {a:Act} {env:List (Nat×AV)} {o:Oper} {new:Nat} {e:Eff}
theorem iv{agg:Bool}{l:List PV}{x:AV}{vs:List Value}(h:pM agg l=some x)(hl:l.length=vs.length)
  (hr: ∀(i:Nat) y v,l[i]?=some y->vs[i]?=some v->J0b s.w s.g.C y v):
  (agg=true/\JH s x (.agg vs.toArray))\/(agg=false/\ ∃v,vs=[v]/\JH s x v):=by
 cases agg with
 |true=>simp[pM]at h;subst h;exact .inl ⟨rfl,.data _ _ (by simpa using hl) λi y v j e=>hr i y v j (by simpa using e)⟩
 |false=>
  simp only[pM,fB,if_false]at h;split at h;injection h with h;subst h;obtain⟨v,rfl⟩: ∃v,vs=[v]:=dv.1 (by simp_all);exact .inr ⟨rfl,v,rfl,.p _ _ (hr 0 _ v rfl rfl)⟩;cases h
theorem TY{agg:Bool}{l:List AV}{x:AV}{vs:List Value}(h:lO agg l=some x)(hl:l.length=vs.length)(h1: ∀v∈vs,v.oneCell'=true)
  (hr: ∀(i:Nat) y v,l[i]?=some y->vs[i]?=some v->JH s y v):
  (agg=true/\JH s x (.agg vs.toArray))\/(agg=false/\ ∃v,vs=[v]/\JH s x v):=by
 cases agg with
 |true=>
  simp only[lO,if_true]at h;split at h;rename_i q j;injection h with h;subst h;have:=NU j;subst this;refine .inl ⟨rfl,.data _ _ (by simpa using hl) λi y v g e=>?_⟩;have:=hr i (.p y) v (by simp[g]) (by simpa using e);cases this<;>simp_all
  injection h with h;subst h;exact .inl ⟨rfl,.agg _ _ (by simpa using hl) (λi v e=>h1 v (by grind)) λi y v g e=>hr i y v g (by simpa using e)⟩
 |false=>
  simp only[lO,fB,if_false]at h;split at h;injection h with h;subst h;obtain⟨v,rfl⟩: ∃v,vs=[v]:=dv.1 (by simp_all);exact .inr ⟨rfl,v,rfl,hr 0 _ v rfl rfl⟩;cases h
theorem xx{agg:Bool}{off size:Nat}{x r:AV}{v:Value}{t:TypeId}(h:sJ agg off size x=some r)(hr:JH s x v)(ht:agT P t=some agg)(hs:szT P t=some size)
  (h1:agg=true\/size=1): ∃cs u,v=.agg cs/\(part t cs off).run P s.w=.ok u s.w/\JH s r u:=by
 have go: ∀(cs:Array Value) (vs:List Value),vs.length=size->(∀(i:Nat),i<size->vs[i]?=cs[off+i]?)->off+size<=cs.size->
   ((agg=true/\JH s r (.agg vs.toArray))\/(agg=false/\ ∃v,vs=[v]/\JH s r v))-> ∃u,(part t cs off).run P s.w=.ok u s.w/\JH s r u:=by
  intro cs vs j k B e;rcases e with⟨rfl,g⟩|⟨rfl,v,rfl,g⟩;refine⟨.agg (cs.extract off (off+size)),by simp_all [part,GI,iI],?_⟩;have:cs.extract off (off+size)=vs.toArray:=(by grind);simp_all;simp at j;subst j;have n:=k 0 (by omega);simp at n;exact⟨v,by simp[part,GI ht,<-n],g⟩
 unfold sJ at h;split at h;rename_i cs;split at h;rename_i l hl;obtain⟨o,y,q⟩:=MZ hl;cases hr with
 |data _ vs z A=>
  have e:=iv (s:=s) (vs:=((vs.toList.drop off).take size)) h (by simp;omega) (by
   grind)
  grind
 cases h;rename_i cs;split at h;rename_i l hl;obtain⟨o,y,q⟩:=MZ hl;cases hr with
 |agg _ vs z C A=>
  have e:=TY (s:=s) (vs:=((vs.toList.drop off).take size)) h (by simp;omega) (by
   grind [List.getElem?_of_mem]) (by
   grind)
  grind
 cases h;cases h
theorem JLE(hi:Inv s)(he:bO s a.tmps env){agg off size x}(h:(opR F (.field agg off size x) new).run ⟨env,s.σ⟩=some e)(hc:JX P (.field agg off size x) o.op=true):bN P o a s e:=by
 simp only[opR]at h;obtain⟨u,h1,g⟩:=bind_some h;obtain⟨r,w,rfl⟩:=hI g;clear h g;unfold JX at hc;simp only at hc;split at hc;rename_i t y f A;simp only[aV]at hc;obtain⟨z,ht⟩:=hc;split at ht;rename_i fs B;split at ht;rename_i D C;simp only[aV,beq_iff_eq]at ht;obtain⟨⟨⟨E,n⟩,k⟩,j⟩:=ht;obtain⟨cs,v,H,G,q⟩:=xx w (bK he h1 z) k n (by simpa using j);exact JP hi (v:=v) (by simp_all [execOp,Instr.field,run_underlying,wx,asAgg]) q;cases ht;cases ht;cases hc
theorem JOd(hi:Inv s)(he:bO s a.tmps env){x i}(h:(opR F (.sidx x i) new).run ⟨env,s.σ⟩=some e)(hc:JX P (.sidx x i) o.op=true):bN P o a s e:=by
 simp only[opR]at h;obtain⟨u,h1,r⟩:=bind_some h;obtain⟨v,h2,g⟩:=bind_some r;clear h r;unfold JX at hc;simp only at hc;split at hc;rename_i t y j C;simp only[aV]at hc;obtain⟨⟨A,B⟩,ht⟩:=hc;have w:=bK he h1 A;have z:=bK he h2 B;split at g;rename_i l k n;split at g;rename_i H;split at g;rename_i b hb;simp only[RM.run]at g;injection g with g;subst g;have E:=uR w;have G:=jJ z;have D:(⟨l.toArray⟩:ByteArray)[n.toNat]?=some b:=by have q:=JC hb;rw[bA q]at hb;rw[getElem?_pos _ _ (by grind [vA])];injection hb with hb;rw[<-hb];rfl
 refine JP hi (v:=.int .u8 b.toNat) ?_ (uY _ _);simp_all [execOp,Instr.index,asIntOf,run_underlying,yJ];cases g;cases g;cases g;cases hc
theorem JOV(hi:Inv s)(he:bO s a.tmps env){agg len esz x i}(h:(opR F (.aidx agg len esz x i) new).run ⟨env,s.σ⟩=some e)(hc:JX P (.aidx agg len esz x i) o.op=true):bN P o a s e:=by
 simp only[opR]at h;obtain⟨u,h1,A⟩:=bind_some h;obtain⟨v,h2,g⟩:=bind_some A;clear h A;unfold JX at hc;simp only at hc;split at hc;rename_i t y j q;simp only[aV]at hc;obtain⟨⟨L,N⟩,ht⟩:=hc;have E:=bK he h1 L;have G:=bK he h2 N;split at ht;rename_i n el z;simp only[aV,beq_iff_eq]at ht;obtain⟨⟨⟨rfl,B⟩,H⟩,C⟩:=ht;split at g;rename_i k m;split at g;rename_i M;obtain⟨r,K,rfl⟩:=hI g;obtain⟨cs,w,O,I,J⟩:=xx K E H B (by simpa using C);have D:=jJ G;exact JP hi (v:=w) (by simp[execOp,q,O,D,Instr.index,asIntOf,run_underlying (P8 z),M,iI B,I]) J;cases g;cases g;cases ht;cases hc
theorem JMJ(hi:Inv s)(he:bO s a.tmps env){len esz x i}(h:(opR F (.aaddr len esz x i) new).run ⟨env,s.σ⟩=some e)(hc:JX P (.aaddr len esz x i) o.op=true):bN P o a s e:=by
 simp only[opR]at h;obtain⟨u,h1,J⟩:=bind_some h;obtain⟨v,h2,C⟩:=bind_some J;obtain⟨r,g,rfl⟩:=hI C;clear h J C;unfold JX at hc;simp only at hc;split at hc;rename_i t y j H;simp only[aV]at hc;obtain⟨⟨O,R⟩,ht⟩:=hc;have B:=bK he h1 O;have M:=bK he h2 R;split at ht;rename_i n el I;simp only[aV,beq_iff_eq]at ht;obtain⟨rfl,N⟩:=ht;unfold ML at g;split at g;rename_i k m;split at g;rename_i Q;have K:=jJ M;have go: ∀(r q:Nat),a.eval y=.pointer (some ⟨r,q,none⟩)->(execOp a.eval o).run P s.w=.ok (.value (.pointer (some ⟨r,q+m.toNat*esz,none⟩))) s.w:=by intro r q A;simp[execOp,H,A,K,Instr.indexAt,asIntOf,run_underlying (P8 I),Instr.sureAddr,Q,iI N,GN]
 generalize A:a.eval y=z at B;split at g<;>first|(injection g with g;subst g)|cases g
 cases B with
 |ptr _ _ r q L hb=>exact JP hi (go _ _ A) (by rw[Nat.add_assoc];exact .ptr _ _ r q L hb)
 cases B with
 |cp cs _ r q vals G D=>exact JP hi (go _ _ A) (by rw[Nat.add_assoc];exact .cp _ _ r q vals G D)
 cases B with
 |ep _ _ _ _ _ wm E rows p0 G D S=>
  obtain⟨r,q,rfl⟩:=p0;refine JP hi (go _ _ A) (.ep _ _ _ _ _ wm E rows ⟨_,_,rfl⟩ G D λU T=>?_);grind
 cases g;cases g;cases ht;cases hc
theorem JMi(hi:Inv s)(he:bO s a.tmps env){esz x i}(h:(opR F (.iaddr esz x i) new).run ⟨env,s.σ⟩=some e)(hc:JX P (.iaddr esz x i) o.op=true):bN P o a s e:=by
 simp only[opR]at h;obtain⟨u,h1,N⟩:=bind_some h;obtain⟨v,h2,g⟩:=bind_some N;clear h N;unfold JX at hc;simp only at hc;split at hc;rename_i t y j M;simp only[aV]at hc;obtain⟨⟨E,hj⟩,ht⟩:=hc;have G:=bK he h1 E;have S:=bK he h2 hj;split at ht;rename_i el O;simp only[beq_iff_eq]at ht;have go: ∀(r A len cap:Nat) k (m:Int),a.eval j=.int k m->a.eval y=.slice (some ⟨r,A,none⟩) len cap->0<=m->m<len->
   (execOp a.eval o).run P s.w=.ok (.value (.pointer (some ⟨r,A+m.toNat*esz,none⟩))) s.w:=by
  intro r A len cap k m C D Z I;simp[execOp,M,D,C,Instr.indexAt,asIntOf,run_underlying (iJ O),Z,I,iI ht,GN]
 unfold nK at g;split at g;rename_i B rows k n;split at g;rename_i Q;subst Q;split at g;rename_i row q;simp only[RM.run]at g;injection g with g;subst g;unfold RU at q;split at q;rename_i L;have C:=jJ S;generalize D:a.eval y=z at G;cases G with
 |p _ _ V=>
  cases V with
  |sl0 _ ad cap=>simp at q
  |sl _ _ r A cap vals p1 p2 T U=>have I:=JC q;refine JP hi (go r A _ cap k n C D L (by omega)) ?_;have:=JH.cp (s:=s) row 0 r (A+n.toNat*esz) (λj=>vals n.toNat j) (λj x E=>T n.toNat j row x q E) (λj x E=>U n.toNat j row x q E);simp_all
 cases q;cases g;cases g;rename_i b j' m k n;simp only[RM.run]at g;split at g;rename_i blk hb;split at g;rename_i wm B rows;split at g;rename_i K;obtain⟨rfl,R,L,a7⟩:=K;simp only[RM.run]at g;injection g with g;subst g;have C:=jJ S;generalize D:a.eval y=z at G;cases G with
 |slr _ _ _ _ wm' B rows' q0 H q2 q3=>
  have J:s.σ[b]?=some (.arr wm esz rows):=hb;rw[J]at H;injection H with H;injection H with a1 a2 a3;subst a1 a2 a3;rcases q3 R with⟨_,_,a6,_⟩|⟨r,cap,c,e1,fz,Y,hv,W,hh,hs⟩;omega;subst hv;refine JP hi (go r _ _ cap k n C D L (by omega)) (.ep _ _ _ _ _ wm esz rows ⟨_,_,rfl⟩ J (zQ0 _) λ_ _=>⟨r,Y,?_⟩);grind
 cases g;cases g;cases g;cases g;cases ht;cases hc
end
end Go.Am
end
section
namespace Go.Am
theorem fE(a b:List (Nat×Blk))(σ:List Blk):upd (a++b) σ=upd b (upd a σ):=by simp[upd]
section
variable {P:Program} {F:Orc} {s:Sn} {a:Act} {env:List (Nat×AV)} {o:Oper} {new:Nat} {e:Eff}
theorem OD{e:List Blk}(hi:Inv s)(j:Frz e s.σ){b i n:Nat}{y:List PV×List (Nat×Blk)}{v:Value}(h:(fz (.slr b i n)).run ⟨env,e⟩=some y)(hr:JH s (.slr b i n) v):
  ∃g',Inv ⟨upd y.2 s.σ,g',s.w⟩/\bD s ⟨upd y.2 s.σ,g',s.w⟩/\Frz s.σ (upd y.2 s.σ)/\ ∃c,y.1=[c]/\J0b s.w g'.C c v:=by
 simp only[fz,RM.run]at h;split at h;rename_i blk hb;split at h;rename_i wm esz rows;split at h;rename_i hc;simp only[RM.run]at h;injection h with h;subst h;obtain⟨wm',g⟩:=j.1 b _ _ _ hb;obtain⟨g',h1,h2,o,k⟩:=JKj hi hr g hc;exact⟨g',h1,h2,o,_,rfl,k⟩;cases h;cases h;cases h
theorem JNU{e:List Blk}(hi:Inv s)(j:Frz e s.σ){x:AV}{y:List PV×List (Nat×Blk)}{v:Value}(h:(fz.fz1 x).run ⟨env,e⟩=some y)(hr:JH s x v):
  ∃g',Inv ⟨upd y.2 s.σ,g',s.w⟩/\bD s ⟨upd y.2 s.σ,g',s.w⟩/\Frz s.σ (upd y.2 s.σ)/\ ∃c,y.1=[c]/\J0b s.w g'.C c v:=by
 cases x with
 |p c=>
  simp only[fz.fz1,RM.run]at h;injection h with h;subst h;cases hr with
  |p _ _ hr=>exact⟨s.g,hi,.refl s,.refl _,c,rfl,hr⟩
 |slr b i n=>exact OD hi j (by exact h) hr
 |_=>grind [fz.fz1,RM.run]
theorem Nj{z:List Blk}: ∀{xs:List AV} {s:Sn} {y:List PV×List (Nat×Blk)} {vs:List Value},Inv s->Frz z s.σ->(fz.fzL xs).run ⟨env,z⟩=some y->xs.length=vs.length->
  (∀(i:Nat) x v,xs[i]?=some x->vs[i]?=some v->JH s x v)->
  ∃g',Inv ⟨upd y.2 s.σ,g',s.w⟩/\bD s ⟨upd y.2 s.σ,g',s.w⟩/\Frz s.σ (upd y.2 s.σ)/\y.1.length=vs.length/\
   ∀(i:Nat) c v,y.1[i]?=some c->vs[i]?=some v->J0b s.w g'.C c v
 |[],s,y,vs,hi,e,h,hl,j=>by
  simp only[fz.fzL,RM.run]at h;injection h with h;subst h;exact⟨s.g,hi,.refl s,.refl _,by simpa using hl,λi c v hc=>by simp at hc⟩
 |x::xs,s,y,[],hi,e,h,hl,j=>by simp at hl
 |x::xs,s,y,v::vs,hi,e,h,hl,j=>by
  simp only[fz.fzL]at h;obtain⟨n,h1,h⟩:=bind_some h;obtain⟨G,h2,h⟩:=bind_some h;simp only[RM.run]at h;injection h with h;subst h;obtain⟨B,i1,r,q,c,hc,F⟩:=JNU hi e h1 (j 0 x v rfl rfl);obtain⟨A,i2,o,D,E,K⟩:=Nj (s:=⟨upd n.2 s.σ,B,s.w⟩) i1 (e.trans q) h2 (by simpa using hl) λi x v H I=>(j (i+1) x v (by simpa using H) (by simpa using I)).mono hi r;refine⟨A,by grind [fE],by rw[fE];exact r.trans o,by rw[fE];exact q.trans D,by simp[hc,E],λi c' J hc' k=>?_⟩;rw[hc]at hc';cases i with
  |zero=>simp at hc' k;subst hc' k;exact J0b.mono (s0:=⟨upd n.2 s.σ,B,s.w⟩) (s:=⟨upd G.2 (upd n.2 s.σ),A,s.w⟩) i1 o F
  |succ i=>grind
theorem gp{k:List Blk}(hi:Inv s)(j:Frz k s.σ){x:AV}{y:List PV×List (Nat×Blk)}{v:Value}(h:(fz x).run ⟨env,k⟩=some y)(hr:JH s x v):
  ∃g',Inv ⟨upd y.2 s.σ,g',s.w⟩/\bD s ⟨upd y.2 s.σ,g',s.w⟩/\Frz s.σ (upd y.2 s.σ)/\y.1.length=v.cells.size/\
   ∀(i:Nat) c u,y.1[i]?=some c->v.cells[i]?=some u->J0b s.w g'.C c u:=by
 cases x with
 |p c=>
  simp only[fz,RM.run]at h;injection h with h;subst h;cases hr with
  |p _ _ hr=>
   refine⟨s.g,hi,.refl s,.refl _,by rw[hr.cells1];rfl,λi c' u hc e=>?_⟩;rw[hr.cells1]at e;grind
 |data cs=>
  simp only[fz,RM.run]at h;injection h with h;subst h;cases hr with
  |data _ vs h1 h2=>exact⟨s.g,hi,.refl s,.refl _,h1,λi c u hc e=>h2 i c u hc e⟩
 |slr b i n=>
  obtain⟨g',h1,h2,q,c,hc,o⟩:=OD hi j h hr;refine⟨g',h1,h2,q,by rw[hc,o.cells1];rfl,λi c' u hc' e=>?_⟩;rw[o.cells1]at e;grind
 |agg cs=>
  simp only[fz]at h;cases hr with
  |agg _ vs h1 G h2=>
   obtain⟨g',A,E,B,F,D⟩:=Nj (vs:=vs.toList) hi j h (by simpa using h1) λi x v r z=>h2 i x v r (by simpa using z);grind [Value.cells]
 |_=>grind [fz,RM.run]
theorem GG(he:bO s a.tmps env){x:Option Opd}{y:Option Operand}{v:Option AV}(h:(evo x).run ⟨env,s.σ⟩=some v)(hc:xK x y=true):
  (v=none/\y=none)\/ ∃u q,v=some u/\y=some q/\JH s u (a.eval q):=by
 cases x with
 |none=>
  grind [evo,RM.run,xK]
 |some x=>
  cases y with
  |none=>grind [xK]
  |some y=>
   simp only[evo]at h;obtain⟨u,h1,h⟩:=bind_some h;simp only[RM.run]at h;injection h with h;subst h;exact .inr ⟨u,y,rfl,rfl,bK he h1 hc⟩
theorem WJ{x:AV}{top n j:Nat}{v:Value}(h:nS (some x) top j=some n)(hr:JH s x v)(g:Nat)(o:top<=g)(k:BoundsCode)(w:World):
  (Instr.sliceBound v g k).run P w=.ok n w/\n<=top:=by
 unfold nS at h;split at h;simp_all;rename_i e;injection e with e;subst e;split at h;rename_i hc;injection h with h;subst h;have:=jJ hr;grind [Instr.sliceBound,asIntOf,Sem.run_pure];cases h;cases h
theorem JKb{n:Nat}{lo hi:Option AV}{c:Nat×Nat}(h:oT n lo hi=some c):nS hi n n=some c.2/\nS lo c.2 0=some c.1:=by
 grind [oT]
theorem OC(he:bO s a.tmps env){lo hi:Option Opd}{lo' hi':Option Operand}{l h:Option AV}{len cap:Nat}{c:Nat×Nat}{isSlice:Bool}
  (h1:(evo lo).run ⟨env,s.σ⟩=some l) (h2:(evo hi).run ⟨env,s.σ⟩=some h) (r:xK lo lo'=true) (z:xK hi hi'=true)
  (hc:oT len l h=some c) (n:len<=cap) (w:World):
  (Instr.sliceBounds isSlice len cap (lo'.map a.eval) (hi'.map a.eval) none).run P w=.ok (c.1,c.2,cap) w/\c.1<=c.2/\c.2<=len:=by
 obtain⟨k,e⟩:=JKb hc;obtain⟨i,j⟩:=c;rcases GG he h2 z with⟨rfl,rfl⟩|⟨u,q,rfl,rfl,x⟩;simp[nS]at k;subst k;rcases GG he h1 r with⟨rfl,rfl⟩|⟨y,q',rfl,rfl,g⟩;simp[nS]at e;subst e;simp[Instr.sliceBounds];obtain⟨o,v⟩:=WJ (P:=P) e g len (zQ0 _) .sliceB w;simp_all [Instr.sliceBounds];rcases GG he h1 r with⟨rfl,rfl⟩|⟨y,q',rfl,rfl,g⟩;obtain⟨o,v⟩:=WJ (P:=P) k x cap n (if isSlice then .sliceAcap else .sliceAlen) w;simp[nS]at e;subst e;simp_all [Instr.sliceBounds];obtain⟨o,v⟩:=WJ (P:=P) k x cap n (if isSlice then .sliceAcap else .sliceAlen) w;obtain⟨A,B⟩:=WJ (P:=P) e g j (zQ0 _) .sliceB w;simp_all [Instr.sliceBounds]
theorem Mi{esz:Nat}{rows:List (List PV)}{v:Value}{i j:Nat}(h:J0b s.w s.g.C (.sl esz rows) v)(hij:i<=j)(hj:j<=rows.length):
  ∃e cap,v=.slice e rows.length cap/\rows.length<=cap/\
   J0b s.w s.g.C (.sl esz ((rows.drop i).take (j-i))) (.slice (if cap=i then e else e.map (·.add (i*esz))) (j-i) (cap-i)):=by
 have hlen:((rows.drop i).take (j-i)).length=j-i:=by simp;omega
 cases h with
 |sl0 _ e cap=>
  have n:j=0:=by simpa using hj
  have hi':i=0:=by omega
  subst n hi';refine⟨e,cap,rfl,zQ2 _,?_⟩;simpa using J0b.sl0 (w:=s.w) (C:=s.g.C) esz _ _
 |sl _ _ r o cap vals z y E F=>
  refine⟨_,cap,rfl,z,?_⟩;by_cases q:cap=i;have A:j-i=0:=by omega
  rw[A];simpa using J0b.sl0 (w:=s.w) (C:=s.g.C) esz _ _;rw[if_neg q];have:=J0b.sl (w:=s.w) (C:=s.g.C) esz ((rows.drop i).take (j-i)) r (o+i*esz) (cap-i) (λk m=>vals (i+k) m) (by omega)
   (λrow B=>y row (zQ7 (PA B)))
   (λk m row x hk D=>by
    grind)
   (λk m row x hk D=>by
    grind)
  grind [GN]
def BK(k:SK)(x:AV)(lo hi:Option AV):Option AV:=
 match k with
 | .str=>xV x lo hi
 | .sl esz=>xR esz x lo hi
theorem Nx(hi:Inv s){k:SK}{t:TypeId}{y:Operand}{A z:Option Operand}{q:Operand}{c:PV}{l hh:Option AV}{u r:AV}{g':Gh}{ws:List (Nat×Blk)}
  (D:o.op=.slice t y A z (some q)) (ht:(match k with
   | .str=>kZ P t
   | .sl esz=>(match elT P t with|some e=>szT P e==some esz|none=>false))=true)
  (hl:l=none->A=none) (F: ∀G,hh=some G-> ∃q',z=some q'/\JH s G (a.eval q')) (hu:JH s u (a.eval q))
  (hs:lJ k (.p c) l hh (some u)=some r) (hi':Inv ⟨upd ws s.σ,g',s.w⟩) (t':bD s ⟨upd ws s.σ,g',s.w⟩) (hr:J0b s.w g'.C c (a.eval y)):bN P o a s ⟨r,ws⟩:=by
 cases k with
 |str=>grind [lJ]
 |sl esz=>
  simp only[lJ]at hs;unfold SS at hs;split at hs;rename_i M rows N h1 R S h;injection h with h;subst h;split at hs;rename_i hc;obtain⟨rfl,rfl,rfl⟩:=hc;injection hs with hs;subst hs;obtain⟨q',rfl,B⟩:=F _ rfl;obtain rfl:=hl rfl;have U:=jJ B;have T:=jJ hu;simp only at ht;split at ht;rename_i el E;simp only[beq_iff_eq]at ht;obtain⟨g,cap,H,L,hrel⟩:=Mi (s:=⟨s.σ,g',s.w⟩) (i:=0) (j:=rows.length) hr (zQ2 _) (zQ0 _);have hb: ∀w:World,(Instr.sliceBounds true rows.length cap none (some (a.eval q')) (some (a.eval q))).run P w=.ok (0,rows.length,rows.length) w:=by simp_all [Instr.sliceBounds,Instr.sliceBound,asIntOf]
  have n:J0b s.w g'.C (.slc esz rows) (.slice g rows.length rows.length):=by
   refine .slc esz rows g ?_;rw[H]at hr;cases hr with
   |sl0=>exact .sl0 _ _ _
   |sl _ _ r o cap vals Q K I J=>exact .sl esz rows r o rows.length vals (zQ0 _) K I J
  refine gE (e:=⟨_,ws⟩) (w':=s.w) (g':=g') (v:=.slice g rows.length rows.length) ?_ hi' t' (.p _ _ n);have O:(if rows.length=0 then g else g.map λx=>x.add (0*esz))=g:=by simp[Addr.add]
  simp only[execOp,D,H];simp[Instr.sliceAt,Instr.slice,run_underlying (iJ E),hb,iI ht];simp_all;cases ht;cases hs;cases hs
theorem JLm(hi:Inv s)(he:bO s a.tmps env){k x lo hi' mx}(h:(opR F (.slice k x lo hi' mx) new).run ⟨env,s.σ⟩=some e)(hc:JX P (.slice k x lo hi' mx) o.op=true):bN P o a s e:=by
 simp only[opR]at h;obtain⟨u,h1,h⟩:=bind_some h;obtain⟨l,h2,h⟩:=bind_some h;obtain⟨B,N,h⟩:=bind_some h;obtain⟨m,h4,h⟩:=bind_some h;unfold JX at hc;simp only at hc;split at hc
 ·rename_i t y U S aa A;simp only[aV]at hc;obtain⟨⟨⟨⟨hx,M⟩,L⟩,c3⟩,ht⟩:=hc;have j:=bK he h1 hx;rcases GG he h4 c3 with⟨rfl,rfl⟩|⟨um,qm,rfl,rfl,I⟩
  case inr=>
   have E:l=none->U=none:=(by grind [GG]);have H: ∀Z,B=some Z-> ∃q',S=some q'/\JH s Z (a.eval q'):=(by grind [GG]);split at h;rename_i b i n;obtain⟨y',O,h⟩:=bind_some h;obtain⟨g',i1,Y,f1,c,J,T⟩:=OD hi (.refl _) O j;split at h;rename_i c' hc';rw[J]at hc';injection hc' with hc';subst hc';split at h;rename_i r q;simp only[RM.run]at h;injection h with h;subst h;exact Nx hi A ht E H I q i1 Y T;cases h;cases h;rename_i x' R;obtain⟨r,q,rfl⟩:=hI h;cases u with
   |p c=>
    cases j with
    |p _ _ j=>exact Nx (ws:=[]) (g':=s.g) hi A ht E H I q hi (.refl s) j
   |_=>grind [lJ,SS]
  have v: ∀{c:AV} {r},lJ k c l B none=some r->(none:Option Operand)=none/\BK k c l B=some r:=by intro c r hs;exact⟨rfl,hs⟩
  have Q: ∀{b:List UInt8} {r},lJ k (.p (.s b)) l B none=some r->a.eval y=.string ⟨b.toArray⟩->bN P o a s ⟨r,[]⟩:=by
   intro b r hs hz;obtain⟨_,D⟩:=v hs;clear hs;have hs:=D;clear D;cases k with
   |sl esz=>grind [BK,xR]
   |str=>
    simp only[BK,xV]at hs;split at hs;rename_i c hc;injection hs with hs;subst hs;have a8:=yJ ht;obtain⟨hb,hij,a7⟩:=OC (P:=P) (isSlice:=false) (cap:=b.length) he h2 N M L hc (zQ0 _) s.w;have a9:(⟨b.toArray⟩:ByteArray).extract c.1 c.2=⟨((b.drop c.1).take (c.2-c.1)).toArray⟩:=by apply ByteArray.ext;simp_all
    simp_all [JP,Pn,execOp,Instr.sliceAt,Instr.slice,run_underlying,vA];cases hs
  have z: ∀{s':Sn} {ws} {esz rows r} {g'},s'=⟨upd ws s.σ,g',s.w⟩->Inv s'->bD s s'->lJ k (.p (.sl esz rows)) l B none=some r->J0b s'.w s'.g.C (.sl esz rows) (a.eval y)->bN P o a s ⟨r,ws⟩:=by
   intro s' ws esz rows r g' hs' hi' t' hs q;obtain⟨_,D⟩:=v hs;clear hs;have hs:=D;clear D;cases k with
   |str=>grind [BK,xV]
   |sl ez=>
    simp only[BK,xR]at hs;split at hs;rename_i W;subst W;split at hs;rename_i c hc;injection hs with hs;subst hs;simp only at ht;split at ht;rename_i el V;simp only[beq_iff_eq]at ht;have G:=OC (P:=P) (isSlice:=true) he h2 N M L hc (zQ0 _) s.w;obtain⟨ad,cap,hv,K,hrel⟩:=Mi q G.2.1 G.2.2;obtain⟨hb,_,_⟩:=OC (P:=P) (isSlice:=true) he h2 N M L hc K s.w;subst hs';refine gE (e:=⟨_,ws⟩) (w':=s.w) (g':=g') ?_ hi' t' (.p _ _ hrel);simp only[execOp,A,hv];simp[Instr.sliceAt,Instr.slice,run_underlying (iJ V),hb,iI ht];cases ht;cases hs;cases hs
  split at h;rename_i b i n;obtain⟨y',O,h⟩:=bind_some h;obtain⟨g',i1,Y,f1,c,J,T⟩:=OD hi (.refl _) O j;grind [RM.run,fz];rename_i x' R;obtain⟨r,q,rfl⟩:=hI h;cases u with
  |p c=>
   cases c with
   |s b=>grind [uR]
   |sl esz rows=>cases j with|p _ _ j=>exact z (s':=s) (ws:=[]) (g':=s.g) rfl hi (.refl s) q j
   |_=>grind [BK,xV,xR]
  |slr b i n=>simp_all
  |_=>grind [BK,xV,xR]
 cases hc
end
end Go.Am
end
section
namespace Go.Am
section
variable {P:Program} {F:Orc} {s:Sn} {a:Act} {env:List (Nat×AV)} {o:Oper} {new:Nat} {e:Eff}
theorem yb(hi:Inv s){agg:Bool}{size:Nat}{x:AV}{v:Value}(h:(gZ agg size x).run ⟨env,s.σ⟩=some e)(hr:JH s x v):
  ∃r o vs,v=.pointer (some ⟨r,o,none⟩)/\vs.length=size/\(∀(k:Nat) u,vs[k]?=some u->cellAt s.w r (o+k)=some u)/\e.ws=[]/\
   ((agg=true/\JH s e.val (.agg vs.toArray))\/(agg=false/\ ∃u,vs=[u]/\JH s e.val u)):=by
 unfold gZ at h;split at h;rename_i cs off;split at h;rename_i l hl;obtain⟨r',z,rfl⟩:=hI h;obtain⟨n,H,G⟩:=MZ hl;cases hr with
 |cp _ _ r o vals q L=>
  have O: ∀(i:Nat) y u,l[i]?=some y->((List.range size).map λi=>vals (off+i))[i]?=some u->J0b s.w s.g.C y u:=(by grind);refine⟨r,o+off,(List.range size).map λi=>vals (off+i),rfl,by simp,λk u B=>?_,rfl,iv z (by simp[n]) O⟩;grind
 cases h
 ·rename_i b off;simp only[RM.run]at h;split at h
  ·rename_i blk hb;split at h
   ·rename_i cs;split at h
    ·rename_i l hl;obtain⟨r',z,rfl⟩:=hI h;obtain⟨n,H,G⟩:=MZ hl;cases hr with
     |ptr _ _ r o m U=>
      obtain⟨M,W,c,S,fz,j,Q,I,R,hf⟩:=hi.box b cs hb;rw[m]at j;injection j with j;injection j with m1 m2;subst m1 m2;have A: ∀k,k<size-> ∃u,c[o+(off+k)]?=some u/\u.oneCell'=true/\ ∀y,l[k]?=some y->JH s y u:=(by grind);refine⟨r,o+off,(List.range size).map λi=>(c[o+(off+i)]?).getD .nilFunc,rfl,by simp,λk u B=>?_,rfl,TY z (by simp[n]) (λv J=>?_) λi y u P B=>?_⟩
      all_goals grind [lP]
    cases h
   cases h
  cases h
 ·rename_i b ext i off;simp only[RM.run]at h;split at h
  ·rename_i blk hb;split at h
   ·rename_i wm esz rows;split at h
    ·rename_i F;split at h
     ·rename_i row E;split at h
      ·rename_i l hl;obtain⟨r',z,rfl⟩:=hI h;obtain⟨n,H,G⟩:=MZ hl;have D:s.σ[b]?=some (.arr wm esz rows):=hb;cases hr with
       |ep _ _ _ _ _ wm' N rows' p0 q L K=>
        rw[D]at q;injection q with q;injection q with a1 a2 a3;subst a1 a2 a3;have T:=JC E;obtain⟨r,m,J⟩:=K F (by omega);rcases hi.arr b _ _ _ D with⟨j,_⟩|⟨M,c,S,fz,j,Q,V,I,R,hf⟩;simp_all
        ·rw[m]at j;injection j with j;injection j with m1 _;subst m1
         have A: ∀k,k<size-> ∃u,c[i*esz+(off+k)]?=some u/\ ∀y,l[k]?=some y->J0b s.w s.g.C y u:=(by grind);refine⟨r,i*esz+off,(List.range size).map λk=>(c[i*esz+(off+k)]?).getD .nilFunc,J,by simp,λk u B=>?_,rfl,iv z (by simp[n]) λk y u P B=>?_⟩
         all_goals grind [lP]
      cases h
     cases h
    cases h
   cases h
  cases h
 cases h
theorem Ar{t:TypeId}{agg:Bool}{size:Nat}(ht:agT P t=some agg)(hs:szT P t=some size){r o:Nat}{vs:List Value}{w:World}(hl:vs.length=size)
  (h: ∀(k:Nat) u,vs[k]?=some u->cellAt w r (o+k)=some u):
  (agg=true->(loadVar t ⟨r,o,none⟩).run P w=.ok (.agg vs.toArray) w)/\(agg=false-> ∀u,vs=[u]->(loadVar t ⟨r,o,none⟩).run P w=.ok u w):=by
 constructor;rintro rfl;subst hl;simp_all [loadVar,GI,iI,yg];rintro rfl u rfl;have:=h 0 u rfl;simp_all [loadVar,GI,uV]
theorem JP6(hi:Inv s)(he:bO s a.tmps env){agg size x}(h:(opR F (.load agg size x) new).run ⟨env,s.σ⟩=some e)(hc:JX P (.load agg size x) o.op=true):bN P o a s e:=by
 simp only[opR]at h;obtain⟨u,h1,n⟩:=bind_some h;clear h;unfold JX at hc;simp only at hc;split at hc
 ·rename_i t y z;simp only[aV,beq_iff_eq]at hc;obtain⟨⟨⟨ht,hs⟩,w⟩,B⟩:=hc;obtain⟨r,D,vs,G,hl,g,j,k⟩:=yb hi n (bK he h1 w);obtain⟨A,E⟩:=Ar (P:=P) ht hs hl g;obtain⟨ev,C⟩:=e;simp only at j k;subst j;rcases k with⟨rfl,v⟩|⟨rfl,q,rfl,v⟩
  all_goals simp_all [JP,execOp,Instr.loadAt,Instr.sureAddr]
 cases hc
theorem XF{x:AV}{l:List AV}{v:Value}(h:cellsOf x=some l)(hr:JH s x v):
  l.length=v.cells.size/\(∀u∈v.cells.toList,u.oneCell'=true)/\ ∀(i:Nat) y u,l[i]?=some y->v.cells[i]?=some u->JH s y u:=by
 have e: ∀{z:AV},JH s z v->v.cells= #[v]->v.oneCell'=true->l=[z]->l.length=v.cells.size/\(∀u∈v.cells.toList,u.oneCell'=true)/\ ∀(i:Nat) y u,l[i]?=some y->v.cells[i]?=some u->JH s y u:=(by grind);cases hr with
 |p c _ q=>simp[cellsOf]at h;exact e (.p _ _ q) q.cells1 q.one h.symm
 |data cs vs h1 h2=>
  simp[cellsOf]at h;subst h;refine⟨by grind [Value.cells],λu A=>?_,λi y u w A=>?_⟩;obtain⟨i,hi⟩:=jU A;have hi:vs[i]?=some u:=by grind [Value.cells]
  have F:=WU hi;exact(h2 i cs[i] u (by simp_all) hi).one;rw[iS]at w;cases hcs:cs[i]? with
  |none=>simp_all
  |some c=>simp[hcs]at w;subst w;exact .p _ _ (h2 i c u hcs A)
 |agg cs vs h1 G h2=>
  grind [cellsOf,Value.cells,List.getElem?_of_mem]
 |tup=>grind [cellsOf]
 |unk=>grind [cellsOf]
 |pre=>simp[cellsOf]at h
 |ptr b off r o m hb=>simp[cellsOf]at h;exact e (.ptr b off r o m hb) rfl rfl h.symm
 |cp cs off r o vals j g=>simp[cellsOf]at h;exact e (.cp cs off r o vals j g) rfl rfl h.symm
 |slr b i n _ wm esz rows p0 j g k=>obtain⟨B,cap,rfl,E⟩:=p0;simp[cellsOf]at h;exact e (.slr b i n _ wm esz rows ⟨B,cap,rfl,E⟩ j g k) rfl rfl h.symm
 |ep b ext i off _ wm esz rows p0 j g k=>obtain⟨r,o,rfl⟩:=p0;simp[cellsOf]at h;exact e (.ep b ext i off _ wm esz rows ⟨r,o,rfl⟩ j g k) rfl rfl h.symm
 |fn f first caps fs cs h1 h2 D C=>simp[cellsOf]at h;exact e (.fn f first caps fs cs h1 h2 D C) rfl rfl h.symm
theorem JPU(hi:Inv s)(he:bO s a.tmps env)(hn:s.σ[new]?=some .dead){size x}(h:(opR F (.box size x) new).run ⟨env,s.σ⟩=some e)(hc:JX P (.box size x) o.op=true):bN P o a s e:=by
 simp only[opR]at h;obtain⟨u,h1,g⟩:=bind_some h;clear h;unfold JX at hc;simp only at hc;split at hc;rename_i t y B;have z:=bK he h1 hc;split at g;rename_i cs hcs;split at g;cases g;obtain⟨C,q,n⟩:=XF hcs z;obtain⟨r,t'⟩:=UR hi hn (blk:=.box cs) (c:=(a.eval y).cells) (e:=t) (fz:=(0,0)) (w':={s.w with heap:=s.w.heap.push (.cells (a.eval y).cells t)}) rfl rfl rfl
  (λo _ _ h=>by simp at h) (λ_ _ _ h=>by cases h) ⟨by omega,λi x j=>by
   have A:=JC j;have k:i<(a.eval y).cells.size:=by omega
   exact⟨(a.eval y).cells[i],by simp,n i x _ j (by simp),q _ (by simp)⟩⟩
 refine gE (e:=⟨.ptr new 0,[(new,.box cs)]⟩) (v:=.pointer (some ⟨s.w.heap.size,0,none⟩)) ?_ r t' (.ptr new 0 _ 0 (if_pos rfl) ⟨cs,jP hn⟩);simp_all [execOp,Instr.box,newVar,newRow];cases g;cases g;cases hc
theorem yO{zero:List PV}{t:TypeId}(h:mX P zero t=true): ∃v,zeT P t=some v/\zero.length=v.cells.size/\
  ∀{w C} (i:Nat) x u,zero[i]?=some x->v.cells[i]?=some u->J0b w C x u:=by
 unfold mX at h;split at h;rename_i v e;refine⟨v,e,?_,λi x u j g=>?_⟩;simpa using(VL (w:=default) (C:=λ_ _=>True) h).1;exact(VL h).2 i x u j (by simpa using g);cases h
theorem GS{t:TypeId}{v:Value}(h:zeT P t=some v)(w:World):(zeroValue t).run P w=.ok v w:=by unfold zeT at h;cases hi:P.info? t<;>simp_all [zeroValue,Bs]
theorem JJN(hi:Inv s)(hn:s.σ[new]?=some .dead){zero}(h:(opR F (.newbox zero) new).run ⟨env,s.σ⟩=some e)(hc:JX P (.newbox zero) o.op=true):bN P o a s e:=by
 simp only[opR,RM.run]at h;cases h;unfold JX at hc;simp only at hc;split at hc;rename_i t y;obtain⟨v,z,hl,q⟩:=yO hc;obtain⟨n,t'⟩:=UR hi hn (blk:=.box (zero.map .p)) (c:=v.cells) (e:=t) (fz:=(0,0)) (w':={s.w with heap:=s.w.heap.push (.cells v.cells t)}) rfl rfl rfl
  (λo _ _ h=>by simp at h) (λ_ _ _ h=>by cases h) ⟨by simp[hl],λi x j=>by
   rw[iS]at j;cases hz:zero[i]? with
   |none=>simp[hz]at j
   |some c=>
    simp[hz]at j;subst j;have r:=JC hz;have k:i<v.cells.size:=by omega
    have:=q (w:=s.w) (C:=s.g.C) i c v.cells[i] hz (by simp);exact⟨v.cells[i],by simp,.p _ _ this,this.one⟩⟩
 refine gE (e:=⟨.ptr new 0,[(new,.box (zero.map .p))]⟩) (v:=.pointer (some ⟨s.w.heap.size,0,none⟩)) ?_ n t' (.ptr new 0 _ 0 (if_pos rfl) ⟨_,jP hn⟩);simp_all [execOp,Instr.alloc,GS,newVar,newRow];cases hc
theorem JLn(hi:Inv s)(hn:s.σ[new]?=some .dead){esz x}(h:(opR F (.mkarr esz x) new).run ⟨env,s.σ⟩=some e)(hc:JX P (.mkarr esz x) o.op=true):bN P o a s e:=by
 simp only[opR,RM.run]at h;cases h;obtain⟨k,t'⟩:=UY hi hn esz;have hrel:JH ⟨s.σ.set new (.arr true esz []),fL s.g new none,s.w⟩ (.slr new 0 0) (.slice none 0 0):=
  .slr new 0 0 _ true esz [] ⟨none,0,rfl,.inl rfl⟩ (jP hn) (zQ0 _) λ_=>.inl ⟨if_pos rfl,rfl,rfl,rfl⟩
 unfold JX at hc;simp only at hc;split at hc;rename_i j;exact gE (e:=⟨.slr new 0 0,[(new,.arr true esz [])]⟩) (v:=.slice none 0 0) (by simp only[execOp,j];rfl) k t' hrel;rename_i j;exact gE (e:=⟨.slr new 0 0,[(new,.arr true esz [])]⟩) (v:=.slice none 0 0) (by simp only[execOp,j];rfl) k t' hrel;cases hc
theorem UI{α:Type}{cs vs cs':List α}{off:Nat}(h:spl cs off vs=some cs'):cs'.length=cs.length/\off+vs.length<=cs.length/\
  (∀(i:Nat),i<vs.length->cs'[off+i]?=vs[i]?)/\ ∀k,(k<off\/off+vs.length<=k)->cs'[k]?=cs[k]?:=by
 unfold spl at h;split at h;simp_all
 ·split at h
  ·rename_i hc;cases h;refine⟨by simp;omega,hc,λi hi=>?_,λk hk=>?_⟩
   all_goals grind
  cases h
theorem JGM{w:World}{r o:Nat}{vs:List Value}{c:Array Value}{e:TypeId}{fz:Nat×Nat}(hh:w.heap[r]?=some (.cells c e fz))(hl:o+vs.length<=c.size)
  (hf:EM fz o (o+vs.length)) (h1: ∀v∈vs,v.oneCell'=true):(storeCells ⟨r,o,none⟩ vs).run P w=.ok () (w.setCells r o vs):=by
 have:=run_storeCells_cells (P:=P) r o vs 0 w
  (λj g=>by rw[uV,lP hh];simp;omega)
  (λj g=>by
   have:=hf (o+0+j) (by omega) (by omega);grind [World.frozen?]) h1
 simp_all
theorem nn{t:TypeId}{v:Value}{w:World}{r o:Nat}{c:Array Value}{e:TypeId}{fz:Nat×Nat}(hs:szT P t=some v.cells.size)(hh:w.heap[r]?=some (.cells c e fz))(hl:o+v.cells.size<=c.size)
  (hf:EM fz o (o+v.cells.size)) (h1: ∀u∈v.cells.toList,u.oneCell'=true):(storeVar t ⟨r,o,none⟩ v).run P w=.ok () (w.setCells r o v.cells.toList):=by
 have:=JGM (P:=P) (vs:=v.cells.toList) hh (by simpa using hl) (by simpa using hf) h1;simp_all [storeVar,iI]
theorem la{o:Oper}{e:Eff}{w':World}{g':Gh}(hr:(execOp a.eval o).run P s.w=.ok .skip w')(g:e.val=hH)
  (hi:Inv ⟨upd e.ws s.σ,g',w'⟩) (t:bD s ⟨upd e.ws s.σ,g',w'⟩):bN P o a s e:=by
 intro next Q h;simp only[Oper.wp,hr,Oper.upon];exact h undef w' g' hi t (by rw[g];exact .tup _ _ rfl λi x v h=>by simp at h)
theorem K5{b:Nat}: ∀{ws:List (Nat×Blk)} {σ:List Blk},(ws.all λy=>y.1 !=b)=true->(upd ws σ)[b]?=σ[b]?
 |[],_,_=>rfl
 |y::ws,σ,h=>by simp only[List.all_cons,aV,bne_iff_ne]at h;show(upd ws (σ.set y.1 y.2))[b]?=_;rw[K5 h.2,sT h.1]
theorem JM5(hi:Inv s)(he:bO s a.tmps env){size x y}(h:(opR F (.store size x y) new).run ⟨env,s.σ⟩=some e)(hc:JX P (.store size x y) o.op=true):bN P o a s e:=by
 simp only[opR]at h;obtain⟨u,h1,h'⟩:=bind_some h;obtain⟨v,h2,g⟩:=bind_some h';clear h h';unfold JX at hc;simp only at hc;split at hc;rename_i t x' n bx;simp only[aV,beq_iff_eq]at hc;obtain⟨⟨hs,hx⟩,hy⟩:=hc;have rx:=bK he h1 hx;have ry:=bK he h2 hy;have Y: ∀{r J:Nat} {w':World},a.eval x'=.pointer (some ⟨r,J,none⟩)->(storeVar t ⟨r,J,none⟩ (a.eval n)).run P s.w=.ok () w'->(execOp a.eval o).run P s.w=.ok .skip w':=by simp_all [execOp,Instr.storeAt,Instr.sureAddr]
 unfold iV at g;split at g;rename_i b off;simp only[RM.run]at g;split at g;rename_i blk hb;split at g;rename_i cs;split at g;rename_i l hl;split at g;rename_i aj;split at g;rename_i cs' a6;cases g;have hb:s.σ[b]?=some (.box cs):=hb;generalize hz:a.eval x'=z at rx;cases rx with
 |ptr _ _ r J m bs=>
  obtain⟨k1,k2,k3⟩:=XF hl ry;obtain⟨j1,j2,Z,j4⟩:=UI a6;obtain⟨r1,o1,c,D,fz,C,Q,ao,W,hf⟩:=hi.box b cs hb;rw[m]at C;injection C with C;injection C with m1 m2;subst m1 m2;have B:=HT (vs:=(a.eval n).cells.toList) (o:=J+off) Q (by simp;omega);have hlen:(a.eval n).cells.toList.length=l.length:=by simp[k1]
  obtain⟨i',t'⟩:=lq hi (blk:=.box cs') hb B (λk h1 h2=>by
   grind [Wr1]) (.box _ _ j1) (λbq q E=>by
   cases q;obtain⟨c0,e0,ap,c',A,p2,p3,p4,p5,p6⟩:=B.there;rw[Q]at A;injection A with A;injection A with I q2 q3;subst I q2 q3;refine⟨r,J,c',D,fz,m,p2,by omega,λi x an=>?_,by simp_all⟩;by_cases ax:off<=i/\i<off+l.length;have D:cs'[off+(i-off)]?=l[i-off]?:=Z (i-off) (by omega);rw[show off+(i-off)=i by omega,an]at D;have H:i-off<(a.eval n).cells.size:=by omega
   have e2:=p5 (i-off) (a.eval n).cells[i-off] (by simp);refine⟨(a.eval n).cells[i-off],by rw[<-e2];congr 1;omega,E (k3 (i-off) x _ D.symm (by simp)),k2 _ (by simp)⟩;grind)
   (λ_ _ q=>by cases q)
  refine la (e:=⟨hH,[(b,.box cs')]⟩) (Y hz (nn (by simp_all) Q (by omega) (λk h1 h2=>hf k (by omega) (by omega)) k2)) rfl i' t'
 cases g;cases g;cases g;cases g;cases g;rename_i b ext i off;simp only[RM.run]at g;split at g;rename_i blk hb;split at g;rename_i esz rows;split at g;rename_i a8;split at g;rename_i row M;obtain⟨G,h3,R⟩:=bind_some g;split at R;rename_i S;split at R;rename_i L T;cases R;have hb:s.σ[b]?=some (.arr true esz rows):=hb;obtain⟨aj,b7⟩:=S;obtain⟨g1,i1,t1,f1,l1,r1⟩:=gp hi (.refl _) h3 ry;have O:(upd G.2 s.σ)[b]?=some (.arr true esz rows):=by grind [K5]
 have V:=rx.mono hi t1;obtain⟨j1,j2,Z,j4⟩:=UI T;have a5: ∀u∈(a.eval n).cells.toList,u.oneCell'=true:=by
  intro u hu;obtain⟨k,hk⟩:=jU hu;have hk:(a.eval n).cells[k]?=some u:=by simpa using hk
  have H:=WU hk;exact(r1 k G.1[k] u (by simp_all) hk).one
 generalize hz:a.eval x'=z at V;cases V with
 |ep _ _ _ _ _ wm' a0 rows' p0 A p2 p3=>
  have A:(upd G.2 s.σ)[b]?=some (.arr wm' a0 rows'):=A;rw[O]at A;injection A with A;injection A with a1 a2 a3;subst a1 a2 a3;have H:=JC M;obtain⟨r,m,hv⟩:=p3 a8 (by omega);rcases i1.arr b _ _ _ O with⟨C,_⟩|⟨rr,c,D,fz,C,Q,am,ao,W,hf⟩;simp_all;rw[m]at C;injection C with C;injection C with m1 _;subst m1;have b1:=am row (jM M);have hlen:(a.eval n).cells.toList.length=G.1.length:=by simp[l1]
  have bf:i*esz+esz<=rows.length*esz:=(by have:=zQ4 esz (show i+1<=rows.length from H);grind);have K:s.w.heap[r]?=some (.cells c D fz):=Q;have B:=HT (vs:=(a.eval n).cells.toList) (o:=i*esz+off) K (by grind);obtain⟨i2,t2⟩:=lq (s0:=⟨upd G.2 s.σ,g1,s.w⟩) i1 (blk:=.arr true esz (rows.set i L)) O B (λk h1 h2=>by
   grind [Wr1]) (.arr _ _ _ (by simp)) (λ_ q=>by cases q) (λb6 b0 q E=>by
   injection q with _ h1 h2;subst h1 h2;obtain⟨c0,e0,ap,c',I,q2,q3,q4,q5,q6⟩:=B.there;rw[K]at I;injection I with I;injection I with w1 w2 w3;subst w1 w2 w3;refine .inr ⟨r,c',D,fz,m,q2,λbu bt=>?_,by simp;omega,λk j a4 x0 hk hj=>⟨?_,λh=>by cases h⟩,by simp_all⟩;grind;have bi:=JC hj;by_cases U:k=i;subst U;rw[DZ H]at hk;cases hk;by_cases ax:off<=j/\j<off+G.1.length;have D:=Z (j-off) (by omega);rw[show off+(j-off)=j by omega,hj]at D;have N:j-off<(a.eval n).cells.size:=by omega
   have e2:=q5 (j-off) (a.eval n).cells[j-off] (by simp);refine⟨(a.eval n).cells[j-off],by rw[<-e2];congr 1;omega,E (r1 (j-off) x0 _ D.symm (by simp))⟩;grind;rw[ch (Ne.symm U)]at hk;obtain⟨⟨v',aw,ah⟩,_⟩:=W k j a4 x0 hk hj;refine⟨v',?_,E ah⟩;rw[q6 _ ?_];exact aw;have ak:j<esz:=by grind
   rw[hlen];rcases zQ3 k i with N|bw;left;have:=nO N ak;omega;right;have:=zQ4 esz (show i+1<=k by omega);grind)
  refine la (e:=⟨hH,G.2++[(b,.arr true esz (rows.set i L))]⟩) (g':=g1) (Y (hz.trans hv) (nn (by simp_all) K (by grind) (λk h1 h2=>hf.1 k (by omega) (by grind)) a5)) rfl ?_ ?_;rw[fE];exact i2;rw[fE];exact t1.trans t2
 cases R;cases R;cases g;cases g;cases g;cases g;cases g;cases hc
end
end Go.Am
end
section
namespace Go.Am
theorem JDS(vs:List Value): ∀(k:Nat) (off:Nat) (cs:Array Value),off+k+vs.length<=cs.size->
  let r:=(vs.zipIdx k).foldl (λcs (x:Value×Nat)=>cs.setIfInBounds (off+x.2) x.1) cs
  r.size=cs.size/\(∀(j:Nat) v,vs[j]?=some v->r[off+k+j]?=some v)/\ ∀i,(i<off+k\/off+k+vs.length<=i)->r[i]?=cs[i]?:=by
 induction vs with
 |nil=>simp_all
 |cons v vs ih=>
  intro k off cs h;simp only[kQ]at h;have:=ih (k+1) off (cs.setIfInBounds (off+k) v) (by simp;omega);simp only[List.zipIdx_cons,List.foldl_cons];obtain⟨h1,h2,e⟩:=this;grind
section
variable {P:Program} {F:Orc} {s:Sn} {a:Act} {env:List (Nat×AV)} {o:Oper} {new:Nat} {e:Eff}
theorem x7{place:Nat->Option (Nat×Nat)}{cells:Array Value}{i:Nat}{v:Value}{rest:List (Nat×Value)}{off size:Nat}(hp:place i=some (off,size))(hs:v.cells.size=size)(hl:off+size<=cells.size):
  ∃e:Array Value,Instr.fill place cells ((i,v)::rest)=Instr.fill place e rest/\e.size=cells.size/\(∀(j:Nat) u,v.cells[j]?=some u->e[off+j]?=some u)/\
   ∀k,(k<off\/off+size<=k)->e[k]?=cells[k]?:=by
 subst hs;obtain⟨h1,h2,h⟩:=JDS v.cells.toList 0 off cells (by simp;omega);refine⟨v.cells.zipIdx.foldl (λcs (c,j)=>cs.setIfInBounds (off+j) c) cells,?_,?_,?_,?_⟩;grind [Instr.fill]
 all_goals (have g:v.cells.zipIdx.foldl (λcs (x:Value×Nat)=>cs.setIfInBounds (off+x.2) x.1) cells=(v.cells.toList.zipIdx 0).foldl (λcs (x:Value×Nat)=>cs.setIfInBounds (off+x.2) x.1) cells:=by
             rw[<-Array.foldl_toList];simp)
 all_goals simp_all
theorem kg{place:Nat->Option (Nat×Nat)}: ∀{parts:List (Nat×Nat×List AV)} {ps:List (Nat×Value)} {cs cs':List AV} {cells:Array Value},
  rD parts cs=some cs'->parts.length=ps.length->
  (∀(k:Nat) off size l i v,parts[k]?=some (off,size,l)->ps[k]?=some (i,v)->place i=some (off,size)/\l.length=v.cells.size/\(∀u∈v.cells.toList,u.oneCell'=true)/\
   ∀(j:Nat) y u,l[j]?=some y->v.cells[j]?=some u->JH s y u)->
  cs.length=cells.size->(∀(i:Nat) x,cs[i]?=some x-> ∃u,cells[i]?=some u/\JH s x u/\u.oneCell'=true)->
  ∃e,Instr.fill place cells ps=some e/\cs'.length=e.size/\ ∀(i:Nat) x,cs'[i]?=some x-> ∃u,e[i]?=some u/\JH s x u/\u.oneCell'=true
 |[],[],cs,cs',cells,h,_,_,hl,hr=>by simp[rD]at h;subst h;exact⟨cells,rfl,hl,hr⟩
 |[],_::_,_,_,_,_,hl,_,_,_=>by simp at hl
 |_::_,[],_,_,_,_,hl,_,_,_=>by simp at hl
 |(off,size,l)::parts,(i,v)::ps,cs,cs',cells,h,hlen,hp,hl,hr=>by
  unfold rD at h;split at h;rename_i C;split at h;rename_i E n;obtain⟨z,G,q,r⟩:=hp 0 off size l i v rfl rfl;obtain⟨F,L,w,H⟩:=UI n;obtain⟨g,I,J,A,K⟩:=x7 (v:=v) (rest:=ps) (cells:=cells) z (by omega) (by omega);obtain⟨e,P,N,M⟩:=kg (cells:=g) h (by simpa using hlen) (λk off size l i v h1 h2=>hp (k+1) off size l i v (by simpa using h1) (by simpa using h2)) (by omega) (λk x hk=>by
   by_cases D:off<=k/\k<off+l.length;have o:=w (k-off) (by omega);rw[show off+(k-off)=k by omega,hk]at o;have B:k-off<v.cells.size:=by omega
   have O:=A (k-off) v.cells[k-off] (by simp);exact⟨v.cells[k-off],by simp_all,r (k-off) x _ o.symm (by simp),q _ (by simp)⟩;grind)
  simp_all;cases h;cases h
theorem mi(he:bO s a.tmps env){place:Nat->Option (Nat×Nat)}: ∀{parts:List (Nat×Nat×Opd)} {ps:List (Nat×Operand)} {l:List (Nat×Nat×List AV)},
  (lI parts).run ⟨env,s.σ⟩=some l->sS place parts ps=true->
  l.length=(ps.map λx=>(x.1,a.eval x.2)).length/\
  ∀(k:Nat) off size cs i v,l[k]?=some (off,size,cs)->(ps.map λx=>(x.1,a.eval x.2))[k]?=some (i,v)->place i=some (off,size)/\cs.length=v.cells.size/\(∀u∈v.cells.toList,u.oneCell'=true)/\
   ∀(j:Nat) y u,cs[j]?=some y->v.cells[j]?=some u->JH s y u
 |[],[],l,h,_=>by
  grind [lI,RM.run]
 |[],_::_,_,_,hc=>by grind [sS]
 |_::_,[],_,_,hc=>by grind [sS]
 |(off,size,x)::parts,(i,y)::ps,l,h,hc=>by
  simp only[sS,aV,beq_iff_eq]at hc;obtain⟨⟨w,e⟩,hc⟩:=hc;simp only[lI]at h;obtain⟨v,h1,h⟩:=bind_some h;split at h;rename_i cs hcs;obtain⟨o,h2,h⟩:=bind_some h;simp only[RM.run]at h;injection h with h;subst h;obtain⟨g,n⟩:=mi he h2 hc;obtain⟨q,z,r⟩:=XF hcs (bK he h1 e);grind;cases h
theorem mj: ∀{fs:List Field},(∀f∈fs,(szT P f.type).isSome=true)-> ∀w:World,
  (fs.mapM λf=>do pure (f.offset,<-sizeOf f.type):Sem (List (Nat×Nat))).run P w=.ok (fs.map λf=>(f.offset,(szT P f.type).getD 0)) w
 |[],_,w=>by simp
 |f::fs,h,w=>by
  have hs:(szT P f.type)=some ((szT P f.type).getD 0):=by have:=h f (by simp);cases hq:szT P f.type<;>simp[hq]at this⊢
  have ih:=mj (fs:=fs) (λg e=>h g (by simp[e])) w;rw[List.mapM_cons];simp only[AB,iI hs,tW,dy,ih];simp
theorem JLt(hi:Inv s)(he:bO s a.tmps env){zero parts}(h:(opR F (.build zero parts) new).run ⟨env,s.σ⟩=some e)(hc:JX P (.build zero parts) o.op=true):bN P o a s e:=by
 simp only[opR]at h;obtain⟨l,h1,D⟩:=bind_some h;clear h;unfold JX at hc;simp only at hc;split at hc;rename_i t ps Z;simp only[aV]at hc;obtain⟨V,ht⟩:=hc;obtain⟨z,a0,J,K⟩:=yO V;split at D;rename_i cs hcs;obtain⟨r,W,rfl⟩:=hI D;have B: ∀(i:Nat) x,(zero.map AV.p)[i]?=some x-> ∃u,z.cells[i]?=some u/\JH s x u/\u.oneCell'=true:=by
  intro i x H;rw[iS]at H;cases hzi:zero[i]? with
  |none=>simp_all
  |some c=>
   simp[hzi]at H;subst H;have I:=JC hzi;have Q:i<z.cells.size:=by omega
   have:=K (w:=s.w) (C:=s.g.C) i c z.cells[i] hzi (by simp);exact⟨z.cells[i],by simp,.p _ _ this,this.one⟩
 have fin: ∀{place:Nat->Option (Nat×Nat)},sS place parts ps.toList=true->
   ∃j,Instr.fill place z.cells (ps.toList.map λx=>(x.1,a.eval x.2))=some j/\JH s r (.agg j):=by
  intro place A;obtain⟨O,S⟩:=mi he h1 A;obtain⟨j,E,R,U⟩:=kg (s:=s) (cells:=z.cells) hcs O S (by simp[J]) B;refine⟨j,E,?_⟩;have:=TY (s:=s) (vs:=j.toList) W (by simpa using R) (λv N=>by
    obtain⟨i,hi'⟩:=jU N;have hi':j[i]?=some v:=by simpa using hi'
    have I:=WU hi';obtain⟨u,M,_,h1⟩:=U i cs[i] (by simp_all);simp_all)
   (λi y v hy N=>by
    grind)
  simp_all
 have a1:(ps.map λx=>(x.1,a.eval x.2)).toList=ps.toList.map λx=>(x.1,a.eval x.2):=by simp
 split at ht;rename_i fs M;simp only[aV]at ht;obtain⟨k,A⟩:=ht;obtain⟨j,E,G⟩:=fin A;have Y:(λi=>(fs.map λf=>(f.offset,(szT P f.type).getD 0))[i]?)=GF P fs:=by
  funext i
  simp only[GF,Array.getElem?_map];cases hfi:fs[i]? with
  |none=>rfl
  |some f=>have:=ZV.1 k f (Array.mem_of_getElem? hfi);cases L:szT P f.type<;>simp[L]at this⊢
 refine JP hi (v:=.agg j) ?_ G;have T:(fs.mapM λf=>do pure (f.offset,<-sizeOf f.type):Sem (Array (Nat×Nat))).run P s.w=.ok (fs.map λf=>(f.offset,(szT P f.type).getD 0)) s.w:=by
  rw[Array.mapM_eq_mapM_toList];simp only[Sem.run_map,mj (P:=P) (fs:=fs.toList) (λf hf=>ZV.1 k f (by simpa using hf)),tW]
  congr 1
  grind
 have hf:Instr.fill (λi=>(fs.map λf=>(f.offset,(szT P f.type).getD 0))[i]?) z.cells (ps.map λx=>(x.1,a.eval x.2)).toList=some j:=by simp_all
 simp_all [Instr.build,GS,run_underlying,execOp];rename_i n el M;split at ht;rename_i q L;obtain⟨j,E,G⟩:=fin ht;refine JP hi (v:=.agg j) ?_ G;have hb:(Instr.build t (ps.map λx=>(x.1,a.eval x.2))).run P s.w=.ok (.agg j) s.w:=by simp_all [Instr.build,GS,run_underlying,iI]
 simp_all [execOp];cases ht;cases ht;cases D;cases hc
end
end Go.Am
end
section
namespace Go.Am
def sG(s:Sn)(esz:Nat)(rows:List (List PV))(c:Array Value):Prop:=(∀row∈rows,row.length=esz)/\rows.length*esz<=c.size/\ ∀(i j:Nat) row x,rows[i]?=some row->row[j]?=some x-> ∃u,c[i*esz+j]?=some u/\J0b s.w s.g.C x u
section
variable {P:Program} {F:Orc} {s:Sn} {a:Act} {env:List (Nat×AV)} {o:Oper} {new:Nat} {e:Eff}
theorem sG.mono{s0 s:Sn}(hi:Inv s0)(t:bD s0 s){esz rows c}(h:sG s0 esz rows c):sG s esz rows c:=
 ⟨h.1,h.2.1,λi j row x e g=>let⟨u,h1,h2⟩:=h.2.2 i j row x e g;⟨u,h1,h2.mono hi t⟩⟩
theorem kw{s0:Sn}(hi:Inv s0)(hn:s0.σ[new]?=some .dead){esz:Nat}{rows:List (List PV)}{c:Array Value}{g:TypeId}{fz:Nat×Nat}{w':World}{cap:Nat}
  (hh:w'.heap=s0.w.heap.push (.cells c g fz)) (ho:w'.os=s0.w.os) (hp:w'.output=s0.w.output) (hf:AS esz fz c.size) (hr:sG s0 esz rows c) (e:rows.length<=cap) (j:cap*esz<=c.size):
  (∃g',Inv ⟨s0.σ.set new (.arr true esz rows),g',w'⟩/\bD s0 ⟨s0.σ.set new (.arr true esz rows),g',w'⟩/\
   JH ⟨s0.σ.set new (.arr true esz rows),g',w'⟩ (.slr new 0 rows.length) (.slice (some ⟨s0.w.heap.size,0,none⟩) rows.length cap)):=by
 obtain⟨k,t'⟩:=UR hi hn (blk:=.arr true esz rows) hh ho hp hf.1 (λ_ _ _ h=>by injection h with _ h _;subst h;exact hf.2) hr;refine⟨_,k,t',.slr new 0 _ _ true esz rows ⟨_,_,rfl,.inr (by simp)⟩ (jP hn) (by omega) λ_=>.inr ⟨s0.w.heap.size,cap,c,g,fz,if_pos rfl,by simp,e,WB hh,by simpa using j⟩⟩
theorem lr{s0:Sn}(hi:Inv s0){esz:Nat}{rows:List (List PV)}{c:Array Value}{g:TypeId}{fz:Nat×Nat}{w':World}{cap:Nat}
  (hh:w'.heap=s0.w.heap.push (.cells c g fz)) (ho:w'.os=s0.w.os) (hp:w'.output=s0.w.output) (hr:sG s0 esz rows c) (e:rows.length<=cap):
  (∃g',Inv ⟨s0.σ,g',w'⟩/\bD s0 ⟨s0.σ,g',w'⟩/\JH ⟨s0.σ,g',w'⟩ (.p (.sl esz rows)) (.slice (some ⟨s0.w.heap.size,0,none⟩) rows.length cap)):=by
 obtain⟨h,t'⟩:=JJZ hi hh ho hp;refine⟨_,h,t',.p _ _ (m4 (s:=⟨s0.σ,_,w'⟩) rfl e hr.1 (.inr ⟨_,0,rfl,λi j row x hi' k=>⟨.inr rfl,?_⟩⟩))⟩;obtain⟨u,n,hrel⟩:=hr.2.2 i j row x hi' k;exact⟨u,by grind [lP],hrel.mono hi t'⟩
theorem Pl{E:List Blk}{tmps:Array Value}(he: ∀n x,lk n env=some x-> ∃v,a.tmps[n]?=some v): ∀{xs:List Opd} {e:List Operand} {s:Sn} {y:List (List PV)×List (Nat×Blk)},Inv s->Frz E s.σ->bO s a.tmps env->
  (fzs xs).run ⟨env,E⟩=some y->jF xs e=true->
  ∃g',Inv ⟨upd y.2 s.σ,g',s.w⟩/\bD s ⟨upd y.2 s.σ,g',s.w⟩/\Frz s.σ (upd y.2 s.σ)/\y.1.length=e.length/\
   ∀(k:Nat) cs q,y.1[k]?=some cs->e[k]?=some q->cs.length=(a.eval q).cells.size/\ ∀(i:Nat) c u,cs[i]?=some c->(a.eval q).cells[i]?=some u->J0b s.w g'.C c u
 |[],[],s,y,hi,o,r,h,_=>by
  simp only[fzs,RM.run]at h;injection h with h;subst h;exact⟨s.g,hi,.refl s,.refl _,rfl,λk cs q h=>by simp at h⟩
 |[],_::_,_,_,_,_,_,_,hc=>by grind [jF]
 |_::_,[],_,_,_,_,_,_,hc=>by grind [jF]
 |x::xs,q::e,s,y,hi,o,r,h,hc=>by
  simp only[jF,aV]at hc;simp only[fzs]at h;obtain⟨v,h1,h⟩:=bind_some h;obtain⟨j,h2,h⟩:=bind_some h;obtain⟨M,P,h⟩:=bind_some h;simp only[RM.run]at h;injection h with h;subst h;have D:(ev x).run ⟨env,s.σ⟩=some v:=by cases x<;>simp_all [ev,RM.run]
  have N:=bK r D hc.1;obtain⟨H,i1,B,A,K,I⟩:=gp hi o h2 N;obtain⟨F,i2,z,J,L,Q⟩:=Pl (tmps:=tmps) he (s:=⟨upd j.2 s.σ,H,s.w⟩) i1 (o.trans A) (r.mono hi B) P hc.2;refine⟨F,by grind [fE],by rw[fE];exact B.trans z,by rw[fE];exact A.trans J,by simp[L],λk cs q' hk G=>?_⟩;cases k with
  |zero=>simp at hk G;subst hk G;exact⟨K,λi c u hc O=>J0b.mono (s0:=⟨upd j.2 s.σ,H,s.w⟩) (s:=⟨upd M.2 (upd j.2 s.σ),F,s.w⟩) i1 z (I i c u hc O)⟩
  |succ k=>grind
theorem zb{esz:Nat}(y:0<esz): ∀{parts:List (Nat×List PV)} {ps:List (Nat×Value)} {rows rows':List (List PV)} {cells:Array Value},
  BZ esz parts rows=some rows'->parts.length=ps.length->
  (∀(k:Nat) i cs j v,parts[k]?=some (i,cs)->ps[k]?=some (j,v)->i=j/\cs.length=v.cells.size/\ ∀(m:Nat) c u,cs[m]?=some c->v.cells[m]?=some u->J0b s.w s.g.C c u)->
  sG s esz rows cells->cells.size=rows.length*esz->
  ∃e,Instr.fill (λi=>some (i*esz,esz)) cells ps=some e/\sG s esz rows' e/\rows'.length=rows.length/\e.size=rows.length*esz
 |[],[],rows,rows',cells,h,_,_,hr,hs=>by simp[BZ]at h;subst h;exact⟨cells,rfl,hr,rfl,hs⟩
 |[],_::_,_,_,_,_,hl,_,_,_=>by simp at hl
 |_::_,[],_,_,_,_,hl,_,_,_=>by simp at hl
 |(i,cs)::parts,(j,v)::ps,rows,rows',cells,h,hlen,hp,hr,hs=>by
  unfold BZ at h;split at h;rename_i hc;obtain⟨rfl,K,A⟩:=hp 0 i cs j v rfl rfl;have B:i*esz+esz<=rows.length*esz:=(by have:=zQ4 esz (show i+1<=rows.length from hc.2);grind);obtain⟨n,L,N,E,D⟩:=x7 (place:=λi=>some (i*esz,esz)) (v:=v) (rest:=ps) (cells:=cells) (i:=i) rfl (by omega) (by omega);obtain⟨F,S,G⟩:=hr;obtain⟨e,Q,P,O,M⟩:=zb y (cells:=n) h (by simpa using hlen) (λk i cs j v h1 h2=>hp (k+1) i cs j v (by simpa using h1) (by simpa using h2))
   ⟨λrow R=>by
     grind,by simp;omega,λk m row x hk o=>by
     by_cases q:k=i;subst q;rw[DZ hc.2]at hk;injection hk with hk;subst hk;have J:=JC o;have r:m<v.cells.size:=by omega
     exact⟨v.cells[m],E m _ (by simp),A m x _ o (by simp)⟩;rw[ch (Ne.symm q)]at hk;obtain⟨u,H,hrel⟩:=G k m row x hk o;refine⟨u,?_,hrel⟩;rw[D _ ?_];exact H;have z:=JC o;rw[F row (jM hk)]at z;rcases zQ3 k i with r|I;grind [nO];right;have:=zQ4 esz (show i+1<=k by omega);grind⟩ (by simp;omega)
  grind;cases h
theorem UV{t:TypeId}{n:Nat}(h:szT P t=some n): ∃i,P.info? t=some i/\i.size=n:=by simp_all [szT]
theorem iy{t:TypeId}{v:Value}{i:TypeInfo}(h:zeT P t=some v)(hi:P.info? t=some i):i.zero=some v:=by
 grind [zeT]
theorem Ps{t:TypeId}{n:Nat}{i:TypeInfo}(h:byT P t=some n)(hi:P.info? t=some i):i.bytes=n:=by
 grind [byT]
theorem JMC{z:Array Value}{esz n i j:Nat}(hz:z.size=esz)(hi:i<n)(hj:j<esz):(madeCells z (n*esz))[i*esz+j]?=z[j]?:=by
 grind [nO,Nat.add_mul_mod_self_right,Nat.mod_eq_of_lt,madeCells]
theorem Ac{zero:List PV}{z:Value}{esz n m:Nat}(hl:zero.length=esz)(k:zero.length=z.cells.size)
  (g: ∀{w C} (i:Nat) x u,zero[i]?=some x->z.cells[i]?=some u->J0b w C x u) (q:n<=m):sG s esz (List.replicate n zero) (madeCells z.cells (m*esz)):=by
 refine⟨λrow v=>by simp_all,?_,λi j row x hi h=>?_⟩;simp_all [size_madeCells,zQ4];have e:=JC hi;have:=List.eq_of_mem_replicate (jM hi);subst this;have o:=JC h;simp at e;have r:z.cells.size=esz:=by omega
 refine⟨z.cells[j],?_,g j x _ h (by simp)⟩;grind [JMC]
theorem JGT(hi:Inv s)(he:bO s a.tmps env){own esz bytes zero l c}(hn:own=true->s.σ[new]?=some .dead)(h:(opR F (.mkslice own esz bytes zero l c) new).run ⟨env,s.σ⟩=some e)
  (hc:JX P (.mkslice own esz bytes zero l c) o.op=true):bN P o a s e:=by
 simp only[opR]at h;obtain⟨u,h1,D⟩:=bind_some h;obtain⟨v,h2,g⟩:=bind_some D;clear h D;unfold JX at hc;simp only at hc;split at hc;rename_i t Y c' W;simp only[aV]at hc;obtain⟨⟨hl,C⟩,ht⟩:=hc;have T:=bK he h1 hl;have U:=bK he h2 C;split at ht;rename_i el E;simp only[aV,beq_iff_eq,decide_eq_true_eq]at ht;obtain⟨⟨⟨⟨⟨hs,K⟩,V⟩,H⟩,R⟩,Q⟩:=ht;obtain⟨i,j,I⟩:=UV hs;obtain⟨z,G,J,L⟩:=yO V;have O:=Ps K j;split at g;rename_i k n S m;split at g;rename_i r;obtain⟨M,N,hb,hm⟩:=r;have e1:=jJ T;have Z:=jJ U;have A:=run_make (P:=P) s.w t el i z (iJ E) j (iy G j) k S n m M N (by simp_all) (by omega);rw[I]at A;have q:sG s esz (List.replicate n.toNat zero) (madeCells z.cells (m.toNat*esz)):=Ac H J L (by omega);have x:(execOp a.eval o).run P s.w=.ok (.value (.slice (some ⟨s.w.heap.size,0,none⟩) n.toNat m.toNat)) (s.w.alloc (.cells (madeCells z.cells (m.toNat*esz)) el)):=by simp_all [execOp]
 split at g;rename_i y;simp only[RM.run]at g;injection g with g;subst g;obtain⟨g',B,t',r'⟩:=kw hi (hn y) (w':=s.w.alloc (.cells (madeCells z.cells (m.toNat*esz)) el)) (fz:=(0,0)) rfl rfl rfl (AS.zero _ _) q (cap:=m.toNat) (by simp;omega) (by simp[size_madeCells]);simp only[AJ]at r';exact gE x B t' r';simp only[RM.run]at g;injection g with g;subst g;obtain⟨g',B,t',r'⟩:=lr hi (w':=s.w.alloc (.cells (madeCells z.cells (m.toNat*esz)) el)) (fz:=(0,0)) rfl rfl rfl q (cap:=m.toNat) (by simp;omega);simp only[AJ]at r';exact gE (e:=⟨_,[]⟩) x B t' r';cases g;cases g;cases ht;cases hc
theorem JOY(hi:Inv s)(he:bO s a.tmps env){own esz n zero parts}(hn:own=true->s.σ[new]?=some .dead)(h:(opR F (.lits own esz n zero parts) new).run ⟨env,s.σ⟩=some e)
  (hc:JX P (.lits own esz n zero parts) o.op=true):bN P o a s e:=by
 simp only[opR]at h;obtain⟨y,h1,r⟩:=bind_some h;clear h;unfold JX at hc;simp only at hc;split at hc;rename_i t len ps ac;simp only[aV,beq_iff_eq]at hc;obtain⟨rfl,ht⟩:=hc;split at ht;rename_i el I;simp only[aV,beq_iff_eq,decide_eq_true_eq]at ht;obtain⟨⟨⟨⟨⟨hs,ad⟩,hz⟩,Z⟩,N⟩,M⟩:=ht;obtain⟨z,W,a0,a4⟩:=yO hz;have A:jF (parts.map (·.2)) (ps.toList.map (·.2))=true/\parts.map (·.1)=ps.toList.map (·.1):=by
  have: ∀{p:List (Nat×Opd)} {q:List (Nat×Operand)},MJ p q=true->jF (p.map (·.2)) (q.map (·.2))=true/\p.map (·.1)=q.map (·.1):=by
   intro p
   induction p with
   |nil=>intro q h;cases q<;>simp[MJ]at h⊢;rfl
   |cons x p ih=>intro q h;cases q<;>grind [MJ,jF]
  exact this M
 obtain⟨T,i1,t1,f1,l1,r1⟩:=Pl (tmps:=a.tmps) (λn x hx=>let⟨v,h,_⟩:=he n x hx;⟨v,h⟩) hi (.refl _) he h1 A.1;split at r;rename_i rows G;have E:(parts.map (·.1)).length=(ps.toList.map (·.1)).length:=by rw[A.2]
 simp at E;simp at l1;have R:((parts.map (·.1)).zip y.1).length=(ps.toList.map λx=>(x.1,a.eval x.2)).length:=by simp;omega
 obtain⟨g,O,r2,B,V⟩:=zb (s:=⟨upd y.2 s.σ,T,s.w⟩) N (ps:=ps.toList.map λx=>(x.1,a.eval x.2)) (cells:=madeCells z.cells (len*esz)) G R (λk i cs j v hk S=>by
   rw[List.getElem?_zip_eq_some]at hk;obtain⟨H,U⟩:=hk;rw[iS]at S;cases hpk:ps.toList[k]? with
   |none=>simp_all
   |some q=>
    simp[hpk]at S;obtain⟨rfl,rfl⟩:=S;rw[A.2,iS,hpk]at H;simp at H;obtain⟨k3,k4⟩:=r1 k cs q.2 U (by simp_all);grind)
  (Ac Z a0 a4 (zQ0 _)) (by simp[size_madeCells])
 simp at B V;have J:(execOp a.eval o).run P s.w=.ok (.value (.slice (some ⟨s.w.heap.size,0,none⟩) len len)) (s.w.alloc (.cells g el)):=by
  have D: ¬(len*esz>2^24):=by omega
  have K:(ps.map fun(x:Nat×Operand)=>(x.1,a.eval x.2)).toList=ps.toList.map λx=>(x.1,a.eval x.2):=by simp
  have hb:(Instr.buildSlice t len (ps.map fun(x:Nat×Operand)=>(x.1,a.eval x.2))).run P s.w=.ok (.slice (some ⟨s.w.heap.size,0,none⟩) len len) (s.w.alloc (.cells g el)):=by
   unfold Instr.buildSlice;by_cases h0:len*esz=0;have C:madeCells z.cells (len*esz)= #[]:=by grind [madeCells]
   rw[C]at O;have Y: ¬((0:Nat)>2^24):=by decide
   have a3:Array.range 0= #[]:=rfl;simp only[Y,AB,run_underlying (iJ I),tW,iI hs,D,if_false,h0,if_true,dy,K,a3,Array.map_empty,O,newRow,run_newObj];rfl;have C:((Array.range (len*esz)).map λx=>z.cells[x%z.cells.size]!)=madeCells z.cells (len*esz):=rfl;simp only[AB,run_underlying (iJ I),tW,iI hs,D,if_false,h0,GS W,dy,K,C,O,newRow,run_newObj];rfl
  simp_all [execOp]
 split at r;rename_i L;simp only[RM.run]at r;injection r with r;subst r;have a1:(upd y.2 s.σ)[new]?=some .dead:=f1.2 _ _ (hn L) (by simp);obtain⟨g',Q,t',r'⟩:=kw (s0:=⟨upd y.2 s.σ,T,s.w⟩) i1 a1 (w':=s.w.alloc (.cells g el)) (fz:=(0,0)) rfl rfl rfl (AS.zero _ _) r2 (cap:=len) (by omega) (by omega);rw[B]at r';refine gE (e:=⟨_,y.2++[(new,.arr true esz rows)]⟩) (g':=g') J ?_ ?_ ?_;rw[fE];exact Q;rw[fE];exact t1.trans t';rw[fE];exact r';simp only[RM.run]at r;injection r with r;subst r;obtain⟨g',Q,t',r'⟩:=lr (s0:=⟨upd y.2 s.σ,T,s.w⟩) i1 (w':=s.w.alloc (.cells g el)) (fz:=(0,0)) rfl rfl rfl r2 (cap:=len) (by omega);rw[B]at r';exact gE (e:=⟨_,y.2⟩) J Q (t1.trans t') r';cases r;cases ht;cases hc
end
end Go.Am
end
section
namespace Go.Am
section
variable {P:Program} {F:Orc} {s:Sn} {a:Act} {env:List (Nat×AV)} {o:Oper} {new:Nat} {e:Eff}
theorem A5(l:List UInt8)(c:Array Value)(hc: ∀(i:Nat) b,l[i]?=some b->c[i]?=some (.int .u8 b.toNat))(hl:l.length<=c.size):sG s 1 (l.map nQ) c:=by
 refine⟨λrow g=>?_,by simpa using hl,λi j row x hi e=>?_⟩;obtain⟨b,_,rfl⟩:=gY.1 g;rfl;rw[iS]at hi;cases hli:l[i]? with
 |none=>simp_all
 |some b=>
  simp[hli]at hi;subst hi;have:j=0:=by grind [nQ]
  subst this;simp[nQ]at e;subst e;exact⟨_,by simp_all,.i _ _⟩
theorem O1{α:Type}{esz:Nat}: ∀{rows:List (List α)},(∀row∈rows,row.length=esz)-> ∀{i j:Nat} {row:List α} {x:α},rows[i]?=some row->row[j]?=some x->rows.flatten[i*esz+j]?=some x
 |[],_,i,j,row,x,h,_=>by simp at h
 |r0::e,hl,i,j,row,x,h,k=>by
  have n:r0.length=esz:=hl r0 (by simp);cases i with
  |zero=>
   grind
  |succ i=>
   simp only[tS];rw[rX (by grind)];have:=O1 (rows:=e) (λrow g=>hl row (by simp[g])) (by simpa using h) k;grind
theorem JBx{el:TypeId}(l:List UInt8)(w:World): ∃w' cap c fz,(Conv.stringToBytes el ⟨l.toArray⟩).run P w=.ok (.slice (some ⟨w.heap.size,0,none⟩) l.length cap) w'/\
  w'.heap=w.heap.push (.cells c el fz)/\w'.os=w.os/\w'.output=w.output/\EM fz 0 c.size/\l.length<=cap/\c.size=cap/\ ∀(i:Nat) b,l[i]?=some b->c[i]?=some (.int .u8 b.toNat):=by
 have hf:(Question.appendCap l.length 0 el).forced=false:=rfl;have e:l.length<=(Question.appendCap l.length 0 el).cut (w.tape w.drawn (.appendCap l.length 0 el)):=by simp[Question.cut]
 generalize j:(Question.appendCap l.length 0 el).cut (w.tape w.drawn (.appendCap l.length 0 el))=cap at e
 let c:Array Value:=(l.toArray.map λb=>Value.int .u8 b.toNat)++Array.replicate (cap-l.length) (.int .u8 0)
 have hc:c.size=cap:=by simp[c];omega
 refine⟨({w with drawn:=w.drawn+1,heap:=w.heap.push (.cells c el)}).freeze {block:=w.heap.size,off:=c.size} 1,cap,c,(c.size,c.size+1),?_,?_,?_,?_,?_,e,hc,?_⟩;unfold Conv.stringToBytes;have hs:ByteArray.size ⟨l.toArray⟩=l.length:=vA l;have g:World.shape? {w with drawn:=w.drawn+1,heap:=w.heap.push (.cells c el)} w.heap.size=some (el,c.size):=by simp[World.shape?]
 have k:(Array.map (λb=>Value.int IntKind.u8 ↑(UInt8.toNat b)) l.toArray++Array.replicate (cap-l.length) (Value.int IntKind.u8 0))=c:=rfl;simp only[AB,run_choose,hs,hf,fB,if_false,tW,j,newRow,run_newObj,dy,markStringish,run_shape,run_freeze,k,g];grind [World.freeze];simp[World.freeze];simp[World.freeze];intro o _ h;simp;omega;grind
theorem JHu(hi:Inv s)(he:bO s a.tmps env){own x}(hn:own=true->s.σ[new]?=some .dead)(h:(opR F (.conv (.toBytes own) x) new).run ⟨env,s.σ⟩=some e)
  (hc:JX P (.conv (.toBytes own) x) o.op=true):bN P o a s e:=by
 simp only[opR]at h;obtain⟨u,h1,g⟩:=bind_some h;clear h;unfold JX at hc;simp only at hc;split at hc;rename_i J dst y H;simp only[aV]at hc;obtain⟨G,hs,ht⟩:=hc;have D:=bK he h1 G;split at ht;rename_i el I;simp only[aV,beq_iff_eq]at ht;have r: ∃l,u=.p (.s l)/\(if own=true then RM.ret ⟨.slr new 0 l.length,[(new,.arr true 1 (l.map nQ))]⟩else RM.ret ⟨.p (.sl 1 (l.map nQ)),[]⟩:RM Eff).run ⟨env,s.σ⟩=some e:=by
  cases u with
  |p c=>cases c with|s l=>simp_all|_=>cases g
  |_=>cases g
 clear g;obtain⟨l,rfl,g⟩:=r
 skip
 obtain⟨w',cap,c,fz,C,A,z,v,hf,B,hcs,E⟩:=JBx (P:=P) (el:=el) l s.w;have K:=uR D;have k:(execOp a.eval o).run P s.w=.ok (.value (.slice (some ⟨s.w.heap.size,0,none⟩) l.length cap)) w':=by simp_all [execOp,convert,run_underlying,yJ,iJ,xp]
 have j:=A5 (s:=s) l c E (by omega);split at g;rename_i n;simp only[RM.run]at g;injection g with g;subst g;obtain⟨g',q,t',r'⟩:=kw (esz:=1) hi (hn n) A z v ⟨hf,λh=>absurd rfl h⟩ j (cap:=cap) (by simp_all) (by omega);simp only[dW]at r';exact gE k q t' r';simp only[RM.run]at g;injection g with g;subst g;obtain⟨g',q,t',r'⟩:=lr hi A z v j (cap:=cap) (by simp_all);simp only[dW]at r';exact gE (e:=⟨_,[]⟩) k q t' r';cases ht;cases hc
theorem JPP(hi:Inv s){esz:Nat}{x:AV}{new:List (List PV)}{v:Value}{u:TypeId}(h:(gB esz x).run ⟨env,s.σ⟩=some new)(hr:JH s x v)
  (hu:(elT P u).isSome=true\/kZ P u=true):
  ∃news,Src P esz u v new.length news s.w/\(∀row∈new,row.length=esz)/\
   ∀(i j:Nat) row y,new[i]?=some row->row[j]?=some y-> ∃q,news[i*esz+j]?=some q/\J0b s.w s.g.C y q:=by
 have e:(∃e',P.underlying u=some (.slice e'))\/P.underlying u=some .string:=(by rcases hu with hu|hu;obtain⟨e',N⟩:=qs.1 hu;simp_all [iJ];grind [yJ]);rcases zm hi h hr with⟨l,rfl,rfl,rfl,rfl⟩|F;have hlen:(byteCells ⟨l.toArray⟩).length=l.length:=by rw[byteCells_length,vA]
 have Q: ∀w:World,(Builtin.firstCells 1 l.length (.string ⟨l.toArray⟩)).run P w=.ok (byteCells ⟨l.toArray⟩).toArray w:=(by grind [firstCells_string,vA]);refine⟨byteCells ⟨l.toArray⟩,⟨e,λw=>by rw[dW,<-vA];rfl,by simp_all,by simp_all,by rw[hlen];simp,λq I=>by obtain⟨_,_,rfl⟩:=gY.1 I;rfl⟩,λrow hr=>?_,?_⟩;obtain⟨b,_,rfl⟩:=gY.1 hr;rfl;have:=(A5 (s:=s) l (byteCells ⟨l.toArray⟩).toArray (λi b hb=>by
  grind [byteCells]) (by simp_all)).2.2
 simp_all;obtain⟨D,cap,vs,K,G,hlen,hrel,A,n⟩:=F.cells;have z: ∀q∈vs,q.oneCell'=true:=by
  intro q I;obtain⟨k,hk⟩:=jU I;have M:=JC hk;have:k<new.flatten.length:=by grind [VK]
  obtain⟨q',o,hr⟩:=hrel k _ (bA this);rw[hk]at o;injection o with o;subst o;exact hr.one
 have B: ∀(i j:Nat) row y,new[i]?=some row->row[j]?=some y-> ∃q,vs[i*esz+j]?=some q/\J0b s.w s.g.C y q:=by
  intro i j row y h1 h2;refine hrel _ _ ?_;clear hrel A hlen z h hr K G F
  induction new generalizing i with
  |nil=>simp at h1
  |cons J new ih=>have O:J.length=esz:=n J (by simp);cases i<;>grind
 subst K;rcases A with H|⟨r,L,rfl,R⟩;subst H;simp at hlen;subst hlen;refine⟨[],?_,n,B⟩;cases D with
 |none=>exact⟨e,λ_=>rfl,run_firstCells_none s.w esz 0 0 cap,run_firstCells_none s.w.drew esz 0 0 cap,by simp,λ_ h=>by cases h⟩
 |some D=>exact⟨e,λ_=>rfl,run_firstCells_some s.w esz 0 D 0 cap [] (by simp) (λj u h=>by simp at h),run_firstCells_some s.w.drew esz 0 D 0 cap [] (by simp) (λj u h=>by simp at h),by simp,λ_ h=>by cases h⟩
 have E: ∀j q,vs[j]?=some q->s.w.cell? (Addr.add ⟨r,L,none⟩ j)=some q:=λj q S=>by grind [GN,uV]
 exact⟨vs,⟨e,λ_=>rfl,run_firstCells_some s.w esz _ _ _ cap vs hlen E,run_firstCells_some s.w.drew esz _ _ _ cap vs hlen (by simpa using E),hlen,z⟩,n,B⟩
theorem UE(b:Nat)(x:Blk)(σ:List Blk):upd [(b,x)] σ=σ.set b x:=rfl
structure Il(P:Program)(esz bytes:Nat)(t ut ty el:TypeId)(z v:Value)(n:Nat)(news:List Value)(w:World):Prop where
 newsLen:news.length=n*esz
 room: ∀(r off sLen sCap:Nat),sLen+n<=sCap->(∀j,j<news.length->(w.cell? ⟨r,off+sLen*esz+j,none⟩).isSome=true)->(∀j,j<news.length->w.frozen? ⟨r,off+sLen*esz+j,none⟩=false)->
  (Builtin.append_ #[t,ut] ty #[.slice (some ⟨r,off,none⟩) sLen sCap,v]).run P w=.ok (.slice (some ⟨r,off,none⟩) (sLen+n) sCap) (w.setCells r (off+sLen*esz) news)
 grow: ∀(base:Option Addr) (sLen sCap:Nat) (olds:List Value),(Builtin.firstCells esz sLen (.slice base sLen sCap)).run P w.drew=.ok olds.toArray w.drew->sCap<sLen+n->((sLen+n:Nat):Int)<=9223372036854775807->
  Builtin.nextslicecap (sLen+n) sCap*bytes<=281474976710656->
  (Builtin.append_ #[t,ut] ty #[.slice base sLen sCap,v]).run P w=.ok (.slice (some ⟨w.heap.size,0,none⟩) (sLen+n) (grownCap w (sLen+n) sCap el)) (w.drew.alloc (.cells ((olds++news).toArray++Builtin.zeroCells z.cells (grownCap w (sLen+n) sCap el-(sLen+n))) el))
 nil:n=0->(Builtin.append_ #[t,ut] ty #[.slice none 0 0,v]).run P w=.ok (.slice none 0 0) w
theorem Src.gen{esz bytes:Nat}{t ut ty el:TypeId}{i:TypeInfo}{z v:Value}{n:Nat}{news:List Value}{w:World}(g:elT P t=some el)(hs:szT P el=some esz)(j:P.info? el=some i)(q:i.size=esz)(x:i.bytes=bytes)(k:i.zero=some z)
  (h:Src P esz ut v n news w):Il P esz bytes t ut ty el z v n news w:=by
 have e:=h;rw[<-q]at e;refine⟨h.newsLen,λr off sLen sCap h1 h2 y=>?_,λbase sLen sCap olds h1 h2 y C=>?_,λB=>?_⟩;have A:=run_append_room_src (P:=P) w t ut ty el i (iJ g) j r off sLen sCap v n news e h1 (by simp_all) (by simp_all);simp_all;exact run_append_grow_src (P:=P) w t ut ty el i z (iJ g) j k base sLen sCap olds (by simp_all) v n news e h2 y (by simp_all);subst B;have hl:=h.len w;have o:=h.cells;rcases h.kind with⟨e',hk⟩|hk;simp[Builtin.append_,run_underlying (iJ g),run_underlying hk,iI hs,hl,o];simp[Builtin.append_,run_underlying (iJ g),run_underlying hk,iI hs,hl,o]
theorem JJO(hi:Inv s){esz bytes:Nat}{zero:List PV}{u v:AV}{c:Call}{Z Y:Operand}{t ut el:TypeId}(b8:o.op=.call c)(au:c.callee=.builtin .append)
  (ab:c.args.toList=[Z,Y]) (bq:c.argTypes.toList=[t,ut]) (cf:elT P t=some el)
  (ht:(szT P el==some esz&&byT P el==some bytes&&mX P zero el&&zero.length==esz&&decide (0<esz)&&decide (0<bytes))=true)
  (rx:JH s u (a.eval Z)) (hG: ∀(i:TypeInfo) (z:Value) (new:List (List PV)),szT P el=some esz->P.info? el=some i->i.size=esz->i.bytes=bytes->i.zero=some z->zeT P el=some z->zero.length=z.cells.size->new.length*bytes<=281474976710656->new.length<=281474976710656->(gB esz v).run ⟨env,s.σ⟩=some new->
   ∃news,Il P esz bytes t ut o.type el z (a.eval Y) new.length news s.w/\(∀row∈new,row.length=esz)/\
    ∀(i j:Nat) row y,new[i]?=some row->row[j]?=some y-> ∃q,news[i*esz+j]?=some q/\J0b s.w s.g.C y q)
  (x:(jV esz bytes u v).run ⟨env,s.σ⟩=some e):bN P o a s e:=by
 simp only[aV,beq_iff_eq,decide_eq_true_eq]at ht;obtain⟨⟨⟨⟨⟨hs,b3⟩,hz⟩,c7⟩,bh⟩,af⟩:=ht;obtain⟨i,L,az⟩:=UV hs;obtain⟨z,ak,cg,c8⟩:=yO hz;have I:=Ps b3 L;have ac:=iy ak L;have hm:c.args.map a.eval= #[a.eval Z,a.eval Y]:=by apply OZ;simp[ab]
 have b0:c.argTypes= #[t,ut]:=by grind
 have a4: ∀{q:Value} {w':World},(Builtin.append_ #[t,ut] o.type #[a.eval Z,a.eval Y]).run P s.w=.ok q w'->(execOp a.eval o).run P s.w=.ok (.value q) w':=by intro q w' hr;simp[execOp,b8,resolve,au,hm,b0,invoke,builtin,hr]
 unfold jV at x;split at x;rename_i b j n;simp only[RM.run]at x;split at x;rename_i blk hb;split at x;rename_i wm V rows;obtain⟨h,h3,S⟩:=bind_some x;clear x;split at S;rename_i a9;obtain⟨rfl,rfl,rfl,aa⟩:=a9;simp only[RM.run]at S;injection S with S;subst S;have hb:s.σ[b]?=some (.arr wm esz rows):=hb;have aa:(2*(rows.length+h.length)+512)*bytes<=281474976710656:=by grind [qN]
 have ba:rows.length+h.length<=281474976710656:=by have h5:(2*(rows.length+h.length)+512)*1<=(2*(rows.length+h.length)+512)*bytes:=Nat.mul_le_mul_left _ af;omega
 have an:h.length*bytes<=281474976710656:=(by grind);obtain⟨news,H,D,M⟩:=hG i z h hs L az I ac ak (by omega) an (by omega) h3;have a0:=H.newsLen;have J:=kX.of_slr hi rx hb (by omega);simp only[EK]at J;generalize Q:a.eval Z=zz at rx;have bo: ∀{old:Nat},old<rows.length+h.length->Builtin.nextslicecap (rows.length+h.length) old*i.bytes<=281474976710656:=by intro old ho;have h5:=nextslicecap_le ho;rw[I];have h6:Builtin.nextslicecap (rows.length+h.length) old*bytes<=(2*(rows.length+h.length)+512)*bytes:=zQ4 _ (by omega);omega
 have grow: ∀{base:Option Addr} {cap:Nat},zz=.slice base rows.length cap->cap<rows.length+h.length->
   bN P o a s ⟨.slr b 0 (rows.length+h.length),[(b,.arr wm esz (rows++h))]⟩:=by
  intro base cap ai b2;rw[Q]at J;obtain⟨ad,bg,vs,T,bb,F,a7,ae,G⟩:=J.cells;rw[ai]at T;injection T with v1 v2 v3;subst v1 v3;have ap:(Builtin.firstCells esz rows.length (.slice base rows.length cap)).run P s.w.drew=.ok vs.toArray s.w.drew:=by
   rcases ae with al|⟨r,o',rfl,cb⟩;subst al;simp at F;subst F;cases base<;>grind [run_firstCells_none,run_firstCells_some]
   exact run_firstCells_some s.w.drew esz _ _ _ cap vs F (λj q hj=>by
   have:s.w.drew.cell? (Addr.add ⟨r,o',none⟩ j)=s.w.cell? (Addr.add ⟨r,o',none⟩ j):=by simp
   grind [GN,uV])
  have A:=H.grow base rows.length cap vs ap b2 (by omega) (by grind);have aj:rows.length+h.length<=grownCap s.w (rows.length+h.length) cap el:=by simp[grownCap,Question.cut]
  generalize grownCap s.w (rows.length+h.length) cap el=R at A aj;have ay:h≠[]:=by grind
  have c9:z.cells.size=esz:=by omega
  obtain⟨i0,t0⟩:=xz (w':=s.w.drew) hi rfl rfl rfl;have bm:((vs++news).toArray++Builtin.zeroCells z.cells (R-(rows.length+h.length))).size=R*esz:=by
   have:R*esz=(rows.length+h.length)*esz+(R-(rows.length+h.length))*esz:=by rw[<-zQ8];congr 1;omega
   grind [size_zeroCells]
  obtain⟨g',bs,i',t'⟩:=JLQ (s0:=⟨s.σ,s.g,s.w.drew⟩) i0 (w':=s.w.drew.alloc (.cells ((vs++news).toArray++Builtin.zeroCells z.cells (R-(rows.length+h.length))) el)) hb ay G D rfl rfl rfl
   (by grind) (λk m row q hk hq=>by
    have N:=JC hq;rcases NM hk with hk|⟨bj,hk⟩;have W:=JC hk;rw[G row (jM hk)]at N;have ao:=nO W N;have b4:=O1 G hk hq;obtain⟨w,hw,hrel⟩:=a7 _ q b4;refine⟨w,?_,hrel.mono hi t0⟩;grind;rw[D row (jM hk)]at N;have W:=JC hk;have ao:=nO W N;obtain⟨w,hw,hrel⟩:=M _ m row q hk hq;have e4:k*esz+m=rows.length*esz+((k-rows.length)*esz+m):=(by grind [Nat.add_sub_cancel']);refine⟨w,?_,hrel.mono hi t0⟩;rw[JT9 (by simp;omega)];simp;rw[rX (by omega),<-hw];congr 1;omega)
  refine gE (e:=⟨.slr b 0 (rows.length+h.length),[(b,.arr wm esz (rows++h))]⟩) (g':=g') (a4 (by rw[Q,ai];exact A)) i' (t0.trans t') ?_;refine .slr b 0 _ _ wm esz (rows++h) ⟨_,_,rfl,.inr (by simp)⟩ (jP hb) (by simp) λ_=>.inr ⟨_,R,_,el,(0,0),bs,by simp,aj,WB rfl,?_⟩;grind
 cases rx with
 |slr _ _ _ _ wm' V rows' q0 U q2 q3=>
  have U:s.σ[b]?=some (.arr wm' V rows'):=U;rw[hb]at U;injection U with U;injection U with a1 a2 a3;subst a1 a2 a3;rcases q3 (by omega)with⟨m',_,b7,T⟩|⟨r,cap,cc,e1,fz,m',T,bd,hh,bt⟩;have a8:rows=[]:=List.eq_nil_of_length_eq_zero b7;subst a8;by_cases aq:h=[];subst aq;simp at a0;subst a0;subst T;have A:(Builtin.append_ #[t,ut] o.type #[.slice none 0 0,a.eval Y]).run P s.w=.ok (.slice none 0 0) s.w:=by exact H.nil rfl
  have K:s.σ.set b (.arr wm esz [])=s.σ:=(by apply zQ6;grind);refine gE (e:=⟨.slr b 0 0,[(b,.arr wm esz [])]⟩) (g':=s.g) (a4 (by rw[Q];exact A)) ?_ ?_ ?_;rw[UE,K];exact hi;rw[UE,K];exact .refl s;rw[UE,K];exact .slr b 0 0 _ wm esz [] ⟨none,0,rfl,.inl rfl⟩ hb (zQ0 _) λ_=>.inl ⟨m',rfl,rfl,rfl⟩;grind [List.length_pos_iff];subst T;by_cases E:rows.length+h.length<=cap;rcases hi.arr b _ _ _ hb with⟨B,_⟩|⟨r',c',e',ca,B,O,bp,hlen,cd,b6⟩;grind;rw[m']at B;injection B with B;injection B with B _;subst B;rw[hh]at O;injection O with O;injection O with w1 w2 w3;subst w1 w2 w3;have bw:(rows.length+h.length)*esz<=cc.size:=(by have:=zQ4 esz E;grind);have bn:(rows.length+h.length)*esz=rows.length*esz+h.length*esz:=zQ8 _ _ _;have a6:=HT (vs:=news) (o:=rows.length*esz) hh (by omega);obtain⟨i',t'⟩:=JO6 hi hb m' D a6 a0 M;have A:=H.room r 0 rows.length cap E
   (λk hk=>by rw[uV,lP hh];simp;omega)
   (λk hk=>by
    have:=b6.1 (0+rows.length*esz+k) (by omega) (by omega);grind [World.frozen?])
  simp only[qM]at A;obtain⟨c0,e0,ce,b1,p1,p2,p3,p4,p5,p6⟩:=a6.there;rw[hh]at p1;injection p1 with p1;injection p1 with w1 w2 w3;subst w1 w2 w3;refine gE (e:=⟨.slr b 0 (rows.length+h.length),[(b,.arr wm esz (rows++h))]⟩) (a4 (by rw[Q];simpa using A)) i' t' ?_;refine .slr b 0 _ _ wm esz (rows++h) ⟨_,_,rfl,.inr (by simp)⟩ (jP hb) (by simp) λ_=>.inr ⟨r,cap,b1,e1,fz,m',by simp,E,p2,by grind⟩;grind
 cases S;cases x;cases x;cases x
theorem P6(hi:Inv s){esz bytes:Nat}{zero:List PV}{u v:AV}{c:Call}{B A:Operand}{t ut el:TypeId}(x:o.op=.call c)(r:c.callee=.builtin .append)
  (h:c.args.toList=[B,A]) (n:c.argTypes.toList=[t,ut]) (z:((elT P ut).isSome||kZ P ut)=true) (k:elT P t=some el)
  (ht:(szT P el==some esz&&byT P el==some bytes&&mX P zero el&&zero.length==esz&&decide (0<esz)&&decide (0<bytes))=true)
  (D:JH s u (a.eval B)) (E:JH s v (a.eval A)) (y:(jV esz bytes u v).run ⟨env,s.σ⟩=some e):bN P o a s e:=
 JJO hi x r h n k ht D (λ_ _ _ hs q C g j _ _ _ _ F=>by obtain⟨news,w,h1,h2⟩:=JPP (u:=ut) hi F E (Bool.or_eq_true_iff.1 z);exact⟨news,Src.gen k hs q C g j w,h1,h2⟩) y
theorem JQa(hi:Inv s)(he:bO s a.tmps env){esz bytes zero x y}(h:(opR F (.app esz bytes zero x y) new).run ⟨env,s.σ⟩=some e)(hc:JX P (.app esz bytes zero x y) o.op=true):bN P o a s e:=by
 simp only[opR]at h;obtain⟨u,h1,r⟩:=bind_some h;obtain⟨v,h2,q⟩:=bind_some r;clear h r;unfold JX at hc;simp only at hc;split at hc;rename_i c n;split at hc;rename_i k;split at hc;rename_i D C t ut g j;simp only[aV]at hc;obtain⟨⟨⟨B,A⟩,w⟩,ht⟩:=hc;split at ht;rename_i el z;exact P6 hi n k g j w z (by omega) (bK he h1 B) (bK he h2 A) q;cases ht;cases hc;cases hc;cases hc
theorem JOW(hi:Inv s)(he:bO s a.tmps env)(hn:s.σ[new]?=some .dead){esz bytes zero y}(h:(opR F (.appn esz bytes zero y) new).run ⟨env,s.σ⟩=some e)(hc:JX P (.appn esz bytes zero y) o.op=true):bN P o a s e:=by
 simp only[opR]at h;obtain⟨v,h2,G⟩:=bind_some h;obtain⟨rows,j,k⟩:=bind_some G;clear h G;unfold JX at hc;simp only at hc;split at hc
 ·rename_i c E;split at hc
  ·rename_i D;split at hc
   ·rename_i U t ut x B;simp only[aV]at hc;obtain⟨⟨R,H⟩,ht⟩:=hc;split at ht
    ·rename_i el I;split at k
     ·rename_i K;simp only[RM.run]at k;injection k with k;subst k
      obtain⟨i1,J⟩:=UY hi hn esz;have A:(s.σ.set new (.arr true esz []))[new]?=some (.arr true esz []):=jP hn;have N:JH ⟨s.σ.set new (.arr true esz []),fL s.g new none,s.w⟩ (.slr new 0 0) (a.eval (.const (.slice none 0 0))):=
       .slr new 0 0 _ true esz [] ⟨none,0,rfl,.inl rfl⟩ A (zQ0 _) λ_=>.inl ⟨if_pos rfl,rfl,rfl,rfl⟩
      have O:=(bK he h2 R).mono hi J;have T:(gB esz v).run ⟨env,s.σ.set new (.arr true esz [])⟩=some rows:=by
       cases v with
       |slr b i n=>
        grind [gB,RM.run]
       |p c=>cases c<;>simp only[gB]at j⊢ <;>first|exact j|(split at j<;>rename_i S<;>first|(rw[if_pos S];exact j)|cases j)|cases j
       |_=>cases j
      have C:(jV esz bytes (.slr new 0 0) v).run ⟨env,s.σ.set new (.arr true esz [])⟩=some ⟨.slr new 0 rows.length,[(new,.arr true esz rows)]⟩:=(by grind [jV,RM.run,run_bind]);have ok:=P6 (s:=⟨s.σ.set new (.arr true esz []),fL s.g new none,s.w⟩) i1 E D x B H I (by omega) N O C;intro next Q z;refine ok next Q λL w' g' hi' r q=>?_;have M:upd [(new,Blk.arr true esz rows)] (s.σ.set new (.arr true esz []))=upd [(new,Blk.arr true esz rows)] s.σ:=by simp[UE]
      simp only at hi' r q;rw[M]at hi' r q;exact z L w' g' hi' (J.trans r) q
     cases k
    cases ht
   cases hc
  cases hc
 cases hc
end
end Go.Am
end
section
namespace Go.Am
section
variable {P:Program} {F:Orc} {s:Sn} {a:Act} {env:List (Nat×AV)} {o:Oper} {new:Nat} {e:Eff}
theorem Qh{x:Opd}{v:AV}(h:(ev x).run ⟨env,s.σ⟩=some v):(evo (some x)).run ⟨env,s.σ⟩=some (some v):=by simp[evo,run_bind,h,RM.run]
theorem JOJ(hi:Inv s)(he:bO s a.tmps env){esz x hh}(h:(opR F (.psuf esz x hh) new).run ⟨env,s.σ⟩=some e)(hc:JX P (.psuf esz x hh) o.op=true):bN P o a s e:=by
 simp only[opR]at h;obtain⟨u,h1,C⟩:=bind_some h;obtain⟨l,h2,q⟩:=bind_some C;clear h C;have h:=q;clear q;unfold JX at hc;simp only at hc;split at hc
 case h_2=>cases hc
 rename_i t N hi' B;simp only[aV]at hc;obtain⟨⟨O,Q⟩,ht⟩:=hc;have G:=bK he h1 O;unfold tY at h;split at h
 case h_2=>cases h
 rename_i b i n M k;simp only[RM.run]at h;split at h
 case h_2=>cases h
 rename_i blk hb;split at h
 case h_2=>cases h
 rename_i y T rows;have hb:s.σ[b]?=some (.arr y T rows):=hb;split at h
 case isFalse=>cases h
 rename_i hk;obtain⟨rfl,hn,E,Z⟩:=hk;simp only[RM.run]at h;injection h with h;subst h;split at ht
 case h_2=>cases ht
 rename_i el D;simp only[beq_iff_eq]at ht;have A:oT n (some (.p (.i M k))) none=some (k.toNat,n):=by unfold oT nS;simp only;rw[if_pos ⟨E,by omega⟩]
 have I: ∀cap,n<=cap->(Instr.sliceBounds true n cap (some (a.eval hi')) none none).run P s.w=.ok (k.toNat,n,cap) s.w:=λcap g=>
  (OC (P:=P) (isSlice:=true) he (hi:=none) (hi':=none) (lo:=some hh) (lo':=some hi') (Qh h2) rfl Q rfl A g s.w).1
 generalize V:a.eval N=z at G;cases G with
 |slr _ _ _ _ wm R rows' q0 j q2 U=>
  rw[hb]at j;injection j with j;injection j with a1 a2 a3;subst a1 a2 a3;rcases U (by omega)with⟨m,a0,a5,K⟩|⟨r,cap,L,Y,fz,m,K,g,H,a4⟩;omega;subst K;have W:=I cap g;have S:(i+k.toNat+(cap-k.toNat))*esz=(i+cap)*esz:=by congr 1;omega
  refine JP hi (v:=.slice (some ⟨r,(i+k.toNat)*esz,none⟩) (n-k.toNat) (cap-k.toNat)) ?_ ?_;simp only[execOp,B,V];have J: ¬cap=k.toNat:=by omega
  simp[Instr.sliceAt,Instr.slice,run_underlying (iJ D),W,iI ht,Addr.add,J,zQ8];exact .slr b _ _ _ y esz rows ⟨_,_,rfl,.inr (by simp)⟩ hb (by omega) λ_=>.inr ⟨r,cap-k.toNat,L,Y,fz,m,rfl,by omega,H,by omega⟩
end
end Go.Am
end
section
namespace Go.Am
theorem Af{s0:Sn}(hi:Inv s0){b new esz m:Nat}{R G:List (List PV)}(V:R.length<G.length)(hb:s0.σ[b]?=some (.arr true esz R))(hn:s0.σ[new]?=some .dead):
  ∃g',g'.μ new=s0.g.μ b/\Inv ⟨(s0.σ.set b (.arr false esz G)).set new (.arr true esz (R.take m)),g',s0.w⟩/\bD s0 ⟨(s0.σ.set b (.arr false esz G)).set new (.arr true esz (R.take m)),g',s0.w⟩:=by
 have F:new≠b:=λe=>by rw[e,hb]at hn;cases hn
 have J:=hi.arr b true esz R hb;refine⟨⟨λk=>if k=new then s0.g.μ b else if k=b then none else s0.g.μ k,s0.g.C⟩,if_pos rfl,?_⟩;generalize hs:(⟨(s0.σ.set b (.arr false esz G)).set new (.arr true esz (R.take m)),_,s0.w⟩:Sn)=s;have B:s.σ[b]?=some (.arr false esz G):=by rw[<-hs];simp only[List.getElem?_set];rw[if_neg F];have:=(eC.1 hb).1;simp[this]
 have E:s.σ[new]?=some (.arr true esz (R.take m)):=by rw[<-hs];have:=(eC.1 hn).1;simp[this]
 have L: ∀k,k≠b->k≠new->s.σ[k]?=s0.σ[k]?:=λk h1 h2=>by rw[<-hs];simp only[List.getElem?_set];rw[if_neg (Ne.symm h2),if_neg (Ne.symm h1)]
 have hl:s.σ.length=s0.σ.length:=by rw[<-hs];simp
 have H:s.g.μ new=s0.g.μ b:=by rw[<-hs];exact if_pos rfl
 have O:s.g.μ b=none:=by rw[<-hs];show(if b=new then s0.g.μ b else if b=b then none else s0.g.μ b)=none;rw[if_neg (Ne.symm F),if_pos rfl]
 have I: ∀k,k≠b->k≠new->s.g.μ k=s0.g.μ k:=λk h1 h2=>by rw[<-hs];show(if k=new then s0.g.μ b else if k=b then none else s0.g.μ k)=_;rw[if_neg h2,if_neg h1]
 have z:s.g.C=s0.g.C:=by rw[<-hs]
 have D:s.w=s0.w:=by rw[<-hs]
 clear hs;have y: ∀r o,¬Wr1 s b r o:=λr o h=>by grind [Wr1]
 have A: ∀r o,Wr1 s new r o->Wr1 s0 b r o:=λr o h=>by grind [Wr1]
 have wr: ∀k r o,k≠b->k≠new->(Wr1 s k r o↔Wr1 s0 k r o):=λk r o h1 h2=>by grind [Wr1]
 have t:bD s0 s:=by
  refine⟨by rw[D];exact oS.refl _ _,λr o h=>by rw[z];exact h,λr o h=>.inl (by rw[z]at h;exact h),λr o ⟨k,h⟩=>?_,by omega,λk cs h=>?_,λk wm K rows h=>?_⟩;by_cases n:k=b;exact absurd (n▸h) (y r o);by_cases q:k=new;exact .inl ⟨b,A r o (q▸h)⟩;exact .inl ⟨k,(wr k r o n q).1 h⟩;have n:k≠b:=λe=>by rw[e,hb]at h;cases h
  have q:k≠new:=λe=>by rw[e,hn]at h;cases h
  exact⟨⟨cs,by rw[L k n q];exact h,rfl⟩,I k n q⟩;have q:k≠new:=λe=>by rw[e,hn]at h;cases h
  by_cases n:k=b;subst n;rw[hb]at h;injection h with h;injection h with a1 a2 a3;subst a1 a2 a3;exact⟨false,G,B,nofun,by omega,λh=>by omega⟩;exact⟨wm,rows,by rw[L k n q];exact h,id,zQ0 _,λ_=>I k n q⟩
 refine⟨nM hi t (λk=>k=b\/k=new) (λk h=>⟨L k (λe=>h (.inl e)) (λe=>h (.inr e)),I k (λe=>h (.inl e)) (λe=>h (.inr e))⟩) (λk r o v _ _ h=>by rw[D];exact h) ?_ ?_ ?_ ?_ ?_ ?_,t⟩;rintro k cs (rfl|rfl) h;rw[B]at h;cases h;rw[E]at h;cases h;rintro k wm K rows (rfl|rfl) h;rw[B]at h;injection h with h;injection h with a1 a2 a3;subst a1 a2 a3;exact .inl ⟨O,.inr rfl⟩;rw[E]at h;injection h with h;injection h with a1 a2 a3;subst a1 a2 a3;rcases J with⟨N,h1⟩|⟨r,c,P,fz,N,Q,M,hlen,U,hf⟩;refine .inl ⟨by rw[H];exact N,.inl ?_⟩;rcases h1 with h1|h1;rw[h1];simp;cases h1;refine .inr ⟨r,c,P,fz,by rw[H];exact N,by rw[D];exact Q,λrow h=>M row (PA h),zQ1 (zQ4 esz (by rw[kT];omega)) hlen,λi j row x h1 h2=>?_,hf⟩;rw[rl]at h1;split at h1;obtain⟨⟨u,T,S⟩,_⟩:=U i j row x h1 h2;exact⟨⟨u,T,S.mono hi t⟩,nofun⟩;cases h1;rintro b1 b2 r o (rfl|rfl) h1 h2;exact absurd h1 (y r o);by_cases n:b2=b;exact absurd (n▸h2) (y r o);by_cases q:b2=b1;exact q.symm;exact absurd (hi.apart b b2 r o (A r o h1) ((wr b2 r o n q).1 h2)).symm n;intro r o h;rw[z]at h;rw[D];exact(hi.const r o h).1;rintro r o k h (rfl|rfl) h1;exact y r o h1;rw[z]at h;exact(hi.const r o h).2 b (A r o h1);intro r o k h h1 _ _;rw[z]at h;exact h1 h
theorem JEl{P:Program}(w:World)(t e ty:TypeId)(z:Value)(ht:P.underlying t=some (.slice e))(hv: ∀w,(zeroValue e).run P w=.ok z w)(b o n c:Nat)(hn:0<n)
  (hc: ∀j,j<n*z.cells.size->(w.cell? ⟨b,o+j,none⟩).isSome=true) (hf: ∀j,j<n*z.cells.size->w.frozen? ⟨b,o+j,none⟩=false) (h1: ∀v∈(Builtin.zeroCells z.cells n).toList,v.oneCell'=true):
  (Builtin.clear_ #[t] ty #[.slice (some ⟨b,o,none⟩) n c]).run P w=.ok (.tuple #[]) (w.setCells b o (Builtin.zeroCells z.cells n).toList):=by
 have hl:(Builtin.zeroCells z.cells n).toList.length=n*z.cells.size:=by rw[Array.length_toList,size_zeroCells]
 have g:=run_storeCells_cells (P:=P) b o (Builtin.zeroCells z.cells n).toList 0 w (by rw[hl];simpa using hc) (by rw[hl];simpa using hf) h1;simp only[wI]at g;obtain⟨m,rfl⟩: ∃m,n=m+1:=⟨n-1,by omega⟩;simp[Builtin.clear_,run_underlying ht,hv,g]
theorem JKJ{P:Program}{s:Sn}(hi:Inv s){b i n esz:Nat}{rows:List (List PV)}{zero:List PV}{v z:Value}{t el ty:TypeId}(hb:s.σ[b]?=some (.arr true esz rows))(rx:JH s (.slr b i n) v)(hn:i+n=rows.length)
  (ht:P.underlying t=some (.slice el)) (S: ∀w,(zeroValue el).run P w=.ok z w) (R:zero.length=esz) (aj:zero.length=z.cells.size) (L: ∀{w C} (j:Nat) x u,zero[j]?=some x->z.cells[j]?=some u->J0b w C x u):
  ∃w',(Builtin.clear_ #[t] ty #[v]).run P s.w=.ok (.tuple #[]) w'/\Inv ⟨s.σ.set b (.arr true esz (rows.take i++List.replicate n zero)),s.g,w'⟩/\bD s ⟨s.σ.set b (.arr true esz (rows.take i++List.replicate n zero)),s.g,w'⟩:=by
 have same:n=0->s.σ.set b (.arr true esz (rows.take i++List.replicate n zero))=s.σ:=λh=>by subst h;obtain⟨hl,he⟩:=eC.1 hb;rw[List.take_of_length_le (by omega),List.replicate_zero,fM,<-he];exact List.set_getElem_self hl
 have D:n=0->(Builtin.clear_ #[t] ty #[v]).run P s.w=.ok (.tuple #[]) s.w-> ∃w',(Builtin.clear_ #[t] ty #[v]).run P s.w=.ok (.tuple #[]) w'/\Inv ⟨s.σ.set b (.arr true esz (rows.take i++List.replicate n zero)),s.g,w'⟩/\bD s ⟨s.σ.set b (.arr true esz (rows.take i++List.replicate n zero)),s.g,w'⟩:=λh I=>
  ⟨s.w,I,by rw[same h];exact hi,by rw[same h];exact .refl s⟩
 cases rx with
 |slr _ _ _ _ wm a4 rows' q0 K q2 q3=>
  rw[hb]at K;injection K with K;injection K with a1 a2 a3;subst a1 a2 a3;rcases q3 (by omega)with⟨m,ak,U,Q⟩|⟨r,cap,cc,e1,fz,m,Q,a0,J,af⟩;subst Q;exact D U (by simp[Builtin.clear_,run_underlying ht]);subst Q;by_cases h0:n=0;subst h0;exact D rfl (by simp[Builtin.clear_,run_underlying ht]);rcases hi.arr b _ _ _ hb with⟨k,_⟩|⟨r',c',e',ah,k,B,H,hlen,ai,T⟩;rw[m]at k;cases k;rw[m]at k;injection k with k;injection k with k _;subst k;rw[J]at B;injection B with B;injection B with w1 w2 w3;subst w1 w2 w3;have G:z.cells.size=esz:=by omega
  have a7:rows.length*esz=i*esz+n*esz:=by rw[<-hn];exact zQ8 _ _ _
  have al:(Builtin.zeroCells z.cells n).toList.length=n*esz:=by rw[Array.length_toList,size_zeroCells,G]
  have M:=JEl (P:=P) s.w t el ty z ht S r (i*esz) n cap (by omega)
   (λj A=>by rw[G]at A;rw[uV,lP J];simp;omega)
   (λj A=>by
    rw[G]at A;have:=T.1 (i*esz+j) (by omega) (by omega);grind [World.frozen?])
   (λu E=>by
    have E:u∈z.cells:=(by simp only[Builtin.zeroCells,Array.toList_map,gY]at E;obtain⟨j,A,rfl⟩:=E;have e:0<z.cells.size:=(by rcases KQ z.cells.size with h|h;rw[h]at A;simp at A;exact h);have Z:=Nat.mod_lt j e;rw[getElem!_pos z.cells _ Z];exact Array.getElem_mem Z);obtain⟨q,F,rfl⟩:=Array.getElem_of_mem E;exact(L (w:=s.w) (C:=s.g.C) q zero[q] _ (bA (by omega)) (AC F)).one)
  have O:=HT (vs:=(Builtin.zeroCells z.cells n).toList) (o:=i*esz) J (by omega);refine⟨_,M,?_⟩;have N:(rows.take i).length=i:=by rw[kT];omega
  have hN:(rows.take i++List.replicate n zero).length=rows.length:=by rw[dP,N,AJ];exact hn
  refine JNW hi hb m (λrow I=>(zQ9.1 I).elim (λh=>H row (PA h)) λh=>by rw[(List.mem_replicate.1 h).2];exact R) (by omega) O λc0 c1 k1 k2 y k4 k5=>?_;obtain⟨e3,ag,y⟩:=y;rw[J]at y;injection y with y;injection y with y _ _;subst y;refine⟨by rw[hN];exact hlen,λp q row x e F=>?_⟩;rcases NM e with e|⟨W,e⟩;have hpk:=JC e;rw[N]at hpk;rw[rl,if_pos hpk]at e;obtain⟨u,E,I⟩:=k1 p q row x e F;have:=(nO hpk (by have:=JC F;rw[H row (jM e)]at this;exact this):p*esz+q<i*esz);exact⟨u,by rw[k5 _ (.inl this)];exact E,I⟩;rw[N]at W e;have hre:row=zero:=(List.mem_replicate.1 (jM e)).2;have V:=JC e;rw[AJ]at V;subst hre;have A:=JC F;have Y:q<z.cells.size:=by omega
  refine⟨z.cells[q],?_,L q x _ F (AC Y)⟩;have e4:p*esz+q=i*esz+((p-i)*esz+q):=by
   have:p*esz=i*esz+(p-i)*esz:=by rw[<-zQ8];congr 1;omega
   omega
  rw[e4];exact k4 _ _ (by grind [nO,Builtin.zeroCells,Nat.mul_comm,Nat.mul_add_mod,Nat.mod_eq_of_lt])
section
variable {P:Program} {F:Orc} {s:Sn} {a:Act} {env:List (Nat×AV)} {o:Oper} {new:Nat} {e:Eff}
theorem JRi(hi:Inv s)(he:bO s a.tmps env)(hn:s.σ[new]?=some .dead){esz zero x hh}(h:(opR F (.shr esz zero x hh) new).run ⟨env,s.σ⟩=some e)(hc:JX P (.shr esz zero x hh) o.op=true):bN P o a s e:=by
 simp only[opR]at h;obtain⟨u,h1,L⟩:=bind_some h;obtain⟨l,h2,C⟩:=bind_some L;clear h L;have h:=C;clear C;unfold JX at hc;simp only at hc;split at hc
 case h_2=>cases hc
 rename_i t V hi' B;simp only[aV]at hc;obtain⟨⟨W,Y⟩,ht⟩:=hc;have O:=bK he h1 W;unfold KT at h;split at h
 case h_2=>cases h
 rename_i b i n U k;simp only[RM.run]at h;split at h
 case h_2=>cases h
 rename_i blk hb;split at h
 case h_2=>cases h
 rename_i ez rows;have hb:s.σ[b]?=some (.arr true ez rows):=hb;split at h
 case isFalse=>cases h
 rename_i hk;obtain⟨rfl,rfl,a7,M,a6⟩:=hk;simp only[RM.run]at h;injection h with h;subst h;split at ht
 case h_2=>cases ht
 rename_i el D;simp only[beq_iff_eq]at ht;have H:oT n none (some (.p (.i U k)))=some (0,k.toNat):=by unfold oT nS;simp only;rw[if_pos ⟨M,by omega⟩]
 have E: ∀cap,n<=cap->(Instr.sliceBounds true n cap none (some (a.eval hi')) none).run P s.w=.ok (0,k.toNat,cap) s.w:=λcap g=>
  (OC (P:=P) (isSlice:=true) he (lo:=none) (lo':=none) (hi:=some hh) (hi':=some hi') rfl (Qh h2) rfl Y H g s.w).1
 obtain⟨g',K,i2,J⟩:=Af (m:=k.toNat) (G:=rows++[zero]) hi (by simp) hb hn;have j:((s.σ.set b (.arr false esz (rows++[zero]))).set new (.arr true esz (rows.take k.toNat)))[new]?=some (.arr true esz (rows.take k.toNat)):=by have:=(eC.1 hn).1;simp[this]
 have lt:(rows.take k.toNat).length=k.toNat:=by rw[kT];omega
 generalize S:a.eval V=z at O;cases O with
 |slr _ _ _ _ wm Z rows' q0 y q2 q3=>
  rw[hb]at y;injection y with y;injection y with a1 a2 a3;subst a1 a2 a3;rcases q3 (by omega)with⟨m,_,R,I⟩|⟨r,cap,T,e1,fz,m,I,g,Q,N⟩;subst I;have q:k.toNat=0:=by omega
  have A:=E 0 (by omega);refine gE (e:=⟨.slr new 0 k.toNat,[(b,.arr false esz (rows++[zero])),(new,.arr true esz (rows.take k.toNat))]⟩) (v:=.slice none 0 0) (g':=g') ?_ i2 J (.slr new 0 k.toNat _ true esz _ ⟨none,0,by rw[q],.inl q⟩ j (by omega) λ_=>.inl ⟨K.trans m,rfl,q,rfl⟩);simp only[execOp,B,S];rw[R]at A;simp[Instr.sliceAt,Instr.slice,run_underlying (iJ D),A,iI ht,q];subst I;have A:=E cap g;refine gE (e:=⟨.slr new 0 k.toNat,[(b,.arr false esz (rows++[zero])),(new,.arr true esz (rows.take k.toNat))]⟩) (v:=.slice (some ⟨r,0,none⟩) k.toNat cap) (g':=g') ?_ i2 J (.slr new 0 k.toNat _ true esz _ ⟨_,_,rfl,.inr nofun⟩ j (by omega) λ_=>.inr ⟨r,cap,T,e1,fz,K.trans m,by simp,by omega,Q,N⟩);simp only[execOp,B,S];simp[Instr.sliceAt,Instr.slice,run_underlying (iJ D),A,iI ht,Addr.add]
theorem JQT(hi:Inv s)(he:bO s a.tmps env){esz zero x}(h:(opR F (.clr esz zero x) new).run ⟨env,s.σ⟩=some e)(hc:JX P (.clr esz zero x) o.op=true):bN P o a s e:=by
 simp only[opR]at h;obtain⟨u,h1,g⟩:=bind_some h;clear h;unfold JX at hc;simp only at hc;split at hc
 case h_2=>cases hc
 rename_i c y;split at hc
 case h_2=>cases hc
 rename_i r;split at hc
 case h_2=>cases hc
 rename_i K t k I;simp only[aV]at hc;obtain⟨Q,ht⟩:=hc;split at ht
 case h_2=>cases ht
 rename_i el A;have M:=bK he h1 Q;simp only[aV,beq_iff_eq]at ht;obtain⟨⟨hs,N⟩,C⟩:=ht;obtain⟨T,j,S⟩:=UV hs;obtain⟨z,B,D,G⟩:=yO N;have q:=iy B j;have R:c.args.map a.eval= #[a.eval K]:=by apply OZ;simp[k]
 have E:c.argTypes= #[t]:=by grind
 unfold PH at g;split at g
 case h_2=>cases g
 rename_i b i n;simp only[RM.run]at g;split at g
 case h_2=>cases g
 rename_i blk hb;split at g
 case h_2=>cases g
 rename_i L rows;have hb:s.σ[b]?=some (.arr true L rows):=hb;split at g
 case isFalse=>cases g
 rename_i hk;obtain⟨rfl,H⟩:=hk;simp only[RM.run]at g;injection g with g;subst g;obtain⟨w',O,i2,J⟩:=JKJ (P:=P) (ty:=o.type) (zero:=zero) (z:=z) (t:=t) (el:=el) hi hb M H (iJ A) (λw=>by simp[zeroValue,typeInfo,j,q]) C D G;exact gE (e:=⟨.tup [],[(b,.arr true esz (rows.take i++List.replicate n zero))]⟩) (v:=.tuple #[]) (by simp[execOp,y,resolve,r,R,E,invoke,builtin,O]) i2 J (.tup [] #[] rfl λi x v h=>by simp at h)
theorem JRz(hi:Inv s)(he:bO s a.tmps env)(hn:s.σ[new]?=some .dead){esz zero x}(h:(opR F (.mvn esz zero x) new).run ⟨env,s.σ⟩=some e)(hc:JX P (.mvn esz zero x) o.op=true):bN P o a s e:=by
 simp only[opR]at h;obtain⟨u,h1,g⟩:=bind_some h;clear h;unfold OS at g;split at g
 case h_2=>cases g
 rename_i b i n;simp only[RM.run]at g;split at g
 case h_2=>cases g
 rename_i blk hb;split at g
 case h_2=>cases g
 rename_i D rows;have hb:s.σ[b]?=some (.arr true D rows):=hb;split at g
 case isFalse=>cases g
 rename_i hk;obtain⟨rfl,rfl,J⟩:=hk;simp only[RM.run]at g;injection g with g;subst g;obtain⟨g',A,i2,r⟩:=Af (m:=n) (G:=rows++[zero]) hi (by simp) hb hn;rw[List.take_of_length_le (by omega)]at i2 r;have j:((s.σ.set b (.arr false esz (rows++[zero]))).set new (.arr true esz rows))[new]?=some (.arr true esz rows):=by have:=(eC.1 hn).1;simp[this]
 have q: ∀v,JH s (.slr b 0 n) v->(execOp a.eval o).run P s.w=.ok (.value v) s.w->bN P o a s ⟨.slr new 0 n,[(b,.arr false esz (rows++[zero])),(new,.arr true esz rows)]⟩:=by
  intro v E I;cases E with
  |slr _ _ _ _ wm C rows' B k K H=>
   rw[hb]at k;injection k with k;injection k with a1 a2 a3;subst a1 a2 a3;refine gE (e:=⟨.slr new 0 n,[(b,.arr false esz (rows++[zero])),(new,.arr true esz rows)]⟩) (g':=g') I i2 r (.slr new 0 n _ true esz _ B j (by omega) λ_=>?_);have:=H (by omega);unfold Is at this⊢;simp only at this⊢;rw[A];exact this
 unfold JX at hc;simp only at hc;split at hc;rename_i y z;exact q _ (bK he h1 hc) (by simp_all [execOp]);rename_i y z;exact q _ (bK he h1 hc) (by simp_all [execOp]);cases hc
end
end Go.Am
end
section
namespace Go.Am
theorem ke: ∀{e j:List KD} {xs g:List PV} {r:Bool},cI (e++j) xs g=some r->
  ∃o n,cI e (xs.take e.length) (g.take e.length)=some o/\cI j (xs.drop e.length) (g.drop e.length)=some n/\r=(o&&n)
 |[],j,xs,g,r,h=>⟨true,r,by simp[cI],by simpa using h,by simp⟩
 |k::e,j,xs,g,r,h=>by
  cases xs with
  |nil=>grind [cI]
  |cons x xs=>
   cases g with
   |nil=>grind [cI]
   |cons y g=>
    simp only[tZ,cI]at h;split at h;rename_i a c q hc;injection h with h;subst h;obtain⟨o,n,h1,h2,v⟩:=ke hc;grind [cI];cases h
theorem VO: ∀{ks:List KD} {xs e:List PV} {r:Bool},cI ks xs e=some r->xs.length=ks.length/\e.length=ks.length
 |[],xs,e,r,h=>by grind [cI]
 |k::ks,xs,e,r,h=>by
  cases xs with
  |nil=>grind [cI]
  |cons x xs=>
   cases e with
   |nil=>grind [cI]
   |cons y e=>
    simp only[cI]at h;split at h;rename_i a c g hc;obtain⟨h1,h2⟩:=VO hc;simp[h1,h2];cases h
section
variable {P:Program} {F:Orc} {s:Sn} {a:Act} {env:List (Nat×AV)} {o:Oper} {new:Nat} {e:Eff}
def rj(P:Program)(t:TypeId)(vs:List Value)(X:Value):Prop:=(agT P t=some true/\X=.agg vs.toArray)\/(agT P t=some false/\ ∃v,vs=[v]/\X=v)
theorem WC{t:TypeId}{n off:Nat}{cs:Array Value}(hs:szT P t=some n)(j:off+n<=cs.size)(g:(agT P t=some true)\/(agT P t=some false/\n=1))(w:World):
  ∃X,(part t cs off).run P w=.ok X w/\rj P t ((cs.toList.drop off).take n) X:=by
 rcases g with h|⟨h,rfl⟩;refine⟨.agg (cs.extract off (off+n)),by simp_all [part,GI,iI],.inl ⟨h,?_⟩⟩
 congr 1
 grind;have e:off<cs.size:=by omega
 have k:cs[off]?=some cs[off]:=by simp[e]
 refine⟨cs[off],by simp_all [part,GI],.inr ⟨h,cs[off],?_,rfl⟩⟩;grind [List.drop_eq_getElem_cons]
def oQ(s:Sn)(xs:List PV)(vs:List Value):Prop:=xs.length=vs.length/\ ∀(i:Nat) x v,xs[i]?=some x->vs[i]?=some v->J0b s.w s.g.C x v
theorem oQ.take{xs vs}(h:oQ s xs vs)(n:Nat):oQ s (xs.take n) (vs.take n):=
 ⟨by simp[h.1],λi x v e g=>by
  rw[rl]at e g;split at e;rename_i hi;rw[if_pos hi]at g;exact h.2 i x v e g;cases e⟩
theorem oQ.drop{xs vs}(h:oQ s xs vs)(n:Nat):oQ s (xs.drop n) (vs.drop n):=
 ⟨by simp[h.1],λi x v g e=>by
  rw[List.getElem?_drop]at g e;exact h.2 _ x v g e⟩
def EqK(P:Program)(s:Sn)(d:Nat)(t:TypeId)(ks:List KD):Prop:= ∀(e:Nat) (w:World) (xs h:List PV) (vs g:List Value) (r:Bool) (X Y:Value),cI ks xs h=some r->oQ s xs vs->oQ s h g->rj P t vs X->rj P t g Y->(Op.equalIn (d+e) t X Y).run P w=.ok r w
theorem A9{d:Nat}{t:TypeId}{ks:List KD}(h:qV P d t=some ks):agT P t=some true\/(agT P t=some false/\ks.length=1):=by cases d<;>grind [qV,agT,zS]
theorem ze(d e:Nat)(B: ∀t ks,qV P d t=some ks->EqK P s d t ks)(w:World){xs q:List PV}{vs o:List Value}(hx:oQ s xs vs)(hy:oQ s q o):
  ∀{fs:List Field} {off:Nat} {ks:List KD} {r:Bool},NG P (qV P d) off fs=some ks->cI ks (xs.drop off) (q.drop off)=some r->
   (Op.eqFields (d+e) vs.toArray o.toArray fs).run P w=.ok r w
 |[],off,ks,r,h,hc=>by simp[NG]at h;subst h;cases hxd:xs.drop off<;>cases hyd:q.drop off<;>simp[hxd,hyd,cI]at hc;simp_all [Op.eqFields]
 |f::fs,off,ks,r,h,hc=>by
  unfold NG at h;split at h;cases h
  ·rename_i K;have j:f.name≠ "_" :=λe=>K (.inl e);have v:f.offset=off:=by simp_all
   split at h;cases h
   ·rename_i C k;split at h
    ·rename_i g;obtain⟨g,D⟩:=g;split at h
     ·rename_i N x;injection h with h;subst h;obtain⟨y,M,z,A,rfl⟩:=ke hc;obtain⟨G,H⟩:=VO z;rw[kT,AN]at G H;rw[wM,wM]at A;have n:=A9 k;obtain⟨X,E,I⟩:=WC (P:=P) (cs:=vs.toArray) (off:=off) g (by have:=hx.1;simp;omega) n w;obtain⟨Y,J,F⟩:=WC (P:=P) (cs:=o.toArray) (off:=off) g (by have:=hy.1;simp;omega) n w;have L:=B f.type C k e w _ _ _ _ y X Y z ((hx.drop off).take _) ((hy.drop off).take _) (by simpa using I) (by simpa using F);have ih:=ze d e B w hx hy x A;simp only[Op.eqFields];rw[if_pos j];simp only[AB,v,E,J,L,tW,Sem.run_ite];cases y
      all_goals simp_all
     cases h
    cases h
theorem xm(d e:Nat){t:TypeId}{ks:List KD}(v:EqK P s d t ks)(hk:qV P d t=some ks)(g:szT P t=some ks.length)(j:0<ks.length)(w:World){xs n:List PV}{vs k:List Value}(hx:oQ s xs vs)(hy:oQ s n k):
  ∀{m i:Nat} {r:Bool},cI (List.replicate m ks).flatten (xs.drop (i*ks.length)) (n.drop (i*ks.length))=some r->
   (Op.eqItems (d+e) t ks.length vs.toArray k.toArray (List.range' i m)).run P w=.ok r w
 |0,i,r,hc=>by simp only[List.replicate_zero,List.flatten_nil]at hc;cases hxd:xs.drop (i*ks.length)<;>cases hyd:n.drop (i*ks.length)<;>simp[hxd,hyd,cI]at hc;simp_all [Op.eqItems]
 |m+1,i,r,hc=>by
  rw[List.replicate_succ,tS]at hc;obtain⟨o,A,q,y,rfl⟩:=ke hc;obtain⟨B,C⟩:=VO q;rw[kT,AN]at B C;rw[wM,wM]at y;have h:=A9 hk;obtain⟨X,x,D⟩:=WC (P:=P) (cs:=vs.toArray) (off:=i*ks.length) g (by have:=hx.1;simp;omega) h w;obtain⟨Y,E,z⟩:=WC (P:=P) (cs:=k.toArray) (off:=i*ks.length) g (by have:=hy.1;simp;omega) h w;have F:=v e w _ _ _ _ o X Y q ((hx.drop _).take _) ((hy.drop _).take _) (by simpa using D) (by simpa using z);have ih:=xm d e v hk g j w hx hy (m:=m) (i:=i+1) (r:=A) (by
   grind)
  rw[List.range'_succ];simp only[Op.eqItems,AB,x,E,F,tW,Sem.run_ite];cases o
  all_goals simp_all
theorem eqK: ∀(d:Nat) (t:TypeId) (ks:List KD),qV P d t=some ks->EqK P s d t ks
 |0,t,ks,h=>by grind [qV]
 |d+1,t,ks,h=>by
  intro e w xs Q vs S r X Y hc J I H G;have M:d+1+e=(d+e)+1:=by omega
  rw[M];have hl:=VO hc;unfold qV at h;have q: ∀{k:KD},agT P t=some false->ks=[k]-> ∃x y,xs=[x]/\Q=[y]/\wE k x y=some r/\J0b s.w s.g.C x X/\J0b s.w s.g.C y Y:=(by rintro k F rfl;obtain⟨x,rfl⟩:=dv.1 hl.1;obtain⟨y,rfl⟩:=dv.1 hl.2;rcases H with⟨o,_⟩|⟨_,v,rfl,rfl⟩;simp_all;rcases G with⟨o,_⟩|⟨_,u,rfl,rfl⟩;simp_all;refine⟨x,y,rfl,rfl,?_,J.2 0 x _ rfl rfl,I.2 0 y _ rfl rfl⟩;grind [cI]);split at h<;>rename_i R
  injection h with h;subst h;obtain⟨x,y,rfl,rfl,j,A,B⟩:=q (by grind [agT,zS]) rfl;cases A<;>cases B<;>simp only[wE]at j<;>try (cases j;done)
  grind [run_equalIn_bool];injection h with h;subst h;obtain⟨x,y,rfl,rfl,j,A,B⟩:=q (by grind [agT,zS]) rfl;cases A<;>cases B<;>simp only[wE]at j<;>try (cases j;done)
  grind [run_equalIn_int];injection h with h;subst h;obtain⟨x,y,rfl,rfl,j,A,B⟩:=q (by grind [agT,zS]) rfl;cases A<;>cases B<;>simp only[wE]at j<;>try (cases j;done)
  simp_all [run_equalIn_string];rename_i fs;split at h;cases h;rename_i L;have F:agT P t=some true:=by grind [agT,zS]
  rcases H with⟨_,rfl⟩|⟨o,_⟩;rcases G with⟨_,rfl⟩|⟨o,_⟩;have N:P.fieldsOf t=fs:=by grind [Program.fieldsOf]
  rw[run_equalIn_struct w (d+e) t _ _ (by simp_all) (by simpa using L),N];exact ze d e (λt ks hk=>eqK d t ks hk) w J I h (by simpa using hc);simp_all;simp_all;rename_i n el;split at h;rename_i K E;split at h;rename_i z;injection h with h;subst h;have F:agT P t=some true:=by grind [agT,zS]
  rcases H with⟨_,rfl⟩|⟨o,_⟩;rcases G with⟨_,rfl⟩|⟨o,_⟩;obtain⟨i,hi,O⟩:=UV z.1;have D:P.cellsOf el=K.length:=by grind [Program.cellsOf]
  rw[run_equalIn_array w (d+e) _ _ R hi,D,List.range_eq_range'];exact xm d e (eqK d el K E) E z.1 z.2 w J I (i:=0) (by simpa using hc);simp_all;simp_all;cases h;cases h;cases h
theorem JEd(hi:Inv s)(he:bO s a.tmps env){op ks x y}(h:(opR F (.bin op (.flat ks) x y) new).run ⟨env,s.σ⟩=some e)(hc:JX P (.bin op (.flat ks) x y) o.op=true):bN P o a s e:=by
 simp only[opR]at h;obtain⟨u,h1,D⟩:=bind_some h;obtain⟨v,h2,z⟩:=bind_some D;obtain⟨r,j,rfl⟩:=hI z;clear h D z;unfold JX at hc;simp only at hc;split at hc
 ·rename_i T t B A ty S;simp only[aV,beq_iff_eq]at hc;obtain⟨⟨rfl,k⟩,⟨⟨O,hk⟩,n⟩,L⟩:=hc;have G:=bK he h1 k;have H:=bK he h2 O;generalize U:a.eval B=Y at G;generalize V:a.eval A=W at H;simp only[oW]at j;split at j
  ·rename_i p q;cases G with
   |data _ vs J I=>
    cases H with
    |data _ g M Q=>
     have hb: ∃b,cI ks p q=some b:=by cases hcm:cI ks p q<;>simp_all [jZ]
     obtain⟨b,hb⟩:=hb;rw[hb]at j;obtain⟨N,rfl⟩:=vE j;have E:(eqGuard op t B A (.agg vs) (.agg g)).run P s.w=.ok () s.w:=run_eqGuard_agg s.w op t B A vs g (by simpa using L);have R:=eqK (P:=P) (s:=s) 100 t ks hk 9900 s.w p q vs.toList g.toList b (.agg vs) (.agg g) hb ⟨by simpa using J,λi x v k C=>I i x v k (by simpa using C)⟩ ⟨by simpa using M,λi x v k C=>Q i x v k (by simpa using C)⟩ (.inl ⟨n,by simp⟩) (.inl ⟨n,by simp⟩);have K:(binOp op t (.agg vs) (.agg g)).run P s.w=.ok (.bool (if op=.eql then b else !b)) s.w:=by
      rcases N with rfl|rfl
      all_goals simp_all [run_eql_struct,run_neq_struct]
     simp_all [JP,execOp,rF]
  cases j
 cases hc
end
end Go.Am
end
section
namespace Go.Am
theorem J0b.weaken{w:World}{C e:Nat->Nat->Prop}(h: ∀r o,C r o->e r o){x v}(hr:J0b w C x v):J0b w e x v:=by
 induction hr with
 |b x=>exact .b x
 |i k n=>exact .i k n
 |s l=>exact .s l
 |np=>exact .np
 |nf=>exact .nf
 |sl0 esz a cap=>exact .sl0 esz a cap
 |sl esz rows r o cap vals h1 h2 g _ ih=>exact .sl esz rows r o cap vals h1 h2 (λi j row x hr q=>⟨h _ _ (g i j row x hr q).1,(g i j row x hr q).2⟩) ih
 |slc esz rows a _ ih=>exact .slc esz rows a ih
theorem Mq{s c:Sn}(hi:Inv s)(hw:c.w=s.w)(q: ∀k cs,c.σ[k]?=some (.box cs)->SC c k cs)(v: ∀k wm esz rows,c.σ[k]?=some (.arr wm esz rows)->RL c k wm esz rows)
  (id:Nat->Nat) (x: ∀e j,e<c.σ.length->j<c.σ.length->id e=id j->e=j) (wr: ∀k r o,Wr1 c k r o->Wr1 s (id k) r o)
  (y: ∀r o,c.g.C r o->r<s.w.heap.size/\ ∀k,¬Wr1 c k r o):Inv c:=by
 have n: ∀k r o,Wr1 c k r o->k<c.σ.length:=(by grind [Wr1]);exact⟨q,v,λe j r o h1 h2=>x e j (n _ _ _ h1) (n _ _ _ h2) (hi.apart _ _ _ _ (wr _ _ _ h1) (wr _ _ _ h2)),λr o h=>by grind⟩
theorem vD{m ids sto}: ∀{xs e:List AV},fin.finL m ids sto xs=some e->xs.length=e.length/\ ∀(i:Nat) x y,xs[i]?=some x->e[i]?=some y->fin m ids sto x=some y
 |[],e,h=>by grind [fin.finL]
 |x::xs,e,h=>by
  simp only[fin.finL]at h;split at h;rename_i y l g hl;injection h with h;subst h;obtain⟨h1,h2⟩:=vD hl;grind;cases h
theorem WO{m ids sto}: ∀{xs e:List Blk},sC m ids sto xs=some e->xs.length=e.length/\ ∀(i:Nat) x y,xs[i]?=some x->e[i]?=some y->gL m ids sto x=some y
 |[],e,h=>by grind [sC]
 |x::xs,e,h=>by
  simp only[sC]at h;split at h;rename_i y l g hl;injection h with h;subst h;obtain⟨h1,h2⟩:=WO hl;grind;cases h
theorem z7{sto}: ∀{ids:List Nat} {e:List Blk},xN sto ids=some e->ids.length=e.length/\ ∀(i:Nat) b y,ids[i]?=some b->e[i]?=some y->sto[b]?=some y
 |[],e,h=>by grind [xN]
 |x::xs,e,h=>by
  simp only[xN]at h;split at h;rename_i y l g hl;injection h with h;subst h;obtain⟨h1,h2⟩:=z7 hl;grind;cases h
theorem WH{b:Nat}: ∀{ids:List Nat} {k j:Nat},eW b ids k=some j->k<=j/\ids[j-k]?=some b
 |[],k,j,h=>by grind [eW]
 |x::r,k,j,h=>by
  simp only[eW]at h;split at h;simp_all;obtain⟨h1,h2⟩:=WH h;grind
theorem lm{b:Nat}: ∀{ids:List Nat} {k:Nat},eW b ids k=none->b∉ids
 |[],_,_=>by simp
 |x::r,k,h=>by
  simp only[eW]at h;split at h;cases h;rename_i g;simp only[cJ,not_or];exact⟨λe=>g e.symm,lm h⟩
theorem WT: ∀{l:List Nat},kI l=true->l.Nodup|[],_=>List.nodup_nil|x::r,h=>by simp only[kI,aV,ZQ]at h;refine List.nodup_cons.2 ⟨?_,WT h.2⟩;simp_all
theorem WN{α:Type}: ∀{l:List α},l.Nodup-> ∀{i j:Nat} {x:α},l[i]?=some x->l[j]?=some x->i=j
 |[],_,i,j,x,h,_=>by simp at h
 |y::l,h,i,j,x,h1,h2=>by
  obtain⟨e,hl⟩:=List.nodup_cons.1 h;cases i with
  |zero=>
   grind
  |succ i=>
   cases j with
   |zero=>grind
   |succ j=>exact congrArg (· +1) (WN hl (i:=i) (j:=j) (x:=x) (by simpa using h1) (by simpa using h2))
def JTk(s:Sn)(m:Nat)(ids:List Nat):Nat->Nat->Prop:=λr o=>s.g.C r o\/(∃b wm esz rows,m<=b/\b∉ids/\s.σ[b]?=some (Blk.arr wm esz rows)/\s.g.μ b=some (r,0)/\o<rows.length*esz)\/ ∃b cs,m<=b/\b∉ids/\s.σ[b]?=some (Blk.box cs)/\Wr1 s b r o
def kW(s:Sn)(m:Nat)(ids:List Nat)(σ:List Blk):Sn:=
 ⟨σ,⟨λk=>if k<m then s.g.μ k else match ids[k-m]? with
  |some b=>s.g.μ b
  |none=>none,JTk s m ids⟩,s.w⟩
section
variable {s:Sn} {m:Nat} {ids:List Nat} {l q q':List Blk}
def fW(m:Nat)(ids:List Nat)(k:Nat):Nat:=if k<m then k else(ids[k-m]?).getD 0
structure tk(s:Sn)(m:Nat)(ids:List Nat)(σ:List Blk):Prop where
 inv:Inv s
 le:m<=s.σ.length
 nodup:ids.Nodup
 ge: ∀b∈ids,m<=b
 len:σ.length=m+ids.length
 blk: ∀k x,σ[k]?=some x-> ∃y,s.σ[fW m ids k]?=some y/\gL m ids s.σ y=some x
variable {σ:List Blk} (h:tk s m ids σ)
theorem uK(k:Nat)(hk:k<m+ids.length):(kW s m ids σ).g.μ k=s.g.μ (fW m ids k):=by
 grind [kW,fW]
include h in
theorem je{k:Nat}{x:Blk}(hk:σ[k]?=some x):k<m+ids.length/\ ∃y,s.σ[fW m ids k]?=some y/\gL m ids s.σ y=some x:=by have:=JC hk;exact⟨by rw[<-h.len];exact this,h.blk k x hk⟩
include h in
theorem MO{b k:Nat}{y:Blk}(g:fW m ids k=b)(hk:k<m+ids.length)(hb:s.σ[b]?=some y): ∃x,σ[k]?=some x/\gL m ids s.σ y=some x:=by
 have e:k<σ.length:=by rw[h.len];exact hk
 obtain⟨j,h1,h2⟩:=h.blk k σ[k] (bA e);simp_all
theorem uZ{k:Nat}(hk:k<m):fW m ids k=k:=by simp[fW,hk]
theorem ii{b j:Nat}(hj:eW b ids m=some j):fW m ids j=b/\j<m+ids.length:=by
 obtain⟨h1,h2⟩:=WH hj;grind [fW]
include h in
theorem ie{x y:AV}{v:Value}(hr:JH s x v):fin m ids s.σ x=some y->JH (kW s m ids σ) y v:=by
 have I: ∀r o,s.g.C r o->(kW s m ids σ).g.C r o:=λr o h=>.inl h
 induction hr generalizing y with
 |p c v S=>intro hf;simp[fin]at hf;subst hf;exact .p _ _ (S.weaken I)
 |data cs vs h1 h2=>intro hf;simp[fin]at hf;subst hf;exact .data _ _ h1 λi x v A B=>(h2 i x v A B).weaken I
 |agg cs vs h1 J h2 ih=>
  intro hf;simp only[fin]at hf;split at hf;rename_i l hl;obtain⟨K,N⟩:=vD hl;have hrel: ∀(i:Nat) y v,l[i]?=some y->vs[i]?=some v->JH (kW s m ids σ) y v:=(by grind [JC]);split at hf;rename_i q hq;injection hf with hf;subst hf;have:=NU hq;subst this;refine .data _ _ (by simp_all) λi c v hc B=>?_;have:=hrel i (.p c) v (by simp[hc]) B;cases this<;>simp_all
  injection hf with hf;subst hf;exact .agg _ _ (by omega) J hrel;cases hf
 |tup cs vs h1 h2 ih=>
  intro hf;simp only[fin]at hf;split at hf;rename_i l hl;injection hf with hf;subst hf;obtain⟨K,N⟩:=vD hl;refine .tup _ _ (by omega) λi y v Z B=>?_;grind [JC];cases hf
 |ptr b off r o hm hb=>
  intro hf;obtain⟨cs,hb⟩:=hb;have go: ∀k,fW m ids k=b->k<m+ids.length->JH (kW s m ids σ) (.ptr k off) (.pointer (some ⟨r,o+off,none⟩)):=(by intro k G hk;obtain⟨x,A,z⟩:=MO h G hk hb;simp only[gL]at z;split at z;injection z with z;subst z;exact .ptr k off r o (by grind [uK]) ⟨_,A⟩;cases z);simp only[fin]at hf;split at hf;grind [uZ];rename_i V;split at hf;grind [ii];rename_i D;rw[hb]at hf;simp only[iQ]at hf;obtain⟨p,S,rfl⟩:=hf;have:=NU S;subst this;obtain⟨r',o',c,e,fz,H,hh,F,A,aa⟩:=h.inv.box _ _ hb;rw[hm]at H;injection H with H;injection H with L e2;subst L e2;have P: ∀(j:Nat) x,p[j]?=some x-> ∃v,c[o+j]?=some v/\J0b s.w s.g.C x v:=λj x E=>by
   obtain⟨v,h1,h2,_⟩:=A j (.p x) (by simp[E]);cases h2 with
   |p _ _ h2=>exact⟨v,h1,h2⟩
  refine .cp p off r o (λj=>(c[o+j]?).getD undef) (λj x E=>?_) λj x E=>?_;obtain⟨v,h1,h2⟩:=P j x E;refine⟨.inr (.inr ⟨b,_,by omega,lm D,hb,?_⟩),?_⟩;have:=JC E;simp only[Wr1,hb];exact⟨o,hm,by omega,by simp;omega⟩;show cellAt s.w r (o+j)=_;simp[cellAt,hh,h1];obtain⟨v,h1,h2⟩:=P j x E;rw[h1];exact h2.weaken I
 |cp cs off r o vals W p2=>intro hf;simp[fin]at hf;subst hf;exact .cp cs off r o vals (λj x A=>⟨I _ _ (W j x A).1,(W j x A).2⟩) λj x A=>(p2 j x A).weaken I
 |slr b i n v wm esz rows J hb F B=>
  intro hf;have go: ∀k,fW m ids k=b->k<m+ids.length->JH (kW s m ids σ) (.slr k i n) v:=by
   intro k G hk;obtain⟨x,A,z⟩:=MO h G hk hb;simp only[gL]at z;injection z with z;subst z;refine .slr k i n v wm esz rows J A F λe=>?_;have ad:(kW s m ids σ).g.μ k=s.g.μ b:=by grind [uK]
   rcases B e with⟨O,M,q2,Y⟩|⟨r,cap,c,L,fz,O,q⟩;exact .inl ⟨by simp_all,M,q2,Y⟩;exact .inr ⟨r,cap,c,L,fz,by simp_all,q⟩
  simp only[fin]at hf;split at hf;grind [uZ];rename_i V;split at hf;grind [ii];rename_i D;rw[hb]at hf;simp only at hf;split at hf;rename_i e;injection hf with hf;subst hf;obtain⟨a,cap,K,N,R,U⟩:=kX.of_slr h.inv (.slr b i n v wm esz rows J hb F B) hb e;refine .p _ _ (m4 (s:=kW s m ids σ) K N R (U.imp id ?_));rintro⟨r,o,rfl,A⟩;refine⟨r,o,rfl,λk j row x hk E=>⟨.inr (.inl ⟨b,wm,esz,rows,by omega,lm D,hb,?_⟩),?_⟩⟩;rcases B e with⟨O,M,q2,Y⟩|⟨r',a4,c,L,fz,O,M,_⟩;simp_all;rw[K]at M;injection M with v1 v2 v3;injection v1 with v1;injection v1 with v1 v4;subst v1 v4;refine⟨O,?_⟩;have T:=JC hk;have Q:=JC E;rw[R row (jM hk)]at Q;rw[AN]at T;have:=nO (a:=i+k) (b:=j) (n:=rows.length) (e:=esz) (by omega) Q;grind;obtain⟨u,hu,hr⟩:=A k j row x hk E;exact⟨u,hu,hr.weaken I⟩;cases hf
 |ep b ext i off v wm esz rows J hb F B=>
  intro hf;have go: ∀k,fW m ids k=b->k<m+ids.length->JH (kW s m ids σ) (.ep k ext i off) v:=(by intro k G hk;obtain⟨x,A,z⟩:=MO h G hk hb;simp only[gL]at z;injection z with z;subst z;refine .ep k ext i off v wm esz rows J A F λL e2=>?_;grind [uK]);grind [fin,uZ,Option.map_eq_some_iff,ii]
 |fn f first caps fs cs h1 h2 _ _ ab a9=>
  intro hf;simp only[fin]at hf;split at hf
  ·rename_i a c ha hc;injection hf with hf;subst hf;obtain⟨K,N⟩:=vD ha;obtain⟨R,U⟩:=vD hc;refine .fn f a c fs cs (by omega) (by omega) (λi y v Z B=>?_) (λi y v Z B=>?_)
   all_goals grind [JC]
  cases hf
 |unk x=>intro hf;simp[fin]at hf;subst hf;exact .unk x
 |pre=>intro hf;simp[fin]at hf
include h in
theorem MD(k r o:Nat)(hw:Wr1 (kW s m ids σ) k r o):k<m+ids.length/\Wr1 s (fW m ids k) r o:=by
 unfold Wr1 at hw;have g:(kW s m ids σ).σ=σ:=rfl;rw[g]at hw;cases hk:σ[k]? with
 |none=>simp_all
 |some x=>obtain⟨e,y,j,hf⟩:=je h hk;refine⟨e,?_⟩;rw[hk]at hw;rw[uK k e]at hw;unfold Wr1;rw[j];cases y<;>grind [gL,vD]
include h in
theorem M5:Inv (kW s m ids σ):=by
 have hi:=h.inv;have R: ∀A z,A<m+ids.length->z<m+ids.length->fW m ids A=fW m ids z->A=z:=by
  intro A z h1 h2 C;simp only[fW]at C;split at C<;>split at C
  exact C;rename_i a b;have:z-m<ids.length:=by omega
  have:=h.ge ids[z-m] (by simp);grind;rename_i a b;have:=h.ge (ids[A-m]'(by omega)) (by simp);grind;have W:A-m<ids.length:=by omega
  have V:z-m<ids.length:=by omega
  simp[W,V]at C;have:=WN h.nodup (bA W) (by rw[C];exact bA V);omega
 refine Mq hi rfl ?_ ?_ (fW m ids) (λA z h1 h2 C=>R A z (by rw[<-h.len];exact h1) (by rw[<-h.len];exact h2) C) (λk r o n=>(MD h k r o n).2) ?_;intro k cs hk;obtain⟨I,y,P,hf⟩:=je h hk;cases y with
 |dead=>grind [gL]
 |arr=>grind [gL]
 |box S=>
  simp only[gL]at hf;split at hf;rename_i l hl;injection hf with hf;injection hf with hf;subst hf;obtain⟨A,z⟩:=vD hl;obtain⟨r,o,c,e,fz,g,F,a1,K,L⟩:=hi.box _ _ P;refine⟨r,o,c,e,fz,by grind [uK],F,by omega,λi x Z=>?_,by simp_all⟩;grind [JC,ie];cases hf
 intro k wm esz rows hk;obtain⟨I,y,P,hf⟩:=je h hk;cases y with
 |dead=>grind [gL]
 |box S=>grind [gL]
 |arr w e rs=>
  simp[gL]at hf;obtain⟨rfl,rfl,rfl⟩:=hf;rcases hi.arr _ _ _ _ P with⟨g,Q⟩|⟨r,c,e,fz,g,F,E,hl,K,L⟩;exact .inl ⟨by grind [uK],Q⟩;refine .inr ⟨r,c,e,fz,by grind [uK],F,E,hl,λi j row x h1 h2=>?_,L⟩;obtain⟨⟨v,Y,Q⟩,hc⟩:=K i j row x h1 h2;exact⟨⟨v,Y,Q.weaken λr o h=>.inl h⟩,λe=>.inl (hc e)⟩
 intro r o hc;rcases hc with hc|⟨b,wm,esz,rows,U,T,H,B,a0⟩|⟨b,cs,U,T,H,B⟩;exact⟨(hi.const r o hc).1,λk n=>(hi.const r o hc).2 _ (MD h k r o n).2⟩;rcases hi.arr _ _ _ _ H with⟨g,_⟩|⟨r',c,e,fz,g,F,E,hl,K,_⟩;simp_all;rw[B]at g;injection g with g;injection g with g _;subst g;refine⟨CI F,λk n=>?_⟩;obtain⟨I,n⟩:=MD h k r o n;have D:fW m ids k≠b:=(by grind [fW]);cases wm with
 |true=>
  refine D (hi.apart _ _ _ _ n ?_);grind [Wr1]
 |false=>
  have N:0<esz:=(by grind);have J:o/esz<rows.length:=Nat.div_lt_of_lt_mul (by grind);have G:rows[o/esz]?=some (rows[o/esz]'J):=bA _;have hlen:=E _ (jM G);have O:o%esz<(rows[o/esz]'J).length:=by rw[hlen];exact Nat.mod_lt _ N
  have M:=(K _ _ _ _ G (bA O)).2 rfl;have:o/esz*esz+o%esz=o:=by grind [Nat.div_add_mod]
  rw[this]at M;exact(hi.const r o M).2 _ n
 refine⟨?_,λk n=>?_⟩;obtain⟨r',o',c,e,fz,g,F,_⟩:=hi.box _ _ H;simp only[Wr1,H]at B;obtain⟨o0,q,_⟩:=B;rw[q]at g;injection g with g;injection g with g _;subst g;exact CI F;obtain⟨I,n⟩:=MD h k r o n;have D:fW m ids k≠b:=(by grind [fW]);exact D (hi.apart _ _ _ _ n B)
include h in
theorem ya{E:Sn}(t:bD E s)(K:E.σ.length<=m):bD E (kW s m ids σ):=by
 have hi:=h.inv;refine⟨t.keep,λr o hc=>.inl (t.cmono r o hc),λr o hc=>?_,λr o ⟨k,G⟩=>t.wnew r o ⟨_,(MD h k r o G).2⟩,?_,λb cs hb=>?_,λb wm esz rows hb=>?_⟩;rcases hc with hc|⟨b,wm,esz,rows,J,I,C,v,H⟩|⟨b,cs,_,_,_,v⟩;exact t.cnew r o hc;cases wm with
 |true=>have:=t.wnew r o ⟨b,by grind [Wr1]⟩;exact .inr this
 |false=>
  rcases hi.arr _ _ _ _ C with⟨n,_⟩|⟨r',c,e,fz,n,M,B,hl,y,_⟩;simp_all;rw[v]at n;injection n with n;injection n with n _;subst n;have F:0<esz:=(by grind);have w:o/esz<rows.length:=Nat.div_lt_of_lt_mul (by grind);have q:rows[o/esz]?=some (rows[o/esz]'w):=bA _;have hlen:=B _ (jM q);have A:o%esz<(rows[o/esz]'w).length:=by simp_all [Nat.mod_lt]
  have z:=(y _ _ _ _ q (bA A)).2 rfl;have:o/esz*esz+o%esz=o:=by grind [Nat.div_add_mod]
  rw[this]at z;exact t.cnew r o z
 exact .inr (t.wnew r o ⟨b,v⟩);show E.σ.length<=σ.length;rw[h.len];omega;have j:b<m:=by grind
 obtain⟨⟨cs',h1,h2⟩,D⟩:=t.box b cs hb;obtain⟨x,y,g⟩:=MO h (uZ j) (by omega) h1;simp only[gL]at g;split at g;rename_i l hl;injection g with g;subst g;exact⟨⟨l,y,by grind [vD]⟩,by grind [uK,uZ]⟩;cases g;have j:b<m:=by grind
 obtain⟨wm',rows',h1,h2,D,L⟩:=t.arr b wm esz rows hb;obtain⟨x,y,g⟩:=MO h (uZ j) (by omega) h1;simp[gL]at g;subst g;exact⟨wm',rows',y,h2,D,λe=>by grind [uK,uZ]⟩
end
end Go.Am
end
section
namespace Go.Am
def J7q(P:Program)(f:FuncId)(args:List AV)(blks:List Blk)(r:Res):Prop:=
 (∃fn,P.funcs[f]?=some fn∧fn.body.isSome=true∧(fn.name== "runtime.NumGoroutine")=false)∧
 ∀(g:Gh) (w:World) (vals:Array Value),Inv ⟨blks,g,w⟩->args.length=vals.size->(∀(i:Nat) x v,args[i]?=some x->vals[i]?=some v->JH ⟨blks,g,w⟩ x v)->
  Calls P f vals w λe w'=> ∃v g',e=.returned v/\Inv ⟨r.2,g',w'⟩/\bD ⟨blks,g,w⟩ ⟨r.2,g',w'⟩/\JH ⟨r.2,g',w'⟩ r.1 v
def kK(P:Program)(F:Orc):Prop:= ∀f args blks r,F f args blks=some r->J7q P f args blks r
theorem yM{e:Ent}: ∀{es:List Ent} {k j:Nat},dS e es k=some j->k<=j/\es[j-k]?=some e
 |[],k,j,h=>by grind [dS]
 |x::r,k,j,h=>by
  simp only[dS]at h;split at h;simp_all;obtain⟨h1,h2⟩:=yM h;grind
theorem vG{ρ:Ent->Option Nat}: ∀{xs e:List AV},ren.renL ρ xs=some e->xs.length=e.length/\ ∀(i:Nat) x y,xs[i]?=some x->e[i]?=some y->ren ρ x=some y
 |[],e,h=>by grind [ren.renL]
 |x::xs,e,h=>by
  simp only[ren.renL]at h;split at h;rename_i y l g hl;injection h with h;subst h;obtain⟨h1,h2⟩:=vG hl;grind;cases h
theorem vB{es:List Ent}{new:Nat}: ∀{xs e:List AV},bk.bkL es new xs=some e->xs.length=e.length/\ ∀(i:Nat) x y,xs[i]?=some x->e[i]?=some y->bk es new x=some y
 |[],e,h=>by grind [bk.bkL]
 |x::xs,e,h=>by
  simp only[bk.bkL]at h;split at h;rename_i y l g hl;injection h with h;subst h;obtain⟨h1,h2⟩:=vB hl;grind;cases h
def de(s:Sn)(ρ:Ent->Option Nat)(e:Ent)(x:Blk):Prop:=
 match e with
 | .whole b=>(∃cs l,s.σ[b]?=some (.box cs)/\ren.renL ρ cs=some l/\x=.box l)\/(∃w esz rows,s.σ[b]?=some (.arr w esz rows)/\x=.arr w esz rows)
 | .elem b ext i=> ∃esz rows row,s.σ[b]?=some (.arr true esz rows)/\ext=rows.length/\rows[i]?=some row/\x=.box (row.map .p)
section
variable {s:Sn} {env:List (Nat×AV)}
theorem kv{e:List Blk}{ws:List (Nat×Blk)}{b:Nat}{x:Blk}(h:(rZ ws b).run ⟨env,e⟩=some x):(upd ws e)[b]?=some x:=by
 grind [rZ,RM.run,xY]
theorem JJK{j:List Blk}{ws:List (Nat×Blk)}(k:s.σ=upd ws j){ρ:Ent->Option Nat}{e:Ent}{x:Blk}(h:(AR ws ρ e).run ⟨env,j⟩=some x):de s ρ e x:=by
 cases e with
 |whole b=>
  simp only[AR]at h;obtain⟨y,h1,h⟩:=bind_some h;have hb:=kv h1;rw[<-k]at hb;cases y with
  |dead=>cases h
  |box cs=>
   dsimp only at h;split at h;rename_i l hl;simp only[RM.run]at h;injection h with h;subst h;exact .inl ⟨cs,l,hb,hl,rfl⟩;cases h
  |arr w esz rows=>
   simp only[RM.run]at h;injection h with h;subst h;exact .inr ⟨w,esz,rows,hb,rfl⟩
 |elem b ext i=>
  simp only[AR]at h;obtain⟨y,h1,h⟩:=bind_some h;have hb:=kv h1;rw[<-k]at hb;cases y with
  |arr w esz rows=>
   cases w;cases h;dsimp only at h;split at h;rename_i n;split at h;rename_i row g;simp only[RM.run]at h;injection h with h;subst h;exact⟨esz,rows,row,hb,n,g,rfl⟩;cases h;cases h
  |_=>cases h
theorem zu{g:List Blk}{ws:List (Nat×Blk)}(j:s.σ=upd ws g){ρ:Ent->Option Nat}: ∀{es:List Ent} {blks:List Blk},(lL ws ρ es).run ⟨env,g⟩=some blks->
  es.length=blks.length/\ ∀(k:Nat) e x,es[k]?=some e->blks[k]?=some x->de s ρ e x
 |[],blks,h=>by grind [lL,RM.run]
 |e::es,blks,h=>by
  simp only[lL]at h;obtain⟨x,h1,h⟩:=bind_some h;obtain⟨l,h2,h⟩:=bind_some h;simp only[RM.run]at h;injection h with h;subst h;obtain⟨n,o⟩:=zu j h2;grind [JJK]
def iO(s:Sn)(es:List Ent)(blks:List Blk):Sn:=
 ⟨blks,⟨λk=>match es[k]? with
  |some (.whole b)=>s.g.μ b
  |some (.elem b _ i)=>(match s.σ[b]? with
   |some (.arr _ esz _)=>(match s.g.μ b with
    |some p=>some (p.1,i*esz)
    |none=>none)
   |_=>none)
  |none=>none,s.g.C⟩,s.w⟩
structure gk(s:Sn)(es:List Ent)(blks:List Blk):Prop where
 inv:Inv s
 nodup:(es.map Ent.id).Nodup
 len:es.length=blks.length
 blk: ∀(k:Nat) e x,es[k]?=some e->blks[k]?=some x->de s (λe=>dS e es 0) e x
variable {es:List Ent} {blks:List Blk} (h:gk s es blks)
include h in
theorem sI{k:Nat}{e:Ent}(he:es[k]?=some e): ∃x,blks[k]?=some x/\de s (λe=>dS e es 0) e x:=by
 have g:=JC he;have:k<blks.length:=by rw[<-h.len];exact g
 exact⟨blks[k],bA this,h.blk k e _ he (bA this)⟩
theorem yL{k b:Nat}(he:es[k]?=some (.whole b)):(iO s es blks).g.μ k=s.g.μ b:=by simp[iO,he]
theorem VZ{k b ext i esz:Nat}{wm rows r}(he:es[k]?=some (.elem b ext i))(hb:s.σ[b]?=some (.arr wm esz rows))(hm:s.g.μ b=some (r,0)):(iO s es blks).g.μ k=some (r,i*esz):=by
 grind [iO]
include h in
theorem Lb{x y:AV}{v:Value}(hr:JH s x v):ren (λe=>dS e es 0) x=some y->JH (iO s es blks) y v:=by
 induction hr generalizing y with
 |p c v P=>intro hf;simp[ren]at hf;subst hf;exact .p _ _ P
 |data cs vs h1 h2=>intro hf;simp[ren]at hf;subst hf;exact .data _ _ h1 h2
 |cp cs off r o vals M L=>intro hf;simp[ren]at hf;subst hf;exact .cp cs off r o vals M L
 |unk x=>intro hf;simp[ren]at hf;subst hf;exact .unk x
 |pre=>intro hf;simp[ren]at hf
 |agg cs vs h1 B h2 ih=>
  intro hf;simp only[ren]at hf;obtain⟨l,hl,rfl⟩:=iQ.1 hf;obtain⟨G,J⟩:=vG hl;refine .agg _ _ (by omega) B λi y v F j=>?_;grind [JC]
 |tup cs vs h1 h2 ih=>
  intro hf;simp only[ren]at hf;obtain⟨l,hl,rfl⟩:=iQ.1 hf;obtain⟨G,J⟩:=vG hl;refine .tup _ _ (by omega) λi y v F j=>?_;grind [JC]
 |ptr b off r o hm hb=>
  intro hf;simp only[ren]at hf;obtain⟨k,hk,rfl⟩:=iQ.1 hf;obtain⟨_,hk⟩:=yM hk;simp only[wT]at hk;obtain⟨cs,hb⟩:=hb;obtain⟨x,A,z⟩:=sI h hk;rcases z with⟨cs',l,h1,h2,rfl⟩|⟨w,esz,rows,h1,rfl⟩;exact .ptr k off r o (by grind [yL]) ⟨l,A⟩;simp_all
 |slr b i n v wm esz rows B hb C j=>
  intro hf;simp only[ren]at hf;obtain⟨k,hk,rfl⟩:=iQ.1 hf;obtain⟨_,hk⟩:=yM hk;simp only[wT]at hk;obtain⟨x,A,z⟩:=sI h hk;rcases z with⟨cs',l,h1,h2,rfl⟩|⟨w,D,rows',h1,rfl⟩;simp_all;rw[hb]at h1;injection h1 with h1;injection h1 with a1 a2 a3;subst a1 a2 a3;refine .slr k i n v wm esz rows B A C λe=>?_;have W:(iO s es blks).g.μ k=s.g.μ b:=yL hk;rcases j e with⟨E,N,S,O⟩|⟨r,cap,c,R,fz,E,q⟩;exact .inl ⟨by simp_all,N,S,O⟩;exact .inr ⟨r,cap,c,R,fz,by simp_all,q⟩
 |ep b ext i off v wm esz rows B hb C j=>
  intro hf;simp only[ren]at hf;obtain⟨k,hk,rfl⟩:=iQ.1 hf;obtain⟨_,hk⟩:=yM hk;simp only[wT]at hk;obtain⟨x,A,z⟩:=sI h hk;obtain⟨D,rows',row,h1,h2,Q,rfl⟩:=z;have I:=h1;rw[hb]at h1;injection h1 with h1;injection h1 with a1 a2 a3;subst a1 a2 a3;have T:=JC Q;obtain⟨r,E,j⟩:=j h2 (by omega);subst j;exact .ptr k off r (i*esz) (VZ hk I E) ⟨_,A⟩
 |fn f first caps fs cs h1 h2 _ _ U V=>
  intro hf;simp only[ren]at hf;obtain⟨Z,K,hf⟩:=bU.1 hf;obtain⟨l2,H,rfl⟩:=iQ.1 hf;obtain⟨G,J⟩:=vG K;obtain⟨Y,k4⟩:=vG H;refine .fn f _ _ fs cs (by omega) (by omega) (λi y v F j=>?_) (λi y v F j=>?_)
  all_goals grind [JC]
def idE(es:List Ent)(k:Nat):Nat:=((es[k]?).map Ent.id).getD 0
theorem xO{k:Nat}{e:Ent}(he:es[k]?=some e):idE es k=e.id:=by simp[idE,he]
include h in
theorem uH(k r o:Nat)(hw:Wr1 (iO s es blks) k r o):k<es.length/\Wr1 s (idE es k) r o:=by
 unfold Wr1 at hw;have q:(iO s es blks).σ=blks:=rfl;rw[q]at hw;cases hk:blks[k]? with
 |none=>simp_all
 |some x=>
  have j:k<es.length:=by rw[h.len];grind
  refine⟨j,?_⟩;have e:es[k]?=some es[k]:=bA j;have g:=h.blk k _ x e hk;rw[xO e];rw[hk]at hw;unfold Wr1;cases hcase:es[k]with
  |whole b=>
   rw[hcase]at g e;rcases g with⟨cs',l,h1,h2,rfl⟩|⟨w,n,rows',h1,rfl⟩
   all_goals grind [Ent.id,yL,vG]
  |elem b ext i=>
   rw[hcase]at g e;obtain⟨n,rows',row,h1,h2,v,rfl⟩:=g;grind [Ent.id,iO]
include h in
theorem JS1:Inv (iO s es blks):=by
 have hi:=h.inv;have hlen:(iO s es blks).σ.length=es.length:=h.len.symm;refine Mq hi rfl ?_ ?_ (idE es) ?_ (λk r o J=>(uH h k r o J).2) (λr o hc=>⟨(hi.const r o hc).1,λk J=>(hi.const r o hc).2 _ (uH h k r o J).2⟩);intro k cs hk;have hk:blks[k]?=some (.box cs):=hk;have z:k<es.length:=by grind
 have y:es[k]?=some es[k]:=bA z;have q:=h.blk k _ _ y hk;cases hcase:es[k]with
 |whole b=>
  rw[hcase]at q y;rcases q with⟨cs',l,h1,h2,g⟩|⟨w,n,rows',h1,g⟩;injection g with g;subst g;obtain⟨D,H⟩:=vG h2;obtain⟨r,o,c,e,fz,C,K,V,L,F⟩:=hi.box _ _ h1;refine⟨r,o,c,e,fz,by grind [yL],K,by omega,λi x T=>?_,by simp_all⟩;grind [JC,Lb];cases g
 |elem b ext i=>
  rw[hcase]at q y;obtain⟨n,rows',row,h1,h2,E,g⟩:=q;injection g with g;subst g;have G:=JC E;rcases hi.arr _ _ _ _ h1 with⟨C,B⟩|⟨r,c,e,fz,C,K,I,hl,L,F⟩;simp_all;have U:=I row (jM E);have M:i*n+n<=rows'.length*n:=(by have:=zQ4 n (show i+1<=rows'.length from G);grind);refine⟨r,i*n,c,e,fz,VZ y h1 C,K,by simp;omega,λj x A=>?_,λo h1 h2=>F.1 o (zQ2 _) (by grind)⟩;rw[iS]at A;cases hrj:row[j]? with
  |none=>simp_all
  |some N=>simp[hrj]at A;subst A;obtain⟨⟨v,S,B⟩,_⟩:=L i j row N E hrj;exact⟨v,S,.p _ _ B,B.one⟩
 intro k wm esz rows hk;have hk:blks[k]?=some (.arr wm esz rows):=hk;have z:k<es.length:=by grind
 have y:es[k]?=some es[k]:=bA z;have q:=h.blk k _ _ y hk;cases hcase:es[k]with
 |whole b=>
  rw[hcase]at q y;rcases q with⟨cs',l,h1,h2,g⟩|⟨w,n,rows',h1,g⟩;cases g;injection g with a1 a2 a3;subst a1 a2 a3;rcases hi.arr _ _ _ _ h1 with⟨C,B⟩|⟨r,c,e,fz,C,O⟩;exact .inl ⟨by grind [yL],B⟩;exact .inr ⟨r,c,e,fz,by grind [yL],O⟩
 |elem b ext i=>rw[hcase]at q y;obtain⟨n,rows',row,h1,h2,E,g⟩:=q;cases g
 ·intro D H h1 h2 R;rw[hlen]at h1 h2;have Q:es[D]?=some es[D]:=bA h1;have P:es[H]?=some es[H]:=bA h2;rw[xO Q,xO P]at R;refine WN h.nodup (x:=es[D].id) ?_ ?_
  all_goals simp_all
end
end Go.Am
end
