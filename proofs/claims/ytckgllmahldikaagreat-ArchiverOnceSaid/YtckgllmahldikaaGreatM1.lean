/-
  Parts of a proof.
-/
import Derived.Calls
import Derived.LoopN
import Derived.KernelRfl
import Derived.Laws.Sem
import Derived.Laws.StructEq
import Derived.Laws.Cells
import Derived.Laws.Cover3
import Derived.Laws.Pointers
import Derived.Deep.AppendSrc
import Derived.Laws.MakeOwn
import Derived.Laws.BytesString
import Derived.Lib.SliceRun
import Derived.DeepKeys
set_option linter.unusedSimpArgs false
set_option linter.unusedVariables false
set_option linter.unusedSectionVars false
section
namespace Go.Am
abbrev aK:=Option
abbrev zQ0:= @Nat.le_refl
abbrev zQ1:= @Nat.le_trans
abbrev zQ2:= @Nat.zero_le
abbrev zQ3:= @Nat.lt_or_ge
abbrev zQ4:= @Nat.mul_le_mul_right
abbrev zQ5:= @List.mem_of_getElem?
abbrev zQ6:= @List.ext_getElem?
abbrev zQ7:= @List.mem_of_mem_drop
abbrev zQ8:= @Nat.add_mul
abbrev zQ9:= @List.mem_append
abbrev bC:= @List.getElem?_eq_getElem
abbrev qK:= @List.getElem?_eq_none
abbrev cV:= @List.mem_cons
abbrev aY:= @Bool.and_eq_true
abbrev AQ:= @Sem.run_bind
abbrev uT:= @Result.andThen_ok
abbrev gT:= @Option.map_eq_some_iff
abbrev qk:= @Option.isSome_iff_exists
abbrev ZP:= @Nat.add_assoc
abbrev ZN:= @Array.ext'
abbrev Gp:= @Array.getElem?_toList
abbrev vC:= @List.flatten_cons
abbrev iB:= @List.getElem?_map
abbrev fF:= @Bool.false_eq_true
abbrev cw:= @List.length_eq_one_iff
abbrev jY:= @List.getElem?_of_mem
abbrev ZR:= @Sem.run_pure
abbrev pt:= @List.mem_of_mem_take
abbrev QN:= @List.getElem?_set_self
abbrev ZE:= @List.getElem?_set_ne
abbrev xG:= @List.length_cons
abbrev ZY:= @Array.all_eq_true_iff_forall_mem
abbrev dk:= @List.length_replicate
abbrev oM:= @List.mem_map
abbrev uY:= @List.getElem?_append_right
abbrev eQ:= @List.length_map
abbrev xN:= @Nat.add_zero
abbrev GN:= @List.drop_zero
abbrev Ia:= @Array.getElem?_append_left
abbrev qN:= @Nat.zero_add
abbrev GQ:= @Array.getElem?_eq_getElem
abbrev GP:= @Nat.mul_comm
abbrev eP:= @List.length_append
abbrev uV:= @List.length_take
abbrev xI:= @List.length_drop
abbrev QJ:= @List.getElem?_take
abbrev Hh:= @List.getElem?_drop
abbrev iQ:= @List.append_nil
abbrev BJ:= @List.getElem?_append_left
abbrev dS:= @List.getElem?_eq_some_iff
abbrev dz:= @Nat.eq_zero_or_pos
abbrev AY:= @List.cons_append
abbrev uR:= @List.drop_drop
abbrev GY:= @Bool.not_eq_true'
abbrev uO:= @Nat.sub_zero
abbrev bQ:= @Option.bind_eq_some_iff
abbrev JE:= @Option.bind_some
abbrev kU:= @List.mem_cons_of_mem
abbrev AT:= @Bool.or_eq_true
abbrev kY:= @List.append_assoc
abbrev qL:= @List.take_append_drop
abbrev JSA:= @List.map_take
abbrev cN:= @List.map_cons
abbrev GC:= @List.map_map
abbrev MA:= @List.map_append
abbrev cZ:= @Option.map_some
abbrev sH:= @List.nil_append
abbrev ZT:= @List.map_replicate
abbrev eO:= @List.mem_singleton
abbrev kS:= @Int.le_trans
abbrev mB:= @List.getElem_mem
abbrev aZ:= @Int.le_refl
abbrev fA:= @List.mem_iff_getElem?
abbrev GB:= @Nat.pow_le_pow_right
theorem _root_.And.c{h g e:Prop}(x:h/\g/\e):e:=x.2.2
theorem _root_.And.d{g h j e:Prop}(x:g/\h/\j/\e):e:=x.2.2.2
theorem _root_.And.e{j k n h g:Prop}(x:j/\k/\n/\h/\g):g:=x.2.2.2.2
theorem _root_.And.g{j n o h k e:Prop}(x:j/\n/\o/\h/\k/\e):e:=x.2.2.2.2.2
theorem _root_.And.h{j n q g k o e:Prop}(x:j/\n/\q/\g/\k/\o/\e):e:=x.2.2.2.2.2.2
theorem _root_.And.i{h k o g j n q e:Prop}(x:h/\k/\o/\g/\j/\n/\q/\e):e:=x.2.2.2.2.2.2.2
theorem _root_.And.j{h n r g k q v o e:Prop}(x:h/\n/\r/\g/\k/\q/\v/\o/\e):e:=x.2.2.2.2.2.2.2.2
theorem _root_.And.k{h n r g j q w o v e:Prop}(x:h/\n/\r/\g/\j/\q/\w/\o/\v/\e):e:=x.2.2.2.2.2.2.2.2.2
inductive PV where
 |b (x:Bool)
 |i (k:IntKind) (n:Int)
 |s (l:List UInt8)
 |sl (esz:Nat) (rows:List (List PV))
 |np
 |nf
 |slc (esz:Nat) (rows:List (List PV))
 deriving Inhabited
inductive AV where
 |p (c:PV)
 |data (cs:List PV)
 |agg (cs:List AV)
 |tup (vs:List AV)
 |ptr (b off:Nat)
 |cp (cs:List PV) (off:Nat)
 |slr (b i n:Nat)
 |ep (b ext i off:Nat)
 |pre (b n k:Nat)
 |fn (f:FuncId) (first caps:List AV)
 |unk
 deriving Inhabited
inductive Blk where
 |dead
 |box (cs:List AV)
 |arr (w:Bool) (esz:Nat) (rows:List (List PV))
 deriving Inhabited
abbrev Res:=AV×List Blk
abbrev Orc:=FuncId->List AV->List Blk->Option Res
structure St where
 env:List (Nat×AV)
 sto:List Blk
def lk(n:Nat):List (Nat×AV)->Option AV|[]=>none|(m,v)::r=>if n=m then some v else lk n r
inductive RM(α:Type) where|ret (a:α)|slot (n:Nat) (k:AV->RM α)|blk (b:Nat) (k:Blk->RM α)|fail
def RM.bind{α β:Type}:RM α->(α->RM β)->RM β| .ret a,f=>f a| .slot n k,f=>.slot n λv=>(k v).bind f| .blk b k,f=>.blk b λv=>(k v).bind f| .fail,_=>.fail
def RM.run{α:Type}:RM α->St->Option α
 | .ret a,_=>some a
 | .slot n k,s=>match lk n s.env with|some v=>(k v).run s|none=>none
 | .blk b k,s=>match s.sto[b]? with|some v=>(k v).run s|none=>none
 | .fail,_=>none
inductive Loc where
 |slot (n:Nat)
 |blk (b:Nat)
 deriving DecidableEq
def RM.reads{α:Type}:RM α->St->List Loc
 | .ret _,_=>[]
 | .slot n k,s=>.slot n::match lk n s.env with|some v=>(k v).reads s|none=>[]
 | .blk b k,s=>.blk b::match s.sto[b]? with|some v=>(k v).reads s|none=>[]
 | .fail,_=>[]
def RM.of{α:Type}:Option α->RM α|some a=>.ret a|none=>.fail
inductive Opd where
 |t (n:Nat)
 |c (x:AV)
 deriving Inhabited
inductive KD where
 |b
 |i (k:IntKind)
 |s
 deriving DecidableEq
inductive BT where
 |plain
 |bool
 |flat (ks:List KD)
 |nils
 |nilp
 |nilf
 deriving DecidableEq
inductive CK where
 |int (k:IntKind)
 |same
 |toStr
 |toBytes (own:Bool)
 deriving DecidableEq
inductive SK where
 |str
 |sl (esz:Nat)
 deriving DecidableEq
inductive AOp where
 |mv (x:Opd)
 |mkarr (esz:Nat) (x:Opd)
 |pick (c a b:Opd)
 |newbox (zero:List PV)
 |box (size:Nat) (x:Opd)
 |build (zero:List PV) (parts:List (Nat×Nat×Opd))
 |lits (own:Bool) (esz n:Nat) (zero:List PV) (parts:List (Nat×Opd))
 |load (agg:Bool) (size:Nat) (x:Opd)
 |store (size:Nat) (x v:Opd)
 |nilchk (x:Opd)
 |bin (op:BinOp) (t:BT) (x y:Opd)
 |un (op:UnOp) (x:Opd)
 |conv (k:CK) (x:Opd)
 |mkslice (own:Bool) (esz bytes:Nat) (zero:List PV) (l c:Opd)
 |slice (k:SK) (x:Opd) (lo hi mx:Option Opd)
 |faddr (off:Nat) (x:Opd)
 |field (agg:Bool) (off size:Nat) (x:Opd)
 |iaddr (esz:Nat) (x i:Opd)
 |aaddr (len esz:Nat) (x i:Opd)
 |sidx (x i:Opd)
 |aidx (agg:Bool) (len esz:Nat) (x i:Opd)
 |extr (x:Opd) (i:Nat)
 |call (f:FuncId) (args:List Opd) (k:Nat)
 |callv (g:Opd) (args:List Opd) (k:Nat)
 |len (str:Bool) (x:Opd)
 |app (esz bytes:Nat) (zero:List PV) (x y:Opd)
 |appn (esz bytes:Nat) (zero:List PV) (y:Opd)
 |mm (mx:Bool) (x y:Opd)
 |mkfn (f:FuncId) (first caps:List Opd)
 |newboxo (zero:List PV) (os:List (Nat×Nat))
 |buildo (zero:List PV) (parts:List (Nat×Nat×Opd)) (os:List (Nat×Nat))
 |storen (esz:Nat) (x:Opd)
 |callo (f:FuncId) (keep:List Bool) (args:List Opd) (k:Nat)
 |shr (esz:Nat) (zero:List PV) (x hi:Opd)
 deriving Inhabited
structure cG where
 op:AOp
 dst:Option Nat
 g:Option (Nat×Bool)
 deriving Inhabited
inductive cL where
 |skip
 |bad
 |reg (draw:Bool) (pairs:List (Nat×Nat)) (ins:List cG)
 |seq (a b:cL)
 |cond (c:Opd) (a b:cL)
 |block (id:Nat) (c:cL)
 |loop (live:List Nat) (c:cL)
 |lp (n:Nat) (live:List Nat) (c:cL)
 |scope (c:cL)
 |exit (id:Nat)
 |ret
 |keep (live:List Nat) (c:cL)
 |tidy (live:List Nat) (c:cL)
 |br (live:List Nat) (pre:cL) (c:Opd) (a b rest:cL)
 deriving Inhabited
inductive AX where
 |normal
 |exit (id:Nat)
 |ret
 deriving DecidableEq
abbrev Out:=AX×St
inductive xQ where|tmp (t:Nat)|cell (t:Nat) (agg:Bool) (size:Nat)
structure AFn where
 np:Nat
 nt:Nat
 body:cL
 res:List xQ
 fresh:Bool
structure Eff where
 val:AV
 ws:List (Nat×Blk)
def upd(ws:List (Nat×Blk))(sto:List Blk):List Blk:=ws.foldl (λs x=>s.set x.1 x.2) sto
def unp:List AV->Option (List PV)
 |[]=>some []
 | .p c::r=>match unp r with|some l=>some (c::l)|none=>none
 |_::_=>none
def cellsOf:AV->Option (List AV)| .p c=>some [.p c]| .data cs=>some (cs.map .p)| .agg cs=>some cs| .ptr b o=>some [.ptr b o]| .cp cs o=>some [.cp cs o]| .slr b i n=>some [.slr b i n]| .ep b e i o=>some [.ep b e i o]| .fn f a c=>some [.fn f a c]| .tup _=>none| .pre _ _ _=>none| .unk=>none
def lQ(agg:Bool)(cs:List AV):Option AV:=
 if agg then
  match unp cs with
  |some l=>some (.data l)
  |none=>some (.agg cs)
 else match cs with|[x]=>some x|_=>none
def pS(agg:Bool)(cs:List PV):Option AV:=
 if agg then some (.data cs)
 else match cs with|[x]=>some (.p x)|_=>none
def sub{α:Type}(cs:List α)(off size:Nat):Option (List α):=if off=0/\cs.length=size then some cs else if off+size<=cs.length then some ((cs.drop off).take size)else none
def spl{α:Type}(cs:List α)(off:Nat)(vs:List α):Option (List α):=if off=0/\cs.length=vs.length then some vs else if off+vs.length<=cs.length then some (cs.take off++vs++cs.drop (off+vs.length))else none
def fz:AV->RM (List PV×List (Nat×Blk))
 | .p c=>.ret ([c],[])
 | .data cs=>.ret (cs,[])
 | .slr b i n=>.blk b fun
  | .arr _ esz rows=>if i+n=rows.length then .ret ([.sl esz (rows.drop i)],[(b,.arr false esz rows)])else .fail
  |_=>.fail
 | .agg cs=>fzL cs
 |_=>.fail
where
 fzL:List AV->RM (List PV×List (Nat×Blk))
  |[]=>.ret ([],[])
  |x::r=>(fz1 x).bind λa=>(fzL r).bind λc=>.ret (a.1++c.1,a.2++c.2)
 fz1:AV->RM (List PV×List (Nat×Blk))
  | .p c=>.ret ([c],[])
  | .slr b i n=>.blk b fun
   | .arr _ esz rows=>if i+n=rows.length then .ret ([.sl esz (rows.drop i)],[(b,.arr false esz rows)])else .fail
   |_=>.fail
  |_=>.fail
def xF:KD->PV->PV->Option Bool| .b,.b x,.b y=>some (x==y)| .i k,.i k' x,.i e y=>if k=k'/\k=e then some (x==y)else none| .s,.s x,.s y=>some (x==y)|_,_,_=>none
def cM:List KD->List PV->List PV->Option Bool
 |[],[],[]=>some true
 |k::ks,x::xs,y::e=>match xF k x y,cM ks xs e with|some a,some c=>some (a&&c)|_,_=>none
 |_,_,_=>none
def NV(op:BinOp)(k:IntKind)(x y:Int):Option PV:=
 if y<0 then none
 else match op with| .shl=>some (.i k (k.wrap (x*2^(min y.toNat k.bits))))| .shr=>some (.i k (x.fdiv (2^(min y.toNat k.bits))))|_=>none
def AN(op:BinOp)(k:IntKind)(x y:Int):Option PV:=
 match op with
 | .add=>some (.i k (k.wrap (x+y)))
 | .sub=>some (.i k (k.wrap (x-y)))
 | .mul=>some (.i k (k.wrap (x*y)))
 | .quo=>if y=0 then none else some (.i k (k.wrap (x.tdiv y)))
 | .rem=>if y=0 then none else some (.i k (x.tmod y))
 | .and=>some (.i k (k.wrap (BitVec.ofInt k.bits x&&&BitVec.ofInt k.bits y).toNat))
 | .or=>some (.i k (k.wrap (BitVec.ofInt k.bits x|||BitVec.ofInt k.bits y).toNat))
 | .xor=>some (.i k (k.wrap (BitVec.ofInt k.bits x^^^BitVec.ofInt k.bits y).toNat))
 | .eql=>some (.b (x==y))
 | .neq=>some (.b (x !=y))
 | .lss=>some (.b (decide (x<y)))
 | .leq=>some (.b (decide (x<=y)))
 | .gtr=>some (.b (decide (x>y)))
 | .geq=>some (.b (decide (x>=y)))
 |_=>none
def AZ(op:BinOp)(x y:List UInt8):Option PV:=
 match op with
 | .add=>if x.length+y.length<=4611686018427387904 then some (.s (x++y))else none
 | .eql=>some (.b (x==y))
 | .neq=>some (.b (!(x==y)))
 | .lss=>some (.b (Op.bytesLess x y))
 | .leq=>some (.b (Op.bytesLess x y||x==y))
 | .gtr=>some (.b (!(Op.bytesLess x y||x==y)))
 | .geq=>some (.b (!Op.bytesLess x y))
 |_=>none
def jX(op:BinOp)(r:Option Bool):Option AV:=
 match op,r with
 | .eql,some x=>some (.p (.b x))
 | .neq,some x=>some (.p (.b (!x)))
 |_,_=>none
def QG:BinOp->Option AV| .eql=>some .unk| .neq=>some .unk|_=>none
def oT(op:BinOp)(t:BT)(x y:AV):Option AV:=
 match t with
 | .plain=>match x,y with
  | .p (.i k a),.p (.i k' c)=>match op with| .shl=>(NV .shl k a c).map .p| .shr=>(NV .shr k a c).map .p|_=>if k=k' then(AN op k a c).map .p else none
  | .p (.s a),.p (.s c)=>(AZ op a c).map .p
  |_,_=>none
 | .bool=>match x,y with| .p (.b a),.p (.b c)=>jX op (some (a==c))|_,_=>none
 | .flat ks=>match x,y with| .data a,.data c=>jX op (cM ks a c)|_,_=>none
 | .nils=>match x with
  | .p (.sl _ rows)=>match rows with|[]=>QG op|_::_=>jX op (some false)
  | .slr _ _ n=>if n=0 then QG op else jX op (some false)
  |_=>none
 | .nilp=>match x with| .p .np=>jX op (some true)| .ptr _ _=>jX op (some false)| .cp _ _=>jX op (some false)| .ep _ _ _ _=>jX op (some false)|_=>none
 | .nilf=>match x with| .p .nf=>jX op (some true)| .fn _ _ _=>jX op (some false)|_=>none
def unP(op:UnOp)(x:AV):Option AV:=
 match op,x with
 | .neg,.p (.i k n)=>some (.p (.i k (k.wrap (0-n))))
 | .xor,.p (.i k n)=>some (.p (.i k (k.wrap (BitVec.ofInt k.bits (if k.signed then -1 else k.max)^^^BitVec.ofInt k.bits n).toNat)))
 | .not,.p (.b x)=>some (.p (.b (!x)))
 | .not,.unk=>some .unk
 |_,_=>none
def vX:List (List PV)->Option (List UInt8)
 |[]=>some []
 |[.i .u8 n]::r=>match vX r with|some l=>some (UInt8.ofNat n.toNat::l)|none=>none
 |_::_=>none
def nS(x:UInt8):List PV:=[.i .u8 x.toNat]
def CX(esz:Nat):List (Nat×List PV)->List (List PV)->Option (List (List PV))|[],rows=>some rows|(i,c)::r,rows=>if c.length=esz/\i<rows.length then CX esz r (rows.set i c)else none
def rG:List (Nat×Nat×List AV)->List AV->Option (List AV)
 |[],cs=>some cs
 |(off,size,c)::r,cs=>
  if c.length=size then
   match spl cs off c with
   |some cs'=>rG r cs'
   |none=>none
  else none
def ev:Opd->RM AV| .t n=>.slot n .ret| .c x=>.ret x
def evs:List Opd->RM (List AV)|[]=>.ret []|x::r=>(ev x).bind λv=>(evs r).bind λvs=>.ret (v::vs)
def val(x:Option AV):RM Eff:=
 match x with
 |some v=>.ret ⟨v,[]⟩
 |none=>.fail
def fzs:List Opd->RM (List (List PV)×List (Nat×Blk))|[]=>.ret ([],[])|x::r=>(ev x).bind λv=>(fz v).bind λa=>(fzs r).bind λc=>.ret (a.1::c.1,a.2++c.2)
def pQ(x:Option AV)(top e:Nat):Option Nat:=
 match x with
 |none=>some e
 |some (.p (.i _ n))=>if 0<=n/\n<=top then some n.toNat else none
 |some _=>none
def evo:Option Opd->RM (Option AV)|none=>.ret none|some x=>(ev x).bind λv=>.ret (some v)
def sI(n:Nat)(lo hi:Option AV):Option (Nat×Nat):=
 match pQ hi n n with
 |none=>none
 |some h=>match pQ lo h 0 with|none=>none|some l=>some (l,h)
def yU(x:AV)(lo hi:Option AV):Option AV:=
 match x with
 | .p (.s l)=>match sI l.length lo hi with|some c=>some (.p (.s ((l.drop c.1).take (c.2-c.1))))|none=>none
 |_=>none
def yR(esz:Nat)(x:AV)(lo hi:Option AV):Option AV:=
 match x with
 | .p (.sl e rows)=>if esz=e then
   match sI rows.length lo hi with
   |some c=>some (.p (.sl esz ((rows.drop c.1).take (c.2-c.1))))
   |none=>none
  else none
 |_=>none
def SH(esz:Nat)(x:AV)(lo hi:Option AV)(m:AV):Option AV:=
 match x,lo,hi,m with
 | .p (.sl e rows),none,some (.p (.i _ h)),.p (.i _ n)=>if esz=e/\h=rows.length/\n=rows.length then some (.p (.slc esz rows))else none
 |_,_,_,_=>none
def lN(k:SK)(x:AV)(lo hi mx:Option AV):Option AV:=
 match mx with
 |some m=>match k with| .str=>none| .sl esz=>SH esz x lo hi m
 |none=>match k with| .str=>yU x lo hi| .sl esz=>yR esz x lo hi
def TI(rows:List (List PV))(n:Int):Option (List PV):=if 0<=n then rows[n.toNat]? else none
def nP(esz:Nat)(x i:AV):RM Eff:=
 match x,i with
 | .p (.sl e rows),.p (.i _ n)=>
  if esz=e then
   match TI rows n with
   |some row=>.ret ⟨.cp row 0,[]⟩
   |none=>.fail
  else .fail
 | .slr b j m,.p (.i _ n)=>.blk b fun
  | .arr _ e rows=>if esz=e/\j+m=rows.length/\0<=n/\n<m then .ret ⟨.ep b rows.length (j+n.toNat) 0,[]⟩else .fail
  |_=>.fail
 |_,_=>.fail
def NH(len esz:Nat)(x i:AV):Option AV:=
 match i with
 | .p (.i _ n)=>
  if 0<=n/\n<len then
   match x with
   | .ptr b off=>some (.ptr b (off+n.toNat*esz))
   | .cp cs off=>some (.cp cs (off+n.toNat*esz))
   | .ep b e j off=>some (.ep b e j (off+n.toNat*esz))
   |_=>none
  else none
 |_=>none
def NK(off:Nat):AV->Option AV| .ptr b o=>some (.ptr b (o+off))| .cp cs o=>some (.cp cs (o+off))| .ep b e j o=>some (.ep b e j (o+off))|_=>none
def gY(agg:Bool)(size:Nat):AV->RM Eff
 | .cp cs off=>match sub cs off size with|some l=>val (pS agg l)|none=>.fail
 | .ptr b off=>.blk b fun
  | .box cs=>match sub cs off size with|some l=>val (lQ agg l)|none=>.fail
  |_=>.fail
 | .ep b ext i off=>.blk b fun
  | .arr _ _ rows=>if ext=rows.length then
    match rows[i]? with
    |some row=>match sub row off size with|some l=>val (pS agg l)|none=>.fail
    |none=>.fail
   else .fail
  |_=>.fail
 |_=>.fail
def hE:AV:=.tup []
def iV(size:Nat)(x v:AV):RM Eff:=
 match x with
 | .ptr b off=>.blk b fun
  | .box cs=>match cellsOf v with
   |some l=>if l.length=size then
    match spl cs off l with
    |some cs'=>.ret ⟨hE,[(b,.box cs')]⟩
    |none=>.fail
    else .fail
   |none=>.fail
  |_=>.fail
 | .ep b ext i off=>.blk b fun
  | .arr true esz rows=>if ext=rows.length then
    match rows[i]? with
    |some row=>(fz v).bind λa=>
     if a.1.length=size/\(a.2.all λy=>y.1 !=b)then
      match spl row off a.1 with
      |some e=>.ret ⟨hE,a.2++[(b,.arr true esz (rows.set i e))]⟩
      |none=>.fail
     else .fail
    |none=>.fail
   else .fail
  |_=>.fail
 |_=>.fail
def sR(agg:Bool)(off size:Nat):AV->Option AV
 | .data cs=>match sub cs off size with|some l=>pS agg l|none=>none
 | .agg cs=>match sub cs off size with|some l=>lQ agg l|none=>none
 |_=>none
def SL(i:Nat):AV->Option AV| .tup vs=>vs[i]?|_=>none
def LW:Bool->AV->Option AV|true,.p (.s l)=>some (.p (.i .i64 l.length))|false,.p (.sl _ rows)=>some (.p (.i .i64 rows.length))|false,.slr _ _ n=>some (.p (.i .i64 n))|_,_=>none
def fX(esz:Nat):AV->RM (List (List PV))
 | .p (.sl e rows)=>if esz=e then .ret rows else .fail
 | .p (.s l)=>if esz=1 then .ret (l.map nS)else .fail
 | .slr b i n=>.blk b fun
  | .arr _ e rows=>if esz=e/\i+n=rows.length then .ret (rows.drop i)else .fail
  |_=>.fail
 |_=>.fail
def sJ(n bytes:Nat):Bool:=(2*n+512)*bytes<=281474976710656
def jU(esz bytes:Nat)(x y:AV):RM Eff:=
 match x with
 | .slr b i n=>.blk b fun
  | .arr w e rows=>(fX esz y).bind λnew=>
   if esz=e/\i=0/\n=rows.length/\sJ (n+new.length) bytes then
    .ret ⟨.slr b 0 (n+new.length),[(b,.arr w esz (rows++new))]⟩
   else .fail
  |_=>.fail
 |_=>.fail
def LV(esz:Nat)(zero:List PV)(new:Nat):AV->AV->RM Eff
 | .slr b i n,.p (.i _ k)=>.blk b fun
  | .arr true e rows=>if esz=e/\i=0/\n=rows.length/\0<=k/\k.toNat<=n then .ret ⟨.slr new 0 k.toNat,[(b,.arr false esz (rows++[zero])),(new,.arr true esz (rows.take k.toNat))]⟩else .fail
  |_=>.fail
 |_,_=>.fail
def mmP(mx:Bool)(x y:AV):Option AV:=
 match x,y with
 | .p (.i k a),.p (.i _ c)=>some (.p (.i k (if mx then(if c>a then c else a)else(if c<a then c else a))))
 |_,_=>none
inductive Ent where
 |whole (b:Nat)
 |elem (b ext i:Nat)
 deriving DecidableEq
def Ent.id:Ent->Nat| .whole b=>b| .elem b _ _=>b
def yS(e:Ent)(l:List Ent):List Ent:=if l.any (λx=>x==e)then l else l++[e]
def cX:AV->List Ent->List Ent
 | .ptr b _,l=>yS (.whole b) l
 | .slr b _ _,l=>yS (.whole b) l
 | .ep b e i _,l=>yS (.elem b e i) l
 | .fn _ first caps,l=>entsOfL caps (entsOfL first l)
 | .agg cs,l=>entsOfL cs l
 | .tup cs,l=>entsOfL cs l
 |_,l=>l
where
 entsOfL:List AV->List Ent->List Ent
  |[],l=>l
  |x::r,l=>entsOfL r (cX x l)
def dN(e:Ent):List Ent->Nat->Option Nat|[],_=>none|x::r,k=>if x=e then some k else dN e r (k+1)
def ren(ρ:Ent->Option Nat):AV->Option AV
 | .p c=>some (.p c)
 | .data cs=>some (.data cs)
 | .cp cs o=>some (.cp cs o)
 | .unk=>some .unk
 | .ptr b off=>(ρ (.whole b)).map λk=>.ptr k off
 | .ep b e i off=>(ρ (.elem b e i)).map λk=>.ptr k off
 | .slr b i n=>(ρ (.whole b)).map λk=>.slr k i n
 | .fn f first caps=>(renL ρ first).bind λa=>(renL ρ caps).map λc=>.fn f a c
 | .agg cs=>(renL ρ cs).map .agg
 | .tup cs=>(renL ρ cs).map .tup
 | .pre _ _ _=>none
where
 renL (ρ:Ent->Option Nat):List AV->Option (List AV)
  |[]=>some []
  |x::r=>match ren ρ x,renL ρ r with
   |some y,some l=>some (y::l)
   |_,_=>none
def kH:List Nat->Bool|[]=>true|x::r=> !(r.contains x)&&kH r
def kD(b:Nat):List (Nat×Blk)->Option Blk|[]=>none|(c,x)::r=>match kD b r with|some y=>some y|none=>if c=b then some x else none
def sC(ws:List (Nat×Blk))(b:Nat):RM Blk:=
 .blk b λx=>match kD b ws with|some y=>.ret y|none=>.ret x
def eJ(ws:List (Nat×Blk)):List Ent->List Ent->RM (List Ent)
 |[],acc=>.ret acc
 | .whole b::r,acc=>(sC ws b).bind fun
  | .box cs=>eJ ws r (cX.entsOfL cs acc)
  |_=>eJ ws r acc
 |_::r,acc=>eJ ws r acc
def jS:AV->RM (AV×List (Nat×Blk))
 | .slr b i n=>(fz (.slr b i n)).bind λa=>match a.1 with|[c]=>.ret (.p c,a.2)|_=>.fail
 | .agg cs=>(fz (.agg cs)).bind λa=>.ret (.data a.1,a.2)
 | .tup _=>.fail
 |v=>.ret (v,[])
def kZ:List AV->RM (List AV×List (Nat×Blk))|[]=>.ret ([],[])|x::r=>(jS x).bind λa=>(kZ r).bind λc=>.ret (a.1::c.1,a.2++c.2)
def BW(ws:List (Nat×Blk))(ρ:Ent->Option Nat):Ent->RM Blk
 | .whole b=>(sC ws b).bind fun
  | .box cs=>match ren.renL ρ cs with|some l=>.ret (.box l)|none=>.fail
  | .arr w esz rows=>.ret (.arr w esz rows)
  | .dead=>.fail
 | .elem b ext i=>(sC ws b).bind fun
  | .arr true _ rows=>if ext=rows.length then
    match rows[i]? with
    |some row=>.ret (.box (row.map .p))
    |none=>.fail
   else .fail
  |_=>.fail
def lO(ws:List (Nat×Blk))(ρ:Ent->Option Nat):List Ent->RM (List Blk)|[]=>.ret []|e::r=>(BW ws ρ e).bind λx=>(lO ws ρ r).bind λl=>.ret (x::l)
def bk(es:List Ent)(new:Nat):AV->Option AV
 | .p c=>some (.p c)
 | .data cs=>some (.data cs)
 | .cp cs o=>some (.cp cs o)
 | .unk=>some .unk
 | .ptr k off=>if k<es.length then
   match es[k]? with
   |some (.whole b)=>some (.ptr b off)
   |some (.elem b e i)=>some (.ep b e i off)
   |none=>none
  else some (.ptr (new+(k-es.length)) off)
 | .slr k i n=>if k<es.length then
   match es[k]? with
   |some (.whole b)=>some (.slr b i n)
   |_=>none
  else some (.slr (new+(k-es.length)) i n)
 | .ep k e i off=>if k<es.length then
   match es[k]? with
   |some (.whole b)=>some (.ep b e i off)
   |_=>none
  else some (.ep (new+(k-es.length)) e i off)
 | .fn f first caps=>match bkL es new first,bkL es new caps with|some a,some c=>some (.fn f a c)|_,_=>none
 | .agg cs=>match bkL es new cs with|some l=>some (.agg l)|none=>none
 | .tup cs=>match bkL es new cs with|some l=>some (.tup l)|none=>none
 | .pre _ _ _=>none
where
 bkL (es:List Ent) (new:Nat):List AV->Option (List AV)
  |[]=>some []
  |x::r=>match bk es new x,bkL es new r with
   |some y,some l=>some (y::l)
   |_,_=>none
def vR(ws:List (Nat×Blk))(es:List Ent)(new:Nat)(e:Ent)(x:Blk):RM (Nat×Blk):=
 match e,x with
 | .whole b,.box cs=>match bk.bkL es new cs with|some l=>.ret (b,.box l)|none=>.fail
 | .whole b,.arr w esz rows=>.ret (b,.arr w esz rows)
 | .elem b _ i,.box cs=>(sC ws b).bind fun
  | .arr w esz rows=>match unp cs with|some row=>.ret (b,.arr w esz (rows.set i row))|none=>.fail
  |_=>.fail
 |_,_=>.fail
def jM(ws:List (Nat×Blk))(es:List Ent)(new:Nat):List Ent->List Blk->RM (List (Nat×Blk))|[],_=>.ret []|e::r,x::l=>(vR ws es new e x).bind λy=>(jM ws es new r l).bind λg=>.ret (y::g)|_::_,[]=>.fail
def iJ(es:List Ent)(new:Nat):Nat->List Blk->Option (List (Nat×Blk))
 |_,[]=>some []
 |k,.box cs::l=>match bk.bkL es new cs,iJ es new (k+1) l with|some c,some e=>some ((k,.box c)::e)|_,_=>none
 |k,.arr w esz rows::l=>match iJ es new (k+1) l with|some e=>some ((k,.arr w esz rows)::e)|none=>none
 |_,.dead::_=>none
def iT(F:Orc)(f:FuncId)(args:List AV)(k new:Nat):RM Eff:=
 (kZ args).bind λa=>
 (eJ a.2 (cX.entsOfL a.1 []) (cX.entsOfL a.1 [])).bind λh=>
 (eJ a.2 h h).bind λes=>
 if kH (es.map Ent.id)then
  match ren.renL (λe=>dN e es 0) a.1 with
  |none=>.fail
  |some g=>(lO a.2 (λe=>dN e es 0) es).bind λblks=>
   match F f g blks with
   |none=>.fail
   |some r=>if r.2.length=es.length+k then
    match bk es new r.1,iJ es new new (r.2.drop es.length)with
    |some v,some fresh=>(jM a.2 es new es r.2).bind λj=>.ret ⟨v,a.2++j++fresh⟩
    |_,_=>.fail
    else .fail
 else .fail
def lM:List (Nat×Nat×Opd)->RM (List (Nat×Nat×List AV))|[]=>.ret []|(off,size,x)::r=>(ev x).bind λv=>match cellsOf v with|some cs=>(lM r).bind λl=>.ret ((off,size,cs)::l)|none=>.fail
def iF:List (Nat×Nat)->Nat->List (Nat×Blk)|[],_=>[]|(_,esz)::r,n=>(n,.arr true esz [])::iF r (n+1)
def nI:List (Nat×Nat)->Nat->List AV->List AV|[],_,cs=>cs|(off,_)::r,n,cs=>nI r (n+1) (cs.set off (.slr n 0 0))
def fO:List Bool->List AV->RM (List AV×List (Nat×Blk))|_,[]=>.ret ([],[])|[],x::r=>(jS x).bind λa=>(fO [] r).bind λc=>.ret (a.1::c.1,a.2++c.2)|true::m,x::r=>(fO m r).bind λc=>.ret (x::c.1,c.2)|false::m,x::r=>(jS x).bind λa=>(fO m r).bind λc=>.ret (a.1::c.1,a.2++c.2)
def fW(F:Orc)(f:FuncId)(a:List AV×List (Nat×Blk))(k new:Nat):RM Eff:=
 (eJ a.2 (cX.entsOfL a.1 []) (cX.entsOfL a.1 [])).bind λh=>
 (eJ a.2 h h).bind λes=>
 if kH (es.map Ent.id)then
  match ren.renL (λe=>dN e es 0) a.1 with
  |none=>.fail
  |some g=>(lO a.2 (λe=>dN e es 0) es).bind λblks=>
   match F f g blks with
   |none=>.fail
   |some r=>if es.length<=r.2.length/\r.2.length<=es.length+k then
    match bk es new r.1,iJ es new new (r.2.drop es.length)with
    |some v,some fresh=>(jM a.2 es new es r.2).bind λj=>.ret ⟨v,a.2++j++fresh⟩
    |_,_=>.fail
    else .fail
 else .fail
def opR(F:Orc)(op:AOp)(new:Nat):RM Eff:=
 match op with
 | .mv x=>(ev x).bind λv=>.ret ⟨v,[]⟩
 | .mkarr esz _=>.ret ⟨.slr new 0 0,[(new,.arr true esz [])]⟩
 | .pick c a b=>(ev c).bind fun
  | .p (.b x)=>if x then(ev a).bind λv=>.ret ⟨v,[]⟩else(ev b).bind λv=>.ret ⟨v,[]⟩
  |_=>.fail
 | .newbox zero=>.ret ⟨.ptr new 0,[(new,.box (zero.map .p))]⟩
 | .box size x=>(ev x).bind λv=>match cellsOf v with|some cs=>if cs.length=size then .ret ⟨.ptr new 0,[(new,.box cs)]⟩else .fail|none=>.fail
 | .build zero parts=>(lM parts).bind λl=>match rG l (zero.map .p)with|some cs=>val (lQ true cs)|none=>.fail
 | .lits own esz n zero parts=>(fzs (parts.map (·.2))).bind λa=>
  match CX esz ((parts.map (·.1)).zip a.1) (List.replicate n zero)with
  |some rows=>if own then .ret ⟨.slr new 0 n,a.2++[(new,.arr true esz rows)]⟩else .ret ⟨.p (.sl esz rows),a.2⟩
  |none=>.fail
 | .load agg size x=>(ev x).bind λv=>gY agg size v
 | .store size x y=>(ev x).bind λa=>(ev y).bind λv=>iV size a v
 | .nilchk x=>(ev x).bind fun
  | .ptr b o=>.ret ⟨.ptr b o,[]⟩
  | .cp cs o=>.ret ⟨.cp cs o,[]⟩
  | .ep b e i o=>.ret ⟨.ep b e i o,[]⟩
  | .fn f u c=>.ret ⟨.fn f u c,[]⟩
  |_=>.fail
 | .bin op t x y=>(ev x).bind λa=>(ev y).bind λc=>val (oT op t a c)
 | .un op x=>(ev x).bind λa=>val (unP op a)
 | .conv k x=>(ev x).bind λa=>match k,a with
  | .int k,.p (.i _ n)=>.ret ⟨.p (.i k (k.wrap n)),[]⟩
  | .same,.p (.s l)=>.ret ⟨.p (.s l),[]⟩
  | .toStr,a=>(fX 1 a).bind λrows=>match vX rows with|some l=>.ret ⟨.p (.s l),[]⟩|none=>.fail
  | .toBytes own,.p (.s l)=>if own then .ret ⟨.slr new 0 l.length,[(new,.arr true 1 (l.map nS))]⟩else .ret ⟨.p (.sl 1 (l.map nS)),[]⟩
  |_,_=>.fail
 | .mkslice own esz bytes zero l c=>(ev l).bind λa=>(ev c).bind λd=>match a,d with
  | .p (.i _ n),.p (.i _ m)=>
   if 0<=n/\n<=m/\bytes*m<=281474976710656/\m<=281474976710656 then
    if own then .ret ⟨.slr new 0 n.toNat,[(new,.arr true esz (List.replicate n.toNat zero))]⟩
    else .ret ⟨.p (.sl esz (List.replicate n.toNat zero)),[]⟩
   else .fail
  |_,_=>.fail
 | .slice k x lo hi mx=>(ev x).bind λa=>(evo lo).bind λlo=>(evo hi).bind λhi=>(evo mx).bind λmx=>
  match a with
  | .slr b i n=>(fz (.slr b i n)).bind λy=>match y.1 with
   |[c]=>match lN k (.p c) lo hi mx with|some v=>.ret ⟨v,y.2⟩|none=>.fail
   |_=>.fail
  |a=>val (lN k a lo hi mx)
 | .faddr off x=>(ev x).bind λa=>val (NK off a)
 | .field agg off size x=>(ev x).bind λa=>val (sR agg off size a)
 | .iaddr esz x i=>(ev x).bind λa=>(ev i).bind λc=>nP esz a c
 | .aaddr len esz x i=>(ev x).bind λa=>(ev i).bind λc=>val (NH len esz a c)
 | .sidx x i=>(ev x).bind λa=>(ev i).bind λc=>match a,c with
  | .p (.s l),.p (.i _ n)=>if 0<=n then
    match l[n.toNat]? with
    |some u=>.ret ⟨.p (.i .u8 u.toNat),[]⟩
    |none=>.fail
   else .fail
  |_,_=>.fail
 | .aidx agg len esz x i=>(ev x).bind λa=>(ev i).bind λc=>match c with| .p (.i _ n)=>if 0<=n/\n<len then val (sR agg (n.toNat*esz) esz a)else .fail|_=>.fail
 | .extr x i=>(ev x).bind λa=>val (SL i a)
 | .call f args k=>(evs args).bind λvs=>iT F f vs k new
 | .callv g args k=>(ev g).bind fun
  | .fn f first caps=>(evs args).bind λvs=>iT F f (first++vs++caps) k new
  |_=>.fail
 | .len str x=>(ev x).bind λa=>val (LW str a)
 | .appn esz bytes _ y=>(ev y).bind λc=>(fX esz c).bind λrows=>
  if sJ rows.length bytes then .ret ⟨.slr new 0 rows.length,[(new,.arr true esz rows)]⟩else .fail
 | .app esz bytes _ x y=>(ev x).bind λa=>(ev y).bind λc=>jU esz bytes a c
 | .shr esz zero x hi=>(ev x).bind λa=>(ev hi).bind λc=>LV esz zero new a c
 | .mm mx x y=>(ev x).bind λa=>(ev y).bind λc=>val (mmP mx a c)
 | .mkfn f first caps=>(evs first).bind λa=>(evs caps).bind λc=>.ret ⟨.fn f a c,[]⟩
 | .newboxo zero os=>.ret ⟨.ptr (new+os.length) 0,iF os new++[(new+os.length,.box (nI os new (zero.map .p)))]⟩
 | .buildo zero parts os=>(lM parts).bind λl=>match rG l (nI os new (zero.map .p))with
  |some cs=>match lQ true cs with|some v=>.ret ⟨v,iF os new⟩|none=>.fail
  |none=>.fail
 | .storen esz x=>(ev x).bind λa=>(iV 1 a (.slr new 0 0)).bind λe=>.ret ⟨e.val,(new,.arr true esz [])::e.ws⟩
 | .callo f keep args k=>(evs args).bind λvs=>(fO keep vs).bind λa=>fW F f a k new
def nM:AOp->Nat| .newbox _| .box _ _| .mkarr _ _| .appn _ _ _ _| .shr _ _ _ _=>1| .lits own _ _ _ _=>if own then 1 else 0| .mkslice own _ _ _ _ _=>if own then 1 else 0| .conv (.toBytes own) _=>if own then 1 else 0| .call _ _ k| .callv _ _ k| .callo _ _ _ k=>k| .newboxo _ os=>os.length+1| .buildo _ _ os=>os.length| .storen _ _=>1|_=>0
def vG(new:Nat):Nat->RM Unit
 |0=>.ret ()
 |k+1=>.blk new fun
  | .dead=>vG (new+1) k
  |_=>.fail
def opD(F:Orc)(op:AOp)(new:Nat):RM Eff:=(vG new (nM op)).bind λ_=>opR F op new
def cJ(F:Orc)(i:cG)(new:Nat):RM Eff:=
 match i.g with
 |none=>opD F i.op new
 |some (g,e)=>.slot g fun
  | .p (.b x)=>if x=e then opD F i.op new else .ret ⟨hE,[]⟩
  | .tup []=>.ret ⟨hE,[]⟩
  |_=>.fail
def put(d:Option Nat)(e:Eff)(s:St):St:=
 match d with
 |some d=>⟨(d,e.val)::s.env,upd e.ws s.sto⟩
 |none=>⟨s.env,upd e.ws s.sto⟩
def gL(F:Orc):List cG->Nat->St->Option St|[],_,s=>some s|i::r,new,s=>match(cJ F i new).run s with|some e=>gL F r (new+nM i.op) (put i.dst e s)|none=>none
def kK:List Loc->List Nat|[]=>[]| .blk b::r=>b::kK r|_::r=>kK r
abbrev Log:=List (List Nat×List Nat)
def kI(F:Orc):List cG->Nat->St->Log->Option (St×Log)|[],_,s,l=>some (s,l)|i::r,new,s,l=>match(cJ F i new).run s with|some e=>kI F r (new+nM i.op) (put i.dst e s) (l++[(kK ((cJ F i new).reads s),e.ws.map (·.1))])|none=>none
def gQ(a b:List Nat):Bool:=a.all λx=> !(b.contains x)
def IN(l:Log):List (Nat×Nat)->Bool
 |[]=>true
 |(i,j)::r=>(match l[i]?,l[j]? with
  |some a,some b=>gQ a.2 b.1&&gQ a.2 b.2&&gQ a.1 b.2
  |_,_=>false)&&IN l r
def news:List cG->Nat|[]=>0|i::r=>nM i.op+news r
def room(n:Nat)(sto:List Blk):List Blk:=if n=0 then sto else sto++List.replicate n .dead
def region(F:Orc)(pairs:List (Nat×Nat))(ins:List cG)(s:St):Option St:=
 match pairs with
 |[]=>gL F ins s.sto.length ⟨s.env,room (news ins) s.sto⟩
 |_::_=>match kI F ins s.sto.length ⟨s.env,room (news ins) s.sto⟩ []with|some (s',l)=>if IN l pairs then some s' else none|none=>none
def restr:List Nat->List (Nat×AV)->List (Nat×AV)|[],_=>[]|k::r,env=>match lk k env with|some v=>(k,v)::restr r env|none=>restr r env
def eY(b:Nat):List Nat->Nat->Option Nat|[],_=>none|x::r,k=>if x=b then some k else eY b r (k+1)
def fin(m:Nat)(ids:List Nat)(sto:List Blk):AV->Option AV
 | .p c=>some (.p c)
 | .data cs=>some (.data cs)
 | .cp cs o=>some (.cp cs o)
 | .unk=>some .unk
 | .ptr b off=>if b<m then some (.ptr b off)else
  match eY b ids m with
  |some k=>some (.ptr k off)
  |none=>match sto[b]? with|some (.box cs)=>(unp cs).map λq=>.cp q off|_=>none
 | .slr b i n=>if b<m then some (.slr b i n)else
  match eY b ids m with
  |some k=>some (.slr k i n)
  |none=>match sto[b]? with|some (.arr _ esz rows)=>if i+n=rows.length then some (.p (.sl esz (rows.drop i)))else none|_=>none
 | .ep b e i off=>if b<m then some (.ep b e i off)else(eY b ids m).map λk=>.ep k e i off
 | .fn f first caps=>match finL m ids sto first,finL m ids sto caps with|some a,some c=>some (.fn f a c)|_,_=>none
 | .agg cs=>match finL m ids sto cs with
  |some l=>match unp l with|some q=>some (.data q)|none=>some (.agg l)
  |none=>none
 | .tup cs=>match finL m ids sto cs with|some l=>some (.tup l)|none=>none
 | .pre _ _ _=>none
where
 finL (m:Nat) (ids:List Nat) (sto:List Blk):List AV->Option (List AV)
  |[]=>some []
  |x::r=>match fin m ids sto x,finL m ids sto r with
   |some y,some l=>some (y::l)
   |_,_=>none
def gH(m:Nat)(ids:List Nat)(sto:List Blk):Blk->Option Blk
 | .dead=>some .dead
 | .box cs=>match fin.finL m ids sto cs with|some l=>some (.box l)|none=>none
 | .arr w esz rows=>some (.arr w esz rows)
def sK(m:Nat)(ids:List Nat)(sto:List Blk):List Blk->Option (List Blk)|[]=>some []|x::r=>match gH m ids sto x,sK m ids sto r with|some y,some l=>some (y::l)|_,_=>none
def xH(m:Nat)(sto:List Blk):List (Nat×AV)->Option (List (Nat×AV))|[]=>some []|(k,x)::r=>match fin m [] sto x,xH m sto r with|some y,some l=>some ((k,y)::l)|_,_=>none
def clean(n:Nat)(live:List Nat)(s:St):Option St:=
 if s.sto.length=n then some ⟨restr live s.env,s.sto⟩
 else match xH n s.sto (restr live s.env),sK n [] s.sto (s.sto.take n)with|some e,some l=>some ⟨e,l⟩|_,_=>none
def oS:List xQ->RM (List AV)|[]=>.ret []| .tmp t::r=>(RM.slot t .ret).bind λv=>(oS r).bind λl=>.ret (v::l)| .cell t agg size::r=>(RM.slot t .ret).bind λv=>(gY agg size v).bind λe=>(oS r).bind λl=>.ret (e.val::l)
def kL(m:Nat)(fresh:Bool)(sto:List Blk):List Ent->List Nat
 |[]=>[]
 | .whole b::r=>if b<m then kL m fresh sto r else
  match sto[b]? with
  |some (.box _)=>b::kL m fresh sto r
  |some (.arr _ _ _)=>if fresh then b::kL m fresh sto r else kL m fresh sto r
  |_=>kL m fresh sto r
 |_::r=>kL m fresh sto r
def sM(sto:List Blk):List Ent->List Ent->List Ent
 |[],acc=>acc
 | .whole b::r,acc=>match sto[b]? with|some (.box cs)=>sM sto r (cX.entsOfL cs acc)|_=>sM sto r acc
 |_::r,acc=>sM sto r acc
def yB(sto:List Blk):List Nat->Option (List Blk)|[]=>some []|b::r=>match sto[b]?,yB sto r with|some x,some l=>some (x::l)|_,_=>none
def one:List AV->AV|[x]=>x|l=>.tup l
def iI(fn:AFn)(m:Nat)(s:St):Option Res:=
 match(oS fn.res).run s with
 |none=>none
 |some vs=>
  if s.sto.length=m then some (one vs,s.sto)
  else
   match kL m fn.fresh s.sto (sM s.sto (cX.entsOfL vs []) (cX.entsOfL vs []))with
   |ids=>if kH ids then
    match fin.finL m ids s.sto vs,sK m ids s.sto (s.sto.take m),yB s.sto ids with
    |some ws,some l,some q=>match sK m ids s.sto q with|some q'=>some (one ws,l++q')|none=>none
    |_,_,_=>none
    else none
def jW:Nat->List AV->List (Nat×AV)|_,[]=>[]|k,x::r=>(k,x)::jW (k+1) r
structure kT where
 np:Nat
 nt:Nat
 p0:cL
 live:List Nat
 pre:cL
 c:Opd
 a:cL
 b:cL
 rest:cL
 res:List xQ
 fresh:Bool
def kT.af(k:kT):AFn:=⟨k.np,k.nt,.seq k.p0 (.br k.live k.pre k.c k.a k.b k.rest),k.res,k.fresh⟩
def uZ(f:AFn)(m:Nat)(o:Option Out):Option Res:=
 match o with
 |some (.normal,s)=>iI f m s
 |some (.ret,s)=>iI f m s
 |_=>none
open Classical in
noncomputable def MW(a b:Option Res):Option Res:=
 match a,b with
 |some r,some r'=>if r=r' then some r else none
 |_,_=>none
def thn(o:Option Out)(k:St->Option Out):Option Out:=
 match o with
 |some (.normal,s)=>k s
 |o=>o
noncomputable def vL(R:cL->St->Option Out)(k:kT)(args:List AV)(blks:List Blk):Option Res:=
 match R k.p0 ⟨jW 0 args,blks⟩with
 |some (.normal,s0)=>match R k.pre s0 with
  |some (.normal,s1)=>match(ev k.c).run s1 with|some (.p (.b x))=>if x=true then uZ k.af blks.length (thn (R k.a s1) λs=>R k.rest s)else uZ k.af blks.length (thn (R k.b s1) λs=>R k.rest s)|some .unk=>MW (uZ k.af blks.length (thn (R k.a s1) λs=>R k.rest s)) (uZ k.af blks.length (thn (R k.b s1) λs=>R k.rest s))|_=>none
  |_=>none
 |_=>none
inductive Entry where|fn (f:AFn)|prim (g:List AV->List Blk->Option Res)|fork (k:kT)
abbrev dM:=FuncId->Option Entry
noncomputable def qU(T:dM)(R:cL->St->Option Out)(f:FuncId)(args:List AV)(blks:List Blk):Option Res:=
 match T f with
 |none=>none
 |some (.prim g)=>g args blks
 |some (.fork k)=>if args.length=k.np then vL R k args blks else none
 |some (.fn fn)=>
  if args.length=fn.np then
   match R fn.body ⟨jW 0 args,blks⟩with
   |some (.normal,s)=>iI fn blks.length s
   |some (.ret,s)=>iI fn blks.length s
   |_=>none
  else none
open Classical in
noncomputable def same(a b:Option Out):Option Out:=
 match a,b with
 |some r,some r'=>if r=r' then some r else none
 |_,_=>none
def nO(n:Nat)(live:List Nat)(o:Option Out):Option Out:=
 match o with
 |some (e,s)=>match clean n live s with|some s'=>some (e,s')|none=>none
 |none=>none
noncomputable def step(T:dM)(R:cL->St->Option Out)(c:cL)(s:St):Option Out:=
 match c with
 | .skip=>some (.normal,s)
 | .bad=>none
 | .reg _ pairs ins=>match region (qU T R) pairs ins s with|some s'=>some (.normal,s')|none=>none
 | .seq a b=>match R a s with|some (.normal,s')=>R b s'|o=>o
 | .cond c a b=>match(ev c).run s with|some (.p (.b x))=>if x=true then R a s else R b s|some .unk=>same (R a s) (R b s)|_=>none
 | .block id c=>match R c s with|some (.exit k,s')=>if k=id then some (.normal,s')else some (.exit k,s')|o=>o
 | .loop live c=>match clean s.sto.length live s with|some s'=>R (.lp s.sto.length live c) s'|none=>none
 | .lp n live c=>match R c s with
  |some (.normal,s')=>(match clean n live s' with
   |some e=>R (.lp n live c) e
   |none=>none)
  |o=>o
 | .scope c=>R c s
 | .exit id=>some (.exit id,s)
 | .ret=>some (.ret,s)
 | .keep live c=>R c ⟨restr live s.env,s.sto⟩
 | .tidy live c=>nO s.sto.length live (R c s)
 | .br live pre c a b rest=>match R pre s with
  |some (.normal,s1)=>(match(ev c).run s1 with
   |some (.p (.b x))=>if x=true then thn (R a s1) λs=>R rest s else thn (R b s1) λs=>R rest s
   |some .unk=>same (nO s1.sto.length live (thn (R a s1) λs=>R rest s)) (nO s1.sto.length live (thn (R b s1) λs=>R rest s))
   |_=>none)
  |_=>none
end Go.Am
end
section
namespace Go.Am
def fN{α:Type}(a b:Option α):Prop:=a=none\/a=b
theorem dB{α:Type}(a:Option α):fN a a:=.inr rfl
theorem run_bind{α β:Type}(m:RM α)(f:α->RM β)(s:St):(m.bind f).run s=(m.run s).bind λa=>(f a).run s:=by
 induction m with
 |ret a=>rfl
 |slot n k ih=>grind [RM.bind,RM.run]
 |blk b k ih=>grind [RM.bind,RM.run]
 |fail=>rfl
theorem nU{α β:Type}{m:RM α}{f f':α->RM β}{s:St}(h: ∀a,fN ((f a).run s) ((f' a).run s)):fN ((m.bind f).run s) ((m.bind f').run s):=by
 rw[run_bind,run_bind];cases m.run s with
 |none=>exact .inl rfl
 |some a=>exact h a
variable {F F':Orc} (h: ∀f a b,fN (F f a b) (F' f a b))
include h in
theorem Ar(f:FuncId)(args:List AV)(k new:Nat)(s:St):fN ((iT F f args k new).run s) ((iT F' f args k new).run s):=by
 unfold iT;refine nU λa=>nU λg=>nU λes=>?_;split;split;simp[dB];refine nU λblks=>?_;rcases h f ‹_› blks with e|e;rw[e];exact .inl rfl;grind [dB];simp[dB]
include h in
theorem JAg(f:FuncId)(a:List AV×List (Nat×Blk))(k new:Nat)(s:St):fN ((fW F f a k new).run s) ((fW F' f a k new).run s):=by
 unfold fW;refine nU λg=>nU λes=>?_;split;split;simp[dB];refine nU λblks=>?_;rcases h f ‹_› blks with e|e;rw[e];exact .inl rfl;grind [dB];simp[dB]
include h in
theorem JHR(op:AOp)(new:Nat)(s:St):fN ((opR F op new).run s) ((opR F' op new).run s):=by
 cases op<;>try exact dB _
 case call f args k=>exact nU λvs=>Ar h ..
 case callo f keep args k=>exact nU λvs=>nU λa=>JAg h ..
 case callv g args k=>
  refine nU λg=>?_;grind [dB,nU,Ar]
include h in
theorem JHU(op:AOp)(new:Nat)(s:St):fN ((opD F op new).run s) ((opD F' op new).run s):=
 nU λ_=>JHR h ..
include h in
theorem zy(i:cG)(new:Nat)(s:St):fN ((cJ F i new).run s) ((cJ F' i new).run s):=by
 unfold cJ;split
 all_goals grind [JHU,RM.run,dB]
theorem zM{α β:Type}(m:RM α)(f:α->RM β)(s:St):(m.bind f).reads s=m.reads s++((m.run s).map λa=>(f a).reads s).getD []:=by
 induction m with
 |ret a=>simp[RM.bind,RM.reads,RM.run]
 |slot n k ih=>grind [RM.bind,RM.reads,RM.run]
 |blk b k ih=>grind [RM.bind,RM.reads,RM.run]
 |fail=>simp[RM.bind,RM.reads,RM.run]
theorem nY{α β:Type}{m:RM α}{f f':α->RM β}{s:St}(h: ∀a,(f a).run s=none\/(f a).reads s=(f' a).reads s):
  ((m.bind f).run s)=none\/(m.bind f).reads s=(m.bind f').reads s:=by
 rw[run_bind,zM,zM];cases m.run s<;>simp_all
include h in
theorem A3(f:FuncId)(args:List AV)(k new:Nat)(s:St):
  (iT F f args k new).run s=none\/(iT F f args k new).reads s=(iT F' f args k new).reads s:=by
 unfold iT;refine nY λa=>nY λg=>nY λes=>?_;split;split;exact .inr rfl;refine nY λblks=>?_;rcases h f ‹_› blks with e|e;rw[e];exact .inl rfl;simp_all;simp_all
include h in
theorem JAB(f:FuncId)(a:List AV×List (Nat×Blk))(k new:Nat)(s:St):
  (fW F f a k new).run s=none\/(fW F f a k new).reads s=(fW F' f a k new).reads s:=by
 unfold fW;refine nY λg=>nY λes=>?_;split;split;exact .inr rfl;refine nY λblks=>?_;rcases h f ‹_› blks with e|e;rw[e];exact .inl rfl;simp_all;simp_all
include h in
theorem JJk(op:AOp)(new:Nat)(s:St):(opR F op new).run s=none\/(opR F op new).reads s=(opR F' op new).reads s:=by
 cases op<;>try exact .inr rfl
 case call f args k=>exact nY λvs=>A3 h ..
 case callo f keep args k=>exact nY λvs=>nY λa=>JAB h ..
 case callv g args k=>
  refine nY λg=>?_;grind [nY,A3]
include h in
theorem JIx(op:AOp)(new:Nat)(s:St):(opD F op new).run s=none\/(opD F op new).reads s=(opD F' op new).reads s:=
 nY λ_=>JJk h ..
include h in
theorem JGL(i:cG)(new:Nat)(s:St):(cJ F i new).run s=none\/(cJ F i new).reads s=(cJ F' i new).reads s:=by
 unfold cJ;split
 all_goals grind [JIx,RM.run,RM.reads]
include h in
theorem JBa(ins:List cG): ∀new s,fN (gL F ins new s) (gL F' ins new s):=by
 induction ins with
 |nil=>exact λ_ _=>dB _
 |cons i r ih=>
  intro new s;simp only[gL];rcases zy h i new s with e|e;rw[e];exact .inl rfl;grind [dB]
include h in
theorem JB9(ins:List cG): ∀new s l,fN (kI F ins new s l) (kI F' ins new s l):=by
 induction ins with
 |nil=>exact λ_ _ _=>dB _
 |cons i r ih=>
  intro new s l;simp only[kI];rcases zy h i new s with e|e;rw[e];exact .inl rfl;grind [JGL,dB]
include h in
theorem Qm(pairs:List (Nat×Nat))(ins:List cG)(s:St):fN (region F pairs ins s) (region F' pairs ins s):=by
 unfold region;split;grind [JBa];rcases JB9 h ins s.sto.length ⟨s.env,Go.Am.room (news ins) s.sto⟩ []with e|e;rw[e];exact .inl rfl;grind [dB]
variable {T:dM} {R R':cL->St->Option Out} (hR: ∀c s,fN (R c s) (R' c s))
include hR in
theorem JDK(k:kT)(args:List AV)(blks:List Blk):fN (vL R k args blks) (vL R' k args blks):=by
 have ht: ∀x s,fN (uZ k.af blks.length (thn (R x s) λs=>R k.rest s)) (uZ k.af blks.length (thn (R' x s) λs=>R' k.rest s)):=by
  intro x s;rcases hR x s with e|e;rw[e];exact .inl rfl;rw[e];cases hx:R' x s with
  |none=>exact .inl rfl
  |some o=>
   obtain⟨q,s'⟩:=o;cases q with
   |normal=>
    simp only[thn];rcases hR k.rest s' with e'|e';rw[e'];exact .inl rfl;grind [dB]
   |_=>exact dB _
 unfold vL;rcases hR k.p0 ⟨jW 0 args,blks⟩with e|e;rw[e];exact .inl rfl;rw[e];split;rename_i s0 _;rcases hR k.pre s0 with e|e;rw[e];exact .inl rfl;rw[e];split;split;grind;rename_i s1 _ _ _;rcases ht k.a s1 with e|e;rw[e];exact .inl rfl;rcases ht k.b s1 with e'|e';rw[e'];unfold MW;exact .inl (by simp_all);grind [dB];simp[dB];simp[dB];simp[dB]
include hR in
theorem JCX(f:FuncId)(a:List AV)(b:List Blk):fN (qU T R f a b) (qU T R' f a b):=by
 unfold qU;split;simp[dB];simp[dB];grind [JDK,dB];split;rcases hR ‹AFn›.body ⟨jW 0 a,b⟩with e|e;rw[e];exact .inl rfl;grind [dB];simp[dB]
include hR in
theorem mh(c:cL)(s:St):fN (step T R c s) (step T R' c s):=by
 cases c with
 |bad=>exact .inl rfl
 |skip=>exact dB _
 |reg d pairs ins=>
  simp only[step];rcases Qm (JCX (T:=T) hR) pairs ins s with e|e;rw[e];exact .inl rfl;grind [dB]
 |seq a b=>
  simp only[step];rcases hR a s with e|e;rw[e];exact .inl rfl;grind
 |cond c a b=>
  simp only[step];split;grind;rcases hR a s with e|e;rw[e];exact .inl rfl;rcases hR b s with e'|e';rw[e'];unfold same;exact .inl (by simp_all);grind [dB];simp[dB]
 |block id c=>
  simp only[step];rcases hR c s with e|e;rw[e];exact .inl rfl;grind [dB]
 |loop live c=>
  grind [step,dB]
 |lp n live c=>
  simp only[step];rcases hR c s with e|e;rw[e];exact .inl rfl;grind [dB]
 |scope c=>exact hR _ _
 |exit id=>exact dB _
 |ret=>exact dB _
 |keep live c=>exact hR _ _
 |tidy live c=>
  simp only[step];rcases hR c s with e|e;rw[e];exact .inl rfl;grind [dB]
 |br live pre c a b rest=>
  have ht: ∀x s,fN (thn (R x s) λs=>R rest s) (thn (R' x s) λs=>R' rest s):=(by intro x s;rcases hR x s with e|e;rw[e];exact .inl rfl;rw[e];unfold thn;grind);simp only[step];rcases hR pre s with e|e;rw[e];exact .inl rfl;rw[e];split;split;grind;rename_i s1 _ _ _;rcases ht a s1 with e|e;rw[e];exact .inl rfl;rcases ht b s1 with e'|e';rw[e'];unfold same;exact .inl (by simp[nO]);grind [dB];simp[dB];simp[dB]
def Ic(T:dM)(M:cL->St->Out->Prop):Prop:= ∀R:cL->St->Option Out,(∀c s r,R c s=some r->M c s r)-> ∀c s r,step T R c s=some r->M c s r
def Den(T:dM)(c:cL)(s:St)(r:Out):Prop:= ∀M,Ic T M->M c s r
theorem jz(T:dM):Ic T (Den T):=λR hR c s r h M e=>e R (λc s r h=>hR c s r h M e) c s r h
theorem L0{T:dM}{c:cL}{s:St}{r:Out}(h:Den T c s r): ∃R:cL->St->Option Out,(∀c s r,R c s=some r->Den T c s r)/\step T R c s=some r:=
 h (λc s r=> ∃R:cL->St->Option Out,(∀c s r,R c s=some r->Den T c s r)/\step T R c s=some r) λR hR c s r hs=>
  ⟨R,λc s r h=>let⟨R',h1,h2⟩:=hR c s r h;jz T R' h1 c s r h2,hs⟩
theorem JNk{T:dM}{c:cL}{s:St}{r:Out}(h:Den T c s r): ∀r',Den T c s r'->r'=r:=by
 have j:Den T c s r/\ ∀r',Den T c s r'->r'=r:=h (λc s r=>Den T c s r/\ ∀r',Den T c s r'->r'=r) λR hR c s r hs=>by
  refine⟨jz T R (λc s r h=>(hR c s r h).1) c s r hs,λr' k=>?_⟩;obtain⟨R',n,hs'⟩:=L0 k;have b1: ∀c s,fN (R c s) ((R c s).or (R' c s)):=λc s=>by cases hc:R c s<;>simp[fN]
  have b2: ∀c s,fN (R' c s) ((R c s).or (R' c s)):=λc s=>by
   cases hc:R c s with
   |none=>simp[fN]
   |some a=>cases hc':R' c s<;>grind [fN]
  have e:=mh (T:=T) b1 c s;have g:=mh (T:=T) b2 c s;rw[hs]at e;rw[hs']at g;rcases e with e|e;cases e
  ·rcases g with g|g
   all_goals grind
 exact j.2
open Classical in
noncomputable def X(T:dM)(c:cL)(s:St):Option Out:=if h: ∃r,Den T c s r then some h.choose else none
theorem NQ{T:dM}{c:cL}{s:St}{r:Out}:X T c s=some r↔Den T c s r:=by
 unfold X;constructor
 ·intro h;split at h
  all_goals grind
 intro h;rw[dif_pos ⟨r,h⟩];grind [JNk]
theorem JSx(T:dM)(motive:cL->St->Out->Prop)
  (h: ∀R:cL->St->Option Out,(∀c s r,R c s=some r->motive c s r)-> ∀c s r,step T R c s=some r->motive c s r): ∀c s r,X T c s=some r->motive c s r:=
 λc s r e=>NQ.1 e motive h
theorem nJ(T:dM)(c:cL)(s:St):X T c s=step T (X T) c s:=by
 have one: ∀r,step T (X T) c s=some r->X T c s=some r:=λr h=>NQ.2 (jz T (X T) (λc s r h=>NQ.1 h) c s r h);cases hs:step T (X T) c s with
 |some r=>exact one r hs
 |none=>
  cases hx:X T c s with
  |none=>rfl
  |some r=>
   obtain⟨R,hR,h⟩:=L0 (NQ.1 hx);have:=mh (T:=T) (R:=R) (R':=X T) (λc s=>by
    cases hc:R c s with
    |none=>exact .inl rfl
    |some a=>right;grind [NQ]) c s
   rw[h,hs]at this;rcases this with e|e<;>cases e
noncomputable def AF(T:dM):Orc:=qU T (X T)
end Go.Am
end
section
namespace Go.Am
structure Gh where
 μ:Nat->Option (Nat×Nat)
 C:Nat->Nat->Prop
def cellAt(w:World)(r o:Nat):Option Value:=
 match w.heap[r]? with
 |some (.cells c _ _)=>c[o]?
 |_=>none
theorem vY(w:World)(r o:Nat):w.cell? ⟨r,o,none⟩=cellAt w r o:=by
 grind [World.cell?,cellAt]
theorem lS{w:World}{r o:Nat}{c e fz}(h:w.heap[r]?=some (.cells c e fz)):cellAt w r o=c[o]?:=by
 grind [cellAt]
inductive J08(w:World)(C:Nat->Nat->Prop):PV->Value->Prop where
 |b (x:Bool):J08 w C (.b x) (.bool x)
 |i (k:IntKind) (n:Int):J08 w C (.i k n) (.int k n)
 |s (l:List UInt8):J08 w C (.s l) (.string ⟨l.toArray⟩)
 |np:J08 w C .np (.pointer none)
 |nf:J08 w C .nf .nilFunc
 |sl0 (esz:Nat) (a:Option Addr) (cap:Nat):J08 w C (.sl esz []) (.slice a 0 cap)
 |sl (esz:Nat) (rows:List (List PV)) (r o cap:Nat) (vals:Nat->Nat->Value):
  rows.length<=cap->(∀row∈rows,row.length=esz)->
  (∀(i j:Nat) row x,rows[i]?=some row->row[j]?=some x->C r (o+i*esz+j)/\cellAt w r (o+i*esz+j)=some (vals i j))->
  (∀(i j:Nat) row x,rows[i]?=some row->row[j]?=some x->J08 w C x (vals i j))->
  J08 w C (.sl esz rows) (.slice (some ⟨r,o,none⟩) rows.length cap)
 |slc (esz:Nat) (rows:List (List PV)) (a:Option Addr):J08 w C (.sl esz rows) (.slice a rows.length rows.length)->J08 w C (.slc esz rows) (.slice a rows.length rows.length)
structure Sn where
 σ:List Blk
 g:Gh
 w:World
def SI(σ:List Blk)(b:Nat):Prop:= ∃cs,σ[b]?=some (.box cs)
def JSq(s:Sn)(b esz i n:Nat)(v:Value):Prop:=(s.g.μ b=none/\i=0/\n=0/\v=.slice none 0 0)\/ ∃r cap c e fz,s.g.μ b=some (r,0)/\v=.slice (some ⟨r,i*esz,none⟩) n cap/\n<=cap/\s.w.heap[r]?=some (.cells c e fz)/\(i+cap)*esz<=c.size
inductive JK(s:Sn):AV->Value->Prop where
 |p (c v):J08 s.w s.g.C c v->JK s (.p c) v
 |data (cs:List PV) (vs:Array Value):cs.length=vs.size->(∀(i:Nat) x v,cs[i]?=some x->vs[i]?=some v->J08 s.w s.g.C x v)->JK s (.data cs) (.agg vs)
 |agg (cs:List AV) (vs:Array Value):cs.length=vs.size->(∀(i:Nat) v,vs[i]?=some v->v.oneCell'=true)->(∀(i:Nat) x v,cs[i]?=some x->vs[i]?=some v->JK s x v)->JK s (.agg cs) (.agg vs)
 |tup (cs:List AV) (vs:Array Value):cs.length=vs.size->(∀(i:Nat) x v,cs[i]?=some x->vs[i]?=some v->JK s x v)->JK s (.tup cs) (.tuple vs)
 |ptr (b off r o):s.g.μ b=some (r,o)->SI s.σ b->JK s (.ptr b off) (.pointer (some ⟨r,o+off,none⟩))
 |cp (cs:List PV) (off r o:Nat) (vals:Nat->Value):
  (∀(j:Nat) x,cs[j]?=some x->s.g.C r (o+j)/\cellAt s.w r (o+j)=some (vals j))->
  (∀(j:Nat) x,cs[j]?=some x->J08 s.w s.g.C x (vals j))->JK s (.cp cs off) (.pointer (some ⟨r,o+off,none⟩))
 |slr (b i n v wm esz rows):(∃a cap,v=.slice a n cap/\(n=0\/a≠none))->s.σ[b]?=some (.arr wm esz rows)->i+n<=rows.length->(i+n=rows.length->JSq s b esz i n v)->JK s (.slr b i n) v
 |ep (b ext i off v wm esz rows):(∃r o,v=.pointer (some ⟨r,o,none⟩))->s.σ[b]?=some (.arr wm esz rows)->ext<=rows.length->
  (ext=rows.length->i<ext-> ∃r,s.g.μ b=some (r,0)/\v=.pointer (some ⟨r,i*esz+off,none⟩))->JK s (.ep b ext i off) v
 |pre (b n k v wm esz rows):(∃a cap,v=.slice a k cap)->s.σ[b]?=some (.arr wm esz rows)->n<=rows.length->k<=n->
  (n=rows.length->(n=0/\v=.slice none 0 0)\/ ∃r cap c e fz,s.g.μ b=some (r,0)/\v=.slice (some ⟨r,0,none⟩) k cap/\n<=cap/\s.w.heap[r]?=some (.cells c e fz)/\cap*esz<=c.size)->JK s (.pre b n k) v
 |fn (f:FuncId) (first caps:List AV) (fs cs:Array Value):first.length=fs.size->caps.length=cs.size->
  (∀(i:Nat) x v,first[i]?=some x->fs[i]?=some v->JK s x v)->(∀(i:Nat) x v,caps[i]?=some x->cs[i]?=some v->JK s x v)->
  JK s (.fn f first caps) (.func (.func f) fs cs)
 |unk (x:Bool):JK s .unk (.bool x)
def Wr1(s:Sn)(b r o:Nat):Prop:=
 match s.σ[b]? with
 |some (.box cs)=> ∃e,s.g.μ b=some (r,e)/\e<=o/\o<e+cs.length
 |some (.arr true _ _)=> ∃e,s.g.μ b=some (r,e)
 |some (.arr false esz rows)=> ∃e,s.g.μ b=some (r,e)/\rows.length*esz<=o
 |_=>False
def Wr(s:Sn)(r o:Nat):Prop:= ∃b,Wr1 s b r o
def GV(fz:Nat×Nat)(a b:Nat):Prop:= ∀o,a<=o->o<b-> ¬(fz.1<=o/\o<fz.2)
def yH(esz:Nat)(fz:Nat×Nat)(n:Nat):Prop:=GV fz 0 n/\(esz≠1-> ¬(fz.1<=n/\n<fz.2))
theorem yH.zero(esz n:Nat):yH esz (0,0) n:=⟨λ_ _ _ h=>by simp at h,λ_ h=>by simp at h⟩
def RY(s:Sn)(b:Nat)(cs:List AV):Prop:= ∃r o c e fz,s.g.μ b=some (r,o)/\s.w.heap[r]?=some (.cells c e fz)/\o+cs.length<=c.size/\(∀(i:Nat) x,cs[i]?=some x-> ∃v,c[o+i]?=some v/\JK s x v/\v.oneCell'=true)/\GV fz o (o+cs.length)
def SX(s:Sn)(b:Nat)(wm:Bool)(esz:Nat)(rows:List (List PV)):Prop:=(s.g.μ b=none/\(rows=[]\/wm=false))\/ ∃r c e fz,s.g.μ b=some (r,0)/\s.w.heap[r]?=some (.cells c e fz)/\(∀row∈rows,row.length=esz)/\rows.length*esz<=c.size/\(∀(i j:Nat) row x,rows[i]?=some row->row[j]?=some x->(∃v,c[i*esz+j]?=some v/\J08 s.w s.g.C x v)/\(wm=false->s.g.C r (i*esz+j)))/\yH esz fz c.size
structure Inv(s:Sn):Prop where
 box: ∀b cs,s.σ[b]?=some (.box cs)->RY s b cs
 arr: ∀b wm esz rows,s.σ[b]?=some (.arr wm esz rows)->SX s b wm esz rows
 apart: ∀b1 b2 r o,Wr1 s b1 r o->Wr1 s b2 r o->b1=b2
 const: ∀r o,s.g.C r o->r<s.w.heap.size/\ ∀b,¬Wr1 s b r o
def nK(W:Nat->Nat->Prop)(w0 w:World):Prop:=w0.heap.size<=w.heap.size/\(∀(r:Nat) c e fz,w0.heap[r]?=some (.cells c e fz)-> ∃c',w.heap[r]?=some (.cells c' e fz)/\c'.size=c.size/\ ∀o,¬W r o->c'[o]?=c[o]?)/\(∀(r:Nat) x,w0.heap[r]?=some x->(∀c e fz,x≠.cells c e fz)->w.heap[r]?=some x)/\w.os=w0.os/\w.output=w0.output
structure bJ(s0 s:Sn):Prop where
 keep:nK (Wr s0) s0.w s.w
 cmono: ∀r o,s0.g.C r o->s.g.C r o
 cnew: ∀r o,s.g.C r o->s0.g.C r o\/Wr s0 r o\/s0.w.heap.size<=r
 wnew: ∀r o,Wr s r o->Wr s0 r o\/s0.w.heap.size<=r
 len:s0.σ.length<=s.σ.length
 box: ∀b cs,s0.σ[b]?=some (.box cs)->(∃cs',s.σ[b]?=some (.box cs')/\cs'.length=cs.length)/\s.g.μ b=s0.g.μ b
 arr: ∀b wm esz rows,s0.σ[b]?=some (.arr wm esz rows)-> ∃wm' rows',s.σ[b]?=some (.arr wm' esz rows')/\(wm'=true->wm=true)/\
  rows.length<=rows'.length/\(rows'.length=rows.length->s.g.μ b=s0.g.μ b)
theorem nK.refl(W w):nK W w w:=⟨zQ0 _,λ_ c _ _ h=>⟨c,h,rfl,λ_ _=>rfl⟩,λ_ _ h _=>h,rfl,rfl⟩
theorem nK.mono{W W':Nat->Nat->Prop}{w0 w}(h:nK W w0 w)(hw: ∀r o,W r o->W' r o):nK W' w0 w:=
 ⟨h.1,λr c e fz j=>let⟨c',a,b,d⟩:=h.2.1 r c e fz j;⟨c',a,b,λo g=>d o λx=>g (hw _ _ x)⟩,h.2.2⟩
theorem nK.cell{W w0 w}(h:nK W w0 w){r o v}(hn: ¬W r o)(hv:cellAt w0 r o=some v):cellAt w r o=some v:=by
 unfold cellAt at hv;split at hv;rename_i c e fz g;obtain⟨c',h1,_,j⟩:=h.2.1 r c e fz g;grind [lS];cases hv
theorem bJ.refl(s:Sn):bJ s s:=
 ⟨.refl _ _,λ_ _ h=>h,λ_ _ h=>.inl h,λ_ _ h=>.inl h,zQ0 _,λ_ cs h=>⟨⟨cs,h,rfl⟩,rfl⟩,
  λ_ wm _ rows h=>⟨wm,rows,h,id,zQ0 _,λ_=>rfl⟩⟩
theorem zO{w:World}{r:Nat}{x:Obj}(h:w.heap[r]?=some x):r<w.heap.size:=by
 grind
theorem bJ.trans{s0 s1 C:Sn}(h:bJ s0 s1)(g:bJ s1 C):bJ s0 C where
 keep:=by
  refine⟨zQ1 h.keep.1 g.keep.1,λr c e fz A=>?_,λr x A E=>g.keep.2.2.1 r x (h.keep.2.2.1 r x A E) E,g.keep.2.2.2.1.trans h.keep.2.2.2.1,g.keep.2.2.2.2.trans h.keep.2.2.2.2⟩;obtain⟨k,n,b1,z⟩:=h.keep.2.1 r c e fz A;obtain⟨q,w,b2,y⟩:=g.keep.2.1 r k e fz n;refine⟨q,w,b2.trans b1,λo G=>(y o λj=>?_).trans (z o G)⟩;rcases h.wnew r o j with j|j
  all_goals simp_all
 cmono r o hc:=g.cmono r o (h.cmono r o hc)
 cnew r o hc:=by
  rcases g.cnew r o hc with hc|j|v;exact h.cnew r o hc
  ·rcases h.wnew r o j with j|v
   all_goals simp_all
  exact .inr (.inr (zQ1 h.keep.1 v))
 wnew r o j:=by
  rcases g.wnew r o j with j|v;exact h.wnew r o j;exact .inr (zQ1 h.keep.1 v)
 len:=zQ1 h.len g.len
 box b cs hb:=by obtain⟨⟨k,n,I⟩,K⟩:=h.box b cs hb;obtain⟨⟨q,w,L⟩,J⟩:=g.box b k n;simp_all
 arr b wm esz rows hb:=by obtain⟨B,F,n,b1,k,z⟩:=h.arr b wm esz rows hb;obtain⟨D,H,w,b2,q,y⟩:=g.arr b B esz F n;exact⟨D,H,w,λe=>b1 (b2 e),zQ1 k q,λe=>(y (by omega)).trans (z (by omega))⟩
theorem Inv.cfix{s0 s:Sn}(hi:Inv s0)(t:bJ s0 s){r o v}(hc:s0.g.C r o)(hv:cellAt s0.w r o=some v):cellAt s.w r o=some v:=
 t.keep.cell (fun⟨b,hb⟩=>(hi.const r o hc).2 b hb) hv
theorem J08.mono{s0 s:Sn}(hi:Inv s0)(t:bJ s0 s){x v}(h:J08 s0.w s0.g.C x v):J08 s.w s.g.C x v:=by
 induction h with
 |b x=>exact .b x
 |i k n=>exact .i k n
 |s l=>exact .s l
 |np=>exact .np
 |nf=>exact .nf
 |sl0 esz a cap=>exact .sl0 esz a cap
 |sl esz rows r o cap vals h1 h2 q _ ih=>exact .sl esz rows r o cap vals h1 h2 (λi j row x e y=>⟨t.cmono _ _ (q i j row x e y).1,hi.cfix t (q i j row x e y).1 (q i j row x e y).2⟩) ih
 |slc esz rows a _ ih=>exact .slc esz rows a ih
theorem SI.mono{s0 s:Sn}(t:bJ s0 s){b}(h:SI s0.σ b):SI s.σ b:=by obtain⟨cs,h⟩:=h;obtain⟨⟨cs',e,_⟩,_⟩:=t.box b cs h;exact⟨cs',e⟩
theorem JK.mono{s0 s:Sn}(hi:Inv s0)(t:bJ s0 s){x v}(h:JK s0 x v):JK s x v:=by
 induction h with
 |p c v h=>exact .p c v (h.mono hi t)
 |data cs vs h1 h2=>exact .data cs vs h1 λi x v w y=>(h2 i x v w y).mono hi t
 |agg cs vs h1 h2 _ ih=>exact .agg cs vs h1 h2 ih
 |tup cs vs h1 _ ih=>exact .tup cs vs h1 ih
 |ptr b off r o h1 h2=>obtain⟨cs,q⟩:=h2;exact .ptr b off r o ((t.box b cs q).2.trans h1) (.mono t ⟨cs,q⟩)
 |cp cs off r o vals h1 h2=>exact .cp cs off r o vals (λj x w=>⟨t.cmono _ _ (h1 j x w).1,hi.cfix t (h1 j x w).1 (h1 j x w).2⟩) λj x w=>(h2 j x w).mono hi t
 |slr b i n v wm esz rows z h1 h2 q=>
  obtain⟨wm',rows',a,_,c,d⟩:=t.arr b wm esz rows h1;refine .slr b i n v wm' esz rows' z a (zQ1 h2 c) λe=>?_;have B:rows'.length=rows.length:=by omega
  rcases q (by omega)with⟨m,H,K,y⟩|⟨r,cap,D,A,fz,m,y,g,E,hs⟩;exact .inl ⟨(d B).trans m,H,K,y⟩;obtain⟨c',C,I,_⟩:=t.keep.2.1 r D A fz E;exact .inr ⟨r,cap,c',A,fz,(d B).trans m,y,g,C,by omega⟩
 |ep b ext i off v wm esz rows z h1 h2 q=>
  obtain⟨wm',rows',a,_,c,d⟩:=t.arr b wm esz rows h1;refine .ep b ext i off v wm' esz rows' z a (zQ1 h2 c) λe L=>?_;grind
 |pre b n k v wm esz rows z h1 h2 J q=>
  obtain⟨wm',rows',a,_,c,d⟩:=t.arr b wm esz rows h1;refine .pre b n k v wm' esz rows' z a (zQ1 h2 c) J λe=>?_;have B:rows'.length=rows.length:=by omega
  rcases q (by omega)with h|⟨r,cap,D,A,fz,m,y,g,E,hs⟩;exact .inl h;obtain⟨c',C,I,_⟩:=t.keep.2.1 r D A fz E;exact .inr ⟨r,cap,c',A,fz,(d B).trans m,y,g,C,by omega⟩
 |fn f first caps fs cs h1 h2 _ _ F G=>exact .fn f first caps fs cs h1 h2 F G
 |unk x=>exact .unk x
theorem nQ{s0 s:Sn}(hi:Inv s0)(t:bJ s0 s)(D:Nat->Prop)
  (same: ∀b,¬D b->s.σ[b]?=s0.σ[b]?/\s.g.μ b=s0.g.μ b)
  (k: ∀b r o v,¬D b->Wr1 s0 b r o->cellAt s0.w r o=some v->cellAt s.w r o=some v)
  (O: ∀b cs,D b->s.σ[b]?=some (.box cs)->RY s b cs)
  (P: ∀b wm esz rows,D b->s.σ[b]?=some (.arr wm esz rows)->SX s b wm esz rows)
  (M: ∀b1 b2 r o,D b1->Wr1 s b1 r o->Wr1 s b2 r o->b1=b2)
  (n: ∀r o,s.g.C r o->r<s.w.heap.size)
  (H: ∀r o b,s.g.C r o->D b-> ¬Wr1 s b r o)
  (K: ∀r o b,s.g.C r o-> ¬s0.g.C r o-> ¬D b-> ¬Wr1 s0 b r o):Inv s:=by
 have wr: ∀b r o,¬D b->(Wr1 s b r o↔Wr1 s0 b r o):=(by intro b r o hd;obtain⟨h1,h2⟩:=same b hd;grind [Wr1]);have cells: ∀(r:Nat) c e fz,s0.w.heap[r]?=some (.cells c e fz)-> ∃c',s.w.heap[r]?=some (.cells c' e fz)/\c'.size=c.size/\ ∀o v,cellAt s.w r o=some v->c'[o]?=some v:=(by intro r c e fz h;obtain⟨c',h1,h2,_⟩:=t.keep.2.1 r c e fz h;grind [lS]);refine⟨?_,?_,?_,?_⟩;intro b cs hb;by_cases hd:D b;simp_all;obtain⟨h1,h2⟩:=same b hd;obtain⟨r,o,c,e,fz,m,A,hl,B,hf⟩:=hi.box b cs (h1▸hb);obtain⟨c',q,N,y⟩:=cells r c e fz A;refine⟨r,o,c',e,fz,h2.trans m,q,by omega,λi x E=>?_,hf⟩;obtain⟨v,R,h,G⟩:=B i x E;refine⟨v,y _ _ (k b r (o+i) v hd ?_ (by grind [lS])),h.mono hi t,G⟩;grind [Wr1];intro b wm esz rows hb;by_cases hd:D b;grind;obtain⟨h1,h2⟩:=same b hd;rcases hi.arr b wm esz rows (h1▸hb)with⟨m,h⟩|⟨r,c,e,fz,m,A,z,hl,B,hf⟩;exact .inl ⟨h2.trans m,h⟩;obtain⟨c',q,N,y⟩:=cells r c e fz A;refine .inr ⟨r,c',e,fz,h2.trans m,q,z,by omega,λi j row x I L=>?_,N▸hf⟩;obtain⟨⟨v,R,h⟩,hc⟩:=B i j row x I L;refine⟨⟨v,y _ _ ?_,h.mono hi t⟩,λe=>t.cmono _ _ (hc e)⟩;cases wm with
 |true=>
  refine k b r _ v hd ?_ (by grind [lS]);grind [Wr1]
 |false=>exact hi.cfix t (hc rfl) (by grind [lS])
 intro b1 b2 r o h1 h2;by_cases J:D b1;grind;by_cases F:D b2;grind;exact hi.apart b1 b2 r o ((wr b1 r o J).1 h1) ((wr b2 r o F).1 h2);intro r o hc;refine⟨n r o hc,λb hb=>?_⟩;by_cases hd:D b;simp_all;by_cases Q:s0.g.C r o;exact(hi.const r o Q).2 b ((wr b r o hd).1 hb);simp_all
end Go.Am
end
section
namespace Go.Am
theorem kP{σ:List Blk}{b:Nat}{x y:Blk}(h:σ[b]?=some x):(σ.set b y)[b]?=some y:=by
 grind
theorem tK{σ:List Blk}{b c:Nat}{y:Blk}(h:b≠c):(σ.set b y)[c]?=σ[c]?:=by simp[h]
theorem yy{s0:Sn}(hi:Inv s0){w':World}(hh:w'.heap=s0.w.heap)(ho:w'.os=s0.w.os)(hp:w'.output=s0.w.output):
  Inv ⟨s0.σ,s0.g,w'⟩/\bJ s0 ⟨s0.σ,s0.g,w'⟩:=by
 have hc: ∀r o,cellAt w' r o=cellAt s0.w r o:=λr o=>by grind [cellAt]
 have t:bJ s0 ⟨s0.σ,s0.g,w'⟩:=by
  refine⟨⟨by simp_all,λr c e fz h=>⟨c,by simp_all,rfl,λ_ _=>rfl⟩,λr x h _=>by simp_all,ho,hp⟩,λ_ _ h=>h,λ_ _ h=>.inl h,λr o ⟨b,hb⟩=>.inl ⟨b,hb⟩,zQ0 _,λ_ cs h=>⟨⟨cs,h,rfl⟩,rfl⟩,
   λ_ wm _ rows h=>⟨wm,rows,h,id,zQ0 _,λ_=>rfl⟩⟩
 exact⟨nQ hi t (λ_=>False) (λ_ _=>⟨rfl,rfl⟩) (λ_ r o v _ _ h=>by simp_all) (λ_ _ h=>h.elim) (λ_ _ _ _ h=>h.elim)
  (λ_ _ _ _ h=>h.elim) (λr o h=>by show r<w'.heap.size;rw[hh];exact(hi.const r o h).1) (λ_ _ _ _ h=>h.elim) (λ_ _ _ h j=>(j h).elim),t⟩
theorem WP{W:Nat->Nat->Prop}{w w':World}{x:Obj}(hh:w'.heap=w.heap.push x)(ho:w'.os=w.os)(hp:w'.output=w.output):nK W w w':=by
 have g: ∀(r:Nat) y,w.heap[r]?=some y->w'.heap[r]?=some y:=(by grind);exact⟨by rw[hh];simp,λr c e fz h=>⟨c,g r _ h,rfl,λ_ _=>rfl⟩,λr y h _=>g r y h,ho,hp⟩
theorem WD{w w':World}{x:Obj}(hh:w'.heap=w.heap.push x):w'.heap[w.heap.size]?=some x:=by rw[hh];simp
theorem lx{w w':World}{x:Obj}(hh:w'.heap=w.heap.push x){r o v}(h:cellAt w r o=some v):cellAt w' r o=some v:=
 (WP (W:=λ_ _=>False) (w:=w) (w':={w' with os:=w.os,output:=w.output}) hh rfl rfl).cell (λh=>h) h
def fM(g:Gh)(new:Nat)(x:Option (Nat×Nat)):Gh:=⟨λb=>if b=new then x else g.μ b,g.C⟩
theorem xr{s0 s:Sn}{new:Nat}{blk:Blk}(hd:s0.σ[new]?=some .dead)(hs:s.σ=s0.σ.set new blk)(x:Option (Nat×Nat))(hg:s.g.μ=(fM s0.g new x).μ):
  s0.σ.length<=s.σ.length/\(∀b cs,s0.σ[b]?=some (.box cs)->(∃cs',s.σ[b]?=some (.box cs')/\cs'.length=cs.length)/\s.g.μ b=s0.g.μ b)/\
  (∀b wm esz rows,s0.σ[b]?=some (.arr wm esz rows)-> ∃wm' rows',s.σ[b]?=some (.arr wm' esz rows')/\(wm'=true->wm=true)/\
  rows.length<=rows'.length/\(rows'.length=rows.length->s.g.μ b=s0.g.μ b)):=by
 have k: ∀b y,s0.σ[b]?=some y->y≠.dead->s.σ[b]?=some y/\s.g.μ b=s0.g.μ b:=by
  intro b y hb j;have h:new≠b:=by grind
  rw[hs,tK h,hg];exact⟨hb,if_neg (λe=>h e.symm)⟩
 simp_all
def JRy(s0:Sn)(c:Array Value):Blk->Prop
 | .box cs=>cs.length<=c.size/\ ∀(i:Nat) x,cs[i]?=some x-> ∃v,c[i]?=some v/\JK s0 x v/\v.oneCell'=true
 | .arr true esz rows=>(∀row∈rows,row.length=esz)/\rows.length*esz<=c.size/\
  ∀(i j:Nat) row x,rows[i]?=some row->row[j]?=some x-> ∃v,c[i*esz+j]?=some v/\J08 s0.w s0.g.C x v
 |_=>False
theorem VD{s0:Sn}(hi:Inv s0){new:Nat}(hd:s0.σ[new]?=some .dead){blk:Blk}{c:Array Value}{e:TypeId}{fz:Nat×Nat}{w':World}
  (hh:w'.heap=s0.w.heap.push (.cells c e fz)) (ho:w'.os=s0.w.os) (hp:w'.output=s0.w.output) (hf:GV fz 0 c.size) (D: ∀wm esz rows,blk=.arr wm esz rows->esz≠1-> ¬(fz.1<=c.size/\c.size<fz.2)) (hb:JRy s0 c blk):
  Inv ⟨s0.σ.set new blk,fM s0.g new (some (s0.w.heap.size,0)),w'⟩/\bJ s0 ⟨s0.σ.set new blk,fM s0.g new (some (s0.w.heap.size,0)),w'⟩:=by
 have q:(s0.σ.set new blk)[new]?=some blk:=kP hd;have wr: ∀b r o,b≠new->(Wr1 ⟨s0.σ.set new blk,fM s0.g new (some (s0.w.heap.size,0)),w'⟩ b r o↔Wr1 s0 b r o):=by simp_all [Wr1,fM,Ne.symm]
 have M: ∀r o,Wr1 ⟨s0.σ.set new blk,fM s0.g new (some (s0.w.heap.size,0)),w'⟩ new r o->r=s0.w.heap.size:=(by intro r o h;unfold Wr1 at h;simp only[q,fM]at h;grind);have N: ∀b r o,Wr1 s0 b r o->r<s0.w.heap.size:=by
  intro b r o h;unfold Wr1 at h;split at h;rename_i cs hb;obtain⟨r',O,c',e',A,m,k,_⟩:=hi.box b cs hb;grind
  ·rename_i hb;obtain⟨J,H⟩:=h;rcases hi.arr b _ _ _ hb with⟨m,_⟩|⟨r',c',e',A,m,k,_⟩
   all_goals grind
  ·rename_i hb;obtain⟨J,H,_⟩:=h;rcases hi.arr b _ _ _ hb with⟨m,_⟩|⟨r',c',e',A,m,k,_⟩
   all_goals grind
  exact h.elim
 have t:bJ s0 ⟨s0.σ.set new blk,fM s0.g new (some (s0.w.heap.size,0)),w'⟩:=(by obtain⟨F,I,G⟩:=xr (s:=⟨s0.σ.set new blk,fM s0.g new (some (s0.w.heap.size,0)),w'⟩) hd rfl (some (s0.w.heap.size,0)) rfl;refine⟨WP hh ho hp,λ_ _ h=>h,λ_ _ h=>.inl h,?_,F,I,G⟩;rintro r o ⟨b,hb⟩;by_cases e:b=new;grind;exact .inl ⟨b,(wr b r o e).1 hb⟩);refine⟨nQ hi t (λb=>b=new) (λb z=>⟨tK (Ne.symm z),if_neg z⟩) (λb r o v _ _ h=>lx hh h) ?_ ?_ ?_ ?_ ?_ ?_,t⟩;rintro b cs rfl n;rw[q]at n;injection n with n;subst n;obtain⟨h1,h2⟩:=hb;refine⟨s0.w.heap.size,0,c,e,fz,if_pos rfl,WD hh,by omega,λi x B=>?_,λo _ hl=>hf o (zQ2 _) (by omega)⟩;obtain⟨v,E,y,C⟩:=h2 i x B;exact⟨v,by simp_all,y.mono hi t,C⟩;rintro b wm esz rows rfl n;rw[q]at n;injection n with n;subst n;cases wm with
 |false=>exact hb.elim
 |true=>obtain⟨h1,h2,K⟩:=hb;refine .inr ⟨s0.w.heap.size,c,e,fz,if_pos rfl,WD hh,h1,h2,λi j row x y B=>⟨?_,λh=>by cases h⟩,hf,D _ _ _ rfl⟩;obtain⟨v,E,y⟩:=K i j row x y B;exact⟨v,E,y.mono hi t⟩
 grind;intro r o hc;show r<w'.heap.size;rw[hh];have:=(hi.const r o hc).1;simp;omega;rintro r o b hc rfl h;have:=(hi.const r o hc).1;grind;exact λr o b hc L=>(L hc).elim
theorem yE{s0:Sn}(hi:Inv s0): ∀b r o,Wr1 s0 b r o->r<s0.w.heap.size:=by
 intro b r o h;unfold Wr1 at h;split at h;rename_i cs hb;obtain⟨r',n,c',e',e,m,k,_⟩:=hi.box b cs hb;grind
 ·rename_i hb;obtain⟨g,j⟩:=h;rcases hi.arr b _ _ _ hb with⟨m,_⟩|⟨r',c',e',e,m,k,_⟩
  all_goals grind
 ·rename_i hb;obtain⟨g,j,_⟩:=h;rcases hi.arr b _ _ _ hb with⟨m,_⟩|⟨r',c',e',e,m,k,_⟩
  all_goals grind
 exact h.elim
theorem VI{s0:Sn}(hi:Inv s0){new:Nat}(hd:s0.σ[new]?=some .dead)(esz:Nat):
  Inv ⟨s0.σ.set new (.arr true esz []),fM s0.g new none,s0.w⟩/\bJ s0 ⟨s0.σ.set new (.arr true esz []),fM s0.g new none,s0.w⟩:=by
 have j:(s0.σ.set new (Blk.arr true esz []))[new]?=some (.arr true esz []):=kP hd;have wr: ∀b r o,b≠new->(Wr1 ⟨s0.σ.set new (.arr true esz []),fM s0.g new none,s0.w⟩ b r o↔Wr1 s0 b r o):=by simp_all [Wr1,fM,Ne.symm]
 have B: ∀r o,¬Wr1 ⟨s0.σ.set new (.arr true esz []),fM s0.g new none,s0.w⟩ new r o:=by simp_all [Wr1,fM]
 have t:bJ s0 ⟨s0.σ.set new (.arr true esz []),fM s0.g new none,s0.w⟩:=(by obtain⟨q,z,x⟩:=xr (s:=⟨s0.σ.set new (.arr true esz []),fM s0.g new none,s0.w⟩) hd rfl none rfl;refine⟨.refl _ _,λ_ _ h=>h,λ_ _ h=>.inl h,?_,q,z,x⟩;rintro r o ⟨b,hb⟩;by_cases e:b=new;simp_all;exact .inl ⟨b,(wr b r o e).1 hb⟩);refine⟨nQ hi t (λb=>b=new) (λb k=>⟨tK (Ne.symm k),if_neg k⟩) (λb r o v _ _ h=>h) ?_ ?_ ?_ ?_ ?_ ?_,t⟩;simp_all;rintro b wm y rows rfl n;rw[j]at n;cases n;exact .inl ⟨if_pos rfl,.inl rfl⟩;simp_all;exact λr o hc=>(hi.const r o hc).1;simp_all;exact λr o b hc A=>(A hc).elim
def qI(g:Gh)(p:Nat->Nat->Prop):Gh:=⟨g.μ,λr o=>g.C r o\/p r o⟩
theorem JJ9{s0:Sn}(hi:Inv s0){x:Obj}{w':World}
  (hh:w'.heap=s0.w.heap.push x) (ho:w'.os=s0.w.os) (hp:w'.output=s0.w.output):
  Inv ⟨s0.σ,qI s0.g λr _=>r=s0.w.heap.size,w'⟩/\bJ s0 ⟨s0.σ,qI s0.g λr _=>r=s0.w.heap.size,w'⟩:=by
 have t:bJ s0 ⟨s0.σ,qI s0.g λr _=>r=s0.w.heap.size,w'⟩:=by
  refine⟨WP hh ho hp,λ_ _ h=>.inl h,λr o h=>?_,λr o h=>.inl h,zQ0 _,λ_ cs h=>⟨⟨cs,h,rfl⟩,rfl⟩,
   λ_ wm _ rows h=>⟨wm,rows,h,id,zQ0 _,λ_=>rfl⟩⟩
  rcases h with h|h
  all_goals simp_all
 refine⟨nQ hi t (λ_=>False) (λ_ _=>⟨rfl,rfl⟩) (λb r o v _ _ h=>lx hh h) (λ_ _ h=>h.elim) (λ_ _ _ _ h=>h.elim)
  (λ_ _ _ _ h=>h.elim) ?_ (λ_ _ _ _ h=>h.elim) ?_,t⟩
 intro r o hc;show r<w'.heap.size;rw[hh];rcases hc with hc|hc;have:=(hi.const r o hc).1;simp;omega;simp;omega;intro r o b hc e _ h;rcases hc with hc|hc;exact e hc;have:=yE hi b r o h;omega
structure Put(r:Nat)(o:Nat)(vs:List Value)(w w':World):Prop where
 there: ∃c e fz c',w.heap[r]?=some (.cells c e fz)/\w'.heap[r]?=some (.cells c' e fz)/\c'.size=c.size/\o+vs.length<=c.size/\
  (∀(j:Nat) v,vs[j]?=some v->c'[o+j]?=some v)/\ ∀k,(k<o\/o+vs.length<=k)->c'[k]?=c[k]?
 rest: ∀r':Nat,r'≠r->w'.heap[r']?=w.heap[r']?
 size:w'.heap.size=w.heap.size
 os:w'.os=w.os
 output:w'.output=w.output
theorem Put.keep{W:Nat->Nat->Prop}{r o vs w w'}(h:Put r o vs w w')(hw: ∀k,o<=k->k<o+vs.length->W r k):nK W w w':=by
 obtain⟨c,e,fz,c',h1,h2,v,_,_,q⟩:=h.there;refine⟨Nat.le_of_eq h.size.symm,λr' j z n g=>?_,λr' x g y=>?_,h.os,h.output⟩;by_cases e':r'=r;grind;exact⟨j,by rw[h.rest r' e'];exact g,rfl,λ_ _=>rfl⟩;by_cases e':r'=r;grind;rw[h.rest r' e'];exact g
theorem Put.cell{r o vs w w'}(h:Put r o vs w w'){r' k v}(hv:cellAt w r' k=some v)(hn:r'≠r\/k<o\/o+vs.length<=k):cellAt w' r' k=some v:=by
 obtain⟨c,e,fz,c',h1,h2,j,_,_,g⟩:=h.there;by_cases e':r'=r;grind [lS];unfold cellAt;rw[h.rest r' e'];exact hv
inductive jj:Blk->Blk->Prop where|box (cs cs':List AV):cs'.length=cs.length->jj (.box cs) (.box cs')|arr (esz:Nat) (rows rows':List (List PV)):rows'.length=rows.length->jj (.arr true esz rows) (.arr true esz rows')
theorem lj{s0:Sn}(hi:Inv s0){b:Nat}{old blk:Blk}{r o:Nat}{vs:List Value}{w':World}(hb:s0.σ[b]?=some old)
  (q:Put r o vs s0.w w') (hw: ∀k,o<=k->k<o+vs.length->Wr1 s0 b r k)
  (hk:jj old blk)
  (z: ∀cs,blk=.box cs->(∀{x v},JK s0 x v->JK ⟨s0.σ.set b blk,s0.g,w'⟩ x v)->RY ⟨s0.σ.set b blk,s0.g,w'⟩ b cs)
  (A: ∀esz rows,blk=.arr true esz rows->(∀{x v},J08 s0.w s0.g.C x v->J08 w' s0.g.C x v)->SX ⟨s0.σ.set b blk,s0.g,w'⟩ b true esz rows):
  Inv ⟨s0.σ.set b blk,s0.g,w'⟩/\bJ s0 ⟨s0.σ.set b blk,s0.g,w'⟩:=by
 have n:(s0.σ.set b blk)[b]?=some blk:=kP hb;have wr: ∀j r o,(Wr1 ⟨s0.σ.set b blk,s0.g,w'⟩ j r o↔Wr1 s0 j r o):=by
  intro j r o;by_cases e:j=b;subst e;unfold Wr1;simp only[n,hb];cases hk<;>simp_all
  grind [Wr1]
 have t:bJ s0 ⟨s0.σ.set b blk,s0.g,w'⟩:=by
  refine⟨q.keep λk h1 h2=>⟨b,hw k h1 h2⟩,λ_ _ h=>h,λ_ _ h=>.inl h,λr o ⟨j,h⟩=>.inl ⟨j,(wr j r o).1 h⟩,by simp,λj cs h=>?_,λj wm esz rows h=>?_⟩;by_cases e:j=b;subst e;rw[hb]at h;injection h with h;subst h;cases hk<;>simp_all
  grind;by_cases e:j=b;subst e;rw[hb]at h;injection h with h;subst h;cases hk<;>simp_all
  grind
 refine⟨nQ hi t (λj=>j=b) (λj y=>⟨tK (Ne.symm y),rfl⟩) ?_ ?_ ?_ ?_ ?_ ?_ ?_,t⟩;intro j r' k v y D E;refine q.cell E ?_;rcases zQ3 k o with h|h;simp_all;rcases zQ3 k (o+vs.length)with B|B;refine .inl λe=>y ?_;subst e;exact hi.apart _ _ _ _ D (hw k h B);simp_all;rintro j cs rfl h;rw[n]at h;injection h with h;subst h;exact z _ rfl λh=>h.mono hi t;rintro j wm esz rows rfl h;rw[n]at h;injection h with h;subst h;cases hk with
 |arr _ _ rows' hl=>exact A _ _ rfl λh=>h.mono hi t
 rintro b1 b2 r o rfl h1 h2;exact hi.apart _ _ _ _ ((wr _ _ _).1 h1) ((wr _ _ _).1 h2);intro r o hc;show r<w'.heap.size;rw[q.size];exact(hi.const r o hc).1;rintro r o j hc rfl h;exact(hi.const r o hc).2 _ ((wr _ _ _).1 h);simp_all
end Go.Am
end
section
namespace Go.Am
theorem pK{a b n e:Nat}(h1:a<n)(h2:b<e):a*e+b<n*e:=by
 have h:(a+1)*e<=n*e:=zQ4 e h1;grind
theorem JD{α:Type}{l:List α}{i:Nat}{x:α}(h:l[i]?=some x):i<l.length:=by
 grind
theorem XC{α:Type}{l:Array α}{i:Nat}{x:α}(h:l[i]?=some x):i<l.size:=by
 grind
theorem lT{α:Type}{l:List α}{i:Nat}{x:α}(h:l[i]?=some x):x∈l:=zQ5 h
def Frz(σ τ:List Blk):Prop:=(∀(b:Nat) wm esz rows,σ[b]?=some (Blk.arr wm esz rows)-> ∃wm',τ[b]?=some (Blk.arr wm' esz rows))/\(∀(b:Nat) x,σ[b]?=some x->(∀wm esz rows,x≠Blk.arr wm esz rows)->τ[b]?=some x)
theorem Frz.refl(σ):Frz σ σ:=⟨λ_ wm _ _ h=>⟨wm,h⟩,λ_ _ h _=>h⟩
theorem Frz.trans{a b c}(h:Frz a b)(g:Frz b c):Frz a c:=
 ⟨λn wm esz rows e=>let⟨wm',h1⟩:=h.1 n wm esz rows e;g.1 n wm' esz rows h1,λn x e j=>g.2 n x (h.2 n x e j) j⟩
theorem JGG{s0:Sn}(hi:Inv s0){b:Nat}{wm:Bool}{esz:Nat}{rows:List (List PV)}(hb:s0.σ[b]?=some (.arr wm esz rows)):
  ∃g',g'.μ=s0.g.μ/\Inv ⟨s0.σ.set b (.arr false esz rows),g',s0.w⟩/\bJ s0 ⟨s0.σ.set b (.arr false esz rows),g',s0.w⟩/\
   Frz s0.σ (s0.σ.set b (.arr false esz rows)):=by
 have q:(s0.σ.set b (.arr false esz rows))[b]?=some (.arr false esz rows):=kP hb;have y:Frz s0.σ (s0.σ.set b (.arr false esz rows)):=by
  refine⟨λn wm' B rows' E=>?_,λn x E H=>?_⟩
  all_goals grind
 cases wm with
 |false=>
  have hs:s0.σ.set b (.arr false esz rows)=s0.σ:=(by apply zQ6;grind);refine⟨s0.g,rfl,?_,?_,y⟩
  all_goals simp_all [bJ.refl]
 |true=>
  refine⟨qI s0.g λr o=>s0.g.μ b=some (r,0)/\o<rows.length*esz,rfl,?_⟩;have wr: ∀k r o,Wr1 ⟨s0.σ.set b (.arr false esz rows),qI s0.g λr o=>s0.g.μ b=some (r,0)/\o<rows.length*esz,s0.w⟩ k r o->Wr1 s0 k r o:=(by intro k r o h;by_cases e:k=b;subst e;unfold Wr1 at h⊢;simp only[q,hb]at h⊢;obtain⟨I,m,_⟩:=h;exact⟨I,m⟩;unfold Wr1 at h⊢;simp only[tK (Ne.symm e)]at h;exact h);have t:bJ s0 ⟨s0.σ.set b (.arr false esz rows),qI s0.g λr o=>s0.g.μ b=some (r,0)/\o<rows.length*esz,s0.w⟩:=(by refine⟨.refl _ _,λ_ _ h=>.inl h,λr o h=>?_,λr o ⟨k,h⟩=>.inl ⟨k,wr k r o h⟩,by simp,λk cs h=>?_,λk wm B rows' h=>?_⟩;rcases h with h|⟨h,_⟩;exact .inl h;refine .inr (.inl ⟨b,?_⟩);grind [Wr1];refine⟨⟨cs,y.2 k _ h (by simp),rfl⟩,rfl⟩;by_cases e:k=b;subst e;rw[hb]at h;injection h with h;injection h with h1 h2 h3;subst h1 h2 h3;exact⟨false,rows,q,by simp,zQ0 _,λ_=>rfl⟩;exact⟨wm,rows',by grind,id,zQ0 _,λ_=>rfl⟩);refine⟨nQ hi t (λk=>k=b) (λk z=>⟨tK (Ne.symm z),rfl⟩) (λ_ _ _ _ _ _ h=>h) ?_ ?_ ?_ ?_ ?_ ?_,t,y⟩;simp_all;rintro k wm B rows' rfl h;rw[q]at h;cases h;rcases hi.arr _ _ _ _ hb with⟨m,G⟩|⟨r,c,e,fz,m,F,C,hl,H,hf⟩;exact .inl ⟨m,.inr rfl⟩;refine .inr ⟨r,c,e,fz,m,F,C,hl,λi j row x A D=>?_,hf⟩;obtain⟨⟨v,K,G⟩,_⟩:=H i j row x A D;refine⟨⟨v,K,G.mono hi t⟩,λ_=>.inr ⟨m,?_⟩⟩;have h1:=JD A;have h2:=JD D;rw[C row (lT A)]at h2;simp_all [pK];rintro b1 b2 r o rfl h1 h2;exact hi.apart _ _ _ _ (wr _ _ _ h1) (wr _ _ _ h2)
  ·intro r o hc;rcases hc with hc|⟨hc,_⟩
   exact(hi.const r o hc).1
   ·rcases hi.arr _ _ _ _ hb with⟨m,_⟩|⟨r',c,e,fz,m,F,_⟩
    all_goals grind
  rintro r o k hc rfl h;rcases hc with hc|⟨hc,J⟩;exact(hi.const r o hc).2 _ (wr _ _ _ h);grind [Wr1];intro r o k hc E z h;rcases hc with hc|⟨hc,J⟩;exact E hc;refine z (hi.apart _ _ r o h ?_);grind [Wr1]
def lJ(s:Sn)(esz:Nat)(rows:List (List PV))(v:Value):Prop:= ∃a cap,v=.slice a rows.length cap/\rows.length<=cap/\(∀row∈rows,row.length=esz)/\(rows=[]\/ ∃r o,a=some ⟨r,o,none⟩/\ ∀(i j:Nat) row x,rows[i]?=some row->row[j]?=some x-> ∃u,cellAt s.w r (o+i*esz+j)=some u/\J08 s.w s.g.C x u)
theorem lJ.of_sl{s:Sn}{esz rows v}(h:J08 s.w s.g.C (.sl esz rows) v):lJ s esz rows v:=by
 cases h with
 |sl0 _ a cap=>exact⟨a,cap,rfl,zQ2 _,(λ_ h=>by cases h),.inl rfl⟩
 |sl _ _ r o cap vals h1 h2 q n=>exact⟨_,cap,rfl,h1,h2,.inr ⟨r,o,rfl,λi j row x e k=>⟨_,(q i j row x e k).2,n i j row x e k⟩⟩⟩
theorem lJ.of_slr{s:Sn}(hi:Inv s){b i n v wm esz rows}(h:JK s (.slr b i n) v)(hb:s.σ[b]?=some (.arr wm esz rows))(e:i+n=rows.length):
  lJ s esz (rows.drop i) v:=by
 cases h with
 |slr _ _ _ _ wm' z rows' _ h1 h2 B=>
  rw[hb]at h1;injection h1 with h1;injection h1 with a1 a2 a3;subst a1 a2 a3;have hl:(rows.drop i).length=n:=by simp;omega
  rcases B e with⟨m,q,C,w⟩|⟨r,cap,c,I,fz,m,w,y,G,hs⟩;subst q C;have:rows=[]:=by grind
  subst this;exact⟨none,0,by simp[w],by simp,by simp,.inl rfl⟩;rcases hi.arr b wm esz rows hb with⟨g,_⟩|⟨r',c',e',E,g,D,o,hlen,H,_⟩;simp_all;rw[m]at g;injection g with g;injection g with g _;subst g;refine⟨some ⟨r,i*esz,none⟩,cap,by simp_all,by omega,λrow A=>o row (zQ7 A),.inr ⟨r,i*esz,rfl,λk j row x F J=>?_⟩⟩;grind [lS]
theorem lJ.mono{s0 s:Sn}(hi:Inv s0)(t:bJ s0 s){esz rows v}(h:lJ s0 esz rows v)(hc: ∀r o u,cellAt s0.w r o=some u->cellAt s.w r o=some u):lJ s esz rows v:=by obtain⟨a,cap,h1,h2,q,g⟩:=h;refine⟨a,cap,h1,h2,q,g.imp id ?_⟩;rintro⟨r,o,A,y⟩;exact⟨r,o,A,λi j row x n z=>let⟨u,k,e⟩:=y i j row x n z;⟨u,hc _ _ _ k,e.mono hi t⟩⟩
theorem mj{s:Sn}{esz:Nat}{rows:List (List PV)}{v:Value}{a:Option Addr}{cap:Nat}(hv:v=.slice a rows.length cap)(e:rows.length<=cap)
  (h: ∀row∈rows,row.length=esz)
  (hx:rows=[]\/ ∃r o,a=some ⟨r,o,none⟩/\ ∀(i j:Nat) row x,rows[i]?=some row->row[j]?=some x->s.g.C r (o+i*esz+j)/\ ∃u,cellAt s.w r (o+i*esz+j)=some u/\J08 s.w s.g.C x u):
  J08 s.w s.g.C (.sl esz rows) v:=by
 subst hv;rcases hx with rfl|⟨r,o,rfl,hx⟩;exact .sl0 _ _ _
 ·refine .sl esz rows r o cap (λi j=>(cellAt s.w r (o+i*esz+j)).getD .nilFunc) e h (λi j row x k n=>?_) λi j row x k n=>?_
  all_goals grind
theorem JJv{s0:Sn}(hi:Inv s0){b i n:Nat}{v:Value}{wm:Bool}{esz:Nat}{rows:List (List PV)}(h:JK s0 (.slr b i n) v)(hb:s0.σ[b]?=some (.arr wm esz rows))
  (e:i+n=rows.length):
  ∃g',Inv ⟨s0.σ.set b (.arr false esz rows),g',s0.w⟩/\bJ s0 ⟨s0.σ.set b (.arr false esz rows),g',s0.w⟩/\
   Frz s0.σ (s0.σ.set b (.arr false esz rows))/\J08 s0.w g'.C (.sl esz (rows.drop i)) v:=by
 obtain⟨g',R,hi',t,hf⟩:=JGG hi hb;refine⟨g',hi',t,hf,?_⟩;have A:=h.mono hi t;have q:(s0.σ.set b (.arr false esz rows))[b]?=some (.arr false esz rows):=kP hb;obtain⟨a,cap,h1,h2,K,H⟩:=lJ.of_slr hi' A q e;refine mj (s:=⟨s0.σ.set b (.arr false esz rows),g',s0.w⟩) h1 h2 K (H.imp id ?_);rintro⟨r,o,rfl,L⟩;refine⟨r,o,rfl,λk j row x G M=>⟨?_,L k j row x G M⟩⟩;cases A with
 |slr _ _ _ _ wm' y rows' _ I V J=>
  have g:(s0.σ.set b (.arr false esz rows))[b]?=some (.arr wm' y rows'):=I;rw[q]at g;injection g with g;injection g with a1 a2 a3;subst a1 a2 a3;rcases J e with⟨m,Q,T,z⟩|⟨r',B,c,U,fz,m,z,D,S,hs⟩;simp_all
  ·rw[h1]at z;injection z with v1 v2 v3;injection v1 with v1;injection v1 with v1 v4;subst v1 v4
   rcases hi'.arr b false esz rows q with⟨E,_⟩|⟨r',c',e',P,E,O,F,hlen,N,_⟩
   all_goals grind
end Go.Am
end
section
namespace Go.Am
theorem UY{α:Type}{a b:List α}{i:Nat}{x:α}(h:(a++b)[i]?=some x):a[i]?=some x\/(a.length<=i/\b[i-a.length]?=some x):=by
 grind
def tj(g:Gh)(wm:Bool)(r lo hi:Nat):Gh:=qI g λr' o=>wm=false/\r'=r/\lo<=o/\o<hi
theorem JNd{s0:Sn}(hi:Inv s0){b:Nat}{wm:Bool}{esz:Nat}{rows new:List (List PV)}{r:Nat}{vs:List Value}{w':World}
  (hb:s0.σ[b]?=some (.arr wm esz rows)) (hm:s0.g.μ b=some (r,0)) (K: ∀row∈new,row.length=esz)
  (z:Put r (rows.length*esz) vs s0.w w') (hlen:vs.length=new.length*esz)
  (hx: ∀(i j:Nat) row x,new[i]?=some row->row[j]?=some x-> ∃u,vs[i*esz+j]?=some u/\J08 s0.w s0.g.C x u):
  Inv ⟨s0.σ.set b (.arr wm esz (rows++new)),tj s0.g wm r (rows.length*esz) ((rows.length+new.length)*esz),w'⟩/\
  bJ s0 ⟨s0.σ.set b (.arr wm esz (rows++new)),tj s0.g wm r (rows.length*esz) ((rows.length+new.length)*esz),w'⟩:=by
 have A:(s0.σ.set b (.arr wm esz (rows++new)))[b]?=some (.arr wm esz (rows++new)):=kP hb;have S:(rows.length+new.length)*esz=rows.length*esz+new.length*esz:=zQ8 _ _ _;generalize hs:(⟨s0.σ.set b (.arr wm esz (rows++new)),tj s0.g wm r (rows.length*esz) ((rows.length+new.length)*esz),w'⟩:Sn)=s;have G:s.σ=s0.σ.set b (.arr wm esz (rows++new)):=by rw[<-hs]
 have T:s.g.μ=s0.g.μ:=by rw[<-hs];rfl
 have B: ∀r' o,s.g.C r' o↔s0.g.C r' o\/(wm=false/\r'=r/\rows.length*esz<=o/\o<(rows.length+new.length)*esz):=by rw[<-hs];exact λ_ _=>Iff.rfl
 have L:s.w=w':=by rw[<-hs]
 have wr: ∀n r' o,Wr1 s n r' o->Wr1 s0 n r' o:=by
  intro n r' o h;by_cases e:n=b;subst e;unfold Wr1 at h⊢;rw[G,A]at h;rw[hb];cases wm<;>grind
  grind [Wr1]
 have y: ∀o,rows.length*esz<=o->Wr1 s0 b r o:=by intro o ho;unfold Wr1;rw[hb];cases wm<;>simp_all
 have t:bJ s0 s:=(by refine⟨?_,λr o h=>(B r o).2 (.inl h),λr' o h=>?_,λr o ⟨n,h⟩=>.inl ⟨n,wr n r o h⟩,by rw[G];simp,λn cs h=>?_,λn wm' I rows' h=>?_⟩;rw[L];exact z.keep λk h1 _=>⟨b,y k h1⟩;rcases(B r' o).1 h with h|⟨_,e,h,_⟩;exact .inl h;subst e;exact .inr (.inl ⟨b,y o h⟩);grind;by_cases e:n=b;subst e;rw[hb]at h;injection h with h;injection h with h1 h2 Q;subst h1 h2 Q;grind;grind);refine⟨nQ hi t (λn=>n=b) (λn D=>⟨by grind,by rw[T]⟩) ?_ ?_ ?_ ?_ ?_ ?_ ?_,t⟩;intro n r' k v D P R;rw[L];refine z.cell R ?_;by_cases F:r'=r;subst F;rcases zQ3 k (rows.length*esz)with h|h;simp_all;exact(D (hi.apart _ _ _ _ P (y k h))).elim;simp_all;simp_all;rintro n wm' I rows' rfl h;rw[G,A]at h;cases h;obtain⟨c,e,fz,c',U,p2,Z,p4,p5,p6⟩:=z.there;rcases hi.arr _ _ _ _ hb with⟨m,_⟩|⟨r',c0,e0,W,m,H,J,hl,N,hf⟩;simp_all;rw[hm]at m;injection m with m;injection m with m _;subst m;rw[U]at H;injection H with H;injection H with q1 q2 q3;subst q1 q2 q3;refine .inr ⟨r,c',e,fz,by simp_all,by simp_all,?_,?_,?_,?_⟩;grind;simp_all;intro i j row x q E;rcases UY q with q|⟨Y,q⟩;obtain⟨⟨v,R,M⟩,hc⟩:=N i j row x q E;have h1:=JD q;have h2:=JD E;rw[J row (lT q)]at h2;have:=pK h1 h2;exact⟨⟨v,by simp_all,M.mono hi t⟩,λe=>(B _ _).2 (.inl (hc e))⟩;obtain⟨u,hu,M⟩:=hx _ j row x q E;have h1:=JD q;have h2:=JD E;rw[K row (lT q)]at h2;have Q:=pK h1 h2;have h4:i*esz+j=rows.length*esz+((i-rows.length)*esz+j):=(by grind [Nat.add_sub_cancel']);refine⟨⟨u,by simp_all,M.mono hi t⟩,λe=>(B _ _).2 (.inr ⟨e,rfl,by omega,by simp_all⟩)⟩;simp_all;rintro b1 b2 r o rfl h1 h2;exact hi.apart _ _ _ _ (wr _ _ _ h1) (wr _ _ _ h2);intro r' o hc;rw[L,z.size];rcases(B r' o).1 hc with hc|⟨_,e,_⟩;exact(hi.const r' o hc).1;subst e;exact yE hi b _ _ (y _ (zQ0 _));rintro r' o n hc rfl h;rcases(B r' o).1 hc with hc|⟨e,F,hlo,O⟩;exact(hi.const r' o hc).2 _ (wr _ _ _ h);subst e F;unfold Wr1 at h;rw[G,A]at h;grind;intro r' o n hc V D h;rcases(B r' o).1 hc with hc|⟨e,F,hlo,O⟩;exact V hc;subst F;exact D (hi.apart _ _ _ o h (y o hlo))
theorem JNJ{s0:Sn}(hi:Inv s0){b:Nat}{wm:Bool}{esz:Nat}{rows rows':List (List PV)}{c:Array Value}{e:TypeId}{w':World}
  (hb:s0.σ[b]?=some (.arr wm esz rows)) (N:rows.length<rows'.length) (J: ∀row∈rows',row.length=esz)
  (hh:w'.heap=s0.w.heap.push (.cells c e (0,0))) (ho:w'.os=s0.w.os) (hp:w'.output=s0.w.output)
  (H:rows'.length*esz<=c.size)
  (hx: ∀(i j:Nat) row x,rows'[i]?=some row->row[j]?=some x-> ∃u,c[i*esz+j]?=some u/\J08 s0.w s0.g.C x u):
  ∃g',g'.μ b=some (s0.w.heap.size,0)/\Inv ⟨s0.σ.set b (.arr wm esz rows'),g',w'⟩/\bJ s0 ⟨s0.σ.set b (.arr wm esz rows'),g',w'⟩:=by
 have y:(s0.σ.set b (.arr wm esz rows'))[b]?=some (.arr wm esz rows'):=kP hb;refine⟨⟨λk=>if k=b then some (s0.w.heap.size,0)else s0.g.μ k,λr o=>s0.g.C r o\/(wm=false/\r=s0.w.heap.size/\o<rows'.length*esz)⟩,if_pos rfl,?_⟩;generalize hs:(⟨s0.σ.set b (.arr wm esz rows'),_,w'⟩:Sn)=s;have E:s.σ=s0.σ.set b (.arr wm esz rows'):=by rw[<-hs]
 have P: ∀k,s.g.μ k=if k=b then some (s0.w.heap.size,0)else s0.g.μ k:=by grind
 have q: ∀r' o,s.g.C r' o↔s0.g.C r' o\/(wm=false/\r'=s0.w.heap.size/\o<rows'.length*esz):=by rw[<-hs];simp_all
 have K:s.w=w':=by rw[<-hs]
 have wr: ∀k r' o,k≠b->(Wr1 s k r' o↔Wr1 s0 k r' o):=by simp_all [Wr1,Ne.symm]
 have D: ∀r' o,Wr1 s b r' o->r'=s0.w.heap.size/\(wm=false->rows'.length*esz<=o):=(by grind [Wr1]);have t:bJ s0 s:=(by refine⟨?_,λr o h=>(q r o).2 (.inl h),λr' o h=>?_,λr o ⟨k,h⟩=>?_,by rw[E];simp,λk cs h=>?_,λk wm' B rows' h=>?_⟩;grind [WP];grind;by_cases n:k=b;grind;exact .inl ⟨k,(wr k r o n).1 h⟩;grind;by_cases n:k=b;subst n;rw[hb]at h;injection h with h;injection h with h1 h2 F;subst h1 h2 F;exact⟨wm,rows',by simp_all,id,by omega,λh=>by omega⟩;grind);refine⟨nQ hi t (λk=>k=b) (λk G=>⟨by grind,by simp_all⟩) (λb r o v _ _ h=>by grind [lx]) ?_ ?_ ?_ ?_ ?_ ?_,t⟩;simp_all;rintro k wm' B rows' rfl h;rw[E,y]at h;cases h;refine .inr ⟨s0.w.heap.size,c,e,(0,0),by simp_all,by simp_all,?_,by simp_all,?_,yH.zero _ _⟩;grind;intro i j row x z A;obtain⟨u,M,L⟩:=hx i j row x z A;refine⟨⟨u,M,L.mono hi t⟩,λI=>(q _ _).2 (.inr ⟨I,rfl,?_⟩)⟩;have h1:=JD z;have h2:=JD A;have F:row.length=esz:=(by grind);simp_all [pK];rintro b1 b2 r o rfl h1 h2;by_cases n:b2=b1;exact n.symm;have:=yE hi _ _ _ ((wr b2 r o n).1 h2);grind;intro r' o hc;rw[K,hh];rcases(q r' o).1 hc with hc|⟨_,hc,_⟩;have:=(hi.const r' o hc).1;simp;omega;simp;omega;rintro r' o k hc rfl h;have h1:=D _ _ h;rcases(q r' o).1 hc with hc|⟨Q,hc,ho⟩;have:=(hi.const r' o hc).1;omega;grind;intro r' o k hc G O h;rcases(q r' o).1 hc with hc|⟨_,hc,_⟩;exact G hc;have:=yE hi _ _ _ h;omega
theorem JKY{s0:Sn}(hi:Inv s0){b:Nat}{wm:Bool}{esz:Nat}{rows new:List (List PV)}{c:Array Value}{e:TypeId}{w':World}
  (hb:s0.σ[b]?=some (.arr wm esz rows)) (o:new≠[]) (k: ∀row∈rows,row.length=esz) (n: ∀row∈new,row.length=esz)
  (hh:w'.heap=s0.w.heap.push (.cells c e (0,0))) (ho:w'.os=s0.w.os) (hp:w'.output=s0.w.output)
  (h:(rows.length+new.length)*esz<=c.size)
  (hx: ∀(i j:Nat) row x,(rows++new)[i]?=some row->row[j]?=some x-> ∃u,c[i*esz+j]?=some u/\J08 s0.w s0.g.C x u):
  ∃g',g'.μ b=some (s0.w.heap.size,0)/\Inv ⟨s0.σ.set b (.arr wm esz (rows++new)),g',w'⟩/\bJ s0 ⟨s0.σ.set b (.arr wm esz (rows++new)),g',w'⟩:=
 have q:0<new.length:=List.length_pos_iff.2 o
 JNJ hi hb (by simp;omega) (λrow r=>(zQ9.1 r).elim (k row) (n row)) hh ho hp (by simpa using h) hx
end Go.Am
end
section
namespace Go.Am
def okP:PV->Value->Bool| .b x,.bool y=>x==y| .i k n,.int k' e=>k==k'&&n==e| .s l,.string g=>l==g.data.toList| .sl _ [],.slice none 0 0=>true| .np,.pointer none=>true| .nf,.nilFunc=>true|_,_=>false
def BI:List PV->List Value->Bool|[],[]=>true|x::xs,v::vs=>okP x v&&BI xs vs|_,_=>false
def okC:AV->Value->Bool| .p c,v=>okP c v| .data cs,.agg vs=>BI cs vs.toList| .fn f [] [],.func (.func g) a c=>f==g&&a.isEmpty&&c.isEmpty| .tup [],.tuple vs=>vs.isEmpty|_,_=>false
def bY:Opd->Operand->Bool| .t n,.tmp m=>n==m| .c x,.const v=>okC x v| .c (.fn f [] []),.func g=>f==g|_,_=>false
def jJ:List Opd->List Operand->Bool|[],[]=>true|x::xs,y::e=>bY x y&&jJ xs e|_,_=>false
def yI:Option Opd->Option Operand->Bool|none,none=>true|some x,some y=>bY x y|_,_=>false
section
variable (P:Program)
def szT(t:TypeId):Option Nat:=(P.info? t).map (·.size)
def byT(t:TypeId):Option Nat:=(P.info? t).map (·.bytes)
def zeT(t:TypeId):Option Value:=(P.info? t).bind (·.zero)
def BB:TypeDesc->Bool| .struct _| .array _ _=>true|_=>false
def agT(t:TypeId):Option Bool:=(P.underlying t).map BB
def elT(t:TypeId):Option TypeId:=match P.underlying t with|some (.slice e)=>some e|_=>none
def lL(t:TypeId):Bool:=match P.underlying t with|some .string=>true|_=>false
def de(t:TypeId):Bool:=match P.underlying t with|some (.int .u8)=>true|_=>false
def ia(t:TypeId):Bool:=match P.underlying t with|some .bool=>true|_=>false
def s6(t:TypeId):Bool:=match P.underlying t with|some (.int _)=>true|_=>false
def ga(k:IntKind)(t:TypeId):Bool:=match P.underlying t with|some (.int k')=>k==k'|_=>false
def arT(t:TypeId):Option (Nat×TypeId):=match P.underlying t with|some (.array n e)=>some (n,e)|_=>none
def flT(t:TypeId):Option (Array Field):=match P.underlying t with|some (.struct fs)=>some fs|_=>none
def OP(K:TypeId->Option (List KD)):Nat->List Field->Option (List KD)
 |_,[]=>some []
 |off,f::fs=>
  if f.name= "_" ∨f.offset≠off then none
  else match K f.type with
   |none=>none
   |some ks=>if szT P f.type=some ks.length/\0<ks.length then
    match OP K (off+ks.length) fs with
    |some l=>some (ks++l)
    |none=>none
    else none
def qT:Nat->TypeId->Option (List KD)
 |0,_=>none
 |d+1,t=>match P.underlying t with
  |some .bool=>some [.b]
  |some (.int k)=>some [.i k]
  |some .string=>some [.s]
  |some (.struct fs)=>if P.stoodInHeld t then none else OP P (qT d) 0 fs.toList
  |some (.array n e)=>match qT d e with|some ks=>if szT P e=some ks.length/\0<ks.length then some (List.replicate n ks).flatten else none|none=>none
  |_=>none
def Hy(t:TypeId):Operand->Bool| .const (.slice none 0 0)=>(elT P t).isSome|_=>false
def Iy(t:TypeId):Operand->Bool
 | .const (.pointer none)=>(match P.underlying t with|some (.pointer _)=>true|_=>false)
 |_=>false
def Gt(t:TypeId):Operand->Bool
 | .const .nilFunc=>(match P.underlying t with|some (.func _ _ _)=>true|_=>false)
 |_=>false
def oV(zero:List PV)(t:TypeId):Bool:=match zeT P t with|some v=>BI zero v.cells.toList|none=>false
def TD(t:TypeId)(os:List (Nat×Nat)):Bool:=match zeT P t with
 |some v=>os.all λx=>match v.cells[x.1]? with|some (.slice none 0 0)=>true|_=>false
 |none=>false
def tF(place:Nat->Option (Nat×Nat)):List (Nat×Nat×Opd)->List (Nat×Operand)->Bool|[],[]=>true|(off,size,x)::r,(i,y)::q=>place i==some (off,size)&&bY x y&&tF place r q|_,_=>false
def IF(fs:Array Field)(i:Nat):Option (Nat×Nat):=match fs[i]? with|some f=>(szT P f.type).map λn=>(f.offset,n)|none=>none
def NF:List (Nat×Opd)->List (Nat×Operand)->Bool|[],[]=>true|(i,x)::r,(j,y)::q=>i==j&&bY x y&&NF r q|_,_=>false
def bD(D:AOp)(op:Op):Bool:=
 match D with
 | .mv x=>match op with| .move y| .assign y=>bY x y|_=>false
 | .mkarr _ x=>match op with
  | .move (.const (.slice none 0 0))| .assign (.const (.slice none 0 0))=>(match x with| .c _=>true|_=>false)
  |_=>false
 | .pick c a b=>match op with| .pick c' a' C=>bY c c'&&bY a a'&&bY b C|_=>false
 | .newbox zero=>match op with| .alloc t=>oV P zero t|_=>false
 | .box _ x=>match op with| .box _ y=>bY x y|_=>false
 | .build zero parts=>match op with
  | .build t ps=>oV P zero t&&(match P.underlying t with
   |some (.struct fs)=>(fs.all λf=>(szT P f.type).isSome)&&tF (IF P fs) parts ps.toList
   |some (.array _ e)=>(match szT P e with
    |some n=>tF (λi=>some (i*n,n)) parts ps.toList
    |none=>false)
   |_=>false)
  |_=>false
 | .lits _ esz n zero parts=>match op with
  | .buildSlice t len ps=>len==n&&(match elT P t with
   |some e=>szT P e==some esz&&decide (n*esz<=16777216)&&oV P zero e&&zero.length==esz&&decide (0<esz)&&NF parts ps.toList
   |none=>false)
  |_=>false
 | .load agg size x=>match op with| .load t y=>agT P t==some agg&&szT P t==some size&&bY x y&&(agg||size==1)|_=>false
 | .store size x v=>match op with| .store t y u=>szT P t==some size&&bY x y&&bY v u|_=>false
 | .nilchk x=>match op with| .nilCheck y=>bY x y|_=>false
 | .bin F bt x y=>match op with
  | .binOp z t o h _=>F==z&&bY x o&&(match bt with
   | .plain=>bY y h
   | .bool=>bY y h&&ia P t
   | .flat ks=>bY y h&&qT P 100 t==some ks&&agT P t==some true&& !P.eqGuardType P.depth t
   | .nils=>Hy P t h
   | .nilp=>Iy P t h
   | .nilf=>Gt P t h)
  |_=>false
 | .un E x=>match op with| .unOp A _ y=>E==A&&bY x y|_=>false
 | .conv k x=>match op with
  | .convert q dst y=>bY x y&&(match k with
   | .int k=>s6 P q&&ga P k dst
   | .same=>lL P q&&lL P dst
   | .toStr=>(match elT P q with|some e=>de P e&&szT P e==some 1|none=>false)&&lL P dst
   | .toBytes _=>lL P q&&(match elT P dst with|some e=>de P e&&szT P e==some 1|none=>false))
  |_=>false
 | .mkslice _ esz bytes zero l c=>match op with
  | .makeSlice t l' c'=>bY l l'&&bY c c'&&(match elT P t with
   |some e=>szT P e==some esz&&byT P e==some bytes&&oV P zero e&&zero.length==esz&&decide (0<esz)&&decide (0<bytes)
   |none=>false)
  |_=>false
 | .slice k x lo hi mx=>match op with
  | .slice t o lo' hi' B=>bY x o&&yI lo lo'&&yI hi hi'&&yI mx B&&(match k with
   | .str=>lL P t
   | .sl esz=>(match elT P t with|some e=>szT P e==some esz|none=>false))
  |_=>false
 | .faddr off x=>match op with
  | .fieldAddr t y f=>bY x y&&(match flT P t with
   |some fs=>(match fs[f]? with
    |some f=>f.offset==off&&(match szT P f.type with|some n=>n !=0|none=>false)
    |none=>false)
   |none=>false)
  |_=>false
 | .field agg off size x=>match op with
  | .field t y f=>bY x y&&(match flT P t with
   |some fs=>(match fs[f]? with
    |some f=>f.offset==off&&szT P f.type==some size&&agT P f.type==some agg&&(agg||size==1)
    |none=>false)
   |none=>false)
  |_=>false
 | .iaddr esz x i=>match op with
  | .indexAddr t y j=>bY x y&&bY i j&&(match elT P t with|some e=>szT P e==some esz|none=>false)
  |_=>false
 | .aaddr len esz x i=>match op with
  | .indexAddr t y j=>bY x y&&bY i j&&(match arT P t with|some (n,e)=>n==len&&szT P e==some esz|none=>false)
  |_=>false
 | .sidx x i=>match op with| .index t y j=>bY x y&&bY i j&&lL P t|_=>false
 | .aidx agg len esz x i=>match op with
  | .index t y j=>bY x y&&bY i j&&(match arT P t with|some (n,e)=>n==len&&szT P e==some esz&&agT P e==some agg&&(agg||esz==1)|none=>false)
  |_=>false
 | .extr x i=>match op with| .extract y j=>bY x y&&i==j|_=>false
 | .call f args _=>match op with
  | .call c=>(match c.callee with
   | .value (.func g)=>f==g&&jJ args c.args.toList
   |_=>false)
  |_=>false
 | .callv x args _=>match op with
  | .call c=>(match c.callee with
   | .value y=>bY x y&&jJ args c.args.toList
   |_=>false)
  |_=>false
 | .len str x=>match op with
  | .call c=>(match c.callee with
   | .builtin .len=>(match c.args.toList,c.argTypes.toList with
    |[y],[t]=>bY x y&&(if str then lL P t else(elT P t).isSome)
    |_,_=>false)
   |_=>false)
  |_=>false
 | .appn esz bytes zero y=>match op with
  | .call c=>(match c.callee with
   | .builtin .append=>(match c.args.toList,c.argTypes.toList with
    |[.const (.slice none 0 0),h],[t,u]=>bY y h&&((elT P u).isSome||lL P u)&&(match elT P t with
     |some e=>szT P e==some esz&&byT P e==some bytes&&oV P zero e&&zero.length==esz&&decide (0<esz)&&decide (0<bytes)
     |none=>false)
    |_,_=>false)
   |_=>false)
  |_=>false
 | .shr esz zero x hi=>match op with
  | .slice t o none (some hi') none=>bY x o&&bY hi hi'&&(match elT P t with|some e=>szT P e==some esz|none=>false)
  |_=>false
 | .app esz bytes zero x y=>match op with
  | .call c=>(match c.callee with
   | .builtin .append=>(match c.args.toList,c.argTypes.toList with
    |[o,h],[t,u]=>bY x o&&bY y h&&((elT P u).isSome||lL P u)&&(match elT P t with
     |some e=>szT P e==some esz&&byT P e==some bytes&&oV P zero e&&zero.length==esz&&decide (0<esz)&&decide (0<bytes)
     |none=>false)
    |_,_=>false)
   |_=>false)
  |_=>false
 | .mm mx x y=>match op with
  | .call c=>(match c.callee with
   | .builtin b=>b==(if mx then .max else .min)&&(match c.args.toList with
    |[o,h]=>bY x o&&bY y h
    |_=>false)
   |_=>false)
  |_=>false
 | .newboxo zero os=>match op with| .alloc t=>oV P zero t&&TD P t os|_=>false
 | .buildo zero parts os=>match op with
  | .build t ps=>oV P zero t&&TD P t os&&(match P.underlying t with
   |some (.struct fs)=>(fs.all λf=>(szT P f.type).isSome)&&tF (IF P fs) parts ps.toList
   |_=>false)
  |_=>false
 | .storen _ x=>match op with| .store t y (.const (.slice none 0 0))=>szT P t==some 1&&bY x y|_=>false
 | .callo f _ args _=>match op with
  | .call c=>(match c.callee with
   | .value (.func g)=>f==g&&jJ args c.args.toList
   |_=>false)
  |_=>false
 | .mkfn f first caps=>match op with
  | .makeFunc (.func g) r w=>f==g&&jJ first r.toList&&jJ caps w.toList
  |_=>false
end
end Go.Am
end
section
namespace Go.Am
def get(s:St):Loc->Option (AV⊕Blk)| .slot n=>(lk n s.env).map .inl| .blk b=>(s.sto[b]?).map .inr
theorem JJ1{α:Type}(m:RM α)(s s':St)(h: ∀l∈m.reads s,get s' l=get s l):m.run s'=m.run s:=by
 induction m with
 |ret a=>rfl
 |slot n k ih=>
  have e:=h (.slot n) (by simp[RM.reads]);grind [get,RM.run,RM.reads]
 |blk b k ih=>
  have e:=h (.blk b) (by simp[RM.reads]);grind [get,RM.run,RM.reads]
 |fail=>rfl
theorem zL{b:Nat}: ∀{ws:List (Nat×Blk)},b∉ws.map (·.1)->kD b ws=none
 |[],_=>rfl
 |(c,x)::r,h=>by
  simp at h;simp only[kD];rw[zL (by simpa using h.2)];grind
theorem zv{b:Nat}: ∀{ws:List (Nat×Blk)},b∈ws.map (·.1)-> ∃y,kD b ws=some y
 |[],h=>by simp at h
 |(c,x)::r,h=>by
  simp only[kD];by_cases e:b∈r.map (·.1);obtain⟨y,g⟩:=zv e;simp_all;simp_all [zL]
theorem CU: ∀(ws:List (Nat×Blk)) (σ:List Blk),(upd ws σ).length=σ.length|[],_=>rfl|y::ws,σ=>by show(upd ws (σ.set y.1 y.2)).length=_;rw[CU ws];simp
theorem yV: ∀(ws:List (Nat×Blk)) (σ:List Blk) (b:Nat),b<σ.length->(upd ws σ)[b]?=match kD b ws with
  |some y=>some y
  |none=>σ[b]?
 |[],σ,b,_=>rfl
 |(c,x)::ws,σ,b,h=>by
  show(upd ws (σ.set c x))[b]?=_;rw[yV ws (σ.set c x) b (by simpa using h)];grind [kD]
structure Run(F:Orc)(ins:List cG)(new:Nat->Nat)(S:Nat->St)(eff:Nat->Eff):Prop where
 step: ∀k i,ins[k]?=some i->(cJ F i (new k)).run (S k)=some (eff k)/\S (k+1)=put i.dst (eff k) (S k)
structure SY(F:Orc)(ins:List cG)(new:Nat->Nat)(S:Nat->St)(eff:Nat->Eff)(i j:Nat):Prop where
 slotW: ∀x y m,ins[i]?=some x->ins[j]?=some y->x.dst=some m->y.dst≠some m/\Loc.slot m∉(cJ F y (new j)).reads (S j)
 slotR: ∀x y m,ins[i]?=some x->ins[j]?=some y->y.dst=some m->Loc.slot m∉(cJ F x (new i)).reads (S i)
 blkW: ∀y b,ins[j]?=some y->b∈(eff i).ws.map (·.1)->b∉(eff j).ws.map (·.1)/\Loc.blk b∉(cJ F y (new j)).reads (S j)
 blkR: ∀x b,ins[i]?=some x->b∈(eff j).ws.map (·.1)->Loc.blk b∉(cJ F x (new i)).reads (S i)
section
variable {F:Orc} {ins:List cG} {new:Nat->Nat} {S:Nat->St} {eff:Nat->Eff}
def yG(ins:List cG)(k:Nat):Option Nat:=(ins[k]?).bind (·.dst)
def qP(ins:List cG)(eff:Nat->Eff)(s0:St)(D:Nat->Bool):Nat->Nat->Option AV|0,m=>lk m s0.env|k+1,m=>if D k=true/\yG ins k=some m then some (eff k).val else qP ins eff s0 D k m
def oU(eff:Nat->Eff)(s0:St)(D:Nat->Bool):Nat->Nat->Option Blk
 |0,b=>s0.sto[b]?
 |k+1,b=>if D k=true then(match kD b (eff k).ws with
  |some y=>some y
  |none=>oU eff s0 D k b)else oU eff s0 D k b
structure Agree(ins:List cG)(eff:Nat->Eff)(s0:St)(D:Nat->Bool)(s:St):Prop where
 slot: ∀m,lk m s.env=qP ins eff s0 D ins.length m
 len:s.sto.length=s0.sto.length
 blk: ∀b,b<s0.sto.length->s.sto[b]?=oU eff s0 D ins.length b
theorem VB(hr:Run F ins new S eff): ∀k,k<=ins.length->(S k).sto.length=(S 0).sto.length
 |0,_=>rfl
 |k+1,h=>by
  have e:ins[k]?=some ins[k]:=bC (by omega);obtain⟨_,h2⟩:=hr.step k _ e;rw[h2,<-VB hr k (by omega)];unfold put;grind [CU]
theorem k8(hr:Run F ins new S eff)(D:Nat->Bool): ∀k,k<=ins.length->(∀j,j<k->D j=true)-> ∀m,qP ins eff (S 0) D k m=lk m (S k).env
 |0,_,_,m=>rfl
 |k+1,h,hD,m=>by
  have e:ins[k]?=some ins[k]:=bC (by omega);obtain⟨_,h2⟩:=hr.step k _ e;simp only[qP];rw[k8 hr D k (by omega) (λj g=>hD j (by omega)) m,h2];have hd:yG ins k=ins[k].dst:=by grind [yG]
  rw[hd];unfold put;grind [lk]
theorem jx(hr:Run F ins new S eff)(D:Nat->Bool): ∀k,k<=ins.length->(∀j,j<k->D j=true)-> ∀b,b<(S 0).sto.length->oU eff (S 0) D k b=(S k).sto[b]?
 |0,_,_,b,_=>rfl
 |k+1,h,hD,b,hb=>by
  have e:ins[k]?=some ins[k]:=bC (by omega);obtain⟨_,h2⟩:=hr.step k _ e;simp only[oU];rw[jx hr D k (by omega) (λj g=>hD j (by omega)) b hb,h2,if_pos (hD k (by omega))];have:(put ins[k].dst (eff k) (S k)).sto=upd (eff k).ws (S k).sto:=by unfold put;split<;>rfl
  rw[this,yV _ _ _ (by rw[VB hr k (by omega)];exact hb)]
theorem mf{s0:St}{D D':Nat->Bool}{m:Nat}: ∀n,(∀j,j<n->yG ins j=some m->D j=D' j)->qP ins eff s0 D n m=qP ins eff s0 D' n m
 |0,_=>rfl
 |n+1,h=>by
  simp only[qP];rw[mf n λj e=>h j (by omega)];grind
theorem lw{s0:St}{D D':Nat->Bool}{b:Nat}: ∀n,(∀j,j<n->b∈(eff j).ws.map (·.1)->D j=D' j)->oU eff s0 D n b=oU eff s0 D' n b
 |0,_=>rfl
 |n+1,h=>by
  simp only[oU];rw[lw n λj e=>h j (by omega)];grind [zL]
theorem WH{s0:St}{D:Nat->Bool}{m k:Nat}: ∀n,k<=n->(∀j,k<=j->j<n->yG ins j=some m->D j=false)->qP ins eff s0 D n m=qP ins eff s0 D k m
 |0,h,_=>by simp_all
 |n+1,h,hD=>by
  by_cases e:k=n+1;subst e;rfl;simp only[qP];rw[WH n (by omega) λj h1 h2=>hD j h1 (by omega)];grind
theorem VU{s0:St}{D:Nat->Bool}{b k:Nat}: ∀n,k<=n->(∀j,k<=j->j<n->b∈(eff j).ws.map (·.1)->D j=false)->oU eff s0 D n b=oU eff s0 D k b
 |0,h,_=>by simp_all
 |n+1,h,hD=>by
  by_cases e:k=n+1;subst e;rfl;simp only[oU];rw[VU n (by omega) λj h1 h2=>hD j h1 (by omega)];grind [zL]
theorem JLv(hr:Run F ins new S eff){D:Nat->Bool}{s:St}(ha:Agree ins eff (S 0) D s){k:Nat}{i:cG}(hk:ins[k]?=some i)(E:D k=false)
  (q: ∀j,j<k->D j=false->SY F ins new S eff j k) (h: ∀j,k<j->j<ins.length->D j=true->SY F ins new S eff k j):
  (cJ F i (new k)).run s=some (eff k)/\Agree ins eff (S 0) (λj=>if j=k then true else D j) (put i.dst (eff k) s):=by
 have A:k<ins.length:=(by grind);have g: ∀j,j<ins.length->ins[j]?=some ins[j]! :=λj o=>by simp[o]
 have w: ∀j,j<ins.length->yG ins j=ins[j]!.dst:=λj o=>by grind [yG]
 obtain⟨h1,h2⟩:=hr.step k i hk;have C:yG ins k=i.dst:=by simp_all
 let T:Nat->Bool:=λ_=>true
 have reads: ∀l∈(cJ F i (new k)).reads (S k),get s l=get (S k) l:=by
  intro l hl;cases l with
  |slot m=>
   simp only[get];rw[ha.slot m]
   congr 1
   rw[WH ins.length (k:=k) (by omega) λj r e hd=>?_];rw[mf (D':=T) k λj o hd=>?_,k8 hr T k (by omega) (λ_ _=>rfl) m];cases hDj:D j with
   |true=>rfl
   |false=>have:=(q j o hDj).slotW _ i m (g j (by omega)) hk (by grind);simp_all
   by_cases n:j=k;simp_all;cases hDj:D j with
   |false=>rfl
   |true=>have:=(h j (by omega) e hDj).slotR i _ m hk (g j e) (by simp_all);simp_all
  |blk b=>
   simp only[get];by_cases hb:b<(S 0).sto.length;rw[ha.blk b hb]
   congr 1
   rw[VU ins.length (k:=k) (by omega) λj r e hd=>?_];rw[lw (D':=T) k λj o hd=>?_,jx hr T k (by omega) (λ_ _=>rfl) b hb];cases hDj:D j with
   |true=>rfl
   |false=>exact absurd hl ((q j o hDj).blkW i b hk hd).2
   by_cases n:j=k;simp_all;cases hDj:D j with
   |false=>rfl
   |true=>exact absurd hl ((h j (by omega) e hDj).blkR i b hk hd)
   rw[qK (by have:=ha.len;omega),qK (by have:=VB hr k (by omega);omega)]
 refine⟨by grind [JJ1],?_,?_,?_⟩;intro m;have v:lk m (put i.dst (eff k) s).env=if i.dst=some m then some (eff k).val else lk m s.env:=(by unfold put;grind [lk])
 rw[v,ha.slot m];by_cases z:i.dst=some m;rw[if_pos z];rw[WH ins.length (k:=k+1) (by omega) λj r e hd=>?_];grind [qP];have n:j≠k:=by omega
 simp only[if_neg n];cases hDj:D j with
 |false=>rfl
 |true=>have:=(h j (by omega) e hDj).slotW i _ m hk (g j e) z;simp_all
 grind [mf];have:(put i.dst (eff k) s).sto=upd (eff k).ws s.sto:=by unfold put;split<;>rfl
 rw[this,CU,ha.len];intro b hb;have:(put i.dst (eff k) s).sto=upd (eff k).ws s.sto:=by unfold put;split<;>rfl
 rw[this,yV _ _ _ (by rw[ha.len];exact hb),ha.blk b hb];by_cases x:b∈(eff k).ws.map (·.1);obtain⟨y,B⟩:=zv x;simp only[B];rw[VU (D:=λj=>if j=k then true else D j) ins.length (k:=k+1) (by omega) λj r e hd=>?_];grind [oU];have n:j≠k:=by omega
 simp only[if_neg n];cases hDj:D j with
 |false=>rfl
 |true=>exact absurd hd ((h j (by omega) e hDj).blkW _ b (g j e) x).1
 grind [zL,lw]
theorem JDk:Agree ins eff (S 0) (λ_=>false) (S 0):=by
 refine⟨λm=>?_,rfl,λb _=>?_⟩;rw[WH ins.length (k:=0) (zQ2 _) λ_ _ _ _=>rfl];rfl;rw[VU ins.length (k:=0) (zQ2 _) λ_ _ _ _=>rfl];rfl
theorem JIh(hr:Run F ins new S eff){D:Nat->Bool}{s:St}(ha:Agree ins eff (S 0) D s)(hD: ∀j,j<ins.length->D j=true):
  (∀m,lk m s.env=lk m (S ins.length).env)/\s.sto=(S ins.length).sto:=by
 refine⟨λm=>by rw[ha.slot m,k8 hr D _ (zQ0 _) hD m],zQ6 λb=>?_⟩;by_cases hb:b<(S 0).sto.length;rw[ha.blk b hb,jx hr D _ (zQ0 _) hD b hb];rw[qK (by have:=ha.len;omega),qK (by have:=VB hr _ (zQ0 _);omega)]
end
end Go.Am
end
section
namespace Go.Am
def oSl:Opd->List Nat| .t n=>[n]| .c _=>[]
def iS:List Opd->List Nat|[]=>[]|x::r=>oSl x++iS r
def dj:Option Opd->List Nat|none=>[]|some x=>oSl x
def dP:AOp->List Nat| .mv x| .box _ x| .appn _ _ _ x| .load _ _ x| .nilchk x| .un _ x| .conv _ x| .faddr _ x| .field _ _ _ x| .extr x _| .len _ x=>oSl x| .mkarr _ _| .newbox _=>[]| .pick c a b=>oSl c++(oSl a++oSl b)| .build _ parts=>iS (parts.map (·.2.2))| .lits _ _ _ _ parts=>iS (parts.map (·.2))| .store _ x v=>oSl x++oSl v| .bin _ _ x y| .iaddr _ x y| .aaddr _ _ x y| .sidx x y| .aidx _ _ _ x y| .app _ _ _ x y| .mm _ x y| .mkslice _ _ _ _ x y| .shr _ _ x y=>oSl x++oSl y| .slice _ x lo hi mx=>oSl x++(dj lo++(dj hi++dj mx))| .call _ args _=>iS args| .callv g args _=>oSl g++iS args| .mkfn _ a b=>iS a++iS b| .newboxo _ _=>[]| .buildo _ parts _=>iS (parts.map (·.2.2))| .storen _ x=>oSl x| .callo _ _ args _=>iS args
def zC(i:cG):List Nat:=dP i.op++match i.g with|some (g,_)=>[g]|none=>[]
def AP:AOp->Bool| .mkarr _ _| .newbox _| .box _ _| .lits _ _ _ _ _| .store _ _ _| .conv (.toBytes _) _| .mkslice _ _ _ _ _ _| .slice (.sl _) _ _ _ _| .call _ _ _| .callv _ _ _| .app _ _ _ _ _| .appn _ _ _ _| .newboxo _ _| .buildo _ _ _| .storen _ _| .callo _ _ _ _| .shr _ _ _ _=>true|_=>false
def QM:AOp->Bool| .load _ _ _| .iaddr _ _ _| .conv .toStr _=>true|op=>AP op
def Sl{α:Type}(L:List Nat)(m:RM α):Prop:= ∀s n,Loc.slot n∈m.reads s->n∈L
section
variable {α β:Type} {L:List Nat}
theorem bO(a:α):Sl L (.ret a):=λs n h=>by grind [RM.reads]
theorem cW:Sl L (.fail:RM α):=λs n h=>by grind [RM.reads]
theorem rF{b:Nat}{k:Blk->RM α}(h: ∀v,Sl L (k v)):Sl L (.blk b k):=λs n e=>by
 simp only[RM.reads,cV]at e;rcases e with e|e;cases e;split at e;exact h _ s n e;simp at e
theorem Lx{m:Nat}{k:AV->RM α}(hm:m∈L)(h: ∀v,Sl L (k v)):Sl L (.slot m k):=λs n e=>by
 simp only[RM.reads,cV]at e;rcases e with e|e;simp_all;split at e;exact h _ s n e;simp at e
theorem Jy{m:RM α}{f:α->RM β}(h:Sl L m)(hf: ∀a,Sl L (f a)):Sl L (m.bind f):=λs n e=>by
 rw[zM,zQ9]at e;rcases e with e|e;exact h s n e;cases hr:m.run s with
 |none=>simp[hr]at e
 |some a=>simp[hr]at e;exact hf a s n e
theorem JNS{L':List Nat}{m:RM α}(h:Sl L m)(hl: ∀x∈L,x∈L'):Sl L' m:=λs n e=>hl n (h s n e)
theorem uo{c:Prop} [Decidable c]{x y:RM α}(hx:Sl L x)(hy:Sl L y):Sl L (if c then x else y):=by grind
end
theorem cY{L:List Nat}(x:Opd)(h: ∀n∈oSl x,n∈L):Sl L (ev x):=by
 cases x with
 |t n=>exact Lx (h n (by simp[oSl])) λv=>bO v
 |c v=>exact bO v
theorem HV{L:List Nat}: ∀(xs:List Opd),(∀n∈iS xs,n∈L)->Sl L (evs xs)|[],_=>bO _|x::xs,h=>Jy (cY x λn e=>h n (by simp[iS,e])) λv=>Jy (HV xs λn e=>h n (by simp[iS,e])) λvs=>bO _
theorem ve{L:List Nat}(x:Option Opd)(h: ∀n∈dj x,n∈L):Sl L (evo x):=by
 cases x with
 |none=>exact bO _
 |some x=>exact Jy (cY x h) λv=>bO _
theorem pI{L:List Nat}(x:Option AV):Sl L (val x):=by cases x<;>first|exact cW|exact bO _
theorem JPz{L:List Nat}(x:AV):Sl L (fz.fz1 x):=by
 cases x<;>try exact cW
 exact bO _;refine rF λv=>?_;grind [cW,bO]
theorem La{L:List Nat}: ∀(xs:List AV),Sl L (fz.fzL xs)|[]=>bO _|x::xs=>Jy (JPz x) λ_=>Jy (La xs) λ_=>bO _
theorem MM{L:List Nat}(x:AV):Sl L (fz x):=by
 cases x<;>try first|exact cW|exact bO _
 exact La _;refine rF λv=>?_;grind [cW,bO]
theorem Kd{L:List Nat}: ∀(xs:List Opd),(∀n∈iS xs,n∈L)->Sl L (fzs xs)|[],_=>bO _|x::xs,h=>Jy (cY x λn e=>h n (by simp[iS,e])) λv=>Jy (MM v) λ_=>Jy (Kd xs λn e=>h n (by simp[iS,e])) λ_=>bO _
theorem lg{L:List Nat}(esz:Nat)(x:AV):Sl L (fX esz x):=by
 unfold fX;grind [bO,cW,rF]
theorem JJY{L:List Nat}(agg:Bool)(size:Nat)(x:AV):Sl L (gY agg size x):=by
 unfold gY;split
 all_goals grind [pI,cW,rF]
theorem yf{L:List Nat}(size:Nat)(x v:AV):Sl L (iV size x v):=by
 unfold iV;split;grind [rF,cW,bO];refine rF λv=>?_;grind [cW,Jy,MM,bO];simp[cW]
theorem JIb{L:List Nat}(esz:Nat)(x i:AV):Sl L (nP esz x i):=by
 unfold nP;grind [cW,bO,rF]
theorem JNW{L:List Nat}(esz bytes:Nat)(x y:AV):Sl L (jU esz bytes x y):=by
 unfold jU;grind [rF,cW,Jy,lg,bO]
theorem UX{L:List Nat}(ws:List (Nat×Blk))(b:Nat):Sl L (sC ws b):=
 rF λv=>by grind [bO]
theorem IK{L:List Nat}(ws:List (Nat×Blk)): ∀(es acc:List Ent),Sl L (eJ ws es acc)
 |[],acc=>bO _
 | .whole b::r,acc=>Jy (UX ws b) λv=>by cases v<;>exact IK ws r _
 | .elem b e i::r,acc=>IK ws r acc
theorem ic{L:List Nat}(x:AV):Sl L (jS x):=by
 cases x<;>try first|exact cW|exact bO _
 exact Jy (MM _) λ_=>bO _;refine Jy (MM _) λa=>?_;grind [bO,cW]
theorem xa{L:List Nat}: ∀(xs:List AV),Sl L (kZ xs)|[]=>bO _|x::xs=>Jy (ic x) λ_=>Jy (xa xs) λ_=>bO _
theorem JLM{L:List Nat}(ws:List (Nat×Blk))(ρ:Ent->Option Nat)(e:Ent):Sl L (BW ws ρ e):=by
 cases e with
 |whole b=>
  refine Jy (UX ws b) λv=>?_;grind [cW,bO]
 |elem b e i=>
  refine Jy (UX ws b) λv=>?_;grind [cW,bO]
theorem lh{L:List Nat}(ws:List (Nat×Blk))(ρ:Ent->Option Nat): ∀(es:List Ent),Sl L (lO ws ρ es)|[]=>bO _|e::r=>Jy (JLM ws ρ e) λ_=>Jy (lh ws ρ r) λ_=>bO _
theorem JId{L:List Nat}(ws:List (Nat×Blk))(es:List Ent)(new:Nat)(e:Ent)(x:Blk):Sl L (vR ws es new e x):=by
 unfold vR;grind [bO,cW,Jy,UX]
theorem mc{L:List Nat}(ws:List (Nat×Blk))(es:List Ent)(new:Nat): ∀(e:List Ent) (x:List Blk),Sl L (jM ws es new e x)|[],_=>bO _|_::_,[]=>cW|e::r,x::l=>Jy (JId ws es new e x) λ_=>Jy (mc ws es new r l) λ_=>bO _
theorem Oo{L:List Nat}(F:Orc)(f:FuncId)(args:List AV)(k new:Nat):Sl L (iT F f args k new):=by
 unfold iT;refine Jy (xa _) λa=>Jy (IK _ _ _) λe=>Jy (IK _ _ _) λes=>uo ?_ cW;split
 all_goals grind [cW,Jy,lh,mc,bO]
theorem JIg{L:List Nat}(F:Orc)(f:FuncId)(a:List AV×List (Nat×Blk))(k new:Nat):Sl L (fW F f a k new):=by
 unfold fW;refine Jy (IK _ _ _) λe=>Jy (IK _ _ _) λes=>uo ?_ cW;split
 all_goals grind [cW,Jy,lh,mc,bO]
theorem VR{L:List Nat}: ∀(m:List Bool) (xs:List AV),Sl L (fO m xs)
 |_,[]=>by cases ‹List Bool›<;>exact bO _
 |[],x::xs=>Jy (ic x) λ_=>Jy (VR [] xs) λ_=>bO _
 |true::m,x::xs=>Jy (VR m xs) λ_=>bO _
 |false::m,x::xs=>Jy (ic x) λ_=>Jy (VR m xs) λ_=>bO _
theorem lr{L:List Nat}: ∀(xs:List (Nat×Nat×Opd)),(∀n∈iS (xs.map (·.2.2)),n∈L)->Sl L (lM xs)
 |[],_=>bO _
 |(a,b,x)::xs,h=>by
  unfold lM;refine Jy (cY x λn e=>h n (by simp[iS,e])) λv=>?_;split;exact Jy (lr xs λn e=>h n (by simp[iS,e])) λ_=>bO _;simp[cW]
theorem JPD(F:Orc)(op:AOp)(new:Nat):Sl (dP op) (opR F op new):=by
 cases op with
 |mv x=>exact Jy (cY x λn h=>h) λv=>bO _
 |mkarr=>exact bO _
 |appn esz bytes zero y=>exact Jy (cY y λn h=>h) λv=>Jy (lg _ _) λ_=>uo (bO _) cW
 |pick c a b=>
  refine Jy (cY c λn h=>by grind [dP]) λv=>?_;grind [Jy,cY,dP,bO,cW]
 |newbox=>exact bO _
 |box size x=>
  refine Jy (cY x λn h=>h) λv=>?_;grind [bO,cW]
 |build zero parts=>
  refine Jy (lr parts λn h=>h) λv=>?_;grind [pI,cW]
 |lits own esz n zero parts=>
  refine Jy (Kd _ λn h=>h) λv=>?_;grind [bO,cW]
 |load agg size x=>exact Jy (cY x λn h=>h) λv=>JJY _ _ _
 |store size x y=>exact Jy (cY x λn h=>by grind [dP]) λv=>Jy (cY y λn h=>by grind [dP]) λ_=>yf _ _ _
 |nilchk x=>
  refine Jy (cY x λn h=>h) λv=>?_;grind [bO,cW]
 |bin op t x y=>exact Jy (cY x λn h=>by grind [dP]) λv=>Jy (cY y λn h=>by grind [dP]) λ_=>pI _
 |un op x=>exact Jy (cY x λn h=>h) λv=>pI _
 |conv k x=>
  refine Jy (cY x λn h=>h) λv=>?_;grind [bO,Jy,lg,cW]
 |mkslice own esz bytes zero x y=>
  refine Jy (cY x λn h=>by grind [dP]) λv=>Jy (cY y λn h=>by grind [dP]) λu=>?_;grind [bO,cW]
 |slice k x lo hi mx=>
  refine Jy (cY x λn h=>by grind [dP]) λv=>Jy (ve lo λn h=>by grind [dP]) λ_=>Jy (ve hi λn h=>by grind [dP]) λ_=>Jy (ve mx λn h=>by grind [dP]) λ_=>?_;grind [Jy,MM,bO,cW,pI]
 |faddr off x=>exact Jy (cY x λn h=>h) λv=>pI _
 |field agg off size x=>exact Jy (cY x λn h=>h) λv=>pI _
 |iaddr esz x y=>exact Jy (cY x λn h=>by grind [dP]) λv=>Jy (cY y λn h=>by grind [dP]) λ_=>JIb _ _ _
 |aaddr len esz x y=>exact Jy (cY x λn h=>by grind [dP]) λv=>Jy (cY y λn h=>by grind [dP]) λ_=>pI _
 |sidx x y=>
  refine Jy (cY x λn h=>by grind [dP]) λv=>Jy (cY y λn h=>by grind [dP]) λu=>?_;grind [cW,bO]
 |aidx agg len esz x y=>
  refine Jy (cY x λn h=>by grind [dP]) λv=>Jy (cY y λn h=>by grind [dP]) λu=>?_;grind [pI,cW]
 |extr x i=>exact Jy (cY x λn h=>h) λv=>pI _
 |call f args k=>exact Jy (HV args λn h=>h) λv=>Oo _ _ _ _ _
 |callv g args k=>
  refine Jy (cY g λn h=>by grind [dP]) λv=>?_;grind [cW,Jy,HV,dP,Oo]
 |len str x=>exact Jy (cY x λn h=>h) λv=>pI _
 |shr esz zero x y=>
  refine Jy (cY x λn h=>by grind [dP]) λv=>Jy (cY y λn h=>by grind [dP]) λc=>?_;unfold LV;split;refine rF λv=>?_;split;split<;>first|exact bO _|exact cW
  exact cW;exact cW
 |app esz bytes zero x y=>exact Jy (cY x λn h=>by grind [dP]) λv=>Jy (cY y λn h=>by grind [dP]) λ_=>JNW _ _ _ _
 |mm mx x y=>exact Jy (cY x λn h=>by grind [dP]) λv=>Jy (cY y λn h=>by grind [dP]) λ_=>pI _
 |mkfn f a b=>exact Jy (HV a λn h=>by grind [dP]) λv=>Jy (HV b λn h=>by grind [dP]) λ_=>bO _
 |newboxo=>exact bO _
 |buildo zero parts os=>
  refine Jy (lr parts λn h=>h) λv=>?_;grind [bO,cW]
 |storen esz x=>exact Jy (cY x λn h=>h) λv=>Jy (yf _ _ _) λ_=>bO _
 |callo f keep args k=>exact Jy (HV args λn h=>h) λv=>Jy (VR _ _) λ_=>JIg _ _ _ _ _
theorem xk{L:List Nat}: ∀(k new:Nat),Sl L (vG new k)|0,_=>bO _|k+1,new=>rF λv=>by cases v<;>first|exact xk k _|exact cW
theorem Nz(F:Orc)(i:cG)(new:Nat):Sl (zC i) (cJ F i new):=by
 have h:Sl (zC i) (opD F i.op new):=Jy (xk _ _) λ_=>JNS (JPD F i.op new) λx e=>by grind [zC]
 grind [cJ,Lx,zC,bO,cW]
end Go.Am
end
section
namespace Go.Am
def W0(m:RM Eff):Prop:= ∀s e,m.run s=some e->e.ws=[]
def B0{α:Type}(m:RM α):Prop:= ∀s e,m.run s=some e-> ∀b,Loc.blk b∉m.reads s
theorem pJ(x:Option AV):W0 (val x):=λs e h=>by cases x<;>grind [val,RM.run]
theorem sT(v:AV):W0 (.ret ⟨v,[]⟩):=λs e h=>by grind [RM.run]
theorem tB:W0 .fail:=λs e h=>by cases h
theorem dQ{α:Type}{m:RM α}{f:α->RM Eff}(h: ∀a,W0 (f a)):W0 (m.bind f):=λs e g=>by
 rw[run_bind]at g;cases hm:m.run s with
 |none=>simp_all
 |some a=>rw[hm]at g;exact h a s e g
theorem Kh{b:Nat}{k:Blk->RM Eff}(h: ∀v,W0 (k v)):W0 (.blk b k):=λs e g=>by
 simp only[RM.run]at g;split at g;exact h _ s e g;cases g
theorem JNz{g:Nat}{k:AV->RM Eff}(h: ∀v,W0 (k v)):W0 (.slot g k):=λs e j=>by
 simp only[RM.run]at j;split at j;exact h _ s e j;cases j
theorem jL{α:Type}(a:α):B0 (.ret a):=λs e _ b h=>by grind [RM.reads]
theorem vZ{α:Type}:B0 (.fail:RM α):=λs e h=>by cases h
theorem rC(x:Option AV):B0 (val x):=by cases x<;>first|exact vZ|exact jL _
theorem dK{α β:Type}{m:RM α}{f:α->RM β}(hm:B0 m)(h: ∀a,B0 (f a)):B0 (m.bind f):=λs e g b hb=>by
 rw[run_bind]at g;rw[zM]at hb;cases hr:m.run s with
 |none=>simp_all
 |some a=>
  rw[hr]at g hb;rcases zQ9.1 hb with hb|hb;exact hm s a hr b hb;exact h a s e g b (by simpa using hb)
theorem fG(x:Opd):B0 (ev x):=by
 cases x with
 |t n=>exact λs e _ b h=>by grind [ev,RM.reads]
 |c v=>exact jL _
theorem JOp{α:Type}{g:Nat}{k:AV->RM α}(h: ∀v,B0 (k v)):B0 (.slot g k):=λs e j b hb=>by
 simp only[RM.run]at j;simp only[RM.reads,cV]at hb;rcases hb with hb|hb;cases hb;cases hl:lk g s.env with
 |none=>simp_all
 |some v=>rw[hl]at j hb;exact h v s e j b hb
theorem gg: ∀xs:List Opd,B0 (evs xs)|[]=>jL _|x::xs=>dK (fG x) λ_=>dK (gg xs) λ_=>jL _
theorem ui(x:Option Opd):B0 (evo x):=by
 cases x with
 |none=>exact jL _
 |some x=>exact dK (fG x) λ_=>jL _
theorem yn: ∀(xs:List (Nat×Nat×Opd)),B0 (lM xs)
 |[]=>jL _
 |(a,b,x)::xs=>by
  unfold lM;refine dK (fG x) λv=>?_;split;exact dK (yn xs) λ_=>jL _;simp[vZ]
theorem N5(lo hi mx:Option AV)(c:PV)(hc: ∀l,c≠.s l):lN .str (.p c) lo hi mx=none:=by
 cases mx with
 |some _=>rfl
 |none=>cases c<;>first|rfl|simp_all
theorem JPk(F:Orc)(op:AOp)(new:Nat)(h:AP op=false):W0 (opR F op new):=by
 cases op with
 |mkarr=>cases h
 |newboxo=>cases h
 |buildo=>cases h
 |storen=>cases h
 |callo=>cases h
 |newbox=>cases h
 |box=>cases h
 |lits=>cases h
 |store=>cases h
 |mkslice=>cases h
 |call=>cases h
 |callv=>cases h
 |app=>cases h
 |shr=>cases h
 |appn=>cases h
 |mv x=>exact dQ λ_=>sT _
 |pick c a b=>
  refine dQ λv=>?_;grind [dQ,sT,tB]
 |build zero parts=>
  refine dQ λv=>?_;grind [pJ,tB]
 |load agg size x=>
  refine dQ λv=>?_;unfold gY;split
  all_goals grind [pJ,tB,Kh]
 |nilchk x=>
  refine dQ λv=>?_;grind [sT,tB]
 |bin op t x y=>exact dQ λ_=>dQ λ_=>pJ _
 |un op x=>exact dQ λ_=>pJ _
 |conv k x=>
  refine dQ λv=>?_;split;exact sT _;exact sT _;grind [dQ,sT,tB];cases h;simp[tB]
 |slice k x lo hi mx=>
  cases k with
  |sl esz=>cases h
  |str=>
   refine dQ λv=>dQ λ_=>dQ λ_=>dQ λ_=>?_;split;rename_i b i n;intro s e g;exfalso;rw[run_bind]at g;cases h1:(fz (.slr b i n)).run s<;>grind [fz,RM.run,N5]
   simp[pJ]
 |faddr off x=>exact dQ λ_=>pJ _
 |field agg off size x=>exact dQ λ_=>pJ _
 |iaddr esz x y=>
  refine dQ λv=>dQ λu=>?_;unfold nP;grind [tB,sT,Kh]
 |aaddr len esz x y=>exact dQ λ_=>dQ λ_=>pJ _
 |sidx x y=>
  refine dQ λv=>dQ λu=>?_;grind [tB,sT]
 |aidx agg len esz x y=>
  refine dQ λv=>dQ λu=>?_;grind [pJ,tB]
 |extr x i=>exact dQ λ_=>pJ _
 |len str x=>exact dQ λ_=>pJ _
 |mm mx x y=>exact dQ λ_=>dQ λ_=>pJ _
 |mkfn f a b=>exact dQ λ_=>dQ λ_=>sT _
theorem JQ4(F:Orc)(op:AOp)(new:Nat)(h:QM op=false):B0 (opR F op new):=by
 cases op with
 |mkarr=>cases h
 |newboxo=>cases h
 |buildo=>cases h
 |storen=>cases h
 |callo=>cases h
 |newbox=>cases h
 |box=>cases h
 |lits=>cases h
 |store=>cases h
 |mkslice=>cases h
 |call=>cases h
 |callv=>cases h
 |app=>cases h
 |shr=>cases h
 |appn=>cases h
 |load=>cases h
 |iaddr=>cases h
 |mv x=>exact dK (fG x) λ_=>jL _
 |pick c a b=>
  refine dK (fG c) λv=>?_;grind [dK,fG,jL,vZ]
 |build zero parts=>
  refine dK (yn parts) λv=>?_;grind [rC,vZ]
 |nilchk x=>
  refine dK (fG x) λv=>?_;grind [jL,vZ]
 |bin op t x y=>exact dK (fG x) λ_=>dK (fG y) λ_=>rC _
 |un op x=>exact dK (fG x) λ_=>rC _
 |conv k x=>
  refine dK (fG x) λv=>?_;split;exact jL _;exact jL _;cases h;cases h;simp[vZ]
 |slice k x lo hi mx=>
  cases k with
  |sl esz=>cases h
  |str=>
   refine dK (fG x) λv=>dK (ui lo) λ_=>dK (ui hi) λ_=>dK (ui mx) λ_=>?_;split;rename_i b i n;intro s e g;exfalso;rw[run_bind]at g;cases h1:(fz (.slr b i n)).run s<;>grind [fz,RM.run,N5]
   simp[rC]
 |faddr off x=>exact dK (fG x) λ_=>rC _
 |field agg off size x=>exact dK (fG x) λ_=>rC _
 |aaddr len esz x y=>exact dK (fG x) λ_=>dK (fG y) λ_=>rC _
 |sidx x y=>
  refine dK (fG x) λv=>dK (fG y) λu=>?_;grind [vZ,jL]
 |aidx agg len esz x y=>
  refine dK (fG x) λv=>dK (fG y) λu=>?_;grind [rC,vZ]
 |extr x i=>exact dK (fG x) λ_=>rC _
 |len str x=>exact dK (fG x) λ_=>rC _
 |mm mx x y=>exact dK (fG x) λ_=>dK (fG y) λ_=>rC _
 |mkfn f a b=>exact dK (gg a) λ_=>dK (gg b) λ_=>jL _
theorem Kk{op:AOp}(h:QM op=false):AP op=false:=by
 cases op<;>first|rfl|cases h|skip
 rename_i k x;cases k<;>first|rfl|cases h
 rename_i k x lo hi mx;cases k<;>first|rfl|cases h
theorem JO6{op:AOp}(h:AP op=false):nM op=0:=by
 cases op<;>first|rfl|cases h|skip
 rename_i k x;cases k<;>first|rfl|cases h
theorem iq(F:Orc)(i:cG)(new:Nat)(h:AP i.op=false):W0 (cJ F i new):=by
 have h1:W0 (opD F i.op new):=dQ λ_=>JPk F _ _ h;grind [cJ,JNz,sT,tB]
theorem Oe(F:Orc)(i:cG)(new:Nat)(h:QM i.op=false):B0 (cJ F i new):=by
 have h1:B0 (opD F i.op new):=by unfold opD;rw[JO6 (Kk h)];exact dK (jL _) λ_=>JQ4 F _ _ h
 grind [cJ,JOp,jL,vZ]
end Go.Am
end
section
namespace Go.Am
theorem bind_some{α β:Type}{m:RM α}{f:α->RM β}{s:St}{b:β}(h:(m.bind f).run s=some b): ∃a,m.run s=some a/\(f a).run s=some b:=by rw[run_bind]at h;cases hm:m.run s<;>simp_all
theorem hI{x:Option AV}{s:St}{e:Eff}(h:(val x).run s=some e): ∃v,x=some v/\e=⟨v,[]⟩:=by cases x<;>simp_all [val,RM.run]
theorem N7{w C c v}(h:okP c v=true):J08 w C c v:=by
 unfold okP at h;split at h;rename_i x y;have:x=y:=by simpa using h
 subst this;exact .b _;simp at h;obtain⟨rfl,rfl⟩:=h;exact .i _ _;rename_i l e;have:l=e.data.toList:=by simpa using h
 subst this;exact .s _;exact .sl0 _ _ _;exact .np;exact .nf;cases h
theorem WB{w C}: ∀{cs:List PV} {vs:List Value},BI cs vs=true->cs.length=vs.length/\ ∀(i:Nat) x v,cs[i]?=some x->vs[i]?=some v->J08 w C x v
 |[],[],_=>⟨rfl,λi x v h=>by simp at h⟩
 |x::xs,v::vs,h=>by
  simp only[BI,aY]at h;obtain⟨h1,h2⟩:=WB (w:=w) (C:=C) h.2;grind [N7]
 |[],_::_,h=>by grind [BI]
 |_::_,[],h=>by grind [BI]
theorem JN3{s:Sn}{c v}(h:okC c v=true):JK s c v:=by
 unfold okC at h;split at h;exact .p _ _ (N7 h);rename_i cs vs;obtain⟨h1,h2⟩:=WB (w:=s.w) (C:=s.g.C) h;exact .data _ _ (by simpa using h1) λi x v j e=>h2 i x v j (by simpa using e);rename_i f g a c;simp at h;obtain⟨⟨rfl,rfl⟩,rfl⟩:=h;exact .fn _ _ _ _ _ rfl rfl (λi x v h=>by simp at h) (λi x v h=>by simp at h);simp at h;subst h;exact .tup _ _ rfl (λi x v h=>by simp at h);cases h
def bV(s:Sn)(tmps:Array Value)(env:List (Nat×AV)):Prop:= ∀n x,lk n env=some x-> ∃v,tmps[n]?=some v/\JK s x v
theorem bV.mono{s0 s:Sn}(hi:Inv s0)(t:bJ s0 s){tmps env}(h:bV s0 tmps env):bV s tmps env:=
 λn x e=>let⟨v,h1,h2⟩:=h n x e;⟨v,h1,h2.mono hi t⟩
section
variable {P:Program} {s:Sn} {a:Act} {env:List (Nat×AV)}
theorem bR(he:bV s a.tmps env){x:Opd}{y:Operand}{v:AV}(h:(ev x).run ⟨env,s.σ⟩=some v)(hc:bY x y=true):JK s v (a.eval y):=by
 cases x with
 |t n=>
  cases y<;>simp[bY]at hc;subst hc;simp only[ev,RM.run]at h;split at h
  rename_i u e;injection h with h;subst h;obtain⟨w,h1,h2⟩:=he _ _ e;simp_all [Act.eval];cases h
 |c z=>
  simp only[ev,RM.run]at h;injection h with h;subst h;cases y with
  |const u=>exact JN3 (v:=u) (by grind [bY])
  |func g=>
   cases z<;>simp[bY]at hc;rename_i f first caps
   cases first<;>cases caps<;>simp[bY]at hc
   subst hc;exact .fn _ _ _ _ _ rfl rfl (λi x v h=>by simp at h) (λi x v h=>by simp at h)
  |tmp n=>grind [bY]
  |global n=>grind [bY]
theorem ID(he:bV s a.tmps env): ∀{xs:List Opd} {e:List Operand} {vs:List AV},(evs xs).run ⟨env,s.σ⟩=some vs->jJ xs e=true->
  vs.length=e.length/\ ∀(i:Nat) x v,vs[i]?=some x->(e.map a.eval)[i]?=some v->JK s x v
 |[],[],vs,h,_=>by
  grind [evs,RM.run]
 |x::xs,y::e,vs,h,hc=>by
  simp only[jJ,aY]at hc;simp only[evs]at h;obtain⟨u,h1,h⟩:=bind_some h;obtain⟨g,h2,h⟩:=bind_some h;simp only[RM.run]at h;injection h with h;subst h;obtain⟨l,r⟩:=ID he h2 hc.2;grind [bR]
 |[],_::_,_,_,hc=>by grind [jJ]
 |_::_,[],_,_,hc=>by grind [jJ]
def cA(P:Program)(o:Oper)(a:Act)(s:Sn)(e:Eff):Prop:= ∀(next:Act->World->Prop) (Q:Exit->Act->World->Prop),(∀v w' g',Inv ⟨upd e.ws s.σ,g',w'⟩->bJ s ⟨upd e.ws s.σ,g',w'⟩->JK ⟨upd e.ws s.σ,g',w'⟩ e.val v->next (a.put o.dst v) w')->o.wp P a s.w next Q
theorem hJ{o:Oper}{e:Eff}{v:Value}{w':World}{g':Gh}(hr:(execOp a.eval o).run P s.w=.ok (.value v) w')
  (hi:Inv ⟨upd e.ws s.σ,g',w'⟩) (t:bJ s ⟨upd e.ws s.σ,g',w'⟩) (hv:JK ⟨upd e.ws s.σ,g',w'⟩ e.val v):cA P o a s e:=by
 intro next Q h;grind [Oper.wp,Oper.upon]
theorem JR{o:Oper}{x:AV}{v:Value}(hi:Inv s)(hr:(execOp a.eval o).run P s.w=.ok (.value v) s.w)(hv:JK s x v):cA P o a s ⟨x,[]⟩:=
 hJ (e:=⟨x,[]⟩) (g':=s.g) hr hi (.refl s) hv
theorem Br{t:TypeId}{i:TypeInfo}(h:P.info? t=some i)(w:World):(typeInfo t).run P w=.ok i w:=by simp[typeInfo,h]
theorem iW{t:TypeId}{n:Nat}(h:szT P t=some n)(w:World):(sizeOf t).run P w=.ok n w:=by unfold szT at h;cases hi:P.info? t<;>simp_all [sizeOf,Br]
theorem II{t:TypeId}{b:Bool}(h:agT P t=some b)(w:World):(isAgg t).run P w=.ok b w:=by
 unfold agT at h;cases hu:P.underlying t with
 |none=>simp_all
 |some d=>rw[hu]at h;simp at h;simp only[isAgg,AQ,run_underlying hu,uT];subst h;cases d<;>rfl
theorem jN{t e:TypeId}(h:elT P t=some e):P.underlying t=some (.slice e):=by
 grind [elT]
theorem zG{t:TypeId}(h:lL P t=true):P.underlying t=some .string:=by
 grind [lL]
theorem xq{t:TypeId}(h:de P t=true):P.underlying t=some (.int .u8):=by
 grind [de]
theorem JCk{t:TypeId}(h:ia P t=true):P.underlying t=some .bool:=by
 grind [ia]
theorem JIs{t:TypeId}(h:s6 P t=true): ∃k,P.underlying t=some (.int k):=by
 grind [s6]
theorem JHt{t:TypeId}{k:IntKind}(h:ga P k t=true):P.underlying t=some (.int k):=by
 grind [ga]
theorem Pd{t e:TypeId}{n:Nat}(h:arT P t=some (n,e)):P.underlying t=some (.array n e):=by
 grind [arT]
theorem xf{t:TypeId}{fs:Array Field}(h:flT P t=some fs):P.underlying t=some (.struct fs):=by
 grind [flT]
theorem jK{x k n}(h:JK s (.p (.i k n)) x):x=.int k n:=by cases h with|p _ _ h=>cases h;rfl
theorem UN{x n}(h:JK s (.p (.b n)) x):x=.bool n:=by cases h with|p _ _ h=>cases h;rfl
theorem vQ{x l}(h:JK s (.p (.s l)) x):x=.string ⟨l.toArray⟩:=by cases h with|p _ _ h=>cases h;rfl
theorem JMT{x}(h:JK s (.p .np) x):x=.pointer none:=by cases h with|p _ _ h=>cases h;rfl
theorem JOB{x}(h:JK s (.p .nf) x):x=.nilFunc:=by cases h with|p _ _ h=>cases h;rfl
theorem vU(k n):JK s (.p (.i k n)) (.int k n):=.p _ _ (.i _ _)
theorem rH(n):JK s (.p (.b n)) (.bool n):=.p _ _ (.b _)
theorem Oc(l):JK s (.p (.s l)) (.string ⟨l.toArray⟩):=.p _ _ (.s _)
theorem vW(l:List UInt8):ByteArray.size ⟨l.toArray⟩=l.length:=by simp[ByteArray.size]
theorem JIP(l m:List UInt8):(⟨l.toArray⟩:ByteArray)++⟨m.toArray⟩=⟨(l++m).toArray⟩:=by apply ByteArray.ext;simp_all
theorem JCj{op:BinOp}{k:IntKind}{x y:Int}{t:TypeId}{r:PV}(n:op≠.shl)(j:op≠.shr)(h:AN op k x y=some r)(w:World):
  ∃v,(binOp op t (.int k x) (.int k y)).run P w=.ok v w/\J08 s.w s.g.C r v:=by
 cases op<;>simp only[AN]at h
 case add=>injection h with h;subst h;exact⟨_,by simp[binOp,Op.intArith],.i _ _⟩
 case sub=>injection h with h;subst h;exact⟨_,by simp[binOp,Op.intArith],.i _ _⟩
 case mul=>injection h with h;subst h;exact⟨_,by simp[binOp,Op.intArith],.i _ _⟩
 case quo=>split at h
           cases h;rename_i e;injection h with h;subst h;exact⟨_,by simp[binOp,Op.intDiv,e],.i _ _⟩
 case rem=>split at h
           cases h;rename_i e;injection h with h;subst h;exact⟨_,by simp[binOp,Op.intDiv,e],.i _ _⟩
 case and=>injection h with h;subst h;exact⟨_,by simp[binOp,Op.intBits],.i _ _⟩
 case or=>injection h with h;subst h;exact⟨_,by simp[binOp,Op.intBits],.i _ _⟩
 case xor=>injection h with h;subst h;exact⟨_,by simp[binOp,Op.intBits],.i _ _⟩
 case eql=>injection h with h;subst h;exact⟨_,by simp[binOp,Op.intCmp],.b _⟩
 case neq=>injection h with h;subst h;exact⟨_,by simp[binOp,Op.intCmp],.b _⟩
 case lss=>injection h with h;subst h;exact⟨_,by simp[binOp,Op.intCmp],.b _⟩
 case leq=>injection h with h;subst h;exact⟨_,by simp[binOp,Op.intCmp],.b _⟩
 case gtr=>injection h with h;subst h;exact⟨_,by simp[binOp,Op.intCmp],.b _⟩
 case geq=>injection h with h;subst h;exact⟨_,by simp[binOp,Op.intCmp],.b _⟩
 all_goals simp_all
theorem Cg{op:BinOp}{k k':IntKind}{x y:Int}{t:TypeId}{r:PV}(hs:op=.shl\/op=.shr)(h:NV op k x y=some r)(w:World):
  ∃v,(binOp op t (.int k x) (.int k' y)).run P w=.ok v w/\J08 s.w s.g.C r v:=by
 unfold NV at h;split at h;cases h;rename_i e;rcases hs with rfl|rfl;injection h with h;subst h;exact⟨_,by simp[binOp,Op.shift,e],.i _ _⟩;injection h with h;subst h;exact⟨_,by simp[binOp,Op.shift,e],.i _ _⟩
theorem JDh{op:BinOp}{x y:List UInt8}{t:TypeId}{r:PV}(h:AZ op x y=some r)(w:World):
  ∃v,(binOp op t (.string ⟨x.toArray⟩) (.string ⟨y.toArray⟩)).run P w=.ok v w/\J08 s.w s.g.C r v:=by
 cases op<;>simp only[AZ]at h
 case add=>
  split at h;rename_i hl;injection h with h;subst h;refine⟨.string ⟨(x++y).toArray⟩,?_,.s _⟩;have h1: ¬(((ByteArray.size ⟨x.toArray⟩+ByteArray.size ⟨y.toArray⟩:Nat):Int)>IntKind.i64.max):=by rw[vW,vW];show¬(_>(9223372036854775807:Int));omega
  simp_all [binOp,Op.stringOp,JIP];cases h
 case eql=>injection h with h;subst h;exact⟨.bool (x==y),by simp[binOp,Op.stringOp],.b _⟩
 case neq=>injection h with h;subst h;exact⟨.bool (!(x==y)),by simp[binOp,Op.stringOp],.b _⟩
 case lss=>injection h with h;subst h;exact⟨.bool (Op.bytesLess x y),by simp[binOp,Op.stringOp],.b _⟩
 case leq=>injection h with h;subst h;exact⟨.bool (Op.bytesLess x y||x==y),by simp[binOp,Op.stringOp],.b _⟩
 case gtr=>injection h with h;subst h;exact⟨.bool (!(Op.bytesLess x y||x==y)),by simp[binOp,Op.stringOp],.b _⟩
 case geq=>injection h with h;subst h;exact⟨.bool (!Op.bytesLess x y),by simp[binOp,Op.stringOp],.b _⟩
 all_goals cases h
end
end Go.Am
end
section
namespace Go.Am
section
variable {P:Program} {F:Orc} {s:Sn} {a:Act} {env:List (Nat×AV)} {o:Oper} {new:Nat} {e:Eff}
theorem JRz(hi:Inv s)(he:bV s a.tmps env){x}(h:(opR F (.mv x) new).run ⟨env,s.σ⟩=some e)(hc:bD P (.mv x) o.op=true):cA P o a s e:=by
 simp only[opR]at h;obtain⟨v,h1,h⟩:=bind_some h;simp only[RM.run]at h;injection h with h;subst h;unfold bD at hc;simp only at hc;split at hc;rename_i y g;exact JR hi (by simp_all [execOp]) (bR he h1 hc);rename_i y g;exact JR hi (by simp_all [execOp]) (bR he h1 hc);cases hc
theorem JNa(hi:Inv s)(he:bV s a.tmps env){c x y}(h:(opR F (.pick c x y) new).run ⟨env,s.σ⟩=some e)(hc:bD P (.pick c x y) o.op=true):cA P o a s e:=by
 simp only[opR]at h;obtain⟨v,h1,h⟩:=bind_some h;unfold bD at hc;simp only at hc;split at hc;rename_i c' k j n;simp only[aY]at hc;split at h;rename_i b;have hb:=UN (bR he h1 hc.1.1);split at h;rename_i g;obtain⟨u,h2,h⟩:=bind_some h;simp only[RM.run]at h;injection h with h;subst h;exact JR hi (v:=a.eval k) (by simp_all [execOp,asBool]) (bR he h2 hc.1.2);rename_i g;obtain⟨u,h2,h⟩:=bind_some h;simp only[RM.run]at h;injection h with h;subst h;have g:b=false:=by simpa using g
 exact JR hi (v:=a.eval j) (by simp_all [execOp,asBool]) (bR he h2 hc.2);grind [RM.run];cases hc
theorem JHS(hi:Inv s)(he:bV s a.tmps env){x}(h:(opR F (.nilchk x) new).run ⟨env,s.σ⟩=some e)(hc:bD P (.nilchk x) o.op=true):cA P o a s e:=by
 simp only[opR]at h;obtain⟨v,h1,h⟩:=bind_some h;unfold bD at hc;simp only at hc;split at hc;rename_i y n;have g:=bR he h1 hc;split at h<;>(simp only[RM.run]at h;try cases h)
 refine JR hi (v:=a.eval y) ?_ g;generalize j:a.eval y=u at g;cases g;simp_all [execOp];refine JR hi (v:=a.eval y) ?_ g;generalize j:a.eval y=u at g;cases g;simp_all [execOp];refine JR hi (v:=a.eval y) ?_ g;generalize j:a.eval y=u at g;cases g with
 |ep _ _ _ _ _ _ _ _ k=>obtain⟨r,q,rfl⟩:=k;simp_all [execOp]
 refine JR hi (v:=a.eval y) ?_ g;generalize j:a.eval y=u at g;cases g;simp_all [execOp];cases hc
theorem PR{op:BinOp}{t:TypeId}{x y:Operand}{u v:Value}(h:(∀c,u≠.agg c)/\u≠.nilIface)(w:World):(eqGuard op t x y u v).run P w=.ok () w:=by simp_all [eqGuard]
theorem JAW(hi:Inv s)(he:bV s a.tmps env){op x y}(h:(opR F (.bin op .plain x y) new).run ⟨env,s.σ⟩=some e)(hc:bD P (.bin op .plain x y) o.op=true):cA P o a s e:=by
 simp only[opR]at h;obtain⟨u,h1,h⟩:=bind_some h;obtain⟨v,h2,h⟩:=bind_some h;obtain⟨r,g,rfl⟩:=hI h;unfold bD at hc;simp only at hc;split at hc;rename_i M t B E ty L;simp only[aY,beq_iff_eq]at hc;obtain⟨⟨rfl,K⟩,J⟩:=hc;have C:=bR he h1 K;have D:=bR he h2 J;have j: ∀{z:Value},(∀c,a.eval B≠.agg c)/\a.eval B≠.nilIface->(binOp op t (a.eval B) (a.eval E)).run P s.w=.ok z s.w->(execOp a.eval o).run P s.w=.ok (.value z) s.w:=by simp_all [execOp,PR]
 simp only[oT]at g;split at g;rename_i N p O q;rw[jK C,jK D]at j;split at g;obtain⟨z,k,rfl⟩:=gT.1 g;obtain⟨v,A,n⟩:=Cg (s:=s) (P:=P) (t:=t) (.inl rfl) k s.w;exact JR hi (j (by simp) A) (.p _ _ n);obtain⟨z,k,rfl⟩:=gT.1 g;obtain⟨v,A,n⟩:=Cg (s:=s) (P:=P) (t:=t) (.inr rfl) k s.w;exact JR hi (j (by simp) A) (.p _ _ n);rename_i G H;split at g;rename_i I;subst I;obtain⟨z,k,rfl⟩:=gT.1 g;obtain⟨v,A,n⟩:=JCj (s:=s) (P:=P) (t:=t) (λe=>G e) (λe=>H e) k s.w;exact JR hi (j (by simp) A) (.p _ _ n);cases g;rw[vQ C,vQ D]at j;obtain⟨z,k,rfl⟩:=gT.1 g;obtain⟨v,A,n⟩:=JDh (s:=s) (P:=P) (t:=t) k s.w;exact JR hi (j (by simp) A) (.p _ _ n);cases g;cases hc
theorem JCS(hi:Inv s)(he:bV s a.tmps env){op x y}(h:(opR F (.bin op .bool x y) new).run ⟨env,s.σ⟩=some e)(hc:bD P (.bin op .bool x y) o.op=true):cA P o a s e:=by
 simp only[opR]at h;obtain⟨u,h1,k⟩:=bind_some h;obtain⟨v,h2,j⟩:=bind_some k;obtain⟨r,g,rfl⟩:=hI j;clear h k j;unfold bD at hc;simp only at hc;split at hc
 ·rename_i C t G E ty B;simp only[aY,beq_iff_eq]at hc;obtain⟨⟨rfl,A⟩,z,ht⟩:=hc;have n:=bR he h1 A;have w:=bR he h2 z;have hb:=JCk ht;simp only[oT]at g;split at g
  ·rename_i _ _ p q;have D:=UN n;have H:=UN w;cases op<;>simp only[jX]at g<;>first|(injection g with g;subst g)|cases g
   all_goals simp_all [JR,execOp,eqGuard,binOp,run_equal_bool,rH]
  cases g
 cases hc
theorem WY{op:BinOp}{t:TypeId}{u v:Value}{b:Bool}(ho:op=.eql\/op=.neq){w:World}(h:(Op.equal t u v).run P w=.ok b w)
  (hu:(∃x n c,u=.slice x n c)\/(∃p,u=.pointer p/\v=.pointer none)\/u=.nilFunc\/(∃f y c,u=.func f y c)):
  (binOp op t u v).run P w=.ok (.bool (if op=.eql then b else !b)) w:=by
 rcases ho with rfl|rfl;have:binOp .eql t u v=(do pure (.bool (<-Op.equal t u v))):=(by grind [binOp]);simp_all;have:binOp .neq t u v=(do pure (.bool (!(<-Op.equal t u v)))):=(by grind [binOp]);simp_all
theorem wE{op:BinOp}{b:Bool}{r:AV}(h:jX op (some b)=some r):(op=.eql\/op=.neq)/\r=.p (.b (if op=.eql then b else !b)):=by
 cases op<;>simp[jX]at h
 all_goals simp_all
theorem zi{op:BinOp}{r:AV}(h:QG op=some r):(op=.eql\/op=.neq)/\r=.unk:=by
 cases op<;>simp[QG]at h
 all_goals simp_all
theorem JDE(hi:Inv s)(he:bV s a.tmps env){op x y}(h:(opR F (.bin op .nils x y) new).run ⟨env,s.σ⟩=some e)(hc:bD P (.bin op .nils x y) o.op=true):cA P o a s e:=by
 simp only[opR]at h;obtain⟨u,h1,E⟩:=bind_some h;obtain⟨v,h2,B⟩:=bind_some E;obtain⟨r,g,rfl⟩:=hI B;clear h E B h2;unfold bD at hc;simp only at hc;split at hc;rename_i M t A G ty L;simp only[aY,beq_iff_eq]at hc;obtain⟨⟨rfl,K⟩,ht⟩:=hc;have D:=bR he h1 K;clear h1;have I:G=.const (.slice none 0 0)/\ ∃el,P.underlying t=some (.slice el):=(by unfold Hy at ht;split at ht;obtain⟨el,N⟩:=qk.1 ht;simp_all [jN];cases ht);obtain⟨rfl,el,J⟩:=I;have go: ∀(z:Option Addr) (n c:Nat),a.eval A=.slice z n c->(op=.eql\/op=.neq)->
   (execOp a.eval o).run P s.w=.ok (.value (.bool (if op=.eql then z.isNone else !z.isNone))) s.w:=by
  intro z n c k j;have h1:=WY (P:=P) (t:=t) j (run_equal_slice_nil s.w t el z n c J) (.inl ⟨z,n,c,rfl⟩);simp_all [execOp,PR,Act.eval]
 simp only[oT]at g;split at g;rename_i esz rows;cases D with
 |p _ _ q=>
  split at g;obtain⟨j,rfl⟩:=zi g;generalize k:a.eval A=z at q;cases q with
  |sl0 _ C cap=>exact JR hi (go _ _ _ k j) (.unk _)
  |sl _ _ r Q cap vals=>exact JR hi (go _ _ _ k j) (.unk _)
  obtain⟨j,rfl⟩:=wE g;generalize k:a.eval A=z at q;cases q<;>simp_all [JR,rH]
 rename_i b i n;generalize k:a.eval A=z at D;cases D with
 |slr _ _ _ _ wm esz rows H=>
  obtain⟨C,cap,rfl,R⟩:=H;split at g;obtain⟨j,rfl⟩:=zi g;exact JR hi (go _ _ _ k j) (.unk _);rename_i O;obtain⟨j,rfl⟩:=wE g;have:C.isNone=false:=by cases C<;>simp_all
  grind [JR,rH]
 cases g;cases hc
theorem JDl(hi:Inv s)(he:bV s a.tmps env){op x y}(h:(opR F (.bin op .nilp x y) new).run ⟨env,s.σ⟩=some e)(hc:bD P (.bin op .nilp x y) o.op=true):cA P o a s e:=by
 simp only[opR]at h;obtain⟨u,h1,q⟩:=bind_some h;obtain⟨v,h2,n⟩:=bind_some q;obtain⟨r,g,rfl⟩:=hI n;clear h q n h2;unfold bD at hc;simp only at hc;split at hc;rename_i H t A B ty G;simp only[aY,beq_iff_eq]at hc;obtain⟨⟨rfl,E⟩,ht⟩:=hc;have j:=bR he h1 E;clear h1;have D:B=.const (.pointer none)/\ ∃el,P.underlying t=some (.pointer el):=(by grind [Iy]);obtain⟨rfl,el,I⟩:=D;have go: ∀(z:Option Addr),a.eval A=.pointer z->(op=.eql\/op=.neq)->
   (execOp a.eval o).run P s.w=.ok (.value (.bool (if op=.eql then z.isNone else !z.isNone))) s.w:=by
  intro z C k;have:P.pointee t=el:=by grind [Program.pointee]
  simp_all [WY,run_equal_pointer_nil,execOp,PR,Act.eval]
 simp only[oT]at g;generalize C:a.eval A=z at j;split at g;obtain⟨k,rfl⟩:=wE g;grind [JMT,JR,rH];obtain⟨k,rfl⟩:=wE g;cases j;grind [JR,rH];obtain⟨k,rfl⟩:=wE g;cases j;grind [JR,rH];obtain⟨k,rfl⟩:=wE g;cases j<;>grind [JR,rH]
 cases g;cases hc
theorem JDB(hi:Inv s)(he:bV s a.tmps env){op x y}(h:(opR F (.bin op .nilf x y) new).run ⟨env,s.σ⟩=some e)(hc:bD P (.bin op .nilf x y) o.op=true):cA P o a s e:=by
 simp only[opR]at h;obtain⟨u,h1,q⟩:=bind_some h;obtain⟨v,h2,k⟩:=bind_some q;obtain⟨r,g,rfl⟩:=hI k;clear h q k h2;unfold bD at hc;simp only at hc;split at hc;rename_i I t D C ty H;simp only[aY,beq_iff_eq]at hc;obtain⟨⟨rfl,G⟩,ht⟩:=hc;have n:=bR he h1 G;clear h1;have E:C=.const .nilFunc/\ ∃p r v,P.underlying t=some (.func p r v):=(by grind [Gt]);obtain⟨rfl,p,J,vv,B⟩:=E;simp only[oT]at g;generalize K:a.eval D=z at n;split at g;obtain⟨A,rfl⟩:=wE g;have:=JOB n;subst this;have j:(Op.equal t .nilFunc .nilFunc).run P s.w=.ok true s.w:=by
  have: ∀d,(Op.equalIn (d+1) t .nilFunc .nilFunc).run P s.w=.ok true s.w:=λd=>by simp[Op.equalIn,run_underlying B]
  exact this 9999
 simp_all [WY,JR,rH,execOp,PR,Act.eval];obtain⟨A,rfl⟩:=wE g;cases n;rename_i f _ _ fs cs _ _ _ _;have j:(Op.equal t (.func (.func f) fs cs) .nilFunc).run P s.w=.ok false s.w:=by
  have: ∀d,(Op.equalIn (d+1) t (.func (.func f) fs cs) .nilFunc).run P s.w=.ok false s.w:=λd=>by simp[Op.equalIn,run_underlying B]
  exact this 9999
 have h1:=WY (P:=P) (t:=t) A j (.inr (.inr (.inr ⟨_,_,_,rfl⟩)));simp_all [JR,rH,execOp,PR,Act.eval];cases g;cases hc
end
end Go.Am
end
section
namespace Go.Am
theorem PX: ∀{vs:List Value} {w:World} {r o:Nat} {c:Array Value} {e:TypeId} {fz:Nat×Nat},w.heap[r]?=some (.cells c e fz)->o+vs.length<=c.size->
  Put r o vs w (w.setCells r o vs)
 |[],w,r,o,c,e,fz,h,hl=>⟨⟨c,e,fz,c,h,h,rfl,hl,λj v q=>by simp at q,λ_ _=>rfl⟩,λ_ _=>rfl,rfl,rfl,rfl⟩
 |v::vs,w,r,o,c,e,fz,h,hl=>by
  have J:=zO h;have n:o+1+vs.length<=c.size:=by grind
  have h1:(w.setCell ⟨r,o,none⟩ v).heap[r]?=some (.cells (c.setIfInBounds o v) e fz):=(by grind [World.setCell]);obtain⟨⟨G,K,C,c',g,y,x,E,D,F⟩,I,L,A,z⟩:=PX (vs:=vs) (o:=o+1) h1 (by simpa using n);rw[h1]at g;injection g with g;injection g with a1 a2 a3;subst a1 a2 a3;refine⟨⟨c,e,fz,c',h,y,by simpa using x,hl,λj u q=>?_,λk H=>?_⟩,λr' B=>?_,?_,A,z⟩;grind;grind;show((w.setCell ⟨r,o,none⟩ v).setCells r (o+1) vs).heap[r']?=_;grind [World.setCell];show((w.setCell ⟨r,o,none⟩ v).setCells r (o+1) vs).heap.size=_;simp_all
theorem J08.one{w C x v}(h:J08 w C x v):v.oneCell'=true:=by cases h<;>rfl
theorem J08.cells1{w C x v}(h:J08 w C x v):v.cells= #[v]:=by cases h<;>rfl
section
variable {P:Program} {F:Orc} {s:Sn} {a:Act} {env:List (Nat×AV)} {o:Oper} {new:Nat} {e:Eff}
theorem JRq(hi:Inv s)(he:bV s a.tmps env){op x}(h:(opR F (.un op x) new).run ⟨env,s.σ⟩=some e)(hc:bD P (.un op x) o.op=true):cA P o a s e:=by
 simp only[opR]at h;obtain⟨u,h1,q⟩:=bind_some h;obtain⟨r,g,rfl⟩:=hI q;clear h q;unfold bD at hc;simp only at hc;split at hc;rename_i B t y A;simp only[aY,beq_iff_eq]at hc;obtain⟨rfl,w⟩:=hc;have j:=bR he h1 w;clear h1;generalize C:a.eval y=z at j;unfold unP at g;split at g<;>first|(injection g with g;subst g)|cases g
 rename_i k n;have:=jK j;simp_all [JR,execOp,Op.unary,Op.intArith,vU];rename_i k n;have:=jK j;simp_all [JR,execOp,Op.unary,Op.intBits,vU];rename_i b;have:=UN j;simp_all [JR,execOp,Op.unary,rH];cases j with
 |unk b=>exact JR hi (v:=.bool (!b)) (by simp_all [execOp,Op.unary]) (.unk _)
 cases hc
theorem JKD(hi:Inv s)(he:bV s a.tmps env){off x}(h:(opR F (.faddr off x) new).run ⟨env,s.σ⟩=some e)(hc:bD P (.faddr off x) o.op=true):cA P o a s e:=by
 simp only[opR]at h;obtain⟨u,h1,C⟩:=bind_some h;obtain⟨r,j,rfl⟩:=hI C;clear h C;unfold bD at hc;simp only at hc;split at hc;rename_i t y f E;simp only[aY]at hc;obtain⟨D,ht⟩:=hc;have q:=bR he h1 D;clear h1;have hf: ∃fs k n,P.underlying t=some (.struct fs)/\fs[f]?=some k/\k.offset=off/\szT P k.type=some n/\n≠0:=(by grind [xf]);obtain⟨fs,k,n,K,G,rfl,L,H⟩:=hf;have go: ∀(r g:Nat),a.eval y=.pointer (some ⟨r,g,none⟩)->(execOp a.eval o).run P s.w=.ok (.value (.pointer (some ⟨r,g+k.offset,none⟩))) s.w:=by simp_all [Addr.add,execOp,Instr.fieldAt,run_underlying,Instr.sureAddr,fieldPlace,iW]
 generalize B:a.eval y=z at q;unfold NK at j;split at j<;>first|(injection j with j;subst j)|cases j
 cases q with
 |ptr _ _ r g m hb=>exact JR hi (go _ _ B) (by rw[ZP];exact .ptr _ _ r g m hb)
 cases q with
 |cp cs _ r g vals A v=>exact JR hi (go _ _ B) (by rw[ZP];exact .cp _ _ r g vals A v)
 cases q with
 |ep _ _ _ _ _ wm esz rows p0 A v I=>
  obtain⟨r,g,rfl⟩:=p0;refine JR hi (go _ _ B) (.ep _ _ _ _ _ wm esz rows ⟨_,_,rfl⟩ A v λM J=>?_);grind
 cases hc
theorem JO7(hi:Inv s)(he:bV s a.tmps env){x i}(h:(opR F (.extr x i) new).run ⟨env,s.σ⟩=some e)(hc:bD P (.extr x i) o.op=true):cA P o a s e:=by
 simp only[opR]at h;obtain⟨u,h1,n⟩:=bind_some h;obtain⟨r,g,rfl⟩:=hI n;clear h n;unfold bD at hc;simp only at hc;split at hc;rename_i y j k;simp only[aY,beq_iff_eq]at hc;obtain⟨C,rfl⟩:=hc;have q:=bR he h1 C;generalize B:a.eval y=z at q;unfold SL at g;split at g;cases q with
 |tup cs vs E A=>
  have D:=JD g;have w:vs[i]?=some vs[i]:=by simp
  exact JR hi (v:=vs[i]) (by simp[execOp,k,B,Instr.extract,w]) (A i r _ g w)
 cases g;cases hc
theorem JNj(hi:Inv s)(he:bV s a.tmps env){f first caps}(h:(opR F (.mkfn f first caps) new).run ⟨env,s.σ⟩=some e)(hc:bD P (.mkfn f first caps) o.op=true):cA P o a s e:=by
 simp only[opR]at h;obtain⟨u,h1,w⟩:=bind_some h;obtain⟨v,h2,j⟩:=bind_some w;simp only[RM.run]at j;injection j with j;subst j;clear h w;unfold bD at hc;simp only at hc;split at hc
 ·rename_i g k n D;simp only[aY,beq_iff_eq]at hc;obtain⟨⟨rfl,hf⟩,r⟩:=hc;obtain⟨y,z⟩:=ID he h1 hf;obtain⟨C,A⟩:=ID he h2 r;refine JR hi (v:=.func (.func f) (k.map a.eval) (n.map a.eval)) (by simp_all [execOp,Instr.makeFunc]) (.fn _ _ _ _ _ (by simpa using y) (by simpa using C) (λi x v q B=>z i x v q ?_) (λi x v q B=>A i x v q ?_))
  all_goals simp_all
 cases hc
theorem JRG(hi:Inv s)(he:bV s a.tmps env){mx x y}(h:(opR F (.mm mx x y) new).run ⟨env,s.σ⟩=some e)(hc:bD P (.mm mx x y) o.op=true):cA P o a s e:=by
 simp only[opR]at h;obtain⟨u,h1,w⟩:=bind_some h;obtain⟨v,h2,n⟩:=bind_some w;obtain⟨r,g,rfl⟩:=hI n;clear h w n;unfold bD at hc;simp only at hc;split at hc;rename_i c E;split at hc;rename_i b B;simp only[aY,beq_iff_eq]at hc;obtain⟨hb,hc⟩:=hc;split at hc;rename_i A z j;simp only[aY]at hc;have C:=bR he h1 hc.1;have D:=bR he h2 hc.2;have I:c.args.map a.eval= #[a.eval A,a.eval z]:=by apply ZN;simp[j]
 unfold mmP at g;split at g;rename_i k p k' q;injection g with g;subst g;have G:=jK C;have H:=jK D;cases mx;simp_all [JR,vU,execOp,resolve,invoke,builtin,Builtin.min_,Builtin.min2];simp_all [JR,vU,execOp,resolve,invoke,builtin,Builtin.max_,Builtin.max2];cases g;cases hc;cases hc;cases hc
theorem JOW(hi:Inv s)(he:bV s a.tmps env){str x}(h:(opR F (.len str x) new).run ⟨env,s.σ⟩=some e)(hc:bD P (.len str x) o.op=true):cA P o a s e:=by
 simp only[opR]at h;obtain⟨u,h1,D⟩:=bind_some h;obtain⟨r,g,rfl⟩:=hI D;clear h D;unfold bD at hc;simp only at hc;split at hc;rename_i c v;split at hc;rename_i k;split at hc;rename_i y t q B;simp only[aY]at hc;obtain⟨K,ht⟩:=hc;have C:=bR he h1 K;have I:c.args.map a.eval= #[a.eval y]:=by apply ZN;simp[q]
 have A:c.argTypes[0]?=some t:=by rw[<-Gp,B];rfl
 generalize H:a.eval y=z at C;have hs: ∀l:List UInt8,z=.string ⟨l.toArray⟩->lL P t=true->(execOp a.eval o).run P s.w=.ok (.value (.int .i64 l.length)) s.w:=by intro l hl j;have:=zG j;simp[execOp,v,resolve,k,I,H,hl,invoke,builtin,Builtin.len_,A,run_underlying this,goInt,vW]
 have L: ∀G n cp,z=.slice G n cp->(elT P t).isSome=true->(execOp a.eval o).run P s.w=.ok (.value (.int .i64 n)) s.w:=by intro G n cp hl j;obtain⟨el,E⟩:=qk.1 j;have:=jN E;simp[execOp,v,resolve,k,I,H,hl,invoke,builtin,Builtin.len_,A,run_underlying this,goInt]
 unfold LW at g;split at g<;>first|(injection g with g;subst g)|cases g
 grind [JR,vQ,vU];cases C with
 |p _ _ J=>cases J<;>simp_all [JR,vU]
 cases C<;>grind [JR,vU]
 cases hc;cases hc;cases hc
end
end Go.Am
end
section
namespace Go.Am
section
variable {P:Program} {F:Orc} {s:Sn} {a:Act} {env:List (Nat×AV)} {o:Oper} {new:Nat} {e:Eff}
theorem lJ.of_p{s:Sn}{esz rows v}(h:JK s (.p (.sl esz rows)) v):lJ s esz rows v:=by
 grind [of_sl,cases Go.Am.JK]
theorem zk(hi:Inv s){esz:Nat}{x:AV}{rows:List (List PV)}{v:Value}(h:(fX esz x).run ⟨env,s.σ⟩=some rows)(hr:JK s x v):
  (∃l,x=.p (.s l)/\esz=1/\rows=l.map nS/\v=.string ⟨l.toArray⟩)\/lJ s esz rows v:=by
 unfold fX at h;split at h;split at h;rename_i e;subst e;simp only[RM.run]at h;injection h with h;subst h;exact .inr (.of_p hr);cases h;grind [RM.run,vQ];simp only[RM.run]at h;split at h;rename_i blk hb;split at h;split at h;rename_i hc;obtain⟨rfl,hc⟩:=hc;simp only[RM.run]at h;injection h with h;subst h;exact .inr (.of_slr hi hr hb hc);cases h;cases h;cases h;cases h
theorem j6{α:Type}{esz:Nat}: ∀{rows:List (List α)},(∀row∈rows,row.length=esz)-> ∀{k:Nat} {x:α},rows.flatten[k]?=some x->
  ∃i j row,k=i*esz+j/\rows[i]?=some row/\row[j]?=some x/\j<esz
 |[],_,k,x,h=>by simp at h
 |r::rows,hl,k,x,h=>by
  simp only[vC]at h;have w:r.length=esz:=hl r (by simp);rcases List.getElem?_append (l₁:=r) (l₂:=rows.flatten) (i:=k)▸h with e;split at e;exact⟨0,k,r,by simp,rfl,e,by omega⟩;obtain⟨i,j,row,v,q,o,g⟩:=j6 (λrow n=>hl row (by simp[n])) e;exact⟨i+1,j,row,by grind,by simpa using q,o,g⟩
theorem VZ{α:Type}{esz:Nat}: ∀{rows:List (List α)},(∀row∈rows,row.length=esz)->rows.flatten.length=rows.length*esz
 |[],_=>by simp
 |r::rows,hl=>by
  have:=VZ (rows:=rows) (λrow e=>hl row (by simp[e]));grind
theorem lJ.cells{s:Sn}{esz rows v}(h:lJ s esz rows v):
  ∃(a:Option Addr) (cap:Nat) (vs:List Value),v=.slice a rows.length cap/\rows.length<=cap/\vs.length=rows.length*esz/\
   (∀(k:Nat) x,rows.flatten[k]?=some x-> ∃u,vs[k]?=some u/\J08 s.w s.g.C x u)/\
   (rows=[]\/ ∃r o,a=some ⟨r,o,none⟩/\ ∀(k:Nat) u,vs[k]?=some u->cellAt s.w r (o+k)=some u)/\(∀row∈rows,row.length=esz):=by
 obtain⟨a,cap,h1,h2,q,y⟩:=h;rcases y with rfl|⟨r,o,D,E⟩;simp_all;refine⟨a,cap,(List.range (rows.length*esz)).map λk=>(cellAt s.w r (o+k)).getD .nilFunc,h1,h2,by simp,λk x e=>?_,.inr ⟨r,o,D,λk u e=>?_⟩,q⟩;obtain⟨i,j,row,A,z,B,_⟩:=j6 q e;grind [VZ];have n:=JD e;simp at n;rw[iB,List.getElem?_range n]at e;simp at e;have:k<rows.flatten.length:=by grind [VZ]
 obtain⟨i,j,row,A,z,B,_⟩:=j6 q (bC this);grind
theorem Bg: ∀{rows:List (List PV)} {l:List UInt8},vX rows=some l-> ∃e:List Int,rows=e.map (λn=>[PV.i .u8 n])/\l=e.map λn=>UInt8.ofNat n.toNat
 |[],l,h=>by simp_all [vX]
 |row::rows,l,h=>by
  unfold vX at h;split at h;simp_all;rename_i n r j;injection j with e1 e2;subst e1 e2;split at h;rename_i l' g;injection h with h;subst h;obtain⟨e,h1,h2⟩:=Bg g;exact⟨n::e,by simp[h1],by simp[h2]⟩;cases h;cases h
theorem JFH(e:List Int): ∀b:ByteArray,(e.foldl (λr n=>r.push (UInt8.ofNat n.toNat)) b)=⟨b.data++(e.map λn=>UInt8.ofNat n.toNat).toArray⟩:=by
 induction e with
 |nil=>intro b;simp
 |cons n e ih=>simp_all
theorem IT(r o n:Nat):Addr.add ⟨r,o,none⟩ n=⟨r,o+n,none⟩:=by simp[Addr.add]
theorem xv{w:World}{r o:Nat}(vs:List Value)(h: ∀(k:Nat) u,vs[k]?=some u->cellAt w r (o+k)=some u):
  (loadCells ⟨r,o,none⟩ vs.length).run P w=.ok vs.toArray w:=
 run_loadCells_list w _ vs λj v e=>by grind [IT,vY]
theorem JO0(hi:Inv s)(he:bV s a.tmps env){k x}(hk: ∀own,k≠.toBytes own)(h:(opR F (.conv k x) new).run ⟨env,s.σ⟩=some e)(hc:bD P (.conv k x) o.op=true):cA P o a s e:=by
 simp only[opR]at h;obtain⟨u,h1,g⟩:=bind_some h;clear h;unfold bD at hc;simp only at hc;split at hc;rename_i Y dst y I;simp only[aY]at hc;obtain⟨V,ht⟩:=hc;have q:=bR he h1 V;generalize U:a.eval y=z at q;split at g;rename_i k' Z n;simp only[RM.run]at g;injection g with g;subst g;simp only[aY]at ht;obtain⟨ks,hs⟩:=JIs ht.1;have hd:=JHt ht.2;have:=jK q;simp_all [JR,execOp,convert,run_underlying,Conv.intToInt,vU];rename_i l;simp only[RM.run]at g;injection g with g;subst g;simp only[aY]at ht;have hs:=zG ht.1;have hd:=zG ht.2;have:=vQ q;simp_all [JR,execOp,convert,run_underlying];simp only[aY]at ht;obtain⟨ht,hd⟩:=ht;have hd:=zG hd;split at ht;rename_i el K;simp only[aY,beq_iff_eq]at ht;have hs:=jN K;have L:=xq ht.1;obtain⟨rows,N,A⟩:=bind_some g;clear g;split at A;rename_i l hl;simp only[RM.run]at A;injection A with A;subst A;rcases zk hi N q with⟨l',rfl,_,Q,H⟩|J
 
 have:=vQ q;subst this;have:l=l':=by
  have: ∀l:List UInt8,vX (l.map nS)=some l:=by
   intro l
   induction l with
   |nil=>rfl
   |cons b l ih=>simp[vX,nS,ih]
  simp_all
 simp_all [JR,execOp,convert,run_underlying];obtain⟨C,cap,vs,H,D,hlen,hrel,B,G⟩:=J.cells;obtain⟨j,O,rfl⟩:=Bg hl;have hvs:vs=j.map (Value.int .u8):=by
  apply zQ6;intro k;have W:rows.flatten=j.map (PV.i .u8):=by rw[O];clear O hl hrel hlen G B H D N q;induction j with|nil=>rfl|cons n j ih=>simp[ih]
  by_cases hk:k<j.length;obtain⟨u,hu,hp⟩:=hrel k (.i .u8 j[k]) (by simp_all);grind [cases Go.Am.J08];simp_all
 have R:rows.length=vs.length:=by omega
 subst H;have E:(Conv.bytesToString (.slice C rows.length cap)).run P s.w=.ok (.string ⟨(j.map λn=>UInt8.ofNat n.toNat).toArray⟩) s.w:=by
  rcases B with S|⟨r,T,rfl,hm⟩;have M:j=[]:=by simp_all
  subst M;cases C with
  |none=>simp[Conv.bytesToString];rfl
  |some C=>have:=run_bytesToString (P:=P) s.w C rows.length cap [] (by simp_all [loadCells,loadCellsFrom]);rw[this];rfl
  have:=run_bytesToString (P:=P) s.w ⟨r,T,none⟩ rows.length cap j (by grind [xv]);simp_all [JFH]
 refine JR hi (v:=.string ⟨(j.map λn=>UInt8.ofNat n.toNat).toArray⟩) ?_ (Oc _);simp[execOp,I,U,convert,run_underlying hs,run_underlying hd,run_underlying L,E];cases A;cases ht;simp_all;cases g;cases hc
end
end Go.Am
end
section
namespace Go.Am
theorem OG{α:Type}{cs l:List α}{off size:Nat}(h:sub cs off size=some l):l.length=size/\off+size<=cs.length/\ ∀(i:Nat),i<size->l[i]?=cs[off+i]?:=by
 grind [sub]
theorem OY: ∀{cs:List AV} {l:List PV},unp cs=some l->cs=l.map .p
 |[],l,h=>by grind [unp]
 |x::cs,l,h=>by
  unfold unp at h;split at h;simp_all;rename_i c r e;injection e with e1 e2;subst e1 e2;split at h;rename_i l' hl;injection h with h;subst h;simp[OY hl];cases h;cases h
section
variable {P:Program} {F:Orc} {s:Sn} {a:Act} {env:List (Nat×AV)} {o:Oper} {new:Nat} {e:Eff}
theorem io{agg:Bool}{l:List PV}{x:AV}{vs:List Value}(h:pS agg l=some x)(hl:l.length=vs.length)
  (hr: ∀(i:Nat) y v,l[i]?=some y->vs[i]?=some v->J08 s.w s.g.C y v):
  (agg=true/\JK s x (.agg vs.toArray))\/(agg=false/\ ∃v,vs=[v]/\JK s x v):=by
 cases agg with
 |true=>simp[pS]at h;subst h;exact .inl ⟨rfl,.data _ _ (by simpa using hl) λi y v j e=>hr i y v j (by simpa using e)⟩
 |false=>
  simp only[pS,fF,if_false]at h;split at h;injection h with h;subst h;obtain⟨v,rfl⟩: ∃v,vs=[v]:=cw.1 (by simp_all);exact .inr ⟨rfl,v,rfl,.p _ _ (hr 0 _ v rfl rfl)⟩;cases h
theorem UC{agg:Bool}{l:List AV}{x:AV}{vs:List Value}(h:lQ agg l=some x)(hl:l.length=vs.length)(h1: ∀v∈vs,v.oneCell'=true)
  (hr: ∀(i:Nat) y v,l[i]?=some y->vs[i]?=some v->JK s y v):
  (agg=true/\JK s x (.agg vs.toArray))\/(agg=false/\ ∃v,vs=[v]/\JK s x v):=by
 cases agg with
 |true=>
  simp only[lQ,if_true]at h;split at h;rename_i q j;injection h with h;subst h;have:=OY j;subst this;refine .inl ⟨rfl,.data _ _ (by simpa using hl) λi y v g e=>?_⟩;have:=hr i (.p y) v (by simp[g]) (by simpa using e);cases this<;>simp_all
  injection h with h;subst h;exact .inl ⟨rfl,.agg _ _ (by simpa using hl) (λi v e=>h1 v (by grind)) λi y v g e=>hr i y v g (by simpa using e)⟩
 |false=>
  simp only[lQ,fF,if_false]at h;split at h;injection h with h;subst h;obtain⟨v,rfl⟩: ∃v,vs=[v]:=cw.1 (by simp_all);exact .inr ⟨rfl,v,rfl,hr 0 _ v rfl rfl⟩;cases h
theorem yx{agg:Bool}{off size:Nat}{x r:AV}{v:Value}{t:TypeId}(h:sR agg off size x=some r)(hr:JK s x v)(ht:agT P t=some agg)(hs:szT P t=some size)
  (h1:agg=true\/size=1): ∃cs u,v=.agg cs/\(part t cs off).run P s.w=.ok u s.w/\JK s r u:=by
 have go: ∀(cs:Array Value) (vs:List Value),vs.length=size->(∀(i:Nat),i<size->vs[i]?=cs[off+i]?)->off+size<=cs.size->
   ((agg=true/\JK s r (.agg vs.toArray))\/(agg=false/\ ∃v,vs=[v]/\JK s r v))-> ∃u,(part t cs off).run P s.w=.ok u s.w/\JK s r u:=by
  intro cs vs j k B e;rcases e with⟨rfl,g⟩|⟨rfl,v,rfl,g⟩;refine⟨.agg (cs.extract off (off+size)),by simp_all [part,II,iW],?_⟩;have:cs.extract off (off+size)=vs.toArray:=(by grind);simp_all;simp at j;subst j;have n:=k 0 (by omega);simp at n;exact⟨v,by simp[part,II ht,<-n],g⟩
 unfold sR at h;split at h;rename_i cs;split at h;rename_i l hl;obtain⟨o,y,q⟩:=OG hl;cases hr with
 |data _ vs z A=>
  have e:=io (s:=s) (vs:=((vs.toList.drop off).take size)) h (by simp;omega) (by
   grind)
  grind
 cases h;rename_i cs;split at h;rename_i l hl;obtain⟨o,y,q⟩:=OG hl;cases hr with
 |agg _ vs z C A=>
  have e:=UC (s:=s) (vs:=((vs.toList.drop off).take size)) h (by simp;omega) (by
   grind [List.getElem?_of_mem]) (by
   grind)
  grind
 cases h;cases h
theorem JKN(hi:Inv s)(he:bV s a.tmps env){agg off size x}(h:(opR F (.field agg off size x) new).run ⟨env,s.σ⟩=some e)(hc:bD P (.field agg off size x) o.op=true):cA P o a s e:=by
 simp only[opR]at h;obtain⟨u,h1,g⟩:=bind_some h;obtain⟨r,w,rfl⟩:=hI g;clear h g;unfold bD at hc;simp only at hc;split at hc;rename_i t y f A;simp only[aY]at hc;obtain⟨z,ht⟩:=hc;split at ht;rename_i fs B;split at ht;rename_i D C;simp only[aY,beq_iff_eq]at ht;obtain⟨⟨⟨E,n⟩,k⟩,j⟩:=ht;obtain⟨cs,v,G,hp,q⟩:=yx w (bR he h1 z) k n (by simpa using j);exact JR hi (v:=v) (by simp_all [execOp,Instr.field,run_underlying,xf,asAgg]) q;cases ht;cases ht;cases hc
theorem JNl(hi:Inv s)(he:bV s a.tmps env){x i}(h:(opR F (.sidx x i) new).run ⟨env,s.σ⟩=some e)(hc:bD P (.sidx x i) o.op=true):cA P o a s e:=by
 simp only[opR]at h;obtain⟨u,h1,r⟩:=bind_some h;obtain⟨v,h2,g⟩:=bind_some r;clear h r;unfold bD at hc;simp only at hc;split at hc;rename_i t y j C;simp only[aY]at hc;obtain⟨⟨A,B⟩,ht⟩:=hc;have w:=bR he h1 A;have z:=bR he h2 B;split at g;rename_i l k n;split at g;rename_i H;split at g;rename_i b hb;simp only[RM.run]at g;injection g with g;subst g;have E:=vQ w;have G:=jK z;have D:(⟨l.toArray⟩:ByteArray)[n.toNat]?=some b:=by have q:=JD hb;rw[bC q]at hb;rw[getElem?_pos _ _ (by grind [vW])];injection hb with hb;rw[<-hb];rfl
 refine JR hi (v:=.int .u8 b.toNat) ?_ (vU _ _);simp_all [execOp,Instr.index,asIntOf,run_underlying,zG];cases g;cases g;cases g;cases hc
theorem JO2(hi:Inv s)(he:bV s a.tmps env){agg len esz x i}(h:(opR F (.aidx agg len esz x i) new).run ⟨env,s.σ⟩=some e)(hc:bD P (.aidx agg len esz x i) o.op=true):cA P o a s e:=by
 simp only[opR]at h;obtain⟨u,h1,A⟩:=bind_some h;obtain⟨v,h2,g⟩:=bind_some A;clear h A;unfold bD at hc;simp only at hc;split at hc;rename_i t y j q;simp only[aY]at hc;obtain⟨⟨K,M⟩,ht⟩:=hc;have E:=bR he h1 K;have G:=bR he h2 M;split at ht;rename_i n el z;simp only[aY,beq_iff_eq]at ht;obtain⟨⟨⟨rfl,B⟩,H⟩,C⟩:=ht;split at g;rename_i k m;split at g;rename_i L;obtain⟨r,J,rfl⟩:=hI g;obtain⟨cs,w,N,hp,I⟩:=yx J E H B (by simpa using C);have D:=jK G;exact JR hi (v:=w) (by simp[execOp,q,N,D,Instr.index,asIntOf,run_underlying (Pd z),L,iW B,hp]) I;cases g;cases g;cases ht;cases hc
theorem JLP(hi:Inv s)(he:bV s a.tmps env){len esz x i}(h:(opR F (.aaddr len esz x i) new).run ⟨env,s.σ⟩=some e)(hc:bD P (.aaddr len esz x i) o.op=true):cA P o a s e:=by
 simp only[opR]at h;obtain⟨u,h1,J⟩:=bind_some h;obtain⟨v,h2,C⟩:=bind_some J;obtain⟨r,g,rfl⟩:=hI C;clear h J C;unfold bD at hc;simp only at hc;split at hc;rename_i t y j H;simp only[aY]at hc;obtain⟨⟨O,R⟩,ht⟩:=hc;have B:=bR he h1 O;have M:=bR he h2 R;split at ht;rename_i n el I;simp only[aY,beq_iff_eq]at ht;obtain⟨rfl,N⟩:=ht;unfold NH at g;split at g;rename_i k m;split at g;rename_i Q;have K:=jK M;have go: ∀(r q:Nat),a.eval y=.pointer (some ⟨r,q,none⟩)->(execOp a.eval o).run P s.w=.ok (.value (.pointer (some ⟨r,q+m.toNat*esz,none⟩))) s.w:=by intro r q A;simp[execOp,H,A,K,Instr.indexAt,asIntOf,run_underlying (Pd I),Instr.sureAddr,Q,iW N,IT]
 generalize A:a.eval y=z at B;split at g<;>first|(injection g with g;subst g)|cases g
 cases B with
 |ptr _ _ r q L hb=>exact JR hi (go _ _ A) (by rw[ZP];exact .ptr _ _ r q L hb)
 cases B with
 |cp cs _ r q vals G D=>exact JR hi (go _ _ A) (by rw[ZP];exact .cp _ _ r q vals G D)
 cases B with
 |ep _ _ _ _ _ wm E rows p0 G D S=>
  obtain⟨r,q,rfl⟩:=p0;refine JR hi (go _ _ A) (.ep _ _ _ _ _ wm E rows ⟨_,_,rfl⟩ G D λU T=>?_);grind
 cases g;cases g;cases ht;cases hc
theorem JLu(hi:Inv s)(he:bV s a.tmps env){esz x i}(h:(opR F (.iaddr esz x i) new).run ⟨env,s.σ⟩=some e)(hc:bD P (.iaddr esz x i) o.op=true):cA P o a s e:=by
 simp only[opR]at h;obtain⟨u,h1,N⟩:=bind_some h;obtain⟨v,h2,g⟩:=bind_some N;clear h N;unfold bD at hc;simp only at hc;split at hc;rename_i t y j M;simp only[aY]at hc;obtain⟨⟨E,hj⟩,ht⟩:=hc;have G:=bR he h1 E;have S:=bR he h2 hj;split at ht;rename_i el O;simp only[beq_iff_eq]at ht;have go: ∀(r A len cap:Nat) k (m:Int),a.eval j=.int k m->a.eval y=.slice (some ⟨r,A,none⟩) len cap->0<=m->m<len->
   (execOp a.eval o).run P s.w=.ok (.value (.pointer (some ⟨r,A+m.toNat*esz,none⟩))) s.w:=by
  intro r A len cap k m C D Z I;simp[execOp,M,D,C,Instr.indexAt,asIntOf,run_underlying (jN O),Z,I,iW ht,IT]
 unfold nP at g;split at g;rename_i B rows k n;split at g;rename_i Q;subst Q;split at g;rename_i row q;simp only[RM.run]at g;injection g with g;subst g;unfold TI at q;split at q;rename_i L;have C:=jK S;generalize D:a.eval y=z at G;cases G with
 |p _ _ V=>
  cases V with
  |sl0 _ ad cap=>simp at q
  |sl _ _ r A cap vals p1 p2 T U=>have I:=JD q;refine JR hi (go r A _ cap k n C D L (by omega)) ?_;have:=JK.cp (s:=s) row 0 r (A+n.toNat*esz) (λj=>vals n.toNat j) (λj x E=>T n.toNat j row x q E) (λj x E=>U n.toNat j row x q E);simp_all
 cases q;cases g;cases g;rename_i b j' m k n;simp only[RM.run]at g;split at g;rename_i blk hb;split at g;rename_i wm B rows;split at g;rename_i K;obtain⟨rfl,R,L,a7⟩:=K;simp only[RM.run]at g;injection g with g;subst g;have C:=jK S;generalize D:a.eval y=z at G;cases G with
 |slr _ _ _ _ wm' B rows' q0 H q2 q3=>
  have J:s.σ[b]?=some (.arr wm esz rows):=hb;rw[J]at H;injection H with H;injection H with a1 a2 a3;subst a1 a2 a3;rcases q3 R with⟨_,_,a6,_⟩|⟨r,cap,c,e1,fz,Y,hv,W,hh,hs⟩;omega;subst hv;refine JR hi (go r _ _ cap k n C D L (by omega)) (.ep _ _ _ _ _ wm esz rows ⟨_,_,rfl⟩ J (zQ0 _) λ_ _=>⟨r,Y,?_⟩);grind
 cases g;cases g;cases g;cases g;cases ht;cases hc
end
end Go.Am
end
section
namespace Go.Am
theorem fH(a b:List (Nat×Blk))(σ:List Blk):upd (a++b) σ=upd b (upd a σ):=by simp[upd]
section
variable {P:Program} {F:Orc} {s:Sn} {a:Act} {env:List (Nat×AV)} {o:Oper} {new:Nat} {e:Eff}
theorem PH{e:List Blk}(hi:Inv s)(j:Frz e s.σ){b i n:Nat}{y:List PV×List (Nat×Blk)}{v:Value}(h:(fz (.slr b i n)).run ⟨env,e⟩=some y)(hr:JK s (.slr b i n) v):
  ∃g',Inv ⟨upd y.2 s.σ,g',s.w⟩/\bJ s ⟨upd y.2 s.σ,g',s.w⟩/\Frz s.σ (upd y.2 s.σ)/\ ∃c,y.1=[c]/\J08 s.w g'.C c v:=by
 simp only[fz,RM.run]at h;split at h;rename_i blk hb;split at h;rename_i wm esz rows;split at h;rename_i hc;simp only[RM.run]at h;injection h with h;subst h;obtain⟨wm',g⟩:=j.1 b _ _ _ hb;obtain⟨g',h1,h2,o,k⟩:=JJv hi hr g hc;exact⟨g',h1,h2,o,_,rfl,k⟩;cases h;cases h;cases h
theorem JMZ{e:List Blk}(hi:Inv s)(j:Frz e s.σ){x:AV}{y:List PV×List (Nat×Blk)}{v:Value}(h:(fz.fz1 x).run ⟨env,e⟩=some y)(hr:JK s x v):
  ∃g',Inv ⟨upd y.2 s.σ,g',s.w⟩/\bJ s ⟨upd y.2 s.σ,g',s.w⟩/\Frz s.σ (upd y.2 s.σ)/\ ∃c,y.1=[c]/\J08 s.w g'.C c v:=by
 cases x with
 |p c=>
  simp only[fz.fz1,RM.run]at h;injection h with h;subst h;cases hr with
  |p _ _ hr=>exact⟨s.g,hi,.refl s,.refl _,c,rfl,hr⟩
 |slr b i n=>exact PH hi j (by exact h) hr
 |_=>grind [fz.fz1,RM.run]
theorem Md{z:List Blk}: ∀{xs:List AV} {s:Sn} {y:List PV×List (Nat×Blk)} {vs:List Value},Inv s->Frz z s.σ->(fz.fzL xs).run ⟨env,z⟩=some y->xs.length=vs.length->
  (∀(i:Nat) x v,xs[i]?=some x->vs[i]?=some v->JK s x v)->
  ∃g',Inv ⟨upd y.2 s.σ,g',s.w⟩/\bJ s ⟨upd y.2 s.σ,g',s.w⟩/\Frz s.σ (upd y.2 s.σ)/\y.1.length=vs.length/\
   ∀(i:Nat) c v,y.1[i]?=some c->vs[i]?=some v->J08 s.w g'.C c v
 |[],s,y,vs,hi,e,h,hl,j=>by
  simp only[fz.fzL,RM.run]at h;injection h with h;subst h;exact⟨s.g,hi,.refl s,.refl _,by simpa using hl,λi c v hc=>by simp at hc⟩
 |x::xs,s,y,[],hi,e,h,hl,j=>by simp at hl
 |x::xs,s,y,v::vs,hi,e,h,hl,j=>by
  simp only[fz.fzL]at h;obtain⟨n,h1,h⟩:=bind_some h;obtain⟨F,h2,h⟩:=bind_some h;simp only[RM.run]at h;injection h with h;subst h;obtain⟨B,i1,r,q,c,hc,E⟩:=JMZ hi e h1 (j 0 x v rfl rfl);obtain⟨A,i2,o,D,I,K⟩:=Md (s:=⟨upd n.2 s.σ,B,s.w⟩) i1 (e.trans q) h2 (by simpa using hl) λi x v G H=>(j (i+1) x v (by simpa using G) (by simpa using H)).mono hi r;refine⟨A,by grind [fH],by rw[fH];exact r.trans o,by rw[fH];exact q.trans D,by simp[hc,I],λi c' J hc' k=>?_⟩;rw[hc]at hc';cases i with
  |zero=>simp at hc' k;subst hc' k;exact J08.mono (s0:=⟨upd n.2 s.σ,B,s.w⟩) (s:=⟨upd F.2 (upd n.2 s.σ),A,s.w⟩) i1 o E
  |succ i=>grind
theorem gi{k:List Blk}(hi:Inv s)(j:Frz k s.σ){x:AV}{y:List PV×List (Nat×Blk)}{v:Value}(h:(fz x).run ⟨env,k⟩=some y)(hr:JK s x v):
  ∃g',Inv ⟨upd y.2 s.σ,g',s.w⟩/\bJ s ⟨upd y.2 s.σ,g',s.w⟩/\Frz s.σ (upd y.2 s.σ)/\y.1.length=v.cells.size/\
   ∀(i:Nat) c u,y.1[i]?=some c->v.cells[i]?=some u->J08 s.w g'.C c u:=by
 cases x with
 |p c=>
  simp only[fz,RM.run]at h;injection h with h;subst h;cases hr with
  |p _ _ hr=>
   refine⟨s.g,hi,.refl s,.refl _,by rw[hr.cells1];rfl,λi c' u hc e=>?_⟩;rw[hr.cells1]at e;grind
 |data cs=>
  simp only[fz,RM.run]at h;injection h with h;subst h;cases hr with
  |data _ vs h1 h2=>exact⟨s.g,hi,.refl s,.refl _,h1,λi c u hc e=>h2 i c u hc e⟩
 |slr b i n=>
  obtain⟨g',h1,h2,q,c,hc,o⟩:=PH hi j h hr;refine⟨g',h1,h2,q,by rw[hc,o.cells1];rfl,λi c' u hc' e=>?_⟩;rw[o.cells1]at e;grind
 |agg cs=>
  simp only[fz]at h;cases hr with
  |agg _ vs h1 G h2=>
   obtain⟨g',A,E,B,F,D⟩:=Md (vs:=vs.toList) hi j h (by simpa using h1) λi x v r z=>h2 i x v r (by simpa using z);grind [Value.cells]
 |_=>grind [fz,RM.run]
theorem IG(he:bV s a.tmps env){x:Option Opd}{y:Option Operand}{v:Option AV}(h:(evo x).run ⟨env,s.σ⟩=some v)(hc:yI x y=true):
  (v=none/\y=none)\/ ∃u q,v=some u/\y=some q/\JK s u (a.eval q):=by
 cases x with
 |none=>
  grind [evo,RM.run,yI]
 |some x=>
  cases y with
  |none=>grind [yI]
  |some y=>
   simp only[evo]at h;obtain⟨u,h1,h⟩:=bind_some h;simp only[RM.run]at h;injection h with h;subst h;exact .inr ⟨u,y,rfl,rfl,bR he h1 hc⟩
theorem WS{x:AV}{top n j:Nat}{v:Value}(h:pQ (some x) top j=some n)(hr:JK s x v)(g:Nat)(o:top<=g)(k:BoundsCode)(w:World):
  (Instr.sliceBound v g k).run P w=.ok n w/\n<=top:=by
 unfold pQ at h;split at h;simp_all;rename_i e;injection e with e;subst e;split at h;rename_i hc;injection h with h;subst h;have:=jK hr;grind [Instr.sliceBound,asIntOf,Sem.run_pure];cases h;cases h
theorem JJl{n:Nat}{lo hi:Option AV}{c:Nat×Nat}(h:sI n lo hi=some c):pQ hi n n=some c.2/\pQ lo c.2 0=some c.1:=by
 grind [sI]
theorem XE(he:bV s a.tmps env){lo hi:Option Opd}{lo' hi':Option Operand}{l h:Option AV}{len cap:Nat}{c:Nat×Nat}{isSlice:Bool}
  (h1:(evo lo).run ⟨env,s.σ⟩=some l) (h2:(evo hi).run ⟨env,s.σ⟩=some h) (r:yI lo lo'=true) (z:yI hi hi'=true)
  (hc:sI len l h=some c) (n:len<=cap) (w:World):
  (Instr.sliceBounds isSlice len cap (lo'.map a.eval) (hi'.map a.eval) none).run P w=.ok (c.1,c.2,cap) w/\c.1<=c.2/\c.2<=len:=by
 obtain⟨k,e⟩:=JJl hc;obtain⟨i,j⟩:=c;rcases IG he h2 z with⟨rfl,rfl⟩|⟨u,q,rfl,rfl,x⟩;simp[pQ]at k;subst k;rcases IG he h1 r with⟨rfl,rfl⟩|⟨y,q',rfl,rfl,g⟩;simp[pQ]at e;subst e;simp[Instr.sliceBounds];obtain⟨o,v⟩:=WS (P:=P) e g len (zQ0 _) .sliceB w;simp_all [Instr.sliceBounds];rcases IG he h1 r with⟨rfl,rfl⟩|⟨y,q',rfl,rfl,g⟩;obtain⟨o,v⟩:=WS (P:=P) k x cap n (if isSlice then .sliceAcap else .sliceAlen) w;simp[pQ]at e;subst e;simp_all [Instr.sliceBounds];obtain⟨o,v⟩:=WS (P:=P) k x cap n (if isSlice then .sliceAcap else .sliceAlen) w;obtain⟨A,B⟩:=WS (P:=P) e g j (zQ0 _) .sliceB w;simp_all [Instr.sliceBounds]
theorem Lj{esz:Nat}{rows:List (List PV)}{v:Value}{i j:Nat}(h:J08 s.w s.g.C (.sl esz rows) v)(hij:i<=j)(hj:j<=rows.length):
  ∃e cap,v=.slice e rows.length cap/\rows.length<=cap/\
   J08 s.w s.g.C (.sl esz ((rows.drop i).take (j-i))) (.slice (if cap=i then e else e.map (·.add (i*esz))) (j-i) (cap-i)):=by
 have hlen:((rows.drop i).take (j-i)).length=j-i:=by simp;omega
 cases h with
 |sl0 _ e cap=>
  have n:j=0:=by simpa using hj
  have hi':i=0:=by omega
  subst n hi';refine⟨e,cap,rfl,zQ2 _,?_⟩;simpa using J08.sl0 (w:=s.w) (C:=s.g.C) esz _ _
 |sl _ _ r o cap vals z y F G=>
  refine⟨_,cap,rfl,z,?_⟩;by_cases q:cap=i;have A:j-i=0:=by omega
  rw[A];simpa using J08.sl0 (w:=s.w) (C:=s.g.C) esz _ _;rw[if_neg q];have:=J08.sl (w:=s.w) (C:=s.g.C) esz ((rows.drop i).take (j-i)) r (o+i*esz) (cap-i) (λk m=>vals (i+k) m) (by omega)
   (λrow D=>y row (zQ7 (pt D)))
   (λk m row x B E=>by
    grind)
   (λk m row x B E=>by
    grind)
  grind [IT]
def CH(k:SK)(x:AV)(lo hi:Option AV):Option AV:=
 match k with
 | .str=>yU x lo hi
 | .sl esz=>yR esz x lo hi
theorem L7(hi:Inv s){k:SK}{t:TypeId}{y:Operand}{A z:Option Operand}{q:Operand}{c:PV}{l hh:Option AV}{u r:AV}{g':Gh}{ws:List (Nat×Blk)}
  (D:o.op=.slice t y A z (some q)) (ht:(match k with
   | .str=>lL P t
   | .sl esz=>(match elT P t with|some e=>szT P e==some esz|none=>false))=true)
  (hl:l=none->A=none) (F: ∀G,hh=some G-> ∃q',z=some q'/\JK s G (a.eval q')) (hu:JK s u (a.eval q))
  (hs:lN k (.p c) l hh (some u)=some r) (hi':Inv ⟨upd ws s.σ,g',s.w⟩) (t':bJ s ⟨upd ws s.σ,g',s.w⟩) (hr:J08 s.w g'.C c (a.eval y)):cA P o a s ⟨r,ws⟩:=by
 cases k with
 |str=>grind [lN]
 |sl esz=>
  simp only[lN]at hs;unfold SH at hs;split at hs;rename_i M rows N h1 Q R h;injection h with h;subst h;split at hs;rename_i hc;obtain⟨rfl,rfl,rfl⟩:=hc;injection hs with hs;subst hs;obtain⟨q',rfl,B⟩:=F _ rfl;obtain rfl:=hl rfl;have U:=jK B;have T:=jK hu;simp only at ht;split at ht;rename_i el E;simp only[beq_iff_eq]at ht;obtain⟨g,cap,H,L,hrel⟩:=Lj (s:=⟨s.σ,g',s.w⟩) (i:=0) (j:=rows.length) hr (zQ2 _) (zQ0 _);have hb: ∀w:World,(Instr.sliceBounds true rows.length cap none (some (a.eval q')) (some (a.eval q))).run P w=.ok (0,rows.length,rows.length) w:=by simp_all [Instr.sliceBounds,Instr.sliceBound,asIntOf]
  have n:J08 s.w g'.C (.slc esz rows) (.slice g rows.length rows.length):=by
   refine .slc esz rows g ?_;rw[H]at hr;cases hr with
   |sl0=>exact .sl0 _ _ _
   |sl _ _ r o cap vals O K I J=>exact .sl esz rows r o rows.length vals (zQ0 _) K I J
  refine hJ (e:=⟨_,ws⟩) (w':=s.w) (g':=g') (v:=.slice g rows.length rows.length) ?_ hi' t' (.p _ _ n);have S:(if rows.length=0 then g else g.map λx=>x.add (0*esz))=g:=by simp[Addr.add]
  simp only[execOp,D,H];simp[Instr.sliceAt,Instr.slice,run_underlying (jN E),hb,iW ht];simp_all;cases ht;cases hs;cases hs
theorem JKt(hi:Inv s)(he:bV s a.tmps env){k x lo hi' mx}(h:(opR F (.slice k x lo hi' mx) new).run ⟨env,s.σ⟩=some e)(hc:bD P (.slice k x lo hi' mx) o.op=true):cA P o a s e:=by
 simp only[opR]at h;obtain⟨u,h1,h⟩:=bind_some h;obtain⟨l,h2,h⟩:=bind_some h;obtain⟨B,N,h⟩:=bind_some h;obtain⟨m,h4,h⟩:=bind_some h;unfold bD at hc;simp only at hc;split at hc
 ·rename_i t y U S aa A;simp only[aY]at hc;obtain⟨⟨⟨⟨hx,M⟩,L⟩,c3⟩,ht⟩:=hc;have j:=bR he h1 hx;rcases IG he h4 c3 with⟨rfl,rfl⟩|⟨um,qm,rfl,rfl,I⟩
  case inr=>
   have E:l=none->U=none:=(by grind [IG]);have H: ∀Z,B=some Z-> ∃q',S=some q'/\JK s Z (a.eval q'):=(by grind [IG]);split at h;rename_i b i n;obtain⟨y',O,h⟩:=bind_some h;obtain⟨g',i1,Y,f1,c,J,T⟩:=PH hi (.refl _) O j;split at h;rename_i c' hc';rw[J]at hc';injection hc' with hc';subst hc';split at h;rename_i r q;simp only[RM.run]at h;injection h with h;subst h;exact L7 hi A ht E H I q i1 Y T;cases h;cases h;rename_i x' R;obtain⟨r,q,rfl⟩:=hI h;cases u with
   |p c=>
    cases j with
    |p _ _ j=>exact L7 (ws:=[]) (g':=s.g) hi A ht E H I q hi (.refl s) j
   |_=>grind [lN,SH]
  have v: ∀{c:AV} {r},lN k c l B none=some r->(none:Option Operand)=none/\CH k c l B=some r:=by intro c r hs;exact⟨rfl,hs⟩
  have Q: ∀{b:List UInt8} {r},lN k (.p (.s b)) l B none=some r->a.eval y=.string ⟨b.toArray⟩->cA P o a s ⟨r,[]⟩:=by
   intro b r hs hz;obtain⟨_,D⟩:=v hs;clear hs;have hs:=D;clear D;cases k with
   |sl esz=>grind [CH,yR]
   |str=>
    simp only[CH,yU]at hs;split at hs;rename_i c hc;injection hs with hs;subst hs;have a8:=zG ht;obtain⟨hb,hij,a7⟩:=XE (P:=P) (isSlice:=false) (cap:=b.length) he h2 N M L hc (zQ0 _) s.w;have a9:(⟨b.toArray⟩:ByteArray).extract c.1 c.2=⟨((b.drop c.1).take (c.2-c.1)).toArray⟩:=by apply ByteArray.ext;simp_all
    simp_all [JR,Oc,execOp,Instr.sliceAt,Instr.slice,run_underlying,vW];cases hs
  have z: ∀{s':Sn} {ws} {esz rows r} {g'},s'=⟨upd ws s.σ,g',s.w⟩->Inv s'->bJ s s'->lN k (.p (.sl esz rows)) l B none=some r->J08 s'.w s'.g.C (.sl esz rows) (a.eval y)->cA P o a s ⟨r,ws⟩:=by
   intro s' ws esz rows r g' hs' hi' t' hs q;obtain⟨_,D⟩:=v hs;clear hs;have hs:=D;clear D;cases k with
   |str=>grind [CH,yU]
   |sl ez=>
    simp only[CH,yR]at hs;split at hs;rename_i W;subst W;split at hs;rename_i c hc;injection hs with hs;subst hs;simp only at ht;split at ht;rename_i el V;simp only[beq_iff_eq]at ht;have G:=XE (P:=P) (isSlice:=true) he h2 N M L hc (zQ0 _) s.w;obtain⟨ad,cap,hv,K,hrel⟩:=Lj q G.2.1 G.2.2;obtain⟨hb,_,_⟩:=XE (P:=P) (isSlice:=true) he h2 N M L hc K s.w;subst hs';refine hJ (e:=⟨_,ws⟩) (w':=s.w) (g':=g') ?_ hi' t' (.p _ _ hrel);simp only[execOp,A,hv];simp[Instr.sliceAt,Instr.slice,run_underlying (jN V),hb,iW ht];cases ht;cases hs;cases hs
  split at h;rename_i b i n;obtain⟨y',O,h⟩:=bind_some h;obtain⟨g',i1,Y,f1,c,J,T⟩:=PH hi (.refl _) O j;grind [RM.run,fz];rename_i x' R;obtain⟨r,q,rfl⟩:=hI h;cases u with
  |p c=>
   cases c with
   |s b=>grind [vQ]
   |sl esz rows=>cases j with|p _ _ j=>exact z (s':=s) (ws:=[]) (g':=s.g) rfl hi (.refl s) q j
   |_=>grind [CH,yU,yR]
  |slr b i n=>simp_all
  |_=>grind [CH,yU,yR]
 cases hc
end
end Go.Am
end
section
namespace Go.Am
section
variable {P:Program} {F:Orc} {s:Sn} {a:Act} {env:List (Nat×AV)} {o:Oper} {new:Nat} {e:Eff}
theorem zd(hi:Inv s){agg:Bool}{size:Nat}{x:AV}{v:Value}(h:(gY agg size x).run ⟨env,s.σ⟩=some e)(hr:JK s x v):
  ∃r o vs,v=.pointer (some ⟨r,o,none⟩)/\vs.length=size/\(∀(k:Nat) u,vs[k]?=some u->cellAt s.w r (o+k)=some u)/\e.ws=[]/\
   ((agg=true/\JK s e.val (.agg vs.toArray))\/(agg=false/\ ∃u,vs=[u]/\JK s e.val u)):=by
 unfold gY at h;split at h;rename_i cs off;split at h;rename_i l hl;obtain⟨r',z,rfl⟩:=hI h;obtain⟨n,H,G⟩:=OG hl;cases hr with
 |cp _ _ r o vals q L=>
  have O: ∀(i:Nat) y u,l[i]?=some y->((List.range size).map λi=>vals (off+i))[i]?=some u->J08 s.w s.g.C y u:=(by grind);refine⟨r,o+off,(List.range size).map λi=>vals (off+i),rfl,by simp,λk u B=>?_,rfl,io z (by simp[n]) O⟩;grind
 cases h
 ·rename_i b off;simp only[RM.run]at h;split at h
  ·rename_i blk hb;split at h
   ·rename_i cs;split at h
    ·rename_i l hl;obtain⟨r',z,rfl⟩:=hI h;obtain⟨n,H,G⟩:=OG hl;cases hr with
     |ptr _ _ r o m U=>
      obtain⟨N,W,c,S,fz,j,Q,I,R,hf⟩:=hi.box b cs hb;rw[m]at j;injection j with j;injection j with m1 m2;subst m1 m2;have A: ∀k,k<size-> ∃u,c[o+(off+k)]?=some u/\u.oneCell'=true/\ ∀y,l[k]?=some y->JK s y u:=(by grind);refine⟨r,o+off,(List.range size).map λi=>(c[o+(off+i)]?).getD .nilFunc,rfl,by simp,λk u B=>?_,rfl,UC z (by simp[n]) (λv J=>?_) λi y u P B=>?_⟩
      all_goals grind [lS]
    cases h
   cases h
  cases h
 ·rename_i b ext i off;simp only[RM.run]at h;split at h
  ·rename_i blk hb;split at h
   ·rename_i wm esz rows;split at h
    ·rename_i F;split at h
     ·rename_i row E;split at h
      ·rename_i l hl;obtain⟨r',z,rfl⟩:=hI h;obtain⟨n,H,G⟩:=OG hl;have D:s.σ[b]?=some (.arr wm esz rows):=hb;cases hr with
       |ep _ _ _ _ _ wm' M rows' p0 q L K=>
        rw[D]at q;injection q with q;injection q with a1 a2 a3;subst a1 a2 a3;have T:=JD E;obtain⟨r,m,J⟩:=K F (by omega);rcases hi.arr b _ _ _ D with⟨j,_⟩|⟨N,c,S,fz,j,Q,V,I,R,hf⟩;simp_all
        ·rw[m]at j;injection j with j;injection j with m1 _;subst m1
         have A: ∀k,k<size-> ∃u,c[i*esz+(off+k)]?=some u/\ ∀y,l[k]?=some y->J08 s.w s.g.C y u:=(by grind);refine⟨r,i*esz+off,(List.range size).map λk=>(c[i*esz+(off+k)]?).getD .nilFunc,J,by simp,λk u B=>?_,rfl,io z (by simp[n]) λk y u P B=>?_⟩
         all_goals grind [lS]
      cases h
     cases h
    cases h
   cases h
  cases h
 cases h
theorem As{t:TypeId}{agg:Bool}{size:Nat}(ht:agT P t=some agg)(hs:szT P t=some size){r o:Nat}{vs:List Value}{w:World}(hl:vs.length=size)
  (h: ∀(k:Nat) u,vs[k]?=some u->cellAt w r (o+k)=some u):
  (agg=true->(loadVar t ⟨r,o,none⟩).run P w=.ok (.agg vs.toArray) w)/\(agg=false-> ∀u,vs=[u]->(loadVar t ⟨r,o,none⟩).run P w=.ok u w):=by
 constructor;rintro rfl;subst hl;simp_all [loadVar,II,iW,xv];rintro rfl u rfl;have:=h 0 u rfl;simp_all [loadVar,II,vY]
theorem JOd(hi:Inv s)(he:bV s a.tmps env){agg size x}(h:(opR F (.load agg size x) new).run ⟨env,s.σ⟩=some e)(hc:bD P (.load agg size x) o.op=true):cA P o a s e:=by
 simp only[opR]at h;obtain⟨u,h1,n⟩:=bind_some h;clear h;unfold bD at hc;simp only at hc;split at hc
 ·rename_i t y z;simp only[aY,beq_iff_eq]at hc;obtain⟨⟨⟨ht,hs⟩,w⟩,B⟩:=hc;obtain⟨r,D,vs,G,hl,g,j,k⟩:=zd hi n (bR he h1 w);obtain⟨A,E⟩:=As (P:=P) ht hs hl g;obtain⟨ev,C⟩:=e;simp only at j k;subst j;rcases k with⟨rfl,v⟩|⟨rfl,q,rfl,v⟩
  all_goals simp_all [JR,execOp,Instr.loadAt,Instr.sureAddr]
 cases hc
theorem XO{x:AV}{l:List AV}{v:Value}(h:cellsOf x=some l)(hr:JK s x v):
  l.length=v.cells.size/\(∀u∈v.cells.toList,u.oneCell'=true)/\ ∀(i:Nat) y u,l[i]?=some y->v.cells[i]?=some u->JK s y u:=by
 have e: ∀{z:AV},JK s z v->v.cells= #[v]->v.oneCell'=true->l=[z]->l.length=v.cells.size/\(∀u∈v.cells.toList,u.oneCell'=true)/\ ∀(i:Nat) y u,l[i]?=some y->v.cells[i]?=some u->JK s y u:=(by grind);cases hr with
 |p c _ hp=>simp[cellsOf]at h;exact e (.p _ _ hp) hp.cells1 hp.one h.symm
 |data cs vs h1 h2=>
  simp[cellsOf]at h;subst h;refine⟨by grind [Value.cells],λu w=>?_,λi y u q w=>?_⟩;obtain⟨i,hi⟩:=jY w;have hi:vs[i]?=some u:=by grind [Value.cells]
  have E:=XC hi;exact(h2 i cs[i] u (by simp_all) hi).one;rw[iB]at q;cases hcs:cs[i]? with
  |none=>simp_all
  |some c=>simp[hcs]at q;subst q;exact .p _ _ (h2 i c u hcs w)
 |agg cs vs h1 F h2=>
  grind [cellsOf,Value.cells,List.getElem?_of_mem]
 |tup=>grind [cellsOf]
 |unk=>grind [cellsOf]
 |pre=>simp[cellsOf]at h
 |ptr b off r o m hb=>simp[cellsOf]at h;exact e (.ptr b off r o m hb) rfl rfl h.symm
 |cp cs off r o vals j g=>simp[cellsOf]at h;exact e (.cp cs off r o vals j g) rfl rfl h.symm
 |slr b i n _ wm esz rows p0 j g k=>obtain⟨A,cap,rfl,D⟩:=p0;simp[cellsOf]at h;exact e (.slr b i n _ wm esz rows ⟨A,cap,rfl,D⟩ j g k) rfl rfl h.symm
 |ep b ext i off _ wm esz rows p0 j g k=>obtain⟨r,o,rfl⟩:=p0;simp[cellsOf]at h;exact e (.ep b ext i off _ wm esz rows ⟨r,o,rfl⟩ j g k) rfl rfl h.symm
 |fn f first caps fs cs h1 h2 C B=>simp[cellsOf]at h;exact e (.fn f first caps fs cs h1 h2 C B) rfl rfl h.symm
theorem JP1(hi:Inv s)(he:bV s a.tmps env)(hn:s.σ[new]?=some .dead){size x}(h:(opR F (.box size x) new).run ⟨env,s.σ⟩=some e)(hc:bD P (.box size x) o.op=true):cA P o a s e:=by
 simp only[opR]at h;obtain⟨u,h1,g⟩:=bind_some h;clear h;unfold bD at hc;simp only at hc;split at hc;rename_i t y B;have z:=bR he h1 hc;split at g;rename_i cs hcs;split at g;cases g;obtain⟨C,q,n⟩:=XO hcs z;obtain⟨r,t'⟩:=VD hi hn (blk:=.box cs) (c:=(a.eval y).cells) (e:=t) (fz:=(0,0)) (w':={s.w with heap:=s.w.heap.push (.cells (a.eval y).cells t)}) rfl rfl rfl
  (λo _ _ h=>by simp at h) (λ_ _ _ h=>by cases h) ⟨by omega,λi x j=>by
   have A:=JD j;have k:i<(a.eval y).cells.size:=by omega
   exact⟨(a.eval y).cells[i],by simp,n i x _ j (by simp),q _ (by simp)⟩⟩
 refine hJ (e:=⟨.ptr new 0,[(new,.box cs)]⟩) (v:=.pointer (some ⟨s.w.heap.size,0,none⟩)) ?_ r t' (.ptr new 0 _ 0 (if_pos rfl) ⟨cs,kP hn⟩);simp_all [execOp,Instr.box,newVar,newRow];cases g;cases g;cases hc
theorem DD{zero:List PV}{t:TypeId}(h:oV P zero t=true): ∃v,zeT P t=some v/\zero.length=v.cells.size/\
  ∀{w C} (i:Nat) x u,zero[i]?=some x->v.cells[i]?=some u->J08 w C x u:=by
 unfold oV at h;split at h;rename_i v e;refine⟨v,e,?_,λi x u j g=>?_⟩;simpa using(WB (w:=default) (C:=λ_ _=>True) h).1;exact(WB h).2 i x u j (by simpa using g);cases h
theorem IQ{t:TypeId}{v:Value}(h:zeT P t=some v)(w:World):(zeroValue t).run P w=.ok v w:=by unfold zeT at h;cases hi:P.info? t<;>simp_all [zeroValue,Br]
theorem JIU(hi:Inv s)(hn:s.σ[new]?=some .dead){zero}(h:(opR F (.newbox zero) new).run ⟨env,s.σ⟩=some e)(hc:bD P (.newbox zero) o.op=true):cA P o a s e:=by
 simp only[opR,RM.run]at h;cases h;unfold bD at hc;simp only at hc;split at hc;rename_i t y;obtain⟨v,z,hl,q⟩:=DD hc;obtain⟨n,t'⟩:=VD hi hn (blk:=.box (zero.map .p)) (c:=v.cells) (e:=t) (fz:=(0,0)) (w':={s.w with heap:=s.w.heap.push (.cells v.cells t)}) rfl rfl rfl
  (λo _ _ h=>by simp at h) (λ_ _ _ h=>by cases h) ⟨by simp[hl],λi x j=>by
   rw[iB]at j;cases hz:zero[i]? with
   |none=>simp[hz]at j
   |some c=>
    simp[hz]at j;subst j;have r:=JD hz;have k:i<v.cells.size:=by omega
    have:=q (w:=s.w) (C:=s.g.C) i c v.cells[i] hz (by simp);exact⟨v.cells[i],by simp,.p _ _ this,this.one⟩⟩
 refine hJ (e:=⟨.ptr new 0,[(new,.box (zero.map .p))]⟩) (v:=.pointer (some ⟨s.w.heap.size,0,none⟩)) ?_ n t' (.ptr new 0 _ 0 (if_pos rfl) ⟨_,kP hn⟩);simp_all [execOp,Instr.alloc,IQ,newVar,newRow];cases hc
theorem JKu(hi:Inv s)(hn:s.σ[new]?=some .dead){esz x}(h:(opR F (.mkarr esz x) new).run ⟨env,s.σ⟩=some e)(hc:bD P (.mkarr esz x) o.op=true):cA P o a s e:=by
 simp only[opR,RM.run]at h;cases h;obtain⟨k,t'⟩:=VI hi hn esz;have hrel:JK ⟨s.σ.set new (.arr true esz []),fM s.g new none,s.w⟩ (.slr new 0 0) (.slice none 0 0):=
  .slr new 0 0 _ true esz [] ⟨none,0,rfl,.inl rfl⟩ (kP hn) (zQ0 _) λ_=>.inl ⟨if_pos rfl,rfl,rfl,rfl⟩
 unfold bD at hc;simp only at hc;split at hc;rename_i j;exact hJ (e:=⟨.slr new 0 0,[(new,.arr true esz [])]⟩) (v:=.slice none 0 0) (by simp only[execOp,j];rfl) k t' hrel;rename_i j;exact hJ (e:=⟨.slr new 0 0,[(new,.arr true esz [])]⟩) (v:=.slice none 0 0) (by simp only[execOp,j];rfl) k t' hrel;cases hc
theorem UT{α:Type}{cs vs cs':List α}{off:Nat}(h:spl cs off vs=some cs'):cs'.length=cs.length/\off+vs.length<=cs.length/\
  (∀(i:Nat),i<vs.length->cs'[off+i]?=vs[i]?)/\ ∀k,(k<off\/off+vs.length<=k)->cs'[k]?=cs[k]?:=by
 unfold spl at h;split at h;simp_all
 ·split at h
  ·rename_i hc;cases h;refine⟨by simp;omega,hc,λi hi=>?_,λk e=>?_⟩
   all_goals grind
  cases h
theorem JFS{w:World}{r o:Nat}{vs:List Value}{c:Array Value}{et:TypeId}{fz:Nat×Nat}(hh:w.heap[r]?=some (.cells c et fz))(hl:o+vs.length<=c.size)
  (hf:GV fz o (o+vs.length)) (h1: ∀v∈vs,v.oneCell'=true):(storeCells ⟨r,o,none⟩ vs).run P w=.ok () (w.setCells r o vs):=by
 have:=run_storeCells_cells (P:=P) r o vs 0 w
  (λj e=>by rw[vY,lS hh];simp;omega)
  (λj e=>by
   have:=hf (o+0+j) (by omega) (by omega);grind [World.frozen?]) h1
 simp_all
theorem m6{t:TypeId}{v:Value}{w:World}{r o:Nat}{c:Array Value}{et:TypeId}{fz:Nat×Nat}(hs:szT P t=some v.cells.size)(hh:w.heap[r]?=some (.cells c et fz))(hl:o+v.cells.size<=c.size)
  (hf:GV fz o (o+v.cells.size)) (h1: ∀u∈v.cells.toList,u.oneCell'=true):(storeVar t ⟨r,o,none⟩ v).run P w=.ok () (w.setCells r o v.cells.toList):=by
 have:=JFS (P:=P) (vs:=v.cells.toList) hh (by simpa using hl) (by simpa using hf) h1;simp_all [storeVar,iW]
theorem kz{o:Oper}{e:Eff}{w':World}{g':Gh}(hr:(execOp a.eval o).run P s.w=.ok .skip w')(g:e.val=hE)
  (hi:Inv ⟨upd e.ws s.σ,g',w'⟩) (t:bJ s ⟨upd e.ws s.σ,g',w'⟩):cA P o a s e:=by
 intro next Q h;simp only[Oper.wp,hr,Oper.upon];exact h undef w' g' hi t (by rw[g];exact .tup _ _ rfl λi x v h=>by simp at h)
theorem Ko{b:Nat}: ∀{ws:List (Nat×Blk)} {σ:List Blk},(ws.all λy=>y.1 !=b)=true->(upd ws σ)[b]?=σ[b]?
 |[],_,_=>rfl
 |y::ws,σ,h=>by simp only[List.all_cons,aY,bne_iff_ne]at h;show(upd ws (σ.set y.1 y.2))[b]?=_;rw[Ko h.2,tK h.1]
theorem JLe(hi:Inv s)(he:bV s a.tmps env){size x y}(h:(opR F (.store size x y) new).run ⟨env,s.σ⟩=some e)(hc:bD P (.store size x y) o.op=true):cA P o a s e:=by
 simp only[opR]at h;obtain⟨u,h1,h'⟩:=bind_some h;obtain⟨v,h2,g⟩:=bind_some h';clear h h';unfold bD at hc;simp only at hc;split at hc;rename_i t x' n bz;simp only[aY,beq_iff_eq]at hc;obtain⟨⟨hs,hx⟩,hy⟩:=hc;have rx:=bR he h1 hx;have ry:=bR he h2 hy;have Z: ∀{r K:Nat} {w':World},a.eval x'=.pointer (some ⟨r,K,none⟩)->(storeVar t ⟨r,K,none⟩ (a.eval n)).run P s.w=.ok () w'->(execOp a.eval o).run P s.w=.ok .skip w':=by simp_all [execOp,Instr.storeAt,Instr.sureAddr]
 unfold iV at g;split at g;rename_i b off;simp only[RM.run]at g;split at g;rename_i blk hb;split at g;rename_i cs;split at g;rename_i l hl;split at g;rename_i ak;split at g;rename_i cs' a7;cases g;have hb:s.σ[b]?=some (.box cs):=hb;generalize hz:a.eval x'=z at rx;cases rx with
 |ptr _ _ r K m bt=>
  obtain⟨k1,k2,k3⟩:=XO hl ry;obtain⟨j1,j2,j3,j4⟩:=UT a7;obtain⟨r1,o1,c,D,fz,C,R,ap,Y,hf⟩:=hi.box b cs hb;rw[m]at C;injection C with C;injection C with m1 m2;subst m1 m2;have B:=PX (vs:=(a.eval n).cells.toList) (o:=K+off) R (by simp;omega);have hlen:(a.eval n).cells.toList.length=l.length:=by simp[k1]
  obtain⟨i',t'⟩:=lj hi (blk:=.box cs') hb B (λk h1 h2=>by
   grind [Wr1]) (.box _ _ j1) (λbs q E=>by
   cases q;obtain⟨c0,e0,aq,c',A,p2,p3,p4,p5,p6⟩:=B.there;rw[R]at A;injection A with A;injection A with J q2 q3;subst J q2 q3;refine⟨r,K,c',D,fz,m,p2,by omega,λi x ao=>?_,by simp_all⟩;by_cases ay:off<=i/\i<off+l.length;have D:cs'[off+(i-off)]?=l[i-off]?:=j3 (i-off) (by omega);rw[show off+(i-off)=i by omega,ao]at D;have I:i-off<(a.eval n).cells.size:=by omega
   have e2:=p5 (i-off) (a.eval n).cells[i-off] (by simp);refine⟨(a.eval n).cells[i-off],by rw[<-e2];congr 1;omega,E (k3 (i-off) x _ D.symm (by simp)),k2 _ (by simp)⟩;grind)
   (λ_ _ q=>by cases q)
  refine kz (e:=⟨hE,[(b,.box cs')]⟩) (Z hz (m6 (by simp_all) R (by omega) (λk h1 h2=>hf k (by omega) (by omega)) k2)) rfl i' t'
 cases g;cases g;cases g;cases g;cases g;rename_i b ext i off;simp only[RM.run]at g;split at g;rename_i blk hb;split at g;rename_i esz rows;split at g;rename_i a9;split at g;rename_i row N;obtain⟨H,h3,S⟩:=bind_some g;split at S;rename_i T;split at S;rename_i M U;cases S;have hb:s.σ[b]?=some (.arr true esz rows):=hb;obtain⟨ak,b7⟩:=T;obtain⟨g1,i1,t1,f1,l1,r1⟩:=gi hi (.refl _) h3 ry;have Q:(upd H.2 s.σ)[b]?=some (.arr true esz rows):=by grind [Ko]
 have W:=rx.mono hi t1;obtain⟨j1,j2,j3,j4⟩:=UT U;have a6: ∀u∈(a.eval n).cells.toList,u.oneCell'=true:=by
  intro u hu;obtain⟨k,G⟩:=jY hu;have G:(a.eval n).cells[k]?=some u:=by simpa using G
  have I:=XC G;exact(r1 k H.1[k] u (by simp_all) G).one
 generalize hz:a.eval x'=z at W;cases W with
 |ep _ _ _ _ _ wm' a4 rows' p0 A p2 p3=>
  have A:(upd H.2 s.σ)[b]?=some (.arr wm' a4 rows'):=A;rw[Q]at A;injection A with A;injection A with a1 a2 a3;subst a1 a2 a3;have I:=JD N;obtain⟨r,m,hv⟩:=p3 a9 (by omega);rcases i1.arr b _ _ _ Q with⟨C,_⟩|⟨rr,c,D,fz,C,R,an,ap,Y,hf⟩;simp_all;rw[m]at C;injection C with C;injection C with m1 _;subst m1;have b2:=an row (lT N);have hlen:(a.eval n).cells.toList.length=H.1.length:=by simp[l1]
  have bf:i*esz+esz<=rows.length*esz:=(by have:=zQ4 esz (show i+1<=rows.length from I);grind);have L:s.w.heap[r]?=some (.cells c D fz):=R;have B:=PX (vs:=(a.eval n).cells.toList) (o:=i*esz+off) L (by grind);obtain⟨i2,t2⟩:=lj (s0:=⟨upd H.2 s.σ,g1,s.w⟩) i1 (blk:=.arr true esz (rows.set i M)) Q B (λk h1 h2=>by
   grind [Wr1]) (.arr _ _ _ (by simp)) (λ_ q=>by cases q) (λb6 b1 q E=>by
   injection q with _ h1 h2;subst h1 h2;obtain⟨c0,e0,aq,c',J,q2,q3,q4,q5,q6⟩:=B.there;rw[L]at J;injection J with J;injection J with w1 w2 w3;subst w1 w2 w3;refine .inr ⟨r,c',D,fz,m,q2,λbw bu=>?_,by simp;omega,λk j a5 x0 G hj=>⟨?_,λh=>by cases h⟩,by simp_all⟩;grind;have bi:=JD hj;by_cases V:k=i;subst V;rw[QN I]at G;cases G;by_cases ay:off<=j/\j<off+H.1.length;have D:=j3 (j-off) (by omega);rw[show off+(j-off)=j by omega,hj]at D;have O:j-off<(a.eval n).cells.size:=by omega
   have e2:=q5 (j-off) (a.eval n).cells[j-off] (by simp);refine⟨(a.eval n).cells[j-off],by rw[<-e2];congr 1;omega,E (r1 (j-off) x0 _ D.symm (by simp))⟩;grind;rw[ZE (Ne.symm V)]at G;obtain⟨⟨v',ax,ai⟩,_⟩:=Y k j a5 x0 G hj;refine⟨v',?_,E ai⟩;rw[q6 _ ?_];exact ax;have al:j<esz:=by grind
   rw[hlen];rcases zQ3 k i with O|bx;left;have:=pK O al;omega;right;have:=zQ4 esz (show i+1<=k by omega);grind)
  refine kz (e:=⟨hE,H.2++[(b,.arr true esz (rows.set i M))]⟩) (g':=g1) (Z (hz.trans hv) (m6 (by simp_all) L (by grind) (λk h1 h2=>hf.1 k (by omega) (by grind)) a6)) rfl ?_ ?_;rw[fH];exact i2;rw[fH];exact t1.trans t2
 cases S;cases S;cases g;cases g;cases g;cases g;cases g;cases hc
end
end Go.Am
end
section
namespace Go.Am
theorem JD4(vs:List Value): ∀(k:Nat) (off:Nat) (cs:Array Value),off+k+vs.length<=cs.size->
  let r:=(vs.zipIdx k).foldl (λcs (x:Value×Nat)=>cs.setIfInBounds (off+x.2) x.1) cs
  r.size=cs.size/\(∀(j:Nat) v,vs[j]?=some v->r[off+k+j]?=some v)/\ ∀i,(i<off+k\/off+k+vs.length<=i)->r[i]?=cs[i]?:=by
 induction vs with
 |nil=>simp_all
 |cons v vs ih=>
  intro k off cs h;simp only[xG]at h;have:=ih (k+1) off (cs.setIfInBounds (off+k) v) (by simp;omega);simp only[List.zipIdx_cons,List.foldl_cons];obtain⟨h1,h2,e⟩:=this;grind
section
variable {P:Program} {F:Orc} {s:Sn} {a:Act} {env:List (Nat×AV)} {o:Oper} {new:Nat} {e:Eff}
theorem za{place:Nat->Option (Nat×Nat)}{cells:Array Value}{i:Nat}{v:Value}{rest:List (Nat×Value)}{off size:Nat}(hp:place i=some (off,size))(hs:v.cells.size=size)(hl:off+size<=cells.size):
  ∃e:Array Value,Instr.fill place cells ((i,v)::rest)=Instr.fill place e rest/\e.size=cells.size/\(∀(j:Nat) u,v.cells[j]?=some u->e[off+j]?=some u)/\
   ∀k,(k<off\/off+size<=k)->e[k]?=cells[k]?:=by
 subst hs;obtain⟨h1,h2,h⟩:=JD4 v.cells.toList 0 off cells (by simp;omega);refine⟨v.cells.zipIdx.foldl (λcs (c,j)=>cs.setIfInBounds (off+j) c) cells,?_,?_,?_,?_⟩;grind [Instr.fill]
 all_goals (have g:v.cells.zipIdx.foldl (λcs (x:Value×Nat)=>cs.setIfInBounds (off+x.2) x.1) cells=(v.cells.toList.zipIdx 0).foldl (λcs (x:Value×Nat)=>cs.setIfInBounds (off+x.2) x.1) cells:=by
             rw[<-Array.foldl_toList];simp)
 all_goals simp_all
theorem kn{place:Nat->Option (Nat×Nat)}: ∀{parts:List (Nat×Nat×List AV)} {ps:List (Nat×Value)} {cs cs':List AV} {cells:Array Value},
  rG parts cs=some cs'->parts.length=ps.length->
  (∀(k:Nat) off size l i v,parts[k]?=some (off,size,l)->ps[k]?=some (i,v)->place i=some (off,size)/\l.length=v.cells.size/\(∀u∈v.cells.toList,u.oneCell'=true)/\
   ∀(j:Nat) y u,l[j]?=some y->v.cells[j]?=some u->JK s y u)->
  cs.length=cells.size->(∀(i:Nat) x,cs[i]?=some x-> ∃u,cells[i]?=some u/\JK s x u/\u.oneCell'=true)->
  ∃e,Instr.fill place cells ps=some e/\cs'.length=e.size/\ ∀(i:Nat) x,cs'[i]?=some x-> ∃u,e[i]?=some u/\JK s x u/\u.oneCell'=true
 |[],[],cs,cs',cells,h,_,_,hl,hr=>by simp[rG]at h;subst h;exact⟨cells,rfl,hl,hr⟩
 |[],_::_,_,_,_,_,hl,_,_,_=>by simp at hl
 |_::_,[],_,_,_,_,hl,_,_,_=>by simp at hl
 |(off,size,l)::parts,(i,v)::ps,cs,cs',cells,h,hlen,hp,hl,hr=>by
  unfold rG at h;split at h;rename_i D;split at h;rename_i F n;obtain⟨z,H,q,r⟩:=hp 0 off size l i v rfl rfl;obtain⟨G,M,w,I⟩:=UT n;obtain⟨g,J,K,A,L⟩:=za (v:=v) (rest:=ps) (cells:=cells) z (by omega) (by omega);obtain⟨e,Q,O,N⟩:=kn (cells:=g) h (by simpa using hlen) (λk off size l i v h1 h2=>hp (k+1) off size l i v (by simpa using h1) (by simpa using h2)) (by omega) (λk x B=>by
   by_cases E:off<=k/\k<off+l.length;have o:=w (k-off) (by omega);rw[show off+(k-off)=k by omega,B]at o;have C:k-off<v.cells.size:=by omega
   have P:=A (k-off) v.cells[k-off] (by simp);exact⟨v.cells[k-off],by simp_all,r (k-off) x _ o.symm (by simp),q _ (by simp)⟩;grind)
  simp_all;cases h;cases h
theorem lz(he:bV s a.tmps env){place:Nat->Option (Nat×Nat)}: ∀{parts:List (Nat×Nat×Opd)} {ps:List (Nat×Operand)} {l:List (Nat×Nat×List AV)},
  (lM parts).run ⟨env,s.σ⟩=some l->tF place parts ps=true->
  l.length=(ps.map λx=>(x.1,a.eval x.2)).length/\
  ∀(k:Nat) off size cs i v,l[k]?=some (off,size,cs)->(ps.map λx=>(x.1,a.eval x.2))[k]?=some (i,v)->place i=some (off,size)/\cs.length=v.cells.size/\(∀u∈v.cells.toList,u.oneCell'=true)/\
   ∀(j:Nat) y u,cs[j]?=some y->v.cells[j]?=some u->JK s y u
 |[],[],l,h,_=>by
  grind [lM,RM.run]
 |[],_::_,_,_,hc=>by grind [tF]
 |_::_,[],_,_,hc=>by grind [tF]
 |(off,size,x)::parts,(i,y)::ps,l,h,hc=>by
  simp only[tF,aY,beq_iff_eq]at hc;obtain⟨⟨hp,e⟩,hc⟩:=hc;simp only[lM]at h;obtain⟨v,h1,h⟩:=bind_some h;split at h;rename_i cs hcs;obtain⟨l',h2,h⟩:=bind_some h;simp only[RM.run]at h;injection h with h;subst h;obtain⟨g,n⟩:=lz he h2 hc;obtain⟨o,r,q⟩:=XO hcs (bR he h1 e);grind;cases h
theorem ly: ∀{fs:List Field},(∀f∈fs,(szT P f.type).isSome=true)-> ∀w:World,
  (fs.mapM λf=>do pure (f.offset,<-sizeOf f.type):Sem (List (Nat×Nat))).run P w=.ok (fs.map λf=>(f.offset,(szT P f.type).getD 0)) w
 |[],_,w=>by simp
 |f::fs,h,w=>by
  have hs:(szT P f.type)=some ((szT P f.type).getD 0):=by have:=h f (by simp);cases hq:szT P f.type<;>simp[hq]at this⊢
  have ih:=ly (fs:=fs) (λg e=>h g (by simp[e])) w;rw[List.mapM_cons];simp only[AQ,iW hs,uT,ZR,ih];simp
theorem JKB(hi:Inv s)(he:bV s a.tmps env){zero parts}(h:(opR F (.build zero parts) new).run ⟨env,s.σ⟩=some e)(hc:bD P (.build zero parts) o.op=true):cA P o a s e:=by
 simp only[opR]at h;obtain⟨l,h1,D⟩:=bind_some h;clear h;unfold bD at hc;simp only at hc;split at hc;rename_i t ps Z;simp only[aY]at hc;obtain⟨V,ht⟩:=hc;obtain⟨z,a0,J,K⟩:=DD V;split at D;rename_i cs hcs;obtain⟨r,W,rfl⟩:=hI D;have B: ∀(i:Nat) x,(zero.map AV.p)[i]?=some x-> ∃u,z.cells[i]?=some u/\JK s x u/\u.oneCell'=true:=by
  intro i x H;rw[iB]at H;cases hzi:zero[i]? with
  |none=>simp_all
  |some c=>
   simp[hzi]at H;subst H;have I:=JD hzi;have Q:i<z.cells.size:=by omega
   have:=K (w:=s.w) (C:=s.g.C) i c z.cells[i] hzi (by simp);exact⟨z.cells[i],by simp,.p _ _ this,this.one⟩
 have fin: ∀{place:Nat->Option (Nat×Nat)},tF place parts ps.toList=true->
   ∃j,Instr.fill place z.cells (ps.toList.map λx=>(x.1,a.eval x.2))=some j/\JK s r (.agg j):=by
  intro place A;obtain⟨O,S⟩:=lz he h1 A;obtain⟨j,E,R,U⟩:=kn (s:=s) (cells:=z.cells) hcs O S (by simp[J]) B;refine⟨j,E,?_⟩;have:=UC (s:=s) (vs:=j.toList) W (by simpa using R) (λv N=>by
    obtain⟨i,hi'⟩:=jY N;have hi':j[i]?=some v:=by simpa using hi'
    have I:=XC hi';obtain⟨u,M,_,h1⟩:=U i cs[i] (by simp_all);simp_all)
   (λi y v hy N=>by
    grind)
  simp_all
 have a1:(ps.map λx=>(x.1,a.eval x.2)).toList=ps.toList.map λx=>(x.1,a.eval x.2):=by simp
 split at ht;rename_i fs M;simp only[aY]at ht;obtain⟨k,A⟩:=ht;obtain⟨j,E,G⟩:=fin A;have Y:(λi=>(fs.map λf=>(f.offset,(szT P f.type).getD 0))[i]?)=IF P fs:=by
  funext i
  simp only[IF,Array.getElem?_map];cases hfi:fs[i]? with
  |none=>rfl
  |some f=>have:=ZY.1 k f (Array.mem_of_getElem? hfi);cases L:szT P f.type<;>simp[L]at this⊢
 refine JR hi (v:=.agg j) ?_ G;have T:(fs.mapM λf=>do pure (f.offset,<-sizeOf f.type):Sem (Array (Nat×Nat))).run P s.w=.ok (fs.map λf=>(f.offset,(szT P f.type).getD 0)) s.w:=by
  rw[Array.mapM_eq_mapM_toList];simp only[Sem.run_map,ly (P:=P) (fs:=fs.toList) (λf hf=>ZY.1 k f (by simpa using hf)),uT]
  congr 1
  grind
 have hf:Instr.fill (λi=>(fs.map λf=>(f.offset,(szT P f.type).getD 0))[i]?) z.cells (ps.map λx=>(x.1,a.eval x.2)).toList=some j:=by simp_all
 simp_all [Instr.build,IQ,run_underlying,execOp];rename_i n el M;split at ht;rename_i q L;obtain⟨j,E,G⟩:=fin ht;refine JR hi (v:=.agg j) ?_ G;have hb:(Instr.build t (ps.map λx=>(x.1,a.eval x.2))).run P s.w=.ok (.agg j) s.w:=by simp_all [Instr.build,IQ,run_underlying,iW]
 simp_all [execOp];cases ht;cases ht;cases D;cases hc
end
end Go.Am
end
section
namespace Go.Am
def sP(s:Sn)(esz:Nat)(rows:List (List PV))(c:Array Value):Prop:=(∀row∈rows,row.length=esz)/\rows.length*esz<=c.size/\ ∀(i j:Nat) row x,rows[i]?=some row->row[j]?=some x-> ∃u,c[i*esz+j]?=some u/\J08 s.w s.g.C x u
section
variable {P:Program} {F:Orc} {s:Sn} {a:Act} {env:List (Nat×AV)} {o:Oper} {new:Nat} {e:Eff}
theorem sP.mono{s0 s:Sn}(hi:Inv s0)(t:bJ s0 s){esz rows c}(h:sP s0 esz rows c):sP s esz rows c:=
 ⟨h.1,h.2.1,λi j row x e g=>let⟨u,h1,h2⟩:=h.2.2 i j row x e g;⟨u,h1,h2.mono hi t⟩⟩
theorem jt{s0:Sn}(hi:Inv s0)(hn:s0.σ[new]?=some .dead){esz:Nat}{rows:List (List PV)}{c:Array Value}{et:TypeId}{fz:Nat×Nat}{w':World}{cap:Nat}
  (hh:w'.heap=s0.w.heap.push (.cells c et fz)) (ho:w'.os=s0.w.os) (hp:w'.output=s0.w.output) (hf:yH esz fz c.size) (hr:sP s0 esz rows c) (e:rows.length<=cap) (g:cap*esz<=c.size):
  (∃g',Inv ⟨s0.σ.set new (.arr true esz rows),g',w'⟩/\bJ s0 ⟨s0.σ.set new (.arr true esz rows),g',w'⟩/\
   JK ⟨s0.σ.set new (.arr true esz rows),g',w'⟩ (.slr new 0 rows.length) (.slice (some ⟨s0.w.heap.size,0,none⟩) rows.length cap)):=by
 obtain⟨j,t'⟩:=VD hi hn (blk:=.arr true esz rows) hh ho hp hf.1 (λ_ _ _ h=>by injection h with _ h _;subst h;exact hf.2) hr;refine⟨_,j,t',.slr new 0 _ _ true esz rows ⟨_,_,rfl,.inr (by simp)⟩ (kP hn) (by omega) λ_=>.inr ⟨s0.w.heap.size,cap,c,et,fz,if_pos rfl,by simp,e,WD hh,by simpa using g⟩⟩
theorem ln{s0:Sn}(hi:Inv s0){esz:Nat}{rows:List (List PV)}{c:Array Value}{et:TypeId}{fz:Nat×Nat}{w':World}{cap:Nat}
  (hh:w'.heap=s0.w.heap.push (.cells c et fz)) (ho:w'.os=s0.w.os) (hp:w'.output=s0.w.output) (hr:sP s0 esz rows c) (e:rows.length<=cap):
  (∃g',Inv ⟨s0.σ,g',w'⟩/\bJ s0 ⟨s0.σ,g',w'⟩/\JK ⟨s0.σ,g',w'⟩ (.p (.sl esz rows)) (.slice (some ⟨s0.w.heap.size,0,none⟩) rows.length cap)):=by
 obtain⟨g,t'⟩:=JJ9 hi hh ho hp;refine⟨_,g,t',.p _ _ (mj (s:=⟨s0.σ,_,w'⟩) rfl e hr.1 (.inr ⟨_,0,rfl,λi j row x hi' h=>⟨.inr rfl,?_⟩⟩))⟩;obtain⟨u,k,hrel⟩:=hr.2.2 i j row x hi' h;exact⟨u,by grind [lS],hrel.mono hi t'⟩
theorem Oa{E:List Blk}{tmps:Array Value}(he: ∀n x,lk n env=some x-> ∃v,a.tmps[n]?=some v): ∀{xs:List Opd} {e:List Operand} {s:Sn} {y:List (List PV)×List (Nat×Blk)},Inv s->Frz E s.σ->bV s a.tmps env->
  (fzs xs).run ⟨env,E⟩=some y->jJ xs e=true->
  ∃g',Inv ⟨upd y.2 s.σ,g',s.w⟩/\bJ s ⟨upd y.2 s.σ,g',s.w⟩/\Frz s.σ (upd y.2 s.σ)/\y.1.length=e.length/\
   ∀(k:Nat) cs q,y.1[k]?=some cs->e[k]?=some q->cs.length=(a.eval q).cells.size/\ ∀(i:Nat) c u,cs[i]?=some c->(a.eval q).cells[i]?=some u->J08 s.w g'.C c u
 |[],[],s,y,hi,o,r,h,_=>by
  simp only[fzs,RM.run]at h;injection h with h;subst h;exact⟨s.g,hi,.refl s,.refl _,rfl,λk cs q h=>by simp at h⟩
 |[],_::_,_,_,_,_,_,_,hc=>by grind [jJ]
 |_::_,[],_,_,_,_,_,_,hc=>by grind [jJ]
 |x::xs,q::e,s,y,hi,o,r,h,hc=>by
  simp only[jJ,aY]at hc;simp only[fzs]at h;obtain⟨v,h1,h⟩:=bind_some h;obtain⟨j,h2,h⟩:=bind_some h;obtain⟨L,P,h⟩:=bind_some h;simp only[RM.run]at h;injection h with h;subst h;have D:(ev x).run ⟨env,s.σ⟩=some v:=by cases x<;>simp_all [ev,RM.run]
  have N:=bR r D hc.1;obtain⟨I,i1,B,A,K,M⟩:=gi hi o h2 N;obtain⟨G,i2,z,J,Q,R⟩:=Oa (tmps:=tmps) he (s:=⟨upd j.2 s.σ,I,s.w⟩) i1 (o.trans A) (r.mono hi B) P hc.2;refine⟨G,by grind [fH],by rw[fH];exact B.trans z,by rw[fH];exact A.trans J,by simp[Q],λk cs q' F H=>?_⟩;cases k with
  |zero=>simp at F H;subst F H;exact⟨K,λi c u hc O=>J08.mono (s0:=⟨upd j.2 s.σ,I,s.w⟩) (s:=⟨upd L.2 (upd j.2 s.σ),G,s.w⟩) i1 z (M i c u hc O)⟩
  |succ k=>grind
theorem ym{esz:Nat}(z:0<esz): ∀{parts:List (Nat×List PV)} {ps:List (Nat×Value)} {rows rows':List (List PV)} {cells:Array Value},
  CX esz parts rows=some rows'->parts.length=ps.length->
  (∀(k:Nat) i cs j v,parts[k]?=some (i,cs)->ps[k]?=some (j,v)->i=j/\cs.length=v.cells.size/\ ∀(m:Nat) c u,cs[m]?=some c->v.cells[m]?=some u->J08 s.w s.g.C c u)->
  sP s esz rows cells->cells.size=rows.length*esz->
  ∃e,Instr.fill (λi=>some (i*esz,esz)) cells ps=some e/\sP s esz rows' e/\rows'.length=rows.length/\e.size=rows.length*esz
 |[],[],rows,rows',cells,h,_,_,hr,hs=>by simp[CX]at h;subst h;exact⟨cells,rfl,hr,rfl,hs⟩
 |[],_::_,_,_,_,_,hl,_,_,_=>by simp at hl
 |_::_,[],_,_,_,_,hl,_,_,_=>by simp at hl
 |(i,cs)::parts,(j,v)::ps,rows,rows',cells,h,hlen,hp,hr,hs=>by
  unfold CX at h;split at h;rename_i hc;obtain⟨rfl,L,B⟩:=hp 0 i cs j v rfl rfl;have D:i*esz+esz<=rows.length*esz:=(by have:=zQ4 esz (show i+1<=rows.length from hc.2);grind);obtain⟨o,M,O,F,E⟩:=za (place:=λi=>some (i*esz,esz)) (v:=v) (rest:=ps) (cells:=cells) (i:=i) rfl (by omega) (by omega);obtain⟨G,T,H⟩:=hr;obtain⟨e,R,Q,P,N⟩:=ym z (cells:=o) h (by simpa using hlen) (λk i cs j v h1 h2=>hp (k+1) i cs j v (by simpa using h1) (by simpa using h2))
   ⟨λrow S=>by
     grind,by simp;omega,λk m row x n q=>by
     by_cases r:k=i;subst r;rw[QN hc.2]at n;injection n with n;subst n;have K:=JD q;have y:m<v.cells.size:=by omega
     exact⟨v.cells[m],F m _ (by simp),B m x _ q (by simp)⟩;rw[ZE (Ne.symm r)]at n;obtain⟨u,I,hrel⟩:=H k m row x n q;refine⟨u,?_,hrel⟩;rw[E _ ?_];exact I;have A:=JD q;rw[G row (lT n)]at A;rcases zQ3 k i with y|J;grind [pK];right;have:=zQ4 esz (show i+1<=k by omega);grind⟩ (by simp;omega)
  grind;cases h
theorem iu{t:TypeId}{n:Nat}(h:szT P t=some n): ∃i,P.info? t=some i/\i.size=n:=by simp_all [szT]
theorem Mo{t:TypeId}{v:Value}{i:TypeInfo}(h:zeT P t=some v)(hi:P.info? t=some i):i.zero=some v:=by
 grind [zeT]
theorem Oy{t:TypeId}{n:Nat}{i:TypeInfo}(h:byT P t=some n)(hi:P.info? t=some i):i.bytes=n:=by
 grind [byT]
theorem JLJ{z:Array Value}{esz n i j:Nat}(hz:z.size=esz)(hi:i<n)(hj:j<esz):(madeCells z (n*esz))[i*esz+j]?=z[j]?:=by
 grind [pK,Nat.add_mul_mod_self_right,Nat.mod_eq_of_lt,madeCells]
theorem zw{zero:List PV}{z:Value}{esz n m:Nat}(hl:zero.length=esz)(k:zero.length=z.cells.size)
  (g: ∀{w C} (i:Nat) x u,zero[i]?=some x->z.cells[i]?=some u->J08 w C x u) (q:n<=m):sP s esz (List.replicate n zero) (madeCells z.cells (m*esz)):=by
 refine⟨λrow v=>by simp_all,?_,λi j row x hi h=>?_⟩;simp_all [size_madeCells,zQ4];have e:=JD hi;have:=List.eq_of_mem_replicate (lT hi);subst this;have o:=JD h;simp at e;have r:z.cells.size=esz:=by omega
 refine⟨z.cells[j],?_,g j x _ h (by simp)⟩;grind [JLJ]
theorem JFZ(hi:Inv s)(he:bV s a.tmps env){own esz bytes zero l c}(hn:own=true->s.σ[new]?=some .dead)(h:(opR F (.mkslice own esz bytes zero l c) new).run ⟨env,s.σ⟩=some e)
  (hc:bD P (.mkslice own esz bytes zero l c) o.op=true):cA P o a s e:=by
 simp only[opR]at h;obtain⟨u,h1,D⟩:=bind_some h;obtain⟨v,h2,g⟩:=bind_some D;clear h D;unfold bD at hc;simp only at hc;split at hc;rename_i t l' c' V;simp only[aY]at hc;obtain⟨⟨hl,C⟩,ht⟩:=hc;have S:=bR he h1 hl;have T:=bR he h2 C;split at ht;rename_i el E;simp only[aY,beq_iff_eq,decide_eq_true_eq]at ht;obtain⟨⟨⟨⟨⟨hs,K⟩,U⟩,H⟩,R⟩,Q⟩:=ht;obtain⟨i,j,I⟩:=iu hs;obtain⟨z,G,J,L⟩:=DD U;have O:=Oy K j;split at g;rename_i k n k' m;split at g;rename_i r;obtain⟨M,N,hb,Y⟩:=r;have Z:=jK S;have W:=jK T;have A:=run_make (P:=P) s.w t el i z (jN E) j (Mo G j) k k' n m M N (by simp_all) (by omega);rw[I]at A;have q:sP s esz (List.replicate n.toNat zero) (madeCells z.cells (m.toNat*esz)):=zw H J L (by omega);have x:(execOp a.eval o).run P s.w=.ok (.value (.slice (some ⟨s.w.heap.size,0,none⟩) n.toNat m.toNat)) (s.w.alloc (.cells (madeCells z.cells (m.toNat*esz)) el)):=by simp_all [execOp]
 split at g;rename_i y;simp only[RM.run]at g;injection g with g;subst g;obtain⟨g',B,t',r'⟩:=jt hi (hn y) (w':=s.w.alloc (.cells (madeCells z.cells (m.toNat*esz)) el)) (fz:=(0,0)) rfl rfl rfl (yH.zero _ _) q (cap:=m.toNat) (by simp;omega) (by simp[size_madeCells]);simp only[dk]at r';exact hJ x B t' r';simp only[RM.run]at g;injection g with g;subst g;obtain⟨g',B,t',r'⟩:=ln hi (w':=s.w.alloc (.cells (madeCells z.cells (m.toNat*esz)) el)) (fz:=(0,0)) rfl rfl rfl q (cap:=m.toNat) (by simp;omega);simp only[dk]at r';exact hJ (e:=⟨_,[]⟩) x B t' r';cases g;cases g;cases ht;cases hc
theorem JO5(hi:Inv s)(he:bV s a.tmps env){own esz n zero parts}(hn:own=true->s.σ[new]?=some .dead)(h:(opR F (.lits own esz n zero parts) new).run ⟨env,s.σ⟩=some e)
  (hc:bD P (.lits own esz n zero parts) o.op=true):cA P o a s e:=by
 simp only[opR]at h;obtain⟨y,h1,r⟩:=bind_some h;clear h;unfold bD at hc;simp only at hc;split at hc;rename_i t len ps ad;simp only[aY,beq_iff_eq]at hc;obtain⟨rfl,ht⟩:=hc;split at ht;rename_i el I;simp only[aY,beq_iff_eq,decide_eq_true_eq]at ht;obtain⟨⟨⟨⟨⟨hs,ae⟩,hz⟩,Z⟩,N⟩,M⟩:=ht;obtain⟨z,W,a0,a4⟩:=DD hz;have A:jJ (parts.map (·.2)) (ps.toList.map (·.2))=true/\parts.map (·.1)=ps.toList.map (·.1):=by
  have: ∀{p:List (Nat×Opd)} {q:List (Nat×Operand)},NF p q=true->jJ (p.map (·.2)) (q.map (·.2))=true/\p.map (·.1)=q.map (·.1):=by
   intro p
   induction p with
   |nil=>intro q h;cases q<;>simp[NF]at h⊢;rfl
   |cons x p ih=>intro q h;cases q<;>grind [NF,jJ]
  exact this M
 obtain⟨T,i1,t1,f1,l1,r1⟩:=Oa (tmps:=a.tmps) (λn x hx=>let⟨v,h,_⟩:=he n x hx;⟨v,h⟩) hi (.refl _) he h1 A.1;split at r;rename_i rows G;have E:(parts.map (·.1)).length=(ps.toList.map (·.1)).length:=by rw[A.2]
 simp at E;simp at l1;have R:((parts.map (·.1)).zip y.1).length=(ps.toList.map λx=>(x.1,a.eval x.2)).length:=by simp;omega
 obtain⟨g,O,r2,B,V⟩:=ym (s:=⟨upd y.2 s.σ,T,s.w⟩) N (ps:=ps.toList.map λx=>(x.1,a.eval x.2)) (cells:=madeCells z.cells (len*esz)) G R (λk i cs j v hk S=>by
   rw[List.getElem?_zip_eq_some]at hk;obtain⟨H,U⟩:=hk;rw[iB]at S;cases hpk:ps.toList[k]? with
   |none=>simp_all
   |some q=>
    simp[hpk]at S;obtain⟨rfl,rfl⟩:=S;rw[A.2,iB,hpk]at H;simp at H;obtain⟨k3,k4⟩:=r1 k cs q.2 U (by simp_all);grind)
  (zw Z a0 a4 (zQ0 _)) (by simp[size_madeCells])
 simp at B V;have J:(execOp a.eval o).run P s.w=.ok (.value (.slice (some ⟨s.w.heap.size,0,none⟩) len len)) (s.w.alloc (.cells g el)):=by
  have D: ¬(len*esz>2^24):=by omega
  have K:(ps.map fun(x:Nat×Operand)=>(x.1,a.eval x.2)).toList=ps.toList.map λx=>(x.1,a.eval x.2):=by simp
  have hb:(Instr.buildSlice t len (ps.map fun(x:Nat×Operand)=>(x.1,a.eval x.2))).run P s.w=.ok (.slice (some ⟨s.w.heap.size,0,none⟩) len len) (s.w.alloc (.cells g el)):=by
   unfold Instr.buildSlice;by_cases h0:len*esz=0;have C:madeCells z.cells (len*esz)= #[]:=by grind [madeCells]
   rw[C]at O;have Y: ¬((0:Nat)>2^24):=by decide
   have a3:Array.range 0= #[]:=rfl;simp only[Y,AQ,run_underlying (jN I),uT,iW hs,D,if_false,h0,if_true,ZR,K,a3,Array.map_empty,O,newRow,run_newObj];rfl;have C:((Array.range (len*esz)).map λx=>z.cells[x%z.cells.size]!)=madeCells z.cells (len*esz):=rfl;simp only[AQ,run_underlying (jN I),uT,iW hs,D,if_false,h0,IQ W,ZR,K,C,O,newRow,run_newObj];rfl
  simp_all [execOp]
 split at r;rename_i L;simp only[RM.run]at r;injection r with r;subst r;have a1:(upd y.2 s.σ)[new]?=some .dead:=f1.2 _ _ (hn L) (by simp);obtain⟨g',Q,t',r'⟩:=jt (s0:=⟨upd y.2 s.σ,T,s.w⟩) i1 a1 (w':=s.w.alloc (.cells g el)) (fz:=(0,0)) rfl rfl rfl (yH.zero _ _) r2 (cap:=len) (by omega) (by omega);rw[B]at r';refine hJ (e:=⟨_,y.2++[(new,.arr true esz rows)]⟩) (g':=g') J ?_ ?_ ?_;rw[fH];exact Q;rw[fH];exact t1.trans t';rw[fH];exact r';simp only[RM.run]at r;injection r with r;subst r;obtain⟨g',Q,t',r'⟩:=ln (s0:=⟨upd y.2 s.σ,T,s.w⟩) i1 (w':=s.w.alloc (.cells g el)) (fz:=(0,0)) rfl rfl rfl r2 (cap:=len) (by omega);rw[B]at r';exact hJ (e:=⟨_,y.2⟩) J Q (t1.trans t') r';cases r;cases ht;cases hc
end
end Go.Am
end
section
namespace Go.Am
section
variable {P:Program} {F:Orc} {s:Sn} {a:Act} {env:List (Nat×AV)} {o:Oper} {new:Nat} {e:Eff}
theorem Ai(l:List UInt8)(c:Array Value)(hc: ∀(i:Nat) b,l[i]?=some b->c[i]?=some (.int .u8 b.toNat))(hl:l.length<=c.size):sP s 1 (l.map nS) c:=by
 refine⟨λrow g=>?_,by simpa using hl,λi j row x hi e=>?_⟩;obtain⟨b,_,rfl⟩:=oM.1 g;rfl;rw[iB]at hi;cases hli:l[i]? with
 |none=>simp_all
 |some b=>
  simp[hli]at hi;subst hi;have:j=0:=by grind [nS]
  subst this;simp[nS]at e;subst e;exact⟨_,by simp_all,.i _ _⟩
theorem My{α:Type}{esz:Nat}: ∀{rows:List (List α)},(∀row∈rows,row.length=esz)-> ∀{i j:Nat} {row:List α} {x:α},rows[i]?=some row->row[j]?=some x->rows.flatten[i*esz+j]?=some x
 |[],_,i,j,row,x,h,_=>by simp at h
 |r0::e,hl,i,j,row,x,h,k=>by
  have n:r0.length=esz:=hl r0 (by simp);cases i with
  |zero=>
   grind
  |succ i=>
   simp only[vC];rw[uY (by grind)];have:=My (rows:=e) (λrow g=>hl row (by simp[g])) (by simpa using h) k;grind
theorem JAS{el:TypeId}(l:List UInt8)(w:World): ∃w' cap c fz,(Conv.stringToBytes el ⟨l.toArray⟩).run P w=.ok (.slice (some ⟨w.heap.size,0,none⟩) l.length cap) w'/\
  w'.heap=w.heap.push (.cells c el fz)/\w'.os=w.os/\w'.output=w.output/\GV fz 0 c.size/\l.length<=cap/\c.size=cap/\ ∀(i:Nat) b,l[i]?=some b->c[i]?=some (.int .u8 b.toNat):=by
 have hf:(Question.appendCap l.length 0 el).forced=false:=rfl;have e:l.length<=(Question.appendCap l.length 0 el).cut (w.tape w.drawn (.appendCap l.length 0 el)):=by simp[Question.cut]
 generalize j:(Question.appendCap l.length 0 el).cut (w.tape w.drawn (.appendCap l.length 0 el))=cap at e
 let c:Array Value:=(l.toArray.map λb=>Value.int .u8 b.toNat)++Array.replicate (cap-l.length) (.int .u8 0)
 have hc:c.size=cap:=by simp[c];omega
 refine⟨({w with drawn:=w.drawn+1,heap:=w.heap.push (.cells c el)}).freeze {block:=w.heap.size,off:=c.size} 1,cap,c,(c.size,c.size+1),?_,?_,?_,?_,?_,e,hc,?_⟩;unfold Conv.stringToBytes;have hs:ByteArray.size ⟨l.toArray⟩=l.length:=vW l;have g:World.shape? {w with drawn:=w.drawn+1,heap:=w.heap.push (.cells c el)} w.heap.size=some (el,c.size):=by simp[World.shape?]
 have k:(Array.map (λb=>Value.int IntKind.u8 ↑(UInt8.toNat b)) l.toArray++Array.replicate (cap-l.length) (Value.int IntKind.u8 0))=c:=rfl;simp only[AQ,run_choose,hs,hf,fF,if_false,uT,j,newRow,run_newObj,ZR,markStringish,run_shape,run_freeze,k,g];grind [World.freeze];simp[World.freeze];simp[World.freeze];intro o _ h;simp;omega;grind
theorem JGw(hi:Inv s)(he:bV s a.tmps env){own x}(hn:own=true->s.σ[new]?=some .dead)(h:(opR F (.conv (.toBytes own) x) new).run ⟨env,s.σ⟩=some e)
  (hc:bD P (.conv (.toBytes own) x) o.op=true):cA P o a s e:=by
 simp only[opR]at h;obtain⟨u,h1,g⟩:=bind_some h;clear h;unfold bD at hc;simp only at hc;split at hc;rename_i I dst y G;simp only[aY]at hc;obtain⟨E,hs,ht⟩:=hc;have C:=bR he h1 E;split at ht;rename_i el H;simp only[aY,beq_iff_eq]at ht;have r: ∃l,u=.p (.s l)/\(if own=true then RM.ret ⟨.slr new 0 l.length,[(new,.arr true 1 (l.map nS))]⟩else RM.ret ⟨.p (.sl 1 (l.map nS)),[]⟩:RM Eff).run ⟨env,s.σ⟩=some e:=by
  cases u with
  |p c=>cases c with|s l=>simp_all|_=>cases g
  |_=>cases g
 clear g;obtain⟨l,rfl,g⟩:=r
 skip
 obtain⟨w',cap,c,fz,B,z,v,hp,hf,A,hcs,D⟩:=JAS (P:=P) (el:=el) l s.w;have J:=vQ C;have k:(execOp a.eval o).run P s.w=.ok (.value (.slice (some ⟨s.w.heap.size,0,none⟩) l.length cap)) w':=by simp_all [execOp,convert,run_underlying,zG,jN,xq]
 have j:=Ai (s:=s) l c D (by omega);split at g;rename_i n;simp only[RM.run]at g;injection g with g;subst g;obtain⟨g',q,t',r'⟩:=jt (esz:=1) hi (hn n) z v hp ⟨hf,λh=>absurd rfl h⟩ j (cap:=cap) (by simp_all) (by omega);simp only[eQ]at r';exact hJ k q t' r';simp only[RM.run]at g;injection g with g;subst g;obtain⟨g',q,t',r'⟩:=ln hi z v hp j (cap:=cap) (by simp_all);simp only[eQ]at r';exact hJ (e:=⟨_,[]⟩) k q t' r';cases ht;cases hc
theorem JOV(hi:Inv s){esz:Nat}{x:AV}{new:List (List PV)}{v:Value}{u:TypeId}(h:(fX esz x).run ⟨env,s.σ⟩=some new)(hr:JK s x v)
  (hu:(elT P u).isSome=true\/lL P u=true):
  ∃news,Src P esz u v new.length news s.w/\(∀row∈new,row.length=esz)/\
   ∀(i j:Nat) row y,new[i]?=some row->row[j]?=some y-> ∃q,news[i*esz+j]?=some q/\J08 s.w s.g.C y q:=by
 have e:(∃e',P.underlying u=some (.slice e'))\/P.underlying u=some .string:=(by rcases hu with hu|hu;obtain⟨e',O⟩:=qk.1 hu;simp_all [jN];grind [zG]);rcases zk hi h hr with⟨l,rfl,rfl,rfl,rfl⟩|F;have hlen:(byteCells ⟨l.toArray⟩).length=l.length:=by rw[byteCells_length,vW]
 have R: ∀w:World,(Builtin.firstCells 1 l.length (.string ⟨l.toArray⟩)).run P w=.ok (byteCells ⟨l.toArray⟩).toArray w:=(by grind [firstCells_string,vW]);refine⟨byteCells ⟨l.toArray⟩,⟨e,λw=>by rw[eQ,<-vW];rfl,by simp_all,by simp_all,by rw[hlen];simp,λq I=>by obtain⟨_,_,rfl⟩:=oM.1 I;rfl⟩,λrow hr=>?_,?_⟩;obtain⟨b,_,rfl⟩:=oM.1 hr;rfl;have:=(Ai (s:=s) l (byteCells ⟨l.toArray⟩).toArray (λi b hb=>by
  grind [byteCells]) (by simp_all)).2.2
 simp_all;obtain⟨D,cap,vs,L,G,hlen,hrel,A,n⟩:=F.cells;have z: ∀q∈vs,q.oneCell'=true:=by
  intro q I;obtain⟨k,J⟩:=jY I;have N:=JD J;have:k<new.flatten.length:=by grind [VZ]
  obtain⟨q',o,hr⟩:=hrel k _ (bC this);rw[J]at o;injection o with o;subst o;exact hr.one
 have B: ∀(i j:Nat) row y,new[i]?=some row->row[j]?=some y-> ∃q,vs[i*esz+j]?=some q/\J08 s.w s.g.C y q:=by
  intro i j row y h1 h2;refine hrel _ _ ?_;clear hrel A hlen z h hr L G F
  induction new generalizing i with
  |nil=>simp at h1
  |cons K new ih=>have Q:K.length=esz:=n K (by simp);cases i<;>grind
 subst L;rcases A with H|⟨r,M,rfl,S⟩;subst H;simp at hlen;subst hlen;refine⟨[],?_,n,B⟩;cases D with
 |none=>exact⟨e,λ_=>rfl,run_firstCells_none s.w esz 0 0 cap,run_firstCells_none s.w.drew esz 0 0 cap,by simp,λ_ h=>by cases h⟩
 |some D=>exact⟨e,λ_=>rfl,run_firstCells_some s.w esz 0 D 0 cap [] (by simp) (λj u h=>by simp at h),run_firstCells_some s.w.drew esz 0 D 0 cap [] (by simp) (λj u h=>by simp at h),by simp,λ_ h=>by cases h⟩
 have E: ∀j q,vs[j]?=some q->s.w.cell? (Addr.add ⟨r,M,none⟩ j)=some q:=λj q T=>by grind [IT,vY]
 exact⟨vs,⟨e,λ_=>rfl,run_firstCells_some s.w esz _ _ _ cap vs hlen E,run_firstCells_some s.w.drew esz _ _ _ cap vs hlen (by simpa using E),hlen,z⟩,n,B⟩
theorem UP(b:Nat)(x:Blk)(σ:List Blk):upd [(b,x)] σ=σ.set b x:=rfl
structure Hx(P:Program)(esz bytes:Nat)(t ut ty el:TypeId)(z v:Value)(n:Nat)(news:List Value)(w:World):Prop where
 newsLen:news.length=n*esz
 room: ∀(r off sLen sCap:Nat),sLen+n<=sCap->(∀j,j<news.length->(w.cell? ⟨r,off+sLen*esz+j,none⟩).isSome=true)->(∀j,j<news.length->w.frozen? ⟨r,off+sLen*esz+j,none⟩=false)->
  (Builtin.append_ #[t,ut] ty #[.slice (some ⟨r,off,none⟩) sLen sCap,v]).run P w=.ok (.slice (some ⟨r,off,none⟩) (sLen+n) sCap) (w.setCells r (off+sLen*esz) news)
 grow: ∀(base:Option Addr) (sLen sCap:Nat) (olds:List Value),(Builtin.firstCells esz sLen (.slice base sLen sCap)).run P w.drew=.ok olds.toArray w.drew->sCap<sLen+n->((sLen+n:Nat):Int)<=9223372036854775807->
  Builtin.nextslicecap (sLen+n) sCap*bytes<=281474976710656->
  (Builtin.append_ #[t,ut] ty #[.slice base sLen sCap,v]).run P w=.ok (.slice (some ⟨w.heap.size,0,none⟩) (sLen+n) (grownCap w (sLen+n) sCap el)) (w.drew.alloc (.cells ((olds++news).toArray++Builtin.zeroCells z.cells (grownCap w (sLen+n) sCap el-(sLen+n))) el))
 nil:n=0->(Builtin.append_ #[t,ut] ty #[.slice none 0 0,v]).run P w=.ok (.slice none 0 0) w
theorem Src.gen{esz bytes:Nat}{t ut ty el:TypeId}{i:TypeInfo}{z v:Value}{n:Nat}{news:List Value}{w:World}(g:elT P t=some el)(hs:szT P el=some esz)(j:P.info? el=some i)(x:i.size=esz)(y:i.bytes=bytes)(k:i.zero=some z)
  (h:Src P esz ut v n news w):Hx P esz bytes t ut ty el z v n news w:=by
 have e:=h;rw[<-x]at e;refine⟨h.newsLen,λr off sLen sCap h1 h2 A=>?_,λbase sLen sCap olds h1 h2 A D=>?_,λC=>?_⟩;have B:=run_append_room_src (P:=P) w t ut ty el i (jN g) j r off sLen sCap v n news e h1 (by simp_all) (by simp_all);simp_all;exact run_append_grow_src (P:=P) w t ut ty el i z (jN g) j k base sLen sCap olds (by simp_all) v n news e h2 A (by simp_all);subst C;have hl:=h.len w;have o:=h.cells;rcases h.kind with⟨e',q⟩|q;simp[Builtin.append_,run_underlying (jN g),run_underlying q,iW hs,hl,o];simp[Builtin.append_,run_underlying (jN g),run_underlying q,iW hs,hl,o]
theorem JIV(hi:Inv s){esz bytes:Nat}{zero:List PV}{u v:AV}{c:Call}{x' Z:Operand}{t ut el:TypeId}(b9:o.op=.call c)(av:c.callee=.builtin .append)
  (ac:c.args.toList=[x',Z]) (bs:c.argTypes.toList=[t,ut]) (cg:elT P t=some el)
  (ht:(szT P el==some esz&&byT P el==some bytes&&oV P zero el&&zero.length==esz&&decide (0<esz)&&decide (0<bytes))=true)
  (rx:JK s u (a.eval x')) (hG: ∀(i:TypeInfo) (z:Value) (new:List (List PV)),szT P el=some esz->P.info? el=some i->i.size=esz->i.bytes=bytes->i.zero=some z->zeT P el=some z->zero.length=z.cells.size->new.length*bytes<=281474976710656->new.length<=281474976710656->(fX esz v).run ⟨env,s.σ⟩=some new->
   ∃news,Hx P esz bytes t ut o.type el z (a.eval Z) new.length news s.w/\(∀row∈new,row.length=esz)/\
    ∀(i j:Nat) row y,new[i]?=some row->row[j]?=some y-> ∃q,news[i*esz+j]?=some q/\J08 s.w s.g.C y q)
  (x:(jU esz bytes u v).run ⟨env,s.σ⟩=some e):cA P o a s e:=by
 simp only[aY,beq_iff_eq,decide_eq_true_eq]at ht;obtain⟨⟨⟨⟨⟨hs,b4⟩,hz⟩,c8⟩,bi⟩,ag⟩:=ht;obtain⟨i,M,b0⟩:=iu hs;obtain⟨z,al,ch,c9⟩:=DD hz;have J:=Oy b4 M;have ae:=Mo al M;have hm:c.args.map a.eval= #[a.eval x',a.eval Z]:=by apply ZN;simp[ac]
 have b1:c.argTypes= #[t,ut]:=by grind
 have a5: ∀{q:Value} {w':World},(Builtin.append_ #[t,ut] o.type #[a.eval x',a.eval Z]).run P s.w=.ok q w'->(execOp a.eval o).run P s.w=.ok (.value q) w':=by intro q w' hr;simp[execOp,b9,resolve,av,hm,b1,invoke,builtin,hr]
 unfold jU at x;split at x;rename_i b j n;simp only[RM.run]at x;split at x;rename_i blk hb;split at x;rename_i wm W rows;obtain⟨h,h3,T⟩:=bind_some x;clear x;split at T;rename_i aa;obtain⟨rfl,rfl,rfl,ab⟩:=aa;simp only[RM.run]at T;injection T with T;subst T;have hb:s.σ[b]?=some (.arr wm esz rows):=hb;have ab:(2*(rows.length+h.length)+512)*bytes<=281474976710656:=by grind [sJ]
 have bb:rows.length+h.length<=281474976710656:=by have h5:(2*(rows.length+h.length)+512)*1<=(2*(rows.length+h.length)+512)*bytes:=Nat.mul_le_mul_left _ ag;omega
 have ao:h.length*bytes<=281474976710656:=(by grind);obtain⟨news,I,E,N⟩:=hG i z h hs M b0 J ae al (by omega) ao (by omega) h3;have a4:=I.newsLen;have K:=lJ.of_slr hi rx hb (by omega);simp only[GN]at K;generalize R:a.eval x'=zz at rx;have bp: ∀{old:Nat},old<rows.length+h.length->Builtin.nextslicecap (rows.length+h.length) old*i.bytes<=281474976710656:=by intro old ho;have h5:=nextslicecap_le ho;rw[J];have h6:Builtin.nextslicecap (rows.length+h.length) old*bytes<=(2*(rows.length+h.length)+512)*bytes:=zQ4 _ (by omega);omega
 have grow: ∀{base:Option Addr} {cap:Nat},zz=.slice base rows.length cap->cap<rows.length+h.length->
   cA P o a s ⟨.slr b 0 (rows.length+h.length),[(b,.arr wm esz (rows++h))]⟩:=by
  intro base cap aj b3;rw[R]at K;obtain⟨ad,bh,vs,U,bc,G,a8,af,H⟩:=K.cells;rw[aj]at U;injection U with v1 v2 v3;subst v1 v3;have aq:(Builtin.firstCells esz rows.length (.slice base rows.length cap)).run P s.w.drew=.ok vs.toArray s.w.drew:=by
   rcases af with am|⟨r,o',rfl,cd⟩;subst am;simp at G;subst G;cases base<;>grind [run_firstCells_none,run_firstCells_some]
   exact run_firstCells_some s.w.drew esz _ _ _ cap vs G (λj q hj=>by
   have:s.w.drew.cell? (Addr.add ⟨r,o',none⟩ j)=s.w.cell? (Addr.add ⟨r,o',none⟩ j):=by simp
   grind [IT,vY])
  have A:=I.grow base rows.length cap vs aq b3 (by omega) (by grind);have ak:rows.length+h.length<=grownCap s.w (rows.length+h.length) cap el:=by simp[grownCap,Question.cut]
  generalize grownCap s.w (rows.length+h.length) cap el=S at A ak;have az:h≠[]:=by grind
  have ca:z.cells.size=esz:=by omega
  obtain⟨i0,t0⟩:=yy (w':=s.w.drew) hi rfl rfl rfl;have bn:((vs++news).toArray++Builtin.zeroCells z.cells (S-(rows.length+h.length))).size=S*esz:=by
   have:S*esz=(rows.length+h.length)*esz+(S-(rows.length+h.length))*esz:=by rw[<-zQ8];congr 1;omega
   grind [size_zeroCells]
  obtain⟨g',bt,i',t'⟩:=JKY (s0:=⟨s.σ,s.g,s.w.drew⟩) i0 (w':=s.w.drew.alloc (.cells ((vs++news).toArray++Builtin.zeroCells z.cells (S-(rows.length+h.length))) el)) hb az H E rfl rfl rfl
   (by grind) (λk m row q D hq=>by
    have O:=JD hq;rcases UY D with D|⟨bm,D⟩;have Y:=JD D;rw[H row (lT D)]at O;have ap:=pK Y O;have b5:=My H D hq;obtain⟨w,hw,hrel⟩:=a8 _ q b5;refine⟨w,?_,hrel.mono hi t0⟩;grind;rw[E row (lT D)]at O;have Y:=JD D;have ap:=pK Y O;obtain⟨w,hw,hrel⟩:=N _ m row q D hq;have e4:k*esz+m=rows.length*esz+((k-rows.length)*esz+m):=(by grind [Nat.add_sub_cancel']);refine⟨w,?_,hrel.mono hi t0⟩;rw[Ia (by simp;omega)];simp;rw[uY (by omega),<-hw];congr 1;omega)
  refine hJ (e:=⟨.slr b 0 (rows.length+h.length),[(b,.arr wm esz (rows++h))]⟩) (g':=g') (a5 (by rw[R,aj];exact A)) i' (t0.trans t') ?_;refine .slr b 0 _ _ wm esz (rows++h) ⟨_,_,rfl,.inr (by simp)⟩ (kP hb) (by simp) λ_=>.inr ⟨_,S,_,el,(0,0),bt,by simp,ak,WD rfl,?_⟩;grind
 cases rx with
 |slr _ _ _ _ wm' W rows' q0 V q2 q3=>
  have V:s.σ[b]?=some (.arr wm' W rows'):=V;rw[hb]at V;injection V with V;injection V with a1 a2 a3;subst a1 a2 a3;rcases q3 (by omega)with⟨m',_,b8,U⟩|⟨r,cap,cc,e1,fz,m',U,be,hh,bu⟩;have a9:rows=[]:=List.eq_nil_of_length_eq_zero b8;subst a9;by_cases au:h=[];subst au;simp at a4;subst a4;subst U;have A:(Builtin.append_ #[t,ut] o.type #[.slice none 0 0,a.eval Z]).run P s.w=.ok (.slice none 0 0) s.w:=by exact I.nil rfl
  have L:s.σ.set b (.arr wm esz [])=s.σ:=(by apply zQ6;grind);refine hJ (e:=⟨.slr b 0 0,[(b,.arr wm esz [])]⟩) (g':=s.g) (a5 (by rw[R];exact A)) ?_ ?_ ?_;rw[UP,L];exact hi;rw[UP,L];exact .refl s;rw[UP,L];exact .slr b 0 0 _ wm esz [] ⟨none,0,rfl,.inl rfl⟩ hb (zQ0 _) λ_=>.inl ⟨m',rfl,rfl,rfl⟩;grind [List.length_pos_iff];subst U;by_cases F:rows.length+h.length<=cap;rcases hi.arr b _ _ _ hb with⟨B,_⟩|⟨r',c',e',cb,B,Q,bq,hlen,ce,b7⟩;grind;rw[m']at B;injection B with B;injection B with B _;subst B;rw[hh]at Q;injection Q with Q;injection Q with w1 w2 w3;subst w1 w2 w3;have bx:(rows.length+h.length)*esz<=cc.size:=(by have:=zQ4 esz F;grind);have bo:(rows.length+h.length)*esz=rows.length*esz+h.length*esz:=zQ8 _ _ _;have a7:=PX (vs:=news) (o:=rows.length*esz) hh (by omega);obtain⟨i',t'⟩:=JNd hi hb m' E a7 a4 N;have A:=I.room r 0 rows.length cap F
   (λk D=>by rw[vY,lS hh];simp;omega)
   (λk D=>by
    have:=b7.1 (0+rows.length*esz+k) (by omega) (by omega);grind [World.frozen?])
  simp only[qN]at A;obtain⟨c0,e0,cf,b2,p1,p2,p3,p4,p5,p6⟩:=a7.there;rw[hh]at p1;injection p1 with p1;injection p1 with w1 w2 w3;subst w1 w2 w3;refine hJ (e:=⟨.slr b 0 (rows.length+h.length),[(b,.arr wm esz (rows++h))]⟩) (a5 (by rw[R];simpa using A)) i' t' ?_;refine .slr b 0 _ _ wm esz (rows++h) ⟨_,_,rfl,.inr (by simp)⟩ (kP hb) (by simp) λ_=>.inr ⟨r,cap,b2,e1,fz,m',by simp,F,p2,by grind⟩;grind
 cases T;cases x;cases x;cases x
theorem Pb(hi:Inv s){esz bytes:Nat}{zero:List PV}{u v:AV}{c:Call}{B A:Operand}{t ut el:TypeId}(x:o.op=.call c)(r:c.callee=.builtin .append)
  (h:c.args.toList=[B,A]) (n:c.argTypes.toList=[t,ut]) (z:((elT P ut).isSome||lL P ut)=true) (k:elT P t=some el)
  (ht:(szT P el==some esz&&byT P el==some bytes&&oV P zero el&&zero.length==esz&&decide (0<esz)&&decide (0<bytes))=true)
  (D:JK s u (a.eval B)) (E:JK s v (a.eval A)) (y:(jU esz bytes u v).run ⟨env,s.σ⟩=some e):cA P o a s e:=
 JIV hi x r h n k ht D (λ_ _ _ hs q C g j _ _ _ _ F=>by obtain⟨news,w,h1,h2⟩:=JOV (u:=ut) hi F E (Bool.or_eq_true_iff.1 z);exact⟨news,Src.gen k hs q C g j w,h1,h2⟩) y
theorem JPj(hi:Inv s)(he:bV s a.tmps env){esz bytes zero x y}(h:(opR F (.app esz bytes zero x y) new).run ⟨env,s.σ⟩=some e)(hc:bD P (.app esz bytes zero x y) o.op=true):cA P o a s e:=by
 simp only[opR]at h;obtain⟨u,h1,r⟩:=bind_some h;obtain⟨v,h2,q⟩:=bind_some r;clear h r;unfold bD at hc;simp only at hc;split at hc;rename_i c n;split at hc;rename_i k;split at hc;rename_i D C t ut g j;simp only[aY]at hc;obtain⟨⟨⟨B,A⟩,w⟩,ht⟩:=hc;split at ht;rename_i el z;exact Pb hi n k g j w z (by omega) (bR he h1 B) (bR he h2 A) q;cases ht;cases hc;cases hc;cases hc
theorem JO3(hi:Inv s)(he:bV s a.tmps env)(hn:s.σ[new]?=some .dead){esz bytes zero y}(h:(opR F (.appn esz bytes zero y) new).run ⟨env,s.σ⟩=some e)(hc:bD P (.appn esz bytes zero y) o.op=true):cA P o a s e:=by
 simp only[opR]at h;obtain⟨v,h2,G⟩:=bind_some h;obtain⟨rows,j,k⟩:=bind_some G;clear h G;unfold bD at hc;simp only at hc;split at hc
 ·rename_i c E;split at hc
  ·rename_i D;split at hc
   ·rename_i U t ut x B;simp only[aY]at hc;obtain⟨⟨R,H⟩,ht⟩:=hc;split at ht
    ·rename_i el I;split at k
     ·rename_i K;simp only[RM.run]at k;injection k with k;subst k
      obtain⟨i1,J⟩:=VI hi hn esz;have A:(s.σ.set new (.arr true esz []))[new]?=some (.arr true esz []):=kP hn;have N:JK ⟨s.σ.set new (.arr true esz []),fM s.g new none,s.w⟩ (.slr new 0 0) (a.eval (.const (.slice none 0 0))):=
       .slr new 0 0 _ true esz [] ⟨none,0,rfl,.inl rfl⟩ A (zQ0 _) λ_=>.inl ⟨if_pos rfl,rfl,rfl,rfl⟩
      have O:=(bR he h2 R).mono hi J;have T:(fX esz v).run ⟨env,s.σ.set new (.arr true esz [])⟩=some rows:=by
       cases v with
       |slr b i n=>
        grind [fX,RM.run]
       |p c=>cases c<;>simp only[fX]at j⊢ <;>first|exact j|(split at j<;>rename_i S<;>first|(rw[if_pos S];exact j)|cases j)|cases j
       |_=>cases j
      have C:(jU esz bytes (.slr new 0 0) v).run ⟨env,s.σ.set new (.arr true esz [])⟩=some ⟨.slr new 0 rows.length,[(new,.arr true esz rows)]⟩:=(by grind [jU,RM.run,run_bind]);have ok:=Pb (s:=⟨s.σ.set new (.arr true esz []),fM s.g new none,s.w⟩) i1 E D x B H I (by omega) N O C;intro next Q z;refine ok next Q λL w' g' hi' r q=>?_;have M:upd [(new,Blk.arr true esz rows)] (s.σ.set new (.arr true esz []))=upd [(new,Blk.arr true esz rows)] s.σ:=by simp[UP]
      simp only at hi' r q;rw[M]at hi' r q;exact z L w' g' hi' (J.trans r) q
     cases k
    cases ht
   cases hc
  cases hc
 cases hc
end
end Go.Am
end
section
namespace Go.Am
section
variable {P:Program} {F:Orc} {s:Sn} {a:Act} {env:List (Nat×AV)} {o:Oper} {new:Nat} {e:Eff}
theorem JLd{x:Opd}{v:AV}(h:(ev x).run ⟨env,s.σ⟩=some v):(evo (some x)).run ⟨env,s.σ⟩=some (some v):=by simp[evo,run_bind,h,RM.run]
end
end Go.Am
end
section
namespace Go.Am
theorem JFx{s0:Sn}(hi:Inv s0){b new esz m:Nat}{R G:List (List PV)}(U:R.length<G.length)(hb:s0.σ[b]?=some (.arr true esz R))(hn:s0.σ[new]?=some .dead):
  ∃g',g'.μ new=s0.g.μ b/\Inv ⟨(s0.σ.set b (.arr false esz G)).set new (.arr true esz (R.take m)),g',s0.w⟩/\bJ s0 ⟨(s0.σ.set b (.arr false esz G)).set new (.arr true esz (R.take m)),g',s0.w⟩:=by
 have F:new≠b:=λe=>by rw[e,hb]at hn;cases hn
 have J:=hi.arr b true esz R hb;refine⟨⟨λk=>if k=new then s0.g.μ b else if k=b then none else s0.g.μ k,s0.g.C⟩,if_pos rfl,?_⟩;generalize hs:(⟨(s0.σ.set b (.arr false esz G)).set new (.arr true esz (R.take m)),_,s0.w⟩:Sn)=s;have B:s.σ[b]?=some (.arr false esz G):=by rw[<-hs];simp only[List.getElem?_set];rw[if_neg F];have:=(dS.1 hb).1;simp[this]
 have E:s.σ[new]?=some (.arr true esz (R.take m)):=by rw[<-hs];have:=(dS.1 hn).1;simp[this]
 have L: ∀k,k≠b->k≠new->s.σ[k]?=s0.σ[k]?:=λk h1 h2=>by rw[<-hs];simp only[List.getElem?_set];rw[if_neg (Ne.symm h2),if_neg (Ne.symm h1)]
 have hl:s.σ.length=s0.σ.length:=by rw[<-hs];simp
 have H:s.g.μ new=s0.g.μ b:=by rw[<-hs];exact if_pos rfl
 have O:s.g.μ b=none:=by rw[<-hs];show(if b=new then s0.g.μ b else if b=b then none else s0.g.μ b)=none;rw[if_neg (Ne.symm F),if_pos rfl]
 have I: ∀k,k≠b->k≠new->s.g.μ k=s0.g.μ k:=λk h1 h2=>by rw[<-hs];show(if k=new then s0.g.μ b else if k=b then none else s0.g.μ k)=_;rw[if_neg h2,if_neg h1]
 have z:s.g.C=s0.g.C:=by rw[<-hs]
 have D:s.w=s0.w:=by rw[<-hs]
 clear hs;have y: ∀r o,¬Wr1 s b r o:=λr o h=>by grind [Wr1]
 have A: ∀r o,Wr1 s new r o->Wr1 s0 b r o:=λr o h=>by grind [Wr1]
 have wr: ∀k r o,k≠b->k≠new->(Wr1 s k r o↔Wr1 s0 k r o):=λk r o h1 h2=>by grind [Wr1]
 have t:bJ s0 s:=by
  refine⟨by rw[D];exact nK.refl _ _,λr o h=>by rw[z];exact h,λr o h=>.inl (by rw[z]at h;exact h),λr o ⟨k,h⟩=>?_,by omega,λk cs h=>?_,λk wm K rows h=>?_⟩;by_cases n:k=b;exact absurd (n▸h) (y r o);by_cases q:k=new;exact .inl ⟨b,A r o (q▸h)⟩;exact .inl ⟨k,(wr k r o n q).1 h⟩;have n:k≠b:=λe=>by rw[e,hb]at h;cases h
  have q:k≠new:=λe=>by rw[e,hn]at h;cases h
  exact⟨⟨cs,by rw[L k n q];exact h,rfl⟩,I k n q⟩;have q:k≠new:=λe=>by rw[e,hn]at h;cases h
  by_cases n:k=b;subst n;rw[hb]at h;injection h with h;injection h with a1 a2 a3;subst a1 a2 a3;exact⟨false,G,B,nofun,by omega,λh=>by omega⟩;exact⟨wm,rows,by rw[L k n q];exact h,id,zQ0 _,λ_=>I k n q⟩
 refine⟨nQ hi t (λk=>k=b\/k=new) (λk h=>⟨L k (λe=>h (.inl e)) (λe=>h (.inr e)),I k (λe=>h (.inl e)) (λe=>h (.inr e))⟩) (λk r o v _ _ h=>by rw[D];exact h) ?_ ?_ ?_ ?_ ?_ ?_,t⟩;rintro k cs (rfl|rfl) h;rw[B]at h;cases h;rw[E]at h;cases h;rintro k wm K rows (rfl|rfl) h;rw[B]at h;injection h with h;injection h with a1 a2 a3;subst a1 a2 a3;exact .inl ⟨O,.inr rfl⟩;rw[E]at h;injection h with h;injection h with a1 a2 a3;subst a1 a2 a3;rcases J with⟨N,h1⟩|⟨r,c,et,fz,N,P,M,hlen,T,hf⟩;refine .inl ⟨by rw[H];exact N,.inl ?_⟩;rcases h1 with h1|h1;rw[h1];simp;cases h1;refine .inr ⟨r,c,et,fz,by rw[H];exact N,by rw[D];exact P,λrow h=>M row (pt h),zQ1 (zQ4 esz (by rw[uV];omega)) hlen,λi j row x h1 h2=>?_,hf⟩;rw[QJ]at h1;split at h1;obtain⟨⟨u,S,Q⟩,_⟩:=T i j row x h1 h2;exact⟨⟨u,S,Q.mono hi t⟩,nofun⟩;cases h1;rintro b1 b2 r o (rfl|rfl) h1 h2;exact absurd h1 (y r o);by_cases n:b2=b;exact absurd (n▸h2) (y r o);by_cases q:b2=b1;exact q.symm;exact absurd (hi.apart b b2 r o (A r o h1) ((wr b2 r o n q).1 h2)).symm n;intro r o h;rw[z]at h;rw[D];exact(hi.const r o h).1;rintro r o k h (rfl|rfl) h1;exact y r o h1;rw[z]at h;exact(hi.const r o h).2 b (A r o h1);intro r o k h h1 _ _;rw[z]at h;exact h1 h
section
variable {P:Program} {F:Orc} {s:Sn} {a:Act} {env:List (Nat×AV)} {o:Oper} {new:Nat} {e:Eff}
theorem JQo(hi:Inv s)(he:bV s a.tmps env)(hn:s.σ[new]?=some .dead){esz zero x hh}(h:(opR F (.shr esz zero x hh) new).run ⟨env,s.σ⟩=some e)(hc:bD P (.shr esz zero x hh) o.op=true):cA P o a s e:=by
 simp only[opR]at h;obtain⟨u,h1,L⟩:=bind_some h;obtain⟨l,h2,C⟩:=bind_some L;clear h L;have h:=C;clear C;unfold bD at hc;simp only at hc;split at hc
 case h_2=>cases hc
 rename_i t V hi' B;simp only[aY]at hc;obtain⟨⟨W,Y⟩,ht⟩:=hc;have O:=bR he h1 W;unfold LV at h;split at h
 case h_2=>cases h
 rename_i b i n U k;simp only[RM.run]at h;split at h
 case h_2=>cases h
 rename_i blk hb;split at h
 case h_2=>cases h
 rename_i ez rows;have hb:s.σ[b]?=some (.arr true ez rows):=hb;split at h
 case isFalse=>cases h
 rename_i hk;obtain⟨rfl,rfl,a8,M,a7⟩:=hk;simp only[RM.run]at h;injection h with h;subst h;split at ht
 case h_2=>cases ht
 rename_i el D;simp only[beq_iff_eq]at ht;have H:sI n none (some (.p (.i U k)))=some (0,k.toNat):=by unfold sI pQ;simp only;rw[if_pos ⟨M,by omega⟩]
 have E: ∀cap,n<=cap->(Instr.sliceBounds true n cap none (some (a.eval hi')) none).run P s.w=.ok (0,k.toNat,cap) s.w:=λcap g=>
  (XE (P:=P) (isSlice:=true) he (lo:=none) (lo':=none) (hi:=some hh) (hi':=some hi') rfl (JLd h2) rfl Y H g s.w).1
 obtain⟨g',K,i2,J⟩:=JFx (m:=k.toNat) (G:=rows++[zero]) hi (by simp) hb hn;have j:((s.σ.set b (.arr false esz (rows++[zero]))).set new (.arr true esz (rows.take k.toNat)))[new]?=some (.arr true esz (rows.take k.toNat)):=by have:=(dS.1 hn).1;simp[this]
 have lt:(rows.take k.toNat).length=k.toNat:=by rw[uV];omega
 generalize S:a.eval V=z at O;cases O with
 |slr _ _ _ _ wm Z rows' q0 y q2 q3=>
  rw[hb]at y;injection y with y;injection y with a1 a2 a3;subst a1 a2 a3;rcases q3 (by omega)with⟨m,_,R,I⟩|⟨r,cap,T,e1,fz,m,I,g,Q,N⟩;subst I;have q:k.toNat=0:=by omega
  have A:=E 0 (by omega);refine hJ (e:=⟨.slr new 0 k.toNat,[(b,.arr false esz (rows++[zero])),(new,.arr true esz (rows.take k.toNat))]⟩) (v:=.slice none 0 0) (g':=g') ?_ i2 J (.slr new 0 k.toNat _ true esz _ ⟨none,0,by rw[q],.inl q⟩ j (by omega) λ_=>.inl ⟨K.trans m,rfl,q,rfl⟩);simp only[execOp,B,S];rw[R]at A;simp[Instr.sliceAt,Instr.slice,run_underlying (jN D),A,iW ht,q];subst I;have A:=E cap g;refine hJ (e:=⟨.slr new 0 k.toNat,[(b,.arr false esz (rows++[zero])),(new,.arr true esz (rows.take k.toNat))]⟩) (v:=.slice (some ⟨r,0,none⟩) k.toNat cap) (g':=g') ?_ i2 J (.slr new 0 k.toNat _ true esz _ ⟨_,_,rfl,.inr nofun⟩ j (by omega) λ_=>.inr ⟨r,cap,T,e1,fz,K.trans m,by simp,by omega,Q,N⟩);simp only[execOp,B,S];simp[Instr.sliceAt,Instr.slice,run_underlying (jN D),A,iW ht,Addr.add]
end
end Go.Am
end
section
namespace Go.Am
theorem km: ∀{e j:List KD} {xs g:List PV} {r:Bool},cM (e++j) xs g=some r->
  ∃r1 r2,cM e (xs.take e.length) (g.take e.length)=some r1/\cM j (xs.drop e.length) (g.drop e.length)=some r2/\r=(r1&&r2)
 |[],j,xs,g,r,h=>⟨true,r,by simp[cM],by simpa using h,by simp⟩
 |k::e,j,xs,g,r,h=>by
  cases xs with
  |nil=>grind [cM]
  |cons x xs=>
   cases g with
   |nil=>grind [cM]
   |cons y g=>
    simp only[AY,cM]at h;split at h;rename_i a c n hc;injection h with h;subst h;obtain⟨r1,r2,h1,h2,o⟩:=km hc;grind [cM];cases h
theorem VK: ∀{ks:List KD} {xs e:List PV} {r:Bool},cM ks xs e=some r->xs.length=ks.length/\e.length=ks.length
 |[],xs,e,r,h=>by grind [cM]
 |k::ks,xs,e,r,h=>by
  cases xs with
  |nil=>grind [cM]
  |cons x xs=>
   cases e with
   |nil=>grind [cM]
   |cons y e=>
    simp only[cM]at h;split at h;rename_i a c g hc;obtain⟨h1,h2⟩:=VK hc;simp[h1,h2];cases h
section
variable {P:Program} {F:Orc} {s:Sn} {a:Act} {env:List (Nat×AV)} {o:Oper} {new:Nat} {e:Eff}
def qs(P:Program)(t:TypeId)(vs:List Value)(X:Value):Prop:=(agT P t=some true/\X=.agg vs.toArray)\/(agT P t=some false/\ ∃v,vs=[v]/\X=v)
theorem WE{t:TypeId}{n off:Nat}{cs:Array Value}(hs:szT P t=some n)(j:off+n<=cs.size)(g:(agT P t=some true)\/(agT P t=some false/\n=1))(w:World):
  ∃X,(part t cs off).run P w=.ok X w/\qs P t ((cs.toList.drop off).take n) X:=by
 rcases g with h|⟨h,rfl⟩;refine⟨.agg (cs.extract off (off+n)),by simp_all [part,II,iW],.inl ⟨h,?_⟩⟩
 congr 1
 grind;have e:off<cs.size:=by omega
 have k:cs[off]?=some cs[off]:=by simp[e]
 refine⟨cs[off],by simp_all [part,II],.inr ⟨h,cs[off],?_,rfl⟩⟩;grind [List.drop_eq_getElem_cons]
def oQ(s:Sn)(xs:List PV)(vs:List Value):Prop:=xs.length=vs.length/\ ∀(i:Nat) x v,xs[i]?=some x->vs[i]?=some v->J08 s.w s.g.C x v
theorem oQ.take{xs vs}(h:oQ s xs vs)(n:Nat):oQ s (xs.take n) (vs.take n):=
 ⟨by simp[h.1],λi x v e g=>by
  rw[QJ]at e g;split at e;rename_i hi;rw[if_pos hi]at g;exact h.2 i x v e g;cases e⟩
theorem oQ.drop{xs vs}(h:oQ s xs vs)(n:Nat):oQ s (xs.drop n) (vs.drop n):=
 ⟨by simp[h.1],λi x v g e=>by
  rw[Hh]at g e;exact h.2 _ x v g e⟩
def EqK(P:Program)(s:Sn)(d:Nat)(t:TypeId)(ks:List KD):Prop:= ∀(e:Nat) (w:World) (xs h:List PV) (vs g:List Value) (r:Bool) (X Y:Value),cM ks xs h=some r->oQ s xs vs->oQ s h g->qs P t vs X->qs P t g Y->(Op.equalIn (d+e) t X Y).run P w=.ok r w
theorem Ao{d:Nat}{t:TypeId}{ks:List KD}(h:qT P d t=some ks):agT P t=some true\/(agT P t=some false/\ks.length=1):=by cases d<;>grind [qT,agT,BB]
theorem zh(d e:Nat)(A: ∀t ks,qT P d t=some ks->EqK P s d t ks)(w:World){xs q:List PV}{vs o:List Value}(hx:oQ s xs vs)(hy:oQ s q o):
  ∀{fs:List Field} {off:Nat} {ks:List KD} {r:Bool},OP P (qT P d) off fs=some ks->cM ks (xs.drop off) (q.drop off)=some r->
   (Op.eqFields (d+e) vs.toArray o.toArray fs).run P w=.ok r w
 |[],off,ks,r,h,hc=>by simp[OP]at h;subst h;cases hxd:xs.drop off<;>cases hyd:q.drop off<;>simp[hxd,hyd,cM]at hc;simp_all [Op.eqFields]
 |f::fs,off,ks,r,h,hc=>by
  unfold OP at h;split at h;cases h
  ·rename_i J;have j:f.name≠ "_" :=λe=>J (.inl e);have v:f.offset=off:=by simp_all
   split at h;cases h
   ·rename_i C k;split at h
    ·rename_i g;obtain⟨g,D⟩:=g;split at h
     ·rename_i M x;injection h with h;subst h;obtain⟨B,N,y,z,rfl⟩:=km hc;obtain⟨G,L⟩:=VK y;rw[uV,xI]at G L;rw[uR,uR]at z;have n:=Ao k;obtain⟨X,E,H⟩:=WE (P:=P) (cs:=vs.toArray) (off:=off) g (by have:=hx.1;simp;omega) n w;obtain⟨Y,I,F⟩:=WE (P:=P) (cs:=o.toArray) (off:=off) g (by have:=hy.1;simp;omega) n w;have K:=A f.type C k e w _ _ _ _ B X Y y ((hx.drop off).take _) ((hy.drop off).take _) (by simpa using H) (by simpa using F);have ih:=zh d e A w hx hy x z;simp only[Op.eqFields];rw[if_pos j];simp only[AQ,v,E,I,K,uT,Sem.run_ite];cases B
      all_goals simp_all
     cases h
    cases h
theorem xo(d e:Nat){t:TypeId}{ks:List KD}(q:EqK P s d t ks)(hk:qT P d t=some ks)(g:szT P t=some ks.length)(j:0<ks.length)(w:World){xs n:List PV}{vs k:List Value}(hx:oQ s xs vs)(hy:oQ s n k):
  ∀{m i:Nat} {r:Bool},cM (List.replicate m ks).flatten (xs.drop (i*ks.length)) (n.drop (i*ks.length))=some r->
   (Op.eqItems (d+e) t ks.length vs.toArray k.toArray (List.range' i m)).run P w=.ok r w
 |0,i,r,hc=>by simp only[List.replicate_zero,List.flatten_nil]at hc;cases hxd:xs.drop (i*ks.length)<;>cases hyd:n.drop (i*ks.length)<;>simp[hxd,hyd,cM]at hc;simp_all [Op.eqItems]
 |m+1,i,r,hc=>by
  rw[List.replicate_succ,vC]at hc;obtain⟨v,D,o,y,rfl⟩:=km hc;obtain⟨A,F⟩:=VK o;rw[uV,xI]at A F;rw[uR,uR]at y;have h:=Ao hk;obtain⟨X,x,B⟩:=WE (P:=P) (cs:=vs.toArray) (off:=i*ks.length) g (by have:=hx.1;simp;omega) h w;obtain⟨Y,C,z⟩:=WE (P:=P) (cs:=k.toArray) (off:=i*ks.length) g (by have:=hy.1;simp;omega) h w;have E:=q e w _ _ _ _ v X Y o ((hx.drop _).take _) ((hy.drop _).take _) (by simpa using B) (by simpa using z);have ih:=xo d e q hk g j w hx hy (m:=m) (i:=i+1) (r:=D) (by
   grind)
  rw[List.range'_succ];simp only[Op.eqItems,AQ,x,C,E,uT,Sem.run_ite];cases v
  all_goals simp_all
theorem eqK: ∀(d:Nat) (t:TypeId) (ks:List KD),qT P d t=some ks->EqK P s d t ks
 |0,t,ks,h=>by grind [qT]
 |d+1,t,ks,h=>by
  intro e w xs Q vs T r X Y hc J I H G;have M:d+1+e=(d+e)+1:=by omega
  rw[M];have hl:=VK hc;unfold qT at h;have q: ∀{k:KD},agT P t=some false->ks=[k]-> ∃x y,xs=[x]/\Q=[y]/\xF k x y=some r/\J08 s.w s.g.C x X/\J08 s.w s.g.C y Y:=(by rintro k F rfl;obtain⟨x,rfl⟩:=cw.1 hl.1;obtain⟨y,rfl⟩:=cw.1 hl.2;rcases H with⟨o,_⟩|⟨_,v,rfl,rfl⟩;simp_all;rcases G with⟨o,_⟩|⟨_,u,rfl,rfl⟩;simp_all;refine⟨x,y,rfl,rfl,?_,J.2 0 x _ rfl rfl,I.2 0 y _ rfl rfl⟩;grind [cM]);split at h<;>rename_i S
  injection h with h;subst h;obtain⟨x,y,rfl,rfl,j,A,B⟩:=q (by grind [agT,BB]) rfl;cases A<;>cases B<;>simp only[xF]at j<;>try (cases j;done)
  grind [run_equalIn_bool];injection h with h;subst h;obtain⟨x,y,rfl,rfl,j,A,B⟩:=q (by grind [agT,BB]) rfl;cases A<;>cases B<;>simp only[xF]at j<;>try (cases j;done)
  grind [run_equalIn_int];injection h with h;subst h;obtain⟨x,y,rfl,rfl,j,A,B⟩:=q (by grind [agT,BB]) rfl;cases A<;>cases B<;>simp only[xF]at j<;>try (cases j;done)
  simp_all [run_equalIn_string];rename_i fs;split at h;cases h;rename_i L;have F:agT P t=some true:=by grind [agT,BB]
  rcases H with⟨_,rfl⟩|⟨o,_⟩;rcases G with⟨_,rfl⟩|⟨o,_⟩;have N:P.fieldsOf t=fs:=by grind [Program.fieldsOf]
  rw[run_equalIn_struct w (d+e) t _ _ (by simp_all) (by simpa using L),N];exact zh d e (λt ks R=>eqK d t ks R) w J I h (by simpa using hc);simp_all;simp_all;rename_i n el;split at h;rename_i K E;split at h;rename_i z;injection h with h;subst h;have F:agT P t=some true:=by grind [agT,BB]
  rcases H with⟨_,rfl⟩|⟨o,_⟩;rcases G with⟨_,rfl⟩|⟨o,_⟩;obtain⟨i,hi,O⟩:=iu z.1;have D:P.cellsOf el=K.length:=by grind [Program.cellsOf]
  rw[run_equalIn_array w (d+e) _ _ S hi,D,List.range_eq_range'];exact xo d e (eqK d el K E) E z.1 z.2 w J I (i:=0) (by simpa using hc);simp_all;simp_all;cases h;cases h;cases h
theorem JDr(hi:Inv s)(he:bV s a.tmps env){op ks x y}(h:(opR F (.bin op (.flat ks) x y) new).run ⟨env,s.σ⟩=some e)(hc:bD P (.bin op (.flat ks) x y) o.op=true):cA P o a s e:=by
 simp only[opR]at h;obtain⟨u,h1,D⟩:=bind_some h;obtain⟨v,h2,z⟩:=bind_some D;obtain⟨r,j,rfl⟩:=hI z;clear h D z;unfold bD at hc;simp only at hc;split at hc
 ·rename_i U t B A ty T;simp only[aY,beq_iff_eq]at hc;obtain⟨⟨rfl,k⟩,⟨⟨Q,M⟩,n⟩,L⟩:=hc;have G:=bR he h1 k;have H:=bR he h2 Q;generalize V:a.eval B=Z at G;generalize W:a.eval A=Y at H;simp only[oT]at j;split at j
  ·rename_i p q;cases G with
   |data _ vs J I=>
    cases H with
    |data _ g N R=>
     have hb: ∃b,cM ks p q=some b:=by cases hcm:cM ks p q<;>simp_all [jX]
     obtain⟨b,hb⟩:=hb;rw[hb]at j;obtain⟨O,rfl⟩:=wE j;have E:(eqGuard op t B A (.agg vs) (.agg g)).run P s.w=.ok () s.w:=run_eqGuard_agg s.w op t B A vs g (by simpa using L);have S:=eqK (P:=P) (s:=s) 100 t ks M 9900 s.w p q vs.toList g.toList b (.agg vs) (.agg g) hb ⟨by simpa using J,λi x v k C=>I i x v k (by simpa using C)⟩ ⟨by simpa using N,λi x v k C=>R i x v k (by simpa using C)⟩ (.inl ⟨n,by simp⟩) (.inl ⟨n,by simp⟩);have K:(binOp op t (.agg vs) (.agg g)).run P s.w=.ok (.bool (if op=.eql then b else !b)) s.w:=by
      rcases O with rfl|rfl
      all_goals simp_all [run_eql_struct,run_neq_struct]
     simp_all [JR,execOp,rH]
  cases j
 cases hc
end
end Go.Am
end
section
namespace Go.Am
theorem J08.weaken{w:World}{C e:Nat->Nat->Prop}(h: ∀r o,C r o->e r o){x v}(hr:J08 w C x v):J08 w e x v:=by
 induction hr with
 |b x=>exact .b x
 |i k n=>exact .i k n
 |s l=>exact .s l
 |np=>exact .np
 |nf=>exact .nf
 |sl0 esz a cap=>exact .sl0 esz a cap
 |sl esz rows r o cap vals h1 h2 g _ ih=>exact .sl esz rows r o cap vals h1 h2 (λi j row x hr q=>⟨h _ _ (g i j row x hr q).1,(g i j row x hr q).2⟩) ih
 |slc esz rows a _ ih=>exact .slc esz rows a ih
theorem Lu{s c:Sn}(hi:Inv s)(hw:c.w=s.w)(q: ∀k cs,c.σ[k]?=some (.box cs)->RY c k cs)(v: ∀k wm esz rows,c.σ[k]?=some (.arr wm esz rows)->SX c k wm esz rows)
  (id:Nat->Nat) (x: ∀e j,e<c.σ.length->j<c.σ.length->id e=id j->e=j) (wr: ∀k r o,Wr1 c k r o->Wr1 s (id k) r o)
  (y: ∀r o,c.g.C r o->r<s.w.heap.size/\ ∀k,¬Wr1 c k r o):Inv c:=by
 have n: ∀k r o,Wr1 c k r o->k<c.σ.length:=(by grind [Wr1]);exact⟨q,v,λe j r o h1 h2=>x e j (n _ _ _ h1) (n _ _ _ h2) (hi.apart _ _ _ _ (wr _ _ _ h1) (wr _ _ _ h2)),λr o h=>by grind⟩
theorem wD{m ids sto}: ∀{xs e:List AV},fin.finL m ids sto xs=some e->xs.length=e.length/\ ∀(i:Nat) x y,xs[i]?=some x->e[i]?=some y->fin m ids sto x=some y
 |[],e,h=>by grind [fin.finL]
 |x::xs,e,h=>by
  simp only[fin.finL]at h;split at h;rename_i y l g hl;injection h with h;subst h;obtain⟨h1,h2⟩:=wD hl;grind;cases h
theorem WX{m ids sto}: ∀{xs e:List Blk},sK m ids sto xs=some e->xs.length=e.length/\ ∀(i:Nat) x y,xs[i]?=some x->e[i]?=some y->gH m ids sto x=some y
 |[],e,h=>by grind [sK]
 |x::xs,e,h=>by
  simp only[sK]at h;split at h;rename_i y l g hl;injection h with h;subst h;obtain⟨h1,h2⟩:=WX hl;grind;cases h
theorem zt{sto}: ∀{ids:List Nat} {e:List Blk},yB sto ids=some e->ids.length=e.length/\ ∀(i:Nat) b y,ids[i]?=some b->e[i]?=some y->sto[b]?=some y
 |[],e,h=>by grind [yB]
 |x::xs,e,h=>by
  simp only[yB]at h;split at h;rename_i y l g hl;injection h with h;subst h;obtain⟨h1,h2⟩:=zt hl;grind;cases h
theorem WO{b:Nat}: ∀{ids:List Nat} {k j:Nat},eY b ids k=some j->k<=j/\ids[j-k]?=some b
 |[],k,j,h=>by grind [eY]
 |x::r,k,j,h=>by
  simp only[eY]at h;split at h;simp_all;obtain⟨h1,h2⟩:=WO h;grind
theorem kw{b:Nat}: ∀{ids:List Nat} {k:Nat},eY b ids k=none->b∉ids
 |[],_,_=>by simp
 |x::r,k,h=>by
  simp only[eY]at h;split at h;cases h;rename_i g;simp only[cV,not_or];exact⟨λe=>g e.symm,kw h⟩
theorem XB: ∀{l:List Nat},kH l=true->l.Nodup|[],_=>List.nodup_nil|x::r,h=>by simp only[kH,aY,GY]at h;refine List.nodup_cons.2 ⟨?_,XB h.2⟩;simp_all
theorem WW{α:Type}: ∀{l:List α},l.Nodup-> ∀{i j:Nat} {x:α},l[i]?=some x->l[j]?=some x->i=j
 |[],_,i,j,x,h,_=>by simp at h
 |y::l,h,i,j,x,h1,h2=>by
  obtain⟨e,hl⟩:=List.nodup_cons.1 h;cases i with
  |zero=>
   grind
  |succ i=>
   cases j with
   |zero=>grind
   |succ j=>exact congrArg (· +1) (WW hl (i:=i) (j:=j) (x:=x) (by simpa using h1) (by simpa using h2))
def JSN(s:Sn)(m:Nat)(ids:List Nat):Nat->Nat->Prop:=λr o=>s.g.C r o\/(∃b wm esz rows,m<=b/\b∉ids/\s.σ[b]?=some (Blk.arr wm esz rows)/\s.g.μ b=some (r,0)/\o<rows.length*esz)\/ ∃b cs,m<=b/\b∉ids/\s.σ[b]?=some (Blk.box cs)/\Wr1 s b r o
def lI(s:Sn)(m:Nat)(ids:List Nat)(σ:List Blk):Sn:=
 ⟨σ,⟨λk=>if k<m then s.g.μ k else match ids[k-m]? with
  |some b=>s.g.μ b
  |none=>none,JSN s m ids⟩,s.w⟩
section
variable {s:Sn} {m:Nat} {ids:List Nat} {l q q':List Blk}
def fT(m:Nat)(ids:List Nat)(k:Nat):Nat:=if k<m then k else(ids[k-m]?).getD 0
structure sn(s:Sn)(m:Nat)(ids:List Nat)(σ:List Blk):Prop where
 inv:Inv s
 le:m<=s.σ.length
 nodup:ids.Nodup
 ge: ∀b∈ids,m<=b
 len:σ.length=m+ids.length
 blk: ∀k x,σ[k]?=some x-> ∃y,s.σ[fT m ids k]?=some y/\gH m ids s.σ y=some x
variable {σ:List Blk} (h:sn s m ids σ)
theorem vH(k:Nat)(hk:k<m+ids.length):(lI s m ids σ).g.μ k=s.g.μ (fT m ids k):=by
 grind [lI,fT]
include h in
theorem jf{k:Nat}{x:Blk}(hk:σ[k]?=some x):k<m+ids.length/\ ∃y,s.σ[fT m ids k]?=some y/\gH m ids s.σ y=some x:=by have:=JD hk;exact⟨by rw[<-h.len];exact this,h.blk k x hk⟩
include h in
theorem NS{b k:Nat}{y:Blk}(g:fT m ids k=b)(hk:k<m+ids.length)(hb:s.σ[b]?=some y): ∃x,σ[k]?=some x/\gH m ids s.σ y=some x:=by
 have e:k<σ.length:=by rw[h.len];exact hk
 obtain⟨j,h1,h2⟩:=h.blk k σ[k] (bC e);simp_all
theorem vV{k:Nat}(hk:k<m):fT m ids k=k:=by simp[fT,hk]
theorem ir{b j:Nat}(hj:eY b ids m=some j):fT m ids j=b/\j<m+ids.length:=by
 obtain⟨h1,h2⟩:=WO hj;grind [fT]
include h in
theorem gz{x y:AV}{v:Value}(hr:JK s x v):fin m ids s.σ x=some y->JK (lI s m ids σ) y v:=by
 have J: ∀r o,s.g.C r o->(lI s m ids σ).g.C r o:=λr o h=>.inl h
 induction hr generalizing y with
 |p c v hp=>intro hf;simp[fin]at hf;subst hf;exact .p _ _ (hp.weaken J)
 |data cs vs h1 h2=>intro hf;simp[fin]at hf;subst hf;exact .data _ _ h1 λi x v A B=>(h2 i x v A B).weaken J
 |agg cs vs h1 K h2 ih=>
  intro hf;simp only[fin]at hf;split at hf;rename_i l hl;obtain⟨L,O⟩:=wD hl;have hrel: ∀(i:Nat) y v,l[i]?=some y->vs[i]?=some v->JK (lI s m ids σ) y v:=(by grind [JD]);split at hf;rename_i q hq;injection hf with hf;subst hf;have:=OY hq;subst this;refine .data _ _ (by simp_all) λi c v hc B=>?_;have:=hrel i (.p c) v (by simp[hc]) B;cases this<;>simp_all
  injection hf with hf;subst hf;exact .agg _ _ (by omega) K hrel;cases hf
 |tup cs vs h1 h2 ih=>
  intro hf;simp only[fin]at hf;split at hf;rename_i l hl;injection hf with hf;subst hf;obtain⟨L,O⟩:=wD hl;refine .tup _ _ (by omega) λi y v Y B=>?_;grind [JD];cases hf
 |ptr b off r o Z hb=>
  intro hf;obtain⟨cs,hb⟩:=hb;have go: ∀k,fT m ids k=b->k<m+ids.length->JK (lI s m ids σ) (.ptr k off) (.pointer (some ⟨r,o+off,none⟩)):=(by intro k H F;obtain⟨x,A,z⟩:=NS h H F hb;simp only[gH]at z;split at z;injection z with z;subst z;exact .ptr k off r o (by grind [vH]) ⟨_,A⟩;cases z);simp only[fin]at hf;split at hf;grind [vV];rename_i U;split at hf;grind [ir];rename_i D;rw[hb]at hf;simp only[gT]at hf;obtain⟨p,hp,rfl⟩:=hf;have:=OY hp;subst this;obtain⟨r',o',c,e,fz,I,hh,G,A,a9⟩:=h.inv.box _ _ hb;rw[Z]at I;injection I with I;injection I with M e2;subst M e2;have at_: ∀(j:Nat) x,p[j]?=some x-> ∃v,c[o+j]?=some v/\J08 s.w s.g.C x v:=λj x E=>by
   obtain⟨v,h1,h2,_⟩:=A j (.p x) (by simp[E]);cases h2 with
   |p _ _ h2=>exact⟨v,h1,h2⟩
  refine .cp p off r o (λj=>(c[o+j]?).getD undef) (λj x E=>?_) λj x E=>?_;obtain⟨v,h1,h2⟩:=at_ j x E;refine⟨.inr (.inr ⟨b,_,by omega,kw D,hb,?_⟩),?_⟩;have:=JD E;simp only[Wr1,hb];exact⟨o,Z,by omega,by simp;omega⟩;show cellAt s.w r (o+j)=_;simp[cellAt,hh,h1];obtain⟨v,h1,h2⟩:=at_ j x E;rw[h1];exact h2.weaken J
 |cp cs off r o vals V p2=>intro hf;simp[fin]at hf;subst hf;exact .cp cs off r o vals (λj x A=>⟨J _ _ (V j x A).1,(V j x A).2⟩) λj x A=>(p2 j x A).weaken J
 |slr b i n v wm esz rows K hb G B=>
  intro hf;have go: ∀k,fT m ids k=b->k<m+ids.length->JK (lI s m ids σ) (.slr k i n) v:=by
   intro k H F;obtain⟨x,A,z⟩:=NS h H F hb;simp only[gH]at z;injection z with z;subst z;refine .slr k i n v wm esz rows K A G λe=>?_;have ac:(lI s m ids σ).g.μ k=s.g.μ b:=by grind [vH]
   rcases B e with⟨P,N,q2,W⟩|⟨r,cap,c,M,fz,P,q⟩;exact .inl ⟨by simp_all,N,q2,W⟩;exact .inr ⟨r,cap,c,M,fz,by simp_all,q⟩
  simp only[fin]at hf;split at hf;grind [vV];rename_i U;split at hf;grind [ir];rename_i D;rw[hb]at hf;simp only at hf;split at hf;rename_i e;injection hf with hf;subst hf;obtain⟨a,cap,L,O,R,T⟩:=lJ.of_slr h.inv (.slr b i n v wm esz rows K hb G B) hb e;refine .p _ _ (mj (s:=lI s m ids σ) L O R (T.imp id ?_));rintro⟨r,o,rfl,A⟩;refine⟨r,o,rfl,λk j row x F E=>⟨.inr (.inl ⟨b,wm,esz,rows,by omega,kw D,hb,?_⟩),?_⟩⟩;rcases B e with⟨P,N,q2,W⟩|⟨r',a3,c,M,fz,P,N,_⟩;simp_all;rw[L]at N;injection N with v1 v2 v3;injection v1 with v1;injection v1 with v1 v4;subst v1 v4;refine⟨P,?_⟩;have S:=JD F;have Q:=JD E;rw[R row (lT F)]at Q;rw[xI]at S;have:=pK (a:=i+k) (b:=j) (n:=rows.length) (e:=esz) (by omega) Q;grind;obtain⟨u,hu,hr⟩:=A k j row x F E;exact⟨u,hu,hr.weaken J⟩;cases hf
 |ep b ext i off v wm esz rows K hb G B=>
  intro hf;have go: ∀k,fT m ids k=b->k<m+ids.length->JK (lI s m ids σ) (.ep k ext i off) v:=(by intro k H F;obtain⟨x,A,z⟩:=NS h H F hb;simp only[gH]at z;injection z with z;subst z;refine .ep k ext i off v wm esz rows K A G λM e2=>?_;grind [vH]);grind [fin,vV,Option.map_eq_some_iff,ir]
 |fn f first caps fs cs h1 h2 _ _ aa a8=>
  intro hf;simp only[fin]at hf;split at hf
  ·rename_i a c ha hc;injection hf with hf;subst hf;obtain⟨L,O⟩:=wD ha;obtain⟨R,T⟩:=wD hc;refine .fn f a c fs cs (by omega) (by omega) (λi y v Y B=>?_) (λi y v Y B=>?_)
   all_goals grind [JD]
  cases hf
 |unk x=>intro hf;simp[fin]at hf;subst hf;exact .unk x
 |pre=>intro hf;simp[fin]at hf
include h in
theorem NL(k r o:Nat)(hw:Wr1 (lI s m ids σ) k r o):k<m+ids.length/\Wr1 s (fT m ids k) r o:=by
 unfold Wr1 at hw;have g:(lI s m ids σ).σ=σ:=rfl;rw[g]at hw;cases hk:σ[k]? with
 |none=>simp_all
 |some x=>obtain⟨e,y,j,hf⟩:=jf h hk;refine⟨e,?_⟩;rw[hk]at hw;rw[vH k e]at hw;unfold Wr1;rw[j];cases y<;>grind [gH,wD]
include h in
theorem Nk:Inv (lI s m ids σ):=by
 have hi:=h.inv;have S: ∀A z,A<m+ids.length->z<m+ids.length->fT m ids A=fT m ids z->A=z:=by
  intro A z h1 h2 C;simp only[fT]at C;split at C<;>split at C
  exact C;rename_i a b;have:z-m<ids.length:=by omega
  have:=h.ge ids[z-m] (by simp);grind;rename_i a b;have:=h.ge (ids[A-m]'(by omega)) (by simp);grind;have Y:A-m<ids.length:=by omega
  have W:z-m<ids.length:=by omega
  simp[Y,W]at C;have:=WW h.nodup (bC Y) (by rw[C];exact bC W);omega
 refine Lu hi rfl ?_ ?_ (fT m ids) (λA z h1 h2 C=>S A z (by rw[<-h.len];exact h1) (by rw[<-h.len];exact h2) C) (λk r o n=>(NL h k r o n).2) ?_;intro k cs P;obtain⟨I,y,Q,hf⟩:=jf h P;cases y with
 |dead=>grind [gH]
 |arr=>grind [gH]
 |box T=>
  simp only[gH]at hf;split at hf;rename_i l hl;injection hf with hf;injection hf with hf;subst hf;obtain⟨A,z⟩:=wD hl;obtain⟨r,o,c,e,fz,g,F,a2,K,L⟩:=hi.box _ _ Q;refine⟨r,o,c,e,fz,by grind [vH],F,by omega,λi x a0=>?_,by simp_all⟩;grind [JD,gz];cases hf
 intro k wm esz rows P;obtain⟨I,y,Q,hf⟩:=jf h P;cases y with
 |dead=>grind [gH]
 |box T=>grind [gH]
 |arr w e rs=>
  simp[gH]at hf;obtain⟨rfl,rfl,rfl⟩:=hf;rcases hi.arr _ _ _ _ Q with⟨g,R⟩|⟨r,c,e,fz,g,F,E,hl,K,L⟩;exact .inl ⟨by grind [vH],R⟩;refine .inr ⟨r,c,e,fz,by grind [vH],F,E,hl,λi j row x h1 h2=>?_,L⟩;obtain⟨⟨v,Z,R⟩,hc⟩:=K i j row x h1 h2;exact⟨⟨v,Z,R.weaken λr o h=>.inl h⟩,λe=>.inl (hc e)⟩
 intro r o hc;rcases hc with hc|⟨b,wm,esz,rows,V,U,H,B,a1⟩|⟨b,cs,V,U,H,B⟩;exact⟨(hi.const r o hc).1,λk n=>(hi.const r o hc).2 _ (NL h k r o n).2⟩;rcases hi.arr _ _ _ _ H with⟨g,_⟩|⟨r',c,e,fz,g,F,E,hl,K,_⟩;simp_all;rw[B]at g;injection g with g;injection g with g _;subst g;refine⟨zO F,λk n=>?_⟩;obtain⟨I,n⟩:=NL h k r o n;have D:fT m ids k≠b:=(by grind [fT]);cases wm with
 |true=>
  refine D (hi.apart _ _ _ _ n ?_);grind [Wr1]
 |false=>
  have N:0<esz:=(by grind);have J:o/esz<rows.length:=Nat.div_lt_of_lt_mul (by grind);have G:rows[o/esz]?=some (rows[o/esz]'J):=bC _;have hlen:=E _ (lT G);have O:o%esz<(rows[o/esz]'J).length:=by rw[hlen];exact Nat.mod_lt _ N
  have M:=(K _ _ _ _ G (bC O)).2 rfl;have:o/esz*esz+o%esz=o:=by grind [Nat.div_add_mod]
  rw[this]at M;exact(hi.const r o M).2 _ n
 refine⟨?_,λk n=>?_⟩;obtain⟨r',o',c,e,fz,g,F,_⟩:=hi.box _ _ H;simp only[Wr1,H]at B;obtain⟨o0,q,_⟩:=B;rw[q]at g;injection g with g;injection g with g _;subst g;exact zO F;obtain⟨I,n⟩:=NL h k r o n;have D:fT m ids k≠b:=(by grind [fT]);exact D (hi.apart _ _ _ _ n B)
include h in
theorem zc{E:Sn}(t:bJ E s)(K:E.σ.length<=m):bJ E (lI s m ids σ):=by
 have hi:=h.inv;refine⟨t.keep,λr o hc=>.inl (t.cmono r o hc),λr o hc=>?_,λr o ⟨k,G⟩=>t.wnew r o ⟨_,(NL h k r o G).2⟩,?_,λb cs hb=>?_,λb wm esz rows hb=>?_⟩;rcases hc with hc|⟨b,wm,esz,rows,J,I,C,v,H⟩|⟨b,cs,_,_,_,v⟩;exact t.cnew r o hc;cases wm with
 |true=>have:=t.wnew r o ⟨b,by grind [Wr1]⟩;exact .inr this
 |false=>
  rcases hi.arr _ _ _ _ C with⟨n,_⟩|⟨r',c,e,fz,n,M,B,hl,y,_⟩;simp_all;rw[v]at n;injection n with n;injection n with n _;subst n;have F:0<esz:=(by grind);have w:o/esz<rows.length:=Nat.div_lt_of_lt_mul (by grind);have q:rows[o/esz]?=some (rows[o/esz]'w):=bC _;have hlen:=B _ (lT q);have A:o%esz<(rows[o/esz]'w).length:=by simp_all [Nat.mod_lt]
  have z:=(y _ _ _ _ q (bC A)).2 rfl;have:o/esz*esz+o%esz=o:=by grind [Nat.div_add_mod]
  rw[this]at z;exact t.cnew r o z
 exact .inr (t.wnew r o ⟨b,v⟩);show E.σ.length<=σ.length;rw[h.len];omega;have j:b<m:=by grind
 obtain⟨⟨cs',h1,h2⟩,D⟩:=t.box b cs hb;obtain⟨x,y,g⟩:=NS h (vV j) (by omega) h1;simp only[gH]at g;split at g;rename_i l hl;injection g with g;subst g;exact⟨⟨l,y,by grind [wD]⟩,by grind [vH,vV]⟩;cases g;have j:b<m:=by grind
 obtain⟨wm',rows',h1,h2,D,L⟩:=t.arr b wm esz rows hb;obtain⟨x,y,g⟩:=NS h (vV j) (by omega) h1;simp[gH]at g;subst g;exact⟨wm',rows',y,h2,D,λe=>by grind [vH,vV]⟩
end
end Go.Am
end
section
namespace Go.Am
def J6a(P:Program)(f:FuncId)(args:List AV)(blks:List Blk)(r:Res):Prop:=
 (∃fn,P.funcs[f]?=some fn∧fn.body.isSome=true∧(fn.name== "runtime.NumGoroutine")=false)∧
 ∀(g:Gh) (w:World) (vals:Array Value),Inv ⟨blks,g,w⟩->args.length=vals.size->(∀(i:Nat) x v,args[i]?=some x->vals[i]?=some v->JK ⟨blks,g,w⟩ x v)->
  Calls P f vals w λe w'=> ∃v g',e=.returned v/\Inv ⟨r.2,g',w'⟩/\bJ ⟨blks,g,w⟩ ⟨r.2,g',w'⟩/\JK ⟨r.2,g',w'⟩ r.1 v
def kJ(P:Program)(F:Orc):Prop:= ∀f args blks r,F f args blks=some r->J6a P f args blks r
theorem zJ{e:Ent}: ∀{es:List Ent} {k j:Nat},dN e es k=some j->k<=j/\es[j-k]?=some e
 |[],k,j,h=>by grind [dN]
 |x::r,k,j,h=>by
  simp only[dN]at h;split at h;simp_all;obtain⟨h1,h2⟩:=zJ h;grind
theorem wC{ρ:Ent->Option Nat}: ∀{xs e:List AV},ren.renL ρ xs=some e->xs.length=e.length/\ ∀(i:Nat) x y,xs[i]?=some x->e[i]?=some y->ren ρ x=some y
 |[],e,h=>by grind [ren.renL]
 |x::xs,e,h=>by
  simp only[ren.renL]at h;split at h;rename_i y l g hl;injection h with h;subst h;obtain⟨h1,h2⟩:=wC hl;grind;cases h
theorem wA{es:List Ent}{new:Nat}: ∀{xs e:List AV},bk.bkL es new xs=some e->xs.length=e.length/\ ∀(i:Nat) x y,xs[i]?=some x->e[i]?=some y->bk es new x=some y
 |[],e,h=>by grind [bk.bkL]
 |x::xs,e,h=>by
  simp only[bk.bkL]at h;split at h;rename_i y l g hl;injection h with h;subst h;obtain⟨h1,h2⟩:=wA hl;grind;cases h
def ZX(s:Sn)(ρ:Ent->Option Nat)(e:Ent)(x:Blk):Prop:=
 match e with
 | .whole b=>(∃cs l,s.σ[b]?=some (.box cs)/\ren.renL ρ cs=some l/\x=.box l)\/(∃w esz rows,s.σ[b]?=some (.arr w esz rows)/\x=.arr w esz rows)
 | .elem b ext i=> ∃esz rows row,s.σ[b]?=some (.arr true esz rows)/\ext=rows.length/\rows[i]?=some row/\x=.box (row.map .p)
section
variable {s:Sn} {env:List (Nat×AV)}
theorem js{e:List Blk}{ws:List (Nat×Blk)}{b:Nat}{x:Blk}(h:(sC ws b).run ⟨env,e⟩=some x):(upd ws e)[b]?=some x:=by
 grind [sC,RM.run,yV]
theorem JIQ{j:List Blk}{ws:List (Nat×Blk)}(k:s.σ=upd ws j){ρ:Ent->Option Nat}{e:Ent}{x:Blk}(h:(BW ws ρ e).run ⟨env,j⟩=some x):ZX s ρ e x:=by
 cases e with
 |whole b=>
  simp only[BW]at h;obtain⟨y,h1,h⟩:=bind_some h;have hb:=js h1;rw[<-k]at hb;cases y with
  |dead=>cases h
  |box cs=>
   dsimp only at h;split at h;rename_i l hl;simp only[RM.run]at h;injection h with h;subst h;exact .inl ⟨cs,l,hb,hl,rfl⟩;cases h
  |arr w esz rows=>
   simp only[RM.run]at h;injection h with h;subst h;exact .inr ⟨w,esz,rows,hb,rfl⟩
 |elem b ext i=>
  simp only[BW]at h;obtain⟨y,h1,h⟩:=bind_some h;have hb:=js h1;rw[<-k]at hb;cases y with
  |arr w esz rows=>
   cases w;cases h;dsimp only at h;split at h;rename_i n;split at h;rename_i row g;simp only[RM.run]at h;injection h with h;subst h;exact⟨esz,rows,row,hb,n,g,rfl⟩;cases h;cases h
  |_=>cases h
theorem Ac{g:List Blk}{ws:List (Nat×Blk)}(j:s.σ=upd ws g){ρ:Ent->Option Nat}: ∀{es:List Ent} {blks:List Blk},(lO ws ρ es).run ⟨env,g⟩=some blks->
  es.length=blks.length/\ ∀(k:Nat) e x,es[k]?=some e->blks[k]?=some x->ZX s ρ e x
 |[],blks,h=>by grind [lO,RM.run]
 |e::es,blks,h=>by
  simp only[lO]at h;obtain⟨x,h1,h⟩:=bind_some h;obtain⟨l,h2,h⟩:=bind_some h;simp only[RM.run]at h;injection h with h;subst h;obtain⟨n,o⟩:=Ac j h2;grind [JIQ]
def iP(s:Sn)(es:List Ent)(blks:List Blk):Sn:=
 ⟨blks,⟨λk=>match es[k]? with
  |some (.whole b)=>s.g.μ b
  |some (.elem b _ i)=>(match s.σ[b]? with
   |some (.arr _ esz _)=>(match s.g.μ b with
    |some p=>some (p.1,i*esz)
    |none=>none)
   |_=>none)
  |none=>none,s.g.C⟩,s.w⟩
structure fu(s:Sn)(es:List Ent)(blks:List Blk):Prop where
 inv:Inv s
 nodup:(es.map Ent.id).Nodup
 len:es.length=blks.length
 blk: ∀(k:Nat) e x,es[k]?=some e->blks[k]?=some x->ZX s (λe=>dN e es 0) e x
variable {es:List Ent} {blks:List Blk} (h:fu s es blks)
include h in
theorem sQ{k:Nat}{e:Ent}(he:es[k]?=some e): ∃x,blks[k]?=some x/\ZX s (λe=>dN e es 0) e x:=by
 have g:=JD he;have:k<blks.length:=by rw[<-h.len];exact g
 exact⟨blks[k],bC this,h.blk k e _ he (bC this)⟩
theorem zH{k b:Nat}(he:es[k]?=some (.whole b)):(iP s es blks).g.μ k=s.g.μ b:=by simp[iP,he]
theorem WM{k b ext i esz:Nat}{wm rows r}(he:es[k]?=some (.elem b ext i))(hb:s.σ[b]?=some (.arr wm esz rows))(hm:s.g.μ b=some (r,0)):(iP s es blks).g.μ k=some (r,i*esz):=by
 grind [iP]
include h in
theorem I7{x y:AV}{v:Value}(hr:JK s x v):ren (λe=>dN e es 0) x=some y->JK (iP s es blks) y v:=by
 induction hr generalizing y with
 |p c v hp=>intro hf;simp[ren]at hf;subst hf;exact .p _ _ hp
 |data cs vs h1 h2=>intro hf;simp[ren]at hf;subst hf;exact .data _ _ h1 h2
 |cp cs off r o vals N M=>intro hf;simp[ren]at hf;subst hf;exact .cp cs off r o vals N M
 |unk x=>intro hf;simp[ren]at hf;subst hf;exact .unk x
 |pre=>intro hf;simp[ren]at hf
 |agg cs vs h1 C h2 ih=>
  intro hf;simp only[ren]at hf;obtain⟨l,hl,rfl⟩:=gT.1 hf;obtain⟨H,K⟩:=wC hl;refine .agg _ _ (by omega) C λi y v G z=>?_;grind [JD]
 |tup cs vs h1 h2 ih=>
  intro hf;simp only[ren]at hf;obtain⟨l,hl,rfl⟩:=gT.1 hf;obtain⟨H,K⟩:=wC hl;refine .tup _ _ (by omega) λi y v G z=>?_;grind [JD]
 |ptr b off r o hm hb=>
  intro hf;simp only[ren]at hf;obtain⟨k,j,rfl⟩:=gT.1 hf;obtain⟨_,j⟩:=zJ j;simp only[uO]at j;obtain⟨cs,hb⟩:=hb;obtain⟨x,B,A⟩:=sQ h j;rcases A with⟨cs',l,h1,h2,rfl⟩|⟨w,esz,rows,h1,rfl⟩;exact .ptr k off r o (by grind [zH]) ⟨l,B⟩;simp_all
 |slr b i n v wm esz rows C hb D z=>
  intro hf;simp only[ren]at hf;obtain⟨k,j,rfl⟩:=gT.1 hf;obtain⟨_,j⟩:=zJ j;simp only[uO]at j;obtain⟨x,B,A⟩:=sQ h j;rcases A with⟨cs',l,h1,h2,rfl⟩|⟨w,E,rows',h1,rfl⟩;simp_all;rw[hb]at h1;injection h1 with h1;injection h1 with a1 a2 a3;subst a1 a2 a3;refine .slr k i n v wm esz rows C B D λe=>?_;have W:(iP s es blks).g.μ k=s.g.μ b:=zH j;rcases z e with⟨F,O,S,P⟩|⟨r,cap,c,R,fz,F,q⟩;exact .inl ⟨by simp_all,O,S,P⟩;exact .inr ⟨r,cap,c,R,fz,by simp_all,q⟩
 |ep b ext i off v wm esz rows C hb D z=>
  intro hf;simp only[ren]at hf;obtain⟨k,j,rfl⟩:=gT.1 hf;obtain⟨_,j⟩:=zJ j;simp only[uO]at j;obtain⟨x,B,A⟩:=sQ h j;obtain⟨E,rows',row,h1,h2,Q,rfl⟩:=A;have J:=h1;rw[hb]at h1;injection h1 with h1;injection h1 with a1 a2 a3;subst a1 a2 a3;have T:=JD Q;obtain⟨r,F,z⟩:=z h2 (by omega);subst z;exact .ptr k off r (i*esz) (WM j J F) ⟨_,B⟩
 |fn f first caps fs cs h1 h2 _ _ U V=>
  intro hf;simp only[ren]at hf;obtain⟨Z,L,hf⟩:=bQ.1 hf;obtain⟨l2,I,rfl⟩:=gT.1 hf;obtain⟨H,K⟩:=wC L;obtain⟨Y,k4⟩:=wC I;refine .fn f _ _ fs cs (by omega) (by omega) (λi y v G z=>?_) (λi y v G z=>?_)
  all_goals grind [JD]
def idE(es:List Ent)(k:Nat):Nat:=((es[k]?).map Ent.id).getD 0
theorem yN{k:Nat}{e:Ent}(he:es[k]?=some e):idE es k=e.id:=by simp[idE,he]
include h in
theorem vE(k r o:Nat)(hw:Wr1 (iP s es blks) k r o):k<es.length/\Wr1 s (idE es k) r o:=by
 unfold Wr1 at hw;have q:(iP s es blks).σ=blks:=rfl;rw[q]at hw;cases hk:blks[k]? with
 |none=>simp_all
 |some x=>
  have j:k<es.length:=by rw[h.len];grind
  refine⟨j,?_⟩;have e:es[k]?=some es[k]:=bC j;have g:=h.blk k _ x e hk;rw[yN e];rw[hk]at hw;unfold Wr1;cases hcase:es[k]with
  |whole b=>
   rw[hcase]at g e;rcases g with⟨cs',l,h1,h2,rfl⟩|⟨w,n,rows',h1,rfl⟩
   all_goals grind [Ent.id,zH,wC]
  |elem b ext i=>
   rw[hcase]at g e;obtain⟨n,rows',row,h1,h2,v,rfl⟩:=g;grind [Ent.id,iP]
include h in
theorem JR6:Inv (iP s es blks):=by
 have hi:=h.inv;have hlen:(iP s es blks).σ.length=es.length:=h.len.symm;refine Lu hi rfl ?_ ?_ (idE es) ?_ (λk r o K=>(vE h k r o K).2) (λr o hc=>⟨(hi.const r o hc).1,λk K=>(hi.const r o hc).2 _ (vE h k r o K).2⟩);intro k cs z;have z:blks[k]?=some (.box cs):=z;have A:k<es.length:=by grind
 have y:es[k]?=some es[k]:=bC A;have q:=h.blk k _ _ y z;cases hcase:es[k]with
 |whole b=>
  rw[hcase]at q y;rcases q with⟨cs',l,h1,h2,g⟩|⟨w,n,rows',h1,g⟩;injection g with g;subst g;obtain⟨E,I⟩:=wC h2;obtain⟨r,o,c,e,fz,D,L,W,M,G⟩:=hi.box _ _ h1;refine⟨r,o,c,e,fz,by grind [zH],L,by omega,λi x U=>?_,by simp_all⟩;grind [JD,I7];cases g
 |elem b ext i=>
  rw[hcase]at q y;obtain⟨n,rows',row,h1,h2,F,g⟩:=q;injection g with g;subst g;have H:=JD F;rcases hi.arr _ _ _ _ h1 with⟨D,C⟩|⟨r,c,e,fz,D,L,J,hl,M,G⟩;simp_all;have V:=J row (lT F);have N:i*n+n<=rows'.length*n:=(by have:=zQ4 n (show i+1<=rows'.length from H);grind);refine⟨r,i*n,c,e,fz,WM y h1 D,L,by simp;omega,λj x B=>?_,λo h1 h2=>G.1 o (zQ2 _) (by grind)⟩;rw[iB]at B;cases hrj:row[j]? with
  |none=>simp_all
  |some O=>simp[hrj]at B;subst B;obtain⟨⟨v,T,C⟩,_⟩:=M i j row O F hrj;exact⟨v,T,.p _ _ C,C.one⟩
 intro k wm esz rows z;have z:blks[k]?=some (.arr wm esz rows):=z;have A:k<es.length:=by grind
 have y:es[k]?=some es[k]:=bC A;have q:=h.blk k _ _ y z;cases hcase:es[k]with
 |whole b=>
  rw[hcase]at q y;rcases q with⟨cs',l,h1,h2,g⟩|⟨w,n,rows',h1,g⟩;cases g;injection g with a1 a2 a3;subst a1 a2 a3;rcases hi.arr _ _ _ _ h1 with⟨D,C⟩|⟨r,c,e,fz,D,P⟩;exact .inl ⟨by grind [zH],C⟩;exact .inr ⟨r,c,e,fz,by grind [zH],P⟩
 |elem b ext i=>rw[hcase]at q y;obtain⟨n,rows',row,h1,h2,F,g⟩:=q;cases g
 ·intro E I h1 h2 S;rw[hlen]at h1 h2;have R:es[E]?=some es[E]:=bC h1;have Q:es[I]?=some es[I]:=bC h2;rw[yN R,yN Q]at S;refine WW h.nodup (x:=es[E].id) ?_ ?_
  all_goals simp_all
end
end Go.Am
end
section
namespace Go.Am
def qO(s1:Sn)(es:List Ent)(new:Nat)(σ2:List Blk)(k:Nat)(y:Blk):Prop:=
 match es[k]? with
 |some (.whole b)=>(∃cs l,y=.box cs/\bk.bkL es new cs=some l/\σ2[b]?=some (.box l))\/(∃w esz rows,y=.arr w esz rows/\σ2[b]?=some (.arr w esz rows))
 |some (.elem b _ i)=> ∃w esz rows e,s1.σ[b]?=some (.arr w esz rows)/\y=.box (e.map .p)/\σ2[b]?=some (.arr w esz (rows.set i e))
 |none=>(∃cs l,y=.box cs/\bk.bkL es new cs=some l/\σ2[new+(k-es.length)]?=some (.box l))\/(∃w esz rows,y=.arr w esz rows/\σ2[new+(k-es.length)]?=some (.arr w esz rows))
structure Nq(s1:Sn)(es:List Ent)(blks:List Blk)(new kf:Nat)(c':Sn)(σ2:List Blk):Prop where
 cin:fu s1 es blks
 inv:Inv c'
 trans:bJ (iP s1 es blks) c'
 len:c'.σ.length=es.length+kf
 slen:σ2.length=s1.σ.length
 dead: ∀j,j<kf->s1.σ[new+j]?=some .dead
 out: ∀k y,c'.σ[k]?=some y->qO s1 es new σ2 k y
 same: ∀b,b∉es.map Ent.id->(b<new\/new+kf<=b)->σ2[b]?=s1.σ[b]?
def kOf(es:List Ent)(new kf b:Nat):Option Nat:=
 match dN (.whole b) es 0 with
 |some k=>some k
 |none=>if new<=b/\b<new+kf/\b∉es.map Ent.id then some (es.length+(b-new))else none
def fP(s1:Sn)(es:List Ent)(new kf:Nat)(c':Sn)(σ2:List Blk):Sn:=
 ⟨σ2,⟨λb=>match kOf es new kf b with
  |some k=>c'.g.μ k
  |none=>s1.g.μ b,c'.g.C⟩,c'.w⟩
theorem Ae{e:Ent}: ∀{es:List Ent} {k:Nat},dN e es k=none->e∉es
 |[],k,_=>by simp
 |x::r,k,h=>by
  simp only[dN]at h;split at h;cases h;rename_i g;simp only[cV,not_or];exact⟨λe=>g e.symm,Ae h⟩
section
variable {s1 c':Sn} {es:List Ent} {blks σ2:List Blk} {new kf:Nat} (h:Nq s1 es blks new kf c' σ2)
theorem UE{k:Nat}{e:Ent}(he:es[k]?=some e):e.id∈es.map Ent.id:=oM.2 ⟨e,lT he,rfl⟩
include h in
theorem IC{e g:Nat}{e1 e2:Ent}(h1:es[e]?=some e1)(h2:es[g]?=some e2)(he:e1.id=e2.id):e=g:=
 WW h.cin.nodup (x:=e1.id) (by simp_all) (by simp_all)
include h in
theorem JNs{k:Nat}{e:Ent}(he:es[k]?=some e): ∃y,s1.σ[e.id]?=some y/\y≠.dead:=by
 obtain⟨x,_,g⟩:=sQ h.cin he;cases e with
 |whole b=>
  rcases g with⟨cs',l,h1,h2,rfl⟩|⟨w,j,rows',h1,rfl⟩;exact⟨_,h1,by simp⟩;exact⟨_,h1,by simp⟩
 |elem b ext i=>obtain⟨j,rows',row,h1,h2,n,rfl⟩:=g;exact⟨_,h1,by simp⟩
include h in
theorem JKq{j:Nat}(hj:j<kf):new+j∉es.map Ent.id:=by intro n;obtain⟨e,q,g⟩:=oM.1 n;obtain⟨k,o⟩:=jY q;obtain⟨y,r,hd⟩:=JNs h o;rw[g,h.dead j hj]at r;simp_all
include h in
theorem JIE{k b:Nat}(he:es[k]?=some (.whole b)):kOf es new kf b=some k:=by
 unfold kOf;cases hc:dN (.whole b) es 0 with
 |none=>exact absurd (lT he) (Ae hc)
 |some k'=>
  obtain⟨_,e⟩:=zJ hc;grind [IC]
include h in
theorem JMi{k b e i:Nat}(he:es[k]?=some (.elem b e i)):kOf es new kf b=none:=by
 unfold kOf;cases hc:dN (.whole b) es 0 with
 |some k'=>obtain⟨_,g⟩:=zJ hc;simp only[uO]at g;have:=IC h g he rfl;simp_all
 |none=>have:b∈es.map Ent.id:=UE he;simp[this]
include h in
theorem JJ3{j:Nat}(hj:j<kf):kOf es new kf (new+j)=some (es.length+j):=by
 unfold kOf;have g:=JKq h hj;cases hc:dN (.whole (new+j)) es 0 with
 |some k'=>obtain⟨_,e⟩:=zJ hc;simp only[uO]at e;exact absurd (UE e) g
 |none=>simp_all
theorem WI{b:Nat}(h1:b∉es.map Ent.id)(h2:b<new\/new+kf<=b):kOf es new kf b=none:=by
 unfold kOf;cases hc:dN (.whole b) es 0 with
 |some k'=>obtain⟨_,e⟩:=zJ hc;simp only[uO]at e;exact absurd (UE e) h1
 |none=>
  grind
def tgt(es:List Ent)(new k:Nat):Nat:=match es[k]? with|some e=>e.id|none=>new+(k-es.length)
include h in
theorem oW{k:Nat}(hk:k<es.length+kf)(j: ∀b e i,es[k]?≠some (.elem b e i)):(fP s1 es new kf c' σ2).g.μ (tgt es new k)=c'.g.μ k:=by
 simp only[fP,tgt];cases he:es[k]? with
 |some e=>
  cases e with
  |whole b=>simp only[Ent.id];rw[JIE h he]
  |elem b e i=>simp_all
 |none=>
  grind [JJ3]
include h in
theorem IW{k b ext i:Nat}(he:es[k]?=some (.elem b ext i)): ∃esz rows row r j,s1.σ[b]?=some (.arr true esz rows)/\ext=rows.length/\rows[i]?=some row/\s1.g.μ b=some (r,0)/\
  c'.σ[k]?=some (.box (j.map .p))/\j.length=row.length/\row.length=esz/\c'.g.μ k=some (r,i*esz)/\σ2[b]?=some (.arr true esz (rows.set i j))/\(fP s1 es new kf c' σ2).g.μ b=some (r,0):=by
 obtain⟨x,B,q⟩:=sQ h.cin he;obtain⟨esz,rows,row,h1,h2,A,rfl⟩:=q;have D:=JD A;rcases h.cin.inv.arr _ _ _ _ h1 with⟨C,K⟩|⟨r,c,e,fz,C,J,y,hl,F,E⟩;simp_all;obtain⟨⟨cs',z,L⟩,I⟩:=h.trans.box k _ B;have o:=h.out k _ z;unfold qO at o;rw[he]at o;obtain⟨w,v,rows',j,n,G,H⟩:=o;rw[h1]at n;injection n with n;injection n with a1 a2 a3;subst a1 a2 a3;grind [WM,fP,JMi]
include h in
theorem Nx{x y:AV}{v:Value}(hr:JK c' x v):bk es new x=some y->JK (fP s1 es new kf c' σ2) y v:=by
 have E: ∀{k:Nat} {z:Blk},c'.σ[k]?=some z->k<es.length+kf:=λhz=>by rw[<-h.len];grind
 induction hr generalizing y with
 |p c v hp=>intro hf;simp[bk]at hf;subst hf;exact .p _ _ hp
 |data cs vs h1 h2=>intro hf;simp[bk]at hf;subst hf;exact .data _ _ h1 h2
 |cp cs off r o vals W T=>intro hf;simp[bk]at hf;subst hf;exact .cp cs off r o vals W T
 |unk x=>intro hf;simp[bk]at hf;subst hf;exact .unk x
 |pre=>intro hf;simp[bk]at hf
 |agg cs vs h1 I h2 ih=>
  intro hf;simp only[bk]at hf;split at hf;rename_i l hl;injection hf with hf;subst hf;obtain⟨R,Q⟩:=wA hl;refine .agg _ _ (by omega) I λi y v O F=>?_;grind [JD];cases hf
 |tup cs vs h1 h2 ih=>
  intro hf;simp only[bk]at hf;split at hf;rename_i l hl;injection hf with hf;subst hf;obtain⟨R,Q⟩:=wA hl;refine .tup _ _ (by omega) λi y v O F=>?_;grind [JD];cases hf
 |ptr k off r o hm hb=>
  intro hf;obtain⟨cs,hb⟩:=hb;have D:=E hb;have B:=h.out k _ hb;unfold qO at B;simp only[bk]at hf;split at hf;rename_i G;have a5:es[k]?=some es[k]:=bC G;split at hf;rename_i b j;injection hf with hf;subst hf;have A:=oW h D (by rw[j];simp);simp only[tgt,j,Ent.id]at A;rw[j]at B;rcases B with⟨cs',l,C,K,P⟩|⟨w,esz,rows,C,K⟩;exact .ptr b off r o (by simp_all) ⟨l,P⟩;cases C;rename_i b e i j;injection hf with hf;subst hf;obtain⟨esz,rows,row,r',M,f1,U,f3,f4,f5,f6,f7,J,V,S⟩:=IW h j;rw[hm]at J;injection J with J;injection J with g1 g2;subst g1 g2;exact .ep b e i off _ true esz (rows.set i M) ⟨_,_,rfl⟩ V (by simp[U]) λ_ _=>⟨r,S,rfl⟩;cases hf;rename_i L;injection hf with hf;subst hf;have j:es[k]?=none:=qK (by omega);have A:=oW h D (by rw[j];simp);simp only[tgt,j]at A;rw[j]at B;rcases B with⟨cs',l,C,K,P⟩|⟨w,esz,rows,C,K⟩;exact .ptr _ off r o (by simp_all) ⟨l,P⟩;cases C
 |slr k i n v wm esz rows I hb H F=>
  intro hf;have D:=E hb;have B:=h.out k _ hb;unfold qO at B;have go: ∀b,(fP s1 es new kf c' σ2).g.μ b=c'.g.μ k->σ2[b]?=some (.arr wm esz rows)->JK (fP s1 es new kf c' σ2) (.slr b i n) v:=(by intro b A N;refine .slr b i n v wm esz rows I N H λe=>?_;rcases F e with⟨Y,q1,q2,Z⟩|⟨r,cap,c,C,fz,Y,q⟩;exact .inl ⟨by simp_all,q1,q2,Z⟩;exact .inr ⟨r,cap,c,C,fz,by simp_all,q⟩);simp only[bk]at hf;split at hf;rename_i G;split at hf;rename_i b j;injection hf with hf;subst hf;have A:=oW h D (by rw[j];simp);grind [tgt,Ent.id];cases hf;rename_i L;injection hf with hf;subst hf;have j:es[k]?=none:=qK (by omega);have A:=oW h D (by rw[j];simp);grind [tgt]
 |ep k ext i off v wm esz rows I hb H F=>
  intro hf;have D:=E hb;have B:=h.out k _ hb;unfold qO at B;have go: ∀b,(fP s1 es new kf c' σ2).g.μ b=c'.g.μ k->σ2[b]?=some (.arr wm esz rows)->JK (fP s1 es new kf c' σ2) (.ep b ext i off) v:=by intro b A N;refine .ep b ext i off v wm esz rows I N H λC K=>?_;simp_all
  simp only[bk]at hf;split at hf;rename_i G;split at hf;rename_i b j;injection hf with hf;subst hf;have A:=oW h D (by rw[j];simp);grind [tgt,Ent.id];cases hf;rename_i L;injection hf with hf;subst hf;have j:es[k]?=none:=qK (by omega);have A:=oW h D (by rw[j];simp);grind [tgt]
 |fn f first caps fs cs h1 h2 _ _ a6 a4=>
  intro hf;simp only[bk]at hf;split at hf
  ·rename_i a c ha hc;injection hf with hf;subst hf;obtain⟨R,Q⟩:=wA ha;obtain⟨k3,k4⟩:=wA hc;refine .fn f a c fs cs (by omega) (by omega) (λi y v O F=>?_) (λi y v O F=>?_)
   all_goals grind [JD]
  cases hf
inductive dw(es:List Ent)(new kf b:Nat):Prop where|out (k:Nat):k<es.length+kf->tgt es new k=b->(∀b e i,es[k]?≠some (.elem b e i))->dw es new kf b|elem (k e i:Nat):es[k]?=some (.elem b e i)->dw es new kf b|other:b∉es.map Ent.id->(b<new\/new+kf<=b)->dw es new kf b
theorem vT(b:Nat):dw es new kf b:=by
 by_cases n:b∈es.map Ent.id;obtain⟨e,j,g⟩:=oM.1 n;obtain⟨k,h⟩:=jY j;have r:=JD h;cases e with
 |whole q=>simp only[Ent.id]at g;subst g;exact .out k (by omega) (by grind [tgt,Ent.id]) (by rw[h];simp)
 |elem q e' o=>simp only[Ent.id]at g;subst g;exact .elem k e' o h
 by_cases v:new<=b/\b<new+kf;have j:es[es.length+(b-new)]?=none:=qK (by omega);refine .out (es.length+(b-new)) (by omega) ?_ (by rw[j];simp);grind [tgt];exact .other n (by omega)
include h in
theorem OB{k:Nat}(hk:k<es.length+kf)(j: ∀b e i,es[k]?≠some (.elem b e i))(r o:Nat):
  Wr1 (fP s1 es new kf c' σ2) (tgt es new k) r o↔Wr1 c' k r o:=by
 have q:=oW h hk j;have g:k<c'.σ.length:=by rw[h.len];exact hk
 have n:c'.σ[k]?=some c'.σ[k]:=bC g;have w:=h.out k _ n;unfold qO at w;unfold Wr1;rw[n,q];have v:(fP s1 es new kf c' σ2).σ=σ2:=rfl;rw[v];cases he:es[k]? with
 |some e=>
  grind [tgt,Ent.id,wA]
 |none=>
  grind [tgt,wA]
include h in
theorem OR{k b e i:Nat}(he:es[k]?=some (.elem b e i))(r o:Nat):Wr1 (fP s1 es new kf c' σ2) b r o↔Wr1 s1 b r o:=by
 obtain⟨esz,rows,row,r',g,v,x,z,y,w,B,q,n,A,j⟩:=IW h he;grind [Wr1,fP]
include h in
theorem jp{b:Nat}(h1:b∉es.map Ent.id)(h2:b<new\/new+kf<=b)(r o:Nat):Wr1 (fP s1 es new kf c' σ2) b r o↔Wr1 s1 b r o:=by
 unfold Wr1;have j:(fP s1 es new kf c' σ2).σ=σ2:=rfl;have e:(fP s1 es new kf c' σ2).g.μ b=s1.g.μ b:=by grind [fP,WI]
 rw[j,h.same b h1 h2,e]
include h in
theorem xy{r o:Nat}(hw:Wr c' r o):(∃k e,es[k]?=some e/\Wr1 (iP s1 es blks) k r o/\Wr1 s1 e.id r o)\/s1.w.heap.size<=r:=by
 rcases h.trans.wnew r o hw with⟨k,j⟩|n;obtain⟨g,q⟩:=vE h.cin k r o j;have v:es[k]?=some es[k]:=bC g;grind [yN];exact .inr n
include h in
theorem yr:bJ s1 (fP s1 es new kf c' σ2):=by
 refine⟨?_,λr o hc=>h.trans.cmono r o hc,λr o hc=>?_,λr o ⟨b,F⟩=>?_,Nat.le_of_eq h.slen.symm,λb cs hb=>?_,λb wm esz rows hb=>?_⟩;refine h.trans.keep.mono λr o ⟨k,j⟩=>?_;exact⟨_,(vE h.cin k r o j).2⟩;rcases h.trans.cnew r o hc with hc|⟨k,j⟩|M;exact .inl hc;exact .inr (.inl ⟨_,(vE h.cin k r o j).2⟩);exact .inr (.inr M);cases vT (es:=es) (new:=new) (kf:=kf) b with
 |out k j ht q=>
  subst ht;rcases xy h ⟨k,(OB h j q r o).1 F⟩with⟨k',e,_,_,I⟩|M;exact .inl ⟨_,I⟩;simp_all
 |elem k e i g=>exact .inl ⟨b,(OR h g r o).1 F⟩
 |other h1 h2=>exact .inl ⟨b,(jp h h1 h2 r o).1 F⟩
 ·cases vT (es:=es) (new:=new) (kf:=kf) b with
  |out k j ht q=>
   cases g:es[k]? with
   |none=>
    exfalso;simp only[tgt,g]at ht;have H:es.length<=k:=by simp_all
    have:=h.dead (k-es.length) (by omega);simp_all
   |some e=>
    cases e with
    |elem b e i=>simp_all
    |whole R=>
     simp only[tgt,g,Ent.id]at ht;subst ht;obtain⟨x,G,z⟩:=sQ h.cin g;rcases z with⟨cs',l,h1,h2,rfl⟩|⟨w,y,rows',h1,rfl⟩
     ·rw[hb]at h1;injection h1 with h1;injection h1 with h1;subst h1
      obtain⟨⟨V,E,O⟩,L⟩:=h.trans.box k _ G;have v:=h.out k _ E;unfold qO at v;rw[g]at v;have D:=oW h j q;simp only[tgt,g,Ent.id]at D;rcases v with⟨K,l',n,C,N⟩|⟨w,esz,rows,n,C⟩
      ·injection n with n;subst n;refine⟨⟨l',N,?_⟩,?_⟩
       all_goals grind [wA,wC,zH]
      cases n
     simp_all
  |elem k e i g=>
   grind [IW]
  |other h1 h2=>
   refine⟨⟨cs,by rw[<-hb];exact h.same b h1 h2,rfl⟩,?_⟩;grind [fP,WI]
 cases vT (es:=es) (new:=new) (kf:=kf) b with
 |out k j ht q=>
  cases g:es[k]? with
  |none=>
   exfalso;simp only[tgt,g]at ht;have H:es.length<=k:=by simp_all
   have:=h.dead (k-es.length) (by omega);simp_all
  |some e=>
   cases e with
   |elem b e i=>simp_all
   |whole R=>
    simp only[tgt,g,Ent.id]at ht;subst ht;obtain⟨x,G,z⟩:=sQ h.cin g;rcases z with⟨cs',l,h1,h2,rfl⟩|⟨w,y,rows',h1,rfl⟩;simp_all;rw[hb]at h1;injection h1 with h1;injection h1 with a1 a2 a3;subst a1 a2 a3;obtain⟨wm',B,E,O,L,Z⟩:=h.trans.arr k _ _ _ G;have v:=h.out k _ E;unfold qO at v;rw[g]at v;have D:=oW h j q;simp only[tgt,g,Ent.id]at D;rcases v with⟨K,l',n,C,N⟩|⟨w,Q,P,n,C⟩;cases n;injection n with a1 a2 a3;subst a1 a2 a3;exact⟨wm',B,C,O,L,λe=>by grind [zH]⟩
 |elem k e i g=>
  obtain⟨y,rows',row,r',T,A,f2,f3,S,f5,f6,Y,W,U,J⟩:=IW h g;rw[hb]at A;injection A with A;injection A with a1 a2 a3;subst a1 a2 a3;exact⟨true,_,U,λ_=>rfl,by simp,λ_=>by rw[J,S]⟩
 |other h1 h2=>
  refine⟨wm,rows,by rw[<-hb];exact h.same b h1 h2,id,zQ0 _,λ_=>?_⟩;grind [fP,WI]
include h in
theorem JNv:Inv (fP s1 es new kf c' σ2):=by
 have hi:=h.cin.inv;have t:=yr h;have M: ∀{b},¬(b∈es.map Ent.id\/(new<=b/\b<new+kf))->b∉es.map Ent.id/\(b<new\/new+kf<=b):=λG=>⟨λA=>G (.inl A),by omega⟩;have z: ∀{k b e i r o},es[k]?=some (.elem b e i)->(Wr1 (iP s1 es blks) k r o↔Wr1 c' k r o):=(by intro k b e i r o n;obtain⟨x,hx,a7⟩:=sQ h.cin n;obtain⟨esz,rows,row,h1,h2,h3,rfl⟩:=a7;obtain⟨⟨cs',q1,q2⟩,q3⟩:=h.trans.box k _ hx;grind [iP,Wr1]);have N: ∀{k b r o},k<es.length+kf->Wr1 c' k r o->Wr1 s1 b r o->(∃k',es[k']?=some (.whole b)\/ ∃e i,es[k']?=some (.elem b e i)/\k'=k):=by
  intro k b r o L I hb;rcases xy h ⟨k,I⟩with⟨k',e,n,ak,q⟩|G;have D:=hi.apart _ _ _ _ q hb;cases e with
  |whole b'=>grind [Ent.id]
  |elem b' e' i'=>
   simp only[Ent.id]at D;subst D;have:=h.inv.apart _ _ _ _ ((z n).1 ak) I;grind
  have:=yE hi b r o hb;omega
 refine nQ hi t (λb=>b∈es.map Ent.id\/(new<=b/\b<new+kf)) ?_ ?_ ?_ ?_ ?_ ?_ ?_ ?_;intro b G;obtain⟨h1,h2⟩:=M G;exact⟨h.same b h1 h2,by grind [fP,WI]⟩;intro b r o v G I hv;refine h.trans.keep.cell ?_ hv;rintro⟨k,L⟩;obtain⟨C,q⟩:=vE h.cin k r o L;have n:es[k]?=some es[k]:=bC C;rw[yN n]at q;have:=hi.apart _ _ _ _ q I;simp_all;intro b cs hd hb;have hb:σ2[b]?=some (.box cs):=hb;cases vT (es:=es) (new:=new) (kf:=kf) b with
 |other h1 h2=>grind
 |elem k e i n=>
  grind [IW]
 |out k L ht U=>
  subst ht;have C:k<c'.σ.length:=by rw[h.len];exact L
  have hg:c'.σ[k]?=some c'.σ[k]:=bC C;have ho:=h.out k _ hg;unfold qO at ho;have a6: ∃W,c'.σ[k]?=some (.box W)/\bk.bkL es new W=some cs:=by
   cases n:es[k]? with
   |some e=>
    grind [tgt,Ent.id]
   |none=>
    grind [tgt]
  obtain⟨W,h0,hl⟩:=a6;obtain⟨k1,k2⟩:=wA hl;obtain⟨r,o,c,e,fz,A,hh,c5,hx,ba⟩:=h.inv.box _ _ h0;refine⟨r,o,c,e,fz,by grind [oW],hh,by omega,λi x c1=>?_,by simp_all⟩;grind [JD,Nx]
 intro b wm esz rows hd hb;have hb:σ2[b]?=some (.arr wm esz rows):=hb;cases vT (es:=es) (new:=new) (kf:=kf) b with
 |other h1 h2=>grind
 |elem k e i n=>
  obtain⟨bf,rows',row,r',bj,f1,f2,f3,f4,f5,f6,f7,f8,f9,bc⟩:=IW h n;rw[hb]at f9;injection f9 with f9;injection f9 with a1 a2 a3;subst a1 a2 a3;have C:=JD f3;rcases hi.arr _ _ _ _ f1 with⟨A,T⟩|⟨r,c,e1,fz,A,hh,ai,hl,hx,ba⟩;simp_all;rw[f4]at A;injection A with A;injection A with A _;subst A;obtain⟨c2,q1,q2,q3⟩:=t.keep.2.1 _ _ _ _ hh;obtain⟨rr,oo,c3,e3,c4,m3,R,bg,b0,bi⟩:=h.inv.box _ _ f5;rw[f8]at m3;injection m3 with m3;injection m3 with y H;subst y H;have b3:c'.w.heap[r']?=some (.cells c2 e1 fz):=q1;rw[b3]at R;injection R with R;injection R with y H w3;subst y H w3;refine .inr ⟨r',c2,e1,fz,bc,q1,λc7 c6=>?_,by simp;omega,λO j af x0 K Y=>⟨?_,λh=>by cases h⟩,by simp_all⟩;grind;have bt:=JD Y;by_cases ae:O=i;subst ae;rw[QN C]at K;injection K with K;subst K;obtain⟨v,hv,T,_⟩:=b0 j (.p x0) (by simp[Y]);refine⟨v,hv,?_⟩;cases T with|p _ _ T=>exact T
  rw[ZE (Ne.symm ae)]at K;obtain⟨⟨v',c8,aw⟩,_⟩:=hx O j af x0 K Y;refine⟨v',?_,aw.mono hi t⟩;have a9:cellAt s1.w r' (O*esz+j)=some v':=by grind [lS]
  have b4:j<esz:=by grind
  have ay: ¬Wr (iP s1 es blks) r' (O*esz+j):=by
   rintro⟨k',g⟩;obtain⟨E,q⟩:=vE h.cin k' _ _ g;have B:es[k']?=some es[k']:=bC E;rw[yN B]at q;have bd:Wr1 s1 b r' (O*esz+j):=by grind [Wr1]
   have D:=hi.apart _ _ _ _ q bd;have J:k'=k:=IC h B n D;subst J;obtain⟨x,b7,a7⟩:=sQ h.cin n;obtain⟨bp,be,V,F,S,g3,rfl⟩:=a7;rw[f1]at F;injection F with F;injection F with z1 z2 z3;subst z2 z3;have ag:(iP s1 es blks).σ[k']?=some (.box (V.map .p)):=b7;unfold Wr1 at g;rw[ag,WM n f1 f4]at g;obtain⟨o0,Z,hlo,b5⟩:=g;injection Z with Z;injection Z with _ Z;subst Z;have bm:=ai V (lT g3);simp at b5;rcases zQ3 O i with aj|bq;have:=pK aj b4;omega;have:=zQ4 esz (show i+1<=O by omega);grind
  have:=h.trans.keep.cell ay a9;grind [lS]
 |out k L ht U=>
  subst ht;have C:k<c'.σ.length:=by rw[h.len];exact L
  have hg:c'.σ[k]?=some c'.σ[k]:=bC C;have ho:=h.out k _ hg;unfold qO at ho;have a6:c'.σ[k]?=some (.arr wm esz rows):=by
   cases n:es[k]? with
   |some e=>
    grind [tgt,Ent.id]
   |none=>
    grind [tgt]
  rcases h.inv.arr _ _ _ _ a6 with⟨A,T⟩|⟨r,c,e,fz,A,hq⟩;exact .inl ⟨by grind [oW],T⟩;exact .inr ⟨r,c,e,fz,by grind [oW],hq⟩
 
 intro b1 b2 r o hd h1 h2;cases vT (es:=es) (new:=new) (kf:=kf) b1 with
 |other F S=>grind
 |out k1 a5 b8 al=>
  subst b8;have y:=(OB h a5 al r o).1 h1;cases vT (es:=es) (new:=new) (kf:=kf) b2 with
  |out k2 Q a4 P=>subst a4;have H:=(OB h Q P r o).1 h2;rw[h.inv.apart _ _ _ _ y H]
  |elem k2 e i n=>
   exfalso;have H:=(OR h n r o).1 h2;obtain⟨k',g|⟨e',i',g,J⟩⟩:=N a5 y H;have:=IC h g n rfl;simp_all;simp_all
  |other F S=>
   exfalso;have H:=(jp h F S r o).1 h2;obtain⟨k',g|⟨e',i',g,J⟩⟩:=N a5 y H;exact F (UE g);simp_all
 |elem k1 e1 i1 ad=>
  have y:=(OR h ad r o).1 h1;cases vT (es:=es) (new:=new) (kf:=kf) b2 with
  |out k2 Q a4 P=>
   subst a4;exfalso;have H:=(OB h Q P r o).1 h2;obtain⟨k',g|⟨e',i',g,J⟩⟩:=N Q H y;have:=IC h g ad rfl;simp_all;simp_all
  |elem k2 e i n=>exact hi.apart _ _ _ _ y ((OR h n r o).1 h2)
  |other F S=>exact hi.apart _ _ _ _ y ((jp h F S r o).1 h2)
 exact λr o hc=>(h.inv.const r o hc).1;intro r o b hc hd I;cases vT (es:=es) (new:=new) (kf:=kf) b with
 |other F S=>grind
 |out k L ht U=>subst ht;exact(h.inv.const r o hc).2 _ ((OB h L U r o).1 I)
 |elem k e i n=>
  have y:=(OR h n r o).1 I;rcases h.trans.cnew r o hc with a0|⟨k',g⟩|G;exact(hi.const r o a0).2 _ y;obtain⟨E,q⟩:=vE h.cin k' _ _ g;have B:es[k']?=some es[k']:=bC E;rw[yN B]at q;have D:=hi.apart _ _ _ _ q y;have J:k'=k:=IC h B n D;subst J;exact(h.inv.const r o hc).2 _ ((z n).1 g);have G:s1.w.heap.size<=r:=G;have:=yE hi _ _ _ y;omega
 intro r o b hc b6 hd I;rcases h.trans.cnew r o hc with a0|⟨k',g⟩|G;exact b6 a0;obtain⟨E,q⟩:=vE h.cin k' _ _ g;have B:es[k']?=some es[k']:=bC E;rw[yN B]at q;have D:=hi.apart _ _ _ _ q I;simp_all;have G:s1.w.heap.size<=r:=G;have:=yE hi _ _ _ I;omega
end
end Go.Am
end
