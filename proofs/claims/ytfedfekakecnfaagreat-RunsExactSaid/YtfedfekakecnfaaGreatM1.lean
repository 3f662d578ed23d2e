/-
  Parts of a proof.
-/
import Derived.Calls
import Derived.LoopN
import Derived.KernelRfl
import Derived.Laws.Sem
import Derived.Laws.StructEq
import Derived.Laws.Cells
import Derived.Laws.Cover3
import Derived.Laws.Pointers
import Derived.Deep.AppendSrc
import Derived.Laws.MakeOwn
import Derived.Laws.BytesString
import Derived.DeepKeys
set_option linter.unusedSimpArgs false
set_option linter.unusedVariables false
section
namespace Go.Am
abbrev aI:=Option
abbrev zQ0:= @Nat.le_refl
abbrev zQ1:= @Nat.le_trans
abbrev zQ2:= @Nat.zero_le
abbrev zQ3:= @Nat.lt_or_ge
abbrev zQ4:= @Nat.mul_le_mul_right
abbrev zQ5:= @List.mem_of_getElem?
abbrev zQ6:= @List.ext_getElem?
abbrev zQ7:= @List.mem_of_mem_drop
abbrev zQ8:= @Nat.add_mul
abbrev zQ9:= @List.mem_append
abbrev JV:= @List.getElem?_eq_getElem
abbrev oH:= @List.getElem?_eq_none
abbrev bX:= @List.mem_cons
abbrev JW:= @Bool.and_eq_true
abbrev xD:= @Sem.run_bind
abbrev rM:= @Result.andThen_ok
abbrev fW:= @Option.map_eq_some_iff
abbrev iu:= @Option.isSome_iff_exists
abbrev rD:= @Nat.add_assoc
abbrev EQ:= @Array.ext'
abbrev AJ:= @Array.getElem?_toList
abbrev pS:= @List.flatten_cons
abbrev fB:= @List.getElem?_map
abbrev dU:= @Bool.false_eq_true
abbrev AY:= @List.length_eq_one_iff
abbrev fL:= @List.getElem?_of_mem
abbrev SE:= @Sem.run_pure
abbrev AK:= @List.mem_of_mem_take
abbrev AW:= @List.getElem?_set_self
abbrev EO:= @List.getElem?_set_ne
abbrev tM:= @List.length_cons
abbrev TU:= @Array.all_eq_true_iff_forall_mem
abbrev GB:= @List.length_replicate
abbrev hX:= @List.mem_map
abbrev dE:= @List.getElem?_append_right
abbrev dP:= @List.length_map
abbrev pP:= @Nat.add_zero
abbrev wX:= @List.drop_zero
abbrev TD:= @Array.getElem?_append_left
abbrev jI:= @Nat.zero_add
abbrev pN:= @Array.getElem?_eq_getElem
abbrev wZ:= @Nat.mul_comm
abbrev dZ:= @List.length_append
abbrev iJ:= @List.length_take
abbrev nU:= @List.length_drop
abbrev AN:= @List.getElem?_take
abbrev TW:= @List.getElem?_drop
abbrev gU:= @List.append_nil
abbrev jH:= @List.getElem?_append_left
abbrev lQ:= @List.cons_append
abbrev BI:= @List.drop_drop
abbrev jD:= @Bool.not_eq_true'
abbrev pO:= @Nat.sub_zero
abbrev bF:= @Option.bind_eq_some_iff
abbrev JQ:= @Option.bind_some
abbrev kK:= @List.mem_cons_of_mem
abbrev wW:= @Bool.or_eq_true
abbrev jo:= @Array.getElem?_eq_some_iff
abbrev nV:= @List.append_assoc
abbrev mZ:= @List.take_append_drop
abbrev TT:= @List.map_take
abbrev bP:= @List.map_cons
abbrev xF:= @List.map_map
abbrev wJ:= @List.map_append
abbrev cH:= @Option.map_some
abbrev jE:= @List.nil_append
abbrev FI:= @List.all_eq_true
abbrev TH:= @List.map_replicate
abbrev hW:= @List.mem_singleton
abbrev oE:= @Int.le_trans
abbrev lO:= @List.getElem_mem
abbrev aU:= @Int.le_refl
abbrev i5:= @List.mem_or_eq_of_mem_set
abbrev cC:= @List.getElem?_eq_some_iff
abbrev rE:= @Nat.eq_zero_or_pos
abbrev kp:= @Nat.succ_mul
abbrev pM:= @List.mem_iff_getElem?
abbrev FK:= @Nat.pow_le_pow_right
abbrev jl:= @List.take_succ_cons
abbrev SM:= @List.length_flatten
theorem _root_.And.c{h g e:Prop}(x:h/\g/\e):e:=x.2.2
theorem _root_.And.d{g h j e:Prop}(x:g/\h/\j/\e):e:=x.2.2.2
theorem _root_.And.e{j k n h g:Prop}(x:j/\k/\n/\h/\g):g:=x.2.2.2.2
theorem _root_.And.g{j n o h k e:Prop}(x:j/\n/\o/\h/\k/\e):e:=x.2.2.2.2.2
theorem _root_.And.h{j n q g k o e:Prop}(x:j/\n/\q/\g/\k/\o/\e):e:=x.2.2.2.2.2.2
theorem _root_.And.i{h k o g j n q e:Prop}(x:h/\k/\o/\g/\j/\n/\q/\e):e:=x.2.2.2.2.2.2.2
theorem _root_.And.j{h n r g k q v o e:Prop}(x:h/\n/\r/\g/\k/\q/\v/\o/\e):e:=x.2.2.2.2.2.2.2.2
theorem _root_.And.k{h n r g j q w o v e:Prop}(x:h/\n/\r/\g/\j/\q/\w/\o/\v/\e):e:=x.2.2.2.2.2.2.2.2.2
inductive PV where
 |b (x:Bool)
 |i (k:IntKind) (n:Int)
 |s (l:List UInt8)
 |sl (esz:Nat) (rows:List (List PV))
 |np
 |nf
 |slc (esz:Nat) (rows:List (List PV))
 deriving Inhabited
inductive AV where
 |p (c:PV)
 |data (cs:List PV)
 |agg (cs:List AV)
 |tup (vs:List AV)
 |ptr (b off:Nat)
 |cp (cs:List PV) (off:Nat)
 |slr (b i n:Nat)
 |ep (b ext i off:Nat)
 |pre (b n k:Nat)
 |fn (f:FuncId) (first caps:List AV)
 |unk
 deriving Inhabited
inductive Blk where
 |dead
 |box (cs:List AV)
 |arr (w:Bool) (esz:Nat) (rows:List (List PV))
 deriving Inhabited
abbrev Res:=AV×List Blk
abbrev Orc:=FuncId->List AV->List Blk->Option Res
structure St where
 env:List (Nat×AV)
 sto:List Blk
def lk(n:Nat):List (Nat×AV)->Option AV|[]=>none|(m,v)::r=>if n=m then some v else lk n r
inductive RM(α:Type) where|ret (a:α)|slot (n:Nat) (k:AV->RM α)|blk (b:Nat) (k:Blk->RM α)|fail
def RM.bind{α β:Type}:RM α->(α->RM β)->RM β| .ret a,f=>f a| .slot n k,f=>.slot n λv=>(k v).bind f| .blk b k,f=>.blk b λv=>(k v).bind f| .fail,_=>.fail
def RM.run{α:Type}:RM α->St->Option α
 | .ret a,_=>some a
 | .slot n k,s=>match lk n s.env with|some v=>(k v).run s|none=>none
 | .blk b k,s=>match s.sto[b]? with|some v=>(k v).run s|none=>none
 | .fail,_=>none
inductive Loc where
 |slot (n:Nat)
 |blk (b:Nat)
 deriving DecidableEq
def RM.reads{α:Type}:RM α->St->List Loc
 | .ret _,_=>[]
 | .slot n k,s=>.slot n::match lk n s.env with|some v=>(k v).reads s|none=>[]
 | .blk b k,s=>.blk b::match s.sto[b]? with|some v=>(k v).reads s|none=>[]
 | .fail,_=>[]
def RM.of{α:Type}:Option α->RM α|some a=>.ret a|none=>.fail
inductive Opd where
 |t (n:Nat)
 |c (x:AV)
 deriving Inhabited
inductive KD where
 |b
 |i (k:IntKind)
 |s
 deriving DecidableEq
inductive BT where
 |plain
 |bool
 |flat (ks:List KD)
 |nils
 |nilp
 |nilf
 deriving DecidableEq
inductive CK where
 |int (k:IntKind)
 |same
 |toStr
 |toBytes (own:Bool)
 deriving DecidableEq
inductive SK where
 |str
 |sl (esz:Nat)
 deriving DecidableEq
inductive AOp where
 |mv (x:Opd)
 |mkarr (esz:Nat) (x:Opd)
 |pick (c a b:Opd)
 |newbox (zero:List PV)
 |box (size:Nat) (x:Opd)
 |build (zero:List PV) (parts:List (Nat×Nat×Opd))
 |lits (own:Bool) (esz n:Nat) (zero:List PV) (parts:List (Nat×Opd))
 |load (agg:Bool) (size:Nat) (x:Opd)
 |store (size:Nat) (x v:Opd)
 |nilchk (x:Opd)
 |bin (op:BinOp) (t:BT) (x y:Opd)
 |un (op:UnOp) (x:Opd)
 |conv (k:CK) (x:Opd)
 |mkslice (own:Bool) (esz bytes:Nat) (zero:List PV) (l c:Opd)
 |slice (k:SK) (x:Opd) (lo hi mx:Option Opd)
 |faddr (off:Nat) (x:Opd)
 |field (agg:Bool) (off size:Nat) (x:Opd)
 |iaddr (esz:Nat) (x i:Opd)
 |aaddr (len esz:Nat) (x i:Opd)
 |sidx (x i:Opd)
 |aidx (agg:Bool) (len esz:Nat) (x i:Opd)
 |extr (x:Opd) (i:Nat)
 |call (f:FuncId) (args:List Opd) (k:Nat)
 |callv (g:Opd) (args:List Opd) (k:Nat)
 |len (str:Bool) (x:Opd)
 |app (esz bytes:Nat) (zero:List PV) (x y:Opd)
 |appn (esz bytes:Nat) (zero:List PV) (y:Opd)
 |mm (mx:Bool) (x y:Opd)
 |newboxo (zero:List PV) (os:List (Nat×Nat))
 |buildo (zero:List PV) (parts:List (Nat×Nat×Opd)) (os:List (Nat×Nat))
 |storen (esz:Nat) (x:Opd)
 |callo (f:FuncId) (keep:List Bool) (args:List Opd) (k:Nat)
 |ppre (esz:Nat) (x hi:Opd)
 |psuf (esz:Nat) (x lo:Opd)
 |appp (esz bytes:Nat) (zero:List PV) (x y:Opd)
 deriving Inhabited
structure bR where
 op:AOp
 dst:Option Nat
 g:Option (Nat×Bool)
 deriving Inhabited
inductive bW where
 |skip
 |bad
 |reg (draw:Bool) (pairs:List (Nat×Nat)) (ins:List bR)
 |seq (a b:bW)
 |cond (c:Opd) (a b:bW)
 |block (id:Nat) (c:bW)
 |loop (live:List Nat) (c:bW)
 |lp (n:Nat) (live:List Nat) (c:bW)
 |scope (c:bW)
 |exit (id:Nat)
 |ret
 |keep (live:List Nat) (c:bW)
 |tidy (live:List Nat) (c:bW)
 |br (live:List Nat) (pre:bW) (c:Opd) (a b rest:bW)
 deriving Inhabited
inductive AX where
 |normal
 |exit (id:Nat)
 |ret
 deriving DecidableEq
abbrev Out:=AX×St
inductive tO where|tmp (t:Nat)|cell (t:Nat) (agg:Bool) (size:Nat)
structure AFn where
 np:Nat
 nt:Nat
 body:bW
 res:List tO
 fresh:Bool
structure Eff where
 val:AV
 ws:List (Nat×Blk)
def upd(ws:List (Nat×Blk))(sto:List Blk):List Blk:=ws.foldl (λs x=>s.set x.1 x.2) sto
def unp:List AV->Option (List PV)
 |[]=>some []
 | .p c::r=>match unp r with|some l=>some (c::l)|none=>none
 |_::_=>none
def cellsOf:AV->Option (List AV)| .p c=>some [.p c]| .data cs=>some (cs.map .p)| .agg cs=>some cs| .ptr b o=>some [.ptr b o]| .cp cs o=>some [.cp cs o]| .slr b i n=>some [.slr b i n]| .ep b e i o=>some [.ep b e i o]| .fn f a c=>some [.fn f a c]| .tup _=>none| .pre _ _ _=>none| .unk=>none
def jZ(agg:Bool)(cs:List AV):Option AV:=
 if agg then
  match unp cs with
  |some l=>some (.data l)
  |none=>some (.agg cs)
 else match cs with|[x]=>some x|_=>none
def nL(agg:Bool)(cs:List PV):Option AV:=
 if agg then some (.data cs)
 else match cs with|[x]=>some (.p x)|_=>none
def sub{α:Type}(cs:List α)(off size:Nat):Option (List α):=if off=0/\cs.length=size then some cs else if off+size<=cs.length then some ((cs.drop off).take size)else none
def spl{α:Type}(cs:List α)(off:Nat)(vs:List α):Option (List α):=if off=0/\cs.length=vs.length then some vs else if off+vs.length<=cs.length then some (cs.take off++vs++cs.drop (off+vs.length))else none
def fz:AV->RM (List PV×List (Nat×Blk))
 | .p c=>.ret ([c],[])
 | .data cs=>.ret (cs,[])
 | .slr b i n=>.blk b fun
  | .arr _ esz rows=>if i+n=rows.length then .ret ([.sl esz (rows.drop i)],[(b,.arr false esz rows)])else .fail
  |_=>.fail
 | .agg cs=>fzL cs
 |_=>.fail
where
 fzL:List AV->RM (List PV×List (Nat×Blk))
  |[]=>.ret ([],[])
  |x::r=>(fz1 x).bind λa=>(fzL r).bind λc=>.ret (a.1++c.1,a.2++c.2)
 fz1:AV->RM (List PV×List (Nat×Blk))
  | .p c=>.ret ([c],[])
  | .slr b i n=>.blk b fun
   | .arr _ esz rows=>if i+n=rows.length then .ret ([.sl esz (rows.drop i)],[(b,.arr false esz rows)])else .fail
   |_=>.fail
  |_=>.fail
def Jhb:KD->PV->PV->Option Bool| .b,.b x,.b y=>some (x==y)| .i k,.i g x,.i e y=>if k=g/\k=e then some (x==y)else none| .s,.s x,.s y=>some (x==y)|_,_,_=>none
def J1t:List KD->List PV->List PV->Option Bool
 |[],[],[]=>some true
 |k::ks,x::xs,y::e=>match Jhb k x y,J1t ks xs e with|some a,some c=>some (a&&c)|_,_=>none
 |_,_,_=>none
def HX(op:BinOp)(k:IntKind)(x y:Int):Option PV:=
 if y<0 then none
 else match op with| .shl=>some (.i k (k.wrap (x*2^(min y.toNat k.bits))))| .shr=>some (.i k (x.fdiv (2^(min y.toNat k.bits))))|_=>none
def wF(op:BinOp)(k:IntKind)(x y:Int):Option PV:=
 match op with
 | .add=>some (.i k (k.wrap (x+y)))
 | .sub=>some (.i k (k.wrap (x-y)))
 | .mul=>some (.i k (k.wrap (x*y)))
 | .quo=>if y=0 then none else some (.i k (k.wrap (x.tdiv y)))
 | .rem=>if y=0 then none else some (.i k (x.tmod y))
 | .and=>some (.i k (k.wrap (BitVec.ofInt k.bits x&&&BitVec.ofInt k.bits y).toNat))
 | .or=>some (.i k (k.wrap (BitVec.ofInt k.bits x|||BitVec.ofInt k.bits y).toNat))
 | .xor=>some (.i k (k.wrap (BitVec.ofInt k.bits x^^^BitVec.ofInt k.bits y).toNat))
 | .eql=>some (.b (x==y))
 | .neq=>some (.b (x !=y))
 | .lss=>some (.b (decide (x<y)))
 | .leq=>some (.b (decide (x<=y)))
 | .gtr=>some (.b (decide (x>y)))
 | .geq=>some (.b (decide (x>=y)))
 |_=>none
def wL(op:BinOp)(x y:List UInt8):Option PV:=
 match op with
 | .add=>if x.length+y.length<=4611686018427387904 then some (.s (x++y))else none
 | .eql=>some (.b (x==y))
 | .neq=>some (.b (!(x==y)))
 | .lss=>some (.b (Op.bytesLess x y))
 | .leq=>some (.b (Op.bytesLess x y||x==y))
 | .gtr=>some (.b (!(Op.bytesLess x y||x==y)))
 | .geq=>some (.b (!Op.bytesLess x y))
 |_=>none
def iN(op:BinOp)(r:Option Bool):Option AV:=
 match op,r with
 | .eql,some x=>some (.p (.b x))
 | .neq,some x=>some (.p (.b (!x)))
 |_,_=>none
def FC:BinOp->Option AV| .eql=>some .unk| .neq=>some .unk|_=>none
def mU(op:BinOp)(t:BT)(x y:AV):Option AV:=
 match t with
 | .plain=>match x,y with
  | .p (.i k a),.p (.i e c)=>match op with| .shl=>(HX .shl k a c).map .p| .shr=>(HX .shr k a c).map .p|_=>if k=e then(wF op k a c).map .p else none
  | .p (.s a),.p (.s c)=>(wL op a c).map .p
  |_,_=>none
 | .bool=>match x,y with| .p (.b a),.p (.b c)=>iN op (some (a==c))|_,_=>none
 | .flat ks=>match x,y with| .data a,.data c=>iN op (J1t ks a c)|_,_=>none
 | .nils=>match x with
  | .p (.sl _ rows)=>match rows with|[]=>FC op|_::_=>iN op (some false)
  | .slr _ _ n=>if n=0 then FC op else iN op (some false)
  |_=>none
 | .nilp=>match x with| .p .np=>iN op (some true)| .ptr _ _=>iN op (some false)| .cp _ _=>iN op (some false)| .ep _ _ _ _=>iN op (some false)|_=>none
 | .nilf=>match x with| .p .nf=>iN op (some true)| .fn _ _ _=>iN op (some false)|_=>none
def unP(op:UnOp)(x:AV):Option AV:=
 match op,x with
 | .neg,.p (.i k n)=>some (.p (.i k (k.wrap (0-n))))
 | .xor,.p (.i k n)=>some (.p (.i k (k.wrap (BitVec.ofInt k.bits (if k.signed then -1 else k.max)^^^BitVec.ofInt k.bits n).toNat)))
 | .not,.p (.b x)=>some (.p (.b (!x)))
 | .not,.unk=>some .unk
 |_,_=>none
def sI:List (List PV)->Option (List UInt8)
 |[]=>some []
 |[.i .u8 n]::r=>match sI r with|some l=>some (UInt8.ofNat n.toNat::l)|none=>none
 |_::_=>none
def lY(x:UInt8):List PV:=[.i .u8 x.toNat]
def yF(esz:Nat):List (Nat×List PV)->List (List PV)->Option (List (List PV))|[],rows=>some rows|(i,c)::r,rows=>if c.length=esz/\i<rows.length then yF esz r (rows.set i c)else none
def oS:List (Nat×Nat×List AV)->List AV->Option (List AV)
 |[],cs=>some cs
 |(off,size,c)::r,cs=>
  if c.length=size then
   match spl cs off c with
   |some cs'=>oS r cs'
   |none=>none
  else none
def ev:Opd->RM AV| .t n=>.slot n .ret| .c x=>.ret x
def evs:List Opd->RM (List AV)|[]=>.ret []|x::r=>(ev x).bind λv=>(evs r).bind λvs=>.ret (v::vs)
def val(x:Option AV):RM Eff:=
 match x with
 |some v=>.ret ⟨v,[]⟩
 |none=>.fail
def fzs:List Opd->RM (List (List PV)×List (Nat×Blk))|[]=>.ret ([],[])|x::r=>(ev x).bind λv=>(fz v).bind λa=>(fzs r).bind λc=>.ret (a.1::c.1,a.2++c.2)
def lZ(x:Option AV)(top e:Nat):Option Nat:=
 match x with
 |none=>some e
 |some (.p (.i _ n))=>if 0<=n/\n<=top then some n.toNat else none
 |some _=>none
def evo:Option Opd->RM (Option AV)|none=>.ret none|some x=>(ev x).bind λv=>.ret (some v)
def mS(n:Nat)(lo hi:Option AV):Option (Nat×Nat):=
 match lZ hi n n with
 |none=>none
 |some h=>match lZ lo h 0 with|none=>none|some l=>some (l,h)
def uQ(x:AV)(lo hi:Option AV):Option AV:=
 match x with
 | .p (.s l)=>match mS l.length lo hi with|some c=>some (.p (.s ((l.drop c.1).take (c.2-c.1))))|none=>none
 |_=>none
def uO(esz:Nat)(x:AV)(lo hi:Option AV):Option AV:=
 match x with
 | .p (.sl e rows)=>if esz=e then
   match mS rows.length lo hi with
   |some c=>some (.p (.sl esz ((rows.drop c.1).take (c.2-c.1))))
   |none=>none
  else none
 |_=>none
def MR(esz:Nat)(x:AV)(lo hi:Option AV)(m:AV):Option AV:=
 match x,lo,hi,m with
 | .p (.sl e rows),none,some (.p (.i _ h)),.p (.i _ n)=>if esz=e/\h=rows.length/\n=rows.length then some (.p (.slc esz rows))else none
 |_,_,_,_=>none
def jS(k:SK)(x:AV)(lo hi mx:Option AV):Option AV:=
 match mx with
 |some m=>match k with| .str=>none| .sl esz=>MR esz x lo hi m
 |none=>match k with| .str=>uQ x lo hi| .sl esz=>uO esz x lo hi
def ME(rows:List (List PV))(n:Int):Option (List PV):=if 0<=n then rows[n.toNat]? else none
def lX(esz:Nat)(x i:AV):RM Eff:=
 match x,i with
 | .p (.sl e rows),.p (.i _ n)=>
  if esz=e then
   match ME rows n with
   |some row=>.ret ⟨.cp row 0,[]⟩
   |none=>.fail
  else .fail
 | .slr b j m,.p (.i _ n)=>.blk b fun
  | .arr _ e rows=>if esz=e/\j+m=rows.length/\0<=n/\n<m then .ret ⟨.ep b rows.length (j+n.toNat) 0,[]⟩else .fail
  |_=>.fail
 |_,_=>.fail
def HK(len esz:Nat)(x i:AV):Option AV:=
 match i with
 | .p (.i _ n)=>
  if 0<=n/\n<len then
   match x with
   | .ptr b off=>some (.ptr b (off+n.toNat*esz))
   | .cp cs off=>some (.cp cs (off+n.toNat*esz))
   | .ep b e j off=>some (.ep b e j (off+n.toNat*esz))
   |_=>none
  else none
 |_=>none
def HC(off:Nat):AV->Option AV| .ptr b o=>some (.ptr b (o+off))| .cp cs o=>some (.cp cs (o+off))| .ep b e j o=>some (.ep b e j (o+off))|_=>none
def fX(agg:Bool)(size:Nat):AV->RM Eff
 | .cp cs off=>match sub cs off size with|some l=>val (nL agg l)|none=>.fail
 | .ptr b off=>.blk b fun
  | .box cs=>match sub cs off size with|some l=>val (jZ agg l)|none=>.fail
  |_=>.fail
 | .ep b ext i off=>.blk b fun
  | .arr _ _ rows=>if ext=rows.length then
    match rows[i]? with
    |some row=>match sub row off size with|some l=>val (nL agg l)|none=>.fail
    |none=>.fail
   else .fail
  |_=>.fail
 |_=>.fail
def fY:AV:=.tup []
def hC(size:Nat)(x v:AV):RM Eff:=
 match x with
 | .ptr b off=>.blk b fun
  | .box cs=>match cellsOf v with
   |some l=>if l.length=size then
    match spl cs off l with
    |some cs'=>.ret ⟨fY,[(b,.box cs')]⟩
    |none=>.fail
    else .fail
   |none=>.fail
  |_=>.fail
 | .ep b ext i off=>.blk b fun
  | .arr true esz rows=>if ext=rows.length then
    match rows[i]? with
    |some row=>(fz v).bind λa=>
     if a.1.length=size/\(a.2.all λy=>y.1 !=b)then
      match spl row off a.1 with
      |some e=>.ret ⟨fY,a.2++[(b,.arr true esz (rows.set i e))]⟩
      |none=>.fail
     else .fail
    |none=>.fail
   else .fail
  |_=>.fail
 |_=>.fail
def qB(agg:Bool)(off size:Nat):AV->Option AV
 | .data cs=>match sub cs off size with|some l=>nL agg l|none=>none
 | .agg cs=>match sub cs off size with|some l=>jZ agg l|none=>none
 |_=>none
def MT(i:Nat):AV->Option AV| .tup vs=>vs[i]?|_=>none
def GA:Bool->AV->Option AV|true,.p (.s l)=>some (.p (.i .i64 l.length))|false,.p (.sl _ rows)=>some (.p (.i .i64 rows.length))|false,.slr _ _ n=>some (.p (.i .i64 n))|_,_=>none
def eY(esz:Nat):AV->RM (List (List PV))
 | .p (.sl e rows)=>if esz=e then .ret rows else .fail
 | .p (.s l)=>if esz=1 then .ret (l.map lY)else .fail
 | .slr b i n=>.blk b fun
  | .arr _ e rows=>if esz=e/\i+n=rows.length then .ret (rows.drop i)else .fail
  |_=>.fail
 |_=>.fail
def kN(n bytes:Nat):Bool:=(2*n+512)*bytes<=281474976710656
def iH(esz bytes:Nat)(x y:AV):RM Eff:=
 match x with
 | .slr b i n=>.blk b fun
  | .arr w e rows=>(eY esz y).bind λnew=>
   if esz=e/\i=0/\n=rows.length/\kN (n+new.length) bytes then
    .ret ⟨.slr b 0 (n+new.length),[(b,.arr w esz (rows++new))]⟩
   else .fail
  |_=>.fail
 |_=>.fail
def rC:AV->AV->RM Eff
 | .slr b i n,.p (.i _ k)=>.blk b fun
  | .arr _ _ rows=>if i=0/\n=rows.length/\0<=k/\k.toNat<=n then .ret ⟨.pre b n k.toNat,[]⟩else .fail
  |_=>.fail
 |_,_=>.fail
def rO(esz:Nat):AV->AV->RM Eff
 | .slr b i n,.p (.i _ k)=>.blk b fun
  | .arr _ e rows=>if esz=e/\i+n=rows.length/\0<=k/\k.toNat<n then .ret ⟨.slr b (i+k.toNat) (n-k.toNat),[]⟩else .fail
  |_=>.fail
 |_,_=>.fail
def rJ(esz bytes:Nat)(x y:AV):RM Eff:=
 match x with
 | .pre b n k=>.blk b fun
  | .arr true e rows=>(eY esz y).bind λnew=>
   if esz=e/\0<n/\n=rows.length/\kN (n+new.length) bytes then
    .ret ⟨.p (.sl esz (rows.take k++new)),[(b,.arr false esz (rows.take k++new++rows.drop (k+new.length)))]⟩
   else .fail
  |_=>.fail
 |_=>.fail
def mmP(mx:Bool)(x y:AV):Option AV:=
 match x,y with
 | .p (.i k a),.p (.i _ c)=>some (.p (.i k (if mx then(if c>a then c else a)else(if c<a then c else a))))
 |_,_=>none
inductive Ent where
 |whole (b:Nat)
 |elem (b ext i:Nat)
 deriving DecidableEq
def Ent.id:Ent->Nat| .whole b=>b| .elem b _ _=>b
def uP(e:Ent)(l:List Ent):List Ent:=if l.any (λx=>x==e)then l else l++[e]
def cF:AV->List Ent->List Ent
 | .ptr b _,l=>uP (.whole b) l
 | .slr b _ _,l=>uP (.whole b) l
 | .ep b e i _,l=>uP (.elem b e i) l
 | .fn _ first caps,l=>entsOfL caps (entsOfL first l)
 | .agg cs,l=>entsOfL cs l
 | .tup cs,l=>entsOfL cs l
 |_,l=>l
where
 entsOfL:List AV->List Ent->List Ent
  |[],l=>l
  |x::r,l=>entsOfL r (cF x l)
def cV(e:Ent):List Ent->Nat->Option Nat|[],_=>none|x::r,k=>if x=e then some k else cV e r (k+1)
def ren(ρ:Ent->Option Nat):AV->Option AV
 | .p c=>some (.p c)
 | .data cs=>some (.data cs)
 | .cp cs o=>some (.cp cs o)
 | .unk=>some .unk
 | .ptr b off=>(ρ (.whole b)).map λk=>.ptr k off
 | .ep b e i off=>(ρ (.elem b e i)).map λk=>.ptr k off
 | .slr b i n=>(ρ (.whole b)).map λk=>.slr k i n
 | .fn f first caps=>(renL ρ first).bind λa=>(renL ρ caps).map λc=>.fn f a c
 | .agg cs=>(renL ρ cs).map .agg
 | .tup cs=>(renL ρ cs).map .tup
 | .pre _ _ _=>none
where
 renL (ρ:Ent->Option Nat):List AV->Option (List AV)
  |[]=>some []
  |x::r=>match ren ρ x,renL ρ r with
   |some y,some l=>some (y::l)
   |_,_=>none
end Go.Am
end
section
namespace Go.Am
def iT:List Nat->Bool|[]=>true|x::r=> !(r.contains x)&&iT r
def iO(b:Nat):List (Nat×Blk)->Option Blk|[]=>none|(c,x)::r=>match iO b r with|some y=>some y|none=>if c=b then some x else none
def pQ(ws:List (Nat×Blk))(b:Nat):RM Blk:=
 .blk b λx=>match iO b ws with|some y=>.ret y|none=>.ret x
def dS(ws:List (Nat×Blk)):List Ent->List Ent->RM (List Ent)
 |[],acc=>.ret acc
 | .whole b::r,acc=>(pQ ws b).bind fun
  | .box cs=>dS ws r (cF.entsOfL cs acc)
  |_=>dS ws r acc
 |_::r,acc=>dS ws r acc
def iG:AV->RM (AV×List (Nat×Blk))
 | .slr b i n=>(fz (.slr b i n)).bind λa=>match a.1 with|[c]=>.ret (.p c,a.2)|_=>.fail
 | .agg cs=>(fz (.agg cs)).bind λa=>.ret (.data a.1,a.2)
 | .tup _=>.fail
 |v=>.ret (v,[])
def jK:List AV->RM (List AV×List (Nat×Blk))|[]=>.ret ([],[])|x::r=>(iG x).bind λa=>(jK r).bind λc=>.ret (a.1::c.1,a.2++c.2)
def xK(ws:List (Nat×Blk))(ρ:Ent->Option Nat):Ent->RM Blk
 | .whole b=>(pQ ws b).bind fun
  | .box cs=>match ren.renL ρ cs with|some l=>.ret (.box l)|none=>.fail
  | .arr w esz rows=>.ret (.arr w esz rows)
  | .dead=>.fail
 | .elem b ext i=>(pQ ws b).bind fun
  | .arr true _ rows=>if ext=rows.length then
    match rows[i]? with
    |some row=>.ret (.box (row.map .p))
    |none=>.fail
   else .fail
  |_=>.fail
def jU(ws:List (Nat×Blk))(ρ:Ent->Option Nat):List Ent->RM (List Blk)|[]=>.ret []|e::r=>(xK ws ρ e).bind λx=>(jU ws ρ r).bind λl=>.ret (x::l)
def bk(es:List Ent)(new:Nat):AV->Option AV
 | .p c=>some (.p c)
 | .data cs=>some (.data cs)
 | .cp cs o=>some (.cp cs o)
 | .unk=>some .unk
 | .ptr k off=>if k<es.length then
   match es[k]? with
   |some (.whole b)=>some (.ptr b off)
   |some (.elem b e i)=>some (.ep b e i off)
   |none=>none
  else some (.ptr (new+(k-es.length)) off)
 | .slr k i n=>if k<es.length then
   match es[k]? with
   |some (.whole b)=>some (.slr b i n)
   |_=>none
  else some (.slr (new+(k-es.length)) i n)
 | .ep k e i off=>if k<es.length then
   match es[k]? with
   |some (.whole b)=>some (.ep b e i off)
   |_=>none
  else some (.ep (new+(k-es.length)) e i off)
 | .fn f first caps=>match bkL es new first,bkL es new caps with|some a,some c=>some (.fn f a c)|_,_=>none
 | .agg cs=>match bkL es new cs with|some l=>some (.agg l)|none=>none
 | .tup cs=>match bkL es new cs with|some l=>some (.tup l)|none=>none
 | .pre _ _ _=>none
where
 bkL (es:List Ent) (new:Nat):List AV->Option (List AV)
  |[]=>some []
  |x::r=>match bk es new x,bkL es new r with
   |some y,some l=>some (y::l)
   |_,_=>none
def sA(ws:List (Nat×Blk))(es:List Ent)(new:Nat)(e:Ent)(x:Blk):RM (Nat×Blk):=
 match e,x with
 | .whole b,.box cs=>match bk.bkL es new cs with|some l=>.ret (b,.box l)|none=>.fail
 | .whole b,.arr w esz rows=>.ret (b,.arr w esz rows)
 | .elem b _ i,.box cs=>(pQ ws b).bind fun
  | .arr w esz rows=>match unp cs with|some row=>.ret (b,.arr w esz (rows.set i row))|none=>.fail
  |_=>.fail
 |_,_=>.fail
def iB(ws:List (Nat×Blk))(es:List Ent)(new:Nat):List Ent->List Blk->RM (List (Nat×Blk))|[],_=>.ret []|e::r,x::l=>(sA ws es new e x).bind λy=>(iB ws es new r l).bind λg=>.ret (y::g)|_::_,[]=>.fail
def gO(es:List Ent)(new:Nat):Nat->List Blk->Option (List (Nat×Blk))
 |_,[]=>some []
 |k,.box cs::l=>match bk.bkL es new cs,gO es new (k+1) l with|some c,some e=>some ((k,.box c)::e)|_,_=>none
 |k,.arr w esz rows::l=>match gO es new (k+1) l with|some e=>some ((k,.arr w esz rows)::e)|none=>none
 |_,.dead::_=>none
def gY(F:Orc)(f:FuncId)(args:List AV)(k new:Nat):RM Eff:=
 (jK args).bind λa=>
 (dS a.2 (cF.entsOfL a.1 []) (cF.entsOfL a.1 [])).bind λh=>
 (dS a.2 h h).bind λes=>
 if iT (es.map Ent.id)then
  match ren.renL (λe=>cV e es 0) a.1 with
  |none=>.fail
  |some g=>(jU a.2 (λe=>cV e es 0) es).bind λblks=>
   match F f g blks with
   |none=>.fail
   |some r=>if r.2.length=es.length+k then
    match bk es new r.1,gO es new new (r.2.drop es.length)with
    |some v,some fresh=>(iB a.2 es new es r.2).bind λj=>.ret ⟨v,a.2++j++fresh⟩
    |_,_=>.fail
    else .fail
 else .fail
def jR:List (Nat×Nat×Opd)->RM (List (Nat×Nat×List AV))|[]=>.ret []|(off,size,x)::r=>(ev x).bind λv=>match cellsOf v with|some cs=>(jR r).bind λl=>.ret ((off,size,cs)::l)|none=>.fail
def gJ:List (Nat×Nat)->Nat->List (Nat×Blk)|[],_=>[]|(_,esz)::r,n=>(n,.arr true esz [])::gJ r (n+1)
def lJ:List (Nat×Nat)->Nat->List AV->List AV|[],_,cs=>cs|(off,_)::r,n,cs=>lJ r (n+1) (cs.set off (.slr n 0 0))
def eT:List Bool->List AV->RM (List AV×List (Nat×Blk))|_,[]=>.ret ([],[])|[],x::r=>(iG x).bind λa=>(eT [] r).bind λc=>.ret (a.1::c.1,a.2++c.2)|true::m,x::r=>(eT m r).bind λc=>.ret (x::c.1,c.2)|false::m,x::r=>(iG x).bind λa=>(eT m r).bind λc=>.ret (a.1::c.1,a.2++c.2)
def fG(F:Orc)(f:FuncId)(a:List AV×List (Nat×Blk))(k new:Nat):RM Eff:=
 (dS a.2 (cF.entsOfL a.1 []) (cF.entsOfL a.1 [])).bind λh=>
 (dS a.2 h h).bind λes=>
 if iT (es.map Ent.id)then
  match ren.renL (λe=>cV e es 0) a.1 with
  |none=>.fail
  |some g=>(jU a.2 (λe=>cV e es 0) es).bind λblks=>
   match F f g blks with
   |none=>.fail
   |some r=>if es.length<=r.2.length/\r.2.length<=es.length+k then
    match bk es new r.1,gO es new new (r.2.drop es.length)with
    |some v,some fresh=>(iB a.2 es new es r.2).bind λj=>.ret ⟨v,a.2++j++fresh⟩
    |_,_=>.fail
    else .fail
 else .fail
def opR(F:Orc)(op:AOp)(new:Nat):RM Eff:=
 match op with
 | .mv x=>(ev x).bind λv=>.ret ⟨v,[]⟩
 | .mkarr esz _=>.ret ⟨.slr new 0 0,[(new,.arr true esz [])]⟩
 | .pick c a b=>(ev c).bind fun
  | .p (.b x)=>if x then(ev a).bind λv=>.ret ⟨v,[]⟩else(ev b).bind λv=>.ret ⟨v,[]⟩
  |_=>.fail
 | .newbox zero=>.ret ⟨.ptr new 0,[(new,.box (zero.map .p))]⟩
 | .box size x=>(ev x).bind λv=>match cellsOf v with|some cs=>if cs.length=size then .ret ⟨.ptr new 0,[(new,.box cs)]⟩else .fail|none=>.fail
 | .build zero parts=>(jR parts).bind λl=>match oS l (zero.map .p)with|some cs=>val (jZ true cs)|none=>.fail
 | .lits own esz n zero parts=>(fzs (parts.map (·.2))).bind λa=>
  match yF esz ((parts.map (·.1)).zip a.1) (List.replicate n zero)with
  |some rows=>if own then .ret ⟨.slr new 0 n,a.2++[(new,.arr true esz rows)]⟩else .ret ⟨.p (.sl esz rows),a.2⟩
  |none=>.fail
 | .load agg size x=>(ev x).bind λv=>fX agg size v
 | .store size x y=>(ev x).bind λa=>(ev y).bind λv=>hC size a v
 | .nilchk x=>(ev x).bind fun
  | .ptr b o=>.ret ⟨.ptr b o,[]⟩
  | .cp cs o=>.ret ⟨.cp cs o,[]⟩
  | .ep b e i o=>.ret ⟨.ep b e i o,[]⟩
  | .fn f u c=>.ret ⟨.fn f u c,[]⟩
  |_=>.fail
 | .bin op t x y=>(ev x).bind λa=>(ev y).bind λc=>val (mU op t a c)
 | .un op x=>(ev x).bind λa=>val (unP op a)
 | .conv k x=>(ev x).bind λa=>match k,a with
  | .int k,.p (.i _ n)=>.ret ⟨.p (.i k (k.wrap n)),[]⟩
  | .same,.p (.s l)=>.ret ⟨.p (.s l),[]⟩
  | .toStr,a=>(eY 1 a).bind λrows=>match sI rows with|some l=>.ret ⟨.p (.s l),[]⟩|none=>.fail
  | .toBytes own,.p (.s l)=>if own then .ret ⟨.slr new 0 l.length,[(new,.arr true 1 (l.map lY))]⟩else .ret ⟨.p (.sl 1 (l.map lY)),[]⟩
  |_,_=>.fail
 | .mkslice own esz bytes zero l c=>(ev l).bind λa=>(ev c).bind λd=>match a,d with
  | .p (.i _ n),.p (.i _ m)=>
   if 0<=n/\n<=m/\bytes*m<=281474976710656/\m<=281474976710656 then
    if own then .ret ⟨.slr new 0 n.toNat,[(new,.arr true esz (List.replicate n.toNat zero))]⟩
    else .ret ⟨.p (.sl esz (List.replicate n.toNat zero)),[]⟩
   else .fail
  |_,_=>.fail
 | .slice k x lo hi mx=>(ev x).bind λa=>(evo lo).bind λlo=>(evo hi).bind λhi=>(evo mx).bind λmx=>
  match a with
  | .slr b i n=>(fz (.slr b i n)).bind λy=>match y.1 with
   |[c]=>match jS k (.p c) lo hi mx with|some v=>.ret ⟨v,y.2⟩|none=>.fail
   |_=>.fail
  |a=>val (jS k a lo hi mx)
 | .faddr off x=>(ev x).bind λa=>val (HC off a)
 | .field agg off size x=>(ev x).bind λa=>val (qB agg off size a)
 | .iaddr esz x i=>(ev x).bind λa=>(ev i).bind λc=>lX esz a c
 | .aaddr len esz x i=>(ev x).bind λa=>(ev i).bind λc=>val (HK len esz a c)
 | .sidx x i=>(ev x).bind λa=>(ev i).bind λc=>match a,c with
  | .p (.s l),.p (.i _ n)=>if 0<=n then
    match l[n.toNat]? with
    |some u=>.ret ⟨.p (.i .u8 u.toNat),[]⟩
    |none=>.fail
   else .fail
  |_,_=>.fail
 | .aidx agg len esz x i=>(ev x).bind λa=>(ev i).bind λc=>match c with| .p (.i _ n)=>if 0<=n/\n<len then val (qB agg (n.toNat*esz) esz a)else .fail|_=>.fail
 | .extr x i=>(ev x).bind λa=>val (MT i a)
 | .call f args k=>(evs args).bind λvs=>gY F f vs k new
 | .callv g args k=>(ev g).bind fun
  | .fn f first caps=>(evs args).bind λvs=>gY F f (first++vs++caps) k new
  |_=>.fail
 | .len str x=>(ev x).bind λa=>val (GA str a)
 | .appn esz bytes _ y=>(ev y).bind λc=>(eY esz c).bind λrows=>
  if kN rows.length bytes then .ret ⟨.slr new 0 rows.length,[(new,.arr true esz rows)]⟩else .fail
 | .app esz bytes _ x y=>(ev x).bind λa=>(ev y).bind λc=>iH esz bytes a c
 | .ppre _ x hi=>(ev x).bind λa=>(ev hi).bind λc=>rC a c
 | .psuf esz x lo=>(ev x).bind λa=>(ev lo).bind λc=>rO esz a c
 | .appp esz bytes _ x y=>(ev x).bind λa=>(ev y).bind λc=>rJ esz bytes a c
 | .mm mx x y=>(ev x).bind λa=>(ev y).bind λc=>val (mmP mx a c)
 | .newboxo zero os=>.ret ⟨.ptr (new+os.length) 0,gJ os new++[(new+os.length,.box (lJ os new (zero.map .p)))]⟩
 | .buildo zero parts os=>(jR parts).bind λl=>match oS l (lJ os new (zero.map .p))with
  |some cs=>match jZ true cs with|some v=>.ret ⟨v,gJ os new⟩|none=>.fail
  |none=>.fail
 | .storen esz x=>(ev x).bind λa=>(hC 1 a (.slr new 0 0)).bind λe=>.ret ⟨e.val,(new,.arr true esz [])::e.ws⟩
 | .callo f keep args k=>(evs args).bind λvs=>(eT keep vs).bind λa=>fG F f a k new
def kP:AOp->Nat| .newbox _| .box _ _| .mkarr _ _| .appn _ _ _ _=>1| .lits own _ _ _ _=>if own then 1 else 0| .mkslice own _ _ _ _ _=>if own then 1 else 0| .conv (.toBytes own) _=>if own then 1 else 0| .call _ _ k| .callv _ _ k| .callo _ _ _ k=>k| .newboxo _ os=>os.length+1| .buildo _ _ os=>os.length| .storen _ _=>1|_=>0
def rS(new:Nat):Nat->RM Unit
 |0=>.ret ()
 |k+1=>.blk new fun
  | .dead=>rS (new+1) k
  |_=>.fail
def opD(F:Orc)(op:AOp)(new:Nat):RM Eff:=(rS new (kP op)).bind λ_=>opR F op new
def bT(F:Orc)(i:bR)(new:Nat):RM Eff:=
 match i.g with
 |none=>opD F i.op new
 |some (g,e)=>.slot g fun
  | .p (.b x)=>if x=e then opD F i.op new else .ret ⟨fY,[]⟩
  | .tup []=>.ret ⟨fY,[]⟩
  |_=>.fail
def put(d:Option Nat)(e:Eff)(s:St):St:=
 match d with
 |some d=>⟨(d,e.val)::s.env,upd e.ws s.sto⟩
 |none=>⟨s.env,upd e.ws s.sto⟩
def fR(F:Orc):List bR->Nat->St->Option St|[],_,s=>some s|i::r,new,s=>match(bT F i new).run s with|some e=>fR F r (new+kP i.op) (put i.dst e s)|none=>none
def iW:List Loc->List Nat|[]=>[]| .blk b::r=>b::iW r|_::r=>iW r
abbrev Log:=List (List Nat×List Nat)
def iU(F:Orc):List bR->Nat->St->Log->Option (St×Log)|[],_,s,l=>some (s,l)|i::r,new,s,l=>match(bT F i new).run s with|some e=>iU F r (new+kP i.op) (put i.dst e s) (l++[(iW ((bT F i new).reads s),e.ws.map (·.1))])|none=>none
def fV(a b:List Nat):Bool:=a.all λx=> !(b.contains x)
def CW(l:Log):List (Nat×Nat)->Bool
 |[]=>true
 |(i,j)::r=>(match l[i]?,l[j]? with
  |some a,some b=>fV a.2 b.1&&fV a.2 b.2&&fV a.1 b.2
  |_,_=>false)&&CW l r
def news:List bR->Nat|[]=>0|i::r=>kP i.op+news r
def room(n:Nat)(sto:List Blk):List Blk:=if n=0 then sto else sto++List.replicate n .dead
def region(F:Orc)(pairs:List (Nat×Nat))(ins:List bR)(s:St):Option St:=
 match pairs with
 |[]=>fR F ins s.sto.length ⟨s.env,room (news ins) s.sto⟩
 |_::_=>match iU F ins s.sto.length ⟨s.env,room (news ins) s.sto⟩ []with|some (s',l)=>if CW l pairs then some s' else none|none=>none
def restr:List Nat->List (Nat×AV)->List (Nat×AV)|[],_=>[]|k::r,env=>match lk k env with|some v=>(k,v)::restr r env|none=>restr r env
def eE(b:Nat):List Nat->Nat->Option Nat|[],_=>none|x::r,k=>if x=b then some k else eE b r (k+1)
def fin(m:Nat)(ids:List Nat)(sto:List Blk):AV->Option AV
 | .p c=>some (.p c)
 | .data cs=>some (.data cs)
 | .cp cs o=>some (.cp cs o)
 | .unk=>some .unk
 | .ptr b off=>if b<m then some (.ptr b off)else(eE b ids m).map λk=>.ptr k off
 | .slr b i n=>if b<m then some (.slr b i n)else
  match eE b ids m with
  |some k=>some (.slr k i n)
  |none=>match sto[b]? with|some (.arr _ esz rows)=>if i+n=rows.length then some (.p (.sl esz (rows.drop i)))else none|_=>none
 | .ep b e i off=>if b<m then some (.ep b e i off)else(eE b ids m).map λk=>.ep k e i off
 | .fn f first caps=>match finL m ids sto first,finL m ids sto caps with|some a,some c=>some (.fn f a c)|_,_=>none
 | .agg cs=>match finL m ids sto cs with
  |some l=>match unp l with|some q=>some (.data q)|none=>some (.agg l)
  |none=>none
 | .tup cs=>match finL m ids sto cs with|some l=>some (.tup l)|none=>none
 | .pre _ _ _=>none
where
 finL (m:Nat) (ids:List Nat) (sto:List Blk):List AV->Option (List AV)
  |[]=>some []
  |x::r=>match fin m ids sto x,finL m ids sto r with
   |some y,some l=>some (y::l)
   |_,_=>none
def fK(m:Nat)(ids:List Nat)(sto:List Blk):Blk->Option Blk
 | .dead=>some .dead
 | .box cs=>match fin.finL m ids sto cs with|some l=>some (.box l)|none=>none
 | .arr w esz rows=>some (.arr w esz rows)
def pU(m:Nat)(ids:List Nat)(sto:List Blk):List Blk->Option (List Blk)|[]=>some []|x::r=>match fK m ids sto x,pU m ids sto r with|some y,some l=>some (y::l)|_,_=>none
def tN(m:Nat)(sto:List Blk):List (Nat×AV)->Option (List (Nat×AV))|[]=>some []|(k,x)::r=>match fin m [] sto x,tN m sto r with|some y,some l=>some ((k,y)::l)|_,_=>none
def clean(n:Nat)(live:List Nat)(s:St):Option St:=
 if s.sto.length=n then some ⟨restr live s.env,s.sto⟩
 else match tN n s.sto (restr live s.env),pU n [] s.sto (s.sto.take n)with|some e,some l=>some ⟨e,l⟩|_,_=>none
def mT:List tO->RM (List AV)|[]=>.ret []| .tmp t::r=>(RM.slot t .ret).bind λv=>(mT r).bind λl=>.ret (v::l)| .cell t agg size::r=>(RM.slot t .ret).bind λv=>(fX agg size v).bind λe=>(mT r).bind λl=>.ret (e.val::l)
def iX(m:Nat)(fresh:Bool)(sto:List Blk):List Ent->List Nat
 |[]=>[]
 | .whole b::r=>if b<m then iX m fresh sto r else
  match sto[b]? with
  |some (.box _)=>b::iX m fresh sto r
  |some (.arr _ _ _)=>if fresh then b::iX m fresh sto r else iX m fresh sto r
  |_=>iX m fresh sto r
 |_::r=>iX m fresh sto r
def pV(sto:List Blk):List Ent->List Ent->List Ent
 |[],acc=>acc
 | .whole b::r,acc=>match sto[b]? with|some (.box cs)=>pV sto r (cF.entsOfL cs acc)|_=>pV sto r acc
 |_::r,acc=>pV sto r acc
def uB(sto:List Blk):List Nat->Option (List Blk)|[]=>some []|b::r=>match sto[b]?,uB sto r with|some x,some l=>some (x::l)|_,_=>none
def one:List AV->AV|[x]=>x|l=>.tup l
def gM(fn:AFn)(m:Nat)(s:St):Option Res:=
 match(mT fn.res).run s with
 |none=>none
 |some vs=>
  if s.sto.length=m then some (one vs,s.sto)
  else
   match iX m fn.fresh s.sto (pV s.sto (cF.entsOfL vs []) (cF.entsOfL vs []))with
   |ids=>if iT ids then
    match fin.finL m ids s.sto vs,pU m ids s.sto (s.sto.take m),uB s.sto ids with
    |some ws,some l,some q=>match pU m ids s.sto q with|some q'=>some (one ws,l++q')|none=>none
    |_,_,_=>none
    else none
def iK:Nat->List AV->List (Nat×AV)|_,[]=>[]|k,x::r=>(k,x)::iK (k+1) r
structure oF where
 np:Nat
 nt:Nat
 p0:bW
 live:List Nat
 pre:bW
 c:Opd
 a:bW
 b:bW
 rest:bW
 res:List tO
 fresh:Bool
def oF.af(k:oF):AFn:=⟨k.np,k.nt,.seq k.p0 (.br k.live k.pre k.c k.a k.b k.rest),k.res,k.fresh⟩
def wM(f:AFn)(m:Nat)(o:Option Out):Option Res:=
 match o with
 |some (.normal,s)=>gM f m s
 |some (.ret,s)=>gM f m s
 |_=>none
open Classical in
noncomputable def HB(a b:Option Res):Option Res:=
 match a,b with
 |some r,some r'=>if r=r' then some r else none
 |_,_=>none
def thn(o:Option Out)(k:St->Option Out):Option Out:=
 match o with
 |some (.normal,s)=>k s
 |o=>o
noncomputable def BZ(R:bW->St->Option Out)(k:oF)(args:List AV)(blks:List Blk):Option Res:=
 match R k.p0 ⟨iK 0 args,blks⟩with
 |some (.normal,s0)=>match R k.pre s0 with
  |some (.normal,s1)=>match(ev k.c).run s1 with|some (.p (.b x))=>if x=true then wM k.af blks.length (thn (R k.a s1) λs=>R k.rest s)else wM k.af blks.length (thn (R k.b s1) λs=>R k.rest s)|some .unk=>HB (wM k.af blks.length (thn (R k.a s1) λs=>R k.rest s)) (wM k.af blks.length (thn (R k.b s1) λs=>R k.rest s))|_=>none
  |_=>none
 |_=>none
inductive Entry where|fn (f:AFn)|prim (g:List AV->List Blk->Option Res)|fork (k:oF)
abbrev cW:=FuncId->Option Entry
noncomputable def pX(T:cW)(R:bW->St->Option Out)(f:FuncId)(args:List AV)(blks:List Blk):Option Res:=
 match T f with
 |none=>none
 |some (.prim g)=>g args blks
 |some (.fork k)=>if args.length=k.np then BZ R k args blks else none
 |some (.fn fn)=>
  if args.length=fn.np then
   match R fn.body ⟨iK 0 args,blks⟩with
   |some (.normal,s)=>gM fn blks.length s
   |some (.ret,s)=>gM fn blks.length s
   |_=>none
  else none
open Classical in
noncomputable def same(a b:Option Out):Option Out:=
 match a,b with
 |some r,some r'=>if r=r' then some r else none
 |_,_=>none
def lW(n:Nat)(live:List Nat)(o:Option Out):Option Out:=
 match o with
 |some (e,s)=>match clean n live s with|some s'=>some (e,s')|none=>none
 |none=>none
noncomputable def step(T:cW)(R:bW->St->Option Out)(c:bW)(s:St):Option Out:=
 match c with
 | .skip=>some (.normal,s)
 | .bad=>none
 | .reg _ pairs ins=>match region (pX T R) pairs ins s with|some s'=>some (.normal,s')|none=>none
 | .seq a b=>match R a s with|some (.normal,s')=>R b s'|o=>o
 | .cond c a b=>match(ev c).run s with|some (.p (.b x))=>if x=true then R a s else R b s|some .unk=>same (R a s) (R b s)|_=>none
 | .block id c=>match R c s with|some (.exit k,s')=>if k=id then some (.normal,s')else some (.exit k,s')|o=>o
 | .loop live c=>match clean s.sto.length live s with|some s'=>R (.lp s.sto.length live c) s'|none=>none
 | .lp n live c=>match R c s with
  |some (.normal,s')=>(match clean n live s' with
   |some e=>R (.lp n live c) e
   |none=>none)
  |o=>o
 | .scope c=>R c s
 | .exit id=>some (.exit id,s)
 | .ret=>some (.ret,s)
 | .keep live c=>R c ⟨restr live s.env,s.sto⟩
 | .tidy live c=>lW s.sto.length live (R c s)
 | .br live pre c a b rest=>match R pre s with
  |some (.normal,s1)=>(match(ev c).run s1 with
   |some (.p (.b x))=>if x=true then thn (R a s1) λs=>R rest s else thn (R b s1) λs=>R rest s
   |some .unk=>same (lW s1.sto.length live (thn (R a s1) λs=>R rest s)) (lW s1.sto.length live (thn (R b s1) λs=>R rest s))
   |_=>none)
  |_=>none
end Go.Am
end
section
namespace Go.Am
def eW{α:Type}(a b:Option α):Prop:=a=none\/a=b
theorem cL{α:Type}(a:Option α):eW a a:=.inr rfl
theorem run_bind{α β:Type}(m:RM α)(f:α->RM β)(s:St):(m.bind f).run s=(m.run s).bind λa=>(f a).run s:=by
 induction m with
 |ret a=>rfl
 |slot n k ih=>grind [RM.bind,RM.run]
 |blk b k ih=>grind [RM.bind,RM.run]
 |fail=>rfl
theorem mC{α β:Type}{m:RM α}{f e:α->RM β}{s:St}(h: ∀a,eW ((f a).run s) ((e a).run s)):eW ((m.bind f).run s) ((m.bind e).run s):=by
 rw[run_bind,run_bind];cases m.run s with
 |none=>exact .inl rfl
 |some a=>exact h a
variable {F F':Orc} (h: ∀f a b,eW (F f a b) (F' f a b))
include h in
theorem r6(f:FuncId)(args:List AV)(k new:Nat)(s:St):eW ((gY F f args k new).run s) ((gY F' f args k new).run s):=by
 unfold gY;refine mC λa=>mC λg=>mC λes=>?_;split;split;simp[cL];refine mC λblks=>?_;rcases h f ‹_› blks with e|e;rw[e];exact .inl rfl;grind [cL];simp[cL]
include h in
theorem Ie(f:FuncId)(a:List AV×List (Nat×Blk))(k new:Nat)(s:St):eW ((fG F f a k new).run s) ((fG F' f a k new).run s):=by
 unfold fG;refine mC λg=>mC λes=>?_;split;split;simp[cL];refine mC λblks=>?_;rcases h f ‹_› blks with e|e;rw[e];exact .inl rfl;grind [cL];simp[cL]
include h in
theorem JFd(op:AOp)(new:Nat)(s:St):eW ((opR F op new).run s) ((opR F' op new).run s):=by
 cases op<;>try exact cL _
 case call f args k=>exact mC λvs=>r6 h ..
 case callo f keep args k=>exact mC λvs=>mC λa=>Ie h ..
 case callv g args k=>
  refine mC λg=>?_;grind [cL,mC,r6]
include h in
theorem JFf(op:AOp)(new:Nat)(s:St):eW ((opD F op new).run s) ((opD F' op new).run s):=
 mC λ_=>JFd h ..
include h in
theorem rq(i:bR)(new:Nat)(s:St):eW ((bT F i new).run s) ((bT F' i new).run s):=by
 unfold bT;split
 all_goals grind [JFf,RM.run,cL]
theorem vH{α β:Type}(m:RM α)(f:α->RM β)(s:St):(m.bind f).reads s=m.reads s++((m.run s).map λa=>(f a).reads s).getD []:=by
 induction m with
 |ret a=>simp[RM.bind,RM.reads,RM.run]
 |slot n k ih=>grind [RM.bind,RM.reads,RM.run]
 |blk b k ih=>grind [RM.bind,RM.reads,RM.run]
 |fail=>simp[RM.bind,RM.reads,RM.run]
theorem mI{α β:Type}{m:RM α}{f e:α->RM β}{s:St}(h: ∀a,(f a).run s=none\/(f a).reads s=(e a).reads s):
  ((m.bind f).run s)=none\/(m.bind f).reads s=(m.bind e).reads s:=by
 rw[run_bind,vH,vH];cases m.run s<;>simp_all
include h in
theorem sd(f:FuncId)(args:List AV)(k new:Nat)(s:St):
  (gY F f args k new).run s=none\/(gY F f args k new).reads s=(gY F' f args k new).reads s:=by
 unfold gY;refine mI λa=>mI λg=>mI λes=>?_;split;split;exact .inr rfl;refine mI λblks=>?_;rcases h f ‹_› blks with e|e;rw[e];exact .inl rfl;simp_all;simp_all
include h in
theorem Iw(f:FuncId)(a:List AV×List (Nat×Blk))(k new:Nat)(s:St):
  (fG F f a k new).run s=none\/(fG F f a k new).reads s=(fG F' f a k new).reads s:=by
 unfold fG;refine mI λg=>mI λes=>?_;split;split;exact .inr rfl;refine mI λblks=>?_;rcases h f ‹_› blks with e|e;rw[e];exact .inl rfl;simp_all;simp_all
include h in
theorem JGk(op:AOp)(new:Nat)(s:St):(opR F op new).run s=none\/(opR F op new).reads s=(opR F' op new).reads s:=by
 cases op<;>try exact .inr rfl
 case call f args k=>exact mI λvs=>sd h ..
 case callo f keep args k=>exact mI λvs=>mI λa=>Iw h ..
 case callv g args k=>
  refine mI λg=>?_;grind [mI,sd]
include h in
theorem JFK(op:AOp)(new:Nat)(s:St):(opD F op new).run s=none\/(opD F op new).reads s=(opD F' op new).reads s:=
 mI λ_=>JGk h ..
include h in
theorem JEc(i:bR)(new:Nat)(s:St):(bT F i new).run s=none\/(bT F i new).reads s=(bT F' i new).reads s:=by
 unfold bT;split
 all_goals grind [JFK,RM.run,RM.reads]
include h in
theorem Hf(ins:List bR): ∀new s,eW (fR F ins new s) (fR F' ins new s):=by
 induction ins with
 |nil=>exact λ_ _=>cL _
 |cons i r ih=>
  intro new s;simp only[fR];rcases rq h i new s with e|e;rw[e];exact .inl rfl;grind [cL]
include h in
theorem Hg(ins:List bR): ∀new s l,eW (iU F ins new s l) (iU F' ins new s l):=by
 induction ins with
 |nil=>exact λ_ _ _=>cL _
 |cons i r ih=>
  intro new s l;simp only[iU];rcases rq h i new s with e|e;rw[e];exact .inl rfl;grind [JEc,cL]
include h in
theorem Ll(pairs:List (Nat×Nat))(ins:List bR)(s:St):eW (region F pairs ins s) (region F' pairs ins s):=by
 unfold region;split;grind [Hf];rcases Hg h ins s.sto.length ⟨s.env,Go.Am.room (news ins) s.sto⟩ []with e|e;rw[e];exact .inl rfl;grind [cL]
variable {T:cW} {R R':bW->St->Option Out} (hR: ∀c s,eW (R c s) (R' c s))
include hR in
theorem JBq(k:oF)(args:List AV)(blks:List Blk):eW (BZ R k args blks) (BZ R' k args blks):=by
 have ht: ∀x s,eW (wM k.af blks.length (thn (R x s) λs=>R k.rest s)) (wM k.af blks.length (thn (R' x s) λs=>R' k.rest s)):=by
  intro x s;rcases hR x s with e|e;rw[e];exact .inl rfl;rw[e];cases hx:R' x s with
  |none=>exact .inl rfl
  |some o=>
   obtain⟨q,s'⟩:=o;cases q with
   |normal=>
    simp only[thn];rcases hR k.rest s' with e'|e';rw[e'];exact .inl rfl;grind [cL]
   |_=>exact cL _
 unfold BZ;rcases hR k.p0 ⟨iK 0 args,blks⟩with e|e;rw[e];exact .inl rfl;rw[e];split;rename_i s0 _;rcases hR k.pre s0 with e|e;rw[e];exact .inl rfl;rw[e];split;split;grind;rename_i s1 _ _ _;rcases ht k.a s1 with e|e;rw[e];exact .inl rfl;rcases ht k.b s1 with e'|e';rw[e'];unfold HB;exact .inl (by simp_all);grind [cL];simp[cL];simp[cL];simp[cL]
include hR in
theorem JAu(f:FuncId)(a:List AV)(b:List Blk):eW (pX T R f a b) (pX T R' f a b):=by
 unfold pX;split;simp[cL];simp[cL];grind [JBq,cL];split;rcases hR ‹AFn›.body ⟨iK 0 a,b⟩with e|e;rw[e];exact .inl rfl;grind [cL];simp[cL]
include hR in
theorem fm(c:bW)(s:St):eW (step T R c s) (step T R' c s):=by
 cases c with
 |bad=>exact .inl rfl
 |skip=>exact cL _
 |reg d pairs ins=>
  simp only[step];rcases Ll (JAu (T:=T) hR) pairs ins s with e|e;rw[e];exact .inl rfl;grind [cL]
 |seq a b=>
  simp only[step];rcases hR a s with e|e;rw[e];exact .inl rfl;grind
 |cond c a b=>
  simp only[step];split;grind;rcases hR a s with e|e;rw[e];exact .inl rfl;rcases hR b s with e'|e';rw[e'];unfold same;exact .inl (by simp_all);grind [cL];simp[cL]
 |block id c=>
  simp only[step];rcases hR c s with e|e;rw[e];exact .inl rfl;grind [cL]
 |loop live c=>
  grind [step,cL]
 |lp n live c=>
  simp only[step];rcases hR c s with e|e;rw[e];exact .inl rfl;grind [cL]
 |scope c=>exact hR _ _
 |exit id=>exact cL _
 |ret=>exact cL _
 |keep live c=>exact hR _ _
 |tidy live c=>
  simp only[step];rcases hR c s with e|e;rw[e];exact .inl rfl;grind [cL]
 |br live pre c a b rest=>
  have ht: ∀x s,eW (thn (R x s) λs=>R rest s) (thn (R' x s) λs=>R' rest s):=(by intro x s;rcases hR x s with e|e;rw[e];exact .inl rfl;rw[e];unfold thn;grind);simp only[step];rcases hR pre s with e|e;rw[e];exact .inl rfl;rw[e];split;split;grind;rename_i s1 _ _ _;rcases ht a s1 with e|e;rw[e];exact .inl rfl;rcases ht b s1 with e'|e';rw[e'];unfold same;exact .inl (by simp[lW]);grind [cL];simp[cL];simp[cL]
def A8(T:cW)(M:bW->St->Out->Prop):Prop:= ∀R:bW->St->Option Out,(∀c s r,R c s=some r->M c s r)-> ∀c s r,step T R c s=some r->M c s r
def Den(T:cW)(c:bW)(s:St)(r:Out):Prop:= ∀M,A8 T M->M c s r
theorem ZX(T:cW):A8 T (Den T):=λR hR c s r h M e=>e R (λc s r h=>hR c s r h M e) c s r h
theorem D4{T:cW}{c:bW}{s:St}{r:Out}(h:Den T c s r): ∃R:bW->St->Option Out,(∀c s r,R c s=some r->Den T c s r)/\step T R c s=some r:=
 h (λc s r=> ∃R:bW->St->Option Out,(∀c s r,R c s=some r->Den T c s r)/\step T R c s=some r) λR hR c s r e=>
  ⟨R,λc s r h=>let⟨R',h1,h2⟩:=hR c s r h;ZX T R' h1 c s r h2,e⟩
theorem JJL{T:cW}{c:bW}{s:St}{r:Out}(h:Den T c s r): ∀r',Den T c s r'->r'=r:=by
 have j:Den T c s r/\ ∀r',Den T c s r'->r'=r:=h (λc s r=>Den T c s r/\ ∀r',Den T c s r'->r'=r) λR hR c s r k=>by
  refine⟨ZX T R (λc s r h=>(hR c s r h).1) c s r k,λr' n=>?_⟩;obtain⟨R',o,hs'⟩:=D4 n;have b1: ∀c s,eW (R c s) ((R c s).or (R' c s)):=λc s=>by cases hc:R c s<;>simp[eW]
  have b2: ∀c s,eW (R' c s) ((R c s).or (R' c s)):=λc s=>by
   cases hc:R c s with
   |none=>simp[eW]
   |some a=>cases hc':R' c s<;>grind [eW]
  have e:=fm (T:=T) b1 c s;have g:=fm (T:=T) b2 c s;rw[k]at e;rw[hs']at g;rcases e with e|e;cases e
  ·rcases g with g|g
   all_goals grind
 exact j.2
open Classical in
noncomputable def X(T:cW)(c:bW)(s:St):Option Out:=if h: ∃r,Den T c s r then some h.choose else none
theorem HM{T:cW}{c:bW}{s:St}{r:Out}:X T c s=some r↔Den T c s r:=by
 unfold X;constructor
 ·intro h;split at h
  all_goals grind
 intro h;rw[dif_pos ⟨r,h⟩];grind [JJL]
theorem Zy(T:cW)(motive:bW->St->Out->Prop)
  (h: ∀R:bW->St->Option Out,(∀c s r,R c s=some r->motive c s r)-> ∀c s r,step T R c s=some r->motive c s r): ∀c s r,X T c s=some r->motive c s r:=
 λc s r e=>HM.1 e motive h
theorem lK(T:cW)(c:bW)(s:St):X T c s=step T (X T) c s:=by
 have one: ∀r,step T (X T) c s=some r->X T c s=some r:=λr h=>HM.2 (ZX T (X T) (λc s r h=>HM.1 h) c s r h);cases hs:step T (X T) c s with
 |some r=>exact one r hs
 |none=>
  cases hx:X T c s with
  |none=>rfl
  |some r=>
   obtain⟨R,hR,h⟩:=D4 (HM.1 hx);have:=fm (T:=T) (R:=R) (R':=X T) (λc s=>by
    cases hc:R c s with
    |none=>exact .inl rfl
    |some a=>right;grind [HM]) c s
   rw[h,hs]at this;rcases this with e|e<;>cases e
noncomputable def AF(T:cW):Orc:=pX T (X T)
end Go.Am
end
section
namespace Go.Am
structure Gh where
 μ:Nat->Option (Nat×Nat)
 C:Nat->Nat->Prop
def cellAt(w:World)(r o:Nat):Option Value:=
 match w.heap[r]? with
 |some (.cells c _ _)=>c[o]?
 |_=>none
theorem nK(w:World)(r o:Nat):w.cell? ⟨r,o,none⟩=cellAt w r o:=by
 grind [World.cell?,cellAt]
theorem hJ{w:World}{r o:Nat}{c e fz}(h:w.heap[r]?=some (.cells c e fz)):cellAt w r o=c[o]?:=by
 grind [cellAt]
inductive J05(w:World)(C:Nat->Nat->Prop):PV->Value->Prop where
 |b (x:Bool):J05 w C (.b x) (.bool x)
 |i (k:IntKind) (n:Int):J05 w C (.i k n) (.int k n)
 |s (l:List UInt8):J05 w C (.s l) (.string ⟨l.toArray⟩)
 |np:J05 w C .np (.pointer none)
 |nf:J05 w C .nf .nilFunc
 |sl0 (esz:Nat) (a:Option Addr) (cap:Nat):J05 w C (.sl esz []) (.slice a 0 cap)
 |sl (esz:Nat) (rows:List (List PV)) (r o cap:Nat) (vals:Nat->Nat->Value):
  rows.length<=cap->(∀row∈rows,row.length=esz)->
  (∀(i j:Nat) row x,rows[i]?=some row->row[j]?=some x->C r (o+i*esz+j)/\cellAt w r (o+i*esz+j)=some (vals i j))->
  (∀(i j:Nat) row x,rows[i]?=some row->row[j]?=some x->J05 w C x (vals i j))->
  J05 w C (.sl esz rows) (.slice (some ⟨r,o,none⟩) rows.length cap)
 |slc (esz:Nat) (rows:List (List PV)) (a:Option Addr):J05 w C (.sl esz rows) (.slice a rows.length rows.length)->J05 w C (.slc esz rows) (.slice a rows.length rows.length)
structure Sn where
 σ:List Blk
 g:Gh
 w:World
def MS(σ:List Blk)(b:Nat):Prop:= ∃cs,σ[b]?=some (.box cs)
def Z0(s:Sn)(b esz i n:Nat)(v:Value):Prop:=(s.g.μ b=none/\i=0/\n=0/\v=.slice none 0 0)\/ ∃r cap c e fz,s.g.μ b=some (r,0)/\v=.slice (some ⟨r,i*esz,none⟩) n cap/\n<=cap/\s.w.heap[r]?=some (.cells c e fz)/\(i+cap)*esz<=c.size
inductive JA(s:Sn):AV->Value->Prop where
 |p (c v):J05 s.w s.g.C c v->JA s (.p c) v
 |data (cs:List PV) (vs:Array Value):cs.length=vs.size->(∀(i:Nat) x v,cs[i]?=some x->vs[i]?=some v->J05 s.w s.g.C x v)->JA s (.data cs) (.agg vs)
 |agg (cs:List AV) (vs:Array Value):cs.length=vs.size->(∀(i:Nat) v,vs[i]?=some v->v.oneCell'=true)->(∀(i:Nat) x v,cs[i]?=some x->vs[i]?=some v->JA s x v)->JA s (.agg cs) (.agg vs)
 |tup (cs:List AV) (vs:Array Value):cs.length=vs.size->(∀(i:Nat) x v,cs[i]?=some x->vs[i]?=some v->JA s x v)->JA s (.tup cs) (.tuple vs)
 |ptr (b off r o):s.g.μ b=some (r,o)->MS s.σ b->JA s (.ptr b off) (.pointer (some ⟨r,o+off,none⟩))
 |cp (cs:List PV) (off r o:Nat) (vals:Nat->Value):
  (∀(j:Nat) x,cs[j]?=some x->s.g.C r (o+j)/\cellAt s.w r (o+j)=some (vals j))->
  (∀(j:Nat) x,cs[j]?=some x->J05 s.w s.g.C x (vals j))->JA s (.cp cs off) (.pointer (some ⟨r,o+off,none⟩))
 |slr (b i n v wm esz rows):(∃a cap,v=.slice a n cap/\(n=0\/a≠none))->s.σ[b]?=some (.arr wm esz rows)->i+n<=rows.length->(i+n=rows.length->Z0 s b esz i n v)->JA s (.slr b i n) v
 |ep (b ext i off v wm esz rows):(∃r o,v=.pointer (some ⟨r,o,none⟩))->s.σ[b]?=some (.arr wm esz rows)->ext<=rows.length->
  (ext=rows.length->i<ext-> ∃r,s.g.μ b=some (r,0)/\v=.pointer (some ⟨r,i*esz+off,none⟩))->JA s (.ep b ext i off) v
 |pre (b n k v wm esz rows):(∃a cap,v=.slice a k cap)->s.σ[b]?=some (.arr wm esz rows)->n<=rows.length->k<=n->
  (n=rows.length->(n=0/\v=.slice none 0 0)\/ ∃r cap c e fz,s.g.μ b=some (r,0)/\v=.slice (some ⟨r,0,none⟩) k cap/\n<=cap/\s.w.heap[r]?=some (.cells c e fz)/\cap*esz<=c.size)->JA s (.pre b n k) v
 |fn (f:FuncId) (first caps:List AV) (fs cs:Array Value):first.length=fs.size->caps.length=cs.size->
  (∀(i:Nat) x v,first[i]?=some x->fs[i]?=some v->JA s x v)->(∀(i:Nat) x v,caps[i]?=some x->cs[i]?=some v->JA s x v)->
  JA s (.fn f first caps) (.func (.func f) fs cs)
 |unk (x:Bool):JA s .unk (.bool x)
def Wr1(s:Sn)(b r o:Nat):Prop:=
 match s.σ[b]? with
 |some (.box cs)=> ∃e,s.g.μ b=some (r,e)/\e<=o/\o<e+cs.length
 |some (.arr true _ _)=> ∃e,s.g.μ b=some (r,e)
 |some (.arr false esz rows)=> ∃e,s.g.μ b=some (r,e)/\rows.length*esz<=o
 |_=>False
def Wr(s:Sn)(r o:Nat):Prop:= ∃b,Wr1 s b r o
def BF(fz:Nat×Nat)(a b:Nat):Prop:= ∀o,a<=o->o<b-> ¬(fz.1<=o/\o<fz.2)
def uJ(esz:Nat)(fz:Nat×Nat)(n:Nat):Prop:=BF fz 0 n/\(esz≠1-> ¬(fz.1<=n/\n<fz.2))
theorem uJ.zero(esz n:Nat):uJ esz (0,0) n:=⟨λ_ _ _ h=>by simp at h,λ_ h=>by simp at h⟩
def MK(s:Sn)(b:Nat)(cs:List AV):Prop:= ∃r o c e fz,s.g.μ b=some (r,o)/\s.w.heap[r]?=some (.cells c e fz)/\o+cs.length<=c.size/\(∀(i:Nat) x,cs[i]?=some x-> ∃v,c[o+i]?=some v/\JA s x v/\v.oneCell'=true)/\BF fz o (o+cs.length)
def LY(s:Sn)(b:Nat)(wm:Bool)(esz:Nat)(rows:List (List PV)):Prop:=(s.g.μ b=none/\(rows=[]\/wm=false))\/ ∃r c e fz,s.g.μ b=some (r,0)/\s.w.heap[r]?=some (.cells c e fz)/\(∀row∈rows,row.length=esz)/\rows.length*esz<=c.size/\(∀(i j:Nat) row x,rows[i]?=some row->row[j]?=some x->(∃v,c[i*esz+j]?=some v/\J05 s.w s.g.C x v)/\(wm=false->s.g.C r (i*esz+j)))/\uJ esz fz c.size
structure Inv(s:Sn):Prop where
 box: ∀b cs,s.σ[b]?=some (.box cs)->MK s b cs
 arr: ∀b wm esz rows,s.σ[b]?=some (.arr wm esz rows)->LY s b wm esz rows
 apart: ∀b1 b2 r o,Wr1 s b1 r o->Wr1 s b2 r o->b1=b2
 const: ∀r o,s.g.C r o->r<s.w.heap.size/\ ∀b,¬Wr1 s b r o
def lL(W:Nat->Nat->Prop)(w0 w:World):Prop:=w0.heap.size<=w.heap.size/\(∀(r:Nat) c e fz,w0.heap[r]?=some (.cells c e fz)-> ∃c',w.heap[r]?=some (.cells c' e fz)/\c'.size=c.size/\ ∀o,¬W r o->c'[o]?=c[o]?)/\(∀(r:Nat) x,w0.heap[r]?=some x->(∀c e fz,x≠.cells c e fz)->w.heap[r]?=some x)/\w.os=w0.os/\w.output=w0.output
structure aW(s0 s:Sn):Prop where
 keep:lL (Wr s0) s0.w s.w
 cmono: ∀r o,s0.g.C r o->s.g.C r o
 cnew: ∀r o,s.g.C r o->s0.g.C r o\/Wr s0 r o\/s0.w.heap.size<=r
 wnew: ∀r o,Wr s r o->Wr s0 r o\/s0.w.heap.size<=r
 len:s0.σ.length<=s.σ.length
 box: ∀b cs,s0.σ[b]?=some (.box cs)->(∃cs',s.σ[b]?=some (.box cs')/\cs'.length=cs.length)/\s.g.μ b=s0.g.μ b
 arr: ∀b wm esz rows,s0.σ[b]?=some (.arr wm esz rows)-> ∃wm' rows',s.σ[b]?=some (.arr wm' esz rows')/\(wm'=true->wm=true)/\
  rows.length<=rows'.length/\(rows'.length=rows.length->s.g.μ b=s0.g.μ b)
theorem lL.refl(W w):lL W w w:=⟨zQ0 _,λ_ c _ _ h=>⟨c,h,rfl,λ_ _=>rfl⟩,λ_ _ h _=>h,rfl,rfl⟩
theorem lL.mono{W W':Nat->Nat->Prop}{w0 w}(h:lL W w0 w)(hw: ∀r o,W r o->W' r o):lL W' w0 w:=
 ⟨h.1,λr c e fz j=>let⟨c',a,b,d⟩:=h.2.1 r c e fz j;⟨c',a,b,λo g=>d o λx=>g (hw _ _ x)⟩,h.2.2⟩
theorem lL.cell{W w0 w}(h:lL W w0 w){r o v}(hn: ¬W r o)(hv:cellAt w0 r o=some v):cellAt w r o=some v:=by
 unfold cellAt at hv;split at hv;rename_i c e fz g;obtain⟨c',h1,_,j⟩:=h.2.1 r c e fz g;grind [hJ];cases hv
theorem aW.refl(s:Sn):aW s s:=
 ⟨.refl _ _,λ_ _ h=>h,λ_ _ h=>.inl h,λ_ _ h=>.inl h,zQ0 _,λ_ cs h=>⟨⟨cs,h,rfl⟩,rfl⟩,
  λ_ wm _ rows h=>⟨wm,rows,h,id,zQ0 _,λ_=>rfl⟩⟩
theorem vK{w:World}{r:Nat}{x:Obj}(h:w.heap[r]?=some x):r<w.heap.size:=by
 grind
theorem aW.trans{s0 s1 C:Sn}(h:aW s0 s1)(g:aW s1 C):aW s0 C where
 keep:=by
  refine⟨zQ1 h.keep.1 g.keep.1,λr c e fz A=>?_,λr x A E=>g.keep.2.2.1 r x (h.keep.2.2.1 r x A E) E,g.keep.2.2.2.1.trans h.keep.2.2.2.1,g.keep.2.2.2.2.trans h.keep.2.2.2.2⟩;obtain⟨k,n,b1,z⟩:=h.keep.2.1 r c e fz A;obtain⟨q,w,b2,y⟩:=g.keep.2.1 r k e fz n;refine⟨q,w,b2.trans b1,λo H=>(y o λj=>?_).trans (z o H)⟩;rcases h.wnew r o j with j|j
  all_goals simp_all
 cmono r o hc:=g.cmono r o (h.cmono r o hc)
 cnew r o hc:=by
  rcases g.cnew r o hc with hc|j|v;exact h.cnew r o hc
  ·rcases h.wnew r o j with j|v
   all_goals simp_all
  exact .inr (.inr (zQ1 h.keep.1 v))
 wnew r o j:=by
  rcases g.wnew r o j with j|v;exact h.wnew r o j;exact .inr (zQ1 h.keep.1 v)
 len:=zQ1 h.len g.len
 box b cs hb:=by obtain⟨⟨k,n,I⟩,L⟩:=h.box b cs hb;obtain⟨⟨q,w,J⟩,K⟩:=g.box b k n;simp_all
 arr b wm esz rows hb:=by obtain⟨B,F,n,b1,k,z⟩:=h.arr b wm esz rows hb;obtain⟨D,G,w,b2,q,y⟩:=g.arr b B esz F n;exact⟨D,G,w,λe=>b1 (b2 e),zQ1 k q,λe=>(y (by omega)).trans (z (by omega))⟩
theorem Inv.cfix{s0 s:Sn}(hi:Inv s0)(t:aW s0 s){r o v}(hc:s0.g.C r o)(hv:cellAt s0.w r o=some v):cellAt s.w r o=some v:=
 t.keep.cell (fun⟨b,e⟩=>(hi.const r o hc).2 b e) hv
theorem J05.mono{s0 s:Sn}(hi:Inv s0)(t:aW s0 s){x v}(h:J05 s0.w s0.g.C x v):J05 s.w s.g.C x v:=by
 induction h with
 |b x=>exact .b x
 |i k n=>exact .i k n
 |s l=>exact .s l
 |np=>exact .np
 |nf=>exact .nf
 |sl0 esz a cap=>exact .sl0 esz a cap
 |sl esz rows r o cap vals h1 h2 q _ ih=>exact .sl esz rows r o cap vals h1 h2 (λi j row x e y=>⟨t.cmono _ _ (q i j row x e y).1,hi.cfix t (q i j row x e y).1 (q i j row x e y).2⟩) ih
 |slc esz rows a _ ih=>exact .slc esz rows a ih
theorem MS.mono{s0 s:Sn}(t:aW s0 s){b}(h:MS s0.σ b):MS s.σ b:=by obtain⟨cs,h⟩:=h;obtain⟨⟨cs',e,_⟩,_⟩:=t.box b cs h;exact⟨cs',e⟩
theorem JA.mono{s0 s:Sn}(hi:Inv s0)(t:aW s0 s){x v}(h:JA s0 x v):JA s x v:=by
 induction h with
 |p c v h=>exact .p c v (h.mono hi t)
 |data cs vs h1 h2=>exact .data cs vs h1 λi x v w y=>(h2 i x v w y).mono hi t
 |agg cs vs h1 h2 _ ih=>exact .agg cs vs h1 h2 ih
 |tup cs vs h1 _ ih=>exact .tup cs vs h1 ih
 |ptr b off r o h1 h2=>obtain⟨cs,q⟩:=h2;exact .ptr b off r o ((t.box b cs q).2.trans h1) (.mono t ⟨cs,q⟩)
 |cp cs off r o vals h1 h2=>exact .cp cs off r o vals (λj x w=>⟨t.cmono _ _ (h1 j x w).1,hi.cfix t (h1 j x w).1 (h1 j x w).2⟩) λj x w=>(h2 j x w).mono hi t
 |slr b i n v wm esz rows z h1 h2 q=>
  obtain⟨wm',rows',a,_,c,d⟩:=t.arr b wm esz rows h1;refine .slr b i n v wm' esz rows' z a (zQ1 h2 c) λe=>?_;have B:rows'.length=rows.length:=by omega
  rcases q (by omega)with⟨m,H,L,y⟩|⟨r,cap,D,A,fz,m,y,g,E,K⟩;exact .inl ⟨(d B).trans m,H,L,y⟩;obtain⟨c',C,I,_⟩:=t.keep.2.1 r D A fz E;exact .inr ⟨r,cap,c',A,fz,(d B).trans m,y,g,C,by omega⟩
 |ep b ext i off v wm esz rows z h1 h2 q=>
  obtain⟨wm',rows',a,_,c,d⟩:=t.arr b wm esz rows h1;refine .ep b ext i off v wm' esz rows' z a (zQ1 h2 c) λe M=>?_;grind
 |pre b n k v wm esz rows z h1 h2 J q=>
  obtain⟨wm',rows',a,_,c,d⟩:=t.arr b wm esz rows h1;refine .pre b n k v wm' esz rows' z a (zQ1 h2 c) J λe=>?_;have B:rows'.length=rows.length:=by omega
  rcases q (by omega)with h|⟨r,cap,D,A,fz,m,y,g,E,K⟩;exact .inl h;obtain⟨c',C,I,_⟩:=t.keep.2.1 r D A fz E;exact .inr ⟨r,cap,c',A,fz,(d B).trans m,y,g,C,by omega⟩
 |fn f first caps fs cs h1 h2 _ _ F G=>exact .fn f first caps fs cs h1 h2 F G
 |unk x=>exact .unk x
theorem lU{s0 s:Sn}(hi:Inv s0)(t:aW s0 s)(D:Nat->Prop)
  (same: ∀b,¬D b->s.σ[b]?=s0.σ[b]?/\s.g.μ b=s0.g.μ b)
  (k: ∀b r o v,¬D b->Wr1 s0 b r o->cellAt s0.w r o=some v->cellAt s.w r o=some v)
  (Q: ∀b cs,D b->s.σ[b]?=some (.box cs)->MK s b cs)
  (R: ∀b wm esz rows,D b->s.σ[b]?=some (.arr wm esz rows)->LY s b wm esz rows)
  (O: ∀b1 b2 r o,D b1->Wr1 s b1 r o->Wr1 s b2 r o->b1=b2)
  (n: ∀r o,s.g.C r o->r<s.w.heap.size)
  (J: ∀r o b,s.g.C r o->D b-> ¬Wr1 s b r o)
  (M: ∀r o b,s.g.C r o-> ¬s0.g.C r o-> ¬D b-> ¬Wr1 s0 b r o):Inv s:=by
 have wr: ∀b r o,¬D b->(Wr1 s b r o↔Wr1 s0 b r o):=(by intro b r o hd;obtain⟨h1,h2⟩:=same b hd;grind [Wr1]);have cells: ∀(r:Nat) c e fz,s0.w.heap[r]?=some (.cells c e fz)-> ∃c',s.w.heap[r]?=some (.cells c' e fz)/\c'.size=c.size/\ ∀o v,cellAt s.w r o=some v->c'[o]?=some v:=(by intro r c e fz h;obtain⟨c',h1,h2,_⟩:=t.keep.2.1 r c e fz h;grind [hJ]);refine⟨?_,?_,?_,?_⟩;intro b cs q;by_cases hd:D b;simp_all;obtain⟨h1,h2⟩:=same b hd;obtain⟨r,o,c,e,fz,m,E,T,F,B⟩:=hi.box b cs (h1▸q);obtain⟨c',y,P,z⟩:=cells r c e fz E;refine⟨r,o,c',e,fz,h2.trans m,y,by omega,λi x G=>?_,B⟩;obtain⟨v,U,h,I⟩:=F i x G;refine⟨v,z _ _ (k b r (o+i) v hd ?_ (by grind [hJ])),h.mono hi t,I⟩;grind [Wr1];intro b wm esz rows q;by_cases hd:D b;grind;obtain⟨h1,h2⟩:=same b hd;rcases hi.arr b wm esz rows (h1▸q)with⟨m,h⟩|⟨r,c,e,fz,m,E,A,T,F,B⟩;exact .inl ⟨h2.trans m,h⟩;obtain⟨c',y,P,z⟩:=cells r c e fz E;refine .inr ⟨r,c',e,fz,h2.trans m,y,A,by omega,λi j row x K N=>?_,P▸B⟩;obtain⟨⟨v,U,h⟩,hc⟩:=F i j row x K N;refine⟨⟨v,z _ _ ?_,h.mono hi t⟩,λe=>t.cmono _ _ (hc e)⟩;cases wm with
 |true=>
  refine k b r _ v hd ?_ (by grind [hJ]);grind [Wr1]
 |false=>exact hi.cfix t (hc rfl) (by grind [hJ])
 intro b1 b2 r o h1 h2;by_cases L:D b1;grind;by_cases H:D b2;grind;exact hi.apart b1 b2 r o ((wr b1 r o L).1 h1) ((wr b2 r o H).1 h2);intro r o hc;refine⟨n r o hc,λb q=>?_⟩;by_cases hd:D b;simp_all;by_cases S:s0.g.C r o;exact(hi.const r o S).2 b ((wr b r o hd).1 q);simp_all
end Go.Am
end
section
namespace Go.Am
theorem gT{σ:List Blk}{b:Nat}{x y:Blk}(h:σ[b]?=some x):(σ.set b y)[b]?=some y:=by
 grind
theorem qL{σ:List Blk}{b c:Nat}{y:Blk}(h:b≠c):(σ.set b y)[c]?=σ[c]?:=by simp[h]
theorem ec{s0:Sn}(hi:Inv s0){w':World}(hh:w'.heap=s0.w.heap)(ho:w'.os=s0.w.os)(hp:w'.output=s0.w.output):
  Inv ⟨s0.σ,s0.g,w'⟩/\aW s0 ⟨s0.σ,s0.g,w'⟩:=by
 have hc: ∀r o,cellAt w' r o=cellAt s0.w r o:=λr o=>by grind [cellAt]
 have t:aW s0 ⟨s0.σ,s0.g,w'⟩:=by
  refine⟨⟨by simp_all,λr c e fz h=>⟨c,by simp_all,rfl,λ_ _=>rfl⟩,λr x h _=>by simp_all,ho,hp⟩,λ_ _ h=>h,λ_ _ h=>.inl h,λr o ⟨b,k⟩=>.inl ⟨b,k⟩,zQ0 _,λ_ cs h=>⟨⟨cs,h,rfl⟩,rfl⟩,
   λ_ wm _ rows h=>⟨wm,rows,h,id,zQ0 _,λ_=>rfl⟩⟩
 exact⟨lU hi t (λ_=>False) (λ_ _=>⟨rfl,rfl⟩) (λ_ r o v _ _ h=>by simp_all) (λ_ _ h=>h.elim) (λ_ _ _ _ h=>h.elim)
  (λ_ _ _ _ h=>h.elim) (λr o h=>by show r<w'.heap.size;rw[hh];exact(hi.const r o h).1) (λ_ _ _ _ h=>h.elim) (λ_ _ _ h j=>(j h).elim),t⟩
theorem PX{W:Nat->Nat->Prop}{w w':World}{x:Obj}(hh:w'.heap=w.heap.push x)(ho:w'.os=w.os)(hp:w'.output=w.output):lL W w w':=by
 have g: ∀(r:Nat) y,w.heap[r]?=some y->w'.heap[r]?=some y:=(by grind);exact⟨by rw[hh];simp,λr c e fz h=>⟨c,g r _ h,rfl,λ_ _=>rfl⟩,λr y h _=>g r y h,ho,hp⟩
theorem IT{w w':World}{x:Obj}(hh:w'.heap=w.heap.push x):w'.heap[w.heap.size]?=some x:=by rw[hh];simp
theorem fb{w w':World}{x:Obj}(hh:w'.heap=w.heap.push x){r o v}(h:cellAt w r o=some v):cellAt w' r o=some v:=
 (PX (W:=λ_ _=>False) (w:=w) (w':={w' with os:=w.os,output:=w.output}) hh rfl rfl).cell (λh=>h) h
def eS(g:Gh)(new:Nat)(x:Option (Nat×Nat)):Gh:=⟨λb=>if b=new then x else g.μ b,g.C⟩
theorem p8{s0 s:Sn}{new:Nat}{blk:Blk}(hd:s0.σ[new]?=some .dead)(hs:s.σ=s0.σ.set new blk)(x:Option (Nat×Nat))(j:s.g.μ=(eS s0.g new x).μ):
  s0.σ.length<=s.σ.length/\(∀b cs,s0.σ[b]?=some (.box cs)->(∃cs',s.σ[b]?=some (.box cs')/\cs'.length=cs.length)/\s.g.μ b=s0.g.μ b)/\
  (∀b wm esz rows,s0.σ[b]?=some (.arr wm esz rows)-> ∃wm' rows',s.σ[b]?=some (.arr wm' esz rows')/\(wm'=true->wm=true)/\
  rows.length<=rows'.length/\(rows'.length=rows.length->s.g.μ b=s0.g.μ b)):=by
 have o: ∀b y,s0.σ[b]?=some y->y≠.dead->s.σ[b]?=some y/\s.g.μ b=s0.g.μ b:=by
  intro b y k n;have h:new≠b:=by grind
  rw[hs,qL h,j];exact⟨k,if_neg (λe=>h e.symm)⟩
 simp_all
def Zp(s0:Sn)(c:Array Value):Blk->Prop
 | .box cs=>cs.length<=c.size/\ ∀(i:Nat) x,cs[i]?=some x-> ∃v,c[i]?=some v/\JA s0 x v/\v.oneCell'=true
 | .arr true esz rows=>(∀row∈rows,row.length=esz)/\rows.length*esz<=c.size/\
  ∀(i j:Nat) row x,rows[i]?=some row->row[j]?=some x-> ∃v,c[i*esz+j]?=some v/\J05 s0.w s0.g.C x v
 |_=>False
theorem OG{s0:Sn}(hi:Inv s0){new:Nat}(hd:s0.σ[new]?=some .dead){blk:Blk}{c:Array Value}{e:TypeId}{fz:Nat×Nat}{w':World}
  (hh:w'.heap=s0.w.heap.push (.cells c e fz)) (ho:w'.os=s0.w.os) (hp:w'.output=s0.w.output) (hf:BF fz 0 c.size) (D: ∀wm esz rows,blk=.arr wm esz rows->esz≠1-> ¬(fz.1<=c.size/\c.size<fz.2)) (hb:Zp s0 c blk):
  Inv ⟨s0.σ.set new blk,eS s0.g new (some (s0.w.heap.size,0)),w'⟩/\aW s0 ⟨s0.σ.set new blk,eS s0.g new (some (s0.w.heap.size,0)),w'⟩:=by
 have q:(s0.σ.set new blk)[new]?=some blk:=gT hd;have wr: ∀b r o,b≠new->(Wr1 ⟨s0.σ.set new blk,eS s0.g new (some (s0.w.heap.size,0)),w'⟩ b r o↔Wr1 s0 b r o):=by simp_all [Wr1,eS,Ne.symm]
 have M: ∀r o,Wr1 ⟨s0.σ.set new blk,eS s0.g new (some (s0.w.heap.size,0)),w'⟩ new r o->r=s0.w.heap.size:=(by intro r o h;unfold Wr1 at h;simp only[q,eS]at h;grind);have N: ∀b r o,Wr1 s0 b r o->r<s0.w.heap.size:=by
  intro b r o h;unfold Wr1 at h;split at h;rename_i cs hb;obtain⟨r',O,c',e',A,m,k,_⟩:=hi.box b cs hb;grind
  ·rename_i hb;obtain⟨J,H⟩:=h;rcases hi.arr b _ _ _ hb with⟨m,_⟩|⟨r',c',e',A,m,k,_⟩
   all_goals grind
  ·rename_i hb;obtain⟨J,H,_⟩:=h;rcases hi.arr b _ _ _ hb with⟨m,_⟩|⟨r',c',e',A,m,k,_⟩
   all_goals grind
  exact h.elim
 have t:aW s0 ⟨s0.σ.set new blk,eS s0.g new (some (s0.w.heap.size,0)),w'⟩:=(by obtain⟨F,I,G⟩:=p8 (s:=⟨s0.σ.set new blk,eS s0.g new (some (s0.w.heap.size,0)),w'⟩) hd rfl (some (s0.w.heap.size,0)) rfl;refine⟨PX hh ho hp,λ_ _ h=>h,λ_ _ h=>.inl h,?_,F,I,G⟩;rintro r o ⟨b,hb⟩;by_cases e:b=new;grind;exact .inl ⟨b,(wr b r o e).1 hb⟩);refine⟨lU hi t (λb=>b=new) (λb z=>⟨qL (Ne.symm z),if_neg z⟩) (λb r o v _ _ h=>fb hh h) ?_ ?_ ?_ ?_ ?_ ?_,t⟩;rintro b cs rfl n;rw[q]at n;injection n with n;subst n;obtain⟨h1,h2⟩:=hb;refine⟨s0.w.heap.size,0,c,e,fz,if_pos rfl,IT hh,by omega,λi x B=>?_,λo _ P=>hf o (zQ2 _) (by omega)⟩;obtain⟨v,E,y,C⟩:=h2 i x B;exact⟨v,by simp_all,y.mono hi t,C⟩;rintro b wm esz rows rfl n;rw[q]at n;injection n with n;subst n;cases wm with
 |false=>exact hb.elim
 |true=>obtain⟨h1,h2,K⟩:=hb;refine .inr ⟨s0.w.heap.size,c,e,fz,if_pos rfl,IT hh,h1,h2,λi j row x y B=>⟨?_,λh=>by cases h⟩,hf,D _ _ _ rfl⟩;obtain⟨v,E,y⟩:=K i j row x y B;exact⟨v,E,y.mono hi t⟩
 grind;intro r o hc;show r<w'.heap.size;rw[hh];have:=(hi.const r o hc).1;simp;omega;rintro r o b hc rfl h;have:=(hi.const r o hc).1;grind;exact λr o b hc L=>(L hc).elim
theorem uD{s0:Sn}(hi:Inv s0): ∀b r o,Wr1 s0 b r o->r<s0.w.heap.size:=by
 intro b r o h;unfold Wr1 at h;split at h;rename_i cs e;obtain⟨r',q,c',e',g,m,k,_⟩:=hi.box b cs e;grind
 ·rename_i e;obtain⟨j,n⟩:=h;rcases hi.arr b _ _ _ e with⟨m,_⟩|⟨r',c',e',g,m,k,_⟩
  all_goals grind
 ·rename_i e;obtain⟨j,n,_⟩:=h;rcases hi.arr b _ _ _ e with⟨m,_⟩|⟨r',c',e',g,m,k,_⟩
  all_goals grind
 exact h.elim
theorem ON{s0:Sn}(hi:Inv s0){new:Nat}(hd:s0.σ[new]?=some .dead)(esz:Nat):
  Inv ⟨s0.σ.set new (.arr true esz []),eS s0.g new none,s0.w⟩/\aW s0 ⟨s0.σ.set new (.arr true esz []),eS s0.g new none,s0.w⟩:=by
 have j:(s0.σ.set new (Blk.arr true esz []))[new]?=some (.arr true esz []):=gT hd;have wr: ∀b r o,b≠new->(Wr1 ⟨s0.σ.set new (.arr true esz []),eS s0.g new none,s0.w⟩ b r o↔Wr1 s0 b r o):=by simp_all [Wr1,eS,Ne.symm]
 have C: ∀r o,¬Wr1 ⟨s0.σ.set new (.arr true esz []),eS s0.g new none,s0.w⟩ new r o:=by simp_all [Wr1,eS]
 have t:aW s0 ⟨s0.σ.set new (.arr true esz []),eS s0.g new none,s0.w⟩:=(by obtain⟨q,z,x⟩:=p8 (s:=⟨s0.σ.set new (.arr true esz []),eS s0.g new none,s0.w⟩) hd rfl none rfl;refine⟨.refl _ _,λ_ _ h=>h,λ_ _ h=>.inl h,?_,q,z,x⟩;rintro r o ⟨b,A⟩;by_cases e:b=new;simp_all;exact .inl ⟨b,(wr b r o e).1 A⟩);refine⟨lU hi t (λb=>b=new) (λb k=>⟨qL (Ne.symm k),if_neg k⟩) (λb r o v _ _ h=>h) ?_ ?_ ?_ ?_ ?_ ?_,t⟩;simp_all;rintro b wm y rows rfl n;rw[j]at n;cases n;exact .inl ⟨if_pos rfl,.inl rfl⟩;simp_all;exact λr o hc=>(hi.const r o hc).1;simp_all;exact λr o b hc B=>(B hc).elim
def oA(g:Gh)(p:Nat->Nat->Prop):Gh:=⟨g.μ,λr o=>g.C r o\/p r o⟩
theorem JGd{s0:Sn}(hi:Inv s0){x:Obj}{w':World}
  (hh:w'.heap=s0.w.heap.push x) (ho:w'.os=s0.w.os) (hp:w'.output=s0.w.output):
  Inv ⟨s0.σ,oA s0.g λr _=>r=s0.w.heap.size,w'⟩/\aW s0 ⟨s0.σ,oA s0.g λr _=>r=s0.w.heap.size,w'⟩:=by
 have t:aW s0 ⟨s0.σ,oA s0.g λr _=>r=s0.w.heap.size,w'⟩:=by
  refine⟨PX hh ho hp,λ_ _ h=>.inl h,λr o h=>?_,λr o h=>.inl h,zQ0 _,λ_ cs h=>⟨⟨cs,h,rfl⟩,rfl⟩,
   λ_ wm _ rows h=>⟨wm,rows,h,id,zQ0 _,λ_=>rfl⟩⟩
  rcases h with h|h
  all_goals simp_all
 refine⟨lU hi t (λ_=>False) (λ_ _=>⟨rfl,rfl⟩) (λb r o v _ _ h=>fb hh h) (λ_ _ h=>h.elim) (λ_ _ _ _ h=>h.elim)
  (λ_ _ _ _ h=>h.elim) ?_ (λ_ _ _ _ h=>h.elim) ?_,t⟩
 intro r o hc;show r<w'.heap.size;rw[hh];rcases hc with hc|hc;have:=(hi.const r o hc).1;simp;omega;simp;omega;intro r o b hc e _ h;rcases hc with hc|hc;exact e hc;have:=uD hi b r o h;omega
structure Put(r:Nat)(o:Nat)(vs:List Value)(w w':World):Prop where
 there: ∃c e fz c',w.heap[r]?=some (.cells c e fz)/\w'.heap[r]?=some (.cells c' e fz)/\c'.size=c.size/\o+vs.length<=c.size/\
  (∀(j:Nat) v,vs[j]?=some v->c'[o+j]?=some v)/\ ∀k,(k<o\/o+vs.length<=k)->c'[k]?=c[k]?
 rest: ∀r':Nat,r'≠r->w'.heap[r']?=w.heap[r']?
 size:w'.heap.size=w.heap.size
 os:w'.os=w.os
 output:w'.output=w.output
theorem Put.keep{W:Nat->Nat->Prop}{r o vs w w'}(h:Put r o vs w w')(hw: ∀k,o<=k->k<o+vs.length->W r k):lL W w w':=by
 obtain⟨c,e,fz,c',h1,h2,v,_,_,q⟩:=h.there;refine⟨Nat.le_of_eq h.size.symm,λr' j z n g=>?_,λr' x g y=>?_,h.os,h.output⟩;by_cases e':r'=r;grind;exact⟨j,by rw[h.rest r' e'];exact g,rfl,λ_ _=>rfl⟩;by_cases e':r'=r;grind;rw[h.rest r' e'];exact g
theorem Put.cell{r o vs w w'}(h:Put r o vs w w'){r' k v}(hv:cellAt w r' k=some v)(hn:r'≠r\/k<o\/o+vs.length<=k):cellAt w' r' k=some v:=by
 obtain⟨c,e,fz,c',h1,h2,j,_,_,g⟩:=h.there;by_cases e':r'=r;grind [hJ];unfold cellAt;rw[h.rest r' e'];exact hv
inductive ZT:Blk->Blk->Prop where|box (cs cs':List AV):cs'.length=cs.length->ZT (.box cs) (.box cs')|arr (esz:Nat) (rows rows':List (List PV)):rows'.length=rows.length->ZT (.arr true esz rows) (.arr true esz rows')
theorem ej{s0:Sn}(hi:Inv s0){b:Nat}{z blk:Blk}{r o:Nat}{vs:List Value}{w':World}(hb:s0.σ[b]?=some z)
  (q:Put r o vs s0.w w') (hw: ∀k,o<=k->k<o+vs.length->Wr1 s0 b r k)
  (hk:ZT z blk)
  (A: ∀cs,blk=.box cs->(∀{x v},JA s0 x v->JA ⟨s0.σ.set b blk,s0.g,w'⟩ x v)->MK ⟨s0.σ.set b blk,s0.g,w'⟩ b cs)
  (B: ∀esz rows,blk=.arr true esz rows->(∀{x v},J05 s0.w s0.g.C x v->J05 w' s0.g.C x v)->LY ⟨s0.σ.set b blk,s0.g,w'⟩ b true esz rows):
  Inv ⟨s0.σ.set b blk,s0.g,w'⟩/\aW s0 ⟨s0.σ.set b blk,s0.g,w'⟩:=by
 have n:(s0.σ.set b blk)[b]?=some blk:=gT hb;have wr: ∀j r o,(Wr1 ⟨s0.σ.set b blk,s0.g,w'⟩ j r o↔Wr1 s0 j r o):=by
  intro j r o;by_cases e:j=b;subst e;unfold Wr1;simp only[n,hb];cases hk<;>simp_all
  grind [Wr1]
 have t:aW s0 ⟨s0.σ.set b blk,s0.g,w'⟩:=by
  refine⟨q.keep λk h1 h2=>⟨b,hw k h1 h2⟩,λ_ _ h=>h,λ_ _ h=>.inl h,λr o ⟨j,h⟩=>.inl ⟨j,(wr j r o).1 h⟩,by simp,λj cs h=>?_,λj wm esz rows h=>?_⟩;by_cases e:j=b;subst e;rw[hb]at h;injection h with h;subst h;cases hk<;>simp_all
  grind;by_cases e:j=b;subst e;rw[hb]at h;injection h with h;subst h;cases hk<;>simp_all
  grind
 refine⟨lU hi t (λj=>j=b) (λj y=>⟨qL (Ne.symm y),rfl⟩) ?_ ?_ ?_ ?_ ?_ ?_ ?_,t⟩;intro j r' k v y E F;refine q.cell F ?_;rcases zQ3 k o with h|h;simp_all;rcases zQ3 k (o+vs.length)with D|D;refine .inl λe=>y ?_;subst e;exact hi.apart _ _ _ _ E (hw k h D);simp_all;rintro j cs rfl h;rw[n]at h;injection h with h;subst h;exact A _ rfl λh=>h.mono hi t;rintro j wm esz rows rfl h;rw[n]at h;injection h with h;subst h;cases hk with
 |arr _ _ rows' G=>exact B _ _ rfl λh=>h.mono hi t
 rintro b1 b2 r o rfl h1 h2;exact hi.apart _ _ _ _ ((wr _ _ _).1 h1) ((wr _ _ _).1 h2);intro r o hc;show r<w'.heap.size;rw[q.size];exact(hi.const r o hc).1;rintro r o j hc rfl h;exact(hi.const r o hc).2 _ ((wr _ _ _).1 h);simp_all
end Go.Am
end
section
namespace Go.Am
theorem jT{a b n e:Nat}(h1:a<n)(h2:b<e):a*e+b<n*e:=by
 have h:(a+1)*e<=n*e:=zQ4 e h1;grind
theorem Jn{α:Type}{l:List α}{i:Nat}{x:α}(h:l[i]?=some x):i<l.length:=by
 grind
theorem QG{α:Type}{l:Array α}{i:Nat}{x:α}(h:l[i]?=some x):i<l.size:=by
 grind
theorem iD{α:Type}{l:List α}{i:Nat}{x:α}(h:l[i]?=some x):x∈l:=zQ5 h
def Frz(σ τ:List Blk):Prop:=(∀(b:Nat) wm esz rows,σ[b]?=some (Blk.arr wm esz rows)-> ∃wm',τ[b]?=some (Blk.arr wm' esz rows))/\(∀(b:Nat) x,σ[b]?=some x->(∀wm esz rows,x≠Blk.arr wm esz rows)->τ[b]?=some x)
theorem Frz.refl(σ):Frz σ σ:=⟨λ_ wm _ _ h=>⟨wm,h⟩,λ_ _ h _=>h⟩
theorem Frz.trans{a b c}(h:Frz a b)(g:Frz b c):Frz a c:=
 ⟨λn wm esz rows e=>let⟨wm',h1⟩:=h.1 n wm esz rows e;g.1 n wm' esz rows h1,λn x e j=>g.2 n x (h.2 n x e j) j⟩
theorem JE7{s0:Sn}(hi:Inv s0){b:Nat}{wm:Bool}{esz:Nat}{rows:List (List PV)}(hb:s0.σ[b]?=some (.arr wm esz rows)):
  ∃g',g'.μ=s0.g.μ/\Inv ⟨s0.σ.set b (.arr false esz rows),g',s0.w⟩/\aW s0 ⟨s0.σ.set b (.arr false esz rows),g',s0.w⟩/\
   Frz s0.σ (s0.σ.set b (.arr false esz rows)):=by
 have q:(s0.σ.set b (.arr false esz rows))[b]?=some (.arr false esz rows):=gT hb;have y:Frz s0.σ (s0.σ.set b (.arr false esz rows)):=by
  refine⟨λn wm' B rows' E=>?_,λn x E H=>?_⟩
  all_goals grind
 cases wm with
 |false=>
  have N:s0.σ.set b (.arr false esz rows)=s0.σ:=(by apply zQ6;grind);refine⟨s0.g,rfl,?_,?_,y⟩
  all_goals simp_all [aW.refl]
 |true=>
  refine⟨oA s0.g λr o=>s0.g.μ b=some (r,0)/\o<rows.length*esz,rfl,?_⟩;have wr: ∀k r o,Wr1 ⟨s0.σ.set b (.arr false esz rows),oA s0.g λr o=>s0.g.μ b=some (r,0)/\o<rows.length*esz,s0.w⟩ k r o->Wr1 s0 k r o:=(by intro k r o h;by_cases e:k=b;subst e;unfold Wr1 at h⊢;simp only[q,hb]at h⊢;obtain⟨I,m,_⟩:=h;exact⟨I,m⟩;unfold Wr1 at h⊢;simp only[qL (Ne.symm e)]at h;exact h);have t:aW s0 ⟨s0.σ.set b (.arr false esz rows),oA s0.g λr o=>s0.g.μ b=some (r,0)/\o<rows.length*esz,s0.w⟩:=(by refine⟨.refl _ _,λ_ _ h=>.inl h,λr o h=>?_,λr o ⟨k,h⟩=>.inl ⟨k,wr k r o h⟩,by simp,λk cs h=>?_,λk wm B rows' h=>?_⟩;rcases h with h|⟨h,_⟩;exact .inl h;refine .inr (.inl ⟨b,?_⟩);grind [Wr1];refine⟨⟨cs,y.2 k _ h (by simp),rfl⟩,rfl⟩;by_cases e:k=b;subst e;rw[hb]at h;injection h with h;injection h with h1 h2 h3;subst h1 h2 h3;exact⟨false,rows,q,by simp,zQ0 _,λ_=>rfl⟩;exact⟨wm,rows',by grind,id,zQ0 _,λ_=>rfl⟩);refine⟨lU hi t (λk=>k=b) (λk z=>⟨qL (Ne.symm z),rfl⟩) (λ_ _ _ _ _ _ h=>h) ?_ ?_ ?_ ?_ ?_ ?_,t,y⟩;simp_all;rintro k wm B rows' rfl h;rw[q]at h;cases h;rcases hi.arr _ _ _ _ hb with⟨m,G⟩|⟨r,c,e,fz,m,F,C,L,H,J⟩;exact .inl ⟨m,.inr rfl⟩;refine .inr ⟨r,c,e,fz,m,F,C,L,λi j row x A D=>?_,J⟩;obtain⟨⟨v,M,G⟩,_⟩:=H i j row x A D;refine⟨⟨v,M,G.mono hi t⟩,λ_=>.inr ⟨m,?_⟩⟩;have h1:=Jn A;have h2:=Jn D;rw[C row (iD A)]at h2;simp_all [jT];rintro b1 b2 r o rfl h1 h2;exact hi.apart _ _ _ _ (wr _ _ _ h1) (wr _ _ _ h2)
  ·intro r o hc;rcases hc with hc|⟨hc,_⟩
   exact(hi.const r o hc).1
   ·rcases hi.arr _ _ _ _ hb with⟨m,_⟩|⟨r',c,e,fz,m,F,_⟩
    all_goals grind
  rintro r o k hc rfl h;rcases hc with hc|⟨hc,K⟩;exact(hi.const r o hc).2 _ (wr _ _ _ h);grind [Wr1];intro r o k hc E z h;rcases hc with hc|⟨hc,K⟩;exact E hc;refine z (hi.apart _ _ r o h ?_);grind [Wr1]
def jO(s:Sn)(esz:Nat)(rows:List (List PV))(v:Value):Prop:= ∃a cap,v=.slice a rows.length cap/\rows.length<=cap/\(∀row∈rows,row.length=esz)/\(rows=[]\/ ∃r o,a=some ⟨r,o,none⟩/\ ∀(i j:Nat) row x,rows[i]?=some row->row[j]?=some x-> ∃u,cellAt s.w r (o+i*esz+j)=some u/\J05 s.w s.g.C x u)
theorem jO.of_sl{s:Sn}{esz rows v}(h:J05 s.w s.g.C (.sl esz rows) v):jO s esz rows v:=by
 cases h with
 |sl0 _ a cap=>exact⟨a,cap,rfl,zQ2 _,(λ_ h=>by cases h),.inl rfl⟩
 |sl _ _ r o cap vals h1 h2 q n=>exact⟨_,cap,rfl,h1,h2,.inr ⟨r,o,rfl,λi j row x e k=>⟨_,(q i j row x e k).2,n i j row x e k⟩⟩⟩
theorem jO.of_slr{s:Sn}(hi:Inv s){b i n v wm esz rows}(h:JA s (.slr b i n) v)(hb:s.σ[b]?=some (.arr wm esz rows))(e:i+n=rows.length):
  jO s esz (rows.drop i) v:=by
 cases h with
 |slr _ _ _ _ wm' z rows' _ h1 h2 B=>
  rw[hb]at h1;injection h1 with h1;injection h1 with a1 a2 a3;subst a1 a2 a3;have G:(rows.drop i).length=n:=by simp;omega
  rcases B e with⟨m,q,C,w⟩|⟨r,cap,c,K,fz,m,w,y,H,I⟩;subst q C;have:rows=[]:=by grind
  subst this;exact⟨none,0,by simp[w],by simp,by simp,.inl rfl⟩;rcases hi.arr b wm esz rows hb with⟨g,_⟩|⟨r',c',e',E,g,D,o,hlen,J,_⟩;simp_all;rw[m]at g;injection g with g;injection g with g _;subst g;refine⟨some ⟨r,i*esz,none⟩,cap,by simp_all,by omega,λrow A=>o row (zQ7 A),.inr ⟨r,i*esz,rfl,λk j row x F L=>?_⟩⟩;grind [hJ]
theorem jO.mono{s0 s:Sn}(hi:Inv s0)(t:aW s0 s){esz rows v}(h:jO s0 esz rows v)(hc: ∀r o u,cellAt s0.w r o=some u->cellAt s.w r o=some u):jO s esz rows v:=by obtain⟨a,cap,h1,h2,q,g⟩:=h;refine⟨a,cap,h1,h2,q,g.imp id ?_⟩;rintro⟨r,o,A,y⟩;exact⟨r,o,A,λi j row x n z=>let⟨u,k,e⟩:=y i j row x n z;⟨u,hc _ _ _ k,e.mono hi t⟩⟩
theorem f0{s:Sn}{esz:Nat}{rows:List (List PV)}{v:Value}{a:Option Addr}{cap:Nat}(hv:v=.slice a rows.length cap)(e:rows.length<=cap)
  (h: ∀row∈rows,row.length=esz)
  (hx:rows=[]\/ ∃r o,a=some ⟨r,o,none⟩/\ ∀(i j:Nat) row x,rows[i]?=some row->row[j]?=some x->s.g.C r (o+i*esz+j)/\ ∃u,cellAt s.w r (o+i*esz+j)=some u/\J05 s.w s.g.C x u):
  J05 s.w s.g.C (.sl esz rows) v:=by
 subst hv;rcases hx with rfl|⟨r,o,rfl,hx⟩;exact .sl0 _ _ _
 ·refine .sl esz rows r o cap (λi j=>(cellAt s.w r (o+i*esz+j)).getD .nilFunc) e h (λi j row x k n=>?_) λi j row x k n=>?_
  all_goals grind
theorem pk{s0:Sn}(hi:Inv s0){b i n:Nat}{v:Value}{wm:Bool}{esz:Nat}{rows:List (List PV)}(h:JA s0 (.slr b i n) v)(hb:s0.σ[b]?=some (.arr wm esz rows))
  (e:i+n=rows.length):
  ∃g',Inv ⟨s0.σ.set b (.arr false esz rows),g',s0.w⟩/\aW s0 ⟨s0.σ.set b (.arr false esz rows),g',s0.w⟩/\
   Frz s0.σ (s0.σ.set b (.arr false esz rows))/\J05 s0.w g'.C (.sl esz (rows.drop i)) v:=by
 obtain⟨g',S,hi',t,K⟩:=JE7 hi hb;refine⟨g',hi',t,K,?_⟩;have A:=h.mono hi t;have q:(s0.σ.set b (.arr false esz rows))[b]?=some (.arr false esz rows):=gT hb;obtain⟨a,cap,h1,h2,L,H⟩:=jO.of_slr hi' A q e;refine f0 (s:=⟨s0.σ.set b (.arr false esz rows),g',s0.w⟩) h1 h2 L (H.imp id ?_);rintro⟨r,o,rfl,M⟩;refine⟨r,o,rfl,λk j row x G N=>⟨?_,M k j row x G N⟩⟩;cases A with
 |slr _ _ _ _ wm' y rows' _ I Y J=>
  have g:(s0.σ.set b (.arr false esz rows))[b]?=some (.arr wm' y rows'):=I;rw[q]at g;injection g with g;injection g with a1 a2 a3;subst a1 a2 a3;rcases J e with⟨m,R,V,z⟩|⟨r',B,c,W,fz,m,z,D,T,U⟩;simp_all
  ·rw[h1]at z;injection z with v1 v2 v3;injection v1 with v1;injection v1 with v1 v4;subst v1 v4
   rcases hi'.arr b false esz rows q with⟨E,_⟩|⟨r',c',e',Q,E,P,F,hlen,O,_⟩
   all_goals grind
end Go.Am
end
section
namespace Go.Am
theorem xX{α:Type}{a b:List α}{i:Nat}{x:α}(h:(a++b)[i]?=some x):a[i]?=some x\/(a.length<=i/\b[i-a.length]?=some x):=by
 grind
def lc(g:Gh)(wm:Bool)(r lo hi:Nat):Gh:=oA g λr' o=>wm=false/\r'=r/\lo<=o/\o<hi
theorem JJI{s0:Sn}(hi:Inv s0){b:Nat}{wm:Bool}{esz:Nat}{rows new:List (List PV)}{r:Nat}{vs:List Value}{w':World}
  (hb:s0.σ[b]?=some (.arr wm esz rows)) (hm:s0.g.μ b=some (r,0)) (L: ∀row∈new,row.length=esz)
  (z:Put r (rows.length*esz) vs s0.w w') (hlen:vs.length=new.length*esz)
  (hx: ∀(i j:Nat) row x,new[i]?=some row->row[j]?=some x-> ∃u,vs[i*esz+j]?=some u/\J05 s0.w s0.g.C x u):
  Inv ⟨s0.σ.set b (.arr wm esz (rows++new)),lc s0.g wm r (rows.length*esz) ((rows.length+new.length)*esz),w'⟩/\
  aW s0 ⟨s0.σ.set b (.arr wm esz (rows++new)),lc s0.g wm r (rows.length*esz) ((rows.length+new.length)*esz),w'⟩:=by
 have A:(s0.σ.set b (.arr wm esz (rows++new)))[b]?=some (.arr wm esz (rows++new)):=gT hb;have T:(rows.length+new.length)*esz=rows.length*esz+new.length*esz:=zQ8 _ _ _;generalize I:(⟨s0.σ.set b (.arr wm esz (rows++new)),lc s0.g wm r (rows.length*esz) ((rows.length+new.length)*esz),w'⟩:Sn)=s;have G:s.σ=s0.σ.set b (.arr wm esz (rows++new)):=by rw[<-I]
 have U:s.g.μ=s0.g.μ:=by rw[<-I];rfl
 have B: ∀r' o,s.g.C r' o↔s0.g.C r' o\/(wm=false/\r'=r/\rows.length*esz<=o/\o<(rows.length+new.length)*esz):=by rw[<-I];exact λ_ _=>Iff.rfl
 have M:s.w=w':=by rw[<-I]
 have wr: ∀n r' o,Wr1 s n r' o->Wr1 s0 n r' o:=by
  intro n r' o h;by_cases e:n=b;subst e;unfold Wr1 at h⊢;rw[G,A]at h;rw[hb];cases wm<;>grind
  grind [Wr1]
 have y: ∀o,rows.length*esz<=o->Wr1 s0 b r o:=by intro o ho;unfold Wr1;rw[hb];cases wm<;>simp_all
 have t:aW s0 s:=(by refine⟨?_,λr o h=>(B r o).2 (.inl h),λr' o h=>?_,λr o ⟨n,h⟩=>.inl ⟨n,wr n r o h⟩,by rw[G];simp,λn cs h=>?_,λn wm' J rows' h=>?_⟩;rw[M];exact z.keep λk h1 _=>⟨b,y k h1⟩;rcases(B r' o).1 h with h|⟨_,e,h,_⟩;exact .inl h;subst e;exact .inr (.inl ⟨b,y o h⟩);grind;by_cases e:n=b;subst e;rw[hb]at h;injection h with h;injection h with h1 h2 R;subst h1 h2 R;grind;grind);refine⟨lU hi t (λn=>n=b) (λn D=>⟨by grind,by rw[U]⟩) ?_ ?_ ?_ ?_ ?_ ?_ ?_,t⟩;intro n r' k v D Q S;rw[M];refine z.cell S ?_;by_cases F:r'=r;subst F;rcases zQ3 k (rows.length*esz)with h|h;simp_all;exact(D (hi.apart _ _ _ _ Q (y k h))).elim;simp_all;simp_all;rintro n wm' J rows' rfl h;rw[G,A]at h;cases h;obtain⟨c,e,fz,c',V,p2,p3,p4,p5,p6⟩:=z.there;rcases hi.arr _ _ _ _ hb with⟨m,_⟩|⟨r',c0,e0,Y,m,H,K,hl,O,hf⟩;simp_all;rw[hm]at m;injection m with m;injection m with m _;subst m;rw[V]at H;injection H with H;injection H with q1 q2 q3;subst q1 q2 q3;refine .inr ⟨r,c',e,fz,by simp_all,by simp_all,?_,?_,?_,?_⟩;grind;simp_all;intro i j row x q E;rcases xX q with q|⟨Z,q⟩;obtain⟨⟨v,S,N⟩,hc⟩:=O i j row x q E;have h1:=Jn q;have h2:=Jn E;rw[K row (iD q)]at h2;have:=jT h1 h2;exact⟨⟨v,by simp_all,N.mono hi t⟩,λe=>(B _ _).2 (.inl (hc e))⟩;obtain⟨u,hu,N⟩:=hx _ j row x q E;have h1:=Jn q;have h2:=Jn E;rw[L row (iD q)]at h2;have R:=jT h1 h2;have h4:i*esz+j=rows.length*esz+((i-rows.length)*esz+j):=(by grind [Nat.add_sub_cancel']);refine⟨⟨u,by simp_all,N.mono hi t⟩,λe=>(B _ _).2 (.inr ⟨e,rfl,by omega,by simp_all⟩)⟩;simp_all;rintro b1 b2 r o rfl h1 h2;exact hi.apart _ _ _ _ (wr _ _ _ h1) (wr _ _ _ h2);intro r' o hc;rw[M,z.size];rcases(B r' o).1 hc with hc|⟨_,e,_⟩;exact(hi.const r' o hc).1;subst e;exact uD hi b _ _ (y _ (zQ0 _));rintro r' o n hc rfl h;rcases(B r' o).1 hc with hc|⟨e,F,hlo,P⟩;exact(hi.const r' o hc).2 _ (wr _ _ _ h);subst e F;unfold Wr1 at h;rw[G,A]at h;grind;intro r' o n hc W D h;rcases(B r' o).1 hc with hc|⟨e,F,hlo,P⟩;exact W hc;subst F;exact D (hi.apart _ _ _ o h (y o hlo))
theorem JJA{s0:Sn}(hi:Inv s0){b esz:Nat}{rows rows':List (List PV)}{r o:Nat}{vs:List Value}{w':World}
  (hb:s0.σ[b]?=some (.arr true esz rows)) (hm:s0.g.μ b=some (r,0)) (I: ∀row∈rows',row.length=esz) (N:rows.length<=rows'.length) (y:Put r o vs s0.w w')
  (hx: ∀(c c':Array Value),(∀(i j:Nat) row x,rows[i]?=some row->row[j]?=some x-> ∃u,c[i*esz+j]?=some u/\J05 s0.w s0.g.C x u)->c'.size=c.size->(∃e fz,s0.w.heap[r]?=some (.cells c e fz))->
   (∀(j:Nat) v,vs[j]?=some v->c'[o+j]?=some v)->(∀k,(k<o\/o+vs.length<=k)->c'[k]?=c[k]?)->
   rows'.length*esz<=c.size/\ ∀(i j:Nat) row x,rows'[i]?=some row->row[j]?=some x-> ∃u,c'[i*esz+j]?=some u/\J05 s0.w s0.g.C x u):
  Inv ⟨s0.σ.set b (.arr true esz rows'),s0.g,w'⟩/\aW s0 ⟨s0.σ.set b (.arr true esz rows'),s0.g,w'⟩:=by
 have q:(s0.σ.set b (.arr true esz rows'))[b]?=some (.arr true esz rows'):=gT hb;generalize J:(⟨s0.σ.set b (.arr true esz rows'),s0.g,w'⟩:Sn)=s;have D:s.σ=s0.σ.set b (.arr true esz rows'):=by rw[<-J]
 have z:s.g=s0.g:=by rw[<-J]
 have E:s.w=w':=by rw[<-J]
 have wr: ∀n r' o,Wr1 s n r' o->Wr1 s0 n r' o:=(by intro n r' o h;by_cases e:n=b;subst e;unfold Wr1 at h⊢;rw[D,q]at h;rw[hb];grind;grind [Wr1]);have A: ∀o,Wr1 s0 b r o:=by intro o;unfold Wr1;rw[hb];simp_all
 have t:aW s0 s:=(by refine⟨?_,λr o h=>by rw[z];exact h,λr' o h=>.inl (by rw[<-z];exact h),λr o ⟨n,h⟩=>.inl ⟨n,wr n r o h⟩,by rw[D];simp,λn cs h=>?_,λn wm' H K h=>?_⟩;rw[E];exact y.keep λk h1 _=>⟨b,A k⟩;grind;by_cases e:n=b;subst e;rw[hb]at h;injection h with h;injection h with h1 h2 h3;subst h1 h2 h3;exact⟨true,rows',by rw[D];exact q,id,N,λ_=>by rw[z]⟩;grind);refine⟨lU hi t (λn=>n=b) (λn B=>⟨by grind,by rw[z]⟩) ?_ ?_ ?_ ?_ ?_ ?_ ?_,t⟩;intro n r' k v B O hv;rw[E];refine y.cell hv ?_;by_cases U:r'=r;subst U;exact(B (hi.apart _ _ _ _ O (A k))).elim;simp_all;simp_all;rintro n wm' H K rfl h;rw[D,q]at h;cases h;obtain⟨c,e,fz,c',L,S,G,p4,R,T⟩:=y.there;rcases hi.arr _ _ _ _ hb with⟨m,_⟩|⟨r',c0,e0,a2,m,F,P,hl,M,W⟩;simp_all;rw[hm]at m;injection m with m;injection m with m _;subst m;rw[L]at F;injection F with F;injection F with q1 q2 q3;subst q1 q2 q3;obtain⟨Q,V⟩:=hx c c' (λi j row x h1 h2=>(M i j row x h1 h2).1) G ⟨e,fz,L⟩ R T;refine .inr ⟨r,c',e,fz,by rw[z];exact hm,by rw[E];exact S,I,by rw[G];exact Q,λi j row x h1 h2=>?_,by rw[G];exact W⟩;obtain⟨u,Z,Y⟩:=V i j row x h1 h2;exact⟨⟨u,Z,Y.mono hi t⟩,λh=>by cases h⟩;rintro b1 b2 r o rfl h1 h2;exact hi.apart _ _ _ _ (wr _ _ _ h1) (wr _ _ _ h2);intro r' o hc;rw[E,y.size];rw[z]at hc;exact(hi.const r' o hc).1;rintro r' o n hc rfl h;rw[z]at hc;exact(hi.const r' o hc).2 _ (wr _ _ _ h);intro r' o n hc hn B h;rw[z]at hc;exact hn hc
theorem Dw{s0:Sn}(hi:Inv s0){b:Nat}{wm:Bool}{esz:Nat}{rows rows':List (List PV)}{c:Array Value}{e:TypeId}{w':World}
  (hb:s0.σ[b]?=some (.arr wm esz rows)) (O:rows.length<rows'.length) (K: ∀row∈rows',row.length=esz)
  (hh:w'.heap=s0.w.heap.push (.cells c e (0,0))) (ho:w'.os=s0.w.os) (hp:w'.output=s0.w.output)
  (I:rows'.length*esz<=c.size)
  (hx: ∀(i j:Nat) row x,rows'[i]?=some row->row[j]?=some x-> ∃u,c[i*esz+j]?=some u/\J05 s0.w s0.g.C x u):
  ∃g',g'.μ b=some (s0.w.heap.size,0)/\Inv ⟨s0.σ.set b (.arr wm esz rows'),g',w'⟩/\aW s0 ⟨s0.σ.set b (.arr wm esz rows'),g',w'⟩:=by
 have y:(s0.σ.set b (.arr wm esz rows'))[b]?=some (.arr wm esz rows'):=gT hb;refine⟨⟨λk=>if k=b then some (s0.w.heap.size,0)else s0.g.μ k,λr o=>s0.g.C r o\/(wm=false/\r=s0.w.heap.size/\o<rows'.length*esz)⟩,if_pos rfl,?_⟩;generalize D:(⟨s0.σ.set b (.arr wm esz rows'),_,w'⟩:Sn)=s;have F:s.σ=s0.σ.set b (.arr wm esz rows'):=by rw[<-D]
 have Q: ∀k,s.g.μ k=if k=b then some (s0.w.heap.size,0)else s0.g.μ k:=by grind
 have q: ∀r' o,s.g.C r' o↔s0.g.C r' o\/(wm=false/\r'=s0.w.heap.size/\o<rows'.length*esz):=by rw[<-D];simp_all
 have L:s.w=w':=by rw[<-D]
 have wr: ∀k r' o,k≠b->(Wr1 s k r' o↔Wr1 s0 k r' o):=by simp_all [Wr1,Ne.symm]
 have E: ∀r' o,Wr1 s b r' o->r'=s0.w.heap.size/\(wm=false->rows'.length*esz<=o):=(by grind [Wr1]);have t:aW s0 s:=(by refine⟨?_,λr o h=>(q r o).2 (.inl h),λr' o h=>?_,λr o ⟨k,h⟩=>?_,by rw[F];simp,λk cs h=>?_,λk wm' B rows' h=>?_⟩;grind [PX];grind;by_cases n:k=b;grind;exact .inl ⟨k,(wr k r o n).1 h⟩;grind;by_cases n:k=b;subst n;rw[hb]at h;injection h with h;injection h with h1 h2 G;subst h1 h2 G;exact⟨wm,rows',by simp_all,id,by omega,λh=>by omega⟩;grind);refine⟨lU hi t (λk=>k=b) (λk H=>⟨by grind,by simp_all⟩) (λb r o v _ _ h=>by grind [fb]) ?_ ?_ ?_ ?_ ?_ ?_,t⟩;simp_all;rintro k wm' B rows' rfl h;rw[F,y]at h;cases h;refine .inr ⟨s0.w.heap.size,c,e,(0,0),by simp_all,by simp_all,?_,by simp_all,?_,uJ.zero _ _⟩;grind;intro i j row x z A;obtain⟨u,N,M⟩:=hx i j row x z A;refine⟨⟨u,N,M.mono hi t⟩,λJ=>(q _ _).2 (.inr ⟨J,rfl,?_⟩)⟩;have h1:=Jn z;have h2:=Jn A;have G:row.length=esz:=(by grind);simp_all [jT];rintro b1 b2 r o rfl h1 h2;by_cases n:b2=b1;exact n.symm;have:=uD hi _ _ _ ((wr b2 r o n).1 h2);grind;intro r' o hc;rw[L,hh];rcases(q r' o).1 hc with hc|⟨_,hc,_⟩;have:=(hi.const r' o hc).1;simp;omega;simp;omega;rintro r' o k hc rfl h;have h1:=E _ _ h;rcases(q r' o).1 hc with hc|⟨R,hc,ho⟩;have:=(hi.const r' o hc).1;omega;grind;intro r' o k hc H P h;rcases(q r' o).1 hc with hc|⟨_,hc,_⟩;exact H hc;have:=uD hi _ _ _ h;omega
theorem JHL{s0:Sn}(hi:Inv s0){b:Nat}{wm:Bool}{esz:Nat}{rows new:List (List PV)}{c:Array Value}{e:TypeId}{w':World}
  (hb:s0.σ[b]?=some (.arr wm esz rows)) (o:new≠[]) (k: ∀row∈rows,row.length=esz) (n: ∀row∈new,row.length=esz)
  (hh:w'.heap=s0.w.heap.push (.cells c e (0,0))) (ho:w'.os=s0.w.os) (hp:w'.output=s0.w.output)
  (h:(rows.length+new.length)*esz<=c.size)
  (hx: ∀(i j:Nat) row x,(rows++new)[i]?=some row->row[j]?=some x-> ∃u,c[i*esz+j]?=some u/\J05 s0.w s0.g.C x u):
  ∃g',g'.μ b=some (s0.w.heap.size,0)/\Inv ⟨s0.σ.set b (.arr wm esz (rows++new)),g',w'⟩/\aW s0 ⟨s0.σ.set b (.arr wm esz (rows++new)),g',w'⟩:=
 have q:0<new.length:=List.length_pos_iff.2 o
 Dw hi hb (by simp;omega) (λrow r=>(zQ9.1 r).elim (k row) (n row)) hh ho hp (by simpa using h) hx
end Go.Am
end
section
namespace Go.Am
def okP:PV->Value->Bool| .b x,.bool y=>x==y| .i k n,.int h e=>k==h&&n==e| .s l,.string g=>l==g.data.toList| .sl _ [],.slice none 0 0=>true| .np,.pointer none=>true| .nf,.nilFunc=>true|_,_=>false
def wT:List PV->List Value->Bool|[],[]=>true|x::xs,v::vs=>okP x v&&wT xs vs|_,_=>false
def okC:AV->Value->Bool| .p c,v=>okP c v| .data cs,.agg vs=>wT cs vs.toList| .fn f [] [],.func (.func g) a c=>f==g&&a.isEmpty&&c.isEmpty| .tup [],.tuple vs=>vs.isEmpty|_,_=>false
def bK:Opd->Operand->Bool| .t n,.tmp m=>n==m| .c x,.const v=>okC x v| .c (.fn f [] []),.func g=>f==g|_,_=>false
def jJ:List Opd->List Operand->Bool|[],[]=>true|x::xs,y::e=>bK x y&&jJ xs e|_,_=>false
def uK:Option Opd->Option Operand->Bool|none,none=>true|some x,some y=>bK x y|_,_=>false
section
variable (P:Program)
def szT(t:TypeId):Option Nat:=(P.info? t).map (·.size)
def byT(t:TypeId):Option Nat:=(P.info? t).map (·.bytes)
def zeT(t:TypeId):Option Value:=(P.info? t).bind (·.zero)
def wP:TypeDesc->Bool| .struct _| .array _ _=>true|_=>false
def agT(t:TypeId):Option Bool:=(P.underlying t).map wP
def elT(t:TypeId):Option TypeId:=match P.underlying t with|some (.slice e)=>some e|_=>none
def iS(t:TypeId):Bool:=match P.underlying t with|some .string=>true|_=>false
def SX(t:TypeId):Bool:=match P.underlying t with|some (.int .u8)=>true|_=>false
def YM(t:TypeId):Bool:=match P.underlying t with|some .bool=>true|_=>false
def l5(t:TypeId):Bool:=match P.underlying t with|some (.int _)=>true|_=>false
def XY(k:IntKind)(t:TypeId):Bool:=match P.underlying t with|some (.int e)=>k==e|_=>false
def arT(t:TypeId):Option (Nat×TypeId):=match P.underlying t with|some (.array n e)=>some (n,e)|_=>none
def flT(t:TypeId):Option (Array Field):=match P.underlying t with|some (.struct fs)=>some fs|_=>none
def IK(K:TypeId->Option (List KD)):Nat->List Field->Option (List KD)
 |_,[]=>some []
 |off,f::fs=>
  if f.name= "_" ∨f.offset≠off then none
  else match K f.type with
   |none=>none
   |some ks=>if szT P f.type=some ks.length/\0<ks.length then
    match IK K (off+ks.length) fs with
    |some l=>some (ks++l)
    |none=>none
    else none
def J9N:Nat->TypeId->Option (List KD)
 |0,_=>none
 |d+1,t=>match P.underlying t with
  |some .bool=>some [.b]
  |some (.int k)=>some [.i k]
  |some .string=>some [.s]
  |some (.struct fs)=>if P.stoodInHeld t then none else IK P (J9N d) 0 fs.toList
  |some (.array n e)=>match J9N d e with|some ks=>if szT P e=some ks.length/\0<ks.length then some (List.replicate n ks).flatten else none|none=>none
  |_=>none
def A4(t:TypeId):Operand->Bool| .const (.slice none 0 0)=>(elT P t).isSome|_=>false
def Bn(t:TypeId):Operand->Bool
 | .const (.pointer none)=>(match P.underlying t with|some (.pointer _)=>true|_=>false)
 |_=>false
def zu(t:TypeId):Operand->Bool
 | .const .nilFunc=>(match P.underlying t with|some (.func _ _ _)=>true|_=>false)
 |_=>false
def lM(zero:List PV)(t:TypeId):Bool:=match zeT P t with|some v=>wT zero v.cells.toList|none=>false
def MB(t:TypeId)(os:List (Nat×Nat)):Bool:=match zeT P t with
 |some v=>os.all λx=>match v.cells[x.1]? with|some (.slice none 0 0)=>true|_=>false
 |none=>false
def qJ(place:Nat->Option (Nat×Nat)):List (Nat×Nat×Opd)->List (Nat×Operand)->Bool|[],[]=>true|(off,size,x)::r,(i,y)::q=>place i==some (off,size)&&bK x y&&qJ place r q|_,_=>false
def CO(fs:Array Field)(i:Nat):Option (Nat×Nat):=match fs[i]? with|some f=>(szT P f.type).map λn=>(f.offset,n)|none=>none
def HI:List (Nat×Opd)->List (Nat×Operand)->Bool|[],[]=>true|(i,x)::r,(j,y)::q=>i==j&&bK x y&&HI r q|_,_=>false
def JY(B:AOp)(op:Op):Bool:=
 match B with
 | .mv x=>match op with| .move y| .assign y=>bK x y|_=>false
 | .mkarr _ x=>match op with
  | .move (.const (.slice none 0 0))| .assign (.const (.slice none 0 0))=>(match x with| .c _=>true|_=>false)
  |_=>false
 | .pick c a b=>match op with| .pick c' C A=>bK c c'&&bK a C&&bK b A|_=>false
 | .newbox zero=>match op with| .alloc t=>lM P zero t|_=>false
 | .box _ x=>match op with| .box _ y=>bK x y|_=>false
 | .build zero parts=>match op with
  | .build t ps=>lM P zero t&&(match P.underlying t with
   |some (.struct fs)=>(fs.all λf=>(szT P f.type).isSome)&&qJ (CO P fs) parts ps.toList
   |some (.array _ e)=>(match szT P e with
    |some n=>qJ (λi=>some (i*n,n)) parts ps.toList
    |none=>false)
   |_=>false)
  |_=>false
 | .lits _ esz n zero parts=>match op with
  | .buildSlice t len ps=>len==n&&(match elT P t with
   |some e=>szT P e==some esz&&decide (n*esz<=16777216)&&lM P zero e&&zero.length==esz&&decide (0<esz)&&HI parts ps.toList
   |none=>false)
  |_=>false
 | .load agg size x=>match op with| .load t y=>agT P t==some agg&&szT P t==some size&&bK x y&&(agg||size==1)|_=>false
 | .store size x v=>match op with| .store t y u=>szT P t==some size&&bK x y&&bK v u|_=>false
 | .nilchk x=>match op with| .nilCheck y=>bK x y|_=>false
 | .bin E bt x y=>match op with
  | .binOp r t o h _=>E==r&&bK x o&&(match bt with
   | .plain=>bK y h
   | .bool=>bK y h&&YM P t
   | .flat ks=>bK y h&&J9N P 100 t==some ks&&agT P t==some true&& !P.eqGuardType P.depth t
   | .nils=>A4 P t h
   | .nilp=>Bn P t h
   | .nilf=>zu P t h)
  |_=>false
 | .un D x=>match op with| .unOp w _ y=>D==w&&bK x y|_=>false
 | .conv k x=>match op with
  | .convert q dst y=>bK x y&&(match k with
   | .int k=>l5 P q&&XY P k dst
   | .same=>iS P q&&iS P dst
   | .toStr=>(match elT P q with|some e=>SX P e&&szT P e==some 1|none=>false)&&iS P dst
   | .toBytes _=>iS P q&&(match elT P dst with|some e=>SX P e&&szT P e==some 1|none=>false))
  |_=>false
 | .mkslice _ esz bytes zero l c=>match op with
  | .makeSlice t F c'=>bK l F&&bK c c'&&(match elT P t with
   |some e=>szT P e==some esz&&byT P e==some bytes&&lM P zero e&&zero.length==esz&&decide (0<esz)&&decide (0<bytes)
   |none=>false)
  |_=>false
 | .slice k x lo hi mx=>match op with
  | .slice t o lo' hi' z=>bK x o&&uK lo lo'&&uK hi hi'&&uK mx z&&(match k with
   | .str=>iS P t
   | .sl esz=>(match elT P t with|some e=>szT P e==some esz|none=>false))
  |_=>false
 | .ppre esz x hi=>match op with
  | .slice t o none (some hi') none=>bK x o&&bK hi hi'&&(match elT P t with|some e=>szT P e==some esz|none=>false)
  |_=>false
 | .psuf esz x lo=>match op with
  | .slice t o (some lo') none none=>bK x o&&bK lo lo'&&(match elT P t with|some e=>szT P e==some esz|none=>false)
  |_=>false
 | .faddr off x=>match op with
  | .fieldAddr t y f=>bK x y&&(match flT P t with
   |some fs=>(match fs[f]? with
    |some f=>f.offset==off&&(match szT P f.type with|some n=>n !=0|none=>false)
    |none=>false)
   |none=>false)
  |_=>false
 | .field agg off size x=>match op with
  | .field t y f=>bK x y&&(match flT P t with
   |some fs=>(match fs[f]? with
    |some f=>f.offset==off&&szT P f.type==some size&&agT P f.type==some agg&&(agg||size==1)
    |none=>false)
   |none=>false)
  |_=>false
 | .iaddr esz x i=>match op with
  | .indexAddr t y j=>bK x y&&bK i j&&(match elT P t with|some e=>szT P e==some esz|none=>false)
  |_=>false
 | .aaddr len esz x i=>match op with
  | .indexAddr t y j=>bK x y&&bK i j&&(match arT P t with|some (n,e)=>n==len&&szT P e==some esz|none=>false)
  |_=>false
 | .sidx x i=>match op with| .index t y j=>bK x y&&bK i j&&iS P t|_=>false
 | .aidx agg len esz x i=>match op with
  | .index t y j=>bK x y&&bK i j&&(match arT P t with|some (n,e)=>n==len&&szT P e==some esz&&agT P e==some agg&&(agg||esz==1)|none=>false)
  |_=>false
 | .extr x i=>match op with| .extract y j=>bK x y&&i==j|_=>false
 | .call f args _=>match op with
  | .call c=>(match c.callee with
   | .value (.func g)=>f==g&&jJ args c.args.toList
   |_=>false)
  |_=>false
 | .callv x args _=>match op with
  | .call c=>(match c.callee with
   | .value y=>bK x y&&jJ args c.args.toList
   |_=>false)
  |_=>false
 | .len str x=>match op with
  | .call c=>(match c.callee with
   | .builtin .len=>(match c.args.toList,c.argTypes.toList with
    |[y],[t]=>bK x y&&(if str then iS P t else(elT P t).isSome)
    |_,_=>false)
   |_=>false)
  |_=>false
 | .appn esz bytes zero y=>match op with
  | .call c=>(match c.callee with
   | .builtin .append=>(match c.args.toList,c.argTypes.toList with
    |[.const (.slice none 0 0),h],[t,u]=>bK y h&&((elT P u).isSome||iS P u)&&(match elT P t with
     |some e=>szT P e==some esz&&byT P e==some bytes&&lM P zero e&&zero.length==esz&&decide (0<esz)&&decide (0<bytes)
     |none=>false)
    |_,_=>false)
   |_=>false)
  |_=>false
 | .appp esz bytes zero x y=>match op with
  | .call c=>(match c.callee with
   | .builtin .append=>(match c.args.toList,c.argTypes.toList with
    |[o,h],[t,u]=>bK x o&&bK y h&&((elT P u).isSome||iS P u)&&(match elT P t with
     |some e=>szT P e==some esz&&byT P e==some bytes&&lM P zero e&&zero.length==esz&&decide (0<esz)&&decide (0<bytes)
     |none=>false)
    |_,_=>false)
   |_=>false)
  |_=>false
 | .app esz bytes zero x y=>match op with
  | .call c=>(match c.callee with
   | .builtin .append=>(match c.args.toList,c.argTypes.toList with
    |[o,h],[t,u]=>bK x o&&bK y h&&((elT P u).isSome||iS P u)&&(match elT P t with
     |some e=>szT P e==some esz&&byT P e==some bytes&&lM P zero e&&zero.length==esz&&decide (0<esz)&&decide (0<bytes)
     |none=>false)
    |_,_=>false)
   |_=>false)
  |_=>false
 | .mm mx x y=>match op with
  | .call c=>(match c.callee with
   | .builtin b=>b==(if mx then .max else .min)&&(match c.args.toList with
    |[o,h]=>bK x o&&bK y h
    |_=>false)
   |_=>false)
  |_=>false
 | .newboxo zero os=>match op with| .alloc t=>lM P zero t&&MB P t os|_=>false
 | .buildo zero parts os=>match op with
  | .build t ps=>lM P zero t&&MB P t os&&(match P.underlying t with
   |some (.struct fs)=>(fs.all λf=>(szT P f.type).isSome)&&qJ (CO P fs) parts ps.toList
   |_=>false)
  |_=>false
 | .storen _ x=>match op with| .store t y (.const (.slice none 0 0))=>szT P t==some 1&&bK x y|_=>false
 | .callo f _ args _=>match op with
  | .call c=>(match c.callee with
   | .value (.func g)=>f==g&&jJ args c.args.toList
   |_=>false)
  |_=>false
end
end Go.Am
end
section
namespace Go.Am
def get(s:St):Loc->Option (AV⊕Blk)| .slot n=>(lk n s.env).map .inl| .blk b=>(s.sto[b]?).map .inr
theorem JG7{α:Type}(m:RM α)(s s':St)(h: ∀l∈m.reads s,get s' l=get s l):m.run s'=m.run s:=by
 induction m with
 |ret a=>rfl
 |slot n k ih=>
  have e:=h (.slot n) (by simp[RM.reads]);grind [get,RM.run,RM.reads]
 |blk b k ih=>
  have e:=h (.blk b) (by simp[RM.reads]);grind [get,RM.run,RM.reads]
 |fail=>rfl
theorem vF{b:Nat}: ∀{ws:List (Nat×Blk)},b∉ws.map (·.1)->iO b ws=none
 |[],_=>rfl
 |(c,x)::r,h=>by
  simp at h;simp only[iO];rw[vF (by simpa using h.2)];grind
theorem rm{b:Nat}: ∀{ws:List (Nat×Blk)},b∈ws.map (·.1)-> ∃y,iO b ws=some y
 |[],h=>by simp at h
 |(c,x)::r,h=>by
  simp only[iO];by_cases e:b∈r.map (·.1);obtain⟨y,g⟩:=rm e;simp_all;simp_all [vF]
theorem yD: ∀(ws:List (Nat×Blk)) (σ:List Blk),(upd ws σ).length=σ.length|[],_=>rfl|y::ws,σ=>by show(upd ws (σ.set y.1 y.2)).length=_;rw[yD ws];simp
theorem uR: ∀(ws:List (Nat×Blk)) (σ:List Blk) (b:Nat),b<σ.length->(upd ws σ)[b]?=match iO b ws with
  |some y=>some y
  |none=>σ[b]?
 |[],σ,b,_=>rfl
 |(c,x)::ws,σ,b,h=>by
  show(upd ws (σ.set c x))[b]?=_;rw[uR ws (σ.set c x) b (by simpa using h)];grind [iO]
structure Run(F:Orc)(ins:List bR)(new:Nat->Nat)(S:Nat->St)(eff:Nat->Eff):Prop where
 step: ∀k i,ins[k]?=some i->(bT F i (new k)).run (S k)=some (eff k)/\S (k+1)=put i.dst (eff k) (S k)
structure LZ(F:Orc)(ins:List bR)(new:Nat->Nat)(S:Nat->St)(eff:Nat->Eff)(i j:Nat):Prop where
 slotW: ∀x y m,ins[i]?=some x->ins[j]?=some y->x.dst=some m->y.dst≠some m/\Loc.slot m∉(bT F y (new j)).reads (S j)
 slotR: ∀x y m,ins[i]?=some x->ins[j]?=some y->y.dst=some m->Loc.slot m∉(bT F x (new i)).reads (S i)
 blkW: ∀y b,ins[j]?=some y->b∈(eff i).ws.map (·.1)->b∉(eff j).ws.map (·.1)/\Loc.blk b∉(bT F y (new j)).reads (S j)
 blkR: ∀x b,ins[i]?=some x->b∈(eff j).ws.map (·.1)->Loc.blk b∉(bT F x (new i)).reads (S i)
section
variable {F:Orc} {ins:List bR} {new:Nat->Nat} {S:Nat->St} {eff:Nat->Eff}
def uI(ins:List bR)(k:Nat):Option Nat:=(ins[k]?).bind (·.dst)
def oK(ins:List bR)(eff:Nat->Eff)(s0:St)(D:Nat->Bool):Nat->Nat->Option AV|0,m=>lk m s0.env|k+1,m=>if D k=true/\uI ins k=some m then some (eff k).val else oK ins eff s0 D k m
def mV(eff:Nat->Eff)(s0:St)(D:Nat->Bool):Nat->Nat->Option Blk
 |0,b=>s0.sto[b]?
 |k+1,b=>if D k=true then(match iO b (eff k).ws with
  |some y=>some y
  |none=>mV eff s0 D k b)else mV eff s0 D k b
structure Agree(ins:List bR)(eff:Nat->Eff)(s0:St)(D:Nat->Bool)(s:St):Prop where
 slot: ∀m,lk m s.env=oK ins eff s0 D ins.length m
 len:s.sto.length=s0.sto.length
 blk: ∀b,b<s0.sto.length->s.sto[b]?=mV eff s0 D ins.length b
theorem OE(hr:Run F ins new S eff): ∀k,k<=ins.length->(S k).sto.length=(S 0).sto.length
 |0,_=>rfl
 |k+1,h=>by
  have e:ins[k]?=some ins[k]:=JV (by omega);obtain⟨_,h2⟩:=hr.step k _ e;rw[h2,<-OE hr k (by omega)];unfold put;grind [yD]
theorem ef(hr:Run F ins new S eff)(D:Nat->Bool): ∀k,k<=ins.length->(∀j,j<k->D j=true)-> ∀m,oK ins eff (S 0) D k m=lk m (S k).env
 |0,_,_,m=>rfl
 |k+1,h,hD,m=>by
  have e:ins[k]?=some ins[k]:=JV (by omega);obtain⟨_,h2⟩:=hr.step k _ e;simp only[oK];rw[ef hr D k (by omega) (λj g=>hD j (by omega)) m,h2];have hd:uI ins k=ins[k].dst:=by grind [uI]
  rw[hd];unfold put;grind [lk]
theorem ZU(hr:Run F ins new S eff)(D:Nat->Bool): ∀k,k<=ins.length->(∀j,j<k->D j=true)-> ∀b,b<(S 0).sto.length->mV eff (S 0) D k b=(S k).sto[b]?
 |0,_,_,b,_=>rfl
 |k+1,h,hD,b,hb=>by
  have e:ins[k]?=some ins[k]:=JV (by omega);obtain⟨_,h2⟩:=hr.step k _ e;simp only[mV];rw[ZU hr D k (by omega) (λj g=>hD j (by omega)) b hb,h2,if_pos (hD k (by omega))];have:(put ins[k].dst (eff k) (S k)).sto=upd (eff k).ws (S k).sto:=by unfold put;split<;>rfl
  rw[this,uR _ _ _ (by rw[OE hr k (by omega)];exact hb)]
theorem fl{s0:St}{D D':Nat->Bool}{m:Nat}: ∀n,(∀j,j<n->uI ins j=some m->D j=D' j)->oK ins eff s0 D n m=oK ins eff s0 D' n m
 |0,_=>rfl
 |n+1,h=>by
  simp only[oK];rw[fl n λj e=>h j (by omega)];grind
theorem fa{s0:St}{D D':Nat->Bool}{b:Nat}: ∀n,(∀j,j<n->b∈(eff j).ws.map (·.1)->D j=D' j)->mV eff s0 D n b=mV eff s0 D' n b
 |0,_=>rfl
 |n+1,h=>by
  simp only[mV];rw[fa n λj e=>h j (by omega)];grind [vF]
theorem PR{s0:St}{D:Nat->Bool}{m k:Nat}: ∀n,k<=n->(∀j,k<=j->j<n->uI ins j=some m->D j=false)->oK ins eff s0 D n m=oK ins eff s0 D k m
 |0,h,_=>by simp_all
 |n+1,h,hD=>by
  by_cases e:k=n+1;subst e;rfl;simp only[oK];rw[PR n (by omega) λj h1 h2=>hD j h1 (by omega)];grind
theorem OS{s0:St}{D:Nat->Bool}{b k:Nat}: ∀n,k<=n->(∀j,k<=j->j<n->b∈(eff j).ws.map (·.1)->D j=false)->mV eff s0 D n b=mV eff s0 D k b
 |0,h,_=>by simp_all
 |n+1,h,hD=>by
  by_cases e:k=n+1;subst e;rfl;simp only[mV];rw[OS n (by omega) λj h1 h2=>hD j h1 (by omega)];grind [vF]
theorem JIg(hr:Run F ins new S eff){D:Nat->Bool}{s:St}(ha:Agree ins eff (S 0) D s){k:Nat}{i:bR}(hk:ins[k]?=some i)(H:D k=false)
  (q: ∀j,j<k->D j=false->LZ F ins new S eff j k) (h: ∀j,k<j->j<ins.length->D j=true->LZ F ins new S eff k j):
  (bT F i (new k)).run s=some (eff k)/\Agree ins eff (S 0) (λj=>if j=k then true else D j) (put i.dst (eff k) s):=by
 have C:k<ins.length:=(by grind);have g: ∀j,j<ins.length->ins[j]?=some ins[j]! :=λj o=>by simp[o]
 have x: ∀j,j<ins.length->uI ins j=ins[j]!.dst:=λj o=>by grind [uI]
 obtain⟨h1,h2⟩:=hr.step k i hk;have G:uI ins k=i.dst:=by simp_all
 let T:Nat->Bool:=λ_=>true
 have reads: ∀l∈(bT F i (new k)).reads (S k),get s l=get (S k) l:=by
  intro l A;cases l with
  |slot m=>
   simp only[get];rw[ha.slot m]
   congr 1
   rw[PR ins.length (k:=k) (by omega) λj r e hd=>?_];rw[fl (D':=T) k λj o hd=>?_,ef hr T k (by omega) (λ_ _=>rfl) m];cases hDj:D j with
   |true=>rfl
   |false=>have:=(q j o hDj).slotW _ i m (g j (by omega)) hk (by grind);simp_all
   by_cases n:j=k;simp_all;cases hDj:D j with
   |false=>rfl
   |true=>have:=(h j (by omega) e hDj).slotR i _ m hk (g j e) (by simp_all);simp_all
  |blk b=>
   simp only[get];by_cases v:b<(S 0).sto.length;rw[ha.blk b v]
   congr 1
   rw[OS ins.length (k:=k) (by omega) λj r e hd=>?_];rw[fa (D':=T) k λj o hd=>?_,ZU hr T k (by omega) (λ_ _=>rfl) b v];cases hDj:D j with
   |true=>rfl
   |false=>exact absurd A ((q j o hDj).blkW i b hk hd).2
   by_cases n:j=k;simp_all;cases hDj:D j with
   |false=>rfl
   |true=>exact absurd A ((h j (by omega) e hDj).blkR i b hk hd)
   rw[oH (by have:=ha.len;omega),oH (by have:=OE hr k (by omega);omega)]
 refine⟨by grind [JG7],?_,?_,?_⟩;intro m;have w:lk m (put i.dst (eff k) s).env=if i.dst=some m then some (eff k).val else lk m s.env:=(by unfold put;grind [lk])
 rw[w,ha.slot m];by_cases B:i.dst=some m;rw[if_pos B];rw[PR ins.length (k:=k+1) (by omega) λj r e hd=>?_];grind [oK];have n:j≠k:=by omega
 simp only[if_neg n];cases hDj:D j with
 |false=>rfl
 |true=>have:=(h j (by omega) e hDj).slotW i _ m hk (g j e) B;simp_all
 grind [fl];have:(put i.dst (eff k) s).sto=upd (eff k).ws s.sto:=by unfold put;split<;>rfl
 rw[this,yD,ha.len];intro b v;have:(put i.dst (eff k) s).sto=upd (eff k).ws s.sto:=by unfold put;split<;>rfl
 rw[this,uR _ _ _ (by rw[ha.len];exact v),ha.blk b v];by_cases z:b∈(eff k).ws.map (·.1);obtain⟨y,E⟩:=rm z;simp only[E];rw[OS (D:=λj=>if j=k then true else D j) ins.length (k:=k+1) (by omega) λj r e hd=>?_];grind [mV];have n:j≠k:=by omega
 simp only[if_neg n];cases hDj:D j with
 |false=>rfl
 |true=>exact absurd hd ((h j (by omega) e hDj).blkW _ b (g j e) z).1
 grind [vF,fa]
theorem JAW:Agree ins eff (S 0) (λ_=>false) (S 0):=by
 refine⟨λm=>?_,rfl,λb _=>?_⟩;rw[PR ins.length (k:=0) (zQ2 _) λ_ _ _ _=>rfl];rfl;rw[OS ins.length (k:=0) (zQ2 _) λ_ _ _ _=>rfl];rfl
theorem JFx(hr:Run F ins new S eff){D:Nat->Bool}{s:St}(ha:Agree ins eff (S 0) D s)(hD: ∀j,j<ins.length->D j=true):
  (∀m,lk m s.env=lk m (S ins.length).env)/\s.sto=(S ins.length).sto:=by
 refine⟨λm=>by rw[ha.slot m,ef hr D _ (zQ0 _) hD m],zQ6 λb=>?_⟩;by_cases e:b<(S 0).sto.length;rw[ha.blk b e,ZU hr D _ (zQ0 _) hD b e];rw[oH (by have:=ha.len;omega),oH (by have:=OE hr _ (zQ0 _);omega)]
end
end Go.Am
end
section
namespace Go.Am
def oSl:Opd->List Nat| .t n=>[n]| .c _=>[]
def iM:List Opd->List Nat|[]=>[]|x::r=>oSl x++iM r
def UA:Option Opd->List Nat|none=>[]|some x=>oSl x
def cQ:AOp->List Nat| .mv x| .box _ x| .appn _ _ _ x| .load _ _ x| .nilchk x| .un _ x| .conv _ x| .faddr _ x| .field _ _ _ x| .extr x _| .len _ x=>oSl x| .mkarr _ _| .newbox _=>[]| .pick c a b=>oSl c++(oSl a++oSl b)| .build _ parts=>iM (parts.map (·.2.2))| .lits _ _ _ _ parts=>iM (parts.map (·.2))| .store _ x v=>oSl x++oSl v| .bin _ _ x y| .iaddr _ x y| .aaddr _ _ x y| .sidx x y| .aidx _ _ _ x y| .app _ _ _ x y| .mm _ x y| .mkslice _ _ _ _ x y| .ppre _ x y| .psuf _ x y| .appp _ _ _ x y=>oSl x++oSl y| .slice _ x lo hi mx=>oSl x++(UA lo++(UA hi++UA mx))| .call _ args _=>iM args| .callv g args _=>oSl g++iM args| .newboxo _ _=>[]| .buildo _ parts _=>iM (parts.map (·.2.2))| .storen _ x=>oSl x| .callo _ _ args _=>iM args
def vA(i:bR):List Nat:=cQ i.op++match i.g with|some (g,_)=>[g]|none=>[]
def xC:AOp->Bool| .mkarr _ _| .newbox _| .box _ _| .lits _ _ _ _ _| .store _ _ _| .conv (.toBytes _) _| .mkslice _ _ _ _ _ _| .slice (.sl _) _ _ _ _| .call _ _ _| .callv _ _ _| .app _ _ _ _ _| .appn _ _ _ _| .newboxo _ _| .buildo _ _ _| .storen _ _| .callo _ _ _ _| .ppre _ _ _| .psuf _ _ _| .appp _ _ _ _ _=>true|_=>false
def FJ:AOp->Bool| .load _ _ _| .iaddr _ _ _| .conv .toStr _=>true|op=>xC op
def Sl{α:Type}(L:List Nat)(m:RM α):Prop:= ∀s n,Loc.slot n∈m.reads s->n∈L
section
variable {α β:Type} {L:List Nat}
theorem bD(a:α):Sl L (.ret a):=λs n h=>by grind [RM.reads]
theorem bV:Sl L (.fail:RM α):=λs n h=>by grind [RM.reads]
theorem lV{b:Nat}{k:Blk->RM α}(h: ∀v,Sl L (k v)):Sl L (.blk b k):=λs n e=>by
 simp only[RM.reads,bX]at e;rcases e with e|e;cases e;split at e;exact h _ s n e;simp at e
theorem D3{m:Nat}{k:AV->RM α}(hm:m∈L)(h: ∀v,Sl L (k v)):Sl L (.slot m k):=λs n e=>by
 simp only[RM.reads,bX]at e;rcases e with e|e;simp_all;split at e;exact h _ s n e;simp at e
theorem Jq{m:RM α}{f:α->RM β}(h:Sl L m)(hf: ∀a,Sl L (f a)):Sl L (m.bind f):=λs n e=>by
 rw[vH,zQ9]at e;rcases e with e|e;exact h s n e;cases hr:m.run s with
 |none=>simp[hr]at e
 |some a=>simp[hr]at e;exact hf a s n e
theorem JKa{L':List Nat}{m:RM α}(h:Sl L m)(hl: ∀x∈L,x∈L'):Sl L' m:=λs n e=>hl n (h s n e)
theorem XB{c:Prop} [Decidable c]{x y:RM α}(hx:Sl L x)(hy:Sl L y):Sl L (if c then x else y):=by grind
end
theorem bY{L:List Nat}(x:Opd)(h: ∀n∈oSl x,n∈L):Sl L (ev x):=by
 cases x with
 |t n=>exact D3 (h n (by simp[oSl])) λv=>bD v
 |c v=>exact bD v
theorem NK{L:List Nat}: ∀(xs:List Opd),(∀n∈iM xs,n∈L)->Sl L (evs xs)|[],_=>bD _|x::xs,h=>Jq (bY x λn e=>h n (by simp[iM,e])) λv=>Jq (NK xs λn e=>h n (by simp[iM,e])) λvs=>bD _
theorem XT{L:List Nat}(x:Option Opd)(h: ∀n∈UA x,n∈L):Sl L (evo x):=by
 cases x with
 |none=>exact bD _
 |some x=>exact Jq (bY x h) λv=>bD _
theorem nH{L:List Nat}(x:Option AV):Sl L (val x):=by cases x<;>first|exact bV|exact bD _
theorem JLw{L:List Nat}(x:AV):Sl L (fz.fz1 x):=by
 cases x<;>try exact bV
 exact bD _;refine lV λv=>?_;grind [bV,bD]
theorem C2{L:List Nat}: ∀(xs:List AV),Sl L (fz.fzL xs)|[]=>bD _|x::xs=>Jq (JLw x) λ_=>Jq (C2 xs) λ_=>bD _
theorem GM{L:List Nat}(x:AV):Sl L (fz x):=by
 cases x<;>try first|exact bV|exact bD _
 exact C2 _;refine lV λv=>?_;grind [bV,bD]
theorem Cc{L:List Nat}: ∀(xs:List Opd),(∀n∈iM xs,n∈L)->Sl L (fzs xs)|[],_=>bD _|x::xs,h=>Jq (bY x λn e=>h n (by simp[iM,e])) λv=>Jq (GM v) λ_=>Jq (Cc xs λn e=>h n (by simp[iM,e])) λ_=>bD _
theorem PN{L:List Nat}(esz:Nat)(x:AV):Sl L (eY esz x):=by
 unfold eY;grind [bD,bV,lV]
theorem JGS{L:List Nat}(agg:Bool)(size:Nat)(x:AV):Sl L (fX agg size x):=by
 unfold fX;split
 all_goals grind [nH,bV,lV]
theorem qt{L:List Nat}(size:Nat)(x v:AV):Sl L (hC size x v):=by
 unfold hC;split;grind [lV,bV,bD];refine lV λv=>?_;grind [bV,Jq,GM,bD];simp[bV]
theorem JFq{L:List Nat}(esz:Nat)(x i:AV):Sl L (lX esz x i):=by
 unfold lX;grind [bV,bD,lV]
theorem JKf{L:List Nat}(esz bytes:Nat)(x y:AV):Sl L (iH esz bytes x y):=by
 unfold iH;grind [lV,bV,Jq,PN,bD]
theorem OB{L:List Nat}(ws:List (Nat×Blk))(b:Nat):Sl L (pQ ws b):=
 lV λv=>by grind [bD]
theorem CT{L:List Nat}(ws:List (Nat×Blk)): ∀(es acc:List Ent),Sl L (dS ws es acc)
 |[],acc=>bD _
 | .whole b::r,acc=>Jq (OB ws b) λv=>by cases v<;>exact CT ws r _
 | .elem b e i::r,acc=>CT ws r acc
theorem YP{L:List Nat}(x:AV):Sl L (iG x):=by
 cases x<;>try first|exact bV|exact bD _
 exact Jq (GM _) λ_=>bD _;refine Jq (GM _) λa=>?_;grind [bD,bV]
theorem o4{L:List Nat}: ∀(xs:List AV),Sl L (jK xs)|[]=>bD _|x::xs=>Jq (YP x) λ_=>Jq (o4 xs) λ_=>bD _
theorem JIy{L:List Nat}(ws:List (Nat×Blk))(ρ:Ent->Option Nat)(e:Ent):Sl L (xK ws ρ e):=by
 cases e with
 |whole b=>
  refine Jq (OB ws b) λv=>?_;grind [bV,bD]
 |elem b e i=>
  refine Jq (OB ws b) λv=>?_;grind [bV,bD]
theorem eh{L:List Nat}(ws:List (Nat×Blk))(ρ:Ent->Option Nat): ∀(es:List Ent),Sl L (jU ws ρ es)|[]=>bD _|e::r=>Jq (JIy ws ρ e) λ_=>Jq (eh ws ρ r) λ_=>bD _
theorem JFs{L:List Nat}(ws:List (Nat×Blk))(es:List Ent)(new:Nat)(e:Ent)(x:Blk):Sl L (sA ws es new e x):=by
 unfold sA;grind [bD,bV,Jq,OB]
theorem fq{L:List Nat}(ws:List (Nat×Blk))(es:List Ent)(new:Nat): ∀(e:List Ent) (x:List Blk),Sl L (iB ws es new e x)|[],_=>bD _|_::_,[]=>bV|e::r,x::l=>Jq (JFs ws es new e x) λ_=>Jq (fq ws es new r l) λ_=>bD _
theorem nj{L:List Nat}(F:Orc)(f:FuncId)(args:List AV)(k new:Nat):Sl L (gY F f args k new):=by
 unfold gY;refine Jq (o4 _) λa=>Jq (CT _ _ _) λe=>Jq (CT _ _ _) λes=>XB ?_ bV;split
 all_goals grind [bV,Jq,eh,fq,bD]
theorem JFv{L:List Nat}(F:Orc)(f:FuncId)(a:List AV×List (Nat×Blk))(k new:Nat):Sl L (fG F f a k new):=by
 unfold fG;refine Jq (CT _ _ _) λe=>Jq (CT _ _ _) λes=>XB ?_ bV;split
 all_goals grind [bV,Jq,eh,fq,bD]
theorem PG{L:List Nat}: ∀(m:List Bool) (xs:List AV),Sl L (eT m xs)
 |_,[]=>by cases ‹List Bool›<;>exact bD _
 |[],x::xs=>Jq (YP x) λ_=>Jq (PG [] xs) λ_=>bD _
 |true::m,x::xs=>Jq (PG m xs) λ_=>bD _
 |false::m,x::xs=>Jq (YP x) λ_=>Jq (PG m xs) λ_=>bD _
theorem e8{L:List Nat}: ∀(xs:List (Nat×Nat×Opd)),(∀n∈iM (xs.map (·.2.2)),n∈L)->Sl L (jR xs)
 |[],_=>bD _
 |(a,b,x)::xs,h=>by
  unfold jR;refine Jq (bY x λn e=>h n (by simp[iM,e])) λv=>?_;split;exact Jq (e8 xs λn e=>h n (by simp[iM,e])) λ_=>bD _;simp[bV]
theorem JLB(F:Orc)(op:AOp)(new:Nat):Sl (cQ op) (opR F op new):=by
 cases op with
 |mv x=>exact Jq (bY x λn h=>h) λv=>bD _
 |mkarr=>exact bD _
 |appn esz bytes zero y=>exact Jq (bY y λn h=>h) λv=>Jq (PN _ _) λ_=>XB (bD _) bV
 |pick c a b=>
  refine Jq (bY c λn h=>by grind [cQ]) λv=>?_;grind [Jq,bY,cQ,bD,bV]
 |newbox=>exact bD _
 |box size x=>
  refine Jq (bY x λn h=>h) λv=>?_;grind [bD,bV]
 |build zero parts=>
  refine Jq (e8 parts λn h=>h) λv=>?_;grind [nH,bV]
 |lits own esz n zero parts=>
  refine Jq (Cc _ λn h=>h) λv=>?_;grind [bD,bV]
 |load agg size x=>exact Jq (bY x λn h=>h) λv=>JGS _ _ _
 |store size x y=>exact Jq (bY x λn h=>by grind [cQ]) λv=>Jq (bY y λn h=>by grind [cQ]) λ_=>qt _ _ _
 |nilchk x=>
  refine Jq (bY x λn h=>h) λv=>?_;grind [bD,bV]
 |bin op t x y=>exact Jq (bY x λn h=>by grind [cQ]) λv=>Jq (bY y λn h=>by grind [cQ]) λ_=>nH _
 |un op x=>exact Jq (bY x λn h=>h) λv=>nH _
 |conv k x=>
  refine Jq (bY x λn h=>h) λv=>?_;grind [bD,Jq,PN,bV]
 |mkslice own esz bytes zero x y=>
  refine Jq (bY x λn h=>by grind [cQ]) λv=>Jq (bY y λn h=>by grind [cQ]) λu=>?_;grind [bD,bV]
 |slice k x lo hi mx=>
  refine Jq (bY x λn h=>by grind [cQ]) λv=>Jq (XT lo λn h=>by grind [cQ]) λ_=>Jq (XT hi λn h=>by grind [cQ]) λ_=>Jq (XT mx λn h=>by grind [cQ]) λ_=>?_;grind [Jq,GM,bD,bV,nH]
 |faddr off x=>exact Jq (bY x λn h=>h) λv=>nH _
 |field agg off size x=>exact Jq (bY x λn h=>h) λv=>nH _
 |iaddr esz x y=>exact Jq (bY x λn h=>by grind [cQ]) λv=>Jq (bY y λn h=>by grind [cQ]) λ_=>JFq _ _ _
 |aaddr len esz x y=>exact Jq (bY x λn h=>by grind [cQ]) λv=>Jq (bY y λn h=>by grind [cQ]) λ_=>nH _
 |sidx x y=>
  refine Jq (bY x λn h=>by grind [cQ]) λv=>Jq (bY y λn h=>by grind [cQ]) λu=>?_;grind [bV,bD]
 |aidx agg len esz x y=>
  refine Jq (bY x λn h=>by grind [cQ]) λv=>Jq (bY y λn h=>by grind [cQ]) λu=>?_;grind [nH,bV]
 |extr x i=>exact Jq (bY x λn h=>h) λv=>nH _
 |call f args k=>exact Jq (NK args λn h=>h) λv=>nj _ _ _ _ _
 |callv g args k=>
  refine Jq (bY g λn h=>by grind [cQ]) λv=>?_;grind [bV,Jq,NK,cQ,nj]
 |len str x=>exact Jq (bY x λn h=>h) λv=>nH _
 |ppre esz x y=>
  refine Jq (bY x λn h=>by grind [cQ]) λv=>Jq (bY y λn h=>by grind [cQ]) λc=>?_;unfold rC;split;refine lV λv=>?_;split;split<;>first|exact bD _|exact bV
  exact bV;exact bV
 |psuf esz x y=>
  refine Jq (bY x λn h=>by grind [cQ]) λv=>Jq (bY y λn h=>by grind [cQ]) λc=>?_;unfold rO;split;refine lV λv=>?_;split;split<;>first|exact bD _|exact bV
  exact bV;exact bV
 |appp esz bytes zero x y=>
  refine Jq (bY x λn h=>by grind [cQ]) λv=>Jq (bY y λn h=>by grind [cQ]) λc=>?_;unfold rJ;split;refine lV λv=>?_;split;refine Jq (PN _ _) λw=>?_;split<;>first|exact bD _|exact bV
  exact bV;exact bV
 |app esz bytes zero x y=>exact Jq (bY x λn h=>by grind [cQ]) λv=>Jq (bY y λn h=>by grind [cQ]) λ_=>JKf _ _ _ _
 |mm mx x y=>exact Jq (bY x λn h=>by grind [cQ]) λv=>Jq (bY y λn h=>by grind [cQ]) λ_=>nH _
 |newboxo=>exact bD _
 |buildo zero parts os=>
  refine Jq (e8 parts λn h=>h) λv=>?_;grind [bD,bV]
 |storen esz x=>exact Jq (bY x λn h=>h) λv=>Jq (qt _ _ _) λ_=>bD _
 |callo f keep args k=>exact Jq (NK args λn h=>h) λv=>Jq (PG _ _) λ_=>JFv _ _ _ _ _
theorem o5{L:List Nat}: ∀(k new:Nat),Sl L (rS new k)|0,_=>bD _|k+1,new=>lV λv=>by cases v<;>first|exact o5 k _|exact bV
theorem Fe(F:Orc)(i:bR)(new:Nat):Sl (vA i) (bT F i new):=by
 have h:Sl (vA i) (opD F i.op new):=Jq (o5 _ _) λ_=>JKa (JLB F i.op new) λx e=>by grind [vA]
 grind [bT,D3,vA,bD,bV]
end Go.Am
end
section
namespace Go.Am
def W0(m:RM Eff):Prop:= ∀s e,m.run s=some e->e.ws=[]
def B0{α:Type}(m:RM α):Prop:= ∀s e,m.run s=some e-> ∀b,Loc.blk b∉m.reads s
theorem nI(x:Option AV):W0 (val x):=λs e h=>by cases x<;>grind [val,RM.run]
theorem rY(v:AV):W0 (.ret ⟨v,[]⟩):=λs e h=>by grind [RM.run]
theorem qH:W0 .fail:=λs e h=>by cases h
theorem cY{α:Type}{m:RM α}{f:α->RM Eff}(h: ∀a,W0 (f a)):W0 (m.bind f):=λs e g=>by
 rw[run_bind]at g;cases hm:m.run s with
 |none=>simp_all
 |some a=>rw[hm]at g;exact h a s e g
theorem Ce{b:Nat}{k:Blk->RM Eff}(h: ∀v,W0 (k v)):W0 (.blk b k):=λs e g=>by
 simp only[RM.run]at g;split at g;exact h _ s e g;cases g
theorem JJY{g:Nat}{k:AV->RM Eff}(h: ∀v,W0 (k v)):W0 (.slot g k):=λs e j=>by
 simp only[RM.run]at j;split at j;exact h _ s e j;cases j
theorem kT{α:Type}(a:α):B0 (.ret a):=λs e _ b h=>by grind [RM.reads]
theorem sJ{α:Type}:B0 (.fail:RM α):=λs e h=>by cases h
theorem oR(x:Option AV):B0 (val x):=by cases x<;>first|exact sJ|exact kT _
theorem dJ{α β:Type}{m:RM α}{f:α->RM β}(hm:B0 m)(h: ∀a,B0 (f a)):B0 (m.bind f):=λs e j b g=>by
 rw[run_bind]at j;rw[vH]at g;cases hr:m.run s with
 |none=>simp_all
 |some a=>
  rw[hr]at j g;rcases zQ9.1 g with g|g;exact hm s a hr b g;exact h a s e j b (by simpa using g)
theorem eV(x:Opd):B0 (ev x):=by
 cases x with
 |t n=>exact λs e _ b h=>by grind [ev,RM.reads]
 |c v=>exact kT _
theorem JKG{α:Type}{g:Nat}{k:AV->RM α}(h: ∀v,B0 (k v)):B0 (.slot g k):=λs e n b j=>by
 simp only[RM.run]at n;simp only[RM.reads,bX]at j;rcases j with j|j;cases j;cases hl:lk g s.env with
 |none=>simp_all
 |some v=>rw[hl]at n j;exact h v s e n b j
theorem XD(x:Option Opd):B0 (evo x):=by
 cases x with
 |none=>exact kT _
 |some x=>exact dJ (eV x) λ_=>kT _
theorem pp: ∀(xs:List (Nat×Nat×Opd)),B0 (jR xs)
 |[]=>kT _
 |(a,b,x)::xs=>by
  unfold jR;refine dJ (eV x) λv=>?_;split;exact dJ (pp xs) λ_=>kT _;simp[sJ]
theorem Fk(lo hi mx:Option AV)(c:PV)(hc: ∀l,c≠.s l):jS .str (.p c) lo hi mx=none:=by
 cases mx with
 |some _=>rfl
 |none=>cases c<;>first|rfl|simp_all
theorem JLk(F:Orc)(op:AOp)(new:Nat)(h:xC op=false):W0 (opR F op new):=by
 cases op with
 |mkarr=>cases h
 |newboxo=>cases h
 |buildo=>cases h
 |storen=>cases h
 |callo=>cases h
 |newbox=>cases h
 |box=>cases h
 |lits=>cases h
 |store=>cases h
 |mkslice=>cases h
 |call=>cases h
 |callv=>cases h
 |app=>cases h
 |ppre=>cases h
 |psuf=>cases h
 |appp=>cases h
 |appn=>cases h
 |mv x=>exact cY λ_=>rY _
 |pick c a b=>
  refine cY λv=>?_;grind [cY,rY,qH]
 |build zero parts=>
  refine cY λv=>?_;grind [nI,qH]
 |load agg size x=>
  refine cY λv=>?_;unfold fX;split
  all_goals grind [nI,qH,Ce]
 |nilchk x=>
  refine cY λv=>?_;grind [rY,qH]
 |bin op t x y=>exact cY λ_=>cY λ_=>nI _
 |un op x=>exact cY λ_=>nI _
 |conv k x=>
  refine cY λv=>?_;split;exact rY _;exact rY _;grind [cY,rY,qH];cases h;simp[qH]
 |slice k x lo hi mx=>
  cases k with
  |sl esz=>cases h
  |str=>
   refine cY λv=>cY λ_=>cY λ_=>cY λ_=>?_;split;rename_i b i n;intro s e g;exfalso;rw[run_bind]at g;cases h1:(fz (.slr b i n)).run s<;>grind [fz,RM.run,Fk]
   simp[nI]
 |faddr off x=>exact cY λ_=>nI _
 |field agg off size x=>exact cY λ_=>nI _
 |iaddr esz x y=>
  refine cY λv=>cY λu=>?_;unfold lX;grind [qH,rY,Ce]
 |aaddr len esz x y=>exact cY λ_=>cY λ_=>nI _
 |sidx x y=>
  refine cY λv=>cY λu=>?_;grind [qH,rY]
 |aidx agg len esz x y=>
  refine cY λv=>cY λu=>?_;grind [nI,qH]
 |extr x i=>exact cY λ_=>nI _
 |len str x=>exact cY λ_=>nI _
 |mm mx x y=>exact cY λ_=>cY λ_=>nI _
theorem JLW(F:Orc)(op:AOp)(new:Nat)(h:FJ op=false):B0 (opR F op new):=by
 cases op with
 |mkarr=>cases h
 |newboxo=>cases h
 |buildo=>cases h
 |storen=>cases h
 |callo=>cases h
 |newbox=>cases h
 |box=>cases h
 |lits=>cases h
 |store=>cases h
 |mkslice=>cases h
 |call=>cases h
 |callv=>cases h
 |app=>cases h
 |ppre=>cases h
 |psuf=>cases h
 |appp=>cases h
 |appn=>cases h
 |load=>cases h
 |iaddr=>cases h
 |mv x=>exact dJ (eV x) λ_=>kT _
 |pick c a b=>
  refine dJ (eV c) λv=>?_;grind [dJ,eV,kT,sJ]
 |build zero parts=>
  refine dJ (pp parts) λv=>?_;grind [oR,sJ]
 |nilchk x=>
  refine dJ (eV x) λv=>?_;grind [kT,sJ]
 |bin op t x y=>exact dJ (eV x) λ_=>dJ (eV y) λ_=>oR _
 |un op x=>exact dJ (eV x) λ_=>oR _
 |conv k x=>
  refine dJ (eV x) λv=>?_;split;exact kT _;exact kT _;cases h;cases h;simp[sJ]
 |slice k x lo hi mx=>
  cases k with
  |sl esz=>cases h
  |str=>
   refine dJ (eV x) λv=>dJ (XD lo) λ_=>dJ (XD hi) λ_=>dJ (XD mx) λ_=>?_;split;rename_i b i n;intro s e g;exfalso;rw[run_bind]at g;cases h1:(fz (.slr b i n)).run s<;>grind [fz,RM.run,Fk]
   simp[oR]
 |faddr off x=>exact dJ (eV x) λ_=>oR _
 |field agg off size x=>exact dJ (eV x) λ_=>oR _
 |aaddr len esz x y=>exact dJ (eV x) λ_=>dJ (eV y) λ_=>oR _
 |sidx x y=>
  refine dJ (eV x) λv=>dJ (eV y) λu=>?_;grind [sJ,kT]
 |aidx agg len esz x y=>
  refine dJ (eV x) λv=>dJ (eV y) λu=>?_;grind [oR,sJ]
 |extr x i=>exact dJ (eV x) λ_=>oR _
 |len str x=>exact dJ (eV x) λ_=>oR _
 |mm mx x y=>exact dJ (eV x) λ_=>dJ (eV y) λ_=>oR _
theorem Ck{op:AOp}(h:FJ op=false):xC op=false:=by
 cases op<;>first|rfl|cases h|skip
 rename_i k x;cases k<;>first|rfl|cases h
 rename_i k x lo hi mx;cases k<;>first|rfl|cases h
theorem JKq{op:AOp}(h:xC op=false):kP op=0:=by
 cases op<;>first|rfl|cases h|skip
 rename_i k x;cases k<;>first|rfl|cases h
theorem YS(F:Orc)(i:bR)(new:Nat)(h:xC i.op=false):W0 (bT F i new):=by
 have h1:W0 (opD F i.op new):=cY λ_=>JLk F _ _ h;grind [bT,JJY,rY,qH]
theorem Es(F:Orc)(i:bR)(new:Nat)(h:FJ i.op=false):B0 (bT F i new):=by
 have h1:B0 (opD F i.op new):=by unfold opD;rw[JKq (Ck h)];exact dJ (kT _) λ_=>JLW F _ _ h
 grind [bT,JKG,kT,sJ]
end Go.Am
end
section
namespace Go.Am
theorem bind_some{α β:Type}{m:RM α}{f:α->RM β}{s:St}{b:β}(h:(m.bind f).run s=some b): ∃a,m.run s=some a/\(f a).run s=some b:=by rw[run_bind]at h;cases hm:m.run s<;>simp_all
theorem fZ{x:Option AV}{s:St}{e:Eff}(h:(val x).run s=some e): ∃v,x=some v/\e=⟨v,[]⟩:=by cases x<;>simp_all [val,RM.run]
theorem Fm{w C c v}(h:okP c v=true):J05 w C c v:=by
 unfold okP at h;split at h;rename_i x y;have:x=y:=by simpa using h
 subst this;exact .b _;simp at h;obtain⟨rfl,rfl⟩:=h;exact .i _ _;rename_i l e;have:l=e.data.toList:=by simpa using h
 subst this;exact .s _;exact .sl0 _ _ _;exact .np;exact .nf;cases h
theorem OY{w C}: ∀{cs:List PV} {vs:List Value},wT cs vs=true->cs.length=vs.length/\ ∀(i:Nat) x v,cs[i]?=some x->vs[i]?=some v->J05 w C x v
 |[],[],_=>⟨rfl,λi x v h=>by simp at h⟩
 |x::xs,v::vs,h=>by
  simp only[wT,JW]at h;obtain⟨h1,h2⟩:=OY (w:=w) (C:=C) h.2;grind [Fm]
 |[],_::_,h=>by grind [wT]
 |_::_,[],h=>by grind [wT]
theorem JJB{s:Sn}{c v}(h:okC c v=true):JA s c v:=by
 unfold okC at h;split at h;exact .p _ _ (Fm h);rename_i cs vs;obtain⟨h1,h2⟩:=OY (w:=s.w) (C:=s.g.C) h;exact .data _ _ (by simpa using h1) λi x v j e=>h2 i x v j (by simpa using e);rename_i f g a c;simp at h;obtain⟨⟨rfl,rfl⟩,rfl⟩:=h;exact .fn _ _ _ _ _ rfl rfl (λi x v h=>by simp at h) (λi x v h=>by simp at h);simp at h;subst h;exact .tup _ _ rfl (λi x v h=>by simp at h);cases h
def bM(s:Sn)(tmps:Array Value)(env:List (Nat×AV)):Prop:= ∀n x,lk n env=some x-> ∃v,tmps[n]?=some v/\JA s x v
theorem bM.mono{s0 s:Sn}(hi:Inv s0)(t:aW s0 s){tmps env}(h:bM s0 tmps env):bM s tmps env:=
 λn x e=>let⟨v,h1,h2⟩:=h n x e;⟨v,h1,h2.mono hi t⟩
section
variable {P:Program} {s:Sn} {a:Act} {env:List (Nat×AV)}
theorem bH(he:bM s a.tmps env){x:Opd}{y:Operand}{v:AV}(h:(ev x).run ⟨env,s.σ⟩=some v)(hc:bK x y=true):JA s v (a.eval y):=by
 cases x with
 |t n=>
  cases y<;>simp[bK]at hc;subst hc;simp only[ev,RM.run]at h;split at h
  rename_i u e;injection h with h;subst h;obtain⟨w,h1,h2⟩:=he _ _ e;simp_all [Act.eval];cases h
 |c z=>
  simp only[ev,RM.run]at h;injection h with h;subst h;cases y with
  |const u=>exact JJB (v:=u) (by grind [bK])
  |func g=>
   cases z<;>simp[bK]at hc;rename_i f first caps
   cases first<;>cases caps<;>simp[bK]at hc
   subst hc;exact .fn _ _ _ _ _ rfl rfl (λi x v h=>by simp at h) (λi x v h=>by simp at h)
  |tmp n=>grind [bK]
  |global n=>grind [bK]
theorem NT(he:bM s a.tmps env): ∀{xs:List Opd} {e:List Operand} {vs:List AV},(evs xs).run ⟨env,s.σ⟩=some vs->jJ xs e=true->
  vs.length=e.length/\ ∀(i:Nat) x v,vs[i]?=some x->(e.map a.eval)[i]?=some v->JA s x v
 |[],[],vs,h,_=>by
  grind [evs,RM.run]
 |x::xs,y::e,vs,h,hc=>by
  simp only[jJ,JW]at hc;simp only[evs]at h;obtain⟨u,h1,h⟩:=bind_some h;obtain⟨g,h2,h⟩:=bind_some h;simp only[RM.run]at h;injection h with h;subst h;obtain⟨l,r⟩:=NT he h2 hc.2;grind [bH]
 |[],_::_,_,_,hc=>by grind [jJ]
 |_::_,[],_,_,hc=>by grind [jJ]
def bO(P:Program)(o:Oper)(a:Act)(s:Sn)(e:Eff):Prop:= ∀(next:Act->World->Prop) (Q:Exit->Act->World->Prop),(∀v w' g',Inv ⟨upd e.ws s.σ,g',w'⟩->aW s ⟨upd e.ws s.σ,g',w'⟩->JA ⟨upd e.ws s.σ,g',w'⟩ e.val v->next (a.put o.dst v) w')->o.wp P a s.w next Q
theorem gB{o:Oper}{e:Eff}{v:Value}{w':World}{g':Gh}(hr:(execOp a.eval o).run P s.w=.ok (.value v) w')
  (hi:Inv ⟨upd e.ws s.σ,g',w'⟩) (t:aW s ⟨upd e.ws s.σ,g',w'⟩) (hv:JA ⟨upd e.ws s.σ,g',w'⟩ e.val v):bO P o a s e:=by
 intro next Q h;grind [Oper.wp,Oper.upon]
theorem JG{o:Oper}{x:AV}{v:Value}(hi:Inv s)(hr:(execOp a.eval o).run P s.w=.ok (.value v) s.w)(hv:JA s x v):bO P o a s ⟨x,[]⟩:=
 gB (e:=⟨x,[]⟩) (g':=s.g) hr hi (.refl s) hv
theorem ub{t:TypeId}{i:TypeInfo}(h:P.info? t=some i)(w:World):(typeInfo t).run P w=.ok i w:=by simp[typeInfo,h]
theorem gN{t:TypeId}{n:Nat}(h:szT P t=some n)(w:World):(sizeOf t).run P w=.ok n w:=by unfold szT at h;cases hi:P.info? t<;>simp_all [sizeOf,ub]
theorem CS{t:TypeId}{b:Bool}(h:agT P t=some b)(w:World):(isAgg t).run P w=.ok b w:=by
 unfold agT at h;cases hu:P.underlying t with
 |none=>simp_all
 |some d=>rw[hu]at h;simp at h;simp only[isAgg,xD,run_underlying hu,rM];subst h;cases d<;>rfl
theorem hI{t e:TypeId}(h:elT P t=some e):P.underlying t=some (.slice e):=by
 grind [elT]
theorem vC{t:TypeId}(h:iS P t=true):P.underlying t=some .string:=by
 grind [iS]
theorem pb{t:TypeId}(h:SX P t=true):P.underlying t=some (.int .u8):=by
 grind [SX]
theorem Gu{t:TypeId}(h:YM P t=true):P.underlying t=some .bool:=by
 grind [YM]
theorem JFG{t:TypeId}(h:l5 P t=true): ∃k,P.underlying t=some (.int k):=by
 grind [l5]
theorem JER{t:TypeId}{k:IntKind}(h:XY P k t=true):P.underlying t=some (.int k):=by
 grind [XY]
theorem n4{t e:TypeId}{n:Nat}(h:arT P t=some (n,e)):P.underlying t=some (.array n e):=by
 grind [arT]
theorem ox{t:TypeId}{fs:Array Field}(h:flT P t=some fs):P.underlying t=some (.struct fs):=by
 grind [flT]
theorem iA{x k n}(h:JA s (.p (.i k n)) x):x=.int k n:=by cases h with|p _ _ h=>cases h;rfl
theorem NP{x n}(h:JA s (.p (.b n)) x):x=.bool n:=by cases h with|p _ _ h=>cases h;rfl
theorem rZ{x l}(h:JA s (.p (.s l)) x):x=.string ⟨l.toArray⟩:=by cases h with|p _ _ h=>cases h;rfl
theorem JJs{x}(h:JA s (.p .np) x):x=.pointer none:=by cases h with|p _ _ h=>cases h;rfl
theorem JKN{x}(h:JA s (.p .nf) x):x=.nilFunc:=by cases h with|p _ _ h=>cases h;rfl
theorem sC(k n):JA s (.p (.i k n)) (.int k n):=.p _ _ (.i _ _)
theorem oU(n):JA s (.p (.b n)) (.bool n):=.p _ _ (.b _)
theorem Ep(l):JA s (.p (.s l)) (.string ⟨l.toArray⟩):=.p _ _ (.s _)
theorem sH(l:List UInt8):ByteArray.size ⟨l.toArray⟩=l.length:=by simp[ByteArray.size]
theorem JFZ(l m:List UInt8):(⟨l.toArray⟩:ByteArray)++⟨m.toArray⟩=⟨(l++m).toArray⟩:=by apply ByteArray.ext;simp_all
theorem Gv{op:BinOp}{k:IntKind}{x y:Int}{t:TypeId}{r:PV}(n:op≠.shl)(j:op≠.shr)(h:wF op k x y=some r)(w:World):
  ∃v,(binOp op t (.int k x) (.int k y)).run P w=.ok v w/\J05 s.w s.g.C r v:=by
 cases op<;>simp only[wF]at h
 case add=>injection h with h;subst h;exact⟨_,by simp[binOp,Op.intArith],.i _ _⟩
 case sub=>injection h with h;subst h;exact⟨_,by simp[binOp,Op.intArith],.i _ _⟩
 case mul=>injection h with h;subst h;exact⟨_,by simp[binOp,Op.intArith],.i _ _⟩
 case quo=>split at h
           cases h;rename_i e;injection h with h;subst h;exact⟨_,by simp[binOp,Op.intDiv,e],.i _ _⟩
 case rem=>split at h
           cases h;rename_i e;injection h with h;subst h;exact⟨_,by simp[binOp,Op.intDiv,e],.i _ _⟩
 case and=>injection h with h;subst h;exact⟨_,by simp[binOp,Op.intBits],.i _ _⟩
 case or=>injection h with h;subst h;exact⟨_,by simp[binOp,Op.intBits],.i _ _⟩
 case xor=>injection h with h;subst h;exact⟨_,by simp[binOp,Op.intBits],.i _ _⟩
 case eql=>injection h with h;subst h;exact⟨_,by simp[binOp,Op.intCmp],.b _⟩
 case neq=>injection h with h;subst h;exact⟨_,by simp[binOp,Op.intCmp],.b _⟩
 case lss=>injection h with h;subst h;exact⟨_,by simp[binOp,Op.intCmp],.b _⟩
 case leq=>injection h with h;subst h;exact⟨_,by simp[binOp,Op.intCmp],.b _⟩
 case gtr=>injection h with h;subst h;exact⟨_,by simp[binOp,Op.intCmp],.b _⟩
 case geq=>injection h with h;subst h;exact⟨_,by simp[binOp,Op.intCmp],.b _⟩
 all_goals simp_all
theorem u5{op:BinOp}{k j:IntKind}{x y:Int}{t:TypeId}{r:PV}(hs:op=.shl\/op=.shr)(h:HX op k x y=some r)(w:World):
  ∃v,(binOp op t (.int k x) (.int j y)).run P w=.ok v w/\J05 s.w s.g.C r v:=by
 unfold HX at h;split at h;cases h;rename_i e;rcases hs with rfl|rfl;injection h with h;subst h;exact⟨_,by simp[binOp,Op.shift,e],.i _ _⟩;injection h with h;subst h;exact⟨_,by simp[binOp,Op.shift,e],.i _ _⟩
theorem JAT{op:BinOp}{x y:List UInt8}{t:TypeId}{r:PV}(h:wL op x y=some r)(w:World):
  ∃v,(binOp op t (.string ⟨x.toArray⟩) (.string ⟨y.toArray⟩)).run P w=.ok v w/\J05 s.w s.g.C r v:=by
 cases op<;>simp only[wL]at h
 case add=>
  split at h;rename_i e;injection h with h;subst h;refine⟨.string ⟨(x++y).toArray⟩,?_,.s _⟩;have h1: ¬(((ByteArray.size ⟨x.toArray⟩+ByteArray.size ⟨y.toArray⟩:Nat):Int)>IntKind.i64.max):=by rw[sH,sH];show¬(_>(9223372036854775807:Int));omega
  simp_all [binOp,Op.stringOp,JFZ];cases h
 case eql=>injection h with h;subst h;exact⟨.bool (x==y),by simp[binOp,Op.stringOp],.b _⟩
 case neq=>injection h with h;subst h;exact⟨.bool (!(x==y)),by simp[binOp,Op.stringOp],.b _⟩
 case lss=>injection h with h;subst h;exact⟨.bool (Op.bytesLess x y),by simp[binOp,Op.stringOp],.b _⟩
 case leq=>injection h with h;subst h;exact⟨.bool (Op.bytesLess x y||x==y),by simp[binOp,Op.stringOp],.b _⟩
 case gtr=>injection h with h;subst h;exact⟨.bool (!(Op.bytesLess x y||x==y)),by simp[binOp,Op.stringOp],.b _⟩
 case geq=>injection h with h;subst h;exact⟨.bool (!Op.bytesLess x y),by simp[binOp,Op.stringOp],.b _⟩
 all_goals cases h
end
end Go.Am
end
section
namespace Go.Am
section
variable {P:Program} {F:Orc} {s:Sn} {a:Act} {env:List (Nat×AV)} {o:Oper} {new:Nat} {e:Eff}
theorem Zo(hi:Inv s)(he:bM s a.tmps env){x}(h:(opR F (.mv x) new).run ⟨env,s.σ⟩=some e)(hc:JY P (.mv x) o.op=true):bO P o a s e:=by
 simp only[opR]at h;obtain⟨v,h1,h⟩:=bind_some h;simp only[RM.run]at h;injection h with h;subst h;unfold JY at hc;simp only at hc;split at hc;rename_i y g;exact JG hi (by simp_all [execOp]) (bH he h1 hc);rename_i y g;exact JG hi (by simp_all [execOp]) (bH he h1 hc);cases hc
theorem JJG(hi:Inv s)(he:bM s a.tmps env){c x y}(h:(opR F (.pick c x y) new).run ⟨env,s.σ⟩=some e)(hc:JY P (.pick c x y) o.op=true):bO P o a s e:=by
 simp only[opR]at h;obtain⟨v,h1,h⟩:=bind_some h;unfold JY at hc;simp only at hc;split at hc;rename_i c' k j n;simp only[JW]at hc;split at h;rename_i b;have q:=NP (bH he h1 hc.1.1);split at h;rename_i g;obtain⟨u,h2,h⟩:=bind_some h;simp only[RM.run]at h;injection h with h;subst h;exact JG hi (v:=a.eval k) (by simp_all [execOp,asBool]) (bH he h2 hc.1.2);rename_i g;obtain⟨u,h2,h⟩:=bind_some h;simp only[RM.run]at h;injection h with h;subst h;have g:b=false:=by simpa using g
 exact JG hi (v:=a.eval j) (by simp_all [execOp,asBool]) (bH he h2 hc.2);grind [RM.run];cases hc
theorem JFe(hi:Inv s)(he:bM s a.tmps env){x}(h:(opR F (.nilchk x) new).run ⟨env,s.σ⟩=some e)(hc:JY P (.nilchk x) o.op=true):bO P o a s e:=by
 simp only[opR]at h;obtain⟨v,h1,h⟩:=bind_some h;unfold JY at hc;simp only at hc;split at hc;rename_i y n;have g:=bH he h1 hc;split at h<;>(simp only[RM.run]at h;try cases h)
 refine JG hi (v:=a.eval y) ?_ g;generalize j:a.eval y=u at g;cases g;simp_all [execOp];refine JG hi (v:=a.eval y) ?_ g;generalize j:a.eval y=u at g;cases g;simp_all [execOp];refine JG hi (v:=a.eval y) ?_ g;generalize j:a.eval y=u at g;cases g with
 |ep _ _ _ _ _ _ _ _ k=>obtain⟨r,q,rfl⟩:=k;simp_all [execOp]
 refine JG hi (v:=a.eval y) ?_ g;generalize j:a.eval y=u at g;cases g;simp_all [execOp];cases hc
theorem KM{op:BinOp}{t:TypeId}{x y:Operand}{u v:Value}(h:(∀c,u≠.agg c)/\u≠.nilIface)(w:World):(eqGuard op t x y u v).run P w=.ok () w:=by simp_all [eqGuard]
theorem Hq(hi:Inv s)(he:bM s a.tmps env){op x y}(h:(opR F (.bin op .plain x y) new).run ⟨env,s.σ⟩=some e)(hc:JY P (.bin op .plain x y) o.op=true):bO P o a s e:=by
 simp only[opR]at h;obtain⟨u,h1,h⟩:=bind_some h;obtain⟨v,h2,h⟩:=bind_some h;obtain⟨r,g,rfl⟩:=fZ h;unfold JY at hc;simp only at hc;split at hc;rename_i M t B E ty L;simp only[JW,beq_iff_eq]at hc;obtain⟨⟨rfl,K⟩,J⟩:=hc;have C:=bH he h1 K;have D:=bH he h2 J;have j: ∀{z:Value},(∀c,a.eval B≠.agg c)/\a.eval B≠.nilIface->(binOp op t (a.eval B) (a.eval E)).run P s.w=.ok z s.w->(execOp a.eval o).run P s.w=.ok (.value z) s.w:=by simp_all [execOp,KM]
 simp only[mU]at g;split at g;rename_i N p O q;rw[iA C,iA D]at j;split at g;obtain⟨z,k,rfl⟩:=fW.1 g;obtain⟨v,A,n⟩:=u5 (s:=s) (P:=P) (t:=t) (.inl rfl) k s.w;exact JG hi (j (by simp) A) (.p _ _ n);obtain⟨z,k,rfl⟩:=fW.1 g;obtain⟨v,A,n⟩:=u5 (s:=s) (P:=P) (t:=t) (.inr rfl) k s.w;exact JG hi (j (by simp) A) (.p _ _ n);rename_i G H;split at g;rename_i I;subst I;obtain⟨z,k,rfl⟩:=fW.1 g;obtain⟨v,A,n⟩:=Gv (s:=s) (P:=P) (t:=t) (λe=>G e) (λe=>H e) k s.w;exact JG hi (j (by simp) A) (.p _ _ n);cases g;rw[rZ C,rZ D]at j;obtain⟨z,k,rfl⟩:=fW.1 g;obtain⟨v,A,n⟩:=JAT (s:=s) (P:=P) (t:=t) k s.w;exact JG hi (j (by simp) A) (.p _ _ n);cases g;cases hc
theorem JAp(hi:Inv s)(he:bM s a.tmps env){op x y}(h:(opR F (.bin op .bool x y) new).run ⟨env,s.σ⟩=some e)(hc:JY P (.bin op .bool x y) o.op=true):bO P o a s e:=by
 simp only[opR]at h;obtain⟨u,h1,k⟩:=bind_some h;obtain⟨v,h2,j⟩:=bind_some k;obtain⟨r,g,rfl⟩:=fZ j;clear h k j;unfold JY at hc;simp only at hc;split at hc
 ·rename_i C t G E ty B;simp only[JW,beq_iff_eq]at hc;obtain⟨⟨rfl,A⟩,z,ht⟩:=hc;have n:=bH he h1 A;have w:=bH he h2 z;have I:=Gu ht;simp only[mU]at g;split at g
  ·rename_i _ _ p q;have D:=NP n;have H:=NP w;cases op<;>simp only[iN]at g<;>first|(injection g with g;subst g)|cases g
   all_goals simp_all [JG,execOp,eqGuard,binOp,run_equal_bool,oU]
  cases g
 cases hc
theorem QA{op:BinOp}{t:TypeId}{u v:Value}{b:Bool}(ho:op=.eql\/op=.neq){w:World}(h:(Op.equal t u v).run P w=.ok b w)
  (hu:(∃x n c,u=.slice x n c)\/(∃p,u=.pointer p/\v=.pointer none)\/u=.nilFunc\/(∃f y c,u=.func f y c)):
  (binOp op t u v).run P w=.ok (.bool (if op=.eql then b else !b)) w:=by
 rcases ho with rfl|rfl;have:binOp .eql t u v=(do pure (.bool (<-Op.equal t u v))):=(by grind [binOp]);simp_all;have:binOp .neq t u v=(do pure (.bool (!(<-Op.equal t u v)))):=(by grind [binOp]);simp_all
theorem sN{op:BinOp}{b:Bool}{r:AV}(h:iN op (some b)=some r):(op=.eql\/op=.neq)/\r=.p (.b (if op=.eql then b else !b)):=by
 cases op<;>simp[iN]at h
 all_goals simp_all
theorem pu{op:BinOp}{r:AV}(h:FC op=some r):(op=.eql\/op=.neq)/\r=.unk:=by
 cases op<;>simp[FC]at h
 all_goals simp_all
theorem JBi(hi:Inv s)(he:bM s a.tmps env){op x y}(h:(opR F (.bin op .nils x y) new).run ⟨env,s.σ⟩=some e)(hc:JY P (.bin op .nils x y) o.op=true):bO P o a s e:=by
 simp only[opR]at h;obtain⟨u,h1,D⟩:=bind_some h;obtain⟨v,h2,B⟩:=bind_some D;obtain⟨r,g,rfl⟩:=fZ B;clear h D B h2;unfold JY at hc;simp only at hc;split at hc;rename_i L t A E ty K;simp only[JW,beq_iff_eq]at hc;obtain⟨⟨rfl,J⟩,ht⟩:=hc;have C:=bH he h1 J;clear h1;have H:E=.const (.slice none 0 0)/\ ∃el,P.underlying t=some (.slice el):=(by unfold A4 at ht;split at ht;obtain⟨el,M⟩:=iu.1 ht;simp_all [hI];cases ht);obtain⟨rfl,el,I⟩:=H;have go: ∀(z:Option Addr) (n c:Nat),a.eval A=.slice z n c->(op=.eql\/op=.neq)->
   (execOp a.eval o).run P s.w=.ok (.value (.bool (if op=.eql then z.isNone else !z.isNone))) s.w:=by
  intro z n c k j;have h1:=QA (P:=P) (t:=t) j (run_equal_slice_nil s.w t el z n c I) (.inl ⟨z,n,c,rfl⟩);simp_all [execOp,KM,Act.eval]
 simp only[mU]at g;split at g;rename_i esz rows;cases C with
 |p _ _ q=>
  split at g;obtain⟨j,rfl⟩:=pu g;generalize k:a.eval A=z at q;cases q with
  |sl0 _ ad cap=>exact JG hi (go _ _ _ k j) (.unk _)
  |sl _ _ r O cap vals=>exact JG hi (go _ _ _ k j) (.unk _)
  obtain⟨j,rfl⟩:=sN g;generalize k:a.eval A=z at q;cases q<;>simp_all [JG,oU]
 rename_i b i n;generalize k:a.eval A=z at C;cases C with
 |slr _ _ _ _ wm esz rows G=>
  obtain⟨ad,cap,rfl,Q⟩:=G;split at g;obtain⟨j,rfl⟩:=pu g;exact JG hi (go _ _ _ k j) (.unk _);rename_i N;obtain⟨j,rfl⟩:=sN g;have:ad.isNone=false:=by cases ad<;>simp_all
  grind [JG,oU]
 cases g;cases hc
theorem JAX(hi:Inv s)(he:bM s a.tmps env){op x y}(h:(opR F (.bin op .nilp x y) new).run ⟨env,s.σ⟩=some e)(hc:JY P (.bin op .nilp x y) o.op=true):bO P o a s e:=by
 simp only[opR]at h;obtain⟨u,h1,q⟩:=bind_some h;obtain⟨v,h2,n⟩:=bind_some q;obtain⟨r,g,rfl⟩:=fZ n;clear h q n h2;unfold JY at hc;simp only at hc;split at hc;rename_i H t A B ty G;simp only[JW,beq_iff_eq]at hc;obtain⟨⟨rfl,E⟩,ht⟩:=hc;have j:=bH he h1 E;clear h1;have D:B=.const (.pointer none)/\ ∃el,P.underlying t=some (.pointer el):=(by grind [Bn]);obtain⟨rfl,el,I⟩:=D;have go: ∀(z:Option Addr),a.eval A=.pointer z->(op=.eql\/op=.neq)->
   (execOp a.eval o).run P s.w=.ok (.value (.bool (if op=.eql then z.isNone else !z.isNone))) s.w:=by
  intro z C k;have:P.pointee t=el:=by grind [Program.pointee]
  simp_all [QA,run_equal_pointer_nil,execOp,KM,Act.eval]
 simp only[mU]at g;generalize C:a.eval A=z at j;split at g;obtain⟨k,rfl⟩:=sN g;grind [JJs,JG,oU];obtain⟨k,rfl⟩:=sN g;cases j;grind [JG,oU];obtain⟨k,rfl⟩:=sN g;cases j;grind [JG,oU];obtain⟨k,rfl⟩:=sN g;cases j<;>grind [JG,oU]
 cases g;cases hc
theorem JBf(hi:Inv s)(he:bM s a.tmps env){op x y}(h:(opR F (.bin op .nilf x y) new).run ⟨env,s.σ⟩=some e)(hc:JY P (.bin op .nilf x y) o.op=true):bO P o a s e:=by
 simp only[opR]at h;obtain⟨u,h1,q⟩:=bind_some h;obtain⟨v,h2,k⟩:=bind_some q;obtain⟨r,g,rfl⟩:=fZ k;clear h q k h2;unfold JY at hc;simp only at hc;split at hc;rename_i I t D C ty H;simp only[JW,beq_iff_eq]at hc;obtain⟨⟨rfl,G⟩,ht⟩:=hc;have n:=bH he h1 G;clear h1;have E:C=.const .nilFunc/\ ∃p r v,P.underlying t=some (.func p r v):=(by grind [zu]);obtain⟨rfl,p,J,vv,B⟩:=E;simp only[mU]at g;generalize K:a.eval D=z at n;split at g;obtain⟨A,rfl⟩:=sN g;have:=JKN n;subst this;have j:(Op.equal t .nilFunc .nilFunc).run P s.w=.ok true s.w:=by
  have: ∀d,(Op.equalIn (d+1) t .nilFunc .nilFunc).run P s.w=.ok true s.w:=λd=>by simp[Op.equalIn,run_underlying B]
  exact this 9999
 simp_all [QA,JG,oU,execOp,KM,Act.eval];obtain⟨A,rfl⟩:=sN g;cases n;rename_i f _ _ fs cs _ _ _ _;have j:(Op.equal t (.func (.func f) fs cs) .nilFunc).run P s.w=.ok false s.w:=by
  have: ∀d,(Op.equalIn (d+1) t (.func (.func f) fs cs) .nilFunc).run P s.w=.ok false s.w:=λd=>by simp[Op.equalIn,run_underlying B]
  exact this 9999
 have h1:=QA (P:=P) (t:=t) A j (.inr (.inr (.inr ⟨_,_,_,rfl⟩)));simp_all [JG,oU,execOp,KM,Act.eval];cases g;cases hc
end
end Go.Am
end
section
namespace Go.Am
theorem DL: ∀{vs:List Value} {w:World} {r o:Nat} {c:Array Value} {e:TypeId} {fz:Nat×Nat},w.heap[r]?=some (.cells c e fz)->o+vs.length<=c.size->
  Put r o vs w (w.setCells r o vs)
 |[],w,r,o,c,e,fz,h,n=>⟨⟨c,e,fz,c,h,h,rfl,n,λj v x=>by simp at x,λ_ _=>rfl⟩,λ_ _=>rfl,rfl,rfl,rfl⟩
 |v::vs,w,r,o,c,e,fz,h,n=>by
  have K:=vK h;have q:o+1+vs.length<=c.size:=by grind
  have h1:(w.setCell ⟨r,o,none⟩ v).heap[r]?=some (.cells (c.setIfInBounds o v) e fz):=(by grind [World.setCell]);obtain⟨⟨H,L,D,c',g,z,y,F,E,G⟩,J,M,B,A⟩:=DL (vs:=vs) (o:=o+1) h1 (by simpa using q);rw[h1]at g;injection g with g;injection g with a1 a2 a3;subst a1 a2 a3;refine⟨⟨c,e,fz,c',h,z,by simpa using y,n,λj u x=>?_,λk I=>?_⟩,λr' C=>?_,?_,B,A⟩;grind;grind;show((w.setCell ⟨r,o,none⟩ v).setCells r (o+1) vs).heap[r']?=_;grind [World.setCell];show((w.setCell ⟨r,o,none⟩ v).setCells r (o+1) vs).heap.size=_;simp_all
theorem J05.one{w C x v}(h:J05 w C x v):v.oneCell'=true:=by cases h<;>rfl
theorem J05.cells1{w C x v}(h:J05 w C x v):v.cells= #[v]:=by cases h<;>rfl
section
variable {P:Program} {F:Orc} {s:Sn} {a:Act} {env:List (Nat×AV)} {o:Oper} {new:Nat} {e:Eff}
theorem JN4(hi:Inv s)(he:bM s a.tmps env){op x}(h:(opR F (.un op x) new).run ⟨env,s.σ⟩=some e)(hc:JY P (.un op x) o.op=true):bO P o a s e:=by
 simp only[opR]at h;obtain⟨u,h1,q⟩:=bind_some h;obtain⟨r,g,rfl⟩:=fZ q;clear h q;unfold JY at hc;simp only at hc;split at hc;rename_i B t y A;simp only[JW,beq_iff_eq]at hc;obtain⟨rfl,w⟩:=hc;have j:=bH he h1 w;clear h1;generalize C:a.eval y=z at j;unfold unP at g;split at g<;>first|(injection g with g;subst g)|cases g
 rename_i k n;have:=iA j;simp_all [JG,execOp,Op.unary,Op.intArith,sC];rename_i k n;have:=iA j;simp_all [JG,execOp,Op.unary,Op.intBits,sC];rename_i b;have:=NP j;simp_all [JG,execOp,Op.unary,oU];cases j with
 |unk b=>exact JG hi (v:=.bool (!b)) (by simp_all [execOp,Op.unary]) (.unk _)
 cases hc
theorem JHq(hi:Inv s)(he:bM s a.tmps env){off x}(h:(opR F (.faddr off x) new).run ⟨env,s.σ⟩=some e)(hc:JY P (.faddr off x) o.op=true):bO P o a s e:=by
 simp only[opR]at h;obtain⟨u,h1,C⟩:=bind_some h;obtain⟨r,j,rfl⟩:=fZ C;clear h C;unfold JY at hc;simp only at hc;split at hc;rename_i t y f H;simp only[JW]at hc;obtain⟨G,ht⟩:=hc;have q:=bH he h1 G;clear h1;have E: ∃fs k n,P.underlying t=some (.struct fs)/\fs[f]?=some k/\k.offset=off/\szT P k.type=some n/\n≠0:=(by grind [ox]);obtain⟨fs,k,n,M,I,rfl,N,J⟩:=E;have go: ∀(r g:Nat),a.eval y=.pointer (some ⟨r,g,none⟩)->(execOp a.eval o).run P s.w=.ok (.value (.pointer (some ⟨r,g+k.offset,none⟩))) s.w:=by simp_all [Addr.add,execOp,Instr.fieldAt,run_underlying,Instr.sureAddr,fieldPlace,gN]
 generalize B:a.eval y=z at q;unfold HC at j;split at j<;>first|(injection j with j;subst j)|cases j
 cases q with
 |ptr _ _ r g m D=>exact JG hi (go _ _ B) (by rw[rD];exact .ptr _ _ r g m D)
 cases q with
 |cp cs _ r g vals A v=>exact JG hi (go _ _ B) (by rw[rD];exact .cp _ _ r g vals A v)
 cases q with
 |ep _ _ _ _ _ wm esz rows p0 A v K=>
  obtain⟨r,g,rfl⟩:=p0;refine JG hi (go _ _ B) (.ep _ _ _ _ _ wm esz rows ⟨_,_,rfl⟩ A v λO L=>?_);grind
 cases hc
theorem JKr(hi:Inv s)(he:bM s a.tmps env){x i}(h:(opR F (.extr x i) new).run ⟨env,s.σ⟩=some e)(hc:JY P (.extr x i) o.op=true):bO P o a s e:=by
 simp only[opR]at h;obtain⟨u,h1,n⟩:=bind_some h;obtain⟨r,g,rfl⟩:=fZ n;clear h n;unfold JY at hc;simp only at hc;split at hc;rename_i y j k;simp only[JW,beq_iff_eq]at hc;obtain⟨C,rfl⟩:=hc;have q:=bH he h1 C;generalize B:a.eval y=z at q;unfold MT at g;split at g;cases q with
 |tup cs vs E A=>
  have D:=Jn g;have w:vs[i]?=some vs[i]:=by simp
  exact JG hi (v:=vs[i]) (by simp[execOp,k,B,Instr.extract,w]) (A i r _ g w)
 cases g;cases hc
theorem Zj(hi:Inv s)(he:bM s a.tmps env){mx x y}(h:(opR F (.mm mx x y) new).run ⟨env,s.σ⟩=some e)(hc:JY P (.mm mx x y) o.op=true):bO P o a s e:=by
 simp only[opR]at h;obtain⟨u,h1,w⟩:=bind_some h;obtain⟨v,h2,n⟩:=bind_some w;obtain⟨r,g,rfl⟩:=fZ n;clear h w n;unfold JY at hc;simp only at hc;split at hc;rename_i c E;split at hc;rename_i b B;simp only[JW,beq_iff_eq]at hc;obtain⟨J,hc⟩:=hc;split at hc;rename_i A z j;simp only[JW]at hc;have C:=bH he h1 hc.1;have D:=bH he h2 hc.2;have K:c.args.map a.eval= #[a.eval A,a.eval z]:=by apply EQ;simp[j]
 unfold mmP at g;split at g;rename_i k p H q;injection g with g;subst g;have G:=iA C;have I:=iA D;cases mx;simp_all [JG,sC,execOp,resolve,invoke,builtin,Builtin.min_,Builtin.min2];simp_all [JG,sC,execOp,resolve,invoke,builtin,Builtin.max_,Builtin.max2];cases g;cases hc;cases hc;cases hc
theorem JL7(hi:Inv s)(he:bM s a.tmps env){str x}(h:(opR F (.len str x) new).run ⟨env,s.σ⟩=some e)(hc:JY P (.len str x) o.op=true):bO P o a s e:=by
 simp only[opR]at h;obtain⟨u,h1,E⟩:=bind_some h;obtain⟨r,g,rfl⟩:=fZ E;clear h E;unfold JY at hc;simp only at hc;split at hc;rename_i c v;split at hc;rename_i k;split at hc;rename_i y t q B;simp only[JW]at hc;obtain⟨K,ht⟩:=hc;have C:=bH he h1 K;have I:c.args.map a.eval= #[a.eval y]:=by apply EQ;simp[q]
 have A:c.argTypes[0]?=some t:=by rw[<-AJ,B];rfl
 generalize H:a.eval y=z at C;have M: ∀l:List UInt8,z=.string ⟨l.toArray⟩->iS P t=true->(execOp a.eval o).run P s.w=.ok (.value (.int .i64 l.length)) s.w:=by intro l D j;have:=vC j;simp[execOp,v,resolve,k,I,H,D,invoke,builtin,Builtin.len_,A,run_underlying this,goInt,sH]
 have L: ∀ad n cp,z=.slice ad n cp->(elT P t).isSome=true->(execOp a.eval o).run P s.w=.ok (.value (.int .i64 n)) s.w:=by intro ad n cp D j;obtain⟨el,G⟩:=iu.1 j;have:=hI G;simp[execOp,v,resolve,k,I,H,D,invoke,builtin,Builtin.len_,A,run_underlying this,goInt]
 unfold GA at g;split at g<;>first|(injection g with g;subst g)|cases g
 grind [JG,rZ,sC];cases C with
 |p _ _ J=>cases J<;>simp_all [JG,sC]
 cases C<;>grind [JG,sC]
 cases hc;cases hc;cases hc
end
end Go.Am
end
section
namespace Go.Am
section
variable {P:Program} {F:Orc} {s:Sn} {a:Act} {env:List (Nat×AV)} {o:Oper} {new:Nat} {e:Eff}
theorem jO.of_p{s:Sn}{esz rows v}(h:JA s (.p (.sl esz rows)) v):jO s esz rows v:=by
 grind [of_sl,cases Go.Am.JA]
theorem qv(hi:Inv s){esz:Nat}{x:AV}{rows:List (List PV)}{v:Value}(h:(eY esz x).run ⟨env,s.σ⟩=some rows)(hr:JA s x v):
  (∃l,x=.p (.s l)/\esz=1/\rows=l.map lY/\v=.string ⟨l.toArray⟩)\/jO s esz rows v:=by
 unfold eY at h;split at h;split at h;rename_i e;subst e;simp only[RM.run]at h;injection h with h;subst h;exact .inr (.of_p hr);cases h;grind [RM.run,rZ];simp only[RM.run]at h;split at h;rename_i blk g;split at h;split at h;rename_i hc;obtain⟨rfl,hc⟩:=hc;simp only[RM.run]at h;injection h with h;subst h;exact .inr (.of_slr hi hr g hc);cases h;cases h;cases h;cases h
theorem ZZ{α:Type}{esz:Nat}: ∀{rows:List (List α)},(∀row∈rows,row.length=esz)-> ∀{k:Nat} {x:α},rows.flatten[k]?=some x->
  ∃i j row,k=i*esz+j/\rows[i]?=some row/\row[j]?=some x/\j<esz
 |[],_,k,x,h=>by simp at h
 |r::rows,g,k,x,h=>by
  simp only[pS]at h;have y:r.length=esz:=g r (by simp);rcases List.getElem?_append (l₁:=r) (l₂:=rows.flatten) (i:=k)▸h with e;split at e;exact⟨0,k,r,by simp,rfl,e,by omega⟩;obtain⟨i,j,row,w,v,q,n⟩:=ZZ (λrow o=>g row (by simp[o])) e;exact⟨i+1,j,row,by grind,by simpa using v,q,n⟩
theorem OW{α:Type}{esz:Nat}: ∀{rows:List (List α)},(∀row∈rows,row.length=esz)->rows.flatten.length=rows.length*esz
 |[],_=>by simp
 |r::rows,g=>by
  have:=OW (rows:=rows) (λrow e=>g row (by simp[e]));grind
theorem jO.cells{s:Sn}{esz rows v}(h:jO s esz rows v):
  ∃(a:Option Addr) (cap:Nat) (vs:List Value),v=.slice a rows.length cap/\rows.length<=cap/\vs.length=rows.length*esz/\
   (∀(k:Nat) x,rows.flatten[k]?=some x-> ∃u,vs[k]?=some u/\J05 s.w s.g.C x u)/\
   (rows=[]\/ ∃r o,a=some ⟨r,o,none⟩/\ ∀(k:Nat) u,vs[k]?=some u->cellAt s.w r (o+k)=some u)/\(∀row∈rows,row.length=esz):=by
 obtain⟨a,cap,h1,h2,q,y⟩:=h;rcases y with rfl|⟨r,o,D,E⟩;simp_all;refine⟨a,cap,(List.range (rows.length*esz)).map λk=>(cellAt s.w r (o+k)).getD .nilFunc,h1,h2,by simp,λk x e=>?_,.inr ⟨r,o,D,λk u e=>?_⟩,q⟩;obtain⟨i,j,row,A,z,B,_⟩:=ZZ q e;grind [OW];have n:=Jn e;simp at n;rw[fB,List.getElem?_range n]at e;simp at e;have:k<rows.flatten.length:=by grind [OW]
 obtain⟨i,j,row,A,z,B,_⟩:=ZZ q (JV this);grind
theorem sy: ∀{rows:List (List PV)} {l:List UInt8},sI rows=some l-> ∃e:List Int,rows=e.map (λn=>[PV.i .u8 n])/\l=e.map λn=>UInt8.ofNat n.toNat
 |[],l,h=>by simp_all [sI]
 |row::rows,l,h=>by
  unfold sI at h;split at h;simp_all;rename_i n r j;injection j with e1 e2;subst e1 e2;split at h;rename_i k g;injection h with h;subst h;obtain⟨e,h1,h2⟩:=sy g;exact⟨n::e,by simp[h1],by simp[h2]⟩;cases h;cases h
theorem JD5(e:List Int): ∀b:ByteArray,(e.foldl (λr n=>r.push (UInt8.ofNat n.toNat)) b)=⟨b.data++(e.map λn=>UInt8.ofNat n.toNat).toArray⟩:=by
 induction e with
 |nil=>intro b;simp
 |cons n e ih=>simp_all
theorem yE(r o n:Nat):Addr.add ⟨r,o,none⟩ n=⟨r,o+n,none⟩:=by simp[Addr.add]
theorem qb{w:World}{r o:Nat}(vs:List Value)(h: ∀(k:Nat) u,vs[k]?=some u->cellAt w r (o+k)=some u):
  (loadCells ⟨r,o,none⟩ vs.length).run P w=.ok vs.toArray w:=
 run_loadCells_list w _ vs λj v e=>by grind [yE,nK]
theorem JKj(hi:Inv s)(he:bM s a.tmps env){k x}(hk: ∀own,k≠.toBytes own)(h:(opR F (.conv k x) new).run ⟨env,s.σ⟩=some e)(hc:JY P (.conv k x) o.op=true):bO P o a s e:=by
 simp only[opR]at h;obtain⟨u,h1,g⟩:=bind_some h;clear h;unfold JY at hc;simp only at hc;split at hc;rename_i a0 dst y I;simp only[JW]at hc;obtain⟨Y,ht⟩:=hc;have q:=bH he h1 Y;generalize W:a.eval y=z at q;split at g;rename_i k' k1 n;simp only[RM.run]at g;injection g with g;subst g;simp only[JW]at ht;obtain⟨ks,G⟩:=JFG ht.1;have hd:=JER ht.2;have:=iA q;simp_all [JG,execOp,convert,run_underlying,Conv.intToInt,sC];rename_i l;simp only[RM.run]at g;injection g with g;subst g;simp only[JW]at ht;have G:=vC ht.1;have hd:=vC ht.2;have:=rZ q;simp_all [JG,execOp,convert,run_underlying];simp only[JW]at ht;obtain⟨ht,hd⟩:=ht;have hd:=vC hd;split at ht;rename_i el K;simp only[JW,beq_iff_eq]at ht;have G:=hI K;have L:=pb ht.1;obtain⟨rows,N,A⟩:=bind_some g;clear g;split at A;rename_i l O;simp only[RM.run]at A;injection A with A;subst A;rcases qv hi N q with⟨V,rfl,_,R,H⟩|J
 
 have:=rZ q;subst this;have:l=V:=by
  have: ∀l:List UInt8,sI (l.map lY)=some l:=by
   intro l
   induction l with
   |nil=>rfl
   |cons b l ih=>simp[sI,lY,ih]
  simp_all
 simp_all [JG,execOp,convert,run_underlying];obtain⟨ad,cap,vs,H,C,hlen,hrel,B,E⟩:=J.cells;obtain⟨j,Q,rfl⟩:=sy O;have hvs:vs=j.map (Value.int .u8):=by
  apply zQ6;intro k;have Z:rows.flatten=j.map (PV.i .u8):=by rw[Q];clear Q O hrel hlen E B H C N q;induction j with|nil=>rfl|cons n j ih=>simp[ih]
  by_cases hk:k<j.length;obtain⟨u,hu,hp⟩:=hrel k (.i .u8 j[k]) (by simp_all);grind [cases Go.Am.J05];simp_all
 have S:rows.length=vs.length:=by omega
 subst H;have D:(Conv.bytesToString (.slice ad rows.length cap)).run P s.w=.ok (.string ⟨(j.map λn=>UInt8.ofNat n.toNat).toArray⟩) s.w:=by
  rcases B with T|⟨r,U,rfl,hm⟩;have M:j=[]:=by simp_all
  subst M;cases ad with
  |none=>simp[Conv.bytesToString];rfl
  |some ad=>have:=run_bytesToString (P:=P) s.w ad rows.length cap [] (by simp_all [loadCells,loadCellsFrom]);rw[this];rfl
  have:=run_bytesToString (P:=P) s.w ⟨r,U,none⟩ rows.length cap j (by grind [qb]);simp_all [JD5]
 refine JG hi (v:=.string ⟨(j.map λn=>UInt8.ofNat n.toNat).toArray⟩) ?_ (Ep _);simp[execOp,I,W,convert,run_underlying G,run_underlying hd,run_underlying L,D];cases A;cases ht;simp_all;cases g;cases hc
end
end Go.Am
end
section
namespace Go.Am
theorem IG{α:Type}{cs l:List α}{off size:Nat}(h:sub cs off size=some l):l.length=size/\off+size<=cs.length/\ ∀(i:Nat),i<size->l[i]?=cs[off+i]?:=by
 grind [sub]
theorem PF: ∀{cs:List AV} {l:List PV},unp cs=some l->cs=l.map .p
 |[],l,h=>by grind [unp]
 |x::cs,l,h=>by
  unfold unp at h;split at h;simp_all;rename_i c r e;injection e with e1 e2;subst e1 e2;split at h;rename_i j g;injection h with h;subst h;simp[PF g];cases h;cases h
section
variable {P:Program} {F:Orc} {s:Sn} {a:Act} {env:List (Nat×AV)} {o:Oper} {new:Nat} {e:Eff}
theorem YQ{agg:Bool}{l:List PV}{x:AV}{vs:List Value}(h:nL agg l=some x)(hl:l.length=vs.length)
  (hr: ∀(i:Nat) y v,l[i]?=some y->vs[i]?=some v->J05 s.w s.g.C y v):
  (agg=true/\JA s x (.agg vs.toArray))\/(agg=false/\ ∃v,vs=[v]/\JA s x v):=by
 cases agg with
 |true=>simp[nL]at h;subst h;exact .inl ⟨rfl,.data _ _ (by simpa using hl) λi y v j e=>hr i y v j (by simpa using e)⟩
 |false=>
  simp only[nL,dU,if_false]at h;split at h;injection h with h;subst h;obtain⟨v,rfl⟩: ∃v,vs=[v]:=AY.1 (by simp_all);exact .inr ⟨rfl,v,rfl,.p _ _ (hr 0 _ v rfl rfl)⟩;cases h
theorem NL{agg:Bool}{l:List AV}{x:AV}{vs:List Value}(h:jZ agg l=some x)(hl:l.length=vs.length)(h1: ∀v∈vs,v.oneCell'=true)
  (hr: ∀(i:Nat) y v,l[i]?=some y->vs[i]?=some v->JA s y v):
  (agg=true/\JA s x (.agg vs.toArray))\/(agg=false/\ ∃v,vs=[v]/\JA s x v):=by
 cases agg with
 |true=>
  simp only[jZ,if_true]at h;split at h;rename_i q j;injection h with h;subst h;have:=PF j;subst this;refine .inl ⟨rfl,.data _ _ (by simpa using hl) λi y v g e=>?_⟩;have:=hr i (.p y) v (by simp[g]) (by simpa using e);cases this<;>simp_all
  injection h with h;subst h;exact .inl ⟨rfl,.agg _ _ (by simpa using hl) (λi v e=>h1 v (by grind)) λi y v g e=>hr i y v g (by simpa using e)⟩
 |false=>
  simp only[jZ,dU,if_false]at h;split at h;injection h with h;subst h;obtain⟨v,rfl⟩: ∃v,vs=[v]:=AY.1 (by simp_all);exact .inr ⟨rfl,v,rfl,hr 0 _ v rfl rfl⟩;cases h
theorem pj{agg:Bool}{off size:Nat}{x r:AV}{v:Value}{t:TypeId}(h:qB agg off size x=some r)(hr:JA s x v)(ht:agT P t=some agg)(hs:szT P t=some size)
  (h1:agg=true\/size=1): ∃cs u,v=.agg cs/\(part t cs off).run P s.w=.ok u s.w/\JA s r u:=by
 have go: ∀(cs:Array Value) (vs:List Value),vs.length=size->(∀(i:Nat),i<size->vs[i]?=cs[off+i]?)->off+size<=cs.size->
   ((agg=true/\JA s r (.agg vs.toArray))\/(agg=false/\ ∃v,vs=[v]/\JA s r v))-> ∃u,(part t cs off).run P s.w=.ok u s.w/\JA s r u:=by
  intro cs vs j n C e;rcases e with⟨rfl,g⟩|⟨rfl,v,rfl,g⟩;refine⟨.agg (cs.extract off (off+size)),by simp_all [part,CS,gN],?_⟩;have:cs.extract off (off+size)=vs.toArray:=(by grind);simp_all;simp at j;subst j;have o:=n 0 (by omega);simp at o;exact⟨v,by simp[part,CS ht,<-o],g⟩
 unfold qB at h;split at h;rename_i cs;split at h;rename_i l k;obtain⟨q,z,y⟩:=IG k;cases hr with
 |data _ vs A B=>
  have e:=YQ (s:=s) (vs:=((vs.toList.drop off).take size)) h (by simp;omega) (by
   grind)
  grind
 cases h;rename_i cs;split at h;rename_i l k;obtain⟨q,z,y⟩:=IG k;cases hr with
 |agg _ vs A D B=>
  have e:=NL (s:=s) (vs:=((vs.toList.drop off).take size)) h (by simp;omega) (by
   grind [List.getElem?_of_mem]) (by
   grind)
  grind
 cases h;cases h
theorem JHB(hi:Inv s)(he:bM s a.tmps env){agg off size x}(h:(opR F (.field agg off size x) new).run ⟨env,s.σ⟩=some e)(hc:JY P (.field agg off size x) o.op=true):bO P o a s e:=by
 simp only[opR]at h;obtain⟨u,h1,g⟩:=bind_some h;obtain⟨r,w,rfl⟩:=fZ g;clear h g;unfold JY at hc;simp only at hc;split at hc;rename_i t y f A;simp only[JW]at hc;obtain⟨z,ht⟩:=hc;split at ht;rename_i fs B;split at ht;rename_i D C;simp only[JW,beq_iff_eq]at ht;obtain⟨⟨⟨E,n⟩,k⟩,j⟩:=ht;obtain⟨cs,v,H,G,q⟩:=pj w (bH he h1 z) k n (by simpa using j);exact JG hi (v:=v) (by simp_all [execOp,Instr.field,run_underlying,ox,asAgg]) q;cases ht;cases ht;cases hc
theorem JJM(hi:Inv s)(he:bM s a.tmps env){x i}(h:(opR F (.sidx x i) new).run ⟨env,s.σ⟩=some e)(hc:JY P (.sidx x i) o.op=true):bO P o a s e:=by
 simp only[opR]at h;obtain⟨u,h1,w⟩:=bind_some h;obtain⟨v,h2,g⟩:=bind_some w;clear h w;unfold JY at hc;simp only at hc;split at hc;rename_i t y j D;simp only[JW]at hc;obtain⟨⟨B,C⟩,ht⟩:=hc;have z:=bH he h1 B;have A:=bH he h2 C;split at g;rename_i l k n;split at g;rename_i I;split at g;rename_i b q;simp only[RM.run]at g;injection g with g;subst g;have G:=rZ z;have H:=iA A;have E:(⟨l.toArray⟩:ByteArray)[n.toNat]?=some b:=by have r:=Jn q;rw[JV r]at q;rw[getElem?_pos _ _ (by grind [sH])];injection q with q;rw[<-q];rfl
 refine JG hi (v:=.int .u8 b.toNat) ?_ (sC _ _);simp_all [execOp,Instr.index,asIntOf,run_underlying,vC];cases g;cases g;cases g;cases hc
theorem JKl(hi:Inv s)(he:bM s a.tmps env){agg len esz x i}(h:(opR F (.aidx agg len esz x i) new).run ⟨env,s.σ⟩=some e)(hc:JY P (.aidx agg len esz x i) o.op=true):bO P o a s e:=by
 simp only[opR]at h;obtain⟨u,h1,A⟩:=bind_some h;obtain⟨v,h2,g⟩:=bind_some A;clear h A;unfold JY at hc;simp only at hc;split at hc;rename_i t y j q;simp only[JW]at hc;obtain⟨⟨L,N⟩,ht⟩:=hc;have E:=bH he h1 L;have G:=bH he h2 N;split at ht;rename_i n el z;simp only[JW,beq_iff_eq]at ht;obtain⟨⟨⟨rfl,B⟩,H⟩,C⟩:=ht;split at g;rename_i k m;split at g;rename_i M;obtain⟨r,K,rfl⟩:=fZ g;obtain⟨cs,w,O,I,J⟩:=pj K E H B (by simpa using C);have D:=iA G;exact JG hi (v:=w) (by simp[execOp,q,O,D,Instr.index,asIntOf,run_underlying (n4 z),M,gN B,I]) J;cases g;cases g;cases ht;cases hc
theorem JIB(hi:Inv s)(he:bM s a.tmps env){len esz x i}(h:(opR F (.aaddr len esz x i) new).run ⟨env,s.σ⟩=some e)(hc:JY P (.aaddr len esz x i) o.op=true):bO P o a s e:=by
 simp only[opR]at h;obtain⟨u,h1,J⟩:=bind_some h;obtain⟨v,h2,C⟩:=bind_some J;obtain⟨r,g,rfl⟩:=fZ C;clear h J C;unfold JY at hc;simp only at hc;split at hc;rename_i t y j H;simp only[JW]at hc;obtain⟨⟨Q,S⟩,ht⟩:=hc;have B:=bH he h1 Q;have M:=bH he h2 S;split at ht;rename_i n el I;simp only[JW,beq_iff_eq]at ht;obtain⟨rfl,O⟩:=ht;unfold HK at g;split at g;rename_i k m;split at g;rename_i R;have K:=iA M;have go: ∀(r q:Nat),a.eval y=.pointer (some ⟨r,q,none⟩)->(execOp a.eval o).run P s.w=.ok (.value (.pointer (some ⟨r,q+m.toNat*esz,none⟩))) s.w:=by intro r q A;simp[execOp,H,A,K,Instr.indexAt,asIntOf,run_underlying (n4 I),Instr.sureAddr,R,gN O,yE]
 generalize A:a.eval y=z at B;split at g<;>first|(injection g with g;subst g)|cases g
 cases B with
 |ptr _ _ r q L N=>exact JG hi (go _ _ A) (by rw[rD];exact .ptr _ _ r q L N)
 cases B with
 |cp cs _ r q vals G D=>exact JG hi (go _ _ A) (by rw[rD];exact .cp _ _ r q vals G D)
 cases B with
 |ep _ _ _ _ _ wm E rows p0 G D T=>
  obtain⟨r,q,rfl⟩:=p0;refine JG hi (go _ _ A) (.ep _ _ _ _ _ wm E rows ⟨_,_,rfl⟩ G D λV U=>?_);grind
 cases g;cases g;cases ht;cases hc
theorem JId(hi:Inv s)(he:bM s a.tmps env){esz x i}(h:(opR F (.iaddr esz x i) new).run ⟨env,s.σ⟩=some e)(hc:JY P (.iaddr esz x i) o.op=true):bO P o a s e:=by
 simp only[opR]at h;obtain⟨u,h1,N⟩:=bind_some h;obtain⟨v,h2,g⟩:=bind_some N;clear h N;unfold JY at hc;simp only at hc;split at hc;rename_i t y j M;simp only[JW]at hc;obtain⟨⟨E,hj⟩,ht⟩:=hc;have G:=bH he h1 E;have S:=bH he h2 hj;split at ht;rename_i el O;simp only[beq_iff_eq]at ht;have go: ∀(r A len cap:Nat) k (m:Int),a.eval j=.int k m->a.eval y=.slice (some ⟨r,A,none⟩) len cap->0<=m->m<len->
   (execOp a.eval o).run P s.w=.ok (.value (.pointer (some ⟨r,A+m.toNat*esz,none⟩))) s.w:=by
  intro r A len cap k m C D Z I;simp[execOp,M,D,C,Instr.indexAt,asIntOf,run_underlying (hI O),Z,I,gN ht,yE]
 unfold lX at g;split at g;rename_i B rows k n;split at g;rename_i Q;subst Q;split at g;rename_i row q;simp only[RM.run]at g;injection g with g;subst g;unfold ME at q;split at q;rename_i L;have C:=iA S;generalize D:a.eval y=z at G;cases G with
 |p _ _ V=>
  cases V with
  |sl0 _ ad cap=>simp at q
  |sl _ _ r A cap vals p1 p2 T U=>have I:=Jn q;refine JG hi (go r A _ cap k n C D L (by omega)) ?_;have:=JA.cp (s:=s) row 0 r (A+n.toNat*esz) (λj=>vals n.toNat j) (λj x E=>T n.toNat j row x q E) (λj x E=>U n.toNat j row x q E);simp_all
 cases q;cases g;cases g;rename_i b j' m k n;simp only[RM.run]at g;split at g;rename_i blk hb;split at g;rename_i wm B rows;split at g;rename_i K;obtain⟨rfl,R,L,a8⟩:=K;simp only[RM.run]at g;injection g with g;subst g;have C:=iA S;generalize D:a.eval y=z at G;cases G with
 |slr _ _ _ _ wm' B rows' q0 H q2 q3=>
  have J:s.σ[b]?=some (.arr wm esz rows):=hb;rw[J]at H;injection H with H;injection H with a1 a2 a3;subst a1 a2 a3;rcases q3 R with⟨_,_,a7,_⟩|⟨r,cap,c,e1,fz,Y,hv,W,hh,hs⟩;omega;subst hv;refine JG hi (go r _ _ cap k n C D L (by omega)) (.ep _ _ _ _ _ wm esz rows ⟨_,_,rfl⟩ J (zQ0 _) λ_ _=>⟨r,Y,?_⟩);grind
 cases g;cases g;cases g;cases g;cases ht;cases hc
end
end Go.Am
end
section
namespace Go.Am
theorem eM(a b:List (Nat×Blk))(σ:List Blk):upd (a++b) σ=upd b (upd a σ):=by simp[upd]
section
variable {P:Program} {F:Orc} {s:Sn} {a:Act} {env:List (Nat×AV)} {o:Oper} {new:Nat} {e:Eff}
theorem KC{e:List Blk}(hi:Inv s)(j:Frz e s.σ){b i n:Nat}{y:List PV×List (Nat×Blk)}{v:Value}(h:(fz (.slr b i n)).run ⟨env,e⟩=some y)(hr:JA s (.slr b i n) v):
  ∃g',Inv ⟨upd y.2 s.σ,g',s.w⟩/\aW s ⟨upd y.2 s.σ,g',s.w⟩/\Frz s.σ (upd y.2 s.σ)/\ ∃c,y.1=[c]/\J05 s.w g'.C c v:=by
 simp only[fz,RM.run]at h;split at h;rename_i blk k;split at h;rename_i wm esz rows;split at h;rename_i hc;simp only[RM.run]at h;injection h with h;subst h;obtain⟨wm',g⟩:=j.1 b _ _ _ k;obtain⟨g',h1,h2,q,o⟩:=pk hi hr g hc;exact⟨g',h1,h2,q,_,rfl,o⟩;cases h;cases h;cases h
theorem JJy{e:List Blk}(hi:Inv s)(j:Frz e s.σ){x:AV}{y:List PV×List (Nat×Blk)}{v:Value}(h:(fz.fz1 x).run ⟨env,e⟩=some y)(hr:JA s x v):
  ∃g',Inv ⟨upd y.2 s.σ,g',s.w⟩/\aW s ⟨upd y.2 s.σ,g',s.w⟩/\Frz s.σ (upd y.2 s.σ)/\ ∃c,y.1=[c]/\J05 s.w g'.C c v:=by
 cases x with
 |p c=>
  simp only[fz.fz1,RM.run]at h;injection h with h;subst h;cases hr with
  |p _ _ hr=>exact⟨s.g,hi,.refl s,.refl _,c,rfl,hr⟩
 |slr b i n=>exact KC hi j (by exact h) hr
 |_=>grind [fz.fz1,RM.run]
theorem Ed{A:List Blk}: ∀{xs:List AV} {s:Sn} {y:List PV×List (Nat×Blk)} {vs:List Value},Inv s->Frz A s.σ->(fz.fzL xs).run ⟨env,A⟩=some y->xs.length=vs.length->
  (∀(i:Nat) x v,xs[i]?=some x->vs[i]?=some v->JA s x v)->
  ∃g',Inv ⟨upd y.2 s.σ,g',s.w⟩/\aW s ⟨upd y.2 s.σ,g',s.w⟩/\Frz s.σ (upd y.2 s.σ)/\y.1.length=vs.length/\
   ∀(i:Nat) c v,y.1[i]?=some c->vs[i]?=some v->J05 s.w g'.C c v
 |[],s,y,vs,hi,j,h,e,k=>by
  simp only[fz.fzL,RM.run]at h;injection h with h;subst h;exact⟨s.g,hi,.refl s,.refl _,by simpa using e,λi c v hc=>by simp at hc⟩
 |x::xs,s,y,[],hi,j,h,e,k=>by simp at e
 |x::xs,s,y,v::vs,hi,j,h,e,k=>by
  simp only[fz.fzL]at h;obtain⟨o,h1,h⟩:=bind_some h;obtain⟨H,h2,h⟩:=bind_some h;simp only[RM.run]at h;injection h with h;subst h;obtain⟨D,i1,z,r,c,hc,G⟩:=JJy hi j h1 (k 0 x v rfl rfl);obtain⟨B,i2,q,E,F,L⟩:=Ed (s:=⟨upd o.2 s.σ,D,s.w⟩) i1 (j.trans r) h2 (by simpa using e) λi x v I J=>(k (i+1) x v (by simpa using I) (by simpa using J)).mono hi z;refine⟨B,by grind [eM],by rw[eM];exact z.trans q,by rw[eM];exact r.trans E,by simp[hc,F],λi c' K hc' n=>?_⟩;rw[hc]at hc';cases i with
  |zero=>simp at hc' n;subst hc' n;exact J05.mono (s0:=⟨upd o.2 s.σ,D,s.w⟩) (s:=⟨upd H.2 (upd o.2 s.σ),B,s.w⟩) i1 q G
  |succ i=>grind
theorem XZ{k:List Blk}(hi:Inv s)(j:Frz k s.σ){x:AV}{y:List PV×List (Nat×Blk)}{v:Value}(h:(fz x).run ⟨env,k⟩=some y)(hr:JA s x v):
  ∃g',Inv ⟨upd y.2 s.σ,g',s.w⟩/\aW s ⟨upd y.2 s.σ,g',s.w⟩/\Frz s.σ (upd y.2 s.σ)/\y.1.length=v.cells.size/\
   ∀(i:Nat) c u,y.1[i]?=some c->v.cells[i]?=some u->J05 s.w g'.C c u:=by
 cases x with
 |p c=>
  simp only[fz,RM.run]at h;injection h with h;subst h;cases hr with
  |p _ _ hr=>
   refine⟨s.g,hi,.refl s,.refl _,by rw[hr.cells1];rfl,λi c' u hc e=>?_⟩;rw[hr.cells1]at e;grind
 |data cs=>
  simp only[fz,RM.run]at h;injection h with h;subst h;cases hr with
  |data _ vs h1 h2=>exact⟨s.g,hi,.refl s,.refl _,h1,λi c u hc e=>h2 i c u hc e⟩
 |slr b i n=>
  obtain⟨g',h1,h2,q,c,hc,o⟩:=KC hi j h hr;refine⟨g',h1,h2,q,by rw[hc,o.cells1];rfl,λi c' u hc' e=>?_⟩;rw[o.cells1]at e;grind
 |agg cs=>
  simp only[fz]at h;cases hr with
  |agg _ vs h1 G h2=>
   obtain⟨g',A,E,B,F,D⟩:=Ed (vs:=vs.toList) hi j h (by simpa using h1) λi x v r z=>h2 i x v r (by simpa using z);grind [Value.cells]
 |_=>grind [fz,RM.run]
theorem CP(he:bM s a.tmps env){x:Option Opd}{y:Option Operand}{v:Option AV}(h:(evo x).run ⟨env,s.σ⟩=some v)(hc:uK x y=true):
  (v=none/\y=none)\/ ∃u q,v=some u/\y=some q/\JA s u (a.eval q):=by
 cases x with
 |none=>
  grind [evo,RM.run,uK]
 |some x=>
  cases y with
  |none=>grind [uK]
  |some y=>
   simp only[evo]at h;obtain⟨u,h1,h⟩:=bind_some h;simp only[RM.run]at h;injection h with h;subst h;exact .inr ⟨u,y,rfl,rfl,bH he h1 hc⟩
theorem PK{x:AV}{top n j:Nat}{v:Value}(h:lZ (some x) top j=some n)(hr:JA s x v)(g:Nat)(o:top<=g)(k:BoundsCode)(w:World):
  (Instr.sliceBound v g k).run P w=.ok n w/\n<=top:=by
 unfold lZ at h;split at h;simp_all;rename_i e;injection e with e;subst e;split at h;rename_i hc;injection h with h;subst h;have:=iA hr;grind [Instr.sliceBound,asIntOf,Sem.run_pure];cases h;cases h
theorem JGl{n:Nat}{lo hi:Option AV}{c:Nat×Nat}(h:mS n lo hi=some c):lZ hi n n=some c.2/\lZ lo c.2 0=some c.1:=by
 grind [mS]
theorem KA(he:bM s a.tmps env){lo hi:Option Opd}{lo' hi':Option Operand}{l h:Option AV}{len cap:Nat}{c:Nat×Nat}{isSlice:Bool}
  (h1:(evo lo).run ⟨env,s.σ⟩=some l) (h2:(evo hi).run ⟨env,s.σ⟩=some h) (r:uK lo lo'=true) (z:uK hi hi'=true)
  (hc:mS len l h=some c) (n:len<=cap) (w:World):
  (Instr.sliceBounds isSlice len cap (lo'.map a.eval) (hi'.map a.eval) none).run P w=.ok (c.1,c.2,cap) w/\c.1<=c.2/\c.2<=len:=by
 obtain⟨k,e⟩:=JGl hc;obtain⟨i,j⟩:=c;rcases CP he h2 z with⟨rfl,rfl⟩|⟨u,q,rfl,rfl,x⟩;simp[lZ]at k;subst k;rcases CP he h1 r with⟨rfl,rfl⟩|⟨y,q',rfl,rfl,g⟩;simp[lZ]at e;subst e;simp[Instr.sliceBounds];obtain⟨o,v⟩:=PK (P:=P) e g len (zQ0 _) .sliceB w;simp_all [Instr.sliceBounds];rcases CP he h1 r with⟨rfl,rfl⟩|⟨y,q',rfl,rfl,g⟩;obtain⟨o,v⟩:=PK (P:=P) k x cap n (if isSlice then .sliceAcap else .sliceAlen) w;simp[lZ]at e;subst e;simp_all [Instr.sliceBounds];obtain⟨o,v⟩:=PK (P:=P) k x cap n (if isSlice then .sliceAcap else .sliceAlen) w;obtain⟨A,B⟩:=PK (P:=P) e g j (zQ0 _) .sliceB w;simp_all [Instr.sliceBounds]
theorem YL{esz:Nat}{rows:List (List PV)}{v:Value}{i j:Nat}(h:J05 s.w s.g.C (.sl esz rows) v)(hij:i<=j)(hj:j<=rows.length):
  ∃ad cap,v=.slice ad rows.length cap/\rows.length<=cap/\
   J05 s.w s.g.C (.sl esz ((rows.drop i).take (j-i))) (.slice (if cap=i then ad else ad.map (·.add (i*esz))) (j-i) (cap-i)):=by
 have hlen:((rows.drop i).take (j-i)).length=j-i:=by simp;omega
 cases h with
 |sl0 _ ad cap=>
  have e:j=0:=by simpa using hj
  have hi':i=0:=by omega
  subst e hi';refine⟨ad,cap,rfl,zQ2 _,?_⟩;simpa using J05.sl0 (w:=s.w) (C:=s.g.C) esz _ _
 |sl _ _ r o cap vals y q E F=>
  refine⟨_,cap,rfl,y,?_⟩;by_cases n:cap=i;have z:j-i=0:=by omega
  rw[z];simpa using J05.sl0 (w:=s.w) (C:=s.g.C) esz _ _;rw[if_neg n];have:=J05.sl (w:=s.w) (C:=s.g.C) esz ((rows.drop i).take (j-i)) r (o+i*esz) (cap-i) (λk m=>vals (i+k) m) (by omega)
   (λrow B=>q row (zQ7 (AK B)))
   (λk m row x A D=>by
    grind)
   (λk m row x A D=>by
    grind)
  grind [yE]
def xS(k:SK)(x:AV)(lo hi:Option AV):Option AV:=
 match k with
 | .str=>uQ x lo hi
 | .sl esz=>uO esz x lo hi
theorem C7(hi:Inv s){k:SK}{t:TypeId}{y:Operand}{z n:Option Operand}{q:Operand}{c:PV}{l hh:Option AV}{u r:AV}{g':Gh}{ws:List (Nat×Blk)}
  (B:o.op=.slice t y z n (some q)) (ht:(match k with
   | .str=>iS P t
   | .sl esz=>(match elT P t with|some e=>szT P e==some esz|none=>false))=true)
  (hl:l=none->z=none) (E: ∀F,hh=some F-> ∃q',n=some q'/\JA s F (a.eval q')) (hu:JA s u (a.eval q))
  (hs:jS k (.p c) l hh (some u)=some r) (hi':Inv ⟨upd ws s.σ,g',s.w⟩) (t':aW s ⟨upd ws s.σ,g',s.w⟩) (hr:J05 s.w g'.C c (a.eval y)):bO P o a s ⟨r,ws⟩:=by
 cases k with
 |str=>grind [jS]
 |sl esz=>
  simp only[jS]at hs;unfold MR at hs;split at hs;rename_i L rows N h1 R S g;injection g with g;subst g;split at hs;rename_i hc;obtain⟨rfl,rfl,rfl⟩:=hc;injection hs with hs;subst hs;obtain⟨q',rfl,A⟩:=E _ rfl;obtain rfl:=hl rfl;have U:=iA A;have T:=iA hu;simp only at ht;split at ht;rename_i el D;simp only[beq_iff_eq]at ht;obtain⟨ad,cap,G,K,hrel⟩:=YL (s:=⟨s.σ,g',s.w⟩) (i:=0) (j:=rows.length) hr (zQ2 _) (zQ0 _);have M: ∀w:World,(Instr.sliceBounds true rows.length cap none (some (a.eval q')) (some (a.eval q))).run P w=.ok (0,rows.length,rows.length) w:=by simp_all [Instr.sliceBounds,Instr.sliceBound,asIntOf]
  have h:J05 s.w g'.C (.slc esz rows) (.slice ad rows.length rows.length):=by
   refine .slc esz rows ad ?_;rw[G]at hr;cases hr with
   |sl0=>exact .sl0 _ _ _
   |sl _ _ r o cap vals Q J H I=>exact .sl esz rows r o rows.length vals (zQ0 _) J H I
  refine gB (e:=⟨_,ws⟩) (w':=s.w) (g':=g') (v:=.slice ad rows.length rows.length) ?_ hi' t' (.p _ _ h);have O:(if rows.length=0 then ad else ad.map λx=>x.add (0*esz))=ad:=by simp[Addr.add]
  simp only[execOp,B,G];simp[Instr.sliceAt,Instr.slice,run_underlying (hI D),M,gN ht];simp_all;cases ht;cases hs;cases hs
theorem JHk(hi:Inv s)(he:bM s a.tmps env){k x lo hi' mx}(h:(opR F (.slice k x lo hi' mx) new).run ⟨env,s.σ⟩=some e)(hc:JY P (.slice k x lo hi' mx) o.op=true):bO P o a s e:=by
 simp only[opR]at h;obtain⟨u,h1,h⟩:=bind_some h;obtain⟨l,h2,h⟩:=bind_some h;obtain⟨D,O,h⟩:=bind_some h;obtain⟨m,h4,h⟩:=bind_some h;unfold JY at hc;simp only at hc;split at hc
 ·rename_i t y V T ac B;simp only[JW]at hc;obtain⟨⟨⟨⟨hx,N⟩,M⟩,c3⟩,ht⟩:=hc;have q:=bH he h1 hx;rcases CP he h4 c3 with⟨rfl,rfl⟩|⟨um,qm,rfl,rfl,J⟩
  case inr=>
   have G:l=none->V=none:=(by grind [CP]);have I: ∀u',D=some u'-> ∃q',T=some q'/\JA s u' (a.eval q'):=(by grind [CP]);split at h;rename_i b i n;obtain⟨y',Q,h⟩:=bind_some h;obtain⟨g',i1,Z,f1,c,K,U⟩:=KC hi (.refl _) Q q;split at h;rename_i c' hc';rw[K]at hc';injection hc' with hc';subst hc';split at h;rename_i r v;simp only[RM.run]at h;injection h with h;subst h;exact C7 hi B ht G I J v i1 Z U;cases h;cases h;rename_i x' S;obtain⟨r,v,rfl⟩:=fZ h;cases u with
   |p c=>
    cases q with
    |p _ _ q=>exact C7 (ws:=[]) (g':=s.g) hi B ht G I J v hi (.refl s) q
   |_=>grind [jS,MR]
  have z: ∀{c:AV} {r},jS k c l D none=some r->(none:Option Operand)=none/\xS k c l D=some r:=by intro c r j;exact⟨rfl,j⟩
  have R: ∀{b:List UInt8} {r},jS k (.p (.s b)) l D none=some r->a.eval y=.string ⟨b.toArray⟩->bO P o a s ⟨r,[]⟩:=by
   intro b r j hz;obtain⟨_,E⟩:=z j;clear j;have j:=E;clear E;cases k with
   |sl esz=>grind [xS,uO]
   |str=>
    simp only[xS,uQ]at j;split at j;rename_i c hc;injection j with j;subst j;have aa:=vC ht;obtain⟨hb,hij,a9⟩:=KA (P:=P) (isSlice:=false) (cap:=b.length) he h2 O N M hc (zQ0 _) s.w;have ab:(⟨b.toArray⟩:ByteArray).extract c.1 c.2=⟨((b.drop c.1).take (c.2-c.1)).toArray⟩:=by apply ByteArray.ext;simp_all
    simp_all [JG,Ep,execOp,Instr.sliceAt,Instr.slice,run_underlying,sH];cases j
  have A: ∀{s':Sn} {ws} {esz rows r} {g'},s'=⟨upd ws s.σ,g',s.w⟩->Inv s'->aW s s'->jS k (.p (.sl esz rows)) l D none=some r->J05 s'.w s'.g.C (.sl esz rows) (a.eval y)->bO P o a s ⟨r,ws⟩:=by
   intro s' ws esz rows r g' hs' hi' t' j v;obtain⟨_,E⟩:=z j;clear j;have j:=E;clear E;cases k with
   |str=>grind [xS,uQ]
   |sl ez=>
    simp only[xS,uO]at j;split at j;rename_i Y;subst Y;split at j;rename_i c hc;injection j with j;subst j;simp only at ht;split at ht;rename_i el W;simp only[beq_iff_eq]at ht;have H:=KA (P:=P) (isSlice:=true) he h2 O N M hc (zQ0 _) s.w;obtain⟨ad,cap,hv,L,hrel⟩:=YL v H.2.1 H.2.2;obtain⟨hb,_,_⟩:=KA (P:=P) (isSlice:=true) he h2 O N M hc L s.w;subst hs';refine gB (e:=⟨_,ws⟩) (w':=s.w) (g':=g') ?_ hi' t' (.p _ _ hrel);simp only[execOp,B,hv];simp[Instr.sliceAt,Instr.slice,run_underlying (hI W),hb,gN ht];cases ht;cases j;cases j
  split at h;rename_i b i n;obtain⟨y',Q,h⟩:=bind_some h;obtain⟨g',i1,Z,f1,c,K,U⟩:=KC hi (.refl _) Q q;grind [RM.run,fz];rename_i x' S;obtain⟨r,v,rfl⟩:=fZ h;cases u with
  |p c=>
   cases c with
   |s b=>grind [rZ]
   |sl esz rows=>cases q with|p _ _ q=>exact A (s':=s) (ws:=[]) (g':=s.g) rfl hi (.refl s) v q
   |_=>grind [xS,uQ,uO]
  |slr b i n=>simp_all
  |_=>grind [xS,uQ,uO]
 cases hc
end
end Go.Am
end
section
namespace Go.Am
section
variable {P:Program} {F:Orc} {s:Sn} {a:Act} {env:List (Nat×AV)} {o:Oper} {new:Nat} {e:Eff}
theorem pz(hi:Inv s){agg:Bool}{size:Nat}{x:AV}{v:Value}(h:(fX agg size x).run ⟨env,s.σ⟩=some e)(hr:JA s x v):
  ∃r o vs,v=.pointer (some ⟨r,o,none⟩)/\vs.length=size/\(∀(k:Nat) u,vs[k]?=some u->cellAt s.w r (o+k)=some u)/\e.ws=[]/\
   ((agg=true/\JA s e.val (.agg vs.toArray))\/(agg=false/\ ∃u,vs=[u]/\JA s e.val u)):=by
 unfold fX at h;split at h;rename_i cs off;split at h;rename_i l z;obtain⟨r',A,rfl⟩:=fZ h;obtain⟨n,J,I⟩:=IG z;cases hr with
 |cp _ _ r o vals q N=>
  have P: ∀(i:Nat) y u,l[i]?=some y->((List.range size).map λi=>vals (off+i))[i]?=some u->J05 s.w s.g.C y u:=(by grind);refine⟨r,o+off,(List.range size).map λi=>vals (off+i),rfl,by simp,λk u D=>?_,rfl,YQ A (by simp[n]) P⟩;grind
 cases h
 ·rename_i b off;simp only[RM.run]at h;split at h
  ·rename_i blk H;split at h
   ·rename_i cs;split at h
    ·rename_i l z;obtain⟨r',A,rfl⟩:=fZ h;obtain⟨n,J,I⟩:=IG z;cases hr with
     |ptr _ _ r o m Y=>
      obtain⟨O,o1,c,V,fz,j,T,K,U,R⟩:=hi.box b cs H;rw[m]at j;injection j with j;injection j with m1 m2;subst m1 m2;have B: ∀k,k<size-> ∃u,c[o+(off+k)]?=some u/\u.oneCell'=true/\ ∀y,l[k]?=some y->JA s y u:=(by grind);refine⟨r,o+off,(List.range size).map λi=>(c[o+(off+i)]?).getD .nilFunc,rfl,by simp,λk u D=>?_,rfl,NL A (by simp[n]) (λv L=>?_) λi y u S D=>?_⟩
      all_goals grind [hJ]
    cases h
   cases h
  cases h
 ·rename_i b ext i off;simp only[RM.run]at h;split at h
  ·rename_i blk H;split at h
   ·rename_i wm esz rows;split at h
    ·rename_i G;split at h
     ·rename_i row F;split at h
      ·rename_i l z;obtain⟨r',A,rfl⟩:=fZ h;obtain⟨n,J,I⟩:=IG z;have E:s.σ[b]?=some (.arr wm esz rows):=H;cases hr with
       |ep _ _ _ _ _ wm' Q rows' p0 q N M=>
        rw[E]at q;injection q with q;injection q with a1 a2 a3;subst a1 a2 a3;have W:=Jn F;obtain⟨r,m,L⟩:=M G (by omega);rcases hi.arr b _ _ _ E with⟨j,_⟩|⟨O,c,V,fz,j,T,Z,K,U,R⟩;simp_all
        ·rw[m]at j;injection j with j;injection j with m1 _;subst m1
         have B: ∀k,k<size-> ∃u,c[i*esz+(off+k)]?=some u/\ ∀y,l[k]?=some y->J05 s.w s.g.C y u:=(by grind);refine⟨r,i*esz+off,(List.range size).map λk=>(c[i*esz+(off+k)]?).getD .nilFunc,L,by simp,λk u D=>?_,rfl,YQ A (by simp[n]) λk y u S D=>?_⟩
         all_goals grind [hJ]
      cases h
     cases h
    cases h
   cases h
  cases h
 cases h
theorem r7{t:TypeId}{agg:Bool}{size:Nat}(ht:agT P t=some agg)(hs:szT P t=some size){r o:Nat}{vs:List Value}{w:World}(hl:vs.length=size)
  (h: ∀(k:Nat) u,vs[k]?=some u->cellAt w r (o+k)=some u):
  (agg=true->(loadVar t ⟨r,o,none⟩).run P w=.ok (.agg vs.toArray) w)/\(agg=false-> ∀u,vs=[u]->(loadVar t ⟨r,o,none⟩).run P w=.ok u w):=by
 constructor;rintro rfl;subst hl;simp_all [loadVar,CS,gN,qb];rintro rfl u rfl;have:=h 0 u rfl;simp_all [loadVar,CS,nK]
theorem JKw(hi:Inv s)(he:bM s a.tmps env){agg size x}(h:(opR F (.load agg size x) new).run ⟨env,s.σ⟩=some e)(hc:JY P (.load agg size x) o.op=true):bO P o a s e:=by
 simp only[opR]at h;obtain⟨u,h1,n⟩:=bind_some h;clear h;unfold JY at hc;simp only at hc;split at hc
 ·rename_i t y B;simp only[JW,beq_iff_eq]at hc;obtain⟨⟨⟨ht,z⟩,A⟩,D⟩:=hc;obtain⟨r,G,vs,I,v,g,j,k⟩:=pz hi n (bH he h1 A);obtain⟨C,H⟩:=r7 (P:=P) ht z v g;obtain⟨ev,E⟩:=e;simp only at j k;subst j;rcases k with⟨rfl,w⟩|⟨rfl,q,rfl,w⟩
  all_goals simp_all [JG,execOp,Instr.loadAt,Instr.sureAddr]
 cases hc
theorem QV{x:AV}{l:List AV}{v:Value}(h:cellsOf x=some l)(hr:JA s x v):
  l.length=v.cells.size/\(∀u∈v.cells.toList,u.oneCell'=true)/\ ∀(i:Nat) y u,l[i]?=some y->v.cells[i]?=some u->JA s y u:=by
 have e: ∀{z:AV},JA s z v->v.cells= #[v]->v.oneCell'=true->l=[z]->l.length=v.cells.size/\(∀u∈v.cells.toList,u.oneCell'=true)/\ ∀(i:Nat) y u,l[i]?=some y->v.cells[i]?=some u->JA s y u:=(by grind);cases hr with
 |p c _ q=>simp[cellsOf]at h;exact e (.p _ _ q) q.cells1 q.one h.symm
 |data cs vs h1 h2=>
  simp[cellsOf]at h;subst h;refine⟨by grind [Value.cells],λu A=>?_,λi y u w A=>?_⟩;obtain⟨i,hi⟩:=fL A;have hi:vs[i]?=some u:=by grind [Value.cells]
  have F:=QG hi;exact(h2 i cs[i] u (by simp_all) hi).one;rw[fB]at w;cases hcs:cs[i]? with
  |none=>simp_all
  |some c=>simp[hcs]at w;subst w;exact .p _ _ (h2 i c u hcs A)
 |agg cs vs h1 G h2=>
  grind [cellsOf,Value.cells,List.getElem?_of_mem]
 |tup=>grind [cellsOf]
 |unk=>grind [cellsOf]
 |pre=>simp[cellsOf]at h
 |ptr b off r o m B=>simp[cellsOf]at h;exact e (.ptr b off r o m B) rfl rfl h.symm
 |cp cs off r o vals j g=>simp[cellsOf]at h;exact e (.cp cs off r o vals j g) rfl rfl h.symm
 |slr b i n _ wm esz rows p0 j g k=>obtain⟨ad,cap,rfl,E⟩:=p0;simp[cellsOf]at h;exact e (.slr b i n _ wm esz rows ⟨ad,cap,rfl,E⟩ j g k) rfl rfl h.symm
 |ep b ext i off _ wm esz rows p0 j g k=>obtain⟨r,o,rfl⟩:=p0;simp[cellsOf]at h;exact e (.ep b ext i off _ wm esz rows ⟨r,o,rfl⟩ j g k) rfl rfl h.symm
 |fn f first caps fs cs h1 h2 D C=>simp[cellsOf]at h;exact e (.fn f first caps fs cs h1 h2 D C) rfl rfl h.symm
theorem JLb(hi:Inv s)(he:bM s a.tmps env)(hn:s.σ[new]?=some .dead){size x}(h:(opR F (.box size x) new).run ⟨env,s.σ⟩=some e)(hc:JY P (.box size x) o.op=true):bO P o a s e:=by
 simp only[opR]at h;obtain⟨u,h1,g⟩:=bind_some h;clear h;unfold JY at hc;simp only at hc;split at hc;rename_i t y B;have z:=bH he h1 hc;split at g;rename_i cs hcs;split at g;cases g;obtain⟨C,q,n⟩:=QV hcs z;obtain⟨r,t'⟩:=OG hi hn (blk:=.box cs) (c:=(a.eval y).cells) (e:=t) (fz:=(0,0)) (w':={s.w with heap:=s.w.heap.push (.cells (a.eval y).cells t)}) rfl rfl rfl
  (λo _ _ h=>by simp at h) (λ_ _ _ h=>by cases h) ⟨by omega,λi x j=>by
   have A:=Jn j;have k:i<(a.eval y).cells.size:=by omega
   exact⟨(a.eval y).cells[i],by simp,n i x _ j (by simp),q _ (by simp)⟩⟩
 refine gB (e:=⟨.ptr new 0,[(new,.box cs)]⟩) (v:=.pointer (some ⟨s.w.heap.size,0,none⟩)) ?_ r t' (.ptr new 0 _ 0 (if_pos rfl) ⟨cs,gT hn⟩);simp_all [execOp,Instr.box,newVar,newRow];cases g;cases g;cases hc
theorem vG{zero:List PV}{t:TypeId}(h:lM P zero t=true): ∃v,zeT P t=some v/\zero.length=v.cells.size/\
  ∀{w C} (i:Nat) x u,zero[i]?=some x->v.cells[i]?=some u->J05 w C x u:=by
 unfold lM at h;split at h;rename_i v e;refine⟨v,e,?_,λi x u j g=>?_⟩;simpa using(OY (w:=default) (C:=λ_ _=>True) h).1;exact(OY h).2 i x u j (by simpa using g);cases h
theorem DA{t:TypeId}{v:Value}(h:zeT P t=some v)(w:World):(zeroValue t).run P w=.ok v w:=by unfold zeT at h;cases hi:P.info? t<;>simp_all [zeroValue,ub]
theorem JG2(hi:Inv s)(hn:s.σ[new]?=some .dead){zero}(h:(opR F (.newbox zero) new).run ⟨env,s.σ⟩=some e)(hc:JY P (.newbox zero) o.op=true):bO P o a s e:=by
 simp only[opR,RM.run]at h;cases h;unfold JY at hc;simp only at hc;split at hc;rename_i t z;obtain⟨v,A,q,r⟩:=vG hc;obtain⟨n,t'⟩:=OG hi hn (blk:=.box (zero.map .p)) (c:=v.cells) (e:=t) (fz:=(0,0)) (w':={s.w with heap:=s.w.heap.push (.cells v.cells t)}) rfl rfl rfl
  (λo _ _ h=>by simp at h) (λ_ _ _ h=>by cases h) ⟨by simp[q],λi x j=>by
   rw[fB]at j;cases hz:zero[i]? with
   |none=>simp[hz]at j
   |some c=>
    simp[hz]at j;subst j;have y:=Jn hz;have k:i<v.cells.size:=by omega
    have:=r (w:=s.w) (C:=s.g.C) i c v.cells[i] hz (by simp);exact⟨v.cells[i],by simp,.p _ _ this,this.one⟩⟩
 refine gB (e:=⟨.ptr new 0,[(new,.box (zero.map .p))]⟩) (v:=.pointer (some ⟨s.w.heap.size,0,none⟩)) ?_ n t' (.ptr new 0 _ 0 (if_pos rfl) ⟨_,gT hn⟩);simp_all [execOp,Instr.alloc,DA,newVar,newRow];cases hc
theorem JHl(hi:Inv s)(hn:s.σ[new]?=some .dead){esz x}(h:(opR F (.mkarr esz x) new).run ⟨env,s.σ⟩=some e)(hc:JY P (.mkarr esz x) o.op=true):bO P o a s e:=by
 simp only[opR,RM.run]at h;cases h;obtain⟨k,t'⟩:=ON hi hn esz;have hrel:JA ⟨s.σ.set new (.arr true esz []),eS s.g new none,s.w⟩ (.slr new 0 0) (.slice none 0 0):=
  .slr new 0 0 _ true esz [] ⟨none,0,rfl,.inl rfl⟩ (gT hn) (zQ0 _) λ_=>.inl ⟨if_pos rfl,rfl,rfl,rfl⟩
 unfold JY at hc;simp only at hc;split at hc;rename_i j;exact gB (e:=⟨.slr new 0 0,[(new,.arr true esz [])]⟩) (v:=.slice none 0 0) (by simp only[execOp,j];rfl) k t' hrel;rename_i j;exact gB (e:=⟨.slr new 0 0,[(new,.arr true esz [])]⟩) (v:=.slice none 0 0) (by simp only[execOp,j];rfl) k t' hrel;cases hc
theorem NY{α:Type}{cs vs cs':List α}{off:Nat}(h:spl cs off vs=some cs'):cs'.length=cs.length/\off+vs.length<=cs.length/\
  (∀(i:Nat),i<vs.length->cs'[off+i]?=vs[i]?)/\ ∀k,(k<off\/off+vs.length<=k)->cs'[k]?=cs[k]?:=by
 unfold spl at h;split at h;simp_all
 ·split at h
  ·rename_i hc;cases h;refine⟨by simp;omega,hc,λi hi=>?_,λk e=>?_⟩
   all_goals grind
  cases h
theorem JDh{w:World}{r o:Nat}{vs:List Value}{c:Array Value}{et:TypeId}{fz:Nat×Nat}(hh:w.heap[r]?=some (.cells c et fz))(hl:o+vs.length<=c.size)
  (hf:BF fz o (o+vs.length)) (h1: ∀v∈vs,v.oneCell'=true):(storeCells ⟨r,o,none⟩ vs).run P w=.ok () (w.setCells r o vs):=by
 have:=run_storeCells_cells (P:=P) r o vs 0 w
  (λj e=>by rw[nK,hJ hh];simp;omega)
  (λj e=>by
   have:=hf (o+0+j) (by omega) (by omega);grind [World.frozen?]) h1
 simp_all
theorem gf{t:TypeId}{v:Value}{w:World}{r o:Nat}{c:Array Value}{et:TypeId}{fz:Nat×Nat}(hs:szT P t=some v.cells.size)(hh:w.heap[r]?=some (.cells c et fz))(hl:o+v.cells.size<=c.size)
  (hf:BF fz o (o+v.cells.size)) (h1: ∀u∈v.cells.toList,u.oneCell'=true):(storeVar t ⟨r,o,none⟩ v).run P w=.ok () (w.setCells r o v.cells.toList):=by
 have:=JDh (P:=P) (vs:=v.cells.toList) hh (by simpa using hl) (by simpa using hf) h1;simp_all [storeVar,gN]
theorem eb{o:Oper}{e:Eff}{w':World}{g':Gh}(hr:(execOp a.eval o).run P s.w=.ok .skip w')(g:e.val=fY)
  (hi:Inv ⟨upd e.ws s.σ,g',w'⟩) (t:aW s ⟨upd e.ws s.σ,g',w'⟩):bO P o a s e:=by
 intro next Q h;simp only[Oper.wp,hr,Oper.upon];exact h undef w' g' hi t (by rw[g];exact .tup _ _ rfl λi x v h=>by simp at h)
theorem Co{b:Nat}: ∀{ws:List (Nat×Blk)} {σ:List Blk},(ws.all λy=>y.1 !=b)=true->(upd ws σ)[b]?=σ[b]?
 |[],_,_=>rfl
 |y::ws,σ,h=>by simp only[List.all_cons,JW,bne_iff_ne]at h;show(upd ws (σ.set y.1 y.2))[b]?=_;rw[Co h.2,qL h.1]
theorem JI0(hi:Inv s)(he:bM s a.tmps env){size x y}(h:(opR F (.store size x y) new).run ⟨env,s.σ⟩=some e)(hc:JY P (.store size x y) o.op=true):bO P o a s e:=by
 simp only[opR]at h;obtain⟨u,h1,h'⟩:=bind_some h;obtain⟨v,h2,g⟩:=bind_some h';clear h h';unfold JY at hc;simp only at hc;split at hc;rename_i t x' n c3;simp only[JW,beq_iff_eq]at hc;obtain⟨⟨hs,hx⟩,hy⟩:=hc;have rx:=bH he h1 hx;have ry:=bH he h2 hy;have a0: ∀{r L:Nat} {w':World},a.eval x'=.pointer (some ⟨r,L,none⟩)->(storeVar t ⟨r,L,none⟩ (a.eval n)).run P s.w=.ok () w'->(execOp a.eval o).run P s.w=.ok .skip w':=by simp_all [execOp,Instr.storeAt,Instr.sureAddr]
 unfold hC at g;split at g;rename_i b off;simp only[RM.run]at g;split at g;rename_i blk I;split at g;rename_i cs;split at g;rename_i l hl;split at g;rename_i am;split at g;rename_i cs' a8;cases g;have I:s.σ[b]?=some (.box cs):=I;generalize hz:a.eval x'=z at rx;cases rx with
 |ptr _ _ r L m bx=>
  obtain⟨k1,k2,k3⟩:=QV hl ry;obtain⟨j1,j2,j3,j4⟩:=NY a8;obtain⟨r1,o1,c,D,fz,C,S,au,Z,hf⟩:=hi.box b cs I;rw[m]at C;injection C with C;injection C with m1 m2;subst m1 m2;have B:=DL (vs:=(a.eval n).cells.toList) (o:=L+off) S (by simp;omega);have hlen:(a.eval n).cells.toList.length=l.length:=by simp[k1]
  obtain⟨i',t'⟩:=ej hi (blk:=.box cs') I B (λk h1 h2=>by
   grind [Wr1]) (.box _ _ j1) (λbw q E=>by
   cases q;obtain⟨c0,e0,av,c',A,p2,p3,p4,p5,p6⟩:=B.there;rw[S]at A;injection A with A;injection A with K q2 q3;subst K q2 q3;refine⟨r,L,c',D,fz,m,p2,by omega,λi x aq=>?_,by simp_all⟩;by_cases b0:off<=i/\i<off+l.length;have D:cs'[off+(i-off)]?=l[i-off]?:=j3 (i-off) (by omega);rw[show off+(i-off)=i by omega,aq]at D;have J:i-off<(a.eval n).cells.size:=by omega
   have e2:=p5 (i-off) (a.eval n).cells[i-off] (by simp);refine⟨(a.eval n).cells[i-off],by rw[<-e2];congr 1;omega,E (k3 (i-off) x _ D.symm (by simp)),k2 _ (by simp)⟩;grind)
   (λ_ _ q=>by cases q)
  refine eb (e:=⟨fY,[(b,.box cs')]⟩) (a0 hz (gf (by simp_all) S (by omega) (λk h1 h2=>hf k (by omega) (by omega)) k2)) rfl i' t'
 cases g;cases g;cases g;cases g;cases g;rename_i b ext i off;simp only[RM.run]at g;split at g;rename_i blk I;split at g;rename_i esz rows;split at g;rename_i aa;split at g;rename_i row O;obtain⟨H,h3,T⟩:=bind_some g;split at T;rename_i U;split at T;rename_i N V;cases T;have I:s.σ[b]?=some (.arr true esz rows):=I;obtain⟨am,ba⟩:=U;obtain⟨g1,i1,t1,f1,l1,r1⟩:=XZ hi (.refl _) h3 ry;have R:(upd H.2 s.σ)[b]?=some (.arr true esz rows):=by grind [Co]
 have Y:=rx.mono hi t1;obtain⟨j1,j2,j3,j4⟩:=NY V;have a7: ∀u∈(a.eval n).cells.toList,u.oneCell'=true:=by
  intro u hu;obtain⟨k,G⟩:=fL hu;have G:(a.eval n).cells[k]?=some u:=by simpa using G
  have J:=QG G;exact(r1 k H.1[k] u (by simp_all) G).one
 generalize hz:a.eval x'=z at Y;cases Y with
 |ep _ _ _ _ _ wm' a5 rows' p0 A p2 p3=>
  have A:(upd H.2 s.σ)[b]?=some (.arr wm' a5 rows'):=A;rw[R]at A;injection A with A;injection A with a1 a2 a3;subst a1 a2 a3;have J:=Jn O;obtain⟨r,m,hv⟩:=p3 aa (by omega);rcases i1.arr b _ _ _ R with⟨C,_⟩|⟨rr,c,D,fz,C,S,ap,au,Z,hf⟩;simp_all;rw[m]at C;injection C with C;injection C with m1 _;subst m1;have b4:=ap row (iD O);have hlen:(a.eval n).cells.toList.length=H.1.length:=by simp[l1]
  have bi:i*esz+esz<=rows.length*esz:=(by have:=zQ4 esz (show i+1<=rows.length from J);grind);have M:s.w.heap[r]?=some (.cells c D fz):=S;have B:=DL (vs:=(a.eval n).cells.toList) (o:=i*esz+off) M (by grind);obtain⟨i2,t2⟩:=ej (s0:=⟨upd H.2 s.σ,g1,s.w⟩) i1 (blk:=.arr true esz (rows.set i N)) R B (λk h1 h2=>by
   grind [Wr1]) (.arr _ _ _ (by simp)) (λ_ q=>by cases q) (λb9 b3 q E=>by
   injection q with _ h1 h2;subst h1 h2;obtain⟨c0,e0,av,c',K,q2,q3,q4,q5,q6⟩:=B.there;rw[M]at K;injection K with K;injection K with w1 w2 w3;subst w1 w2 w3;refine .inr ⟨r,c',D,fz,m,q2,λc1 bz=>?_,by simp;omega,λk j a6 x0 G hj=>⟨?_,λh=>by cases h⟩,by simp_all⟩;grind;have bn:=Jn hj;by_cases W:k=i;subst W;rw[AW J]at G;cases G;by_cases b0:off<=j/\j<off+H.1.length;have D:=j3 (j-off) (by omega);rw[show off+(j-off)=j by omega,hj]at D;have Q:j-off<(a.eval n).cells.size:=by omega
   have e2:=q5 (j-off) (a.eval n).cells[j-off] (by simp);refine⟨(a.eval n).cells[j-off],by rw[<-e2];congr 1;omega,E (r1 (j-off) x0 _ D.symm (by simp))⟩;grind;rw[EO (Ne.symm W)]at G;obtain⟨⟨v',az,ak⟩,_⟩:=Z k j a6 x0 G hj;refine⟨v',?_,E ak⟩;rw[q6 _ ?_];exact az;have an:j<esz:=by grind
   rw[hlen];rcases zQ3 k i with Q|c2;left;have:=jT Q an;omega;right;have:=zQ4 esz (show i+1<=k by omega);grind)
  refine eb (e:=⟨fY,H.2++[(b,.arr true esz (rows.set i N))]⟩) (g':=g1) (a0 (hz.trans hv) (gf (by simp_all) M (by grind) (λk h1 h2=>hf.1 k (by omega) (by grind)) a7)) rfl ?_ ?_;rw[eM];exact i2;rw[eM];exact t1.trans t2
 cases T;cases T;cases g;cases g;cases g;cases g;cases g;cases hc
end
end Go.Am
end
section
namespace Go.Am
theorem JAE(vs:List Value): ∀(k:Nat) (off:Nat) (cs:Array Value),off+k+vs.length<=cs.size->
  let r:=(vs.zipIdx k).foldl (λcs (x:Value×Nat)=>cs.setIfInBounds (off+x.2) x.1) cs
  r.size=cs.size/\(∀(j:Nat) v,vs[j]?=some v->r[off+k+j]?=some v)/\ ∀i,(i<off+k\/off+k+vs.length<=i)->r[i]?=cs[i]?:=by
 induction vs with
 |nil=>simp_all
 |cons v vs ih=>
  intro k off cs h;simp only[tM]at h;have:=ih (k+1) off (cs.setIfInBounds (off+k) v) (by simp;omega);simp only[List.zipIdx_cons,List.foldl_cons];obtain⟨h1,h2,e⟩:=this;grind
section
variable {P:Program} {F:Orc} {s:Sn} {a:Act} {env:List (Nat×AV)} {o:Oper} {new:Nat} {e:Eff}
theorem pw{place:Nat->Option (Nat×Nat)}{cells:Array Value}{i:Nat}{v:Value}{rest:List (Nat×Value)}{off size:Nat}(hp:place i=some (off,size))(hs:v.cells.size=size)(hl:off+size<=cells.size):
  ∃e:Array Value,Instr.fill place cells ((i,v)::rest)=Instr.fill place e rest/\e.size=cells.size/\(∀(j:Nat) u,v.cells[j]?=some u->e[off+j]?=some u)/\
   ∀k,(k<off\/off+size<=k)->e[k]?=cells[k]?:=by
 subst hs;obtain⟨h1,h2,h⟩:=JAE v.cells.toList 0 off cells (by simp;omega);refine⟨v.cells.zipIdx.foldl (λcs (c,j)=>cs.setIfInBounds (off+j) c) cells,?_,?_,?_,?_⟩;grind [Instr.fill]
 all_goals (have g:v.cells.zipIdx.foldl (λcs (x:Value×Nat)=>cs.setIfInBounds (off+x.2) x.1) cells=(v.cells.toList.zipIdx 0).foldl (λcs (x:Value×Nat)=>cs.setIfInBounds (off+x.2) x.1) cells:=by
             rw[<-Array.foldl_toList];simp)
 all_goals simp_all
theorem dm{place:Nat->Option (Nat×Nat)}: ∀{parts:List (Nat×Nat×List AV)} {ps:List (Nat×Value)} {cs cs':List AV} {cells:Array Value},
  oS parts cs=some cs'->parts.length=ps.length->
  (∀(k:Nat) off size l i v,parts[k]?=some (off,size,l)->ps[k]?=some (i,v)->place i=some (off,size)/\l.length=v.cells.size/\(∀u∈v.cells.toList,u.oneCell'=true)/\
   ∀(j:Nat) y u,l[j]?=some y->v.cells[j]?=some u->JA s y u)->
  cs.length=cells.size->(∀(i:Nat) x,cs[i]?=some x-> ∃u,cells[i]?=some u/\JA s x u/\u.oneCell'=true)->
  ∃e,Instr.fill place cells ps=some e/\cs'.length=e.size/\ ∀(i:Nat) x,cs'[i]?=some x-> ∃u,e[i]?=some u/\JA s x u/\u.oneCell'=true
 |[],[],cs,cs',cells,h,_,_,hl,hr=>by simp[oS]at h;subst h;exact⟨cells,rfl,hl,hr⟩
 |[],_::_,_,_,_,_,hl,_,_,_=>by simp at hl
 |_::_,[],_,_,_,_,hl,_,_,_=>by simp at hl
 |(off,size,l)::parts,(i,v)::ps,cs,cs',cells,h,hlen,hp,hl,hr=>by
  unfold oS at h;split at h;rename_i D;split at h;rename_i F n;obtain⟨z,H,q,r⟩:=hp 0 off size l i v rfl rfl;obtain⟨G,M,w,I⟩:=NY n;obtain⟨g,J,K,A,L⟩:=pw (v:=v) (rest:=ps) (cells:=cells) z (by omega) (by omega);obtain⟨e,Q,O,N⟩:=dm (cells:=g) h (by simpa using hlen) (λk off size l i v h1 h2=>hp (k+1) off size l i v (by simpa using h1) (by simpa using h2)) (by omega) (λk x B=>by
   by_cases E:off<=k/\k<off+l.length;have o:=w (k-off) (by omega);rw[show off+(k-off)=k by omega,B]at o;have C:k-off<v.cells.size:=by omega
   have P:=A (k-off) v.cells[k-off] (by simp);exact⟨v.cells[k-off],by simp_all,r (k-off) x _ o.symm (by simp),q _ (by simp)⟩;grind)
  simp_all;cases h;cases h
theorem fj(he:bM s a.tmps env){place:Nat->Option (Nat×Nat)}: ∀{parts:List (Nat×Nat×Opd)} {ps:List (Nat×Operand)} {l:List (Nat×Nat×List AV)},
  (jR parts).run ⟨env,s.σ⟩=some l->qJ place parts ps=true->
  l.length=(ps.map λx=>(x.1,a.eval x.2)).length/\
  ∀(k:Nat) off size cs i v,l[k]?=some (off,size,cs)->(ps.map λx=>(x.1,a.eval x.2))[k]?=some (i,v)->place i=some (off,size)/\cs.length=v.cells.size/\(∀u∈v.cells.toList,u.oneCell'=true)/\
   ∀(j:Nat) y u,cs[j]?=some y->v.cells[j]?=some u->JA s y u
 |[],[],l,h,_=>by
  grind [jR,RM.run]
 |[],_::_,_,_,hc=>by grind [qJ]
 |_::_,[],_,_,hc=>by grind [qJ]
 |(off,size,x)::parts,(i,y)::ps,l,h,hc=>by
  simp only[qJ,JW,beq_iff_eq]at hc;obtain⟨⟨w,e⟩,hc⟩:=hc;simp only[jR]at h;obtain⟨v,h1,h⟩:=bind_some h;split at h;rename_i cs hcs;obtain⟨o,h2,h⟩:=bind_some h;simp only[RM.run]at h;injection h with h;subst h;obtain⟨g,n⟩:=fj he h2 hc;obtain⟨q,z,r⟩:=QV hcs (bH he h1 e);grind;cases h
theorem fo: ∀{fs:List Field},(∀f∈fs,(szT P f.type).isSome=true)-> ∀w:World,
  (fs.mapM λf=>do pure (f.offset,<-sizeOf f.type):Sem (List (Nat×Nat))).run P w=.ok (fs.map λf=>(f.offset,(szT P f.type).getD 0)) w
 |[],_,w=>by simp
 |f::fs,h,w=>by
  have j:(szT P f.type)=some ((szT P f.type).getD 0):=by have:=h f (by simp);cases hq:szT P f.type<;>simp[hq]at this⊢
  have ih:=fo (fs:=fs) (λg e=>h g (by simp[e])) w;rw[List.mapM_cons];simp only[xD,gN j,rM,SE,ih];simp
theorem JHo(hi:Inv s)(he:bM s a.tmps env){zero parts}(h:(opR F (.build zero parts) new).run ⟨env,s.σ⟩=some e)(hc:JY P (.build zero parts) o.op=true):bO P o a s e:=by
 simp only[opR]at h;obtain⟨l,h1,D⟩:=bind_some h;clear h;unfold JY at hc;simp only at hc;split at hc;rename_i t ps a0;simp only[JW]at hc;obtain⟨W,ht⟩:=hc;obtain⟨z,a1,J,K⟩:=vG W;split at D;rename_i cs hcs;obtain⟨r,Y,rfl⟩:=fZ D;have B: ∀(i:Nat) x,(zero.map AV.p)[i]?=some x-> ∃u,z.cells[i]?=some u/\JA s x u/\u.oneCell'=true:=by
  intro i x H;rw[fB]at H;cases hzi:zero[i]? with
  |none=>simp_all
  |some c=>
   simp[hzi]at H;subst H;have I:=Jn hzi;have R:i<z.cells.size:=by omega
   have:=K (w:=s.w) (C:=s.g.C) i c z.cells[i] hzi (by simp);exact⟨z.cells[i],by simp,.p _ _ this,this.one⟩
 have fin: ∀{place:Nat->Option (Nat×Nat)},qJ place parts ps.toList=true->
   ∃j,Instr.fill place z.cells (ps.toList.map λx=>(x.1,a.eval x.2))=some j/\JA s r (.agg j):=by
  intro place A;obtain⟨Q,T⟩:=fj he h1 A;obtain⟨j,E,S,V⟩:=dm (s:=s) (cells:=z.cells) hcs Q T (by simp[J]) B;refine⟨j,E,?_⟩;have:=NL (s:=s) (vs:=j.toList) Y (by simpa using S) (λv O=>by
    obtain⟨i,hi'⟩:=fL O;have hi':j[i]?=some v:=by simpa using hi'
    have I:=QG hi';obtain⟨u,N,_,h1⟩:=V i cs[i] (by simp_all);simp_all)
   (λi y v hy O=>by
    grind)
  simp_all
 have a2:(ps.map λx=>(x.1,a.eval x.2)).toList=ps.toList.map λx=>(x.1,a.eval x.2):=by simp
 split at ht;rename_i fs N;simp only[JW]at ht;obtain⟨k,A⟩:=ht;obtain⟨j,E,G⟩:=fin A;have Z:(λi=>(fs.map λf=>(f.offset,(szT P f.type).getD 0))[i]?)=CO P fs:=by
  funext i
  simp only[CO,Array.getElem?_map];cases hfi:fs[i]? with
  |none=>rfl
  |some f=>have:=TU.1 k f (Array.mem_of_getElem? hfi);cases L:szT P f.type<;>simp[L]at this⊢
 refine JG hi (v:=.agg j) ?_ G;have U:(fs.mapM λf=>do pure (f.offset,<-sizeOf f.type):Sem (Array (Nat×Nat))).run P s.w=.ok (fs.map λf=>(f.offset,(szT P f.type).getD 0)) s.w:=by
  rw[Array.mapM_eq_mapM_toList];simp only[Sem.run_map,fo (P:=P) (fs:=fs.toList) (λf M=>TU.1 k f (by simpa using M)),rM]
  congr 1
  grind
 have M:Instr.fill (λi=>(fs.map λf=>(f.offset,(szT P f.type).getD 0))[i]?) z.cells (ps.map λx=>(x.1,a.eval x.2)).toList=some j:=by simp_all
 simp_all [Instr.build,DA,run_underlying,execOp];rename_i n el N;split at ht;rename_i q L;obtain⟨j,E,G⟩:=fin ht;refine JG hi (v:=.agg j) ?_ G;have hb:(Instr.build t (ps.map λx=>(x.1,a.eval x.2))).run P s.w=.ok (.agg j) s.w:=by simp_all [Instr.build,DA,run_underlying,gN]
 simp_all [execOp];cases ht;cases ht;cases D;cases hc
end
end Go.Am
end
section
namespace Go.Am
def pY(s:Sn)(esz:Nat)(rows:List (List PV))(c:Array Value):Prop:=(∀row∈rows,row.length=esz)/\rows.length*esz<=c.size/\ ∀(i j:Nat) row x,rows[i]?=some row->row[j]?=some x-> ∃u,c[i*esz+j]?=some u/\J05 s.w s.g.C x u
section
variable {P:Program} {F:Orc} {s:Sn} {a:Act} {env:List (Nat×AV)} {o:Oper} {new:Nat} {e:Eff}
theorem pY.mono{s0 s:Sn}(hi:Inv s0)(t:aW s0 s){esz rows c}(h:pY s0 esz rows c):pY s esz rows c:=
 ⟨h.1,h.2.1,λi j row x e g=>let⟨u,h1,h2⟩:=h.2.2 i j row x e g;⟨u,h1,h2.mono hi t⟩⟩
theorem dc{s0:Sn}(hi:Inv s0)(hn:s0.σ[new]?=some .dead){esz:Nat}{rows:List (List PV)}{c:Array Value}{et:TypeId}{fz:Nat×Nat}{w':World}{cap:Nat}
  (hh:w'.heap=s0.w.heap.push (.cells c et fz)) (ho:w'.os=s0.w.os) (hp:w'.output=s0.w.output) (hf:uJ esz fz c.size) (hr:pY s0 esz rows c) (e:rows.length<=cap) (g:cap*esz<=c.size):
  (∃g',Inv ⟨s0.σ.set new (.arr true esz rows),g',w'⟩/\aW s0 ⟨s0.σ.set new (.arr true esz rows),g',w'⟩/\
   JA ⟨s0.σ.set new (.arr true esz rows),g',w'⟩ (.slr new 0 rows.length) (.slice (some ⟨s0.w.heap.size,0,none⟩) rows.length cap)):=by
 obtain⟨j,t'⟩:=OG hi hn (blk:=.arr true esz rows) hh ho hp hf.1 (λ_ _ _ h=>by injection h with _ h _;subst h;exact hf.2) hr;refine⟨_,j,t',.slr new 0 _ _ true esz rows ⟨_,_,rfl,.inr (by simp)⟩ (gT hn) (by omega) λ_=>.inr ⟨s0.w.heap.size,cap,c,et,fz,if_pos rfl,by simp,e,IT hh,by simpa using g⟩⟩
theorem ew{s0:Sn}(hi:Inv s0){esz:Nat}{rows:List (List PV)}{c:Array Value}{et:TypeId}{fz:Nat×Nat}{w':World}{cap:Nat}
  (hh:w'.heap=s0.w.heap.push (.cells c et fz)) (ho:w'.os=s0.w.os) (hp:w'.output=s0.w.output) (hr:pY s0 esz rows c) (e:rows.length<=cap):
  (∃g',Inv ⟨s0.σ,g',w'⟩/\aW s0 ⟨s0.σ,g',w'⟩/\JA ⟨s0.σ,g',w'⟩ (.p (.sl esz rows)) (.slice (some ⟨s0.w.heap.size,0,none⟩) rows.length cap)):=by
 obtain⟨g,t'⟩:=JGd hi hh ho hp;refine⟨_,g,t',.p _ _ (f0 (s:=⟨s0.σ,_,w'⟩) rfl e hr.1 (.inr ⟨_,0,rfl,λi j row x hi' h=>⟨.inr rfl,?_⟩⟩))⟩;obtain⟨u,k,hrel⟩:=hr.2.2 i j row x hi' h;exact⟨u,by grind [hJ],hrel.mono hi t'⟩
theorem El{E:List Blk}{tmps:Array Value}(he: ∀n x,lk n env=some x-> ∃v,a.tmps[n]?=some v): ∀{xs:List Opd} {e:List Operand} {s:Sn} {y:List (List PV)×List (Nat×Blk)},Inv s->Frz E s.σ->bM s a.tmps env->
  (fzs xs).run ⟨env,E⟩=some y->jJ xs e=true->
  ∃g',Inv ⟨upd y.2 s.σ,g',s.w⟩/\aW s ⟨upd y.2 s.σ,g',s.w⟩/\Frz s.σ (upd y.2 s.σ)/\y.1.length=e.length/\
   ∀(k:Nat) cs q,y.1[k]?=some cs->e[k]?=some q->cs.length=(a.eval q).cells.size/\ ∀(i:Nat) c u,cs[i]?=some c->(a.eval q).cells[i]?=some u->J05 s.w g'.C c u
 |[],[],s,y,hi,o,r,h,_=>by
  simp only[fzs,RM.run]at h;injection h with h;subst h;exact⟨s.g,hi,.refl s,.refl _,rfl,λk cs q h=>by simp at h⟩
 |[],_::_,_,_,_,_,_,_,hc=>by grind [jJ]
 |_::_,[],_,_,_,_,_,_,hc=>by grind [jJ]
 |x::xs,q::e,s,y,hi,o,r,h,hc=>by
  simp only[jJ,JW]at hc;simp only[fzs]at h;obtain⟨v,h1,h⟩:=bind_some h;obtain⟨j,h2,h⟩:=bind_some h;obtain⟨N,Q,h⟩:=bind_some h;simp only[RM.run]at h;injection h with h;subst h;have D:(ev x).run ⟨env,s.σ⟩=some v:=by cases x<;>simp_all [ev,RM.run]
  have O:=bH r D hc.1;obtain⟨I,i1,B,A,L,J⟩:=XZ hi o h2 O;obtain⟨G,i2,z,K,M,R⟩:=El (tmps:=tmps) he (s:=⟨upd j.2 s.σ,I,s.w⟩) i1 (o.trans A) (r.mono hi B) Q hc.2;refine⟨G,by grind [eM],by rw[eM];exact B.trans z,by rw[eM];exact A.trans K,by simp[M],λk cs q' F H=>?_⟩;cases k with
  |zero=>simp at F H;subst F H;exact⟨L,λi c u hc P=>J05.mono (s0:=⟨upd j.2 s.σ,I,s.w⟩) (s:=⟨upd N.2 (upd j.2 s.σ),G,s.w⟩) i1 z (J i c u hc P)⟩
  |succ k=>grind
theorem po{esz:Nat}(z:0<esz): ∀{parts:List (Nat×List PV)} {ps:List (Nat×Value)} {rows rows':List (List PV)} {cells:Array Value},
  yF esz parts rows=some rows'->parts.length=ps.length->
  (∀(k:Nat) i cs j v,parts[k]?=some (i,cs)->ps[k]?=some (j,v)->i=j/\cs.length=v.cells.size/\ ∀(m:Nat) c u,cs[m]?=some c->v.cells[m]?=some u->J05 s.w s.g.C c u)->
  pY s esz rows cells->cells.size=rows.length*esz->
  ∃e,Instr.fill (λi=>some (i*esz,esz)) cells ps=some e/\pY s esz rows' e/\rows'.length=rows.length/\e.size=rows.length*esz
 |[],[],rows,rows',cells,h,_,_,hr,hs=>by simp[yF]at h;subst h;exact⟨cells,rfl,hr,rfl,hs⟩
 |[],_::_,_,_,_,_,hl,_,_,_=>by simp at hl
 |_::_,[],_,_,_,_,hl,_,_,_=>by simp at hl
 |(i,cs)::parts,(j,v)::ps,rows,rows',cells,h,hlen,hp,hr,hs=>by
  unfold yF at h;split at h;rename_i hc;obtain⟨rfl,L,B⟩:=hp 0 i cs j v rfl rfl;have D:i*esz+esz<=rows.length*esz:=(by have:=zQ4 esz (show i+1<=rows.length from hc.2);grind);obtain⟨o,M,O,F,E⟩:=pw (place:=λi=>some (i*esz,esz)) (v:=v) (rest:=ps) (cells:=cells) (i:=i) rfl (by omega) (by omega);obtain⟨G,T,H⟩:=hr;obtain⟨e,R,Q,P,N⟩:=po z (cells:=o) h (by simpa using hlen) (λk i cs j v h1 h2=>hp (k+1) i cs j v (by simpa using h1) (by simpa using h2))
   ⟨λrow S=>by
     grind,by simp;omega,λk m row x n q=>by
     by_cases r:k=i;subst r;rw[AW hc.2]at n;injection n with n;subst n;have K:=Jn q;have y:m<v.cells.size:=by omega
     exact⟨v.cells[m],F m _ (by simp),B m x _ q (by simp)⟩;rw[EO (Ne.symm r)]at n;obtain⟨u,I,hrel⟩:=H k m row x n q;refine⟨u,?_,hrel⟩;rw[E _ ?_];exact I;have A:=Jn q;rw[G row (iD n)]at A;rcases zQ3 k i with y|J;grind [jT];right;have:=zQ4 esz (show i+1<=k by omega);grind⟩ (by simp;omega)
  grind;cases h
theorem OJ{t:TypeId}{n:Nat}(h:szT P t=some n): ∃i,P.info? t=some i/\i.size=n:=by simp_all [szT]
theorem ZH{t:TypeId}{v:Value}{i:TypeInfo}(h:zeT P t=some v)(hi:P.info? t=some i):i.zero=some v:=by
 grind [zeT]
theorem ZV{t:TypeId}{n:Nat}{i:TypeInfo}(h:byT P t=some n)(hi:P.info? t=some i):i.bytes=n:=by
 grind [byT]
theorem JIv{z:Array Value}{esz n i j:Nat}(hz:z.size=esz)(hi:i<n)(hj:j<esz):(madeCells z (n*esz))[i*esz+j]?=z[j]?:=by
 grind [jT,Nat.add_mul_mod_self_right,Nat.mod_eq_of_lt,madeCells]
theorem rn{zero:List PV}{z:Value}{esz n m:Nat}(hl:zero.length=esz)(k:zero.length=z.cells.size)
  (g: ∀{w C} (i:Nat) x u,zero[i]?=some x->z.cells[i]?=some u->J05 w C x u) (q:n<=m):pY s esz (List.replicate n zero) (madeCells z.cells (m*esz)):=by
 refine⟨λrow v=>by simp_all,?_,λi j row x hi h=>?_⟩;simp_all [size_madeCells,zQ4];have e:=Jn hi;have:=List.eq_of_mem_replicate (iD hi);subst this;have o:=Jn h;simp at e;have r:z.cells.size=esz:=by omega
 refine⟨z.cells[j],?_,g j x _ h (by simp)⟩;grind [JIv]
theorem JDn(hi:Inv s)(he:bM s a.tmps env){own esz bytes zero l c}(hn:own=true->s.σ[new]?=some .dead)(h:(opR F (.mkslice own esz bytes zero l c) new).run ⟨env,s.σ⟩=some e)
  (hc:JY P (.mkslice own esz bytes zero l c) o.op=true):bO P o a s e:=by
 simp only[opR]at h;obtain⟨u,h1,D⟩:=bind_some h;obtain⟨v,h2,g⟩:=bind_some D;clear h D;unfold JY at hc;simp only at hc;split at hc;rename_i t l' c' Z;simp only[JW]at hc;obtain⟨⟨W,C⟩,ht⟩:=hc;have T:=bH he h1 W;have U:=bH he h2 C;split at ht;rename_i el E;simp only[JW,beq_iff_eq,decide_eq_true_eq]at ht;obtain⟨⟨⟨⟨⟨Y,K⟩,V⟩,H⟩,R⟩,Q⟩:=ht;obtain⟨i,j,I⟩:=OJ Y;obtain⟨z,G,J,L⟩:=vG V;have O:=ZV K j;split at g;rename_i k n S m;split at g;rename_i r;obtain⟨M,N,hb,hm⟩:=r;have e1:=iA T;have e2:=iA U;have A:=run_make (P:=P) s.w t el i z (hI E) j (ZH G j) k S n m M N (by simp_all) (by omega);rw[I]at A;have q:pY s esz (List.replicate n.toNat zero) (madeCells z.cells (m.toNat*esz)):=rn H J L (by omega);have x:(execOp a.eval o).run P s.w=.ok (.value (.slice (some ⟨s.w.heap.size,0,none⟩) n.toNat m.toNat)) (s.w.alloc (.cells (madeCells z.cells (m.toNat*esz)) el)):=by simp_all [execOp]
 split at g;rename_i y;simp only[RM.run]at g;injection g with g;subst g;obtain⟨g',B,t',r'⟩:=dc hi (hn y) (w':=s.w.alloc (.cells (madeCells z.cells (m.toNat*esz)) el)) (fz:=(0,0)) rfl rfl rfl (uJ.zero _ _) q (cap:=m.toNat) (by simp;omega) (by simp[size_madeCells]);simp only[GB]at r';exact gB x B t' r';simp only[RM.run]at g;injection g with g;subst g;obtain⟨g',B,t',r'⟩:=ew hi (w':=s.w.alloc (.cells (madeCells z.cells (m.toNat*esz)) el)) (fz:=(0,0)) rfl rfl rfl q (cap:=m.toNat) (by simp;omega);simp only[GB]at r';exact gB (e:=⟨_,[]⟩) x B t' r';cases g;cases g;cases ht;cases hc
theorem JKp(hi:Inv s)(he:bM s a.tmps env){own esz n zero parts}(hn:own=true->s.σ[new]?=some .dead)(h:(opR F (.lits own esz n zero parts) new).run ⟨env,s.σ⟩=some e)
  (hc:JY P (.lits own esz n zero parts) o.op=true):bO P o a s e:=by
 simp only[opR]at h;obtain⟨y,h1,r⟩:=bind_some h;clear h;unfold JY at hc;simp only at hc;split at hc;rename_i t len ps ad;simp only[JW,beq_iff_eq]at hc;obtain⟨rfl,ht⟩:=hc;split at ht;rename_i el I;simp only[JW,beq_iff_eq,decide_eq_true_eq]at ht;obtain⟨⟨⟨⟨⟨hs,ae⟩,hz⟩,Y⟩,M⟩,hidx⟩:=ht;obtain⟨z,V,Z,a3⟩:=vG hz;have A:jJ (parts.map (·.2)) (ps.toList.map (·.2))=true/\parts.map (·.1)=ps.toList.map (·.1):=by
  have: ∀{p:List (Nat×Opd)} {q:List (Nat×Operand)},HI p q=true->jJ (p.map (·.2)) (q.map (·.2))=true/\p.map (·.1)=q.map (·.1):=by
   intro p
   induction p with
   |nil=>intro q h;cases q<;>simp[HI]at h⊢;rfl
   |cons x p ih=>intro q h;cases q<;>grind [HI,jJ]
  exact this hidx
 obtain⟨S,i1,t1,f1,l1,r1⟩:=El (tmps:=a.tmps) (λn x hx=>let⟨v,h,_⟩:=he n x hx;⟨v,h⟩) hi (.refl _) he h1 A.1;split at r;rename_i rows G;have E:(parts.map (·.1)).length=(ps.toList.map (·.1)).length:=by rw[A.2]
 simp at E;simp at l1;have Q:((parts.map (·.1)).zip y.1).length=(ps.toList.map λx=>(x.1,a.eval x.2)).length:=by simp;omega
 obtain⟨g,N,r2,B,U⟩:=po (s:=⟨upd y.2 s.σ,S,s.w⟩) M (ps:=ps.toList.map λx=>(x.1,a.eval x.2)) (cells:=madeCells z.cells (len*esz)) G Q (λk i cs j v hk R=>by
   rw[List.getElem?_zip_eq_some]at hk;obtain⟨H,T⟩:=hk;rw[fB]at R;cases hpk:ps.toList[k]? with
   |none=>simp_all
   |some q=>
    simp[hpk]at R;obtain⟨rfl,rfl⟩:=R;rw[A.2,fB,hpk]at H;simp at H;obtain⟨k3,k4⟩:=r1 k cs q.2 T (by simp_all);grind)
  (rn Y Z a3 (zQ0 _)) (by simp[size_madeCells])
 simp at B U;have J:(execOp a.eval o).run P s.w=.ok (.value (.slice (some ⟨s.w.heap.size,0,none⟩) len len)) (s.w.alloc (.cells g el)):=by
  have D: ¬(len*esz>2^24):=by omega
  have K:(ps.map fun(x:Nat×Operand)=>(x.1,a.eval x.2)).toList=ps.toList.map λx=>(x.1,a.eval x.2):=by simp
  have hb:(Instr.buildSlice t len (ps.map fun(x:Nat×Operand)=>(x.1,a.eval x.2))).run P s.w=.ok (.slice (some ⟨s.w.heap.size,0,none⟩) len len) (s.w.alloc (.cells g el)):=by
   unfold Instr.buildSlice;by_cases h0:len*esz=0;have C:madeCells z.cells (len*esz)= #[]:=by grind [madeCells]
   rw[C]at N;have W: ¬((0:Nat)>2^24):=by decide
   have a2:Array.range 0= #[]:=rfl;simp only[W,xD,run_underlying (hI I),rM,gN hs,D,if_false,h0,if_true,SE,K,a2,Array.map_empty,N,newRow,run_newObj];rfl;have C:((Array.range (len*esz)).map λx=>z.cells[x%z.cells.size]!)=madeCells z.cells (len*esz):=rfl;simp only[xD,run_underlying (hI I),rM,gN hs,D,if_false,h0,DA V,SE,K,C,N,newRow,run_newObj];rfl
  simp_all [execOp]
 split at r;rename_i L;simp only[RM.run]at r;injection r with r;subst r;have a0:(upd y.2 s.σ)[new]?=some .dead:=f1.2 _ _ (hn L) (by simp);obtain⟨g',O,t',r'⟩:=dc (s0:=⟨upd y.2 s.σ,S,s.w⟩) i1 a0 (w':=s.w.alloc (.cells g el)) (fz:=(0,0)) rfl rfl rfl (uJ.zero _ _) r2 (cap:=len) (by omega) (by omega);rw[B]at r';refine gB (e:=⟨_,y.2++[(new,.arr true esz rows)]⟩) (g':=g') J ?_ ?_ ?_;rw[eM];exact O;rw[eM];exact t1.trans t';rw[eM];exact r';simp only[RM.run]at r;injection r with r;subst r;obtain⟨g',O,t',r'⟩:=ew (s0:=⟨upd y.2 s.σ,S,s.w⟩) i1 (w':=s.w.alloc (.cells g el)) (fz:=(0,0)) rfl rfl rfl r2 (cap:=len) (by omega);rw[B]at r';exact gB (e:=⟨_,y.2⟩) J O (t1.trans t') r';cases r;cases ht;cases hc
end
end Go.Am
end
section
namespace Go.Am
section
variable {P:Program} {F:Orc} {s:Sn} {a:Act} {env:List (Nat×AV)} {o:Oper} {new:Nat} {e:Eff}
theorem sk(l:List UInt8)(c:Array Value)(hc: ∀(i:Nat) b,l[i]?=some b->c[i]?=some (.int .u8 b.toNat))(hl:l.length<=c.size):pY s 1 (l.map lY) c:=by
 refine⟨λrow g=>?_,by simpa using hl,λi j row x hi e=>?_⟩;obtain⟨b,_,rfl⟩:=hX.1 g;rfl;rw[fB]at hi;cases hli:l[i]? with
 |none=>simp_all
 |some b=>
  simp[hli]at hi;subst hi;have:j=0:=by grind [lY]
  subst this;simp[lY]at e;subst e;exact⟨_,by simp_all,.i _ _⟩
theorem E4{α:Type}{esz:Nat}: ∀{rows:List (List α)},(∀row∈rows,row.length=esz)-> ∀{i j:Nat} {row:List α} {x:α},rows[i]?=some row->row[j]?=some x->rows.flatten[i*esz+j]?=some x
 |[],_,i,j,row,x,h,_=>by simp at h
 |r0::g,e,i,j,row,x,h,n=>by
  have o:r0.length=esz:=e r0 (by simp);cases i with
  |zero=>
   grind
  |succ i=>
   simp only[pS];rw[dE (by grind)];have:=E4 (rows:=g) (λrow k=>e row (by simp[k])) (by simpa using h) n;grind
theorem H8{el:TypeId}(l:List UInt8)(w:World): ∃w' cap c fz,(Conv.stringToBytes el ⟨l.toArray⟩).run P w=.ok (.slice (some ⟨w.heap.size,0,none⟩) l.length cap) w'/\
  w'.heap=w.heap.push (.cells c el fz)/\w'.os=w.os/\w'.output=w.output/\BF fz 0 c.size/\l.length<=cap/\c.size=cap/\ ∀(i:Nat) b,l[i]?=some b->c[i]?=some (.int .u8 b.toNat):=by
 have k:(Question.appendCap l.length 0 el).forced=false:=rfl;have e:l.length<=(Question.appendCap l.length 0 el).cut (w.tape w.drawn (.appendCap l.length 0 el)):=by simp[Question.cut]
 generalize j:(Question.appendCap l.length 0 el).cut (w.tape w.drawn (.appendCap l.length 0 el))=cap at e
 let c:Array Value:=(l.toArray.map λb=>Value.int .u8 b.toNat)++Array.replicate (cap-l.length) (.int .u8 0)
 have hc:c.size=cap:=by simp[c];omega
 refine⟨({w with drawn:=w.drawn+1,heap:=w.heap.push (.cells c el)}).freeze {block:=w.heap.size,off:=c.size} 1,cap,c,(c.size,c.size+1),?_,?_,?_,?_,?_,e,hc,?_⟩;unfold Conv.stringToBytes;have n:ByteArray.size ⟨l.toArray⟩=l.length:=sH l;have g:World.shape? {w with drawn:=w.drawn+1,heap:=w.heap.push (.cells c el)} w.heap.size=some (el,c.size):=by simp[World.shape?]
 have q:(Array.map (λb=>Value.int IntKind.u8 ↑(UInt8.toNat b)) l.toArray++Array.replicate (cap-l.length) (Value.int IntKind.u8 0))=c:=rfl;simp only[xD,run_choose,n,k,dU,if_false,rM,j,newRow,run_newObj,SE,markStringish,run_shape,run_freeze,q,g];grind [World.freeze];simp[World.freeze];simp[World.freeze];intro o _ h;simp;omega;grind
theorem JE0(hi:Inv s)(he:bM s a.tmps env){own x}(hn:own=true->s.σ[new]?=some .dead)(h:(opR F (.conv (.toBytes own) x) new).run ⟨env,s.σ⟩=some e)
  (hc:JY P (.conv (.toBytes own) x) o.op=true):bO P o a s e:=by
 simp only[opR]at h;obtain⟨u,h1,g⟩:=bind_some h;clear h;unfold JY at hc;simp only at hc;split at hc;rename_i K dst y I;simp only[JW]at hc;obtain⟨H,M,ht⟩:=hc;have E:=bH he h1 H;split at ht;rename_i el J;simp only[JW,beq_iff_eq]at ht;have r: ∃l,u=.p (.s l)/\(if own=true then RM.ret ⟨.slr new 0 l.length,[(new,.arr true 1 (l.map lY))]⟩else RM.ret ⟨.p (.sl 1 (l.map lY)),[]⟩:RM Eff).run ⟨env,s.σ⟩=some e:=by
  cases u with
  |p c=>cases c with|s l=>simp_all|_=>cases g
  |_=>cases g
 clear g;obtain⟨l,rfl,g⟩:=r
 skip
 obtain⟨w',cap,c,fz,D,A,z,v,G,C,hcs,B⟩:=H8 (P:=P) (el:=el) l s.w;have L:=rZ E;have k:(execOp a.eval o).run P s.w=.ok (.value (.slice (some ⟨s.w.heap.size,0,none⟩) l.length cap)) w':=by simp_all [execOp,convert,run_underlying,vC,hI,pb]
 have j:=sk (s:=s) l c B (by omega);split at g;rename_i n;simp only[RM.run]at g;injection g with g;subst g;obtain⟨g',q,t',r'⟩:=dc (esz:=1) hi (hn n) A z v ⟨G,λh=>absurd rfl h⟩ j (cap:=cap) (by simp_all) (by omega);simp only[dP]at r';exact gB k q t' r';simp only[RM.run]at g;injection g with g;subst g;obtain⟨g',q,t',r'⟩:=ew hi A z v j (cap:=cap) (by simp_all);simp only[dP]at r';exact gB (e:=⟨_,[]⟩) k q t' r';cases ht;cases hc
theorem Ct(hi:Inv s){esz:Nat}{x:AV}{new:List (List PV)}{v:Value}{u:TypeId}(h:(eY esz x).run ⟨env,s.σ⟩=some new)(hr:JA s x v)
  (hu:(elT P u).isSome=true\/iS P u=true):
  ∃news,Src P esz u v new.length news s.w/\(∀row∈new,row.length=esz)/\
   ∀(i j:Nat) row y,new[i]?=some row->row[j]?=some y-> ∃q,news[i*esz+j]?=some q/\J05 s.w s.g.C y q:=by
 have e:(∃e',P.underlying u=some (.slice e'))\/P.underlying u=some .string:=(by rcases hu with hu|hu;obtain⟨e',N⟩:=iu.1 hu;simp_all [hI];grind [vC]);rcases qv hi h hr with⟨l,rfl,rfl,rfl,rfl⟩|E;have hlen:(byteCells ⟨l.toArray⟩).length=l.length:=by rw[byteCells_length,sH]
 have Q: ∀w:World,(Builtin.firstCells 1 l.length (.string ⟨l.toArray⟩)).run P w=.ok (byteCells ⟨l.toArray⟩).toArray w:=(by grind [firstCells_string,sH]);refine⟨byteCells ⟨l.toArray⟩,⟨e,λw=>by rw[dP,<-sH];rfl,by simp_all,by simp_all,by rw[hlen];simp,λq H=>by obtain⟨_,_,rfl⟩:=hX.1 H;rfl⟩,λrow hr=>?_,?_⟩;obtain⟨b,_,rfl⟩:=hX.1 hr;rfl;have:=(sk (s:=s) l (byteCells ⟨l.toArray⟩).toArray (λi b R=>by
  grind [byteCells]) (by simp_all)).2.2
 simp_all;obtain⟨ad,cap,vs,K,F,hlen,hrel,A,n⟩:=E.cells;have z: ∀q∈vs,q.oneCell'=true:=by
  intro q H;obtain⟨k,I⟩:=fL H;have M:=Jn I;have:k<new.flatten.length:=by grind [OW]
  obtain⟨q',o,hr⟩:=hrel k _ (JV this);rw[I]at o;injection o with o;subst o;exact hr.one
 have B: ∀(i j:Nat) row y,new[i]?=some row->row[j]?=some y-> ∃q,vs[i*esz+j]?=some q/\J05 s.w s.g.C y q:=by
  intro i j row y h1 h2;refine hrel _ _ ?_;clear hrel A hlen z h hr K F E
  induction new generalizing i with
  |nil=>simp at h1
  |cons J new ih=>have O:J.length=esz:=n J (by simp);cases i<;>grind
 subst K;rcases A with G|⟨r,L,rfl,S⟩;subst G;simp at hlen;subst hlen;refine⟨[],?_,n,B⟩;cases ad with
 |none=>exact⟨e,λ_=>rfl,run_firstCells_none s.w esz 0 0 cap,run_firstCells_none s.w.drew esz 0 0 cap,by simp,λ_ h=>by cases h⟩
 |some ad=>exact⟨e,λ_=>rfl,run_firstCells_some s.w esz 0 ad 0 cap [] (by simp) (λj u h=>by simp at h),run_firstCells_some s.w.drew esz 0 ad 0 cap [] (by simp) (λj u h=>by simp at h),by simp,λ_ h=>by cases h⟩
 have D: ∀j q,vs[j]?=some q->s.w.cell? (Addr.add ⟨r,L,none⟩ j)=some q:=λj q T=>by grind [yE,nK]
 exact⟨vs,⟨e,λ_=>rfl,run_firstCells_some s.w esz _ _ _ cap vs hlen D,run_firstCells_some s.w.drew esz _ _ _ cap vs hlen (by simpa using D),hlen,z⟩,n,B⟩
theorem NU(b:Nat)(x:Blk)(σ:List Blk):upd [(b,x)] σ=σ.set b x:=rfl
structure A3(P:Program)(esz bytes:Nat)(t ut ty el:TypeId)(z v:Value)(n:Nat)(news:List Value)(w:World):Prop where
 newsLen:news.length=n*esz
 room: ∀(r off sLen sCap:Nat),sLen+n<=sCap->(∀j,j<news.length->(w.cell? ⟨r,off+sLen*esz+j,none⟩).isSome=true)->(∀j,j<news.length->w.frozen? ⟨r,off+sLen*esz+j,none⟩=false)->
  (Builtin.append_ #[t,ut] ty #[.slice (some ⟨r,off,none⟩) sLen sCap,v]).run P w=.ok (.slice (some ⟨r,off,none⟩) (sLen+n) sCap) (w.setCells r (off+sLen*esz) news)
 grow: ∀(base:Option Addr) (sLen sCap:Nat) (olds:List Value),(Builtin.firstCells esz sLen (.slice base sLen sCap)).run P w.drew=.ok olds.toArray w.drew->sCap<sLen+n->((sLen+n:Nat):Int)<=9223372036854775807->
  Builtin.nextslicecap (sLen+n) sCap*bytes<=281474976710656->
  (Builtin.append_ #[t,ut] ty #[.slice base sLen sCap,v]).run P w=.ok (.slice (some ⟨w.heap.size,0,none⟩) (sLen+n) (grownCap w (sLen+n) sCap el)) (w.drew.alloc (.cells ((olds++news).toArray++Builtin.zeroCells z.cells (grownCap w (sLen+n) sCap el-(sLen+n))) el))
 nil:n=0->(Builtin.append_ #[t,ut] ty #[.slice none 0 0,v]).run P w=.ok (.slice none 0 0) w
theorem Src.gen{esz bytes:Nat}{t ut ty el:TypeId}{i:TypeInfo}{z v:Value}{n:Nat}{news:List Value}{w:World}(g:elT P t=some el)(hs:szT P el=some esz)(j:P.info? el=some i)(x:i.size=esz)(y:i.bytes=bytes)(k:i.zero=some z)
  (h:Src P esz ut v n news w):A3 P esz bytes t ut ty el z v n news w:=by
 have e:=h;rw[<-x]at e;refine⟨h.newsLen,λr off sLen sCap h1 h2 B=>?_,λbase sLen sCap olds h1 h2 B E=>?_,λD=>?_⟩;have C:=run_append_room_src (P:=P) w t ut ty el i (hI g) j r off sLen sCap v n news e h1 (by simp_all) (by simp_all);simp_all;exact run_append_grow_src (P:=P) w t ut ty el i z (hI g) j k base sLen sCap olds (by simp_all) v n news e h2 B (by simp_all);subst D;have A:=h.len w;have o:=h.cells;rcases h.kind with⟨e',q⟩|q;simp[Builtin.append_,run_underlying (hI g),run_underlying q,gN hs,A,o];simp[Builtin.append_,run_underlying (hI g),run_underlying q,gN hs,A,o]
theorem JG3(hi:Inv s){esz bytes:Nat}{zero:List PV}{u v:AV}{c:Call}{x' y':Operand}{t ut el:TypeId}(ba:o.op=.call c)(ax:c.callee=.builtin .append)
  (af:c.args.toList=[x',y']) (bu:c.argTypes.toList=[t,ut]) (ci:elT P t=some el)
  (ht:(szT P el==some esz&&byT P el==some bytes&&lM P zero el&&zero.length==esz&&decide (0<esz)&&decide (0<bytes))=true)
  (rx:JA s u (a.eval x')) (hG: ∀(i:TypeInfo) (z:Value) (new:List (List PV)),szT P el=some esz->P.info? el=some i->i.size=esz->i.bytes=bytes->i.zero=some z->zeT P el=some z->zero.length=z.cells.size->new.length*bytes<=281474976710656->new.length<=281474976710656->(eY esz v).run ⟨env,s.σ⟩=some new->
   ∃news,A3 P esz bytes t ut o.type el z (a.eval y') new.length news s.w/\(∀row∈new,row.length=esz)/\
    ∀(i j:Nat) row y,new[i]?=some row->row[j]?=some y-> ∃q,news[i*esz+j]?=some q/\J05 s.w s.g.C y q)
  (x:(iH esz bytes u v).run ⟨env,s.σ⟩=some e):bO P o a s e:=by
 simp only[JW,beq_iff_eq,decide_eq_true_eq]at ht;obtain⟨⟨⟨⟨⟨hs,b5⟩,hz⟩,ca⟩,bm⟩,ai⟩:=ht;obtain⟨i,N,b1⟩:=OJ hs;obtain⟨z,an,cj,cb⟩:=vG hz;have K:=ZV b5 N;have ag:=ZH an N;have hm:c.args.map a.eval= #[a.eval x',a.eval y']:=by apply EQ;simp[af]
 have b2:c.argTypes= #[t,ut]:=by grind
 have a7: ∀{q:Value} {w':World},(Builtin.append_ #[t,ut] o.type #[a.eval x',a.eval y']).run P s.w=.ok q w'->(execOp a.eval o).run P s.w=.ok (.value q) w':=by intro q w' hr;simp[execOp,ba,resolve,ax,hm,b2,invoke,builtin,hr]
 unfold iH at x;split at x;rename_i b j n;simp only[RM.run]at x;split at x;rename_i blk E;split at x;rename_i wm Z rows;obtain⟨h,h3,V⟩:=bind_some x;clear x;split at V;rename_i ac;obtain⟨rfl,rfl,rfl,ae⟩:=ac;simp only[RM.run]at V;injection V with V;subst V;have E:s.σ[b]?=some (.arr wm esz rows):=E;have ae:(2*(rows.length+h.length)+512)*bytes<=281474976710656:=by grind [kN]
 have bd:rows.length+h.length<=281474976710656:=by have h5:(2*(rows.length+h.length)+512)*1<=(2*(rows.length+h.length)+512)*bytes:=Nat.mul_le_mul_left _ ai;omega
 have aq:h.length*bytes<=281474976710656:=(by grind);obtain⟨news,J,F,Q⟩:=hG i z h hs N b1 K ag an (by omega) aq (by omega) h3;have a6:=J.newsLen;have L:=jO.of_slr hi rx E (by omega);simp only[wX]at L;generalize T:a.eval x'=zz at rx;have bs: ∀{O:Nat},O<rows.length+h.length->Builtin.nextslicecap (rows.length+h.length) O*i.bytes<=281474976710656:=by intro O ho;have h5:=nextslicecap_le ho;rw[K];have h6:Builtin.nextslicecap (rows.length+h.length) O*bytes<=(2*(rows.length+h.length)+512)*bytes:=zQ4 _ (by omega);omega
 have grow: ∀{base:Option Addr} {cap:Nat},zz=.slice base rows.length cap->cap<rows.length+h.length->
   bO P o a s ⟨.slr b 0 (rows.length+h.length),[(b,.arr wm esz (rows++h))]⟩:=by
  intro base cap al b4;rw[T]at L;obtain⟨ad,bj,vs,W,be,H,aa,ah,I⟩:=L.cells;rw[al]at W;injection W with v1 v2 v3;subst v1 v3;have av:(Builtin.firstCells esz rows.length (.slice base rows.length cap)).run P s.w.drew=.ok vs.toArray s.w.drew:=by
   rcases ah with ao|⟨r,o',rfl,cf⟩;subst ao;simp at H;subst H;cases base<;>grind [run_firstCells_none,run_firstCells_some]
   exact run_firstCells_some s.w.drew esz _ _ _ cap vs H (λj q hj=>by
   have:s.w.drew.cell? (Addr.add ⟨r,o',none⟩ j)=s.w.cell? (Addr.add ⟨r,o',none⟩ j):=by simp
   grind [yE,nK])
  have A:=J.grow base rows.length cap vs av b4 (by omega) (by grind);have am:rows.length+h.length<=grownCap s.w (rows.length+h.length) cap el:=by simp[grownCap,Question.cut]
  generalize grownCap s.w (rows.length+h.length) cap el=U at A am;have b0:h≠[]:=by grind
  have cd:z.cells.size=esz:=by omega
  obtain⟨i0,t0⟩:=ec (w':=s.w.drew) hi rfl rfl rfl;have bp:((vs++news).toArray++Builtin.zeroCells z.cells (U-(rows.length+h.length))).size=U*esz:=by
   have:U*esz=(rows.length+h.length)*esz+(U-(rows.length+h.length))*esz:=by rw[<-zQ8];congr 1;omega
   grind [size_zeroCells]
  obtain⟨g',bw,i',t'⟩:=JHL (s0:=⟨s.σ,s.g,s.w.drew⟩) i0 (w':=s.w.drew.alloc (.cells ((vs++news).toArray++Builtin.zeroCells z.cells (U-(rows.length+h.length))) el)) E b0 I F rfl rfl rfl
   (by grind) (λk m row q D hq=>by
    have R:=Jn hq;rcases xX D with D|⟨bo,D⟩;have a0:=Jn D;rw[I row (iD D)]at R;have au:=jT a0 R;have b6:=E4 I D hq;obtain⟨w,hw,hrel⟩:=aa _ q b6;refine⟨w,?_,hrel.mono hi t0⟩;grind;rw[F row (iD D)]at R;have a0:=Jn D;have au:=jT a0 R;obtain⟨w,hw,hrel⟩:=Q _ m row q D hq;have e4:k*esz+m=rows.length*esz+((k-rows.length)*esz+m):=(by grind [Nat.add_sub_cancel']);refine⟨w,?_,hrel.mono hi t0⟩;rw[TD (by simp;omega)];simp;rw[dE (by omega),<-hw];congr 1;omega)
  refine gB (e:=⟨.slr b 0 (rows.length+h.length),[(b,.arr wm esz (rows++h))]⟩) (g':=g') (a7 (by rw[T,al];exact A)) i' (t0.trans t') ?_;refine .slr b 0 _ _ wm esz (rows++h) ⟨_,_,rfl,.inr (by simp)⟩ (gT E) (by simp) λ_=>.inr ⟨_,U,_,el,(0,0),bw,by simp,am,IT rfl,?_⟩;grind
 cases rx with
 |slr _ _ _ _ wm' Z rows' q0 Y q2 q3=>
  have Y:s.σ[b]?=some (.arr wm' Z rows'):=Y;rw[E]at Y;injection Y with Y;injection Y with a1 a2 a3;subst a1 a2 a3;rcases q3 (by omega)with⟨m',_,b9,W⟩|⟨r,cap,cc,e1,fz,m',W,bg,hh,bx⟩;have ab:rows=[]:=List.eq_nil_of_length_eq_zero b9;subst ab;by_cases aw:h=[];subst aw;simp at a6;subst a6;subst W;have A:(Builtin.append_ #[t,ut] o.type #[.slice none 0 0,a.eval y']).run P s.w=.ok (.slice none 0 0) s.w:=by exact J.nil rfl
  have M:s.σ.set b (.arr wm esz [])=s.σ:=(by apply zQ6;grind);refine gB (e:=⟨.slr b 0 0,[(b,.arr wm esz [])]⟩) (g':=s.g) (a7 (by rw[T];exact A)) ?_ ?_ ?_;rw[NU,M];exact hi;rw[NU,M];exact .refl s;rw[NU,M];exact .slr b 0 0 _ wm esz [] ⟨none,0,rfl,.inl rfl⟩ E (zQ0 _) λ_=>.inl ⟨m',rfl,rfl,rfl⟩;grind [List.length_pos_iff];subst W;by_cases G:rows.length+h.length<=cap;rcases hi.arr b _ _ _ E with⟨B,_⟩|⟨r',c',e',ce,B,S,bt,hlen,cg,b8⟩;grind;rw[m']at B;injection B with B;injection B with B _;subst B;rw[hh]at S;injection S with S;injection S with w1 w2 w3;subst w1 w2 w3;have c1:(rows.length+h.length)*esz<=cc.size:=(by have:=zQ4 esz G;grind);have bq:(rows.length+h.length)*esz=rows.length*esz+h.length*esz:=zQ8 _ _ _;have a9:=DL (vs:=news) (o:=rows.length*esz) hh (by omega);obtain⟨i',t'⟩:=JJI hi E m' F a9 a6 Q;have A:=J.room r 0 rows.length cap G
   (λk D=>by rw[nK,hJ hh];simp;omega)
   (λk D=>by
    have:=b8.1 (0+rows.length*esz+k) (by omega) (by omega);grind [World.frozen?])
  simp only[jI]at A;obtain⟨c0,e0,ch,b3,p1,p2,p3,p4,p5,p6⟩:=a9.there;rw[hh]at p1;injection p1 with p1;injection p1 with w1 w2 w3;subst w1 w2 w3;refine gB (e:=⟨.slr b 0 (rows.length+h.length),[(b,.arr wm esz (rows++h))]⟩) (a7 (by rw[T];simpa using A)) i' t' ?_;refine .slr b 0 _ _ wm esz (rows++h) ⟨_,_,rfl,.inr (by simp)⟩ (gT E) (by simp) λ_=>.inr ⟨r,cap,b3,e1,fz,m',by simp,G,p2,by grind⟩;grind
 cases V;cases x;cases x;cases x
theorem nv(hi:Inv s){esz bytes:Nat}{zero:List PV}{u v:AV}{c:Call}{B A:Operand}{t ut el:TypeId}(x:o.op=.call c)(r:c.callee=.builtin .append)
  (h:c.args.toList=[B,A]) (n:c.argTypes.toList=[t,ut]) (z:((elT P ut).isSome||iS P ut)=true) (k:elT P t=some el)
  (ht:(szT P el==some esz&&byT P el==some bytes&&lM P zero el&&zero.length==esz&&decide (0<esz)&&decide (0<bytes))=true)
  (D:JA s u (a.eval B)) (E:JA s v (a.eval A)) (y:(iH esz bytes u v).run ⟨env,s.σ⟩=some e):bO P o a s e:=
 JG3 hi x r h n k ht D (λ_ _ _ G q C g j _ _ _ _ F=>by obtain⟨news,w,h1,h2⟩:=Ct (u:=ut) hi F E (Bool.or_eq_true_iff.1 z);exact⟨news,Src.gen k G q C g j w,h1,h2⟩) y
theorem JLi(hi:Inv s)(he:bM s a.tmps env){esz bytes zero x y}(h:(opR F (.app esz bytes zero x y) new).run ⟨env,s.σ⟩=some e)(hc:JY P (.app esz bytes zero x y) o.op=true):bO P o a s e:=by
 simp only[opR]at h;obtain⟨u,h1,r⟩:=bind_some h;obtain⟨v,h2,q⟩:=bind_some r;clear h r;unfold JY at hc;simp only at hc;split at hc;rename_i c n;split at hc;rename_i k;split at hc;rename_i D C t ut g j;simp only[JW]at hc;obtain⟨⟨⟨B,A⟩,w⟩,ht⟩:=hc;split at ht;rename_i el z;exact nv hi n k g j w z (by omega) (bH he h1 B) (bH he h2 A) q;cases ht;cases hc;cases hc;cases hc
theorem JKn(hi:Inv s)(he:bM s a.tmps env)(hn:s.σ[new]?=some .dead){esz bytes zero y}(h:(opR F (.appn esz bytes zero y) new).run ⟨env,s.σ⟩=some e)(hc:JY P (.appn esz bytes zero y) o.op=true):bO P o a s e:=by
 simp only[opR]at h;obtain⟨v,h2,G⟩:=bind_some h;obtain⟨rows,j,k⟩:=bind_some G;clear h G;unfold JY at hc;simp only at hc;split at hc
 ·rename_i c E;split at hc
  ·rename_i D;split at hc
   ·rename_i U t ut x B;simp only[JW]at hc;obtain⟨⟨R,H⟩,ht⟩:=hc;split at ht
    ·rename_i el I;split at k
     ·rename_i K;simp only[RM.run]at k;injection k with k;subst k
      obtain⟨i1,J⟩:=ON hi hn esz;have A:(s.σ.set new (.arr true esz []))[new]?=some (.arr true esz []):=gT hn;have N:JA ⟨s.σ.set new (.arr true esz []),eS s.g new none,s.w⟩ (.slr new 0 0) (a.eval (.const (.slice none 0 0))):=
       .slr new 0 0 _ true esz [] ⟨none,0,rfl,.inl rfl⟩ A (zQ0 _) λ_=>.inl ⟨if_pos rfl,rfl,rfl,rfl⟩
      have O:=(bH he h2 R).mono hi J;have T:(eY esz v).run ⟨env,s.σ.set new (.arr true esz [])⟩=some rows:=by
       cases v with
       |slr b i n=>
        grind [eY,RM.run]
       |p c=>cases c<;>simp only[eY]at j⊢ <;>first|exact j|(split at j<;>rename_i S<;>first|(rw[if_pos S];exact j)|cases j)|cases j
       |_=>cases j
      have C:(iH esz bytes (.slr new 0 0) v).run ⟨env,s.σ.set new (.arr true esz [])⟩=some ⟨.slr new 0 rows.length,[(new,.arr true esz rows)]⟩:=(by grind [iH,RM.run,run_bind]);have ok:=nv (s:=⟨s.σ.set new (.arr true esz []),eS s.g new none,s.w⟩) i1 E D x B H I (by omega) N O C;intro next Q z;refine ok next Q λL w' g' hi' r q=>?_;have M:upd [(new,Blk.arr true esz rows)] (s.σ.set new (.arr true esz []))=upd [(new,Blk.arr true esz rows)] s.σ:=by simp[NU]
      simp only at hi' r q;rw[M]at hi' r q;exact z L w' g' hi' (J.trans r) q
     cases k
    cases ht
   cases hc
  cases hc
 cases hc
end
end Go.Am
end
section
namespace Go.Am
section
variable {P:Program} {F:Orc} {s:Sn} {a:Act} {env:List (Nat×AV)} {o:Oper} {new:Nat} {e:Eff}
theorem n9{x:Opd}{v:AV}(h:(ev x).run ⟨env,s.σ⟩=some v):(evo (some x)).run ⟨env,s.σ⟩=some (some v):=by simp[evo,run_bind,h,RM.run]
theorem JKh(hi:Inv s)(he:bM s a.tmps env){esz x hh}(h:(opR F (.ppre esz x hh) new).run ⟨env,s.σ⟩=some e)(hc:JY P (.ppre esz x hh) o.op=true):bO P o a s e:=by
 simp only[opR]at h;obtain⟨u,h1,J⟩:=bind_some h;obtain⟨l,h2,B⟩:=bind_some J;clear h J;have h:=B;clear B;unfold JY at hc;simp only at hc;split at hc
 case h_2=>cases hc
 rename_i t U hi' A;simp only[JW]at hc;obtain⟨⟨V,W⟩,ht⟩:=hc;have N:=bH he h1 V;unfold rC at h;split at h
 case h_2=>cases h
 rename_i b i n T k;simp only[RM.run]at h;split at h
 case h_2=>cases h
 rename_i blk q;split at h
 case h_2=>cases h
 rename_i j E rows;have q:s.σ[b]?=some (.arr j E rows):=q;split at h
 case isFalse=>cases h
 rename_i Z;obtain⟨rfl,hn,K,a5⟩:=Z;simp only[RM.run]at h;injection h with h;subst h;split at ht
 case h_2=>cases ht
 rename_i el C;simp only[beq_iff_eq]at ht;have G:mS n none (some (.p (.i T k)))=some (0,k.toNat):=by unfold mS lZ;simp only;rw[if_pos ⟨K,by omega⟩]
 have D: ∀cap,n<=cap->(Instr.sliceBounds true n cap none (some (a.eval hi')) none).run P s.w=.ok (0,k.toNat,cap) s.w:=λcap g=>
  (KA (P:=P) (isSlice:=true) he (lo:=none) (lo':=none) (hi:=some hh) (hi':=some hi') rfl (n9 h2) rfl W G g s.w).1
 generalize R:a.eval U=z at N;cases N with
 |slr _ _ _ _ wm Y rows' q0 y q2 q3=>
  rw[q]at y;injection y with y;injection y with a1 a2 a3;subst a1 a2 a3;rcases q3 (by omega)with⟨m,_,Q,I⟩|⟨r,cap,S,e1,fz,m,I,g,O,M⟩;subst Q I;have L:k.toNat=0:=by omega
  have H:=D 0 (zQ0 _);refine JG hi (v:=.slice none 0 0) ?_ (.pre b 0 k.toNat _ j E rows ⟨none,0,by rw[L]⟩ q (by omega) (by omega) λ_=>.inl ⟨rfl,rfl⟩);simp only[execOp,A,R];simp[Instr.sliceAt,Instr.slice,run_underlying (hI C),H,gN ht,L];subst I;have H:=D cap g;refine JG hi (v:=.slice (some ⟨r,0,none⟩) k.toNat cap) ?_ (.pre b n k.toNat _ j E rows ⟨_,_,rfl⟩ q (by omega) (by omega) λ_=>.inr ⟨r,cap,S,e1,fz,m,rfl,g,O,by simpa using M⟩);simp only[execOp,A,R];simp[Instr.sliceAt,Instr.slice,run_underlying (hI C),H,gN ht,Addr.add]
theorem JK9(hi:Inv s)(he:bM s a.tmps env){esz x hh}(h:(opR F (.psuf esz x hh) new).run ⟨env,s.σ⟩=some e)(hc:JY P (.psuf esz x hh) o.op=true):bO P o a s e:=by
 simp only[opR]at h;obtain⟨u,h1,D⟩:=bind_some h;obtain⟨l,h2,y⟩:=bind_some D;clear h D;have h:=y;clear y;unfold JY at hc;simp only at hc;split at hc
 case h_2=>cases hc
 rename_i t O hi' C;simp only[JW]at hc;obtain⟨⟨Q,R⟩,ht⟩:=hc;have H:=bH he h1 Q;unfold rO at h;split at h
 case h_2=>cases h
 rename_i b i n N k;simp only[RM.run]at h;split at h
 case h_2=>cases h
 rename_i blk j;split at h
 case h_2=>cases h
 rename_i A U rows;have j:s.σ[b]?=some (.arr A U rows):=j;split at h
 case isFalse=>cases h
 rename_i V;obtain⟨rfl,hn,G,a4⟩:=V;simp only[RM.run]at h;injection h with h;subst h;split at ht
 case h_2=>cases ht
 rename_i el E;simp only[beq_iff_eq]at ht;have B:mS n (some (.p (.i N k))) none=some (k.toNat,n):=by unfold mS lZ;simp only;rw[if_pos ⟨G,by omega⟩]
 have J: ∀cap,n<=cap->(Instr.sliceBounds true n cap (some (a.eval hi')) none none).run P s.w=.ok (k.toNat,n,cap) s.w:=λcap g=>
  (KA (P:=P) (isSlice:=true) he (hi:=none) (hi':=none) (lo:=some hh) (lo':=some hi') (n9 h2) rfl R rfl B g s.w).1
 generalize Y:a.eval O=z at H;cases H with
 |slr _ _ _ _ wm S rows' q0 q q2 W=>
  rw[j]at q;injection q with q;injection q with a1 a2 a3;subst a1 a2 a3;rcases W (by omega)with⟨m,a5,a7,L⟩|⟨r,cap,M,e1,fz,m,L,g,I,a6⟩;omega;subst L;have Z:=J cap g;have T:(i+k.toNat+(cap-k.toNat))*esz=(i+cap)*esz:=by congr 1;omega
  refine JG hi (v:=.slice (some ⟨r,(i+k.toNat)*esz,none⟩) (n-k.toNat) (cap-k.toNat)) ?_ ?_;simp only[execOp,C,Y];have K: ¬cap=k.toNat:=by omega
  simp[Instr.sliceAt,Instr.slice,run_underlying (hI E),Z,gN ht,Addr.add,K,zQ8];exact .slr b _ _ _ A esz rows ⟨_,_,rfl,.inr (by simp)⟩ j (by omega) λ_=>.inr ⟨r,cap-k.toNat,M,e1,fz,m,rfl,by omega,I,by omega⟩
theorem q8{σ:List Blk}{g:Gh}{w:World}{b n m esz cap:Nat}{ad:Option Addr}{rows:List (List PV)}(hi:Inv ⟨σ,g,w⟩)(hb:σ[b]?=some (.arr true esz rows))(hr:JA ⟨σ,g,w⟩ (.slr b 0 n) (.slice ad n cap))(hn:n=rows.length)(hm:m<=n):
  ∃g',Inv ⟨σ.set b (.arr false esz rows),g',w⟩/\aW ⟨σ,g,w⟩ ⟨σ.set b (.arr false esz rows),g',w⟩/\JA ⟨σ.set b (.arr false esz rows),g',w⟩ (.p (.sl esz (rows.take m))) (.slice ad m cap):=by
 subst hn;obtain⟨g',h1,h2,v,e⟩:=pk hi hr hb (by omega);refine⟨g',h1,h2,.p _ _ ?_⟩;rw[wX]at e;obtain⟨r,k,q,o,hrel⟩:=YL (s:=⟨σ.set b (.arr false esz rows),g',w⟩) (i:=0) (j:=m) e (zQ2 _) hm;injection q with v1 _ v3;subst v1 v3;have h:(if cap=0 then ad else ad.map (·.add (0*esz)))=ad:=by
  split;rfl;cases ad with
  |none=>rfl
  |some ad=>cases ad;simp[Addr.add]
 rw[h]at hrel;simpa using hrel
theorem JJK(hi:Inv s)(he:bM s a.tmps env){esz bytes zero x y}(h:(opR F (.appp esz bytes zero x y) new).run ⟨env,s.σ⟩=some e)(hc:JY P (.appp esz bytes zero x y) o.op=true):bO P o a s e:=by
 simp only[opR]at h;obtain⟨u,h1,h'⟩:=bind_some h;obtain⟨v,h2,D⟩:=bind_some h';clear h h';unfold JY at hc;simp only at hc;split at hc
 case h_2=>cases hc
 rename_i c bm;split at hc
 case h_2=>cases hc
 rename_i b5;split at hc
 case h_2=>cases hc
 rename_i x' y' t ut ah c7;simp only[JW]at hc;obtain⟨⟨⟨hx,hy⟩,ba⟩,ht⟩:=hc;split at ht
 case h_2=>cases ht
 rename_i el bg;have rx:=bH he h1 hx;have ry:=bH he h2 hy;simp only[JW,beq_iff_eq,decide_eq_true_eq]at ht;obtain⟨⟨⟨⟨⟨hs,bb⟩,hz⟩,cj⟩,bx⟩,ak⟩:=ht;obtain⟨i,S,b6⟩:=OJ hs;obtain⟨z,bn,cq,ck⟩:=vG hz;have a7:=ZV bb S;have ai:=ZH bn S;have hm:c.args.map a.eval= #[a.eval x',a.eval y']:=by apply EQ;simp[ah]
 have b7:c.argTypes= #[t,ut]:=by grind
 have aw: ∀{q:Value} {w':World},(Builtin.append_ #[t,ut] o.type #[a.eval x',a.eval y']).run P s.w=.ok q w'->(execOp a.eval o).run P s.w=.ok (.value q) w':=by intro q w' G;simp[execOp,bm,resolve,b5,hm,b7,invoke,builtin,G]
 unfold rJ at D;split at D
 case h_2=>cases D
 rename_i b n k;simp only[RM.run]at D;split at D
 case h_2=>cases D
 rename_i blk O;split at D
 case h_2=>cases D
 rename_i a6 rows;obtain⟨A,h3,h4⟩:=bind_some D;clear D;split at h4
 case isFalse=>cases h4
 rename_i af;obtain⟨rfl,cn,rfl,ag⟩:=af;simp only[RM.run]at h4;injection h4 with h4;subst h4;have O:s.σ[b]?=some (.arr true esz rows):=O;have ag:(2*(rows.length+A.length)+512)*bytes<=281474976710656:=by grind [kN]
 have bs:rows.length+A.length<=281474976710656:=by have h5:(2*(rows.length+A.length)+512)*1<=(2*(rows.length+A.length)+512)*bytes:=Nat.mul_le_mul_left _ ak;omega
 obtain⟨news,aj,ae,W⟩:=Ct (u:=ut) hi h3 ry (Bool.or_eq_true_iff.1 ba);have U:=Src.gen (ty:=o.type) bg hs S b6 a7 ai aj;have bo:=U.newsLen;generalize av:a.eval x'=zz at rx;cases rx with
 |pre _ _ _ _ wm' a6 rows' q0 q1 q2 q4 q3=>
  have q1:s.σ[b]?=some (.arr wm' a6 rows'):=q1;rw[O]at q1;injection q1 with q1;injection q1 with a1 a2 a3;subst a1 a2 a3;rcases q3 rfl with⟨h0,_⟩|⟨r,cap,cc,e1,fz,m',hv,bw,hh,T⟩;omega;subst hv;rcases hi.arr b _ _ _ O with⟨H,_⟩|⟨r',c',e',cm,H,Y,M,hlen,bc,be⟩;rw[m']at H;cases H;rw[m']at H;injection H with H;injection H with H _;subst H;rw[hh]at Y;injection Y with Y;injection Y with w1 w2 w3;subst w1 w2 w3;have ek:(rows.take k).length=k:=by rw[iJ];omega
  have Z: ∀row∈rows.take k++A,row.length=esz:=λrow G=>(zQ9.1 G).elim (λh=>M row (AK h)) (ae row);have C:(rows.take k++A).length=k+A.length:=by rw[dZ,ek]
  by_cases V:k+A.length<=cap;have b2:(k+A.length)*esz<=cc.size:=zQ1 (zQ4 esz V) T;have c3:(k+A.length)*esz=k*esz+A.length*esz:=zQ8 _ _ _;have ab:=DL (vs:=news) (o:=k*esz) hh (by omega);have J:=U.room r 0 k cap V
   (λj hj=>by rw[nK,hJ hh];simp;omega)
   (λj hj=>by
    have:=be.1 (0+k*esz+j) (by omega) (by omega);grind [World.frozen?])
  simp only[jI]at J;have hN:(rows.take k++A++rows.drop (k+A.length)).length=max rows.length (k+A.length):=by rw[dZ,C,nU];omega
  obtain⟨i1,t1⟩:=JJA (rows':=rows.take k++A++rows.drop (k+A.length)) hi O m'
   (λrow G=>(zQ9.1 G).elim (Z row) (λh=>M row (zQ7 h))) (by rw[hN];omega) ab
   (λc0 c1 k1 k2 N k4 k5=>by
    obtain⟨e3,cl,N⟩:=N;rw[hh]at N;injection N with N;injection N with N _ _;subst N;refine⟨?_,λp q row x B Q=>?_⟩;rw[hN];rcases Nat.le_total rows.length (k+A.length)with hl|hl;rw[Nat.max_eq_right hl];exact b2;rw[Nat.max_eq_left hl];exact hlen;rcases xX B with B|⟨E,B⟩;rcases xX B with B|⟨E,B⟩;have hpk:=Jn B;rw[ek]at hpk;rw[AN,if_pos hpk]at B;obtain⟨u,K,G⟩:=k1 p q row x B Q;have:=(jT hpk (by have:=Jn Q;rw[M row (iD B)]at this;exact this):p*esz+q<k*esz);exact⟨u,by rw[k5 _ (.inl this)];exact K,G⟩;rw[ek]at E B;obtain⟨u,K,G⟩:=W _ q row x B Q;have e4:p*esz+q=k*esz+((p-k)*esz+q):=by
     have:p*esz=k*esz+(p-k)*esz:=by rw[<-zQ8];congr 1;omega
     omega
    exact⟨u,by rw[e4];exact k4 _ _ K,G⟩;rw[C]at E B;rw[TW]at B;have e5:k+A.length+(p-(k+A.length))=p:=by omega
    rw[e5]at B;obtain⟨u,K,G⟩:=k1 p q row x B Q;have:(k+A.length)*esz<=p*esz:=zQ4 _ E;exact⟨u,by rw[k5 _ (.inr (by omega))];exact K,G⟩)
  obtain⟨c0,e0,co,b9,p1,p2,p3,p4,p5,p6⟩:=ab.there;rw[hh]at p1;injection p1 with p1;injection p1 with w1 w2 w3;subst w1 w2 w3;have I:(s.σ.set b (.arr true esz (rows.take k++A++rows.drop (k+A.length))))[b]?=some (.arr true esz (rows.take k++A++rows.drop (k+A.length))):=gT O;obtain⟨g',i2,t2,rel⟩:=q8 (m:=k+A.length) (ad:=some ⟨r,0,none⟩) (cap:=cap) i1 I
   (.slr b 0 _ _ true esz _ ⟨_,_,rfl,.inr (by simp)⟩ I (by omega) λ_=>.inr ⟨r,cap,b9,e1,fz,m',by simp,by rw[hN];omega,p2,by rw[p3];simpa using T⟩) rfl (by rw[hN];omega)
  have e6:(s.σ.set b (.arr true esz (rows.take k++A++rows.drop (k+A.length)))).set b (.arr false esz (rows.take k++A++rows.drop (k+A.length)))=s.σ.set b (.arr false esz (rows.take k++A++rows.drop (k+A.length))):=by rw[List.set_set]
  rw[e6]at i2 t2 rel;have e7:(rows.take k++A++rows.drop (k+A.length)).take (k+A.length)=rows.take k++A:=by rw[<-C,List.take_left]
  rw[e7]at rel;exact gB (e:=⟨.p (.sl esz (rows.take k++A)),[(b,.arr false esz (rows.take k++A++rows.drop (k+A.length)))]⟩) (aw (by rw[av];exact J)) i2 (t1.trans t2) rel;have au:cap<k+A.length:=by omega
  obtain⟨i0,t0⟩:=ec (w':=s.w.drew) hi rfl rfl rfl;have cr:k*esz<=cc.size:=zQ1 (zQ4 esz (by omega)) T;have L:(cc.toList.take (k*esz)).length=k*esz:=by rw[iJ,Array.length_toList];omega
  have b3:(Builtin.firstCells esz k (.slice (some ⟨r,0,none⟩) k cap)).run P s.w.drew=.ok (cc.toList.take (k*esz)).toArray s.w.drew:=
   run_firstCells_some s.w.drew esz _ _ _ cap _ L (λj q hj=>by
    have e:s.w.drew.cell? (Addr.add ⟨r,0,none⟩ j)=s.w.cell? (Addr.add ⟨r,0,none⟩ j):=by simp
    have aq:=Jn hj;rw[L]at aq;rw[AN,if_pos aq,AJ]at hj;rw[e];grind [yE,nK,hJ])
  have az:Builtin.nextslicecap (k+A.length) cap*bytes<=281474976710656:=by have h5:=nextslicecap_le au;have h6:Builtin.nextslicecap (k+A.length) cap*bytes<=(2*(rows.length+A.length)+512)*bytes:=zQ4 _ (by omega);omega
  have J:=U.grow (some ⟨r,0,none⟩) k cap _ b3 au (by omega) az;have E:k+A.length<=grownCap s.w (k+A.length) cap el:=by simp[grownCap,Question.cut]
  generalize grownCap s.w (k+A.length) cap el=R at J E;have b8:z.cells.size=esz:=by omega
  have a8:((cc.toList.take (k*esz)++news).toArray++Builtin.zeroCells z.cells (R-(k+A.length))).size=R*esz:=by
   have:R*esz=k*esz+A.length*esz+(R-(k+A.length))*esz:=by rw[<-zQ8,<-zQ8];congr 1;omega
   rw[Array.size_append,size_zeroCells,b8];simp only[List.size_toArray,dZ,L,bo];omega
  have bp:rows.drop (k+A.length)=[]:=List.drop_of_length_le (by omega);rw[bp,gU];obtain⟨g',c8,i1,t1⟩:=Dw (s0:=⟨s.σ,s.g,s.w.drew⟩) (rows':=rows.take k++A) i0 (w':=s.w.drew.alloc (.cells ((cc.toList.take (k*esz)++news).toArray++Builtin.zeroCells z.cells (R-(k+A.length))) el)) O (by rw[C];omega) Z rfl rfl rfl
   (by rw[C,a8];exact zQ4 _ E) (λp q row x B Q=>by
    rcases xX B with B|⟨E,B⟩;have hpk:=Jn B;rw[ek]at hpk;rw[AN,if_pos hpk]at B;obtain⟨⟨u,K,G⟩,_⟩:=bc p q row x B Q;have hi':=(jT hpk (by have:=Jn Q;rw[M row (iD B)]at this;exact this):p*esz+q<k*esz);refine⟨u,?_,G.mono hi t0⟩;rw[TD (by simp only[List.size_toArray,dZ,L];omega)];simp only[List.getElem?_toArray];rw[jH (by omega),AN,if_pos hi',AJ];exact K;rw[ek]at E B;obtain⟨u,K,G⟩:=W _ q row x B Q;have hl:=Jn K;have e4:p*esz+q=k*esz+((p-k)*esz+q):=by
     have:p*esz=k*esz+(p-k)*esz:=by rw[<-zQ8];congr 1;omega
     omega
    refine⟨u,?_,G.mono hi t0⟩;rw[TD (by simp only[List.size_toArray,dZ,L];omega)];simp only[List.getElem?_toArray];rw[dE (by omega),L,e4,Nat.add_sub_cancel_left];exact K)
  have I:(s.σ.set b (.arr true esz (rows.take k++A)))[b]?=some (.arr true esz (rows.take k++A)):=gT O;obtain⟨g2,i2,t2,rel⟩:=q8 (m:=k+A.length) (ad:=some ⟨s.w.heap.size,0,none⟩) (cap:=R) i1 I
   (.slr b 0 _ _ true esz _ ⟨_,_,rfl,.inr (by simp)⟩ I (by omega) λ_=>.inr ⟨_,R,_,el,(0,0),c8,by simp,by rw[C];exact E,IT rfl,by rw[a8];simp⟩) rfl (by rw[C];exact zQ0 _)
  have e6:(s.σ.set b (.arr true esz (rows.take k++A))).set b (.arr false esz (rows.take k++A))=s.σ.set b (.arr false esz (rows.take k++A)):=by rw[List.set_set]
  rw[e6]at i2 t2 rel;have e7:(rows.take k++A).take (k+A.length)=rows.take k++A:=by rw[<-C,List.take_length]
  rw[e7]at rel;exact gB (e:=⟨.p (.sl esz (rows.take k++A)),[(b,.arr false esz (rows.take k++A))]⟩) (aw (by rw[av];exact J)) i2 (t0.trans (t1.trans t2)) rel
end
end Go.Am
end
section
namespace Go.Am
theorem dl: ∀{e j:List KD} {xs g:List PV} {r:Bool},J1t (e++j) xs g=some r->
  ∃o n,J1t e (xs.take e.length) (g.take e.length)=some o/\J1t j (xs.drop e.length) (g.drop e.length)=some n/\r=(o&&n)
 |[],j,xs,g,r,h=>⟨true,r,by simp[J1t],by simpa using h,by simp⟩
 |k::e,j,xs,g,r,h=>by
  cases xs with
  |nil=>grind [J1t]
  |cons x xs=>
   cases g with
   |nil=>grind [J1t]
   |cons y g=>
    simp only[lQ,J1t]at h;split at h;rename_i a c q hc;injection h with h;subst h;obtain⟨o,n,h1,h2,v⟩:=dl hc;grind [J1t];cases h
theorem PA: ∀{ks:List KD} {xs e:List PV} {r:Bool},J1t ks xs e=some r->xs.length=ks.length/\e.length=ks.length
 |[],xs,e,r,h=>by grind [J1t]
 |k::ks,xs,e,r,h=>by
  cases xs with
  |nil=>grind [J1t]
  |cons x xs=>
   cases e with
   |nil=>grind [J1t]
   |cons y e=>
    simp only[J1t]at h;split at h;rename_i a c g hc;obtain⟨h1,h2⟩:=PA hc;simp[h1,h2];cases h
section
variable {P:Program} {F:Orc} {s:Sn} {a:Act} {env:List (Nat×AV)} {o:Oper} {new:Nat} {e:Eff}
def kb(P:Program)(t:TypeId)(vs:List Value)(X:Value):Prop:=(agT P t=some true/\X=.agg vs.toArray)\/(agT P t=some false/\ ∃v,vs=[v]/\X=v)
theorem PJ{t:TypeId}{n off:Nat}{cs:Array Value}(hs:szT P t=some n)(j:off+n<=cs.size)(g:(agT P t=some true)\/(agT P t=some false/\n=1))(w:World):
  ∃X,(part t cs off).run P w=.ok X w/\kb P t ((cs.toList.drop off).take n) X:=by
 rcases g with h|⟨h,rfl⟩;refine⟨.agg (cs.extract off (off+n)),by simp_all [part,CS,gN],.inl ⟨h,?_⟩⟩
 congr 1
 grind;have e:off<cs.size:=by omega
 have k:cs[off]?=some cs[off]:=by simp[e]
 refine⟨cs[off],by simp_all [part,CS],.inr ⟨h,cs[off],?_,rfl⟩⟩;grind [List.drop_eq_getElem_cons]
def JbA(s:Sn)(xs:List PV)(vs:List Value):Prop:=xs.length=vs.length/\ ∀(i:Nat) x v,xs[i]?=some x->vs[i]?=some v->J05 s.w s.g.C x v
theorem JbA.take{xs vs}(h:JbA s xs vs)(n:Nat):JbA s (xs.take n) (vs.take n):=
 ⟨by simp[h.1],λi x v e g=>by
  rw[AN]at e g;split at e;rename_i hi;rw[if_pos hi]at g;exact h.2 i x v e g;cases e⟩
theorem JbA.drop{xs vs}(h:JbA s xs vs)(n:Nat):JbA s (xs.drop n) (vs.drop n):=
 ⟨by simp[h.1],λi x v g e=>by
  rw[TW]at g e;exact h.2 _ x v g e⟩
def EqK(P:Program)(s:Sn)(d:Nat)(t:TypeId)(ks:List KD):Prop:= ∀(e:Nat) (w:World) (xs h:List PV) (vs g:List Value) (r:Bool) (X Y:Value),J1t ks xs h=some r->JbA s xs vs->JbA s h g->kb P t vs X->kb P t g Y->(Op.equalIn (d+e) t X Y).run P w=.ok r w
theorem sr{d:Nat}{t:TypeId}{ks:List KD}(h:J9N P d t=some ks):agT P t=some true\/(agT P t=some false/\ks.length=1):=by cases d<;>grind [J9N,agT,wP]
theorem pt(d e:Nat)(B: ∀t ks,J9N P d t=some ks->EqK P s d t ks)(w:World){xs q:List PV}{vs o:List Value}(hx:JbA s xs vs)(hy:JbA s q o):
  ∀{fs:List Field} {off:Nat} {ks:List KD} {r:Bool},IK P (J9N P d) off fs=some ks->J1t ks (xs.drop off) (q.drop off)=some r->
   (Op.eqFields (d+e) vs.toArray o.toArray fs).run P w=.ok r w
 |[],off,ks,r,h,hc=>by simp[IK]at h;subst h;cases hxd:xs.drop off<;>cases hyd:q.drop off<;>simp[hxd,hyd,J1t]at hc;simp_all [Op.eqFields]
 |f::fs,off,ks,r,h,hc=>by
  unfold IK at h;split at h;cases h
  ·rename_i K;have j:f.name≠ "_" :=λe=>K (.inl e);have v:f.offset=off:=by simp_all
   split at h;cases h
   ·rename_i C k;split at h
    ·rename_i g;obtain⟨g,D⟩:=g;split at h
     ·rename_i N x;injection h with h;subst h;obtain⟨y,M,z,A,rfl⟩:=dl hc;obtain⟨G,H⟩:=PA z;rw[iJ,nU]at G H;rw[BI,BI]at A;have n:=sr k;obtain⟨X,E,I⟩:=PJ (P:=P) (cs:=vs.toArray) (off:=off) g (by have:=hx.1;simp;omega) n w;obtain⟨Y,J,F⟩:=PJ (P:=P) (cs:=o.toArray) (off:=off) g (by have:=hy.1;simp;omega) n w;have L:=B f.type C k e w _ _ _ _ y X Y z ((hx.drop off).take _) ((hy.drop off).take _) (by simpa using I) (by simpa using F);have ih:=pt d e B w hx hy x A;simp only[Op.eqFields];rw[if_pos j];simp only[xD,v,E,J,L,rM,Sem.run_ite];cases y
      all_goals simp_all
     cases h
    cases h
theorem o9(d e:Nat){t:TypeId}{ks:List KD}(v:EqK P s d t ks)(hk:J9N P d t=some ks)(g:szT P t=some ks.length)(j:0<ks.length)(w:World){xs n:List PV}{vs k:List Value}(hx:JbA s xs vs)(hy:JbA s n k):
  ∀{m i:Nat} {r:Bool},J1t (List.replicate m ks).flatten (xs.drop (i*ks.length)) (n.drop (i*ks.length))=some r->
   (Op.eqItems (d+e) t ks.length vs.toArray k.toArray (List.range' i m)).run P w=.ok r w
 |0,i,r,hc=>by simp only[List.replicate_zero,List.flatten_nil]at hc;cases hxd:xs.drop (i*ks.length)<;>cases hyd:n.drop (i*ks.length)<;>simp[hxd,hyd,J1t]at hc;simp_all [Op.eqItems]
 |m+1,i,r,hc=>by
  rw[List.replicate_succ,pS]at hc;obtain⟨o,A,q,y,rfl⟩:=dl hc;obtain⟨B,C⟩:=PA q;rw[iJ,nU]at B C;rw[BI,BI]at y;have h:=sr hk;obtain⟨X,x,D⟩:=PJ (P:=P) (cs:=vs.toArray) (off:=i*ks.length) g (by have:=hx.1;simp;omega) h w;obtain⟨Y,E,z⟩:=PJ (P:=P) (cs:=k.toArray) (off:=i*ks.length) g (by have:=hy.1;simp;omega) h w;have F:=v e w _ _ _ _ o X Y q ((hx.drop _).take _) ((hy.drop _).take _) (by simpa using D) (by simpa using z);have ih:=o9 d e v hk g j w hx hy (m:=m) (i:=i+1) (r:=A) (by
   grind)
  rw[List.range'_succ];simp only[Op.eqItems,xD,x,E,F,rM,Sem.run_ite];cases o
  all_goals simp_all
theorem eqK: ∀(d:Nat) (t:TypeId) (ks:List KD),J9N P d t=some ks->EqK P s d t ks
 |0,t,ks,h=>by grind [J9N]
 |d+1,t,ks,h=>by
  intro e w xs R vs U r X Y hc J I H G;have M:d+1+e=(d+e)+1:=by omega
  rw[M];have O:=PA hc;unfold J9N at h;have q: ∀{k:KD},agT P t=some false->ks=[k]-> ∃x y,xs=[x]/\R=[y]/\Jhb k x y=some r/\J05 s.w s.g.C x X/\J05 s.w s.g.C y Y:=(by rintro k F rfl;obtain⟨x,rfl⟩:=AY.1 O.1;obtain⟨y,rfl⟩:=AY.1 O.2;rcases H with⟨o,_⟩|⟨_,v,rfl,rfl⟩;simp_all;rcases G with⟨o,_⟩|⟨_,u,rfl,rfl⟩;simp_all;refine⟨x,y,rfl,rfl,?_,J.2 0 x _ rfl rfl,I.2 0 y _ rfl rfl⟩;grind [J1t]);split at h<;>rename_i T
  injection h with h;subst h;obtain⟨x,y,rfl,rfl,j,A,B⟩:=q (by grind [agT,wP]) rfl;cases A<;>cases B<;>simp only[Jhb]at j<;>try (cases j;done)
  grind [run_equalIn_bool];injection h with h;subst h;obtain⟨x,y,rfl,rfl,j,A,B⟩:=q (by grind [agT,wP]) rfl;cases A<;>cases B<;>simp only[Jhb]at j<;>try (cases j;done)
  grind [run_equalIn_int];injection h with h;subst h;obtain⟨x,y,rfl,rfl,j,A,B⟩:=q (by grind [agT,wP]) rfl;cases A<;>cases B<;>simp only[Jhb]at j<;>try (cases j;done)
  simp_all [run_equalIn_string];rename_i fs;split at h;cases h;rename_i L;have F:agT P t=some true:=by grind [agT,wP]
  rcases H with⟨_,rfl⟩|⟨o,_⟩;rcases G with⟨_,rfl⟩|⟨o,_⟩;have N:P.fieldsOf t=fs:=by grind [Program.fieldsOf]
  rw[run_equalIn_struct w (d+e) t _ _ (by simp_all) (by simpa using L),N];exact pt d e (λt ks S=>eqK d t ks S) w J I h (by simpa using hc);simp_all;simp_all;rename_i n el;split at h;rename_i K E;split at h;rename_i z;injection h with h;subst h;have F:agT P t=some true:=by grind [agT,wP]
  rcases H with⟨_,rfl⟩|⟨o,_⟩;rcases G with⟨_,rfl⟩|⟨o,_⟩;obtain⟨i,hi,Q⟩:=OJ z.1;have D:P.cellsOf el=K.length:=by grind [Program.cellsOf]
  rw[run_equalIn_array w (d+e) _ _ T hi,D,List.range_eq_range'];exact o9 d e (eqK d el K E) E z.1 z.2 w J I (i:=0) (by simpa using hc);simp_all;simp_all;cases h;cases h;cases h
theorem JB4(hi:Inv s)(he:bM s a.tmps env){op ks x y}(h:(opR F (.bin op (.flat ks) x y) new).run ⟨env,s.σ⟩=some e)(hc:JY P (.bin op (.flat ks) x y) o.op=true):bO P o a s e:=by
 simp only[opR]at h;obtain⟨u,h1,E⟩:=bind_some h;obtain⟨v,h2,A⟩:=bind_some E;obtain⟨r,j,rfl⟩:=fZ A;clear h E A;unfold JY at hc;simp only at hc;split at hc
 ·rename_i V t C B ty U;simp only[JW,beq_iff_eq]at hc;obtain⟨⟨rfl,k⟩,⟨⟨R,N⟩,z⟩,K⟩:=hc;have H:=bH he h1 k;have I:=bH he h2 R;generalize W:a.eval C=zx at H;generalize Y:a.eval B=Z at I;simp only[mU]at j;split at j
  ·rename_i p q;cases H with
   |data _ vs L J=>
    cases I with
    |data _ g O S=>
     have n: ∃b,J1t ks p q=some b:=by cases hcm:J1t ks p q<;>simp_all [iN]
     obtain⟨b,n⟩:=n;rw[n]at j;obtain⟨Q,rfl⟩:=sN j;have G:(eqGuard op t C B (.agg vs) (.agg g)).run P s.w=.ok () s.w:=run_eqGuard_agg s.w op t C B vs g (by simpa using K);have T:=eqK (P:=P) (s:=s) 100 t ks N 9900 s.w p q vs.toList g.toList b (.agg vs) (.agg g) n ⟨by simpa using L,λi x v k D=>J i x v k (by simpa using D)⟩ ⟨by simpa using O,λi x v k D=>S i x v k (by simpa using D)⟩ (.inl ⟨z,by simp⟩) (.inl ⟨z,by simp⟩);have M:(binOp op t (.agg vs) (.agg g)).run P s.w=.ok (.bool (if op=.eql then b else !b)) s.w:=by
      rcases Q with rfl|rfl
      all_goals simp_all [run_eql_struct,run_neq_struct]
     simp_all [JG,execOp,oU]
  cases j
 cases hc
end
end Go.Am
end
section
namespace Go.Am
theorem J05.weaken{w:World}{C e:Nat->Nat->Prop}(h: ∀r o,C r o->e r o){x v}(hr:J05 w C x v):J05 w e x v:=by
 induction hr with
 |b x=>exact .b x
 |i k n=>exact .i k n
 |s l=>exact .s l
 |np=>exact .np
 |nf=>exact .nf
 |sl0 esz a cap=>exact .sl0 esz a cap
 |sl esz rows r o cap vals h1 h2 g _ ih=>exact .sl esz rows r o cap vals h1 h2 (λi j row x hr q=>⟨h _ _ (g i j row x hr q).1,(g i j row x hr q).2⟩) ih
 |slc esz rows a _ ih=>exact .slc esz rows a ih
theorem Dz{s c:Sn}(hi:Inv s)(hw:c.w=s.w)(q: ∀k cs,c.σ[k]?=some (.box cs)->MK c k cs)(v: ∀k wm esz rows,c.σ[k]?=some (.arr wm esz rows)->LY c k wm esz rows)
  (id:Nat->Nat) (x: ∀e j,e<c.σ.length->j<c.σ.length->id e=id j->e=j) (wr: ∀k r o,Wr1 c k r o->Wr1 s (id k) r o)
  (y: ∀r o,c.g.C r o->r<s.w.heap.size/\ ∀k,¬Wr1 c k r o):Inv c:=by
 have n: ∀k r o,Wr1 c k r o->k<c.σ.length:=(by grind [Wr1]);exact⟨q,v,λe j r o h1 h2=>x e j (n _ _ _ h1) (n _ _ _ h2) (hi.apart _ _ _ _ (wr _ _ _ h1) (wr _ _ _ h2)),λr o h=>by grind⟩
theorem sM{m ids sto}: ∀{xs e:List AV},fin.finL m ids sto xs=some e->xs.length=e.length/\ ∀(i:Nat) x y,xs[i]?=some x->e[i]?=some y->fin m ids sto x=some y
 |[],e,h=>by grind [fin.finL]
 |x::xs,e,h=>by
  simp only[fin.finL]at h;split at h;rename_i y l j g;injection h with h;subst h;obtain⟨h1,h2⟩:=sM g;grind;cases h
theorem PZ{m ids sto}: ∀{xs e:List Blk},pU m ids sto xs=some e->xs.length=e.length/\ ∀(i:Nat) x y,xs[i]?=some x->e[i]?=some y->fK m ids sto x=some y
 |[],e,h=>by grind [pU]
 |x::xs,e,h=>by
  simp only[pU]at h;split at h;rename_i y l j g;injection h with h;subst h;obtain⟨h1,h2⟩:=PZ g;grind;cases h
theorem q9{sto}: ∀{ids:List Nat} {e:List Blk},uB sto ids=some e->ids.length=e.length/\ ∀(i:Nat) b y,ids[i]?=some b->e[i]?=some y->sto[b]?=some y
 |[],e,h=>by grind [uB]
 |x::xs,e,h=>by
  simp only[uB]at h;split at h;rename_i y l j g;injection h with h;subst h;obtain⟨h1,h2⟩:=q9 g;grind;cases h
theorem PQ{b:Nat}: ∀{ids:List Nat} {k j:Nat},eE b ids k=some j->k<=j/\ids[j-k]?=some b
 |[],k,j,h=>by grind [eE]
 |x::r,k,j,h=>by
  simp only[eE]at h;split at h;simp_all;obtain⟨h1,h2⟩:=PQ h;grind
theorem pc{b:Nat}: ∀{ids:List Nat} {k:Nat},eE b ids k=none->b∉ids
 |[],_,_=>by simp
 |x::r,k,h=>by
  simp only[eE]at h;split at h;cases h;rename_i g;simp only[bX,not_or];exact⟨λe=>g e.symm,pc h⟩
theorem QF: ∀{l:List Nat},iT l=true->l.Nodup|[],_=>List.nodup_nil|x::r,h=>by simp only[iT,JW,jD]at h;refine List.nodup_cons.2 ⟨?_,QF h.2⟩;simp_all
theorem PO{α:Type}: ∀{l:List α},l.Nodup-> ∀{i j:Nat} {x:α},l[i]?=some x->l[j]?=some x->i=j
 |[],_,i,j,x,h,_=>by simp at h
 |y::l,h,i,j,x,h1,h2=>by
  obtain⟨g,e⟩:=List.nodup_cons.1 h;cases i with
  |zero=>
   grind
  |succ i=>
   cases j with
   |zero=>grind
   |succ j=>exact congrArg (· +1) (PO e (i:=i) (j:=j) (x:=x) (by simpa using h1) (by simpa using h2))
def Yy(s:Sn)(m:Nat)(ids:List Nat):Nat->Nat->Prop:=λr o=>s.g.C r o\/ ∃b wm esz rows,m<=b/\b∉ids/\s.σ[b]?=some (Blk.arr wm esz rows)/\s.g.μ b=some (r,0)/\o<rows.length*esz
def jN(s:Sn)(m:Nat)(ids:List Nat)(σ:List Blk):Sn:=
 ⟨σ,⟨λk=>if k<m then s.g.μ k else match ids[k-m]? with
  |some b=>s.g.μ b
  |none=>none,Yy s m ids⟩,s.w⟩
section
variable {s:Sn} {m:Nat} {ids:List Nat} {l q q':List Blk}
def fU(m:Nat)(ids:List Nat)(k:Nat):Nat:=if k<m then k else(ids[k-m]?).getD 0
structure kz(s:Sn)(m:Nat)(ids:List Nat)(σ:List Blk):Prop where
 inv:Inv s
 le:m<=s.σ.length
 nodup:ids.Nodup
 ge: ∀b∈ids,m<=b
 len:σ.length=m+ids.length
 blk: ∀k x,σ[k]?=some x-> ∃y,s.σ[fU m ids k]?=some y/\fK m ids s.σ y=some x
variable {σ:List Blk} (h:kz s m ids σ)
theorem rT(k:Nat)(hk:k<m+ids.length):(jN s m ids σ).g.μ k=s.g.μ (fU m ids k):=by
 grind [jN,fU]
include h in
theorem ZN{k:Nat}{x:Blk}(hk:σ[k]?=some x):k<m+ids.length/\ ∃y,s.σ[fU m ids k]?=some y/\fK m ids s.σ y=some x:=by have:=Jn hk;exact⟨by rw[<-h.len];exact this,h.blk k x hk⟩
include h in
theorem HP{b k:Nat}{y:Blk}(g:fU m ids k=b)(hk:k<m+ids.length)(hb:s.σ[b]?=some y): ∃x,σ[k]?=some x/\fK m ids s.σ y=some x:=by
 have e:k<σ.length:=by rw[h.len];exact hk
 obtain⟨j,h1,h2⟩:=h.blk k σ[k] (JV e);simp_all
theorem sE{k:Nat}(hk:k<m):fU m ids k=k:=by simp[fU,hk]
theorem ZC{b j:Nat}(hj:eE b ids m=some j):fU m ids j=b/\j<m+ids.length:=by
 obtain⟨h1,h2⟩:=PQ hj;grind [fU]
include h in
theorem YW{x y:AV}{v:Value}(hr:JA s x v):fin m ids s.σ x=some y->JA (jN s m ids σ) y v:=by
 have J: ∀r o,s.g.C r o->(jN s m ids σ).g.C r o:=λr o h=>.inl h
 induction hr generalizing y with
 |p c v hp=>intro w;simp[fin]at w;subst w;exact .p _ _ (hp.weaken J)
 |data cs vs h1 h2=>intro w;simp[fin]at w;subst w;exact .data _ _ h1 λi x v A D=>(h2 i x v A D).weaken J
 |agg cs vs h1 H h2 ih=>
  intro w;simp only[fin]at w;split at w;rename_i l Q;obtain⟨I,N⟩:=sM Q;have hrel: ∀(i:Nat) y v,l[i]?=some y->vs[i]?=some v->JA (jN s m ids σ) y v:=(by grind [Jn]);split at w;rename_i q hq;injection w with w;subst w;have:=PF hq;subst this;refine .data _ _ (by simp_all) λi c v hc D=>?_;have:=hrel i (.p c) v (by simp[hc]) D;cases this<;>simp_all
  injection w with w;subst w;exact .agg _ _ (by omega) H hrel;cases w
 |tup cs vs h1 h2 ih=>
  intro w;simp only[fin]at w;split at w;rename_i l Q;injection w with w;subst w;obtain⟨I,N⟩:=sM Q;refine .tup _ _ (by omega) λi y v W D=>?_;grind [Jn];cases w
 |ptr b off r o hm B=>
  intro w;obtain⟨cs,B⟩:=B;have go: ∀k,fU m ids k=b->k<m+ids.length->JA (jN s m ids σ) (.ptr k off) (.pointer (some ⟨r,o+off,none⟩)):=(by intro k F E;obtain⟨x,A,z⟩:=HP h F E B;simp only[fK]at z;split at z;injection z with z;subst z;exact .ptr k off r o (by grind [rT]) ⟨_,A⟩;cases z);grind [fin,sE,Option.map_eq_some_iff,ZC]
 |cp cs off r o vals T p2=>intro w;simp[fin]at w;subst w;exact .cp cs off r o vals (λj x A=>⟨J _ _ (T j x A).1,(T j x A).2⟩) λj x A=>(p2 j x A).weaken J
 |slr b i n v wm esz rows H B G D=>
  intro w;have go: ∀k,fU m ids k=b->k<m+ids.length->JA (jN s m ids σ) (.slr k i n) v:=by
   intro k F E;obtain⟨x,A,z⟩:=HP h F E B;simp only[fK]at z;injection z with z;subst z;refine .slr k i n v wm esz rows H A G λe=>?_;have a9:(jN s m ids σ).g.μ k=s.g.μ b:=by grind [rT]
   rcases D e with⟨M,K,Z,V⟩|⟨r,cap,c,R,fz,M,q⟩;exact .inl ⟨by simp_all,K,Z,V⟩;exact .inr ⟨r,cap,c,R,fz,by simp_all,q⟩
  simp only[fin]at w;split at w;grind [sE];rename_i a6;split at w;grind [ZC];rename_i L;rw[B]at w;simp only at w;split at w;rename_i e;injection w with w;subst w;obtain⟨a,cap,I,N,P,U⟩:=jO.of_slr h.inv (.slr b i n v wm esz rows H B G D) B e;refine .p _ _ (f0 (s:=jN s m ids σ) I N P (U.imp id ?_));rintro⟨r,o,rfl,A⟩;refine⟨r,o,rfl,λk j row x E Y=>⟨.inr ⟨b,wm,esz,rows,by omega,pc L,B,?_⟩,?_⟩⟩;rcases D e with⟨M,K,Z,V⟩|⟨r',a1,c,R,fz,M,K,_⟩;simp_all;rw[I]at K;injection K with v1 v2 v3;injection v1 with v1;injection v1 with v1 v4;subst v1 v4;refine⟨M,?_⟩;have S:=Jn E;have O:=Jn Y;rw[P row (iD E)]at O;rw[nU]at S;have:=jT (a:=i+k) (b:=j) (n:=rows.length) (e:=esz) (by omega) O;grind;obtain⟨u,hu,hr⟩:=A k j row x E Y;exact⟨u,hu,hr.weaken J⟩;cases w
 |ep b ext i off v wm esz rows H B G D=>
  intro w;have go: ∀k,fU m ids k=b->k<m+ids.length->JA (jN s m ids σ) (.ep k ext i off) v:=(by intro k F E;obtain⟨x,A,z⟩:=HP h F E B;simp only[fK]at z;injection z with z;subst z;refine .ep k ext i off v wm esz rows H A G λR e2=>?_;grind [rT]);grind [fin,sE,Option.map_eq_some_iff,ZC]
 |fn f first caps fs cs h1 h2 _ _ a7 a8=>
  intro w;simp only[fin]at w;split at w
  ·rename_i a c ha hc;injection w with w;subst w;obtain⟨I,N⟩:=sM ha;obtain⟨P,U⟩:=sM hc;refine .fn f a c fs cs (by omega) (by omega) (λi y v W D=>?_) (λi y v W D=>?_)
   all_goals grind [Jn]
  cases w
 |unk x=>intro w;simp[fin]at w;subst w;exact .unk x
 |pre=>intro w;simp[fin]at w
include h in
theorem NB(k r o:Nat)(hw:Wr1 (jN s m ids σ) k r o):k<m+ids.length/\Wr1 s (fU m ids k) r o:=by
 unfold Wr1 at hw;have g:(jN s m ids σ).σ=σ:=rfl;rw[g]at hw;cases hk:σ[k]? with
 |none=>simp_all
 |some x=>obtain⟨e,y,j,n⟩:=ZN h hk;refine⟨e,?_⟩;rw[hk]at hw;rw[rT k e]at hw;unfold Wr1;rw[j];cases y<;>grind [fK,sM]
include h in
theorem Ds:Inv (jN s m ids σ):=by
 have hi:=h.inv;have R: ∀z n,z<m+ids.length->n<m+ids.length->fU m ids z=fU m ids n->z=n:=by
  intro z n h1 h2 B;simp only[fU]at B;split at B<;>split at B
  exact B;rename_i a b;have:n-m<ids.length:=by omega
  have:=h.ge ids[n-m] (by simp);grind;rename_i a b;have:=h.ge (ids[z-m]'(by omega)) (by simp);grind;have W:z-m<ids.length:=by omega
  have V:n-m<ids.length:=by omega
  simp[W,V]at B;have:=PO h.nodup (JV W) (by rw[B];exact JV V);omega
 refine Dz hi rfl ?_ ?_ (fU m ids) (λz n h1 h2 B=>R z n (by rw[<-h.len];exact h1) (by rw[<-h.len];exact h2) B) (λk r o A=>(NB h k r o A).2) ?_;intro k cs O;obtain⟨I,y,P,g⟩:=ZN h O;cases y with
 |dead=>grind [fK]
 |arr=>grind [fK]
 |box S=>
  simp only[fK]at g;split at g;rename_i l G;injection g with g;injection g with g;subst g;obtain⟨z,n⟩:=sM G;obtain⟨r,o,c,e,fz,q,F,a2,H,J⟩:=hi.box _ _ P;refine⟨r,o,c,e,fz,by grind [rT],F,by omega,λi x Z=>?_,by simp_all⟩;grind [Jn,YW];cases g
 intro k wm esz rows O;obtain⟨I,y,P,g⟩:=ZN h O;cases y with
 |dead=>grind [fK]
 |box S=>grind [fK]
 |arr w e rs=>
  simp[fK]at g;obtain⟨rfl,rfl,rfl⟩:=g;rcases hi.arr _ _ _ _ P with⟨q,Q⟩|⟨r,c,e,fz,q,F,C,G,H,J⟩;exact .inl ⟨by grind [rT],Q⟩;refine .inr ⟨r,c,e,fz,by grind [rT],F,C,G,λi j row x h1 h2=>?_,J⟩;obtain⟨⟨v,Y,Q⟩,hc⟩:=H i j row x h1 h2;exact⟨⟨v,Y,Q.weaken λr o h=>.inl h⟩,λe=>.inl (hc e)⟩
 intro r o hc;rcases hc with hc|⟨b,wm,esz,rows,a3,a1,U,T,a0⟩;exact⟨(hi.const r o hc).1,λk A=>(hi.const r o hc).2 _ (NB h k r o A).2⟩;rcases hi.arr _ _ _ _ U with⟨q,_⟩|⟨r',c,e,fz,q,F,C,G,H,_⟩;simp_all;rw[T]at q;injection q with q;injection q with q _;subst q;refine⟨vK F,λk A=>?_⟩;obtain⟨I,A⟩:=NB h k r o A;have L:fU m ids k≠b:=(by grind [fU]);cases wm with
 |true=>
  refine L (hi.apart _ _ _ _ A ?_);grind [Wr1]
 |false=>
  have M:0<esz:=(by grind);have E:o/esz<rows.length:=Nat.div_lt_of_lt_mul (by grind);have D:rows[o/esz]?=some (rows[o/esz]'E):=JV _;have hlen:=C _ (iD D);have N:o%esz<(rows[o/esz]'E).length:=by rw[hlen];exact Nat.mod_lt _ M
  have K:=(H _ _ _ _ D (JV N)).2 rfl;have:o/esz*esz+o%esz=o:=by grind [Nat.div_add_mod]
  rw[this]at K;exact(hi.const r o K).2 _ A
include h in
theorem py{E:Sn}(t:aW E s)(M:E.σ.length<=m):aW E (jN s m ids σ):=by
 have hi:=h.inv;refine⟨t.keep,λr o hc=>.inl (t.cmono r o hc),λr o hc=>?_,λr o ⟨k,H⟩=>t.wnew r o ⟨_,(NB h k r o H).2⟩,?_,λb cs B=>?_,λb wm esz rows B=>?_⟩;rcases hc with hc|⟨b,wm,esz,rows,L,K,D,C,J⟩;exact t.cnew r o hc;cases wm with
 |true=>have:=t.wnew r o ⟨b,by grind [Wr1]⟩;exact .inr this
 |false=>
  rcases hi.arr _ _ _ _ D with⟨n,_⟩|⟨r',c,e,fz,n,O,A,I,w,_⟩;simp_all;rw[C]at n;injection n with n;injection n with n _;subst n;have G:0<esz:=(by grind);have v:o/esz<rows.length:=Nat.div_lt_of_lt_mul (by grind);have q:rows[o/esz]?=some (rows[o/esz]'v):=JV _;have hlen:=A _ (iD q);have z:o%esz<(rows[o/esz]'v).length:=by simp_all [Nat.mod_lt]
  have y:=(w _ _ _ _ q (JV z)).2 rfl;have:o/esz*esz+o%esz=o:=by grind [Nat.div_add_mod]
  rw[this]at y;exact t.cnew r o y
 show E.σ.length<=σ.length;rw[h.len];omega;have j:b<m:=by grind
 obtain⟨⟨cs',h1,h2⟩,F⟩:=t.box b cs B;obtain⟨x,w,g⟩:=HP h (sE j) (by omega) h1;simp only[fK]at g;split at g;rename_i l I;injection g with g;subst g;exact⟨⟨l,w,by grind [sM]⟩,by grind [rT,sE]⟩;cases g;have j:b<m:=by grind
 obtain⟨wm',rows',h1,h2,F,N⟩:=t.arr b wm esz rows B;obtain⟨x,w,g⟩:=HP h (sE j) (by omega) h1;simp[fK]at g;subst g;exact⟨wm',rows',w,h2,F,λe=>by grind [rT,sE]⟩
end
end Go.Am
end
section
namespace Go.Am
def J3W(P:Program)(f:FuncId)(args:List AV)(blks:List Blk)(r:Res):Prop:=
 (∃fn,P.funcs[f]?=some fn∧fn.body.isSome=true∧(fn.name== "runtime.NumGoroutine")=false)∧
 ∀(g:Gh) (w:World) (vals:Array Value),Inv ⟨blks,g,w⟩->args.length=vals.size->(∀(i:Nat) x v,args[i]?=some x->vals[i]?=some v->JA ⟨blks,g,w⟩ x v)->
  Calls P f vals w λe w'=> ∃v g',e=.returned v/\Inv ⟨r.2,g',w'⟩/\aW ⟨blks,g,w⟩ ⟨r.2,g',w'⟩/\JA ⟨r.2,g',w'⟩ r.1 v
def iV(P:Program)(F:Orc):Prop:= ∀f args blks r,F f args blks=some r->J3W P f args blks r
theorem vE{e:Ent}: ∀{es:List Ent} {k j:Nat},cV e es k=some j->k<=j/\es[j-k]?=some e
 |[],k,j,h=>by grind [cV]
 |x::r,k,j,h=>by
  simp only[cV]at h;split at h;simp_all;obtain⟨h1,h2⟩:=vE h;grind
theorem sO{ρ:Ent->Option Nat}: ∀{xs e:List AV},ren.renL ρ xs=some e->xs.length=e.length/\ ∀(i:Nat) x y,xs[i]?=some x->e[i]?=some y->ren ρ x=some y
 |[],e,h=>by grind [ren.renL]
 |x::xs,e,h=>by
  simp only[ren.renL]at h;split at h;rename_i y l j g;injection h with h;subst h;obtain⟨h1,h2⟩:=sO g;grind;cases h
theorem sL{es:List Ent}{new:Nat}: ∀{xs e:List AV},bk.bkL es new xs=some e->xs.length=e.length/\ ∀(i:Nat) x y,xs[i]?=some x->e[i]?=some y->bk es new x=some y
 |[],e,h=>by grind [bk.bkL]
 |x::xs,e,h=>by
  simp only[bk.bkL]at h;split at h;rename_i y l j g;injection h with h;subst h;obtain⟨h1,h2⟩:=sL g;grind;cases h
def TS(s:Sn)(ρ:Ent->Option Nat)(e:Ent)(x:Blk):Prop:=
 match e with
 | .whole b=>(∃cs l,s.σ[b]?=some (.box cs)/\ren.renL ρ cs=some l/\x=.box l)\/(∃w esz rows,s.σ[b]?=some (.arr w esz rows)/\x=.arr w esz rows)
 | .elem b ext i=> ∃esz rows row,s.σ[b]?=some (.arr true esz rows)/\ext=rows.length/\rows[i]?=some row/\x=.box (row.map .p)
section
variable {s:Sn} {env:List (Nat×AV)}
theorem db{e:List Blk}{ws:List (Nat×Blk)}{b:Nat}{x:Blk}(h:(pQ ws b).run ⟨env,e⟩=some x):(upd ws e)[b]?=some x:=by
 grind [pQ,RM.run,uR]
theorem JG0{k:List Blk}{ws:List (Nat×Blk)}(n:s.σ=upd ws k){ρ:Ent->Option Nat}{e:Ent}{x:Blk}(h:(xK ws ρ e).run ⟨env,k⟩=some x):TS s ρ e x:=by
 cases e with
 |whole b=>
  simp only[xK]at h;obtain⟨y,h1,h⟩:=bind_some h;have g:=db h1;rw[<-n]at g;cases y with
  |dead=>cases h
  |box cs=>
   dsimp only at h;split at h;rename_i l o;simp only[RM.run]at h;injection h with h;subst h;exact .inl ⟨cs,l,g,o,rfl⟩;cases h
  |arr w esz rows=>
   simp only[RM.run]at h;injection h with h;subst h;exact .inr ⟨w,esz,rows,g,rfl⟩
 |elem b ext i=>
  simp only[xK]at h;obtain⟨y,h1,h⟩:=bind_some h;have g:=db h1;rw[<-n]at g;cases y with
  |arr w esz rows=>
   cases w;cases h;dsimp only at h;split at h;rename_i q;split at h;rename_i row j;simp only[RM.run]at h;injection h with h;subst h;exact⟨esz,rows,row,g,q,j,rfl⟩;cases h;cases h
  |_=>cases h
theorem rc{g:List Blk}{ws:List (Nat×Blk)}(j:s.σ=upd ws g){ρ:Ent->Option Nat}: ∀{es:List Ent} {blks:List Blk},(jU ws ρ es).run ⟨env,g⟩=some blks->
  es.length=blks.length/\ ∀(k:Nat) e x,es[k]?=some e->blks[k]?=some x->TS s ρ e x
 |[],blks,h=>by grind [jU,RM.run]
 |e::es,blks,h=>by
  simp only[jU]at h;obtain⟨x,h1,h⟩:=bind_some h;obtain⟨l,h2,h⟩:=bind_some h;simp only[RM.run]at h;injection h with h;subst h;obtain⟨n,o⟩:=rc j h2;grind [JG0]
def gV(s:Sn)(es:List Ent)(blks:List Blk):Sn:=
 ⟨blks,⟨λk=>match es[k]? with
  |some (.whole b)=>s.g.μ b
  |some (.elem b _ i)=>(match s.σ[b]? with
   |some (.arr _ esz _)=>(match s.g.μ b with
    |some p=>some (p.1,i*esz)
    |none=>none)
   |_=>none)
  |none=>none,s.g.C⟩,s.w⟩
structure YC(s:Sn)(es:List Ent)(blks:List Blk):Prop where
 inv:Inv s
 nodup:(es.map Ent.id).Nodup
 len:es.length=blks.length
 blk: ∀(k:Nat) e x,es[k]?=some e->blks[k]?=some x->TS s (λe=>cV e es 0) e x
variable {es:List Ent} {blks:List Blk} (h:YC s es blks)
include h in
theorem pZ{k:Nat}{e:Ent}(he:es[k]?=some e): ∃x,blks[k]?=some x/\TS s (λe=>cV e es 0) e x:=by
 have g:=Jn he;have:k<blks.length:=by rw[<-h.len];exact g
 exact⟨blks[k],JV this,h.blk k e _ he (JV this)⟩
theorem vD{k b:Nat}(he:es[k]?=some (.whole b)):(gV s es blks).g.μ k=s.g.μ b:=by simp[gV,he]
theorem PW{k b ext i esz:Nat}{wm rows r}(he:es[k]?=some (.elem b ext i))(hb:s.σ[b]?=some (.arr wm esz rows))(hm:s.g.μ b=some (r,0)):(gV s es blks).g.μ k=some (r,i*esz):=by
 grind [gV]
include h in
theorem B6{x y:AV}{v:Value}(hr:JA s x v):ren (λe=>cV e es 0) x=some y->JA (gV s es blks) y v:=by
 induction hr generalizing y with
 |p c v T=>intro j;simp[ren]at j;subst j;exact .p _ _ T
 |data cs vs h1 h2=>intro j;simp[ren]at j;subst j;exact .data _ _ h1 h2
 |cp cs off r o vals Q P=>intro j;simp[ren]at j;subst j;exact .cp cs off r o vals Q P
 |unk x=>intro j;simp[ren]at j;subst j;exact .unk x
 |pre=>intro j;simp[ren]at j
 |agg cs vs h1 E h2 ih=>
  intro j;simp only[ren]at j;obtain⟨l,I,rfl⟩:=fW.1 j;obtain⟨K,N⟩:=sO I;refine .agg _ _ (by omega) E λi y v J A=>?_;grind [Jn]
 |tup cs vs h1 h2 ih=>
  intro j;simp only[ren]at j;obtain⟨l,I,rfl⟩:=fW.1 j;obtain⟨K,N⟩:=sO I;refine .tup _ _ (by omega) λi y v J A=>?_;grind [Jn]
 |ptr b off r o hm C=>
  intro j;simp only[ren]at j;obtain⟨k,z,rfl⟩:=fW.1 j;obtain⟨_,z⟩:=vE z;simp only[pO]at z;obtain⟨cs,C⟩:=C;obtain⟨x,D,B⟩:=pZ h z;rcases B with⟨cs',l,h1,h2,rfl⟩|⟨w,esz,rows,h1,rfl⟩;exact .ptr k off r o (by grind [vD]) ⟨l,D⟩;simp_all
 |slr b i n v wm esz rows E C F A=>
  intro j;simp only[ren]at j;obtain⟨k,z,rfl⟩:=fW.1 j;obtain⟨_,z⟩:=vE z;simp only[pO]at z;obtain⟨x,D,B⟩:=pZ h z;rcases B with⟨cs',l,h1,h2,rfl⟩|⟨w,G,rows',h1,rfl⟩;simp_all;rw[C]at h1;injection h1 with h1;injection h1 with a1 a2 a3;subst a1 a2 a3;refine .slr k i n v wm esz rows E D F λe=>?_;have a4:(gV s es blks).g.μ k=s.g.μ b:=vD z;rcases A e with⟨H,R,W,S⟩|⟨r,cap,c,V,fz,H,q⟩;exact .inl ⟨by simp_all,R,W,S⟩;exact .inr ⟨r,cap,c,V,fz,by simp_all,q⟩
 |ep b ext i off v wm esz rows E C F A=>
  intro j;simp only[ren]at j;obtain⟨k,z,rfl⟩:=fW.1 j;obtain⟨_,z⟩:=vE z;simp only[pO]at z;obtain⟨x,D,B⟩:=pZ h z;obtain⟨G,rows',row,h1,h2,U,rfl⟩:=B;have M:=h1;rw[C]at h1;injection h1 with h1;injection h1 with a1 a2 a3;subst a1 a2 a3;have Y:=Jn U;obtain⟨r,H,A⟩:=A h2 (by omega);subst A;exact .ptr k off r (i*esz) (PW z M H) ⟨_,D⟩
 |fn f first caps fs cs h1 h2 _ _ Z a0=>
  intro j;simp only[ren]at j;obtain⟨l1,O,j⟩:=bF.1 j;obtain⟨l2,L,rfl⟩:=fW.1 j;obtain⟨K,N⟩:=sO O;obtain⟨k3,k4⟩:=sO L;refine .fn f _ _ fs cs (by omega) (by omega) (λi y v J A=>?_) (λi y v J A=>?_)
  all_goals grind [Jn]
def idE(es:List Ent)(k:Nat):Nat:=((es[k]?).map Ent.id).getD 0
theorem uM{k:Nat}{e:Ent}(he:es[k]?=some e):idE es k=e.id:=by simp[idE,he]
include h in
theorem rQ(k r o:Nat)(hw:Wr1 (gV s es blks) k r o):k<es.length/\Wr1 s (idE es k) r o:=by
 unfold Wr1 at hw;have q:(gV s es blks).σ=blks:=rfl;rw[q]at hw;cases hk:blks[k]? with
 |none=>simp_all
 |some x=>
  have j:k<es.length:=by rw[h.len];grind
  refine⟨j,?_⟩;have e:es[k]?=some es[k]:=JV j;have g:=h.blk k _ x e hk;rw[uM e];rw[hk]at hw;unfold Wr1;cases hcase:es[k]with
  |whole b=>
   rw[hcase]at g e;rcases g with⟨cs',l,h1,h2,rfl⟩|⟨w,n,rows',h1,rfl⟩
   all_goals grind [Ent.id,vD,sO]
  |elem b ext i=>
   rw[hcase]at g e;obtain⟨n,rows',row,h1,h2,v,rfl⟩:=g;grind [Ent.id,gV]
include h in
theorem JMQ:Inv (gV s es blks):=by
 have hi:=h.inv;have hlen:(gV s es blks).σ.length=es.length:=h.len.symm;refine Dz hi rfl ?_ ?_ (idE es) ?_ (λk r o K=>(rQ h k r o K).2) (λr o hc=>⟨(hi.const r o hc).1,λk K=>(hi.const r o hc).2 _ (rQ h k r o K).2⟩);intro k cs z;have z:blks[k]?=some (.box cs):=z;have A:k<es.length:=by grind
 have y:es[k]?=some es[k]:=JV A;have q:=h.blk k _ _ y z;cases hcase:es[k]with
 |whole b=>
  rw[hcase]at q y;rcases q with⟨cs',l,h1,h2,g⟩|⟨w,n,rows',h1,g⟩;injection g with g;subst g;obtain⟨E,I⟩:=sO h2;obtain⟨r,o,c,e,fz,D,L,W,M,G⟩:=hi.box _ _ h1;refine⟨r,o,c,e,fz,by grind [vD],L,by omega,λi x U=>?_,by simp_all⟩;grind [Jn,B6];cases g
 |elem b ext i=>
  rw[hcase]at q y;obtain⟨n,rows',row,h1,h2,F,g⟩:=q;injection g with g;subst g;have H:=Jn F;rcases hi.arr _ _ _ _ h1 with⟨D,C⟩|⟨r,c,e,fz,D,L,J,Y,M,G⟩;simp_all;have V:=J row (iD F);have N:i*n+n<=rows'.length*n:=(by have:=zQ4 n (show i+1<=rows'.length from H);grind);refine⟨r,i*n,c,e,fz,PW y h1 D,L,by simp;omega,λj x B=>?_,λo h1 h2=>G.1 o (zQ2 _) (by grind)⟩;rw[fB]at B;cases hrj:row[j]? with
  |none=>simp_all
  |some O=>simp[hrj]at B;subst B;obtain⟨⟨v,T,C⟩,_⟩:=M i j row O F hrj;exact⟨v,T,.p _ _ C,C.one⟩
 intro k wm esz rows z;have z:blks[k]?=some (.arr wm esz rows):=z;have A:k<es.length:=by grind
 have y:es[k]?=some es[k]:=JV A;have q:=h.blk k _ _ y z;cases hcase:es[k]with
 |whole b=>
  rw[hcase]at q y;rcases q with⟨cs',l,h1,h2,g⟩|⟨w,n,rows',h1,g⟩;cases g;injection g with a1 a2 a3;subst a1 a2 a3;rcases hi.arr _ _ _ _ h1 with⟨D,C⟩|⟨r,c,e,fz,D,P⟩;exact .inl ⟨by grind [vD],C⟩;exact .inr ⟨r,c,e,fz,by grind [vD],P⟩
 |elem b ext i=>rw[hcase]at q y;obtain⟨n,rows',row,h1,h2,F,g⟩:=q;cases g
 ·intro E I h1 h2 S;rw[hlen]at h1 h2;have R:es[E]?=some es[E]:=JV h1;have Q:es[I]?=some es[I]:=JV h2;rw[uM R,uM Q]at S;refine PO h.nodup (x:=es[E].id) ?_ ?_
  all_goals simp_all
end
end Go.Am
end
section
namespace Go.Am
def oJ(s1:Sn)(es:List Ent)(new:Nat)(σ2:List Blk)(k:Nat)(y:Blk):Prop:=
 match es[k]? with
 |some (.whole b)=>(∃cs l,y=.box cs/\bk.bkL es new cs=some l/\σ2[b]?=some (.box l))\/(∃w esz rows,y=.arr w esz rows/\σ2[b]?=some (.arr w esz rows))
 |some (.elem b _ i)=> ∃w esz rows e,s1.σ[b]?=some (.arr w esz rows)/\y=.box (e.map .p)/\σ2[b]?=some (.arr w esz (rows.set i e))
 |none=>(∃cs l,y=.box cs/\bk.bkL es new cs=some l/\σ2[new+(k-es.length)]?=some (.box l))\/(∃w esz rows,y=.arr w esz rows/\σ2[new+(k-es.length)]?=some (.arr w esz rows))
structure Dv(s1:Sn)(es:List Ent)(blks:List Blk)(new kf:Nat)(c':Sn)(σ2:List Blk):Prop where
 cin:YC s1 es blks
 inv:Inv c'
 trans:aW (gV s1 es blks) c'
 len:c'.σ.length=es.length+kf
 slen:σ2.length=s1.σ.length
 dead: ∀j,j<kf->s1.σ[new+j]?=some .dead
 out: ∀k y,c'.σ[k]?=some y->oJ s1 es new σ2 k y
 same: ∀b,b∉es.map Ent.id->(b<new\/new+kf<=b)->σ2[b]?=s1.σ[b]?
def kOf(es:List Ent)(new kf b:Nat):Option Nat:=
 match cV (.whole b) es 0 with
 |some k=>some k
 |none=>if new<=b/\b<new+kf/\b∉es.map Ent.id then some (es.length+(b-new))else none
def eU(s1:Sn)(es:List Ent)(new kf:Nat)(c':Sn)(σ2:List Blk):Sn:=
 ⟨σ2,⟨λb=>match kOf es new kf b with
  |some k=>c'.g.μ k
  |none=>s1.g.μ b,c'.g.C⟩,c'.w⟩
theorem rl{e:Ent}: ∀{es:List Ent} {k:Nat},cV e es k=none->e∉es
 |[],k,_=>by simp
 |x::r,k,h=>by
  simp only[cV]at h;split at h;cases h;rename_i g;simp only[bX,not_or];exact⟨λe=>g e.symm,rl h⟩
section
variable {s1 c':Sn} {es:List Ent} {blks σ2:List Blk} {new kf:Nat} (h:Dv s1 es blks new kf c' σ2)
theorem ND{k:Nat}{e:Ent}(he:es[k]?=some e):e.id∈es.map Ent.id:=hX.2 ⟨e,iD he,rfl⟩
include h in
theorem CG{e g:Nat}{e1 e2:Ent}(h1:es[e]?=some e1)(h2:es[g]?=some e2)(he:e1.id=e2.id):e=g:=
 PO h.cin.nodup (x:=e1.id) (by simp_all) (by simp_all)
include h in
theorem JJS{k:Nat}{e:Ent}(he:es[k]?=some e): ∃y,s1.σ[e.id]?=some y/\y≠.dead:=by
 obtain⟨x,_,g⟩:=pZ h.cin he;cases e with
 |whole b=>
  rcases g with⟨cs',l,h1,h2,rfl⟩|⟨w,j,rows',h1,rfl⟩;exact⟨_,h1,by simp⟩;exact⟨_,h1,by simp⟩
 |elem b ext i=>obtain⟨j,rows',row,h1,h2,n,rfl⟩:=g;exact⟨_,h1,by simp⟩
include h in
theorem JHh{j:Nat}(hj:j<kf):new+j∉es.map Ent.id:=by intro n;obtain⟨e,q,g⟩:=hX.1 n;obtain⟨k,o⟩:=fL q;obtain⟨y,r,hd⟩:=JJS h o;rw[g,h.dead j hj]at r;simp_all
include h in
theorem JFP{k b:Nat}(he:es[k]?=some (.whole b)):kOf es new kf b=some k:=by
 unfold kOf;cases hc:cV (.whole b) es 0 with
 |none=>exact absurd (iD he) (rl hc)
 |some g=>
  obtain⟨_,e⟩:=vE hc;grind [CG]
include h in
theorem JIV{k b e i:Nat}(he:es[k]?=some (.elem b e i)):kOf es new kf b=none:=by
 unfold kOf;cases hc:cV (.whole b) es 0 with
 |some j=>obtain⟨_,g⟩:=vE hc;simp only[pO]at g;have:=CG h g he rfl;simp_all
 |none=>have:b∈es.map Ent.id:=ND he;simp[this]
include h in
theorem JG9{j:Nat}(hj:j<kf):kOf es new kf (new+j)=some (es.length+j):=by
 unfold kOf;have g:=JHh h hj;cases hc:cV (.whole (new+j)) es 0 with
 |some k=>obtain⟨_,e⟩:=vE hc;simp only[pO]at e;exact absurd (ND e) g
 |none=>simp_all
theorem PT{b:Nat}(h1:b∉es.map Ent.id)(h2:b<new\/new+kf<=b):kOf es new kf b=none:=by
 unfold kOf;cases hc:cV (.whole b) es 0 with
 |some g=>obtain⟨_,e⟩:=vE hc;simp only[pO]at e;exact absurd (ND e) h1
 |none=>
  grind
def tgt(es:List Ent)(new k:Nat):Nat:=match es[k]? with|some e=>e.id|none=>new+(k-es.length)
include h in
theorem nA{k:Nat}(hk:k<es.length+kf)(j: ∀b e i,es[k]?≠some (.elem b e i)):(eU s1 es new kf c' σ2).g.μ (tgt es new k)=c'.g.μ k:=by
 simp only[eU,tgt];cases he:es[k]? with
 |some e=>
  cases e with
  |whole b=>simp only[Ent.id];rw[JFP h he]
  |elem b e i=>simp_all
 |none=>
  grind [JG9]
include h in
theorem DC{k b ext i:Nat}(he:es[k]?=some (.elem b ext i)): ∃esz rows row r j,s1.σ[b]?=some (.arr true esz rows)/\ext=rows.length/\rows[i]?=some row/\s1.g.μ b=some (r,0)/\
  c'.σ[k]?=some (.box (j.map .p))/\j.length=row.length/\row.length=esz/\c'.g.μ k=some (r,i*esz)/\σ2[b]?=some (.arr true esz (rows.set i j))/\(eU s1 es new kf c' σ2).g.μ b=some (r,0):=by
 obtain⟨x,B,q⟩:=pZ h.cin he;obtain⟨esz,rows,row,h1,h2,A,rfl⟩:=q;have D:=Jn A;rcases h.cin.inv.arr _ _ _ _ h1 with⟨C,L⟩|⟨r,c,e,fz,C,K,y,J,F,E⟩;simp_all;obtain⟨⟨cs',z,M⟩,I⟩:=h.trans.box k _ B;have o:=h.out k _ z;unfold oJ at o;rw[he]at o;obtain⟨w,v,rows',j,n,G,H⟩:=o;rw[h1]at n;injection n with n;injection n with a1 a2 a3;subst a1 a2 a3;grind [PW,eU,JIV]
include h in
theorem Fb{x y:AV}{v:Value}(hr:JA c' x v):bk es new x=some y->JA (eU s1 es new kf c' σ2) y v:=by
 have G: ∀{k:Nat} {z:Blk},c'.σ[k]?=some z->k<es.length+kf:=λhz=>by rw[<-h.len];grind
 induction hr generalizing y with
 |p c v hp=>intro j;simp[bk]at j;subst j;exact .p _ _ hp
 |data cs vs h1 h2=>intro j;simp[bk]at j;subst j;exact .data _ _ h1 h2
 |cp cs off r o vals p1 W=>intro j;simp[bk]at j;subst j;exact .cp cs off r o vals p1 W
 |unk x=>intro j;simp[bk]at j;subst j;exact .unk x
 |pre=>intro j;simp[bk]at j
 |agg cs vs h1 K h2 ih=>
  intro j;simp only[bk]at j;split at j;rename_i l R;injection j with j;subst j;obtain⟨U,T⟩:=sL R;refine .agg _ _ (by omega) K λi y v Q H=>?_;grind [Jn];cases j
 |tup cs vs h1 h2 ih=>
  intro j;simp only[bk]at j;split at j;rename_i l R;injection j with j;subst j;obtain⟨U,T⟩:=sL R;refine .tup _ _ (by omega) λi y v Q H=>?_;grind [Jn];cases j
 |ptr k off r o hm B=>
  intro j;obtain⟨cs,B⟩:=B;have F:=G B;have D:=h.out k _ B;unfold oJ at D;simp only[bk]at j;split at j;rename_i I;have a9:es[k]?=some es[k]:=JV I;split at j;rename_i b A;injection j with j;subst j;have C:=nA h F (by rw[A];simp);simp only[tgt,A,Ent.id]at C;rw[A]at D;rcases D with⟨cs',l,E,M,S⟩|⟨w,esz,rows,E,M⟩;exact .ptr b off r o (by simp_all) ⟨l,S⟩;cases E;rename_i b e i A;injection j with j;subst j;obtain⟨esz,rows,row,r',O,f1,Y,f3,f4,f5,f6,f7,L,Z,V⟩:=DC h A;rw[hm]at L;injection L with L;injection L with g1 g2;subst g1 g2;exact .ep b e i off _ true esz (rows.set i O) ⟨_,_,rfl⟩ Z (by simp[Y]) λ_ _=>⟨r,V,rfl⟩;cases j;rename_i N;injection j with j;subst j;have A:es[k]?=none:=oH (by omega);have C:=nA h F (by rw[A];simp);simp only[tgt,A]at C;rw[A]at D;rcases D with⟨cs',l,E,M,S⟩|⟨w,esz,rows,E,M⟩;exact .ptr _ off r o (by simp_all) ⟨l,S⟩;cases E
 |slr k i n v wm esz rows K B J H=>
  intro j;have F:=G B;have D:=h.out k _ B;unfold oJ at D;have go: ∀b,(eU s1 es new kf c' σ2).g.μ b=c'.g.μ k->σ2[b]?=some (.arr wm esz rows)->JA (eU s1 es new kf c' σ2) (.slr b i n) v:=(by intro b C P;refine .slr b i n v wm esz rows K P J λe=>?_;rcases H e with⟨m',q1,q2,q3⟩|⟨r,cap,c,E,fz,m',q⟩;exact .inl ⟨by simp_all,q1,q2,q3⟩;exact .inr ⟨r,cap,c,E,fz,by simp_all,q⟩);simp only[bk]at j;split at j;rename_i I;split at j;rename_i b A;injection j with j;subst j;have C:=nA h F (by rw[A];simp);grind [tgt,Ent.id];cases j;rename_i N;injection j with j;subst j;have A:es[k]?=none:=oH (by omega);have C:=nA h F (by rw[A];simp);grind [tgt]
 |ep k ext i off v wm esz rows K B J H=>
  intro j;have F:=G B;have D:=h.out k _ B;unfold oJ at D;have go: ∀b,(eU s1 es new kf c' σ2).g.μ b=c'.g.μ k->σ2[b]?=some (.arr wm esz rows)->JA (eU s1 es new kf c' σ2) (.ep b ext i off) v:=by intro b C P;refine .ep b ext i off v wm esz rows K P J λE M=>?_;simp_all
  simp only[bk]at j;split at j;rename_i I;split at j;rename_i b A;injection j with j;subst j;have C:=nA h F (by rw[A];simp);grind [tgt,Ent.id];cases j;rename_i N;injection j with j;subst j;have A:es[k]?=none:=oH (by omega);have C:=nA h F (by rw[A];simp);grind [tgt]
 |fn f first caps fs cs h1 h2 _ _ aa a8=>
  intro j;simp only[bk]at j;split at j
  ·rename_i a c ha hc;injection j with j;subst j;obtain⟨U,T⟩:=sL ha;obtain⟨k3,k4⟩:=sL hc;refine .fn f a c fs cs (by omega) (by omega) (λi y v Q H=>?_) (λi y v Q H=>?_)
   all_goals grind [Jn]
  cases j
inductive SZ(es:List Ent)(new kf b:Nat):Prop where|out (k:Nat):k<es.length+kf->tgt es new k=b->(∀b e i,es[k]?≠some (.elem b e i))->SZ es new kf b|elem (k e i:Nat):es[k]?=some (.elem b e i)->SZ es new kf b|other:b∉es.map Ent.id->(b<new\/new+kf<=b)->SZ es new kf b
theorem sB(b:Nat):SZ es new kf b:=by
 by_cases n:b∈es.map Ent.id;obtain⟨e,j,g⟩:=hX.1 n;obtain⟨k,h⟩:=fL j;have r:=Jn h;cases e with
 |whole q=>simp only[Ent.id]at g;subst g;exact .out k (by omega) (by grind [tgt,Ent.id]) (by rw[h];simp)
 |elem q e' o=>simp only[Ent.id]at g;subst g;exact .elem k e' o h
 by_cases v:new<=b/\b<new+kf;have j:es[es.length+(b-new)]?=none:=oH (by omega);refine .out (es.length+(b-new)) (by omega) ?_ (by rw[j];simp);grind [tgt];exact .other n (by omega)
include h in
theorem HW{k:Nat}(hk:k<es.length+kf)(j: ∀b e i,es[k]?≠some (.elem b e i))(r o:Nat):
  Wr1 (eU s1 es new kf c' σ2) (tgt es new k) r o↔Wr1 c' k r o:=by
 have q:=nA h hk j;have g:k<c'.σ.length:=by rw[h.len];exact hk
 have n:c'.σ[k]?=some c'.σ[k]:=JV g;have w:=h.out k _ n;unfold oJ at w;unfold Wr1;rw[n,q];have v:(eU s1 es new kf c' σ2).σ=σ2:=rfl;rw[v];cases he:es[k]? with
 |some e=>
  grind [tgt,Ent.id,sL]
 |none=>
  grind [tgt,sL]
include h in
theorem IE{k b e i:Nat}(he:es[k]?=some (.elem b e i))(r o:Nat):Wr1 (eU s1 es new kf c' σ2) b r o↔Wr1 s1 b r o:=by
 obtain⟨esz,rows,row,r',g,v,x,z,y,w,B,q,n,A,j⟩:=DC h he;grind [Wr1,eU]
include h in
theorem dv{b:Nat}(h1:b∉es.map Ent.id)(h2:b<new\/new+kf<=b)(r o:Nat):Wr1 (eU s1 es new kf c' σ2) b r o↔Wr1 s1 b r o:=by
 unfold Wr1;have j:(eU s1 es new kf c' σ2).σ=σ2:=rfl;have e:(eU s1 es new kf c' σ2).g.μ b=s1.g.μ b:=by grind [eU,PT]
 rw[j,h.same b h1 h2,e]
include h in
theorem qe{r o:Nat}(hw:Wr c' r o):(∃k e,es[k]?=some e/\Wr1 (gV s1 es blks) k r o/\Wr1 s1 e.id r o)\/s1.w.heap.size<=r:=by
 rcases h.trans.wnew r o hw with⟨k,j⟩|n;obtain⟨g,q⟩:=rQ h.cin k r o j;have v:es[k]?=some es[k]:=JV g;grind [uM];exact .inr n
include h in
theorem pe:aW s1 (eU s1 es new kf c' σ2):=by
 refine⟨?_,λr o hc=>h.trans.cmono r o hc,λr o hc=>?_,λr o ⟨b,G⟩=>?_,Nat.le_of_eq h.slen.symm,λb cs y=>?_,λb wm esz rows y=>?_⟩;refine h.trans.keep.mono λr o ⟨k,j⟩=>?_;exact⟨_,(rQ h.cin k r o j).2⟩;rcases h.trans.cnew r o hc with hc|⟨k,j⟩|O;exact .inl hc;exact .inr (.inl ⟨_,(rQ h.cin k r o j).2⟩);exact .inr (.inr O);cases sB (es:=es) (new:=new) (kf:=kf) b with
 |out k j ht q=>
  subst ht;rcases qe h ⟨k,(HW h j q r o).1 G⟩with⟨k',e,_,_,J⟩|O;exact .inl ⟨_,J⟩;simp_all
 |elem k e i g=>exact .inl ⟨b,(IE h g r o).1 G⟩
 |other h1 h2=>exact .inl ⟨b,(dv h h1 h2 r o).1 G⟩
 ·cases sB (es:=es) (new:=new) (kf:=kf) b with
  |out k j ht q=>
   cases g:es[k]? with
   |none=>
    exfalso;simp only[tgt,g]at ht;have I:es.length<=k:=by simp_all
    have:=h.dead (k-es.length) (by omega);simp_all
   |some e=>
    cases e with
    |elem b e i=>simp_all
    |whole T=>
     simp only[tgt,g,Ent.id]at ht;subst ht;obtain⟨x,H,A⟩:=pZ h.cin g;rcases A with⟨cs',l,h1,h2,rfl⟩|⟨w,z,rows',h1,rfl⟩
     ·rw[y]at h1;injection h1 with h1;injection h1 with h1;subst h1
      obtain⟨⟨Y,F,Q⟩,N⟩:=h.trans.box k _ H;have v:=h.out k _ F;unfold oJ at v;rw[g]at v;have E:=nA h j q;simp only[tgt,g,Ent.id]at E;rcases v with⟨M,L,n,D,P⟩|⟨w,esz,rows,n,D⟩
      ·injection n with n;subst n;refine⟨⟨L,P,?_⟩,?_⟩
       all_goals grind [sL,sO,vD]
      cases n
     simp_all
  |elem k e i g=>
   grind [DC]
  |other h1 h2=>
   refine⟨⟨cs,by rw[<-y];exact h.same b h1 h2,rfl⟩,?_⟩;grind [eU,PT]
 cases sB (es:=es) (new:=new) (kf:=kf) b with
 |out k j ht q=>
  cases g:es[k]? with
  |none=>
   exfalso;simp only[tgt,g]at ht;have I:es.length<=k:=by simp_all
   have:=h.dead (k-es.length) (by omega);simp_all
  |some e=>
   cases e with
   |elem b e i=>simp_all
   |whole T=>
    simp only[tgt,g,Ent.id]at ht;subst ht;obtain⟨x,H,A⟩:=pZ h.cin g;rcases A with⟨cs',l,h1,h2,rfl⟩|⟨w,z,rows',h1,rfl⟩;simp_all;rw[y]at h1;injection h1 with h1;injection h1 with a1 a2 a3;subst a1 a2 a3;obtain⟨wm',C,F,Q,N,q4⟩:=h.trans.arr k _ _ _ H;have v:=h.out k _ F;unfold oJ at v;rw[g]at v;have E:=nA h j q;simp only[tgt,g,Ent.id]at E;rcases v with⟨M,L,n,D,P⟩|⟨w,S,R,n,D⟩;cases n;injection n with a1 a2 a3;subst a1 a2 a3;exact⟨wm',C,D,Q,N,λe=>by grind [vD]⟩
 |elem k e i g=>
  obtain⟨z,rows',row,r',V,B,f2,f3,U,f5,f6,f7,Z,W,K⟩:=DC h g;rw[y]at B;injection B with B;injection B with a1 a2 a3;subst a1 a2 a3;exact⟨true,_,W,λ_=>rfl,by simp,λ_=>by rw[K,U]⟩
 |other h1 h2=>
  refine⟨wm,rows,by rw[<-y];exact h.same b h1 h2,id,zQ0 _,λ_=>?_⟩;grind [eU,PT]
include h in
theorem JJW:Inv (eU s1 es new kf c' σ2):=by
 have hi:=h.cin.inv;have t:=pe h;have O: ∀{b},¬(b∈es.map Ent.id\/(new<=b/\b<new+kf))->b∉es.map Ent.id/\(b<new\/new+kf<=b):=λH=>⟨λB=>H (.inl B),by omega⟩;have A: ∀{k b e i r o},es[k]?=some (.elem b e i)->(Wr1 (gV s1 es blks) k r o↔Wr1 c' k r o):=(by intro k b e i r o q;obtain⟨x,hx,a9⟩:=pZ h.cin q;obtain⟨esz,rows,row,h1,h2,h3,rfl⟩:=a9;obtain⟨⟨cs',q1,q2⟩,q3⟩:=h.trans.box k _ hx;grind [gV,Wr1]);have P: ∀{k b r o},k<es.length+kf->Wr1 c' k r o->Wr1 s1 b r o->(∃n,es[n]?=some (.whole b)\/ ∃e i,es[n]?=some (.elem b e i)/\n=k):=by
  intro k b r o N J M;rcases qe h ⟨k,J⟩with⟨n,e,q,an,y⟩|H;have E:=hi.apart _ _ _ _ y M;cases e with
  |whole b'=>grind [Ent.id]
  |elem b' e' i'=>
   simp only[Ent.id]at E;subst E;have:=h.inv.apart _ _ _ _ ((A q).1 an) J;grind
  have:=uD hi b r o M;omega
 refine lU hi t (λb=>b∈es.map Ent.id\/(new<=b/\b<new+kf)) ?_ ?_ ?_ ?_ ?_ ?_ ?_ ?_;intro b H;obtain⟨h1,h2⟩:=O H;exact⟨h.same b h1 h2,by grind [eU,PT]⟩;intro b r o v H J hv;refine h.trans.keep.cell ?_ hv;rintro⟨k,N⟩;obtain⟨D,y⟩:=rQ h.cin k r o N;have q:es[k]?=some es[k]:=JV D;rw[uM q]at y;have:=hi.apart _ _ _ _ y J;simp_all;intro b cs hd M;have M:σ2[b]?=some (.box cs):=M;cases sB (es:=es) (new:=new) (kf:=kf) b with
 |other h1 h2=>grind
 |elem k e i q=>
  grind [DC]
 |out k N ht W=>
  subst ht;have D:k<c'.σ.length:=by rw[h.len];exact N
  have hg:c'.σ[k]?=some c'.σ[k]:=JV D;have ho:=h.out k _ hg;unfold oJ at ho;have a8: ∃Z,c'.σ[k]?=some (.box Z)/\bk.bkL es new Z=some cs:=by
   cases q:es[k]? with
   |some e=>
    grind [tgt,Ent.id]
   |none=>
    grind [tgt]
  obtain⟨Z,h0,hl⟩:=a8;obtain⟨k1,k2⟩:=sL hl;obtain⟨r,o,c,e,fz,B,hh,c8,hx,bc⟩:=h.inv.box _ _ h0;refine⟨r,o,c,e,fz,by grind [nA],hh,by omega,λi x c6=>?_,by simp_all⟩;grind [Jn,Fb]
 intro b wm esz rows hd M;have M:σ2[b]?=some (.arr wm esz rows):=M;cases sB (es:=es) (new:=new) (kf:=kf) b with
 |other h1 h2=>grind
 |elem k e i q=>
  obtain⟨bi,rows',row,r',bo,f1,f2,f3,f4,f5,f6,f7,f8,f9,be⟩:=DC h q;rw[M]at f9;injection f9 with f9;injection f9 with a1 a2 a3;subst a1 a2 a3;have D:=Jn f3;rcases hi.arr _ _ _ _ f1 with⟨B,V⟩|⟨r,c,e1,fz,B,hh,al,hl,hx,bc⟩;simp_all;rw[f4]at B;injection B with B;injection B with B _;subst B;obtain⟨c2,q1,q2,q3⟩:=t.keep.2.1 _ _ _ _ hh;obtain⟨rr,oo,c3,e3,c7,m3,T,bj,b4,bn⟩:=h.inv.box _ _ f5;rw[f8]at m3;injection m3 with m3;injection m3 with z I;subst z I;have b5:c'.w.heap[r']?=some (.cells c2 e1 fz):=q1;rw[b5]at T;injection T with T;injection T with z I w3;subst z I w3;refine .inr ⟨r',c2,e1,fz,be,q1,λca c9=>?_,by simp;omega,λQ j ah x0 L a0=>⟨?_,λh=>by cases h⟩,by simp_all⟩;grind;have bx:=Jn a0;by_cases ag:Q=i;subst ag;rw[AW D]at L;injection L with L;subst L;obtain⟨v,hv,V,_⟩:=b4 j (.p x0) (by simp[a0]);refine⟨v,hv,?_⟩;cases V with|p _ _ V=>exact V
  rw[EO (Ne.symm ag)]at L;obtain⟨⟨v',cb,ay⟩,_⟩:=hx Q j ah x0 L a0;refine⟨v',?_,ay.mono hi t⟩;have ab:cellAt s1.w r' (Q*esz+j)=some v':=by grind [hJ]
  have b6:j<esz:=by grind
  have b0: ¬Wr (gV s1 es blks) r' (Q*esz+j):=by
   rintro⟨n,g⟩;obtain⟨F,y⟩:=rQ h.cin n _ _ g;have C:es[n]?=some es[n]:=JV F;rw[uM C]at y;have bf:Wr1 s1 b r' (Q*esz+j):=by grind [Wr1]
   have E:=hi.apart _ _ _ _ y bf;have K:n=k:=CG h C q E;subst K;obtain⟨x,b9,a9⟩:=pZ h.cin q;obtain⟨bt,bh,Y,G,U,g3,rfl⟩:=a9;rw[f1]at G;injection G with G;injection G with z1 z2 z3;subst z2 z3;have aj:(gV s1 es blks).σ[n]?=some (.box (Y.map .p)):=b9;unfold Wr1 at g;rw[aj,PW q f1 f4]at g;obtain⟨o0,m0,hlo,b7⟩:=g;injection m0 with m0;injection m0 with _ m0;subst m0;have bp:=al Y (iD g3);simp at b7;rcases zQ3 Q i with am|bu;have:=jT am b6;omega;have:=zQ4 esz (show i+1<=Q by omega);grind
  have:=h.trans.keep.cell b0 ab;grind [hJ]
 |out k N ht W=>
  subst ht;have D:k<c'.σ.length:=by rw[h.len];exact N
  have hg:c'.σ[k]?=some c'.σ[k]:=JV D;have ho:=h.out k _ hg;unfold oJ at ho;have a8:c'.σ[k]?=some (.arr wm esz rows):=by
   cases q:es[k]? with
   |some e=>
    grind [tgt,Ent.id]
   |none=>
    grind [tgt]
  rcases h.inv.arr _ _ _ _ a8 with⟨B,V⟩|⟨r,c,e,fz,B,hq⟩;exact .inl ⟨by grind [nA],V⟩;exact .inr ⟨r,c,e,fz,by grind [nA],hq⟩
 
 intro b1 b2 r o hd h1 h2;cases sB (es:=es) (new:=new) (kf:=kf) b1 with
 |other G U=>grind
 |out k1 a7 ba ao=>
  subst ba;have z:=(HW h a7 ao r o).1 h1;cases sB (es:=es) (new:=new) (kf:=kf) b2 with
  |out k2 S a6 R=>subst a6;have I:=(HW h S R r o).1 h2;rw[h.inv.apart _ _ _ _ z I]
  |elem k2 e i q=>
   exfalso;have I:=(IE h q r o).1 h2;obtain⟨n,g|⟨e',i',g,K⟩⟩:=P a7 z I;have:=CG h g q rfl;simp_all;simp_all
  |other G U=>
   exfalso;have I:=(dv h G U r o).1 h2;obtain⟨n,g|⟨e',i',g,K⟩⟩:=P a7 z I;exact G (ND g);simp_all
 |elem k1 e1 i1 af=>
  have z:=(IE h af r o).1 h1;cases sB (es:=es) (new:=new) (kf:=kf) b2 with
  |out k2 S a6 R=>
   subst a6;exfalso;have I:=(HW h S R r o).1 h2;obtain⟨n,g|⟨e',i',g,K⟩⟩:=P S I z;have:=CG h g af rfl;simp_all;simp_all
  |elem k2 e i q=>exact hi.apart _ _ _ _ z ((IE h q r o).1 h2)
  |other G U=>exact hi.apart _ _ _ _ z ((dv h G U r o).1 h2)
 exact λr o hc=>(h.inv.const r o hc).1;intro r o b hc hd J;cases sB (es:=es) (new:=new) (kf:=kf) b with
 |other G U=>grind
 |out k N ht W=>subst ht;exact(h.inv.const r o hc).2 _ ((HW h N W r o).1 J)
 |elem k e i q=>
  have z:=(IE h q r o).1 J;rcases h.trans.cnew r o hc with a5|⟨n,g⟩|H;exact(hi.const r o a5).2 _ z;obtain⟨F,y⟩:=rQ h.cin n _ _ g;have C:es[n]?=some es[n]:=JV F;rw[uM C]at y;have E:=hi.apart _ _ _ _ y z;have K:n=k:=CG h C q E;subst K;exact(h.inv.const r o hc).2 _ ((A q).1 g);have H:s1.w.heap.size<=r:=H;have:=uD hi _ _ _ z;omega
 intro r o b hc b8 hd J;rcases h.trans.cnew r o hc with a5|⟨n,g⟩|H;exact b8 a5;obtain⟨F,y⟩:=rQ h.cin n _ _ g;have C:es[n]?=some es[n]:=JV F;rw[uM C]at y;have E:=hi.apart _ _ _ _ y J;simp_all;have H:s1.w.heap.size<=r:=H;have:=uD hi _ _ _ J;omega
end
end Go.Am
end
