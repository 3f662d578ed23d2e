/-
  Parts of a proof.
-/
import Derived.Calls
import Derived.LoopN
import Derived.KernelRfl
import Derived.Laws.Sem
import Derived.Laws.StructEq
import Derived.Laws.Cells
import Derived.Laws.Cover3
import Derived.Laws.Pointers
import Derived.Deep.AppendSrc
import Derived.Laws.MakeOwn
import Derived.Laws.BytesString
import Derived.DeepKeys
set_option linter.unusedSimpArgs false
set_option linter.unusedVariables false
section
namespace Go.Am
abbrev aI:=Option
abbrev zQ0:= @Nat.le_refl
abbrev zQ1:= @Nat.le_trans
abbrev zQ2:= @Nat.zero_le
abbrev zQ3:= @Nat.lt_or_ge
abbrev zQ4:= @Nat.mul_le_mul_right
abbrev zQ5:= @List.mem_of_getElem?
abbrev zQ6:= @List.ext_getElem?
abbrev zQ7:= @List.mem_of_mem_drop
abbrev zQ8:= @Nat.add_mul
abbrev zQ9:= @List.mem_append
abbrev JX:= @List.getElem?_eq_getElem
abbrev oI:= @List.getElem?_eq_none
abbrev cL:= @List.mem_cons
abbrev aT:= @Bool.and_eq_true
abbrev yQ:= @Sem.run_bind
abbrev sX:= @Result.andThen_ok
abbrev gA:= @Option.map_eq_some_iff
abbrev jx:= @Option.isSome_iff_exists
abbrev vB:= @Nat.add_assoc
abbrev UE:= @Array.ext'
abbrev UF:= @Array.getElem?_toList
abbrev qF:= @List.flatten_cons
abbrev fF:= @List.getElem?_map
abbrev eI:= @Bool.false_eq_true
abbrev VI:= @List.length_eq_one_iff
abbrev fP:= @List.getElem?_of_mem
abbrev UL:= @Sem.run_pure
abbrev UJ:= @List.mem_of_mem_take
abbrev DR:= @List.getElem?_set_self
abbrev HB:= @List.getElem?_set_ne
abbrev DC:= @List.length_cons
abbrev UY:= @Array.all_eq_true_iff_forall_mem
abbrev VV:= @List.length_replicate
abbrev oK:= @List.mem_map
abbrev nY:= @List.getElem?_append_right
abbrev fE:= @List.length_map
abbrev sV:= @Nat.add_zero
abbrev DL:= @List.drop_zero
abbrev Cm:= @Array.getElem?_append_left
abbrev oM:= @Nat.zero_add
abbrev vF:= @Array.getElem?_eq_getElem
abbrev HX:= @Nat.mul_comm
abbrev fR:= @List.length_append
abbrev yT:= @List.length_take
abbrev DU:= @List.length_drop
abbrev TT:= @List.getElem?_take
abbrev ku:= @List.getElem?_drop
abbrev jP:= @List.append_nil
abbrev vQ:= @List.getElem?_append_left
abbrev vR:= @List.cons_append
abbrev EC:= @List.drop_drop
abbrev CY:= @Bool.not_eq_true'
abbrev pX:= @Nat.sub_zero
abbrev bJ:= @Option.bind_eq_some_iff
abbrev JL:= @Option.bind_some
abbrev qC:= @List.mem_cons_of_mem
abbrev yO:= @Bool.or_eq_true
abbrev kp:= @Array.getElem?_eq_some_iff
abbrev lL:= @List.append_assoc
abbrev oG:= @List.take_append_drop
abbrev Cu:= @List.map_take
abbrev bR:= @List.map_cons
abbrev DN:= @List.map_map
abbrev DE:= @List.map_append
abbrev cT:= @Option.map_some
abbrev oC:= @List.nil_append
abbrev VE:= @List.map_replicate
abbrev qG:= @List.mem_singleton
abbrev oJ:= @Int.le_trans
abbrev iQ:= @List.getElem_mem
abbrev aZ:= @Int.le_refl
abbrev lz:= @List.mem_or_eq_of_mem_set
abbrev cG:= @List.getElem?_eq_some_iff
abbrev UI:= @Nat.eq_zero_or_pos
abbrev kl:= @Nat.succ_mul
abbrev fS:= @List.mem_iff_getElem?
abbrev DK:= @Nat.pow_le_pow_right
abbrev kr:= @List.take_succ_cons
abbrev UN:= @List.length_flatten
theorem _root_.And.c{h g e:Prop}(x:h/\g/\e):e:=x.2.2
theorem _root_.And.d{g h j e:Prop}(x:g/\h/\j/\e):e:=x.2.2.2
theorem _root_.And.e{j k n h g:Prop}(x:j/\k/\n/\h/\g):g:=x.2.2.2.2
theorem _root_.And.g{j n o h k e:Prop}(x:j/\n/\o/\h/\k/\e):e:=x.2.2.2.2.2
theorem _root_.And.h{j n q g k o e:Prop}(x:j/\n/\q/\g/\k/\o/\e):e:=x.2.2.2.2.2.2
theorem _root_.And.i{h k o g j n q e:Prop}(x:h/\k/\o/\g/\j/\n/\q/\e):e:=x.2.2.2.2.2.2.2
theorem _root_.And.j{h n r g k q v o e:Prop}(x:h/\n/\r/\g/\k/\q/\v/\o/\e):e:=x.2.2.2.2.2.2.2.2
theorem _root_.And.k{h n r g j q w o v e:Prop}(x:h/\n/\r/\g/\j/\q/\w/\o/\v/\e):e:=x.2.2.2.2.2.2.2.2.2
inductive PV where
 |b (x:Bool)
 |i (k:IntKind) (n:Int)
 |s (l:List UInt8)
 |sl (esz:Nat) (rows:List (List PV))
 |np
 |nf
 |slc (esz:Nat) (rows:List (List PV))
 deriving Inhabited
inductive AV where
 |p (c:PV)
 |data (cs:List PV)
 |agg (cs:List AV)
 |tup (vs:List AV)
 |ptr (b off:Nat)
 |cp (cs:List PV) (off:Nat)
 |slr (b i n:Nat)
 |ep (b ext i off:Nat)
 |pre (b n k:Nat)
 |fn (f:FuncId) (first caps:List AV)
 |unk
 deriving Inhabited
inductive Blk where
 |dead
 |box (cs:List AV)
 |arr (w:Bool) (esz:Nat) (rows:List (List PV))
 deriving Inhabited
abbrev Res:=AV×List Blk
abbrev Orc:=FuncId->List AV->List Blk->Option Res
structure St where
 env:List (Nat×AV)
 sto:List Blk
def lk(n:Nat):List (Nat×AV)->Option AV|[]=>none|(m,v)::r=>if n=m then some v else lk n r
inductive RM(α:Type) where|ret (a:α)|slot (n:Nat) (k:AV->RM α)|blk (b:Nat) (k:Blk->RM α)|fail
def RM.bind{α β:Type}:RM α->(α->RM β)->RM β| .ret a,f=>f a| .slot n k,f=>.slot n λv=>(k v).bind f| .blk b k,f=>.blk b λv=>(k v).bind f| .fail,_=>.fail
def RM.run{α:Type}:RM α->St->Option α
 | .ret a,_=>some a
 | .slot n k,s=>match lk n s.env with|some v=>(k v).run s|none=>none
 | .blk b k,s=>match s.sto[b]? with|some v=>(k v).run s|none=>none
 | .fail,_=>none
inductive Loc where
 |slot (n:Nat)
 |blk (b:Nat)
 deriving DecidableEq
def RM.reads{α:Type}:RM α->St->List Loc
 | .ret _,_=>[]
 | .slot n k,s=>.slot n::match lk n s.env with|some v=>(k v).reads s|none=>[]
 | .blk b k,s=>.blk b::match s.sto[b]? with|some v=>(k v).reads s|none=>[]
 | .fail,_=>[]
def RM.of{α:Type}:Option α->RM α|some a=>.ret a|none=>.fail
inductive Opd where
 |t (n:Nat)
 |c (x:AV)
 deriving Inhabited
inductive KD where
 |b
 |i (k:IntKind)
 |s
 deriving DecidableEq
inductive BT where
 |plain
 |bool
 |flat (ks:List KD)
 |nils
 |nilp
 |nilf
 deriving DecidableEq
inductive CK where
 |int (k:IntKind)
 |same
 |toStr
 |toBytes (own:Bool)
 deriving DecidableEq
inductive SK where
 |str
 |sl (esz:Nat)
 deriving DecidableEq
inductive AOp where
 |mv (x:Opd)
 |mkarr (esz:Nat) (x:Opd)
 |pick (c a b:Opd)
 |newbox (zero:List PV)
 |box (size:Nat) (x:Opd)
 |build (zero:List PV) (parts:List (Nat×Nat×Opd))
 |lits (own:Bool) (esz n:Nat) (zero:List PV) (parts:List (Nat×Opd))
 |load (agg:Bool) (size:Nat) (x:Opd)
 |store (size:Nat) (x v:Opd)
 |nilchk (x:Opd)
 |bin (op:BinOp) (t:BT) (x y:Opd)
 |un (op:UnOp) (x:Opd)
 |conv (k:CK) (x:Opd)
 |mkslice (own:Bool) (esz bytes:Nat) (zero:List PV) (l c:Opd)
 |slice (k:SK) (x:Opd) (lo hi mx:Option Opd)
 |faddr (off:Nat) (x:Opd)
 |field (agg:Bool) (off size:Nat) (x:Opd)
 |iaddr (esz:Nat) (x i:Opd)
 |aaddr (len esz:Nat) (x i:Opd)
 |sidx (x i:Opd)
 |aidx (agg:Bool) (len esz:Nat) (x i:Opd)
 |extr (x:Opd) (i:Nat)
 |call (f:FuncId) (args:List Opd) (k:Nat)
 |callv (g:Opd) (args:List Opd) (k:Nat)
 |len (str:Bool) (x:Opd)
 |app (esz bytes:Nat) (zero:List PV) (x y:Opd)
 |appn (esz bytes:Nat) (zero:List PV) (y:Opd)
 |mm (mx:Bool) (x y:Opd)
 |newboxo (zero:List PV) (os:List (Nat×Nat))
 |buildo (zero:List PV) (parts:List (Nat×Nat×Opd)) (os:List (Nat×Nat))
 |storen (esz:Nat) (x:Opd)
 |callo (f:FuncId) (keep:List Bool) (args:List Opd) (k:Nat)
 deriving Inhabited
structure bQ where
 op:AOp
 dst:Option Nat
 g:Option (Nat×Bool)
 deriving Inhabited
inductive bU where
 |skip
 |bad
 |reg (draw:Bool) (pairs:List (Nat×Nat)) (ins:List bQ)
 |seq (a b:bU)
 |cond (c:Opd) (a b:bU)
 |block (id:Nat) (c:bU)
 |loop (live:List Nat) (c:bU)
 |lp (n:Nat) (live:List Nat) (c:bU)
 |scope (c:bU)
 |exit (id:Nat)
 |ret
 |keep (live:List Nat) (c:bU)
 |tidy (live:List Nat) (c:bU)
 |br (live:List Nat) (pre:bU) (c:Opd) (a b rest:bU)
 deriving Inhabited
inductive AX where
 |normal
 |exit (id:Nat)
 |ret
 deriving DecidableEq
abbrev Out:=AX×St
inductive vN where|tmp (t:Nat)|cell (t:Nat) (agg:Bool) (size:Nat)
structure AFn where
 np:Nat
 nt:Nat
 body:bU
 res:List vN
 fresh:Bool
structure Eff where
 val:AV
 ws:List (Nat×Blk)
def upd(ws:List (Nat×Blk))(sto:List Blk):List Blk:=ws.foldl (λs x=>s.set x.1 x.2) sto
def unp:List AV->Option (List PV)
 |[]=>some []
 | .p c::r=>match unp r with|some l=>some (c::l)|none=>none
 |_::_=>none
def cellsOf:AV->Option (List AV)| .p c=>some [.p c]| .data cs=>some (cs.map .p)| .agg cs=>some cs| .ptr b o=>some [.ptr b o]| .cp cs o=>some [.cp cs o]| .slr b i n=>some [.slr b i n]| .ep b e i o=>some [.ep b e i o]| .fn f a c=>some [.fn f a c]| .tup _=>none| .pre _ _ _=>none| .unk=>none
def kG(agg:Bool)(cs:List AV):Option AV:=
 if agg then
  match unp cs with
  |some l=>some (.data l)
  |none=>some (.agg cs)
 else match cs with|[x]=>some x|_=>none
def nO(agg:Bool)(cs:List PV):Option AV:=
 if agg then some (.data cs)
 else match cs with|[x]=>some (.p x)|_=>none
def sub{α:Type}(cs:List α)(off size:Nat):Option (List α):=if off=0/\cs.length=size then some cs else if off+size<=cs.length then some ((cs.drop off).take size)else none
def spl{α:Type}(cs:List α)(off:Nat)(vs:List α):Option (List α):=if off=0/\cs.length=vs.length then some vs else if off+vs.length<=cs.length then some (cs.take off++vs++cs.drop (off+vs.length))else none
def fz:AV->RM (List PV×List (Nat×Blk))
 | .p c=>.ret ([c],[])
 | .data cs=>.ret (cs,[])
 | .slr b i n=>.blk b fun
  | .arr _ esz rows=>if i+n=rows.length then .ret ([.sl esz (rows.drop i)],[(b,.arr false esz rows)])else .fail
  |_=>.fail
 | .agg cs=>fzL cs
 |_=>.fail
where
 fzL:List AV->RM (List PV×List (Nat×Blk))
  |[]=>.ret ([],[])
  |x::r=>(fz1 x).bind λa=>(fzL r).bind λc=>.ret (a.1++c.1,a.2++c.2)
 fz1:AV->RM (List PV×List (Nat×Blk))
  | .p c=>.ret ([c],[])
  | .slr b i n=>.blk b fun
   | .arr _ esz rows=>if i+n=rows.length then .ret ([.sl esz (rows.drop i)],[(b,.arr false esz rows)])else .fail
   |_=>.fail
  |_=>.fail
def Jht:KD->PV->PV->Option Bool| .b,.b x,.b y=>some (x==y)| .i k,.i k' x,.i e y=>if k=k'/\k=e then some (x==y)else none| .s,.s x,.s y=>some (x==y)|_,_,_=>none
def J1B:List KD->List PV->List PV->Option Bool
 |[],[],[]=>some true
 |k::ks,x::xs,y::e=>match Jht k x y,J1B ks xs e with|some a,some c=>some (a&&c)|_,_=>none
 |_,_,_=>none
def LL(op:BinOp)(k:IntKind)(x y:Int):Option PV:=
 if y<0 then none
 else match op with| .shl=>some (.i k (k.wrap (x*2^(min y.toNat k.bits))))| .shr=>some (.i k (x.fdiv (2^(min y.toNat k.bits))))|_=>none
def yA(op:BinOp)(k:IntKind)(x y:Int):Option PV:=
 match op with
 | .add=>some (.i k (k.wrap (x+y)))
 | .sub=>some (.i k (k.wrap (x-y)))
 | .mul=>some (.i k (k.wrap (x*y)))
 | .quo=>if y=0 then none else some (.i k (k.wrap (x.tdiv y)))
 | .rem=>if y=0 then none else some (.i k (x.tmod y))
 | .and=>some (.i k (k.wrap (BitVec.ofInt k.bits x&&&BitVec.ofInt k.bits y).toNat))
 | .or=>some (.i k (k.wrap (BitVec.ofInt k.bits x|||BitVec.ofInt k.bits y).toNat))
 | .xor=>some (.i k (k.wrap (BitVec.ofInt k.bits x^^^BitVec.ofInt k.bits y).toNat))
 | .eql=>some (.b (x==y))
 | .neq=>some (.b (x !=y))
 | .lss=>some (.b (decide (x<y)))
 | .leq=>some (.b (decide (x<=y)))
 | .gtr=>some (.b (decide (x>y)))
 | .geq=>some (.b (decide (x>=y)))
 |_=>none
def yF(op:BinOp)(x y:List UInt8):Option PV:=
 match op with
 | .add=>if x.length+y.length<=4611686018427387904 then some (.s (x++y))else none
 | .eql=>some (.b (x==y))
 | .neq=>some (.b (!(x==y)))
 | .lss=>some (.b (Op.bytesLess x y))
 | .leq=>some (.b (Op.bytesLess x y||x==y))
 | .gtr=>some (.b (!(Op.bytesLess x y||x==y)))
 | .geq=>some (.b (!Op.bytesLess x y))
 |_=>none
def iW(op:BinOp)(r:Option Bool):Option AV:=
 match op,r with
 | .eql,some x=>some (.p (.b x))
 | .neq,some x=>some (.p (.b (!x)))
 |_,_=>none
def HQ:BinOp->Option AV| .eql=>some .unk| .neq=>some .unk|_=>none
def mW(op:BinOp)(t:BT)(x y:AV):Option AV:=
 match t with
 | .plain=>match x,y with
  | .p (.i k a),.p (.i k' c)=>match op with| .shl=>(LL .shl k a c).map .p| .shr=>(LL .shr k a c).map .p|_=>if k=k' then(yA op k a c).map .p else none
  | .p (.s a),.p (.s c)=>(yF op a c).map .p
  |_,_=>none
 | .bool=>match x,y with| .p (.b a),.p (.b c)=>iW op (some (a==c))|_,_=>none
 | .flat ks=>match x,y with| .data a,.data c=>iW op (J1B ks a c)|_,_=>none
 | .nils=>match x with
  | .p (.sl _ rows)=>match rows with|[]=>HQ op|_::_=>iW op (some false)
  | .slr _ _ n=>if n=0 then HQ op else iW op (some false)
  |_=>none
 | .nilp=>match x with| .p .np=>iW op (some true)| .ptr _ _=>iW op (some false)| .cp _ _=>iW op (some false)| .ep _ _ _ _=>iW op (some false)|_=>none
 | .nilf=>match x with| .p .nf=>iW op (some true)| .fn _ _ _=>iW op (some false)|_=>none
def unP(op:UnOp)(x:AV):Option AV:=
 match op,x with
 | .neg,.p (.i k n)=>some (.p (.i k (k.wrap (0-n))))
 | .xor,.p (.i k n)=>some (.p (.i k (k.wrap (BitVec.ofInt k.bits (if k.signed then -1 else k.max)^^^BitVec.ofInt k.bits n).toNat)))
 | .not,.p (.b x)=>some (.p (.b (!x)))
 | .not,.unk=>some .unk
 |_,_=>none
def tX:List (List PV)->Option (List UInt8)
 |[]=>some []
 |[.i .u8 n]::r=>match tX r with|some l=>some (UInt8.ofNat n.toNat::l)|none=>none
 |_::_=>none
def mD(x:UInt8):List PV:=[.i .u8 x.toNat]
def zX(esz:Nat):List (Nat×List PV)->List (List PV)->Option (List (List PV))|[],rows=>some rows|(i,c)::r,rows=>if c.length=esz/\i<rows.length then zX esz r (rows.set i c)else none
def oY:List (Nat×Nat×List AV)->List AV->Option (List AV)
 |[],cs=>some cs
 |(off,size,c)::r,cs=>
  if c.length=size then
   match spl cs off c with
   |some cs'=>oY r cs'
   |none=>none
  else none
def ev:Opd->RM AV| .t n=>.slot n .ret| .c x=>.ret x
def evs:List Opd->RM (List AV)|[]=>.ret []|x::r=>(ev x).bind λv=>(evs r).bind λvs=>.ret (v::vs)
def val(x:Option AV):RM Eff:=
 match x with
 |some v=>.ret ⟨v,[]⟩
 |none=>.fail
def fzs:List Opd->RM (List (List PV)×List (Nat×Blk))|[]=>.ret ([],[])|x::r=>(ev x).bind λv=>(fz v).bind λa=>(fzs r).bind λc=>.ret (a.1::c.1,a.2++c.2)
def pA(x:Option AV)(top e:Nat):Option Nat:=
 match x with
 |none=>some e
 |some (.p (.i _ n))=>if 0<=n/\n<=top then some n.toNat else none
 |some _=>none
def evo:Option Opd->RM (Option AV)|none=>.ret none|some x=>(ev x).bind λv=>.ret (some v)
def vE(n:Nat)(lo hi:Option AV):Option (Nat×Nat):=
 match pA hi n n with
 |none=>none
 |some h=>match pA lo h 0 with|none=>none|some l=>some (l,h)
def wO(x:AV)(lo hi:Option AV):Option AV:=
 match x with
 | .p (.s l)=>match vE l.length lo hi with|some c=>some (.p (.s ((l.drop c.1).take (c.2-c.1))))|none=>none
 |_=>none
def wL(esz:Nat)(x:AV)(lo hi:Option AV):Option AV:=
 match x with
 | .p (.sl e rows)=>if esz=e then
   match vE rows.length lo hi with
   |some c=>some (.p (.sl esz ((rows.drop c.1).take (c.2-c.1))))
   |none=>none
  else none
 |_=>none
def OX(esz:Nat)(x:AV)(lo hi:Option AV)(m:AV):Option AV:=
 match x,lo,hi,m with
 | .p (.sl e rows),none,some (.p (.i _ h)),.p (.i _ n)=>if esz=e/\h=rows.length/\n=rows.length then some (.p (.slc esz rows))else none
 |_,_,_,_=>none
def kE(k:SK)(x:AV)(lo hi mx:Option AV):Option AV:=
 match mx with
 |some m=>match k with| .str=>none| .sl esz=>OX esz x lo hi m
 |none=>match k with| .str=>wO x lo hi| .sl esz=>wL esz x lo hi
def OJ(rows:List (List PV))(n:Int):Option (List PV):=if 0<=n then rows[n.toNat]? else none
def lZ(esz:Nat)(x i:AV):RM Eff:=
 match x,i with
 | .p (.sl e rows),.p (.i _ n)=>
  if esz=e then
   match OJ rows n with
   |some row=>.ret ⟨.cp row 0,[]⟩
   |none=>.fail
  else .fail
 | .slr b j m,.p (.i _ n)=>.blk b fun
  | .arr _ e rows=>if esz=e/\j+m=rows.length/\0<=n/\n<m then .ret ⟨.ep b rows.length (j+n.toNat) 0,[]⟩else .fail
  |_=>.fail
 |_,_=>.fail
def LB(len esz:Nat)(x i:AV):Option AV:=
 match i with
 | .p (.i _ n)=>
  if 0<=n/\n<len then
   match x with
   | .ptr b off=>some (.ptr b (off+n.toNat*esz))
   | .cp cs off=>some (.cp cs (off+n.toNat*esz))
   | .ep b e j off=>some (.ep b e j (off+n.toNat*esz))
   |_=>none
  else none
 |_=>none
def LF(off:Nat):AV->Option AV| .ptr b o=>some (.ptr b (o+off))| .cp cs o=>some (.cp cs (o+off))| .ep b e j o=>some (.ep b e j (o+off))|_=>none
def gE(agg:Bool)(size:Nat):AV->RM Eff
 | .cp cs off=>match sub cs off size with|some l=>val (nO agg l)|none=>.fail
 | .ptr b off=>.blk b fun
  | .box cs=>match sub cs off size with|some l=>val (kG agg l)|none=>.fail
  |_=>.fail
 | .ep b ext i off=>.blk b fun
  | .arr _ _ rows=>if ext=rows.length then
    match rows[i]? with
    |some row=>match sub row off size with|some l=>val (nO agg l)|none=>.fail
    |none=>.fail
   else .fail
  |_=>.fail
 |_=>.fail
def gG:AV:=.tup []
def hQ(size:Nat)(x v:AV):RM Eff:=
 match x with
 | .ptr b off=>.blk b fun
  | .box cs=>match cellsOf v with
   |some l=>if l.length=size then
    match spl cs off l with
    |some cs'=>.ret ⟨gG,[(b,.box cs')]⟩
    |none=>.fail
    else .fail
   |none=>.fail
  |_=>.fail
 | .ep b ext i off=>.blk b fun
  | .arr true esz rows=>if ext=rows.length then
    match rows[i]? with
    |some row=>(fz v).bind λa=>
     if a.1.length=size/\(a.2.all λy=>y.1 !=b)then
      match spl row off a.1 with
      |some e=>.ret ⟨gG,a.2++[(b,.arr true esz (rows.set i e))]⟩
      |none=>.fail
     else .fail
    |none=>.fail
   else .fail
  |_=>.fail
 |_=>.fail
def qP(agg:Bool)(off size:Nat):AV->Option AV
 | .data cs=>match sub cs off size with|some l=>nO agg l|none=>none
 | .agg cs=>match sub cs off size with|some l=>kG agg l|none=>none
 |_=>none
def OZ(i:Nat):AV->Option AV| .tup vs=>vs[i]?|_=>none
def IN:Bool->AV->Option AV|true,.p (.s l)=>some (.p (.i .i64 l.length))|false,.p (.sl _ rows)=>some (.p (.i .i64 rows.length))|false,.slr _ _ n=>some (.p (.i .i64 n))|_,_=>none
def fK(esz:Nat):AV->RM (List (List PV))
 | .p (.sl e rows)=>if esz=e then .ret rows else .fail
 | .p (.s l)=>if esz=1 then .ret (l.map mD)else .fail
 | .slr b i n=>.blk b fun
  | .arr _ e rows=>if esz=e/\i+n=rows.length then .ret (rows.drop i)else .fail
  |_=>.fail
 |_=>.fail
def qH(n bytes:Nat):Bool:=(2*n+512)*bytes<=281474976710656
def iR(esz bytes:Nat)(x y:AV):RM Eff:=
 match x with
 | .slr b i n=>.blk b fun
  | .arr w e rows=>(fK esz y).bind λnew=>
   if esz=e/\i=0/\n=rows.length/\qH (n+new.length) bytes then
    .ret ⟨.slr b 0 (n+new.length),[(b,.arr w esz (rows++new))]⟩
   else .fail
  |_=>.fail
 |_=>.fail
def mmP(mx:Bool)(x y:AV):Option AV:=
 match x,y with
 | .p (.i k a),.p (.i _ c)=>some (.p (.i k (if mx then(if c>a then c else a)else(if c<a then c else a))))
 |_,_=>none
inductive Ent where
 |whole (b:Nat)
 |elem (b ext i:Nat)
 deriving DecidableEq
def Ent.id:Ent->Nat| .whole b=>b| .elem b _ _=>b
def wM(e:Ent)(l:List Ent):List Ent:=if l.any (λx=>x==e)then l else l++[e]
def cF:AV->List Ent->List Ent
 | .ptr b _,l=>wM (.whole b) l
 | .slr b _ _,l=>wM (.whole b) l
 | .ep b e i _,l=>wM (.elem b e i) l
 | .fn _ first caps,l=>entsOfL caps (entsOfL first l)
 | .agg cs,l=>entsOfL cs l
 | .tup cs,l=>entsOfL cs l
 |_,l=>l
where
 entsOfL:List AV->List Ent->List Ent
  |[],l=>l
  |x::r,l=>entsOfL r (cF x l)
def cY(e:Ent):List Ent->Nat->Option Nat|[],_=>none|x::r,k=>if x=e then some k else cY e r (k+1)
def ren(ρ:Ent->Option Nat):AV->Option AV
 | .p c=>some (.p c)
 | .data cs=>some (.data cs)
 | .cp cs o=>some (.cp cs o)
 | .unk=>some .unk
 | .ptr b off=>(ρ (.whole b)).map λk=>.ptr k off
 | .ep b e i off=>(ρ (.elem b e i)).map λk=>.ptr k off
 | .slr b i n=>(ρ (.whole b)).map λk=>.slr k i n
 | .fn f first caps=>(renL ρ first).bind λa=>(renL ρ caps).map λc=>.fn f a c
 | .agg cs=>(renL ρ cs).map .agg
 | .tup cs=>(renL ρ cs).map .tup
 | .pre _ _ _=>none
where
 renL (ρ:Ent->Option Nat):List AV->Option (List AV)
  |[]=>some []
  |x::r=>match ren ρ x,renL ρ r with
   |some y,some l=>some (y::l)
   |_,_=>none
end Go.Am
end
section
namespace Go.Am
def jD:List Nat->Bool|[]=>true|x::r=> !(r.contains x)&&jD r
def iY(b:Nat):List (Nat×Blk)->Option Blk|[]=>none|(c,x)::r=>match iY b r with|some y=>some y|none=>if c=b then some x else none
def qD(ws:List (Nat×Blk))(b:Nat):RM Blk:=
 .blk b λx=>match iY b ws with|some y=>.ret y|none=>.ret x
def dW(ws:List (Nat×Blk)):List Ent->List Ent->RM (List Ent)
 |[],acc=>.ret acc
 | .whole b::r,acc=>(qD ws b).bind fun
  | .box cs=>dW ws r (cF.entsOfL cs acc)
  |_=>dW ws r acc
 |_::r,acc=>dW ws r acc
def iX:AV->RM (AV×List (Nat×Blk))
 | .slr b i n=>(fz (.slr b i n)).bind λa=>match a.1 with|[c]=>.ret (.p c,a.2)|_=>.fail
 | .agg cs=>(fz (.agg cs)).bind λa=>.ret (.data a.1,a.2)
 | .tup _=>.fail
 |v=>.ret (v,[])
def jY:List AV->RM (List AV×List (Nat×Blk))|[]=>.ret ([],[])|x::r=>(iX x).bind λa=>(jY r).bind λc=>.ret (a.1::c.1,a.2++c.2)
def yW(ws:List (Nat×Blk))(ρ:Ent->Option Nat):Ent->RM Blk
 | .whole b=>(qD ws b).bind fun
  | .box cs=>match ren.renL ρ cs with|some l=>.ret (.box l)|none=>.fail
  | .arr w esz rows=>.ret (.arr w esz rows)
  | .dead=>.fail
 | .elem b ext i=>(qD ws b).bind fun
  | .arr true _ rows=>if ext=rows.length then
    match rows[i]? with
    |some row=>.ret (.box (row.map .p))
    |none=>.fail
   else .fail
  |_=>.fail
def kF(ws:List (Nat×Blk))(ρ:Ent->Option Nat):List Ent->RM (List Blk)|[]=>.ret []|e::r=>(yW ws ρ e).bind λx=>(kF ws ρ r).bind λl=>.ret (x::l)
def bk(es:List Ent)(new:Nat):AV->Option AV
 | .p c=>some (.p c)
 | .data cs=>some (.data cs)
 | .cp cs o=>some (.cp cs o)
 | .unk=>some .unk
 | .ptr k off=>if k<es.length then
   match es[k]? with
   |some (.whole b)=>some (.ptr b off)
   |some (.elem b e i)=>some (.ep b e i off)
   |none=>none
  else some (.ptr (new+(k-es.length)) off)
 | .slr k i n=>if k<es.length then
   match es[k]? with
   |some (.whole b)=>some (.slr b i n)
   |_=>none
  else some (.slr (new+(k-es.length)) i n)
 | .ep k e i off=>if k<es.length then
   match es[k]? with
   |some (.whole b)=>some (.ep b e i off)
   |_=>none
  else some (.ep (new+(k-es.length)) e i off)
 | .fn f first caps=>match bkL es new first,bkL es new caps with|some a,some c=>some (.fn f a c)|_,_=>none
 | .agg cs=>match bkL es new cs with|some l=>some (.agg l)|none=>none
 | .tup cs=>match bkL es new cs with|some l=>some (.tup l)|none=>none
 | .pre _ _ _=>none
where
 bkL (es:List Ent) (new:Nat):List AV->Option (List AV)
  |[]=>some []
  |x::r=>match bk es new x,bkL es new r with
   |some y,some l=>some (y::l)
   |_,_=>none
def tQ(ws:List (Nat×Blk))(es:List Ent)(new:Nat)(e:Ent)(x:Blk):RM (Nat×Blk):=
 match e,x with
 | .whole b,.box cs=>match bk.bkL es new cs with|some l=>.ret (b,.box l)|none=>.fail
 | .whole b,.arr w esz rows=>.ret (b,.arr w esz rows)
 | .elem b _ i,.box cs=>(qD ws b).bind fun
  | .arr w esz rows=>match unp cs with|some row=>.ret (b,.arr w esz (rows.set i row))|none=>.fail
  |_=>.fail
 |_,_=>.fail
def iH(ws:List (Nat×Blk))(es:List Ent)(new:Nat):List Ent->List Blk->RM (List (Nat×Blk))|[],_=>.ret []|e::r,x::l=>(tQ ws es new e x).bind λy=>(iH ws es new r l).bind λg=>.ret (y::g)|_::_,[]=>.fail
def gW(es:List Ent)(new:Nat):Nat->List Blk->Option (List (Nat×Blk))
 |_,[]=>some []
 |k,.box cs::l=>match bk.bkL es new cs,gW es new (k+1) l with|some c,some e=>some ((k,.box c)::e)|_,_=>none
 |k,.arr w esz rows::l=>match gW es new (k+1) l with|some e=>some ((k,.arr w esz rows)::e)|none=>none
 |_,.dead::_=>none
def hO(F:Orc)(f:FuncId)(args:List AV)(k new:Nat):RM Eff:=
 (jY args).bind λa=>
 (dW a.2 (cF.entsOfL a.1 []) (cF.entsOfL a.1 [])).bind λh=>
 (dW a.2 h h).bind λes=>
 if jD (es.map Ent.id)then
  match ren.renL (λe=>cY e es 0) a.1 with
  |none=>.fail
  |some g=>(kF a.2 (λe=>cY e es 0) es).bind λblks=>
   match F f g blks with
   |none=>.fail
   |some r=>if r.2.length=es.length+k then
    match bk es new r.1,gW es new new (r.2.drop es.length)with
    |some v,some fresh=>(iH a.2 es new es r.2).bind λj=>.ret ⟨v,a.2++j++fresh⟩
    |_,_=>.fail
    else .fail
 else .fail
def kD:List (Nat×Nat×Opd)->RM (List (Nat×Nat×List AV))|[]=>.ret []|(off,size,x)::r=>(ev x).bind λv=>match cellsOf v with|some cs=>(kD r).bind λl=>.ret ((off,size,cs)::l)|none=>.fail
def gT:List (Nat×Nat)->Nat->List (Nat×Blk)|[],_=>[]|(_,esz)::r,n=>(n,.arr true esz [])::gT r (n+1)
def lQ:List (Nat×Nat)->Nat->List AV->List AV|[],_,cs=>cs|(off,_)::r,n,cs=>lQ r (n+1) (cs.set off (.slr n 0 0))
def eW:List Bool->List AV->RM (List AV×List (Nat×Blk))|_,[]=>.ret ([],[])|[],x::r=>(iX x).bind λa=>(eW [] r).bind λc=>.ret (a.1::c.1,a.2++c.2)|true::m,x::r=>(eW m r).bind λc=>.ret (x::c.1,c.2)|false::m,x::r=>(iX x).bind λa=>(eW m r).bind λc=>.ret (a.1::c.1,a.2++c.2)
def fJ(F:Orc)(f:FuncId)(a:List AV×List (Nat×Blk))(k new:Nat):RM Eff:=
 (dW a.2 (cF.entsOfL a.1 []) (cF.entsOfL a.1 [])).bind λh=>
 (dW a.2 h h).bind λes=>
 if jD (es.map Ent.id)then
  match ren.renL (λe=>cY e es 0) a.1 with
  |none=>.fail
  |some g=>(kF a.2 (λe=>cY e es 0) es).bind λblks=>
   match F f g blks with
   |none=>.fail
   |some r=>if es.length<=r.2.length/\r.2.length<=es.length+k then
    match bk es new r.1,gW es new new (r.2.drop es.length)with
    |some v,some fresh=>(iH a.2 es new es r.2).bind λj=>.ret ⟨v,a.2++j++fresh⟩
    |_,_=>.fail
    else .fail
 else .fail
def opR(F:Orc)(op:AOp)(new:Nat):RM Eff:=
 match op with
 | .mv x=>(ev x).bind λv=>.ret ⟨v,[]⟩
 | .mkarr esz _=>.ret ⟨.slr new 0 0,[(new,.arr true esz [])]⟩
 | .pick c a b=>(ev c).bind fun
  | .p (.b x)=>if x then(ev a).bind λv=>.ret ⟨v,[]⟩else(ev b).bind λv=>.ret ⟨v,[]⟩
  |_=>.fail
 | .newbox zero=>.ret ⟨.ptr new 0,[(new,.box (zero.map .p))]⟩
 | .box size x=>(ev x).bind λv=>match cellsOf v with|some cs=>if cs.length=size then .ret ⟨.ptr new 0,[(new,.box cs)]⟩else .fail|none=>.fail
 | .build zero parts=>(kD parts).bind λl=>match oY l (zero.map .p)with|some cs=>val (kG true cs)|none=>.fail
 | .lits own esz n zero parts=>(fzs (parts.map (·.2))).bind λa=>
  match zX esz ((parts.map (·.1)).zip a.1) (List.replicate n zero)with
  |some rows=>if own then .ret ⟨.slr new 0 n,a.2++[(new,.arr true esz rows)]⟩else .ret ⟨.p (.sl esz rows),a.2⟩
  |none=>.fail
 | .load agg size x=>(ev x).bind λv=>gE agg size v
 | .store size x y=>(ev x).bind λa=>(ev y).bind λv=>hQ size a v
 | .nilchk x=>(ev x).bind fun
  | .ptr b o=>.ret ⟨.ptr b o,[]⟩
  | .cp cs o=>.ret ⟨.cp cs o,[]⟩
  | .ep b e i o=>.ret ⟨.ep b e i o,[]⟩
  | .fn f u c=>.ret ⟨.fn f u c,[]⟩
  |_=>.fail
 | .bin op t x y=>(ev x).bind λa=>(ev y).bind λc=>val (mW op t a c)
 | .un op x=>(ev x).bind λa=>val (unP op a)
 | .conv k x=>(ev x).bind λa=>match k,a with
  | .int k,.p (.i _ n)=>.ret ⟨.p (.i k (k.wrap n)),[]⟩
  | .same,.p (.s l)=>.ret ⟨.p (.s l),[]⟩
  | .toStr,a=>(fK 1 a).bind λrows=>match tX rows with|some l=>.ret ⟨.p (.s l),[]⟩|none=>.fail
  | .toBytes own,.p (.s l)=>if own then .ret ⟨.slr new 0 l.length,[(new,.arr true 1 (l.map mD))]⟩else .ret ⟨.p (.sl 1 (l.map mD)),[]⟩
  |_,_=>.fail
 | .mkslice own esz bytes zero l c=>(ev l).bind λa=>(ev c).bind λd=>match a,d with
  | .p (.i _ n),.p (.i _ m)=>
   if 0<=n/\n<=m/\bytes*m<=281474976710656/\m<=281474976710656 then
    if own then .ret ⟨.slr new 0 n.toNat,[(new,.arr true esz (List.replicate n.toNat zero))]⟩
    else .ret ⟨.p (.sl esz (List.replicate n.toNat zero)),[]⟩
   else .fail
  |_,_=>.fail
 | .slice k x lo hi mx=>(ev x).bind λa=>(evo lo).bind λlo=>(evo hi).bind λhi=>(evo mx).bind λmx=>
  match a with
  | .slr b i n=>(fz (.slr b i n)).bind λy=>match y.1 with
   |[c]=>match kE k (.p c) lo hi mx with|some v=>.ret ⟨v,y.2⟩|none=>.fail
   |_=>.fail
  |a=>val (kE k a lo hi mx)
 | .faddr off x=>(ev x).bind λa=>val (LF off a)
 | .field agg off size x=>(ev x).bind λa=>val (qP agg off size a)
 | .iaddr esz x i=>(ev x).bind λa=>(ev i).bind λc=>lZ esz a c
 | .aaddr len esz x i=>(ev x).bind λa=>(ev i).bind λc=>val (LB len esz a c)
 | .sidx x i=>(ev x).bind λa=>(ev i).bind λc=>match a,c with
  | .p (.s l),.p (.i _ n)=>if 0<=n then
    match l[n.toNat]? with
    |some u=>.ret ⟨.p (.i .u8 u.toNat),[]⟩
    |none=>.fail
   else .fail
  |_,_=>.fail
 | .aidx agg len esz x i=>(ev x).bind λa=>(ev i).bind λc=>match c with| .p (.i _ n)=>if 0<=n/\n<len then val (qP agg (n.toNat*esz) esz a)else .fail|_=>.fail
 | .extr x i=>(ev x).bind λa=>val (OZ i a)
 | .call f args k=>(evs args).bind λvs=>hO F f vs k new
 | .callv g args k=>(ev g).bind fun
  | .fn f first caps=>(evs args).bind λvs=>hO F f (first++vs++caps) k new
  |_=>.fail
 | .len str x=>(ev x).bind λa=>val (IN str a)
 | .appn esz bytes _ y=>(ev y).bind λc=>(fK esz c).bind λrows=>
  if qH rows.length bytes then .ret ⟨.slr new 0 rows.length,[(new,.arr true esz rows)]⟩else .fail
 | .app esz bytes _ x y=>(ev x).bind λa=>(ev y).bind λc=>iR esz bytes a c
 | .mm mx x y=>(ev x).bind λa=>(ev y).bind λc=>val (mmP mx a c)
 | .newboxo zero os=>.ret ⟨.ptr (new+os.length) 0,gT os new++[(new+os.length,.box (lQ os new (zero.map .p)))]⟩
 | .buildo zero parts os=>(kD parts).bind λl=>match oY l (lQ os new (zero.map .p))with
  |some cs=>match kG true cs with|some v=>.ret ⟨v,gT os new⟩|none=>.fail
  |none=>.fail
 | .storen esz x=>(ev x).bind λa=>(hQ 1 a (.slr new 0 0)).bind λe=>.ret ⟨e.val,(new,.arr true esz [])::e.ws⟩
 | .callo f keep args k=>(evs args).bind λvs=>(eW keep vs).bind λa=>fJ F f a k new
def lV:AOp->Nat| .newbox _| .box _ _| .mkarr _ _| .appn _ _ _ _=>1| .lits own _ _ _ _=>if own then 1 else 0| .mkslice own _ _ _ _ _=>if own then 1 else 0| .conv (.toBytes own) _=>if own then 1 else 0| .call _ _ k| .callv _ _ k| .callo _ _ _ k=>k| .newboxo _ os=>os.length+1| .buildo _ _ os=>os.length| .storen _ _=>1|_=>0
def tF(new:Nat):Nat->RM Unit
 |0=>.ret ()
 |k+1=>.blk new fun
  | .dead=>tF (new+1) k
  |_=>.fail
def opD(F:Orc)(op:AOp)(new:Nat):RM Eff:=(tF new (lV op)).bind λ_=>opR F op new
def bT(F:Orc)(i:bQ)(new:Nat):RM Eff:=
 match i.g with
 |none=>opD F i.op new
 |some (g,e)=>.slot g fun
  | .p (.b x)=>if x=e then opD F i.op new else .ret ⟨gG,[]⟩
  | .tup []=>.ret ⟨gG,[]⟩
  |_=>.fail
def put(d:Option Nat)(e:Eff)(s:St):St:=
 match d with
 |some d=>⟨(d,e.val)::s.env,upd e.ws s.sto⟩
 |none=>⟨s.env,upd e.ws s.sto⟩
def fU(F:Orc):List bQ->Nat->St->Option St|[],_,s=>some s|i::r,new,s=>match(bT F i new).run s with|some e=>fU F r (new+lV i.op) (put i.dst e s)|none=>none
def jG:List Loc->List Nat|[]=>[]| .blk b::r=>b::jG r|_::r=>jG r
abbrev Log:=List (List Nat×List Nat)
def jE(F:Orc):List bQ->Nat->St->Log->Option (St×Log)|[],_,s,l=>some (s,l)|i::r,new,s,l=>match(bT F i new).run s with|some e=>jE F r (new+lV i.op) (put i.dst e s) (l++[(jG ((bT F i new).reads s),e.ws.map (·.1))])|none=>none
def fZ(a b:List Nat):Bool:=a.all λx=> !(b.contains x)
def FP(l:Log):List (Nat×Nat)->Bool
 |[]=>true
 |(i,j)::r=>(match l[i]?,l[j]? with
  |some a,some b=>fZ a.2 b.1&&fZ a.2 b.2&&fZ a.1 b.2
  |_,_=>false)&&FP l r
def news:List bQ->Nat|[]=>0|i::r=>lV i.op+news r
def room(n:Nat)(sto:List Blk):List Blk:=if n=0 then sto else sto++List.replicate n .dead
def region(F:Orc)(pairs:List (Nat×Nat))(ins:List bQ)(s:St):Option St:=
 match pairs with
 |[]=>fU F ins s.sto.length ⟨s.env,room (news ins) s.sto⟩
 |_::_=>match jE F ins s.sto.length ⟨s.env,room (news ins) s.sto⟩ []with|some (s',l)=>if FP l pairs then some s' else none|none=>none
def restr:List Nat->List (Nat×AV)->List (Nat×AV)|[],_=>[]|k::r,env=>match lk k env with|some v=>(k,v)::restr r env|none=>restr r env
def eE(b:Nat):List Nat->Nat->Option Nat|[],_=>none|x::r,k=>if x=b then some k else eE b r (k+1)
def fin(m:Nat)(ids:List Nat)(sto:List Blk):AV->Option AV
 | .p c=>some (.p c)
 | .data cs=>some (.data cs)
 | .cp cs o=>some (.cp cs o)
 | .unk=>some .unk
 | .ptr b off=>if b<m then some (.ptr b off)else(eE b ids m).map λk=>.ptr k off
 | .slr b i n=>if b<m then some (.slr b i n)else
  match eE b ids m with
  |some k=>some (.slr k i n)
  |none=>match sto[b]? with|some (.arr _ esz rows)=>if i+n=rows.length then some (.p (.sl esz (rows.drop i)))else none|_=>none
 | .ep b e i off=>if b<m then some (.ep b e i off)else(eE b ids m).map λk=>.ep k e i off
 | .fn f first caps=>match finL m ids sto first,finL m ids sto caps with|some a,some c=>some (.fn f a c)|_,_=>none
 | .agg cs=>match finL m ids sto cs with
  |some l=>match unp l with|some q=>some (.data q)|none=>some (.agg l)
  |none=>none
 | .tup cs=>match finL m ids sto cs with|some l=>some (.tup l)|none=>none
 | .pre _ _ _=>none
where
 finL (m:Nat) (ids:List Nat) (sto:List Blk):List AV->Option (List AV)
  |[]=>some []
  |x::r=>match fin m ids sto x,finL m ids sto r with
   |some y,some l=>some (y::l)
   |_,_=>none
def fT(m:Nat)(ids:List Nat)(sto:List Blk):Blk->Option Blk
 | .dead=>some .dead
 | .box cs=>match fin.finL m ids sto cs with|some l=>some (.box l)|none=>none
 | .arr w esz rows=>some (.arr w esz rows)
def qI(m:Nat)(ids:List Nat)(sto:List Blk):List Blk->Option (List Blk)|[]=>some []|x::r=>match fT m ids sto x,qI m ids sto r with|some y,some l=>some (y::l)|_,_=>none
def vM(m:Nat)(sto:List Blk):List (Nat×AV)->Option (List (Nat×AV))|[]=>some []|(k,x)::r=>match fin m [] sto x,vM m sto r with|some y,some l=>some ((k,y)::l)|_,_=>none
def clean(n:Nat)(live:List Nat)(s:St):Option St:=
 if s.sto.length=n then some ⟨restr live s.env,s.sto⟩
 else match vM n s.sto (restr live s.env),qI n [] s.sto (s.sto.take n)with|some e,some l=>some ⟨e,l⟩|_,_=>none
def mV:List vN->RM (List AV)|[]=>.ret []| .tmp t::r=>(RM.slot t .ret).bind λv=>(mV r).bind λl=>.ret (v::l)| .cell t agg size::r=>(RM.slot t .ret).bind λv=>(gE agg size v).bind λe=>(mV r).bind λl=>.ret (e.val::l)
def jH(m:Nat)(fresh:Bool)(sto:List Blk):List Ent->List Nat
 |[]=>[]
 | .whole b::r=>if b<m then jH m fresh sto r else
  match sto[b]? with
  |some (.box _)=>b::jH m fresh sto r
  |some (.arr _ _ _)=>if fresh then b::jH m fresh sto r else jH m fresh sto r
  |_=>jH m fresh sto r
 |_::r=>jH m fresh sto r
def qJ(sto:List Blk):List Ent->List Ent->List Ent
 |[],acc=>acc
 | .whole b::r,acc=>match sto[b]? with|some (.box cs)=>qJ sto r (cF.entsOfL cs acc)|_=>qJ sto r acc
 |_::r,acc=>qJ sto r acc
def vV(sto:List Blk):List Nat->Option (List Blk)|[]=>some []|b::r=>match sto[b]?,vV sto r with|some x,some l=>some (x::l)|_,_=>none
def one:List AV->AV|[x]=>x|l=>.tup l
def gV(fn:AFn)(m:Nat)(s:St):Option Res:=
 match(mV fn.res).run s with
 |none=>none
 |some vs=>
  if s.sto.length=m then some (one vs,s.sto)
  else
   match jH m fn.fresh s.sto (qJ s.sto (cF.entsOfL vs []) (cF.entsOfL vs []))with
   |ids=>if jD ids then
    match fin.finL m ids s.sto vs,qI m ids s.sto (s.sto.take m),vV s.sto ids with
    |some ws,some l,some q=>match qI m ids s.sto q with|some q'=>some (one ws,l++q')|none=>none
    |_,_,_=>none
    else none
def iT:Nat->List AV->List (Nat×AV)|_,[]=>[]|k,x::r=>(k,x)::iT (k+1) r
structure oB where
 np:Nat
 nt:Nat
 p0:bU
 live:List Nat
 pre:bU
 c:Opd
 a:bU
 b:bU
 rest:bU
 res:List vN
 fresh:Bool
def oB.af(k:oB):AFn:=⟨k.np,k.nt,.seq k.p0 (.br k.live k.pre k.c k.a k.b k.rest),k.res,k.fresh⟩
def yG(f:AFn)(m:Nat)(o:Option Out):Option Res:=
 match o with
 |some (.normal,s)=>gV f m s
 |some (.ret,s)=>gV f m s
 |_=>none
open Classical in
noncomputable def KP(a b:Option Res):Option Res:=
 match a,b with
 |some r,some r'=>if r=r' then some r else none
 |_,_=>none
def thn(o:Option Out)(k:St->Option Out):Option Out:=
 match o with
 |some (.normal,s)=>k s
 |o=>o
noncomputable def EM(R:bU->St->Option Out)(k:oB)(args:List AV)(blks:List Blk):Option Res:=
 match R k.p0 ⟨iT 0 args,blks⟩with
 |some (.normal,s0)=>match R k.pre s0 with
  |some (.normal,s1)=>match(ev k.c).run s1 with|some (.p (.b x))=>if x=true then yG k.af blks.length (thn (R k.a s1) λs=>R k.rest s)else yG k.af blks.length (thn (R k.b s1) λs=>R k.rest s)|some .unk=>KP (yG k.af blks.length (thn (R k.a s1) λs=>R k.rest s)) (yG k.af blks.length (thn (R k.b s1) λs=>R k.rest s))|_=>none
  |_=>none
 |_=>none
inductive Entry where|fn (f:AFn)|prim (g:List AV->List Blk->Option Res)|fork (k:oB)
abbrev cZ:=FuncId->Option Entry
noncomputable def qL(T:cZ)(R:bU->St->Option Out)(f:FuncId)(args:List AV)(blks:List Blk):Option Res:=
 match T f with
 |none=>none
 |some (.prim g)=>g args blks
 |some (.fork k)=>if args.length=k.np then EM R k args blks else none
 |some (.fn fn)=>
  if args.length=fn.np then
   match R fn.body ⟨iT 0 args,blks⟩with
   |some (.normal,s)=>gV fn blks.length s
   |some (.ret,s)=>gV fn blks.length s
   |_=>none
  else none
open Classical in
noncomputable def same(a b:Option Out):Option Out:=
 match a,b with
 |some r,some r'=>if r=r' then some r else none
 |_,_=>none
def lY(n:Nat)(live:List Nat)(o:Option Out):Option Out:=
 match o with
 |some (e,s)=>match clean n live s with|some s'=>some (e,s')|none=>none
 |none=>none
noncomputable def step(T:cZ)(R:bU->St->Option Out)(c:bU)(s:St):Option Out:=
 match c with
 | .skip=>some (.normal,s)
 | .bad=>none
 | .reg _ pairs ins=>match region (qL T R) pairs ins s with|some s'=>some (.normal,s')|none=>none
 | .seq a b=>match R a s with|some (.normal,s')=>R b s'|o=>o
 | .cond c a b=>match(ev c).run s with|some (.p (.b x))=>if x=true then R a s else R b s|some .unk=>same (R a s) (R b s)|_=>none
 | .block id c=>match R c s with|some (.exit k,s')=>if k=id then some (.normal,s')else some (.exit k,s')|o=>o
 | .loop live c=>match clean s.sto.length live s with|some s'=>R (.lp s.sto.length live c) s'|none=>none
 | .lp n live c=>match R c s with
  |some (.normal,s')=>(match clean n live s' with
   |some e=>R (.lp n live c) e
   |none=>none)
  |o=>o
 | .scope c=>R c s
 | .exit id=>some (.exit id,s)
 | .ret=>some (.ret,s)
 | .keep live c=>R c ⟨restr live s.env,s.sto⟩
 | .tidy live c=>lY s.sto.length live (R c s)
 | .br live pre c a b rest=>match R pre s with
  |some (.normal,s1)=>(match(ev c).run s1 with
   |some (.p (.b x))=>if x=true then thn (R a s1) λs=>R rest s else thn (R b s1) λs=>R rest s
   |some .unk=>same (lY s1.sto.length live (thn (R a s1) λs=>R rest s)) (lY s1.sto.length live (thn (R b s1) λs=>R rest s))
   |_=>none)
  |_=>none
end Go.Am
end
section
namespace Go.Am
def eU{α:Type}(a b:Option α):Prop:=a=none\/a=b
theorem cK{α:Type}(a:Option α):eU a a:=.inr rfl
theorem run_bind{α β:Type}(m:RM α)(f:α->RM β)(s:St):(m.bind f).run s=(m.run s).bind λa=>(f a).run s:=by
 induction m with
 |ret a=>rfl
 |slot n k ih=>grind [RM.bind,RM.run]
 |blk b k ih=>grind [RM.bind,RM.run]
 |fail=>rfl
theorem mE{α β:Type}{m:RM α}{f f':α->RM β}{s:St}(h: ∀a,eU ((f a).run s) ((f' a).run s)):eU ((m.bind f).run s) ((m.bind f').run s):=by
 rw[run_bind,run_bind];cases m.run s with
 |none=>exact .inl rfl
 |some a=>exact h a
variable {F F':Orc} (h: ∀f a b,eU (F f a b) (F' f a b))
include h in
theorem tv(f:FuncId)(args:List AV)(k new:Nat)(s:St):eU ((hO F f args k new).run s) ((hO F' f args k new).run s):=by
 unfold hO;refine mE λa=>mE λg=>mE λes=>?_;split;split;simp[cK];refine mE λblks=>?_;rcases h f ‹_› blks with e|e;rw[e];exact .inl rfl;grind [cK];simp[cK]
include h in
theorem Nv(f:FuncId)(a:List AV×List (Nat×Blk))(k new:Nat)(s:St):eU ((fJ F f a k new).run s) ((fJ F' f a k new).run s):=by
 unfold fJ;refine mE λg=>mE λes=>?_;split;split;simp[cK];refine mE λblks=>?_;rcases h f ‹_› blks with e|e;rw[e];exact .inl rfl;grind [cK];simp[cK]
include h in
theorem JDV(op:AOp)(new:Nat)(s:St):eU ((opR F op new).run s) ((opR F' op new).run s):=by
 cases op<;>try exact cK _
 case call f args k=>exact mE λvs=>tv h ..
 case callo f keep args k=>exact mE λvs=>mE λa=>Nv h ..
 case callv g args k=>
  refine mE λg=>?_;grind [cK,mE,tv]
include h in
theorem JDX(op:AOp)(new:Nat)(s:St):eU ((opD F op new).run s) ((opD F' op new).run s):=
 mE λ_=>JDV h ..
include h in
theorem tn(i:bQ)(new:Nat)(s:St):eU ((bT F i new).run s) ((bT F' i new).run s):=by
 unfold bT;split
 all_goals grind [JDX,RM.run,cK]
theorem xG{α β:Type}(m:RM α)(f:α->RM β)(s:St):(m.bind f).reads s=m.reads s++((m.run s).map λa=>(f a).reads s).getD []:=by
 induction m with
 |ret a=>simp[RM.bind,RM.reads,RM.run]
 |slot n k ih=>grind [RM.bind,RM.reads,RM.run]
 |blk b k ih=>grind [RM.bind,RM.reads,RM.run]
 |fail=>simp[RM.bind,RM.reads,RM.run]
theorem mM{α β:Type}{m:RM α}{f f':α->RM β}{s:St}(h: ∀a,(f a).run s=none\/(f a).reads s=(f' a).reads s):
  ((m.bind f).run s)=none\/(m.bind f).reads s=(m.bind f').reads s:=by
 rw[run_bind,xG,xG];cases m.run s<;>simp_all
include h in
theorem uf(f:FuncId)(args:List AV)(k new:Nat)(s:St):
  (hO F f args k new).run s=none\/(hO F f args k new).reads s=(hO F' f args k new).reads s:=by
 unfold hO;refine mM λa=>mM λg=>mM λes=>?_;split;split;exact .inr rfl;refine mM λblks=>?_;rcases h f ‹_› blks with e|e;rw[e];exact .inl rfl;simp_all;simp_all
include h in
theorem Nn(f:FuncId)(a:List AV×List (Nat×Blk))(k new:Nat)(s:St):
  (fJ F f a k new).run s=none\/(fJ F f a k new).reads s=(fJ F' f a k new).reads s:=by
 unfold fJ;refine mM λg=>mM λes=>?_;split;split;exact .inr rfl;refine mM λblks=>?_;rcases h f ‹_› blks with e|e;rw[e];exact .inl rfl;simp_all;simp_all
include h in
theorem JFa(op:AOp)(new:Nat)(s:St):(opR F op new).run s=none\/(opR F op new).reads s=(opR F' op new).reads s:=by
 cases op<;>try exact .inr rfl
 case call f args k=>exact mM λvs=>uf h ..
 case callo f keep args k=>exact mM λvs=>mM λa=>Nn h ..
 case callv g args k=>
  refine mM λg=>?_;grind [mM,uf]
include h in
theorem JEu(op:AOp)(new:Nat)(s:St):(opD F op new).run s=none\/(opD F op new).reads s=(opD F' op new).reads s:=
 mM λ_=>JFa h ..
include h in
theorem JCL(i:bQ)(new:Nat)(s:St):(bT F i new).run s=none\/(bT F i new).reads s=(bT F' i new).reads s:=by
 unfold bT;split
 all_goals grind [JEu,RM.run,RM.reads]
include h in
theorem Me(ins:List bQ): ∀new s,eU (fU F ins new s) (fU F' ins new s):=by
 induction ins with
 |nil=>exact λ_ _=>cK _
 |cons i r ih=>
  intro new s;simp only[fU];rcases tn h i new s with e|e;rw[e];exact .inl rfl;grind [cK]
include h in
theorem Mf(ins:List bQ): ∀new s l,eU (jE F ins new s l) (jE F' ins new s l):=by
 induction ins with
 |nil=>exact λ_ _ _=>cK _
 |cons i r ih=>
  intro new s l;simp only[jE];rcases tn h i new s with e|e;rw[e];exact .inl rfl;grind [JCL,cK]
include h in
theorem Ou(pairs:List (Nat×Nat))(ins:List bQ)(s:St):eU (region F pairs ins s) (region F' pairs ins s):=by
 unfold region;split;grind [Me];rcases Mf h ins s.sto.length ⟨s.env,Go.Am.room (news ins) s.sto⟩ []with e|e;rw[e];exact .inl rfl;grind [cK]
variable {T:cZ} {R R':bU->St->Option Out} (hR: ∀c s,eU (R c s) (R' c s))
include hR in
theorem JA3(k:oB)(args:List AV)(blks:List Blk):eU (EM R k args blks) (EM R' k args blks):=by
 have ht: ∀x s,eU (yG k.af blks.length (thn (R x s) λs=>R k.rest s)) (yG k.af blks.length (thn (R' x s) λs=>R' k.rest s)):=by
  intro x s;rcases hR x s with e|e;rw[e];exact .inl rfl;rw[e];cases hx:R' x s with
  |none=>exact .inl rfl
  |some o=>
   obtain⟨q,s'⟩:=o;cases q with
   |normal=>
    simp only[thn];rcases hR k.rest s' with e'|e';rw[e'];exact .inl rfl;grind [cK]
   |_=>exact cK _
 unfold EM;rcases hR k.p0 ⟨iT 0 args,blks⟩with e|e;rw[e];exact .inl rfl;rw[e];split;rename_i s0 _;rcases hR k.pre s0 with e|e;rw[e];exact .inl rfl;rw[e];split;split;grind;rename_i s1 _ _ _;rcases ht k.a s1 with e|e;rw[e];exact .inl rfl;rcases ht k.b s1 with e'|e';rw[e'];unfold KP;exact .inl (by simp_all);grind [cK];simp[cK];simp[cK];simp[cK]
include hR in
theorem Ix(f:FuncId)(a:List AV)(b:List Blk):eU (qL T R f a b) (qL T R' f a b):=by
 unfold qL;split;simp[cK];simp[cK];grind [JA3,cK];split;rcases hR ‹AFn›.body ⟨iT 0 a,b⟩with e|e;rw[e];exact .inl rfl;grind [cK];simp[cK]
include hR in
theorem gd(c:bU)(s:St):eU (step T R c s) (step T R' c s):=by
 cases c with
 |bad=>exact .inl rfl
 |skip=>exact cK _
 |reg d pairs ins=>
  simp only[step];rcases Ou (Ix (T:=T) hR) pairs ins s with e|e;rw[e];exact .inl rfl;grind [cK]
 |seq a b=>
  simp only[step];rcases hR a s with e|e;rw[e];exact .inl rfl;grind
 |cond c a b=>
  simp only[step];split;grind;rcases hR a s with e|e;rw[e];exact .inl rfl;rcases hR b s with e'|e';rw[e'];unfold same;exact .inl (by simp_all);grind [cK];simp[cK]
 |block id c=>
  simp only[step];rcases hR c s with e|e;rw[e];exact .inl rfl;grind [cK]
 |loop live c=>
  grind [step,cK]
 |lp n live c=>
  simp only[step];rcases hR c s with e|e;rw[e];exact .inl rfl;grind [cK]
 |scope c=>exact hR _ _
 |exit id=>exact cK _
 |ret=>exact cK _
 |keep live c=>exact hR _ _
 |tidy live c=>
  simp only[step];rcases hR c s with e|e;rw[e];exact .inl rfl;grind [cK]
 |br live pre c a b rest=>
  have ht: ∀x s,eU (thn (R x s) λs=>R rest s) (thn (R' x s) λs=>R' rest s):=(by intro x s;rcases hR x s with e|e;rw[e];exact .inl rfl;rw[e];unfold thn;grind);simp only[step];rcases hR pre s with e|e;rw[e];exact .inl rfl;rw[e];split;split;grind;rename_i s1 _ _ _;rcases ht a s1 with e|e;rw[e];exact .inl rfl;rcases ht b s1 with e'|e';rw[e'];unfold same;exact .inl (by simp[lY]);grind [cK];simp[cK];simp[cK]
def Cn(T:cZ)(M:bU->St->Out->Prop):Prop:= ∀R:bU->St->Option Out,(∀c s r,R c s=some r->M c s r)-> ∀c s r,step T R c s=some r->M c s r
def Den(T:cZ)(c:bU)(s:St)(r:Out):Prop:= ∀M,Cn T M->M c s r
theorem df(T:cZ):Cn T (Den T):=λR hR c s r h M e=>e R (λc s r h=>hR c s r h M e) c s r h
theorem Fh{T:cZ}{c:bU}{s:St}{r:Out}(h:Den T c s r): ∃R:bU->St->Option Out,(∀c s r,R c s=some r->Den T c s r)/\step T R c s=some r:=
 h (λc s r=> ∃R:bU->St->Option Out,(∀c s r,R c s=some r->Den T c s r)/\step T R c s=some r) λR hR c s r e=>
  ⟨R,λc s r h=>let⟨R',h1,h2⟩:=hR c s r h;df T R' h1 c s r h2,e⟩
theorem JIU{T:cZ}{c:bU}{s:St}{r:Out}(h:Den T c s r): ∀r',Den T c s r'->r'=r:=by
 have j:Den T c s r/\ ∀r',Den T c s r'->r'=r:=h (λc s r=>Den T c s r/\ ∀r',Den T c s r'->r'=r) λR hR c s r k=>by
  refine⟨df T R (λc s r h=>(hR c s r h).1) c s r k,λr' n=>?_⟩;obtain⟨R',o,hs'⟩:=Fh n;have b1: ∀c s,eU (R c s) ((R c s).or (R' c s)):=λc s=>by cases hc:R c s<;>simp[eU]
  have b2: ∀c s,eU (R' c s) ((R c s).or (R' c s)):=λc s=>by
   cases hc:R c s with
   |none=>simp[eU]
   |some a=>cases hc':R' c s<;>grind [eU]
  have e:=gd (T:=T) b1 c s;have g:=gd (T:=T) b2 c s;rw[k]at e;rw[hs']at g;rcases e with e|e;cases e
  ·rcases g with g|g
   all_goals grind
 exact j.2
open Classical in
noncomputable def X(T:cZ)(c:bU)(s:St):Option Out:=if h: ∃r,Den T c s r then some h.choose else none
theorem KW{T:cZ}{c:bU}{s:St}{r:Out}:X T c s=some r↔Den T c s r:=by
 unfold X;constructor
 ·intro h;split at h
  all_goals grind
 intro h;rw[dif_pos ⟨r,h⟩];grind [JIU]
theorem Z6(T:cZ)(motive:bU->St->Out->Prop)
  (h: ∀R:bU->St->Option Out,(∀c s r,R c s=some r->motive c s r)-> ∀c s r,step T R c s=some r->motive c s r): ∀c s r,X T c s=some r->motive c s r:=
 λc s r e=>KW.1 e motive h
theorem lR(T:cZ)(c:bU)(s:St):X T c s=step T (X T) c s:=by
 have one: ∀r,step T (X T) c s=some r->X T c s=some r:=λr h=>KW.2 (df T (X T) (λc s r h=>KW.1 h) c s r h);cases hs:step T (X T) c s with
 |some r=>exact one r hs
 |none=>
  cases hx:X T c s with
  |none=>rfl
  |some r=>
   obtain⟨R,hR,h⟩:=Fh (KW.1 hx);have:=gd (T:=T) (R:=R) (R':=X T) (λc s=>by
    cases hc:R c s with
    |none=>exact .inl rfl
    |some a=>right;grind [KW]) c s
   rw[h,hs]at this;rcases this with e|e<;>cases e
noncomputable def AF(T:cZ):Orc:=qL T (X T)
end Go.Am
end
section
namespace Go.Am
structure Gh where
 μ:Nat->Option (Nat×Nat)
 C:Nat->Nat->Prop
def cellAt(w:World)(r o:Nat):Option Value:=
 match w.heap[r]? with
 |some (.cells c _ _)=>c[o]?
 |_=>none
theorem rA(w:World)(r o:Nat):w.cell? ⟨r,o,none⟩=cellAt w r o:=by
 grind [World.cell?,cellAt]
theorem jK{w:World}{r o:Nat}{c e fz}(h:w.heap[r]?=some (.cells c e fz)):cellAt w r o=c[o]?:=by
 grind [cellAt]
inductive J08(w:World)(C:Nat->Nat->Prop):PV->Value->Prop where
 |b (x:Bool):J08 w C (.b x) (.bool x)
 |i (k:IntKind) (n:Int):J08 w C (.i k n) (.int k n)
 |s (l:List UInt8):J08 w C (.s l) (.string ⟨l.toArray⟩)
 |np:J08 w C .np (.pointer none)
 |nf:J08 w C .nf .nilFunc
 |sl0 (esz:Nat) (a:Option Addr) (cap:Nat):J08 w C (.sl esz []) (.slice a 0 cap)
 |sl (esz:Nat) (rows:List (List PV)) (r o cap:Nat) (vals:Nat->Nat->Value):
  rows.length<=cap->(∀row∈rows,row.length=esz)->
  (∀(i j:Nat) row x,rows[i]?=some row->row[j]?=some x->C r (o+i*esz+j)/\cellAt w r (o+i*esz+j)=some (vals i j))->
  (∀(i j:Nat) row x,rows[i]?=some row->row[j]?=some x->J08 w C x (vals i j))->
  J08 w C (.sl esz rows) (.slice (some ⟨r,o,none⟩) rows.length cap)
 |slc (esz:Nat) (rows:List (List PV)) (a:Option Addr):J08 w C (.sl esz rows) (.slice a rows.length rows.length)->J08 w C (.slc esz rows) (.slice a rows.length rows.length)
structure Sn where
 σ:List Blk
 g:Gh
 w:World
def OY(σ:List Blk)(b:Nat):Prop:= ∃cs,σ[b]?=some (.box cs)
def Z8(s:Sn)(b esz i n:Nat)(v:Value):Prop:=(s.g.μ b=none/\i=0/\n=0/\v=.slice none 0 0)\/ ∃r cap c e fz,s.g.μ b=some (r,0)/\v=.slice (some ⟨r,i*esz,none⟩) n cap/\n<=cap/\s.w.heap[r]?=some (.cells c e fz)/\(i+cap)*esz<=c.size
inductive JF(s:Sn):AV->Value->Prop where
 |p (c v):J08 s.w s.g.C c v->JF s (.p c) v
 |data (cs:List PV) (vs:Array Value):cs.length=vs.size->(∀(i:Nat) x v,cs[i]?=some x->vs[i]?=some v->J08 s.w s.g.C x v)->JF s (.data cs) (.agg vs)
 |agg (cs:List AV) (vs:Array Value):cs.length=vs.size->(∀(i:Nat) v,vs[i]?=some v->v.oneCell'=true)->(∀(i:Nat) x v,cs[i]?=some x->vs[i]?=some v->JF s x v)->JF s (.agg cs) (.agg vs)
 |tup (cs:List AV) (vs:Array Value):cs.length=vs.size->(∀(i:Nat) x v,cs[i]?=some x->vs[i]?=some v->JF s x v)->JF s (.tup cs) (.tuple vs)
 |ptr (b off r o):s.g.μ b=some (r,o)->OY s.σ b->JF s (.ptr b off) (.pointer (some ⟨r,o+off,none⟩))
 |cp (cs:List PV) (off r o:Nat) (vals:Nat->Value):
  (∀(j:Nat) x,cs[j]?=some x->s.g.C r (o+j)/\cellAt s.w r (o+j)=some (vals j))->
  (∀(j:Nat) x,cs[j]?=some x->J08 s.w s.g.C x (vals j))->JF s (.cp cs off) (.pointer (some ⟨r,o+off,none⟩))
 |slr (b i n v wm esz rows):(∃a cap,v=.slice a n cap/\(n=0\/a≠none))->s.σ[b]?=some (.arr wm esz rows)->i+n<=rows.length->(i+n=rows.length->Z8 s b esz i n v)->JF s (.slr b i n) v
 |ep (b ext i off v wm esz rows):(∃r o,v=.pointer (some ⟨r,o,none⟩))->s.σ[b]?=some (.arr wm esz rows)->ext<=rows.length->
  (ext=rows.length->i<ext-> ∃r,s.g.μ b=some (r,0)/\v=.pointer (some ⟨r,i*esz+off,none⟩))->JF s (.ep b ext i off) v
 |pre (b n k v wm esz rows):(∃a cap,v=.slice a k cap)->s.σ[b]?=some (.arr wm esz rows)->n<=rows.length->k<=n->
  (n=rows.length->(n=0/\v=.slice none 0 0)\/ ∃r cap c e fz,s.g.μ b=some (r,0)/\v=.slice (some ⟨r,0,none⟩) k cap/\n<=cap/\s.w.heap[r]?=some (.cells c e fz)/\cap*esz<=c.size)->JF s (.pre b n k) v
 |fn (f:FuncId) (first caps:List AV) (fs cs:Array Value):first.length=fs.size->caps.length=cs.size->
  (∀(i:Nat) x v,first[i]?=some x->fs[i]?=some v->JF s x v)->(∀(i:Nat) x v,caps[i]?=some x->cs[i]?=some v->JF s x v)->
  JF s (.fn f first caps) (.func (.func f) fs cs)
 |unk (x:Bool):JF s .unk (.bool x)
def Wr1(s:Sn)(b r o:Nat):Prop:=
 match s.σ[b]? with
 |some (.box cs)=> ∃e,s.g.μ b=some (r,e)/\e<=o/\o<e+cs.length
 |some (.arr true _ _)=> ∃e,s.g.μ b=some (r,e)
 |some (.arr false esz rows)=> ∃e,s.g.μ b=some (r,e)/\rows.length*esz<=o
 |_=>False
def Wr(s:Sn)(r o:Nat):Prop:= ∃b,Wr1 s b r o
def DZ(fz:Nat×Nat)(a b:Nat):Prop:= ∀o,a<=o->o<b-> ¬(fz.1<=o/\o<fz.2)
def vZ(esz:Nat)(fz:Nat×Nat)(n:Nat):Prop:=DZ fz 0 n/\(esz≠1-> ¬(fz.1<=n/\n<fz.2))
theorem vZ.zero(esz n:Nat):vZ esz (0,0) n:=⟨λ_ _ _ h=>by simp at h,λ_ h=>by simp at h⟩
def OQ(s:Sn)(b:Nat)(cs:List AV):Prop:= ∃r o c e fz,s.g.μ b=some (r,o)/\s.w.heap[r]?=some (.cells c e fz)/\o+cs.length<=c.size/\(∀(i:Nat) x,cs[i]?=some x-> ∃v,c[o+i]?=some v/\JF s x v/\v.oneCell'=true)/\DZ fz o (o+cs.length)
def OD(s:Sn)(b:Nat)(wm:Bool)(esz:Nat)(rows:List (List PV)):Prop:=(s.g.μ b=none/\(rows=[]\/wm=false))\/ ∃r c e fz,s.g.μ b=some (r,0)/\s.w.heap[r]?=some (.cells c e fz)/\(∀row∈rows,row.length=esz)/\rows.length*esz<=c.size/\(∀(i j:Nat) row x,rows[i]?=some row->row[j]?=some x->(∃v,c[i*esz+j]?=some v/\J08 s.w s.g.C x v)/\(wm=false->s.g.C r (i*esz+j)))/\vZ esz fz c.size
structure Inv(s:Sn):Prop where
 box: ∀b cs,s.σ[b]?=some (.box cs)->OQ s b cs
 arr: ∀b wm esz rows,s.σ[b]?=some (.arr wm esz rows)->OD s b wm esz rows
 apart: ∀b1 b2 r o,Wr1 s b1 r o->Wr1 s b2 r o->b1=b2
 const: ∀r o,s.g.C r o->r<s.w.heap.size/\ ∀b,¬Wr1 s b r o
def lS(W:Nat->Nat->Prop)(w0 w:World):Prop:=w0.heap.size<=w.heap.size/\(∀(r:Nat) c e fz,w0.heap[r]?=some (.cells c e fz)-> ∃c',w.heap[r]?=some (.cells c' e fz)/\c'.size=c.size/\ ∀o,¬W r o->c'[o]?=c[o]?)/\(∀(r:Nat) x,w0.heap[r]?=some x->(∀c e fz,x≠.cells c e fz)->w.heap[r]?=some x)/\w.os=w0.os/\w.output=w0.output
structure bC(s0 s:Sn):Prop where
 keep:lS (Wr s0) s0.w s.w
 cmono: ∀r o,s0.g.C r o->s.g.C r o
 cnew: ∀r o,s.g.C r o->s0.g.C r o\/Wr s0 r o\/s0.w.heap.size<=r
 wnew: ∀r o,Wr s r o->Wr s0 r o\/s0.w.heap.size<=r
 len:s0.σ.length<=s.σ.length
 box: ∀b cs,s0.σ[b]?=some (.box cs)->(∃cs',s.σ[b]?=some (.box cs')/\cs'.length=cs.length)/\s.g.μ b=s0.g.μ b
 arr: ∀b wm esz rows,s0.σ[b]?=some (.arr wm esz rows)-> ∃wm' rows',s.σ[b]?=some (.arr wm' esz rows')/\(wm'=true->wm=true)/\
  rows.length<=rows'.length/\(rows'.length=rows.length->s.g.μ b=s0.g.μ b)
theorem lS.refl(W w):lS W w w:=⟨zQ0 _,λ_ c _ _ h=>⟨c,h,rfl,λ_ _=>rfl⟩,λ_ _ h _=>h,rfl,rfl⟩
theorem lS.mono{W W':Nat->Nat->Prop}{w0 w}(h:lS W w0 w)(hw: ∀r o,W r o->W' r o):lS W' w0 w:=
 ⟨h.1,λr c e fz j=>let⟨c',a,b,d⟩:=h.2.1 r c e fz j;⟨c',a,b,λo g=>d o λx=>g (hw _ _ x)⟩,h.2.2⟩
theorem lS.cell{W w0 w}(h:lS W w0 w){r o v}(hn: ¬W r o)(hv:cellAt w0 r o=some v):cellAt w r o=some v:=by
 unfold cellAt at hv;split at hv;rename_i c e fz g;obtain⟨c',h1,_,j⟩:=h.2.1 r c e fz g;grind [jK];cases hv
theorem bC.refl(s:Sn):bC s s:=
 ⟨.refl _ _,λ_ _ h=>h,λ_ _ h=>.inl h,λ_ _ h=>.inl h,zQ0 _,λ_ cs h=>⟨⟨cs,h,rfl⟩,rfl⟩,
  λ_ wm _ rows h=>⟨wm,rows,h,id,zQ0 _,λ_=>rfl⟩⟩
theorem xI{w:World}{r:Nat}{x:Obj}(h:w.heap[r]?=some x):r<w.heap.size:=by
 grind
theorem bC.trans{s0 s1 C:Sn}(h:bC s0 s1)(g:bC s1 C):bC s0 C where
 keep:=by
  refine⟨zQ1 h.keep.1 g.keep.1,λr c e fz A=>?_,λr x A E=>g.keep.2.2.1 r x (h.keep.2.2.1 r x A E) E,g.keep.2.2.2.1.trans h.keep.2.2.2.1,g.keep.2.2.2.2.trans h.keep.2.2.2.2⟩;obtain⟨k,n,b1,z⟩:=h.keep.2.1 r c e fz A;obtain⟨q,w,b2,y⟩:=g.keep.2.1 r k e fz n;refine⟨q,w,b2.trans b1,λo H=>(y o λj=>?_).trans (z o H)⟩;rcases h.wnew r o j with j|j
  all_goals simp_all
 cmono r o hc:=g.cmono r o (h.cmono r o hc)
 cnew r o hc:=by
  rcases g.cnew r o hc with hc|j|v;exact h.cnew r o hc
  ·rcases h.wnew r o j with j|v
   all_goals simp_all
  exact .inr (.inr (zQ1 h.keep.1 v))
 wnew r o j:=by
  rcases g.wnew r o j with j|v;exact h.wnew r o j;exact .inr (zQ1 h.keep.1 v)
 len:=zQ1 h.len g.len
 box b cs hb:=by obtain⟨⟨k,n,I⟩,K⟩:=h.box b cs hb;obtain⟨⟨q,w,L⟩,J⟩:=g.box b k n;simp_all
 arr b wm esz rows hb:=by obtain⟨B,F,n,b1,k,z⟩:=h.arr b wm esz rows hb;obtain⟨D,G,w,b2,q,y⟩:=g.arr b B esz F n;exact⟨D,G,w,λe=>b1 (b2 e),zQ1 k q,λe=>(y (by omega)).trans (z (by omega))⟩
theorem Inv.cfix{s0 s:Sn}(hi:Inv s0)(t:bC s0 s){r o v}(hc:s0.g.C r o)(hv:cellAt s0.w r o=some v):cellAt s.w r o=some v:=
 t.keep.cell (fun⟨b,e⟩=>(hi.const r o hc).2 b e) hv
theorem J08.mono{s0 s:Sn}(hi:Inv s0)(t:bC s0 s){x v}(h:J08 s0.w s0.g.C x v):J08 s.w s.g.C x v:=by
 induction h with
 |b x=>exact .b x
 |i k n=>exact .i k n
 |s l=>exact .s l
 |np=>exact .np
 |nf=>exact .nf
 |sl0 esz a cap=>exact .sl0 esz a cap
 |sl esz rows r o cap vals h1 h2 q _ ih=>exact .sl esz rows r o cap vals h1 h2 (λi j row x e y=>⟨t.cmono _ _ (q i j row x e y).1,hi.cfix t (q i j row x e y).1 (q i j row x e y).2⟩) ih
 |slc esz rows a _ ih=>exact .slc esz rows a ih
theorem OY.mono{s0 s:Sn}(t:bC s0 s){b}(h:OY s0.σ b):OY s.σ b:=by obtain⟨cs,h⟩:=h;obtain⟨⟨cs',e,_⟩,_⟩:=t.box b cs h;exact⟨cs',e⟩
theorem JF.mono{s0 s:Sn}(hi:Inv s0)(t:bC s0 s){x v}(h:JF s0 x v):JF s x v:=by
 induction h with
 |p c v h=>exact .p c v (h.mono hi t)
 |data cs vs h1 h2=>exact .data cs vs h1 λi x v w y=>(h2 i x v w y).mono hi t
 |agg cs vs h1 h2 _ ih=>exact .agg cs vs h1 h2 ih
 |tup cs vs h1 _ ih=>exact .tup cs vs h1 ih
 |ptr b off r o h1 h2=>obtain⟨cs,q⟩:=h2;exact .ptr b off r o ((t.box b cs q).2.trans h1) (.mono t ⟨cs,q⟩)
 |cp cs off r o vals h1 h2=>exact .cp cs off r o vals (λj x w=>⟨t.cmono _ _ (h1 j x w).1,hi.cfix t (h1 j x w).1 (h1 j x w).2⟩) λj x w=>(h2 j x w).mono hi t
 |slr b i n v wm esz rows z h1 h2 q=>
  obtain⟨wm',rows',a,_,c,d⟩:=t.arr b wm esz rows h1;refine .slr b i n v wm' esz rows' z a (zQ1 h2 c) λe=>?_;have B:rows'.length=rows.length:=by omega
  rcases q (by omega)with⟨m,H,L,y⟩|⟨r,cap,E,A,fz,m,y,g,D,K⟩;exact .inl ⟨(d B).trans m,H,L,y⟩;obtain⟨c',C,I,_⟩:=t.keep.2.1 r E A fz D;exact .inr ⟨r,cap,c',A,fz,(d B).trans m,y,g,C,by omega⟩
 |ep b ext i off v wm esz rows z h1 h2 q=>
  obtain⟨wm',rows',a,_,c,d⟩:=t.arr b wm esz rows h1;refine .ep b ext i off v wm' esz rows' z a (zQ1 h2 c) λe M=>?_;grind
 |pre b n k v wm esz rows z h1 h2 J q=>
  obtain⟨wm',rows',a,_,c,d⟩:=t.arr b wm esz rows h1;refine .pre b n k v wm' esz rows' z a (zQ1 h2 c) J λe=>?_;have B:rows'.length=rows.length:=by omega
  rcases q (by omega)with h|⟨r,cap,E,A,fz,m,y,g,D,K⟩;exact .inl h;obtain⟨c',C,I,_⟩:=t.keep.2.1 r E A fz D;exact .inr ⟨r,cap,c',A,fz,(d B).trans m,y,g,C,by omega⟩
 |fn f first caps fs cs h1 h2 _ _ F G=>exact .fn f first caps fs cs h1 h2 F G
 |unk x=>exact .unk x
theorem nJ{s0 s:Sn}(hi:Inv s0)(t:bC s0 s)(D:Nat->Prop)
  (same: ∀b,¬D b->s.σ[b]?=s0.σ[b]?/\s.g.μ b=s0.g.μ b)
  (k: ∀b r o v,¬D b->Wr1 s0 b r o->cellAt s0.w r o=some v->cellAt s.w r o=some v)
  (Q: ∀b cs,D b->s.σ[b]?=some (.box cs)->OQ s b cs)
  (R: ∀b wm esz rows,D b->s.σ[b]?=some (.arr wm esz rows)->OD s b wm esz rows)
  (O: ∀b1 b2 r o,D b1->Wr1 s b1 r o->Wr1 s b2 r o->b1=b2)
  (n: ∀r o,s.g.C r o->r<s.w.heap.size)
  (J: ∀r o b,s.g.C r o->D b-> ¬Wr1 s b r o)
  (M: ∀r o b,s.g.C r o-> ¬s0.g.C r o-> ¬D b-> ¬Wr1 s0 b r o):Inv s:=by
 have wr: ∀b r o,¬D b->(Wr1 s b r o↔Wr1 s0 b r o):=(by intro b r o hd;obtain⟨h1,h2⟩:=same b hd;grind [Wr1]);have cells: ∀(r:Nat) c e fz,s0.w.heap[r]?=some (.cells c e fz)-> ∃c',s.w.heap[r]?=some (.cells c' e fz)/\c'.size=c.size/\ ∀o v,cellAt s.w r o=some v->c'[o]?=some v:=(by intro r c e fz h;obtain⟨c',h1,h2,_⟩:=t.keep.2.1 r c e fz h;grind [jK]);refine⟨?_,?_,?_,?_⟩;intro b cs q;by_cases hd:D b;simp_all;obtain⟨h1,h2⟩:=same b hd;obtain⟨r,o,c,e,fz,m,A,T,F,E⟩:=hi.box b cs (h1▸q);obtain⟨c',y,P,z⟩:=cells r c e fz A;refine⟨r,o,c',e,fz,h2.trans m,y,by omega,λi x G=>?_,E⟩;obtain⟨v,U,h,I⟩:=F i x G;refine⟨v,z _ _ (k b r (o+i) v hd ?_ (by grind [jK])),h.mono hi t,I⟩;grind [Wr1];intro b wm esz rows q;by_cases hd:D b;grind;obtain⟨h1,h2⟩:=same b hd;rcases hi.arr b wm esz rows (h1▸q)with⟨m,h⟩|⟨r,c,e,fz,m,A,B,T,F,E⟩;exact .inl ⟨h2.trans m,h⟩;obtain⟨c',y,P,z⟩:=cells r c e fz A;refine .inr ⟨r,c',e,fz,h2.trans m,y,B,by omega,λi j row x K N=>?_,P▸E⟩;obtain⟨⟨v,U,h⟩,hc⟩:=F i j row x K N;refine⟨⟨v,z _ _ ?_,h.mono hi t⟩,λe=>t.cmono _ _ (hc e)⟩;cases wm with
 |true=>
  refine k b r _ v hd ?_ (by grind [jK]);grind [Wr1]
 |false=>exact hi.cfix t (hc rfl) (by grind [jK])
 intro b1 b2 r o h1 h2;by_cases L:D b1;grind;by_cases H:D b2;grind;exact hi.apart b1 b2 r o ((wr b1 r o L).1 h1) ((wr b2 r o H).1 h2);intro r o hc;refine⟨n r o hc,λb q=>?_⟩;by_cases hd:D b;simp_all;by_cases S:s0.g.C r o;exact(hi.const r o S).2 b ((wr b r o hd).1 q);simp_all
end Go.Am
end
section
namespace Go.Am
theorem jM{σ:List Blk}{b:Nat}{x y:Blk}(h:σ[b]?=some x):(σ.set b y)[b]?=some y:=by
 grind
theorem rK{σ:List Blk}{b c:Nat}{y:Blk}(h:b≠c):(σ.set b y)[c]?=σ[c]?:=by simp[h]
theorem se{s0:Sn}(hi:Inv s0){w':World}(k:w'.heap=s0.w.heap)(ho:w'.os=s0.w.os)(hp:w'.output=s0.w.output):
  Inv ⟨s0.σ,s0.g,w'⟩/\bC s0 ⟨s0.σ,s0.g,w'⟩:=by
 have hc: ∀r o,cellAt w' r o=cellAt s0.w r o:=λr o=>by grind [cellAt]
 have t:bC s0 ⟨s0.σ,s0.g,w'⟩:=by
  refine⟨⟨by simp_all,λr c e fz h=>⟨c,by simp_all,rfl,λ_ _=>rfl⟩,λr x h _=>by simp_all,ho,hp⟩,λ_ _ h=>h,λ_ _ h=>.inl h,λr o ⟨b,n⟩=>.inl ⟨b,n⟩,zQ0 _,λ_ cs h=>⟨⟨cs,h,rfl⟩,rfl⟩,
   λ_ wm _ rows h=>⟨wm,rows,h,id,zQ0 _,λ_=>rfl⟩⟩
 exact⟨nJ hi t (λ_=>False) (λ_ _=>⟨rfl,rfl⟩) (λ_ r o v _ _ h=>by simp_all) (λ_ _ h=>h.elim) (λ_ _ _ _ h=>h.elim)
  (λ_ _ _ _ h=>h.elim) (λr o h=>by show r<w'.heap.size;rw[k];exact(hi.const r o h).1) (λ_ _ _ _ h=>h.elim) (λ_ _ _ h j=>(j h).elim),t⟩
theorem RX{W:Nat->Nat->Prop}{w w':World}{x:Obj}(j:w'.heap=w.heap.push x)(ho:w'.os=w.os)(hp:w'.output=w.output):lS W w w':=by
 have g: ∀(r:Nat) y,w.heap[r]?=some y->w'.heap[r]?=some y:=(by grind);exact⟨by rw[j];simp,λr c e fz h=>⟨c,g r _ h,rfl,λ_ _=>rfl⟩,λr y h _=>g r y h,ho,hp⟩
theorem RI{w w':World}{x:Obj}(e:w'.heap=w.heap.push x):w'.heap[w.heap.size]?=some x:=by rw[e];simp
theorem fm{w w':World}{x:Obj}(e:w'.heap=w.heap.push x){r o v}(h:cellAt w r o=some v):cellAt w' r o=some v:=
 (RX (W:=λ_ _=>False) (w:=w) (w':={w' with os:=w.os,output:=w.output}) e rfl rfl).cell (λh=>h) h
def eS(g:Gh)(new:Nat)(x:Option (Nat×Nat)):Gh:=⟨λb=>if b=new then x else g.μ b,g.C⟩
theorem q8{s0 s:Sn}{new:Nat}{blk:Blk}(hd:s0.σ[new]?=some .dead)(hs:s.σ=s0.σ.set new blk)(x:Option (Nat×Nat))(j:s.g.μ=(eS s0.g new x).μ):
  s0.σ.length<=s.σ.length/\(∀b cs,s0.σ[b]?=some (.box cs)->(∃cs',s.σ[b]?=some (.box cs')/\cs'.length=cs.length)/\s.g.μ b=s0.g.μ b)/\
  (∀b wm esz rows,s0.σ[b]?=some (.arr wm esz rows)-> ∃wm' rows',s.σ[b]?=some (.arr wm' esz rows')/\(wm'=true->wm=true)/\
  rows.length<=rows'.length/\(rows'.length=rows.length->s.g.μ b=s0.g.μ b)):=by
 have o: ∀b y,s0.σ[b]?=some y->y≠.dead->s.σ[b]?=some y/\s.g.μ b=s0.g.μ b:=by
  intro b y k n;have h:new≠b:=by grind
  rw[hs,rK h,j];exact⟨k,if_neg (λe=>h e.symm)⟩
 simp_all
def JMI(s0:Sn)(c:Array Value):Blk->Prop
 | .box cs=>cs.length<=c.size/\ ∀(i:Nat) x,cs[i]?=some x-> ∃v,c[i]?=some v/\JF s0 x v/\v.oneCell'=true
 | .arr true esz rows=>(∀row∈rows,row.length=esz)/\rows.length*esz<=c.size/\
  ∀(i j:Nat) row x,rows[i]?=some row->row[j]?=some x-> ∃v,c[i*esz+j]?=some v/\J08 s0.w s0.g.C x v
 |_=>False
theorem QI{s0:Sn}(hi:Inv s0){new:Nat}(hd:s0.σ[new]?=some .dead){blk:Blk}{c:Array Value}{e:TypeId}{fz:Nat×Nat}{w':World}
  (y:w'.heap=s0.w.heap.push (.cells c e fz)) (ho:w'.os=s0.w.os) (hp:w'.output=s0.w.output) (hf:DZ fz 0 c.size) (E: ∀wm esz rows,blk=.arr wm esz rows->esz≠1-> ¬(fz.1<=c.size/\c.size<fz.2)) (hb:JMI s0 c blk):
  Inv ⟨s0.σ.set new blk,eS s0.g new (some (s0.w.heap.size,0)),w'⟩/\bC s0 ⟨s0.σ.set new blk,eS s0.g new (some (s0.w.heap.size,0)),w'⟩:=by
 have q:(s0.σ.set new blk)[new]?=some blk:=jM hd;have wr: ∀b r o,b≠new->(Wr1 ⟨s0.σ.set new blk,eS s0.g new (some (s0.w.heap.size,0)),w'⟩ b r o↔Wr1 s0 b r o):=by simp_all [Wr1,eS,Ne.symm]
 have N: ∀r o,Wr1 ⟨s0.σ.set new blk,eS s0.g new (some (s0.w.heap.size,0)),w'⟩ new r o->r=s0.w.heap.size:=(by intro r o h;unfold Wr1 at h;simp only[q,eS]at h;grind);have O: ∀b r o,Wr1 s0 b r o->r<s0.w.heap.size:=by
  intro b r o h;unfold Wr1 at h;split at h;rename_i cs hb;obtain⟨r',P,c',e',B,m,k,_⟩:=hi.box b cs hb;grind
  ·rename_i hb;obtain⟨K,I⟩:=h;rcases hi.arr b _ _ _ hb with⟨m,_⟩|⟨r',c',e',B,m,k,_⟩
   all_goals grind
  ·rename_i hb;obtain⟨K,I,_⟩:=h;rcases hi.arr b _ _ _ hb with⟨m,_⟩|⟨r',c',e',B,m,k,_⟩
   all_goals grind
  exact h.elim
 have t:bC s0 ⟨s0.σ.set new blk,eS s0.g new (some (s0.w.heap.size,0)),w'⟩:=(by obtain⟨G,J,H⟩:=q8 (s:=⟨s0.σ.set new blk,eS s0.g new (some (s0.w.heap.size,0)),w'⟩) hd rfl (some (s0.w.heap.size,0)) rfl;refine⟨RX y ho hp,λ_ _ h=>h,λ_ _ h=>.inl h,?_,G,J,H⟩;rintro r o ⟨b,hb⟩;by_cases e:b=new;grind;exact .inl ⟨b,(wr b r o e).1 hb⟩);refine⟨nJ hi t (λb=>b=new) (λb A=>⟨rK (Ne.symm A),if_neg A⟩) (λb r o v _ _ h=>fm y h) ?_ ?_ ?_ ?_ ?_ ?_,t⟩;rintro b cs rfl n;rw[q]at n;injection n with n;subst n;obtain⟨h1,h2⟩:=hb;refine⟨s0.w.heap.size,0,c,e,fz,if_pos rfl,RI y,by omega,λi x C=>?_,λo _ Q=>hf o (zQ2 _) (by omega)⟩;obtain⟨v,F,z,D⟩:=h2 i x C;exact⟨v,by simp_all,z.mono hi t,D⟩;rintro b wm esz rows rfl n;rw[q]at n;injection n with n;subst n;cases wm with
 |false=>exact hb.elim
 |true=>obtain⟨h1,h2,L⟩:=hb;refine .inr ⟨s0.w.heap.size,c,e,fz,if_pos rfl,RI y,h1,h2,λi j row x z C=>⟨?_,λh=>by cases h⟩,hf,E _ _ _ rfl⟩;obtain⟨v,F,z⟩:=L i j row x z C;exact⟨v,F,z.mono hi t⟩
 grind;intro r o hc;show r<w'.heap.size;rw[y];have:=(hi.const r o hc).1;simp;omega;rintro r o b hc rfl h;have:=(hi.const r o hc).1;grind;exact λr o b hc M=>(M hc).elim
theorem vX{s0:Sn}(hi:Inv s0): ∀b r o,Wr1 s0 b r o->r<s0.w.heap.size:=by
 intro b r o h;unfold Wr1 at h;split at h;rename_i cs e;obtain⟨r',q,c',e',g,m,k,_⟩:=hi.box b cs e;grind
 ·rename_i e;obtain⟨j,n⟩:=h;rcases hi.arr b _ _ _ e with⟨m,_⟩|⟨r',c',e',g,m,k,_⟩
  all_goals grind
 ·rename_i e;obtain⟨j,n,_⟩:=h;rcases hi.arr b _ _ _ e with⟨m,_⟩|⟨r',c',e',g,m,k,_⟩
  all_goals grind
 exact h.elim
theorem QN{s0:Sn}(hi:Inv s0){new:Nat}(hd:s0.σ[new]?=some .dead)(esz:Nat):
  Inv ⟨s0.σ.set new (.arr true esz []),eS s0.g new none,s0.w⟩/\bC s0 ⟨s0.σ.set new (.arr true esz []),eS s0.g new none,s0.w⟩:=by
 have j:(s0.σ.set new (Blk.arr true esz []))[new]?=some (.arr true esz []):=jM hd;have wr: ∀b r o,b≠new->(Wr1 ⟨s0.σ.set new (.arr true esz []),eS s0.g new none,s0.w⟩ b r o↔Wr1 s0 b r o):=by simp_all [Wr1,eS,Ne.symm]
 have C: ∀r o,¬Wr1 ⟨s0.σ.set new (.arr true esz []),eS s0.g new none,s0.w⟩ new r o:=by simp_all [Wr1,eS]
 have t:bC s0 ⟨s0.σ.set new (.arr true esz []),eS s0.g new none,s0.w⟩:=(by obtain⟨q,z,x⟩:=q8 (s:=⟨s0.σ.set new (.arr true esz []),eS s0.g new none,s0.w⟩) hd rfl none rfl;refine⟨.refl _ _,λ_ _ h=>h,λ_ _ h=>.inl h,?_,q,z,x⟩;rintro r o ⟨b,A⟩;by_cases e:b=new;simp_all;exact .inl ⟨b,(wr b r o e).1 A⟩);refine⟨nJ hi t (λb=>b=new) (λb k=>⟨rK (Ne.symm k),if_neg k⟩) (λb r o v _ _ h=>h) ?_ ?_ ?_ ?_ ?_ ?_,t⟩;simp_all;rintro b wm y rows rfl n;rw[j]at n;cases n;exact .inl ⟨if_pos rfl,.inl rfl⟩;simp_all;exact λr o hc=>(hi.const r o hc).1;simp_all;exact λr o b hc B=>(B hc).elim
def oE(g:Gh)(p:Nat->Nat->Prop):Gh:=⟨g.μ,λr o=>g.C r o\/p r o⟩
theorem JF1{s0:Sn}(hi:Inv s0){x:Obj}{w':World}
  (e:w'.heap=s0.w.heap.push x) (ho:w'.os=s0.w.os) (hp:w'.output=s0.w.output):
  Inv ⟨s0.σ,oE s0.g λr _=>r=s0.w.heap.size,w'⟩/\bC s0 ⟨s0.σ,oE s0.g λr _=>r=s0.w.heap.size,w'⟩:=by
 have t:bC s0 ⟨s0.σ,oE s0.g λr _=>r=s0.w.heap.size,w'⟩:=by
  refine⟨RX e ho hp,λ_ _ h=>.inl h,λr o h=>?_,λr o h=>.inl h,zQ0 _,λ_ cs h=>⟨⟨cs,h,rfl⟩,rfl⟩,
   λ_ wm _ rows h=>⟨wm,rows,h,id,zQ0 _,λ_=>rfl⟩⟩
  rcases h with h|h
  all_goals simp_all
 refine⟨nJ hi t (λ_=>False) (λ_ _=>⟨rfl,rfl⟩) (λb r o v _ _ h=>fm e h) (λ_ _ h=>h.elim) (λ_ _ _ _ h=>h.elim)
  (λ_ _ _ _ h=>h.elim) ?_ (λ_ _ _ _ h=>h.elim) ?_,t⟩
 intro r o hc;show r<w'.heap.size;rw[e];rcases hc with hc|hc;have:=(hi.const r o hc).1;simp;omega;simp;omega;intro r o b hc j _ h;rcases hc with hc|hc;exact j hc;have:=vX hi b r o h;omega
structure Put(r:Nat)(o:Nat)(vs:List Value)(w w':World):Prop where
 there: ∃c e fz c',w.heap[r]?=some (.cells c e fz)/\w'.heap[r]?=some (.cells c' e fz)/\c'.size=c.size/\o+vs.length<=c.size/\
  (∀(j:Nat) v,vs[j]?=some v->c'[o+j]?=some v)/\ ∀k,(k<o\/o+vs.length<=k)->c'[k]?=c[k]?
 rest: ∀r':Nat,r'≠r->w'.heap[r']?=w.heap[r']?
 size:w'.heap.size=w.heap.size
 os:w'.os=w.os
 output:w'.output=w.output
theorem Put.keep{W:Nat->Nat->Prop}{r o vs w w'}(h:Put r o vs w w')(hw: ∀k,o<=k->k<o+vs.length->W r k):lS W w w':=by
 obtain⟨c,e,fz,c',h1,h2,v,_,_,q⟩:=h.there;refine⟨Nat.le_of_eq h.size.symm,λr' j z n g=>?_,λr' x g y=>?_,h.os,h.output⟩;by_cases e':r'=r;grind;exact⟨j,by rw[h.rest r' e'];exact g,rfl,λ_ _=>rfl⟩;by_cases e':r'=r;grind;rw[h.rest r' e'];exact g
theorem Put.cell{r o vs w w'}(h:Put r o vs w w'){r' k v}(hv:cellAt w r' k=some v)(hn:r'≠r\/k<o\/o+vs.length<=k):cellAt w' r' k=some v:=by
 obtain⟨c,e,fz,c',h1,h2,j,_,_,g⟩:=h.there;by_cases e':r'=r;grind [jK];unfold cellAt;rw[h.rest r' e'];exact hv
inductive db:Blk->Blk->Prop where|box (cs cs':List AV):cs'.length=cs.length->db (.box cs) (.box cs')|arr (esz:Nat) (rows rows':List (List PV)):rows'.length=rows.length->db (.arr true esz rows) (.arr true esz rows')
theorem eo{s0:Sn}(hi:Inv s0){b:Nat}{z blk:Blk}{r o:Nat}{vs:List Value}{w':World}(hb:s0.σ[b]?=some z)
  (q:Put r o vs s0.w w') (hw: ∀k,o<=k->k<o+vs.length->Wr1 s0 b r k)
  (hk:db z blk)
  (A: ∀cs,blk=.box cs->(∀{x v},JF s0 x v->JF ⟨s0.σ.set b blk,s0.g,w'⟩ x v)->OQ ⟨s0.σ.set b blk,s0.g,w'⟩ b cs)
  (B: ∀esz rows,blk=.arr true esz rows->(∀{x v},J08 s0.w s0.g.C x v->J08 w' s0.g.C x v)->OD ⟨s0.σ.set b blk,s0.g,w'⟩ b true esz rows):
  Inv ⟨s0.σ.set b blk,s0.g,w'⟩/\bC s0 ⟨s0.σ.set b blk,s0.g,w'⟩:=by
 have n:(s0.σ.set b blk)[b]?=some blk:=jM hb;have wr: ∀j r o,(Wr1 ⟨s0.σ.set b blk,s0.g,w'⟩ j r o↔Wr1 s0 j r o):=by
  intro j r o;by_cases e:j=b;subst e;unfold Wr1;simp only[n,hb];cases hk<;>simp_all
  grind [Wr1]
 have t:bC s0 ⟨s0.σ.set b blk,s0.g,w'⟩:=by
  refine⟨q.keep λk h1 h2=>⟨b,hw k h1 h2⟩,λ_ _ h=>h,λ_ _ h=>.inl h,λr o ⟨j,h⟩=>.inl ⟨j,(wr j r o).1 h⟩,by simp,λj cs h=>?_,λj wm esz rows h=>?_⟩;by_cases e:j=b;subst e;rw[hb]at h;injection h with h;subst h;cases hk<;>simp_all
  grind;by_cases e:j=b;subst e;rw[hb]at h;injection h with h;subst h;cases hk<;>simp_all
  grind
 refine⟨nJ hi t (λj=>j=b) (λj y=>⟨rK (Ne.symm y),rfl⟩) ?_ ?_ ?_ ?_ ?_ ?_ ?_,t⟩;intro j r' k v y E F;refine q.cell F ?_;rcases zQ3 k o with h|h;simp_all;rcases zQ3 k (o+vs.length)with D|D;refine .inl λe=>y ?_;subst e;exact hi.apart _ _ _ _ E (hw k h D);simp_all;rintro j cs rfl h;rw[n]at h;injection h with h;subst h;exact A _ rfl λh=>h.mono hi t;rintro j wm esz rows rfl h;rw[n]at h;injection h with h;subst h;cases hk with
 |arr _ _ rows' G=>exact B _ _ rfl λh=>h.mono hi t
 rintro b1 b2 r o rfl h1 h2;exact hi.apart _ _ _ _ ((wr _ _ _).1 h1) ((wr _ _ _).1 h2);intro r o hc;show r<w'.heap.size;rw[q.size];exact(hi.const r o hc).1;rintro r o j hc rfl h;exact(hi.const r o hc).2 _ ((wr _ _ _).1 h);simp_all
end Go.Am
end
section
namespace Go.Am
theorem mB{a b n e:Nat}(h1:a<n)(h2:b<e):a*e+b<n*e:=by
 have h:(a+1)*e<=n*e:=zQ4 e h1;grind
theorem Jy{α:Type}{l:List α}{i:Nat}{x:α}(h:l[i]?=some x):i<l.length:=by
 grind
theorem SG{α:Type}{l:Array α}{i:Nat}{x:α}(h:l[i]?=some x):i<l.size:=by
 grind
theorem kI{α:Type}{l:List α}{i:Nat}{x:α}(h:l[i]?=some x):x∈l:=zQ5 h
def Frz(σ τ:List Blk):Prop:=(∀(b:Nat) wm esz rows,σ[b]?=some (Blk.arr wm esz rows)-> ∃wm',τ[b]?=some (Blk.arr wm' esz rows))/\(∀(b:Nat) x,σ[b]?=some x->(∀wm esz rows,x≠Blk.arr wm esz rows)->τ[b]?=some x)
theorem Frz.refl(σ):Frz σ σ:=⟨λ_ wm _ _ h=>⟨wm,h⟩,λ_ _ h _=>h⟩
theorem Frz.trans{a b c}(h:Frz a b)(g:Frz b c):Frz a c:=
 ⟨λn wm esz rows e=>let⟨wm',h1⟩:=h.1 n wm esz rows e;g.1 n wm' esz rows h1,λn x e j=>g.2 n x (h.2 n x e j) j⟩
theorem JCG{s0:Sn}(hi:Inv s0){b:Nat}{wm:Bool}{esz:Nat}{rows:List (List PV)}(hb:s0.σ[b]?=some (.arr wm esz rows)):
  ∃g',g'.μ=s0.g.μ/\Inv ⟨s0.σ.set b (.arr false esz rows),g',s0.w⟩/\bC s0 ⟨s0.σ.set b (.arr false esz rows),g',s0.w⟩/\
   Frz s0.σ (s0.σ.set b (.arr false esz rows)):=by
 have q:(s0.σ.set b (.arr false esz rows))[b]?=some (.arr false esz rows):=jM hb;have y:Frz s0.σ (s0.σ.set b (.arr false esz rows)):=by
  refine⟨λn wm' B rows' E=>?_,λn x E H=>?_⟩
  all_goals grind
 cases wm with
 |false=>
  have N:s0.σ.set b (.arr false esz rows)=s0.σ:=(by apply zQ6;grind);refine⟨s0.g,rfl,?_,?_,y⟩
  all_goals simp_all [bC.refl]
 |true=>
  refine⟨oE s0.g λr o=>s0.g.μ b=some (r,0)/\o<rows.length*esz,rfl,?_⟩;have wr: ∀k r o,Wr1 ⟨s0.σ.set b (.arr false esz rows),oE s0.g λr o=>s0.g.μ b=some (r,0)/\o<rows.length*esz,s0.w⟩ k r o->Wr1 s0 k r o:=(by intro k r o h;by_cases e:k=b;subst e;unfold Wr1 at h⊢;simp only[q,hb]at h⊢;obtain⟨I,m,_⟩:=h;exact⟨I,m⟩;unfold Wr1 at h⊢;simp only[rK (Ne.symm e)]at h;exact h);have t:bC s0 ⟨s0.σ.set b (.arr false esz rows),oE s0.g λr o=>s0.g.μ b=some (r,0)/\o<rows.length*esz,s0.w⟩:=(by refine⟨.refl _ _,λ_ _ h=>.inl h,λr o h=>?_,λr o ⟨k,h⟩=>.inl ⟨k,wr k r o h⟩,by simp,λk cs h=>?_,λk wm B rows' h=>?_⟩;rcases h with h|⟨h,_⟩;exact .inl h;refine .inr (.inl ⟨b,?_⟩);grind [Wr1];refine⟨⟨cs,y.2 k _ h (by simp),rfl⟩,rfl⟩;by_cases e:k=b;subst e;rw[hb]at h;injection h with h;injection h with h1 h2 h3;subst h1 h2 h3;exact⟨false,rows,q,by simp,zQ0 _,λ_=>rfl⟩;exact⟨wm,rows',by grind,id,zQ0 _,λ_=>rfl⟩);refine⟨nJ hi t (λk=>k=b) (λk z=>⟨rK (Ne.symm z),rfl⟩) (λ_ _ _ _ _ _ h=>h) ?_ ?_ ?_ ?_ ?_ ?_,t,y⟩;simp_all;rintro k wm B rows' rfl h;rw[q]at h;cases h;rcases hi.arr _ _ _ _ hb with⟨m,G⟩|⟨r,c,e,fz,m,F,C,L,H,J⟩;exact .inl ⟨m,.inr rfl⟩;refine .inr ⟨r,c,e,fz,m,F,C,L,λi j row x A D=>?_,J⟩;obtain⟨⟨v,M,G⟩,_⟩:=H i j row x A D;refine⟨⟨v,M,G.mono hi t⟩,λ_=>.inr ⟨m,?_⟩⟩;have h1:=Jy A;have h2:=Jy D;rw[C row (kI A)]at h2;simp_all [mB];rintro b1 b2 r o rfl h1 h2;exact hi.apart _ _ _ _ (wr _ _ _ h1) (wr _ _ _ h2)
  ·intro r o hc;rcases hc with hc|⟨hc,_⟩
   exact(hi.const r o hc).1
   ·rcases hi.arr _ _ _ _ hb with⟨m,_⟩|⟨r',c,e,fz,m,F,_⟩
    all_goals grind
  rintro r o k hc rfl h;rcases hc with hc|⟨hc,K⟩;exact(hi.const r o hc).2 _ (wr _ _ _ h);grind [Wr1];intro r o k hc E z h;rcases hc with hc|⟨hc,K⟩;exact E hc;refine z (hi.apart _ _ r o h ?_);grind [Wr1]
def jU(s:Sn)(esz:Nat)(rows:List (List PV))(v:Value):Prop:= ∃a cap,v=.slice a rows.length cap/\rows.length<=cap/\(∀row∈rows,row.length=esz)/\(rows=[]\/ ∃r o,a=some ⟨r,o,none⟩/\ ∀(i j:Nat) row x,rows[i]?=some row->row[j]?=some x-> ∃u,cellAt s.w r (o+i*esz+j)=some u/\J08 s.w s.g.C x u)
theorem jU.of_sl{s:Sn}{esz rows v}(h:J08 s.w s.g.C (.sl esz rows) v):jU s esz rows v:=by
 cases h with
 |sl0 _ a cap=>exact⟨a,cap,rfl,zQ2 _,(λ_ h=>by cases h),.inl rfl⟩
 |sl _ _ r o cap vals h1 h2 q n=>exact⟨_,cap,rfl,h1,h2,.inr ⟨r,o,rfl,λi j row x e k=>⟨_,(q i j row x e k).2,n i j row x e k⟩⟩⟩
theorem jU.of_slr{s:Sn}(hi:Inv s){b i n v wm esz rows}(h:JF s (.slr b i n) v)(hb:s.σ[b]?=some (.arr wm esz rows))(e:i+n=rows.length):
  jU s esz (rows.drop i) v:=by
 cases h with
 |slr _ _ _ _ wm' z rows' _ h1 h2 B=>
  rw[hb]at h1;injection h1 with h1;injection h1 with a1 a2 a3;subst a1 a2 a3;have H:(rows.drop i).length=n:=by simp;omega
  rcases B e with⟨m,q,C,w⟩|⟨r,cap,c,K,fz,m,w,y,F,I⟩;subst q C;have:rows=[]:=by grind
  subst this;exact⟨none,0,by simp[w],by simp,by simp,.inl rfl⟩;rcases hi.arr b wm esz rows hb with⟨g,_⟩|⟨r',c',e',E,g,D,o,hlen,J,_⟩;simp_all;rw[m]at g;injection g with g;injection g with g _;subst g;refine⟨some ⟨r,i*esz,none⟩,cap,by simp_all,by omega,λrow A=>o row (zQ7 A),.inr ⟨r,i*esz,rfl,λk j row x G L=>?_⟩⟩;grind [jK]
theorem jU.mono{s0 s:Sn}(hi:Inv s0)(t:bC s0 s){esz rows v}(h:jU s0 esz rows v)(hc: ∀r o u,cellAt s0.w r o=some u->cellAt s.w r o=some u):jU s esz rows v:=by obtain⟨a,cap,h1,h2,q,g⟩:=h;refine⟨a,cap,h1,h2,q,g.imp id ?_⟩;rintro⟨r,o,A,y⟩;exact⟨r,o,A,λi j row x n z=>let⟨u,k,e⟩:=y i j row x n z;⟨u,hc _ _ _ k,e.mono hi t⟩⟩
theorem gg{s:Sn}{esz:Nat}{rows:List (List PV)}{v:Value}{a:Option Addr}{cap:Nat}(hv:v=.slice a rows.length cap)(e:rows.length<=cap)
  (h: ∀row∈rows,row.length=esz)
  (hx:rows=[]\/ ∃r o,a=some ⟨r,o,none⟩/\ ∀(i j:Nat) row x,rows[i]?=some row->row[j]?=some x->s.g.C r (o+i*esz+j)/\ ∃u,cellAt s.w r (o+i*esz+j)=some u/\J08 s.w s.g.C x u):
  J08 s.w s.g.C (.sl esz rows) v:=by
 subst hv;rcases hx with rfl|⟨r,o,rfl,hx⟩;exact .sl0 _ _ _
 ·refine .sl esz rows r o cap (λi j=>(cellAt s.w r (o+i*esz+j)).getD .nilFunc) e h (λi j row x k n=>?_) λi j row x k n=>?_
  all_goals grind
theorem JFl{s0:Sn}(hi:Inv s0){b i n:Nat}{v:Value}{wm:Bool}{esz:Nat}{rows:List (List PV)}(h:JF s0 (.slr b i n) v)(hb:s0.σ[b]?=some (.arr wm esz rows))
  (e:i+n=rows.length):
  ∃g',Inv ⟨s0.σ.set b (.arr false esz rows),g',s0.w⟩/\bC s0 ⟨s0.σ.set b (.arr false esz rows),g',s0.w⟩/\
   Frz s0.σ (s0.σ.set b (.arr false esz rows))/\J08 s0.w g'.C (.sl esz (rows.drop i)) v:=by
 obtain⟨g',T,q,t,L⟩:=JCG hi hb;refine⟨g',q,t,L,?_⟩;have B:=h.mono hi t;have y:(s0.σ.set b (.arr false esz rows))[b]?=some (.arr false esz rows):=jM hb;obtain⟨a,cap,h1,h2,M,I⟩:=jU.of_slr q B y e;refine gg (s:=⟨s0.σ.set b (.arr false esz rows),g',s0.w⟩) h1 h2 M (I.imp id ?_);rintro⟨r,o,rfl,N⟩;refine⟨r,o,rfl,λk j row x H O=>⟨?_,N k j row x H O⟩⟩;cases B with
 |slr _ _ _ _ wm' z rows' _ J Z K=>
  have g:(s0.σ.set b (.arr false esz rows))[b]?=some (.arr wm' z rows'):=J;rw[y]at g;injection g with g;injection g with a1 a2 a3;subst a1 a2 a3;rcases K e with⟨m,S,W,A⟩|⟨r',D,c,Y,fz,m,A,E,U,V⟩;simp_all
  ·rw[h1]at A;injection A with v1 v2 v3;injection v1 with v1;injection v1 with v1 v4;subst v1 v4
   rcases q.arr b false esz rows y with⟨F,_⟩|⟨r',c',e',R,F,Q,G,hlen,P,_⟩
   all_goals grind
end Go.Am
end
section
namespace Go.Am
theorem QD{α:Type}{a b:List α}{i:Nat}{x:α}(h:(a++b)[i]?=some x):a[i]?=some x\/(a.length<=i/\b[i-a.length]?=some x):=by
 grind
def m7(g:Gh)(wm:Bool)(r lo hi:Nat):Gh:=oE g λr' o=>wm=false/\r'=r/\lo<=o/\o<hi
theorem JIP{s0:Sn}(hi:Inv s0){b:Nat}{wm:Bool}{esz:Nat}{rows new:List (List PV)}{r:Nat}{vs:List Value}{w':World}
  (hb:s0.σ[b]?=some (.arr wm esz rows)) (hm:s0.g.μ b=some (r,0)) (L: ∀row∈new,row.length=esz)
  (z:Put r (rows.length*esz) vs s0.w w') (hlen:vs.length=new.length*esz)
  (hx: ∀(i j:Nat) row x,new[i]?=some row->row[j]?=some x-> ∃u,vs[i*esz+j]?=some u/\J08 s0.w s0.g.C x u):
  Inv ⟨s0.σ.set b (.arr wm esz (rows++new)),m7 s0.g wm r (rows.length*esz) ((rows.length+new.length)*esz),w'⟩/\
  bC s0 ⟨s0.σ.set b (.arr wm esz (rows++new)),m7 s0.g wm r (rows.length*esz) ((rows.length+new.length)*esz),w'⟩:=by
 have A:(s0.σ.set b (.arr wm esz (rows++new)))[b]?=some (.arr wm esz (rows++new)):=jM hb;have T:(rows.length+new.length)*esz=rows.length*esz+new.length*esz:=zQ8 _ _ _;generalize I:(⟨s0.σ.set b (.arr wm esz (rows++new)),m7 s0.g wm r (rows.length*esz) ((rows.length+new.length)*esz),w'⟩:Sn)=s;have H:s.σ=s0.σ.set b (.arr wm esz (rows++new)):=by rw[<-I]
 have U:s.g.μ=s0.g.μ:=by rw[<-I];rfl
 have B: ∀r' o,s.g.C r' o↔s0.g.C r' o\/(wm=false/\r'=r/\rows.length*esz<=o/\o<(rows.length+new.length)*esz):=by rw[<-I];exact λ_ _=>Iff.rfl
 have M:s.w=w':=by rw[<-I]
 have wr: ∀n r' o,Wr1 s n r' o->Wr1 s0 n r' o:=by
  intro n r' o h;by_cases e:n=b;subst e;unfold Wr1 at h⊢;rw[H,A]at h;rw[hb];cases wm<;>grind
  grind [Wr1]
 have y: ∀o,rows.length*esz<=o->Wr1 s0 b r o:=by intro o ho;unfold Wr1;rw[hb];cases wm<;>simp_all
 have t:bC s0 s:=(by refine⟨?_,λr o h=>(B r o).2 (.inl h),λr' o h=>?_,λr o ⟨n,h⟩=>.inl ⟨n,wr n r o h⟩,by rw[H];simp,λn cs h=>?_,λn wm' J rows' h=>?_⟩;rw[M];exact z.keep λk h1 _=>⟨b,y k h1⟩;rcases(B r' o).1 h with h|⟨_,e,h,_⟩;exact .inl h;subst e;exact .inr (.inl ⟨b,y o h⟩);grind;by_cases e:n=b;subst e;rw[hb]at h;injection h with h;injection h with h1 h2 R;subst h1 h2 R;grind;grind);refine⟨nJ hi t (λn=>n=b) (λn D=>⟨by grind,by rw[U]⟩) ?_ ?_ ?_ ?_ ?_ ?_ ?_,t⟩;intro n r' k v D Q S;rw[M];refine z.cell S ?_;by_cases F:r'=r;subst F;rcases zQ3 k (rows.length*esz)with h|h;simp_all;exact(D (hi.apart _ _ _ _ Q (y k h))).elim;simp_all;simp_all;rintro n wm' J rows' rfl h;rw[H,A]at h;cases h;obtain⟨c,e,fz,c',V,p2,p3,p4,p5,p6⟩:=z.there;rcases hi.arr _ _ _ _ hb with⟨m,_⟩|⟨r',c0,e0,Y,m,G,K,hl,O,hf⟩;simp_all;rw[hm]at m;injection m with m;injection m with m _;subst m;rw[V]at G;injection G with G;injection G with q1 q2 q3;subst q1 q2 q3;refine .inr ⟨r,c',e,fz,by simp_all,by simp_all,?_,?_,?_,?_⟩;grind;simp_all;intro i j row x q E;rcases QD q with q|⟨Z,q⟩;obtain⟨⟨v,S,N⟩,hc⟩:=O i j row x q E;have h1:=Jy q;have h2:=Jy E;rw[K row (kI q)]at h2;have:=mB h1 h2;exact⟨⟨v,by simp_all,N.mono hi t⟩,λe=>(B _ _).2 (.inl (hc e))⟩;obtain⟨u,hu,N⟩:=hx _ j row x q E;have h1:=Jy q;have h2:=Jy E;rw[L row (kI q)]at h2;have R:=mB h1 h2;have h4:i*esz+j=rows.length*esz+((i-rows.length)*esz+j):=(by grind [Nat.add_sub_cancel']);refine⟨⟨u,by simp_all,N.mono hi t⟩,λe=>(B _ _).2 (.inr ⟨e,rfl,by omega,by simp_all⟩)⟩;simp_all;rintro b1 b2 r o rfl h1 h2;exact hi.apart _ _ _ _ (wr _ _ _ h1) (wr _ _ _ h2);intro r' o hc;rw[M,z.size];rcases(B r' o).1 hc with hc|⟨_,e,_⟩;exact(hi.const r' o hc).1;subst e;exact vX hi b _ _ (y _ (zQ0 _));rintro r' o n hc rfl h;rcases(B r' o).1 hc with hc|⟨e,F,hlo,P⟩;exact(hi.const r' o hc).2 _ (wr _ _ _ h);subst e F;unfold Wr1 at h;rw[H,A]at h;grind;intro r' o n hc W D h;rcases(B r' o).1 hc with hc|⟨e,F,hlo,P⟩;exact W hc;subst F;exact D (hi.apart _ _ _ o h (y o hlo))
theorem JJg{s0:Sn}(hi:Inv s0){b:Nat}{wm:Bool}{esz:Nat}{rows rows':List (List PV)}{c:Array Value}{e:TypeId}{w':World}
  (hb:s0.σ[b]?=some (.arr wm esz rows)) (P:rows.length<rows'.length) (K: ∀row∈rows',row.length=esz)
  (L:w'.heap=s0.w.heap.push (.cells c e (0,0))) (ho:w'.os=s0.w.os) (hp:w'.output=s0.w.output)
  (I:rows'.length*esz<=c.size)
  (hx: ∀(i j:Nat) row x,rows'[i]?=some row->row[j]?=some x-> ∃u,c[i*esz+j]?=some u/\J08 s0.w s0.g.C x u):
  ∃g',g'.μ b=some (s0.w.heap.size,0)/\Inv ⟨s0.σ.set b (.arr wm esz rows'),g',w'⟩/\bC s0 ⟨s0.σ.set b (.arr wm esz rows'),g',w'⟩:=by
 have y:(s0.σ.set b (.arr wm esz rows'))[b]?=some (.arr wm esz rows'):=jM hb;refine⟨⟨λk=>if k=b then some (s0.w.heap.size,0)else s0.g.μ k,λr o=>s0.g.C r o\/(wm=false/\r=s0.w.heap.size/\o<rows'.length*esz)⟩,if_pos rfl,?_⟩;generalize D:(⟨s0.σ.set b (.arr wm esz rows'),_,w'⟩:Sn)=s;have F:s.σ=s0.σ.set b (.arr wm esz rows'):=by rw[<-D]
 have R: ∀k,s.g.μ k=if k=b then some (s0.w.heap.size,0)else s0.g.μ k:=by grind
 have q: ∀r' o,s.g.C r' o↔s0.g.C r' o\/(wm=false/\r'=s0.w.heap.size/\o<rows'.length*esz):=by rw[<-D];simp_all
 have M:s.w=w':=by rw[<-D]
 have wr: ∀k r' o,k≠b->(Wr1 s k r' o↔Wr1 s0 k r' o):=by simp_all [Wr1,Ne.symm]
 have E: ∀r' o,Wr1 s b r' o->r'=s0.w.heap.size/\(wm=false->rows'.length*esz<=o):=(by grind [Wr1]);have t:bC s0 s:=(by refine⟨?_,λr o h=>(q r o).2 (.inl h),λr' o h=>?_,λr o ⟨k,h⟩=>?_,by rw[F];simp,λk cs h=>?_,λk wm' B rows' h=>?_⟩;grind [RX];grind;by_cases n:k=b;grind;exact .inl ⟨k,(wr k r o n).1 h⟩;grind;by_cases n:k=b;subst n;rw[hb]at h;injection h with h;injection h with h1 h2 G;subst h1 h2 G;exact⟨wm,rows',by simp_all,id,by omega,λh=>by omega⟩;grind);refine⟨nJ hi t (λk=>k=b) (λk H=>⟨by grind,by simp_all⟩) (λb r o v _ _ h=>by grind [fm]) ?_ ?_ ?_ ?_ ?_ ?_,t⟩;simp_all;rintro k wm' B rows' rfl h;rw[F,y]at h;cases h;refine .inr ⟨s0.w.heap.size,c,e,(0,0),by simp_all,by simp_all,?_,by simp_all,?_,vZ.zero _ _⟩;grind;intro i j row x z A;obtain⟨u,O,N⟩:=hx i j row x z A;refine⟨⟨u,O,N.mono hi t⟩,λJ=>(q _ _).2 (.inr ⟨J,rfl,?_⟩)⟩;have h1:=Jy z;have h2:=Jy A;have G:row.length=esz:=(by grind);simp_all [mB];rintro b1 b2 r o rfl h1 h2;by_cases n:b2=b1;exact n.symm;have:=vX hi _ _ _ ((wr b2 r o n).1 h2);grind;intro r' o hc;rw[M,L];rcases(q r' o).1 hc with hc|⟨_,hc,_⟩;have:=(hi.const r' o hc).1;simp;omega;simp;omega;rintro r' o k hc rfl h;have h1:=E _ _ h;rcases(q r' o).1 hc with hc|⟨S,hc,ho⟩;have:=(hi.const r' o hc).1;omega;grind;intro r' o k hc H Q h;rcases(q r' o).1 hc with hc|⟨_,hc,_⟩;exact H hc;have:=vX hi _ _ _ h;omega
theorem JGM{s0:Sn}(hi:Inv s0){b:Nat}{wm:Bool}{esz:Nat}{rows new:List (List PV)}{c:Array Value}{e:TypeId}{w':World}
  (hb:s0.σ[b]?=some (.arr wm esz rows)) (o:new≠[]) (k: ∀row∈rows,row.length=esz) (n: ∀row∈new,row.length=esz)
  (r:w'.heap=s0.w.heap.push (.cells c e (0,0))) (ho:w'.os=s0.w.os) (hp:w'.output=s0.w.output)
  (h:(rows.length+new.length)*esz<=c.size)
  (hx: ∀(i j:Nat) row x,(rows++new)[i]?=some row->row[j]?=some x-> ∃u,c[i*esz+j]?=some u/\J08 s0.w s0.g.C x u):
  ∃g',g'.μ b=some (s0.w.heap.size,0)/\Inv ⟨s0.σ.set b (.arr wm esz (rows++new)),g',w'⟩/\bC s0 ⟨s0.σ.set b (.arr wm esz (rows++new)),g',w'⟩:=
 have q:0<new.length:=List.length_pos_iff.2 o
 JJg hi hb (by simp;omega) (λrow v=>(zQ9.1 v).elim (k row) (n row)) r ho hp (by simpa using h) hx
end Go.Am
end
section
namespace Go.Am
def okP:PV->Value->Bool| .b x,.bool y=>x==y| .i k n,.int k' e=>k==k'&&n==e| .s l,.string g=>l==g.data.toList| .sl _ [],.slice none 0 0=>true| .np,.pointer none=>true| .nf,.nilFunc=>true|_,_=>false
def yS:List PV->List Value->Bool|[],[]=>true|x::xs,v::vs=>okP x v&&yS xs vs|_,_=>false
def okC:AV->Value->Bool| .p c,v=>okP c v| .data cs,.agg vs=>yS cs vs.toList| .fn f [] [],.func (.func g) a c=>f==g&&a.isEmpty&&c.isEmpty| .tup [],.tuple vs=>vs.isEmpty|_,_=>false
def bO:Opd->Operand->Bool| .t n,.tmp m=>n==m| .c x,.const v=>okC x v| .c (.fn f [] []),.func g=>f==g|_,_=>false
def jX:List Opd->List Operand->Bool|[],[]=>true|x::xs,y::e=>bO x y&&jX xs e|_,_=>false
def wA:Option Opd->Option Operand->Bool|none,none=>true|some x,some y=>bO x y|_,_=>false
section
variable (P:Program)
def szT(t:TypeId):Option Nat:=(P.info? t).map (·.size)
def byT(t:TypeId):Option Nat:=(P.info? t).map (·.bytes)
def zeT(t:TypeId):Option Value:=(P.info? t).bind (·.zero)
def yI:TypeDesc->Bool| .struct _| .array _ _=>true|_=>false
def agT(t:TypeId):Option Bool:=(P.underlying t).map yI
def elT(t:TypeId):Option TypeId:=match P.underlying t with|some (.slice e)=>some e|_=>none
def jW(t:TypeId):Bool:=match P.underlying t with|some .string=>true|_=>false
def VL(t:TypeId):Bool:=match P.underlying t with|some (.int .u8)=>true|_=>false
def ZG(t:TypeId):Bool:=match P.underlying t with|some .bool=>true|_=>false
def ms(t:TypeId):Bool:=match P.underlying t with|some (.int _)=>true|_=>false
def YW(k:IntKind)(t:TypeId):Bool:=match P.underlying t with|some (.int k')=>k==k'|_=>false
def arT(t:TypeId):Option (Nat×TypeId):=match P.underlying t with|some (.array n e)=>some (n,e)|_=>none
def flT(t:TypeId):Option (Array Field):=match P.underlying t with|some (.struct fs)=>some fs|_=>none
def MA(K:TypeId->Option (List KD)):Nat->List Field->Option (List KD)
 |_,[]=>some []
 |off,f::fs=>
  if f.name= "_" ∨f.offset≠off then none
  else match K f.type with
   |none=>none
   |some ks=>if szT P f.type=some ks.length/\0<ks.length then
    match MA K (off+ks.length) fs with
    |some l=>some (ks++l)
    |none=>none
    else none
def Jaa:Nat->TypeId->Option (List KD)
 |0,_=>none
 |d+1,t=>match P.underlying t with
  |some .bool=>some [.b]
  |some (.int k)=>some [.i k]
  |some .string=>some [.s]
  |some (.struct fs)=>if P.stoodInHeld t then none else MA P (Jaa d) 0 fs.toList
  |some (.array n e)=>match Jaa d e with|some ks=>if szT P e=some ks.length/\0<ks.length then some (List.replicate n ks).flatten else none|none=>none
  |_=>none
def Cd(t:TypeId):Operand->Bool| .const (.slice none 0 0)=>(elT P t).isSome|_=>false
def Dc(t:TypeId):Operand->Bool
 | .const (.pointer none)=>(match P.underlying t with|some (.pointer _)=>true|_=>false)
 |_=>false
def B4(t:TypeId):Operand->Bool
 | .const .nilFunc=>(match P.underlying t with|some (.func _ _ _)=>true|_=>false)
 |_=>false
def mY(zero:List PV)(t:TypeId):Bool:=match zeT P t with|some v=>yS zero v.cells.toList|none=>false
def OG(t:TypeId)(os:List (Nat×Nat)):Bool:=match zeT P t with
 |some v=>os.all λx=>match v.cells[x.1]? with|some (.slice none 0 0)=>true|_=>false
 |none=>false
def rF(place:Nat->Option (Nat×Nat)):List (Nat×Nat×Opd)->List (Nat×Operand)->Bool|[],[]=>true|(off,size,x)::r,(i,y)::q=>place i==some (off,size)&&bO x y&&rF place r q|_,_=>false
def FF(fs:Array Field)(i:Nat):Option (Nat×Nat):=match fs[i]? with|some f=>(szT P f.type).map λn=>(f.offset,n)|none=>none
def KS:List (Nat×Opd)->List (Nat×Operand)->Bool|[],[]=>true|(i,x)::r,(j,y)::q=>i==j&&bO x y&&KS r q|_,_=>false
def bA(D:AOp)(op:Op):Bool:=
 match D with
 | .mv x=>match op with| .move y| .assign y=>bO x y|_=>false
 | .mkarr _ x=>match op with
  | .move (.const (.slice none 0 0))| .assign (.const (.slice none 0 0))=>(match x with| .c _=>true|_=>false)
  |_=>false
 | .pick c a b=>match op with| .pick c' E C=>bO c c'&&bO a E&&bO b C|_=>false
 | .newbox zero=>match op with| .alloc t=>mY P zero t|_=>false
 | .box _ x=>match op with| .box _ y=>bO x y|_=>false
 | .build zero parts=>match op with
  | .build t ps=>mY P zero t&&(match P.underlying t with
   |some (.struct fs)=>(fs.all λf=>(szT P f.type).isSome)&&rF (FF P fs) parts ps.toList
   |some (.array _ e)=>(match szT P e with
    |some n=>rF (λi=>some (i*n,n)) parts ps.toList
    |none=>false)
   |_=>false)
  |_=>false
 | .lits _ esz n zero parts=>match op with
  | .buildSlice t len ps=>len==n&&(match elT P t with
   |some e=>szT P e==some esz&&decide (n*esz<=16777216)&&mY P zero e&&zero.length==esz&&decide (0<esz)&&KS parts ps.toList
   |none=>false)
  |_=>false
 | .load agg size x=>match op with| .load t y=>agT P t==some agg&&szT P t==some size&&bO x y&&(agg||size==1)|_=>false
 | .store size x v=>match op with| .store t y u=>szT P t==some size&&bO x y&&bO v u|_=>false
 | .nilchk x=>match op with| .nilCheck y=>bO x y|_=>false
 | .bin G bt x y=>match op with
  | .binOp w t o h _=>G==w&&bO x o&&(match bt with
   | .plain=>bO y h
   | .bool=>bO y h&&ZG P t
   | .flat ks=>bO y h&&Jaa P 100 t==some ks&&agT P t==some true&& !P.eqGuardType P.depth t
   | .nils=>Cd P t h
   | .nilp=>Dc P t h
   | .nilf=>B4 P t h)
  |_=>false
 | .un F x=>match op with| .unOp z _ y=>F==z&&bO x y|_=>false
 | .conv k x=>match op with
  | .convert q dst y=>bO x y&&(match k with
   | .int k=>ms P q&&YW P k dst
   | .same=>jW P q&&jW P dst
   | .toStr=>(match elT P q with|some e=>VL P e&&szT P e==some 1|none=>false)&&jW P dst
   | .toBytes _=>jW P q&&(match elT P dst with|some e=>VL P e&&szT P e==some 1|none=>false))
  |_=>false
 | .mkslice _ esz bytes zero l c=>match op with
  | .makeSlice t l' c'=>bO l l'&&bO c c'&&(match elT P t with
   |some e=>szT P e==some esz&&byT P e==some bytes&&mY P zero e&&zero.length==esz&&decide (0<esz)&&decide (0<bytes)
   |none=>false)
  |_=>false
 | .slice k x lo hi mx=>match op with
  | .slice t o A r B=>bO x o&&wA lo A&&wA hi r&&wA mx B&&(match k with
   | .str=>jW P t
   | .sl esz=>(match elT P t with|some e=>szT P e==some esz|none=>false))
  |_=>false
 | .faddr off x=>match op with
  | .fieldAddr t y f=>bO x y&&(match flT P t with
   |some fs=>(match fs[f]? with
    |some f=>f.offset==off&&(match szT P f.type with|some n=>n !=0|none=>false)
    |none=>false)
   |none=>false)
  |_=>false
 | .field agg off size x=>match op with
  | .field t y f=>bO x y&&(match flT P t with
   |some fs=>(match fs[f]? with
    |some f=>f.offset==off&&szT P f.type==some size&&agT P f.type==some agg&&(agg||size==1)
    |none=>false)
   |none=>false)
  |_=>false
 | .iaddr esz x i=>match op with
  | .indexAddr t y j=>bO x y&&bO i j&&(match elT P t with|some e=>szT P e==some esz|none=>false)
  |_=>false
 | .aaddr len esz x i=>match op with
  | .indexAddr t y j=>bO x y&&bO i j&&(match arT P t with|some (n,e)=>n==len&&szT P e==some esz|none=>false)
  |_=>false
 | .sidx x i=>match op with| .index t y j=>bO x y&&bO i j&&jW P t|_=>false
 | .aidx agg len esz x i=>match op with
  | .index t y j=>bO x y&&bO i j&&(match arT P t with|some (n,e)=>n==len&&szT P e==some esz&&agT P e==some agg&&(agg||esz==1)|none=>false)
  |_=>false
 | .extr x i=>match op with| .extract y j=>bO x y&&i==j|_=>false
 | .call f args _=>match op with
  | .call c=>(match c.callee with
   | .value (.func g)=>f==g&&jX args c.args.toList
   |_=>false)
  |_=>false
 | .callv x args _=>match op with
  | .call c=>(match c.callee with
   | .value y=>bO x y&&jX args c.args.toList
   |_=>false)
  |_=>false
 | .len str x=>match op with
  | .call c=>(match c.callee with
   | .builtin .len=>(match c.args.toList,c.argTypes.toList with
    |[y],[t]=>bO x y&&(if str then jW P t else(elT P t).isSome)
    |_,_=>false)
   |_=>false)
  |_=>false
 | .appn esz bytes zero y=>match op with
  | .call c=>(match c.callee with
   | .builtin .append=>(match c.args.toList,c.argTypes.toList with
    |[.const (.slice none 0 0),h],[t,u]=>bO y h&&((elT P u).isSome||jW P u)&&(match elT P t with
     |some e=>szT P e==some esz&&byT P e==some bytes&&mY P zero e&&zero.length==esz&&decide (0<esz)&&decide (0<bytes)
     |none=>false)
    |_,_=>false)
   |_=>false)
  |_=>false
 | .app esz bytes zero x y=>match op with
  | .call c=>(match c.callee with
   | .builtin .append=>(match c.args.toList,c.argTypes.toList with
    |[o,h],[t,u]=>bO x o&&bO y h&&((elT P u).isSome||jW P u)&&(match elT P t with
     |some e=>szT P e==some esz&&byT P e==some bytes&&mY P zero e&&zero.length==esz&&decide (0<esz)&&decide (0<bytes)
     |none=>false)
    |_,_=>false)
   |_=>false)
  |_=>false
 | .mm mx x y=>match op with
  | .call c=>(match c.callee with
   | .builtin b=>b==(if mx then .max else .min)&&(match c.args.toList with
    |[o,h]=>bO x o&&bO y h
    |_=>false)
   |_=>false)
  |_=>false
 | .newboxo zero os=>match op with| .alloc t=>mY P zero t&&OG P t os|_=>false
 | .buildo zero parts os=>match op with
  | .build t ps=>mY P zero t&&OG P t os&&(match P.underlying t with
   |some (.struct fs)=>(fs.all λf=>(szT P f.type).isSome)&&rF (FF P fs) parts ps.toList
   |_=>false)
  |_=>false
 | .storen _ x=>match op with| .store t y (.const (.slice none 0 0))=>szT P t==some 1&&bO x y|_=>false
 | .callo f _ args _=>match op with
  | .call c=>(match c.callee with
   | .value (.func g)=>f==g&&jX args c.args.toList
   |_=>false)
  |_=>false
end
end Go.Am
end
section
namespace Go.Am
def get(s:St):Loc->Option (AV⊕Blk)| .slot n=>(lk n s.env).map .inl| .blk b=>(s.sto[b]?).map .inr
theorem JET{α:Type}(m:RM α)(s s':St)(h: ∀l∈m.reads s,get s' l=get s l):m.run s'=m.run s:=by
 induction m with
 |ret a=>rfl
 |slot n k ih=>
  have e:=h (.slot n) (by simp[RM.reads]);grind [get,RM.run,RM.reads]
 |blk b k ih=>
  have e:=h (.blk b) (by simp[RM.reads]);grind [get,RM.run,RM.reads]
 |fail=>rfl
theorem xF{b:Nat}: ∀{ws:List (Nat×Blk)},b∉ws.map (·.1)->iY b ws=none
 |[],_=>rfl
 |(c,x)::r,h=>by
  simp at h;simp only[iY];rw[xF (by simpa using h.2)];grind
theorem tj{b:Nat}: ∀{ws:List (Nat×Blk)},b∈ws.map (·.1)-> ∃y,iY b ws=some y
 |[],h=>by simp at h
 |(c,x)::r,h=>by
  simp only[iY];by_cases e:b∈r.map (·.1);obtain⟨y,g⟩:=tj e;simp_all;simp_all [xF]
theorem zU: ∀(ws:List (Nat×Blk)) (σ:List Blk),(upd ws σ).length=σ.length|[],_=>rfl|y::ws,σ=>by show(upd ws (σ.set y.1 y.2)).length=_;rw[zU ws];simp
theorem wW: ∀(ws:List (Nat×Blk)) (σ:List Blk) (b:Nat),b<σ.length->(upd ws σ)[b]?=match iY b ws with
  |some y=>some y
  |none=>σ[b]?
 |[],σ,b,_=>rfl
 |(c,x)::ws,σ,b,h=>by
  show(upd ws (σ.set c x))[b]?=_;rw[wW ws (σ.set c x) b (by simpa using h)];grind [iY]
structure Run(F:Orc)(ins:List bQ)(new:Nat->Nat)(S:Nat->St)(eff:Nat->Eff):Prop where
 step: ∀k i,ins[k]?=some i->(bT F i (new k)).run (S k)=some (eff k)/\S (k+1)=put i.dst (eff k) (S k)
structure OE(F:Orc)(ins:List bQ)(new:Nat->Nat)(S:Nat->St)(eff:Nat->Eff)(i j:Nat):Prop where
 slotW: ∀x y m,ins[i]?=some x->ins[j]?=some y->x.dst=some m->y.dst≠some m/\Loc.slot m∉(bT F y (new j)).reads (S j)
 slotR: ∀x y m,ins[i]?=some x->ins[j]?=some y->y.dst=some m->Loc.slot m∉(bT F x (new i)).reads (S i)
 blkW: ∀y b,ins[j]?=some y->b∈(eff i).ws.map (·.1)->b∉(eff j).ws.map (·.1)/\Loc.blk b∉(bT F y (new j)).reads (S j)
 blkR: ∀x b,ins[i]?=some x->b∈(eff j).ws.map (·.1)->Loc.blk b∉(bT F x (new i)).reads (S i)
section
variable {F:Orc} {ins:List bQ} {new:Nat->Nat} {S:Nat->St} {eff:Nat->Eff}
def vY(ins:List bQ)(k:Nat):Option Nat:=(ins[k]?).bind (·.dst)
def oP(ins:List bQ)(eff:Nat->Eff)(s0:St)(D:Nat->Bool):Nat->Nat->Option AV|0,m=>lk m s0.env|k+1,m=>if D k=true/\vY ins k=some m then some (eff k).val else oP ins eff s0 D k m
def mX(eff:Nat->Eff)(s0:St)(D:Nat->Bool):Nat->Nat->Option Blk
 |0,b=>s0.sto[b]?
 |k+1,b=>if D k=true then(match iY b (eff k).ws with
  |some y=>some y
  |none=>mX eff s0 D k b)else mX eff s0 D k b
structure Agree(ins:List bQ)(eff:Nat->Eff)(s0:St)(D:Nat->Bool)(s:St):Prop where
 slot: ∀m,lk m s.env=oP ins eff s0 D ins.length m
 len:s.sto.length=s0.sto.length
 blk: ∀b,b<s0.sto.length->s.sto[b]?=mX eff s0 D ins.length b
theorem QG(hr:Run F ins new S eff): ∀k,k<=ins.length->(S k).sto.length=(S 0).sto.length
 |0,_=>rfl
 |k+1,h=>by
  have e:ins[k]?=some ins[k]:=JX (by omega);obtain⟨_,h2⟩:=hr.step k _ e;rw[h2,<-QG hr k (by omega)];unfold put;grind [zU]
theorem fh(hr:Run F ins new S eff)(D:Nat->Bool): ∀k,k<=ins.length->(∀j,j<k->D j=true)-> ∀m,oP ins eff (S 0) D k m=lk m (S k).env
 |0,_,_,m=>rfl
 |k+1,h,hD,m=>by
  have e:ins[k]?=some ins[k]:=JX (by omega);obtain⟨_,h2⟩:=hr.step k _ e;simp only[oP];rw[fh hr D k (by omega) (λj g=>hD j (by omega)) m,h2];have hd:vY ins k=ins[k].dst:=by grind [vY]
  rw[hd];unfold put;grind [lk]
theorem dd(hr:Run F ins new S eff)(D:Nat->Bool): ∀k,k<=ins.length->(∀j,j<k->D j=true)-> ∀b,b<(S 0).sto.length->mX eff (S 0) D k b=(S k).sto[b]?
 |0,_,_,b,_=>rfl
 |k+1,h,hD,b,hb=>by
  have e:ins[k]?=some ins[k]:=JX (by omega);obtain⟨_,h2⟩:=hr.step k _ e;simp only[mX];rw[dd hr D k (by omega) (λj g=>hD j (by omega)) b hb,h2,if_pos (hD k (by omega))];have:(put ins[k].dst (eff k) (S k)).sto=upd (eff k).ws (S k).sto:=by unfold put;split<;>rfl
  rw[this,wW _ _ _ (by rw[QG hr k (by omega)];exact hb)]
theorem gb{s0:St}{D D':Nat->Bool}{m:Nat}: ∀n,(∀j,j<n->vY ins j=some m->D j=D' j)->oP ins eff s0 D n m=oP ins eff s0 D' n m
 |0,_=>rfl
 |n+1,h=>by
  simp only[oP];rw[gb n λj e=>h j (by omega)];grind
theorem fl{s0:St}{D D':Nat->Bool}{b:Nat}: ∀n,(∀j,j<n->b∈(eff j).ws.map (·.1)->D j=D' j)->mX eff s0 D n b=mX eff s0 D' n b
 |0,_=>rfl
 |n+1,h=>by
  simp only[mX];rw[fl n λj e=>h j (by omega)];grind [xF]
theorem RL{s0:St}{D:Nat->Bool}{m k:Nat}: ∀n,k<=n->(∀j,k<=j->j<n->vY ins j=some m->D j=false)->oP ins eff s0 D n m=oP ins eff s0 D k m
 |0,h,_=>by simp_all
 |n+1,h,hD=>by
  by_cases e:k=n+1;subst e;rfl;simp only[oP];rw[RL n (by omega) λj h1 h2=>hD j h1 (by omega)];grind
theorem QS{s0:St}{D:Nat->Bool}{b k:Nat}: ∀n,k<=n->(∀j,k<=j->j<n->b∈(eff j).ws.map (·.1)->D j=false)->mX eff s0 D n b=mX eff s0 D k b
 |0,h,_=>by simp_all
 |n+1,h,hD=>by
  by_cases e:k=n+1;subst e;rfl;simp only[mX];rw[QS n (by omega) λj h1 h2=>hD j h1 (by omega)];grind [xF]
theorem JHg(hr:Run F ins new S eff){D:Nat->Bool}{s:St}(ha:Agree ins eff (S 0) D s){k:Nat}{i:bQ}(hk:ins[k]?=some i)(H:D k=false)
  (q: ∀j,j<k->D j=false->OE F ins new S eff j k) (h: ∀j,k<j->j<ins.length->D j=true->OE F ins new S eff k j):
  (bT F i (new k)).run s=some (eff k)/\Agree ins eff (S 0) (λj=>if j=k then true else D j) (put i.dst (eff k) s):=by
 have C:k<ins.length:=(by grind);have g: ∀j,j<ins.length->ins[j]?=some ins[j]! :=λj o=>by simp[o]
 have x: ∀j,j<ins.length->vY ins j=ins[j]!.dst:=λj o=>by grind [vY]
 obtain⟨h1,h2⟩:=hr.step k i hk;have G:vY ins k=i.dst:=by simp_all
 let T:Nat->Bool:=λ_=>true
 have reads: ∀l∈(bT F i (new k)).reads (S k),get s l=get (S k) l:=by
  intro l A;cases l with
  |slot m=>
   simp only[get];rw[ha.slot m]
   congr 1
   rw[RL ins.length (k:=k) (by omega) λj r e hd=>?_];rw[gb (D':=T) k λj o hd=>?_,fh hr T k (by omega) (λ_ _=>rfl) m];cases hDj:D j with
   |true=>rfl
   |false=>have:=(q j o hDj).slotW _ i m (g j (by omega)) hk (by grind);simp_all
   by_cases n:j=k;simp_all;cases hDj:D j with
   |false=>rfl
   |true=>have:=(h j (by omega) e hDj).slotR i _ m hk (g j e) (by simp_all);simp_all
  |blk b=>
   simp only[get];by_cases v:b<(S 0).sto.length;rw[ha.blk b v]
   congr 1
   rw[QS ins.length (k:=k) (by omega) λj r e hd=>?_];rw[fl (D':=T) k λj o hd=>?_,dd hr T k (by omega) (λ_ _=>rfl) b v];cases hDj:D j with
   |true=>rfl
   |false=>exact absurd A ((q j o hDj).blkW i b hk hd).2
   by_cases n:j=k;simp_all;cases hDj:D j with
   |false=>rfl
   |true=>exact absurd A ((h j (by omega) e hDj).blkR i b hk hd)
   rw[oI (by have:=ha.len;omega),oI (by have:=QG hr k (by omega);omega)]
 refine⟨by grind [JET],?_,?_,?_⟩;intro m;have w:lk m (put i.dst (eff k) s).env=if i.dst=some m then some (eff k).val else lk m s.env:=(by unfold put;grind [lk])
 rw[w,ha.slot m];by_cases B:i.dst=some m;rw[if_pos B];rw[RL ins.length (k:=k+1) (by omega) λj r e hd=>?_];grind [oP];have n:j≠k:=by omega
 simp only[if_neg n];cases hDj:D j with
 |false=>rfl
 |true=>have:=(h j (by omega) e hDj).slotW i _ m hk (g j e) B;simp_all
 grind [gb];have:(put i.dst (eff k) s).sto=upd (eff k).ws s.sto:=by unfold put;split<;>rfl
 rw[this,zU,ha.len];intro b v;have:(put i.dst (eff k) s).sto=upd (eff k).ws s.sto:=by unfold put;split<;>rfl
 rw[this,wW _ _ _ (by rw[ha.len];exact v),ha.blk b v];by_cases z:b∈(eff k).ws.map (·.1);obtain⟨y,E⟩:=tj z;simp only[E];rw[QS (D:=λj=>if j=k then true else D j) ins.length (k:=k+1) (by omega) λj r e hd=>?_];grind [mX];have n:j≠k:=by omega
 simp only[if_neg n];cases hDj:D j with
 |false=>rfl
 |true=>exact absurd hd ((h j (by omega) e hDj).blkW _ b (g j e) z).1
 grind [xF,fl]
theorem Ko:Agree ins eff (S 0) (λ_=>false) (S 0):=by
 refine⟨λm=>?_,rfl,λb _=>?_⟩;rw[RL ins.length (k:=0) (zQ2 _) λ_ _ _ _=>rfl];rfl;rw[QS ins.length (k:=0) (zQ2 _) λ_ _ _ _=>rfl];rfl
theorem JEi(hr:Run F ins new S eff){D:Nat->Bool}{s:St}(ha:Agree ins eff (S 0) D s)(hD: ∀j,j<ins.length->D j=true):
  (∀m,lk m s.env=lk m (S ins.length).env)/\s.sto=(S ins.length).sto:=by
 refine⟨λm=>by rw[ha.slot m,fh hr D _ (zQ0 _) hD m],zQ6 λb=>?_⟩;by_cases e:b<(S 0).sto.length;rw[ha.blk b e,dd hr D _ (zQ0 _) hD b e];rw[oI (by have:=ha.len;omega),oI (by have:=QG hr _ (zQ0 _);omega)]
end
end Go.Am
end
section
namespace Go.Am
def oSl:Opd->List Nat| .t n=>[n]| .c _=>[]
def iV:List Opd->List Nat|[]=>[]|x::r=>oSl x++iV r
def VU:Option Opd->List Nat|none=>[]|some x=>oSl x
def dV:AOp->List Nat| .mv x| .box _ x| .appn _ _ _ x| .load _ _ x| .nilchk x| .un _ x| .conv _ x| .faddr _ x| .field _ _ _ x| .extr x _| .len _ x=>oSl x| .mkarr _ _| .newbox _=>[]| .pick c a b=>oSl c++(oSl a++oSl b)| .build _ parts=>iV (parts.map (·.2.2))| .lits _ _ _ _ parts=>iV (parts.map (·.2))| .store _ x v=>oSl x++oSl v| .bin _ _ x y| .iaddr _ x y| .aaddr _ _ x y| .sidx x y| .aidx _ _ _ x y| .app _ _ _ x y| .mm _ x y| .mkslice _ _ _ _ x y=>oSl x++oSl y| .slice _ x lo hi mx=>oSl x++(VU lo++(VU hi++VU mx))| .call _ args _=>iV args| .callv g args _=>oSl g++iV args| .newboxo _ _=>[]| .buildo _ parts _=>iV (parts.map (·.2.2))| .storen _ x=>oSl x| .callo _ _ args _=>iV args
def wZ(i:bQ):List Nat:=dV i.op++match i.g with|some (g,_)=>[g]|none=>[]
def yN:AOp->Bool| .mkarr _ _| .newbox _| .box _ _| .lits _ _ _ _ _| .store _ _ _| .conv (.toBytes _) _| .mkslice _ _ _ _ _ _| .slice (.sl _) _ _ _ _| .call _ _ _| .callv _ _ _| .app _ _ _ _ _| .appn _ _ _ _| .newboxo _ _| .buildo _ _ _| .storen _ _| .callo _ _ _ _=>true|_=>false
def HY:AOp->Bool| .load _ _ _| .iaddr _ _ _| .conv .toStr _=>true|op=>yN op
def Sl{α:Type}(L:List Nat)(m:RM α):Prop:= ∀s n,Loc.slot n∈m.reads s->n∈L
section
variable {α β:Type} {L:List Nat}
theorem bI(a:α):Sl L (.ret a):=λs n h=>by grind [RM.reads]
theorem cJ:Sl L (.fail:RM α):=λs n h=>by grind [RM.reads]
theorem qX{b:Nat}{k:Blk->RM α}(h: ∀v,Sl L (k v)):Sl L (.blk b k):=λs n e=>by
 simp only[RM.reads,cL]at e;rcases e with e|e;cases e;split at e;exact h _ s n e;simp at e
theorem Fg{m:Nat}{k:AV->RM α}(hm:m∈L)(h: ∀v,Sl L (k v)):Sl L (.slot m k):=λs n e=>by
 simp only[RM.reads,cL]at e;rcases e with e|e;simp_all;split at e;exact h _ s n e;simp at e
theorem Jz{m:RM α}{f:α->RM β}(h:Sl L m)(hf: ∀a,Sl L (f a)):Sl L (m.bind f):=λs n e=>by
 rw[xG,zQ9]at e;rcases e with e|e;exact h s n e;cases hr:m.run s with
 |none=>simp[hr]at e
 |some a=>simp[hr]at e;exact hf a s n e
theorem JJl{L':List Nat}{m:RM α}(h:Sl L m)(hl: ∀x∈L,x∈L'):Sl L' m:=λs n e=>hl n (h s n e)
theorem XQ{c:Prop} [Decidable c]{x y:RM α}(hx:Sl L x)(hy:Sl L y):Sl L (if c then x else y):=by grind
end
theorem cI{L:List Nat}(x:Opd)(h: ∀n∈oSl x,n∈L):Sl L (ev x):=by
 cases x with
 |t n=>exact Fg (h n (by simp[oSl])) λv=>bI v
 |c v=>exact bI v
theorem PO{L:List Nat}: ∀(xs:List Opd),(∀n∈iV xs,n∈L)->Sl L (evs xs)|[],_=>bI _|x::xs,h=>Jz (cI x λn e=>h n (by simp[iV,e])) λv=>Jz (PO xs λn e=>h n (by simp[iV,e])) λvs=>bI _
theorem YI{L:List Nat}(x:Option Opd)(h: ∀n∈VU x,n∈L):Sl L (evo x):=by
 cases x with
 |none=>exact bI _
 |some x=>exact Jz (cI x h) λv=>bI _
theorem nK{L:List Nat}(x:Option AV):Sl L (val x):=by cases x<;>first|exact cJ|exact bI _
theorem JKS{L:List Nat}(x:AV):Sl L (fz.fz1 x):=by
 cases x<;>try exact cJ
 exact bI _;refine qX λv=>?_;grind [cJ,bI]
theorem Eu{L:List Nat}: ∀(xs:List AV),Sl L (fz.fzL xs)|[]=>bI _|x::xs=>Jz (JKS x) λ_=>Jz (Eu xs) λ_=>bI _
theorem IZ{L:List Nat}(x:AV):Sl L (fz x):=by
 cases x<;>try first|exact cJ|exact bI _
 exact Eu _;refine qX λv=>?_;grind [cJ,bI]
theorem Ee{L:List Nat}: ∀(xs:List Opd),(∀n∈iV xs,n∈L)->Sl L (fzs xs)|[],_=>bI _|x::xs,h=>Jz (cI x λn e=>h n (by simp[iV,e])) λv=>Jz (IZ v) λ_=>Jz (Ee xs λn e=>h n (by simp[iV,e])) λ_=>bI _
theorem fp{L:List Nat}(esz:Nat)(x:AV):Sl L (fK esz x):=by
 unfold fK;grind [bI,cJ,qX]
theorem JFN{L:List Nat}(agg:Bool)(size:Nat)(x:AV):Sl L (gE agg size x):=by
 unfold gE;split
 all_goals grind [nK,cJ,qX]
theorem rz{L:List Nat}(size:Nat)(x v:AV):Sl L (hQ size x v):=by
 unfold hQ;split;grind [qX,cJ,bI];refine qX λv=>?_;grind [cJ,Jz,IZ,bI];simp[cJ]
theorem JEb{L:List Nat}(esz:Nat)(x i:AV):Sl L (lZ esz x i):=by
 unfold lZ;grind [cJ,bI,qX]
theorem JJq{L:List Nat}(esz bytes:Nat)(x y:AV):Sl L (iR esz bytes x y):=by
 unfold iR;grind [qX,cJ,Jz,fp,bI]
theorem QC{L:List Nat}(ws:List (Nat×Blk))(b:Nat):Sl L (qD ws b):=
 qX λv=>by grind [bI]
theorem FL{L:List Nat}(ws:List (Nat×Blk)): ∀(es acc:List Ent),Sl L (dW ws es acc)
 |[],acc=>bI _
 | .whole b::r,acc=>Jz (QC ws b) λv=>by cases v<;>exact FL ws r _
 | .elem b e i::r,acc=>FL ws r acc
theorem ZF{L:List Nat}(x:AV):Sl L (iX x):=by
 cases x<;>try first|exact cJ|exact bI _
 exact Jz (IZ _) λ_=>bI _;refine Jz (IZ _) λa=>?_;grind [bI,cJ]
theorem qg{L:List Nat}: ∀(xs:List AV),Sl L (jY xs)|[]=>bI _|x::xs=>Jz (ZF x) λ_=>Jz (qg xs) λ_=>bI _
theorem JHv{L:List Nat}(ws:List (Nat×Blk))(ρ:Ent->Option Nat)(e:Ent):Sl L (yW ws ρ e):=by
 cases e with
 |whole b=>
  refine Jz (QC ws b) λv=>?_;grind [cJ,bI]
 |elem b e i=>
  refine Jz (QC ws b) λv=>?_;grind [cJ,bI]
theorem fi{L:List Nat}(ws:List (Nat×Blk))(ρ:Ent->Option Nat): ∀(es:List Ent),Sl L (kF ws ρ es)|[]=>bI _|e::r=>Jz (JHv ws ρ e) λ_=>Jz (fi ws ρ r) λ_=>bI _
theorem JEd{L:List Nat}(ws:List (Nat×Blk))(es:List Ent)(new:Nat)(e:Ent)(x:Blk):Sl L (tQ ws es new e x):=by
 unfold tQ;grind [bI,cJ,Jz,QC]
theorem fy{L:List Nat}(ws:List (Nat×Blk))(es:List Ent)(new:Nat): ∀(e:List Ent) (x:List Blk),Sl L (iH ws es new e x)|[],_=>bI _|_::_,[]=>cJ|e::r,x::l=>Jz (JEd ws es new e x) λ_=>Jz (fy ws es new r l) λ_=>bI _
theorem o5{L:List Nat}(F:Orc)(f:FuncId)(args:List AV)(k new:Nat):Sl L (hO F f args k new):=by
 unfold hO;refine Jz (qg _) λa=>Jz (FL _ _ _) λe=>Jz (FL _ _ _) λes=>XQ ?_ cJ;split
 all_goals grind [cJ,Jz,fi,fy,bI]
theorem JEg{L:List Nat}(F:Orc)(f:FuncId)(a:List AV×List (Nat×Blk))(k new:Nat):Sl L (fJ F f a k new):=by
 unfold fJ;refine Jz (FL _ _ _) λe=>Jz (FL _ _ _) λes=>XQ ?_ cJ;split
 all_goals grind [cJ,Jz,fi,fy,bI]
theorem RC{L:List Nat}: ∀(m:List Bool) (xs:List AV),Sl L (eW m xs)
 |_,[]=>by cases ‹List Bool›<;>exact bI _
 |[],x::xs=>Jz (ZF x) λ_=>Jz (RC [] xs) λ_=>bI _
 |true::m,x::xs=>Jz (RC m xs) λ_=>bI _
 |false::m,x::xs=>Jz (ZF x) λ_=>Jz (RC m xs) λ_=>bI _
theorem e8{L:List Nat}: ∀(xs:List (Nat×Nat×Opd)),(∀n∈iV (xs.map (·.2.2)),n∈L)->Sl L (kD xs)
 |[],_=>bI _
 |(a,b,x)::xs,h=>by
  unfold kD;refine Jz (cI x λn e=>h n (by simp[iV,e])) λv=>?_;split;exact Jz (e8 xs λn e=>h n (by simp[iV,e])) λ_=>bI _;simp[cJ]
theorem JKZ(F:Orc)(op:AOp)(new:Nat):Sl (dV op) (opR F op new):=by
 cases op with
 |mv x=>exact Jz (cI x λn h=>h) λv=>bI _
 |mkarr=>exact bI _
 |appn esz bytes zero y=>exact Jz (cI y λn h=>h) λv=>Jz (fp _ _) λ_=>XQ (bI _) cJ
 |pick c a b=>
  refine Jz (cI c λn h=>by grind [dV]) λv=>?_;grind [Jz,cI,dV,bI,cJ]
 |newbox=>exact bI _
 |box size x=>
  refine Jz (cI x λn h=>h) λv=>?_;grind [bI,cJ]
 |build zero parts=>
  refine Jz (e8 parts λn h=>h) λv=>?_;grind [nK,cJ]
 |lits own esz n zero parts=>
  refine Jz (Ee _ λn h=>h) λv=>?_;grind [bI,cJ]
 |load agg size x=>exact Jz (cI x λn h=>h) λv=>JFN _ _ _
 |store size x y=>exact Jz (cI x λn h=>by grind [dV]) λv=>Jz (cI y λn h=>by grind [dV]) λ_=>rz _ _ _
 |nilchk x=>
  refine Jz (cI x λn h=>h) λv=>?_;grind [bI,cJ]
 |bin op t x y=>exact Jz (cI x λn h=>by grind [dV]) λv=>Jz (cI y λn h=>by grind [dV]) λ_=>nK _
 |un op x=>exact Jz (cI x λn h=>h) λv=>nK _
 |conv k x=>
  refine Jz (cI x λn h=>h) λv=>?_;grind [bI,Jz,fp,cJ]
 |mkslice own esz bytes zero x y=>
  refine Jz (cI x λn h=>by grind [dV]) λv=>Jz (cI y λn h=>by grind [dV]) λu=>?_;grind [bI,cJ]
 |slice k x lo hi mx=>
  refine Jz (cI x λn h=>by grind [dV]) λv=>Jz (YI lo λn h=>by grind [dV]) λ_=>Jz (YI hi λn h=>by grind [dV]) λ_=>Jz (YI mx λn h=>by grind [dV]) λ_=>?_;grind [Jz,IZ,bI,cJ,nK]
 |faddr off x=>exact Jz (cI x λn h=>h) λv=>nK _
 |field agg off size x=>exact Jz (cI x λn h=>h) λv=>nK _
 |iaddr esz x y=>exact Jz (cI x λn h=>by grind [dV]) λv=>Jz (cI y λn h=>by grind [dV]) λ_=>JEb _ _ _
 |aaddr len esz x y=>exact Jz (cI x λn h=>by grind [dV]) λv=>Jz (cI y λn h=>by grind [dV]) λ_=>nK _
 |sidx x y=>
  refine Jz (cI x λn h=>by grind [dV]) λv=>Jz (cI y λn h=>by grind [dV]) λu=>?_;grind [cJ,bI]
 |aidx agg len esz x y=>
  refine Jz (cI x λn h=>by grind [dV]) λv=>Jz (cI y λn h=>by grind [dV]) λu=>?_;grind [nK,cJ]
 |extr x i=>exact Jz (cI x λn h=>h) λv=>nK _
 |call f args k=>exact Jz (PO args λn h=>h) λv=>o5 _ _ _ _ _
 |callv g args k=>
  refine Jz (cI g λn h=>by grind [dV]) λv=>?_;grind [cJ,Jz,PO,dV,o5]
 |len str x=>exact Jz (cI x λn h=>h) λv=>nK _
 |app esz bytes zero x y=>exact Jz (cI x λn h=>by grind [dV]) λv=>Jz (cI y λn h=>by grind [dV]) λ_=>JJq _ _ _ _
 |mm mx x y=>exact Jz (cI x λn h=>by grind [dV]) λv=>Jz (cI y λn h=>by grind [dV]) λ_=>nK _
 |newboxo=>exact bI _
 |buildo zero parts os=>
  refine Jz (e8 parts λn h=>h) λv=>?_;grind [bI,cJ]
 |storen esz x=>exact Jz (cI x λn h=>h) λv=>Jz (rz _ _ _) λ_=>bI _
 |callo f keep args k=>exact Jz (PO args λn h=>h) λv=>Jz (RC _ _) λ_=>JEg _ _ _ _ _
theorem qh{L:List Nat}: ∀(k new:Nat),Sl L (tF new k)|0,_=>bI _|k+1,new=>qX λv=>by cases v<;>first|exact qh k _|exact cJ
theorem Gq(F:Orc)(i:bQ)(new:Nat):Sl (wZ i) (bT F i new):=by
 have h:Sl (wZ i) (opD F i.op new):=Jz (qh _ _) λ_=>JJl (JKZ F i.op new) λx e=>by grind [wZ]
 grind [bT,Fg,wZ,bI,cJ]
end Go.Am
end
section
namespace Go.Am
def W0(m:RM Eff):Prop:= ∀s e,m.run s=some e->e.ws=[]
def B0{α:Type}(m:RM α):Prop:= ∀s e,m.run s=some e-> ∀b,Loc.blk b∉m.reads s
theorem nL(x:Option AV):W0 (val x):=λs e h=>by cases x<;>grind [val,RM.run]
theorem tO(v:AV):W0 (.ret ⟨v,[]⟩):=λs e h=>by grind [RM.run]
theorem rC:W0 .fail:=λs e h=>by cases h
theorem dG{α:Type}{m:RM α}{f:α->RM Eff}(h: ∀a,W0 (f a)):W0 (m.bind f):=λs e g=>by
 rw[run_bind]at g;cases hm:m.run s with
 |none=>simp_all
 |some a=>rw[hm]at g;exact h a s e g
theorem Eh{b:Nat}{k:Blk->RM Eff}(h: ∀v,W0 (k v)):W0 (.blk b k):=λs e g=>by
 simp only[RM.run]at g;split at g;exact h _ s e g;cases g
theorem JJ8{g:Nat}{k:AV->RM Eff}(h: ∀v,W0 (k v)):W0 (.slot g k):=λs e j=>by
 simp only[RM.run]at j;split at j;exact h _ s e j;cases j
theorem kS{α:Type}(a:α):B0 (.ret a):=λs e _ b h=>by grind [RM.reads]
theorem tZ{α:Type}:B0 (.fail:RM α):=λs e h=>by cases h
theorem oX(x:Option AV):B0 (val x):=by cases x<;>first|exact tZ|exact kS _
theorem dN{α β:Type}{m:RM α}{f:α->RM β}(hm:B0 m)(h: ∀a,B0 (f a)):B0 (m.bind f):=λs e j b g=>by
 rw[run_bind]at j;rw[xG]at g;cases hr:m.run s with
 |none=>simp_all
 |some a=>
  rw[hr]at j g;rcases zQ9.1 g with g|g;exact hm s a hr b g;exact h a s e j b (by simpa using g)
theorem eT(x:Opd):B0 (ev x):=by
 cases x with
 |t n=>exact λs e _ b h=>by grind [ev,RM.reads]
 |c v=>exact kS _
theorem JJR{α:Type}{g:Nat}{k:AV->RM α}(h: ∀v,B0 (k v)):B0 (.slot g k):=λs e n b j=>by
 simp only[RM.run]at n;simp only[RM.reads,cL]at j;rcases j with j|j;cases j;cases hl:lk g s.env with
 |none=>simp_all
 |some v=>rw[hl]at n j;exact h v s e n b j
theorem XS(x:Option Opd):B0 (evo x):=by
 cases x with
 |none=>exact kS _
 |some x=>exact dN (eT x) λ_=>kS _
theorem sm: ∀(xs:List (Nat×Nat×Opd)),B0 (kD xs)
 |[]=>kS _
 |(a,b,x)::xs=>by
  unfold kD;refine dN (eT x) λv=>?_;split;exact dN (sm xs) λ_=>kS _;simp[tZ]
theorem Gx(lo hi mx:Option AV)(c:PV)(hc: ∀l,c≠.s l):kE .str (.p c) lo hi mx=none:=by
 cases mx with
 |some _=>rfl
 |none=>cases c<;>first|rfl|simp_all
theorem JKB(F:Orc)(op:AOp)(new:Nat)(h:yN op=false):W0 (opR F op new):=by
 cases op with
 |mkarr=>cases h
 |newboxo=>cases h
 |buildo=>cases h
 |storen=>cases h
 |callo=>cases h
 |newbox=>cases h
 |box=>cases h
 |lits=>cases h
 |store=>cases h
 |mkslice=>cases h
 |call=>cases h
 |callv=>cases h
 |app=>cases h
 |appn=>cases h
 |mv x=>exact dG λ_=>tO _
 |pick c a b=>
  refine dG λv=>?_;grind [dG,tO,rC]
 |build zero parts=>
  refine dG λv=>?_;grind [nL,rC]
 |load agg size x=>
  refine dG λv=>?_;unfold gE;split
  all_goals grind [nL,rC,Eh]
 |nilchk x=>
  refine dG λv=>?_;grind [tO,rC]
 |bin op t x y=>exact dG λ_=>dG λ_=>nL _
 |un op x=>exact dG λ_=>nL _
 |conv k x=>
  refine dG λv=>?_;split;exact tO _;exact tO _;grind [dG,tO,rC];cases h;simp[rC]
 |slice k x lo hi mx=>
  cases k with
  |sl esz=>cases h
  |str=>
   refine dG λv=>dG λ_=>dG λ_=>dG λ_=>?_;split;rename_i b i n;intro s e g;exfalso;rw[run_bind]at g;cases h1:(fz (.slr b i n)).run s<;>grind [fz,RM.run,Gx]
   simp[nL]
 |faddr off x=>exact dG λ_=>nL _
 |field agg off size x=>exact dG λ_=>nL _
 |iaddr esz x y=>
  refine dG λv=>dG λu=>?_;unfold lZ;grind [rC,tO,Eh]
 |aaddr len esz x y=>exact dG λ_=>dG λ_=>nL _
 |sidx x y=>
  refine dG λv=>dG λu=>?_;grind [rC,tO]
 |aidx agg len esz x y=>
  refine dG λv=>dG λu=>?_;grind [nL,rC]
 |extr x i=>exact dG λ_=>nL _
 |len str x=>exact dG λ_=>nL _
 |mm mx x y=>exact dG λ_=>dG λ_=>nL _
theorem JLm(F:Orc)(op:AOp)(new:Nat)(h:HY op=false):B0 (opR F op new):=by
 cases op with
 |mkarr=>cases h
 |newboxo=>cases h
 |buildo=>cases h
 |storen=>cases h
 |callo=>cases h
 |newbox=>cases h
 |box=>cases h
 |lits=>cases h
 |store=>cases h
 |mkslice=>cases h
 |call=>cases h
 |callv=>cases h
 |app=>cases h
 |appn=>cases h
 |load=>cases h
 |iaddr=>cases h
 |mv x=>exact dN (eT x) λ_=>kS _
 |pick c a b=>
  refine dN (eT c) λv=>?_;grind [dN,eT,kS,tZ]
 |build zero parts=>
  refine dN (sm parts) λv=>?_;grind [oX,tZ]
 |nilchk x=>
  refine dN (eT x) λv=>?_;grind [kS,tZ]
 |bin op t x y=>exact dN (eT x) λ_=>dN (eT y) λ_=>oX _
 |un op x=>exact dN (eT x) λ_=>oX _
 |conv k x=>
  refine dN (eT x) λv=>?_;split;exact kS _;exact kS _;cases h;cases h;simp[tZ]
 |slice k x lo hi mx=>
  cases k with
  |sl esz=>cases h
  |str=>
   refine dN (eT x) λv=>dN (XS lo) λ_=>dN (XS hi) λ_=>dN (XS mx) λ_=>?_;split;rename_i b i n;intro s e g;exfalso;rw[run_bind]at g;cases h1:(fz (.slr b i n)).run s<;>grind [fz,RM.run,Gx]
   simp[oX]
 |faddr off x=>exact dN (eT x) λ_=>oX _
 |field agg off size x=>exact dN (eT x) λ_=>oX _
 |aaddr len esz x y=>exact dN (eT x) λ_=>dN (eT y) λ_=>oX _
 |sidx x y=>
  refine dN (eT x) λv=>dN (eT y) λu=>?_;grind [tZ,kS]
 |aidx agg len esz x y=>
  refine dN (eT x) λv=>dN (eT y) λu=>?_;grind [oX,tZ]
 |extr x i=>exact dN (eT x) λ_=>oX _
 |len str x=>exact dN (eT x) λ_=>oX _
 |mm mx x y=>exact dN (eT x) λ_=>dN (eT y) λ_=>oX _
theorem Dw{op:AOp}(h:HY op=false):yN op=false:=by
 cases op<;>first|rfl|cases h|skip
 rename_i k x;cases k<;>first|rfl|cases h
 rename_i k x lo hi mx;cases k<;>first|rfl|cases h
theorem JJB{op:AOp}(h:yN op=false):lV op=0:=by
 cases op<;>first|rfl|cases h|skip
 rename_i k x;cases k<;>first|rfl|cases h
theorem ZQ(F:Orc)(i:bQ)(new:Nat)(h:yN i.op=false):W0 (bT F i new):=by
 have h1:W0 (opD F i.op new):=dG λ_=>JKB F _ _ h;grind [bT,JJ8,tO,rC]
theorem Hv(F:Orc)(i:bQ)(new:Nat)(h:HY i.op=false):B0 (bT F i new):=by
 have h1:B0 (opD F i.op new):=by unfold opD;rw[JJB (Dw h)];exact dN (kS _) λ_=>JLm F _ _ h
 grind [bT,JJR,kS,tZ]
end Go.Am
end
section
namespace Go.Am
theorem bind_some{α β:Type}{m:RM α}{f:α->RM β}{s:St}{b:β}(h:(m.bind f).run s=some b): ∃a,m.run s=some a/\(f a).run s=some b:=by rw[run_bind]at h;cases hm:m.run s<;>simp_all
theorem gH{x:Option AV}{s:St}{e:Eff}(h:(val x).run s=some e): ∃v,x=some v/\e=⟨v,[]⟩:=by cases x<;>simp_all [val,RM.run]
theorem Gz{w C c v}(h:okP c v=true):J08 w C c v:=by
 unfold okP at h;split at h;rename_i x y;have:x=y:=by simpa using h
 subst this;exact .b _;simp at h;obtain⟨rfl,rfl⟩:=h;exact .i _ _;rename_i l e;have:l=e.data.toList:=by simpa using h
 subst this;exact .s _;exact .sl0 _ _ _;exact .np;exact .nf;cases h
theorem RG{w C}: ∀{cs:List PV} {vs:List Value},yS cs vs=true->cs.length=vs.length/\ ∀(i:Nat) x v,cs[i]?=some x->vs[i]?=some v->J08 w C x v
 |[],[],_=>⟨rfl,λi x v h=>by simp at h⟩
 |x::xs,v::vs,h=>by
  simp only[yS,aT]at h;obtain⟨h1,h2⟩:=RG (w:=w) (C:=C) h.2;grind [Gz]
 |[],_::_,h=>by grind [yS]
 |_::_,[],h=>by grind [yS]
theorem JII{s:Sn}{c v}(h:okC c v=true):JF s c v:=by
 unfold okC at h;split at h;exact .p _ _ (Gz h);rename_i cs vs;obtain⟨h1,h2⟩:=RG (w:=s.w) (C:=s.g.C) h;exact .data _ _ (by simpa using h1) λi x v j e=>h2 i x v j (by simpa using e);rename_i f g a c;simp at h;obtain⟨⟨rfl,rfl⟩,rfl⟩:=h;exact .fn _ _ _ _ _ rfl rfl (λi x v h=>by simp at h) (λi x v h=>by simp at h);simp at h;subst h;exact .tup _ _ rfl (λi x v h=>by simp at h);cases h
def bN(s:Sn)(tmps:Array Value)(env:List (Nat×AV)):Prop:= ∀n x,lk n env=some x-> ∃v,tmps[n]?=some v/\JF s x v
theorem bN.mono{s0 s:Sn}(hi:Inv s0)(t:bC s0 s){tmps env}(h:bN s0 tmps env):bN s tmps env:=
 λn x e=>let⟨v,h1,h2⟩:=h n x e;⟨v,h1,h2.mono hi t⟩
section
variable {P:Program} {s:Sn} {a:Act} {env:List (Nat×AV)}
theorem bK(he:bN s a.tmps env){x:Opd}{y:Operand}{v:AV}(h:(ev x).run ⟨env,s.σ⟩=some v)(hc:bO x y=true):JF s v (a.eval y):=by
 cases x with
 |t n=>
  cases y<;>simp[bO]at hc;subst hc;simp only[ev,RM.run]at h;split at h
  rename_i u e;injection h with h;subst h;obtain⟨w,h1,h2⟩:=he _ _ e;simp_all [Act.eval];cases h
 |c z=>
  simp only[ev,RM.run]at h;injection h with h;subst h;cases y with
  |const u=>exact JII (v:=u) (by grind [bO])
  |func g=>
   cases z<;>simp[bO]at hc;rename_i f first caps
   cases first<;>cases caps<;>simp[bO]at hc
   subst hc;exact .fn _ _ _ _ _ rfl rfl (λi x v h=>by simp at h) (λi x v h=>by simp at h)
  |tmp n=>grind [bO]
  |global n=>grind [bO]
theorem QP(he:bN s a.tmps env): ∀{xs:List Opd} {e:List Operand} {vs:List AV},(evs xs).run ⟨env,s.σ⟩=some vs->jX xs e=true->
  vs.length=e.length/\ ∀(i:Nat) x v,vs[i]?=some x->(e.map a.eval)[i]?=some v->JF s x v
 |[],[],vs,h,_=>by
  grind [evs,RM.run]
 |x::xs,y::e,vs,h,hc=>by
  simp only[jX,aT]at hc;simp only[evs]at h;obtain⟨u,h1,h⟩:=bind_some h;obtain⟨g,h2,h⟩:=bind_some h;simp only[RM.run]at h;injection h with h;subst h;obtain⟨l,r⟩:=QP he h2 hc.2;grind [bK]
 |[],_::_,_,_,hc=>by grind [jX]
 |_::_,[],_,_,hc=>by grind [jX]
def bP(P:Program)(o:Oper)(a:Act)(s:Sn)(e:Eff):Prop:= ∀(next:Act->World->Prop) (Q:Exit->Act->World->Prop),(∀v w' g',Inv ⟨upd e.ws s.σ,g',w'⟩->bC s ⟨upd e.ws s.σ,g',w'⟩->JF ⟨upd e.ws s.σ,g',w'⟩ e.val v->next (a.put o.dst v) w')->o.wp P a s.w next Q
theorem hU{o:Oper}{e:Eff}{v:Value}{w':World}{g':Gh}(hr:(execOp a.eval o).run P s.w=.ok (.value v) w')
  (hi:Inv ⟨upd e.ws s.σ,g',w'⟩) (t:bC s ⟨upd e.ws s.σ,g',w'⟩) (hv:JF ⟨upd e.ws s.σ,g',w'⟩ e.val v):bP P o a s e:=by
 intro next Q h;grind [Oper.wp,Oper.upon]
theorem JO{o:Oper}{x:AV}{v:Value}(hi:Inv s)(hr:(execOp a.eval o).run P s.w=.ok (.value v) s.w)(hv:JF s x v):bP P o a s ⟨x,[]⟩:=
 hU (e:=⟨x,[]⟩) (g':=s.g) hr hi (.refl s) hv
theorem wh{t:TypeId}{i:TypeInfo}(h:P.info? t=some i)(w:World):(typeInfo t).run P w=.ok i w:=by simp[typeInfo,h]
theorem jJ{t:TypeId}{n:Nat}(h:szT P t=some n)(w:World):(sizeOf t).run P w=.ok n w:=by unfold szT at h;cases hi:P.info? t<;>simp_all [sizeOf,wh]
theorem FJ{t:TypeId}{b:Bool}(h:agT P t=some b)(w:World):(isAgg t).run P w=.ok b w:=by
 unfold agT at h;cases hu:P.underlying t with
 |none=>simp_all
 |some d=>rw[hu]at h;simp at h;simp only[isAgg,yQ,run_underlying hu,sX];subst h;cases d<;>rfl
theorem kH{t e:TypeId}(h:elT P t=some e):P.underlying t=some (.slice e):=by
 grind [elT]
theorem xC{t:TypeId}(h:jW P t=true):P.underlying t=some .string:=by
 grind [jW]
theorem qq{t:TypeId}(h:VL P t=true):P.underlying t=some (.int .u8):=by
 grind [VL]
theorem Kz{t:TypeId}(h:ZG P t=true):P.underlying t=some .bool:=by
 grind [ZG]
theorem JEq{t:TypeId}(h:ms P t=true): ∃k,P.underlying t=some (.int k):=by
 grind [ms]
theorem JDu{t:TypeId}{k:IntKind}(h:YW P k t=true):P.underlying t=some (.int k):=by
 grind [YW]
theorem ph{t e:TypeId}{n:Nat}(h:arT P t=some (n,e)):P.underlying t=some (.array n e):=by
 grind [arT]
theorem pv{t:TypeId}{fs:Array Field}(h:flT P t=some fs):P.underlying t=some (.struct fs):=by
 grind [flT]
theorem iE{x k n}(h:JF s (.p (.i k n)) x):x=.int k n:=by cases h with|p _ _ h=>cases h;rfl
theorem PR{x n}(h:JF s (.p (.b n)) x):x=.bool n:=by cases h with|p _ _ h=>cases h;rfl
theorem tP{x l}(h:JF s (.p (.s l)) x):x=.string ⟨l.toArray⟩:=by cases h with|p _ _ h=>cases h;rfl
theorem JIy{x}(h:JF s (.p .np) x):x=.pointer none:=by cases h with|p _ _ h=>cases h;rfl
theorem JJZ{x}(h:JF s (.p .nf) x):x=.nilFunc:=by cases h with|p _ _ h=>cases h;rfl
theorem tU(k n):JF s (.p (.i k n)) (.int k n):=.p _ _ (.i _ _)
theorem oZ(n):JF s (.p (.b n)) (.bool n):=.p _ _ (.b _)
theorem Ht(l):JF s (.p (.s l)) (.string ⟨l.toArray⟩):=.p _ _ (.s _)
theorem tW(l:List UInt8):ByteArray.size ⟨l.toArray⟩=l.length:=by simp[ByteArray.size]
theorem JEL(l m:List UInt8):(⟨l.toArray⟩:ByteArray)++⟨m.toArray⟩=⟨(l++m).toArray⟩:=by apply ByteArray.ext;simp_all
theorem K0{op:BinOp}{k:IntKind}{x y:Int}{t:TypeId}{r:PV}(n:op≠.shl)(j:op≠.shr)(h:yA op k x y=some r)(w:World):
  ∃v,(binOp op t (.int k x) (.int k y)).run P w=.ok v w/\J08 s.w s.g.C r v:=by
 cases op<;>simp only[yA]at h
 case add=>injection h with h;subst h;exact⟨_,by simp[binOp,Op.intArith],.i _ _⟩
 case sub=>injection h with h;subst h;exact⟨_,by simp[binOp,Op.intArith],.i _ _⟩
 case mul=>injection h with h;subst h;exact⟨_,by simp[binOp,Op.intArith],.i _ _⟩
 case quo=>split at h
           cases h;rename_i e;injection h with h;subst h;exact⟨_,by simp[binOp,Op.intDiv,e],.i _ _⟩
 case rem=>split at h
           cases h;rename_i e;injection h with h;subst h;exact⟨_,by simp[binOp,Op.intDiv,e],.i _ _⟩
 case and=>injection h with h;subst h;exact⟨_,by simp[binOp,Op.intBits],.i _ _⟩
 case or=>injection h with h;subst h;exact⟨_,by simp[binOp,Op.intBits],.i _ _⟩
 case xor=>injection h with h;subst h;exact⟨_,by simp[binOp,Op.intBits],.i _ _⟩
 case eql=>injection h with h;subst h;exact⟨_,by simp[binOp,Op.intCmp],.b _⟩
 case neq=>injection h with h;subst h;exact⟨_,by simp[binOp,Op.intCmp],.b _⟩
 case lss=>injection h with h;subst h;exact⟨_,by simp[binOp,Op.intCmp],.b _⟩
 case leq=>injection h with h;subst h;exact⟨_,by simp[binOp,Op.intCmp],.b _⟩
 case gtr=>injection h with h;subst h;exact⟨_,by simp[binOp,Op.intCmp],.b _⟩
 case geq=>injection h with h;subst h;exact⟨_,by simp[binOp,Op.intCmp],.b _⟩
 all_goals simp_all
theorem xb{op:BinOp}{k k':IntKind}{x y:Int}{t:TypeId}{r:PV}(hs:op=.shl\/op=.shr)(h:LL op k x y=some r)(w:World):
  ∃v,(binOp op t (.int k x) (.int k' y)).run P w=.ok v w/\J08 s.w s.g.C r v:=by
 unfold LL at h;split at h;cases h;rename_i e;rcases hs with rfl|rfl;injection h with h;subst h;exact⟨_,by simp[binOp,Op.shift,e],.i _ _⟩;injection h with h;subst h;exact⟨_,by simp[binOp,Op.shift,e],.i _ _⟩
theorem H9{op:BinOp}{x y:List UInt8}{t:TypeId}{r:PV}(h:yF op x y=some r)(w:World):
  ∃v,(binOp op t (.string ⟨x.toArray⟩) (.string ⟨y.toArray⟩)).run P w=.ok v w/\J08 s.w s.g.C r v:=by
 cases op<;>simp only[yF]at h
 case add=>
  split at h;rename_i e;injection h with h;subst h;refine⟨.string ⟨(x++y).toArray⟩,?_,.s _⟩;have h1: ¬(((ByteArray.size ⟨x.toArray⟩+ByteArray.size ⟨y.toArray⟩:Nat):Int)>IntKind.i64.max):=by rw[tW,tW];show¬(_>(9223372036854775807:Int));omega
  simp_all [binOp,Op.stringOp,JEL];cases h
 case eql=>injection h with h;subst h;exact⟨.bool (x==y),by simp[binOp,Op.stringOp],.b _⟩
 case neq=>injection h with h;subst h;exact⟨.bool (!(x==y)),by simp[binOp,Op.stringOp],.b _⟩
 case lss=>injection h with h;subst h;exact⟨.bool (Op.bytesLess x y),by simp[binOp,Op.stringOp],.b _⟩
 case leq=>injection h with h;subst h;exact⟨.bool (Op.bytesLess x y||x==y),by simp[binOp,Op.stringOp],.b _⟩
 case gtr=>injection h with h;subst h;exact⟨.bool (!(Op.bytesLess x y||x==y)),by simp[binOp,Op.stringOp],.b _⟩
 case geq=>injection h with h;subst h;exact⟨.bool (!Op.bytesLess x y),by simp[binOp,Op.stringOp],.b _⟩
 all_goals cases h
end
end Go.Am
end
section
namespace Go.Am
section
variable {P:Program} {F:Orc} {s:Sn} {a:Act} {env:List (Nat×AV)} {o:Oper} {new:Nat} {e:Eff}
theorem JMJ(hi:Inv s)(he:bN s a.tmps env){x}(h:(opR F (.mv x) new).run ⟨env,s.σ⟩=some e)(hc:bA P (.mv x) o.op=true):bP P o a s e:=by
 simp only[opR]at h;obtain⟨v,h1,h⟩:=bind_some h;simp only[RM.run]at h;injection h with h;subst h;unfold bA at hc;simp only at hc;split at hc;rename_i y g;exact JO hi (by simp_all [execOp]) (bK he h1 hc);rename_i y g;exact JO hi (by simp_all [execOp]) (bK he h1 hc);cases hc
theorem JIN(hi:Inv s)(he:bN s a.tmps env){c x y}(h:(opR F (.pick c x y) new).run ⟨env,s.σ⟩=some e)(hc:bA P (.pick c x y) o.op=true):bP P o a s e:=by
 simp only[opR]at h;obtain⟨v,h1,h⟩:=bind_some h;unfold bA at hc;simp only at hc;split at hc;rename_i c' k j n;simp only[aT]at hc;split at h;rename_i b;have q:=PR (bK he h1 hc.1.1);split at h;rename_i g;obtain⟨u,h2,h⟩:=bind_some h;simp only[RM.run]at h;injection h with h;subst h;exact JO hi (v:=a.eval k) (by simp_all [execOp,asBool]) (bK he h2 hc.1.2);rename_i g;obtain⟨u,h2,h⟩:=bind_some h;simp only[RM.run]at h;injection h with h;subst h;have g:b=false:=by simpa using g
 exact JO hi (v:=a.eval j) (by simp_all [execOp,asBool]) (bK he h2 hc.2);grind [RM.run];cases hc
theorem JDW(hi:Inv s)(he:bN s a.tmps env){x}(h:(opR F (.nilchk x) new).run ⟨env,s.σ⟩=some e)(hc:bA P (.nilchk x) o.op=true):bP P o a s e:=by
 simp only[opR]at h;obtain⟨v,h1,h⟩:=bind_some h;unfold bA at hc;simp only at hc;split at hc;rename_i y n;have g:=bK he h1 hc;split at h<;>(simp only[RM.run]at h;try cases h)
 refine JO hi (v:=a.eval y) ?_ g;generalize j:a.eval y=u at g;cases g;simp_all [execOp];refine JO hi (v:=a.eval y) ?_ g;generalize j:a.eval y=u at g;cases g;simp_all [execOp];refine JO hi (v:=a.eval y) ?_ g;generalize j:a.eval y=u at g;cases g with
 |ep _ _ _ _ _ _ _ _ k=>obtain⟨r,q,rfl⟩:=k;simp_all [execOp]
 refine JO hi (v:=a.eval y) ?_ g;generalize j:a.eval y=u at g;cases g;simp_all [execOp];cases hc
theorem MY{op:BinOp}{t:TypeId}{x y:Operand}{u v:Value}(h:(∀c,u≠.agg c)/\u≠.nilIface)(w:World):(eqGuard op t x y u v).run P w=.ok () w:=by simp_all [eqGuard]
theorem Mn(hi:Inv s)(he:bN s a.tmps env){op x y}(h:(opR F (.bin op .plain x y) new).run ⟨env,s.σ⟩=some e)(hc:bA P (.bin op .plain x y) o.op=true):bP P o a s e:=by
 simp only[opR]at h;obtain⟨u,h1,h⟩:=bind_some h;obtain⟨v,h2,h⟩:=bind_some h;obtain⟨r,g,rfl⟩:=gH h;unfold bA at hc;simp only at hc;split at hc;rename_i M t B E ty L;simp only[aT,beq_iff_eq]at hc;obtain⟨⟨rfl,K⟩,J⟩:=hc;have C:=bK he h1 K;have D:=bK he h2 J;have j: ∀{z:Value},(∀c,a.eval B≠.agg c)/\a.eval B≠.nilIface->(binOp op t (a.eval B) (a.eval E)).run P s.w=.ok z s.w->(execOp a.eval o).run P s.w=.ok (.value z) s.w:=by simp_all [execOp,MY]
 simp only[mW]at g;split at g;rename_i N p O q;rw[iE C,iE D]at j;split at g;obtain⟨z,k,rfl⟩:=gA.1 g;obtain⟨v,A,n⟩:=xb (s:=s) (P:=P) (t:=t) (.inl rfl) k s.w;exact JO hi (j (by simp) A) (.p _ _ n);obtain⟨z,k,rfl⟩:=gA.1 g;obtain⟨v,A,n⟩:=xb (s:=s) (P:=P) (t:=t) (.inr rfl) k s.w;exact JO hi (j (by simp) A) (.p _ _ n);rename_i G H;split at g;rename_i I;subst I;obtain⟨z,k,rfl⟩:=gA.1 g;obtain⟨v,A,n⟩:=K0 (s:=s) (P:=P) (t:=t) (λe=>G e) (λe=>H e) k s.w;exact JO hi (j (by simp) A) (.p _ _ n);cases g;rw[tP C,tP D]at j;obtain⟨z,k,rfl⟩:=gA.1 g;obtain⟨v,A,n⟩:=H9 (s:=s) (P:=P) (t:=t) k s.w;exact JO hi (j (by simp) A) (.p _ _ n);cases g;cases hc
theorem Ks(hi:Inv s)(he:bN s a.tmps env){op x y}(h:(opR F (.bin op .bool x y) new).run ⟨env,s.σ⟩=some e)(hc:bA P (.bin op .bool x y) o.op=true):bP P o a s e:=by
 simp only[opR]at h;obtain⟨u,h1,k⟩:=bind_some h;obtain⟨v,h2,j⟩:=bind_some k;obtain⟨r,g,rfl⟩:=gH j;clear h k j;unfold bA at hc;simp only at hc;split at hc
 ·rename_i C t G E ty B;simp only[aT,beq_iff_eq]at hc;obtain⟨⟨rfl,A⟩,z,ht⟩:=hc;have n:=bK he h1 A;have w:=bK he h2 z;have I:=Kz ht;simp only[mW]at g;split at g
  ·rename_i _ _ p q;have D:=PR n;have H:=PR w;cases op<;>simp only[iW]at g<;>first|(injection g with g;subst g)|cases g
   all_goals simp_all [JO,execOp,eqGuard,binOp,run_equal_bool,oZ]
  cases g
 cases hc
theorem SC{op:BinOp}{t:TypeId}{u v:Value}{b:Bool}(ho:op=.eql\/op=.neq){w:World}(h:(Op.equal t u v).run P w=.ok b w)
  (hu:(∃x n c,u=.slice x n c)\/(∃p,u=.pointer p/\v=.pointer none)\/u=.nilFunc\/(∃f y c,u=.func f y c)):
  (binOp op t u v).run P w=.ok (.bool (if op=.eql then b else !b)) w:=by
 rcases ho with rfl|rfl;have:binOp .eql t u v=(do pure (.bool (<-Op.equal t u v))):=(by grind [binOp]);simp_all;have:binOp .neq t u v=(do pure (.bool (!(<-Op.equal t u v)))):=(by grind [binOp]);simp_all
theorem uE{op:BinOp}{b:Bool}{r:AV}(h:iW op (some b)=some r):(op=.eql\/op=.neq)/\r=.p (.b (if op=.eql then b else !b)):=by
 cases op<;>simp[iW]at h
 all_goals simp_all
theorem ss{op:BinOp}{r:AV}(h:HQ op=some r):(op=.eql\/op=.neq)/\r=.unk:=by
 cases op<;>simp[HQ]at h
 all_goals simp_all
theorem I3(hi:Inv s)(he:bN s a.tmps env){op x y}(h:(opR F (.bin op .nils x y) new).run ⟨env,s.σ⟩=some e)(hc:bA P (.bin op .nils x y) o.op=true):bP P o a s e:=by
 simp only[opR]at h;obtain⟨u,h1,E⟩:=bind_some h;obtain⟨v,h2,B⟩:=bind_some E;obtain⟨r,g,rfl⟩:=gH B;clear h E B h2;unfold bA at hc;simp only at hc;split at hc;rename_i M t A G ty L;simp only[aT,beq_iff_eq]at hc;obtain⟨⟨rfl,K⟩,ht⟩:=hc;have D:=bK he h1 K;clear h1;have I:G=.const (.slice none 0 0)/\ ∃el,P.underlying t=some (.slice el):=(by unfold Cd at ht;split at ht;obtain⟨el,N⟩:=jx.1 ht;simp_all [kH];cases ht);obtain⟨rfl,el,J⟩:=I;have go: ∀(z:Option Addr) (n c:Nat),a.eval A=.slice z n c->(op=.eql\/op=.neq)->
   (execOp a.eval o).run P s.w=.ok (.value (.bool (if op=.eql then z.isNone else !z.isNone))) s.w:=by
  intro z n c k j;have h1:=SC (P:=P) (t:=t) j (run_equal_slice_nil s.w t el z n c J) (.inl ⟨z,n,c,rfl⟩);simp_all [execOp,MY,Act.eval]
 simp only[mW]at g;split at g;rename_i esz rows;cases D with
 |p _ _ q=>
  split at g;obtain⟨j,rfl⟩:=ss g;generalize k:a.eval A=z at q;cases q with
  |sl0 _ C cap=>exact JO hi (go _ _ _ k j) (.unk _)
  |sl _ _ r Q cap vals=>exact JO hi (go _ _ _ k j) (.unk _)
  obtain⟨j,rfl⟩:=uE g;generalize k:a.eval A=z at q;cases q<;>simp_all [JO,oZ]
 rename_i b i n;generalize k:a.eval A=z at D;cases D with
 |slr _ _ _ _ wm esz rows H=>
  obtain⟨C,cap,rfl,R⟩:=H;split at g;obtain⟨j,rfl⟩:=ss g;exact JO hi (go _ _ _ k j) (.unk _);rename_i O;obtain⟨j,rfl⟩:=uE g;have:C.isNone=false:=by cases C<;>simp_all
  grind [JO,oZ]
 cases g;cases hc
theorem Kn(hi:Inv s)(he:bN s a.tmps env){op x y}(h:(opR F (.bin op .nilp x y) new).run ⟨env,s.σ⟩=some e)(hc:bA P (.bin op .nilp x y) o.op=true):bP P o a s e:=by
 simp only[opR]at h;obtain⟨u,h1,q⟩:=bind_some h;obtain⟨v,h2,n⟩:=bind_some q;obtain⟨r,g,rfl⟩:=gH n;clear h q n h2;unfold bA at hc;simp only at hc;split at hc;rename_i H t A B ty G;simp only[aT,beq_iff_eq]at hc;obtain⟨⟨rfl,E⟩,ht⟩:=hc;have j:=bK he h1 E;clear h1;have D:B=.const (.pointer none)/\ ∃el,P.underlying t=some (.pointer el):=(by grind [Dc]);obtain⟨rfl,el,I⟩:=D;have go: ∀(z:Option Addr),a.eval A=.pointer z->(op=.eql\/op=.neq)->
   (execOp a.eval o).run P s.w=.ok (.value (.bool (if op=.eql then z.isNone else !z.isNone))) s.w:=by
  intro z C k;have:P.pointee t=el:=by grind [Program.pointee]
  simp_all [SC,run_equal_pointer_nil,execOp,MY,Act.eval]
 simp only[mW]at g;generalize C:a.eval A=z at j;split at g;obtain⟨k,rfl⟩:=uE g;grind [JIy,JO,oZ];obtain⟨k,rfl⟩:=uE g;cases j;grind [JO,oZ];obtain⟨k,rfl⟩:=uE g;cases j;grind [JO,oZ];obtain⟨k,rfl⟩:=uE g;cases j<;>grind [JO,oZ]
 cases g;cases hc
theorem I6(hi:Inv s)(he:bN s a.tmps env){op x y}(h:(opR F (.bin op .nilf x y) new).run ⟨env,s.σ⟩=some e)(hc:bA P (.bin op .nilf x y) o.op=true):bP P o a s e:=by
 simp only[opR]at h;obtain⟨u,h1,q⟩:=bind_some h;obtain⟨v,h2,k⟩:=bind_some q;obtain⟨r,g,rfl⟩:=gH k;clear h q k h2;unfold bA at hc;simp only at hc;split at hc;rename_i I t D C ty H;simp only[aT,beq_iff_eq]at hc;obtain⟨⟨rfl,G⟩,ht⟩:=hc;have n:=bK he h1 G;clear h1;have E:C=.const .nilFunc/\ ∃p r v,P.underlying t=some (.func p r v):=(by grind [B4]);obtain⟨rfl,p,J,vv,B⟩:=E;simp only[mW]at g;generalize K:a.eval D=z at n;split at g;obtain⟨A,rfl⟩:=uE g;have:=JJZ n;subst this;have j:(Op.equal t .nilFunc .nilFunc).run P s.w=.ok true s.w:=by
  have: ∀d,(Op.equalIn (d+1) t .nilFunc .nilFunc).run P s.w=.ok true s.w:=λd=>by simp[Op.equalIn,run_underlying B]
  exact this 9999
 simp_all [SC,JO,oZ,execOp,MY,Act.eval];obtain⟨A,rfl⟩:=uE g;cases n;rename_i f _ _ fs cs _ _ _ _;have j:(Op.equal t (.func (.func f) fs cs) .nilFunc).run P s.w=.ok false s.w:=by
  have: ∀d,(Op.equalIn (d+1) t (.func (.func f) fs cs) .nilFunc).run P s.w=.ok false s.w:=λd=>by simp[Op.equalIn,run_underlying B]
  exact this 9999
 have h1:=SC (P:=P) (t:=t) A j (.inr (.inr (.inr ⟨_,_,_,rfl⟩)));simp_all [JO,oZ,execOp,MY,Act.eval];cases g;cases hc
end
end Go.Am
end
section
namespace Go.Am
theorem NC: ∀{vs:List Value} {w:World} {r o:Nat} {c:Array Value} {e:TypeId} {fz:Nat×Nat},w.heap[r]?=some (.cells c e fz)->o+vs.length<=c.size->
  Put r o vs w (w.setCells r o vs)
 |[],w,r,o,c,e,fz,h,n=>⟨⟨c,e,fz,c,h,h,rfl,n,λj v x=>by simp at x,λ_ _=>rfl⟩,λ_ _=>rfl,rfl,rfl,rfl⟩
 |v::vs,w,r,o,c,e,fz,h,n=>by
  have K:=xI h;have q:o+1+vs.length<=c.size:=by grind
  have h1:(w.setCell ⟨r,o,none⟩ v).heap[r]?=some (.cells (c.setIfInBounds o v) e fz):=(by grind [World.setCell]);obtain⟨⟨H,L,D,c',g,z,y,F,E,G⟩,J,M,B,A⟩:=NC (vs:=vs) (o:=o+1) h1 (by simpa using q);rw[h1]at g;injection g with g;injection g with a1 a2 a3;subst a1 a2 a3;refine⟨⟨c,e,fz,c',h,z,by simpa using y,n,λj u x=>?_,λk I=>?_⟩,λr' C=>?_,?_,B,A⟩;grind;grind;show((w.setCell ⟨r,o,none⟩ v).setCells r (o+1) vs).heap[r']?=_;grind [World.setCell];show((w.setCell ⟨r,o,none⟩ v).setCells r (o+1) vs).heap.size=_;simp_all
theorem J08.one{w C x v}(h:J08 w C x v):v.oneCell'=true:=by cases h<;>rfl
theorem J08.cells1{w C x v}(h:J08 w C x v):v.cells= #[v]:=by cases h<;>rfl
section
variable {P:Program} {F:Orc} {s:Sn} {a:Act} {env:List (Nat×AV)} {o:Oper} {new:Nat} {e:Eff}
theorem JMA(hi:Inv s)(he:bN s a.tmps env){op x}(h:(opR F (.un op x) new).run ⟨env,s.σ⟩=some e)(hc:bA P (.un op x) o.op=true):bP P o a s e:=by
 simp only[opR]at h;obtain⟨u,h1,q⟩:=bind_some h;obtain⟨r,g,rfl⟩:=gH q;clear h q;unfold bA at hc;simp only at hc;split at hc;rename_i B t y A;simp only[aT,beq_iff_eq]at hc;obtain⟨rfl,w⟩:=hc;have j:=bK he h1 w;clear h1;generalize C:a.eval y=z at j;unfold unP at g;split at g<;>first|(injection g with g;subst g)|cases g
 rename_i k n;have:=iE j;simp_all [JO,execOp,Op.unary,Op.intArith,tU];rename_i k n;have:=iE j;simp_all [JO,execOp,Op.unary,Op.intBits,tU];rename_i b;have:=PR j;simp_all [JO,execOp,Op.unary,oZ];cases j with
 |unk b=>exact JO hi (v:=.bool (!b)) (by simp_all [execOp,Op.unary]) (.unk _)
 cases hc
theorem JGr(hi:Inv s)(he:bN s a.tmps env){off x}(h:(opR F (.faddr off x) new).run ⟨env,s.σ⟩=some e)(hc:bA P (.faddr off x) o.op=true):bP P o a s e:=by
 simp only[opR]at h;obtain⟨u,h1,C⟩:=bind_some h;obtain⟨r,j,rfl⟩:=gH C;clear h C;unfold bA at hc;simp only at hc;split at hc;rename_i t y f H;simp only[aT]at hc;obtain⟨G,ht⟩:=hc;have q:=bK he h1 G;clear h1;have E: ∃fs k n,P.underlying t=some (.struct fs)/\fs[f]?=some k/\k.offset=off/\szT P k.type=some n/\n≠0:=(by grind [pv]);obtain⟨fs,k,n,M,I,rfl,N,J⟩:=E;have go: ∀(r g:Nat),a.eval y=.pointer (some ⟨r,g,none⟩)->(execOp a.eval o).run P s.w=.ok (.value (.pointer (some ⟨r,g+k.offset,none⟩))) s.w:=by simp_all [Addr.add,execOp,Instr.fieldAt,run_underlying,Instr.sureAddr,fieldPlace,jJ]
 generalize B:a.eval y=z at q;unfold LF at j;split at j<;>first|(injection j with j;subst j)|cases j
 cases q with
 |ptr _ _ r g m D=>exact JO hi (go _ _ B) (by rw[vB];exact .ptr _ _ r g m D)
 cases q with
 |cp cs _ r g vals A v=>exact JO hi (go _ _ B) (by rw[vB];exact .cp _ _ r g vals A v)
 cases q with
 |ep _ _ _ _ _ wm esz rows p0 A v K=>
  obtain⟨r,g,rfl⟩:=p0;refine JO hi (go _ _ B) (.ep _ _ _ _ _ wm esz rows ⟨_,_,rfl⟩ A v λO L=>?_);grind
 cases hc
theorem JJC(hi:Inv s)(he:bN s a.tmps env){x i}(h:(opR F (.extr x i) new).run ⟨env,s.σ⟩=some e)(hc:bA P (.extr x i) o.op=true):bP P o a s e:=by
 simp only[opR]at h;obtain⟨u,h1,n⟩:=bind_some h;obtain⟨r,g,rfl⟩:=gH n;clear h n;unfold bA at hc;simp only at hc;split at hc;rename_i y j k;simp only[aT,beq_iff_eq]at hc;obtain⟨C,rfl⟩:=hc;have q:=bK he h1 C;generalize B:a.eval y=z at q;unfold OZ at g;split at g;cases q with
 |tup cs vs E A=>
  have D:=Jy g;have w:vs[i]?=some vs[i]:=by simp
  exact JO hi (v:=vs[i]) (by simp[execOp,k,B,Instr.extract,w]) (A i r _ g w)
 cases g;cases hc
theorem JMP(hi:Inv s)(he:bN s a.tmps env){mx x y}(h:(opR F (.mm mx x y) new).run ⟨env,s.σ⟩=some e)(hc:bA P (.mm mx x y) o.op=true):bP P o a s e:=by
 simp only[opR]at h;obtain⟨u,h1,w⟩:=bind_some h;obtain⟨v,h2,n⟩:=bind_some w;obtain⟨r,g,rfl⟩:=gH n;clear h w n;unfold bA at hc;simp only at hc;split at hc;rename_i c E;split at hc;rename_i b B;simp only[aT,beq_iff_eq]at hc;obtain⟨I,hc⟩:=hc;split at hc;rename_i A z j;simp only[aT]at hc;have C:=bK he h1 hc.1;have D:=bK he h2 hc.2;have J:c.args.map a.eval= #[a.eval A,a.eval z]:=by apply UE;simp[j]
 unfold mmP at g;split at g;rename_i k p k' q;injection g with g;subst g;have G:=iE C;have H:=iE D;cases mx;simp_all [JO,tU,execOp,resolve,invoke,builtin,Builtin.min_,Builtin.min2];simp_all [JO,tU,execOp,resolve,invoke,builtin,Builtin.max_,Builtin.max2];cases g;cases hc;cases hc;cases hc
theorem JKj(hi:Inv s)(he:bN s a.tmps env){str x}(h:(opR F (.len str x) new).run ⟨env,s.σ⟩=some e)(hc:bA P (.len str x) o.op=true):bP P o a s e:=by
 simp only[opR]at h;obtain⟨u,h1,E⟩:=bind_some h;obtain⟨r,g,rfl⟩:=gH E;clear h E;unfold bA at hc;simp only at hc;split at hc;rename_i c v;split at hc;rename_i k;split at hc;rename_i y t q B;simp only[aT]at hc;obtain⟨L,ht⟩:=hc;have C:=bK he h1 L;have J:c.args.map a.eval= #[a.eval y]:=by apply UE;simp[q]
 have A:c.argTypes[0]?=some t:=by rw[<-UF,B];rfl
 generalize I:a.eval y=z at C;have N: ∀l:List UInt8,z=.string ⟨l.toArray⟩->jW P t=true->(execOp a.eval o).run P s.w=.ok (.value (.int .i64 l.length)) s.w:=by intro l D j;have:=xC j;simp[execOp,v,resolve,k,J,I,D,invoke,builtin,Builtin.len_,A,run_underlying this,goInt,tW]
 have M: ∀H n cp,z=.slice H n cp->(elT P t).isSome=true->(execOp a.eval o).run P s.w=.ok (.value (.int .i64 n)) s.w:=by intro H n cp D j;obtain⟨el,G⟩:=jx.1 j;have:=kH G;simp[execOp,v,resolve,k,J,I,D,invoke,builtin,Builtin.len_,A,run_underlying this,goInt]
 unfold IN at g;split at g<;>first|(injection g with g;subst g)|cases g
 grind [JO,tP,tU];cases C with
 |p _ _ K=>cases K<;>simp_all [JO,tU]
 cases C<;>grind [JO,tU]
 cases hc;cases hc;cases hc
end
end Go.Am
end
section
namespace Go.Am
section
variable {P:Program} {F:Orc} {s:Sn} {a:Act} {env:List (Nat×AV)} {o:Oper} {new:Nat} {e:Eff}
theorem jU.of_p{s:Sn}{esz rows v}(h:JF s (.p (.sl esz rows)) v):jU s esz rows v:=by
 grind [of_sl,cases Go.Am.JF]
theorem sv(hi:Inv s){esz:Nat}{x:AV}{rows:List (List PV)}{v:Value}(h:(fK esz x).run ⟨env,s.σ⟩=some rows)(hr:JF s x v):
  (∃l,x=.p (.s l)/\esz=1/\rows=l.map mD/\v=.string ⟨l.toArray⟩)\/jU s esz rows v:=by
 unfold fK at h;split at h;split at h;rename_i e;subst e;simp only[RM.run]at h;injection h with h;subst h;exact .inr (.of_p hr);cases h;grind [RM.run,tP];simp only[RM.run]at h;split at h;rename_i blk g;split at h;split at h;rename_i hc;obtain⟨rfl,hc⟩:=hc;simp only[RM.run]at h;injection h with h;subst h;exact .inr (.of_slr hi hr g hc);cases h;cases h;cases h;cases h
theorem dh{α:Type}{esz:Nat}: ∀{rows:List (List α)},(∀row∈rows,row.length=esz)-> ∀{k:Nat} {x:α},rows.flatten[k]?=some x->
  ∃i j row,k=i*esz+j/\rows[i]?=some row/\row[j]?=some x/\j<esz
 |[],_,k,x,h=>by simp at h
 |r::rows,g,k,x,h=>by
  simp only[qF]at h;have y:r.length=esz:=g r (by simp);rcases List.getElem?_append (l₁:=r) (l₂:=rows.flatten) (i:=k)▸h with e;split at e;exact⟨0,k,r,by simp,rfl,e,by omega⟩;obtain⟨i,j,row,w,v,q,n⟩:=dh (λrow o=>g row (by simp[o])) e;exact⟨i+1,j,row,by grind,by simpa using v,q,n⟩
theorem RF{α:Type}{esz:Nat}: ∀{rows:List (List α)},(∀row∈rows,row.length=esz)->rows.flatten.length=rows.length*esz
 |[],_=>by simp
 |r::rows,g=>by
  have:=RF (rows:=rows) (λrow e=>g row (by simp[e]));grind
theorem jU.cells{s:Sn}{esz rows v}(h:jU s esz rows v):
  ∃(a:Option Addr) (cap:Nat) (vs:List Value),v=.slice a rows.length cap/\rows.length<=cap/\vs.length=rows.length*esz/\
   (∀(k:Nat) x,rows.flatten[k]?=some x-> ∃u,vs[k]?=some u/\J08 s.w s.g.C x u)/\
   (rows=[]\/ ∃r o,a=some ⟨r,o,none⟩/\ ∀(k:Nat) u,vs[k]?=some u->cellAt s.w r (o+k)=some u)/\(∀row∈rows,row.length=esz):=by
 obtain⟨a,cap,h1,h2,q,y⟩:=h;rcases y with rfl|⟨r,o,D,E⟩;simp_all;refine⟨a,cap,(List.range (rows.length*esz)).map λk=>(cellAt s.w r (o+k)).getD .nilFunc,h1,h2,by simp,λk x e=>?_,.inr ⟨r,o,D,λk u e=>?_⟩,q⟩;obtain⟨i,j,row,A,z,B,_⟩:=dh q e;grind [RF];have n:=Jy e;simp at n;rw[fF,List.getElem?_range n]at e;simp at e;have:k<rows.flatten.length:=by grind [RF]
 obtain⟨i,j,row,A,z,B,_⟩:=dh q (JX this);grind
theorem vj: ∀{rows:List (List PV)} {l:List UInt8},tX rows=some l-> ∃e:List Int,rows=e.map (λn=>[PV.i .u8 n])/\l=e.map λn=>UInt8.ofNat n.toNat
 |[],l,h=>by simp_all [tX]
 |row::rows,l,h=>by
  unfold tX at h;split at h;simp_all;rename_i n r j;injection j with e1 e2;subst e1 e2;split at h;rename_i l' g;injection h with h;subst h;obtain⟨e,h1,h2⟩:=vj g;exact⟨n::e,by simp[h1],by simp[h2]⟩;cases h;cases h
theorem JBM(e:List Int): ∀b:ByteArray,(e.foldl (λr n=>r.push (UInt8.ofNat n.toNat)) b)=⟨b.data++(e.map λn=>UInt8.ofNat n.toNat).toArray⟩:=by
 induction e with
 |nil=>intro b;simp
 |cons n e ih=>simp_all
theorem FS(r o n:Nat):Addr.add ⟨r,o,none⟩ n=⟨r,o+n,none⟩:=by simp[Addr.add]
theorem ra{w:World}{r o:Nat}(vs:List Value)(h: ∀(k:Nat) u,vs[k]?=some u->cellAt w r (o+k)=some u):
  (loadCells ⟨r,o,none⟩ vs.length).run P w=.ok vs.toArray w:=
 run_loadCells_list w _ vs λj v e=>by grind [FS,rA]
theorem JJu(hi:Inv s)(he:bN s a.tmps env){k x}(hk: ∀own,k≠.toBytes own)(h:(opR F (.conv k x) new).run ⟨env,s.σ⟩=some e)(hc:bA P (.conv k x) o.op=true):bP P o a s e:=by
 simp only[opR]at h;obtain⟨u,h1,g⟩:=bind_some h;clear h;unfold bA at hc;simp only at hc;split at hc;rename_i a0 dst y J;simp only[aT]at hc;obtain⟨Y,ht⟩:=hc;have q:=bK he h1 Y;generalize W:a.eval y=z at q;split at g;rename_i k' k1 n;simp only[RM.run]at g;injection g with g;subst g;simp only[aT]at ht;obtain⟨ks,H⟩:=JEq ht.1;have hd:=JDu ht.2;have:=iE q;simp_all [JO,execOp,convert,run_underlying,Conv.intToInt,tU];rename_i l;simp only[RM.run]at g;injection g with g;subst g;simp only[aT]at ht;have H:=xC ht.1;have hd:=xC ht.2;have:=tP q;simp_all [JO,execOp,convert,run_underlying];simp only[aT]at ht;obtain⟨ht,hd⟩:=ht;have hd:=xC hd;split at ht;rename_i el L;simp only[aT,beq_iff_eq]at ht;have H:=kH L;have M:=qq ht.1;obtain⟨rows,O,A⟩:=bind_some g;clear g;split at A;rename_i l Q;simp only[RM.run]at A;injection A with A;subst A;rcases sv hi O q with⟨l',rfl,_,S,I⟩|K
 
 have:=tP q;subst this;have:l=l':=by
  have: ∀l:List UInt8,tX (l.map mD)=some l:=by
   intro l
   induction l with
   |nil=>rfl
   |cons b l ih=>simp[tX,mD,ih]
  simp_all
 simp_all [JO,execOp,convert,run_underlying];obtain⟨C,cap,vs,I,D,hlen,hrel,B,G⟩:=K.cells;obtain⟨j,R,rfl⟩:=vj Q;have hvs:vs=j.map (Value.int .u8):=by
  apply zQ6;intro k;have Z:rows.flatten=j.map (PV.i .u8):=by rw[R];clear R Q hrel hlen G B I D O q;induction j with|nil=>rfl|cons n j ih=>simp[ih]
  by_cases hk:k<j.length;obtain⟨u,hu,hp⟩:=hrel k (.i .u8 j[k]) (by simp_all);grind [cases Go.Am.J08];simp_all
 have T:rows.length=vs.length:=by omega
 subst I;have E:(Conv.bytesToString (.slice C rows.length cap)).run P s.w=.ok (.string ⟨(j.map λn=>UInt8.ofNat n.toNat).toArray⟩) s.w:=by
  rcases B with U|⟨r,V,rfl,hm⟩;have N:j=[]:=by simp_all
  subst N;cases C with
  |none=>simp[Conv.bytesToString];rfl
  |some C=>have:=run_bytesToString (P:=P) s.w C rows.length cap [] (by simp_all [loadCells,loadCellsFrom]);rw[this];rfl
  have:=run_bytesToString (P:=P) s.w ⟨r,V,none⟩ rows.length cap j (by grind [ra]);simp_all [JBM]
 refine JO hi (v:=.string ⟨(j.map λn=>UInt8.ofNat n.toNat).toArray⟩) ?_ (Ht _);simp[execOp,J,W,convert,run_underlying H,run_underlying hd,run_underlying M,E];cases A;cases ht;simp_all;cases g;cases hc
end
end Go.Am
end
section
namespace Go.Am
theorem LW{α:Type}{cs l:List α}{off size:Nat}(h:sub cs off size=some l):l.length=size/\off+size<=cs.length/\ ∀(i:Nat),i<size->l[i]?=cs[off+i]?:=by
 grind [sub]
theorem RB: ∀{cs:List AV} {l:List PV},unp cs=some l->cs=l.map .p
 |[],l,h=>by grind [unp]
 |x::cs,l,h=>by
  unfold unp at h;split at h;simp_all;rename_i c r e;injection e with e1 e2;subst e1 e2;split at h;rename_i l' g;injection h with h;subst h;simp[RB g];cases h;cases h
section
variable {P:Program} {F:Orc} {s:Sn} {a:Act} {env:List (Nat×AV)} {o:Oper} {new:Nat} {e:Eff}
theorem ZI{agg:Bool}{l:List PV}{x:AV}{vs:List Value}(h:nO agg l=some x)(hl:l.length=vs.length)
  (hr: ∀(i:Nat) y v,l[i]?=some y->vs[i]?=some v->J08 s.w s.g.C y v):
  (agg=true/\JF s x (.agg vs.toArray))\/(agg=false/\ ∃v,vs=[v]/\JF s x v):=by
 cases agg with
 |true=>simp[nO]at h;subst h;exact .inl ⟨rfl,.data _ _ (by simpa using hl) λi y v j e=>hr i y v j (by simpa using e)⟩
 |false=>
  simp only[nO,eI,if_false]at h;split at h;injection h with h;subst h;obtain⟨v,rfl⟩: ∃v,vs=[v]:=VI.1 (by simp_all);exact .inr ⟨rfl,v,rfl,.p _ _ (hr 0 _ v rfl rfl)⟩;cases h
theorem PP{agg:Bool}{l:List AV}{x:AV}{vs:List Value}(h:kG agg l=some x)(hl:l.length=vs.length)(h1: ∀v∈vs,v.oneCell'=true)
  (hr: ∀(i:Nat) y v,l[i]?=some y->vs[i]?=some v->JF s y v):
  (agg=true/\JF s x (.agg vs.toArray))\/(agg=false/\ ∃v,vs=[v]/\JF s x v):=by
 cases agg with
 |true=>
  simp only[kG,if_true]at h;split at h;rename_i q j;injection h with h;subst h;have:=RB j;subst this;refine .inl ⟨rfl,.data _ _ (by simpa using hl) λi y v g e=>?_⟩;have:=hr i (.p y) v (by simp[g]) (by simpa using e);cases this<;>simp_all
  injection h with h;subst h;exact .inl ⟨rfl,.agg _ _ (by simpa using hl) (λi v e=>h1 v (by grind)) λi y v g e=>hr i y v g (by simpa using e)⟩
 |false=>
  simp only[kG,eI,if_false]at h;split at h;injection h with h;subst h;obtain⟨v,rfl⟩: ∃v,vs=[v]:=VI.1 (by simp_all);exact .inr ⟨rfl,v,rfl,hr 0 _ v rfl rfl⟩;cases h
theorem sd{agg:Bool}{off size:Nat}{x r:AV}{v:Value}{t:TypeId}(h:qP agg off size x=some r)(hr:JF s x v)(ht:agT P t=some agg)(hs:szT P t=some size)
  (h1:agg=true\/size=1): ∃cs u,v=.agg cs/\(part t cs off).run P s.w=.ok u s.w/\JF s r u:=by
 have go: ∀(cs:Array Value) (vs:List Value),vs.length=size->(∀(i:Nat),i<size->vs[i]?=cs[off+i]?)->off+size<=cs.size->
   ((agg=true/\JF s r (.agg vs.toArray))\/(agg=false/\ ∃v,vs=[v]/\JF s r v))-> ∃u,(part t cs off).run P s.w=.ok u s.w/\JF s r u:=by
  intro cs vs j n C e;rcases e with⟨rfl,g⟩|⟨rfl,v,rfl,g⟩;refine⟨.agg (cs.extract off (off+size)),by simp_all [part,FJ,jJ],?_⟩;have:cs.extract off (off+size)=vs.toArray:=(by grind);simp_all;simp at j;subst j;have o:=n 0 (by omega);simp at o;exact⟨v,by simp[part,FJ ht,<-o],g⟩
 unfold qP at h;split at h;rename_i cs;split at h;rename_i l k;obtain⟨q,z,y⟩:=LW k;cases hr with
 |data _ vs A B=>
  have e:=ZI (s:=s) (vs:=((vs.toList.drop off).take size)) h (by simp;omega) (by
   grind)
  grind
 cases h;rename_i cs;split at h;rename_i l k;obtain⟨q,z,y⟩:=LW k;cases hr with
 |agg _ vs A D B=>
  have e:=PP (s:=s) (vs:=((vs.toList.drop off).take size)) h (by simp;omega) (by
   grind [List.getElem?_of_mem]) (by
   grind)
  grind
 cases h;cases h
theorem JGC(hi:Inv s)(he:bN s a.tmps env){agg off size x}(h:(opR F (.field agg off size x) new).run ⟨env,s.σ⟩=some e)(hc:bA P (.field agg off size x) o.op=true):bP P o a s e:=by
 simp only[opR]at h;obtain⟨u,h1,g⟩:=bind_some h;obtain⟨r,w,rfl⟩:=gH g;clear h g;unfold bA at hc;simp only at hc;split at hc;rename_i t y f A;simp only[aT]at hc;obtain⟨z,ht⟩:=hc;split at ht;rename_i fs B;split at ht;rename_i D C;simp only[aT,beq_iff_eq]at ht;obtain⟨⟨⟨E,n⟩,k⟩,j⟩:=ht;obtain⟨cs,v,H,G,q⟩:=sd w (bK he h1 z) k n (by simpa using j);exact JO hi (v:=v) (by simp_all [execOp,Instr.field,run_underlying,pv,asAgg]) q;cases ht;cases ht;cases hc
theorem JIV(hi:Inv s)(he:bN s a.tmps env){x i}(h:(opR F (.sidx x i) new).run ⟨env,s.σ⟩=some e)(hc:bA P (.sidx x i) o.op=true):bP P o a s e:=by
 simp only[opR]at h;obtain⟨u,h1,w⟩:=bind_some h;obtain⟨v,h2,g⟩:=bind_some w;clear h w;unfold bA at hc;simp only at hc;split at hc;rename_i t y j D;simp only[aT]at hc;obtain⟨⟨B,C⟩,ht⟩:=hc;have z:=bK he h1 B;have A:=bK he h2 C;split at g;rename_i l k n;split at g;rename_i I;split at g;rename_i b q;simp only[RM.run]at g;injection g with g;subst g;have G:=tP z;have H:=iE A;have E:(⟨l.toArray⟩:ByteArray)[n.toNat]?=some b:=by have r:=Jy q;rw[JX r]at q;rw[getElem?_pos _ _ (by grind [tW])];injection q with q;rw[<-q];rfl
 refine JO hi (v:=.int .u8 b.toNat) ?_ (tU _ _);simp_all [execOp,Instr.index,asIntOf,run_underlying,xC];cases g;cases g;cases g;cases hc
theorem JJw(hi:Inv s)(he:bN s a.tmps env){agg len esz x i}(h:(opR F (.aidx agg len esz x i) new).run ⟨env,s.σ⟩=some e)(hc:bA P (.aidx agg len esz x i) o.op=true):bP P o a s e:=by
 simp only[opR]at h;obtain⟨u,h1,A⟩:=bind_some h;obtain⟨v,h2,g⟩:=bind_some A;clear h A;unfold bA at hc;simp only at hc;split at hc;rename_i t y j q;simp only[aT]at hc;obtain⟨⟨L,N⟩,ht⟩:=hc;have E:=bK he h1 L;have G:=bK he h2 N;split at ht;rename_i n el z;simp only[aT,beq_iff_eq]at ht;obtain⟨⟨⟨rfl,B⟩,H⟩,C⟩:=ht;split at g;rename_i k m;split at g;rename_i M;obtain⟨r,K,rfl⟩:=gH g;obtain⟨cs,w,O,I,J⟩:=sd K E H B (by simpa using C);have D:=iE G;exact JO hi (v:=w) (by simp[execOp,q,O,D,Instr.index,asIntOf,run_underlying (ph z),M,jJ B,I]) J;cases g;cases g;cases ht;cases hc
theorem JHy(hi:Inv s)(he:bN s a.tmps env){len esz x i}(h:(opR F (.aaddr len esz x i) new).run ⟨env,s.σ⟩=some e)(hc:bA P (.aaddr len esz x i) o.op=true):bP P o a s e:=by
 simp only[opR]at h;obtain⟨u,h1,J⟩:=bind_some h;obtain⟨v,h2,C⟩:=bind_some J;obtain⟨r,g,rfl⟩:=gH C;clear h J C;unfold bA at hc;simp only at hc;split at hc;rename_i t y j H;simp only[aT]at hc;obtain⟨⟨Q,S⟩,ht⟩:=hc;have B:=bK he h1 Q;have M:=bK he h2 S;split at ht;rename_i n el I;simp only[aT,beq_iff_eq]at ht;obtain⟨rfl,O⟩:=ht;unfold LB at g;split at g;rename_i k m;split at g;rename_i R;have K:=iE M;have go: ∀(r q:Nat),a.eval y=.pointer (some ⟨r,q,none⟩)->(execOp a.eval o).run P s.w=.ok (.value (.pointer (some ⟨r,q+m.toNat*esz,none⟩))) s.w:=by intro r q A;simp[execOp,H,A,K,Instr.indexAt,asIntOf,run_underlying (ph I),Instr.sureAddr,R,jJ O,FS]
 generalize A:a.eval y=z at B;split at g<;>first|(injection g with g;subst g)|cases g
 cases B with
 |ptr _ _ r q L N=>exact JO hi (go _ _ A) (by rw[vB];exact .ptr _ _ r q L N)
 cases B with
 |cp cs _ r q vals G D=>exact JO hi (go _ _ A) (by rw[vB];exact .cp _ _ r q vals G D)
 cases B with
 |ep _ _ _ _ _ wm E rows p0 G D T=>
  obtain⟨r,q,rfl⟩:=p0;refine JO hi (go _ _ A) (.ep _ _ _ _ _ wm E rows ⟨_,_,rfl⟩ G D λV U=>?_);grind
 cases g;cases g;cases ht;cases hc
theorem JHf(hi:Inv s)(he:bN s a.tmps env){esz x i}(h:(opR F (.iaddr esz x i) new).run ⟨env,s.σ⟩=some e)(hc:bA P (.iaddr esz x i) o.op=true):bP P o a s e:=by
 simp only[opR]at h;obtain⟨u,h1,N⟩:=bind_some h;obtain⟨v,h2,g⟩:=bind_some N;clear h N;unfold bA at hc;simp only at hc;split at hc;rename_i t y j M;simp only[aT]at hc;obtain⟨⟨E,hj⟩,ht⟩:=hc;have G:=bK he h1 E;have S:=bK he h2 hj;split at ht;rename_i el O;simp only[beq_iff_eq]at ht;have go: ∀(r A len cap:Nat) k (m:Int),a.eval j=.int k m->a.eval y=.slice (some ⟨r,A,none⟩) len cap->0<=m->m<len->
   (execOp a.eval o).run P s.w=.ok (.value (.pointer (some ⟨r,A+m.toNat*esz,none⟩))) s.w:=by
  intro r A len cap k m C D Z I;simp[execOp,M,D,C,Instr.indexAt,asIntOf,run_underlying (kH O),Z,I,jJ ht,FS]
 unfold lZ at g;split at g;rename_i B rows k n;split at g;rename_i Q;subst Q;split at g;rename_i row q;simp only[RM.run]at g;injection g with g;subst g;unfold OJ at q;split at q;rename_i L;have C:=iE S;generalize D:a.eval y=z at G;cases G with
 |p _ _ V=>
  cases V with
  |sl0 _ ad cap=>simp at q
  |sl _ _ r A cap vals p1 p2 T U=>have I:=Jy q;refine JO hi (go r A _ cap k n C D L (by omega)) ?_;have:=JF.cp (s:=s) row 0 r (A+n.toNat*esz) (λj=>vals n.toNat j) (λj x E=>T n.toNat j row x q E) (λj x E=>U n.toNat j row x q E);simp_all
 cases q;cases g;cases g;rename_i b j' m k n;simp only[RM.run]at g;split at g;rename_i blk hb;split at g;rename_i wm B rows;split at g;rename_i K;obtain⟨rfl,R,L,a8⟩:=K;simp only[RM.run]at g;injection g with g;subst g;have C:=iE S;generalize D:a.eval y=z at G;cases G with
 |slr _ _ _ _ wm' B rows' q0 H q2 q3=>
  have J:s.σ[b]?=some (.arr wm esz rows):=hb;rw[J]at H;injection H with H;injection H with a1 a2 a3;subst a1 a2 a3;rcases q3 R with⟨_,_,a7,_⟩|⟨r,cap,c,e1,fz,Y,hv,W,hh,hs⟩;omega;subst hv;refine JO hi (go r _ _ cap k n C D L (by omega)) (.ep _ _ _ _ _ wm esz rows ⟨_,_,rfl⟩ J (zQ0 _) λ_ _=>⟨r,Y,?_⟩);grind
 cases g;cases g;cases g;cases g;cases ht;cases hc
end
end Go.Am
end
section
namespace Go.Am
theorem eM(a b:List (Nat×Blk))(σ:List Blk):upd (a++b) σ=upd b (upd a σ):=by simp[upd]
section
variable {P:Program} {F:Orc} {s:Sn} {a:Act} {env:List (Nat×AV)} {o:Oper} {new:Nat} {e:Eff}
theorem MO{e:List Blk}(hi:Inv s)(j:Frz e s.σ){b i n:Nat}{y:List PV×List (Nat×Blk)}{v:Value}(h:(fz (.slr b i n)).run ⟨env,e⟩=some y)(hr:JF s (.slr b i n) v):
  ∃g',Inv ⟨upd y.2 s.σ,g',s.w⟩/\bC s ⟨upd y.2 s.σ,g',s.w⟩/\Frz s.σ (upd y.2 s.σ)/\ ∃c,y.1=[c]/\J08 s.w g'.C c v:=by
 simp only[fz,RM.run]at h;split at h;rename_i blk k;split at h;rename_i wm esz rows;split at h;rename_i hc;simp only[RM.run]at h;injection h with h;subst h;obtain⟨wm',g⟩:=j.1 b _ _ _ k;obtain⟨g',h1,h2,q,o⟩:=JFl hi hr g hc;exact⟨g',h1,h2,q,_,rfl,o⟩;cases h;cases h;cases h
theorem JIE{e:List Blk}(hi:Inv s)(j:Frz e s.σ){x:AV}{y:List PV×List (Nat×Blk)}{v:Value}(h:(fz.fz1 x).run ⟨env,e⟩=some y)(hr:JF s x v):
  ∃g',Inv ⟨upd y.2 s.σ,g',s.w⟩/\bC s ⟨upd y.2 s.σ,g',s.w⟩/\Frz s.σ (upd y.2 s.σ)/\ ∃c,y.1=[c]/\J08 s.w g'.C c v:=by
 cases x with
 |p c=>
  simp only[fz.fz1,RM.run]at h;injection h with h;subst h;cases hr with
  |p _ _ hr=>exact⟨s.g,hi,.refl s,.refl _,c,rfl,hr⟩
 |slr b i n=>exact MO hi j (by exact h) hr
 |_=>grind [fz.fz1,RM.run]
theorem Hf{A:List Blk}: ∀{xs:List AV} {s:Sn} {y:List PV×List (Nat×Blk)} {vs:List Value},Inv s->Frz A s.σ->(fz.fzL xs).run ⟨env,A⟩=some y->xs.length=vs.length->
  (∀(i:Nat) x v,xs[i]?=some x->vs[i]?=some v->JF s x v)->
  ∃g',Inv ⟨upd y.2 s.σ,g',s.w⟩/\bC s ⟨upd y.2 s.σ,g',s.w⟩/\Frz s.σ (upd y.2 s.σ)/\y.1.length=vs.length/\
   ∀(i:Nat) c v,y.1[i]?=some c->vs[i]?=some v->J08 s.w g'.C c v
 |[],s,y,vs,hi,j,h,e,k=>by
  simp only[fz.fzL,RM.run]at h;injection h with h;subst h;exact⟨s.g,hi,.refl s,.refl _,by simpa using e,λi c v hc=>by simp at hc⟩
 |x::xs,s,y,[],hi,j,h,e,k=>by simp at e
 |x::xs,s,y,v::vs,hi,j,h,e,k=>by
  simp only[fz.fzL]at h;obtain⟨o,h1,h⟩:=bind_some h;obtain⟨G,h2,h⟩:=bind_some h;simp only[RM.run]at h;injection h with h;subst h;obtain⟨D,i1,z,r,c,hc,F⟩:=JIE hi j h1 (k 0 x v rfl rfl);obtain⟨B,i2,q,E,J,L⟩:=Hf (s:=⟨upd o.2 s.σ,D,s.w⟩) i1 (j.trans r) h2 (by simpa using e) λi x v H I=>(k (i+1) x v (by simpa using H) (by simpa using I)).mono hi z;refine⟨B,by grind [eM],by rw[eM];exact z.trans q,by rw[eM];exact r.trans E,by simp[hc,J],λi c' K hc' n=>?_⟩;rw[hc]at hc';cases i with
  |zero=>simp at hc' n;subst hc' n;exact J08.mono (s0:=⟨upd o.2 s.σ,D,s.w⟩) (s:=⟨upd G.2 (upd o.2 s.σ),B,s.w⟩) i1 q F
  |succ i=>grind
theorem YN{k:List Blk}(hi:Inv s)(j:Frz k s.σ){x:AV}{y:List PV×List (Nat×Blk)}{v:Value}(h:(fz x).run ⟨env,k⟩=some y)(hr:JF s x v):
  ∃g',Inv ⟨upd y.2 s.σ,g',s.w⟩/\bC s ⟨upd y.2 s.σ,g',s.w⟩/\Frz s.σ (upd y.2 s.σ)/\y.1.length=v.cells.size/\
   ∀(i:Nat) c u,y.1[i]?=some c->v.cells[i]?=some u->J08 s.w g'.C c u:=by
 cases x with
 |p c=>
  simp only[fz,RM.run]at h;injection h with h;subst h;cases hr with
  |p _ _ hr=>
   refine⟨s.g,hi,.refl s,.refl _,by rw[hr.cells1];rfl,λi c' u hc e=>?_⟩;rw[hr.cells1]at e;grind
 |data cs=>
  simp only[fz,RM.run]at h;injection h with h;subst h;cases hr with
  |data _ vs h1 h2=>exact⟨s.g,hi,.refl s,.refl _,h1,λi c u hc e=>h2 i c u hc e⟩
 |slr b i n=>
  obtain⟨g',h1,h2,q,c,hc,o⟩:=MO hi j h hr;refine⟨g',h1,h2,q,by rw[hc,o.cells1];rfl,λi c' u hc' e=>?_⟩;rw[o.cells1]at e;grind
 |agg cs=>
  simp only[fz]at h;cases hr with
  |agg _ vs h1 G h2=>
   obtain⟨g',A,E,B,F,D⟩:=Hf (vs:=vs.toList) hi j h (by simpa using h1) λi x v r z=>h2 i x v r (by simpa using z);grind [Value.cells]
 |_=>grind [fz,RM.run]
theorem FH(he:bN s a.tmps env){x:Option Opd}{y:Option Operand}{v:Option AV}(h:(evo x).run ⟨env,s.σ⟩=some v)(hc:wA x y=true):
  (v=none/\y=none)\/ ∃u q,v=some u/\y=some q/\JF s u (a.eval q):=by
 cases x with
 |none=>
  grind [evo,RM.run,wA]
 |some x=>
  cases y with
  |none=>grind [wA]
  |some y=>
   simp only[evo]at h;obtain⟨u,h1,h⟩:=bind_some h;simp only[RM.run]at h;injection h with h;subst h;exact .inr ⟨u,y,rfl,rfl,bK he h1 hc⟩
theorem RZ{x:AV}{top n j:Nat}{v:Value}(h:pA (some x) top j=some n)(hr:JF s x v)(g:Nat)(o:top<=g)(k:BoundsCode)(w:World):
  (Instr.sliceBound v g k).run P w=.ok n w/\n<=top:=by
 unfold pA at h;split at h;simp_all;rename_i e;injection e with e;subst e;split at h;rename_i hc;injection h with h;subst h;have:=iE hr;grind [Instr.sliceBound,asIntOf,Sem.run_pure];cases h;cases h
theorem JFb{n:Nat}{lo hi:Option AV}{c:Nat×Nat}(h:vE n lo hi=some c):pA hi n n=some c.2/\pA lo c.2 0=some c.1:=by
 grind [vE]
theorem fv(he:bN s a.tmps env){lo hi:Option Opd}{o n:Option Operand}{l h:Option AV}{len cap:Nat}{c:Nat×Nat}{isSlice:Bool}
  (h1:(evo lo).run ⟨env,s.σ⟩=some l) (h2:(evo hi).run ⟨env,s.σ⟩=some h) (x:wA lo o=true) (B:wA hi n=true)
  (hc:vE len l h=some c) (r:len<=cap) (w:World):
  (Instr.sliceBounds isSlice len cap (o.map a.eval) (n.map a.eval) none).run P w=.ok (c.1,c.2,cap) w/\c.1<=c.2/\c.2<=len:=by
 obtain⟨k,e⟩:=JFb hc;obtain⟨i,j⟩:=c;rcases FH he h2 B with⟨rfl,rfl⟩|⟨u,q,rfl,rfl,z⟩;simp[pA]at k;subst k;rcases FH he h1 x with⟨rfl,rfl⟩|⟨A,q',rfl,rfl,g⟩;simp[pA]at e;subst e;simp[Instr.sliceBounds];obtain⟨v,y⟩:=RZ (P:=P) e g len (zQ0 _) .sliceB w;simp_all [Instr.sliceBounds];rcases FH he h1 x with⟨rfl,rfl⟩|⟨A,q',rfl,rfl,g⟩;obtain⟨v,y⟩:=RZ (P:=P) k z cap r (if isSlice then .sliceAcap else .sliceAlen) w;simp[pA]at e;subst e;simp_all [Instr.sliceBounds];obtain⟨v,y⟩:=RZ (P:=P) k z cap r (if isSlice then .sliceAcap else .sliceAlen) w;obtain⟨C,D⟩:=RZ (P:=P) e g j (zQ0 _) .sliceB w;simp_all [Instr.sliceBounds]
theorem E3{esz:Nat}{rows:List (List PV)}{v:Value}{i j:Nat}(h:J08 s.w s.g.C (.sl esz rows) v)(hij:i<=j)(hj:j<=rows.length):
  ∃e cap,v=.slice e rows.length cap/\rows.length<=cap/\
   J08 s.w s.g.C (.sl esz ((rows.drop i).take (j-i))) (.slice (if cap=i then e else e.map (·.add (i*esz))) (j-i) (cap-i)):=by
 have hlen:((rows.drop i).take (j-i)).length=j-i:=by simp;omega
 cases h with
 |sl0 _ e cap=>
  have q:j=0:=by simpa using hj
  have n:i=0:=by omega
  subst q n;refine⟨e,cap,rfl,zQ2 _,?_⟩;simpa using J08.sl0 (w:=s.w) (C:=s.g.C) esz _ _
 |sl _ _ r o cap vals A z G H=>
  refine⟨_,cap,rfl,A,?_⟩;by_cases y:cap=i;have B:j-i=0:=by omega
  rw[B];simpa using J08.sl0 (w:=s.w) (C:=s.g.C) esz _ _;rw[if_neg y];have:=J08.sl (w:=s.w) (C:=s.g.C) esz ((rows.drop i).take (j-i)) r (o+i*esz) (cap-i) (λk m=>vals (i+k) m) (by omega)
   (λrow E=>z row (zQ7 (UJ E)))
   (λk m row x D F=>by
    grind)
   (λk m row x D F=>by
    grind)
  grind [FS]
def zJ(k:SK)(x:AV)(lo hi:Option AV):Option AV:=
 match k with
 | .str=>wO x lo hi
 | .sl esz=>wL esz x lo hi
theorem Fp(hi:Inv s){k:SK}{t:TypeId}{y:Operand}{A z:Option Operand}{q:Operand}{c:PV}{l I:Option AV}{u r:AV}{g':Gh}{ws:List (Nat×Blk)}
  (D:o.op=.slice t y A z (some q)) (ht:(match k with
   | .str=>jW P t
   | .sl esz=>(match elT P t with|some e=>szT P e==some esz|none=>false))=true)
  (hl:l=none->A=none) (G: ∀H,I=some H-> ∃q',z=some q'/\JF s H (a.eval q')) (hu:JF s u (a.eval q))
  (hs:kE k (.p c) l I (some u)=some r) (E:Inv ⟨upd ws s.σ,g',s.w⟩) (t':bC s ⟨upd ws s.σ,g',s.w⟩) (hr:J08 s.w g'.C c (a.eval y)):bP P o a s ⟨r,ws⟩:=by
 cases k with
 |str=>grind [kE]
 |sl esz=>
  simp only[kE]at hs;unfold OX at hs;split at hs;rename_i O rows R h1 T U h;injection h with h;subst h;split at hs;rename_i hc;obtain⟨rfl,rfl,rfl⟩:=hc;injection hs with hs;subst hs;obtain⟨q',rfl,B⟩:=G _ rfl;obtain rfl:=hl rfl;have Y:=iE B;have W:=iE hu;simp only at ht;split at ht;rename_i el F;simp only[beq_iff_eq]at ht;obtain⟨g,cap,J,N,hrel⟩:=E3 (s:=⟨s.σ,g',s.w⟩) (i:=0) (j:=rows.length) hr (zQ2 _) (zQ0 _);have Q: ∀w:World,(Instr.sliceBounds true rows.length cap none (some (a.eval q')) (some (a.eval q))).run P w=.ok (0,rows.length,rows.length) w:=by simp_all [Instr.sliceBounds,Instr.sliceBound,asIntOf]
  have n:J08 s.w g'.C (.slc esz rows) (.slice g rows.length rows.length):=by
   refine .slc esz rows g ?_;rw[J]at hr;cases hr with
   |sl0=>exact .sl0 _ _ _
   |sl _ _ r o cap vals S M K L=>exact .sl esz rows r o rows.length vals (zQ0 _) M K L
  refine hU (e:=⟨_,ws⟩) (w':=s.w) (g':=g') (v:=.slice g rows.length rows.length) ?_ E t' (.p _ _ n);have V:(if rows.length=0 then g else g.map λx=>x.add (0*esz))=g:=by simp[Addr.add]
  simp only[execOp,D,J];simp[Instr.sliceAt,Instr.slice,run_underlying (kH F),Q,jJ ht];simp_all;cases ht;cases hs;cases hs
theorem JGj(hi:Inv s)(he:bN s a.tmps env){k x lo z mx}(h:(opR F (.slice k x lo z mx) new).run ⟨env,s.σ⟩=some e)(hc:bA P (.slice k x lo z mx) o.op=true):bP P o a s e:=by
 simp only[opR]at h;obtain⟨u,h1,h⟩:=bind_some h;obtain⟨l,h2,h⟩:=bind_some h;obtain⟨B,Q,h⟩:=bind_some h;obtain⟨m,h4,h⟩:=bind_some h;unfold bA at hc;simp only at hc;split at hc
 ·rename_i t y W U ae E;simp only[aT]at hc;obtain⟨⟨⟨⟨hx,O⟩,N⟩,c3⟩,ht⟩:=hc;have q:=bK he h1 hx;rcases FH he h4 c3 with⟨rfl,rfl⟩|⟨um,qm,rfl,rfl,K⟩
  case inr=>
   have H:l=none->W=none:=(by grind [FH]);have J: ∀u',B=some u'-> ∃q',U=some q'/\JF s u' (a.eval q'):=(by grind [FH]);split at h;rename_i b i n;obtain⟨y',R,h⟩:=bind_some h;obtain⟨g',i1,t1,f1,c,L,V⟩:=MO hi (.refl _) R q;split at h;rename_i c' hc';rw[L]at hc';injection hc' with hc';subst hc';split at h;rename_i r v;simp only[RM.run]at h;injection h with h;subst h;exact Fp hi E ht H J K v i1 t1 V;cases h;cases h;rename_i x' T;obtain⟨r,v,rfl⟩:=gH h;cases u with
   |p c=>
    cases q with
    |p _ _ q=>exact Fp (ws:=[]) (g':=s.g) hi E ht H J K v hi (.refl s) q
   |_=>grind [kE,OX]
  have A: ∀{c:AV} {r},kE k c l B none=some r->(none:Option Operand)=none/\zJ k c l B=some r:=by intro c r j;exact⟨rfl,j⟩
  have S: ∀{b:List UInt8} {r},kE k (.p (.s b)) l B none=some r->a.eval y=.string ⟨b.toArray⟩->bP P o a s ⟨r,[]⟩:=by
   intro b r j hz;obtain⟨_,G⟩:=A j;clear j;have j:=G;clear G;cases k with
   |sl esz=>grind [zJ,wL]
   |str=>
    simp only[zJ,wO]at j;split at j;rename_i c hc;injection j with j;subst j;have ab:=xC ht;obtain⟨hb,hij,aa⟩:=fv (P:=P) (isSlice:=false) (cap:=b.length) he h2 Q O N hc (zQ0 _) s.w;have ac:(⟨b.toArray⟩:ByteArray).extract c.1 c.2=⟨((b.drop c.1).take (c.2-c.1)).toArray⟩:=by apply ByteArray.ext;simp_all
    simp_all [JO,Ht,execOp,Instr.sliceAt,Instr.slice,run_underlying,tW];cases j
  have D: ∀{s':Sn} {ws} {esz rows r} {g'},s'=⟨upd ws s.σ,g',s.w⟩->Inv s'->bC s s'->kE k (.p (.sl esz rows)) l B none=some r->J08 s'.w s'.g.C (.sl esz rows) (a.eval y)->bP P o a s ⟨r,ws⟩:=by
   intro s' ws esz rows r g' hs' z t' j v;obtain⟨_,G⟩:=A j;clear j;have j:=G;clear G;cases k with
   |str=>grind [zJ,wO]
   |sl ez=>
    simp only[zJ,wL]at j;split at j;rename_i Z;subst Z;split at j;rename_i c hc;injection j with j;subst j;simp only at ht;split at ht;rename_i el Y;simp only[beq_iff_eq]at ht;have I:=fv (P:=P) (isSlice:=true) he h2 Q O N hc (zQ0 _) s.w;obtain⟨ad,cap,hv,M,hrel⟩:=E3 v I.2.1 I.2.2;obtain⟨hb,_,_⟩:=fv (P:=P) (isSlice:=true) he h2 Q O N hc M s.w;subst hs';refine hU (e:=⟨_,ws⟩) (w':=s.w) (g':=g') ?_ z t' (.p _ _ hrel);simp only[execOp,E,hv];simp[Instr.sliceAt,Instr.slice,run_underlying (kH Y),hb,jJ ht];cases ht;cases j;cases j
  split at h;rename_i b i n;obtain⟨y',R,h⟩:=bind_some h;obtain⟨g',i1,t1,f1,c,L,V⟩:=MO hi (.refl _) R q;grind [RM.run,fz];rename_i x' T;obtain⟨r,v,rfl⟩:=gH h;cases u with
  |p c=>
   cases c with
   |s b=>grind [tP]
   |sl esz rows=>cases q with|p _ _ q=>exact D (s':=s) (ws:=[]) (g':=s.g) rfl hi (.refl s) v q
   |_=>grind [zJ,wO,wL]
  |slr b i n=>simp_all
  |_=>grind [zJ,wO,wL]
 cases hc
end
end Go.Am
end
section
namespace Go.Am
section
variable {P:Program} {F:Orc} {s:Sn} {a:Act} {env:List (Nat×AV)} {o:Oper} {new:Nat} {e:Eff}
theorem qw(hi:Inv s){agg:Bool}{size:Nat}{x:AV}{v:Value}(h:(gE agg size x).run ⟨env,s.σ⟩=some e)(hr:JF s x v):
  ∃r o vs,v=.pointer (some ⟨r,o,none⟩)/\vs.length=size/\(∀(k:Nat) u,vs[k]?=some u->cellAt s.w r (o+k)=some u)/\e.ws=[]/\
   ((agg=true/\JF s e.val (.agg vs.toArray))\/(agg=false/\ ∃u,vs=[u]/\JF s e.val u)):=by
 unfold gE at h;split at h;rename_i cs off;split at h;rename_i l z;obtain⟨r',A,rfl⟩:=gH h;obtain⟨n,J,I⟩:=LW z;cases hr with
 |cp _ _ r o vals q N=>
  have P: ∀(i:Nat) y u,l[i]?=some y->((List.range size).map λi=>vals (off+i))[i]?=some u->J08 s.w s.g.C y u:=(by grind);refine⟨r,o+off,(List.range size).map λi=>vals (off+i),rfl,by simp,λk u D=>?_,rfl,ZI A (by simp[n]) P⟩;grind
 cases h
 ·rename_i b off;simp only[RM.run]at h;split at h
  ·rename_i blk H;split at h
   ·rename_i cs;split at h
    ·rename_i l z;obtain⟨r',A,rfl⟩:=gH h;obtain⟨n,J,I⟩:=LW z;cases hr with
     |ptr _ _ r o m Y=>
      obtain⟨O,o1,c,V,fz,j,R,K,U,S⟩:=hi.box b cs H;rw[m]at j;injection j with j;injection j with m1 m2;subst m1 m2;have B: ∀k,k<size-> ∃u,c[o+(off+k)]?=some u/\u.oneCell'=true/\ ∀y,l[k]?=some y->JF s y u:=(by grind);refine⟨r,o+off,(List.range size).map λi=>(c[o+(off+i)]?).getD .nilFunc,rfl,by simp,λk u D=>?_,rfl,PP A (by simp[n]) (λv L=>?_) λi y u T D=>?_⟩
      all_goals grind [jK]
    cases h
   cases h
  cases h
 ·rename_i b ext i off;simp only[RM.run]at h;split at h
  ·rename_i blk H;split at h
   ·rename_i wm esz rows;split at h
    ·rename_i G;split at h
     ·rename_i row F;split at h
      ·rename_i l z;obtain⟨r',A,rfl⟩:=gH h;obtain⟨n,J,I⟩:=LW z;have E:s.σ[b]?=some (.arr wm esz rows):=H;cases hr with
       |ep _ _ _ _ _ wm' Q rows' p0 q N M=>
        rw[E]at q;injection q with q;injection q with a1 a2 a3;subst a1 a2 a3;have W:=Jy F;obtain⟨r,m,L⟩:=M G (by omega);rcases hi.arr b _ _ _ E with⟨j,_⟩|⟨O,c,V,fz,j,R,Z,K,U,S⟩;simp_all
        ·rw[m]at j;injection j with j;injection j with m1 _;subst m1
         have B: ∀k,k<size-> ∃u,c[i*esz+(off+k)]?=some u/\ ∀y,l[k]?=some y->J08 s.w s.g.C y u:=(by grind);refine⟨r,i*esz+off,(List.range size).map λk=>(c[i*esz+(off+k)]?).getD .nilFunc,L,by simp,λk u D=>?_,rfl,ZI A (by simp[n]) λk y u T D=>?_⟩
         all_goals grind [jK]
      cases h
     cases h
    cases h
   cases h
  cases h
 cases h
theorem tw{t:TypeId}{agg:Bool}{size:Nat}(ht:agT P t=some agg)(hs:szT P t=some size){r o:Nat}{vs:List Value}{w:World}(hl:vs.length=size)
  (h: ∀(k:Nat) u,vs[k]?=some u->cellAt w r (o+k)=some u):
  (agg=true->(loadVar t ⟨r,o,none⟩).run P w=.ok (.agg vs.toArray) w)/\(agg=false-> ∀u,vs=[u]->(loadVar t ⟨r,o,none⟩).run P w=.ok u w):=by
 constructor;rintro rfl;subst hl;simp_all [loadVar,FJ,jJ,ra];rintro rfl u rfl;have:=h 0 u rfl;simp_all [loadVar,FJ,rA]
theorem JJG(hi:Inv s)(he:bN s a.tmps env){agg size x}(h:(opR F (.load agg size x) new).run ⟨env,s.σ⟩=some e)(hc:bA P (.load agg size x) o.op=true):bP P o a s e:=by
 simp only[opR]at h;obtain⟨u,h1,n⟩:=bind_some h;clear h;unfold bA at hc;simp only at hc;split at hc
 ·rename_i t y B;simp only[aT,beq_iff_eq]at hc;obtain⟨⟨⟨ht,z⟩,A⟩,D⟩:=hc;obtain⟨r,G,vs,I,v,g,j,k⟩:=qw hi n (bK he h1 A);obtain⟨C,H⟩:=tw (P:=P) ht z v g;obtain⟨ev,E⟩:=e;simp only at j k;subst j;rcases k with⟨rfl,w⟩|⟨rfl,q,rfl,w⟩
  all_goals simp_all [JO,execOp,Instr.loadAt,Instr.sureAddr]
 cases hc
theorem SR{x:AV}{l:List AV}{v:Value}(h:cellsOf x=some l)(hr:JF s x v):
  l.length=v.cells.size/\(∀u∈v.cells.toList,u.oneCell'=true)/\ ∀(i:Nat) y u,l[i]?=some y->v.cells[i]?=some u->JF s y u:=by
 have e: ∀{z:AV},JF s z v->v.cells= #[v]->v.oneCell'=true->l=[z]->l.length=v.cells.size/\(∀u∈v.cells.toList,u.oneCell'=true)/\ ∀(i:Nat) y u,l[i]?=some y->v.cells[i]?=some u->JF s y u:=(by grind);cases hr with
 |p c _ q=>simp[cellsOf]at h;exact e (.p _ _ q) q.cells1 q.one h.symm
 |data cs vs h1 h2=>
  simp[cellsOf]at h;subst h;refine⟨by grind [Value.cells],λu A=>?_,λi y u w A=>?_⟩;obtain⟨i,hi⟩:=fP A;have hi:vs[i]?=some u:=by grind [Value.cells]
  have G:=SG hi;exact(h2 i cs[i] u (by simp_all) hi).one;rw[fF]at w;cases hcs:cs[i]? with
  |none=>simp_all
  |some c=>simp[hcs]at w;subst w;exact .p _ _ (h2 i c u hcs A)
 |agg cs vs h1 H h2=>
  grind [cellsOf,Value.cells,List.getElem?_of_mem]
 |tup=>grind [cellsOf]
 |unk=>grind [cellsOf]
 |pre=>simp[cellsOf]at h
 |ptr b off r o m C=>simp[cellsOf]at h;exact e (.ptr b off r o m C) rfl rfl h.symm
 |cp cs off r o vals j g=>simp[cellsOf]at h;exact e (.cp cs off r o vals j g) rfl rfl h.symm
 |slr b i n _ wm esz rows p0 j g k=>obtain⟨B,cap,rfl,F⟩:=p0;simp[cellsOf]at h;exact e (.slr b i n _ wm esz rows ⟨B,cap,rfl,F⟩ j g k) rfl rfl h.symm
 |ep b ext i off _ wm esz rows p0 j g k=>obtain⟨r,o,rfl⟩:=p0;simp[cellsOf]at h;exact e (.ep b ext i off _ wm esz rows ⟨r,o,rfl⟩ j g k) rfl rfl h.symm
 |fn f first caps fs cs h1 h2 E D=>simp[cellsOf]at h;exact e (.fn f first caps fs cs h1 h2 E D) rfl rfl h.symm
theorem JKo(hi:Inv s)(he:bN s a.tmps env)(hn:s.σ[new]?=some .dead){size x}(h:(opR F (.box size x) new).run ⟨env,s.σ⟩=some e)(hc:bA P (.box size x) o.op=true):bP P o a s e:=by
 simp only[opR]at h;obtain⟨u,h1,g⟩:=bind_some h;clear h;unfold bA at hc;simp only at hc;split at hc;rename_i t y B;have z:=bK he h1 hc;split at g;rename_i cs hcs;split at g;cases g;obtain⟨C,q,n⟩:=SR hcs z;obtain⟨r,t'⟩:=QI hi hn (blk:=.box cs) (c:=(a.eval y).cells) (e:=t) (fz:=(0,0)) (w':={s.w with heap:=s.w.heap.push (.cells (a.eval y).cells t)}) rfl rfl rfl
  (λo _ _ h=>by simp at h) (λ_ _ _ h=>by cases h) ⟨by omega,λi x j=>by
   have A:=Jy j;have k:i<(a.eval y).cells.size:=by omega
   exact⟨(a.eval y).cells[i],by simp,n i x _ j (by simp),q _ (by simp)⟩⟩
 refine hU (e:=⟨.ptr new 0,[(new,.box cs)]⟩) (v:=.pointer (some ⟨s.w.heap.size,0,none⟩)) ?_ r t' (.ptr new 0 _ 0 (if_pos rfl) ⟨cs,jM hn⟩);simp_all [execOp,Instr.box,newVar,newRow];cases g;cases g;cases hc
theorem AL{zero:List PV}{t:TypeId}(h:mY P zero t=true): ∃v,zeT P t=some v/\zero.length=v.cells.size/\
  ∀{w C} (i:Nat) x u,zero[i]?=some x->v.cells[i]?=some u->J08 w C x u:=by
 unfold mY at h;split at h;rename_i v e;refine⟨v,e,?_,λi x u j g=>?_⟩;simpa using(RG (w:=default) (C:=λ_ _=>True) h).1;exact(RG h).2 i x u j (by simpa using g);cases h
theorem FQ{t:TypeId}{v:Value}(h:zeT P t=some v)(w:World):(zeroValue t).run P w=.ok v w:=by unfold zeT at h;cases hi:P.info? t<;>simp_all [zeroValue,wh]
theorem JEO(hi:Inv s)(hn:s.σ[new]?=some .dead){zero}(h:(opR F (.newbox zero) new).run ⟨env,s.σ⟩=some e)(hc:bA P (.newbox zero) o.op=true):bP P o a s e:=by
 simp only[opR,RM.run]at h;cases h;unfold bA at hc;simp only at hc;split at hc;rename_i t z;obtain⟨v,A,q,r⟩:=AL hc;obtain⟨n,t'⟩:=QI hi hn (blk:=.box (zero.map .p)) (c:=v.cells) (e:=t) (fz:=(0,0)) (w':={s.w with heap:=s.w.heap.push (.cells v.cells t)}) rfl rfl rfl
  (λo _ _ h=>by simp at h) (λ_ _ _ h=>by cases h) ⟨by simp[q],λi x j=>by
   rw[fF]at j;cases hz:zero[i]? with
   |none=>simp[hz]at j
   |some c=>
    simp[hz]at j;subst j;have y:=Jy hz;have k:i<v.cells.size:=by omega
    have:=r (w:=s.w) (C:=s.g.C) i c v.cells[i] hz (by simp);exact⟨v.cells[i],by simp,.p _ _ this,this.one⟩⟩
 refine hU (e:=⟨.ptr new 0,[(new,.box (zero.map .p))]⟩) (v:=.pointer (some ⟨s.w.heap.size,0,none⟩)) ?_ n t' (.ptr new 0 _ 0 (if_pos rfl) ⟨_,jM hn⟩);simp_all [execOp,Instr.alloc,FQ,newVar,newRow];cases hc
theorem JGk(hi:Inv s)(hn:s.σ[new]?=some .dead){esz x}(h:(opR F (.mkarr esz x) new).run ⟨env,s.σ⟩=some e)(hc:bA P (.mkarr esz x) o.op=true):bP P o a s e:=by
 simp only[opR,RM.run]at h;cases h;obtain⟨k,t'⟩:=QN hi hn esz;have hrel:JF ⟨s.σ.set new (.arr true esz []),eS s.g new none,s.w⟩ (.slr new 0 0) (.slice none 0 0):=
  .slr new 0 0 _ true esz [] ⟨none,0,rfl,.inl rfl⟩ (jM hn) (zQ0 _) λ_=>.inl ⟨if_pos rfl,rfl,rfl,rfl⟩
 unfold bA at hc;simp only at hc;split at hc;rename_i j;exact hU (e:=⟨.slr new 0 0,[(new,.arr true esz [])]⟩) (v:=.slice none 0 0) (by simp only[execOp,j];rfl) k t' hrel;rename_i j;exact hU (e:=⟨.slr new 0 0,[(new,.arr true esz [])]⟩) (v:=.slice none 0 0) (by simp only[execOp,j];rfl) k t' hrel;cases hc
theorem PZ{α:Type}{cs vs cs':List α}{off:Nat}(h:spl cs off vs=some cs'):cs'.length=cs.length/\off+vs.length<=cs.length/\
  (∀(i:Nat),i<vs.length->cs'[off+i]?=vs[i]?)/\ ∀k,(k<off\/off+vs.length<=k)->cs'[k]?=cs[k]?:=by
 unfold spl at h;split at h;simp_all
 ·split at h
  ·rename_i hc;cases h;refine⟨by simp;omega,hc,λi hi=>?_,λk e=>?_⟩
   all_goals grind
  cases h
theorem JBX{w:World}{r o:Nat}{vs:List Value}{c:Array Value}{et:TypeId}{fz:Nat×Nat}(e:w.heap[r]?=some (.cells c et fz))(hl:o+vs.length<=c.size)
  (hf:DZ fz o (o+vs.length)) (h1: ∀v∈vs,v.oneCell'=true):(storeCells ⟨r,o,none⟩ vs).run P w=.ok () (w.setCells r o vs):=by
 have:=run_storeCells_cells (P:=P) r o vs 0 w
  (λj g=>by rw[rA,jK e];simp;omega)
  (λj g=>by
   have:=hf (o+0+j) (by omega) (by omega);grind [World.frozen?]) h1
 simp_all
theorem gz{t:TypeId}{v:Value}{w:World}{r o:Nat}{c:Array Value}{et:TypeId}{fz:Nat×Nat}(hs:szT P t=some v.cells.size)(e:w.heap[r]?=some (.cells c et fz))(hl:o+v.cells.size<=c.size)
  (hf:DZ fz o (o+v.cells.size)) (h1: ∀u∈v.cells.toList,u.oneCell'=true):(storeVar t ⟨r,o,none⟩ v).run P w=.ok () (w.setCells r o v.cells.toList):=by
 have:=JBX (P:=P) (vs:=v.cells.toList) e (by simpa using hl) (by simpa using hf) h1;simp_all [storeVar,jJ]
theorem fe{o:Oper}{e:Eff}{w':World}{g':Gh}(hr:(execOp a.eval o).run P s.w=.ok .skip w')(g:e.val=gG)
  (hi:Inv ⟨upd e.ws s.σ,g',w'⟩) (t:bC s ⟨upd e.ws s.σ,g',w'⟩):bP P o a s e:=by
 intro next Q h;simp only[Oper.wp,hr,Oper.upon];exact h undef w' g' hi t (by rw[g];exact .tup _ _ rfl λi x v h=>by simp at h)
theorem D0{b:Nat}: ∀{ws:List (Nat×Blk)} {σ:List Blk},(ws.all λy=>y.1 !=b)=true->(upd ws σ)[b]?=σ[b]?
 |[],_,_=>rfl
 |y::ws,σ,h=>by simp only[List.all_cons,aT,bne_iff_ne]at h;show(upd ws (σ.set y.1 y.2))[b]?=_;rw[D0 h.2,rK h.1]
theorem JH3(hi:Inv s)(he:bN s a.tmps env){size x y}(h:(opR F (.store size x y) new).run ⟨env,s.σ⟩=some e)(hc:bA P (.store size x y) o.op=true):bP P o a s e:=by
 simp only[opR]at h;obtain⟨u,h1,h'⟩:=bind_some h;obtain⟨v,h2,g⟩:=bind_some h';clear h h';unfold bA at hc;simp only at hc;split at hc;rename_i t x' n c3;simp only[aT,beq_iff_eq]at hc;obtain⟨⟨hs,hx⟩,hy⟩:=hc;have rx:=bK he h1 hx;have ry:=bK he h2 hy;have a0: ∀{r M:Nat} {w':World},a.eval x'=.pointer (some ⟨r,M,none⟩)->(storeVar t ⟨r,M,none⟩ (a.eval n)).run P s.w=.ok () w'->(execOp a.eval o).run P s.w=.ok .skip w':=by simp_all [execOp,Instr.storeAt,Instr.sureAddr]
 unfold hQ at g;split at g;rename_i b off;simp only[RM.run]at g;split at g;rename_i blk I;split at g;rename_i cs;split at g;rename_i l hl;split at g;rename_i am;split at g;rename_i cs' a8;cases g;have I:s.σ[b]?=some (.box cs):=I;generalize hz:a.eval x'=z at rx;cases rx with
 |ptr _ _ r M m bx=>
  obtain⟨k1,k2,k3⟩:=SR hl ry;obtain⟨j1,j2,j3,j4⟩:=PZ a8;obtain⟨r1,o1,c,D,fz,C,L,au,Z,hf⟩:=hi.box b cs I;rw[m]at C;injection C with C;injection C with m1 m2;subst m1 m2;have B:=NC (vs:=(a.eval n).cells.toList) (o:=M+off) L (by simp;omega);have hlen:(a.eval n).cells.toList.length=l.length:=by simp[k1]
  obtain⟨i',t'⟩:=eo hi (blk:=.box cs') I B (λk h1 h2=>by
   grind [Wr1]) (.box _ _ j1) (λbw q E=>by
   cases q;obtain⟨c0,e0,av,c',A,p2,p3,p4,p5,p6⟩:=B.there;rw[L]at A;injection A with A;injection A with K q2 q3;subst K q2 q3;refine⟨r,M,c',D,fz,m,p2,by omega,λi x aq=>?_,by simp_all⟩;by_cases b0:off<=i/\i<off+l.length;have D:cs'[off+(i-off)]?=l[i-off]?:=j3 (i-off) (by omega);rw[show off+(i-off)=i by omega,aq]at D;have J:i-off<(a.eval n).cells.size:=by omega
   have e2:=p5 (i-off) (a.eval n).cells[i-off] (by simp);refine⟨(a.eval n).cells[i-off],by rw[<-e2];congr 1;omega,E (k3 (i-off) x _ D.symm (by simp)),k2 _ (by simp)⟩;grind)
   (λ_ _ q=>by cases q)
  refine fe (e:=⟨gG,[(b,.box cs')]⟩) (a0 hz (gz (by simp_all) L (by omega) (λk h1 h2=>hf k (by omega) (by omega)) k2)) rfl i' t'
 cases g;cases g;cases g;cases g;cases g;rename_i b ext i off;simp only[RM.run]at g;split at g;rename_i blk I;split at g;rename_i esz rows;split at g;rename_i aa;split at g;rename_i row Q;obtain⟨H,h3,T⟩:=bind_some g;split at T;rename_i U;split at T;rename_i O V;cases T;have I:s.σ[b]?=some (.arr true esz rows):=I;obtain⟨am,b9⟩:=U;obtain⟨g1,i1,t1,f1,l1,r1⟩:=YN hi (.refl _) h3 ry;have S:(upd H.2 s.σ)[b]?=some (.arr true esz rows):=by grind [D0]
 have Y:=rx.mono hi t1;obtain⟨j1,j2,j3,j4⟩:=PZ V;have a7: ∀u∈(a.eval n).cells.toList,u.oneCell'=true:=by
  intro u hu;obtain⟨k,G⟩:=fP hu;have G:(a.eval n).cells[k]?=some u:=by simpa using G
  have J:=SG G;exact(r1 k H.1[k] u (by simp_all) G).one
 generalize hz:a.eval x'=z at Y;cases Y with
 |ep _ _ _ _ _ wm' a5 rows' p0 A p2 p3=>
  have A:(upd H.2 s.σ)[b]?=some (.arr wm' a5 rows'):=A;rw[S]at A;injection A with A;injection A with a1 a2 a3;subst a1 a2 a3;have J:=Jy Q;obtain⟨r,m,hv⟩:=p3 aa (by omega);rcases i1.arr b _ _ _ S with⟨C,_⟩|⟨rr,c,D,fz,C,L,ap,au,Z,hf⟩;simp_all;rw[m]at C;injection C with C;injection C with m1 _;subst m1;have b4:=ap row (kI Q);have hlen:(a.eval n).cells.toList.length=H.1.length:=by simp[l1]
  have bh:i*esz+esz<=rows.length*esz:=(by have:=zQ4 esz (show i+1<=rows.length from J);grind);have N:s.w.heap[r]?=some (.cells c D fz):=L;have B:=NC (vs:=(a.eval n).cells.toList) (o:=i*esz+off) N (by grind);obtain⟨i2,t2⟩:=eo (s0:=⟨upd H.2 s.σ,g1,s.w⟩) i1 (blk:=.arr true esz (rows.set i O)) S B (λk h1 h2=>by
   grind [Wr1]) (.arr _ _ _ (by simp)) (λ_ q=>by cases q) (λb8 b3 q E=>by
   injection q with _ h1 h2;subst h1 h2;obtain⟨c0,e0,av,c',K,q2,q3,q4,q5,q6⟩:=B.there;rw[N]at K;injection K with K;injection K with w1 w2 w3;subst w1 w2 w3;refine .inr ⟨r,c',D,fz,m,q2,λc1 bz=>?_,by simp;omega,λk j a6 x0 G hj=>⟨?_,λh=>by cases h⟩,by simp_all⟩;grind;have bm:=Jy hj;by_cases W:k=i;subst W;rw[DR J]at G;cases G;by_cases b0:off<=j/\j<off+H.1.length;have D:=j3 (j-off) (by omega);rw[show off+(j-off)=j by omega,hj]at D;have R:j-off<(a.eval n).cells.size:=by omega
   have e2:=q5 (j-off) (a.eval n).cells[j-off] (by simp);refine⟨(a.eval n).cells[j-off],by rw[<-e2];congr 1;omega,E (r1 (j-off) x0 _ D.symm (by simp))⟩;grind;rw[HB (Ne.symm W)]at G;obtain⟨⟨v',az,ak⟩,_⟩:=Z k j a6 x0 G hj;refine⟨v',?_,E ak⟩;rw[q6 _ ?_];exact az;have an:j<esz:=by grind
   rw[hlen];rcases zQ3 k i with R|c2;left;have:=mB R an;omega;right;have:=zQ4 esz (show i+1<=k by omega);grind)
  refine fe (e:=⟨gG,H.2++[(b,.arr true esz (rows.set i O))]⟩) (g':=g1) (a0 (hz.trans hv) (gz (by simp_all) N (by grind) (λk h1 h2=>hf.1 k (by omega) (by grind)) a7)) rfl ?_ ?_;rw[eM];exact i2;rw[eM];exact t1.trans t2
 cases T;cases T;cases g;cases g;cases g;cases g;cases g;cases hc
end
end Go.Am
end
section
namespace Go.Am
theorem Io(vs:List Value): ∀(k:Nat) (off:Nat) (cs:Array Value),off+k+vs.length<=cs.size->
  let r:=(vs.zipIdx k).foldl (λcs (x:Value×Nat)=>cs.setIfInBounds (off+x.2) x.1) cs
  r.size=cs.size/\(∀(j:Nat) v,vs[j]?=some v->r[off+k+j]?=some v)/\ ∀i,(i<off+k\/off+k+vs.length<=i)->r[i]?=cs[i]?:=by
 induction vs with
 |nil=>simp_all
 |cons v vs ih=>
  intro k off cs h;simp only[DC]at h;have:=ih (k+1) off (cs.setIfInBounds (off+k) v) (by simp;omega);simp only[List.zipIdx_cons,List.foldl_cons];obtain⟨h1,h2,e⟩:=this;grind
section
variable {P:Program} {F:Orc} {s:Sn} {a:Act} {env:List (Nat×AV)} {o:Oper} {new:Nat} {e:Eff}
theorem qt{place:Nat->Option (Nat×Nat)}{cells:Array Value}{i:Nat}{v:Value}{rest:List (Nat×Value)}{off size:Nat}(hp:place i=some (off,size))(hs:v.cells.size=size)(hl:off+size<=cells.size):
  ∃e:Array Value,Instr.fill place cells ((i,v)::rest)=Instr.fill place e rest/\e.size=cells.size/\(∀(j:Nat) u,v.cells[j]?=some u->e[off+j]?=some u)/\
   ∀k,(k<off\/off+size<=k)->e[k]?=cells[k]?:=by
 subst hs;obtain⟨h1,h2,h⟩:=Io v.cells.toList 0 off cells (by simp;omega);refine⟨v.cells.zipIdx.foldl (λcs (c,j)=>cs.setIfInBounds (off+j) c) cells,?_,?_,?_,?_⟩;grind [Instr.fill]
 all_goals (have g:v.cells.zipIdx.foldl (λcs (x:Value×Nat)=>cs.setIfInBounds (off+x.2) x.1) cells=(v.cells.toList.zipIdx 0).foldl (λcs (x:Value×Nat)=>cs.setIfInBounds (off+x.2) x.1) cells:=by
             rw[<-Array.foldl_toList];simp)
 all_goals simp_all
theorem dx{place:Nat->Option (Nat×Nat)}: ∀{parts:List (Nat×Nat×List AV)} {ps:List (Nat×Value)} {cs cs':List AV} {cells:Array Value},
  oY parts cs=some cs'->parts.length=ps.length->
  (∀(k:Nat) off size l i v,parts[k]?=some (off,size,l)->ps[k]?=some (i,v)->place i=some (off,size)/\l.length=v.cells.size/\(∀u∈v.cells.toList,u.oneCell'=true)/\
   ∀(j:Nat) y u,l[j]?=some y->v.cells[j]?=some u->JF s y u)->
  cs.length=cells.size->(∀(i:Nat) x,cs[i]?=some x-> ∃u,cells[i]?=some u/\JF s x u/\u.oneCell'=true)->
  ∃e,Instr.fill place cells ps=some e/\cs'.length=e.size/\ ∀(i:Nat) x,cs'[i]?=some x-> ∃u,e[i]?=some u/\JF s x u/\u.oneCell'=true
 |[],[],cs,cs',cells,h,_,_,hl,hr=>by simp[oY]at h;subst h;exact⟨cells,rfl,hl,hr⟩
 |[],_::_,_,_,_,_,hl,_,_,_=>by simp at hl
 |_::_,[],_,_,_,_,hl,_,_,_=>by simp at hl
 |(off,size,l)::parts,(i,v)::ps,cs,cs',cells,h,hlen,hp,hl,hr=>by
  unfold oY at h;split at h;rename_i D;split at h;rename_i F n;obtain⟨z,H,q,r⟩:=hp 0 off size l i v rfl rfl;obtain⟨G,M,w,I⟩:=PZ n;obtain⟨g,J,K,A,L⟩:=qt (v:=v) (rest:=ps) (cells:=cells) z (by omega) (by omega);obtain⟨e,Q,O,N⟩:=dx (cells:=g) h (by simpa using hlen) (λk off size l i v h1 h2=>hp (k+1) off size l i v (by simpa using h1) (by simpa using h2)) (by omega) (λk x B=>by
   by_cases E:off<=k/\k<off+l.length;have o:=w (k-off) (by omega);rw[show off+(k-off)=k by omega,B]at o;have C:k-off<v.cells.size:=by omega
   have P:=A (k-off) v.cells[k-off] (by simp);exact⟨v.cells[k-off],by simp_all,r (k-off) x _ o.symm (by simp),q _ (by simp)⟩;grind)
  simp_all;cases h;cases h
theorem ft(he:bN s a.tmps env){place:Nat->Option (Nat×Nat)}: ∀{parts:List (Nat×Nat×Opd)} {ps:List (Nat×Operand)} {l:List (Nat×Nat×List AV)},
  (kD parts).run ⟨env,s.σ⟩=some l->rF place parts ps=true->
  l.length=(ps.map λx=>(x.1,a.eval x.2)).length/\
  ∀(k:Nat) off size cs i v,l[k]?=some (off,size,cs)->(ps.map λx=>(x.1,a.eval x.2))[k]?=some (i,v)->place i=some (off,size)/\cs.length=v.cells.size/\(∀u∈v.cells.toList,u.oneCell'=true)/\
   ∀(j:Nat) y u,cs[j]?=some y->v.cells[j]?=some u->JF s y u
 |[],[],l,h,_=>by
  grind [kD,RM.run]
 |[],_::_,_,_,hc=>by grind [rF]
 |_::_,[],_,_,hc=>by grind [rF]
 |(off,size,x)::parts,(i,y)::ps,l,h,hc=>by
  simp only[rF,aT,beq_iff_eq]at hc;obtain⟨⟨r,e⟩,hc⟩:=hc;simp only[kD]at h;obtain⟨v,h1,h⟩:=bind_some h;split at h;rename_i cs hcs;obtain⟨l',h2,h⟩:=bind_some h;simp only[RM.run]at h;injection h with h;subst h;obtain⟨g,n⟩:=ft he h2 hc;obtain⟨o,w,q⟩:=SR hcs (bK he h1 e);grind;cases h
theorem fw: ∀{fs:List Field},(∀f∈fs,(szT P f.type).isSome=true)-> ∀w:World,
  (fs.mapM λf=>do pure (f.offset,<-sizeOf f.type):Sem (List (Nat×Nat))).run P w=.ok (fs.map λf=>(f.offset,(szT P f.type).getD 0)) w
 |[],_,w=>by simp
 |f::fs,h,w=>by
  have j:(szT P f.type)=some ((szT P f.type).getD 0):=by have:=h f (by simp);cases hq:szT P f.type<;>simp[hq]at this⊢
  have ih:=fw (fs:=fs) (λg e=>h g (by simp[e])) w;rw[List.mapM_cons];simp only[yQ,jJ j,sX,UL,ih];simp
theorem JGp(hi:Inv s)(he:bN s a.tmps env){zero parts}(h:(opR F (.build zero parts) new).run ⟨env,s.σ⟩=some e)(hc:bA P (.build zero parts) o.op=true):bP P o a s e:=by
 simp only[opR]at h;obtain⟨l,h1,E⟩:=bind_some h;clear h;unfold bA at hc;simp only at hc;split at hc;rename_i t ps a1;simp only[aT]at hc;obtain⟨Y,ht⟩:=hc;obtain⟨z,a2,K,L⟩:=AL Y;split at E;rename_i cs hcs;obtain⟨r,Z,rfl⟩:=gH E;have D: ∀(i:Nat) x,(zero.map AV.p)[i]?=some x-> ∃u,z.cells[i]?=some u/\JF s x u/\u.oneCell'=true:=by
  intro i x I;rw[fF]at I;cases hzi:zero[i]? with
  |none=>simp_all
  |some c=>
   simp[hzi]at I;subst I;have J:=Jy hzi;have S:i<z.cells.size:=by omega
   have:=L (w:=s.w) (C:=s.g.C) i c z.cells[i] hzi (by simp);exact⟨z.cells[i],by simp,.p _ _ this,this.one⟩
 have fin: ∀{place:Nat->Option (Nat×Nat)},rF place parts ps.toList=true->
   ∃j,Instr.fill place z.cells (ps.toList.map λx=>(x.1,a.eval x.2))=some j/\JF s r (.agg j):=by
  intro place B;obtain⟨R,U⟩:=ft he h1 B;obtain⟨j,G,T,W⟩:=dx (s:=s) (cells:=z.cells) hcs R U (by simp[K]) D;refine⟨j,G,?_⟩;have:=PP (s:=s) (vs:=j.toList) Z (by simpa using T) (λv Q=>by
    obtain⟨i,k⟩:=fP Q;have k:j[i]?=some v:=by simpa using k
    have J:=SG k;obtain⟨u,O,_,h1⟩:=W i cs[i] (by simp_all);simp_all)
   (λi y v hy Q=>by
    grind)
  simp_all
 have a3:(ps.map λx=>(x.1,a.eval x.2)).toList=ps.toList.map λx=>(x.1,a.eval x.2):=by simp
 split at ht;rename_i fs O;simp only[aT]at ht;obtain⟨A,B⟩:=ht;obtain⟨j,G,H⟩:=fin B;have a0:(λi=>(fs.map λf=>(f.offset,(szT P f.type).getD 0))[i]?)=FF P fs:=by
  funext i
  simp only[FF,Array.getElem?_map];cases hfi:fs[i]? with
  |none=>rfl
  |some f=>have:=UY.1 A f (Array.mem_of_getElem? hfi);cases M:szT P f.type<;>simp[M]at this⊢
 refine JO hi (v:=.agg j) ?_ H;have V:(fs.mapM λf=>do pure (f.offset,<-sizeOf f.type):Sem (Array (Nat×Nat))).run P s.w=.ok (fs.map λf=>(f.offset,(szT P f.type).getD 0)) s.w:=by
  rw[Array.mapM_eq_mapM_toList];simp only[Sem.run_map,fw (P:=P) (fs:=fs.toList) (λf N=>UY.1 A f (by simpa using N)),sX]
  congr 1
  grind
 have N:Instr.fill (λi=>(fs.map λf=>(f.offset,(szT P f.type).getD 0))[i]?) z.cells (ps.map λx=>(x.1,a.eval x.2)).toList=some j:=by simp_all
 simp_all [Instr.build,FQ,run_underlying,execOp];rename_i n el O;split at ht;rename_i q M;obtain⟨j,G,H⟩:=fin ht;refine JO hi (v:=.agg j) ?_ H;have hb:(Instr.build t (ps.map λx=>(x.1,a.eval x.2))).run P s.w=.ok (.agg j) s.w:=by simp_all [Instr.build,FQ,run_underlying,jJ]
 simp_all [execOp];cases ht;cases ht;cases E;cases hc
end
end Go.Am
end
section
namespace Go.Am
def qM(s:Sn)(esz:Nat)(rows:List (List PV))(c:Array Value):Prop:=(∀row∈rows,row.length=esz)/\rows.length*esz<=c.size/\ ∀(i j:Nat) row x,rows[i]?=some row->row[j]?=some x-> ∃u,c[i*esz+j]?=some u/\J08 s.w s.g.C x u
section
variable {P:Program} {F:Orc} {s:Sn} {a:Act} {env:List (Nat×AV)} {o:Oper} {new:Nat} {e:Eff}
theorem qM.mono{s0 s:Sn}(hi:Inv s0)(t:bC s0 s){esz rows c}(h:qM s0 esz rows c):qM s esz rows c:=
 ⟨h.1,h.2.1,λi j row x e g=>let⟨u,h1,h2⟩:=h.2.2 i j row x e g;⟨u,h1,h2.mono hi t⟩⟩
theorem eb{s0:Sn}(hi:Inv s0)(hn:s0.σ[new]?=some .dead){esz:Nat}{rows:List (List PV)}{c:Array Value}{et:TypeId}{fz:Nat×Nat}{w':World}{cap:Nat}
  (j:w'.heap=s0.w.heap.push (.cells c et fz)) (ho:w'.os=s0.w.os) (hp:w'.output=s0.w.output) (hf:vZ esz fz c.size) (hr:qM s0 esz rows c) (e:rows.length<=cap) (g:cap*esz<=c.size):
  (∃g',Inv ⟨s0.σ.set new (.arr true esz rows),g',w'⟩/\bC s0 ⟨s0.σ.set new (.arr true esz rows),g',w'⟩/\
   JF ⟨s0.σ.set new (.arr true esz rows),g',w'⟩ (.slr new 0 rows.length) (.slice (some ⟨s0.w.heap.size,0,none⟩) rows.length cap)):=by
 obtain⟨k,t'⟩:=QI hi hn (blk:=.arr true esz rows) j ho hp hf.1 (λ_ _ _ h=>by injection h with _ h _;subst h;exact hf.2) hr;refine⟨_,k,t',.slr new 0 _ _ true esz rows ⟨_,_,rfl,.inr (by simp)⟩ (jM hn) (by omega) λ_=>.inr ⟨s0.w.heap.size,cap,c,et,fz,if_pos rfl,by simp,e,RI j,by simpa using g⟩⟩
theorem eu{s0:Sn}(hi:Inv s0){esz:Nat}{rows:List (List PV)}{c:Array Value}{et:TypeId}{fz:Nat×Nat}{w':World}{cap:Nat}
  (h:w'.heap=s0.w.heap.push (.cells c et fz)) (ho:w'.os=s0.w.os) (hp:w'.output=s0.w.output) (hr:qM s0 esz rows c) (e:rows.length<=cap):
  (∃g',Inv ⟨s0.σ,g',w'⟩/\bC s0 ⟨s0.σ,g',w'⟩/\JF ⟨s0.σ,g',w'⟩ (.p (.sl esz rows)) (.slice (some ⟨s0.w.heap.size,0,none⟩) rows.length cap)):=by
 obtain⟨k,t'⟩:=JF1 hi h ho hp;refine⟨_,k,t',.p _ _ (gg (s:=⟨s0.σ,_,w'⟩) rfl e hr.1 (.inr ⟨_,0,rfl,λi j row x g n=>⟨.inr rfl,?_⟩⟩))⟩;obtain⟨u,o,hrel⟩:=hr.2.2 i j row x g n;exact⟨u,by grind [jK],hrel.mono hi t'⟩
theorem G1{E:List Blk}{tmps:Array Value}(he: ∀n x,lk n env=some x-> ∃v,a.tmps[n]?=some v): ∀{xs:List Opd} {e:List Operand} {s:Sn} {y:List (List PV)×List (Nat×Blk)},Inv s->Frz E s.σ->bN s a.tmps env->
  (fzs xs).run ⟨env,E⟩=some y->jX xs e=true->
  ∃g',Inv ⟨upd y.2 s.σ,g',s.w⟩/\bC s ⟨upd y.2 s.σ,g',s.w⟩/\Frz s.σ (upd y.2 s.σ)/\y.1.length=e.length/\
   ∀(k:Nat) cs q,y.1[k]?=some cs->e[k]?=some q->cs.length=(a.eval q).cells.size/\ ∀(i:Nat) c u,cs[i]?=some c->(a.eval q).cells[i]?=some u->J08 s.w g'.C c u
 |[],[],s,y,hi,o,r,h,_=>by
  simp only[fzs,RM.run]at h;injection h with h;subst h;exact⟨s.g,hi,.refl s,.refl _,rfl,λk cs q h=>by simp at h⟩
 |[],_::_,_,_,_,_,_,_,hc=>by grind [jX]
 |_::_,[],_,_,_,_,_,_,hc=>by grind [jX]
 |x::xs,q::e,s,y,hi,o,r,h,hc=>by
  simp only[jX,aT]at hc;simp only[fzs]at h;obtain⟨v,h1,h⟩:=bind_some h;obtain⟨j,h2,h⟩:=bind_some h;obtain⟨M,P,h⟩:=bind_some h;simp only[RM.run]at h;injection h with h;subst h;have D:(ev x).run ⟨env,s.σ⟩=some v:=by cases x<;>simp_all [ev,RM.run]
  have N:=bK r D hc.1;obtain⟨I,i1,B,A,L,J⟩:=YN hi o h2 N;obtain⟨G,i2,z,K,Q,R⟩:=G1 (tmps:=tmps) he (s:=⟨upd j.2 s.σ,I,s.w⟩) i1 (o.trans A) (r.mono hi B) P hc.2;refine⟨G,by grind [eM],by rw[eM];exact B.trans z,by rw[eM];exact A.trans K,by simp[Q],λk cs q' F H=>?_⟩;cases k with
  |zero=>simp at F H;subst F H;exact⟨L,λi c u hc O=>J08.mono (s0:=⟨upd j.2 s.σ,I,s.w⟩) (s:=⟨upd M.2 (upd j.2 s.σ),G,s.w⟩) i1 z (J i c u hc O)⟩
  |succ k=>grind
theorem sk{esz:Nat}(z:0<esz): ∀{parts:List (Nat×List PV)} {ps:List (Nat×Value)} {rows rows':List (List PV)} {cells:Array Value},
  zX esz parts rows=some rows'->parts.length=ps.length->
  (∀(k:Nat) i cs j v,parts[k]?=some (i,cs)->ps[k]?=some (j,v)->i=j/\cs.length=v.cells.size/\ ∀(m:Nat) c u,cs[m]?=some c->v.cells[m]?=some u->J08 s.w s.g.C c u)->
  qM s esz rows cells->cells.size=rows.length*esz->
  ∃e,Instr.fill (λi=>some (i*esz,esz)) cells ps=some e/\qM s esz rows' e/\rows'.length=rows.length/\e.size=rows.length*esz
 |[],[],rows,rows',cells,h,_,_,hr,hs=>by simp[zX]at h;subst h;exact⟨cells,rfl,hr,rfl,hs⟩
 |[],_::_,_,_,_,_,hl,_,_,_=>by simp at hl
 |_::_,[],_,_,_,_,hl,_,_,_=>by simp at hl
 |(i,cs)::parts,(j,v)::ps,rows,rows',cells,h,hlen,hp,hr,hs=>by
  unfold zX at h;split at h;rename_i hc;obtain⟨rfl,L,B⟩:=hp 0 i cs j v rfl rfl;have D:i*esz+esz<=rows.length*esz:=(by have:=zQ4 esz (show i+1<=rows.length from hc.2);grind);obtain⟨o,M,O,F,E⟩:=qt (place:=λi=>some (i*esz,esz)) (v:=v) (rest:=ps) (cells:=cells) (i:=i) rfl (by omega) (by omega);obtain⟨G,T,H⟩:=hr;obtain⟨e,R,Q,P,N⟩:=sk z (cells:=o) h (by simpa using hlen) (λk i cs j v h1 h2=>hp (k+1) i cs j v (by simpa using h1) (by simpa using h2))
   ⟨λrow S=>by
     grind,by simp;omega,λk m row x n q=>by
     by_cases r:k=i;subst r;rw[DR hc.2]at n;injection n with n;subst n;have K:=Jy q;have y:m<v.cells.size:=by omega
     exact⟨v.cells[m],F m _ (by simp),B m x _ q (by simp)⟩;rw[HB (Ne.symm r)]at n;obtain⟨u,I,hrel⟩:=H k m row x n q;refine⟨u,?_,hrel⟩;rw[E _ ?_];exact I;have A:=Jy q;rw[G row (kI n)]at A;rcases zQ3 k i with y|J;grind [mB];right;have:=zQ4 esz (show i+1<=k by omega);grind⟩ (by simp;omega)
  grind;cases h
theorem ZO{t:TypeId}{n:Nat}(h:szT P t=some n): ∃i,P.info? t=some i/\i.size=n:=by simp_all [szT]
theorem Ho{t:TypeId}{v:Value}{i:TypeInfo}(h:zeT P t=some v)(hi:P.info? t=some i):i.zero=some v:=by
 grind [zeT]
theorem ox{t:TypeId}{n:Nat}{i:TypeInfo}(h:byT P t=some n)(hi:P.info? t=some i):i.bytes=n:=by
 grind [byT]
theorem JHs{z:Array Value}{esz n i j:Nat}(hz:z.size=esz)(hi:i<n)(hj:j<esz):(madeCells z (n*esz))[i*esz+j]?=z[j]?:=by
 grind [mB,Nat.add_mul_mod_self_right,Nat.mod_eq_of_lt,madeCells]
theorem tl{zero:List PV}{z:Value}{esz n m:Nat}(hl:zero.length=esz)(k:zero.length=z.cells.size)
  (g: ∀{w C} (i:Nat) x u,zero[i]?=some x->z.cells[i]?=some u->J08 w C x u) (q:n<=m):qM s esz (List.replicate n zero) (madeCells z.cells (m*esz)):=by
 refine⟨λrow v=>by simp_all,?_,λi j row x hi h=>?_⟩;simp_all [size_madeCells,zQ4];have e:=Jy hi;have:=List.eq_of_mem_replicate (kI hi);subst this;have o:=Jy h;simp at e;have r:z.cells.size=esz:=by omega
 refine⟨z.cells[j],?_,g j x _ h (by simp)⟩;grind [JHs]
theorem JC3(hi:Inv s)(he:bN s a.tmps env){own esz bytes zero l c}(hn:own=true->s.σ[new]?=some .dead)(h:(opR F (.mkslice own esz bytes zero l c) new).run ⟨env,s.σ⟩=some e)
  (hc:bA P (.mkslice own esz bytes zero l c) o.op=true):bP P o a s e:=by
 simp only[opR]at h;obtain⟨u,h1,D⟩:=bind_some h;obtain⟨v,h2,g⟩:=bind_some D;clear h D;unfold bA at hc;simp only at hc;split at hc;rename_i t l' c' Y;simp only[aT]at hc;obtain⟨⟨V,C⟩,ht⟩:=hc;have S:=bK he h1 V;have T:=bK he h2 C;split at ht;rename_i el E;simp only[aT,beq_iff_eq,decide_eq_true_eq]at ht;obtain⟨⟨⟨⟨⟨W,K⟩,U⟩,H⟩,R⟩,Q⟩:=ht;obtain⟨i,j,I⟩:=ZO W;obtain⟨z,G,J,L⟩:=AL U;have O:=ox K j;split at g;rename_i k n k' m;split at g;rename_i r;obtain⟨M,N,Z,hm⟩:=r;have e1:=iE S;have e2:=iE T;have A:=run_make (P:=P) s.w t el i z (kH E) j (Ho G j) k k' n m M N (by simp_all) (by omega);rw[I]at A;have q:qM s esz (List.replicate n.toNat zero) (madeCells z.cells (m.toNat*esz)):=tl H J L (by omega);have x:(execOp a.eval o).run P s.w=.ok (.value (.slice (some ⟨s.w.heap.size,0,none⟩) n.toNat m.toNat)) (s.w.alloc (.cells (madeCells z.cells (m.toNat*esz)) el)):=by simp_all [execOp]
 split at g;rename_i y;simp only[RM.run]at g;injection g with g;subst g;obtain⟨g',B,t',r'⟩:=eb hi (hn y) (w':=s.w.alloc (.cells (madeCells z.cells (m.toNat*esz)) el)) (fz:=(0,0)) rfl rfl rfl (vZ.zero _ _) q (cap:=m.toNat) (by simp;omega) (by simp[size_madeCells]);simp only[VV]at r';exact hU x B t' r';simp only[RM.run]at g;injection g with g;subst g;obtain⟨g',B,t',r'⟩:=eu hi (w':=s.w.alloc (.cells (madeCells z.cells (m.toNat*esz)) el)) (fz:=(0,0)) rfl rfl rfl q (cap:=m.toNat) (by simp;omega);simp only[VV]at r';exact hU (e:=⟨_,[]⟩) x B t' r';cases g;cases g;cases ht;cases hc
theorem JJA(hi:Inv s)(he:bN s a.tmps env){own esz n zero parts}(hn:own=true->s.σ[new]?=some .dead)(h:(opR F (.lits own esz n zero parts) new).run ⟨env,s.σ⟩=some e)
  (hc:bA P (.lits own esz n zero parts) o.op=true):bP P o a s e:=by
 simp only[opR]at h;obtain⟨y,h1,r⟩:=bind_some h;clear h;unfold bA at hc;simp only at hc;split at hc;rename_i t len ps ad;simp only[aT,beq_iff_eq]at hc;obtain⟨rfl,ht⟩:=hc;split at ht;rename_i el I;simp only[aT,beq_iff_eq,decide_eq_true_eq]at ht;obtain⟨⟨⟨⟨⟨hs,ae⟩,hz⟩,Y⟩,M⟩,hidx⟩:=ht;obtain⟨z,V,Z,a3⟩:=AL hz;have A:jX (parts.map (·.2)) (ps.toList.map (·.2))=true/\parts.map (·.1)=ps.toList.map (·.1):=by
  have: ∀{p:List (Nat×Opd)} {q:List (Nat×Operand)},KS p q=true->jX (p.map (·.2)) (q.map (·.2))=true/\p.map (·.1)=q.map (·.1):=by
   intro p
   induction p with
   |nil=>intro q h;cases q<;>simp[KS]at h⊢;rfl
   |cons x p ih=>intro q h;cases q<;>grind [KS,jX]
  exact this hidx
 obtain⟨S,i1,t1,f1,l1,r1⟩:=G1 (tmps:=a.tmps) (λn x hx=>let⟨v,h,_⟩:=he n x hx;⟨v,h⟩) hi (.refl _) he h1 A.1;split at r;rename_i rows G;have E:(parts.map (·.1)).length=(ps.toList.map (·.1)).length:=by rw[A.2]
 simp at E;simp at l1;have Q:((parts.map (·.1)).zip y.1).length=(ps.toList.map λx=>(x.1,a.eval x.2)).length:=by simp;omega
 obtain⟨g,N,r2,B,U⟩:=sk (s:=⟨upd y.2 s.σ,S,s.w⟩) M (ps:=ps.toList.map λx=>(x.1,a.eval x.2)) (cells:=madeCells z.cells (len*esz)) G Q (λk i cs j v hk R=>by
   rw[List.getElem?_zip_eq_some]at hk;obtain⟨H,T⟩:=hk;rw[fF]at R;cases hpk:ps.toList[k]? with
   |none=>simp_all
   |some q=>
    simp[hpk]at R;obtain⟨rfl,rfl⟩:=R;rw[A.2,fF,hpk]at H;simp at H;obtain⟨k3,k4⟩:=r1 k cs q.2 T (by simp_all);grind)
  (tl Y Z a3 (zQ0 _)) (by simp[size_madeCells])
 simp at B U;have J:(execOp a.eval o).run P s.w=.ok (.value (.slice (some ⟨s.w.heap.size,0,none⟩) len len)) (s.w.alloc (.cells g el)):=by
  have D: ¬(len*esz>2^24):=by omega
  have K:(ps.map fun(x:Nat×Operand)=>(x.1,a.eval x.2)).toList=ps.toList.map λx=>(x.1,a.eval x.2):=by simp
  have hb:(Instr.buildSlice t len (ps.map fun(x:Nat×Operand)=>(x.1,a.eval x.2))).run P s.w=.ok (.slice (some ⟨s.w.heap.size,0,none⟩) len len) (s.w.alloc (.cells g el)):=by
   unfold Instr.buildSlice;by_cases h0:len*esz=0;have C:madeCells z.cells (len*esz)= #[]:=by grind [madeCells]
   rw[C]at N;have W: ¬((0:Nat)>2^24):=by decide
   have a2:Array.range 0= #[]:=rfl;simp only[W,yQ,run_underlying (kH I),sX,jJ hs,D,if_false,h0,if_true,UL,K,a2,Array.map_empty,N,newRow,run_newObj];rfl;have C:((Array.range (len*esz)).map λx=>z.cells[x%z.cells.size]!)=madeCells z.cells (len*esz):=rfl;simp only[yQ,run_underlying (kH I),sX,jJ hs,D,if_false,h0,FQ V,UL,K,C,N,newRow,run_newObj];rfl
  simp_all [execOp]
 split at r;rename_i L;simp only[RM.run]at r;injection r with r;subst r;have a0:(upd y.2 s.σ)[new]?=some .dead:=f1.2 _ _ (hn L) (by simp);obtain⟨g',O,t',r'⟩:=eb (s0:=⟨upd y.2 s.σ,S,s.w⟩) i1 a0 (w':=s.w.alloc (.cells g el)) (fz:=(0,0)) rfl rfl rfl (vZ.zero _ _) r2 (cap:=len) (by omega) (by omega);rw[B]at r';refine hU (e:=⟨_,y.2++[(new,.arr true esz rows)]⟩) (g':=g') J ?_ ?_ ?_;rw[eM];exact O;rw[eM];exact t1.trans t';rw[eM];exact r';simp only[RM.run]at r;injection r with r;subst r;obtain⟨g',O,t',r'⟩:=eu (s0:=⟨upd y.2 s.σ,S,s.w⟩) i1 (w':=s.w.alloc (.cells g el)) (fz:=(0,0)) rfl rfl rfl r2 (cap:=len) (by omega);rw[B]at r';exact hU (e:=⟨_,y.2⟩) J O (t1.trans t') r';cases r;cases ht;cases hc
end
end Go.Am
end
section
namespace Go.Am
section
variable {P:Program} {F:Orc} {s:Sn} {a:Act} {env:List (Nat×AV)} {o:Oper} {new:Nat} {e:Eff}
theorem uq(l:List UInt8)(c:Array Value)(hc: ∀(i:Nat) b,l[i]?=some b->c[i]?=some (.int .u8 b.toNat))(hl:l.length<=c.size):qM s 1 (l.map mD) c:=by
 refine⟨λrow g=>?_,by simpa using hl,λi j row x hi e=>?_⟩;obtain⟨b,_,rfl⟩:=oK.1 g;rfl;rw[fF]at hi;cases hli:l[i]? with
 |none=>simp_all
 |some b=>
  simp[hli]at hi;subst hi;have:j=0:=by grind [mD]
  subst this;simp[mD]at e;subst e;exact⟨_,by simp_all,.i _ _⟩
theorem Ge{α:Type}{esz:Nat}: ∀{rows:List (List α)},(∀row∈rows,row.length=esz)-> ∀{i j:Nat} {row:List α} {x:α},rows[i]?=some row->row[j]?=some x->rows.flatten[i*esz+j]?=some x
 |[],_,i,j,row,x,h,_=>by simp at h
 |r0::g,e,i,j,row,x,h,n=>by
  have o:r0.length=esz:=e r0 (by simp);cases i with
  |zero=>
   grind
  |succ i=>
   simp only[qF];rw[nY (by grind)];have:=Ge (rows:=g) (λrow k=>e row (by simp[k])) (by simpa using h) n;grind
theorem M3{el:TypeId}(l:List UInt8)(w:World): ∃w' cap c fz,(Conv.stringToBytes el ⟨l.toArray⟩).run P w=.ok (.slice (some ⟨w.heap.size,0,none⟩) l.length cap) w'/\
  w'.heap=w.heap.push (.cells c el fz)/\w'.os=w.os/\w'.output=w.output/\DZ fz 0 c.size/\l.length<=cap/\c.size=cap/\ ∀(i:Nat) b,l[i]?=some b->c[i]?=some (.int .u8 b.toNat):=by
 have k:(Question.appendCap l.length 0 el).forced=false:=rfl;have e:l.length<=(Question.appendCap l.length 0 el).cut (w.tape w.drawn (.appendCap l.length 0 el)):=by simp[Question.cut]
 generalize j:(Question.appendCap l.length 0 el).cut (w.tape w.drawn (.appendCap l.length 0 el))=cap at e
 let c:Array Value:=(l.toArray.map λb=>Value.int .u8 b.toNat)++Array.replicate (cap-l.length) (.int .u8 0)
 have hc:c.size=cap:=by simp[c];omega
 refine⟨({w with drawn:=w.drawn+1,heap:=w.heap.push (.cells c el)}).freeze {block:=w.heap.size,off:=c.size} 1,cap,c,(c.size,c.size+1),?_,?_,?_,?_,?_,e,hc,?_⟩;unfold Conv.stringToBytes;have n:ByteArray.size ⟨l.toArray⟩=l.length:=tW l;have g:World.shape? {w with drawn:=w.drawn+1,heap:=w.heap.push (.cells c el)} w.heap.size=some (el,c.size):=by simp[World.shape?]
 have q:(Array.map (λb=>Value.int IntKind.u8 ↑(UInt8.toNat b)) l.toArray++Array.replicate (cap-l.length) (Value.int IntKind.u8 0))=c:=rfl;simp only[yQ,run_choose,n,k,eI,if_false,sX,j,newRow,run_newObj,UL,markStringish,run_shape,run_freeze,q,g];grind [World.freeze];simp[World.freeze];simp[World.freeze];intro o _ h;simp;omega;grind
theorem JCA(hi:Inv s)(he:bN s a.tmps env){own x}(hn:own=true->s.σ[new]?=some .dead)(h:(opR F (.conv (.toBytes own) x) new).run ⟨env,s.σ⟩=some e)
  (hc:bA P (.conv (.toBytes own) x) o.op=true):bP P o a s e:=by
 simp only[opR]at h;obtain⟨u,h1,g⟩:=bind_some h;clear h;unfold bA at hc;simp only at hc;split at hc;rename_i K dst y I;simp only[aT]at hc;obtain⟨H,M,ht⟩:=hc;have E:=bK he h1 H;split at ht;rename_i el J;simp only[aT,beq_iff_eq]at ht;have r: ∃l,u=.p (.s l)/\(if own=true then RM.ret ⟨.slr new 0 l.length,[(new,.arr true 1 (l.map mD))]⟩else RM.ret ⟨.p (.sl 1 (l.map mD)),[]⟩:RM Eff).run ⟨env,s.σ⟩=some e:=by
  cases u with
  |p c=>cases c with|s l=>simp_all|_=>cases g
  |_=>cases g
 clear g;obtain⟨l,rfl,g⟩:=r
 skip
 obtain⟨w',cap,c,fz,D,v,A,z,G,C,hcs,B⟩:=M3 (P:=P) (el:=el) l s.w;have L:=tP E;have k:(execOp a.eval o).run P s.w=.ok (.value (.slice (some ⟨s.w.heap.size,0,none⟩) l.length cap)) w':=by simp_all [execOp,convert,run_underlying,xC,kH,qq]
 have j:=uq (s:=s) l c B (by omega);split at g;rename_i n;simp only[RM.run]at g;injection g with g;subst g;obtain⟨g',q,t',r'⟩:=eb (esz:=1) hi (hn n) v A z ⟨G,λh=>absurd rfl h⟩ j (cap:=cap) (by simp_all) (by omega);simp only[fE]at r';exact hU k q t' r';simp only[RM.run]at g;injection g with g;subst g;obtain⟨g',q,t',r'⟩:=eu hi v A z j (cap:=cap) (by simp_all);simp only[fE]at r';exact hU (e:=⟨_,[]⟩) k q t' r';cases ht;cases hc
theorem JKi(hi:Inv s){esz:Nat}{x:AV}{new:List (List PV)}{v:Value}{u:TypeId}(h:(fK esz x).run ⟨env,s.σ⟩=some new)(hr:JF s x v)
  (hu:(elT P u).isSome=true\/jW P u=true):
  ∃news,Src P esz u v new.length news s.w/\(∀row∈new,row.length=esz)/\
   ∀(i j:Nat) row y,new[i]?=some row->row[j]?=some y-> ∃q,news[i*esz+j]?=some q/\J08 s.w s.g.C y q:=by
 have e:(∃e',P.underlying u=some (.slice e'))\/P.underlying u=some .string:=(by rcases hu with hu|hu;obtain⟨e',O⟩:=jx.1 hu;simp_all [kH];grind [xC]);rcases sv hi h hr with⟨l,rfl,rfl,rfl,rfl⟩|F;have hlen:(byteCells ⟨l.toArray⟩).length=l.length:=by rw[byteCells_length,tW]
 have R: ∀w:World,(Builtin.firstCells 1 l.length (.string ⟨l.toArray⟩)).run P w=.ok (byteCells ⟨l.toArray⟩).toArray w:=(by grind [firstCells_string,tW]);refine⟨byteCells ⟨l.toArray⟩,⟨e,λw=>by rw[fE,<-tW];rfl,by simp_all,by simp_all,by rw[hlen];simp,λq I=>by obtain⟨_,_,rfl⟩:=oK.1 I;rfl⟩,λrow hr=>?_,?_⟩;obtain⟨b,_,rfl⟩:=oK.1 hr;rfl;have:=(uq (s:=s) l (byteCells ⟨l.toArray⟩).toArray (λi b S=>by
  grind [byteCells]) (by simp_all)).2.2
 simp_all;obtain⟨D,cap,vs,L,G,hlen,hrel,A,n⟩:=F.cells;have z: ∀q∈vs,q.oneCell'=true:=by
  intro q I;obtain⟨k,J⟩:=fP I;have N:=Jy J;have:k<new.flatten.length:=by grind [RF]
  obtain⟨q',o,hr⟩:=hrel k _ (JX this);rw[J]at o;injection o with o;subst o;exact hr.one
 have B: ∀(i j:Nat) row y,new[i]?=some row->row[j]?=some y-> ∃q,vs[i*esz+j]?=some q/\J08 s.w s.g.C y q:=by
  intro i j row y h1 h2;refine hrel _ _ ?_;clear hrel A hlen z h hr L G F
  induction new generalizing i with
  |nil=>simp at h1
  |cons K new ih=>have Q:K.length=esz:=n K (by simp);cases i<;>grind
 subst L;rcases A with H|⟨r,M,rfl,T⟩;subst H;simp at hlen;subst hlen;refine⟨[],?_,n,B⟩;cases D with
 |none=>exact⟨e,λ_=>rfl,run_firstCells_none s.w esz 0 0 cap,run_firstCells_none s.w.drew esz 0 0 cap,by simp,λ_ h=>by cases h⟩
 |some D=>exact⟨e,λ_=>rfl,run_firstCells_some s.w esz 0 D 0 cap [] (by simp) (λj u h=>by simp at h),run_firstCells_some s.w.drew esz 0 D 0 cap [] (by simp) (λj u h=>by simp at h),by simp,λ_ h=>by cases h⟩
 have E: ∀j q,vs[j]?=some q->s.w.cell? (Addr.add ⟨r,M,none⟩ j)=some q:=λj q U=>by grind [FS,rA]
 exact⟨vs,⟨e,λ_=>rfl,run_firstCells_some s.w esz _ _ _ cap vs hlen E,run_firstCells_some s.w.drew esz _ _ _ cap vs hlen (by simpa using E),hlen,z⟩,n,B⟩
theorem QQ(b:Nat)(x:Blk)(σ:List Blk):upd [(b,x)] σ=σ.set b x:=rfl
structure Cc(P:Program)(esz bytes:Nat)(t ut ty el:TypeId)(z v:Value)(n:Nat)(news:List Value)(w:World):Prop where
 newsLen:news.length=n*esz
 room: ∀(r off sLen sCap:Nat),sLen+n<=sCap->(∀j,j<news.length->(w.cell? ⟨r,off+sLen*esz+j,none⟩).isSome=true)->(∀j,j<news.length->w.frozen? ⟨r,off+sLen*esz+j,none⟩=false)->
  (Builtin.append_ #[t,ut] ty #[.slice (some ⟨r,off,none⟩) sLen sCap,v]).run P w=.ok (.slice (some ⟨r,off,none⟩) (sLen+n) sCap) (w.setCells r (off+sLen*esz) news)
 grow: ∀(base:Option Addr) (sLen sCap:Nat) (olds:List Value),(Builtin.firstCells esz sLen (.slice base sLen sCap)).run P w.drew=.ok olds.toArray w.drew->sCap<sLen+n->((sLen+n:Nat):Int)<=9223372036854775807->
  Builtin.nextslicecap (sLen+n) sCap*bytes<=281474976710656->
  (Builtin.append_ #[t,ut] ty #[.slice base sLen sCap,v]).run P w=.ok (.slice (some ⟨w.heap.size,0,none⟩) (sLen+n) (grownCap w (sLen+n) sCap el)) (w.drew.alloc (.cells ((olds++news).toArray++Builtin.zeroCells z.cells (grownCap w (sLen+n) sCap el-(sLen+n))) el))
 nil:n=0->(Builtin.append_ #[t,ut] ty #[.slice none 0 0,v]).run P w=.ok (.slice none 0 0) w
theorem Src.gen{esz bytes:Nat}{t ut ty el:TypeId}{i:TypeInfo}{z v:Value}{n:Nat}{news:List Value}{w:World}(g:elT P t=some el)(hs:szT P el=some esz)(j:P.info? el=some i)(x:i.size=esz)(y:i.bytes=bytes)(k:i.zero=some z)
  (h:Src P esz ut v n news w):Cc P esz bytes t ut ty el z v n news w:=by
 have e:=h;rw[<-x]at e;refine⟨h.newsLen,λr off sLen sCap h1 h2 B=>?_,λbase sLen sCap olds h1 h2 B E=>?_,λD=>?_⟩;have C:=run_append_room_src (P:=P) w t ut ty el i (kH g) j r off sLen sCap v n news e h1 (by simp_all) (by simp_all);simp_all;exact run_append_grow_src (P:=P) w t ut ty el i z (kH g) j k base sLen sCap olds (by simp_all) v n news e h2 B (by simp_all);subst D;have A:=h.len w;have o:=h.cells;rcases h.kind with⟨e',q⟩|q;simp[Builtin.append_,run_underlying (kH g),run_underlying q,jJ hs,A,o];simp[Builtin.append_,run_underlying (kH g),run_underlying q,jJ hs,A,o]
theorem JEP(hi:Inv s){esz bytes:Nat}{zero:List PV}{u v:AV}{c:Call}{x' y':Operand}{t ut el:TypeId}(ba:o.op=.call c)(ax:c.callee=.builtin .append)
  (af:c.args.toList=[x',y']) (bu:c.argTypes.toList=[t,ut]) (ci:elT P t=some el)
  (ht:(szT P el==some esz&&byT P el==some bytes&&mY P zero el&&zero.length==esz&&decide (0<esz)&&decide (0<bytes))=true)
  (rx:JF s u (a.eval x')) (hG: ∀(i:TypeInfo) (z:Value) (new:List (List PV)),szT P el=some esz->P.info? el=some i->i.size=esz->i.bytes=bytes->i.zero=some z->zeT P el=some z->zero.length=z.cells.size->new.length*bytes<=281474976710656->new.length<=281474976710656->(fK esz v).run ⟨env,s.σ⟩=some new->
   ∃news,Cc P esz bytes t ut o.type el z (a.eval y') new.length news s.w/\(∀row∈new,row.length=esz)/\
    ∀(i j:Nat) row y,new[i]?=some row->row[j]?=some y-> ∃q,news[i*esz+j]?=some q/\J08 s.w s.g.C y q)
  (x:(iR esz bytes u v).run ⟨env,s.σ⟩=some e):bP P o a s e:=by
 simp only[aT,beq_iff_eq,decide_eq_true_eq]at ht;obtain⟨⟨⟨⟨⟨hs,b5⟩,hz⟩,ca⟩,bm⟩,aj⟩:=ht;obtain⟨i,N,b1⟩:=ZO hs;obtain⟨z,an,cj,cb⟩:=AL hz;have K:=ox b5 N;have ah:=Ho an N;have hm:c.args.map a.eval= #[a.eval x',a.eval y']:=by apply UE;simp[af]
 have b2:c.argTypes= #[t,ut]:=by grind
 have a7: ∀{q:Value} {w':World},(Builtin.append_ #[t,ut] o.type #[a.eval x',a.eval y']).run P s.w=.ok q w'->(execOp a.eval o).run P s.w=.ok (.value q) w':=by intro q w' hr;simp[execOp,ba,resolve,ax,hm,b2,invoke,builtin,hr]
 unfold iR at x;split at x;rename_i b j n;simp only[RM.run]at x;split at x;rename_i blk E;split at x;rename_i wm Z rows;obtain⟨h,h3,V⟩:=bind_some x;clear x;split at V;rename_i ac;obtain⟨rfl,rfl,rfl,ae⟩:=ac;simp only[RM.run]at V;injection V with V;subst V;have E:s.σ[b]?=some (.arr wm esz rows):=E;have ae:(2*(rows.length+h.length)+512)*bytes<=281474976710656:=by grind [qH]
 have bd:rows.length+h.length<=281474976710656:=by have h5:(2*(rows.length+h.length)+512)*1<=(2*(rows.length+h.length)+512)*bytes:=Nat.mul_le_mul_left _ aj;omega
 have aq:h.length*bytes<=281474976710656:=(by grind);obtain⟨news,J,F,Q⟩:=hG i z h hs N b1 K ah an (by omega) aq (by omega) h3;have a6:=J.newsLen;have L:=jU.of_slr hi rx E (by omega);simp only[DL]at L;generalize T:a.eval x'=zz at rx;have bs: ∀{O:Nat},O<rows.length+h.length->Builtin.nextslicecap (rows.length+h.length) O*i.bytes<=281474976710656:=by intro O ho;have h5:=nextslicecap_le ho;rw[K];have h6:Builtin.nextslicecap (rows.length+h.length) O*bytes<=(2*(rows.length+h.length)+512)*bytes:=zQ4 _ (by omega);omega
 have grow: ∀{base:Option Addr} {cap:Nat},zz=.slice base rows.length cap->cap<rows.length+h.length->
   bP P o a s ⟨.slr b 0 (rows.length+h.length),[(b,.arr wm esz (rows++h))]⟩:=by
  intro base cap al b4;rw[T]at L;obtain⟨ad,bj,vs,W,be,H,aa,ai,I⟩:=L.cells;rw[al]at W;injection W with v1 v2 v3;subst v1 v3;have av:(Builtin.firstCells esz rows.length (.slice base rows.length cap)).run P s.w.drew=.ok vs.toArray s.w.drew:=by
   rcases ai with ao|⟨r,o',rfl,cf⟩;subst ao;simp at H;subst H;cases base<;>grind [run_firstCells_none,run_firstCells_some]
   exact run_firstCells_some s.w.drew esz _ _ _ cap vs H (λj q hj=>by
   have:s.w.drew.cell? (Addr.add ⟨r,o',none⟩ j)=s.w.cell? (Addr.add ⟨r,o',none⟩ j):=by simp
   grind [FS,rA])
  have A:=J.grow base rows.length cap vs av b4 (by omega) (by grind);have am:rows.length+h.length<=grownCap s.w (rows.length+h.length) cap el:=by simp[grownCap,Question.cut]
  generalize grownCap s.w (rows.length+h.length) cap el=U at A am;have b0:h≠[]:=by grind
  have cd:z.cells.size=esz:=by omega
  obtain⟨i0,t0⟩:=se (w':=s.w.drew) hi rfl rfl rfl;have bp:((vs++news).toArray++Builtin.zeroCells z.cells (U-(rows.length+h.length))).size=U*esz:=by
   have:U*esz=(rows.length+h.length)*esz+(U-(rows.length+h.length))*esz:=by rw[<-zQ8];congr 1;omega
   grind [size_zeroCells]
  obtain⟨g',bw,i',t'⟩:=JGM (s0:=⟨s.σ,s.g,s.w.drew⟩) i0 (w':=s.w.drew.alloc (.cells ((vs++news).toArray++Builtin.zeroCells z.cells (U-(rows.length+h.length))) el)) E b0 I F rfl rfl rfl
   (by grind) (λk m row q D hq=>by
    have R:=Jy hq;rcases QD D with D|⟨bo,D⟩;have a0:=Jy D;rw[I row (kI D)]at R;have au:=mB a0 R;have b6:=Ge I D hq;obtain⟨w,hw,hrel⟩:=aa _ q b6;refine⟨w,?_,hrel.mono hi t0⟩;grind;rw[F row (kI D)]at R;have a0:=Jy D;have au:=mB a0 R;obtain⟨w,hw,hrel⟩:=Q _ m row q D hq;have e4:k*esz+m=rows.length*esz+((k-rows.length)*esz+m):=(by grind [Nat.add_sub_cancel']);refine⟨w,?_,hrel.mono hi t0⟩;rw[Cm (by simp;omega)];simp;rw[nY (by omega),<-hw];congr 1;omega)
  refine hU (e:=⟨.slr b 0 (rows.length+h.length),[(b,.arr wm esz (rows++h))]⟩) (g':=g') (a7 (by rw[T,al];exact A)) i' (t0.trans t') ?_;refine .slr b 0 _ _ wm esz (rows++h) ⟨_,_,rfl,.inr (by simp)⟩ (jM E) (by simp) λ_=>.inr ⟨_,U,_,el,(0,0),bw,by simp,am,RI rfl,?_⟩;grind
 cases rx with
 |slr _ _ _ _ wm' Z rows' q0 Y q2 q3=>
  have Y:s.σ[b]?=some (.arr wm' Z rows'):=Y;rw[E]at Y;injection Y with Y;injection Y with a1 a2 a3;subst a1 a2 a3;rcases q3 (by omega)with⟨m',_,b9,W⟩|⟨r,cap,cc,e1,fz,m',W,bg,hh,bx⟩;have ab:rows=[]:=List.eq_nil_of_length_eq_zero b9;subst ab;by_cases aw:h=[];subst aw;simp at a6;subst a6;subst W;have A:(Builtin.append_ #[t,ut] o.type #[.slice none 0 0,a.eval y']).run P s.w=.ok (.slice none 0 0) s.w:=by exact J.nil rfl
  have M:s.σ.set b (.arr wm esz [])=s.σ:=(by apply zQ6;grind);refine hU (e:=⟨.slr b 0 0,[(b,.arr wm esz [])]⟩) (g':=s.g) (a7 (by rw[T];exact A)) ?_ ?_ ?_;rw[QQ,M];exact hi;rw[QQ,M];exact .refl s;rw[QQ,M];exact .slr b 0 0 _ wm esz [] ⟨none,0,rfl,.inl rfl⟩ E (zQ0 _) λ_=>.inl ⟨m',rfl,rfl,rfl⟩;grind [List.length_pos_iff];subst W;by_cases G:rows.length+h.length<=cap;rcases hi.arr b _ _ _ E with⟨B,_⟩|⟨r',c',e',ce,B,S,bt,hlen,cg,b8⟩;grind;rw[m']at B;injection B with B;injection B with B _;subst B;rw[hh]at S;injection S with S;injection S with w1 w2 w3;subst w1 w2 w3;have c1:(rows.length+h.length)*esz<=cc.size:=(by have:=zQ4 esz G;grind);have bq:(rows.length+h.length)*esz=rows.length*esz+h.length*esz:=zQ8 _ _ _;have a9:=NC (vs:=news) (o:=rows.length*esz) hh (by omega);obtain⟨i',t'⟩:=JIP hi E m' F a9 a6 Q;have A:=J.room r 0 rows.length cap G
   (λk D=>by rw[rA,jK hh];simp;omega)
   (λk D=>by
    have:=b8.1 (0+rows.length*esz+k) (by omega) (by omega);grind [World.frozen?])
  simp only[oM]at A;obtain⟨c0,e0,ch,b3,p1,p2,p3,p4,p5,p6⟩:=a9.there;rw[hh]at p1;injection p1 with p1;injection p1 with w1 w2 w3;subst w1 w2 w3;refine hU (e:=⟨.slr b 0 (rows.length+h.length),[(b,.arr wm esz (rows++h))]⟩) (a7 (by rw[T];simpa using A)) i' t' ?_;refine .slr b 0 _ _ wm esz (rows++h) ⟨_,_,rfl,.inr (by simp)⟩ (jM E) (by simp) λ_=>.inr ⟨r,cap,b3,e1,fz,m',by simp,G,p2,by grind⟩;grind
 cases V;cases x;cases x;cases x
theorem o9(hi:Inv s){esz bytes:Nat}{zero:List PV}{u v:AV}{c:Call}{B A:Operand}{t ut el:TypeId}(x:o.op=.call c)(r:c.callee=.builtin .append)
  (h:c.args.toList=[B,A]) (n:c.argTypes.toList=[t,ut]) (z:((elT P ut).isSome||jW P ut)=true) (k:elT P t=some el)
  (ht:(szT P el==some esz&&byT P el==some bytes&&mY P zero el&&zero.length==esz&&decide (0<esz)&&decide (0<bytes))=true)
  (D:JF s u (a.eval B)) (E:JF s v (a.eval A)) (y:(iR esz bytes u v).run ⟨env,s.σ⟩=some e):bP P o a s e:=
 JEP hi x r h n k ht D (λ_ _ _ G q C g j _ _ _ _ F=>by obtain⟨news,w,h1,h2⟩:=JKi (u:=ut) hi F E (Bool.or_eq_true_iff.1 z);exact⟨news,Src.gen k G q C g j w,h1,h2⟩) y
theorem JKz(hi:Inv s)(he:bN s a.tmps env){esz bytes zero x y}(h:(opR F (.app esz bytes zero x y) new).run ⟨env,s.σ⟩=some e)(hc:bA P (.app esz bytes zero x y) o.op=true):bP P o a s e:=by
 simp only[opR]at h;obtain⟨u,h1,r⟩:=bind_some h;obtain⟨v,h2,q⟩:=bind_some r;clear h r;unfold bA at hc;simp only at hc;split at hc;rename_i c n;split at hc;rename_i k;split at hc;rename_i D C t ut g j;simp only[aT]at hc;obtain⟨⟨⟨B,A⟩,w⟩,ht⟩:=hc;split at ht;rename_i el z;exact o9 hi n k g j w z (by omega) (bK he h1 B) (bK he h2 A) q;cases ht;cases hc;cases hc;cases hc
theorem JJy(hi:Inv s)(he:bN s a.tmps env)(hn:s.σ[new]?=some .dead){esz bytes zero y}(h:(opR F (.appn esz bytes zero y) new).run ⟨env,s.σ⟩=some e)(hc:bA P (.appn esz bytes zero y) o.op=true):bP P o a s e:=by
 simp only[opR]at h;obtain⟨v,h2,H⟩:=bind_some h;obtain⟨rows,j,k⟩:=bind_some H;clear h H;unfold bA at hc;simp only at hc;split at hc
 ·rename_i c G;split at hc
  ·rename_i E;split at hc
   ·rename_i V t ut z C;simp only[aT]at hc;obtain⟨⟨T,I⟩,ht⟩:=hc;split at ht
    ·rename_i el J;split at k
     ·rename_i L;simp only[RM.run]at k;injection k with k;subst k
      obtain⟨i1,K⟩:=QN hi hn esz;have B:(s.σ.set new (.arr true esz []))[new]?=some (.arr true esz []):=jM hn;have R:JF ⟨s.σ.set new (.arr true esz []),eS s.g new none,s.w⟩ (.slr new 0 0) (a.eval (.const (.slice none 0 0))):=
       .slr new 0 0 _ true esz [] ⟨none,0,rfl,.inl rfl⟩ B (zQ0 _) λ_=>.inl ⟨if_pos rfl,rfl,rfl,rfl⟩
      have S:=(bK he h2 T).mono hi K;have U:(fK esz v).run ⟨env,s.σ.set new (.arr true esz [])⟩=some rows:=by
       cases v with
       |slr b i n=>
        grind [fK,RM.run]
       |p c=>cases c<;>simp only[fK]at j⊢ <;>first|exact j|(split at j<;>rename_i O<;>first|(rw[if_pos O];exact j)|cases j)|cases j
       |_=>cases j
      have D:(iR esz bytes (.slr new 0 0) v).run ⟨env,s.σ.set new (.arr true esz [])⟩=some ⟨.slr new 0 rows.length,[(new,.arr true esz rows)]⟩:=(by grind [iR,RM.run,run_bind]);have ok:=o9 (s:=⟨s.σ.set new (.arr true esz []),eS s.g new none,s.w⟩) i1 G E z C I J (by omega) R S D;intro next Q A;refine ok next Q λM w' g' r x q=>?_;have N:upd [(new,Blk.arr true esz rows)] (s.σ.set new (.arr true esz []))=upd [(new,Blk.arr true esz rows)] s.σ:=by simp[QQ]
      simp only at r x q;rw[N]at r x q;exact A M w' g' r (K.trans x) q
     cases k
    cases ht
   cases hc
  cases hc
 cases hc
end
end Go.Am
end
section
namespace Go.Am
end Go.Am
end
section
namespace Go.Am
theorem dw: ∀{e j:List KD} {xs g:List PV} {r:Bool},J1B (e++j) xs g=some r->
  ∃o n,J1B e (xs.take e.length) (g.take e.length)=some o/\J1B j (xs.drop e.length) (g.drop e.length)=some n/\r=(o&&n)
 |[],j,xs,g,r,h=>⟨true,r,by simp[J1B],by simpa using h,by simp⟩
 |k::e,j,xs,g,r,h=>by
  cases xs with
  |nil=>grind [J1B]
  |cons x xs=>
   cases g with
   |nil=>grind [J1B]
   |cons y g=>
    simp only[vR,J1B]at h;split at h;rename_i a c q hc;injection h with h;subst h;obtain⟨o,n,h1,h2,v⟩:=dw hc;grind [J1B];cases h
theorem QV: ∀{ks:List KD} {xs e:List PV} {r:Bool},J1B ks xs e=some r->xs.length=ks.length/\e.length=ks.length
 |[],xs,e,r,h=>by grind [J1B]
 |k::ks,xs,e,r,h=>by
  cases xs with
  |nil=>grind [J1B]
  |cons x xs=>
   cases e with
   |nil=>grind [J1B]
   |cons y e=>
    simp only[J1B]at h;split at h;rename_i a c g hc;obtain⟨h1,h2⟩:=QV hc;simp[h1,h2];cases h
section
variable {P:Program} {F:Orc} {s:Sn} {a:Act} {env:List (Nat×AV)} {o:Oper} {new:Nat} {e:Eff}
def lc(P:Program)(t:TypeId)(vs:List Value)(X:Value):Prop:=(agT P t=some true/\X=.agg vs.toArray)\/(agT P t=some false/\ ∃v,vs=[v]/\X=v)
theorem RJ{t:TypeId}{n off:Nat}{cs:Array Value}(hs:szT P t=some n)(j:off+n<=cs.size)(g:(agT P t=some true)\/(agT P t=some false/\n=1))(w:World):
  ∃X,(part t cs off).run P w=.ok X w/\lc P t ((cs.toList.drop off).take n) X:=by
 rcases g with h|⟨h,rfl⟩;refine⟨.agg (cs.extract off (off+n)),by simp_all [part,FJ,jJ],.inl ⟨h,?_⟩⟩
 congr 1
 grind;have e:off<cs.size:=by omega
 have k:cs[off]?=some cs[off]:=by simp[e]
 refine⟨cs[off],by simp_all [part,FJ],.inr ⟨h,cs[off],?_,rfl⟩⟩;grind [List.drop_eq_getElem_cons]
def JbR(s:Sn)(xs:List PV)(vs:List Value):Prop:=xs.length=vs.length/\ ∀(i:Nat) x v,xs[i]?=some x->vs[i]?=some v->J08 s.w s.g.C x v
theorem JbR.take{xs vs}(h:JbR s xs vs)(n:Nat):JbR s (xs.take n) (vs.take n):=
 ⟨by simp[h.1],λi x v e g=>by
  rw[TT]at e g;split at e;rename_i hi;rw[if_pos hi]at g;exact h.2 i x v e g;cases e⟩
theorem JbR.drop{xs vs}(h:JbR s xs vs)(n:Nat):JbR s (xs.drop n) (vs.drop n):=
 ⟨by simp[h.1],λi x v g e=>by
  rw[ku]at g e;exact h.2 _ x v g e⟩
def EqK(P:Program)(s:Sn)(d:Nat)(t:TypeId)(ks:List KD):Prop:= ∀(e:Nat) (w:World) (xs h:List PV) (vs g:List Value) (r:Bool) (X Y:Value),J1B ks xs h=some r->JbR s xs vs->JbR s h g->lc P t vs X->lc P t g Y->(Op.equalIn (d+e) t X Y).run P w=.ok r w
theorem ux{d:Nat}{t:TypeId}{ks:List KD}(h:Jaa P d t=some ks):agT P t=some true\/(agT P t=some false/\ks.length=1):=by cases d<;>grind [Jaa,agT,yI]
theorem sr(d e:Nat)(B: ∀t ks,Jaa P d t=some ks->EqK P s d t ks)(w:World){xs q:List PV}{vs o:List Value}(hx:JbR s xs vs)(hy:JbR s q o):
  ∀{fs:List Field} {off:Nat} {ks:List KD} {r:Bool},MA P (Jaa P d) off fs=some ks->J1B ks (xs.drop off) (q.drop off)=some r->
   (Op.eqFields (d+e) vs.toArray o.toArray fs).run P w=.ok r w
 |[],off,ks,r,h,hc=>by simp[MA]at h;subst h;cases hxd:xs.drop off<;>cases hyd:q.drop off<;>simp[hxd,hyd,J1B]at hc;simp_all [Op.eqFields]
 |f::fs,off,ks,r,h,hc=>by
  unfold MA at h;split at h;cases h
  ·rename_i J;have j:f.name≠ "_" :=λe=>J (.inl e);have v:f.offset=off:=by simp_all
   split at h;cases h
   ·rename_i C k;split at h
    ·rename_i g;obtain⟨g,D⟩:=g;split at h
     ·rename_i N x;injection h with h;subst h;obtain⟨y,M,z,A,rfl⟩:=dw hc;obtain⟨G,L⟩:=QV z;rw[yT,DU]at G L;rw[EC,EC]at A;have n:=ux k;obtain⟨X,E,H⟩:=RJ (P:=P) (cs:=vs.toArray) (off:=off) g (by have:=hx.1;simp;omega) n w;obtain⟨Y,I,F⟩:=RJ (P:=P) (cs:=o.toArray) (off:=off) g (by have:=hy.1;simp;omega) n w;have K:=B f.type C k e w _ _ _ _ y X Y z ((hx.drop off).take _) ((hy.drop off).take _) (by simpa using H) (by simpa using F);have ih:=sr d e B w hx hy x A;simp only[Op.eqFields];rw[if_pos j];simp only[yQ,v,E,I,K,sX,Sem.run_ite];cases y
      all_goals simp_all
     cases h
    cases h
theorem qo(d e:Nat){t:TypeId}{ks:List KD}(v:EqK P s d t ks)(hk:Jaa P d t=some ks)(g:szT P t=some ks.length)(j:0<ks.length)(w:World){xs n:List PV}{vs k:List Value}(hx:JbR s xs vs)(hy:JbR s n k):
  ∀{m i:Nat} {r:Bool},J1B (List.replicate m ks).flatten (xs.drop (i*ks.length)) (n.drop (i*ks.length))=some r->
   (Op.eqItems (d+e) t ks.length vs.toArray k.toArray (List.range' i m)).run P w=.ok r w
 |0,i,r,hc=>by simp only[List.replicate_zero,List.flatten_nil]at hc;cases hxd:xs.drop (i*ks.length)<;>cases hyd:n.drop (i*ks.length)<;>simp[hxd,hyd,J1B]at hc;simp_all [Op.eqItems]
 |m+1,i,r,hc=>by
  rw[List.replicate_succ,qF]at hc;obtain⟨o,A,q,y,rfl⟩:=dw hc;obtain⟨B,F⟩:=QV q;rw[yT,DU]at B F;rw[EC,EC]at y;have h:=ux hk;obtain⟨X,x,C⟩:=RJ (P:=P) (cs:=vs.toArray) (off:=i*ks.length) g (by have:=hx.1;simp;omega) h w;obtain⟨Y,D,z⟩:=RJ (P:=P) (cs:=k.toArray) (off:=i*ks.length) g (by have:=hy.1;simp;omega) h w;have E:=v e w _ _ _ _ o X Y q ((hx.drop _).take _) ((hy.drop _).take _) (by simpa using C) (by simpa using z);have ih:=qo d e v hk g j w hx hy (m:=m) (i:=i+1) (r:=A) (by
   grind)
  rw[List.range'_succ];simp only[Op.eqItems,yQ,x,D,E,sX,Sem.run_ite];cases o
  all_goals simp_all
theorem eqK: ∀(d:Nat) (t:TypeId) (ks:List KD),Jaa P d t=some ks->EqK P s d t ks
 |0,t,ks,h=>by grind [Jaa]
 |d+1,t,ks,h=>by
  intro e w xs R vs U r X Y hc J I H G;have M:d+1+e=(d+e)+1:=by omega
  rw[M];have O:=QV hc;unfold Jaa at h;have q: ∀{k:KD},agT P t=some false->ks=[k]-> ∃x y,xs=[x]/\R=[y]/\Jht k x y=some r/\J08 s.w s.g.C x X/\J08 s.w s.g.C y Y:=(by rintro k F rfl;obtain⟨x,rfl⟩:=VI.1 O.1;obtain⟨y,rfl⟩:=VI.1 O.2;rcases H with⟨o,_⟩|⟨_,v,rfl,rfl⟩;simp_all;rcases G with⟨o,_⟩|⟨_,u,rfl,rfl⟩;simp_all;refine⟨x,y,rfl,rfl,?_,J.2 0 x _ rfl rfl,I.2 0 y _ rfl rfl⟩;grind [J1B]);split at h<;>rename_i T
  injection h with h;subst h;obtain⟨x,y,rfl,rfl,j,A,B⟩:=q (by grind [agT,yI]) rfl;cases A<;>cases B<;>simp only[Jht]at j<;>try (cases j;done)
  grind [run_equalIn_bool];injection h with h;subst h;obtain⟨x,y,rfl,rfl,j,A,B⟩:=q (by grind [agT,yI]) rfl;cases A<;>cases B<;>simp only[Jht]at j<;>try (cases j;done)
  grind [run_equalIn_int];injection h with h;subst h;obtain⟨x,y,rfl,rfl,j,A,B⟩:=q (by grind [agT,yI]) rfl;cases A<;>cases B<;>simp only[Jht]at j<;>try (cases j;done)
  simp_all [run_equalIn_string];rename_i fs;split at h;cases h;rename_i L;have F:agT P t=some true:=by grind [agT,yI]
  rcases H with⟨_,rfl⟩|⟨o,_⟩;rcases G with⟨_,rfl⟩|⟨o,_⟩;have N:P.fieldsOf t=fs:=by grind [Program.fieldsOf]
  rw[run_equalIn_struct w (d+e) t _ _ (by simp_all) (by simpa using L),N];exact sr d e (λt ks S=>eqK d t ks S) w J I h (by simpa using hc);simp_all;simp_all;rename_i n el;split at h;rename_i K E;split at h;rename_i z;injection h with h;subst h;have F:agT P t=some true:=by grind [agT,yI]
  rcases H with⟨_,rfl⟩|⟨o,_⟩;rcases G with⟨_,rfl⟩|⟨o,_⟩;obtain⟨i,hi,Q⟩:=ZO z.1;have D:P.cellsOf el=K.length:=by grind [Program.cellsOf]
  rw[run_equalIn_array w (d+e) _ _ T hi,D,List.range_eq_range'];exact qo d e (eqK d el K E) E z.1 z.2 w J I (i:=0) (by simpa using hc);simp_all;simp_all;cases h;cases h;cases h
theorem Kh(hi:Inv s)(he:bN s a.tmps env){op ks x y}(h:(opR F (.bin op (.flat ks) x y) new).run ⟨env,s.σ⟩=some e)(hc:bA P (.bin op (.flat ks) x y) o.op=true):bP P o a s e:=by
 simp only[opR]at h;obtain⟨u,h1,E⟩:=bind_some h;obtain⟨v,h2,A⟩:=bind_some E;obtain⟨r,j,rfl⟩:=gH A;clear h E A;unfold bA at hc;simp only at hc;split at hc
 ·rename_i V t C B ty U;simp only[aT,beq_iff_eq]at hc;obtain⟨⟨rfl,k⟩,⟨⟨R,N⟩,z⟩,K⟩:=hc;have H:=bK he h1 k;have I:=bK he h2 R;generalize W:a.eval C=zx at H;generalize Y:a.eval B=Z at I;simp only[mW]at j;split at j
  ·rename_i p q;cases H with
   |data _ vs L J=>
    cases I with
    |data _ g O S=>
     have n: ∃b,J1B ks p q=some b:=by cases hcm:J1B ks p q<;>simp_all [iW]
     obtain⟨b,n⟩:=n;rw[n]at j;obtain⟨Q,rfl⟩:=uE j;have G:(eqGuard op t C B (.agg vs) (.agg g)).run P s.w=.ok () s.w:=run_eqGuard_agg s.w op t C B vs g (by simpa using K);have T:=eqK (P:=P) (s:=s) 100 t ks N 9900 s.w p q vs.toList g.toList b (.agg vs) (.agg g) n ⟨by simpa using L,λi x v k D=>J i x v k (by simpa using D)⟩ ⟨by simpa using O,λi x v k D=>S i x v k (by simpa using D)⟩ (.inl ⟨z,by simp⟩) (.inl ⟨z,by simp⟩);have M:(binOp op t (.agg vs) (.agg g)).run P s.w=.ok (.bool (if op=.eql then b else !b)) s.w:=by
      rcases Q with rfl|rfl
      all_goals simp_all [run_eql_struct,run_neq_struct]
     simp_all [JO,execOp,oZ]
  cases j
 cases hc
end
end Go.Am
end
section
namespace Go.Am
theorem J08.weaken{w:World}{C e:Nat->Nat->Prop}(h: ∀r o,C r o->e r o){x v}(hr:J08 w C x v):J08 w e x v:=by
 induction hr with
 |b x=>exact .b x
 |i k n=>exact .i k n
 |s l=>exact .s l
 |np=>exact .np
 |nf=>exact .nf
 |sl0 esz a cap=>exact .sl0 esz a cap
 |sl esz rows r o cap vals h1 h2 g _ ih=>exact .sl esz rows r o cap vals h1 h2 (λi j row x hr q=>⟨h _ _ (g i j row x hr q).1,(g i j row x hr q).2⟩) ih
 |slc esz rows a _ ih=>exact .slc esz rows a ih
theorem Fb{s c:Sn}(hi:Inv s)(hw:c.w=s.w)(q: ∀k cs,c.σ[k]?=some (.box cs)->OQ c k cs)(v: ∀k wm esz rows,c.σ[k]?=some (.arr wm esz rows)->OD c k wm esz rows)
  (id:Nat->Nat) (x: ∀e j,e<c.σ.length->j<c.σ.length->id e=id j->e=j) (wr: ∀k r o,Wr1 c k r o->Wr1 s (id k) r o)
  (y: ∀r o,c.g.C r o->r<s.w.heap.size/\ ∀k,¬Wr1 c k r o):Inv c:=by
 have n: ∀k r o,Wr1 c k r o->k<c.σ.length:=(by grind [Wr1]);exact⟨q,v,λe j r o h1 h2=>x e j (n _ _ _ h1) (n _ _ _ h2) (hi.apart _ _ _ _ (wr _ _ _ h1) (wr _ _ _ h2)),λr o h=>by grind⟩
theorem uD{m ids sto}: ∀{xs e:List AV},fin.finL m ids sto xs=some e->xs.length=e.length/\ ∀(i:Nat) x y,xs[i]?=some x->e[i]?=some y->fin m ids sto x=some y
 |[],e,h=>by grind [fin.finL]
 |x::xs,e,h=>by
  simp only[fin.finL]at h;split at h;rename_i y l j g;injection h with h;subst h;obtain⟨h1,h2⟩:=uD g;grind;cases h
theorem SB{m ids sto}: ∀{xs e:List Blk},qI m ids sto xs=some e->xs.length=e.length/\ ∀(i:Nat) x y,xs[i]?=some x->e[i]?=some y->fT m ids sto x=some y
 |[],e,h=>by grind [qI]
 |x::xs,e,h=>by
  simp only[qI]at h;split at h;rename_i y l j g;injection h with h;subst h;obtain⟨h1,h2⟩:=SB g;grind;cases h
theorem s7{sto}: ∀{ids:List Nat} {e:List Blk},vV sto ids=some e->ids.length=e.length/\ ∀(i:Nat) b y,ids[i]?=some b->e[i]?=some y->sto[b]?=some y
 |[],e,h=>by grind [vV]
 |x::xs,e,h=>by
  simp only[vV]at h;split at h;rename_i y l j g;injection h with h;subst h;obtain⟨h1,h2⟩:=s7 g;grind;cases h
theorem RW{b:Nat}: ∀{ids:List Nat} {k j:Nat},eE b ids k=some j->k<=j/\ids[j-k]?=some b
 |[],k,j,h=>by grind [eE]
 |x::r,k,j,h=>by
  simp only[eE]at h;split at h;simp_all;obtain⟨h1,h2⟩:=RW h;grind
theorem r6{b:Nat}: ∀{ids:List Nat} {k:Nat},eE b ids k=none->b∉ids
 |[],_,_=>by simp
 |x::r,k,h=>by
  simp only[eE]at h;split at h;cases h;rename_i g;simp only[cL,not_or];exact⟨λe=>g e.symm,r6 h⟩
theorem SF: ∀{l:List Nat},jD l=true->l.Nodup|[],_=>List.nodup_nil|x::r,h=>by simp only[jD,aT,CY]at h;refine List.nodup_cons.2 ⟨?_,SF h.2⟩;simp_all
theorem RU{α:Type}: ∀{l:List α},l.Nodup-> ∀{i j:Nat} {x:α},l[i]?=some x->l[j]?=some x->i=j
 |[],_,i,j,x,h,_=>by simp at h
 |y::l,h,i,j,x,h1,h2=>by
  obtain⟨g,e⟩:=List.nodup_cons.1 h;cases i with
  |zero=>
   grind
  |succ i=>
   cases j with
   |zero=>grind
   |succ j=>exact congrArg (· +1) (RU e (i:=i) (j:=j) (x:=x) (by simpa using h1) (by simpa using h2))
def JNI(s:Sn)(m:Nat)(ids:List Nat):Nat->Nat->Prop:=λr o=>s.g.C r o\/ ∃b wm esz rows,m<=b/\b∉ids/\s.σ[b]?=some (Blk.arr wm esz rows)/\s.g.μ b=some (r,0)/\o<rows.length*esz
def jT(s:Sn)(m:Nat)(ids:List Nat)(σ:List Blk):Sn:=
 ⟨σ,⟨λk=>if k<m then s.g.μ k else match ids[k-m]? with
  |some b=>s.g.μ b
  |none=>none,JNI s m ids⟩,s.w⟩
section
variable {s:Sn} {m:Nat} {ids:List Nat} {l q q':List Blk}
def gB(m:Nat)(ids:List Nat)(k:Nat):Nat:=if k<m then k else(ids[k-m]?).getD 0
structure mo(s:Sn)(m:Nat)(ids:List Nat)(σ:List Blk):Prop where
 inv:Inv s
 le:m<=s.σ.length
 nodup:ids.Nodup
 ge: ∀b∈ids,m<=b
 len:σ.length=m+ids.length
 blk: ∀k x,σ[k]?=some x-> ∃y,s.σ[gB m ids k]?=some y/\fT m ids s.σ y=some x
variable {σ:List Blk} (h:mo s m ids σ)
theorem tH(k:Nat)(hk:k<m+ids.length):(jT s m ids σ).g.μ k=s.g.μ (gB m ids k):=by
 grind [jT,gB]
include h in
theorem cl{k:Nat}{x:Blk}(hk:σ[k]?=some x):k<m+ids.length/\ ∃y,s.σ[gB m ids k]?=some y/\fT m ids s.σ y=some x:=by have:=Jy hk;exact⟨by rw[<-h.len];exact this,h.blk k x hk⟩
include h in
theorem KY{b k:Nat}{y:Blk}(g:gB m ids k=b)(hk:k<m+ids.length)(hb:s.σ[b]?=some y): ∃x,σ[k]?=some x/\fT m ids s.σ y=some x:=by
 have e:k<σ.length:=by rw[h.len];exact hk
 obtain⟨j,h1,h2⟩:=h.blk k σ[k] (JX e);simp_all
theorem tV{k:Nat}(hk:k<m):gB m ids k=k:=by simp[gB,hk]
theorem ZT{b j:Nat}(hj:eE b ids m=some j):gB m ids j=b/\j<m+ids.length:=by
 obtain⟨h1,h2⟩:=RW hj;grind [gB]
include h in
theorem ZD{x y:AV}{v:Value}(hr:JF s x v):fin m ids s.σ x=some y->JF (jT s m ids σ) y v:=by
 have J: ∀r o,s.g.C r o->(jT s m ids σ).g.C r o:=λr o h=>.inl h
 induction hr generalizing y with
 |p c v hp=>intro w;simp[fin]at w;subst w;exact .p _ _ (hp.weaken J)
 |data cs vs h1 h2=>intro w;simp[fin]at w;subst w;exact .data _ _ h1 λi x v A D=>(h2 i x v A D).weaken J
 |agg cs vs h1 H h2 ih=>
  intro w;simp only[fin]at w;split at w;rename_i l Q;obtain⟨I,N⟩:=uD Q;have hrel: ∀(i:Nat) y v,l[i]?=some y->vs[i]?=some v->JF (jT s m ids σ) y v:=(by grind [Jy]);split at w;rename_i q hq;injection w with w;subst w;have:=RB hq;subst this;refine .data _ _ (by simp_all) λi c v hc D=>?_;have:=hrel i (.p c) v (by simp[hc]) D;cases this<;>simp_all
  injection w with w;subst w;exact .agg _ _ (by omega) H hrel;cases w
 |tup cs vs h1 h2 ih=>
  intro w;simp only[fin]at w;split at w;rename_i l Q;injection w with w;subst w;obtain⟨I,N⟩:=uD Q;refine .tup _ _ (by omega) λi y v W D=>?_;grind [Jy];cases w
 |ptr b off r o hm B=>
  intro w;obtain⟨cs,B⟩:=B;have go: ∀k,gB m ids k=b->k<m+ids.length->JF (jT s m ids σ) (.ptr k off) (.pointer (some ⟨r,o+off,none⟩)):=(by intro k F E;obtain⟨x,A,z⟩:=KY h F E B;simp only[fT]at z;split at z;injection z with z;subst z;exact .ptr k off r o (by grind [tH]) ⟨_,A⟩;cases z);grind [fin,tV,Option.map_eq_some_iff,ZT]
 |cp cs off r o vals T p2=>intro w;simp[fin]at w;subst w;exact .cp cs off r o vals (λj x A=>⟨J _ _ (T j x A).1,(T j x A).2⟩) λj x A=>(p2 j x A).weaken J
 |slr b i n v wm esz rows H B G D=>
  intro w;have go: ∀k,gB m ids k=b->k<m+ids.length->JF (jT s m ids σ) (.slr k i n) v:=by
   intro k F E;obtain⟨x,A,z⟩:=KY h F E B;simp only[fT]at z;injection z with z;subst z;refine .slr k i n v wm esz rows H A G λe=>?_;have a9:(jT s m ids σ).g.μ k=s.g.μ b:=by grind [tH]
   rcases D e with⟨M,K,Z,V⟩|⟨r,cap,c,R,fz,M,q⟩;exact .inl ⟨by simp_all,K,Z,V⟩;exact .inr ⟨r,cap,c,R,fz,by simp_all,q⟩
  simp only[fin]at w;split at w;grind [tV];rename_i a6;split at w;grind [ZT];rename_i L;rw[B]at w;simp only at w;split at w;rename_i e;injection w with w;subst w;obtain⟨a,cap,I,N,P,U⟩:=jU.of_slr h.inv (.slr b i n v wm esz rows H B G D) B e;refine .p _ _ (gg (s:=jT s m ids σ) I N P (U.imp id ?_));rintro⟨r,o,rfl,A⟩;refine⟨r,o,rfl,λk j row x E Y=>⟨.inr ⟨b,wm,esz,rows,by omega,r6 L,B,?_⟩,?_⟩⟩;rcases D e with⟨M,K,Z,V⟩|⟨r',a1,c,R,fz,M,K,_⟩;simp_all;rw[I]at K;injection K with v1 v2 v3;injection v1 with v1;injection v1 with v1 v4;subst v1 v4;refine⟨M,?_⟩;have S:=Jy E;have O:=Jy Y;rw[P row (kI E)]at O;rw[DU]at S;have:=mB (a:=i+k) (b:=j) (n:=rows.length) (e:=esz) (by omega) O;grind;obtain⟨u,hu,hr⟩:=A k j row x E Y;exact⟨u,hu,hr.weaken J⟩;cases w
 |ep b ext i off v wm esz rows H B G D=>
  intro w;have go: ∀k,gB m ids k=b->k<m+ids.length->JF (jT s m ids σ) (.ep k ext i off) v:=(by intro k F E;obtain⟨x,A,z⟩:=KY h F E B;simp only[fT]at z;injection z with z;subst z;refine .ep k ext i off v wm esz rows H A G λR e2=>?_;grind [tH]);grind [fin,tV,Option.map_eq_some_iff,ZT]
 |fn f first caps fs cs h1 h2 _ _ a7 a8=>
  intro w;simp only[fin]at w;split at w
  ·rename_i a c ha hc;injection w with w;subst w;obtain⟨I,N⟩:=uD ha;obtain⟨P,U⟩:=uD hc;refine .fn f a c fs cs (by omega) (by omega) (λi y v W D=>?_) (λi y v W D=>?_)
   all_goals grind [Jy]
  cases w
 |unk x=>intro w;simp[fin]at w;subst w;exact .unk x
 |pre=>intro w;simp[fin]at w
include h in
theorem PG(k r o:Nat)(hw:Wr1 (jT s m ids σ) k r o):k<m+ids.length/\Wr1 s (gB m ids k) r o:=by
 unfold Wr1 at hw;have g:(jT s m ids σ).σ=σ:=rfl;rw[g]at hw;cases hk:σ[k]? with
 |none=>simp_all
 |some x=>obtain⟨e,y,j,n⟩:=cl h hk;refine⟨e,?_⟩;rw[hk]at hw;rw[tH k e]at hw;unfold Wr1;rw[j];cases y<;>grind [fT,uD]
include h in
theorem G6:Inv (jT s m ids σ):=by
 have hi:=h.inv;have R: ∀z n,z<m+ids.length->n<m+ids.length->gB m ids z=gB m ids n->z=n:=by
  intro z n h1 h2 B;simp only[gB]at B;split at B<;>split at B
  exact B;rename_i a b;have:n-m<ids.length:=by omega
  have:=h.ge ids[n-m] (by simp);grind;rename_i a b;have:=h.ge (ids[z-m]'(by omega)) (by simp);grind;have W:z-m<ids.length:=by omega
  have V:n-m<ids.length:=by omega
  simp[W,V]at B;have:=RU h.nodup (JX W) (by rw[B];exact JX V);omega
 refine Fb hi rfl ?_ ?_ (gB m ids) (λz n h1 h2 B=>R z n (by rw[<-h.len];exact h1) (by rw[<-h.len];exact h2) B) (λk r o A=>(PG h k r o A).2) ?_;intro k cs O;obtain⟨I,y,P,g⟩:=cl h O;cases y with
 |dead=>grind [fT]
 |arr=>grind [fT]
 |box S=>
  simp only[fT]at g;split at g;rename_i l G;injection g with g;injection g with g;subst g;obtain⟨z,n⟩:=uD G;obtain⟨r,o,c,e,fz,q,E,a2,H,J⟩:=hi.box _ _ P;refine⟨r,o,c,e,fz,by grind [tH],E,by omega,λi x Z=>?_,by simp_all⟩;grind [Jy,ZD];cases g
 intro k wm esz rows O;obtain⟨I,y,P,g⟩:=cl h O;cases y with
 |dead=>grind [fT]
 |box S=>grind [fT]
 |arr w e rs=>
  simp[fT]at g;obtain⟨rfl,rfl,rfl⟩:=g;rcases hi.arr _ _ _ _ P with⟨q,Q⟩|⟨r,c,e,fz,q,E,C,G,H,J⟩;exact .inl ⟨by grind [tH],Q⟩;refine .inr ⟨r,c,e,fz,by grind [tH],E,C,G,λi j row x h1 h2=>?_,J⟩;obtain⟨⟨v,Y,Q⟩,hc⟩:=H i j row x h1 h2;exact⟨⟨v,Y,Q.weaken λr o h=>.inl h⟩,λe=>.inl (hc e)⟩
 intro r o hc;rcases hc with hc|⟨b,wm,esz,rows,a3,a1,U,T,a0⟩;exact⟨(hi.const r o hc).1,λk A=>(hi.const r o hc).2 _ (PG h k r o A).2⟩;rcases hi.arr _ _ _ _ U with⟨q,_⟩|⟨r',c,e,fz,q,E,C,G,H,_⟩;simp_all;rw[T]at q;injection q with q;injection q with q _;subst q;refine⟨xI E,λk A=>?_⟩;obtain⟨I,A⟩:=PG h k r o A;have L:gB m ids k≠b:=(by grind [gB]);cases wm with
 |true=>
  refine L (hi.apart _ _ _ _ A ?_);grind [Wr1]
 |false=>
  have M:0<esz:=(by grind);have F:o/esz<rows.length:=Nat.div_lt_of_lt_mul (by grind);have D:rows[o/esz]?=some (rows[o/esz]'F):=JX _;have hlen:=C _ (kI D);have N:o%esz<(rows[o/esz]'F).length:=by rw[hlen];exact Nat.mod_lt _ M
  have K:=(H _ _ _ _ D (JX N)).2 rfl;have:o/esz*esz+o%esz=o:=by grind [Nat.div_add_mod]
  rw[this]at K;exact(hi.const r o K).2 _ A
include h in
theorem qv{E:Sn}(t:bC E s)(M:E.σ.length<=m):bC E (jT s m ids σ):=by
 have hi:=h.inv;refine⟨t.keep,λr o hc=>.inl (t.cmono r o hc),λr o hc=>?_,λr o ⟨k,H⟩=>t.wnew r o ⟨_,(PG h k r o H).2⟩,?_,λb cs B=>?_,λb wm esz rows B=>?_⟩;rcases hc with hc|⟨b,wm,esz,rows,L,K,D,C,J⟩;exact t.cnew r o hc;cases wm with
 |true=>have:=t.wnew r o ⟨b,by grind [Wr1]⟩;exact .inr this
 |false=>
  rcases hi.arr _ _ _ _ D with⟨n,_⟩|⟨r',c,e,fz,n,N,A,I,w,_⟩;simp_all;rw[C]at n;injection n with n;injection n with n _;subst n;have G:0<esz:=(by grind);have v:o/esz<rows.length:=Nat.div_lt_of_lt_mul (by grind);have q:rows[o/esz]?=some (rows[o/esz]'v):=JX _;have hlen:=A _ (kI q);have z:o%esz<(rows[o/esz]'v).length:=by simp_all [Nat.mod_lt]
  have y:=(w _ _ _ _ q (JX z)).2 rfl;have:o/esz*esz+o%esz=o:=by grind [Nat.div_add_mod]
  rw[this]at y;exact t.cnew r o y
 show E.σ.length<=σ.length;rw[h.len];omega;have j:b<m:=by grind
 obtain⟨⟨cs',h1,h2⟩,F⟩:=t.box b cs B;obtain⟨x,w,g⟩:=KY h (tV j) (by omega) h1;simp only[fT]at g;split at g;rename_i l I;injection g with g;subst g;exact⟨⟨l,w,by grind [uD]⟩,by grind [tH,tV]⟩;cases g;have j:b<m:=by grind
 obtain⟨wm',rows',h1,h2,F,O⟩:=t.arr b wm esz rows B;obtain⟨x,w,g⟩:=KY h (tV j) (by omega) h1;simp[fT]at g;subst g;exact⟨wm',rows',w,h2,F,λe=>by grind [tH,tV]⟩
end
end Go.Am
end
section
namespace Go.Am
def J4p(P:Program)(f:FuncId)(args:List AV)(blks:List Blk)(r:Res):Prop:=
 (∃fn,P.funcs[f]?=some fn∧fn.body.isSome=true∧(fn.name== "runtime.NumGoroutine")=false)∧
 ∀(g:Gh) (w:World) (vals:Array Value),Inv ⟨blks,g,w⟩->args.length=vals.size->(∀(i:Nat) x v,args[i]?=some x->vals[i]?=some v->JF ⟨blks,g,w⟩ x v)->
  Calls P f vals w λe w'=> ∃v g',e=.returned v/\Inv ⟨r.2,g',w'⟩/\bC ⟨blks,g,w⟩ ⟨r.2,g',w'⟩/\JF ⟨r.2,g',w'⟩ r.1 v
def jF(P:Program)(F:Orc):Prop:= ∀f args blks r,F f args blks=some r->J4p P f args blks r
theorem xE{e:Ent}: ∀{es:List Ent} {k j:Nat},cY e es k=some j->k<=j/\es[j-k]?=some e
 |[],k,j,h=>by grind [cY]
 |x::r,k,j,h=>by
  simp only[cY]at h;split at h;simp_all;obtain⟨h1,h2⟩:=xE h;grind
theorem uF{ρ:Ent->Option Nat}: ∀{xs e:List AV},ren.renL ρ xs=some e->xs.length=e.length/\ ∀(i:Nat) x y,xs[i]?=some x->e[i]?=some y->ren ρ x=some y
 |[],e,h=>by grind [ren.renL]
 |x::xs,e,h=>by
  simp only[ren.renL]at h;split at h;rename_i y l j g;injection h with h;subst h;obtain⟨h1,h2⟩:=uF g;grind;cases h
theorem uB{es:List Ent}{new:Nat}: ∀{xs e:List AV},bk.bkL es new xs=some e->xs.length=e.length/\ ∀(i:Nat) x y,xs[i]?=some x->e[i]?=some y->bk es new x=some y
 |[],e,h=>by grind [bk.bkL]
 |x::xs,e,h=>by
  simp only[bk.bkL]at h;split at h;rename_i y l j g;injection h with h;subst h;obtain⟨h1,h2⟩:=uB g;grind;cases h
def UV(s:Sn)(ρ:Ent->Option Nat)(e:Ent)(x:Blk):Prop:=
 match e with
 | .whole b=>(∃cs l,s.σ[b]?=some (.box cs)/\ren.renL ρ cs=some l/\x=.box l)\/(∃w esz rows,s.σ[b]?=some (.arr w esz rows)/\x=.arr w esz rows)
 | .elem b ext i=> ∃esz rows row,s.σ[b]?=some (.arr true esz rows)/\ext=rows.length/\rows[i]?=some row/\x=.box (row.map .p)
section
variable {s:Sn} {env:List (Nat×AV)}
theorem d9{e:List Blk}{ws:List (Nat×Blk)}{b:Nat}{x:Blk}(h:(qD ws b).run ⟨env,e⟩=some x):(upd ws e)[b]?=some x:=by
 grind [qD,RM.run,wW]
theorem JEM{k:List Blk}{ws:List (Nat×Blk)}(n:s.σ=upd ws k){ρ:Ent->Option Nat}{e:Ent}{x:Blk}(h:(yW ws ρ e).run ⟨env,k⟩=some x):UV s ρ e x:=by
 cases e with
 |whole b=>
  simp only[yW]at h;obtain⟨y,h1,h⟩:=bind_some h;have g:=d9 h1;rw[<-n]at g;cases y with
  |dead=>cases h
  |box cs=>
   dsimp only at h;split at h;rename_i l o;simp only[RM.run]at h;injection h with h;subst h;exact .inl ⟨cs,l,g,o,rfl⟩;cases h
  |arr w esz rows=>
   simp only[RM.run]at h;injection h with h;subst h;exact .inr ⟨w,esz,rows,g,rfl⟩
 |elem b ext i=>
  simp only[yW]at h;obtain⟨y,h1,h⟩:=bind_some h;have g:=d9 h1;rw[<-n]at g;cases y with
  |arr w esz rows=>
   cases w;cases h;dsimp only at h;split at h;rename_i q;split at h;rename_i row j;simp only[RM.run]at h;injection h with h;subst h;exact⟨esz,rows,row,g,q,j,rfl⟩;cases h;cases h
  |_=>cases h
theorem s9{g:List Blk}{ws:List (Nat×Blk)}(j:s.σ=upd ws g){ρ:Ent->Option Nat}: ∀{es:List Ent} {blks:List Blk},(kF ws ρ es).run ⟨env,g⟩=some blks->
  es.length=blks.length/\ ∀(k:Nat) e x,es[k]?=some e->blks[k]?=some x->UV s ρ e x
 |[],blks,h=>by grind [kF,RM.run]
 |e::es,blks,h=>by
  simp only[kF]at h;obtain⟨x,h1,h⟩:=bind_some h;obtain⟨l,h2,h⟩:=bind_some h;simp only[RM.run]at h;injection h with h;subst h;obtain⟨n,o⟩:=s9 j h2;grind [JEM]
def hC(s:Sn)(es:List Ent)(blks:List Blk):Sn:=
 ⟨blks,⟨λk=>match es[k]? with
  |some (.whole b)=>s.g.μ b
  |some (.elem b _ i)=>(match s.σ[b]? with
   |some (.arr _ esz _)=>(match s.g.μ b with
    |some p=>some (p.1,i*esz)
    |none=>none)
   |_=>none)
  |none=>none,s.g.C⟩,s.w⟩
structure YU(s:Sn)(es:List Ent)(blks:List Blk):Prop where
 inv:Inv s
 nodup:(es.map Ent.id).Nodup
 len:es.length=blks.length
 blk: ∀(k:Nat) e x,es[k]?=some e->blks[k]?=some x->UV s (λe=>cY e es 0) e x
variable {es:List Ent} {blks:List Blk} (h:YU s es blks)
include h in
theorem qN{k:Nat}{e:Ent}(he:es[k]?=some e): ∃x,blks[k]?=some x/\UV s (λe=>cY e es 0) e x:=by
 have g:=Jy he;have:k<blks.length:=by rw[<-h.len];exact g
 exact⟨blks[k],JX this,h.blk k e _ he (JX this)⟩
theorem xD{k b:Nat}(he:es[k]?=some (.whole b)):(hC s es blks).g.μ k=s.g.μ b:=by simp[hC,he]
theorem RR{k b ext i esz:Nat}{wm rows r}(he:es[k]?=some (.elem b ext i))(hb:s.σ[b]?=some (.arr wm esz rows))(hm:s.g.μ b=some (r,0)):(hC s es blks).g.μ k=some (r,i*esz):=by
 grind [hC]
include h in
theorem D5{x y:AV}{v:Value}(hr:JF s x v):ren (λe=>cY e es 0) x=some y->JF (hC s es blks) y v:=by
 induction hr generalizing y with
 |p c v T=>intro j;simp[ren]at j;subst j;exact .p _ _ T
 |data cs vs h1 h2=>intro j;simp[ren]at j;subst j;exact .data _ _ h1 h2
 |cp cs off r o vals Q P=>intro j;simp[ren]at j;subst j;exact .cp cs off r o vals Q P
 |unk x=>intro j;simp[ren]at j;subst j;exact .unk x
 |pre=>intro j;simp[ren]at j
 |agg cs vs h1 E h2 ih=>
  intro j;simp only[ren]at j;obtain⟨l,I,rfl⟩:=gA.1 j;obtain⟨K,N⟩:=uF I;refine .agg _ _ (by omega) E λi y v J A=>?_;grind [Jy]
 |tup cs vs h1 h2 ih=>
  intro j;simp only[ren]at j;obtain⟨l,I,rfl⟩:=gA.1 j;obtain⟨K,N⟩:=uF I;refine .tup _ _ (by omega) λi y v J A=>?_;grind [Jy]
 |ptr b off r o hm C=>
  intro j;simp only[ren]at j;obtain⟨k,z,rfl⟩:=gA.1 j;obtain⟨_,z⟩:=xE z;simp only[pX]at z;obtain⟨cs,C⟩:=C;obtain⟨x,D,B⟩:=qN h z;rcases B with⟨cs',l,h1,h2,rfl⟩|⟨w,esz,rows,h1,rfl⟩;exact .ptr k off r o (by grind [xD]) ⟨l,D⟩;simp_all
 |slr b i n v wm esz rows E C F A=>
  intro j;simp only[ren]at j;obtain⟨k,z,rfl⟩:=gA.1 j;obtain⟨_,z⟩:=xE z;simp only[pX]at z;obtain⟨x,D,B⟩:=qN h z;rcases B with⟨cs',l,h1,h2,rfl⟩|⟨w,G,rows',h1,rfl⟩;simp_all;rw[C]at h1;injection h1 with h1;injection h1 with a1 a2 a3;subst a1 a2 a3;refine .slr k i n v wm esz rows E D F λe=>?_;have a4:(hC s es blks).g.μ k=s.g.μ b:=xD z;rcases A e with⟨H,R,W,S⟩|⟨r,cap,c,V,fz,H,q⟩;exact .inl ⟨by simp_all,R,W,S⟩;exact .inr ⟨r,cap,c,V,fz,by simp_all,q⟩
 |ep b ext i off v wm esz rows E C F A=>
  intro j;simp only[ren]at j;obtain⟨k,z,rfl⟩:=gA.1 j;obtain⟨_,z⟩:=xE z;simp only[pX]at z;obtain⟨x,D,B⟩:=qN h z;obtain⟨G,rows',row,h1,h2,U,rfl⟩:=B;have M:=h1;rw[C]at h1;injection h1 with h1;injection h1 with a1 a2 a3;subst a1 a2 a3;have Y:=Jy U;obtain⟨r,H,A⟩:=A h2 (by omega);subst A;exact .ptr k off r (i*esz) (RR z M H) ⟨_,D⟩
 |fn f first caps fs cs h1 h2 _ _ Z a0=>
  intro j;simp only[ren]at j;obtain⟨l1,O,j⟩:=bJ.1 j;obtain⟨l2,L,rfl⟩:=gA.1 j;obtain⟨K,N⟩:=uF O;obtain⟨k3,k4⟩:=uF L;refine .fn f _ _ fs cs (by omega) (by omega) (λi y v J A=>?_) (λi y v J A=>?_)
  all_goals grind [Jy]
def idE(es:List Ent)(k:Nat):Nat:=((es[k]?).map Ent.id).getD 0
theorem wI{k:Nat}{e:Ent}(he:es[k]?=some e):idE es k=e.id:=by simp[idE,he]
include h in
theorem tD(k r o:Nat)(hw:Wr1 (hC s es blks) k r o):k<es.length/\Wr1 s (idE es k) r o:=by
 unfold Wr1 at hw;have q:(hC s es blks).σ=blks:=rfl;rw[q]at hw;cases hk:blks[k]? with
 |none=>simp_all
 |some x=>
  have j:k<es.length:=by rw[h.len];grind
  refine⟨j,?_⟩;have e:es[k]?=some es[k]:=JX j;have g:=h.blk k _ x e hk;rw[wI e];rw[hk]at hw;unfold Wr1;cases hcase:es[k]with
  |whole b=>
   rw[hcase]at g e;rcases g with⟨cs',l,h1,h2,rfl⟩|⟨w,n,rows',h1,rfl⟩
   all_goals grind [Ent.id,xD,uF]
  |elem b ext i=>
   rw[hcase]at g e;obtain⟨n,rows',row,h1,h2,v,rfl⟩:=g;grind [Ent.id,hC]
include h in
theorem JMj:Inv (hC s es blks):=by
 have hi:=h.inv;have hlen:(hC s es blks).σ.length=es.length:=h.len.symm;refine Fb hi rfl ?_ ?_ (idE es) ?_ (λk r o L=>(tD h k r o L).2) (λr o hc=>⟨(hi.const r o hc).1,λk L=>(hi.const r o hc).2 _ (tD h k r o L).2⟩);intro k cs z;have z:blks[k]?=some (.box cs):=z;have A:k<es.length:=by grind
 have y:es[k]?=some es[k]:=JX A;have q:=h.blk k _ _ y z;cases hcase:es[k]with
 |whole b=>
  rw[hcase]at q y;rcases q with⟨cs',l,h1,h2,g⟩|⟨w,n,rows',h1,g⟩;injection g with g;subst g;obtain⟨E,J⟩:=uF h2;obtain⟨r,o,c,e,fz,D,I,W,M,G⟩:=hi.box _ _ h1;refine⟨r,o,c,e,fz,by grind [xD],I,by omega,λi x U=>?_,by simp_all⟩;grind [Jy,D5];cases g
 |elem b ext i=>
  rw[hcase]at q y;obtain⟨n,rows',row,h1,h2,F,g⟩:=q;injection g with g;subst g;have H:=Jy F;rcases hi.arr _ _ _ _ h1 with⟨D,C⟩|⟨r,c,e,fz,D,I,K,Y,M,G⟩;simp_all;have V:=K row (kI F);have N:i*n+n<=rows'.length*n:=(by have:=zQ4 n (show i+1<=rows'.length from H);grind);refine⟨r,i*n,c,e,fz,RR y h1 D,I,by simp;omega,λj x B=>?_,λo h1 h2=>G.1 o (zQ2 _) (by grind)⟩;rw[fF]at B;cases hrj:row[j]? with
  |none=>simp_all
  |some O=>simp[hrj]at B;subst B;obtain⟨⟨v,T,C⟩,_⟩:=M i j row O F hrj;exact⟨v,T,.p _ _ C,C.one⟩
 intro k wm esz rows z;have z:blks[k]?=some (.arr wm esz rows):=z;have A:k<es.length:=by grind
 have y:es[k]?=some es[k]:=JX A;have q:=h.blk k _ _ y z;cases hcase:es[k]with
 |whole b=>
  rw[hcase]at q y;rcases q with⟨cs',l,h1,h2,g⟩|⟨w,n,rows',h1,g⟩;cases g;injection g with a1 a2 a3;subst a1 a2 a3;rcases hi.arr _ _ _ _ h1 with⟨D,C⟩|⟨r,c,e,fz,D,P⟩;exact .inl ⟨by grind [xD],C⟩;exact .inr ⟨r,c,e,fz,by grind [xD],P⟩
 |elem b ext i=>rw[hcase]at q y;obtain⟨n,rows',row,h1,h2,F,g⟩:=q;cases g
 ·intro E J h1 h2 S;rw[hlen]at h1 h2;have R:es[E]?=some es[E]:=JX h1;have Q:es[J]?=some es[J]:=JX h2;rw[wI R,wI Q]at S;refine RU h.nodup (x:=es[E].id) ?_ ?_
  all_goals simp_all
end
end Go.Am
end
section
namespace Go.Am
def oO(s1:Sn)(es:List Ent)(new:Nat)(σ2:List Blk)(k:Nat)(y:Blk):Prop:=
 match es[k]? with
 |some (.whole b)=>(∃cs l,y=.box cs/\bk.bkL es new cs=some l/\σ2[b]?=some (.box l))\/(∃w esz rows,y=.arr w esz rows/\σ2[b]?=some (.arr w esz rows))
 |some (.elem b _ i)=> ∃w esz rows e,s1.σ[b]?=some (.arr w esz rows)/\y=.box (e.map .p)/\σ2[b]?=some (.arr w esz (rows.set i e))
 |none=>(∃cs l,y=.box cs/\bk.bkL es new cs=some l/\σ2[new+(k-es.length)]?=some (.box l))\/(∃w esz rows,y=.arr w esz rows/\σ2[new+(k-es.length)]?=some (.arr w esz rows))
structure Ha(s1:Sn)(es:List Ent)(blks:List Blk)(new kf:Nat)(c':Sn)(σ2:List Blk):Prop where
 cin:YU s1 es blks
 inv:Inv c'
 trans:bC (hC s1 es blks) c'
 len:c'.σ.length=es.length+kf
 slen:σ2.length=s1.σ.length
 dead: ∀j,j<kf->s1.σ[new+j]?=some .dead
 out: ∀k y,c'.σ[k]?=some y->oO s1 es new σ2 k y
 same: ∀b,b∉es.map Ent.id->(b<new\/new+kf<=b)->σ2[b]?=s1.σ[b]?
def kOf(es:List Ent)(new kf b:Nat):Option Nat:=
 match cY (.whole b) es 0 with
 |some k=>some k
 |none=>if new<=b/\b<new+kf/\b∉es.map Ent.id then some (es.length+(b-new))else none
def eX(s1:Sn)(es:List Ent)(new kf:Nat)(c':Sn)(σ2:List Blk):Sn:=
 ⟨σ2,⟨λb=>match kOf es new kf b with
  |some k=>c'.g.μ k
  |none=>s1.g.μ b,c'.g.C⟩,c'.w⟩
theorem tg{e:Ent}: ∀{es:List Ent} {k:Nat},cY e es k=none->e∉es
 |[],k,_=>by simp
 |x::r,k,h=>by
  simp only[cY]at h;split at h;cases h;rename_i g;simp only[cL,not_or];exact⟨λe=>g e.symm,tg h⟩
section
variable {s1 c':Sn} {es:List Ent} {blks σ2:List Blk} {new kf:Nat} (h:Ha s1 es blks new kf c' σ2)
theorem PJ{k:Nat}{e:Ent}(he:es[k]?=some e):e.id∈es.map Ent.id:=oK.2 ⟨e,kI he,rfl⟩
include h in
theorem FE{e g:Nat}{e1 e2:Ent}(h1:es[e]?=some e1)(h2:es[g]?=some e2)(he:e1.id=e2.id):e=g:=
 RU h.cin.nodup (x:=e1.id) (by simp_all) (by simp_all)
include h in
theorem JJ1{k:Nat}{e:Ent}(he:es[k]?=some e): ∃y,s1.σ[e.id]?=some y/\y≠.dead:=by
 obtain⟨x,_,g⟩:=qN h.cin he;cases e with
 |whole b=>
  rcases g with⟨cs',l,h1,h2,rfl⟩|⟨w,j,rows',h1,rfl⟩;exact⟨_,h1,by simp⟩;exact⟨_,h1,by simp⟩
 |elem b ext i=>obtain⟨j,rows',row,h1,h2,n,rfl⟩:=g;exact⟨_,h1,by simp⟩
include h in
theorem JGf{j:Nat}(hj:j<kf):new+j∉es.map Ent.id:=by intro n;obtain⟨e,q,g⟩:=oK.1 n;obtain⟨k,o⟩:=fP q;obtain⟨y,r,hd⟩:=JJ1 h o;rw[g,h.dead j hj]at r;simp_all
include h in
theorem JEB{k b:Nat}(he:es[k]?=some (.whole b)):kOf es new kf b=some k:=by
 unfold kOf;cases hc:cY (.whole b) es 0 with
 |none=>exact absurd (kI he) (tg hc)
 |some k'=>
  obtain⟨_,e⟩:=xE hc;grind [FE]
include h in
theorem JHX{k b e i:Nat}(he:es[k]?=some (.elem b e i)):kOf es new kf b=none:=by
 unfold kOf;cases hc:cY (.whole b) es 0 with
 |some k'=>obtain⟨_,g⟩:=xE hc;simp only[pX]at g;have:=FE h g he rfl;simp_all
 |none=>have:b∈es.map Ent.id:=PJ he;simp[this]
include h in
theorem JEV{j:Nat}(hj:j<kf):kOf es new kf (new+j)=some (es.length+j):=by
 unfold kOf;have g:=JGf h hj;cases hc:cY (.whole (new+j)) es 0 with
 |some k'=>obtain⟨_,e⟩:=xE hc;simp only[pX]at e;exact absurd (PJ e) g
 |none=>simp_all
theorem RN{b:Nat}(h1:b∉es.map Ent.id)(h2:b<new\/new+kf<=b):kOf es new kf b=none:=by
 unfold kOf;cases hc:cY (.whole b) es 0 with
 |some k'=>obtain⟨_,e⟩:=xE hc;simp only[pX]at e;exact absurd (PJ e) h1
 |none=>
  grind
def tgt(es:List Ent)(new k:Nat):Nat:=match es[k]? with|some e=>e.id|none=>new+(k-es.length)
include h in
theorem nH{k:Nat}(hk:k<es.length+kf)(j: ∀b e i,es[k]?≠some (.elem b e i)):(eX s1 es new kf c' σ2).g.μ (tgt es new k)=c'.g.μ k:=by
 simp only[eX,tgt];cases he:es[k]? with
 |some e=>
  cases e with
  |whole b=>simp only[Ent.id];rw[JEB h he]
  |elem b e i=>simp_all
 |none=>
  grind [JEV]
include h in
theorem FW{k b ext i:Nat}(he:es[k]?=some (.elem b ext i)): ∃esz rows row r j,s1.σ[b]?=some (.arr true esz rows)/\ext=rows.length/\rows[i]?=some row/\s1.g.μ b=some (r,0)/\
  c'.σ[k]?=some (.box (j.map .p))/\j.length=row.length/\row.length=esz/\c'.g.μ k=some (r,i*esz)/\σ2[b]?=some (.arr true esz (rows.set i j))/\(eX s1 es new kf c' σ2).g.μ b=some (r,0):=by
 obtain⟨x,B,q⟩:=qN h.cin he;obtain⟨esz,rows,row,h1,h2,A,rfl⟩:=q;have D:=Jy A;rcases h.cin.inv.arr _ _ _ _ h1 with⟨C,L⟩|⟨r,c,e,fz,C,I,y,K,F,E⟩;simp_all;obtain⟨⟨cs',z,M⟩,J⟩:=h.trans.box k _ B;have o:=h.out k _ z;unfold oO at o;rw[he]at o;obtain⟨w,v,rows',j,n,G,H⟩:=o;rw[h1]at n;injection n with n;injection n with a1 a2 a3;subst a1 a2 a3;grind [RR,eX,JHX]
include h in
theorem Gn{x y:AV}{v:Value}(hr:JF c' x v):bk es new x=some y->JF (eX s1 es new kf c' σ2) y v:=by
 have G: ∀{k:Nat} {z:Blk},c'.σ[k]?=some z->k<es.length+kf:=λhz=>by rw[<-h.len];grind
 induction hr generalizing y with
 |p c v hp=>intro j;simp[bk]at j;subst j;exact .p _ _ hp
 |data cs vs h1 h2=>intro j;simp[bk]at j;subst j;exact .data _ _ h1 h2
 |cp cs off r o vals p1 W=>intro j;simp[bk]at j;subst j;exact .cp cs off r o vals p1 W
 |unk x=>intro j;simp[bk]at j;subst j;exact .unk x
 |pre=>intro j;simp[bk]at j
 |agg cs vs h1 K h2 ih=>
  intro j;simp only[bk]at j;split at j;rename_i l R;injection j with j;subst j;obtain⟨U,T⟩:=uB R;refine .agg _ _ (by omega) K λi y v Q H=>?_;grind [Jy];cases j
 |tup cs vs h1 h2 ih=>
  intro j;simp only[bk]at j;split at j;rename_i l R;injection j with j;subst j;obtain⟨U,T⟩:=uB R;refine .tup _ _ (by omega) λi y v Q H=>?_;grind [Jy];cases j
 |ptr k off r o hm B=>
  intro j;obtain⟨cs,B⟩:=B;have F:=G B;have D:=h.out k _ B;unfold oO at D;simp only[bk]at j;split at j;rename_i I;have a9:es[k]?=some es[k]:=JX I;split at j;rename_i b A;injection j with j;subst j;have C:=nH h F (by rw[A];simp);simp only[tgt,A,Ent.id]at C;rw[A]at D;rcases D with⟨cs',l,E,M,S⟩|⟨w,esz,rows,E,M⟩;exact .ptr b off r o (by simp_all) ⟨l,S⟩;cases E;rename_i b e i A;injection j with j;subst j;obtain⟨esz,rows,row,r',O,f1,Y,f3,f4,f5,f6,f7,L,Z,V⟩:=FW h A;rw[hm]at L;injection L with L;injection L with g1 g2;subst g1 g2;exact .ep b e i off _ true esz (rows.set i O) ⟨_,_,rfl⟩ Z (by simp[Y]) λ_ _=>⟨r,V,rfl⟩;cases j;rename_i N;injection j with j;subst j;have A:es[k]?=none:=oI (by omega);have C:=nH h F (by rw[A];simp);simp only[tgt,A]at C;rw[A]at D;rcases D with⟨cs',l,E,M,S⟩|⟨w,esz,rows,E,M⟩;exact .ptr _ off r o (by simp_all) ⟨l,S⟩;cases E
 |slr k i n v wm esz rows K B J H=>
  intro j;have F:=G B;have D:=h.out k _ B;unfold oO at D;have go: ∀b,(eX s1 es new kf c' σ2).g.μ b=c'.g.μ k->σ2[b]?=some (.arr wm esz rows)->JF (eX s1 es new kf c' σ2) (.slr b i n) v:=(by intro b C P;refine .slr b i n v wm esz rows K P J λe=>?_;rcases H e with⟨m',q1,q2,q3⟩|⟨r,cap,c,E,fz,m',q⟩;exact .inl ⟨by simp_all,q1,q2,q3⟩;exact .inr ⟨r,cap,c,E,fz,by simp_all,q⟩);simp only[bk]at j;split at j;rename_i I;split at j;rename_i b A;injection j with j;subst j;have C:=nH h F (by rw[A];simp);grind [tgt,Ent.id];cases j;rename_i N;injection j with j;subst j;have A:es[k]?=none:=oI (by omega);have C:=nH h F (by rw[A];simp);grind [tgt]
 |ep k ext i off v wm esz rows K B J H=>
  intro j;have F:=G B;have D:=h.out k _ B;unfold oO at D;have go: ∀b,(eX s1 es new kf c' σ2).g.μ b=c'.g.μ k->σ2[b]?=some (.arr wm esz rows)->JF (eX s1 es new kf c' σ2) (.ep b ext i off) v:=by intro b C P;refine .ep b ext i off v wm esz rows K P J λE M=>?_;simp_all
  simp only[bk]at j;split at j;rename_i I;split at j;rename_i b A;injection j with j;subst j;have C:=nH h F (by rw[A];simp);grind [tgt,Ent.id];cases j;rename_i N;injection j with j;subst j;have A:es[k]?=none:=oI (by omega);have C:=nH h F (by rw[A];simp);grind [tgt]
 |fn f first caps fs cs h1 h2 _ _ aa a8=>
  intro j;simp only[bk]at j;split at j
  ·rename_i a c ha hc;injection j with j;subst j;obtain⟨U,T⟩:=uB ha;obtain⟨k3,k4⟩:=uB hc;refine .fn f a c fs cs (by omega) (by omega) (λi y v Q H=>?_) (λi y v Q H=>?_)
   all_goals grind [Jy]
  cases j
inductive VP(es:List Ent)(new kf b:Nat):Prop where|out (k:Nat):k<es.length+kf->tgt es new k=b->(∀b e i,es[k]?≠some (.elem b e i))->VP es new kf b|elem (k e i:Nat):es[k]?=some (.elem b e i)->VP es new kf b|other:b∉es.map Ent.id->(b<new\/new+kf<=b)->VP es new kf b
theorem tT(b:Nat):VP es new kf b:=by
 by_cases n:b∈es.map Ent.id;obtain⟨e,j,g⟩:=oK.1 n;obtain⟨k,h⟩:=fP j;have r:=Jy h;cases e with
 |whole q=>simp only[Ent.id]at g;subst g;exact .out k (by omega) (by grind [tgt,Ent.id]) (by rw[h];simp)
 |elem q e' o=>simp only[Ent.id]at g;subst g;exact .elem k e' o h
 by_cases v:new<=b/\b<new+kf;have j:es[es.length+(b-new)]?=none:=oI (by omega);refine .out (es.length+(b-new)) (by omega) ?_ (by rw[j];simp);grind [tgt];exact .other n (by omega)
include h in
theorem LJ{k:Nat}(hk:k<es.length+kf)(j: ∀b e i,es[k]?≠some (.elem b e i))(r o:Nat):
  Wr1 (eX s1 es new kf c' σ2) (tgt es new k) r o↔Wr1 c' k r o:=by
 have q:=nH h hk j;have g:k<c'.σ.length:=by rw[h.len];exact hk
 have n:c'.σ[k]?=some c'.σ[k]:=JX g;have w:=h.out k _ n;unfold oO at w;unfold Wr1;rw[n,q];have v:(eX s1 es new kf c' σ2).σ=σ2:=rfl;rw[v];cases he:es[k]? with
 |some e=>
  grind [tgt,Ent.id,uB]
 |none=>
  grind [tgt,uB]
include h in
theorem MC{k b e i:Nat}(he:es[k]?=some (.elem b e i))(r o:Nat):Wr1 (eX s1 es new kf c' σ2) b r o↔Wr1 s1 b r o:=by
 obtain⟨esz,rows,row,r',g,v,x,z,y,w,B,q,n,A,j⟩:=FW h he;grind [Wr1,eX]
include h in
theorem d6{b:Nat}(h1:b∉es.map Ent.id)(h2:b<new\/new+kf<=b)(r o:Nat):Wr1 (eX s1 es new kf c' σ2) b r o↔Wr1 s1 b r o:=by
 unfold Wr1;have j:(eX s1 es new kf c' σ2).σ=σ2:=rfl;have e:(eX s1 es new kf c' σ2).g.μ b=s1.g.μ b:=by grind [eX,RN]
 rw[j,h.same b h1 h2,e]
include h in
theorem rf{r o:Nat}(hw:Wr c' r o):(∃k e,es[k]?=some e/\Wr1 (hC s1 es blks) k r o/\Wr1 s1 e.id r o)\/s1.w.heap.size<=r:=by
 rcases h.trans.wnew r o hw with⟨k,j⟩|n;obtain⟨g,q⟩:=tD h.cin k r o j;have v:es[k]?=some es[k]:=JX g;grind [wI];exact .inr n
include h in
theorem r8:bC s1 (eX s1 es new kf c' σ2):=by
 refine⟨?_,λr o hc=>h.trans.cmono r o hc,λr o hc=>?_,λr o ⟨b,G⟩=>?_,Nat.le_of_eq h.slen.symm,λb cs y=>?_,λb wm esz rows y=>?_⟩;refine h.trans.keep.mono λr o ⟨k,j⟩=>?_;exact⟨_,(tD h.cin k r o j).2⟩;rcases h.trans.cnew r o hc with hc|⟨k,j⟩|N;exact .inl hc;exact .inr (.inl ⟨_,(tD h.cin k r o j).2⟩);exact .inr (.inr N);cases tT (es:=es) (new:=new) (kf:=kf) b with
 |out k j ht q=>
  subst ht;rcases rf h ⟨k,(LJ h j q r o).1 G⟩with⟨k',e,_,_,J⟩|N;exact .inl ⟨_,J⟩;simp_all
 |elem k e i g=>exact .inl ⟨b,(MC h g r o).1 G⟩
 |other h1 h2=>exact .inl ⟨b,(d6 h h1 h2 r o).1 G⟩
 ·cases tT (es:=es) (new:=new) (kf:=kf) b with
  |out k j ht q=>
   cases g:es[k]? with
   |none=>
    exfalso;simp only[tgt,g]at ht;have I:es.length<=k:=by simp_all
    have:=h.dead (k-es.length) (by omega);simp_all
   |some e=>
    cases e with
    |elem b e i=>simp_all
    |whole S=>
     simp only[tgt,g,Ent.id]at ht;subst ht;obtain⟨x,H,A⟩:=qN h.cin g;rcases A with⟨cs',l,h1,h2,rfl⟩|⟨w,z,rows',h1,rfl⟩
     ·rw[y]at h1;injection h1 with h1;injection h1 with h1;subst h1
      obtain⟨⟨W,F,P⟩,M⟩:=h.trans.box k _ H;have v:=h.out k _ F;unfold oO at v;rw[g]at v;have E:=nH h j q;simp only[tgt,g,Ent.id]at E;rcases v with⟨L,l',n,D,O⟩|⟨w,esz,rows,n,D⟩
      ·injection n with n;subst n;refine⟨⟨l',O,?_⟩,?_⟩
       all_goals grind [uB,uF,xD]
      cases n
     simp_all
  |elem k e i g=>
   grind [FW]
  |other h1 h2=>
   refine⟨⟨cs,by rw[<-y];exact h.same b h1 h2,rfl⟩,?_⟩;grind [eX,RN]
 cases tT (es:=es) (new:=new) (kf:=kf) b with
 |out k j ht q=>
  cases g:es[k]? with
  |none=>
   exfalso;simp only[tgt,g]at ht;have I:es.length<=k:=by simp_all
   have:=h.dead (k-es.length) (by omega);simp_all
  |some e=>
   cases e with
   |elem b e i=>simp_all
   |whole S=>
    simp only[tgt,g,Ent.id]at ht;subst ht;obtain⟨x,H,A⟩:=qN h.cin g;rcases A with⟨cs',l,h1,h2,rfl⟩|⟨w,z,rows',h1,rfl⟩;simp_all;rw[y]at h1;injection h1 with h1;injection h1 with a1 a2 a3;subst a1 a2 a3;obtain⟨wm',C,F,P,M,q4⟩:=h.trans.arr k _ _ _ H;have v:=h.out k _ F;unfold oO at v;rw[g]at v;have E:=nH h j q;simp only[tgt,g,Ent.id]at E;rcases v with⟨L,l',n,D,O⟩|⟨w,R,Q,n,D⟩;cases n;injection n with a1 a2 a3;subst a1 a2 a3;exact⟨wm',C,D,P,M,λe=>by grind [xD]⟩
 |elem k e i g=>
  obtain⟨z,rows',row,r',U,B,f2,f3,T,f5,f6,Z,Y,V,K⟩:=FW h g;rw[y]at B;injection B with B;injection B with a1 a2 a3;subst a1 a2 a3;exact⟨true,_,V,λ_=>rfl,by simp,λ_=>by rw[K,T]⟩
 |other h1 h2=>
  refine⟨wm,rows,by rw[<-y];exact h.same b h1 h2,id,zQ0 _,λ_=>?_⟩;grind [eX,RN]
include h in
theorem JJ5:Inv (eX s1 es new kf c' σ2):=by
 have hi:=h.cin.inv;have t:=r8 h;have N: ∀{b},¬(b∈es.map Ent.id\/(new<=b/\b<new+kf))->b∉es.map Ent.id/\(b<new\/new+kf<=b):=λG=>⟨λA=>G (.inl A),by omega⟩;have z: ∀{k b e i r o},es[k]?=some (.elem b e i)->(Wr1 (hC s1 es blks) k r o↔Wr1 c' k r o):=(by intro k b e i r o n;obtain⟨x,hx,a8⟩:=qN h.cin n;obtain⟨esz,rows,row,h1,h2,h3,rfl⟩:=a8;obtain⟨⟨cs',q1,q2⟩,q3⟩:=h.trans.box k _ hx;grind [hC,Wr1]);have O: ∀{k b r o},k<es.length+kf->Wr1 c' k r o->Wr1 s1 b r o->(∃k',es[k']?=some (.whole b)\/ ∃e i,es[k']?=some (.elem b e i)/\k'=k):=by
  intro k b r o M I L;rcases rf h ⟨k,I⟩with⟨k',e,n,an,q⟩|G;have D:=hi.apart _ _ _ _ q L;cases e with
  |whole b'=>grind [Ent.id]
  |elem b' e' i'=>
   simp only[Ent.id]at D;subst D;have:=h.inv.apart _ _ _ _ ((z n).1 an) I;grind
  have:=vX hi b r o L;omega
 refine nJ hi t (λb=>b∈es.map Ent.id\/(new<=b/\b<new+kf)) ?_ ?_ ?_ ?_ ?_ ?_ ?_ ?_;intro b G;obtain⟨h1,h2⟩:=N G;exact⟨h.same b h1 h2,by grind [eX,RN]⟩;intro b r o v G I hv;refine h.trans.keep.cell ?_ hv;rintro⟨k,M⟩;obtain⟨C,q⟩:=tD h.cin k r o M;have n:es[k]?=some es[k]:=JX C;rw[wI n]at q;have:=hi.apart _ _ _ _ q I;simp_all;intro b cs hd L;have L:σ2[b]?=some (.box cs):=L;cases tT (es:=es) (new:=new) (kf:=kf) b with
 |other h1 h2=>grind
 |elem k e i n=>
  grind [FW]
 |out k M ht V=>
  subst ht;have C:k<c'.σ.length:=by rw[h.len];exact M
  have hg:c'.σ[k]?=some c'.σ[k]:=JX C;have ho:=h.out k _ hg;unfold oO at ho;have a7: ∃Y,c'.σ[k]?=some (.box Y)/\bk.bkL es new Y=some cs:=by
   cases n:es[k]? with
   |some e=>
    grind [tgt,Ent.id]
   |none=>
    grind [tgt]
  obtain⟨Y,h0,hl⟩:=a7;obtain⟨k1,k2⟩:=uB hl;obtain⟨r,o,c,e,fz,A,hh,c7,hx,bb⟩:=h.inv.box _ _ h0;refine⟨r,o,c,e,fz,by grind [nH],hh,by omega,λi x c5=>?_,by simp_all⟩;grind [Jy,Gn]
 intro b wm esz rows hd L;have L:σ2[b]?=some (.arr wm esz rows):=L;cases tT (es:=es) (new:=new) (kf:=kf) b with
 |other h1 h2=>grind
 |elem k e i n=>
  obtain⟨bh,rows',row,r',bn,f1,f2,f3,f4,f5,f6,f7,f8,f9,bd⟩:=FW h n;rw[L]at f9;injection f9 with f9;injection f9 with a1 a2 a3;subst a1 a2 a3;have C:=Jy f3;rcases hi.arr _ _ _ _ f1 with⟨A,U⟩|⟨r,c,e1,fz,A,hh,al,hl,hx,bb⟩;simp_all;rw[f4]at A;injection A with A;injection A with A _;subst A;obtain⟨c2,q1,q2,q3⟩:=t.keep.2.1 _ _ _ _ hh;obtain⟨rr,oo,c3,e3,c6,m3,S,bi,b3,bm⟩:=h.inv.box _ _ f5;rw[f8]at m3;injection m3 with m3;injection m3 with y H;subst y H;have b4:c'.w.heap[r']?=some (.cells c2 e1 fz):=q1;rw[b4]at S;injection S with S;injection S with y H w3;subst y H w3;refine .inr ⟨r',c2,e1,fz,bd,q1,λc9 c8=>?_,by simp;omega,λP j ag x0 K Z=>⟨?_,λh=>by cases h⟩,by simp_all⟩;grind;have bw:=Jy Z;by_cases af:P=i;subst af;rw[DR C]at K;injection K with K;subst K;obtain⟨v,hv,U,_⟩:=b3 j (.p x0) (by simp[Z]);refine⟨v,hv,?_⟩;cases U with|p _ _ U=>exact U
  rw[HB (Ne.symm af)]at K;obtain⟨⟨v',ca,ax⟩,_⟩:=hx P j ag x0 K Z;refine⟨v',?_,ax.mono hi t⟩;have aa:cellAt s1.w r' (P*esz+j)=some v':=by grind [jK]
  have b5:j<esz:=by grind
  have az: ¬Wr (hC s1 es blks) r' (P*esz+j):=by
   rintro⟨k',g⟩;obtain⟨E,q⟩:=tD h.cin k' _ _ g;have B:es[k']?=some es[k']:=JX E;rw[wI B]at q;have be:Wr1 s1 b r' (P*esz+j):=by grind [Wr1]
   have D:=hi.apart _ _ _ _ q be;have J:k'=k:=FE h B n D;subst J;obtain⟨x,b8,a8⟩:=qN h.cin n;obtain⟨bs,bg,W,F,T,g3,rfl⟩:=a8;rw[f1]at F;injection F with F;injection F with z1 z2 z3;subst z2 z3;have aj:(hC s1 es blks).σ[k']?=some (.box (W.map .p)):=b8;unfold Wr1 at g;rw[aj,RR n f1 f4]at g;obtain⟨o0,m0,hlo,b6⟩:=g;injection m0 with m0;injection m0 with _ m0;subst m0;have bo:=al W (kI g3);simp at b6;rcases zQ3 P i with am|bt;have:=mB am b5;omega;have:=zQ4 esz (show i+1<=P by omega);grind
  have:=h.trans.keep.cell az aa;grind [jK]
 |out k M ht V=>
  subst ht;have C:k<c'.σ.length:=by rw[h.len];exact M
  have hg:c'.σ[k]?=some c'.σ[k]:=JX C;have ho:=h.out k _ hg;unfold oO at ho;have a7:c'.σ[k]?=some (.arr wm esz rows):=by
   cases n:es[k]? with
   |some e=>
    grind [tgt,Ent.id]
   |none=>
    grind [tgt]
  rcases h.inv.arr _ _ _ _ a7 with⟨A,U⟩|⟨r,c,e,fz,A,hq⟩;exact .inl ⟨by grind [nH],U⟩;exact .inr ⟨r,c,e,fz,by grind [nH],hq⟩
 
 intro b1 b2 r o hd h1 h2;cases tT (es:=es) (new:=new) (kf:=kf) b1 with
 |other F T=>grind
 |out k1 a6 b9 ao=>
  subst b9;have y:=(LJ h a6 ao r o).1 h1;cases tT (es:=es) (new:=new) (kf:=kf) b2 with
  |out k2 R a5 Q=>subst a5;have H:=(LJ h R Q r o).1 h2;rw[h.inv.apart _ _ _ _ y H]
  |elem k2 e i n=>
   exfalso;have H:=(MC h n r o).1 h2;obtain⟨k',g|⟨e',i',g,J⟩⟩:=O a6 y H;have:=FE h g n rfl;simp_all;simp_all
  |other F T=>
   exfalso;have H:=(d6 h F T r o).1 h2;obtain⟨k',g|⟨e',i',g,J⟩⟩:=O a6 y H;exact F (PJ g);simp_all
 |elem k1 e1 i1 ae=>
  have y:=(MC h ae r o).1 h1;cases tT (es:=es) (new:=new) (kf:=kf) b2 with
  |out k2 R a5 Q=>
   subst a5;exfalso;have H:=(LJ h R Q r o).1 h2;obtain⟨k',g|⟨e',i',g,J⟩⟩:=O R H y;have:=FE h g ae rfl;simp_all;simp_all
  |elem k2 e i n=>exact hi.apart _ _ _ _ y ((MC h n r o).1 h2)
  |other F T=>exact hi.apart _ _ _ _ y ((d6 h F T r o).1 h2)
 exact λr o hc=>(h.inv.const r o hc).1;intro r o b hc hd I;cases tT (es:=es) (new:=new) (kf:=kf) b with
 |other F T=>grind
 |out k M ht V=>subst ht;exact(h.inv.const r o hc).2 _ ((LJ h M V r o).1 I)
 |elem k e i n=>
  have y:=(MC h n r o).1 I;rcases h.trans.cnew r o hc with a4|⟨k',g⟩|G;exact(hi.const r o a4).2 _ y;obtain⟨E,q⟩:=tD h.cin k' _ _ g;have B:es[k']?=some es[k']:=JX E;rw[wI B]at q;have D:=hi.apart _ _ _ _ q y;have J:k'=k:=FE h B n D;subst J;exact(h.inv.const r o hc).2 _ ((z n).1 g);have G:s1.w.heap.size<=r:=G;have:=vX hi _ _ _ y;omega
 intro r o b hc b7 hd I;rcases h.trans.cnew r o hc with a4|⟨k',g⟩|G;exact b7 a4;obtain⟨E,q⟩:=tD h.cin k' _ _ g;have B:es[k']?=some es[k']:=JX E;rw[wI B]at q;have D:=hi.apart _ _ _ _ q I;simp_all;have G:s1.w.heap.size<=r:=G;have:=vX hi _ _ _ I;omega
end
end Go.Am
end
section
namespace Go.Am
section
variable {P:Program} {F:Orc} {s:Sn} {a:Act} {env:List (Nat×AV)} {o:Oper} {new:Nat} {e:Eff}
theorem po{r:List Blk}(hi:Inv s)(B:Frz r s.σ){x:AV}{y:AV×List (Nat×Blk)}{v:Value}(h:(iX x).run ⟨env,r⟩=some y)(hr:JF s x v):
  ∃g',Inv ⟨upd y.2 s.σ,g',s.w⟩/\bC s ⟨upd y.2 s.σ,g',s.w⟩/\Frz s.σ (upd y.2 s.σ)/\JF ⟨upd y.2 s.σ,g',s.w⟩ y.1 v:=by
 have same: ∀{z:AV},(RM.ret (z,[]):RM (AV×List (Nat×Blk))).run ⟨env,r⟩=some y->JF s z v-> ∃g',Inv ⟨upd y.2 s.σ,g',s.w⟩/\bC s ⟨upd y.2 s.σ,g',s.w⟩/\Frz s.σ (upd y.2 s.σ)/\JF ⟨upd y.2 s.σ,g',s.w⟩ y.1 v:=(by intro z j hr;simp only[RM.run]at j;injection j with j;subst j;exact⟨s.g,hi,.refl s,.refl _,hr⟩);cases x with
 |slr b i n=>
  simp only[iX]at h;obtain⟨C,h1,h⟩:=bind_some h;obtain⟨g',o,A,q,c,hc,E⟩:=MO hi B h1 hr;rw[hc]at h;simp only[RM.run]at h;injection h with h;subst h;exact⟨g',o,A,q,.p _ _ E⟩
 |agg cs=>
  simp only[iX]at h;obtain⟨C,h1,h⟩:=bind_some h;simp only[RM.run]at h;injection h with h;subst h;obtain⟨g',o,A,q,F,D⟩:=YN hi B h1 hr;cases hr with
  |agg _ vs h1 I h2=>exact⟨g',o,A,q,.data _ _ F λi x v G H=>D i x v G H⟩
 |tup=>grind [iX,RM.run]
 |p c=>exact same h hr
 |data cs=>exact same h hr
 |ptr b off=>exact same h hr
 |cp cs off=>exact same h hr
 |ep b e i off=>exact same h hr
 |fn f first caps=>exact same h hr
 |unk=>exact same h hr
 |pre b n k=>exact same h hr
theorem rk{q:List Blk}: ∀{xs:List AV} {s:Sn} {y:List AV×List (Nat×Blk)} {vs:List Value},Inv s->Frz q s.σ->(jY xs).run ⟨env,q⟩=some y->xs.length=vs.length->
  (∀(i:Nat) x v,xs[i]?=some x->vs[i]?=some v->JF s x v)->
  ∃g',Inv ⟨upd y.2 s.σ,g',s.w⟩/\bC s ⟨upd y.2 s.σ,g',s.w⟩/\Frz s.σ (upd y.2 s.σ)/\y.1.length=vs.length/\
   ∀(i:Nat) x v,y.1[i]?=some x->vs[i]?=some v->JF ⟨upd y.2 s.σ,g',s.w⟩ x v
 |[],s,y,vs,hi,j,h,e,k=>by
  simp only[jY,RM.run]at h;injection h with h;subst h;exact⟨s.g,hi,.refl s,.refl _,by simpa using e,λi c v hc=>by simp at hc⟩
 |x::xs,s,y,[],hi,j,h,e,k=>by simp at e
 |x::xs,s,y,v::vs,hi,j,h,e,k=>by
  simp only[jY]at h;obtain⟨z,h1,h⟩:=bind_some h;obtain⟨K,h2,h⟩:=bind_some h;simp only[RM.run]at h;injection h with h;subst h;obtain⟨C,i1,o,n,I⟩:=po hi j h1 (k 0 x v rfl rfl);obtain⟨B,i2,r,A,F,J⟩:=rk (s:=⟨upd z.2 s.σ,C,s.w⟩) i1 (j.trans n) h2 (by simpa using e) λi x v D E=>(k (i+1) x v (by simpa using D) (by simpa using E)).mono hi o;refine⟨B,by grind [eM],by rw[eM];exact o.trans r,by rw[eM];exact n.trans A,by simp[F],λi c' H hc' G=>?_⟩;grind [JF.mono,upd]
def Ec(s1:Sn)(es:List Ent)(new:Nat)(e:Ent)(x:Blk)(y:Nat×Blk):Prop:=
 y.1=e.id/\match e with
 | .whole _=>(∃cs l,x=.box cs/\bk.bkL es new cs=some l/\y.2=.box l)\/(∃w esz rows,x=.arr w esz rows/\y.2=.arr w esz rows)
 | .elem b _ i=> ∃w esz rows g,s1.σ[b]?=some (.arr w esz rows)/\x=.box (g.map .p)/\y.2=.arr w esz (rows.set i g)
theorem JCI{g:List Blk}{ws:List (Nat×Blk)}(k:s.σ=upd ws g){es:List Ent}{en:Ent}{x:Blk}{y:Nat×Blk}(h:(tQ ws es new en x).run ⟨env,g⟩=some y):Ec s es new en x y:=by
 unfold tQ at h;split at h;rename_i b cs;split at h;rename_i l o;simp only[RM.run]at h;injection h with h;subst h;exact⟨rfl,.inl ⟨cs,l,rfl,o,rfl⟩⟩;cases h;simp only[RM.run]at h;injection h with h;subst h;exact⟨rfl,.inr ⟨_,_,_,rfl,rfl⟩⟩;rename_i b ext i cs;obtain⟨z,h1,h⟩:=bind_some h;have j:=d9 h1;rw[<-k]at j;cases z with
 |arr w esz rows=>
  dsimp only at h;split at h;rename_i e n;simp only[RM.run]at h;injection h with h;subst h;exact⟨rfl,w,esz,rows,e,j,by grind [RB],rfl⟩;cases h
 |_=>cases h
 cases h
theorem ui{j:List Blk}{ws:List (Nat×Blk)}(n:s.σ=upd ws j){es:List Ent}: ∀{e:List Ent} {xs:List Blk} {g:List (Nat×Blk)},(iH ws es new e xs).run ⟨env,j⟩=some g->
  e.length=g.length/\e.length<=xs.length/\ ∀(k:Nat) en x y,e[k]?=some en->xs[k]?=some x->g[k]?=some y->Ec s es new en x y
 |[],xs,g,h=>by grind [iH,RM.run]
 |_::_,[],g,h=>by cases h
 |en::e,x::xs,g,h=>by
  simp only[iH]at h;obtain⟨y,h1,h⟩:=bind_some h;obtain⟨l,h2,h⟩:=bind_some h;simp only[RM.run]at h;injection h with h;subst h;obtain⟨o,q,r⟩:=ui n h2;grind [JCI]
theorem gi{es:List Ent}: ∀{xs:List Blk} {g:Nat} {e:List (Nat×Blk)},gW es new g xs=some e->
  xs.length=e.length/\ ∀(j:Nat) x y,xs[j]?=some x->e[j]?=some y->y.1=g+j/\((∃cs l,x=.box cs/\bk.bkL es new cs=some l/\y.2=.box l)\/(∃w esz rows,x=.arr w esz rows/\y.2=.arr w esz rows))
 |[],g,e,h=>by grind [gW]
 | .dead::_,g,e,h=>by grind [gW]
 | .box cs::xs,g,e,h=>by
  simp only[gW]at h;split at h;rename_i c l hc k;injection h with h;subst h;obtain⟨n,o⟩:=gi k;grind;cases h
 | .arr w esz rows::xs,g,e,h=>by
  simp only[gW]at h;split at h;rename_i l k;injection h with h;subst h;obtain⟨n,o⟩:=gi k;grind;cases h
theorem q9(b:Nat)(p q:List (Nat×Blk)):iY b (p++q)=match iY b q with
  |some y=>some y
  |none=>iY b p:=by
 induction p with
 |nil=>grind [iY]
 |cons x p ih=>
  grind [iY]
theorem ef{b:Nat}{x:Blk}: ∀{ws:List (Nat×Blk)},(ws.map (·.1)).Nodup-> ∀{k:Nat},ws[k]?=some (b,x)->iY b ws=some x
 |[],_,k,h=>by simp at h
 |(c,z)::r,hn,k,h=>by
  obtain⟨h1,h2⟩:=List.nodup_cons.1 hn;simp only[iY];cases k with
  |zero=>
   grind [xF]
  |succ k=>rw[ef h2 (k:=k) (by simpa using h)]
theorem Li(n k:Nat):((List.range k).map (n+ ·)).Nodup:=by
 grind [List.nodup_range]
theorem re(hF:jF P F){f:FuncId}{ar:List AV×List (Nat×Blk)}{q:Nat}{vals:Array Value}(H: ∀j,j<q->s.σ[new+j]?=some .dead)
  {g1:Gh} (i1:Inv ⟨upd ar.2 s.σ,g1,s.w⟩) (t1:bC s ⟨upd ar.2 s.σ,g1,s.w⟩) (f1:Frz s.σ (upd ar.2 s.σ)) (l1:ar.1.length=vals.toList.length)
  (r1: ∀(i:Nat) x v,ar.1[i]?=some x->vals.toList[i]?=some v->JF ⟨upd ar.2 s.σ,g1,s.w⟩ x v)
  (h:(fJ F f ar q new).run ⟨env,s.σ⟩=some e)
  (ai: ∀fn,P.funcs[f]?=some fn→fn.body.isSome=true→(fn.name== "runtime.NumGoroutine")=false→(execOp a.eval o).run P s.w=.ok (.enter f vals) s.w):bP P o a s e:=by
 unfold fJ at h;obtain⟨b7,h2,h⟩:=bind_some h;obtain⟨es,h3,h⟩:=bind_some h;split at h;rename_i ah;split at h;cases h;rename_i N a7;obtain⟨blks,h4,h⟩:=bind_some h;split at h;cases h;rename_i r a9;split at h;rename_i V;obtain⟨k,hlen,hk⟩: ∃k,r.2.length=es.length+k/\k<=q:=⟨r.2.length-es.length,by omega,by omega⟩;have M: ∀j,j<k->s.σ[new+j]?=some .dead:=λj hj=>H j (by omega);clear V;split at h;rename_i v fresh hv K;obtain⟨n,h5,h⟩:=bind_some h;simp only[RM.run]at h;injection h with h;subst h
 let s1:Sn:=⟨upd ar.2 s.σ,g1,s.w⟩
 obtain⟨bl,a6⟩:=s9 (s:=s1) rfl h4;have cin:YU s1 es blks:=⟨i1,SF ah,bl,a6⟩;obtain⟨⟨fn,af,O,S⟩,R⟩:=hF f N blks r a9;obtain⟨q1,q2⟩:=uF a7;have ci:=JMj cin;have hc:=R (hC s1 es blks).g s.w vals ci (by grind) (λi x v hx hv=>by have A:=Jy hx;have Y:ar.1[i]?=some (ar.1[i]'(by omega)):=JX _;exact D5 cin (r1 i _ v Y (by simpa using hv)) (q2 i _ x Y hx));intro next Q T;simp only[Oper.wp,ai fn af O S,Oper.upon];refine hc.mono ?_;rintro e w' ⟨rv,g',rfl,a8,I,a3⟩;simp only;obtain⟨b1,b2,b3⟩:=ui (s:=s1) rfl h5;obtain⟨n1,n2⟩:=gi K;have B: ∀j,j<k->s1.σ[new+j]?=some .dead:=λj hj=>f1.2 _ _ (M j hj) (by simp);have ba:(r.2.drop es.length).length=k:=by simp;omega
 have ad:n.map (·.1)=es.map Ent.id:=(by apply zQ6;intro i;rw[fF,fF];by_cases A:i<es.length;have E:es[i]?=some es[i]:=JX A;have L:n[i]?=some (n[i]'(by omega)):=JX _;have G:r.2[i]?=some (r.2[i]'(by omega)):=JX _;have:=(b3 i _ _ _ E G L).1;grind;grind);have ac: ∀j,j<k->fresh[j]?=some (new+j,(fresh[j]?.map (·.2)).getD .dead):=(by grind);have am:(fresh.map (·.1)).Nodup:=(by have:fresh.map (·.1)=(List.range k).map (new+ ·):=(by apply zQ6;grind);grind [Li]);have al: ∀b,b∈fresh.map (·.1)↔new<=b/\b<new+k:=(by intro b;constructor;grind [List.getElem?_of_mem];intro hm;have:=ac (b-new) (by omega);grind);have W:(upd (n++fresh) s1.σ).length=s1.σ.length:=zU _ _;have U: ∀{q:Nat} {en:Ent},es[q]?=some en->en.id<s1.σ.length/\ ¬(new<=en.id/\en.id<new+k):=by
  intro q en C;obtain⟨x,_,Z⟩:=qN cin C;have z: ∃y,s1.σ[en.id]?=some y/\y≠.dead:=by
   cases en with
   |whole b=>
    rcases Z with⟨cs',l,h1,h2,rfl⟩|⟨w,a2,rows',h1,rfl⟩;exact⟨_,h1,by simp⟩;exact⟨_,h1,by simp⟩
   |elem b ext i=>obtain⟨a2,rows',row,h1,h2,h3,rfl⟩:=Z;exact⟨_,h1,by simp⟩
  obtain⟨y,z,hd⟩:=z;refine⟨Jy z,λhm=>?_⟩;have:=B (en.id-new) (by omega);rw[show new+(en.id-new)=en.id by omega,z]at this;grind
 have ab: ∀{q:Nat} {en:Ent} {y:Nat×Blk},es[q]?=some en->n[q]?=some y->(upd (n++fresh) s1.σ)[en.id]?=some y.2:=by intro q en y C z;obtain⟨A,b8⟩:=U C;have G:r.2[q]?=some (r.2[q]'(by grind)):=JX _;have ag:=(b3 q en _ y C G z).1;rw[wW _ _ _ A,q9,xF (by grind)];simp only;rw[ef (x:=y.2) (by rw[ad];exact cin.nodup) (k:=q) (by grind)]
 have av: ∀{j:Nat} {y:Nat×Blk},j<k->fresh[j]?=some y->(upd (n++fresh) s1.σ)[new+j]?=some y.2:=(by grind [wW,q9,ef]);have co:Ha s1 es blks new k ⟨r.2,g',w'⟩ (upd (n++fresh) s1.σ):=by
  refine⟨cin,a8,I,hlen,W,B,λq y z=>?_,λb bc b9=>?_⟩;have z:r.2[q]?=some y:=z;unfold oO;cases C:es[q]? with
  |some en=>
   have A:=Jy C;have L:n[q]?=some (n[q]'(by omega)):=JX _;obtain⟨ag,a0⟩:=b3 q en y _ C z L;have hg:=ab C L;cases en with
   |whole b=>
    rcases a0 with⟨cs,l,E,G,J⟩|⟨w,esz,rows,E,J⟩;exact .inl ⟨cs,l,E,G,by rw[<-J];exact hg⟩;exact .inr ⟨w,esz,rows,E,by rw[<-J];exact hg⟩
   |elem b ext i=>obtain⟨w,esz,rows,a5,E,G,J⟩:=a0;exact⟨w,esz,rows,a5,E,G,by rw[<-J];exact hg⟩
  |none=>
   have bb:es.length<=q:=(by grind);have A:=Jy z;have L:fresh[q-es.length]?=some (fresh[q-es.length]'(by omega)):=JX _;grind
  grind [wW,xF]
 have oi:=JJ5 co;have ot:=r8 co;have D:upd (ar.2++n++fresh) s.σ=upd (n++fresh) s1.σ:=by grind [eM]
 refine T rv w' (eX s1 es new k ⟨r.2,g',w'⟩ (upd (n++fresh) s1.σ)).g ?_ ?_ ?_;rw[D];exact oi;rw[D];exact t1.trans ot;rw[D];exact Gn co a3 hv;cases h;cases h;cases h
theorem Hi{f:FuncId}{args:List AV}{k:Nat}{s:St}(h:(hO F f args k new).run s=some e): ∃ar,(jY args).run s=some ar/\(fJ F f ar k new).run s=some e:=by
 unfold hO at h;obtain⟨ar,h1,h⟩:=bind_some h;obtain⟨w,h2,h⟩:=bind_some h;obtain⟨es,v,h⟩:=bind_some h;refine⟨ar,h1,?_⟩;unfold fJ;rw[run_bind,h2,JL,run_bind,v,JL];split at h;rename_i n;rw[if_pos n];split at h;cases h;rename_i o g;obtain⟨blks,q,h⟩:=bind_some h
 try rw[g]
 try dsimp only
 rw[run_bind,q,JL];split at h;cases h;rename_i r j
 try rw[j]
 try dsimp only
 split at h;grind;cases h;cases h
theorem Hk(A:jF P F)(hi:Inv s){f:FuncId}{args:List AV}{k:Nat}{vals:Array Value}(g: ∀j,j<k->s.σ[new+j]?=some .dead)
  (h:(hO F f args k new).run ⟨env,s.σ⟩=some e) (hl:args.length=vals.size) (hr: ∀(i:Nat) x v,args[i]?=some x->vals[i]?=some v->JF s x v)
  (r: ∀fn,P.funcs[f]?=some fn→fn.body.isSome=true→(fn.name== "runtime.NumGoroutine")=false→(execOp a.eval o).run P s.w=.ok (.enter f vals) s.w):bP P o a s e:=by
 obtain⟨ar,h1,h2⟩:=Hi h;obtain⟨D,i1,B,z,C,y⟩:=rk (vs:=vals.toList) hi (.refl _) h1 (by simpa using hl) (λi x v n q=>hr i x v n (by simpa using q));grind [re]
theorem JEr{r:List Blk}: ∀{m:List Bool} {xs:List AV} {s:Sn} {y:List AV×List (Nat×Blk)} {vs:List Value},Inv s->Frz r s.σ->(eW m xs).run ⟨env,r⟩=some y->xs.length=vs.length->
  (∀(i:Nat) x v,xs[i]?=some x->vs[i]?=some v->JF s x v)->
  ∃g',Inv ⟨upd y.2 s.σ,g',s.w⟩/\bC s ⟨upd y.2 s.σ,g',s.w⟩/\Frz s.σ (upd y.2 s.σ)/\y.1.length=vs.length/\
   ∀(i:Nat) x v,y.1[i]?=some x->vs[i]?=some v->JF ⟨upd y.2 s.σ,g',s.w⟩ x v:=by
 intro m xs
 induction xs generalizing m with
 |nil=>
  intro s y vs hi q h j k;have h:(RM.ret ([],[]):RM (List AV×List (Nat×Blk))).run ⟨env,r⟩=some y:=by cases m<;>exact h
  simp only[RM.run]at h;injection h with h;subst h;exact⟨s.g,hi,.refl s,.refl _,by simpa using j,λi c v hc=>by simp at hc⟩
 |cons x xs ih=>
  intro s y vs hi q h j k;cases vs with
  |nil=>simp at j
  |cons v vs=>
   have z: ∀{A:List Bool},((iX x).bind λa=>(eW A xs).bind λc=>.ret (a.1::c.1,a.2++c.2)).run ⟨env,r⟩=some y->
     ∃g',Inv ⟨upd y.2 s.σ,g',s.w⟩/\bC s ⟨upd y.2 s.σ,g',s.w⟩/\Frz s.σ (upd y.2 s.σ)/\y.1.length=(v::vs).length/\
      ∀(i:Nat) x o,y.1[i]?=some x->(v::vs)[i]?=some o->JF ⟨upd y.2 s.σ,g',s.w⟩ x o:=by
    intro A h;obtain⟨I,h1,h⟩:=bind_some h;obtain⟨K,h2,h⟩:=bind_some h;simp only[RM.run]at h;injection h with h;subst h;obtain⟨L,i1,H,G,M⟩:=po hi q h1 (k 0 x v rfl rfl);obtain⟨C,i2,n,B,F,J⟩:=ih (m:=A) (s:=⟨upd I.2 s.σ,L,s.w⟩) i1 (q.trans G) h2 (by simpa using j) λi x v D E=>(k (i+1) x v (by simpa using D) (by simpa using E)).mono hi H;refine⟨C,by grind [eM],by rw[eM];exact H.trans n,by rw[eM];exact G.trans B,by simp[F],λi c' o hc' e=>?_⟩;grind [JF.mono,upd]
   cases m with
   |nil=>exact z h
   |cons b m=>
    cases b with
    |false=>exact z h
    |true=>
     simp only[eW]at h;obtain⟨K,h2,h⟩:=bind_some h;simp only[RM.run]at h;injection h with h;subst h;obtain⟨C,i2,n,B,F,J⟩:=ih (m:=m) hi q h2 (by simpa using j) λi x v D E=>k (i+1) x v (by simpa using D) (by simpa using E);refine⟨C,i2,n,B,by simp[F],λi c' o hc' e=>?_⟩;cases i with
     |zero=>simp at hc' e;subst hc' e;exact(k 0 x v rfl rfl).mono hi n
     |succ i=>grind
theorem gw{f:FuncId}{args:Array Value}{fn:Func}(h1:P.funcs[f]?=some fn)(h2:fn.body.isSome=true)(h3:(fn.name== "runtime.NumGoroutine")=false)(w:World):
  (callFunc f args).run P w=.ok (.enter f args) w:=by
 have e:fn.name≠ "runtime.NumGoroutine" :=by simpa using h3
 have g:fn.body≠none:=by grind
 simp_all [callFunc]
theorem JJp(y:jF P F)(hi:Inv s)(he:bN s a.tmps env){f args k}(n: ∀j,j<k->s.σ[new+j]?=some .dead)(h:(opR F (.call f args k) new).run ⟨env,s.σ⟩=some e)
  (hc:bA P (.call f args k) o.op=true):bP P o a s e:=by
 simp only[opR]at h;obtain⟨vs,h1,w⟩:=bind_some h;clear h;unfold bA at hc;simp only at hc;split at hc;rename_i c C;split at hc;rename_i g z;simp only[aT,beq_iff_eq]at hc;obtain⟨rfl,q⟩:=hc;obtain⟨l,r⟩:=QP he h1 q;refine Hk y hi n w (vals:=c.args.map a.eval) (by simpa using l) (λi x v A B=>r i x v A (by simpa using B)) λfn G E D=>?_;simp_all [execOp,resolve,Act.eval,Deferred.ofValue,invoke,gw];cases hc;cases hc
theorem JFU(A:jF P F)(hi:Inv s)(he:bN s a.tmps env){f keep args k}(n: ∀j,j<k->s.σ[new+j]?=some .dead)(h:(opR F (.callo f keep args k) new).run ⟨env,s.σ⟩=some e)
  (hc:bA P (.callo f keep args k) o.op=true):bP P o a s e:=by
 simp only[opR]at h;obtain⟨vs,h1,w⟩:=bind_some h;obtain⟨ar,h2,G⟩:=bind_some w;clear h w;unfold bA at hc;simp only at hc;split at hc;rename_i c J;split at hc;rename_i g B;simp only[aT,beq_iff_eq]at hc;obtain⟨rfl,q⟩:=hc;obtain⟨l,r⟩:=QP he h1 q;obtain⟨E,i1,C,z,D,y⟩:=JEr (vs:=(c.args.map a.eval).toList) hi (.refl _) h2 (by simpa using l) (λi x v H I=>r i x v H (by simpa using I));refine re A n (vals:=c.args.map a.eval) i1 C z D y G λfn E L K=>?_;simp_all [execOp,resolve,Act.eval,Deferred.ofValue,invoke,gw];cases hc;cases hc
theorem JFP(C:jF P F)(hi:Inv s)(he:bN s a.tmps env){x args k}(g: ∀j,j<k->s.σ[new+j]?=some .dead)(h:(opR F (.callv x args k) new).run ⟨env,s.σ⟩=some e)
  (hc:bA P (.callv x args k) o.op=true):bP P o a s e:=by
 simp only[opR]at h;obtain⟨u,E,q⟩:=bind_some h;clear h;unfold bA at hc;simp only at hc;split at hc;rename_i c G;split at hc;rename_i y D;simp only[aT]at hc;obtain⟨B,n⟩:=hc;have A:=bK he E B;cases u with
 |fn f first caps=>
  dsimp only at q;obtain⟨vs,h1,w⟩:=bind_some q;obtain⟨l,r⟩:=QP he h1 n;generalize N:a.eval y=z at A;cases A with
  |fn _ _ _ fs cs K J H I=>
   have l':vs.length=c.args.size:=by simpa using l
   refine Hk C hi g w (vals:=fs++c.args.map a.eval++cs) (by simp;omega) (λi x v B Q=>?_) λfn O M L=>?_;grind;grind [execOp,resolve,Deferred.ofValue,invoke,gw]
 |_=>cases q
 cases hc;cases hc
end
end Go.Am
end
