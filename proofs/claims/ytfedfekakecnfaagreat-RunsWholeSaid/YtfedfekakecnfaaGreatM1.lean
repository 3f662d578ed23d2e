/-
  Parts of a proof.
-/
import Derived.Calls
import Derived.LoopN
import Derived.KernelRfl
import Derived.Laws.Sem
import Derived.Laws.StructEq
import Derived.Laws.Cells
import Derived.Laws.Cover3
import Derived.Laws.Pointers
import Derived.Deep.AppendSrc
import Derived.Laws.MakeOwn
import Derived.Laws.BytesString
import Derived.DeepKeys
set_option linter.unusedSimpArgs false
set_option linter.unusedVariables false
section
namespace Go.Am
abbrev aH:=Option
abbrev zQ0:= @Nat.le_refl
abbrev zQ1:= @Nat.le_trans
abbrev zQ2:= @Nat.zero_le
abbrev zQ3:= @Nat.lt_or_ge
abbrev zQ4:= @Nat.mul_le_mul_right
abbrev zQ5:= @List.mem_of_getElem?
abbrev zQ6:= @List.ext_getElem?
abbrev zQ7:= @List.mem_of_mem_drop
abbrev zQ8:= @Nat.add_mul
abbrev zQ9:= @List.getElem?_eq_getElem
abbrev oS:= @List.getElem?_eq_none
abbrev cS:= @List.mem_cons
abbrev cF:= @List.mem_append
abbrev aS:= @Bool.and_eq_true
abbrev yW:= @Sem.run_bind
abbrev tE:= @Result.andThen_ok
abbrev gO:= @Option.map_eq_some_iff
abbrev k9:= @Option.isSome_iff_exists
abbrev HT:= @Nat.add_assoc
abbrev DD:= @Array.ext'
abbrev UU:= @Array.getElem?_toList
abbrev qQ:= @List.flatten_cons
abbrev fT:= @List.getElem?_map
abbrev eJ:= @Bool.false_eq_true
abbrev DY:= @List.length_eq_one_iff
abbrev fV:= @List.getElem?_of_mem
abbrev VG:= @Sem.run_pure
abbrev kl:= @List.mem_of_mem_take
abbrev DX:= @List.getElem?_set_self
abbrev HU:= @List.getElem?_set_ne
abbrev DV:= @List.length_cons
abbrev VU:= @Array.all_eq_true_iff_forall_mem
abbrev EM:= @List.length_replicate
abbrev jC:= @List.mem_map
abbrev dX:= @List.getElem?_append_right
abbrev fK:= @List.length_map
abbrev tC:= @Nat.add_zero
abbrev DL:= @List.drop_zero
abbrev lz:= @Array.getElem?_append_left
abbrev nA:= @Nat.zero_add
abbrev yU:= @Array.getElem?_eq_getElem
abbrev IL:= @Nat.mul_comm
abbrev eC:= @List.length_append
abbrev mY:= @List.cons_append
abbrev WH:= @List.getElem?_take
abbrev ky:= @List.getElem?_drop
abbrev EH:= @List.length_take
abbrev yK:= @List.length_drop
abbrev EC:= @List.drop_drop
abbrev yN:= @Bool.not_eq_true'
abbrev tJ:= @Nat.sub_zero
abbrev bK:= @Option.bind_eq_some_iff
abbrev JO:= @Option.bind_some
abbrev qR:= @List.mem_cons_of_mem
abbrev yO:= @Bool.or_eq_true
abbrev ly:= @Array.getElem?_eq_some_iff
abbrev kF:= @List.append_assoc
abbrev qJ:= @List.take_append_drop
abbrev Bn:= @List.map_take
abbrev bT:= @List.map_cons
abbrev jZ:= @List.append_nil
abbrev yR:= @List.map_map
abbrev DH:= @List.map_append
abbrev cU:= @Option.map_some
abbrev jA:= @List.nil_append
abbrev VA:= @List.all_eq_true
abbrev VP:= @List.map_replicate
abbrev hO:= @List.mem_singleton
abbrev jY:= @List.getElem?_append_left
abbrev oU:= @Int.le_trans
abbrev lA:= @List.getElem_mem
abbrev bA:= @Int.le_refl
abbrev lg:= @List.mem_or_eq_of_mem_set
abbrev cI:= @List.getElem?_eq_some_iff
abbrev DE:= @Nat.eq_zero_or_pos
abbrev l4:= @Nat.succ_mul
abbrev gN:= @List.mem_iff_getElem?
abbrev DO:= @Nat.pow_le_pow_right
abbrev kq:= @List.take_succ_cons
abbrev UZ:= @List.length_flatten
theorem _root_.And.c{h g e:Prop}(x:h/\g/\e):e:=x.2.2
theorem _root_.And.d{g h j e:Prop}(x:g/\h/\j/\e):e:=x.2.2.2
theorem _root_.And.e{j k n h g:Prop}(x:j/\k/\n/\h/\g):g:=x.2.2.2.2
theorem _root_.And.g{j n o h k e:Prop}(x:j/\n/\o/\h/\k/\e):e:=x.2.2.2.2.2
theorem _root_.And.h{j n q g k o e:Prop}(x:j/\n/\q/\g/\k/\o/\e):e:=x.2.2.2.2.2.2
theorem _root_.And.i{h k o g j n q e:Prop}(x:h/\k/\o/\g/\j/\n/\q/\e):e:=x.2.2.2.2.2.2.2
theorem _root_.And.j{h n r g k q v o e:Prop}(x:h/\n/\r/\g/\k/\q/\v/\o/\e):e:=x.2.2.2.2.2.2.2.2
theorem _root_.And.k{h n r g j q w o v e:Prop}(x:h/\n/\r/\g/\j/\q/\w/\o/\v/\e):e:=x.2.2.2.2.2.2.2.2.2
inductive PV where
 |b (x:Bool)
 |i (k:IntKind) (n:Int)
 |s (l:List UInt8)
 |sl (esz:Nat) (rows:List (List PV))
 |np
 |nf
 |slc (esz:Nat) (rows:List (List PV))
 deriving Inhabited
inductive AV where
 |p (c:PV)
 |data (cs:List PV)
 |agg (cs:List AV)
 |tup (vs:List AV)
 |ptr (b off:Nat)
 |cp (cs:List PV) (off:Nat)
 |slr (b i n:Nat)
 |ep (b ext i off:Nat)
 |fn (f:FuncId) (first caps:List AV)
 |unk
 deriving Inhabited
inductive Blk where
 |dead
 |box (cs:List AV)
 |arr (w:Bool) (esz:Nat) (rows:List (List PV))
 deriving Inhabited
abbrev Res:=AV×List Blk
abbrev Orc:=FuncId->List AV->List Blk->Option Res
structure St where
 env:List (Nat×AV)
 sto:List Blk
def lk(n:Nat):List (Nat×AV)->Option AV|[]=>none|(m,v)::r=>if n=m then some v else lk n r
inductive RM(α:Type) where|ret (a:α)|slot (n:Nat) (k:AV->RM α)|blk (b:Nat) (k:Blk->RM α)|fail
def RM.bind{α β:Type}:RM α->(α->RM β)->RM β| .ret a,f=>f a| .slot n k,f=>.slot n λv=>(k v).bind f| .blk b k,f=>.blk b λv=>(k v).bind f| .fail,_=>.fail
def RM.run{α:Type}:RM α->St->Option α
 | .ret a,_=>some a
 | .slot n k,s=>match lk n s.env with|some v=>(k v).run s|none=>none
 | .blk b k,s=>match s.sto[b]? with|some v=>(k v).run s|none=>none
 | .fail,_=>none
inductive Loc where
 |slot (n:Nat)
 |blk (b:Nat)
 deriving DecidableEq
def RM.reads{α:Type}:RM α->St->List Loc
 | .ret _,_=>[]
 | .slot n k,s=>.slot n::match lk n s.env with|some v=>(k v).reads s|none=>[]
 | .blk b k,s=>.blk b::match s.sto[b]? with|some v=>(k v).reads s|none=>[]
 | .fail,_=>[]
def RM.of{α:Type}:Option α->RM α|some a=>.ret a|none=>.fail
inductive Opd where
 |t (n:Nat)
 |c (x:AV)
 deriving Inhabited
inductive KD where
 |b
 |i (k:IntKind)
 |s
 deriving DecidableEq
inductive BT where
 |plain
 |bool
 |flat (ks:List KD)
 |nils
 |nilp
 |nilf
 deriving DecidableEq
inductive CK where
 |int (k:IntKind)
 |same
 |toStr
 |toBytes (own:Bool)
 deriving DecidableEq
inductive SK where
 |str
 |sl (esz:Nat)
 deriving DecidableEq
inductive AOp where
 |mv (x:Opd)
 |mkarr (esz:Nat) (x:Opd)
 |pick (c a b:Opd)
 |newbox (zero:List PV)
 |box (size:Nat) (x:Opd)
 |build (zero:List PV) (parts:List (Nat×Nat×Opd))
 |lits (own:Bool) (esz n:Nat) (zero:List PV) (parts:List (Nat×Opd))
 |load (agg:Bool) (size:Nat) (x:Opd)
 |store (size:Nat) (x v:Opd)
 |nilchk (x:Opd)
 |bin (op:BinOp) (t:BT) (x y:Opd)
 |un (op:UnOp) (x:Opd)
 |conv (k:CK) (x:Opd)
 |mkslice (own:Bool) (esz bytes:Nat) (zero:List PV) (l c:Opd)
 |slice (k:SK) (x:Opd) (lo hi mx:Option Opd)
 |faddr (off:Nat) (x:Opd)
 |field (agg:Bool) (off size:Nat) (x:Opd)
 |iaddr (esz:Nat) (x i:Opd)
 |aaddr (len esz:Nat) (x i:Opd)
 |sidx (x i:Opd)
 |aidx (agg:Bool) (len esz:Nat) (x i:Opd)
 |extr (x:Opd) (i:Nat)
 |call (f:FuncId) (args:List Opd) (k:Nat)
 |callv (g:Opd) (args:List Opd) (k:Nat)
 |len (str:Bool) (x:Opd)
 |alen (n:Nat)
 |app (esz bytes:Nat) (zero:List PV) (x y:Opd)
 |appn (esz bytes:Nat) (zero:List PV) (y:Opd)
 |appz (esz bytes:Nat) (zero:List PV) (x y:Opd)
 |appc (esz bytes:Nat) (zero:List PV) (x y:Opd)
 |mm (mx:Bool) (x y:Opd)
 |mkfn (f:FuncId) (first caps:List Opd)
 |newboxo (zero:List PV) (os:List (Nat×Nat))
 |buildo (zero:List PV) (parts:List (Nat×Nat×Opd)) (os:List (Nat×Nat))
 |storen (esz:Nat) (x:Opd)
 |callo (f:FuncId) (keep:List Bool) (args:List Opd) (k:Nat)
 deriving Inhabited
structure bU where
 op:AOp
 dst:Option Nat
 g:Option (Nat×Bool)
 deriving Inhabited
inductive bX where
 |skip
 |bad
 |reg (draw:Bool) (pairs:List (Nat×Nat)) (ins:List bU)
 |seq (a b:bX)
 |cond (c:Opd) (a b:bX)
 |block (id:Nat) (c:bX)
 |loop (live:List Nat) (c:bX)
 |lp (n:Nat) (live:List Nat) (c:bX)
 |scope (c:bX)
 |exit (id:Nat)
 |ret
 |keep (live:List Nat) (c:bX)
 |tidy (live:List Nat) (c:bX)
 |br (live:List Nat) (pre:bX) (c:Opd) (a b rest:bX)
 deriving Inhabited
inductive AX where
 |normal
 |exit (id:Nat)
 |ret
 deriving DecidableEq
abbrev Out:=AX×St
inductive vK where|tmp (t:Nat)|cell (t:Nat) (agg:Bool) (size:Nat)
structure AFn where
 np:Nat
 nt:Nat
 body:bX
 res:List vK
 fresh:Bool
structure Eff where
 val:AV
 ws:List (Nat×Blk)
def upd(ws:List (Nat×Blk))(sto:List Blk):List Blk:=ws.foldl (λs x=>s.set x.1 x.2) sto
def unp:List AV->Option (List PV)
 |[]=>some []
 | .p c::r=>match unp r with|some l=>some (c::l)|none=>none
 |_::_=>none
def cellsOf:AV->Option (List AV)| .p c=>some [.p c]| .data cs=>some (cs.map .p)| .agg cs=>some cs| .ptr b o=>some [.ptr b o]| .cp cs o=>some [.cp cs o]| .slr b i n=>some [.slr b i n]| .ep b e i o=>some [.ep b e i o]| .fn f a c=>some [.fn f a c]| .tup _=>none| .unk=>none
def kR(agg:Bool)(cs:List AV):Option AV:=
 if agg then
  match unp cs with
  |some l=>some (.data l)
  |none=>some (.agg cs)
 else match cs with|[x]=>some x|_=>none
def oB(agg:Bool)(cs:List PV):Option AV:=
 if agg then some (.data cs)
 else match cs with|[x]=>some (.p x)|_=>none
def sub{α:Type}(cs:List α)(off size:Nat):Option (List α):=if off=0/\cs.length=size then some cs else if off+size<=cs.length then some ((cs.drop off).take size)else none
def spl{α:Type}(cs:List α)(off:Nat)(vs:List α):Option (List α):=if off=0/\cs.length=vs.length then some vs else if off+vs.length<=cs.length then some (cs.take off++vs++cs.drop (off+vs.length))else none
def fz:AV->RM (List PV×List (Nat×Blk))
 | .p c=>.ret ([c],[])
 | .data cs=>.ret (cs,[])
 | .slr b i n=>.blk b fun
  | .arr _ esz rows=>if i+n=rows.length then .ret ([.sl esz (rows.drop i)],[(b,.arr false esz rows)])else .fail
  |_=>.fail
 | .agg cs=>fzL cs
 |_=>.fail
where
 fzL:List AV->RM (List PV×List (Nat×Blk))
  |[]=>.ret ([],[])
  |x::r=>(fz1 x).bind λa=>(fzL r).bind λc=>.ret (a.1++c.1,a.2++c.2)
 fz1:AV->RM (List PV×List (Nat×Blk))
  | .p c=>.ret ([c],[])
  | .slr b i n=>.blk b fun
   | .arr _ esz rows=>if i+n=rows.length then .ret ([.sl esz (rows.drop i)],[(b,.arr false esz rows)])else .fail
   |_=>.fail
  |_=>.fail
def vM:KD->PV->PV->Option Bool| .b,.b x,.b y=>some (x==y)| .i k,.i k' x,.i e y=>if k=k'/\k=e then some (x==y)else none| .s,.s x,.s y=>some (x==y)|_,_,_=>none
def cA:List KD->List PV->List PV->Option Bool
 |[],[],[]=>some true
 |k::ks,x::xs,y::e=>match vM k x y,cA ks xs e with|some a,some c=>some (a&&c)|_,_=>none
 |_,_,_=>none
def LQ(op:BinOp)(k:IntKind)(x y:Int):Option PV:=
 if y<0 then none
 else match op with| .shl=>some (.i k (k.wrap (x*2^(min y.toNat k.bits))))| .shr=>some (.i k (x.fdiv (2^(min y.toNat k.bits))))|_=>none
def yB(op:BinOp)(k:IntKind)(x y:Int):Option PV:=
 match op with
 | .add=>some (.i k (k.wrap (x+y)))
 | .sub=>some (.i k (k.wrap (x-y)))
 | .mul=>some (.i k (k.wrap (x*y)))
 | .quo=>if y=0 then none else some (.i k (k.wrap (x.tdiv y)))
 | .rem=>if y=0 then none else some (.i k (x.tmod y))
 | .and=>some (.i k (k.wrap (BitVec.ofInt k.bits x&&&BitVec.ofInt k.bits y).toNat))
 | .or=>some (.i k (k.wrap (BitVec.ofInt k.bits x|||BitVec.ofInt k.bits y).toNat))
 | .xor=>some (.i k (k.wrap (BitVec.ofInt k.bits x^^^BitVec.ofInt k.bits y).toNat))
 | .eql=>some (.b (x==y))
 | .neq=>some (.b (x !=y))
 | .lss=>some (.b (decide (x<y)))
 | .leq=>some (.b (decide (x<=y)))
 | .gtr=>some (.b (decide (x>y)))
 | .geq=>some (.b (decide (x>=y)))
 |_=>none
def yG(op:BinOp)(x y:List UInt8):Option PV:=
 match op with
 | .add=>if x.length+y.length<=4611686018427387904 then some (.s (x++y))else none
 | .eql=>some (.b (x==y))
 | .neq=>some (.b (!(x==y)))
 | .lss=>some (.b (Op.bytesLess x y))
 | .leq=>some (.b (Op.bytesLess x y||x==y))
 | .gtr=>some (.b (!(Op.bytesLess x y||x==y)))
 | .geq=>some (.b (!Op.bytesLess x y))
 |_=>none
def iZ(op:BinOp)(r:Option Bool):Option AV:=
 match op,r with
 | .eql,some x=>some (.p (.b x))
 | .neq,some x=>some (.p (.b (!x)))
 |_,_=>none
def IE:BinOp->Option AV| .eql=>some .unk| .neq=>some .unk|_=>none
def nG(op:BinOp)(t:BT)(x y:AV):Option AV:=
 match t with
 | .plain=>match x,y with
  | .p (.i k a),.p (.i k' c)=>match op with| .shl=>(LQ .shl k a c).map .p| .shr=>(LQ .shr k a c).map .p|_=>if k=k' then(yB op k a c).map .p else none
  | .p (.s a),.p (.s c)=>(yG op a c).map .p
  |_,_=>none
 | .bool=>match x,y with| .p (.b a),.p (.b c)=>iZ op (some (a==c))|_,_=>none
 | .flat ks=>match x,y with| .data a,.data c=>iZ op (cA ks a c)|_,_=>none
 | .nils=>match x with
  | .p (.sl _ rows)=>match rows with|[]=>IE op|_::_=>iZ op (some false)
  | .slr _ _ n=>if n=0 then IE op else iZ op (some false)
  |_=>none
 | .nilp=>match x with| .p .np=>iZ op (some true)| .ptr _ _=>iZ op (some false)| .cp _ _=>iZ op (some false)| .ep _ _ _ _=>iZ op (some false)|_=>none
 | .nilf=>match x with| .p .nf=>iZ op (some true)| .fn _ _ _=>iZ op (some false)|_=>none
def unP(op:UnOp)(x:AV):Option AV:=
 match op,x with
 | .neg,.p (.i k n)=>some (.p (.i k (k.wrap (0-n))))
 | .xor,.p (.i k n)=>some (.p (.i k (k.wrap (BitVec.ofInt k.bits (if k.signed then -1 else k.max)^^^BitVec.ofInt k.bits n).toNat)))
 | .not,.p (.b x)=>some (.p (.b (!x)))
 | .not,.unk=>some .unk
 |_,_=>none
def uD:List (List PV)->Option (List UInt8)
 |[]=>some []
 |[.i .u8 n]::r=>match uD r with|some l=>some (UInt8.ofNat n.toNat::l)|none=>none
 |_::_=>none
def mF(x:UInt8):List PV:=[.i .u8 x.toNat]
def AB(esz:Nat):List (Nat×List PV)->List (List PV)->Option (List (List PV))|[],rows=>some rows|(i,c)::r,rows=>if c.length=esz/\i<rows.length then AB esz r (rows.set i c)else none
def pM:List (Nat×Nat×List AV)->List AV->Option (List AV)
 |[],cs=>some cs
 |(off,size,c)::r,cs=>
  if c.length=size then
   match spl cs off c with
   |some cs'=>pM r cs'
   |none=>none
  else none
def ev:Opd->RM AV| .t n=>.slot n .ret| .c x=>.ret x
def evs:List Opd->RM (List AV)|[]=>.ret []|x::r=>(ev x).bind λv=>(evs r).bind λvs=>.ret (v::vs)
def val(x:Option AV):RM Eff:=
 match x with
 |some v=>.ret ⟨v,[]⟩
 |none=>.fail
def fzs:List Opd->RM (List (List PV)×List (Nat×Blk))|[]=>.ret ([],[])|x::r=>(ev x).bind λv=>(fz v).bind λa=>(fzs r).bind λc=>.ret (a.1::c.1,a.2++c.2)
def pP(x:Option AV)(top e:Nat):Option Nat:=
 match x with
 |none=>some e
 |some (.p (.i _ n))=>if 0<=n/\n<=top then some n.toNat else none
 |some _=>none
def evo:Option Opd->RM (Option AV)|none=>.ret none|some x=>(ev x).bind λv=>.ret (some v)
def vQ(n:Nat)(lo hi:Option AV):Option (Nat×Nat):=
 match pP hi n n with
 |none=>none
 |some h=>match pP lo h 0 with|none=>none|some l=>some (l,h)
def wP(x:AV)(lo hi:Option AV):Option AV:=
 match x with
 | .p (.s l)=>match vQ l.length lo hi with|some c=>some (.p (.s ((l.drop c.1).take (c.2-c.1))))|none=>none
 |_=>none
def wM(esz:Nat)(x:AV)(lo hi:Option AV):Option AV:=
 match x with
 | .p (.sl e rows)=>if esz=e then
   match vQ rows.length lo hi with
   |some c=>some (.p (.sl esz ((rows.drop c.1).take (c.2-c.1))))
   |none=>none
  else none
 |_=>none
def PO(esz:Nat)(x:AV)(lo hi:Option AV)(m:AV):Option AV:=
 match x,lo,hi,m with
 | .p (.sl e rows),none,some (.p (.i _ h)),.p (.i _ n)=>if esz=e/\h=rows.length/\n=rows.length then some (.p (.slc esz rows))else none
 |_,_,_,_=>none
def kO(k:SK)(x:AV)(lo hi mx:Option AV):Option AV:=
 match mx with
 |some m=>match k with| .str=>none| .sl esz=>PO esz x lo hi m
 |none=>match k with| .str=>wP x lo hi| .sl esz=>wM esz x lo hi
def PA(rows:List (List PV))(n:Int):Option (List PV):=if 0<=n then rows[n.toNat]? else none
def mE(esz:Nat)(x i:AV):RM Eff:=
 match x,i with
 | .p (.sl e rows),.p (.i _ n)=>
  if esz=e then
   match PA rows n with
   |some row=>.ret ⟨.cp row 0,[]⟩
   |none=>.fail
  else .fail
 | .slr b j m,.p (.i _ n)=>.blk b fun
  | .arr _ e rows=>if esz=e/\j+m=rows.length/\0<=n/\n<m then .ret ⟨.ep b rows.length (j+n.toNat) 0,[]⟩else .fail
  |_=>.fail
 |_,_=>.fail
def LK(len esz:Nat)(x i:AV):Option AV:=
 match i with
 | .p (.i _ n)=>
  if 0<=n/\n<len then
   match x with
   | .ptr b off=>some (.ptr b (off+n.toNat*esz))
   | .cp cs off=>some (.cp cs (off+n.toNat*esz))
   | .ep b e j off=>some (.ep b e j (off+n.toNat*esz))
   |_=>none
  else none
 |_=>none
def LD(off:Nat):AV->Option AV| .ptr b o=>some (.ptr b (o+off))| .cp cs o=>some (.cp cs (o+off))| .ep b e j o=>some (.ep b e j (o+off))|_=>none
def gE(agg:Bool)(size:Nat):AV->RM Eff
 | .cp cs off=>match sub cs off size with|some l=>val (oB agg l)|none=>.fail
 | .ptr b off=>.blk b fun
  | .box cs=>match sub cs off size with|some l=>val (kR agg l)|none=>.fail
  |_=>.fail
 | .ep b ext i off=>.blk b fun
  | .arr _ _ rows=>if ext=rows.length then
    match rows[i]? with
    |some row=>match sub row off size with|some l=>val (oB agg l)|none=>.fail
    |none=>.fail
   else .fail
  |_=>.fail
 |_=>.fail
def gG:AV:=.tup []
def iA(size:Nat)(x v:AV):RM Eff:=
 match x with
 | .ptr b off=>.blk b fun
  | .box cs=>match cellsOf v with
   |some l=>if l.length=size then
    match spl cs off l with
    |some cs'=>.ret ⟨gG,[(b,.box cs')]⟩
    |none=>.fail
    else .fail
   |none=>.fail
  |_=>.fail
 | .ep b ext i off=>.blk b fun
  | .arr true esz rows=>if ext=rows.length then
    match rows[i]? with
    |some row=>(fz v).bind λa=>
     if a.1.length=size/\(a.2.all λy=>y.1 !=b)then
      match spl row off a.1 with
      |some e=>.ret ⟨gG,a.2++[(b,.arr true esz (rows.set i e))]⟩
      |none=>.fail
     else .fail
    |none=>.fail
   else .fail
  |_=>.fail
 |_=>.fail
def rC(agg:Bool)(off size:Nat):AV->Option AV
 | .data cs=>match sub cs off size with|some l=>oB agg l|none=>none
 | .agg cs=>match sub cs off size with|some l=>kR agg l|none=>none
 |_=>none
def PR(i:Nat):AV->Option AV| .tup vs=>vs[i]?|_=>none
def KB:Bool->AV->Option AV|true,.p (.s l)=>some (.p (.i .i64 l.length))|false,.p (.sl _ rows)=>some (.p (.i .i64 rows.length))|false,.slr _ _ n=>some (.p (.i .i64 n))|_,_=>none
def fG(esz:Nat):AV->RM (List (List PV))
 | .p (.sl e rows)=>if esz=e then .ret rows else .fail
 | .p (.s l)=>if esz=1 then .ret (l.map mF)else .fail
 | .slr b i n=>.blk b fun
  | .arr _ e rows=>if esz=e/\i+n=rows.length then .ret (rows.drop i)else .fail
  |_=>.fail
 |_=>.fail
def nJ(n bytes:Nat):Bool:=(2*n+512)*bytes<=281474976710656
def iM(esz bytes:Nat)(x y:AV):RM Eff:=
 match x with
 | .slr b i n=>.blk b fun
  | .arr w e rows=>(fG esz y).bind λnew=>
   if esz=e/\i=0/\n=rows.length/\nJ (n+new.length) bytes then
    .ret ⟨.slr b 0 (n+new.length),[(b,.arr w esz (rows++new))]⟩
   else .fail
  |_=>.fail
 |_=>.fail
def IN(esz bytes:Nat)(x y:AV)(new:Nat):RM Eff:=
 match x with
 | .p (.slc e rows)=>(fG esz y).bind λadd=>
   if esz=e/\0<add.length/\nJ (rows.length+add.length) bytes then
    .ret ⟨.slr new 0 (rows.length+add.length),[(new,.arr true esz (rows++add))]⟩
   else .fail
 |_=>.fail
def zrs(esz:Nat)(zero:List PV):AV->Option AV| .p (.i _ n)=>if 0<=n then some (.p (.sl esz (List.replicate n.toNat zero)))else none|_=>none
def mmP(mx:Bool)(x y:AV):Option AV:=
 match x,y with
 | .p (.i k a),.p (.i _ c)=>some (.p (.i k (if mx then(if c>a then c else a)else(if c<a then c else a))))
 |_,_=>none
inductive Ent where
 |whole (b:Nat)
 |elem (b ext i:Nat)
 deriving DecidableEq
def Ent.id:Ent->Nat| .whole b=>b| .elem b _ _=>b
def wO(e:Ent)(l:List Ent):List Ent:=if l.any (λx=>x==e)then l else l++[e]
def cJ:AV->List Ent->List Ent
 | .ptr b _,l=>wO (.whole b) l
 | .slr b _ _,l=>wO (.whole b) l
 | .ep b e i _,l=>wO (.elem b e i) l
 | .fn _ first caps,l=>entsOfL caps (entsOfL first l)
 | .agg cs,l=>entsOfL cs l
 | .tup cs,l=>entsOfL cs l
 |_,l=>l
where
 entsOfL:List AV->List Ent->List Ent
  |[],l=>l
  |x::r,l=>entsOfL r (cJ x l)
def dG(e:Ent):List Ent->Nat->Option Nat|[],_=>none|x::r,k=>if x=e then some k else dG e r (k+1)
def ren(ρ:Ent->Option Nat):AV->Option AV
 | .p c=>some (.p c)
 | .data cs=>some (.data cs)
 | .cp cs o=>some (.cp cs o)
 | .unk=>some .unk
 | .ptr b off=>(ρ (.whole b)).map λk=>.ptr k off
 | .ep b e i off=>(ρ (.elem b e i)).map λk=>.ptr k off
 | .slr b i n=>(ρ (.whole b)).map λk=>.slr k i n
 | .fn f first caps=>(renL ρ first).bind λa=>(renL ρ caps).map λc=>.fn f a c
 | .agg cs=>(renL ρ cs).map .agg
 | .tup cs=>(renL ρ cs).map .tup
where
 renL (ρ:Ent->Option Nat):List AV->Option (List AV)
  |[]=>some []
  |x::r=>match ren ρ x,renL ρ r with
   |some y,some l=>some (y::l)
   |_,_=>none
end Go.Am
end
section
namespace Go.Am
def jL:List Nat->Bool|[]=>true|x::r=> !(r.contains x)&&jL r
def jF(b:Nat):List (Nat×Blk)->Option Blk|[]=>none|(c,x)::r=>match jF b r with|some y=>some y|none=>if c=b then some x else none
def qO(ws:List (Nat×Blk))(b:Nat):RM Blk:=
 .blk b λx=>match jF b ws with|some y=>.ret y|none=>.ret x
def eB(ws:List (Nat×Blk)):List Ent->List Ent->RM (List Ent)
 |[],acc=>.ret acc
 | .whole b::r,acc=>(qO ws b).bind fun
  | .box cs=>eB ws r (cJ.entsOfL cs acc)
  |_=>eB ws r acc
 |_::r,acc=>eB ws r acc
def jB:AV->RM (AV×List (Nat×Blk))
 | .slr b i n=>(fz (.slr b i n)).bind λa=>match a.1 with|[c]=>.ret (.p c,a.2)|_=>.fail
 | .agg cs=>(fz (.agg cs)).bind λa=>.ret (.data a.1,a.2)
 | .tup _=>.fail
 |v=>.ret (v,[])
def kK:List AV->RM (List AV×List (Nat×Blk))|[]=>.ret ([],[])|x::r=>(jB x).bind λa=>(kK r).bind λc=>.ret (a.1::c.1,a.2++c.2)
def zC(ws:List (Nat×Blk))(ρ:Ent->Option Nat):Ent->RM Blk
 | .whole b=>(qO ws b).bind fun
  | .box cs=>match ren.renL ρ cs with|some l=>.ret (.box l)|none=>.fail
  | .arr w esz rows=>.ret (.arr w esz rows)
  | .dead=>.fail
 | .elem b ext i=>(qO ws b).bind fun
  | .arr true _ rows=>if ext=rows.length then
    match rows[i]? with
    |some row=>.ret (.box (row.map .p))
    |none=>.fail
   else .fail
  |_=>.fail
def kQ(ws:List (Nat×Blk))(ρ:Ent->Option Nat):List Ent->RM (List Blk)|[]=>.ret []|e::r=>(zC ws ρ e).bind λx=>(kQ ws ρ r).bind λl=>.ret (x::l)
def bk(es:List Ent)(new:Nat):AV->Option AV
 | .p c=>some (.p c)
 | .data cs=>some (.data cs)
 | .cp cs o=>some (.cp cs o)
 | .unk=>some .unk
 | .ptr k off=>if k<es.length then
   match es[k]? with
   |some (.whole b)=>some (.ptr b off)
   |some (.elem b e i)=>some (.ep b e i off)
   |none=>none
  else some (.ptr (new+(k-es.length)) off)
 | .slr k i n=>if k<es.length then
   match es[k]? with
   |some (.whole b)=>some (.slr b i n)
   |_=>none
  else some (.slr (new+(k-es.length)) i n)
 | .ep k e i off=>if k<es.length then
   match es[k]? with
   |some (.whole b)=>some (.ep b e i off)
   |_=>none
  else some (.ep (new+(k-es.length)) e i off)
 | .fn f first caps=>match bkL es new first,bkL es new caps with|some a,some c=>some (.fn f a c)|_,_=>none
 | .agg cs=>match bkL es new cs with|some l=>some (.agg l)|none=>none
 | .tup cs=>match bkL es new cs with|some l=>some (.tup l)|none=>none
where
 bkL (es:List Ent) (new:Nat):List AV->Option (List AV)
  |[]=>some []
  |x::r=>match bk es new x,bkL es new r with
   |some y,some l=>some (y::l)
   |_,_=>none
def tY(ws:List (Nat×Blk))(es:List Ent)(new:Nat)(e:Ent)(x:Blk):RM (Nat×Blk):=
 match e,x with
 | .whole b,.box cs=>match bk.bkL es new cs with|some l=>.ret (b,.box l)|none=>.fail
 | .whole b,.arr w esz rows=>.ret (b,.arr w esz rows)
 | .elem b _ i,.box cs=>(qO ws b).bind fun
  | .arr w esz rows=>match unp cs with|some row=>.ret (b,.arr w esz (rows.set i row))|none=>.fail
  |_=>.fail
 |_,_=>.fail
def iS(ws:List (Nat×Blk))(es:List Ent)(new:Nat):List Ent->List Blk->RM (List (Nat×Blk))|[],_=>.ret []|e::r,x::l=>(tY ws es new e x).bind λy=>(iS ws es new r l).bind λg=>.ret (y::g)|_::_,[]=>.fail
def gW(es:List Ent)(new:Nat):Nat->List Blk->Option (List (Nat×Blk))
 |_,[]=>some []
 |k,.box cs::l=>match bk.bkL es new cs,gW es new (k+1) l with|some c,some e=>some ((k,.box c)::e)|_,_=>none
 |k,.arr w esz rows::l=>match gW es new (k+1) l with|some e=>some ((k,.arr w esz rows)::e)|none=>none
 |_,.dead::_=>none
def hX(F:Orc)(f:FuncId)(args:List AV)(k new:Nat):RM Eff:=
 (kK args).bind λa=>
 (eB a.2 (cJ.entsOfL a.1 []) (cJ.entsOfL a.1 [])).bind λh=>
 (eB a.2 h h).bind λes=>
 if jL (es.map Ent.id)then
  match ren.renL (λe=>dG e es 0) a.1 with
  |none=>.fail
  |some g=>(kQ a.2 (λe=>dG e es 0) es).bind λblks=>
   match F f g blks with
   |none=>.fail
   |some r=>if r.2.length=es.length+k then
    match bk es new r.1,gW es new new (r.2.drop es.length)with
    |some v,some fresh=>(iS a.2 es new es r.2).bind λj=>.ret ⟨v,a.2++j++fresh⟩
    |_,_=>.fail
    else .fail
 else .fail
def kM:List (Nat×Nat×Opd)->RM (List (Nat×Nat×List AV))|[]=>.ret []|(off,size,x)::r=>(ev x).bind λv=>match cellsOf v with|some cs=>(kM r).bind λl=>.ret ((off,size,cs)::l)|none=>.fail
def gU:List (Nat×Nat)->Nat->List (Nat×Blk)|[],_=>[]|(_,esz)::r,n=>(n,.arr true esz [])::gU r (n+1)
def lY:List (Nat×Nat)->Nat->List AV->List AV|[],_,cs=>cs|(off,_)::r,n,cs=>lY r (n+1) (cs.set off (.slr n 0 0))
def fC:List Bool->List AV->RM (List AV×List (Nat×Blk))|_,[]=>.ret ([],[])|[],x::r=>(jB x).bind λa=>(fC [] r).bind λc=>.ret (a.1::c.1,a.2++c.2)|true::m,x::r=>(fC m r).bind λc=>.ret (x::c.1,c.2)|false::m,x::r=>(jB x).bind λa=>(fC m r).bind λc=>.ret (a.1::c.1,a.2++c.2)
def fP(F:Orc)(f:FuncId)(a:List AV×List (Nat×Blk))(k new:Nat):RM Eff:=
 (eB a.2 (cJ.entsOfL a.1 []) (cJ.entsOfL a.1 [])).bind λh=>
 (eB a.2 h h).bind λes=>
 if jL (es.map Ent.id)then
  match ren.renL (λe=>dG e es 0) a.1 with
  |none=>.fail
  |some g=>(kQ a.2 (λe=>dG e es 0) es).bind λblks=>
   match F f g blks with
   |none=>.fail
   |some r=>if es.length<=r.2.length/\r.2.length<=es.length+k then
    match bk es new r.1,gW es new new (r.2.drop es.length)with
    |some v,some fresh=>(iS a.2 es new es r.2).bind λj=>.ret ⟨v,a.2++j++fresh⟩
    |_,_=>.fail
    else .fail
 else .fail
def opR(F:Orc)(op:AOp)(new:Nat):RM Eff:=
 match op with
 | .mv x=>(ev x).bind λv=>.ret ⟨v,[]⟩
 | .mkarr esz _=>.ret ⟨.slr new 0 0,[(new,.arr true esz [])]⟩
 | .pick c a b=>(ev c).bind fun
  | .p (.b x)=>if x then(ev a).bind λv=>.ret ⟨v,[]⟩else(ev b).bind λv=>.ret ⟨v,[]⟩
  |_=>.fail
 | .newbox zero=>.ret ⟨.ptr new 0,[(new,.box (zero.map .p))]⟩
 | .box size x=>(ev x).bind λv=>match cellsOf v with|some cs=>if cs.length=size then .ret ⟨.ptr new 0,[(new,.box cs)]⟩else .fail|none=>.fail
 | .build zero parts=>(kM parts).bind λl=>match pM l (zero.map .p)with|some cs=>val (kR true cs)|none=>.fail
 | .lits own esz n zero parts=>(fzs (parts.map (·.2))).bind λa=>
  match AB esz ((parts.map (·.1)).zip a.1) (List.replicate n zero)with
  |some rows=>if own then .ret ⟨.slr new 0 n,a.2++[(new,.arr true esz rows)]⟩else .ret ⟨.p (.sl esz rows),a.2⟩
  |none=>.fail
 | .load agg size x=>(ev x).bind λv=>gE agg size v
 | .store size x y=>(ev x).bind λa=>(ev y).bind λv=>iA size a v
 | .nilchk x=>(ev x).bind fun
  | .ptr b o=>.ret ⟨.ptr b o,[]⟩
  | .cp cs o=>.ret ⟨.cp cs o,[]⟩
  | .ep b e i o=>.ret ⟨.ep b e i o,[]⟩
  | .fn f u c=>.ret ⟨.fn f u c,[]⟩
  |_=>.fail
 | .bin op t x y=>(ev x).bind λa=>(ev y).bind λc=>val (nG op t a c)
 | .un op x=>(ev x).bind λa=>val (unP op a)
 | .conv k x=>(ev x).bind λa=>match k,a with
  | .int k,.p (.i _ n)=>.ret ⟨.p (.i k (k.wrap n)),[]⟩
  | .same,.p (.s l)=>.ret ⟨.p (.s l),[]⟩
  | .toStr,a=>(fG 1 a).bind λrows=>match uD rows with|some l=>.ret ⟨.p (.s l),[]⟩|none=>.fail
  | .toBytes own,.p (.s l)=>if own then .ret ⟨.slr new 0 l.length,[(new,.arr true 1 (l.map mF))]⟩else .ret ⟨.p (.sl 1 (l.map mF)),[]⟩
  |_,_=>.fail
 | .mkslice own esz bytes zero l c=>(ev l).bind λa=>(ev c).bind λd=>match a,d with
  | .p (.i _ n),.p (.i _ m)=>
   if 0<=n/\n<=m/\bytes*m<=281474976710656/\m<=281474976710656 then
    if own then .ret ⟨.slr new 0 n.toNat,[(new,.arr true esz (List.replicate n.toNat zero))]⟩
    else .ret ⟨.p (.sl esz (List.replicate n.toNat zero)),[]⟩
   else .fail
  |_,_=>.fail
 | .slice k x lo hi mx=>(ev x).bind λa=>(evo lo).bind λlo=>(evo hi).bind λhi=>(evo mx).bind λmx=>
  match a with
  | .slr b i n=>(fz (.slr b i n)).bind λy=>match y.1 with
   |[c]=>match kO k (.p c) lo hi mx with|some v=>.ret ⟨v,y.2⟩|none=>.fail
   |_=>.fail
  |a=>val (kO k a lo hi mx)
 | .faddr off x=>(ev x).bind λa=>val (LD off a)
 | .field agg off size x=>(ev x).bind λa=>val (rC agg off size a)
 | .iaddr esz x i=>(ev x).bind λa=>(ev i).bind λc=>mE esz a c
 | .aaddr len esz x i=>(ev x).bind λa=>(ev i).bind λc=>val (LK len esz a c)
 | .sidx x i=>(ev x).bind λa=>(ev i).bind λc=>match a,c with
  | .p (.s l),.p (.i _ n)=>if 0<=n then
    match l[n.toNat]? with
    |some u=>.ret ⟨.p (.i .u8 u.toNat),[]⟩
    |none=>.fail
   else .fail
  |_,_=>.fail
 | .aidx agg len esz x i=>(ev x).bind λa=>(ev i).bind λc=>match c with| .p (.i _ n)=>if 0<=n/\n<len then val (rC agg (n.toNat*esz) esz a)else .fail|_=>.fail
 | .extr x i=>(ev x).bind λa=>val (PR i a)
 | .call f args k=>(evs args).bind λvs=>hX F f vs k new
 | .callv g args k=>(ev g).bind fun
  | .fn f first caps=>(evs args).bind λvs=>hX F f (first++vs++caps) k new
  |_=>.fail
 | .len str x=>(ev x).bind λa=>val (KB str a)
 | .alen n=>.ret ⟨.p (.i .i64 n),[]⟩
 | .appn esz bytes _ y=>(ev y).bind λc=>(fG esz c).bind λrows=>
  if nJ rows.length bytes then .ret ⟨.slr new 0 rows.length,[(new,.arr true esz rows)]⟩else .fail
 | .app esz bytes _ x y=>(ev x).bind λa=>(ev y).bind λc=>iM esz bytes a c
 | .appz esz bytes zero x y=>(ev x).bind λa=>(ev y).bind λc=>match zrs esz zero c with|some h=>iM esz bytes a h|none=>.fail
 | .appc esz bytes _ x y=>(ev x).bind λa=>(ev y).bind λc=>IN esz bytes a c new
 | .mm mx x y=>(ev x).bind λa=>(ev y).bind λc=>val (mmP mx a c)
 | .mkfn f first caps=>(evs first).bind λa=>(evs caps).bind λc=>.ret ⟨.fn f a c,[]⟩
 | .newboxo zero os=>.ret ⟨.ptr (new+os.length) 0,gU os new++[(new+os.length,.box (lY os new (zero.map .p)))]⟩
 | .buildo zero parts os=>(kM parts).bind λl=>match pM l (lY os new (zero.map .p))with
  |some cs=>match kR true cs with|some v=>.ret ⟨v,gU os new⟩|none=>.fail
  |none=>.fail
 | .storen esz x=>(ev x).bind λa=>(iA 1 a (.slr new 0 0)).bind λe=>.ret ⟨e.val,(new,.arr true esz [])::e.ws⟩
 | .callo f keep args k=>(evs args).bind λvs=>(fC keep vs).bind λa=>fP F f a k new
def lB:AOp->Nat| .newbox _| .box _ _| .mkarr _ _| .appn _ _ _ _| .appc _ _ _ _ _=>1| .lits own _ _ _ _=>if own then 1 else 0| .mkslice own _ _ _ _ _=>if own then 1 else 0| .conv (.toBytes own) _=>if own then 1 else 0| .call _ _ k| .callv _ _ k| .callo _ _ _ k=>k| .newboxo _ os=>os.length+1| .buildo _ _ os=>os.length| .storen _ _=>1|_=>0
def tO(new:Nat):Nat->RM Unit
 |0=>.ret ()
 |k+1=>.blk new fun
  | .dead=>tO (new+1) k
  |_=>.fail
def opD(F:Orc)(op:AOp)(new:Nat):RM Eff:=(tO new (lB op)).bind λ_=>opR F op new
def bW(F:Orc)(i:bU)(new:Nat):RM Eff:=
 match i.g with
 |none=>opD F i.op new
 |some (g,e)=>.slot g fun
  | .p (.b x)=>if x=e then opD F i.op new else .ret ⟨gG,[]⟩
  | .tup []=>.ret ⟨gG,[]⟩
  |_=>.fail
def put(d:Option Nat)(e:Eff)(s:St):St:=
 match d with
 |some d=>⟨(d,e.val)::s.env,upd e.ws s.sto⟩
 |none=>⟨s.env,upd e.ws s.sto⟩
def fW(F:Orc):List bU->Nat->St->Option St|[],_,s=>some s|i::r,new,s=>match(bW F i new).run s with|some e=>fW F r (new+lB i.op) (put i.dst e s)|none=>none
def jP:List Loc->List Nat|[]=>[]| .blk b::r=>b::jP r|_::r=>jP r
abbrev Log:=List (List Nat×List Nat)
def jN(F:Orc):List bU->Nat->St->Log->Option (St×Log)|[],_,s,l=>some (s,l)|i::r,new,s,l=>match(bW F i new).run s with|some e=>jN F r (new+lB i.op) (put i.dst e s) (l++[(jP ((bW F i new).reads s),e.ws.map (·.1))])|none=>none
def fZ(a b:List Nat):Bool:=a.all λx=> !(b.contains x)
def GB(l:Log):List (Nat×Nat)->Bool
 |[]=>true
 |(i,j)::r=>(match l[i]?,l[j]? with
  |some a,some b=>fZ a.2 b.1&&fZ a.2 b.2&&fZ a.1 b.2
  |_,_=>false)&&GB l r
def news:List bU->Nat|[]=>0|i::r=>lB i.op+news r
def room(n:Nat)(sto:List Blk):List Blk:=if n=0 then sto else sto++List.replicate n .dead
def region(F:Orc)(pairs:List (Nat×Nat))(ins:List bU)(s:St):Option St:=
 match pairs with
 |[]=>fW F ins s.sto.length ⟨s.env,room (news ins) s.sto⟩
 |_::_=>match jN F ins s.sto.length ⟨s.env,room (news ins) s.sto⟩ []with|some (s',l)=>if GB l pairs then some s' else none|none=>none
def restr:List Nat->List (Nat×AV)->List (Nat×AV)|[],_=>[]|k::r,env=>match lk k env with|some v=>(k,v)::restr r env|none=>restr r env
def eI(b:Nat):List Nat->Nat->Option Nat|[],_=>none|x::r,k=>if x=b then some k else eI b r (k+1)
def fin(m:Nat)(ids:List Nat)(sto:List Blk):AV->Option AV
 | .p c=>some (.p c)
 | .data cs=>some (.data cs)
 | .cp cs o=>some (.cp cs o)
 | .unk=>some .unk
 | .ptr b off=>if b<m then some (.ptr b off)else(eI b ids m).map λk=>.ptr k off
 | .slr b i n=>if b<m then some (.slr b i n)else
  match eI b ids m with
  |some k=>some (.slr k i n)
  |none=>match sto[b]? with|some (.arr _ esz rows)=>if i+n=rows.length then some (.p (.sl esz (rows.drop i)))else none|_=>none
 | .ep b e i off=>if b<m then some (.ep b e i off)else(eI b ids m).map λk=>.ep k e i off
 | .fn f first caps=>match finL m ids sto first,finL m ids sto caps with|some a,some c=>some (.fn f a c)|_,_=>none
 | .agg cs=>match finL m ids sto cs with
  |some l=>match unp l with|some q=>some (.data q)|none=>some (.agg l)
  |none=>none
 | .tup cs=>match finL m ids sto cs with|some l=>some (.tup l)|none=>none
where
 finL (m:Nat) (ids:List Nat) (sto:List Blk):List AV->Option (List AV)
  |[]=>some []
  |x::r=>match fin m ids sto x,finL m ids sto r with
   |some y,some l=>some (y::l)
   |_,_=>none
def fU(m:Nat)(ids:List Nat)(sto:List Blk):Blk->Option Blk
 | .dead=>some .dead
 | .box cs=>match fin.finL m ids sto cs with|some l=>some (.box l)|none=>none
 | .arr w esz rows=>some (.arr w esz rows)
def qS(m:Nat)(ids:List Nat)(sto:List Blk):List Blk->Option (List Blk)|[]=>some []|x::r=>match fU m ids sto x,qS m ids sto r with|some y,some l=>some (y::l)|_,_=>none
def vJ(m:Nat)(sto:List Blk):List (Nat×AV)->Option (List (Nat×AV))|[]=>some []|(k,x)::r=>match fin m [] sto x,vJ m sto r with|some y,some l=>some ((k,y)::l)|_,_=>none
def clean(n:Nat)(live:List Nat)(s:St):Option St:=
 if s.sto.length=n then some ⟨restr live s.env,s.sto⟩
 else match vJ n s.sto (restr live s.env),qS n [] s.sto (s.sto.take n)with|some e,some l=>some ⟨e,l⟩|_,_=>none
def nF:List vK->RM (List AV)|[]=>.ret []| .tmp t::r=>(RM.slot t .ret).bind λv=>(nF r).bind λl=>.ret (v::l)| .cell t agg size::r=>(RM.slot t .ret).bind λv=>(gE agg size v).bind λe=>(nF r).bind λl=>.ret (e.val::l)
def jQ(m:Nat)(fresh:Bool)(sto:List Blk):List Ent->List Nat
 |[]=>[]
 | .whole b::r=>if b<m then jQ m fresh sto r else
  match sto[b]? with
  |some (.box _)=>b::jQ m fresh sto r
  |some (.arr _ _ _)=>if fresh then b::jQ m fresh sto r else jQ m fresh sto r
  |_=>jQ m fresh sto r
 |_::r=>jQ m fresh sto r
def qU(sto:List Blk):List Ent->List Ent->List Ent
 |[],acc=>acc
 | .whole b::r,acc=>match sto[b]? with|some (.box cs)=>qU sto r (cJ.entsOfL cs acc)|_=>qU sto r acc
 |_::r,acc=>qU sto r acc
def wA(sto:List Blk):List Nat->Option (List Blk)|[]=>some []|b::r=>match sto[b]?,wA sto r with|some x,some l=>some (x::l)|_,_=>none
def one:List AV->AV|[x]=>x|l=>.tup l
def gX(fn:AFn)(m:Nat)(s:St):Option Res:=
 match(nF fn.res).run s with
 |none=>none
 |some vs=>
  if s.sto.length=m then some (one vs,s.sto)
  else
   match jQ m fn.fresh s.sto (qU s.sto (cJ.entsOfL vs []) (cJ.entsOfL vs []))with
   |ids=>if jL ids then
    match fin.finL m ids s.sto vs,qS m ids s.sto (s.sto.take m),wA s.sto ids with
    |some ws,some l,some q=>match qS m ids s.sto q with|some q'=>some (one ws,l++q')|none=>none
    |_,_,_=>none
    else none
def jE:Nat->List AV->List (Nat×AV)|_,[]=>[]|k,x::r=>(k,x)::jE (k+1) r
structure oV where
 np:Nat
 nt:Nat
 p0:bX
 live:List Nat
 pre:bX
 c:Opd
 a:bX
 b:bX
 rest:bX
 res:List vK
 fresh:Bool
def oV.af(k:oV):AFn:=⟨k.np,k.nt,.seq k.p0 (.br k.live k.pre k.c k.a k.b k.rest),k.res,k.fresh⟩
def yH(f:AFn)(m:Nat)(o:Option Out):Option Res:=
 match o with
 |some (.normal,s)=>gX f m s
 |some (.ret,s)=>gX f m s
 |_=>none
open Classical in
noncomputable def LB(a b:Option Res):Option Res:=
 match a,b with
 |some r,some r'=>if r=r' then some r else none
 |_,_=>none
def thn(o:Option Out)(k:St->Option Out):Option Out:=
 match o with
 |some (.normal,s)=>k s
 |o=>o
noncomputable def FD(R:bX->St->Option Out)(k:oV)(args:List AV)(blks:List Blk):Option Res:=
 match R k.p0 ⟨jE 0 args,blks⟩with
 |some (.normal,s0)=>match R k.pre s0 with
  |some (.normal,s1)=>match(ev k.c).run s1 with|some (.p (.b x))=>if x=true then yH k.af blks.length (thn (R k.a s1) λs=>R k.rest s)else yH k.af blks.length (thn (R k.b s1) λs=>R k.rest s)|some .unk=>LB (yH k.af blks.length (thn (R k.a s1) λs=>R k.rest s)) (yH k.af blks.length (thn (R k.b s1) λs=>R k.rest s))|_=>none
  |_=>none
 |_=>none
inductive Entry where|fn (f:AFn)|prim (g:List AV->List Blk->Option Res)|fork (k:oV)
abbrev dK:=FuncId->Option Entry
noncomputable def qW(T:dK)(R:bX->St->Option Out)(f:FuncId)(args:List AV)(blks:List Blk):Option Res:=
 match T f with
 |none=>none
 |some (.prim g)=>g args blks
 |some (.fork k)=>if args.length=k.np then FD R k args blks else none
 |some (.fn fn)=>
  if args.length=fn.np then
   match R fn.body ⟨jE 0 args,blks⟩with
   |some (.normal,s)=>gX fn blks.length s
   |some (.ret,s)=>gX fn blks.length s
   |_=>none
  else none
open Classical in
noncomputable def same(a b:Option Out):Option Out:=
 match a,b with
 |some r,some r'=>if r=r' then some r else none
 |_,_=>none
def mD(n:Nat)(live:List Nat)(o:Option Out):Option Out:=
 match o with
 |some (e,s)=>match clean n live s with|some s'=>some (e,s')|none=>none
 |none=>none
noncomputable def step(T:dK)(R:bX->St->Option Out)(c:bX)(s:St):Option Out:=
 match c with
 | .skip=>some (.normal,s)
 | .bad=>none
 | .reg _ pairs ins=>match region (qW T R) pairs ins s with|some s'=>some (.normal,s')|none=>none
 | .seq a b=>match R a s with|some (.normal,s')=>R b s'|o=>o
 | .cond c a b=>match(ev c).run s with|some (.p (.b x))=>if x=true then R a s else R b s|some .unk=>same (R a s) (R b s)|_=>none
 | .block id c=>match R c s with|some (.exit k,s')=>if k=id then some (.normal,s')else some (.exit k,s')|o=>o
 | .loop live c=>match clean s.sto.length live s with|some s'=>R (.lp s.sto.length live c) s'|none=>none
 | .lp n live c=>match R c s with
  |some (.normal,s')=>(match clean n live s' with
   |some e=>R (.lp n live c) e
   |none=>none)
  |o=>o
 | .scope c=>R c s
 | .exit id=>some (.exit id,s)
 | .ret=>some (.ret,s)
 | .keep live c=>R c ⟨restr live s.env,s.sto⟩
 | .tidy live c=>mD s.sto.length live (R c s)
 | .br live pre c a b rest=>match R pre s with
  |some (.normal,s1)=>(match(ev c).run s1 with
   |some (.p (.b x))=>if x=true then thn (R a s1) λs=>R rest s else thn (R b s1) λs=>R rest s
   |some .unk=>same (mD s1.sto.length live (thn (R a s1) λs=>R rest s)) (mD s1.sto.length live (thn (R b s1) λs=>R rest s))
   |_=>none)
  |_=>none
end Go.Am
end
section
namespace Go.Am
def fB{α:Type}(a b:Option α):Prop:=a=none\/a=b
theorem cN{α:Type}(a:Option α):fB a a:=.inr rfl
theorem run_bind{α β:Type}(m:RM α)(f:α->RM β)(s:St):(m.bind f).run s=(m.run s).bind λa=>(f a).run s:=by
 induction m with
 |ret a=>rfl
 |slot n k ih=>grind [RM.bind,RM.run]
 |blk b k ih=>grind [RM.bind,RM.run]
 |fail=>rfl
theorem mG{α β:Type}{m:RM α}{f f':α->RM β}{s:St}(h: ∀a,fB ((f a).run s) ((f' a).run s)):fB ((m.bind f).run s) ((m.bind f').run s):=by
 rw[run_bind,run_bind];cases m.run s with
 |none=>exact .inl rfl
 |some a=>exact h a
variable {F F':Orc} (h: ∀f a b,fB (F f a b) (F' f a b))
include h in
theorem tx(f:FuncId)(args:List AV)(k new:Nat)(s:St):fB ((hX F f args k new).run s) ((hX F' f args k new).run s):=by
 unfold hX;refine mG λa=>mG λg=>mG λes=>?_;split;split;simp[cN];refine mG λblks=>?_;rcases h f ‹_› blks with e|e;rw[e];exact .inl rfl;grind [cN];simp[cN]
include h in
theorem K7(f:FuncId)(a:List AV×List (Nat×Blk))(k new:Nat)(s:St):fB ((fP F f a k new).run s) ((fP F' f a k new).run s):=by
 unfold fP;refine mG λg=>mG λes=>?_;split;split;simp[cN];refine mG λblks=>?_;rcases h f ‹_› blks with e|e;rw[e];exact .inl rfl;grind [cN];simp[cN]
include h in
theorem JF9(op:AOp)(new:Nat)(s:St):fB ((opR F op new).run s) ((opR F' op new).run s):=by
 cases op<;>try exact cN _
 case call f args k=>exact mG λvs=>tx h ..
 case callo f keep args k=>exact mG λvs=>mG λa=>K7 h ..
 case callv g args k=>
  refine mG λg=>?_;grind [cN,mG,tx]
include h in
theorem JFb(op:AOp)(new:Nat)(s:St):fB ((opD F op new).run s) ((opD F' op new).run s):=
 mG λ_=>JF9 h ..
include h in
theorem tw(i:bU)(new:Nat)(s:St):fB ((bW F i new).run s) ((bW F' i new).run s):=by
 unfold bW;split
 all_goals grind [JFb,RM.run,cN]
theorem xI{α β:Type}(m:RM α)(f:α->RM β)(s:St):(m.bind f).reads s=m.reads s++((m.run s).map λa=>(f a).reads s).getD []:=by
 induction m with
 |ret a=>simp[RM.bind,RM.reads,RM.run]
 |slot n k ih=>grind [RM.bind,RM.reads,RM.run]
 |blk b k ih=>grind [RM.bind,RM.reads,RM.run]
 |fail=>simp[RM.bind,RM.reads,RM.run]
theorem mN{α β:Type}{m:RM α}{f f':α->RM β}{s:St}(h: ∀a,(f a).run s=none\/(f a).reads s=(f' a).reads s):
  ((m.bind f).run s)=none\/(m.bind f).reads s=(m.bind f').reads s:=by
 rw[run_bind,xI,xI];cases m.run s<;>simp_all
include h in
theorem uf(f:FuncId)(args:List AV)(k new:Nat)(s:St):
  (hX F f args k new).run s=none\/(hX F f args k new).reads s=(hX F' f args k new).reads s:=by
 unfold hX;refine mN λa=>mN λg=>mN λes=>?_;split;split;exact .inr rfl;refine mN λblks=>?_;rcases h f ‹_› blks with e|e;rw[e];exact .inl rfl;simp_all;simp_all
include h in
theorem Kz(f:FuncId)(a:List AV×List (Nat×Blk))(k new:Nat)(s:St):
  (fP F f a k new).run s=none\/(fP F f a k new).reads s=(fP F' f a k new).reads s:=by
 unfold fP;refine mN λg=>mN λes=>?_;split;split;exact .inr rfl;refine mN λblks=>?_;rcases h f ‹_› blks with e|e;rw[e];exact .inl rfl;simp_all;simp_all
include h in
theorem JGo(op:AOp)(new:Nat)(s:St):(opR F op new).run s=none\/(opR F op new).reads s=(opR F' op new).reads s:=by
 cases op<;>try exact .inr rfl
 case call f args k=>exact mN λvs=>uf h ..
 case callo f keep args k=>exact mN λvs=>mN λa=>Kz h ..
 case callv g args k=>
  refine mN λg=>?_;grind [mN,uf]
include h in
theorem JFI(op:AOp)(new:Nat)(s:St):(opD F op new).run s=none\/(opD F op new).reads s=(opD F' op new).reads s:=
 mN λ_=>JGo h ..
include h in
theorem JE4(i:bU)(new:Nat)(s:St):(bW F i new).run s=none\/(bW F i new).reads s=(bW F' i new).reads s:=by
 unfold bW;split
 all_goals grind [JFI,RM.run,RM.reads]
include h in
theorem Ip(ins:List bU): ∀new s,fB (fW F ins new s) (fW F' ins new s):=by
 induction ins with
 |nil=>exact λ_ _=>cN _
 |cons i r ih=>
  intro new s;simp only[fW];rcases tw h i new s with e|e;rw[e];exact .inl rfl;grind [cN]
include h in
theorem Iq(ins:List bU): ∀new s l,fB (jN F ins new s l) (jN F' ins new s l):=by
 induction ins with
 |nil=>exact λ_ _ _=>cN _
 |cons i r ih=>
  intro new s l;simp only[jN];rcases tw h i new s with e|e;rw[e];exact .inl rfl;grind [JE4,cN]
include h in
theorem Mn(pairs:List (Nat×Nat))(ins:List bU)(s:St):fB (region F pairs ins s) (region F' pairs ins s):=by
 unfold region;split;grind [Ip];rcases Iq h ins s.sto.length ⟨s.env,Go.Am.room (news ins) s.sto⟩ []with e|e;rw[e];exact .inl rfl;grind [cN]
variable {T:dK} {R R':bX->St->Option Out} (hR: ∀c s,fB (R c s) (R' c s))
include hR in
theorem JBj(k:oV)(args:List AV)(blks:List Blk):fB (FD R k args blks) (FD R' k args blks):=by
 have ht: ∀x s,fB (yH k.af blks.length (thn (R x s) λs=>R k.rest s)) (yH k.af blks.length (thn (R' x s) λs=>R' k.rest s)):=by
  intro x s;rcases hR x s with e|e;rw[e];exact .inl rfl;rw[e];cases hx:R' x s with
  |none=>exact .inl rfl
  |some o=>
   obtain⟨q,s'⟩:=o;cases q with
   |normal=>
    simp only[thn];rcases hR k.rest s' with e'|e';rw[e'];exact .inl rfl;grind [cN]
   |_=>exact cN _
 unfold FD;rcases hR k.p0 ⟨jE 0 args,blks⟩with e|e;rw[e];exact .inl rfl;rw[e];split;rename_i s0 _;rcases hR k.pre s0 with e|e;rw[e];exact .inl rfl;rw[e];split;split;grind;rename_i s1 _ _ _;rcases ht k.a s1 with e|e;rw[e];exact .inl rfl;rcases ht k.b s1 with e'|e';rw[e'];unfold LB;exact .inl (by simp_all);grind [cN];simp[cN];simp[cN];simp[cN]
include hR in
theorem JAp(f:FuncId)(a:List AV)(b:List Blk):fB (qW T R f a b) (qW T R' f a b):=by
 unfold qW;split;simp[cN];simp[cN];grind [JBj,cN];split;rcases hR ‹AFn›.body ⟨jE 0 a,b⟩with e|e;rw[e];exact .inl rfl;grind [cN];simp[cN]
include hR in
theorem g8(c:bX)(s:St):fB (step T R c s) (step T R' c s):=by
 cases c with
 |bad=>exact .inl rfl
 |skip=>exact cN _
 |reg d pairs ins=>
  simp only[step];rcases Mn (JAp (T:=T) hR) pairs ins s with e|e;rw[e];exact .inl rfl;grind [cN]
 |seq a b=>
  simp only[step];rcases hR a s with e|e;rw[e];exact .inl rfl;grind
 |cond c a b=>
  simp only[step];split;grind;rcases hR a s with e|e;rw[e];exact .inl rfl;rcases hR b s with e'|e';rw[e'];unfold same;exact .inl (by simp_all);grind [cN];simp[cN]
 |block id c=>
  simp only[step];rcases hR c s with e|e;rw[e];exact .inl rfl;grind [cN]
 |loop live c=>
  grind [step,cN]
 |lp n live c=>
  simp only[step];rcases hR c s with e|e;rw[e];exact .inl rfl;grind [cN]
 |scope c=>exact hR _ _
 |exit id=>exact cN _
 |ret=>exact cN _
 |keep live c=>exact hR _ _
 |tidy live c=>
  simp only[step];rcases hR c s with e|e;rw[e];exact .inl rfl;grind [cN]
 |br live pre c a b rest=>
  have ht: ∀x s,fB (thn (R x s) λs=>R rest s) (thn (R' x s) λs=>R' rest s):=(by intro x s;rcases hR x s with e|e;rw[e];exact .inl rfl;rw[e];unfold thn;grind);simp only[step];rcases hR pre s with e|e;rw[e];exact .inl rfl;rw[e];split;split;grind;rename_i s1 _ _ _;rcases ht a s1 with e|e;rw[e];exact .inl rfl;rcases ht b s1 with e'|e';rw[e'];unfold same;exact .inl (by simp[mD]);grind [cN];simp[cN];simp[cN]
def Bt(T:dK)(M:bX->St->Out->Prop):Prop:= ∀R:bX->St->Option Out,(∀c s r,R c s=some r->M c s r)-> ∀c s r,step T R c s=some r->M c s r
def Den(T:dK)(c:bX)(s:St)(r:Out):Prop:= ∀M,Bt T M->M c s r
theorem ee(T:dK):Bt T (Den T):=λR hR c s r h M e=>e R (λc s r h=>hR c s r h M e) c s r h
theorem Ee{T:dK}{c:bX}{s:St}{r:Out}(h:Den T c s r): ∃R:bX->St->Option Out,(∀c s r,R c s=some r->Den T c s r)/\step T R c s=some r:=
 h (λc s r=> ∃R:bX->St->Option Out,(∀c s r,R c s=some r->Den T c s r)/\step T R c s=some r) λR hR c s r e=>
  ⟨R,λc s r h=>let⟨R',h1,h2⟩:=hR c s r h;ee T R' h1 c s r h2,e⟩
theorem JKa{T:dK}{c:bX}{s:St}{r:Out}(h:Den T c s r): ∀r',Den T c s r'->r'=r:=by
 have j:Den T c s r/\ ∀r',Den T c s r'->r'=r:=h (λc s r=>Den T c s r/\ ∀r',Den T c s r'->r'=r) λR hR c s r k=>by
  refine⟨ee T R (λc s r h=>(hR c s r h).1) c s r k,λr' n=>?_⟩;obtain⟨R',o,hs'⟩:=Ee n;have b1: ∀c s,fB (R c s) ((R c s).or (R' c s)):=λc s=>by cases hc:R c s<;>simp[fB]
  have b2: ∀c s,fB (R' c s) ((R c s).or (R' c s)):=λc s=>by
   cases hc:R c s with
   |none=>simp[fB]
   |some a=>cases hc':R' c s<;>grind [fB]
  have e:=g8 (T:=T) b1 c s;have g:=g8 (T:=T) b2 c s;rw[k]at e;rw[hs']at g;rcases e with e|e;cases e
  ·rcases g with g|g
   all_goals grind
 exact j.2
open Classical in
noncomputable def X(T:dK)(c:bX)(s:St):Option Out:=if h: ∃r,Den T c s r then some h.choose else none
theorem LH{T:dK}{c:bX}{s:St}{r:Out}:X T c s=some r↔Den T c s r:=by
 unfold X;constructor
 ·intro h;split at h
  all_goals grind
 intro h;rw[dif_pos ⟨r,h⟩];grind [JKa]
theorem JOA(T:dK)(motive:bX->St->Out->Prop)
  (h: ∀R:bX->St->Option Out,(∀c s r,R c s=some r->motive c s r)-> ∀c s r,step T R c s=some r->motive c s r): ∀c s r,X T c s=some r->motive c s r:=
 λc s r e=>LH.1 e motive h
theorem lZ(T:dK)(c:bX)(s:St):X T c s=step T (X T) c s:=by
 have one: ∀r,step T (X T) c s=some r->X T c s=some r:=λr h=>LH.2 (ee T (X T) (λc s r h=>LH.1 h) c s r h);cases hs:step T (X T) c s with
 |some r=>exact one r hs
 |none=>
  cases hx:X T c s with
  |none=>rfl
  |some r=>
   obtain⟨R,hR,h⟩:=Ee (LH.1 hx);have:=g8 (T:=T) (R:=R) (R':=X T) (λc s=>by
    cases hc:R c s with
    |none=>exact .inl rfl
    |some a=>right;grind [LH]) c s
   rw[h,hs]at this;rcases this with e|e<;>cases e
noncomputable def AF(T:dK):Orc:=qW T (X T)
end Go.Am
end
section
namespace Go.Am
structure Gh where
 μ:Nat->Option (Nat×Nat)
 C:Nat->Nat->Prop
def cellAt(w:World)(r o:Nat):Option Value:=
 match w.heap[r]? with
 |some (.cells c _ _)=>c[o]?
 |_=>none
theorem rM(w:World)(r o:Nat):w.cell? ⟨r,o,none⟩=cellAt w r o:=by
 grind [World.cell?,cellAt]
theorem kS{w:World}{r o:Nat}{c e fz}(h:w.heap[r]?=some (.cells c e fz)):cellAt w r o=c[o]?:=by
 grind [cellAt]
inductive J09(w:World)(C:Nat->Nat->Prop):PV->Value->Prop where
 |b (x:Bool):J09 w C (.b x) (.bool x)
 |i (k:IntKind) (n:Int):J09 w C (.i k n) (.int k n)
 |s (l:List UInt8):J09 w C (.s l) (.string ⟨l.toArray⟩)
 |np:J09 w C .np (.pointer none)
 |nf:J09 w C .nf .nilFunc
 |sl0 (esz:Nat) (a:Option Addr) (cap:Nat):J09 w C (.sl esz []) (.slice a 0 cap)
 |sl (esz:Nat) (rows:List (List PV)) (r o cap:Nat) (vals:Nat->Nat->Value):
  rows.length<=cap->(∀row∈rows,row.length=esz)->
  (∀(i j:Nat) row x,rows[i]?=some row->row[j]?=some x->C r (o+i*esz+j)/\cellAt w r (o+i*esz+j)=some (vals i j))->
  (∀(i j:Nat) row x,rows[i]?=some row->row[j]?=some x->J09 w C x (vals i j))->
  J09 w C (.sl esz rows) (.slice (some ⟨r,o,none⟩) rows.length cap)
 |slc (esz:Nat) (rows:List (List PV)) (a:Option Addr):J09 w C (.sl esz rows) (.slice a rows.length rows.length)->J09 w C (.slc esz rows) (.slice a rows.length rows.length)
structure Sn where
 σ:List Blk
 g:Gh
 w:World
def PP(σ:List Blk)(b:Nat):Prop:= ∃cs,σ[b]?=some (.box cs)
def Z0(s:Sn)(b esz i n:Nat)(v:Value):Prop:=(s.g.μ b=none/\i=0/\n=0/\v=.slice none 0 0)\/ ∃r cap c e fz,s.g.μ b=some (r,0)/\v=.slice (some ⟨r,i*esz,none⟩) n cap/\n<=cap/\s.w.heap[r]?=some (.cells c e fz)/\(i+cap)*esz<=c.size
inductive JH(s:Sn):AV->Value->Prop where
 |p (c v):J09 s.w s.g.C c v->JH s (.p c) v
 |data (cs:List PV) (vs:Array Value):cs.length=vs.size->(∀(i:Nat) x v,cs[i]?=some x->vs[i]?=some v->J09 s.w s.g.C x v)->JH s (.data cs) (.agg vs)
 |agg (cs:List AV) (vs:Array Value):cs.length=vs.size->(∀(i:Nat) v,vs[i]?=some v->v.oneCell'=true)->(∀(i:Nat) x v,cs[i]?=some x->vs[i]?=some v->JH s x v)->JH s (.agg cs) (.agg vs)
 |tup (cs:List AV) (vs:Array Value):cs.length=vs.size->(∀(i:Nat) x v,cs[i]?=some x->vs[i]?=some v->JH s x v)->JH s (.tup cs) (.tuple vs)
 |ptr (b off r o):s.g.μ b=some (r,o)->PP s.σ b->JH s (.ptr b off) (.pointer (some ⟨r,o+off,none⟩))
 |cp (cs:List PV) (off r o:Nat) (vals:Nat->Value):
  (∀(j:Nat) x,cs[j]?=some x->s.g.C r (o+j)/\cellAt s.w r (o+j)=some (vals j))->
  (∀(j:Nat) x,cs[j]?=some x->J09 s.w s.g.C x (vals j))->JH s (.cp cs off) (.pointer (some ⟨r,o+off,none⟩))
 |slr (b i n v wm esz rows):(∃a cap,v=.slice a n cap/\(n=0\/a≠none))->s.σ[b]?=some (.arr wm esz rows)->i+n<=rows.length->(i+n=rows.length->Z0 s b esz i n v)->JH s (.slr b i n) v
 |ep (b ext i off v wm esz rows):(∃r o,v=.pointer (some ⟨r,o,none⟩))->s.σ[b]?=some (.arr wm esz rows)->ext<=rows.length->
  (ext=rows.length->i<ext-> ∃r,s.g.μ b=some (r,0)/\v=.pointer (some ⟨r,i*esz+off,none⟩))->JH s (.ep b ext i off) v
 |fn (f:FuncId) (first caps:List AV) (fs cs:Array Value):first.length=fs.size->caps.length=cs.size->
  (∀(i:Nat) x v,first[i]?=some x->fs[i]?=some v->JH s x v)->(∀(i:Nat) x v,caps[i]?=some x->cs[i]?=some v->JH s x v)->
  JH s (.fn f first caps) (.func (.func f) fs cs)
 |unk (x:Bool):JH s .unk (.bool x)
def Wr1(s:Sn)(b r o:Nat):Prop:=
 match s.σ[b]? with
 |some (.box cs)=> ∃e,s.g.μ b=some (r,e)/\e<=o/\o<e+cs.length
 |some (.arr true _ _)=> ∃e,s.g.μ b=some (r,e)
 |some (.arr false esz rows)=> ∃e,s.g.μ b=some (r,e)/\rows.length*esz<=o
 |_=>False
def Wr(s:Sn)(r o:Nat):Prop:= ∃b,Wr1 s b r o
def EJ(fz:Nat×Nat)(a b:Nat):Prop:= ∀o,a<=o->o<b-> ¬(fz.1<=o/\o<fz.2)
def tU(esz:Nat)(fz:Nat×Nat)(n:Nat):Prop:=EJ fz 0 n/\(esz≠1-> ¬(fz.1<=n/\n<fz.2))
theorem tU.zero(esz n:Nat):tU esz (0,0) n:=⟨λ_ _ _ h=>by simp at h,λ_ h=>by simp at h⟩
def PG(s:Sn)(b:Nat)(cs:List AV):Prop:= ∃r o c e fz,s.g.μ b=some (r,o)/\s.w.heap[r]?=some (.cells c e fz)/\o+cs.length<=c.size/\(∀(i:Nat) x,cs[i]?=some x-> ∃v,c[o+i]?=some v/\JH s x v/\v.oneCell'=true)/\EJ fz o (o+cs.length)
def OU(s:Sn)(b:Nat)(wm:Bool)(esz:Nat)(rows:List (List PV)):Prop:=(s.g.μ b=none/\rows=[])\/ ∃r c e fz,s.g.μ b=some (r,0)/\s.w.heap[r]?=some (.cells c e fz)/\(∀row∈rows,row.length=esz)/\rows.length*esz<=c.size/\(∀(i j:Nat) row x,rows[i]?=some row->row[j]?=some x->(∃v,c[i*esz+j]?=some v/\J09 s.w s.g.C x v)/\(wm=false->s.g.C r (i*esz+j)))/\tU esz fz c.size
structure Inv(s:Sn):Prop where
 box: ∀b cs,s.σ[b]?=some (.box cs)->PG s b cs
 arr: ∀b wm esz rows,s.σ[b]?=some (.arr wm esz rows)->OU s b wm esz rows
 apart: ∀b1 b2 r o,Wr1 s b1 r o->Wr1 s b2 r o->b1=b2
 const: ∀r o,s.g.C r o->r<s.w.heap.size/\ ∀b,¬Wr1 s b r o
def nE(W:Nat->Nat->Prop)(w0 w:World):Prop:=w0.heap.size<=w.heap.size/\(∀(r:Nat) c e fz,w0.heap[r]?=some (.cells c e fz)-> ∃c',w.heap[r]?=some (.cells c' e fz)/\c'.size=c.size/\ ∀o,¬W r o->c'[o]?=c[o]?)/\(∀(r:Nat) x,w0.heap[r]?=some x->(∀c e fz,x≠.cells c e fz)->w.heap[r]?=some x)/\w.os=w0.os/\w.output=w0.output
structure bB(s0 s:Sn):Prop where
 keep:nE (Wr s0) s0.w s.w
 cmono: ∀r o,s0.g.C r o->s.g.C r o
 cnew: ∀r o,s.g.C r o->s0.g.C r o\/Wr s0 r o\/s0.w.heap.size<=r
 wnew: ∀r o,Wr s r o->Wr s0 r o\/s0.w.heap.size<=r
 len:s0.σ.length<=s.σ.length
 box: ∀b cs,s0.σ[b]?=some (.box cs)->(∃cs',s.σ[b]?=some (.box cs')/\cs'.length=cs.length)/\s.g.μ b=s0.g.μ b
 arr: ∀b wm esz rows,s0.σ[b]?=some (.arr wm esz rows)-> ∃wm' rows',s.σ[b]?=some (.arr wm' esz rows')/\(wm'=true->wm=true)/\
  rows.length<=rows'.length/\(rows'.length=rows.length->s.g.μ b=s0.g.μ b)
theorem nE.refl(W w):nE W w w:=⟨zQ0 _,λ_ c _ _ h=>⟨c,h,rfl,λ_ _=>rfl⟩,λ_ _ h _=>h,rfl,rfl⟩
theorem nE.mono{W W':Nat->Nat->Prop}{w0 w}(h:nE W w0 w)(hw: ∀r o,W r o->W' r o):nE W' w0 w:=
 ⟨h.1,λr c e fz j=>let⟨c',a,b,d⟩:=h.2.1 r c e fz j;⟨c',a,b,λo g=>d o λx=>g (hw _ _ x)⟩,h.2.2⟩
theorem nE.cell{W w0 w}(h:nE W w0 w){r o v}(hn: ¬W r o)(hv:cellAt w0 r o=some v):cellAt w r o=some v:=by
 unfold cellAt at hv;split at hv;rename_i c e fz g;obtain⟨c',h1,_,j⟩:=h.2.1 r c e fz g;grind [kS];cases hv
theorem bB.refl(s:Sn):bB s s:=
 ⟨.refl _ _,λ_ _ h=>h,λ_ _ h=>.inl h,λ_ _ h=>.inl h,zQ0 _,λ_ cs h=>⟨⟨cs,h,rfl⟩,rfl⟩,
  λ_ wm _ rows h=>⟨wm,rows,h,id,zQ0 _,λ_=>rfl⟩⟩
theorem AP{w:World}{r:Nat}{x:Obj}(h:w.heap[r]?=some x):r<w.heap.size:=by
 grind
theorem bB.trans{s0 s1 C:Sn}(h:bB s0 s1)(g:bB s1 C):bB s0 C where
 keep:=by
  refine⟨zQ1 h.keep.1 g.keep.1,λr c e fz A=>?_,λr x A E=>g.keep.2.2.1 r x (h.keep.2.2.1 r x A E) E,g.keep.2.2.2.1.trans h.keep.2.2.2.1,g.keep.2.2.2.2.trans h.keep.2.2.2.2⟩;obtain⟨k,n,b1,z⟩:=h.keep.2.1 r c e fz A;obtain⟨q,w,b2,y⟩:=g.keep.2.1 r k e fz n;refine⟨q,w,b2.trans b1,λo H=>(y o λj=>?_).trans (z o H)⟩;rcases h.wnew r o j with j|j
  all_goals simp_all
 cmono r o hc:=g.cmono r o (h.cmono r o hc)
 cnew r o hc:=by
  rcases g.cnew r o hc with hc|j|v;exact h.cnew r o hc
  ·rcases h.wnew r o j with j|v
   all_goals simp_all
  exact .inr (.inr (zQ1 h.keep.1 v))
 wnew r o j:=by
  rcases g.wnew r o j with j|v;exact h.wnew r o j;exact .inr (zQ1 h.keep.1 v)
 len:=zQ1 h.len g.len
 box b cs hb:=by obtain⟨⟨k,n,I⟩,K⟩:=h.box b cs hb;obtain⟨⟨q,w,L⟩,J⟩:=g.box b k n;simp_all
 arr b wm esz rows hb:=by obtain⟨B,F,n,b1,k,z⟩:=h.arr b wm esz rows hb;obtain⟨D,G,w,b2,q,y⟩:=g.arr b B esz F n;exact⟨D,G,w,λe=>b1 (b2 e),zQ1 k q,λe=>(y (by omega)).trans (z (by omega))⟩
theorem Inv.cfix{s0 s:Sn}(hi:Inv s0)(t:bB s0 s){r o v}(hc:s0.g.C r o)(hv:cellAt s0.w r o=some v):cellAt s.w r o=some v:=
 t.keep.cell (fun⟨b,e⟩=>(hi.const r o hc).2 b e) hv
theorem J09.mono{s0 s:Sn}(hi:Inv s0)(t:bB s0 s){x v}(h:J09 s0.w s0.g.C x v):J09 s.w s.g.C x v:=by
 induction h with
 |b x=>exact .b x
 |i k n=>exact .i k n
 |s l=>exact .s l
 |np=>exact .np
 |nf=>exact .nf
 |sl0 esz a cap=>exact .sl0 esz a cap
 |sl esz rows r o cap vals h1 h2 q _ ih=>exact .sl esz rows r o cap vals h1 h2 (λi j row x e y=>⟨t.cmono _ _ (q i j row x e y).1,hi.cfix t (q i j row x e y).1 (q i j row x e y).2⟩) ih
 |slc esz rows a _ ih=>exact .slc esz rows a ih
theorem PP.mono{s0 s:Sn}(t:bB s0 s){b}(h:PP s0.σ b):PP s.σ b:=by obtain⟨cs,h⟩:=h;obtain⟨⟨cs',e,_⟩,_⟩:=t.box b cs h;exact⟨cs',e⟩
theorem JH.mono{s0 s:Sn}(hi:Inv s0)(t:bB s0 s){x v}(h:JH s0 x v):JH s x v:=by
 induction h with
 |p c v h=>exact .p c v (h.mono hi t)
 |data cs vs h1 h2=>exact .data cs vs h1 λi x v g q=>(h2 i x v g q).mono hi t
 |agg cs vs h1 h2 _ ih=>exact .agg cs vs h1 h2 ih
 |tup cs vs h1 _ ih=>exact .tup cs vs h1 ih
 |ptr b off r o h1 h2=>obtain⟨cs,k⟩:=h2;exact .ptr b off r o ((t.box b cs k).2.trans h1) (.mono t ⟨cs,k⟩)
 |cp cs off r o vals h1 h2=>exact .cp cs off r o vals (λj x g=>⟨t.cmono _ _ (h1 j x g).1,hi.cfix t (h1 j x g).1 (h1 j x g).2⟩) λj x g=>(h2 j x g).mono hi t
 |slr b i n v wm esz rows y h1 h2 k=>
  obtain⟨wm',rows',a,_,c,d⟩:=t.arr b wm esz rows h1;refine .slr b i n v wm' esz rows' y a (zQ1 h2 c) λe=>?_;have C:rows'.length=rows.length:=by omega
  rcases k (by omega)with⟨m,B,H,q⟩|⟨r,cap,G,D,fz,m,q,w,F,K⟩;exact .inl ⟨(d C).trans m,B,H,q⟩;obtain⟨c',E,J,_⟩:=t.keep.2.1 r G D fz F;exact .inr ⟨r,cap,c',D,fz,(d C).trans m,q,w,E,by omega⟩
 |ep b ext i off v wm esz rows y h1 h2 k=>
  obtain⟨wm',rows',a,_,c,d⟩:=t.arr b wm esz rows h1;refine .ep b ext i off v wm' esz rows' y a (zQ1 h2 c) λe I=>?_;grind
 |fn f first caps fs cs h1 h2 _ _ z A=>exact .fn f first caps fs cs h1 h2 z A
 |unk x=>exact .unk x
theorem nU{s0 s:Sn}(hi:Inv s0)(t:bB s0 s)(D:Nat->Prop)
  (same: ∀b,¬D b->s.σ[b]?=s0.σ[b]?/\s.g.μ b=s0.g.μ b)
  (k: ∀b r o v,¬D b->Wr1 s0 b r o->cellAt s0.w r o=some v->cellAt s.w r o=some v)
  (Q: ∀b cs,D b->s.σ[b]?=some (.box cs)->PG s b cs)
  (R: ∀b wm esz rows,D b->s.σ[b]?=some (.arr wm esz rows)->OU s b wm esz rows)
  (O: ∀b1 b2 r o,D b1->Wr1 s b1 r o->Wr1 s b2 r o->b1=b2)
  (n: ∀r o,s.g.C r o->r<s.w.heap.size)
  (J: ∀r o b,s.g.C r o->D b-> ¬Wr1 s b r o)
  (M: ∀r o b,s.g.C r o-> ¬s0.g.C r o-> ¬D b-> ¬Wr1 s0 b r o):Inv s:=by
 have wr: ∀b r o,¬D b->(Wr1 s b r o↔Wr1 s0 b r o):=(by intro b r o hd;obtain⟨h1,h2⟩:=same b hd;grind [Wr1]);have cells: ∀(r:Nat) c e fz,s0.w.heap[r]?=some (.cells c e fz)-> ∃c',s.w.heap[r]?=some (.cells c' e fz)/\c'.size=c.size/\ ∀o v,cellAt s.w r o=some v->c'[o]?=some v:=(by intro r c e fz h;obtain⟨c',h1,h2,_⟩:=t.keep.2.1 r c e fz h;grind [kS]);refine⟨?_,?_,?_,?_⟩;intro b cs q;by_cases hd:D b;simp_all;obtain⟨h1,h2⟩:=same b hd;obtain⟨r,o,c,e,fz,m,A,T,F,E⟩:=hi.box b cs (h1▸q);obtain⟨c',y,P,z⟩:=cells r c e fz A;refine⟨r,o,c',e,fz,h2.trans m,y,by omega,λi x G=>?_,E⟩;obtain⟨v,U,h,I⟩:=F i x G;refine⟨v,z _ _ (k b r (o+i) v hd ?_ (by grind [kS])),h.mono hi t,I⟩;grind [Wr1];intro b wm esz rows q;by_cases hd:D b;grind;obtain⟨h1,h2⟩:=same b hd;rcases hi.arr b wm esz rows (h1▸q)with⟨m,h⟩|⟨r,c,e,fz,m,A,B,T,F,E⟩;exact .inl ⟨h2.trans m,h⟩;obtain⟨c',y,P,z⟩:=cells r c e fz A;refine .inr ⟨r,c',e,fz,h2.trans m,y,B,by omega,λi j row x K N=>?_,P▸E⟩;obtain⟨⟨v,U,h⟩,hc⟩:=F i j row x K N;refine⟨⟨v,z _ _ ?_,h.mono hi t⟩,λe=>t.cmono _ _ (hc e)⟩;cases wm with
 |true=>
  refine k b r _ v hd ?_ (by grind [kS]);grind [Wr1]
 |false=>exact hi.cfix t (hc rfl) (by grind [kS])
 intro b1 b2 r o h1 h2;by_cases L:D b1;grind;by_cases H:D b2;grind;exact hi.apart b1 b2 r o ((wr b1 r o L).1 h1) ((wr b2 r o H).1 h2);intro r o hc;refine⟨n r o hc,λb q=>?_⟩;by_cases hd:D b;simp_all;by_cases S:s0.g.C r o;exact(hi.const r o S).2 b ((wr b r o hd).1 q);simp_all
end Go.Am
end
section
namespace Go.Am
theorem jT{σ:List Blk}{b:Nat}{x y:Blk}(h:σ[b]?=some x):(σ.set b y)[b]?=some y:=by
 grind
theorem rV{σ:List Blk}{b c:Nat}{y:Blk}(h:b≠c):(σ.set b y)[c]?=σ[c]?:=by simp[h]
theorem ft{s0:Sn}(hi:Inv s0){w':World}(k:w'.heap=s0.w.heap)(ho:w'.os=s0.w.os)(hp:w'.output=s0.w.output):
  Inv ⟨s0.σ,s0.g,w'⟩/\bB s0 ⟨s0.σ,s0.g,w'⟩:=by
 have hc: ∀r o,cellAt w' r o=cellAt s0.w r o:=λr o=>by grind [cellAt]
 have t:bB s0 ⟨s0.σ,s0.g,w'⟩:=by
  refine⟨⟨by simp_all,λr c e fz h=>⟨c,by simp_all,rfl,λ_ _=>rfl⟩,λr x h _=>by simp_all,ho,hp⟩,λ_ _ h=>h,λ_ _ h=>.inl h,λr o ⟨b,n⟩=>.inl ⟨b,n⟩,zQ0 _,λ_ cs h=>⟨⟨cs,h,rfl⟩,rfl⟩,
   λ_ wm _ rows h=>⟨wm,rows,h,id,zQ0 _,λ_=>rfl⟩⟩
 exact⟨nU hi t (λ_=>False) (λ_ _=>⟨rfl,rfl⟩) (λ_ r o v _ _ h=>by simp_all) (λ_ _ h=>h.elim) (λ_ _ _ _ h=>h.elim)
  (λ_ _ _ _ h=>h.elim) (λr o h=>by show r<w'.heap.size;rw[k];exact(hi.const r o h).1) (λ_ _ _ _ h=>h.elim) (λ_ _ _ h j=>(j h).elim),t⟩
theorem SW{W:Nat->Nat->Prop}{w w':World}{x:Obj}(j:w'.heap=w.heap.push x)(ho:w'.os=w.os)(hp:w'.output=w.output):nE W w w':=by
 have g: ∀(r:Nat) y,w.heap[r]?=some y->w'.heap[r]?=some y:=(by grind);exact⟨by rw[j];simp,λr c e fz h=>⟨c,g r _ h,rfl,λ_ _=>rfl⟩,λr y h _=>g r y h,ho,hp⟩
theorem SF{w w':World}{x:Obj}(e:w'.heap=w.heap.push x):w'.heap[w.heap.size]?=some x:=by rw[e];simp
theorem gm{w w':World}{x:Obj}(e:w'.heap=w.heap.push x){r o v}(h:cellAt w r o=some v):cellAt w' r o=some v:=
 (SW (W:=λ_ _=>False) (w:=w) (w':={w' with os:=w.os,output:=w.output}) e rfl rfl).cell (λh=>h) h
def fA(g:Gh)(new:Nat)(x:Option (Nat×Nat)):Gh:=⟨λb=>if b=new then x else g.μ b,g.C⟩
theorem sa{s0 s:Sn}{new:Nat}{blk:Blk}(hd:s0.σ[new]?=some .dead)(hs:s.σ=s0.σ.set new blk)(x:Option (Nat×Nat))(j:s.g.μ=(fA s0.g new x).μ):
  s0.σ.length<=s.σ.length/\(∀b cs,s0.σ[b]?=some (.box cs)->(∃cs',s.σ[b]?=some (.box cs')/\cs'.length=cs.length)/\s.g.μ b=s0.g.μ b)/\
  (∀b wm esz rows,s0.σ[b]?=some (.arr wm esz rows)-> ∃wm' rows',s.σ[b]?=some (.arr wm' esz rows')/\(wm'=true->wm=true)/\
  rows.length<=rows'.length/\(rows'.length=rows.length->s.g.μ b=s0.g.μ b)):=by
 have o: ∀b y,s0.σ[b]?=some y->y≠.dead->s.σ[b]?=some y/\s.g.μ b=s0.g.μ b:=by
  intro b y k n;have h:new≠b:=by grind
  rw[hs,rV h,j];exact⟨k,if_neg (λe=>h e.symm)⟩
 simp_all
def JNM(s0:Sn)(c:Array Value):Blk->Prop
 | .box cs=>cs.length<=c.size/\ ∀(i:Nat) x,cs[i]?=some x-> ∃v,c[i]?=some v/\JH s0 x v/\v.oneCell'=true
 | .arr true esz rows=>(∀row∈rows,row.length=esz)/\rows.length*esz<=c.size/\
  ∀(i j:Nat) row x,rows[i]?=some row->row[j]?=some x-> ∃v,c[i*esz+j]?=some v/\J09 s0.w s0.g.C x v
 |_=>False
theorem RC{s0:Sn}(hi:Inv s0){new:Nat}(hd:s0.σ[new]?=some .dead){blk:Blk}{c:Array Value}{e:TypeId}{fz:Nat×Nat}{w':World}
  (y:w'.heap=s0.w.heap.push (.cells c e fz)) (ho:w'.os=s0.w.os) (hp:w'.output=s0.w.output) (hf:EJ fz 0 c.size) (E: ∀wm esz rows,blk=.arr wm esz rows->esz≠1-> ¬(fz.1<=c.size/\c.size<fz.2)) (hb:JNM s0 c blk):
  Inv ⟨s0.σ.set new blk,fA s0.g new (some (s0.w.heap.size,0)),w'⟩/\bB s0 ⟨s0.σ.set new blk,fA s0.g new (some (s0.w.heap.size,0)),w'⟩:=by
 have q:(s0.σ.set new blk)[new]?=some blk:=jT hd;have wr: ∀b r o,b≠new->(Wr1 ⟨s0.σ.set new blk,fA s0.g new (some (s0.w.heap.size,0)),w'⟩ b r o↔Wr1 s0 b r o):=by simp_all [Wr1,fA,Ne.symm]
 have N: ∀r o,Wr1 ⟨s0.σ.set new blk,fA s0.g new (some (s0.w.heap.size,0)),w'⟩ new r o->r=s0.w.heap.size:=(by intro r o h;unfold Wr1 at h;simp only[q,fA]at h;grind);have O: ∀b r o,Wr1 s0 b r o->r<s0.w.heap.size:=by
  intro b r o h;unfold Wr1 at h;split at h;rename_i cs hb;obtain⟨r',P,c',e',B,m,k,_⟩:=hi.box b cs hb;grind
  ·rename_i hb;obtain⟨K,I⟩:=h;rcases hi.arr b _ _ _ hb with⟨m,_⟩|⟨r',c',e',B,m,k,_⟩
   all_goals grind
  ·rename_i hb;obtain⟨K,I,_⟩:=h;rcases hi.arr b _ _ _ hb with⟨m,_⟩|⟨r',c',e',B,m,k,_⟩
   all_goals grind
  exact h.elim
 have t:bB s0 ⟨s0.σ.set new blk,fA s0.g new (some (s0.w.heap.size,0)),w'⟩:=(by obtain⟨G,J,H⟩:=sa (s:=⟨s0.σ.set new blk,fA s0.g new (some (s0.w.heap.size,0)),w'⟩) hd rfl (some (s0.w.heap.size,0)) rfl;refine⟨SW y ho hp,λ_ _ h=>h,λ_ _ h=>.inl h,?_,G,J,H⟩;rintro r o ⟨b,hb⟩;by_cases e:b=new;grind;exact .inl ⟨b,(wr b r o e).1 hb⟩);refine⟨nU hi t (λb=>b=new) (λb A=>⟨rV (Ne.symm A),if_neg A⟩) (λb r o v _ _ h=>gm y h) ?_ ?_ ?_ ?_ ?_ ?_,t⟩;rintro b cs rfl n;rw[q]at n;injection n with n;subst n;obtain⟨h1,h2⟩:=hb;refine⟨s0.w.heap.size,0,c,e,fz,if_pos rfl,SF y,by omega,λi x C=>?_,λo _ Q=>hf o (zQ2 _) (by omega)⟩;obtain⟨v,F,z,D⟩:=h2 i x C;exact⟨v,by simp_all,z.mono hi t,D⟩;rintro b wm esz rows rfl n;rw[q]at n;injection n with n;subst n;cases wm with
 |false=>exact hb.elim
 |true=>obtain⟨h1,h2,L⟩:=hb;refine .inr ⟨s0.w.heap.size,c,e,fz,if_pos rfl,SF y,h1,h2,λi j row x z C=>⟨?_,λh=>by cases h⟩,hf,E _ _ _ rfl⟩;obtain⟨v,F,z⟩:=L i j row x z C;exact⟨v,F,z.mono hi t⟩
 grind;intro r o hc;show r<w'.heap.size;rw[y];have:=(hi.const r o hc).1;simp;omega;rintro r o b hc rfl h;have:=(hi.const r o hc).1;grind;exact λr o b hc M=>(M hc).elim
theorem wC{s0:Sn}(hi:Inv s0): ∀b r o,Wr1 s0 b r o->r<s0.w.heap.size:=by
 intro b r o h;unfold Wr1 at h;split at h;rename_i cs e;obtain⟨r',q,c',e',g,m,k,_⟩:=hi.box b cs e;grind
 ·rename_i e;obtain⟨j,n⟩:=h;rcases hi.arr b _ _ _ e with⟨m,_⟩|⟨r',c',e',g,m,k,_⟩
  all_goals grind
 ·rename_i e;obtain⟨j,n,_⟩:=h;rcases hi.arr b _ _ _ e with⟨m,_⟩|⟨r',c',e',g,m,k,_⟩
  all_goals grind
 exact h.elim
theorem RI{s0:Sn}(hi:Inv s0){new:Nat}(hd:s0.σ[new]?=some .dead)(esz:Nat):
  Inv ⟨s0.σ.set new (.arr true esz []),fA s0.g new none,s0.w⟩/\bB s0 ⟨s0.σ.set new (.arr true esz []),fA s0.g new none,s0.w⟩:=by
 have j:(s0.σ.set new (Blk.arr true esz []))[new]?=some (.arr true esz []):=jT hd;have wr: ∀b r o,b≠new->(Wr1 ⟨s0.σ.set new (.arr true esz []),fA s0.g new none,s0.w⟩ b r o↔Wr1 s0 b r o):=by simp_all [Wr1,fA,Ne.symm]
 have C: ∀r o,¬Wr1 ⟨s0.σ.set new (.arr true esz []),fA s0.g new none,s0.w⟩ new r o:=by simp_all [Wr1,fA]
 have t:bB s0 ⟨s0.σ.set new (.arr true esz []),fA s0.g new none,s0.w⟩:=(by obtain⟨q,z,x⟩:=sa (s:=⟨s0.σ.set new (.arr true esz []),fA s0.g new none,s0.w⟩) hd rfl none rfl;refine⟨.refl _ _,λ_ _ h=>h,λ_ _ h=>.inl h,?_,q,z,x⟩;rintro r o ⟨b,A⟩;by_cases e:b=new;simp_all;exact .inl ⟨b,(wr b r o e).1 A⟩);refine⟨nU hi t (λb=>b=new) (λb k=>⟨rV (Ne.symm k),if_neg k⟩) (λb r o v _ _ h=>h) ?_ ?_ ?_ ?_ ?_ ?_,t⟩;simp_all;rintro b wm y rows rfl n;rw[j]at n;cases n;exact .inl ⟨if_pos rfl,rfl⟩;simp_all;exact λr o hc=>(hi.const r o hc).1;simp_all;exact λr o b hc B=>(B hc).elim
def oQ(g:Gh)(p:Nat->Nat->Prop):Gh:=⟨g.μ,λr o=>g.C r o\/p r o⟩
theorem JGf{s0:Sn}(hi:Inv s0){x:Obj}{w':World}
  (e:w'.heap=s0.w.heap.push x) (ho:w'.os=s0.w.os) (hp:w'.output=s0.w.output):
  Inv ⟨s0.σ,oQ s0.g λr _=>r=s0.w.heap.size,w'⟩/\bB s0 ⟨s0.σ,oQ s0.g λr _=>r=s0.w.heap.size,w'⟩:=by
 have t:bB s0 ⟨s0.σ,oQ s0.g λr _=>r=s0.w.heap.size,w'⟩:=by
  refine⟨SW e ho hp,λ_ _ h=>.inl h,λr o h=>?_,λr o h=>.inl h,zQ0 _,λ_ cs h=>⟨⟨cs,h,rfl⟩,rfl⟩,
   λ_ wm _ rows h=>⟨wm,rows,h,id,zQ0 _,λ_=>rfl⟩⟩
  rcases h with h|h
  all_goals simp_all
 refine⟨nU hi t (λ_=>False) (λ_ _=>⟨rfl,rfl⟩) (λb r o v _ _ h=>gm e h) (λ_ _ h=>h.elim) (λ_ _ _ _ h=>h.elim)
  (λ_ _ _ _ h=>h.elim) ?_ (λ_ _ _ _ h=>h.elim) ?_,t⟩
 intro r o hc;show r<w'.heap.size;rw[e];rcases hc with hc|hc;have:=(hi.const r o hc).1;simp;omega;simp;omega;intro r o b hc j _ h;rcases hc with hc|hc;exact j hc;have:=wC hi b r o h;omega
structure Put(r:Nat)(o:Nat)(vs:List Value)(w w':World):Prop where
 there: ∃c e fz c',w.heap[r]?=some (.cells c e fz)/\w'.heap[r]?=some (.cells c' e fz)/\c'.size=c.size/\o+vs.length<=c.size/\
  (∀(j:Nat) v,vs[j]?=some v->c'[o+j]?=some v)/\ ∀k,(k<o\/o+vs.length<=k)->c'[k]?=c[k]?
 rest: ∀r':Nat,r'≠r->w'.heap[r']?=w.heap[r']?
 size:w'.heap.size=w.heap.size
 os:w'.os=w.os
 output:w'.output=w.output
theorem Put.keep{W:Nat->Nat->Prop}{r o vs w w'}(h:Put r o vs w w')(hw: ∀k,o<=k->k<o+vs.length->W r k):nE W w w':=by
 obtain⟨c,e,fz,c',h1,h2,v,_,_,q⟩:=h.there;refine⟨Nat.le_of_eq h.size.symm,λr' j z n g=>?_,λr' x g y=>?_,h.os,h.output⟩;by_cases e':r'=r;grind;exact⟨j,by rw[h.rest r' e'];exact g,rfl,λ_ _=>rfl⟩;by_cases e':r'=r;grind;rw[h.rest r' e'];exact g
theorem Put.cell{r o vs w w'}(h:Put r o vs w w'){r' k v}(hv:cellAt w r' k=some v)(hn:r'≠r\/k<o\/o+vs.length<=k):cellAt w' r' k=some v:=by
 obtain⟨c,e,fz,c',h1,h2,j,_,_,g⟩:=h.there;by_cases e':r'=r;grind [kS];unfold cellAt;rw[h.rest r' e'];exact hv
inductive d8:Blk->Blk->Prop where|box (cs cs':List AV):cs'.length=cs.length->d8 (.box cs) (.box cs')|arr (esz:Nat) (rows rows':List (List PV)):rows'.length=rows.length->d8 (.arr true esz rows) (.arr true esz rows')
theorem f0{s0:Sn}(hi:Inv s0){b:Nat}{z blk:Blk}{r o:Nat}{vs:List Value}{w':World}(hb:s0.σ[b]?=some z)
  (q:Put r o vs s0.w w') (hw: ∀k,o<=k->k<o+vs.length->Wr1 s0 b r k)
  (hk:d8 z blk)
  (A: ∀cs,blk=.box cs->(∀{x v},JH s0 x v->JH ⟨s0.σ.set b blk,s0.g,w'⟩ x v)->PG ⟨s0.σ.set b blk,s0.g,w'⟩ b cs)
  (B: ∀esz rows,blk=.arr true esz rows->(∀{x v},J09 s0.w s0.g.C x v->J09 w' s0.g.C x v)->OU ⟨s0.σ.set b blk,s0.g,w'⟩ b true esz rows):
  Inv ⟨s0.σ.set b blk,s0.g,w'⟩/\bB s0 ⟨s0.σ.set b blk,s0.g,w'⟩:=by
 have n:(s0.σ.set b blk)[b]?=some blk:=jT hb;have wr: ∀j r o,(Wr1 ⟨s0.σ.set b blk,s0.g,w'⟩ j r o↔Wr1 s0 j r o):=by
  intro j r o;by_cases e:j=b;subst e;unfold Wr1;simp only[n,hb];cases hk<;>simp_all
  grind [Wr1]
 have t:bB s0 ⟨s0.σ.set b blk,s0.g,w'⟩:=by
  refine⟨q.keep λk h1 h2=>⟨b,hw k h1 h2⟩,λ_ _ h=>h,λ_ _ h=>.inl h,λr o ⟨j,h⟩=>.inl ⟨j,(wr j r o).1 h⟩,by simp,λj cs h=>?_,λj wm esz rows h=>?_⟩;by_cases e:j=b;subst e;rw[hb]at h;injection h with h;subst h;cases hk<;>simp_all
  grind;by_cases e:j=b;subst e;rw[hb]at h;injection h with h;subst h;cases hk<;>simp_all
  grind
 refine⟨nU hi t (λj=>j=b) (λj y=>⟨rV (Ne.symm y),rfl⟩) ?_ ?_ ?_ ?_ ?_ ?_ ?_,t⟩;intro j r' k v y E F;refine q.cell F ?_;rcases zQ3 k o with h|h;simp_all;rcases zQ3 k (o+vs.length)with D|D;refine .inl λe=>y ?_;subst e;exact hi.apart _ _ _ _ E (hw k h D);simp_all;rintro j cs rfl h;rw[n]at h;injection h with h;subst h;exact A _ rfl λh=>h.mono hi t;rintro j wm esz rows rfl h;rw[n]at h;injection h with h;subst h;cases hk with
 |arr _ _ rows' G=>exact B _ _ rfl λh=>h.mono hi t
 rintro b1 b2 r o rfl h1 h2;exact hi.apart _ _ _ _ ((wr _ _ _).1 h1) ((wr _ _ _).1 h2);intro r o hc;show r<w'.heap.size;rw[q.size];exact(hi.const r o hc).1;rintro r o j hc rfl h;exact(hi.const r o hc).2 _ ((wr _ _ _).1 h);simp_all
end Go.Am
end
section
namespace Go.Am
theorem kP{a b n e:Nat}(h1:a<n)(h2:b<e):a*e+b<n*e:=by
 have h:(a+1)*e<=n*e:=zQ4 e h1;grind
theorem Jw{α:Type}{l:List α}{i:Nat}{x:α}(h:l[i]?=some x):i<l.length:=by
 grind
theorem TJ{α:Type}{l:Array α}{i:Nat}{x:α}(h:l[i]?=some x):i<l.size:=by
 grind
theorem iG{α:Type}{l:List α}{i:Nat}{x:α}(h:l[i]?=some x):x∈l:=zQ5 h
def Frz(σ τ:List Blk):Prop:=(∀(b:Nat) wm esz rows,σ[b]?=some (Blk.arr wm esz rows)-> ∃wm',τ[b]?=some (Blk.arr wm' esz rows))/\(∀(b:Nat) x,σ[b]?=some x->(∀wm esz rows,x≠Blk.arr wm esz rows)->τ[b]?=some x)
theorem Frz.refl(σ):Frz σ σ:=⟨λ_ wm _ _ h=>⟨wm,h⟩,λ_ _ h _=>h⟩
theorem Frz.trans{a b c}(h:Frz a b)(g:Frz b c):Frz a c:=
 ⟨λn wm esz rows e=>let⟨wm',h1⟩:=h.1 n wm esz rows e;g.1 n wm' esz rows h1,λn x e j=>g.2 n x (h.2 n x e j) j⟩
theorem JDY{s0:Sn}(hi:Inv s0){b:Nat}{wm:Bool}{esz:Nat}{rows:List (List PV)}(hb:s0.σ[b]?=some (.arr wm esz rows)):
  ∃g',g'.μ=s0.g.μ/\Inv ⟨s0.σ.set b (.arr false esz rows),g',s0.w⟩/\bB s0 ⟨s0.σ.set b (.arr false esz rows),g',s0.w⟩/\
   Frz s0.σ (s0.σ.set b (.arr false esz rows)):=by
 have q:(s0.σ.set b (.arr false esz rows))[b]?=some (.arr false esz rows):=jT hb;have y:Frz s0.σ (s0.σ.set b (.arr false esz rows)):=by
  refine⟨λn wm' B rows' F=>?_,λn x F H=>?_⟩
  all_goals grind
 cases wm with
 |false=>
  have N:s0.σ.set b (.arr false esz rows)=s0.σ:=(by apply zQ6;grind);refine⟨s0.g,rfl,?_,?_,y⟩
  all_goals simp_all [bB.refl]
 |true=>
  refine⟨oQ s0.g λr o=>s0.g.μ b=some (r,0)/\o<rows.length*esz,rfl,?_⟩;have wr: ∀k r o,Wr1 ⟨s0.σ.set b (.arr false esz rows),oQ s0.g λr o=>s0.g.μ b=some (r,0)/\o<rows.length*esz,s0.w⟩ k r o->Wr1 s0 k r o:=(by intro k r o h;by_cases e:k=b;subst e;unfold Wr1 at h⊢;simp only[q,hb]at h⊢;obtain⟨I,m,_⟩:=h;exact⟨I,m⟩;unfold Wr1 at h⊢;simp only[rV (Ne.symm e)]at h;exact h);have t:bB s0 ⟨s0.σ.set b (.arr false esz rows),oQ s0.g λr o=>s0.g.μ b=some (r,0)/\o<rows.length*esz,s0.w⟩:=(by refine⟨.refl _ _,λ_ _ h=>.inl h,λr o h=>?_,λr o ⟨k,h⟩=>.inl ⟨k,wr k r o h⟩,by simp,λk cs h=>?_,λk wm B rows' h=>?_⟩;rcases h with h|⟨h,_⟩;exact .inl h;refine .inr (.inl ⟨b,?_⟩);grind [Wr1];refine⟨⟨cs,y.2 k _ h (by simp),rfl⟩,rfl⟩;by_cases e:k=b;subst e;rw[hb]at h;injection h with h;injection h with h1 h2 h3;subst h1 h2 h3;exact⟨false,rows,q,by simp,zQ0 _,λ_=>rfl⟩;exact⟨wm,rows',by grind,id,zQ0 _,λ_=>rfl⟩);refine⟨nU hi t (λk=>k=b) (λk z=>⟨rV (Ne.symm z),rfl⟩) (λ_ _ _ _ _ _ h=>h) ?_ ?_ ?_ ?_ ?_ ?_,t,y⟩;simp_all;rintro k wm B rows' rfl h;rw[q]at h;cases h;rcases hi.arr _ _ _ _ hb with⟨m,E⟩|⟨r,c,e,fz,m,G,C,L,H,J⟩;exact .inl ⟨m,E⟩;refine .inr ⟨r,c,e,fz,m,G,C,L,λi j row x A D=>?_,J⟩;obtain⟨⟨v,M,E⟩,_⟩:=H i j row x A D;refine⟨⟨v,M,E.mono hi t⟩,λ_=>.inr ⟨m,?_⟩⟩;have h1:=Jw A;have h2:=Jw D;rw[C row (iG A)]at h2;simp_all [kP];rintro b1 b2 r o rfl h1 h2;exact hi.apart _ _ _ _ (wr _ _ _ h1) (wr _ _ _ h2)
  ·intro r o hc;rcases hc with hc|⟨hc,_⟩
   exact(hi.const r o hc).1
   ·rcases hi.arr _ _ _ _ hb with⟨m,_⟩|⟨r',c,e,fz,m,G,_⟩
    all_goals grind
  rintro r o k hc rfl h;rcases hc with hc|⟨hc,K⟩;exact(hi.const r o hc).2 _ (wr _ _ _ h);grind [Wr1];intro r o k hc F z h;rcases hc with hc|⟨hc,K⟩;exact F hc;refine z (hi.apart _ _ r o h ?_);grind [Wr1]
def jJ(s:Sn)(esz:Nat)(rows:List (List PV))(v:Value):Prop:= ∃a cap,v=.slice a rows.length cap/\rows.length<=cap/\(∀row∈rows,row.length=esz)/\(rows=[]\/ ∃r o,a=some ⟨r,o,none⟩/\ ∀(i j:Nat) row x,rows[i]?=some row->row[j]?=some x-> ∃u,cellAt s.w r (o+i*esz+j)=some u/\J09 s.w s.g.C x u)
theorem jJ.of_sl{s:Sn}{esz rows v}(h:J09 s.w s.g.C (.sl esz rows) v):jJ s esz rows v:=by
 cases h with
 |sl0 _ a cap=>exact⟨a,cap,rfl,zQ2 _,(λ_ h=>by cases h),.inl rfl⟩
 |sl _ _ r o cap vals h1 h2 q n=>exact⟨_,cap,rfl,h1,h2,.inr ⟨r,o,rfl,λi j row x e k=>⟨_,(q i j row x e k).2,n i j row x e k⟩⟩⟩
theorem jJ.of_slr{s:Sn}(hi:Inv s){b i n v wm esz rows}(h:JH s (.slr b i n) v)(hb:s.σ[b]?=some (.arr wm esz rows))(e:i+n=rows.length):
  jJ s esz (rows.drop i) v:=by
 cases h with
 |slr _ _ _ _ wm' z rows' _ h1 h2 B=>
  rw[hb]at h1;injection h1 with h1;injection h1 with a1 a2 a3;subst a1 a2 a3;have H:(rows.drop i).length=n:=by simp;omega
  rcases B e with⟨m,q,C,w⟩|⟨r,cap,c,K,fz,m,w,y,F,I⟩;subst q C;have:rows=[]:=by grind
  subst this;exact⟨none,0,by simp[w],by simp,by simp,.inl rfl⟩;rcases hi.arr b wm esz rows hb with⟨g,_⟩|⟨r',c',e',E,g,D,o,hlen,J,_⟩;simp_all;rw[m]at g;injection g with g;injection g with g _;subst g;refine⟨some ⟨r,i*esz,none⟩,cap,by simp_all,by omega,λrow A=>o row (zQ7 A),.inr ⟨r,i*esz,rfl,λk j row x G L=>?_⟩⟩;grind [kS]
theorem jJ.mono{s0 s:Sn}(hi:Inv s0)(t:bB s0 s){esz rows v}(h:jJ s0 esz rows v)(hc: ∀r o u,cellAt s0.w r o=some u->cellAt s.w r o=some u):jJ s esz rows v:=by obtain⟨a,cap,h1,h2,q,g⟩:=h;refine⟨a,cap,h1,h2,q,g.imp id ?_⟩;rintro⟨r,o,A,y⟩;exact⟨r,o,A,λi j row x n z=>let⟨u,k,e⟩:=y i j row x n z;⟨u,hc _ _ _ k,e.mono hi t⟩⟩
theorem ii{s:Sn}{esz:Nat}{rows:List (List PV)}{v:Value}{a:Option Addr}{cap:Nat}(hv:v=.slice a rows.length cap)(e:rows.length<=cap)
  (h: ∀row∈rows,row.length=esz)
  (hx:rows=[]\/ ∃r o,a=some ⟨r,o,none⟩/\ ∀(i j:Nat) row x,rows[i]?=some row->row[j]?=some x->s.g.C r (o+i*esz+j)/\ ∃u,cellAt s.w r (o+i*esz+j)=some u/\J09 s.w s.g.C x u):
  J09 s.w s.g.C (.sl esz rows) v:=by
 subst hv;rcases hx with rfl|⟨r,o,rfl,hx⟩;exact .sl0 _ _ _
 ·refine .sl esz rows r o cap (λi j=>(cellAt s.w r (o+i*esz+j)).getD .nilFunc) e h (λi j row x k n=>?_) λi j row x k n=>?_
  all_goals grind
theorem JGy{s0:Sn}(hi:Inv s0){b i n:Nat}{v:Value}{wm:Bool}{esz:Nat}{rows:List (List PV)}(h:JH s0 (.slr b i n) v)(hb:s0.σ[b]?=some (.arr wm esz rows))
  (e:i+n=rows.length):
  ∃g',Inv ⟨s0.σ.set b (.arr false esz rows),g',s0.w⟩/\bB s0 ⟨s0.σ.set b (.arr false esz rows),g',s0.w⟩/\
   Frz s0.σ (s0.σ.set b (.arr false esz rows))/\J09 s0.w g'.C (.sl esz (rows.drop i)) v:=by
 obtain⟨g',T,q,t,L⟩:=JDY hi hb;refine⟨g',q,t,L,?_⟩;have B:=h.mono hi t;have y:(s0.σ.set b (.arr false esz rows))[b]?=some (.arr false esz rows):=jT hb;obtain⟨a,cap,h1,h2,M,I⟩:=jJ.of_slr q B y e;refine ii (s:=⟨s0.σ.set b (.arr false esz rows),g',s0.w⟩) h1 h2 M (I.imp id ?_);rintro⟨r,o,rfl,N⟩;refine⟨r,o,rfl,λk j row x H O=>⟨?_,N k j row x H O⟩⟩;cases B with
 |slr _ _ _ _ wm' z rows' _ J Z K=>
  have g:(s0.σ.set b (.arr false esz rows))[b]?=some (.arr wm' z rows'):=J;rw[y]at g;injection g with g;injection g with a1 a2 a3;subst a1 a2 a3;rcases K e with⟨m,S,W,A⟩|⟨r',D,c,Y,fz,m,A,E,U,V⟩;simp_all
  ·rw[h1]at A;injection A with v1 v2 v3;injection v1 with v1;injection v1 with v1 v4;subst v1 v4
   rcases q.arr b false esz rows y with⟨F,_⟩|⟨r',c',e',R,F,Q,G,hlen,P,_⟩
   all_goals grind
end Go.Am
end
section
namespace Go.Am
theorem ME{α:Type}{a b:List α}{i:Nat}{x:α}(h:(a++b)[i]?=some x):a[i]?=some x\/(a.length<=i/\b[i-a.length]?=some x):=by
 grind
def m7(g:Gh)(wm:Bool)(r lo hi:Nat):Gh:=oQ g λr' o=>wm=false/\r'=r/\lo<=o/\o<hi
theorem JK4{s0:Sn}(hi:Inv s0){b:Nat}{wm:Bool}{esz:Nat}{rows new:List (List PV)}{r:Nat}{vs:List Value}{w':World}
  (hb:s0.σ[b]?=some (.arr wm esz rows)) (hm:s0.g.μ b=some (r,0)) (L: ∀row∈new,row.length=esz)
  (z:Put r (rows.length*esz) vs s0.w w') (hlen:vs.length=new.length*esz)
  (hx: ∀(i j:Nat) row x,new[i]?=some row->row[j]?=some x-> ∃u,vs[i*esz+j]?=some u/\J09 s0.w s0.g.C x u):
  Inv ⟨s0.σ.set b (.arr wm esz (rows++new)),m7 s0.g wm r (rows.length*esz) ((rows.length+new.length)*esz),w'⟩/\
  bB s0 ⟨s0.σ.set b (.arr wm esz (rows++new)),m7 s0.g wm r (rows.length*esz) ((rows.length+new.length)*esz),w'⟩:=by
 have A:(s0.σ.set b (.arr wm esz (rows++new)))[b]?=some (.arr wm esz (rows++new)):=jT hb;have T:(rows.length+new.length)*esz=rows.length*esz+new.length*esz:=zQ8 _ _ _;generalize I:(⟨s0.σ.set b (.arr wm esz (rows++new)),m7 s0.g wm r (rows.length*esz) ((rows.length+new.length)*esz),w'⟩:Sn)=s;have H:s.σ=s0.σ.set b (.arr wm esz (rows++new)):=by rw[<-I]
 have U:s.g.μ=s0.g.μ:=by rw[<-I];rfl
 have B: ∀r' o,s.g.C r' o↔s0.g.C r' o\/(wm=false/\r'=r/\rows.length*esz<=o/\o<(rows.length+new.length)*esz):=by rw[<-I];exact λ_ _=>Iff.rfl
 have M:s.w=w':=by rw[<-I]
 have wr: ∀n r' o,Wr1 s n r' o->Wr1 s0 n r' o:=by
  intro n r' o h;by_cases e:n=b;subst e;unfold Wr1 at h⊢;rw[H,A]at h;rw[hb];cases wm<;>grind
  grind [Wr1]
 have y: ∀o,rows.length*esz<=o->Wr1 s0 b r o:=by intro o ho;unfold Wr1;rw[hb];cases wm<;>simp_all
 have t:bB s0 s:=(by refine⟨?_,λr o h=>(B r o).2 (.inl h),λr' o h=>?_,λr o ⟨n,h⟩=>.inl ⟨n,wr n r o h⟩,by rw[H];simp,λn cs h=>?_,λn wm' J rows' h=>?_⟩;rw[M];exact z.keep λk h1 _=>⟨b,y k h1⟩;rcases(B r' o).1 h with h|⟨_,e,h,_⟩;exact .inl h;subst e;exact .inr (.inl ⟨b,y o h⟩);grind;by_cases e:n=b;subst e;rw[hb]at h;injection h with h;injection h with h1 h2 R;subst h1 h2 R;grind;grind);refine⟨nU hi t (λn=>n=b) (λn D=>⟨by grind,by rw[U]⟩) ?_ ?_ ?_ ?_ ?_ ?_ ?_,t⟩;intro n r' k v D Q S;rw[M];refine z.cell S ?_;by_cases F:r'=r;subst F;rcases zQ3 k (rows.length*esz)with h|h;simp_all;exact(D (hi.apart _ _ _ _ Q (y k h))).elim;simp_all;simp_all;rintro n wm' J rows' rfl h;rw[H,A]at h;cases h;obtain⟨c,e,fz,c',V,p2,p3,p4,p5,p6⟩:=z.there;rcases hi.arr _ _ _ _ hb with⟨m,_⟩|⟨r',c0,e0,Y,m,G,K,hl,O,hf⟩;simp_all;rw[hm]at m;injection m with m;injection m with m _;subst m;rw[V]at G;injection G with G;injection G with q1 q2 q3;subst q1 q2 q3;refine .inr ⟨r,c',e,fz,by simp_all,by simp_all,?_,?_,?_,?_⟩;grind;simp_all;intro i j row x q E;rcases ME q with q|⟨Z,q⟩;obtain⟨⟨v,S,N⟩,hc⟩:=O i j row x q E;have h1:=Jw q;have h2:=Jw E;rw[K row (iG q)]at h2;have:=kP h1 h2;exact⟨⟨v,by simp_all,N.mono hi t⟩,λe=>(B _ _).2 (.inl (hc e))⟩;obtain⟨u,hu,N⟩:=hx _ j row x q E;have h1:=Jw q;have h2:=Jw E;rw[L row (iG q)]at h2;have R:=kP h1 h2;have h4:i*esz+j=rows.length*esz+((i-rows.length)*esz+j):=(by grind [Nat.add_sub_cancel']);refine⟨⟨u,by simp_all,N.mono hi t⟩,λe=>(B _ _).2 (.inr ⟨e,rfl,by omega,by simp_all⟩)⟩;simp_all;rintro b1 b2 r o rfl h1 h2;exact hi.apart _ _ _ _ (wr _ _ _ h1) (wr _ _ _ h2);intro r' o hc;rw[M,z.size];rcases(B r' o).1 hc with hc|⟨_,e,_⟩;exact(hi.const r' o hc).1;subst e;exact wC hi b _ _ (y _ (zQ0 _));rintro r' o n hc rfl h;rcases(B r' o).1 hc with hc|⟨e,F,hlo,P⟩;exact(hi.const r' o hc).2 _ (wr _ _ _ h);subst e F;unfold Wr1 at h;rw[H,A]at h;grind;intro r' o n hc W D h;rcases(B r' o).1 hc with hc|⟨e,F,hlo,P⟩;exact W hc;subst F;exact D (hi.apart _ _ _ o h (y o hlo))
theorem JHZ{s0:Sn}(hi:Inv s0){b:Nat}{wm:Bool}{esz:Nat}{rows new:List (List PV)}{c:Array Value}{e:TypeId}{w':World}
  (hb:s0.σ[b]?=some (.arr wm esz rows)) (z:new≠[]) (K: ∀row∈rows,row.length=esz) (N: ∀row∈new,row.length=esz)
  (O:w'.heap=s0.w.heap.push (.cells c e (0,0))) (ho:w'.os=s0.w.os) (hp:w'.output=s0.w.output)
  (J:(rows.length+new.length)*esz<=c.size)
  (hx: ∀(i j:Nat) row x,(rows++new)[i]?=some row->row[j]?=some x-> ∃u,c[i*esz+j]?=some u/\J09 s0.w s0.g.C x u):
  ∃g',g'.μ b=some (s0.w.heap.size,0)/\Inv ⟨s0.σ.set b (.arr wm esz (rows++new)),g',w'⟩/\bB s0 ⟨s0.σ.set b (.arr wm esz (rows++new)),g',w'⟩:=by
 have y:(s0.σ.set b (.arr wm esz (rows++new)))[b]?=some (.arr wm esz (rows++new)):=jT hb;refine⟨⟨λk=>if k=b then some (s0.w.heap.size,0)else s0.g.μ k,λr o=>s0.g.C r o\/(wm=false/\r=s0.w.heap.size/\o<(rows.length+new.length)*esz)⟩,if_pos rfl,?_⟩;generalize E:(⟨s0.σ.set b (.arr wm esz (rows++new)),_,w'⟩:Sn)=s;have G:s.σ=s0.σ.set b (.arr wm esz (rows++new)):=by rw[<-E]
 have S: ∀k,s.g.μ k=if k=b then some (s0.w.heap.size,0)else s0.g.μ k:=by grind
 have q: ∀r' o,s.g.C r' o↔s0.g.C r' o\/(wm=false/\r'=s0.w.heap.size/\o<(rows.length+new.length)*esz):=by rw[<-E];simp_all
 have P:s.w=w':=by rw[<-E]
 have L:0<new.length:=List.length_pos_iff.2 z;have wr: ∀k r' o,k≠b->(Wr1 s k r' o↔Wr1 s0 k r' o):=by simp_all [Wr1,Ne.symm]
 have F: ∀r' o,Wr1 s b r' o->r'=s0.w.heap.size/\(wm=false->(rows.length+new.length)*esz<=o):=(by grind [Wr1]);have t:bB s0 s:=(by refine⟨?_,λr o h=>(q r o).2 (.inl h),λr' o h=>?_,λr o ⟨k,h⟩=>?_,by rw[G];simp,λk cs h=>?_,λk wm' D rows' h=>?_⟩;grind [SW];grind;by_cases n:k=b;grind;exact .inl ⟨k,(wr k r o n).1 h⟩;grind;by_cases n:k=b;subst n;rw[hb]at h;injection h with h;injection h with h1 h2 H;subst h1 h2 H;exact⟨wm,rows++new,by simp_all,id,by simp,λh=>by simp_all⟩;grind);refine⟨nU hi t (λk=>k=b) (λk I=>⟨by grind,by simp_all⟩) (λb r o v _ _ h=>by grind [gm]) ?_ ?_ ?_ ?_ ?_ ?_,t⟩;simp_all;rintro k wm' D rows' rfl h;rw[G,y]at h;cases h;refine .inr ⟨s0.w.heap.size,c,e,(0,0),by simp_all,by simp_all,?_,by simp_all,?_,tU.zero _ _⟩;grind;intro i j row x A B;obtain⟨u,R,Q⟩:=hx i j row x A B;refine⟨⟨u,R,Q.mono hi t⟩,λM=>(q _ _).2 (.inr ⟨M,rfl,?_⟩)⟩;have h1:=Jw A;have h2:=Jw B;have H:row.length=esz:=(by grind);simp_all [kP];rintro b1 b2 r o rfl h1 h2;by_cases n:b2=b1;exact n.symm;have:=wC hi _ _ _ ((wr b2 r o n).1 h2);grind;intro r' o hc;rw[P,O];rcases(q r' o).1 hc with hc|⟨_,hc,_⟩;have:=(hi.const r' o hc).1;simp;omega;simp;omega;rintro r' o k hc rfl h;have h1:=F _ _ h;rcases(q r' o).1 hc with hc|⟨T,hc,ho⟩;have:=(hi.const r' o hc).1;omega;grind;intro r' o k hc I z h;rcases(q r' o).1 hc with hc|⟨_,hc,_⟩;exact I hc;have:=wC hi _ _ _ h;omega
end Go.Am
end
section
namespace Go.Am
def okP:PV->Value->Bool| .b x,.bool y=>x==y| .i k n,.int k' e=>k==k'&&n==e| .s l,.string g=>l==g.data.toList| .sl _ [],.slice none 0 0=>true| .np,.pointer none=>true| .nf,.nilFunc=>true|_,_=>false
def yL:List PV->List Value->Bool|[],[]=>true|x::xs,v::vs=>okP x v&&yL xs vs|_,_=>false
def okC:AV->Value->Bool| .p c,v=>okP c v| .data cs,.agg vs=>yL cs vs.toList| .fn f [] [],.func (.func g) a c=>f==g&&a.isEmpty&&c.isEmpty| .tup [],.tuple vs=>vs.isEmpty|_,_=>false
def bL:Opd->Operand->Bool| .t n,.tmp m=>n==m| .c x,.const v=>okC x v| .c (.fn f [] []),.func g=>f==g|_,_=>false
def iP:List Opd->List Operand->Bool|[],[]=>true|x::xs,y::e=>bL x y&&iP xs e|_,_=>false
def wF:Option Opd->Option Operand->Bool|none,none=>true|some x,some y=>bL x y|_,_=>false
section
variable (P:Program)
def szT(t:TypeId):Option Nat:=(P.info? t).map (·.size)
def byT(t:TypeId):Option Nat:=(P.info? t).map (·.bytes)
def zeT(t:TypeId):Option Value:=(P.info? t).bind (·.zero)
def yJ:TypeDesc->Bool| .struct _| .array _ _=>true|_=>false
def agT(t:TypeId):Option Bool:=(P.underlying t).map yJ
def elT(t:TypeId):Option TypeId:=match P.underlying t with|some (.slice e)=>some e|_=>none
def jK(t:TypeId):Bool:=match P.underlying t with|some .string=>true|_=>false
def VZ(t:TypeId):Bool:=match P.underlying t with|some (.int .u8)=>true|_=>false
def ZU(t:TypeId):Bool:=match P.underlying t with|some .bool=>true|_=>false
def nu(t:TypeId):Bool:=match P.underlying t with|some (.int _)=>true|_=>false
def ZI(k:IntKind)(t:TypeId):Bool:=match P.underlying t with|some (.int k')=>k==k'|_=>false
def arT(t:TypeId):Option (Nat×TypeId):=match P.underlying t with|some (.array n e)=>some (n,e)|_=>none
def flT(t:TypeId):Option (Array Field):=match P.underlying t with|some (.struct fs)=>some fs|_=>none
def MM(K:TypeId->Option (List KD)):Nat->List Field->Option (List KD)
 |_,[]=>some []
 |off,f::fs=>
  if f.name= "_" ∨f.offset≠off then none
  else match K f.type with
   |none=>none
   |some ks=>if szT P f.type=some ks.length/\0<ks.length then
    match MM K (off+ks.length) fs with
    |some l=>some (ks++l)
    |none=>none
    else none
def pD:Nat->TypeId->Option (List KD)
 |0,_=>none
 |d+1,t=>match P.underlying t with
  |some .bool=>some [.b]
  |some (.int k)=>some [.i k]
  |some .string=>some [.s]
  |some (.struct fs)=>if P.stoodInHeld t then none else MM P (pD d) 0 fs.toList
  |some (.array n e)=>match pD d e with|some ks=>if szT P e=some ks.length/\0<ks.length then some (List.replicate n ks).flatten else none|none=>none
  |_=>none
def A8(t:TypeId):Operand->Bool| .const (.slice none 0 0)=>(elT P t).isSome|_=>false
def Cx(t:TypeId):Operand->Bool
 | .const (.pointer none)=>(match P.underlying t with|some (.pointer _)=>true|_=>false)
 |_=>false
def Bd(t:TypeId):Operand->Bool
 | .const .nilFunc=>(match P.underlying t with|some (.func _ _ _)=>true|_=>false)
 |_=>false
def kY(zero:List PV)(t:TypeId):Bool:=match zeT P t with|some v=>yL zero v.cells.toList|none=>false
def OX(t:TypeId)(os:List (Nat×Nat)):Bool:=match zeT P t with
 |some v=>os.all λx=>match v.cells[x.1]? with|some (.slice none 0 0)=>true|_=>false
 |none=>false
def rQ(place:Nat->Option (Nat×Nat)):List (Nat×Nat×Opd)->List (Nat×Operand)->Bool|[],[]=>true|(off,size,x)::r,(i,y)::q=>place i==some (off,size)&&bL x y&&rQ place r q|_,_=>false
def FS(fs:Array Field)(i:Nat):Option (Nat×Nat):=match fs[i]? with|some f=>(szT P f.type).map λn=>(f.offset,n)|none=>none
def LI:List (Nat×Opd)->List (Nat×Operand)->Bool|[],[]=>true|(i,x)::r,(j,y)::q=>i==j&&bL x y&&LI r q|_,_=>false
def JX(F:AOp)(op:Op):Bool:=
 match F with
 | .mv x=>match op with| .move y| .assign y=>bL x y|_=>false
 | .mkarr _ x=>match op with
  | .move (.const (.slice none 0 0))| .assign (.const (.slice none 0 0))=>(match x with| .c _=>true|_=>false)
  |_=>false
 | .pick c a b=>match op with| .pick c' G E=>bL c c'&&bL a G&&bL b E|_=>false
 | .newbox zero=>match op with| .alloc t=>kY P zero t|_=>false
 | .box _ x=>match op with| .box _ y=>bL x y|_=>false
 | .build zero parts=>match op with
  | .build t ps=>kY P zero t&&(match P.underlying t with
   |some (.struct fs)=>(fs.all λf=>(szT P f.type).isSome)&&rQ (FS P fs) parts ps.toList
   |some (.array _ e)=>(match szT P e with
    |some n=>rQ (λi=>some (i*n,n)) parts ps.toList
    |none=>false)
   |_=>false)
  |_=>false
 | .lits _ esz n zero parts=>match op with
  | .buildSlice t len ps=>len==n&&(match elT P t with
   |some e=>szT P e==some esz&&decide (n*esz<=16777216)&&kY P zero e&&zero.length==esz&&decide (0<esz)&&LI parts ps.toList
   |none=>false)
  |_=>false
 | .load agg size x=>match op with| .load t y=>agT P t==some agg&&szT P t==some size&&bL x y&&(agg||size==1)|_=>false
 | .store size x v=>match op with| .store t y u=>szT P t==some size&&bL x y&&bL v u|_=>false
 | .nilchk x=>match op with| .nilCheck y=>bL x y|_=>false
 | .bin I bt x y=>match op with
  | .binOp A t o h _=>I==A&&bL x o&&(match bt with
   | .plain=>bL y h
   | .bool=>bL y h&&ZU P t
   | .flat ks=>bL y h&&pD P 100 t==some ks&&agT P t==some true&& !P.eqGuardType P.depth t
   | .nils=>A8 P t h
   | .nilp=>Cx P t h
   | .nilf=>Bd P t h)
  |_=>false
 | .un H x=>match op with| .unOp B _ y=>H==B&&bL x y|_=>false
 | .conv k x=>match op with
  | .convert q dst y=>bL x y&&(match k with
   | .int k=>nu P q&&ZI P k dst
   | .same=>jK P q&&jK P dst
   | .toStr=>(match elT P q with|some e=>VZ P e&&szT P e==some 1|none=>false)&&jK P dst
   | .toBytes _=>jK P q&&(match elT P dst with|some e=>VZ P e&&szT P e==some 1|none=>false))
  |_=>false
 | .mkslice _ esz bytes zero l c=>match op with
  | .makeSlice t l' c'=>bL l l'&&bL c c'&&(match elT P t with
   |some e=>szT P e==some esz&&byT P e==some bytes&&kY P zero e&&zero.length==esz&&decide (0<esz)&&decide (0<bytes)
   |none=>false)
  |_=>false
 | .slice k x lo hi mx=>match op with
  | .slice t o C z D=>bL x o&&wF lo C&&wF hi z&&wF mx D&&(match k with
   | .str=>jK P t
   | .sl esz=>(match elT P t with|some e=>szT P e==some esz|none=>false))
  |_=>false
 | .faddr off x=>match op with
  | .fieldAddr t y f=>bL x y&&(match flT P t with
   |some fs=>(match fs[f]? with
    |some f=>f.offset==off&&(match szT P f.type with|some n=>n !=0|none=>false)
    |none=>false)
   |none=>false)
  |_=>false
 | .field agg off size x=>match op with
  | .field t y f=>bL x y&&(match flT P t with
   |some fs=>(match fs[f]? with
    |some f=>f.offset==off&&szT P f.type==some size&&agT P f.type==some agg&&(agg||size==1)
    |none=>false)
   |none=>false)
  |_=>false
 | .iaddr esz x i=>match op with
  | .indexAddr t y j=>bL x y&&bL i j&&(match elT P t with|some e=>szT P e==some esz|none=>false)
  |_=>false
 | .aaddr len esz x i=>match op with
  | .indexAddr t y j=>bL x y&&bL i j&&(match arT P t with|some (n,e)=>n==len&&szT P e==some esz|none=>false)
  |_=>false
 | .sidx x i=>match op with| .index t y j=>bL x y&&bL i j&&jK P t|_=>false
 | .aidx agg len esz x i=>match op with
  | .index t y j=>bL x y&&bL i j&&(match arT P t with|some (n,e)=>n==len&&szT P e==some esz&&agT P e==some agg&&(agg||esz==1)|none=>false)
  |_=>false
 | .extr x i=>match op with| .extract y j=>bL x y&&i==j|_=>false
 | .call f args _=>match op with
  | .call c=>(match c.callee with
   | .value (.func g)=>f==g&&iP args c.args.toList
   |_=>false)
  |_=>false
 | .callv x args _=>match op with
  | .call c=>(match c.callee with
   | .value y=>bL x y&&iP args c.args.toList
   |_=>false)
  |_=>false
 | .len str x=>match op with
  | .call c=>(match c.callee with
   | .builtin .len=>(match c.args.toList,c.argTypes.toList with
    |[y],[t]=>bL x y&&(if str then jK P t else(elT P t).isSome)
    |_,_=>false)
   |_=>false)
  |_=>false
 | .alen n=>match op with
  | .call c=>(match c.callee with
   | .builtin .len=>(match c.args.toList,c.argTypes.toList with
    |[_],[t]=>(match P.underlying t with
     |some (.array m _)=>m==n
     |some (.pointer a)=>(match arT P a with|some (m,_)=>m==n|none=>false)
     |_=>false)
    |_,_=>false)
   |_=>false)
  |_=>false
 | .appn esz bytes zero y=>match op with
  | .call c=>(match c.callee with
   | .builtin .append=>(match c.args.toList,c.argTypes.toList with
    |[.const (.slice none 0 0),h],[t,u]=>bL y h&&((elT P u).isSome||jK P u)&&(match elT P t with
     |some e=>szT P e==some esz&&byT P e==some bytes&&kY P zero e&&zero.length==esz&&decide (0<esz)&&decide (0<bytes)
     |none=>false)
    |_,_=>false)
   |_=>false)
  |_=>false
 | .app esz bytes zero x y=>match op with
  | .call c=>(match c.callee with
   | .builtin .append=>(match c.args.toList,c.argTypes.toList with
    |[o,h],[t,u]=>bL x o&&bL y h&&((elT P u).isSome||jK P u)&&(match elT P t with
     |some e=>szT P e==some esz&&byT P e==some bytes&&kY P zero e&&zero.length==esz&&decide (0<esz)&&decide (0<bytes)
     |none=>false)
    |_,_=>false)
   |_=>false)
  |_=>false
 | .appc esz bytes zero x y=>match op with
  | .call c=>(match c.callee with
   | .builtin .append=>(match c.args.toList,c.argTypes.toList with
    |[o,h],[t,u]=>bL x o&&bL y h&&((elT P u).isSome||jK P u)&&(match elT P t with
     |some e=>szT P e==some esz&&byT P e==some bytes&&kY P zero e&&zero.length==esz&&decide (0<esz)&&decide (0<bytes)
     |none=>false)
    |_,_=>false)
   |_=>false)
  |_=>false
 | .appz esz bytes zero x y=>match op with
  | .call c=>(match c.callee with
   | .builtin .append=>(match c.args.toList,c.argTypes.toList with
    |[o,h],[t,u]=>bL x o&&bL y h&&(match P.underlying u with
     |some (.int _)=>true
     |_=>false)&&(match elT P t with
     |some e=>szT P e==some esz&&byT P e==some bytes&&kY P zero e&&zero.length==esz&&decide (0<esz)&&decide (0<bytes)
     |none=>false)
    |_,_=>false)
   |_=>false)
  |_=>false
 | .mm mx x y=>match op with
  | .call c=>(match c.callee with
   | .builtin b=>b==(if mx then .max else .min)&&(match c.args.toList with
    |[o,h]=>bL x o&&bL y h
    |_=>false)
   |_=>false)
  |_=>false
 | .newboxo zero os=>match op with| .alloc t=>kY P zero t&&OX P t os|_=>false
 | .buildo zero parts os=>match op with
  | .build t ps=>kY P zero t&&OX P t os&&(match P.underlying t with
   |some (.struct fs)=>(fs.all λf=>(szT P f.type).isSome)&&rQ (FS P fs) parts ps.toList
   |_=>false)
  |_=>false
 | .storen _ x=>match op with| .store t y (.const (.slice none 0 0))=>szT P t==some 1&&bL x y|_=>false
 | .callo f _ args _=>match op with
  | .call c=>(match c.callee with
   | .value (.func g)=>f==g&&iP args c.args.toList
   |_=>false)
  |_=>false
 | .mkfn f first caps=>match op with
  | .makeFunc (.func g) r w=>f==g&&iP first r.toList&&iP caps w.toList
  |_=>false
end
end Go.Am
end
section
namespace Go.Am
def get(s:St):Loc->Option (AV⊕Blk)| .slot n=>(lk n s.env).map .inl| .blk b=>(s.sto[b]?).map .inr
theorem JG6{α:Type}(m:RM α)(s s':St)(h: ∀l∈m.reads s,get s' l=get s l):m.run s'=m.run s:=by
 induction m with
 |ret a=>rfl
 |slot n k ih=>
  have e:=h (.slot n) (by simp[RM.reads]);grind [get,RM.run,RM.reads]
 |blk b k ih=>
  have e:=h (.blk b) (by simp[RM.reads]);grind [get,RM.run,RM.reads]
 |fail=>rfl
theorem xH{b:Nat}: ∀{ws:List (Nat×Blk)},b∉ws.map (·.1)->jF b ws=none
 |[],_=>rfl
 |(c,x)::r,h=>by
  simp at h;simp only[jF];rw[xH (by simpa using h.2)];grind
theorem tr{b:Nat}: ∀{ws:List (Nat×Blk)},b∈ws.map (·.1)-> ∃y,jF b ws=some y
 |[],h=>by simp at h
 |(c,x)::r,h=>by
  simp only[jF];by_cases e:b∈r.map (·.1);obtain⟨y,g⟩:=tr e;simp_all;simp_all [xH]
theorem zU: ∀(ws:List (Nat×Blk)) (σ:List Blk),(upd ws σ).length=σ.length|[],_=>rfl|y::ws,σ=>by show(upd ws (σ.set y.1 y.2)).length=_;rw[zU ws];simp
theorem wR: ∀(ws:List (Nat×Blk)) (σ:List Blk) (b:Nat),b<σ.length->(upd ws σ)[b]?=match jF b ws with
  |some y=>some y
  |none=>σ[b]?
 |[],σ,b,_=>rfl
 |(c,x)::ws,σ,b,h=>by
  show(upd ws (σ.set c x))[b]?=_;rw[wR ws (σ.set c x) b (by simpa using h)];grind [jF]
structure Run(F:Orc)(ins:List bU)(new:Nat->Nat)(S:Nat->St)(eff:Nat->Eff):Prop where
 step: ∀k i,ins[k]?=some i->(bW F i (new k)).run (S k)=some (eff k)/\S (k+1)=put i.dst (eff k) (S k)
structure OV(F:Orc)(ins:List bU)(new:Nat->Nat)(S:Nat->St)(eff:Nat->Eff)(i j:Nat):Prop where
 slotW: ∀x y m,ins[i]?=some x->ins[j]?=some y->x.dst=some m->y.dst≠some m/\Loc.slot m∉(bW F y (new j)).reads (S j)
 slotR: ∀x y m,ins[i]?=some x->ins[j]?=some y->y.dst=some m->Loc.slot m∉(bW F x (new i)).reads (S i)
 blkW: ∀y b,ins[j]?=some y->b∈(eff i).ws.map (·.1)->b∉(eff j).ws.map (·.1)/\Loc.blk b∉(bW F y (new j)).reads (S j)
 blkR: ∀x b,ins[i]?=some x->b∈(eff j).ws.map (·.1)->Loc.blk b∉(bW F x (new i)).reads (S i)
section
variable {F:Orc} {ins:List bU} {new:Nat->Nat} {S:Nat->St} {eff:Nat->Eff}
def wD(ins:List bU)(k:Nat):Option Nat:=(ins[k]?).bind (·.dst)
def pA(ins:List bU)(eff:Nat->Eff)(s0:St)(D:Nat->Bool):Nat->Nat->Option AV|0,m=>lk m s0.env|k+1,m=>if D k=true/\wD ins k=some m then some (eff k).val else pA ins eff s0 D k m
def nH(eff:Nat->Eff)(s0:St)(D:Nat->Bool):Nat->Nat->Option Blk
 |0,b=>s0.sto[b]?
 |k+1,b=>if D k=true then(match jF b (eff k).ws with
  |some y=>some y
  |none=>nH eff s0 D k b)else nH eff s0 D k b
structure Agree(ins:List bU)(eff:Nat->Eff)(s0:St)(D:Nat->Bool)(s:St):Prop where
 slot: ∀m,lk m s.env=pA ins eff s0 D ins.length m
 len:s.sto.length=s0.sto.length
 blk: ∀b,b<s0.sto.length->s.sto[b]?=nH eff s0 D ins.length b
theorem RA(hr:Run F ins new S eff): ∀k,k<=ins.length->(S k).sto.length=(S 0).sto.length
 |0,_=>rfl
 |k+1,h=>by
  have e:ins[k]?=some ins[k]:=zQ9 (by omega);obtain⟨_,h2⟩:=hr.step k _ e;rw[h2,<-RA hr k (by omega)];unfold put;grind [zU]
theorem fw(hr:Run F ins new S eff)(D:Nat->Bool): ∀k,k<=ins.length->(∀j,j<k->D j=true)-> ∀m,pA ins eff (S 0) D k m=lk m (S k).env
 |0,_,_,m=>rfl
 |k+1,h,hD,m=>by
  have e:ins[k]?=some ins[k]:=zQ9 (by omega);obtain⟨_,h2⟩:=hr.step k _ e;simp only[pA];rw[fw hr D k (by omega) (λj g=>hD j (by omega)) m,h2];have hd:wD ins k=ins[k].dst:=by grind [wD]
  rw[hd];unfold put;grind [lk]
theorem eb(hr:Run F ins new S eff)(D:Nat->Bool): ∀k,k<=ins.length->(∀j,j<k->D j=true)-> ∀b,b<(S 0).sto.length->nH eff (S 0) D k b=(S k).sto[b]?
 |0,_,_,b,_=>rfl
 |k+1,h,hD,b,hb=>by
  have e:ins[k]?=some ins[k]:=zQ9 (by omega);obtain⟨_,h2⟩:=hr.step k _ e;simp only[nH];rw[eb hr D k (by omega) (λj g=>hD j (by omega)) b hb,h2,if_pos (hD k (by omega))];have:(put ins[k].dst (eff k) (S k)).sto=upd (eff k).ws (S k).sto:=by unfold put;split<;>rfl
  rw[this,wR _ _ _ (by rw[RA hr k (by omega)];exact hb)]
theorem g7{s0:St}{D D':Nat->Bool}{m:Nat}: ∀n,(∀j,j<n->wD ins j=some m->D j=D' j)->pA ins eff s0 D n m=pA ins eff s0 D' n m
 |0,_=>rfl
 |n+1,h=>by
  simp only[pA];rw[g7 n λj e=>h j (by omega)];grind
theorem gl{s0:St}{D D':Nat->Bool}{b:Nat}: ∀n,(∀j,j<n->b∈(eff j).ws.map (·.1)->D j=D' j)->nH eff s0 D n b=nH eff s0 D' n b
 |0,_=>rfl
 |n+1,h=>by
  simp only[nH];rw[gl n λj e=>h j (by omega)];grind [xH]
theorem SI{s0:St}{D:Nat->Bool}{m k:Nat}: ∀n,k<=n->(∀j,k<=j->j<n->wD ins j=some m->D j=false)->pA ins eff s0 D n m=pA ins eff s0 D k m
 |0,h,_=>by simp_all
 |n+1,h,hD=>by
  by_cases e:k=n+1;subst e;rfl;simp only[pA];rw[SI n (by omega) λj h1 h2=>hD j h1 (by omega)];grind
theorem RO{s0:St}{D:Nat->Bool}{b k:Nat}: ∀n,k<=n->(∀j,k<=j->j<n->b∈(eff j).ws.map (·.1)->D j=false)->nH eff s0 D n b=nH eff s0 D k b
 |0,h,_=>by simp_all
 |n+1,h,hD=>by
  by_cases e:k=n+1;subst e;rfl;simp only[nH];rw[RO n (by omega) λj h1 h2=>hD j h1 (by omega)];grind [xH]
theorem JIx(hr:Run F ins new S eff){D:Nat->Bool}{s:St}(ha:Agree ins eff (S 0) D s){k:Nat}{i:bU}(hk:ins[k]?=some i)(H:D k=false)
  (q: ∀j,j<k->D j=false->OV F ins new S eff j k) (h: ∀j,k<j->j<ins.length->D j=true->OV F ins new S eff k j):
  (bW F i (new k)).run s=some (eff k)/\Agree ins eff (S 0) (λj=>if j=k then true else D j) (put i.dst (eff k) s):=by
 have C:k<ins.length:=(by grind);have g: ∀j,j<ins.length->ins[j]?=some ins[j]! :=λj o=>by simp[o]
 have x: ∀j,j<ins.length->wD ins j=ins[j]!.dst:=λj o=>by grind [wD]
 obtain⟨h1,h2⟩:=hr.step k i hk;have G:wD ins k=i.dst:=by simp_all
 let T:Nat->Bool:=λ_=>true
 have reads: ∀l∈(bW F i (new k)).reads (S k),get s l=get (S k) l:=by
  intro l A;cases l with
  |slot m=>
   simp only[get];rw[ha.slot m]
   congr 1
   rw[SI ins.length (k:=k) (by omega) λj r e hd=>?_];rw[g7 (D':=T) k λj o hd=>?_,fw hr T k (by omega) (λ_ _=>rfl) m];cases hDj:D j with
   |true=>rfl
   |false=>have:=(q j o hDj).slotW _ i m (g j (by omega)) hk (by grind);simp_all
   by_cases n:j=k;simp_all;cases hDj:D j with
   |false=>rfl
   |true=>have:=(h j (by omega) e hDj).slotR i _ m hk (g j e) (by simp_all);simp_all
  |blk b=>
   simp only[get];by_cases v:b<(S 0).sto.length;rw[ha.blk b v]
   congr 1
   rw[RO ins.length (k:=k) (by omega) λj r e hd=>?_];rw[gl (D':=T) k λj o hd=>?_,eb hr T k (by omega) (λ_ _=>rfl) b v];cases hDj:D j with
   |true=>rfl
   |false=>exact absurd A ((q j o hDj).blkW i b hk hd).2
   by_cases n:j=k;simp_all;cases hDj:D j with
   |false=>rfl
   |true=>exact absurd A ((h j (by omega) e hDj).blkR i b hk hd)
   rw[oS (by have:=ha.len;omega),oS (by have:=RA hr k (by omega);omega)]
 refine⟨by grind [JG6],?_,?_,?_⟩;intro m;have w:lk m (put i.dst (eff k) s).env=if i.dst=some m then some (eff k).val else lk m s.env:=(by unfold put;grind [lk])
 rw[w,ha.slot m];by_cases B:i.dst=some m;rw[if_pos B];rw[SI ins.length (k:=k+1) (by omega) λj r e hd=>?_];grind [pA];have n:j≠k:=by omega
 simp only[if_neg n];cases hDj:D j with
 |false=>rfl
 |true=>have:=(h j (by omega) e hDj).slotW i _ m hk (g j e) B;simp_all
 grind [g7];have:(put i.dst (eff k) s).sto=upd (eff k).ws s.sto:=by unfold put;split<;>rfl
 rw[this,zU,ha.len];intro b v;have:(put i.dst (eff k) s).sto=upd (eff k).ws s.sto:=by unfold put;split<;>rfl
 rw[this,wR _ _ _ (by rw[ha.len];exact v),ha.blk b v];by_cases z:b∈(eff k).ws.map (·.1);obtain⟨y,E⟩:=tr z;simp only[E];rw[RO (D:=λj=>if j=k then true else D j) ins.length (k:=k+1) (by omega) λj r e hd=>?_];grind [nH];have n:j≠k:=by omega
 simp only[if_neg n];cases hDj:D j with
 |false=>rfl
 |true=>exact absurd hd ((h j (by omega) e hDj).blkW _ b (g j e) z).1
 grind [xH,gl]
theorem JAQ:Agree ins eff (S 0) (λ_=>false) (S 0):=by
 refine⟨λm=>?_,rfl,λb _=>?_⟩;rw[SI ins.length (k:=0) (zQ2 _) λ_ _ _ _=>rfl];rfl;rw[RO ins.length (k:=0) (zQ2 _) λ_ _ _ _=>rfl];rfl
theorem JFv(hr:Run F ins new S eff){D:Nat->Bool}{s:St}(ha:Agree ins eff (S 0) D s)(hD: ∀j,j<ins.length->D j=true):
  (∀m,lk m s.env=lk m (S ins.length).env)/\s.sto=(S ins.length).sto:=by
 refine⟨λm=>by rw[ha.slot m,fw hr D _ (zQ0 _) hD m],zQ6 λb=>?_⟩;by_cases e:b<(S 0).sto.length;rw[ha.blk b e,eb hr D _ (zQ0 _) hD b e];rw[oS (by have:=ha.len;omega),oS (by have:=RA hr _ (zQ0 _);omega)]
end
end Go.Am
end
section
namespace Go.Am
def oSl:Opd->List Nat| .t n=>[n]| .c _=>[]
def hU:List Opd->List Nat|[]=>[]|x::r=>oSl x++hU r
def WS:Option Opd->List Nat|none=>[]|some x=>oSl x
def cV:AOp->List Nat| .mv x| .box _ x| .appn _ _ _ x| .load _ _ x| .nilchk x| .un _ x| .conv _ x| .faddr _ x| .field _ _ _ x| .extr x _| .len _ x=>oSl x| .mkarr _ _| .newbox _| .alen _=>[]| .pick c a b=>oSl c++(oSl a++oSl b)| .build _ parts=>hU (parts.map (·.2.2))| .lits _ _ _ _ parts=>hU (parts.map (·.2))| .store _ x v=>oSl x++oSl v| .bin _ _ x y| .iaddr _ x y| .aaddr _ _ x y| .sidx x y| .aidx _ _ _ x y| .app _ _ _ x y| .appz _ _ _ x y| .appc _ _ _ x y| .mm _ x y| .mkslice _ _ _ _ x y=>oSl x++oSl y| .slice _ x lo hi mx=>oSl x++(WS lo++(WS hi++WS mx))| .call _ args _=>hU args| .callv g args _=>oSl g++hU args| .mkfn _ a b=>hU a++hU b| .newboxo _ _=>[]| .buildo _ parts _=>hU (parts.map (·.2.2))| .storen _ x=>oSl x| .callo _ _ args _=>hU args
def xA(i:bU):List Nat:=cV i.op++match i.g with|some (g,_)=>[g]|none=>[]
def yV:AOp->Bool| .mkarr _ _| .newbox _| .box _ _| .lits _ _ _ _ _| .store _ _ _| .conv (.toBytes _) _| .mkslice _ _ _ _ _ _| .slice (.sl _) _ _ _ _| .call _ _ _| .callv _ _ _| .app _ _ _ _ _| .appz _ _ _ _ _| .appc _ _ _ _ _| .appn _ _ _ _| .newboxo _ _| .buildo _ _ _| .storen _ _| .callo _ _ _ _=>true|_=>false
def IM:AOp->Bool| .load _ _ _| .iaddr _ _ _| .conv .toStr _=>true|op=>yV op
def Sl{α:Type}(L:List Nat)(m:RM α):Prop:= ∀s n,Loc.slot n∈m.reads s->n∈L
section
variable {α β:Type} {L:List Nat}
theorem bG(a:α):Sl L (.ret a):=λs n h=>by grind [RM.reads]
theorem cK:Sl L (.fail:RM α):=λs n h=>by grind [RM.reads]
theorem rJ{b:Nat}{k:Blk->RM α}(h: ∀v,Sl L (k v)):Sl L (.blk b k):=λs n e=>by
 simp only[RM.reads,cS]at e;rcases e with e|e;cases e;split at e;exact h _ s n e;simp at e
theorem Fe{m:Nat}{k:AV->RM α}(hm:m∈L)(h: ∀v,Sl L (k v)):Sl L (.slot m k):=λs n e=>by
 simp only[RM.reads,cS]at e;rcases e with e|e;simp_all;split at e;exact h _ s n e;simp at e
theorem Jv{m:RM α}{f:α->RM β}(h:Sl L m)(hf: ∀a,Sl L (f a)):Sl L (m.bind f):=λs n e=>by
 rw[xI,cF]at e;rcases e with e|e;exact h s n e;cases hr:m.run s with
 |none=>simp[hr]at e
 |some a=>simp[hr]at e;exact hf a s n e
theorem JKz{L':List Nat}{m:RM α}(h:Sl L m)(hl: ∀x∈L,x∈L'):Sl L' m:=λs n e=>hl n (h s n e)
theorem YK{c:Prop} [Decidable c]{x y:RM α}(hx:Sl L x)(hy:Sl L y):Sl L (if c then x else y):=by grind
end
theorem cG{L:List Nat}(x:Opd)(h: ∀n∈oSl x,n∈L):Sl L (ev x):=by
 cases x with
 |t n=>exact Fe (h n (by simp[oSl])) λv=>bG v
 |c v=>exact bG v
theorem FI{L:List Nat}: ∀(xs:List Opd),(∀n∈hU xs,n∈L)->Sl L (evs xs)|[],_=>bG _|x::xs,h=>Jv (cG x λn e=>h n (by simp[hU,e])) λv=>Jv (FI xs λn e=>h n (by simp[hU,e])) λvs=>bG _
theorem ZD{L:List Nat}(x:Option Opd)(h: ∀n∈WS x,n∈L):Sl L (evo x):=by
 cases x with
 |none=>exact bG _
 |some x=>exact Jv (cG x h) λv=>bG _
theorem nV{L:List Nat}(x:Option AV):Sl L (val x):=by cases x<;>first|exact cK|exact bG _
theorem JLZ{L:List Nat}(x:AV):Sl L (fz.fz1 x):=by
 cases x<;>try exact cK
 exact bG _;refine rJ λv=>?_;grind [cK,bG]
theorem D4{L:List Nat}: ∀(xs:List AV),Sl L (fz.fzL xs)|[]=>bG _|x::xs=>Jv (JLZ x) λ_=>Jv (D4 xs) λ_=>bG _
theorem KN{L:List Nat}(x:AV):Sl L (fz x):=by
 cases x<;>try first|exact cK|exact bG _
 exact D4 _;refine rJ λv=>?_;grind [cK,bG]
theorem C6{L:List Nat}: ∀(xs:List Opd),(∀n∈hU xs,n∈L)->Sl L (fzs xs)|[],_=>bG _|x::xs,h=>Jv (cG x λn e=>h n (by simp[hU,e])) λv=>Jv (KN v) λ_=>Jv (C6 xs λn e=>h n (by simp[hU,e])) λ_=>bG _
theorem SO{L:List Nat}(esz:Nat)(x:AV):Sl L (fG esz x):=by
 unfold fG;grind [bG,cK,rJ]
theorem JH1{L:List Nat}(agg:Bool)(size:Nat)(x:AV):Sl L (gE agg size x):=by
 unfold gE;split
 all_goals grind [nV,cK,rJ]
theorem rc{L:List Nat}(size:Nat)(x v:AV):Sl L (iA size x v):=by
 unfold iA;split;grind [rJ,cK,bG];refine rJ λv=>?_;grind [cK,Jv,KN,bG];simp[cK]
theorem JFp{L:List Nat}(esz:Nat)(x i:AV):Sl L (mE esz x i):=by
 unfold mE;grind [cK,bG,rJ]
theorem E4{L:List Nat}(esz bytes:Nat)(x y:AV):Sl L (iM esz bytes x y):=by
 unfold iM;grind [rJ,cK,Jv,SO,bG]
theorem QX{L:List Nat}(ws:List (Nat×Blk))(b:Nat):Sl L (qO ws b):=
 rJ λv=>by grind [bG]
theorem FX{L:List Nat}(ws:List (Nat×Blk)): ∀(es acc:List Ent),Sl L (eB ws es acc)
 |[],acc=>bG _
 | .whole b::r,acc=>Jv (QX ws b) λv=>by cases v<;>exact FX ws r _
 | .elem b e i::r,acc=>FX ws r acc
theorem ZW{L:List Nat}(x:AV):Sl L (jB x):=by
 cases x<;>try first|exact cK|exact bG _
 exact Jv (KN _) λ_=>bG _;refine Jv (KN _) λa=>?_;grind [bG,cK]
theorem qk{L:List Nat}: ∀(xs:List AV),Sl L (kK xs)|[]=>bG _|x::xs=>Jv (ZW x) λ_=>Jv (qk xs) λ_=>bG _
theorem JIM{L:List Nat}(ws:List (Nat×Blk))(ρ:Ent->Option Nat)(e:Ent):Sl L (zC ws ρ e):=by
 cases e with
 |whole b=>
  refine Jv (QX ws b) λv=>?_;grind [cK,bG]
 |elem b e i=>
  refine Jv (QX ws b) λv=>?_;grind [cK,bG]
theorem fx{L:List Nat}(ws:List (Nat×Blk))(ρ:Ent->Option Nat): ∀(es:List Ent),Sl L (kQ ws ρ es)|[]=>bG _|e::r=>Jv (JIM ws ρ e) λ_=>Jv (fx ws ρ r) λ_=>bG _
theorem JFr{L:List Nat}(ws:List (Nat×Blk))(es:List Ent)(new:Nat)(e:Ent)(x:Blk):Sl L (tY ws es new e x):=by
 unfold tY;grind [bG,cK,Jv,QX]
theorem g0{L:List Nat}(ws:List (Nat×Blk))(es:List Ent)(new:Nat): ∀(e:List Ent) (x:List Blk),Sl L (iS ws es new e x)|[],_=>bG _|_::_,[]=>cK|e::r,x::l=>Jv (JFr ws es new e x) λ_=>Jv (g0 ws es new r l) λ_=>bG _
theorem pa{L:List Nat}(F:Orc)(f:FuncId)(args:List AV)(k new:Nat):Sl L (hX F f args k new):=by
 unfold hX;refine Jv (qk _) λa=>Jv (FX _ _ _) λe=>Jv (FX _ _ _) λes=>YK ?_ cK;split
 all_goals grind [cK,Jv,fx,g0,bG]
theorem JFu{L:List Nat}(F:Orc)(f:FuncId)(a:List AV×List (Nat×Blk))(k new:Nat):Sl L (fP F f a k new):=by
 unfold fP;refine Jv (FX _ _ _) λe=>Jv (FX _ _ _) λes=>YK ?_ cK;split
 all_goals grind [cK,Jv,fx,g0,bG]
theorem RZ{L:List Nat}: ∀(m:List Bool) (xs:List AV),Sl L (fC m xs)
 |_,[]=>by cases ‹List Bool›<;>exact bG _
 |[],x::xs=>Jv (ZW x) λ_=>Jv (RZ [] xs) λ_=>bG _
 |true::m,x::xs=>Jv (RZ m xs) λ_=>bG _
 |false::m,x::xs=>Jv (ZW x) λ_=>Jv (RZ m xs) λ_=>bG _
theorem gn{L:List Nat}: ∀(xs:List (Nat×Nat×Opd)),(∀n∈hU (xs.map (·.2.2)),n∈L)->Sl L (kM xs)
 |[],_=>bG _
 |(a,b,x)::xs,h=>by
  unfold kM;refine Jv (cG x λn e=>h n (by simp[hU,e])) λv=>?_;split;exact Jv (gn xs λn e=>h n (by simp[hU,e])) λ_=>bG _;simp[cK]
theorem JM5(F:Orc)(op:AOp)(new:Nat):Sl (cV op) (opR F op new):=by
 cases op with
 |mv x=>exact Jv (cG x λn h=>h) λv=>bG _
 |mkarr=>exact bG _
 |appn esz bytes zero y=>exact Jv (cG y λn h=>h) λv=>Jv (SO _ _) λ_=>YK (bG _) cK
 |pick c a b=>
  refine Jv (cG c λn h=>by grind [cV]) λv=>?_;grind [Jv,cG,cV,bG,cK]
 |newbox=>exact bG _
 |box size x=>
  refine Jv (cG x λn h=>h) λv=>?_;grind [bG,cK]
 |build zero parts=>
  refine Jv (gn parts λn h=>h) λv=>?_;grind [nV,cK]
 |lits own esz n zero parts=>
  refine Jv (C6 _ λn h=>h) λv=>?_;grind [bG,cK]
 |load agg size x=>exact Jv (cG x λn h=>h) λv=>JH1 _ _ _
 |store size x y=>exact Jv (cG x λn h=>by grind [cV]) λv=>Jv (cG y λn h=>by grind [cV]) λ_=>rc _ _ _
 |nilchk x=>
  refine Jv (cG x λn h=>h) λv=>?_;grind [bG,cK]
 |bin op t x y=>exact Jv (cG x λn h=>by grind [cV]) λv=>Jv (cG y λn h=>by grind [cV]) λ_=>nV _
 |un op x=>exact Jv (cG x λn h=>h) λv=>nV _
 |conv k x=>
  refine Jv (cG x λn h=>h) λv=>?_;grind [bG,Jv,SO,cK]
 |mkslice own esz bytes zero x y=>
  refine Jv (cG x λn h=>by grind [cV]) λv=>Jv (cG y λn h=>by grind [cV]) λu=>?_;grind [bG,cK]
 |slice k x lo hi mx=>
  refine Jv (cG x λn h=>by grind [cV]) λv=>Jv (ZD lo λn h=>by grind [cV]) λ_=>Jv (ZD hi λn h=>by grind [cV]) λ_=>Jv (ZD mx λn h=>by grind [cV]) λ_=>?_;grind [Jv,KN,bG,cK,nV]
 |faddr off x=>exact Jv (cG x λn h=>h) λv=>nV _
 |field agg off size x=>exact Jv (cG x λn h=>h) λv=>nV _
 |iaddr esz x y=>exact Jv (cG x λn h=>by grind [cV]) λv=>Jv (cG y λn h=>by grind [cV]) λ_=>JFp _ _ _
 |aaddr len esz x y=>exact Jv (cG x λn h=>by grind [cV]) λv=>Jv (cG y λn h=>by grind [cV]) λ_=>nV _
 |sidx x y=>
  refine Jv (cG x λn h=>by grind [cV]) λv=>Jv (cG y λn h=>by grind [cV]) λu=>?_;grind [cK,bG]
 |aidx agg len esz x y=>
  refine Jv (cG x λn h=>by grind [cV]) λv=>Jv (cG y λn h=>by grind [cV]) λu=>?_;grind [nV,cK]
 |extr x i=>exact Jv (cG x λn h=>h) λv=>nV _
 |call f args k=>exact Jv (FI args λn h=>h) λv=>pa _ _ _ _ _
 |callv g args k=>
  refine Jv (cG g λn h=>by grind [cV]) λv=>?_;grind [cK,Jv,FI,cV,pa]
 |len str x=>exact Jv (cG x λn h=>h) λv=>nV _
 |alen n=>exact bG _
 |appz esz bytes zero x y=>
  refine Jv (cG x λn h=>by grind [cV]) λv=>Jv (cG y λn h=>by grind [cV]) λc=>?_;grind [E4,cK]
 |appc esz bytes zero x y=>
  refine Jv (cG x λn h=>by grind [cV]) λv=>Jv (cG y λn h=>by grind [cV]) λc=>?_;unfold IN;grind [Jv,SO,bG,cK]
 |app esz bytes zero x y=>exact Jv (cG x λn h=>by grind [cV]) λv=>Jv (cG y λn h=>by grind [cV]) λ_=>E4 _ _ _ _
 |mm mx x y=>exact Jv (cG x λn h=>by grind [cV]) λv=>Jv (cG y λn h=>by grind [cV]) λ_=>nV _
 |mkfn f a b=>exact Jv (FI a λn h=>by grind [cV]) λv=>Jv (FI b λn h=>by grind [cV]) λ_=>bG _
 |newboxo=>exact bG _
 |buildo zero parts os=>
  refine Jv (gn parts λn h=>h) λv=>?_;grind [bG,cK]
 |storen esz x=>exact Jv (cG x λn h=>h) λv=>Jv (rc _ _ _) λ_=>bG _
 |callo f keep args k=>exact Jv (FI args λn h=>h) λv=>Jv (RZ _ _) λ_=>JFu _ _ _ _ _
theorem ql{L:List Nat}: ∀(k new:Nat),Sl L (tO new k)|0,_=>bG _|k+1,new=>rJ λv=>by cases v<;>first|exact ql k _|exact cK
theorem G2(F:Orc)(i:bU)(new:Nat):Sl (xA i) (bW F i new):=by
 have h:Sl (xA i) (opD F i.op new):=Jv (ql _ _) λ_=>JKz (JM5 F i.op new) λx e=>by grind [xA]
 grind [bW,Fe,xA,bG,cK]
end Go.Am
end
section
namespace Go.Am
def W0(m:RM Eff):Prop:= ∀s e,m.run s=some e->e.ws=[]
def B0{α:Type}(m:RM α):Prop:= ∀s e,m.run s=some e-> ∀b,Loc.blk b∉m.reads s
theorem nW(x:Option AV):W0 (val x):=λs e h=>by cases x<;>grind [val,RM.run]
theorem pF(v:AV):W0 (.ret ⟨v,[]⟩):=λs e h=>by grind [RM.run]
theorem rO:W0 .fail:=λs e h=>by cases h
theorem dH{α:Type}{m:RM α}{f:α->RM Eff}(h: ∀a,W0 (f a)):W0 (m.bind f):=λs e g=>by
 rw[run_bind]at g;cases hm:m.run s with
 |none=>simp_all
 |some a=>rw[hm]at g;exact h a s e g
theorem C9{b:Nat}{k:Blk->RM Eff}(h: ∀v,W0 (k v)):W0 (.blk b k):=λs e g=>by
 simp only[RM.run]at g;split at g;exact h _ s e g;cases g
theorem JKo{g:Nat}{k:AV->RM Eff}(h: ∀v,W0 (k v)):W0 (.slot g k):=λs e j=>by
 simp only[RM.run]at j;split at j;exact h _ s e j;cases j
theorem hY{α:Type}(a:α):B0 (.ret a):=λs e _ b h=>by grind [RM.reads]
theorem uE{α:Type}:B0 (.fail:RM α):=λs e h=>by cases h
theorem pK(x:Option AV):B0 (val x):=by cases x<;>first|exact uE|exact hY _
theorem cZ{α β:Type}{m:RM α}{f:α->RM β}(hm:B0 m)(h: ∀a,B0 (f a)):B0 (m.bind f):=λs e j b g=>by
 rw[run_bind]at j;rw[xI]at g;cases hr:m.run s with
 |none=>simp_all
 |some a=>
  rw[hr]at j g;rcases cF.1 g with g|g;exact hm s a hr b g;exact h a s e j b (by simpa using g)
theorem eP(x:Opd):B0 (ev x):=by
 cases x with
 |t n=>exact λs e _ b h=>by grind [ev,RM.reads]
 |c v=>exact hY _
theorem JL2{α:Type}{g:Nat}{k:AV->RM α}(h: ∀v,B0 (k v)):B0 (.slot g k):=λs e n b j=>by
 simp only[RM.run]at n;simp only[RM.reads,cS]at j;rcases j with j|j;cases j;cases hl:lk g s.env with
 |none=>simp_all
 |some v=>rw[hl]at n j;exact h v s e n b j
theorem ZO: ∀xs:List Opd,B0 (evs xs)|[]=>hY _|x::xs=>cZ (eP x) λ_=>cZ (ZO xs) λ_=>hY _
theorem YU(x:Option Opd):B0 (evo x):=by
 cases x with
 |none=>exact hY _
 |some x=>exact cZ (eP x) λ_=>hY _
theorem rl: ∀(xs:List (Nat×Nat×Opd)),B0 (kM xs)
 |[]=>hY _
 |(a,b,x)::xs=>by
  unfold kM;refine cZ (eP x) λv=>?_;split;exact cZ (rl xs) λ_=>hY _;simp[uE]
theorem Fz(lo hi mx:Option AV)(c:PV)(hc: ∀l,c≠.s l):kO .str (.p c) lo hi mx=none:=by
 cases mx with
 |some _=>rfl
 |none=>cases c<;>first|rfl|simp_all
theorem JLK(F:Orc)(op:AOp)(new:Nat)(h:yV op=false):W0 (opR F op new):=by
 cases op with
 |mkarr=>cases h
 |newboxo=>cases h
 |buildo=>cases h
 |storen=>cases h
 |callo=>cases h
 |newbox=>cases h
 |box=>cases h
 |lits=>cases h
 |store=>cases h
 |mkslice=>cases h
 |call=>cases h
 |callv=>cases h
 |app=>cases h
 |appz=>cases h
 |appc=>cases h
 |appn=>cases h
 |mv x=>exact dH λ_=>pF _
 |pick c a b=>
  refine dH λv=>?_;grind [dH,pF,rO]
 |build zero parts=>
  refine dH λv=>?_;grind [nW,rO]
 |load agg size x=>
  refine dH λv=>?_;unfold gE;split
  all_goals grind [nW,rO,C9]
 |nilchk x=>
  refine dH λv=>?_;grind [pF,rO]
 |bin op t x y=>exact dH λ_=>dH λ_=>nW _
 |un op x=>exact dH λ_=>nW _
 |conv k x=>
  refine dH λv=>?_;split;exact pF _;exact pF _;grind [dH,pF,rO];cases h;simp[rO]
 |slice k x lo hi mx=>
  cases k with
  |sl esz=>cases h
  |str=>
   refine dH λv=>dH λ_=>dH λ_=>dH λ_=>?_;split;rename_i b i n;intro s e g;exfalso;rw[run_bind]at g;cases h1:(fz (.slr b i n)).run s<;>grind [fz,RM.run,Fz]
   simp[nW]
 |faddr off x=>exact dH λ_=>nW _
 |field agg off size x=>exact dH λ_=>nW _
 |iaddr esz x y=>
  refine dH λv=>dH λu=>?_;unfold mE;grind [rO,pF,C9]
 |aaddr len esz x y=>exact dH λ_=>dH λ_=>nW _
 |sidx x y=>
  refine dH λv=>dH λu=>?_;grind [rO,pF]
 |aidx agg len esz x y=>
  refine dH λv=>dH λu=>?_;grind [nW,rO]
 |extr x i=>exact dH λ_=>nW _
 |len str x=>exact dH λ_=>nW _
 |alen n=>exact pF _
 |mm mx x y=>exact dH λ_=>dH λ_=>nW _
 |mkfn f a b=>exact dH λ_=>dH λ_=>pF _
theorem JMq(F:Orc)(op:AOp)(new:Nat)(h:IM op=false):B0 (opR F op new):=by
 cases op with
 |mkarr=>cases h
 |newboxo=>cases h
 |buildo=>cases h
 |storen=>cases h
 |callo=>cases h
 |newbox=>cases h
 |box=>cases h
 |lits=>cases h
 |store=>cases h
 |mkslice=>cases h
 |call=>cases h
 |callv=>cases h
 |app=>cases h
 |appz=>cases h
 |appc=>cases h
 |appn=>cases h
 |load=>cases h
 |iaddr=>cases h
 |mv x=>exact cZ (eP x) λ_=>hY _
 |pick c a b=>
  refine cZ (eP c) λv=>?_;grind [cZ,eP,hY,uE]
 |build zero parts=>
  refine cZ (rl parts) λv=>?_;grind [pK,uE]
 |nilchk x=>
  refine cZ (eP x) λv=>?_;grind [hY,uE]
 |bin op t x y=>exact cZ (eP x) λ_=>cZ (eP y) λ_=>pK _
 |un op x=>exact cZ (eP x) λ_=>pK _
 |conv k x=>
  refine cZ (eP x) λv=>?_;split;exact hY _;exact hY _;cases h;cases h;simp[uE]
 |slice k x lo hi mx=>
  cases k with
  |sl esz=>cases h
  |str=>
   refine cZ (eP x) λv=>cZ (YU lo) λ_=>cZ (YU hi) λ_=>cZ (YU mx) λ_=>?_;split;rename_i b i n;intro s e g;exfalso;rw[run_bind]at g;cases h1:(fz (.slr b i n)).run s<;>grind [fz,RM.run,Fz]
   simp[pK]
 |faddr off x=>exact cZ (eP x) λ_=>pK _
 |field agg off size x=>exact cZ (eP x) λ_=>pK _
 |aaddr len esz x y=>exact cZ (eP x) λ_=>cZ (eP y) λ_=>pK _
 |sidx x y=>
  refine cZ (eP x) λv=>cZ (eP y) λu=>?_;grind [uE,hY]
 |aidx agg len esz x y=>
  refine cZ (eP x) λv=>cZ (eP y) λu=>?_;grind [pK,uE]
 |extr x i=>exact cZ (eP x) λ_=>pK _
 |len str x=>exact cZ (eP x) λ_=>pK _
 |alen n=>exact hY _
 |mm mx x y=>exact cZ (eP x) λ_=>cZ (eP y) λ_=>pK _
 |mkfn f a b=>exact cZ (ZO a) λ_=>cZ (ZO b) λ_=>hY _
theorem De{op:AOp}(h:IM op=false):yV op=false:=by
 cases op<;>first|rfl|cases h|skip
 rename_i k x;cases k<;>first|rfl|cases h
 rename_i k x lo hi mx;cases k<;>first|rfl|cases h
theorem JKM{op:AOp}(h:yV op=false):lB op=0:=by
 cases op<;>first|rfl|cases h|skip
 rename_i k x;cases k<;>first|rfl|cases h
theorem ct(F:Orc)(i:bU)(new:Nat)(h:yV i.op=false):W0 (bW F i new):=by
 have h1:W0 (opD F i.op new):=dH λ_=>JLK F _ _ h;grind [bW,JKo,pF,rO]
theorem F8(F:Orc)(i:bU)(new:Nat)(h:IM i.op=false):B0 (bW F i new):=by
 have h1:B0 (opD F i.op new):=by unfold opD;rw[JKM (De h)];exact cZ (hY _) λ_=>JMq F _ _ h
 grind [bW,JL2,hY,uE]
end Go.Am
end
section
namespace Go.Am
theorem bind_some{α β:Type}{m:RM α}{f:α->RM β}{s:St}{b:β}(h:(m.bind f).run s=some b): ∃a,m.run s=some a/\(f a).run s=some b:=by rw[run_bind]at h;cases hm:m.run s<;>simp_all
theorem gJ{x:Option AV}{s:St}{e:Eff}(h:(val x).run s=some e): ∃v,x=some v/\e=⟨v,[]⟩:=by cases x<;>simp_all [val,RM.run]
theorem F2{w C c v}(h:okP c v=true):J09 w C c v:=by
 unfold okP at h;split at h;rename_i x y;have:x=y:=by simpa using h
 subst this;exact .b _;simp at h;obtain⟨rfl,rfl⟩:=h;exact .i _ _;rename_i l e;have:l=e.data.toList:=by simpa using h
 subst this;exact .s _;exact .sl0 _ _ _;exact .np;exact .nf;cases h
theorem SD{w C}: ∀{cs:List PV} {vs:List Value},yL cs vs=true->cs.length=vs.length/\ ∀(i:Nat) x v,cs[i]?=some x->vs[i]?=some v->J09 w C x v
 |[],[],_=>⟨rfl,λi x v h=>by simp at h⟩
 |x::xs,v::vs,h=>by
  simp only[yL,aS]at h;obtain⟨h1,h2⟩:=SD (w:=w) (C:=C) h.2;grind [F2]
 |[],_::_,h=>by grind [yL]
 |_::_,[],h=>by grind [yL]
theorem JJW{s:Sn}{c v}(h:okC c v=true):JH s c v:=by
 unfold okC at h;split at h;exact .p _ _ (F2 h);rename_i cs vs;obtain⟨h1,h2⟩:=SD (w:=s.w) (C:=s.g.C) h;exact .data _ _ (by simpa using h1) λi x v j e=>h2 i x v j (by simpa using e);rename_i f g a c;simp at h;obtain⟨⟨rfl,rfl⟩,rfl⟩:=h;exact .fn _ _ _ _ _ rfl rfl (λi x v h=>by simp at h) (λi x v h=>by simp at h);simp at h;subst h;exact .tup _ _ rfl (λi x v h=>by simp at h);cases h
def bN(s:Sn)(tmps:Array Value)(env:List (Nat×AV)):Prop:= ∀n x,lk n env=some x-> ∃v,tmps[n]?=some v/\JH s x v
theorem bN.mono{s0 s:Sn}(hi:Inv s0)(t:bB s0 s){tmps env}(h:bN s0 tmps env):bN s tmps env:=
 λn x e=>let⟨v,h1,h2⟩:=h n x e;⟨v,h1,h2.mono hi t⟩
section
variable {P:Program} {s:Sn} {a:Act} {env:List (Nat×AV)}
theorem bJ(he:bN s a.tmps env){x:Opd}{y:Operand}{v:AV}(h:(ev x).run ⟨env,s.σ⟩=some v)(hc:bL x y=true):JH s v (a.eval y):=by
 cases x with
 |t n=>
  cases y<;>simp[bL]at hc;subst hc;simp only[ev,RM.run]at h;split at h
  rename_i u e;injection h with h;subst h;obtain⟨w,h1,h2⟩:=he _ _ e;simp_all [Act.eval];cases h
 |c z=>
  simp only[ev,RM.run]at h;injection h with h;subst h;cases y with
  |const u=>exact JJW (v:=u) (by grind [bL])
  |func g=>
   cases z<;>simp[bL]at hc;rename_i f first caps
   cases first<;>cases caps<;>simp[bL]at hc
   subst hc;exact .fn _ _ _ _ _ rfl rfl (λi x v h=>by simp at h) (λi x v h=>by simp at h)
  |tmp n=>grind [bL]
  |global n=>grind [bL]
theorem FQ(he:bN s a.tmps env): ∀{xs:List Opd} {e:List Operand} {vs:List AV},(evs xs).run ⟨env,s.σ⟩=some vs->iP xs e=true->
  vs.length=e.length/\ ∀(i:Nat) x v,vs[i]?=some x->(e.map a.eval)[i]?=some v->JH s x v
 |[],[],vs,h,_=>by
  grind [evs,RM.run]
 |x::xs,y::e,vs,h,hc=>by
  simp only[iP,aS]at hc;simp only[evs]at h;obtain⟨u,h1,h⟩:=bind_some h;obtain⟨g,h2,h⟩:=bind_some h;simp only[RM.run]at h;injection h with h;subst h;obtain⟨l,r⟩:=FQ he h2 hc.2;grind [bJ]
 |[],_::_,_,_,hc=>by grind [iP]
 |_::_,[],_,_,hc=>by grind [iP]
def bM(P:Program)(o:Oper)(a:Act)(s:Sn)(e:Eff):Prop:= ∀(next:Act->World->Prop) (Q:Exit->Act->World->Prop),(∀v w' g',Inv ⟨upd e.ws s.σ,g',w'⟩->bB s ⟨upd e.ws s.σ,g',w'⟩->JH ⟨upd e.ws s.σ,g',w'⟩ e.val v->next (a.put o.dst v) w')->o.wp P a s.w next Q
theorem gY{o:Oper}{e:Eff}{v:Value}{w':World}{g':Gh}(hr:(execOp a.eval o).run P s.w=.ok (.value v) w')
  (hi:Inv ⟨upd e.ws s.σ,g',w'⟩) (t:bB s ⟨upd e.ws s.σ,g',w'⟩) (hv:JH ⟨upd e.ws s.σ,g',w'⟩ e.val v):bM P o a s e:=by
 intro next Q h;grind [Oper.wp,Oper.upon]
theorem JL{o:Oper}{x:AV}{v:Value}(hi:Inv s)(hr:(execOp a.eval o).run P s.w=.ok (.value v) s.w)(hv:JH s x v):bM P o a s ⟨x,[]⟩:=
 gY (e:=⟨x,[]⟩) (g':=s.g) hr hi (.refl s) hv
theorem vy{t:TypeId}{i:TypeInfo}(h:P.info? t=some i)(w:World):(typeInfo t).run P w=.ok i w:=by simp[typeInfo,h]
theorem jS{t:TypeId}{n:Nat}(h:szT P t=some n)(w:World):(sizeOf t).run P w=.ok n w:=by unfold szT at h;cases hi:P.info? t<;>simp_all [sizeOf,vy]
theorem FV{t:TypeId}{b:Bool}(h:agT P t=some b)(w:World):(isAgg t).run P w=.ok b w:=by
 unfold agT at h;cases hu:P.underlying t with
 |none=>simp_all
 |some d=>rw[hu]at h;simp at h;simp only[isAgg,yW,run_underlying hu,tE];subst h;cases d<;>rfl
theorem gH{t e:TypeId}(h:elT P t=some e):P.underlying t=some (.slice e):=by
 grind [elT]
theorem xD{t:TypeId}(h:jK P t=true):P.underlying t=some .string:=by
 grind [jK]
theorem qt{t:TypeId}(h:VZ P t=true):P.underlying t=some (.int .u8):=by
 grind [VZ]
theorem H4{t:TypeId}(h:ZU P t=true):P.underlying t=some .bool:=by
 grind [ZU]
theorem JFE{t:TypeId}(h:nu P t=true): ∃k,P.underlying t=some (.int k):=by
 grind [nu]
theorem JEN{t:TypeId}{k:IntKind}(h:ZI P k t=true):P.underlying t=some (.int k):=by
 grind [ZI]
theorem fh{t e:TypeId}{n:Nat}(h:arT P t=some (n,e)):P.underlying t=some (.array n e):=by
 grind [arT]
theorem qe{t:TypeId}{fs:Array Field}(h:flT P t=some fs):P.underlying t=some (.struct fs):=by
 grind [flT]
theorem iR{x k n}(h:JH s (.p (.i k n)) x):x=.int k n:=by cases h with|p _ _ h=>cases h;rfl
theorem QK{x n}(h:JH s (.p (.b n)) x):x=.bool n:=by cases h with|p _ _ h=>cases h;rfl
theorem tX{x l}(h:JH s (.p (.s l)) x):x=.string ⟨l.toArray⟩:=by cases h with|p _ _ h=>cases h;rfl
theorem JJN{x}(h:JH s (.p .np) x):x=.pointer none:=by cases h with|p _ _ h=>cases h;rfl
theorem JLa{x}(h:JH s (.p .nf) x):x=.nilFunc:=by cases h with|p _ _ h=>cases h;rfl
theorem pL(k n):JH s (.p (.i k n)) (.int k n):=.p _ _ (.i _ _)
theorem pO(n):JH s (.p (.b n)) (.bool n):=.p _ _ (.b _)
theorem F6(l):JH s (.p (.s l)) (.string ⟨l.toArray⟩):=.p _ _ (.s _)
theorem uC(l:List UInt8):ByteArray.size ⟨l.toArray⟩=l.length:=by simp[ByteArray.size]
theorem JFY(l m:List UInt8):(⟨l.toArray⟩:ByteArray)++⟨m.toArray⟩=⟨(l++m).toArray⟩:=by apply ByteArray.ext;simp_all
theorem H5{op:BinOp}{k:IntKind}{x y:Int}{t:TypeId}{r:PV}(n:op≠.shl)(j:op≠.shr)(h:yB op k x y=some r)(w:World):
  ∃v,(binOp op t (.int k x) (.int k y)).run P w=.ok v w/\J09 s.w s.g.C r v:=by
 cases op<;>simp only[yB]at h
 case add=>injection h with h;subst h;exact⟨_,by simp[binOp,Op.intArith],.i _ _⟩
 case sub=>injection h with h;subst h;exact⟨_,by simp[binOp,Op.intArith],.i _ _⟩
 case mul=>injection h with h;subst h;exact⟨_,by simp[binOp,Op.intArith],.i _ _⟩
 case quo=>split at h
           cases h;rename_i e;injection h with h;subst h;exact⟨_,by simp[binOp,Op.intDiv,e],.i _ _⟩
 case rem=>split at h
           cases h;rename_i e;injection h with h;subst h;exact⟨_,by simp[binOp,Op.intDiv,e],.i _ _⟩
 case and=>injection h with h;subst h;exact⟨_,by simp[binOp,Op.intBits],.i _ _⟩
 case or=>injection h with h;subst h;exact⟨_,by simp[binOp,Op.intBits],.i _ _⟩
 case xor=>injection h with h;subst h;exact⟨_,by simp[binOp,Op.intBits],.i _ _⟩
 case eql=>injection h with h;subst h;exact⟨_,by simp[binOp,Op.intCmp],.b _⟩
 case neq=>injection h with h;subst h;exact⟨_,by simp[binOp,Op.intCmp],.b _⟩
 case lss=>injection h with h;subst h;exact⟨_,by simp[binOp,Op.intCmp],.b _⟩
 case leq=>injection h with h;subst h;exact⟨_,by simp[binOp,Op.intCmp],.b _⟩
 case gtr=>injection h with h;subst h;exact⟨_,by simp[binOp,Op.intCmp],.b _⟩
 case geq=>injection h with h;subst h;exact⟨_,by simp[binOp,Op.intCmp],.b _⟩
 all_goals simp_all
theorem wl{op:BinOp}{k k':IntKind}{x y:Int}{t:TypeId}{r:PV}(hs:op=.shl\/op=.shr)(h:LQ op k x y=some r)(w:World):
  ∃v,(binOp op t (.int k x) (.int k' y)).run P w=.ok v w/\J09 s.w s.g.C r v:=by
 unfold LQ at h;split at h;cases h;rename_i e;rcases hs with rfl|rfl;injection h with h;subst h;exact⟨_,by simp[binOp,Op.shift,e],.i _ _⟩;injection h with h;subst h;exact⟨_,by simp[binOp,Op.shift,e],.i _ _⟩
theorem JAN{op:BinOp}{x y:List UInt8}{t:TypeId}{r:PV}(h:yG op x y=some r)(w:World):
  ∃v,(binOp op t (.string ⟨x.toArray⟩) (.string ⟨y.toArray⟩)).run P w=.ok v w/\J09 s.w s.g.C r v:=by
 cases op<;>simp only[yG]at h
 case add=>
  split at h;rename_i e;injection h with h;subst h;refine⟨.string ⟨(x++y).toArray⟩,?_,.s _⟩;have h1: ¬(((ByteArray.size ⟨x.toArray⟩+ByteArray.size ⟨y.toArray⟩:Nat):Int)>IntKind.i64.max):=by rw[uC,uC];show¬(_>(9223372036854775807:Int));omega
  simp_all [binOp,Op.stringOp,JFY];cases h
 case eql=>injection h with h;subst h;exact⟨.bool (x==y),by simp[binOp,Op.stringOp],.b _⟩
 case neq=>injection h with h;subst h;exact⟨.bool (!(x==y)),by simp[binOp,Op.stringOp],.b _⟩
 case lss=>injection h with h;subst h;exact⟨.bool (Op.bytesLess x y),by simp[binOp,Op.stringOp],.b _⟩
 case leq=>injection h with h;subst h;exact⟨.bool (Op.bytesLess x y||x==y),by simp[binOp,Op.stringOp],.b _⟩
 case gtr=>injection h with h;subst h;exact⟨.bool (!(Op.bytesLess x y||x==y)),by simp[binOp,Op.stringOp],.b _⟩
 case geq=>injection h with h;subst h;exact⟨.bool (!Op.bytesLess x y),by simp[binOp,Op.stringOp],.b _⟩
 all_goals cases h
end
end Go.Am
end
section
namespace Go.Am
section
variable {P:Program} {F:Orc} {s:Sn} {a:Act} {env:List (Nat×AV)} {o:Oper} {new:Nat} {e:Eff}
theorem JNN(hi:Inv s)(he:bN s a.tmps env){x}(h:(opR F (.mv x) new).run ⟨env,s.σ⟩=some e)(hc:JX P (.mv x) o.op=true):bM P o a s e:=by
 simp only[opR]at h;obtain⟨v,h1,h⟩:=bind_some h;simp only[RM.run]at h;injection h with h;subst h;unfold JX at hc;simp only at hc;split at hc;rename_i y g;exact JL hi (by simp_all [execOp]) (bJ he h1 hc);rename_i y g;exact JL hi (by simp_all [execOp]) (bJ he h1 hc);cases hc
theorem JK2(hi:Inv s)(he:bN s a.tmps env){c x y}(h:(opR F (.pick c x y) new).run ⟨env,s.σ⟩=some e)(hc:JX P (.pick c x y) o.op=true):bM P o a s e:=by
 simp only[opR]at h;obtain⟨v,h1,h⟩:=bind_some h;unfold JX at hc;simp only at hc;split at hc;rename_i c' k j n;simp only[aS]at hc;split at h;rename_i b;have q:=QK (bJ he h1 hc.1.1);split at h;rename_i g;obtain⟨u,h2,h⟩:=bind_some h;simp only[RM.run]at h;injection h with h;subst h;exact JL hi (v:=a.eval k) (by simp_all [execOp,asBool]) (bJ he h2 hc.1.2);rename_i g;obtain⟨u,h2,h⟩:=bind_some h;simp only[RM.run]at h;injection h with h;subst h;have g:b=false:=by simpa using g
 exact JL hi (v:=a.eval j) (by simp_all [execOp,asBool]) (bJ he h2 hc.2);grind [RM.run];cases hc
theorem JFa(hi:Inv s)(he:bN s a.tmps env){x}(h:(opR F (.nilchk x) new).run ⟨env,s.σ⟩=some e)(hc:JX P (.nilchk x) o.op=true):bM P o a s e:=by
 simp only[opR]at h;obtain⟨v,h1,h⟩:=bind_some h;unfold JX at hc;simp only at hc;split at hc;rename_i y n;have g:=bJ he h1 hc;split at h<;>(simp only[RM.run]at h;try cases h)
 refine JL hi (v:=a.eval y) ?_ g;generalize j:a.eval y=u at g;cases g;simp_all [execOp];refine JL hi (v:=a.eval y) ?_ g;generalize j:a.eval y=u at g;cases g;simp_all [execOp];refine JL hi (v:=a.eval y) ?_ g;generalize j:a.eval y=u at g;cases g with
 |ep _ _ _ _ _ _ _ _ k=>obtain⟨r,q,rfl⟩:=k;simp_all [execOp]
 refine JL hi (v:=a.eval y) ?_ g;generalize j:a.eval y=u at g;cases g;simp_all [execOp];cases hc
theorem NJ{op:BinOp}{t:TypeId}{x y:Operand}{u v:Value}(h:(∀c,u≠.agg c)/\u≠.nilIface)(w:World):(eqGuard op t x y u v).run P w=.ok () w:=by simp_all [eqGuard]
theorem I0(hi:Inv s)(he:bN s a.tmps env){op x y}(h:(opR F (.bin op .plain x y) new).run ⟨env,s.σ⟩=some e)(hc:JX P (.bin op .plain x y) o.op=true):bM P o a s e:=by
 simp only[opR]at h;obtain⟨u,h1,h⟩:=bind_some h;obtain⟨v,h2,h⟩:=bind_some h;obtain⟨r,g,rfl⟩:=gJ h;unfold JX at hc;simp only at hc;split at hc;rename_i M t B E ty L;simp only[aS,beq_iff_eq]at hc;obtain⟨⟨rfl,K⟩,J⟩:=hc;have C:=bJ he h1 K;have D:=bJ he h2 J;have j: ∀{z:Value},(∀c,a.eval B≠.agg c)/\a.eval B≠.nilIface->(binOp op t (a.eval B) (a.eval E)).run P s.w=.ok z s.w->(execOp a.eval o).run P s.w=.ok (.value z) s.w:=by simp_all [execOp,NJ]
 simp only[nG]at g;split at g;rename_i N p O q;rw[iR C,iR D]at j;split at g;obtain⟨z,k,rfl⟩:=gO.1 g;obtain⟨v,A,n⟩:=wl (s:=s) (P:=P) (t:=t) (.inl rfl) k s.w;exact JL hi (j (by simp) A) (.p _ _ n);obtain⟨z,k,rfl⟩:=gO.1 g;obtain⟨v,A,n⟩:=wl (s:=s) (P:=P) (t:=t) (.inr rfl) k s.w;exact JL hi (j (by simp) A) (.p _ _ n);rename_i G H;split at g;rename_i I;subst I;obtain⟨z,k,rfl⟩:=gO.1 g;obtain⟨v,A,n⟩:=H5 (s:=s) (P:=P) (t:=t) (λe=>G e) (λe=>H e) k s.w;exact JL hi (j (by simp) A) (.p _ _ n);cases g;rw[tX C,tX D]at j;obtain⟨z,k,rfl⟩:=gO.1 g;obtain⟨v,A,n⟩:=JAN (s:=s) (P:=P) (t:=t) k s.w;exact JL hi (j (by simp) A) (.p _ _ n);cases g;cases hc
theorem JAk(hi:Inv s)(he:bN s a.tmps env){op x y}(h:(opR F (.bin op .bool x y) new).run ⟨env,s.σ⟩=some e)(hc:JX P (.bin op .bool x y) o.op=true):bM P o a s e:=by
 simp only[opR]at h;obtain⟨u,h1,k⟩:=bind_some h;obtain⟨v,h2,j⟩:=bind_some k;obtain⟨r,g,rfl⟩:=gJ j;clear h k j;unfold JX at hc;simp only at hc;split at hc
 ·rename_i C t G E ty B;simp only[aS,beq_iff_eq]at hc;obtain⟨⟨rfl,A⟩,z,ht⟩:=hc;have n:=bJ he h1 A;have w:=bJ he h2 z;have I:=H4 ht;simp only[nG]at g;split at g
  ·rename_i _ _ p q;have D:=QK n;have H:=QK w;cases op<;>simp only[iZ]at g<;>first|(injection g with g;subst g)|cases g
   all_goals simp_all [JL,execOp,eqGuard,binOp,run_equal_bool,pO]
  cases g
 cases hc
theorem TD{op:BinOp}{t:TypeId}{u v:Value}{b:Bool}(ho:op=.eql\/op=.neq){w:World}(h:(Op.equal t u v).run P w=.ok b w)
  (hu:(∃x n c,u=.slice x n c)\/(∃p,u=.pointer p/\v=.pointer none)\/u=.nilFunc\/(∃f y c,u=.func f y c)):
  (binOp op t u v).run P w=.ok (.bool (if op=.eql then b else !b)) w:=by
 rcases ho with rfl|rfl;have:binOp .eql t u v=(do pure (.bool (<-Op.equal t u v))):=(by grind [binOp]);simp_all;have:binOp .neq t u v=(do pure (.bool (!(<-Op.equal t u v)))):=(by grind [binOp]);simp_all
theorem uK{op:BinOp}{b:Bool}{r:AV}(h:iZ op (some b)=some r):(op=.eql\/op=.neq)/\r=.p (.b (if op=.eql then b else !b)):=by
 cases op<;>simp[iZ]at h
 all_goals simp_all
theorem rq{op:BinOp}{r:AV}(h:IE op=some r):(op=.eql\/op=.neq)/\r=.unk:=by
 cases op<;>simp[IE]at h
 all_goals simp_all
theorem JBc(hi:Inv s)(he:bN s a.tmps env){op x y}(h:(opR F (.bin op .nils x y) new).run ⟨env,s.σ⟩=some e)(hc:JX P (.bin op .nils x y) o.op=true):bM P o a s e:=by
 simp only[opR]at h;obtain⟨u,h1,E⟩:=bind_some h;obtain⟨v,h2,B⟩:=bind_some E;obtain⟨r,g,rfl⟩:=gJ B;clear h E B h2;unfold JX at hc;simp only at hc;split at hc;rename_i M t A G ty L;simp only[aS,beq_iff_eq]at hc;obtain⟨⟨rfl,K⟩,ht⟩:=hc;have D:=bJ he h1 K;clear h1;have I:G=.const (.slice none 0 0)/\ ∃el,P.underlying t=some (.slice el):=(by unfold A8 at ht;split at ht;obtain⟨el,N⟩:=k9.1 ht;simp_all [gH];cases ht);obtain⟨rfl,el,J⟩:=I;have go: ∀(z:Option Addr) (n c:Nat),a.eval A=.slice z n c->(op=.eql\/op=.neq)->
   (execOp a.eval o).run P s.w=.ok (.value (.bool (if op=.eql then z.isNone else !z.isNone))) s.w:=by
  intro z n c k j;have h1:=TD (P:=P) (t:=t) j (run_equal_slice_nil s.w t el z n c J) (.inl ⟨z,n,c,rfl⟩);simp_all [execOp,NJ,Act.eval]
 simp only[nG]at g;split at g;rename_i esz rows;cases D with
 |p _ _ q=>
  split at g;obtain⟨j,rfl⟩:=rq g;generalize k:a.eval A=z at q;cases q with
  |sl0 _ C cap=>exact JL hi (go _ _ _ k j) (.unk _)
  |sl _ _ r Q cap vals=>exact JL hi (go _ _ _ k j) (.unk _)
  obtain⟨j,rfl⟩:=uK g;generalize k:a.eval A=z at q;cases q<;>simp_all [JL,pO]
 rename_i b i n;generalize k:a.eval A=z at D;cases D with
 |slr _ _ _ _ wm esz rows H=>
  obtain⟨C,cap,rfl,R⟩:=H;split at g;obtain⟨j,rfl⟩:=rq g;exact JL hi (go _ _ _ k j) (.unk _);rename_i O;obtain⟨j,rfl⟩:=uK g;have:C.isNone=false:=by cases C<;>simp_all
  grind [JL,pO]
 cases g;cases hc
theorem JAR(hi:Inv s)(he:bN s a.tmps env){op x y}(h:(opR F (.bin op .nilp x y) new).run ⟨env,s.σ⟩=some e)(hc:JX P (.bin op .nilp x y) o.op=true):bM P o a s e:=by
 simp only[opR]at h;obtain⟨u,h1,q⟩:=bind_some h;obtain⟨v,h2,n⟩:=bind_some q;obtain⟨r,g,rfl⟩:=gJ n;clear h q n h2;unfold JX at hc;simp only at hc;split at hc;rename_i H t A B ty G;simp only[aS,beq_iff_eq]at hc;obtain⟨⟨rfl,E⟩,ht⟩:=hc;have j:=bJ he h1 E;clear h1;have D:B=.const (.pointer none)/\ ∃el,P.underlying t=some (.pointer el):=(by grind [Cx]);obtain⟨rfl,el,I⟩:=D;have go: ∀(z:Option Addr),a.eval A=.pointer z->(op=.eql\/op=.neq)->
   (execOp a.eval o).run P s.w=.ok (.value (.bool (if op=.eql then z.isNone else !z.isNone))) s.w:=by
  intro z C k;have:P.pointee t=el:=by grind [Program.pointee]
  simp_all [TD,run_equal_pointer_nil,execOp,NJ,Act.eval]
 simp only[nG]at g;generalize C:a.eval A=z at j;split at g;obtain⟨k,rfl⟩:=uK g;grind [JJN,JL,pO];obtain⟨k,rfl⟩:=uK g;cases j;grind [JL,pO];obtain⟨k,rfl⟩:=uK g;cases j;grind [JL,pO];obtain⟨k,rfl⟩:=uK g;cases j<;>grind [JL,pO]
 cases g;cases hc
theorem JB9(hi:Inv s)(he:bN s a.tmps env){op x y}(h:(opR F (.bin op .nilf x y) new).run ⟨env,s.σ⟩=some e)(hc:JX P (.bin op .nilf x y) o.op=true):bM P o a s e:=by
 simp only[opR]at h;obtain⟨u,h1,q⟩:=bind_some h;obtain⟨v,h2,k⟩:=bind_some q;obtain⟨r,g,rfl⟩:=gJ k;clear h q k h2;unfold JX at hc;simp only at hc;split at hc;rename_i I t D C ty H;simp only[aS,beq_iff_eq]at hc;obtain⟨⟨rfl,G⟩,ht⟩:=hc;have n:=bJ he h1 G;clear h1;have E:C=.const .nilFunc/\ ∃p r v,P.underlying t=some (.func p r v):=(by grind [Bd]);obtain⟨rfl,p,J,vv,B⟩:=E;simp only[nG]at g;generalize K:a.eval D=z at n;split at g;obtain⟨A,rfl⟩:=uK g;have:=JLa n;subst this;have j:(Op.equal t .nilFunc .nilFunc).run P s.w=.ok true s.w:=by
  have: ∀d,(Op.equalIn (d+1) t .nilFunc .nilFunc).run P s.w=.ok true s.w:=λd=>by simp[Op.equalIn,run_underlying B]
  exact this 9999
 simp_all [TD,JL,pO,execOp,NJ,Act.eval];obtain⟨A,rfl⟩:=uK g;cases n;rename_i f _ _ fs cs _ _ _ _;have j:(Op.equal t (.func (.func f) fs cs) .nilFunc).run P s.w=.ok false s.w:=by
  have: ∀d,(Op.equalIn (d+1) t (.func (.func f) fs cs) .nilFunc).run P s.w=.ok false s.w:=λd=>by simp[Op.equalIn,run_underlying B]
  exact this 9999
 have h1:=TD (P:=P) (t:=t) A j (.inr (.inr (.inr ⟨_,_,_,rfl⟩)));simp_all [JL,pO,execOp,NJ,Act.eval];cases g;cases hc
end
end Go.Am
end
section
namespace Go.Am
theorem NO: ∀{vs:List Value} {w:World} {r o:Nat} {c:Array Value} {e:TypeId} {fz:Nat×Nat},w.heap[r]?=some (.cells c e fz)->o+vs.length<=c.size->
  Put r o vs w (w.setCells r o vs)
 |[],w,r,o,c,e,fz,h,n=>⟨⟨c,e,fz,c,h,h,rfl,n,λj v x=>by simp at x,λ_ _=>rfl⟩,λ_ _=>rfl,rfl,rfl,rfl⟩
 |v::vs,w,r,o,c,e,fz,h,n=>by
  have K:=AP h;have q:o+1+vs.length<=c.size:=by grind
  have h1:(w.setCell ⟨r,o,none⟩ v).heap[r]?=some (.cells (c.setIfInBounds o v) e fz):=(by grind [World.setCell]);obtain⟨⟨H,L,D,c',g,z,y,F,E,G⟩,J,M,B,A⟩:=NO (vs:=vs) (o:=o+1) h1 (by simpa using q);rw[h1]at g;injection g with g;injection g with a1 a2 a3;subst a1 a2 a3;refine⟨⟨c,e,fz,c',h,z,by simpa using y,n,λj u x=>?_,λk I=>?_⟩,λr' C=>?_,?_,B,A⟩;grind;grind;show((w.setCell ⟨r,o,none⟩ v).setCells r (o+1) vs).heap[r']?=_;grind [World.setCell];show((w.setCell ⟨r,o,none⟩ v).setCells r (o+1) vs).heap.size=_;simp_all
theorem J09.one{w C x v}(h:J09 w C x v):v.oneCell'=true:=by cases h<;>rfl
theorem J09.cells1{w C x v}(h:J09 w C x v):v.cells= #[v]:=by cases h<;>rfl
section
variable {P:Program} {F:Orc} {s:Sn} {a:Act} {env:List (Nat×AV)} {o:Oper} {new:Nat} {e:Eff}
theorem JNF(hi:Inv s)(he:bN s a.tmps env){op x}(h:(opR F (.un op x) new).run ⟨env,s.σ⟩=some e)(hc:JX P (.un op x) o.op=true):bM P o a s e:=by
 simp only[opR]at h;obtain⟨u,h1,q⟩:=bind_some h;obtain⟨r,g,rfl⟩:=gJ q;clear h q;unfold JX at hc;simp only at hc;split at hc;rename_i B t y A;simp only[aS,beq_iff_eq]at hc;obtain⟨rfl,w⟩:=hc;have j:=bJ he h1 w;clear h1;generalize C:a.eval y=z at j;unfold unP at g;split at g<;>first|(injection g with g;subst g)|cases g
 rename_i k n;have:=iR j;simp_all [JL,execOp,Op.unary,Op.intArith,pL];rename_i k n;have:=iR j;simp_all [JL,execOp,Op.unary,Op.intBits,pL];rename_i b;have:=QK j;simp_all [JL,execOp,Op.unary,pO];cases j with
 |unk b=>exact JL hi (v:=.bool (!b)) (by simp_all [execOp,Op.unary]) (.unk _)
 cases hc
theorem JHG(hi:Inv s)(he:bN s a.tmps env){off x}(h:(opR F (.faddr off x) new).run ⟨env,s.σ⟩=some e)(hc:JX P (.faddr off x) o.op=true):bM P o a s e:=by
 simp only[opR]at h;obtain⟨u,h1,C⟩:=bind_some h;obtain⟨r,j,rfl⟩:=gJ C;clear h C;unfold JX at hc;simp only at hc;split at hc;rename_i t y f H;simp only[aS]at hc;obtain⟨G,ht⟩:=hc;have q:=bJ he h1 G;clear h1;have E: ∃fs k n,P.underlying t=some (.struct fs)/\fs[f]?=some k/\k.offset=off/\szT P k.type=some n/\n≠0:=(by grind [qe]);obtain⟨fs,k,n,M,I,rfl,N,J⟩:=E;have go: ∀(r g:Nat),a.eval y=.pointer (some ⟨r,g,none⟩)->(execOp a.eval o).run P s.w=.ok (.value (.pointer (some ⟨r,g+k.offset,none⟩))) s.w:=by simp_all [Addr.add,execOp,Instr.fieldAt,run_underlying,Instr.sureAddr,fieldPlace,jS]
 generalize B:a.eval y=z at q;unfold LD at j;split at j<;>first|(injection j with j;subst j)|cases j
 cases q with
 |ptr _ _ r g m D=>exact JL hi (go _ _ B) (by rw[HT];exact .ptr _ _ r g m D)
 cases q with
 |cp cs _ r g vals A v=>exact JL hi (go _ _ B) (by rw[HT];exact .cp _ _ r g vals A v)
 cases q with
 |ep _ _ _ _ _ wm esz rows p0 A v K=>
  obtain⟨r,g,rfl⟩:=p0;refine JL hi (go _ _ B) (.ep _ _ _ _ _ wm esz rows ⟨_,_,rfl⟩ A v λO L=>?_);grind
 cases hc
theorem JKN(hi:Inv s)(he:bN s a.tmps env){x i}(h:(opR F (.extr x i) new).run ⟨env,s.σ⟩=some e)(hc:JX P (.extr x i) o.op=true):bM P o a s e:=by
 simp only[opR]at h;obtain⟨u,h1,n⟩:=bind_some h;obtain⟨r,g,rfl⟩:=gJ n;clear h n;unfold JX at hc;simp only at hc;split at hc;rename_i y j k;simp only[aS,beq_iff_eq]at hc;obtain⟨C,rfl⟩:=hc;have q:=bJ he h1 C;generalize B:a.eval y=z at q;unfold PR at g;split at g;cases q with
 |tup cs vs E A=>
  have D:=Jw g;have w:vs[i]?=some vs[i]:=by simp
  exact JL hi (v:=vs[i]) (by simp[execOp,k,B,Instr.extract,w]) (A i r _ g w)
 cases g;cases hc
theorem JK9(hi:Inv s)(he:bN s a.tmps env){f first caps}(h:(opR F (.mkfn f first caps) new).run ⟨env,s.σ⟩=some e)(hc:JX P (.mkfn f first caps) o.op=true):bM P o a s e:=by
 simp only[opR]at h;obtain⟨u,h1,w⟩:=bind_some h;obtain⟨v,h2,j⟩:=bind_some w;simp only[RM.run]at j;injection j with j;subst j;clear h w;unfold JX at hc;simp only at hc;split at hc
 ·rename_i g k n E;simp only[aS,beq_iff_eq]at hc;obtain⟨⟨rfl,B⟩,r⟩:=hc;obtain⟨A,y⟩:=FQ he h1 B;obtain⟨D,z⟩:=FQ he h2 r;refine JL hi (v:=.func (.func f) (k.map a.eval) (n.map a.eval)) (by simp_all [execOp,Instr.makeFunc]) (.fn _ _ _ _ _ (by simpa using A) (by simpa using D) (λi x v q C=>y i x v q ?_) (λi x v q C=>z i x v q ?_))
  all_goals simp_all
 cases hc
theorem JNU(hi:Inv s)(he:bN s a.tmps env){mx x y}(h:(opR F (.mm mx x y) new).run ⟨env,s.σ⟩=some e)(hc:JX P (.mm mx x y) o.op=true):bM P o a s e:=by
 simp only[opR]at h;obtain⟨u,h1,w⟩:=bind_some h;obtain⟨v,h2,n⟩:=bind_some w;obtain⟨r,g,rfl⟩:=gJ n;clear h w n;unfold JX at hc;simp only at hc;split at hc;rename_i c E;split at hc;rename_i b B;simp only[aS,beq_iff_eq]at hc;obtain⟨I,hc⟩:=hc;split at hc;rename_i A z j;simp only[aS]at hc;have C:=bJ he h1 hc.1;have D:=bJ he h2 hc.2;have J:c.args.map a.eval= #[a.eval A,a.eval z]:=by apply DD;simp[j]
 unfold mmP at g;split at g;rename_i k p k' q;injection g with g;subst g;have G:=iR C;have H:=iR D;cases mx;simp_all [JL,pL,execOp,resolve,invoke,builtin,Builtin.min_,Builtin.min2];simp_all [JL,pL,execOp,resolve,invoke,builtin,Builtin.max_,Builtin.max2];cases g;cases hc;cases hc;cases hc
theorem JLs(hi:Inv s)(he:bN s a.tmps env){str x}(h:(opR F (.len str x) new).run ⟨env,s.σ⟩=some e)(hc:JX P (.len str x) o.op=true):bM P o a s e:=by
 simp only[opR]at h;obtain⟨u,h1,E⟩:=bind_some h;obtain⟨r,g,rfl⟩:=gJ E;clear h E;unfold JX at hc;simp only at hc;split at hc;rename_i c v;split at hc;rename_i k;split at hc;rename_i y t q B;simp only[aS]at hc;obtain⟨L,ht⟩:=hc;have C:=bJ he h1 L;have J:c.args.map a.eval= #[a.eval y]:=by apply DD;simp[q]
 have A:c.argTypes[0]?=some t:=by rw[<-UU,B];rfl
 generalize I:a.eval y=z at C;have N: ∀l:List UInt8,z=.string ⟨l.toArray⟩->jK P t=true->(execOp a.eval o).run P s.w=.ok (.value (.int .i64 l.length)) s.w:=by intro l D j;have:=xD j;simp[execOp,v,resolve,k,J,I,D,invoke,builtin,Builtin.len_,A,run_underlying this,goInt,uC]
 have M: ∀H n cp,z=.slice H n cp->(elT P t).isSome=true->(execOp a.eval o).run P s.w=.ok (.value (.int .i64 n)) s.w:=by intro H n cp D j;obtain⟨el,G⟩:=k9.1 j;have:=gH G;simp[execOp,v,resolve,k,J,I,D,invoke,builtin,Builtin.len_,A,run_underlying this,goInt]
 unfold KB at g;split at g<;>first|(injection g with g;subst g)|cases g
 grind [JL,tX,pL];cases C with
 |p _ _ K=>cases K<;>simp_all [JL,pL]
 cases C<;>grind [JL,pL]
 cases hc;cases hc;cases hc
end
end Go.Am
end
section
namespace Go.Am
section
variable {P:Program} {F:Orc} {s:Sn} {a:Act} {env:List (Nat×AV)} {o:Oper} {new:Nat} {e:Eff}
theorem jJ.of_p{s:Sn}{esz rows v}(h:JH s (.p (.sl esz rows)) v):jJ s esz rows v:=by
 grind [of_sl,cases Go.Am.JH]
theorem sy(hi:Inv s){esz:Nat}{x:AV}{rows:List (List PV)}{v:Value}(h:(fG esz x).run ⟨env,s.σ⟩=some rows)(hr:JH s x v):
  (∃l,x=.p (.s l)/\esz=1/\rows=l.map mF/\v=.string ⟨l.toArray⟩)\/jJ s esz rows v:=by
 unfold fG at h;split at h;split at h;rename_i e;subst e;simp only[RM.run]at h;injection h with h;subst h;exact .inr (.of_p hr);cases h;grind [RM.run,tX];simp only[RM.run]at h;split at h;rename_i blk g;split at h;split at h;rename_i hc;obtain⟨rfl,hc⟩:=hc;simp only[RM.run]at h;injection h with h;subst h;exact .inr (.of_slr hi hr g hc);cases h;cases h;cases h;cases h
theorem eg{α:Type}{esz:Nat}: ∀{rows:List (List α)},(∀row∈rows,row.length=esz)-> ∀{k:Nat} {x:α},rows.flatten[k]?=some x->
  ∃i j row,k=i*esz+j/\rows[i]?=some row/\row[j]?=some x/\j<esz
 |[],_,k,x,h=>by simp at h
 |r::rows,g,k,x,h=>by
  simp only[qQ]at h;have y:r.length=esz:=g r (by simp);rcases List.getElem?_append (l₁:=r) (l₂:=rows.flatten) (i:=k)▸h with e;split at e;exact⟨0,k,r,by simp,rfl,e,by omega⟩;obtain⟨i,j,row,w,v,q,n⟩:=eg (λrow o=>g row (by simp[o])) e;exact⟨i+1,j,row,by grind,by simpa using v,q,n⟩
theorem SC{α:Type}{esz:Nat}: ∀{rows:List (List α)},(∀row∈rows,row.length=esz)->rows.flatten.length=rows.length*esz
 |[],_=>by simp
 |r::rows,g=>by
  have:=SC (rows:=rows) (λrow e=>g row (by simp[e]));grind
theorem jJ.cells{s:Sn}{esz rows v}(h:jJ s esz rows v):
  ∃(a:Option Addr) (cap:Nat) (vs:List Value),v=.slice a rows.length cap/\rows.length<=cap/\vs.length=rows.length*esz/\
   (∀(k:Nat) x,rows.flatten[k]?=some x-> ∃u,vs[k]?=some u/\J09 s.w s.g.C x u)/\
   (rows=[]\/ ∃r o,a=some ⟨r,o,none⟩/\ ∀(k:Nat) u,vs[k]?=some u->cellAt s.w r (o+k)=some u)/\(∀row∈rows,row.length=esz):=by
 obtain⟨a,cap,h1,h2,q,y⟩:=h;rcases y with rfl|⟨r,o,D,E⟩;simp_all;refine⟨a,cap,(List.range (rows.length*esz)).map λk=>(cellAt s.w r (o+k)).getD .nilFunc,h1,h2,by simp,λk x e=>?_,.inr ⟨r,o,D,λk u e=>?_⟩,q⟩;obtain⟨i,j,row,A,z,B,_⟩:=eg q e;grind [SC];have n:=Jw e;simp at n;rw[fT,List.getElem?_range n]at e;simp at e;have:k<rows.flatten.length:=by grind [SC]
 obtain⟨i,j,row,A,z,B,_⟩:=eg q (zQ9 this);grind
theorem u9: ∀{rows:List (List PV)} {l:List UInt8},uD rows=some l-> ∃e:List Int,rows=e.map (λn=>[PV.i .u8 n])/\l=e.map λn=>UInt8.ofNat n.toNat
 |[],l,h=>by simp_all [uD]
 |row::rows,l,h=>by
  unfold uD at h;split at h;simp_all;rename_i n r j;injection j with e1 e2;subst e1 e2;split at h;rename_i l' g;injection h with h;subst h;obtain⟨e,h1,h2⟩:=u9 g;exact⟨n::e,by simp[h1],by simp[h2]⟩;cases h;cases h
theorem JD2(e:List Int): ∀b:ByteArray,(e.foldl (λr n=>r.push (UInt8.ofNat n.toNat)) b)=⟨b.data++(e.map λn=>UInt8.ofNat n.toNat).toArray⟩:=by
 induction e with
 |nil=>intro b;simp
 |cons n e ih=>simp_all
theorem AA(r o n:Nat):Addr.add ⟨r,o,none⟩ n=⟨r,o+n,none⟩:=by simp[Addr.add]
theorem sd{w:World}{r o:Nat}(vs:List Value)(h: ∀(k:Nat) u,vs[k]?=some u->cellAt w r (o+k)=some u):
  (loadCells ⟨r,o,none⟩ vs.length).run P w=.ok vs.toArray w:=
 run_loadCells_list w _ vs λj v e=>by grind [AA,rM]
theorem JKG(hi:Inv s)(he:bN s a.tmps env){k x}(hk: ∀own,k≠.toBytes own)(h:(opR F (.conv k x) new).run ⟨env,s.σ⟩=some e)(hc:JX P (.conv k x) o.op=true):bM P o a s e:=by
 simp only[opR]at h;obtain⟨u,h1,g⟩:=bind_some h;clear h;unfold JX at hc;simp only at hc;split at hc;rename_i a0 dst y J;simp only[aS]at hc;obtain⟨Y,ht⟩:=hc;have q:=bJ he h1 Y;generalize W:a.eval y=z at q;split at g;rename_i k' k1 n;simp only[RM.run]at g;injection g with g;subst g;simp only[aS]at ht;obtain⟨ks,H⟩:=JFE ht.1;have hd:=JEN ht.2;have:=iR q;simp_all [JL,execOp,convert,run_underlying,Conv.intToInt,pL];rename_i l;simp only[RM.run]at g;injection g with g;subst g;simp only[aS]at ht;have H:=xD ht.1;have hd:=xD ht.2;have:=tX q;simp_all [JL,execOp,convert,run_underlying];simp only[aS]at ht;obtain⟨ht,hd⟩:=ht;have hd:=xD hd;split at ht;rename_i el L;simp only[aS,beq_iff_eq]at ht;have H:=gH L;have M:=qt ht.1;obtain⟨rows,O,A⟩:=bind_some g;clear g;split at A;rename_i l Q;simp only[RM.run]at A;injection A with A;subst A;rcases sy hi O q with⟨l',rfl,_,S,I⟩|K
 
 have:=tX q;subst this;have:l=l':=by
  have: ∀l:List UInt8,uD (l.map mF)=some l:=by
   intro l
   induction l with
   |nil=>rfl
   |cons b l ih=>simp[uD,mF,ih]
  simp_all
 simp_all [JL,execOp,convert,run_underlying];obtain⟨C,cap,vs,I,D,hlen,hrel,B,G⟩:=K.cells;obtain⟨j,R,rfl⟩:=u9 Q;have hvs:vs=j.map (Value.int .u8):=by
  apply zQ6;intro k;have Z:rows.flatten=j.map (PV.i .u8):=by rw[R];clear R Q hrel hlen G B I D O q;induction j with|nil=>rfl|cons n j ih=>simp[ih]
  by_cases hk:k<j.length;obtain⟨u,hu,hp⟩:=hrel k (.i .u8 j[k]) (by simp_all);grind [cases Go.Am.J09];simp_all
 have T:rows.length=vs.length:=by omega
 subst I;have E:(Conv.bytesToString (.slice C rows.length cap)).run P s.w=.ok (.string ⟨(j.map λn=>UInt8.ofNat n.toNat).toArray⟩) s.w:=by
  rcases B with U|⟨r,V,rfl,hm⟩;have N:j=[]:=by simp_all
  subst N;cases C with
  |none=>simp[Conv.bytesToString];rfl
  |some C=>have:=run_bytesToString (P:=P) s.w C rows.length cap [] (by simp_all [loadCells,loadCellsFrom]);rw[this];rfl
  have:=run_bytesToString (P:=P) s.w ⟨r,V,none⟩ rows.length cap j (by grind [sd]);simp_all [JD2]
 refine JL hi (v:=.string ⟨(j.map λn=>UInt8.ofNat n.toNat).toArray⟩) ?_ (F6 _);simp[execOp,J,W,convert,run_underlying H,run_underlying hd,run_underlying M,E];cases A;cases ht;simp_all;cases g;cases hc
end
end Go.Am
end
section
namespace Go.Am
theorem MI{α:Type}{cs l:List α}{off size:Nat}(h:sub cs off size=some l):l.length=size/\off+size<=cs.length/\ ∀(i:Nat),i<size->l[i]?=cs[off+i]?:=by
 grind [sub]
theorem RX: ∀{cs:List AV} {l:List PV},unp cs=some l->cs=l.map .p
 |[],l,h=>by grind [unp]
 |x::cs,l,h=>by
  unfold unp at h;split at h;simp_all;rename_i c r e;injection e with e1 e2;subst e1 e2;split at h;rename_i l' g;injection h with h;subst h;simp[RX g];cases h;cases h
section
variable {P:Program} {F:Orc} {s:Sn} {a:Act} {env:List (Nat×AV)} {o:Oper} {new:Nat} {e:Eff}
theorem ZX{agg:Bool}{l:List PV}{x:AV}{vs:List Value}(h:oB agg l=some x)(hl:l.length=vs.length)
  (hr: ∀(i:Nat) y v,l[i]?=some y->vs[i]?=some v->J09 s.w s.g.C y v):
  (agg=true/\JH s x (.agg vs.toArray))\/(agg=false/\ ∃v,vs=[v]/\JH s x v):=by
 cases agg with
 |true=>simp[oB]at h;subst h;exact .inl ⟨rfl,.data _ _ (by simpa using hl) λi y v j e=>hr i y v j (by simpa using e)⟩
 |false=>
  simp only[oB,eJ,if_false]at h;split at h;injection h with h;subst h;obtain⟨v,rfl⟩: ∃v,vs=[v]:=DY.1 (by simp_all);exact .inr ⟨rfl,v,rfl,.p _ _ (hr 0 _ v rfl rfl)⟩;cases h
theorem QG{agg:Bool}{l:List AV}{x:AV}{vs:List Value}(h:kR agg l=some x)(hl:l.length=vs.length)(h1: ∀v∈vs,v.oneCell'=true)
  (hr: ∀(i:Nat) y v,l[i]?=some y->vs[i]?=some v->JH s y v):
  (agg=true/\JH s x (.agg vs.toArray))\/(agg=false/\ ∃v,vs=[v]/\JH s x v):=by
 cases agg with
 |true=>
  simp only[kR,if_true]at h;split at h;rename_i q j;injection h with h;subst h;have:=RX j;subst this;refine .inl ⟨rfl,.data _ _ (by simpa using hl) λi y v g e=>?_⟩;have:=hr i (.p y) v (by simp[g]) (by simpa using e);cases this<;>simp_all
  injection h with h;subst h;exact .inl ⟨rfl,.agg _ _ (by simpa using hl) (λi v e=>h1 v (by grind)) λi y v g e=>hr i y v g (by simpa using e)⟩
 |false=>
  simp only[kR,eJ,if_false]at h;split at h;injection h with h;subst h;obtain⟨v,rfl⟩: ∃v,vs=[v]:=DY.1 (by simp_all);exact .inr ⟨rfl,v,rfl,hr 0 _ v rfl rfl⟩;cases h
theorem rz{agg:Bool}{off size:Nat}{x r:AV}{v:Value}{t:TypeId}(h:rC agg off size x=some r)(hr:JH s x v)(ht:agT P t=some agg)(hs:szT P t=some size)
  (h1:agg=true\/size=1): ∃cs u,v=.agg cs/\(part t cs off).run P s.w=.ok u s.w/\JH s r u:=by
 have go: ∀(cs:Array Value) (vs:List Value),vs.length=size->(∀(i:Nat),i<size->vs[i]?=cs[off+i]?)->off+size<=cs.size->
   ((agg=true/\JH s r (.agg vs.toArray))\/(agg=false/\ ∃v,vs=[v]/\JH s r v))-> ∃u,(part t cs off).run P s.w=.ok u s.w/\JH s r u:=by
  intro cs vs j n C e;rcases e with⟨rfl,g⟩|⟨rfl,v,rfl,g⟩;refine⟨.agg (cs.extract off (off+size)),by simp_all [part,FV,jS],?_⟩;have:cs.extract off (off+size)=vs.toArray:=(by grind);simp_all;simp at j;subst j;have o:=n 0 (by omega);simp at o;exact⟨v,by simp[part,FV ht,<-o],g⟩
 unfold rC at h;split at h;rename_i cs;split at h;rename_i l k;obtain⟨q,z,y⟩:=MI k;cases hr with
 |data _ vs A B=>
  have e:=ZX (s:=s) (vs:=((vs.toList.drop off).take size)) h (by simp;omega) (by
   grind)
  grind
 cases h;rename_i cs;split at h;rename_i l k;obtain⟨q,z,y⟩:=MI k;cases hr with
 |agg _ vs A D B=>
  have e:=QG (s:=s) (vs:=((vs.toList.drop off).take size)) h (by simp;omega) (by
   grind [List.getElem?_of_mem]) (by
   grind)
  grind
 cases h;cases h
theorem JHQ(hi:Inv s)(he:bN s a.tmps env){agg off size x}(h:(opR F (.field agg off size x) new).run ⟨env,s.σ⟩=some e)(hc:JX P (.field agg off size x) o.op=true):bM P o a s e:=by
 simp only[opR]at h;obtain⟨u,h1,g⟩:=bind_some h;obtain⟨r,w,rfl⟩:=gJ g;clear h g;unfold JX at hc;simp only at hc;split at hc;rename_i t y f A;simp only[aS]at hc;obtain⟨z,ht⟩:=hc;split at ht;rename_i fs B;split at ht;rename_i D C;simp only[aS,beq_iff_eq]at ht;obtain⟨⟨⟨E,n⟩,k⟩,j⟩:=ht;obtain⟨cs,v,H,G,q⟩:=rz w (bJ he h1 z) k n (by simpa using j);exact JL hi (v:=v) (by simp_all [execOp,Instr.field,run_underlying,qe,asAgg]) q;cases ht;cases ht;cases hc
theorem JKb(hi:Inv s)(he:bN s a.tmps env){x i}(h:(opR F (.sidx x i) new).run ⟨env,s.σ⟩=some e)(hc:JX P (.sidx x i) o.op=true):bM P o a s e:=by
 simp only[opR]at h;obtain⟨u,h1,w⟩:=bind_some h;obtain⟨v,h2,g⟩:=bind_some w;clear h w;unfold JX at hc;simp only at hc;split at hc;rename_i t y j D;simp only[aS]at hc;obtain⟨⟨B,C⟩,ht⟩:=hc;have z:=bJ he h1 B;have A:=bJ he h2 C;split at g;rename_i l k n;split at g;rename_i I;split at g;rename_i b q;simp only[RM.run]at g;injection g with g;subst g;have G:=tX z;have H:=iR A;have E:(⟨l.toArray⟩:ByteArray)[n.toNat]?=some b:=by have r:=Jw q;rw[zQ9 r]at q;rw[getElem?_pos _ _ (by grind [uC])];injection q with q;rw[<-q];rfl
 refine JL hi (v:=.int .u8 b.toNat) ?_ (pL _ _);simp_all [execOp,Instr.index,asIntOf,run_underlying,xD];cases g;cases g;cases g;cases hc
theorem JKI(hi:Inv s)(he:bN s a.tmps env){agg len esz x i}(h:(opR F (.aidx agg len esz x i) new).run ⟨env,s.σ⟩=some e)(hc:JX P (.aidx agg len esz x i) o.op=true):bM P o a s e:=by
 simp only[opR]at h;obtain⟨u,h1,A⟩:=bind_some h;obtain⟨v,h2,g⟩:=bind_some A;clear h A;unfold JX at hc;simp only at hc;split at hc;rename_i t y j q;simp only[aS]at hc;obtain⟨⟨L,N⟩,ht⟩:=hc;have E:=bJ he h1 L;have G:=bJ he h2 N;split at ht;rename_i n el z;simp only[aS,beq_iff_eq]at ht;obtain⟨⟨⟨rfl,B⟩,H⟩,C⟩:=ht;split at g;rename_i k m;split at g;rename_i M;obtain⟨r,K,rfl⟩:=gJ g;obtain⟨cs,w,O,I,J⟩:=rz K E H B (by simpa using C);have D:=iR G;exact JL hi (v:=w) (by simp[execOp,q,O,D,Instr.index,asIntOf,run_underlying (fh z),M,jS B,I]) J;cases g;cases g;cases ht;cases hc
theorem JIP(hi:Inv s)(he:bN s a.tmps env){len esz x i}(h:(opR F (.aaddr len esz x i) new).run ⟨env,s.σ⟩=some e)(hc:JX P (.aaddr len esz x i) o.op=true):bM P o a s e:=by
 simp only[opR]at h;obtain⟨u,h1,J⟩:=bind_some h;obtain⟨v,h2,C⟩:=bind_some J;obtain⟨r,g,rfl⟩:=gJ C;clear h J C;unfold JX at hc;simp only at hc;split at hc;rename_i t y j H;simp only[aS]at hc;obtain⟨⟨Q,S⟩,ht⟩:=hc;have B:=bJ he h1 Q;have M:=bJ he h2 S;split at ht;rename_i n el I;simp only[aS,beq_iff_eq]at ht;obtain⟨rfl,O⟩:=ht;unfold LK at g;split at g;rename_i k m;split at g;rename_i R;have K:=iR M;have go: ∀(r q:Nat),a.eval y=.pointer (some ⟨r,q,none⟩)->(execOp a.eval o).run P s.w=.ok (.value (.pointer (some ⟨r,q+m.toNat*esz,none⟩))) s.w:=by intro r q A;simp[execOp,H,A,K,Instr.indexAt,asIntOf,run_underlying (fh I),Instr.sureAddr,R,jS O,AA]
 generalize A:a.eval y=z at B;split at g<;>first|(injection g with g;subst g)|cases g
 cases B with
 |ptr _ _ r q L N=>exact JL hi (go _ _ A) (by rw[HT];exact .ptr _ _ r q L N)
 cases B with
 |cp cs _ r q vals G D=>exact JL hi (go _ _ A) (by rw[HT];exact .cp _ _ r q vals G D)
 cases B with
 |ep _ _ _ _ _ wm E rows p0 G D T=>
  obtain⟨r,q,rfl⟩:=p0;refine JL hi (go _ _ A) (.ep _ _ _ _ _ wm E rows ⟨_,_,rfl⟩ G D λV U=>?_);grind
 cases g;cases g;cases ht;cases hc
theorem JIv(hi:Inv s)(he:bN s a.tmps env){esz x i}(h:(opR F (.iaddr esz x i) new).run ⟨env,s.σ⟩=some e)(hc:JX P (.iaddr esz x i) o.op=true):bM P o a s e:=by
 simp only[opR]at h;obtain⟨u,h1,N⟩:=bind_some h;obtain⟨v,h2,g⟩:=bind_some N;clear h N;unfold JX at hc;simp only at hc;split at hc;rename_i t y j M;simp only[aS]at hc;obtain⟨⟨E,hj⟩,ht⟩:=hc;have G:=bJ he h1 E;have S:=bJ he h2 hj;split at ht;rename_i el O;simp only[beq_iff_eq]at ht;have go: ∀(r A len cap:Nat) k (m:Int),a.eval j=.int k m->a.eval y=.slice (some ⟨r,A,none⟩) len cap->0<=m->m<len->
   (execOp a.eval o).run P s.w=.ok (.value (.pointer (some ⟨r,A+m.toNat*esz,none⟩))) s.w:=by
  intro r A len cap k m C D Z I;simp[execOp,M,D,C,Instr.indexAt,asIntOf,run_underlying (gH O),Z,I,jS ht,AA]
 unfold mE at g;split at g;rename_i B rows k n;split at g;rename_i Q;subst Q;split at g;rename_i row q;simp only[RM.run]at g;injection g with g;subst g;unfold PA at q;split at q;rename_i L;have C:=iR S;generalize D:a.eval y=z at G;cases G with
 |p _ _ V=>
  cases V with
  |sl0 _ ad cap=>simp at q
  |sl _ _ r A cap vals p1 p2 T U=>have I:=Jw q;refine JL hi (go r A _ cap k n C D L (by omega)) ?_;have:=JH.cp (s:=s) row 0 r (A+n.toNat*esz) (λj=>vals n.toNat j) (λj x E=>T n.toNat j row x q E) (λj x E=>U n.toNat j row x q E);simp_all
 cases q;cases g;cases g;rename_i b j' m k n;simp only[RM.run]at g;split at g;rename_i blk hb;split at g;rename_i wm B rows;split at g;rename_i K;obtain⟨rfl,R,L,a8⟩:=K;simp only[RM.run]at g;injection g with g;subst g;have C:=iR S;generalize D:a.eval y=z at G;cases G with
 |slr _ _ _ _ wm' B rows' q0 H q2 q3=>
  have J:s.σ[b]?=some (.arr wm esz rows):=hb;rw[J]at H;injection H with H;injection H with a1 a2 a3;subst a1 a2 a3;rcases q3 R with⟨_,_,a7,_⟩|⟨r,cap,c,e1,fz,Y,hv,W,hh,hs⟩;omega;subst hv;refine JL hi (go r _ _ cap k n C D L (by omega)) (.ep _ _ _ _ _ wm esz rows ⟨_,_,rfl⟩ J (zQ0 _) λ_ _=>⟨r,Y,?_⟩);grind
 cases g;cases g;cases g;cases g;cases ht;cases hc
end
end Go.Am
end
section
namespace Go.Am
theorem eR(a b:List (Nat×Blk))(σ:List Blk):upd (a++b) σ=upd b (upd a σ):=by simp[upd]
section
variable {P:Program} {F:Orc} {s:Sn} {a:Act} {env:List (Nat×AV)} {o:Oper} {new:Nat} {e:Eff}
theorem NB{e:List Blk}(hi:Inv s)(j:Frz e s.σ){b i n:Nat}{y:List PV×List (Nat×Blk)}{v:Value}(h:(fz (.slr b i n)).run ⟨env,e⟩=some y)(hr:JH s (.slr b i n) v):
  ∃g',Inv ⟨upd y.2 s.σ,g',s.w⟩/\bB s ⟨upd y.2 s.σ,g',s.w⟩/\Frz s.σ (upd y.2 s.σ)/\ ∃c,y.1=[c]/\J09 s.w g'.C c v:=by
 simp only[fz,RM.run]at h;split at h;rename_i blk k;split at h;rename_i wm esz rows;split at h;rename_i hc;simp only[RM.run]at h;injection h with h;subst h;obtain⟨wm',g⟩:=j.1 b _ _ _ k;obtain⟨g',h1,h2,q,o⟩:=JGy hi hr g hc;exact⟨g',h1,h2,q,_,rfl,o⟩;cases h;cases h;cases h
theorem JJT{e:List Blk}(hi:Inv s)(j:Frz e s.σ){x:AV}{y:List PV×List (Nat×Blk)}{v:Value}(h:(fz.fz1 x).run ⟨env,e⟩=some y)(hr:JH s x v):
  ∃g',Inv ⟨upd y.2 s.σ,g',s.w⟩/\bB s ⟨upd y.2 s.σ,g',s.w⟩/\Frz s.σ (upd y.2 s.σ)/\ ∃c,y.1=[c]/\J09 s.w g'.C c v:=by
 cases x with
 |p c=>
  simp only[fz.fz1,RM.run]at h;injection h with h;subst h;cases hr with
  |p _ _ hr=>exact⟨s.g,hi,.refl s,.refl _,c,rfl,hr⟩
 |slr b i n=>exact NB hi j (by exact h) hr
 |_=>grind [fz.fz1,RM.run]
theorem Gb{A:List Blk}: ∀{xs:List AV} {s:Sn} {y:List PV×List (Nat×Blk)} {vs:List Value},Inv s->Frz A s.σ->(fz.fzL xs).run ⟨env,A⟩=some y->xs.length=vs.length->
  (∀(i:Nat) x v,xs[i]?=some x->vs[i]?=some v->JH s x v)->
  ∃g',Inv ⟨upd y.2 s.σ,g',s.w⟩/\bB s ⟨upd y.2 s.σ,g',s.w⟩/\Frz s.σ (upd y.2 s.σ)/\y.1.length=vs.length/\
   ∀(i:Nat) c v,y.1[i]?=some c->vs[i]?=some v->J09 s.w g'.C c v
 |[],s,y,vs,hi,j,h,e,k=>by
  simp only[fz.fzL,RM.run]at h;injection h with h;subst h;exact⟨s.g,hi,.refl s,.refl _,by simpa using e,λi c v hc=>by simp at hc⟩
 |x::xs,s,y,[],hi,j,h,e,k=>by simp at e
 |x::xs,s,y,v::vs,hi,j,h,e,k=>by
  simp only[fz.fzL]at h;obtain⟨o,h1,h⟩:=bind_some h;obtain⟨G,h2,h⟩:=bind_some h;simp only[RM.run]at h;injection h with h;subst h;obtain⟨D,i1,z,r,c,hc,F⟩:=JJT hi j h1 (k 0 x v rfl rfl);obtain⟨B,i2,q,E,J,L⟩:=Gb (s:=⟨upd o.2 s.σ,D,s.w⟩) i1 (j.trans r) h2 (by simpa using e) λi x v H I=>(k (i+1) x v (by simpa using H) (by simpa using I)).mono hi z;refine⟨B,by grind [eR],by rw[eR];exact z.trans q,by rw[eR];exact r.trans E,by simp[hc,J],λi c' K hc' n=>?_⟩;rw[hc]at hc';cases i with
  |zero=>simp at hc' n;subst hc' n;exact J09.mono (s0:=⟨upd o.2 s.σ,D,s.w⟩) (s:=⟨upd G.2 (upd o.2 s.σ),B,s.w⟩) i1 q F
  |succ i=>grind
theorem ZJ{k:List Blk}(hi:Inv s)(j:Frz k s.σ){x:AV}{y:List PV×List (Nat×Blk)}{v:Value}(h:(fz x).run ⟨env,k⟩=some y)(hr:JH s x v):
  ∃g',Inv ⟨upd y.2 s.σ,g',s.w⟩/\bB s ⟨upd y.2 s.σ,g',s.w⟩/\Frz s.σ (upd y.2 s.σ)/\y.1.length=v.cells.size/\
   ∀(i:Nat) c u,y.1[i]?=some c->v.cells[i]?=some u->J09 s.w g'.C c u:=by
 cases x with
 |p c=>
  simp only[fz,RM.run]at h;injection h with h;subst h;cases hr with
  |p _ _ hr=>
   refine⟨s.g,hi,.refl s,.refl _,by rw[hr.cells1];rfl,λi c' u hc e=>?_⟩;rw[hr.cells1]at e;grind
 |data cs=>
  simp only[fz,RM.run]at h;injection h with h;subst h;cases hr with
  |data _ vs h1 h2=>exact⟨s.g,hi,.refl s,.refl _,h1,λi c u hc e=>h2 i c u hc e⟩
 |slr b i n=>
  obtain⟨g',h1,h2,q,c,hc,o⟩:=NB hi j h hr;refine⟨g',h1,h2,q,by rw[hc,o.cells1];rfl,λi c' u hc' e=>?_⟩;rw[o.cells1]at e;grind
 |agg cs=>
  simp only[fz]at h;cases hr with
  |agg _ vs h1 G h2=>
   obtain⟨g',A,E,B,F,D⟩:=Gb (vs:=vs.toList) hi j h (by simpa using h1) λi x v r z=>h2 i x v r (by simpa using z);grind [Value.cells]
 |_=>grind [fz,RM.run]
theorem FT(he:bN s a.tmps env){x:Option Opd}{y:Option Operand}{v:Option AV}(h:(evo x).run ⟨env,s.σ⟩=some v)(hc:wF x y=true):
  (v=none/\y=none)\/ ∃u q,v=some u/\y=some q/\JH s u (a.eval q):=by
 cases x with
 |none=>
  grind [evo,RM.run,wF]
 |some x=>
  cases y with
  |none=>grind [wF]
  |some y=>
   simp only[evo]at h;obtain⟨u,h1,h⟩:=bind_some h;simp only[RM.run]at h;injection h with h;subst h;exact .inr ⟨u,y,rfl,rfl,bJ he h1 hc⟩
theorem SY{x:AV}{top n j:Nat}{v:Value}(h:pP (some x) top j=some n)(hr:JH s x v)(g:Nat)(o:top<=g)(k:BoundsCode)(w:World):
  (Instr.sliceBound v g k).run P w=.ok n w/\n<=top:=by
 unfold pP at h;split at h;simp_all;rename_i e;injection e with e;subst e;split at h;rename_i hc;injection h with h;subst h;have:=iR hr;grind [Instr.sliceBound,asIntOf,Sem.run_pure];cases h;cases h
theorem JGp{n:Nat}{lo hi:Option AV}{c:Nat×Nat}(h:vQ n lo hi=some c):pP hi n n=some c.2/\pP lo c.2 0=some c.1:=by
 grind [vQ]
theorem gx(he:bN s a.tmps env){lo hi:Option Opd}{o n:Option Operand}{l h:Option AV}{len cap:Nat}{c:Nat×Nat}{isSlice:Bool}
  (h1:(evo lo).run ⟨env,s.σ⟩=some l) (h2:(evo hi).run ⟨env,s.σ⟩=some h) (x:wF lo o=true) (B:wF hi n=true)
  (hc:vQ len l h=some c) (r:len<=cap) (w:World):
  (Instr.sliceBounds isSlice len cap (o.map a.eval) (n.map a.eval) none).run P w=.ok (c.1,c.2,cap) w/\c.1<=c.2/\c.2<=len:=by
 obtain⟨k,e⟩:=JGp hc;obtain⟨i,j⟩:=c;rcases FT he h2 B with⟨rfl,rfl⟩|⟨u,q,rfl,rfl,z⟩;simp[pP]at k;subst k;rcases FT he h1 x with⟨rfl,rfl⟩|⟨A,q',rfl,rfl,g⟩;simp[pP]at e;subst e;simp[Instr.sliceBounds];obtain⟨v,y⟩:=SY (P:=P) e g len (zQ0 _) .sliceB w;simp_all [Instr.sliceBounds];rcases FT he h1 x with⟨rfl,rfl⟩|⟨A,q',rfl,rfl,g⟩;obtain⟨v,y⟩:=SY (P:=P) k z cap r (if isSlice then .sliceAcap else .sliceAlen) w;simp[pP]at e;subst e;simp_all [Instr.sliceBounds];obtain⟨v,y⟩:=SY (P:=P) k z cap r (if isSlice then .sliceAcap else .sliceAlen) w;obtain⟨C,D⟩:=SY (P:=P) e g j (zQ0 _) .sliceB w;simp_all [Instr.sliceBounds]
theorem Dx{esz:Nat}{rows:List (List PV)}{v:Value}{i j:Nat}(h:J09 s.w s.g.C (.sl esz rows) v)(hij:i<=j)(hj:j<=rows.length):
  ∃e cap,v=.slice e rows.length cap/\rows.length<=cap/\
   J09 s.w s.g.C (.sl esz ((rows.drop i).take (j-i))) (.slice (if cap=i then e else e.map (·.add (i*esz))) (j-i) (cap-i)):=by
 have hlen:((rows.drop i).take (j-i)).length=j-i:=by simp;omega
 cases h with
 |sl0 _ e cap=>
  have q:j=0:=by simpa using hj
  have n:i=0:=by omega
  subst q n;refine⟨e,cap,rfl,zQ2 _,?_⟩;simpa using J09.sl0 (w:=s.w) (C:=s.g.C) esz _ _
 |sl _ _ r o cap vals A z G H=>
  refine⟨_,cap,rfl,A,?_⟩;by_cases y:cap=i;have B:j-i=0:=by omega
  rw[B];simpa using J09.sl0 (w:=s.w) (C:=s.g.C) esz _ _;rw[if_neg y];have:=J09.sl (w:=s.w) (C:=s.g.C) esz ((rows.drop i).take (j-i)) r (o+i*esz) (cap-i) (λk m=>vals (i+k) m) (by omega)
   (λrow E=>z row (zQ7 (kl E)))
   (λk m row x D F=>by
    grind)
   (λk m row x D F=>by
    grind)
  grind [AA]
def zO(k:SK)(x:AV)(lo hi:Option AV):Option AV:=
 match k with
 | .str=>wP x lo hi
 | .sl esz=>wM esz x lo hi
theorem Ek(hi:Inv s){k:SK}{t:TypeId}{y:Operand}{A z:Option Operand}{q:Operand}{c:PV}{l I:Option AV}{u r:AV}{g':Gh}{ws:List (Nat×Blk)}
  (D:o.op=.slice t y A z (some q)) (ht:(match k with
   | .str=>jK P t
   | .sl esz=>(match elT P t with|some e=>szT P e==some esz|none=>false))=true)
  (hl:l=none->A=none) (G: ∀H,I=some H-> ∃q',z=some q'/\JH s H (a.eval q')) (hu:JH s u (a.eval q))
  (hs:kO k (.p c) l I (some u)=some r) (E:Inv ⟨upd ws s.σ,g',s.w⟩) (t':bB s ⟨upd ws s.σ,g',s.w⟩) (hr:J09 s.w g'.C c (a.eval y)):bM P o a s ⟨r,ws⟩:=by
 cases k with
 |str=>grind [kO]
 |sl esz=>
  simp only[kO]at hs;unfold PO at hs;split at hs;rename_i O rows R h1 T U h;injection h with h;subst h;split at hs;rename_i hc;obtain⟨rfl,rfl,rfl⟩:=hc;injection hs with hs;subst hs;obtain⟨q',rfl,B⟩:=G _ rfl;obtain rfl:=hl rfl;have Y:=iR B;have W:=iR hu;simp only at ht;split at ht;rename_i el F;simp only[beq_iff_eq]at ht;obtain⟨g,cap,J,N,hrel⟩:=Dx (s:=⟨s.σ,g',s.w⟩) (i:=0) (j:=rows.length) hr (zQ2 _) (zQ0 _);have Q: ∀w:World,(Instr.sliceBounds true rows.length cap none (some (a.eval q')) (some (a.eval q))).run P w=.ok (0,rows.length,rows.length) w:=by simp_all [Instr.sliceBounds,Instr.sliceBound,asIntOf]
  have n:J09 s.w g'.C (.slc esz rows) (.slice g rows.length rows.length):=by
   refine .slc esz rows g ?_;rw[J]at hr;cases hr with
   |sl0=>exact .sl0 _ _ _
   |sl _ _ r o cap vals S M K L=>exact .sl esz rows r o rows.length vals (zQ0 _) M K L
  refine gY (e:=⟨_,ws⟩) (w':=s.w) (g':=g') (v:=.slice g rows.length rows.length) ?_ E t' (.p _ _ n);have V:(if rows.length=0 then g else g.map λx=>x.add (0*esz))=g:=by simp[Addr.add]
  simp only[execOp,D,J];simp[Instr.sliceAt,Instr.slice,run_underlying (gH F),Q,jS ht];simp_all;cases ht;cases hs;cases hs
theorem JHw(hi:Inv s)(he:bN s a.tmps env){k x lo z mx}(h:(opR F (.slice k x lo z mx) new).run ⟨env,s.σ⟩=some e)(hc:JX P (.slice k x lo z mx) o.op=true):bM P o a s e:=by
 simp only[opR]at h;obtain⟨u,h1,h⟩:=bind_some h;obtain⟨l,h2,h⟩:=bind_some h;obtain⟨B,Q,h⟩:=bind_some h;obtain⟨m,h4,h⟩:=bind_some h;unfold JX at hc;simp only at hc;split at hc
 ·rename_i t y W U ae E;simp only[aS]at hc;obtain⟨⟨⟨⟨hx,O⟩,N⟩,c3⟩,ht⟩:=hc;have q:=bJ he h1 hx;rcases FT he h4 c3 with⟨rfl,rfl⟩|⟨um,qm,rfl,rfl,K⟩
  case inr=>
   have H:l=none->W=none:=(by grind [FT]);have J: ∀u',B=some u'-> ∃q',U=some q'/\JH s u' (a.eval q'):=(by grind [FT]);split at h;rename_i b i n;obtain⟨y',R,h⟩:=bind_some h;obtain⟨g',i1,t1,f1,c,L,V⟩:=NB hi (.refl _) R q;split at h;rename_i c' hc';rw[L]at hc';injection hc' with hc';subst hc';split at h;rename_i r v;simp only[RM.run]at h;injection h with h;subst h;exact Ek hi E ht H J K v i1 t1 V;cases h;cases h;rename_i x' T;obtain⟨r,v,rfl⟩:=gJ h;cases u with
   |p c=>
    cases q with
    |p _ _ q=>exact Ek (ws:=[]) (g':=s.g) hi E ht H J K v hi (.refl s) q
   |_=>grind [kO,PO]
  have A: ∀{c:AV} {r},kO k c l B none=some r->(none:Option Operand)=none/\zO k c l B=some r:=by intro c r j;exact⟨rfl,j⟩
  have S: ∀{b:List UInt8} {r},kO k (.p (.s b)) l B none=some r->a.eval y=.string ⟨b.toArray⟩->bM P o a s ⟨r,[]⟩:=by
   intro b r j hz;obtain⟨_,G⟩:=A j;clear j;have j:=G;clear G;cases k with
   |sl esz=>grind [zO,wM]
   |str=>
    simp only[zO,wP]at j;split at j;rename_i c hc;injection j with j;subst j;have ab:=xD ht;obtain⟨hb,hij,aa⟩:=gx (P:=P) (isSlice:=false) (cap:=b.length) he h2 Q O N hc (zQ0 _) s.w;have ac:(⟨b.toArray⟩:ByteArray).extract c.1 c.2=⟨((b.drop c.1).take (c.2-c.1)).toArray⟩:=by apply ByteArray.ext;simp_all
    simp_all [JL,F6,execOp,Instr.sliceAt,Instr.slice,run_underlying,uC];cases j
  have D: ∀{s':Sn} {ws} {esz rows r} {g'},s'=⟨upd ws s.σ,g',s.w⟩->Inv s'->bB s s'->kO k (.p (.sl esz rows)) l B none=some r->J09 s'.w s'.g.C (.sl esz rows) (a.eval y)->bM P o a s ⟨r,ws⟩:=by
   intro s' ws esz rows r g' hs' z t' j v;obtain⟨_,G⟩:=A j;clear j;have j:=G;clear G;cases k with
   |str=>grind [zO,wP]
   |sl ez=>
    simp only[zO,wM]at j;split at j;rename_i Z;subst Z;split at j;rename_i c hc;injection j with j;subst j;simp only at ht;split at ht;rename_i el Y;simp only[beq_iff_eq]at ht;have I:=gx (P:=P) (isSlice:=true) he h2 Q O N hc (zQ0 _) s.w;obtain⟨ad,cap,hv,M,hrel⟩:=Dx v I.2.1 I.2.2;obtain⟨hb,_,_⟩:=gx (P:=P) (isSlice:=true) he h2 Q O N hc M s.w;subst hs';refine gY (e:=⟨_,ws⟩) (w':=s.w) (g':=g') ?_ z t' (.p _ _ hrel);simp only[execOp,E,hv];simp[Instr.sliceAt,Instr.slice,run_underlying (gH Y),hb,jS ht];cases ht;cases j;cases j
  split at h;rename_i b i n;obtain⟨y',R,h⟩:=bind_some h;obtain⟨g',i1,t1,f1,c,L,V⟩:=NB hi (.refl _) R q;grind [RM.run,fz];rename_i x' T;obtain⟨r,v,rfl⟩:=gJ h;cases u with
  |p c=>
   cases c with
   |s b=>grind [tX]
   |sl esz rows=>cases q with|p _ _ q=>exact D (s':=s) (ws:=[]) (g':=s.g) rfl hi (.refl s) v q
   |_=>grind [zO,wP,wM]
  |slr b i n=>simp_all
  |_=>grind [zO,wP,wM]
 cases hc
end
end Go.Am
end
section
namespace Go.Am
section
variable {P:Program} {F:Orc} {s:Sn} {a:Act} {env:List (Nat×AV)} {o:Oper} {new:Nat} {e:Eff}
theorem r8(hi:Inv s){agg:Bool}{size:Nat}{x:AV}{v:Value}(h:(gE agg size x).run ⟨env,s.σ⟩=some e)(hr:JH s x v):
  ∃r o vs,v=.pointer (some ⟨r,o,none⟩)/\vs.length=size/\(∀(k:Nat) u,vs[k]?=some u->cellAt s.w r (o+k)=some u)/\e.ws=[]/\
   ((agg=true/\JH s e.val (.agg vs.toArray))\/(agg=false/\ ∃u,vs=[u]/\JH s e.val u)):=by
 unfold gE at h;split at h;rename_i cs off;split at h;rename_i l z;obtain⟨r',A,rfl⟩:=gJ h;obtain⟨n,J,I⟩:=MI z;cases hr with
 |cp _ _ r o vals q N=>
  have P: ∀(i:Nat) y u,l[i]?=some y->((List.range size).map λi=>vals (off+i))[i]?=some u->J09 s.w s.g.C y u:=(by grind);refine⟨r,o+off,(List.range size).map λi=>vals (off+i),rfl,by simp,λk u D=>?_,rfl,ZX A (by simp[n]) P⟩;grind
 cases h
 ·rename_i b off;simp only[RM.run]at h;split at h
  ·rename_i blk H;split at h
   ·rename_i cs;split at h
    ·rename_i l z;obtain⟨r',A,rfl⟩:=gJ h;obtain⟨n,J,I⟩:=MI z;cases hr with
     |ptr _ _ r o m Y=>
      obtain⟨O,o1,c,V,fz,j,R,K,U,S⟩:=hi.box b cs H;rw[m]at j;injection j with j;injection j with m1 m2;subst m1 m2;have B: ∀k,k<size-> ∃u,c[o+(off+k)]?=some u/\u.oneCell'=true/\ ∀y,l[k]?=some y->JH s y u:=(by grind);refine⟨r,o+off,(List.range size).map λi=>(c[o+(off+i)]?).getD .nilFunc,rfl,by simp,λk u D=>?_,rfl,QG A (by simp[n]) (λv L=>?_) λi y u T D=>?_⟩
      all_goals grind [kS]
    cases h
   cases h
  cases h
 ·rename_i b ext i off;simp only[RM.run]at h;split at h
  ·rename_i blk H;split at h
   ·rename_i wm esz rows;split at h
    ·rename_i G;split at h
     ·rename_i row F;split at h
      ·rename_i l z;obtain⟨r',A,rfl⟩:=gJ h;obtain⟨n,J,I⟩:=MI z;have E:s.σ[b]?=some (.arr wm esz rows):=H;cases hr with
       |ep _ _ _ _ _ wm' Q rows' p0 q N M=>
        rw[E]at q;injection q with q;injection q with a1 a2 a3;subst a1 a2 a3;have W:=Jw F;obtain⟨r,m,L⟩:=M G (by omega);rcases hi.arr b _ _ _ E with⟨j,_⟩|⟨O,c,V,fz,j,R,Z,K,U,S⟩;simp_all
        ·rw[m]at j;injection j with j;injection j with m1 _;subst m1
         have B: ∀k,k<size-> ∃u,c[i*esz+(off+k)]?=some u/\ ∀y,l[k]?=some y->J09 s.w s.g.C y u:=(by grind);refine⟨r,i*esz+off,(List.range size).map λk=>(c[i*esz+(off+k)]?).getD .nilFunc,L,by simp,λk u D=>?_,rfl,ZX A (by simp[n]) λk y u T D=>?_⟩
         all_goals grind [kS]
      cases h
     cases h
    cases h
   cases h
  cases h
 cases h
theorem tz{t:TypeId}{agg:Bool}{size:Nat}(ht:agT P t=some agg)(hs:szT P t=some size){r o:Nat}{vs:List Value}{w:World}(hl:vs.length=size)
  (h: ∀(k:Nat) u,vs[k]?=some u->cellAt w r (o+k)=some u):
  (agg=true->(loadVar t ⟨r,o,none⟩).run P w=.ok (.agg vs.toArray) w)/\(agg=false-> ∀u,vs=[u]->(loadVar t ⟨r,o,none⟩).run P w=.ok u w):=by
 constructor;rintro rfl;subst hl;simp_all [loadVar,FV,jS,sd];rintro rfl u rfl;have:=h 0 u rfl;simp_all [loadVar,FV,rM]
theorem JKR(hi:Inv s)(he:bN s a.tmps env){agg size x}(h:(opR F (.load agg size x) new).run ⟨env,s.σ⟩=some e)(hc:JX P (.load agg size x) o.op=true):bM P o a s e:=by
 simp only[opR]at h;obtain⟨u,h1,n⟩:=bind_some h;clear h;unfold JX at hc;simp only at hc;split at hc
 ·rename_i t y B;simp only[aS,beq_iff_eq]at hc;obtain⟨⟨⟨ht,z⟩,A⟩,D⟩:=hc;obtain⟨r,G,vs,I,v,g,j,k⟩:=r8 hi n (bJ he h1 A);obtain⟨C,H⟩:=tz (P:=P) ht z v g;obtain⟨ev,E⟩:=e;simp only at j k;subst j;rcases k with⟨rfl,w⟩|⟨rfl,q,rfl,w⟩
  all_goals simp_all [JL,execOp,Instr.loadAt,Instr.sureAddr]
 cases hc
theorem TW{x:AV}{l:List AV}{v:Value}(h:cellsOf x=some l)(hr:JH s x v):
  l.length=v.cells.size/\(∀u∈v.cells.toList,u.oneCell'=true)/\ ∀(i:Nat) y u,l[i]?=some y->v.cells[i]?=some u->JH s y u:=by
 have e: ∀{z:AV},JH s z v->v.cells= #[v]->v.oneCell'=true->l=[z]->l.length=v.cells.size/\(∀u∈v.cells.toList,u.oneCell'=true)/\ ∀(i:Nat) y u,l[i]?=some y->v.cells[i]?=some u->JH s y u:=(by grind);cases hr with
 |p c _ q=>simp[cellsOf]at h;exact e (.p _ _ q) q.cells1 q.one h.symm
 |data cs vs h1 h2=>
  simp[cellsOf]at h;subst h;refine⟨by grind [Value.cells],λu A=>?_,λi y u w A=>?_⟩;obtain⟨i,hi⟩:=fV A;have hi:vs[i]?=some u:=by grind [Value.cells]
  have G:=TJ hi;exact(h2 i cs[i] u (by simp_all) hi).one;rw[fT]at w;cases hcs:cs[i]? with
  |none=>simp_all
  |some c=>simp[hcs]at w;subst w;exact .p _ _ (h2 i c u hcs A)
 |agg cs vs h1 H h2=>
  grind [cellsOf,Value.cells,List.getElem?_of_mem]
 |tup=>grind [cellsOf]
 |unk=>grind [cellsOf]
 |ptr b off r o m C=>simp[cellsOf]at h;exact e (.ptr b off r o m C) rfl rfl h.symm
 |cp cs off r o vals j g=>simp[cellsOf]at h;exact e (.cp cs off r o vals j g) rfl rfl h.symm
 |slr b i n _ wm esz rows p0 j g k=>obtain⟨B,cap,rfl,F⟩:=p0;simp[cellsOf]at h;exact e (.slr b i n _ wm esz rows ⟨B,cap,rfl,F⟩ j g k) rfl rfl h.symm
 |ep b ext i off _ wm esz rows p0 j g k=>obtain⟨r,o,rfl⟩:=p0;simp[cellsOf]at h;exact e (.ep b ext i off _ wm esz rows ⟨r,o,rfl⟩ j g k) rfl rfl h.symm
 |fn f first caps fs cs h1 h2 E D=>simp[cellsOf]at h;exact e (.fn f first caps fs cs h1 h2 E D) rfl rfl h.symm
theorem JLx(hi:Inv s)(he:bN s a.tmps env)(hn:s.σ[new]?=some .dead){size x}(h:(opR F (.box size x) new).run ⟨env,s.σ⟩=some e)(hc:JX P (.box size x) o.op=true):bM P o a s e:=by
 simp only[opR]at h;obtain⟨u,h1,g⟩:=bind_some h;clear h;unfold JX at hc;simp only at hc;split at hc;rename_i t y B;have z:=bJ he h1 hc;split at g;rename_i cs hcs;split at g;cases g;obtain⟨C,q,n⟩:=TW hcs z;obtain⟨r,t'⟩:=RC hi hn (blk:=.box cs) (c:=(a.eval y).cells) (e:=t) (fz:=(0,0)) (w':={s.w with heap:=s.w.heap.push (.cells (a.eval y).cells t)}) rfl rfl rfl
  (λo _ _ h=>by simp at h) (λ_ _ _ h=>by cases h) ⟨by omega,λi x j=>by
   have A:=Jw j;have k:i<(a.eval y).cells.size:=by omega
   exact⟨(a.eval y).cells[i],by simp,n i x _ j (by simp),q _ (by simp)⟩⟩
 refine gY (e:=⟨.ptr new 0,[(new,.box cs)]⟩) (v:=.pointer (some ⟨s.w.heap.size,0,none⟩)) ?_ r t' (.ptr new 0 _ 0 (if_pos rfl) ⟨cs,jT hn⟩);simp_all [execOp,Instr.box,newVar,newRow];cases g;cases g;cases hc
theorem uM{zero:List PV}{t:TypeId}(h:kY P zero t=true): ∃v,zeT P t=some v/\zero.length=v.cells.size/\
  ∀{w C} (i:Nat) x u,zero[i]?=some x->v.cells[i]?=some u->J09 w C x u:=by
 unfold kY at h;split at h;rename_i v e;refine⟨v,e,?_,λi x u j g=>?_⟩;simpa using(SD (w:=default) (C:=λ_ _=>True) h).1;exact(SD h).2 i x u j (by simpa using g);cases h
theorem GC{t:TypeId}{v:Value}(h:zeT P t=some v)(w:World):(zeroValue t).run P w=.ok v w:=by unfold zeT at h;cases hi:P.info? t<;>simp_all [zeroValue,vy]
theorem JG2(hi:Inv s)(hn:s.σ[new]?=some .dead){zero}(h:(opR F (.newbox zero) new).run ⟨env,s.σ⟩=some e)(hc:JX P (.newbox zero) o.op=true):bM P o a s e:=by
 simp only[opR,RM.run]at h;cases h;unfold JX at hc;simp only at hc;split at hc;rename_i t z;obtain⟨v,A,q,r⟩:=uM hc;obtain⟨n,t'⟩:=RC hi hn (blk:=.box (zero.map .p)) (c:=v.cells) (e:=t) (fz:=(0,0)) (w':={s.w with heap:=s.w.heap.push (.cells v.cells t)}) rfl rfl rfl
  (λo _ _ h=>by simp at h) (λ_ _ _ h=>by cases h) ⟨by simp[q],λi x j=>by
   rw[fT]at j;cases hz:zero[i]? with
   |none=>simp[hz]at j
   |some c=>
    simp[hz]at j;subst j;have y:=Jw hz;have k:i<v.cells.size:=by omega
    have:=r (w:=s.w) (C:=s.g.C) i c v.cells[i] hz (by simp);exact⟨v.cells[i],by simp,.p _ _ this,this.one⟩⟩
 refine gY (e:=⟨.ptr new 0,[(new,.box (zero.map .p))]⟩) (v:=.pointer (some ⟨s.w.heap.size,0,none⟩)) ?_ n t' (.ptr new 0 _ 0 (if_pos rfl) ⟨_,jT hn⟩);simp_all [execOp,Instr.alloc,GC,newVar,newRow];cases hc
theorem JHx(hi:Inv s)(hn:s.σ[new]?=some .dead){esz x}(h:(opR F (.mkarr esz x) new).run ⟨env,s.σ⟩=some e)(hc:JX P (.mkarr esz x) o.op=true):bM P o a s e:=by
 simp only[opR,RM.run]at h;cases h;obtain⟨k,t'⟩:=RI hi hn esz;have hrel:JH ⟨s.σ.set new (.arr true esz []),fA s.g new none,s.w⟩ (.slr new 0 0) (.slice none 0 0):=
  .slr new 0 0 _ true esz [] ⟨none,0,rfl,.inl rfl⟩ (jT hn) (zQ0 _) λ_=>.inl ⟨if_pos rfl,rfl,rfl,rfl⟩
 unfold JX at hc;simp only at hc;split at hc;rename_i j;exact gY (e:=⟨.slr new 0 0,[(new,.arr true esz [])]⟩) (v:=.slice none 0 0) (by simp only[execOp,j];rfl) k t' hrel;rename_i j;exact gY (e:=⟨.slr new 0 0,[(new,.arr true esz [])]⟩) (v:=.slice none 0 0) (by simp only[execOp,j];rfl) k t' hrel;cases hc
theorem QU{α:Type}{cs vs cs':List α}{off:Nat}(h:spl cs off vs=some cs'):cs'.length=cs.length/\off+vs.length<=cs.length/\
  (∀(i:Nat),i<vs.length->cs'[off+i]?=vs[i]?)/\ ∀k,(k<off\/off+vs.length<=k)->cs'[k]?=cs[k]?:=by
 unfold spl at h;split at h;simp_all
 ·split at h
  ·rename_i hc;cases h;refine⟨by simp;omega,hc,λi hi=>?_,λk e=>?_⟩
   all_goals grind
  cases h
theorem JDc{w:World}{r o:Nat}{vs:List Value}{c:Array Value}{et:TypeId}{fz:Nat×Nat}(e:w.heap[r]?=some (.cells c et fz))(hl:o+vs.length<=c.size)
  (hf:EJ fz o (o+vs.length)) (h1: ∀v∈vs,v.oneCell'=true):(storeCells ⟨r,o,none⟩ vs).run P w=.ok () (w.setCells r o vs):=by
 have:=run_storeCells_cells (P:=P) r o vs 0 w
  (λj g=>by rw[rM,kS e];simp;omega)
  (λj g=>by
   have:=hf (o+0+j) (by omega) (by omega);grind [World.frozen?]) h1
 simp_all
theorem iw{t:TypeId}{v:Value}{w:World}{r o:Nat}{c:Array Value}{et:TypeId}{fz:Nat×Nat}(hs:szT P t=some v.cells.size)(e:w.heap[r]?=some (.cells c et fz))(hl:o+v.cells.size<=c.size)
  (hf:EJ fz o (o+v.cells.size)) (h1: ∀u∈v.cells.toList,u.oneCell'=true):(storeVar t ⟨r,o,none⟩ v).run P w=.ok () (w.setCells r o v.cells.toList):=by
 have:=JDc (P:=P) (vs:=v.cells.toList) e (by simpa using hl) (by simpa using hf) h1;simp_all [storeVar,jS]
theorem fq{o:Oper}{e:Eff}{w':World}{g':Gh}(hr:(execOp a.eval o).run P s.w=.ok .skip w')(g:e.val=gG)
  (hi:Inv ⟨upd e.ws s.σ,g',w'⟩) (t:bB s ⟨upd e.ws s.σ,g',w'⟩):bM P o a s e:=by
 intro next Q h;simp only[Oper.wp,hr,Oper.upon];exact h undef w' g' hi t (by rw[g];exact .tup _ _ rfl λi x v h=>by simp at h)
theorem Di{b:Nat}: ∀{ws:List (Nat×Blk)} {σ:List Blk},(ws.all λy=>y.1 !=b)=true->(upd ws σ)[b]?=σ[b]?
 |[],_,_=>rfl
 |y::ws,σ,h=>by simp only[List.all_cons,aS,bne_iff_ne]at h;show(upd ws (σ.set y.1 y.2))[b]?=_;rw[Di h.2,rV h.1]
theorem JIi(hi:Inv s)(he:bN s a.tmps env){size x y}(h:(opR F (.store size x y) new).run ⟨env,s.σ⟩=some e)(hc:JX P (.store size x y) o.op=true):bM P o a s e:=by
 simp only[opR]at h;obtain⟨u,h1,h'⟩:=bind_some h;obtain⟨v,h2,g⟩:=bind_some h';clear h h';unfold JX at hc;simp only at hc;split at hc;rename_i t x' n c3;simp only[aS,beq_iff_eq]at hc;obtain⟨⟨hs,hx⟩,hy⟩:=hc;have rx:=bJ he h1 hx;have ry:=bJ he h2 hy;have a0: ∀{r M:Nat} {w':World},a.eval x'=.pointer (some ⟨r,M,none⟩)->(storeVar t ⟨r,M,none⟩ (a.eval n)).run P s.w=.ok () w'->(execOp a.eval o).run P s.w=.ok .skip w':=by simp_all [execOp,Instr.storeAt,Instr.sureAddr]
 unfold iA at g;split at g;rename_i b off;simp only[RM.run]at g;split at g;rename_i blk I;split at g;rename_i cs;split at g;rename_i l hl;split at g;rename_i am;split at g;rename_i cs' a8;cases g;have I:s.σ[b]?=some (.box cs):=I;generalize hz:a.eval x'=z at rx;cases rx with
 |ptr _ _ r M m bx=>
  obtain⟨k1,k2,k3⟩:=TW hl ry;obtain⟨j1,j2,j3,j4⟩:=QU a8;obtain⟨r1,o1,c,D,fz,C,L,au,Z,hf⟩:=hi.box b cs I;rw[m]at C;injection C with C;injection C with m1 m2;subst m1 m2;have B:=NO (vs:=(a.eval n).cells.toList) (o:=M+off) L (by simp;omega);have hlen:(a.eval n).cells.toList.length=l.length:=by simp[k1]
  obtain⟨i',t'⟩:=f0 hi (blk:=.box cs') I B (λk h1 h2=>by
   grind [Wr1]) (.box _ _ j1) (λbw q E=>by
   cases q;obtain⟨c0,e0,av,c',A,p2,p3,p4,p5,p6⟩:=B.there;rw[L]at A;injection A with A;injection A with K q2 q3;subst K q2 q3;refine⟨r,M,c',D,fz,m,p2,by omega,λi x aq=>?_,by simp_all⟩;by_cases b0:off<=i/\i<off+l.length;have D:cs'[off+(i-off)]?=l[i-off]?:=j3 (i-off) (by omega);rw[show off+(i-off)=i by omega,aq]at D;have J:i-off<(a.eval n).cells.size:=by omega
   have e2:=p5 (i-off) (a.eval n).cells[i-off] (by simp);refine⟨(a.eval n).cells[i-off],by rw[<-e2];congr 1;omega,E (k3 (i-off) x _ D.symm (by simp)),k2 _ (by simp)⟩;grind)
   (λ_ _ q=>by cases q)
  refine fq (e:=⟨gG,[(b,.box cs')]⟩) (a0 hz (iw (by simp_all) L (by omega) (λk h1 h2=>hf k (by omega) (by omega)) k2)) rfl i' t'
 cases g;cases g;cases g;cases g;cases g;rename_i b ext i off;simp only[RM.run]at g;split at g;rename_i blk I;split at g;rename_i esz rows;split at g;rename_i aa;split at g;rename_i row Q;obtain⟨H,h3,T⟩:=bind_some g;split at T;rename_i U;split at T;rename_i O V;cases T;have I:s.σ[b]?=some (.arr true esz rows):=I;obtain⟨am,b9⟩:=U;obtain⟨g1,i1,t1,f1,l1,r1⟩:=ZJ hi (.refl _) h3 ry;have S:(upd H.2 s.σ)[b]?=some (.arr true esz rows):=by grind [Di]
 have Y:=rx.mono hi t1;obtain⟨j1,j2,j3,j4⟩:=QU V;have a7: ∀u∈(a.eval n).cells.toList,u.oneCell'=true:=by
  intro u hu;obtain⟨k,G⟩:=fV hu;have G:(a.eval n).cells[k]?=some u:=by simpa using G
  have J:=TJ G;exact(r1 k H.1[k] u (by simp_all) G).one
 generalize hz:a.eval x'=z at Y;cases Y with
 |ep _ _ _ _ _ wm' a5 rows' p0 A p2 p3=>
  have A:(upd H.2 s.σ)[b]?=some (.arr wm' a5 rows'):=A;rw[S]at A;injection A with A;injection A with a1 a2 a3;subst a1 a2 a3;have J:=Jw Q;obtain⟨r,m,hv⟩:=p3 aa (by omega);rcases i1.arr b _ _ _ S with⟨C,_⟩|⟨rr,c,D,fz,C,L,ap,au,Z,hf⟩;simp_all;rw[m]at C;injection C with C;injection C with m1 _;subst m1;have b4:=ap row (iG Q);have hlen:(a.eval n).cells.toList.length=H.1.length:=by simp[l1]
  have bh:i*esz+esz<=rows.length*esz:=(by have:=zQ4 esz (show i+1<=rows.length from J);grind);have N:s.w.heap[r]?=some (.cells c D fz):=L;have B:=NO (vs:=(a.eval n).cells.toList) (o:=i*esz+off) N (by grind);obtain⟨i2,t2⟩:=f0 (s0:=⟨upd H.2 s.σ,g1,s.w⟩) i1 (blk:=.arr true esz (rows.set i O)) S B (λk h1 h2=>by
   grind [Wr1]) (.arr _ _ _ (by simp)) (λ_ q=>by cases q) (λb8 b3 q E=>by
   injection q with _ h1 h2;subst h1 h2;obtain⟨c0,e0,av,c',K,q2,q3,q4,q5,q6⟩:=B.there;rw[N]at K;injection K with K;injection K with w1 w2 w3;subst w1 w2 w3;refine .inr ⟨r,c',D,fz,m,q2,λc1 bz=>?_,by simp;omega,λk j a6 x0 G hj=>⟨?_,λh=>by cases h⟩,by simp_all⟩;grind;have bm:=Jw hj;by_cases W:k=i;subst W;rw[DX J]at G;cases G;by_cases b0:off<=j/\j<off+H.1.length;have D:=j3 (j-off) (by omega);rw[show off+(j-off)=j by omega,hj]at D;have R:j-off<(a.eval n).cells.size:=by omega
   have e2:=q5 (j-off) (a.eval n).cells[j-off] (by simp);refine⟨(a.eval n).cells[j-off],by rw[<-e2];congr 1;omega,E (r1 (j-off) x0 _ D.symm (by simp))⟩;grind;rw[HU (Ne.symm W)]at G;obtain⟨⟨v',az,ak⟩,_⟩:=Z k j a6 x0 G hj;refine⟨v',?_,E ak⟩;rw[q6 _ ?_];exact az;have an:j<esz:=by grind
   rw[hlen];rcases zQ3 k i with R|c2;left;have:=kP R an;omega;right;have:=zQ4 esz (show i+1<=k by omega);grind)
  refine fq (e:=⟨gG,H.2++[(b,.arr true esz (rows.set i O))]⟩) (g':=g1) (a0 (hz.trans hv) (iw (by simp_all) N (by grind) (λk h1 h2=>hf.1 k (by omega) (by grind)) a7)) rfl ?_ ?_;rw[eR];exact i2;rw[eR];exact t1.trans t2
 cases T;cases T;cases g;cases g;cases g;cases g;cases g;cases hc
end
end Go.Am
end
section
namespace Go.Am
theorem JAz(vs:List Value): ∀(k:Nat) (off:Nat) (cs:Array Value),off+k+vs.length<=cs.size->
  let r:=(vs.zipIdx k).foldl (λcs (x:Value×Nat)=>cs.setIfInBounds (off+x.2) x.1) cs
  r.size=cs.size/\(∀(j:Nat) v,vs[j]?=some v->r[off+k+j]?=some v)/\ ∀i,(i<off+k\/off+k+vs.length<=i)->r[i]?=cs[i]?:=by
 induction vs with
 |nil=>simp_all
 |cons v vs ih=>
  intro k off cs h;simp only[DV]at h;have:=ih (k+1) off (cs.setIfInBounds (off+k) v) (by simp;omega);simp only[List.zipIdx_cons,List.foldl_cons];obtain⟨h1,h2,e⟩:=this;grind
section
variable {P:Program} {F:Orc} {s:Sn} {a:Act} {env:List (Nat×AV)} {o:Oper} {new:Nat} {e:Eff}
theorem r5{place:Nat->Option (Nat×Nat)}{cells:Array Value}{i:Nat}{v:Value}{rest:List (Nat×Value)}{off size:Nat}(hp:place i=some (off,size))(hs:v.cells.size=size)(hl:off+size<=cells.size):
  ∃e:Array Value,Instr.fill place cells ((i,v)::rest)=Instr.fill place e rest/\e.size=cells.size/\(∀(j:Nat) u,v.cells[j]?=some u->e[off+j]?=some u)/\
   ∀k,(k<off\/off+size<=k)->e[k]?=cells[k]?:=by
 subst hs;obtain⟨h1,h2,h⟩:=JAz v.cells.toList 0 off cells (by simp;omega);refine⟨v.cells.zipIdx.foldl (λcs (c,j)=>cs.setIfInBounds (off+j) c) cells,?_,?_,?_,?_⟩;grind [Instr.fill]
 all_goals (have g:v.cells.zipIdx.foldl (λcs (x:Value×Nat)=>cs.setIfInBounds (off+x.2) x.1) cells=(v.cells.toList.zipIdx 0).foldl (λcs (x:Value×Nat)=>cs.setIfInBounds (off+x.2) x.1) cells:=by
             rw[<-Array.foldl_toList];simp)
 all_goals simp_all
theorem fe{place:Nat->Option (Nat×Nat)}: ∀{parts:List (Nat×Nat×List AV)} {ps:List (Nat×Value)} {cs cs':List AV} {cells:Array Value},
  pM parts cs=some cs'->parts.length=ps.length->
  (∀(k:Nat) off size l i v,parts[k]?=some (off,size,l)->ps[k]?=some (i,v)->place i=some (off,size)/\l.length=v.cells.size/\(∀u∈v.cells.toList,u.oneCell'=true)/\
   ∀(j:Nat) y u,l[j]?=some y->v.cells[j]?=some u->JH s y u)->
  cs.length=cells.size->(∀(i:Nat) x,cs[i]?=some x-> ∃u,cells[i]?=some u/\JH s x u/\u.oneCell'=true)->
  ∃e,Instr.fill place cells ps=some e/\cs'.length=e.size/\ ∀(i:Nat) x,cs'[i]?=some x-> ∃u,e[i]?=some u/\JH s x u/\u.oneCell'=true
 |[],[],cs,cs',cells,h,_,_,hl,hr=>by simp[pM]at h;subst h;exact⟨cells,rfl,hl,hr⟩
 |[],_::_,_,_,_,_,hl,_,_,_=>by simp at hl
 |_::_,[],_,_,_,_,hl,_,_,_=>by simp at hl
 |(off,size,l)::parts,(i,v)::ps,cs,cs',cells,h,hlen,hp,hl,hr=>by
  unfold pM at h;split at h;rename_i D;split at h;rename_i F n;obtain⟨z,H,q,r⟩:=hp 0 off size l i v rfl rfl;obtain⟨G,M,w,I⟩:=QU n;obtain⟨g,J,K,A,L⟩:=r5 (v:=v) (rest:=ps) (cells:=cells) z (by omega) (by omega);obtain⟨e,Q,O,N⟩:=fe (cells:=g) h (by simpa using hlen) (λk off size l i v h1 h2=>hp (k+1) off size l i v (by simpa using h1) (by simpa using h2)) (by omega) (λk x B=>by
   by_cases E:off<=k/\k<off+l.length;have o:=w (k-off) (by omega);rw[show off+(k-off)=k by omega,B]at o;have C:k-off<v.cells.size:=by omega
   have P:=A (k-off) v.cells[k-off] (by simp);exact⟨v.cells[k-off],by simp_all,r (k-off) x _ o.symm (by simp),q _ (by simp)⟩;grind)
  simp_all;cases h;cases h
theorem gv(he:bN s a.tmps env){place:Nat->Option (Nat×Nat)}: ∀{parts:List (Nat×Nat×Opd)} {ps:List (Nat×Operand)} {l:List (Nat×Nat×List AV)},
  (kM parts).run ⟨env,s.σ⟩=some l->rQ place parts ps=true->
  l.length=(ps.map λx=>(x.1,a.eval x.2)).length/\
  ∀(k:Nat) off size cs i v,l[k]?=some (off,size,cs)->(ps.map λx=>(x.1,a.eval x.2))[k]?=some (i,v)->place i=some (off,size)/\cs.length=v.cells.size/\(∀u∈v.cells.toList,u.oneCell'=true)/\
   ∀(j:Nat) y u,cs[j]?=some y->v.cells[j]?=some u->JH s y u
 |[],[],l,h,_=>by
  grind [kM,RM.run]
 |[],_::_,_,_,hc=>by grind [rQ]
 |_::_,[],_,_,hc=>by grind [rQ]
 |(off,size,x)::parts,(i,y)::ps,l,h,hc=>by
  simp only[rQ,aS,beq_iff_eq]at hc;obtain⟨⟨r,e⟩,hc⟩:=hc;simp only[kM]at h;obtain⟨v,h1,h⟩:=bind_some h;split at h;rename_i cs hcs;obtain⟨l',h2,h⟩:=bind_some h;simp only[RM.run]at h;injection h with h;subst h;obtain⟨g,n⟩:=gv he h2 hc;obtain⟨o,w,q⟩:=TW hcs (bJ he h1 e);grind;cases h
theorem gy: ∀{fs:List Field},(∀f∈fs,(szT P f.type).isSome=true)-> ∀w:World,
  (fs.mapM λf=>do pure (f.offset,<-sizeOf f.type):Sem (List (Nat×Nat))).run P w=.ok (fs.map λf=>(f.offset,(szT P f.type).getD 0)) w
 |[],_,w=>by simp
 |f::fs,h,w=>by
  have j:(szT P f.type)=some ((szT P f.type).getD 0):=by have:=h f (by simp);cases hq:szT P f.type<;>simp[hq]at this⊢
  have ih:=gy (fs:=fs) (λg e=>h g (by simp[e])) w;rw[List.mapM_cons];simp only[yW,jS j,tE,VG,ih];simp
theorem JHD(hi:Inv s)(he:bN s a.tmps env){zero parts}(h:(opR F (.build zero parts) new).run ⟨env,s.σ⟩=some e)(hc:JX P (.build zero parts) o.op=true):bM P o a s e:=by
 simp only[opR]at h;obtain⟨l,h1,E⟩:=bind_some h;clear h;unfold JX at hc;simp only at hc;split at hc;rename_i t ps a1;simp only[aS]at hc;obtain⟨Y,ht⟩:=hc;obtain⟨z,a2,K,L⟩:=uM Y;split at E;rename_i cs hcs;obtain⟨r,Z,rfl⟩:=gJ E;have D: ∀(i:Nat) x,(zero.map AV.p)[i]?=some x-> ∃u,z.cells[i]?=some u/\JH s x u/\u.oneCell'=true:=by
  intro i x I;rw[fT]at I;cases hzi:zero[i]? with
  |none=>simp_all
  |some c=>
   simp[hzi]at I;subst I;have J:=Jw hzi;have S:i<z.cells.size:=by omega
   have:=L (w:=s.w) (C:=s.g.C) i c z.cells[i] hzi (by simp);exact⟨z.cells[i],by simp,.p _ _ this,this.one⟩
 have fin: ∀{place:Nat->Option (Nat×Nat)},rQ place parts ps.toList=true->
   ∃j,Instr.fill place z.cells (ps.toList.map λx=>(x.1,a.eval x.2))=some j/\JH s r (.agg j):=by
  intro place B;obtain⟨R,U⟩:=gv he h1 B;obtain⟨j,G,T,W⟩:=fe (s:=s) (cells:=z.cells) hcs R U (by simp[K]) D;refine⟨j,G,?_⟩;have:=QG (s:=s) (vs:=j.toList) Z (by simpa using T) (λv Q=>by
    obtain⟨i,k⟩:=fV Q;have k:j[i]?=some v:=by simpa using k
    have J:=TJ k;obtain⟨u,O,_,h1⟩:=W i cs[i] (by simp_all);simp_all)
   (λi y v hy Q=>by
    grind)
  simp_all
 have a3:(ps.map λx=>(x.1,a.eval x.2)).toList=ps.toList.map λx=>(x.1,a.eval x.2):=by simp
 split at ht;rename_i fs O;simp only[aS]at ht;obtain⟨A,B⟩:=ht;obtain⟨j,G,H⟩:=fin B;have a0:(λi=>(fs.map λf=>(f.offset,(szT P f.type).getD 0))[i]?)=FS P fs:=by
  funext i
  simp only[FS,Array.getElem?_map];cases hfi:fs[i]? with
  |none=>rfl
  |some f=>have:=VU.1 A f (Array.mem_of_getElem? hfi);cases M:szT P f.type<;>simp[M]at this⊢
 refine JL hi (v:=.agg j) ?_ H;have V:(fs.mapM λf=>do pure (f.offset,<-sizeOf f.type):Sem (Array (Nat×Nat))).run P s.w=.ok (fs.map λf=>(f.offset,(szT P f.type).getD 0)) s.w:=by
  rw[Array.mapM_eq_mapM_toList];simp only[Sem.run_map,gy (P:=P) (fs:=fs.toList) (λf N=>VU.1 A f (by simpa using N)),tE]
  congr 1
  grind
 have N:Instr.fill (λi=>(fs.map λf=>(f.offset,(szT P f.type).getD 0))[i]?) z.cells (ps.map λx=>(x.1,a.eval x.2)).toList=some j:=by simp_all
 simp_all [Instr.build,GC,run_underlying,execOp];rename_i n el O;split at ht;rename_i q M;obtain⟨j,G,H⟩:=fin ht;refine JL hi (v:=.agg j) ?_ H;have hb:(Instr.build t (ps.map λx=>(x.1,a.eval x.2))).run P s.w=.ok (.agg j) s.w:=by simp_all [Instr.build,GC,run_underlying,jS]
 simp_all [execOp];cases ht;cases ht;cases E;cases hc
theorem JLc(hi:Inv s){n}(h:(opR F (.alen n) new).run ⟨env,s.σ⟩=some e)(hc:JX P (.alen n) o.op=true):bM P o a s e:=by
 simp only[opR,RM.run]at h;injection h with h;subst h;unfold JX at hc;simp only at hc;split at hc;rename_i c k;split at hc;rename_i g;split at hc;rename_i y t j r;have z:c.args.map a.eval= #[a.eval y]:=by apply DD;simp[j]
 have q:c.argTypes[0]?=some t:=by rw[<-UU,r];rfl
 split at hc;rename_i m el w;have:m=n:=by simpa using hc
 subst this;exact JL hi (v:=.int .i64 m) (by simp[execOp,k,resolve,g,z,invoke,builtin,Builtin.len_,q,run_underlying w,goInt]) (pL _ _);rename_i ar w;split at hc;rename_i m el x;have:m=n:=by simpa using hc
 subst this;exact JL hi (v:=.int .i64 m) (by simp[execOp,k,resolve,g,z,invoke,builtin,Builtin.len_,q,run_underlying w,run_underlying (fh x),goInt]) (pL _ _);cases hc;cases hc;cases hc;cases hc;cases hc
end
end Go.Am
end
section
namespace Go.Am
def qX(s:Sn)(esz:Nat)(rows:List (List PV))(c:Array Value):Prop:=(∀row∈rows,row.length=esz)/\rows.length*esz<=c.size/\ ∀(i j:Nat) row x,rows[i]?=some row->row[j]?=some x-> ∃u,c[i*esz+j]?=some u/\J09 s.w s.g.C x u
section
variable {P:Program} {F:Orc} {s:Sn} {a:Act} {env:List (Nat×AV)} {o:Oper} {new:Nat} {e:Eff}
theorem qX.mono{s0 s:Sn}(hi:Inv s0)(t:bB s0 s){esz rows c}(h:qX s0 esz rows c):qX s esz rows c:=
 ⟨h.1,h.2.1,λi j row x e g=>let⟨u,h1,h2⟩:=h.2.2 i j row x e g;⟨u,h1,h2.mono hi t⟩⟩
theorem RY{s0:Sn}(hi:Inv s0)(hn:s0.σ[new]?=some .dead){esz:Nat}{rows:List (List PV)}{c:Array Value}{et:TypeId}{fz:Nat×Nat}{w':World}{cap:Nat}
  (j:w'.heap=s0.w.heap.push (.cells c et fz)) (ho:w'.os=s0.w.os) (hp:w'.output=s0.w.output) (hf:tU esz fz c.size) (hr:qX s0 esz rows c) (e:rows.length<=cap) (g:cap*esz<=c.size):
  (∃g',Inv ⟨s0.σ.set new (.arr true esz rows),g',w'⟩/\bB s0 ⟨s0.σ.set new (.arr true esz rows),g',w'⟩/\
   JH ⟨s0.σ.set new (.arr true esz rows),g',w'⟩ (.slr new 0 rows.length) (.slice (some ⟨s0.w.heap.size,0,none⟩) rows.length cap)):=by
 obtain⟨k,t'⟩:=RC hi hn (blk:=.arr true esz rows) j ho hp hf.1 (λ_ _ _ h=>by injection h with _ h _;subst h;exact hf.2) hr;refine⟨_,k,t',.slr new 0 _ _ true esz rows ⟨_,_,rfl,.inr (by simp)⟩ (jT hn) (by omega) λ_=>.inr ⟨s0.w.heap.size,cap,c,et,fz,if_pos rfl,by simp,e,SF j,by simpa using g⟩⟩
theorem gg{s0:Sn}(hi:Inv s0){esz:Nat}{rows:List (List PV)}{c:Array Value}{et:TypeId}{fz:Nat×Nat}{w':World}{cap:Nat}
  (h:w'.heap=s0.w.heap.push (.cells c et fz)) (ho:w'.os=s0.w.os) (hp:w'.output=s0.w.output) (hr:qX s0 esz rows c) (e:rows.length<=cap):
  (∃g',Inv ⟨s0.σ,g',w'⟩/\bB s0 ⟨s0.σ,g',w'⟩/\JH ⟨s0.σ,g',w'⟩ (.p (.sl esz rows)) (.slice (some ⟨s0.w.heap.size,0,none⟩) rows.length cap)):=by
 obtain⟨k,t'⟩:=JGf hi h ho hp;refine⟨_,k,t',.p _ _ (ii (s:=⟨s0.σ,_,w'⟩) rfl e hr.1 (.inr ⟨_,0,rfl,λi j row x g n=>⟨.inr rfl,?_⟩⟩))⟩;obtain⟨u,o,hrel⟩:=hr.2.2 i j row x g n;exact⟨u,by grind [kS],hrel.mono hi t'⟩
theorem F4{E:List Blk}{tmps:Array Value}(he: ∀n x,lk n env=some x-> ∃v,a.tmps[n]?=some v): ∀{xs:List Opd} {e:List Operand} {s:Sn} {y:List (List PV)×List (Nat×Blk)},Inv s->Frz E s.σ->bN s a.tmps env->
  (fzs xs).run ⟨env,E⟩=some y->iP xs e=true->
  ∃g',Inv ⟨upd y.2 s.σ,g',s.w⟩/\bB s ⟨upd y.2 s.σ,g',s.w⟩/\Frz s.σ (upd y.2 s.σ)/\y.1.length=e.length/\
   ∀(k:Nat) cs q,y.1[k]?=some cs->e[k]?=some q->cs.length=(a.eval q).cells.size/\ ∀(i:Nat) c u,cs[i]?=some c->(a.eval q).cells[i]?=some u->J09 s.w g'.C c u
 |[],[],s,y,hi,o,r,h,_=>by
  simp only[fzs,RM.run]at h;injection h with h;subst h;exact⟨s.g,hi,.refl s,.refl _,rfl,λk cs q h=>by simp at h⟩
 |[],_::_,_,_,_,_,_,_,hc=>by grind [iP]
 |_::_,[],_,_,_,_,_,_,hc=>by grind [iP]
 |x::xs,q::e,s,y,hi,o,r,h,hc=>by
  simp only[iP,aS]at hc;simp only[fzs]at h;obtain⟨v,h1,h⟩:=bind_some h;obtain⟨j,h2,h⟩:=bind_some h;obtain⟨M,P,h⟩:=bind_some h;simp only[RM.run]at h;injection h with h;subst h;have D:(ev x).run ⟨env,s.σ⟩=some v:=by cases x<;>simp_all [ev,RM.run]
  have N:=bJ r D hc.1;obtain⟨I,i1,B,A,L,J⟩:=ZJ hi o h2 N;obtain⟨G,i2,z,K,Q,R⟩:=F4 (tmps:=tmps) he (s:=⟨upd j.2 s.σ,I,s.w⟩) i1 (o.trans A) (r.mono hi B) P hc.2;refine⟨G,by grind [eR],by rw[eR];exact B.trans z,by rw[eR];exact A.trans K,by simp[Q],λk cs q' F H=>?_⟩;cases k with
  |zero=>simp at F H;subst F H;exact⟨L,λi c u hc O=>J09.mono (s0:=⟨upd j.2 s.σ,I,s.w⟩) (s:=⟨upd M.2 (upd j.2 s.σ),G,s.w⟩) i1 z (J i c u hc O)⟩
  |succ k=>grind
theorem rk{esz:Nat}(z:0<esz): ∀{parts:List (Nat×List PV)} {ps:List (Nat×Value)} {rows rows':List (List PV)} {cells:Array Value},
  AB esz parts rows=some rows'->parts.length=ps.length->
  (∀(k:Nat) i cs j v,parts[k]?=some (i,cs)->ps[k]?=some (j,v)->i=j/\cs.length=v.cells.size/\ ∀(m:Nat) c u,cs[m]?=some c->v.cells[m]?=some u->J09 s.w s.g.C c u)->
  qX s esz rows cells->cells.size=rows.length*esz->
  ∃e,Instr.fill (λi=>some (i*esz,esz)) cells ps=some e/\qX s esz rows' e/\rows'.length=rows.length/\e.size=rows.length*esz
 |[],[],rows,rows',cells,h,_,_,hr,hs=>by simp[AB]at h;subst h;exact⟨cells,rfl,hr,rfl,hs⟩
 |[],_::_,_,_,_,_,hl,_,_,_=>by simp at hl
 |_::_,[],_,_,_,_,hl,_,_,_=>by simp at hl
 |(i,cs)::parts,(j,v)::ps,rows,rows',cells,h,hlen,hp,hr,hs=>by
  unfold AB at h;split at h;rename_i hc;obtain⟨rfl,L,B⟩:=hp 0 i cs j v rfl rfl;have D:i*esz+esz<=rows.length*esz:=(by have:=zQ4 esz (show i+1<=rows.length from hc.2);grind);obtain⟨o,M,O,F,E⟩:=r5 (place:=λi=>some (i*esz,esz)) (v:=v) (rest:=ps) (cells:=cells) (i:=i) rfl (by omega) (by omega);obtain⟨G,T,H⟩:=hr;obtain⟨e,R,Q,P,N⟩:=rk z (cells:=o) h (by simpa using hlen) (λk i cs j v h1 h2=>hp (k+1) i cs j v (by simpa using h1) (by simpa using h2))
   ⟨λrow S=>by
     grind,by simp;omega,λk m row x n q=>by
     by_cases r:k=i;subst r;rw[DX hc.2]at n;injection n with n;subst n;have K:=Jw q;have y:m<v.cells.size:=by omega
     exact⟨v.cells[m],F m _ (by simp),B m x _ q (by simp)⟩;rw[HU (Ne.symm r)]at n;obtain⟨u,I,hrel⟩:=H k m row x n q;refine⟨u,?_,hrel⟩;rw[E _ ?_];exact I;have A:=Jw q;rw[G row (iG n)]at A;rcases zQ3 k i with y|J;grind [kP];right;have:=zQ4 esz (show i+1<=k by omega);grind⟩ (by simp;omega)
  grind;cases h
theorem RF{t:TypeId}{n:Nat}(h:szT P t=some n): ∃i,P.info? t=some i/\i.size=n:=by simp_all [szT]
theorem dj{t:TypeId}{v:Value}{i:TypeInfo}(h:zeT P t=some v)(hi:P.info? t=some i):i.zero=some v:=by
 grind [zeT]
theorem ec{t:TypeId}{n:Nat}{i:TypeInfo}(h:byT P t=some n)(hi:P.info? t=some i):i.bytes=n:=by
 grind [byT]
theorem JIK{z:Array Value}{esz n i j:Nat}(hz:z.size=esz)(hi:i<n)(hj:j<esz):(madeCells z (n*esz))[i*esz+j]?=z[j]?:=by
 grind [kP,Nat.add_mul_mod_self_right,Nat.mod_eq_of_lt,madeCells]
theorem tu{zero:List PV}{z:Value}{esz n m:Nat}(hl:zero.length=esz)(k:zero.length=z.cells.size)
  (g: ∀{w C} (i:Nat) x u,zero[i]?=some x->z.cells[i]?=some u->J09 w C x u) (q:n<=m):qX s esz (List.replicate n zero) (madeCells z.cells (m*esz)):=by
 refine⟨λrow v=>by simp_all,?_,λi j row x hi h=>?_⟩;simp_all [size_madeCells,zQ4];have e:=Jw hi;have:=List.eq_of_mem_replicate (iG hi);subst this;have o:=Jw h;simp at e;have r:z.cells.size=esz:=by omega
 refine⟨z.cells[j],?_,g j x _ h (by simp)⟩;grind [JIK]
theorem JDi(hi:Inv s)(he:bN s a.tmps env){own esz bytes zero l c}(hn:own=true->s.σ[new]?=some .dead)(h:(opR F (.mkslice own esz bytes zero l c) new).run ⟨env,s.σ⟩=some e)
  (hc:JX P (.mkslice own esz bytes zero l c) o.op=true):bM P o a s e:=by
 simp only[opR]at h;obtain⟨u,h1,D⟩:=bind_some h;obtain⟨v,h2,g⟩:=bind_some D;clear h D;unfold JX at hc;simp only at hc;split at hc;rename_i t l' c' Y;simp only[aS]at hc;obtain⟨⟨V,C⟩,ht⟩:=hc;have S:=bJ he h1 V;have T:=bJ he h2 C;split at ht;rename_i el E;simp only[aS,beq_iff_eq,decide_eq_true_eq]at ht;obtain⟨⟨⟨⟨⟨W,K⟩,U⟩,H⟩,R⟩,Q⟩:=ht;obtain⟨i,j,I⟩:=RF W;obtain⟨z,G,J,L⟩:=uM U;have O:=ec K j;split at g;rename_i k n k' m;split at g;rename_i r;obtain⟨M,N,Z,hm⟩:=r;have e1:=iR S;have e2:=iR T;have A:=run_make (P:=P) s.w t el i z (gH E) j (dj G j) k k' n m M N (by simp_all) (by omega);rw[I]at A;have q:qX s esz (List.replicate n.toNat zero) (madeCells z.cells (m.toNat*esz)):=tu H J L (by omega);have x:(execOp a.eval o).run P s.w=.ok (.value (.slice (some ⟨s.w.heap.size,0,none⟩) n.toNat m.toNat)) (s.w.alloc (.cells (madeCells z.cells (m.toNat*esz)) el)):=by simp_all [execOp]
 split at g;rename_i y;simp only[RM.run]at g;injection g with g;subst g;obtain⟨g',B,t',r'⟩:=RY hi (hn y) (w':=s.w.alloc (.cells (madeCells z.cells (m.toNat*esz)) el)) (fz:=(0,0)) rfl rfl rfl (tU.zero _ _) q (cap:=m.toNat) (by simp;omega) (by simp[size_madeCells]);simp only[EM]at r';exact gY x B t' r';simp only[RM.run]at g;injection g with g;subst g;obtain⟨g',B,t',r'⟩:=gg hi (w':=s.w.alloc (.cells (madeCells z.cells (m.toNat*esz)) el)) (fz:=(0,0)) rfl rfl rfl q (cap:=m.toNat) (by simp;omega);simp only[EM]at r';exact gY (e:=⟨_,[]⟩) x B t' r';cases g;cases g;cases ht;cases hc
theorem JKL(hi:Inv s)(he:bN s a.tmps env){own esz n zero parts}(hn:own=true->s.σ[new]?=some .dead)(h:(opR F (.lits own esz n zero parts) new).run ⟨env,s.σ⟩=some e)
  (hc:JX P (.lits own esz n zero parts) o.op=true):bM P o a s e:=by
 simp only[opR]at h;obtain⟨y,h1,r⟩:=bind_some h;clear h;unfold JX at hc;simp only at hc;split at hc;rename_i t len ps ad;simp only[aS,beq_iff_eq]at hc;obtain⟨rfl,ht⟩:=hc;split at ht;rename_i el I;simp only[aS,beq_iff_eq,decide_eq_true_eq]at ht;obtain⟨⟨⟨⟨⟨hs,ae⟩,hz⟩,Y⟩,M⟩,hidx⟩:=ht;obtain⟨z,V,Z,a3⟩:=uM hz;have A:iP (parts.map (·.2)) (ps.toList.map (·.2))=true/\parts.map (·.1)=ps.toList.map (·.1):=by
  have: ∀{p:List (Nat×Opd)} {q:List (Nat×Operand)},LI p q=true->iP (p.map (·.2)) (q.map (·.2))=true/\p.map (·.1)=q.map (·.1):=by
   intro p
   induction p with
   |nil=>intro q h;cases q<;>simp[LI]at h⊢;rfl
   |cons x p ih=>intro q h;cases q<;>grind [LI,iP]
  exact this hidx
 obtain⟨S,i1,t1,f1,l1,r1⟩:=F4 (tmps:=a.tmps) (λn x hx=>let⟨v,h,_⟩:=he n x hx;⟨v,h⟩) hi (.refl _) he h1 A.1;split at r;rename_i rows G;have E:(parts.map (·.1)).length=(ps.toList.map (·.1)).length:=by rw[A.2]
 simp at E;simp at l1;have Q:((parts.map (·.1)).zip y.1).length=(ps.toList.map λx=>(x.1,a.eval x.2)).length:=by simp;omega
 obtain⟨g,N,r2,B,U⟩:=rk (s:=⟨upd y.2 s.σ,S,s.w⟩) M (ps:=ps.toList.map λx=>(x.1,a.eval x.2)) (cells:=madeCells z.cells (len*esz)) G Q (λk i cs j v hk R=>by
   rw[List.getElem?_zip_eq_some]at hk;obtain⟨H,T⟩:=hk;rw[fT]at R;cases hpk:ps.toList[k]? with
   |none=>simp_all
   |some q=>
    simp[hpk]at R;obtain⟨rfl,rfl⟩:=R;rw[A.2,fT,hpk]at H;simp at H;obtain⟨k3,k4⟩:=r1 k cs q.2 T (by simp_all);grind)
  (tu Y Z a3 (zQ0 _)) (by simp[size_madeCells])
 simp at B U;have J:(execOp a.eval o).run P s.w=.ok (.value (.slice (some ⟨s.w.heap.size,0,none⟩) len len)) (s.w.alloc (.cells g el)):=by
  have D: ¬(len*esz>2^24):=by omega
  have K:(ps.map fun(x:Nat×Operand)=>(x.1,a.eval x.2)).toList=ps.toList.map λx=>(x.1,a.eval x.2):=by simp
  have hb:(Instr.buildSlice t len (ps.map fun(x:Nat×Operand)=>(x.1,a.eval x.2))).run P s.w=.ok (.slice (some ⟨s.w.heap.size,0,none⟩) len len) (s.w.alloc (.cells g el)):=by
   unfold Instr.buildSlice;by_cases h0:len*esz=0;have C:madeCells z.cells (len*esz)= #[]:=by grind [madeCells]
   rw[C]at N;have W: ¬((0:Nat)>2^24):=by decide
   have a2:Array.range 0= #[]:=rfl;simp only[W,yW,run_underlying (gH I),tE,jS hs,D,if_false,h0,if_true,VG,K,a2,Array.map_empty,N,newRow,run_newObj];rfl;have C:((Array.range (len*esz)).map λx=>z.cells[x%z.cells.size]!)=madeCells z.cells (len*esz):=rfl;simp only[yW,run_underlying (gH I),tE,jS hs,D,if_false,h0,GC V,VG,K,C,N,newRow,run_newObj];rfl
  simp_all [execOp]
 split at r;rename_i L;simp only[RM.run]at r;injection r with r;subst r;have a0:(upd y.2 s.σ)[new]?=some .dead:=f1.2 _ _ (hn L) (by simp);obtain⟨g',O,t',r'⟩:=RY (s0:=⟨upd y.2 s.σ,S,s.w⟩) i1 a0 (w':=s.w.alloc (.cells g el)) (fz:=(0,0)) rfl rfl rfl (tU.zero _ _) r2 (cap:=len) (by omega) (by omega);rw[B]at r';refine gY (e:=⟨_,y.2++[(new,.arr true esz rows)]⟩) (g':=g') J ?_ ?_ ?_;rw[eR];exact O;rw[eR];exact t1.trans t';rw[eR];exact r';simp only[RM.run]at r;injection r with r;subst r;obtain⟨g',O,t',r'⟩:=gg (s0:=⟨upd y.2 s.σ,S,s.w⟩) i1 (w':=s.w.alloc (.cells g el)) (fz:=(0,0)) rfl rfl rfl r2 (cap:=len) (by omega);rw[B]at r';exact gY (e:=⟨_,y.2⟩) J O (t1.trans t') r';cases r;cases ht;cases hc
end
end Go.Am
end
section
namespace Go.Am
section
variable {P:Program} {F:Orc} {s:Sn} {a:Act} {env:List (Nat×AV)} {o:Oper} {new:Nat} {e:Eff}
theorem ul(l:List UInt8)(c:Array Value)(hc: ∀(i:Nat) b,l[i]?=some b->c[i]?=some (.int .u8 b.toNat))(hl:l.length<=c.size):qX s 1 (l.map mF) c:=by
 refine⟨λrow g=>?_,by simpa using hl,λi j row x hi e=>?_⟩;obtain⟨b,_,rfl⟩:=jC.1 g;rfl;rw[fT]at hi;cases hli:l[i]? with
 |none=>simp_all
 |some b=>
  simp[hli]at hi;subst hi;have:j=0:=by grind [mF]
  subst this;simp[mF]at e;subst e;exact⟨_,by simp_all,.i _ _⟩
theorem cw{α:Type}{esz:Nat}: ∀{rows:List (List α)},(∀row∈rows,row.length=esz)-> ∀{i j:Nat} {row:List α} {x:α},rows[i]?=some row->row[j]?=some x->rows.flatten[i*esz+j]?=some x
 |[],_,i,j,row,x,h,_=>by simp at h
 |r0::g,e,i,j,row,x,h,n=>by
  have o:r0.length=esz:=e r0 (by simp);cases i with
  |zero=>
   grind
  |succ i=>
   simp only[qQ];rw[dX (by grind)];have:=cw (rows:=g) (λrow k=>e row (by simp[k])) (by simpa using h) n;grind
theorem Ke{el:TypeId}(l:List UInt8)(w:World): ∃w' cap c fz,(Conv.stringToBytes el ⟨l.toArray⟩).run P w=.ok (.slice (some ⟨w.heap.size,0,none⟩) l.length cap) w'/\
  w'.heap=w.heap.push (.cells c el fz)/\w'.os=w.os/\w'.output=w.output/\EJ fz 0 c.size/\l.length<=cap/\c.size=cap/\ ∀(i:Nat) b,l[i]?=some b->c[i]?=some (.int .u8 b.toNat):=by
 have k:(Question.appendCap l.length 0 el).forced=false:=rfl;have e:l.length<=(Question.appendCap l.length 0 el).cut (w.tape w.drawn (.appendCap l.length 0 el)):=by simp[Question.cut]
 generalize j:(Question.appendCap l.length 0 el).cut (w.tape w.drawn (.appendCap l.length 0 el))=cap at e
 let c:Array Value:=(l.toArray.map λb=>Value.int .u8 b.toNat)++Array.replicate (cap-l.length) (.int .u8 0)
 have hc:c.size=cap:=by simp[c];omega
 refine⟨({w with drawn:=w.drawn+1,heap:=w.heap.push (.cells c el)}).freeze {block:=w.heap.size,off:=c.size} 1,cap,c,(c.size,c.size+1),?_,?_,?_,?_,?_,e,hc,?_⟩;unfold Conv.stringToBytes;have n:ByteArray.size ⟨l.toArray⟩=l.length:=uC l;have g:World.shape? {w with drawn:=w.drawn+1,heap:=w.heap.push (.cells c el)} w.heap.size=some (el,c.size):=by simp[World.shape?]
 have q:(Array.map (λb=>Value.int IntKind.u8 ↑(UInt8.toNat b)) l.toArray++Array.replicate (cap-l.length) (Value.int IntKind.u8 0))=c:=rfl;simp only[yW,run_choose,n,k,eJ,if_false,tE,j,newRow,run_newObj,VG,markStringish,run_shape,run_freeze,q,g];grind [World.freeze];simp[World.freeze];simp[World.freeze];intro o _ h;simp;omega;grind
theorem JDS(hi:Inv s)(he:bN s a.tmps env){own x}(hn:own=true->s.σ[new]?=some .dead)(h:(opR F (.conv (.toBytes own) x) new).run ⟨env,s.σ⟩=some e)
  (hc:JX P (.conv (.toBytes own) x) o.op=true):bM P o a s e:=by
 simp only[opR]at h;obtain⟨u,h1,g⟩:=bind_some h;clear h;unfold JX at hc;simp only at hc;split at hc;rename_i K dst y I;simp only[aS]at hc;obtain⟨H,M,ht⟩:=hc;have E:=bJ he h1 H;split at ht;rename_i el J;simp only[aS,beq_iff_eq]at ht;have r: ∃l,u=.p (.s l)/\(if own=true then RM.ret ⟨.slr new 0 l.length,[(new,.arr true 1 (l.map mF))]⟩else RM.ret ⟨.p (.sl 1 (l.map mF)),[]⟩:RM Eff).run ⟨env,s.σ⟩=some e:=by
  cases u with
  |p c=>cases c with|s l=>simp_all|_=>cases g
  |_=>cases g
 clear g;obtain⟨l,rfl,g⟩:=r
 skip
 obtain⟨w',cap,c,fz,D,v,A,z,G,C,hcs,B⟩:=Ke (P:=P) (el:=el) l s.w;have L:=tX E;have k:(execOp a.eval o).run P s.w=.ok (.value (.slice (some ⟨s.w.heap.size,0,none⟩) l.length cap)) w':=by simp_all [execOp,convert,run_underlying,xD,gH,qt]
 have j:=ul (s:=s) l c B (by omega);split at g;rename_i n;simp only[RM.run]at g;injection g with g;subst g;obtain⟨g',q,t',r'⟩:=RY (esz:=1) hi (hn n) v A z ⟨G,λh=>absurd rfl h⟩ j (cap:=cap) (by simp_all) (by omega);simp only[fK]at r';exact gY k q t' r';simp only[RM.run]at g;injection g with g;subst g;obtain⟨g',q,t',r'⟩:=gg hi v A z j (cap:=cap) (by simp_all);simp only[fK]at r';exact gY (e:=⟨_,[]⟩) k q t' r';cases ht;cases hc
theorem Dt(hi:Inv s){esz:Nat}{x:AV}{new:List (List PV)}{v:Value}{u:TypeId}(h:(fG esz x).run ⟨env,s.σ⟩=some new)(hr:JH s x v)
  (hu:(elT P u).isSome=true\/jK P u=true):
  ∃news,Src P esz u v new.length news s.w/\(∀row∈new,row.length=esz)/\
   ∀(i j:Nat) row y,new[i]?=some row->row[j]?=some y-> ∃q,news[i*esz+j]?=some q/\J09 s.w s.g.C y q:=by
 have e:(∃e',P.underlying u=some (.slice e'))\/P.underlying u=some .string:=(by rcases hu with hu|hu;obtain⟨e',O⟩:=k9.1 hu;simp_all [gH];grind [xD]);rcases sy hi h hr with⟨l,rfl,rfl,rfl,rfl⟩|F;have hlen:(byteCells ⟨l.toArray⟩).length=l.length:=by rw[byteCells_length,uC]
 have R: ∀w:World,(Builtin.firstCells 1 l.length (.string ⟨l.toArray⟩)).run P w=.ok (byteCells ⟨l.toArray⟩).toArray w:=(by grind [firstCells_string,uC]);refine⟨byteCells ⟨l.toArray⟩,⟨e,λw=>by rw[fK,<-uC];rfl,by simp_all,by simp_all,by rw[hlen];simp,λq I=>by obtain⟨_,_,rfl⟩:=jC.1 I;rfl⟩,λrow hr=>?_,?_⟩;obtain⟨b,_,rfl⟩:=jC.1 hr;rfl;have:=(ul (s:=s) l (byteCells ⟨l.toArray⟩).toArray (λi b S=>by
  grind [byteCells]) (by simp_all)).2.2
 simp_all;obtain⟨D,cap,vs,L,G,hlen,hrel,A,n⟩:=F.cells;have z: ∀q∈vs,q.oneCell'=true:=by
  intro q I;obtain⟨k,J⟩:=fV I;have N:=Jw J;have:k<new.flatten.length:=by grind [SC]
  obtain⟨q',o,hr⟩:=hrel k _ (zQ9 this);rw[J]at o;injection o with o;subst o;exact hr.one
 have B: ∀(i j:Nat) row y,new[i]?=some row->row[j]?=some y-> ∃q,vs[i*esz+j]?=some q/\J09 s.w s.g.C y q:=by
  intro i j row y h1 h2;refine hrel _ _ ?_;clear hrel A hlen z h hr L G F
  induction new generalizing i with
  |nil=>simp at h1
  |cons K new ih=>have Q:K.length=esz:=n K (by simp);cases i<;>grind
 subst L;rcases A with H|⟨r,M,rfl,T⟩;subst H;simp at hlen;subst hlen;refine⟨[],?_,n,B⟩;cases D with
 |none=>exact⟨e,λ_=>rfl,run_firstCells_none s.w esz 0 0 cap,run_firstCells_none s.w.drew esz 0 0 cap,by simp,λ_ h=>by cases h⟩
 |some D=>exact⟨e,λ_=>rfl,run_firstCells_some s.w esz 0 D 0 cap [] (by simp) (λj u h=>by simp at h),run_firstCells_some s.w.drew esz 0 D 0 cap [] (by simp) (λj u h=>by simp at h),by simp,λ_ h=>by cases h⟩
 have E: ∀j q,vs[j]?=some q->s.w.cell? (Addr.add ⟨r,M,none⟩ j)=some q:=λj q U=>by grind [AA,rM]
 exact⟨vs,⟨e,λ_=>rfl,run_firstCells_some s.w esz _ _ _ cap vs hlen E,run_firstCells_some s.w.drew esz _ _ _ cap vs hlen (by simpa using E),hlen,z⟩,n,B⟩
theorem QR(b:Nat)(x:Blk)(σ:List Blk):upd [(b,x)] σ=σ.set b x:=rfl
structure ll(P:Program)(esz bytes:Nat)(t ut ty el:TypeId)(z v:Value)(n:Nat)(news:List Value)(w:World):Prop where
 newsLen:news.length=n*esz
 room: ∀(r off sLen sCap:Nat),sLen+n<=sCap->(∀j,j<news.length->(w.cell? ⟨r,off+sLen*esz+j,none⟩).isSome=true)->(∀j,j<news.length->w.frozen? ⟨r,off+sLen*esz+j,none⟩=false)->
  (Builtin.append_ #[t,ut] ty #[.slice (some ⟨r,off,none⟩) sLen sCap,v]).run P w=.ok (.slice (some ⟨r,off,none⟩) (sLen+n) sCap) (w.setCells r (off+sLen*esz) news)
 grow: ∀(base:Option Addr) (sLen sCap:Nat) (olds:List Value),(Builtin.firstCells esz sLen (.slice base sLen sCap)).run P w.drew=.ok olds.toArray w.drew->sCap<sLen+n->((sLen+n:Nat):Int)<=9223372036854775807->
  Builtin.nextslicecap (sLen+n) sCap*bytes<=281474976710656->
  (Builtin.append_ #[t,ut] ty #[.slice base sLen sCap,v]).run P w=.ok (.slice (some ⟨w.heap.size,0,none⟩) (sLen+n) (grownCap w (sLen+n) sCap el)) (w.drew.alloc (.cells ((olds++news).toArray++Builtin.zeroCells z.cells (grownCap w (sLen+n) sCap el-(sLen+n))) el))
 nil:n=0->(Builtin.append_ #[t,ut] ty #[.slice none 0 0,v]).run P w=.ok (.slice none 0 0) w
theorem Src.gen{esz bytes:Nat}{t ut ty el:TypeId}{i:TypeInfo}{z v:Value}{n:Nat}{news:List Value}{w:World}(g:elT P t=some el)(hs:szT P el=some esz)(j:P.info? el=some i)(x:i.size=esz)(y:i.bytes=bytes)(k:i.zero=some z)
  (h:Src P esz ut v n news w):ll P esz bytes t ut ty el z v n news w:=by
 have e:=h;rw[<-x]at e;refine⟨h.newsLen,λr off sLen sCap h1 h2 B=>?_,λbase sLen sCap olds h1 h2 B E=>?_,λD=>?_⟩;have C:=run_append_room_src (P:=P) w t ut ty el i (gH g) j r off sLen sCap v n news e h1 (by simp_all) (by simp_all);simp_all;exact run_append_grow_src (P:=P) w t ut ty el i z (gH g) j k base sLen sCap olds (by simp_all) v n news e h2 B (by simp_all);subst D;have A:=h.len w;have o:=h.cells;rcases h.kind with⟨e',q⟩|q;simp[Builtin.append_,run_underlying (gH g),run_underlying q,jS hs,A,o];simp[Builtin.append_,run_underlying (gH g),run_underlying q,jS hs,A,o]
theorem JE0{esz bytes:Nat}{t ut ty el:TypeId}{i:TypeInfo}{z:Value}{k k':IntKind}{m:Nat}{w:World}(n:elT P t=some el)(hs:szT P el=some esz)(h:P.info? el=some i)(o:i.size=esz)(g:i.bytes=bytes)(j:i.zero=some z)
  (M:z.cells.size=esz) (I: ∀u∈z.cells.toList,u.oneCell'=true) (hk:P.underlying ut=some (.int k)) (hm:m*bytes<=281474976710656) (L:m<=281474976710656):
  ll P esz bytes t ut ty el z (.int k' (m:Int)) m (Builtin.zeroCells z.cells m).toList w:=by
 have D:IntKind.i64.wrap (m:Int)=(m:Int):=by grind [IntKind.wrap_i64]
 have A: ¬(m:Int)<0:=by omega
 have B: ¬(281474976710656:Int)<(m:Int)*(bytes:Int):=(by grind);have K:(Builtin.zeroCells z.cells m).toList.length=m*esz:=by grind [size_zeroCells]
 have C: ∀u∈(Builtin.zeroCells z.cells m).toList,u.oneCell'=true:=(by grind [Builtin.zeroCells,Nat.mod_lt]);have E:m*esz=0->Builtin.zeroCells z.cells m= #[]:=(by grind);refine⟨K,λr off sLen sCap h1 h2 G=>?_,λbase sLen sCap olds h1 h2 G N=>?_,λJ=>?_⟩;have v:=run_storeCells_cells (P:=P) r (off+sLen*esz) (Builtin.zeroCells z.cells m).toList 0 w (by simpa using h2) (by simpa using G) C;simp only[tC]at v;by_cases q:m*esz=0;have e:=E q;rw[e]at v⊢;simp[Builtin.append_,run_underlying (gH n),run_underlying hk,sizeOf,typeInfo,h,o,g,asInt,asIntOf,D,A,B,h1,q,Addr.add_lit,v];simp[Builtin.append_,run_underlying (gH n),run_underlying hk,sizeOf,typeInfo,zeroValue,h,j,o,g,asInt,asIntOf,D,A,B,h1,q,Addr.add_lit,v];have H: ¬(sLen+m<=sCap):=by omega
 have x: ¬(9223372036854775807<((sLen:Int)+(m:Int))):=by omega
 have y: ¬(281474976710656<Builtin.nextslicecap (sLen+m) sCap*bytes):=by omega
 by_cases q:m*esz=0;have e:=E q;rw[e];simp[Builtin.append_,run_underlying (gH n),run_underlying hk,sizeOf,typeInfo,zeroValue,h,j,o,g,asInt,asIntOf,D,A,B,q,H,x,y,Question.forced,h1,newRow,grownCap];simp[Builtin.append_,run_underlying (gH n),run_underlying hk,sizeOf,typeInfo,zeroValue,h,j,o,g,asInt,asIntOf,D,A,B,q,H,x,y,Question.forced,h1,newRow,grownCap]
 congr 2
 grind;subst J;have F:IntKind.i64.wrap 0=0:=by decide
 simp[Builtin.append_,run_underlying (gH n),run_underlying hk,sizeOf,typeInfo,h,o,g,asInt,asIntOf,F]
theorem sf(hi:Inv s){esz bytes:Nat}{zero:List PV}{u v:AV}{c:Call}{x' y':Operand}{t ut el:TypeId}(bb:o.op=.call c)(ax:c.callee=.builtin .append)
  (af:c.args.toList=[x',y']) (bw:c.argTypes.toList=[t,ut]) (cj:elT P t=some el)
  (ht:(szT P el==some esz&&byT P el==some bytes&&kY P zero el&&zero.length==esz&&decide (0<esz)&&decide (0<bytes))=true)
  (rx:JH s u (a.eval x')) (hG: ∀(i:TypeInfo) (z:Value) (new:List (List PV)),szT P el=some esz->P.info? el=some i->i.size=esz->i.bytes=bytes->i.zero=some z->zeT P el=some z->zero.length=z.cells.size->new.length*bytes<=281474976710656->new.length<=281474976710656->(fG esz v).run ⟨env,s.σ⟩=some new->
   ∃news,ll P esz bytes t ut o.type el z (a.eval y') new.length news s.w/\(∀row∈new,row.length=esz)/\
    ∀(i j:Nat) row y,new[i]?=some row->row[j]?=some y-> ∃q,news[i*esz+j]?=some q/\J09 s.w s.g.C y q)
  (x:(iM esz bytes u v).run ⟨env,s.σ⟩=some e):bM P o a s e:=by
 simp only[aS,beq_iff_eq,decide_eq_true_eq]at ht;obtain⟨⟨⟨⟨⟨hs,b6⟩,hz⟩,cb⟩,bn⟩,aj⟩:=ht;obtain⟨i,N,b2⟩:=RF hs;obtain⟨z,an,ck,cd⟩:=uM hz;have K:=ec b6 N;have ah:=dj an N;have hm:c.args.map a.eval= #[a.eval x',a.eval y']:=by apply DD;simp[af]
 have b3:c.argTypes= #[t,ut]:=by grind
 have a7: ∀{q:Value} {w':World},(Builtin.append_ #[t,ut] o.type #[a.eval x',a.eval y']).run P s.w=.ok q w'->(execOp a.eval o).run P s.w=.ok (.value q) w':=by intro q w' hr;simp[execOp,bb,resolve,ax,hm,b3,invoke,builtin,hr]
 unfold iM at x;split at x;rename_i b j n;simp only[RM.run]at x;split at x;rename_i blk E;split at x;rename_i wm Z rows;obtain⟨h,h3,V⟩:=bind_some x;clear x;split at V;rename_i ac;obtain⟨rfl,rfl,rfl,ae⟩:=ac;simp only[RM.run]at V;injection V with V;subst V;have E:s.σ[b]?=some (.arr wm esz rows):=E;have ae:(2*(rows.length+h.length)+512)*bytes<=281474976710656:=by grind [nJ]
 have be:rows.length+h.length<=281474976710656:=by have h5:(2*(rows.length+h.length)+512)*1<=(2*(rows.length+h.length)+512)*bytes:=Nat.mul_le_mul_left _ aj;omega
 have aq:h.length*bytes<=281474976710656:=(by grind);obtain⟨news,J,F,Q⟩:=hG i z h hs N b2 K ah an (by omega) aq (by omega) h3;have a6:=J.newsLen;have L:=jJ.of_slr hi rx E (by omega);simp only[DL]at L;generalize T:a.eval x'=zz at rx;have bt: ∀{O:Nat},O<rows.length+h.length->Builtin.nextslicecap (rows.length+h.length) O*i.bytes<=281474976710656:=by intro O ho;have h5:=nextslicecap_le ho;rw[K];have h6:Builtin.nextslicecap (rows.length+h.length) O*bytes<=(2*(rows.length+h.length)+512)*bytes:=zQ4 _ (by omega);omega
 have grow: ∀{base:Option Addr} {cap:Nat},zz=.slice base rows.length cap->cap<rows.length+h.length->
   bM P o a s ⟨.slr b 0 (rows.length+h.length),[(b,.arr wm esz (rows++h))]⟩:=by
  intro base cap al b5;rw[T]at L;obtain⟨ad,bm,vs,W,bf,H,aa,ai,I⟩:=L.cells;rw[al]at W;injection W with v1 v2 v3;subst v1 v3;have av:(Builtin.firstCells esz rows.length (.slice base rows.length cap)).run P s.w.drew=.ok vs.toArray s.w.drew:=by
   rcases ai with ao|⟨r,o',rfl,cg⟩;subst ao;simp at H;subst H;cases base<;>grind [run_firstCells_none,run_firstCells_some]
   exact run_firstCells_some s.w.drew esz _ _ _ cap vs H (λj q hj=>by
   have:s.w.drew.cell? (Addr.add ⟨r,o',none⟩ j)=s.w.cell? (Addr.add ⟨r,o',none⟩ j):=by simp
   grind [AA,rM])
  have A:=J.grow base rows.length cap vs av b5 (by omega) (by grind);have am:rows.length+h.length<=grownCap s.w (rows.length+h.length) cap el:=by simp[grownCap,Question.cut]
  generalize grownCap s.w (rows.length+h.length) cap el=U at A am;have b1:h≠[]:=by grind
  have ce:z.cells.size=esz:=by omega
  obtain⟨i0,t0⟩:=ft (w':=s.w.drew) hi rfl rfl rfl;have bq:((vs++news).toArray++Builtin.zeroCells z.cells (U-(rows.length+h.length))).size=U*esz:=by
   have:U*esz=(rows.length+h.length)*esz+(U-(rows.length+h.length))*esz:=by rw[<-zQ8];congr 1;omega
   grind [size_zeroCells]
  obtain⟨g',bx,i',t'⟩:=JHZ (s0:=⟨s.σ,s.g,s.w.drew⟩) i0 (w':=s.w.drew.alloc (.cells ((vs++news).toArray++Builtin.zeroCells z.cells (U-(rows.length+h.length))) el)) E b1 I F rfl rfl rfl
   (by grind) (λk m row q D hq=>by
    have R:=Jw hq;rcases ME D with D|⟨bp,D⟩;have a0:=Jw D;rw[I row (iG D)]at R;have au:=kP a0 R;have b7:=cw I D hq;obtain⟨w,hw,hrel⟩:=aa _ q b7;refine⟨w,?_,hrel.mono hi t0⟩;grind;rw[F row (iG D)]at R;have a0:=Jw D;have au:=kP a0 R;obtain⟨w,hw,hrel⟩:=Q _ m row q D hq;have e4:k*esz+m=rows.length*esz+((k-rows.length)*esz+m):=(by grind [Nat.add_sub_cancel']);refine⟨w,?_,hrel.mono hi t0⟩;rw[lz (by simp;omega)];simp;rw[dX (by omega),<-hw];congr 1;omega)
  refine gY (e:=⟨.slr b 0 (rows.length+h.length),[(b,.arr wm esz (rows++h))]⟩) (g':=g') (a7 (by rw[T,al];exact A)) i' (t0.trans t') ?_;refine .slr b 0 _ _ wm esz (rows++h) ⟨_,_,rfl,.inr (by simp)⟩ (jT E) (by simp) λ_=>.inr ⟨_,U,_,el,(0,0),bx,by simp,am,SF rfl,?_⟩;grind
 cases rx with
 |slr _ _ _ _ wm' Z rows' q0 Y q2 q3=>
  have Y:s.σ[b]?=some (.arr wm' Z rows'):=Y;rw[E]at Y;injection Y with Y;injection Y with a1 a2 a3;subst a1 a2 a3;rcases q3 (by omega)with⟨m',_,ba,W⟩|⟨r,cap,cc,e1,fz,m',W,bh,hh,bz⟩;have ab:rows=[]:=List.eq_nil_of_length_eq_zero ba;subst ab;by_cases aw:h=[];subst aw;simp at a6;subst a6;subst W;have A:(Builtin.append_ #[t,ut] o.type #[.slice none 0 0,a.eval y']).run P s.w=.ok (.slice none 0 0) s.w:=by exact J.nil rfl
  have M:s.σ.set b (.arr wm esz [])=s.σ:=(by apply zQ6;grind);refine gY (e:=⟨.slr b 0 0,[(b,.arr wm esz [])]⟩) (g':=s.g) (a7 (by rw[T];exact A)) ?_ ?_ ?_;rw[QR,M];exact hi;rw[QR,M];exact .refl s;rw[QR,M];exact .slr b 0 0 _ wm esz [] ⟨none,0,rfl,.inl rfl⟩ E (zQ0 _) λ_=>.inl ⟨m',rfl,rfl,rfl⟩;grind [List.length_pos_iff];subst W;by_cases G:rows.length+h.length<=cap;rcases hi.arr b _ _ _ E with⟨B,_⟩|⟨r',c',e',cf,B,S,bu,hlen,ch,b9⟩;grind;rw[m']at B;injection B with B;injection B with B _;subst B;rw[hh]at S;injection S with S;injection S with w1 w2 w3;subst w1 w2 w3;have c2:(rows.length+h.length)*esz<=cc.size:=(by have:=zQ4 esz G;grind);have bs:(rows.length+h.length)*esz=rows.length*esz+h.length*esz:=zQ8 _ _ _;have a9:=NO (vs:=news) (o:=rows.length*esz) hh (by omega);obtain⟨i',t'⟩:=JK4 hi E m' F a9 a6 Q;have A:=J.room r 0 rows.length cap G
   (λk D=>by rw[rM,kS hh];simp;omega)
   (λk D=>by
    have:=b9.1 (0+rows.length*esz+k) (by omega) (by omega);grind [World.frozen?])
  simp only[nA]at A;obtain⟨c0,e0,ci,b4,p1,p2,p3,p4,p5,p6⟩:=a9.there;rw[hh]at p1;injection p1 with p1;injection p1 with w1 w2 w3;subst w1 w2 w3;refine gY (e:=⟨.slr b 0 (rows.length+h.length),[(b,.arr wm esz (rows++h))]⟩) (a7 (by rw[T];simpa using A)) i' t' ?_;refine .slr b 0 _ _ wm esz (rows++h) ⟨_,_,rfl,.inr (by simp)⟩ (jT E) (by simp) λ_=>.inr ⟨r,cap,b4,e1,fz,m',by simp,G,p2,by grind⟩;grind
 cases V;cases x;cases x;cases x
theorem pf(hi:Inv s){esz bytes:Nat}{zero:List PV}{u v:AV}{c:Call}{B A:Operand}{t ut el:TypeId}(x:o.op=.call c)(r:c.callee=.builtin .append)
  (h:c.args.toList=[B,A]) (n:c.argTypes.toList=[t,ut]) (z:((elT P ut).isSome||jK P ut)=true) (k:elT P t=some el)
  (ht:(szT P el==some esz&&byT P el==some bytes&&kY P zero el&&zero.length==esz&&decide (0<esz)&&decide (0<bytes))=true)
  (D:JH s u (a.eval B)) (E:JH s v (a.eval A)) (y:(iM esz bytes u v).run ⟨env,s.σ⟩=some e):bM P o a s e:=
 sf hi x r h n k ht D (λ_ _ _ G q C g j _ _ _ _ F=>by obtain⟨news,w,h1,h2⟩:=Dt (u:=ut) hi F E (Bool.or_eq_true_iff.1 z);exact⟨news,Src.gen k G q C g j w,h1,h2⟩) y
theorem JL6(hi:Inv s)(he:bN s a.tmps env){esz bytes zero x y}(h:(opR F (.appz esz bytes zero x y) new).run ⟨env,s.σ⟩=some e)(hc:JX P (.appz esz bytes zero x y) o.op=true):bM P o a s e:=by
 simp only[opR]at h;obtain⟨u,h1,Y⟩:=bind_some h;obtain⟨v,h2,A⟩:=bind_some Y;clear h Y;unfold JX at hc;simp only at hc;split at hc
 ·rename_i c W;split at hc
  ·rename_i R;split at hc
   ·rename_i x' Z t ut E O;simp only[aS]at hc;obtain⟨⟨⟨hx,H⟩,J⟩,ht⟩:=hc;split at ht
    ·rename_i el K;split at J
     ·rename_i k hk;split at A
      ·rename_i c1 q;unfold zrs at q;split at q
       ·rename_i k' n;split at q
        case isFalse=>cases q
        rename_i hn;injection q with q;subst q;have ry:=bJ he h2 H;obtain⟨m,rfl⟩: ∃m:Nat,n=(m:Int):=⟨n.toNat,by omega⟩;have hv:a.eval Z=.int k' (m:Int):=by generalize a.eval Z=v0 at ry;cases ry with|p _ _ h=>cases h<;>grind
        refine sf hi W R E O K (by omega) (bJ he h1 hx) (λi z new hs Q a0 B G hz ae N M I=>?_) A;simp only[fG,if_pos,RM.run,Int.toNat_natCast]at I;injection I with I;subst I;rw[EM]at N M;simp only[aS,beq_iff_eq,decide_eq_true_eq]at ht;obtain⟨⟨⟨⟨⟨_,_⟩,S⟩,a7⟩,a5⟩,_⟩:=ht;obtain⟨z',r,a6,L⟩:=uM S;rw[hz]at r;injection r with r;subst r;have a3:z.cells.size=esz:=by omega
        have U: ∀(j:Nat) (u:Value),z.cells[j]?=some u-> ∃y:PV,zero[j]?=some y/\J09 s.w s.g.C y u:=(by intro j u V;have D:j<zero.length:=(by grind);exact⟨zero[j],zQ9 D,L j _ u (zQ9 D) V⟩);refine⟨(Builtin.zeroCells z.cells m).toList,?_,λrow hr=>by simp_all,λi j row y T H=>?_⟩;rw[EM,hv];refine JE0 K hs Q a0 B G a3 (λu V=>?_) hk N M;obtain⟨j,D⟩:=fV V;obtain⟨y,_,hr⟩:=U j u (by simpa using D);exact hr.one;have ad:i<m:=(by grind);have hre:row=zero:=(List.mem_replicate.1 (iG T)).2;subst hre;have D:=Jw H;have a1:j<z.cells.size:=by omega
        refine⟨z.cells[j],?_,L j y _ H (yU a1)⟩;grind [kP,Builtin.zeroCells,Nat.mul_comm,Nat.mul_add_mod,Nat.mod_eq_of_lt]
       cases q
      cases A
     cases J
    cases ht
   cases hc
  cases hc
 cases hc
theorem JLI(hi:Inv s)(he:bN s a.tmps env){esz bytes zero x y}(h:(opR F (.app esz bytes zero x y) new).run ⟨env,s.σ⟩=some e)(hc:JX P (.app esz bytes zero x y) o.op=true):bM P o a s e:=by
 simp only[opR]at h;obtain⟨u,h1,r⟩:=bind_some h;obtain⟨v,h2,q⟩:=bind_some r;clear h r;unfold JX at hc;simp only at hc;split at hc;rename_i c n;split at hc;rename_i k;split at hc;rename_i D C t ut g j;simp only[aS]at hc;obtain⟨⟨⟨B,A⟩,w⟩,ht⟩:=hc;split at ht;rename_i el z;exact pf hi n k g j w z (by omega) (bJ he h1 B) (bJ he h2 A) q;cases ht;cases hc;cases hc;cases hc
theorem JKJ(hi:Inv s)(he:bN s a.tmps env)(hn:s.σ[new]?=some .dead){esz bytes zero y}(h:(opR F (.appn esz bytes zero y) new).run ⟨env,s.σ⟩=some e)(hc:JX P (.appn esz bytes zero y) o.op=true):bM P o a s e:=by
 simp only[opR]at h;obtain⟨v,h2,H⟩:=bind_some h;obtain⟨rows,j,k⟩:=bind_some H;clear h H;unfold JX at hc;simp only at hc;split at hc
 ·rename_i c G;split at hc
  ·rename_i E;split at hc
   ·rename_i V t ut z C;simp only[aS]at hc;obtain⟨⟨T,I⟩,ht⟩:=hc;split at ht
    ·rename_i el J;split at k
     ·rename_i L;simp only[RM.run]at k;injection k with k;subst k
      obtain⟨i1,K⟩:=RI hi hn esz;have B:(s.σ.set new (.arr true esz []))[new]?=some (.arr true esz []):=jT hn;have R:JH ⟨s.σ.set new (.arr true esz []),fA s.g new none,s.w⟩ (.slr new 0 0) (a.eval (.const (.slice none 0 0))):=
       .slr new 0 0 _ true esz [] ⟨none,0,rfl,.inl rfl⟩ B (zQ0 _) λ_=>.inl ⟨if_pos rfl,rfl,rfl,rfl⟩
      have S:=(bJ he h2 T).mono hi K;have U:(fG esz v).run ⟨env,s.σ.set new (.arr true esz [])⟩=some rows:=by
       cases v with
       |slr b i n=>
        grind [fG,RM.run]
       |p c=>cases c<;>simp only[fG]at j⊢ <;>first|exact j|(split at j<;>rename_i O<;>first|(rw[if_pos O];exact j)|cases j)|cases j
       |_=>cases j
      have D:(iM esz bytes (.slr new 0 0) v).run ⟨env,s.σ.set new (.arr true esz [])⟩=some ⟨.slr new 0 rows.length,[(new,.arr true esz rows)]⟩:=(by grind [iM,RM.run,run_bind]);have ok:=pf (s:=⟨s.σ.set new (.arr true esz []),fA s.g new none,s.w⟩) i1 G E z C I J (by omega) R S D;intro next Q A;refine ok next Q λM w' g' r x q=>?_;have N:upd [(new,Blk.arr true esz rows)] (s.σ.set new (.arr true esz []))=upd [(new,Blk.arr true esz rows)] s.σ:=by simp[QR]
      simp only at r x q;rw[N]at r x q;exact A M w' g' r (K.trans x) q
     cases k
    cases ht
   cases hc
  cases hc
 cases hc
theorem JJX(hi:Inv s)(he:bN s a.tmps env)(hn:s.σ[new]?=some .dead){esz bytes zero x y}(h:(opR F (.appc esz bytes zero x y) new).run ⟨env,s.σ⟩=some e)(hc:JX P (.appc esz bytes zero x y) o.op=true):bM P o a s e:=by
 simp only[opR]at h;obtain⟨u,h1,h'⟩:=bind_some h;obtain⟨v,h2,C⟩:=bind_some h';clear h h';unfold JX at hc;simp only at hc;split at hc;rename_i c bg;split at hc;rename_i ay;split at hc;rename_i x' y' t ut R ax;simp only[aS]at hc;obtain⟨⟨⟨hx,hy⟩,a9⟩,ht⟩:=hc;split at ht;rename_i el af;simp only[aS,beq_iff_eq,decide_eq_true_eq]at ht;obtain⟨⟨⟨⟨⟨hs,aa⟩,hz⟩,b9⟩,ap⟩,W⟩:=ht;obtain⟨i,E,a8⟩:=RF hs;obtain⟨z,ai,be,bb⟩:=uM hz;have D:=ec aa E;have T:=dj ai E;have hm:c.args.map a.eval= #[a.eval x',a.eval y']:=by apply DD;simp[R]
 have ba:c.argTypes= #[t,ut]:=by grind
 have aj: ∀{q:Value} {w':World},(Builtin.append_ #[t,ut] o.type #[a.eval x',a.eval y']).run P s.w=.ok q w'->(execOp a.eval o).run P s.w=.ok (.value q) w':=by simp_all [execOp,resolve,invoke,builtin]
 have S:=bJ he h1 hx;have ry:=bJ he h2 hy;unfold IN at C;split at C;rename_i an rows;obtain⟨add,h3,J⟩:=bind_some C;clear C;split at J;rename_i O;obtain⟨rfl,b8,Q⟩:=O;simp only[RM.run]at J;injection J with J;subst J;have Q:(2*(rows.length+add.length)+512)*bytes<=281474976710656:=by grind [nJ]
 have al:rows.length+add.length<=281474976710656:=by have h5:(2*(rows.length+add.length)+512)*1<=(2*(rows.length+add.length)+512)*bytes:=Nat.mul_le_mul_left _ W;omega
 obtain⟨news,U,G,N⟩:=Dt (u:=ut) hi h3 ry (Bool.or_eq_true_iff.1 a9);have L:=Src.gen (t:=t) (ty:=o.type) af hs E a8 D T U;have bh:=L.newsLen;generalize bf:a.eval x'=zz at S;cases S with
 |p _ _ S=>
  cases S with
  |slc _ _ base hrel=>
   have Z:=jJ.of_sl hrel;obtain⟨ad,ao,vs,hv,am,n,M,V,A⟩:=Z.cells;injection hv with v1 v2 v3;subst v1 v3;have Y:rows.length<rows.length+add.length:=by omega
   have av:Builtin.nextslicecap (rows.length+add.length) rows.length*i.bytes<=281474976710656:=by have h5:=nextslicecap_le Y;rw[D];have h6:Builtin.nextslicecap (rows.length+add.length) rows.length*bytes<=(2*(rows.length+add.length)+512)*bytes:=zQ4 _ (by omega);omega
   have a4:(Builtin.firstCells esz rows.length (.slice base rows.length rows.length)).run P s.w.drew=.ok vs.toArray s.w.drew:=by
    rcases V with a0|⟨r,o',rfl,bd⟩;subst a0;simp at n;subst n;cases base<;>grind [run_firstCells_none,run_firstCells_some]
    exact run_firstCells_some s.w.drew esz _ _ _ rows.length vs n (λj q hj=>by
    have:s.w.drew.cell? (Addr.add ⟨r,o',none⟩ j)=s.w.cell? (Addr.add ⟨r,o',none⟩ j):=by simp
    grind [AA,rM])
   have a2:=L.grow base rows.length rows.length vs a4 Y (by omega) (by simp_all);have ah:rows.length+add.length<=grownCap s.w (rows.length+add.length) rows.length el:=by simp[grownCap,Question.cut]
   generalize grownCap s.w (rows.length+add.length) rows.length el=I at a2 ah;have bc:z.cells.size=esz:=by omega
   obtain⟨i0,t0⟩:=ft (w':=s.w.drew) hi rfl rfl rfl;have a1:((vs++news).toArray++Builtin.zeroCells z.cells (I-(rows.length+add.length))).size=I*esz:=by
    have:I*esz=(rows.length+add.length)*esz+(I-(rows.length+add.length))*esz:=by rw[<-zQ8];congr 1;omega
    grind [size_zeroCells]
   have hlen:(rows++add).length=rows.length+add.length:=eC;obtain⟨g',i',t',r'⟩:=RY (s0:=⟨s.σ,s.g,s.w.drew⟩) (new:=new) i0 hn (esz:=esz) (rows:=rows++add) (cap:=I) (w':=s.w.drew.alloc (.cells ((vs++news).toArray++Builtin.zeroCells z.cells (I-(rows.length+add.length))) el)) rfl rfl rfl
    (tU.zero _ _)
    ⟨λrow hr=>(cF.1 hr).elim (A row) (G row),by rw[a1,hlen];grind,λk m row q B hq=>by
     have H:=Jw hq;rcases ME B with B|⟨au,B⟩;have K:=Jw B;rw[A row (iG B)]at H;have a3:=kP K H;have ab:=cw A B hq;obtain⟨w,hw,hrel⟩:=M _ q ab;refine⟨w,?_,hrel.mono hi t0⟩;grind;rw[G row (iG B)]at H;have K:=Jw B;have a3:=kP K H;obtain⟨w,hw,hrel⟩:=N _ m row q B hq;have e4:k*esz+m=rows.length*esz+((k-rows.length)*esz+m):=(by grind [Nat.add_sub_cancel']);refine⟨w,?_,hrel.mono hi t0⟩;simp_all [lz]⟩ (by simp_all) (by simp_all)
   rw[hlen]at r';exact gY (e:=⟨.slr new 0 (rows.length+add.length),[(new,.arr true esz (rows++add))]⟩) (g':=g') (aj (by simp_all)) i' (t0.trans t') r'
 cases J;cases C;cases ht;cases hc;cases hc;cases hc
end
end Go.Am
end
section
namespace Go.Am
theorem fc: ∀{e j:List KD} {xs g:List PV} {r:Bool},cA (e++j) xs g=some r->
  ∃o n,cA e (xs.take e.length) (g.take e.length)=some o/\cA j (xs.drop e.length) (g.drop e.length)=some n/\r=(o&&n)
 |[],j,xs,g,r,h=>⟨true,r,by simp[cA],by simpa using h,by simp⟩
 |k::e,j,xs,g,r,h=>by
  cases xs with
  |nil=>grind [cA]
  |cons x xs=>
   cases g with
   |nil=>grind [cA]
   |cons y g=>
    simp only[mY,cA]at h;split at h;rename_i a c q hc;injection h with h;subst h;obtain⟨o,n,h1,h2,v⟩:=fc hc;grind [cA];cases h
theorem RR: ∀{ks:List KD} {xs e:List PV} {r:Bool},cA ks xs e=some r->xs.length=ks.length/\e.length=ks.length
 |[],xs,e,r,h=>by grind [cA]
 |k::ks,xs,e,r,h=>by
  cases xs with
  |nil=>grind [cA]
  |cons x xs=>
   cases e with
   |nil=>grind [cA]
   |cons y e=>
    simp only[cA]at h;split at h;rename_i a c g hc;obtain⟨h1,h2⟩:=RR hc;simp[h1,h2];cases h
section
variable {P:Program} {F:Orc} {s:Sn} {a:Act} {env:List (Nat×AV)} {o:Oper} {new:Nat} {e:Eff}
def lj(P:Program)(t:TypeId)(vs:List Value)(X:Value):Prop:=(agT P t=some true/\X=.agg vs.toArray)\/(agT P t=some false/\ ∃v,vs=[v]/\X=v)
theorem SG{t:TypeId}{n off:Nat}{cs:Array Value}(hs:szT P t=some n)(j:off+n<=cs.size)(g:(agT P t=some true)\/(agT P t=some false/\n=1))(w:World):
  ∃X,(part t cs off).run P w=.ok X w/\lj P t ((cs.toList.drop off).take n) X:=by
 rcases g with h|⟨h,rfl⟩;refine⟨.agg (cs.extract off (off+n)),by simp_all [part,FV,jS],.inl ⟨h,?_⟩⟩
 congr 1
 grind;have e:off<cs.size:=by omega
 have k:cs[off]?=some cs[off]:=by simp[e]
 refine⟨cs[off],by simp_all [part,FV],.inr ⟨h,cs[off],?_,rfl⟩⟩;grind [List.drop_eq_getElem_cons]
def nC(s:Sn)(xs:List PV)(vs:List Value):Prop:=xs.length=vs.length/\ ∀(i:Nat) x v,xs[i]?=some x->vs[i]?=some v->J09 s.w s.g.C x v
theorem nC.take{xs vs}(h:nC s xs vs)(n:Nat):nC s (xs.take n) (vs.take n):=
 ⟨by simp[h.1],λi x v e g=>by
  rw[WH]at e g;split at e;rename_i hi;rw[if_pos hi]at g;exact h.2 i x v e g;cases e⟩
theorem nC.drop{xs vs}(h:nC s xs vs)(n:Nat):nC s (xs.drop n) (vs.drop n):=
 ⟨by simp[h.1],λi x v g e=>by
  rw[ky]at g e;exact h.2 _ x v g e⟩
def EqK(P:Program)(s:Sn)(d:Nat)(t:TypeId)(ks:List KD):Prop:= ∀(e:Nat) (w:World) (xs h:List PV) (vs g:List Value) (r:Bool) (X Y:Value),cA ks xs h=some r->nC s xs vs->nC s h g->lj P t vs X->lj P t g Y->(Op.equalIn (d+e) t X Y).run P w=.ok r w
theorem us{d:Nat}{t:TypeId}{ks:List KD}(h:pD P d t=some ks):agT P t=some true\/(agT P t=some false/\ks.length=1):=by cases d<;>grind [pD,agT,yJ]
theorem rp(d e:Nat)(B: ∀t ks,pD P d t=some ks->EqK P s d t ks)(w:World){xs q:List PV}{vs o:List Value}(hx:nC s xs vs)(hy:nC s q o):
  ∀{fs:List Field} {off:Nat} {ks:List KD} {r:Bool},MM P (pD P d) off fs=some ks->cA ks (xs.drop off) (q.drop off)=some r->
   (Op.eqFields (d+e) vs.toArray o.toArray fs).run P w=.ok r w
 |[],off,ks,r,h,hc=>by simp[MM]at h;subst h;cases hxd:xs.drop off<;>cases hyd:q.drop off<;>simp[hxd,hyd,cA]at hc;simp_all [Op.eqFields]
 |f::fs,off,ks,r,h,hc=>by
  unfold MM at h;split at h;cases h
  ·rename_i J;have j:f.name≠ "_" :=λe=>J (.inl e);have v:f.offset=off:=by simp_all
   split at h;cases h
   ·rename_i C k;split at h
    ·rename_i g;obtain⟨g,D⟩:=g;split at h
     ·rename_i N x;injection h with h;subst h;obtain⟨y,M,z,A,rfl⟩:=fc hc;obtain⟨G,L⟩:=RR z;rw[EH,yK]at G L;rw[EC,EC]at A;have n:=us k;obtain⟨X,E,H⟩:=SG (P:=P) (cs:=vs.toArray) (off:=off) g (by have:=hx.1;simp;omega) n w;obtain⟨Y,I,F⟩:=SG (P:=P) (cs:=o.toArray) (off:=off) g (by have:=hy.1;simp;omega) n w;have K:=B f.type C k e w _ _ _ _ y X Y z ((hx.drop off).take _) ((hy.drop off).take _) (by simpa using H) (by simpa using F);have ih:=rp d e B w hx hy x A;simp only[Op.eqFields];rw[if_pos j];simp only[yW,v,E,I,K,tE,Sem.run_ite];cases y
      all_goals simp_all
     cases h
    cases h
theorem qq(d e:Nat){t:TypeId}{ks:List KD}(v:EqK P s d t ks)(hk:pD P d t=some ks)(g:szT P t=some ks.length)(j:0<ks.length)(w:World){xs n:List PV}{vs k:List Value}(hx:nC s xs vs)(hy:nC s n k):
  ∀{m i:Nat} {r:Bool},cA (List.replicate m ks).flatten (xs.drop (i*ks.length)) (n.drop (i*ks.length))=some r->
   (Op.eqItems (d+e) t ks.length vs.toArray k.toArray (List.range' i m)).run P w=.ok r w
 |0,i,r,hc=>by simp only[List.replicate_zero,List.flatten_nil]at hc;cases hxd:xs.drop (i*ks.length)<;>cases hyd:n.drop (i*ks.length)<;>simp[hxd,hyd,cA]at hc;simp_all [Op.eqItems]
 |m+1,i,r,hc=>by
  rw[List.replicate_succ,qQ]at hc;obtain⟨o,A,q,y,rfl⟩:=fc hc;obtain⟨B,F⟩:=RR q;rw[EH,yK]at B F;rw[EC,EC]at y;have h:=us hk;obtain⟨X,x,C⟩:=SG (P:=P) (cs:=vs.toArray) (off:=i*ks.length) g (by have:=hx.1;simp;omega) h w;obtain⟨Y,D,z⟩:=SG (P:=P) (cs:=k.toArray) (off:=i*ks.length) g (by have:=hy.1;simp;omega) h w;have E:=v e w _ _ _ _ o X Y q ((hx.drop _).take _) ((hy.drop _).take _) (by simpa using C) (by simpa using z);have ih:=qq d e v hk g j w hx hy (m:=m) (i:=i+1) (r:=A) (by
   grind)
  rw[List.range'_succ];simp only[Op.eqItems,yW,x,D,E,tE,Sem.run_ite];cases o
  all_goals simp_all
theorem eqK: ∀(d:Nat) (t:TypeId) (ks:List KD),pD P d t=some ks->EqK P s d t ks
 |0,t,ks,h=>by grind [pD]
 |d+1,t,ks,h=>by
  intro e w xs R vs U r X Y hc J I H G;have M:d+1+e=(d+e)+1:=by omega
  rw[M];have O:=RR hc;unfold pD at h;have q: ∀{k:KD},agT P t=some false->ks=[k]-> ∃x y,xs=[x]/\R=[y]/\vM k x y=some r/\J09 s.w s.g.C x X/\J09 s.w s.g.C y Y:=(by rintro k F rfl;obtain⟨x,rfl⟩:=DY.1 O.1;obtain⟨y,rfl⟩:=DY.1 O.2;rcases H with⟨o,_⟩|⟨_,v,rfl,rfl⟩;simp_all;rcases G with⟨o,_⟩|⟨_,u,rfl,rfl⟩;simp_all;refine⟨x,y,rfl,rfl,?_,J.2 0 x _ rfl rfl,I.2 0 y _ rfl rfl⟩;grind [cA]);split at h<;>rename_i T
  injection h with h;subst h;obtain⟨x,y,rfl,rfl,j,A,B⟩:=q (by grind [agT,yJ]) rfl;cases A<;>cases B<;>simp only[vM]at j<;>try (cases j;done)
  grind [run_equalIn_bool];injection h with h;subst h;obtain⟨x,y,rfl,rfl,j,A,B⟩:=q (by grind [agT,yJ]) rfl;cases A<;>cases B<;>simp only[vM]at j<;>try (cases j;done)
  grind [run_equalIn_int];injection h with h;subst h;obtain⟨x,y,rfl,rfl,j,A,B⟩:=q (by grind [agT,yJ]) rfl;cases A<;>cases B<;>simp only[vM]at j<;>try (cases j;done)
  simp_all [run_equalIn_string];rename_i fs;split at h;cases h;rename_i L;have F:agT P t=some true:=by grind [agT,yJ]
  rcases H with⟨_,rfl⟩|⟨o,_⟩;rcases G with⟨_,rfl⟩|⟨o,_⟩;have N:P.fieldsOf t=fs:=by grind [Program.fieldsOf]
  rw[run_equalIn_struct w (d+e) t _ _ (by simp_all) (by simpa using L),N];exact rp d e (λt ks S=>eqK d t ks S) w J I h (by simpa using hc);simp_all;simp_all;rename_i n el;split at h;rename_i K E;split at h;rename_i z;injection h with h;subst h;have F:agT P t=some true:=by grind [agT,yJ]
  rcases H with⟨_,rfl⟩|⟨o,_⟩;rcases G with⟨_,rfl⟩|⟨o,_⟩;obtain⟨i,hi,Q⟩:=RF z.1;have D:P.cellsOf el=K.length:=by grind [Program.cellsOf]
  rw[run_equalIn_array w (d+e) _ _ T hi,D,List.range_eq_range'];exact qq d e (eqK d el K E) E z.1 z.2 w J I (i:=0) (by simpa using hc);simp_all;simp_all;cases h;cases h;cases h
theorem JAY(hi:Inv s)(he:bN s a.tmps env){op ks x y}(h:(opR F (.bin op (.flat ks) x y) new).run ⟨env,s.σ⟩=some e)(hc:JX P (.bin op (.flat ks) x y) o.op=true):bM P o a s e:=by
 simp only[opR]at h;obtain⟨u,h1,E⟩:=bind_some h;obtain⟨v,h2,A⟩:=bind_some E;obtain⟨r,j,rfl⟩:=gJ A;clear h E A;unfold JX at hc;simp only at hc;split at hc
 ·rename_i V t C B ty U;simp only[aS,beq_iff_eq]at hc;obtain⟨⟨rfl,k⟩,⟨⟨R,N⟩,z⟩,K⟩:=hc;have H:=bJ he h1 k;have I:=bJ he h2 R;generalize W:a.eval C=zx at H;generalize Y:a.eval B=Z at I;simp only[nG]at j;split at j
  ·rename_i p q;cases H with
   |data _ vs L J=>
    cases I with
    |data _ g O S=>
     have n: ∃b,cA ks p q=some b:=by cases hcm:cA ks p q<;>simp_all [iZ]
     obtain⟨b,n⟩:=n;rw[n]at j;obtain⟨Q,rfl⟩:=uK j;have G:(eqGuard op t C B (.agg vs) (.agg g)).run P s.w=.ok () s.w:=run_eqGuard_agg s.w op t C B vs g (by simpa using K);have T:=eqK (P:=P) (s:=s) 100 t ks N 9900 s.w p q vs.toList g.toList b (.agg vs) (.agg g) n ⟨by simpa using L,λi x v k D=>J i x v k (by simpa using D)⟩ ⟨by simpa using O,λi x v k D=>S i x v k (by simpa using D)⟩ (.inl ⟨z,by simp⟩) (.inl ⟨z,by simp⟩);have M:(binOp op t (.agg vs) (.agg g)).run P s.w=.ok (.bool (if op=.eql then b else !b)) s.w:=by
      rcases Q with rfl|rfl
      all_goals simp_all [run_eql_struct,run_neq_struct]
     simp_all [JL,execOp,pO]
  cases j
 cases hc
end
end Go.Am
end
section
namespace Go.Am
theorem J09.weaken{w:World}{C e:Nat->Nat->Prop}(h: ∀r o,C r o->e r o){x v}(hr:J09 w C x v):J09 w e x v:=by
 induction hr with
 |b x=>exact .b x
 |i k n=>exact .i k n
 |s l=>exact .s l
 |np=>exact .np
 |nf=>exact .nf
 |sl0 esz a cap=>exact .sl0 esz a cap
 |sl esz rows r o cap vals h1 h2 g _ ih=>exact .sl esz rows r o cap vals h1 h2 (λi j row x hr q=>⟨h _ _ (g i j row x hr q).1,(g i j row x hr q).2⟩) ih
 |slc esz rows a _ ih=>exact .slc esz rows a ih
theorem E9{s c:Sn}(hi:Inv s)(hw:c.w=s.w)(q: ∀k cs,c.σ[k]?=some (.box cs)->PG c k cs)(v: ∀k wm esz rows,c.σ[k]?=some (.arr wm esz rows)->OU c k wm esz rows)
  (id:Nat->Nat) (x: ∀e j,e<c.σ.length->j<c.σ.length->id e=id j->e=j) (wr: ∀k r o,Wr1 c k r o->Wr1 s (id k) r o)
  (y: ∀r o,c.g.C r o->r<s.w.heap.size/\ ∀k,¬Wr1 c k r o):Inv c:=by
 have n: ∀k r o,Wr1 c k r o->k<c.σ.length:=(by grind [Wr1]);exact⟨q,v,λe j r o h1 h2=>x e j (n _ _ _ h1) (n _ _ _ h2) (hi.apart _ _ _ _ (wr _ _ _ h1) (wr _ _ _ h2)),λr o h=>by grind⟩
theorem uJ{m ids sto}: ∀{xs e:List AV},fin.finL m ids sto xs=some e->xs.length=e.length/\ ∀(i:Nat) x y,xs[i]?=some x->e[i]?=some y->fin m ids sto x=some y
 |[],e,h=>by grind [fin.finL]
 |x::xs,e,h=>by
  simp only[fin.finL]at h;split at h;rename_i y l j g;injection h with h;subst h;obtain⟨h1,h2⟩:=uJ g;grind;cases h
theorem SZ{m ids sto}: ∀{xs e:List Blk},qS m ids sto xs=some e->xs.length=e.length/\ ∀(i:Nat) x y,xs[i]?=some x->e[i]?=some y->fU m ids sto x=some y
 |[],e,h=>by grind [qS]
 |x::xs,e,h=>by
  simp only[qS]at h;split at h;rename_i y l j g;injection h with h;subst h;obtain⟨h1,h2⟩:=SZ g;grind;cases h
theorem s9{sto}: ∀{ids:List Nat} {e:List Blk},wA sto ids=some e->ids.length=e.length/\ ∀(i:Nat) b y,ids[i]?=some b->e[i]?=some y->sto[b]?=some y
 |[],e,h=>by grind [wA]
 |x::xs,e,h=>by
  simp only[wA]at h;split at h;rename_i y l j g;injection h with h;subst h;obtain⟨h1,h2⟩:=s9 g;grind;cases h
theorem SR{b:Nat}: ∀{ids:List Nat} {k j:Nat},eI b ids k=some j->k<=j/\ids[j-k]?=some b
 |[],k,j,h=>by grind [eI]
 |x::r,k,j,h=>by
  simp only[eI]at h;split at h;simp_all;obtain⟨h1,h2⟩:=SR h;grind
theorem qy{b:Nat}: ∀{ids:List Nat} {k:Nat},eI b ids k=none->b∉ids
 |[],_,_=>by simp
 |x::r,k,h=>by
  simp only[eI]at h;split at h;cases h;rename_i g;simp only[cS,not_or];exact⟨λe=>g e.symm,qy h⟩
theorem TI: ∀{l:List Nat},jL l=true->l.Nodup|[],_=>List.nodup_nil|x::r,h=>by simp only[jL,aS,yN]at h;refine List.nodup_cons.2 ⟨?_,TI h.2⟩;simp_all
theorem SP{α:Type}: ∀{l:List α},l.Nodup-> ∀{i j:Nat} {x:α},l[i]?=some x->l[j]?=some x->i=j
 |[],_,i,j,x,h,_=>by simp at h
 |y::l,h,i,j,x,h1,h2=>by
  obtain⟨g,e⟩:=List.nodup_cons.1 h;cases i with
  |zero=>
   grind
  |succ i=>
   cases j with
   |zero=>grind
   |succ j=>exact congrArg (· +1) (SP e (i:=i) (j:=j) (x:=x) (by simpa using h1) (by simpa using h2))
def JON(s:Sn)(m:Nat)(ids:List Nat):Nat->Nat->Prop:=λr o=>s.g.C r o\/ ∃b wm esz rows,m<=b/\b∉ids/\s.σ[b]?=some (Blk.arr wm esz rows)/\s.g.μ b=some (r,0)/\o<rows.length*esz
def kI(s:Sn)(m:Nat)(ids:List Nat)(σ:List Blk):Sn:=
 ⟨σ,⟨λk=>if k<m then s.g.μ k else match ids[k-m]? with
  |some b=>s.g.μ b
  |none=>none,JON s m ids⟩,s.w⟩
section
variable {s:Sn} {m:Nat} {ids:List Nat} {l q q':List Blk}
def gB(m:Nat)(ids:List Nat)(k:Nat):Nat:=if k<m then k else(ids[k-m]?).getD 0
structure my(s:Sn)(m:Nat)(ids:List Nat)(σ:List Blk):Prop where
 inv:Inv s
 le:m<=s.σ.length
 nodup:ids.Nodup
 ge: ∀b∈ids,m<=b
 len:σ.length=m+ids.length
 blk: ∀k x,σ[k]?=some x-> ∃y,s.σ[gB m ids k]?=some y/\fU m ids s.σ y=some x
variable {σ:List Blk} (h:my s m ids σ)
theorem tP(k:Nat)(hk:k<m+ids.length):(kI s m ids σ).g.μ k=s.g.μ (gB m ids k):=by
 grind [kI,gB]
include h in
theorem dw{k:Nat}{x:Blk}(hk:σ[k]?=some x):k<m+ids.length/\ ∃y,s.σ[gB m ids k]?=some y/\fU m ids s.σ y=some x:=by have:=Jw hk;exact⟨by rw[<-h.len];exact this,h.blk k x hk⟩
include h in
theorem LO{b k:Nat}{y:Blk}(g:gB m ids k=b)(hk:k<m+ids.length)(hb:s.σ[b]?=some y): ∃x,σ[k]?=some x/\fU m ids s.σ y=some x:=by
 have e:k<σ.length:=by rw[h.len];exact hk
 obtain⟨j,h1,h2⟩:=h.blk k σ[k] (zQ9 e);simp_all
theorem uB{k:Nat}(hk:k<m):gB m ids k=k:=by simp[gB,hk]
theorem de{b j:Nat}(hj:eI b ids m=some j):gB m ids j=b/\j<m+ids.length:=by
 obtain⟨h1,h2⟩:=SR hj;grind [gB]
include h in
theorem cr{x y:AV}{v:Value}(hr:JH s x v):fin m ids s.σ x=some y->JH (kI s m ids σ) y v:=by
 have J: ∀r o,s.g.C r o->(kI s m ids σ).g.C r o:=λr o h=>.inl h
 induction hr generalizing y with
 |p c v hp=>intro w;simp[fin]at w;subst w;exact .p _ _ (hp.weaken J)
 |data cs vs h1 h2=>intro w;simp[fin]at w;subst w;exact .data _ _ h1 λi x v A D=>(h2 i x v A D).weaken J
 |agg cs vs h1 H h2 ih=>
  intro w;simp only[fin]at w;split at w;rename_i l Q;obtain⟨I,N⟩:=uJ Q;have hrel: ∀(i:Nat) y v,l[i]?=some y->vs[i]?=some v->JH (kI s m ids σ) y v:=(by grind [Jw]);split at w;rename_i q hq;injection w with w;subst w;have:=RX hq;subst this;refine .data _ _ (by simp_all) λi c v hc D=>?_;have:=hrel i (.p c) v (by simp[hc]) D;cases this<;>simp_all
  injection w with w;subst w;exact .agg _ _ (by omega) H hrel;cases w
 |tup cs vs h1 h2 ih=>
  intro w;simp only[fin]at w;split at w;rename_i l Q;injection w with w;subst w;obtain⟨I,N⟩:=uJ Q;refine .tup _ _ (by omega) λi y v W D=>?_;grind [Jw];cases w
 |ptr b off r o hm B=>
  intro w;obtain⟨cs,B⟩:=B;have go: ∀k,gB m ids k=b->k<m+ids.length->JH (kI s m ids σ) (.ptr k off) (.pointer (some ⟨r,o+off,none⟩)):=(by intro k F E;obtain⟨x,A,z⟩:=LO h F E B;simp only[fU]at z;split at z;injection z with z;subst z;exact .ptr k off r o (by grind [tP]) ⟨_,A⟩;cases z);grind [fin,uB,Option.map_eq_some_iff,de]
 |cp cs off r o vals T p2=>intro w;simp[fin]at w;subst w;exact .cp cs off r o vals (λj x A=>⟨J _ _ (T j x A).1,(T j x A).2⟩) λj x A=>(p2 j x A).weaken J
 |slr b i n v wm esz rows H B G D=>
  intro w;have go: ∀k,gB m ids k=b->k<m+ids.length->JH (kI s m ids σ) (.slr k i n) v:=by
   intro k F E;obtain⟨x,A,z⟩:=LO h F E B;simp only[fU]at z;injection z with z;subst z;refine .slr k i n v wm esz rows H A G λe=>?_;have a9:(kI s m ids σ).g.μ k=s.g.μ b:=by grind [tP]
   rcases D e with⟨M,K,Z,V⟩|⟨r,cap,c,R,fz,M,q⟩;exact .inl ⟨by simp_all,K,Z,V⟩;exact .inr ⟨r,cap,c,R,fz,by simp_all,q⟩
  simp only[fin]at w;split at w;grind [uB];rename_i a6;split at w;grind [de];rename_i L;rw[B]at w;simp only at w;split at w;rename_i e;injection w with w;subst w;obtain⟨a,cap,I,N,P,U⟩:=jJ.of_slr h.inv (.slr b i n v wm esz rows H B G D) B e;refine .p _ _ (ii (s:=kI s m ids σ) I N P (U.imp id ?_));rintro⟨r,o,rfl,A⟩;refine⟨r,o,rfl,λk j row x E Y=>⟨.inr ⟨b,wm,esz,rows,by omega,qy L,B,?_⟩,?_⟩⟩;rcases D e with⟨M,K,Z,V⟩|⟨r',a1,c,R,fz,M,K,_⟩;simp_all;rw[I]at K;injection K with v1 v2 v3;injection v1 with v1;injection v1 with v1 v4;subst v1 v4;refine⟨M,?_⟩;have S:=Jw E;have O:=Jw Y;rw[P row (iG E)]at O;rw[yK]at S;have:=kP (a:=i+k) (b:=j) (n:=rows.length) (e:=esz) (by omega) O;grind;obtain⟨u,hu,hr⟩:=A k j row x E Y;exact⟨u,hu,hr.weaken J⟩;cases w
 |ep b ext i off v wm esz rows H B G D=>
  intro w;have go: ∀k,gB m ids k=b->k<m+ids.length->JH (kI s m ids σ) (.ep k ext i off) v:=(by intro k F E;obtain⟨x,A,z⟩:=LO h F E B;simp only[fU]at z;injection z with z;subst z;refine .ep k ext i off v wm esz rows H A G λR e2=>?_;grind [tP]);grind [fin,uB,Option.map_eq_some_iff,de]
 |fn f first caps fs cs h1 h2 _ _ a7 a8=>
  intro w;simp only[fin]at w;split at w
  ·rename_i a c ha hc;injection w with w;subst w;obtain⟨I,N⟩:=uJ ha;obtain⟨P,U⟩:=uJ hc;refine .fn f a c fs cs (by omega) (by omega) (λi y v W D=>?_) (λi y v W D=>?_)
   all_goals grind [Jw]
  cases w
 |unk x=>intro w;simp[fin]at w;subst w;exact .unk x
include h in
theorem PY(k r o:Nat)(hw:Wr1 (kI s m ids σ) k r o):k<m+ids.length/\Wr1 s (gB m ids k) r o:=by
 unfold Wr1 at hw;have g:(kI s m ids σ).σ=σ:=rfl;rw[g]at hw;cases hk:σ[k]? with
 |none=>simp_all
 |some x=>obtain⟨e,y,j,n⟩:=dw h hk;refine⟨e,?_⟩;rw[hk]at hw;rw[tP k e]at hw;unfold Wr1;rw[j];cases y<;>grind [fU,uJ]
include h in
theorem Fh:Inv (kI s m ids σ):=by
 have hi:=h.inv;have R: ∀z n,z<m+ids.length->n<m+ids.length->gB m ids z=gB m ids n->z=n:=by
  intro z n h1 h2 B;simp only[gB]at B;split at B<;>split at B
  exact B;rename_i a b;have:n-m<ids.length:=by omega
  have:=h.ge ids[n-m] (by simp);grind;rename_i a b;have:=h.ge (ids[z-m]'(by omega)) (by simp);grind;have W:z-m<ids.length:=by omega
  have V:n-m<ids.length:=by omega
  simp[W,V]at B;have:=SP h.nodup (zQ9 W) (by rw[B];exact zQ9 V);omega
 refine E9 hi rfl ?_ ?_ (gB m ids) (λz n h1 h2 B=>R z n (by rw[<-h.len];exact h1) (by rw[<-h.len];exact h2) B) (λk r o A=>(PY h k r o A).2) ?_;intro k cs O;obtain⟨I,y,P,g⟩:=dw h O;cases y with
 |dead=>grind [fU]
 |arr=>grind [fU]
 |box S=>
  simp only[fU]at g;split at g;rename_i l G;injection g with g;injection g with g;subst g;obtain⟨z,n⟩:=uJ G;obtain⟨r,o,c,e,fz,q,E,a2,H,J⟩:=hi.box _ _ P;refine⟨r,o,c,e,fz,by grind [tP],E,by omega,λi x Z=>?_,by simp_all⟩;grind [Jw,cr];cases g
 intro k wm esz rows O;obtain⟨I,y,P,g⟩:=dw h O;cases y with
 |dead=>grind [fU]
 |box S=>grind [fU]
 |arr w e rs=>
  simp[fU]at g;obtain⟨rfl,rfl,rfl⟩:=g;rcases hi.arr _ _ _ _ P with⟨q,Q⟩|⟨r,c,e,fz,q,E,C,G,H,J⟩;exact .inl ⟨by grind [tP],Q⟩;refine .inr ⟨r,c,e,fz,by grind [tP],E,C,G,λi j row x h1 h2=>?_,J⟩;obtain⟨⟨v,Y,Q⟩,hc⟩:=H i j row x h1 h2;exact⟨⟨v,Y,Q.weaken λr o h=>.inl h⟩,λe=>.inl (hc e)⟩
 intro r o hc;rcases hc with hc|⟨b,wm,esz,rows,a3,a1,U,T,a0⟩;exact⟨(hi.const r o hc).1,λk A=>(hi.const r o hc).2 _ (PY h k r o A).2⟩;rcases hi.arr _ _ _ _ U with⟨q,_⟩|⟨r',c,e,fz,q,E,C,G,H,_⟩;simp_all;rw[T]at q;injection q with q;injection q with q _;subst q;refine⟨AP E,λk A=>?_⟩;obtain⟨I,A⟩:=PY h k r o A;have L:gB m ids k≠b:=(by grind [gB]);cases wm with
 |true=>
  refine L (hi.apart _ _ _ _ A ?_);grind [Wr1]
 |false=>
  have M:0<esz:=(by grind);have F:o/esz<rows.length:=Nat.div_lt_of_lt_mul (by grind);have D:rows[o/esz]?=some (rows[o/esz]'F):=zQ9 _;have hlen:=C _ (iG D);have N:o%esz<(rows[o/esz]'F).length:=by rw[hlen];exact Nat.mod_lt _ M
  have K:=(H _ _ _ _ D (zQ9 N)).2 rfl;have:o/esz*esz+o%esz=o:=by grind [Nat.div_add_mod]
  rw[this]at K;exact(hi.const r o K).2 _ A
include h in
theorem r7{E:Sn}(t:bB E s)(M:E.σ.length<=m):bB E (kI s m ids σ):=by
 have hi:=h.inv;refine⟨t.keep,λr o hc=>.inl (t.cmono r o hc),λr o hc=>?_,λr o ⟨k,H⟩=>t.wnew r o ⟨_,(PY h k r o H).2⟩,?_,λb cs B=>?_,λb wm esz rows B=>?_⟩;rcases hc with hc|⟨b,wm,esz,rows,L,K,D,C,J⟩;exact t.cnew r o hc;cases wm with
 |true=>have:=t.wnew r o ⟨b,by grind [Wr1]⟩;exact .inr this
 |false=>
  rcases hi.arr _ _ _ _ D with⟨n,_⟩|⟨r',c,e,fz,n,N,A,I,w,_⟩;simp_all;rw[C]at n;injection n with n;injection n with n _;subst n;have G:0<esz:=(by grind);have v:o/esz<rows.length:=Nat.div_lt_of_lt_mul (by grind);have q:rows[o/esz]?=some (rows[o/esz]'v):=zQ9 _;have hlen:=A _ (iG q);have z:o%esz<(rows[o/esz]'v).length:=by simp_all [Nat.mod_lt]
  have y:=(w _ _ _ _ q (zQ9 z)).2 rfl;have:o/esz*esz+o%esz=o:=by grind [Nat.div_add_mod]
  rw[this]at y;exact t.cnew r o y
 show E.σ.length<=σ.length;rw[h.len];omega;have j:b<m:=by grind
 obtain⟨⟨cs',h1,h2⟩,F⟩:=t.box b cs B;obtain⟨x,w,g⟩:=LO h (uB j) (by omega) h1;simp only[fU]at g;split at g;rename_i l I;injection g with g;subst g;exact⟨⟨l,w,by grind [uJ]⟩,by grind [tP,uB]⟩;cases g;have j:b<m:=by grind
 obtain⟨wm',rows',h1,h2,F,O⟩:=t.arr b wm esz rows B;obtain⟨x,w,g⟩:=LO h (uB j) (by omega) h1;simp[fU]at g;subst g;exact⟨wm',rows',w,h2,F,λe=>by grind [tP,uB]⟩
end
end Go.Am
end
section
namespace Go.Am
def J5f(P:Program)(f:FuncId)(args:List AV)(blks:List Blk)(r:Res):Prop:=
 (∃fn,P.funcs[f]?=some fn∧fn.body.isSome=true∧(fn.name== "runtime.NumGoroutine")=false)∧
 ∀(g:Gh) (w:World) (vals:Array Value),Inv ⟨blks,g,w⟩->args.length=vals.size->(∀(i:Nat) x v,args[i]?=some x->vals[i]?=some v->JH ⟨blks,g,w⟩ x v)->
  Calls P f vals w λe w'=> ∃v g',e=.returned v/\Inv ⟨r.2,g',w'⟩/\bB ⟨blks,g,w⟩ ⟨r.2,g',w'⟩/\JH ⟨r.2,g',w'⟩ r.1 v
def jO(P:Program)(F:Orc):Prop:= ∀f args blks r,F f args blks=some r->J5f P f args blks r
theorem xG{e:Ent}: ∀{es:List Ent} {k j:Nat},dG e es k=some j->k<=j/\es[j-k]?=some e
 |[],k,j,h=>by grind [dG]
 |x::r,k,j,h=>by
  simp only[dG]at h;split at h;simp_all;obtain⟨h1,h2⟩:=xG h;grind
theorem uI{ρ:Ent->Option Nat}: ∀{xs e:List AV},ren.renL ρ xs=some e->xs.length=e.length/\ ∀(i:Nat) x y,xs[i]?=some x->e[i]?=some y->ren ρ x=some y
 |[],e,h=>by grind [ren.renL]
 |x::xs,e,h=>by
  simp only[ren.renL]at h;split at h;rename_i y l j g;injection h with h;subst h;obtain⟨h1,h2⟩:=uI g;grind;cases h
theorem uG{es:List Ent}{new:Nat}: ∀{xs e:List AV},bk.bkL es new xs=some e->xs.length=e.length/\ ∀(i:Nat) x y,xs[i]?=some x->e[i]?=some y->bk es new x=some y
 |[],e,h=>by grind [bk.bkL]
 |x::xs,e,h=>by
  simp only[bk.bkL]at h;split at h;rename_i y l j g;injection h with h;subst h;obtain⟨h1,h2⟩:=uG g;grind;cases h
def VS(s:Sn)(ρ:Ent->Option Nat)(e:Ent)(x:Blk):Prop:=
 match e with
 | .whole b=>(∃cs l,s.σ[b]?=some (.box cs)/\ren.renL ρ cs=some l/\x=.box l)\/(∃w esz rows,s.σ[b]?=some (.arr w esz rows)/\x=.arr w esz rows)
 | .elem b ext i=> ∃esz rows row,s.σ[b]?=some (.arr true esz rows)/\ext=rows.length/\rows[i]?=some row/\x=.box (row.map .p)
section
variable {s:Sn} {env:List (Nat×AV)}
theorem em{e:List Blk}{ws:List (Nat×Blk)}{b:Nat}{x:Blk}(h:(qO ws b).run ⟨env,e⟩=some x):(upd ws e)[b]?=some x:=by
 grind [qO,RM.run,wR]
theorem JFZ{k:List Blk}{ws:List (Nat×Blk)}(n:s.σ=upd ws k){ρ:Ent->Option Nat}{e:Ent}{x:Blk}(h:(zC ws ρ e).run ⟨env,k⟩=some x):VS s ρ e x:=by
 cases e with
 |whole b=>
  simp only[zC]at h;obtain⟨y,h1,h⟩:=bind_some h;have g:=em h1;rw[<-n]at g;cases y with
  |dead=>cases h
  |box cs=>
   dsimp only at h;split at h;rename_i l o;simp only[RM.run]at h;injection h with h;subst h;exact .inl ⟨cs,l,g,o,rfl⟩;cases h
  |arr w esz rows=>
   simp only[RM.run]at h;injection h with h;subst h;exact .inr ⟨w,esz,rows,g,rfl⟩
 |elem b ext i=>
  simp only[zC]at h;obtain⟨y,h1,h⟩:=bind_some h;have g:=em h1;rw[<-n]at g;cases y with
  |arr w esz rows=>
   cases w;cases h;dsimp only at h;split at h;rename_i q;split at h;rename_i row j;simp only[RM.run]at h;injection h with h;subst h;exact⟨esz,rows,row,g,q,j,rfl⟩;cases h;cases h
  |_=>cases h
theorem tc{g:List Blk}{ws:List (Nat×Blk)}(j:s.σ=upd ws g){ρ:Ent->Option Nat}: ∀{es:List Ent} {blks:List Blk},(kQ ws ρ es).run ⟨env,g⟩=some blks->
  es.length=blks.length/\ ∀(k:Nat) e x,es[k]?=some e->blks[k]?=some x->VS s ρ e x
 |[],blks,h=>by grind [kQ,RM.run]
 |e::es,blks,h=>by
  simp only[kQ]at h;obtain⟨x,h1,h⟩:=bind_some h;obtain⟨l,h2,h⟩:=bind_some h;simp only[RM.run]at h;injection h with h;subst h;obtain⟨n,o⟩:=tc j h2;grind [JFZ]
def hE(s:Sn)(es:List Ent)(blks:List Blk):Sn:=
 ⟨blks,⟨λk=>match es[k]? with
  |some (.whole b)=>s.g.μ b
  |some (.elem b _ i)=>(match s.σ[b]? with
   |some (.arr _ esz _)=>(match s.g.μ b with
    |some p=>some (p.1,i*esz)
    |none=>none)
   |_=>none)
  |none=>none,s.g.C⟩,s.w⟩
structure ZL(s:Sn)(es:List Ent)(blks:List Blk):Prop where
 inv:Inv s
 nodup:(es.map Ent.id).Nodup
 len:es.length=blks.length
 blk: ∀(k:Nat) e x,es[k]?=some e->blks[k]?=some x->VS s (λe=>dG e es 0) e x
variable {es:List Ent} {blks:List Blk} (h:ZL s es blks)
include h in
theorem qZ{k:Nat}{e:Ent}(he:es[k]?=some e): ∃x,blks[k]?=some x/\VS s (λe=>dG e es 0) e x:=by
 have g:=Jw he;have:k<blks.length:=by rw[<-h.len];exact g
 exact⟨blks[k],zQ9 this,h.blk k e _ he (zQ9 this)⟩
theorem xE{k b:Nat}(he:es[k]?=some (.whole b)):(hE s es blks).g.μ k=s.g.μ b:=by simp[hE,he]
theorem SV{k b ext i esz:Nat}{wm rows r}(he:es[k]?=some (.elem b ext i))(hb:s.σ[b]?=some (.arr wm esz rows))(hm:s.g.μ b=some (r,0)):(hE s es blks).g.μ k=some (r,i*esz):=by
 grind [hE]
include h in
theorem C0{x y:AV}{v:Value}(hr:JH s x v):ren (λe=>dG e es 0) x=some y->JH (hE s es blks) y v:=by
 induction hr generalizing y with
 |p c v T=>intro j;simp[ren]at j;subst j;exact .p _ _ T
 |data cs vs h1 h2=>intro j;simp[ren]at j;subst j;exact .data _ _ h1 h2
 |cp cs off r o vals Q P=>intro j;simp[ren]at j;subst j;exact .cp cs off r o vals Q P
 |unk x=>intro j;simp[ren]at j;subst j;exact .unk x
 |agg cs vs h1 E h2 ih=>
  intro j;simp only[ren]at j;obtain⟨l,I,rfl⟩:=gO.1 j;obtain⟨K,N⟩:=uI I;refine .agg _ _ (by omega) E λi y v J A=>?_;grind [Jw]
 |tup cs vs h1 h2 ih=>
  intro j;simp only[ren]at j;obtain⟨l,I,rfl⟩:=gO.1 j;obtain⟨K,N⟩:=uI I;refine .tup _ _ (by omega) λi y v J A=>?_;grind [Jw]
 |ptr b off r o hm C=>
  intro j;simp only[ren]at j;obtain⟨k,z,rfl⟩:=gO.1 j;obtain⟨_,z⟩:=xG z;simp only[tJ]at z;obtain⟨cs,C⟩:=C;obtain⟨x,D,B⟩:=qZ h z;rcases B with⟨cs',l,h1,h2,rfl⟩|⟨w,esz,rows,h1,rfl⟩;exact .ptr k off r o (by grind [xE]) ⟨l,D⟩;simp_all
 |slr b i n v wm esz rows E C F A=>
  intro j;simp only[ren]at j;obtain⟨k,z,rfl⟩:=gO.1 j;obtain⟨_,z⟩:=xG z;simp only[tJ]at z;obtain⟨x,D,B⟩:=qZ h z;rcases B with⟨cs',l,h1,h2,rfl⟩|⟨w,G,rows',h1,rfl⟩;simp_all;rw[C]at h1;injection h1 with h1;injection h1 with a1 a2 a3;subst a1 a2 a3;refine .slr k i n v wm esz rows E D F λe=>?_;have a4:(hE s es blks).g.μ k=s.g.μ b:=xE z;rcases A e with⟨H,R,W,S⟩|⟨r,cap,c,V,fz,H,q⟩;exact .inl ⟨by simp_all,R,W,S⟩;exact .inr ⟨r,cap,c,V,fz,by simp_all,q⟩
 |ep b ext i off v wm esz rows E C F A=>
  intro j;simp only[ren]at j;obtain⟨k,z,rfl⟩:=gO.1 j;obtain⟨_,z⟩:=xG z;simp only[tJ]at z;obtain⟨x,D,B⟩:=qZ h z;obtain⟨G,rows',row,h1,h2,U,rfl⟩:=B;have M:=h1;rw[C]at h1;injection h1 with h1;injection h1 with a1 a2 a3;subst a1 a2 a3;have Y:=Jw U;obtain⟨r,H,A⟩:=A h2 (by omega);subst A;exact .ptr k off r (i*esz) (SV z M H) ⟨_,D⟩
 |fn f first caps fs cs h1 h2 _ _ Z a0=>
  intro j;simp only[ren]at j;obtain⟨l1,O,j⟩:=bK.1 j;obtain⟨l2,L,rfl⟩:=gO.1 j;obtain⟨K,N⟩:=uI O;obtain⟨k3,k4⟩:=uI L;refine .fn f _ _ fs cs (by omega) (by omega) (λi y v J A=>?_) (λi y v J A=>?_)
  all_goals grind [Jw]
def idE(es:List Ent)(k:Nat):Nat:=((es[k]?).map Ent.id).getD 0
theorem wK{k:Nat}{e:Ent}(he:es[k]?=some e):idE es k=e.id:=by simp[idE,he]
include h in
theorem tL(k r o:Nat)(hw:Wr1 (hE s es blks) k r o):k<es.length/\Wr1 s (idE es k) r o:=by
 unfold Wr1 at hw;have q:(hE s es blks).σ=blks:=rfl;rw[q]at hw;cases hk:blks[k]? with
 |none=>simp_all
 |some x=>
  have j:k<es.length:=by rw[h.len];grind
  refine⟨j,?_⟩;have e:es[k]?=some es[k]:=zQ9 j;have g:=h.blk k _ x e hk;rw[wK e];rw[hk]at hw;unfold Wr1;cases hcase:es[k]with
  |whole b=>
   rw[hcase]at g e;rcases g with⟨cs',l,h1,h2,rfl⟩|⟨w,n,rows',h1,rfl⟩
   all_goals grind [Ent.id,xE,uI]
  |elem b ext i=>
   rw[hcase]at g e;obtain⟨n,rows',row,h1,h2,v,rfl⟩:=g;grind [Ent.id,hE]
include h in
theorem JNn:Inv (hE s es blks):=by
 have hi:=h.inv;have hlen:(hE s es blks).σ.length=es.length:=h.len.symm;refine E9 hi rfl ?_ ?_ (idE es) ?_ (λk r o L=>(tL h k r o L).2) (λr o hc=>⟨(hi.const r o hc).1,λk L=>(hi.const r o hc).2 _ (tL h k r o L).2⟩);intro k cs z;have z:blks[k]?=some (.box cs):=z;have A:k<es.length:=by grind
 have y:es[k]?=some es[k]:=zQ9 A;have q:=h.blk k _ _ y z;cases hcase:es[k]with
 |whole b=>
  rw[hcase]at q y;rcases q with⟨cs',l,h1,h2,g⟩|⟨w,n,rows',h1,g⟩;injection g with g;subst g;obtain⟨E,J⟩:=uI h2;obtain⟨r,o,c,e,fz,D,I,W,M,G⟩:=hi.box _ _ h1;refine⟨r,o,c,e,fz,by grind [xE],I,by omega,λi x U=>?_,by simp_all⟩;grind [Jw,C0];cases g
 |elem b ext i=>
  rw[hcase]at q y;obtain⟨n,rows',row,h1,h2,F,g⟩:=q;injection g with g;subst g;have H:=Jw F;rcases hi.arr _ _ _ _ h1 with⟨D,C⟩|⟨r,c,e,fz,D,I,K,Y,M,G⟩;simp_all;have V:=K row (iG F);have N:i*n+n<=rows'.length*n:=(by have:=zQ4 n (show i+1<=rows'.length from H);grind);refine⟨r,i*n,c,e,fz,SV y h1 D,I,by simp;omega,λj x B=>?_,λo h1 h2=>G.1 o (zQ2 _) (by grind)⟩;rw[fT]at B;cases hrj:row[j]? with
  |none=>simp_all
  |some O=>simp[hrj]at B;subst B;obtain⟨⟨v,T,C⟩,_⟩:=M i j row O F hrj;exact⟨v,T,.p _ _ C,C.one⟩
 intro k wm esz rows z;have z:blks[k]?=some (.arr wm esz rows):=z;have A:k<es.length:=by grind
 have y:es[k]?=some es[k]:=zQ9 A;have q:=h.blk k _ _ y z;cases hcase:es[k]with
 |whole b=>
  rw[hcase]at q y;rcases q with⟨cs',l,h1,h2,g⟩|⟨w,n,rows',h1,g⟩;cases g;injection g with a1 a2 a3;subst a1 a2 a3;rcases hi.arr _ _ _ _ h1 with⟨D,C⟩|⟨r,c,e,fz,D,P⟩;exact .inl ⟨by grind [xE],C⟩;exact .inr ⟨r,c,e,fz,by grind [xE],P⟩
 |elem b ext i=>rw[hcase]at q y;obtain⟨n,rows',row,h1,h2,F,g⟩:=q;cases g
 ·intro E J h1 h2 S;rw[hlen]at h1 h2;have R:es[E]?=some es[E]:=zQ9 h1;have Q:es[J]?=some es[J]:=zQ9 h2;rw[wK R,wK Q]at S;refine SP h.nodup (x:=es[E].id) ?_ ?_
  all_goals simp_all
end
end Go.Am
end
section
namespace Go.Am
def oZ(s1:Sn)(es:List Ent)(new:Nat)(σ2:List Blk)(k:Nat)(y:Blk):Prop:=
 match es[k]? with
 |some (.whole b)=>(∃cs l,y=.box cs/\bk.bkL es new cs=some l/\σ2[b]?=some (.box l))\/(∃w esz rows,y=.arr w esz rows/\σ2[b]?=some (.arr w esz rows))
 |some (.elem b _ i)=> ∃w esz rows e,s1.σ[b]?=some (.arr w esz rows)/\y=.box (e.map .p)/\σ2[b]?=some (.arr w esz (rows.set i e))
 |none=>(∃cs l,y=.box cs/\bk.bkL es new cs=some l/\σ2[new+(k-es.length)]?=some (.box l))\/(∃w esz rows,y=.arr w esz rows/\σ2[new+(k-es.length)]?=some (.arr w esz rows))
structure Fm(s1:Sn)(es:List Ent)(blks:List Blk)(new kf:Nat)(c':Sn)(σ2:List Blk):Prop where
 cin:ZL s1 es blks
 inv:Inv c'
 trans:bB (hE s1 es blks) c'
 len:c'.σ.length=es.length+kf
 slen:σ2.length=s1.σ.length
 dead: ∀j,j<kf->s1.σ[new+j]?=some .dead
 out: ∀k y,c'.σ[k]?=some y->oZ s1 es new σ2 k y
 same: ∀b,b∉es.map Ent.id->(b<new\/new+kf<=b)->σ2[b]?=s1.σ[b]?
def kOf(es:List Ent)(new kf b:Nat):Option Nat:=
 match dG (.whole b) es 0 with
 |some k=>some k
 |none=>if new<=b/\b<new+kf/\b∉es.map Ent.id then some (es.length+(b-new))else none
def fD(s1:Sn)(es:List Ent)(new kf:Nat)(c':Sn)(σ2:List Blk):Sn:=
 ⟨σ2,⟨λb=>match kOf es new kf b with
  |some k=>c'.g.μ k
  |none=>s1.g.μ b,c'.g.C⟩,c'.w⟩
theorem tq{e:Ent}: ∀{es:List Ent} {k:Nat},dG e es k=none->e∉es
 |[],k,_=>by simp
 |x::r,k,h=>by
  simp only[dG]at h;split at h;cases h;rename_i g;simp only[cS,not_or];exact⟨λe=>g e.symm,tq h⟩
section
variable {s1 c':Sn} {es:List Ent} {blks σ2:List Blk} {new kf:Nat} (h:Fm s1 es blks new kf c' σ2)
theorem PZ{k:Nat}{e:Ent}(he:es[k]?=some e):e.id∈es.map Ent.id:=jC.2 ⟨e,iG he,rfl⟩
include h in
theorem FP{e g:Nat}{e1 e2:Ent}(h1:es[e]?=some e1)(h2:es[g]?=some e2)(he:e1.id=e2.id):e=g:=
 SP h.cin.nodup (x:=e1.id) (by simp_all) (by simp_all)
include h in
theorem JKh{k:Nat}{e:Ent}(he:es[k]?=some e): ∃y,s1.σ[e.id]?=some y/\y≠.dead:=by
 obtain⟨x,_,g⟩:=qZ h.cin he;cases e with
 |whole b=>
  rcases g with⟨cs',l,h1,h2,rfl⟩|⟨w,j,rows',h1,rfl⟩;exact⟨_,h1,by simp⟩;exact⟨_,h1,by simp⟩
 |elem b ext i=>obtain⟨j,rows',row,h1,h2,n,rfl⟩:=g;exact⟨_,h1,by simp⟩
include h in
theorem JHs{j:Nat}(hj:j<kf):new+j∉es.map Ent.id:=by intro n;obtain⟨e,q,g⟩:=jC.1 n;obtain⟨k,o⟩:=fV q;obtain⟨y,r,hd⟩:=JKh h o;rw[g,h.dead j hj]at r;simp_all
include h in
theorem JFP{k b:Nat}(he:es[k]?=some (.whole b)):kOf es new kf b=some k:=by
 unfold kOf;cases hc:dG (.whole b) es 0 with
 |none=>exact absurd (iG he) (tq hc)
 |some k'=>
  obtain⟨_,e⟩:=xG hc;grind [FP]
include h in
theorem JJe{k b e i:Nat}(he:es[k]?=some (.elem b e i)):kOf es new kf b=none:=by
 unfold kOf;cases hc:dG (.whole b) es 0 with
 |some k'=>obtain⟨_,g⟩:=xG hc;simp only[tJ]at g;have:=FP h g he rfl;simp_all
 |none=>have:b∈es.map Ent.id:=PZ he;simp[this]
include h in
theorem JG8{j:Nat}(hj:j<kf):kOf es new kf (new+j)=some (es.length+j):=by
 unfold kOf;have g:=JHs h hj;cases hc:dG (.whole (new+j)) es 0 with
 |some k'=>obtain⟨_,e⟩:=xG hc;simp only[tJ]at e;exact absurd (PZ e) g
 |none=>simp_all
theorem SJ{b:Nat}(h1:b∉es.map Ent.id)(h2:b<new\/new+kf<=b):kOf es new kf b=none:=by
 unfold kOf;cases hc:dG (.whole b) es 0 with
 |some k'=>obtain⟨_,e⟩:=xG hc;simp only[tJ]at e;exact absurd (PZ e) h1
 |none=>
  grind
def tgt(es:List Ent)(new k:Nat):Nat:=match es[k]? with|some e=>e.id|none=>new+(k-es.length)
include h in
theorem nQ{k:Nat}(hk:k<es.length+kf)(j: ∀b e i,es[k]?≠some (.elem b e i)):(fD s1 es new kf c' σ2).g.μ (tgt es new k)=c'.g.μ k:=by
 simp only[fD,tgt];cases he:es[k]? with
 |some e=>
  cases e with
  |whole b=>simp only[Ent.id];rw[JFP h he]
  |elem b e i=>simp_all
 |none=>
  grind [JG8]
include h in
theorem GH{k b ext i:Nat}(he:es[k]?=some (.elem b ext i)): ∃esz rows row r j,s1.σ[b]?=some (.arr true esz rows)/\ext=rows.length/\rows[i]?=some row/\s1.g.μ b=some (r,0)/\
  c'.σ[k]?=some (.box (j.map .p))/\j.length=row.length/\row.length=esz/\c'.g.μ k=some (r,i*esz)/\σ2[b]?=some (.arr true esz (rows.set i j))/\(fD s1 es new kf c' σ2).g.μ b=some (r,0):=by
 obtain⟨x,B,q⟩:=qZ h.cin he;obtain⟨esz,rows,row,h1,h2,A,rfl⟩:=q;have D:=Jw A;rcases h.cin.inv.arr _ _ _ _ h1 with⟨C,L⟩|⟨r,c,e,fz,C,I,y,K,F,E⟩;simp_all;obtain⟨⟨cs',z,M⟩,J⟩:=h.trans.box k _ B;have o:=h.out k _ z;unfold oZ at o;rw[he]at o;obtain⟨w,v,rows',j,n,G,H⟩:=o;rw[h1]at n;injection n with n;injection n with a1 a2 a3;subst a1 a2 a3;grind [SV,fD,JJe]
include h in
theorem G0{x y:AV}{v:Value}(hr:JH c' x v):bk es new x=some y->JH (fD s1 es new kf c' σ2) y v:=by
 have G: ∀{k:Nat} {z:Blk},c'.σ[k]?=some z->k<es.length+kf:=λhz=>by rw[<-h.len];grind
 induction hr generalizing y with
 |p c v hp=>intro j;simp[bk]at j;subst j;exact .p _ _ hp
 |data cs vs h1 h2=>intro j;simp[bk]at j;subst j;exact .data _ _ h1 h2
 |cp cs off r o vals p1 W=>intro j;simp[bk]at j;subst j;exact .cp cs off r o vals p1 W
 |unk x=>intro j;simp[bk]at j;subst j;exact .unk x
 |agg cs vs h1 K h2 ih=>
  intro j;simp only[bk]at j;split at j;rename_i l R;injection j with j;subst j;obtain⟨U,T⟩:=uG R;refine .agg _ _ (by omega) K λi y v Q H=>?_;grind [Jw];cases j
 |tup cs vs h1 h2 ih=>
  intro j;simp only[bk]at j;split at j;rename_i l R;injection j with j;subst j;obtain⟨U,T⟩:=uG R;refine .tup _ _ (by omega) λi y v Q H=>?_;grind [Jw];cases j
 |ptr k off r o hm B=>
  intro j;obtain⟨cs,B⟩:=B;have F:=G B;have D:=h.out k _ B;unfold oZ at D;simp only[bk]at j;split at j;rename_i I;have a9:es[k]?=some es[k]:=zQ9 I;split at j;rename_i b A;injection j with j;subst j;have C:=nQ h F (by rw[A];simp);simp only[tgt,A,Ent.id]at C;rw[A]at D;rcases D with⟨cs',l,E,M,S⟩|⟨w,esz,rows,E,M⟩;exact .ptr b off r o (by simp_all) ⟨l,S⟩;cases E;rename_i b e i A;injection j with j;subst j;obtain⟨esz,rows,row,r',O,f1,Y,f3,f4,f5,f6,f7,L,Z,V⟩:=GH h A;rw[hm]at L;injection L with L;injection L with g1 g2;subst g1 g2;exact .ep b e i off _ true esz (rows.set i O) ⟨_,_,rfl⟩ Z (by simp[Y]) λ_ _=>⟨r,V,rfl⟩;cases j;rename_i N;injection j with j;subst j;have A:es[k]?=none:=oS (by omega);have C:=nQ h F (by rw[A];simp);simp only[tgt,A]at C;rw[A]at D;rcases D with⟨cs',l,E,M,S⟩|⟨w,esz,rows,E,M⟩;exact .ptr _ off r o (by simp_all) ⟨l,S⟩;cases E
 |slr k i n v wm esz rows K B J H=>
  intro j;have F:=G B;have D:=h.out k _ B;unfold oZ at D;have go: ∀b,(fD s1 es new kf c' σ2).g.μ b=c'.g.μ k->σ2[b]?=some (.arr wm esz rows)->JH (fD s1 es new kf c' σ2) (.slr b i n) v:=(by intro b C P;refine .slr b i n v wm esz rows K P J λe=>?_;rcases H e with⟨m',q1,q2,q3⟩|⟨r,cap,c,E,fz,m',q⟩;exact .inl ⟨by simp_all,q1,q2,q3⟩;exact .inr ⟨r,cap,c,E,fz,by simp_all,q⟩);simp only[bk]at j;split at j;rename_i I;split at j;rename_i b A;injection j with j;subst j;have C:=nQ h F (by rw[A];simp);grind [tgt,Ent.id];cases j;rename_i N;injection j with j;subst j;have A:es[k]?=none:=oS (by omega);have C:=nQ h F (by rw[A];simp);grind [tgt]
 |ep k ext i off v wm esz rows K B J H=>
  intro j;have F:=G B;have D:=h.out k _ B;unfold oZ at D;have go: ∀b,(fD s1 es new kf c' σ2).g.μ b=c'.g.μ k->σ2[b]?=some (.arr wm esz rows)->JH (fD s1 es new kf c' σ2) (.ep b ext i off) v:=by intro b C P;refine .ep b ext i off v wm esz rows K P J λE M=>?_;simp_all
  simp only[bk]at j;split at j;rename_i I;split at j;rename_i b A;injection j with j;subst j;have C:=nQ h F (by rw[A];simp);grind [tgt,Ent.id];cases j;rename_i N;injection j with j;subst j;have A:es[k]?=none:=oS (by omega);have C:=nQ h F (by rw[A];simp);grind [tgt]
 |fn f first caps fs cs h1 h2 _ _ aa a8=>
  intro j;simp only[bk]at j;split at j
  ·rename_i a c ha hc;injection j with j;subst j;obtain⟨U,T⟩:=uG ha;obtain⟨k3,k4⟩:=uG hc;refine .fn f a c fs cs (by omega) (by omega) (λi y v Q H=>?_) (λi y v Q H=>?_)
   all_goals grind [Jw]
  cases j
inductive WB(es:List Ent)(new kf b:Nat):Prop where|out (k:Nat):k<es.length+kf->tgt es new k=b->(∀b e i,es[k]?≠some (.elem b e i))->WB es new kf b|elem (k e i:Nat):es[k]?=some (.elem b e i)->WB es new kf b|other:b∉es.map Ent.id->(b<new\/new+kf<=b)->WB es new kf b
theorem uA(b:Nat):WB es new kf b:=by
 by_cases n:b∈es.map Ent.id;obtain⟨e,j,g⟩:=jC.1 n;obtain⟨k,h⟩:=fV j;have r:=Jw h;cases e with
 |whole q=>simp only[Ent.id]at g;subst g;exact .out k (by omega) (by grind [tgt,Ent.id]) (by rw[h];simp)
 |elem q e' o=>simp only[Ent.id]at g;subst g;exact .elem k e' o h
 by_cases v:new<=b/\b<new+kf;have j:es[es.length+(b-new)]?=none:=oS (by omega);refine .out (es.length+(b-new)) (by omega) ?_ (by rw[j];simp);grind [tgt];exact .other n (by omega)
include h in
theorem LW{k:Nat}(hk:k<es.length+kf)(j: ∀b e i,es[k]?≠some (.elem b e i))(r o:Nat):
  Wr1 (fD s1 es new kf c' σ2) (tgt es new k) r o↔Wr1 c' k r o:=by
 have q:=nQ h hk j;have g:k<c'.σ.length:=by rw[h.len];exact hk
 have n:c'.σ[k]?=some c'.σ[k]:=zQ9 g;have w:=h.out k _ n;unfold oZ at w;unfold Wr1;rw[n,q];have v:(fD s1 es new kf c' σ2).σ=σ2:=rfl;rw[v];cases he:es[k]? with
 |some e=>
  grind [tgt,Ent.id,uG]
 |none=>
  grind [tgt,uG]
include h in
theorem MO{k b e i:Nat}(he:es[k]?=some (.elem b e i))(r o:Nat):Wr1 (fD s1 es new kf c' σ2) b r o↔Wr1 s1 b r o:=by
 obtain⟨esz,rows,row,r',g,v,x,z,y,w,B,q,n,A,j⟩:=GH h he;grind [Wr1,fD]
include h in
theorem fl{b:Nat}(h1:b∉es.map Ent.id)(h2:b<new\/new+kf<=b)(r o:Nat):Wr1 (fD s1 es new kf c' σ2) b r o↔Wr1 s1 b r o:=by
 unfold Wr1;have j:(fD s1 es new kf c' σ2).σ=σ2:=rfl;have e:(fD s1 es new kf c' σ2).g.μ b=s1.g.μ b:=by grind [fD,SJ]
 rw[j,h.same b h1 h2,e]
include h in
theorem si{r o:Nat}(hw:Wr c' r o):(∃k e,es[k]?=some e/\Wr1 (hE s1 es blks) k r o/\Wr1 s1 e.id r o)\/s1.w.heap.size<=r:=by
 rcases h.trans.wnew r o hw with⟨k,j⟩|n;obtain⟨g,q⟩:=tL h.cin k r o j;have v:es[k]?=some es[k]:=zQ9 g;grind [wK];exact .inr n
include h in
theorem q8:bB s1 (fD s1 es new kf c' σ2):=by
 refine⟨?_,λr o hc=>h.trans.cmono r o hc,λr o hc=>?_,λr o ⟨b,G⟩=>?_,Nat.le_of_eq h.slen.symm,λb cs y=>?_,λb wm esz rows y=>?_⟩;refine h.trans.keep.mono λr o ⟨k,j⟩=>?_;exact⟨_,(tL h.cin k r o j).2⟩;rcases h.trans.cnew r o hc with hc|⟨k,j⟩|N;exact .inl hc;exact .inr (.inl ⟨_,(tL h.cin k r o j).2⟩);exact .inr (.inr N);cases uA (es:=es) (new:=new) (kf:=kf) b with
 |out k j ht q=>
  subst ht;rcases si h ⟨k,(LW h j q r o).1 G⟩with⟨k',e,_,_,J⟩|N;exact .inl ⟨_,J⟩;simp_all
 |elem k e i g=>exact .inl ⟨b,(MO h g r o).1 G⟩
 |other h1 h2=>exact .inl ⟨b,(fl h h1 h2 r o).1 G⟩
 ·cases uA (es:=es) (new:=new) (kf:=kf) b with
  |out k j ht q=>
   cases g:es[k]? with
   |none=>
    exfalso;simp only[tgt,g]at ht;have I:es.length<=k:=by simp_all
    have:=h.dead (k-es.length) (by omega);simp_all
   |some e=>
    cases e with
    |elem b e i=>simp_all
    |whole S=>
     simp only[tgt,g,Ent.id]at ht;subst ht;obtain⟨x,H,A⟩:=qZ h.cin g;rcases A with⟨cs',l,h1,h2,rfl⟩|⟨w,z,rows',h1,rfl⟩
     ·rw[y]at h1;injection h1 with h1;injection h1 with h1;subst h1
      obtain⟨⟨W,F,P⟩,M⟩:=h.trans.box k _ H;have v:=h.out k _ F;unfold oZ at v;rw[g]at v;have E:=nQ h j q;simp only[tgt,g,Ent.id]at E;rcases v with⟨L,l',n,D,O⟩|⟨w,esz,rows,n,D⟩
      ·injection n with n;subst n;refine⟨⟨l',O,?_⟩,?_⟩
       all_goals grind [uG,uI,xE]
      cases n
     simp_all
  |elem k e i g=>
   grind [GH]
  |other h1 h2=>
   refine⟨⟨cs,by rw[<-y];exact h.same b h1 h2,rfl⟩,?_⟩;grind [fD,SJ]
 cases uA (es:=es) (new:=new) (kf:=kf) b with
 |out k j ht q=>
  cases g:es[k]? with
  |none=>
   exfalso;simp only[tgt,g]at ht;have I:es.length<=k:=by simp_all
   have:=h.dead (k-es.length) (by omega);simp_all
  |some e=>
   cases e with
   |elem b e i=>simp_all
   |whole S=>
    simp only[tgt,g,Ent.id]at ht;subst ht;obtain⟨x,H,A⟩:=qZ h.cin g;rcases A with⟨cs',l,h1,h2,rfl⟩|⟨w,z,rows',h1,rfl⟩;simp_all;rw[y]at h1;injection h1 with h1;injection h1 with a1 a2 a3;subst a1 a2 a3;obtain⟨wm',C,F,P,M,q4⟩:=h.trans.arr k _ _ _ H;have v:=h.out k _ F;unfold oZ at v;rw[g]at v;have E:=nQ h j q;simp only[tgt,g,Ent.id]at E;rcases v with⟨L,l',n,D,O⟩|⟨w,R,Q,n,D⟩;cases n;injection n with a1 a2 a3;subst a1 a2 a3;exact⟨wm',C,D,P,M,λe=>by grind [xE]⟩
 |elem k e i g=>
  obtain⟨z,rows',row,r',U,B,f2,f3,T,f5,f6,Z,Y,V,K⟩:=GH h g;rw[y]at B;injection B with B;injection B with a1 a2 a3;subst a1 a2 a3;exact⟨true,_,V,λ_=>rfl,by simp,λ_=>by rw[K,T]⟩
 |other h1 h2=>
  refine⟨wm,rows,by rw[<-y];exact h.same b h1 h2,id,zQ0 _,λ_=>?_⟩;grind [fD,SJ]
include h in
theorem JKl:Inv (fD s1 es new kf c' σ2):=by
 have hi:=h.cin.inv;have t:=q8 h;have N: ∀{b},¬(b∈es.map Ent.id\/(new<=b/\b<new+kf))->b∉es.map Ent.id/\(b<new\/new+kf<=b):=λG=>⟨λA=>G (.inl A),by omega⟩;have z: ∀{k b e i r o},es[k]?=some (.elem b e i)->(Wr1 (hE s1 es blks) k r o↔Wr1 c' k r o):=(by intro k b e i r o n;obtain⟨x,hx,a8⟩:=qZ h.cin n;obtain⟨esz,rows,row,h1,h2,h3,rfl⟩:=a8;obtain⟨⟨cs',q1,q2⟩,q3⟩:=h.trans.box k _ hx;grind [hE,Wr1]);have O: ∀{k b r o},k<es.length+kf->Wr1 c' k r o->Wr1 s1 b r o->(∃k',es[k']?=some (.whole b)\/ ∃e i,es[k']?=some (.elem b e i)/\k'=k):=by
  intro k b r o M I L;rcases si h ⟨k,I⟩with⟨k',e,n,an,q⟩|G;have D:=hi.apart _ _ _ _ q L;cases e with
  |whole b'=>grind [Ent.id]
  |elem b' e' i'=>
   simp only[Ent.id]at D;subst D;have:=h.inv.apart _ _ _ _ ((z n).1 an) I;grind
  have:=wC hi b r o L;omega
 refine nU hi t (λb=>b∈es.map Ent.id\/(new<=b/\b<new+kf)) ?_ ?_ ?_ ?_ ?_ ?_ ?_ ?_;intro b G;obtain⟨h1,h2⟩:=N G;exact⟨h.same b h1 h2,by grind [fD,SJ]⟩;intro b r o v G I hv;refine h.trans.keep.cell ?_ hv;rintro⟨k,M⟩;obtain⟨C,q⟩:=tL h.cin k r o M;have n:es[k]?=some es[k]:=zQ9 C;rw[wK n]at q;have:=hi.apart _ _ _ _ q I;simp_all;intro b cs hd L;have L:σ2[b]?=some (.box cs):=L;cases uA (es:=es) (new:=new) (kf:=kf) b with
 |other h1 h2=>grind
 |elem k e i n=>
  grind [GH]
 |out k M ht V=>
  subst ht;have C:k<c'.σ.length:=by rw[h.len];exact M
  have hg:c'.σ[k]?=some c'.σ[k]:=zQ9 C;have ho:=h.out k _ hg;unfold oZ at ho;have a7: ∃Y,c'.σ[k]?=some (.box Y)/\bk.bkL es new Y=some cs:=by
   cases n:es[k]? with
   |some e=>
    grind [tgt,Ent.id]
   |none=>
    grind [tgt]
  obtain⟨Y,h0,hl⟩:=a7;obtain⟨k1,k2⟩:=uG hl;obtain⟨r,o,c,e,fz,A,hh,c7,hx,bb⟩:=h.inv.box _ _ h0;refine⟨r,o,c,e,fz,by grind [nQ],hh,by omega,λi x c5=>?_,by simp_all⟩;grind [Jw,G0]
 intro b wm esz rows hd L;have L:σ2[b]?=some (.arr wm esz rows):=L;cases uA (es:=es) (new:=new) (kf:=kf) b with
 |other h1 h2=>grind
 |elem k e i n=>
  obtain⟨bh,rows',row,r',bn,f1,f2,f3,f4,f5,f6,f7,f8,f9,bd⟩:=GH h n;rw[L]at f9;injection f9 with f9;injection f9 with a1 a2 a3;subst a1 a2 a3;have C:=Jw f3;rcases hi.arr _ _ _ _ f1 with⟨A,U⟩|⟨r,c,e1,fz,A,hh,al,hl,hx,bb⟩;simp_all;rw[f4]at A;injection A with A;injection A with A _;subst A;obtain⟨c2,q1,q2,q3⟩:=t.keep.2.1 _ _ _ _ hh;obtain⟨rr,oo,c3,e3,c6,m3,S,bi,b3,bm⟩:=h.inv.box _ _ f5;rw[f8]at m3;injection m3 with m3;injection m3 with y H;subst y H;have b4:c'.w.heap[r']?=some (.cells c2 e1 fz):=q1;rw[b4]at S;injection S with S;injection S with y H w3;subst y H w3;refine .inr ⟨r',c2,e1,fz,bd,q1,λc9 c8=>?_,by simp;omega,λP j ag x0 K Z=>⟨?_,λh=>by cases h⟩,by simp_all⟩;grind;have bw:=Jw Z;by_cases af:P=i;subst af;rw[DX C]at K;injection K with K;subst K;obtain⟨v,hv,U,_⟩:=b3 j (.p x0) (by simp[Z]);refine⟨v,hv,?_⟩;cases U with|p _ _ U=>exact U
  rw[HU (Ne.symm af)]at K;obtain⟨⟨v',ca,ax⟩,_⟩:=hx P j ag x0 K Z;refine⟨v',?_,ax.mono hi t⟩;have aa:cellAt s1.w r' (P*esz+j)=some v':=by grind [kS]
  have b5:j<esz:=by grind
  have az: ¬Wr (hE s1 es blks) r' (P*esz+j):=by
   rintro⟨k',g⟩;obtain⟨E,q⟩:=tL h.cin k' _ _ g;have B:es[k']?=some es[k']:=zQ9 E;rw[wK B]at q;have be:Wr1 s1 b r' (P*esz+j):=by grind [Wr1]
   have D:=hi.apart _ _ _ _ q be;have J:k'=k:=FP h B n D;subst J;obtain⟨x,b8,a8⟩:=qZ h.cin n;obtain⟨bs,bg,W,F,T,g3,rfl⟩:=a8;rw[f1]at F;injection F with F;injection F with z1 z2 z3;subst z2 z3;have aj:(hE s1 es blks).σ[k']?=some (.box (W.map .p)):=b8;unfold Wr1 at g;rw[aj,SV n f1 f4]at g;obtain⟨o0,m0,hlo,b6⟩:=g;injection m0 with m0;injection m0 with _ m0;subst m0;have bo:=al W (iG g3);simp at b6;rcases zQ3 P i with am|bt;have:=kP am b5;omega;have:=zQ4 esz (show i+1<=P by omega);grind
  have:=h.trans.keep.cell az aa;grind [kS]
 |out k M ht V=>
  subst ht;have C:k<c'.σ.length:=by rw[h.len];exact M
  have hg:c'.σ[k]?=some c'.σ[k]:=zQ9 C;have ho:=h.out k _ hg;unfold oZ at ho;have a7:c'.σ[k]?=some (.arr wm esz rows):=by
   cases n:es[k]? with
   |some e=>
    grind [tgt,Ent.id]
   |none=>
    grind [tgt]
  rcases h.inv.arr _ _ _ _ a7 with⟨A,U⟩|⟨r,c,e,fz,A,hq⟩;exact .inl ⟨by grind [nQ],U⟩;exact .inr ⟨r,c,e,fz,by grind [nQ],hq⟩
 
 intro b1 b2 r o hd h1 h2;cases uA (es:=es) (new:=new) (kf:=kf) b1 with
 |other F T=>grind
 |out k1 a6 b9 ao=>
  subst b9;have y:=(LW h a6 ao r o).1 h1;cases uA (es:=es) (new:=new) (kf:=kf) b2 with
  |out k2 R a5 Q=>subst a5;have H:=(LW h R Q r o).1 h2;rw[h.inv.apart _ _ _ _ y H]
  |elem k2 e i n=>
   exfalso;have H:=(MO h n r o).1 h2;obtain⟨k',g|⟨e',i',g,J⟩⟩:=O a6 y H;have:=FP h g n rfl;simp_all;simp_all
  |other F T=>
   exfalso;have H:=(fl h F T r o).1 h2;obtain⟨k',g|⟨e',i',g,J⟩⟩:=O a6 y H;exact F (PZ g);simp_all
 |elem k1 e1 i1 ae=>
  have y:=(MO h ae r o).1 h1;cases uA (es:=es) (new:=new) (kf:=kf) b2 with
  |out k2 R a5 Q=>
   subst a5;exfalso;have H:=(LW h R Q r o).1 h2;obtain⟨k',g|⟨e',i',g,J⟩⟩:=O R H y;have:=FP h g ae rfl;simp_all;simp_all
  |elem k2 e i n=>exact hi.apart _ _ _ _ y ((MO h n r o).1 h2)
  |other F T=>exact hi.apart _ _ _ _ y ((fl h F T r o).1 h2)
 exact λr o hc=>(h.inv.const r o hc).1;intro r o b hc hd I;cases uA (es:=es) (new:=new) (kf:=kf) b with
 |other F T=>grind
 |out k M ht V=>subst ht;exact(h.inv.const r o hc).2 _ ((LW h M V r o).1 I)
 |elem k e i n=>
  have y:=(MO h n r o).1 I;rcases h.trans.cnew r o hc with a4|⟨k',g⟩|G;exact(hi.const r o a4).2 _ y;obtain⟨E,q⟩:=tL h.cin k' _ _ g;have B:es[k']?=some es[k']:=zQ9 E;rw[wK B]at q;have D:=hi.apart _ _ _ _ q y;have J:k'=k:=FP h B n D;subst J;exact(h.inv.const r o hc).2 _ ((z n).1 g);have G:s1.w.heap.size<=r:=G;have:=wC hi _ _ _ y;omega
 intro r o b hc b7 hd I;rcases h.trans.cnew r o hc with a4|⟨k',g⟩|G;exact b7 a4;obtain⟨E,q⟩:=tL h.cin k' _ _ g;have B:es[k']?=some es[k']:=zQ9 E;rw[wK B]at q;have D:=hi.apart _ _ _ _ q I;simp_all;have G:s1.w.heap.size<=r:=G;have:=wC hi _ _ _ I;omega
end
end Go.Am
end
