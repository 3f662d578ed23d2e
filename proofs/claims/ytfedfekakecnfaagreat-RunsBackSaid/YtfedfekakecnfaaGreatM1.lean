/-
  Parts of a proof.
-/
import Derived.Calls
import Derived.LoopN
import Derived.KernelRfl
import Derived.Laws.Sem
import Derived.Laws.StructEq
import Derived.Laws.Cells
import Derived.Laws.Cover3
import Derived.Laws.Pointers
import Derived.Deep.AppendSrc
import Derived.Laws.MakeOwn
import Derived.Laws.BytesString
import Derived.DeepKeys
set_option linter.unusedSimpArgs false
set_option linter.unusedVariables false
section
namespace Go.Am
abbrev aI:=Option
abbrev zQ0:= @Nat.le_refl
abbrev zQ1:= @Nat.le_trans
abbrev zQ2:= @Nat.zero_le
abbrev zQ3:= @Nat.lt_or_ge
abbrev zQ4:= @Nat.mul_le_mul_right
abbrev zQ5:= @List.mem_of_getElem?
abbrev zQ6:= @List.ext_getElem?
abbrev zQ7:= @List.mem_of_mem_drop
abbrev zQ8:= @Nat.add_mul
abbrev zQ9:= @List.mem_append
abbrev aS:= @List.getElem?_eq_getElem
abbrev oR:= @List.getElem?_eq_none
abbrev eJ:= @List.mem_cons
abbrev JX:= @Bool.and_eq_true
abbrev xU:= @Sem.run_bind
abbrev sM:= @Result.andThen_ok
abbrev hZ:= @Option.map_eq_some_iff
abbrev g7:= @Option.isSome_iff_exists
abbrev AW:= @Nat.add_assoc
abbrev xA:= @Array.ext'
abbrev FE:= @Array.getElem?_toList
abbrev qO:= @List.flatten_cons
abbrev gE:= @List.getElem?_map
abbrev eE:= @Bool.false_eq_true
abbrev TQ:= @List.length_eq_one_iff
abbrev lZ:= @List.getElem?_of_mem
abbrev SL:= @Sem.run_pure
abbrev FB:= @List.mem_of_mem_take
abbrev uH:= @List.getElem?_set_self
abbrev FC:= @List.getElem?_set_ne
abbrev FP:= @List.length_cons
abbrev SY:= @Array.all_eq_true_iff_forall_mem
abbrev BY:= @List.length_replicate
abbrev jF:= @List.mem_map
abbrev mX:= @List.getElem?_append_right
abbrev eB:= @List.length_map
abbrev uO:= @Nat.add_zero
abbrev xL:= @List.drop_zero
abbrev TY:= @Array.getElem?_append_left
abbrev nG:= @Nat.zero_add
abbrev BD:= @Array.getElem?_eq_getElem
abbrev SI:= @Nat.mul_comm
abbrev cN:= @List.length_append
abbrev lW:= @List.length_take
abbrev lU:= @List.length_drop
abbrev AZ:= @List.getElem?_take
abbrev FY:= @List.getElem?_drop
abbrev gR:= @List.append_nil
abbrev qK:= @List.getElem?_append_left
abbrev BK:= @List.cons_append
abbrev qL:= @List.drop_drop
abbrev lO:= @Bool.not_eq_true'
abbrev uN:= @Nat.sub_zero
abbrev aU:= @Option.bind_eq_some_iff
abbrev Jv:= @Option.bind_some
abbrev FW:= @List.mem_cons_of_mem
abbrev BP:= @Bool.or_eq_true
abbrev Ad:= @Array.getElem?_eq_some_iff
abbrev hH:= @List.append_assoc
abbrev BZ:= @List.take_append_drop
abbrev iu:= @List.map_take
abbrev bT:= @List.map_cons
abbrev xX:= @List.map_map
abbrev xE:= @List.map_append
abbrev cH:= @Option.map_some
abbrev uM:= @List.nil_append
abbrev SH:= @List.all_eq_true
abbrev TS:= @List.map_replicate
abbrev qS:= @List.mem_singleton
abbrev oM:= @Int.le_trans
abbrev oU:= @List.getElem_mem
abbrev aY:= @Int.le_refl
abbrev ic:= @List.mem_or_eq_of_mem_set
abbrev hE:= @List.getElem?_eq_some_iff
abbrev yt:= @Nat.eq_zero_or_pos
abbrev uT:= @Nat.pow_le_pow_right
abbrev oQ:= @List.mem_iff_getElem?
abbrev je:= @List.take_succ_cons
abbrev SE:= @List.length_flatten
abbrev ig:= @Nat.succ_mul
theorem _root_.And.c{h g e:Prop}(x:h/\g/\e):e:=x.2.2
theorem _root_.And.d{g h j e:Prop}(x:g/\h/\j/\e):e:=x.2.2.2
theorem _root_.And.e{j k n h g:Prop}(x:j/\k/\n/\h/\g):g:=x.2.2.2.2
theorem _root_.And.g{j n o h k e:Prop}(x:j/\n/\o/\h/\k/\e):e:=x.2.2.2.2.2
theorem _root_.And.h{j n q g k o e:Prop}(x:j/\n/\q/\g/\k/\o/\e):e:=x.2.2.2.2.2.2
theorem _root_.And.i{h k o g j n q e:Prop}(x:h/\k/\o/\g/\j/\n/\q/\e):e:=x.2.2.2.2.2.2.2
theorem _root_.And.j{h n r g k q v o e:Prop}(x:h/\n/\r/\g/\k/\q/\v/\o/\e):e:=x.2.2.2.2.2.2.2.2
theorem _root_.And.k{h n r g j q w o v e:Prop}(x:h/\n/\r/\g/\j/\q/\w/\o/\v/\e):e:=x.2.2.2.2.2.2.2.2.2
inductive PV where
 |b (x:Bool)
 |i (k:IntKind) (n:Int)
 |s (l:List UInt8)
 |sl (esz:Nat) (rows:List (List PV))
 |np
 |nf
 |slc (esz:Nat) (rows:List (List PV))
 deriving Inhabited
inductive AV where
 |p (c:PV)
 |data (cs:List PV)
 |agg (cs:List AV)
 |tup (vs:List AV)
 |ptr (b off:Nat)
 |cp (cs:List PV) (off:Nat)
 |slr (b i n:Nat)
 |ep (b ext i off:Nat)
 |pre (b n k:Nat)
 |fn (f:FuncId) (first caps:List AV)
 |unk
 deriving Inhabited
inductive Blk where
 |dead
 |box (cs:List AV)
 |arr (w:Bool) (esz:Nat) (rows:List (List PV))
 deriving Inhabited
abbrev Res:=AV×List Blk
abbrev Orc:=FuncId->List AV->List Blk->Option Res
structure St where
 env:List (Nat×AV)
 sto:List Blk
def lk(n:Nat):List (Nat×AV)->Option AV|[]=>none|(m,v)::r=>if n=m then some v else lk n r
inductive RM(α:Type) where|ret (a:α)|slot (n:Nat) (k:AV->RM α)|blk (b:Nat) (k:Blk->RM α)|fail
def RM.bind{α β:Type}:RM α->(α->RM β)->RM β| .ret a,f=>f a| .slot n k,f=>.slot n λv=>(k v).bind f| .blk b k,f=>.blk b λv=>(k v).bind f| .fail,_=>.fail
def RM.run{α:Type}:RM α->St->Option α
 | .ret a,_=>some a
 | .slot n k,s=>match lk n s.env with|some v=>(k v).run s|none=>none
 | .blk b k,s=>match s.sto[b]? with|some v=>(k v).run s|none=>none
 | .fail,_=>none
inductive Loc where
 |slot (n:Nat)
 |blk (b:Nat)
 deriving DecidableEq
def RM.reads{α:Type}:RM α->St->List Loc
 | .ret _,_=>[]
 | .slot n k,s=>.slot n::match lk n s.env with|some v=>(k v).reads s|none=>[]
 | .blk b k,s=>.blk b::match s.sto[b]? with|some v=>(k v).reads s|none=>[]
 | .fail,_=>[]
def RM.of{α:Type}:Option α->RM α|some a=>.ret a|none=>.fail
inductive Opd where
 |t (n:Nat)
 |c (x:AV)
 deriving Inhabited
inductive KD where
 |b
 |i (k:IntKind)
 |s
 deriving DecidableEq
inductive BT where
 |plain
 |bool
 |flat (ks:List KD)
 |nils
 |nilp
 |nilf
 deriving DecidableEq
inductive CK where
 |int (k:IntKind)
 |same
 |toStr
 |toBytes (own:Bool)
 deriving DecidableEq
inductive SK where
 |str
 |sl (esz:Nat)
 deriving DecidableEq
inductive AOp where
 |mv (x:Opd)
 |mkarr (esz:Nat) (x:Opd)
 |pick (c a b:Opd)
 |newbox (zero:List PV)
 |box (size:Nat) (x:Opd)
 |build (zero:List PV) (parts:List (Nat×Nat×Opd))
 |lits (own:Bool) (esz n:Nat) (zero:List PV) (parts:List (Nat×Opd))
 |load (agg:Bool) (size:Nat) (x:Opd)
 |store (size:Nat) (x v:Opd)
 |nilchk (x:Opd)
 |bin (op:BinOp) (t:BT) (x y:Opd)
 |un (op:UnOp) (x:Opd)
 |conv (k:CK) (x:Opd)
 |mkslice (own:Bool) (esz bytes:Nat) (zero:List PV) (l c:Opd)
 |slice (k:SK) (x:Opd) (lo hi mx:Option Opd)
 |faddr (off:Nat) (x:Opd)
 |field (agg:Bool) (off size:Nat) (x:Opd)
 |iaddr (esz:Nat) (x i:Opd)
 |aaddr (len esz:Nat) (x i:Opd)
 |sidx (x i:Opd)
 |aidx (agg:Bool) (len esz:Nat) (x i:Opd)
 |extr (x:Opd) (i:Nat)
 |call (f:FuncId) (args:List Opd) (k:Nat)
 |callv (g:Opd) (args:List Opd) (k:Nat)
 |len (str:Bool) (x:Opd)
 |alen (n:Nat)
 |app (esz bytes:Nat) (zero:List PV) (x y:Opd)
 |appn (esz bytes:Nat) (zero:List PV) (y:Opd)
 |appz (esz bytes:Nat) (zero:List PV) (x y:Opd)
 |appc (esz bytes:Nat) (zero:List PV) (x y:Opd)
 |mm (mx:Bool) (x y:Opd)
 |mkfn (f:FuncId) (first caps:List Opd)
 |newboxo (zero:List PV) (os:List (Nat×Nat))
 |buildo (zero:List PV) (parts:List (Nat×Nat×Opd)) (os:List (Nat×Nat))
 |storen (esz:Nat) (x:Opd)
 |callo (f:FuncId) (keep:List Bool) (args:List Opd) (k:Nat)
 |ppre (esz:Nat) (x hi:Opd)
 |psuf (esz:Nat) (x lo:Opd)
 |appp (esz bytes:Nat) (zero:List PV) (x y:Opd)
 deriving Inhabited
structure bV where
 op:AOp
 dst:Option Nat
 g:Option (Nat×Bool)
 deriving Inhabited
inductive cB where
 |skip
 |bad
 |reg (draw:Bool) (pairs:List (Nat×Nat)) (ins:List bV)
 |seq (a b:cB)
 |cond (c:Opd) (a b:cB)
 |block (id:Nat) (c:cB)
 |loop (live:List Nat) (c:cB)
 |lp (n:Nat) (live:List Nat) (c:cB)
 |scope (c:cB)
 |exit (id:Nat)
 |ret
 |keep (live:List Nat) (c:cB)
 |tidy (live:List Nat) (c:cB)
 |br (live:List Nat) (pre:cB) (c:Opd) (a b rest:cB)
 deriving Inhabited
inductive AX where
 |normal
 |exit (id:Nat)
 |ret
 deriving DecidableEq
abbrev Out:=AX×St
inductive uG where|tmp (t:Nat)|cell (t:Nat) (agg:Bool) (size:Nat)
structure AFn where
 np:Nat
 nt:Nat
 body:cB
 res:List uG
 fresh:Bool
structure Eff where
 val:AV
 ws:List (Nat×Blk)
def upd(ws:List (Nat×Blk))(sto:List Blk):List Blk:=ws.foldl (λs x=>s.set x.1 x.2) sto
def unp:List AV->Option (List PV)
 |[]=>some []
 | .p c::r=>match unp r with|some l=>some (c::l)|none=>none
 |_::_=>none
def cellsOf:AV->Option (List AV)| .p c=>some [.p c]| .data cs=>some (cs.map .p)| .agg cs=>some cs| .ptr b o=>some [.ptr b o]| .cp cs o=>some [.cp cs o]| .slr b i n=>some [.slr b i n]| .ep b e i o=>some [.ep b e i o]| .fn f a c=>some [.fn f a c]| .tup _=>none| .pre _ _ _=>none| .unk=>none
def jU(agg:Bool)(cs:List AV):Option AV:=
 if agg then
  match unp cs with
  |some l=>some (.data l)
  |none=>some (.agg cs)
 else match cs with|[x]=>some x|_=>none
def nU(agg:Bool)(cs:List PV):Option AV:=
 if agg then some (.data cs)
 else match cs with|[x]=>some (.p x)|_=>none
def sub{α:Type}(cs:List α)(off size:Nat):Option (List α):=if off=0/\cs.length=size then some cs else if off+size<=cs.length then some ((cs.drop off).take size)else none
def spl{α:Type}(cs:List α)(off:Nat)(vs:List α):Option (List α):=if off=0/\cs.length=vs.length then some vs else if off+vs.length<=cs.length then some (cs.take off++vs++cs.drop (off+vs.length))else none
def fz:AV->RM (List PV×List (Nat×Blk))
 | .p c=>.ret ([c],[])
 | .data cs=>.ret (cs,[])
 | .slr b i n=>.blk b fun
  | .arr _ esz rows=>if i+n=rows.length then .ret ([.sl esz (rows.drop i)],[(b,.arr false esz rows)])else .fail
  |_=>.fail
 | .agg cs=>fzL cs
 |_=>.fail
where
 fzL:List AV->RM (List PV×List (Nat×Blk))
  |[]=>.ret ([],[])
  |x::r=>(fz1 x).bind λa=>(fzL r).bind λc=>.ret (a.1++c.1,a.2++c.2)
 fz1:AV->RM (List PV×List (Nat×Blk))
  | .p c=>.ret ([c],[])
  | .slr b i n=>.blk b fun
   | .arr _ esz rows=>if i+n=rows.length then .ret ([.sl esz (rows.drop i)],[(b,.arr false esz rows)])else .fail
   |_=>.fail
  |_=>.fail
def uL:KD->PV->PV->Option Bool| .b,.b x,.b y=>some (x==y)| .i k,.i g x,.i e y=>if k=g/\k=e then some (x==y)else none| .s,.s x,.s y=>some (x==y)|_,_,_=>none
def cC:List KD->List PV->List PV->Option Bool
 |[],[],[]=>some true
 |k::ks,x::xs,y::e=>match uL k x y,cC ks xs e with|some a,some c=>some (a&&c)|_,_=>none
 |_,_,_=>none
def ID(op:BinOp)(k:IntKind)(x y:Int):Option PV:=
 if y<0 then none
 else match op with| .shl=>some (.i k (k.wrap (x*2^(min y.toNat k.bits))))| .shr=>some (.i k (x.fdiv (2^(min y.toNat k.bits))))|_=>none
def xB(op:BinOp)(k:IntKind)(x y:Int):Option PV:=
 match op with
 | .add=>some (.i k (k.wrap (x+y)))
 | .sub=>some (.i k (k.wrap (x-y)))
 | .mul=>some (.i k (k.wrap (x*y)))
 | .quo=>if y=0 then none else some (.i k (k.wrap (x.tdiv y)))
 | .rem=>if y=0 then none else some (.i k (x.tmod y))
 | .and=>some (.i k (k.wrap (BitVec.ofInt k.bits x&&&BitVec.ofInt k.bits y).toNat))
 | .or=>some (.i k (k.wrap (BitVec.ofInt k.bits x|||BitVec.ofInt k.bits y).toNat))
 | .xor=>some (.i k (k.wrap (BitVec.ofInt k.bits x^^^BitVec.ofInt k.bits y).toNat))
 | .eql=>some (.b (x==y))
 | .neq=>some (.b (x !=y))
 | .lss=>some (.b (decide (x<y)))
 | .leq=>some (.b (decide (x<=y)))
 | .gtr=>some (.b (decide (x>y)))
 | .geq=>some (.b (decide (x>=y)))
 |_=>none
def xF(op:BinOp)(x y:List UInt8):Option PV:=
 match op with
 | .add=>if x.length+y.length<=4611686018427387904 then some (.s (x++y))else none
 | .eql=>some (.b (x==y))
 | .neq=>some (.b (!(x==y)))
 | .lss=>some (.b (Op.bytesLess x y))
 | .leq=>some (.b (Op.bytesLess x y||x==y))
 | .gtr=>some (.b (!(Op.bytesLess x y||x==y)))
 | .geq=>some (.b (!Op.bytesLess x y))
 |_=>none
def iL(op:BinOp)(r:Option Bool):Option AV:=
 match op,r with
 | .eql,some x=>some (.p (.b x))
 | .neq,some x=>some (.p (.b (!x)))
 |_,_=>none
def FO:BinOp->Option AV| .eql=>some .unk| .neq=>some .unk|_=>none
def nC(op:BinOp)(t:BT)(x y:AV):Option AV:=
 match t with
 | .plain=>match x,y with
  | .p (.i k a),.p (.i e c)=>match op with| .shl=>(ID .shl k a c).map .p| .shr=>(ID .shr k a c).map .p|_=>if k=e then(xB op k a c).map .p else none
  | .p (.s a),.p (.s c)=>(xF op a c).map .p
  |_,_=>none
 | .bool=>match x,y with| .p (.b a),.p (.b c)=>iL op (some (a==c))|_,_=>none
 | .flat ks=>match x,y with| .data a,.data c=>iL op (cC ks a c)|_,_=>none
 | .nils=>match x with
  | .p (.sl _ rows)=>match rows with|[]=>FO op|_::_=>iL op (some false)
  | .slr _ _ n=>if n=0 then FO op else iL op (some false)
  |_=>none
 | .nilp=>match x with| .p .np=>iL op (some true)| .ptr _ _=>iL op (some false)| .cp _ _=>iL op (some false)| .ep _ _ _ _=>iL op (some false)|_=>none
 | .nilf=>match x with| .p .nf=>iL op (some true)| .fn _ _ _=>iL op (some false)|_=>none
def unP(op:UnOp)(x:AV):Option AV:=
 match op,x with
 | .neg,.p (.i k n)=>some (.p (.i k (k.wrap (0-n))))
 | .xor,.p (.i k n)=>some (.p (.i k (k.wrap (BitVec.ofInt k.bits (if k.signed then -1 else k.max)^^^BitVec.ofInt k.bits n).toNat)))
 | .not,.p (.b x)=>some (.p (.b (!x)))
 | .not,.unk=>some .unk
 |_,_=>none
def tE:List (List PV)->Option (List UInt8)
 |[]=>some []
 |[.i .u8 n]::r=>match tE r with|some l=>some (UInt8.ofNat n.toNat::l)|none=>none
 |_::_=>none
def mE(x:UInt8):List PV:=[.i .u8 x.toNat]
def yT(esz:Nat):List (Nat×List PV)->List (List PV)->Option (List (List PV))|[],rows=>some rows|(i,c)::r,rows=>if c.length=esz/\i<rows.length then yT esz r (rows.set i c)else none
def pN:List (Nat×Nat×List AV)->List AV->Option (List AV)
 |[],cs=>some cs
 |(off,size,c)::r,cs=>
  if c.length=size then
   match spl cs off c with
   |some cs'=>pN r cs'
   |none=>none
  else none
def ev:Opd->RM AV| .t n=>.slot n .ret| .c x=>.ret x
def evs:List Opd->RM (List AV)|[]=>.ret []|x::r=>(ev x).bind λv=>(evs r).bind λvs=>.ret (v::vs)
def val(x:Option AV):RM Eff:=
 match x with
 |some v=>.ret ⟨v,[]⟩
 |none=>.fail
def fzs:List Opd->RM (List (List PV)×List (Nat×Blk))|[]=>.ret ([],[])|x::r=>(ev x).bind λv=>(fz v).bind λa=>(fzs r).bind λc=>.ret (a.1::c.1,a.2++c.2)
def mF(x:Option AV)(top e:Nat):Option Nat:=
 match x with
 |none=>some e
 |some (.p (.i _ n))=>if 0<=n/\n<=top then some n.toNat else none
 |some _=>none
def evo:Option Opd->RM (Option AV)|none=>.ret none|some x=>(ev x).bind λv=>.ret (some v)
def nA(n:Nat)(lo hi:Option AV):Option (Nat×Nat):=
 match mF hi n n with
 |none=>none
 |some h=>match mF lo h 0 with|none=>none|some l=>some (l,h)
def vL(x:AV)(lo hi:Option AV):Option AV:=
 match x with
 | .p (.s l)=>match nA l.length lo hi with|some c=>some (.p (.s ((l.drop c.1).take (c.2-c.1))))|none=>none
 |_=>none
def vJ(esz:Nat)(x:AV)(lo hi:Option AV):Option AV:=
 match x with
 | .p (.sl e rows)=>if esz=e then
   match nA rows.length lo hi with
   |some c=>some (.p (.sl esz ((rows.drop c.1).take (c.2-c.1))))
   |none=>none
  else none
 |_=>none
def ND(esz:Nat)(x:AV)(lo hi:Option AV)(m:AV):Option AV:=
 match x,lo,hi,m with
 | .p (.sl e rows),none,some (.p (.i _ h)),.p (.i _ n)=>if esz=e/\h=rows.length/\n=rows.length then some (.p (.slc esz rows))else none
 |_,_,_,_=>none
def jQ(k:SK)(x:AV)(lo hi mx:Option AV):Option AV:=
 match mx with
 |some m=>match k with| .str=>none| .sl esz=>ND esz x lo hi m
 |none=>match k with| .str=>vL x lo hi| .sl esz=>vJ esz x lo hi
def MS(rows:List (List PV))(n:Int):Option (List PV):=if 0<=n then rows[n.toNat]? else none
def mD(esz:Nat)(x i:AV):RM Eff:=
 match x,i with
 | .p (.sl e rows),.p (.i _ n)=>
  if esz=e then
   match MS rows n with
   |some row=>.ret ⟨.cp row 0,[]⟩
   |none=>.fail
  else .fail
 | .slr b j m,.p (.i _ n)=>.blk b fun
  | .arr _ e rows=>if esz=e/\j+m=rows.length/\0<=n/\n<m then .ret ⟨.ep b rows.length (j+n.toNat) 0,[]⟩else .fail
  |_=>.fail
 |_,_=>.fail
def HY(len esz:Nat)(x i:AV):Option AV:=
 match i with
 | .p (.i _ n)=>
  if 0<=n/\n<len then
   match x with
   | .ptr b off=>some (.ptr b (off+n.toNat*esz))
   | .cp cs off=>some (.cp cs (off+n.toNat*esz))
   | .ep b e j off=>some (.ep b e j (off+n.toNat*esz))
   |_=>none
  else none
 |_=>none
def IA(off:Nat):AV->Option AV| .ptr b o=>some (.ptr b (o+off))| .cp cs o=>some (.cp cs (o+off))| .ep b e j o=>some (.ep b e j (o+off))|_=>none
def gF(agg:Bool)(size:Nat):AV->RM Eff
 | .cp cs off=>match sub cs off size with|some l=>val (nU agg l)|none=>.fail
 | .ptr b off=>.blk b fun
  | .box cs=>match sub cs off size with|some l=>val (jU agg l)|none=>.fail
  |_=>.fail
 | .ep b ext i off=>.blk b fun
  | .arr _ _ rows=>if ext=rows.length then
    match rows[i]? with
    |some row=>match sub row off size with|some l=>val (nU agg l)|none=>.fail
    |none=>.fail
   else .fail
  |_=>.fail
 |_=>.fail
def gJ:AV:=.tup []
def hQ(size:Nat)(x v:AV):RM Eff:=
 match x with
 | .ptr b off=>.blk b fun
  | .box cs=>match cellsOf v with
   |some l=>if l.length=size then
    match spl cs off l with
    |some cs'=>.ret ⟨gJ,[(b,.box cs')]⟩
    |none=>.fail
    else .fail
   |none=>.fail
  |_=>.fail
 | .ep b ext i off=>.blk b fun
  | .arr true esz rows=>if ext=rows.length then
    match rows[i]? with
    |some row=>(fz v).bind λa=>
     if a.1.length=size/\(a.2.all λy=>y.1 !=b)then
      match spl row off a.1 with
      |some e=>.ret ⟨gJ,a.2++[(b,.arr true esz (rows.set i e))]⟩
      |none=>.fail
     else .fail
    |none=>.fail
   else .fail
  |_=>.fail
 |_=>.fail
def rB(agg:Bool)(off size:Nat):AV->Option AV
 | .data cs=>match sub cs off size with|some l=>nU agg l|none=>none
 | .agg cs=>match sub cs off size with|some l=>jU agg l|none=>none
 |_=>none
def NF(i:Nat):AV->Option AV| .tup vs=>vs[i]?|_=>none
def GE:Bool->AV->Option AV|true,.p (.s l)=>some (.p (.i .i64 l.length))|false,.p (.sl _ rows)=>some (.p (.i .i64 rows.length))|false,.slr _ _ n=>some (.p (.i .i64 n))|_,_=>none
def eL(esz:Nat):AV->RM (List (List PV))
 | .p (.sl e rows)=>if esz=e then .ret rows else .fail
 | .p (.s l)=>if esz=1 then .ret (l.map mE)else .fail
 | .slr b i n=>.blk b fun
  | .arr _ e rows=>if esz=e/\i+n=rows.length then .ret (rows.drop i)else .fail
  |_=>.fail
 |_=>.fail
def iO(n bytes:Nat):Bool:=(2*n+512)*bytes<=281474976710656
def iA(esz bytes:Nat)(x y:AV):RM Eff:=
 match x with
 | .slr b i n=>.blk b fun
  | .arr w e rows=>(eL esz y).bind λnew=>
   if esz=e/\i=0/\n=rows.length/\iO (n+new.length) bytes then
    .ret ⟨.slr b 0 (n+new.length),[(b,.arr w esz (rows++new))]⟩
   else .fail
  |_=>.fail
 |_=>.fail
def sN:AV->AV->RM Eff
 | .slr b i n,.p (.i _ k)=>.blk b fun
  | .arr _ _ rows=>if i=0/\n=rows.length/\0<=k/\k.toNat<=n then .ret ⟨.pre b n k.toNat,[]⟩else .fail
  |_=>.fail
 |_,_=>.fail
def sO(esz:Nat):AV->AV->RM Eff
 | .slr b i n,.p (.i _ k)=>.blk b fun
  | .arr _ e rows=>if esz=e/\i+n=rows.length/\0<=k/\k.toNat<n then .ret ⟨.slr b (i+k.toNat) (n-k.toNat),[]⟩else .fail
  |_=>.fail
 |_,_=>.fail
def sP(esz bytes:Nat)(x y:AV):RM Eff:=
 match x with
 | .pre b n k=>.blk b fun
  | .arr true e rows=>(eL esz y).bind λnew=>
   if esz=e/\0<n/\n=rows.length/\iO (n+new.length) bytes then
    .ret ⟨.p (.sl esz (rows.take k++new)),[(b,.arr false esz (rows.take k++new++rows.drop (k+new.length)))]⟩
   else .fail
  |_=>.fail
 |_=>.fail
def FS(esz bytes:Nat)(x y:AV)(new:Nat):RM Eff:=
 match x with
 | .p (.slc e rows)=>(eL esz y).bind λadd=>
   if esz=e/\0<add.length/\iO (rows.length+add.length) bytes then
    .ret ⟨.slr new 0 (rows.length+add.length),[(new,.arr true esz (rows++add))]⟩
   else .fail
 |_=>.fail
def zrs(esz:Nat)(zero:List PV):AV->Option AV| .p (.i _ n)=>if 0<=n then some (.p (.sl esz (List.replicate n.toNat zero)))else none|_=>none
def mmP(mx:Bool)(x y:AV):Option AV:=
 match x,y with
 | .p (.i k a),.p (.i _ c)=>some (.p (.i k (if mx then(if c>a then c else a)else(if c<a then c else a))))
 |_,_=>none
inductive Ent where
 |whole (b:Nat)
 |elem (b ext i:Nat)
 deriving DecidableEq
def Ent.id:Ent->Nat| .whole b=>b| .elem b _ _=>b
def vK(e:Ent)(l:List Ent):List Ent:=if l.any (λx=>x==e)then l else l++[e]
def cI:AV->List Ent->List Ent
 | .ptr b _,l=>vK (.whole b) l
 | .slr b _ _,l=>vK (.whole b) l
 | .ep b e i _,l=>vK (.elem b e i) l
 | .fn _ first caps,l=>entsOfL caps (entsOfL first l)
 | .agg cs,l=>entsOfL cs l
 | .tup cs,l=>entsOfL cs l
 |_,l=>l
where
 entsOfL:List AV->List Ent->List Ent
  |[],l=>l
  |x::r,l=>entsOfL r (cI x l)
def dG(e:Ent):List Ent->Nat->Option Nat|[],_=>none|x::r,k=>if x=e then some k else dG e r (k+1)
def ren(ρ:Ent->Option Nat):AV->Option AV
 | .p c=>some (.p c)
 | .data cs=>some (.data cs)
 | .cp cs o=>some (.cp cs o)
 | .unk=>some .unk
 | .ptr b off=>(ρ (.whole b)).map λk=>.ptr k off
 | .ep b e i off=>(ρ (.elem b e i)).map λk=>.ptr k off
 | .slr b i n=>(ρ (.whole b)).map λk=>.slr k i n
 | .fn f first caps=>(renL ρ first).bind λa=>(renL ρ caps).map λc=>.fn f a c
 | .agg cs=>(renL ρ cs).map .agg
 | .tup cs=>(renL ρ cs).map .tup
 | .pre _ _ _=>none
where
 renL (ρ:Ent->Option Nat):List AV->Option (List AV)
  |[]=>some []
  |x::r=>match ren ρ x,renL ρ r with
   |some y,some l=>some (y::l)
   |_,_=>none
end Go.Am
end
section
namespace Go.Am
def iT:List Nat->Bool|[]=>true|x::r=> !(r.contains x)&&iT r
def iP(b:Nat):List (Nat×Blk)->Option Blk|[]=>none|(c,x)::r=>match iP b r with|some y=>some y|none=>if c=b then some x else none
def qN(ws:List (Nat×Blk))(b:Nat):RM Blk:=
 .blk b λx=>match iP b ws with|some y=>.ret y|none=>.ret x
def dY(ws:List (Nat×Blk)):List Ent->List Ent->RM (List Ent)
 |[],acc=>.ret acc
 | .whole b::r,acc=>(qN ws b).bind fun
  | .box cs=>dY ws r (cI.entsOfL cs acc)
  |_=>dY ws r acc
 |_::r,acc=>dY ws r acc
def iM:AV->RM (AV×List (Nat×Blk))
 | .slr b i n=>(fz (.slr b i n)).bind λa=>match a.1 with|[c]=>.ret (.p c,a.2)|_=>.fail
 | .agg cs=>(fz (.agg cs)).bind λa=>.ret (.data a.1,a.2)
 | .tup _=>.fail
 |v=>.ret (v,[])
def jJ:List AV->RM (List AV×List (Nat×Blk))|[]=>.ret ([],[])|x::r=>(iM x).bind λa=>(jJ r).bind λc=>.ret (a.1::c.1,a.2++c.2)
def xZ(ws:List (Nat×Blk))(ρ:Ent->Option Nat):Ent->RM Blk
 | .whole b=>(qN ws b).bind fun
  | .box cs=>match ren.renL ρ cs with|some l=>.ret (.box l)|none=>.fail
  | .arr w esz rows=>.ret (.arr w esz rows)
  | .dead=>.fail
 | .elem b ext i=>(qN ws b).bind fun
  | .arr true _ rows=>if ext=rows.length then
    match rows[i]? with
    |some row=>.ret (.box (row.map .p))
    |none=>.fail
   else .fail
  |_=>.fail
def jR(ws:List (Nat×Blk))(ρ:Ent->Option Nat):List Ent->RM (List Blk)|[]=>.ret []|e::r=>(xZ ws ρ e).bind λx=>(jR ws ρ r).bind λl=>.ret (x::l)
def bk(es:List Ent)(new:Nat):AV->Option AV
 | .p c=>some (.p c)
 | .data cs=>some (.data cs)
 | .cp cs o=>some (.cp cs o)
 | .unk=>some .unk
 | .ptr k off=>if k<es.length then
   match es[k]? with
   |some (.whole b)=>some (.ptr b off)
   |some (.elem b e i)=>some (.ep b e i off)
   |none=>none
  else some (.ptr (new+(k-es.length)) off)
 | .slr k i n=>if k<es.length then
   match es[k]? with
   |some (.whole b)=>some (.slr b i n)
   |_=>none
  else some (.slr (new+(k-es.length)) i n)
 | .ep k e i off=>if k<es.length then
   match es[k]? with
   |some (.whole b)=>some (.ep b e i off)
   |_=>none
  else some (.ep (new+(k-es.length)) e i off)
 | .fn f first caps=>match bkL es new first,bkL es new caps with|some a,some c=>some (.fn f a c)|_,_=>none
 | .agg cs=>match bkL es new cs with|some l=>some (.agg l)|none=>none
 | .tup cs=>match bkL es new cs with|some l=>some (.tup l)|none=>none
 | .pre _ _ _=>none
where
 bkL (es:List Ent) (new:Nat):List AV->Option (List AV)
  |[]=>some []
  |x::r=>match bk es new x,bkL es new r with
   |some y,some l=>some (y::l)
   |_,_=>none
def sY(ws:List (Nat×Blk))(es:List Ent)(new:Nat)(e:Ent)(x:Blk):RM (Nat×Blk):=
 match e,x with
 | .whole b,.box cs=>match bk.bkL es new cs with|some l=>.ret (b,.box l)|none=>.fail
 | .whole b,.arr w esz rows=>.ret (b,.arr w esz rows)
 | .elem b _ i,.box cs=>(qN ws b).bind fun
  | .arr w esz rows=>match unp cs with|some row=>.ret (b,.arr w esz (rows.set i row))|none=>.fail
  |_=>.fail
 |_,_=>.fail
def iF(ws:List (Nat×Blk))(es:List Ent)(new:Nat):List Ent->List Blk->RM (List (Nat×Blk))|[],_=>.ret []|e::r,x::l=>(sY ws es new e x).bind λy=>(iF ws es new r l).bind λg=>.ret (y::g)|_::_,[]=>.fail
def gY(es:List Ent)(new:Nat):Nat->List Blk->Option (List (Nat×Blk))
 |_,[]=>some []
 |k,.box cs::l=>match bk.bkL es new cs,gY es new (k+1) l with|some c,some e=>some ((k,.box c)::e)|_,_=>none
 |k,.arr w esz rows::l=>match gY es new (k+1) l with|some e=>some ((k,.arr w esz rows)::e)|none=>none
 |_,.dead::_=>none
def hJ(F:Orc)(f:FuncId)(args:List AV)(k new:Nat):RM Eff:=
 (jJ args).bind λa=>
 (dY a.2 (cI.entsOfL a.1 []) (cI.entsOfL a.1 [])).bind λh=>
 (dY a.2 h h).bind λes=>
 if iT (es.map Ent.id)then
  match ren.renL (λe=>dG e es 0) a.1 with
  |none=>.fail
  |some g=>(jR a.2 (λe=>dG e es 0) es).bind λblks=>
   match F f g blks with
   |none=>.fail
   |some r=>if r.2.length=es.length+k then
    match bk es new r.1,gY es new new (r.2.drop es.length)with
    |some v,some fresh=>(iF a.2 es new es r.2).bind λj=>.ret ⟨v,a.2++j++fresh⟩
    |_,_=>.fail
    else .fail
 else .fail
def jP:List (Nat×Nat×Opd)->RM (List (Nat×Nat×List AV))|[]=>.ret []|(off,size,x)::r=>(ev x).bind λv=>match cellsOf v with|some cs=>(jP r).bind λl=>.ret ((off,size,cs)::l)|none=>.fail
def gU:List (Nat×Nat)->Nat->List (Nat×Blk)|[],_=>[]|(_,esz)::r,n=>(n,.arr true esz [])::gU r (n+1)
def lQ:List (Nat×Nat)->Nat->List AV->List AV|[],_,cs=>cs|(off,_)::r,n,cs=>lQ r (n+1) (cs.set off (.slr n 0 0))
def fC:List Bool->List AV->RM (List AV×List (Nat×Blk))|_,[]=>.ret ([],[])|[],x::r=>(iM x).bind λa=>(fC [] r).bind λc=>.ret (a.1::c.1,a.2++c.2)|true::m,x::r=>(fC m r).bind λc=>.ret (x::c.1,c.2)|false::m,x::r=>(iM x).bind λa=>(fC m r).bind λc=>.ret (a.1::c.1,a.2++c.2)
def fJ(F:Orc)(f:FuncId)(a:List AV×List (Nat×Blk))(k new:Nat):RM Eff:=
 (dY a.2 (cI.entsOfL a.1 []) (cI.entsOfL a.1 [])).bind λh=>
 (dY a.2 h h).bind λes=>
 if iT (es.map Ent.id)then
  match ren.renL (λe=>dG e es 0) a.1 with
  |none=>.fail
  |some g=>(jR a.2 (λe=>dG e es 0) es).bind λblks=>
   match F f g blks with
   |none=>.fail
   |some r=>if es.length<=r.2.length/\r.2.length<=es.length+k then
    match bk es new r.1,gY es new new (r.2.drop es.length)with
    |some v,some fresh=>(iF a.2 es new es r.2).bind λj=>.ret ⟨v,a.2++j++fresh⟩
    |_,_=>.fail
    else .fail
 else .fail
def opR(F:Orc)(op:AOp)(new:Nat):RM Eff:=
 match op with
 | .mv x=>(ev x).bind λv=>.ret ⟨v,[]⟩
 | .mkarr esz _=>.ret ⟨.slr new 0 0,[(new,.arr true esz [])]⟩
 | .pick c a b=>(ev c).bind fun
  | .p (.b x)=>if x then(ev a).bind λv=>.ret ⟨v,[]⟩else(ev b).bind λv=>.ret ⟨v,[]⟩
  |_=>.fail
 | .newbox zero=>.ret ⟨.ptr new 0,[(new,.box (zero.map .p))]⟩
 | .box size x=>(ev x).bind λv=>match cellsOf v with|some cs=>if cs.length=size then .ret ⟨.ptr new 0,[(new,.box cs)]⟩else .fail|none=>.fail
 | .build zero parts=>(jP parts).bind λl=>match pN l (zero.map .p)with|some cs=>val (jU true cs)|none=>.fail
 | .lits own esz n zero parts=>(fzs (parts.map (·.2))).bind λa=>
  match yT esz ((parts.map (·.1)).zip a.1) (List.replicate n zero)with
  |some rows=>if own then .ret ⟨.slr new 0 n,a.2++[(new,.arr true esz rows)]⟩else .ret ⟨.p (.sl esz rows),a.2⟩
  |none=>.fail
 | .load agg size x=>(ev x).bind λv=>gF agg size v
 | .store size x y=>(ev x).bind λa=>(ev y).bind λv=>hQ size a v
 | .nilchk x=>(ev x).bind fun
  | .ptr b o=>.ret ⟨.ptr b o,[]⟩
  | .cp cs o=>.ret ⟨.cp cs o,[]⟩
  | .ep b e i o=>.ret ⟨.ep b e i o,[]⟩
  | .fn f u c=>.ret ⟨.fn f u c,[]⟩
  |_=>.fail
 | .bin op t x y=>(ev x).bind λa=>(ev y).bind λc=>val (nC op t a c)
 | .un op x=>(ev x).bind λa=>val (unP op a)
 | .conv k x=>(ev x).bind λa=>match k,a with
  | .int k,.p (.i _ n)=>.ret ⟨.p (.i k (k.wrap n)),[]⟩
  | .same,.p (.s l)=>.ret ⟨.p (.s l),[]⟩
  | .toStr,a=>(eL 1 a).bind λrows=>match tE rows with|some l=>.ret ⟨.p (.s l),[]⟩|none=>.fail
  | .toBytes own,.p (.s l)=>if own then .ret ⟨.slr new 0 l.length,[(new,.arr true 1 (l.map mE))]⟩else .ret ⟨.p (.sl 1 (l.map mE)),[]⟩
  |_,_=>.fail
 | .mkslice own esz bytes zero l c=>(ev l).bind λa=>(ev c).bind λd=>match a,d with
  | .p (.i _ n),.p (.i _ m)=>
   if 0<=n/\n<=m/\bytes*m<=281474976710656/\m<=281474976710656 then
    if own then .ret ⟨.slr new 0 n.toNat,[(new,.arr true esz (List.replicate n.toNat zero))]⟩
    else .ret ⟨.p (.sl esz (List.replicate n.toNat zero)),[]⟩
   else .fail
  |_,_=>.fail
 | .slice k x lo hi mx=>(ev x).bind λa=>(evo lo).bind λlo=>(evo hi).bind λhi=>(evo mx).bind λmx=>
  match a with
  | .slr b i n=>(fz (.slr b i n)).bind λy=>match y.1 with
   |[c]=>match jQ k (.p c) lo hi mx with|some v=>.ret ⟨v,y.2⟩|none=>.fail
   |_=>.fail
  |a=>val (jQ k a lo hi mx)
 | .faddr off x=>(ev x).bind λa=>val (IA off a)
 | .field agg off size x=>(ev x).bind λa=>val (rB agg off size a)
 | .iaddr esz x i=>(ev x).bind λa=>(ev i).bind λc=>mD esz a c
 | .aaddr len esz x i=>(ev x).bind λa=>(ev i).bind λc=>val (HY len esz a c)
 | .sidx x i=>(ev x).bind λa=>(ev i).bind λc=>match a,c with
  | .p (.s l),.p (.i _ n)=>if 0<=n then
    match l[n.toNat]? with
    |some u=>.ret ⟨.p (.i .u8 u.toNat),[]⟩
    |none=>.fail
   else .fail
  |_,_=>.fail
 | .aidx agg len esz x i=>(ev x).bind λa=>(ev i).bind λc=>match c with| .p (.i _ n)=>if 0<=n/\n<len then val (rB agg (n.toNat*esz) esz a)else .fail|_=>.fail
 | .extr x i=>(ev x).bind λa=>val (NF i a)
 | .call f args k=>(evs args).bind λvs=>hJ F f vs k new
 | .callv g args k=>(ev g).bind fun
  | .fn f first caps=>(evs args).bind λvs=>hJ F f (first++vs++caps) k new
  |_=>.fail
 | .len str x=>(ev x).bind λa=>val (GE str a)
 | .alen n=>.ret ⟨.p (.i .i64 n),[]⟩
 | .appn esz bytes _ y=>(ev y).bind λc=>(eL esz c).bind λrows=>
  if iO rows.length bytes then .ret ⟨.slr new 0 rows.length,[(new,.arr true esz rows)]⟩else .fail
 | .app esz bytes _ x y=>(ev x).bind λa=>(ev y).bind λc=>iA esz bytes a c
 | .appz esz bytes zero x y=>(ev x).bind λa=>(ev y).bind λc=>match zrs esz zero c with|some h=>iA esz bytes a h|none=>.fail
 | .appc esz bytes _ x y=>(ev x).bind λa=>(ev y).bind λc=>FS esz bytes a c new
 | .ppre _ x hi=>(ev x).bind λa=>(ev hi).bind λc=>sN a c
 | .psuf esz x lo=>(ev x).bind λa=>(ev lo).bind λc=>sO esz a c
 | .appp esz bytes _ x y=>(ev x).bind λa=>(ev y).bind λc=>sP esz bytes a c
 | .mm mx x y=>(ev x).bind λa=>(ev y).bind λc=>val (mmP mx a c)
 | .mkfn f first caps=>(evs first).bind λa=>(evs caps).bind λc=>.ret ⟨.fn f a c,[]⟩
 | .newboxo zero os=>.ret ⟨.ptr (new+os.length) 0,gU os new++[(new+os.length,.box (lQ os new (zero.map .p)))]⟩
 | .buildo zero parts os=>(jP parts).bind λl=>match pN l (lQ os new (zero.map .p))with
  |some cs=>match jU true cs with|some v=>.ret ⟨v,gU os new⟩|none=>.fail
  |none=>.fail
 | .storen esz x=>(ev x).bind λa=>(hQ 1 a (.slr new 0 0)).bind λe=>.ret ⟨e.val,(new,.arr true esz [])::e.ws⟩
 | .callo f keep args k=>(evs args).bind λvs=>(fC keep vs).bind λa=>fJ F f a k new
def kL:AOp->Nat| .newbox _| .box _ _| .mkarr _ _| .appn _ _ _ _| .appc _ _ _ _ _=>1| .lits own _ _ _ _=>if own then 1 else 0| .mkslice own _ _ _ _ _=>if own then 1 else 0| .conv (.toBytes own) _=>if own then 1 else 0| .call _ _ k| .callv _ _ k| .callo _ _ _ k=>k| .newboxo _ os=>os.length+1| .buildo _ _ os=>os.length| .storen _ _=>1|_=>0
def sS(new:Nat):Nat->RM Unit
 |0=>.ret ()
 |k+1=>.blk new fun
  | .dead=>sS (new+1) k
  |_=>.fail
def opD(F:Orc)(op:AOp)(new:Nat):RM Eff:=(sS new (kL op)).bind λ_=>opR F op new
def bZ(F:Orc)(i:bV)(new:Nat):RM Eff:=
 match i.g with
 |none=>opD F i.op new
 |some (g,e)=>.slot g fun
  | .p (.b x)=>if x=e then opD F i.op new else .ret ⟨gJ,[]⟩
  | .tup []=>.ret ⟨gJ,[]⟩
  |_=>.fail
def put(d:Option Nat)(e:Eff)(s:St):St:=
 match d with
 |some d=>⟨(d,e.val)::s.env,upd e.ws s.sto⟩
 |none=>⟨s.env,upd e.ws s.sto⟩
def fW(F:Orc):List bV->Nat->St->Option St|[],_,s=>some s|i::r,new,s=>match(bZ F i new).run s with|some e=>fW F r (new+kL i.op) (put i.dst e s)|none=>none
def iW:List Loc->List Nat|[]=>[]| .blk b::r=>b::iW r|_::r=>iW r
abbrev Log:=List (List Nat×List Nat)
def iU(F:Orc):List bV->Nat->St->Log->Option (St×Log)|[],_,s,l=>some (s,l)|i::r,new,s,l=>match(bZ F i new).run s with|some e=>iU F r (new+kL i.op) (put i.dst e s) (l++[(iW ((bZ F i new).reads s),e.ws.map (·.1))])|none=>none
def fZ(a b:List Nat):Bool:=a.all λx=> !(b.contains x)
def DG(l:Log):List (Nat×Nat)->Bool
 |[]=>true
 |(i,j)::r=>(match l[i]?,l[j]? with
  |some a,some b=>fZ a.2 b.1&&fZ a.2 b.2&&fZ a.1 b.2
  |_,_=>false)&&DG l r
def news:List bV->Nat|[]=>0|i::r=>kL i.op+news r
def room(n:Nat)(sto:List Blk):List Blk:=if n=0 then sto else sto++List.replicate n .dead
def region(F:Orc)(pairs:List (Nat×Nat))(ins:List bV)(s:St):Option St:=
 match pairs with
 |[]=>fW F ins s.sto.length ⟨s.env,room (news ins) s.sto⟩
 |_::_=>match iU F ins s.sto.length ⟨s.env,room (news ins) s.sto⟩ []with|some (s',l)=>if DG l pairs then some s' else none|none=>none
def restr:List Nat->List (Nat×AV)->List (Nat×AV)|[],_=>[]|k::r,env=>match lk k env with|some v=>(k,v)::restr r env|none=>restr r env
def eI(b:Nat):List Nat->Nat->Option Nat|[],_=>none|x::r,k=>if x=b then some k else eI b r (k+1)
def fin(m:Nat)(ids:List Nat)(sto:List Blk):AV->Option AV
 | .p c=>some (.p c)
 | .data cs=>some (.data cs)
 | .cp cs o=>some (.cp cs o)
 | .unk=>some .unk
 | .ptr b off=>if b<m then some (.ptr b off)else(eI b ids m).map λk=>.ptr k off
 | .slr b i n=>if b<m then some (.slr b i n)else
  match eI b ids m with
  |some k=>some (.slr k i n)
  |none=>match sto[b]? with|some (.arr _ esz rows)=>if i+n=rows.length then some (.p (.sl esz (rows.drop i)))else none|_=>none
 | .ep b e i off=>if b<m then some (.ep b e i off)else(eI b ids m).map λk=>.ep k e i off
 | .fn f first caps=>match finL m ids sto first,finL m ids sto caps with|some a,some c=>some (.fn f a c)|_,_=>none
 | .agg cs=>match finL m ids sto cs with
  |some l=>match unp l with|some q=>some (.data q)|none=>some (.agg l)
  |none=>none
 | .tup cs=>match finL m ids sto cs with|some l=>some (.tup l)|none=>none
 | .pre _ _ _=>none
where
 finL (m:Nat) (ids:List Nat) (sto:List Blk):List AV->Option (List AV)
  |[]=>some []
  |x::r=>match fin m ids sto x,finL m ids sto r with
   |some y,some l=>some (y::l)
   |_,_=>none
def fR(m:Nat)(ids:List Nat)(sto:List Blk):Blk->Option Blk
 | .dead=>some .dead
 | .box cs=>match fin.finL m ids sto cs with|some l=>some (.box l)|none=>none
 | .arr w esz rows=>some (.arr w esz rows)
def qT(m:Nat)(ids:List Nat)(sto:List Blk):List Blk->Option (List Blk)|[]=>some []|x::r=>match fR m ids sto x,qT m ids sto r with|some y,some l=>some (y::l)|_,_=>none
def uF(m:Nat)(sto:List Blk):List (Nat×AV)->Option (List (Nat×AV))|[]=>some []|(k,x)::r=>match fin m [] sto x,uF m sto r with|some y,some l=>some ((k,y)::l)|_,_=>none
def clean(n:Nat)(live:List Nat)(s:St):Option St:=
 if s.sto.length=n then some ⟨restr live s.env,s.sto⟩
 else match uF n s.sto (restr live s.env),qT n [] s.sto (s.sto.take n)with|some e,some l=>some ⟨e,l⟩|_,_=>none
def nB:List uG->RM (List AV)|[]=>.ret []| .tmp t::r=>(RM.slot t .ret).bind λv=>(nB r).bind λl=>.ret (v::l)| .cell t agg size::r=>(RM.slot t .ret).bind λv=>(gF agg size v).bind λe=>(nB r).bind λl=>.ret (e.val::l)
def iX(m:Nat)(fresh:Bool)(sto:List Blk):List Ent->List Nat
 |[]=>[]
 | .whole b::r=>if b<m then iX m fresh sto r else
  match sto[b]? with
  |some (.box _)=>b::iX m fresh sto r
  |some (.arr _ _ _)=>if fresh then b::iX m fresh sto r else iX m fresh sto r
  |_=>iX m fresh sto r
 |_::r=>iX m fresh sto r
def qV(sto:List Blk):List Ent->List Ent->List Ent
 |[],acc=>acc
 | .whole b::r,acc=>match sto[b]? with|some (.box cs)=>qV sto r (cI.entsOfL cs acc)|_=>qV sto r acc
 |_::r,acc=>qV sto r acc
def vI(sto:List Blk):List Nat->Option (List Blk)|[]=>some []|b::r=>match sto[b]?,vI sto r with|some x,some l=>some (x::l)|_,_=>none
def one:List AV->AV|[x]=>x|l=>.tup l
def gW(fn:AFn)(m:Nat)(s:St):Option Res:=
 match(nB fn.res).run s with
 |none=>none
 |some vs=>
  if s.sto.length=m then some (one vs,s.sto)
  else
   match iX m fn.fresh s.sto (qV s.sto (cI.entsOfL vs []) (cI.entsOfL vs []))with
   |ids=>if iT ids then
    match fin.finL m ids s.sto vs,qT m ids s.sto (s.sto.take m),vI s.sto ids with
    |some ws,some l,some q=>match qT m ids s.sto q with|some q'=>some (one ws,l++q')|none=>none
    |_,_,_=>none
    else none
def iK:Nat->List AV->List (Nat×AV)|_,[]=>[]|k,x::r=>(k,x)::iK (k+1) r
structure oN where
 np:Nat
 nt:Nat
 p0:cB
 live:List Nat
 pre:cB
 c:Opd
 a:cB
 b:cB
 rest:cB
 res:List uG
 fresh:Bool
def oN.af(k:oN):AFn:=⟨k.np,k.nt,.seq k.p0 (.br k.live k.pre k.c k.a k.b k.rest),k.res,k.fresh⟩
def xG(f:AFn)(m:Nat)(o:Option Out):Option Res:=
 match o with
 |some (.normal,s)=>gW f m s
 |some (.ret,s)=>gW f m s
 |_=>none
open Classical in
noncomputable def HL(a b:Option Res):Option Res:=
 match a,b with
 |some r,some r'=>if r=r' then some r else none
 |_,_=>none
def thn(o:Option Out)(k:St->Option Out):Option Out:=
 match o with
 |some (.normal,s)=>k s
 |o=>o
noncomputable def CN(R:cB->St->Option Out)(k:oN)(args:List AV)(blks:List Blk):Option Res:=
 match R k.p0 ⟨iK 0 args,blks⟩with
 |some (.normal,s0)=>match R k.pre s0 with
  |some (.normal,s1)=>match(ev k.c).run s1 with|some (.p (.b x))=>if x=true then xG k.af blks.length (thn (R k.a s1) λs=>R k.rest s)else xG k.af blks.length (thn (R k.b s1) λs=>R k.rest s)|some .unk=>HL (xG k.af blks.length (thn (R k.a s1) λs=>R k.rest s)) (xG k.af blks.length (thn (R k.b s1) λs=>R k.rest s))|_=>none
  |_=>none
 |_=>none
inductive kl where|fn (f:AFn)|prim (g:List AV->List Blk->Option Res)|fork (k:oN)
abbrev dV:=FuncId->Option kl
noncomputable def qW(T:dV)(R:cB->St->Option Out)(f:FuncId)(args:List AV)(blks:List Blk):Option Res:=
 match T f with
 |none=>none
 |some (.prim g)=>g args blks
 |some (.fork k)=>if args.length=k.np then CN R k args blks else none
 |some (.fn fn)=>
  if args.length=fn.np then
   match R fn.body ⟨iK 0 args,blks⟩with
   |some (.normal,s)=>gW fn blks.length s
   |some (.ret,s)=>gW fn blks.length s
   |_=>none
  else none
open Classical in
noncomputable def same(a b:Option Out):Option Out:=
 match a,b with
 |some r,some r'=>if r=r' then some r else none
 |_,_=>none
def mC(n:Nat)(live:List Nat)(o:Option Out):Option Out:=
 match o with
 |some (e,s)=>match clean n live s with|some s'=>some (e,s')|none=>none
 |none=>none
noncomputable def step(T:dV)(R:cB->St->Option Out)(c:cB)(s:St):Option Out:=
 match c with
 | .skip=>some (.normal,s)
 | .bad=>none
 | .reg _ pairs ins=>match region (qW T R) pairs ins s with|some s'=>some (.normal,s')|none=>none
 | .seq a b=>match R a s with|some (.normal,s')=>R b s'|o=>o
 | .cond c a b=>match(ev c).run s with|some (.p (.b x))=>if x=true then R a s else R b s|some .unk=>same (R a s) (R b s)|_=>none
 | .block id c=>match R c s with|some (.exit k,s')=>if k=id then some (.normal,s')else some (.exit k,s')|o=>o
 | .loop live c=>match clean s.sto.length live s with|some s'=>R (.lp s.sto.length live c) s'|none=>none
 | .lp n live c=>match R c s with
  |some (.normal,s')=>(match clean n live s' with
   |some e=>R (.lp n live c) e
   |none=>none)
  |o=>o
 | .scope c=>R c s
 | .exit id=>some (.exit id,s)
 | .ret=>some (.ret,s)
 | .keep live c=>R c ⟨restr live s.env,s.sto⟩
 | .tidy live c=>mC s.sto.length live (R c s)
 | .br live pre c a b rest=>match R pre s with
  |some (.normal,s1)=>(match(ev c).run s1 with
   |some (.p (.b x))=>if x=true then thn (R a s1) λs=>R rest s else thn (R b s1) λs=>R rest s
   |some .unk=>same (mC s1.sto.length live (thn (R a s1) λs=>R rest s)) (mC s1.sto.length live (thn (R b s1) λs=>R rest s))
   |_=>none)
  |_=>none
end Go.Am
end
section
namespace Go.Am
def fA{α:Type}(a b:Option α):Prop:=a=none\/a=b
theorem cP{α:Type}(a:Option α):fA a a:=.inr rfl
theorem run_bind{α β:Type}(m:RM α)(f:α->RM β)(s:St):(m.bind f).run s=(m.run s).bind λa=>(f a).run s:=by
 induction m with
 |ret a=>rfl
 |slot n k ih=>grind [RM.bind,RM.run]
 |blk b k ih=>grind [RM.bind,RM.run]
 |fail=>rfl
theorem mH{α β:Type}{m:RM α}{f e:α->RM β}{s:St}(h: ∀a,fA ((f a).run s) ((e a).run s)):fA ((m.bind f).run s) ((m.bind e).run s):=by
 rw[run_bind,run_bind];cases m.run s with
 |none=>exact .inl rfl
 |some a=>exact h a
variable {F F':Orc} (h: ∀f a b,fA (F f a b) (F' f a b))
include h in
theorem rl(f:FuncId)(args:List AV)(k new:Nat)(s:St):fA ((hJ F f args k new).run s) ((hJ F' f args k new).run s):=by
 unfold hJ;refine mH λa=>mH λg=>mH λes=>?_;split;split;simp[cP];refine mH λblks=>?_;rcases h f ‹_› blks with e|e;rw[e];exact .inl rfl;grind [cP];simp[cP]
include h in
theorem K2(f:FuncId)(a:List AV×List (Nat×Blk))(k new:Nat)(s:St):fA ((fJ F f a k new).run s) ((fJ F' f a k new).run s):=by
 unfold fJ;refine mH λg=>mH λes=>?_;split;split;simp[cP];refine mH λblks=>?_;rcases h f ‹_› blks with e|e;rw[e];exact .inl rfl;grind [cP];simp[cP]
include h in
theorem JEa(op:AOp)(new:Nat)(s:St):fA ((opR F op new).run s) ((opR F' op new).run s):=by
 cases op<;>try exact cP _
 case call f args k=>exact mH λvs=>rl h ..
 case callo f keep args k=>exact mH λvs=>mH λa=>K2 h ..
 case callv g args k=>
  refine mH λg=>?_;grind [cP,mH,rl]
include h in
theorem JEd(op:AOp)(new:Nat)(s:St):fA ((opD F op new).run s) ((opD F' op new).run s):=
 mH λ_=>JEa h ..
include h in
theorem rf(i:bV)(new:Nat)(s:St):fA ((bZ F i new).run s) ((bZ F' i new).run s):=by
 unfold bZ;split
 all_goals grind [JEd,RM.run,cP]
theorem wI{α β:Type}(m:RM α)(f:α->RM β)(s:St):(m.bind f).reads s=m.reads s++((m.run s).map λa=>(f a).reads s).getD []:=by
 induction m with
 |ret a=>simp[RM.bind,RM.reads,RM.run]
 |slot n k ih=>grind [RM.bind,RM.reads,RM.run]
 |blk b k ih=>grind [RM.bind,RM.reads,RM.run]
 |fail=>simp[RM.bind,RM.reads,RM.run]
theorem mP{α β:Type}{m:RM α}{f e:α->RM β}{s:St}(h: ∀a,(f a).run s=none\/(f a).reads s=(e a).reads s):
  ((m.bind f).run s)=none\/(m.bind f).reads s=(m.bind e).reads s:=by
 rw[run_bind,wI,wI];cases m.run s<;>simp_all
include h in
theorem r3(f:FuncId)(args:List AV)(k new:Nat)(s:St):
  (hJ F f args k new).run s=none\/(hJ F f args k new).reads s=(hJ F' f args k new).reads s:=by
 unfold hJ;refine mP λa=>mP λg=>mP λes=>?_;split;split;exact .inr rfl;refine mP λblks=>?_;rcases h f ‹_› blks with e|e;rw[e];exact .inl rfl;simp_all;simp_all
include h in
theorem Kb(f:FuncId)(a:List AV×List (Nat×Blk))(k new:Nat)(s:St):
  (fJ F f a k new).run s=none\/(fJ F f a k new).reads s=(fJ F' f a k new).reads s:=by
 unfold fJ;refine mP λg=>mP λes=>?_;split;split;exact .inr rfl;refine mP λblks=>?_;rcases h f ‹_› blks with e|e;rw[e];exact .inl rfl;simp_all;simp_all
include h in
theorem JFb(op:AOp)(new:Nat)(s:St):(opR F op new).run s=none\/(opR F op new).reads s=(opR F' op new).reads s:=by
 cases op<;>try exact .inr rfl
 case call f args k=>exact mP λvs=>r3 h ..
 case callo f keep args k=>exact mP λvs=>mP λa=>Kb h ..
 case callv g args k=>
  refine mP λg=>?_;grind [mP,r3]
include h in
theorem JED(op:AOp)(new:Nat)(s:St):(opD F op new).run s=none\/(opD F op new).reads s=(opD F' op new).reads s:=
 mP λ_=>JFb h ..
include h in
theorem JD8(i:bV)(new:Nat)(s:St):(bZ F i new).run s=none\/(bZ F i new).reads s=(bZ F' i new).reads s:=by
 unfold bZ;split
 all_goals grind [JED,RM.run,RM.reads]
include h in
theorem I7(ins:List bV): ∀new s,fA (fW F ins new s) (fW F' ins new s):=by
 induction ins with
 |nil=>exact λ_ _=>cP _
 |cons i r ih=>
  intro new s;simp only[fW];rcases rf h i new s with e|e;rw[e];exact .inl rfl;grind [cP]
include h in
theorem I8(ins:List bV): ∀new s l,fA (iU F ins new s l) (iU F' ins new s l):=by
 induction ins with
 |nil=>exact λ_ _ _=>cP _
 |cons i r ih=>
  intro new s l;simp only[iU];rcases rf h i new s with e|e;rw[e];exact .inl rfl;grind [JD8,cP]
include h in
theorem Ma(pairs:List (Nat×Nat))(ins:List bV)(s:St):fA (region F pairs ins s) (region F' pairs ins s):=by
 unfold region;split;grind [I7];rcases I8 h ins s.sto.length ⟨s.env,Go.Am.room (news ins) s.sto⟩ []with e|e;rw[e];exact .inl rfl;grind [cP]
variable {T:dV} {R R':cB->St->Option Out} (hR: ∀c s,fA (R c s) (R' c s))
include hR in
theorem JAo(k:oN)(args:List AV)(blks:List Blk):fA (CN R k args blks) (CN R' k args blks):=by
 have ht: ∀x s,fA (xG k.af blks.length (thn (R x s) λs=>R k.rest s)) (xG k.af blks.length (thn (R' x s) λs=>R' k.rest s)):=by
  intro x s;rcases hR x s with e|e;rw[e];exact .inl rfl;rw[e];cases hx:R' x s with
  |none=>exact .inl rfl
  |some o=>
   obtain⟨q,s'⟩:=o;cases q with
   |normal=>
    simp only[thn];rcases hR k.rest s' with e'|e';rw[e'];exact .inl rfl;grind [cP]
   |_=>exact cP _
 unfold CN;rcases hR k.p0 ⟨iK 0 args,blks⟩with e|e;rw[e];exact .inl rfl;rw[e];split;rename_i s0 _;rcases hR k.pre s0 with e|e;rw[e];exact .inl rfl;rw[e];split;split;grind;rename_i s1 _ _ _;rcases ht k.a s1 with e|e;rw[e];exact .inl rfl;rcases ht k.b s1 with e'|e';rw[e'];unfold HL;exact .inl (by simp_all);grind [cP];simp[cP];simp[cP];simp[cP]
include hR in
theorem Fc(f:FuncId)(a:List AV)(b:List Blk):fA (qW T R f a b) (qW T R' f a b):=by
 unfold qW;split;simp[cP];simp[cP];grind [JAo,cP];split;rcases hR ‹AFn›.body ⟨iK 0 a,b⟩with e|e;rw[e];exact .inl rfl;grind [cP];simp[cP]
include hR in
theorem fi(c:cB)(s:St):fA (step T R c s) (step T R' c s):=by
 cases c with
 |bad=>exact .inl rfl
 |skip=>exact cP _
 |reg d pairs ins=>
  simp only[step];rcases Ma (Fc (T:=T) hR) pairs ins s with e|e;rw[e];exact .inl rfl;grind [cP]
 |seq a b=>
  simp only[step];rcases hR a s with e|e;rw[e];exact .inl rfl;grind
 |cond c a b=>
  simp only[step];split;grind;rcases hR a s with e|e;rw[e];exact .inl rfl;rcases hR b s with e'|e';rw[e'];unfold same;exact .inl (by simp_all);grind [cP];simp[cP]
 |block id c=>
  simp only[step];rcases hR c s with e|e;rw[e];exact .inl rfl;grind [cP]
 |loop live c=>
  grind [step,cP]
 |lp n live c=>
  simp only[step];rcases hR c s with e|e;rw[e];exact .inl rfl;grind [cP]
 |scope c=>exact hR _ _
 |exit id=>exact cP _
 |ret=>exact cP _
 |keep live c=>exact hR _ _
 |tidy live c=>
  simp only[step];rcases hR c s with e|e;rw[e];exact .inl rfl;grind [cP]
 |br live pre c a b rest=>
  have ht: ∀x s,fA (thn (R x s) λs=>R rest s) (thn (R' x s) λs=>R' rest s):=(by intro x s;rcases hR x s with e|e;rw[e];exact .inl rfl;rw[e];unfold thn;grind);simp only[step];rcases hR pre s with e|e;rw[e];exact .inl rfl;rw[e];split;split;grind;rename_i s1 _ _ _;rcases ht a s1 with e|e;rw[e];exact .inl rfl;rcases ht b s1 with e'|e';rw[e'];unfold same;exact .inl (by simp[mC]);grind [cP];simp[cP];simp[cP]
def Ar(T:dV)(M:cB->St->Out->Prop):Prop:= ∀R:cB->St->Option Out,(∀c s r,R c s=some r->M c s r)-> ∀c s r,step T R c s=some r->M c s r
def Den(T:dV)(c:cB)(s:St)(r:Out):Prop:= ∀M,Ar T M->M c s r
theorem ZX(T:dV):Ar T (Den T):=λR hR c s r h M e=>e R (λc s r h=>hR c s r h M e) c s r h
theorem Dn{T:dV}{c:cB}{s:St}{r:Out}(h:Den T c s r): ∃R:cB->St->Option Out,(∀c s r,R c s=some r->Den T c s r)/\step T R c s=some r:=
 h (λc s r=> ∃R:cB->St->Option Out,(∀c s r,R c s=some r->Den T c s r)/\step T R c s=some r) λR hR c s r e=>
  ⟨R,λc s r h=>let⟨R',h1,h2⟩:=hR c s r h;ZX T R' h1 c s r h2,e⟩
theorem JIE{T:dV}{c:cB}{s:St}{r:Out}(h:Den T c s r): ∀r',Den T c s r'->r'=r:=by
 have j:Den T c s r/\ ∀r',Den T c s r'->r'=r:=h (λc s r=>Den T c s r/\ ∀r',Den T c s r'->r'=r) λR hR c s r k=>by
  refine⟨ZX T R (λc s r h=>(hR c s r h).1) c s r k,λr' n=>?_⟩;obtain⟨R',o,hs'⟩:=Dn n;have b1: ∀c s,fA (R c s) ((R c s).or (R' c s)):=λc s=>by cases hc:R c s<;>simp[fA]
  have b2: ∀c s,fA (R' c s) ((R c s).or (R' c s)):=λc s=>by
   cases hc:R c s with
   |none=>simp[fA]
   |some a=>cases hc':R' c s<;>grind [fA]
  have e:=fi (T:=T) b1 c s;have g:=fi (T:=T) b2 c s;rw[k]at e;rw[hs']at g;rcases e with e|e;cases e
  ·rcases g with g|g
   all_goals grind
 exact j.2
open Classical in
noncomputable def X(T:dV)(c:cB)(s:St):Option Out:=if h: ∃r,Den T c s r then some h.choose else none
theorem HR{T:dV}{c:cB}{s:St}{r:Out}:X T c s=some r↔Den T c s r:=by
 unfold X;constructor
 ·intro h;split at h
  all_goals grind
 intro h;rw[dif_pos ⟨r,h⟩];grind [JIE]
theorem JMF(T:dV)(motive:cB->St->Out->Prop)
  (h: ∀R:cB->St->Option Out,(∀c s r,R c s=some r->motive c s r)-> ∀c s r,step T R c s=some r->motive c s r): ∀c s r,X T c s=some r->motive c s r:=
 λc s r e=>HR.1 e motive h
theorem lR(T:dV)(c:cB)(s:St):X T c s=step T (X T) c s:=by
 have one: ∀r,step T (X T) c s=some r->X T c s=some r:=λr h=>HR.2 (ZX T (X T) (λc s r h=>HR.1 h) c s r h);cases hs:step T (X T) c s with
 |some r=>exact one r hs
 |none=>
  cases hx:X T c s with
  |none=>rfl
  |some r=>
   obtain⟨R,hR,h⟩:=Dn (HR.1 hx);have:=fi (T:=T) (R:=R) (R':=X T) (λc s=>by
    cases hc:R c s with
    |none=>exact .inl rfl
    |some a=>right;grind [HR]) c s
   rw[h,hs]at this;rcases this with e|e<;>cases e
noncomputable def AF(T:dV):Orc:=qW T (X T)
end Go.Am
end
section
namespace Go.Am
structure Gh where
 μ:Nat->Option (Nat×Nat)
 C:Nat->Nat->Prop
def cellAt(w:World)(r o:Nat):Option Value:=
 match w.heap[r]? with
 |some (.cells c _ _)=>c[o]?
 |_=>none
theorem pQ(w:World)(r o:Nat):w.cell? ⟨r,o,none⟩=cellAt w r o:=by
 grind [World.cell?,cellAt]
theorem jB{w:World}{r o:Nat}{c e fz}(h:w.heap[r]?=some (.cells c e fz)):cellAt w r o=c[o]?:=by
 grind [cellAt]
inductive J0i(w:World)(C:Nat->Nat->Prop):PV->Value->Prop where
 |b (x:Bool):J0i w C (.b x) (.bool x)
 |i (k:IntKind) (n:Int):J0i w C (.i k n) (.int k n)
 |s (l:List UInt8):J0i w C (.s l) (.string ⟨l.toArray⟩)
 |np:J0i w C .np (.pointer none)
 |nf:J0i w C .nf .nilFunc
 |sl0 (esz:Nat) (a:Option Addr) (cap:Nat):J0i w C (.sl esz []) (.slice a 0 cap)
 |sl (esz:Nat) (rows:List (List PV)) (r o cap:Nat) (vals:Nat->Nat->Value):
  rows.length<=cap->(∀row∈rows,row.length=esz)->
  (∀(i j:Nat) row x,rows[i]?=some row->row[j]?=some x->C r (o+i*esz+j)/\cellAt w r (o+i*esz+j)=some (vals i j))->
  (∀(i j:Nat) row x,rows[i]?=some row->row[j]?=some x->J0i w C x (vals i j))->
  J0i w C (.sl esz rows) (.slice (some ⟨r,o,none⟩) rows.length cap)
 |slc (esz:Nat) (rows:List (List PV)) (a:Option Addr):J0i w C (.sl esz rows) (.slice a rows.length rows.length)->J0i w C (.slc esz rows) (.slice a rows.length rows.length)
structure Sn where
 σ:List Blk
 g:Gh
 w:World
def NE(σ:List Blk)(b:Nat):Prop:= ∃cs,σ[b]?=some (.box cs)
def JMB(s:Sn)(b esz i n:Nat)(v:Value):Prop:=(s.g.μ b=none/\i=0/\n=0/\v=.slice none 0 0)\/ ∃r cap c e fz,s.g.μ b=some (r,0)/\v=.slice (some ⟨r,i*esz,none⟩) n cap/\n<=cap/\s.w.heap[r]?=some (.cells c e fz)/\(i+cap)*esz<=c.size
inductive JJ(s:Sn):AV->Value->Prop where
 |p (c v):J0i s.w s.g.C c v->JJ s (.p c) v
 |data (cs:List PV) (vs:Array Value):cs.length=vs.size->(∀(i:Nat) x v,cs[i]?=some x->vs[i]?=some v->J0i s.w s.g.C x v)->JJ s (.data cs) (.agg vs)
 |agg (cs:List AV) (vs:Array Value):cs.length=vs.size->(∀(i:Nat) v,vs[i]?=some v->v.oneCell'=true)->(∀(i:Nat) x v,cs[i]?=some x->vs[i]?=some v->JJ s x v)->JJ s (.agg cs) (.agg vs)
 |tup (cs:List AV) (vs:Array Value):cs.length=vs.size->(∀(i:Nat) x v,cs[i]?=some x->vs[i]?=some v->JJ s x v)->JJ s (.tup cs) (.tuple vs)
 |ptr (b off r o):s.g.μ b=some (r,o)->NE s.σ b->JJ s (.ptr b off) (.pointer (some ⟨r,o+off,none⟩))
 |cp (cs:List PV) (off r o:Nat) (vals:Nat->Value):
  (∀(j:Nat) x,cs[j]?=some x->s.g.C r (o+j)/\cellAt s.w r (o+j)=some (vals j))->
  (∀(j:Nat) x,cs[j]?=some x->J0i s.w s.g.C x (vals j))->JJ s (.cp cs off) (.pointer (some ⟨r,o+off,none⟩))
 |slr (b i n v wm esz rows):(∃a cap,v=.slice a n cap/\(n=0\/a≠none))->s.σ[b]?=some (.arr wm esz rows)->i+n<=rows.length->(i+n=rows.length->JMB s b esz i n v)->JJ s (.slr b i n) v
 |ep (b ext i off v wm esz rows):(∃r o,v=.pointer (some ⟨r,o,none⟩))->s.σ[b]?=some (.arr wm esz rows)->ext<=rows.length->
  (ext=rows.length->i<ext-> ∃r,s.g.μ b=some (r,0)/\v=.pointer (some ⟨r,i*esz+off,none⟩))->JJ s (.ep b ext i off) v
 |pre (b n k v wm esz rows):(∃a cap,v=.slice a k cap)->s.σ[b]?=some (.arr wm esz rows)->n<=rows.length->k<=n->
  (n=rows.length->(n=0/\v=.slice none 0 0)\/ ∃r cap c e fz,s.g.μ b=some (r,0)/\v=.slice (some ⟨r,0,none⟩) k cap/\n<=cap/\s.w.heap[r]?=some (.cells c e fz)/\cap*esz<=c.size)->JJ s (.pre b n k) v
 |fn (f:FuncId) (first caps:List AV) (fs cs:Array Value):first.length=fs.size->caps.length=cs.size->
  (∀(i:Nat) x v,first[i]?=some x->fs[i]?=some v->JJ s x v)->(∀(i:Nat) x v,caps[i]?=some x->cs[i]?=some v->JJ s x v)->
  JJ s (.fn f first caps) (.func (.func f) fs cs)
 |unk (x:Bool):JJ s .unk (.bool x)
def Wr1(s:Sn)(b r o:Nat):Prop:=
 match s.σ[b]? with
 |some (.box cs)=> ∃e,s.g.μ b=some (r,e)/\e<=o/\o<e+cs.length
 |some (.arr true _ _)=> ∃e,s.g.μ b=some (r,e)
 |some (.arr false esz rows)=> ∃e,s.g.μ b=some (r,e)/\rows.length*esz<=o
 |_=>False
def Wr(s:Sn)(r o:Nat):Prop:= ∃b,Wr1 s b r o
def BM(fz:Nat×Nat)(a b:Nat):Prop:= ∀o,a<=o->o<b-> ¬(fz.1<=o/\o<fz.2)
def vB(esz:Nat)(fz:Nat×Nat)(n:Nat):Prop:=BM fz 0 n/\(esz≠1-> ¬(fz.1<=n/\n<fz.2))
theorem vB.zero(esz n:Nat):vB esz (0,0) n:=⟨λ_ _ _ h=>by simp at h,λ_ h=>by simp at h⟩
def MY(s:Sn)(b:Nat)(cs:List AV):Prop:= ∃r o c e fz,s.g.μ b=some (r,o)/\s.w.heap[r]?=some (.cells c e fz)/\o+cs.length<=c.size/\(∀(i:Nat) x,cs[i]?=some x-> ∃v,c[o+i]?=some v/\JJ s x v/\v.oneCell'=true)/\BM fz o (o+cs.length)
def MM(s:Sn)(b:Nat)(wm:Bool)(esz:Nat)(rows:List (List PV)):Prop:=(s.g.μ b=none/\rows=[])\/ ∃r c e fz,s.g.μ b=some (r,0)/\s.w.heap[r]?=some (.cells c e fz)/\(∀row∈rows,row.length=esz)/\rows.length*esz<=c.size/\(∀(i j:Nat) row x,rows[i]?=some row->row[j]?=some x->(∃v,c[i*esz+j]?=some v/\J0i s.w s.g.C x v)/\(wm=false->s.g.C r (i*esz+j)))/\vB esz fz c.size
structure Inv(s:Sn):Prop where
 box: ∀b cs,s.σ[b]?=some (.box cs)->MY s b cs
 arr: ∀b wm esz rows,s.σ[b]?=some (.arr wm esz rows)->MM s b wm esz rows
 apart: ∀b1 b2 r o,Wr1 s b1 r o->Wr1 s b2 r o->b1=b2
 const: ∀r o,s.g.C r o->r<s.w.heap.size/\ ∀b,¬Wr1 s b r o
def oS(W:Nat->Nat->Prop)(w0 w:World):Prop:=w0.heap.size<=w.heap.size/\(∀(r:Nat) c e fz,w0.heap[r]?=some (.cells c e fz)-> ∃c',w.heap[r]?=some (.cells c' e fz)/\c'.size=c.size/\ ∀o,¬W r o->c'[o]?=c[o]?)/\(∀(r:Nat) x,w0.heap[r]?=some x->(∀c e fz,x≠.cells c e fz)->w.heap[r]?=some x)/\w.os=w0.os/\w.output=w0.output
structure aZ(s0 s:Sn):Prop where
 keep:oS (Wr s0) s0.w s.w
 cmono: ∀r o,s0.g.C r o->s.g.C r o
 cnew: ∀r o,s.g.C r o->s0.g.C r o\/Wr s0 r o\/s0.w.heap.size<=r
 wnew: ∀r o,Wr s r o->Wr s0 r o\/s0.w.heap.size<=r
 len:s0.σ.length<=s.σ.length
 box: ∀b cs,s0.σ[b]?=some (.box cs)->(∃cs',s.σ[b]?=some (.box cs')/\cs'.length=cs.length)/\s.g.μ b=s0.g.μ b
 arr: ∀b wm esz rows,s0.σ[b]?=some (.arr wm esz rows)-> ∃wm' rows',s.σ[b]?=some (.arr wm' esz rows')/\(wm'=true->wm=true)/\
  rows.length<=rows'.length/\(rows'.length=rows.length->s.g.μ b=s0.g.μ b)
theorem oS.refl(W w):oS W w w:=⟨zQ0 _,λ_ c _ _ h=>⟨c,h,rfl,λ_ _=>rfl⟩,λ_ _ h _=>h,rfl,rfl⟩
theorem oS.mono{W W':Nat->Nat->Prop}{w0 w}(h:oS W w0 w)(hw: ∀r o,W r o->W' r o):oS W' w0 w:=
 ⟨h.1,λr c e fz j=>let⟨c',a,b,d⟩:=h.2.1 r c e fz j;⟨c',a,b,λo g=>d o λx=>g (hw _ _ x)⟩,h.2.2⟩
theorem oS.cell{W w0 w}(h:oS W w0 w){r o v}(hn: ¬W r o)(hv:cellAt w0 r o=some v):cellAt w r o=some v:=by
 unfold cellAt at hv;split at hv;rename_i c e fz g;obtain⟨c',h1,_,j⟩:=h.2.1 r c e fz g;grind [jB];cases hv
theorem aZ.refl(s:Sn):aZ s s:=
 ⟨.refl _ _,λ_ _ h=>h,λ_ _ h=>.inl h,λ_ _ h=>.inl h,zQ0 _,λ_ cs h=>⟨⟨cs,h,rfl⟩,rfl⟩,
  λ_ wm _ rows h=>⟨wm,rows,h,id,zQ0 _,λ_=>rfl⟩⟩
theorem DQ{w:World}{r:Nat}{x:Obj}(h:w.heap[r]?=some x):r<w.heap.size:=by
 grind
theorem aZ.trans{s0 s1 D:Sn}(h:aZ s0 s1)(g:aZ s1 D):aZ s0 D where
 keep:=by
  refine⟨zQ1 h.keep.1 g.keep.1,λr c e fz B=>?_,λr x B F=>g.keep.2.2.1 r x (h.keep.2.2.1 r x B F) F,g.keep.2.2.2.1.trans h.keep.2.2.2.1,g.keep.2.2.2.2.trans h.keep.2.2.2.2⟩;obtain⟨k,n,b1,A⟩:=h.keep.2.1 r c e fz B;obtain⟨v,y,b2,z⟩:=g.keep.2.1 r k e fz n;refine⟨v,y,b2.trans b1,λo I=>(z o λj=>?_).trans (A o I)⟩;rcases h.wnew r o j with j|j
  all_goals simp_all
 cmono r o q:=g.cmono r o (h.cmono r o q)
 cnew r o q:=by
  rcases g.cnew r o q with q|j|w;exact h.cnew r o q
  ·rcases h.wnew r o j with j|w
   all_goals simp_all
  exact .inr (.inr (zQ1 h.keep.1 w))
 wnew r o j:=by
  rcases g.wnew r o j with j|w;exact h.wnew r o j;exact .inr (zQ1 h.keep.1 w)
 len:=zQ1 h.len g.len
 box b cs hb:=by obtain⟨⟨k,n,J⟩,M⟩:=h.box b cs hb;obtain⟨⟨v,y,K⟩,L⟩:=g.box b k n;simp_all
 arr b wm esz rows hb:=by obtain⟨C,G,n,b1,k,A⟩:=h.arr b wm esz rows hb;obtain⟨E,H,y,b2,v,z⟩:=g.arr b C esz G n;exact⟨E,H,y,λe=>b1 (b2 e),zQ1 k v,λe=>(z (by omega)).trans (A (by omega))⟩
theorem Inv.cfix{s0 s:Sn}(hi:Inv s0)(t:aZ s0 s){r o v}(hc:s0.g.C r o)(hv:cellAt s0.w r o=some v):cellAt s.w r o=some v:=
 t.keep.cell (fun⟨b,e⟩=>(hi.const r o hc).2 b e) hv
theorem J0i.mono{s0 s:Sn}(hi:Inv s0)(t:aZ s0 s){x v}(h:J0i s0.w s0.g.C x v):J0i s.w s.g.C x v:=by
 induction h with
 |b x=>exact .b x
 |i k n=>exact .i k n
 |s l=>exact .s l
 |np=>exact .np
 |nf=>exact .nf
 |sl0 esz a cap=>exact .sl0 esz a cap
 |sl esz rows r o cap vals h1 h2 q _ ih=>exact .sl esz rows r o cap vals h1 h2 (λi j row x e y=>⟨t.cmono _ _ (q i j row x e y).1,hi.cfix t (q i j row x e y).1 (q i j row x e y).2⟩) ih
 |slc esz rows a _ ih=>exact .slc esz rows a ih
theorem NE.mono{s0 s:Sn}(t:aZ s0 s){b}(h:NE s0.σ b):NE s.σ b:=by obtain⟨cs,h⟩:=h;obtain⟨⟨cs',e,_⟩,_⟩:=t.box b cs h;exact⟨cs',e⟩
theorem JJ.mono{s0 s:Sn}(hi:Inv s0)(t:aZ s0 s){x v}(h:JJ s0 x v):JJ s x v:=by
 induction h with
 |p c v h=>exact .p c v (h.mono hi t)
 |data cs vs h1 h2=>exact .data cs vs h1 λi x v w y=>(h2 i x v w y).mono hi t
 |agg cs vs h1 h2 _ ih=>exact .agg cs vs h1 h2 ih
 |tup cs vs h1 _ ih=>exact .tup cs vs h1 ih
 |ptr b off r o h1 h2=>obtain⟨cs,q⟩:=h2;exact .ptr b off r o ((t.box b cs q).2.trans h1) (.mono t ⟨cs,q⟩)
 |cp cs off r o vals h1 h2=>exact .cp cs off r o vals (λj x w=>⟨t.cmono _ _ (h1 j x w).1,hi.cfix t (h1 j x w).1 (h1 j x w).2⟩) λj x w=>(h2 j x w).mono hi t
 |slr b i n v wm esz rows z h1 h2 q=>
  obtain⟨wm',rows',a,_,c,d⟩:=t.arr b wm esz rows h1;refine .slr b i n v wm' esz rows' z a (zQ1 h2 c) λe=>?_;have B:rows'.length=rows.length:=by omega
  rcases q (by omega)with⟨m,H,L,y⟩|⟨r,cap,D,A,fz,m,y,g,E,K⟩;exact .inl ⟨(d B).trans m,H,L,y⟩;obtain⟨c',C,I,_⟩:=t.keep.2.1 r D A fz E;exact .inr ⟨r,cap,c',A,fz,(d B).trans m,y,g,C,by omega⟩
 |ep b ext i off v wm esz rows z h1 h2 q=>
  obtain⟨wm',rows',a,_,c,d⟩:=t.arr b wm esz rows h1;refine .ep b ext i off v wm' esz rows' z a (zQ1 h2 c) λe M=>?_;grind
 |pre b n k v wm esz rows z h1 h2 J q=>
  obtain⟨wm',rows',a,_,c,d⟩:=t.arr b wm esz rows h1;refine .pre b n k v wm' esz rows' z a (zQ1 h2 c) J λe=>?_;have B:rows'.length=rows.length:=by omega
  rcases q (by omega)with h|⟨r,cap,D,A,fz,m,y,g,E,K⟩;exact .inl h;obtain⟨c',C,I,_⟩:=t.keep.2.1 r D A fz E;exact .inr ⟨r,cap,c',A,fz,(d B).trans m,y,g,C,by omega⟩
 |fn f first caps fs cs h1 h2 _ _ F G=>exact .fn f first caps fs cs h1 h2 F G
 |unk x=>exact .unk x
theorem nO{s0 s:Sn}(hi:Inv s0)(t:aZ s0 s)(D:Nat->Prop)
  (same: ∀b,¬D b->s.σ[b]?=s0.σ[b]?/\s.g.μ b=s0.g.μ b)
  (n: ∀b r o v,¬D b->Wr1 s0 b r o->cellAt s0.w r o=some v->cellAt s.w r o=some v)
  (R: ∀b cs,D b->s.σ[b]?=some (.box cs)->MY s b cs)
  (T: ∀b wm esz rows,D b->s.σ[b]?=some (.arr wm esz rows)->MM s b wm esz rows)
  (P: ∀b1 b2 r o,D b1->Wr1 s b1 r o->Wr1 s b2 r o->b1=b2)
  (q: ∀r o,s.g.C r o->r<s.w.heap.size)
  (K: ∀r o b,s.g.C r o->D b-> ¬Wr1 s b r o)
  (N: ∀r o b,s.g.C r o-> ¬s0.g.C r o-> ¬D b-> ¬Wr1 s0 b r o):Inv s:=by
 have wr: ∀b r o,¬D b->(Wr1 s b r o↔Wr1 s0 b r o):=(by intro b r o h;obtain⟨h1,h2⟩:=same b h;grind [Wr1]);have cells: ∀(r:Nat) c e fz,s0.w.heap[r]?=some (.cells c e fz)-> ∃c',s.w.heap[r]?=some (.cells c' e fz)/\c'.size=c.size/\ ∀o v,cellAt s.w r o=some v->c'[o]?=some v:=(by intro r c e fz k;obtain⟨c',h1,h2,_⟩:=t.keep.2.1 r c e fz k;grind [jB]);refine⟨?_,?_,?_,?_⟩;intro b cs y;by_cases h:D b;simp_all;obtain⟨h1,h2⟩:=same b h;obtain⟨r,o,c,e,fz,m,F,hl,G,hf⟩:=hi.box b cs (h1▸y);obtain⟨c',A,Q,B⟩:=cells r c e fz F;refine⟨r,o,c',e,fz,h2.trans m,A,by omega,λi x H=>?_,hf⟩;obtain⟨v,U,k,J⟩:=G i x H;refine⟨v,B _ _ (n b r (o+i) v h ?_ (by grind [jB])),k.mono hi t,J⟩;grind [Wr1];intro b wm esz rows y;by_cases h:D b;grind;obtain⟨h1,h2⟩:=same b h;rcases hi.arr b wm esz rows (h1▸y)with⟨m,k⟩|⟨r,c,e,fz,m,F,E,hl,G,hf⟩;exact .inl ⟨h2.trans m,k⟩;obtain⟨c',A,Q,B⟩:=cells r c e fz F;refine .inr ⟨r,c',e,fz,h2.trans m,A,E,by omega,λi j row x L O=>?_,Q▸hf⟩;obtain⟨⟨v,U,k⟩,z⟩:=G i j row x L O;refine⟨⟨v,B _ _ ?_,k.mono hi t⟩,λe=>t.cmono _ _ (z e)⟩;cases wm with
 |true=>
  refine n b r _ v h ?_ (by grind [jB]);grind [Wr1]
 |false=>exact hi.cfix t (z rfl) (by grind [jB])
 intro b1 b2 r o h1 h2;by_cases M:D b1;grind;by_cases I:D b2;grind;exact hi.apart b1 b2 r o ((wr b1 r o M).1 h1) ((wr b2 r o I).1 h2);intro r o z;refine⟨q r o z,λb y=>?_⟩;by_cases h:D b;simp_all;by_cases S:s0.g.C r o;exact(hi.const r o S).2 b ((wr b r o h).1 y);simp_all
end Go.Am
end
section
namespace Go.Am
theorem gZ{σ:List Blk}{b:Nat}{x y:Blk}(h:σ[b]?=some x):(σ.set b y)[b]?=some y:=by
 grind
theorem rP{σ:List Blk}{b c:Nat}{y:Blk}(h:b≠c):(σ.set b y)[c]?=σ[c]?:=by simp[h]
theorem PY{s0:Sn}(hi:Inv s0){w':World}(hh:w'.heap=s0.w.heap)(ho:w'.os=s0.w.os)(hp:w'.output=s0.w.output):
  Inv ⟨s0.σ,s0.g,w'⟩/\aZ s0 ⟨s0.σ,s0.g,w'⟩:=by
 have n: ∀r o,cellAt w' r o=cellAt s0.w r o:=λr o=>by grind [cellAt]
 have t:aZ s0 ⟨s0.σ,s0.g,w'⟩:=by
  refine⟨⟨by simp_all,λr c e fz h=>⟨c,by simp_all,rfl,λ_ _=>rfl⟩,λr x h _=>by simp_all,ho,hp⟩,λ_ _ h=>h,λ_ _ h=>.inl h,λr o ⟨b,k⟩=>.inl ⟨b,k⟩,zQ0 _,λ_ cs h=>⟨⟨cs,h,rfl⟩,rfl⟩,
   λ_ wm _ rows h=>⟨wm,rows,h,id,zQ0 _,λ_=>rfl⟩⟩
 exact⟨nO hi t (λ_=>False) (λ_ _=>⟨rfl,rfl⟩) (λ_ r o v _ _ h=>by simp_all) (λ_ _ h=>h.elim) (λ_ _ _ _ h=>h.elim)
  (λ_ _ _ _ h=>h.elim) (λr o h=>by show r<w'.heap.size;rw[hh];exact(hi.const r o h).1) (λ_ _ _ _ h=>h.elim) (λ_ _ _ h j=>(j h).elim),t⟩
theorem QC{W:Nat->Nat->Prop}{w w':World}{x:Obj}(hh:w'.heap=w.heap.push x)(ho:w'.os=w.os)(hp:w'.output=w.output):oS W w w':=by
 have g: ∀(r:Nat) y,w.heap[r]?=some y->w'.heap[r]?=some y:=(by grind);exact⟨by rw[hh];simp,λr c e fz h=>⟨c,g r _ h,rfl,λ_ _=>rfl⟩,λr y h _=>g r y h,ho,hp⟩
theorem KJ{w w':World}{x:Obj}(hh:w'.heap=w.heap.push x):w'.heap[w.heap.size]?=some x:=by rw[hh];simp
theorem eu{w w':World}{x:Obj}(hh:w'.heap=w.heap.push x){r o v}(h:cellAt w r o=some v):cellAt w' r o=some v:=
 (QC (W:=λ_ _=>False) (w:=w) (w':={w' with os:=w.os,output:=w.output}) hh rfl rfl).cell (λh=>h) h
def eZ(g:Gh)(new:Nat)(x:Option (Nat×Nat)):Gh:=⟨λb=>if b=new then x else g.μ b,g.C⟩
theorem pg{s0 s:Sn}{new:Nat}{blk:Blk}(hd:s0.σ[new]?=some .dead)(hs:s.σ=s0.σ.set new blk)(x:Option (Nat×Nat))(hg:s.g.μ=(eZ s0.g new x).μ):
  s0.σ.length<=s.σ.length/\(∀b cs,s0.σ[b]?=some (.box cs)->(∃cs',s.σ[b]?=some (.box cs')/\cs'.length=cs.length)/\s.g.μ b=s0.g.μ b)/\
  (∀b wm esz rows,s0.σ[b]?=some (.arr wm esz rows)-> ∃wm' rows',s.σ[b]?=some (.arr wm' esz rows')/\(wm'=true->wm=true)/\
  rows.length<=rows'.length/\(rows'.length=rows.length->s.g.μ b=s0.g.μ b)):=by
 have n: ∀b y,s0.σ[b]?=some y->y≠.dead->s.σ[b]?=some y/\s.g.μ b=s0.g.μ b:=by
  intro b y j k;have h:new≠b:=by grind
  rw[hs,rP h,hg];exact⟨j,if_neg (λe=>h e.symm)⟩
 simp_all
def JM1(s0:Sn)(c:Array Value):Blk->Prop
 | .box cs=>cs.length<=c.size/\ ∀(i:Nat) x,cs[i]?=some x-> ∃v,c[i]?=some v/\JJ s0 x v/\v.oneCell'=true
 | .arr true esz rows=>(∀row∈rows,row.length=esz)/\rows.length*esz<=c.size/\
  ∀(i j:Nat) row x,rows[i]?=some row->row[j]?=some x-> ∃v,c[i*esz+j]?=some v/\J0i s0.w s0.g.C x v
 |_=>False
theorem OS{s0:Sn}(hi:Inv s0){new:Nat}(hd:s0.σ[new]?=some .dead){blk:Blk}{c:Array Value}{e:TypeId}{fz:Nat×Nat}{w':World}
  (hh:w'.heap=s0.w.heap.push (.cells c e fz)) (ho:w'.os=s0.w.os) (hp:w'.output=s0.w.output) (hf:BM fz 0 c.size) (E: ∀wm esz rows,blk=.arr wm esz rows->esz≠1-> ¬(fz.1<=c.size/\c.size<fz.2)) (hb:JM1 s0 c blk):
  Inv ⟨s0.σ.set new blk,eZ s0.g new (some (s0.w.heap.size,0)),w'⟩/\aZ s0 ⟨s0.σ.set new blk,eZ s0.g new (some (s0.w.heap.size,0)),w'⟩:=by
 have q:(s0.σ.set new blk)[new]?=some blk:=gZ hd;have wr: ∀b r o,b≠new->(Wr1 ⟨s0.σ.set new blk,eZ s0.g new (some (s0.w.heap.size,0)),w'⟩ b r o↔Wr1 s0 b r o):=by simp_all [Wr1,eZ,Ne.symm]
 have N: ∀r o,Wr1 ⟨s0.σ.set new blk,eZ s0.g new (some (s0.w.heap.size,0)),w'⟩ new r o->r=s0.w.heap.size:=(by intro r o h;unfold Wr1 at h;simp only[q,eZ]at h;grind);have O: ∀b r o,Wr1 s0 b r o->r<s0.w.heap.size:=by
  intro b r o h;unfold Wr1 at h;split at h;rename_i cs hb;obtain⟨r',P,c',e',B,m,k,_⟩:=hi.box b cs hb;grind
  ·rename_i hb;obtain⟨K,I⟩:=h;rcases hi.arr b _ _ _ hb with⟨m,_⟩|⟨r',c',e',B,m,k,_⟩
   all_goals grind
  ·rename_i hb;obtain⟨K,I,_⟩:=h;rcases hi.arr b _ _ _ hb with⟨m,_⟩|⟨r',c',e',B,m,k,_⟩
   all_goals grind
  exact h.elim
 have t:aZ s0 ⟨s0.σ.set new blk,eZ s0.g new (some (s0.w.heap.size,0)),w'⟩:=(by obtain⟨G,J,H⟩:=pg (s:=⟨s0.σ.set new blk,eZ s0.g new (some (s0.w.heap.size,0)),w'⟩) hd rfl (some (s0.w.heap.size,0)) rfl;refine⟨QC hh ho hp,λ_ _ h=>h,λ_ _ h=>.inl h,?_,G,J,H⟩;rintro r o ⟨b,hb⟩;by_cases e:b=new;grind;exact .inl ⟨b,(wr b r o e).1 hb⟩);refine⟨nO hi t (λb=>b=new) (λb A=>⟨rP (Ne.symm A),if_neg A⟩) (λb r o v _ _ h=>eu hh h) ?_ ?_ ?_ ?_ ?_ ?_,t⟩;rintro b cs rfl n;rw[q]at n;injection n with n;subst n;obtain⟨h1,h2⟩:=hb;refine⟨s0.w.heap.size,0,c,e,fz,if_pos rfl,KJ hh,by omega,λi x C=>?_,λo _ hl=>hf o (zQ2 _) (by omega)⟩;obtain⟨v,F,y,D⟩:=h2 i x C;exact⟨v,by simp_all,y.mono hi t,D⟩;rintro b wm esz rows rfl n;rw[q]at n;injection n with n;subst n;cases wm with
 |false=>exact hb.elim
 |true=>obtain⟨h1,h2,L⟩:=hb;refine .inr ⟨s0.w.heap.size,c,e,fz,if_pos rfl,KJ hh,h1,h2,λi j row x y C=>⟨?_,λh=>by cases h⟩,hf,E _ _ _ rfl⟩;obtain⟨v,F,y⟩:=L i j row x y C;exact⟨v,F,y.mono hi t⟩
 grind;intro r o z;show r<w'.heap.size;rw[hh];have:=(hi.const r o z).1;simp;omega;rintro r o b z rfl h;have:=(hi.const r o z).1;grind;exact λr o b z M=>(M z).elim
theorem uZ{s0:Sn}(hi:Inv s0): ∀b r o,Wr1 s0 b r o->r<s0.w.heap.size:=by
 intro b r o h;unfold Wr1 at h;split at h;rename_i cs e;obtain⟨r',q,c',e',g,m,k,_⟩:=hi.box b cs e;grind
 ·rename_i e;obtain⟨j,n⟩:=h;rcases hi.arr b _ _ _ e with⟨m,_⟩|⟨r',c',e',g,m,k,_⟩
  all_goals grind
 ·rename_i e;obtain⟨j,n,_⟩:=h;rcases hi.arr b _ _ _ e with⟨m,_⟩|⟨r',c',e',g,m,k,_⟩
  all_goals grind
 exact h.elim
theorem OY{s0:Sn}(hi:Inv s0){new:Nat}(hd:s0.σ[new]?=some .dead)(esz:Nat):
  Inv ⟨s0.σ.set new (.arr true esz []),eZ s0.g new none,s0.w⟩/\aZ s0 ⟨s0.σ.set new (.arr true esz []),eZ s0.g new none,s0.w⟩:=by
 have j:(s0.σ.set new (Blk.arr true esz []))[new]?=some (.arr true esz []):=gZ hd;have wr: ∀b r o,b≠new->(Wr1 ⟨s0.σ.set new (.arr true esz []),eZ s0.g new none,s0.w⟩ b r o↔Wr1 s0 b r o):=by simp_all [Wr1,eZ,Ne.symm]
 have D: ∀r o,¬Wr1 ⟨s0.σ.set new (.arr true esz []),eZ s0.g new none,s0.w⟩ new r o:=by simp_all [Wr1,eZ]
 have t:aZ s0 ⟨s0.σ.set new (.arr true esz []),eZ s0.g new none,s0.w⟩:=(by obtain⟨x,A,y⟩:=pg (s:=⟨s0.σ.set new (.arr true esz []),eZ s0.g new none,s0.w⟩) hd rfl none rfl;refine⟨.refl _ _,λ_ _ h=>h,λ_ _ h=>.inl h,?_,x,A,y⟩;rintro r o ⟨b,B⟩;by_cases e:b=new;simp_all;exact .inl ⟨b,(wr b r o e).1 B⟩);refine⟨nO hi t (λb=>b=new) (λb k=>⟨rP (Ne.symm k),if_neg k⟩) (λb r o v _ _ h=>h) ?_ ?_ ?_ ?_ ?_ ?_,t⟩;simp_all;rintro b wm z rows rfl n;rw[j]at n;cases n;exact .inl ⟨if_pos rfl,rfl⟩;simp_all;exact λr o q=>(hi.const r o q).1;simp_all;exact λr o b q C=>(C q).elim
def oO(g:Gh)(p:Nat->Nat->Prop):Gh:=⟨g.μ,λr o=>g.C r o\/p r o⟩
theorem JF4{s0:Sn}(hi:Inv s0){x:Obj}{w':World}
  (hh:w'.heap=s0.w.heap.push x) (ho:w'.os=s0.w.os) (hp:w'.output=s0.w.output):
  Inv ⟨s0.σ,oO s0.g λr _=>r=s0.w.heap.size,w'⟩/\aZ s0 ⟨s0.σ,oO s0.g λr _=>r=s0.w.heap.size,w'⟩:=by
 have t:aZ s0 ⟨s0.σ,oO s0.g λr _=>r=s0.w.heap.size,w'⟩:=by
  refine⟨QC hh ho hp,λ_ _ h=>.inl h,λr o h=>?_,λr o h=>.inl h,zQ0 _,λ_ cs h=>⟨⟨cs,h,rfl⟩,rfl⟩,
   λ_ wm _ rows h=>⟨wm,rows,h,id,zQ0 _,λ_=>rfl⟩⟩
  rcases h with h|h
  all_goals simp_all
 refine⟨nO hi t (λ_=>False) (λ_ _=>⟨rfl,rfl⟩) (λb r o v _ _ h=>eu hh h) (λ_ _ h=>h.elim) (λ_ _ _ _ h=>h.elim)
  (λ_ _ _ _ h=>h.elim) ?_ (λ_ _ _ _ h=>h.elim) ?_,t⟩
 intro r o e;show r<w'.heap.size;rw[hh];rcases e with e|e;have:=(hi.const r o e).1;simp;omega;simp;omega;intro r o b e j _ h;rcases e with e|e;exact j e;have:=uZ hi b r o h;omega
structure Put(r:Nat)(o:Nat)(vs:List Value)(w w':World):Prop where
 there: ∃c e fz c',w.heap[r]?=some (.cells c e fz)/\w'.heap[r]?=some (.cells c' e fz)/\c'.size=c.size/\o+vs.length<=c.size/\
  (∀(j:Nat) v,vs[j]?=some v->c'[o+j]?=some v)/\ ∀k,(k<o\/o+vs.length<=k)->c'[k]?=c[k]?
 rest: ∀r':Nat,r'≠r->w'.heap[r']?=w.heap[r']?
 size:w'.heap.size=w.heap.size
 os:w'.os=w.os
 output:w'.output=w.output
theorem Put.keep{W:Nat->Nat->Prop}{r o vs w w'}(h:Put r o vs w w')(hw: ∀k,o<=k->k<o+vs.length->W r k):oS W w w':=by
 obtain⟨c,e,fz,c',h1,h2,v,_,_,q⟩:=h.there;refine⟨Nat.le_of_eq h.size.symm,λr' j z n g=>?_,λr' x g y=>?_,h.os,h.output⟩;by_cases e':r'=r;grind;exact⟨j,by rw[h.rest r' e'];exact g,rfl,λ_ _=>rfl⟩;by_cases e':r'=r;grind;rw[h.rest r' e'];exact g
theorem Put.cell{r o vs w w'}(h:Put r o vs w w'){r' k v}(hv:cellAt w r' k=some v)(hn:r'≠r\/k<o\/o+vs.length<=k):cellAt w' r' k=some v:=by
 obtain⟨c,e,fz,c',h1,h2,j,_,_,g⟩:=h.there;by_cases e':r'=r;grind [jB];unfold cellAt;rw[h.rest r' e'];exact hv
inductive ZV:Blk->Blk->Prop where|box (cs cs':List AV):cs'.length=cs.length->ZV (.box cs) (.box cs')|arr (esz:Nat) (rows rows':List (List PV)):rows'.length=rows.length->ZV (.arr true esz rows) (.arr true esz rows')
theorem d8{s0:Sn}(hi:Inv s0){b:Nat}{z blk:Blk}{r o:Nat}{vs:List Value}{w':World}(hb:s0.σ[b]?=some z)
  (q:Put r o vs s0.w w') (hw: ∀k,o<=k->k<o+vs.length->Wr1 s0 b r k)
  (hk:ZV z blk)
  (A: ∀cs,blk=.box cs->(∀{x v},JJ s0 x v->JJ ⟨s0.σ.set b blk,s0.g,w'⟩ x v)->MY ⟨s0.σ.set b blk,s0.g,w'⟩ b cs)
  (B: ∀esz rows,blk=.arr true esz rows->(∀{x v},J0i s0.w s0.g.C x v->J0i w' s0.g.C x v)->MM ⟨s0.σ.set b blk,s0.g,w'⟩ b true esz rows):
  Inv ⟨s0.σ.set b blk,s0.g,w'⟩/\aZ s0 ⟨s0.σ.set b blk,s0.g,w'⟩:=by
 have n:(s0.σ.set b blk)[b]?=some blk:=gZ hb;have wr: ∀j r o,(Wr1 ⟨s0.σ.set b blk,s0.g,w'⟩ j r o↔Wr1 s0 j r o):=by
  intro j r o;by_cases e:j=b;subst e;unfold Wr1;simp only[n,hb];cases hk<;>simp_all
  grind [Wr1]
 have t:aZ s0 ⟨s0.σ.set b blk,s0.g,w'⟩:=by
  refine⟨q.keep λk h1 h2=>⟨b,hw k h1 h2⟩,λ_ _ h=>h,λ_ _ h=>.inl h,λr o ⟨j,h⟩=>.inl ⟨j,(wr j r o).1 h⟩,by simp,λj cs h=>?_,λj wm esz rows h=>?_⟩;by_cases e:j=b;subst e;rw[hb]at h;injection h with h;subst h;cases hk<;>simp_all
  grind;by_cases e:j=b;subst e;rw[hb]at h;injection h with h;subst h;cases hk<;>simp_all
  grind
 refine⟨nO hi t (λj=>j=b) (λj y=>⟨rP (Ne.symm y),rfl⟩) ?_ ?_ ?_ ?_ ?_ ?_ ?_,t⟩;intro j r' k v y F G;refine q.cell G ?_;rcases zQ3 k o with h|h;simp_all;rcases zQ3 k (o+vs.length)with E|E;refine .inl λe=>y ?_;subst e;exact hi.apart _ _ _ _ F (hw k h E);simp_all;rintro j cs rfl h;rw[n]at h;injection h with h;subst h;exact A _ rfl λh=>h.mono hi t;rintro j wm esz rows rfl h;rw[n]at h;injection h with h;subst h;cases hk with
 |arr _ _ rows' hl=>exact B _ _ rfl λh=>h.mono hi t
 rintro b1 b2 r o rfl h1 h2;exact hi.apart _ _ _ _ ((wr _ _ _).1 h1) ((wr _ _ _).1 h2);intro r o D;show r<w'.heap.size;rw[q.size];exact(hi.const r o D).1;rintro r o j D rfl h;exact(hi.const r o D).2 _ ((wr _ _ _).1 h);simp_all
end Go.Am
end
section
namespace Go.Am
theorem iY{a b n e:Nat}(h1:a<n)(h2:b<e):a*e+b<n*e:=by
 have h:(a+1)*e<=n*e:=zQ4 e h1;grind
theorem Jq{α:Type}{l:List α}{i:Nat}{x:α}(h:l[i]?=some x):i<l.length:=by
 grind
theorem QP{α:Type}{l:Array α}{i:Nat}{x:α}(h:l[i]?=some x):i<l.size:=by
 grind
theorem gL{α:Type}{l:List α}{i:Nat}{x:α}(h:l[i]?=some x):x∈l:=zQ5 h
def Frz(σ τ:List Blk):Prop:=(∀(b:Nat) wm esz rows,σ[b]?=some (Blk.arr wm esz rows)-> ∃wm',τ[b]?=some (Blk.arr wm' esz rows))/\(∀(b:Nat) x,σ[b]?=some x->(∀wm esz rows,x≠Blk.arr wm esz rows)->τ[b]?=some x)
theorem Frz.refl(σ):Frz σ σ:=⟨λ_ wm _ _ h=>⟨wm,h⟩,λ_ _ h _=>h⟩
theorem Frz.trans{a b c}(h:Frz a b)(g:Frz b c):Frz a c:=
 ⟨λn wm esz rows e=>let⟨wm',h1⟩:=h.1 n wm esz rows e;g.1 n wm' esz rows h1,λn x e j=>g.2 n x (h.2 n x e j) j⟩
theorem JD2{s0:Sn}(hi:Inv s0){b:Nat}{wm:Bool}{esz:Nat}{rows:List (List PV)}(hb:s0.σ[b]?=some (.arr wm esz rows)):
  ∃g',g'.μ=s0.g.μ/\Inv ⟨s0.σ.set b (.arr false esz rows),g',s0.w⟩/\aZ s0 ⟨s0.σ.set b (.arr false esz rows),g',s0.w⟩/\
   Frz s0.σ (s0.σ.set b (.arr false esz rows)):=by
 have y:(s0.σ.set b (.arr false esz rows))[b]?=some (.arr false esz rows):=gZ hb;have z:Frz s0.σ (s0.σ.set b (.arr false esz rows)):=by
  refine⟨λn wm' C rows' G=>?_,λn x G I=>?_⟩
  all_goals grind
 cases wm with
 |false=>
  have M:s0.σ.set b (.arr false esz rows)=s0.σ:=(by apply zQ6;grind);refine⟨s0.g,rfl,?_,?_,z⟩
  all_goals simp_all [aZ.refl]
 |true=>
  refine⟨oO s0.g λr o=>s0.g.μ b=some (r,0)/\o<rows.length*esz,rfl,?_⟩;have wr: ∀k r o,Wr1 ⟨s0.σ.set b (.arr false esz rows),oO s0.g λr o=>s0.g.μ b=some (r,0)/\o<rows.length*esz,s0.w⟩ k r o->Wr1 s0 k r o:=(by intro k r o h;by_cases e:k=b;subst e;unfold Wr1 at h⊢;simp only[y,hb]at h⊢;obtain⟨J,m,_⟩:=h;exact⟨J,m⟩;unfold Wr1 at h⊢;simp only[rP (Ne.symm e)]at h;exact h);have t:aZ s0 ⟨s0.σ.set b (.arr false esz rows),oO s0.g λr o=>s0.g.μ b=some (r,0)/\o<rows.length*esz,s0.w⟩:=(by refine⟨.refl _ _,λ_ _ h=>.inl h,λr o h=>?_,λr o ⟨k,h⟩=>.inl ⟨k,wr k r o h⟩,by simp,λk cs h=>?_,λk wm C rows' h=>?_⟩;rcases h with h|⟨h,_⟩;exact .inl h;refine .inr (.inl ⟨b,?_⟩);grind [Wr1];refine⟨⟨cs,z.2 k _ h (by simp),rfl⟩,rfl⟩;by_cases e:k=b;subst e;rw[hb]at h;injection h with h;injection h with h1 h2 h3;subst h1 h2 h3;exact⟨false,rows,y,by simp,zQ0 _,λ_=>rfl⟩;exact⟨wm,rows',by grind,id,zQ0 _,λ_=>rfl⟩);refine⟨nO hi t (λk=>k=b) (λk A=>⟨rP (Ne.symm A),rfl⟩) (λ_ _ _ _ _ _ h=>h) ?_ ?_ ?_ ?_ ?_ ?_,t,z⟩;simp_all;rintro k wm C rows' rfl h;rw[y]at h;cases h;rcases hi.arr _ _ _ _ hb with⟨m,F⟩|⟨r,c,e,fz,m,H,D,hl,I,hf⟩;exact .inl ⟨m,F⟩;refine .inr ⟨r,c,e,fz,m,H,D,hl,λi j row x B E=>?_,hf⟩;obtain⟨⟨v,L,F⟩,_⟩:=I i j row x B E;refine⟨⟨v,L,F.mono hi t⟩,λ_=>.inr ⟨m,?_⟩⟩;have h1:=Jq B;have h2:=Jq E;rw[D row (gL B)]at h2;simp_all [iY];rintro b1 b2 r o rfl h1 h2;exact hi.apart _ _ _ _ (wr _ _ _ h1) (wr _ _ _ h2)
  ·intro r o q;rcases q with q|⟨q,_⟩
   exact(hi.const r o q).1
   ·rcases hi.arr _ _ _ _ hb with⟨m,_⟩|⟨r',c,e,fz,m,H,_⟩
    all_goals grind
  rintro r o k q rfl h;rcases q with q|⟨q,K⟩;exact(hi.const r o q).2 _ (wr _ _ _ h);grind [Wr1];intro r o k q G A h;rcases q with q|⟨q,K⟩;exact G q;refine A (hi.apart _ _ r o h ?_);grind [Wr1]
def iS(s:Sn)(esz:Nat)(rows:List (List PV))(v:Value):Prop:= ∃a cap,v=.slice a rows.length cap/\rows.length<=cap/\(∀row∈rows,row.length=esz)/\(rows=[]\/ ∃r o,a=some ⟨r,o,none⟩/\ ∀(i j:Nat) row x,rows[i]?=some row->row[j]?=some x-> ∃u,cellAt s.w r (o+i*esz+j)=some u/\J0i s.w s.g.C x u)
theorem iS.of_sl{s:Sn}{esz rows v}(h:J0i s.w s.g.C (.sl esz rows) v):iS s esz rows v:=by
 cases h with
 |sl0 _ a cap=>exact⟨a,cap,rfl,zQ2 _,(λ_ h=>by cases h),.inl rfl⟩
 |sl _ _ r o cap vals h1 h2 q n=>exact⟨_,cap,rfl,h1,h2,.inr ⟨r,o,rfl,λi j row x e k=>⟨_,(q i j row x e k).2,n i j row x e k⟩⟩⟩
theorem iS.of_slr{s:Sn}(hi:Inv s){b i n v wm esz rows}(h:JJ s (.slr b i n) v)(hb:s.σ[b]?=some (.arr wm esz rows))(e:i+n=rows.length):
  iS s esz (rows.drop i) v:=by
 cases h with
 |slr _ _ _ _ wm' z rows' _ h1 h2 B=>
  rw[hb]at h1;injection h1 with h1;injection h1 with a1 a2 a3;subst a1 a2 a3;have hl:(rows.drop i).length=n:=by simp;omega
  rcases B e with⟨m,q,C,w⟩|⟨r,cap,c,J,fz,m,w,y,G,H⟩;subst q C;have:rows=[]:=by grind
  subst this;exact⟨none,0,by simp[w],by simp,by simp,.inl rfl⟩;rcases hi.arr b wm esz rows hb with⟨g,_⟩|⟨r',c',e',E,g,D,o,hlen,I,_⟩;simp_all;rw[m]at g;injection g with g;injection g with g _;subst g;refine⟨some ⟨r,i*esz,none⟩,cap,by simp_all,by omega,λrow A=>o row (zQ7 A),.inr ⟨r,i*esz,rfl,λk j row x F K=>?_⟩⟩;grind [jB]
theorem iS.mono{s0 s:Sn}(hi:Inv s0)(t:aZ s0 s){esz rows v}(h:iS s0 esz rows v)(hc: ∀r o u,cellAt s0.w r o=some u->cellAt s.w r o=some u):iS s esz rows v:=by obtain⟨a,cap,h1,h2,q,g⟩:=h;refine⟨a,cap,h1,h2,q,g.imp id ?_⟩;rintro⟨r,o,A,y⟩;exact⟨r,o,A,λi j row x n z=>let⟨u,k,e⟩:=y i j row x n z;⟨u,hc _ _ _ k,e.mono hi t⟩⟩
theorem ft{s:Sn}{esz:Nat}{rows:List (List PV)}{v:Value}{a:Option Addr}{cap:Nat}(hv:v=.slice a rows.length cap)(e:rows.length<=cap)
  (h: ∀row∈rows,row.length=esz)
  (hx:rows=[]\/ ∃r o,a=some ⟨r,o,none⟩/\ ∀(i j:Nat) row x,rows[i]?=some row->row[j]?=some x->s.g.C r (o+i*esz+j)/\ ∃u,cellAt s.w r (o+i*esz+j)=some u/\J0i s.w s.g.C x u):
  J0i s.w s.g.C (.sl esz rows) v:=by
 subst hv;rcases hx with rfl|⟨r,o,rfl,hx⟩;exact .sl0 _ _ _
 ·refine .sl esz rows r o cap (λi j=>(cellAt s.w r (o+i*esz+j)).getD .nilFunc) e h (λi j row x k n=>?_) λi j row x k n=>?_
  all_goals grind
theorem pa{s0:Sn}(hi:Inv s0){b i n:Nat}{v:Value}{wm:Bool}{esz:Nat}{rows:List (List PV)}(h:JJ s0 (.slr b i n) v)(hb:s0.σ[b]?=some (.arr wm esz rows))
  (e:i+n=rows.length):
  ∃g',Inv ⟨s0.σ.set b (.arr false esz rows),g',s0.w⟩/\aZ s0 ⟨s0.σ.set b (.arr false esz rows),g',s0.w⟩/\
   Frz s0.σ (s0.σ.set b (.arr false esz rows))/\J0i s0.w g'.C (.sl esz (rows.drop i)) v:=by
 obtain⟨g',R,hi',t,hf⟩:=JD2 hi hb;refine⟨g',hi',t,hf,?_⟩;have A:=h.mono hi t;have q:(s0.σ.set b (.arr false esz rows))[b]?=some (.arr false esz rows):=gZ hb;obtain⟨a,cap,h1,h2,K,H⟩:=iS.of_slr hi' A q e;refine ft (s:=⟨s0.σ.set b (.arr false esz rows),g',s0.w⟩) h1 h2 K (H.imp id ?_);rintro⟨r,o,rfl,L⟩;refine⟨r,o,rfl,λk j row x G M=>⟨?_,L k j row x G M⟩⟩;cases A with
 |slr _ _ _ _ wm' y rows' _ I W J=>
  have g:(s0.σ.set b (.arr false esz rows))[b]?=some (.arr wm' y rows'):=I;rw[q]at g;injection g with g;injection g with a1 a2 a3;subst a1 a2 a3;rcases J e with⟨m,Q,U,z⟩|⟨r',B,c,V,fz,m,z,D,S,T⟩;simp_all
  ·rw[h1]at z;injection z with v1 v2 v3;injection v1 with v1;injection v1 with v1 v4;subst v1 v4
   rcases hi'.arr b false esz rows q with⟨E,_⟩|⟨r',c',e',P,E,O,F,hlen,N,_⟩
   all_goals grind
end Go.Am
end
section
namespace Go.Am
theorem vV{α:Type}{a b:List α}{i:Nat}{x:α}(h:(a++b)[i]?=some x):a[i]?=some x\/(a.length<=i/\b[i-a.length]?=some x):=by
 grind
def kb(g:Gh)(wm:Bool)(r lo hi:Nat):Gh:=oO g λr' o=>wm=false/\r'=r/\lo<=o/\o<hi
theorem JIA{s0:Sn}(hi:Inv s0){b:Nat}{wm:Bool}{esz:Nat}{rows new:List (List PV)}{r:Nat}{vs:List Value}{w':World}
  (hb:s0.σ[b]?=some (.arr wm esz rows)) (hm:s0.g.μ b=some (r,0)) (N: ∀row∈new,row.length=esz)
  (A:Put r (rows.length*esz) vs s0.w w') (hlen:vs.length=new.length*esz)
  (hx: ∀(i j:Nat) row x,new[i]?=some row->row[j]?=some x-> ∃u,vs[i*esz+j]?=some u/\J0i s0.w s0.g.C x u):
  Inv ⟨s0.σ.set b (.arr wm esz (rows++new)),kb s0.g wm r (rows.length*esz) ((rows.length+new.length)*esz),w'⟩/\
  aZ s0 ⟨s0.σ.set b (.arr wm esz (rows++new)),kb s0.g wm r (rows.length*esz) ((rows.length+new.length)*esz),w'⟩:=by
 have B:(s0.σ.set b (.arr wm esz (rows++new)))[b]?=some (.arr wm esz (rows++new)):=gZ hb;have V:(rows.length+new.length)*esz=rows.length*esz+new.length*esz:=zQ8 _ _ _;generalize J:(⟨s0.σ.set b (.arr wm esz (rows++new)),kb s0.g wm r (rows.length*esz) ((rows.length+new.length)*esz),w'⟩:Sn)=s;have H:s.σ=s0.σ.set b (.arr wm esz (rows++new)):=by rw[<-J]
 have W:s.g.μ=s0.g.μ:=by rw[<-J];rfl
 have D: ∀r' o,s.g.C r' o↔s0.g.C r' o\/(wm=false/\r'=r/\rows.length*esz<=o/\o<(rows.length+new.length)*esz):=by rw[<-J];exact λ_ _=>Iff.rfl
 have O:s.w=w':=by rw[<-J]
 have wr: ∀n r' o,Wr1 s n r' o->Wr1 s0 n r' o:=by
  intro n r' o h;by_cases e:n=b;subst e;unfold Wr1 at h⊢;rw[H,B]at h;rw[hb];cases wm<;>grind
  grind [Wr1]
 have y: ∀o,rows.length*esz<=o->Wr1 s0 b r o:=by intro o ho;unfold Wr1;rw[hb];cases wm<;>simp_all
 have t:aZ s0 s:=(by refine⟨?_,λr o h=>(D r o).2 (.inl h),λr' o h=>?_,λr o ⟨n,h⟩=>.inl ⟨n,wr n r o h⟩,by rw[H];simp,λn cs h=>?_,λn wm' L rows' h=>?_⟩;rw[O];exact A.keep λk h1 _=>⟨b,y k h1⟩;rcases(D r' o).1 h with h|⟨_,e,h,_⟩;exact .inl h;subst e;exact .inr (.inl ⟨b,y o h⟩);grind;by_cases e:n=b;subst e;rw[hb]at h;injection h with h;injection h with h1 h2 T;subst h1 h2 T;grind;grind);refine⟨nO hi t (λn=>n=b) (λn E=>⟨by grind,by rw[W]⟩) ?_ ?_ ?_ ?_ ?_ ?_ ?_,t⟩;intro n r' k v E S U;rw[O];refine A.cell U ?_;by_cases G:r'=r;subst G;rcases zQ3 k (rows.length*esz)with h|h;simp_all;exact(E (hi.apart _ _ _ _ S (y k h))).elim;simp_all;simp_all;rintro n wm' L rows' rfl h;rw[H,B]at h;cases h;obtain⟨c,e,fz,c',Y,p2,p3,p4,p5,p6⟩:=A.there;rcases hi.arr _ _ _ _ hb with⟨m,_⟩|⟨r',c0,e0,a0,m,I,M,hl,Q,hf⟩;simp_all;rw[hm]at m;injection m with m;injection m with m _;subst m;rw[Y]at I;injection I with I;injection I with q1 q2 q3;subst q1 q2 q3;refine .inr ⟨r,c',e,fz,by simp_all,by simp_all,?_,?_,?_,?_⟩;grind;simp_all;intro i j row x q F;rcases vV q with q|⟨a1,q⟩;obtain⟨⟨v,U,P⟩,z⟩:=Q i j row x q F;have h1:=Jq q;have h2:=Jq F;rw[M row (gL q)]at h2;have:=iY h1 h2;exact⟨⟨v,by simp_all,P.mono hi t⟩,λe=>(D _ _).2 (.inl (z e))⟩;obtain⟨u,hu,P⟩:=hx _ j row x q F;have h1:=Jq q;have h2:=Jq F;rw[N row (gL q)]at h2;have T:=iY h1 h2;have h4:i*esz+j=rows.length*esz+((i-rows.length)*esz+j):=(by grind [Nat.add_sub_cancel']);refine⟨⟨u,by simp_all,P.mono hi t⟩,λe=>(D _ _).2 (.inr ⟨e,rfl,by omega,by simp_all⟩)⟩;simp_all;rintro b1 b2 r o rfl h1 h2;exact hi.apart _ _ _ _ (wr _ _ _ h1) (wr _ _ _ h2);intro r' o z;rw[O,A.size];rcases(D r' o).1 z with z|⟨_,e,_⟩;exact(hi.const r' o z).1;subst e;exact uZ hi b _ _ (y _ (zQ0 _));rintro r' o n z rfl h;rcases(D r' o).1 z with z|⟨e,G,K,R⟩;exact(hi.const r' o z).2 _ (wr _ _ _ h);subst e G;unfold Wr1 at h;rw[H,B]at h;grind;intro r' o n z Z E h;rcases(D r' o).1 z with z|⟨e,G,K,R⟩;exact Z z;subst G;exact E (hi.apart _ _ _ o h (y o K))
theorem JIr{s0:Sn}(hi:Inv s0){b esz:Nat}{rows rows':List (List PV)}{r o:Nat}{vs:List Value}{w':World}
  (hb:s0.σ[b]?=some (.arr true esz rows)) (hm:s0.g.μ b=some (r,0)) (J: ∀row∈rows',row.length=esz) (O:rows.length<=rows'.length) (y:Put r o vs s0.w w')
  (hx: ∀(c c':Array Value),(∀(i j:Nat) row x,rows[i]?=some row->row[j]?=some x-> ∃u,c[i*esz+j]?=some u/\J0i s0.w s0.g.C x u)->c'.size=c.size->(∃e fz,s0.w.heap[r]?=some (.cells c e fz))->
   (∀(j:Nat) v,vs[j]?=some v->c'[o+j]?=some v)->(∀k,(k<o\/o+vs.length<=k)->c'[k]?=c[k]?)->
   rows'.length*esz<=c.size/\ ∀(i j:Nat) row x,rows'[i]?=some row->row[j]?=some x-> ∃u,c'[i*esz+j]?=some u/\J0i s0.w s0.g.C x u):
  Inv ⟨s0.σ.set b (.arr true esz rows'),s0.g,w'⟩/\aZ s0 ⟨s0.σ.set b (.arr true esz rows'),s0.g,w'⟩:=by
 have q:(s0.σ.set b (.arr true esz rows'))[b]?=some (.arr true esz rows'):=gZ hb;generalize K:(⟨s0.σ.set b (.arr true esz rows'),s0.g,w'⟩:Sn)=s;have E:s.σ=s0.σ.set b (.arr true esz rows'):=by rw[<-K]
 have z:s.g=s0.g:=by rw[<-K]
 have F:s.w=w':=by rw[<-K]
 have wr: ∀n r' o,Wr1 s n r' o->Wr1 s0 n r' o:=(by intro n r' o h;by_cases e:n=b;subst e;unfold Wr1 at h⊢;rw[E,q]at h;rw[hb];grind;grind [Wr1]);have B: ∀o,Wr1 s0 b r o:=by intro o;unfold Wr1;rw[hb];simp_all
 have t:aZ s0 s:=(by refine⟨?_,λr o h=>by rw[z];exact h,λr' o h=>.inl (by rw[<-z];exact h),λr o ⟨n,h⟩=>.inl ⟨n,wr n r o h⟩,by rw[E];simp,λn cs h=>?_,λn wm' I L h=>?_⟩;rw[F];exact y.keep λk h1 _=>⟨b,B k⟩;grind;by_cases e:n=b;subst e;rw[hb]at h;injection h with h;injection h with h1 h2 h3;subst h1 h2 h3;exact⟨true,rows',by rw[E];exact q,id,O,λ_=>by rw[z]⟩;grind);refine⟨nO hi t (λn=>n=b) (λn D=>⟨by grind,by rw[z]⟩) ?_ ?_ ?_ ?_ ?_ ?_ ?_,t⟩;intro n r' k v D P hv;rw[F];refine y.cell hv ?_;by_cases V:r'=r;subst V;exact(D (hi.apart _ _ _ _ P (B k))).elim;simp_all;simp_all;rintro n wm' I L rfl h;rw[E,q]at h;cases h;obtain⟨c,e,fz,c',M,T,H,p4,S,U⟩:=y.there;rcases hi.arr _ _ _ _ hb with⟨m,_⟩|⟨r',c0,e0,a2,m,G,Q,hl,N,hf⟩;simp_all;rw[hm]at m;injection m with m;injection m with m _;subst m;rw[M]at G;injection G with G;injection G with q1 q2 q3;subst q1 q2 q3;obtain⟨R,W⟩:=hx c c' (λi j row x h1 h2=>(N i j row x h1 h2).1) H ⟨e,fz,M⟩ S U;refine .inr ⟨r,c',e,fz,by rw[z];exact hm,by rw[F];exact T,J,by rw[H];exact R,λi j row x h1 h2=>?_,by rw[H];exact hf⟩;obtain⟨u,Z,Y⟩:=W i j row x h1 h2;exact⟨⟨u,Z,Y.mono hi t⟩,λh=>by cases h⟩;rintro b1 b2 r o rfl h1 h2;exact hi.apart _ _ _ _ (wr _ _ _ h1) (wr _ _ _ h2);intro r' o A;rw[F,y.size];rw[z]at A;exact(hi.const r' o A).1;rintro r' o n A rfl h;rw[z]at A;exact(hi.const r' o A).2 _ (wr _ _ _ h);intro r' o n A hn D h;rw[z]at A;exact hn A
theorem Df{s0:Sn}(hi:Inv s0){b:Nat}{wm:Bool}{esz:Nat}{rows rows':List (List PV)}{c:Array Value}{e:TypeId}{w':World}
  (hb:s0.σ[b]?=some (.arr wm esz rows)) (P:rows.length<rows'.length) (L: ∀row∈rows',row.length=esz)
  (hh:w'.heap=s0.w.heap.push (.cells c e (0,0))) (ho:w'.os=s0.w.os) (hp:w'.output=s0.w.output)
  (J:rows'.length*esz<=c.size)
  (hx: ∀(i j:Nat) row x,rows'[i]?=some row->row[j]?=some x-> ∃u,c[i*esz+j]?=some u/\J0i s0.w s0.g.C x u):
  ∃g',g'.μ b=some (s0.w.heap.size,0)/\Inv ⟨s0.σ.set b (.arr wm esz rows'),g',w'⟩/\aZ s0 ⟨s0.σ.set b (.arr wm esz rows'),g',w'⟩:=by
 have z:(s0.σ.set b (.arr wm esz rows'))[b]?=some (.arr wm esz rows'):=gZ hb;refine⟨⟨λk=>if k=b then some (s0.w.heap.size,0)else s0.g.μ k,λr o=>s0.g.C r o\/(wm=false/\r=s0.w.heap.size/\o<rows'.length*esz)⟩,if_pos rfl,?_⟩;generalize E:(⟨s0.σ.set b (.arr wm esz rows'),_,w'⟩:Sn)=s;have G:s.σ=s0.σ.set b (.arr wm esz rows'):=by rw[<-E]
 have R: ∀k,s.g.μ k=if k=b then some (s0.w.heap.size,0)else s0.g.μ k:=by grind
 have y: ∀r' o,s.g.C r' o↔s0.g.C r' o\/(wm=false/\r'=s0.w.heap.size/\o<rows'.length*esz):=by rw[<-E];simp_all
 have M:s.w=w':=by rw[<-E]
 have wr: ∀k r' o,k≠b->(Wr1 s k r' o↔Wr1 s0 k r' o):=by simp_all [Wr1,Ne.symm]
 have F: ∀r' o,Wr1 s b r' o->r'=s0.w.heap.size/\(wm=false->rows'.length*esz<=o):=(by grind [Wr1]);have t:aZ s0 s:=(by refine⟨?_,λr o h=>(y r o).2 (.inl h),λr' o h=>?_,λr o ⟨k,h⟩=>?_,by rw[G];simp,λk cs h=>?_,λk wm' D rows' h=>?_⟩;grind [QC];grind;by_cases q:k=b;grind;exact .inl ⟨k,(wr k r o q).1 h⟩;grind;by_cases q:k=b;subst q;rw[hb]at h;injection h with h;injection h with h1 h2 H;subst h1 h2 H;exact⟨wm,rows',by simp_all,id,by omega,λh=>by omega⟩;grind);refine⟨nO hi t (λk=>k=b) (λk I=>⟨by grind,by simp_all⟩) (λb r o v _ _ h=>by grind [eu]) ?_ ?_ ?_ ?_ ?_ ?_,t⟩;simp_all;rintro k wm' D rows' rfl h;rw[G,z]at h;cases h;refine .inr ⟨s0.w.heap.size,c,e,(0,0),by simp_all,by simp_all,?_,by simp_all,?_,vB.zero _ _⟩;grind;intro i j row x A B;obtain⟨u,O,N⟩:=hx i j row x A B;refine⟨⟨u,O,N.mono hi t⟩,λK=>(y _ _).2 (.inr ⟨K,rfl,?_⟩)⟩;have h1:=Jq A;have h2:=Jq B;have H:row.length=esz:=(by grind);simp_all [iY];rintro b1 b2 r o rfl h1 h2;by_cases q:b2=b1;exact q.symm;have:=uZ hi _ _ _ ((wr b2 r o q).1 h2);grind;intro r' o n;rw[M,hh];rcases(y r' o).1 n with n|⟨_,n,_⟩;have:=(hi.const r' o n).1;simp;omega;simp;omega;rintro r' o k n rfl h;have h1:=F _ _ h;rcases(y r' o).1 n with n|⟨S,n,ho⟩;have:=(hi.const r' o n).1;omega;grind;intro r' o k n I Q h;rcases(y r' o).1 n with n|⟨_,n,_⟩;exact I n;have:=uZ hi _ _ _ h;omega
theorem JGE{s0:Sn}(hi:Inv s0){b:Nat}{wm:Bool}{esz:Nat}{rows new:List (List PV)}{c:Array Value}{e:TypeId}{w':World}
  (hb:s0.σ[b]?=some (.arr wm esz rows)) (o:new≠[]) (k: ∀row∈rows,row.length=esz) (n: ∀row∈new,row.length=esz)
  (hh:w'.heap=s0.w.heap.push (.cells c e (0,0))) (ho:w'.os=s0.w.os) (hp:w'.output=s0.w.output)
  (h:(rows.length+new.length)*esz<=c.size)
  (hx: ∀(i j:Nat) row x,(rows++new)[i]?=some row->row[j]?=some x-> ∃u,c[i*esz+j]?=some u/\J0i s0.w s0.g.C x u):
  ∃g',g'.μ b=some (s0.w.heap.size,0)/\Inv ⟨s0.σ.set b (.arr wm esz (rows++new)),g',w'⟩/\aZ s0 ⟨s0.σ.set b (.arr wm esz (rows++new)),g',w'⟩:=
 have q:0<new.length:=List.length_pos_iff.2 o
 Df hi hb (by simp;omega) (λrow r=>(zQ9.1 r).elim (k row) (n row)) hh ho hp (by simpa using h) hx
end Go.Am
end
section
namespace Go.Am
def okP:PV->Value->Bool| .b x,.bool y=>x==y| .i k n,.int h e=>k==h&&n==e| .s l,.string g=>l==g.data.toList| .sl _ [],.slice none 0 0=>true| .np,.pointer none=>true| .nf,.nilFunc=>true|_,_=>false
def xO:List PV->List Value->Bool|[],[]=>true|x::xs,v::vs=>okP x v&&xO xs vs|_,_=>false
def okC:AV->Value->Bool| .p c,v=>okP c v| .data cs,.agg vs=>xO cs vs.toList| .fn f [] [],.func (.func g) a c=>f==g&&a.isEmpty&&c.isEmpty| .tup [],.tuple vs=>vs.isEmpty|_,_=>false
def bJ:Opd->Operand->Bool| .t n,.tmp m=>n==m| .c x,.const v=>okC x v| .c (.fn f [] []),.func g=>f==g|_,_=>false
def iC:List Opd->List Operand->Bool|[],[]=>true|x::xs,y::e=>bJ x y&&iC xs e|_,_=>false
def vD:Option Opd->Option Operand->Bool|none,none=>true|some x,some y=>bJ x y|_,_=>false
section
variable (P:Program)
def szT(t:TypeId):Option Nat:=(P.info? t).map (·.size)
def byT(t:TypeId):Option Nat:=(P.info? t).map (·.bytes)
def zeT(t:TypeId):Option Value:=(P.info? t).bind (·.zero)
def xJ:TypeDesc->Bool| .struct _| .array _ _=>true|_=>false
def agT(t:TypeId):Option Bool:=(P.underlying t).map xJ
def elT(t:TypeId):Option TypeId:=match P.underlying t with|some (.slice e)=>some e|_=>none
def iD(t:TypeId):Bool:=match P.underlying t with|some .string=>true|_=>false
def TL(t:TypeId):Bool:=match P.underlying t with|some (.int .u8)=>true|_=>false
def YP(t:TypeId):Bool:=match P.underlying t with|some .bool=>true|_=>false
def ky(t:TypeId):Bool:=match P.underlying t with|some (.int _)=>true|_=>false
def XZ(k:IntKind)(t:TypeId):Bool:=match P.underlying t with|some (.int e)=>k==e|_=>false
def arT(t:TypeId):Option (Nat×TypeId):=match P.underlying t with|some (.array n e)=>some (n,e)|_=>none
def flT(t:TypeId):Option (Array Field):=match P.underlying t with|some (.struct fs)=>some fs|_=>none
def IU(K:TypeId->Option (List KD)):Nat->List Field->Option (List KD)
 |_,[]=>some []
 |off,f::fs=>
  if f.name= "_" ∨f.offset≠off then none
  else match K f.type with
   |none=>none
   |some ks=>if szT P f.type=some ks.length/\0<ks.length then
    match IU K (off+ks.length) fs with
    |some l=>some (ks++l)
    |none=>none
    else none
def pF:Nat->TypeId->Option (List KD)
 |0,_=>none
 |d+1,t=>match P.underlying t with
  |some .bool=>some [.b]
  |some (.int k)=>some [.i k]
  |some .string=>some [.s]
  |some (.struct fs)=>if P.stoodInHeld t then none else IU P (pF d) 0 fs.toList
  |some (.array n e)=>match pF d e with|some ks=>if szT P e=some ks.length/\0<ks.length then some (List.replicate n ks).flatten else none|none=>none
  |_=>none
def zk(t:TypeId):Operand->Bool| .const (.slice none 0 0)=>(elT P t).isSome|_=>false
def A2(t:TypeId):Operand->Bool
 | .const (.pointer none)=>(match P.underlying t with|some (.pointer _)=>true|_=>false)
 |_=>false
def ze(t:TypeId):Operand->Bool
 | .const .nilFunc=>(match P.underlying t with|some (.func _ _ _)=>true|_=>false)
 |_=>false
def jE(zero:List PV)(t:TypeId):Bool:=match zeT P t with|some v=>xO zero v.cells.toList|none=>false
def MP(t:TypeId)(os:List (Nat×Nat)):Bool:=match zeT P t with
 |some v=>os.all λx=>match v.cells[x.1]? with|some (.slice none 0 0)=>true|_=>false
 |none=>false
def rL(place:Nat->Option (Nat×Nat)):List (Nat×Nat×Opd)->List (Nat×Operand)->Bool|[],[]=>true|(off,size,x)::r,(i,y)::q=>place i==some (off,size)&&bJ x y&&rL place r q|_,_=>false
def DA(fs:Array Field)(i:Nat):Option (Nat×Nat):=match fs[i]? with|some f=>(szT P f.type).map λn=>(f.offset,n)|none=>none
def HW:List (Nat×Opd)->List (Nat×Operand)->Bool|[],[]=>true|(i,x)::r,(j,y)::q=>i==j&&bJ x y&&HW r q|_,_=>false
def JV(D:AOp)(op:Op):Bool:=
 match D with
 | .mv x=>match op with| .move y| .assign y=>bJ x y|_=>false
 | .mkarr _ x=>match op with
  | .move (.const (.slice none 0 0))| .assign (.const (.slice none 0 0))=>(match x with| .c _=>true|_=>false)
  |_=>false
 | .pick c a b=>match op with| .pick c' E C=>bJ c c'&&bJ a E&&bJ b C|_=>false
 | .newbox zero=>match op with| .alloc t=>jE P zero t|_=>false
 | .box _ x=>match op with| .box _ y=>bJ x y|_=>false
 | .build zero parts=>match op with
  | .build t ps=>jE P zero t&&(match P.underlying t with
   |some (.struct fs)=>(fs.all λf=>(szT P f.type).isSome)&&rL (DA P fs) parts ps.toList
   |some (.array _ e)=>(match szT P e with
    |some n=>rL (λi=>some (i*n,n)) parts ps.toList
    |none=>false)
   |_=>false)
  |_=>false
 | .lits _ esz n zero parts=>match op with
  | .buildSlice t len ps=>len==n&&(match elT P t with
   |some e=>szT P e==some esz&&decide (n*esz<=16777216)&&jE P zero e&&zero.length==esz&&decide (0<esz)&&HW parts ps.toList
   |none=>false)
  |_=>false
 | .load agg size x=>match op with| .load t y=>agT P t==some agg&&szT P t==some size&&bJ x y&&(agg||size==1)|_=>false
 | .store size x v=>match op with| .store t y u=>szT P t==some size&&bJ x y&&bJ v u|_=>false
 | .nilchk x=>match op with| .nilCheck y=>bJ x y|_=>false
 | .bin G bt x y=>match op with
  | .binOp z t o h _=>G==z&&bJ x o&&(match bt with
   | .plain=>bJ y h
   | .bool=>bJ y h&&YP P t
   | .flat ks=>bJ y h&&pF P 100 t==some ks&&agT P t==some true&& !P.eqGuardType P.depth t
   | .nils=>zk P t h
   | .nilp=>A2 P t h
   | .nilf=>ze P t h)
  |_=>false
 | .un F x=>match op with| .unOp A _ y=>F==A&&bJ x y|_=>false
 | .conv k x=>match op with
  | .convert q dst y=>bJ x y&&(match k with
   | .int k=>ky P q&&XZ P k dst
   | .same=>iD P q&&iD P dst
   | .toStr=>(match elT P q with|some e=>TL P e&&szT P e==some 1|none=>false)&&iD P dst
   | .toBytes _=>iD P q&&(match elT P dst with|some e=>TL P e&&szT P e==some 1|none=>false))
  |_=>false
 | .mkslice _ esz bytes zero l c=>match op with
  | .makeSlice t H c'=>bJ l H&&bJ c c'&&(match elT P t with
   |some e=>szT P e==some esz&&byT P e==some bytes&&jE P zero e&&zero.length==esz&&decide (0<esz)&&decide (0<bytes)
   |none=>false)
  |_=>false
 | .slice k x lo hi mx=>match op with
  | .slice t o lo' hi' B=>bJ x o&&vD lo lo'&&vD hi hi'&&vD mx B&&(match k with
   | .str=>iD P t
   | .sl esz=>(match elT P t with|some e=>szT P e==some esz|none=>false))
  |_=>false
 | .ppre esz x hi=>match op with
  | .slice t o none (some hi') none=>bJ x o&&bJ hi hi'&&(match elT P t with|some e=>szT P e==some esz|none=>false)
  |_=>false
 | .psuf esz x lo=>match op with
  | .slice t o (some lo') none none=>bJ x o&&bJ lo lo'&&(match elT P t with|some e=>szT P e==some esz|none=>false)
  |_=>false
 | .faddr off x=>match op with
  | .fieldAddr t y f=>bJ x y&&(match flT P t with
   |some fs=>(match fs[f]? with
    |some f=>f.offset==off&&(match szT P f.type with|some n=>n !=0|none=>false)
    |none=>false)
   |none=>false)
  |_=>false
 | .field agg off size x=>match op with
  | .field t y f=>bJ x y&&(match flT P t with
   |some fs=>(match fs[f]? with
    |some f=>f.offset==off&&szT P f.type==some size&&agT P f.type==some agg&&(agg||size==1)
    |none=>false)
   |none=>false)
  |_=>false
 | .iaddr esz x i=>match op with
  | .indexAddr t y j=>bJ x y&&bJ i j&&(match elT P t with|some e=>szT P e==some esz|none=>false)
  |_=>false
 | .aaddr len esz x i=>match op with
  | .indexAddr t y j=>bJ x y&&bJ i j&&(match arT P t with|some (n,e)=>n==len&&szT P e==some esz|none=>false)
  |_=>false
 | .sidx x i=>match op with| .index t y j=>bJ x y&&bJ i j&&iD P t|_=>false
 | .aidx agg len esz x i=>match op with
  | .index t y j=>bJ x y&&bJ i j&&(match arT P t with|some (n,e)=>n==len&&szT P e==some esz&&agT P e==some agg&&(agg||esz==1)|none=>false)
  |_=>false
 | .extr x i=>match op with| .extract y j=>bJ x y&&i==j|_=>false
 | .call f args _=>match op with
  | .call c=>(match c.callee with
   | .value (.func g)=>f==g&&iC args c.args.toList
   |_=>false)
  |_=>false
 | .callv x args _=>match op with
  | .call c=>(match c.callee with
   | .value y=>bJ x y&&iC args c.args.toList
   |_=>false)
  |_=>false
 | .len str x=>match op with
  | .call c=>(match c.callee with
   | .builtin .len=>(match c.args.toList,c.argTypes.toList with
    |[y],[t]=>bJ x y&&(if str then iD P t else(elT P t).isSome)
    |_,_=>false)
   |_=>false)
  |_=>false
 | .alen n=>match op with
  | .call c=>(match c.callee with
   | .builtin .len=>(match c.args.toList,c.argTypes.toList with
    |[_],[t]=>(match P.underlying t with
     |some (.array m _)=>m==n
     |some (.pointer a)=>(match arT P a with|some (m,_)=>m==n|none=>false)
     |_=>false)
    |_,_=>false)
   |_=>false)
  |_=>false
 | .appn esz bytes zero y=>match op with
  | .call c=>(match c.callee with
   | .builtin .append=>(match c.args.toList,c.argTypes.toList with
    |[.const (.slice none 0 0),h],[t,u]=>bJ y h&&((elT P u).isSome||iD P u)&&(match elT P t with
     |some e=>szT P e==some esz&&byT P e==some bytes&&jE P zero e&&zero.length==esz&&decide (0<esz)&&decide (0<bytes)
     |none=>false)
    |_,_=>false)
   |_=>false)
  |_=>false
 | .appp esz bytes zero x y=>match op with
  | .call c=>(match c.callee with
   | .builtin .append=>(match c.args.toList,c.argTypes.toList with
    |[o,h],[t,u]=>bJ x o&&bJ y h&&((elT P u).isSome||iD P u)&&(match elT P t with
     |some e=>szT P e==some esz&&byT P e==some bytes&&jE P zero e&&zero.length==esz&&decide (0<esz)&&decide (0<bytes)
     |none=>false)
    |_,_=>false)
   |_=>false)
  |_=>false
 | .app esz bytes zero x y=>match op with
  | .call c=>(match c.callee with
   | .builtin .append=>(match c.args.toList,c.argTypes.toList with
    |[o,h],[t,u]=>bJ x o&&bJ y h&&((elT P u).isSome||iD P u)&&(match elT P t with
     |some e=>szT P e==some esz&&byT P e==some bytes&&jE P zero e&&zero.length==esz&&decide (0<esz)&&decide (0<bytes)
     |none=>false)
    |_,_=>false)
   |_=>false)
  |_=>false
 | .appc esz bytes zero x y=>match op with
  | .call c=>(match c.callee with
   | .builtin .append=>(match c.args.toList,c.argTypes.toList with
    |[o,h],[t,u]=>bJ x o&&bJ y h&&((elT P u).isSome||iD P u)&&(match elT P t with
     |some e=>szT P e==some esz&&byT P e==some bytes&&jE P zero e&&zero.length==esz&&decide (0<esz)&&decide (0<bytes)
     |none=>false)
    |_,_=>false)
   |_=>false)
  |_=>false
 | .appz esz bytes zero x y=>match op with
  | .call c=>(match c.callee with
   | .builtin .append=>(match c.args.toList,c.argTypes.toList with
    |[o,h],[t,u]=>bJ x o&&bJ y h&&(match P.underlying u with
     |some (.int _)=>true
     |_=>false)&&(match elT P t with
     |some e=>szT P e==some esz&&byT P e==some bytes&&jE P zero e&&zero.length==esz&&decide (0<esz)&&decide (0<bytes)
     |none=>false)
    |_,_=>false)
   |_=>false)
  |_=>false
 | .mm mx x y=>match op with
  | .call c=>(match c.callee with
   | .builtin b=>b==(if mx then .max else .min)&&(match c.args.toList with
    |[o,h]=>bJ x o&&bJ y h
    |_=>false)
   |_=>false)
  |_=>false
 | .newboxo zero os=>match op with| .alloc t=>jE P zero t&&MP P t os|_=>false
 | .buildo zero parts os=>match op with
  | .build t ps=>jE P zero t&&MP P t os&&(match P.underlying t with
   |some (.struct fs)=>(fs.all λf=>(szT P f.type).isSome)&&rL (DA P fs) parts ps.toList
   |_=>false)
  |_=>false
 | .storen _ x=>match op with| .store t y (.const (.slice none 0 0))=>szT P t==some 1&&bJ x y|_=>false
 | .callo f _ args _=>match op with
  | .call c=>(match c.callee with
   | .value (.func g)=>f==g&&iC args c.args.toList
   |_=>false)
  |_=>false
 | .mkfn f first caps=>match op with
  | .makeFunc (.func g) r w=>f==g&&iC first r.toList&&iC caps w.toList
  |_=>false
end
end Go.Am
end
section
namespace Go.Am
def get(s:St):Loc->Option (AV⊕Blk)| .slot n=>(lk n s.env).map .inl| .blk b=>(s.sto[b]?).map .inr
theorem JEX{α:Type}(m:RM α)(s s':St)(h: ∀l∈m.reads s,get s' l=get s l):m.run s'=m.run s:=by
 induction m with
 |ret a=>rfl
 |slot n k ih=>
  have e:=h (.slot n) (by simp[RM.reads]);grind [get,RM.run,RM.reads]
 |blk b k ih=>
  have e:=h (.blk b) (by simp[RM.reads]);grind [get,RM.run,RM.reads]
 |fail=>rfl
theorem wH{b:Nat}: ∀{ws:List (Nat×Blk)},b∉ws.map (·.1)->iP b ws=none
 |[],_=>rfl
 |(c,x)::r,h=>by
  simp at h;simp only[iP];rw[wH (by simpa using h.2)];grind
theorem ra{b:Nat}: ∀{ws:List (Nat×Blk)},b∈ws.map (·.1)-> ∃y,iP b ws=some y
 |[],h=>by simp at h
 |(c,x)::r,h=>by
  simp only[iP];by_cases e:b∈r.map (·.1);obtain⟨y,g⟩:=ra e;simp_all;simp_all [wH]
theorem yP: ∀(ws:List (Nat×Blk)) (σ:List Blk),(upd ws σ).length=σ.length|[],_=>rfl|y::ws,σ=>by show(upd ws (σ.set y.1 y.2)).length=_;rw[yP ws];simp
theorem vT: ∀(ws:List (Nat×Blk)) (σ:List Blk) (b:Nat),b<σ.length->(upd ws σ)[b]?=match iP b ws with
  |some y=>some y
  |none=>σ[b]?
 |[],σ,b,_=>rfl
 |(c,x)::ws,σ,b,h=>by
  show(upd ws (σ.set c x))[b]?=_;rw[vT ws (σ.set c x) b (by simpa using h)];grind [iP]
structure Run(F:Orc)(ins:List bV)(new:Nat->Nat)(S:Nat->St)(eff:Nat->Eff):Prop where
 step: ∀k i,ins[k]?=some i->(bZ F i (new k)).run (S k)=some (eff k)/\S (k+1)=put i.dst (eff k) (S k)
structure MN(F:Orc)(ins:List bV)(new:Nat->Nat)(S:Nat->St)(eff:Nat->Eff)(i j:Nat):Prop where
 slotW: ∀x y m,ins[i]?=some x->ins[j]?=some y->x.dst=some m->y.dst≠some m/\Loc.slot m∉(bZ F y (new j)).reads (S j)
 slotR: ∀x y m,ins[i]?=some x->ins[j]?=some y->y.dst=some m->Loc.slot m∉(bZ F x (new i)).reads (S i)
 blkW: ∀y b,ins[j]?=some y->b∈(eff i).ws.map (·.1)->b∉(eff j).ws.map (·.1)/\Loc.blk b∉(bZ F y (new j)).reads (S j)
 blkR: ∀x b,ins[i]?=some x->b∈(eff j).ws.map (·.1)->Loc.blk b∉(bZ F x (new i)).reads (S i)
section
variable {F:Orc} {ins:List bV} {new:Nat->Nat} {S:Nat->St} {eff:Nat->Eff}
def vA(ins:List bV)(k:Nat):Option Nat:=(ins[k]?).bind (·.dst)
def oY(ins:List bV)(eff:Nat->Eff)(s0:St)(D:Nat->Bool):Nat->Nat->Option AV|0,m=>lk m s0.env|k+1,m=>if D k=true/\vA ins k=some m then some (eff k).val else oY ins eff s0 D k m
def nD(eff:Nat->Eff)(s0:St)(D:Nat->Bool):Nat->Nat->Option Blk
 |0,b=>s0.sto[b]?
 |k+1,b=>if D k=true then(match iP b (eff k).ws with
  |some y=>some y
  |none=>nD eff s0 D k b)else nD eff s0 D k b
structure Agree(ins:List bV)(eff:Nat->Eff)(s0:St)(D:Nat->Bool)(s:St):Prop where
 slot: ∀m,lk m s.env=oY ins eff s0 D ins.length m
 len:s.sto.length=s0.sto.length
 blk: ∀b,b<s0.sto.length->s.sto[b]?=nD eff s0 D ins.length b
theorem OP(hr:Run F ins new S eff): ∀k,k<=ins.length->(S k).sto.length=(S 0).sto.length
 |0,_=>rfl
 |k+1,h=>by
  have e:ins[k]?=some ins[k]:=aS (by omega);obtain⟨_,h2⟩:=hr.step k _ e;rw[h2,<-OP hr k (by omega)];unfold put;grind [yP]
theorem eo(hr:Run F ins new S eff)(D:Nat->Bool): ∀k,k<=ins.length->(∀j,j<k->D j=true)-> ∀m,oY ins eff (S 0) D k m=lk m (S k).env
 |0,_,_,m=>rfl
 |k+1,h,hD,m=>by
  have g:ins[k]?=some ins[k]:=aS (by omega);obtain⟨_,h2⟩:=hr.step k _ g;simp only[oY];rw[eo hr D k (by omega) (λj n=>hD j (by omega)) m,h2];have e:vA ins k=ins[k].dst:=by grind [vA]
  rw[e];unfold put;grind [lk]
theorem ZW(hr:Run F ins new S eff)(D:Nat->Bool): ∀k,k<=ins.length->(∀j,j<k->D j=true)-> ∀b,b<(S 0).sto.length->nD eff (S 0) D k b=(S k).sto[b]?
 |0,_,_,b,_=>rfl
 |k+1,h,hD,b,hb=>by
  have e:ins[k]?=some ins[k]:=aS (by omega);obtain⟨_,h2⟩:=hr.step k _ e;simp only[nD];rw[ZW hr D k (by omega) (λj g=>hD j (by omega)) b hb,h2,if_pos (hD k (by omega))];have:(put ins[k].dst (eff k) (S k)).sto=upd (eff k).ws (S k).sto:=by unfold put;split<;>rfl
  rw[this,vT _ _ _ (by rw[OP hr k (by omega)];exact hb)]
theorem fh{s0:St}{D D':Nat->Bool}{m:Nat}: ∀n,(∀j,j<n->vA ins j=some m->D j=D' j)->oY ins eff s0 D n m=oY ins eff s0 D' n m
 |0,_=>rfl
 |n+1,h=>by
  simp only[oY];rw[fh n λj e=>h j (by omega)];grind
theorem ey{s0:St}{D D':Nat->Bool}{b:Nat}: ∀n,(∀j,j<n->b∈(eff j).ws.map (·.1)->D j=D' j)->nD eff s0 D n b=nD eff s0 D' n b
 |0,_=>rfl
 |n+1,h=>by
  simp only[nD];rw[ey n λj e=>h j (by omega)];grind [wH]
theorem PW{s0:St}{D:Nat->Bool}{m k:Nat}: ∀n,k<=n->(∀j,k<=j->j<n->vA ins j=some m->D j=false)->oY ins eff s0 D n m=oY ins eff s0 D k m
 |0,h,_=>by simp_all
 |n+1,h,hD=>by
  by_cases e:k=n+1;subst e;rfl;simp only[oY];rw[PW n (by omega) λj h1 h2=>hD j h1 (by omega)];grind
theorem PO{s0:St}{D:Nat->Bool}{b k:Nat}: ∀n,k<=n->(∀j,k<=j->j<n->b∈(eff j).ws.map (·.1)->D j=false)->nD eff s0 D n b=nD eff s0 D k b
 |0,h,_=>by simp_all
 |n+1,h,hD=>by
  by_cases e:k=n+1;subst e;rfl;simp only[nD];rw[PO n (by omega) λj h1 h2=>hD j h1 (by omega)];grind [wH]
theorem JH8(hr:Run F ins new S eff){D:Nat->Bool}{s:St}(ha:Agree ins eff (S 0) D s){k:Nat}{i:bV}(hk:ins[k]?=some i)(H:D k=false)
  (r: ∀j,j<k->D j=false->MN F ins new S eff j k) (h: ∀j,k<j->j<ins.length->D j=true->MN F ins new S eff k j):
  (bZ F i (new k)).run s=some (eff k)/\Agree ins eff (S 0) (λj=>if j=k then true else D j) (put i.dst (eff k) s):=by
 have C:k<ins.length:=(by grind);have g: ∀j,j<ins.length->ins[j]?=some ins[j]! :=λj q=>by simp[q]
 have z: ∀j,j<ins.length->vA ins j=ins[j]!.dst:=λj q=>by grind [vA]
 obtain⟨h1,h2⟩:=hr.step k i hk;have G:vA ins k=i.dst:=by simp_all
 let T:Nat->Bool:=λ_=>true
 have reads: ∀l∈(bZ F i (new k)).reads (S k),get s l=get (S k) l:=by
  intro l hl;cases l with
  |slot m=>
   simp only[get];rw[ha.slot m]
   congr 1
   rw[PW ins.length (k:=k) (by omega) λj v e o=>?_];rw[fh (D':=T) k λj q o=>?_,eo hr T k (by omega) (λ_ _=>rfl) m];cases hDj:D j with
   |true=>rfl
   |false=>have:=(r j q hDj).slotW _ i m (g j (by omega)) hk (by grind);simp_all
   by_cases n:j=k;simp_all;cases hDj:D j with
   |false=>rfl
   |true=>have:=(h j (by omega) e hDj).slotR i _ m hk (g j e) (by simp_all);simp_all
  |blk b=>
   simp only[get];by_cases w:b<(S 0).sto.length;rw[ha.blk b w]
   congr 1
   rw[PO ins.length (k:=k) (by omega) λj v e o=>?_];rw[ey (D':=T) k λj q o=>?_,ZW hr T k (by omega) (λ_ _=>rfl) b w];cases hDj:D j with
   |true=>rfl
   |false=>exact absurd hl ((r j q hDj).blkW i b hk o).2
   by_cases n:j=k;simp_all;cases hDj:D j with
   |false=>rfl
   |true=>exact absurd hl ((h j (by omega) e hDj).blkR i b hk o)
   rw[oR (by have:=ha.len;omega),oR (by have:=OP hr k (by omega);omega)]
 refine⟨by grind [JEX],?_,?_,?_⟩;intro m;have x:lk m (put i.dst (eff k) s).env=if i.dst=some m then some (eff k).val else lk m s.env:=(by unfold put;grind [lk])
 rw[x,ha.slot m];by_cases B:i.dst=some m;rw[if_pos B];rw[PW ins.length (k:=k+1) (by omega) λj v e o=>?_];grind [oY];have n:j≠k:=by omega
 simp only[if_neg n];cases hDj:D j with
 |false=>rfl
 |true=>have:=(h j (by omega) e hDj).slotW i _ m hk (g j e) B;simp_all
 grind [fh];have:(put i.dst (eff k) s).sto=upd (eff k).ws s.sto:=by unfold put;split<;>rfl
 rw[this,yP,ha.len];intro b w;have:(put i.dst (eff k) s).sto=upd (eff k).ws s.sto:=by unfold put;split<;>rfl
 rw[this,vT _ _ _ (by rw[ha.len];exact w),ha.blk b w];by_cases A:b∈(eff k).ws.map (·.1);obtain⟨y,E⟩:=ra A;simp only[E];rw[PO (D:=λj=>if j=k then true else D j) ins.length (k:=k+1) (by omega) λj v e o=>?_];grind [nD];have n:j≠k:=by omega
 simp only[if_neg n];cases hDj:D j with
 |false=>rfl
 |true=>exact absurd o ((h j (by omega) e hDj).blkW _ b (g j e) A).1
 grind [wH,ey]
theorem F7:Agree ins eff (S 0) (λ_=>false) (S 0):=by
 refine⟨λm=>?_,rfl,λb _=>?_⟩;rw[PW ins.length (k:=0) (zQ2 _) λ_ _ _ _=>rfl];rfl;rw[PO ins.length (k:=0) (zQ2 _) λ_ _ _ _=>rfl];rfl
theorem JEt(hr:Run F ins new S eff){D:Nat->Bool}{s:St}(ha:Agree ins eff (S 0) D s)(hD: ∀j,j<ins.length->D j=true):
  (∀m,lk m s.env=lk m (S ins.length).env)/\s.sto=(S ins.length).sto:=by
 refine⟨λm=>by rw[ha.slot m,eo hr D _ (zQ0 _) hD m],zQ6 λb=>?_⟩;by_cases e:b<(S 0).sto.length;rw[ha.blk b e,ZW hr D _ (zQ0 _) hD b e];rw[oR (by have:=ha.len;omega),oR (by have:=OP hr _ (zQ0 _);omega)]
end
end Go.Am
end
section
namespace Go.Am
def oSl:Opd->List Nat| .t n=>[n]| .c _=>[]
def hI:List Opd->List Nat|[]=>[]|x::r=>oSl x++hI r
def UB:Option Opd->List Nat|none=>[]|some x=>oSl x
def cJ:AOp->List Nat| .mv x| .box _ x| .appn _ _ _ x| .load _ _ x| .nilchk x| .un _ x| .conv _ x| .faddr _ x| .field _ _ _ x| .extr x _| .len _ x=>oSl x| .mkarr _ _| .newbox _| .alen _=>[]| .pick c a b=>oSl c++(oSl a++oSl b)| .build _ parts=>hI (parts.map (·.2.2))| .lits _ _ _ _ parts=>hI (parts.map (·.2))| .store _ x v=>oSl x++oSl v| .bin _ _ x y| .iaddr _ x y| .aaddr _ _ x y| .sidx x y| .aidx _ _ _ x y| .app _ _ _ x y| .appz _ _ _ x y| .appc _ _ _ x y| .mm _ x y| .mkslice _ _ _ _ x y| .ppre _ x y| .psuf _ x y| .appp _ _ _ x y=>oSl x++oSl y| .slice _ x lo hi mx=>oSl x++(UB lo++(UB hi++UB mx))| .call _ args _=>hI args| .callv g args _=>oSl g++hI args| .mkfn _ a b=>hI a++hI b| .newboxo _ _=>[]| .buildo _ parts _=>hI (parts.map (·.2.2))| .storen _ x=>oSl x| .callo _ _ args _=>hI args
def wA(i:bV):List Nat:=cJ i.op++match i.g with|some (g,_)=>[g]|none=>[]
def xT:AOp->Bool| .mkarr _ _| .newbox _| .box _ _| .lits _ _ _ _ _| .store _ _ _| .conv (.toBytes _) _| .mkslice _ _ _ _ _ _| .slice (.sl _) _ _ _ _| .call _ _ _| .callv _ _ _| .app _ _ _ _ _| .appz _ _ _ _ _| .appc _ _ _ _ _| .appn _ _ _ _| .newboxo _ _| .buildo _ _ _| .storen _ _| .callo _ _ _ _| .ppre _ _ _| .psuf _ _ _| .appp _ _ _ _ _=>true|_=>false
def FR:AOp->Bool| .load _ _ _| .iaddr _ _ _| .conv .toStr _=>true|op=>xT op
def Sl{α:Type}(L:List Nat)(m:RM α):Prop:= ∀s n,Loc.slot n∈m.reads s->n∈L
section
variable {α β:Type} {L:List Nat}
theorem bF(a:α):Sl L (.ret a):=λs n h=>by grind [RM.reads]
theorem bU:Sl L (.fail:RM α):=λs n h=>by grind [RM.reads]
theorem mA{b:Nat}{k:Blk->RM α}(h: ∀v,Sl L (k v)):Sl L (.blk b k):=λs n e=>by
 simp only[RM.reads,eJ]at e;rcases e with e|e;cases e;split at e;exact h _ s n e;simp at e
theorem Di{m:Nat}{k:AV->RM α}(hm:m∈L)(h: ∀v,Sl L (k v)):Sl L (.slot m k):=λs n e=>by
 simp only[RM.reads,eJ]at e;rcases e with e|e;simp_all;split at e;exact h _ s n e;simp at e
theorem Jp{m:RM α}{f:α->RM β}(h:Sl L m)(hf: ∀a,Sl L (f a)):Sl L (m.bind f):=λs n e=>by
 rw[wI,zQ9]at e;rcases e with e|e;exact h s n e;cases hr:m.run s with
 |none=>simp[hr]at e
 |some a=>simp[hr]at e;exact hf a s n e
theorem JJ4{L':List Nat}{m:RM α}(h:Sl L m)(hl: ∀x∈L,x∈L'):Sl L' m:=λs n e=>hl n (h s n e)
theorem XF{c:Prop} [Decidable c]{x y:RM α}(hx:Sl L x)(hy:Sl L y):Sl L (if c then x else y):=by grind
end
theorem bX{L:List Nat}(x:Opd)(h: ∀n∈oSl x,n∈L):Sl L (ev x):=by
 cases x with
 |t n=>exact Di (h n (by simp[oSl])) λv=>bF v
 |c v=>exact bF v
theorem CQ{L:List Nat}: ∀(xs:List Opd),(∀n∈hI xs,n∈L)->Sl L (evs xs)|[],_=>bF _|x::xs,h=>Jp (bX x λn e=>h n (by simp[hI,e])) λv=>Jp (CQ xs λn e=>h n (by simp[hI,e])) λvs=>bF _
theorem XO{L:List Nat}(x:Option Opd)(h: ∀n∈UB x,n∈L):Sl L (evo x):=by
 cases x with
 |none=>exact bF _
 |some x=>exact Jp (bX x h) λv=>bF _
theorem nP{L:List Nat}(x:Option AV):Sl L (val x):=by cases x<;>first|exact bU|exact bF _
theorem JKj{L:List Nat}(x:AV):Sl L (fz.fz1 x):=by
 cases x<;>try exact bU
 exact bF _;refine mA λv=>?_;grind [bU,bF]
theorem Cl{L:List Nat}: ∀(xs:List AV),Sl L (fz.fzL xs)|[]=>bF _|x::xs=>Jp (JKj x) λ_=>Jp (Cl xs) λ_=>bF _
theorem HG{L:List Nat}(x:AV):Sl L (fz x):=by
 cases x<;>try first|exact bU|exact bF _
 exact Cl _;refine mA λv=>?_;grind [bU,bF]
theorem B2{L:List Nat}: ∀(xs:List Opd),(∀n∈hI xs,n∈L)->Sl L (fzs xs)|[],_=>bF _|x::xs,h=>Jp (bX x λn e=>h n (by simp[hI,e])) λv=>Jp (HG v) λ_=>Jp (B2 xs λn e=>h n (by simp[hI,e])) λ_=>bF _
theorem KI{L:List Nat}(esz:Nat)(x:AV):Sl L (eL esz x):=by
 unfold eL;grind [bF,bU,mA]
theorem JFK{L:List Nat}(agg:Bool)(size:Nat)(x:AV):Sl L (gF agg size x):=by
 unfold gF;split
 all_goals grind [nP,bU,mA]
theorem qd{L:List Nat}(size:Nat)(x v:AV):Sl L (hQ size x v):=by
 unfold hQ;split;grind [mA,bU,bF];refine mA λv=>?_;grind [bU,Jp,HG,bF];simp[bU]
theorem JEn{L:List Nat}(esz:Nat)(x i:AV):Sl L (mD esz x i):=by
 unfold mD;grind [bU,bF,mA]
theorem C7{L:List Nat}(esz bytes:Nat)(x y:AV):Sl L (iA esz bytes x y):=by
 unfold iA;grind [mA,bU,Jp,KI,bF]
theorem OM{L:List Nat}(ws:List (Nat×Blk))(b:Nat):Sl L (qN ws b):=
 mA λv=>by grind [bF]
theorem DE{L:List Nat}(ws:List (Nat×Blk)): ∀(es acc:List Ent),Sl L (dY ws es acc)
 |[],acc=>bF _
 | .whole b::r,acc=>Jp (OM ws b) λv=>by cases v<;>exact DE ws r _
 | .elem b e i::r,acc=>DE ws r acc
theorem ZC{L:List Nat}(x:AV):Sl L (iM x):=by
 cases x<;>try first|exact bU|exact bF _
 exact Jp (HG _) λ_=>bF _;refine Jp (HG _) λa=>?_;grind [bF,bU]
theorem oq{L:List Nat}: ∀(xs:List AV),Sl L (jJ xs)|[]=>bF _|x::xs=>Jp (ZC x) λ_=>Jp (oq xs) λ_=>bF _
theorem JHs{L:List Nat}(ws:List (Nat×Blk))(ρ:Ent->Option Nat)(e:Ent):Sl L (xZ ws ρ e):=by
 cases e with
 |whole b=>
  refine Jp (OM ws b) λv=>?_;grind [bU,bF]
 |elem b e i=>
  refine Jp (OM ws b) λv=>?_;grind [bU,bF]
theorem d5{L:List Nat}(ws:List (Nat×Blk))(ρ:Ent->Option Nat): ∀(es:List Ent),Sl L (jR ws ρ es)|[]=>bF _|e::r=>Jp (JHs ws ρ e) λ_=>Jp (d5 ws ρ r) λ_=>bF _
theorem JEp{L:List Nat}(ws:List (Nat×Blk))(es:List Ent)(new:Nat)(e:Ent)(x:Blk):Sl L (sY ws es new e x):=by
 unfold sY;grind [bF,bU,Jp,OM]
theorem ff{L:List Nat}(ws:List (Nat×Blk))(es:List Ent)(new:Nat): ∀(e:List Ent) (x:List Blk),Sl L (iF ws es new e x)|[],_=>bF _|_::_,[]=>bU|e::r,x::l=>Jp (JEp ws es new e x) λ_=>Jp (ff ws es new r l) λ_=>bF _
theorem m8{L:List Nat}(F:Orc)(f:FuncId)(args:List AV)(k new:Nat):Sl L (hJ F f args k new):=by
 unfold hJ;refine Jp (oq _) λa=>Jp (DE _ _ _) λe=>Jp (DE _ _ _) λes=>XF ?_ bU;split
 all_goals grind [bU,Jp,d5,ff,bF]
theorem JEs{L:List Nat}(F:Orc)(f:FuncId)(a:List AV×List (Nat×Blk))(k new:Nat):Sl L (fJ F f a k new):=by
 unfold fJ;refine Jp (DE _ _ _) λe=>Jp (DE _ _ _) λes=>XF ?_ bU;split
 all_goals grind [bU,Jp,d5,ff,bF]
theorem PK{L:List Nat}: ∀(m:List Bool) (xs:List AV),Sl L (fC m xs)
 |_,[]=>by cases ‹List Bool›<;>exact bF _
 |[],x::xs=>Jp (ZC x) λ_=>Jp (PK [] xs) λ_=>bF _
 |true::m,x::xs=>Jp (PK m xs) λ_=>bF _
 |false::m,x::xs=>Jp (ZC x) λ_=>Jp (PK m xs) λ_=>bF _
theorem ec{L:List Nat}: ∀(xs:List (Nat×Nat×Opd)),(∀n∈hI (xs.map (·.2.2)),n∈L)->Sl L (jP xs)
 |[],_=>bF _
 |(a,b,x)::xs,h=>by
  unfold jP;refine Jp (bX x λn e=>h n (by simp[hI,e])) λv=>?_;split;exact Jp (ec xs λn e=>h n (by simp[hI,e])) λ_=>bF _;simp[bU]
theorem JKn(F:Orc)(op:AOp)(new:Nat):Sl (cJ op) (opR F op new):=by
 cases op with
 |mv x=>exact Jp (bX x λn h=>h) λv=>bF _
 |mkarr=>exact bF _
 |appn esz bytes zero y=>exact Jp (bX y λn h=>h) λv=>Jp (KI _ _) λ_=>XF (bF _) bU
 |pick c a b=>
  refine Jp (bX c λn h=>by grind [cJ]) λv=>?_;grind [Jp,bX,cJ,bF,bU]
 |newbox=>exact bF _
 |box size x=>
  refine Jp (bX x λn h=>h) λv=>?_;grind [bF,bU]
 |build zero parts=>
  refine Jp (ec parts λn h=>h) λv=>?_;grind [nP,bU]
 |lits own esz n zero parts=>
  refine Jp (B2 _ λn h=>h) λv=>?_;grind [bF,bU]
 |load agg size x=>exact Jp (bX x λn h=>h) λv=>JFK _ _ _
 |store size x y=>exact Jp (bX x λn h=>by grind [cJ]) λv=>Jp (bX y λn h=>by grind [cJ]) λ_=>qd _ _ _
 |nilchk x=>
  refine Jp (bX x λn h=>h) λv=>?_;grind [bF,bU]
 |bin op t x y=>exact Jp (bX x λn h=>by grind [cJ]) λv=>Jp (bX y λn h=>by grind [cJ]) λ_=>nP _
 |un op x=>exact Jp (bX x λn h=>h) λv=>nP _
 |conv k x=>
  refine Jp (bX x λn h=>h) λv=>?_;grind [bF,Jp,KI,bU]
 |mkslice own esz bytes zero x y=>
  refine Jp (bX x λn h=>by grind [cJ]) λv=>Jp (bX y λn h=>by grind [cJ]) λu=>?_;grind [bF,bU]
 |slice k x lo hi mx=>
  refine Jp (bX x λn h=>by grind [cJ]) λv=>Jp (XO lo λn h=>by grind [cJ]) λ_=>Jp (XO hi λn h=>by grind [cJ]) λ_=>Jp (XO mx λn h=>by grind [cJ]) λ_=>?_;grind [Jp,HG,bF,bU,nP]
 |faddr off x=>exact Jp (bX x λn h=>h) λv=>nP _
 |field agg off size x=>exact Jp (bX x λn h=>h) λv=>nP _
 |iaddr esz x y=>exact Jp (bX x λn h=>by grind [cJ]) λv=>Jp (bX y λn h=>by grind [cJ]) λ_=>JEn _ _ _
 |aaddr len esz x y=>exact Jp (bX x λn h=>by grind [cJ]) λv=>Jp (bX y λn h=>by grind [cJ]) λ_=>nP _
 |sidx x y=>
  refine Jp (bX x λn h=>by grind [cJ]) λv=>Jp (bX y λn h=>by grind [cJ]) λu=>?_;grind [bU,bF]
 |aidx agg len esz x y=>
  refine Jp (bX x λn h=>by grind [cJ]) λv=>Jp (bX y λn h=>by grind [cJ]) λu=>?_;grind [nP,bU]
 |extr x i=>exact Jp (bX x λn h=>h) λv=>nP _
 |call f args k=>exact Jp (CQ args λn h=>h) λv=>m8 _ _ _ _ _
 |callv g args k=>
  refine Jp (bX g λn h=>by grind [cJ]) λv=>?_;grind [bU,Jp,CQ,cJ,m8]
 |len str x=>exact Jp (bX x λn h=>h) λv=>nP _
 |alen n=>exact bF _
 |appz esz bytes zero x y=>
  refine Jp (bX x λn h=>by grind [cJ]) λv=>Jp (bX y λn h=>by grind [cJ]) λc=>?_;grind [C7,bU]
 |appc esz bytes zero x y=>
  refine Jp (bX x λn h=>by grind [cJ]) λv=>Jp (bX y λn h=>by grind [cJ]) λc=>?_;unfold FS;grind [Jp,KI,bF,bU]
 |ppre esz x y=>
  refine Jp (bX x λn h=>by grind [cJ]) λv=>Jp (bX y λn h=>by grind [cJ]) λc=>?_;unfold sN;split;refine mA λv=>?_;split;split<;>first|exact bF _|exact bU
  exact bU;exact bU
 |psuf esz x y=>
  refine Jp (bX x λn h=>by grind [cJ]) λv=>Jp (bX y λn h=>by grind [cJ]) λc=>?_;unfold sO;split;refine mA λv=>?_;split;split<;>first|exact bF _|exact bU
  exact bU;exact bU
 |appp esz bytes zero x y=>
  refine Jp (bX x λn h=>by grind [cJ]) λv=>Jp (bX y λn h=>by grind [cJ]) λc=>?_;unfold sP;split;refine mA λv=>?_;split;refine Jp (KI _ _) λw=>?_;split<;>first|exact bF _|exact bU
  exact bU;exact bU
 |app esz bytes zero x y=>exact Jp (bX x λn h=>by grind [cJ]) λv=>Jp (bX y λn h=>by grind [cJ]) λ_=>C7 _ _ _ _
 |mm mx x y=>exact Jp (bX x λn h=>by grind [cJ]) λv=>Jp (bX y λn h=>by grind [cJ]) λ_=>nP _
 |mkfn f a b=>exact Jp (CQ a λn h=>by grind [cJ]) λv=>Jp (CQ b λn h=>by grind [cJ]) λ_=>bF _
 |newboxo=>exact bF _
 |buildo zero parts os=>
  refine Jp (ec parts λn h=>h) λv=>?_;grind [bF,bU]
 |storen esz x=>exact Jp (bX x λn h=>h) λv=>Jp (qd _ _ _) λ_=>bF _
 |callo f keep args k=>exact Jp (CQ args λn h=>h) λv=>Jp (PK _ _) λ_=>JEs _ _ _ _ _
theorem ou{L:List Nat}: ∀(k new:Nat),Sl L (sS new k)|0,_=>bF _|k+1,new=>mA λv=>by cases v<;>first|exact ou k _|exact bU
theorem Et(F:Orc)(i:bV)(new:Nat):Sl (wA i) (bZ F i new):=by
 have h:Sl (wA i) (opD F i.op new):=Jp (ou _ _) λ_=>JJ4 (JKn F i.op new) λx e=>by grind [wA]
 grind [bZ,Di,wA,bF,bU]
end Go.Am
end
section
namespace Go.Am
def W0(m:RM Eff):Prop:= ∀s e,m.run s=some e->e.ws=[]
def B0{α:Type}(m:RM α):Prop:= ∀s e,m.run s=some e-> ∀b,Loc.blk b∉m.reads s
theorem nQ(x:Option AV):W0 (val x):=λs e h=>by cases x<;>grind [val,RM.run]
theorem pI(v:AV):W0 (.ret ⟨v,[]⟩):=λs e h=>by grind [RM.run]
theorem rI:W0 .fail:=λs e h=>by cases h
theorem dH{α:Type}{m:RM α}{f:α->RM Eff}(h: ∀a,W0 (f a)):W0 (m.bind f):=λs e g=>by
 rw[run_bind]at g;cases hm:m.run s with
 |none=>simp_all
 |some a=>rw[hm]at g;exact h a s e g
theorem B5{b:Nat}{k:Blk->RM Eff}(h: ∀v,W0 (k v)):W0 (.blk b k):=λs e g=>by
 simp only[RM.run]at g;split at g;exact h _ s e g;cases g
theorem JIR{g:Nat}{k:AV->RM Eff}(h: ∀v,W0 (k v)):W0 (.slot g k):=λs e j=>by
 simp only[RM.run]at j;split at j;exact h _ s e j;cases j
theorem hM{α:Type}(a:α):B0 (.ret a):=λs e _ b h=>by grind [RM.reads]
theorem tF{α:Type}:B0 (.fail:RM α):=λs e h=>by cases h
theorem pM(x:Option AV):B0 (val x):=by cases x<;>first|exact tF|exact hM _
theorem cX{α β:Type}{m:RM α}{f:α->RM β}(hm:B0 m)(h: ∀a,B0 (f a)):B0 (m.bind f):=λs e j b g=>by
 rw[run_bind]at j;rw[wI]at g;cases hr:m.run s with
 |none=>simp_all
 |some a=>
  rw[hr]at j g;rcases zQ9.1 g with g|g;exact hm s a hr b g;exact h a s e j b (by simpa using g)
theorem eQ(x:Opd):B0 (ev x):=by
 cases x with
 |t n=>exact λs e _ b h=>by grind [ev,RM.reads]
 |c v=>exact hM _
theorem JJB{α:Type}{g:Nat}{k:AV->RM α}(h: ∀v,B0 (k v)):B0 (.slot g k):=λs e n b j=>by
 simp only[RM.run]at n;simp only[RM.reads,eJ]at j;rcases j with j|j;cases j;cases hl:lk g s.env with
 |none=>simp_all
 |some v=>rw[hl]at n j;exact h v s e n b j
theorem YN: ∀xs:List Opd,B0 (evs xs)|[]=>hM _|x::xs=>cX (eQ x) λ_=>cX (YN xs) λ_=>hM _
theorem XL(x:Option Opd):B0 (evo x):=by
 cases x with
 |none=>exact hM _
 |some x=>exact cX (eQ x) λ_=>hM _
theorem qi: ∀(xs:List (Nat×Nat×Opd)),B0 (jP xs)
 |[]=>hM _
 |(a,b,x)::xs=>by
  unfold jP;refine cX (eQ x) λv=>?_;split;exact cX (qi xs) λ_=>hM _;simp[tF]
theorem E0(lo hi mx:Option AV)(c:PV)(hc: ∀l,c≠.s l):jQ .str (.p c) lo hi mx=none:=by
 cases mx with
 |some _=>rfl
 |none=>cases c<;>first|rfl|simp_all
theorem JK8(F:Orc)(op:AOp)(new:Nat)(h:xT op=false):W0 (opR F op new):=by
 cases op with
 |mkarr=>cases h
 |newboxo=>cases h
 |buildo=>cases h
 |storen=>cases h
 |callo=>cases h
 |newbox=>cases h
 |box=>cases h
 |lits=>cases h
 |store=>cases h
 |mkslice=>cases h
 |call=>cases h
 |callv=>cases h
 |app=>cases h
 |appz=>cases h
 |appc=>cases h
 |ppre=>cases h
 |psuf=>cases h
 |appp=>cases h
 |appn=>cases h
 |mv x=>exact dH λ_=>pI _
 |pick c a b=>
  refine dH λv=>?_;grind [dH,pI,rI]
 |build zero parts=>
  refine dH λv=>?_;grind [nQ,rI]
 |load agg size x=>
  refine dH λv=>?_;unfold gF;split
  all_goals grind [nQ,rI,B5]
 |nilchk x=>
  refine dH λv=>?_;grind [pI,rI]
 |bin op t x y=>exact dH λ_=>dH λ_=>nQ _
 |un op x=>exact dH λ_=>nQ _
 |conv k x=>
  refine dH λv=>?_;split;exact pI _;exact pI _;grind [dH,pI,rI];cases h;simp[rI]
 |slice k x lo hi mx=>
  cases k with
  |sl esz=>cases h
  |str=>
   refine dH λv=>dH λ_=>dH λ_=>dH λ_=>?_;split;rename_i b i n;intro s e g;exfalso;rw[run_bind]at g;cases h1:(fz (.slr b i n)).run s<;>grind [fz,RM.run,E0]
   simp[nQ]
 |faddr off x=>exact dH λ_=>nQ _
 |field agg off size x=>exact dH λ_=>nQ _
 |iaddr esz x y=>
  refine dH λv=>dH λu=>?_;unfold mD;grind [rI,pI,B5]
 |aaddr len esz x y=>exact dH λ_=>dH λ_=>nQ _
 |sidx x y=>
  refine dH λv=>dH λu=>?_;grind [rI,pI]
 |aidx agg len esz x y=>
  refine dH λv=>dH λu=>?_;grind [nQ,rI]
 |extr x i=>exact dH λ_=>nQ _
 |len str x=>exact dH λ_=>nQ _
 |alen n=>exact pI _
 |mm mx x y=>exact dH λ_=>dH λ_=>nQ _
 |mkfn f a b=>exact dH λ_=>dH λ_=>pI _
theorem JKI(F:Orc)(op:AOp)(new:Nat)(h:FR op=false):B0 (opR F op new):=by
 cases op with
 |mkarr=>cases h
 |newboxo=>cases h
 |buildo=>cases h
 |storen=>cases h
 |callo=>cases h
 |newbox=>cases h
 |box=>cases h
 |lits=>cases h
 |store=>cases h
 |mkslice=>cases h
 |call=>cases h
 |callv=>cases h
 |app=>cases h
 |appz=>cases h
 |appc=>cases h
 |ppre=>cases h
 |psuf=>cases h
 |appp=>cases h
 |appn=>cases h
 |load=>cases h
 |iaddr=>cases h
 |mv x=>exact cX (eQ x) λ_=>hM _
 |pick c a b=>
  refine cX (eQ c) λv=>?_;grind [cX,eQ,hM,tF]
 |build zero parts=>
  refine cX (qi parts) λv=>?_;grind [pM,tF]
 |nilchk x=>
  refine cX (eQ x) λv=>?_;grind [hM,tF]
 |bin op t x y=>exact cX (eQ x) λ_=>cX (eQ y) λ_=>pM _
 |un op x=>exact cX (eQ x) λ_=>pM _
 |conv k x=>
  refine cX (eQ x) λv=>?_;split;exact hM _;exact hM _;cases h;cases h;simp[tF]
 |slice k x lo hi mx=>
  cases k with
  |sl esz=>cases h
  |str=>
   refine cX (eQ x) λv=>cX (XL lo) λ_=>cX (XL hi) λ_=>cX (XL mx) λ_=>?_;split;rename_i b i n;intro s e g;exfalso;rw[run_bind]at g;cases h1:(fz (.slr b i n)).run s<;>grind [fz,RM.run,E0]
   simp[pM]
 |faddr off x=>exact cX (eQ x) λ_=>pM _
 |field agg off size x=>exact cX (eQ x) λ_=>pM _
 |aaddr len esz x y=>exact cX (eQ x) λ_=>cX (eQ y) λ_=>pM _
 |sidx x y=>
  refine cX (eQ x) λv=>cX (eQ y) λu=>?_;grind [tF,hM]
 |aidx agg len esz x y=>
  refine cX (eQ x) λv=>cX (eQ y) λu=>?_;grind [pM,tF]
 |extr x i=>exact cX (eQ x) λ_=>pM _
 |len str x=>exact cX (eQ x) λ_=>pM _
 |alen n=>exact hM _
 |mm mx x y=>exact cX (eQ x) λ_=>cX (eQ y) λ_=>pM _
 |mkfn f a b=>exact cX (YN a) λ_=>cX (YN b) λ_=>hM _
theorem Bk{op:AOp}(h:FR op=false):xT op=false:=by
 cases op<;>first|rfl|cases h|skip
 rename_i k x;cases k<;>first|rfl|cases h
 rename_i k x lo hi mx;cases k<;>first|rfl|cases h
theorem JJk{op:AOp}(h:xT op=false):kL op=0:=by
 cases op<;>first|rfl|cases h|skip
 rename_i k x;cases k<;>first|rfl|cases h
theorem YX(F:Orc)(i:bV)(new:Nat)(h:xT i.op=false):W0 (bZ F i new):=by
 have h1:W0 (opD F i.op new):=dH λ_=>JK8 F _ _ h;grind [bZ,JIR,pI,rI]
theorem D8(F:Orc)(i:bV)(new:Nat)(h:FR i.op=false):B0 (bZ F i new):=by
 have h1:B0 (opD F i.op new):=by unfold opD;rw[JJk (Bk h)];exact cX (hM _) λ_=>JKI F _ _ h
 grind [bZ,JJB,hM,tF]
end Go.Am
end
section
namespace Go.Am
theorem bind_some{α β:Type}{m:RM α}{f:α->RM β}{s:St}{b:β}(h:(m.bind f).run s=some b): ∃a,m.run s=some a/\(f a).run s=some b:=by rw[run_bind]at h;cases hm:m.run s<;>simp_all
theorem gK{x:Option AV}{s:St}{e:Eff}(h:(val x).run s=some e): ∃v,x=some v/\e=⟨v,[]⟩:=by cases x<;>simp_all [val,RM.run]
theorem Dz{w C c v}(h:okP c v=true):J0i w C c v:=by
 unfold okP at h;split at h;rename_i x y;have:x=y:=by simpa using h
 subst this;exact .b _;simp at h;obtain⟨rfl,rfl⟩:=h;exact .i _ _;rename_i l e;have:l=e.data.toList:=by simpa using h
 subst this;exact .s _;exact .sl0 _ _ _;exact .np;exact .nf;cases h
theorem PR{w C}: ∀{cs:List PV} {vs:List Value},xO cs vs=true->cs.length=vs.length/\ ∀(i:Nat) x v,cs[i]?=some x->vs[i]?=some v->J0i w C x v
 |[],[],_=>⟨rfl,λi x v h=>by simp at h⟩
 |x::xs,v::vs,h=>by
  simp only[xO,JX]at h;obtain⟨h1,h2⟩:=PR (w:=w) (C:=C) h.2;grind [Dz]
 |[],_::_,h=>by grind [xO]
 |_::_,[],h=>by grind [xO]
theorem JIs{s:Sn}{c v}(h:okC c v=true):JJ s c v:=by
 unfold okC at h;split at h;exact .p _ _ (Dz h);rename_i cs vs;obtain⟨h1,h2⟩:=PR (w:=s.w) (C:=s.g.C) h;exact .data _ _ (by simpa using h1) λi x v j e=>h2 i x v j (by simpa using e);rename_i f g a c;simp at h;obtain⟨⟨rfl,rfl⟩,rfl⟩:=h;exact .fn _ _ _ _ _ rfl rfl (λi x v h=>by simp at h) (λi x v h=>by simp at h);simp at h;subst h;exact .tup _ _ rfl (λi x v h=>by simp at h);cases h
def bM(s:Sn)(tmps:Array Value)(env:List (Nat×AV)):Prop:= ∀n x,lk n env=some x-> ∃v,tmps[n]?=some v/\JJ s x v
theorem bM.mono{s0 s:Sn}(hi:Inv s0)(t:aZ s0 s){tmps env}(h:bM s0 tmps env):bM s tmps env:=
 λn x e=>let⟨v,h1,h2⟩:=h n x e;⟨v,h1,h2.mono hi t⟩
section
variable {P:Program} {s:Sn} {a:Act} {env:List (Nat×AV)}
theorem bH(he:bM s a.tmps env){x:Opd}{y:Operand}{v:AV}(h:(ev x).run ⟨env,s.σ⟩=some v)(hc:bJ x y=true):JJ s v (a.eval y):=by
 cases x with
 |t n=>
  cases y<;>simp[bJ]at hc;subst hc;simp only[ev,RM.run]at h;split at h
  rename_i u e;injection h with h;subst h;obtain⟨w,h1,h2⟩:=he _ _ e;simp_all [Act.eval];cases h
 |c z=>
  simp only[ev,RM.run]at h;injection h with h;subst h;cases y with
  |const u=>exact JIs (v:=u) (by grind [bJ])
  |func g=>
   cases z<;>simp[bJ]at hc;rename_i f first caps
   cases first<;>cases caps<;>simp[bJ]at hc
   subst hc;exact .fn _ _ _ _ _ rfl rfl (λi x v h=>by simp at h) (λi x v h=>by simp at h)
  |tmp n=>grind [bJ]
  |global n=>grind [bJ]
theorem CZ(he:bM s a.tmps env): ∀{xs:List Opd} {e:List Operand} {vs:List AV},(evs xs).run ⟨env,s.σ⟩=some vs->iC xs e=true->
  vs.length=e.length/\ ∀(i:Nat) x v,vs[i]?=some x->(e.map a.eval)[i]?=some v->JJ s x v
 |[],[],vs,h,_=>by
  grind [evs,RM.run]
 |x::xs,y::e,vs,h,g=>by
  simp only[iC,JX]at g;simp only[evs]at h;obtain⟨u,h1,h⟩:=bind_some h;obtain⟨j,h2,h⟩:=bind_some h;simp only[RM.run]at h;injection h with h;subst h;obtain⟨l,r⟩:=CZ he h2 g.2;grind [bH]
 |[],_::_,_,_,g=>by grind [iC]
 |_::_,[],_,_,g=>by grind [iC]
def bL(P:Program)(o:Oper)(a:Act)(s:Sn)(e:Eff):Prop:= ∀(next:Act->World->Prop) (Q:Exit->Act->World->Prop),(∀v w' g',Inv ⟨upd e.ws s.σ,g',w'⟩->aZ s ⟨upd e.ws s.σ,g',w'⟩->JJ ⟨upd e.ws s.σ,g',w'⟩ e.val v->next (a.put o.dst v) w')->o.wp P a s.w next Q
theorem fX{o:Oper}{e:Eff}{v:Value}{w':World}{g':Gh}(hr:(execOp a.eval o).run P s.w=.ok (.value v) w')
  (hi:Inv ⟨upd e.ws s.σ,g',w'⟩) (t:aZ s ⟨upd e.ws s.σ,g',w'⟩) (hv:JJ ⟨upd e.ws s.σ,g',w'⟩ e.val v):bL P o a s e:=by
 intro next Q h;grind [Oper.wp,Oper.upon]
theorem JK{o:Oper}{x:AV}{v:Value}(hi:Inv s)(hr:(execOp a.eval o).run P s.w=.ok (.value v) s.w)(hv:JJ s x v):bL P o a s ⟨x,[]⟩:=
 fX (e:=⟨x,[]⟩) (g':=s.g) hr hi (.refl s) hv
theorem s7{t:TypeId}{i:TypeInfo}(h:P.info? t=some i)(w:World):(typeInfo t).run P w=.ok i w:=by simp[typeInfo,h]
theorem gX{t:TypeId}{n:Nat}(h:szT P t=some n)(w:World):(sizeOf t).run P w=.ok n w:=by unfold szT at h;cases hi:P.info? t<;>simp_all [sizeOf,s7]
theorem DD{t:TypeId}{b:Bool}(h:agT P t=some b)(w:World):(isAgg t).run P w=.ok b w:=by
 unfold agT at h;cases hu:P.underlying t with
 |none=>simp_all
 |some d=>rw[hu]at h;simp at h;simp only[isAgg,xU,run_underlying hu,sM];subst h;cases d<;>rfl
theorem fE{t e:TypeId}(h:elT P t=some e):P.underlying t=some (.slice e):=by
 grind [elT]
theorem wC{t:TypeId}(h:iD P t=true):P.underlying t=some .string:=by
 grind [iD]
theorem oj{t:TypeId}(h:TL P t=true):P.underlying t=some (.int .u8):=by
 grind [TL]
theorem Hu{t:TypeId}(h:YP P t=true):P.underlying t=some .bool:=by
 grind [YP]
theorem JEA{t:TypeId}(h:ky P t=true): ∃k,P.underlying t=some (.int k):=by
 grind [ky]
theorem JDQ{t:TypeId}{k:IntKind}(h:XZ P k t=true):P.underlying t=some (.int k):=by
 grind [XZ]
theorem da{t e:TypeId}{n:Nat}(h:arT P t=some (n,e)):P.underlying t=some (.array n e):=by
 grind [arT]
theorem n3{t:TypeId}{fs:Array Field}(h:flT P t=some fs):P.underlying t=some (.struct fs):=by
 grind [flT]
theorem iE{x k n}(h:JJ s (.p (.i k n)) x):x=.int k n:=by cases h with|p _ _ h=>cases h;rfl
theorem NX{x n}(h:JJ s (.p (.b n)) x):x=.bool n:=by cases h with|p _ _ h=>cases h;rfl
theorem sX{x l}(h:JJ s (.p (.s l)) x):x=.string ⟨l.toArray⟩:=by cases h with|p _ _ h=>cases h;rfl
theorem JIk{x}(h:JJ s (.p .np) x):x=.pointer none:=by cases h with|p _ _ h=>cases h;rfl
theorem JJG{x}(h:JJ s (.p .nf) x):x=.nilFunc:=by cases h with|p _ _ h=>cases h;rfl
theorem pR(k n):JJ s (.p (.i k n)) (.int k n):=.p _ _ (.i _ _)
theorem pP(n):JJ s (.p (.b n)) (.bool n):=.p _ _ (.b _)
theorem D6(l):JJ s (.p (.s l)) (.string ⟨l.toArray⟩):=.p _ _ (.s _)
theorem tD(l:List UInt8):ByteArray.size ⟨l.toArray⟩=l.length:=by simp[ByteArray.size]
theorem JEP(l m:List UInt8):(⟨l.toArray⟩:ByteArray)++⟨m.toArray⟩=⟨(l++m).toArray⟩:=by apply ByteArray.ext;simp_all
theorem Hv{op:BinOp}{k:IntKind}{x y:Int}{t:TypeId}{r:PV}(n:op≠.shl)(j:op≠.shr)(h:xB op k x y=some r)(w:World):
  ∃v,(binOp op t (.int k x) (.int k y)).run P w=.ok v w/\J0i s.w s.g.C r v:=by
 cases op<;>simp only[xB]at h
 case add=>injection h with h;subst h;exact⟨_,by simp[binOp,Op.intArith],.i _ _⟩
 case sub=>injection h with h;subst h;exact⟨_,by simp[binOp,Op.intArith],.i _ _⟩
 case mul=>injection h with h;subst h;exact⟨_,by simp[binOp,Op.intArith],.i _ _⟩
 case quo=>split at h
           cases h;rename_i e;injection h with h;subst h;exact⟨_,by simp[binOp,Op.intDiv,e],.i _ _⟩
 case rem=>split at h
           cases h;rename_i e;injection h with h;subst h;exact⟨_,by simp[binOp,Op.intDiv,e],.i _ _⟩
 case and=>injection h with h;subst h;exact⟨_,by simp[binOp,Op.intBits],.i _ _⟩
 case or=>injection h with h;subst h;exact⟨_,by simp[binOp,Op.intBits],.i _ _⟩
 case xor=>injection h with h;subst h;exact⟨_,by simp[binOp,Op.intBits],.i _ _⟩
 case eql=>injection h with h;subst h;exact⟨_,by simp[binOp,Op.intCmp],.b _⟩
 case neq=>injection h with h;subst h;exact⟨_,by simp[binOp,Op.intCmp],.b _⟩
 case lss=>injection h with h;subst h;exact⟨_,by simp[binOp,Op.intCmp],.b _⟩
 case leq=>injection h with h;subst h;exact⟨_,by simp[binOp,Op.intCmp],.b _⟩
 case gtr=>injection h with h;subst h;exact⟨_,by simp[binOp,Op.intCmp],.b _⟩
 case geq=>injection h with h;subst h;exact⟨_,by simp[binOp,Op.intCmp],.b _⟩
 all_goals simp_all
theorem tx{op:BinOp}{k j:IntKind}{x y:Int}{t:TypeId}{r:PV}(hs:op=.shl\/op=.shr)(h:ID op k x y=some r)(w:World):
  ∃v,(binOp op t (.int k x) (.int j y)).run P w=.ok v w/\J0i s.w s.g.C r v:=by
 unfold ID at h;split at h;cases h;rename_i e;rcases hs with rfl|rfl;injection h with h;subst h;exact⟨_,by simp[binOp,Op.shift,e],.i _ _⟩;injection h with h;subst h;exact⟨_,by simp[binOp,Op.shift,e],.i _ _⟩
theorem Ga{op:BinOp}{x y:List UInt8}{t:TypeId}{r:PV}(h:xF op x y=some r)(w:World):
  ∃v,(binOp op t (.string ⟨x.toArray⟩) (.string ⟨y.toArray⟩)).run P w=.ok v w/\J0i s.w s.g.C r v:=by
 cases op<;>simp only[xF]at h
 case add=>
  split at h;rename_i hl;injection h with h;subst h;refine⟨.string ⟨(x++y).toArray⟩,?_,.s _⟩;have h1: ¬(((ByteArray.size ⟨x.toArray⟩+ByteArray.size ⟨y.toArray⟩:Nat):Int)>IntKind.i64.max):=by rw[tD,tD];show¬(_>(9223372036854775807:Int));omega
  simp_all [binOp,Op.stringOp,JEP];cases h
 case eql=>injection h with h;subst h;exact⟨.bool (x==y),by simp[binOp,Op.stringOp],.b _⟩
 case neq=>injection h with h;subst h;exact⟨.bool (!(x==y)),by simp[binOp,Op.stringOp],.b _⟩
 case lss=>injection h with h;subst h;exact⟨.bool (Op.bytesLess x y),by simp[binOp,Op.stringOp],.b _⟩
 case leq=>injection h with h;subst h;exact⟨.bool (Op.bytesLess x y||x==y),by simp[binOp,Op.stringOp],.b _⟩
 case gtr=>injection h with h;subst h;exact⟨.bool (!(Op.bytesLess x y||x==y)),by simp[binOp,Op.stringOp],.b _⟩
 case geq=>injection h with h;subst h;exact⟨.bool (!Op.bytesLess x y),by simp[binOp,Op.stringOp],.b _⟩
 all_goals cases h
end
end Go.Am
end
section
namespace Go.Am
section
variable {P:Program} {F:Orc} {s:Sn} {a:Act} {env:List (Nat×AV)} {o:Oper} {new:Nat} {e:Eff}
theorem JM2(hi:Inv s)(he:bM s a.tmps env){x}(h:(opR F (.mv x) new).run ⟨env,s.σ⟩=some e)(hc:JV P (.mv x) o.op=true):bL P o a s e:=by
 simp only[opR]at h;obtain⟨v,h1,h⟩:=bind_some h;simp only[RM.run]at h;injection h with h;subst h;unfold JV at hc;simp only at hc;split at hc;rename_i y g;exact JK hi (by simp_all [execOp]) (bH he h1 hc);rename_i y g;exact JK hi (by simp_all [execOp]) (bH he h1 hc);cases hc
theorem JIx(hi:Inv s)(he:bM s a.tmps env){c x y}(h:(opR F (.pick c x y) new).run ⟨env,s.σ⟩=some e)(hc:JV P (.pick c x y) o.op=true):bL P o a s e:=by
 simp only[opR]at h;obtain⟨v,h1,h⟩:=bind_some h;unfold JV at hc;simp only at hc;split at hc;rename_i c' k j n;simp only[JX]at hc;split at h;rename_i b;have q:=NX (bH he h1 hc.1.1);split at h;rename_i g;obtain⟨u,h2,h⟩:=bind_some h;simp only[RM.run]at h;injection h with h;subst h;exact JK hi (v:=a.eval k) (by simp_all [execOp,asBool]) (bH he h2 hc.1.2);rename_i g;obtain⟨u,h2,h⟩:=bind_some h;simp only[RM.run]at h;injection h with h;subst h;have g:b=false:=by simpa using g
 exact JK hi (v:=a.eval j) (by simp_all [execOp,asBool]) (bH he h2 hc.2);grind [RM.run];cases hc
theorem JEb(hi:Inv s)(he:bM s a.tmps env){x}(h:(opR F (.nilchk x) new).run ⟨env,s.σ⟩=some e)(hc:JV P (.nilchk x) o.op=true):bL P o a s e:=by
 simp only[opR]at h;obtain⟨v,h1,h⟩:=bind_some h;unfold JV at hc;simp only at hc;split at hc;rename_i y n;have g:=bH he h1 hc;split at h<;>(simp only[RM.run]at h;try cases h)
 refine JK hi (v:=a.eval y) ?_ g;generalize j:a.eval y=u at g;cases g;simp_all [execOp];refine JK hi (v:=a.eval y) ?_ g;generalize j:a.eval y=u at g;cases g;simp_all [execOp];refine JK hi (v:=a.eval y) ?_ g;generalize j:a.eval y=u at g;cases g with
 |ep _ _ _ _ _ _ _ _ k=>obtain⟨r,q,rfl⟩:=k;simp_all [execOp]
 refine JK hi (v:=a.eval y) ?_ g;generalize j:a.eval y=u at g;cases g;simp_all [execOp];cases hc
theorem KY{op:BinOp}{t:TypeId}{x y:Operand}{u v:Value}(h:(∀c,u≠.agg c)/\u≠.nilIface)(w:World):(eqGuard op t x y u v).run P w=.ok () w:=by simp_all [eqGuard]
theorem Io(hi:Inv s)(he:bM s a.tmps env){op x y}(h:(opR F (.bin op .plain x y) new).run ⟨env,s.σ⟩=some e)(hc:JV P (.bin op .plain x y) o.op=true):bL P o a s e:=by
 simp only[opR]at h;obtain⟨u,h1,h⟩:=bind_some h;obtain⟨v,h2,h⟩:=bind_some h;obtain⟨r,g,rfl⟩:=gK h;unfold JV at hc;simp only at hc;split at hc;rename_i M t B E ty L;simp only[JX,beq_iff_eq]at hc;obtain⟨⟨rfl,K⟩,J⟩:=hc;have C:=bH he h1 K;have D:=bH he h2 J;have j: ∀{z:Value},(∀c,a.eval B≠.agg c)/\a.eval B≠.nilIface->(binOp op t (a.eval B) (a.eval E)).run P s.w=.ok z s.w->(execOp a.eval o).run P s.w=.ok (.value z) s.w:=by simp_all [execOp,KY]
 simp only[nC]at g;split at g;rename_i N p O q;rw[iE C,iE D]at j;split at g;obtain⟨z,k,rfl⟩:=hZ.1 g;obtain⟨v,A,n⟩:=tx (s:=s) (P:=P) (t:=t) (.inl rfl) k s.w;exact JK hi (j (by simp) A) (.p _ _ n);obtain⟨z,k,rfl⟩:=hZ.1 g;obtain⟨v,A,n⟩:=tx (s:=s) (P:=P) (t:=t) (.inr rfl) k s.w;exact JK hi (j (by simp) A) (.p _ _ n);rename_i G H;split at g;rename_i I;subst I;obtain⟨z,k,rfl⟩:=hZ.1 g;obtain⟨v,A,n⟩:=Hv (s:=s) (P:=P) (t:=t) (λe=>G e) (λe=>H e) k s.w;exact JK hi (j (by simp) A) (.p _ _ n);cases g;rw[sX C,sX D]at j;obtain⟨z,k,rfl⟩:=hZ.1 g;obtain⟨v,A,n⟩:=Ga (s:=s) (P:=P) (t:=t) k s.w;exact JK hi (j (by simp) A) (.p _ _ n);cases g;cases hc
theorem Fh(hi:Inv s)(he:bM s a.tmps env){op x y}(h:(opR F (.bin op .bool x y) new).run ⟨env,s.σ⟩=some e)(hc:JV P (.bin op .bool x y) o.op=true):bL P o a s e:=by
 simp only[opR]at h;obtain⟨u,h1,k⟩:=bind_some h;obtain⟨v,h2,j⟩:=bind_some k;obtain⟨r,g,rfl⟩:=gK j;clear h k j;unfold JV at hc;simp only at hc;split at hc
 ·rename_i C t G E ty B;simp only[JX,beq_iff_eq]at hc;obtain⟨⟨rfl,A⟩,z,ht⟩:=hc;have n:=bH he h1 A;have w:=bH he h2 z;have I:=Hu ht;simp only[nC]at g;split at g
  ·rename_i _ _ p q;have D:=NX n;have H:=NX w;cases op<;>simp only[iL]at g<;>first|(injection g with g;subst g)|cases g
   all_goals simp_all [JK,execOp,eqGuard,binOp,run_equal_bool,pP]
  cases g
 cases hc
theorem QK{op:BinOp}{t:TypeId}{u v:Value}{b:Bool}(ho:op=.eql\/op=.neq){w:World}(h:(Op.equal t u v).run P w=.ok b w)
  (hu:(∃x n c,u=.slice x n c)\/(∃p,u=.pointer p/\v=.pointer none)\/u=.nilFunc\/(∃f y c,u=.func f y c)):
  (binOp op t u v).run P w=.ok (.bool (if op=.eql then b else !b)) w:=by
 rcases ho with rfl|rfl;have:binOp .eql t u v=(do pure (.bool (<-Op.equal t u v))):=(by grind [binOp]);simp_all;have:binOp .neq t u v=(do pure (.bool (!(<-Op.equal t u v)))):=(by grind [binOp]);simp_all
theorem tJ{op:BinOp}{b:Bool}{r:AV}(h:iL op (some b)=some r):(op=.eql\/op=.neq)/\r=.p (.b (if op=.eql then b else !b)):=by
 cases op<;>simp[iL]at h
 all_goals simp_all
theorem ql{op:BinOp}{r:AV}(h:FO op=some r):(op=.eql\/op=.neq)/\r=.unk:=by
 cases op<;>simp[FO]at h
 all_goals simp_all
theorem JAi(hi:Inv s)(he:bM s a.tmps env){op x y}(h:(opR F (.bin op .nils x y) new).run ⟨env,s.σ⟩=some e)(hc:JV P (.bin op .nils x y) o.op=true):bL P o a s e:=by
 simp only[opR]at h;obtain⟨u,h1,D⟩:=bind_some h;obtain⟨v,h2,B⟩:=bind_some D;obtain⟨r,g,rfl⟩:=gK B;clear h D B h2;unfold JV at hc;simp only at hc;split at hc;rename_i L t A G ty K;simp only[JX,beq_iff_eq]at hc;obtain⟨⟨rfl,J⟩,ht⟩:=hc;have C:=bH he h1 J;clear h1;have H:G=.const (.slice none 0 0)/\ ∃el,P.underlying t=some (.slice el):=(by unfold zk at ht;split at ht;obtain⟨el,M⟩:=g7.1 ht;simp_all [fE];cases ht);obtain⟨rfl,el,I⟩:=H;have go: ∀(z:Option Addr) (n c:Nat),a.eval A=.slice z n c->(op=.eql\/op=.neq)->
   (execOp a.eval o).run P s.w=.ok (.value (.bool (if op=.eql then z.isNone else !z.isNone))) s.w:=by
  intro z n c k j;have h1:=QK (P:=P) (t:=t) j (run_equal_slice_nil s.w t el z n c I) (.inl ⟨z,n,c,rfl⟩);simp_all [execOp,KY,Act.eval]
 simp only[nC]at g;split at g;rename_i esz rows;cases C with
 |p _ _ q=>
  split at g;obtain⟨j,rfl⟩:=ql g;generalize k:a.eval A=z at q;cases q with
  |sl0 _ ad cap=>exact JK hi (go _ _ _ k j) (.unk _)
  |sl _ _ r O cap vals=>exact JK hi (go _ _ _ k j) (.unk _)
  obtain⟨j,rfl⟩:=tJ g;generalize k:a.eval A=z at q;cases q<;>simp_all [JK,pP]
 rename_i b i n;generalize k:a.eval A=z at C;cases C with
 |slr _ _ _ _ wm esz rows E=>
  obtain⟨ad,cap,rfl,Q⟩:=E;split at g;obtain⟨j,rfl⟩:=ql g;exact JK hi (go _ _ _ k j) (.unk _);rename_i N;obtain⟨j,rfl⟩:=tJ g;have:ad.isNone=false:=by cases ad<;>simp_all
  grind [JK,pP]
 cases g;cases hc
theorem F6(hi:Inv s)(he:bM s a.tmps env){op x y}(h:(opR F (.bin op .nilp x y) new).run ⟨env,s.σ⟩=some e)(hc:JV P (.bin op .nilp x y) o.op=true):bL P o a s e:=by
 simp only[opR]at h;obtain⟨u,h1,q⟩:=bind_some h;obtain⟨v,h2,n⟩:=bind_some q;obtain⟨r,g,rfl⟩:=gK n;clear h q n h2;unfold JV at hc;simp only at hc;split at hc;rename_i H t A B ty G;simp only[JX,beq_iff_eq]at hc;obtain⟨⟨rfl,E⟩,ht⟩:=hc;have j:=bH he h1 E;clear h1;have D:B=.const (.pointer none)/\ ∃el,P.underlying t=some (.pointer el):=(by grind [A2]);obtain⟨rfl,el,I⟩:=D;have go: ∀(z:Option Addr),a.eval A=.pointer z->(op=.eql\/op=.neq)->
   (execOp a.eval o).run P s.w=.ok (.value (.bool (if op=.eql then z.isNone else !z.isNone))) s.w:=by
  intro z C k;have:P.pointee t=el:=by grind [Program.pointee]
  simp_all [QK,run_equal_pointer_nil,execOp,KY,Act.eval]
 simp only[nC]at g;generalize C:a.eval A=z at j;split at g;obtain⟨k,rfl⟩:=tJ g;grind [JIk,JK,pP];obtain⟨k,rfl⟩:=tJ g;cases j;grind [JK,pP];obtain⟨k,rfl⟩:=tJ g;cases j;grind [JK,pP];obtain⟨k,rfl⟩:=tJ g;cases j<;>grind [JK,pP]
 cases g;cases hc
theorem JAf(hi:Inv s)(he:bM s a.tmps env){op x y}(h:(opR F (.bin op .nilf x y) new).run ⟨env,s.σ⟩=some e)(hc:JV P (.bin op .nilf x y) o.op=true):bL P o a s e:=by
 simp only[opR]at h;obtain⟨u,h1,q⟩:=bind_some h;obtain⟨v,h2,k⟩:=bind_some q;obtain⟨r,g,rfl⟩:=gK k;clear h q k h2;unfold JV at hc;simp only at hc;split at hc;rename_i I t D C ty H;simp only[JX,beq_iff_eq]at hc;obtain⟨⟨rfl,G⟩,ht⟩:=hc;have n:=bH he h1 G;clear h1;have E:C=.const .nilFunc/\ ∃p r v,P.underlying t=some (.func p r v):=(by grind [ze]);obtain⟨rfl,p,J,vv,B⟩:=E;simp only[nC]at g;generalize K:a.eval D=z at n;split at g;obtain⟨A,rfl⟩:=tJ g;have:=JJG n;subst this;have j:(Op.equal t .nilFunc .nilFunc).run P s.w=.ok true s.w:=by
  have: ∀d,(Op.equalIn (d+1) t .nilFunc .nilFunc).run P s.w=.ok true s.w:=λd=>by simp[Op.equalIn,run_underlying B]
  exact this 9999
 simp_all [QK,JK,pP,execOp,KY,Act.eval];obtain⟨A,rfl⟩:=tJ g;cases n;rename_i f _ _ fs cs _ _ _ _;have j:(Op.equal t (.func (.func f) fs cs) .nilFunc).run P s.w=.ok false s.w:=by
  have: ∀d,(Op.equalIn (d+1) t (.func (.func f) fs cs) .nilFunc).run P s.w=.ok false s.w:=λd=>by simp[Op.equalIn,run_underlying B]
  exact this 9999
 have h1:=QK (P:=P) (t:=t) A j (.inr (.inr (.inr ⟨_,_,_,rfl⟩)));simp_all [JK,pP,execOp,KY,Act.eval];cases g;cases hc
end
end Go.Am
end
section
namespace Go.Am
theorem DZ: ∀{vs:List Value} {w:World} {r o:Nat} {c:Array Value} {e:TypeId} {fz:Nat×Nat},w.heap[r]?=some (.cells c e fz)->o+vs.length<=c.size->
  Put r o vs w (w.setCells r o vs)
 |[],w,r,o,c,e,fz,h,hl=>⟨⟨c,e,fz,c,h,h,rfl,hl,λj v q=>by simp at q,λ_ _=>rfl⟩,λ_ _=>rfl,rfl,rfl,rfl⟩
 |v::vs,w,r,o,c,e,fz,h,hl=>by
  have J:=DQ h;have n:o+1+vs.length<=c.size:=by grind
  have h1:(w.setCell ⟨r,o,none⟩ v).heap[r]?=some (.cells (c.setIfInBounds o v) e fz):=(by grind [World.setCell]);obtain⟨⟨G,K,C,c',g,y,x,E,D,F⟩,I,L,A,z⟩:=DZ (vs:=vs) (o:=o+1) h1 (by simpa using n);rw[h1]at g;injection g with g;injection g with a1 a2 a3;subst a1 a2 a3;refine⟨⟨c,e,fz,c',h,y,by simpa using x,hl,λj u q=>?_,λk H=>?_⟩,λr' B=>?_,?_,A,z⟩;grind;grind;show((w.setCell ⟨r,o,none⟩ v).setCells r (o+1) vs).heap[r']?=_;grind [World.setCell];show((w.setCell ⟨r,o,none⟩ v).setCells r (o+1) vs).heap.size=_;simp_all
theorem J0i.one{w C x v}(h:J0i w C x v):v.oneCell'=true:=by cases h<;>rfl
theorem J0i.cells1{w C x v}(h:J0i w C x v):v.cells= #[v]:=by cases h<;>rfl
section
variable {P:Program} {F:Orc} {s:Sn} {a:Act} {env:List (Nat×AV)} {o:Oper} {new:Nat} {e:Eff}
theorem JLU(hi:Inv s)(he:bM s a.tmps env){op x}(h:(opR F (.un op x) new).run ⟨env,s.σ⟩=some e)(hc:JV P (.un op x) o.op=true):bL P o a s e:=by
 simp only[opR]at h;obtain⟨u,h1,q⟩:=bind_some h;obtain⟨r,g,rfl⟩:=gK q;clear h q;unfold JV at hc;simp only at hc;split at hc;rename_i B t y A;simp only[JX,beq_iff_eq]at hc;obtain⟨rfl,w⟩:=hc;have j:=bH he h1 w;clear h1;generalize C:a.eval y=z at j;unfold unP at g;split at g<;>first|(injection g with g;subst g)|cases g
 rename_i k n;have:=iE j;simp_all [JK,execOp,Op.unary,Op.intArith,pR];rename_i k n;have:=iE j;simp_all [JK,execOp,Op.unary,Op.intBits,pR];rename_i b;have:=NX j;simp_all [JK,execOp,Op.unary,pP];cases j with
 |unk b=>exact JK hi (v:=.bool (!b)) (by simp_all [execOp,Op.unary]) (.unk _)
 cases hc
theorem JGj(hi:Inv s)(he:bM s a.tmps env){off x}(h:(opR F (.faddr off x) new).run ⟨env,s.σ⟩=some e)(hc:JV P (.faddr off x) o.op=true):bL P o a s e:=by
 simp only[opR]at h;obtain⟨u,h1,C⟩:=bind_some h;obtain⟨r,j,rfl⟩:=gK C;clear h C;unfold JV at hc;simp only at hc;split at hc;rename_i t y f G;simp only[JX]at hc;obtain⟨E,ht⟩:=hc;have q:=bH he h1 E;clear h1;have hf: ∃fs k n,P.underlying t=some (.struct fs)/\fs[f]?=some k/\k.offset=off/\szT P k.type=some n/\n≠0:=(by grind [n3]);obtain⟨fs,k,n,L,H,rfl,M,I⟩:=hf;have go: ∀(r g:Nat),a.eval y=.pointer (some ⟨r,g,none⟩)->(execOp a.eval o).run P s.w=.ok (.value (.pointer (some ⟨r,g+k.offset,none⟩))) s.w:=by simp_all [Addr.add,execOp,Instr.fieldAt,run_underlying,Instr.sureAddr,fieldPlace,gX]
 generalize B:a.eval y=z at q;unfold IA at j;split at j<;>first|(injection j with j;subst j)|cases j
 cases q with
 |ptr _ _ r g m D=>exact JK hi (go _ _ B) (by rw[AW];exact .ptr _ _ r g m D)
 cases q with
 |cp cs _ r g vals A v=>exact JK hi (go _ _ B) (by rw[AW];exact .cp _ _ r g vals A v)
 cases q with
 |ep _ _ _ _ _ wm esz rows p0 A v J=>
  obtain⟨r,g,rfl⟩:=p0;refine JK hi (go _ _ B) (.ep _ _ _ _ _ wm esz rows ⟨_,_,rfl⟩ A v λN K=>?_);grind
 cases hc
theorem JJm(hi:Inv s)(he:bM s a.tmps env){x i}(h:(opR F (.extr x i) new).run ⟨env,s.σ⟩=some e)(hc:JV P (.extr x i) o.op=true):bL P o a s e:=by
 simp only[opR]at h;obtain⟨u,h1,n⟩:=bind_some h;obtain⟨r,g,rfl⟩:=gK n;clear h n;unfold JV at hc;simp only at hc;split at hc;rename_i y j k;simp only[JX,beq_iff_eq]at hc;obtain⟨C,rfl⟩:=hc;have q:=bH he h1 C;generalize B:a.eval y=z at q;unfold NF at g;split at g;cases q with
 |tup cs vs E A=>
  have D:=Jq g;have w:vs[i]?=some vs[i]:=by simp
  exact JK hi (v:=vs[i]) (by simp[execOp,k,B,Instr.extract,w]) (A i r _ g w)
 cases g;cases hc
theorem JID(hi:Inv s)(he:bM s a.tmps env){f first caps}(h:(opR F (.mkfn f first caps) new).run ⟨env,s.σ⟩=some e)(hc:JV P (.mkfn f first caps) o.op=true):bL P o a s e:=by
 simp only[opR]at h;obtain⟨u,h1,w⟩:=bind_some h;obtain⟨v,h2,j⟩:=bind_some w;simp only[RM.run]at j;injection j with j;subst j;clear h w;unfold JV at hc;simp only at hc;split at hc
 ·rename_i g k n D;simp only[JX,beq_iff_eq]at hc;obtain⟨⟨rfl,hf⟩,r⟩:=hc;obtain⟨A,y⟩:=CZ he h1 hf;obtain⟨B,z⟩:=CZ he h2 r;refine JK hi (v:=.func (.func f) (k.map a.eval) (n.map a.eval)) (by simp_all [execOp,Instr.makeFunc]) (.fn _ _ _ _ _ (by simpa using A) (by simpa using B) (λi x v q C=>y i x v q ?_) (λi x v q C=>z i x v q ?_))
  all_goals simp_all
 cases hc
theorem JM6(hi:Inv s)(he:bM s a.tmps env){mx x y}(h:(opR F (.mm mx x y) new).run ⟨env,s.σ⟩=some e)(hc:JV P (.mm mx x y) o.op=true):bL P o a s e:=by
 simp only[opR]at h;obtain⟨u,h1,w⟩:=bind_some h;obtain⟨v,h2,n⟩:=bind_some w;obtain⟨r,g,rfl⟩:=gK n;clear h w n;unfold JV at hc;simp only at hc;split at hc;rename_i c E;split at hc;rename_i b B;simp only[JX,beq_iff_eq]at hc;obtain⟨J,hc⟩:=hc;split at hc;rename_i A z j;simp only[JX]at hc;have C:=bH he h1 hc.1;have D:=bH he h2 hc.2;have K:c.args.map a.eval= #[a.eval A,a.eval z]:=by apply xA;simp[j]
 unfold mmP at g;split at g;rename_i k p H q;injection g with g;subst g;have G:=iE C;have I:=iE D;cases mx;simp_all [JK,pR,execOp,resolve,invoke,builtin,Builtin.min_,Builtin.min2];simp_all [JK,pR,execOp,resolve,invoke,builtin,Builtin.max_,Builtin.max2];cases g;cases hc;cases hc;cases hc
theorem JJW(hi:Inv s)(he:bM s a.tmps env){str x}(h:(opR F (.len str x) new).run ⟨env,s.σ⟩=some e)(hc:JV P (.len str x) o.op=true):bL P o a s e:=by
 simp only[opR]at h;obtain⟨u,h1,D⟩:=bind_some h;obtain⟨r,g,rfl⟩:=gK D;clear h D;unfold JV at hc;simp only at hc;split at hc;rename_i c v;split at hc;rename_i k;split at hc;rename_i y t q B;simp only[JX]at hc;obtain⟨J,ht⟩:=hc;have C:=bH he h1 J;have H:c.args.map a.eval= #[a.eval y]:=by apply xA;simp[q]
 have A:c.argTypes[0]?=some t:=by rw[<-FE,B];rfl
 generalize G:a.eval y=z at C;have L: ∀l:List UInt8,z=.string ⟨l.toArray⟩->iD P t=true->(execOp a.eval o).run P s.w=.ok (.value (.int .i64 l.length)) s.w:=by intro l hl j;have:=wC j;simp[execOp,v,resolve,k,H,G,hl,invoke,builtin,Builtin.len_,A,run_underlying this,goInt,tD]
 have K: ∀ad n cp,z=.slice ad n cp->(elT P t).isSome=true->(execOp a.eval o).run P s.w=.ok (.value (.int .i64 n)) s.w:=by intro ad n cp hl j;obtain⟨el,E⟩:=g7.1 j;have:=fE E;simp[execOp,v,resolve,k,H,G,hl,invoke,builtin,Builtin.len_,A,run_underlying this,goInt]
 unfold GE at g;split at g<;>first|(injection g with g;subst g)|cases g
 grind [JK,sX,pR];cases C with
 |p _ _ I=>cases I<;>simp_all [JK,pR]
 cases C<;>grind [JK,pR]
 cases hc;cases hc;cases hc
end
end Go.Am
end
section
namespace Go.Am
section
variable {P:Program} {F:Orc} {s:Sn} {a:Act} {env:List (Nat×AV)} {o:Oper} {new:Nat} {e:Eff}
theorem iS.of_p{s:Sn}{esz rows v}(h:JJ s (.p (.sl esz rows)) v):iS s esz rows v:=by
 grind [of_sl,cases Go.Am.JJ]
theorem qp(hi:Inv s){esz:Nat}{x:AV}{rows:List (List PV)}{v:Value}(h:(eL esz x).run ⟨env,s.σ⟩=some rows)(hr:JJ s x v):
  (∃l,x=.p (.s l)/\esz=1/\rows=l.map mE/\v=.string ⟨l.toArray⟩)\/iS s esz rows v:=by
 unfold eL at h;split at h;split at h;rename_i g;subst g;simp only[RM.run]at h;injection h with h;subst h;exact .inr (.of_p hr);cases h;grind [RM.run,sX];simp only[RM.run]at h;split at h;rename_i blk j;split at h;split at h;rename_i e;obtain⟨rfl,e⟩:=e;simp only[RM.run]at h;injection h with h;subst h;exact .inr (.of_slr hi hr j e);cases h;cases h;cases h;cases h
theorem ZZ{α:Type}{esz:Nat}: ∀{rows:List (List α)},(∀row∈rows,row.length=esz)-> ∀{k:Nat} {x:α},rows.flatten[k]?=some x->
  ∃i j row,k=i*esz+j/\rows[i]?=some row/\row[j]?=some x/\j<esz
 |[],_,k,x,h=>by simp at h
 |r::rows,hl,k,x,h=>by
  simp only[qO]at h;have w:r.length=esz:=hl r (by simp);rcases List.getElem?_append (l₁:=r) (l₂:=rows.flatten) (i:=k)▸h with e;split at e;exact⟨0,k,r,by simp,rfl,e,by omega⟩;obtain⟨i,j,row,v,q,o,g⟩:=ZZ (λrow n=>hl row (by simp[n])) e;exact⟨i+1,j,row,by grind,by simpa using q,o,g⟩
theorem PQ{α:Type}{esz:Nat}: ∀{rows:List (List α)},(∀row∈rows,row.length=esz)->rows.flatten.length=rows.length*esz
 |[],_=>by simp
 |r::rows,hl=>by
  have:=PQ (rows:=rows) (λrow e=>hl row (by simp[e]));grind
theorem iS.cells{s:Sn}{esz rows v}(h:iS s esz rows v):
  ∃(a:Option Addr) (cap:Nat) (vs:List Value),v=.slice a rows.length cap/\rows.length<=cap/\vs.length=rows.length*esz/\
   (∀(k:Nat) x,rows.flatten[k]?=some x-> ∃u,vs[k]?=some u/\J0i s.w s.g.C x u)/\
   (rows=[]\/ ∃r o,a=some ⟨r,o,none⟩/\ ∀(k:Nat) u,vs[k]?=some u->cellAt s.w r (o+k)=some u)/\(∀row∈rows,row.length=esz):=by
 obtain⟨a,cap,h1,h2,q,y⟩:=h;rcases y with rfl|⟨r,o,D,E⟩;simp_all;refine⟨a,cap,(List.range (rows.length*esz)).map λk=>(cellAt s.w r (o+k)).getD .nilFunc,h1,h2,by simp,λk x e=>?_,.inr ⟨r,o,D,λk u e=>?_⟩,q⟩;obtain⟨i,j,row,A,z,B,_⟩:=ZZ q e;grind [PQ];have n:=Jq e;simp at n;rw[gE,List.getElem?_range n]at e;simp at e;have:k<rows.flatten.length:=by grind [PQ]
 obtain⟨i,j,row,A,z,B,_⟩:=ZZ q (aS this);grind
theorem su: ∀{rows:List (List PV)} {l:List UInt8},tE rows=some l-> ∃e:List Int,rows=e.map (λn=>[PV.i .u8 n])/\l=e.map λn=>UInt8.ofNat n.toNat
 |[],l,h=>by simp_all [tE]
 |row::rows,l,h=>by
  unfold tE at h;split at h;simp_all;rename_i n r j;injection j with e1 e2;subst e1 e2;split at h;rename_i k g;injection h with h;subst h;obtain⟨e,h1,h2⟩:=su g;exact⟨n::e,by simp[h1],by simp[h2]⟩;cases h;cases h
theorem JC1(e:List Int): ∀b:ByteArray,(e.foldl (λr n=>r.push (UInt8.ofNat n.toNat)) b)=⟨b.data++(e.map λn=>UInt8.ofNat n.toNat).toArray⟩:=by
 induction e with
 |nil=>intro b;simp
 |cons n e ih=>simp_all
theorem vY(r o n:Nat):Addr.add ⟨r,o,none⟩ n=⟨r,o+n,none⟩:=by simp[Addr.add]
theorem pj{w:World}{r o:Nat}(vs:List Value)(h: ∀(k:Nat) u,vs[k]?=some u->cellAt w r (o+k)=some u):
  (loadCells ⟨r,o,none⟩ vs.length).run P w=.ok vs.toArray w:=
 run_loadCells_list w _ vs λj v e=>by grind [vY,pQ]
theorem JJe(hi:Inv s)(he:bM s a.tmps env){k x}(hk: ∀own,k≠.toBytes own)(h:(opR F (.conv k x) new).run ⟨env,s.σ⟩=some e)(hc:JV P (.conv k x) o.op=true):bL P o a s e:=by
 simp only[opR]at h;obtain⟨u,h1,g⟩:=bind_some h;clear h;unfold JV at hc;simp only at hc;split at hc;rename_i a0 dst y J;simp only[JX]at hc;obtain⟨Y,ht⟩:=hc;have q:=bH he h1 Y;generalize W:a.eval y=z at q;split at g;rename_i k' k1 n;simp only[RM.run]at g;injection g with g;subst g;simp only[JX]at ht;obtain⟨ks,H⟩:=JEA ht.1;have C:=JDQ ht.2;have:=iE q;simp_all [JK,execOp,convert,run_underlying,Conv.intToInt,pR];rename_i l;simp only[RM.run]at g;injection g with g;subst g;simp only[JX]at ht;have H:=wC ht.1;have C:=wC ht.2;have:=sX q;simp_all [JK,execOp,convert,run_underlying];simp only[JX]at ht;obtain⟨ht,C⟩:=ht;have C:=wC C;split at ht;rename_i el L;simp only[JX,beq_iff_eq]at ht;have H:=fE L;have M:=oj ht.1;obtain⟨rows,O,A⟩:=bind_some g;clear g;split at A;rename_i l hl;simp only[RM.run]at A;injection A with A;subst A;rcases qp hi O q with⟨V,rfl,_,R,I⟩|K
 
 have:=sX q;subst this;have:l=V:=by
  have: ∀l:List UInt8,tE (l.map mE)=some l:=by
   intro l
   induction l with
   |nil=>rfl
   |cons b l ih=>simp[tE,mE,ih]
  simp_all
 simp_all [JK,execOp,convert,run_underlying];obtain⟨ad,cap,vs,I,D,hlen,hrel,B,G⟩:=K.cells;obtain⟨j,Q,rfl⟩:=su hl;have hvs:vs=j.map (Value.int .u8):=by
  apply zQ6;intro k;have Z:rows.flatten=j.map (PV.i .u8):=by rw[Q];clear Q hl hrel hlen G B I D O q;induction j with|nil=>rfl|cons n j ih=>simp[ih]
  by_cases hk:k<j.length;obtain⟨u,hu,hp⟩:=hrel k (.i .u8 j[k]) (by simp_all);grind [cases Go.Am.J0i];simp_all
 have S:rows.length=vs.length:=by omega
 subst I;have E:(Conv.bytesToString (.slice ad rows.length cap)).run P s.w=.ok (.string ⟨(j.map λn=>UInt8.ofNat n.toNat).toArray⟩) s.w:=by
  rcases B with T|⟨r,U,rfl,hm⟩;have N:j=[]:=by simp_all
  subst N;cases ad with
  |none=>simp[Conv.bytesToString];rfl
  |some ad=>have:=run_bytesToString (P:=P) s.w ad rows.length cap [] (by simp_all [loadCells,loadCellsFrom]);rw[this];rfl
  have:=run_bytesToString (P:=P) s.w ⟨r,U,none⟩ rows.length cap j (by grind [pj]);simp_all [JC1]
 refine JK hi (v:=.string ⟨(j.map λn=>UInt8.ofNat n.toNat).toArray⟩) ?_ (D6 _);simp[execOp,J,W,convert,run_underlying H,run_underlying C,run_underlying M,E];cases A;cases ht;simp_all;cases g;cases hc
end
end Go.Am
end
section
namespace Go.Am
theorem IM{α:Type}{cs l:List α}{off size:Nat}(h:sub cs off size=some l):l.length=size/\off+size<=cs.length/\ ∀(i:Nat),i<size->l[i]?=cs[off+i]?:=by
 grind [sub]
theorem PI: ∀{cs:List AV} {l:List PV},unp cs=some l->cs=l.map .p
 |[],l,h=>by grind [unp]
 |x::cs,l,h=>by
  unfold unp at h;split at h;simp_all;rename_i c r e;injection e with e1 e2;subst e1 e2;split at h;rename_i g hl;injection h with h;subst h;simp[PI hl];cases h;cases h
section
variable {P:Program} {F:Orc} {s:Sn} {a:Act} {env:List (Nat×AV)} {o:Oper} {new:Nat} {e:Eff}
theorem ZD{agg:Bool}{l:List PV}{x:AV}{vs:List Value}(h:nU agg l=some x)(hl:l.length=vs.length)
  (hr: ∀(i:Nat) y v,l[i]?=some y->vs[i]?=some v->J0i s.w s.g.C y v):
  (agg=true/\JJ s x (.agg vs.toArray))\/(agg=false/\ ∃v,vs=[v]/\JJ s x v):=by
 cases agg with
 |true=>simp[nU]at h;subst h;exact .inl ⟨rfl,.data _ _ (by simpa using hl) λi y v j e=>hr i y v j (by simpa using e)⟩
 |false=>
  simp only[nU,eE,if_false]at h;split at h;injection h with h;subst h;obtain⟨v,rfl⟩: ∃v,vs=[v]:=TQ.1 (by simp_all);exact .inr ⟨rfl,v,rfl,.p _ _ (hr 0 _ v rfl rfl)⟩;cases h
theorem NT{agg:Bool}{l:List AV}{x:AV}{vs:List Value}(h:jU agg l=some x)(hl:l.length=vs.length)(h1: ∀v∈vs,v.oneCell'=true)
  (hr: ∀(i:Nat) y v,l[i]?=some y->vs[i]?=some v->JJ s y v):
  (agg=true/\JJ s x (.agg vs.toArray))\/(agg=false/\ ∃v,vs=[v]/\JJ s x v):=by
 cases agg with
 |true=>
  simp only[jU,if_true]at h;split at h;rename_i q j;injection h with h;subst h;have:=PI j;subst this;refine .inl ⟨rfl,.data _ _ (by simpa using hl) λi y v g e=>?_⟩;have:=hr i (.p y) v (by simp[g]) (by simpa using e);cases this<;>simp_all
  injection h with h;subst h;exact .inl ⟨rfl,.agg _ _ (by simpa using hl) (λi v e=>h1 v (by grind)) λi y v g e=>hr i y v g (by simpa using e)⟩
 |false=>
  simp only[jU,eE,if_false]at h;split at h;injection h with h;subst h;obtain⟨v,rfl⟩: ∃v,vs=[v]:=TQ.1 (by simp_all);exact .inr ⟨rfl,v,rfl,hr 0 _ v rfl rfl⟩;cases h
theorem o9{agg:Bool}{off size:Nat}{x r:AV}{v:Value}{t:TypeId}(h:rB agg off size x=some r)(hr:JJ s x v)(ht:agT P t=some agg)(hs:szT P t=some size)
  (h1:agg=true\/size=1): ∃cs u,v=.agg cs/\(part t cs off).run P s.w=.ok u s.w/\JJ s r u:=by
 have go: ∀(cs:Array Value) (vs:List Value),vs.length=size->(∀(i:Nat),i<size->vs[i]?=cs[off+i]?)->off+size<=cs.size->
   ((agg=true/\JJ s r (.agg vs.toArray))\/(agg=false/\ ∃v,vs=[v]/\JJ s r v))-> ∃u,(part t cs off).run P s.w=.ok u s.w/\JJ s r u:=by
  intro cs vs j n B e;rcases e with⟨rfl,g⟩|⟨rfl,v,rfl,g⟩;refine⟨.agg (cs.extract off (off+size)),by simp_all [part,DD,gX],?_⟩;have:cs.extract off (off+size)=vs.toArray:=(by grind);simp_all;simp at j;subst j;have k:=n 0 (by omega);simp at k;exact⟨v,by simp[part,DD ht,<-k],g⟩
 unfold rB at h;split at h;rename_i cs;split at h;rename_i l hl;obtain⟨o,y,q⟩:=IM hl;cases hr with
 |data _ vs z A=>
  have e:=ZD (s:=s) (vs:=((vs.toList.drop off).take size)) h (by simp;omega) (by
   grind)
  grind
 cases h;rename_i cs;split at h;rename_i l hl;obtain⟨o,y,q⟩:=IM hl;cases hr with
 |agg _ vs z C A=>
  have e:=NT (s:=s) (vs:=((vs.toList.drop off).take size)) h (by simp;omega) (by
   grind [List.getElem?_of_mem]) (by
   grind)
  grind
 cases h;cases h
theorem JGu(hi:Inv s)(he:bM s a.tmps env){agg off size x}(h:(opR F (.field agg off size x) new).run ⟨env,s.σ⟩=some e)(hc:JV P (.field agg off size x) o.op=true):bL P o a s e:=by
 simp only[opR]at h;obtain⟨u,h1,g⟩:=bind_some h;obtain⟨r,w,rfl⟩:=gK g;clear h g;unfold JV at hc;simp only at hc;split at hc;rename_i t y f A;simp only[JX]at hc;obtain⟨z,ht⟩:=hc;split at ht;rename_i fs B;split at ht;rename_i D C;simp only[JX,beq_iff_eq]at ht;obtain⟨⟨⟨E,n⟩,k⟩,j⟩:=ht;obtain⟨cs,v,H,G,q⟩:=o9 w (bH he h1 z) k n (by simpa using j);exact JK hi (v:=v) (by simp_all [execOp,Instr.field,run_underlying,n3,asAgg]) q;cases ht;cases ht;cases hc
theorem JIF(hi:Inv s)(he:bM s a.tmps env){x i}(h:(opR F (.sidx x i) new).run ⟨env,s.σ⟩=some e)(hc:JV P (.sidx x i) o.op=true):bL P o a s e:=by
 simp only[opR]at h;obtain⟨u,h1,w⟩:=bind_some h;obtain⟨v,h2,g⟩:=bind_some w;clear h w;unfold JV at hc;simp only at hc;split at hc;rename_i t y j D;simp only[JX]at hc;obtain⟨⟨B,C⟩,ht⟩:=hc;have z:=bH he h1 B;have A:=bH he h2 C;split at g;rename_i l k n;split at g;rename_i I;split at g;rename_i b q;simp only[RM.run]at g;injection g with g;subst g;have G:=sX z;have H:=iE A;have E:(⟨l.toArray⟩:ByteArray)[n.toNat]?=some b:=by have r:=Jq q;rw[aS r]at q;rw[getElem?_pos _ _ (by grind [tD])];injection q with q;rw[<-q];rfl
 refine JK hi (v:=.int .u8 b.toNat) ?_ (pR _ _);simp_all [execOp,Instr.index,asIntOf,run_underlying,wC];cases g;cases g;cases g;cases hc
theorem JJg(hi:Inv s)(he:bM s a.tmps env){agg len esz x i}(h:(opR F (.aidx agg len esz x i) new).run ⟨env,s.σ⟩=some e)(hc:JV P (.aidx agg len esz x i) o.op=true):bL P o a s e:=by
 simp only[opR]at h;obtain⟨u,h1,A⟩:=bind_some h;obtain⟨v,h2,g⟩:=bind_some A;clear h A;unfold JV at hc;simp only at hc;split at hc;rename_i t y j q;simp only[JX]at hc;obtain⟨⟨L,N⟩,ht⟩:=hc;have E:=bH he h1 L;have G:=bH he h2 N;split at ht;rename_i n el z;simp only[JX,beq_iff_eq]at ht;obtain⟨⟨⟨rfl,B⟩,H⟩,C⟩:=ht;split at g;rename_i k m;split at g;rename_i M;obtain⟨r,K,rfl⟩:=gK g;obtain⟨cs,w,O,I,J⟩:=o9 K E H B (by simpa using C);have D:=iE G;exact JK hi (v:=w) (by simp[execOp,q,O,D,Instr.index,asIntOf,run_underlying (da z),M,gX B,I]) J;cases g;cases g;cases ht;cases hc
theorem JHv(hi:Inv s)(he:bM s a.tmps env){len esz x i}(h:(opR F (.aaddr len esz x i) new).run ⟨env,s.σ⟩=some e)(hc:JV P (.aaddr len esz x i) o.op=true):bL P o a s e:=by
 simp only[opR]at h;obtain⟨u,h1,J⟩:=bind_some h;obtain⟨v,h2,C⟩:=bind_some J;obtain⟨r,g,rfl⟩:=gK C;clear h J C;unfold JV at hc;simp only at hc;split at hc;rename_i t y j H;simp only[JX]at hc;obtain⟨⟨Q,S⟩,ht⟩:=hc;have B:=bH he h1 Q;have M:=bH he h2 S;split at ht;rename_i n el I;simp only[JX,beq_iff_eq]at ht;obtain⟨rfl,O⟩:=ht;unfold HY at g;split at g;rename_i k m;split at g;rename_i R;have K:=iE M;have go: ∀(r q:Nat),a.eval y=.pointer (some ⟨r,q,none⟩)->(execOp a.eval o).run P s.w=.ok (.value (.pointer (some ⟨r,q+m.toNat*esz,none⟩))) s.w:=by intro r q A;simp[execOp,H,A,K,Instr.indexAt,asIntOf,run_underlying (da I),Instr.sureAddr,R,gX O,vY]
 generalize A:a.eval y=z at B;split at g<;>first|(injection g with g;subst g)|cases g
 cases B with
 |ptr _ _ r q L N=>exact JK hi (go _ _ A) (by rw[AW];exact .ptr _ _ r q L N)
 cases B with
 |cp cs _ r q vals G D=>exact JK hi (go _ _ A) (by rw[AW];exact .cp _ _ r q vals G D)
 cases B with
 |ep _ _ _ _ _ wm E rows p0 G D T=>
  obtain⟨r,q,rfl⟩:=p0;refine JK hi (go _ _ A) (.ep _ _ _ _ _ wm E rows ⟨_,_,rfl⟩ G D λV U=>?_);grind
 cases g;cases g;cases ht;cases hc
theorem JH7(hi:Inv s)(he:bM s a.tmps env){esz x i}(h:(opR F (.iaddr esz x i) new).run ⟨env,s.σ⟩=some e)(hc:JV P (.iaddr esz x i) o.op=true):bL P o a s e:=by
 simp only[opR]at h;obtain⟨u,h1,N⟩:=bind_some h;obtain⟨v,h2,g⟩:=bind_some N;clear h N;unfold JV at hc;simp only at hc;split at hc;rename_i t y j M;simp only[JX]at hc;obtain⟨⟨E,hj⟩,ht⟩:=hc;have G:=bH he h1 E;have S:=bH he h2 hj;split at ht;rename_i el O;simp only[beq_iff_eq]at ht;have go: ∀(r A len cap:Nat) k (m:Int),a.eval j=.int k m->a.eval y=.slice (some ⟨r,A,none⟩) len cap->0<=m->m<len->
   (execOp a.eval o).run P s.w=.ok (.value (.pointer (some ⟨r,A+m.toNat*esz,none⟩))) s.w:=by
  intro r A len cap k m C D W I;simp[execOp,M,D,C,Instr.indexAt,asIntOf,run_underlying (fE O),W,I,gX ht,vY]
 unfold mD at g;split at g;rename_i B rows k n;split at g;rename_i Q;subst Q;split at g;rename_i row q;simp only[RM.run]at g;injection g with g;subst g;unfold MS at q;split at q;rename_i L;have C:=iE S;generalize D:a.eval y=z at G;cases G with
 |p _ _ V=>
  cases V with
  |sl0 _ ad cap=>simp at q
  |sl _ _ r A cap vals p1 p2 T U=>have I:=Jq q;refine JK hi (go r A _ cap k n C D L (by omega)) ?_;have:=JJ.cp (s:=s) row 0 r (A+n.toNat*esz) (λj=>vals n.toNat j) (λj x E=>T n.toNat j row x q E) (λj x E=>U n.toNat j row x q E);simp_all
 cases q;cases g;cases g;rename_i b j' m k n;simp only[RM.run]at g;split at g;rename_i blk hb;split at g;rename_i wm B rows;split at g;rename_i K;obtain⟨rfl,R,L,a8⟩:=K;simp only[RM.run]at g;injection g with g;subst g;have C:=iE S;generalize D:a.eval y=z at G;cases G with
 |slr _ _ _ _ wm' B rows' q0 H q2 q3=>
  have J:s.σ[b]?=some (.arr wm esz rows):=hb;rw[J]at H;injection H with H;injection H with a1 a2 a3;subst a1 a2 a3;rcases q3 R with⟨_,_,a7,_⟩|⟨r,cap,c,e1,fz,Z,hv,Y,hh,hs⟩;omega;subst hv;refine JK hi (go r _ _ cap k n C D L (by omega)) (.ep _ _ _ _ _ wm esz rows ⟨_,_,rfl⟩ J (zQ0 _) λ_ _=>⟨r,Z,?_⟩);grind
 cases g;cases g;cases g;cases g;cases ht;cases hc
end
end Go.Am
end
section
namespace Go.Am
theorem eR(a b:List (Nat×Blk))(σ:List Blk):upd (a++b) σ=upd b (upd a σ):=by simp[upd]
section
variable {P:Program} {F:Orc} {s:Sn} {a:Act} {env:List (Nat×AV)} {o:Oper} {new:Nat} {e:Eff}
theorem KO{e:List Blk}(hi:Inv s)(j:Frz e s.σ){b i n:Nat}{y:List PV×List (Nat×Blk)}{v:Value}(h:(fz (.slr b i n)).run ⟨env,e⟩=some y)(hr:JJ s (.slr b i n) v):
  ∃g',Inv ⟨upd y.2 s.σ,g',s.w⟩/\aZ s ⟨upd y.2 s.σ,g',s.w⟩/\Frz s.σ (upd y.2 s.σ)/\ ∃c,y.1=[c]/\J0i s.w g'.C c v:=by
 simp only[fz,RM.run]at h;split at h;rename_i blk k;split at h;rename_i wm esz rows;split at h;rename_i r;simp only[RM.run]at h;injection h with h;subst h;obtain⟨wm',g⟩:=j.1 b _ _ _ k;obtain⟨g',h1,h2,q,o⟩:=pa hi hr g r;exact⟨g',h1,h2,q,_,rfl,o⟩;cases h;cases h;cases h
theorem JIp{e:List Blk}(hi:Inv s)(j:Frz e s.σ){x:AV}{y:List PV×List (Nat×Blk)}{v:Value}(h:(fz.fz1 x).run ⟨env,e⟩=some y)(hr:JJ s x v):
  ∃g',Inv ⟨upd y.2 s.σ,g',s.w⟩/\aZ s ⟨upd y.2 s.σ,g',s.w⟩/\Frz s.σ (upd y.2 s.σ)/\ ∃c,y.1=[c]/\J0i s.w g'.C c v:=by
 cases x with
 |p c=>
  simp only[fz.fz1,RM.run]at h;injection h with h;subst h;cases hr with
  |p _ _ hr=>exact⟨s.g,hi,.refl s,.refl _,c,rfl,hr⟩
 |slr b i n=>exact KO hi j (by exact h) hr
 |_=>grind [fz.fz1,RM.run]
theorem Dt{A:List Blk}: ∀{xs:List AV} {s:Sn} {y:List PV×List (Nat×Blk)} {vs:List Value},Inv s->Frz A s.σ->(fz.fzL xs).run ⟨env,A⟩=some y->xs.length=vs.length->
  (∀(i:Nat) x v,xs[i]?=some x->vs[i]?=some v->JJ s x v)->
  ∃g',Inv ⟨upd y.2 s.σ,g',s.w⟩/\aZ s ⟨upd y.2 s.σ,g',s.w⟩/\Frz s.σ (upd y.2 s.σ)/\y.1.length=vs.length/\
   ∀(i:Nat) c v,y.1[i]?=some c->vs[i]?=some v->J0i s.w g'.C c v
 |[],s,y,vs,hi,e,h,hl,j=>by
  simp only[fz.fzL,RM.run]at h;injection h with h;subst h;exact⟨s.g,hi,.refl s,.refl _,by simpa using hl,λi c v k=>by simp at k⟩
 |x::xs,s,y,[],hi,e,h,hl,j=>by simp at hl
 |x::xs,s,y,v::vs,hi,e,h,hl,j=>by
  simp only[fz.fzL]at h;obtain⟨o,h1,h⟩:=bind_some h;obtain⟨H,h2,h⟩:=bind_some h;simp only[RM.run]at h;injection h with h;subst h;obtain⟨D,i1,z,r,c,k,G⟩:=JIp hi e h1 (j 0 x v rfl rfl);obtain⟨B,i2,q,E,F,L⟩:=Dt (s:=⟨upd o.2 s.σ,D,s.w⟩) i1 (e.trans r) h2 (by simpa using hl) λi x v I J=>(j (i+1) x v (by simpa using I) (by simpa using J)).mono hi z;refine⟨B,by grind [eR],by rw[eR];exact z.trans q,by rw[eR];exact r.trans E,by simp[k,F],λi c' K hc' n=>?_⟩;rw[k]at hc';cases i with
  |zero=>simp at hc' n;subst hc' n;exact J0i.mono (s0:=⟨upd o.2 s.σ,D,s.w⟩) (s:=⟨upd H.2 (upd o.2 s.σ),B,s.w⟩) i1 q G
  |succ i=>grind
theorem YB{o:List Blk}(hi:Inv s)(k:Frz o s.σ){x:AV}{y:List PV×List (Nat×Blk)}{v:Value}(h:(fz x).run ⟨env,o⟩=some y)(hr:JJ s x v):
  ∃g',Inv ⟨upd y.2 s.σ,g',s.w⟩/\aZ s ⟨upd y.2 s.σ,g',s.w⟩/\Frz s.σ (upd y.2 s.σ)/\y.1.length=v.cells.size/\
   ∀(i:Nat) c u,y.1[i]?=some c->v.cells[i]?=some u->J0i s.w g'.C c u:=by
 cases x with
 |p c=>
  simp only[fz,RM.run]at h;injection h with h;subst h;cases hr with
  |p _ _ hr=>
   refine⟨s.g,hi,.refl s,.refl _,by rw[hr.cells1];rfl,λi c' u j e=>?_⟩;rw[hr.cells1]at e;grind
 |data cs=>
  simp only[fz,RM.run]at h;injection h with h;subst h;cases hr with
  |data _ vs h1 h2=>exact⟨s.g,hi,.refl s,.refl _,h1,λi c u j e=>h2 i c u j e⟩
 |slr b i n=>
  obtain⟨g',h1,h2,r,c,j,q⟩:=KO hi k h hr;refine⟨g',h1,h2,r,by rw[j,q.cells1];rfl,λi c' u hc' e=>?_⟩;rw[q.cells1]at e;grind
 |agg cs=>
  simp only[fz]at h;cases hr with
  |agg _ vs h1 D h2=>
   obtain⟨g',B,G,E,H,F⟩:=Dt (vs:=vs.toList) hi k h (by simpa using h1) λi x v z A=>h2 i x v z (by simpa using A);grind [Value.cells]
 |_=>grind [fz,RM.run]
theorem DB(he:bM s a.tmps env){x:Option Opd}{y:Option Operand}{v:Option AV}(h:(evo x).run ⟨env,s.σ⟩=some v)(hc:vD x y=true):
  (v=none/\y=none)\/ ∃u q,v=some u/\y=some q/\JJ s u (a.eval q):=by
 cases x with
 |none=>
  grind [evo,RM.run,vD]
 |some x=>
  cases y with
  |none=>grind [vD]
  |some y=>
   simp only[evo]at h;obtain⟨u,h1,h⟩:=bind_some h;simp only[RM.run]at h;injection h with h;subst h;exact .inr ⟨u,y,rfl,rfl,bH he h1 hc⟩
theorem QE{x:AV}{top n j:Nat}{v:Value}(h:mF (some x) top j=some n)(hr:JJ s x v)(g:Nat)(o:top<=g)(k:BoundsCode)(w:World):
  (Instr.sliceBound v g k).run P w=.ok n w/\n<=top:=by
 unfold mF at h;split at h;simp_all;rename_i e;injection e with e;subst e;split at h;rename_i q;injection h with h;subst h;have:=iE hr;grind [Instr.sliceBound,asIntOf,Sem.run_pure];cases h;cases h
theorem JFc{n:Nat}{lo hi:Option AV}{c:Nat×Nat}(h:nA n lo hi=some c):mF hi n n=some c.2/\mF lo c.2 0=some c.1:=by
 grind [nA]
theorem KM(he:bM s a.tmps env){lo hi:Option Opd}{lo' hi':Option Operand}{l h:Option AV}{len cap:Nat}{c:Nat×Nat}{isSlice:Bool}
  (h1:(evo lo).run ⟨env,s.σ⟩=some l) (h2:(evo hi).run ⟨env,s.σ⟩=some h) (r:vD lo lo'=true) (z:vD hi hi'=true)
  (hc:nA len l h=some c) (n:len<=cap) (w:World):
  (Instr.sliceBounds isSlice len cap (lo'.map a.eval) (hi'.map a.eval) none).run P w=.ok (c.1,c.2,cap) w/\c.1<=c.2/\c.2<=len:=by
 obtain⟨k,e⟩:=JFc hc;obtain⟨i,j⟩:=c;rcases DB he h2 z with⟨rfl,rfl⟩|⟨u,q,rfl,rfl,x⟩;simp[mF]at k;subst k;rcases DB he h1 r with⟨rfl,rfl⟩|⟨y,q',rfl,rfl,g⟩;simp[mF]at e;subst e;simp[Instr.sliceBounds];obtain⟨o,v⟩:=QE (P:=P) e g len (zQ0 _) .sliceB w;simp_all [Instr.sliceBounds];rcases DB he h1 r with⟨rfl,rfl⟩|⟨y,q',rfl,rfl,g⟩;obtain⟨o,v⟩:=QE (P:=P) k x cap n (if isSlice then .sliceAcap else .sliceAlen) w;simp[mF]at e;subst e;simp_all [Instr.sliceBounds];obtain⟨o,v⟩:=QE (P:=P) k x cap n (if isSlice then .sliceAcap else .sliceAlen) w;obtain⟨A,B⟩:=QE (P:=P) e g j (zQ0 _) .sliceB w;simp_all [Instr.sliceBounds]
theorem YM{esz:Nat}{rows:List (List PV)}{v:Value}{i j:Nat}(h:J0i s.w s.g.C (.sl esz rows) v)(E:i<=j)(hj:j<=rows.length):
  ∃ad cap,v=.slice ad rows.length cap/\rows.length<=cap/\
   J0i s.w s.g.C (.sl esz ((rows.drop i).take (j-i))) (.slice (if cap=i then ad else ad.map (·.add (i*esz))) (j-i) (cap-i)):=by
 have hlen:((rows.drop i).take (j-i)).length=j-i:=by simp;omega
 cases h with
 |sl0 _ ad cap=>
  have e:j=0:=by simpa using hj
  have hi':i=0:=by omega
  subst e hi';refine⟨ad,cap,rfl,zQ2 _,?_⟩;simpa using J0i.sl0 (w:=s.w) (C:=s.g.C) esz _ _
 |sl _ _ r o cap vals z q F G=>
  refine⟨_,cap,rfl,z,?_⟩;by_cases n:cap=i;have y:j-i=0:=by omega
  rw[y];simpa using J0i.sl0 (w:=s.w) (C:=s.g.C) esz _ _;rw[if_neg n];have:=J0i.sl (w:=s.w) (C:=s.g.C) esz ((rows.drop i).take (j-i)) r (o+i*esz) (cap-i) (λk m=>vals (i+k) m) (by omega)
   (λrow B=>q row (zQ7 (FB B)))
   (λk m row x A D=>by
    grind)
   (λk m row x A D=>by
    grind)
  grind [vY]
def yK(k:SK)(x:AV)(lo hi:Option AV):Option AV:=
 match k with
 | .str=>vL x lo hi
 | .sl esz=>vJ esz x lo hi
theorem Cv(hi:Inv s){k:SK}{t:TypeId}{y:Operand}{z n:Option Operand}{q:Operand}{c:PV}{l hh:Option AV}{u r:AV}{g':Gh}{ws:List (Nat×Blk)}
  (B:o.op=.slice t y z n (some q)) (ht:(match k with
   | .str=>iD P t
   | .sl esz=>(match elT P t with|some e=>szT P e==some esz|none=>false))=true)
  (hl:l=none->z=none) (E: ∀F,hh=some F-> ∃q',n=some q'/\JJ s F (a.eval q')) (hu:JJ s u (a.eval q))
  (hs:jQ k (.p c) l hh (some u)=some r) (hi':Inv ⟨upd ws s.σ,g',s.w⟩) (t':aZ s ⟨upd ws s.σ,g',s.w⟩) (hr:J0i s.w g'.C c (a.eval y)):bL P o a s ⟨r,ws⟩:=by
 cases k with
 |str=>grind [jQ]
 |sl esz=>
  simp only[jQ]at hs;unfold ND at hs;split at hs;rename_i L rows O h1 S T g;injection g with g;subst g;split at hs;rename_i N;obtain⟨rfl,rfl,rfl⟩:=N;injection hs with hs;subst hs;obtain⟨q',rfl,A⟩:=E _ rfl;obtain rfl:=hl rfl;have V:=iE A;have U:=iE hu;simp only at ht;split at ht;rename_i el D;simp only[beq_iff_eq]at ht;obtain⟨ad,cap,G,K,hrel⟩:=YM (s:=⟨s.σ,g',s.w⟩) (i:=0) (j:=rows.length) hr (zQ2 _) (zQ0 _);have M: ∀w:World,(Instr.sliceBounds true rows.length cap none (some (a.eval q')) (some (a.eval q))).run P w=.ok (0,rows.length,rows.length) w:=by simp_all [Instr.sliceBounds,Instr.sliceBound,asIntOf]
  have h:J0i s.w g'.C (.slc esz rows) (.slice ad rows.length rows.length):=by
   refine .slc esz rows ad ?_;rw[G]at hr;cases hr with
   |sl0=>exact .sl0 _ _ _
   |sl _ _ r o cap vals R J H I=>exact .sl esz rows r o rows.length vals (zQ0 _) J H I
  refine fX (e:=⟨_,ws⟩) (w':=s.w) (g':=g') (v:=.slice ad rows.length rows.length) ?_ hi' t' (.p _ _ h);have Q:(if rows.length=0 then ad else ad.map λx=>x.add (0*esz))=ad:=by simp[Addr.add]
  simp only[execOp,B,G];simp[Instr.sliceAt,Instr.slice,run_underlying (fE D),M,gX ht];simp_all;cases ht;cases hs;cases hs
theorem JGb(hi:Inv s)(he:bM s a.tmps env){k x lo hi' mx}(h:(opR F (.slice k x lo hi' mx) new).run ⟨env,s.σ⟩=some e)(hc:JV P (.slice k x lo hi' mx) o.op=true):bL P o a s e:=by
 simp only[opR]at h;obtain⟨u,h1,h⟩:=bind_some h;obtain⟨l,h2,h⟩:=bind_some h;obtain⟨D,O,h⟩:=bind_some h;obtain⟨m,h4,h⟩:=bind_some h;unfold JV at hc;simp only at hc;split at hc
 ·rename_i t y V T ae B;simp only[JX]at hc;obtain⟨⟨⟨⟨hx,N⟩,M⟩,c3⟩,ht⟩:=hc;have q:=bH he h1 hx;rcases DB he h4 c3 with⟨rfl,rfl⟩|⟨um,qm,rfl,rfl,J⟩
  case inr=>
   have G:l=none->V=none:=(by grind [DB]);have I: ∀u',D=some u'-> ∃q',T=some q'/\JJ s u' (a.eval q'):=(by grind [DB]);split at h;rename_i b i n;obtain⟨y',Q,h⟩:=bind_some h;obtain⟨g',i1,Z,f1,c,K,U⟩:=KO hi (.refl _) Q q;split at h;rename_i c' hc';rw[K]at hc';injection hc' with hc';subst hc';split at h;rename_i r v;simp only[RM.run]at h;injection h with h;subst h;exact Cv hi B ht G I J v i1 Z U;cases h;cases h;rename_i x' S;obtain⟨r,v,rfl⟩:=gK h;cases u with
   |p c=>
    cases q with
    |p _ _ q=>exact Cv (ws:=[]) (g':=s.g) hi B ht G I J v hi (.refl s) q
   |_=>grind [jQ,ND]
  have z: ∀{c:AV} {r},jQ k c l D none=some r->(none:Option Operand)=none/\yK k c l D=some r:=by intro c r j;exact⟨rfl,j⟩
  have R: ∀{b:List UInt8} {r},jQ k (.p (.s b)) l D none=some r->a.eval y=.string ⟨b.toArray⟩->bL P o a s ⟨r,[]⟩:=by
   intro b r j hz;obtain⟨_,E⟩:=z j;clear j;have j:=E;clear E;cases k with
   |sl esz=>grind [yK,vJ]
   |str=>
    simp only[yK,vL]at j;split at j;rename_i c hc;injection j with j;subst j;have aa:=wC ht;obtain⟨hb,ab,a9⟩:=KM (P:=P) (isSlice:=false) (cap:=b.length) he h2 O N M hc (zQ0 _) s.w;have ac:(⟨b.toArray⟩:ByteArray).extract c.1 c.2=⟨((b.drop c.1).take (c.2-c.1)).toArray⟩:=by apply ByteArray.ext;simp_all
    simp_all [JK,D6,execOp,Instr.sliceAt,Instr.slice,run_underlying,tD];cases j
  have A: ∀{s':Sn} {ws} {esz rows r} {g'},s'=⟨upd ws s.σ,g',s.w⟩->Inv s'->aZ s s'->jQ k (.p (.sl esz rows)) l D none=some r->J0i s'.w s'.g.C (.sl esz rows) (a.eval y)->bL P o a s ⟨r,ws⟩:=by
   intro s' ws esz rows r g' hs' hi' t' j v;obtain⟨_,E⟩:=z j;clear j;have j:=E;clear E;cases k with
   |str=>grind [yK,vL]
   |sl ez=>
    simp only[yK,vJ]at j;split at j;rename_i Y;subst Y;split at j;rename_i c hc;injection j with j;subst j;simp only at ht;split at ht;rename_i el W;simp only[beq_iff_eq]at ht;have H:=KM (P:=P) (isSlice:=true) he h2 O N M hc (zQ0 _) s.w;obtain⟨ad,cap,hv,L,hrel⟩:=YM v H.2.1 H.2.2;obtain⟨hb,_,_⟩:=KM (P:=P) (isSlice:=true) he h2 O N M hc L s.w;subst hs';refine fX (e:=⟨_,ws⟩) (w':=s.w) (g':=g') ?_ hi' t' (.p _ _ hrel);simp only[execOp,B,hv];simp[Instr.sliceAt,Instr.slice,run_underlying (fE W),hb,gX ht];cases ht;cases j;cases j
  split at h;rename_i b i n;obtain⟨y',Q,h⟩:=bind_some h;obtain⟨g',i1,Z,f1,c,K,U⟩:=KO hi (.refl _) Q q;grind [RM.run,fz];rename_i x' S;obtain⟨r,v,rfl⟩:=gK h;cases u with
  |p c=>
   cases c with
   |s b=>grind [sX]
   |sl esz rows=>cases q with|p _ _ q=>exact A (s':=s) (ws:=[]) (g':=s.g) rfl hi (.refl s) v q
   |_=>grind [yK,vL,vJ]
  |slr b i n=>simp_all
  |_=>grind [yK,vL,vJ]
 cases hc
end
end Go.Am
end
section
namespace Go.Am
section
variable {P:Program} {F:Orc} {s:Sn} {a:Act} {env:List (Nat×AV)} {o:Oper} {new:Nat} {e:Eff}
theorem pe(hi:Inv s){agg:Bool}{size:Nat}{x:AV}{v:Value}(h:(gF agg size x).run ⟨env,s.σ⟩=some e)(hr:JJ s x v):
  ∃r o vs,v=.pointer (some ⟨r,o,none⟩)/\vs.length=size/\(∀(k:Nat) u,vs[k]?=some u->cellAt s.w r (o+k)=some u)/\e.ws=[]/\
   ((agg=true/\JJ s e.val (.agg vs.toArray))\/(agg=false/\ ∃u,vs=[u]/\JJ s e.val u)):=by
 unfold gF at h;split at h;rename_i cs off;split at h;rename_i l hl;obtain⟨r',z,rfl⟩:=gK h;obtain⟨n,I,H⟩:=IM hl;cases hr with
 |cp _ _ r o vals q M=>
  have P: ∀(i:Nat) y u,l[i]?=some y->((List.range size).map λi=>vals (off+i))[i]?=some u->J0i s.w s.g.C y u:=(by grind);refine⟨r,o+off,(List.range size).map λi=>vals (off+i),rfl,by simp,λk u B=>?_,rfl,ZD z (by simp[n]) P⟩;grind
 cases h
 ·rename_i b off;simp only[RM.run]at h;split at h
  ·rename_i blk G;split at h
   ·rename_i cs;split at h
    ·rename_i l hl;obtain⟨r',z,rfl⟩:=gK h;obtain⟨n,I,H⟩:=IM hl;cases hr with
     |ptr _ _ r o m V=>
      obtain⟨N,Y,c,T,fz,j,R,J,S,hf⟩:=hi.box b cs G;rw[m]at j;injection j with j;injection j with m1 m2;subst m1 m2;have A: ∀k,k<size-> ∃u,c[o+(off+k)]?=some u/\u.oneCell'=true/\ ∀y,l[k]?=some y->JJ s y u:=(by grind);refine⟨r,o+off,(List.range size).map λi=>(c[o+(off+i)]?).getD .nilFunc,rfl,by simp,λk u B=>?_,rfl,NT z (by simp[n]) (λv K=>?_) λi y u Q B=>?_⟩
      all_goals grind [jB]
    cases h
   cases h
  cases h
 ·rename_i b ext i off;simp only[RM.run]at h;split at h
  ·rename_i blk G;split at h
   ·rename_i wm esz rows;split at h
    ·rename_i F;split at h
     ·rename_i row E;split at h
      ·rename_i l hl;obtain⟨r',z,rfl⟩:=gK h;obtain⟨n,I,H⟩:=IM hl;have D:s.σ[b]?=some (.arr wm esz rows):=G;cases hr with
       |ep _ _ _ _ _ wm' O rows' p0 q M L=>
        rw[D]at q;injection q with q;injection q with a1 a2 a3;subst a1 a2 a3;have U:=Jq E;obtain⟨r,m,K⟩:=L F (by omega);rcases hi.arr b _ _ _ D with⟨j,_⟩|⟨N,c,T,fz,j,R,W,J,S,hf⟩;simp_all
        ·rw[m]at j;injection j with j;injection j with m1 _;subst m1
         have A: ∀k,k<size-> ∃u,c[i*esz+(off+k)]?=some u/\ ∀y,l[k]?=some y->J0i s.w s.g.C y u:=(by grind);refine⟨r,i*esz+off,(List.range size).map λk=>(c[i*esz+(off+k)]?).getD .nilFunc,K,by simp,λk u B=>?_,rfl,ZD z (by simp[n]) λk y u Q B=>?_⟩
         all_goals grind [jB]
      cases h
     cases h
    cases h
   cases h
  cases h
 cases h
theorem rm{t:TypeId}{agg:Bool}{size:Nat}(ht:agT P t=some agg)(hs:szT P t=some size){r o:Nat}{vs:List Value}{w:World}(hl:vs.length=size)
  (h: ∀(k:Nat) u,vs[k]?=some u->cellAt w r (o+k)=some u):
  (agg=true->(loadVar t ⟨r,o,none⟩).run P w=.ok (.agg vs.toArray) w)/\(agg=false-> ∀u,vs=[u]->(loadVar t ⟨r,o,none⟩).run P w=.ok u w):=by
 constructor;rintro rfl;subst hl;simp_all [loadVar,DD,gX,pj];rintro rfl u rfl;have:=h 0 u rfl;simp_all [loadVar,DD,pQ]
theorem JJr(hi:Inv s)(he:bM s a.tmps env){agg size x}(h:(opR F (.load agg size x) new).run ⟨env,s.σ⟩=some e)(hc:JV P (.load agg size x) o.op=true):bL P o a s e:=by
 simp only[opR]at h;obtain⟨u,h1,n⟩:=bind_some h;clear h;unfold JV at hc;simp only at hc;split at hc
 ·rename_i t y A;simp only[JX,beq_iff_eq]at hc;obtain⟨⟨⟨ht,w⟩,z⟩,C⟩:=hc;obtain⟨r,E,vs,H,hl,g,j,k⟩:=pe hi n (bH he h1 z);obtain⟨B,G⟩:=rm (P:=P) ht w hl g;obtain⟨ev,D⟩:=e;simp only at j k;subst j;rcases k with⟨rfl,v⟩|⟨rfl,q,rfl,v⟩
  all_goals simp_all [JK,execOp,Instr.loadAt,Instr.sureAddr]
 cases hc
theorem RF{x:AV}{l:List AV}{v:Value}(h:cellsOf x=some l)(hr:JJ s x v):
  l.length=v.cells.size/\(∀u∈v.cells.toList,u.oneCell'=true)/\ ∀(i:Nat) y u,l[i]?=some y->v.cells[i]?=some u->JJ s y u:=by
 have e: ∀{z:AV},JJ s z v->v.cells= #[v]->v.oneCell'=true->l=[z]->l.length=v.cells.size/\(∀u∈v.cells.toList,u.oneCell'=true)/\ ∀(i:Nat) y u,l[i]?=some y->v.cells[i]?=some u->JJ s y u:=(by grind);cases hr with
 |p c _ q=>simp[cellsOf]at h;exact e (.p _ _ q) q.cells1 q.one h.symm
 |data cs vs h1 h2=>
  simp[cellsOf]at h;subst h;refine⟨by grind [Value.cells],λu A=>?_,λi y u w A=>?_⟩;obtain⟨i,hi⟩:=lZ A;have hi:vs[i]?=some u:=by grind [Value.cells]
  have F:=QP hi;exact(h2 i cs[i] u (by simp_all) hi).one;rw[gE]at w;cases hcs:cs[i]? with
  |none=>simp_all
  |some c=>simp[hcs]at w;subst w;exact .p _ _ (h2 i c u hcs A)
 |agg cs vs h1 G h2=>
  grind [cellsOf,Value.cells,List.getElem?_of_mem]
 |tup=>grind [cellsOf]
 |unk=>grind [cellsOf]
 |pre=>simp[cellsOf]at h
 |ptr b off r o m B=>simp[cellsOf]at h;exact e (.ptr b off r o m B) rfl rfl h.symm
 |cp cs off r o vals j g=>simp[cellsOf]at h;exact e (.cp cs off r o vals j g) rfl rfl h.symm
 |slr b i n _ wm esz rows p0 j g k=>obtain⟨ad,cap,rfl,E⟩:=p0;simp[cellsOf]at h;exact e (.slr b i n _ wm esz rows ⟨ad,cap,rfl,E⟩ j g k) rfl rfl h.symm
 |ep b ext i off _ wm esz rows p0 j g k=>obtain⟨r,o,rfl⟩:=p0;simp[cellsOf]at h;exact e (.ep b ext i off _ wm esz rows ⟨r,o,rfl⟩ j g k) rfl rfl h.symm
 |fn f first caps fs cs h1 h2 D C=>simp[cellsOf]at h;exact e (.fn f first caps fs cs h1 h2 D C) rfl rfl h.symm
theorem JJZ(hi:Inv s)(he:bM s a.tmps env)(hn:s.σ[new]?=some .dead){size x}(h:(opR F (.box size x) new).run ⟨env,s.σ⟩=some e)(hc:JV P (.box size x) o.op=true):bL P o a s e:=by
 simp only[opR]at h;obtain⟨u,h1,g⟩:=bind_some h;clear h;unfold JV at hc;simp only at hc;split at hc;rename_i t y B;have z:=bH he h1 hc;split at g;rename_i cs hcs;split at g;cases g;obtain⟨C,q,n⟩:=RF hcs z;obtain⟨r,t'⟩:=OS hi hn (blk:=.box cs) (c:=(a.eval y).cells) (e:=t) (fz:=(0,0)) (w':={s.w with heap:=s.w.heap.push (.cells (a.eval y).cells t)}) rfl rfl rfl
  (λo _ _ h=>by simp at h) (λ_ _ _ h=>by cases h) ⟨by omega,λi x j=>by
   have A:=Jq j;have k:i<(a.eval y).cells.size:=by omega
   exact⟨(a.eval y).cells[i],by simp,n i x _ j (by simp),q _ (by simp)⟩⟩
 refine fX (e:=⟨.ptr new 0,[(new,.box cs)]⟩) (v:=.pointer (some ⟨s.w.heap.size,0,none⟩)) ?_ r t' (.ptr new 0 _ 0 (if_pos rfl) ⟨cs,gZ hn⟩);simp_all [execOp,Instr.box,newVar,newRow];cases g;cases g;cases hc
theorem rQ{zero:List PV}{t:TypeId}(h:jE P zero t=true): ∃v,zeT P t=some v/\zero.length=v.cells.size/\
  ∀{w C} (i:Nat) x u,zero[i]?=some x->v.cells[i]?=some u->J0i w C x u:=by
 unfold jE at h;split at h;rename_i v e;refine⟨v,e,?_,λi x u j g=>?_⟩;simpa using(PR (w:=default) (C:=λ_ _=>True) h).1;exact(PR h).2 i x u j (by simpa using g);cases h
theorem DH{t:TypeId}{v:Value}(h:zeT P t=some v)(w:World):(zeroValue t).run P w=.ok v w:=by unfold zeT at h;cases hi:P.info? t<;>simp_all [zeroValue,s7]
theorem JET(hi:Inv s)(hn:s.σ[new]?=some .dead){zero}(h:(opR F (.newbox zero) new).run ⟨env,s.σ⟩=some e)(hc:JV P (.newbox zero) o.op=true):bL P o a s e:=by
 simp only[opR,RM.run]at h;cases h;unfold JV at hc;simp only at hc;split at hc;rename_i t y;obtain⟨v,z,hl,q⟩:=rQ hc;obtain⟨n,t'⟩:=OS hi hn (blk:=.box (zero.map .p)) (c:=v.cells) (e:=t) (fz:=(0,0)) (w':={s.w with heap:=s.w.heap.push (.cells v.cells t)}) rfl rfl rfl
  (λo _ _ h=>by simp at h) (λ_ _ _ h=>by cases h) ⟨by simp[hl],λi x j=>by
   rw[gE]at j;cases hz:zero[i]? with
   |none=>simp[hz]at j
   |some c=>
    simp[hz]at j;subst j;have r:=Jq hz;have k:i<v.cells.size:=by omega
    have:=q (w:=s.w) (C:=s.g.C) i c v.cells[i] hz (by simp);exact⟨v.cells[i],by simp,.p _ _ this,this.one⟩⟩
 refine fX (e:=⟨.ptr new 0,[(new,.box (zero.map .p))]⟩) (v:=.pointer (some ⟨s.w.heap.size,0,none⟩)) ?_ n t' (.ptr new 0 _ 0 (if_pos rfl) ⟨_,gZ hn⟩);simp_all [execOp,Instr.alloc,DH,newVar,newRow];cases hc
theorem JGc(hi:Inv s)(hn:s.σ[new]?=some .dead){esz x}(h:(opR F (.mkarr esz x) new).run ⟨env,s.σ⟩=some e)(hc:JV P (.mkarr esz x) o.op=true):bL P o a s e:=by
 simp only[opR,RM.run]at h;cases h;obtain⟨k,t'⟩:=OY hi hn esz;have hrel:JJ ⟨s.σ.set new (.arr true esz []),eZ s.g new none,s.w⟩ (.slr new 0 0) (.slice none 0 0):=
  .slr new 0 0 _ true esz [] ⟨none,0,rfl,.inl rfl⟩ (gZ hn) (zQ0 _) λ_=>.inl ⟨if_pos rfl,rfl,rfl,rfl⟩
 unfold JV at hc;simp only at hc;split at hc;rename_i j;exact fX (e:=⟨.slr new 0 0,[(new,.arr true esz [])]⟩) (v:=.slice none 0 0) (by simp only[execOp,j];rfl) k t' hrel;rename_i j;exact fX (e:=⟨.slr new 0 0,[(new,.arr true esz [])]⟩) (v:=.slice none 0 0) (by simp only[execOp,j];rfl) k t' hrel;cases hc
theorem OJ{α:Type}{cs vs cs':List α}{off:Nat}(h:spl cs off vs=some cs'):cs'.length=cs.length/\off+vs.length<=cs.length/\
  (∀(i:Nat),i<vs.length->cs'[off+i]?=vs[i]?)/\ ∀k,(k<off\/off+vs.length<=k)->cs'[k]?=cs[k]?:=by
 unfold spl at h;split at h;simp_all
 ·split at h
  ·rename_i e;cases h;refine⟨by simp;omega,e,λi hi=>?_,λk g=>?_⟩
   all_goals grind
  cases h
theorem JCc{w:World}{r o:Nat}{vs:List Value}{c:Array Value}{et:TypeId}{fz:Nat×Nat}(hh:w.heap[r]?=some (.cells c et fz))(hl:o+vs.length<=c.size)
  (hf:BM fz o (o+vs.length)) (h1: ∀v∈vs,v.oneCell'=true):(storeCells ⟨r,o,none⟩ vs).run P w=.ok () (w.setCells r o vs):=by
 have:=run_storeCells_cells (P:=P) r o vs 0 w
  (λj e=>by rw[pQ,jB hh];simp;omega)
  (λj e=>by
   have:=hf (o+0+j) (by omega) (by omega);grind [World.frozen?]) h1
 simp_all
theorem fx{t:TypeId}{v:Value}{w:World}{r o:Nat}{c:Array Value}{et:TypeId}{fz:Nat×Nat}(hs:szT P t=some v.cells.size)(hh:w.heap[r]?=some (.cells c et fz))(hl:o+v.cells.size<=c.size)
  (hf:BM fz o (o+v.cells.size)) (h1: ∀u∈v.cells.toList,u.oneCell'=true):(storeVar t ⟨r,o,none⟩ v).run P w=.ok () (w.setCells r o v.cells.toList):=by
 have:=JCc (P:=P) (vs:=v.cells.toList) hh (by simpa using hl) (by simpa using hf) h1;simp_all [storeVar,gX]
theorem ei{o:Oper}{e:Eff}{w':World}{g':Gh}(hr:(execOp a.eval o).run P s.w=.ok .skip w')(g:e.val=gJ)
  (hi:Inv ⟨upd e.ws s.σ,g',w'⟩) (t:aZ s ⟨upd e.ws s.σ,g',w'⟩):bL P o a s e:=by
 intro next Q h;simp only[Oper.wp,hr,Oper.upon];exact h undef w' g' hi t (by rw[g];exact .tup _ _ rfl λi x v h=>by simp at h)
theorem Bp{b:Nat}: ∀{ws:List (Nat×Blk)} {σ:List Blk},(ws.all λy=>y.1 !=b)=true->(upd ws σ)[b]?=σ[b]?
 |[],_,_=>rfl
 |y::ws,σ,h=>by simp only[List.all_cons,JX,bne_iff_ne]at h;show(upd ws (σ.set y.1 y.2))[b]?=_;rw[Bp h.2,rP h.1]
theorem JGV(hi:Inv s)(he:bM s a.tmps env){size x y}(h:(opR F (.store size x y) new).run ⟨env,s.σ⟩=some e)(hc:JV P (.store size x y) o.op=true):bL P o a s e:=by
 simp only[opR]at h;obtain⟨u,h1,h'⟩:=bind_some h;obtain⟨v,h2,g⟩:=bind_some h';clear h h';unfold JV at hc;simp only at hc;split at hc;rename_i t x' n c1;simp only[JX,beq_iff_eq]at hc;obtain⟨⟨hs,hx⟩,hy⟩:=hc;have rx:=bH he h1 hx;have ry:=bH he h2 hy;have a0: ∀{r L:Nat} {w':World},a.eval x'=.pointer (some ⟨r,L,none⟩)->(storeVar t ⟨r,L,none⟩ (a.eval n)).run P s.w=.ok () w'->(execOp a.eval o).run P s.w=.ok .skip w':=by simp_all [execOp,Instr.storeAt,Instr.sureAddr]
 unfold hQ at g;split at g;rename_i b off;simp only[RM.run]at g;split at g;rename_i blk I;split at g;rename_i cs;split at g;rename_i l hl;split at g;rename_i al;split at g;rename_i cs' a8;cases g;have I:s.σ[b]?=some (.box cs):=I;generalize hz:a.eval x'=z at rx;cases rx with
 |ptr _ _ r L m bu=>
  obtain⟨k1,k2,k3⟩:=RF hl ry;obtain⟨j1,j2,j3,j4⟩:=OJ a8;obtain⟨r1,o1,c,D,fz,C,S,aq,Z,hf⟩:=hi.box b cs I;rw[m]at C;injection C with C;injection C with m1 m2;subst m1 m2;have B:=DZ (vs:=(a.eval n).cells.toList) (o:=L+off) S (by simp;omega);have hlen:(a.eval n).cells.toList.length=l.length:=by simp[k1]
  obtain⟨i',t'⟩:=d8 hi (blk:=.box cs') I B (λk h1 h2=>by
   grind [Wr1]) (.box _ _ j1) (λbt q E=>by
   cases q;obtain⟨c0,e0,au,c',A,p2,p3,p4,p5,p6⟩:=B.there;rw[S]at A;injection A with A;injection A with K q2 q3;subst K q2 q3;refine⟨r,L,c',D,fz,m,p2,by omega,λi x ap=>?_,by simp_all⟩;by_cases az:off<=i/\i<off+l.length;have D:cs'[off+(i-off)]?=l[i-off]?:=j3 (i-off) (by omega);rw[show off+(i-off)=i by omega,ap]at D;have J:i-off<(a.eval n).cells.size:=by omega
   have e2:=p5 (i-off) (a.eval n).cells[i-off] (by simp);refine⟨(a.eval n).cells[i-off],by rw[<-e2];congr 1;omega,E (k3 (i-off) x _ D.symm (by simp)),k2 _ (by simp)⟩;grind)
   (λ_ _ q=>by cases q)
  refine ei (e:=⟨gJ,[(b,.box cs')]⟩) (a0 hz (fx (by simp_all) S (by omega) (λk h1 h2=>hf k (by omega) (by omega)) k2)) rfl i' t'
 cases g;cases g;cases g;cases g;cases g;rename_i b ext i off;simp only[RM.run]at g;split at g;rename_i blk I;split at g;rename_i esz rows;split at g;rename_i aa;split at g;rename_i row O;obtain⟨H,h3,T⟩:=bind_some g;split at T;rename_i U;split at T;rename_i N V;cases T;have I:s.σ[b]?=some (.arr true esz rows):=I;obtain⟨al,b9⟩:=U;obtain⟨g1,i1,t1,f1,l1,r1⟩:=YB hi (.refl _) h3 ry;have R:(upd H.2 s.σ)[b]?=some (.arr true esz rows):=by grind [Bp]
 have Y:=rx.mono hi t1;obtain⟨j1,j2,j3,j4⟩:=OJ V;have a7: ∀u∈(a.eval n).cells.toList,u.oneCell'=true:=by
  intro u hu;obtain⟨k,G⟩:=lZ hu;have G:(a.eval n).cells[k]?=some u:=by simpa using G
  have J:=QP G;exact(r1 k H.1[k] u (by simp_all) G).one
 generalize hz:a.eval x'=z at Y;cases Y with
 |ep _ _ _ _ _ wm' a5 rows' p0 A p2 p3=>
  have A:(upd H.2 s.σ)[b]?=some (.arr wm' a5 rows'):=A;rw[R]at A;injection A with A;injection A with a1 a2 a3;subst a1 a2 a3;have J:=Jq O;obtain⟨r,m,hv⟩:=p3 aa (by omega);rcases i1.arr b _ _ _ R with⟨C,_⟩|⟨rr,c,D,fz,C,S,ao,aq,Z,hf⟩;simp_all;rw[m]at C;injection C with C;injection C with m1 _;subst m1;have b3:=ao row (gL O);have hlen:(a.eval n).cells.toList.length=H.1.length:=by simp[l1]
  have bh:i*esz+esz<=rows.length*esz:=(by have:=zQ4 esz (show i+1<=rows.length from J);grind);have M:s.w.heap[r]?=some (.cells c D fz):=S;have B:=DZ (vs:=(a.eval n).cells.toList) (o:=i*esz+off) M (by grind);obtain⟨i2,t2⟩:=d8 (s0:=⟨upd H.2 s.σ,g1,s.w⟩) i1 (blk:=.arr true esz (rows.set i N)) R B (λk h1 h2=>by
   grind [Wr1]) (.arr _ _ _ (by simp)) (λ_ q=>by cases q) (λb8 b2 q E=>by
   injection q with _ h1 h2;subst h1 h2;obtain⟨c0,e0,au,c',K,q2,q3,q4,q5,q6⟩:=B.there;rw[M]at K;injection K with K;injection K with w1 w2 w3;subst w1 w2 w3;refine .inr ⟨r,c',D,fz,m,q2,λbx bw=>?_,by simp;omega,λk j a6 x0 G hj=>⟨?_,λh=>by cases h⟩,by simp_all⟩;grind;have bm:=Jq hj;by_cases W:k=i;subst W;rw[uH J]at G;cases G;by_cases az:off<=j/\j<off+H.1.length;have D:=j3 (j-off) (by omega);rw[show off+(j-off)=j by omega,hj]at D;have Q:j-off<(a.eval n).cells.size:=by omega
   have e2:=q5 (j-off) (a.eval n).cells[j-off] (by simp);refine⟨(a.eval n).cells[j-off],by rw[<-e2];congr 1;omega,E (r1 (j-off) x0 _ D.symm (by simp))⟩;grind;rw[FC (Ne.symm W)]at G;obtain⟨⟨v',ay,aj⟩,_⟩:=Z k j a6 x0 G hj;refine⟨v',?_,E aj⟩;rw[q6 _ ?_];exact ay;have am:j<esz:=by grind
   rw[hlen];rcases zQ3 k i with Q|bz;left;have:=iY Q am;omega;right;have:=zQ4 esz (show i+1<=k by omega);grind)
  refine ei (e:=⟨gJ,H.2++[(b,.arr true esz (rows.set i N))]⟩) (g':=g1) (a0 (hz.trans hv) (fx (by simp_all) M (by grind) (λk h1 h2=>hf.1 k (by omega) (by grind)) a7)) rfl ?_ ?_;rw[eR];exact i2;rw[eR];exact t1.trans t2
 cases T;cases T;cases g;cases g;cases g;cases g;cases g;cases hc
end
end Go.Am
end
section
namespace Go.Am
theorem Gp(vs:List Value): ∀(k:Nat) (off:Nat) (cs:Array Value),off+k+vs.length<=cs.size->
  let r:=(vs.zipIdx k).foldl (λcs (x:Value×Nat)=>cs.setIfInBounds (off+x.2) x.1) cs
  r.size=cs.size/\(∀(j:Nat) v,vs[j]?=some v->r[off+k+j]?=some v)/\ ∀i,(i<off+k\/off+k+vs.length<=i)->r[i]?=cs[i]?:=by
 induction vs with
 |nil=>simp_all
 |cons v vs ih=>
  intro k off cs h;simp only[FP]at h;have:=ih (k+1) off (cs.setIfInBounds (off+k) v) (by simp;omega);simp only[List.zipIdx_cons,List.foldl_cons];obtain⟨h1,h2,e⟩:=this;grind
section
variable {P:Program} {F:Orc} {s:Sn} {a:Act} {env:List (Nat×AV)} {o:Oper} {new:Nat} {e:Eff}
theorem pb{place:Nat->Option (Nat×Nat)}{cells:Array Value}{i:Nat}{v:Value}{rest:List (Nat×Value)}{off size:Nat}(hp:place i=some (off,size))(hs:v.cells.size=size)(hl:off+size<=cells.size):
  ∃e:Array Value,Instr.fill place cells ((i,v)::rest)=Instr.fill place e rest/\e.size=cells.size/\(∀(j:Nat) u,v.cells[j]?=some u->e[off+j]?=some u)/\
   ∀k,(k<off\/off+size<=k)->e[k]?=cells[k]?:=by
 subst hs;obtain⟨h1,h2,h⟩:=Gp v.cells.toList 0 off cells (by simp;omega);refine⟨v.cells.zipIdx.foldl (λcs (c,j)=>cs.setIfInBounds (off+j) c) cells,?_,?_,?_,?_⟩;grind [Instr.fill]
 all_goals (have g:v.cells.zipIdx.foldl (λcs (x:Value×Nat)=>cs.setIfInBounds (off+x.2) x.1) cells=(v.cells.toList.zipIdx 0).foldl (λcs (x:Value×Nat)=>cs.setIfInBounds (off+x.2) x.1) cells:=by
             rw[<-Array.foldl_toList];simp)
 all_goals simp_all
theorem dj{place:Nat->Option (Nat×Nat)}: ∀{parts:List (Nat×Nat×List AV)} {ps:List (Nat×Value)} {cs cs':List AV} {cells:Array Value},
  pN parts cs=some cs'->parts.length=ps.length->
  (∀(k:Nat) off size l i v,parts[k]?=some (off,size,l)->ps[k]?=some (i,v)->place i=some (off,size)/\l.length=v.cells.size/\(∀u∈v.cells.toList,u.oneCell'=true)/\
   ∀(j:Nat) y u,l[j]?=some y->v.cells[j]?=some u->JJ s y u)->
  cs.length=cells.size->(∀(i:Nat) x,cs[i]?=some x-> ∃u,cells[i]?=some u/\JJ s x u/\u.oneCell'=true)->
  ∃e,Instr.fill place cells ps=some e/\cs'.length=e.size/\ ∀(i:Nat) x,cs'[i]?=some x-> ∃u,e[i]?=some u/\JJ s x u/\u.oneCell'=true
 |[],[],cs,cs',cells,h,_,_,hl,hr=>by simp[pN]at h;subst h;exact⟨cells,rfl,hl,hr⟩
 |[],_::_,_,_,_,_,hl,_,_,_=>by simp at hl
 |_::_,[],_,_,_,_,hl,_,_,_=>by simp at hl
 |(off,size,l)::parts,(i,v)::ps,cs,cs',cells,h,hlen,hp,hl,hr=>by
  unfold pN at h;split at h;rename_i D;split at h;rename_i F n;obtain⟨z,H,q,r⟩:=hp 0 off size l i v rfl rfl;obtain⟨G,M,w,I⟩:=OJ n;obtain⟨g,J,K,A,L⟩:=pb (v:=v) (rest:=ps) (cells:=cells) z (by omega) (by omega);obtain⟨e,Q,O,N⟩:=dj (cells:=g) h (by simpa using hlen) (λk off size l i v h1 h2=>hp (k+1) off size l i v (by simpa using h1) (by simpa using h2)) (by omega) (λk x B=>by
   by_cases E:off<=k/\k<off+l.length;have o:=w (k-off) (by omega);rw[show off+(k-off)=k by omega,B]at o;have C:k-off<v.cells.size:=by omega
   have P:=A (k-off) v.cells[k-off] (by simp);exact⟨v.cells[k-off],by simp_all,r (k-off) x _ o.symm (by simp),q _ (by simp)⟩;grind)
  simp_all;cases h;cases h
theorem fb(he:bM s a.tmps env){place:Nat->Option (Nat×Nat)}: ∀{parts:List (Nat×Nat×Opd)} {ps:List (Nat×Operand)} {l:List (Nat×Nat×List AV)},
  (jP parts).run ⟨env,s.σ⟩=some l->rL place parts ps=true->
  l.length=(ps.map λx=>(x.1,a.eval x.2)).length/\
  ∀(k:Nat) off size cs i v,l[k]?=some (off,size,cs)->(ps.map λx=>(x.1,a.eval x.2))[k]?=some (i,v)->place i=some (off,size)/\cs.length=v.cells.size/\(∀u∈v.cells.toList,u.oneCell'=true)/\
   ∀(j:Nat) y u,cs[j]?=some y->v.cells[j]?=some u->JJ s y u
 |[],[],l,h,_=>by
  grind [jP,RM.run]
 |[],_::_,_,_,e=>by grind [rL]
 |_::_,[],_,_,e=>by grind [rL]
 |(off,size,x)::parts,(i,y)::ps,l,h,e=>by
  simp only[rL,JX,beq_iff_eq]at e;obtain⟨⟨z,g⟩,e⟩:=e;simp only[jP]at h;obtain⟨v,h1,h⟩:=bind_some h;split at h;rename_i cs hcs;obtain⟨q,h2,h⟩:=bind_some h;simp only[RM.run]at h;injection h with h;subst h;obtain⟨n,o⟩:=fb he h2 e;obtain⟨r,A,w⟩:=RF hcs (bH he h1 g);grind;cases h
theorem fa: ∀{fs:List Field},(∀f∈fs,(szT P f.type).isSome=true)-> ∀w:World,
  (fs.mapM λf=>do pure (f.offset,<-sizeOf f.type):Sem (List (Nat×Nat))).run P w=.ok (fs.map λf=>(f.offset,(szT P f.type).getD 0)) w
 |[],_,w=>by simp
 |f::fs,h,w=>by
  have e:(szT P f.type)=some ((szT P f.type).getD 0):=by have:=h f (by simp);cases hq:szT P f.type<;>simp[hq]at this⊢
  have ih:=fa (fs:=fs) (λg j=>h g (by simp[j])) w;rw[List.mapM_cons];simp only[xU,gX e,sM,SL,ih];simp
theorem JGh(hi:Inv s)(he:bM s a.tmps env){zero parts}(h:(opR F (.build zero parts) new).run ⟨env,s.σ⟩=some e)(hc:JV P (.build zero parts) o.op=true):bL P o a s e:=by
 simp only[opR]at h;obtain⟨l,h1,D⟩:=bind_some h;clear h;unfold JV at hc;simp only at hc;split at hc;rename_i t ps Z;simp only[JX]at hc;obtain⟨V,ht⟩:=hc;obtain⟨z,a0,J,K⟩:=rQ V;split at D;rename_i cs hcs;obtain⟨r,W,rfl⟩:=gK D;have B: ∀(i:Nat) x,(zero.map AV.p)[i]?=some x-> ∃u,z.cells[i]?=some u/\JJ s x u/\u.oneCell'=true:=by
  intro i x H;rw[gE]at H;cases hzi:zero[i]? with
  |none=>simp_all
  |some c=>
   simp[hzi]at H;subst H;have I:=Jq hzi;have Q:i<z.cells.size:=by omega
   have:=K (w:=s.w) (C:=s.g.C) i c z.cells[i] hzi (by simp);exact⟨z.cells[i],by simp,.p _ _ this,this.one⟩
 have fin: ∀{place:Nat->Option (Nat×Nat)},rL place parts ps.toList=true->
   ∃j,Instr.fill place z.cells (ps.toList.map λx=>(x.1,a.eval x.2))=some j/\JJ s r (.agg j):=by
  intro place A;obtain⟨O,S⟩:=fb he h1 A;obtain⟨j,E,R,U⟩:=dj (s:=s) (cells:=z.cells) hcs O S (by simp[J]) B;refine⟨j,E,?_⟩;have:=NT (s:=s) (vs:=j.toList) W (by simpa using R) (λv N=>by
    obtain⟨i,hi'⟩:=lZ N;have hi':j[i]?=some v:=by simpa using hi'
    have I:=QP hi';obtain⟨u,M,_,h1⟩:=U i cs[i] (by simp_all);simp_all)
   (λi y v hy N=>by
    grind)
  simp_all
 have a1:(ps.map λx=>(x.1,a.eval x.2)).toList=ps.toList.map λx=>(x.1,a.eval x.2):=by simp
 split at ht;rename_i fs M;simp only[JX]at ht;obtain⟨k,A⟩:=ht;obtain⟨j,E,G⟩:=fin A;have Y:(λi=>(fs.map λf=>(f.offset,(szT P f.type).getD 0))[i]?)=DA P fs:=by
  funext i
  simp only[DA,Array.getElem?_map];cases hfi:fs[i]? with
  |none=>rfl
  |some f=>have:=SY.1 k f (Array.mem_of_getElem? hfi);cases L:szT P f.type<;>simp[L]at this⊢
 refine JK hi (v:=.agg j) ?_ G;have T:(fs.mapM λf=>do pure (f.offset,<-sizeOf f.type):Sem (Array (Nat×Nat))).run P s.w=.ok (fs.map λf=>(f.offset,(szT P f.type).getD 0)) s.w:=by
  rw[Array.mapM_eq_mapM_toList];simp only[Sem.run_map,fa (P:=P) (fs:=fs.toList) (λf hf=>SY.1 k f (by simpa using hf)),sM]
  congr 1
  grind
 have hf:Instr.fill (λi=>(fs.map λf=>(f.offset,(szT P f.type).getD 0))[i]?) z.cells (ps.map λx=>(x.1,a.eval x.2)).toList=some j:=by simp_all
 simp_all [Instr.build,DH,run_underlying,execOp];rename_i n el M;split at ht;rename_i q L;obtain⟨j,E,G⟩:=fin ht;refine JK hi (v:=.agg j) ?_ G;have hb:(Instr.build t (ps.map λx=>(x.1,a.eval x.2))).run P s.w=.ok (.agg j) s.w:=by simp_all [Instr.build,DH,run_underlying,gX]
 simp_all [execOp];cases ht;cases ht;cases D;cases hc
theorem JJH(hi:Inv s){n}(h:(opR F (.alen n) new).run ⟨env,s.σ⟩=some e)(hc:JV P (.alen n) o.op=true):bL P o a s e:=by
 simp only[opR,RM.run]at h;injection h with h;subst h;unfold JV at hc;simp only at hc;split at hc;rename_i c k;split at hc;rename_i g;split at hc;rename_i y t j r;have z:c.args.map a.eval= #[a.eval y]:=by apply xA;simp[j]
 have q:c.argTypes[0]?=some t:=by rw[<-FE,r];rfl
 split at hc;rename_i m el w;have:m=n:=by simpa using hc
 subst this;exact JK hi (v:=.int .i64 m) (by simp[execOp,k,resolve,g,z,invoke,builtin,Builtin.len_,q,run_underlying w,goInt]) (pR _ _);rename_i ar w;split at hc;rename_i m el x;have:m=n:=by simpa using hc
 subst this;exact JK hi (v:=.int .i64 m) (by simp[execOp,k,resolve,g,z,invoke,builtin,Builtin.len_,q,run_underlying w,run_underlying (da x),goInt]) (pR _ _);cases hc;cases hc;cases hc;cases hc;cases hc
end
end Go.Am
end
section
namespace Go.Am
def qX(s:Sn)(esz:Nat)(rows:List (List PV))(c:Array Value):Prop:=(∀row∈rows,row.length=esz)/\rows.length*esz<=c.size/\ ∀(i j:Nat) row x,rows[i]?=some row->row[j]?=some x-> ∃u,c[i*esz+j]?=some u/\J0i s.w s.g.C x u
section
variable {P:Program} {F:Orc} {s:Sn} {a:Act} {env:List (Nat×AV)} {o:Oper} {new:Nat} {e:Eff}
theorem qX.mono{s0 s:Sn}(hi:Inv s0)(t:aZ s0 s){esz rows c}(h:qX s0 esz rows c):qX s esz rows c:=
 ⟨h.1,h.2.1,λi j row x e g=>let⟨u,h1,h2⟩:=h.2.2 i j row x e g;⟨u,h1,h2.mono hi t⟩⟩
theorem PJ{s0:Sn}(hi:Inv s0)(hn:s0.σ[new]?=some .dead){esz:Nat}{rows:List (List PV)}{c:Array Value}{et:TypeId}{fz:Nat×Nat}{w':World}{cap:Nat}
  (hh:w'.heap=s0.w.heap.push (.cells c et fz)) (ho:w'.os=s0.w.os) (hp:w'.output=s0.w.output) (hf:vB esz fz c.size) (hr:qX s0 esz rows c) (e:rows.length<=cap) (g:cap*esz<=c.size):
  (∃g',Inv ⟨s0.σ.set new (.arr true esz rows),g',w'⟩/\aZ s0 ⟨s0.σ.set new (.arr true esz rows),g',w'⟩/\
   JJ ⟨s0.σ.set new (.arr true esz rows),g',w'⟩ (.slr new 0 rows.length) (.slice (some ⟨s0.w.heap.size,0,none⟩) rows.length cap)):=by
 obtain⟨j,t'⟩:=OS hi hn (blk:=.arr true esz rows) hh ho hp hf.1 (λ_ _ _ h=>by injection h with _ h _;subst h;exact hf.2) hr;refine⟨_,j,t',.slr new 0 _ _ true esz rows ⟨_,_,rfl,.inr (by simp)⟩ (gZ hn) (by omega) λ_=>.inr ⟨s0.w.heap.size,cap,c,et,fz,if_pos rfl,by simp,e,KJ hh,by simpa using g⟩⟩
theorem d9{s0:Sn}(hi:Inv s0){esz:Nat}{rows:List (List PV)}{c:Array Value}{et:TypeId}{fz:Nat×Nat}{w':World}{cap:Nat}
  (hh:w'.heap=s0.w.heap.push (.cells c et fz)) (ho:w'.os=s0.w.os) (hp:w'.output=s0.w.output) (hr:qX s0 esz rows c) (e:rows.length<=cap):
  (∃g',Inv ⟨s0.σ,g',w'⟩/\aZ s0 ⟨s0.σ,g',w'⟩/\JJ ⟨s0.σ,g',w'⟩ (.p (.sl esz rows)) (.slice (some ⟨s0.w.heap.size,0,none⟩) rows.length cap)):=by
 obtain⟨g,t'⟩:=JF4 hi hh ho hp;refine⟨_,g,t',.p _ _ (ft (s:=⟨s0.σ,_,w'⟩) rfl e hr.1 (.inr ⟨_,0,rfl,λi j row x hi' h=>⟨.inr rfl,?_⟩⟩))⟩;obtain⟨u,k,hrel⟩:=hr.2.2 i j row x hi' h;exact⟨u,by grind [jB],hrel.mono hi t'⟩
theorem D3{F:List Blk}{tmps:Array Value}(he: ∀n x,lk n env=some x-> ∃v,a.tmps[n]?=some v): ∀{xs:List Opd} {j:List Operand} {s:Sn} {y:List (List PV)×List (Nat×Blk)},Inv s->Frz F s.σ->bM s a.tmps env->
  (fzs xs).run ⟨env,F⟩=some y->iC xs j=true->
  ∃g',Inv ⟨upd y.2 s.σ,g',s.w⟩/\aZ s ⟨upd y.2 s.σ,g',s.w⟩/\Frz s.σ (upd y.2 s.σ)/\y.1.length=j.length/\
   ∀(k:Nat) cs q,y.1[k]?=some cs->j[k]?=some q->cs.length=(a.eval q).cells.size/\ ∀(i:Nat) c u,cs[i]?=some c->(a.eval q).cells[i]?=some u->J0i s.w g'.C c u
 |[],[],s,y,hi,r,z,h,_=>by
  simp only[fzs,RM.run]at h;injection h with h;subst h;exact⟨s.g,hi,.refl s,.refl _,rfl,λk cs q h=>by simp at h⟩
 |[],_::_,_,_,_,_,_,_,e=>by grind [iC]
 |_::_,[],_,_,_,_,_,_,e=>by grind [iC]
 |x::xs,q::j,s,y,hi,r,z,h,e=>by
  simp only[iC,JX]at e;simp only[fzs]at h;obtain⟨v,h1,h⟩:=bind_some h;obtain⟨o,h2,h⟩:=bind_some h;obtain⟨O,R,h⟩:=bind_some h;simp only[RM.run]at h;injection h with h;subst h;have E:(ev x).run ⟨env,s.σ⟩=some v:=by cases x<;>simp_all [ev,RM.run]
  have P:=bH z E e.1;obtain⟨J,i1,D,B,M,K⟩:=YB hi r h2 P;obtain⟨H,i2,A,L,N,S⟩:=D3 (tmps:=tmps) he (s:=⟨upd o.2 s.σ,J,s.w⟩) i1 (r.trans B) (z.mono hi D) R e.2;refine⟨H,by grind [eR],by rw[eR];exact D.trans A,by rw[eR];exact B.trans L,by simp[N],λk cs q' G I=>?_⟩;cases k with
  |zero=>simp at G I;subst G I;exact⟨M,λi c u e Q=>J0i.mono (s0:=⟨upd o.2 s.σ,J,s.w⟩) (s:=⟨upd O.2 (upd o.2 s.σ),H,s.w⟩) i1 A (K i c u e Q)⟩
  |succ k=>grind
theorem qh{esz:Nat}(z:0<esz): ∀{parts:List (Nat×List PV)} {ps:List (Nat×Value)} {rows rows':List (List PV)} {cells:Array Value},
  yT esz parts rows=some rows'->parts.length=ps.length->
  (∀(k:Nat) i cs j v,parts[k]?=some (i,cs)->ps[k]?=some (j,v)->i=j/\cs.length=v.cells.size/\ ∀(m:Nat) c u,cs[m]?=some c->v.cells[m]?=some u->J0i s.w s.g.C c u)->
  qX s esz rows cells->cells.size=rows.length*esz->
  ∃e,Instr.fill (λi=>some (i*esz,esz)) cells ps=some e/\qX s esz rows' e/\rows'.length=rows.length/\e.size=rows.length*esz
 |[],[],rows,rows',cells,h,_,_,hr,hs=>by simp[yT]at h;subst h;exact⟨cells,rfl,hr,rfl,hs⟩
 |[],_::_,_,_,_,_,hl,_,_,_=>by simp at hl
 |_::_,[],_,_,_,_,hl,_,_,_=>by simp at hl
 |(i,cs)::parts,(j,v)::ps,rows,rows',cells,h,hlen,hp,hr,hs=>by
  unfold yT at h;split at h;rename_i B;obtain⟨rfl,M,D⟩:=hp 0 i cs j v rfl rfl;have E:i*esz+esz<=rows.length*esz:=(by have:=zQ4 esz (show i+1<=rows.length from B.2);grind);obtain⟨o,N,P,G,F⟩:=pb (place:=λi=>some (i*esz,esz)) (v:=v) (rest:=ps) (cells:=cells) (i:=i) rfl (by omega) (by omega);obtain⟨H,U,I⟩:=hr;obtain⟨e,S,R,Q,O⟩:=qh z (cells:=o) h (by simpa using hlen) (λk i cs j v h1 h2=>hp (k+1) i cs j v (by simpa using h1) (by simpa using h2))
   ⟨λrow T=>by
     grind,by simp;omega,λk m row x n q=>by
     by_cases r:k=i;subst r;rw[uH B.2]at n;injection n with n;subst n;have L:=Jq q;have y:m<v.cells.size:=by omega
     exact⟨v.cells[m],G m _ (by simp),D m x _ q (by simp)⟩;rw[FC (Ne.symm r)]at n;obtain⟨u,J,hrel⟩:=I k m row x n q;refine⟨u,?_,hrel⟩;rw[F _ ?_];exact J;have A:=Jq q;rw[H row (gL n)]at A;rcases zQ3 k i with y|K;grind [iY];right;have:=zQ4 esz (show i+1<=k by omega);grind⟩ (by simp;omega)
  grind;cases h
theorem IQ{t:TypeId}{n:Nat}(h:szT P t=some n): ∃i,P.info? t=some i/\i.size=n:=by simp_all [szT]
theorem OR{t:TypeId}{v:Value}{i:TypeInfo}(h:zeT P t=some v)(hi:P.info? t=some i):i.zero=some v:=by
 grind [zeT]
theorem PA{t:TypeId}{n:Nat}{i:TypeInfo}(h:byT P t=some n)(hi:P.info? t=some i):i.bytes=n:=by
 grind [byT]
theorem JHq{z:Array Value}{esz n i j:Nat}(hz:z.size=esz)(hi:i<n)(hj:j<esz):(madeCells z (n*esz))[i*esz+j]?=z[j]?:=by
 grind [iY,Nat.add_mul_mod_self_right,Nat.mod_eq_of_lt,madeCells]
theorem rc{zero:List PV}{z:Value}{esz n m:Nat}(hl:zero.length=esz)(k:zero.length=z.cells.size)
  (g: ∀{w C} (i:Nat) x u,zero[i]?=some x->z.cells[i]?=some u->J0i w C x u) (q:n<=m):qX s esz (List.replicate n zero) (madeCells z.cells (m*esz)):=by
 refine⟨λrow v=>by simp_all,?_,λi j row x hi h=>?_⟩;simp_all [size_madeCells,zQ4];have e:=Jq hi;have:=List.eq_of_mem_replicate (gL hi);subst this;have o:=Jq h;simp at e;have r:z.cells.size=esz:=by omega
 refine⟨z.cells[j],?_,g j x _ h (by simp)⟩;grind [JHq]
theorem JCi(hi:Inv s)(he:bM s a.tmps env){own esz bytes zero l c}(hn:own=true->s.σ[new]?=some .dead)(h:(opR F (.mkslice own esz bytes zero l c) new).run ⟨env,s.σ⟩=some e)
  (hc:JV P (.mkslice own esz bytes zero l c) o.op=true):bL P o a s e:=by
 simp only[opR]at h;obtain⟨u,h1,D⟩:=bind_some h;obtain⟨v,h2,g⟩:=bind_some D;clear h D;unfold JV at hc;simp only at hc;split at hc;rename_i t Z c' Y;simp only[JX]at hc;obtain⟨⟨hl,C⟩,ht⟩:=hc;have T:=bH he h1 hl;have U:=bH he h2 C;split at ht;rename_i el E;simp only[JX,beq_iff_eq,decide_eq_true_eq]at ht;obtain⟨⟨⟨⟨⟨W,K⟩,V⟩,H⟩,R⟩,Q⟩:=ht;obtain⟨i,j,I⟩:=IQ W;obtain⟨z,G,J,L⟩:=rQ V;have O:=PA K j;split at g;rename_i k n S m;split at g;rename_i r;obtain⟨M,N,hb,hm⟩:=r;have e1:=iE T;have e2:=iE U;have A:=run_make (P:=P) s.w t el i z (fE E) j (OR G j) k S n m M N (by simp_all) (by omega);rw[I]at A;have q:qX s esz (List.replicate n.toNat zero) (madeCells z.cells (m.toNat*esz)):=rc H J L (by omega);have x:(execOp a.eval o).run P s.w=.ok (.value (.slice (some ⟨s.w.heap.size,0,none⟩) n.toNat m.toNat)) (s.w.alloc (.cells (madeCells z.cells (m.toNat*esz)) el)):=by simp_all [execOp]
 split at g;rename_i y;simp only[RM.run]at g;injection g with g;subst g;obtain⟨g',B,t',r'⟩:=PJ hi (hn y) (w':=s.w.alloc (.cells (madeCells z.cells (m.toNat*esz)) el)) (fz:=(0,0)) rfl rfl rfl (vB.zero _ _) q (cap:=m.toNat) (by simp;omega) (by simp[size_madeCells]);simp only[BY]at r';exact fX x B t' r';simp only[RM.run]at g;injection g with g;subst g;obtain⟨g',B,t',r'⟩:=d9 hi (w':=s.w.alloc (.cells (madeCells z.cells (m.toNat*esz)) el)) (fz:=(0,0)) rfl rfl rfl q (cap:=m.toNat) (by simp;omega);simp only[BY]at r';exact fX (e:=⟨_,[]⟩) x B t' r';cases g;cases g;cases ht;cases hc
theorem JJj(hi:Inv s)(he:bM s a.tmps env){own esz n zero parts}(hn:own=true->s.σ[new]?=some .dead)(h:(opR F (.lits own esz n zero parts) new).run ⟨env,s.σ⟩=some e)
  (hc:JV P (.lits own esz n zero parts) o.op=true):bL P o a s e:=by
 simp only[opR]at h;obtain⟨y,h1,r⟩:=bind_some h;clear h;unfold JV at hc;simp only at hc;split at hc;rename_i t len ps ad;simp only[JX,beq_iff_eq]at hc;obtain⟨rfl,ht⟩:=hc;split at ht;rename_i el I;simp only[JX,beq_iff_eq,decide_eq_true_eq]at ht;obtain⟨⟨⟨⟨⟨hs,ae⟩,hz⟩,Z⟩,M⟩,hidx⟩:=ht;obtain⟨z,W,a0,a4⟩:=rQ hz;have A:iC (parts.map (·.2)) (ps.toList.map (·.2))=true/\parts.map (·.1)=ps.toList.map (·.1):=by
  have: ∀{p:List (Nat×Opd)} {q:List (Nat×Operand)},HW p q=true->iC (p.map (·.2)) (q.map (·.2))=true/\p.map (·.1)=q.map (·.1):=by
   intro p
   induction p with
   |nil=>intro q h;cases q<;>simp[HW]at h⊢;rfl
   |cons x p ih=>intro q h;cases q<;>grind [HW,iC]
  exact this hidx
 obtain⟨S,i1,t1,f1,l1,r1⟩:=D3 (tmps:=a.tmps) (λn x hx=>let⟨v,h,_⟩:=he n x hx;⟨v,h⟩) hi (.refl _) he h1 A.1;split at r;rename_i rows G;have E:(parts.map (·.1)).length=(ps.toList.map (·.1)).length:=by rw[A.2]
 simp at E;simp at l1;have Q:((parts.map (·.1)).zip y.1).length=(ps.toList.map λx=>(x.1,a.eval x.2)).length:=by simp;omega
 obtain⟨g,N,r2,B,V⟩:=qh (s:=⟨upd y.2 s.σ,S,s.w⟩) M (ps:=ps.toList.map λx=>(x.1,a.eval x.2)) (cells:=madeCells z.cells (len*esz)) G Q (λk i cs j v hk R=>by
   rw[List.getElem?_zip_eq_some]at hk;obtain⟨H,T⟩:=hk;rw[gE]at R;cases hpk:ps.toList[k]? with
   |none=>simp_all
   |some q=>
    simp[hpk]at R;obtain⟨rfl,rfl⟩:=R;rw[A.2,gE,hpk]at H;simp at H;obtain⟨k3,k4⟩:=r1 k cs q.2 T (by simp_all);grind)
  (rc Z a0 a4 (zQ0 _)) (by simp[size_madeCells])
 simp at B V;have J:(execOp a.eval o).run P s.w=.ok (.value (.slice (some ⟨s.w.heap.size,0,none⟩) len len)) (s.w.alloc (.cells g el)):=by
  have D: ¬(len*esz>2^24):=by omega
  have K:(ps.map fun(x:Nat×Operand)=>(x.1,a.eval x.2)).toList=ps.toList.map λx=>(x.1,a.eval x.2):=by simp
  have hb:(Instr.buildSlice t len (ps.map fun(x:Nat×Operand)=>(x.1,a.eval x.2))).run P s.w=.ok (.slice (some ⟨s.w.heap.size,0,none⟩) len len) (s.w.alloc (.cells g el)):=by
   unfold Instr.buildSlice;by_cases U:len*esz=0;have C:madeCells z.cells (len*esz)= #[]:=by grind [madeCells]
   rw[C]at N;have Y: ¬((0:Nat)>2^24):=by decide
   have a3:Array.range 0= #[]:=rfl;simp only[Y,xU,run_underlying (fE I),sM,gX hs,D,if_false,U,if_true,SL,K,a3,Array.map_empty,N,newRow,run_newObj];rfl;have C:((Array.range (len*esz)).map λx=>z.cells[x%z.cells.size]!)=madeCells z.cells (len*esz):=rfl;simp only[xU,run_underlying (fE I),sM,gX hs,D,if_false,U,DH W,SL,K,C,N,newRow,run_newObj];rfl
  simp_all [execOp]
 split at r;rename_i L;simp only[RM.run]at r;injection r with r;subst r;have a1:(upd y.2 s.σ)[new]?=some .dead:=f1.2 _ _ (hn L) (by simp);obtain⟨g',O,t',r'⟩:=PJ (s0:=⟨upd y.2 s.σ,S,s.w⟩) i1 a1 (w':=s.w.alloc (.cells g el)) (fz:=(0,0)) rfl rfl rfl (vB.zero _ _) r2 (cap:=len) (by omega) (by omega);rw[B]at r';refine fX (e:=⟨_,y.2++[(new,.arr true esz rows)]⟩) (g':=g') J ?_ ?_ ?_;rw[eR];exact O;rw[eR];exact t1.trans t';rw[eR];exact r';simp only[RM.run]at r;injection r with r;subst r;obtain⟨g',O,t',r'⟩:=d9 (s0:=⟨upd y.2 s.σ,S,s.w⟩) i1 (w':=s.w.alloc (.cells g el)) (fz:=(0,0)) rfl rfl rfl r2 (cap:=len) (by omega);rw[B]at r';exact fX (e:=⟨_,y.2⟩) J O (t1.trans t') r';cases r;cases ht;cases hc
end
end Go.Am
end
section
namespace Go.Am
section
variable {P:Program} {F:Orc} {s:Sn} {a:Act} {env:List (Nat×AV)} {o:Oper} {new:Nat} {e:Eff}
theorem r9(l:List UInt8)(c:Array Value)(hc: ∀(i:Nat) b,l[i]?=some b->c[i]?=some (.int .u8 b.toNat))(hl:l.length<=c.size):qX s 1 (l.map mE) c:=by
 refine⟨λrow g=>?_,by simpa using hl,λi j row x hi e=>?_⟩;obtain⟨b,_,rfl⟩:=jF.1 g;rfl;rw[gE]at hi;cases hli:l[i]? with
 |none=>simp_all
 |some b=>
  simp[hli]at hi;subst hi;have:j=0:=by grind [mE]
  subst this;simp[mE]at e;subst e;exact⟨_,by simp_all,.i _ _⟩
theorem ZO{α:Type}{esz:Nat}: ∀{rows:List (List α)},(∀row∈rows,row.length=esz)-> ∀{i j:Nat} {row:List α} {x:α},rows[i]?=some row->row[j]?=some x->rows.flatten[i*esz+j]?=some x
 |[],_,i,j,row,x,h,_=>by simp at h
 |r0::e,hl,i,j,row,x,h,k=>by
  have n:r0.length=esz:=hl r0 (by simp);cases i with
  |zero=>
   grind
  |succ i=>
   simp only[qO];rw[mX (by grind)];have:=ZO (rows:=e) (λrow g=>hl row (by simp[g])) (by simpa using h) k;grind
theorem It{el:TypeId}(l:List UInt8)(w:World): ∃w' cap c fz,(Conv.stringToBytes el ⟨l.toArray⟩).run P w=.ok (.slice (some ⟨w.heap.size,0,none⟩) l.length cap) w'/\
  w'.heap=w.heap.push (.cells c el fz)/\w'.os=w.os/\w'.output=w.output/\BM fz 0 c.size/\l.length<=cap/\c.size=cap/\ ∀(i:Nat) b,l[i]?=some b->c[i]?=some (.int .u8 b.toNat):=by
 have hf:(Question.appendCap l.length 0 el).forced=false:=rfl;have e:l.length<=(Question.appendCap l.length 0 el).cut (w.tape w.drawn (.appendCap l.length 0 el)):=by simp[Question.cut]
 generalize j:(Question.appendCap l.length 0 el).cut (w.tape w.drawn (.appendCap l.length 0 el))=cap at e
 let c:Array Value:=(l.toArray.map λb=>Value.int .u8 b.toNat)++Array.replicate (cap-l.length) (.int .u8 0)
 have q:c.size=cap:=by simp[c];omega
 refine⟨({w with drawn:=w.drawn+1,heap:=w.heap.push (.cells c el)}).freeze {block:=w.heap.size,off:=c.size} 1,cap,c,(c.size,c.size+1),?_,?_,?_,?_,?_,e,q,?_⟩;unfold Conv.stringToBytes;have k:ByteArray.size ⟨l.toArray⟩=l.length:=tD l;have g:World.shape? {w with drawn:=w.drawn+1,heap:=w.heap.push (.cells c el)} w.heap.size=some (el,c.size):=by simp[World.shape?]
 have n:(Array.map (λb=>Value.int IntKind.u8 ↑(UInt8.toNat b)) l.toArray++Array.replicate (cap-l.length) (Value.int IntKind.u8 0))=c:=rfl;simp only[xU,run_choose,k,hf,eE,if_false,sM,j,newRow,run_newObj,SL,markStringish,run_shape,run_freeze,n,g];grind [World.freeze];simp[World.freeze];simp[World.freeze];intro o _ h;simp;omega;grind
theorem JCU(hi:Inv s)(he:bM s a.tmps env){own x}(hn:own=true->s.σ[new]?=some .dead)(h:(opR F (.conv (.toBytes own) x) new).run ⟨env,s.σ⟩=some e)
  (hc:JV P (.conv (.toBytes own) x) o.op=true):bL P o a s e:=by
 simp only[opR]at h;obtain⟨u,h1,g⟩:=bind_some h;clear h;unfold JV at hc;simp only at hc;split at hc;rename_i J dst y H;simp only[JX]at hc;obtain⟨G,L,ht⟩:=hc;have D:=bH he h1 G;split at ht;rename_i el I;simp only[JX,beq_iff_eq]at ht;have r: ∃l,u=.p (.s l)/\(if own=true then RM.ret ⟨.slr new 0 l.length,[(new,.arr true 1 (l.map mE))]⟩else RM.ret ⟨.p (.sl 1 (l.map mE)),[]⟩:RM Eff).run ⟨env,s.σ⟩=some e:=by
  cases u with
  |p c=>cases c with|s l=>simp_all|_=>cases g
  |_=>cases g
 clear g;obtain⟨l,rfl,g⟩:=r
 skip
 obtain⟨w',cap,c,fz,C,A,z,v,hf,B,hcs,E⟩:=It (P:=P) (el:=el) l s.w;have K:=sX D;have k:(execOp a.eval o).run P s.w=.ok (.value (.slice (some ⟨s.w.heap.size,0,none⟩) l.length cap)) w':=by simp_all [execOp,convert,run_underlying,wC,fE,oj]
 have j:=r9 (s:=s) l c E (by omega);split at g;rename_i n;simp only[RM.run]at g;injection g with g;subst g;obtain⟨g',q,t',r'⟩:=PJ (esz:=1) hi (hn n) A z v ⟨hf,λh=>absurd rfl h⟩ j (cap:=cap) (by simp_all) (by omega);simp only[eB]at r';exact fX k q t' r';simp only[RM.run]at g;injection g with g;subst g;obtain⟨g',q,t',r'⟩:=d9 hi A z v j (cap:=cap) (by simp_all);simp only[eB]at r';exact fX (e:=⟨_,[]⟩) k q t' r';cases ht;cases hc
theorem YD(hi:Inv s){esz:Nat}{x:AV}{new:List (List PV)}{v:Value}{u:TypeId}(h:(eL esz x).run ⟨env,s.σ⟩=some new)(hr:JJ s x v)
  (hu:(elT P u).isSome=true\/iD P u=true):
  ∃news,Src P esz u v new.length news s.w/\(∀row∈new,row.length=esz)/\
   ∀(i j:Nat) row y,new[i]?=some row->row[j]?=some y-> ∃q,news[i*esz+j]?=some q/\J0i s.w s.g.C y q:=by
 have e:(∃e',P.underlying u=some (.slice e'))\/P.underlying u=some .string:=(by rcases hu with hu|hu;obtain⟨e',N⟩:=g7.1 hu;simp_all [fE];grind [wC]);rcases qp hi h hr with⟨l,rfl,rfl,rfl,rfl⟩|E;have hlen:(byteCells ⟨l.toArray⟩).length=l.length:=by rw[byteCells_length,tD]
 have Q: ∀w:World,(Builtin.firstCells 1 l.length (.string ⟨l.toArray⟩)).run P w=.ok (byteCells ⟨l.toArray⟩).toArray w:=(by grind [firstCells_string,tD]);refine⟨byteCells ⟨l.toArray⟩,⟨e,λw=>by rw[eB,<-tD];rfl,by simp_all,by simp_all,by rw[hlen];simp,λq H=>by obtain⟨_,_,rfl⟩:=jF.1 H;rfl⟩,λrow hr=>?_,?_⟩;obtain⟨b,_,rfl⟩:=jF.1 hr;rfl;have:=(r9 (s:=s) l (byteCells ⟨l.toArray⟩).toArray (λi b R=>by
  grind [byteCells]) (by simp_all)).2.2
 simp_all;obtain⟨ad,cap,vs,K,F,hlen,hrel,A,n⟩:=E.cells;have z: ∀q∈vs,q.oneCell'=true:=by
  intro q H;obtain⟨k,I⟩:=lZ H;have M:=Jq I;have:k<new.flatten.length:=by grind [PQ]
  obtain⟨q',o,hr⟩:=hrel k _ (aS this);rw[I]at o;injection o with o;subst o;exact hr.one
 have B: ∀(i j:Nat) row y,new[i]?=some row->row[j]?=some y-> ∃q,vs[i*esz+j]?=some q/\J0i s.w s.g.C y q:=by
  intro i j row y h1 h2;refine hrel _ _ ?_;clear hrel A hlen z h hr K F E
  induction new generalizing i with
  |nil=>simp at h1
  |cons J new ih=>have O:J.length=esz:=n J (by simp);cases i<;>grind
 subst K;rcases A with G|⟨r,L,rfl,S⟩;subst G;simp at hlen;subst hlen;refine⟨[],?_,n,B⟩;cases ad with
 |none=>exact⟨e,λ_=>rfl,run_firstCells_none s.w esz 0 0 cap,run_firstCells_none s.w.drew esz 0 0 cap,by simp,λ_ h=>by cases h⟩
 |some ad=>exact⟨e,λ_=>rfl,run_firstCells_some s.w esz 0 ad 0 cap [] (by simp) (λj u h=>by simp at h),run_firstCells_some s.w.drew esz 0 ad 0 cap [] (by simp) (λj u h=>by simp at h),by simp,λ_ h=>by cases h⟩
 have D: ∀j q,vs[j]?=some q->s.w.cell? (Addr.add ⟨r,L,none⟩ j)=some q:=λj q T=>by grind [vY,pQ]
 exact⟨vs,⟨e,λ_=>rfl,run_firstCells_some s.w esz _ _ _ cap vs hlen D,run_firstCells_some s.w.drew esz _ _ _ cap vs hlen (by simpa using D),hlen,z⟩,n,B⟩
theorem OF(b:Nat)(x:Blk)(σ:List Blk):upd [(b,x)] σ=σ.set b x:=rfl
structure jg(P:Program)(esz bytes:Nat)(t ut ty el:TypeId)(z v:Value)(n:Nat)(news:List Value)(w:World):Prop where
 newsLen:news.length=n*esz
 room: ∀(r off sLen sCap:Nat),sLen+n<=sCap->(∀j,j<news.length->(w.cell? ⟨r,off+sLen*esz+j,none⟩).isSome=true)->(∀j,j<news.length->w.frozen? ⟨r,off+sLen*esz+j,none⟩=false)->
  (Builtin.append_ #[t,ut] ty #[.slice (some ⟨r,off,none⟩) sLen sCap,v]).run P w=.ok (.slice (some ⟨r,off,none⟩) (sLen+n) sCap) (w.setCells r (off+sLen*esz) news)
 grow: ∀(base:Option Addr) (sLen sCap:Nat) (olds:List Value),(Builtin.firstCells esz sLen (.slice base sLen sCap)).run P w.drew=.ok olds.toArray w.drew->sCap<sLen+n->((sLen+n:Nat):Int)<=9223372036854775807->
  Builtin.nextslicecap (sLen+n) sCap*bytes<=281474976710656->
  (Builtin.append_ #[t,ut] ty #[.slice base sLen sCap,v]).run P w=.ok (.slice (some ⟨w.heap.size,0,none⟩) (sLen+n) (grownCap w (sLen+n) sCap el)) (w.drew.alloc (.cells ((olds++news).toArray++Builtin.zeroCells z.cells (grownCap w (sLen+n) sCap el-(sLen+n))) el))
 nil:n=0->(Builtin.append_ #[t,ut] ty #[.slice none 0 0,v]).run P w=.ok (.slice none 0 0) w
theorem Src.gen{esz bytes:Nat}{t ut ty el:TypeId}{i:TypeInfo}{z v:Value}{n:Nat}{news:List Value}{w:World}(g:elT P t=some el)(hs:szT P el=some esz)(j:P.info? el=some i)(x:i.size=esz)(y:i.bytes=bytes)(k:i.zero=some z)
  (h:Src P esz ut v n news w):jg P esz bytes t ut ty el z v n news w:=by
 have e:=h;rw[<-x]at e;refine⟨h.newsLen,λr off sLen sCap h1 h2 A=>?_,λbase sLen sCap olds h1 h2 A D=>?_,λB=>?_⟩;have C:=run_append_room_src (P:=P) w t ut ty el i (fE g) j r off sLen sCap v n news e h1 (by simp_all) (by simp_all);simp_all;exact run_append_grow_src (P:=P) w t ut ty el i z (fE g) j k base sLen sCap olds (by simp_all) v n news e h2 A (by simp_all);subst B;have hl:=h.len w;have o:=h.cells;rcases h.kind with⟨e',q⟩|q;simp[Builtin.append_,run_underlying (fE g),run_underlying q,gX hs,hl,o];simp[Builtin.append_,run_underlying (fE g),run_underlying q,gX hs,hl,o]
theorem JD4{esz bytes:Nat}{t ut ty el:TypeId}{i:TypeInfo}{z:Value}{k J:IntKind}{m:Nat}{w:World}(n:elT P t=some el)(hs:szT P el=some esz)(h:P.info? el=some i)(o:i.size=esz)(g:i.bytes=bytes)(j:i.zero=some z)
  (M:z.cells.size=esz) (K: ∀u∈z.cells.toList,u.oneCell'=true) (hk:P.underlying ut=some (.int k)) (hm:m*bytes<=281474976710656) (L:m<=281474976710656):
  jg P esz bytes t ut ty el z (.int J (m:Int)) m (Builtin.zeroCells z.cells m).toList w:=by
 have D:IntKind.i64.wrap (m:Int)=(m:Int):=by grind [IntKind.wrap_i64]
 have A: ¬(m:Int)<0:=by omega
 have B: ¬(281474976710656:Int)<(m:Int)*(bytes:Int):=(by grind);have hl:(Builtin.zeroCells z.cells m).toList.length=m*esz:=by grind [size_zeroCells]
 have C: ∀u∈(Builtin.zeroCells z.cells m).toList,u.oneCell'=true:=(by grind [Builtin.zeroCells,Nat.mod_lt]);have E:m*esz=0->Builtin.zeroCells z.cells m= #[]:=(by grind);refine⟨hl,λr off sLen sCap h1 h2 G=>?_,λbase sLen sCap olds h1 h2 G N=>?_,λI=>?_⟩;have v:=run_storeCells_cells (P:=P) r (off+sLen*esz) (Builtin.zeroCells z.cells m).toList 0 w (by simpa using h2) (by simpa using G) C;simp only[uO]at v;by_cases q:m*esz=0;have e:=E q;rw[e]at v⊢;simp[Builtin.append_,run_underlying (fE n),run_underlying hk,sizeOf,typeInfo,h,o,g,asInt,asIntOf,D,A,B,h1,q,Addr.add_lit,v];simp[Builtin.append_,run_underlying (fE n),run_underlying hk,sizeOf,typeInfo,zeroValue,h,j,o,g,asInt,asIntOf,D,A,B,h1,q,Addr.add_lit,v];have H: ¬(sLen+m<=sCap):=by omega
 have x: ¬(9223372036854775807<((sLen:Int)+(m:Int))):=by omega
 have y: ¬(281474976710656<Builtin.nextslicecap (sLen+m) sCap*bytes):=by omega
 by_cases q:m*esz=0;have e:=E q;rw[e];simp[Builtin.append_,run_underlying (fE n),run_underlying hk,sizeOf,typeInfo,zeroValue,h,j,o,g,asInt,asIntOf,D,A,B,q,H,x,y,Question.forced,h1,newRow,grownCap];simp[Builtin.append_,run_underlying (fE n),run_underlying hk,sizeOf,typeInfo,zeroValue,h,j,o,g,asInt,asIntOf,D,A,B,q,H,x,y,Question.forced,h1,newRow,grownCap]
 congr 2
 grind;subst I;have F:IntKind.i64.wrap 0=0:=by decide
 simp[Builtin.append_,run_underlying (fE n),run_underlying hk,sizeOf,typeInfo,h,o,g,asInt,asIntOf,F]
theorem pm(hi:Inv s){esz bytes:Nat}{zero:List PV}{u v:AV}{c:Call}{x' y':Operand}{t ut el:TypeId}(bb:o.op=.call c)(ax:c.callee=.builtin .append)
  (af:c.args.toList=[x',y']) (bw:c.argTypes.toList=[t,ut]) (cj:elT P t=some el)
  (ht:(szT P el==some esz&&byT P el==some bytes&&jE P zero el&&zero.length==esz&&decide (0<esz)&&decide (0<bytes))=true)
  (rx:JJ s u (a.eval x')) (hG: ∀(i:TypeInfo) (z:Value) (new:List (List PV)),szT P el=some esz->P.info? el=some i->i.size=esz->i.bytes=bytes->i.zero=some z->zeT P el=some z->zero.length=z.cells.size->new.length*bytes<=281474976710656->new.length<=281474976710656->(eL esz v).run ⟨env,s.σ⟩=some new->
   ∃news,jg P esz bytes t ut o.type el z (a.eval y') new.length news s.w/\(∀row∈new,row.length=esz)/\
    ∀(i j:Nat) row y,new[i]?=some row->row[j]?=some y-> ∃q,news[i*esz+j]?=some q/\J0i s.w s.g.C y q)
  (x:(iA esz bytes u v).run ⟨env,s.σ⟩=some e):bL P o a s e:=by
 simp only[JX,beq_iff_eq,decide_eq_true_eq]at ht;obtain⟨⟨⟨⟨⟨hs,b6⟩,hz⟩,cb⟩,bn⟩,ai⟩:=ht;obtain⟨i,N,b2⟩:=IQ hs;obtain⟨z,an,ck,cd⟩:=rQ hz;have K:=PA b6 N;have ag:=OR an N;have hm:c.args.map a.eval= #[a.eval x',a.eval y']:=by apply xA;simp[af]
 have b3:c.argTypes= #[t,ut]:=by grind
 have a7: ∀{q:Value} {w':World},(Builtin.append_ #[t,ut] o.type #[a.eval x',a.eval y']).run P s.w=.ok q w'->(execOp a.eval o).run P s.w=.ok (.value q) w':=by intro q w' hr;simp[execOp,bb,resolve,ax,hm,b3,invoke,builtin,hr]
 unfold iA at x;split at x;rename_i b j n;simp only[RM.run]at x;split at x;rename_i blk E;split at x;rename_i wm Z rows;obtain⟨h,h3,V⟩:=bind_some x;clear x;split at V;rename_i ac;obtain⟨rfl,rfl,rfl,ae⟩:=ac;simp only[RM.run]at V;injection V with V;subst V;have E:s.σ[b]?=some (.arr wm esz rows):=E;have ae:(2*(rows.length+h.length)+512)*bytes<=281474976710656:=by grind [iO]
 have be:rows.length+h.length<=281474976710656:=by have h5:(2*(rows.length+h.length)+512)*1<=(2*(rows.length+h.length)+512)*bytes:=Nat.mul_le_mul_left _ ai;omega
 have aq:h.length*bytes<=281474976710656:=(by grind);obtain⟨news,J,F,Q⟩:=hG i z h hs N b2 K ag an (by omega) aq (by omega) h3;have a6:=J.newsLen;have L:=iS.of_slr hi rx E (by omega);simp only[xL]at L;generalize T:a.eval x'=zz at rx;have bt: ∀{O:Nat},O<rows.length+h.length->Builtin.nextslicecap (rows.length+h.length) O*i.bytes<=281474976710656:=by intro O ho;have h5:=nextslicecap_le ho;rw[K];have h6:Builtin.nextslicecap (rows.length+h.length) O*bytes<=(2*(rows.length+h.length)+512)*bytes:=zQ4 _ (by omega);omega
 have grow: ∀{base:Option Addr} {cap:Nat},zz=.slice base rows.length cap->cap<rows.length+h.length->
   bL P o a s ⟨.slr b 0 (rows.length+h.length),[(b,.arr wm esz (rows++h))]⟩:=by
  intro base cap al b5;rw[T]at L;obtain⟨ad,bm,vs,W,bf,H,aa,ah,I⟩:=L.cells;rw[al]at W;injection W with v1 v2 v3;subst v1 v3;have av:(Builtin.firstCells esz rows.length (.slice base rows.length cap)).run P s.w.drew=.ok vs.toArray s.w.drew:=by
   rcases ah with ao|⟨r,o',rfl,cg⟩;subst ao;simp at H;subst H;cases base<;>grind [run_firstCells_none,run_firstCells_some]
   exact run_firstCells_some s.w.drew esz _ _ _ cap vs H (λj q hj=>by
   have:s.w.drew.cell? (Addr.add ⟨r,o',none⟩ j)=s.w.cell? (Addr.add ⟨r,o',none⟩ j):=by simp
   grind [vY,pQ])
  have A:=J.grow base rows.length cap vs av b5 (by omega) (by grind);have am:rows.length+h.length<=grownCap s.w (rows.length+h.length) cap el:=by simp[grownCap,Question.cut]
  generalize grownCap s.w (rows.length+h.length) cap el=U at A am;have b1:h≠[]:=by grind
  have ce:z.cells.size=esz:=by omega
  obtain⟨i0,t0⟩:=PY (w':=s.w.drew) hi rfl rfl rfl;have bq:((vs++news).toArray++Builtin.zeroCells z.cells (U-(rows.length+h.length))).size=U*esz:=by
   have:U*esz=(rows.length+h.length)*esz+(U-(rows.length+h.length))*esz:=by rw[<-zQ8];congr 1;omega
   grind [size_zeroCells]
  obtain⟨g',bx,i',t'⟩:=JGE (s0:=⟨s.σ,s.g,s.w.drew⟩) i0 (w':=s.w.drew.alloc (.cells ((vs++news).toArray++Builtin.zeroCells z.cells (U-(rows.length+h.length))) el)) E b1 I F rfl rfl rfl
   (by grind) (λk m row q D hq=>by
    have R:=Jq hq;rcases vV D with D|⟨bp,D⟩;have a0:=Jq D;rw[I row (gL D)]at R;have au:=iY a0 R;have b7:=ZO I D hq;obtain⟨w,hw,hrel⟩:=aa _ q b7;refine⟨w,?_,hrel.mono hi t0⟩;grind;rw[F row (gL D)]at R;have a0:=Jq D;have au:=iY a0 R;obtain⟨w,hw,hrel⟩:=Q _ m row q D hq;have e4:k*esz+m=rows.length*esz+((k-rows.length)*esz+m):=(by grind [Nat.add_sub_cancel']);refine⟨w,?_,hrel.mono hi t0⟩;rw[TY (by simp;omega)];simp;rw[mX (by omega),<-hw];congr 1;omega)
  refine fX (e:=⟨.slr b 0 (rows.length+h.length),[(b,.arr wm esz (rows++h))]⟩) (g':=g') (a7 (by rw[T,al];exact A)) i' (t0.trans t') ?_;refine .slr b 0 _ _ wm esz (rows++h) ⟨_,_,rfl,.inr (by simp)⟩ (gZ E) (by simp) λ_=>.inr ⟨_,U,_,el,(0,0),bx,by simp,am,KJ rfl,?_⟩;grind
 cases rx with
 |slr _ _ _ _ wm' Z rows' q0 Y q2 q3=>
  have Y:s.σ[b]?=some (.arr wm' Z rows'):=Y;rw[E]at Y;injection Y with Y;injection Y with a1 a2 a3;subst a1 a2 a3;rcases q3 (by omega)with⟨m',_,ba,W⟩|⟨r,cap,cc,e1,fz,m',W,bh,hh,bz⟩;have ab:rows=[]:=List.eq_nil_of_length_eq_zero ba;subst ab;by_cases aw:h=[];subst aw;simp at a6;subst a6;subst W;have A:(Builtin.append_ #[t,ut] o.type #[.slice none 0 0,a.eval y']).run P s.w=.ok (.slice none 0 0) s.w:=by exact J.nil rfl
  have M:s.σ.set b (.arr wm esz [])=s.σ:=(by apply zQ6;grind);refine fX (e:=⟨.slr b 0 0,[(b,.arr wm esz [])]⟩) (g':=s.g) (a7 (by rw[T];exact A)) ?_ ?_ ?_;rw[OF,M];exact hi;rw[OF,M];exact .refl s;rw[OF,M];exact .slr b 0 0 _ wm esz [] ⟨none,0,rfl,.inl rfl⟩ E (zQ0 _) λ_=>.inl ⟨m',rfl,rfl,rfl⟩;grind [List.length_pos_iff];subst W;by_cases G:rows.length+h.length<=cap;rcases hi.arr b _ _ _ E with⟨B,_⟩|⟨r',c',e',cf,B,S,bu,hlen,ch,b9⟩;grind;rw[m']at B;injection B with B;injection B with B _;subst B;rw[hh]at S;injection S with S;injection S with w1 w2 w3;subst w1 w2 w3;have c2:(rows.length+h.length)*esz<=cc.size:=(by have:=zQ4 esz G;grind);have bs:(rows.length+h.length)*esz=rows.length*esz+h.length*esz:=zQ8 _ _ _;have a9:=DZ (vs:=news) (o:=rows.length*esz) hh (by omega);obtain⟨i',t'⟩:=JIA hi E m' F a9 a6 Q;have A:=J.room r 0 rows.length cap G
   (λk D=>by rw[pQ,jB hh];simp;omega)
   (λk D=>by
    have:=b9.1 (0+rows.length*esz+k) (by omega) (by omega);grind [World.frozen?])
  simp only[nG]at A;obtain⟨c0,e0,ci,b4,p1,p2,p3,p4,p5,p6⟩:=a9.there;rw[hh]at p1;injection p1 with p1;injection p1 with w1 w2 w3;subst w1 w2 w3;refine fX (e:=⟨.slr b 0 (rows.length+h.length),[(b,.arr wm esz (rows++h))]⟩) (a7 (by rw[T];simpa using A)) i' t' ?_;refine .slr b 0 _ _ wm esz (rows++h) ⟨_,_,rfl,.inr (by simp)⟩ (gZ E) (by simp) λ_=>.inr ⟨r,cap,b4,e1,fz,m',by simp,G,p2,by grind⟩;grind
 cases V;cases x;cases x;cases x
theorem m5(hi:Inv s){esz bytes:Nat}{zero:List PV}{u v:AV}{c:Call}{B A:Operand}{t ut el:TypeId}(x:o.op=.call c)(r:c.callee=.builtin .append)
  (h:c.args.toList=[B,A]) (n:c.argTypes.toList=[t,ut]) (z:((elT P ut).isSome||iD P ut)=true) (k:elT P t=some el)
  (ht:(szT P el==some esz&&byT P el==some bytes&&jE P zero el&&zero.length==esz&&decide (0<esz)&&decide (0<bytes))=true)
  (D:JJ s u (a.eval B)) (E:JJ s v (a.eval A)) (y:(iA esz bytes u v).run ⟨env,s.σ⟩=some e):bL P o a s e:=
 pm hi x r h n k ht D (λ_ _ _ G q C g j _ _ _ _ F=>by obtain⟨news,w,h1,h2⟩:=YD (u:=ut) hi F E (Bool.or_eq_true_iff.1 z);exact⟨news,Src.gen k G q C g j w,h1,h2⟩) y
theorem JJE(hi:Inv s)(he:bM s a.tmps env){esz bytes zero x y}(h:(opR F (.appz esz bytes zero x y) new).run ⟨env,s.σ⟩=some e)(hc:JV P (.appz esz bytes zero x y) o.op=true):bL P o a s e:=by
 simp only[opR]at h;obtain⟨u,h1,Y⟩:=bind_some h;obtain⟨v,h2,A⟩:=bind_some Y;clear h Y;unfold JV at hc;simp only at hc;split at hc
 ·rename_i c W;split at hc
  ·rename_i R;split at hc
   ·rename_i x' Z t ut E O;simp only[JX]at hc;obtain⟨⟨⟨hx,H⟩,J⟩,ht⟩:=hc;split at ht
    ·rename_i el K;split at J
     ·rename_i k hk;split at A
      ·rename_i c1 q;unfold zrs at q;split at q
       ·rename_i k' n;split at q
        case isFalse=>cases q
        rename_i hn;injection q with q;subst q;have ry:=bH he h2 H;obtain⟨m,rfl⟩: ∃m:Nat,n=(m:Int):=⟨n.toNat,by omega⟩;have hv:a.eval Z=.int k' (m:Int):=by generalize a.eval Z=v0 at ry;cases ry with|p _ _ h=>cases h<;>grind
        refine pm hi W R E O K (by omega) (bH he h1 hx) (λi z new hs Q a0 B G hz ae N M I=>?_) A;simp only[eL,if_pos,RM.run,Int.toNat_natCast]at I;injection I with I;subst I;rw[BY]at N M;simp only[JX,beq_iff_eq,decide_eq_true_eq]at ht;obtain⟨⟨⟨⟨⟨_,_⟩,S⟩,a8⟩,a5⟩,_⟩:=ht;obtain⟨z',r,a6,L⟩:=rQ S;rw[hz]at r;injection r with r;subst r;have a3:z.cells.size=esz:=by omega
        have U: ∀(j:Nat) (u:Value),z.cells[j]?=some u-> ∃y:PV,zero[j]?=some y/\J0i s.w s.g.C y u:=(by intro j u V;have D:j<zero.length:=(by grind);exact⟨zero[j],aS D,L j _ u (aS D) V⟩);refine⟨(Builtin.zeroCells z.cells m).toList,?_,λrow hr=>by simp_all,λi j row y T H=>?_⟩;rw[BY,hv];refine JD4 K hs Q a0 B G a3 (λu V=>?_) hk N M;obtain⟨j,D⟩:=lZ V;obtain⟨y,_,hr⟩:=U j u (by simpa using D);exact hr.one;have hi':i<m:=(by grind);have hre:row=zero:=(List.mem_replicate.1 (gL T)).2;subst hre;have D:=Jq H;have a1:j<z.cells.size:=by omega
        refine⟨z.cells[j],?_,L j y _ H (BD a1)⟩;grind [iY,Builtin.zeroCells,Nat.mul_comm,Nat.mul_add_mod,Nat.mod_eq_of_lt]
       cases q
      cases A
     cases J
    cases ht
   cases hc
  cases hc
 cases hc
theorem JK7(hi:Inv s)(he:bM s a.tmps env){esz bytes zero x y}(h:(opR F (.app esz bytes zero x y) new).run ⟨env,s.σ⟩=some e)(hc:JV P (.app esz bytes zero x y) o.op=true):bL P o a s e:=by
 simp only[opR]at h;obtain⟨u,h1,r⟩:=bind_some h;obtain⟨v,h2,q⟩:=bind_some r;clear h r;unfold JV at hc;simp only at hc;split at hc;rename_i c n;split at hc;rename_i k;split at hc;rename_i D C t ut g j;simp only[JX]at hc;obtain⟨⟨⟨B,A⟩,w⟩,ht⟩:=hc;split at ht;rename_i el z;exact m5 hi n k g j w z (by omega) (bH he h1 B) (bH he h2 A) q;cases ht;cases hc;cases hc;cases hc
theorem JJh(hi:Inv s)(he:bM s a.tmps env)(hn:s.σ[new]?=some .dead){esz bytes zero y}(h:(opR F (.appn esz bytes zero y) new).run ⟨env,s.σ⟩=some e)(hc:JV P (.appn esz bytes zero y) o.op=true):bL P o a s e:=by
 simp only[opR]at h;obtain⟨v,h2,G⟩:=bind_some h;obtain⟨rows,j,k⟩:=bind_some G;clear h G;unfold JV at hc;simp only at hc;split at hc
 ·rename_i c E;split at hc
  ·rename_i D;split at hc
   ·rename_i U t ut x B;simp only[JX]at hc;obtain⟨⟨R,H⟩,ht⟩:=hc;split at ht
    ·rename_i el I;split at k
     ·rename_i K;simp only[RM.run]at k;injection k with k;subst k
      obtain⟨i1,J⟩:=OY hi hn esz;have A:(s.σ.set new (.arr true esz []))[new]?=some (.arr true esz []):=gZ hn;have N:JJ ⟨s.σ.set new (.arr true esz []),eZ s.g new none,s.w⟩ (.slr new 0 0) (a.eval (.const (.slice none 0 0))):=
       .slr new 0 0 _ true esz [] ⟨none,0,rfl,.inl rfl⟩ A (zQ0 _) λ_=>.inl ⟨if_pos rfl,rfl,rfl,rfl⟩
      have O:=(bH he h2 R).mono hi J;have T:(eL esz v).run ⟨env,s.σ.set new (.arr true esz [])⟩=some rows:=by
       cases v with
       |slr b i n=>
        grind [eL,RM.run]
       |p c=>cases c<;>simp only[eL]at j⊢ <;>first|exact j|(split at j<;>rename_i S<;>first|(rw[if_pos S];exact j)|cases j)|cases j
       |_=>cases j
      have C:(iA esz bytes (.slr new 0 0) v).run ⟨env,s.σ.set new (.arr true esz [])⟩=some ⟨.slr new 0 rows.length,[(new,.arr true esz rows)]⟩:=(by grind [iA,RM.run,run_bind]);have ok:=m5 (s:=⟨s.σ.set new (.arr true esz []),eZ s.g new none,s.w⟩) i1 E D x B H I (by omega) N O C;intro next Q z;refine ok next Q λL w' g' hi' r q=>?_;have M:upd [(new,Blk.arr true esz rows)] (s.σ.set new (.arr true esz []))=upd [(new,Blk.arr true esz rows)] s.σ:=by simp[OF]
      simp only at hi' r q;rw[M]at hi' r q;exact z L w' g' hi' (J.trans r) q
     cases k
    cases ht
   cases hc
  cases hc
 cases hc
theorem JIt(hi:Inv s)(he:bM s a.tmps env)(hn:s.σ[new]?=some .dead){esz bytes zero x y}(h:(opR F (.appc esz bytes zero x y) new).run ⟨env,s.σ⟩=some e)(hc:JV P (.appc esz bytes zero x y) o.op=true):bL P o a s e:=by
 simp only[opR]at h;obtain⟨u,h1,h'⟩:=bind_some h;obtain⟨v,h2,C⟩:=bind_some h';clear h h';unfold JV at hc;simp only at hc;split at hc;rename_i c bg;split at hc;rename_i ay;split at hc;rename_i x' y' t ut R ax;simp only[JX]at hc;obtain⟨⟨⟨hx,hy⟩,a9⟩,ht⟩:=hc;split at ht;rename_i el af;simp only[JX,beq_iff_eq,decide_eq_true_eq]at ht;obtain⟨⟨⟨⟨⟨hs,aa⟩,hz⟩,b9⟩,ap⟩,W⟩:=ht;obtain⟨i,E,a8⟩:=IQ hs;obtain⟨z,ai,be,bb⟩:=rQ hz;have D:=PA aa E;have T:=OR ai E;have hm:c.args.map a.eval= #[a.eval x',a.eval y']:=by apply xA;simp[R]
 have ba:c.argTypes= #[t,ut]:=by grind
 have aj: ∀{q:Value} {w':World},(Builtin.append_ #[t,ut] o.type #[a.eval x',a.eval y']).run P s.w=.ok q w'->(execOp a.eval o).run P s.w=.ok (.value q) w':=by simp_all [execOp,resolve,invoke,builtin]
 have S:=bH he h1 hx;have ry:=bH he h2 hy;unfold FS at C;split at C;rename_i an rows;obtain⟨add,h3,J⟩:=bind_some C;clear C;split at J;rename_i O;obtain⟨rfl,b8,Q⟩:=O;simp only[RM.run]at J;injection J with J;subst J;have Q:(2*(rows.length+add.length)+512)*bytes<=281474976710656:=by grind [iO]
 have al:rows.length+add.length<=281474976710656:=by have h5:(2*(rows.length+add.length)+512)*1<=(2*(rows.length+add.length)+512)*bytes:=Nat.mul_le_mul_left _ W;omega
 obtain⟨news,U,G,N⟩:=YD (u:=ut) hi h3 ry (Bool.or_eq_true_iff.1 a9);have L:=Src.gen (t:=t) (ty:=o.type) af hs E a8 D T U;have bh:=L.newsLen;generalize bf:a.eval x'=zz at S;cases S with
 |p _ _ S=>
  cases S with
  |slc _ _ base hrel=>
   have Z:=iS.of_sl hrel;obtain⟨ad,ao,vs,hv,am,n,M,V,A⟩:=Z.cells;injection hv with v1 v2 v3;subst v1 v3;have Y:rows.length<rows.length+add.length:=by omega
   have av:Builtin.nextslicecap (rows.length+add.length) rows.length*i.bytes<=281474976710656:=by have h5:=nextslicecap_le Y;rw[D];have h6:Builtin.nextslicecap (rows.length+add.length) rows.length*bytes<=(2*(rows.length+add.length)+512)*bytes:=zQ4 _ (by omega);omega
   have a4:(Builtin.firstCells esz rows.length (.slice base rows.length rows.length)).run P s.w.drew=.ok vs.toArray s.w.drew:=by
    rcases V with a0|⟨r,o',rfl,bd⟩;subst a0;simp at n;subst n;cases base<;>grind [run_firstCells_none,run_firstCells_some]
    exact run_firstCells_some s.w.drew esz _ _ _ rows.length vs n (λj q hj=>by
    have:s.w.drew.cell? (Addr.add ⟨r,o',none⟩ j)=s.w.cell? (Addr.add ⟨r,o',none⟩ j):=by simp
    grind [vY,pQ])
   have a2:=L.grow base rows.length rows.length vs a4 Y (by omega) (by simp_all);have ah:rows.length+add.length<=grownCap s.w (rows.length+add.length) rows.length el:=by simp[grownCap,Question.cut]
   generalize grownCap s.w (rows.length+add.length) rows.length el=I at a2 ah;have bc:z.cells.size=esz:=by omega
   obtain⟨i0,t0⟩:=PY (w':=s.w.drew) hi rfl rfl rfl;have a1:((vs++news).toArray++Builtin.zeroCells z.cells (I-(rows.length+add.length))).size=I*esz:=by
    have:I*esz=(rows.length+add.length)*esz+(I-(rows.length+add.length))*esz:=by rw[<-zQ8];congr 1;omega
    grind [size_zeroCells]
   have hlen:(rows++add).length=rows.length+add.length:=cN;obtain⟨g',i',t',r'⟩:=PJ (s0:=⟨s.σ,s.g,s.w.drew⟩) (new:=new) i0 hn (esz:=esz) (rows:=rows++add) (cap:=I) (w':=s.w.drew.alloc (.cells ((vs++news).toArray++Builtin.zeroCells z.cells (I-(rows.length+add.length))) el)) rfl rfl rfl
    (vB.zero _ _)
    ⟨λrow hr=>(zQ9.1 hr).elim (A row) (G row),by rw[a1,hlen];grind,λk m row q B hq=>by
     have H:=Jq hq;rcases vV B with B|⟨au,B⟩;have K:=Jq B;rw[A row (gL B)]at H;have a3:=iY K H;have ab:=ZO A B hq;obtain⟨w,hw,hrel⟩:=M _ q ab;refine⟨w,?_,hrel.mono hi t0⟩;grind;rw[G row (gL B)]at H;have K:=Jq B;have a3:=iY K H;obtain⟨w,hw,hrel⟩:=N _ m row q B hq;have e4:k*esz+m=rows.length*esz+((k-rows.length)*esz+m):=(by grind [Nat.add_sub_cancel']);refine⟨w,?_,hrel.mono hi t0⟩;simp_all [TY]⟩ (by simp_all) (by simp_all)
   rw[hlen]at r';exact fX (e:=⟨.slr new 0 (rows.length+add.length),[(new,.arr true esz (rows++add))]⟩) (g':=g') (aj (by simp_all)) i' (t0.trans t') r'
 cases J;cases C;cases ht;cases hc;cases hc;cases hc
end
end Go.Am
end
section
namespace Go.Am
section
variable {P:Program} {F:Orc} {s:Sn} {a:Act} {env:List (Nat×AV)} {o:Oper} {new:Nat} {e:Eff}
theorem nk{x:Opd}{v:AV}(h:(ev x).run ⟨env,s.σ⟩=some v):(evo (some x)).run ⟨env,s.σ⟩=some (some v):=by simp[evo,run_bind,h,RM.run]
theorem JJa(hi:Inv s)(he:bM s a.tmps env){esz x hh}(h:(opR F (.ppre esz x hh) new).run ⟨env,s.σ⟩=some e)(hc:JV P (.ppre esz x hh) o.op=true):bL P o a s e:=by
 simp only[opR]at h;obtain⟨u,h1,J⟩:=bind_some h;obtain⟨l,h2,B⟩:=bind_some J;clear h J;have h:=B;clear B;unfold JV at hc;simp only at hc;split at hc
 case h_2=>cases hc
 rename_i t U hi' A;simp only[JX]at hc;obtain⟨⟨V,W⟩,ht⟩:=hc;have N:=bH he h1 V;unfold sN at h;split at h
 case h_2=>cases h
 rename_i b i n T k;simp only[RM.run]at h;split at h
 case h_2=>cases h
 rename_i blk q;split at h
 case h_2=>cases h
 rename_i j E rows;have q:s.σ[b]?=some (.arr j E rows):=q;split at h
 case isFalse=>cases h
 rename_i Z;obtain⟨rfl,hn,K,a5⟩:=Z;simp only[RM.run]at h;injection h with h;subst h;split at ht
 case h_2=>cases ht
 rename_i el C;simp only[beq_iff_eq]at ht;have G:nA n none (some (.p (.i T k)))=some (0,k.toNat):=by unfold nA mF;simp only;rw[if_pos ⟨K,by omega⟩]
 have D: ∀cap,n<=cap->(Instr.sliceBounds true n cap none (some (a.eval hi')) none).run P s.w=.ok (0,k.toNat,cap) s.w:=λcap g=>
  (KM (P:=P) (isSlice:=true) he (lo:=none) (lo':=none) (hi:=some hh) (hi':=some hi') rfl (nk h2) rfl W G g s.w).1
 generalize R:a.eval U=z at N;cases N with
 |slr _ _ _ _ wm Y rows' q0 y q2 q3=>
  rw[q]at y;injection y with y;injection y with a1 a2 a3;subst a1 a2 a3;rcases q3 (by omega)with⟨m,_,Q,I⟩|⟨r,cap,S,e1,fz,m,I,g,O,M⟩;subst Q I;have L:k.toNat=0:=by omega
  have H:=D 0 (zQ0 _);refine JK hi (v:=.slice none 0 0) ?_ (.pre b 0 k.toNat _ j E rows ⟨none,0,by rw[L]⟩ q (by omega) (by omega) λ_=>.inl ⟨rfl,rfl⟩);simp only[execOp,A,R];simp[Instr.sliceAt,Instr.slice,run_underlying (fE C),H,gX ht,L];subst I;have H:=D cap g;refine JK hi (v:=.slice (some ⟨r,0,none⟩) k.toNat cap) ?_ (.pre b n k.toNat _ j E rows ⟨_,_,rfl⟩ q (by omega) (by omega) λ_=>.inr ⟨r,cap,S,e1,fz,m,rfl,g,O,by simpa using M⟩);simp only[execOp,A,R];simp[Instr.sliceAt,Instr.slice,run_underlying (fE C),H,gX ht,Addr.add]
theorem JJ3(hi:Inv s)(he:bM s a.tmps env){esz x hh}(h:(opR F (.psuf esz x hh) new).run ⟨env,s.σ⟩=some e)(hc:JV P (.psuf esz x hh) o.op=true):bL P o a s e:=by
 simp only[opR]at h;obtain⟨u,h1,D⟩:=bind_some h;obtain⟨l,h2,y⟩:=bind_some D;clear h D;have h:=y;clear y;unfold JV at hc;simp only at hc;split at hc
 case h_2=>cases hc
 rename_i t O hi' C;simp only[JX]at hc;obtain⟨⟨Q,R⟩,ht⟩:=hc;have H:=bH he h1 Q;unfold sO at h;split at h
 case h_2=>cases h
 rename_i b i n N k;simp only[RM.run]at h;split at h
 case h_2=>cases h
 rename_i blk j;split at h
 case h_2=>cases h
 rename_i A U rows;have j:s.σ[b]?=some (.arr A U rows):=j;split at h
 case isFalse=>cases h
 rename_i V;obtain⟨rfl,hn,G,a4⟩:=V;simp only[RM.run]at h;injection h with h;subst h;split at ht
 case h_2=>cases ht
 rename_i el E;simp only[beq_iff_eq]at ht;have B:nA n (some (.p (.i N k))) none=some (k.toNat,n):=by unfold nA mF;simp only;rw[if_pos ⟨G,by omega⟩]
 have J: ∀cap,n<=cap->(Instr.sliceBounds true n cap (some (a.eval hi')) none none).run P s.w=.ok (k.toNat,n,cap) s.w:=λcap g=>
  (KM (P:=P) (isSlice:=true) he (hi:=none) (hi':=none) (lo:=some hh) (lo':=some hi') (nk h2) rfl R rfl B g s.w).1
 generalize Y:a.eval O=z at H;cases H with
 |slr _ _ _ _ wm S rows' q0 q q2 W=>
  rw[j]at q;injection q with q;injection q with a1 a2 a3;subst a1 a2 a3;rcases W (by omega)with⟨m,a5,a7,L⟩|⟨r,cap,M,e1,fz,m,L,g,I,a6⟩;omega;subst L;have Z:=J cap g;have T:(i+k.toNat+(cap-k.toNat))*esz=(i+cap)*esz:=by congr 1;omega
  refine JK hi (v:=.slice (some ⟨r,(i+k.toNat)*esz,none⟩) (n-k.toNat) (cap-k.toNat)) ?_ ?_;simp only[execOp,C,Y];have K: ¬cap=k.toNat:=by omega
  simp[Instr.sliceAt,Instr.slice,run_underlying (fE E),Z,gX ht,Addr.add,K,zQ8];exact .slr b _ _ _ A esz rows ⟨_,_,rfl,.inr (by simp)⟩ j (by omega) λ_=>.inr ⟨r,cap-k.toNat,M,e1,fz,m,rfl,by omega,I,by omega⟩
theorem qz{σ:List Blk}{g:Gh}{w:World}{b n m esz cap:Nat}{ad:Option Addr}{rows:List (List PV)}(hi:Inv ⟨σ,g,w⟩)(hb:σ[b]?=some (.arr true esz rows))(hr:JJ ⟨σ,g,w⟩ (.slr b 0 n) (.slice ad n cap))(hn:n=rows.length)(hm:m<=n):
  ∃g',Inv ⟨σ.set b (.arr false esz rows),g',w⟩/\aZ ⟨σ,g,w⟩ ⟨σ.set b (.arr false esz rows),g',w⟩/\JJ ⟨σ.set b (.arr false esz rows),g',w⟩ (.p (.sl esz (rows.take m))) (.slice ad m cap):=by
 subst hn;obtain⟨g',h1,h2,v,e⟩:=pa hi hr hb (by omega);refine⟨g',h1,h2,.p _ _ ?_⟩;rw[xL]at e;obtain⟨r,k,q,o,hrel⟩:=YM (s:=⟨σ.set b (.arr false esz rows),g',w⟩) (i:=0) (j:=m) e (zQ2 _) hm;injection q with v1 _ v3;subst v1 v3;have h:(if cap=0 then ad else ad.map (·.add (0*esz)))=ad:=by
  split;rfl;cases ad with
  |none=>rfl
  |some ad=>cases ad;simp[Addr.add]
 rw[h]at hrel;simpa using hrel
theorem JIC(hi:Inv s)(he:bM s a.tmps env){esz bytes zero x y}(h:(opR F (.appp esz bytes zero x y) new).run ⟨env,s.σ⟩=some e)(hc:JV P (.appp esz bytes zero x y) o.op=true):bL P o a s e:=by
 simp only[opR]at h;obtain⟨u,h1,h'⟩:=bind_some h;obtain⟨v,h2,D⟩:=bind_some h';clear h h';unfold JV at hc;simp only at hc;split at hc
 case h_2=>cases hc
 rename_i c bn;split at hc
 case h_2=>cases hc
 rename_i b5;split at hc
 case h_2=>cases hc
 rename_i x' y' t ut ai c8;simp only[JX]at hc;obtain⟨⟨⟨hx,hy⟩,bb⟩,ht⟩:=hc;split at ht
 case h_2=>cases ht
 rename_i el bh;have rx:=bH he h1 hx;have ry:=bH he h2 hy;simp only[JX,beq_iff_eq,decide_eq_true_eq]at ht;obtain⟨⟨⟨⟨⟨hs,bc⟩,hz⟩,ck⟩,bz⟩,al⟩:=ht;obtain⟨i,T,b7⟩:=IQ hs;obtain⟨z,bo,cr,cl⟩:=rQ hz;have a8:=PA bc T;have aj:=OR bo T;have hm:c.args.map a.eval= #[a.eval x',a.eval y']:=by apply xA;simp[ai]
 have b8:c.argTypes= #[t,ut]:=by grind
 have aw: ∀{q:Value} {w':World},(Builtin.append_ #[t,ut] o.type #[a.eval x',a.eval y']).run P s.w=.ok q w'->(execOp a.eval o).run P s.w=.ok (.value q) w':=by intro q w' G;simp[execOp,bn,resolve,b5,hm,b8,invoke,builtin,G]
 unfold sP at D;split at D
 case h_2=>cases D
 rename_i b n k;simp only[RM.run]at D;split at D
 case h_2=>cases D
 rename_i blk Q;split at D
 case h_2=>cases D
 rename_i a7 rows;obtain⟨A,h3,h4⟩:=bind_some D;clear D;split at h4
 case isFalse=>cases h4
 rename_i ag;obtain⟨rfl,co,rfl,ah⟩:=ag;simp only[RM.run]at h4;injection h4 with h4;subst h4;have Q:s.σ[b]?=some (.arr true esz rows):=Q;have ah:(2*(rows.length+A.length)+512)*bytes<=281474976710656:=by grind [iO]
 have bt:rows.length+A.length<=281474976710656:=by have h5:(2*(rows.length+A.length)+512)*1<=(2*(rows.length+A.length)+512)*bytes:=Nat.mul_le_mul_left _ al;omega
 obtain⟨news,ak,af,Y⟩:=YD (u:=ut) hi h3 ry (Bool.or_eq_true_iff.1 bb);have V:=Src.gen (ty:=o.type) bh hs T b7 a8 aj ak;have bp:=V.newsLen;generalize av:a.eval x'=zz at rx;cases rx with
 |pre _ _ _ _ wm' a7 rows' q0 q1 q2 q4 q3=>
  have q1:s.σ[b]?=some (.arr wm' a7 rows'):=q1;rw[Q]at q1;injection q1 with q1;injection q1 with a1 a2 a3;subst a1 a2 a3;rcases q3 rfl with⟨h0,_⟩|⟨r,cap,cc,e1,fz,m',hv,bx,hh,U⟩;omega;subst hv;rcases hi.arr b _ _ _ Q with⟨H,_⟩|⟨r',c',e',cn,H,Z,N,hlen,bd,bf⟩;rw[m']at H;cases H;rw[m']at H;injection H with H;injection H with H _;subst H;rw[hh]at Z;injection Z with Z;injection Z with w1 w2 w3;subst w1 w2 w3;have ek:(rows.take k).length=k:=by rw[lW];omega
  have a0: ∀row∈rows.take k++A,row.length=esz:=λrow G=>(zQ9.1 G).elim (λh=>N row (FB h)) (af row);have C:(rows.take k++A).length=k+A.length:=by rw[cN,ek]
  by_cases W:k+A.length<=cap;have b2:(k+A.length)*esz<=cc.size:=zQ1 (zQ4 esz W) U;have c4:(k+A.length)*esz=k*esz+A.length*esz:=zQ8 _ _ _;have ac:=DZ (vs:=news) (o:=k*esz) hh (by omega);have J:=V.room r 0 k cap W
   (λj hj=>by rw[pQ,jB hh];simp;omega)
   (λj hj=>by
    have:=bf.1 (0+k*esz+j) (by omega) (by omega);grind [World.frozen?])
  simp only[nG]at J;have hN:(rows.take k++A++rows.drop (k+A.length)).length=max rows.length (k+A.length):=by rw[cN,C,lU];omega
  obtain⟨i1,t1⟩:=JIr (rows':=rows.take k++A++rows.drop (k+A.length)) hi Q m'
   (λrow G=>(zQ9.1 G).elim (a0 row) (λh=>N row (zQ7 h))) (by rw[hN];omega) ac
   (λc0 c1 k1 k2 O k4 k5=>by
    obtain⟨e3,cm,O⟩:=O;rw[hh]at O;injection O with O;injection O with O _ _;subst O;refine⟨?_,λp q row x B R=>?_⟩;rw[hN];rcases Nat.le_total rows.length (k+A.length)with hl|hl;rw[Nat.max_eq_right hl];exact b2;rw[Nat.max_eq_left hl];exact hlen;rcases vV B with B|⟨E,B⟩;rcases vV B with B|⟨E,B⟩;have hpk:=Jq B;rw[ek]at hpk;rw[AZ,if_pos hpk]at B;obtain⟨u,L,G⟩:=k1 p q row x B R;have:=(iY hpk (by have:=Jq R;rw[N row (gL B)]at this;exact this):p*esz+q<k*esz);exact⟨u,by rw[k5 _ (.inl this)];exact L,G⟩;rw[ek]at E B;obtain⟨u,L,G⟩:=Y _ q row x B R;have e4:p*esz+q=k*esz+((p-k)*esz+q):=by
     have:p*esz=k*esz+(p-k)*esz:=by rw[<-zQ8];congr 1;omega
     omega
    exact⟨u,by rw[e4];exact k4 _ _ L,G⟩;rw[C]at E B;rw[FY]at B;have e5:k+A.length+(p-(k+A.length))=p:=by omega
    rw[e5]at B;obtain⟨u,L,G⟩:=k1 p q row x B R;have:(k+A.length)*esz<=p*esz:=zQ4 _ E;exact⟨u,by rw[k5 _ (.inr (by omega))];exact L,G⟩)
  obtain⟨c0,e0,cq,ba,p1,p2,p3,p4,p5,p6⟩:=ac.there;rw[hh]at p1;injection p1 with p1;injection p1 with w1 w2 w3;subst w1 w2 w3;have I:(s.σ.set b (.arr true esz (rows.take k++A++rows.drop (k+A.length))))[b]?=some (.arr true esz (rows.take k++A++rows.drop (k+A.length))):=gZ Q;obtain⟨g',i2,t2,K⟩:=qz (m:=k+A.length) (ad:=some ⟨r,0,none⟩) (cap:=cap) i1 I
   (.slr b 0 _ _ true esz _ ⟨_,_,rfl,.inr (by simp)⟩ I (by omega) λ_=>.inr ⟨r,cap,ba,e1,fz,m',by simp,by rw[hN];omega,p2,by rw[p3];simpa using U⟩) rfl (by rw[hN];omega)
  have e6:(s.σ.set b (.arr true esz (rows.take k++A++rows.drop (k+A.length)))).set b (.arr false esz (rows.take k++A++rows.drop (k+A.length)))=s.σ.set b (.arr false esz (rows.take k++A++rows.drop (k+A.length))):=by rw[List.set_set]
  rw[e6]at i2 t2 K;have e7:(rows.take k++A++rows.drop (k+A.length)).take (k+A.length)=rows.take k++A:=by rw[<-C,List.take_left]
  rw[e7]at K;exact fX (e:=⟨.p (.sl esz (rows.take k++A)),[(b,.arr false esz (rows.take k++A++rows.drop (k+A.length)))]⟩) (aw (by rw[av];exact J)) i2 (t1.trans t2) K;have au:cap<k+A.length:=by omega
  obtain⟨i0,t0⟩:=PY (w':=s.w.drew) hi rfl rfl rfl;have cs:k*esz<=cc.size:=zQ1 (zQ4 esz (by omega)) U;have M:(cc.toList.take (k*esz)).length=k*esz:=by rw[lW,Array.length_toList];omega
  have b3:(Builtin.firstCells esz k (.slice (some ⟨r,0,none⟩) k cap)).run P s.w.drew=.ok (cc.toList.take (k*esz)).toArray s.w.drew:=
   run_firstCells_some s.w.drew esz _ _ _ cap _ M (λj q hj=>by
    have e:s.w.drew.cell? (Addr.add ⟨r,0,none⟩ j)=s.w.cell? (Addr.add ⟨r,0,none⟩ j):=by simp
    have aq:=Jq hj;rw[M]at aq;rw[AZ,if_pos aq,FE]at hj;rw[e];grind [vY,pQ,jB])
  have az:Builtin.nextslicecap (k+A.length) cap*bytes<=281474976710656:=by have h5:=nextslicecap_le au;have h6:Builtin.nextslicecap (k+A.length) cap*bytes<=(2*(rows.length+A.length)+512)*bytes:=zQ4 _ (by omega);omega
  have J:=V.grow (some ⟨r,0,none⟩) k cap _ b3 au (by omega) az;have E:k+A.length<=grownCap s.w (k+A.length) cap el:=by simp[grownCap,Question.cut]
  generalize grownCap s.w (k+A.length) cap el=S at J E;have b9:z.cells.size=esz:=by omega
  have a9:((cc.toList.take (k*esz)++news).toArray++Builtin.zeroCells z.cells (S-(k+A.length))).size=S*esz:=by
   have:S*esz=k*esz+A.length*esz+(S-(k+A.length))*esz:=by rw[<-zQ8,<-zQ8];congr 1;omega
   rw[Array.size_append,size_zeroCells,b9];simp only[List.size_toArray,cN,M,bp];omega
  have bq:rows.drop (k+A.length)=[]:=List.drop_of_length_le (by omega);rw[bq,gR];obtain⟨g',c9,i1,t1⟩:=Df (s0:=⟨s.σ,s.g,s.w.drew⟩) (rows':=rows.take k++A) i0 (w':=s.w.drew.alloc (.cells ((cc.toList.take (k*esz)++news).toArray++Builtin.zeroCells z.cells (S-(k+A.length))) el)) Q (by rw[C];omega) a0 rfl rfl rfl
   (by rw[C,a9];exact zQ4 _ E) (λp q row x B R=>by
    rcases vV B with B|⟨E,B⟩;have hpk:=Jq B;rw[ek]at hpk;rw[AZ,if_pos hpk]at B;obtain⟨⟨u,L,G⟩,_⟩:=bd p q row x B R;have hi':=(iY hpk (by have:=Jq R;rw[N row (gL B)]at this;exact this):p*esz+q<k*esz);refine⟨u,?_,G.mono hi t0⟩;rw[TY (by simp only[List.size_toArray,cN,M];omega)];simp only[List.getElem?_toArray];rw[qK (by omega),AZ,if_pos hi',FE];exact L;rw[ek]at E B;obtain⟨u,L,G⟩:=Y _ q row x B R;have hl:=Jq L;have e4:p*esz+q=k*esz+((p-k)*esz+q):=by
     have:p*esz=k*esz+(p-k)*esz:=by rw[<-zQ8];congr 1;omega
     omega
    refine⟨u,?_,G.mono hi t0⟩;rw[TY (by simp only[List.size_toArray,cN,M];omega)];simp only[List.getElem?_toArray];rw[mX (by omega),M,e4,Nat.add_sub_cancel_left];exact L)
  have I:(s.σ.set b (.arr true esz (rows.take k++A)))[b]?=some (.arr true esz (rows.take k++A)):=gZ Q;obtain⟨g2,i2,t2,K⟩:=qz (m:=k+A.length) (ad:=some ⟨s.w.heap.size,0,none⟩) (cap:=S) i1 I
   (.slr b 0 _ _ true esz _ ⟨_,_,rfl,.inr (by simp)⟩ I (by omega) λ_=>.inr ⟨_,S,_,el,(0,0),c9,by simp,by rw[C];exact E,KJ rfl,by rw[a9];simp⟩) rfl (by rw[C];exact zQ0 _)
  have e6:(s.σ.set b (.arr true esz (rows.take k++A))).set b (.arr false esz (rows.take k++A))=s.σ.set b (.arr false esz (rows.take k++A)):=by rw[List.set_set]
  rw[e6]at i2 t2 K;have e7:(rows.take k++A).take (k+A.length)=rows.take k++A:=by rw[<-C,List.take_length]
  rw[e7]at K;exact fX (e:=⟨.p (.sl esz (rows.take k++A)),[(b,.arr false esz (rows.take k++A))]⟩) (aw (by rw[av];exact J)) i2 (t0.trans (t1.trans t2)) K
end
end Go.Am
end
section
namespace Go.Am
theorem di: ∀{e j:List KD} {xs g:List PV} {r:Bool},cC (e++j) xs g=some r->
  ∃o n,cC e (xs.take e.length) (g.take e.length)=some o/\cC j (xs.drop e.length) (g.drop e.length)=some n/\r=(o&&n)
 |[],j,xs,g,r,h=>⟨true,r,by simp[cC],by simpa using h,by simp⟩
 |k::e,j,xs,g,r,h=>by
  cases xs with
  |nil=>grind [cC]
  |cons x xs=>
   cases g with
   |nil=>grind [cC]
   |cons y g=>
    simp only[BK,cC]at h;split at h;rename_i a c v q;injection h with h;subst h;obtain⟨o,n,h1,h2,w⟩:=di q;grind [cC];cases h
theorem PE: ∀{ks:List KD} {xs e:List PV} {r:Bool},cC ks xs e=some r->xs.length=ks.length/\e.length=ks.length
 |[],xs,e,r,h=>by grind [cC]
 |k::ks,xs,e,r,h=>by
  cases xs with
  |nil=>grind [cC]
  |cons x xs=>
   cases e with
   |nil=>grind [cC]
   |cons y e=>
    simp only[cC]at h;split at h;rename_i a c j g;obtain⟨h1,h2⟩:=PE g;simp[h1,h2];cases h
section
variable {P:Program} {F:Orc} {s:Sn} {a:Act} {env:List (Nat×AV)} {o:Oper} {new:Nat} {e:Eff}
def jf(P:Program)(t:TypeId)(vs:List Value)(X:Value):Prop:=(agT P t=some true/\X=.agg vs.toArray)\/(agT P t=some false/\ ∃v,vs=[v]/\X=v)
theorem PU{t:TypeId}{n off:Nat}{cs:Array Value}(hs:szT P t=some n)(j:off+n<=cs.size)(g:(agT P t=some true)\/(agT P t=some false/\n=1))(w:World):
  ∃X,(part t cs off).run P w=.ok X w/\jf P t ((cs.toList.drop off).take n) X:=by
 rcases g with h|⟨h,rfl⟩;refine⟨.agg (cs.extract off (off+n)),by simp_all [part,DD,gX],.inl ⟨h,?_⟩⟩
 congr 1
 grind;have e:off<cs.size:=by omega
 have k:cs[off]?=some cs[off]:=by simp[e]
 refine⟨cs[off],by simp_all [part,DD],.inr ⟨h,cs[off],?_,rfl⟩⟩;grind [List.drop_eq_getElem_cons]
def mY(s:Sn)(xs:List PV)(vs:List Value):Prop:=xs.length=vs.length/\ ∀(i:Nat) x v,xs[i]?=some x->vs[i]?=some v->J0i s.w s.g.C x v
theorem mY.take{xs vs}(h:mY s xs vs)(n:Nat):mY s (xs.take n) (vs.take n):=
 ⟨by simp[h.1],λi x v e g=>by
  rw[AZ]at e g;split at e;rename_i hi;rw[if_pos hi]at g;exact h.2 i x v e g;cases e⟩
theorem mY.drop{xs vs}(h:mY s xs vs)(n:Nat):mY s (xs.drop n) (vs.drop n):=
 ⟨by simp[h.1],λi x v g e=>by
  rw[FY]at g e;exact h.2 _ x v g e⟩
def EqK(P:Program)(s:Sn)(d:Nat)(t:TypeId)(ks:List KD):Prop:= ∀(e:Nat) (w:World) (xs h:List PV) (vs g:List Value) (r:Bool) (X Y:Value),cC ks xs h=some r->mY s xs vs->mY s h g->jf P t vs X->jf P t g Y->(Op.equalIn (d+e) t X Y).run P w=.ok r w
theorem se{d:Nat}{t:TypeId}{ks:List KD}(h:pF P d t=some ks):agT P t=some true\/(agT P t=some false/\ks.length=1):=by cases d<;>grind [pF,agT,xJ]
theorem qk(d e:Nat)(C: ∀t ks,pF P d t=some ks->EqK P s d t ks)(w:World){xs q:List PV}{vs o:List Value}(hx:mY s xs vs)(hy:mY s q o):
  ∀{fs:List Field} {off:Nat} {ks:List KD} {r:Bool},IU P (pF P d) off fs=some ks->cC ks (xs.drop off) (q.drop off)=some r->
   (Op.eqFields (d+e) vs.toArray o.toArray fs).run P w=.ok r w
 |[],off,ks,r,h,x=>by simp[IU]at h;subst h;cases hxd:xs.drop off<;>cases hyd:q.drop off<;>simp[hxd,hyd,cC]at x;simp_all [Op.eqFields]
 |f::fs,off,ks,r,h,x=>by
  unfold IU at h;split at h;cases h
  ·rename_i L;have j:f.name≠ "_" :=λe=>L (.inl e);have v:f.offset=off:=by simp_all
   split at h;cases h
   ·rename_i D k;split at h
    ·rename_i g;obtain⟨g,E⟩:=g;split at h
     ·rename_i O y;injection h with h;subst h;obtain⟨z,N,A,B,rfl⟩:=di x;obtain⟨H,I⟩:=PE A;rw[lW,lU]at H I;rw[qL,qL]at B;have n:=se k;obtain⟨X,F,J⟩:=PU (P:=P) (cs:=vs.toArray) (off:=off) g (by have:=hx.1;simp;omega) n w;obtain⟨Y,K,G⟩:=PU (P:=P) (cs:=o.toArray) (off:=off) g (by have:=hy.1;simp;omega) n w;have M:=C f.type D k e w _ _ _ _ z X Y A ((hx.drop off).take _) ((hy.drop off).take _) (by simpa using J) (by simpa using G);have ih:=qk d e C w hx hy y B;simp only[Op.eqFields];rw[if_pos j];simp only[xU,v,F,K,M,sM,Sem.run_ite];cases z
      all_goals simp_all
     cases h
    cases h
theorem og(d e:Nat){t:TypeId}{ks:List KD}(v:EqK P s d t ks)(hk:pF P d t=some ks)(g:szT P t=some ks.length)(j:0<ks.length)(w:World){xs n:List PV}{vs k:List Value}(hx:mY s xs vs)(hy:mY s n k):
  ∀{m i:Nat} {r:Bool},cC (List.replicate m ks).flatten (xs.drop (i*ks.length)) (n.drop (i*ks.length))=some r->
   (Op.eqItems (d+e) t ks.length vs.toArray k.toArray (List.range' i m)).run P w=.ok r w
 |0,i,r,hc=>by simp only[List.replicate_zero,List.flatten_nil]at hc;cases hxd:xs.drop (i*ks.length)<;>cases hyd:n.drop (i*ks.length)<;>simp[hxd,hyd,cC]at hc;simp_all [Op.eqItems]
 |m+1,i,r,hc=>by
  rw[List.replicate_succ,qO]at hc;obtain⟨o,A,q,y,rfl⟩:=di hc;obtain⟨B,C⟩:=PE q;rw[lW,lU]at B C;rw[qL,qL]at y;have h:=se hk;obtain⟨X,x,D⟩:=PU (P:=P) (cs:=vs.toArray) (off:=i*ks.length) g (by have:=hx.1;simp;omega) h w;obtain⟨Y,E,z⟩:=PU (P:=P) (cs:=k.toArray) (off:=i*ks.length) g (by have:=hy.1;simp;omega) h w;have F:=v e w _ _ _ _ o X Y q ((hx.drop _).take _) ((hy.drop _).take _) (by simpa using D) (by simpa using z);have ih:=og d e v hk g j w hx hy (m:=m) (i:=i+1) (r:=A) (by
   grind)
  rw[List.range'_succ];simp only[Op.eqItems,xU,x,E,F,sM,Sem.run_ite];cases o
  all_goals simp_all
theorem eqK: ∀(d:Nat) (t:TypeId) (ks:List KD),pF P d t=some ks->EqK P s d t ks
 |0,t,ks,h=>by grind [pF]
 |d+1,t,ks,h=>by
  intro e w xs R vs U r X Y K J I H G;have N:d+1+e=(d+e)+1:=by omega
  rw[N];have hl:=PE K;unfold pF at h;have q: ∀{k:KD},agT P t=some false->ks=[k]-> ∃x y,xs=[x]/\R=[y]/\uL k x y=some r/\J0i s.w s.g.C x X/\J0i s.w s.g.C y Y:=(by rintro k F rfl;obtain⟨x,rfl⟩:=TQ.1 hl.1;obtain⟨y,rfl⟩:=TQ.1 hl.2;rcases H with⟨o,_⟩|⟨_,v,rfl,rfl⟩;simp_all;rcases G with⟨o,_⟩|⟨_,u,rfl,rfl⟩;simp_all;refine⟨x,y,rfl,rfl,?_,J.2 0 x _ rfl rfl,I.2 0 y _ rfl rfl⟩;grind [cC]);split at h<;>rename_i T
  injection h with h;subst h;obtain⟨x,y,rfl,rfl,j,A,B⟩:=q (by grind [agT,xJ]) rfl;cases A<;>cases B<;>simp only[uL]at j<;>try (cases j;done)
  grind [run_equalIn_bool];injection h with h;subst h;obtain⟨x,y,rfl,rfl,j,A,B⟩:=q (by grind [agT,xJ]) rfl;cases A<;>cases B<;>simp only[uL]at j<;>try (cases j;done)
  grind [run_equalIn_int];injection h with h;subst h;obtain⟨x,y,rfl,rfl,j,A,B⟩:=q (by grind [agT,xJ]) rfl;cases A<;>cases B<;>simp only[uL]at j<;>try (cases j;done)
  simp_all [run_equalIn_string];rename_i fs;split at h;cases h;rename_i M;have F:agT P t=some true:=by grind [agT,xJ]
  rcases H with⟨_,rfl⟩|⟨o,_⟩;rcases G with⟨_,rfl⟩|⟨o,_⟩;have O:P.fieldsOf t=fs:=by grind [Program.fieldsOf]
  rw[run_equalIn_struct w (d+e) t _ _ (by simp_all) (by simpa using M),O];exact qk d e (λt ks S=>eqK d t ks S) w J I h (by simpa using K);simp_all;simp_all;rename_i n el;split at h;rename_i L E;split at h;rename_i z;injection h with h;subst h;have F:agT P t=some true:=by grind [agT,xJ]
  rcases H with⟨_,rfl⟩|⟨o,_⟩;rcases G with⟨_,rfl⟩|⟨o,_⟩;obtain⟨i,hi,Q⟩:=IQ z.1;have D:P.cellsOf el=L.length:=by grind [Program.cellsOf]
  rw[run_equalIn_array w (d+e) _ _ T hi,D,List.range_eq_range'];exact og d e (eqK d el L E) E z.1 z.2 w J I (i:=0) (by simpa using K);simp_all;simp_all;cases h;cases h;cases h
theorem JA4(hi:Inv s)(he:bM s a.tmps env){op ks x y}(h:(opR F (.bin op (.flat ks) x y) new).run ⟨env,s.σ⟩=some e)(hc:JV P (.bin op (.flat ks) x y) o.op=true):bL P o a s e:=by
 simp only[opR]at h;obtain⟨u,h1,E⟩:=bind_some h;obtain⟨v,h2,A⟩:=bind_some E;obtain⟨r,j,rfl⟩:=gK A;clear h E A;unfold JV at hc;simp only at hc;split at hc
 ·rename_i V t C B ty U;simp only[JX,beq_iff_eq]at hc;obtain⟨⟨rfl,k⟩,⟨⟨R,N⟩,z⟩,M⟩:=hc;have H:=bH he h1 k;have I:=bH he h2 R;generalize W:a.eval C=zx at H;generalize Y:a.eval B=Z at I;simp only[nC]at j;split at j
  ·rename_i p q;cases H with
   |data _ vs K J=>
    cases I with
    |data _ g O S=>
     have n: ∃b,cC ks p q=some b:=by cases hcm:cC ks p q<;>simp_all [iL]
     obtain⟨b,n⟩:=n;rw[n]at j;obtain⟨Q,rfl⟩:=tJ j;have G:(eqGuard op t C B (.agg vs) (.agg g)).run P s.w=.ok () s.w:=run_eqGuard_agg s.w op t C B vs g (by simpa using M);have T:=eqK (P:=P) (s:=s) 100 t ks N 9900 s.w p q vs.toList g.toList b (.agg vs) (.agg g) n ⟨by simpa using K,λi x v k D=>J i x v k (by simpa using D)⟩ ⟨by simpa using O,λi x v k D=>S i x v k (by simpa using D)⟩ (.inl ⟨z,by simp⟩) (.inl ⟨z,by simp⟩);have L:(binOp op t (.agg vs) (.agg g)).run P s.w=.ok (.bool (if op=.eql then b else !b)) s.w:=by
      rcases Q with rfl|rfl
      all_goals simp_all [run_eql_struct,run_neq_struct]
     simp_all [JK,execOp,pP]
  cases j
 cases hc
end
end Go.Am
end
section
namespace Go.Am
theorem J0i.weaken{w:World}{C e:Nat->Nat->Prop}(h: ∀r o,C r o->e r o){x v}(hr:J0i w C x v):J0i w e x v:=by
 induction hr with
 |b x=>exact .b x
 |i k n=>exact .i k n
 |s l=>exact .s l
 |np=>exact .np
 |nf=>exact .nf
 |sl0 esz a cap=>exact .sl0 esz a cap
 |sl esz rows r o cap vals h1 h2 g _ ih=>exact .sl esz rows r o cap vals h1 h2 (λi j row x hr q=>⟨h _ _ (g i j row x hr q).1,(g i j row x hr q).2⟩) ih
 |slc esz rows a _ ih=>exact .slc esz rows a ih
theorem Dg{s c:Sn}(hi:Inv s)(hw:c.w=s.w)(q: ∀k cs,c.σ[k]?=some (.box cs)->MY c k cs)(v: ∀k wm esz rows,c.σ[k]?=some (.arr wm esz rows)->MM c k wm esz rows)
  (id:Nat->Nat) (x: ∀e j,e<c.σ.length->j<c.σ.length->id e=id j->e=j) (wr: ∀k r o,Wr1 c k r o->Wr1 s (id k) r o)
  (y: ∀r o,c.g.C r o->r<s.w.heap.size/\ ∀k,¬Wr1 c k r o):Inv c:=by
 have n: ∀k r o,Wr1 c k r o->k<c.σ.length:=(by grind [Wr1]);exact⟨q,v,λe j r o h1 h2=>x e j (n _ _ _ h1) (n _ _ _ h2) (hi.apart _ _ _ _ (wr _ _ _ h1) (wr _ _ _ h2)),λr o h=>by grind⟩
theorem tI{m ids sto}: ∀{xs e:List AV},fin.finL m ids sto xs=some e->xs.length=e.length/\ ∀(i:Nat) x y,xs[i]?=some x->e[i]?=some y->fin m ids sto x=some y
 |[],e,h=>by grind [fin.finL]
 |x::xs,e,h=>by
  simp only[fin.finL]at h;split at h;rename_i y l g hl;injection h with h;subst h;obtain⟨h1,h2⟩:=tI hl;grind;cases h
theorem QJ{m ids sto}: ∀{xs e:List Blk},qT m ids sto xs=some e->xs.length=e.length/\ ∀(i:Nat) x y,xs[i]?=some x->e[i]?=some y->fR m ids sto x=some y
 |[],e,h=>by grind [qT]
 |x::xs,e,h=>by
  simp only[qT]at h;split at h;rename_i y l g hl;injection h with h;subst h;obtain⟨h1,h2⟩:=QJ hl;grind;cases h
theorem q7{sto}: ∀{ids:List Nat} {e:List Blk},vI sto ids=some e->ids.length=e.length/\ ∀(i:Nat) b y,ids[i]?=some b->e[i]?=some y->sto[b]?=some y
 |[],e,h=>by grind [vI]
 |x::xs,e,h=>by
  simp only[vI]at h;split at h;rename_i y l g hl;injection h with h;subst h;obtain⟨h1,h2⟩:=q7 hl;grind;cases h
theorem QB{b:Nat}: ∀{ids:List Nat} {k j:Nat},eI b ids k=some j->k<=j/\ids[j-k]?=some b
 |[],k,j,h=>by grind [eI]
 |x::r,k,j,h=>by
  simp only[eI]at h;split at h;simp_all;obtain⟨h1,h2⟩:=QB h;grind
theorem ov{b:Nat}: ∀{ids:List Nat} {k:Nat},eI b ids k=none->b∉ids
 |[],_,_=>by simp
 |x::r,k,h=>by
  simp only[eI]at h;split at h;cases h;rename_i g;simp only[eJ,not_or];exact⟨λe=>g e.symm,ov h⟩
theorem QO: ∀{l:List Nat},iT l=true->l.Nodup|[],_=>List.nodup_nil|x::r,h=>by simp only[iT,JX,lO]at h;refine List.nodup_cons.2 ⟨?_,QO h.2⟩;simp_all
theorem QH{α:Type}: ∀{l:List α},l.Nodup-> ∀{i j:Nat} {x:α},l[i]?=some x->l[j]?=some x->i=j
 |[],_,i,j,x,h,_=>by simp at h
 |y::l,h,i,j,x,h1,h2=>by
  obtain⟨e,hl⟩:=List.nodup_cons.1 h;cases i with
  |zero=>
   grind
  |succ i=>
   cases j with
   |zero=>grind
   |succ j=>exact congrArg (· +1) (QH hl (i:=i) (j:=j) (x:=x) (by simpa using h1) (by simpa using h2))
def JMS(s:Sn)(m:Nat)(ids:List Nat):Nat->Nat->Prop:=λr o=>s.g.C r o\/ ∃b wm esz rows,m<=b/\b∉ids/\s.σ[b]?=some (Blk.arr wm esz rows)/\s.g.μ b=some (r,0)/\o<rows.length*esz
def jM(s:Sn)(m:Nat)(ids:List Nat)(σ:List Blk):Sn:=
 ⟨σ,⟨λk=>if k<m then s.g.μ k else match ids[k-m]? with
  |some b=>s.g.μ b
  |none=>none,JMS s m ids⟩,s.w⟩
section
variable {s:Sn} {m:Nat} {ids:List Nat} {l q q':List Blk}
def gB(m:Nat)(ids:List Nat)(k:Nat):Nat:=if k<m then k else(ids[k-m]?).getD 0
structure j6(s:Sn)(m:Nat)(ids:List Nat)(σ:List Blk):Prop where
 inv:Inv s
 le:m<=s.σ.length
 nodup:ids.Nodup
 ge: ∀b∈ids,m<=b
 len:σ.length=m+ids.length
 blk: ∀k x,σ[k]?=some x-> ∃y,s.σ[gB m ids k]?=some y/\fR m ids s.σ y=some x
variable {σ:List Blk} (h:j6 s m ids σ)
theorem sT(k:Nat)(hk:k<m+ids.length):(jM s m ids σ).g.μ k=s.g.μ (gB m ids k):=by
 grind [jM,gB]
include h in
theorem ZL{k:Nat}{x:Blk}(hk:σ[k]?=some x):k<m+ids.length/\ ∃y,s.σ[gB m ids k]?=some y/\fR m ids s.σ y=some x:=by have:=Jq hk;exact⟨by rw[<-h.len];exact this,h.blk k x hk⟩
include h in
theorem HU{b k:Nat}{y:Blk}(g:gB m ids k=b)(hk:k<m+ids.length)(hb:s.σ[b]?=some y): ∃x,σ[k]?=some x/\fR m ids s.σ y=some x:=by
 have e:k<σ.length:=by rw[h.len];exact hk
 obtain⟨j,h1,h2⟩:=h.blk k σ[k] (aS e);simp_all
theorem tC{k:Nat}(hk:k<m):gB m ids k=k:=by simp[gB,hk]
theorem YZ{b j:Nat}(hj:eI b ids m=some j):gB m ids j=b/\j<m+ids.length:=by
 obtain⟨h1,h2⟩:=QB hj;grind [gB]
include h in
theorem YV{x y:AV}{v:Value}(hr:JJ s x v):fin m ids s.σ x=some y->JJ (jM s m ids σ) y v:=by
 have I: ∀r o,s.g.C r o->(jM s m ids σ).g.C r o:=λr o h=>.inl h
 induction hr generalizing y with
 |p c v hp=>intro hf;simp[fin]at hf;subst hf;exact .p _ _ (hp.weaken I)
 |data cs vs h1 h2=>intro hf;simp[fin]at hf;subst hf;exact .data _ _ h1 λi x v z B=>(h2 i x v z B).weaken I
 |agg cs vs h1 G h2 ih=>
  intro hf;simp only[fin]at hf;split at hf;rename_i l hl;obtain⟨H,M⟩:=tI hl;have hrel: ∀(i:Nat) y v,l[i]?=some y->vs[i]?=some v->JJ (jM s m ids σ) y v:=(by grind [Jq]);split at hf;rename_i q hq;injection hf with hf;subst hf;have:=PI hq;subst this;refine .data _ _ (by simp_all) λi c v Q B=>?_;have:=hrel i (.p c) v (by simp[Q]) B;cases this<;>simp_all
  injection hf with hf;subst hf;exact .agg _ _ (by omega) G hrel;cases hf
 |tup cs vs h1 h2 ih=>
  intro hf;simp only[fin]at hf;split at hf;rename_i l hl;injection hf with hf;subst hf;obtain⟨H,M⟩:=tI hl;refine .tup _ _ (by omega) λi y v V B=>?_;grind [Jq];cases hf
 |ptr b off r o hm A=>
  intro hf;obtain⟨cs,A⟩:=A;have go: ∀k,gB m ids k=b->k<m+ids.length->JJ (jM s m ids σ) (.ptr k off) (.pointer (some ⟨r,o+off,none⟩)):=(by intro k E D;obtain⟨x,z,w⟩:=HU h E D A;simp only[fR]at w;split at w;injection w with w;subst w;exact .ptr k off r o (by grind [sT]) ⟨_,z⟩;cases w);grind [fin,tC,Option.map_eq_some_iff,YZ]
 |cp cs off r o vals S Z=>intro hf;simp[fin]at hf;subst hf;exact .cp cs off r o vals (λj x z=>⟨I _ _ (S j x z).1,(S j x z).2⟩) λj x z=>(Z j x z).weaken I
 |slr b i n v wm esz rows G A F B=>
  intro hf;have go: ∀k,gB m ids k=b->k<m+ids.length->JJ (jM s m ids σ) (.slr k i n) v:=by
   intro k E D;obtain⟨x,z,w⟩:=HU h E D A;simp only[fR]at w;injection w with w;subst w;refine .slr k i n v wm esz rows G z F λe=>?_;have a8:(jM s m ids σ).g.μ k=s.g.μ b:=by grind [sT]
   rcases B e with⟨L,J,Y,U⟩|⟨r,cap,c,P,fz,L,q⟩;exact .inl ⟨by simp_all,J,Y,U⟩;exact .inr ⟨r,cap,c,P,fz,by simp_all,q⟩
  simp only[fin]at hf;split at hf;grind [tC];rename_i a5;split at hf;grind [YZ];rename_i K;rw[A]at hf;simp only at hf;split at hf;rename_i e;injection hf with hf;subst hf;obtain⟨a,cap,H,M,O,T⟩:=iS.of_slr h.inv (.slr b i n v wm esz rows G A F B) A e;refine .p _ _ (ft (s:=jM s m ids σ) H M O (T.imp id ?_));rintro⟨r,o,rfl,z⟩;refine⟨r,o,rfl,λk j row x D W=>⟨.inr ⟨b,wm,esz,rows,by omega,ov K,A,?_⟩,?_⟩⟩;rcases B e with⟨L,J,Y,U⟩|⟨r',a0,c,P,fz,L,J,_⟩;simp_all;rw[H]at J;injection J with v1 v2 v3;injection v1 with v1;injection v1 with v1 v4;subst v1 v4;refine⟨L,?_⟩;have R:=Jq D;have N:=Jq W;rw[O row (gL D)]at N;rw[lU]at R;have:=iY (a:=i+k) (b:=j) (n:=rows.length) (e:=esz) (by omega) N;grind;obtain⟨u,hu,hr⟩:=z k j row x D W;exact⟨u,hu,hr.weaken I⟩;cases hf
 |ep b ext i off v wm esz rows G A F B=>
  intro hf;have go: ∀k,gB m ids k=b->k<m+ids.length->JJ (jM s m ids σ) (.ep k ext i off) v:=(by intro k E D;obtain⟨x,z,w⟩:=HU h E D A;simp only[fR]at w;injection w with w;subst w;refine .ep k ext i off v wm esz rows G z F λP e2=>?_;grind [sT]);grind [fin,tC,Option.map_eq_some_iff,YZ]
 |fn f first caps fs cs h1 h2 _ _ a6 a7=>
  intro hf;simp only[fin]at hf;split at hf
  ·rename_i a c ha Q;injection hf with hf;subst hf;obtain⟨H,M⟩:=tI ha;obtain⟨O,T⟩:=tI Q;refine .fn f a c fs cs (by omega) (by omega) (λi y v V B=>?_) (λi y v V B=>?_)
   all_goals grind [Jq]
  cases hf
 |unk x=>intro hf;simp[fin]at hf;subst hf;exact .unk x
 |pre=>intro hf;simp[fin]at hf
include h in
theorem NK(k r o:Nat)(hw:Wr1 (jM s m ids σ) k r o):k<m+ids.length/\Wr1 s (gB m ids k) r o:=by
 unfold Wr1 at hw;have g:(jM s m ids σ).σ=σ:=rfl;rw[g]at hw;cases hk:σ[k]? with
 |none=>simp_all
 |some x=>obtain⟨e,y,j,hf⟩:=ZL h hk;refine⟨e,?_⟩;rw[hk]at hw;rw[sT k e]at hw;unfold Wr1;rw[j];cases y<;>grind [fR,tI]
include h in
theorem Db:Inv (jM s m ids σ):=by
 have hi:=h.inv;have Q: ∀q g,q<m+ids.length->g<m+ids.length->gB m ids q=gB m ids g->q=g:=by
  intro q g h1 h2 A;simp only[gB]at A;split at A<;>split at A
  exact A;rename_i a b;have:g-m<ids.length:=by omega
  have:=h.ge ids[g-m] (by simp);grind;rename_i a b;have:=h.ge (ids[q-m]'(by omega)) (by simp);grind;have V:q-m<ids.length:=by omega
  have U:g-m<ids.length:=by omega
  simp[V,U]at A;have:=QH h.nodup (aS V) (by rw[A];exact aS U);omega
 refine Dg hi rfl ?_ ?_ (gB m ids) (λq g h1 h2 A=>Q q g (by rw[<-h.len];exact h1) (by rw[<-h.len];exact h2) A) (λk r o z=>(NK h k r o z).2) ?_;intro k cs N;obtain⟨H,y,O,hf⟩:=ZL h N;cases y with
 |dead=>grind [fR]
 |arr=>grind [fR]
 |box R=>
  simp only[fR]at hf;split at hf;rename_i l hl;injection hf with hf;injection hf with hf;subst hf;obtain⟨q,g⟩:=tI hl;obtain⟨r,o,c,e,fz,n,F,a1,G,I⟩:=hi.box _ _ O;refine⟨r,o,c,e,fz,by grind [sT],F,by omega,λi x Y=>?_,by simp_all⟩;grind [Jq,YV];cases hf
 intro k wm esz rows N;obtain⟨H,y,O,hf⟩:=ZL h N;cases y with
 |dead=>grind [fR]
 |box R=>grind [fR]
 |arr w e rs=>
  simp[fR]at hf;obtain⟨rfl,rfl,rfl⟩:=hf;rcases hi.arr _ _ _ _ O with⟨n,P⟩|⟨r,c,e,fz,n,F,B,hl,G,I⟩;exact .inl ⟨by grind [sT],P⟩;refine .inr ⟨r,c,e,fz,by grind [sT],F,B,hl,λi j row x h1 h2=>?_,I⟩;obtain⟨⟨v,W,P⟩,D⟩:=G i j row x h1 h2;exact⟨⟨v,W,P.weaken λr o h=>.inl h⟩,λe=>.inl (D e)⟩
 intro r o D;rcases D with D|⟨b,wm,esz,rows,a2,a0,T,S,Z⟩;exact⟨(hi.const r o D).1,λk z=>(hi.const r o D).2 _ (NK h k r o z).2⟩;rcases hi.arr _ _ _ _ T with⟨n,_⟩|⟨r',c,e,fz,n,F,B,hl,G,_⟩;simp_all;rw[S]at n;injection n with n;injection n with n _;subst n;refine⟨DQ F,λk z=>?_⟩;obtain⟨H,z⟩:=NK h k r o z;have K:gB m ids k≠b:=(by grind [gB]);cases wm with
 |true=>
  refine K (hi.apart _ _ _ _ z ?_);grind [Wr1]
 |false=>
  have L:0<esz:=(by grind);have E:o/esz<rows.length:=Nat.div_lt_of_lt_mul (by grind);have C:rows[o/esz]?=some (rows[o/esz]'E):=aS _;have hlen:=B _ (gL C);have M:o%esz<(rows[o/esz]'E).length:=by rw[hlen];exact Nat.mod_lt _ L
  have J:=(G _ _ _ _ C (aS M)).2 rfl;have:o/esz*esz+o%esz=o:=by grind [Nat.div_add_mod]
  rw[this]at J;exact(hi.const r o J).2 _ z
include h in
theorem pd{E:Sn}(t:aZ E s)(M:E.σ.length<=m):aZ E (jM s m ids σ):=by
 have hi:=h.inv;refine⟨t.keep,λr o y=>.inl (t.cmono r o y),λr o y=>?_,λr o ⟨k,I⟩=>t.wnew r o ⟨_,(NK h k r o I).2⟩,?_,λb cs C=>?_,λb wm esz rows C=>?_⟩;rcases y with y|⟨b,wm,esz,rows,L,K,F,D,J⟩;exact t.cnew r o y;cases wm with
 |true=>have:=t.wnew r o ⟨b,by grind [Wr1]⟩;exact .inr this
 |false=>
  rcases hi.arr _ _ _ _ F with⟨n,_⟩|⟨r',c,e,fz,n,O,B,hl,w,_⟩;simp_all;rw[D]at n;injection n with n;injection n with n _;subst n;have H:0<esz:=(by grind);have v:o/esz<rows.length:=Nat.div_lt_of_lt_mul (by grind);have q:rows[o/esz]?=some (rows[o/esz]'v):=aS _;have hlen:=B _ (gL q);have A:o%esz<(rows[o/esz]'v).length:=by simp_all [Nat.mod_lt]
  have z:=(w _ _ _ _ q (aS A)).2 rfl;have:o/esz*esz+o%esz=o:=by grind [Nat.div_add_mod]
  rw[this]at z;exact t.cnew r o z
 show E.σ.length<=σ.length;rw[h.len];omega;have j:b<m:=by grind
 obtain⟨⟨cs',h1,h2⟩,G⟩:=t.box b cs C;obtain⟨x,w,g⟩:=HU h (tC j) (by omega) h1;simp only[fR]at g;split at g;rename_i l hl;injection g with g;subst g;exact⟨⟨l,w,by grind [tI]⟩,by grind [sT,tC]⟩;cases g;have j:b<m:=by grind
 obtain⟨wm',rows',h1,h2,G,N⟩:=t.arr b wm esz rows C;obtain⟨x,w,g⟩:=HU h (tC j) (by omega) h1;simp[fR]at g;subst g;exact⟨wm',rows',w,h2,G,λe=>by grind [sT,tC]⟩
end
end Go.Am
end
section
namespace Go.Am
def J67(P:Program)(f:FuncId)(args:List AV)(blks:List Blk)(r:Res):Prop:=
 (∃fn,P.funcs[f]?=some fn∧fn.body.isSome=true∧(fn.name== "runtime.NumGoroutine")=false)∧
 ∀(g:Gh) (w:World) (vals:Array Value),Inv ⟨blks,g,w⟩->args.length=vals.size->(∀(i:Nat) x v,args[i]?=some x->vals[i]?=some v->JJ ⟨blks,g,w⟩ x v)->
  Calls P f vals w λe w'=> ∃v g',e=.returned v/\Inv ⟨r.2,g',w'⟩/\aZ ⟨blks,g,w⟩ ⟨r.2,g',w'⟩/\JJ ⟨r.2,g',w'⟩ r.1 v
def iV(P:Program)(F:Orc):Prop:= ∀f args blks r,F f args blks=some r->J67 P f args blks r
theorem wG{e:Ent}: ∀{es:List Ent} {k j:Nat},dG e es k=some j->k<=j/\es[j-k]?=some e
 |[],k,j,h=>by grind [dG]
 |x::r,k,j,h=>by
  simp only[dG]at h;split at h;simp_all;obtain⟨h1,h2⟩:=wG h;grind
theorem tK{ρ:Ent->Option Nat}: ∀{xs e:List AV},ren.renL ρ xs=some e->xs.length=e.length/\ ∀(i:Nat) x y,xs[i]?=some x->e[i]?=some y->ren ρ x=some y
 |[],e,h=>by grind [ren.renL]
 |x::xs,e,h=>by
  simp only[ren.renL]at h;split at h;rename_i y l g hl;injection h with h;subst h;obtain⟨h1,h2⟩:=tK hl;grind;cases h
theorem tH{es:List Ent}{new:Nat}: ∀{xs e:List AV},bk.bkL es new xs=some e->xs.length=e.length/\ ∀(i:Nat) x y,xs[i]?=some x->e[i]?=some y->bk es new x=some y
 |[],e,h=>by grind [bk.bkL]
 |x::xs,e,h=>by
  simp only[bk.bkL]at h;split at h;rename_i y l g hl;injection h with h;subst h;obtain⟨h1,h2⟩:=tH hl;grind;cases h
def SW(s:Sn)(ρ:Ent->Option Nat)(e:Ent)(x:Blk):Prop:=
 match e with
 | .whole b=>(∃cs l,s.σ[b]?=some (.box cs)/\ren.renL ρ cs=some l/\x=.box l)\/(∃w esz rows,s.σ[b]?=some (.arr w esz rows)/\x=.arr w esz rows)
 | .elem b ext i=> ∃esz rows row,s.σ[b]?=some (.arr true esz rows)/\ext=rows.length/\rows[i]?=some row/\x=.box (row.map .p)
section
variable {s:Sn} {env:List (Nat×AV)}
theorem dv{e:List Blk}{ws:List (Nat×Blk)}{b:Nat}{x:Blk}(h:(qN ws b).run ⟨env,e⟩=some x):(upd ws e)[b]?=some x:=by
 grind [qN,RM.run,vT]
theorem JEQ{k:List Blk}{ws:List (Nat×Blk)}(n:s.σ=upd ws k){ρ:Ent->Option Nat}{e:Ent}{x:Blk}(h:(xZ ws ρ e).run ⟨env,k⟩=some x):SW s ρ e x:=by
 cases e with
 |whole b=>
  simp only[xZ]at h;obtain⟨y,h1,h⟩:=bind_some h;have g:=dv h1;rw[<-n]at g;cases y with
  |dead=>cases h
  |box cs=>
   dsimp only at h;split at h;rename_i l hl;simp only[RM.run]at h;injection h with h;subst h;exact .inl ⟨cs,l,g,hl,rfl⟩;cases h
  |arr w esz rows=>
   simp only[RM.run]at h;injection h with h;subst h;exact .inr ⟨w,esz,rows,g,rfl⟩
 |elem b ext i=>
  simp only[xZ]at h;obtain⟨y,h1,h⟩:=bind_some h;have g:=dv h1;rw[<-n]at g;cases y with
  |arr w esz rows=>
   cases w;cases h;dsimp only at h;split at h;rename_i o;split at h;rename_i row j;simp only[RM.run]at h;injection h with h;subst h;exact⟨esz,rows,row,g,o,j,rfl⟩;cases h;cases h
  |_=>cases h
theorem qu{g:List Blk}{ws:List (Nat×Blk)}(j:s.σ=upd ws g){ρ:Ent->Option Nat}: ∀{es:List Ent} {blks:List Blk},(jR ws ρ es).run ⟨env,g⟩=some blks->
  es.length=blks.length/\ ∀(k:Nat) e x,es[k]?=some e->blks[k]?=some x->SW s ρ e x
 |[],blks,h=>by grind [jR,RM.run]
 |e::es,blks,h=>by
  simp only[jR]at h;obtain⟨x,h1,h⟩:=bind_some h;obtain⟨l,h2,h⟩:=bind_some h;simp only[RM.run]at h;injection h with h;subst h;obtain⟨n,o⟩:=qu j h2;grind [JEQ]
def hC(s:Sn)(es:List Ent)(blks:List Blk):Sn:=
 ⟨blks,⟨λk=>match es[k]? with
  |some (.whole b)=>s.g.μ b
  |some (.elem b _ i)=>(match s.σ[b]? with
   |some (.arr _ esz _)=>(match s.g.μ b with
    |some p=>some (p.1,i*esz)
    |none=>none)
   |_=>none)
  |none=>none,s.g.C⟩,s.w⟩
structure YH(s:Sn)(es:List Ent)(blks:List Blk):Prop where
 inv:Inv s
 nodup:(es.map Ent.id).Nodup
 len:es.length=blks.length
 blk: ∀(k:Nat) e x,es[k]?=some e->blks[k]?=some x->SW s (λe=>dG e es 0) e x
variable {es:List Ent} {blks:List Blk} (h:YH s es blks)
include h in
theorem qY{k:Nat}{e:Ent}(he:es[k]?=some e): ∃x,blks[k]?=some x/\SW s (λe=>dG e es 0) e x:=by
 have g:=Jq he;have:k<blks.length:=by rw[<-h.len];exact g
 exact⟨blks[k],aS this,h.blk k e _ he (aS this)⟩
theorem wE{k b:Nat}(he:es[k]?=some (.whole b)):(hC s es blks).g.μ k=s.g.μ b:=by simp[hC,he]
theorem QA{k b ext i esz:Nat}{wm rows r}(he:es[k]?=some (.elem b ext i))(hb:s.σ[b]?=some (.arr wm esz rows))(hm:s.g.μ b=some (r,0)):(hC s es blks).g.μ k=some (r,i*esz):=by
 grind [hC]
include h in
theorem Bu{x y:AV}{v:Value}(hr:JJ s x v):ren (λe=>dG e es 0) x=some y->JJ (hC s es blks) y v:=by
 induction hr generalizing y with
 |p c v R=>intro hf;simp[ren]at hf;subst hf;exact .p _ _ R
 |data cs vs h1 h2=>intro hf;simp[ren]at hf;subst hf;exact .data _ _ h1 h2
 |cp cs off r o vals O N=>intro hf;simp[ren]at hf;subst hf;exact .cp cs off r o vals O N
 |unk x=>intro hf;simp[ren]at hf;subst hf;exact .unk x
 |pre=>intro hf;simp[ren]at hf
 |agg cs vs h1 D h2 ih=>
  intro hf;simp only[ren]at hf;obtain⟨l,hl,rfl⟩:=hZ.1 hf;obtain⟨I,L⟩:=tK hl;refine .agg _ _ (by omega) D λi y v H z=>?_;grind [Jq]
 |tup cs vs h1 h2 ih=>
  intro hf;simp only[ren]at hf;obtain⟨l,hl,rfl⟩:=hZ.1 hf;obtain⟨I,L⟩:=tK hl;refine .tup _ _ (by omega) λi y v H z=>?_;grind [Jq]
 |ptr b off r o hm B=>
  intro hf;simp only[ren]at hf;obtain⟨k,j,rfl⟩:=hZ.1 hf;obtain⟨_,j⟩:=wG j;simp only[uN]at j;obtain⟨cs,B⟩:=B;obtain⟨x,C,A⟩:=qY h j;rcases A with⟨cs',l,h1,h2,rfl⟩|⟨w,esz,rows,h1,rfl⟩;exact .ptr k off r o (by grind [wE]) ⟨l,C⟩;simp_all
 |slr b i n v wm esz rows D B E z=>
  intro hf;simp only[ren]at hf;obtain⟨k,j,rfl⟩:=hZ.1 hf;obtain⟨_,j⟩:=wG j;simp only[uN]at j;obtain⟨x,C,A⟩:=qY h j;rcases A with⟨cs',l,h1,h2,rfl⟩|⟨w,F,rows',h1,rfl⟩;simp_all;rw[B]at h1;injection h1 with h1;injection h1 with a1 a2 a3;subst a1 a2 a3;refine .slr k i n v wm esz rows D C E λe=>?_;have Z:(hC s es blks).g.μ k=s.g.μ b:=wE j;rcases z e with⟨G,P,U,Q⟩|⟨r,cap,c,T,fz,G,q⟩;exact .inl ⟨by simp_all,P,U,Q⟩;exact .inr ⟨r,cap,c,T,fz,by simp_all,q⟩
 |ep b ext i off v wm esz rows D B E z=>
  intro hf;simp only[ren]at hf;obtain⟨k,j,rfl⟩:=hZ.1 hf;obtain⟨_,j⟩:=wG j;simp only[uN]at j;obtain⟨x,C,A⟩:=qY h j;obtain⟨F,rows',row,h1,h2,S,rfl⟩:=A;have K:=h1;rw[B]at h1;injection h1 with h1;injection h1 with a1 a2 a3;subst a1 a2 a3;have V:=Jq S;obtain⟨r,G,z⟩:=z h2 (by omega);subst z;exact .ptr k off r (i*esz) (QA j K G) ⟨_,C⟩
 |fn f first caps fs cs h1 h2 _ _ W Y=>
  intro hf;simp only[ren]at hf;obtain⟨l1,M,hf⟩:=aU.1 hf;obtain⟨l2,J,rfl⟩:=hZ.1 hf;obtain⟨I,L⟩:=tK M;obtain⟨k3,k4⟩:=tK J;refine .fn f _ _ fs cs (by omega) (by omega) (λi y v H z=>?_) (λi y v H z=>?_)
  all_goals grind [Jq]
def idE(es:List Ent)(k:Nat):Nat:=((es[k]?).map Ent.id).getD 0
theorem vM{k:Nat}{e:Ent}(he:es[k]?=some e):idE es k=e.id:=by simp[idE,he]
include h in
theorem sQ(k r o:Nat)(hw:Wr1 (hC s es blks) k r o):k<es.length/\Wr1 s (idE es k) r o:=by
 unfold Wr1 at hw;have q:(hC s es blks).σ=blks:=rfl;rw[q]at hw;cases hk:blks[k]? with
 |none=>simp_all
 |some x=>
  have j:k<es.length:=by rw[h.len];grind
  refine⟨j,?_⟩;have e:es[k]?=some es[k]:=aS j;have g:=h.blk k _ x e hk;rw[vM e];rw[hk]at hw;unfold Wr1;cases hcase:es[k]with
  |whole b=>
   rw[hcase]at g e;rcases g with⟨cs',l,h1,h2,rfl⟩|⟨w,n,rows',h1,rfl⟩
   all_goals grind [Ent.id,wE,tK]
  |elem b ext i=>
   rw[hcase]at g e;obtain⟨n,rows',row,h1,h2,v,rfl⟩:=g;grind [Ent.id,hC]
include h in
theorem JLE:Inv (hC s es blks):=by
 have hi:=h.inv;have hlen:(hC s es blks).σ.length=es.length:=h.len.symm;refine Dg hi rfl ?_ ?_ (idE es) ?_ (λk r o K=>(sQ h k r o K).2) (λr o N=>⟨(hi.const r o N).1,λk K=>(hi.const r o N).2 _ (sQ h k r o K).2⟩);intro k cs z;have z:blks[k]?=some (.box cs):=z;have A:k<es.length:=by grind
 have y:es[k]?=some es[k]:=aS A;have q:=h.blk k _ _ y z;cases hcase:es[k]with
 |whole b=>
  rw[hcase]at q y;rcases q with⟨cs',l,h1,h2,g⟩|⟨w,n,rows',h1,g⟩;injection g with g;subst g;obtain⟨E,I⟩:=tK h2;obtain⟨r,o,c,e,fz,D,L,Y,M,G⟩:=hi.box _ _ h1;refine⟨r,o,c,e,fz,by grind [wE],L,by omega,λi x V=>?_,by simp_all⟩;grind [Jq,Bu];cases g
 |elem b ext i=>
  rw[hcase]at q y;obtain⟨n,rows',row,h1,h2,F,g⟩:=q;injection g with g;subst g;have H:=Jq F;rcases hi.arr _ _ _ _ h1 with⟨D,C⟩|⟨r,c,e,fz,D,L,J,hl,M,G⟩;simp_all;have W:=J row (gL F);have O:i*n+n<=rows'.length*n:=(by have:=zQ4 n (show i+1<=rows'.length from H);grind);refine⟨r,i*n,c,e,fz,QA y h1 D,L,by simp;omega,λj x B=>?_,λo h1 h2=>G.1 o (zQ2 _) (by grind)⟩;rw[gE]at B;cases hrj:row[j]? with
  |none=>simp_all
  |some P=>simp[hrj]at B;subst B;obtain⟨⟨v,U,C⟩,_⟩:=M i j row P F hrj;exact⟨v,U,.p _ _ C,C.one⟩
 intro k wm esz rows z;have z:blks[k]?=some (.arr wm esz rows):=z;have A:k<es.length:=by grind
 have y:es[k]?=some es[k]:=aS A;have q:=h.blk k _ _ y z;cases hcase:es[k]with
 |whole b=>
  rw[hcase]at q y;rcases q with⟨cs',l,h1,h2,g⟩|⟨w,n,rows',h1,g⟩;cases g;injection g with a1 a2 a3;subst a1 a2 a3;rcases hi.arr _ _ _ _ h1 with⟨D,C⟩|⟨r,c,e,fz,D,Q⟩;exact .inl ⟨by grind [wE],C⟩;exact .inr ⟨r,c,e,fz,by grind [wE],Q⟩
 |elem b ext i=>rw[hcase]at q y;obtain⟨n,rows',row,h1,h2,F,g⟩:=q;cases g
 ·intro E I h1 h2 T;rw[hlen]at h1 h2;have S:es[E]?=some es[E]:=aS h1;have R:es[I]?=some es[I]:=aS h2;rw[vM S,vM R]at T;refine QH h.nodup (x:=es[E].id) ?_ ?_
  all_goals simp_all
end
end Go.Am
end
