/-
  Parts of a proof.
-/
import Derived.Test.YtknpcflejohnoaaGreatChecked
import Derived.RangeFuncNested
import Derived.RangeFuncLeaves
import Derived.Shelf.SlicesQ.Reverse
import Derived.Shelf.Abstract
import Derived.Shelf.RegionOpenPlain
import Derived.WalkKit
import Derived.OwnWalkIn
import Derived.TacticsInMore
import Derived.LoopNIn
import Derived.LoopIn
import Derived.Lib.Builder
import Derived.KernelRfl
import Derived.WalkSpells
import Derived.Tactics
import Derived.Tactics2
import Derived.Deep.DeepAppendWide
import Derived.Laws.Rows
import Derived.Deep.AppendLies
import Derived.Test.YtknpcflejohnoaaGreatM2
import Derived.Test.YtknpcflejohnoaaGreatM3
import Derived.Test.YtknpcflejohnoaaGreatM5
import Derived.Test.YtknpcflejohnoaaGreatM6
import Derived.Test.YtknpcflejohnoaaGreatM7
set_option linter.unusedSimpArgs false
set_option linter.unusedVariables false
section
namespace Go.Proofs.YtknpcflejohnoaaGreat
open Go.Am
set_option maxRecDepth 20000
theorem AB{α:Type}{f:FuncId}{a:α}: ∀{l:List (FuncId×α)},DA f l=some a->(f,a)∈l
 |[],h=>by cases h
 |(g,b)::r,h=>by
  simp only[DA]at h;split at h;rename_i e;injection h with h;subst h e;exact List.mem_cons_self;exact yQ _ (AB h)
def fI(l:List (FuncId×AFn)):Prop:= ∀x∈l,lT Tryz.prog x.1 x.2=true
def QG(l:List (FuncId×pA)):Prop:= ∀x∈l,lT Tryz.prog x.1 x.2.af=true
theorem rX:fI []:=λ_ h=>by cases h
theorem sD{f a l}(h:lT Tryz.prog f a=true)(hl:fI l):fI ((f,a)::l):=λx e=>by
 rcases eR.1 e with rfl|e;exact h;exact hl x e
theorem JFo:QG []:=λ_ h=>by cases h
theorem JE3{f a l}(h:lT Tryz.prog f a.af=true)(hl:QG l):QG ((f,a)::l):=λx e=>by
 rcases eR.1 e with rfl|e;exact h;exact hl x e
theorem uH{a b}(h:fI a)(hl:fI b):fI (a++b):=λx e=>(cK.1 e).elim (h x) (hl x)
theorem JL3:fI Am.mt:=by
 unfold Am.mt
 repeat (first|exact rX|refine sD (by kernel_rfl) ?_)
theorem JLM:fI mi:=by
 unfold mi
 repeat (first|exact rX|refine sD (by kernel_rfl) ?_)
theorem JL5:fI nm:=by
 unfold nm
 repeat (first|exact rX|refine sD (by kernel_rfl) ?_)
theorem JLc:fI mq:=by
 unfold mq
 repeat (first|exact rX|refine sD (by kernel_rfl) ?_)
theorem JKZ:fI mr:=by
 unfold mr
 repeat (first|exact rX|refine sD (by kernel_rfl) ?_)
theorem JL6:fI ni:=by
 unfold ni
 repeat (first|exact rX|refine sD (by kernel_rfl) ?_)
theorem Z7:fI mo:=by
 unfold mo
 repeat (first|exact rX|refine sD (by kernel_rfl) ?_)
theorem JL7:fI m9:=by
 unfold m9
 repeat (first|exact rX|refine sD (by kernel_rfl) ?_)
theorem JKX:fI mw:=by
 unfold mw
 repeat (first|exact rX|refine sD (by kernel_rfl) ?_)
theorem Z5:fI ml:=by
 unfold ml
 repeat (first|exact rX|refine sD (by kernel_rfl) ?_)
theorem pz:fI fns:=uH JL3<|uH JLM<|uH JL5<|uH JLc<|uH JKZ<|uH JL6<|uH Z7<|uH JL7<|uH JKX<|Z5
theorem p8:QG fks:=by
 unfold fks
 repeat (first|exact JFo|refine JE3 (by kernel_rfl) ?_)
def QK(l:List (FuncId×Prm)):Prop:= ∀x∈l,∀args blks r,x.2 args blks=some r->J61 Tryz.prog x.1 args blks r
theorem JED:QK []:=λ_ h=>by cases h
theorem sx{f a l}(h: ∀args blks r,a args blks=some r->J61 Tryz.prog f args blks r)(hl:QK l):QK ((f,a)::l):=λx e=>by
 rcases eR.1 e with rfl|e;exact h;exact hl x e
theorem o9:QK fps:=sx I0<|sx Xm<|JED
theorem mixed:Tryz.prog.follows .mixedOrders=true:=by kernel_rfl
def pf:PS:=λ_=>none
theorem JJf:jX Tryz.prog (AF (zB pf)):=by
 refine Cz mixed (λf e h=>?_) (λf g h=>?_) (λf k h=>?_);rcases GA h with⟨x,h1,h2⟩|⟨x,h1,h2⟩|⟨x,h1,h2⟩|⟨x,h1,h2⟩;injection h2 with h2;subst h2;exact pz _ (AB h1);cases h2;cases h2;cases h2;rcases GA h with⟨x,h1,h2⟩|⟨x,h1,h2⟩|⟨x,h1,h2⟩|⟨x,h1,h2⟩;cases h2;cases h2;injection h2 with h2;subst h2;exact o9 _ (AB h1);cases h1;rcases GA h with⟨x,h1,h2⟩|⟨x,h1,h2⟩|⟨x,h1,h2⟩|⟨x,h1,h2⟩;cases h2;injection h2 with h2;subst h2;exact p8 _ (AB h1);cases h2;cases h2
end Go.Proofs.YtknpcflejohnoaaGreat
end
section
namespace Go.Proofs
open Go.Shelf Go.RowKit Go.Lib
set_option linter.unusedSimpArgs false
set_option linter.unusedVariables false
set_option maxHeartbeats 1000000 in
theorem Tryz.pg_changes(a0 a1:Int)(v2 v3 v4 v5 k n o v9 g j h:Value)(w:World):
  Calls Tryz.prog 30 #[.agg #[.int .i64 a0,.int .i64 a1,v2,v3,v4,v5,k,n,o,v9,g,j,h]] w λe w'=>e=.returned (.bool (decide (a1=1)||decide (a1=2)))/\Below w.heap.size w w':=by
 go_enter Tryz.func30,Tryz.ntmps30
 by_cases h1:a1=1
 ·subst h1
  go_wp2
  go_ret
  exact⟨rfl,(Below.refl _ w).alloc (Nat.le_refl _) _⟩
 ·by_cases h2:a1=2
  ·subst h2
   go_wp2
   go_ret
   exact⟨rfl,(Below.refl _ w).alloc (Nat.le_refl _) _⟩
  ·have r:(a1==1)=false:=by simpa using h1
   have q:(a1==2)=false:=by simpa using h2
   go_wp2
   go_ret
   refine⟨by simp[h1,h2],(Below.refl _ w).alloc (Nat.le_refl _) _⟩
set_option maxHeartbeats 1000000 in
theorem Tryz.pg_prev(a4:Int)(v0 v1 v2 v3 v5 k o n v9 g h j:Value)(w:World):
  Calls Tryz.prog 29 #[.agg #[v0,v1,v2,v3,.int .i64 a4,v5,k,o,n,v9,g,h,j]] w λe w'=>e=.returned (.int .i64 a4)/\Below w.heap.size w w':=by
 go_enter Tryz.func29,Tryz.ntmps29
 go_wp2
 go_ret
 exact⟨rfl,(Below.refl _ w).alloc (Nat.le_refl _) _⟩
set_option maxHeartbeats 1000000 in
theorem Tryz.pg_back(v0 v1 v2:Value)(last above:Int)(w:World):
  Calls Tryz.prog 28 #[.agg #[v0,v1,v2],.int .i64 last,.int .i64 above,.func (.func 29) #[] #[]] w λe w'=>
   e=.returned (.func (.func 53) #[] #[.pointer (some ⟨w.heap.size+1,0,none⟩),.pointer (some ⟨w.heap.size+1+1,0,none⟩),.pointer (some ⟨w.heap.size,0,none⟩),.pointer (some ⟨w.heap.size+1+1+1,0,none⟩)])/\
   w'=(((w.alloc (.cells #[v0,v1,v2] 28)).alloc (.cells #[.int .i64 last] 3)).alloc (.cells #[.int .i64 above] 3)).alloc (.cells #[.func (.func 29) #[] #[]] 89):=by
 go_enter Tryz.func28,Tryz.ntmps28
 go_wp2
 go_ret
 exact⟨rfl,rfl⟩
end Go.Proofs
end
section
namespace Go.Proofs
open Go.Shelf Go.RowKit Go.Lib Go.Am
set_option linter.unusedSimpArgs false
set_option linter.unusedVariables false
def enE(x:EN):List Value:=[.int .i64 x.1,.int .i64 x.2.1,.int .i64 x.2.2.1,.int .i64 x.2.2.2.1,.int .i64 x.2.2.2.2.1,.int .i64 x.2.2.2.2.2.1,.int .i64 x.2.2.2.2.2.2.1.1,.int .i64 x.2.2.2.2.2.2.1.2.1,.bool x.2.2.2.2.2.2.1.2.2.1.1,.string ⟨x.2.2.2.2.2.2.1.2.2.1.2.toArray⟩,.bool x.2.2.2.2.2.2.1.2.2.2.1,.string ⟨x.2.2.2.2.2.2.1.2.2.2.2.toArray⟩,.string ⟨x.2.2.2.2.2.2.2.toArray⟩]
def enF(x:FO):Array Value:= #[Value.int .i64 x.1,Value.agg (enE x.2.1++[Value.int .i64 x.2.2]).toArray]
structure KS(n₁ m n₀:Nat)(W W':World):Prop where
 size:W.heap.size<=W'.heap.size
 k: ∀r,(r<n₁\/(m<=r/\r<n₀))->W'.heap[r]?=W.heap[r]?
 t: ∀(r:Nat) c t fz,W.heap[r]?=some (.cells c t fz)->c.size=13->n₀<=r->W'.heap[r]?=W.heap[r]?
theorem KS.trans{n₁ m n₀:Nat}{A B C:World}(h:KS n₁ m n₀ A B)(k:KS n₁ m n₀ B C):KS n₁ m n₀ A C:=
 ⟨zQ1 h.size k.size,λr g=>(k.k r g).trans (h.k r g),λr c t fz g j n=>by
  have e:=h.t r c t fz g j n;rw[<-e];exact k.t r c t fz (e.trans g) j n⟩
theorem KS.of_below{n₁ m n₀:Nat}{A B:World}(h:Below A.heap.size A B)(h1:n₁<=A.heap.size)(h0:n₀<=A.heap.size):KS n₁ m n₀ A B:=
 ⟨h.size,λr e=>h.block r (by omega),λr c t fz e _ _=>h.block r (pI.1 e).1⟩
theorem KS.cell{n₁ m n₀:Nat}{A B:World}(h:KS n₁ m n₀ A B){p:Addr}(hp:p.block<n₁\/(m<=p.block/\p.block<n₀)):B.cell? p=A.cell? p:=World.cell?_of_block (h.k _ hp)
structure tW(n₁ m n₀ b0 b1 b2 b3:Nat)(first last above:Int)(a:Option Addr)(c:Nat)(es:List EN)(W:World):Prop where
 h0:m<=b0/\b0<n₀
 h1:m<=b1/\b1<n₀
 h2:m<=b2/\b2<n₀
 h3:m<=b3/\b3<n₀
 c0:W.cell? ⟨b0,0,none⟩=some (.int .i64 first)
 c1:W.cell? ⟨b0,1,none⟩=some (.slice a es.length c)
 l:W.cell? ⟨b1,0,none⟩=some (.int .i64 last)
 ab:W.cell? ⟨b2,0,none⟩=some (.int .i64 above)
 f:W.cell? ⟨b3,0,none⟩=some (.func (.func 29) #[] #[])
 e: ∀(i:Nat) x,es[i]?=some x-> ∃r o,a=some ⟨r,o,none⟩/\r<n₁/\ ∀(j:Nat) v,(enE x)[j]?=some v->W.cell? ⟨r,o+i*13+j,none⟩=some v
theorem tW.kept{n₁ m n₀ b0 b1 b2 b3:Nat}{first last above:Int}{a:Option Addr}{c:Nat}{es:List EN}{W W':World}(h:tW n₁ m n₀ b0 b1 b2 b3 first last above a c es W)(hb:KS n₁ m n₀ W W'):tW n₁ m n₀ b0 b1 b2 b3 first last above a c es W' where
 h0:=h.h0
 h1:=h.h1
 h2:=h.h2
 h3:=h.h3
 c0:=(hb.cell (p:=⟨b0,0,none⟩) (.inr h.h0)).trans h.c0
 c1:=(hb.cell (p:=⟨b0,1,none⟩) (.inr h.h0)).trans h.c1
 l:=(hb.cell (p:=⟨b1,0,none⟩) (.inr h.h1)).trans h.l
 ab:=(hb.cell (p:=⟨b2,0,none⟩) (.inr h.h2)).trans h.ab
 f:=(hb.cell (p:=⟨b3,0,none⟩) (.inr h.h3)).trans h.f
 e:=λi x g=>by obtain⟨r,o,h1,h2,h3⟩:=h.e i x g;exact⟨r,o,h1,h2,λj v k=>(hb.cell (p:=⟨r,o+i*13+j,none⟩) (.inl h2)).trans (h3 j v k)⟩
theorem oR{W W':World}(h:Below W.heap.size W W')(row:Option Nat):W.grownBy W' row:=⟨h.os,h.tape,h.output,h.size,λk e _=>h.block k e⟩
attribute [local go_sem] Oper.semAt_some
set_option maxRecDepth 100000 in
set_option maxHeartbeats 4000000 in
theorem Tryz.pg_iter(n l n₁ U n₀ b0 b1 b2 b3:Nat)(first last above:Int)(a:Option Addr)(c:Nat)(es:List EN)(h0:0<=above)(be:1<=first)(b6:first<=2199023255552)(hl:last<9223372036854775808)(b9:es.length<2199023255552)
  (a1: ∀(i:Nat) x,es[i]?=some x->x.2.2.2.2.1<first+i) (J Jx:List FO->World->Prop) (K:Nat) (hK:(last-above).toNat<K)
  (W:World) (b7:n₀<=W.heap.size) (aw:n₁<=W.heap.size) (hL:tW n₁ U n₀ b0 b1 b2 b3 first last above a c es W) (aJ:AbidesFrom W.heap.size J)
  (hY: ∀pre x W1,J pre W1->pre.length<(bK first es above K last).length->YieldAt Fence.wide (n-1) Tryz.prog l (enF x) W1 λe W'=>
   (e=.returned (.bool true)/\J (pre++[x]) W'/\KS n₁ U n₀ W1 W')\/(e=.returned (.bool false)/\Jx (pre++[x]) W'))
  (hJ:J [] W):
  CallsIn Fence.wide n Tryz.prog 53 #[.func (.yield l) #[] #[],.pointer (some ⟨b1,0,none⟩),.pointer (some ⟨b2,0,none⟩),.pointer (some ⟨b0,0,none⟩),.pointer (some ⟨b3,0,none⟩)] W λe W'=>(∃v,e=.returned v)/\
   ((∃ys,ys=bK first es above K last/\J ys W')\/(∃pre,pre<+:bK first es above K last/\Jx pre W')):=by
 have cl:=hL.l;have HL:Hid (tW n₁ U n₀ b0 b1 b2 b3 first last above a c es W):=hL;have HD:Hid (∀(i:Nat) x,es[i]?=some x->x.2.2.2.2.1<first+i):=a1;clear hL a1;refine callsIn_of_wp Tryz.func53 rfl trivial ?_ rfl;simp only[Tryz.ntmps53,List.size_toArray,vQ,List.length_nil,Nat.reduceAdd,Nat.reduceSub,Array.replicate_succ,Array.replicate_zero,List.push_toArray,List.append_toArray,lP,tK]
 gi_wp2
 gi_loopw [6] (λp wr=> ∃(k:Nat) (m:Int) (pre:List FO),p=.int .i64 m/\(m-above).toNat<k/\m<=last/\pre++bK first es above k m=bK first es above K last/\J pre wr/\tW n₁ U n₀ b0 b1 b2 b3 first last above a c es wr/\W.heap.size<=wr.heap.size)
  (λp _=>(intOf p-above).toNat)
 case atStart=>exact⟨K,last,[],rfl,hK,aU _,rfl,hJ,HL.out,zQ0 _⟩
 case round=>
  obtain⟨k,m,pre,rfl,hk,hm,a5,V,P,ay⟩:=hrel;have c0:=P.c0;have c1:=P.c1;have b5:=P.ab;have cf:=P.f;obtain⟨k,rfl⟩: ∃q,k=q+1:=⟨k-1,by omega⟩;have C:Hid (pre++bK first es above (k+1) m=bK first es above K last):=a5;have a6:Hid (tW n₁ U n₀ b0 b1 b2 b3 first last above a c es wr):=P;clear a5 P;by_cases Z:m>above
  ·by_cases ag:m<first
   ·have A:bK first es above (k+1) m=[(m,pg0,14)]:=by rw[bK,if_pos Z,if_pos (.inl ag)]
    have Q:pre.length<(bK first es above K last).length:=by rw[<-C.out,A];simp
    obtain⟨fn,tmps,assign,body,T,hR⟩:=hY pre (m,pg0,14) wr V Q;have a2:Sem.run Tryz.prog (Instr.yield l #[Value.int .i64 m,Value.agg #[Value.int .i64 0,Value.int .i64 0,Value.int .i64 0,Value.int .i64 0,Value.int .i64 0,Value.int .i64 0,Value.int .i64 0,Value.int .i64 0,Value.bool false,Value.string ⟨#[]⟩,Value.bool false,Value.string ⟨#[]⟩,Value.string ⟨#[]⟩,Value.int .i64 14]]) wr=.ok (.round l fn tmps assign body) wr:=T;clear T
    gi_wp2
    refine⟨by simp[Fence.wide],hR.mono ?_⟩;have done:pre++[(m,pg0,14)]=bK first es above K last:=by rw[<-C.out,A]
    rintro e z (⟨rfl,S,R⟩|⟨rfl,M⟩)
    ·gi_wp2
     refine bodyPost_ret (results_none rfl _ _ _) rfl ?_;exact⟨⟨_,rfl⟩,.inl ⟨_,done,S⟩⟩
    ·gi_wp2
     refine bodyPost_ret (results_none rfl _ _ _) rfl ?_;exact⟨⟨_,rfl⟩,.inr ⟨_,by rw[done];exact List.prefix_refl _,M⟩⟩
   ·have hw:IntKind.i64.wrap (m-first)=m-first:=by rw[IntKind.wrap_i64];omega
    by_cases ai:m-first>=es.length
    ·have A:bK first es above (k+1) m=[(m,pg0,14)]:=by rw[bK,if_pos Z,if_pos (.inr ai)]
     have Q:pre.length<(bK first es above K last).length:=by rw[<-C.out,A];simp
     obtain⟨fn,tmps,assign,body,T,hR⟩:=hY pre (m,pg0,14) wr V Q;have a2:Sem.run Tryz.prog (Instr.yield l #[Value.int .i64 m,Value.agg #[Value.int .i64 0,Value.int .i64 0,Value.int .i64 0,Value.int .i64 0,Value.int .i64 0,Value.int .i64 0,Value.int .i64 0,Value.int .i64 0,Value.bool false,Value.string ⟨#[]⟩,Value.bool false,Value.string ⟨#[]⟩,Value.string ⟨#[]⟩,Value.int .i64 14]]) wr=.ok (.round l fn tmps assign body) wr:=T;clear T
     gi_wp2
     refine⟨by simp[Fence.wide],hR.mono ?_⟩;have done:pre++[(m,pg0,14)]=bK first es above K last:=by rw[<-C.out,A]
     rintro e z (⟨rfl,S,R⟩|⟨rfl,M⟩)
     ·gi_wp2
      refine bodyPost_ret (results_none rfl _ _ _) rfl ?_;exact⟨⟨_,rfl⟩,.inl ⟨_,done,S⟩⟩
     ·gi_wp2
      refine bodyPost_ret (results_none rfl _ _ _) rfl ?_;exact⟨⟨_,rfl⟩,.inr ⟨_,by rw[done];exact List.prefix_refl _,M⟩⟩
    ·
     obtain⟨i,hi⟩: ∃i:Nat,m-first=i:=⟨(m-first).toNat,by omega⟩
     have a8:i<es.length:=by omega
     obtain⟨x,hx⟩: ∃x,es[i]?=some x:=⟨es[i],zQ9 a8⟩;have a3:=HD.out i x hx;have A:bK first es above (k+1) m=(m,x,0)::bK first es above k x.2.2.2.2.1:=by rw[bK,if_pos Z,if_neg (by omega),hi,Int.toNat_natCast,hx]
     have Q:pre.length<(bK first es above K last).length:=by rw[<-C.out,A];simp
     have Y:(pre++[(m,x,0)])++bK first es above k x.2.2.2.2.1=bK first es above K last:=by rw[<-C.out,A];simp
     have HN:Hid ((pre++[(m,x,0)])++bK first es above k x.2.2.2.2.1=bK first es above K last):=Y;clear Y A C;obtain⟨r,o,rfl,hr,B⟩:=a6.out.e i x hx;obtain⟨G,O,E,L,h,I,⟨N,H,⟨F,D⟩,w,y⟩,j⟩:=x;have d0:wr.cell? ⟨r,o+i*13,none⟩=some (.int .i64 G):=B 0 _ rfl;have d1:wr.cell? ⟨r,o+i*13+1,none⟩=some (.int .i64 O):=B 1 _ rfl;have d2:wr.cell? ⟨r,o+i*13+2,none⟩=some (.int .i64 E):=B 2 _ rfl;have d3:wr.cell? ⟨r,o+i*13+3,none⟩=some (.int .i64 L):=B 3 _ rfl;have d4:wr.cell? ⟨r,o+i*13+4,none⟩=some (.int .i64 h):=B 4 _ rfl;have d5:wr.cell? ⟨r,o+i*13+5,none⟩=some (.int .i64 I):=B 5 _ rfl;have d6:wr.cell? ⟨r,o+i*13+6,none⟩=some (.int .i64 N):=B 6 _ rfl;have d7:wr.cell? ⟨r,o+i*13+7,none⟩=some (.int .i64 H):=B 7 _ rfl;have d8:wr.cell? ⟨r,o+i*13+8,none⟩=some (.bool F):=B 8 _ rfl;have d9:wr.cell? ⟨r,o+i*13+9,none⟩=some (.string ⟨D.toArray⟩):=B 9 _ rfl;have bg:wr.cell? ⟨r,o+i*13+10,none⟩=some (.bool w):=B 10 _ rfl;have ax:wr.cell? ⟨r,o+i*13+11,none⟩=some (.string ⟨y.toArray⟩):=B 11 _ rfl;have ba:wr.cell? ⟨r,o+i*13+12,none⟩=some (.string ⟨j.toArray⟩):=B 12 _ rfl;clear B;have bc:m-first<(es.length:Int):=by omega
     have b4:0<=m-first:=by omega
     have bb:(m-first).toNat=i:=by omega
     have az:AbidesFrom W.heap.size J:=aJ;have ah:J pre (wr.alloc (.cells #[.int .i64 G,.int .i64 O,.int .i64 E,.int .i64 L,.int .i64 h,.int .i64 I,.int .i64 N,.int .i64 H,.bool F,.string ⟨D.toArray⟩,.bool w,.string ⟨y.toArray⟩,.string ⟨j.toArray⟩] 54)):=
      aJ _ _ _ none V (World.grownBy_alloc wr _ none) (λr e=>by cases e)
     obtain⟨fn,tmps,assign,body,T,hR⟩:=hY pre (m,(G,O,E,L,h,I,(N,H,(F,D),w,y),j),0) _ ah Q;have a2:Sem.run Tryz.prog (Instr.yield l #[Value.int .i64 m,Value.agg #[Value.int .i64 G,Value.int .i64 O,Value.int .i64 E,Value.int .i64 L,Value.int .i64 h,Value.int .i64 I,Value.int .i64 N,Value.int .i64 H,Value.bool F,Value.string ⟨D.toArray⟩,Value.bool w,Value.string ⟨y.toArray⟩,Value.string ⟨j.toArray⟩,Value.int .i64 0]]) (wr.alloc (.cells #[.int .i64 G,.int .i64 O,.int .i64 E,.int .i64 L,.int .i64 h,.int .i64 I,.int .i64 N,.int .i64 H,.bool F,.string ⟨D.toArray⟩,.bool w,.string ⟨y.toArray⟩,.string ⟨j.toArray⟩] 54))=.ok (.round l fn tmps assign body) (wr.alloc (.cells #[.int .i64 G,.int .i64 O,.int .i64 E,.int .i64 L,.int .i64 h,.int .i64 I,.int .i64 N,.int .i64 H,.bool F,.string ⟨D.toArray⟩,.bool w,.string ⟨y.toArray⟩,.string ⟨j.toArray⟩] 54)):=T;clear T;have hX:(wr.alloc (.cells #[.int .i64 G,.int .i64 O,.int .i64 E,.int .i64 L,.int .i64 h,.int .i64 I,.int .i64 N,.int .i64 H,.bool F,.string ⟨D.toArray⟩,.bool w,.string ⟨y.toArray⟩,.string ⟨j.toArray⟩] 54)).heap[wr.heap.size]?=some (.cells #[.int .i64 G,.int .i64 O,.int .i64 E,.int .i64 L,.int .i64 h,.int .i64 I,.int .i64 N,.int .i64 H,.bool F,.string ⟨D.toArray⟩,.bool w,.string ⟨y.toArray⟩,.string ⟨j.toArray⟩] 54):=World.alloc_heap_new wr _;have aj:KS n₁ U n₀ wr (wr.alloc (.cells #[.int .i64 G,.int .i64 O,.int .i64 E,.int .i64 L,.int .i64 h,.int .i64 I,.int .i64 N,.int .i64 H,.bool F,.string ⟨D.toArray⟩,.bool w,.string ⟨y.toArray⟩,.string ⟨j.toArray⟩] 54)):=.of_below ((Below.refl _ wr).alloc (zQ0 _) _) (by omega) (by omega)
     gi_wp2
     refine⟨by simp[Fence.wide],hR.mono ?_⟩;rintro e z (⟨rfl,S,R⟩|⟨rfl,M⟩)
     ·have g:=(R.t _ _ _ _ hX rfl (by omega)).trans hX;have a0:=a6.out.kept (aj.trans R);have b8:=a0.f;have z0:z.cell? ⟨wr.heap.size,0,none⟩=some (.int .i64 G):=by simp[World.cell?,g]
      have z1:z.cell? ⟨wr.heap.size,1,none⟩=some (.int .i64 O):=by simp[World.cell?,g]
      have z2:z.cell? ⟨wr.heap.size,2,none⟩=some (.int .i64 E):=by simp[World.cell?,g]
      have z3:z.cell? ⟨wr.heap.size,3,none⟩=some (.int .i64 L):=by simp[World.cell?,g]
      have z4:z.cell? ⟨wr.heap.size,4,none⟩=some (.int .i64 h):=by simp[World.cell?,g]
      have z5:z.cell? ⟨wr.heap.size,5,none⟩=some (.int .i64 I):=by simp[World.cell?,g]
      have z6:z.cell? ⟨wr.heap.size,6,none⟩=some (.int .i64 N):=by simp[World.cell?,g]
      have z7:z.cell? ⟨wr.heap.size,7,none⟩=some (.int .i64 H):=by simp[World.cell?,g]
      have z8:z.cell? ⟨wr.heap.size,8,none⟩=some (.bool F):=by simp[World.cell?,g]
      have z9:z.cell? ⟨wr.heap.size,9,none⟩=some (.string ⟨D.toArray⟩):=by simp[World.cell?,g]
      have av:z.cell? ⟨wr.heap.size,10,none⟩=some (.bool w):=by simp[World.cell?,g]
      have bf:z.cell? ⟨wr.heap.size,11,none⟩=some (.string ⟨y.toArray⟩):=by simp[World.cell?,g]
      have bd:z.cell? ⟨wr.heap.size,12,none⟩=some (.string ⟨j.toArray⟩):=by simp[World.cell?,g]
      have ae:=R.size;rw[World.size_alloc]at ae;have am:Hid (tW n₁ U n₀ b0 b1 b2 b3 first last above (some ⟨r,o,none⟩) c es z):=a0;clear a0 g hX a2
      gi_wp2
      refine⟨trivial,by simp[Fence.wide],(callsIn_wide.2 (Tryz.pg_prev h _ _ _ _ _ _ _ _ _ _ _ _ _)).mono ?_⟩;rintro e w' ⟨rfl,a4⟩
      gi_wp2
      refine⟨⟨k,h,pre++[(m,(G,O,E,L,h,I,(N,H,(F,D),w,y),j),0)],rfl,?_,?_,HN.out,aJ _ _ _ none S (oR a4 none) (λr e=>by cases e),am.out.kept (.of_below a4 (by omega) (by omega)),by have:=a4.size;omega⟩,?_⟩
      ·have:h<m:=by have this:h<first+i:=a3;omega
       omega
      ·have this:h<first+i:=a3;omega
      ·have:h<m:=by have this:h<first+i:=a3;omega
       simp only[intOf];omega
     ·gi_wp2
      refine bodyPost_ret (results_none rfl _ _ _) rfl ?_;exact⟨⟨_,rfl⟩,.inr ⟨_,by rw[<-HN.out];exact List.prefix_append _ _,M⟩⟩
  ·have al:bK first es above (k+1) m=[]:=by rw[bK,if_neg Z]
   gi_wp2
   go_end0
   have e:pre=bK first es above K last:=by rw[<-C.out,al,kO]
   exact⟨⟨_,rfl⟩,.inl (e▸V)⟩
end Go.Proofs
end
section
set_option linter.unusedSimpArgs false
set_option linter.unusedVariables false
namespace Go.Am
open Go.RowKit
end Go.Am
end
section
namespace Go.Am
open Go.RowKit
structure Up(B:Nat)(w w':World):Prop where
 size:w.heap.size<=w'.heap.size
 block: ∀k,k<B->w'.heap[k]?=w.heap[k]?
 os:w'.os=w.os
 output:w'.output=w.output
theorem Up.refl(B:Nat)(w:World):Up B w w:=⟨zQ0 _,λ_ _=>rfl,rfl,rfl⟩
theorem Up.trans{B:Nat}{a b c:World}(h:Up B a b)(k:Up B b c):Up B a c:=
 ⟨zQ1 h.size k.size,λi hi=>(k.block i hi).trans (h.block i hi),k.os.trans h.os,k.output.trans h.output⟩
theorem Up.mono{B e:Nat}{a b:World}(h:Up B a b)(g:e<=B):Up e a b:=⟨h.size,λk j=>h.block k (Nat.lt_of_lt_of_le j g),h.os,h.output⟩
theorem Up.of_below{B:Nat}{a b:World}(h:Below B a b):Up B a b:=⟨h.size,h.block,h.os,h.output⟩
theorem Up.drew{B:Nat}{a b:World}(h:Up B a b):Up B a b.drew:=⟨h.size,h.block,h.os,h.output⟩
theorem Up.alloc{B:Nat}{a b:World}(h:Up B a b)(e:B<=b.heap.size)(o:Obj):Up B a (b.alloc o):=
 h.trans (.of_below ((Below.refl B b).alloc e o))
theorem Up.setCell{B:Nat}{a b:World}(h:Up B a b){p:Addr}(hp:B<=p.block)(u:Value):Up B a (b.setCell p u):=
 h.trans (.of_below ((Below.refl B b).setCell hp u))
theorem Up.cellAt{B:Nat}{a b:World}(h:Up B a b){r o:Nat}(hr:r<B):cellAt b r o=cellAt a r o:=by unfold Go.Am.cellAt;rw[h.block r hr]
theorem MU{w:World}{r o:Nat}{v:Value}(h:cellAt w r o=some v):r<w.heap.size:=by
 grind [cellAt]
theorem J0e.keeps{w w':World}{C g:Nat->Nat->Prop}(hs: ∀r o u,C r o->cellAt w r o=some u->g r o/\cellAt w' r o=some u){x:PV}{v:Value}(h:J0e w C x v):J0e w' g x v:=by
 induction h with
 |b x=>exact .b x
 |i k n=>exact .i k n
 |s l=>exact .s l
 |np=>exact .np
 |nf=>exact .nf
 |sl0 e a c=>exact .sl0 e a c
 |sl esz rows r o cap vals h1 h2 h3 _ ih=>exact .sl esz rows r o cap vals h1 h2 (λi j row x hi q=>hs _ _ _ (h3 i j row x hi q).1 (h3 i j row x hi q).2) ih
 |slc esz rows a _ ih=>exact .slc esz rows a ih
theorem J0e.up{w w':World}{C g:Nat->Nat->Prop}(hu:Up w.heap.size w w')(j: ∀r o,C r o->r<w.heap.size->g r o){x:PV}{v:Value}(h:J0e w C x v):J0e w' g x v:=
 h.keeps λr o u k e=>⟨j r o k (MU e),by rw[hu.cellAt (MU e)];exact e⟩
theorem JHw{g g':Gh}{w w':World}(t:bE ⟨[],g,w⟩ ⟨[],g',w'⟩):Up w.heap.size w w':=by
 have n: ∀r o,¬Wr (⟨[],g,w⟩:Sn) r o:=λr o ⟨b,z⟩=>by grind [Wr1]
 obtain⟨h1,h2,h3,x,y⟩:=t.keep;refine⟨h1,λk v=>?_,x,y⟩;have j:w.heap[k]?=some w.heap[k]:=DW v;cases e:w.heap[k]with
 |cells c t' fz=>rw[e]at j;obtain⟨c',B,A,q⟩:=h2 k c t' fz j;have:c'=c:=Array.ext_getElem? λi=>q i (n k i);simp_all
 |_=>rw[e]at j;show w'.heap[k]?=w.heap[k]?;rw[j];exact h3 k _ j (λ_ _ _ h=>by cases h)
def ghC(C:Nat->Nat->Prop)(w:World):Gh:=pJ ⟨λ_=>none,λ_ _=>False⟩ λr o=>C r o/\r<w.heap.size
theorem JHy(C:Nat->Nat->Prop)(w:World):Inv ⟨[],ghC C w,w⟩:=
 ⟨λb cs h=>by simp at h,λb wm e r h=>by simp at h,λb1 b2 r o h=>by simp[Wr1]at h,λr o h=>by
  rcases h with h|h
  all_goals grind [Wr1]⟩
theorem JDJ{P:Program}{f:FuncId}{args:List AV}{r:AV}{blks:List Blk}(h:J61 P f args [] (r,blks))(hb:blks=[]){w:World}(C:Nat->Nat->Prop){vals:Array Value}(hl:args.length=vals.size)
  (ha: ∀(i:Nat) x v,args[i]?=some x->vals[i]?=some v->JK ⟨[],ghC C w,w⟩ x v):
  Calls P f vals w λe w'=> ∃v g',e=.returned v/\Up w.heap.size w w'/\JK ⟨[],g',w'⟩ r v/\ ∀r o,g'.C r o->C r o\/w.heap.size<=r:=by
 subst hb;refine(h.2 (ghC C w) w vals (JHy C w) hl ha).mono ?_;rintro e w' ⟨v,g',j,hi,t,g⟩;refine⟨v,g',j,JHw t,g,λr o k=>?_⟩;rcases t.cnew r o k with h|⟨b,hb⟩|h
 ·rcases h with h|h
  all_goals simp_all
 all_goals grind [Wr1]
theorem JEP{σ:List Blk}{g:Gh}{w w':World}(hi:Inv ⟨σ,g,w⟩)(hb:Up w.heap.size w w')(p:Nat->Nat->Prop)(hp: ∀r o,p r o->w.heap.size<=r/\r<w'.heap.size):
  Inv ⟨σ,pJ g p,w'⟩/\bE ⟨σ,g,w⟩ ⟨σ,pJ g p,w'⟩:=by
 have k: ∀(r:Nat) x,w.heap[r]?=some x->w'.heap[r]?=some x:=λr x h=>by rw[hb.block r (SM h)];exact h
 have j: ∀r o v,cellAt w r o=some v->cellAt w' r o=some v:=λr o v h=>by rw[hb.cellAt (MU h)];exact h
 have t:bE ⟨σ,g,w⟩ ⟨σ,pJ g p,w'⟩:=by
  refine⟨⟨hb.size,λr c e fz h=>⟨c,k r _ h,rfl,λ_ _=>rfl⟩,λr x h _=>k r x h,hb.os,hb.output⟩,λ_ _ h=>.inl h,λr o h=>?_,λr o ⟨b,hb⟩=>.inl ⟨b,hb⟩,zQ0 _,λ_ cs h=>⟨⟨cs,h,rfl⟩,rfl⟩,
   λ_ wm _ rows h=>⟨wm,rows,h,id,zQ0 _,λ_=>rfl⟩⟩
  rcases h with h|h
  all_goals grind
 refine⟨pZ hi t (λ_=>False) (λ_ _=>⟨rfl,rfl⟩) (λ_ r o v _ _ h=>j r o v h) (λ_ _ h=>h.elim) (λ_ _ _ _ h=>h.elim)
  (λ_ _ _ _ h=>h.elim) ?_ (λ_ _ _ _ h=>h.elim) ?_,t⟩
 intro r o j;rcases j with j|j;exact Nat.lt_of_lt_of_le (hi.const r o j).1 hb.size;grind;intro r o b j n _ h;rcases j with j|j;exact n j;have h1:r<w.heap.size:=wR hi b r o h;grind
end Go.Am
end
section
namespace Go.Proofs
open Go.Shelf Go.RowKit Go.Lib Go.Am
set_option linter.unusedSimpArgs false
set_option linter.unusedVariables false
theorem Ye{F:Fence}{n:Nat}{P:Program}(w:World){ops:Array Oper}{rest:List Oper}{o:Oper}{a:Act}{Q:Exit->Act->World->Prop}(q:o.guard=none)(s x:Operand)(t:TypeId)
  (e:o.op=Op.call {callee:=Callee.builtin Builtin.append,args:= #[s,x],argTypes:= #[t,t]}) (v j h:Value) (w':World) (hs:a.eval s=v) (hx:a.eval x=j)
  (g:(Builtin.append_ #[t,t] o.type #[v,j]).run P w=.ok h w') (r:wpListIn F n P ops Q rest (a.put o.dst h) w'):wpListIn F n P ops Q (o::rest) a w:=by
 refine wpListIn_plain q λK k=>?_;unfold Oper.wpIn;refine⟨?_,?_⟩;simp[Oper.about,e,resolve,Target.leads,HG];rw[Oper.semAt_plain F _ _ (by rw[e];intro c hc';cases hc')];simp[execOp,e,resolve,invoke,builtin,hs,hx,g,Result.andThen];exact k _ _ r
theorem Tryz.pg_size:(Tryz.prog.info? 54).map (·.size)=some 13:=by kernel_rfl
theorem Tryz.pg_bytes:(Tryz.prog.info? 54).map (·.bytes)=some 128:=by kernel_rfl
theorem Tryz.pg_cells:(Tryz.prog.info? 54).map (λi=>i.zero.map (·.cells.size))=some (some 13):=by kernel_rfl
theorem Tryz.pg_append(W:World)(B:Nat)(v:Value)(n:Nat)(xs:List Value)(h:W.ownsRow B 54 13 v n xs)(J:n=0->v=.slice none 0 0)(D:Addr)(news:List Value)(hl:news.length=13)
  (q: ∀j u,news[j]?=some u->W.cell? (D.add j)=some u) (h1: ∀u∈news,u.oneCell'=true) (hn:n<1000000) (K:B<=W.heap.size) (ty:TypeId):
  ∃x W',(Builtin.append_ #[26,26] ty #[v,.slice (some D) 1 1]).run Tryz.prog W=.ok x W'/\W'.ownsRow B 54 13 x (n+1) (xs++news)/\W.grownBy W' v.ownBlock/\
   ∀(r:Nat) c t fz,W.heap[r]?=some (.cells c t fz)->c.size=13->W'.heap[r]?=W.heap[r]?:=by
 obtain⟨E,w,A⟩:=gM.1 Tryz.pg_size;have F:E.bytes=128:=by have:=Tryz.pg_bytes;rw[w]at this;simpa using this
 obtain⟨z,y,C⟩: ∃z,E.zero=some z/\z.cells.size=13:=by have:=Tryz.pg_cells;rw[w]at this;simp at this;exact this
 rcases h.2 with⟨rfl,h0⟩|⟨g,cap,U,rfl,V,R,Y,hcm,hcs,Q⟩;obtain⟨x,W',L,M,G,T⟩:=run_append_own (P:=Tryz.prog) W B 26 ty 54 E z 13 128 Tryz.underlying26 w y A F C (by decide) _ n xs h D 1 1 news (by omega) q h1 (by simp only[maxLen];omega) (by omega) K;exact⟨x,W',L,M,G,λr c t fz o _=>G.block r (pI.1 o).1 (by simp[Value.ownBlock])⟩;have Z:n≠0:=λe=>by have:=J e;cases this
 by_cases O:n+1<=cap;obtain⟨x,W',L,M,G,T⟩:=run_append_own (P:=Tryz.prog) W B 26 ty 54 E z 13 128 Tryz.underlying26 w y A F C (by decide) _ n xs h D 1 1 news (by omega) q h1 (by simp only[maxLen];omega) (by omega) K;refine⟨x,W',L,M,G,λr c t fz o hc=>G.block r (pI.1 o).1 (λe=>?_)⟩;simp only[Value.ownBlock,Option.some.injEq]at e;subst e;rw[R]at o;injection o with o;injection o with o;subst o;omega;have H: ∀j u,xs[j]?=some u->W.cell? ((⟨g,0,none⟩:Addr).add j)=some u:=h.cells (g:=g) rfl;have o:=run_append_grow (P:=Tryz.prog) W 26 ty 54 E z Tryz.underlying26 w y ⟨g,0,none⟩ n cap xs (by rw[A];exact h.1) H D 1 1 news (by omega) q (by omega) (by omega) (growslice_fits_wide (by omega) (by rw[F];omega));have N:=grownCap_ge W (n+1) cap 54;have I:grownCap W (n+1) cap 54<=maxLen:=grownCap_le_maxLen W (n+1) cap 54 (by simp only[maxLen];omega);have hlen:(xs++news).length=(n+1)*13:=by rw[dS,h.1,hl];omega
 refine⟨_,_,o,⟨hlen,.inr ⟨W.heap.size,_,_,rfl,K,heap_alloc_new W.drew _,N,I,?_,?_⟩⟩,⟨rfl,rfl,rfl,by simp,λk S _=>heap_alloc_old W.drew _ _ S⟩,λr c t fz o _=>heap_alloc_old W.drew _ _ (pI.1 o).1⟩;simp only[Array.size_append,List.size_toArray,size_zeroCells,C,h.1,hl];omega;simp only[Array.toList_append,fM];rw[<-fM,<-hlen];exact List.take_left
def okF(page:Int)(x:FO):Prop:=x.2.2=0/\(x.2.1.2.1=1\/x.2.1.2.1=2)/\x.2.1.2.2.2.2.2.2.1.1=page
def aN(x:FO):Int:=if x.2.2=0 then 13 else x.2.2
def wP(last:Int)(l:List FO):Int:=l.foldl (λ_ x=>x.2.1.2.2.2.2.1) last
def dH(l:List FO):List Value:=(l.map λx=>enE x.2.1).flatten
theorem JAJ(last:Int)(l:List FO)(x:FO):wP last (l++[x])=x.2.1.2.2.2.2.1:=by simp[wP]
theorem Gg(l:List FO)(x:FO):dH (l++[x])=dH l++enE x.2.1:=by simp[dH]
theorem us{β:Type}{n B:Nat}{w:World}(hn:n<=w.heap.size)(o:n<=B):OwnFrom B (fun(_:β) W=>Up n w W):=λ_ X Y row h g j=>
 h.trans ⟨g.size,λk q=>g.block k (by have:=h.size;omega) (λe=>by have:=(j k e.symm).1;omega),g.os,g.output⟩
theorem JDX{β:Type}(b:Nat)(c:Array Value)(t:TypeId):Own (fun(_:β) W=>W.heap[b]?=some (.cells c t (0,0))):=λs X Y row h k g=>
 (k.block b (pI.1 h).1 (λe=>by obtain⟨o,j,n⟩:=g b e.symm;rw[h]at j;cases j;cases n)).trans h
end Go.Proofs
end
section
namespace Go.Proofs
open Go.Shelf Go.RowKit Go.Lib Go.Am
set_option linter.unusedSimpArgs false
set_option linter.unusedVariables false
structure EJ(w W:World)(v0 v1 v2:Value)(page:Int):Prop where
 up:Up w.heap.size w W
 size:w.heap.size+4<=W.heap.size
 l:W.heap[w.heap.size]?=some (.cells #[v0,v1,v2] 28 (0,0))
 p:Boxed W (w.heap.size+1) 3 (.int .i64 page)
 o:Boxed W (w.heap.size+1+1) 26 (.slice none 0 0)
 e:Boxed W (w.heap.size+1+1+1) 44 (.int .i64 0)
theorem XN(w:World)(v0 v1 v2:Value)(page:Int):EJ w ((((w.alloc (.cells #[v0,v1,v2] 28)).alloc (.cells #[.int .i64 page] 3)).alloc (.cells #[.slice none 0 0] 26)).alloc (.cells #[.int .i64 0] 44)) v0 v1 v2 page where
 up:=(((((Up.refl _ w).alloc (zQ0 _) _).alloc (by simp) _).alloc (by simp;omega) _).alloc (by simp;omega) _)
 size:=by simp
 l:=by rw[Below.heap_alloc _ _ _ (by simp;omega),Below.heap_alloc _ _ _ (by simp;omega),Below.heap_alloc _ _ _ (by simp)];exact World.alloc_heap_new w _
 p:=by have:=((Boxed.new (w.alloc (.cells #[v0,v1,v2] 28)) 3 (.int .i64 page)).alloc (.cells #[.slice none 0 0] 26)).alloc (.cells #[.int .i64 0] 44);simpa using this
 o:=by have:=(Boxed.new ((w.alloc (.cells #[v0,v1,v2] 28)).alloc (.cells #[.int .i64 page] 3)) 26 (.slice none 0 0)).alloc (.cells #[.int .i64 0] 44);simpa using this
 e:=by have:=Boxed.new (((w.alloc (.cells #[v0,v1,v2] 28)).alloc (.cells #[.int .i64 page] 3)).alloc (.cells #[.slice none 0 0] 26)) 44 (.int .i64 0);simpa using this
theorem EJ.more{w W W':World}{v0 v1 v2:Value}{page:Int}(h:EJ w W v0 v1 v2 page)(hu:Up W.heap.size W W'):EJ w W' v0 v1 v2 page where
 up:=h.up.trans (hu.mono (by have:=h.size;omega))
 size:=zQ1 h.size hu.size
 l:=(hu.block _ (by have:=h.size;omega)).trans h.l
 p:=(hu.block _ h.p.lt).trans h.p
 o:=(hu.block _ h.o.lt).trans h.o
 e:=(hu.block _ h.e.lt).trans h.e
theorem EJ.facts{w W:World}{v0 v1 v2:Value}{page:Int}(h:EJ w W v0 v1 v2 page)(E:Int):
  W.cell? ⟨w.heap.size+1,0,none⟩=some (.int .i64 page)/\W.cell? ⟨w.heap.size+1+1,0,none⟩=some (.slice none 0 0)/\W.frozen? ⟨w.heap.size+1+1,0,none⟩=false/\
  (W.setCell ⟨w.heap.size+1+1,0,none⟩ (.slice none 0 0)).cell? ⟨w.heap.size+1+1+1,0,none⟩=some (.int .i64 0)/\(W.setCell ⟨w.heap.size+1+1,0,none⟩ (.slice none 0 0)).frozen? ⟨w.heap.size+1+1+1,0,none⟩=false/\
  ((W.setCell ⟨w.heap.size+1+1,0,none⟩ (.slice none 0 0)).setCell ⟨w.heap.size+1+1+1,0,none⟩ (.int .i64 E)).cell? ⟨w.heap.size+1+1,0,none⟩=some (.slice none 0 0)/\
  ((W.setCell ⟨w.heap.size+1+1,0,none⟩ (.slice none 0 0)).setCell ⟨w.heap.size+1+1+1,0,none⟩ (.int .i64 E)).cell? ⟨w.heap.size+1+1+1,0,none⟩=some (.int .i64 E)/\
  Up w.heap.size w ((W.setCell ⟨w.heap.size+1+1,0,none⟩ (.slice none 0 0)).setCell ⟨w.heap.size+1+1+1,0,none⟩ (.int .i64 E)):=
 have k:=h.e.kept (grownBy_setCell' W (w.heap.size+1+1) (.slice none 0 0)) (by simp)
 ⟨h.p.cell,h.o.cell,h.o.frozen,k.cell,k.frozen,((h.o.set (.slice none 0 0)).kept (grownBy_setCell' _ (w.heap.size+1+1+1) (.int .i64 E)) (by simp)).cell,(k.set (.int .i64 E)).cell,
  (h.up.setCell (by show w.heap.size<=w.heap.size+1+1;omega) _).setCell (by show w.heap.size<=w.heap.size+1+1+1;omega) _⟩
set_option maxRecDepth 100000 in
set_option maxHeartbeats 4000000 in
theorem Tryz.pg_bad(page last above:Int)(w:World)(v0 v1 v2:Value)
  (j: ∀W,Up w.heap.size w W->Calls Tryz.prog 27 #[.agg #[v0,v1,v2]] W λe W'=>e=.returned (.bool false)/\Up W.heap.size W W'):
  Calls Tryz.prog 10 #[.agg #[v0,v1,v2],.int .i64 page,.int .i64 last,.int .i64 above] w λe w'=>e=.returned (.tuple #[.slice none 0 0,.int .i64 26])/\Up w.heap.size w w':=by
 have h:=XN w v0 v1 v2 page
 go_enter Tryz.func10,Tryz.ntmps10
 go_wp2_with (go_at_call 27;refine(j _ h.up).mono ?_;rintro e A ⟨rfl,o⟩;obtain⟨y,r,q,x,z,n,k,g⟩:=(h.more o).facts 26)
 refine bodyPost_ret (v:=.tuple #[.slice none 0 0,.int .i64 26]) ?_ rfl ⟨rfl,g⟩;simp[results,Tryz.f10,go_sem,n,k]
set_option maxRecDepth 100000 in
set_option maxHeartbeats 4000000 in
theorem Tryz.pg_range(page last above:Int)(w:World)(v0 v1 v2:Value)(hr:page<0\/page>=64\/last<0\/above<0)
  (o: ∀W,Up w.heap.size w W->Calls Tryz.prog 27 #[.agg #[v0,v1,v2]] W λe W'=>e=.returned (.bool true)/\Up W.heap.size W W'):
  Calls Tryz.prog 10 #[.agg #[v0,v1,v2],.int .i64 page,.int .i64 last,.int .i64 above] w λe w'=>e=.returned (.tuple #[.slice none 0 0,.int .i64 1])/\Up w.heap.size w w':=by
 have q:=XN w v0 v1 v2 page
 go_enter Tryz.func10,Tryz.ntmps10
 have fin: ∀h,Up _ _ h->_:=λh j=>(q.more (W':=h) j).facts 1;by_cases h1:page<0
 ·go_wp2_with (go_at_call 27;refine(o _ q.up).mono ?_;rintro e h ⟨rfl,j⟩;obtain⟨z,x,r,y,A,n,k,g⟩:=fin h j)
  refine bodyPost_ret (v:=.tuple #[.slice none 0 0,.int .i64 1]) ?_ rfl ⟨rfl,g⟩;simp[results,Tryz.f10,go_sem,n,k]
 ·by_cases h2:page>=64
  ·go_wp2_with (go_at_call 27;refine(o _ q.up).mono ?_;rintro e h ⟨rfl,j⟩;obtain⟨z,x,r,y,A,n,k,g⟩:=fin h j)
   refine bodyPost_ret (v:=.tuple #[.slice none 0 0,.int .i64 1]) ?_ rfl ⟨rfl,g⟩;simp[results,Tryz.f10,go_sem,n,k]
  ·by_cases h3:last<0
   ·go_wp2_with (go_at_call 27;refine(o _ q.up).mono ?_;rintro e h ⟨rfl,j⟩;obtain⟨z,x,r,y,A,n,k,g⟩:=fin h j)
    refine bodyPost_ret (v:=.tuple #[.slice none 0 0,.int .i64 1]) ?_ rfl ⟨rfl,g⟩;simp[results,Tryz.f10,go_sem,n,k]
   ·have B:above<0:=by omega
    go_wp2_with (go_at_call 27;refine(o _ q.up).mono ?_;rintro e h ⟨rfl,j⟩;obtain⟨z,x,r,y,A,n,k,g⟩:=fin h j)
    refine bodyPost_ret (v:=.tuple #[.slice none 0 0,.int .i64 1]) ?_ rfl ⟨rfl,g⟩;simp[results,Tryz.f10,go_sem,n,k]
end Go.Proofs
end
section
namespace Go.Proofs
open Go.Shelf Go.RowKit Go.Lib Go.Am Go.Sort
set_option linter.unusedSimpArgs false
set_option linter.unusedVariables false
def Tryz.revLR:Ren where
 f:=fun
  |35=>31
  |n=>n
 t:=fun
  |22=>26
  |23=>54
  |n=>n
 g:=λn=>n
theorem Tryz.revL:SlLaysE0.n35 Tryz.prog Tryz.revLR where
 mixed:=by kernel_rfl
 f35:=⟨"slices.Reverse[[]pagemend/api.Entry,pagemend/api.Entry]",by decide,by kernel_rfl⟩
 t0:=Tryz.underlying0
 a0:=Tryz.isAgg0
 z0:=Tryz.sizeOf0
 v0:=Tryz.zeroValue0
 t3:=Tryz.underlying3
 a3:=Tryz.isAgg3
 z3:=Tryz.sizeOf3
 v3:=Tryz.zeroValue3
 t4:=Tryz.underlying4
 a4:=Tryz.isAgg4
 z4:=Tryz.sizeOf4
 v4:=Tryz.zeroValue4
 t22:=Tryz.underlying26
 a22:=Tryz.isAgg26
 z22:=Tryz.sizeOf26
 v22:=Tryz.zeroValue26
theorem FD(x:EN):(enE x).length=13:=rfl
theorem JID(x:EN): ∀v∈enE x,v.oneCell'=true:=by intro v e;simp only[enE,eR,List.not_mem_nil,or_false]at e;rcases e with rfl|rfl|rfl|rfl|rfl|rfl|rfl|rfl|rfl|rfl|rfl|rfl|rfl<;>rfl
theorem Ek: ∀(l:List EN) (j:Nat),j<l.length*13-> ∃x,l[j/13]?=some x/\((l.map enE).flatten)[j]?=(enE x)[j%13]?
 |[],j,h=>by simp at h
 |x::l,j,h=>by
  rw[bP,kR];by_cases e:j<13;exact⟨x,by rw[Nat.div_eq_of_lt e];rfl,by rw[rD (by rw[FD];exact e),Nat.mod_eq_of_lt e]⟩;obtain⟨y,h1,h2⟩:=Ek l (j-13) (by simp at h;omega);refine⟨y,?_,?_⟩;rw[show j/13=(j-13)/13+1 by omega];exact h1;rw[mM (by rw[FD];omega),FD,h2,show(j-13)%13=j%13 by omega]
theorem Tryz.pg_reverse(W:World)(B:Nat)(v:Value)(l:List EN)(C:W.ownsRow B 54 13 v l.length ((l.map enE).flatten))(hlen:l.length<1000000):
  Calls Tryz.prog 31 #[v] W λe W'=>e=.returned (.tuple #[])/\W.grownBy W' v.ownBlock/\(∀(k:Nat) o,W.heap[k]?=some o->o.isCells=false->W'.heap[k]?=some o)/\
   ((l=[]/\v=.slice none 0 0)\/ ∃g cap,v=.slice (some ⟨g,0,none⟩) l.length cap/\l.length<=cap/\B<=g/\g<W'.heap.size/\ ∀(i:Nat) x,l.reverse[i]?=some x-> ∀(j:Nat) u,(enE x)[j]?=some u->W'.cell? ⟨g,i*13+j,none⟩=some u):=by
 rcases C.2 with⟨rfl,h0⟩|⟨g,cap,E,rfl,F,y,G,hcm,hcs,z⟩;have N:l=[]:=List.eq_nil_of_length_eq_zero h0;refine(AnyQ.slices_Reverse_empty Tryz.revL none 0 W).mono ?_;rintro e W' ⟨rfl,rfl⟩;exact⟨rfl,World.grownBy.refl _ _,λ_ _ h _=>h,.inl ⟨N,rfl⟩⟩;have J:g<W.heap.size:=(pI.1 y).1;have H:HoldsK enE 13 W g 0 l.toArray:=by
  intro j w;simp only[size_flatK,List.size_toArray]at w;rw[get_flatK enE 13 _ j (by simpa using w),lO];refine⟨?_,by simp[World.frozen?,y]⟩;obtain⟨x,h1,h2⟩:=Ek l j w;rw[<-z,UM,if_pos (by omega)]at h2;rw[cell_of_heap y];have O:l.toArray[j/13]! =x:=by simp[h1]
  have A:j%13<(enE x).length:=by rw[FD];omega
  rw[O];show E[j]?=some ((enE x)[j%13]!);rw[getElem!_pos (enE x) (j%13) A];rw[zQ9 A,TP]at h2;exact h2
 have K:=AnyQ.slices_Reverse Tryz.revL 13 Tryz.isAgg54 Tryz.sizeOf54 enE FD JID g 0 cap l.toArray W H (by simp;omega);rw[List.size_toArray]at K;refine K.mono ?_;rintro e W' ⟨rfl,n,rfl⟩;have L:=holdsK_putRowK enE 13 (Sort.ahead W n) g 0 l.toArray l.toArray.reverse (holdsK_ahead enE 13 W n g 0 _ H) (by simp);have r:W.grownBy (putRowK enE 13 (Sort.ahead W n) g 0 l.toArray.reverse) (some g):=by refine⟨rfl,rfl,rfl,by simp[putRowK],λk q D=>?_⟩;have:g≠k:=λe=>D (by rw[e]);simp[putRowK,putRow,mapBlock,Sort.ahead,Array.getElem?_modify,this]
 refine⟨rfl,r,λk o q M=>?_,.inr ⟨g,cap,rfl,G,F,Nat.lt_of_lt_of_le J r.size,λi x hi j u w=>?_⟩⟩;refine(r.block k (pI.1 q).1 (λe=>?_)).trans q;injection e with e;subst e;rw[y]at q;injection q with q;subst q;cases M;have I:i<l.toArray.reverse.size:=(by have:=(dK.1 hi).1;simpa using this);have:=HoldsK.cells L FD I j u (by
  rw[show l.toArray.reverse[i]! =x by
   have:l.toArray.reverse=l.reverse.toArray:=by simp
   rw[this];simp[hi]]
  exact w)
 rw[Addr.add_lit,lO]at this;exact this
end Go.Proofs
end
section
namespace Go.Proofs
open Go.Shelf Go.RowKit Go.Lib Go.Am
set_option linter.unusedSimpArgs false
set_option linter.unusedVariables false
attribute [local go_sem] Oper.semAt_some
def kc(w w':World)(v:Value)(l:List EN):Prop:=(l=[]/\v=.slice none 0 0)\/ ∃g cap,v=.slice (some ⟨g,0,none⟩) l.length cap/\l.length<=cap/\w.heap.size<=g/\g<w'.heap.size/\ ∀(i:Nat) x,l[i]?=some x-> ∀(j:Nat) u,(enE x)[j]?=some u->w'.cell? ⟨g,i*13+j,none⟩=some u
structure PgI(w W0:World)(m:Nat)(page last:Int)(pre:List FO)(W:World):Prop where
 ok: ∀x∈pre,okF page x
 met:Boxed W (m+1) 3 (.int .i64 (wP last pre))
 out: ∃v,Boxed W m 26 v/\W.ownsRow W0.heap.size 54 13 v pre.length (dH pre)/\(pre.length=0->v=.slice none 0 0)
 p:Boxed W (w.heap.size+1) 3 (.int .i64 page)
 o:Boxed W (w.heap.size+1+1) 26 (.slice none 0 0)
 e:Boxed W (w.heap.size+1+1+1) 44 (.int .i64 0)
 up:Up w.heap.size w W
 size:W0.heap.size<=W.heap.size
theorem pq(w W0:World)(m:Nat)(page last:Int)(h:w.heap.size<=W0.heap.size):OwnFrom W0.heap.size (PgI w W0 m page last):=λpre X Y row g j k=>
 ⟨g.ok,(Own.from (boxed_own (m+1) 3 (λpre=>Value.int .i64 (wP last pre))) _) pre X Y row g.met j k,
  (Own.from (holdsRow_own W0.heap.size m 26 54 13 (λpre:List FO=>pre.length) dH (λpre v=>pre.length=0->v=.slice none 0 0)) _) pre X Y row g.out j k,
  (Own.from (boxed_own (w.heap.size+1) 3 (fun(_:List FO)=>Value.int .i64 page)) _) pre X Y row g.p j k,
  (Own.from (boxed_own (w.heap.size+1+1) 26 (fun(_:List FO)=>Value.slice none 0 0)) _) pre X Y row g.o j k,
  (Own.from (boxed_own (w.heap.size+1+1+1) 44 (fun(_:List FO)=>Value.int .i64 0)) _) pre X Y row g.e j k,
  us (β:=List FO) (zQ0 _) h pre X Y row g.up j k,zQ1 g.size j.size⟩
structure PgX(w W0:World)(page:Int)(cd:Code)(pre:List FO)(W:World):Prop where
 cd:cd=.ret
 x: ∃pre' x,pre=pre'++[x]/\(∀x∈pre',okF page x)/\ ¬okF page x/\Boxed W (w.heap.size+1+1+1) 44 (.int .i64 (aN x))
 o:Boxed W (w.heap.size+1+1) 26 (.slice none 0 0)
 up:Up w.heap.size w W
 size:W0.heap.size<=W.heap.size
theorem JIf(w W0:World)(page:Int)(cd:Code)(h:w.heap.size<=W0.heap.size):OwnFrom W0.heap.size (PgX w W0 page cd):=λpre X Y row e g j=>
 ⟨e.cd,by
  obtain⟨pre',x,r,q,k,n⟩:=e.x;exact⟨pre',x,r,q,k,(Own.from (boxed_own (w.heap.size+1+1+1) 44 (fun(_:List FO)=>Value.int .i64 (aN x))) _) pre X Y row n g j⟩,
  (Own.from (boxed_own (w.heap.size+1+1) 26 (fun(_:List FO)=>Value.slice none 0 0)) _) pre X Y row e.o g j,
  us (β:=List FO) (zQ0 _) h pre X Y row e.up g j,zQ1 e.size g.size⟩
theorem JEi{n₁ m n₀:Nat}(W:World)(l:Nat)(o j:Obj)(hl:n₀<=l)(h1:n₁<=l)(h:W.heap[l]?=some o)(hc:o.isCells=false):KS n₁ m n₀ W (W.putObj l j):=
 ⟨(grownBy_putObj' W l j).size,λr g=>World.putObj_heap_other (by omega),λr c t fz g _ _=>World.putObj_heap_other (λe=>by subst e;rw[h]at g;injection g with g;subst g;cases hc)⟩
theorem PgX.drew{w W0 W:World}{page:Int}{cd:Code}{pre:List FO}(h:PgX w W0 page cd pre W):PgX w W0 page cd pre W.drew:=⟨h.cd,h.x,h.o,h.up.drew,h.size⟩
theorem YX{w W0 W V:World}{m:Nat}{page last:Int}{pre:List FO}(hi:PgI w W0 m page last pre W)(hb:Below W.heap.size W V)(x:FO)(hx: ¬okF page x)(E:Int)(k:aN x=E)(B:Nat):
  KeepsFrom B W ((V.setCell ⟨w.heap.size+1+1,0,none⟩ (.slice none 0 0)).setCell ⟨w.heap.size+1+1+1,0,none⟩ (.int .i64 E))/\PgX w W0 page .ret (pre++[x]) ((V.setCell ⟨w.heap.size+1+1,0,none⟩ (.slice none 0 0)).setCell ⟨w.heap.size+1+1+1,0,none⟩ (.int .i64 E)):=by
 subst k;have g:=hi.o.kept (oR hb none) (by simp);have n:=hi.e.kept (oR hb none) (by simp);have q:=hb.size;refine⟨((KeepsOthers.of_grownBy (oR hb none) (λj o h _=>by cases h)).trans ((KeepsOthers.setCell _ _ _).trans (KeepsOthers.setCell _ _ _))).from _,rfl,⟨pre,x,rfl,hi.ok,hx,?_⟩,?_,?_,?_⟩;exact(n.kept (grownBy_setCell' V (w.heap.size+1+1) (.slice none 0 0)) (by simp)).set _;exact(g.set (.slice none 0 0)).kept (grownBy_setCell' _ (w.heap.size+1+1+1) _) (by simp);exact((hi.up.trans ((Up.of_below hb).mono hi.up.size)).setCell (by show w.heap.size<=w.heap.size+1+1;omega) _).setCell (by show w.heap.size<=w.heap.size+1+1+1;omega) _;have:=hi.size;simp[World.setCell];omega
theorem MP{B:Nat}{a b:World}{row:Option Nat}(h:a.grownBy b row)(ha:B<=a.heap.size)(hr: ∀k,row=some k->B<=k):Up B a b:=
 ⟨h.size,λk g=>h.block k (by omega) (λe=>by have:=hr k e.symm;omega),h.os,h.output⟩
theorem JI0{w W0 W A n:World}{m:Nat}{page last:Int}{pre:List FO}(hi:PgI w W0 m page last pre W)(z:Below W.heap.size W A)(hm:w.heap.size+4<=m)(a6:W0.heap.size=m+6)(x:FO)(hx:okF page x)(v:Value)(bv:Boxed W m 26 v)
  (D:Obj) (F:((A.setCell ⟨m+1,0,none⟩ (.int .i64 x.2.1.2.2.2.2.1)).alloc D).ownsRow W0.heap.size 54 13 v pre.length (dH pre)) (q:Value)
  (H:n.ownsRow W0.heap.size 54 13 q (pre.length+1) (dH pre++enE x.2.1)) (E:((A.setCell ⟨m+1,0,none⟩ (.int .i64 x.2.1.2.2.2.2.1)).alloc D).grownBy n v.ownBlock)
  (R: ∀(r:Nat) c t fz,((A.setCell ⟨m+1,0,none⟩ (.int .i64 x.2.1.2.2.2.2.1)).alloc D).heap[r]?=some (.cells c t fz)->c.size=13->n.heap[r]?=((A.setCell ⟨m+1,0,none⟩ (.int .i64 x.2.1.2.2.2.2.1)).alloc D).heap[r]?):
  KeepsFrom W0.heap.size W (n.setCell ⟨m,0,none⟩ q)/\KS w.heap.size (m+2) (m+6) W (n.setCell ⟨m,0,none⟩ q)/\PgI w W0 m page last (pre++[x]) (n.setCell ⟨m,0,none⟩ q):=by
 have a7:=hi.size;have a8:=z.size;have G: ∀(r:Nat),r≠m+1->(A.setCell ⟨m+1,0,none⟩ (.int .i64 x.2.1.2.2.2.2.1)).heap[r]?=A.heap[r]?:=λr h=>Below.heap_setCell _ _ _ _ h;have Z:(A.setCell ⟨m+1,0,none⟩ (.int .i64 x.2.1.2.2.2.2.1)).heap.size=A.heap.size:=by simp[World.setCell]
 generalize M:A.setCell ⟨m+1,0,none⟩ (.int .i64 x.2.1.2.2.2.2.1)=C at F E R G Z;have I:=F.lt;have V:=E.size;rw[World.size_alloc]at V;have J: ∀(r:Nat),r<C.heap.size->some r≠v.ownBlock->n.heap[r]?=C.heap[r]?:=λr h hn=>(E.block r (by rw[World.size_alloc];omega) hn).trans (Below.heap_alloc C D r h);have L: ∀(r:Nat),r<m+6->some r≠v.ownBlock:=λr h e=>by have:=(I r e.symm).1;omega
 have K: ∀(r:Nat),r≠m->(n.setCell ⟨m,0,none⟩ q).heap[r]?=n.heap[r]?:=λr h=>Below.heap_setCell _ _ _ _ h;have aa:(n.setCell ⟨m,0,none⟩ q).heap.size=n.heap.size:=by simp[World.setCell]
 have keep: ∀(r:Nat),r<W.heap.size->r<m+6->r≠m->r≠m+1->(n.setCell ⟨m,0,none⟩ q).heap[r]?=W.heap[r]?:=λr h h1 h2 h3=>
  (K r h2).trans ((J r (by omega) (L r h1)).trans ((G r h3).trans (z.block r h)))
 have Y:Boxed n m 26 v:=(J m (by omega) (L m (by omega))).trans ((G m (by omega)).trans ((z.block m bv.lt).trans bv));have N:Boxed C (m+1) 3 (.int .i64 x.2.1.2.2.2.2.1):=by rw[<-M];exact(hi.met.kept (oR z none) (by simp)).set _
 have a0:=H.lt;refine⟨?_,⟨by omega,λr U=>keep r (by have:=hi.up.size;omega) (by omega) (by omega) (by omega),λr c t fz U hc hn=>?_⟩,?_⟩;refine KeepsOthers.from ?_ _;refine(KeepsOthers.of_grownBy (oR z none) (λj o h _=>by cases h)).trans (KeepsOthers.trans (B:=C) ?_ ((KeepsOthers.alloc C D).trans ((KeepsOthers.of_grownBy E ?_).trans (KeepsOthers.setCell _ _ _))));rw[<-M];exact KeepsOthers.setCell _ _ _;intro j o Q P;rcases F.2 with⟨rfl,_⟩|⟨g,cap,a9,rfl,_,a2,_⟩;cases Q;injection Q with Q;subst Q;rw[a2]at P;injection P with P;subst P;rfl;have a1:=(pI.1 U).1;have e5:C.heap[r]?=W.heap[r]?:=(G r (by omega)).trans (z.block r a1);have S:(C.alloc D).heap[r]?=W.heap[r]?:=(Below.heap_alloc C D r (by omega)).trans e5;exact(K r (by omega)).trans ((R r c t fz (S.trans U) hc).trans S);refine⟨λy O=>?_,?_,⟨q,Y.set q,?_,λh=>by simp at h⟩,?_,?_,?_,?_,by omega⟩;rcases cK.1 O with O|O;exact hi.ok y O;rw[jK.1 O];exact hx;rw[JAJ];exact(K (m+1) (by omega)).trans ((J (m+1) N.lt (L _ (by omega))).trans N);rw[dS,Gg];exact H.kept (grownBy_setCell' n m q) (by
  cases e:q.ownBlock with
  |none=>exact .inl rfl
  |some k=>exact .inr (λh=>by injection h with h;have:=(a0 k e).1;omega))
 exact(keep _ hi.p.lt (by omega) (by omega) (by omega)).trans hi.p;exact(keep _ hi.o.lt (by omega) (by omega) (by omega)).trans hi.o;exact(keep _ hi.e.lt (by omega) (by omega) (by omega)).trans hi.e;have T:Up w.heap.size w C:=by rw[<-M];exact(hi.up.trans ((Up.of_below z).mono hi.up.size)).setCell (by show w.heap.size<=m+1;omega) _
 exact((T.alloc T.size D).trans (MP E (by rw[World.size_alloc];have:=T.size;omega) (λk e=>by have:=(I k e).1;omega))).setCell (by show w.heap.size<=m;omega) _
theorem uc(page above:Int)(x:FO)(rest:List FO)(hx: ¬okF page x): ∀(pre:List FO) (met:Int) (out:List EN),(∀y∈pre,okF page y)->lQ page above (pre++x::rest) met out=([],aN x)
 |[],met,out,_=>by
  rw[lP,lQ];by_cases h1:x.2.2=0;rw[if_neg (λh=>h h1),if_pos,aN,if_pos h1];exact Classical.byContradiction λh=>hx ⟨h1,Classical.byContradiction λh2=>h (.inl h2),Classical.byContradiction λh2=>h (.inr h2)⟩;rw[if_pos h1,aN,if_neg h1]
 |y::pre,met,out,h=>by obtain⟨h1,h2,h3⟩:=h y List.mem_cons_self;rw[tK,lQ,if_neg (λh=>h h1),if_neg (λh=>h.elim (λh=>h h2) (λh=>h h3))];exact uc page above x rest hx pre _ _ λz e=>h z (yQ _ e)
theorem sb(page above:Int): ∀(l:List FO) (met:Int) (out:List EN),(∀y∈l,okF page y)->lQ page above l met out=if wP met l<above then([],13)else((out++l.map (·.2.1)).reverse,0)|[],met,out,_=>by rw[lQ];simp[wP]|y::l,met,out,h=>by obtain⟨h1,h2,h3⟩:=h y List.mem_cons_self;rw[lQ,if_neg (λh=>h h1),if_neg (λh=>h.elim (λh=>h h2) (λh=>h h3)),sb page above l _ _ λz e=>h z (yQ _ e)];simp[wP]
set_option maxRecDepth 100000 in
set_option maxHeartbeats 8000000 in
theorem Tryz.pg_main(first B:Int)(es:List EN)(a:Option Addr)(c:Nat)(page last above:Int)(w:World)(ef:0<=page)(ea:page<64)(dp:0<=last)(h0:0<=above)(cr:1<=first)(cc:first<=2199023255552)
  (hl:last<9223372036854775808) (ch:es.length<2199023255552) (bh: ∀(i:Nat) x,es[i]?=some x->x.2.2.2.2.1<first+i)
  (bm: ∀(i:Nat) x,es[i]?=some x-> ∃r o,a=some ⟨r,o,none⟩/\r<w.heap.size/\ ∀(j:Nat) v,(enE x)[j]?=some v->w.cell? ⟨r,o+i*13+j,none⟩=some v)
  (K:Nat) (hK:(last-above).toNat<K) (hN:(bK first es above K last).length<1000000)
  (cl: ∀W,Up w.heap.size w W->Calls Tryz.prog 27 #[.agg #[.int .i64 first,.slice a es.length c,.int .i64 B]] W λe W'=>e=.returned (.bool true)/\Up W.heap.size W W'):
  Calls Tryz.prog 10 #[.agg #[.int .i64 first,.slice a es.length c,.int .i64 B],.int .i64 page,.int .i64 last,.int .i64 above] w λe w'=> ∃v,e=.returned (.tuple #[v,.int .i64 (lQ page above (bK first es above K last) last []).2])/\Up w.heap.size w w'/\
   kc w w' v (lQ page above (bK first es above K last) last []).1:=by
 have HB:=XN w (.int .i64 first) (.slice a es.length c) (.int .i64 B) page;refine(callsIn_wide (n:=20)).1 ?_;refine callsIn_of_wp_marks Tryz.func10 rfl trivial ?_ rfl;simp only[Tryz.ntmps10,List.size_toArray,vQ,List.length_nil,Nat.reduceAdd,Nat.reduceSub,Array.replicate_succ,Array.replicate_zero,List.push_toArray,List.append_toArray,lP,tK]
 gi_wp2
 refine⟨trivial,(callsIn_wide.2 (cl _ HB.up)).mono ?_⟩;rintro e q ⟨rfl,hu⟩;have H1:=HB.more hu;have H2:=H1.more (((Up.refl _ q).alloc (zQ0 _) (.cells #[.slice none 0 0] 26)).alloc (by simp) (.cells #[.int .i64 last] 3));have k5:=H1.p.cell;have du:=H1.size;have c0:((q.alloc (.cells #[.slice none 0 0] 26)).alloc (.cells #[.int .i64 last] 3)).cell? ⟨w.heap.size,0,none⟩=some (.int .i64 first):=by simp[World.cell?,H2.l]
 have c1:((q.alloc (.cells #[.slice none 0 0] 26)).alloc (.cells #[.int .i64 last] 3)).cell? ⟨w.heap.size,1,none⟩=some (.slice a es.length c):=by simp[World.cell?,H2.l]
 have c2:((q.alloc (.cells #[.slice none 0 0] 26)).alloc (.cells #[.int .i64 last] 3)).cell? ⟨w.heap.size,2,none⟩=some (.int .i64 B):=by simp[World.cell?,H2.l]
 have n1:decide (page<0)=false:=by simp;omega
 have n2:decide (64<=page)=false:=by simp;omega
 have n3:decide (last<0)=false:=by simp;omega
 have n4:decide (above<0)=false:=by simp;omega
 have n5: ¬page<0:=by omega
 have n6: ¬64<=page:=by omega
 have n7: ¬last<0:=by omega
 have n8: ¬above<0:=by omega
 gi_wp2
 refine⟨trivial,(callsIn_wide.2 (Tryz.pg_back _ _ _ _ _ _)).mono ?_⟩;rintro e w3 ⟨rfl,rfl⟩
 gi_wp2
 have bd:Up q.heap.size q ((((((q.alloc (.cells #[.slice none 0 0] 26)).alloc (.cells #[.int .i64 last] 3)).alloc (.cells #[.int .i64 first,.slice a es.length c,.int .i64 B] 28)).alloc (.cells #[.int .i64 last] 3)).alloc (.cells #[.int .i64 above] 3)).alloc (.cells #[.func (.func 29) #[] #[]] 89)):=
  ((((((Up.refl _ q).alloc (zQ0 _) _).alloc (by simp) _).alloc (by simp;omega) _).alloc (by simp;omega) _).alloc (by simp;omega) _).alloc (by simp;omega) _
 have H3:=H1.more bd;have bO:Boxed ((((((q.alloc (.cells #[.slice none 0 0] 26)).alloc (.cells #[.int .i64 last] 3)).alloc (.cells #[.int .i64 first,.slice a es.length c,.int .i64 B] 28)).alloc (.cells #[.int .i64 last] 3)).alloc (.cells #[.int .i64 above] 3)).alloc (.cells #[.func (.func 29) #[] #[]] 89)) q.heap.size 26 (.slice none 0 0):=(((((Boxed.new q 26 (.slice none 0 0)).alloc _).alloc _).alloc _).alloc _).alloc _;have bM:Boxed ((((((q.alloc (.cells #[.slice none 0 0] 26)).alloc (.cells #[.int .i64 last] 3)).alloc (.cells #[.int .i64 first,.slice a es.length c,.int .i64 B] 28)).alloc (.cells #[.int .i64 last] 3)).alloc (.cells #[.int .i64 above] 3)).alloc (.cells #[.func (.func 29) #[] #[]] 89)) (q.heap.size+1) 3 (.int .i64 last):=by have:=((((Boxed.new (q.alloc (.cells #[.slice none 0 0] 26)) 3 (.int .i64 last)).alloc (.cells #[.int .i64 first,.slice a es.length c,.int .i64 B] 28)).alloc (.cells #[.int .i64 last] 3)).alloc (.cells #[.int .i64 above] 3)).alloc (.cells #[.func (.func 29) #[] #[]] 89);simpa using this
 have b7:((((((q.alloc (.cells #[.slice none 0 0] 26)).alloc (.cells #[.int .i64 last] 3)).alloc (.cells #[.int .i64 first,.slice a es.length c,.int .i64 B] 28)).alloc (.cells #[.int .i64 last] 3)).alloc (.cells #[.int .i64 above] 3)).alloc (.cells #[.func (.func 29) #[] #[]] 89)).heap.size=q.heap.size+6:=by simp
 have ap:tW w.heap.size (q.heap.size+2) (q.heap.size+6) (q.heap.size+1+1) (q.heap.size+1+1+1) (q.heap.size+1+1+1+1) (q.heap.size+1+1+1+1+1) first last above a c es ((((((q.alloc (.cells #[.slice none 0 0] 26)).alloc (.cells #[.int .i64 last] 3)).alloc (.cells #[.int .i64 first,.slice a es.length c,.int .i64 B] 28)).alloc (.cells #[.int .i64 last] 3)).alloc (.cells #[.int .i64 above] 3)).alloc (.cells #[.func (.func 29) #[] #[]] 89)):=by
  have e0:=((Boxed.new (((q.alloc (.cells #[.slice none 0 0] 26)).alloc (.cells #[.int .i64 last] 3)).alloc (.cells #[.int .i64 first,.slice a es.length c,.int .i64 B] 28)) 3 (.int .i64 last)).alloc (.cells #[.int .i64 above] 3)).alloc (.cells #[.func (.func 29) #[] #[]] 89);have e1:=(Boxed.new ((((q.alloc (.cells #[.slice none 0 0] 26)).alloc (.cells #[.int .i64 last] 3)).alloc (.cells #[.int .i64 first,.slice a es.length c,.int .i64 B] 28)).alloc (.cells #[.int .i64 last] 3)) 3 (.int .i64 above)).alloc (.cells #[.func (.func 29) #[] #[]] 89);have e2:=Boxed.new (((((q.alloc (.cells #[.slice none 0 0] 26)).alloc (.cells #[.int .i64 last] 3)).alloc (.cells #[.int .i64 first,.slice a es.length c,.int .i64 B] 28)).alloc (.cells #[.int .i64 last] 3)).alloc (.cells #[.int .i64 above] 3)) 89 (.func (.func 29) #[] #[]);have e3:=World.alloc_heap_new ((q.alloc (.cells #[.slice none 0 0] 26)).alloc (.cells #[.int .i64 last] 3)) (.cells #[.int .i64 first,.slice a es.length c,.int .i64 B] 28);rw[<-Below.heap_alloc _ (.cells #[.int .i64 last] 3) _ (by simp),<-Below.heap_alloc _ (.cells #[.int .i64 above] 3) _ (by simp),<-Below.heap_alloc _ (.cells #[.func (.func 29) #[] #[]] 89) _ (by simp)]at e3;simp only[World.size_alloc]at e0 e1 e2 e3;refine⟨by omega,by omega,by omega,by omega,by unfold World.cell?;rw[e3];rfl,by unfold World.cell?;rw[e3];rfl,e0.cell,e1.cell,e2.cell,?_⟩
  ·intro i x hx;obtain⟨r,o,e1,e2,e3⟩:=bm i x hx;exact⟨r,o,e1,e2,λj v hv=>by rw[World.cell?_of_block (H3.up.block r e2)];exact e3 j v hv⟩
 generalize cf:((((((q.alloc (.cells #[.slice none 0 0] 26)).alloc (.cells #[.int .i64 last] 3)).alloc (.cells #[.int .i64 first,.slice a es.length c,.int .i64 B] 28)).alloc (.cells #[.int .i64 last] 3)).alloc (.cells #[.int .i64 above] 3)).alloc (.cells #[.func (.func 29) #[] #[]] 89))=W0 at bd H3 bO bM b7 ap⊢;clear cf H2 c0 c1 c2 k5;refine wpIn_rangeFunc_ownH rfl (by decide) (gf:=53) (lb:= #[Value.pointer (some ⟨q.heap.size+1+1+1,0,none⟩),Value.pointer (some ⟨q.heap.size+1+1+1+1,0,none⟩),Value.pointer (some ⟨q.heap.size+1+1,0,none⟩),Value.pointer (some ⟨q.heap.size+1+1+1+1+1,0,none⟩)]) rfl trivial (enters_of Tryz.func53 (by kernel_rfl) rfl)
  (encs:=enF) (Kp:=KS w.heap.size (q.heap.size+2) (q.heap.size+6)) (S:=λys=>ys=bK first es above K last) (Sp:=λpre=>pre<+:bK first es above K last) (N:=(bK first es above K last).length) (w0:=W0)
  (λl J Jx W hW aJ _ hY hJ=>Tryz.pg_iter (20-1) l w.heap.size (q.heap.size+2) (q.heap.size+6) (q.heap.size+1+1) (q.heap.size+1+1+1) (q.heap.size+1+1+1+1) (q.heap.size+1+1+1+1+1) first last above a c es h0 cr cc hl ch bh J Jx K hK W (by have:=hW.size;omega) (by have:=hW.size;omega)
   (ap.kept (.of_below hW (by omega) (by omega))) aJ hY hJ)
  (λh k=>h.trans k) ?hKb (Below.refl _ _) (λ_=>rfl)
  (PgI w W0 q.heap.size page last) (PgX w W0 page) (pq _ _ _ _ _ (by omega)) (λcd=>JIf _ _ _ cd (by omega))
  ⟨by simp,bM,⟨_,bO,World.ownsRow_nil _ _ _ _,λ_=>rfl⟩,H3.p,H3.o,H3.e,H3.up,zQ0 _⟩
  (λx a' W=> ∃y,q.heap.size+5<y/\W.heap[y]?=some (.cells (enE x.2.1++[Value.int .i64 x.2.2]).toArray 91 (0,0))/\a'={tmps:= #[Value.agg #[Value.int .i64 first,Value.slice a es.length c,Value.int .i64 B],Value.int .i64 page,Value.int .i64 last,Value.int .i64 above,Value.pointer (some ⟨w.heap.size,0,none⟩),Value.pointer (some ⟨w.heap.size+1,0,none⟩),undef,undef,Value.pointer (some ⟨w.heap.size+1+1,0,none⟩),Value.pointer (some ⟨w.heap.size+1+1+1,0,none⟩),Value.pointer (some ⟨q.heap.size,0,none⟩),Value.pointer (some ⟨q.heap.size+1,0,none⟩),undef,Value.pointer (some ⟨y,0,none⟩),Value.bool false,Value.agg #[Value.int .i64 first,Value.slice a es.length c,Value.int .i64 B],Value.bool true,Value.bool false,Value.bool false,Value.int .i64 page,Value.bool false,Value.bool false,Value.int .i64 page,Value.bool false,Value.bool false,Value.bool false,Value.int .i64 last,Value.bool false,Value.bool false,Value.bool false,Value.int .i64 above,Value.bool false,Value.bool false,Value.int .i64 last,Value.agg #[Value.int .i64 first,Value.slice a es.length c,Value.int .i64 B],Value.int .i64 last,Value.int .i64 above,Value.func (Fn.func 53) #[] #[Value.pointer (some ⟨q.heap.size+1+1+1,0,none⟩),Value.pointer (some ⟨q.heap.size+1+1+1+1,0,none⟩),Value.pointer (some ⟨q.heap.size+1+1,0,none⟩),Value.pointer (some ⟨q.heap.size+1+1+1+1+1,0,none⟩)],Value.int .i64 x.1,Value.agg (enE x.2.1++[Value.int .i64 x.2.2]).toArray,undef,undef,undef,undef,undef,undef,undef,undef,undef,undef,undef,undef,undef,undef,undef,undef,undef,undef,undef,undef,undef,undef,undef,undef,undef,undef,undef,undef,undef,undef,undef],defers:=[]})
  ?hAx ?assign ?body ?done ?stop
 case hKb=>exact λW l o o' hl h hc _=>JEi W l o o' (by omega) (by omega) h hc
 case hAx=>exact λx a' _ X Y row ⟨y,e1,e2,e3⟩ hg hr=>⟨y,e1,(Own.from (JDX (β:=Unit) y _ 91) _) () X Y row e2 hg hr,e3⟩
 case assign=>
  rintro l pre ⟨m,⟨Q,M,T,x3,z,Z,⟨P,V,⟨U,R⟩,H,I⟩,G⟩,er⟩ W K hi hK;have c5:=(pq w W0 q.heap.size page last (by omega)).alloc (.cells #[.int .i64 Q,.int .i64 M,.int .i64 T,.int .i64 x3,.int .i64 z,.int .i64 Z,.int .i64 P,.int .i64 V,.bool U,.string ⟨R.toArray⟩,.bool H,.string ⟨I.toArray⟩,.string ⟨G.toArray⟩,.int .i64 er] 91) hi;have bc:=hi.size;simp only[enF,enE]
  gi_wp2
  exact hK _ _ ((KeepsOthers.alloc _ _).from _) (.of_below ((Below.refl _ W).alloc (zQ0 _) _) (by omega) (by omega)) c5 ⟨W.heap.size,by omega,World.alloc_heap_new W _,rfl⟩
 case body=>
  rintro l pre ⟨m,⟨Q,M,T,x3,z,Z,⟨P,V,⟨U,R⟩,H,I⟩,G⟩,er⟩ a' W hl ⟨eg,cx⟩ hi ⟨y,eb,bX,rfl⟩ an;have bc:=hi.size;have C:W.heap[y]?=some (.cells #[.int .i64 Q,.int .i64 M,.int .i64 T,.int .i64 x3,.int .i64 z,.int .i64 Z,.int .i64 P,.int .i64 V,.bool U,.string ⟨R.toArray⟩,.bool H,.string ⟨I.toArray⟩,.string ⟨G.toArray⟩,.int .i64 er] 91):=bX;clear bX;have dr:W.cell? ⟨y,13,none⟩=some (.int .i64 er):=by simp[World.cell?,C]
  have cO:=hi.o.cell;have fO:=hi.o.frozen;have z0:W.cell? ⟨y,0,none⟩=some (.int .i64 Q):=by simp[World.cell?,C]
  have z1:W.cell? ⟨y,1,none⟩=some (.int .i64 M):=by simp[World.cell?,C]
  have z2:W.cell? ⟨y,2,none⟩=some (.int .i64 T):=by simp[World.cell?,C]
  have z3:W.cell? ⟨y,3,none⟩=some (.int .i64 x3):=by simp[World.cell?,C]
  have z4:W.cell? ⟨y,4,none⟩=some (.int .i64 z):=by simp[World.cell?,C]
  have z5:W.cell? ⟨y,5,none⟩=some (.int .i64 Z):=by simp[World.cell?,C]
  have z6:W.cell? ⟨y,6,none⟩=some (.int .i64 P):=by simp[World.cell?,C]
  have z7:W.cell? ⟨y,7,none⟩=some (.int .i64 V):=by simp[World.cell?,C]
  have z8:W.cell? ⟨y,8,none⟩=some (.bool U):=by simp[World.cell?,C]
  have z9:W.cell? ⟨y,9,none⟩=some (.string ⟨R.toArray⟩):=by simp[World.cell?,C]
  have dn:W.cell? ⟨y,10,none⟩=some (.bool H):=by simp[World.cell?,C]
  have eh:W.cell? ⟨y,11,none⟩=some (.string ⟨I.toArray⟩):=by simp[World.cell?,C]
  have ed:W.cell? ⟨y,12,none⟩=some (.string ⟨G.toArray⟩):=by simp[World.cell?,C]
  have am:y<W.heap.size:=(pI.1 C).1;by_cases he:er=0
  ·subst he
   gi_wp2
   refine⟨trivial,(callsIn_wide.2 (Tryz.pg_changes Q M _ _ _ _ _ _ _ _ _ _ _ _)).mono ?_⟩;rintro e A ⟨rfl,L⟩;have e9:=L.size;have y6:A.cell? ⟨y,6,none⟩=some (.int .i64 P):=(L.cell (p:=⟨y,6,none⟩) am).trans z6;have y5:A.cell? ⟨w.heap.size+1,0,none⟩=some (.int .i64 page):=(hi.p.kept (oR L none) (by simp)).cell;have o4:=hi.o.kept (oR L none) (by simp);have e4:=hi.e.kept (oR L none) (by simp);have dq:=o4.cell;have ds:=o4.frozen;have k9:=(e4.kept (grownBy_setCell' A (w.heap.size+1+1) (.slice none 0 0)) (by simp)).cell;have f9:=(e4.kept (grownBy_setCell' A (w.heap.size+1+1) (.slice none 0 0)) (by simp)).frozen;by_cases hc:M=1\/M=2
   ·have ax:(decide (M=1)||decide (M=2))=true:=by simpa using hc
    rw[ax];by_cases ay:P=page
    ·subst ay;have y4:A.cell? ⟨y,4,none⟩=some (.int .i64 z):=(L.cell (p:=⟨y,4,none⟩) am).trans z4;have m4:=hi.met.kept (oR L none) (by simp);have dx:=m4.cell;have e8:=m4.frozen;obtain⟨v,bv,O,al⟩:=hi.out;have F:(A.setCell ⟨q.heap.size+1,0,none⟩ (.int .i64 z)).heap[y]?=some (.cells #[.int .i64 Q,.int .i64 M,.int .i64 T,.int .i64 x3,.int .i64 z,.int .i64 Z,.int .i64 P,.int .i64 V,.bool U,.string ⟨R.toArray⟩,.bool H,.string ⟨I.toArray⟩,.string ⟨G.toArray⟩,.int .i64 0] 91):=(Below.heap_setCell _ _ _ _ (by show y≠q.heap.size+1;omega)).trans ((L.block y am).trans C);have q0:(A.setCell ⟨q.heap.size+1,0,none⟩ (.int .i64 z)).cell? ⟨y,0,none⟩=some (.int .i64 Q):=by simp[World.cell?,F]
     have q1:(A.setCell ⟨q.heap.size+1,0,none⟩ (.int .i64 z)).cell? ⟨y,1,none⟩=some (.int .i64 M):=by simp[World.cell?,F]
     have q2:(A.setCell ⟨q.heap.size+1,0,none⟩ (.int .i64 z)).cell? ⟨y,2,none⟩=some (.int .i64 T):=by simp[World.cell?,F]
     have q3:(A.setCell ⟨q.heap.size+1,0,none⟩ (.int .i64 z)).cell? ⟨y,3,none⟩=some (.int .i64 x3):=by simp[World.cell?,F]
     have q4:(A.setCell ⟨q.heap.size+1,0,none⟩ (.int .i64 z)).cell? ⟨y,4,none⟩=some (.int .i64 z):=by simp[World.cell?,F]
     have q5:(A.setCell ⟨q.heap.size+1,0,none⟩ (.int .i64 z)).cell? ⟨y,5,none⟩=some (.int .i64 Z):=by simp[World.cell?,F]
     have q6:(A.setCell ⟨q.heap.size+1,0,none⟩ (.int .i64 z)).cell? ⟨y,6,none⟩=some (.int .i64 P):=by simp[World.cell?,F]
     have q7:(A.setCell ⟨q.heap.size+1,0,none⟩ (.int .i64 z)).cell? ⟨y,7,none⟩=some (.int .i64 V):=by simp[World.cell?,F]
     have q8:(A.setCell ⟨q.heap.size+1,0,none⟩ (.int .i64 z)).cell? ⟨y,8,none⟩=some (.bool U):=by simp[World.cell?,F]
     have q9:(A.setCell ⟨q.heap.size+1,0,none⟩ (.int .i64 z)).cell? ⟨y,9,none⟩=some (.string ⟨R.toArray⟩):=by simp[World.cell?,F]
     have ei:(A.setCell ⟨q.heap.size+1,0,none⟩ (.int .i64 z)).cell? ⟨y,10,none⟩=some (.bool H):=by simp[World.cell?,F]
     have ee:(A.setCell ⟨q.heap.size+1,0,none⟩ (.int .i64 z)).cell? ⟨y,11,none⟩=some (.string ⟨I.toArray⟩):=by simp[World.cell?,F]
     have dw:(A.setCell ⟨q.heap.size+1,0,none⟩ (.int .i64 z)).cell? ⟨y,12,none⟩=some (.string ⟨G.toArray⟩):=by simp[World.cell?,F]
     have c3:=bv.kept (oR L none) (by simp);have aa:=c3.kept (grownBy_setCell' A (q.heap.size+1) (.int .i64 z)) (by simp);have c4:=aa.cell;have af:=(O.kept (oR L none) (by cases v.ownBlock<;>simp)).kept (grownBy_setCell' A (q.heap.size+1) (.int .i64 z)) (by
      cases e:v.ownBlock with
      |none=>exact .inl rfl
      |some k=>exact .inr (λh=>by injection h with h;have:=(O.lt k e).1;omega))
     have a2:((A.setCell ⟨q.heap.size+1,0,none⟩ (.int .i64 z)).alloc (.cells #[.int .i64 Q,.int .i64 M,.int .i64 T,.int .i64 x3,.int .i64 z,.int .i64 Z,.int .i64 P,.int .i64 V,.bool U,.string ⟨R.toArray⟩,.bool H,.string ⟨I.toArray⟩,.string ⟨G.toArray⟩] 54)).ownsRow W0.heap.size 54 13 v pre.length (dH pre):=af.kept (World.grownBy_alloc _ _ none) (by cases v.ownBlock<;>simp);have ac:=World.alloc_heap_new (A.setCell ⟨q.heap.size+1,0,none⟩ (.int .i64 z)) (.cells #[.int .i64 Q,.int .i64 M,.int .i64 T,.int .i64 x3,.int .i64 z,.int .i64 Z,.int .i64 P,.int .i64 V,.bool U,.string ⟨R.toArray⟩,.bool H,.string ⟨I.toArray⟩,.string ⟨G.toArray⟩] 54);rw[show(A.setCell ⟨q.heap.size+1,0,none⟩ (.int .i64 z)).heap.size=A.heap.size by simp[World.setCell]]at ac;obtain⟨v',W6,bp,a7,au,b5⟩:=Tryz.pg_append ((A.setCell ⟨q.heap.size+1,0,none⟩ (.int .i64 z)).alloc (.cells #[.int .i64 Q,.int .i64 M,.int .i64 T,.int .i64 x3,.int .i64 z,.int .i64 Z,.int .i64 P,.int .i64 V,.bool U,.string ⟨R.toArray⟩,.bool H,.string ⟨I.toArray⟩,.string ⟨G.toArray⟩] 54)) W0.heap.size v pre.length (dH pre) a2 al ⟨A.heap.size,0,none⟩ [.int .i64 Q,.int .i64 M,.int .i64 T,.int .i64 x3,.int .i64 z,.int .i64 Z,.int .i64 P,.int .i64 V,.bool U,.string ⟨R.toArray⟩,.bool H,.string ⟨I.toArray⟩,.string ⟨G.toArray⟩] rfl
      (λj u hj=>by
       rw[Addr.add_lit,lO,cell_of_heap ac,List.getElem?_toArray];exact hj) (by simp[Value.oneCell']) (by omega) (by rw[World.size_alloc,show(A.setCell ⟨q.heap.size+1,0,none⟩ (.int .i64 z)).heap.size=A.heap.size by simp[World.setCell]];omega) 26
     obtain⟨g',d1,rfl,_⟩:=a7.form (by omega);have fin:=JI0 hi L (by omega) b7 (m,(Q,M,T,x3,z,Z,(P,V,(U,R),H,I),G),0) ⟨rfl,hc,rfl⟩ v bv (.cells #[.int .i64 Q,.int .i64 M,.int .i64 T,.int .i64 x3,.int .i64 z,.int .i64 Z,.int .i64 P,.int .i64 V,.bool U,.string ⟨R.toArray⟩,.bool H,.string ⟨I.toArray⟩,.string ⟨G.toArray⟩] 54) a2 _ a7 au b5;have b6:Boxed W6 q.heap.size 26 v:=(aa.alloc _).kept au ((aa.alloc _).not_row (by decide) a2);have dy:=b6.cell;have e7:=b6.frozen;clear au b5 a7 ac a2 af
     gi_wp2_with (gi_at_builtin;refine Ye _ rfl _ _ 26 rfl v _ _ W6 rfl rfl bp ?_)
     exact fin
    ·have dm:(P==page)=false:=by simpa using ay
     gi_wp2
     exact YX hi L _ (λh=>ay h.2.2) 13 rfl _
   ·have ax:(decide (M=1)||decide (M=2))=false:=by simpa using hc
    rw[ax]
    gi_wp2
    exact YX hi L _ (λh=>hc h.2.1) 13 rfl _
  ·have e6:(er==0)=false:=by simpa using he
   have k9:=(hi.e.kept (grownBy_setCell' W (w.heap.size+1+1) (.slice none 0 0)) (by simp)).cell;have f9:=(hi.e.kept (grownBy_setCell' W (w.heap.size+1+1) (.slice none 0 0)) (by simp)).frozen;have fin:=YX hi (Below.refl _ W) (m,(Q,M,T,x3,z,Z,(P,V,(U,R),H,I),G),er) (λh=>he h.1) er (by simp[aN,he]) W0.heap.size
   gi_wp2
   gi_region
   all_goals gi_wp2
   all_goals exact⟨⟨fin.1.size,fin.1.same⟩,fin.2.drew⟩
 case done=>
  rintro D zs W hD rfl hi hK;have bc:=hi.size;have cM:=hi.met.cell;have cO:=hi.o.cell;have fO:=hi.o.frozen;have ho:=sb page above _ last [] hi.ok;rw[lP]at ho;by_cases an:wP last (bK first es above K last)<above
  ·rw[if_pos an]at ho;have k9:=(hi.e.kept (grownBy_setCell' W (w.heap.size+1+1) (.slice none 0 0)) (by simp)).cell;have f9:=(hi.e.kept (grownBy_setCell' W (w.heap.size+1+1) (.slice none 0 0)) (by simp)).frozen
   gi_wp2
   rw[ho];have a1:=(KeepsOthers.trans (KeepsOthers.setCell W ⟨w.heap.size+1+1,0,none⟩ (.slice none 0 0)) (KeepsOthers.setCell _ ⟨w.heap.size+1+1+1,0,none⟩ (.int .i64 13))).same D _ hK rfl;refine⟨by simp,.inl ⟨_,_,rfl,run_takeDeferred a1,?_⟩⟩;have b8:=(hi.o.set (.slice none 0 0)).kept (grownBy_setCell' _ (w.heap.size+1+1+1) (.int .i64 13)) (by simp);have b9:=(hi.e.kept (grownBy_setCell' W (w.heap.size+1+1) (.slice none 0 0)) (by simp)).set (.int .i64 13);have c8:=cell_kept b8.cell (grownBy_putObj' _ D (.deferred none)) (λr e=>by cases e;exact⟨_,a1,rfl⟩);have c9:=cell_kept b9.cell (grownBy_putObj' _ D (.deferred none)) (λr e=>by cases e;exact⟨_,a1,rfl⟩);have a4:=(hi.up.setCell (p:=⟨w.heap.size+1+1,0,none⟩) (by show w.heap.size<=w.heap.size+1+1;omega) (.slice none 0 0)).setCell (p:=⟨w.heap.size+1+1+1,0,none⟩) (by show w.heap.size<=w.heap.size+1+1+1;omega) (.int .i64 13);refine⟨.tuple #[.slice none 0 0,.int .i64 13],?_,_,rfl,a4.trans (MP (grownBy_putObj' _ D (.deferred none)) a4.size (λk e=>by cases e;omega)),.inl ⟨rfl,rfl⟩⟩;simp[results,Tryz.f10,go_sem,c8,c9]
  ·rw[if_neg an]at ho;obtain⟨v,bv,O,al⟩:=hi.out;have hlen:(bK first es above K last).length=((bK first es above K last).map (·.2.1)).length:=by simp
   have ba:dH (bK first es above K last)=(((bK first es above K last).map (·.2.1)).map enE).flatten:=by simp only[dH,zH];rfl
   rw[hlen,ba]at O;have bn:=Tryz.pg_reverse W W0.heap.size v _ O (by rw[<-hlen];exact hN);obtain⟨av,nv,E,rfl⟩: ∃a' n' c',v=.slice a' n' c':=by rcases O.2 with⟨rfl,_⟩|⟨g,cap,dv,rfl,_⟩<;>exact⟨_,_,_,rfl⟩
   have cv:=bv.cell;have HI:Hid (PgI w W0 q.heap.size page last (bK first es above K last) W):=hi;have HR:Hid (W.ownsRow W0.heap.size 54 13 (Value.slice av nv E) ((bK first es above K last).map (·.2.1)).length (((bK first es above K last).map (·.2.1)).map enE).flatten):=O;clear O ba hlen
   gi_wp2
   refine⟨trivial,(callsIn_wide.2 bn).mono ?_⟩;rintro e W5 ⟨rfl,ag,ce,cq⟩;have aw: ∀(r:Nat),r<W0.heap.size->some r≠(Value.slice av nv E).ownBlock:=λr h e=>by have:=(HR.out.lt r e.symm).1;omega
   have aa:Boxed W5 q.heap.size 26 (.slice av nv E):=bv.kept ag (aw _ (by omega));have o5:=HI.out.o.kept ag (aw _ (by omega));have e5:=HI.out.e.kept ag (aw _ (by omega));have c4:=aa.cell;have ec:=o5.cell;have dz:=o5.frozen;have k9:=(e5.kept (grownBy_setCell' W5 (w.heap.size+1+1) (.slice av nv E)) (by simp)).cell;have f9:=(e5.kept (grownBy_setCell' W5 (w.heap.size+1+1) (.slice av nv E)) (by simp)).frozen
   gi_wp2
   rw[ho];have cb:W5.heap[D]?=some (.deferred (some [])):=ce D _ hK rfl;have a1:=(KeepsOthers.trans (KeepsOthers.setCell W5 ⟨w.heap.size+1+1,0,none⟩ (.slice av nv E)) (KeepsOthers.setCell _ ⟨w.heap.size+1+1+1,0,none⟩ (.int .i64 0))).same D _ cb rfl;refine⟨by simp,.inl ⟨_,_,rfl,run_takeDeferred a1,?_⟩⟩;have b8:=(o5.set (.slice av nv E)).kept (grownBy_setCell' _ (w.heap.size+1+1+1) (.int .i64 0)) (by simp);have b9:=(e5.kept (grownBy_setCell' W5 (w.heap.size+1+1) (.slice av nv E)) (by simp)).set (.int .i64 0);have c8:=cell_kept b8.cell (grownBy_putObj' _ D (.deferred none)) (λr e=>by cases e;exact⟨_,a1,rfl⟩);have c9:=cell_kept b9.cell (grownBy_putObj' _ D (.deferred none)) (λr e=>by cases e;exact⟨_,a1,rfl⟩);have bu:Up w.heap.size w W5:=HI.out.up.trans (MP ag HI.out.up.size (λk e=>by have:=(HR.out.lt k e).1;omega));have a4:=(bu.setCell (p:=⟨w.heap.size+1+1,0,none⟩) (by show w.heap.size<=w.heap.size+1+1;omega) (.slice av nv E)).setCell (p:=⟨w.heap.size+1+1+1,0,none⟩) (by show w.heap.size<=w.heap.size+1+1+1;omega) (.int .i64 0);refine⟨.tuple #[.slice av nv E,.int .i64 0],?_,_,rfl,a4.trans (MP (grownBy_putObj' _ D (.deferred none)) a4.size (λk e=>by cases e;omega)),?_⟩
   ·simp[results,Tryz.f10,go_sem,c8,c9]
   ·rcases cq with⟨h1,h2⟩|⟨g,cap,h1,h2,h3,h4,h5⟩
    ·exact .inl ⟨by rw[h1];rfl,h2⟩
    ·refine .inr ⟨g,cap,by rw[h1,List.length_reverse],by rw[List.length_reverse];exact h2,by omega,Nat.lt_of_lt_of_le h4 (by simp[World.setCell,World.putObj]),λi x hx j u hu=>?_⟩;have k1:=h5 i x hx j u hu;have k2:=(grownBy_setCell' W5 (w.heap.size+1+1) (.slice av nv E)).cell k1 (by simp;omega);have k3:=(grownBy_setCell' _ (w.heap.size+1+1+1) (.int .i64 0)).cell k2 (by simp;omega);exact cell_kept k3 (grownBy_putObj' _ D (.deferred none)) (λr e=>by cases e;exact⟨_,a1,rfl⟩)
 case stop=>
  rintro D cd pre W hD bw hx hK;obtain⟨rfl,⟨pre',x,rfl,c6,bq,be⟩,bo,bb,d7⟩:=hx;obtain⟨rest,b1⟩:=bw;have ho:lQ page above (bK first es above K last) last []=([],aN x):=by rw[<-b1,fM];exact uc page above x rest bq pre' last [] c6
  gi_wp2
  rw[ho];refine⟨by simp,.inl ⟨_,_,rfl,run_takeDeferred hK,?_⟩⟩;have c8:=cell_kept bo.cell (grownBy_putObj' W D (.deferred none)) (λr e=>by cases e;exact⟨_,hK,rfl⟩);have c9:=cell_kept be.cell (grownBy_putObj' W D (.deferred none)) (λr e=>by cases e;exact⟨_,hK,rfl⟩);refine⟨.tuple #[.slice none 0 0,.int .i64 (aN x)],?_,_,rfl,bb.trans (MP (grownBy_putObj' W D (.deferred none)) bb.size (λk e=>by cases e;omega)),.inl ⟨rfl,rfl⟩⟩;simp[results,Tryz.f10,go_sem,c8,c9]
end Go.Proofs
end
section
namespace Go.Proofs
open Go.Shelf Go.RowKit Go.Lib Go.Am
set_option linter.unusedSimpArgs false
set_option linter.unusedVariables false
abbrev ceE(x:EN):List PV:=cel J7 x
theorem JKl{w:World}{C:Nat->Nat->Prop}(f:EN)(j:Nat)(x:PV)(u:Value)(hx:(ceE f)[j]?=some x)(h:J0e w C x u):(enE f)[j]?=some u:=by
 match j with
 |0=>injection hx with hx;subst hx;cases h;rfl
 |1=>injection hx with hx;subst hx;cases h;rfl
 |2=>injection hx with hx;subst hx;cases h;rfl
 |3=>injection hx with hx;subst hx;cases h;rfl
 |4=>injection hx with hx;subst hx;cases h;rfl
 |5=>injection hx with hx;subst hx;cases h;rfl
 |6=>injection hx with hx;subst hx;cases h;rfl
 |7=>injection hx with hx;subst hx;cases h;rfl
 |8=>injection hx with hx;subst hx;cases h;rfl
 |9=>injection hx with hx;subst hx;cases h;rfl
 |10=>injection hx with hx;subst hx;cases h;rfl
 |11=>injection hx with hx;subst hx;cases h;rfl
 |12=>injection hx with hx;subst hx;cases h;rfl
 |j+13=>simp[ceE,cel,J7,eQ,Jz]at hx
theorem JHO{w:World}{C:Nat->Nat->Prop}(f:EN)(j:Nat)(x:PV)(hx:(ceE f)[j]?=some x): ∃u,(enE f)[j]?=some u/\J0e w C x u:=by
 match j with
 |0=>injection hx with hx;subst hx;exact⟨_,rfl,.i _ _⟩
 |1=>injection hx with hx;subst hx;exact⟨_,rfl,.i _ _⟩
 |2=>injection hx with hx;subst hx;exact⟨_,rfl,.i _ _⟩
 |3=>injection hx with hx;subst hx;exact⟨_,rfl,.i _ _⟩
 |4=>injection hx with hx;subst hx;exact⟨_,rfl,.i _ _⟩
 |5=>injection hx with hx;subst hx;exact⟨_,rfl,.i _ _⟩
 |6=>injection hx with hx;subst hx;exact⟨_,rfl,.i _ _⟩
 |7=>injection hx with hx;subst hx;exact⟨_,rfl,.i _ _⟩
 |8=>injection hx with hx;subst hx;exact⟨_,rfl,.b _⟩
 |9=>injection hx with hx;subst hx;exact⟨_,rfl,.s _⟩
 |10=>injection hx with hx;subst hx;exact⟨_,rfl,.b _⟩
 |11=>injection hx with hx;subst hx;exact⟨_,rfl,.s _⟩
 |12=>injection hx with hx;subst hx;exact⟨_,rfl,.s _⟩
 |j+13=>simp[ceE,cel,J7,eQ,Jz]at hx
theorem JHs{w:World}{C:Nat->Nat->Prop}{es:List EN}{v:Value}(h:J0e w C (.sl 13 (es.map ceE)) v):
  ∃a c,v=.slice a es.length c/\ ∀(i:Nat) x,es[i]?=some x-> ∃r o,a=some ⟨r,o,none⟩/\r<w.heap.size/\ ∀(j:Nat) u,(enE x)[j]?=some u->w.cell? ⟨r,o+i*13+j,none⟩=some u:=by
 generalize hR:es.map ceE=R at h;cases h with
 |sl0 _ a c=>
  have:es=[]:=by simpa using hR
  subst this;exact⟨a,c,rfl,λi x q=>by simp at q⟩
 |sl _ _ r o cap vals h1 h2 h3 B=>
  subst hR;refine⟨_,cap,by rw[fE],λi x q=>⟨r,o,rfl,?_⟩⟩;have cell: ∀(k:Nat) u,(enE x)[k]?=some u->w.cell? ⟨r,o+i*13+k,none⟩=some u:=by
   intro k u z;have e:(es.map ceE)[i]?=some (ceE x):=by rw[gA,q];rfl
   have y:k<(ceE x).length:=(dK.1 z).1;have n:=zQ9 y;have A:=(h3 i k _ _ e n).2;have g:=JKl x k _ _ n (B i k _ _ e n);rw[z]at g;injection g with g;rw[g,rY];exact A
  exact⟨block_lt_of_cell (cell 0 _ rfl),cell⟩
theorem JIj{w w':World}{C:Nat->Nat->Prop}{l:List EN}{v:Value}(h:kc w w' v l):J0e w' (λr o=>C r o\/w.heap.size<=r) (.sl 13 (l.map ceE)) v:=by
 rcases h with⟨rfl,rfl⟩|⟨g,c,rfl,A,z,B,hR⟩;exact .sl0 13 none 0;have y: ∀(i j:Nat) row x,(l.map ceE)[i]?=some row->row[j]?=some x-> ∃f u,l[i]?=some f/\(enE f)[j]?=some u/\J0e w' (λr o=>C r o\/w.heap.size<=r) x u:=(by intro i j row x hi q;rw[gA]at hi;obtain⟨f,e,rfl⟩:=gM.1 hi;obtain⟨u,k,n⟩:=JHO f j x q;exact⟨f,u,e,k,n⟩);have val: ∀(i j:Nat) f u,l[i]?=some f->(enE f)[j]?=some u->(((l.map enE)[i]?).bind λr=>r[j]?).getD .nilFunc=u:=λi j f u e k=>by rw[gA,e];simp only[dU,JI,k,UQ]
 have:=J0e.sl (w:=w') (C:=λr o=>C r o\/w.heap.size<=r) 13 (l.map ceE) g 0 c (λi j=>(((l.map enE)[i]?).bind λr=>r[j]?).getD .nilFunc) (by rw[fE];exact A)
  (λrow n=>by obtain⟨a,_,rfl⟩:=jM.1 n;rfl)
  (λi j row x hi q=>by
   obtain⟨f,u,e,k,_⟩:=y i j row x hi q;refine⟨.inr z,?_⟩;rw[val i j f u e k,<-rY,lO];exact hR i f e j u k)
  (λi j row x hi q=>by
   obtain⟨f,u,e,k,n⟩:=y i j row x hi q;rw[val i j f u e k];exact n)
 rwa[fE]at this
theorem Es(x:Int×List EN×Int):cel JE x=[.i .i64 x.1,.sl 13 (x.2.1.map ceE),.i .i64 x.2.2]:=rfl
theorem JKy{s:Sn}{x:Int×List EN×Int}{v:Value}(h:JK s (.data (cel JE x)) v): ∃vs,v=.agg #[.int .i64 x.1,vs,.int .i64 x.2.2]/\J0e s.w s.g.C (.sl 13 (x.2.1.map ceE)) vs:=by
 rw[Es]at h;cases h with
 |data _ vs n e=>
  obtain⟨l⟩:=vs
  match l,n with
  |[v0,v1,v2],_=>have o:=e 0 _ _ rfl rfl;have k:=e 1 _ _ rfl rfl;have j:=e 2 _ _ rfl rfl;cases o;cases j;exact⟨v1,rfl,k⟩
theorem JJi{s:Sn}{x:Int×List EN×Int}{vs:Value}(h:J0e s.w s.g.C (.sl 13 (x.2.1.map ceE)) vs):JK s (.data (cel JE x)) (.agg #[.int .i64 x.1,vs,.int .i64 x.2.2]):=by
 rw[Es];refine .data _ _ rfl λi y u e j=>?_
 match i with
 |0=>injection e with e;injection j with j;subst e j;exact .i _ _
 |1=>injection e with e;injection j with j;subst e j;exact h
 |2=>injection e with e;injection j with j;subst e j;exact .i _ _
 |i+3=>simp at e
theorem Zj{s:Sn}{x:Int×List EN×Int}{a b c:Int}{vals:Array Value}(hl:4=vals.size)
  (ha: ∀(i:Nat) y v,([.data (cel JE x),.p (.i .i64 a),.p (.i .i64 b),.p (.i .i64 c)]:List AV)[i]?=some y->vals[i]?=some v->JK s y v):
  ∃vs,vals= #[.agg #[.int .i64 x.1,vs,.int .i64 x.2.2],.int .i64 a,.int .i64 b,.int .i64 c]/\J0e s.w s.g.C (.sl 13 (x.2.1.map ceE)) vs:=by
 obtain⟨vl⟩:=vals
 match vl,hl with
 |[v0,v1,v2,v3],_=>have n:=ha 0 _ _ rfl rfl;have k:=ha 1 _ _ rfl rfl;have e:=ha 2 _ _ rfl rfl;have j:=ha 3 _ _ rfl rfl;obtain⟨vs,rfl,h⟩:=JKy n;cases k with|p _ _ k=>cases e with|p _ _ e=>cases j with|p _ _ j=>cases k;cases e;cases j;exact⟨vs,rfl,h⟩
end Go.Proofs
namespace Go.Am
theorem JLa{F:Orc}{f:FuncId}{g:Sig}{S:(tyL g.ti).D->Option (tyL g.to).D}{xs:List TA}{x:(tyL g.ti).D}{y:(tyL g.to).D}{v:TV}(he:EOk F (aG f g S))(hx:yX g xs []=some x)(e:S x=some y)
  (hv:IZ g y=some (v,[])):F f (xs.map (bY (lns []))) []=some (aT (lns []) v,[]):=by
 have h:(aG f g S).go xs [] (λv out=>some (v,out))=some (v,([]:List (Bool×TB))):=by simp only[aG,hx,e,JI,hv];cases g.same<;>rfl
 obtain⟨v,out,h1,_,h3⟩:=he.ok h;injection h3 with h3;injection h3 with h4 h5;subst h4 h5;exact h1
end Go.Am
namespace Go.Proofs.YtknpcflejohnoaaGreat
open Go.Am Go.RowKit Go.Proofs
set_option maxRecDepth 100000
theorem JCN(x:Int×List EN×Int)(b:Bool)(n:yC x=some b)(C:Nat->Nat->Prop)(w:World)(vs:Value)(h:J0e w C (.sl 13 (x.2.1.map ceE)) vs):
  Calls Tryz.prog 27 #[.agg #[.int .i64 x.1,vs,.int .i64 x.2.2]] w λen w'=>en=.returned (.bool b)/\Up w.heap.size w w':=by
 have run:=JLa (zg pf).1 (xs:=[.dt JE x]) (x:=x) rfl n (v:=.a (.c (.d .b b))) rfl;have ok:=JJf _ _ _ _ run;refine(JDJ ok rfl (w:=w) C (vals:= #[.agg #[.int .i64 x.1,vs,.int .i64 x.2.2]]) rfl (λi a u g e=>?_)).mono ?_
 match i with
 |0=>injection g with g;injection e with e;subst g e;exact JJi (s:=⟨[],ghC C w,w⟩) (h.keeps λr o u q k=>⟨.inr ⟨q,MU k⟩,k⟩)
 |i+1=>simp at g
 rintro en w' ⟨u,g',rfl,e,j,_⟩;cases j with
 |p _ _ j=>cases j;exact⟨rfl,e⟩
theorem Rs: ∀args blks r,pgP JE J7 xR args blks=some r->J61 Tryz.prog 10 args blks r:=JJq λx page last above y blks M=>
 ⟨⟨Tryz.f10,Tryz.func10,by kernel_rfl,by kernel_rfl⟩,λg w vals hi L j=>by
  obtain⟨vs,rfl,G⟩:=Zj L j;have e:KF (yC x) (x,page,last,above)=some y:=M;unfold KF at e;obtain⟨b,k,e⟩:=cR.1 e;have q: ∀W,Up w.heap.size w W->Calls Tryz.prog 27 #[.agg #[.int .i64 x.1,vs,.int .i64 x.2.2]] W λen W'=>en=.returned (.bool b)/\Up W.heap.size W W':=λW I=>JCN x b k g.C W vs (G.up I λ_ _ h _=>h);have fin: ∀{w':World} {u:Value} {z:List EN×Int},Up w.heap.size w w'->kc w w' u z.1-> ∃v g',(Ending.returned (.tuple #[u,.int .i64 z.2]))=.returned v/\Inv ⟨blks,g',w'⟩/\bE ⟨blks,g,w⟩ ⟨blks,g',w'⟩/\JK ⟨blks,g',w'⟩ (.tup [.p (.sl J7.sz (z.1.map (cel J7))),.p (.i .i64 z.2)]) v:=fun{w' u z} n D=>by
   obtain⟨h1,h2⟩:=JEP hi n (λr o=>w.heap.size<=r/\r<w'.heap.size) (λ_ _ h=>h);refine⟨_,_,rfl,h1,h2,.tup _ _ rfl λi a b j k=>?_⟩
   match i with
   |0=>injection j with j;injection k with k;subst j k;exact .p _ _ ((JIj (C:=g.C) D).keeps λr o u O H=>⟨O.imp id λh=>⟨h,MU H⟩,H⟩)
   |1=>injection j with j;injection k with k;subst j k;exact .p _ _ (.i _ _)
   |i+2=>simp at j
  split at e;rename_i h0;subst h0;injection e with e;subst e;refine(Tryz.pg_bad page last above w _ _ _ q).mono ?_;rintro en w' ⟨rfl,n⟩;exact fin (z:=([],26)) n (.inl ⟨rfl,rfl⟩);rename_i h0;have F:b=true:=by simpa using h0
  subst F;split at e;rename_i h1;injection e with e;subst e;refine(Tryz.pg_range page last above w _ _ _ h1 q).mono ?_;rintro en w' ⟨rfl,n⟩;exact fin (z:=([],1)) n (.inl ⟨rfl,rfl⟩);rename_i h1;split at e;rename_i h2;obtain⟨J,N,K,B,E⟩:=h2;injection e with e;subst e;obtain⟨a,c,rfl,A⟩:=JHs G;have P:x.2.1.length<900000:=B;have T: ¬page<0:=λh=>h1 (.inl h);have S: ¬page>=64:=λh=>h1 (.inr (.inl h));have R: ¬last<0:=λh=>h1 (.inr (.inr (.inl h)));have Q: ¬above<0:=λh=>h1 (.inr (.inr (.inr h)));refine(Tryz.pg_main x.1 x.2.2 x.2.1 a c page last above w (by omega) (by omega) (by omega) (by omega) J N K (Nat.lt_of_lt_of_le B (by decide)) E A ((last-above).toNat+1) (by omega) (vc _ _ _ E _ _ B) q).mono ?_;rintro en w' ⟨v,rfl,n,D⟩;exact fin n D;cases e⟩
theorem JKF:jX Tryz.prog (AF (zB EM)):=by
 refine Cz mixed (λf j h=>?_) (λf g h=>?_) (λf k h=>?_);rcases GA h with⟨x,h1,h2⟩|⟨x,h1,h2⟩|⟨x,h1,h2⟩|⟨x,h1,h2⟩;injection h2 with h2;subst h2;exact pz _ (AB h1);cases h2;cases h2;cases h2;rcases GA h with⟨x,h1,h2⟩|⟨x,h1,h2⟩|⟨x,h1,h2⟩|⟨x,h1,h2⟩;cases h2;cases h2;injection h2 with h2;subst h2;exact o9 _ (AB h1);injection h2 with h2;subst h2;unfold EM at h1;split at h1;rename_i e;injection h1 with h1;subst h1;subst e;exact Rs;cases h1;rcases GA h with⟨x,h1,h2⟩|⟨x,h1,h2⟩|⟨x,h1,h2⟩|⟨x,h1,h2⟩;cases h2;injection h2 with h2;subst h2;exact p8 _ (AB h1);cases h2;cases h2
end Go.Proofs.YtknpcflejohnoaaGreat
end
