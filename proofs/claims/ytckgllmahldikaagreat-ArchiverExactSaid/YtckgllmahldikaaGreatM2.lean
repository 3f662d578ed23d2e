/-
  Parts of a proof.
-/
import Derived.Orders
import Derived.LoopN
import Derived.Scope
import Derived.Below
import Derived.Test.YtckgllmahldikaaGreatM1
set_option linter.unusedSimpArgs false
set_option linter.unusedVariables false
set_option linter.unusedSectionVars false
open Option renaming some → Z,none → Y
open Bool renaming true → O,false → J
open Go.IntKind renaming i64 → I
open List renaming replicate → _J,mem_filter → _V
open Int renaming toNat_natCast → _U
section
namespace Go.Am
def rJ(s1:Sn)(es:List _A)(_m:Nat)(σ2:List _x)(k:Nat)(y:_x):Prop:=
 match es[k]? with
 |some (.whole b)=>(∃cs l,y=.box cs/\bk.bkL es _m cs=Z l/\σ2[b]?=Z (.box l))\/(∃w _l _f,y=.arr w _l _f/\σ2[b]?=Z (.arr w _l _f))
 |some (.elem b _ i)=> ∃w _l _f e,s1.σ[b]?=Z (.arr w _l _f)/\y=.box (e.map .p)/\σ2[b]?=Z (.arr w _l (_f.set i e))
 |none=>(∃cs l,y=.box cs/\bk.bkL es _m cs=Z l/\σ2[_m+(k-es.length)]?=Z (.box l))\/(∃w _l _f,y=.arr w _l _f/\σ2[_m+(k-es.length)]?=Z (.arr w _l _f))
structure Ou(s1:Sn)(es:List _A)(_q:List _x)(_m kf:Nat)(c':Sn)(σ2:List _x):Prop where
 cin:xu s1 es _q
 inv:Inv c'
 trans:bE (iX s1 es _q) c'
 len:c'.σ.length=es.length+kf
 slen:σ2.length=s1.σ.length
 dead: ∀j,j<kf->s1.σ[_m+j]?=Z .dead
 _s: ∀k y,c'.σ[k]?=Z y->rJ s1 es _m σ2 k y
 same: ∀b,b∉es.map _A.id->(b<_m\/_m+kf<=b)->σ2[b]?=s1.σ[b]?
def kOf(es:List _A)(_m kf b:Nat):Option Nat:=
 match dV (.whole b) es 0 with
 |some k=>Z k
 |none=>if _m<=b/\b<_m+kf/\b∉es.map _A.id then Z (es.length+(b-_m))else Y
def fZ(s1:Sn)(es:List _A)(_m kf:Nat)(c':Sn)(σ2:List _x):Sn:=
 ⟨σ2,⟨λb=>match kOf es _m kf b with
  |some k=>c'.g.μ k
  |none=>s1.g.μ b,c'.g.C⟩,c'.w⟩
theorem Bh{e:_A}: ∀{es:List _A} {k:Nat},dV e es k=Y->e∉es
 |[],k,_=>by simp
 |x::r,k,h=>by
  simp only[dV]at h;split at h;cases h;rename_i g;simp only[bS,not_or];exact⟨λe=>g e.symm,Bh h⟩
section
variable {s1 c':Sn} {es:List _A} {_q σ2:List _x} {_m kf:Nat} (h:Ou s1 es _q _m kf c' σ2)
theorem SM{k:Nat}{e:_A}(he:es[k]?=Z e):e.id∈es.map _A.id:=oA.2 ⟨e,jV he,rfl⟩
include h in
theorem HW{e g:Nat}{e1 e2:_A}(h1:es[e]?=Z e1)(h2:es[g]?=Z e2)(he:e1.id=e2.id):e=g:=
 VS h.cin.nodup (x:=e1.id) (by simp_all) (by simp_all)
include h in
theorem JQX{k:Nat}{e:_A}(he:es[k]?=Z e): ∃y,s1.σ[e.id]?=Z y/\y≠.dead:=by
 obtain⟨x,_,g⟩:=tH h.cin he;cases e with
 |whole b=>
  rcases g with⟨cs',l,h1,h2,rfl⟩|⟨w,j,rows',h1,rfl⟩;exact⟨_,h1,by simp⟩;exact⟨_,h1,by simp⟩
 |elem b ext i=>obtain⟨j,rows',row,h1,h2,n,rfl⟩:=g;exact⟨_,h1,by simp⟩
include h in
theorem JNQ{j:Nat}(hj:j<kf):_m+j∉es.map _A.id:=by intro n;obtain⟨e,o,g⟩:=oA.1 n;obtain⟨k,hk⟩:=jK o;obtain⟨y,q,hd⟩:=JQX h hk;rw[g,h.dead j hj]at q;simp_all
include h in
theorem JMe{k b:Nat}(he:es[k]?=Z (.whole b)):kOf es _m kf b=Z k:=by
 unfold kOf;cases hc:dV (.whole b) es 0 with
 |none=>exact absurd (jV he) (Bh hc)
 |some g=>
  obtain⟨_,e⟩:=zB hc;grind [HW]
include h in
theorem JPI{k b e i:Nat}(he:es[k]?=Z (.elem b e i)):kOf es _m kf b=Y:=by
 unfold kOf;cases hc:dV (.whole b) es 0 with
 |some j=>obtain⟨_,g⟩:=zB hc;simp only[uQ]at g;have:=HW h g he rfl;simp_all
 |none=>have:b∈es.map _A.id:=SM he;simp[this]
include h in
theorem JMA{j:Nat}(hj:j<kf):kOf es _m kf (_m+j)=Z (es.length+j):=by
 unfold kOf;have g:=JNQ h hj;cases hc:dV (.whole (_m+j)) es 0 with
 |some k=>obtain⟨_,e⟩:=zB hc;simp only[uQ]at e;exact absurd (SM e) g
 |none=>simp_all
theorem VD{b:Nat}(h1:b∉es.map _A.id)(h2:b<_m\/_m+kf<=b):kOf es _m kf b=Y:=by
 unfold kOf;cases hc:dV (.whole b) es 0 with
 |some g=>obtain⟨_,e⟩:=zB hc;simp only[uQ]at e;exact absurd (SM e) h1
 |none=>
  grind
def tgt(es:List _A)(_m k:Nat):Nat:=match es[k]? with|some e=>e.id|none=>_m+(k-es.length)
include h in
theorem pY{k:Nat}(hk:k<es.length+kf)(j: ∀b e i,es[k]?≠Z (.elem b e i)):(fZ s1 es _m kf c' σ2).g.μ (tgt es _m k)=c'.g.μ k:=by
 simp only[fZ,tgt];cases he:es[k]? with
 |some e=>
  cases e with
  |whole b=>simp only[_A.id];rw[JMe h he]
  |elem b e i=>simp_all
 |none=>
  grind [JMA]
include h in
theorem IW{k b ext i:Nat}(he:es[k]?=Z (.elem b ext i)): ∃_l _f row r j,s1.σ[b]?=Z (.arr O _l _f)/\ext=_f.length/\_f[i]?=Z row/\s1.g.μ b=Z (r,0)/\
  c'.σ[k]?=Z (.box (j.map .p))/\j.length=row.length/\row.length=_l/\c'.g.μ k=Z (r,i*_l)/\σ2[b]?=Z (.arr O _l (_f.set i j))/\(fZ s1 es _m kf c' σ2).g.μ b=Z (r,0):=by
 obtain⟨x,B,q⟩:=tH h.cin he;obtain⟨_l,_f,row,h1,h2,A,rfl⟩:=q;have D:=JA A;rcases h.cin.inv.arr _ _ _ _ h1 with⟨C,L⟩|⟨r,c,e,fz,C,K,y,_d,F,E⟩;simp_all;obtain⟨⟨cs',z,M⟩,_e⟩:=h.trans.box k _ B;have o:=h._s k _ z;unfold rJ at o;rw[he]at o;obtain⟨w,v,rows',j,n,G,H⟩:=o;rw[h1]at n;injection n with n;injection n with a1 a2 a3;subst a1 a2 a3;grind [VH,fZ,JPI]
include h in
theorem Qi{x y:AV}{v:Value}(hr:JH c' x v):bk es _m x=Z y->JH (fZ s1 es _m kf c' σ2) y v:=by
 have D: ∀{k:Nat} {z:_x},c'.σ[k]?=Z z->k<es.length+kf:=λhz=>by rw[<-h.len];grind
 induction hr generalizing y with
 |p c v hp=>intro hf;simp[bk]at hf;subst hf;exact .p _ _ hp
 |data cs vs h1 h2=>intro hf;simp[bk]at hf;subst hf;exact .data _ _ h1 h2
 |cp cs off r o vals W T=>intro hf;simp[bk]at hf;subst hf;exact .cp cs off r o vals W T
 |unk x=>intro hf;simp[bk]at hf;subst hf;exact .unk x
 |pre=>intro hf;simp[bk]at hf
 |agg cs vs h1 H h2 ih=>
  intro hf;simp only[bk]at hf;split at hf;rename_i l _c;cases hf;obtain⟨R,Q⟩:=wB _c;refine .agg _ _ (by omega) H λi y v N E=>?_;grind [JA];cases hf
 |tup cs vs h1 h2 ih=>
  intro hf;simp only[bk]at hf;split at hf;rename_i l _c;cases hf;obtain⟨R,Q⟩:=wB _c;refine .tup _ _ (by omega) λi y v N E=>?_;grind [JA];cases hf
 |ptr k off r o hm hb=>
  intro hf;obtain⟨cs,hb⟩:=hb;have hk:=D hb;have B:=h._s k _ hb;unfold rJ at B;simp only[bk]at hf;split at hf;rename_i F;have a6:es[k]?=Z es[k]:=aZ F;split at hf;rename_i b j;cases hf;have A:=pY h hk (by rw[j];simp);simp only[tgt,j,_A.id]at A;rw[j]at B;rcases B with⟨cs',l,C,_d,P⟩|⟨w,_l,_f,C,_d⟩;exact .ptr b off r o (by simp_all) ⟨l,P⟩;cases C;rename_i b e i j;cases hf;obtain⟨_l,_f,row,r',L,f1,U,f3,f4,f5,f6,f7,_e,V,S⟩:=IW h j;rw[hm]at _e;injection _e with _e;injection _e with g1 g2;subst g1 g2;exact .ep b e i off _ O _l (_f.set i L) ⟨_,_,rfl⟩ V (by simp[U]) λ_ _=>⟨r,S,rfl⟩;cases hf;rename_i K;cases hf;have j:es[k]?=Y:=nT (by omega);have A:=pY h hk (by rw[j];simp);simp only[tgt,j]at A;rw[j]at B;rcases B with⟨cs',l,C,_d,P⟩|⟨w,_l,_f,C,_d⟩;exact .ptr _ off r o (by simp_all) ⟨l,P⟩;cases C
 |_r k i n v wm _l _f H hb G E=>
  intro hf;have hk:=D hb;have B:=h._s k _ hb;unfold rJ at B;have go: ∀b,(fZ s1 es _m kf c' σ2).g.μ b=c'.g.μ k->σ2[b]?=Z (.arr wm _l _f)->JH (fZ s1 es _m kf c' σ2) (._r b i n) v:=(by intro b A M;refine ._r b i n v wm _l _f H M G λe=>?_;rcases E e with⟨_b,q1,q2,_a⟩|⟨r,cap,c,C,fz,_b,q⟩;exact .inl ⟨by simp_all,q1,q2,_a⟩;exact .inr ⟨r,cap,c,C,fz,by simp_all,q⟩);simp only[bk]at hf;split at hf;rename_i F;split at hf;rename_i b j;cases hf;have A:=pY h hk (by rw[j];simp);grind [tgt,_A.id];cases hf;rename_i K;cases hf;have j:es[k]?=Y:=nT (by omega);have A:=pY h hk (by rw[j];simp);grind [tgt]
 |ep k ext i off v wm _l _f H hb G E=>
  intro hf;have hk:=D hb;have B:=h._s k _ hb;unfold rJ at B;have go: ∀b,(fZ s1 es _m kf c' σ2).g.μ b=c'.g.μ k->σ2[b]?=Z (.arr wm _l _f)->JH (fZ s1 es _m kf c' σ2) (.ep b ext i off) v:=by intro b A M;refine .ep b ext i off v wm _l _f H M G λC _d=>?_;simp_all
  simp only[bk]at hf;split at hf;rename_i F;split at hf;rename_i b j;cases hf;have A:=pY h hk (by rw[j];simp);grind [tgt,_A.id];cases hf;rename_i K;cases hf;have j:es[k]?=Y:=nT (by omega);have A:=pY h hk (by rw[j];simp);grind [tgt]
 |fn f first caps fs cs h1 h2 _ _ a7 a5=>
  intro hf;simp only[bk]at hf;split at hf
  ·rename_i a c ha hc;cases hf;obtain⟨R,Q⟩:=wB ha;obtain⟨k3,k4⟩:=wB hc;refine .fn f a c fs cs (by omega) (by omega) (λi y v N E=>?_) (λi y v N E=>?_)
   all_goals grind [JA]
  cases hf
inductive e9(es:List _A)(_m kf b:Nat):Prop where|_s (k:Nat):k<es.length+kf->tgt es _m k=b->(∀b e i,es[k]?≠Z (.elem b e i))->e9 es _m kf b|elem (k e i:Nat):es[k]?=Z (.elem b e i)->e9 es _m kf b|other:b∉es.map _A.id->(b<_m\/_m+kf<=b)->e9 es _m kf b
theorem vX(b:Nat):e9 es _m kf b:=by
 by_cases j:b∈es.map _A.id;obtain⟨e,h,g⟩:=oA.1 j;obtain⟨k,hk⟩:=jK h;have q:=JA hk;cases e with
 |whole o=>simp only[_A.id]at g;subst g;exact ._s k (by omega) (by grind [tgt,_A.id]) (by rw[hk];simp)
 |elem o e' n=>simp only[_A.id]at g;subst g;exact .elem k e' n hk
 by_cases r:_m<=b/\b<_m+kf;have h:es[es.length+(b-_m)]?=Y:=nT (by omega);refine ._s (es.length+(b-_m)) (by omega) ?_ (by rw[h];simp);grind [tgt];exact .other j (by omega)
include h in
theorem NB{k:Nat}(hk:k<es.length+kf)(j: ∀b e i,es[k]?≠Z (.elem b e i))(r o:Nat):
  Wr1 (fZ s1 es _m kf c' σ2) (tgt es _m k) r o↔Wr1 c' k r o:=by
 have q:=pY h hk j;have g:k<c'.σ.length:=by rw[h.len];exact hk
 have n:c'.σ[k]?=Z c'.σ[k]:=aZ g;have w:=h._s k _ n;unfold rJ at w;unfold Wr1;rw[n,q];have v:(fZ s1 es _m kf c' σ2).σ=σ2:=rfl;rw[v];cases he:es[k]? with
 |some e=>
  grind [tgt,_A.id,wB]
 |none=>
  grind [tgt,wB]
include h in
theorem NS{k b e i:Nat}(he:es[k]?=Z (.elem b e i))(r o:Nat):Wr1 (fZ s1 es _m kf c' σ2) b r o↔Wr1 s1 b r o:=by
 obtain⟨_l,_f,row,r',g,v,x,z,y,w,B,q,n,A,j⟩:=IW h he;grind [Wr1,fZ]
include h in
theorem ll{b:Nat}(h1:b∉es.map _A.id)(h2:b<_m\/_m+kf<=b)(r o:Nat):Wr1 (fZ s1 es _m kf c' σ2) b r o↔Wr1 s1 b r o:=by
 unfold Wr1;have j:(fZ s1 es _m kf c' σ2).σ=σ2:=rfl;have e:(fZ s1 es _m kf c' σ2).g.μ b=s1.g.μ b:=by grind [fZ,VD]
 rw[j,h.same b h1 h2,e]
include h in
theorem zt{r o:Nat}(hw:Wr c' r o):(∃k e,es[k]?=Z e/\Wr1 (iX s1 es _q) k r o/\Wr1 s1 e.id r o)\/s1.w.heap.size<=r:=by
 rcases h.trans.wnew r o hw with⟨k,hk⟩|j;obtain⟨g,n⟩:=vI h.cin k r o hk;have q:es[k]?=Z es[k]:=aZ g;grind [yK];exact .inr j
include h in
theorem yy:bE s1 (fZ s1 es _m kf c' σ2):=by
 refine⟨?_,λr o hc=>h.trans.cmono r o hc,λr o hc=>?_,λr o ⟨b,E⟩=>?_,Nat.le_of_eq h.slen.symm,λb cs hb=>?_,λb wm _l _f hb=>?_⟩;refine h.trans.keep.mono λr o ⟨k,hk⟩=>?_;exact⟨_,(vI h.cin k r o hk).2⟩;rcases h.trans.cnew r o hc with hc|⟨k,hk⟩|M;exact .inl hc;exact .inr (.inl ⟨_,(vI h.cin k r o hk).2⟩);exact .inr (.inr M);cases vX (es:=es) (_m:=_m) (kf:=kf) b with
 |_s k hk ht n=>
  subst ht;rcases zt h ⟨k,(NB h hk n r o).1 E⟩with⟨_a,e,_,_,H⟩|M;exact .inl ⟨_,H⟩;simp_all
 |elem k e i g=>exact .inl ⟨b,(NS h g r o).1 E⟩
 |other h1 h2=>exact .inl ⟨b,(ll h h1 h2 r o).1 E⟩
 ·cases vX (es:=es) (_m:=_m) (kf:=kf) b with
  |_s k hk ht n=>
   cases g:es[k]? with
   |none=>
    exfalso;simp only[tgt,g]at ht;have G:es.length<=k:=by simp_all
    have:=h.dead (k-es.length) (by omega);simp_all
   |some e=>
    cases e with
    |elem b e i=>simp_all
    |whole R=>
     simp only[tgt,g,_A.id]at ht;subst ht;obtain⟨x,F,y⟩:=tH h.cin g;rcases y with⟨cs',l,h1,h2,rfl⟩|⟨w,v,rows',h1,rfl⟩
     ·rw[hb]at h1;injection h1 with h1;cases h1
      obtain⟨⟨V,D,_c⟩,L⟩:=h.trans.box k _ F;have q:=h._s k _ D;unfold rJ at q;rw[g]at q;have C:=pY h hk n;simp only[tgt,g,_A.id]at C;rcases q with⟨K,_d,j,B,N⟩|⟨w,_l,_f,j,B⟩
      ·cases j;refine⟨⟨_d,N,?_⟩,?_⟩
       all_goals grind [wB,wE,zA]
      cases j
     simp_all
  |elem k e i g=>
   grind [IW]
  |other h1 h2=>
   refine⟨⟨cs,by rw[<-hb];exact h.same b h1 h2,rfl⟩,?_⟩;grind [fZ,VD]
 cases vX (es:=es) (_m:=_m) (kf:=kf) b with
 |_s k hk ht n=>
  cases g:es[k]? with
  |none=>
   exfalso;simp only[tgt,g]at ht;have G:es.length<=k:=by simp_all
   have:=h.dead (k-es.length) (by omega);simp_all
  |some e=>
   cases e with
   |elem b e i=>simp_all
   |whole R=>
    simp only[tgt,g,_A.id]at ht;subst ht;obtain⟨x,F,y⟩:=tH h.cin g;rcases y with⟨cs',l,h1,h2,rfl⟩|⟨w,v,rows',h1,rfl⟩;simp_all;rw[hb]at h1;injection h1 with h1;injection h1 with a1 a2 a3;subst a1 a2 a3;obtain⟨wm',A,D,_c,L,q4⟩:=h.trans.arr k _ _ _ F;have q:=h._s k _ D;unfold rJ at q;rw[g]at q;have C:=pY h hk n;simp only[tgt,g,_A.id]at C;rcases q with⟨K,_d,j,B,N⟩|⟨w,Q,P,j,B⟩;cases j;injection j with a1 a2 a3;subst a1 a2 a3;exact⟨wm',A,B,_c,L,λe=>by grind [zA]⟩
 |elem k e i g=>
  obtain⟨v,rows',row,r',T,z,f2,f3,S,f5,f6,_b,W,U,_e⟩:=IW h g;rw[hb]at z;injection z with z;injection z with a1 a2 a3;subst a1 a2 a3;exact⟨O,_,U,λ_=>rfl,by simp,λ_=>by rw[_e,S]⟩
 |other h1 h2=>
  refine⟨wm,_f,by rw[<-hb];exact h.same b h1 h2,id,zQ0 _,λ_=>?_⟩;grind [fZ,VD]
include h in
theorem JR0:Inv (fZ s1 es _m kf c' σ2):=by
 have hi:=h.cin.inv;have t:=yy h;have M: ∀{b},¬(b∈es.map _A.id\/(_m<=b/\b<_m+kf))->b∉es.map _A.id/\(b<_m\/_m+kf<=b):=λH=>⟨λB=>H (.inl B),by omega⟩;have A: ∀{k b e i r o},es[k]?=Z (.elem b e i)->(Wr1 (iX s1 es _q) k r o↔Wr1 c' k r o):=(by intro k b e i r o q;obtain⟨x,hx,a7⟩:=tH h.cin q;obtain⟨_l,_f,row,h1,h2,h3,rfl⟩:=a7;obtain⟨⟨cs',q1,q2⟩,q3⟩:=h.trans.box k _ hx;grind [iX,Wr1]);have N: ∀{k b r o},k<es.length+kf->Wr1 c' k r o->Wr1 s1 b r o->(∃n,es[n]?=Z (.whole b)\/ ∃e i,es[n]?=Z (.elem b e i)/\n=k):=by
  intro k b r o hk _d hb;rcases zt h ⟨k,_d⟩with⟨n,e,q,ak,y⟩|H;have E:=hi.apart _ _ _ _ y hb;cases e with
  |whole b'=>grind [_A.id]
  |elem b' e' i'=>
   simp only[_A.id]at E;subst E;have:=h.inv.apart _ _ _ _ ((A q).1 ak) _d;grind
  have:=yJ hi b r o hb;omega
 refine mU hi t (λb=>b∈es.map _A.id\/(_m<=b/\b<_m+kf)) ?_ ?_ ?_ ?_ ?_ ?_ ?_ ?_;intro b H;obtain⟨h1,h2⟩:=M H;exact⟨h.same b h1 h2,by grind [fZ,VD]⟩;intro b r o v H _d hv;refine h.trans.keep.cell ?_ hv;rintro⟨k,hk⟩;obtain⟨D,y⟩:=vI h.cin k r o hk;have q:es[k]?=Z es[k]:=aZ D;rw[yK q]at y;have:=hi.apart _ _ _ _ y _d;simp_all;intro b cs hd hb;have hb:σ2[b]?=Z (.box cs):=hb;cases vX (es:=es) (_m:=_m) (kf:=kf) b with
 |other h1 h2=>grind
 |elem k e i q=>
  grind [IW]
 |_s k hk ht U=>
  subst ht;have D:k<c'.σ.length:=by rw[h.len];exact hk
  have hg:c'.σ[k]?=Z c'.σ[k]:=aZ D;have ho:=h._s k _ hg;unfold rJ at ho;have a6: ∃W,c'.σ[k]?=Z (.box W)/\bk.bkL es _m W=Z cs:=by
   cases q:es[k]? with
   |some e=>
    grind [tgt,_A.id]
   |none=>
    grind [tgt]
  obtain⟨W,h0,hl⟩:=a6;obtain⟨k1,k2⟩:=wB hl;obtain⟨r,o,c,e,fz,B,hh,c6,hx,ba⟩:=h.inv.box _ _ h0;refine⟨r,o,c,e,fz,by grind [pY],hh,by omega,λi x c4=>?_,by simp_all⟩;grind [JA,Qi]
 intro b wm _l _f hd hb;have hb:σ2[b]?=Z (.arr wm _l _f):=hb;cases vX (es:=es) (_m:=_m) (kf:=kf) b with
 |other h1 h2=>grind
 |elem k e i q=>
  obtain⟨bg,rows',row,r',bm,f1,f2,f3,f4,f5,f6,f7,f8,f9,bc⟩:=IW h q;rw[hb]at f9;injection f9 with f9;injection f9 with a1 a2 a3;subst a1 a2 a3;have D:=JA f3;rcases hi.arr _ _ _ _ f1 with⟨B,T⟩|⟨r,c,e1,fz,B,hh,ai,hl,hx,ba⟩;simp_all;rw[f4]at B;injection B with B;injection B with B _;subst B;obtain⟨c2,q1,q2,q3⟩:=t.keep.2.1 _ _ _ _ hh;obtain⟨rr,oo,c3,e3,c5,m3,R,bh,b0,bj⟩:=h.inv.box _ _ f5;rw[f8]at m3;injection m3 with m3;injection m3 with z _e;subst z _e;have b3:c'.w.heap[r']?=Z (.cells c2 e1 fz):=q1;rw[b3]at R;injection R with R;injection R with z _e w3;subst z _e w3;refine .inr ⟨r',c2,e1,fz,bc,q1,λc8 c7=>?_,by simp;omega,λ_c j af x0 L _b=>⟨?_,λh=>by cases h⟩,by simp_all⟩;grind;have bu:=JA _b;by_cases ae:_c=i;subst ae;rw[sW D]at L;cases L;obtain⟨v,hv,T,_⟩:=b0 j (.p x0) (by simp[_b]);refine⟨v,hv,?_⟩;cases T with|p _ _ T=>exact T
  rw[AN (Ne.symm ae)]at L;obtain⟨⟨v',c9,aw⟩,_⟩:=hx _c j af x0 L _b;refine⟨v',?_,aw.mono hi t⟩;have a9:cellAt s1.w r' (_c*_l+j)=Z v':=by grind [kX]
  have b4:j<_l:=by grind
  have ay: ¬Wr (iX s1 es _q) r' (_c*_l+j):=by
   rintro⟨n,g⟩;obtain⟨F,y⟩:=vI h.cin n _ _ g;have C:es[n]?=Z es[n]:=aZ F;rw[yK C]at y;have bd:Wr1 s1 b r' (_c*_l+j):=by grind [Wr1]
   have E:=hi.apart _ _ _ _ y bd;have K:n=k:=HW h C q E;subst K;obtain⟨x,b7,a7⟩:=tH h.cin q;obtain⟨bq,bf,V,G,S,g3,rfl⟩:=a7;rw[f1]at G;injection G with G;injection G with z1 z2 z3;subst z2 z3;have ag:(iX s1 es _q).σ[n]?=Z (.box (V.map .p)):=b7;unfold Wr1 at g;rw[ag,VH q f1 f4]at g;obtain⟨o0,_a,hlo,b5⟩:=g;injection _a with _a;injection _a with _ _a;subst _a;have bn:=ai V (jV g3);simp at b5;rcases zQ3 _c i with aj|bs;have:=mX aj b4;omega;have:=zQ4 _l (show i+1<=_c by omega);grind
  have:=h.trans.keep.cell ay a9;grind [kX]
 |_s k hk ht U=>
  subst ht;have D:k<c'.σ.length:=by rw[h.len];exact hk
  have hg:c'.σ[k]?=Z c'.σ[k]:=aZ D;have ho:=h._s k _ hg;unfold rJ at ho;have a6:c'.σ[k]?=Z (.arr wm _l _f):=by
   cases q:es[k]? with
   |some e=>
    grind [tgt,_A.id]
   |none=>
    grind [tgt]
  rcases h.inv.arr _ _ _ _ a6 with⟨B,T⟩|⟨r,c,e,fz,B,hq⟩;exact .inl ⟨by grind [pY],T⟩;exact .inr ⟨r,c,e,fz,by grind [pY],hq⟩
 
 intro b1 b2 r o hd h1 h2;cases vX (es:=es) (_m:=_m) (kf:=kf) b1 with
 |other G S=>grind
 |_s k1 a5 b8 al=>
  subst b8;have z:=(NB h a5 al r o).1 h1;cases vX (es:=es) (_m:=_m) (kf:=kf) b2 with
  |_s k2 Q a4 P=>subst a4;have _e:=(NB h Q P r o).1 h2;rw[h.inv.apart _ _ _ _ z _e]
  |elem k2 e i q=>
   exfalso;have _e:=(NS h q r o).1 h2;obtain⟨n,g|⟨e',i',g,K⟩⟩:=N a5 z _e;have:=HW h g q rfl;simp_all;simp_all
  |other G S=>
   exfalso;have _e:=(ll h G S r o).1 h2;obtain⟨n,g|⟨e',i',g,K⟩⟩:=N a5 z _e;exact G (SM g);simp_all
 |elem k1 e1 i1 ad=>
  have z:=(NS h ad r o).1 h1;cases vX (es:=es) (_m:=_m) (kf:=kf) b2 with
  |_s k2 Q a4 P=>
   subst a4;exfalso;have _e:=(NB h Q P r o).1 h2;obtain⟨n,g|⟨e',i',g,K⟩⟩:=N Q _e z;have:=HW h g ad rfl;simp_all;simp_all
  |elem k2 e i q=>exact hi.apart _ _ _ _ z ((NS h q r o).1 h2)
  |other G S=>exact hi.apart _ _ _ _ z ((ll h G S r o).1 h2)
 exact λr o hc=>(h.inv.const r o hc).1;intro r o b hc hd _d;cases vX (es:=es) (_m:=_m) (kf:=kf) b with
 |other G S=>grind
 |_s k hk ht U=>subst ht;exact(h.inv.const r o hc).2 _ ((NB h hk U r o).1 _d)
 |elem k e i q=>
  have z:=(NS h q r o).1 _d;rcases h.trans.cnew r o hc with a0|⟨n,g⟩|H;exact(hi.const r o a0).2 _ z;obtain⟨F,y⟩:=vI h.cin n _ _ g;have C:es[n]?=Z es[n]:=aZ F;rw[yK C]at y;have E:=hi.apart _ _ _ _ y z;have K:n=k:=HW h C q E;subst K;exact(h.inv.const r o hc).2 _ ((A q).1 g);have H:s1.w.heap.size<=r:=H;have:=yJ hi _ _ _ z;omega
 intro r o b hc b6 hd _d;rcases h.trans.cnew r o hc with a0|⟨n,g⟩|H;exact b6 a0;obtain⟨F,y⟩:=vI h.cin n _ _ g;have C:es[n]?=Z es[n]:=aZ F;rw[yK C]at y;have E:=hi.apart _ _ _ _ y _d;simp_all;have H:s1.w.heap.size<=r:=H;have:=yJ hi _ _ _ _d;omega
end
section
variable {P:Program} {F:Orc} {s:Sn} {a:Act} {env:List (Nat×AV)} {o:Oper} {_m:Nat} {e:Eff}
theorem R2{r:List _x}(hi:Inv s)(B:Frz r s.σ){x:AV}{y:AV×List (Nat×_x)}{v:Value}(h:(kH x).run ⟨env,r⟩=Z y)(hr:JH s x v):
  ∃g',Inv ⟨upd y.2 s.σ,g',s.w⟩/\bE s ⟨upd y.2 s.σ,g',s.w⟩/\Frz s.σ (upd y.2 s.σ)/\JH ⟨upd y.2 s.σ,g',s.w⟩ y.1 v:=by
 have same: ∀{z:AV},(RM.ret (z,[]):RM (AV×List (Nat×_x))).run ⟨env,r⟩=Z y->JH s z v-> ∃g',Inv ⟨upd y.2 s.σ,g',s.w⟩/\bE s ⟨upd y.2 s.σ,g',s.w⟩/\Frz s.σ (upd y.2 s.σ)/\JH ⟨upd y.2 s.σ,g',s.w⟩ y.1 v:=(by intro z j hr;simp only[RM.run]at j;cases j;exact⟨s.g,hi,.refl s,.refl _,hr⟩);cases x with
 |_r b i n=>
  simp only[kH]at h;obtain⟨C,h1,h⟩:=bind_some h;obtain⟨g',o,A,q,c,hc,E⟩:=OP hi B h1 hr;rw[hc]at h;simp only[RM.run]at h;cases h;exact⟨g',o,A,q,.p _ _ E⟩
 |agg cs=>
  simp only[kH]at h;obtain⟨C,h1,h⟩:=bind_some h;simp only[RM.run]at h;cases h;obtain⟨g',o,A,q,F,D⟩:=xo hi B h1 hr;cases hr with
  |agg _ vs h1 _e h2=>exact⟨g',o,A,q,.data _ _ F λi x v G H=>D i x v G H⟩
 |tup=>grind [kH,RM.run]
 |p c=>exact same h hr
 |data cs=>exact same h hr
 |ptr b off=>exact same h hr
 |cp cs off=>exact same h hr
 |ep b e i off=>exact same h hr
 |fn f first caps=>exact same h hr
 |unk=>exact same h hr
 |pre b n k=>exact same h hr
theorem zx{q:List _x}: ∀{xs:List AV} {s:Sn} {y:List AV×List (Nat×_x)} {vs:List Value},Inv s->Frz q s.σ->(lN xs).run ⟨env,q⟩=Z y->xs.length=vs.length->
  (∀(i:Nat) x v,xs[i]?=Z x->vs[i]?=Z v->JH s x v)->
  ∃g',Inv ⟨upd y.2 s.σ,g',s.w⟩/\bE s ⟨upd y.2 s.σ,g',s.w⟩/\Frz s.σ (upd y.2 s.σ)/\y.1.length=vs.length/\
   ∀(i:Nat) x v,y.1[i]?=Z x->vs[i]?=Z v->JH ⟨upd y.2 s.σ,g',s.w⟩ x v
 |[],s,y,vs,hi,j,h,e,k=>by
  simp only[lN,RM.run]at h;cases h;exact⟨s.g,hi,.refl s,.refl _,by simpa using e,λi c v hc=>by simp at hc⟩
 |x::xs,s,y,[],hi,j,h,e,k=>by simp at e
 |x::xs,s,y,v::vs,hi,j,h,e,k=>by
  simp only[lN]at h;obtain⟨z,h1,h⟩:=bind_some h;obtain⟨K,h2,h⟩:=bind_some h;simp only[RM.run]at h;cases h;obtain⟨D,i1,o,n,_e⟩:=R2 hi j h1 (k 0 x v rfl rfl);obtain⟨C,i2,r,A,B,_d⟩:=zx (s:=⟨upd z.2 s.σ,D,s.w⟩) i1 (j.trans n) h2 (by simpa using e) λi x v E F=>(k (i+1) x v (by simpa using E) (by simpa using F)).mono hi o;refine⟨C,by grind [fM],by rw[fM];exact o.trans r,by rw[fM];exact n.trans A,by simp[B],λi c' H hc' G=>?_⟩;grind [JH.mono,upd]
def Mu(s1:Sn)(es:List _A)(_m:Nat)(e:_A)(x:_x)(y:Nat×_x):Prop:=
 y.1=e.id/\match e with
 | .whole _=>(∃cs l,x=.box cs/\bk.bkL es _m cs=Z l/\y.2=.box l)\/(∃w _l _f,x=.arr w _l _f/\y.2=.arr w _l _f)
 | .elem b _ i=> ∃w _l _f g,s1.σ[b]?=Z (.arr w _l _f)/\x=.box (g.map .p)/\y.2=.arr w _l (_f.set i g)
theorem JKt{g:List _x}{ws:List (Nat×_x)}(j:s.σ=upd ws g){es:List _A}{en:_A}{x:_x}{y:Nat×_x}(h:(vP ws es _m en x).run ⟨env,g⟩=Z y):Mu s es _m en x y:=by
 unfold vP at h;split at h;rename_i b cs;split at h;rename_i l n;simp only[RM.run]at h;cases h;exact⟨rfl,.inl ⟨cs,l,rfl,n,rfl⟩⟩;cases h;simp only[RM.run]at h;cases h;exact⟨rfl,.inr ⟨_,_,_,rfl,rfl⟩⟩;rename_i b ext i cs;obtain⟨z,h1,h⟩:=bind_some h;have hb:=lq h1;rw[<-j]at hb;cases z with
 |arr w _l _f=>
  dsimp only at h;split at h;rename_i e k;simp only[RM.run]at h;cases h;exact⟨rfl,w,_l,_f,e,hb,by grind [OB],rfl⟩;cases h
 |_=>cases h
 cases h
theorem B7{j:List _x}{ws:List (Nat×_x)}(n:s.σ=upd ws j){es:List _A}: ∀{e:List _A} {xs:List _x} {g:List (Nat×_x)},(jT ws es _m e xs).run ⟨env,j⟩=Z g->
  e.length=g.length/\e.length<=xs.length/\ ∀(k:Nat) en x y,e[k]?=Z en->xs[k]?=Z x->g[k]?=Z y->Mu s es _m en x y
 |[],xs,g,h=>by grind [jT,RM.run]
 |_::_,[],g,h=>by cases h
 |en::e,x::xs,g,h=>by
  simp only[jT]at h;obtain⟨y,h1,h⟩:=bind_some h;obtain⟨l,h2,h⟩:=bind_some h;simp only[RM.run]at h;cases h;obtain⟨o,q,r⟩:=B7 n h2;grind [JKt]
theorem ov{es:List _A}: ∀{xs:List _x} {g:Nat} {e:List (Nat×_x)},iU es _m g xs=Z e->
  xs.length=e.length/\ ∀(j:Nat) x y,xs[j]?=Z x->e[j]?=Z y->y.1=g+j/\((∃cs l,x=.box cs/\bk.bkL es _m cs=Z l/\y.2=.box l)\/(∃w _l _f,x=.arr w _l _f/\y.2=.arr w _l _f))
 |[],g,e,h=>by grind [iU]
 | .dead::_,g,e,h=>by grind [iU]
 | .box cs::xs,g,e,h=>by
  simp only[iU]at h;split at h;rename_i c l hc k;cases h;obtain⟨n,o⟩:=ov k;grind;cases h
 | .arr w _l _f::xs,g,e,h=>by
  simp only[iU]at h;split at h;rename_i l k;cases h;obtain⟨n,o⟩:=ov k;grind;cases h
theorem zm(b:Nat)(p q:List (Nat×_x)):kN b (p++q)=match kN b q with
  |some y=>Z y
  |none=>kN b p:=by
 induction p with
 |nil=>grind [kN]
 |cons x p ih=>
  grind [kN]
theorem mj{b:Nat}{x:_x}: ∀{ws:List (Nat×_x)},(ws.map (·.1)).Nodup-> ∀{k:Nat},ws[k]?=Z (b,x)->kN b ws=Z x
 |[],_,k,h=>by simp at h
 |(c,z)::r,hn,k,h=>by
  obtain⟨h1,h2⟩:=List.nodup_cons.1 hn;simp only[kN];cases k with
  |zero=>
   grind [zC]
  |succ k=>rw[mj h2 (k:=k) (by simpa using h)]
theorem JGy(n k:Nat):((List.range k).map (n+ ·)).Nodup:=by
 grind [List.nodup_range]
theorem zq(hF:kT P F){f:FuncId}{ar:List AV×List (Nat×_x)}{q:Nat}{vals:Array Value}(H: ∀j,j<q->s.σ[_m+j]?=Z .dead)
  {g1:Gh} (i1:Inv ⟨upd ar.2 s.σ,g1,s.w⟩) (t1:bE s ⟨upd ar.2 s.σ,g1,s.w⟩) (f1:Frz s.σ (upd ar.2 s.σ)) (l1:ar.1.length=vals.toList.length)
  (r1: ∀(i:Nat) x v,ar.1[i]?=Z x->vals.toList[i]?=Z v->JH ⟨upd ar.2 s.σ,g1,s.w⟩ x v)
  (h:(gM F f ar q _m).run ⟨env,s.σ⟩=Z e)
  (ai: ∀fn,P.funcs[f]?=some fn→fn.body.isSome=true→(fn.name== "runtime.NumGoroutine")=false→(execOp a.eval o).run P s.w=.ok (.enter f vals) s.w):bQ P o a s e:=by
 unfold gM at h;obtain⟨b7,h2,h⟩:=bind_some h;obtain⟨es,h3,h⟩:=bind_some h;split at h;rename_i ah;split at h;cases h;rename_i N a6;obtain⟨_q,h4,h⟩:=bind_some h;split at h;cases h;rename_i r a8;split at h;rename_i V;obtain⟨k,hlen,hk⟩: ∃k,r.2.length=es.length+k/\k<=q:=⟨r.2.length-es.length,by omega,by omega⟩;have M: ∀j,j<k->s.σ[_m+j]?=Z .dead:=λj hj=>H j (by omega);clear V;split at h;rename_i v fresh hv K;obtain⟨n,h5,h⟩:=bind_some h;simp only[RM.run]at h;cases h
 let s1:Sn:=⟨upd ar.2 s.σ,g1,s.w⟩
 obtain⟨bl,a5⟩:=A7 (s:=s1) rfl h4;have cin:xu s1 es _q:=⟨i1,WH ah,bl,a5⟩;obtain⟨⟨fn,af,_c,S⟩,R⟩:=hF f N _q r a8;obtain⟨q1,q2⟩:=wE a6;have ci:=JUS cin;have hc:=R (iX s1 es _q).g s.w vals ci (by grind) (λi x v hx hv=>by have A:=JA hx;have _b:ar.1[i]?=Z (ar.1[i]'(by omega)):=aZ _;exact Ni cin (r1 i _ v _b (by simpa using hv)) (q2 i _ x _b hx));intro next Q T;simp only[Oper.wp,ai fn af _c S,Oper.upon];refine hc.mono ?_;rintro e w' ⟨rv,g',rfl,a7,_e,a3⟩;simp only;obtain⟨b1,b2,b3⟩:=B7 (s:=s1) rfl h5;obtain⟨n1,n2⟩:=ov K;have B: ∀j,j<k->s1.σ[_m+j]?=Z .dead:=λj hj=>f1.2 _ _ (M j hj) (by simp);have ba:(r.2.drop es.length).length=k:=by simp;omega
 have ac:n.map (·.1)=es.map _A.id:=(by apply zQ6;intro i;rw[iL,iL];by_cases A:i<es.length;have E:es[i]?=Z es[i]:=aZ A;have L:n[i]?=Z (n[i]'(by omega)):=aZ _;have G:r.2[i]?=Z (r.2[i]'(by omega)):=aZ _;have:=(b3 i _ _ _ E G L).1;grind;grind);have ab: ∀j,j<k->fresh[j]?=Z (_m+j,(fresh[j]?.map (·.2)).getD .dead):=(by grind);have am:(fresh.map (·.1)).Nodup:=(by have:fresh.map (·.1)=(List.range k).map (_m+ ·):=(by apply zQ6;grind);grind [JGy]);have al: ∀b,b∈fresh.map (·.1)↔_m<=b/\b<_m+k:=(by intro b;constructor;grind [List.getElem?_of_mem];intro hm;have:=ab (b-_m) (by omega);grind);have W:(upd (n++fresh) s1.σ).length=s1.σ.length:=CU _ _;have U: ∀{q:Nat} {en:_A},es[q]?=Z en->en.id<s1.σ.length/\ ¬(_m<=en.id/\en.id<_m+k):=by
  intro q en C;obtain⟨x,_,_a⟩:=tH cin C;have z: ∃y,s1.σ[en.id]?=Z y/\y≠.dead:=by
   cases en with
   |whole b=>
    rcases _a with⟨cs',l,h1,h2,rfl⟩|⟨w,a2,rows',h1,rfl⟩;exact⟨_,h1,by simp⟩;exact⟨_,h1,by simp⟩
   |elem b ext i=>obtain⟨a2,rows',row,h1,h2,h3,rfl⟩:=_a;exact⟨_,h1,by simp⟩
  obtain⟨y,z,hd⟩:=z;refine⟨JA z,λhm=>?_⟩;have:=B (en.id-_m) (by omega);rw[show _m+(en.id-_m)=en.id by omega,z]at this;grind
 have aa: ∀{q:Nat} {en:_A} {y:Nat×_x},es[q]?=Z en->n[q]?=Z y->(upd (n++fresh) s1.σ)[en.id]?=Z y.2:=by intro q en y C z;obtain⟨A,b8⟩:=U C;have G:r.2[q]?=Z (r.2[q]'(by grind)):=aZ _;have ag:=(b3 q en _ y C G z).1;rw[yQ _ _ _ A,zm,zC (by grind)];simp only;rw[mj (x:=y.2) (by rw[ac];exact cin.nodup) (k:=q) (by grind)]
 have av: ∀{j:Nat} {y:Nat×_x},j<k->fresh[j]?=Z y->(upd (n++fresh) s1.σ)[_m+j]?=Z y.2:=(by grind [yQ,zm,mj]);have co:Ou s1 es _q _m k ⟨r.2,g',w'⟩ (upd (n++fresh) s1.σ):=by
  refine⟨cin,a7,_e,hlen,W,B,λq y z=>?_,λb bc b9=>?_⟩;have z:r.2[q]?=Z y:=z;unfold rJ;cases C:es[q]? with
  |some en=>
   have A:=JA C;have L:n[q]?=Z (n[q]'(by omega)):=aZ _;obtain⟨ag,a0⟩:=b3 q en y _ C z L;have hg:=aa C L;cases en with
   |whole b=>
    rcases a0 with⟨cs,l,E,G,_d⟩|⟨w,_l,_f,E,_d⟩;exact .inl ⟨cs,l,E,G,by rw[<-_d];exact hg⟩;exact .inr ⟨w,_l,_f,E,by rw[<-_d];exact hg⟩
   |elem b ext i=>obtain⟨w,_l,_f,a4,E,G,_d⟩:=a0;exact⟨w,_l,_f,a4,E,G,by rw[<-_d];exact hg⟩
  |none=>
   have bb:es.length<=q:=(by grind);have A:=JA z;have L:fresh[q-es.length]?=Z (fresh[q-es.length]'(by omega)):=aZ _;grind
  grind [yQ,zC]
 have oi:=JR0 co;have ot:=yy co;have D:upd (ar.2++n++fresh) s.σ=upd (n++fresh) s1.σ:=by grind [fM]
 refine T rv w' (fZ s1 es _m k ⟨r.2,g',w'⟩ (upd (n++fresh) s1.σ)).g ?_ ?_ ?_;rw[D];exact oi;rw[D];exact t1.trans ot;rw[D];exact Qi co a3 hv;cases h;cases h;cases h
theorem O5{f:FuncId}{args:List AV}{k:Nat}{s:St}(h:(jD F f args k _m).run s=Z e): ∃ar,(lN args).run s=Z ar/\(gM F f ar k _m).run s=Z e:=by
 unfold jD at h;obtain⟨ar,h1,h⟩:=bind_some h;obtain⟨w,h2,h⟩:=bind_some h;obtain⟨es,v,h⟩:=bind_some h;refine⟨ar,h1,?_⟩;unfold gM;rw[run_bind,h2,JF,run_bind,v,JF];split at h;rename_i n;rw[if_pos n];split at h;cases h;rename_i o g;obtain⟨_q,q,h⟩:=bind_some h
 try rw[g]
 try dsimp only
 rw[run_bind,q,JF];split at h;cases h;rename_i r j
 try rw[j]
 try dsimp only
 split at h;grind;cases h;cases h
theorem O8(A:kT P F)(hi:Inv s){f:FuncId}{args:List AV}{k:Nat}{vals:Array Value}(g: ∀j,j<k->s.σ[_m+j]?=Z .dead)
  (h:(jD F f args k _m).run ⟨env,s.σ⟩=Z e) (hl:args.length=vals.size) (hr: ∀(i:Nat) x v,args[i]?=Z x->vals[i]?=Z v->JH s x v)
  (r: ∀fn,P.funcs[f]?=some fn→fn.body.isSome=true→(fn.name== "runtime.NumGoroutine")=false→(execOp a.eval o).run P s.w=.ok (.enter f vals) s.w):bQ P o a s e:=by
 obtain⟨ar,h1,h2⟩:=O5 h;obtain⟨D,i1,B,z,C,y⟩:=zx (vs:=vals.toList) hi (.refl _) h1 (by simpa using hl) (λi x v n q=>hr i x v n (by simpa using q));grind [zq]
theorem JM5{r:List _x}: ∀{m:List Bool} {xs:List AV} {s:Sn} {y:List AV×List (Nat×_x)} {vs:List Value},Inv s->Frz r s.σ->(fY m xs).run ⟨env,r⟩=Z y->xs.length=vs.length->
  (∀(i:Nat) x v,xs[i]?=Z x->vs[i]?=Z v->JH s x v)->
  ∃g',Inv ⟨upd y.2 s.σ,g',s.w⟩/\bE s ⟨upd y.2 s.σ,g',s.w⟩/\Frz s.σ (upd y.2 s.σ)/\y.1.length=vs.length/\
   ∀(i:Nat) x v,y.1[i]?=Z x->vs[i]?=Z v->JH ⟨upd y.2 s.σ,g',s.w⟩ x v:=by
 intro m xs
 induction xs generalizing m with
 |nil=>
  intro s y vs hi q h j k;have h:(RM.ret ([],[]):RM (List AV×List (Nat×_x))).run ⟨env,r⟩=Z y:=by cases m<;>exact h
  simp only[RM.run]at h;cases h;exact⟨s.g,hi,.refl s,.refl _,by simpa using j,λi c v hc=>by simp at hc⟩
 |cons x xs ih=>
  intro s y vs hi q h j k;cases vs with
  |nil=>simp at j
  |cons v vs=>
   have z: ∀{A:List Bool},((kH x).bind λa=>(fY A xs).bind λc=>.ret (a.1::c.1,a.2++c.2)).run ⟨env,r⟩=Z y->
     ∃g',Inv ⟨upd y.2 s.σ,g',s.w⟩/\bE s ⟨upd y.2 s.σ,g',s.w⟩/\Frz s.σ (upd y.2 s.σ)/\y.1.length=(v::vs).length/\
      ∀(i:Nat) x o,y.1[i]?=Z x->(v::vs)[i]?=Z o->JH ⟨upd y.2 s.σ,g',s.w⟩ x o:=by
    intro A h;obtain⟨_e,h1,h⟩:=bind_some h;obtain⟨K,h2,h⟩:=bind_some h;simp only[RM.run]at h;cases h;obtain⟨L,i1,H,G,M⟩:=R2 hi q h1 (k 0 x v rfl rfl);obtain⟨D,i2,n,B,C,_d⟩:=ih (m:=A) (s:=⟨upd _e.2 s.σ,L,s.w⟩) i1 (q.trans G) h2 (by simpa using j) λi x v E F=>(k (i+1) x v (by simpa using E) (by simpa using F)).mono hi H;refine⟨D,by grind [fM],by rw[fM];exact H.trans n,by rw[fM];exact G.trans B,by simp[C],λi c' o hc' e=>?_⟩;grind [JH.mono,upd]
   cases m with
   |nil=>exact z h
   |cons b m=>
    cases b with
    |false=>exact z h
    |true=>
     simp only[fY]at h;obtain⟨K,h2,h⟩:=bind_some h;simp only[RM.run]at h;cases h;obtain⟨D,i2,n,B,C,_d⟩:=ih (m:=m) hi q h2 (by simpa using j) λi x v E F=>k (i+1) x v (by simpa using E) (by simpa using F);refine⟨D,i2,n,B,by simp[C],λi c' o hc' e=>?_⟩;cases i with
     |zero=>simp at hc' e;subst hc' e;exact(k 0 x v rfl rfl).mono hi n
     |succ i=>grind
theorem pc{f:FuncId}{args:Array Value}{fn:Func}(h1:P.funcs[f]?=some fn)(h2:fn.body.isSome=true)(h3:(fn.name== "runtime.NumGoroutine")=false)(w:World):
  (callFunc f args).run P w=.ok (.enter f args) w:=by
 have e:fn.name≠ "runtime.NumGoroutine" :=by simpa using h3
 have g:fn.body≠Y:=by grind
 simp_all [callFunc]
theorem JRt(y:kT P F)(hi:Inv s)(he:bR s a.tmps env){f args k}(n: ∀j,j<k->s.σ[_m+j]?=Z .dead)(h:(_z F (.call f args k) _m).run ⟨env,s.σ⟩=Z e)
  (hc:JZ P (.call f args k) o.op=O):bQ P o a s e:=by
 simp only[_z]at h;obtain⟨vs,h1,w⟩:=bind_some h;clear h;unfold JZ at hc;simp only at hc;split at hc;rename_i c C;split at hc;rename_i g z;simp only[aX,beq_iff_eq]at hc;obtain⟨rfl,q⟩:=hc;obtain⟨l,r⟩:=IC he h1 q;refine O8 y hi n w (vals:=c.args.map a.eval) (by simpa using l) (λi x v A B=>r i x v A (by simpa using B)) λfn G E D=>?_;simp_all [execOp,resolve,Act.eval,Deferred.ofValue,invoke,pc];cases hc;cases hc
theorem JNB(A:kT P F)(hi:Inv s)(he:bR s a.tmps env){f keep args k}(n: ∀j,j<k->s.σ[_m+j]?=Z .dead)(h:(_z F (.callo f keep args k) _m).run ⟨env,s.σ⟩=Z e)
  (hc:JZ P (.callo f keep args k) o.op=O):bQ P o a s e:=by
 simp only[_z]at h;obtain⟨vs,h1,w⟩:=bind_some h;obtain⟨ar,h2,G⟩:=bind_some w;clear h w;unfold JZ at hc;simp only at hc;split at hc;rename_i c _d;split at hc;rename_i g B;simp only[aX,beq_iff_eq]at hc;obtain⟨rfl,q⟩:=hc;obtain⟨l,r⟩:=IC he h1 q;obtain⟨E,i1,C,z,D,y⟩:=JM5 (vs:=(c.args.map a.eval).toList) hi (.refl _) h2 (by simpa using l) (λi x v H _e=>r i x v H (by simpa using _e));refine zq A n (vals:=c.args.map a.eval) i1 C z D y G λfn E L K=>?_;simp_all [execOp,resolve,Act.eval,Deferred.ofValue,invoke,pc];cases hc;cases hc
theorem JNu(C:kT P F)(hi:Inv s)(he:bR s a.tmps env){x args k}(g: ∀j,j<k->s.σ[_m+j]?=Z .dead)(h:(_z F (.callv x args k) _m).run ⟨env,s.σ⟩=Z e)
  (hc:JZ P (.callv x args k) o.op=O):bQ P o a s e:=by
 simp only[_z]at h;obtain⟨u,E,q⟩:=bind_some h;clear h;unfold JZ at hc;simp only at hc;split at hc;rename_i c G;split at hc;rename_i y D;simp only[aX]at hc;obtain⟨B,n⟩:=hc;have A:=bO he E B;cases u with
 |fn f first caps=>
  dsimp only at q;obtain⟨vs,h1,w⟩:=bind_some q;obtain⟨l,r⟩:=IC he h1 n;generalize _c:a.eval y=z at A;cases A with
  |fn _ _ _ fs cs K _d H _e=>
   have L:vs.length=c.args.size:=by simpa using l
   refine O8 C hi g w (vals:=fs++c.args.map a.eval++cs) (by simp;omega) (λi x v B R=>?_) λfn Q N M=>?_;grind;grind [execOp,resolve,Deferred.ofValue,invoke,pc]
 |_=>cases q
 cases hc;cases hc
end
section
variable {P:Program} {F:Orc} {s:Sn} {a:Act} {env:List (Nat×AV)} {o:Oper} {_m:Nat} {e:Eff}
theorem me: ∀(os:List (Nat×Nat)) (n:Nat) {s:Sn},Inv s->(∀j,j<os.length->s.σ[n+j]?=Z .dead)->
  ∃g',Inv ⟨upd (iQ os n) s.σ,g',s.w⟩/\bE s ⟨upd (iQ os n) s.σ,g',s.w⟩/\
   (∀j,j<os.length->(∃_l,(upd (iQ os n) s.σ)[n+j]?=Z (.arr O _l []))/\g'.μ (n+j)=Y)/\
   (∀b,b<n\/n+os.length<=b->(upd (iQ os n) s.σ)[b]?=s.σ[b]?/\g'.μ b=s.g.μ b)
 |[],n,s,hi,_=>⟨s.g,hi,.refl s,λj e=>by simp at e,λb _=>⟨rfl,rfl⟩⟩
 |(off,_l)::r,n,s,hi,hd=>by
  obtain⟨i1,v⟩:=TT hi (hd 0 (by simp)) _l;obtain⟨g',i2,q,h1,h2⟩:=me r (n+1) (s:=⟨s.σ.set n (.arr O _l []),fV s.g n Y,s.w⟩) i1 (λj e=>by
   show(s.σ.set n _)[n+1+j]?=_;rw[tS (by omega)];have:=hd (j+1) (by simp;omega);grind)
  refine⟨g',i2,v.trans q,λj e=>?_,λb hb=>?_⟩;cases j with
  |zero=>
   obtain⟨o,k⟩:=h2 n (.inl (by omega));refine⟨⟨_l,?_⟩,?_⟩;grind [upd,iQ];rw[uW,k];exact if_pos rfl
  |succ j=>have:=h1 j (by simpa using e);rw[show n+(j+1)=n+1+j by omega];exact this
  obtain⟨o,k⟩:=h2 b (by grind);have h:n≠b:=by grind
  exact⟨o.trans (tS h),k.trans (if_neg (Ne.symm h))⟩
theorem Bb{t:TypeId}{os:List (Nat×Nat)}{v:Value}(hv:zeT P t=Z v)(h:fo P t os=O): ∀x∈os,v.cells[x.1]?=Z (.slice Y 0 0):=by
 grind [fo]
theorem mc{cells:Array Value}: ∀(os:List (Nat×Nat)) (n:Nat) {cs:List AV},(∀x∈os,cells[x.1]?=Z (.slice Y 0 0))->
  (∀j,j<os.length->(∃_l,s.σ[n+j]?=Z (.arr O _l []))/\s.g.μ (n+j)=Y)->
  (∀(i:Nat) x,cs[i]?=Z x-> ∃u,cells[i]?=Z u/\JH s x u/\u.oneCell'=O)->
  ∀(i:Nat) x,(nR os n cs)[i]?=Z x-> ∃u,cells[i]?=Z u/\JH s x u/\u.oneCell'=O
 |[],_,_,_,_,h=>h
 |(off,_l)::r,n,cs,hz,ha,h=>by
  refine mc r (n+1) (λx e=>hz x (by simp[e])) (λj q=>by
   have:=ha (j+1) (by simpa using q);grind) λi x e=>?_
  by_cases hi:off=i;subst hi;have k:=JA e;rw[List.length_set]at k;rw[sW k]at e;cases e;obtain⟨⟨o,h1⟩,h2⟩:=ha 0 (by simp);rw[uW]at h1 h2;exact⟨.slice Y 0 0,hz (off,_l) (by simp),._r n 0 0 _ O o [] ⟨Y,0,rfl,.inl rfl⟩ h1 (zQ0 _) λ_=>.inl ⟨h2,rfl,rfl,rfl⟩,rfl⟩;simp_all
theorem lw: ∀(os:List (Nat×Nat)) (n:Nat) (cs:List AV),(nR os n cs).length=cs.length|[],_,_=>rfl|_::r,n,cs=>(lw r (n+1) _).trans (by simp)
theorem JJb(hi:Inv s){zero os}(n: ∀j,j<os.length+1->s.σ[_m+j]?=Z .dead)(h:(_z F (.newboxo zero os) _m).run ⟨env,s.σ⟩=Z e)(hc:JZ P (.newboxo zero os) o.op=O):bQ P o a s e:=by
 simp only[_z,RM.run]at h;cases h;unfold JZ at hc;simp only at hc;split at hc;rename_i t _d;simp only[aX]at hc;obtain⟨B,E⟩:=hc;obtain⟨v,G,L,D⟩:=zD B;obtain⟨r,i1,z,h1,h2⟩:=me os _m hi λj N=>n j (by omega);have hd:(upd (iQ os _m) s.σ)[_m+os.length]?=Z .dead:=((h2 _ (.inr (zQ0 _))).1).trans (n _ (by omega))
 let s1:Sn:=⟨upd (iQ os _m) s.σ,r,s.w⟩
 obtain⟨A,t'⟩:=TL (s0:=s1) i1 hd (blk:=.box (nR os _m (zero.map .p))) (c:=v.cells) (e:=t) (fz:=(0,0)) (w':={s.w with heap:=s.w.heap.push (.cells v.cells t)}) rfl rfl rfl
  (λo _ _ h=>by simp at h) (λ_ _ _ h=>by cases h) ⟨by grind [lw],λi x q=>by
   obtain⟨u,M,K,_e⟩:=mc (s:=s1) (cells:=v.cells) os _m (Bb G E) h1 (λi x q=>by
    rw[iL]at q;cases hzi:zero[i]? with
    |none=>simp_all
    |some c=>
     simp[hzi]at q;subst q;have H:=JA hzi;have y:i<v.cells.size:=by omega
     have:=D (w:=s1.w) (C:=s1.g.C) i c v.cells[i] hzi (by simp);exact⟨v.cells[i],by simp,.p _ _ this,this.one⟩) i x q
   simp_all⟩
 have k:upd (iQ os _m++[(_m+os.length,_x.box (nR os _m (zero.map .p)))]) s.σ=(upd (iQ os _m) s.σ).set (_m+os.length) (.box (nR os _m (zero.map .p))):=by rw[fM];rfl
 refine gP (e:=⟨.ptr (_m+os.length) 0,iQ os _m++[(_m+os.length,.box (nR os _m (zero.map .p)))]⟩) (v:=.pointer (Z ⟨s.w.heap.size,0,Y⟩)) (g':=fV r (_m+os.length) (Z (s.w.heap.size,0))) ?_
  (by rw[k];exact A) (by rw[k];exact z.trans t') (by rw[k];exact .ptr (_m+os.length) 0 _ 0 (if_pos rfl) ⟨_,kD hd⟩)
 simp_all [execOp,Instr.alloc,IN,newVar,newRow];cases hc
theorem JM1(hi:Inv s)(he:bR s a.tmps env)(hn:s.σ[_m]?=Z .dead){_l x}(h:(_z F (.storen _l x) _m).run ⟨env,s.σ⟩=Z e)(hc:JZ P (.storen _l x) o.op=O):bQ P o a s e:=by
 simp only[_z]at h;obtain⟨u,h1,L⟩:=bind_some h;obtain⟨G,h2,B⟩:=bind_some L;clear h L;simp only[RM.run]at B;cases B;obtain⟨_d,Q⟩:=TT hi hn _l;unfold JZ at hc;simp only at hc;split at hc;rename_i t M ae;simp only[aX,beq_iff_eq]at hc;obtain⟨hs,hx⟩:=hc;have v:=bO he h1 hx;have N: ∀{r n:Nat} {w':World},a.eval M=.pointer (Z ⟨r,n,Y⟩)->(storeVar t ⟨r,n,Y⟩ (.slice Y 0 0)).run P s.w=.ok () w'->(execOp a.eval o).run P s.w=.ok .skip w':=by intro r n w' R a7;have aa:a.eval (.const (.slice Y 0 0))=.slice Y 0 0:=rfl;simp_all [execOp,Instr.storeAt,Instr.sureAddr]
 unfold jE at h2;split at h2;rename_i b off;simp only[RM.run]at h2;split at h2;rename_i blk hb;split at h2;rename_i cs;split at h2;rename_i l hl;split at h2;rename_i a4;split at h2;rename_i cs' D;simp only[RM.run]at h2;cases h2;have hb:s.σ[b]?=Z (.box cs):=hb;have _c:_m≠b:=λe=>by simp_all
 let s1:Sn:=⟨s.σ.set _m (.arr O _l []),fV s.g _m Y,s.w⟩
 have C:s1.σ[b]?=Z (.box cs):=(tS _c).trans hb;have _b:JH s1 (._r _m 0 0) (.slice Y 0 0):=
  ._r _m 0 0 _ O _l [] ⟨Y,0,rfl,.inl rfl⟩ (kD hn) (zQ0 _) λ_=>.inl ⟨if_pos rfl,rfl,rfl,rfl⟩
 generalize R:a.eval M=z at v;have v:=JH.mono (s:=s1) hi Q v;cases v with
 |ptr _ _ r n m a8=>
  obtain⟨_a,_e,W⟩:=WO hl _b;obtain⟨S,j2,U,j4⟩:=UA D;obtain⟨r1,o1,c,et,fz,A,H,ab,a9,hf⟩:=_d.box b cs C;rw[m]at A;injection A with A;injection A with m1 m2;subst m1 m2;have q:=KG (vs:=(Value.slice Y 0 0).cells.toList) (o:=n+off) H (by simp;omega);have hlen:(Value.slice Y 0 0).cells.toList.length=l.length:=by simp[_a]
  obtain⟨i',t'⟩:=nu (s0:=s1) _d (blk:=.box cs') C q (λk h1 h2=>by
   grind [Wr1]) (.box _ _ S) (λa5 j E=>by
   cases j;obtain⟨c0,e0,ad,c',y,T,p3,p4,V,p6⟩:=q.there;rw[H]at y;injection y with y;injection y with q1 q2 q3;subst q1 q2 q3;refine⟨r,n,c',et,fz,m,T,by omega,λi x K=>?_,by simp_all⟩;by_cases af:off<=i/\i<off+l.length;have G:cs'[off+(i-off)]?=l[i-off]?:=U (i-off) (by omega);rw[show off+(i-off)=i by omega,K]at G;have a6:i-off<(Value.slice Y 0 0).cells.size:=by omega
   have e2:=V (i-off) (Value.slice Y 0 0).cells[i-off] (by simp);refine⟨(Value.slice Y 0 0).cells[i-off],by rw[<-e2];congr 1;omega,E (W (i-off) x _ G.symm (by simp)),_e _ (by simp)⟩;grind)
   (λ_ _ j=>by cases j)
  refine nh (e:=⟨iE,(_m,.arr O _l [])::[(b,.box cs')]⟩) (N R (oy (by simp_all) H (by omega) (λk h1 h2=>hf k (by omega) (by omega)) _e)) rfl i' (Q.trans t')
 cases h2;cases h2;cases h2;cases h2;cases h2;rename_i b ext i off;have ac:(fz (._r _m 0 0)).run ⟨env,s.σ⟩=Y:=(by grind [fz,RM.run]);simp only[RM.run]at h2;split at h2;split at h2;split at h2;split at h2;grind [run_bind];cases h2;cases h2;cases h2;cases h2;cases h2;cases hc
theorem JMr(hi:Inv s)(he:bR s a.tmps env){zero parts os}(D: ∀j,j<os.length->s.σ[_m+j]?=Z .dead)(h:(_z F (.buildo zero parts os) _m).run ⟨env,s.σ⟩=Z e)
  (hc:JZ P (.buildo zero parts os) o.op=O):bQ P o a s e:=by
 simp only[_z]at h;obtain⟨l,h1,q⟩:=bind_some h;clear h;unfold JZ at hc;simp only at hc;split at hc;rename_i t ps a8;simp only[aX]at hc;obtain⟨⟨hz,hn⟩,ht⟩:=hc;obtain⟨z,M,a9,_c⟩:=zD hz;obtain⟨Q,i1,N,_d,aa⟩:=me os _m hi D;split at q;rename_i cs hcs;split at q;rename_i r h3;simp only[RM.run]at q;cases q
 let s1:Sn:=⟨upd (iQ os _m) s.σ,Q,s.w⟩
 have E: ∀(i:Nat) x,(nR os _m (zero.map AV.p))[i]?=Z x-> ∃u,z.cells[i]?=Z u/\JH s1 x u/\u.oneCell'=O:=
  mc (s:=s1) (cells:=z.cells) os _m (Bb M hn) _d (by
   intro i x _e;rw[iL]at _e;cases hzi:zero[i]? with
   |none=>simp_all
   |some c=>
    simp[hzi]at _e;subst _e;have K:=JA hzi;have W:i<z.cells.size:=by omega
    have:=_c (w:=s1.w) (C:=s1.g.C) i c z.cells[i] hzi (by simp);exact⟨z.cells[i],by simp,.p _ _ this,this.one⟩)
 have fin: ∀{place:Nat->Option (Nat×Nat)},tQ place parts ps.toList=O->
   ∃n,Instr.fill place z.cells (ps.toList.map λx=>(x.1,a.eval x.2))=Z n/\JH s1 r (.agg n):=by
  intro place B;obtain⟨T,k2⟩:=n5 he h1 B;obtain⟨n,L,_a,f3⟩:=ms (s:=s1) (cells:=z.cells) hcs T (λk off size cs i v hk G=>by obtain⟨_b,V,S,U⟩:=k2 k off size cs i v hk G;exact⟨_b,V,S,λj y u R H=>(U j y u R H).mono hi N⟩) (by grind [lw]) E;refine⟨n,L,?_⟩;have:=SI (s:=s1) (vs:=n.toList) h3 (by simpa using _a) (λv G=>by
    obtain⟨i,hi'⟩:=jK G;have hi':n[i]?=Z v:=by simpa using hi'
    have K:=VU hi';obtain⟨u,H,_,h1⟩:=f3 i cs[i] (by simp_all);simp_all)
   (λi y v R G=>by
    grind)
  simp_all
 have ab:(ps.map λx=>(x.1,a.eval x.2)).toList=ps.toList.map λx=>(x.1,a.eval x.2):=by simp
 split at ht;rename_i fs H;simp only[aX]at ht;obtain⟨A,B⟩:=ht;obtain⟨n,L,hr⟩:=fin B;have a7:(λi=>(fs.map λf=>(f.offset,(szT P f.type).getD 0))[i]?)=IE P fs:=by
  funext i
  simp only[IE,Array.getElem?_map];cases hfi:fs[i]? with
  |none=>rfl
  |some f=>have:=ek.1 A f (Array.mem_of_getElem? hfi);cases hq:szT P f.type<;>simp[hq]at this⊢
 have a1:(fs.mapM λf=>do pure (f.offset,<-sizeOf f.type):Sem (Array (Nat×Nat))).run P s.w=.ok (fs.map λf=>(f.offset,(szT P f.type).getD 0)) s.w:=by
  rw[Array.mapM_eq_mapM_toList];simp only[Sem.run_map,oa (P:=P) (fs:=fs.toList) (λf hf=>ek.1 A f (by simpa using hf)),uY]
  congr 1
  grind
 have hf:Instr.fill (λi=>(fs.map λf=>(f.offset,(szT P f.type).getD 0))[i]?) z.cells (ps.map λx=>(x.1,a.eval x.2)).toList=Z n:=by simp_all
 have hb:(Instr.build t (ps.map λx=>(x.1,a.eval x.2))).run P s.w=.ok (.agg n) s.w:=by simp_all [Instr.build,IN,run_underlying]
 refine gP (e:=⟨r,iQ os _m⟩) (v:=.agg n) (g':=Q) ?_ i1 N hr;simp_all [execOp];cases ht;cases q;cases q;cases hc
end
theorem Qm{_m:Nat}{env:List (Nat×AV)}{σ:List _x}: ∀{k _m:Nat} {u:Unit},(vL _m k).run ⟨env,σ⟩=Z u-> ∀j,j<k->σ[_m+j]?=Z .dead
 |0,_,_,_,j,hj=>by omega
 |k+1,_m,u,h,j,hj=>by
  simp only[vL,RM.run]at h;split at h;rename_i x e;cases x with
  |dead=>
   dsimp only at h;cases j with
   |zero=>exact e
   |succ j=>have:=Qm (_m:=0) h j (by omega);grind
  |box=>cases h
  |arr=>cases h
  cases h
section
variable {P:Program} {F:Orc} {s:Sn} {a:Act} {env:List (Nat×AV)} {o:Oper} {_m:Nat} {e:Eff}
theorem JVD(q:kT P F)(hi:Inv s)(he:bR s a.tmps env){n:AOp}(h:(opD F n _m).run ⟨env,s.σ⟩=Z e)(hc:JZ P n o.op=O):bQ P o a s e:=by
 unfold opD at h;obtain⟨u,hd,h⟩:=bind_some h;have g:=Qm (_m:=0) hd;clear hd;have j:oB n=1->s.σ[_m]?=Z .dead:=λh1=>g 0 (by omega);cases n with
 |mv x=>grind [JVj]
 |mkarr _l x=>exact JNT hi (j rfl) h hc
 |pick=>grind [JQF]
 |newbox=>exact JMs hi (j rfl) h hc
 |box=>exact JSC hi he (j rfl) h hc
 |build=>grind [JO0]
 |lits=>grind [JRG,oB]
 |load=>grind [JRP]
 |store=>grind [JOD]
 |nilchk=>grind [JLx]
 |bin op t x y=>cases t<;>grind [JEC,JGJ,JHg,JHu,JHa,JHr]
 |un=>grind [JVc]
 |conv k x=>
  grind [JKj,oB,JRA]
 |_E=>grind [JJL,oB]
 |slice=>grind [JNS]
 |faddr=>grind [JO2]
 |field=>grind [JOd]
 |iaddr=>grind [JOT]
 |aaddr=>grind [JPl]
 |sidx=>grind [JQO]
 |aidx=>grind [JRC]
 |extr=>grind [JRI]
 |call=>exact JRt q hi he g h hc
 |callv=>exact JNu q hi he g h hc
 |len=>grind [JSx]
 |app=>grind [JSW]
 |appn=>exact JRE hi he (j rfl) h hc
 |psuf=>exact JRp hi he h hc
 |shr=>exact JU7 hi he (j rfl) h hc
 |clr=>exact JTI hi he h hc
 |mvn=>exact JUm hi he (j rfl) h hc
 |mm=>grind [JVp]
 |mkfn=>grind [JQM]
 |newboxo=>exact JJb hi g h hc
 |buildo=>exact JMr hi he g h hc
 |storen=>exact JM1 hi he (j rfl) h hc
 |callo=>exact JNB q hi he g h hc
end
def CI(P:Program)(N:Nat)(ops:Array Oper)(i:bX)(o:Oper):Bool:=
 JZ P i.op o.op&&i.dst==o.dst&&(match i.dst with
  |some d=>decide (d<N)
  |none=>O)&&(match i.g,o.guard with
  |none,Y=>O
  |some (g,w),Z (j,w')=>w==w'&&(ops[j]?).bind (·.dst)==Z g
  |_,_=>J)
def Sim(N:Nat)(E:Sn)(st:St)(a:Act)(w:World):Prop:=a.tmps.size=N/\a.defers=[]/\ ∃g,Inv ⟨st._o,g,w⟩/\bR ⟨st._o,g,w⟩ a.tmps st.env/\bE E ⟨st._o,g,w⟩
theorem bR.put{s:Sn}{tmps:Array Value}{env:List (Nat×AV)}(he:bR s tmps env){d:Nat}(hd:d<tmps.size){x:AV}{v:Value}(hv:JH s x v):
  bR s (tmps.setIfInBounds d v) ((d,x)::env):=by
 intro n y e;simp only[lk]at e;split at e;simp_all;rename_i g;obtain⟨u,h1,h2⟩:=he n y e;grind
theorem Sim.putd{N:Nat}{E:Sn}{st:St}{a:Act}{w w':World}{g g':Gh}{e:Eff}{v:Value}{d:Option Nat}
  (h1:a.tmps.size=N) (h2:a.defers=[]) (hi:Inv ⟨st._o,g,w⟩) (he:bR ⟨st._o,g,w⟩ a.tmps st.env) (ht:bE E ⟨st._o,g,w⟩) (hd: ∀x,d=Z x->x<N)
  (hi':Inv ⟨upd e.ws st._o,g',w'⟩) (h:bE ⟨st._o,g,w⟩ ⟨upd e.ws st._o,g',w'⟩) (hv:JH ⟨upd e.ws st._o,g',w'⟩ e.val v):
  Sim N E (Am.put d e st) (a.put d v) w':=by
 have j:=he.mono hi h;cases d with
 |none=>exact⟨h1,h2,g',hi',j,ht.trans h⟩
 |some d=>exact⟨by grind [Act.put],h2,g',hi',j.put (by simp_all) hv,ht.trans h⟩
section
variable {P:Program} {F:Orc} {N:Nat} {E:Sn} {st:St} {a:Act} {w:World} {ops:Array Oper} {i:bX} {o:Oper} {e:Eff} {_m k:Nat} {Q:Exit->Act->World->Prop} {K:Act->World->Prop}
theorem JJv{s:Sn}:JH s iE undef:=.tup _ _ rfl λi x v h=>by simp at h
theorem Nf(D:kT P F)(hs:Sim N E st a w)(ho:ops[k]?=Z o)(hc:CI P N ops i o=O)(h:(bZ F i _m).run st=Z e)
  (next: ∀n w',Sim N E (Am.put i.dst e st) n w'->K n w'):wpOp P ops Q k K a w:=by
 obtain⟨h1,h2,g,hi,y,ht⟩:=hs;simp only[CI,aX,beq_iff_eq]at hc;obtain⟨⟨⟨hc,hd⟩,_e⟩,q⟩:=hc;have z: ∀x,i.dst=Z x->x<N:=(by grind);have run: ∀{e:Eff},(opD F i.op _m).run st=Z e->(∀n w',Sim N E (Am.put i.dst e st) n w'->K n w')->o.wp P a w K Q:=(by intro e h next;refine JVD (s:=⟨st._o,g,w⟩) (env:=st.env) D hi y h hc K Q λv w' g' hi' H A=>next _ _ ?_;grind [Sim.putd]);have skip:(∀n w',Sim N E (Am.put i.dst ⟨iE,[]⟩ st) n w'->K n w')->K (a.put o.dst undef) w:=by intro next;refine next _ _ ?_;rw[<-hd];exact Sim.putd (e:=⟨iE,[]⟩) h1 h2 hi y ht z hi (.refl _) JJv
 unfold wpOp;rw[ho];dsimp only;unfold bZ at h;cases hig:i.g with
 |none=>
  grind [Region.wanted]
 |some G=>
  obtain⟨_d,C⟩:=G;rw[hig]at h q;cases hog:o.guard with
  |none=>simp_all
  |some x=>
   obtain⟨j,B⟩:=x;rw[hog]at q;simp only[aX,beq_iff_eq]at q;obtain⟨rfl,R⟩:=q;simp only[RM.run]at h;split at h;rename_i v A;obtain⟨u,_c,r⟩:=y _ _ A;split at h;rename_i b;cases r with
   |p _ _ r=>
    cases r with
    |b x=>
     have M:yielded ops a.tmps j=Z b:=by grind [yielded]
     grind [Region.wanted,RM.run]
   cases r with
   |tup _ vs L _=>
    grind [yielded,Region.wanted,RM.run]
   cases h;cases h
end
theorem Ra{σ:List _x}{n b:Nat}{x:_x}(h:(σ++_J n _x.dead)[b]?=Z x)(hx:x≠.dead):σ[b]?=Z x:=by
 grind
theorem zy{σ:List _x}{n b:Nat}{x:_x}(h:σ[b]?=Z x):(σ++_J n _x.dead)[b]?=Z x:=by
 grind
theorem UC{σ:List _x}{g:Gh}{w:World}{n b r o:Nat}:Wr1 ⟨σ++_J n .dead,g,w⟩ b r o↔Wr1 ⟨σ,g,w⟩ b r o:=by
 grind [Wr1]
theorem ob{σ:List _x}{g:Gh}{w:World}{n:Nat}:bE ⟨σ,g,w⟩ ⟨σ++_J n .dead,g,w⟩ where
 keep:=.refl _ _
 cmono _ _ h:=h
 cnew _ _ h:=.inl h
 wnew _ _ h:=let⟨b,hb⟩:=h;.inl ⟨b,UC.1 hb⟩
 len:=by simp
 box b cs h:=⟨⟨cs,zy h,rfl⟩,rfl⟩
 arr b wm _l _f h:=⟨wm,_f,zy h,id,zQ0 _,λ_=>rfl⟩
theorem JPO{σ:List _x}{g:Gh}{w:World}{n:Nat}(hi:Inv ⟨σ,g,w⟩):Inv ⟨σ++_J n .dead,g,w⟩:=by
 have t:=ob (σ:=σ) (g:=g) (w:=w) (n:=n);refine⟨λb cs h=>?_,λb wm _l _f h=>?_,λb1 b2 r o h1 h2=>hi.apart b1 b2 r o (UC.1 h1) (UC.1 h2),λr o hc=>⟨(hi.const r o hc).1,λb hb=>(hi.const r o hc).2 b (UC.1 hb)⟩⟩;obtain⟨r,o,c,e,fz,A,D,B,y,q⟩:=hi.box b cs (Ra h (by simp));exact⟨r,o,c,e,fz,A,D,B,λi x C=>let⟨v,j,z,k⟩:=y i x C;⟨v,j,z.mono hi t,k⟩,q⟩;exact hi.arr b wm _l _f (Ra h (by simp))
theorem Sim.room{N:Nat}{E:Sn}{st:St}{a:Act}{w:World}(h:Sim N E st a w)(n:Nat):Sim N E ⟨st.env,room n st._o⟩ a w:=by
 unfold Am.room;split;exact h;obtain⟨h1,h2,g,hi,e,ht⟩:=h;exact⟨h1,h2,g,JPO hi,e.mono hi ob,ht.trans ob⟩
theorem Sim.heap{N:Nat}{E:Sn}{st:St}{a:Act}{w w':World}(h:Sim N E st a w)(hh:w'.heap=w.heap)(ho:w'.os=w.os)(hp:w'.output=w.output):Sim N E st a w':=by obtain⟨h1,h2,g,hi,j,ht⟩:=h;obtain⟨e,t'⟩:=zc hi hh ho hp;exact⟨h1,h2,g,e,j.mono hi t',ht.trans t'⟩
theorem Sim.congr{N:Nat}{E:Sn}{st st':St}{a:Act}{w:World}(h:Sim N E st a w)(he: ∀m,lk m st'.env=lk m st.env)(hs:st'._o=st._o):Sim N E st' a w:=by obtain⟨h1,h2,g,hi,e,ht⟩:=h;refine⟨h1,h2,g,?_⟩;rw[hs];exact⟨hi,λn x j=>e n x (by simp_all),ht⟩
def eO(P:Program)(N:Nat)(ops:Array Oper):List bX->List Oper->Bool|[],[]=>O|i::r,o::q=>CI P N ops i o&&eO P N ops r q|_,_=>J
def VX(x y:bX):Bool:=
 (match x.dst with
 |none=>O
 |some m=>y.dst !=Z m&& !(yX y).contains m)&&(match y.dst with
 |none=>O
 |some m=> !(yX x).contains m)
def UT(x y:bX):Bool:=(!AR x.op|| !PZ y.op)&&(!AR y.op|| !PZ x.op)
def LS:List Nat->List Nat->List Nat|[],acc=>acc|x::r,acc=>match acc.contains x with|true=>LS r acc|false=>LS r (x::acc)
theorem m7{i:Nat}: ∀{l acc:List Nat},i∈LS l acc->i∈l\/i∈acc
 |[],_,h=>.inr h
 |x::r,acc,h=>by
  simp only[LS]at h;split at h;exact(m7 h).imp (gF _) id
  ·rcases m7 h with h|h
   all_goals grind
def Ml(l:List Nat):List Nat:=LS l []
theorem JNi{i:Nat}{l:List Nat}(h:i∈Ml l):i∈l:=(m7 h).resolve_right (by simp)
def M4(acc:List (List Nat))(o:Oper):List Nat:=Ml<|(o.after.toList.filter λe=>Region.binds .any e).flatMap λe=>e.on::(acc[e.on]?).getD []
def vc(acc:List (List Nat)):List Oper->List (List Nat)|[]=>acc|o::r=>vc (acc++[M4 acc o]) r
def j8(e:List (List Nat))(pairs:List (Nat×Nat))(i j:Nat)(x y:bX):Bool:=
 ((e[j]?).getD []).contains i||(VX x y&&(UT x y||pairs.contains (i,j)))
def OH(e:List (List Nat))(pairs:List (Nat×Nat))(j:Nat)(y:bX):Nat->List bX->Bool|_,[]=>O|i,x::r=>(decide (j<=i)||j8 e pairs i j x y)&&OH e pairs j y (i+1) r
def UF(g:List (List Nat))(pairs:List (Nat×Nat))(e:List bX):Nat->List bX->Bool|_,[]=>O|j,y::r=>OH g pairs j y 0 e&&UF g pairs e (j+1) r
def UJ:Nat->List Oper->Bool|_,[]=>O|j,o::r=>(o.after.all λe=> !Region.binds .any e||decide (e.on<j))&&UJ (j+1) r
def wg(P:Program)(N:Nat)(draw:Bool)(pairs:List (Nat×Nat))(ins:List bX)(ops:Array Oper):Bool:=
 eO P N ops ins ops.toList&&(!draw||(UJ 0 ops.toList&&UF (vc [] ops.toList) pairs ins 0 ins))
section
variable {P:Program} {F:Orc} {N:Nat} {E:Sn} {st st':St} {a:Act} {w:World} {ops:Array Oper} {Q:Exit->Act->World->Prop}
theorem yz: ∀{ins:List bX} {os:List Oper},eO P N ops ins os=O->ins.length=os.length/\ ∀(k:Nat) i,ins[k]?=Z i-> ∃o,os[k]?=Z o/\CI P N ops i o=O
 |[],[],_=>⟨rfl,by simp⟩
 |i::r,o::q,h=>by
  simp only[eO,aX]at h;obtain⟨h1,h2⟩:=yz h.2;grind
 |[],_::_,h=>by grind [eO]
 |_::_,[],h=>by grind [eO]
theorem z7(q:kT P F): ∀{r:List bX} {k _m:Nat} {st:St} {a:Act} {w:World},(∀(j:Nat) i,r[j]?=Z i-> ∃o,ops[k+j]?=Z o/\CI P N ops i o=O)->
  hE F r _m st=Z st'->Sim N E st a w->(∀n w',Sim N E st' n w'->Q .normal n w')->wpOps P ops Q (List.range' k r.length) a w
 |[],k,_m,st,a,w,_,h,hs,next=>by simp only[hE]at h;cases h;exact next a w hs
 |i::r,k,_m,st,a,w,hc,h,hs,next=>by
  simp only[hE]at h;split at h;rename_i e y;obtain⟨o,v,g⟩:=hc 0 i rfl;rw[rC,List.range'_succ,wpOps_cons];refine Nf q hs v g y λn w' hs'=>z7 q (λj i x=>?_) h hs' next;obtain⟨o,v,g⟩:=hc (j+1) i (by simpa using x);grind;cases h
theorem Nl: ∀{ins:List bX} {g:Nat} {st:St},hE F ins g st=Z st'->
  ∃(_m:Nat->Nat) (S:Nat->St) (eff:Nat->Eff),Run F ins _m S eff/\S 0=st/\S ins.length=st'
 |[],g,st,h=>by
  simp only[hE]at h;injection h with h;subst h;exact⟨λ_=>0,λ_=>st,λ_=>⟨iE,[]⟩,⟨by simp⟩,rfl,rfl⟩
 |i::r,g,st,h=>by
  simp only[hE]at h;split at h;rename_i e q;obtain⟨_m,S,eff,n,v,j⟩:=Nl h;refine⟨fun|0=>g|k+1=>_m k,fun|0=>st|k+1=>S k,fun|0=>e|k+1=>eff k,⟨λk x o=>?_⟩,rfl,j⟩;cases k with
  |zero=>simp_all
  |succ k=>exact n.step k x (by simpa using o)
  cases h
theorem Nc: ∀{ins:List bX} {g:Nat} {st:St} {l j:Log},kS F ins g st l=Z (st',j)->
  ∃(_m:Nat->Nat) (S:Nat->St) (eff:Nat->Eff),Run F ins _m S eff/\S 0=st/\S ins.length=st'/\
   (∀k,k<l.length->j[k]?=l[k]?)/\ ∀(k:Nat) i,ins[k]?=Z i->j[l.length+k]?=Z (kU ((bZ F i (_m k)).reads (S k)),(eff k).ws.map (·.1))
 |[],g,st,l,j,h=>by
  simp only[kS]at h;injection h with h;injection h with h1 h2;subst h1 h2;exact⟨λ_=>0,λ_=>st,λ_=>⟨iE,[]⟩,⟨by simp⟩,rfl,rfl,λ_ _=>rfl,by simp⟩
 |i::r,g,st,l,j,h=>by
  simp only[kS]at h;split at h
  ·rename_i e y;obtain⟨_m,S,eff,q,v,o,w,z⟩:=Nc h;refine⟨fun|0=>g|k+1=>_m k,fun|0=>st|k+1=>S k,fun|0=>e|k+1=>eff k,⟨λk x n=>?_⟩,rfl,o,λk hk=>?_,λk x n=>?_⟩
   cases k with
   |zero=>simp_all
   |succ k=>exact q.step k x (by simpa using n)
   all_goals grind
  cases h
theorem WD{b:Nat}: ∀{l:List Loc},Loc.blk b∈l->b∈kU l
 | .blk c::r,h=>by
  simp only[kU,bS]at*;rcases h with h|h;simp_all;exact .inr (WD h)
 | .slot n::r,h=>by simp only[kU];refine WD ?_;simpa using h
 |[],h=>by simp at h
theorem lm{a b:List Nat}(h:hW a b=O){x:Nat}(hx:x∈a):x∉b:=by
 grind [hW]
theorem Az{l:Log}: ∀{ps:List (Nat×Nat)} {i j:Nat},IM l ps=O->(i,j)∈ps->
  ∃x y,l[i]?=Z x/\l[j]?=Z y/\hW x.2 y.1=O/\hW x.2 y.2=O/\hW x.1 y.2=O
 |[],i,j,_,h=>by simp at h
 |(p,q)::r,i,j,h,hm=>by
  simp only[IM,aX]at h;obtain⟨h1,h2⟩:=h;rcases bS.1 hm with e|e;grind;exact Az h2 e
def kh(ops:Array Oper)(D:Nat->Bool)(k:Nat):Prop:= ∀o,ops[k]?=Z o-> ∀e∈o.after,Region.binds .any e=O->D e.on=O
def M0(ops:Array Oper)(D:Nat->Bool):Prop:= ∀k,D k=O->kh ops D k
def sf(ops:Array Oper)(k i:Nat):Prop:= ∀D,M0 ops D->kh ops D k->D i=O
theorem N5: ∀{os:List Oper} {acc:List (List Nat)},(∀(j:Nat) o,os[j]?=Z o->ops[acc.length+j]?=Z o)->(∀(k:Nat) l i,acc[k]?=Z l->i∈l->sf ops k i)->
  ∀(k:Nat) l i,(vc acc os)[k]?=Z l->i∈l->sf ops k i
 |[],acc,_,h=>h
 |o::r,acc,w,h=>by
  refine N5 (os:=r) (acc:=acc++[M4 acc o]) (λj x z=>?_) λk l i hk hi=>?_;have:=w (j+1) x (by simpa using z);grind;rcases NU hk with hk|⟨A,hk⟩;simp_all;have n:k=acc.length:=(by grind);subst n;simp at hk;subst hk;intro D hD y;replace hi:=JNi hi;simp only[List.mem_flatMap,_V]at hi;obtain⟨e,⟨v,q⟩,hi⟩:=hi;have g:=y o (by simpa using w 0 o rfl) e (by simpa using v) q;rcases bS.1 hi with rfl|hi;exact g;cases hac:acc[e.on]? with
  |none=>simp_all
  |some l=>rw[hac]at hi;exact h _ l i hac hi D hD (hD _ g)
theorem Bz{g:List (List Nat)}{pairs:List (Nat×Nat)}{j:Nat}{y:bX}: ∀{r:List bX} {e:Nat},OH g pairs j y e r=O-> ∀(k:Nat) x,r[k]?=Z x->e+k<j->j8 g pairs (e+k) j x y=O
 |[],e,_,k,x,n,_=>by simp at n
 |z::r,e,h,k,x,n,o=>by
  simp only[OH,aX,AW,decide_eq_true_eq]at h;cases k with
  |zero=>grind
  |succ k=>
   have:=Bz h.2 k x (by simpa using n) (by omega);grind
theorem A3{j:List (List Nat)}{pairs:List (Nat×Nat)}{g:List bX}: ∀{r:List bX} {e:Nat},UF j pairs g e r=O-> ∀(k:Nat) y,r[k]?=Z y->OH j pairs (e+k) y 0 g=O
 |[],e,_,k,y,n=>by simp at n
 |z::r,e,h,k,y,n=>by
  simp only[UF,aX]at h;cases k with
  |zero=>simp_all
  |succ k=>
   have:=A3 h.2 k y (by simpa using n);grind
theorem Bx: ∀{r:List Oper} {g:Nat},UJ g r=O-> ∀(k:Nat) o,r[k]?=Z o-> ∀e∈o.after,Region.binds .any e=O->e.on<g+k
 |[],g,_,k,o,j=>by simp at j
 |z::r,g,h,k,o,j=>by
  simp only[UJ,aX]at h;cases k with
  |zero=>
   grind [Array.all_eq_true_iff_forall_mem]
  |succ k=>intro e n hb;have:=Bx h.2 k o (by simpa using j) e n hb;omega
theorem JOt{x y:bX}(h:VX x y=O):(∀m,x.dst=Z m->y.dst≠Z m/\m∉yX y)/\(∀m,y.dst=Z m->m∉yX x):=by
 grind [VX]
variable {ins:List bX} {_m:Nat->Nat} {S:Nat->St} {eff:Nat->Eff}
theorem JPu(hr:Run F ins _m S eff){i j:Nat}(hi:i<ins.length)(hj:j<ins.length)(h1:VX ins[i] ins[j]=O)
  (h2:UT ins[i] ins[j]=O\/(hW ((eff i).ws.map (·.1)) (kU ((bZ F ins[j] (_m j)).reads (S j)))=O/\
   hW ((eff i).ws.map (·.1)) ((eff j).ws.map (·.1))=O/\hW (kU ((bZ F ins[i] (_m i)).reads (S i))) ((eff j).ws.map (·.1))=O)):fj F ins _m S eff i j:=by
 obtain⟨s1,B⟩:=JOt h1;have o:ins[i]?=Z ins[i]:=aZ hi;have n:ins[j]?=Z ins[j]:=aZ hj;obtain⟨w,_⟩:=hr.step i _ o;obtain⟨r,_⟩:=hr.step j _ n;refine⟨λx y m g e q=>?_,λx y m g e q k=>?_,λy b e hb=>?_,λx b g hb k=>?_⟩;rw[o]at g;cases g;rw[n]at e;cases e;exact⟨(s1 m q).1,λk=>(s1 m q).2 (Qk F _ _ _ _ k)⟩;rw[o]at g;cases g;rw[n]at e;cases e;exact B m q (Qk F _ _ _ _ k);rw[n]at e;cases e;rcases h2 with h2|⟨v,z,A⟩;simp only[UT,aX,AW,GQ]at h2;rcases h2.1 with h|h;rw[ju F _ _ h _ _ w]at hb;simp at hb;refine⟨?_,Q1 F _ _ h _ _ r b⟩;rw[ju F _ _ (Mx h) _ _ r];simp;exact⟨lm z hb,λk=>lm v hb (WD k)⟩;rw[o]at g;cases g;rcases h2 with h2|⟨v,z,A⟩;simp only[UT,aX,AW,GQ]at h2;rcases h2.2 with h|h;rw[ju F _ _ h _ _ r]at hb;simp at hb;exact Q1 F _ _ h _ _ w b k;grind [lm,WD]
def Dl(e:Array Bool):Nat->Bool:=λj=>e.getD j J
theorem N6{e:Array Bool}{i:Nat}(hi:i<e.size):Dl (e.setIfInBounds i O)=λj=>if j=i then O else Dl e j:=by
 funext j
 unfold Dl;by_cases h:j=i
 all_goals simp_all [Ne.symm]
theorem Aq{l:Array Bool}{i:Nat}(hi:i<l.size)(h:l.getD i J=J):(l.setIfInBounds i O).count J+1=l.count J:=by
 have e:l[i]=J:=by simp_all
 grind [Array.getElem_mem]
theorem Aw{l:Array Bool}(h:l.count J=0){i:Nat}(hi:i<l.size):l.getD i J=O:=by
 grind [Aq]
theorem L5{l:Array Bool}: ∀m,m<=l.size->(∀j,j<m->Dl l j=O)\/ ∃k,k<m/\Dl l k=J/\ ∀j,j<k->Dl l j=O
 |0,_=>.inl λj e=>by omega
 |m+1,h=>by
  rcases L5 (l:=l) m (by omega)with h1|⟨k,a,b,c⟩
  all_goals grind
theorem JMx{l:Array Bool}{j:Nat}(hj:j<l.size):l.getD j O=l.getD j J:=by simp[hj]
theorem JUR(_b:kT P F)(hr:Run F ins _m S eff)(hlen:ins.length=ops.size)(hc: ∀(k:Nat) i,ins[k]?=Z i-> ∃o,ops[k]?=Z o/\CI P N ops i o=O)
  (D: ∀(k:Nat) o,ops[k]?=Z o-> ∀e∈o.after,Region.binds .any e=O->e.on<k)
  (_e: ∀i j,i<j->j<ins.length->sf ops j i\/fj F ins _m S eff i j)
  (next: ∀G w',Sim N E (S ins.length) G w'->Q .normal G w'):
  ∀(n:Nat) (g:Array Bool) (st:St) (a:Act) (w:World),g.size=ops.size->Agree ins eff (S 0) (Dl g) st->Sim N E st a w->M0 ops (Dl g)->g.count J=n->
   wpAny P .any ops Q n g a w:=by
 intro n
 induction n with
 |zero=>
  intro g st a w _d B hs r A;refine⟨?_,?_⟩;cases hre:Region.ready .any ops g with
  |nil=>rfl
  |cons j l=>
   exfalso;have h:j∈Region.ready .any ops g:=by rw[hre];simp
   grind [mem_ready,Aw]
  ·obtain⟨e1,e2⟩:=JLT hr B λj x=>Aw A (by omega);exact next a w (hs.congr (λm=>(e1 m).symm) e2.symm)
 |succ n ih=>
  intro g st a w _d B hs r A;refine⟨λ_a=>?_,λk hk=>?_⟩;exfalso;rcases L5 (l:=g) ops.size (by omega)with z|⟨k,hk,C,K⟩;have:g.count J=0:=(by rw[Array.count_eq_zero];intro h;obtain⟨i,hi,y⟩:=Array.getElem_of_mem h;have:=z i (by omega);unfold Dl at this;simp[hi,y]at this);omega;have h:k∈Region.ready .any ops g:=(by rw[mem_ready];refine⟨by rw[JMx (by omega)];exact C,ops[k],by simp[hk],λe y hb=>?_⟩;exact K _ (D k ops[k] (by simp[hk]) e y hb));simp_all;obtain⟨h1,o,U,z⟩:=mem_ready.1 hk;have W:k<ops.size:=(Array.getElem?_eq_some_iff.1 U).1;have C:Dl g k=J:=by grind [Dl]
  have M:ins[k]?=Z (ins[k]'(by omega)):=aZ _;obtain⟨o',T,_c⟩:=hc k _ M;have q:kh ops (Dl g) k:=by intro L v e y hb;rw[U]at v;cases v;exact z e y hb
  obtain⟨V,r2⟩:=JOV hr B M C (λj x hDj=>by
   rcases _e j k x (by omega)with h|h;have:=h _ r q;simp_all;exact h) (λj x R hDj=>by
   rcases _e k j x R with h|h;have:=h _ r (r j hDj);simp_all;exact h)
  refine Nf _b hs T _c V λG w' hs'=>ih _ _ G w' (by simp[_d]) ?_ hs' ?_ ?_;grind [N6];rw[N6 (by omega)];intro j x L v e y hb;dsimp only at x⊢;have h:Dl g e.on=O->(if e.on=k then O else Dl g e.on)=O:=by simp_all
  by_cases H:j=k;subst H;exact h (q L v e y hb);rw[if_neg H]at x;exact h (r j x L v e y hb);grind [Aq]
theorem JTd(_a:kT P F)(H:P.follows .mixedOrders=O){id:Nat}{draw:Bool}{pairs:List (Nat×Nat)}{ins:List bX}(h:region F pairs ins st=Z st')
  (hc:wg P N draw pairs ins ops=O) (hs:Sim N E st a w) (next: ∀U w',Sim N E st' U w'->Q .normal U w'):(Code.region id ops draw).wp P Q a w:=by
 simp only[wg,aX,AW,GQ]at hc;obtain⟨K,B⟩:=hc;obtain⟨hlen,G⟩:=yz K;have hlen:ins.length=ops.size:=by simp_all
 have G: ∀(k:Nat) i,ins[k]?=Z i-> ∃o,ops[k]?=Z o/\CI P N ops i o=O:=λk i hi=>by simp_all
 have T:=hs.room (news ins);have _d: ∃(_m:Nat->Nat) (S:Nat->St) (eff:Nat->Eff),Run F ins _m S eff/\S 0=⟨st.env,room (news ins) st._o⟩/\S ins.length=st'/\
   ∀i j,(i,j)∈pairs-> ∃x y,ins[i]?=Z x/\ins[j]?=Z y/\hW ((eff i).ws.map (·.1)) (kU ((bZ F y (_m j)).reads (S j)))=O/\
   hW ((eff i).ws.map (·.1)) ((eff j).ws.map (·.1))=O/\hW (kU ((bZ F x (_m i)).reads (S i))) ((eff j).ws.map (·.1))=O:=by
  unfold region at h;split at h;grind [Nl];split at h;rename_i s' l n;split at h;rename_i M;cases h;obtain⟨_m,S,eff,D,C,_c,_,q⟩:=Nc n;refine⟨_m,S,eff,D,C,_c,λi j hm=>?_⟩;obtain⟨x,y,_b,W,d1,d2,d3⟩:=Az M hm;have R: ∀(k:Nat) z,l[k]?=Z z->k<ins.length:=by
   intro k z hk;have:=JA hk;have a5:l.length=ins.length:=by
    clear q D C _c M _b W;have: ∀{r:List bX} {e:Nat} {s0:St} {A v:Log} {s1:St},kS F r e s0 A=Z (s1,v)->v.length=A.length+r.length:=by
     intro r
     induction r with
     |nil=>simp[kS]
     |cons i r ih=>
      grind [kS]
    grind
   omega
  have hi:=R i x _b;have g:=R j y W;have L:ins[i]?=Z ins[i]:=aZ hi;have _e:ins[j]?=Z ins[j]:=aZ g;have qi:=q i _ L;have qj:=q j _ _e;simp only[List.length_nil,pV]at qi qj;grind;cases h;cases h
 obtain⟨_m,S,eff,D,C,_c,M⟩:=_d;cases draw with
 |false=>
  refine wp_region ?_;rw[List.range_eq_range',<-hlen];have a6: ∃e,hE F ins e ⟨st.env,room (news ins) st._o⟩=Z st':=by
   unfold region at h;split at h;grind;split at h;rename_i s' l n;split at h;cases h;have: ∀{r:List bX} {e:Nat} {s0:St} {A v:Log} {s1:St},kS F r e s0 A=Z (s1,v)->hE F r e s0=Z s1:=by
    intro r
    induction r with
    |nil=>intro e s0 A v s1 h;simp only[kS]at h;injection h with h;injection h with h1 h2;subst h1;rfl
    |cons i r ih=>
     grind [kS,hE]
   grind;cases h;cases h
  grind [z7]
 |true=>
  obtain⟨he,hd⟩:=B.resolve_left (by simp);refine wp_region_any H ?_;have V:Sim N E (S 0) a {w with drawn:=w.drawn+1}:=by rw[C];exact T.heap rfl rfl rfl
  refine JUR _a D hlen G (λk o ho=>?_) (λi j hij g=>?_) (by simp_all) ops.size _ (S 0) a _ (by simp) ?_ V ?_ ?_;have:=Bx he k o (by simpa using ho);simp_all;have L:ins[i]?=Z (ins[i]'(by omega)):=aZ _;have _e:ins[j]?=Z ins[j]:=aZ g;have h1:=A3 hd j _ _e;rw[pV]at h1;have h2:=Bz h1 i _ L (by omega);rw[pV]at h2;simp only[j8,AW,aX]at h2;rcases h2 with h2|⟨h2,h3⟩;grind [N5];grind [JPu];have:Dl (Array.replicate ops.size J)=λ_=>J:=by
   funext j;unfold Dl;simp[Array.getElem?_replicate];split<;>rfl
  rw[this];exact JH9;intro j g;unfold Dl at g;simp[Array.getElem?_replicate]at g;grind;simp
end
def dH(P:Program)(N:Nat):cD->Code->Bool
 | .bad,_=>O
 | .skip,c=>match c with| .skip=>O| .label _=>O|_=>J
 | .reg draw pairs ins,c=>match c with| .region _ ops d=>draw==d&&wg P N draw pairs ins ops|_=>J
 | .seq a b,c=>match c with| .seq x y=>dH P N a x&&dH P N b y|_=>J
 | .cond o a b,c=>match c with| .cond p x y=>bP o p&&dH P N a x&&dH P N b y|_=>J
 | .block id a,c=>match c with| .block e x=>id==e&&dH P N a x|_=>J
 | .loop _ a,c=>match c with| .loop x=>dH P N a x|_=>J
 | .lp _ _ _,_=>J
 | .scope a,c=>match c with| .scope x=>dH P N a x|_=>J
 | .exit id,c=>match c with| .exit e=>id==e|_=>J
 | .ret,c=>match c with| .ret=>O|_=>J
 | .keep _ a,c=>dH P N a c
 | .tidy _ a,c=>dH P N a c
 | .br _ pre o a b rest,c=>match c with| .seq (.seq p (.cond q x y)) z=>dH P N pre p&&bP o q&&dH P N a x&&dH P N b y&&dH P N rest z|_=>J
def tK:AX->Exit| .normal=>.normal| .exit id=>.exit id| .ret=>.ret
def NL(P:Program)(c:cD)(st:St)(r:Out):Prop:=
 match c with
 | .lp n _ b=> ∃k,∀(N:Nat) (e:Code) (E:Sn) (a:Act) (w:World) (Q:Exit->Act->World->Prop),dH P N b e=O->E.σ.length<=n->n<=st._o.length->Sim N E st a w->
   (∀g w',Sim N E r.2 g w'->Q (tK r.1) g w')->Code.rounds P e Q k a w
 |c=> ∀(N:Nat) (e:Code) (E:Sn) (a:Act) (w:World) (Q:Exit->Act->World->Prop),dH P N c e=O->Sim N E st a w->
  (∀g w',Sim N E r.2 g w'->Q (tK r.1) g w')->e.wp P Q a w
theorem NL.get{P:Program}{c:cD}{st:St}{r:Out}(h:NL P c st r){N:Nat}{e:Code}{E:Sn}{a:Act}{w:World}{Q:Exit->Act->World->Prop}(hc:dH P N c e=O)(hs:Sim N E st a w)
  (next: ∀g w',Sim N E r.2 g w'->Q (tK r.1) g w'):e.wp P Q a w:=by
 cases c<;>first|exact h N e E a w Q hc hs next|grind [dH]
theorem UN{env:List (Nat×AV)}{n:Nat}{x:AV}: ∀{live:List Nat},lk n (restr live env)=Z x->lk n env=Z x
 |[],h=>by grind [restr,lk]
 |k::r,h=>by
  simp only[restr]at h;split at h;rename_i v e;simp only[lk]at h;split at h;simp_all;exact UN h;exact UN h
theorem Pp{m:Nat}{_o:List _x}{n:Nat}{y:AV}: ∀{env g:List (Nat×AV)},xM m _o env=Z g->lk n g=Z y-> ∃x,lk n env=Z x/\fin m [] _o x=Z y
 |[],g,h,hy=>by grind [xM,lk]
 |(k,x)::r,g,h,hy=>by
  simp only[xM]at h;split at h;rename_i z l q j;cases h;simp only[lk]at hy⊢;split at hy;simp_all;rename_i e;obtain⟨o,h1,h2⟩:=Pp j hy;simp_all;cases h
section
variable {P:Program} {N:Nat} {E:Sn} {st st':St} {a:Act} {w:World}
theorem Sim.restr(h:Sim N E st a w)(live:List Nat):Sim N E ⟨restr live st.env,st._o⟩ a w:=by obtain⟨h1,h2,g,hi,e,ht⟩:=h;exact⟨h1,h2,g,hi,λn x j=>e n x (UN j),ht⟩
theorem UM{n:Nat}{live:List Nat}(h:Sim N E st a w)(hc:clean n live st=Z st')(q:E.σ.length<=n)(hn:n<=st._o.length):Sim N E st' a w/\st'._o.length=n:=by
 unfold clean at hc;split at hc;rename_i e;cases hc;exact⟨h.restr live,e⟩;split at hc;rename_i ev l o r;cases hc;obtain⟨h1,h2,g,hi,A,ht⟩:=h;obtain⟨D,F⟩:=WA r;have hlen:l.length=n:=by simp_all
 have j:ve ⟨st._o,g,w⟩ n [] l:=(by refine⟨hi,hn,List.nodup_nil,λb hb=>by simp at hb,by simp[hlen],λk x hk=>?_⟩;grind [vZ]);refine⟨⟨h1,h2,(lP ⟨st._o,g,w⟩ n [] l).g,On j,λk y z=>?_,zg j ht q⟩,hlen⟩;obtain⟨x,B,hf⟩:=Pp o z;obtain⟨v,C,hrel⟩:=A k x (UN B);exact⟨v,C,jz j hrel hf⟩;cases hc
def qG(P:Program):List xN->List ResultVar->Bool|[],[]=>O| .tmp t::r,.tmp t'::q=>t==t'&&qG P r q| .cell t agg size::r,.cell t' ty::q=>t==t'&&agT P ty==Z agg&&szT P ty==Z size&&qG P r q|_,_=>J
def d6(tmps:Array Value):ResultVar->Sem Value| .tmp t=>pure (tmps.getD t undef)| .cell a t=>do loadVar t (<-asAddr (tmps.getD a undef))
theorem kb{s:Sn}{env:List (Nat×AV)}{tmps:Array Value}(hi:Inv s)(he:bR s tmps env): ∀{A:List xN} {B:List ResultVar} {vs:List AV},qG P A B=O->(pO A).run ⟨env,s.σ⟩=Z vs->
  ∃g:List Value,(B.mapM (d6 tmps)).run P s.w=.ok g s.w/\vs.length=g.length/\ ∀(i:Nat) x v,vs[i]?=Z x->g[i]?=Z v->JH s x v
 |[],[],vs,_,h=>by simp_all [pO,RM.run]
 | .tmp t::r,.tmp t'::q,vs,hc,h=>by
  simp only[qG,aX,beq_iff_eq]at hc;obtain⟨rfl,hc⟩:=hc;simp only[pO]at h;obtain⟨x,h1,h⟩:=bind_some h;obtain⟨l,h2,h⟩:=bind_some h;simp only[RM.run]at h;cases h;simp only[RM.run]at h1;split at h1;rename_i y n;cases h1;obtain⟨v,L,D⟩:=he _ _ n;obtain⟨g,E,k,F⟩:=kb hi he hc h2;refine⟨v::g,?_,by simp[k],λi x u K _e=>?_⟩;simp_all [d6];grind;cases h1
 | .cell t agg size::r,.cell t' ty::q,vs,hc,h=>by
  simp only[qG,aX,beq_iff_eq]at hc;obtain⟨⟨⟨rfl,M⟩,C⟩,hc⟩:=hc;simp only[pO]at h;obtain⟨x,h1,h⟩:=bind_some h;obtain⟨e,_d,h⟩:=bind_some h;obtain⟨l,h2,h⟩:=bind_some h;simp only[RM.run]at h;cases h;simp only[RM.run]at h1;split at h1;rename_i y n;cases h1;obtain⟨v,L,D⟩:=he _ _ n;obtain⟨g,E,k,F⟩:=kb hi he hc h2;obtain⟨G,o,ws,S,N,H,_,_c⟩:=zh hi _d D;obtain⟨Q,R⟩:=Bv (P:=P) M C N H;have j: ∃u,(loadVar ty ⟨G,o,Y⟩).run P s.w=.ok u s.w/\JH s e.val u:=(by grind);obtain⟨u,_e,hrel⟩:=j;refine⟨u::g,?_,by simp[k],λi x z K C=>?_⟩;simp_all [d6,asAddr];grind;cases h1
 |[],_::_,_,hc,_=>by grind [qG]
 | .tmp _::_,[],_,hc,_=>by grind [qG]
 | .cell _ _ _::_,[],_,hc,_=>by grind [qG]
 | .tmp _::_,.cell _ _::_,_,hc,_=>by grind [qG]
 | .cell _ _ _::_,.tmp _::_,_,hc,_=>by grind [qG]
theorem VF{m:Nat}{fresh:Bool}{_o:List _x}: ∀{es:List _A},∀b∈kW m fresh _o es,m<=b
 |[],b,h=>by grind [kW]
 | .elem _ _ _::r,b,h=>VF (es:=r) b (by simpa[kW]using h)
 | .whole c::r,b,h=>by
  simp only[kW]at h;split at h;exact VF (es:=r) b h;rename_i hc;have e:b∈c::kW m fresh _o r->m<=b:=(by intro h;rcases bS.1 h with rfl|h;omega;exact VF (es:=r) b h);grind
theorem P3{s:Sn}{vs:List AV}{e:List Value}(hl:vs.length=e.length)(hr: ∀(i:Nat) x v,vs[i]?=Z x->e[i]?=Z v->JH s x v):
  JH s (one vs) (if h:e.toArray.size=1 then e.toArray[0]else .tuple e.toArray):=by
 by_cases h:e.toArray.size=1;rw[dif_pos h];cases e with
 |nil=>simp at h
 |cons u q=>
  cases vs with
  |nil=>simp at hl
  |cons x p=>
   have j:q=[]:=by simpa using h
   subst j;have g:p=[]:=by simpa using hl
   subst g;exact hr 0 x u rfl rfl
 rw[dif_neg h];have:one vs=.tup vs:=by
  match vs,hl with
  |[],_=>rfl
  |[x],hl=>simp_all
  |_::_::_,_=>rfl
 rw[this];exact .tup _ _ (by simpa using hl) λi x v n k=>hr i x v n (by simpa using k)
theorem zp{e:AFn}{fn:Func}{m:Nat}{r:Res}(hs:Sim N E st a w)(hm:E.σ.length=m)(h:iR e m st=Z r)(hc:qG P e.res fn.results.toList=O):
  a.defers=[]/\ ∃v,(results fn a.tmps).run P w=.ok v w/\ ∃g',Inv ⟨r.2,g',w⟩/\bE E ⟨r.2,g',w⟩/\JH ⟨r.2,g',w⟩ r.1 v:=by
 obtain⟨h1,h2,g,hi,_d,ht⟩:=hs;refine⟨h2,?_⟩;unfold iR at h;cases hvs:(pO e.res).run st with
 |none=>simp_all
 |some vs=>
  rw[hvs]at h;dsimp only at h;obtain⟨y,Q,V,G⟩:=kb (P:=P) (s:=⟨st._o,g,w⟩) (env:=st.env) hi _d hc hvs;have n:(results fn a.tmps).run P w=.ok (if h:y.toArray.size=1 then y.toArray[0]else .tuple y.toArray) w:=by
   have:results fn a.tmps=(do
    let vs<-fn.results.mapM (d6 a.tmps)
    pure (if h:vs.size=1 then vs[0]else .tuple vs)):=rfl
   simp_all [Array.mapM_eq_mapM_toList]
  refine⟨_,n,?_⟩;split at h;grind [P3];split at h;rename_i B;have z:=VF (m:=m) (fresh:=e.fresh) (_o:=st._o) (es:=tC st._o (cV.entsOfL vs []) (cV.entsOfL vs []));generalize kW m e.fresh st._o (tC st._o (cV.entsOfL vs []) (cV.entsOfL vs []))=_p at*;split at h;rename_i ws l q A _e H;split at h;rename_i q' C;cases h;obtain⟨W,L⟩:=wC A;obtain⟨b1,b2⟩:=WA _e;obtain⟨T,U⟩:=A1 H;obtain⟨S,R⟩:=WA C;have D:m<=st._o.length:=by rw[<-hm];exact ht.len
  have hlen:l.length=m:=by simp_all
  have o:ve ⟨st._o,g,w⟩ m _p (l++q'):=(by refine⟨hi,D,WH B,z,by simp;omega,λk x hk=>?_⟩;rcases NU hk with hk|⟨M,hk⟩;grind [vZ];grind [gG]);refine⟨_,On o,zg o ht (by omega),P3 (by omega) λi x v F K=>?_⟩;have _c:=JA F;have j:vs[i]?=Z (vs[i]'(by omega)):=aZ _;exact jz o (G i _ v j K) (L i _ x j F);cases h;cases h;cases h
def mQ(P:Program)(f:FuncId)(e:AFn):Bool:=
 match P.funcs[f]? with
 |none=>J
 |some fn=>match fn.body with
  |none=>J
  |some g=>fn.name != "runtime.NumGoroutine" &&e.nt==e.np+(fn.ntmps-e.np)&&qG P e.res fn.results.toList&&dH P e.nt e.body g
theorem ka: ∀{args:List AV} {k n:Nat} {x:AV},lk n (kL k args)=Z x->k<=n/\args[n-k]?=Z x
 |[],k,n,x,h=>by grind [kL,lk]
 |y::r,k,n,x,h=>by
  simp only[kL,lk]at h;split at h;simp_all;rename_i e;obtain⟨h1,h2⟩:=ka h;grind
end
section
variable {P:Program} {T:dU}
theorem JO8{f:FuncId}{j:AFn}{args:List AV}{_q:List _x}{r:Res}(hc:mQ P f j=O)(_e:args.length=j.np)
  (h: ∀(k:Code) (g:Gh) (w:World) (a:Act) (Q:Exit->Act->World->Prop),dH P j.nt j.body k=O->Sim j.nt ⟨_q,g,w⟩ ⟨kL 0 args,_q⟩ a w->
   (∀e s o w',(e=.normal\/e=.ret)->iR j _q.length s=Z r->Sim j.nt ⟨_q,g,w⟩ s o w'->Q (tK e) o w')->k.wp P Q a w):J6J P f args _q r:=by
 unfold mQ at hc;split at hc;cases hc;rename_i fn A;split at hc;cases hc;rename_i k hb;simp only[aX,beq_iff_eq,bne_iff_ne,ne_eq]at hc;obtain⟨⟨⟨D,H⟩,E⟩,z⟩:=hc;refine⟨⟨fn,A,by simp[hb],by simp_all⟩,λg w vals hinv hlen hrel=>?_⟩;refine calls_of_wp A hb ?_;have C:Sim j.nt ⟨_q,g,w⟩ ⟨kL 0 args,_q⟩ {tmps:=vals++Array.replicate (fn.ntmps-vals.size) undef,defers:=[]} w:=(by refine⟨by simp;omega,rfl,g,hinv,λn x y=>?_,.refl _⟩;obtain⟨_,y⟩:=ka y;rw[uQ]at y;have G:=JA y;refine⟨vals[n]'(by omega),?_,hrel n x _ y (xG _)⟩;grind);have fin: ∀{s},iR j _q.length s=Z r-> ∀o w',Sim j.nt ⟨_q,g,w⟩ s o w'->o.defers=[]/\ ∃v,(results fn o.tmps).run P w'=.ok v w'/\ ∃B g',Ending.returned v=.returned B/\
   Inv ⟨r.2,g',w'⟩/\bE ⟨_q,g,w⟩ ⟨r.2,g',w'⟩/\JH ⟨r.2,g',w'⟩ r.1 B:=by
  grind [zp]
 refine h k g w _ _ z C λe s o w' F q hs=>?_;rcases F with rfl|rfl;exact fin q o w' hs;exact fin q o w' hs
theorem JPm{R:cD->St->Option Out}(ih: ∀c s r,R c s=Z r->NL P c s r){f:FuncId}{k:lJ}{args:List AV}{_q:List _x}{r:Res}(hc:mQ P f k.af=O)(_d:args.length=k.np)
  (h:vE R k args _q=Z r):J6J P f args _q r:=by
 refine JO8 hc _d λn g w a Q j z fin=>?_;simp only[lJ.af]at j fin z;cases n<;>simp only[dH,fJ]at j;rename_i _c N;simp only[aX]at j;obtain⟨E,q⟩:=j;unfold vE at h;split at h
 rename_i s0 H;split at h;rename_i s1 B;refine wp_seq ((ih _ _ _ H).get E z λa0 w0 x=>?_);split at q;rename_i cp G cx _a S;simp only[aX]at q;obtain⟨⟨⟨⟨W,K⟩,hx⟩,hy⟩,V⟩:=q;simp only[tK,Exit.then];refine wp_seq (wp_seq ((ih _ _ _ B).get W x λD C x=>?_));have _b: ∀{c:cD} {n:Code},dH P k.nt c n=O->uP k.af _q.length (thn (R c s1) λs=>R k.rest s)=Z r->
   n.wp P (Exit.then (S.wp P Q) Q) D C:=by
  intro c n hc ht;cases hR:R c s1 with
  |none=>rw[hR]at ht;cases ht
  |some o=>
   obtain⟨e,F⟩:=o;rw[hR]at ht;refine(ih _ _ _ hR).get hc x λy w' hs'=>?_;cases e with
   |normal=>
    simp only[thn]at ht;cases hR2:R k.rest F with
    |none=>rw[hR2]at ht;cases ht
    |some T=>
     obtain⟨U,_e⟩:=T;rw[hR2]at ht;simp only[tK,Exit.then];refine(ih _ _ _ hR2).get V hs' λy w' hs'=>?_;cases U with
     |normal=>exact fin .normal _e y w' (.inl rfl) ht hs'
     |ret=>exact fin .ret _e y w' (.inr rfl) ht hs'
     |exit id=>cases ht
   |exit id=>cases ht
   |ret=>exact fin .ret F y w' (.inr rfl) ht hs'
 have A:=x;obtain⟨_,_,g,hi,L,_⟩:=A;simp only[tK,Exit.then];split at h;rename_i b hb;have hrel:=bO (s:=⟨s1._o,g,C⟩) (env:=s1.env) L hb K;generalize M:D.eval G=v at hrel;cases hrel with
 |p _ _ hrel=>cases hrel<;>grind [wp_cond]
 rename_i hb;have hrel:=bO (s:=⟨s1._o,g,C⟩) (env:=s1.env) L hb K;generalize M:D.eval G=v at hrel;cases hrel with
 |unk t=>
  refine wp_cond M ?_;unfold MF at h;grind
 cases h;cases q;cases h;cases h
theorem S4{R:cD->St->Option Out}(ih: ∀c s r,R c s=Z r->NL P c s r)(D: ∀f j,T f=Z (.fn j)->mQ P f j=O)
  (_d: ∀f g,T f=Z (.prim g)-> ∀args _q r,g args _q=Z r->J6J P f args _q r) (_e: ∀f k,T f=Z (.fork k)->mQ P f k.af=O):kT P (rP T R):=by
 intro f args _q r h;unfold rP at h;cases hTf:T f with
 |none=>simp_all
 |some en=>
  rw[hTf]at h;cases en with
  |prim g=>simp_all
  |fork k=>
   grind [JPm]
  |fn j=>
   dsimp only at h;split at h;rename_i G;have hc:=D f j hTf;unfold mQ at hc;split at hc;cases hc;rename_i fn z;split at hc;cases hc;rename_i C hb;simp only[aX,beq_iff_eq,bne_iff_ne,ne_eq]at hc;obtain⟨⟨⟨B,H⟩,E⟩,o⟩:=hc;refine⟨⟨fn,z,by simp[hb],by simp_all⟩,λg w vals hinv hlen hrel=>?_⟩;refine calls_of_wp z hb ?_;have y:Sim j.nt ⟨_q,g,w⟩ ⟨kL 0 args,_q⟩ {tmps:=vals++Array.replicate (fn.ntmps-vals.size) undef,defers:=[]} w:=(by refine⟨by simp;omega,rfl,g,hinv,λn x q=>?_,.refl _⟩;obtain⟨_,q⟩:=ka q;rw[uQ]at q;have F:=JA q;refine⟨vals[n]'(by omega),?_,hrel n x _ q (xG _)⟩;grind);have fin: ∀{s},iR j _q.length s=Z r-> ∀e w',Sim j.nt ⟨_q,g,w⟩ s e w'->e.defers=[]/\ ∃v,(results fn e.tmps).run P w'=.ok v w'/\ ∃A g',Ending.returned v=.returned A/\
     Inv ⟨r.2,g',w'⟩/\bE ⟨_q,g,w⟩ ⟨r.2,g',w'⟩/\JH ⟨r.2,g',w'⟩ r.1 A:=by
    grind [zp]
   split at h;rename_i s hR;exact(ih _ _ _ hR).get o y λe w' hs=>fin h e w' hs;rename_i s hR;exact(ih _ _ _ hR).get o y λe w' hs=>fin h e w' hs;cases h;cases h
theorem JQJ(a0:P.follows .mixedOrders=O)(hT: ∀f af,T f=Z (.fn af)->mQ P f af=O)
  (hP: ∀f g,T f=Z (.prim g)-> ∀args _q r,g args _q=Z r->J6J P f args _q r) (hK: ∀f k,T f=Z (.fork k)->mQ P f k.af=O): ∀c s r,X T c s=Z r->NL P c s r:=by
 refine JW7 T _ ?_;intro R ih c s r h;have hF:kT P (rP T R):=S4 ih hT hP hK;cases c with
 |skip=>
  simp only[step]at h;cases h;intro N j E a w Q hc hs next;cases j<;>first
   |exact wp_skip (next a w hs)
   |exact wp_label (next a w hs)
   |grind [dH]
 |bad=>grind [step]
 |reg d pairs ins=>
  simp only[step]at h;split at h;rename_i s' _b;cases h;intro N j E a w Q hc hs next;cases j<;>simp only[dH,fJ]at hc;simp only[aX,beq_iff_eq]at hc;obtain⟨rfl,hc⟩:=hc;exact JTd hF a0 _b hc hs next
  cases h
 |seq x y=>
  simp only[step]at h;intro N j E a w Q hc hs next;cases j<;>simp only[dH,fJ]at hc;simp only[aX]at hc;refine wp_seq ?_;split at h
  rename_i s' B;refine(ih _ _ _ B).get hc.1 hs λq w' hs'=>?_;exact(ih _ _ _ h).get hc.2 hs' next;rename_i U;refine(ih _ _ _ h).get hc.1 hs λq w' hs'=>?_;obtain⟨e,s'⟩:=r;cases e with
  |normal=>simp_all
  |exit id=>exact next q w' hs'
  |ret=>exact next q w' hs'
 |cond c x y=>
  simp only[step]at h;intro N j E a w Q hc hs next;cases j<;>simp only[dH,fJ]at hc;simp only[aX]at hc;obtain⟨⟨V,B⟩,hy⟩:=hc;have hs':=hs;obtain⟨_,_,g,hi,A,_⟩:=hs';split at h
  rename_i b hb;have hrel:=bO (s:=⟨s._o,g,w⟩) (env:=s.env) A hb V;generalize G:a.eval _=v at hrel;cases hrel with
  |p _ _ hrel=>
   cases hrel with
   |b=>
    refine wp_cond G ?_;cases b with
    |true=>exact(ih _ _ _ (by simpa using h)).get B hs next
    |false=>exact(ih _ _ _ (by simpa using h)).get hy hs next
  rename_i hb;have hrel:=bO (s:=⟨s._o,g,w⟩) (env:=s.env) A hb V;generalize G:a.eval _=v at hrel;cases hrel with
  |unk t=>
   refine wp_cond G ?_;unfold same at h;split at h;rename_i r1 r2 e1 e2;split at h;rename_i _d;cases h;cases t with
   |true=>exact(ih _ _ _ e1).get B hs next
   |false=>rw[_d]at next;exact(ih _ _ _ e2).get hy hs next
   cases h;cases h
  cases h
 |block id x=>
  simp only[step]at h;intro N j E a w Q hc hs next;cases j<;>simp only[dH,fJ]at hc;simp only[aX,beq_iff_eq]at hc;obtain⟨rfl,hc⟩:=hc;refine wp_block ?_;split at h
  rename_i k s' B;refine(ih _ _ _ B).get hc hs λq w' hs'=>?_;grind [tK,Exit.inBlock];rename_i U;refine(ih _ _ _ h).get hc hs λq w' hs'=>?_;obtain⟨e,s'⟩:=r;cases e with
  |normal=>exact next q w' hs'
  |exit id=>simp_all
  |ret=>exact next q w' hs'
 |loop live x=>
  simp only[step]at h;intro N j E a w Q hc hs next;cases j<;>simp only[dH,fJ]at hc;split at h
  rename_i s' z;obtain⟨k,hk⟩:=ih _ _ _ h;have F:E.σ.length<=s._o.length:=by obtain⟨_,_,g,_,_,ht⟩:=hs;exact ht.len
  obtain⟨hs',hl⟩:=UM hs z F (zQ0 _);exact wp_loop_rounds k (hk N _ E a w Q hc F (by omega) hs' next);cases h
 |lp n live x=>
  simp only[step]at h;split at h
  ·rename_i s' B;split at h
   ·rename_i ao z;obtain⟨k,hk⟩:=ih _ _ _ h;refine⟨k+1,λN j E a w Q hc F hn hs next=>?_⟩;rw[rounds_succ];obtain⟨h1,h2,g,hi,A,ht⟩:=hs;have C:Sim N ⟨s._o,g,w⟩ s a w:=⟨h1,h2,g,hi,A,.refl _⟩;refine(ih _ _ _ B).get hc C λq w' hs'=>?_;obtain⟨M,K,g',H,_e,D⟩:=hs';have hlen:s._o.length<=s'._o.length:=D.len;have a5:Sim N E s' q w':=⟨M,K,g',H,_e,ht.trans D⟩;obtain⟨a6,hl⟩:=UM a5 z F (by omega);exact hk N j E q w' Q hc F (by omega) a6 next
   cases h
  ·rename_i U;refine⟨1,λN j E a w Q hc F hn hs next=>?_⟩;rw[rounds_succ];refine(ih _ _ _ h).get hc hs λq w' hs'=>?_;obtain⟨e,s'⟩:=r;cases e with|normal=>simp_all|exit id=>exact next q w' hs'|ret=>exact next q w' hs'
 |scope x=>simp only[step]at h;intro N j E a w Q hc hs next;cases j<;>simp only[dH,fJ]at hc;refine wp_scope_straight ((ih _ _ _ h).get hc hs λq w' hs'=>?_);have:=next q w' hs';obtain⟨e,s'⟩:=r;cases e<;>exact this
 |exit id=>
  simp only[step]at h;cases h;intro N j E a w Q hc hs next;cases j<;>simp only[dH,fJ]at hc;simp only[beq_iff_eq]at hc;subst hc;exact wp_exit (next a w hs)
 |ret=>
  simp only[step]at h;cases h;intro N j E a w Q hc hs next;cases j<;>simp only[dH,fJ]at hc;exact wp_ret (next a w hs)
 |keep live x=>simp only[step]at h;intro N j E a w Q hc hs next;exact(ih _ _ _ h).get (by grind [dH]) (hs.restr live) next
 |tidy live x=>
  simp only[step,oE]at h;intro N j E a w Q hc hs next;split at h;rename_i e _c _d;split at h;rename_i s3 z;cases h;obtain⟨h1,h2,g,hi,A,ht⟩:=hs;have C:Sim N ⟨s._o,g,w⟩ s a w:=⟨h1,h2,g,hi,A,.refl _⟩;refine(ih _ _ _ _d).get (by grind [dH]) C λq w' hs'=>next q w' ?_;obtain⟨M,K,g',H,_e,D⟩:=hs';exact(UM (st:=_c) (st':=s3) ⟨M,K,g',H,_e,ht.trans D⟩ z ht.len D.len).1;cases h;cases h
 |br live pre o x y rest=>
  simp only[step]at h;intro N j E a w Q hc hs next;unfold dH at hc;split at hc;rename_i cp cq cx cy cz;simp only[aX]at hc;obtain⟨⟨⟨⟨hp,ho⟩,B⟩,hy⟩,hz⟩:=hc;split at h;rename_i s1 a3;refine wp_seq (wp_seq ((ih _ _ _ a3).get hp hs λS L W=>?_));have a9: ∀{c:cD} {j:Code} {r':Out},dH P N c j=O->thn (R c s1) (λs=>R rest s)=Z r'->
    ∀{E:Sn} {a:Act} {w:World} {Q:Exit->Act->World->Prop},Sim N E s1 a w->(∀q w',Sim N E r'.2 q w'->Q (tK r'.1) q w')->j.wp P (Exit.then (cz.wp P Q) Q) a w:=by
   intro c j r' hc ht E a w Q hs next;cases hR:R c s1 with
   |none=>rw[hR]at ht;cases ht
   |some o=>
    obtain⟨e,_c⟩:=o;rw[hR]at ht;refine(ih _ _ _ hR).get hc hs λq w' hs'=>?_;cases e with
    |normal=>exact(ih _ _ _ ht).get hz hs' next
    |exit id=>cases ht;exact next q w' hs'
    |ret=>cases ht;exact next q w' hs'
  have ac: ∀{c:cD} {j:Code},dH P N c j=O->oE s1._o.length live (thn (R c s1) λs=>R rest s)=Z r->j.wp P (Exit.then (cz.wp P Q) Q) S L:=(by intro c j hc ht;unfold oE at ht;split at ht;rename_i e _c _d;split at ht;rename_i s3 z;cases ht;obtain⟨h1,h2,g,hi,A,ht⟩:=W;have C:Sim N ⟨s1._o,g,L⟩ s1 S L:=⟨h1,h2,g,hi,A,.refl _⟩;refine a9 hc _d C λq w' hs'=>next q w' ?_;obtain⟨M,K,g',H,_e,D⟩:=hs';exact(UM (st:=_c) (st':=s3) ⟨M,K,g',H,_e,ht.trans D⟩ z ht.len D.len).1;cases ht;cases ht);have _a:=W;obtain⟨_,_,g,hi,A,_⟩:=_a;simp only[tK,Exit.then];split at h;rename_i b hb;have hrel:=bO (s:=⟨s1._o,g,L⟩) (env:=s1.env) A hb ho;generalize G:S.eval cq=v at hrel;cases hrel with
  |p _ _ hrel=>cases hrel<;>grind [wp_cond]
  rename_i hb;have hrel:=bO (s:=⟨s1._o,g,L⟩) (env:=s1.env) A hb ho;generalize G:S.eval cq=v at hrel;cases hrel with
  |unk t=>
   refine wp_cond G ?_;unfold same at h;grind
  cases h;cases h;cases hc
theorem Mh(e:P.follows .mixedOrders=O)(j: ∀f o,T f=Z (.fn o)->mQ P f o=O)
  (h: ∀f g,T f=Z (.prim g)-> ∀args _q r,g args _q=Z r->J6J P f args _q r) (n: ∀f k,T f=Z (.fork k)->mQ P f k.af=O):kT P (AF T):=
 S4 (JQJ e j h n) j h n
end
@[congr] theorem JVU{o e:Option Out}{k:St->Option Out}(h:o=e):thn o k=thn e k:=by rw[h]
@[congr] theorem JUX{α β:Type}{o e:RM α}{f:α->RM β}(h:o=e):o.bind f=e.bind f:=by rw[h]
@[congr] theorem JUY{α β:Type}{o e:Option α}{f:α->Option β}(h:o=e):o.bind f=e.bind f:=by rw[h]
@[simp] theorem ON(s k):thn (Z (.normal,s)) k=k s:=rfl
@[simp] theorem JOw(i s k):thn (Z (.exit i,s)) k=Z (.exit i,s):=rfl
@[simp] theorem JQH(s k):thn (Z (.ret,s)) k=Z (.ret,s):=rfl
@[simp] theorem JNm(k):thn Y k=Y:=rfl
def PW(o:Option Out)(k:St->Option Out):Option Out:=
 match o with
 |some (.normal,s)=>k s
 |_=>Y
@[congr] theorem JV3{o e:Option Out}{k:St->Option Out}(h:o=e):PW o k=PW e k:=by rw[h]
@[simp] theorem JGR(s k):PW (Z (.normal,s)) k=k s:=rfl
def blo(id:Nat)(o:Option Out):Option Out:=
 match o with
 |some (.exit k,s)=>if k=id then Z (.normal,s)else Z (.exit k,s)
 |o=>o
@[simp] theorem JKJ(id s):blo id (Z (.normal,s))=Z (.normal,s):=rfl
@[simp] theorem Ru(id i s):blo id (Z (.exit i,s))=if i=id then Z (.normal,s)else Z (.exit i,s):=rfl
@[simp] theorem JRV(id s):blo id (Z (.ret,s))=Z (.ret,s):=rfl
@[simp] theorem JOa(id):blo id Y=Y:=rfl
def nrm(o:Option St):Option Out:=match o with|some s=>Z (.normal,s)|none=>Y
@[simp] theorem JPL(s):nrm (Z s)=Z (.normal,s):=rfl
@[simp] theorem JOR:nrm Y=Y:=rfl
def evv(x:Opd)(env:List (Nat×AV)):Option AV:=match x with| .t n=>lk n env| .c v=>Z v
@[simp] theorem JWv(n env):evv (.t n) env=lk n env:=rfl
@[simp] theorem JWw(v env):evv (.c v) env=Z v:=rfl
theorem SO(x:Opd)(s:St):(ev x).run s=evv x s.env:=by cases x<;>grind [ev,RM.run,evv]
section
variable (T:dU)
@[simp ↓] theorem JWq(s):X T .skip s=Z (.normal,s):=by rw[nS];rfl
@[simp ↓] theorem Mn(a b s):X T (.seq a b) s=thn (X T a s) λs=>X T b s:=by
 rw[nS];simp only[step];cases X T a s with
 |none=>rfl
 |some o=>obtain⟨e,s'⟩:=o;cases e<;>rfl
theorem Me(d ps ins s):X T (.reg d ps ins) s=nrm (region (AF T) ps ins s):=by rw[nS];simp only[step];show(match region (AF T) ps ins s with|some s'=>Z (AX.normal,s')|none=>Y)=_;cases region (AF T) ps ins s<;>rfl
@[simp ↓] theorem JWs(d ins env _o):X T (.reg d [] ins) ⟨env,_o⟩=nrm (hE (AF T) ins _o.length ⟨env,room (news ins) _o⟩):=by rw[Me];rfl
def cnd(x:Option AV)(a b:Option Out)(c:Unit->Option Out):Option Out:=
 match x with
 |some (.p (.b x))=>if x=O then a else b
 |some .unk=>c ()
 |_=>Y
@[congr] theorem JVS{x e:Option AV}{a b:Option Out}{c:Unit->Option Out}(h:x=e):cnd x a b c=cnd e a b c:=by rw[h]
@[simp] theorem Mb(x a b c):cnd (Z (.p (.b x))) a b c=if x=O then a else b:=rfl
@[simp] theorem JS1(a b c):cnd (Z .unk) a b c=c ():=rfl
@[simp ↓] theorem JSi(x a b s):X T (.cond x a b) s=cnd (evv x s.env) (X T a s) (X T b s) λ_=>same (X T a s) (X T b s):=by
 rw[nS];simp only[step,SO];cases evv x s.env with
 |none=>rfl
 |some v=>
  cases v with
  |p c=>cases c<;>rfl
  |_=>rfl
@[simp ↓] theorem JQu(id c s):X T (.block id c) s=blo id (X T c s):=by
 rw[nS];simp only[step];cases X T c s with
 |none=>rfl
 |some o=>obtain⟨e,s'⟩:=o;cases e<;>rfl
@[simp ↓] theorem JQU(c s):X T (.scope c) s=X T c s:=by rw[nS];rfl
@[simp ↓] theorem JWp(id s):X T (.exit id) s=Z (.exit id,s):=by rw[nS];rfl
@[simp ↓] theorem JVx(s):X T .ret s=Z (.ret,s):=by rw[nS];rfl
@[simp ↓] theorem M2(live c s):X T (.keep live c) s=X T c ⟨restr live s.env,s._o⟩:=by rw[nS];rfl
@[simp ↓] theorem JWy(live pre x a b rest s):X T (.br live pre x a b rest) s=PW (X T pre s) λs1=>
  cnd (evv x s1.env) (thn (X T a s1) λs=>X T rest s) (thn (X T b s1) λs=>X T rest s) λ_=>
   same (oE s1._o.length live (thn (X T a s1) λs=>X T rest s)) (oE s1._o.length live (thn (X T b s1) λs=>X T rest s)):=by
 rw[nS];simp only[step,SO];cases X T pre s with
 |none=>rfl
 |some o=>
  obtain⟨e,s1⟩:=o;cases e with
  |normal=>
   dsimp only[PW];cases evv x s1.env with
   |none=>rfl
   |some v=>
    cases v with
    |p c=>cases c<;>rfl
    |_=>rfl
  |exit=>rfl
  |ret=>rfl
@[simp ↓] theorem JTJ(live c env _o):X T (.loop live c) ⟨env,_o⟩=X T (.lp _o.length live c) ⟨restr live env,_o⟩:=by
 grind [nS,step,clean]
theorem sy(n live c s):X T (.lp n live c) s=thn (X T c s) λs=>match clean n live s with
  |some s=>X T (.lp n live c) s
  |none=>Y:=by
 rw[nS];simp only[step];cases X T c s with
 |none=>rfl
 |some o=>obtain⟨e,s'⟩:=o;cases e<;>rfl
def PM(res:List xN)(fresh:Bool)(m:Nat)(o:Option Out):Option Res:=
 match o with
 |some (.normal,s)=>iR ⟨0,0,.skip,res,fresh⟩ m s
 |some (.ret,s)=>iR ⟨0,0,.skip,res,fresh⟩ m s
 |_=>Y
@[congr] theorem JVw{res:List xN}{fresh:Bool}{m:Nat}{o e:Option Out}(h:o=e):PM res fresh m o=PM res fresh m e:=by rw[h]
@[simp] theorem JH1(res fresh m s):PM res fresh m (Z (.normal,s))=iR ⟨0,0,.skip,res,fresh⟩ m s:=rfl
@[simp] theorem JPq(res fresh m s):PM res fresh m (Z (.ret,s))=iR ⟨0,0,.skip,res,fresh⟩ m s:=rfl
theorem JS3{f:FuncId}{k:lJ}(h:T f=Z (.fork k))(args _q):AF T f args _q=if args.length=k.np then vE (X T) k args _q else Y:=by simp_all [AF,rP]
@[simp] theorem JVh(o:Option Res):MF o o=o:=by unfold MF;cases o<;>simp
theorem JVK{f:FuncId}{fn:AFn}(h:T f=Z (.fn fn))(args _q):AF T f args _q=if args.length=fn.np then
  PM fn.res fn.fresh _q.length (X T fn.body ⟨kL 0 args,_q⟩)
 else Y:=by
 unfold AF rP;rw[h];rfl
end
variable {F:Orc} {env:List (Nat×AV)} {_o:List _x} {_m:Nat} {r:List bX} {d:Nat}
@[simp] theorem JJl(s):hE F [] _m s=Z s:=rfl
theorem JGY(i s):hE F (i::r) _m s=((bZ F i _m).run s).bind λe=>hE F r (_m+oB i.op) (put i.dst e s):=by
 grind [hE]
@[simp] theorem JW2:news []=0:=rfl
@[simp ↓] theorem JVT(i):news (i::r)=oB i.op+news r:=rfl
@[simp] theorem JWt:room 0 _o=_o:=rfl
@[simp] theorem JVQ(n):room (n+1) _o=_o++_J (n+1) .dead:=rfl
@[simp] theorem JWu(n):lk n []=Y:=rfl
@[simp] theorem JRk(n m v)(r:List (Nat×AV)):lk n ((m,v)::r)=if n=m then Z v else lk n r:=rfl
attribute [simp ↓] JGY bZ opD vL oB run_bind SO _z
attribute [simp] put val evs evo mA qJ
 pP AK BB unP kM PR fz fz.fzL fz.fz1 fzs DC iD jE sub spl tI gx QP MS MR mS ft pN oL lX yP yN gO rI kJ mmP cellsOf unp rX lW
 pO one kL iE NC oJ
@[simp] theorem JVV(o:Option Out):same o o=o:=by unfold same;cases o<;>simp
@[simp ↓] theorem JY{α:Type}(a:α)(s:St):(RM.ret a).run s=Z a:=rfl
@[simp ↓] theorem JWk{α:Type}(s:St):(RM.fail:RM α).run s=Y:=rfl
@[simp ↓] theorem yY{α:Type}(n:Nat)(k:AV->RM α)(s:St):(RM.slot n k).run s=(lk n s.env).bind λv=>(k v).run s:=by grind [RM.run]
@[simp ↓] theorem dR{α:Type}(n:Nat)(k:_x->RM α)(s:St):(RM.blk n k).run s=(s._o[n]?).bind λv=>(k v).run s:=by grind [RM.run]
@[simp] theorem JQn:upd [] _o=_o:=rfl
@[simp] theorem JOs(b x ws):upd ((b,x)::ws) _o=upd ws (_o.set b x):=rfl
@[simp] theorem JVR:restr [] env=[]:=rfl
@[simp] theorem JKS(k l):restr (k::l) env=match lk k env with
 |some v=>(k,v)::restr l env
 |none=>restr l env:=rfl
end Go.Am
namespace Go.Am
def rU:AV->Bool| .p _| .data _| .cp _ _| .unk=>O|_=>J
@[simp] theorem JW4(c):rU (.p c)=O:=rfl
@[simp] theorem JUZ(c):rU (.data c)=O:=rfl
@[simp] theorem JVP(c o):rU (.cp c o)=O:=rfl
theorem Bc: ∀{args:List AV} {l:List _A},args.all rU=O->cV.entsOfL args l=l|[],l,_=>rfl|x::r,l,h=>by simp only[List.all_cons,aX]at h;obtain⟨h1,h2⟩:=h;simp only[cV.entsOfL];cases x<;>simp[rU]at h1<;>simp only[cV]<;>exact Bc h2
theorem ze{ρ:_A->Option Nat}: ∀{args:List AV},args.all rU=O->ren.renL ρ args=Z args|[],_=>rfl|x::r,h=>by simp only[List.all_cons,aX]at h;have:=ze (ρ:=ρ) h.2;have h1:=h.1;clear h;cases x<;>simp[rU]at h1<;>simp[ren.renL,ren,this]
theorem JOz{es:List _A}{_m:Nat}{x:AV}(h:rU x=O):bk es _m x=Z x:=by cases x<;>simp[rU]at h<;>rfl
theorem nd{es:List _A}{_m:Nat}: ∀{xs:List AV},xs.all rU=O->bk.bkL es _m xs=Z xs|[],_=>rfl|x::r,h=>by simp only[List.all_cons,aX]at h;simp[bk.bkL,JOz h.1,nd h.2]
@[simp] theorem JWx(es _m c):bk es _m (.p c)=Z (.p c):=rfl
@[simp] theorem JWo(es _m c):bk es _m (.data c)=Z (.data c):=rfl
@[simp] theorem JWr(es _m l):bk es _m (.tup l)=(bk.bkL es _m l).map .tup:=by grind [bk]
@[simp] theorem JWn(es _m):bk.bkL es _m []=Z []:=rfl
@[simp] theorem JW9(es _m x l):bk.bkL es _m (x::l)=(bk es _m x).bind λy=>(bk.bkL es _m l).map λl=>y::l:=by simp only[bk.bkL];cases bk es _m x<;>simp;cases bk.bkL es _m l<;>rfl
@[simp] theorem JV0(n live):oE n live Y=Y:=rfl
@[simp] theorem JGp(n live e s):oE n live (Z (e,s))=(clean n live s).map λs=>(e,s):=by
 grind [oE]
attribute [simp ↓] JF Option.bind_none ON JOw JQH JNm JGR JPL JOR Mb JS1 JKJ Ru JRV JOa JH1 JPq JJl JRk JKS JQn JOs
attribute [simp] clean xM tB gY fin fin.finL iR kW tC cV cV.entsOfL yO kR yH fD unp
end Go.Am
end
section
namespace Go.Am
inductive Fr where|sq (b:cD)|bl (id:Nat)|td (n:Nat) (live:List Nat)|lo (n:Nat) (live:List Nat) (c:cD)
noncomputable def again(T:dU)(n:Nat)(live:List Nat)(c:cD)(o:Option St):Option Out:=match o with|some s=>X T (.lp n live c) s|none=>Y
section
variable (T:dU) (f:AFn) (m:Nat) (k:List Fr)
theorem JT0(live c s):X T (.tidy live c) s=oE s._o.length live (X T c s):=by rw[nS];rfl
end
open Classical in
noncomputable def J5{σ ρ:Type}(f:σ->Option (σ⊕ρ))(s:σ):Option ρ:=
 let e:Nat->σ->Option ρ:=λn=>n.rec (λ_=>Y) λ_ ih s=>match f s with|some (.inl s')=>ih s'|some (.inr r)=>Z r|none=>Y
 if h: ∃n r,e n s=Z r then e (Classical.choose h) s else Y
def dF{σ ρ:Type}(f:σ->Option (σ⊕ρ)):Nat->σ->Option ρ|0,_=>Y|n+1,s=>match f s with|some (.inl s')=>dF f n s'|some (.inr r)=>Z r|none=>Y
section
variable {σ ρ:Type} {f:σ->Option (σ⊕ρ)}
theorem km(n:Nat): ∀s:σ,(Nat.rec (motive:=λ_=>σ->Option ρ) (λ_=>Y) (λ_ ih s=>match f s with
  |some (.inl s')=>ih s'
  |some (.inr r)=>Z r
  |none=>Y) n) s=dF f n s:=by
 induction n with
 |zero=>intro s;rfl
 |succ n ih=>grind [dF]
theorem nj: ∀{n:Nat} {s:σ} {r:ρ} (m:Nat),dF f n s=Z r->dF f (n+m) s=Z r
 |0,_,_,_,h=>by cases h
 |n+1,s,r,m,h=>by
  rw[show n+1+m=(n+m)+1 by omega];simp only[dF]at h⊢;split at h;exact nj m h
  all_goals simp_all
theorem JNL{n m:Nat}{s:σ}{r r':ρ}(h:dF f n s=Z r)(e:dF f m s=Z r'):r=r':=by
 have a:=nj m h;have b:=nj n e;grind
theorem mB{s:σ}{r:ρ}:J5 f s=Z r↔ ∃n,dF f n s=Z r:=by
 unfold J5;dsimp only;constructor;intro h;split at h;exact⟨_,by rw[<-km];exact h⟩;cases h;rintro⟨n,h⟩;have e: ∃n r,(Nat.rec (motive:=λ_=>σ->Option ρ) (λ_=>Y) (λ_ ih s=>match f s with
  |some (.inl s')=>ih s'
  |some (.inr r)=>Z r
  |none=>Y) n) s=Z r:=⟨n,r,by grind [km]⟩
 rw[dif_pos e];obtain⟨r',g⟩:=Classical.choose_spec e;rw[g];rw[km]at g;grind [JNL]
theorem dN{s:σ}{r:ρ}(h:f s=Z (.inr r)):J5 f s=Z r:=mB.2 ⟨1,by grind [dF]⟩
theorem eX{s s':σ}(h:f s=Z (.inl s')):J5 f s=J5 f s':=by
 have g: ∀r,J5 f s=Z r↔J5 f s'=Z r:=by
  intro r;rw[mB,mB];constructor;rintro⟨n,e⟩;cases n<;>grind [dF]
  rintro⟨n,e⟩;exact⟨n+1,by grind [dF]⟩
 cases hs:J5 f s with
 |some r=>grind
 |none=>cases hs':J5 f s'<;>grind
theorem JKa{s:σ}(h:f s=Y):J5 f s=Y:=by
 cases hs:J5 f s with
 |none=>rfl
 |some r=>obtain⟨n,e⟩:=mB.1 hs;cases n<;>simp_all [dF]
theorem m6{P:σ->ρ->Prop}(h1: ∀s r,f s=Z (.inr r)->P s r)(h2: ∀s s' r,f s=Z (.inl s')->P s' r->P s r){s:σ}{r:ρ}(h:J5 f s=Z r):P s r:=by
 obtain⟨n,e⟩:=mB.1 h;clear h
 induction n generalizing s with
 |zero=>cases e
 |succ n ih=>
  grind [dF]
end
end Go.Am
end
section
namespace Go.Am
section
variable {α:Type}
def idx(l:List α)(n:Int):Option α:=if 0<=n then l[n.toNat]? else Y
def aR(k:Nat)(n:Int):Option Unit:=if 0<=n/\n<k then Z ()else Y
def Jr(bytes:Nat)(l e:List α):Option (List α):=if rI (l.length+e.length) bytes=O then Z (l++e)else Y
def bG(bytes:Nat)(l:List α):Option (List α):=if rI l.length bytes=O then Z l else Y
def AQ(n:Int)(len:Nat):Option Nat:=if 0<=n/\n.toNat<=len then Z n.toNat else Y
def xL(n:Int)(len:Nat):Option Nat:=if 0<=n/\n.toNat<len then Z n.toNat else Y
def mkS(bytes:Nat)(n m:Int)(z:α):Option (List α):=if 0<=n/\n<=m/\bytes*m<=281474976710656/\m<=281474976710656 then Z (_J n.toNat z)else Y
def GF(x:Option Int)(top e:Nat):Option Nat:=match x with|none=>Z e|some n=>if 0<=n/\n<=top then Z n.toNat else Y
def AY(n:Nat)(lo hi:Option Int):Option (Nat×Nat):=match GF hi n n with|none=>Y|some h=>match GF lo h 0 with|none=>Y|some l=>Z (l,h)
def aU(l:List α)(lo hi:Option Int):Option (List α):=match AY l.length lo hi with|some c=>Z ((l.drop c.1).take (c.2-c.1))|none=>Y
def Ld(k:IntKind)(x y:Int):Option Int:=if y=0 then Y else Z (k.wrap (x.tdiv y))
def xK(x y:Int):Option Int:=if y=0 then Y else Z (x.tmod y)
def qV(k:IntKind)(x y:Int):Option Int:=if y<0 then Y else Z (k.wrap (x*2^(min y.toNat k.bits)))
def iA(k:IntKind)(x y:Int):Option Int:=if y<0 then Y else Z (x.fdiv (2^(min y.toNat k.bits)))
def lM(k:IntKind)(x y:Int):Int:=k.wrap (BitVec.ofInt k.bits x&&&BitVec.ofInt k.bits y).toNat
def orI(k:IntKind)(x y:Int):Int:=k.wrap (BitVec.ofInt k.bits x|||BitVec.ofInt k.bits y).toNat
def fE(k:IntKind)(x y:Int):Int:=k.wrap (BitVec.ofInt k.bits x^^^BitVec.ofInt k.bits y).toNat
def QT(k:IntKind)(n:Int):Int:=k.wrap (BitVec.ofInt k.bits (if k.signed then -1 else k.max)^^^BitVec.ofInt k.bits n).toNat
def cP(a b:List UInt8):Option (List UInt8):=if a.length+b.length<=4611686018427387904 then Z (a++b)else Y
def mK(l:List UInt8)(n:Int):Option Int:=if 0<=n then(match l[n.toNat]? with|some u=>Z (u.toNat:Int)|none=>Y)else Y
def sm{k:Nat}(v:Vector α k)(n:Int):Option α:=if 0<=n/\n<k then v[n.toNat]? else Y
def _D(l:List Int):List UInt8:=l.map λn=>UInt8.ofNat n.toNat
def aS(l:List UInt8):List Int:=l.map λu=>(u.toNat:Int)
def fF(x y:Int):Int:=if y<x then y else x
def bJ(x y:Int):Int:=if y>x then y else x
end
@[reducible] def cat(a b:List PV):List PV:=a++b
def r_i(k:IntKind)(n:Int):List PV:=[.i k n]
def r_b(x:Bool):List PV:=[.b x]
def r_s(l:List UInt8):List PV:=[.s l]
def JWf{α:Type}(_l:Nat)(r:α->List PV)(l:List α):List PV:=[.sl _l (l.map r)]
def rG{α:Type}{n:Nat}(r:α->List PV)(v:Vector α n):List PV:=(v.toList.map r).flatten
section
variable {α:Type}
theorem DB(cs:List α)(off size:Nat):sub cs off size=if off+size<=cs.length then Z ((cs.drop off).take size)else Y:=by
 grind [sub]
theorem IL(cs:List α)(off:Nat)(vs:List α):spl cs off vs=if off+vs.length<=cs.length then Z (cs.take off++vs++cs.drop (off+vs.length))else Y:=by simp_all
theorem jr{cs:List α}{n:Nat}(h:cs.length=n):sub cs 0 n=Z cs:=by simp_all
theorem Qe{cs vs:List α}(h:cs.length=vs.length):spl cs 0 vs=Z vs:=by simp_all
theorem JN9{a b c:List α}{off size:Nat}(h1:a.length=off)(h2:b.length=size):sub (a++(b++c)) off size=Z b:=by
 grind [DB]
theorem JL7{b c:List α}{size:Nat}(h2:b.length=size):sub (b++c) 0 size=Z b:=JN9 (a:=[]) rfl h2
theorem JLU{a b c v:List α}{off:Nat}(h1:a.length=off)(h2:b.length=v.length):spl (a++(b++c)) off v=Z (a++(v++c)):=by
 grind [IL]
theorem JLj{b c v:List α}(h2:b.length=v.length):spl (b++c) 0 v=Z (v++c):=JLU (a:=[]) rfl h2
theorem Q0{cs e r:List α}{a m k n:Nat}(h1:sub cs a m=Z e)(h2:sub e k n=Z r):sub cs (a+k) n=Z r:=by
 grind [DB,List.drop_take,List.drop_drop]
theorem Ot{cs g e v cs':List α}{a m k:Nat}(h1:sub cs a m=Z g)(h2:spl g k v=Z e)(h3:spl cs a e=Z cs'):spl cs (a+k) v=Z cs':=by
 rw[DB]at h1;rw[IL]at h2 h3⊢;split at h1;rename_i o;cases h1;split at h2;rename_i j;cases h2;simp at j;split at h3;cases h3;rw[if_pos (by omega)]
 congr 1
 simp only[qZ,mN,AT,List.take_take,List.drop_take,sX,pW];have h:cs.take (a+k)=cs.take a++(cs.drop a).take k:=List.take_add ..;rw[h,pW];rw[show min k m=k by omega]
 congr 3
 have n:cs.drop (a+k+v.length)=(cs.drop (a+(k+v.length))).take (m-(k+v.length))++cs.drop (a+m):=(by have:=pR (m-(k+v.length)) (cs.drop (a+(k+v.length)));rw[sX]at this;rw[show a+(k+v.length)+(m-(k+v.length))=a+m by omega]at this;grind);rw[n]
 congr 2
 omega;cases h3;cases h2;cases h1
theorem IS{β:Type}(g:α->β)(cs:List α)(off size:Nat):sub (cs.map g) off size=(sub cs off size).map (List.map g):=by
 grind [DB,List.map_drop,List.map_take]
theorem IQ{β:Type}(g:α->β)(cs:List α)(off:Nat)(vs:List α):spl (cs.map g) off (vs.map g)=(spl cs off vs).map (List.map g):=by
 grind [IL,List.map_drop,List.map_take]
theorem NF{n k w:Nat}{r:α->List PV}(hr: ∀x,(r x).length=w){v:Vector α n}{x:α}(h:v[k]?=Z x):sub (rG r v) (k*w) w=Z (r x):=by
 have g: ∀(l:List α) (k:Nat) (x:α),l[k]?=Z x->sub ((l.map r).flatten) (k*w) w=Z (r x):=by
  intro l
  induction l with
  |nil=>simp_all
  |cons y l ih=>
   intro k x h;cases k with
   |zero=>
    grind [JL7]
   |succ k=>
    simp at h;have:=ih k x h;rw[cH,uT];rw[DB]at this⊢;split at this;injection this with this;have e:(k+1)*w=w+k*w:=by grind
    rw[e,if_pos (by grind)];have j:w+k*w=(r y).length+k*w:=by rw[hr]
    rw[j,List.drop_length_add_append,this];cases this
 exact g _ _ _ (by simp_all)
theorem M6{n k w:Nat}{r:α->List PV}(hr: ∀x,(r x).length=w){v:Vector α n}(h:k<n)(y:α):spl (rG r v) (k*w) (r y)=Z (rG r (v.setIfInBounds k y)):=by
 have g: ∀(l:List α) (k:Nat),k<l.length->spl ((l.map r).flatten) (k*w) (r y)=Z (((l.set k y).map r).flatten):=by
  intro l
  induction l with
  |nil=>simp_all
  |cons z l ih=>
   intro k h;cases k with
   |zero=>
    grind [JLj]
   |succ k=>
    simp at h;have:=ih k h;rw[cH,uT];rw[IL]at this⊢;split at this;rename_i j;injection this with this;have e:(k+1)*w=(r z).length+k*w:=by grind
    rw[e,if_pos (by grind)];simp only[List.set_cons_succ,cH,uT];rw[<-this];rw[show(r z).length+k*w+(r y).length=(r z).length+(k*w+(r y).length) by omega];simp[List.take_length_add_append];cases this
 grind [rG]
theorem JTR{n w:Nat}{r:α->List PV}(hr: ∀x,(r x).length=w)(v:Vector α n):(rG r v).length=n*w:=by
 have e: ∀l:List α,((l.map r).flatten).length=l.length*w:=by
  intro l
  induction l with
  |nil=>simp
  |cons x l ih=>grind
 grind [rG]
end
theorem IP: ∀l:List PV,unp (l.map AV.p)=Z l|[]=>rfl|x::l=>by simp[unp,IP l]
theorem Ca(l:List PV):mA O (l.map AV.p)=Z (.data l):=by simp[IP]
theorem YR: ∀l:List PV,(l.map AV.p).all rU=O|[]=>rfl|x::l=>by simp
theorem Ah(m:Nat)(_p:List Nat)(_o:List _x): ∀l:List PV,fin.finL m _p _o (l.map AV.p)=Z (l.map AV.p)|[]=>rfl|x::l=>by simp[fin.finL,fin,Ah m _p _o l]
theorem Ab(l:List PV)(acc:List _A):cV.entsOfL (l.map AV.p) acc=acc:=Bc (YR l)
theorem JLR{α:Type}{r:α->List PV}{l:List α}{n:Int}{x:α}(h:idx l n=Z x):ft (l.map r) n=Z (r x):=by simp_all [idx]
theorem jp{k:Nat}{n:Int}{u:Unit}(h:aR k n=Z u):0<=n/\n<k:=by
 grind [aR]
theorem JNo{α:Type}{k:Nat}{v:Vector α k}{n:Int}{x:α}(h:sm v n=Z x):(0<=n/\n<k)/\v[n.toNat]?=Z x:=by
 grind [sm]
theorem JRv{α:Type}{r:α->List PV}{_l bytes b:Nat}{w:Bool}{l e g:List α}{y:AV}{s:St}(h:Jr bytes l g=Z e)(hb:s._o[b]?=Z (.arr w _l (l.map r)))(hy:(gO _l y).run s=Z (g.map r)):
  (kJ _l bytes (._r b 0 l.length) y).run s=Z ⟨._r b 0 e.length,[(b,.arr w _l (e.map r))]⟩:=by
 grind [Jr,kJ,dR,run_bind,JY]
theorem od: ∀l:List Int,vU (l.map (r_i .u8))=Z (_D l)|[]=>rfl|x::l=>by simp[vU,r_i,od l,_D]
theorem ky(l:List UInt8):l.map oJ=(aS l).map (r_i .u8):=by simp[aS,r_i]
theorem JNj{α:Type}{bytes:Nat}{l e:List α}(h:bG bytes l=Z e):rI l.length bytes=O/\e=l:=by
 grind [bG]
theorem JRN{α:Type}{bytes:Nat}{n m:Int}{z:α}{l:List α}(h:mkS bytes n m z=Z l):(0<=n/\n<=m/\bytes*m<=281474976710656/\m<=281474976710656)/\l=_J n.toNat z:=by
 grind [mkS]
end Go.Am
end
section
namespace Go.Am
open Go.RowKit
theorem Re{σ:List _x}{g:Gh}{w w':World}(hi:Inv ⟨σ,g,w⟩)(hb:Below w.heap.size w w'):
  Inv ⟨σ,g,w'⟩/\bE ⟨σ,g,w⟩ ⟨σ,g,w'⟩:=by
 have hk: ∀(r:Nat) x,w.heap[r]?=Z x->w'.heap[r]?=Z x:=λr x h=>by rw[hb.block r (zG h)];exact h
 have hc: ∀r o v,cellAt w r o=Z v->cellAt w' r o=Z v:=(by grind [cellAt]);have t:bE ⟨σ,g,w⟩ ⟨σ,g,w'⟩:=by
  refine⟨⟨hb.size,λr c e fz h=>⟨c,hk r _ h,rfl,λ_ _=>rfl⟩,λr x h _=>hk r x h,hb.os,hb.output⟩,λ_ _ h=>h,λ_ _ h=>.inl h,λr o ⟨b,hb⟩=>.inl ⟨b,hb⟩,zQ0 _,λ_ cs h=>⟨⟨cs,h,rfl⟩,rfl⟩,
   λ_ wm _ _f h=>⟨wm,_f,h,id,zQ0 _,λ_=>rfl⟩⟩
 exact⟨mU hi t (λ_=>False) (λ_ _=>⟨rfl,rfl⟩) (λ_ r o v _ _ h=>hc r o v h) (λ_ _ h=>h.elim) (λ_ _ _ _ h=>h.elim)
  (λ_ _ _ _ h=>h.elim) (λr o h=>Nat.lt_of_lt_of_le (hi.const r o h).1 hb.size) (λ_ _ _ _ h=>h.elim) (λ_ _ _ h j=>(j h).elim),t⟩
def sV:PV->Option Value| .b x=>Z (.bool x)| .i k n=>Z (.int k n)| .s l=>Z (.string ⟨l.toArray⟩)|_=>Y
theorem R0{x:PV}{v:Value}(h:sV x=Z v)(w:World)(C:Nat->Nat->Prop):J08 w C x v:=by
 cases x<;>simp only[sV,Option.some.injEq,reduceCtorEq]at h<;>subst h
 exact .b _;exact .i _ _;exact .s _
theorem O3{x:PV}{v e:Value}{w:World}{C:Nat->Nat->Prop}(h:J08 w C x v)(hv:sV x=Z e):v=e:=by cases x<;>simp only[sV,Option.some.injEq,reduceCtorEq]at hv<;>subst hv<;>cases h<;>rfl
theorem JJ1{P:Program}{f:FuncId}{xs:List PV}{vs:List Value}{r:PV}{v:Value}{_q:List _x}
  (hf: ∃fn,P.funcs[f]?=some fn∧fn.body.isSome=true∧(fn.name== "runtime.NumGoroutine")=false)
  (hx:xs.mapM sV=Z vs) (hr:sV r=Z v)
  (hc: ∀w,Calls P f vs.toArray w λe w'=>e=.returned v/\Below w.heap.size w w'):
  J6J P f (xs.map .p) _q (.p r,_q):=by
 refine⟨hf,λg w vals hi A C=>?_⟩;have h:vals=vs.toArray:=by
  have k: ∀(xs:List PV) (vs vl:List Value),xs.mapM sV=Z vs->xs.length=vl.length->
    (∀(i:Nat) x v,(xs.map AV.p)[i]?=Z x->vl[i]?=Z v->JH ⟨_q,g,w⟩ x v)->vl=vs:=by
   intro xs
   induction xs with
   |nil=>grind
   |cons x r ih=>
    intro vs vl h1 h2 o;simp only[List.mapM_cons,Option.pure_def,Option.bind_eq_bind]at h1;obtain⟨D,n,h1⟩:=bN.1 h1;obtain⟨y,j,h1⟩:=bN.1 h1;simp only[Option.some.injEq]at h1;subst h1;cases vl with
    |nil=>simp at h2
    |cons u q=>
     have:=o 0 (.p x) u rfl rfl;cases this with
     |p _ _ z=>rw[O3 z n,ih y q j (by simpa using h2) (λi x v hx B=>o (i+1) x v hx B)]
  apply PI;rw[k xs vs vals.toList hx (by simpa using A) (λi x v h1 h2=>C i x v h1 (by simpa using h2))]
 subst h;refine(hc w).mono ?_;rintro e w' ⟨rfl,hb⟩;obtain⟨hi',t⟩:=Re hi hb;exact⟨v,g,rfl,hi',t,.p _ _ (R0 hr _ _)⟩
theorem jo{T:dU}{f:FuncId}{g:List AV->List _x->Option Res}(h:T f=Z (.prim g))(args _q):AF T f args _q=g args _q:=by simp_all [AF,rP]
def K7(a:Option AFn)(k:Option lJ)(g q:Option (List AV->List _x->Option Res)):Option Entry:=
 match a with
 |some a=>Z (.fn a)
 |none=>match k with|some k=>Z (.fork k)|none=>match g with|some g=>Z (.prim g)|none=>q.map .prim
theorem IX{a:Option AFn}{k:Option lJ}{g q:Option (List AV->List _x->Option Res)}{e:Entry}(h:K7 a k g q=Z e):
  (∃x,a=Z x/\e=.fn x)\/(∃x,k=Z x/\e=.fork x)\/(∃x,g=Z x/\e=.prim x)\/(∃x,q=Z x/\e=.prim x):=by
 cases a with
 |some a=>exact .inl ⟨a,rfl,by injection h with h;exact h.symm⟩
 |none=>
  cases k with
  |some k=>exact .inr (.inl ⟨k,rfl,by injection h with h;exact h.symm⟩)
  |none=>
   cases g with
   |some g=>exact .inr (.inr (.inl ⟨g,rfl,by injection h with h;exact h.symm⟩))
   |none=>
    cases q with
    |some q=>exact .inr (.inr (.inr ⟨q,rfl,by injection h with h;exact h.symm⟩))
    |none=>cases h
def Jb4(n:Int)(i:Nat):Int:=IntKind.wrap .u8 ((IntKind.wrap .u64 n).fdiv (2^(8*i)))
def J5Z(n:Int)(k:Nat):List UInt8:=_D ((List.range k).map (Jb4 n))
def JqY(l:List UInt8)(n size:Int):Option (List UInt8):=if size<1\/8<size then Z l else if l.length+8<=140737488355328 then Z (l++J5Z n size.toNat)else Y
def JJC:List AV->List _x->Option Res|[.p (.s l),.p (.i I n),.p (.i I k)],_q=>(JqY l n k).map λr=>(.p (.s r),_q)|_,_=>Y
theorem JRL(x:Int):0<=IntKind.wrap .u8 x/\IntKind.wrap .u8 x<256:=by have h:IntKind.wrap .u8 x=x%256:=rfl;rw[h];omega
theorem JL1(n:Int)(i:Nat):((UInt8.ofNat (Jb4 n i).toNat).toNat:Int)=Jb4 n i:=by
 have h:0<=Jb4 n i/\Jb4 n i<256:=JRL _;grind [UInt8.toNat_ofNat_of_lt']
theorem JMO(n:Int)(k:Nat):J5Z n (k+1)=J5Z n k++[UInt8.ofNat (Jb4 n k).toNat]:=by simp[J5Z,_D,List.range_succ]
theorem JGA(n:Int)(k:Nat):(J5Z n k).length=k:=by simp[J5Z,_D]
theorem JVF(x y:Bool):cG [.b] [.b x] [.b y]=Z (decide (x=y)):=by
 grind [cG,xE]
theorem JVC(k:IntKind)(x y:Int):cG [.i k] [.i k x] [.i k y]=Z (decide (x=y)):=by
 grind [cG,xE]
theorem JVA(x y:List UInt8):cG [.s] [.s x] [.s y]=Z (decide (x=y)):=by
 grind [cG,xE]
theorem Qy{p q:Prop} [Decidable p] [Decidable q]: ∀{e g:List KD} {a1 a2 b1 b2:List PV},cG e a1 b1=Z (decide p)->cG g a2 b2=Z (decide q)->cG (e++g) (cat a1 a2) (cat b1 b2)=Z (decide (p/\q)):=by
 have h: ∀(e g:List KD) (a1 a2 b1 b2:List PV) (r s:Bool),cG e a1 b1=Z r->cG g a2 b2=Z s->cG (e++g) (a1++a2) (b1++b2)=Z (r&&s):=by
  intro e
  induction e with
  |nil=>
   grind [cG]
  |cons k ks ih=>
   intro g a1 a2 b1 b2 r s h1 h2;cases a1 with
   |nil=>grind [cG]
   |cons a a1=>
    cases b1 with
    |nil=>grind [cG]
    |cons b b1=>
     simp only[cG]at h1;split at h1;rename_i u c j hc;cases h1;simp only[nP,cG,j,ih _ _ _ _ _ _ _ hc h2,Bool.and_assoc];cases h1
 intro e g a1 a2 b1 b2 h1 h2;rw[h _ _ _ _ _ _ _ _ h1 h2,Bool.decide_and]
theorem JU8{α:Type} [DecidableEq α]{n:Nat}{ks:List KD}{r:α->List PV}(h: ∀x y,cG ks (r x) (r y)=Z (decide (x=y)))(v w:Vector α n):
  cG (_J n ks).flatten (rG r v) (rG r w)=Z (decide (v=w)):=by
 have g: ∀(l e:List α),l.length=e.length->cG (_J l.length ks).flatten (l.map r).flatten (e.map r).flatten=Z (decide (l=e)):=by
  intro l
  induction l with
  |nil=>grind [cG]
  |cons a l ih=>
   intro e h1;cases e with
   |nil=>simp at h1
   |cons b e=>
    have h2:=Qy (h a b) (ih e (by simpa using h1));grind [decide]
 have j:=g v.toList w.toList (by simp);rw[show v.toList.length=n by simp]at j;rw[show decide (v=w)=decide (v.toList=w.toList) by simp[Vector.toList_inj]];exact j
end Go.Am
end
section
namespace Go.Am
def J1(k:IntKind)(a c:Int):Int:=k.wrap (a+c)
def Jm(k:IntKind)(a c:Int):Int:=k.wrap (a-c)
def cI(k:IntKind)(a c:Int):Int:=k.wrap (a*c)
def JWh(k:IntKind)(n:Int):Int:=k.wrap (0-n)
def aT(k:IntKind)(n:Int):Int:=k.wrap n
def aL(a c:Int):Bool:=decide (a=c)
def aN(a c:Int):Bool:= !decide (a=c)
def aK(a c:Int):Bool:=decide (a<c)
def aW(a c:Int):Bool:=decide (a<=c)
def aO(a c:Int):Bool:=decide (a>c)
def aP(a c:Int):Bool:=decide (a>=c)
def eqS(a c:List UInt8):Bool:=decide (a=c)
def neS(a c:List UInt8):Bool:= !decide (a=c)
def ltS(a c:List UInt8):Bool:=Op.bytesLess a c
def leS(a c:List UInt8):Bool:=Op.bytesLess a c||decide (a=c)
def gtS(a c:List UInt8):Bool:= !(Op.bytesLess a c||decide (a=c))
def geS(a c:List UInt8):Bool:= !Op.bytesLess a c
def eqB(a c:Bool):Bool:=decide (a=c)
def Jg(x:Bool):Bool:= !x
def J0{α:Type}(l:List α):Int:=l.length
def JVX{α:Type}(c:Bool)(x y:α):α:=if c=O then x else y
def aV{α:Type}(l:List α)(i:Nat):Option α:=l[i]?
def aY{α:Type}(l:List α)(i:Nat)(x:α):List α:=l.set i x
def vat{α:Type}{n:Nat}(l:Vector α n)(i:Nat):Option α:=l[i]?
def bL{α:Type}{n:Nat}(l:Vector α n)(i:Nat)(x:α):Vector α n:=l.setIfInBounds i x
inductive Ty where
 |b
 |i (k:IntKind)
 |s
 |l (t:Ty)
 |pr (a c:Ty)
 |ar (n:Nat) (t:Ty)
 |u
 |f
 deriving DecidableEq
@[reducible] def Ty.D:Ty->Type
 | .b=>Bool
 | .i _=>Int
 | .s=>List UInt8
 | .l t=>List t.D
 | .pr a c=>a.D×c.D
 | .ar n t=>Vector t.D n
 | .u=>Unit
 | .f=>Unit
def Ty.sz:Ty->Nat| .b=>1| .i _=>1| .s=>1| .l _=>1| .pr a c=>a.sz+c.sz| .ar n t=>n*t.sz| .u=>0| .f=>1
def _B:(t:Ty)->t.D->List PV| .b,x=>[.b x]| .i k,x=>[.i k x]| .s,x=>[.s x]| .l t,x=>[.sl t.sz (x.map (_B t))]| .pr a c,x=>_B a x.1++_B c x.2| .ar _ t,x=>rG (_B t) x| .u,_=>[]| .f,_=>[.nf]
theorem eU: ∀(t:Ty) (x:t.D),(_B t x).length=t.sz| .b,_=>rfl| .i _,_=>rfl| .s,_=>rfl| .l _,_=>rfl| .pr a c,x=>by simp only[_B,qZ,eU a,eU c,Ty.sz]| .ar n t,x=>by simp only[_B,Ty.sz];exact JTR (eU t) x| .u,_=>rfl| .f,_=>rfl
def Ty.eqd:(t:Ty)->DecidableEq t.D| .b=>inferInstanceAs (DecidableEq Bool)| .i _=>inferInstanceAs (DecidableEq Int)| .s=>inferInstanceAs (DecidableEq (List UInt8))| .l t=>have:=t.eqd;inferInstanceAs (DecidableEq (List t.D))| .pr a c=>have:=a.eqd;have:=c.eqd;inferInstanceAs (DecidableEq (a.D×c.D))| .ar n t=>have:=t.eqd;inferInstanceAs (DecidableEq (Vector t.D n))| .u=>inferInstanceAs (DecidableEq Unit)| .f=>inferInstanceAs (DecidableEq Unit)
def eqT(t:Ty)(x y:t.D):Bool:=have:=t.eqd;decide (x=y)
theorem eB{t:Ty}{x y:t.D}:eqT t x y=O↔x=y:=by simp[eqT]
def Ty.zero:(t:Ty)->t.D| .b=>J| .i _=>(0:Int)| .s=>[]| .l _=>[]| .pr a c=>(a.zero,c.zero)| .ar n t=>Vector.replicate n t.zero| .u=>()| .f=>()
def Ty.ks:Ty->Option (List KD)
 | .b=>Z [.b]
 | .i k=>Z [.i k]
 | .s=>Z [.s]
 | .l _=>Y
 | .pr a c=>match a.ks,c.ks with|some x,Z y=>Z (x++y)|_,_=>Y
 | .ar n t=>match t.ks with|some x=>Z (_J n x).flatten|none=>Y
 | .u=>Z []
 | .f=>Y
theorem TI: ∀(t:Ty) {ks:List KD} (x y:t.D),t.ks=Z ks->cG ks (_B t x) (_B t y)=Z (eqT t x y)
 | .b,ks,x,y,h=>by cases h;exact JVF x y
 | .i k,ks,x,y,h=>by cases h;exact JVC k x y
 | .s,ks,x,y,h=>by cases h;exact JVA x y
 | .l _,_,_,_,h=>by cases h
 | .pr a c,ks,x,y,h=>by
  simp only[Ty.ks]at h;split at h;rename_i p q e g;cases h;have h1:=TI a x.1 y.1 e;have h2:=TI c x.2 y.2 g;unfold eqT at h1 h2;have j:(have:=a.eqd;decide (x.1=y.1))= @decide _ (a.eqd x.1 y.1):=rfl;have:= @Qy _ _ (a.eqd x.1 y.1) (c.eqd x.2 y.2) _ _ _ _ _ _ h1 h2;simp only[_B];refine this.trans (congrArg Z ?_);grind [eqT];cases h
 | .ar n t,ks,x,y,h=>by
  simp only[Ty.ks]at h;split at h;rename_i p e;cases h;have:= @JU8 t.D t.eqd n p (_B t) (λx y=>by have:=TI t x y e;exact this) x y;grind [_B,eqT];cases h
 | .u,ks,x,y,h=>by cases h;rfl
 | .f,_,_,_,h=>by cases h
inductive Sp where
 |f (off:Nat)
 |a (i _l:Nat)
 deriving DecidableEq
def spo:List Sp->Nat|[]=>0| .f o::r=>o+spo r| .a i e::r=>i*e+spo r
def spf:Nat->List Sp->Nat×List Sp|o,.f k::r=>spf (o+k) r|o,r=>(o,r)
theorem fb: ∀(o:Nat) (p:List Sp),(spf o p).1+spo (spf o p).2=o+spo p|o,[]=>rfl|o,.f k::r=>by simp only[spf,fb,spo];omega|o,.a i e::r=>rfl
section
variable {R:Type}
def prt:(t:Ty)->t.D->(off:Nat)->List Sp->(w:Ty)->(w.D->Option R)->Option R
 |t,x,off,p,w,k=>
  if h:t=w/\off=0/\p=[]then k (h.1▸x)
  else match t,x with
   | .pr a c,x=>if off+(if p=[]then w.sz else 1)<=a.sz then prt a x.1 off p w k
    else if a.sz<=off then prt c x.2 (off-a.sz) p w k
    else Y
   | .ar _ t,x=>if p=[]then(vat x (off/t.sz)).bind λy=>prt t y (off%t.sz) p w k
    else match off,p with|0,.a i e::r=>if e=t.sz then(vat x i).bind λy=>prt t y (spf 0 r).1 (spf 0 r).2 w k else Y|_,_=>Y
   |_,_=>Y
def pst:(t:Ty)->t.D->(off:Nat)->List Sp->(w:Ty)->w.D->(t.D->Option R)->Option R
 |t,x,off,p,w,v,k=>
  if h:t=w/\off=0/\p=[]then k (h.1.symm▸v)
  else match t,x,k with
   | .pr a c,x,k=>if off+(if p=[]then w.sz else 1)<=a.sz then pst a x.1 off p w v λy=>k (y,x.2)
    else if a.sz<=off then pst c x.2 (off-a.sz) p w v λy=>k (x.1,y)
    else Y
   | .ar _ t,x,k=>if p=[]then(vat x (off/t.sz)).bind λy=>pst t y (off%t.sz) p w v λy=>k (bL x (off/t.sz) y)
    else match off,p with|0,.a i e::r=>if e=t.sz then(vat x i).bind λy=>pst t y (spf 0 r).1 (spf 0 r).2 w v λy=>k (bL x i y)else Y|_,_=>Y
   |_,_,_=>Y
end
theorem JOI{α:Type}{a b v:List α}{off n:Nat}(h:sub a off n=Z v):sub (a++b) off n=Z v:=by
 grind [DB]
theorem JMY{α:Type}{a b v:List α}{off n:Nat}(h0:a.length<=off)(h:sub b (off-a.length) n=Z v):sub (a++b) off n=Z v:=by
 grind [DB,List.drop_append,List.drop_of_length_le]
theorem JPG{α:Type}{a b v e:List α}{off:Nat}(h:spl a off v=Z e):spl (a++b) off v=Z (e++b):=by
 grind [IL]
theorem JM7{α:Type}{a b v e:List α}{off:Nat}(h0:a.length<=off)(h:spl b (off-a.length) v=Z e):spl (a++b) off v=Z (a++e):=by
 rw[IL]at h⊢;split at h;injection h with h;rw[if_pos (by simp;omega),<-h,List.take_append,List.take_of_length_le h0,List.drop_append,List.drop_of_length_le (by omega)];simp;omega;cases h
theorem Ph{α:Type}{n i:Nat}{x:Vector α n}{y:α}(h:x[i]?=Z y):i<n:=by
 grind
theorem yS{R:Type}{t w:Ty}{x:t.D}{off:Nat}{p:List Sp}{k:w.D->Option R}{r:R}(h0:t=w/\off=0/\p=[])(h:k (h0.1▸x)=Z r):
  ∃y,sub (_B t x) (off+spo p) w.sz=Z (_B w y)/\k y=Z r:=by
 obtain⟨rfl,rfl,rfl⟩:=h0;grind [spo,jr,eU]
theorem yT{R:Type}{t w:Ty}{x:t.D}{off:Nat}{p:List Sp}{v:w.D}{k:t.D->Option R}{r:R}(h0:t=w/\off=0/\p=[])(h:k (h0.1.symm▸v)=Z r):
  ∃y,spl (_B t x) (off+spo p) (_B w v)=Z (_B t y)/\k y=Z r:=by
 obtain⟨rfl,rfl,rfl⟩:=h0;grind [spo,Qe,eU]
theorem yR{R:Type}: ∀{t:Ty} {x:t.D} {off:Nat} {p:List Sp} {w:Ty} {k:w.D->Option R} {r:R},prt t x off p w k=Z r->
  ∃y,sub (_B t x) (off+spo p) w.sz=Z (_B w y)/\k y=Z r
 | .pr a c,x,off,p,w,k,r,h=>by
  unfold prt at h;by_cases g:Ty.pr a c=w/\off=0/\p=[];rw[dif_pos g]at h;exact yS g h;rw[dif_neg g]at h;dsimp only at h;by_cases h1:off+(if p=[]then w.sz else 1)<=a.sz;rw[if_pos h1]at h;obtain⟨y,v,o⟩:=yR h;exact⟨y,JOI v,o⟩;rw[if_neg h1]at h;by_cases h2:a.sz<=off;rw[if_pos h2]at h;obtain⟨y,v,o⟩:=yR h;refine⟨y,JMY (by grind [eU]) ?_,o⟩;grind [eU];simp_all
 | .ar n t,x,off,p,w,k,r,h=>by
  unfold prt at h;by_cases g:Ty.ar n t=w/\off=0/\p=[];rw[dif_pos g]at h;exact yS g h;rw[dif_neg g]at h;dsimp only at h;by_cases A:p=[];rw[if_pos A]at h;obtain⟨z,j,h⟩:=bN.1 h;obtain⟨y,h1,h2⟩:=yR h;refine⟨y,?_,h2⟩;have:=Q0 (NF (eU t) j) h1;grind [_B,Nat.div_add_mod];rw[if_neg A]at h;split at h;rename_i _ i e q _;split at h;rename_i B;obtain⟨z,j,h⟩:=bN.1 h;obtain⟨y,h1,h2⟩:=yR h;refine⟨y,?_,h2⟩;have:=Q0 (NF (eU t) j) h1;grind [_B,fb,spo];cases h;cases h
 | .b,x,off,p,w,k,r,h=>by
  unfold prt at h;split at h
  next g=>exact yS g h
  next=>cases h
 | .i _,x,off,p,w,k,r,h=>by
  unfold prt at h;split at h
  next g=>exact yS g h
  next=>cases h
 | .s,x,off,p,w,k,r,h=>by
  unfold prt at h;split at h
  next g=>exact yS g h
  next=>cases h
 | .l _,x,off,p,w,k,r,h=>by
  unfold prt at h;split at h
  next g=>exact yS g h
  next=>cases h
 | .u,x,off,p,w,k,r,h=>by
  unfold prt at h;split at h
  next g=>exact yS g h
  next=>cases h
 | .f,x,off,p,w,k,r,h=>by
  unfold prt at h;split at h
  next g=>exact yS g h
  next=>cases h
theorem CT{R:Type}: ∀{t:Ty} {x:t.D} {off:Nat} {p:List Sp} {w:Ty} {v:w.D} {k:t.D->Option R} {r:R},pst t x off p w v k=Z r->
  ∃y,spl (_B t x) (off+spo p) (_B w v)=Z (_B t y)/\k y=Z r
 | .pr a c,x,off,p,w,v,k,r,h=>by
  unfold pst at h;by_cases g:Ty.pr a c=w/\off=0/\p=[];rw[dif_pos g]at h;exact yT g h;rw[dif_neg g]at h;dsimp only at h;by_cases h1:off+(if p=[]then w.sz else 1)<=a.sz;rw[if_pos h1]at h;obtain⟨y,B,A⟩:=CT h;exact⟨(y,x.2),JPG B,A⟩;rw[if_neg h1]at h;by_cases h2:a.sz<=off;rw[if_pos h2]at h;obtain⟨y,B,A⟩:=CT h;refine⟨(x.1,y),JM7 (by grind [eU]) ?_,A⟩;grind [eU];simp_all
 | .ar n t,x,off,p,w,v,k,r,h=>by
  unfold pst at h;by_cases g:Ty.ar n t=w/\off=0/\p=[];rw[dif_pos g]at h;exact yT g h;rw[dif_neg g]at h;dsimp only at h;by_cases o:p=[];rw[if_pos o]at h;obtain⟨z,j,h⟩:=bN.1 h;obtain⟨y,h1,h2⟩:=CT h;refine⟨_,?_,h2⟩;have:=Ot (NF (eU t) j) h1 (M6 (eU t) (Ph j) y);subst o;simp only[spo,uW]at this⊢;rw[FX,Nat.div_add_mod]at this;exact this;rw[if_neg o]at h;split at h;rename_i _ i e q _;split at h;rename_i C;obtain⟨z,j,h⟩:=bN.1 h;obtain⟨y,h1,h2⟩:=CT h;refine⟨_,?_,h2⟩;have:=Ot (NF (eU t) j) h1 (M6 (eU t) (Ph j) y);have E:=fb 0 q;simp only[spo,C];rw[show i*t.sz+((spf 0 q).1+spo (spf 0 q).2)=0+(i*t.sz+spo q) by omega]at this;exact this;cases h;cases h
 | .b,x,off,p,w,v,k,r,h=>by
  unfold pst at h;split at h
  next g=>exact yT g h
  next=>cases h
 | .i _,x,off,p,w,v,k,r,h=>by
  unfold pst at h;split at h
  next g=>exact yT g h
  next=>cases h
 | .s,x,off,p,w,v,k,r,h=>by
  unfold pst at h;split at h
  next g=>exact yT g h
  next=>cases h
 | .l _,x,off,p,w,v,k,r,h=>by
  unfold pst at h;split at h
  next g=>exact yT g h
  next=>cases h
 | .u,x,off,p,w,v,k,r,h=>by
  unfold pst at h;split at h
  next g=>exact yT g h
  next=>cases h
 | .f,x,off,p,w,v,k,r,h=>by
  unfold pst at h;split at h
  next g=>exact yT g h
  next=>cases h
end Go.Am
end
section
namespace Go.Am
inductive TC where|d (t:Ty) (x:t.D)|sc (t:Ty) (_f:List t.D)|np|nf|un|ptr (b:Nat) (p:List Sp)|cp (t:Ty) (x:t.D) (p:List Sp)|_r (b:Nat)|slo (b n:Nat)|ep (b i:Nat) (p:List Sp)|epo (b e i:Nat) (p:List Sp)|pre (b k:Nat)|pro (b n k:Nat)|suf (b i:Nat)|suo (b i n:Nat)|fn (f:FuncId)
inductive TA where|c (x:TC)|dt (t:Ty) (x:t.D)|m (t:Ty) (cs:List TC)|fn (f:FuncId) (first caps:List TC)
inductive TV where|a (x:TA)|tup (vs:List TA)
inductive TB where|dead|box (t:Ty) (x:t.D)|mbox (t:Ty) (cs:List TC)|arr (w:Bool) (t:Ty) (_f:List t.D)
structure _v where
 env:List (Nat×TV)
 _o:List TB
def hdP:List PV->PV|[c]=>c|_=>.np
def lnB:TB->Nat| .arr _ _ _f=>_f.length|_=>0
def lnO:Option TB->Nat|some x=>lnB x|none=>0
def _w(_o:List TB)(b:Nat):Nat:=lnO _o[b]?
section
variable (L:Nat->Nat)
def bD:TC->AV| .d t x=>.p (hdP (_B t x))| .sc t _f=>.p (.slc t.sz (_f.map (_B t)))| .np=>.p .np| .nf=>.p .nf| .un=>.unk| .ptr b p=>.ptr b (spo p)| .cp t x p=>.cp (_B t x) (spo p)| ._r b=>._r b 0 (L b)| .slo b n=>._r b 0 n| .ep b i p=>.ep b (L b) i (spo p)| .epo b e i p=>.ep b e i (spo p)| .pre b k=>.pre b (L b) k| .pro b n k=>.pre b n k| .suf b i=>._r b (min i (L b)) (L b-i)| .suo b i n=>._r b i n| .fn f=>.fn f [] []
def bT:TA->AV| .c x=>bD L x| .dt t x=>.data (_B t x)| .m _ cs=>.agg (cs.map (bD L))| .fn f a c=>.fn f (a.map (bD L)) (c.map (bD L))
def JX:TV->AV| .a x=>bT L x| .tup vs=>.tup (vs.map (bT L))
def bB:TB->_x| .dead=>.dead| .box t x=>.box ((_B t x).map .p)| .mbox _ cs=>.box (cs.map (bD L))| .arr w t _f=>.arr w t.sz (_f.map (_B t))
end
def gL(L:Nat->Nat)(env:List (Nat×TV)):List (Nat×AV):=env.map λx=>(x.1,JX L x.2)
def JD(s:_v):St:=⟨gL (_w s._o) s.env,s._o.map (bB (_w s._o))⟩
section
variable (L:Nat->Nat)
theorem CQ(t x):bB L (.box t x)=.box ((_B t x).map .p):=rfl
theorem NT(t cs):bB L (.mbox t cs)=.box (cs.map (bD L)):=rfl
theorem xb(w t _f):bB L (.arr w t _f)=.arr w t.sz (_f.map (_B t)):=rfl
theorem lR(b p):JX L (.a (.c (.ptr b p)))=.ptr b (spo p):=rfl
theorem nZ(t x p):JX L (.a (.c (.cp t x p)))=.cp (_B t x) (spo p):=rfl
theorem fL(b):JX L (.a (.c (._r b)))=._r b 0 (L b):=rfl
theorem mL(b i p):JX L (.a (.c (.ep b i p)))=.ep b (L b) i (spo p):=rfl
theorem e_i(k x):JX L (.a (.c (.d (.i k) x)))=.p (.i k x):=rfl
theorem e_b(x):JX L (.a (.c (.d .b x)))=.p (.b x):=rfl
theorem e_s(x):JX L (.a (.c (.d .s x)))=.p (.s x):=rfl
theorem e_l(t x):JX L (.a (.c (.d (.l t) x)))=.p (.sl t.sz (x.map (_B t))):=rfl
theorem Lk(f):JX L (.a (.c (.fn f)))=.fn f [] []:=rfl
theorem tj(t x):JX L (.a (.dt t x))=.data (_B t x):=rfl
theorem tr(f a c):JX L (.a (.fn f a c))=.fn f (a.map (bD L)) (c.map (bD L)):=rfl
theorem e_m(t cs):JX L (.a (.m t cs))=.agg (cs.map (bD L)):=rfl
end
theorem QE{t:Ty}(h:t.sz=1)(x:t.D):_B t x=[hdP (_B t x)]:=by
 have:=eU t x;rw[h]at this
 match hc:_B t x,this with
 |[c],_=>rfl
def kC(b n:Nat):TC->TC| ._r c=>if c=b then .slo b n else ._r c| .ep c i p=>if c=b then .epo b n i p else .ep c i p| .pre c k=>if c=b then .pro b n k else .pre c k| .suf c i=>if c=b then .suo b (min i n) (n-i)else .suf c i|x=>x
def kA(b n:Nat):TA->TA| .c x=>.c (kC b n x)| .dt t x=>.dt t x| .m t cs=>.m t (cs.map (kC b n))| .fn f a c=>.fn f (a.map (kC b n)) (c.map (kC b n))
def kV(b n:Nat):TV->TV| .a x=>.a (kA b n x)| .tup vs=>.tup (vs.map (kA b n))
def kB(b n:Nat):TB->TB| .mbox t cs=>.mbox t (cs.map (kC b n))|x=>x
def wS(b:Nat)(x:TB)(s:_v):_v:=⟨s.env,s._o.set b x⟩
def wN(b:Nat)(x:TB)(s:_v):_v:=⟨s.env.map λy=>(y.1,kV b (_w s._o b) y.2),(s._o.map (kB b (_w s._o b))).set b x⟩
def bH(d:Option Nat)(v:TV)(s:_v):_v:=
 match d with
 |some d=>⟨(d,v)::s.env,s._o⟩
 |none=>s
section
variable {L L':Nat->Nat} {b:Nat}
theorem k_C(h: ∀c,c≠b->L' c=L c)(x:TC):bD L' (kC b (L b) x)=bD L x:=by cases x<;>grind [kC,bD]
theorem Kz(h: ∀c,c≠b->L' c=L c)(xs:List TC):(xs.map (kC b (L b))).map (bD L')=xs.map (bD L):=by simp_all [k_C]
theorem k_A(h: ∀c,c≠b->L' c=L c)(x:TA):bT L' (kA b (L b) x)=bT L x:=by cases x<;>simp only[kA,bT,k_C h,Kz h]
theorem k_V(h: ∀c,c≠b->L' c=L c)(x:TV):JX L' (kV b (L b) x)=JX L x:=by cases x<;>simp only[kV,JX,k_A h,FQ,Function.comp_def]
theorem k_B(h: ∀c,c≠b->L' c=L c)(x:TB):bB L' (kB b (L b) x)=bB L x:=by cases x<;>simp only[kB,bB,Kz h]
theorem JUx(b n:Nat)(x:TB):lnB (kB b n x)=lnB x:=by cases x<;>rfl
theorem JSZ(_o:List TB)(b n c:Nat):_w (_o.map (kB b n)) c=_w _o c:=by
 unfold _w;rw[iL];cases _o[c]? with
 |none=>rfl
 |some x=>exact JUx b n x
theorem Pl(_o:List TB)(b:Nat)(x:TB)(c:Nat)(h:c≠b):_w (_o.set b x) c=_w _o c:=by
 grind [_w]
theorem xa{_o:List TB}{b:Nat}(h:b<_o.length)(x:TB):_w (_o.set b x) b=lnB x:=by unfold _w;rw[sW h];rfl
theorem HM(b:Nat)(x:TB)(s:_v):JD (wN b x s)=⟨(JD s).env,(JD s)._o.set b (bB (_w (wN b x s)._o) x)⟩:=by
 have h: ∀c,c≠b->_w (wN b x s)._o c=_w s._o c:=λc hc=>by
  grind [wN,Pl,JSZ]
 unfold JD
 congr 1
 show gL _ (s.env.map λy=>(y.1,kV b (_w s._o b) y.2))=gL _ s.env;simp_all [gL,k_V];show((s._o.map (kB b (_w s._o b))).set b x).map _=_;grind [List.map_set,List.map_congr_left,k_B]
theorem HV{b:Nat}{x:TB}{s:_v}(h:lnB x=_w s._o b):_w (wS b x s)._o=_w s._o:=by
 grind [wS,xa,List.set_eq_of_length_le,Pl]
theorem yB{b:Nat}{x:TB}{s:_v}(h:lnB x=_w s._o b):JD (wS b x s)=⟨(JD s).env,(JD s)._o.set b (bB (_w s._o) x)⟩:=by
 grind [JD,HV,wS,List.map_set]
theorem oH{s s1:_v}{ws:List (Nat×_x)}(h:JD s1=⟨(JD s).env,upd ws (JD s)._o⟩)(d:Option Nat)(v:TV):put d ⟨JX (_w s1._o) v,ws⟩ (JD s)=JD (bH d v s1):=by cases d<;>simp_all [bH,JD,gL]
end
theorem NZ{s:_v}(d:Option Nat)(v:TV):put d ⟨JX (_w s._o) v,[]⟩ (JD s)=JD (bH d v s):=oH rfl d v
def tlk(n:Nat):List (Nat×TV)->Option TV|[]=>Y|(m,v)::r=>if n=m then Z v else tlk n r
theorem CN(L:Nat->Nat)(n:Nat): ∀env:List (Nat×TV),lk n (gL L env)=(tlk n env).map (JX L)
 |[]=>rfl
 |(m,v)::r=>by
  simp only[gL,cH,lk,tlk];split;rfl;exact CN L n r
theorem dW(s:_v)(b:Nat):(JD s)._o[b]?=(s._o[b]?).map (bB (_w s._o)):=by simp[JD]
theorem hJ{_o:List TB}{b:Nat}{w:Bool}{t:Ty}{_f:List t.D}(h:_o[b]?=Z (.arr w t _f)):_w _o b=_f.length:=by unfold _w;rw[h];rfl
inductive TO where|t (n:Nat)|c (x:TV)
def erO:TO->Opd| .t n=>.t n| .c x=>.c (JX (λ_=>0) x)
def L8:TC->Bool| .d _ _| .sc _ _| .np| .nf| .un| .fn _=>O|_=>J
def fh:TA->Bool| .c x=>L8 x| .dt _ _=>O| .m _ _=>J| .fn _ a c=>a.isEmpty&&c.isEmpty
def HD:TV->Bool| .a x=>fh x| .tup vs=>vs.isEmpty
theorem JOM{L L':Nat->Nat}{v:TV}(h:HD v=O):JX L v=JX L' v:=by
 cases v with
 |a x=>
  cases x with
  |c x=>cases x<;>first|rfl|grind [HD,fh,L8]
  |dt t x=>rfl
  |m t cs=>grind [HD,fh]
  |fn f a c=>simp[HD,fh]at h;obtain⟨rfl,rfl⟩:=h;rfl
 |tup vs=>simp[HD]at h;subst h;rfl
def tev:TO->_v->Option TV| .t n,s=>tlk n s.env| .c x,_=>if HD x=O then Z x else Y
theorem bV{x:TO}{s:_v}{v:TV}(h:tev x s=Z v):(ev (erO x)).run (JD s)=Z (JX (_w s._o) v):=by
 cases x with
 |t n=>simp only[erO,ev,yY];show(lk n (gL (_w s._o) s.env)).bind _=_;rw[CN,show tlk n s.env=Z v from h];rfl
 |c x=>
  grind [tev,erO,ev,JY,JOM]
end Go.Am
end
section
namespace Go.Am
@[reducible] def vi(k:IntKind)(n:Int):TV:=.a (.c (.d (.i k) n))
@[reducible] def vb(x:Bool):TV:=.a (.c (.d .b x))
@[reducible] def vs(l:List UInt8):TV:=.a (.c (.d .s l))
@[reducible] def vl(t:Ty)(l:List t.D):TV:=.a (.c (.d (.l t) l))
def uv:TV:=.tup []
def mkv(agg:Bool)(t:Ty)(x:t.D):TV:=if agg=O then .a (.dt t x)else .a (.c (.d t x))
def Ok{R:Type}(m:RM Eff)(d:Option Nat)(s:_v)(k:_v->Option R)(r:R):Prop:= ∃e s',m.run (JD s)=Z e/\put d e (JD s)=JD s'/\k s'=Z r
def asm:(t:Ty)->List TC->Option t.D
 | .pr a c,l=>match asm a (l.take a.sz),asm c (l.drop a.sz)with|some x,Z y=>Z (x,y)|_,_=>Y
 | .ar _ _,_=>Y
 | .u,l=>if l.isEmpty=O then Z ()else Y
 |t,l=>match l with|[.d t' x]=>if h:t'=t then Z (h▸x)else Y|_=>Y
def BJ:(t:Ty)->t.D->Option (List TC)
 | .pr a c,x=>match BJ a x.1,BJ c x.2 with|some l,Z q=>Z (l++q)|_,_=>Y
 | .ar _ _,_=>Y
 | .u,_=>Z []
 |t,x=>Z [.d t x]
theorem MV(L:Nat->Nat): ∀{t:Ty} {l:List TC} {x:t.D},asm t l=Z x->l.map (bD L)=(_B t x).map .p
 | .pr a c,l,x,h=>by
  simp only[asm]at h;split at h;rename_i y z g j;cases h;have h1:=MV L g;have h2:=MV L j;grind [_B,List.take_append_drop];cases h
 | .ar _ _,_,_,h=>by cases h
 | .u,l,x,h=>by
  simp only[asm]at h;split at h;rename_i e;rw[List.isEmpty_iff.1 e];rfl;cases h
 | .b,l,x,h=>by
  simp only[asm]at h;split at h;split at h;rename_i e;subst e;cases h;rfl;cases h;cases h
 | .i _,l,x,h=>by
  simp only[asm]at h;split at h;split at h;rename_i e;subst e;cases h;rfl;cases h;cases h
 | .s,l,x,h=>by
  simp only[asm]at h;split at h;split at h;rename_i e;subst e;cases h;rfl;cases h;cases h
 | .l _,l,x,h=>by
  simp only[asm]at h;split at h;split at h;rename_i e;subst e;cases h;rfl;cases h;cases h
 | .f,l,x,h=>by
  simp only[asm]at h;split at h;split at h;rename_i e;subst e;cases h;rfl;cases h;cases h
theorem NM(L:Nat->Nat): ∀{t:Ty} {x:t.D} {l:List TC},BJ t x=Z l->l.map (bD L)=(_B t x).map .p
 | .pr a c,x,l,h=>by
  simp only[BJ]at h;split at h;rename_i y z e g;cases h;have h1:=NM L e;have h2:=NM L g;grind [_B];cases h
 | .ar _ _,_,_,h=>by cases h
 | .u,x,l,h=>by cases h;rfl
 | .b,x,l,h=>by cases h;rfl
 | .i _,x,l,h=>by cases h;rfl
 | .s,x,l,h=>by cases h;rfl
 | .l _,x,l,h=>by cases h;rfl
 | .f,x,l,h=>by cases h;rfl
def zcs:Ty->List TC| .pr a c=>zcs a++zcs c| .ar n t=>(_J n (zcs t)).flatten| .u=>[]|t=>[.d t t.zero]
theorem HT(L:Nat->Nat): ∀t:Ty,(zcs t).map (bD L)=(_B t t.zero).map .p| .pr a c=>by simp only[zcs,tA,HT L a,HT L c,Ty.zero,_B]| .ar n t=>by have ih:=HT L t;simp_all [_B,rG,Ty.zero,zcs]| .u=>rfl| .b=>rfl| .i _=>rfl| .s=>rfl| .l _=>rfl| .f=>rfl
def mkb(t:Ty)(cs:List TC):TB:=match asm t cs with|some x=>.box t x|none=>.mbox t cs
theorem TW(L:Nat->Nat)(t:Ty)(cs:List TC):bB L (mkb t cs)=.box (cs.map (bD L)):=by
 unfold mkb;split;grind [CQ,MV];rfl
theorem UI(t:Ty)(cs:List TC):lnB (mkb t cs)=0:=by unfold mkb;split<;>rfl
def dh:TC->Bool| .ptr _ _| .cp _ _ _| ._r _| .slo _ _| .ep _ _ _| .epo _ _ _ _| .un| .fn _| .pre _ _| .pro _ _ _| .suf _ _| .suo _ _ _=>O|_=>J
theorem jw(L:Nat->Nat): ∀{cs:List TC},cs.any dh=O->unp (cs.map (bD L))=Y
 |[],h=>by simp at h
 |x::r,h=>by
  simp only[List.any_cons,AW]at h;rcases h with h|h;cases x<;>simp[dh]at h<;>rfl
  have:=jw L h;cases x<;>simp[bD,unp,this]
def mka(agg:Bool)(t:Ty)(cs:List TC):Option TV:=
 if agg=O then
  match asm t cs with
  |some x=>Z (.a (.dt t x))
  |none=>if cs.any dh=O then Z (.a (.m t cs))else Y
 else match cs with|[c]=>Z (.a (.c c))|_=>Y
theorem IB(L:Nat->Nat){agg:Bool}{t:Ty}{cs:List TC}{v:TV}(h:mka agg t cs=Z v):mA agg (cs.map (bD L))=Z (JX L v):=by
 unfold mka at h;split at h;rename_i e;subst e;split at h;rename_i x j;cases h;rw[MV L j,Ca];rfl;split at h;rename_i g;cases h;simp only[mA,jw L g,if_true];rfl;cases h;rename_i e;split at h;cases h;have:agg=J:=by simpa using e
 subst this;rfl;cases h
def tcs:TV->Option (List TC)| .a (.c .un)=>Y| .a (.c (.pre _ _))=>Y| .a (.c (.pro _ _ _))=>Y| .a (.c x)=>Z [x]| .a (.dt t x)=>BJ t x| .a (.m _ cs)=>Z cs| .a (.fn f [] [])=>Z [.fn f]|_=>Y
theorem ND(L:Nat->Nat){v:TV}{cs:List TC}(h:tcs v=Z cs):cellsOf (JX L v)=Z (cs.map (bD L)):=by
 cases v with
 |a x=>
  cases x with
  |c x=>cases x<;>cases h<;>rfl
  |dt t x=>simp only[JX,bT,cellsOf];rw[NM L h]
  |m t cs=>cases h;rfl
  |fn f a c=>
   cases a with
   |nil=>cases c with
    |nil=>cases h;rfl
    |cons y c=>cases h
   |cons y a=>cases h
 |tup vs=>cases h
def tdv(t:Ty):TV->Option t.D| .a (.c (.d t' x))=>if h:t'=t then Z (h▸x)else Y| .a (.dt t' x)=>if h:t'=t then Z (h▸x)else Y|_=>Y
def agv:TV->Bool| .a (.dt _ _)=>O|_=>J
theorem JUz(L:Nat->Nat){t:Ty}{v:TV}{x:t.D}(h:tdv t v=Z x):JX L v=if agv v=O then .data (_B t x)else .p (hdP (_B t x)):=by
 unfold tdv at h;split at h;split at h;rename_i e;subst e;cases h;rfl;cases h;split at h;rename_i e;subst e;cases h;rfl;cases h;cases h
def uR:List Sp->Option Nat
 |[]=>Z 0
 | .f o::r=>match uR r with|some n=>Z (o+n)|none=>Y
 | .a _ _::_=>Y
theorem HX: ∀{p:List Sp} {n:Nat},uR p=Z n->spo p=n
 |[],n,h=>by injection h with h
 | .f o::r,n,h=>by
  simp only[uR]at h;split at h;rename_i m e;injection h with h;simp only[spo,HX e,h];cases h
 | .a _ _::_,_,h=>by cases h
section
variable {R:Type}
def v7(agg:Bool)(t:Ty)(v:TV)(d:Option Nat)(s:_v)(k:_v->Option R):Option R:=
 if agg=O\/t.sz=1 then
  match v with
  | .a (.c (.cp e x p))=>prt e x (spf 0 p).1 (spf 0 p).2 t λy=>k (bH d (mkv agg t y) s)
  | .a (.c (.ptr b p))=>match s._o[b]? with
   |some (.box e x)=>prt e x (spf 0 p).1 (spf 0 p).2 t λy=>k (bH d (mkv agg t y) s)
   |some (.mbox _ cs)=>match uR p with
    |some off=>match sub cs off t.sz with
     |some l=>match mka agg t l with|some v=>k (bH d v s)|none=>Y
     |none=>Y
    |none=>Y
   |_=>Y
  | .a (.c (.ep b i p))=>match s._o[b]? with|some (.arr _ e _f)=>(aV _f i).bind λrow=>prt e row (spf 0 p).1 (spf 0 p).2 t λy=>k (bH d (mkv agg t y) s)|_=>Y
  |_=>Y
 else Y
theorem HR(L:Nat->Nat){agg:Bool}{t:Ty}(h:agg=O\/t.sz=1)(y:t.D):qJ agg (_B t y)=Z (JX L (mkv agg t y)):=by
 unfold mkv;split;rename_i e;subst e;rfl;rename_i e;have:agg=J:=by simpa using e
 subst this;have:=h.resolve_left (by simp);rw[QE this];rfl
theorem PQ(p:List Sp):(spf 0 p).1+spo (spf 0 p).2=spo p:=by simp[fb]
theorem JPw{agg:Bool}{t:Ty}{v:TV}{d:Option Nat}{s:_v}{k:_v->Option R}{r:R}(h:v7 agg t v d s k=Z r):Ok (iD agg t.sz (JX (_w s._o) v)) d s k r:=by
 unfold v7 at h;split at h;rename_i g;split at h;rename_i j x p;obtain⟨y,h1,h2⟩:=yR h;rw[PQ]at h1;refine⟨_,_,?_,NZ d (mkv agg t y),h2⟩;simp only[lR,nZ,mL,fL,iD,h1,HR (_w s._o) g,val];rfl;rename_i b p;split at h;rename_i j x hb;obtain⟨y,h1,h2⟩:=yR h;rw[PQ]at h1;refine⟨_,_,?_,NZ d (mkv agg t y),h2⟩;have hc:mA agg ((_B t y).map .p)=qJ agg (_B t y):=by
  unfold mA qJ;split;rw[IP];cases hcel:_B t y with
  |nil=>rfl
  |cons a l=>cases l<;>rfl
 simp only[lR,nZ,mL,fL,iD,dR,dW,hb,cN,JF,bB,IS,h1,hc,HR (_w s._o) g,val];rfl;rename_i cs hb;split at h;rename_i off n;split at h;rename_i l o;split at h;rename_i v q;refine⟨_,_,?_,NZ d v,h⟩;simp only[lR,nZ,mL,fL,iD,dR,dW,hb,cN,JF,bB,IS,HX n,o,IB (_w s._o) q,val];rfl;cases h;cases h;cases h;cases h;rename_i b i p;split at h;rename_i w j _f hb;obtain⟨row,e,h⟩:=bN.1 h;have e:_f[i]?=Z row:=e;obtain⟨y,h1,h2⟩:=yR h;rw[PQ]at h1;refine⟨_,_,?_,NZ d (mkv agg t y),h2⟩;simp only[lR,nZ,mL,fL,iD,dR,dW,hb,cN,JF,bB,hJ hb,dT,if_true,iL,e,h1,HR (_w s._o) g,val];rfl;cases h;cases h;cases h
end
end Go.Am
end
section
namespace Go.Am
section
variable {R:Type}
def fzC:(t:Ty)->List TC->_v->(t.D->_v->Option R)->Option R
 | .pr a c,l,s,k=>fzC a (l.take a.sz) s λx s=>fzC c (l.drop a.sz) s λy s=>k (x,y) s
 | .ar _ _,_,_,_=>Y
 | .u,l,s,k=>if l.isEmpty=O then k () s else Y
 | .l e,l,s,k=>match l with
  |[.d t' x]=>if h:t'=.l e then k (h▸x) s else Y
  |[._r b]=>match s._o[b]? with|some (.arr _ e' _f)=>if h:e'=e then k (h▸_f) (wS b (.arr J e' _f) s)else Y|_=>Y
  |_=>Y
 |t,l,s,k=>match l with|[.d t' x]=>if h:t'=t then k (h▸x) s else Y|_=>Y
def tfz(t:Ty)(v:TV)(s:_v)(k:t.D->_v->Option R):Option R:=
 match v with
 | .a (.dt t' x)=>if h:t'=t then k (h▸x) s else Y
 | .a (.c x)=>fzC t [x] s k
 | .a (.m _ cs)=>fzC t cs s k
 |_=>Y
def Fzd(s s':_v)(ws:List (Nat×_x)):Prop:=s'.env=s.env/\_w s'._o=_w s._o/\JD s'=⟨(JD s).env,upd ws (JD s)._o⟩/\(∀(b:Nat) (t:Ty) (_f:List t.D) (w:Bool),s'._o[b]?=Z (TB.arr w t _f)-> ∃w',s._o[b]?=Z (TB.arr w' t _f))/\(∀(b:Nat) (t:Ty) (_f:List t.D),s._o[b]?=Z (TB.arr J t _f)->s'._o[b]?=Z (TB.arr J t _f))/\ ∀x∈ws,∃(t:Ty) (_f:List t.D),s'._o[x.1]?=Z (TB.arr J t _f)
theorem Fzd.refl(s:_v):Fzd s s []:=⟨rfl,rfl,rfl,λb t _f w h=>⟨w,h⟩,λb t _f h=>h,λx h=>by cases h⟩
theorem Fzd.trans{s1 e g:_v}{a c:List (Nat×_x)}(h:Fzd s1 e a)(j:Fzd e g c):Fzd s1 g (a++c):=by
 obtain⟨h1,h2,B,z,o,y⟩:=h;obtain⟨n,q,A,v,k,r⟩:=j;refine⟨n.trans h1,q.trans h2,?_,λb t _f w h=>?_,λb t _f h=>k b t _f (o b t _f h),λx C=>?_⟩
 all_goals grind [fM]
theorem jy{s:_v}{b:Nat}{w:Bool}{t:Ty}{_f:List t.D}(hb:s._o[b]?=Z (.arr w t _f)):Fzd s (wS b (.arr J t _f) s) [(b,.arr J t.sz (_f.map (_B t)))]:=by
 have e:lnB (.arr J t _f)=_w s._o b:=by rw[hJ hb];rfl
 have hs:(wS b (.arr J t _f) s)._o[b]?=Z (.arr J t _f):=by grind [wS]
 have j: ∀c,c≠b->(wS b (.arr J t _f) s)._o[c]?=s._o[c]?:=λc hc=>by grind [wS]
 refine⟨rfl,HV e,yB e,λc t' g w' h=>?_,λc t' g h=>?_,λx k=>?_⟩
 all_goals grind
theorem JRb(x y:List AV)(st:St):(fz.fzL (x++y)).run st=((fz.fzL x).run st).bind λa=>((fz.fzL y).run st).map λc=>(a.1++c.1,a.2++c.2):=by
 induction x with
 |nil=>simp_all
 |cons v x ih=>
  simp only[nP,fz.fzL,run_bind,ih];cases(fz.fz1 v).run st with
  |none=>rfl
  |some a=>
   simp only[JF];cases(fz.fzL x).run st with
   |none=>rfl
   |some c=>simp only[JF];cases(fz.fzL y).run st<;>simp_all
theorem MZ{L:Nat->Nat}{t t':Ty}{x:t'.D}(h:t'=t)(h1:t.sz=1)(st:St):(fz.fzL ([TC.d t' x].map (bD L))).run st=Z (_B t (h▸x),[]):=by
 grind [QE,bD,fz.fzL,fz.fz1,run_bind,JY]
theorem NH: ∀{t:Ty} {l:List TC} {s0 s:_v} {w0:List (Nat×_x)} {k:t.D->_v->Option R} {r:R},Fzd s0 s w0->fzC t l s k=Z r->
  ∃y s' ws,(fz.fzL (l.map (bD (_w s0._o)))).run (JD s0)=Z (_B t y,ws)/\Fzd s0 s' (w0++ws)/\k y s'=Z r
 | .pr a c,l,s0,s,w0,k,r,j,h=>by simp only[fzC]at h;obtain⟨x,s1,v,A,o,h⟩:=NH j h;obtain⟨y,q,B,z,C,h⟩:=NH o h;refine⟨(x,y),q,v++B,?_,by simp_all,h⟩;have:=JRb ((l.take a.sz).map (bD (_w s0._o))) ((l.drop a.sz).map (bD (_w s0._o))) (JD s0);rw[<-tA,pR,A,z]at this;exact this
 | .ar _ _,_,_,_,_,_,_,_,h=>by cases h
 | .u,l,s0,s,w0,k,r,j,h=>by
  simp only[fzC]at h;split at h;rename_i g;refine⟨(),s,[],?_,by simp_all,h⟩;rw[List.isEmpty_iff.1 g];rfl;cases h
 | .l e,l,s0,s,w0,k,r,j,h=>by
  simp only[fzC]at h;split at h;split at h;rename_i g;exact⟨_,s,[],MZ g rfl _,by simp_all,h⟩;cases h;rename_i b;split at h;rename_i w e' _f hb;split at h;rename_i g;subst g;obtain⟨w',n⟩:=j.2.2.2.1 b _ _f w hb;refine⟨_f,_,[(b,.arr J e'.sz (_f.map (_B e')))],?_,j.trans (jy hb),h⟩;simp only[cH,List.map_nil,bD,fz.fzL,fz.fz1,run_bind,dR,dW,n,cN,JF,bB,hJ n,dT,pV,if_true,FU,JY];rfl;cases h;cases h;cases h
 | .b,l,s0,s,w0,k,r,j,h=>by
  simp only[fzC]at h;split at h;split at h;rename_i g;exact⟨_,s,[],MZ g rfl _,by simp_all,h⟩;cases h;cases h
 | .i _,l,s0,s,w0,k,r,j,h=>by
  simp only[fzC]at h;split at h;split at h;rename_i g;exact⟨_,s,[],MZ g rfl _,by simp_all,h⟩;cases h;cases h
 | .s,l,s0,s,w0,k,r,j,h=>by
  simp only[fzC]at h;split at h;split at h;rename_i g;exact⟨_,s,[],MZ g rfl _,by simp_all,h⟩;cases h;cases h
 | .f,l,s0,s,w0,k,r,j,h=>by
  simp only[fzC]at h;split at h;split at h;rename_i g;exact⟨_,s,[],MZ g rfl _,by simp_all,h⟩;cases h;cases h
theorem JWb(x:AV)(hx:(∀cs,x≠.data cs)/\ ∀cs,x≠.agg cs)(st:St){y:List PV}{ws:List (Nat×_x)}(h:(fz.fzL [x]).run st=Z (y,ws)):(fz x).run st=Z (y,ws):=by simp only[fz.fzL,run_bind,JY]at h;cases x<;>simp_all [bN]
theorem Ns{t:Ty}{v:TV}{s0 s:_v}{w0:List (Nat×_x)}{k:t.D->_v->Option R}{r:R}(g:Fzd s0 s w0)(h:tfz t v s k=Z r):
  ∃y s' ws,(fz (JX (_w s0._o) v)).run (JD s0)=Z (_B t y,ws)/\Fzd s0 s' (w0++ws)/\k y s'=Z r:=by
 unfold tfz at h;split at h;split at h;rename_i j;subst j;exact⟨_,s,[],rfl,by simp_all,h⟩;cases h;rename_i x;obtain⟨y,s',ws,h1,h2,e⟩:=NH g h;refine⟨y,s',ws,JWb _ ⟨λcs=>?_,λcs=>?_⟩ _ h1,h2,e⟩<;>cases x<;>simp[bD,JX,bT]
 obtain⟨y,s',ws,h1,h2,e⟩:=NH g h;exact⟨y,s',ws,h1,h2,e⟩;cases h
end
end Go.Am
end
section
namespace Go.Am
section
variable {R:Type}
theorem ng(L:Nat->Nat){t:Ty}{v:TV}{x:t.D}(h:tdv t v=Z x)(ha:agv v=O\/t.sz=1):cellsOf (JX L v)=Z ((_B t x).map .p):=by
 rw[JUz L h];split;rfl;rename_i e;rw[QE (ha.resolve_left e)];rfl
def xh(t:Ty)(x u:TV)(d:Option Nat)(s:_v)(k:_v->Option R):Option R:=
 match x with
 | .a (.c (.ptr b p))=>match s._o[b]? with
  |some (.box e y)=>match tdv t u with
   |some z=>if agv u=O\/t.sz=1 then pst e y (spf 0 p).1 (spf 0 p).2 t z λh=>k (bH d uv (wS b (.box e h) s))else Y
   |none=>match uR p,BJ e y,tcs u with
    |some off,Z cs,Z l=>if l.length=t.sz then
     match spl cs off l with
     |some cs'=>k (bH d uv (wS b (mkb e cs') s))
     |none=>Y
     else Y
    |some off,Y,Z l=>if off=0/\l.length=e.sz/\l.length=t.sz then k (bH d uv (wS b (mkb e l) s))else Y
    |_,_,_=>Y
  |some (.mbox e cs)=>match uR p,tcs u with
   |some off,Z l=>if l.length=t.sz then
    match spl cs off l with
    |some cs'=>k (bH d uv (wS b (mkb e cs') s))
    |none=>Y
    else Y
   |_,_=>Y
  |_=>Y
 | .a (.c (.ep b i p))=>tfz t u s λz s1=>match s1._o[b]? with|some (.arr O e _f)=>(aV _f i).bind λrow=>pst e row (spf 0 p).1 (spf 0 p).2 t z λg=>k (bH d uv (wS b (.arr O e (aY _f i g)) s1))|_=>Y
 |_=>Y
theorem JUB(L:Nat->Nat):JX L uv=iE:=rfl
theorem TY{s:_v}{b:Nat}{t:Ty}{x:t.D}(h:s._o[b]?=Z (.box t x)):_w s._o b=0:=by unfold _w;rw[h];rfl
theorem Rz{s:_v}{b:Nat}{t:Ty}{cs:List TC}(h:s._o[b]?=Z (.mbox t cs)):_w s._o b=0:=by unfold _w;rw[h];rfl
theorem DD{s:_v}{b:Nat}(h:s._o[b]?=Z .dead):_w s._o b=0:=by unfold _w;rw[h];rfl
theorem MB{m:RM Eff}{d:Option Nat}{s:_v}{k:_v->Option R}{r:R}{b:Nat}{x:TB}{v:TV}(hl:lnB x=_w s._o b)(hm:m.run (JD s)=Z ⟨JX (_w s._o) v,[(b,bB (_w s._o) x)]⟩)
  (h:k (bH d v (wS b x s))=Z r):Ok m d s k r:=by
 refine⟨_,_,hm,?_,h⟩;have e:=HV hl;rw[<-e];refine oH ?_ d v;simp_all [yB]
theorem us{m:RM Eff}{d:Option Nat}{s:_v}{k:_v->Option R}{r:R}{b:Nat}{x:TB}{v:TV}(hm:m.run (JD s)=Z ⟨JX (_w (wN b x s)._o) v,[(b,bB (_w (wN b x s)._o) x)]⟩)
  (h:k (bH d v (wN b x s))=Z r):Ok m d s k r:=
 ⟨_,_,hm,oH (HM b x s) d v,h⟩
theorem fN{m:RM Eff}{d:Option Nat}{s:_v}{k:_v->Option R}{r:R}{v:TV}(hm:m.run (JD s)=Z ⟨JX (_w s._o) v,[]⟩)(h:k (bH d v s)=Z r):Ok m d s k r:=
 ⟨_,_,hm,NZ d v,h⟩
theorem wy{m:RM Eff}{d:Option Nat}{s s':_v}{ws:List (Nat×_x)}{k:_v->Option R}{r:R}{v:TV}(f:Fzd s s' ws)(hm:m.run (JD s)=Z ⟨JX (_w s._o) v,ws⟩)(h:k (bH d v s')=Z r):Ok m d s k r:=by refine⟨_,_,hm,?_,h⟩;rw[<-f.2.1];exact oH f.2.2.1 d v
theorem JLI{t:Ty}{x u:TV}{d:Option Nat}{s:_v}{k:_v->Option R}{r:R}(h:xh t x u d s k=Z r):Ok (jE t.sz (JX (_w s._o) x) (JX (_w s._o) u)) d s k r:=by
 unfold xh at h;split at h;rename_i b p;split at h;rename_i e y hb;split at h;rename_i z E;split at h;rename_i H;obtain⟨C,h1,h2⟩:=CT h;rw[PQ]at h1;refine MB (x:=.box e C) (v:=uv) (TY hb).symm ?_ h2;simp only[lR,nZ,mL,fL,jE,dR,dW,hb,cN,JF,bB,ng (_w s._o) E H,dT,eU,if_true,IQ,h1,JY];rfl;cases h;split at h;rename_i off cs l o hc j;split at h;rename_i A;split at h;rename_i cs' hs;refine MB (x:=mkb e cs') (v:=uv) ((UI _ _).trans (TY hb).symm) ?_ h;rw[TW];simp only[lR,nZ,mL,fL,jE,dR,dW,hb,cN,JF,bB,ND (_w s._o) j,dT,A,if_true,HX o,<-NM (_w s._o) hc,IQ,hs,JY];rfl;cases h;cases h;rename_i off l o _ j;split at h;rename_i D;obtain⟨rfl,h1,h2⟩:=D;refine MB (x:=mkb e l) (v:=uv) ((UI _ _).trans (TY hb).symm) ?_ h;rw[TW];have _e:spl ((_B e y).map AV.p) 0 (l.map (bD (_w s._o)))=Z (l.map (bD (_w s._o))):=Qe (by grind [eU]);simp only[lR,nZ,mL,fL,jE,dR,dW,hb,cN,JF,bB,ND (_w s._o) j,dT,h2,if_true,HX o,_e,JY];rfl;cases h;cases h;rename_i e cs hb;split at h;rename_i off l o j;split at h;rename_i A;split at h;rename_i cs' hs;refine MB (x:=mkb e cs') (v:=uv) ((UI _ _).trans (Rz hb).symm) ?_ h;rw[TW];simp only[lR,nZ,mL,fL,jE,dR,dW,hb,cN,JF,bB,ND (_w s._o) j,dT,A,if_true,HX o,IQ,hs,JY];rfl;cases h;cases h;cases h;cases h;rename_i b i p;obtain⟨z,s1,ws,h1,f,h⟩:=Ns (Fzd.refl s) h;rw[rD]at f;split at h;rename_i e _f hb;obtain⟨row,w,h⟩:=bN.1 h;have w:_f[i]?=Z row:=w;obtain⟨g,B,_d⟩:=CT h;rw[PQ]at B;obtain⟨w',n⟩:=f.2.2.2.1 b _ _f O hb;have F:w'=O:=by
  cases w' with
  |true=>rfl
  |false=>have:=f.2.2.2.2.1 b _ _f n;simp_all
 subst F;have q:(ws.all λy=>y.1 !=b)=O:=(by rw[dp];intro y G;obtain⟨t',rows',hf⟩:=f.2.2.2.2.2 y G;grind);have j:lnB (.arr O e (aY _f i g))=_w s1._o b:=by grind [hJ,lnB,aY]
 refine⟨⟨iE,ws++[(b,.arr O e.sz ((aY _f i g).map (_B e)))]⟩,_,?_,?_,_d⟩;simp only[lR,nZ,mL,fL,jE,dR,dW,n,cN,JF,bB,hJ n,dT,if_true,iL,w,run_bind,h1,eU,q,and_self,B,JY,List.map_set,aY];rw[<-JUB (_w (wS b (.arr O e (aY _f i g)) s1)._o)];refine oH ?_ d uv;rw[yB j,f.2.2.1,fM];rfl;cases h;cases h
def tpv:List (Nat×Ty×TO)->_v->Option (List (Nat×(w:Ty)×w.D))
 |[],_=>Z []
 |(off,w,o)::r,s=>match tev o s with
  |some v=>match tdv w v with
   |some z=>if agv v=O\/w.sz=1 then
    match tpv r s with
    |some l=>Z ((off,⟨w,z⟩)::l)
    |none=>Y
    else Y
   |none=>Y
  |none=>Y
def fq(t:Ty):t.D->List (Nat×(w:Ty)×w.D)->(t.D->Option R)->Option R|x,[],k=>k x|x,(off,⟨w,z⟩)::r,k=>pst t x off [] w z λe=>fq t e r k
def tpc:List (Nat×Ty×TO)->_v->Option (List (Nat×Nat×List TC))
 |[],_=>Z []
 |(off,w,o)::r,s=>match tev o s with
  |some v=>match tcs v with
   |some l=>match tpc r s with|some q=>Z ((off,w.sz,l)::q)|none=>Y
   |none=>Y
  |none=>Y
def LO:List (Nat×Nat×List TC)->List TC->Option (List TC)
 |[],cs=>Z cs
 |(off,n,c)::r,cs=>if c.length=n then
  match spl cs off c with
  |some cs'=>LO r cs'
  |none=>Y
  else Y
def erP(parts:List (Nat×Ty×TO)):List (Nat×Nat×Opd):=parts.map λx=>(x.1,x.2.1.sz,erO x.2.2)
theorem xd{s:_v}: ∀{parts:List (Nat×Ty×TO)} {l:List (Nat×Nat×List TC)},tpc parts s=Z l->
  (lW (erP parts)).run (JD s)=Z (l.map λx=>(x.1,x.2.1,x.2.2.map (bD (_w s._o))))
 |[],l,h=>by cases h;rfl
 |(off,w,o)::r,l,h=>by
  simp only[tpc]at h;split at h;rename_i v g;split at h;rename_i c hc;split at h;rename_i q e;cases h;have ih:=xd e;simp only[erP,cH,lW,run_bind,bV g,JF,ND (_w s._o) hc];simp_all [erP];cases h;cases h;cases h
theorem Nj{s:_v}: ∀{parts:List (Nat×Ty×TO)} {l:List (Nat×(w:Ty)×w.D)},tpv parts s=Z l->
  (lW (erP parts)).run (JD s)=Z (l.map λx=>(x.1,x.2.1.sz,(_B x.2.1 x.2.2).map .p))
 |[],l,h=>by cases h;rfl
 |(off,w,o)::r,l,h=>by
  simp only[tpv]at h;split at h;rename_i v g;split at h;rename_i z k;split at h;rename_i j;split at h;rename_i q e;cases h;have ih:=Nj e;simp only[erP,cH,lW,run_bind,bV g,JF,ng (_w s._o) k j];simp_all [erP];cases h;cases h;cases h;cases h
theorem S7{t:Ty}: ∀{l:List (Nat×(w:Ty)×w.D)} {x:t.D} {k:t.D->Option R} {r:R},fq t x l k=Z r->
  ∃y,rX (l.map λx=>(x.1,x.2.1.sz,(_B x.2.1 x.2.2).map .p)) ((_B t x).map .p)=Z ((_B t y).map .p)/\k y=Z r
 |[],x,k,r,h=>⟨x,rfl,h⟩
 |(off,⟨w,z⟩)::q,x,k,r,h=>by
  simp only[fq]at h;obtain⟨e,h1,h2⟩:=CT h;obtain⟨y,j,g⟩:=S7 h2;grind [rX,eU,IQ,spo]
theorem mq(L:Nat->Nat): ∀{l:List (Nat×Nat×List TC)} {cs cs':List TC},LO l cs=Z cs'->
  rX (l.map λx=>(x.1,x.2.1,x.2.2.map (bD L))) (cs.map (bD L))=Z (cs'.map (bD L))
 |[],cs,cs',h=>by cases h;rfl
 |(off,n,c)::q,cs,cs',h=>by
  simp only[LO]at h;split at h;rename_i e;split at h;rename_i g hs;simp only[cH,rX,dT,e,if_true,IQ,hs,cN];exact mq L h;cases h;cases h
def xj(t:Ty)(parts:List (Nat×Ty×TO))(d:Option Nat)(s:_v)(k:_v->Option R):Option R:=
 match tpv parts s with
 |some l=>fq t t.zero l λy=>k (bH d (.a (.dt t y)) s)
 |none=>match tpc parts s with
  |some l=>match LO l (zcs t)with
   |some cs'=>match mka O t cs' with|some v=>k (bH d v s)|none=>Y
   |none=>Y
  |none=>Y
theorem JMu(F:Orc)(_m:Nat){t:Ty}{parts:List (Nat×Ty×TO)}{d:Option Nat}{s:_v}{k:_v->Option R}{r:R}(h:xj t parts d s k=Z r):Ok (_z F (.build (_B t t.zero) (erP parts)) _m) d s k r:=by
 unfold xj at h;split at h;rename_i l e;obtain⟨y,h1,h2⟩:=S7 h;refine fN (v:=.a (.dt t y)) ?_ h2;simp only[_z,run_bind,Nj e,JF,h1,Ca,val,JY];rfl;split at h;rename_i l e;split at h;rename_i cs' hf;split at h;rename_i v g;refine fN (v:=v) ?_ h;simp only[_z,run_bind,xd e,JF,<-HT (_w s._o) t,mq (_w s._o) hf,IB (_w s._o) g,val,JY];cases h;cases h;cases h
def xk(agg:Bool)(off:Nat)(t:Ty)(v:TV)(d:Option Nat)(s:_v)(k:_v->Option R):Option R:=
 if agg=O\/t.sz=1 then
  match v with
  | .a (.dt e x)=>prt e x off [] t λy=>k (bH d (mkv agg t y) s)
  | .a (.m _ cs)=>match sub cs off t.sz with
   |some l=>match mka agg t l with|some v=>k (bH d v s)|none=>Y
   |none=>Y
  |_=>Y
 else Y
theorem JM2{agg:Bool}{off:Nat}{t:Ty}{v:TV}{d:Option Nat}{s:_v}{k:_v->Option R}{r:R}(h:xk agg off t v d s k=Z r):Ok (val (tI agg off t.sz (JX (_w s._o) v))) d s k r:=by
 unfold xk at h;split at h;rename_i n;split at h;rename_i e x;obtain⟨y,h1,h2⟩:=yR h;refine fN (v:=mkv agg t y) ?_ h2;grind [spo,tj,tI,HR,val,JY];rename_i cs;split at h;rename_i l g;split at h;rename_i v j;refine fN (v:=v) ?_ h;grind [e_m,tI,IS,IB,val,JY];cases h;cases h;cases h;cases h
end
end Go.Am
end
section
namespace Go.Am
section
variable {R:Type}
theorem kd{α:Type} [BEq α] [LawfulBEq α] [DecidableEq α](x y:α):(x==y)=decide (x=y):=by
 grind
def Vl(m:Option AV)(s:_v)(kk:TV->Option R)(r:R):Prop:= ∃v,m=Z (JX (_w s._o) v)/\kk v=Z r
theorem Vl.ok{m:Option AV}{d:Option Nat}{s:_v}{k:_v->Option R}{r:R}(h:Vl m s (λv=>k (bH d v s)) r):Ok (val m) d s k r:=by obtain⟨v,h1,h2⟩:=h;refine fN (v:=v) ?_ h2;rw[h1];rfl
def so(op:BinOp)(k:IntKind)(a c:Int)(kk:TV->Option R):Option R:=
 match op with
 | .add=>kk (vi k (J1 k a c))
 | .sub=>kk (vi k (Jm k a c))
 | .mul=>kk (vi k (cI k a c))
 | .quo=>(Ld k a c).bind λq=>kk (vi k q)
 | .rem=>(xK a c).bind λq=>kk (vi k q)
 | .and=>kk (vi k (lM k a c))
 | .or=>kk (vi k (orI k a c))
 | .xor=>kk (vi k (fE k a c))
 | .eql=>kk (vb (aL a c))
 | .neq=>kk (vb (aN a c))
 | .lss=>kk (vb (aK a c))
 | .leq=>kk (vb (aW a c))
 | .gtr=>kk (vb (aO a c))
 | .geq=>kk (vb (aP a c))
 |_=>Y
def tx(op:BinOp)(a c:List UInt8)(kk:TV->Option R):Option R:=
 match op with
 | .add=>(cP a c).bind λq=>kk (vs q)
 | .eql=>kk (vb (eqS a c))
 | .neq=>kk (vb (neS a c))
 | .lss=>kk (vb (ltS a c))
 | .leq=>kk (vb (leS a c))
 | .gtr=>kk (vb (gtS a c))
 | .geq=>kk (vb (geS a c))
 |_=>Y
inductive TBT where|plain|bool|flat (t:Ty)|nilp|nilf
def erT:TBT->BT| .plain=>.plain| .bool=>.bool| .flat t=>.flat (t.ks.getD [])| .nilp=>.nilp| .nilf=>.nilf
def pS(op:BinOp)(x:Bool)(kk:TV->Option R):Option R:=
 match op with
 | .eql=>kk (vb x)
 | .neq=>kk (vb (Jg x))
 |_=>Y
def tn(op:BinOp)(bt:TBT)(x y:TV)(kk:TV->Option R):Option R:=
 match bt with
 | .plain=>match x,y with
  | .a (.c (.d (.i k) a)),.a (.c (.d (.i j) c))=>match op with| .shl=>(qV k a c).bind λq=>kk (vi k q)| .shr=>(iA k a c).bind λq=>kk (vi k q)|_=>if k=j then so op k a c kk else Y
  | .a (.c (.d .s a)),.a (.c (.d .s c))=>tx op a c kk
  |_,_=>Y
 | .bool=>match x,y with| .a (.c (.d .b a)),.a (.c (.d .b c))=>pS op (eqB a c) kk|_,_=>Y
 | .flat t=>match x,y with| .a (.dt g a),.a (.dt e c)=>if h:g=t/\e=t/\t.ks.isSome=O then pS op (eqT t (h.1▸a) (h.2.1▸c)) kk else Y|_,_=>Y
 | .nilp=>match x with| .a (.c .np)=>pS op O kk| .a (.c (.ptr _ _))=>pS op J kk| .a (.c (.cp _ _ _))=>pS op J kk| .a (.c (.ep _ _ _))=>pS op J kk|_=>Y
 | .nilf=>match x with| .a (.c .nf)=>pS op O kk| .a (.fn _ _ _)=>pS op J kk| .a (.c (.fn _))=>pS op J kk| .a (.c (.d .f _))=>pS op O kk|_=>Y
theorem UB{op:BinOp}{x:Bool}{s:_v}{kk:TV->Option R}{r:R}(h:pS op x kk=Z r):Vl (kM op (Z x)) s kk r:=by
 unfold pS at h;split at h;exact⟨_,rfl,h⟩;exact⟨_,rfl,h⟩;cases h
theorem JQf{op:BinOp}{k:IntKind}{a c:Int}{s:_v}{kk:TV->Option R}{r:R}(h:so op k a c kk=Z r):Vl ((AK op k a c).map .p) s kk r:=by
 unfold so at h;split at h<;>first
  |exact⟨_,rfl,h⟩
  |(obtain⟨q,h1,h⟩:=bN.1 h
    refine⟨_,?_,h⟩
    first|unfold Ld at h1|unfold xK at h1
    split at h1;cases h1;rename_i e;injection h1 with h1;simp only[AK,if_neg e,h1,cN,e_i])
  |(refine⟨_,?_,h⟩;simp only[AK,kd,cN,e_b,bne,aL,aN,aK,aW,aO,aP];done)
  |cases h
theorem JS4{op:BinOp}{a c:List UInt8}{s:_v}{kk:TV->Option R}{r:R}(h:tx op a c kk=Z r):Vl ((BB op a c).map .p) s kk r:=by
 unfold tx at h;split at h<;>first
  |(obtain⟨q,h1,h⟩:=bN.1 h
    refine⟨_,?_,h⟩;unfold cP at h1;split at h1;rename_i e;injection h1 with h1;simp only[BB,if_pos e,h1,cN,e_s];cases h1)
  |(refine⟨_,?_,h⟩;simp only[BB,kd,cN,e_b,eqS,neS,ltS,leS,gtS,geS];done)
  |cases h
theorem JRn{op:BinOp}{bt:TBT}{x y:TV}{s:_v}{kk:TV->Option R}{r:R}(h:tn op bt x y kk=Z r):Vl (pP op (erT bt) (JX (_w s._o) x) (JX (_w s._o) y)) s kk r:=by
 unfold tn at h;split at h;split at h;rename_i k a g c;simp only[e_i,erT,pP];split at h;obtain⟨q,h1,h⟩:=bN.1 h;unfold qV at h1;split at h1;cases h1;rename_i e;injection h1 with h1;exact⟨_,by simp_all [e_i],h⟩;obtain⟨q,h1,h⟩:=bN.1 h;unfold iA at h1;split at h1;cases h1;rename_i e;injection h1 with h1;exact⟨_,by simp_all [e_i],h⟩;grind [JQf];exact JS4 h;cases h;split at h;rename_i a c;simp only[e_b,erT,pP,kd];exact UB h;cases h;grind [Option.isSome_iff_exists,tj,erT,pP,TI,UB];split at h<;>first|exact UB h|cases h
 split at h<;>first|exact UB h|cases h
def tUn(op:UnOp)(x:TV)(kk:TV->Option R):Option R:=
 match op,x with
 | .neg,.a (.c (.d (.i k) n))=>kk (vi k (JWh k n))
 | .xor,.a (.c (.d (.i k) n))=>kk (vi k (QT k n))
 | .not,.a (.c (.d .b x))=>kk (vb (Jg x))
 |_,_=>Y
theorem JUi{op:UnOp}{x:TV}{s:_v}{kk:TV->Option R}{r:R}(h:tUn op x kk=Z r):Vl (unP op (JX (_w s._o) x)) s kk r:=by unfold tUn at h;split at h<;>first|exact⟨_,rfl,h⟩|cases h
def tMm(mx:Bool)(x y:TV)(kk:TV->Option R):Option R:=
 match x,y with
 | .a (.c (.d (.i k) a)),.a (.c (.d (.i _) c))=>kk (vi k (if mx=O then bJ a c else fF a c))
 |_,_=>Y
theorem JUO{mx:Bool}{x y:TV}{s:_v}{kk:TV->Option R}{r:R}(h:tMm mx x y kk=Z r):Vl (mmP mx (JX (_w s._o) x) (JX (_w s._o) y)) s kk r:=by
 unfold tMm at h;split at h;exact⟨_,by cases mx<;>rfl,h⟩;cases h
def tls(t:Ty)(v:TV)(s:_v):Option (List t.D):=
 match v with
 | .a (.c (.d (.l t') l))=>if h:t'=t then Z (h▸l)else Y
 | .a (.c (.d .s l))=>if h:t=.i .u8 then Z (h▸(aS l:List (Ty.i .u8).D))else Y
 | .a (.c (._r b))=>match s._o[b]? with|some (.arr _ t' _f)=>if h:t'=t then Z (h▸_f)else Y|_=>Y
 | .a (.c (.suf b i))=>match s._o[b]? with|some (.arr _ t' _f)=>if h:t'=t then Z (h▸_f.drop i)else Y|_=>Y
 |_=>Y
theorem xp{t:Ty}{v:TV}{s:_v}{l:List t.D}(h:tls t v s=Z l):(gO t.sz (JX (_w s._o) v)).run (JD s)=Z (l.map (_B t)):=by
 unfold tls at h;split at h;grind [e_l,gO,JY];split at h;rename_i g;subst g;cases h;simp only[e_s,gO,Ty.sz,if_true,JY,ky];rfl;cases h;rename_i b;split at h;rename_i w t' _f hb;split at h;rename_i g;subst g;cases h;simp only[fL,gO,dR,dW,hb,cN,JF,bB,hJ hb,dT,pV,and_self,if_true,JY,FU];cases h;cases h;rename_i b i;split at h;rename_i w t' _f hb;split at h;rename_i g;subst g;cases h;have e:JX (_w s._o) (.a (.c (.suf b i)))=._r b (min i (_w s._o b)) (_w s._o b-i):=rfl;have k:min i _f.length+(_f.length-i)=_f.length:=by omega
 have j:(_f.map (_B t')).drop (min i _f.length)=(_f.map (_B t')).drop i:=(by rcases Nat.le_total i _f.length with h|h;rw[Nat.min_eq_left h];rw[Nat.min_eq_right h,List.drop_of_length_le (by simp),List.drop_of_length_le (by simpa using h)]);simp only[e,gO,dR,dW,hb,cN,JF,bB,hJ hb,dT,k,and_self,if_true,JY,j,List.map_drop];cases h;cases h;cases h
def ux(k:CK)(x:TV)(d:Option Nat)(_m:Nat)(s:_v)(kk:_v->Option R):Option R:=
 match k with
 | .int k=>match x with| .a (.c (.d (.i _) n))=>kk (bH d (vi k (aT k n)) s)|_=>Y
 | .same=>match x with| .a (.c (.d .s l))=>kk (bH d (vs l) s)|_=>Y
 | ._D=>match tls (.i .u8) x s with|some l=>kk (bH d (vs (_D l)) s)|none=>Y
 | .toBytes own=>match x with| .a (.c (.d .s l))=>if own=O then kk (bH d (.a (.c (._r _m))) (wN _m (.arr O (.i .u8) (aS l)) s))else kk (bH d (vl (.i .u8) (aS l)) s)|_=>Y
theorem JOh(F:Orc){k:CK}{x:TO}{v:TV}{d:Option Nat}{_m:Nat}{s:_v}{kk:_v->Option R}{r:R}(hx:tev x s=Z v)(hn:k=.toBytes O->_m<s._o.length)(h:ux k v d _m s kk=Z r):Ok (_z F (.conv k (erO x)) _m) d s kk r:=by
 unfold ux at h;split at h;split at h;refine fN (v:=vi _ _) ?_ h;simp only[_z,run_bind,bV hx,JF,e_i,JY,aT];cases h;split at h;refine fN (v:=vs _) ?_ h;grind [_z,run_bind,bV,e_s,JY];cases h;split at h;rename_i l j;refine fN (v:=vs _) ?_ h;have:=xp j;have e:l.map (_B (.i .u8))=l.map (r_i .u8):=rfl;rw[e]at this;simp only[_z,run_bind,bV hx,JF,this,od,e_s,JY,Ty.sz];rw[show(gO 1 (JX (_w s._o) v)).run (JD s)=Z (l.map (r_i .u8))from this];simp[od];cases h;rename_i own;split at h;rename_i l;split at h;rename_i g;subst g;refine us (x:=.arr O (.i .u8) (aS l)) (v:=.a (.c (._r _m))) ?_ h;simp only[_z,run_bind,bV hx,JF,e_s,if_true,JY,fL,bB,ky];have e:_w (wN _m (TB.arr O (Ty.i IntKind.u8) (aS l)) s)._o _m=l.length:=(by grind [wN,xa,lnB,aS]);rw[e];rfl;rename_i g;have:own=J:=by simpa using g
 subst this;refine fN (v:=vl _ _) ?_ h;simp only[_z,run_bind,bV hx,JF,e_s,fJ,if_false,JY,e_l,ky];rfl;cases h
end
end Go.Am
end
section
namespace Go.Am
section
variable {R:Type}
theorem O6(p q:List Sp):spo (p++q)=spo p+spo q:=by
 induction p with
 |nil=>simp[spo]
 |cons x p ih=>cases x<;>simp only[nP,spo,ih]<;>omega
def xn(off:Nat)(x:TV)(kk:TV->Option R):Option R:=
 match x with
 | .a (.c (.ptr b p))=>kk (.a (.c (.ptr b (p++[.f off]))))
 | .a (.c (.cp t x p))=>kk (.a (.c (.cp t x (p++[.f off]))))
 | .a (.c (.ep b i p))=>kk (.a (.c (.ep b i (p++[.f off]))))
 |_=>Y
theorem JMi{off:Nat}{x:TV}{s:_v}{kk:TV->Option R}{r:R}(h:xn off x kk=Z r):Vl (MS off (JX (_w s._o) x)) s kk r:=by
 unfold xn at h;split at h<;>first
  |(refine⟨_,?_,h⟩;simp only[lR,nZ,mL,MS,O6,spo,uW];done)
  |cases h
def xw(len _l:Nat)(x i:TV)(kk:TV->Option R):Option R:=
 match i with
 | .a (.c (.d (.i _) n))=>(aR len n).bind λ_=>match x with| .a (.c (.ptr b p))=>kk (.a (.c (.ptr b (p++[.a n.toNat _l]))))| .a (.c (.cp t x p))=>kk (.a (.c (.cp t x (p++[.a n.toNat _l]))))| .a (.c (.ep b i p))=>kk (.a (.c (.ep b i (p++[.a n.toNat _l]))))|_=>Y
 |_=>Y
theorem JMz{len _l:Nat}{x i:TV}{s:_v}{kk:TV->Option R}{r:R}(h:xw len _l x i kk=Z r):Vl (MR len _l (JX (_w s._o) x) (JX (_w s._o) i)) s kk r:=by
 unfold xw at h;split at h;obtain⟨_,h1,h⟩:=bN.1 h;have e:=jp h1;split at h<;>first
  |(refine⟨_,?_,h⟩;simp only[lR,nZ,mL,e_i,MR,if_pos e,O6,spo,uW];done)
  |cases h
 cases h
def xi(t:Ty)(x i:TV)(s:_v)(kk:TV->Option R):Option R:=
 match i with
 | .a (.c (.d (.i _) n))=>match x with
  | .a (.c (.d (.l t') l))=>if t'=t then(idx l n).bind λy=>kk (.a (.c (.cp t' y [])))else Y
  | .a (.c (._r b))=>match s._o[b]? with|some (.arr _ t' _f)=>if t'=t then(aR _f.length n).bind λ_=>kk (.a (.c (.ep b n.toNat [])))else Y|_=>Y
  | .a (.c (.suf b j))=>match s._o[b]? with|some (.arr _ t' _f)=>if t'=t then(aR (Nat.sub _f.length j) n).bind λ_=>kk (.a (.c (.ep b (Nat.add j n.toNat) [])))else Y|_=>Y
  |_=>Y
 |_=>Y
theorem JLW{t:Ty}{x i:TV}{d:Option Nat}{s:_v}{k:_v->Option R}{r:R}(h:xi t x i s (λv=>k (bH d v s))=Z r):Ok (mS t.sz (JX (_w s._o) x) (JX (_w s._o) i)) d s k r:=by
 unfold xi at h;split at h;split at h;split at h;rename_i g;subst g;obtain⟨y,h1,h⟩:=bN.1 h;refine fN (v:=.a (.c (.cp _ y []))) ?_ h;grind [e_l,e_i,nZ,mS,JLR,JY,spo];cases h;rename_i b;split at h;rename_i w t' _f hb;split at h;rename_i g;subst g;obtain⟨_,h1,h⟩:=bN.1 h;have g:=jp h1;refine fN (v:=.a (.c (.ep b _ []))) ?_ h;simp only[fL,e_i,mL,mS,dR,dW,hb,cN,JF,bB,hJ hb,dT,pV,true_and];rw[if_pos g];rfl;cases h;cases h;rename_i b j;split at h;rename_i w t' _f hb;split at h;rename_i g;subst g;obtain⟨_,h1,h⟩:=bN.1 h;have g:=jp h1;rw[show _f.length.sub j=_f.length-j from rfl]at g;refine fN (v:=.a (.c (.ep b _ []))) ?_ h;have e:JX (_w s._o) (.a (.c (.suf b j)))=._r b (min j (_w s._o b)) (_w s._o b-j):=rfl;have n:min j _f.length=j:=by omega
 have o:j+(_f.length-j)=_f.length:=by omega
 simp only[e,e_i,mL,mS,dR,dW,hb,cN,JF,bB,hJ hb,dT,n,o,true_and];rw[if_pos g];rfl;cases h;cases h;cases h;cases h
def vt(x i:TV)(kk:TV->Option R):Option R:=
 match x,i with
 | .a (.c (.d .s l)),.a (.c (.d (.i _) n))=>(mK l n).bind λu=>kk (vi .u8 u)
 |_,_=>Y
theorem JPP(F:Orc){x i:TO}{g e:TV}{d:Option Nat}{_m:Nat}{s:_v}{k:_v->Option R}{r:R}(hx:tev x s=Z g)(hi:tev i s=Z e)(h:vt g e (λv=>k (bH d v s))=Z r):Ok (_z F (.sidx (erO x) (erO i)) _m) d s k r:=by
 unfold vt at h;split at h
 ·rename_i l o n;obtain⟨u,h1,h⟩:=bN.1 h;refine fN (v:=vi .u8 u) ?_ h;simp only[_z,run_bind,bV hx,bV hi,JF,e_s,e_i];unfold mK at h1;split at h1
  ·rename_i j;rw[if_pos j];split at h1
   all_goals simp_all
  cases h1
 cases h
def du(j:Int)(k:Nat->Option R):Nat->Option R|0=>Y|m+1=>if aL j m=O then k m else du j k m
theorem P0{j:Int}{k:Nat->Option R}{r:R}: ∀{n:Nat},du j k n=Z r-> ∃m,m<n/\j=m/\k m=Z r
 |0,h=>by cases h
 |n+1,h=>by
  simp only[du]at h;split at h;grind [aL];obtain⟨m,h1,h2,e⟩:=P0 h;grind
def u6(agg:Bool)(len:Nat)(t:Ty)(x i:TV)(d:Option Nat)(s:_v)(k:_v->Option R):Option R:=
 if agg=O\/t.sz=1 then
  match x,i with
  | .a (.dt (.ar n t') v),.a (.c (.d (.i _) j))=>if h:t'=t/\n=len then(sm v j).bind λy=>k (bH d (mkv agg t (h.1▸y)) s)else Y
  | .a (.m _ cs),.a (.c (.d (.i _) j))=>du j (λm=>match sub cs (m*t.sz) t.sz with
   |some l=>match mka agg t l with|some v=>k (bH d v s)|none=>Y
   |none=>Y) len
  |_,_=>Y
 else Y
theorem JOF(F:Orc){agg:Bool}{len:Nat}{t:Ty}{x i:TO}{o g:TV}{d:Option Nat}{_m:Nat}{s:_v}{k:_v->Option R}{r:R}(hx:tev x s=Z o)(hi:tev i s=Z g)(h:u6 agg len t o g d s k=Z r):
  Ok (_z F (.aidx agg len t.sz (erO x) (erO i)) _m) d s k r:=by
 unfold u6 at h;split at h;rename_i D;split at h;rename_i n t' v w j;split at h;rename_i z;obtain⟨rfl,rfl⟩:=z;obtain⟨y,h1,h⟩:=bN.1 h;obtain⟨h2,e⟩:=JNo h1;refine fN (v:=mkv agg t' y) ?_ h;simp only[_z,run_bind,bV hx,bV hi,JF,tj,e_i,if_pos h2,tI];grind [_B,NF,eU,HR,val,JY];cases h;rename_i C cs w j;obtain⟨m,h1,q,e⟩:=P0 h;clear h;subst q;split at e;rename_i l A;split at e;rename_i v B;refine fN (v:=v) ?_ e;have h2:(0:Int)<=m/\(m:Int)<len:=by omega
 simp only[_z,run_bind,bV hx,bV hi,JF,e_m,e_i,if_pos h2,tI,_U,IS,A,cN,IB (_w s._o) B,val,JY];cases e;cases e;cases h;cases h
def uy(x:TV)(i:Nat)(kk:TV->Option R):Option R:=
 match x with
 | .tup vs=>match vs[i]? with|some v=>kk (.a v)|none=>Y
 |_=>Y
theorem JPC{x:TV}{i:Nat}{s:_v}{kk:TV->Option R}{r:R}(h:uy x i kk=Z r):Vl (gx i (JX (_w s._o) x)) s kk r:=by
 unfold uy at h;split at h;split at h;rename_i v e;refine⟨_,?_,h⟩;simp_all [JX];cases h;cases h
def uh(str:Bool)(x:TV)(s:_v)(kk:TV->Option R):Option R:=
 match str,x with
 |true,.a (.c (.d .s l))=>kk (vi I (J0 l))
 |false,.a (.c (.d (.l _) l))=>kk (vi I (J0 l))
 |false,.a (.c (._r b))=>match s._o[b]? with|some (.arr _ _ _f)=>kk (vi I (J0 _f))|_=>Y
 |false,.a (.c (.slo _ n))=>kk (vi I n)
 |false,.a (.c (.suf b j))=>match s._o[b]? with|some (.arr _ _ _f)=>kk (vi I (Int.ofNat (Nat.sub _f.length j)))|_=>Y
 |_,_=>Y
theorem JQp{str:Bool}{x:TV}{s:_v}{kk:TV->Option R}{r:R}(h:uh str x s kk=Z r):Vl (QP str (JX (_w s._o) x)) s kk r:=by
 unfold uh at h;split at h;exact⟨_,rfl,h⟩;exact⟨_,by simp[e_l,e_i,J0],h⟩;split at h;rename_i hb;exact⟨_,by grind [fL,QP,hJ,e_i,J0],h⟩;cases h;exact⟨_,rfl,h⟩;rename_i b j;split at h;rename_i w t' _f hb;refine⟨_,?_,h⟩;have e:JX (_w s._o) (.a (.c (.suf b j)))=._r b (min j (_w s._o b)) (_w s._o b-j):=rfl;rw[e,hJ hb];rfl;cases h;cases h
theorem NP{s:_v}{_m:Nat}(hn:_m<s._o.length){w:Bool}{t:Ty}{_f:List t.D}:_w (wN _m (TB.arr w t _f) s)._o _m=_f.length:=by unfold wN;rw[xa (by simpa using hn)];rfl
theorem xr{m:RM Eff}{d:Option Nat}{s:_v}{k:_v->Option R}{r:R}{_m:Nat}{t:Ty}{_f:List t.D}(hn:_m<s._o.length)
  (hm:m.run (JD s)=Z ⟨._r _m 0 _f.length,[(_m,.arr O t.sz (_f.map (_B t)))]⟩) (h:k (bH d (.a (.c (._r _m))) (wN _m (.arr O t _f) s))=Z r):Ok m d s k r:=by
 refine us (x:=.arr O t _f) (v:=.a (.c (._r _m))) ?_ h;rw[hm,fL,NP hn];rfl
def kw(own:Bool)(t:Ty)(bytes:Nat)(l c:TV)(d:Option Nat)(_m:Nat)(s:_v)(k:_v->Option R):Option R:=
 match l,c with
 | .a (.c (.d (.i _) n)),.a (.c (.d (.i _) m))=>(mkS bytes n m t.zero).bind λ_f=>
  if own=O then k (bH d (.a (.c (._r _m))) (wN _m (.arr O t _f) s))else k (bH d (vl t _f) s)
 |_,_=>Y
theorem JH7(F:Orc){own:Bool}{t:Ty}{bytes:Nat}{l c:TO}{e n:TV}{d:Option Nat}{_m:Nat}{s:_v}{k:_v->Option R}{r:R}(hl:tev l s=Z e)(hc:tev c s=Z n)(hn:own=O->_m<s._o.length)
  (h:kw own t bytes e n d _m s k=Z r):Ok (_z F (._E own t.sz bytes (_B t t.zero) (erO l) (erO c)) _m) d s k r:=by
 unfold kw at h;split at h;obtain⟨_f,h1,j⟩:=bN.1 h;obtain⟨h2,rfl⟩:=JRN h1;clear h;split at j;rename_i g;subst g;refine xr (hn rfl) ?_ j;simp only[_z,run_bind,bV hl,bV hc,JF,e_i,if_pos h2,if_true,JY,BN,dq];rename_i g;have:own=J:=by simpa using g
 subst this;refine fN (v:=vl t _) ?_ j;simp only[_z,run_bind,bV hl,bV hc,JF,e_i,if_pos h2,fJ,if_false,JY,e_l,dq];cases h
def se(t:Ty)(bytes:Nat)(x y:TV)(d:Option Nat)(s:_v)(k:_v->Option R):Option R:=
 match x with
 | .a (.c (._r b))=>match s._o[b]? with
  |some (.arr w t' _f)=>if h:t'=t then
   match tls t' y s with
   |some l=>(Jr bytes _f l).bind λm=>k (bH d (.a (.c (._r b))) (wN b (.arr w t' m) s))
   |none=>Y
   else Y
  |_=>Y
 |_=>Y
theorem JS2{t:Ty}{bytes:Nat}{x y:TV}{d:Option Nat}{s:_v}{k:_v->Option R}{r:R}(h:se t bytes x y d s k=Z r):Ok (kJ t.sz bytes (JX (_w s._o) x) (JX (_w s._o) y)) d s k r:=by
 unfold se at h;split at h;rename_i b;split at h;rename_i w t' _f hb;split at h;rename_i g;subst g;split at h;rename_i l j;obtain⟨m,h1,h⟩:=bN.1 h;refine us (x:=.arr w t' m) (v:=.a (.c (._r b))) ?_ h;have e:(JD s)._o[b]?=Z (.arr w t'.sz (_f.map (_B t'))):=by rw[dW,hb];rfl
 have:=JRv h1 e (xp j);rw[fL,hJ hb,this,fL,NP (JA hb)];rfl;cases h;cases h;cases h;cases h
def vp(t:Ty)(x lo:TV)(d:Option Nat)(s:_v)(k:_v->Option R):Option R:=
 match x,lo with
 | .a (.c (._r b)),.a (.c (.d (.i _) n))=>match s._o[b]? with|some (.arr _ t' _f)=>if t'=t then(xL n _f.length).bind λj=>k (bH d (.a (.c (.suf b j))) s)else Y|_=>Y
 |_,_=>Y
theorem JPv{t:Ty}{x lo:TV}{d:Option Nat}{s:_v}{k:_v->Option R}{r:R}(h:vp t x lo d s k=Z r):Ok (vA t.sz (JX (_w s._o) x) (JX (_w s._o) lo)) d s k r:=by
 unfold vp at h;split at h;rename_i b q n;split at h;rename_i w t' _f hb;split at h;rename_i ht;subst ht;obtain⟨j,h1,h⟩:=bN.1 h;unfold xL at h1;split at h1;rename_i g;cases h1;refine fN (v:=.a (.c (.suf b n.toNat))) ?_ h;have e:JX (_w s._o) (.a (.c (.suf b n.toNat)))=._r b (min n.toNat (_w s._o b)) (_w s._o b-n.toNat):=rfl;have o:min n.toNat _f.length=n.toNat:=Nat.min_eq_left (by omega);simp only[e,fL,e_i,vA,dR,dW,hb,cN,JF,bB,hJ hb,dT,pV,true_and,g,and_self,if_true,JY,o];cases h1;cases h;cases h;cases h
def tu(t:Ty)(x hi:TV)(d:Option Nat)(_m:Nat)(s:_v)(k:_v->Option R):Option R:=
 match x,hi with
 | .a (.c (._r b)),.a (.c (.d (.i _) n))=>match s._o[b]? with|some (.arr O t' _f)=>if t'=t then(AQ n _f.length).bind λj=>k (bH d (.a (.c (._r _m))) (wN _m (.arr O t' (_f.take j)) (wN b (.arr J t' (_f++[t'.zero])) s)))else Y|_=>Y
 |_,_=>Y
theorem JRe{t:Ty}{x hi:TV}{d:Option Nat}{_m:Nat}{s:_v}{k:_v->Option R}{r:R}(hn:_m<s._o.length)(h:tu t x hi d _m s k=Z r):Ok (QO t.sz (_B t t.zero) _m (JX (_w s._o) x) (JX (_w s._o) hi)) d s k r:=by
 unfold tu at h;split at h;rename_i b v n;split at h;rename_i t' _f hb;split at h;rename_i ht;subst ht;obtain⟨j,h1,h⟩:=bN.1 h;unfold AQ at h1;split at h1;rename_i o;cases h1;have e:_m<(wN b (.arr J t' (_f++[t'.zero])) s)._o.length:=by simpa[wN]using hn
 refine⟨⟨._r _m 0 n.toNat,[(b,.arr J t'.sz ((_f++[t'.zero]).map (_B t'))),(_m,.arr O t'.sz ((_f.take n.toNat).map (_B t')))]⟩,_,?_,?_,h⟩;simp only[fL,e_i,QO,dR,dW,hb,cN,JF,bB,hJ hb,dT,true_and,o,and_self,if_true,JY];simp[Ky];have g:=HM _m (.arr O t' (_f.take n.toNat)) (wN b (.arr J t' (_f++[t'.zero])) s);rw[HM b (.arr J t' (_f++[t'.zero])) s]at g;have q:JX (_w (wN _m (.arr O t' (_f.take n.toNat)) (wN b (.arr J t' (_f++[t'.zero])) s))._o) (.a (.c (._r _m)))=._r _m 0 n.toNat:=by
  rw[fL,NP e,mN]
  congr 1
  omega
 rw[<-q];exact oH g d _;cases h1;cases h;cases h;cases h
def sx(t:Ty)(x:TV)(d:Option Nat)(_m:Nat)(s:_v)(k:_v->Option R):Option R:=
 match x with
 | .a (.c (._r b))=>match s._o[b]? with|some (.arr O t' _f)=>if t'=t then k (bH d (.a (.c (._r _m))) (wN _m (.arr O t' _f) (wN b (.arr J t' (_f++[t'.zero])) s)))else Y|_=>Y
 |_=>Y
theorem JRl{t:Ty}{x:TV}{d:Option Nat}{_m:Nat}{s:_v}{k:_v->Option R}{r:R}(hn:_m<s._o.length)(h:sx t x d _m s k=Z r):Ok (PH t.sz (_B t t.zero) _m (JX (_w s._o) x)) d s k r:=by
 unfold sx at h;split at h;rename_i b;split at h;rename_i t' _f hb;split at h;rename_i ht;subst ht;have e:_m<(wN b (.arr J t' (_f++[t'.zero])) s)._o.length:=by simpa[wN]using hn
 refine⟨⟨._r _m 0 _f.length,[(b,.arr J t'.sz ((_f++[t'.zero]).map (_B t'))),(_m,.arr O t'.sz (_f.map (_B t')))]⟩,_,?_,?_,h⟩;simp only[fL,PH,dR,dW,hb,cN,JF,bB,hJ hb,dT,and_self,if_true,JY];simp;have g:=HM _m (.arr O t' _f) (wN b (.arr J t' (_f++[t'.zero])) s);rw[HM b (.arr J t' (_f++[t'.zero])) s]at g;have j:JX (_w (wN _m (.arr O t' _f) (wN b (.arr J t' (_f++[t'.zero])) s))._o) (.a (.c (._r _m)))=._r _m 0 _f.length:=by rw[fL,NP e]
 rw[<-j];exact oH g d _;cases h;cases h;cases h
def GP(t:Ty)(i:Nat)(l:List t.D):Option (List t.D):=if i<=l.length then Z (l.take i++_J (l.length-i) t.zero)else Y
def s8(t:Ty)(x:TV)(d:Option Nat)(s:_v)(k:_v->Option R):Option R:=
 match x with
 | .a (.c (.suf b i))=>match s._o[b]? with|some (.arr O t' _f)=>if t'=t then(GP t' i _f).bind λm=>k (bH d (.tup []) (wS b (.arr O t' m) s))else Y|_=>Y
 |_=>Y
theorem JQW{t:Ty}{x:TV}{d:Option Nat}{s:_v}{k:_v->Option R}{r:R}(h:s8 t x d s k=Z r):Ok (PT t.sz (_B t t.zero) (JX (_w s._o) x)) d s k r:=by
 unfold s8 at h;split at h;rename_i b i;split at h;rename_i t' _f hb;split at h;rename_i ht;subst ht;obtain⟨m,h1,h⟩:=bN.1 h;unfold GP at h1;split at h1;rename_i hi;injection h1 with h1;have g:m.length=_f.length:=by rw[<-h1,qZ,mN,BN];omega
 have j:=yB (b:=b) (x:=.arr O t' m) (s:=s) (by rw[hJ hb];exact g);refine⟨⟨.tup [],[(b,.arr O t'.sz (m.map (_B t')))]⟩,_,?_,?_,h⟩;have e:JX (_w s._o) (.a (.c (.suf b i)))=._r b i (_w s._o b-i):=(by show AV._r b (min i (_w s._o b)) (_w s._o b-i)=_;rw[hJ hb,Nat.min_eq_left hi]);simp only[e,PT,dR,dW,hb,cN,JF,bB,hJ hb,dT,true_and];rw[if_pos (by omega)];simp[JY,<-h1,Ky];exact oH (s1:=wS b (.arr O t' m) s) j d (.tup []);cases h1;cases h;cases h;cases h
def u7(t:Ty)(bytes:Nat)(y:TV)(d:Option Nat)(_m:Nat)(s:_v)(k:_v->Option R):Option R:=
 match tls t y s with
 |some l=>(bG bytes l).bind λm=>k (bH d (.a (.c (._r _m))) (wN _m (.arr O t m) s))
 |none=>Y
theorem JNO(F:Orc){t:Ty}{bytes:Nat}{z:List PV}{y:TO}{e:TV}{d:Option Nat}{_m:Nat}{s:_v}{k:_v->Option R}{r:R}(hy:tev y s=Z e)(hn:_m<s._o.length)(h:u7 t bytes e d _m s k=Z r):Ok (_z F (.appn t.sz bytes z (erO y)) _m) d s k r:=by
 unfold u7 at h;split at h;rename_i l g;obtain⟨m,h1,j⟩:=bN.1 h;obtain⟨h2,rfl⟩:=JNj h1;refine xr hn ?_ j;simp only[_z,run_bind,bV hy,JF,xp g,dT,h2,if_true,JY];cases h
def tbn(x:Option TO)(s:_v):Option (Option (IntKind×Int)):=
 match x with
 |none=>Z Y
 |some o=>match tev o s with|some (.a (.c (.d (.i k) n)))=>Z (Z (k,n))|_=>Y
def bv(x:Option (IntKind×Int)):Option AV:=x.map λy=>.p (.i y.1 y.2)
theorem HQ{x:Option TO}{s:_v}{y:Option (IntKind×Int)}(h:tbn x s=Z y):(evo (x.map erO)).run (JD s)=Z (bv y):=by
 cases x with
 |none=>cases h;rfl
 |some o=>
  simp only[tbn]at h;split at h;rename_i k n e;cases h;simp only[cN,evo,run_bind,bV e,JF,JY,bv,e_i];cases h
theorem JU6(x:Option (IntKind×Int))(top d:Nat):oL (bv x) top d=GF (x.map (·.2)) top d:=by cases x<;>rfl
theorem Nb(n:Nat)(lo hi:Option (IntKind×Int)):pN n (bv lo) (bv hi)=AY n (lo.map (·.2)) (hi.map (·.2)):=by
 grind [pN,AY,JU6]
inductive TSK where|str|sl (t:Ty)
def erK:TSK->SK| .str=>.str| .sl t=>.sl t.sz
def r9(t:Ty)(x:TV)(s:_v)(kk:List t.D->_v->Option R):Option R:=
 match x with
 | .a (.c (.d (.l t') l))=>if h:t'=t then kk (h▸l) s else Y
 | .a (.c (._r b))=>match s._o[b]? with|some (.arr _ t' _f)=>if h:t'=t then kk (h▸_f) (wS b (.arr J t' _f) s)else Y|_=>Y
 |_=>Y
theorem JRB{t:Ty}{x:TV}{s:_v}{kk:List t.D->_v->Option R}{r:R}(h:r9 t x s kk=Z r):
  ∃l s' ws,Fzd s s' ws/\kk l s'=Z r/\((JX (_w s._o) x=.p (.sl t.sz (l.map (_B t)))/\ws=[])\/
   ∃b,JX (_w s._o) x=._r b 0 l.length/\(fz (._r b 0 l.length)).run (JD s)=Z ([.sl t.sz (l.map (_B t))],ws)):=by
 unfold r9 at h;split at h;grind [Fzd.refl,e_l];rename_i b;split at h;rename_i w t' _f hb;split at h;rename_i e;subst e;refine⟨_,_,_,jy hb,h,.inr ⟨b,by rw[fL,hJ hb],?_⟩⟩;simp_all [dW,bB];cases h;cases h;cases h
def wl(e:TSK)(x:TV)(lo hi mx:Option (IntKind×Int))(d:Option Nat)(s:_v)(k:_v->Option R):Option R:=
 match e with
 | .str=>match x,mx with| .a (.c (.d .s l)),Y=>(aU l (lo.map (·.2)) (hi.map (·.2))).bind λq=>k (bH d (vs q) s)|_,_=>Y
 | .sl t=>r9 t x s λl s1=>match mx with|none=>(aU l (lo.map (·.2)) (hi.map (·.2))).bind λq=>k (bH d (vl t q) s1)|some (_,n)=>match lo,hi with|none,Z (_,h)=>if h=l.length/\n=l.length then k (bH d (.a (.c (.sc t l))) s1)else Y|_,_=>Y
theorem Pc{α:Type}{l q:List α}{lo hi:Option Int}(h:aU l lo hi=Z q): ∃c,AY l.length lo hi=Z c/\q=(l.drop c.1).take (c.2-c.1):=by
 grind [aU]
theorem JMj(F:Orc){n:TSK}{x:TO}{j:TV}{lo hi mx:Option TO}{l g m:Option (IntKind×Int)}{d:Option Nat}{_m:Nat}{s:_v}{k:_v->Option R}{r:R}(hx:tev x s=Z j)(hl:tbn lo s=Z l)(hh:tbn hi s=Z g)(hm:tbn mx s=Z m)
  (h:wl n j l g m d s k=Z r):Ok (_z F (.slice (erK n) (erO x) (lo.map erO) (hi.map erO) (mx.map erO)) _m) d s k r:=by
 unfold wl at h;split at h;split at h;rename_i z;obtain⟨q,h1,h⟩:=bN.1 h;obtain⟨c,hc,rfl⟩:=Pc h1;refine fN (v:=vs _) ?_ h;have o:bv Y=Y:=rfl;simp only[_z,run_bind,bV hx,HQ hl,HQ hh,HQ hm,JF,e_s,erK,o,lX,yP,val,Nb,hc,JY];cases h;rename_i t;obtain⟨y,s1,ws,f,h,B⟩:=JRB h;have e: ∀(res:AV),lX (.sl t.sz) (.p (.sl t.sz (y.map (_B t)))) (bv l) (bv g) (bv m)=Z res->
   (_z F (.slice (erK (.sl t)) (erO x) (lo.map erO) (hi.map erO) (mx.map erO)) _m).run (JD s)=Z ⟨res,ws⟩:=by
  intro res A;simp only[_z,run_bind,bV hx,HQ hl,HQ hh,HQ hm,JF,erK];grind [val,JY,run_bind]
 split at h;obtain⟨q,h2,h⟩:=bN.1 h;obtain⟨c,hc,rfl⟩:=Pc h2;refine wy (v:=vl t _) f (e _ ?_) h;grind [bv,lX,yN,Nb,e_l,List.map_take,List.map_drop];split at h;split at h;rename_i w;refine wy (v:=.a (.c (.sc t y))) f (e _ ?_) h;simp only[bv,Option.map_none,cN,lX,gp,dT,w,and_self,if_true];rfl;cases h;cases h
end
end Go.Am
end
section
namespace Go.Am
section
variable {R:Type}
def cv(t:Ty):List (Nat×TO)->_v->_v->(List (Nat×t.D)->_v->Option R)->Option R|[],_,s,k=>k [] s|(i,o)::r,s0,s,k=>match tev o s0 with|some v=>tfz t v s λz s'=>cv t r s0 s' λl e=>k ((i,z)::l) e|none=>Y
theorem Qj{t:Ty}: ∀{parts:List (Nat×TO)} {s0 s:_v} {w0:List (Nat×_x)} {k:List (Nat×t.D)->_v->Option R} {r:R},Fzd s0 s w0->cv t parts s0 s k=Z r->
  ∃l s' ws,(fzs (parts.map λx=>erO x.2)).run (JD s0)=Z (l.map λx=>_B t x.2,ws)/\Fzd s0 s' (w0++ws)/\l.map (·.1)=parts.map (·.1)/\k l s'=Z r
 |[],s0,s,w0,k,r,f,h=>⟨[],s,[],rfl,by simp_all,rfl,h⟩
 |(i,o)::q,s0,s,w0,k,r,f,h=>by
  simp only[cv]at h;split at h;rename_i v w;obtain⟨z,s1,j,h1,e,h⟩:=Ns f h;obtain⟨l,g,y,h2,A,n,h⟩:=Qj e h;refine⟨(i,z)::l,g,j++y,?_,by simp_all,by simp[n],h⟩;simp only[cH,fzs,run_bind,bV w,JF,h1,h2,JY];cases h
def SS{α:Type}:List (Nat×α)->List α->Option (List α)|[],_f=>Z _f|(i,c)::r,_f=>if i<_f.length then SS r (_f.set i c)else Y
theorem Ae{t:Ty}: ∀{l:List (Nat×t.D)} {_f rows':List t.D},SS l _f=Z rows'->
  DC t.sz ((l.map (·.1)).zip (l.map λx=>_B t x.2)) (_f.map (_B t))=Z (rows'.map (_B t))/\rows'.length=_f.length
 |[],_f,rows',h=>by injection h with h;simp_all
 |(i,c)::q,_f,rows',h=>by
  simp only[SS]at h;split at h;rename_i e;obtain⟨h1,h2⟩:=Ae h;simp_all [eU];cases h
def u0(own:Bool)(t:Ty)(n:Nat)(parts:List (Nat×TO))(d:Option Nat)(_m:Nat)(s:_v)(k:_v->Option R):Option R:=
 cv t parts s s λl s1=>match SS l (_J n t.zero)with|some _f=>if own=O then k (bH d (.a (.c (._r _m))) (wN _m (.arr O t _f) s1))else k (bH d (vl t _f) s1)|none=>Y
theorem JO3(F:Orc){own:Bool}{t:Ty}{n:Nat}{parts:List (Nat×TO)}{d:Option Nat}{_m:Nat}{s:_v}{k:_v->Option R}{r:R}(hn:own=O->_m<s._o.length)
  (h:u0 own t n parts d _m s k=Z r):Ok (_z F (.lits own t.sz n (_B t t.zero) (parts.map λx=>(x.1,erO x.2))) _m) d s k r:=by
 unfold u0 at h;obtain⟨l,s1,ws,h1,f,h2,e⟩:=Qj (Fzd.refl s) h;rw[rD]at f;clear h;split at e;rename_i _f o;obtain⟨j,q⟩:=Ae o;rw[BN]at q;rw[dq]at j;have z:(parts.map λx=>(x.1,erO x.2)).map (·.2)=parts.map λx=>erO x.2:=by simp
 have y:(parts.map λx=>(x.1,erO x.2)).map (·.1)=l.map (·.1):=by rw[h2];simp
 split at e;rename_i g;subst g;have w:_m<s1._o.length:=(by have:=congrArg (λst=>st._o.length) f.2.2.1;grind [JD,CU]);refine⟨⟨JX (_w (wN _m (.arr O t _f) s1)._o) (.a (.c (._r _m))),ws++[(_m,.arr O t.sz (_f.map (_B t)))]⟩,_,?_,oH ?_ d _,e⟩;grind [fL,NP,_z,run_bind,JY];rw[HM,f.2.2.1,fM];rfl;rename_i g;have:own=J:=by simpa using g
 subst this;refine wy (v:=vl t _f) f ?_ e;grind [_z,run_bind,JY,e_l];cases e
def qA(s:_v):Nat->Nat->Bool
 |_,0=>O
 |_m,k+1=>(match s._o[_m]? with
  |some .dead=>O
  |_=>J)&&qA s (_m+1) k
theorem Rm{s:_v}: ∀{k _m:Nat},qA s _m k=O->(vL _m k).run (JD s)=Z ()
 |0,_,_=>rfl
 |k+1,_m,h=>by
  simp only[qA,aX]at h;obtain⟨h1,h2⟩:=h;split at h1;rename_i hd;simp only[vL,dR,dW,hd,cN,JF,bB];exact Rm h2;cases h1
theorem yW{s:_v}: ∀{k _m:Nat},qA s _m k=O-> ∀j,j<k->s._o[_m+j]?=Z .dead
 |0,_,_,j,hj=>by omega
 |k+1,_m,h,j,hj=>by
  simp only[qA,aX]at h;obtain⟨h1,h2⟩:=h;cases j with
  |zero=>
   grind
  |succ j=>
   have:=yW h2 j (by omega);grind
theorem j3{m:RM Eff}{d:Option Nat}{s:_v}{k:_v->Option R}{r:R}{_m:Nat}{x:TB}(hd:s._o[_m]?=Z .dead)(h0:lnB x=0)
  (hm:m.run (JD s)=Z ⟨.ptr _m 0,[(_m,bB (_w s._o) x)]⟩) (h:k (bH d (.a (.c (.ptr _m []))) (wS _m x s))=Z r):Ok m d s k r:=by
 refine MB (x:=x) (v:=.a (.c (.ptr _m []))) (h0.trans (DD hd).symm) ?_ h;rw[hm];rfl
def Qh(t:Ty)(d:Option Nat)(_m:Nat)(s:_v)(k:_v->Option R):Option R:=k (bH d (.a (.c (.ptr _m []))) (wS _m (.box t t.zero) s))
theorem JJA(F:Orc){t:Ty}{d:Option Nat}{_m:Nat}{s:_v}{k:_v->Option R}{r:R}(hd:s._o[_m]?=Z .dead)(h:Qh t d _m s k=Z r):Ok (_z F (.newbox (_B t t.zero)) _m) d s k r:=
 j3 hd (x:=.box t t.zero) rfl rfl h
def tf(t:Ty)(x:TV)(d:Option Nat)(_m:Nat)(s:_v)(k:_v->Option R):Option R:=
 match tdv t x with
 |some z=>if agv x=O\/t.sz=1 then k (bH d (.a (.c (.ptr _m []))) (wS _m (.box t z) s))else Y
 |none=>match tcs x with|some cs=>if cs.length=t.sz then k (bH d (.a (.c (.ptr _m []))) (wS _m (.mbox t cs) s))else Y|none=>Y
theorem JQr(F:Orc){t:Ty}{x:TO}{v:TV}{d:Option Nat}{_m:Nat}{s:_v}{k:_v->Option R}{r:R}(hd:s._o[_m]?=Z .dead)(hx:tev x s=Z v)(h:tf t v d _m s k=Z r):Ok (_z F (.box t.sz (erO x)) _m) d s k r:=by
 unfold tf at h;split at h;rename_i z j;split at h;rename_i e;refine j3 hd (x:=.box t z) rfl ?_ h;simp only[_z,run_bind,bV hx,JF,ng (_w s._o) j e,dT,eU,if_true,JY,bB];cases h;split at h;rename_i cs hc;split at h;rename_i g;refine j3 hd (x:=.mbox t cs) rfl ?_ h;simp only[_z,run_bind,bV hx,JF,ND (_w s._o) hc,dT,g,if_true,JY,bB];cases h;cases h
def rQ:List (Nat×Ty)->Nat->_v->_v|[],_,s=>s|(_,t)::r,n,s=>rQ r (n+1) (wS n (.arr O t []) s)
def BI:List (Nat×Ty)->Nat->List TC->List TC|[],_,cs=>cs|(off,_)::r,n,cs=>BI r (n+1) (cs.set off (._r n))
def mM(os:List (Nat×Ty)):List (Nat×Nat):=os.map λx=>(x.1,x.2.sz)
theorem ld: ∀{os:List (Nat×Ty)} {_m:Nat} {s:_v},(∀j,j<os.length->s._o[_m+j]?=Z .dead)->
  _w (rQ os _m s)._o=_w s._o/\JD (rQ os _m s)=⟨(JD s).env,upd (iQ (mM os) _m) (JD s)._o⟩/\(∀b,(∀j,j<os.length->b≠_m+j)->(rQ os _m s)._o[b]?=s._o[b]?)
 |[],_,s,_=>⟨rfl,rfl,λ_ _=>rfl⟩
 |(off,t)::q,_m,s,h=>by
  have hd:s._o[_m]?=Z .dead:=h 0 (by simp);have k:lnB (.arr O t [])=_w s._o _m:=(DD hd).symm;have e:=HV k;have g: ∀c,c≠_m->(wS _m (.arr O t []) s)._o[c]?=s._o[c]?:=λc hc=>by grind [wS]
  obtain⟨h1,h2,o⟩:=ld (os:=q) (_m:=_m+1) (s:=wS _m (.arr O t []) s) (λj n=>by
   rw[g _ (by omega)];have:=h (j+1) (by simp;omega);grind)
  refine⟨h1.trans e,?_,λb hb=>?_⟩;simp only[rQ];rw[h2,yB k];simp only[mM,cH,iQ];rfl;simp only[rQ];rw[o b (λj n=>by have:=hb (j+1) (by simp;omega);omega),g b (by have:=hb 0 (by simp);omega)]
theorem kv{L:Nat->Nat}: ∀{os:List (Nat×Ty)} {_m:Nat} {cs:List TC},(∀j,j<os.length->L (_m+j)=0)->(BI os _m cs).map (bD L)=nR (mM os) _m (cs.map (bD L))
 |[],_,_,_=>rfl
 |(off,t)::q,_m,cs,h=>by
  simp only[BI,mM,cH,nR];rw[kv (os:=q) (_m:=_m+1) (λj e=>by have:=h (j+1) (by simp;omega);grind),List.map_set];have:bD L (._r _m)=._r _m 0 0:=by simp only[bD];rw[show L _m=0 from h 0 (by simp)]
  rw[this];rfl
def mn(t:Ty)(os:List (Nat×Ty))(d:Option Nat)(_m:Nat)(s:_v)(k:_v->Option R):Option R:=k (bH d (.a (.c (.ptr (_m+os.length) []))) (wS (_m+os.length) (.mbox t (BI os _m (zcs t))) (rQ os _m s)))
theorem JH5(F:Orc){t:Ty}{os:List (Nat×Ty)}{d:Option Nat}{_m:Nat}{s:_v}{k:_v->Option R}{r:R}(hd:qA s _m (os.length+1)=O)(h:mn t os d _m s k=Z r):
  Ok (_z F (.newboxo (_B t t.zero) (mM os)) _m) d s k r:=by
 unfold mn at h;generalize hc:zcs t=cs at h;have g:=yW hd;obtain⟨h1,h2,q⟩:=ld (os:=os) (_m:=_m) (s:=s) (λj o=>g j (by omega));have n:lnB (.mbox t (BI os _m cs))=_w (rQ os _m s)._o (_m+os.length):=by rw[h1,DD (g os.length (by omega))];rfl
 have e:=HV n;have el:(mM os).length=os.length:=by simp[mM]
 refine⟨⟨JX (_w (wS (_m+os.length) (.mbox t (BI os _m cs)) (rQ os _m s))._o) (.a (.c (.ptr (_m+os.length) []))),iQ (mM os) _m++[(_m+os.length,.box (nR (mM os) _m ((_B t t.zero).map .p)))]⟩,_,?_,oH ?_ d _,h⟩;simp only[_z,JY,el];rfl;rw[yB n,h2,fM];simp only[bB];rw[kv (λj o=>by rw[h1];grind [DD]),<-hc,HT];rfl
def kr(t:Ty)(parts:List (Nat×Ty×TO))(os:List (Nat×Ty))(d:Option Nat)(_m:Nat)(s:_v)(k:_v->Option R):Option R:=
 match tpc parts s with
 |some l=>match LO l (BI os _m (zcs t))with
  |some cs'=>match mka O t cs' with|some v=>k (bH d v (rQ os _m s))|none=>Y
  |none=>Y
 |none=>Y
theorem JJt(F:Orc){t:Ty}{parts:List (Nat×Ty×TO)}{os:List (Nat×Ty)}{d:Option Nat}{_m:Nat}{s:_v}{k:_v->Option R}{r:R}(hd:qA s _m os.length=O)(h:kr t parts os d _m s k=Z r):
  Ok (_z F (.buildo (_B t t.zero) (erP parts) (mM os)) _m) d s k r:=by
 unfold kr at h;split at h;rename_i l q;have e:=yW hd;obtain⟨h1,h2,w⟩:=ld (os:=os) (_m:=_m) (s:=s) (λj n=>e j (by omega));split at h;rename_i cs' hf;split at h;rename_i v x;refine⟨⟨JX (_w (rQ os _m s)._o) v,iQ (mM os) _m⟩,_,?_,oH h2 d _,h⟩;have g:=kv (L:=_w s._o) (os:=os) (_m:=_m) (cs:=zcs t) (λj n=>DD (e j (by omega)));rw[HT]at g;have o:=mq (_w s._o) hf;grind [_z,run_bind,xd,IB,JY];cases h;cases h;cases h
def Np(t:Ty)(d:Option Nat)(_m:Nat)(s:_v)(k:_v->Option R):Option R:=k (bH d (.a (.c (._r _m))) (wN _m (.arr O t []) s))
theorem JLF(F:Orc){t:Ty}{x:Opd}{d:Option Nat}{_m:Nat}{s:_v}{k:_v->Option R}{r:R}(hn:_m<s._o.length)(h:Np t d _m s k=Z r):Ok (_z F (.mkarr t.sz x) _m) d s k r:=
 xr (_f:=[]) hn rfl h
def tyB:Option TB->Ty|some (.box t _)=>t|some (.mbox t _)=>t|_=>.u
def kg(t:Ty)(x:TV)(d:Option Nat)(_m:Nat)(s:_v)(k:_v->Option R):Option R:=
 match x with
 | .a (.c (.ptr b p))=>match uR p,(match s._o[b]? with
   |some (.box e y)=>BJ e y
   |some (.mbox _ cs)=>Z cs
   |_=>Y)with
  |some off,Z cs=>match spl cs off [._r _m]with|some cs'=>k (bH d uv (wS b (.mbox (tyB s._o[b]?) cs') (wS _m (.arr O t []) s)))|none=>Y
  |_,_=>Y
 |_=>Y
theorem JJs(F:Orc){t:Ty}{x:TO}{v:TV}{d:Option Nat}{_m:Nat}{s:_v}{k:_v->Option R}{r:R}(hd:s._o[_m]?=Z .dead)(hx:tev x s=Z v)(h:kg t v d _m s k=Z r):Ok (_z F (.storen t.sz (erO x)) _m) d s k r:=by
 unfold kg at h;split at h;rename_i b p;split at h;rename_i off cs A hc;split at h;rename_i cs' hs;have n:lnB (.arr O t [])=_w s._o _m:=(DD hd).symm;have j:b≠_m/\_w s._o b=0/\(JD s)._o[b]?=Z (.box (cs.map (bD (_w s._o)))):=(by split at hc;rename_i z y hb;refine⟨λe=>?_,TY hb,?_⟩;simp_all;rw[dW,hb,NM _ hc];rfl;rename_i z D hb;cases hc;refine⟨λe=>?_,Rz hb,?_⟩;simp_all;rw[dW,hb];rfl;cases hc);obtain⟨C,q,hb⟩:=j;have o:=HV n;have g:lnB (.mbox (tyB s._o[b]?) cs')=_w (wS _m (.arr O t []) s)._o b:=by rw[o,q];rfl
 refine⟨⟨JX (_w (wS b (.mbox (tyB s._o[b]?) cs') (wS _m (.arr O t []) s))._o) uv,(_m,.arr O t.sz [])::[(b,.box (cs'.map (bD (_w s._o))))]⟩,_,?_,oH ?_ d _,h⟩;have w:bD (_w s._o) (._r _m)=._r _m 0 0:=by grind [bD,DD]
 have B:spl (cs.map (bD (_w s._o))) (spo p) [._r _m 0 0]=Z (cs'.map (bD (_w s._o))):=by rw[<-w,HX A];have:=IQ (bD (_w s._o)) cs off [TC._r _m];simp_all
 simp only[_z,run_bind,bV hx,JF,lR,jE,dR,hb,cellsOf,rC,List.length_nil,pV,if_true,B,JY];rfl;rw[yB g,yB n,o];rfl;cases h;cases h;cases h
def vn(c:Bool)(a b:Option TV)(kk:TV->Option R):Option R:=
 match a,b with
 |some (.a (.c (.d t x))),Z (.a (.c (.d t' y)))=>if h:t'=t then kk (.a (.c (.d t (JVX c x (h▸y)))))else Y
 |some x,Z y=>if c=O then kk x else kk y
 |some x,Y=>if c=O then kk x else Y
 |none,Z y=>if c=O then Y else kk y
 |none,Y=>Y
theorem JPy(F:Orc){c a b:TO}{x:Bool}{d:Option Nat}{_m:Nat}{s:_v}{k:_v->Option R}{r:R}(hc:tev c s=Z (vb x))(h:vn x (tev a s) (tev b s) (λv=>k (bH d v s))=Z r):Ok (_z F (.pick (erO c) (erO a) (erO b)) _m) d s k r:=by
 have e: ∃v,(if x=O then tev a s else tev b s)=Z v/\k (bH d v s)=Z r:=by
  unfold vn at h;split at h;rename_i t y t' z j hb;split at h;rename_i g;subst g;refine⟨_,?_,h⟩;rw[j,hb];cases x<;>rfl
  cases h
  all_goals grind
 obtain⟨v,h1,h2⟩:=e;refine fN (v:=v) ?_ h2;simp only[_z,run_bind,bV hc,JF,e_b];grind [run_bind,bV,JY]
def tcl:List TO->_v->Option (List TC)
 |[],_=>Z []
 |o::r,s=>match tev o s with
  |some (.a (.c x))=>match tcl r s with|some l=>Z (x::l)|none=>Y
  |_=>Y
theorem Nx{s:_v}: ∀{xs:List TO} {l:List TC},tcl xs s=Z l->(evs (xs.map erO)).run (JD s)=Z (l.map (bD (_w s._o)))
 |[],l,h=>by cases h;rfl
 |o::q,l,h=>by
  simp only[tcl]at h;split at h;rename_i x g;split at h;rename_i j e;cases h;simp only[cH,evs,run_bind,bV g,JF,Nx e,JY];rfl;cases h;cases h
def ta(x:TV)(kk:TV->Option R):Option R:=
 match x with
 | .a (.c (.ptr b p))=>kk (.a (.c (.ptr b p)))
 | .a (.c (.cp t y p))=>kk (.a (.c (.cp t y p)))
 | .a (.c (.ep b i p))=>kk (.a (.c (.ep b i p)))
 | .a (.fn f a c)=>kk (.a (.fn f a c))
 | .a (.c (.fn f))=>kk (.a (.c (.fn f)))
 |_=>Y
theorem JQv(F:Orc){x:TO}{v:TV}{d:Option Nat}{_m:Nat}{s:_v}{k:_v->Option R}{r:R}(hx:tev x s=Z v)(h:ta v (λv=>k (bH d v s))=Z r):Ok (_z F (.nilchk (erO x)) _m) d s k r:=by
 unfold ta at h;split at h<;>first
  |(refine fN (v:=_) ?_ h
    simp only[_z,run_bind,bV hx,JF,lR,nZ,mL,tr,Lk,JY];done)
  |cases h
end
end Go.Am
end
section
namespace Go.Am
section
variable {R:Type}
def tc(keep:Bool)(v:TV)(s:_v)(kk:TA->_v->Option R):Option R:=
 match v with
 | .a x=>if keep=O then kk x s else
  match x with
  | .c (._r b)=>match s._o[b]? with|some (.arr _ t' _f)=>kk (.c (.d (.l t') _f)) (wS b (.arr J t' _f) s)|_=>Y
  | .c (.slo _ _)=>Y
  | .c (.suf _ _)=>Y
  | .c (.suo _ _ _)=>Y
  | .m t cs=>fzC t cs s λx s'=>kk (.dt t x) s'
  |x=>kk x s
 | .tup _=>Y
def LM:List (TV×Bool)->_v->(List TA->_v->Option R)->Option R|[],s,kk=>kk [] s|(v,keep)::r,s,kk=>tc keep v s λx s=>LM r s λl s=>kk (x::l) s
theorem JRs{keep:Bool}{v:TV}{s0 s:_v}{w0:List (Nat×_x)}{kk:TA->_v->Option R}{r:R}(f:Fzd s0 s w0)(h:tc keep v s kk=Z r):
  ∃x s' ws,(if keep=O then RM.ret (JX (_w s0._o) v,[])else kH (JX (_w s0._o) v)).run (JD s0)=Z (bT (_w s0._o) x,ws)/\Fzd s0 s' (w0++ws)/\kk x s'=Z r:=by
 unfold tc at h;split at h;rename_i x;split at h;rename_i hk;subst hk;exact⟨x,s,[],rfl,by simp_all,h⟩;rename_i hk;have:keep=J:=by simpa using hk
 subst this;simp only[fJ,if_false];split at h;rename_i b;split at h;rename_i w t' _f hb;obtain⟨w',e⟩:=f.2.2.2.1 b _ _f w hb;refine⟨_,_,[(b,.arr J t'.sz (_f.map (_B t')))],?_,f.trans (jy hb),h⟩;simp only[fL,kH,fz,run_bind,dR,dW,e,cN,JF,bB,hJ e,dT,pV,if_true,FU,JY];rfl;cases h;cases h;cases h;cases h;obtain⟨y,s',ws,h1,h2,g⟩:=NH f h;refine⟨_,s',ws,?_,h2,g⟩;simp only[e_m,kH,fz,run_bind,h1,JF,JY];rfl;rename_i q z k o j;refine⟨x,s,[],?_,by simp_all,h⟩;cases x with
 |c x=>
  cases x with
  |_r b=>simp_all
  |slo b n=>simp_all
  |suf b i=>simp_all
  |suo b i n=>simp_all
  |_=>rfl
 |m t cs=>simp_all
 |_=>rfl
 cases h
theorem mb: ∀{vs:List (TV×Bool)} {s0 s:_v} {w0:List (Nat×_x)} {kk:List TA->_v->Option R} {r:R},Fzd s0 s w0->LM vs s kk=Z r->
  ∃xs s' ws,(fY (vs.map (·.2)) (vs.map λx=>JX (_w s0._o) x.1)).run (JD s0)=Z (xs.map (bT (_w s0._o)),ws)/\Fzd s0 s' (w0++ws)/\kk xs s'=Z r
 |[],s0,s,w0,kk,r,f,h=>⟨[],s,[],rfl,by simp_all,h⟩
 |(v,keep)::q,s0,s,w0,kk,r,f,h=>by simp only[LM]at h;obtain⟨x,s1,j,h1,e,h⟩:=JRs f h;obtain⟨xs,g,k,h2,n,h⟩:=mb e h;refine⟨x::xs,g,j++k,?_,by simp_all,h⟩;cases keep<;>simp_all [fY]
theorem VW: ∀(vs:List AV),fY [] vs=lN vs|[]=>rfl|x::r=>by simp only[fY,lN,VW r]
theorem OY: ∀(m:List Bool) (vs:List AV),(∀x∈m,x=J)->fY m vs=lN vs|[],vs,_=>VW vs|b::m,[],_=>rfl|b::m,x::r,h=>by have:b=J:=h b (by simp);subst this;simp only[fY,lN,OY m r (λx e=>h x (by simp[e]))]
def QD(b:Nat)(l:List Nat):List Nat:=if l.any (λx=>x==b)=O then l else l++[b]
def fk(x:TC)(l:List Nat):Option (List Nat):=
 match x with
 | .ptr b _=>Z (QD b l)
 | ._r b=>Z (QD b l)
 | .slo b _=>Z (QD b l)
 | .ep _ _ _=>Y
 | .epo _ _ _ _=>Y
 | .suf _ _=>Y
 | .suo _ _ _=>Y
 |_=>Z l
def xW:List TC->List Nat->Option (List Nat)|[],l=>Z l|x::r,l=>match fk x l with|some l=>xW r l|none=>Y
def vr(x:TA)(l:List Nat):Option (List Nat):=
 match x with
 | .c x=>fk x l
 | .dt _ _=>Z l
 | .m _ cs=>xW cs l
 | .fn _ a c=>match xW a l with|some l=>xW c l|none=>Y
def IA:List TA->List Nat->Option (List Nat)|[],l=>Z l|x::r,l=>match vr x l with|some l=>IA r l|none=>Y
def yF(s:_v):List Nat->List Nat->Option (List Nat)
 |[],acc=>Z acc
 |b::r,acc=>match s._o[b]? with
  |some (.mbox _ cs)=>match xW cs acc with|some acc=>yF s r acc|none=>Y
  |some _=>yF s r acc
  |none=>Y
theorem JFQ(b:Nat)(l:List Nat):yO (.whole b) (l.map .whole)=(QD b l).map .whole:=by
 grind [yO,QD]
section
variable (L:Nat->Nat)
theorem Sv{x:TC}{l g:List Nat}(h:fk x l=Z g):cV (bD L x) (l.map .whole)=g.map .whole:=by
 unfold fk at h;split at h<;>first
  |(cases h;simp only[bD,cV,JFQ];done)
  |(cases h;done)
  |skip
 cases h;rename_i q r v w o j k;cases x with
 |ptr b p=>simp_all
 |_r b=>simp_all
 |slo b n=>simp_all
 |ep b i p=>simp_all
 |epo b e i p=>grind
 |suf b i=>grind
 |suo b i n=>grind
 |_=>rfl
theorem OA: ∀{xs:List TC} {l e:List Nat},xW xs l=Z e->cV.entsOfL (xs.map (bD L)) (l.map .whole)=e.map .whole
 |[],l,e,h=>by cases h;rfl
 |x::r,l,e,h=>by
  simp only[xW]at h;split at h;rename_i g h1;simp only[cH,cV.entsOfL,Sv L h1];exact OA h;cases h
theorem JOO{x:TA}{l e:List Nat}(h:vr x l=Z e):cV (bT L x) (l.map .whole)=e.map .whole:=by
 cases x with
 |c x=>exact Sv L h
 |dt t x=>cases h;rfl
 |m t cs=>exact OA L h
 |fn f a c=>
  simp only[vr]at h;split at h
  all_goals simp_all [bT,OA]
theorem VR: ∀{xs:List TA} {l e:List Nat},IA xs l=Z e->cV.entsOfL (xs.map (bT L)) (l.map .whole)=e.map .whole
 |[],l,e,h=>by cases h;rfl
 |x::r,l,e,h=>by
  simp only[IA]at h;split at h;rename_i g h1;simp only[cH,cV.entsOfL,JOO L h1];exact VR h;cases h
end
theorem lx{s0 s1:_v}{ws:List (Nat×_x)}(f:Fzd s0 s1 ws){b:Nat}{y:TB}(h:s1._o[b]?=Z y):(sY ws b).run (JD s0)=Z (bB (_w s0._o) y):=by
 have h1:(JD s1)._o[b]?=Z (bB (_w s0._o) y):=by rw[dW,h,f.2.1];rfl
 rw[f.2.2.1]at h1;grind [CU,yQ,sY,dR,JY]
theorem DG{s0 s1:_v}{ws:List (Nat×_x)}(f:Fzd s0 s1 ws): ∀{r acc l:List Nat},yF s1 r acc=Z l->(eR ws (r.map .whole) (acc.map .whole)).run (JD s0)=Z (l.map .whole)
 |[],acc,l,h=>by cases h;rfl
 |b::r,acc,l,h=>by
  simp only[yF]at h;split at h;rename_i cs hb;split at h;rename_i e g;simp only[cH,eR,run_bind,lx f hb,JF,bB,OA (_w s0._o) g];exact DG f h;cases h;rename_i x j hb;simp only[cH,eR,run_bind,lx f hb,JF];cases x with
  |mbox t cs=>simp_all
  |box t x=>simp only[bB];rw[Ab];exact DG f h
  |_=>exact DG f h
  cases h
end
end Go.Am
end
section
namespace Go.Am
def kCs(K:List Nat)(L:Nat->Nat):TC->TC| ._r c=>if K.any (λx=>x==c)=O then .slo c (L c)else ._r c| .ep c i p=>if K.any (λx=>x==c)=O then .epo c (L c) i p else .ep c i p| .pre c k=>if K.any (λx=>x==c)=O then .pro c (L c) k else .pre c k| .suf c i=>if K.any (λx=>x==c)=O then .suo c (min i (L c)) (L c-i)else .suf c i|x=>x
def kAs(K:List Nat)(L:Nat->Nat):TA->TA| .c x=>.c (kCs K L x)| .dt t x=>.dt t x| .m t cs=>.m t (cs.map (kCs K L))| .fn f a c=>.fn f (a.map (kCs K L)) (c.map (kCs K L))
def kVs(K:List Nat)(L:Nat->Nat):TV->TV| .a x=>.a (kAs K L x)| .tup vs=>.tup (vs.map (kAs K L))
def kBs(K:List Nat)(L:Nat->Nat):TB->TB| .mbox t cs=>.mbox t (cs.map (kCs K L))|x=>x
section
variable {K:List Nat} {L L':Nat->Nat} (h: ∀c,K.any (λx=>x==c)=J->L' c=L c)
include h
theorem Kc(x:TC):bD L' (kCs K L x)=bD L x:=by cases x<;>grind [kCs,bD]
theorem Ma(xs:List TC):(xs.map (kCs K L)).map (bD L')=xs.map (bD L):=by
 grind [List.map_congr_left,Kc]
theorem JW5(x:TA):bT L' (kAs K L x)=bT L x:=by cases x<;>simp only[kAs,bT,Kc h,Ma h]
theorem JWi(x:TV):JX L' (kVs K L x)=JX L x:=by cases x<;>simp only[kVs,JX,JW5 h,FQ,Function.comp_def]
theorem JW0(x:TB):bB L' (kBs K L x)=bB L x:=by cases x<;>simp only[kBs,bB,Ma h]
end
theorem JRQ(K:List Nat)(L:Nat->Nat)(x:TB):lnB (kBs K L x)=lnB x:=by cases x<;>rfl
theorem JRr(_o:List TB)(K:List Nat)(L:Nat->Nat)(c:Nat):_w (_o.map (kBs K L)) c=_w _o c:=by
 unfold _w;rw[iL];cases _o[c]? with
 |none=>rfl
 |some x=>exact JRQ K L x
def xD(ws:List (Nat×Bool×TB))(_o:List TB):List TB:=ws.foldl (λσ x=>σ.set x.1 x.2.2) _o
def pU(ws:List (Nat×Bool×TB))(s:_v):_v:=
 match ws with
 |[]=>s
 |ws=>
  let K:=(ws.filter λx=> !x.2.1).map (·.1)
  ⟨s.env.map λy=>(y.1,kVs K (_w s._o) y.2),xD ws (s._o.map (kBs K (_w s._o)))⟩
theorem mu: ∀{ws:List (Nat×Bool×TB)} {_o:List TB} {c:Nat},c∉ws.map (·.1)->(xD ws _o)[c]?=_o[c]?|[],_,_,_=>rfl|x::ws,_o,c,h=>by simp only[cH,bS,not_or]at h;show(xD ws (_o.set x.1 x.2.2))[c]?=_;rw[mu h.2,AN (λe=>h.1 e.symm)]
theorem Pv: ∀{ws:List (Nat×Bool×TB)} {_o:List TB},(ws.map (·.1)).Nodup-> ∀x∈ws,x.1<_o.length->(xD ws _o)[x.1]?=Z x.2.2
 |[],_,_,x,e,_=>by cases e
 |y::ws,_o,g,x,e,h=>by
  simp only[cH,List.nodup_cons]at g;show(xD ws (_o.set y.1 y.2.2))[x.1]?=_;rcases bS.1 e with rfl|e;grind [mu];exact Pv g.2 x e (by simpa using h)
theorem Sj(f:TB->_x): ∀(ws:List (Nat×Bool×TB)) (_o:List TB),(xD ws _o).map f=upd (ws.map λx=>(x.1,f x.2.2)) (_o.map f)
 |[],_=>rfl
 |x::ws,_o=>by show(xD ws (_o.set x.1 x.2.2)).map f=upd (ws.map λx=>(x.1,f x.2.2)) ((_o.map f).set x.1 (f x.2.2));rw[Sj f ws,List.map_set]
theorem JRU{ws:List (Nat×Bool×TB)}{s:_v}(hn:(ws.map (·.1)).Nodup)(hl: ∀x∈ws,x.1<s._o.length)(hf: ∀x∈ws,x.2.1=O->lnB x.2.2=_w s._o x.1):
  JD (pU ws s)=⟨(JD s).env,upd (ws.map λx=>(x.1,bB (_w (pU ws s)._o) x.2.2)) (JD s)._o⟩/\ ∀x∈ws,_w (pU ws s)._o x.1=lnB x.2.2:=by
 cases ws with
 |nil=>exact⟨rfl,λx g=>by cases g⟩
 |cons x0 j=>
  generalize k:x0::j=ws at*;have e:pU ws s=⟨s.env.map λy=>(y.1,kVs ((ws.filter λx=> !x.2.1).map (·.1)) (_w s._o) y.2),xD ws (s._o.map (kBs ((ws.filter λx=> !x.2.1).map (·.1)) (_w s._o)))⟩:=by subst k;rfl
  have h: ∀x∈ws,_w (pU ws s)._o x.1=lnB x.2.2:=λx g=>by rw[e];unfold _w;rw[Pv hn x g (by grind)];rfl
  have hk: ∀c,((ws.filter λx=> !x.2.1).map (·.1)).any (λx=>x==c)=J->_w (pU ws s)._o c=_w s._o c:=(by intro c hc;by_cases n:c∈ws.map (·.1);obtain⟨x,g,rfl⟩:=oA.1 n;grind;rw[e];have:=JRr s._o ((ws.filter λx=> !x.2.1).map (·.1)) (_w s._o) c;grind [_w,mu]);refine⟨?_,h⟩;generalize hL:_w (pU ws s)._o=L' at*;unfold JD;rw[hL,e];grind [gL,List.map_congr_left,JWi,Sj,JW0]
theorem Ps(b:Nat): ∀(_p:List Nat) (k:Nat),dV (.whole b) (_p.map .whole) k=fD b _p k
 |[],_=>rfl
 |x::r,k=>by
  simp only[cH,dV,fD];by_cases h:x=b;subst h;simp;simp[h,Ps b r (k+1)]
def fu(_p:List Nat):TC->Option TC| .ptr b p=>(fD b _p 0).bind λk=>Z (.ptr k p)| ._r b=>(fD b _p 0).bind λk=>Z (._r k)| .slo b n=>(fD b _p 0).bind λk=>Z (.slo k n)| .ep _ _ _=>Y| .epo _ _ _ _=>Y| .pre _ _=>Y| .pro _ _ _=>Y| .suf _ _=>Y| .suo _ _ _=>Y|x=>Z x
def BW(_p:List Nat):List TC->Option (List TC)|[]=>Z []|x::r=>match fu _p x,BW _p r with|some y,Z l=>Z (y::l)|_,_=>Y
def ME(_p:List Nat):TA->Option TA
 | .c x=>match fu _p x with|some y=>Z (.c y)|none=>Y
 | .dt t x=>Z (.dt t x)
 | .m t cs=>match BW _p cs with|some l=>Z (.m t l)|none=>Y
 | .fn f a c=>match BW _p a,BW _p c with|some a,Z c=>Z (.fn f a c)|_,_=>Y
def SL(_p:List Nat):List TA->Option (List TA)|[]=>Z []|x::r=>match ME _p x,SL _p r with|some y,Z l=>Z (y::l)|_,_=>Y
def wo(_p:List Nat):TB->Option TB
 | .box t x=>Z (.box t x)
 | .mbox t cs=>match BW _p cs with|some l=>Z (.mbox t l)|none=>Y
 | .arr w t _f=>Z (.arr w t _f)
 | .dead=>Y
def yV(_p:List Nat)(s:_v):List Nat->Option (List TB)
 |[]=>Z []
 |b::r=>match s._o[b]? with
  |some x=>match wo _p x,yV _p s r with|some y,Z l=>Z (y::l)|_,_=>Y
  |none=>Y
section
variable {_p:List Nat} {L L':Nat->Nat} (hL: ∀b k,fD b _p 0=Z k->L' k=L b)
include hL
theorem Rq{x y:TC}(h:fu _p x=Z y):ren (λe=>dV e (_p.map .whole) 0) (bD L x)=Z (bD L' y):=by
 cases x<;>simp only[fu]at h<;>first
  |(obtain⟨k,hk,h⟩:=bN.1 h
    cases h;simp only[bD,ren,Ps,hk,cN]
    try rw[hL _ _ hk]
    done)
  |(cases h;rfl)
  |cases h
theorem UZ: ∀{xs g:List TC},BW _p xs=Z g->ren.renL (λe=>dV e (_p.map .whole) 0) (xs.map (bD L))=Z (g.map (bD L'))
 |[],g,h=>by cases h;rfl
 |x::r,g,h=>by
  simp only[BW]at h;split at h;rename_i y l k j;cases h;simp only[cH,ren.renL,Rq hL k,UZ j];cases h
theorem JOv{x y:TA}(h:ME _p x=Z y):ren (λe=>dV e (_p.map .whole) 0) (bT L x)=Z (bT L' y):=by
 cases x with
 |c x=>
  simp only[ME]at h;split at h;rename_i y g;cases h;exact Rq hL g;cases h
 |dt t x=>cases h;rfl
 |m t cs=>
  grind [ME,bT,ren,UZ]
 |fn f a c=>
  grind [ME,bT,ren,UZ]
theorem zi: ∀{xs g:List TA},SL _p xs=Z g->ren.renL (λe=>dV e (_p.map .whole) 0) (xs.map (bT L))=Z (g.map (bT L'))
 |[],g,h=>by cases h;rfl
 |x::r,g,h=>by
  simp only[SL]at h;split at h;rename_i y l k j;cases h;simp only[cH,ren.renL,JOv hL k,zi j];cases h
theorem A6{s0 s1:_v}{ws:List (Nat×_x)}(f:Fzd s0 s1 ws)(j:_w s0._o=L): ∀{bs:List Nat} {bl:List TB},yV _p s1 bs=Z bl->
  (lZ ws (λe=>dV e (_p.map .whole) 0) (bs.map .whole)).run (JD s0)=Z (bl.map (bB L'))
 |[],bl,h=>by cases h;rfl
 |b::r,bl,h=>by
  simp only[yV]at h;split at h;rename_i x hb;split at h;rename_i y l g n;cases h;have ih:=A6 f j n;have k:=lx f hb;rw[j]at k;simp only[cH,lZ,BU,run_bind,k,JF];cases x with
  |dead=>cases g
  |box t x=>injection g with g;grind [ze,YR,bB,JY]
  |mbox t cs=>
   grind [wo,bB,UZ,JY]
  |arr w t _f=>injection g with g;grind [bB,JY]
  cases h;cases h
end
theorem B5{_p:List Nat}{s:_v}: ∀{bs:List Nat} {bl:List TB},yV _p s bs=Z bl->bl.length=bs.length/\ ∀(k b:Nat),bs[k]?=Z b->_w bl k=_w s._o b
 |[],bl,h=>by injection h with h;simp_all
 |b::r,bl,h=>by
  simp only[yV]at h;split at h;rename_i x hb;split at h;rename_i y l e g;cases h;obtain⟨h1,h2⟩:=B5 g;refine⟨by simp[h1],λk c hk=>?_⟩;cases k with
  |zero=>
   simp at hk;subst hk;unfold _w;rw[hb];show lnB y=lnB x;cases x with
   |dead=>cases e
   |box t x=>cases e;rfl
   |mbox t cs=>
    simp only[wo]at e;split at e;cases e;rfl;cases e
   |arr w t _f=>cases e;rfl
  |succ k=>
   grind [_w]
  cases h;cases h
def fS(_p:List Nat)(_m m k:Nat):Option Nat:=if k<_p.length then _p[k]? else if k<m then Z (_m+(k-_p.length))else Y
def dm(_p:List Nat)(_m m:Nat):TC->Option TC| .ptr k p=>(fS _p _m m k).bind λb=>Z (.ptr b p)| ._r k=>(fS _p _m m k).bind λb=>Z (._r b)| .slo k n=>(fS _p _m m k).bind λb=>Z (.slo b n)| .ep k i p=>(fS _p _m m k).bind λb=>Z (.ep b i p)| .epo k e i p=>(fS _p _m m k).bind λb=>Z (.epo b e i p)| .pre _ _=>Y| .pro _ _ _=>Y| .suf _ _=>Y| .suo _ _ _=>Y|x=>Z x
def AU(_p:List Nat)(_m m:Nat):List TC->Option (List TC)|[]=>Z []|x::r=>match dm _p _m m x,AU _p _m m r with|some y,Z l=>Z (y::l)|_,_=>Y
def eg(_p:List Nat)(_m m:Nat):TA->Option TA
 | .c x=>match dm _p _m m x with|some y=>Z (.c y)|none=>Y
 | .dt t x=>Z (.dt t x)
 | .m t cs=>match AU _p _m m cs with|some l=>Z (.m t l)|none=>Y
 | .fn f a c=>match AU _p _m m a,AU _p _m m c with|some a,Z c=>Z (.fn f a c)|_,_=>Y
def gn(_p:List Nat)(_m m:Nat):List TA->Option (List TA)|[]=>Z []|x::r=>match eg _p _m m x,gn _p _m m r with|some y,Z l=>Z (y::l)|_,_=>Y
def s7(_p:List Nat)(_m m:Nat):TV->Option TV
 | .a x=>match eg _p _m m x with|some y=>Z (.a y)|none=>Y
 | .tup vs=>match gn _p _m m vs with|some l=>Z (.tup l)|none=>Y
def BL(_p:List Nat)(_m m:Nat):TB->Option TB
 | .box t x=>Z (.box t x)
 | .mbox t cs=>match AU _p _m m cs with|some l=>Z (.mbox t l)|none=>Y
 | .arr w t _f=>Z (.arr w t _f)
 | .dead=>Y
section
variable {_p:List Nat} {_m m:Nat} {L Lp:Nat->Nat} (hL: ∀k b,fS _p _m m k=Z b->Lp b=L k)
theorem JUL{k b o:Nat}(h:fS _p _m m k=Z b):bk (_p.map .whole) _m (.ptr k o)=Z (.ptr b o):=by
 grind [fS,bk]
theorem JTP{k b i n:Nat}(h:fS _p _m m k=Z b):bk (_p.map .whole) _m (._r k i n)=Z (._r b i n):=by
 grind [fS,bk]
theorem JV4{k b e i o:Nat}(h:fS _p _m m k=Z b):bk (_p.map .whole) _m (.ep k e i o)=Z (.ep b e i o):=by
 grind [fS,bk]
include hL
theorem Om{x y:TC}(h:dm _p _m m x=Z y):bk (_p.map .whole) _m (bD L x)=Z (bD Lp y):=by
 cases x<;>simp only[dm]at h<;>first
  |(obtain⟨b,hb,h⟩:=bN.1 h
    cases h;simp only[bD,JUL hb,JTP hb,JV4 hb,hL _ _ hb]
    done)
  |(cases h;done)
  |(cases h;rfl)
theorem TM: ∀{xs e:List TC},AU _p _m m xs=Z e->bk.bkL (_p.map .whole) _m (xs.map (bD L))=Z (e.map (bD Lp))
 |[],e,h=>by cases h;rfl
 |x::r,e,h=>by
  simp only[AU]at h;split at h;rename_i y l j g;cases h;simp only[cH,bk.bkL,Om hL j,TM g];cases h
theorem Q3{x y:TA}(h:eg _p _m m x=Z y):bk (_p.map .whole) _m (bT L x)=Z (bT Lp y):=by cases x<;>grind [eg,Om,bT,bk,TM]
theorem Ro: ∀{xs e:List TA},gn _p _m m xs=Z e->bk.bkL (_p.map .whole) _m (xs.map (bT L))=Z (e.map (bT Lp))
 |[],e,h=>by cases h;rfl
 |x::r,e,h=>by
  simp only[gn]at h;split at h;rename_i y l j g;cases h;simp only[cH,bk.bkL,Q3 hL j,Ro g];cases h
theorem JQm{x y:TV}(h:s7 _p _m m x=Z y):bk (_p.map .whole) _m (JX L x)=Z (JX Lp y):=by cases x<;>grind [s7,Q3,JX,bk,Ro]
end
end Go.Am
end
section
namespace Go.Am
structure TG where
 go: ∀{R:Type},FuncId->List TA->List TB->(TV->List (Bool×TB)->Option R)->Option R
def qW(_s:List (Bool×TB)):Nat->Nat:=_w (_s.map (·.2))
structure GOk(F:Orc)(G:TG):Prop where
 ok: ∀{R:Type} {f:FuncId} {xs:List TA} {bl:List TB} {kk:TV->List (Bool×TB)->Option R} {r:R},G.go f xs bl kk=Z r->
  ∃v _s,F f (xs.map (bT (_w bl))) (bl.map (bB (_w bl)))=Z (JX (qW _s) v,_s.map λx=>bB (qW _s) x.2)/\
   (∀(k:Nat) x,_s[k]?=Z (O,x)->k<bl.length->lnB x=_w bl k)/\kk v _s=Z r
def rL(_p:List Nat)(_m m:Nat):Nat->List (Bool×TB)->Option (List (Nat×Bool×TB))|_,[]=>Z []|k,(s,x)::r=>match fS _p _m m k,BL _p _m m x,rL _p _m m (k+1) r with|some b,Z y,Z l=>Z ((b,s&&decide (k<_p.length),y)::l)|_,_,_=>Y
section
variable {R:Type}
def uq(e:Bool)(a b n:Nat):Bool:=if e=O then decide (a<=b/\b<=a+n)else decide (b=a+n)
theorem JMa{e:Bool}{a b n:Nat}(h:uq e a b n=O):(if e=O then a<=b/\b<=a+n else b=a+n)/\a<=b/\b<=a+n:=by
 grind [uq]
def GR(G:TG)(f:FuncId)(args:List (TV×Bool))(e:Bool)(n:Nat)(d:Option Nat)(_m:Nat)(s:_v)(kk:_v->Option R):Option R:=
 LM args s λxs s1=>
 match IA xs []with
 |none=>Y
 |some g=>match yF s1 g g with
  |none=>Y
  |some i1=>match yF s1 i1 i1 with
   |none=>Y
   |some _p=>if kR _p=O then
    match SL _p xs,yV _p s1 _p with
    |some j,Z bl=>G.go f j bl λv _s=>
     if uq e _p.length _s.length n=O then
      match s7 _p _m _s.length v,rL _p _m _s.length 0 _s with
      |some h,Z ws=>if kR (ws.map (·.1))=O then kk (bH d h (pU ws s1))else Y
      |_,_=>Y
     else Y
    |_,_=>Y
    else Y
theorem Q7{_p:List Nat}{_m m:Nat}{x y:TB}(h:BL _p _m m x=Z y):lnB y=lnB x:=by
 cases x with
 |dead=>cases h
 |box t x=>cases h;rfl
 |mbox t cs=>
  simp only[BL]at h;split at h;cases h;rfl;cases h
 |arr w t _f=>cases h;rfl
theorem Sx{_p:List Nat}{_m m:Nat}: ∀{k:Nat} {_s:List (Bool×TB)} {ws:List (Nat×Bool×TB)},rL _p _m m k _s=Z ws->
  ws.length=_s.length/\ ∀(j:Nat) s x,_s[j]?=Z (s,x)-> ∃b y,fS _p _m m (k+j)=Z b/\BL _p _m m x=Z y/\ws[j]?=Z (b,s&&decide (k+j<_p.length),y)
 |k,[],ws,h=>by injection h with h;simp_all
 |k,(s,x)::r,ws,h=>by
  simp only[rL]at h;split at h;rename_i b y l hb o e;cases h;obtain⟨h1,h2⟩:=Sx e;refine⟨by simp[h1],λj s' g n=>?_⟩;cases j<;>grind
  cases h
theorem JPx{l:List Nat}(h:kR l=O):l.Nodup:=WH h
theorem JHl{_p:List Nat}(h:kR _p=O):kR ((_p.map _A.whole).map _A.id)=O:=by rw[FQ,show _A.id∘_A.whole=id from rfl,List.map_id];exact h
theorem Sr{_p:List Nat}{_m m:Nat}{L Lp:Nat->Nat}(hL: ∀k b,fS _p _m m k=Z b->Lp b=L k){ws0:List (Nat×_x)}{st:St}: ∀{j:Nat} {es:List Nat} {_s:List (Bool×TB)} {ws:List (Nat×Bool×TB)},
  (∀(i:Nat) b,es[i]?=Z b->_p[j+i]?=Z b)->j+es.length=_p.length->es.length<=_s.length->rL _p _m m j _s=Z ws->
  (jT ws0 (_p.map .whole) _m (es.map .whole) (_s.map λx=>bB L x.2)).run st=Z ((ws.take es.length).map λx=>(x.1,bB Lp x.2.2))
 |j,[],_s,ws,_,_,_,h=>by simp[jT]
 |j,b::es,[],ws,_,_,hl,h=>by simp at hl
 |j,b::es,(s,x)::_s,ws,he,hj,hl,h=>by
  simp only[rL]at h;split at h;rename_i e y l hb r n;cases h;have ih:=Sr hL (ws0:=ws0) (st:=st) (j:=j+1) (es:=es) (_s:=_s) (ws:=l) (λi c hc=>by
   have:=he (i+1) c (by simpa using hc);grind) (by grind) (by simpa using hl) n
  have g:e=b:=(by have q:=he 0 b (by simp);grind [fS]);subst g;simp only[cH,jT,run_bind];have o:(vP ws0 (_p.map .whole) _m (.whole e) (bB L x)).run st=Z (e,bB Lp y):=by cases x<;>grind [CQ,vP,nd,YR,JY,BL,NT,TM,xb]
  simp_all;cases h
theorem R3{_p:List Nat}{_m m:Nat}{L Lp:Nat->Nat}(hL: ∀k b,fS _p _m m k=Z b->Lp b=L k): ∀{j:Nat} {_s:List (Bool×TB)} {ws:List (Nat×Bool×TB)},
  rL _p _m m (_p.length+j) _s=Z ws->iU (_p.map .whole) _m (_m+j) (_s.map λx=>bB L x.2)=Z (ws.map λx=>(x.1,bB Lp x.2.2))
 |j,[],ws,h=>by cases h;rfl
 |j,(s,x)::_s,ws,h=>by
  simp only[rL]at h;split at h;rename_i o y l hb e n;cases h;have ih:=R3 hL (j:=j+1) n;have g:o=_m+j:=(by grind [fS]);subst g;cases x with
  |dead=>cases e
  |box t x=>injection e with e;grind [CQ,iU,nd,YR]
  |mbox t cs=>
   grind [BL,NT,iU,TM]
  |arr w t _f=>injection e with e;grind [xb,iU]
  cases h
theorem A8{_p:List Nat}{_m m:Nat}: ∀{n k:Nat} {_s:List (Bool×TB)} {ws:List (Nat×Bool×TB)},rL _p _m m k _s=Z ws->rL _p _m m (k+n) (_s.drop n)=Z (ws.drop n)
 |0,k,_s,ws,h=>h
 |n+1,k,[],ws,h=>by cases h;rfl
 |n+1,k,(s,x)::_s,ws,h=>by
  simp only[rL]at h;split at h;rename_i b y l hb g e;cases h;have:=A8 (n:=n) e;grind;cases h
theorem VY{F:Orc}{G:TG}(hG:GOk F G){f:FuncId}{args:List (TV×Bool)}{A:Bool}{n:Nat}{d:Option Nat}{_m:Nat}{s:_v}{kk:_v->Option R}{r:R}
  (hd:qA s _m n=O) (h:GR G f args A n d _m s kk=Z r):
  ∃xs ws B es z _q v res D fresh,(fY (args.map (·.2)) (args.map λx=>JX (_w s._o) x.1)).run (JD s)=Z (xs,ws)/\
   (eR ws (cV.entsOfL xs []) (cV.entsOfL xs [])).run (JD s)=Z B/\(eR ws B B).run (JD s)=Z es/\kR (es.map _A.id)=O/\
   ren.renL (λe=>dV e es 0) xs=Z z/\(lZ ws (λe=>dV e es 0) es).run (JD s)=Z _q/\F f z _q=Z res/\
   (if A=O then es.length<=res.2.length/\res.2.length<=es.length+n else res.2.length=es.length+n)/\bk es _m res.1=Z v/\iU es _m _m (res.2.drop es.length)=Z fresh/\
   (jT ws es _m es res.2).run (JD s)=Z D/\ ∃s',put d ⟨v,ws++D++fresh⟩ (JD s)=JD s'/\kk s'=Z r:=by
 unfold GR at h;obtain⟨xs,s1,ws,h1,q,h⟩:=mb (Fzd.refl s) h;rw[rD]at q;split at h;cases h;rename_i i0 T;split at h;cases h;rename_i i1 P;split at h;cases h;rename_i _p L;split at h;rename_i V;split at h;rename_i ys bl S K;obtain⟨v,_s,hF,_a,h⟩:=hG.ok h;split at h;rename_i hlen;split at h;rename_i N g U o;split at h;rename_i M;have e0:cV.entsOfL (xs.map (bT (_w s._o))) []=i0.map .whole:=VR (_w s._o) (l:=[]) T;have e1:=DG q P;have e2:=DG q L;obtain⟨ai,W⟩:=B5 K;have hL: ∀b k,fD b _p 0=Z k->_w bl k=_w s._o b:=by intro b k hk;obtain⟨_,hk⟩:=VO hk;rw[W k b (by simpa using hk),q.2.1]
 have e3:=zi hL S;have e4:=A6 hL q rfl K;obtain⟨b1,b2⟩:=Sx o;have a4: ∀(j:Nat),qW _s j=match _s[j]? with
   |some x=>lnB x.2
   |none=>0:=by
  intro j;unfold qW _w;rw[iL];cases _s[j]?<;>rfl
 have _c: ∀(k b:Nat),_p[k]?=Z b->b<s1._o.length:=by
  have aj: ∀(bs:List Nat) (bl:List TB),yV _p s1 bs=Z bl-> ∀(k b:Nat),bs[k]?=Z b->b<s1._o.length:=by
   intro bs
   induction bs with
   |nil=>simp_all
   |cons c bs ih=>
    grind [yV]
  grind
 have a2:s1._o.length=s._o.length:=(by have:=congrArg (λst=>st._o.length) q.2.2.1;grind [JD,CU]);obtain⟨a1,_d,a0⟩:=JMa hlen;have _b:=yW hd;have a9: ∀x∈g,∃(j:Nat) (Q:Bool) (y:TB),_s[j]?=Z (Q,y)/\fS _p _m _s.length j=Z x.1/\BL _p _m _s.length y=Z x.2.2/\x.2.1=(Q&&decide (j<_p.length)):=by
  intro x hx;obtain⟨j,hj⟩:=jK hx;have w:j<_s.length:=by grind
  obtain⟨b,y,q1,q2,H⟩:=b2 j (_s[j]'w).1 (_s[j]'w).2 (aZ w);rw[hj]at H;injection H with H;rw[pV]at q1 H;exact⟨j,_,_,aZ w,by simp_all,by simp_all,by rw[H];rfl⟩
 have E: ∀x∈g,x.1<s1._o.length:=(by grind [fS,JA]);have _e: ∀x∈g,x.2.1=O->lnB x.2.2=_w s1._o x.1:=(by grind [Q7,fS]);obtain⟨w1,w2⟩:=JRU (JPx M) E _e;have C: ∀k b,fS _p _m _s.length k=Z b->_w (pU g s1)._o b=qW _s k:=(by grind [fS,Q7]);have e5:=JQm C U;have e6:=Sr C (ws0:=ws) (st:=JD s) (j:=0) (es:=_p) (_s:=_s) (ws:=g) (λi b hb=>by grind) (by omega) _d o;have e7:=R3 C (j:=0) (_s:=_s.drop _p.length) (ws:=g.drop _p.length) (by have:=A8 (n:=_p.length) o;grind);rw[uW]at e7;refine⟨xs.map (bT (_w s._o)),ws,i1.map .whole,_p.map .whole,_,_,JX (_w (pU g s1)._o) N,_,_,(g.drop _p.length).map (λx=>(x.1,bB (_w (pU g s1)._o) x.2.2)),h1,?_,e2,JHl V,e3,e4,hF,?_,e5,?_,e6,bH d N (pU g s1),?_,h⟩;grind;grind;grind [List.map_drop];refine oH ?_ d N;rw[w1,q.2.2.1];simp[fM];cases h;cases h;cases h;cases h;cases h
end
end Go.Am
end
section
namespace Go.Am
inductive TOp where
 |mv (x:TO)
 |mkarr (t:Ty) (x:TO)
 |pick (c a b:TO)
 |newbox (t:Ty)
 |box (t:Ty) (x:TO)
 |build (t:Ty) (parts:List (Nat×Ty×TO))
 |lits (own:Bool) (t:Ty) (n:Nat) (parts:List (Nat×TO))
 |load (agg:Bool) (t:Ty) (x:TO)
 |store (t:Ty) (x v:TO)
 |nilchk (x:TO)
 |bin (op:BinOp) (bt:TBT) (x y:TO)
 |un (op:UnOp) (x:TO)
 |conv (k:CK) (x:TO)
 |_E (own:Bool) (t:Ty) (bytes:Nat) (l c:TO)
 |slice (k:TSK) (x:TO) (lo hi mx:Option TO)
 |faddr (off:Nat) (x:TO)
 |field (agg:Bool) (off:Nat) (t:Ty) (x:TO)
 |iaddr (t:Ty) (x i:TO)
 |aaddr (len _l:Nat) (x i:TO)
 |sidx (x i:TO)
 |aidx (agg:Bool) (len:Nat) (t:Ty) (x i:TO)
 |extr (x:TO) (i:Nat)
 |call (f:FuncId) (args:List TO) (k:Nat)
 |callo (f:FuncId) (args:List (TO×Bool)) (k:Nat)
 |callv (g:TO) (args:List TO) (k:Nat)
 |len (str:Bool) (x:TO)
 |app (t:Ty) (bytes:Nat) (x y:TO)
 |appn (t:Ty) (bytes:Nat) (y:TO)
 |mm (mx:Bool) (x y:TO)
 |mkfn (f:FuncId) (first caps:List TO)
 |newboxo (t:Ty) (os:List (Nat×Ty))
 |buildo (t:Ty) (parts:List (Nat×Ty×TO)) (os:List (Nat×Ty))
 |storen (t:Ty) (x:TO)
 |psuf (t:Ty) (x lo:TO)
 |shr (t:Ty) (x hi:TO)
 |clr (t:Ty) (x:TO)
 |mvn (t:Ty) (x:TO)
def zer(t:Ty):List PV:=_B t t.zero
def erp:TOp->AOp
 | .mv x=>.mv (erO x)
 | .mkarr t x=>.mkarr t.sz (erO x)
 | .pick c a b=>.pick (erO c) (erO a) (erO b)
 | .newbox t=>.newbox (zer t)
 | .box t x=>.box t.sz (erO x)
 | .build t parts=>.build (zer t) (erP parts)
 | .lits own t n parts=>.lits own t.sz n (zer t) (parts.map λx=>(x.1,erO x.2))
 | .load agg t x=>.load agg t.sz (erO x)
 | .store t x v=>.store t.sz (erO x) (erO v)
 | .nilchk x=>.nilchk (erO x)
 | .bin op bt x y=>.bin op (erT bt) (erO x) (erO y)
 | .un op x=>.un op (erO x)
 | .conv k x=>.conv k (erO x)
 | ._E own t bytes l c=>._E own t.sz bytes (zer t) (erO l) (erO c)
 | .slice k x lo hi mx=>.slice (erK k) (erO x) (lo.map erO) (hi.map erO) (mx.map erO)
 | .faddr off x=>.faddr off (erO x)
 | .field agg off t x=>.field agg off t.sz (erO x)
 | .iaddr t x i=>.iaddr t.sz (erO x) (erO i)
 | .aaddr len _l x i=>.aaddr len _l (erO x) (erO i)
 | .sidx x i=>.sidx (erO x) (erO i)
 | .aidx agg len t x i=>.aidx agg len t.sz (erO x) (erO i)
 | .extr x i=>.extr (erO x) i
 | .call f args k=>.call f (args.map erO) k
 | .callo f args k=>.callo f (args.map (·.2)) (args.map λx=>erO x.1) k
 | .callv g args k=>.callv (erO g) (args.map erO) k
 | .len str x=>.len str (erO x)
 | .app t bytes x y=>.app t.sz bytes (zer t) (erO x) (erO y)
 | .appn t bytes y=>.appn t.sz bytes (zer t) (erO y)
 | .psuf t x y=>.psuf t.sz (erO x) (erO y)
 | .shr t x y=>.shr t.sz (zer t) (erO x) (erO y)
 | .clr t x=>.clr t.sz (zer t) (erO x)
 | .mvn t x=>.mvn t.sz (zer t) (erO x)
 | .mm mx x y=>.mm mx (erO x) (erO y)
 | .mkfn f first caps=>.mkfn f (first.map erO) (caps.map erO)
 | .newboxo t os=>.newboxo (zer t) (mM os)
 | .buildo t parts os=>.buildo (zer t) (erP parts) (mM os)
 | .storen t x=>.storen t.sz (erO x)
def cB:TOp->Nat| .newbox _| .box _ _| .mkarr _ _| .appn _ _ _| .shr _ _ _| .mvn _ _=>1| .lits own _ _ _=>if own=O then 1 else 0| ._E own _ _ _ _=>if own=O then 1 else 0| .conv (.toBytes own) _=>if own=O then 1 else 0| .call _ _ k| .callv _ _ k| .callo _ _ k=>k| .newboxo _ os=>os.length+1| .buildo _ _ os=>os.length| .storen _ _=>1|_=>0
theorem NJ(op:TOp):oB (erp op)=cB op:=by
 cases op<;>try rfl
 rename_i k x;cases k<;>rfl
 all_goals simp[erp,cB,mM]
def xJ:List (TO×Bool)->_v->Option (List (TV×Bool))|[],_=>Z []|(o,x)::r,s=>match tev o s,xJ r s with|some v,Z l=>Z ((v,x)::l)|_,_=>Y
theorem CY{s:_v}: ∀{xs:List (TO×Bool)} {l:List (TV×Bool)},xJ xs s=Z l->
  (evs (xs.map λx=>erO x.1)).run (JD s)=Z (l.map λx=>JX (_w s._o) x.1)/\l.map (·.2)=xs.map (·.2)
 |[],l,h=>by injection h with h;simp_all
 |(o,x)::q,l,h=>by
  simp only[xJ]at h;split at h;rename_i v j e g;cases h;obtain⟨h1,h2⟩:=CY g;exact⟨by simp only[cH,evs,run_bind,bV e,JF,h1,JY],by simp[h2]⟩;cases h
section
variable {R:Type}
def top(G:TG)(op:TOp)(d:Option Nat)(_m:Nat)(s:_v)(k:_v->Option R):Option R:=
 match op with
 | .mv x=>match tev x s with|some v=>k (bH d v s)|none=>Y
 | .mkarr t _=>Np t d _m s k
 | .pick c a b=>match tev c s with|some (.a (.c (.d .b x)))=>vn x (tev a s) (tev b s) λv=>k (bH d v s)|_=>Y
 | .newbox t=>Qh t d _m s k
 | .box t x=>match tev x s with|some v=>tf t v d _m s k|none=>Y
 | .build t parts=>xj t parts d s k
 | .lits own t n parts=>u0 own t n parts d _m s k
 | .load agg t x=>match tev x s with|some v=>v7 agg t v d s k|none=>Y
 | .store t x y=>match tev x s,tev y s with|some v,Z u=>xh t v u d s k|_,_=>Y
 | .nilchk x=>match tev x s with|some v=>ta v λv=>k (bH d v s)|none=>Y
 | .bin op bt x y=>match tev x s,tev y s with|some v,Z u=>tn op bt v u λv=>k (bH d v s)|_,_=>Y
 | .un op x=>match tev x s with|some v=>tUn op v λv=>k (bH d v s)|none=>Y
 | .conv c x=>match tev x s with|some v=>ux c v d _m s k|none=>Y
 | ._E own t bytes l c=>match tev l s,tev c s with|some v,Z u=>kw own t bytes v u d _m s k|_,_=>Y
 | .slice e x lo hi mx=>match tev x s,tbn lo s,tbn hi s,tbn mx s with|some v,Z a,Z b,Z c=>wl e v a b c d s k|_,_,_,_=>Y
 | .faddr off x=>match tev x s with|some v=>xn off v λv=>k (bH d v s)|none=>Y
 | .field agg off t x=>match tev x s with|some v=>xk agg off t v d s k|none=>Y
 | .iaddr t x i=>match tev x s,tev i s with|some v,Z u=>xi t v u s λv=>k (bH d v s)|_,_=>Y
 | .aaddr len _l x i=>match tev x s,tev i s with|some v,Z u=>xw len _l v u λv=>k (bH d v s)|_,_=>Y
 | .sidx x i=>match tev x s,tev i s with|some v,Z u=>vt v u λv=>k (bH d v s)|_,_=>Y
 | .aidx agg len t x i=>match tev x s,tev i s with|some v,Z u=>u6 agg len t v u d s k|_,_=>Y
 | .extr x i=>match tev x s with|some v=>uy v i λv=>k (bH d v s)|none=>Y
 | .call f args n=>match xJ (args.map λx=>(x,J)) s with|some l=>GR G f l J n d _m s k|none=>Y
 | .callo f args n=>match xJ args s with|some l=>GR G f l O n d _m s k|none=>Y
 | .callv g args n=>match tev g s,xJ (args.map λx=>(x,J)) s with|some (.a (.fn f a c)),Z l=>GR G f (a.map (λx=>(.a (.c x),J))++l++c.map (λx=>(.a (.c x),J))) J n d _m s k|some (.a (.c (.fn f))),Z l=>GR G f l J n d _m s k|_,_=>Y
 | .len str x=>match tev x s with|some v=>uh str v s λv=>k (bH d v s)|none=>Y
 | .app t bytes x y=>match tev x s,tev y s with|some v,Z u=>se t bytes v u d s k|_,_=>Y
 | .appn t bytes y=>match tev y s with|some u=>u7 t bytes u d _m s k|none=>Y
 | .mm mx x y=>match tev x s,tev y s with|some v,Z u=>tMm mx v u λv=>k (bH d v s)|_,_=>Y
 | .mkfn f first caps=>match tcl first s,tcl caps s with|some a,Z c=>k (bH d (.a (.fn f a c)) s)|_,_=>Y
 | .newboxo t os=>mn t os d _m s k
 | .buildo t parts os=>kr t parts os d _m s k
 | .storen t x=>match tev x s with|some v=>kg t v d _m s k|none=>Y
 | .psuf t x y=>match tev x s,tev y s with|some v,Z u=>vp t v u d s k|_,_=>Y
 | .shr t x y=>match tev x s,tev y s with|some v,Z u=>tu t v u d _m s k|_,_=>Y
 | .clr t x=>match tev x s with|some v=>s8 t v d s k|none=>Y
 | .mvn t x=>match tev x s with|some v=>sx t v d _m s k|none=>Y
theorem mh{F:Orc}{f:FuncId}{vs xs g:List AV}{ws:List (Nat×_x)}{h es:List _A}{_q:List _x}{v:AV}{res:Res}{j fresh:List (Nat×_x)}{n _m:Nat}{st:St}
  (h1:(lN vs).run st=Z (xs,ws)) (h2:(eR ws (cV.entsOfL xs []) (cV.entsOfL xs [])).run st=Z h) (h3:(eR ws h h).run st=Z es) (h4:kR (es.map _A.id)=O)
  (h5:ren.renL (λe=>dV e es 0) xs=Z g) (r:(lZ ws (λe=>dV e es 0) es).run st=Z _q) (o:F f g _q=Z res) (q:res.2.length=es.length+n)
  (w:bk es _m res.1=Z v) (h10:iU es _m _m (res.2.drop es.length)=Z fresh) (k:(jT ws es _m es res.2).run st=Z j):
  (jD F f vs n _m).run st=Z ⟨v,ws++j++fresh⟩:=by
 simp_all [jD]
theorem JNh{F:Orc}{f:FuncId}{xs g:List AV}{ws:List (Nat×_x)}{h es:List _A}{_q:List _x}{v:AV}{res:Res}{j fresh:List (Nat×_x)}{n _m:Nat}{st:St}
  (h2:(eR ws (cV.entsOfL xs []) (cV.entsOfL xs [])).run st=Z h) (h3:(eR ws h h).run st=Z es) (h4:kR (es.map _A.id)=O)
  (h5:ren.renL (λe=>dV e es 0) xs=Z g) (r:(lZ ws (λe=>dV e es 0) es).run st=Z _q) (o:F f g _q=Z res) (q:es.length<=res.2.length/\res.2.length<=es.length+n)
  (w:bk es _m res.1=Z v) (h10:iU es _m _m (res.2.drop es.length)=Z fresh) (k:(jT ws es _m es res.2).run st=Z j):
  (gM F f (xs,ws) n _m).run st=Z ⟨v,ws++j++fresh⟩:=by
 simp_all [gM]
theorem UU(args:List TO):(args.map λx=>(x,J)).map (λx:TO×Bool=>erO x.1)=args.map erO:=by simp_all
theorem JTE{F:Orc}{G:TG}(L:GOk F G){op:TOp}{d:Option Nat}{_m:Nat}{s:_v}{k:_v->Option R}{r:R}(hd:qA s _m (cB op)=O)(h:top G op d _m s k=Z r):Ok (_z F (erp op) _m) d s k r:=by
 have N: ∀j,j<cB op->_m+j<s._o.length:=λj hj=>JA (yW hd j hj);unfold top at h;split at h;split at h;rename_i x _ v o;refine fN (v:=v) ?_ h;simp only[erp,_z,run_bind,bV o,JF,JY];cases h;exact JLF F (by simp_all [cB]) h;split at h;rename_i hc;exact JPy F hc h;cases h;exact JJA F (by have:=yW hd 0 (by simp[cB]);simp_all) h;split at h;rename_i o;exact JQr F (by have:=yW hd 0 (by simp[cB]);simp_all) o h;cases h;exact JMu F _m h;rename_i own t n parts;exact JO3 F (λho=>by simp_all [cB]) h;split at h;rename_i o;obtain⟨e,s',h1,h2,q⟩:=JPw h;exact⟨e,s',by grind [erp,_z,run_bind,bV],h2,q⟩;cases h;split at h;rename_i o w;obtain⟨e,s',h1,h2,q⟩:=JLI h;exact⟨e,s',by grind [erp,_z,run_bind,bV],h2,q⟩;cases h;split at h;rename_i o;exact JQv F o h;cases h;split at h;rename_i o w;obtain⟨e,s',h1,h2,q⟩:=(JRn h).ok;exact⟨e,s',by grind [erp,_z,run_bind,bV],h2,q⟩;cases h;split at h;rename_i o;obtain⟨e,s',h1,h2,q⟩:=(JUi h).ok;exact⟨e,s',by grind [erp,_z,run_bind,bV],h2,q⟩;cases h;split at h;rename_i o;exact JOh F o (λho=>by simp_all [cB]) h;cases h;split at h;rename_i o w;exact JH7 F o w (λho=>by simp_all [cB]) h;cases h;split at h;rename_i h1 h2 q h4;exact JMj F h1 h2 q h4 h;cases h;split at h;rename_i o;obtain⟨e,s',h1,h2,q⟩:=(JMi h).ok;exact⟨e,s',by grind [erp,_z,run_bind,bV],h2,q⟩;cases h;split at h;rename_i o;obtain⟨e,s',h1,h2,q⟩:=JM2 h;exact⟨e,s',by grind [erp,_z,run_bind,bV],h2,q⟩;cases h;split at h;rename_i o w;obtain⟨e,s',h1,h2,q⟩:=JLW h;exact⟨e,s',by grind [erp,_z,run_bind,bV],h2,q⟩;cases h;split at h;rename_i o w;obtain⟨e,s',h1,h2,q⟩:=(JMz h).ok;exact⟨e,s',by grind [erp,_z,run_bind,bV],h2,q⟩;cases h;split at h;rename_i o w;exact JPP F o w h;cases h;split at h;rename_i o w;exact JOF F o w h;cases h;split at h;rename_i o;obtain⟨e,s',h1,h2,q⟩:=(JPC h).ok;exact⟨e,s',by grind [erp,_z,run_bind,bV],h2,q⟩;cases h;rename_i f args n;split at h;rename_i l H;obtain⟨C,M⟩:=CY H;rw[UU]at C;obtain⟨xs,ws,_e,es,B,_q,v,res,D,fresh,E,_b,W,T,S,Q,P,U,_c,K,_d,s',A,y⟩:=VY L hd h;rw[OY _ _ (λx hx=>by simp_all)]at E;refine⟨_,s',?_,A,y⟩;grind [erp,_z,run_bind,mh,cB];cases h;rename_i f args n;split at h;rename_i l H;obtain⟨C,M⟩:=CY H;obtain⟨xs,ws,_e,es,B,_q,v,res,D,fresh,E,_b,W,T,S,Q,P,U,_c,K,_d,s',A,y⟩:=VY L hd h;rw[M]at E;refine⟨_,s',?_,A,y⟩;simp_all [erp,JNh,cB];cases h;rename_i g args n;split at h;rename_i f a c l V H;obtain⟨C,M⟩:=CY H;rw[UU]at C;obtain⟨xs,ws,_e,es,B,_q,v,res,D,fresh,E,_b,W,T,S,Q,P,U,_c,K,_d,s',A,y⟩:=VY L hd h;have _a: ∀z:List TC,(z.map (λx=>((TV.a (.c x),J):TV×Bool))).map (λx=>JX (_w s._o) x.1)=z.map (bD (_w s._o)):=λz=>by rw[FQ];rfl
 rw[OY _ _ (λx hx=>by
  grind),tA,tA,_a,_a]at E
 refine⟨_,s',?_,A,y⟩;simp only[erp,_z,run_bind,bV V,JF,tr,C];grind [mh,cB];rename_i f l V H;obtain⟨C,M⟩:=CY H;rw[UU]at C;obtain⟨xs,ws,_e,es,B,_q,v,res,D,fresh,E,_b,W,T,S,Q,P,U,_c,K,_d,s',A,y⟩:=VY L hd h;rw[OY _ _ (λx hx=>by simp_all)]at E;refine⟨_,s',?_,A,y⟩;simp only[erp,_z,run_bind,bV V,JF,Lk,C,rD,gH];grind [mh,cB];cases h;split at h;rename_i o;obtain⟨e,s',h1,h2,q⟩:=(JQp h).ok;exact⟨e,s',by grind [erp,_z,run_bind,bV],h2,q⟩;cases h;split at h;rename_i o w;obtain⟨e,s',h1,h2,q⟩:=JS2 h;exact⟨e,s',by grind [erp,_z,run_bind,bV],h2,q⟩;cases h;split at h;rename_i w;exact JNO F w (by simp_all [cB]) h;cases h;split at h;rename_i o w;obtain⟨e,s',h1,h2,q⟩:=(JUO h).ok;exact⟨e,s',by grind [erp,_z,run_bind,bV],h2,q⟩;cases h;rename_i f first caps
 split at h;rename_i a c ha hc;refine fN (v:=.a (.fn f a c)) ?_ h;simp_all [erp,Nx,tr];cases h;exact JH5 F hd h;exact JJt F hd h;split at h;rename_i o;exact JJs F (by have:=yW hd 0 (by simp[cB]);simp_all) o h;cases h;split at h;rename_i o w;obtain⟨e,s',h1,h2,q⟩:=JPv h;exact⟨e,s',by grind [erp,_z,run_bind,bV],h2,q⟩;cases h;split at h;rename_i o w;obtain⟨e,s',h1,h2,q⟩:=JRe (by have:=N 0 (by simp[cB]);simpa using this) h;exact⟨e,s',by simp only[erp,_z,run_bind,bV o,bV w,JF];exact h1,h2,q⟩;cases h;split at h;rename_i o;obtain⟨e,s',h1,h2,q⟩:=JQW h;exact⟨e,s',by simp only[erp,_z,run_bind,bV o,JF];exact h1,h2,q⟩;cases h;split at h;rename_i o;obtain⟨e,s',h1,h2,q⟩:=JRl (by have:=N 0 (by simp[cB]);simpa using this) h;exact⟨e,s',by simp only[erp,_z,run_bind,bV o,JF];exact h1,h2,q⟩;cases h
structure kK where
 op:TOp
 dst:Option Nat
 g:Option (Nat×Bool)
def eri(i:kK):bX:=⟨erp i.op,i.dst,i.g⟩
def rbE(g:Nat)(v:TV):List (Nat×TV)->List (Nat×TV)|[]=>[]|(m,u)::r=>if m=g then(m,v)::r else(m,u)::rbE g v r
def rb(g:Nat)(v:TV)(s:_v):_v:=⟨rbE g v s.env,s._o⟩
theorem ww{g:Nat}{v:TV}{s:_v}(h:tlk g s.env=Z v):rb g v s=s:=by
 have e: ∀env:List (Nat×TV),tlk g env=Z v->rbE g v env=env:=by
  intro env
  induction env with
  |nil=>intro h;cases h
  |cons x r ih=>
   grind [tlk,rbE]
 simp_all [rb]
def di(G:TG)(i:kK)(_m:Nat)(s:_v)(k:_v->Option R):Option R:=
 match i.g with
 |none=>if qA s _m (cB i.op)=O then top G i.op i.dst _m s k else Y
 |some (g,e)=>match tlk g s.env with
  |some (.a (.c (.d .b x)))=>if x=e then
   (if qA s _m (cB i.op)=O then top G i.op i.dst _m (rb g (vb e) s) k else Y)
   else k (bH i.dst uv (rb g (vb !e) s))
  |some (.tup [])=>k (bH i.dst uv s)
  |_=>Y
theorem Qo{F:Orc}{G:TG}(B:GOk F G){i:kK}{_m:Nat}{s:_v}{k:_v->Option R}{r:R}(h:di G i _m s k=Z r):Ok (bZ F (eri i) _m) i.dst s k r:=by
 have z: ∀{s:_v},qA s _m (cB i.op)=O->top G i.op i.dst _m s k=Z r->Ok (opD F (erp i.op) _m) i.dst s k r:=(by intro s hd h;obtain⟨e,s',h1,h2,w⟩:=JTE B hd h;refine⟨e,s',?_,h2,w⟩;grind [opD,run_bind,NJ,Rm]);unfold di at h;split at h;grind [bZ,eri];rename_i g n A;split at h;rename_i x j;have o:lk g (JD s).env=Z (.p (.b x)):=by show lk g (gL _ s.env)=_;rw[CN,j];rfl
 split at h;rename_i q;subst q;rw[ww j]at h;split at h;rename_i hd;obtain⟨e,s',h1,h2,w⟩:=z hd h;refine⟨e,s',?_,h2,w⟩;grind [bZ,eri,yY];cases h;rename_i q;have y:x= !n:=by clear o j h;cases x<;>cases n<;>first|rfl|grind
 subst y;rw[ww j]at h;refine fN (v:=uv) ?_ h;simp only[bZ,eri,A,yY,o,JF];rw[if_neg q];rfl;rename_i j;have o:lk g (JD s).env=Z (.tup []):=by show lk g (gL _ s.env)=_;rw[CN,j];rfl
 refine fN (v:=uv) ?_ h;simp only[bZ,eri,A,yY,o,JF,JY];rfl;cases h
def ei(G:TG):List kK->Nat->_v->(_v->Option R)->Option R|[],_,s,k=>k s|i::r,_m,s,k=>di G i _m s λs=>ei G r (_m+cB i.op) s k
theorem O9{F:Orc}{G:TG}(g:GOk F G): ∀{ins:List kK} {_m:Nat} {s:_v} {k:_v->Option R} {r:R},ei G ins _m s k=Z r-> ∃s',hE F (ins.map eri) _m (JD s)=Z (JD s')/\k s'=Z r
 |[],_m,s,k,r,h=>⟨s,rfl,h⟩
 |i::q,_m,s,k,r,h=>by
  simp only[ei]at h;obtain⟨e,s1,h1,h2,h⟩:=Qo g h;obtain⟨j,o,n⟩:=O9 g h;grind [hE,eri,NJ]
def MJ:List kK->Nat|[]=>0|i::r=>cB i.op+MJ r
theorem mp: ∀ins:List kK,news (ins.map eri)=MJ ins
 |[]=>rfl
 |i::r=>by
  simp only[cH,news,MJ,mp r];grind [eri,NJ]
def f0(n:Nat)(s:_v):_v:=if n=0 then s else⟨s.env,s._o++_J n .dead⟩
theorem JEE(_o:List TB)(n:Nat):_w (_o++_J n .dead)=_w _o:=by
 funext c
 unfold _w;rcases zQ3 c _o.length with h|h;grind;rw[uO h,nT h,List.getElem?_replicate];split<;>rfl
theorem R8(n:Nat)(s:_v):JD (f0 n s)=⟨(JD s).env,room n (JD s)._o⟩:=by
 unfold f0 room;split;rfl;unfold JD;rw[JEE];simp only[tA,dq];rfl
end
end Go.Am
end
section
namespace Go.Am
def Rb{α:Type}(S:Nat->Prop)(m:RM α)(st:St):Prop:= ∀b,Loc.blk b∈m.reads st->S b
section
variable {α β:Type} {S:Nat->Prop} {st:St}
theorem cE(a:α):Rb S (.ret a) st:=λb h=>by grind [RM.reads]
theorem eV:Rb S (.fail:RM α) st:=λb h=>by grind [RM.reads]
theorem bU{m:RM α}{f:α->RM β}(h:Rb S m st)(hf: ∀a,m.run st=Z a->Rb S (f a) st):Rb S (m.bind f) st:=by
 intro b hb;rw[zE]at hb;rcases zQ9.1 hb with hb|hb;exact h b hb;cases hm:m.run st with
 |none=>simp_all
 |some a=>rw[hm]at hb;exact hf a hm b (by simpa using hb)
theorem rT{b:Nat}{k:_x->RM α}(hb:S b)(h: ∀v,st._o[b]?=Z v->Rb S (k v) st):Rb S (.blk b k) st:=by
 intro c hc;simp only[RM.reads,bS]at hc;rcases hc with hc|hc;simp_all;cases hv:st._o[b]? with
 |none=>simp_all
 |some v=>rw[hv]at hc;exact h v hv c hc
theorem Qw{n:Nat}{k:AV->RM α}(h: ∀v,lk n st.env=Z v->Rb S (k v) st):Rb S (.slot n k) st:=by
 intro c hc;simp only[RM.reads,bS]at hc;rcases hc with hc|hc;cases hc;cases hv:lk n st.env with
 |none=>simp_all
 |some v=>rw[hv]at hc;exact h v hv c hc
theorem Nz(x:Option AV):Rb S (val x) st:=by cases x<;>first|exact eV|exact cE _
theorem jM(x:Opd):Rb S (ev x) st:=by cases x<;>first|exact cE _|exact Qw λv _=>cE v
theorem x9: ∀xs:List Opd,Rb S (evs xs) st|[]=>cE _|x::r=>bU (jM x) λv _=>bU (x9 r) λvs _=>cE _
theorem wj(x:Option Opd):Rb S (evo x) st:=by cases x<;>simp_all [cE,bU,jM]
end
def gE:AV->List Nat| .ptr b _=>[b]| ._r b _ _=>[b]| .ep b _ _ _=>[b]| .pre b _ _=>[b]|_=>[]
def avR:AV->List Nat| .agg cs=>cs.flatMap gE|x=>gE x
section
variable {S:Nat->Prop} {st:St}
theorem JSe{x:AV}(h: ∀b∈gE x,S b):Rb S (fz.fz1 x) st:=by
 cases x with
 |_r b i n=>
  refine rT (h b (by simp[gE])) λv _=>?_;grind [cE,eV]
 |p c=>exact cE _
 |_=>exact eV
theorem Mt: ∀{xs:List AV},(∀b∈xs.flatMap gE,S b)->Rb S (fz.fzL xs) st|[],_=>cE _|x::r,h=>bU (JSe λb hb=>h b (by simp[hb])) λa _=>bU (Mt λb hb=>h b (by simp_all)) λc _=>cE _
theorem MC{x:AV}(h: ∀b∈avR x,S b):Rb S (fz x) st:=by
 cases x with
 |_r b i n=>
  refine rT (h b (by simp[avR,gE])) λv _=>?_;grind [cE,eV]
 |p c=>exact cE _
 |data cs=>exact cE _
 |agg cs=>exact Mt h
 |_=>exact eV
theorem JUl{x:AV}{a:List PV×List (Nat×_x)}(h:(fz.fz1 x).run st=Z a): ∀y∈a.2,y.1∈gE x:=by
 cases x with
 |_r b i n=>
  simp only[fz.fz1,dR]at h;obtain⟨v,_,h⟩:=bN.1 h;cases v with
  |arr w _l _f=>
   dsimp only at h;split at h;injection h with h;grind [gE];cases h
  |_=>cases h
 |p c=>cases h;simp
 |_=>cases h
theorem N1: ∀{xs:List AV} {a:List PV×List (Nat×_x)},(fz.fzL xs).run st=Z a-> ∀y∈a.2,y.1∈xs.flatMap gE
 |[],a,h,y,g=>by injection h with h;grind
 |x::r,a,h,y,g=>by
  simp only[fz.fzL]at h;obtain⟨c,h1,h⟩:=bind_some h;obtain⟨e,h2,h⟩:=bind_some h;cases h;simp only[zQ9]at g;simp only[List.flatMap_cons,zQ9];rcases g with g|g;grind [JUl];exact .inr (N1 h2 y g)
theorem LN{x:AV}{a:List PV×List (Nat×_x)}(h:(fz x).run st=Z a): ∀y∈a.2,y.1∈avR x:=by
 cases x with
 |_r b i n=>
  simp only[fz,dR]at h;obtain⟨v,_,h⟩:=bN.1 h;cases v with
  |arr w _l _f=>
   dsimp only at h;split at h;injection h with h;grind [avR,gE];cases h
  |_=>cases h
 |p c=>cases h;simp
 |data cs=>cases h;simp
 |agg cs=>exact N1 h
 |_=>cases h
theorem j9{_l:Nat}{x:AV}(h: ∀b∈avR x,S b):Rb S (gO _l x) st:=by
 unfold gO;grind [cE,eV,rT,avR,gE]
theorem JR1{agg:Bool}{size:Nat}{x:AV}(h: ∀b∈avR x,S b):Rb S (iD agg size x) st:=by
 unfold iD;split
 all_goals grind [Nz,eV,rT,avR,gE]
theorem SU{x:Option AV}{e:Eff}(h:(val x).run st=Z e):e.ws=[]:=by
 cases x with
 |none=>cases h
 |some v=>cases h;rfl
theorem JQP{agg:Bool}{size:Nat}{x:AV}{e:Eff}(h:(iD agg size x).run st=Z e):e.ws=[]:=by
 unfold iD at h;split at h;split at h<;>first|exact SU h|cases h
 simp only[dR]at h;obtain⟨v,_,h⟩:=bN.1 h;split at h;split at h<;>first|exact SU h|cases h
 cases h;simp only[dR]at h;obtain⟨v,_,h⟩:=bN.1 h;split at h;split at h;split at h;split at h<;>first|exact SU h|cases h
 cases h;cases h;cases h;cases h
theorem JP7{size:Nat}{x v:AV}(h: ∀b∈avR x,S b)(hv: ∀b∈avR v,S b):Rb S (jE size x v) st:=by
 unfold jE;split;grind [rT,avR,gE,cE,eV];refine rT (h _ (by simp[avR,gE])) λy _=>?_;grind [bU,MC,cE,eV];simp[eV]
theorem JPK{size:Nat}{x v:AV}{e:Eff}(h:(jE size x v).run st=Z e): ∀y∈e.ws,y.1∈avR x++avR v:=by
 unfold jE at h;split at h;simp only[dR]at h;obtain⟨w,_,h⟩:=bN.1 h;split at h;split at h;split at h;split at h;injection h with h;grind [avR,gE];cases h;cases h;cases h;cases h;simp only[dR]at h;obtain⟨w,_,h⟩:=bN.1 h;split at h;split at h;split at h;obtain⟨a,h1,h⟩:=bind_some h;split at h;split at h;cases h;intro y g;grind [LN,avR,gE];cases h;cases h;cases h;cases h;cases h;cases h
theorem JNl{_l:Nat}{x i:AV}(h: ∀b∈avR x,S b):Rb S (mS _l x i) st:=by
 unfold mS;grind [cE,eV,rT,avR,gE]
theorem JPE{_l:Nat}{x i:AV}{e:Eff}(h:(mS _l x i).run st=Z e):e.ws=[]:=by
 unfold mS at h;split at h;split at h;split at h;cases h;rfl;cases h;cases h;simp only[dR]at h;obtain⟨v,_,h⟩:=bN.1 h;split at h;split at h;cases h;rfl;cases h;cases h;cases h
theorem JUo{_l bytes:Nat}{x y:AV}(h: ∀b∈avR x,S b)(hy: ∀b∈avR y,S b):Rb S (kJ _l bytes x y) st:=by
 unfold kJ;split
 all_goals grind [rT,avR,gE,bU,j9,cE,eV]
theorem JT7{_l bytes:Nat}{x y:AV}{e:Eff}(h:(kJ _l bytes x y).run st=Z e): ∀z∈e.ws,z.1∈avR x:=by
 unfold kJ at h;split at h;simp only[dR]at h;obtain⟨v,_,h⟩:=bN.1 h;split at h;obtain⟨_m,_,h⟩:=bind_some h;split at h;injection h with h;grind [avR,gE];cases h;cases h;cases h
theorem JUC{_l:Nat}{x y:AV}(h: ∀b∈avR x,S b):Rb S (vA _l x y) st:=by
 unfold vA;grind [rT,avR,gE,cE,eV]
theorem JTa{_l:Nat}{x y:AV}{e:Eff}(h:(vA _l x y).run st=Z e):e.ws=[]:=by
 unfold vA at h;split at h;simp only[dR]at h;obtain⟨v,_,h⟩:=bN.1 h;split at h;split at h;cases h;rfl;cases h;cases h;cases h
theorem Qs: ∀{k _m:Nat},(∀j,j<k->S (_m+j))->Rb S (vL _m k) st
 |0,_,_=>cE _
 |k+1,_m,h=>rT (h 0 (by omega)) λv _=>by
  cases v with
  |dead=>exact Qs λj e=>by grind
  |_=>exact eV
theorem N4: ∀{xs:List Opd},(∀x∈xs,∀v,(ev x).run st=Z v-> ∀b∈avR v,S b)->Rb S (fzs xs) st|[],_=>cE _|x::r,h=>bU (jM x) λv e=>bU (MC (h x (by simp) v e)) λa _=>bU (N4 λy g=>h y (by simp[g])) λc _=>cE _
theorem xq: ∀{xs:List Opd} {a:List (List PV)×List (Nat×_x)},(∀x∈xs,∀v,(ev x).run st=Z v-> ∀b∈avR v,S b)->(fzs xs).run st=Z a-> ∀y∈a.2,S y.1
 |[],a,_,h,y,g=>by injection h with h;grind
 |x::r,a,j,h,y,g=>by
  simp only[fzs]at h;obtain⟨v,k,h⟩:=bind_some h;obtain⟨c,h1,h⟩:=bind_some h;obtain⟨e,h2,h⟩:=bind_some h;cases h;simp only[zQ9]at g;rcases g with g|g;exact j x (by simp) v k _ (LN h1 y g);exact xq (λz n=>j z (by simp[n])) h2 y g
theorem Pz{x:AV}(h: ∀b∈avR x,S b):Rb S (kH x) st:=by
 cases x with
 |_r b i n=>
  refine bU (MC h) λa _=>?_;grind [cE,eV]
 |agg cs=>exact bU (MC h) λa _=>cE _
 |tup cs=>exact eV
 |_=>exact cE _
theorem Pe{x:AV}{a:AV×List (Nat×_x)}(h:(kH x).run st=Z a): ∀y∈a.2,y.1∈avR x:=by
 cases x with
 |_r b i n=>
  simp only[kH]at h;obtain⟨c,h1,h⟩:=bind_some h;split at h;cases h;exact LN h1;cases h
 |agg cs=>simp only[kH]at h;obtain⟨c,h1,h⟩:=bind_some h;cases h;exact LN h1
 |tup cs=>cases h
 |_=>cases h;simp
theorem OG: ∀{m:List Bool} {xs:List AV},(∀x∈xs,∀b∈avR x,S b)->Rb S (fY m xs) st|_,[],_=>by simp[fY,cE]|[],x::r,h=>bU (Pz (h x (by simp))) λa _=>bU (OG λy e=>h y (by simp[e])) λc _=>cE _|true::m,x::r,h=>bU (OG λy e=>h y (by simp[e])) λc _=>cE _|false::m,x::r,h=>bU (Pz (h x (by simp))) λa _=>bU (OG λy e=>h y (by simp[e])) λc _=>cE _
theorem OI: ∀{m:List Bool} {xs:List AV} {a:List AV×List (Nat×_x)},(∀x∈xs,∀b∈avR x,S b)->(fY m xs).run st=Z a-> ∀y∈a.2,S y.1
 |m,[],a,_,h,y,g=>by unfold fY at h;injection h with h;grind
 |[],x::r,a,j,h,y,g=>by
  simp only[fY]at h;obtain⟨c,h1,h⟩:=bind_some h;obtain⟨e,h2,h⟩:=bind_some h;cases h;simp only[zQ9]at g;rcases g with g|g;exact j x (by simp) _ (Pe h1 y g);exact OI (λz k=>j z (by simp[k])) h2 y g
 |true::m,x::r,a,j,h,y,g=>by simp only[fY]at h;obtain⟨e,h2,h⟩:=bind_some h;cases h;exact OI (λz k=>j z (by simp[k])) h2 y g
 |false::m,x::r,a,j,h,y,g=>by
  simp only[fY]at h;obtain⟨c,h1,h⟩:=bind_some h;obtain⟨e,h2,h⟩:=bind_some h;cases h;simp only[zQ9]at g;rcases g with g|g;exact j x (by simp) _ (Pe h1 y g);exact OI (λz k=>j z (by simp[k])) h2 y g
theorem Pt{ws:List (Nat×_x)}{b:Nat}(h:S b):Rb S (sY ws b) st:=rT h λv _=>by grind [cE]
theorem kq{ws:List (Nat×_x)}: ∀{r:List Nat} {acc:List _A},(∀b∈r,S b)->Rb S (eR ws (r.map .whole) acc) st|[],acc,_=>cE _|b::r,acc,h=>by simp only[cH,eR];refine bU (Pt (h b (by simp))) λx _=>?_;cases x<;>exact kq λc hc=>h c (by simp[hc])
theorem Ac{ws:List (Nat×_x)}{ρ:_A->Option Nat}: ∀{r:List Nat},(∀b∈r,S b)->Rb S (lZ ws ρ (r.map .whole)) st
 |[],_=>cE _
 |b::r,h=>by
  simp only[cH,lZ,BU];refine bU (bU (Pt (h b (by simp))) λx _=>?_) λx _=>bU (Ac λc hc=>h c (by simp[hc])) λl _=>cE _;grind [cE,eV]
theorem A2{ws:List (Nat×_x)}{es:List _A}{_m:Nat}: ∀{r:List Nat} {l:List _x},Rb S (jT ws es _m (r.map .whole) l) st
 |[],l=>by cases l<;>exact cE _
 |b::r,[]=>eV
 |b::r,x::l=>by simp only[cH,jT];refine bU ?_ λy _=>bU A2 λe _=>cE _;cases x<;>grind [vP,cE,eV]
theorem A5{ws:List (Nat×_x)}{es:List _A}{_m:Nat}: ∀{r:List Nat} {l:List _x} {g:List (Nat×_x)},(jT ws es _m (r.map .whole) l).run st=Z g-> ∀y∈g,y.1∈r
 |[],l,g,h,y,j=>by
  have:g=[]:=by cases l<;>(injection h with h;exact h.symm)
  simp_all
 |b::r,[],g,h,_,_=>by cases h
 |b::r,x::l,g,h,y,j=>by
  simp only[cH,jT]at h;obtain⟨z,h1,h⟩:=bind_some h;obtain⟨zs,h2,h⟩:=bind_some h;cases h;rcases bS.1 j with rfl|j;cases x with
  |box cs=>
   simp only[vP]at h1;split at h1;cases h1;simp;cases h1
  |arr w e _f=>cases h1;simp
  |dead=>cases h1
  exact gF _ (A5 h2 y j)
theorem n7{es:List _A}{_m:Nat}: ∀{l:List _x} {k:Nat} {n:List (Nat×_x)},iU es _m k l=Z n-> ∀y∈n,∃j,j<l.length/\y.1=k+j
 |[],k,n,h,y,g=>by injection h with h;simp_all
 | .dead::l,k,n,h,_,_=>by cases h
 | .box cs::l,k,n,h,y,g=>by
  simp only[iU]at h;split at h;rename_i c zs _ o;cases h;rcases bS.1 g with rfl|g;simp_all;obtain⟨j,q,e⟩:=n7 o y g;exact⟨j+1,by simp;omega,by omega⟩;cases h
 | .arr w e _f::l,k,n,h,y,g=>by
  simp only[iU]at h;split at h;rename_i zs o;cases h;rcases bS.1 g with rfl|g;simp_all;obtain⟨j,q,e⟩:=n7 o y g;exact⟨j+1,by simp;omega,by omega⟩;cases h
theorem mw(e x:_A)(l:List _A)(h:e∈l):e∈yO x l:=by grind [yO]
mutual
theorem JPr: ∀(x:AV) (l:List _A) (e:_A),e∈l->e∈cV x l| .ptr b off,l,e,h=>mw e _ l h| ._r b i n,l,e,h=>mw e _ l h| .ep b g i off,l,e,h=>mw e _ l h| .fn f a c,l,e,h=>entsL_sub c _ e (entsL_sub a l e h)| .agg cs,l,e,h=>entsL_sub cs l e h| .tup cs,l,e,h=>entsL_sub cs l e h| .p _,l,e,h=>h| .data _,l,e,h=>h| .cp _ _,l,e,h=>h| .unk,l,e,h=>h| .pre _ _ _,l,e,h=>h
theorem entsL_sub: ∀(xs:List AV) (l:List _A) (e:_A),e∈l->e∈cV.entsOfL xs l|[],l,e,h=>h|x::r,l,e,h=>entsL_sub r _ e (JPr x l e h)
end
theorem Rv{ws:List (Nat×_x)}: ∀{r acc l:List _A},(eR ws r acc).run st=Z l-> ∀e∈acc,e∈l:=by
 intro r
 induction r with
 |nil=>intro acc l h e g;injection h with h;simp_all
 |cons x r ih=>
  intro acc l h e g;cases x with
  |whole b=>
   simp only[eR]at h;obtain⟨y,_,h⟩:=bind_some h;cases y with
   |box cs=>exact ih h e (entsL_sub cs acc e g)
   |_=>exact ih h e g
  |elem b j i=>exact ih h e g
theorem zu{F:Orc}{f:FuncId}{xs:List AV}{ws:List (Nat×_x)}{o k _p:List Nat}{n _m:Nat}(r: ∀b∈_p,S b)(hw: ∀y∈ws,S y.1)(hn: ∀j,j<n->S (_m+j))
  (h0:cV.entsOfL xs []=o.map .whole) (h1:(eR ws (o.map .whole) (o.map .whole)).run st=Z (k.map .whole)) (h2:(eR ws (k.map .whole) (k.map .whole)).run st=Z (_p.map .whole)):
  Rb S (gM F f (xs,ws) n _m) st/\(∀e,(gM F f (xs,ws) n _m).run st=Z e-> ∀y∈e.ws,S y.1):=by
 have s1: ∀b∈k,S b:=λb hb=>by have:=Rv h2 (.whole b) (oA.2 ⟨b,hb,rfl⟩);simp_all
 have s0: ∀b∈o,S b:=λb hb=>by have:=Rv h1 (.whole b) (oA.2 ⟨b,hb,rfl⟩);simp_all
 constructor
 ·unfold gM;simp only[h0];refine bU (kq s0) λa g=>?_;rw[h1]at g;cases g
  refine bU (kq s1) λa g=>?_;rw[h2]at g;cases g;split
  ·split
   all_goals grind [eV,bU,Ac,A2,cE]
  simp[eV]
 intro e h y w;unfold gM at h;simp only[h0]at h;obtain⟨a,g,h⟩:=bind_some h;rw[h1]at g;cases g;obtain⟨a,g,h⟩:=bind_some h;rw[h2]at g;cases g;split at h;split at h;cases h;obtain⟨bl,_,h⟩:=bind_some h;split at h;cases h;split at h;rename_i hlen;split at h;rename_i v fresh _ hf;obtain⟨q,hb,h⟩:=bind_some h;injection h with h;grind [A5,n7];cases h;cases h;cases h
end
def tcR:TC->List Nat| .ptr b _=>[b]| ._r b=>[b]| .slo b _=>[b]| .ep b _ _=>[b]| .epo b _ _ _=>[b]| .pre b _=>[b]| .pro b _ _=>[b]| .suf b _=>[b]| .suo b _ _=>[b]|_=>[]
def tvR:TV->List Nat| .a (.c x)=>tcR x| .a (.m _ cs)=>cs.flatMap tcR|_=>[]
theorem JTO(L:Nat->Nat)(x:TC):gE (bD L x)=tcR x:=by cases x<;>rfl
theorem lV(L:Nat->Nat)(v:TV):avR (JX L v)=tvR v:=by
 cases v with
 |a x=>
  cases x with
  |c x=>cases x<;>rfl
  |dt t x=>rfl
  |m t cs=>show(cs.map (bD L)).flatMap gE=cs.flatMap tcR;simp[List.flatMap_map,JTO]
  |fn f a c=>rfl
 |tup vs=>rfl
def rng(_m:Nat):Nat->List Nat|0=>[]|k+1=>_m::rng (_m+1) k
theorem tM: ∀{k _m j:Nat},j<k->_m+j∈rng _m k
 |0,_,_,h=>by omega
 |k+1,_m,j,h=>by
  cases j with
  |zero=>simp[rng]
  |succ j=>simp only[rng,bS];right;rw[show _m+(j+1)=_m+1+j by omega];exact tM (by omega)
def iN{α β:Type}(m:Option α)(f:α->Option β):Option β:=match m with|some x=>f x|none=>Y
theorem iV{α β:Type}{m:Option α}{f:α->Option β}{b:β}(h:iN m f=Z b): ∃a,m=Z a/\f a=Z b:=by
 cases m with
 |none=>cases h
 |some a=>exact⟨a,rfl,h⟩
def uf(l:List (TV×Bool))(s:_v):Option (List Nat):=LM l s λxs s1=>iN (IA xs []) λe=>iN (yF s1 e e) λi1=>yF s1 i1 i1
def tcU(l:List (TV×Bool))(n _m:Nat)(s:_v):Option (List Nat×List Nat):=iN (uf l s) λ_p=>Z (rng _m n++(l.flatMap λx=>tvR x.1)++_p,rng _m n++(l.flatMap λx=>tvR x.1)++_p)
def tpR(s:_v):List (Nat×TO)->Option (List Nat)|[]=>Z []|(_,o)::r=>iN (tev o s) λv=>iN (tpR s r) λl=>Z (tvR v++l)
def uw(op:TOp)(_m:Nat)(s:_v):Option (List Nat×List Nat):=
 match op with
 | .load _ _ x=>iN (tev x s) λv=>Z (tvR v,[])
 | .newbox _=>Z ([_m],[_m])
 | .store _ x y=>iN (tev x s) λv=>iN (tev y s) λu=>Z (tvR v++tvR u,tvR v++tvR u)
 | .iaddr _ x _=>iN (tev x s) λv=>Z (tvR v,[])
 | .lits own t n ps=>iN (tpR s ps) λl=>Z (rng _m (cB (.lits own t n ps))++l,rng _m (cB (.lits own t n ps))++l)
 | .appn _ _ y=>iN (tev y s) λv=>Z (_m::tvR v,[_m])
 | .app _ _ x y=>iN (tev x s) λv=>iN (tev y s) λu=>Z (tvR v++tvR u,tvR v)
 | .psuf _ x y=>iN (tev x s) λv=>Z (tvR v,[])
 | .slice _ x _ _ _=>iN (tev x s) λv=>Z (tvR v,tvR v)
 | .call _ args n=>iN (xJ (args.map λx=>(x,J)) s) λl=>tcU l n _m s
 | .callo _ args n=>iN (xJ args s) λl=>tcU l n _m s
 | ._E own t bytes l c=>Z (rng _m (cB (._E own t bytes l c)),rng _m (cB (._E own t bytes l c)))
 | .conv k x=>iN (tev x s) λv=>Z (rng _m (cB (.conv k x))++tvR v,rng _m (cB (.conv k x)))
 |_=>Y
theorem oF{F:Orc}{op:TOp}{_m:Nat}{st:St}{S:Nat->Prop}(hd: ∀j,j<cB op->S (_m+j))(h:Rb S (_z F (erp op) _m) st):Rb S (opD F (erp op) _m) st:=by
 grind [opD,NJ,bU,Qs]
theorem oI{F:Orc}{op:AOp}{_m:Nat}{st:St}{e:Eff}(h:(opD F op _m).run st=Z e):(_z F op _m).run st=Z e:=by unfold opD at h;obtain⟨_,_,h⟩:=bind_some h;exact h
def UW(F:Orc)(op:AOp)(_m:Nat)(st:St)(U W:List Nat):Prop:=Rb (· ∈U) (opD F op _m) st/\ ∀e,(opD F op _m).run st=Z e-> ∀y∈e.ws,y.1∈W
theorem lY{x:TO}{s:_v}{v:TV}(h:tev x s=Z v){a:AV}(ha:(ev (erO x)).run (JD s)=Z a):a=JX (_w s._o) v:=by
 grind [bV]
theorem Po{l:List (TV×Bool)}{s:_v}{_p:List Nat}(h:uf l s=Z _p): ∃(xs:List AV) (ws:List (Nat×_x)) (e i1:List Nat),(fY (l.map (·.2)) (l.map λx=>JX (_w s._o) x.1)).run (JD s)=Z (xs,ws)/\
  cV.entsOfL xs []=e.map .whole/\(eR ws (e.map .whole) (e.map .whole)).run (JD s)=Z (i1.map .whole)/\(eR ws (i1.map .whole) (i1.map .whole)).run (JD s)=Z (_p.map .whole):=by
 unfold uf at h;obtain⟨xs,s1,ws,h1,g,h⟩:=mb (Fzd.refl s) h;rw[rD]at g;obtain⟨e,h2,h⟩:=iV h;obtain⟨i1,k,j⟩:=iV h;exact⟨_,ws,e,i1,h1,VR (_w s._o) (l:=[]) h2,DG g k,DG g j⟩
theorem JPb{F:Orc}{f:FuncId}{vs:List AV}{n _m:Nat}{st:St}{S:Nat->Prop}{a:List AV×List (Nat×_x)}(ha:(lN vs).run st=Z a)(hr:Rb S (lN vs) st)
  (h: ∀(_:Unit),Rb S (gM F f a n _m) st):Rb S (jD F f vs n _m) st:=by
 unfold jD;refine bU hr λk g=>?_;rw[ha]at g;cases g;have h:=h ();unfold gM at h;intro b hb;refine h b ?_
 revert hb
 simp only[zE];intro hb;rcases zQ9.1 hb with hb|hb;grind;refine zQ9.2 (.inr ?_)
 revert hb
 cases(eR a.2 (cV.entsOfL a.1 []) (cV.entsOfL a.1 [])).run st with
 |none=>grind
 |some j=>
  simp only[cN,Option.getD_some,zE];intro hb;rcases zQ9.1 hb with hb|hb;grind;refine zQ9.2 (.inr ?_)
  revert hb
  cases(eR a.2 j j).run st with
  |none=>grind
  |some es=>
   simp only[cN,Option.getD_some];split;split;grind;simp only[zE];intro hb;rcases zQ9.1 hb with hb|hb;grind;refine zQ9.2 (.inr ?_)
   revert hb
   cases(lZ a.2 (λe=>dV e es 0) es).run st<;>grind [RM.reads]
   grind
theorem JVk(F:Orc){op:TOp}{_m:Nat}{s:_v}{U W:List Nat}(h:uw op _m s=Z (U,W)):UW F (erp op) _m (JD s) U W:=by
 unfold uw at h;split at h;rename_i agg t x;obtain⟨v,w,h⟩:=iV h;injection h with h;injection h with h1 h2;subst h1 h2;refine⟨oF (op:=.load agg t x) (λj A=>by grind [cB]) (bU (jM _) λa r=>?_),λe g y B=>?_⟩;rw[lY w r];grind [JR1,lV];have g:=oI g;simp only[erp,_z]at g;obtain⟨a,r,g⟩:=bind_some g;grind [JQP];rename_i t;injection h with h;injection h with h1 h2;subst h1 h2;refine⟨oF (op:=.newbox t) (λj A=>by grind [cB]) (cE _),λe g y B=>?_⟩;have g:=oI g;injection g with g;grind;rename_i t x y;obtain⟨v,w,h⟩:=iV h;obtain⟨u,G,h⟩:=iV h;injection h with h;injection h with h1 h2;subst h1 h2;refine⟨oF (op:=.store t x y) (λj A=>by grind [cB]) (bU (jM _) λa r=>bU (jM _) λc hc=>?_),λe g z E=>?_⟩;rw[lY w r,lY G hc];grind [JP7,lV];have g:=oI g;simp only[erp,_z]at g;obtain⟨a,r,g⟩:=bind_some g;obtain⟨c,hc,g⟩:=bind_some g;have:=JPK g z E;rwa[lY w r,lY G hc,lV,lV]at this;rename_i t x i;obtain⟨v,w,h⟩:=iV h;injection h with h;injection h with h1 h2;subst h1 h2;refine⟨oF (op:=.iaddr t x i) (λj A=>by grind [cB]) (bU (jM _) λa r=>bU (jM _) λc hc=>?_),λe g y B=>?_⟩;rw[lY w r];grind [JNl,lV];have g:=oI g;simp only[erp,_z]at g;obtain⟨a,r,g⟩:=bind_some g;obtain⟨c,hc,g⟩:=bind_some g;grind [JPE];rename_i own t n ps;obtain⟨l,C,h⟩:=iV h;injection h with h;injection h with h1 h2;subst h1 h2;have _c: ∀x∈ps.map (λx=>erO x.2),∀v,(ev x).run (JD s)=Z v-> ∀b∈avR v,b∈rng _m (cB (.lits own t n ps))++l:=by
  have _b: ∀(ps:List (Nat×TO)) (l:List Nat),tpR s ps=Z l-> ∀x∈ps.map (λx=>erO x.2),∀v,(ev x).run (JD s)=Z v-> ∀b∈avR v,b∈l:=by
   intro ps
   induction ps with
   |nil=>simp_all
   |cons p ps ih=>
    intro l C x K v w b hb;obtain⟨i,o⟩:=p;simp only[tpR]at C;obtain⟨u,G,C⟩:=iV C;obtain⟨q,hq,C⟩:=iV C;cases C;simp only[cH,bS]at K;rcases K with rfl|K;rw[lY G w,lV]at hb;simp[hb];grind
  grind
 have _e:(ps.map λx=>(x.1,erO x.2)).map (·.2)=ps.map λx=>erO x.2:=by simp
 refine⟨oF (op:=.lits own t n ps) (λj A=>zQ9.2 (.inl (tM A))) ?_,λe g y B=>?_⟩;grind [erp,_z,bU,N4,cE,eV];have g:=oI g;simp only[erp,_z,_e]at g;obtain⟨a,r,g⟩:=bind_some g;split at g;split at g;rename_i _d;cases g;simp only[zQ9,fR]at B;rcases B with B|rfl;exact xq _c r y B;exact zQ9.2 (.inl (by have:=tM (k:=cB (.lits own t n ps)) (_m:=_m) (j:=0) (by simp[cB,_d]);grind));cases g;exact xq _c r y B;cases g;rename_i t bytes y;obtain⟨v,w,h⟩:=iV h;injection h with h;injection h with h1 h2;subst h1 h2;refine⟨oF (op:=.appn t bytes y) (λj A=>by grind [cB]) (bU (jM _) λa r=>?_),λe g z E=>?_⟩;rw[lY w r];grind [bU,j9,lV,cE,eV];have g:=oI g;simp only[erp,_z]at g;obtain⟨a,r,g⟩:=bind_some g;obtain⟨_f,_,g⟩:=bind_some g;split at g;injection g with g;grind;cases g;rename_i t bytes x y;obtain⟨v,w,h⟩:=iV h;obtain⟨u,G,h⟩:=iV h;injection h with h;injection h with h1 h2;subst h1 h2;refine⟨oF (op:=.app t bytes x y) (λj A=>by grind [cB]) (bU (jM _) λa r=>bU (jM _) λc hc=>?_),λe g z E=>?_⟩;rw[lY w r,lY G hc];grind [JUo,lV];have g:=oI g;simp only[erp,_z]at g;obtain⟨a,r,g⟩:=bind_some g;obtain⟨c,hc,g⟩:=bind_some g;have:=JT7 g z E;rwa[lY w r,lV]at this;rename_i t x y;obtain⟨v,w,h⟩:=iV h;injection h with h;injection h with h1 h2;subst h1 h2;refine⟨oF (op:=.psuf t x y) (λj A=>by grind [cB]) (bU (jM _) λa r=>bU (jM _) λc hc=>?_),λe g z E=>?_⟩;rw[lY w r];simp[JUC,lV];have g:=oI g;simp only[erp,_z]at g;obtain⟨a,r,g⟩:=bind_some g;obtain⟨c,hc,g⟩:=bind_some g;grind [JTa];rename_i Q x lo hi mx;obtain⟨v,w,h⟩:=iV h;injection h with h;injection h with h1 h2;subst h1 h2;refine⟨oF (op:=.slice Q x lo hi mx) (λj A=>by grind [cB]) (bU (jM _) λa r=>bU (wj _) λ_ _=>bU (wj _) λ_ _=>bU (wj _) λ_ _=>?_),λe g z E=>?_⟩;have e:=lY w r;grind [bU,MC,lV,cE,eV,Nz];have g:=oI g;simp only[erp,_z]at g;obtain⟨a,r,g⟩:=bind_some g;obtain⟨_,_,g⟩:=bind_some g;obtain⟨_,_,g⟩:=bind_some g;obtain⟨_,_,g⟩:=bind_some g;have e0:=lY w r;split at g;obtain⟨y,B,g⟩:=bind_some g;split at g;split at g;injection g with g;grind [LN,lV];cases g;cases g;grind [SU];rename_i f args n;obtain⟨l,C,h⟩:=iV h;unfold tcU at h;obtain⟨_p,hi,h⟩:=iV h;injection h with h;injection h with h1 h2;subst h1 h2;obtain⟨xs,ws,T,i1,D,N,M,L⟩:=Po hi;obtain⟨_e,P⟩:=CY C;rw[UU]at _e;rw[OY _ _ (λx K=>by simp_all)]at D;have hA: ∀x∈l.map (λx=>JX (_w s._o) x.1),∀b∈avR x,b∈rng _m n++(l.flatMap λx=>tvR x.1)++_p:=(by grind [lV]);have _a:Rb (· ∈rng _m n++(l.flatMap λx=>tvR x.1)++_p) (lN (l.map λx=>JX (_w s._o) x.1)) (JD s):=by rw[<-VW];grind [OG]
 have H: ∀y∈ws,y.1∈rng _m n++(l.flatMap λx=>tvR x.1)++_p:=by rw[<-VW]at D;exact OI (S:=(· ∈rng _m n++(l.flatMap λx=>tvR x.1)++_p)) hA D
 obtain⟨R,V⟩:=zu (F:=F) (f:=f) (S:=(· ∈rng _m n++(l.flatMap λx=>tvR x.1)++_p)) (n:=n) (_m:=_m) (λb hb=>by simp[hb]) H
  (λj A=>by grind [tM]) N M L
 refine⟨oF (op:=.call f args n) (λj A=>by simp only[zQ9];exact .inl (.inl (tM A))) (bU (x9 _) λa r=>?_),λe g y B=>?_⟩;grind [JPb];have g:=oI g;simp only[erp,_z]at g;obtain⟨a,r,g⟩:=bind_some g;grind [O5];rename_i f args n;obtain⟨l,C,h⟩:=iV h;unfold tcU at h;obtain⟨_p,hi,h⟩:=iV h;injection h with h;injection h with h1 h2;subst h1 h2;obtain⟨xs,ws,T,i1,D,N,M,L⟩:=Po hi;obtain⟨_e,P⟩:=CY C;have hA: ∀x∈l.map (λx=>JX (_w s._o) x.1),∀b∈avR x,b∈rng _m n++(l.flatMap λx=>tvR x.1)++_p:=(by grind [lV]);rw[P]at D;have H: ∀y∈ws,y.1∈rng _m n++(l.flatMap λx=>tvR x.1)++_p:=OI (S:=(· ∈rng _m n++(l.flatMap λx=>tvR x.1)++_p)) hA D;obtain⟨R,V⟩:=zu (F:=F) (f:=f) (S:=(· ∈rng _m n++(l.flatMap λx=>tvR x.1)++_p)) (n:=n) (_m:=_m) (λb hb=>by simp[hb]) H
  (λj A=>by grind [tM]) N M L
 refine⟨oF (op:=.callo f args n) (λj A=>by simp only[zQ9];exact .inl (.inl (tM A))) (bU (x9 _) λa r=>?_),λe g y B=>?_⟩;grind [bU,OG];have g:=oI g;simp only[erp,_z]at g;obtain⟨a,r,g⟩:=bind_some g;rw[_e]at r;cases r;obtain⟨a,r,g⟩:=bind_some g;grind;rename_i own t bytes l c;injection h with h;injection h with h1 h2;subst h1 h2;refine⟨oF (op:=._E own t bytes l c) (λj A=>tM A) (bU (jM _) λa r=>bU (jM _) λd hd=>?_),λe g y B=>?_⟩;grind [cE,eV];have g:=oI g;simp only[erp,_z]at g;obtain⟨a,r,g⟩:=bind_some g;obtain⟨d,hd,g⟩:=bind_some g;split at g;split at g;split at g;rename_i _d;cases g;simp only[fR]at B;subst B;have:=tM (k:=cB (._E own t bytes l c)) (_m:=_m) (j:=0) (by simp[cB,_d]);grind;injection g with g;grind;cases g;cases g;rename_i k x;obtain⟨v,w,h⟩:=iV h;injection h with h;injection h with h1 h2;subst h1 h2;refine⟨oF (op:=.conv k x) (λj A=>zQ9.2 (.inl (tM A))) (bU (jM _) λa r=>?_),λe g y B=>?_⟩;have hr: ∀b∈avR a,b∈rng _m (cB (.conv k x))++tvR v:=λb hb=>by rw[lY w r,lV]at hb;simp[hb]
 grind [cE,bU,j9,eV];have g:=oI g;simp only[erp,_z]at g;obtain⟨a,r,g⟩:=bind_some g;split at g;injection g with g;grind;injection g with g;grind;obtain⟨_f,_,g⟩:=bind_some g;split at g;injection g with g;grind;cases g;split at g;rename_i _d;injection g with g;grind [cB,rng];injection g with g;grind;cases g;cases h
abbrev rB:=Option (List Nat×List Nat)
section
variable {R:Type}
def Kw(i:kK)(s:_v):Bool:=match i.g with|none=>J|some (g,e)=>if i.dst=Z g then J else match tlk g s.env with|some (.a (.c (.d .b x)))=>if x=e then J else O|some (.tup [])=>O|_=>J
def uwI(i:kK)(_m:Nat)(s s':_v):rB:=if Kw i s'=O then Z ([],[])else uw i.op _m s
def gz(G:TG):List kK->Nat->_v->List rB->(_v->List rB->Option R)->Option R|[],_,s,l,k=>k s l|i::r,_m,s,l,k=>di G i _m s λs'=>gz G r (_m+cB i.op) s' (l++[uwI i _m s s']) k
def vK:rB->(List Nat×List Nat)->Prop|none,_=>True|some (U,W),x=>(∀b∈x.1,b∈U)/\ ∀b∈x.2,b∈W
def fr(l:List rB):List (Nat×Nat)->Bool
 |[]=>O
 |(i,j)::r=>(match l[i]?,l[j]? with
  |some (Z a),Z (Z b)=>hW a.2 b.1&&hW a.2 b.2&&hW a.1 b.2
  |_,_=>J)&&fr l r
theorem OQ{b:Nat}: ∀{l:List Loc},b∈kU l->Loc.blk b∈l
 | .blk c::r,h=>by
  simp only[kU,bS]at h;rcases h with rfl|h;simp;simp[OQ h]
 | .slot n::r,h=>by simp only[kU]at h;simp[OQ h]
theorem vK.snoc{l:List rB}{l0:Log}{x:rB}{y:List Nat×List Nat}(hl:l.length=l0.length)(ho: ∀(j:Nat) a b,l[j]?=Z a->l0[j]?=Z b->vK a b)(hx:vK x y)(j:Nat)(a:rB)(b:List Nat×List Nat)(ha:(l++[x])[j]?=Z a)(hb:(l0++[y])[j]?=Z b):vK a b:=by
 grind
theorem JRJ{F:Orc}{i:kK}{_m:Nat}{s s':_v}{e:Eff}(h:(bZ F (eri i) _m).run (JD s)=Z e)(hp:put i.dst e (JD s)=JD s'):vK (uwI i _m s s') (kU ((bZ F (eri i) _m).reads (JD s)),e.ws.map (·.1)):=by
 unfold uwI;split;rename_i j;unfold Kw at j;split at j;cases j;rename_i g k C;split at j;cases j;rename_i hd;have w:lk g (JD s').env=lk g (JD s).env:=(by rw[<-hp];unfold put;grind [lk]);have o: ∀v,tlk g s'.env=Z v->lk g (JD s).env=Z (JX (_w s'._o) v):=λv A=>by
  rw[<-w];show lk g (gL _ s'.env)=_;grind [CN]
 split at j;rename_i x q;split at j;cases j;rename_i D;have n:=o _ q;rw[e_b]at n;have hi:bZ F (eri i) _m=.slot g fun
  | .p (.b x)=>if x=k then opD F (eri i).op _m else .ret ⟨iE,[]⟩
  | .tup []=>.ret ⟨iE,[]⟩
  |_=>.fail:=by grind [bZ,eri]
 rw[hi]at h⊢;refine⟨λb hb=>?_,λb hb=>?_⟩;have:=OQ hb;grind [RM.reads];grind [yY,JY];rename_i q;have n:=o _ q;have n:lk g (JD s).env=Z (.tup []):=n;have hi:bZ F (eri i) _m=.slot g fun
  | .p (.b x)=>if x=k then opD F (eri i).op _m else .ret ⟨iE,[]⟩
  | .tup []=>.ret ⟨iE,[]⟩
  |_=>.fail:=by grind [bZ,eri]
 rw[hi]at h⊢;refine⟨λb hb=>?_,λb hb=>?_⟩;have:=OQ hb;grind [RM.reads];grind [yY,JY];cases j
 ·cases hu:uw i.op _m s with
  |none=>trivial
  |some r=>
   obtain⟨U,W⟩:=r;obtain⟨h1,h2⟩:=JVk F hu;have B:Rb (· ∈U) (bZ F (eri i) _m) (JD s):=by
    unfold bZ;split;exact h1
    ·refine Qw λv A=>?_;split
     split;exact h1;simp[cE]
     all_goals simp[cE,eV]
   refine⟨λb hb=>B b (OQ hb),λb hb=>?_⟩;obtain⟨y,z,rfl⟩:=oA.1 hb;unfold bZ at h;split at h;exact h2 e h y z;simp only[yY]at h;obtain⟨v,A,h⟩:=bN.1 h;split at h;split at h;exact h2 e h y z;injection h with h;grind;injection h with h;grind;cases h
theorem Rp{F:Orc}{G:TG}(w:GOk F G): ∀{ins:List kK} {_m:Nat} {s:_v} {l:List rB} {l0:Log} {k:_v->List rB->Option R} {r:R},l.length=l0.length->(∀(j:Nat) a b,l[j]?=Z a->l0[j]?=Z b->vK a b)->
  gz G ins _m s l k=Z r-> ∃s' n g,kS F (ins.map eri) _m (JD s) l0=Z (JD s',n)/\k s' g=Z r/\g.length=n.length/\ ∀(j:Nat) a b,g[j]?=Z a->n[j]?=Z b->vK a b
 |[],_m,s,l,l0,k,r,v,o,h=>⟨s,l0,l,rfl,h,v,o⟩
 |i::q,_m,s,l,l0,k,r,v,o,h=>by
  simp only[gz]at h;obtain⟨e,s1,h1,h2,h⟩:=Qo w h;obtain⟨x,n,g,B,z,A,y⟩:=Rp w (l0:=l0++[(kU ((bZ F (eri i) _m).reads (JD s)),e.ws.map (·.1))]) (by grind) (vK.snoc v o (JRJ h1 h2)) h;refine⟨x,n,g,?_,z,A,y⟩;grind [kS,eri,NJ]
theorem mo{a b e g:List Nat}(h:hW e g=O)(ha: ∀x∈a,x∈e)(hb: ∀x∈b,x∈g):hW a b=O:=by
 grind [hW]
theorem Rj{l:List rB}{e:Log}(hl:l.length=e.length)(ho: ∀(j:Nat) a b,l[j]?=Z a->e[j]?=Z b->vK a b): ∀{ps:List (Nat×Nat)},fr l ps=O->IM e ps=O
 |[],_=>rfl
 |(i,j)::r,h=>by
  simp only[fr,aX]at h;obtain⟨h1,h2⟩:=h;simp only[IM,aX];refine⟨?_,Rj hl ho h2⟩;split at h1;rename_i a b o hb;have hi:i<e.length:=by grind
  have n:j<e.length:=by grind
  have g:=ho i _ _ o (aZ hi);have k:=ho j _ _ hb (aZ n);rw[aZ hi,aZ n];simp only[aX]at h1⊢;exact⟨⟨mo h1.1.1 g.2 k.1,mo h1.1.2 g.2 k.2⟩,mo h1.2 g.1 k.2⟩;cases h1
def sw(G:TG)(pairs:List (Nat×Nat))(ins:List kK)(s:_v)(k:_v->Option R):Option R:=
 match pairs with
 |[]=>ei G ins s._o.length (f0 (MJ ins) s) k
 |p::ps=>gz G ins s._o.length (f0 (MJ ins) s) [] λs' l=>if fr l (p::ps)=O then k s' else Y
theorem JRT{F:Orc}{G:TG}(e:GOk F G){pairs:List (Nat×Nat)}{ins:List kK}{s:_v}{k:_v->Option R}{r:R}(h:sw G pairs ins s k=Z r): ∃s',region F pairs (ins.map eri) (JD s)=Z (JD s')/\k s'=Z r:=by
 have hlen:(JD s)._o.length=s._o.length:=by simp[JD]
 unfold sw at h;split at h;grind [O9,region,mp,R8];obtain⟨s',o,n,h1,h2,v,q⟩:=Rp e (l0:=[]) rfl (λj a b g hb=>by simp at g) h;grind [region,mp,R8,Rj]
end
end Go.Am
end
section
namespace Go.Am
def xX(m:Nat)(_p:List Nat)(s:_v):TC->Option TC
 | .ptr b p=>if b<m then Z (.ptr b p)else match fD b _p m with|some k=>Z (.ptr k p)|none=>match s._o[b]? with|some (.box t x)=>Z (.cp t x p)|_=>Y
 | ._r b=>if b<m then Z (._r b)else match fD b _p m with|some k=>Z (._r k)|none=>match s._o[b]? with|some (.arr _ t _f)=>Z (.d (.l t) _f)|_=>Y
 | .slo b n=>if b<m then Z (.slo b n)else match fD b _p m with|some k=>Z (.slo k n)|none=>Y
 | .ep b i p=>if b<m then Z (.ep b i p)else match fD b _p m with|some k=>Z (.ep k i p)|none=>Y
 | .epo b e i p=>if b<m then Z (.epo b e i p)else match fD b _p m with|some k=>Z (.epo k e i p)|none=>Y
 | .pre _ _=>Y
 | .pro _ _ _=>Y
 | .suf _ _=>Y
 | .suo _ _ _=>Y
 |x=>Z x
def BR(m:Nat)(_p:List Nat)(s:_v):List TC->Option (List TC)|[]=>Z []|x::r=>match xX m _p s x,BR m _p s r with|some y,Z l=>Z (y::l)|_,_=>Y
def GY(m:Nat)(_p:List Nat)(s:_v):TA->Option TA
 | .c x=>match xX m _p s x with|some y=>Z (.c y)|none=>Y
 | .dt t x=>Z (.dt t x)
 | .m t cs=>match BR m _p s cs with
  |some l=>match asm t l with|some x=>Z (.dt t x)|none=>if l.any dh=O then Z (.m t l)else Y
  |none=>Y
 | .fn f a c=>match BR m _p s a,BR m _p s c with|some a,Z c=>Z (.fn f a c)|_,_=>Y
def MQ(m:Nat)(_p:List Nat)(s:_v):List TA->Option (List TA)|[]=>Z []|x::r=>match GY m _p s x,MQ m _p s r with|some y,Z l=>Z (y::l)|_,_=>Y
def u9(m:Nat)(_p:List Nat)(s:_v):TV->Option TV
 | .a x=>match GY m _p s x with|some y=>Z (.a y)|none=>Y
 | .tup vs=>match MQ m _p s vs with|some l=>Z (.tup l)|none=>Y
def LU(m:Nat)(_p:List Nat)(s:_v):TB->Option TB
 | .mbox t cs=>match BR m _p s cs with|some l=>Z (mkb t l)|none=>Y
 |x=>Z x
def yM(m:Nat)(_p:List Nat)(s:_v):List TB->Option (List TB)|[]=>Z []|x::r=>match LU m _p s x,yM m _p s r with|some y,Z l=>Z (y::l)|_,_=>Y
def gl(m:Nat)(s:_v):List (Nat×TV)->Option (List (Nat×TV))|[]=>Z []|(k,x)::r=>match u9 m [] s x,gl m s r with|some y,Z l=>Z ((k,y)::l)|_,_=>Y
def rV:List Nat->List (Nat×TV)->List (Nat×TV)|[],_=>[]|k::r,env=>match tlk k env with|some v=>(k,v)::rV r env|none=>rV r env
theorem OM(L:Nat->Nat)(env:List (Nat×TV)): ∀live:List Nat,restr live (gL L env)=gL L (rV live env)
 |[]=>rfl
 |k::r=>by
  simp only[restr,rV,CN];cases tlk k env with
  |none=>exact OM L env r
  |some v=>
   have ih:=OM L env r;grind [gL]
section
variable {m:Nat} {_p:List Nat} {s:_v} {L':Nat->Nat} (h1: ∀b,b<m->L' b=_w s._o b) (h2: ∀b k,fD b _p m=Z k->L' k=_w s._o b)
include h1 h2
theorem Si{x y:TC}(h:xX m _p s x=Z y):fin m _p (JD s)._o (bD (_w s._o) x)=Z (bD L' y):=by
 cases x with
 |ptr b p=>
  simp only[xX]at h;simp only[bD,fin];split at h;grind;rename_i hb;rw[if_neg hb];split at h;grind [bD];rename_i j;rw[j];dsimp only;split at h;rename_i t x g;cases h;simp only[dW,g,cN,CQ,IP,bD];cases h
 |_r b=>
  simp only[xX]at h;simp only[bD,fin];split at h;grind
  ·rename_i hb;rw[if_neg hb];split at h
   all_goals grind [dW,xb,hJ,_B,hdP]
 |slo b n=>
  grind [xX,bD,fin]
 |ep b i p=>
  grind [xX,bD,fin]
 |epo b e i p=>
  grind [xX,bD,fin]
 |_=>first|(cases h;done)|(cases h;rfl)
theorem UQ: ∀{xs e:List TC},BR m _p s xs=Z e->fin.finL m _p (JD s)._o (xs.map (bD (_w s._o)))=Z (e.map (bD L'))
 |[],e,h=>by cases h;rfl
 |x::r,e,h=>by
  simp only[BR]at h;split at h;rename_i y l j g;cases h;simp only[cH,fin.finL,Si h1 h2 j,UQ g];cases h
theorem Rh{x y:TA}(h:GY m _p s x=Z y):fin m _p (JD s)._o (bT (_w s._o) x)=Z (bT L' y):=by
 cases x with
 |c x=>
  simp only[GY]at h;split at h;rename_i y j;cases h;exact Si h1 h2 j;cases h
 |dt t x=>cases h;rfl
 |m t cs=>
  simp only[GY]at h;split at h;rename_i l g;have e:=UQ h1 h2 g;grind [bT,fin,MV,IP,jw];cases h
 |fn f a c=>
  grind [GY,bT,fin,UQ]
theorem nw: ∀{xs e:List TA},MQ m _p s xs=Z e->fin.finL m _p (JD s)._o (xs.map (bT (_w s._o)))=Z (e.map (bT L'))
 |[],e,h=>by cases h;rfl
 |x::r,e,h=>by
  simp only[MQ]at h;split at h;rename_i y l j g;cases h;simp only[cH,fin.finL,Rh h1 h2 j,nw g];cases h
theorem JOK{x y:TV}(h:u9 m _p s x=Z y):fin m _p (JD s)._o (JX (_w s._o) x)=Z (JX L' y):=by cases x<;>grind [u9,Rh,JX,fin,nw]
theorem JNE{x y:TB}(h:LU m _p s x=Z y):gY m _p (JD s)._o (bB (_w s._o) x)=Z (bB L' y):=by
 cases x with
 |mbox t cs=>
  grind [LU,NT,gY,UQ,TW]
 |box t x=>injection h with h;grind [CQ,gY,Ah]
 |_=>cases h;rfl
theorem VT: ∀{xs e:List TB},yM m _p s xs=Z e->tB m _p (JD s)._o (xs.map (bB (_w s._o)))=Z (e.map (bB L'))
 |[],e,h=>by cases h;rfl
 |x::r,e,h=>by
  simp only[yM]at h;split at h;rename_i y l j g;cases h;simp only[cH,tB,JNE h1 h2 j,VT g];cases h
end
theorem JMC{m:Nat}{_p:List Nat}{s:_v}{x y:TB}(h:LU m _p s x=Z y):lnB y=lnB x:=by
 cases x with
 |mbox t cs=>
  simp only[LU]at h;split at h;cases h;exact UI _ _;cases h
 |_=>cases h;rfl
theorem VV{m:Nat}{_p:List Nat}{s:_v}: ∀{xs e:List TB},yM m _p s xs=Z e->e.length=xs.length/\ ∀(k:Nat),_w e k=_w xs k
 |[],e,h=>by injection h with h;simp_all
 |x::r,e,h=>by
  simp only[yM]at h;split at h;rename_i y l j g;cases h;obtain⟨n,o⟩:=VV g;refine⟨by simp[n],λk=>?_⟩;cases k with
  |zero=>exact JMC j
  |succ k=>exact o k
  cases h
theorem Q4{m:Nat}{s:_v}{L':Nat->Nat}(h1: ∀b,b<m->L' b=_w s._o b): ∀{env e:List (Nat×TV)},gl m s env=Z e->xM m (JD s)._o (gL (_w s._o) env)=Z (gL L' e)
 |[],e,h=>by cases h;rfl
 |(k,x)::r,e,h=>by
  simp only[gl]at h;split at h;rename_i y l j g;cases h;simp only[gL,cH,xM];rw[JOK (_p:=[]) h1 (λb k hk=>by cases hk) j];have ih:=Q4 h1 g;grind [gL];cases h
def tL(n:Nat)(live:List Nat)(s:_v):Option _v:=
 if s._o.length=n then Z ⟨rV live s.env,s._o⟩
 else match gl n s (rV live s.env),yM n [] s (s._o.take n)with|some e,Z l=>Z ⟨e,l⟩|_,_=>Y
theorem IT{n:Nat}{live:List Nat}{s s':_v}(h:tL n live s=Z s'):clean n live (JD s)=Z (JD s'):=by
 unfold tL at h;have hlen:(JD s)._o.length=s._o.length:=by simp[JD]
 split at h;grind [clean,JD,OM];rename_i j;split at h;rename_i e l o g;cases h;obtain⟨q,w⟩:=VV g;have hL: ∀b,b<n->_w l b=_w s._o b:=λb hb=>by
  grind [_w]
 unfold clean;rw[hlen,if_neg j];have v:=Q4 hL o;have r:=VT (_p:=[]) hL (λb k hk=>by cases hk) g;grind [JD,OM,List.map_take];cases h
inductive BQ where|tmp (t:Nat)|cell (t:Nat) (agg:Bool) (ty:Ty)
def erR:BQ->xN| .tmp t=>.tmp t| .cell t agg ty=>.cell t agg ty.sz
def vz(agg:Bool)(ty:Ty)(v:TV)(s:_v):Option TA:=
 if agg=O\/ty.sz=1 then
  match v with
  | .a (.c (.ptr b []))=>match s._o[b]? with
   |some (.box e x)=>if h:e=ty then(if agg=O then Z (.dt ty (h▸x))else Z (.c (.d ty (h▸x))))else Y
   |some (.mbox _ cs)=>if cs.length=ty.sz then
    match mka agg ty cs with
    |some (.a x)=>Z x
    |_=>Y
    else Y
   |_=>Y
  |_=>Y
 else Y
theorem JND{agg:Bool}{ty:Ty}{v:TV}{s:_v}{x:TA}(h:vz agg ty v s=Z x): ∃e,(iD agg ty.sz (JX (_w s._o) v)).run (JD s)=Z e/\e.val=bT (_w s._o) x:=by
 unfold vz at h;split at h;rename_i r;split at h;rename_i b;split at h;rename_i g y hb;split at h;rename_i k;subst k;refine⟨⟨bT (_w s._o) x,[]⟩,?_,rfl⟩;have hc:mA agg ((_B g y).map .p)=qJ agg (_B g y):=by
  unfold mA qJ;split;rw[IP];cases hcel:_B g y with
  |nil=>rfl
  |cons a l=>cases l<;>rfl
 have j:sub (_B g y) 0 g.sz=Z (_B g y):=jr (eU _ _);have q:=HR (_w s._o) r y;simp only[lR,spo,iD,dR,dW,hb,cN,JF,CQ,IS,j,hc,q,val,JY];unfold mkv;split at h;rename_i h1;cases h;rw[if_pos h1];rfl;rename_i h1;cases h;rw[if_neg h1];rfl;cases h;rename_i cs hb;split at h;rename_i o;split at h;rename_i y n;injection h with h;subst h;have j:sub cs 0 ty.sz=Z cs:=jr o;refine⟨⟨bT (_w s._o) y,[]⟩,?_,rfl⟩;simp only[lR,spo,iD,dR,dW,hb,cN,JF,NT,IS,j,IB (_w s._o) n,val,JY];rfl;cases h;cases h;cases h;cases h;cases h
def FW:List BQ->_v->Option (List TA)
 |[],_=>Z []
 | .tmp t::r,s=>match tlk t s.env,FW r s with|some (.a x),Z l=>Z (x::l)|_,_=>Y
 | .cell t agg ty::r,s=>match tlk t s.env with
  |some v=>match vz agg ty v s,FW r s with|some x,Z l=>Z (x::l)|_,_=>Y
  |none=>Y
theorem Ow(s:_v)(t:Nat):(RM.slot t RM.ret).run (JD s)=(tlk t s.env).map (JX (_w s._o)):=by rw[yY];show(lk t (gL _ s.env)).bind _=_;simp[CN]
theorem kc{s:_v}: ∀{k:List BQ} {l:List TA},FW k s=Z l->(pO (k.map erR)).run (JD s)=Z (l.map (bT (_w s._o)))
 |[],l,h=>by cases h;rfl
 | .tmp t::r,l,h=>by
  simp only[FW]at h;split at h;rename_i x n j g;cases h;simp only[cH,erR,pO,run_bind,Ow,j,cN,JF,kc g,JY];rfl;cases h
 | .cell t agg ty::r,l,h=>by
  simp only[FW]at h;split at h;rename_i v o;split at h;rename_i x n j g;cases h;obtain⟨e,q,w⟩:=JND j;simp only[cH,erR,pO,run_bind,Ow,o,cN,JF,q,kc g,JY,w];cases h;cases h
def MA(s:_v):List Nat->List Nat->Option (List Nat)
 |[],acc=>Z acc
 |b::r,acc=>match s._o[b]? with
  |some (.mbox _ cs)=>match xW cs acc with|some acc=>MA s r acc|none=>Y
  |some _=>MA s r acc
  |none=>Y
theorem UY{s:_v}: ∀{r acc l:List Nat},MA s r acc=Z l->tC (JD s)._o (r.map .whole) (acc.map .whole)=l.map .whole
 |[],acc,l,h=>by cases h;rfl
 |b::r,acc,l,h=>by
  simp only[MA]at h;split at h;rename_i cs hb;split at h;rename_i e g;simp only[cH,tC,dW,hb,cN,NT,OA (_w s._o) g];exact UY h;cases h;rename_i x j hb;simp only[cH,tC,dW,hb,cN];cases x with
  |mbox t cs=>simp_all
  |box t x=>simp only[CQ];rw[Ab];exact UY h
  |_=>exact UY h
  cases h
def mZ(m:Nat)(fresh:Bool)(s:_v):List Nat->List Nat
 |[]=>[]
 |b::r=>if b<m then mZ m fresh s r else
  match s._o[b]? with
  |some (.box _ _)=>b::mZ m fresh s r
  |some (.mbox _ _)=>b::mZ m fresh s r
  |some (.arr _ _ _)=>if fresh=O then b::mZ m fresh s r else mZ m fresh s r
  |_=>mZ m fresh s r
theorem Bf{m:Nat}{fresh:Bool}{s:_v}: ∀r:List Nat,kW m fresh (JD s)._o (r.map .whole)=mZ m fresh s r
 |[]=>rfl
 |b::r=>by
  simp only[cH,kW,mZ,dW];rw[Bf r];split;rfl;cases s._o[b]? with
  |none=>rfl
  |some x=>cases x<;>rfl
def g4(s:_v):List Nat->Option (List TB)|[]=>Z []|b::r=>match s._o[b]?,g4 s r with|some x,Z l=>Z (x::l)|_,_=>Y
theorem Q9{s:_v}: ∀{_p:List Nat} {l:List TB},g4 s _p=Z l->yH (JD s)._o _p=Z (l.map (bB (_w s._o)))/\l.length=_p.length/\ ∀(j b:Nat),_p[j]?=Z b->_w l j=_w s._o b
 |[],l,h=>by injection h with h;simp_all
 |b::r,l,h=>by
  simp only[g4]at h;split at h;rename_i x g q e;cases h;obtain⟨k,o,n⟩:=Q9 e;grind [yH,dW,_w];cases h
def PL:List TA->TV|[x]=>.a x|l=>.tup l
theorem Qq(L:Nat->Nat)(l:List TA):one (l.map (bT L))=JX L (PL l):=by
 match l with
 |[]=>rfl
 |[x]=>rfl
 |x::y::r=>rfl
section
variable {R:Type}
def NV(res:List BQ)(fresh:Bool)(m:Nat)(s:_v)(E:TV->List TB->Option R):Option R:=
 match FW res s with
 |none=>Y
 |some vs=>
  if s._o.length=m then E (PL vs) s._o
  else match IA vs []with
   |none=>Y
   |some e=>match MA s e e with
    |none=>Y
    |some i1=>if kR (mZ m fresh s i1)=O/\m<=s._o.length then
     match MQ m (mZ m fresh s i1) s vs,yM m (mZ m fresh s i1) s (s._o.take m),g4 s (mZ m fresh s i1)with
     |some ws,Z l,Z q=>match yM m (mZ m fresh s i1) s q with|some q'=>E (PL ws) (l++q')|none=>Y
     |_,_,_=>Y
     else Y
theorem JLd{f:AFn}{res:List BQ}{fresh:Bool}{m:Nat}{s:_v}{E:TV->List TB->Option R}{r:R}(n:f.res=res.map erR)(_e:f.fresh=fresh)(h:NV res fresh m s E=Z r):
  ∃v _s,iR f m (JD s)=Z (JX (_w _s) v,_s.map (bB (_w _s)))/\E v _s=Z r:=by
 unfold NV at h;have hlen:(JD s)._o.length=s._o.length:=by simp[JD]
 split at h;cases h;rename_i vs hvs;have A:=kc hvs;split at h;rename_i z;refine⟨PL vs,s._o,?_,h⟩;unfold iR;rw[n,A];dsimp only;rw[hlen,if_pos z,Qq];rfl;rename_i z;split at h;cases h;rename_i C x;split at h;cases h;rename_i i1 o;split at h;rename_i j;obtain⟨K,W⟩:=j;generalize g:mZ m fresh s i1=_p at*;split at h;rename_i ws l q w y F;split at h;rename_i q' e;refine⟨PL ws,l++q',?_,h⟩;obtain⟨T,D⟩:=VV y;obtain⟨Q,N,L⟩:=Q9 F;obtain⟨_c,S⟩:=VV e;have H:l.length=m:=by simp_all
 have h1: ∀b,b<m->_w (l++q') b=_w s._o b:=λb hb=>by
  have:=D b;grind [_w]
 have h2: ∀b k,fD b _p m=Z k->_w (l++q') k=_w s._o b:=λb k hk=>by
  obtain⟨_d,G⟩:=VO hk;grind [_w]
 have _b:=nw h1 h2 w;have V:=VT h1 h2 y;have _a:=VT h1 h2 e;have U:cV.entsOfL (vs.map (bT (_w s._o))) []=C.map .whole:=VR (_w s._o) (l:=[]) x;have M:=UY o;have B:=Bf (m:=m) (fresh:=fresh) (s:=s) i1;rw[g]at B;have P:(JD s)._o.take m=(s._o.take m).map (bB (_w s._o)):=by simp[JD]
 grind [iR,Qq];cases h;cases h;cases h
end
end Go.Am
end
