/-
  Parts of a proof.
-/
import Derived.Orders
import Derived.LoopN
import Derived.Scope
import Derived.Below
import Derived.Test.YtckgllmahldikaaGreatM1
set_option linter.unusedSimpArgs false
set_option linter.unusedVariables false
section
namespace Go.Am
def qG(s1:Sn)(es:List Ent)(new:Nat)(σ2:List Blk)(k:Nat)(y:Blk):Prop:=
 match es[k]? with
 |some (.whole b)=>(∃cs l,y=.box cs/\bk.bkL es new cs=some l/\σ2[b]?=some (.box l))\/(∃w esz rows,y=.arr w esz rows/\σ2[b]?=some (.arr w esz rows))
 |some (.elem b _ i)=> ∃w esz rows e,s1.σ[b]?=some (.arr w esz rows)/\y=.box (e.map .p)/\σ2[b]?=some (.arr w esz (rows.set i e))
 |none=>(∃cs l,y=.box cs/\bk.bkL es new cs=some l/\σ2[new+(k-es.length)]?=some (.box l))\/(∃w esz rows,y=.arr w esz rows/\σ2[new+(k-es.length)]?=some (.arr w esz rows))
structure M1(s1:Sn)(es:List Ent)(blks:List Blk)(new kf:Nat)(c':Sn)(σ2:List Blk):Prop where
 cin:d8 s1 es blks
 inv:Inv c'
 trans:bC (iI s1 es blks) c'
 len:c'.σ.length=es.length+kf
 slen:σ2.length=s1.σ.length
 dead: ∀j,j<kf->s1.σ[new+j]?=some .dead
 out: ∀k y,c'.σ[k]?=some y->qG s1 es new σ2 k y
 same: ∀b,b∉es.map Ent.id->(b<new\/new+kf<=b)->σ2[b]?=s1.σ[b]?
def kOf(es:List Ent)(new kf b:Nat):Option Nat:=
 match dW (.whole b) es 0 with
 |some k=>some k
 |none=>if new<=b/\b<new+kf/\b∉es.map Ent.id then some (es.length+(b-new))else none
def fP(s1:Sn)(es:List Ent)(new kf:Nat)(c':Sn)(σ2:List Blk):Sn:=
 ⟨σ2,⟨λb=>match kOf es new kf b with
  |some k=>c'.g.μ k
  |none=>s1.g.μ b,c'.g.C⟩,c'.w⟩
theorem xx{e:Ent}: ∀{es:List Ent} {k:Nat},dW e es k=none->e∉es
 |[],k,_=>by simp
 |x::r,k,h=>by
  simp only[dW]at h;split at h;cases h;rename_i g;simp only[cO,not_or];exact⟨λe=>g e.symm,xx h⟩
section
variable {s1 c':Sn} {es:List Ent} {blks σ2:List Blk} {new kf:Nat} (h:M1 s1 es blks new kf c' σ2)
theorem QY{k:Nat}{e:Ent}(he:es[k]?=some e):e.id∈es.map Ent.id:=pO.2 ⟨e,jE he,rfl⟩
include h in
theorem FH{e g:Nat}{e1 e2:Ent}(h1:es[e]?=some e1)(h2:es[g]?=some e2)(he:e1.id=e2.id):e=g:=
 TZ h.cin.nodup (x:=e1.id) (by simp_all) (by simp_all)
include h in
theorem JMY{k:Nat}{e:Ent}(he:es[k]?=some e): ∃y,s1.σ[e.id]?=some y/\y≠.dead:=by
 obtain⟨x,_,g⟩:=rT h.cin he;cases e with
 |whole b=>
  rcases g with⟨cs',l,h1,h2,rfl⟩|⟨w,j,rows',h1,rfl⟩;exact⟨_,h1,by simp⟩;exact⟨_,h1,by simp⟩
 |elem b ext i=>obtain⟨j,rows',row,h1,h2,n,rfl⟩:=g;exact⟨_,h1,by simp⟩
include h in
theorem JK9{j:Nat}(hj:j<kf):new+j∉es.map Ent.id:=by intro n;obtain⟨e,o,g⟩:=pO.1 n;obtain⟨k,hk⟩:=jK o;obtain⟨y,q,hd⟩:=JMY h hk;rw[g,h.dead j hj]at q;simp_all
include h in
theorem JIw{k b:Nat}(he:es[k]?=some (.whole b)):kOf es new kf b=some k:=by
 unfold kOf;cases hc:dW (.whole b) es 0 with
 |none=>exact absurd (jE he) (xx hc)
 |some g=>
  obtain⟨_,e⟩:=xJ hc;grind [FH]
include h in
theorem JLQ{k b e i:Nat}(he:es[k]?=some (.elem b e i)):kOf es new kf b=none:=by
 unfold kOf;cases hc:dW (.whole b) es 0 with
 |some j=>obtain⟨_,g⟩:=xJ hc;simp only[vT]at g;have:=FH h g he rfl;simp_all
 |none=>have:b∈es.map Ent.id:=QY he;simp[this]
include h in
theorem JIT{j:Nat}(hj:j<kf):kOf es new kf (new+j)=some (es.length+j):=by
 unfold kOf;have g:=JK9 h hj;cases hc:dW (.whole (new+j)) es 0 with
 |some k=>obtain⟨_,e⟩:=xJ hc;simp only[vT]at e;exact absurd (QY e) g
 |none=>simp_all
theorem TR{b:Nat}(h1:b∉es.map Ent.id)(h2:b<new\/new+kf<=b):kOf es new kf b=none:=by
 unfold kOf;cases hc:dW (.whole b) es 0 with
 |some g=>obtain⟨_,e⟩:=xJ hc;simp only[vT]at e;exact absurd (QY e) h1
 |none=>
  grind
def tgt(es:List Ent)(new k:Nat):Nat:=match es[k]? with|some e=>e.id|none=>new+(k-es.length)
include h in
theorem oL{k:Nat}(hk:k<es.length+kf)(j: ∀b e i,es[k]?≠some (.elem b e i)):(fP s1 es new kf c' σ2).g.μ (tgt es new k)=c'.g.μ k:=by
 simp only[fP,tgt];cases he:es[k]? with
 |some e=>
  cases e with
  |whole b=>simp only[Ent.id];rw[JIw h he]
  |elem b e i=>simp_all
 |none=>
  grind [JIT]
include h in
theorem GB{k b ext i:Nat}(he:es[k]?=some (.elem b ext i)): ∃esz rows row r j,s1.σ[b]?=some (.arr true esz rows)/\ext=rows.length/\rows[i]?=some row/\s1.g.μ b=some (r,0)/\
  c'.σ[k]?=some (.box (j.map .p))/\j.length=row.length/\row.length=esz/\c'.g.μ k=some (r,i*esz)/\σ2[b]?=some (.arr true esz (rows.set i j))/\(fP s1 es new kf c' σ2).g.μ b=some (r,0):=by
 obtain⟨x,B,q⟩:=rT h.cin he;obtain⟨esz,rows,row,h1,h2,A,rfl⟩:=q;have D:=Jz A;rcases h.cin.inv.arr _ _ _ _ h1 with⟨C,L⟩|⟨r,c,e,fz,C,K,y,J,F,E⟩;simp_all;obtain⟨⟨cs',z,M⟩,I⟩:=h.trans.box k _ B;have o:=h.out k _ z;unfold qG at o;rw[he]at o;obtain⟨w,v,rows',j,n,G,H⟩:=o;rw[h1]at n;injection n with n;injection n with a1 a2 a3;subst a1 a2 a3;grind [TU,fP,JLQ]
include h in
theorem Mj{x y:AV}{v:Value}(hr:JG c' x v):bk es new x=some y->JG (fP s1 es new kf c' σ2) y v:=by
 have D: ∀{k:Nat} {z:Blk},c'.σ[k]?=some z->k<es.length+kf:=λhz=>by rw[<-h.len];grind
 induction hr generalizing y with
 |p c v hp=>intro hf;simp[bk]at hf;subst hf;exact .p _ _ hp
 |data cs vs h1 h2=>intro hf;simp[bk]at hf;subst hf;exact .data _ _ h1 h2
 |cp cs off r o vals W T=>intro hf;simp[bk]at hf;subst hf;exact .cp cs off r o vals W T
 |unk x=>intro hf;simp[bk]at hf;subst hf;exact .unk x
 |pre=>intro hf;simp[bk]at hf
 |agg cs vs h1 H h2 ih=>
  intro hf;simp only[bk]at hf;split at hf;rename_i l P;injection hf with hf;subst hf;obtain⟨R,Q⟩:=uM P;refine .agg _ _ (by omega) H λi y v O E=>?_;grind [Jz];cases hf
 |tup cs vs h1 h2 ih=>
  intro hf;simp only[bk]at hf;split at hf;rename_i l P;injection hf with hf;subst hf;obtain⟨R,Q⟩:=uM P;refine .tup _ _ (by omega) λi y v O E=>?_;grind [Jz];cases hf
 |ptr k off r o hm hb=>
  intro hf;obtain⟨cs,hb⟩:=hb;have hk:=D hb;have B:=h.out k _ hb;unfold qG at B;simp only[bk]at hf;split at hf;rename_i F;have a6:es[k]?=some es[k]:=aY F;split at hf;rename_i b j;injection hf with hf;subst hf;have A:=oL h hk (by rw[j];simp);simp only[tgt,j,Ent.id]at A;rw[j]at B;rcases B with⟨cs',l,C,J,N⟩|⟨w,esz,rows,C,J⟩;exact .ptr b off r o (by simp_all) ⟨l,N⟩;cases C;rename_i b e i j;injection hf with hf;subst hf;obtain⟨esz,rows,row,r',L,f1,U,f3,f4,f5,f6,f7,I,V,S⟩:=GB h j;rw[hm]at I;injection I with I;injection I with g1 g2;subst g1 g2;exact .ep b e i off _ true esz (rows.set i L) ⟨_,_,rfl⟩ V (by simp[U]) λ_ _=>⟨r,S,rfl⟩;cases hf;rename_i K;injection hf with hf;subst hf;have j:es[k]?=none:=pT (by omega);have A:=oL h hk (by rw[j];simp);simp only[tgt,j]at A;rw[j]at B;rcases B with⟨cs',l,C,J,N⟩|⟨w,esz,rows,C,J⟩;exact .ptr _ off r o (by simp_all) ⟨l,N⟩;cases C
 |slr k i n v wm esz rows H hb G E=>
  intro hf;have hk:=D hb;have B:=h.out k _ hb;unfold qG at B;have go: ∀b,(fP s1 es new kf c' σ2).g.μ b=c'.g.μ k->σ2[b]?=some (.arr wm esz rows)->JG (fP s1 es new kf c' σ2) (.slr b i n) v:=(by intro b A M;refine .slr b i n v wm esz rows H M G λe=>?_;rcases E e with⟨Y,q1,q2,Z⟩|⟨r,cap,c,C,fz,Y,q⟩;exact .inl ⟨by simp_all,q1,q2,Z⟩;exact .inr ⟨r,cap,c,C,fz,by simp_all,q⟩);simp only[bk]at hf;split at hf;rename_i F;split at hf;rename_i b j;injection hf with hf;subst hf;have A:=oL h hk (by rw[j];simp);grind [tgt,Ent.id];cases hf;rename_i K;injection hf with hf;subst hf;have j:es[k]?=none:=pT (by omega);have A:=oL h hk (by rw[j];simp);grind [tgt]
 |ep k ext i off v wm esz rows H hb G E=>
  intro hf;have hk:=D hb;have B:=h.out k _ hb;unfold qG at B;have go: ∀b,(fP s1 es new kf c' σ2).g.μ b=c'.g.μ k->σ2[b]?=some (.arr wm esz rows)->JG (fP s1 es new kf c' σ2) (.ep b ext i off) v:=by intro b A M;refine .ep b ext i off v wm esz rows H M G λC J=>?_;simp_all
  simp only[bk]at hf;split at hf;rename_i F;split at hf;rename_i b j;injection hf with hf;subst hf;have A:=oL h hk (by rw[j];simp);grind [tgt,Ent.id];cases hf;rename_i K;injection hf with hf;subst hf;have j:es[k]?=none:=pT (by omega);have A:=oL h hk (by rw[j];simp);grind [tgt]
 |fn f first caps fs cs h1 h2 _ _ a7 a5=>
  intro hf;simp only[bk]at hf;split at hf
  ·rename_i a c ha hc;injection hf with hf;subst hf;obtain⟨R,Q⟩:=uM ha;obtain⟨k3,k4⟩:=uM hc;refine .fn f a c fs cs (by omega) (by omega) (λi y v O E=>?_) (λi y v O E=>?_)
   all_goals grind [Jz]
  cases hf
inductive YV(es:List Ent)(new kf b:Nat):Prop where|out (k:Nat):k<es.length+kf->tgt es new k=b->(∀b e i,es[k]?≠some (.elem b e i))->YV es new kf b|elem (k e i:Nat):es[k]?=some (.elem b e i)->YV es new kf b|other:b∉es.map Ent.id->(b<new\/new+kf<=b)->YV es new kf b
theorem uD(b:Nat):YV es new kf b:=by
 by_cases j:b∈es.map Ent.id;obtain⟨e,h,g⟩:=pO.1 j;obtain⟨k,hk⟩:=jK h;have q:=Jz hk;cases e with
 |whole o=>simp only[Ent.id]at g;subst g;exact .out k (by omega) (by grind [tgt,Ent.id]) (by rw[hk];simp)
 |elem o e' n=>simp only[Ent.id]at g;subst g;exact .elem k e' n hk
 by_cases r:new<=b/\b<new+kf;have h:es[es.length+(b-new)]?=none:=pT (by omega);refine .out (es.length+(b-new)) (by omega) ?_ (by rw[h];simp);grind [tgt];exact .other j (by omega)
include h in
theorem LF{k:Nat}(hk:k<es.length+kf)(j: ∀b e i,es[k]?≠some (.elem b e i))(r o:Nat):
  Wr1 (fP s1 es new kf c' σ2) (tgt es new k) r o↔Wr1 c' k r o:=by
 have q:=oL h hk j;have g:k<c'.σ.length:=by rw[h.len];exact hk
 have n:c'.σ[k]?=some c'.σ[k]:=aY g;have w:=h.out k _ n;unfold qG at w;unfold Wr1;rw[n,q];have v:(fP s1 es new kf c' σ2).σ=σ2:=rfl;rw[v];cases he:es[k]? with
 |some e=>
  grind [tgt,Ent.id,uM]
 |none=>
  grind [tgt,uM]
include h in
theorem LV{k b e i:Nat}(he:es[k]?=some (.elem b e i))(r o:Nat):Wr1 (fP s1 es new kf c' σ2) b r o↔Wr1 s1 b r o:=by
 obtain⟨esz,rows,row,r',g,v,y,A,z,w,x,q,n,B,j⟩:=GB h he;grind [Wr1,fP]
include h in
theorem g6{b:Nat}(h1:b∉es.map Ent.id)(h2:b<new\/new+kf<=b)(r o:Nat):Wr1 (fP s1 es new kf c' σ2) b r o↔Wr1 s1 b r o:=by
 unfold Wr1;have j:(fP s1 es new kf c' σ2).σ=σ2:=rfl;have e:(fP s1 es new kf c' σ2).g.μ b=s1.g.μ b:=by grind [fP,TR]
 rw[j,h.same b h1 h2,e]
include h in
theorem wv{r o:Nat}(hw:Wr c' r o):(∃k e,es[k]?=some e/\Wr1 (iI s1 es blks) k r o/\Wr1 s1 e.id r o)\/s1.w.heap.size<=r:=by
 rcases h.trans.wnew r o hw with⟨k,hk⟩|j;obtain⟨g,n⟩:=tN h.cin k r o hk;have q:es[k]?=some es[k]:=aY g;grind [wM];exact .inr j
include h in
theorem vz:bC s1 (fP s1 es new kf c' σ2):=by
 refine⟨?_,λr o hc=>h.trans.cmono r o hc,λr o hc=>?_,λr o ⟨b,E⟩=>?_,Nat.le_of_eq h.slen.symm,λb cs hb=>?_,λb wm esz rows hb=>?_⟩;refine h.trans.keep.mono λr o ⟨k,hk⟩=>?_;exact⟨_,(tN h.cin k r o hk).2⟩;rcases h.trans.cnew r o hc with hc|⟨k,hk⟩|N;exact .inl hc;exact .inr (.inl ⟨_,(tN h.cin k r o hk).2⟩);exact .inr (.inr N);cases uD (es:=es) (new:=new) (kf:=kf) b with
 |out k hk ht n=>
  subst ht;rcases wv h ⟨k,(LF h hk n r o).1 E⟩with⟨Z,e,_,_,H⟩|N;exact .inl ⟨_,H⟩;simp_all
 |elem k e i g=>exact .inl ⟨b,(LV h g r o).1 E⟩
 |other h1 h2=>exact .inl ⟨b,(g6 h h1 h2 r o).1 E⟩
 ·cases uD (es:=es) (new:=new) (kf:=kf) b with
  |out k hk ht n=>
   cases g:es[k]? with
   |none=>
    exfalso;simp only[tgt,g]at ht;have G:es.length<=k:=by simp_all
    have:=h.dead (k-es.length) (by omega);simp_all
   |some e=>
    cases e with
    |elem b e i=>simp_all
    |whole R=>
     simp only[tgt,g,Ent.id]at ht;subst ht;obtain⟨x,F,y⟩:=rT h.cin g;rcases y with⟨cs',l,h1,h2,rfl⟩|⟨w,v,rows',h1,rfl⟩
     ·rw[hb]at h1;injection h1 with h1;injection h1 with h1;subst h1
      obtain⟨⟨V,D,O⟩,M⟩:=h.trans.box k _ F;have q:=h.out k _ D;unfold qG at q;rw[g]at q;have C:=oL h hk n;simp only[tgt,g,Ent.id]at C;rcases q with⟨L,K,j,B,J⟩|⟨w,esz,rows,j,B⟩
      ·injection j with j;subst j;refine⟨⟨K,J,?_⟩,?_⟩
       all_goals grind [uM,uO,xI]
      cases j
     simp_all
  |elem k e i g=>
   grind [GB]
  |other h1 h2=>
   refine⟨⟨cs,by rw[<-hb];exact h.same b h1 h2,rfl⟩,?_⟩;grind [fP,TR]
 cases uD (es:=es) (new:=new) (kf:=kf) b with
 |out k hk ht n=>
  cases g:es[k]? with
  |none=>
   exfalso;simp only[tgt,g]at ht;have G:es.length<=k:=by simp_all
   have:=h.dead (k-es.length) (by omega);simp_all
  |some e=>
   cases e with
   |elem b e i=>simp_all
   |whole R=>
    simp only[tgt,g,Ent.id]at ht;subst ht;obtain⟨x,F,y⟩:=rT h.cin g;rcases y with⟨cs',l,h1,h2,rfl⟩|⟨w,v,rows',h1,rfl⟩;simp_all;rw[hb]at h1;injection h1 with h1;injection h1 with a1 a2 a3;subst a1 a2 a3;obtain⟨wm',A,D,O,M,q4⟩:=h.trans.arr k _ _ _ F;have q:=h.out k _ D;unfold qG at q;rw[g]at q;have C:=oL h hk n;simp only[tgt,g,Ent.id]at C;rcases q with⟨L,K,j,B,J⟩|⟨w,Q,P,j,B⟩;cases j;injection j with a1 a2 a3;subst a1 a2 a3;exact⟨wm',A,B,O,M,λe=>by grind [xI]⟩
 |elem k e i g=>
  obtain⟨v,rows',row,r',T,z,f2,f3,S,f5,f6,Y,W,U,I⟩:=GB h g;rw[hb]at z;injection z with z;injection z with a1 a2 a3;subst a1 a2 a3;exact⟨true,_,U,λ_=>rfl,by simp,λ_=>by rw[I,S]⟩
 |other h1 h2=>
  refine⟨wm,rows,by rw[<-hb];exact h.same b h1 h2,id,zQ0 _,λ_=>?_⟩;grind [fP,TR]
include h in
theorem JN2:Inv (fP s1 es new kf c' σ2):=by
 have hi:=h.cin.inv;have t:=vz h;have M: ∀{b},¬(b∈es.map Ent.id\/(new<=b/\b<new+kf))->b∉es.map Ent.id/\(b<new\/new+kf<=b):=λH=>⟨λB=>H (.inl B),by omega⟩;have A: ∀{k b e i r o},es[k]?=some (.elem b e i)->(Wr1 (iI s1 es blks) k r o↔Wr1 c' k r o):=(by intro k b e i r o q;obtain⟨x,hx,a7⟩:=rT h.cin q;obtain⟨esz,rows,row,h1,h2,h3,rfl⟩:=a7;obtain⟨⟨cs',q1,q2⟩,q3⟩:=h.trans.box k _ hx;grind [iI,Wr1]);have N: ∀{k b r o},k<es.length+kf->Wr1 c' k r o->Wr1 s1 b r o->(∃n,es[n]?=some (.whole b)\/ ∃e i,es[n]?=some (.elem b e i)/\n=k):=by
  intro k b r o hk J hb;rcases wv h ⟨k,J⟩with⟨n,e,q,ak,y⟩|H;have E:=hi.apart _ _ _ _ y hb;cases e with
  |whole b'=>grind [Ent.id]
  |elem b' e' i'=>
   simp only[Ent.id]at E;subst E;have:=h.inv.apart _ _ _ _ ((A q).1 ak) J;grind
  have:=wC hi b r o hb;omega
 refine mZ hi t (λb=>b∈es.map Ent.id\/(new<=b/\b<new+kf)) ?_ ?_ ?_ ?_ ?_ ?_ ?_ ?_;intro b H;obtain⟨h1,h2⟩:=M H;exact⟨h.same b h1 h2,by grind [fP,TR]⟩;intro b r o v H J hv;refine h.trans.keep.cell ?_ hv;rintro⟨k,hk⟩;obtain⟨D,y⟩:=tN h.cin k r o hk;have q:es[k]?=some es[k]:=aY D;rw[wM q]at y;have:=hi.apart _ _ _ _ y J;simp_all;intro b cs hd hb;have hb:σ2[b]?=some (.box cs):=hb;cases uD (es:=es) (new:=new) (kf:=kf) b with
 |other h1 h2=>grind
 |elem k e i q=>
  grind [GB]
 |out k hk ht U=>
  subst ht;have D:k<c'.σ.length:=by rw[h.len];exact hk
  have hg:c'.σ[k]?=some c'.σ[k]:=aY D;have ho:=h.out k _ hg;unfold qG at ho;have a6: ∃W,c'.σ[k]?=some (.box W)/\bk.bkL es new W=some cs:=by
   cases q:es[k]? with
   |some e=>
    grind [tgt,Ent.id]
   |none=>
    grind [tgt]
  obtain⟨W,h0,hl⟩:=a6;obtain⟨k1,k2⟩:=uM hl;obtain⟨r,o,c,e,fz,B,hh,c6,hx,ba⟩:=h.inv.box _ _ h0;refine⟨r,o,c,e,fz,by grind [oL],hh,by omega,λi x c4=>?_,by simp_all⟩;grind [Jz,Mj]
 intro b wm esz rows hd hb;have hb:σ2[b]?=some (.arr wm esz rows):=hb;cases uD (es:=es) (new:=new) (kf:=kf) b with
 |other h1 h2=>grind
 |elem k e i q=>
  obtain⟨bg,rows',row,r',bm,f1,f2,f3,f4,f5,f6,f7,f8,f9,bc⟩:=GB h q;rw[hb]at f9;injection f9 with f9;injection f9 with a1 a2 a3;subst a1 a2 a3;have D:=Jz f3;rcases hi.arr _ _ _ _ f1 with⟨B,T⟩|⟨r,c,e1,fz,B,hh,ai,hl,hx,ba⟩;simp_all;rw[f4]at B;injection B with B;injection B with B _;subst B;obtain⟨c2,q1,q2,q3⟩:=t.keep.2.1 _ _ _ _ hh;obtain⟨rr,oo,c3,e3,c5,m3,R,bh,b0,bj⟩:=h.inv.box _ _ f5;rw[f8]at m3;injection m3 with m3;injection m3 with z I;subst z I;have b3:c'.w.heap[r']?=some (.cells c2 e1 fz):=q1;rw[b3]at R;injection R with R;injection R with z I w3;subst z I w3;refine .inr ⟨r',c2,e1,fz,bc,q1,λc8 c7=>?_,by simp;omega,λO j af x0 L Y=>⟨?_,λh=>by cases h⟩,by simp_all⟩;grind;have bu:=Jz Y;by_cases ae:O=i;subst ae;rw[DD D]at L;injection L with L;subst L;obtain⟨v,hv,T,_⟩:=b0 j (.p x0) (by simp[Y]);refine⟨v,hv,?_⟩;cases T with|p _ _ T=>exact T
  rw[YR (Ne.symm ae)]at L;obtain⟨⟨v',c9,aw⟩,_⟩:=hx O j af x0 L Y;refine⟨v',?_,aw.mono hi t⟩;have a9:cellAt s1.w r' (O*esz+j)=some v':=by grind [kZ]
  have b4:j<esz:=by grind
  have ay: ¬Wr (iI s1 es blks) r' (O*esz+j):=by
   rintro⟨n,g⟩;obtain⟨F,y⟩:=tN h.cin n _ _ g;have C:es[n]?=some es[n]:=aY F;rw[wM C]at y;have bd:Wr1 s1 b r' (O*esz+j):=by grind [Wr1]
   have E:=hi.apart _ _ _ _ y bd;have K:n=k:=FH h C q E;subst K;obtain⟨x,b7,a7⟩:=rT h.cin q;obtain⟨bq,bf,V,G,S,g3,rfl⟩:=a7;rw[f1]at G;injection G with G;injection G with z1 z2 z3;subst z2 z3;have ag:(iI s1 es blks).σ[n]?=some (.box (V.map .p)):=b7;unfold Wr1 at g;rw[ag,TU q f1 f4]at g;obtain⟨o0,Z,hlo,b5⟩:=g;injection Z with Z;injection Z with _ Z;subst Z;have bn:=ai V (jE g3);simp at b5;rcases zQ3 O i with aj|bs;have:=mW aj b4;omega;have:=zQ4 esz (show i+1<=O by omega);grind
  have:=h.trans.keep.cell ay a9;grind [kZ]
 |out k hk ht U=>
  subst ht;have D:k<c'.σ.length:=by rw[h.len];exact hk
  have hg:c'.σ[k]?=some c'.σ[k]:=aY D;have ho:=h.out k _ hg;unfold qG at ho;have a6:c'.σ[k]?=some (.arr wm esz rows):=by
   cases q:es[k]? with
   |some e=>
    grind [tgt,Ent.id]
   |none=>
    grind [tgt]
  rcases h.inv.arr _ _ _ _ a6 with⟨B,T⟩|⟨r,c,e,fz,B,hq⟩;exact .inl ⟨by grind [oL],T⟩;exact .inr ⟨r,c,e,fz,by grind [oL],hq⟩
 
 intro b1 b2 r o hd h1 h2;cases uD (es:=es) (new:=new) (kf:=kf) b1 with
 |other G S=>grind
 |out k1 a5 b8 al=>
  subst b8;have z:=(LF h a5 al r o).1 h1;cases uD (es:=es) (new:=new) (kf:=kf) b2 with
  |out k2 Q a4 P=>subst a4;have I:=(LF h Q P r o).1 h2;rw[h.inv.apart _ _ _ _ z I]
  |elem k2 e i q=>
   exfalso;have I:=(LV h q r o).1 h2;obtain⟨n,g|⟨e',i',g,K⟩⟩:=N a5 z I;have:=FH h g q rfl;simp_all;simp_all
  |other G S=>
   exfalso;have I:=(g6 h G S r o).1 h2;obtain⟨n,g|⟨e',i',g,K⟩⟩:=N a5 z I;exact G (QY g);simp_all
 |elem k1 e1 i1 ad=>
  have z:=(LV h ad r o).1 h1;cases uD (es:=es) (new:=new) (kf:=kf) b2 with
  |out k2 Q a4 P=>
   subst a4;exfalso;have I:=(LF h Q P r o).1 h2;obtain⟨n,g|⟨e',i',g,K⟩⟩:=N Q I z;have:=FH h g ad rfl;simp_all;simp_all
  |elem k2 e i q=>exact hi.apart _ _ _ _ z ((LV h q r o).1 h2)
  |other G S=>exact hi.apart _ _ _ _ z ((g6 h G S r o).1 h2)
 exact λr o hc=>(h.inv.const r o hc).1;intro r o b hc hd J;cases uD (es:=es) (new:=new) (kf:=kf) b with
 |other G S=>grind
 |out k hk ht U=>subst ht;exact(h.inv.const r o hc).2 _ ((LF h hk U r o).1 J)
 |elem k e i q=>
  have z:=(LV h q r o).1 J;rcases h.trans.cnew r o hc with a0|⟨n,g⟩|H;exact(hi.const r o a0).2 _ z;obtain⟨F,y⟩:=tN h.cin n _ _ g;have C:es[n]?=some es[n]:=aY F;rw[wM C]at y;have E:=hi.apart _ _ _ _ y z;have K:n=k:=FH h C q E;subst K;exact(h.inv.const r o hc).2 _ ((A q).1 g);have H:s1.w.heap.size<=r:=H;have:=wC hi _ _ _ z;omega
 intro r o b hc b6 hd J;rcases h.trans.cnew r o hc with a0|⟨n,g⟩|H;exact b6 a0;obtain⟨F,y⟩:=tN h.cin n _ _ g;have C:es[n]?=some es[n]:=aY F;rw[wM C]at y;have E:=hi.apart _ _ _ _ y J;simp_all;have H:s1.w.heap.size<=r:=H;have:=wC hi _ _ _ J;omega
end
section
variable {P:Program} {F:Orc} {s:Sn} {a:Act} {env:List (Nat×AV)} {o:Oper} {new:Nat} {e:Eff}
theorem Of{r:List Blk}(hi:Inv s)(B:Frz r s.σ){x:AV}{y:AV×List (Nat×Blk)}{v:Value}(h:(jQ x).run ⟨env,r⟩=some y)(hr:JG s x v):
  ∃g',Inv ⟨upd y.2 s.σ,g',s.w⟩/\bC s ⟨upd y.2 s.σ,g',s.w⟩/\Frz s.σ (upd y.2 s.σ)/\JG ⟨upd y.2 s.σ,g',s.w⟩ y.1 v:=by
 have same: ∀{z:AV},(RM.ret (z,[]):RM (AV×List (Nat×Blk))).run ⟨env,r⟩=some y->JG s z v-> ∃g',Inv ⟨upd y.2 s.σ,g',s.w⟩/\bC s ⟨upd y.2 s.σ,g',s.w⟩/\Frz s.σ (upd y.2 s.σ)/\JG ⟨upd y.2 s.σ,g',s.w⟩ y.1 v:=(by intro z j hr;simp only[RM.run]at j;injection j with j;subst j;exact⟨s.g,hi,.refl s,.refl _,hr⟩);cases x with
 |slr b i n=>
  simp only[jQ]at h;obtain⟨C,h1,h⟩:=bind_some h;obtain⟨g',o,A,q,c,hc,E⟩:=ML hi B h1 hr;rw[hc]at h;simp only[RM.run]at h;injection h with h;subst h;exact⟨g',o,A,q,.p _ _ E⟩
 |agg cs=>
  simp only[jQ]at h;obtain⟨C,h1,h⟩:=bind_some h;simp only[RM.run]at h;injection h with h;subst h;obtain⟨g',o,A,q,F,D⟩:=ee hi B h1 hr;cases hr with
  |agg _ vs h1 I h2=>exact⟨g',o,A,q,.data _ _ F λi x v G H=>D i x v G H⟩
 |tup=>grind [jQ,RM.run]
 |p c=>exact same h hr
 |data cs=>exact same h hr
 |ptr b off=>exact same h hr
 |cp cs off=>exact same h hr
 |ep b e i off=>exact same h hr
 |fn f first caps=>exact same h hr
 |unk=>exact same h hr
 |pre b n k=>exact same h hr
theorem wz{q:List Blk}: ∀{xs:List AV} {s:Sn} {y:List AV×List (Nat×Blk)} {vs:List Value},Inv s->Frz q s.σ->(kL xs).run ⟨env,q⟩=some y->xs.length=vs.length->
  (∀(i:Nat) x v,xs[i]?=some x->vs[i]?=some v->JG s x v)->
  ∃g',Inv ⟨upd y.2 s.σ,g',s.w⟩/\bC s ⟨upd y.2 s.σ,g',s.w⟩/\Frz s.σ (upd y.2 s.σ)/\y.1.length=vs.length/\
   ∀(i:Nat) x v,y.1[i]?=some x->vs[i]?=some v->JG ⟨upd y.2 s.σ,g',s.w⟩ x v
 |[],s,y,vs,hi,j,h,e,k=>by
  simp only[kL,RM.run]at h;injection h with h;subst h;exact⟨s.g,hi,.refl s,.refl _,by simpa using e,λi c v hc=>by simp at hc⟩
 |x::xs,s,y,[],hi,j,h,e,k=>by simp at e
 |x::xs,s,y,v::vs,hi,j,h,e,k=>by
  simp only[kL]at h;obtain⟨z,h1,h⟩:=bind_some h;obtain⟨K,h2,h⟩:=bind_some h;simp only[RM.run]at h;injection h with h;subst h;obtain⟨D,i1,o,n,I⟩:=Of hi j h1 (k 0 x v rfl rfl);obtain⟨C,i2,r,A,B,J⟩:=wz (s:=⟨upd z.2 s.σ,D,s.w⟩) i1 (j.trans n) h2 (by simpa using e) λi x v E F=>(k (i+1) x v (by simpa using E) (by simpa using F)).mono hi o;refine⟨C,by grind [fG],by rw[fG];exact o.trans r,by rw[fG];exact n.trans A,by simp[B],λi c' H hc' G=>?_⟩;grind [JG.mono,upd]
def Im(s1:Sn)(es:List Ent)(new:Nat)(e:Ent)(x:Blk)(y:Nat×Blk):Prop:=
 y.1=e.id/\match e with
 | .whole _=>(∃cs l,x=.box cs/\bk.bkL es new cs=some l/\y.2=.box l)\/(∃w esz rows,x=.arr w esz rows/\y.2=.arr w esz rows)
 | .elem b _ i=> ∃w esz rows g,s1.σ[b]?=some (.arr w esz rows)/\x=.box (g.map .p)/\y.2=.arr w esz (rows.set i g)
theorem JGP{g:List Blk}{ws:List (Nat×Blk)}(j:s.σ=upd ws g){es:List Ent}{en:Ent}{x:Blk}{y:Nat×Blk}(h:(tZ ws es new en x).run ⟨env,g⟩=some y):Im s es new en x y:=by
 unfold tZ at h;split at h;rename_i b cs;split at h;rename_i l n;simp only[RM.run]at h;injection h with h;subst h;exact⟨rfl,.inl ⟨cs,l,rfl,n,rfl⟩⟩;cases h;simp only[RM.run]at h;injection h with h;subst h;exact⟨rfl,.inr ⟨_,_,_,rfl,rfl⟩⟩;rename_i b ext i cs;obtain⟨z,h1,h⟩:=bind_some h;have hb:=g9 h1;rw[<-j]at hb;cases z with
 |arr w esz rows=>
  dsimp only at h;split at h;rename_i e k;simp only[RM.run]at h;injection h with h;subst h;exact⟨rfl,w,esz,rows,e,hb,by grind [MD],rfl⟩;cases h
 |_=>cases h
 cases h
theorem yk{j:List Blk}{ws:List (Nat×Blk)}(n:s.σ=upd ws j){es:List Ent}: ∀{e:List Ent} {xs:List Blk} {g:List (Nat×Blk)},(jD ws es new e xs).run ⟨env,j⟩=some g->
  e.length=g.length/\e.length<=xs.length/\ ∀(k:Nat) en x y,e[k]?=some en->xs[k]?=some x->g[k]?=some y->Im s es new en x y
 |[],xs,g,h=>by grind [jD,RM.run]
 |_::_,[],g,h=>by cases h
 |en::e,x::xs,g,h=>by
  simp only[jD]at h;obtain⟨y,h1,h⟩:=bind_some h;obtain⟨l,h2,h⟩:=bind_some h;simp only[RM.run]at h;injection h with h;subst h;obtain⟨o,q,r⟩:=yk n h2;grind [JGP]
theorem km{es:List Ent}: ∀{xs:List Blk} {g:Nat} {e:List (Nat×Blk)},iC es new g xs=some e->
  xs.length=e.length/\ ∀(j:Nat) x y,xs[j]?=some x->e[j]?=some y->y.1=g+j/\((∃cs l,x=.box cs/\bk.bkL es new cs=some l/\y.2=.box l)\/(∃w esz rows,x=.arr w esz rows/\y.2=.arr w esz rows))
 |[],g,e,h=>by grind [iC]
 | .dead::_,g,e,h=>by grind [iC]
 | .box cs::xs,g,e,h=>by
  simp only[iC]at h;split at h;rename_i c l hc k;injection h with h;subst h;obtain⟨n,o⟩:=km k;grind;cases h
 | .arr w esz rows::xs,g,e,h=>by
  simp only[iC]at h;split at h;rename_i l k;injection h with h;subst h;obtain⟨n,o⟩:=km k;grind;cases h
theorem wo(b:Nat)(p q:List (Nat×Blk)):jS b (p++q)=match jS b q with
  |some y=>some y
  |none=>jS b p:=by
 induction p with
 |nil=>grind [jS]
 |cons x p ih=>
  grind [jS]
theorem ie{b:Nat}{x:Blk}: ∀{ws:List (Nat×Blk)},(ws.map (·.1)).Nodup-> ∀{k:Nat},ws[k]?=some (b,x)->jS b ws=some x
 |[],_,k,h=>by simp at h
 |(c,z)::r,hn,k,h=>by
  obtain⟨h1,h2⟩:=List.nodup_cons.1 hn;simp only[jS];cases k with
  |zero=>
   grind [xK]
  |succ k=>rw[ie h2 (k:=k) (by simpa using h)]
theorem JCV(n k:Nat):((List.range k).map (n+ ·)).Nodup:=by
 grind [List.nodup_range]
theorem wu(hF:jW P F){f:FuncId}{ar:List AV×List (Nat×Blk)}{q:Nat}{vals:Array Value}(H: ∀j,j<q->s.σ[new+j]?=some .dead)
  {g1:Gh} (i1:Inv ⟨upd ar.2 s.σ,g1,s.w⟩) (t1:bC s ⟨upd ar.2 s.σ,g1,s.w⟩) (f1:Frz s.σ (upd ar.2 s.σ)) (l1:ar.1.length=vals.toList.length)
  (r1: ∀(i:Nat) x v,ar.1[i]?=some x->vals.toList[i]?=some v->JG ⟨upd ar.2 s.σ,g1,s.w⟩ x v)
  (h:(fZ F f ar q new).run ⟨env,s.σ⟩=some e)
  (ai: ∀fn,P.funcs[f]?=some fn→fn.body.isSome=true→(fn.name== "runtime.NumGoroutine")=false→(execOp a.eval o).run P s.w=.ok (.enter f vals) s.w):bM P o a s e:=by
 unfold fZ at h;obtain⟨b7,h2,h⟩:=bind_some h;obtain⟨es,h3,h⟩:=bind_some h;split at h;rename_i ah;split at h;cases h;rename_i N a6;obtain⟨blks,h4,h⟩:=bind_some h;split at h;cases h;rename_i r a8;split at h;rename_i V;obtain⟨k,hlen,hk⟩: ∃k,r.2.length=es.length+k/\k<=q:=⟨r.2.length-es.length,by omega,by omega⟩;have M: ∀j,j<k->s.σ[new+j]?=some .dead:=λj hj=>H j (by omega);clear V;split at h;rename_i v fresh hv K;obtain⟨n,h5,h⟩:=bind_some h;simp only[RM.run]at h;injection h with h;subst h
 let s1:Sn:=⟨upd ar.2 s.σ,g1,s.w⟩
 obtain⟨bl,a5⟩:=xo (s:=s1) rfl h4;have cin:d8 s1 es blks:=⟨i1,UL ah,bl,a5⟩;obtain⟨⟨fn,af,O,S⟩,R⟩:=hF f N blks r a8;obtain⟨q1,q2⟩:=uO a6;have ci:=JQz cin;have hc:=R (iI s1 es blks).g s.w vals ci (by grind) (λi x v hx hv=>by have A:=Jz hx;have Y:ar.1[i]?=some (ar.1[i]'(by omega)):=aY _;exact Iy cin (r1 i _ v Y (by simpa using hv)) (q2 i _ x Y hx));intro next Q T;simp only[Oper.wp,ai fn af O S,Oper.upon];refine hc.mono ?_;rintro e w' ⟨rv,g',rfl,a7,I,a3⟩;simp only;obtain⟨b1,b2,b3⟩:=yk (s:=s1) rfl h5;obtain⟨n1,n2⟩:=km K;have B: ∀j,j<k->s1.σ[new+j]?=some .dead:=λj hj=>f1.2 _ _ (M j hj) (by simp);have ba:(r.2.drop es.length).length=k:=by simp;omega
 have ac:n.map (·.1)=es.map Ent.id:=(by apply zQ6;intro i;rw[iO,iO];by_cases A:i<es.length;have G:es[i]?=some es[i]:=aY A;have L:n[i]?=some (n[i]'(by omega)):=aY _;have E:r.2[i]?=some (r.2[i]'(by omega)):=aY _;have:=(b3 i _ _ _ G E L).1;grind;grind);have ab: ∀j,j<k->fresh[j]?=some (new+j,(fresh[j]?.map (·.2)).getD .dead):=(by grind);have am:(fresh.map (·.1)).Nodup:=(by have:fresh.map (·.1)=(List.range k).map (new+ ·):=(by apply zQ6;grind);grind [JCV]);have al: ∀b,b∈fresh.map (·.1)↔new<=b/\b<new+k:=(by intro b;constructor;grind [List.getElem?_of_mem];intro hm;have:=ab (b-new) (by omega);grind);have W:(upd (n++fresh) s1.σ).length=s1.σ.length:=AI _ _;have U: ∀{q:Nat} {en:Ent},es[q]?=some en->en.id<s1.σ.length/\ ¬(new<=en.id/\en.id<new+k):=by
  intro q en C;obtain⟨x,_,Z⟩:=rT cin C;have z: ∃y,s1.σ[en.id]?=some y/\y≠.dead:=by
   cases en with
   |whole b=>
    rcases Z with⟨cs',l,h1,h2,rfl⟩|⟨w,a2,rows',h1,rfl⟩;exact⟨_,h1,by simp⟩;exact⟨_,h1,by simp⟩
   |elem b ext i=>obtain⟨a2,rows',row,h1,h2,h3,rfl⟩:=Z;exact⟨_,h1,by simp⟩
  obtain⟨y,z,hd⟩:=z;refine⟨Jz z,λhm=>?_⟩;have:=B (en.id-new) (by omega);rw[show new+(en.id-new)=en.id by omega,z]at this;grind
 have aa: ∀{q:Nat} {en:Ent} {y:Nat×Blk},es[q]?=some en->n[q]?=some y->(upd (n++fresh) s1.σ)[en.id]?=some y.2:=by intro q en y C z;obtain⟨A,b8⟩:=U C;have E:r.2[q]?=some (r.2[q]'(by grind)):=aY _;have ag:=(b3 q en _ y C E z).1;rw[wY _ _ _ A,wo,xK (by grind)];simp only;rw[ie (x:=y.2) (by rw[ac];exact cin.nodup) (k:=q) (by grind)]
 have av: ∀{j:Nat} {y:Nat×Blk},j<k->fresh[j]?=some y->(upd (n++fresh) s1.σ)[new+j]?=some y.2:=(by grind [wY,wo,ie]);have co:M1 s1 es blks new k ⟨r.2,g',w'⟩ (upd (n++fresh) s1.σ):=by
  refine⟨cin,a7,I,hlen,W,B,λq y z=>?_,λb bc b9=>?_⟩;have z:r.2[q]?=some y:=z;unfold qG;cases C:es[q]? with
  |some en=>
   have A:=Jz C;have L:n[q]?=some (n[q]'(by omega)):=aY _;obtain⟨ag,a0⟩:=b3 q en y _ C z L;have hg:=aa C L;cases en with
   |whole b=>
    rcases a0 with⟨cs,l,G,E,J⟩|⟨w,esz,rows,G,J⟩;exact .inl ⟨cs,l,G,E,by rw[<-J];exact hg⟩;exact .inr ⟨w,esz,rows,G,by rw[<-J];exact hg⟩
   |elem b ext i=>obtain⟨w,esz,rows,a4,G,E,J⟩:=a0;exact⟨w,esz,rows,a4,G,E,by rw[<-J];exact hg⟩
  |none=>
   have bb:es.length<=q:=(by grind);have A:=Jz z;have L:fresh[q-es.length]?=some (fresh[q-es.length]'(by omega)):=aY _;grind
  grind [wY,xK]
 have oi:=JN2 co;have ot:=vz co;have D:upd (ar.2++n++fresh) s.σ=upd (n++fresh) s1.σ:=by grind [fG]
 refine T rv w' (fP s1 es new k ⟨r.2,g',w'⟩ (upd (n++fresh) s1.σ)).g ?_ ?_ ?_;rw[D];exact oi;rw[D];exact t1.trans ot;rw[D];exact Mj co a3 hv;cases h;cases h;cases h
theorem Lx{f:FuncId}{args:List AV}{k:Nat}{s:St}(h:(iQ F f args k new).run s=some e): ∃ar,(kL args).run s=some ar/\(fZ F f ar k new).run s=some e:=by
 unfold iQ at h;obtain⟨ar,h1,h⟩:=bind_some h;obtain⟨w,h2,h⟩:=bind_some h;obtain⟨es,v,h⟩:=bind_some h;refine⟨ar,h1,?_⟩;unfold fZ;rw[run_bind,h2,JC,run_bind,v,JC];split at h;rename_i n;rw[if_pos n];split at h;cases h;rename_i o g;obtain⟨blks,q,h⟩:=bind_some h
 try rw[g]
 try dsimp only
 rw[run_bind,q,JC];split at h;cases h;rename_i r j
 try rw[j]
 try dsimp only
 split at h;grind;cases h;cases h
theorem L0(A:jW P F)(hi:Inv s){f:FuncId}{args:List AV}{k:Nat}{vals:Array Value}(g: ∀j,j<k->s.σ[new+j]?=some .dead)
  (h:(iQ F f args k new).run ⟨env,s.σ⟩=some e) (hl:args.length=vals.size) (hr: ∀(i:Nat) x v,args[i]?=some x->vals[i]?=some v->JG s x v)
  (r: ∀fn,P.funcs[f]?=some fn→fn.body.isSome=true→(fn.name== "runtime.NumGoroutine")=false→(execOp a.eval o).run P s.w=.ok (.enter f vals) s.w):bM P o a s e:=by
 obtain⟨ar,h1,h2⟩:=Lx h;obtain⟨D,i1,B,z,C,y⟩:=wz (vs:=vals.toList) hi (.refl _) h1 (by simpa using hl) (λi x v n q=>hr i x v n (by simpa using q));grind [wu]
theorem JIo{r:List Blk}: ∀{m:List Bool} {xs:List AV} {s:Sn} {y:List AV×List (Nat×Blk)} {vs:List Value},Inv s->Frz r s.σ->(fO m xs).run ⟨env,r⟩=some y->xs.length=vs.length->
  (∀(i:Nat) x v,xs[i]?=some x->vs[i]?=some v->JG s x v)->
  ∃g',Inv ⟨upd y.2 s.σ,g',s.w⟩/\bC s ⟨upd y.2 s.σ,g',s.w⟩/\Frz s.σ (upd y.2 s.σ)/\y.1.length=vs.length/\
   ∀(i:Nat) x v,y.1[i]?=some x->vs[i]?=some v->JG ⟨upd y.2 s.σ,g',s.w⟩ x v:=by
 intro m xs
 induction xs generalizing m with
 |nil=>
  intro s y vs hi q h j k;have h:(RM.ret ([],[]):RM (List AV×List (Nat×Blk))).run ⟨env,r⟩=some y:=by cases m<;>exact h
  simp only[RM.run]at h;injection h with h;subst h;exact⟨s.g,hi,.refl s,.refl _,by simpa using j,λi c v hc=>by simp at hc⟩
 |cons x xs ih=>
  intro s y vs hi q h j k;cases vs with
  |nil=>simp at j
  |cons v vs=>
   have z: ∀{A:List Bool},((jQ x).bind λa=>(fO A xs).bind λc=>.ret (a.1::c.1,a.2++c.2)).run ⟨env,r⟩=some y->
     ∃g',Inv ⟨upd y.2 s.σ,g',s.w⟩/\bC s ⟨upd y.2 s.σ,g',s.w⟩/\Frz s.σ (upd y.2 s.σ)/\y.1.length=(v::vs).length/\
      ∀(i:Nat) x o,y.1[i]?=some x->(v::vs)[i]?=some o->JG ⟨upd y.2 s.σ,g',s.w⟩ x o:=by
    intro A h;obtain⟨I,h1,h⟩:=bind_some h;obtain⟨K,h2,h⟩:=bind_some h;simp only[RM.run]at h;injection h with h;subst h;obtain⟨L,i1,H,G,M⟩:=Of hi q h1 (k 0 x v rfl rfl);obtain⟨D,i2,n,B,C,J⟩:=ih (m:=A) (s:=⟨upd I.2 s.σ,L,s.w⟩) i1 (q.trans G) h2 (by simpa using j) λi x v E F=>(k (i+1) x v (by simpa using E) (by simpa using F)).mono hi H;refine⟨D,by grind [fG],by rw[fG];exact H.trans n,by rw[fG];exact G.trans B,by simp[C],λi c' o hc' e=>?_⟩;grind [JG.mono,upd]
   cases m with
   |nil=>exact z h
   |cons b m=>
    cases b with
    |false=>exact z h
    |true=>
     simp only[fO]at h;obtain⟨K,h2,h⟩:=bind_some h;simp only[RM.run]at h;injection h with h;subst h;obtain⟨D,i2,n,B,C,J⟩:=ih (m:=m) hi q h2 (by simpa using j) λi x v E F=>k (i+1) x v (by simpa using E) (by simpa using F);refine⟨D,i2,n,B,by simp[C],λi c' o hc' e=>?_⟩;cases i with
     |zero=>simp at hc' e;subst hc' e;exact(k 0 x v rfl rfl).mono hi n
     |succ i=>grind
theorem kw{f:FuncId}{args:Array Value}{fn:Func}(h1:P.funcs[f]?=some fn)(h2:fn.body.isSome=true)(h3:(fn.name== "runtime.NumGoroutine")=false)(w:World):
  (callFunc f args).run P w=.ok (.enter f args) w:=by
 have e:fn.name≠ "runtime.NumGoroutine" :=by simpa using h3
 have g:fn.body≠none:=by grind
 simp_all [callFunc]
theorem JNr(y:jW P F)(hi:Inv s)(he:bN s a.tmps env){f args k}(n: ∀j,j<k->s.σ[new+j]?=some .dead)(h:(opR F (.call f args k) new).run ⟨env,s.σ⟩=some e)
  (hc:JW P (.call f args k) o.op=true):bM P o a s e:=by
 simp only[opR]at h;obtain⟨vs,h1,w⟩:=bind_some h;clear h;unfold JW at hc;simp only at hc;split at hc;rename_i c C;split at hc;rename_i g z;simp only[aS,beq_iff_eq]at hc;obtain⟨rfl,q⟩:=hc;obtain⟨l,r⟩:=FI he h1 q;refine L0 y hi n w (vals:=c.args.map a.eval) (by simpa using l) (λi x v A B=>r i x v A (by simpa using B)) λfn G E D=>?_;simp_all [execOp,resolve,Act.eval,Deferred.ofValue,invoke,kw];cases hc;cases hc
theorem JJS(A:jW P F)(hi:Inv s)(he:bN s a.tmps env){f keep args k}(n: ∀j,j<k->s.σ[new+j]?=some .dead)(h:(opR F (.callo f keep args k) new).run ⟨env,s.σ⟩=some e)
  (hc:JW P (.callo f keep args k) o.op=true):bM P o a s e:=by
 simp only[opR]at h;obtain⟨vs,h1,w⟩:=bind_some h;obtain⟨ar,h2,G⟩:=bind_some w;clear h w;unfold JW at hc;simp only at hc;split at hc;rename_i c J;split at hc;rename_i g B;simp only[aS,beq_iff_eq]at hc;obtain⟨rfl,q⟩:=hc;obtain⟨l,r⟩:=FI he h1 q;obtain⟨E,i1,C,z,D,y⟩:=JIo (vs:=(c.args.map a.eval).toList) hi (.refl _) h2 (by simpa using l) (λi x v H I=>r i x v H (by simpa using I));refine wu A n (vals:=c.args.map a.eval) i1 C z D y G λfn E L K=>?_;simp_all [execOp,resolve,Act.eval,Deferred.ofValue,invoke,kw];cases hc;cases hc
theorem JJL(C:jW P F)(hi:Inv s)(he:bN s a.tmps env){x args k}(g: ∀j,j<k->s.σ[new+j]?=some .dead)(h:(opR F (.callv x args k) new).run ⟨env,s.σ⟩=some e)
  (hc:JW P (.callv x args k) o.op=true):bM P o a s e:=by
 simp only[opR]at h;obtain⟨u,E,q⟩:=bind_some h;clear h;unfold JW at hc;simp only at hc;split at hc;rename_i c G;split at hc;rename_i y D;simp only[aS]at hc;obtain⟨B,n⟩:=hc;have A:=bJ he E B;cases u with
 |fn f first caps=>
  dsimp only at q;obtain⟨vs,h1,w⟩:=bind_some q;obtain⟨l,r⟩:=FI he h1 n;generalize O:a.eval y=z at A;cases A with
  |fn _ _ _ fs cs K J H I=>
   have L:vs.length=c.args.size:=by simpa using l
   refine L0 C hi g w (vals:=fs++c.args.map a.eval++cs) (by simp;omega) (λi x v B R=>?_) λfn Q N M=>?_;grind;grind [execOp,resolve,Deferred.ofValue,invoke,kw]
 |_=>cases q
 cases hc;cases hc
end
section
variable {P:Program} {F:Orc} {s:Sn} {a:Act} {env:List (Nat×AV)} {o:Oper} {new:Nat} {e:Eff}
theorem ir: ∀(os:List (Nat×Nat)) (n:Nat) {s:Sn},Inv s->(∀j,j<os.length->s.σ[n+j]?=some .dead)->
  ∃g',Inv ⟨upd (hY os n) s.σ,g',s.w⟩/\bC s ⟨upd (hY os n) s.σ,g',s.w⟩/\
   (∀j,j<os.length->(∃esz,(upd (hY os n) s.σ)[n+j]?=some (.arr true esz []))/\g'.μ (n+j)=none)/\
   (∀b,b<n\/n+os.length<=b->(upd (hY os n) s.σ)[b]?=s.σ[b]?/\g'.μ b=s.g.μ b)
 |[],n,s,hi,_=>⟨s.g,hi,.refl s,λj e=>by simp at e,λb _=>⟨rfl,rfl⟩⟩
 |(off,esz)::r,n,s,hi,hd=>by
  obtain⟨i1,v⟩:=SM hi (hd 0 (by simp)) esz;obtain⟨g',i2,q,h1,h2⟩:=ir r (n+1) (s:=⟨s.σ.set n (.arr true esz []),fM s.g n none,s.w⟩) i1 (λj e=>by
   show(s.σ.set n _)[n+1+j]?=_;rw[sD (by omega)];have:=hd (j+1) (by simp;omega);grind)
  refine⟨g',i2,v.trans q,λj e=>?_,λb hb=>?_⟩;cases j with
  |zero=>
   obtain⟨o,k⟩:=h2 n (.inl (by omega));refine⟨⟨esz,?_⟩,?_⟩;grind [upd,hY];rw[vH,k];exact if_pos rfl
  |succ j=>have:=h1 j (by simpa using e);rw[show n+(j+1)=n+1+j by omega];exact this
  obtain⟨o,k⟩:=h2 b (by grind);have h:n≠b:=by grind
  exact⟨o.trans (sD h),k.trans (if_neg (Ne.symm h))⟩
theorem xq{t:TypeId}{os:List (Nat×Nat)}{v:Value}(hv:zeT P t=some v)(h:QB P t os=true): ∀x∈os,v.cells[x.1]?=some (.slice none 0 0):=by
 grind [QB]
theorem io{cells:Array Value}: ∀(os:List (Nat×Nat)) (n:Nat) {cs:List AV},(∀x∈os,cells[x.1]?=some (.slice none 0 0))->
  (∀j,j<os.length->(∃esz,s.σ[n+j]?=some (.arr true esz []))/\s.g.μ (n+j)=none)->
  (∀(i:Nat) x,cs[i]?=some x-> ∃u,cells[i]?=some u/\JG s x u/\u.oneCell'=true)->
  ∀(i:Nat) x,(mL os n cs)[i]?=some x-> ∃u,cells[i]?=some u/\JG s x u/\u.oneCell'=true
 |[],_,_,_,_,h=>h
 |(off,esz)::r,n,cs,hz,ha,h=>by
  refine io r (n+1) (λx e=>hz x (by simp[e])) (λj q=>by
   have:=ha (j+1) (by simpa using q);grind) λi x e=>?_
  by_cases hi:off=i;subst hi;have k:=Jz e;rw[List.length_set]at k;rw[DD k]at e;injection e with e;subst e;obtain⟨⟨o,h1⟩,h2⟩:=ha 0 (by simp);rw[vH]at h1 h2;exact⟨.slice none 0 0,hz (off,esz) (by simp),.slr n 0 0 _ true o [] ⟨none,0,rfl,.inl rfl⟩ h1 (zQ0 _) λ_=>.inl ⟨h2,rfl,rfl,rfl⟩,rfl⟩;simp_all
theorem ib: ∀(os:List (Nat×Nat)) (n:Nat) (cs:List AV),(mL os n cs).length=cs.length|[],_,_=>rfl|_::r,n,cs=>(ib r (n+1) _).trans (by simp)
theorem JFx(hi:Inv s){zero os}(n: ∀j,j<os.length+1->s.σ[new+j]?=some .dead)(h:(opR F (.newboxo zero os) new).run ⟨env,s.σ⟩=some e)(hc:JW P (.newboxo zero os) o.op=true):bM P o a s e:=by
 simp only[opR,RM.run]at h;injection h with h;subst h;unfold JW at hc;simp only at hc;split at hc;rename_i t J;simp only[aS]at hc;obtain⟨B,E⟩:=hc;obtain⟨v,G,L,D⟩:=xL B;obtain⟨r,i1,z,h1,h2⟩:=ir os new hi λj N=>n j (by omega);have hd:(upd (hY os new) s.σ)[new+os.length]?=some .dead:=((h2 _ (.inr (zQ0 _))).1).trans (n _ (by omega))
 let s1:Sn:=⟨upd (hY os new) s.σ,r,s.w⟩
 obtain⟨A,t'⟩:=SF (s0:=s1) i1 hd (blk:=.box (mL os new (zero.map .p))) (c:=v.cells) (e:=t) (fz:=(0,0)) (w':={s.w with heap:=s.w.heap.push (.cells v.cells t)}) rfl rfl rfl
  (λo _ _ h=>by simp at h) (λ_ _ _ h=>by cases h) ⟨by grind [ib],λi x q=>by
   obtain⟨u,M,K,I⟩:=io (s:=s1) (cells:=v.cells) os new (xq G E) h1 (λi x q=>by
    rw[iO]at q;cases hzi:zero[i]? with
    |none=>simp_all
    |some c=>
     simp[hzi]at q;subst q;have H:=Jz hzi;have y:i<v.cells.size:=by omega
     have:=D (w:=s1.w) (C:=s1.g.C) i c v.cells[i] hzi (by simp);exact⟨v.cells[i],by simp,.p _ _ this,this.one⟩) i x q
   simp_all⟩
 have k:upd (hY os new++[(new+os.length,Blk.box (mL os new (zero.map .p)))]) s.σ=(upd (hY os new) s.σ).set (new+os.length) (.box (mL os new (zero.map .p))):=by rw[fG];rfl
 refine gB (e:=⟨.ptr (new+os.length) 0,hY os new++[(new+os.length,.box (mL os new (zero.map .p)))]⟩) (v:=.pointer (some ⟨s.w.heap.size,0,none⟩)) (g':=fM r (new+os.length) (some (s.w.heap.size,0))) ?_
  (by rw[k];exact A) (by rw[k];exact z.trans t') (by rw[k];exact .ptr (new+os.length) 0 _ 0 (if_pos rfl) ⟨_,jF hd⟩)
 simp_all [execOp,Instr.alloc,FS,newVar,newRow];cases hc
theorem JIl(hi:Inv s)(he:bN s a.tmps env)(hn:s.σ[new]?=some .dead){esz x}(h:(opR F (.storen esz x) new).run ⟨env,s.σ⟩=some e)(hc:JW P (.storen esz x) o.op=true):bM P o a s e:=by
 simp only[opR]at h;obtain⟨u,h1,L⟩:=bind_some h;obtain⟨G,h2,B⟩:=bind_some L;clear h L;simp only[RM.run]at B;injection B with B;subst B;obtain⟨J,Q⟩:=SM hi hn esz;unfold JW at hc;simp only at hc;split at hc;rename_i t M af;simp only[aS,beq_iff_eq]at hc;obtain⟨hs,hx⟩:=hc;have v:=bJ he h1 hx;have N: ∀{r n:Nat} {w':World},a.eval M=.pointer (some ⟨r,n,none⟩)->(storeVar t ⟨r,n,none⟩ (.slice none 0 0)).run P s.w=.ok () w'->(execOp a.eval o).run P s.w=.ok .skip w':=by intro r n w' R a8;have ab:a.eval (.const (.slice none 0 0))=.slice none 0 0:=rfl;simp_all [execOp,Instr.storeAt,Instr.sureAddr]
 unfold iR at h2;split at h2;rename_i b off;simp only[RM.run]at h2;split at h2;rename_i blk hb;split at h2;rename_i cs;split at h2;rename_i l hl;split at h2;rename_i a5;split at h2;rename_i cs' D;simp only[RM.run]at h2;injection h2 with h2;subst h2;have hb:s.σ[b]?=some (.box cs):=hb;have O:new≠b:=λe=>by simp_all
 let s1:Sn:=⟨s.σ.set new (.arr true esz []),fM s.g new none,s.w⟩
 have C:s1.σ[b]?=some (.box cs):=(sD O).trans hb;have Z:JG s1 (.slr new 0 0) (.slice none 0 0):=
  .slr new 0 0 _ true esz [] ⟨none,0,rfl,.inl rfl⟩ (jF hn) (zQ0 _) λ_=>.inl ⟨if_pos rfl,rfl,rfl,rfl⟩
 generalize R:a.eval M=z at v;have v:=JG.mono (s:=s1) hi Q v;cases v with
 |ptr _ _ r n m a9=>
  obtain⟨k1,I,Y⟩:=VF hl Z;obtain⟨S,j2,U,j4⟩:=RU D;obtain⟨r1,o1,c,W,fz,A,H,ac,aa,hf⟩:=J.box b cs C;rw[m]at A;injection A with A;injection A with m1 m2;subst m1 m2;have q:=GL (vs:=(Value.slice none 0 0).cells.toList) (o:=n+off) H (by simp;omega);have hlen:(Value.slice none 0 0).cells.toList.length=l.length:=by simp[k1]
  obtain⟨i',t'⟩:=jv (s0:=s1) J (blk:=.box cs') C q (λk h1 h2=>by
   grind [Wr1]) (.box _ _ S) (λa6 j E=>by
   injection j with j;subst j;obtain⟨c0,e0,ae,c',y,T,p3,p4,V,p6⟩:=q.there;rw[H]at y;injection y with y;injection y with q1 q2 q3;subst q1 q2 q3;refine⟨r,n,c',W,fz,m,T,by omega,λi x K=>?_,by simp_all⟩;by_cases ag:off<=i/\i<off+l.length;have G:cs'[off+(i-off)]?=l[i-off]?:=U (i-off) (by omega);rw[show off+(i-off)=i by omega,K]at G;have a7:i-off<(Value.slice none 0 0).cells.size:=by omega
   have e2:=V (i-off) (Value.slice none 0 0).cells[i-off] (by simp);refine⟨(Value.slice none 0 0).cells[i-off],by rw[<-e2];congr 1;omega,E (Y (i-off) x _ G.symm (by simp)),I _ (by simp)⟩;grind)
   (λ_ _ j=>by cases j)
  refine jj (e:=⟨gY,(new,.arr true esz [])::[(b,.box cs')]⟩) (N R (kt (by simp_all) H (by omega) (λk h1 h2=>hf k (by omega) (by omega)) I)) rfl i' (Q.trans t')
 cases h2;cases h2;cases h2;cases h2;cases h2;rename_i b ext i off;have ad:(fz (.slr new 0 0)).run ⟨env,s.σ⟩=none:=(by grind [fz,RM.run]);simp only[RM.run]at h2;split at h2;split at h2;split at h2;split at h2;grind [run_bind];cases h2;cases h2;cases h2;cases h2;cases h2;cases hc
theorem JIK(hi:Inv s)(he:bN s a.tmps env){zero parts os}(D: ∀j,j<os.length->s.σ[new+j]?=some .dead)(h:(opR F (.buildo zero parts os) new).run ⟨env,s.σ⟩=some e)
  (hc:JW P (.buildo zero parts os) o.op=true):bM P o a s e:=by
 simp only[opR]at h;obtain⟨l,h1,q⟩:=bind_some h;clear h;unfold JW at hc;simp only at hc;split at hc;rename_i t ps a8;simp only[aS]at hc;obtain⟨⟨hz,hn⟩,ht⟩:=hc;obtain⟨z,M,a9,O⟩:=xL hz;obtain⟨Q,i1,N,J,aa⟩:=ir os new hi D;split at q;rename_i cs hcs;split at q;rename_i r h3;simp only[RM.run]at q;injection q with q;subst q
 let s1:Sn:=⟨upd (hY os new) s.σ,Q,s.w⟩
 have E: ∀(i:Nat) x,(mL os new (zero.map AV.p))[i]?=some x-> ∃u,z.cells[i]?=some u/\JG s1 x u/\u.oneCell'=true:=
  io (s:=s1) (cells:=z.cells) os new (xq M hn) J (by
   intro i x I;rw[iO]at I;cases hzi:zero[i]? with
   |none=>simp_all
   |some c=>
    simp[hzi]at I;subst I;have K:=Jz hzi;have W:i<z.cells.size:=by omega
    have:=O (w:=s1.w) (C:=s1.g.C) i c z.cells[i] hzi (by simp);exact⟨z.cells[i],by simp,.p _ _ this,this.one⟩)
 have fin: ∀{place:Nat->Option (Nat×Nat)},sA place parts ps.toList=true->
   ∃n,Instr.fill place z.cells (ps.toList.map λx=>(x.1,a.eval x.2))=some n/\JG s1 r (.agg n):=by
  intro place B;obtain⟨T,k2⟩:=kb he h1 B;obtain⟨n,L,Z,f3⟩:=ja (s:=s1) (cells:=z.cells) hcs T (λk off size cs i v hk G=>by obtain⟨Y,V,S,U⟩:=k2 k off size cs i v hk G;exact⟨Y,V,S,λj y u R H=>(U j y u R H).mono hi N⟩) (by grind [ib]) E;refine⟨n,L,?_⟩;have:=RI (s:=s1) (vs:=n.toList) h3 (by simpa using Z) (λv G=>by
    obtain⟨i,hi'⟩:=jK G;have hi':n[i]?=some v:=by simpa using hi'
    have K:=UM hi';obtain⟨u,H,_,h1⟩:=f3 i cs[i] (by simp_all);simp_all)
   (λi y v R G=>by
    grind)
  simp_all
 have ab:(ps.map λx=>(x.1,a.eval x.2)).toList=ps.toList.map λx=>(x.1,a.eval x.2):=by simp
 split at ht;rename_i fs H;simp only[aS]at ht;obtain⟨A,B⟩:=ht;obtain⟨n,L,hr⟩:=fin B;have a7:(λi=>(fs.map λf=>(f.offset,(szT P f.type).getD 0))[i]?)=FJ P fs:=by
  funext i
  simp only[FJ,Array.getElem?_map];cases hfi:fs[i]? with
  |none=>rfl
  |some f=>have:=XR.1 A f (Array.mem_of_getElem? hfi);cases hq:szT P f.type<;>simp[hq]at this⊢
 have a1:(fs.mapM λf=>do pure (f.offset,<-sizeOf f.type):Sem (Array (Nat×Nat))).run P s.w=.ok (fs.map λf=>(f.offset,(szT P f.type).getD 0)) s.w:=by
  rw[Array.mapM_eq_mapM_toList];simp only[Sem.run_map,ka (P:=P) (fs:=fs.toList) (λf hf=>XR.1 A f (by simpa using hf)),tC]
  congr 1
  grind
 have hf:Instr.fill (λi=>(fs.map λf=>(f.offset,(szT P f.type).getD 0))[i]?) z.cells (ps.map λx=>(x.1,a.eval x.2)).toList=some n:=by simp_all
 have hb:(Instr.build t (ps.map λx=>(x.1,a.eval x.2))).run P s.w=.ok (.agg n) s.w:=by simp_all [Instr.build,FS,run_underlying]
 refine gB (e:=⟨r,hY os new⟩) (v:=.agg n) (g':=Q) ?_ i1 N hr;simp_all [execOp];cases ht;cases q;cases q;cases hc
end
theorem Nd{new:Nat}{env:List (Nat×AV)}{σ:List Blk}: ∀{k new:Nat} {u:Unit},(tP new k).run ⟨env,σ⟩=some u-> ∀j,j<k->σ[new+j]?=some .dead
 |0,_,_,_,j,hj=>by omega
 |k+1,new,u,h,j,hj=>by
  simp only[tP,RM.run]at h;split at h;rename_i x e;cases x with
  |dead=>
   dsimp only at h;cases j with
   |zero=>exact e
   |succ j=>have:=Nd (new:=0) h j (by omega);grind
  |box=>cases h
  |arr=>cases h
  cases h
section
variable {P:Program} {F:Orc} {s:Sn} {a:Act} {env:List (Nat×AV)} {o:Oper} {new:Nat} {e:Eff}
theorem JRe(q:jW P F)(hi:Inv s)(he:bN s a.tmps env){n:AOp}(h:(opD F n new).run ⟨env,s.σ⟩=some e)(hc:JW P n o.op=true):bM P o a s e:=by
 unfold opD at h;obtain⟨u,hd,h⟩:=bind_some h;have g:=Nd (new:=0) hd;clear hd;have j:mT n=1->s.σ[new]?=some .dead:=λh1=>g 0 (by omega);cases n with
 |mv x=>grind [JQY]
 |mkarr esz x=>exact JKd hi (j rfl) h hc
 |pick=>grind [JMH]
 |newbox=>exact JIL hi (j rfl) h hc
 |box=>exact JOs hi he (j rfl) h hc
 |build=>grind [JKi]
 |lits=>grind [JNB,mT]
 |load=>grind [JNK]
 |store=>grind [JKT]
 |nilchk=>grind [JHR]
 |bin op t x y=>cases t<;>grind [JB0,JD3,JDz,JDM,JDt,JDJ]
 |un=>grind [JQQ]
 |conv k x=>
  grind [JGG,mT,JNw]
 |mkslice=>grind [JG9,mT]
 |slice=>grind [JKc]
 |faddr=>grind [JKl]
 |field=>grind [JKv]
 |iaddr=>grind [JL6]
 |aaddr=>grind [JLs]
 |sidx=>grind [JMQ]
 |aidx=>grind [JNy]
 |extr=>grind [JND]
 |call=>exact JNr q hi he g h hc
 |callv=>exact JJL q hi he g h hc
 |len=>grind [JOp]
 |app=>grind [JOE]
 |appn=>exact JNz hi he (j rfl) h hc
 |psuf=>exact JNn hi he h hc
 |shr=>exact JPQ hi he (j rfl) h hc
 |clr=>exact JPq hi he h hc
 |mvn=>exact JQ5 hi he (j rfl) h hc
 |mm=>grind [JR2]
 |mkfn=>grind [JMN]
 |newboxo=>exact JFx hi g h hc
 |buildo=>exact JIK hi he g h hc
 |storen=>exact JIl hi he (j rfl) h hc
 |callo=>exact JJS q hi he g h hc
end
def zY(P:Program)(N:Nat)(ops:Array Oper)(i:bU)(o:Oper):Bool:=
 JW P i.op o.op&&i.dst==o.dst&&(match i.dst with
  |some d=>decide (d<N)
  |none=>true)&&(match i.g,o.guard with
  |none,none=>true
  |some (g,w),some (j,w')=>w==w'&&(ops[j]?).bind (·.dst)==some g
  |_,_=>false)
def Sim(N:Nat)(E:Sn)(st:St)(a:Act)(w:World):Prop:=a.tmps.size=N/\a.defers=[]/\ ∃g,Inv ⟨st.sto,g,w⟩/\bN ⟨st.sto,g,w⟩ a.tmps st.env/\bC E ⟨st.sto,g,w⟩
theorem bN.put{s:Sn}{tmps:Array Value}{env:List (Nat×AV)}(he:bN s tmps env){d:Nat}(hd:d<tmps.size){x:AV}{v:Value}(hv:JG s x v):
  bN s (tmps.setIfInBounds d v) ((d,x)::env):=by
 intro n y e;simp only[lk]at e;split at e;simp_all;rename_i g;obtain⟨u,h1,h2⟩:=he n y e;grind
theorem Sim.putd{N:Nat}{E:Sn}{st:St}{a:Act}{w w':World}{g g':Gh}{e:Eff}{v:Value}{d:Option Nat}
  (h1:a.tmps.size=N) (h2:a.defers=[]) (hi:Inv ⟨st.sto,g,w⟩) (he:bN ⟨st.sto,g,w⟩ a.tmps st.env) (ht:bC E ⟨st.sto,g,w⟩) (hd: ∀x,d=some x->x<N)
  (hi':Inv ⟨upd e.ws st.sto,g',w'⟩) (h:bC ⟨st.sto,g,w⟩ ⟨upd e.ws st.sto,g',w'⟩) (hv:JG ⟨upd e.ws st.sto,g',w'⟩ e.val v):
  Sim N E (Am.put d e st) (a.put d v) w':=by
 have j:=he.mono hi h;cases d with
 |none=>exact⟨h1,h2,g',hi',j,ht.trans h⟩
 |some d=>exact⟨by grind [Act.put],h2,g',hi',j.put (by simp_all) hv,ht.trans h⟩
section
variable {P:Program} {F:Orc} {N:Nat} {E:Sn} {st:St} {a:Act} {w:World} {ops:Array Oper} {i:bU} {o:Oper} {e:Eff} {new k:Nat} {Q:Exit->Act->World->Prop} {K:Act->World->Prop}
theorem JFT{s:Sn}:JG s gY undef:=.tup _ _ rfl λi x v h=>by simp at h
theorem I7(D:jW P F)(hs:Sim N E st a w)(ho:ops[k]?=some o)(hc:zY P N ops i o=true)(h:(bW F i new).run st=some e)
  (next: ∀n w',Sim N E (Am.put i.dst e st) n w'->K n w'):wpOp P ops Q k K a w:=by
 obtain⟨h1,h2,g,hi,y,ht⟩:=hs;simp only[zY,aS,beq_iff_eq]at hc;obtain⟨⟨⟨hc,hd⟩,I⟩,q⟩:=hc;have z: ∀x,i.dst=some x->x<N:=(by grind);have run: ∀{e:Eff},(opD F i.op new).run st=some e->(∀n w',Sim N E (Am.put i.dst e st) n w'->K n w')->o.wp P a w K Q:=(by intro e h next;refine JRe (s:=⟨st.sto,g,w⟩) (env:=st.env) D hi y h hc K Q λv w' g' hi' H A=>next _ _ ?_;grind [Sim.putd]);have skip:(∀n w',Sim N E (Am.put i.dst ⟨gY,[]⟩ st) n w'->K n w')->K (a.put o.dst undef) w:=by intro next;refine next _ _ ?_;rw[<-hd];exact Sim.putd (e:=⟨gY,[]⟩) h1 h2 hi y ht z hi (.refl _) JFT
 unfold wpOp;rw[ho];dsimp only;unfold bW at h;cases hig:i.g with
 |none=>
  grind [Region.wanted]
 |some G=>
  obtain⟨J,C⟩:=G;rw[hig]at h q;cases hog:o.guard with
  |none=>simp_all
  |some x=>
   obtain⟨j,B⟩:=x;rw[hog]at q;simp only[aS,beq_iff_eq]at q;obtain⟨rfl,R⟩:=q;simp only[RM.run]at h;split at h;rename_i v A;obtain⟨u,O,r⟩:=y _ _ A;split at h;rename_i b;cases r with
   |p _ _ r=>
    cases r with
    |b x=>
     have M:yielded ops a.tmps j=some b:=by grind [yielded]
     grind [Region.wanted,RM.run]
   cases r with
   |tup _ vs L _=>
    grind [yielded,Region.wanted,RM.run]
   cases h;cases h
end
theorem N0{σ:List Blk}{n b:Nat}{x:Blk}(h:(σ++List.replicate n Blk.dead)[b]?=some x)(hx:x≠.dead):σ[b]?=some x:=by
 grind
theorem ve{σ:List Blk}{n b:Nat}{x:Blk}(h:σ[b]?=some x):(σ++List.replicate n Blk.dead)[b]?=some x:=by
 grind
theorem RW{σ:List Blk}{g:Gh}{w:World}{n b r o:Nat}:Wr1 ⟨σ++List.replicate n .dead,g,w⟩ b r o↔Wr1 ⟨σ,g,w⟩ b r o:=by
 grind [Wr1]
theorem kc{σ:List Blk}{g:Gh}{w:World}{n:Nat}:bC ⟨σ,g,w⟩ ⟨σ++List.replicate n .dead,g,w⟩ where
 keep:=.refl _ _
 cmono _ _ h:=h
 cnew _ _ h:=.inl h
 wnew _ _ h:=let⟨b,hb⟩:=h;.inl ⟨b,RW.1 hb⟩
 len:=by simp
 box b cs h:=⟨⟨cs,ve h,rfl⟩,rfl⟩
 arr b wm esz rows h:=⟨wm,rows,ve h,id,zQ0 _,λ_=>rfl⟩
theorem JLV{σ:List Blk}{g:Gh}{w:World}{n:Nat}(hi:Inv ⟨σ,g,w⟩):Inv ⟨σ++List.replicate n .dead,g,w⟩:=by
 have t:=kc (σ:=σ) (g:=g) (w:=w) (n:=n);refine⟨λb cs h=>?_,λb wm esz rows h=>?_,λb1 b2 r o h1 h2=>hi.apart b1 b2 r o (RW.1 h1) (RW.1 h2),λr o hc=>⟨(hi.const r o hc).1,λb hb=>(hi.const r o hc).2 b (RW.1 hb)⟩⟩;obtain⟨r,o,c,e,fz,A,D,B,y,q⟩:=hi.box b cs (N0 h (by simp));exact⟨r,o,c,e,fz,A,D,B,λi x C=>let⟨v,j,z,k⟩:=y i x C;⟨v,j,z.mono hi t,k⟩,q⟩;exact hi.arr b wm esz rows (N0 h (by simp))
theorem Sim.room{N:Nat}{E:Sn}{st:St}{a:Act}{w:World}(h:Sim N E st a w)(n:Nat):Sim N E ⟨st.env,room n st.sto⟩ a w:=by
 unfold Am.room;split;exact h;obtain⟨h1,h2,g,hi,e,ht⟩:=h;exact⟨h1,h2,g,JLV hi,e.mono hi kc,ht.trans kc⟩
theorem Sim.heap{N:Nat}{E:Sn}{st:St}{a:Act}{w w':World}(h:Sim N E st a w)(hh:w'.heap=w.heap)(ho:w'.os=w.os)(hp:w'.output=w.output):Sim N E st a w':=by obtain⟨h1,h2,g,hi,j,ht⟩:=h;obtain⟨e,t'⟩:=we hi hh ho hp;exact⟨h1,h2,g,e,j.mono hi t',ht.trans t'⟩
theorem Sim.congr{N:Nat}{E:Sn}{st st':St}{a:Act}{w:World}(h:Sim N E st a w)(he: ∀m,lk m st'.env=lk m st.env)(hs:st'.sto=st.sto):Sim N E st' a w:=by obtain⟨h1,h2,g,hi,e,ht⟩:=h;refine⟨h1,h2,g,?_⟩;rw[hs];exact⟨hi,λn x j=>e n x (by simp_all),ht⟩
def eM(P:Program)(N:Nat)(ops:Array Oper):List bU->List Oper->Bool|[],[]=>true|i::r,o::q=>zY P N ops i o&&eM P N ops r q|_,_=>false
def UP(x y:bU):Bool:=
 (match x.dst with
 |none=>true
 |some m=>y.dst !=some m&& !(xF y).contains m)&&(match y.dst with
 |none=>true
 |some m=> !(xF x).contains m)
def TM(x y:bU):Bool:=(!zH x.op|| !NH y.op)&&(!zH y.op|| !NH x.op)
def IM:List Nat->List Nat->List Nat|[],acc=>acc|x::r,acc=>match acc.contains x with|true=>IM r acc|false=>IM r (x::acc)
theorem ji{i:Nat}: ∀{l acc:List Nat},i∈IM l acc->i∈l\/i∈acc
 |[],_,h=>.inr h
 |x::r,acc,h=>by
  simp only[IM]at h;split at h;exact(ji h).imp (eG _) id
  ·rcases ji h with h|h
   all_goals grind
def Ig(l:List Nat):List Nat:=IM l []
theorem JJA{i:Nat}{l:List Nat}(h:i∈Ig l):i∈l:=(ji h).resolve_right (by simp)
def Iw(acc:List (List Nat))(o:Oper):List Nat:=Ig<|(o.after.toList.filter λe=>Region.binds .any e).flatMap λe=>e.on::(acc[e.on]?).getD []
def pv(acc:List (List Nat)):List Oper->List (List Nat)|[]=>acc|o::r=>pv (acc++[Iw acc o]) r
def ft(e:List (List Nat))(pairs:List (Nat×Nat))(i j:Nat)(x y:bU):Bool:=
 ((e[j]?).getD []).contains i||(UP x y&&(TM x y||pairs.contains (i,j)))
def MA(e:List (List Nat))(pairs:List (Nat×Nat))(j:Nat)(y:bU):Nat->List bU->Bool|_,[]=>true|i,x::r=>(decide (j<=i)||ft e pairs i j x y)&&MA e pairs j y (i+1) r
def SA(g:List (List Nat))(pairs:List (Nat×Nat))(e:List bU):Nat->List bU->Bool|_,[]=>true|j,y::r=>MA g pairs j y 0 e&&SA g pairs e (j+1) r
def SY:Nat->List Oper->Bool|_,[]=>true|j,o::r=>(o.after.all λe=> !Region.binds .any e||decide (e.on<j))&&SY (j+1) r
def ru(P:Program)(N:Nat)(draw:Bool)(pairs:List (Nat×Nat))(ins:List bU)(ops:Array Oper):Bool:=
 eM P N ops ins ops.toList&&(!draw||(SY 0 ops.toList&&SA (pv [] ops.toList) pairs ins 0 ins))
section
variable {P:Program} {F:Orc} {N:Nat} {E:Sn} {st st':St} {a:Act} {w:World} {ops:Array Oper} {Q:Exit->Act->World->Prop}
theorem v7: ∀{ins:List bU} {os:List Oper},eM P N ops ins os=true->ins.length=os.length/\ ∀(k:Nat) i,ins[k]?=some i-> ∃o,os[k]?=some o/\zY P N ops i o=true
 |[],[],_=>⟨rfl,by simp⟩
 |i::r,o::q,h=>by
  simp only[eM,aS]at h;obtain⟨h1,h2⟩:=v7 h.2;grind
 |[],_::_,h=>by grind [eM]
 |_::_,[],h=>by grind [eM]
theorem vf(q:jW P F): ∀{r:List bU} {k new:Nat} {st:St} {a:Act} {w:World},(∀(j:Nat) i,r[j]?=some i-> ∃o,ops[k+j]?=some o/\zY P N ops i o=true)->
  gL F r new st=some st'->Sim N E st a w->(∀n w',Sim N E st' n w'->Q .normal n w')->wpOps P ops Q (List.range' k r.length) a w
 |[],k,new,st,a,w,_,h,hs,next=>by simp only[gL]at h;cases h;exact next a w hs
 |i::r,k,new,st,a,w,hc,h,hs,next=>by
  simp only[gL]at h;split at h;rename_i e y;obtain⟨o,v,g⟩:=hc 0 i rfl;rw[mI,List.range'_succ,wpOps_cons];refine I7 q hs v g y λn w' hs'=>vf q (λj i x=>?_) h hs' next;obtain⟨o,v,g⟩:=hc (j+1) i (by simpa using x);grind;cases h
theorem I1: ∀{ins:List bU} {g:Nat} {st:St},gL F ins g st=some st'->
  ∃(new:Nat->Nat) (S:Nat->St) (eff:Nat->Eff),Run F ins new S eff/\S 0=st/\S ins.length=st'
 |[],g,st,h=>by
  simp only[gL]at h;injection h with h;subst h;exact⟨λ_=>0,λ_=>st,λ_=>⟨gY,[]⟩,⟨by simp⟩,rfl,rfl⟩
 |i::r,g,st,h=>by
  simp only[gL]at h;split at h;rename_i e q;obtain⟨new,S,eff,n,v,j⟩:=I1 h;refine⟨fun|0=>g|k+1=>new k,fun|0=>st|k+1=>S k,fun|0=>e|k+1=>eff k,⟨λk x o=>?_⟩,rfl,j⟩;cases k with
  |zero=>simp_all
  |succ k=>exact n.step k x (by simpa using o)
  cases h
theorem Ko: ∀{ins:List bU} {g:Nat} {st:St} {l j:Log},jV F ins g st l=some (st',j)->
  ∃(new:Nat->Nat) (S:Nat->St) (eff:Nat->Eff),Run F ins new S eff/\S 0=st/\S ins.length=st'/\
   (∀k,k<l.length->j[k]?=l[k]?)/\ ∀(k:Nat) i,ins[k]?=some i->j[l.length+k]?=some (jX ((bW F i (new k)).reads (S k)),(eff k).ws.map (·.1))
 |[],g,st,l,j,h=>by
  simp only[jV]at h;injection h with h;injection h with h1 h2;subst h1 h2;exact⟨λ_=>0,λ_=>st,λ_=>⟨gY,[]⟩,⟨by simp⟩,rfl,rfl,λ_ _=>rfl,by simp⟩
 |i::r,g,st,l,j,h=>by
  simp only[jV]at h;split at h
  ·rename_i e y;obtain⟨new,S,eff,q,v,o,w,z⟩:=Ko h;refine⟨fun|0=>g|k+1=>new k,fun|0=>st|k+1=>S k,fun|0=>e|k+1=>eff k,⟨λk x n=>?_⟩,rfl,o,λk hk=>?_,λk x n=>?_⟩
   cases k with
   |zero=>simp_all
   |succ k=>exact q.step k x (by simpa using n)
   all_goals grind
  cases h
theorem UI{b:Nat}: ∀{l:List Loc},Loc.blk b∈l->b∈jX l
 | .blk c::r,h=>by
  simp only[jX,cO]at*;rcases h with h|h;simp_all;exact .inr (UI h)
 | .slot n::r,h=>by simp only[jX];refine UI ?_;simpa using h
 |[],h=>by simp at h
theorem g7{a b:List Nat}(h:gU a b=true){x:Nat}(hx:x∈a):x∉b:=by
 grind [gU]
theorem xh{l:Log}: ∀{ps:List (Nat×Nat)} {i j:Nat},FR l ps=true->(i,j)∈ps->
  ∃x y,l[i]?=some x/\l[j]?=some y/\gU x.2 y.1=true/\gU x.2 y.2=true/\gU x.1 y.2=true
 |[],i,j,_,h=>by simp at h
 |(p,q)::r,i,j,h,hm=>by
  simp only[FR,aS]at h;obtain⟨h1,h2⟩:=h;rcases cO.1 hm with e|e;grind;exact xh h2 e
def f0(ops:Array Oper)(D:Nat->Bool)(k:Nat):Prop:= ∀o,ops[k]?=some o-> ∀e∈o.after,Region.binds .any e=true->D e.on=true
def Ir(ops:Array Oper)(D:Nat->Bool):Prop:= ∀k,D k=true->f0 ops D k
def nk(ops:Array Oper)(k i:Nat):Prop:= ∀D,Ir ops D->f0 ops D k->D i=true
theorem Kq: ∀{os:List Oper} {acc:List (List Nat)},(∀(j:Nat) o,os[j]?=some o->ops[acc.length+j]?=some o)->(∀(k:Nat) l i,acc[k]?=some l->i∈l->nk ops k i)->
  ∀(k:Nat) l i,(pv acc os)[k]?=some l->i∈l->nk ops k i
 |[],acc,_,h=>h
 |o::r,acc,w,h=>by
  refine Kq (os:=r) (acc:=acc++[Iw acc o]) (λj x z=>?_) λk l i hk hi=>?_;have:=w (j+1) x (by simpa using z);grind;rcases LI hk with hk|⟨A,hk⟩;simp_all;have n:k=acc.length:=(by grind);subst n;simp at hk;subst hk;intro D hD y;replace hi:=JJA hi;simp only[List.mem_flatMap,List.mem_filter]at hi;obtain⟨e,⟨v,q⟩,hi⟩:=hi;have g:=y o (by simpa using w 0 o rfl) e (by simpa using v) q;rcases cO.1 hi with rfl|hi;exact g;cases hac:acc[e.on]? with
  |none=>simp_all
  |some l=>rw[hac]at hi;exact h _ l i hac hi D hD (hD _ g)
theorem yf{g:List (List Nat)}{pairs:List (Nat×Nat)}{j:Nat}{y:bU}: ∀{r:List bU} {e:Nat},MA g pairs j y e r=true-> ∀(k:Nat) x,r[k]?=some x->e+k<j->ft g pairs (e+k) j x y=true
 |[],e,_,k,x,n,_=>by simp at n
 |z::r,e,h,k,x,n,o=>by
  simp only[MA,aS,DG,decide_eq_true_eq]at h;cases k with
  |zero=>grind
  |succ k=>
   have:=yf h.2 k x (by simpa using n) (by omega);grind
theorem xl{j:List (List Nat)}{pairs:List (Nat×Nat)}{g:List bU}: ∀{r:List bU} {e:Nat},SA j pairs g e r=true-> ∀(k:Nat) y,r[k]?=some y->MA j pairs (e+k) y 0 g=true
 |[],e,_,k,y,n=>by simp at n
 |z::r,e,h,k,y,n=>by
  simp only[SA,aS]at h;cases k with
  |zero=>simp_all
  |succ k=>
   have:=xl h.2 k y (by simpa using n);grind
theorem ye: ∀{r:List Oper} {g:Nat},SY g r=true-> ∀(k:Nat) o,r[k]?=some o-> ∀e∈o.after,Region.binds .any e=true->e.on<g+k
 |[],g,_,k,o,j=>by simp at j
 |z::r,g,h,k,o,j=>by
  simp only[SY,aS]at h;cases k with
  |zero=>
   grind [Array.all_eq_true_iff_forall_mem]
  |succ k=>intro e n hb;have:=ye h.2 k o (by simpa using j) e n hb;omega
theorem JKJ{x y:bU}(h:UP x y=true):(∀m,x.dst=some m->y.dst≠some m/\m∉xF y)/\(∀m,y.dst=some m->m∉xF x):=by
 grind [UP]
variable {ins:List bU} {new:Nat->Nat} {S:Nat->St} {eff:Nat->Eff}
theorem JLA(hr:Run F ins new S eff){i j:Nat}(hi:i<ins.length)(hj:j<ins.length)(h1:UP ins[i] ins[j]=true)
  (h2:TM ins[i] ins[j]=true\/(gU ((eff i).ws.map (·.1)) (jX ((bW F ins[j] (new j)).reads (S j)))=true/\
   gU ((eff i).ws.map (·.1)) ((eff j).ws.map (·.1))=true/\gU (jX ((bW F ins[i] (new i)).reads (S i))) ((eff j).ws.map (·.1))=true)):PZ F ins new S eff i j:=by
 obtain⟨s1,B⟩:=JKJ h1;have o:ins[i]?=some ins[i]:=aY hi;have n:ins[j]?=some ins[j]:=aY hj;obtain⟨w,_⟩:=hr.step i _ o;obtain⟨r,_⟩:=hr.step j _ n;refine⟨λx y m g e q=>?_,λx y m g e q k=>?_,λy b e hb=>?_,λx b g hb k=>?_⟩;rw[o]at g;cases g;rw[n]at e;cases e;exact⟨(s1 m q).1,λk=>(s1 m q).2 (Ml F _ _ _ _ k)⟩;rw[o]at g;cases g;rw[n]at e;cases e;exact B m q (Ml F _ _ _ _ k);rw[n]at e;cases e;rcases h2 with h2|⟨v,z,A⟩;simp only[TM,aS,DG,oD]at h2;rcases h2.1 with h|h;rw[fm F _ _ h _ _ w]at hb;simp at hb;refine⟨?_,Nt F _ _ h _ _ r b⟩;rw[fm F _ _ (Io h) _ _ r];simp;exact⟨g7 z hb,λk=>g7 v hb (UI k)⟩;rw[o]at g;cases g;rcases h2 with h2|⟨v,z,A⟩;simp only[TM,aS,DG,oD]at h2;rcases h2.2 with h|h;rw[fm F _ _ h _ _ r]at hb;simp at hb;exact Nt F _ _ h _ _ w b k;grind [g7,UI]
def Dl(e:Array Bool):Nat->Bool:=λj=>e.getD j false
theorem Ks{e:Array Bool}{i:Nat}(hi:i<e.size):Dl (e.setIfInBounds i true)=λj=>if j=i then true else Dl e j:=by
 funext j
 unfold Dl;by_cases h:j=i
 all_goals simp_all [Ne.symm]
theorem xa{l:Array Bool}{i:Nat}(hi:i<l.size)(h:l.getD i false=false):(l.setIfInBounds i true).count false+1=l.count false:=by
 have e:l[i]=false:=by simp_all
 grind [Array.getElem_mem]
theorem xf{l:Array Bool}(h:l.count false=0){i:Nat}(hi:i<l.size):l.getD i false=true:=by
 grind [xa]
theorem H0{l:Array Bool}: ∀m,m<=l.size->(∀j,j<m->Dl l j=true)\/ ∃k,k<m/\Dl l k=false/\ ∀j,j<k->Dl l j=true
 |0,_=>.inl λj e=>by omega
 |m+1,h=>by
  rcases H0 (l:=l) m (by omega)with h1|⟨k,a,b,c⟩
  all_goals grind
theorem JIQ{l:Array Bool}{j:Nat}(hj:j<l.size):l.getD j true=l.getD j false:=by simp[hj]
theorem JQy(Y:jW P F)(hr:Run F ins new S eff)(hlen:ins.length=ops.size)(hc: ∀(k:Nat) i,ins[k]?=some i-> ∃o,ops[k]?=some o/\zY P N ops i o=true)
  (D: ∀(k:Nat) o,ops[k]?=some o-> ∀e∈o.after,Region.binds .any e=true->e.on<k)
  (I: ∀i j,i<j->j<ins.length->nk ops j i\/PZ F ins new S eff i j)
  (next: ∀G w',Sim N E (S ins.length) G w'->Q .normal G w'):
  ∀(n:Nat) (g:Array Bool) (st:St) (a:Act) (w:World),g.size=ops.size->Agree ins eff (S 0) (Dl g) st->Sim N E st a w->Ir ops (Dl g)->g.count false=n->
   wpAny P .any ops Q n g a w:=by
 intro n
 induction n with
 |zero=>
  intro g st a w J B hs r A;refine⟨?_,?_⟩;cases hre:Region.ready .any ops g with
  |nil=>rfl
  |cons j l=>
   exfalso;have h:j∈Region.ready .any ops g:=by rw[hre];simp
   grind [mem_ready,xf]
  ·obtain⟨e1,e2⟩:=JId hr B λj x=>xf A (by omega);exact next a w (hs.congr (λm=>(e1 m).symm) e2.symm)
 |succ n ih=>
  intro g st a w J B hs r A;refine⟨λZ=>?_,λk hk=>?_⟩;exfalso;rcases H0 (l:=g) ops.size (by omega)with z|⟨k,hk,C,K⟩;have:g.count false=0:=(by rw[Array.count_eq_zero];intro h;obtain⟨i,hi,y⟩:=Array.getElem_of_mem h;have:=z i (by omega);unfold Dl at this;simp[hi,y]at this);omega;have h:k∈Region.ready .any ops g:=(by rw[mem_ready];refine⟨by rw[JIQ (by omega)];exact C,ops[k],by simp[hk],λe y hb=>?_⟩;exact K _ (D k ops[k] (by simp[hk]) e y hb));simp_all;obtain⟨h1,o,U,z⟩:=mem_ready.1 hk;have W:k<ops.size:=(Array.getElem?_eq_some_iff.1 U).1;have C:Dl g k=false:=by grind [Dl]
  have M:ins[k]?=some (ins[k]'(by omega)):=aY _;obtain⟨o',T,O⟩:=hc k _ M;have q:f0 ops (Dl g) k:=by intro L v e y hb;rw[U]at v;cases v;exact z e y hb
  obtain⟨V,r2⟩:=JL7 hr B M C (λj x hDj=>by
   rcases I j k x (by omega)with h|h;have:=h _ r q;simp_all;exact h) (λj x R hDj=>by
   rcases I k j x R with h|h;have:=h _ r (r j hDj);simp_all;exact h)
  refine I7 Y hs T O V λG w' hs'=>ih _ _ G w' (by simp[J]) ?_ hs' ?_ ?_;grind [Ks];rw[Ks (by omega)];intro j x L v e y hb;dsimp only at x⊢;have h:Dl g e.on=true->(if e.on=k then true else Dl g e.on)=true:=by simp_all
  by_cases H:j=k;subst H;exact h (q L v e y hb);rw[if_neg H]at x;exact h (r j x L v e y hb);grind [xa]
theorem JOU(Z:jW P F)(H:P.follows .mixedOrders=true){id:Nat}{draw:Bool}{pairs:List (Nat×Nat)}{ins:List bU}(h:region F pairs ins st=some st')
  (hc:ru P N draw pairs ins ops=true) (hs:Sim N E st a w) (next: ∀U w',Sim N E st' U w'->Q .normal U w'):(Code.region id ops draw).wp P Q a w:=by
 simp only[ru,aS,DG,oD]at hc;obtain⟨K,B⟩:=hc;obtain⟨hlen,G⟩:=v7 K;have hlen:ins.length=ops.size:=by simp_all
 have G: ∀(k:Nat) i,ins[k]?=some i-> ∃o,ops[k]?=some o/\zY P N ops i o=true:=λk i hi=>by simp_all
 have T:=hs.room (news ins);have J: ∃(new:Nat->Nat) (S:Nat->St) (eff:Nat->Eff),Run F ins new S eff/\S 0=⟨st.env,room (news ins) st.sto⟩/\S ins.length=st'/\
   ∀i j,(i,j)∈pairs-> ∃x y,ins[i]?=some x/\ins[j]?=some y/\gU ((eff i).ws.map (·.1)) (jX ((bW F y (new j)).reads (S j)))=true/\
   gU ((eff i).ws.map (·.1)) ((eff j).ws.map (·.1))=true/\gU (jX ((bW F x (new i)).reads (S i))) ((eff j).ws.map (·.1))=true:=by
  unfold region at h;split at h;grind [I1];split at h;rename_i s' l n;split at h;rename_i M;cases h;obtain⟨new,S,eff,D,C,O,_,q⟩:=Ko n;refine⟨new,S,eff,D,C,O,λi j hm=>?_⟩;obtain⟨x,y,Y,W,d1,d2,d3⟩:=xh M hm;have R: ∀(k:Nat) z,l[k]?=some z->k<ins.length:=by
   intro k z hk;have:=Jz hk;have a5:l.length=ins.length:=by
    clear q D C O M Y W;have: ∀{r:List bU} {e:Nat} {s0:St} {A v:Log} {s1:St},jV F r e s0 A=some (s1,v)->v.length=A.length+r.length:=by
     intro r
     induction r with
     |nil=>simp[jV]
     |cons i r ih=>
      grind [jV]
    grind
   omega
  have hi:=R i x Y;have g:=R j y W;have L:ins[i]?=some ins[i]:=aY hi;have I:ins[j]?=some ins[j]:=aY g;have qi:=q i _ L;have qj:=q j _ I;simp only[List.length_nil,pM]at qi qj;grind;cases h;cases h
 obtain⟨new,S,eff,D,C,O,M⟩:=J;cases draw with
 |false=>
  refine wp_region ?_;rw[List.range_eq_range',<-hlen];have a6: ∃e,gL F ins e ⟨st.env,room (news ins) st.sto⟩=some st':=by
   unfold region at h;split at h;grind;split at h;rename_i s' l n;split at h;cases h;have: ∀{r:List bU} {e:Nat} {s0:St} {A v:Log} {s1:St},jV F r e s0 A=some (s1,v)->gL F r e s0=some s1:=by
    intro r
    induction r with
    |nil=>intro e s0 A v s1 h;simp only[jV]at h;injection h with h;injection h with h1 h2;subst h1;rfl
    |cons i r ih=>
     grind [jV,gL]
   grind;cases h;cases h
  grind [vf]
 |true=>
  obtain⟨he,hd⟩:=B.resolve_left (by simp);refine wp_region_any H ?_;have V:Sim N E (S 0) a {w with drawn:=w.drawn+1}:=by rw[C];exact T.heap rfl rfl rfl
  refine JQy Z D hlen G (λk o ho=>?_) (λi j hij g=>?_) (by simp_all) ops.size _ (S 0) a _ (by simp) ?_ V ?_ ?_;have:=ye he k o (by simpa using ho);simp_all;have L:ins[i]?=some (ins[i]'(by omega)):=aY _;have I:ins[j]?=some ins[j]:=aY g;have h1:=xl hd j _ I;rw[pM]at h1;have h2:=yf h1 i _ L (by omega);rw[pM]at h2;simp only[ft,DG,aS]at h2;rcases h2 with h2|⟨h2,h3⟩;grind [Kq];grind [JLA];have:Dl (Array.replicate ops.size false)=λ_=>false:=by
   funext j;unfold Dl;simp[Array.getElem?_replicate];split<;>rfl
  rw[this];exact JDs;intro j g;unfold Dl at g;simp[Array.getElem?_replicate]at g;grind;simp
end
def dE(P:Program)(N:Nat):bX->Code->Bool
 | .bad,_=>true
 | .skip,c=>match c with| .skip=>true| .label _=>true|_=>false
 | .reg draw pairs ins,c=>match c with| .region _ ops d=>draw==d&&ru P N draw pairs ins ops|_=>false
 | .seq a b,c=>match c with| .seq x y=>dE P N a x&&dE P N b y|_=>false
 | .cond o a b,c=>match c with| .cond p x y=>bL o p&&dE P N a x&&dE P N b y|_=>false
 | .block id a,c=>match c with| .block e x=>id==e&&dE P N a x|_=>false
 | .loop _ a,c=>match c with| .loop x=>dE P N a x|_=>false
 | .lp _ _ _,_=>false
 | .scope a,c=>match c with| .scope x=>dE P N a x|_=>false
 | .exit id,c=>match c with| .exit e=>id==e|_=>false
 | .ret,c=>match c with| .ret=>true|_=>false
 | .keep _ a,c=>dE P N a c
 | .tidy _ a,c=>dE P N a c
 | .br _ pre o a b rest,c=>match c with| .seq (.seq p (.cond q x y)) z=>dE P N pre p&&bL o q&&dE P N a x&&dE P N b y&&dE P N rest z|_=>false
def rW:AX->Exit| .normal=>.normal| .exit id=>.exit id| .ret=>.ret
def LM(P:Program)(c:bX)(st:St)(r:Out):Prop:=
 match c with
 | .lp n _ b=> ∃k,∀(N:Nat) (e:Code) (E:Sn) (a:Act) (w:World) (Q:Exit->Act->World->Prop),dE P N b e=true->E.σ.length<=n->n<=st.sto.length->Sim N E st a w->
   (∀g w',Sim N E r.2 g w'->Q (rW r.1) g w')->Code.rounds P e Q k a w
 |c=> ∀(N:Nat) (e:Code) (E:Sn) (a:Act) (w:World) (Q:Exit->Act->World->Prop),dE P N c e=true->Sim N E st a w->
  (∀g w',Sim N E r.2 g w'->Q (rW r.1) g w')->e.wp P Q a w
theorem LM.get{P:Program}{c:bX}{st:St}{r:Out}(h:LM P c st r){N:Nat}{e:Code}{E:Sn}{a:Act}{w:World}{Q:Exit->Act->World->Prop}(hc:dE P N c e=true)(hs:Sim N E st a w)
  (next: ∀g w',Sim N E r.2 g w'->Q (rW r.1) g w'):e.wp P Q a w:=by
 cases c<;>first|exact h N e E a w Q hc hs next|grind [dE]
theorem TH{env:List (Nat×AV)}{n:Nat}{x:AV}: ∀{live:List Nat},lk n (restr live env)=some x->lk n env=some x
 |[],h=>by grind [restr,lk]
 |k::r,h=>by
  simp only[restr]at h;split at h;rename_i v e;simp only[lk]at h;split at h;simp_all;exact TH h;exact TH h
theorem Lm{m:Nat}{sto:List Blk}{n:Nat}{y:AV}: ∀{env g:List (Nat×AV)},vK m sto env=some g->lk n g=some y-> ∃x,lk n env=some x/\fin m [] sto x=some y
 |[],g,h,hy=>by grind [vK,lk]
 |(k,x)::r,g,h,hy=>by
  simp only[vK]at h;split at h;rename_i z l q j;injection h with h;subst h;simp only[lk]at hy⊢;split at hy;simp_all;rename_i e;obtain⟨o,h1,h2⟩:=Lm j hy;simp_all;cases h
section
variable {P:Program} {N:Nat} {E:Sn} {st st':St} {a:Act} {w:World}
theorem Sim.restr(h:Sim N E st a w)(live:List Nat):Sim N E ⟨restr live st.env,st.sto⟩ a w:=by obtain⟨h1,h2,g,hi,e,ht⟩:=h;exact⟨h1,h2,g,hi,λn x j=>e n x (TH j),ht⟩
theorem TF{n:Nat}{live:List Nat}(h:Sim N E st a w)(hc:clean n live st=some st')(q:E.σ.length<=n)(hn:n<=st.sto.length):Sim N E st' a w/\st'.sto.length=n:=by
 unfold clean at hc;split at hc;rename_i e;injection hc with hc;subst hc;exact⟨h.restr live,e⟩;split at hc;rename_i ev l o r;injection hc with hc;subst hc;obtain⟨h1,h2,g,hi,A,ht⟩:=h;obtain⟨D,F⟩:=UF r;have hlen:l.length=n:=by simp_all
 have j:pz ⟨st.sto,g,w⟩ n [] l:=(by refine⟨hi,hn,List.nodup_nil,λb hb=>by simp at hb,by simp[hlen],λk x hk=>?_⟩;grind [uF]);refine⟨⟨h1,h2,(kO ⟨st.sto,g,w⟩ n [] l).g,Mx j,λk y z=>?_,wi j ht q⟩,hlen⟩;obtain⟨x,B,hf⟩:=Lm o z;obtain⟨v,C,hrel⟩:=A k x (TH B);exact⟨v,C,fk j hrel hf⟩;cases hc
def oP(P:Program):List vM->List ResultVar->Bool|[],[]=>true| .tmp t::r,.tmp t'::q=>t==t'&&oP P r q| .cell t agg size::r,.cell t' ty::q=>t==t'&&agT P ty==some agg&&szT P ty==some size&&oP P r q|_,_=>false
def YC(tmps:Array Value):ResultVar->Sem Value| .tmp t=>pure (tmps.getD t undef)| .cell a t=>do loadVar t (<-asAddr (tmps.getD a undef))
theorem fu{s:Sn}{env:List (Nat×AV)}{tmps:Array Value}(hi:Inv s)(he:bN s tmps env): ∀{A:List vM} {B:List ResultVar} {vs:List AV},oP P A B=true->(oA A).run ⟨env,s.σ⟩=some vs->
  ∃g:List Value,(B.mapM (YC tmps)).run P s.w=.ok g s.w/\vs.length=g.length/\ ∀(i:Nat) x v,vs[i]?=some x->g[i]?=some v->JG s x v
 |[],[],vs,_,h=>by simp_all [oA,RM.run]
 | .tmp t::r,.tmp t'::q,vs,hc,h=>by
  simp only[oP,aS,beq_iff_eq]at hc;obtain⟨rfl,hc⟩:=hc;simp only[oA]at h;obtain⟨x,h1,h⟩:=bind_some h;obtain⟨l,h2,h⟩:=bind_some h;simp only[RM.run]at h;injection h with h;subst h;simp only[RM.run]at h1;split at h1;rename_i y n;injection h1 with h1;subst h1;obtain⟨v,L,D⟩:=he _ _ n;obtain⟨g,E,k,F⟩:=fu hi he hc h2;refine⟨v::g,?_,by simp[k],λi x u K I=>?_⟩;simp_all [YC];grind;cases h1
 | .cell t agg size::r,.cell t' ty::q,vs,hc,h=>by
  simp only[oP,aS,beq_iff_eq]at hc;obtain⟨⟨⟨rfl,M⟩,C⟩,hc⟩:=hc;simp only[oA]at h;obtain⟨x,h1,h⟩:=bind_some h;obtain⟨e,J,h⟩:=bind_some h;obtain⟨l,h2,h⟩:=bind_some h;simp only[RM.run]at h;injection h with h;subst h;simp only[RM.run]at h1;split at h1;rename_i y n;injection h1 with h1;subst h1;obtain⟨v,L,D⟩:=he _ _ n;obtain⟨g,E,k,F⟩:=fu hi he hc h2;obtain⟨G,o,ws,S,N,H,_,O⟩:=wj hi J D;obtain⟨Q,R⟩:=yc (P:=P) M C N H;have j: ∃u,(loadVar ty ⟨G,o,none⟩).run P s.w=.ok u s.w/\JG s e.val u:=(by grind);obtain⟨u,I,hrel⟩:=j;refine⟨u::g,?_,by simp[k],λi x z K C=>?_⟩;simp_all [YC,asAddr];grind;cases h1
 |[],_::_,_,hc,_=>by grind [oP]
 | .tmp _::_,[],_,hc,_=>by grind [oP]
 | .cell _ _ _::_,[],_,hc,_=>by grind [oP]
 | .tmp _::_,.cell _ _::_,_,hc,_=>by grind [oP]
 | .cell _ _ _::_,.tmp _::_,_,hc,_=>by grind [oP]
theorem TS{m:Nat}{fresh:Bool}{sto:List Blk}: ∀{es:List Ent},∀b∈jY m fresh sto es,m<=b
 |[],b,h=>by grind [jY]
 | .elem _ _ _::r,b,h=>TS (es:=r) b (by simpa[jY]using h)
 | .whole c::r,b,h=>by
  simp only[jY]at h;split at h;exact TS (es:=r) b h;rename_i hc;have e:b∈c::jY m fresh sto r->m<=b:=(by intro h;rcases cO.1 h with rfl|h;omega;exact TS (es:=r) b h);grind
theorem Mu{s:Sn}{vs:List AV}{e:List Value}(hl:vs.length=e.length)(hr: ∀(i:Nat) x v,vs[i]?=some x->e[i]?=some v->JG s x v):
  JG s (one vs) (if h:e.toArray.size=1 then e.toArray[0]else .tuple e.toArray):=by
 by_cases h:e.toArray.size=1;rw[dif_pos h];cases e with
 |nil=>simp at h
 |cons u q=>
  cases vs with
  |nil=>simp at hl
  |cons x p=>
   have j:q=[]:=by simpa using h
   subst j;have g:p=[]:=by simpa using hl
   subst g;exact hr 0 x u rfl rfl
 rw[dif_neg h];have:one vs=.tup vs:=by
  match vs,hl with
  |[],_=>rfl
  |[x],hl=>simp_all
  |_::_::_,_=>rfl
 rw[this];exact .tup _ _ (by simpa using hl) λi x v n k=>hr i x v n (by simpa using k)
theorem wt{e:AFn}{fn:Func}{m:Nat}{r:Res}(hs:Sim N E st a w)(hm:E.σ.length=m)(h:iA e m st=some r)(hc:oP P e.res fn.results.toList=true):
  a.defers=[]/\ ∃v,(results fn a.tmps).run P w=.ok v w/\ ∃g',Inv ⟨r.2,g',w⟩/\bC E ⟨r.2,g',w⟩/\JG ⟨r.2,g',w⟩ r.1 v:=by
 obtain⟨h1,h2,g,hi,J,ht⟩:=hs;refine⟨h2,?_⟩;unfold iA at h;cases hvs:(oA e.res).run st with
 |none=>simp_all
 |some vs=>
  rw[hvs]at h;dsimp only at h;obtain⟨y,Q,V,G⟩:=fu (P:=P) (s:=⟨st.sto,g,w⟩) (env:=st.env) hi J hc hvs;have n:(results fn a.tmps).run P w=.ok (if h:y.toArray.size=1 then y.toArray[0]else .tuple y.toArray) w:=by
   have:results fn a.tmps=(do
    let vs<-fn.results.mapM (YC a.tmps)
    pure (if h:vs.size=1 then vs[0]else .tuple vs)):=rfl
   simp_all [Array.mapM_eq_mapM_toList]
  refine⟨_,n,?_⟩;split at h;grind [Mu];split at h;rename_i B;have z:=TS (m:=m) (fresh:=e.fresh) (sto:=st.sto) (es:=rP st.sto (cP.entsOfL vs []) (cP.entsOfL vs []));generalize jY m e.fresh st.sto (rP st.sto (cP.entsOfL vs []) (cP.entsOfL vs []))=ids at*;split at h;rename_i ws l q A I H;split at h;rename_i q' C;injection h with h;subst h;obtain⟨W,L⟩:=uL A;obtain⟨b1,b2⟩:=UF I;obtain⟨T,U⟩:=xi H;obtain⟨S,R⟩:=UF C;have D:m<=st.sto.length:=by rw[<-hm];exact ht.len
  have hlen:l.length=m:=by simp_all
  have o:pz ⟨st.sto,g,w⟩ m ids (l++q'):=(by refine⟨hi,D,UL B,z,by simp;omega,λk x hk=>?_⟩;rcases LI hk with hk|⟨M,hk⟩;grind [uF];grind [fV]);refine⟨_,Mx o,wi o ht (by omega),Mu (by omega) λi x v F K=>?_⟩;have O:=Jz F;have j:vs[i]?=some (vs[i]'(by omega)):=aY _;exact fk o (G i _ v j K) (L i _ x j F);cases h;cases h;cases h
def lR(P:Program)(f:FuncId)(e:AFn):Bool:=
 match P.funcs[f]? with
 |none=>false
 |some fn=>match fn.body with
  |none=>false
  |some g=>fn.name != "runtime.NumGoroutine" &&e.nt==e.np+(fn.ntmps-e.np)&&oP P e.res fn.results.toList&&dE P e.nt e.body g
theorem fp: ∀{args:List AV} {k n:Nat} {x:AV},lk n (jN k args)=some x->k<=n/\args[n-k]?=some x
 |[],k,n,x,h=>by grind [jN,lk]
 |y::r,k,n,x,h=>by
  simp only[jN,lk]at h;split at h;simp_all;rename_i e;obtain⟨h1,h2⟩:=fp h;grind
end
section
variable {P:Program} {T:dZ}
theorem JKp{f:FuncId}{j:AFn}{args:List AV}{blks:List Blk}{r:Res}(hc:lR P f j=true)(I:args.length=j.np)
  (h: ∀(k:Code) (g:Gh) (w:World) (a:Act) (Q:Exit->Act->World->Prop),dE P j.nt j.body k=true->Sim j.nt ⟨blks,g,w⟩ ⟨jN 0 args,blks⟩ a w->
   (∀e s o w',(e=.normal\/e=.ret)->iA j blks.length s=some r->Sim j.nt ⟨blks,g,w⟩ s o w'->Q (rW e) o w')->k.wp P Q a w):J7b P f args blks r:=by
 unfold lR at hc;split at hc;cases hc;rename_i fn A;split at hc;cases hc;rename_i k hb;simp only[aS,beq_iff_eq,bne_iff_ne,ne_eq]at hc;obtain⟨⟨⟨D,H⟩,E⟩,z⟩:=hc;refine⟨⟨fn,A,by simp[hb],by simp_all⟩,λg w vals hinv hlen hrel=>?_⟩;refine calls_of_wp A hb ?_;have C:Sim j.nt ⟨blks,g,w⟩ ⟨jN 0 args,blks⟩ {tmps:=vals++Array.replicate (fn.ntmps-vals.size) undef,defers:=[]} w:=(by refine⟨by simp;omega,rfl,g,hinv,λn x y=>?_,.refl _⟩;obtain⟨_,y⟩:=fp y;rw[vT]at y;have G:=Jz y;refine⟨vals[n]'(by omega),?_,hrel n x _ y (zA _)⟩;grind);have fin: ∀{s},iA j blks.length s=some r-> ∀o w',Sim j.nt ⟨blks,g,w⟩ s o w'->o.defers=[]/\ ∃v,(results fn o.tmps).run P w'=.ok v w'/\ ∃B g',Ending.returned v=.returned B/\
   Inv ⟨r.2,g',w'⟩/\bC ⟨blks,g,w⟩ ⟨r.2,g',w'⟩/\JG ⟨r.2,g',w'⟩ r.1 B:=by
  grind [wt]
 refine h k g w _ _ z C λe s o w' F q hs=>?_;rcases F with rfl|rfl;exact fin q o w' hs;exact fin q o w' hs
theorem JLt{R:bX->St->Option Out}(ih: ∀c s r,R c s=some r->LM P c s r){f:FuncId}{k:kF}{args:List AV}{blks:List Blk}{r:Res}(hc:lR P f k.af=true)(J:args.length=k.np)
  (h:tT R k args blks=some r):J7b P f args blks r:=by
 refine JKp hc J λn g w a Q j z fin=>?_;simp only[kF.af]at j fin z;cases n<;>simp only[dE,eQ]at j;rename_i O N;simp only[aS]at j;obtain⟨E,q⟩:=j;unfold tT at h;split at h
 rename_i s0 H;split at h;rename_i s1 B;refine wp_seq ((ih _ _ _ H).get E z λa0 w0 x=>?_);split at q;rename_i cp G cx Z S;simp only[aS]at q;obtain⟨⟨⟨⟨W,K⟩,hx⟩,hy⟩,V⟩:=q;simp only[rW,Exit.then];refine wp_seq (wp_seq ((ih _ _ _ B).get W x λD C x=>?_));have Y: ∀{c:bX} {n:Code},dE P k.nt c n=true->tJ k.af blks.length (thn (R c s1) λs=>R k.rest s)=some r->
   n.wp P (Exit.then (S.wp P Q) Q) D C:=by
  intro c n hc ht;cases hR:R c s1 with
  |none=>rw[hR]at ht;cases ht
  |some o=>
   obtain⟨e,F⟩:=o;rw[hR]at ht;refine(ih _ _ _ hR).get hc x λy w' hs'=>?_;cases e with
   |normal=>
    simp only[thn]at ht;cases hR2:R k.rest F with
    |none=>rw[hR2]at ht;cases ht
    |some T=>
     obtain⟨U,I⟩:=T;rw[hR2]at ht;simp only[rW,Exit.then];refine(ih _ _ _ hR2).get V hs' λy w' hs'=>?_;cases U with
     |normal=>exact fin .normal I y w' (.inl rfl) ht hs'
     |ret=>exact fin .ret I y w' (.inr rfl) ht hs'
     |exit id=>cases ht
   |exit id=>cases ht
   |ret=>exact fin .ret F y w' (.inr rfl) ht hs'
 have A:=x;obtain⟨_,_,g,hi,L,_⟩:=A;simp only[rW,Exit.then];split at h;rename_i b hb;have hrel:=bJ (s:=⟨s1.sto,g,C⟩) (env:=s1.env) L hb K;generalize M:D.eval G=v at hrel;cases hrel with
 |p _ _ hrel=>cases hrel<;>grind [wp_cond]
 rename_i hb;have hrel:=bJ (s:=⟨s1.sto,g,C⟩) (env:=s1.env) L hb K;generalize M:D.eval G=v at hrel;cases hrel with
 |unk t=>
  refine wp_cond M ?_;unfold KM at h;grind
 cases h;cases q;cases h;cases h
theorem uu{R:bX->St->Option Out}(ih: ∀c s r,R c s=some r->LM P c s r)(D: ∀f j,T f=some (.fn j)->lR P f j=true)
  (J: ∀f g,T f=some (.prim g)-> ∀args blks r,g args blks=some r->J7b P f args blks r) (I: ∀f k,T f=some (.fork k)->lR P f k.af=true):jW P (qD T R):=by
 intro f args blks r h;unfold qD at h;cases hTf:T f with
 |none=>simp_all
 |some en=>
  rw[hTf]at h;cases en with
  |prim g=>simp_all
  |fork k=>
   grind [JLt]
  |fn j=>
   dsimp only at h;split at h;rename_i G;have hc:=D f j hTf;unfold lR at hc;split at hc;cases hc;rename_i fn z;split at hc;cases hc;rename_i C hb;simp only[aS,beq_iff_eq,bne_iff_ne,ne_eq]at hc;obtain⟨⟨⟨B,H⟩,E⟩,o⟩:=hc;refine⟨⟨fn,z,by simp[hb],by simp_all⟩,λg w vals hinv hlen hrel=>?_⟩;refine calls_of_wp z hb ?_;have y:Sim j.nt ⟨blks,g,w⟩ ⟨jN 0 args,blks⟩ {tmps:=vals++Array.replicate (fn.ntmps-vals.size) undef,defers:=[]} w:=(by refine⟨by simp;omega,rfl,g,hinv,λn x q=>?_,.refl _⟩;obtain⟨_,q⟩:=fp q;rw[vT]at q;have F:=Jz q;refine⟨vals[n]'(by omega),?_,hrel n x _ q (zA _)⟩;grind);have fin: ∀{s},iA j blks.length s=some r-> ∀e w',Sim j.nt ⟨blks,g,w⟩ s e w'->e.defers=[]/\ ∃v,(results fn e.tmps).run P w'=.ok v w'/\ ∃A g',Ending.returned v=.returned A/\
     Inv ⟨r.2,g',w'⟩/\bC ⟨blks,g,w⟩ ⟨r.2,g',w'⟩/\JG ⟨r.2,g',w'⟩ r.1 A:=by
    grind [wt]
   split at h;rename_i s hR;exact(ih _ _ _ hR).get o y λe w' hs=>fin h e w' hs;rename_i s hR;exact(ih _ _ _ hR).get o y λe w' hs=>fin h e w' hs;cases h;cases h
theorem JML(a0:P.follows .mixedOrders=true)(hT: ∀f af,T f=some (.fn af)->lR P f af=true)
  (hP: ∀f g,T f=some (.prim g)-> ∀args blks r,g args blks=some r->J7b P f args blks r) (hK: ∀f k,T f=some (.fork k)->lR P f k.af=true): ∀c s r,X T c s=some r->LM P c s r:=by
 refine JRB T _ ?_;intro R ih c s r h;have hF:jW P (qD T R):=uu ih hT hP hK;cases c with
 |skip=>
  simp only[step]at h;injection h with h;subst h;intro N j E a w Q hc hs next;cases j<;>first
   |exact wp_skip (next a w hs)
   |exact wp_label (next a w hs)
   |grind [dE]
 |bad=>grind [step]
 |reg d pairs ins=>
  simp only[step]at h;split at h;rename_i s' Y;injection h with h;subst h;intro N j E a w Q hc hs next;cases j<;>simp only[dE,eQ]at hc;simp only[aS,beq_iff_eq]at hc;obtain⟨rfl,hc⟩:=hc;exact JOU hF a0 Y hc hs next
  cases h
 |seq x y=>
  simp only[step]at h;intro N j E a w Q hc hs next;cases j<;>simp only[dE,eQ]at hc;simp only[aS]at hc;refine wp_seq ?_;split at h
  rename_i s' B;refine(ih _ _ _ B).get hc.1 hs λq w' hs'=>?_;exact(ih _ _ _ h).get hc.2 hs' next;rename_i U;refine(ih _ _ _ h).get hc.1 hs λq w' hs'=>?_;obtain⟨e,s'⟩:=r;cases e with
  |normal=>simp_all
  |exit id=>exact next q w' hs'
  |ret=>exact next q w' hs'
 |cond c x y=>
  simp only[step]at h;intro N j E a w Q hc hs next;cases j<;>simp only[dE,eQ]at hc;simp only[aS]at hc;obtain⟨⟨V,B⟩,hy⟩:=hc;have hs':=hs;obtain⟨_,_,g,hi,A,_⟩:=hs';split at h
  rename_i b hb;have hrel:=bJ (s:=⟨s.sto,g,w⟩) (env:=s.env) A hb V;generalize G:a.eval _=v at hrel;cases hrel with
  |p _ _ hrel=>
   cases hrel with
   |b=>
    refine wp_cond G ?_;cases b with
    |true=>exact(ih _ _ _ (by simpa using h)).get B hs next
    |false=>exact(ih _ _ _ (by simpa using h)).get hy hs next
  rename_i hb;have hrel:=bJ (s:=⟨s.sto,g,w⟩) (env:=s.env) A hb V;generalize G:a.eval _=v at hrel;cases hrel with
  |unk t=>
   refine wp_cond G ?_;unfold same at h;split at h;rename_i r1 r2 e1 e2;split at h;rename_i J;injection h with h;subst h;cases t with
   |true=>exact(ih _ _ _ e1).get B hs next
   |false=>rw[J]at next;exact(ih _ _ _ e2).get hy hs next
   cases h;cases h
  cases h
 |block id x=>
  simp only[step]at h;intro N j E a w Q hc hs next;cases j<;>simp only[dE,eQ]at hc;simp only[aS,beq_iff_eq]at hc;obtain⟨rfl,hc⟩:=hc;refine wp_block ?_;split at h
  rename_i k s' B;refine(ih _ _ _ B).get hc hs λq w' hs'=>?_;grind [rW,Exit.inBlock];rename_i U;refine(ih _ _ _ h).get hc hs λq w' hs'=>?_;obtain⟨e,s'⟩:=r;cases e with
  |normal=>exact next q w' hs'
  |exit id=>simp_all
  |ret=>exact next q w' hs'
 |loop live x=>
  simp only[step]at h;intro N j E a w Q hc hs next;cases j<;>simp only[dE,eQ]at hc;split at h
  rename_i s' z;obtain⟨k,hk⟩:=ih _ _ _ h;have F:E.σ.length<=s.sto.length:=by obtain⟨_,_,g,_,_,ht⟩:=hs;exact ht.len
  obtain⟨hs',hl⟩:=TF hs z F (zQ0 _);exact wp_loop_rounds k (hk N _ E a w Q hc F (by omega) hs' next);cases h
 |lp n live x=>
  simp only[step]at h;split at h
  ·rename_i s' B;split at h
   ·rename_i ao z;obtain⟨k,hk⟩:=ih _ _ _ h;refine⟨k+1,λN j E a w Q hc F hn hs next=>?_⟩;rw[rounds_succ];obtain⟨h1,h2,g,hi,A,ht⟩:=hs;have C:Sim N ⟨s.sto,g,w⟩ s a w:=⟨h1,h2,g,hi,A,.refl _⟩;refine(ih _ _ _ B).get hc C λq w' hs'=>?_;obtain⟨M,K,g',H,I,D⟩:=hs';have hlen:s.sto.length<=s'.sto.length:=D.len;have a5:Sim N E s' q w':=⟨M,K,g',H,I,ht.trans D⟩;obtain⟨a6,hl⟩:=TF a5 z F (by omega);exact hk N j E q w' Q hc F (by omega) a6 next
   cases h
  ·rename_i U;refine⟨1,λN j E a w Q hc F hn hs next=>?_⟩;rw[rounds_succ];refine(ih _ _ _ h).get hc hs λq w' hs'=>?_;obtain⟨e,s'⟩:=r;cases e with|normal=>simp_all|exit id=>exact next q w' hs'|ret=>exact next q w' hs'
 |scope x=>simp only[step]at h;intro N j E a w Q hc hs next;cases j<;>simp only[dE,eQ]at hc;refine wp_scope_straight ((ih _ _ _ h).get hc hs λq w' hs'=>?_);have:=next q w' hs';obtain⟨e,s'⟩:=r;cases e<;>exact this
 |exit id=>
  simp only[step]at h;injection h with h;subst h;intro N j E a w Q hc hs next;cases j<;>simp only[dE,eQ]at hc;simp only[beq_iff_eq]at hc;subst hc;exact wp_exit (next a w hs)
 |ret=>
  simp only[step]at h;injection h with h;subst h;intro N j E a w Q hc hs next;cases j<;>simp only[dE,eQ]at hc;exact wp_ret (next a w hs)
 |keep live x=>simp only[step]at h;intro N j E a w Q hc hs next;exact(ih _ _ _ h).get (by grind [dE]) (hs.restr live) next
 |tidy live x=>
  simp only[step,mX]at h;intro N j E a w Q hc hs next;split at h;rename_i e O J;split at h;rename_i s3 z;injection h with h;subst h;obtain⟨h1,h2,g,hi,A,ht⟩:=hs;have C:Sim N ⟨s.sto,g,w⟩ s a w:=⟨h1,h2,g,hi,A,.refl _⟩;refine(ih _ _ _ J).get (by grind [dE]) C λq w' hs'=>next q w' ?_;obtain⟨M,K,g',H,I,D⟩:=hs';exact(TF (st:=O) (st':=s3) ⟨M,K,g',H,I,ht.trans D⟩ z ht.len D.len).1;cases h;cases h
 |br live pre o x y rest=>
  simp only[step]at h;intro N j E a w Q hc hs next;unfold dE at hc;split at hc;rename_i cp cq cx cy cz;simp only[aS]at hc;obtain⟨⟨⟨⟨hp,ho⟩,B⟩,hy⟩,hz⟩:=hc;split at h;rename_i s1 a3;refine wp_seq (wp_seq ((ih _ _ _ a3).get hp hs λS L W=>?_));have a9: ∀{c:bX} {j:Code} {r':Out},dE P N c j=true->thn (R c s1) (λs=>R rest s)=some r'->
    ∀{E:Sn} {a:Act} {w:World} {Q:Exit->Act->World->Prop},Sim N E s1 a w->(∀q w',Sim N E r'.2 q w'->Q (rW r'.1) q w')->j.wp P (Exit.then (cz.wp P Q) Q) a w:=by
   intro c j r' hc ht E a w Q hs next;cases hR:R c s1 with
   |none=>rw[hR]at ht;cases ht
   |some o=>
    obtain⟨e,O⟩:=o;rw[hR]at ht;refine(ih _ _ _ hR).get hc hs λq w' hs'=>?_;cases e with
    |normal=>exact(ih _ _ _ ht).get hz hs' next
    |exit id=>injection ht with ht;subst ht;exact next q w' hs'
    |ret=>injection ht with ht;subst ht;exact next q w' hs'
  have ac: ∀{c:bX} {j:Code},dE P N c j=true->mX s1.sto.length live (thn (R c s1) λs=>R rest s)=some r->j.wp P (Exit.then (cz.wp P Q) Q) S L:=(by intro c j hc ht;unfold mX at ht;split at ht;rename_i e O J;split at ht;rename_i s3 z;injection ht with ht;subst ht;obtain⟨h1,h2,g,hi,A,ht⟩:=W;have C:Sim N ⟨s1.sto,g,L⟩ s1 S L:=⟨h1,h2,g,hi,A,.refl _⟩;refine a9 hc J C λq w' hs'=>next q w' ?_;obtain⟨M,K,g',H,I,D⟩:=hs';exact(TF (st:=O) (st':=s3) ⟨M,K,g',H,I,ht.trans D⟩ z ht.len D.len).1;cases ht;cases ht);have Z:=W;obtain⟨_,_,g,hi,A,_⟩:=Z;simp only[rW,Exit.then];split at h;rename_i b hb;have hrel:=bJ (s:=⟨s1.sto,g,L⟩) (env:=s1.env) A hb ho;generalize G:S.eval cq=v at hrel;cases hrel with
  |p _ _ hrel=>cases hrel<;>grind [wp_cond]
  rename_i hb;have hrel:=bJ (s:=⟨s1.sto,g,L⟩) (env:=s1.env) A hb ho;generalize G:S.eval cq=v at hrel;cases hrel with
  |unk t=>
   refine wp_cond G ?_;unfold same at h;grind
  cases h;cases h;cases hc
theorem Ib(e:P.follows .mixedOrders=true)(j: ∀f o,T f=some (.fn o)->lR P f o=true)
  (h: ∀f g,T f=some (.prim g)-> ∀args blks r,g args blks=some r->J7b P f args blks r) (n: ∀f k,T f=some (.fork k)->lR P f k.af=true):jW P (AF T):=
 uu (JML e j h n) j h n
end
@[congr] theorem JRr{o e:Option Out}{k:St->Option Out}(h:o=e):thn o k=thn e k:=by rw[h]
@[congr] theorem JQE{α β:Type}{o e:RM α}{f:α->RM β}(h:o=e):o.bind f=e.bind f:=by rw[h]
@[congr] theorem JQF{α β:Type}{o e:Option α}{f:α->Option β}(h:o=e):o.bind f=e.bind f:=by rw[h]
@[simp] theorem MJ(s k):thn (some (.normal,s)) k=k s:=rfl
@[simp] theorem JKM(i s k):thn (some (.exit i,s)) k=some (.exit i,s):=rfl
@[simp] theorem JMJ(s k):thn (some (.ret,s)) k=some (.ret,s):=rfl
@[simp] theorem JJE(k):thn none k=none:=rfl
def NM(o:Option Out)(k:St->Option Out):Option Out:=
 match o with
 |some (.normal,s)=>k s
 |_=>none
@[congr] theorem JQJ{o e:Option Out}{k:St->Option Out}(h:o=e):NM o k=NM e k:=by rw[h]
@[simp] theorem JDb(s k):NM (some (.normal,s)) k=k s:=rfl
def blo(id:Nat)(o:Option Out):Option Out:=
 match o with
 |some (.exit k,s)=>if k=id then some (.normal,s)else some (.exit k,s)
 |o=>o
@[simp] theorem JH6(id s):blo id (some (.normal,s))=some (.normal,s):=rfl
@[simp] theorem ue(id i s):blo id (some (.exit i,s))=if i=id then some (.normal,s)else some (.exit i,s):=rfl
@[simp] theorem JNP(id s):blo id (some (.ret,s))=some (.ret,s):=rfl
@[simp] theorem JKr(id):blo id none=none:=rfl
def nrm(o:Option St):Option Out:=match o with|some s=>some (.normal,s)|none=>none
@[simp] theorem JLS(s):nrm (some s)=some (.normal,s):=rfl
@[simp] theorem JL5:nrm none=none:=rfl
def evv(x:Opd)(env:List (Nat×AV)):Option AV:=match x with| .t n=>lk n env| .c v=>some v
@[simp] theorem JS0(n env):evv (.t n) env=lk n env:=rfl
@[simp] theorem JS1(v env):evv (.c v) env=some v:=rfl
theorem RD(x:Opd)(s:St):(ev x).run s=evv x s.env:=by cases x<;>grind [ev,RM.run,evv]
section
variable (T:dZ)
@[simp ↓] theorem JRV(s):X T .skip s=some (.normal,s):=by rw[mM];rfl
@[simp ↓] theorem Ih(a b s):X T (.seq a b) s=thn (X T a s) λs=>X T b s:=by
 rw[mM];simp only[step];cases X T a s with
 |none=>rfl
 |some o=>obtain⟨e,s'⟩:=o;cases e<;>rfl
theorem Ia(d ps ins s):X T (.reg d ps ins) s=nrm (region (AF T) ps ins s):=by rw[mM];simp only[step];show(match region (AF T) ps ins s with|some s'=>some (AX.normal,s')|none=>none)=_;cases region (AF T) ps ins s<;>rfl
@[simp ↓] theorem JRX(d ins env sto):X T (.reg d [] ins) ⟨env,sto⟩=nrm (gL (AF T) ins sto.length ⟨env,room (news ins) sto⟩):=by rw[Ia];rfl
def cnd(x:Option AV)(a b:Option Out)(c:Unit->Option Out):Option Out:=
 match x with
 |some (.p (.b x))=>if x=true then a else b
 |some .unk=>c ()
 |_=>none
@[congr] theorem JRp{x e:Option AV}{a b:Option Out}{c:Unit->Option Out}(h:x=e):cnd x a b c=cnd e a b c:=by rw[h]
@[simp] theorem H7(x a b c):cnd (some (.p (.b x))) a b c=if x=true then a else b:=rfl
@[simp] theorem JNW(a b c):cnd (some .unk) a b c=c ():=rfl
@[simp ↓] theorem JOe(x a b s):X T (.cond x a b) s=cnd (evv x s.env) (X T a s) (X T b s) λ_=>same (X T a s) (X T b s):=by
 rw[mM];simp only[step,RD];cases evv x s.env with
 |none=>rfl
 |some v=>
  cases v with
  |p c=>cases c<;>rfl
  |_=>rfl
@[simp ↓] theorem JMy(id c s):X T (.block id c) s=blo id (X T c s):=by
 rw[mM];simp only[step];cases X T c s with
 |none=>rfl
 |some o=>obtain⟨e,s'⟩:=o;cases e<;>rfl
@[simp ↓] theorem JMV(c s):X T (.scope c) s=X T c s:=by rw[mM];rfl
@[simp ↓] theorem JRU(id s):X T (.exit id) s=some (.exit id,s):=by rw[mM];rfl
@[simp ↓] theorem JR9(s):X T .ret s=some (.ret,s):=by rw[mM];rfl
@[simp ↓] theorem It(live c s):X T (.keep live c) s=X T c ⟨restr live s.env,s.sto⟩:=by rw[mM];rfl
@[simp ↓] theorem JS3(live pre x a b rest s):X T (.br live pre x a b rest) s=NM (X T pre s) λs1=>
  cnd (evv x s1.env) (thn (X T a s1) λs=>X T rest s) (thn (X T b s1) λs=>X T rest s) λ_=>
   same (mX s1.sto.length live (thn (X T a s1) λs=>X T rest s)) (mX s1.sto.length live (thn (X T b s1) λs=>X T rest s)):=by
 rw[mM];simp only[step,RD];cases X T pre s with
 |none=>rfl
 |some o=>
  obtain⟨e,s1⟩:=o;cases e with
  |normal=>
   dsimp only[NM];cases evv x s1.env with
   |none=>rfl
   |some v=>
    cases v with
    |p c=>cases c<;>rfl
    |_=>rfl
  |exit=>rfl
  |ret=>rfl
@[simp ↓] theorem JPr(live c env sto):X T (.loop live c) ⟨env,sto⟩=X T (.lp sto.length live c) ⟨restr live env,sto⟩:=by
 grind [mM,step,clean]
theorem o3(n live c s):X T (.lp n live c) s=thn (X T c s) λs=>match clean n live s with
  |some s=>X T (.lp n live c) s
  |none=>none:=by
 rw[mM];simp only[step];cases X T c s with
 |none=>rfl
 |some o=>obtain⟨e,s'⟩:=o;cases e<;>rfl
def ND(res:List vM)(fresh:Bool)(m:Nat)(o:Option Out):Option Res:=
 match o with
 |some (.normal,s)=>iA ⟨0,0,.skip,res,fresh⟩ m s
 |some (.ret,s)=>iA ⟨0,0,.skip,res,fresh⟩ m s
 |_=>none
@[congr] theorem JR8{res:List vM}{fresh:Bool}{m:Nat}{o e:Option Out}(h:o=e):ND res fresh m o=ND res fresh m e:=by rw[h]
@[simp] theorem JDk(res fresh m s):ND res fresh m (some (.normal,s))=iA ⟨0,0,.skip,res,fresh⟩ m s:=rfl
@[simp] theorem JLx(res fresh m s):ND res fresh m (some (.ret,s))=iA ⟨0,0,.skip,res,fresh⟩ m s:=rfl
theorem JNZ{f:FuncId}{k:kF}(h:T f=some (.fork k))(args blks):AF T f args blks=if args.length=k.np then tT (X T) k args blks else none:=by simp_all [AF,qD]
@[simp] theorem JQW(o:Option Res):KM o o=o:=by unfold KM;cases o<;>simp
theorem JRj{f:FuncId}{fn:AFn}(h:T f=some (.fn fn))(args blks):AF T f args blks=if args.length=fn.np then
  ND fn.res fn.fresh blks.length (X T fn.body ⟨jN 0 args,blks⟩)
 else none:=by
 unfold AF qD;rw[h];rfl
end
variable {F:Orc} {env:List (Nat×AV)} {sto:List Blk} {new:Nat} {r:List bU} {d:Nat}
@[simp] theorem JFL(s):gL F [] new s=some s:=rfl
theorem JDh(i s):gL F (i::r) new s=((bW F i new).run s).bind λe=>gL F r (new+mT i.op) (put i.dst e s):=by
 grind [gL]
@[simp] theorem JRx:news []=0:=rfl
@[simp ↓] theorem JRq(i):news (i::r)=mT i.op+news r:=rfl
@[simp] theorem JRY:room 0 sto=sto:=rfl
@[simp] theorem JRn(n):room (n+1) sto=sto++List.replicate (n+1) .dead:=rfl
@[simp] theorem JRZ(n):lk n []=none:=rfl
@[simp] theorem JNk(n m v)(r:List (Nat×AV)):lk n ((m,v)::r)=if n=m then some v else lk n r:=rfl
attribute [simp ↓] JDh bW opD tP mT run_bind RD opR
attribute [simp] put val evs evo kY oS
 oB yL yQ unP jP MY fz fz.fzL fz.fz1 fzs AQ gX iR sub spl rU PQ HZ KQ KP mY QE nZ nC kU wU wQ gA qF jL mmP cellsOf unp qN kT
 oA one jN gY KT nA
@[simp] theorem JRs(o:Option Out):same o o=o:=by unfold same;cases o<;>simp
@[simp ↓] theorem JV{α:Type}(a:α)(s:St):(RM.ret a).run s=some a:=rfl
@[simp ↓] theorem JRN{α:Type}(s:St):(RM.fail:RM α).run s=none:=rfl
@[simp ↓] theorem xG{α:Type}(n:Nat)(k:AV->RM α)(s:St):(RM.slot n k).run s=(lk n s.env).bind λv=>(k v).run s:=by grind [RM.run]
@[simp ↓] theorem dY{α:Type}(n:Nat)(k:Blk->RM α)(s:St):(RM.blk n k).run s=(s.sto[n]?).bind λv=>(k v).run s:=by grind [RM.run]
@[simp] theorem JMr:upd [] sto=sto:=rfl
@[simp] theorem JKI(b x ws):upd ((b,x)::ws) sto=upd ws (sto.set b x):=rfl
@[simp] theorem JRo:restr [] env=[]:=rfl
@[simp] theorem JHd(k l):restr (k::l) env=match lk k env with
 |some v=>(k,v)::restr l env
 |none=>restr l env:=rfl
end Go.Am
namespace Go.Am
def qJ:AV->Bool| .p _| .data _| .cp _ _| .unk=>true|_=>false
@[simp] theorem JRz(c):qJ (.p c)=true:=rfl
@[simp] theorem JQG(c):qJ (.data c)=true:=rfl
@[simp] theorem JRm(c o):qJ (.cp c o)=true:=rfl
theorem xr: ∀{args:List AV} {l:List Ent},args.all qJ=true->cP.entsOfL args l=l|[],l,_=>rfl|x::r,l,h=>by simp only[List.all_cons,aS]at h;obtain⟨h1,h2⟩:=h;simp only[cP.entsOfL];cases x<;>simp[qJ]at h1<;>simp only[cP]<;>exact xr h2
theorem wh{ρ:Ent->Option Nat}: ∀{args:List AV},args.all qJ=true->ren.renL ρ args=some args|[],_=>rfl|x::r,h=>by simp only[List.all_cons,aS]at h;have:=wh (ρ:=ρ) h.2;have h1:=h.1;clear h;cases x<;>simp[qJ]at h1<;>simp[ren.renL,ren,this]
theorem JKP{es:List Ent}{new:Nat}{x:AV}(h:qJ x=true):bk es new x=some x:=by cases x<;>simp[qJ]at h<;>rfl
theorem j3{es:List Ent}{new:Nat}: ∀{xs:List AV},xs.all qJ=true->bk.bkL es new xs=some xs|[],_=>rfl|x::r,h=>by simp only[List.all_cons,aS]at h;simp[bk.bkL,JKP h.1,j3 h.2]
@[simp] theorem JS2(es new c):bk es new (.p c)=some (.p c):=rfl
@[simp] theorem JRT(es new c):bk es new (.data c)=some (.data c):=rfl
@[simp] theorem JRW(es new l):bk es new (.tup l)=(bk.bkL es new l).map .tup:=by grind [bk]
@[simp] theorem JRS(es new):bk.bkL es new []=some []:=rfl
@[simp] theorem JRD(es new x l):bk.bkL es new (x::l)=(bk es new x).bind λy=>(bk.bkL es new l).map λl=>y::l:=by simp only[bk.bkL];cases bk es new x<;>simp;cases bk.bkL es new l<;>rfl
@[simp] theorem JQH(n live):mX n live none=none:=rfl
@[simp] theorem JCM(n live e s):mX n live (some (e,s))=(clean n live s).map λs=>(e,s):=by
 grind [mX]
attribute [simp ↓] JC Option.bind_none MJ JKM JMJ JJE JDb JLS JL5 H7 JNW JH6 ue JNP JKr JDk JLx JFL JNk JHd JMr JKI
attribute [simp] clean vK rO gJ fin fin.finL iA jY rP cP cP.entsOfL wR jU vZ eZ unp
end Go.Am
end
section
namespace Go.Am
inductive Fr where|sq (b:bX)|bl (id:Nat)|td (n:Nat) (live:List Nat)|lo (n:Nat) (live:List Nat) (c:bX)
noncomputable def again(T:dZ)(n:Nat)(live:List Nat)(c:bX)(o:Option St):Option Out:=match o with|some s=>X T (.lp n live c) s|none=>none
section
variable (T:dZ) (f:AFn) (m:Nat) (k:List Fr)
theorem JOH(live c s):X T (.tidy live c) s=mX s.sto.length live (X T c s):=by rw[mM];rfl
end
open Classical in
noncomputable def J4{σ ρ:Type}(f:σ->Option (σ⊕ρ))(s:σ):Option ρ:=
 let e:Nat->σ->Option ρ:=λn=>n.rec (λ_=>none) λ_ ih s=>match f s with|some (.inl s')=>ih s'|some (.inr r)=>some r|none=>none
 if h: ∃n r,e n s=some r then e (Classical.choose h) s else none
def cZ{σ ρ:Type}(f:σ->Option (σ⊕ρ)):Nat->σ->Option ρ|0,_=>none|n+1,s=>match f s with|some (.inl s')=>cZ f n s'|some (.inr r)=>some r|none=>none
section
variable {σ ρ:Type} {f:σ->Option (σ⊕ρ)}
theorem gf(n:Nat): ∀s:σ,(Nat.rec (motive:=λ_=>σ->Option ρ) (λ_=>none) (λ_ ih s=>match f s with
  |some (.inl s')=>ih s'
  |some (.inr r)=>some r
  |none=>none) n) s=cZ f n s:=by
 induction n with
 |zero=>intro s;rfl
 |succ n ih=>grind [cZ]
theorem jl: ∀{n:Nat} {s:σ} {r:ρ} (m:Nat),cZ f n s=some r->cZ f (n+m) s=some r
 |0,_,_,_,h=>by cases h
 |n+1,s,r,m,h=>by
  rw[show n+1+m=(n+m)+1 by omega];simp only[cZ]at h⊢;split at h;exact jl m h
  all_goals simp_all
theorem JK3{n m:Nat}{s:σ}{r r':ρ}(h:cZ f n s=some r)(e:cZ f m s=some r'):r=r':=by
 have a:=jl m h;have b:=jl n e;grind
theorem lE{s:σ}{r:ρ}:J4 f s=some r↔ ∃n,cZ f n s=some r:=by
 unfold J4;dsimp only;constructor;intro h;split at h;exact⟨_,by rw[<-gf];exact h⟩;cases h;rintro⟨n,h⟩;have e: ∃n r,(Nat.rec (motive:=λ_=>σ->Option ρ) (λ_=>none) (λ_ ih s=>match f s with
  |some (.inl s')=>ih s'
  |some (.inr r)=>some r
  |none=>none) n) s=some r:=⟨n,r,by grind [gf]⟩
 rw[dif_pos e];obtain⟨r',g⟩:=Classical.choose_spec e;rw[g];rw[gf]at g;grind [JK3]
theorem dG{s:σ}{r:ρ}(h:f s=some (.inr r)):J4 f s=some r:=lE.2 ⟨1,by grind [cZ]⟩
theorem eW{s s':σ}(h:f s=some (.inl s')):J4 f s=J4 f s':=by
 have g: ∀r,J4 f s=some r↔J4 f s'=some r:=by
  intro r;rw[lE,lE];constructor;rintro⟨n,e⟩;cases n<;>grind [cZ]
  rintro⟨n,e⟩;exact⟨n+1,by grind [cZ]⟩
 cases hs:J4 f s with
 |some r=>grind
 |none=>cases hs':J4 f s'<;>grind
theorem JGz{s:σ}(h:f s=none):J4 f s=none:=by
 cases hs:J4 f s with
 |none=>rfl
 |some r=>obtain⟨n,e⟩:=lE.1 hs;cases n<;>simp_all [cZ]
theorem jh{P:σ->ρ->Prop}(h1: ∀s r,f s=some (.inr r)->P s r)(h2: ∀s s' r,f s=some (.inl s')->P s' r->P s r){s:σ}{r:ρ}(h:J4 f s=some r):P s r:=by
 obtain⟨n,e⟩:=lE.1 h;clear h
 induction n generalizing s with
 |zero=>cases e
 |succ n ih=>
  grind [cZ]
end
end Go.Am
end
section
namespace Go.Am
section
variable {α:Type}
def idx(l:List α)(n:Int):Option α:=if 0<=n then l[n.toNat]? else none
def aW(k:Nat)(n:Int):Option Unit:=if 0<=n/\n<k then some ()else none
def Js(bytes:Nat)(l e:List α):Option (List α):=if qF (l.length+e.length) bytes=true then some (l++e)else none
def bK(bytes:Nat)(l:List α):Option (List α):=if qF l.length bytes=true then some l else none
def yP(n:Int)(len:Nat):Option Nat:=if 0<=n/\n.toNat<=len then some n.toNat else none
def yR(n:Int)(len:Nat):Option Nat:=if 0<=n/\n.toNat<len then some n.toNat else none
def mkS(bytes:Nat)(n m:Int)(z:α):Option (List α):=if 0<=n/\n<=m/\bytes*m<=281474976710656/\m<=281474976710656 then some (List.replicate n.toNat z)else none
def DO(x:Option Int)(top e:Nat):Option Nat:=match x with|none=>some e|some n=>if 0<=n/\n<=top then some n.toNat else none
def yW(n:Nat)(lo hi:Option Int):Option (Nat×Nat):=match DO hi n n with|none=>none|some h=>match DO lo h 0 with|none=>none|some l=>some (l,h)
def aT(l:List α)(lo hi:Option Int):Option (List α):=match yW l.length lo hi with|some c=>some ((l.drop c.1).take (c.2-c.1))|none=>none
def Hc(k:IntKind)(x y:Int):Option Int:=if y=0 then none else some (k.wrap (x.tdiv y))
def vS(x y:Int):Option Int:=if y=0 then none else some (x.tmod y)
def pK(k:IntKind)(x y:Int):Option Int:=if y<0 then none else some (k.wrap (x*2^(min y.toNat k.bits)))
def iM(k:IntKind)(x y:Int):Option Int:=if y<0 then none else some (x.fdiv (2^(min y.toNat k.bits)))
def kJ(k:IntKind)(x y:Int):Int:=k.wrap (BitVec.ofInt k.bits x&&&BitVec.ofInt k.bits y).toNat
def orI(k:IntKind)(x y:Int):Int:=k.wrap (BitVec.ofInt k.bits x|||BitVec.ofInt k.bits y).toNat
def eY(k:IntKind)(x y:Int):Int:=k.wrap (BitVec.ofInt k.bits x^^^BitVec.ofInt k.bits y).toNat
def IC(k:IntKind)(n:Int):Int:=k.wrap (BitVec.ofInt k.bits (if k.signed then -1 else k.max)^^^BitVec.ofInt k.bits n).toNat
def cF(a b:List UInt8):Option (List UInt8):=if a.length+b.length<=4611686018427387904 then some (a++b)else none
def lM(l:List UInt8)(n:Int):Option Int:=if 0<=n then(match l[n.toNat]? with|some u=>some (u.toNat:Int)|none=>none)else none
def nw{k:Nat}(v:Vector α k)(n:Int):Option α:=if 0<=n/\n<k then v[n.toNat]? else none
def toStr(l:List Int):List UInt8:=l.map λn=>UInt8.ofNat n.toNat
def aR(l:List UInt8):List Int:=l.map λu=>(u.toNat:Int)
def iW(x y:Int):Int:=if y<x then y else x
def cR(x y:Int):Int:=if y>x then y else x
end
@[reducible] def cat(a b:List PV):List PV:=a++b
def r_i(k:IntKind)(n:Int):List PV:=[.i k n]
def r_b(x:Bool):List PV:=[.b x]
def r_s(l:List UInt8):List PV:=[.s l]
def JRI{α:Type}(esz:Nat)(r:α->List PV)(l:List α):List PV:=[.sl esz (l.map r)]
def pQ{α:Type}{n:Nat}(r:α->List PV)(v:Vector α n):List PV:=(v.toList.map r).flatten
section
variable {α:Type}
theorem AP(cs:List α)(off size:Nat):sub cs off size=if off+size<=cs.length then some ((cs.drop off).take size)else none:=by
 grind [sub]
theorem FP(cs:List α)(off:Nat)(vs:List α):spl cs off vs=if off+vs.length<=cs.length then some (cs.take off++vs++cs.drop (off+vs.length))else none:=by simp_all
theorem fe{cs:List α}{n:Nat}(h:cs.length=n):sub cs 0 n=some cs:=by simp_all
theorem Me{cs vs:List α}(h:cs.length=vs.length):spl cs 0 vs=some vs:=by simp_all
theorem JJs{a b c:List α}{off size:Nat}(h1:a.length=off)(h2:b.length=size):sub (a++(b++c)) off size=some b:=by
 grind [AP]
theorem JHt{b c:List α}{size:Nat}(h2:b.length=size):sub (b++c) 0 size=some b:=JJs (a:=[]) rfl h2
theorem JIe{a b c v:List α}{off:Nat}(h1:a.length=off)(h2:b.length=v.length):spl (a++(b++c)) off v=some (a++(v++c)):=by
 grind [FP]
theorem JHI{b c v:List α}(h2:b.length=v.length):spl (b++c) 0 v=some (v++c):=JIe (a:=[]) rfl h2
theorem Ns{cs e r:List α}{a m k n:Nat}(h1:sub cs a m=some e)(h2:sub e k n=some r):sub cs (a+k) n=some r:=by
 grind [AP,List.drop_take,List.drop_drop]
theorem M0{cs g e v cs':List α}{a m k:Nat}(h1:sub cs a m=some g)(h2:spl g k v=some e)(h3:spl cs a e=some cs'):spl cs (a+k) v=some cs':=by
 rw[AP]at h1;rw[FP]at h2 h3⊢;split at h1;rename_i o;injection h1 with h1;subst h1;split at h2;rename_i j;injection h2 with h2;subst h2;simp at j;split at h3;injection h3 with h3;subst h3;rw[if_pos (by omega)]
 congr 1
 simp only[pU,lO,yY,List.take_take,List.drop_take,vJ,mP];have h:cs.take (a+k)=cs.take a++(cs.drop a).take k:=List.take_add ..;rw[h,mP];rw[show min k m=k by omega]
 congr 3
 have n:cs.drop (a+k+v.length)=(cs.drop (a+(k+v.length))).take (m-(k+v.length))++cs.drop (a+m):=(by have:=mQ (m-(k+v.length)) (cs.drop (a+(k+v.length)));rw[vJ]at this;rw[show a+(k+v.length)+(m-(k+v.length))=a+m by omega]at this;grind);rw[n]
 congr 2
 omega;cases h3;cases h2;cases h1
theorem FW{β:Type}(g:α->β)(cs:List α)(off size:Nat):sub (cs.map g) off size=(sub cs off size).map (List.map g):=by
 grind [AP,List.map_drop,List.map_take]
theorem FU{β:Type}(g:α->β)(cs:List α)(off:Nat)(vs:List α):spl (cs.map g) off (vs.map g)=(spl cs off vs).map (List.map g):=by
 grind [FP,List.map_drop,List.map_take]
theorem LB{n k w:Nat}{r:α->List PV}(hr: ∀x,(r x).length=w){v:Vector α n}{x:α}(h:v[k]?=some x):sub (pQ r v) (k*w) w=some (r x):=by
 have g: ∀(l:List α) (k:Nat) (x:α),l[k]?=some x->sub ((l.map r).flatten) (k*w) w=some (r x):=by
  intro l
  induction l with
  |nil=>simp_all
  |cons y l ih=>
   intro k x h;cases k with
   |zero=>
    grind [JHt]
   |succ k=>
    simp at h;have:=ih k x h;rw[bZ,tF];rw[AP]at this⊢;split at this;injection this with this;have e:(k+1)*w=w+k*w:=by grind
    rw[e,if_pos (by grind)];have j:w+k*w=(r y).length+k*w:=by rw[hr]
    rw[j,List.drop_length_add_append,this];cases this
 exact g _ _ _ (by simp_all)
theorem Ki{n k w:Nat}{r:α->List PV}(hr: ∀x,(r x).length=w){v:Vector α n}(h:k<n)(y:α):spl (pQ r v) (k*w) (r y)=some (pQ r (v.setIfInBounds k y)):=by
 have g: ∀(l:List α) (k:Nat),k<l.length->spl ((l.map r).flatten) (k*w) (r y)=some (((l.set k y).map r).flatten):=by
  intro l
  induction l with
  |nil=>simp_all
  |cons z l ih=>
   intro k h;cases k with
   |zero=>
    grind [JHI]
   |succ k=>
    simp at h;have:=ih k h;rw[bZ,tF];rw[FP]at this⊢;split at this;rename_i j;injection this with this;have e:(k+1)*w=(r z).length+k*w:=by grind
    rw[e,if_pos (by grind)];simp only[List.set_cons_succ,bZ,tF];rw[<-this];rw[show(r z).length+k*w+(r y).length=(r z).length+(k*w+(r y).length) by omega];simp[List.take_length_add_append];cases this
 grind [pQ]
theorem JPy{n w:Nat}{r:α->List PV}(hr: ∀x,(r x).length=w)(v:Vector α n):(pQ r v).length=n*w:=by
 have e: ∀l:List α,((l.map r).flatten).length=l.length*w:=by
  intro l
  induction l with
  |nil=>simp
  |cons x l ih=>grind
 grind [pQ]
end
theorem FT: ∀l:List PV,unp (l.map AV.p)=some l|[]=>rfl|x::l=>by simp[unp,FT l]
theorem yn(l:List PV):kY true (l.map AV.p)=some (.data l):=by simp[FT]
theorem ZR: ∀l:List PV,(l.map AV.p).all qJ=true|[]=>rfl|x::l=>by simp
theorem vo(m:Nat)(ids:List Nat)(sto:List Blk): ∀l:List PV,fin.finL m ids sto (l.map AV.p)=some (l.map AV.p)|[]=>rfl|x::l=>by simp[fin.finL,fin,vo m ids sto l]
theorem vg(l:List PV)(acc:List Ent):cP.entsOfL (l.map AV.p) acc=acc:=xr (ZR l)
theorem JIb{α:Type}{r:α->List PV}{l:List α}{n:Int}{x:α}(h:idx l n=some x):QE (l.map r) n=some (r x):=by simp_all [idx]
theorem Le{k:Nat}{n:Int}{u:Unit}(h:aW k n=some u):0<=n/\n<k:=by
 grind [aW]
theorem JJG{α:Type}{k:Nat}{v:Vector α k}{n:Int}{x:α}(h:nw v n=some x):(0<=n/\n<k)/\v[n.toNat]?=some x:=by
 grind [nw]
theorem JNt{α:Type}{r:α->List PV}{esz bytes b:Nat}{w:Bool}{l e g:List α}{y:AV}{s:St}(h:Js bytes l g=some e)(hb:s.sto[b]?=some (.arr w esz (l.map r)))(hy:(gA esz y).run s=some (g.map r)):
  (jL esz bytes (.slr b 0 l.length) y).run s=some ⟨.slr b 0 e.length,[(b,.arr w esz (e.map r))]⟩:=by
 grind [Js,jL,dY,run_bind,JV]
theorem ke: ∀l:List Int,uH (l.map (r_i .u8))=some (toStr l)|[]=>rfl|x::l=>by simp[uH,r_i,ke l,toStr]
theorem gp(l:List UInt8):l.map nA=(aR l).map (r_i .u8):=by simp[aR,r_i]
theorem JJB{α:Type}{bytes:Nat}{l e:List α}(h:bK bytes l=some e):qF l.length bytes=true/\e=l:=by
 grind [bK]
theorem JNI{α:Type}{bytes:Nat}{n m:Int}{z:α}{l:List α}(h:mkS bytes n m z=some l):(0<=n/\n<=m/\bytes*m<=281474976710656/\m<=281474976710656)/\l=List.replicate n.toNat z:=by
 grind [mkS]
end Go.Am
end
section
namespace Go.Am
open Go.RowKit
theorem JLK{σ:List Blk}{g:Gh}{w w':World}(hi:Inv ⟨σ,g,w⟩)(hb:Below w.heap.size w w'):
  Inv ⟨σ,g,w'⟩/\bC ⟨σ,g,w⟩ ⟨σ,g,w'⟩:=by
 have hk: ∀(r:Nat) x,w.heap[r]?=some x->w'.heap[r]?=some x:=λr x h=>by rw[hb.block r (AY h)];exact h
 have hc: ∀r o v,cellAt w r o=some v->cellAt w' r o=some v:=(by grind [cellAt]);have t:bC ⟨σ,g,w⟩ ⟨σ,g,w'⟩:=by
  refine⟨⟨hb.size,λr c e fz h=>⟨c,hk r _ h,rfl,λ_ _=>rfl⟩,λr x h _=>hk r x h,hb.os,hb.output⟩,λ_ _ h=>h,λ_ _ h=>.inl h,λr o ⟨b,hb⟩=>.inl ⟨b,hb⟩,zQ0 _,λ_ cs h=>⟨⟨cs,h,rfl⟩,rfl⟩,
   λ_ wm _ rows h=>⟨wm,rows,h,id,zQ0 _,λ_=>rfl⟩⟩
 exact⟨mZ hi t (λ_=>False) (λ_ _=>⟨rfl,rfl⟩) (λ_ r o v _ _ h=>hc r o v h) (λ_ _ h=>h.elim) (λ_ _ _ _ h=>h.elim)
  (λ_ _ _ _ h=>h.elim) (λr o h=>Nat.lt_of_lt_of_le (hi.const r o h).1 hb.size) (λ_ _ _ _ h=>h.elim) (λ_ _ _ h j=>(j h).elim),t⟩
def zD:PV->Option Value| .b x=>some (.bool x)| .i k n=>some (.int k n)| .s l=>some (.string ⟨l.toArray⟩)|_=>none
theorem JKx{x:PV}{v:Value}(h:zD x=some v)(w:World)(C:Nat->Nat->Prop):J0b w C x v:=by
 cases x<;>simp only[zD,Option.some.injEq,reduceCtorEq]at h<;>subst h
 exact .b _;exact .i _ _;exact .s _
theorem JN9{x:PV}{v e:Value}{w:World}{C:Nat->Nat->Prop}(h:J0b w C x v)(hv:zD x=some e):v=e:=by cases x<;>simp only[zD,Option.some.injEq,reduceCtorEq]at hv<;>subst hv<;>cases h<;>rfl
theorem JFo{P:Program}{f:FuncId}{xs:List PV}{vs:List Value}{r:PV}{v:Value}{blks:List Blk}
  (hf: ∃fn,P.funcs[f]?=some fn∧fn.body.isSome=true∧(fn.name== "runtime.NumGoroutine")=false)
  (hx:xs.mapM zD=some vs) (hr:zD r=some v)
  (hc: ∀w,Calls P f vs.toArray w λe w'=>e=.returned v/\Below w.heap.size w w'):
  J7b P f (xs.map .p) blks (.p r,blks):=by
 refine⟨hf,λg w vals hi A C=>?_⟩;have h:vals=vs.toArray:=by
  have k: ∀(xs:List PV) (vs vl:List Value),xs.mapM zD=some vs->xs.length=vl.length->
    (∀(i:Nat) x v,(xs.map AV.p)[i]?=some x->vl[i]?=some v->JG ⟨blks,g,w⟩ x v)->vl=vs:=by
   intro xs
   induction xs with
   |nil=>grind
   |cons x r ih=>
    intro vs vl h1 h2 o;simp only[List.mapM_cons,Option.pure_def,Option.bind_eq_bind]at h1;obtain⟨D,n,h1⟩:=bR.1 h1;obtain⟨y,j,h1⟩:=bR.1 h1;simp only[Option.some.injEq]at h1;subst h1;cases vl with
    |nil=>simp at h2
    |cons u q=>
     have:=o 0 (.p x) u rfl rfl;cases this with
     |p _ _ z=>rw[JN9 z n,ih y q j (by simpa using h2) (λi x v hx B=>o (i+1) x v hx B)]
  apply MV;rw[k xs vs vals.toList hx (by simpa using A) (λi x v h1 h2=>C i x v h1 (by simpa using h2))]
 subst h;refine(hc w).mono ?_;rintro e w' ⟨rfl,hb⟩;obtain⟨hi',t⟩:=JLK hi hb;exact⟨v,g,rfl,hi',t,.p _ _ (JKx hr _ _)⟩
theorem Lb{T:dZ}{f:FuncId}{g:List AV->List Blk->Option Res}(h:T f=some (.prim g))(args blks):AF T f args blks=g args blks:=by simp_all [AF,qD]
def Hq(a:Option AFn)(k:Option kF)(g q:Option (List AV->List Blk->Option Res)):Option pn:=
 match a with
 |some a=>some (.fn a)
 |none=>match k with|some k=>some (.fork k)|none=>match g with|some g=>some (.prim g)|none=>q.map .prim
theorem GC{a:Option AFn}{k:Option kF}{g q:Option (List AV->List Blk->Option Res)}{e:pn}(h:Hq a k g q=some e):
  (∃x,a=some x/\e=.fn x)\/(∃x,k=some x/\e=.fork x)\/(∃x,g=some x/\e=.prim x)\/(∃x,q=some x/\e=.prim x):=by
 cases a with
 |some a=>exact .inl ⟨a,rfl,by injection h with h;exact h.symm⟩
 |none=>
  cases k with
  |some k=>exact .inr (.inl ⟨k,rfl,by injection h with h;exact h.symm⟩)
  |none=>
   cases g with
   |some g=>exact .inr (.inr (.inl ⟨g,rfl,by injection h with h;exact h.symm⟩))
   |none=>
    cases q with
    |some q=>exact .inr (.inr (.inr ⟨q,rfl,by injection h with h;exact h.symm⟩))
    |none=>cases h
def J9D(n:Int)(i:Nat):Int:=IntKind.wrap .u8 ((IntKind.wrap .u64 n).fdiv (2^(8*i)))
def J59(n:Int)(k:Nat):List UInt8:=toStr ((List.range k).map (J9D n))
def Jo7(l:List UInt8)(n size:Int):Option (List UInt8):=if size<1\/8<size then some l else if l.length+8<=140737488355328 then some (l++J59 n size.toNat)else none
def JG1:List AV->List Blk->Option Res|[.p (.s l),.p (.i .i64 n),.p (.i .i64 k)],blks=>(Jo7 l n k).map λr=>(.p (.s r),blks)|_,_=>none
theorem JNG(x:Int):0<=IntKind.wrap .u8 x/\IntKind.wrap .u8 x<256:=by have h:IntKind.wrap .u8 x=x%256:=rfl;rw[h];omega
theorem JHp(n:Int)(i:Nat):((UInt8.ofNat (J9D n i).toNat).toNat:Int)=J9D n i:=by
 have h:0<=J9D n i/\J9D n i<256:=JNG _;grind [UInt8.toNat_ofNat_of_lt']
theorem JJ8(n:Int)(k:Nat):J59 n (k+1)=J59 n k++[UInt8.ofNat (J9D n k).toNat]:=by simp[J59,toStr,List.range_succ]
theorem JCX(n:Int)(k:Nat):(J59 n k).length=k:=by simp[J59,toStr]
theorem JRg(x y:Bool):bY [.b] [.b x] [.b y]=some (decide (x=y)):=by
 grind [bY,vI]
theorem JRd(k:IntKind)(x y:Int):bY [.i k] [.i k x] [.i k y]=some (decide (x=y)):=by
 grind [bY,vI]
theorem JRb(x y:List UInt8):bY [.s] [.s x] [.s y]=some (decide (x=y)):=by
 grind [bY,vI]
theorem Nq{p q:Prop} [Decidable p] [Decidable q]: ∀{e g:List KD} {a1 a2 b1 b2:List PV},bY e a1 b1=some (decide p)->bY g a2 b2=some (decide q)->bY (e++g) (cat a1 a2) (cat b1 b2)=some (decide (p/\q)):=by
 have h: ∀(e g:List KD) (a1 a2 b1 b2:List PV) (r s:Bool),bY e a1 b1=some r->bY g a2 b2=some s->bY (e++g) (a1++a2) (b1++b2)=some (r&&s):=by
  intro e
  induction e with
  |nil=>
   grind [bY]
  |cons k ks ih=>
   intro g a1 a2 b1 b2 r s h1 h2;cases a1 with
   |nil=>grind [bY]
   |cons a a1=>
    cases b1 with
    |nil=>grind [bY]
    |cons b b1=>
     simp only[bY]at h1;split at h1;rename_i u c j hc;injection h1 with h1;subst h1;simp only[rK,bY,j,ih _ _ _ _ _ _ _ hc h2,Bool.and_assoc];cases h1
 intro e g a1 a2 b1 b2 h1 h2;rw[h _ _ _ _ _ _ _ _ h1 h2,Bool.decide_and]
theorem JPR{α:Type} [DecidableEq α]{n:Nat}{ks:List KD}{r:α->List PV}(h: ∀x y,bY ks (r x) (r y)=some (decide (x=y)))(v w:Vector α n):
  bY (List.replicate n ks).flatten (pQ r v) (pQ r w)=some (decide (v=w)):=by
 have g: ∀(l e:List α),l.length=e.length->bY (List.replicate l.length ks).flatten (l.map r).flatten (e.map r).flatten=some (decide (l=e)):=by
  intro l
  induction l with
  |nil=>grind [bY]
  |cons a l ih=>
   intro e h1;cases e with
   |nil=>simp at h1
   |cons b e=>
    have h2:=Nq (h a b) (ih e (by simpa using h1));grind [decide]
 have j:=g v.toList w.toList (by simp);rw[show v.toList.length=n by simp]at j;rw[show decide (v=w)=decide (v.toList=w.toList) by simp[Vector.toList_inj]];exact j
end Go.Am
end
section
namespace Go.Am
def J1(k:IntKind)(a c:Int):Int:=k.wrap (a+c)
def Jm(k:IntKind)(a c:Int):Int:=k.wrap (a-c)
def cA(k:IntKind)(a c:Int):Int:=k.wrap (a*c)
def JRK(k:IntKind)(n:Int):Int:=k.wrap (0-n)
def aU(k:IntKind)(n:Int):Int:=k.wrap n
def aK(a c:Int):Bool:=decide (a=c)
def aN(a c:Int):Bool:= !decide (a=c)
def aL(a c:Int):Bool:=decide (a<c)
def aV(a c:Int):Bool:=decide (a<=c)
def aO(a c:Int):Bool:=decide (a>c)
def aP(a c:Int):Bool:=decide (a>=c)
def eqS(a c:List UInt8):Bool:=decide (a=c)
def neS(a c:List UInt8):Bool:= !decide (a=c)
def ltS(a c:List UInt8):Bool:=Op.bytesLess a c
def leS(a c:List UInt8):Bool:=Op.bytesLess a c||decide (a=c)
def gtS(a c:List UInt8):Bool:= !(Op.bytesLess a c||decide (a=c))
def geS(a c:List UInt8):Bool:= !Op.bytesLess a c
def eqB(a c:Bool):Bool:=decide (a=c)
def Jj(x:Bool):Bool:= !x
def J0{α:Type}(l:List α):Int:=l.length
def JRt{α:Type}(c:Bool)(x y:α):α:=if c=true then x else y
def bD{α:Type}(l:List α)(i:Nat):Option α:=l[i]?
def bA{α:Type}(l:List α)(i:Nat)(x:α):List α:=l.set i x
def vat{α:Type}{n:Nat}(l:Vector α n)(i:Nat):Option α:=l[i]?
def bH{α:Type}{n:Nat}(l:Vector α n)(i:Nat)(x:α):Vector α n:=l.setIfInBounds i x
inductive Ty where
 |b
 |i (k:IntKind)
 |s
 |l (t:Ty)
 |pr (a c:Ty)
 |ar (n:Nat) (t:Ty)
 |u
 |f
 deriving DecidableEq
@[reducible] def Ty.D:Ty->Type
 | .b=>Bool
 | .i _=>Int
 | .s=>List UInt8
 | .l t=>List t.D
 | .pr a c=>a.D×c.D
 | .ar n t=>Vector t.D n
 | .u=>Unit
 | .f=>Unit
def Ty.sz:Ty->Nat| .b=>1| .i _=>1| .s=>1| .l _=>1| .pr a c=>a.sz+c.sz| .ar n t=>n*t.sz| .u=>0| .f=>1
def cel:(t:Ty)->t.D->List PV| .b,x=>[.b x]| .i k,x=>[.i k x]| .s,x=>[.s x]| .l t,x=>[.sl t.sz (x.map (cel t))]| .pr a c,x=>cel a x.1++cel c x.2| .ar _ t,x=>pQ (cel t) x| .u,_=>[]| .f,_=>[.nf]
theorem eN: ∀(t:Ty) (x:t.D),(cel t x).length=t.sz| .b,_=>rfl| .i _,_=>rfl| .s,_=>rfl| .l _,_=>rfl| .pr a c,x=>by simp only[cel,pU,eN a,eN c,Ty.sz]| .ar n t,x=>by simp only[cel,Ty.sz];exact JPy (eN t) x| .u,_=>rfl| .f,_=>rfl
def Ty.eqd:(t:Ty)->DecidableEq t.D| .b=>inferInstanceAs (DecidableEq Bool)| .i _=>inferInstanceAs (DecidableEq Int)| .s=>inferInstanceAs (DecidableEq (List UInt8))| .l t=>have:=t.eqd;inferInstanceAs (DecidableEq (List t.D))| .pr a c=>have:=a.eqd;have:=c.eqd;inferInstanceAs (DecidableEq (a.D×c.D))| .ar n t=>have:=t.eqd;inferInstanceAs (DecidableEq (Vector t.D n))| .u=>inferInstanceAs (DecidableEq Unit)| .f=>inferInstanceAs (DecidableEq Unit)
def eqT(t:Ty)(x y:t.D):Bool:=have:=t.eqd;decide (x=y)
theorem eF{t:Ty}{x y:t.D}:eqT t x y=true↔x=y:=by simp[eqT]
def Ty.zero:(t:Ty)->t.D| .b=>false| .i _=>(0:Int)| .s=>[]| .l _=>[]| .pr a c=>(a.zero,c.zero)| .ar n t=>Vector.replicate n t.zero| .u=>()| .f=>()
def Ty.ks:Ty->Option (List KD)
 | .b=>some [.b]
 | .i k=>some [.i k]
 | .s=>some [.s]
 | .l _=>none
 | .pr a c=>match a.ks,c.ks with|some x,some y=>some (x++y)|_,_=>none
 | .ar n t=>match t.ks with|some x=>some (List.replicate n x).flatten|none=>none
 | .u=>some []
 | .f=>none
theorem RR: ∀(t:Ty) {ks:List KD} (x y:t.D),t.ks=some ks->bY ks (cel t x) (cel t y)=some (eqT t x y)
 | .b,ks,x,y,h=>by injection h with h;subst h;exact JRg x y
 | .i k,ks,x,y,h=>by injection h with h;subst h;exact JRd k x y
 | .s,ks,x,y,h=>by injection h with h;subst h;exact JRb x y
 | .l _,_,_,_,h=>by cases h
 | .pr a c,ks,x,y,h=>by
  simp only[Ty.ks]at h;split at h;rename_i p q e g;injection h with h;subst h;have h1:=RR a x.1 y.1 e;have h2:=RR c x.2 y.2 g;unfold eqT at h1 h2;have j:(have:=a.eqd;decide (x.1=y.1))= @decide _ (a.eqd x.1 y.1):=rfl;have:= @Nq _ _ (a.eqd x.1 y.1) (c.eqd x.2 y.2) _ _ _ _ _ _ h1 h2;simp only[cel];refine this.trans (congrArg some ?_);grind [eqT];cases h
 | .ar n t,ks,x,y,h=>by
  simp only[Ty.ks]at h;split at h;rename_i p e;injection h with h;subst h;have:= @JPR t.D t.eqd n p (cel t) (λx y=>by have:=RR t x y e;exact this) x y;grind [cel,eqT];cases h
 | .u,ks,x,y,h=>by injection h with h;subst h;rfl
 | .f,_,_,_,h=>by cases h
inductive Sp where
 |f (off:Nat)
 |a (i esz:Nat)
 deriving DecidableEq
def spo:List Sp->Nat|[]=>0| .f o::r=>o+spo r| .a i e::r=>i*e+spo r
def spf:Nat->List Sp->Nat×List Sp|o,.f k::r=>spf (o+k) r|o,r=>(o,r)
theorem PK: ∀(o:Nat) (p:List Sp),(spf o p).1+spo (spf o p).2=o+spo p|o,[]=>rfl|o,.f k::r=>by simp only[spf,PK,spo];omega|o,.a i e::r=>rfl
section
variable {R:Type}
def prt:(t:Ty)->t.D->(off:Nat)->List Sp->(w:Ty)->(w.D->Option R)->Option R
 |t,x,off,p,w,k=>
  if h:t=w/\off=0/\p=[]then k (h.1▸x)
  else match t,x with
   | .pr a c,x=>if off+(if p=[]then w.sz else 1)<=a.sz then prt a x.1 off p w k
    else if a.sz<=off then prt c x.2 (off-a.sz) p w k
    else none
   | .ar _ t,x=>if p=[]then(vat x (off/t.sz)).bind λy=>prt t y (off%t.sz) p w k
    else match off,p with|0,.a i e::r=>if e=t.sz then(vat x i).bind λy=>prt t y (spf 0 r).1 (spf 0 r).2 w k else none|_,_=>none
   |_,_=>none
def pst:(t:Ty)->t.D->(off:Nat)->List Sp->(w:Ty)->w.D->(t.D->Option R)->Option R
 |t,x,off,p,w,v,k=>
  if h:t=w/\off=0/\p=[]then k (h.1.symm▸v)
  else match t,x,k with
   | .pr a c,x,k=>if off+(if p=[]then w.sz else 1)<=a.sz then pst a x.1 off p w v λy=>k (y,x.2)
    else if a.sz<=off then pst c x.2 (off-a.sz) p w v λy=>k (x.1,y)
    else none
   | .ar _ t,x,k=>if p=[]then(vat x (off/t.sz)).bind λy=>pst t y (off%t.sz) p w v λy=>k (bH x (off/t.sz) y)
    else match off,p with|0,.a i e::r=>if e=t.sz then(vat x i).bind λy=>pst t y (spf 0 r).1 (spf 0 r).2 w v λy=>k (bH x i y)else none|_,_=>none
   |_,_,_=>none
end
theorem JKY{α:Type}{a b v:List α}{off n:Nat}(h:sub a off n=some v):sub (a++b) off n=some v:=by
 grind [AP]
theorem JJh{α:Type}{a b v:List α}{off n:Nat}(h0:a.length<=off)(h:sub b (off-a.length) n=some v):sub (a++b) off n=some v:=by
 grind [AP,List.drop_append,List.drop_of_length_le]
theorem JLO{α:Type}{a b v e:List α}{off:Nat}(h:spl a off v=some e):spl (a++b) off v=some (e++b):=by
 grind [FP]
theorem JIq{α:Type}{a b v e:List α}{off:Nat}(h0:a.length<=off)(h:spl b (off-a.length) v=some e):spl (a++b) off v=some (a++e):=by
 rw[FP]at h⊢;split at h;injection h with h;rw[if_pos (by simp;omega),<-h,List.take_append,List.take_of_length_le h0,List.drop_append,List.drop_of_length_le (by omega)];simp;omega;cases h
theorem K9{α:Type}{n i:Nat}{x:Vector α n}{y:α}(h:x[i]?=some y):i<n:=by
 grind
theorem xA{R:Type}{t w:Ty}{x:t.D}{off:Nat}{p:List Sp}{k:w.D->Option R}{r:R}(h0:t=w/\off=0/\p=[])(h:k (h0.1▸x)=some r):
  ∃y,sub (cel t x) (off+spo p) w.sz=some (cel w y)/\k y=some r:=by
 obtain⟨rfl,rfl,rfl⟩:=h0;grind [spo,fe,eN]
theorem xB{R:Type}{t w:Ty}{x:t.D}{off:Nat}{p:List Sp}{v:w.D}{k:t.D->Option R}{r:R}(h0:t=w/\off=0/\p=[])(h:k (h0.1.symm▸v)=some r):
  ∃y,spl (cel t x) (off+spo p) (cel w v)=some (cel t y)/\k y=some r:=by
 obtain⟨rfl,rfl,rfl⟩:=h0;grind [spo,Me,eN]
theorem wZ{R:Type}: ∀{t:Ty} {x:t.D} {off:Nat} {p:List Sp} {w:Ty} {k:w.D->Option R} {r:R},prt t x off p w k=some r->
  ∃y,sub (cel t x) (off+spo p) w.sz=some (cel w y)/\k y=some r
 | .pr a c,x,off,p,w,k,r,h=>by
  unfold prt at h;by_cases g:Ty.pr a c=w/\off=0/\p=[];rw[dif_pos g]at h;exact xA g h;rw[dif_neg g]at h;dsimp only at h;by_cases h1:off+(if p=[]then w.sz else 1)<=a.sz;rw[if_pos h1]at h;obtain⟨y,v,o⟩:=wZ h;exact⟨y,JKY v,o⟩;rw[if_neg h1]at h;by_cases h2:a.sz<=off;rw[if_pos h2]at h;obtain⟨y,v,o⟩:=wZ h;refine⟨y,JJh (by grind [eN]) ?_,o⟩;grind [eN];simp_all
 | .ar n t,x,off,p,w,k,r,h=>by
  unfold prt at h;by_cases g:Ty.ar n t=w/\off=0/\p=[];rw[dif_pos g]at h;exact xA g h;rw[dif_neg g]at h;dsimp only at h;by_cases A:p=[];rw[if_pos A]at h;obtain⟨z,j,h⟩:=bR.1 h;obtain⟨y,h1,h2⟩:=wZ h;refine⟨y,?_,h2⟩;have:=Ns (LB (eN t) j) h1;grind [cel,Nat.div_add_mod];rw[if_neg A]at h;split at h;rename_i _ i e q _;split at h;rename_i B;obtain⟨z,j,h⟩:=bR.1 h;obtain⟨y,h1,h2⟩:=wZ h;refine⟨y,?_,h2⟩;have:=Ns (LB (eN t) j) h1;grind [cel,PK,spo];cases h;cases h
 | .b,x,off,p,w,k,r,h=>by
  unfold prt at h;split at h
  next g=>exact xA g h
  next=>cases h
 | .i _,x,off,p,w,k,r,h=>by
  unfold prt at h;split at h
  next g=>exact xA g h
  next=>cases h
 | .s,x,off,p,w,k,r,h=>by
  unfold prt at h;split at h
  next g=>exact xA g h
  next=>cases h
 | .l _,x,off,p,w,k,r,h=>by
  unfold prt at h;split at h
  next g=>exact xA g h
  next=>cases h
 | .u,x,off,p,w,k,r,h=>by
  unfold prt at h;split at h
  next g=>exact xA g h
  next=>cases h
 | .f,x,off,p,w,k,r,h=>by
  unfold prt at h;split at h
  next g=>exact xA g h
  next=>cases h
theorem AH{R:Type}: ∀{t:Ty} {x:t.D} {off:Nat} {p:List Sp} {w:Ty} {v:w.D} {k:t.D->Option R} {r:R},pst t x off p w v k=some r->
  ∃y,spl (cel t x) (off+spo p) (cel w v)=some (cel t y)/\k y=some r
 | .pr a c,x,off,p,w,v,k,r,h=>by
  unfold pst at h;by_cases g:Ty.pr a c=w/\off=0/\p=[];rw[dif_pos g]at h;exact xB g h;rw[dif_neg g]at h;dsimp only at h;by_cases h1:off+(if p=[]then w.sz else 1)<=a.sz;rw[if_pos h1]at h;obtain⟨y,B,A⟩:=AH h;exact⟨(y,x.2),JLO B,A⟩;rw[if_neg h1]at h;by_cases h2:a.sz<=off;rw[if_pos h2]at h;obtain⟨y,B,A⟩:=AH h;refine⟨(x.1,y),JIq (by grind [eN]) ?_,A⟩;grind [eN];simp_all
 | .ar n t,x,off,p,w,v,k,r,h=>by
  unfold pst at h;by_cases g:Ty.ar n t=w/\off=0/\p=[];rw[dif_pos g]at h;exact xB g h;rw[dif_neg g]at h;dsimp only at h;by_cases o:p=[];rw[if_pos o]at h;obtain⟨z,j,h⟩:=bR.1 h;obtain⟨y,h1,h2⟩:=AH h;refine⟨_,?_,h2⟩;have:=M0 (LB (eN t) j) h1 (Ki (eN t) (K9 j) y);subst o;simp only[spo,vH]at this⊢;rw[ou,Nat.div_add_mod]at this;exact this;rw[if_neg o]at h;split at h;rename_i _ i e q _;split at h;rename_i C;obtain⟨z,j,h⟩:=bR.1 h;obtain⟨y,h1,h2⟩:=AH h;refine⟨_,?_,h2⟩;have:=M0 (LB (eN t) j) h1 (Ki (eN t) (K9 j) y);have E:=PK 0 q;simp only[spo,C];rw[show i*t.sz+((spf 0 q).1+spo (spf 0 q).2)=0+(i*t.sz+spo q) by omega]at this;exact this;cases h;cases h
 | .b,x,off,p,w,v,k,r,h=>by
  unfold pst at h;split at h
  next g=>exact xB g h
  next=>cases h
 | .i _,x,off,p,w,v,k,r,h=>by
  unfold pst at h;split at h
  next g=>exact xB g h
  next=>cases h
 | .s,x,off,p,w,v,k,r,h=>by
  unfold pst at h;split at h
  next g=>exact xB g h
  next=>cases h
 | .l _,x,off,p,w,v,k,r,h=>by
  unfold pst at h;split at h
  next g=>exact xB g h
  next=>cases h
 | .u,x,off,p,w,v,k,r,h=>by
  unfold pst at h;split at h
  next g=>exact xB g h
  next=>cases h
 | .f,x,off,p,w,v,k,r,h=>by
  unfold pst at h;split at h
  next g=>exact xB g h
  next=>cases h
end Go.Am
end
section
namespace Go.Am
inductive TC where|d (t:Ty) (x:t.D)|sc (t:Ty) (rows:List t.D)|np|nf|un|ptr (b:Nat) (p:List Sp)|cp (t:Ty) (x:t.D) (p:List Sp)|slr (b:Nat)|slo (b n:Nat)|ep (b i:Nat) (p:List Sp)|epo (b e i:Nat) (p:List Sp)|pre (b k:Nat)|pro (b n k:Nat)|suf (b i:Nat)|suo (b i n:Nat)|fn (f:FuncId)
inductive TA where|c (x:TC)|dt (t:Ty) (x:t.D)|m (t:Ty) (cs:List TC)|fn (f:FuncId) (first caps:List TC)
inductive TV where|a (x:TA)|tup (vs:List TA)
inductive TB where|dead|box (t:Ty) (x:t.D)|mbox (t:Ty) (cs:List TC)|arr (w:Bool) (t:Ty) (rows:List t.D)
structure TSt where
 env:List (Nat×TV)
 sto:List TB
def hdP:List PV->PV|[c]=>c|_=>.np
def lnB:TB->Nat| .arr _ _ rows=>rows.length|_=>0
def lnO:Option TB->Nat|some x=>lnB x|none=>0
def lns(sto:List TB)(b:Nat):Nat:=lnO sto[b]?
section
variable (L:Nat->Nat)
def aZ:TC->AV| .d t x=>.p (hdP (cel t x))| .sc t rows=>.p (.slc t.sz (rows.map (cel t)))| .np=>.p .np| .nf=>.p .nf| .un=>.unk| .ptr b p=>.ptr b (spo p)| .cp t x p=>.cp (cel t x) (spo p)| .slr b=>.slr b 0 (L b)| .slo b n=>.slr b 0 n| .ep b i p=>.ep b (L b) i (spo p)| .epo b e i p=>.ep b e i (spo p)| .pre b k=>.pre b (L b) k| .pro b n k=>.pre b n k| .suf b i=>.slr b (min i (L b)) (L b-i)| .suo b i n=>.slr b i n| .fn f=>.fn f [] []
def bO:TA->AV| .c x=>aZ L x| .dt t x=>.data (cel t x)| .m _ cs=>.agg (cs.map (aZ L))| .fn f a c=>.fn f (a.map (aZ L)) (c.map (aZ L))
def JX:TV->AV| .a x=>bO L x| .tup vs=>.tup (vs.map (bO L))
def aX:TB->Blk| .dead=>.dead| .box t x=>.box ((cel t x).map .p)| .mbox _ cs=>.box (cs.map (aZ L))| .arr w t rows=>.arr w t.sz (rows.map (cel t))
end
def fX(L:Nat->Nat)(env:List (Nat×TV)):List (Nat×AV):=env.map λx=>(x.1,JX L x.2)
def JD(s:TSt):St:=⟨fX (lns s.sto) s.env,s.sto.map (aX (lns s.sto))⟩
section
variable (L:Nat->Nat)
theorem AG(t x):aX L (.box t x)=.box ((cel t x).map .p):=rfl
theorem LH(t cs):aX L (.mbox t cs)=.box (cs.map (aZ L)):=rfl
theorem r5(w t rows):aX L (.arr w t rows)=.arr w t.sz (rows.map (cel t)):=rfl
theorem kQ(b p):JX L (.a (.c (.ptr b p)))=.ptr b (spo p):=rfl
theorem mO(t x p):JX L (.a (.c (.cp t x p)))=.cp (cel t x) (spo p):=rfl
theorem fF(b):JX L (.a (.c (.slr b)))=.slr b 0 (L b):=rfl
theorem mK(b i p):JX L (.a (.c (.ep b i p)))=.ep b (L b) i (spo p):=rfl
theorem e_i(k x):JX L (.a (.c (.d (.i k) x)))=.p (.i k x):=rfl
theorem e_b(x):JX L (.a (.c (.d .b x)))=.p (.b x):=rfl
theorem e_s(x):JX L (.a (.c (.d .s x)))=.p (.s x):=rfl
theorem e_l(t x):JX L (.a (.c (.d (.l t) x)))=.p (.sl t.sz (x.map (cel t))):=rfl
theorem He(f):JX L (.a (.c (.fn f)))=.fn f [] []:=rfl
theorem n5(t x):JX L (.a (.dt t x))=.data (cel t x):=rfl
theorem ob(f a c):JX L (.a (.fn f a c))=.fn f (a.map (aZ L)) (c.map (aZ L)):=rfl
theorem e_m(t cs):JX L (.a (.m t cs))=.agg (cs.map (aZ L)):=rfl
end
theorem HQ{t:Ty}(h:t.sz=1)(x:t.D):cel t x=[hdP (cel t x)]:=by
 have:=eN t x;rw[h]at this
 match hc:cel t x,this with
 |[c],_=>rfl
def kC(b n:Nat):TC->TC| .slr c=>if c=b then .slo b n else .slr c| .ep c i p=>if c=b then .epo b n i p else .ep c i p| .pre c k=>if c=b then .pro b n k else .pre c k| .suf c i=>if c=b then .suo b (min i n) (n-i)else .suf c i|x=>x
def kA(b n:Nat):TA->TA| .c x=>.c (kC b n x)| .dt t x=>.dt t x| .m t cs=>.m t (cs.map (kC b n))| .fn f a c=>.fn f (a.map (kC b n)) (c.map (kC b n))
def kV(b n:Nat):TV->TV| .a x=>.a (kA b n x)| .tup vs=>.tup (vs.map (kA b n))
def kB(b n:Nat):TB->TB| .mbox t cs=>.mbox t (cs.map (kC b n))|x=>x
def wS(b:Nat)(x:TB)(s:TSt):TSt:=⟨s.env,s.sto.set b x⟩
def wN(b:Nat)(x:TB)(s:TSt):TSt:=⟨s.env.map λy=>(y.1,kV b (lns s.sto b) y.2),(s.sto.map (kB b (lns s.sto b))).set b x⟩
def bE(d:Option Nat)(v:TV)(s:TSt):TSt:=
 match d with
 |some d=>⟨(d,v)::s.env,s.sto⟩
 |none=>s
section
variable {L L':Nat->Nat} {b:Nat}
theorem k_C(h: ∀c,c≠b->L' c=L c)(x:TC):aZ L' (kC b (L b) x)=aZ L x:=by cases x<;>grind [kC,aZ]
theorem F7(h: ∀c,c≠b->L' c=L c)(xs:List TC):(xs.map (kC b (L b))).map (aZ L')=xs.map (aZ L):=by simp_all [k_C]
theorem k_A(h: ∀c,c≠b->L' c=L c)(x:TA):bO L' (kA b (L b) x)=bO L x:=by cases x<;>simp only[kA,bO,k_C h,F7 h]
theorem k_V(h: ∀c,c≠b->L' c=L c)(x:TV):JX L' (kV b (L b) x)=JX L x:=by cases x<;>simp only[kV,JX,k_A h,DW,Function.comp_def]
theorem k_B(h: ∀c,c≠b->L' c=L c)(x:TB):aX L' (kB b (L b) x)=aX L x:=by cases x<;>simp only[kB,aX,F7 h]
theorem JQg(b n:Nat)(x:TB):lnB (kB b n x)=lnB x:=by cases x<;>rfl
theorem JOG(sto:List TB)(b n c:Nat):lns (sto.map (kB b n)) c=lns sto c:=by
 unfold lns;rw[iO];cases sto[c]? with
 |none=>rfl
 |some x=>exact JQg b n x
theorem Lh(sto:List TB)(b:Nat)(x:TB)(c:Nat)(h:c≠b):lns (sto.set b x) c=lns sto c:=by
 grind [lns]
theorem rn{sto:List TB}{b:Nat}(h:b<sto.length)(x:TB):lns (sto.set b x) b=lnB x:=by unfold lns;rw[DD h];rfl
theorem ES(b:Nat)(x:TB)(s:TSt):JD (wN b x s)=⟨(JD s).env,(JD s).sto.set b (aX (lns (wN b x s).sto) x)⟩:=by
 have h: ∀c,c≠b->lns (wN b x s).sto c=lns s.sto c:=λc hc=>by
  grind [wN,Lh,JOG]
 unfold JD
 congr 1
 show fX _ (s.env.map λy=>(y.1,kV b (lns s.sto b) y.2))=fX _ s.env;simp_all [fX,k_V];show((s.sto.map (kB b (lns s.sto b))).set b x).map _=_;grind [List.map_set,List.map_congr_left,k_B]
theorem FG{b:Nat}{x:TB}{s:TSt}(h:lnB x=lns s.sto b):lns (wS b x s).sto=lns s.sto:=by
 grind [wS,rn,List.set_eq_of_length_le,Lh]
theorem wJ{b:Nat}{x:TB}{s:TSt}(h:lnB x=lns s.sto b):JD (wS b x s)=⟨(JD s).env,(JD s).sto.set b (aX (lns s.sto) x)⟩:=by
 grind [JD,FG,wS,List.map_set]
theorem mV{s s1:TSt}{ws:List (Nat×Blk)}(h:JD s1=⟨(JD s).env,upd ws (JD s).sto⟩)(d:Option Nat)(v:TV):put d ⟨JX (lns s1.sto) v,ws⟩ (JD s)=JD (bE d v s1):=by cases d<;>simp_all [bE,JD,fX]
end
theorem LN{s:TSt}(d:Option Nat)(v:TV):put d ⟨JX (lns s.sto) v,[]⟩ (JD s)=JD (bE d v s):=mV rfl d v
def tlk(n:Nat):List (Nat×TV)->Option TV|[]=>none|(m,v)::r=>if n=m then some v else tlk n r
theorem AB(L:Nat->Nat)(n:Nat): ∀env:List (Nat×TV),lk n (fX L env)=(tlk n env).map (JX L)
 |[]=>rfl
 |(m,v)::r=>by
  simp only[fX,bZ,lk,tlk];split;rfl;exact AB L n r
theorem eA(s:TSt)(b:Nat):(JD s).sto[b]?=(s.sto[b]?).map (aX (lns s.sto)):=by simp[JD]
theorem iB{sto:List TB}{b:Nat}{w:Bool}{t:Ty}{rows:List t.D}(h:sto[b]?=some (.arr w t rows)):lns sto b=rows.length:=by unfold lns;rw[h];rfl
inductive TO where|t (n:Nat)|c (x:TV)
def erO:TO->Opd| .t n=>.t n| .c x=>.c (JX (λ_=>0) x)
def H2:TC->Bool| .d _ _| .sc _ _| .np| .nf| .un| .fn _=>true|_=>false
def PM:TA->Bool| .c x=>H2 x| .dt _ _=>true| .m _ _=>false| .fn _ a c=>a.isEmpty&&c.isEmpty
def EL:TV->Bool| .a x=>PM x| .tup vs=>vs.isEmpty
theorem JL0{L L':Nat->Nat}{v:TV}(h:EL v=true):JX L v=JX L' v:=by
 cases v with
 |a x=>
  cases x with
  |c x=>cases x<;>first|rfl|grind [EL,PM,H2]
  |dt t x=>rfl
  |m t cs=>grind [EL,PM]
  |fn f a c=>simp[EL,PM]at h;obtain⟨rfl,rfl⟩:=h;rfl
 |tup vs=>simp[EL]at h;subst h;rfl
def tev:TO->TSt->Option TV| .t n,s=>tlk n s.env| .c x,_=>if EL x=true then some x else none
theorem bP{x:TO}{s:TSt}{v:TV}(h:tev x s=some v):(ev (erO x)).run (JD s)=some (JX (lns s.sto) v):=by
 cases x with
 |t n=>simp only[erO,ev,xG];show(lk n (fX (lns s.sto) s.env)).bind _=_;rw[AB,show tlk n s.env=some v from h];rfl
 |c x=>
  grind [tev,erO,ev,JV,JL0]
end Go.Am
end
section
namespace Go.Am
@[reducible] def vi(k:IntKind)(n:Int):TV:=.a (.c (.d (.i k) n))
@[reducible] def vb(x:Bool):TV:=.a (.c (.d .b x))
@[reducible] def vs(l:List UInt8):TV:=.a (.c (.d .s l))
@[reducible] def vl(t:Ty)(l:List t.D):TV:=.a (.c (.d (.l t) l))
def uv:TV:=.tup []
def mkv(agg:Bool)(t:Ty)(x:t.D):TV:=if agg=true then .a (.dt t x)else .a (.c (.d t x))
def Ok{R:Type}(m:RM Eff)(d:Option Nat)(s:TSt)(k:TSt->Option R)(r:R):Prop:= ∃e s',m.run (JD s)=some e/\put d e (JD s)=JD s'/\k s'=some r
def asm:(t:Ty)->List TC->Option t.D
 | .pr a c,l=>match asm a (l.take a.sz),asm c (l.drop a.sz)with|some x,some y=>some (x,y)|_,_=>none
 | .ar _ _,_=>none
 | .u,l=>if l.isEmpty=true then some ()else none
 |t,l=>match l with|[.d t' x]=>if h:t'=t then some (h▸x)else none|_=>none
def zE:(t:Ty)->t.D->Option (List TC)
 | .pr a c,x=>match zE a x.1,zE c x.2 with|some l,some q=>some (l++q)|_,_=>none
 | .ar _ _,_=>none
 | .u,_=>some []
 |t,x=>some [.d t x]
theorem LA(L:Nat->Nat): ∀{t:Ty} {l:List TC} {x:t.D},asm t l=some x->l.map (aZ L)=(cel t x).map .p
 | .pr a c,l,x,h=>by
  simp only[asm]at h;split at h;rename_i y z g j;injection h with h;subst h;have h1:=LA L g;have h2:=LA L j;grind [cel,List.take_append_drop];cases h
 | .ar _ _,_,_,h=>by cases h
 | .u,l,x,h=>by
  simp only[asm]at h;split at h;rename_i e;rw[List.isEmpty_iff.1 e];rfl;cases h
 | .b,l,x,h=>by
  simp only[asm]at h;split at h;split at h;rename_i e;subst e;injection h with h;subst h;rfl;cases h;cases h
 | .i _,l,x,h=>by
  simp only[asm]at h;split at h;split at h;rename_i e;subst e;injection h with h;subst h;rfl;cases h;cases h
 | .s,l,x,h=>by
  simp only[asm]at h;split at h;split at h;rename_i e;subst e;injection h with h;subst h;rfl;cases h;cases h
 | .l _,l,x,h=>by
  simp only[asm]at h;split at h;split at h;rename_i e;subst e;injection h with h;subst h;rfl;cases h;cases h
 | .f,l,x,h=>by
  simp only[asm]at h;split at h;split at h;rename_i e;subst e;injection h with h;subst h;rfl;cases h;cases h
theorem LG(L:Nat->Nat): ∀{t:Ty} {x:t.D} {l:List TC},zE t x=some l->l.map (aZ L)=(cel t x).map .p
 | .pr a c,x,l,h=>by
  simp only[zE]at h;split at h;rename_i y z e g;injection h with h;subst h;have h1:=LG L e;have h2:=LG L g;grind [cel];cases h
 | .ar _ _,_,_,h=>by cases h
 | .u,x,l,h=>by injection h with h;subst h;rfl
 | .b,x,l,h=>by injection h with h;subst h;rfl
 | .i _,x,l,h=>by injection h with h;subst h;rfl
 | .s,x,l,h=>by injection h with h;subst h;rfl
 | .l _,x,l,h=>by injection h with h;subst h;rfl
 | .f,x,l,h=>by injection h with h;subst h;rfl
def zcs:Ty->List TC| .pr a c=>zcs a++zcs c| .ar n t=>(List.replicate n (zcs t)).flatten| .u=>[]|t=>[.d t t.zero]
theorem FE(L:Nat->Nat): ∀t:Ty,(zcs t).map (aZ L)=(cel t t.zero).map .p| .pr a c=>by simp only[zcs,nU,FE L a,FE L c,Ty.zero,cel]| .ar n t=>by have ih:=FE L t;simp_all [cel,pQ,Ty.zero,zcs]| .u=>rfl| .b=>rfl| .i _=>rfl| .s=>rfl| .l _=>rfl| .f=>rfl
def mkb(t:Ty)(cs:List TC):TB:=match asm t cs with|some x=>.box t x|none=>.mbox t cs
theorem SO(L:Nat->Nat)(t:Ty)(cs:List TC):aX L (mkb t cs)=.box (cs.map (aZ L)):=by
 unfold mkb;split;grind [AG,LA];rfl
theorem SE(t:Ty)(cs:List TC):lnB (mkb t cs)=0:=by unfold mkb;split<;>rfl
def YM:TC->Bool| .ptr _ _| .cp _ _ _| .slr _| .slo _ _| .ep _ _ _| .epo _ _ _ _| .un| .fn _| .pre _ _| .pro _ _ _| .suf _ _| .suo _ _ _=>true|_=>false
theorem fh(L:Nat->Nat): ∀{cs:List TC},cs.any YM=true->unp (cs.map (aZ L))=none
 |[],h=>by simp at h
 |x::r,h=>by
  simp only[List.any_cons,DG]at h;rcases h with h|h;cases x<;>simp[YM]at h<;>rfl
  have:=fh L h;cases x<;>simp[aZ,unp,this]
def mka(agg:Bool)(t:Ty)(cs:List TC):Option TV:=
 if agg=true then
  match asm t cs with
  |some x=>some (.a (.dt t x))
  |none=>if cs.any YM=true then some (.a (.m t cs))else none
 else match cs with|[c]=>some (.a (.c c))|_=>none
theorem FD(L:Nat->Nat){agg:Bool}{t:Ty}{cs:List TC}{v:TV}(h:mka agg t cs=some v):kY agg (cs.map (aZ L))=some (JX L v):=by
 unfold mka at h;split at h;rename_i e;subst e;split at h;rename_i x j;injection h with h;subst h;rw[LA L j,yn];rfl;split at h;rename_i g;injection h with h;subst h;simp only[kY,fh L g,if_true];rfl;cases h;rename_i e;split at h;injection h with h;subst h;have:agg=false:=by simpa using e
 subst this;rfl;cases h
def tcs:TV->Option (List TC)| .a (.c .un)=>none| .a (.c (.pre _ _))=>none| .a (.c (.pro _ _ _))=>none| .a (.c x)=>some [x]| .a (.dt t x)=>zE t x| .a (.m _ cs)=>some cs| .a (.fn f [] [])=>some [.fn f]|_=>none
theorem KU(L:Nat->Nat){v:TV}{cs:List TC}(h:tcs v=some cs):cellsOf (JX L v)=some (cs.map (aZ L)):=by
 cases v with
 |a x=>
  cases x with
  |c x=>cases x<;>cases h<;>rfl
  |dt t x=>simp only[JX,bO,cellsOf];rw[LG L h]
  |m t cs=>injection h with h;subst h;rfl
  |fn f a c=>
   cases a with
   |nil=>cases c with
    |nil=>injection h with h;subst h;rfl
    |cons y c=>cases h
   |cons y a=>cases h
 |tup vs=>cases h
def tdv(t:Ty):TV->Option t.D| .a (.c (.d t' x))=>if h:t'=t then some (h▸x)else none| .a (.dt t' x)=>if h:t'=t then some (h▸x)else none|_=>none
def agv:TV->Bool| .a (.dt _ _)=>true|_=>false
theorem JQi(L:Nat->Nat){t:Ty}{v:TV}{x:t.D}(h:tdv t v=some x):JX L v=if agv v=true then .data (cel t x)else .p (hdP (cel t x)):=by
 unfold tdv at h;split at h;split at h;rename_i e;subst e;injection h with h;subst h;rfl;cases h;split at h;rename_i e;subst e;injection h with h;subst h;rfl;cases h;cases h
def sX:List Sp->Option Nat
 |[]=>some 0
 | .f o::r=>match sX r with|some n=>some (o+n)|none=>none
 | .a _ _::_=>none
theorem EZ: ∀{p:List Sp} {n:Nat},sX p=some n->spo p=n
 |[],n,h=>by injection h with h
 | .f o::r,n,h=>by
  simp only[sX]at h;split at h;rename_i m e;injection h with h;simp only[spo,EZ e,h];cases h
 | .a _ _::_,_,h=>by cases h
section
variable {R:Type}
def q7(agg:Bool)(t:Ty)(v:TV)(d:Option Nat)(s:TSt)(k:TSt->Option R):Option R:=
 if agg=true\/t.sz=1 then
  match v with
  | .a (.c (.cp e x p))=>prt e x (spf 0 p).1 (spf 0 p).2 t λy=>k (bE d (mkv agg t y) s)
  | .a (.c (.ptr b p))=>match s.sto[b]? with
   |some (.box e x)=>prt e x (spf 0 p).1 (spf 0 p).2 t λy=>k (bE d (mkv agg t y) s)
   |some (.mbox _ cs)=>match sX p with
    |some off=>match sub cs off t.sz with
     |some l=>match mka agg t l with|some v=>k (bE d v s)|none=>none
     |none=>none
    |none=>none
   |_=>none
  | .a (.c (.ep b i p))=>match s.sto[b]? with|some (.arr _ e rows)=>(bD rows i).bind λrow=>prt e row (spf 0 p).1 (spf 0 p).2 t λy=>k (bE d (mkv agg t y) s)|_=>none
  |_=>none
 else none
theorem EY(L:Nat->Nat){agg:Bool}{t:Ty}(h:agg=true\/t.sz=1)(y:t.D):oS agg (cel t y)=some (JX L (mkv agg t y)):=by
 unfold mkv;split;rename_i e;subst e;rfl;rename_i e;have:agg=false:=by simpa using e
 subst this;have:=h.resolve_left (by simp);rw[HQ this];rfl
theorem MX(p:List Sp):(spf 0 p).1+spo (spf 0 p).2=spo p:=by simp[PK]
theorem JLD{agg:Bool}{t:Ty}{v:TV}{d:Option Nat}{s:TSt}{k:TSt->Option R}{r:R}(h:q7 agg t v d s k=some r):Ok (gX agg t.sz (JX (lns s.sto) v)) d s k r:=by
 unfold q7 at h;split at h;rename_i g;split at h;rename_i j x p;obtain⟨y,h1,h2⟩:=wZ h;rw[MX]at h1;refine⟨_,_,?_,LN d (mkv agg t y),h2⟩;simp only[kQ,mO,mK,fF,gX,h1,EY (lns s.sto) g,val];rfl;rename_i b p;split at h;rename_i j x hb;obtain⟨y,h1,h2⟩:=wZ h;rw[MX]at h1;refine⟨_,_,?_,LN d (mkv agg t y),h2⟩;have hc:kY agg ((cel t y).map .p)=oS agg (cel t y):=by
  unfold kY oS;split;rw[FT];cases hcel:cel t y with
  |nil=>rfl
  |cons a l=>cases l<;>rfl
 simp only[kQ,mO,mK,fF,gX,dY,eA,hb,cM,JC,aX,FW,h1,hc,EY (lns s.sto) g,val];rfl;rename_i cs hb;split at h;rename_i off n;split at h;rename_i l o;split at h;rename_i v q;refine⟨_,_,?_,LN d v,h⟩;simp only[kQ,mO,mK,fF,gX,dY,eA,hb,cM,JC,aX,FW,EZ n,o,FD (lns s.sto) q,val];rfl;cases h;cases h;cases h;cases h;rename_i b i p;split at h;rename_i w j rows hb;obtain⟨row,e,h⟩:=bR.1 h;have e:rows[i]?=some row:=e;obtain⟨y,h1,h2⟩:=wZ h;rw[MX]at h1;refine⟨_,_,?_,LN d (mkv agg t y),h2⟩;simp only[kQ,mO,mK,fF,gX,dY,eA,hb,cM,JC,aX,iB hb,eC,if_true,iO,e,h1,EY (lns s.sto) g,val];rfl;cases h;cases h;cases h
end
end Go.Am
end
section
namespace Go.Am
section
variable {R:Type}
def fzC:(t:Ty)->List TC->TSt->(t.D->TSt->Option R)->Option R
 | .pr a c,l,s,k=>fzC a (l.take a.sz) s λx s=>fzC c (l.drop a.sz) s λy s=>k (x,y) s
 | .ar _ _,_,_,_=>none
 | .u,l,s,k=>if l.isEmpty=true then k () s else none
 | .l e,l,s,k=>match l with
  |[.d t' x]=>if h:t'=.l e then k (h▸x) s else none
  |[.slr b]=>match s.sto[b]? with|some (.arr _ e' rows)=>if h:e'=e then k (h▸rows) (wS b (.arr false e' rows) s)else none|_=>none
  |_=>none
 |t,l,s,k=>match l with|[.d t' x]=>if h:t'=t then k (h▸x) s else none|_=>none
def tfz(t:Ty)(v:TV)(s:TSt)(k:t.D->TSt->Option R):Option R:=
 match v with
 | .a (.dt t' x)=>if h:t'=t then k (h▸x) s else none
 | .a (.c x)=>fzC t [x] s k
 | .a (.m _ cs)=>fzC t cs s k
 |_=>none
def Fzd(s s':TSt)(ws:List (Nat×Blk)):Prop:=s'.env=s.env/\lns s'.sto=lns s.sto/\JD s'=⟨(JD s).env,upd ws (JD s).sto⟩/\(∀(b:Nat) (t:Ty) (rows:List t.D) (w:Bool),s'.sto[b]?=some (TB.arr w t rows)-> ∃w',s.sto[b]?=some (TB.arr w' t rows))/\(∀(b:Nat) (t:Ty) (rows:List t.D),s.sto[b]?=some (TB.arr false t rows)->s'.sto[b]?=some (TB.arr false t rows))/\ ∀x∈ws,∃(t:Ty) (rows:List t.D),s'.sto[x.1]?=some (TB.arr false t rows)
theorem Fzd.refl(s:TSt):Fzd s s []:=⟨rfl,rfl,rfl,λb t rows w h=>⟨w,h⟩,λb t rows h=>h,λx h=>by cases h⟩
theorem Fzd.trans{s1 e g:TSt}{a c:List (Nat×Blk)}(h:Fzd s1 e a)(j:Fzd e g c):Fzd s1 g (a++c):=by
 obtain⟨h1,h2,B,z,o,y⟩:=h;obtain⟨n,q,A,v,k,r⟩:=j;refine⟨n.trans h1,q.trans h2,?_,λb t rows w h=>?_,λb t rows h=>k b t rows (o b t rows h),λx C=>?_⟩
 all_goals grind [fG]
theorem fj{s:TSt}{b:Nat}{w:Bool}{t:Ty}{rows:List t.D}(hb:s.sto[b]?=some (.arr w t rows)):Fzd s (wS b (.arr false t rows) s) [(b,.arr false t.sz (rows.map (cel t)))]:=by
 have e:lnB (.arr false t rows)=lns s.sto b:=by rw[iB hb];rfl
 have hs:(wS b (.arr false t rows) s).sto[b]?=some (.arr false t rows):=by grind [wS]
 have j: ∀c,c≠b->(wS b (.arr false t rows) s).sto[c]?=s.sto[c]?:=λc hc=>by grind [wS]
 refine⟨rfl,FG e,wJ e,λc t' g w' h=>?_,λc t' g h=>?_,λx k=>?_⟩
 all_goals grind
theorem JNc(x y:List AV)(st:St):(fz.fzL (x++y)).run st=((fz.fzL x).run st).bind λa=>((fz.fzL y).run st).map λc=>(a.1++c.1,a.2++c.2):=by
 induction x with
 |nil=>simp_all
 |cons v x ih=>
  simp only[rK,fz.fzL,run_bind,ih];cases(fz.fz1 v).run st with
  |none=>rfl
  |some a=>
   simp only[JC];cases(fz.fzL x).run st with
   |none=>rfl
   |some c=>simp only[JC];cases(fz.fzL y).run st<;>simp_all
theorem KW{L:Nat->Nat}{t t':Ty}{x:t'.D}(h:t'=t)(h1:t.sz=1)(st:St):(fz.fzL ([TC.d t' x].map (aZ L))).run st=some (cel t (h▸x),[]):=by
 grind [HQ,aZ,fz.fzL,fz.fz1,run_bind,JV]
theorem LD: ∀{t:Ty} {l:List TC} {s0 s:TSt} {w0:List (Nat×Blk)} {k:t.D->TSt->Option R} {r:R},Fzd s0 s w0->fzC t l s k=some r->
  ∃y s' ws,(fz.fzL (l.map (aZ (lns s0.sto)))).run (JD s0)=some (cel t y,ws)/\Fzd s0 s' (w0++ws)/\k y s'=some r
 | .pr a c,l,s0,s,w0,k,r,j,h=>by simp only[fzC]at h;obtain⟨x,s1,v,A,o,h⟩:=LD j h;obtain⟨y,q,B,z,C,h⟩:=LD o h;refine⟨(x,y),q,v++B,?_,by simp_all,h⟩;have:=JNc ((l.take a.sz).map (aZ (lns s0.sto))) ((l.drop a.sz).map (aZ (lns s0.sto))) (JD s0);rw[<-nU,mQ,A,z]at this;exact this
 | .ar _ _,_,_,_,_,_,_,_,h=>by cases h
 | .u,l,s0,s,w0,k,r,j,h=>by
  simp only[fzC]at h;split at h;rename_i g;refine⟨(),s,[],?_,by simp_all,h⟩;rw[List.isEmpty_iff.1 g];rfl;cases h
 | .l e,l,s0,s,w0,k,r,j,h=>by
  simp only[fzC]at h;split at h;split at h;rename_i g;exact⟨_,s,[],KW g rfl _,by simp_all,h⟩;cases h;rename_i b;split at h;rename_i w e' rows hb;split at h;rename_i g;subst g;obtain⟨w',n⟩:=j.2.2.2.1 b _ rows w hb;refine⟨rows,_,[(b,.arr false e'.sz (rows.map (cel e')))],?_,j.trans (fj hb),h⟩;simp only[bZ,List.map_nil,aZ,fz.fzL,fz.fz1,run_bind,dY,eA,n,cM,JC,aX,iB n,eC,pM,if_true,DM,JV];rfl;cases h;cases h;cases h
 | .b,l,s0,s,w0,k,r,j,h=>by
  simp only[fzC]at h;split at h;split at h;rename_i g;exact⟨_,s,[],KW g rfl _,by simp_all,h⟩;cases h;cases h
 | .i _,l,s0,s,w0,k,r,j,h=>by
  simp only[fzC]at h;split at h;split at h;rename_i g;exact⟨_,s,[],KW g rfl _,by simp_all,h⟩;cases h;cases h
 | .s,l,s0,s,w0,k,r,j,h=>by
  simp only[fzC]at h;split at h;split at h;rename_i g;exact⟨_,s,[],KW g rfl _,by simp_all,h⟩;cases h;cases h
 | .f,l,s0,s,w0,k,r,j,h=>by
  simp only[fzC]at h;split at h;split at h;rename_i g;exact⟨_,s,[],KW g rfl _,by simp_all,h⟩;cases h;cases h
theorem JRG(x:AV)(hx:(∀cs,x≠.data cs)/\ ∀cs,x≠.agg cs)(st:St){y:List PV}{ws:List (Nat×Blk)}(h:(fz.fzL [x]).run st=some (y,ws)):(fz x).run st=some (y,ws):=by simp only[fz.fzL,run_bind,JV]at h;cases x<;>simp_all [bR]
theorem Kf{t:Ty}{v:TV}{s0 s:TSt}{w0:List (Nat×Blk)}{k:t.D->TSt->Option R}{r:R}(g:Fzd s0 s w0)(h:tfz t v s k=some r):
  ∃y s' ws,(fz (JX (lns s0.sto) v)).run (JD s0)=some (cel t y,ws)/\Fzd s0 s' (w0++ws)/\k y s'=some r:=by
 unfold tfz at h;split at h;split at h;rename_i j;subst j;exact⟨_,s,[],rfl,by simp_all,h⟩;cases h;rename_i x;obtain⟨y,s',ws,h1,h2,e⟩:=LD g h;refine⟨y,s',ws,JRG _ ⟨λcs=>?_,λcs=>?_⟩ _ h1,h2,e⟩<;>cases x<;>simp[aZ,JX,bO]
 obtain⟨y,s',ws,h1,h2,e⟩:=LD g h;exact⟨y,s',ws,h1,h2,e⟩;cases h
end
end Go.Am
end
section
namespace Go.Am
section
variable {R:Type}
theorem jp(L:Nat->Nat){t:Ty}{v:TV}{x:t.D}(h:tdv t v=some x)(ha:agv v=true\/t.sz=1):cellsOf (JX L v)=some ((cel t x).map .p):=by
 rw[JQi L h];split;rfl;rename_i e;rw[HQ (ha.resolve_left e)];rfl
def sa(t:Ty)(x u:TV)(d:Option Nat)(s:TSt)(k:TSt->Option R):Option R:=
 match x with
 | .a (.c (.ptr b p))=>match s.sto[b]? with
  |some (.box e y)=>match tdv t u with
   |some z=>if agv u=true\/t.sz=1 then pst e y (spf 0 p).1 (spf 0 p).2 t z λh=>k (bE d uv (wS b (.box e h) s))else none
   |none=>match sX p,zE e y,tcs u with
    |some off,some cs,some l=>if l.length=t.sz then
     match spl cs off l with
     |some cs'=>k (bE d uv (wS b (mkb e cs') s))
     |none=>none
     else none
    |some off,none,some l=>if off=0/\l.length=e.sz/\l.length=t.sz then k (bE d uv (wS b (mkb e l) s))else none
    |_,_,_=>none
  |some (.mbox e cs)=>match sX p,tcs u with
   |some off,some l=>if l.length=t.sz then
    match spl cs off l with
    |some cs'=>k (bE d uv (wS b (mkb e cs') s))
    |none=>none
    else none
   |_,_=>none
  |_=>none
 | .a (.c (.ep b i p))=>tfz t u s λz s1=>match s1.sto[b]? with|some (.arr true e rows)=>(bD rows i).bind λrow=>pst e row (spf 0 p).1 (spf 0 p).2 t z λg=>k (bE d uv (wS b (.arr true e (bA rows i g)) s1))|_=>none
 |_=>none
theorem JQk(L:Nat->Nat):JX L uv=gY:=rfl
theorem RS{s:TSt}{b:Nat}{t:Ty}{x:t.D}(h:s.sto[b]?=some (.box t x)):lns s.sto b=0:=by unfold lns;rw[h];rfl
theorem uk{s:TSt}{b:Nat}{t:Ty}{cs:List TC}(h:s.sto[b]?=some (.mbox t cs)):lns s.sto b=0:=by unfold lns;rw[h];rfl
theorem AR{s:TSt}{b:Nat}(h:s.sto[b]?=some .dead):lns s.sto b=0:=by unfold lns;rw[h];rfl
theorem IN{m:RM Eff}{d:Option Nat}{s:TSt}{k:TSt->Option R}{r:R}{b:Nat}{x:TB}{v:TV}(hl:lnB x=lns s.sto b)(hm:m.run (JD s)=some ⟨JX (lns s.sto) v,[(b,aX (lns s.sto) x)]⟩)
  (h:k (bE d v (wS b x s))=some r):Ok m d s k r:=by
 refine⟨_,_,hm,?_,h⟩;have e:=FG hl;rw[<-e];refine mV ?_ d v;simp_all [wJ]
theorem pm{m:RM Eff}{d:Option Nat}{s:TSt}{k:TSt->Option R}{r:R}{b:Nat}{x:TB}{v:TV}(hm:m.run (JD s)=some ⟨JX (lns (wN b x s).sto) v,[(b,aX (lns (wN b x s).sto) x)]⟩)
  (h:k (bE d v (wN b x s))=some r):Ok m d s k r:=
 ⟨_,_,hm,mV (ES b x s) d v,h⟩
theorem fQ{m:RM Eff}{d:Option Nat}{s:TSt}{k:TSt->Option R}{r:R}{v:TV}(hm:m.run (JD s)=some ⟨JX (lns s.sto) v,[]⟩)(h:k (bE d v s)=some r):Ok m d s k r:=
 ⟨_,_,hm,LN d v,h⟩
theorem rl{m:RM Eff}{d:Option Nat}{s s':TSt}{ws:List (Nat×Blk)}{k:TSt->Option R}{r:R}{v:TV}(f:Fzd s s' ws)(hm:m.run (JD s)=some ⟨JX (lns s.sto) v,ws⟩)(h:k (bE d v s')=some r):Ok m d s k r:=by refine⟨_,_,hm,?_,h⟩;rw[<-f.2.1];exact mV f.2.2.1 d v
theorem JI1{t:Ty}{x u:TV}{d:Option Nat}{s:TSt}{k:TSt->Option R}{r:R}(h:sa t x u d s k=some r):Ok (iR t.sz (JX (lns s.sto) x) (JX (lns s.sto) u)) d s k r:=by
 unfold sa at h;split at h;rename_i b p;split at h;rename_i e y hb;split at h;rename_i z E;split at h;rename_i H;obtain⟨C,h1,h2⟩:=AH h;rw[MX]at h1;refine IN (x:=.box e C) (v:=uv) (RS hb).symm ?_ h2;simp only[kQ,mO,mK,fF,iR,dY,eA,hb,cM,JC,aX,jp (lns s.sto) E H,eC,eN,if_true,FU,h1,JV];rfl;cases h;split at h;rename_i off cs l o hc j;split at h;rename_i A;split at h;rename_i cs' hs;refine IN (x:=mkb e cs') (v:=uv) ((SE _ _).trans (RS hb).symm) ?_ h;rw[SO];simp only[kQ,mO,mK,fF,iR,dY,eA,hb,cM,JC,aX,KU (lns s.sto) j,eC,A,if_true,EZ o,<-LG (lns s.sto) hc,FU,hs,JV];rfl;cases h;cases h;rename_i off l o _ j;split at h;rename_i D;obtain⟨rfl,h1,h2⟩:=D;refine IN (x:=mkb e l) (v:=uv) ((SE _ _).trans (RS hb).symm) ?_ h;rw[SO];have I:spl ((cel e y).map AV.p) 0 (l.map (aZ (lns s.sto)))=some (l.map (aZ (lns s.sto))):=Me (by grind [eN]);simp only[kQ,mO,mK,fF,iR,dY,eA,hb,cM,JC,aX,KU (lns s.sto) j,eC,h2,if_true,EZ o,I,JV];rfl;cases h;cases h;rename_i e cs hb;split at h;rename_i off l o j;split at h;rename_i A;split at h;rename_i cs' hs;refine IN (x:=mkb e cs') (v:=uv) ((SE _ _).trans (uk hb).symm) ?_ h;rw[SO];simp only[kQ,mO,mK,fF,iR,dY,eA,hb,cM,JC,aX,KU (lns s.sto) j,eC,A,if_true,EZ o,FU,hs,JV];rfl;cases h;cases h;cases h;cases h;rename_i b i p;obtain⟨z,s1,ws,h1,f,h⟩:=Kf (Fzd.refl s) h;rw[sW]at f;split at h;rename_i e rows hb;obtain⟨row,w,h⟩:=bR.1 h;have w:rows[i]?=some row:=w;obtain⟨g,B,J⟩:=AH h;rw[MX]at B;obtain⟨w',n⟩:=f.2.2.2.1 b _ rows true hb;have F:w'=true:=by
  cases w' with
  |true=>rfl
  |false=>have:=f.2.2.2.2.1 b _ rows n;simp_all
 subst F;have q:(ws.all λy=>y.1 !=b)=true:=(by rw[List.all_eq_true];intro y G;obtain⟨t',rows',hf⟩:=f.2.2.2.2.2 y G;grind);have j:lnB (.arr true e (bA rows i g))=lns s1.sto b:=by grind [iB,lnB,bA]
 refine⟨⟨gY,ws++[(b,.arr true e.sz ((bA rows i g).map (cel e)))]⟩,_,?_,?_,J⟩;simp only[kQ,mO,mK,fF,iR,dY,eA,n,cM,JC,aX,iB n,eC,if_true,iO,w,run_bind,h1,eN,q,and_self,B,JV,List.map_set,bA];rw[<-JQk (lns (wS b (.arr true e (bA rows i g)) s1).sto)];refine mV ?_ d uv;rw[wJ j,f.2.2.1,fG];rfl;cases h;cases h
def tpv:List (Nat×Ty×TO)->TSt->Option (List (Nat×(w:Ty)×w.D))
 |[],_=>some []
 |(off,w,o)::r,s=>match tev o s with
  |some v=>match tdv w v with
   |some z=>if agv v=true\/w.sz=1 then
    match tpv r s with
    |some l=>some ((off,⟨w,z⟩)::l)
    |none=>none
    else none
   |none=>none
  |none=>none
def QC(t:Ty):t.D->List (Nat×(w:Ty)×w.D)->(t.D->Option R)->Option R|x,[],k=>k x|x,(off,⟨w,z⟩)::r,k=>pst t x off [] w z λe=>QC t e r k
def tpc:List (Nat×Ty×TO)->TSt->Option (List (Nat×Nat×List TC))
 |[],_=>some []
 |(off,w,o)::r,s=>match tev o s with
  |some v=>match tcs v with
   |some l=>match tpc r s with|some q=>some ((off,w.sz,l)::q)|none=>none
   |none=>none
  |none=>none
def IL:List (Nat×Nat×List TC)->List TC->Option (List TC)
 |[],cs=>some cs
 |(off,n,c)::r,cs=>if c.length=n then
  match spl cs off c with
  |some cs'=>IL r cs'
  |none=>none
  else none
def erP(parts:List (Nat×Ty×TO)):List (Nat×Nat×Opd):=parts.map λx=>(x.1,x.2.1.sz,erO x.2.2)
theorem r8{s:TSt}: ∀{parts:List (Nat×Ty×TO)} {l:List (Nat×Nat×List TC)},tpc parts s=some l->
  (kT (erP parts)).run (JD s)=some (l.map λx=>(x.1,x.2.1,x.2.2.map (aZ (lns s.sto))))
 |[],l,h=>by injection h with h;subst h;rfl
 |(off,w,o)::r,l,h=>by
  simp only[tpc]at h;split at h;rename_i v g;split at h;rename_i c hc;split at h;rename_i q e;injection h with h;subst h;have ih:=r8 e;simp only[erP,bZ,kT,run_bind,bP g,JC,KU (lns s.sto) hc];simp_all [erP];cases h;cases h;cases h
theorem Iz{s:TSt}: ∀{parts:List (Nat×Ty×TO)} {l:List (Nat×(w:Ty)×w.D)},tpv parts s=some l->
  (kT (erP parts)).run (JD s)=some (l.map λx=>(x.1,x.2.1.sz,(cel x.2.1 x.2.2).map .p))
 |[],l,h=>by injection h with h;subst h;rfl
 |(off,w,o)::r,l,h=>by
  simp only[tpv]at h;split at h;rename_i v g;split at h;rename_i z k;split at h;rename_i j;split at h;rename_i q e;injection h with h;subst h;have ih:=Iz e;simp only[erP,bZ,kT,run_bind,bP g,JC,jp (lns s.sto) k j];simp_all [erP];cases h;cases h;cases h;cases h
theorem uz{t:Ty}: ∀{l:List (Nat×(w:Ty)×w.D)} {x:t.D} {k:t.D->Option R} {r:R},QC t x l k=some r->
  ∃y,qN (l.map λx=>(x.1,x.2.1.sz,(cel x.2.1 x.2.2).map .p)) ((cel t x).map .p)=some ((cel t y).map .p)/\k y=some r
 |[],x,k,r,h=>⟨x,rfl,h⟩
 |(off,⟨w,z⟩)::q,x,k,r,h=>by
  simp only[QC]at h;obtain⟨e,h1,h2⟩:=AH h;obtain⟨y,j,g⟩:=uz h2;grind [qN,eN,FU,spo]
theorem il(L:Nat->Nat): ∀{l:List (Nat×Nat×List TC)} {cs cs':List TC},IL l cs=some cs'->
  qN (l.map λx=>(x.1,x.2.1,x.2.2.map (aZ L))) (cs.map (aZ L))=some (cs'.map (aZ L))
 |[],cs,cs',h=>by injection h with h;subst h;rfl
 |(off,n,c)::q,cs,cs',h=>by
  simp only[IL]at h;split at h;rename_i e;split at h;rename_i g hs;simp only[bZ,qN,eC,e,if_true,FU,hs,cM];exact il L h;cases h;cases h
def si(t:Ty)(parts:List (Nat×Ty×TO))(d:Option Nat)(s:TSt)(k:TSt->Option R):Option R:=
 match tpv parts s with
 |some l=>QC t t.zero l λy=>k (bE d (.a (.dt t y)) s)
 |none=>match tpc parts s with
  |some l=>match IL l (zcs t)with
   |some cs'=>match mka true t cs' with|some v=>k (bE d v s)|none=>none
   |none=>none
  |none=>none
theorem JIO(F:Orc)(new:Nat){t:Ty}{parts:List (Nat×Ty×TO)}{d:Option Nat}{s:TSt}{k:TSt->Option R}{r:R}(h:si t parts d s k=some r):Ok (opR F (.build (cel t t.zero) (erP parts)) new) d s k r:=by
 unfold si at h;split at h;rename_i l e;obtain⟨y,h1,h2⟩:=uz h;refine fQ (v:=.a (.dt t y)) ?_ h2;simp only[opR,run_bind,Iz e,JC,h1,yn,val,JV];rfl;split at h;rename_i l e;split at h;rename_i cs' hf;split at h;rename_i v g;refine fQ (v:=v) ?_ h;simp only[opR,run_bind,r8 e,JC,<-FE (lns s.sto) t,il (lns s.sto) hf,FD (lns s.sto) g,val,JV];cases h;cases h;cases h
def sj(agg:Bool)(off:Nat)(t:Ty)(v:TV)(d:Option Nat)(s:TSt)(k:TSt->Option R):Option R:=
 if agg=true\/t.sz=1 then
  match v with
  | .a (.dt e x)=>prt e x off [] t λy=>k (bE d (mkv agg t y) s)
  | .a (.m _ cs)=>match sub cs off t.sz with
   |some l=>match mka agg t l with|some v=>k (bE d v s)|none=>none
   |none=>none
  |_=>none
 else none
theorem JIm{agg:Bool}{off:Nat}{t:Ty}{v:TV}{d:Option Nat}{s:TSt}{k:TSt->Option R}{r:R}(h:sj agg off t v d s k=some r):Ok (val (rU agg off t.sz (JX (lns s.sto) v))) d s k r:=by
 unfold sj at h;split at h;rename_i n;split at h;rename_i e x;obtain⟨y,h1,h2⟩:=wZ h;refine fQ (v:=mkv agg t y) ?_ h2;grind [spo,n5,rU,EY,val,JV];rename_i cs;split at h;rename_i l g;split at h;rename_i v j;refine fQ (v:=v) ?_ h;grind [e_m,rU,FW,FD,val,JV];cases h;cases h;cases h;cases h
end
end Go.Am
end
section
namespace Go.Am
section
variable {R:Type}
theorem fw{α:Type} [BEq α] [LawfulBEq α] [DecidableEq α](x y:α):(x==y)=decide (x=y):=by
 grind
def Vl(m:Option AV)(s:TSt)(kk:TV->Option R)(r:R):Prop:= ∃v,m=some (JX (lns s.sto) v)/\kk v=some r
theorem Vl.ok{m:Option AV}{d:Option Nat}{s:TSt}{k:TSt->Option R}{r:R}(h:Vl m s (λv=>k (bE d v s)) r):Ok (val m) d s k r:=by obtain⟨v,h1,h2⟩:=h;refine fQ (v:=v) ?_ h2;rw[h1];rfl
def ns(op:BinOp)(k:IntKind)(a c:Int)(kk:TV->Option R):Option R:=
 match op with
 | .add=>kk (vi k (J1 k a c))
 | .sub=>kk (vi k (Jm k a c))
 | .mul=>kk (vi k (cA k a c))
 | .quo=>(Hc k a c).bind λq=>kk (vi k q)
 | .rem=>(vS a c).bind λq=>kk (vi k q)
 | .and=>kk (vi k (kJ k a c))
 | .or=>kk (vi k (orI k a c))
 | .xor=>kk (vi k (eY k a c))
 | .eql=>kk (vb (aK a c))
 | .neq=>kk (vb (aN a c))
 | .lss=>kk (vb (aL a c))
 | .leq=>kk (vb (aV a c))
 | .gtr=>kk (vb (aO a c))
 | .geq=>kk (vb (aP a c))
 |_=>none
def pg(op:BinOp)(a c:List UInt8)(kk:TV->Option R):Option R:=
 match op with
 | .add=>(cF a c).bind λq=>kk (vs q)
 | .eql=>kk (vb (eqS a c))
 | .neq=>kk (vb (neS a c))
 | .lss=>kk (vb (ltS a c))
 | .leq=>kk (vb (leS a c))
 | .gtr=>kk (vb (gtS a c))
 | .geq=>kk (vb (geS a c))
 |_=>none
inductive TBT where|plain|bool|flat (t:Ty)|nilp|nilf
def erT:TBT->BT| .plain=>.plain| .bool=>.bool| .flat t=>.flat (t.ks.getD [])| .nilp=>.nilp| .nilf=>.nilf
def oE(op:BinOp)(x:Bool)(kk:TV->Option R):Option R:=
 match op with
 | .eql=>kk (vb x)
 | .neq=>kk (vb (Jj x))
 |_=>none
def n9(op:BinOp)(bt:TBT)(x y:TV)(kk:TV->Option R):Option R:=
 match bt with
 | .plain=>match x,y with
  | .a (.c (.d (.i k) a)),.a (.c (.d (.i j) c))=>match op with| .shl=>(pK k a c).bind λq=>kk (vi k q)| .shr=>(iM k a c).bind λq=>kk (vi k q)|_=>if k=j then ns op k a c kk else none
  | .a (.c (.d .s a)),.a (.c (.d .s c))=>pg op a c kk
  |_,_=>none
 | .bool=>match x,y with| .a (.c (.d .b a)),.a (.c (.d .b c))=>oE op (eqB a c) kk|_,_=>none
 | .flat t=>match x,y with| .a (.dt g a),.a (.dt e c)=>if h:g=t/\e=t/\t.ks.isSome=true then oE op (eqT t (h.1▸a) (h.2.1▸c)) kk else none|_,_=>none
 | .nilp=>match x with| .a (.c .np)=>oE op true kk| .a (.c (.ptr _ _))=>oE op false kk| .a (.c (.cp _ _ _))=>oE op false kk| .a (.c (.ep _ _ _))=>oE op false kk|_=>none
 | .nilf=>match x with| .a (.c .nf)=>oE op true kk| .a (.fn _ _ _)=>oE op false kk| .a (.c (.fn _))=>oE op false kk| .a (.c (.d .f _))=>oE op true kk|_=>none
theorem RV{op:BinOp}{x:Bool}{s:TSt}{kk:TV->Option R}{r:R}(h:oE op x kk=some r):Vl (jP op (some x)) s kk r:=by
 unfold oE at h;split at h;exact⟨_,rfl,h⟩;exact⟨_,rfl,h⟩;cases h
theorem JMj{op:BinOp}{k:IntKind}{a c:Int}{s:TSt}{kk:TV->Option R}{r:R}(h:ns op k a c kk=some r):Vl ((yL op k a c).map .p) s kk r:=by
 unfold ns at h;split at h<;>first
  |exact⟨_,rfl,h⟩
  |(obtain⟨q,h1,h⟩:=bR.1 h
    refine⟨_,?_,h⟩
    first|unfold Hc at h1|unfold vS at h1
    split at h1;cases h1;rename_i e;injection h1 with h1;simp only[yL,if_neg e,h1,cM,e_i])
  |(refine⟨_,?_,h⟩;simp only[yL,fw,cM,e_b,bne,aK,aN,aL,aV,aO,aP];done)
  |cases h
theorem JO0{op:BinOp}{a c:List UInt8}{s:TSt}{kk:TV->Option R}{r:R}(h:pg op a c kk=some r):Vl ((yQ op a c).map .p) s kk r:=by
 unfold pg at h;split at h<;>first
  |(obtain⟨q,h1,h⟩:=bR.1 h
    refine⟨_,?_,h⟩;unfold cF at h1;split at h1;rename_i e;injection h1 with h1;simp only[yQ,if_pos e,h1,cM,e_s];cases h1)
  |(refine⟨_,?_,h⟩;simp only[yQ,fw,cM,e_b,eqS,neS,ltS,leS,gtS,geS];done)
  |cases h
theorem JNm{op:BinOp}{bt:TBT}{x y:TV}{s:TSt}{kk:TV->Option R}{r:R}(h:n9 op bt x y kk=some r):Vl (oB op (erT bt) (JX (lns s.sto) x) (JX (lns s.sto) y)) s kk r:=by
 unfold n9 at h;split at h;split at h;rename_i k a g c;simp only[e_i,erT,oB];split at h;obtain⟨q,h1,h⟩:=bR.1 h;unfold pK at h1;split at h1;cases h1;rename_i e;injection h1 with h1;exact⟨_,by simp_all [e_i],h⟩;obtain⟨q,h1,h⟩:=bR.1 h;unfold iM at h1;split at h1;cases h1;rename_i e;injection h1 with h1;exact⟨_,by simp_all [e_i],h⟩;grind [JMj];exact JO0 h;cases h;split at h;rename_i a c;simp only[e_b,erT,oB,fw];exact RV h;cases h;grind [Option.isSome_iff_exists,n5,erT,oB,RR,RV];split at h<;>first|exact RV h|cases h
 split at h<;>first|exact RV h|cases h
def tUn(op:UnOp)(x:TV)(kk:TV->Option R):Option R:=
 match op,x with
 | .neg,.a (.c (.d (.i k) n))=>kk (vi k (JRK k n))
 | .xor,.a (.c (.d (.i k) n))=>kk (vi k (IC k n))
 | .not,.a (.c (.d .b x))=>kk (vb (Jj x))
 |_,_=>none
theorem JQ0{op:UnOp}{x:TV}{s:TSt}{kk:TV->Option R}{r:R}(h:tUn op x kk=some r):Vl (unP op (JX (lns s.sto) x)) s kk r:=by unfold tUn at h;split at h<;>first|exact⟨_,rfl,h⟩|cases h
def tMm(mx:Bool)(x y:TV)(kk:TV->Option R):Option R:=
 match x,y with
 | .a (.c (.d (.i k) a)),.a (.c (.d (.i _) c))=>kk (vi k (if mx=true then cR a c else iW a c))
 |_,_=>none
theorem JQv{mx:Bool}{x y:TV}{s:TSt}{kk:TV->Option R}{r:R}(h:tMm mx x y kk=some r):Vl (mmP mx (JX (lns s.sto) x) (JX (lns s.sto) y)) s kk r:=by
 unfold tMm at h;split at h;exact⟨_,by cases mx<;>rfl,h⟩;cases h
def tls(t:Ty)(v:TV)(s:TSt):Option (List t.D):=
 match v with
 | .a (.c (.d (.l t') l))=>if h:t'=t then some (h▸l)else none
 | .a (.c (.d .s l))=>if h:t=.i .u8 then some (h▸(aR l:List (Ty.i .u8).D))else none
 | .a (.c (.slr b))=>match s.sto[b]? with|some (.arr _ t' rows)=>if h:t'=t then some (h▸rows)else none|_=>none
 | .a (.c (.suf b i))=>match s.sto[b]? with|some (.arr _ t' rows)=>if h:t'=t then some (h▸rows.drop i)else none|_=>none
 |_=>none
theorem eh{t:Ty}{v:TV}{s:TSt}{l:List t.D}(h:tls t v s=some l):(gA t.sz (JX (lns s.sto) v)).run (JD s)=some (l.map (cel t)):=by
 unfold tls at h;split at h;grind [e_l,gA,JV];split at h;rename_i g;subst g;injection h with h;subst h;simp only[e_s,gA,Ty.sz,if_true,JV,gp];rfl;cases h;rename_i b;split at h;rename_i w t' rows hb;split at h;rename_i g;subst g;injection h with h;subst h;simp only[fF,gA,dY,eA,hb,cM,JC,aX,iB hb,eC,pM,and_self,if_true,JV,DM];cases h;cases h;rename_i b i;split at h;rename_i w t' rows hb;split at h;rename_i g;subst g;injection h with h;subst h;have e:JX (lns s.sto) (.a (.c (.suf b i)))=.slr b (min i (lns s.sto b)) (lns s.sto b-i):=rfl;have k:min i rows.length+(rows.length-i)=rows.length:=by omega
 have j:(rows.map (cel t')).drop (min i rows.length)=(rows.map (cel t')).drop i:=(by rcases Nat.le_total i rows.length with h|h;rw[Nat.min_eq_left h];rw[Nat.min_eq_right h,List.drop_of_length_le (by simp),List.drop_of_length_le (by simpa using h)]);simp only[e,gA,dY,eA,hb,cM,JC,aX,iB hb,eC,k,and_self,if_true,JV,j,List.map_drop];cases h;cases h;cases h
def qt(k:CK)(x:TV)(d:Option Nat)(new:Nat)(s:TSt)(kk:TSt->Option R):Option R:=
 match k with
 | .int k=>match x with| .a (.c (.d (.i _) n))=>kk (bE d (vi k (aU k n)) s)|_=>none
 | .same=>match x with| .a (.c (.d .s l))=>kk (bE d (vs l) s)|_=>none
 | .toStr=>match tls (.i .u8) x s with|some l=>kk (bE d (vs (toStr l)) s)|none=>none
 | .toBytes own=>match x with| .a (.c (.d .s l))=>if own=true then kk (bE d (.a (.c (.slr new))) (wN new (.arr true (.i .u8) (aR l)) s))else kk (bE d (vl (.i .u8) (aR l)) s)|_=>none
theorem JKz(F:Orc){k:CK}{x:TO}{v:TV}{d:Option Nat}{new:Nat}{s:TSt}{kk:TSt->Option R}{r:R}(hx:tev x s=some v)(hn:k=.toBytes true->new<s.sto.length)(h:qt k v d new s kk=some r):Ok (opR F (.conv k (erO x)) new) d s kk r:=by
 unfold qt at h;split at h;split at h;refine fQ (v:=vi _ _) ?_ h;simp only[opR,run_bind,bP hx,JC,e_i,JV,aU];cases h;split at h;refine fQ (v:=vs _) ?_ h;grind [opR,run_bind,bP,e_s,JV];cases h;split at h;rename_i l j;refine fQ (v:=vs _) ?_ h;have:=eh j;have e:l.map (cel (.i .u8))=l.map (r_i .u8):=rfl;rw[e]at this;simp only[opR,run_bind,bP hx,JC,this,ke,e_s,JV,Ty.sz];rw[show(gA 1 (JX (lns s.sto) v)).run (JD s)=some (l.map (r_i .u8))from this];simp[ke];cases h;rename_i own;split at h;rename_i l;split at h;rename_i g;subst g;refine pm (x:=.arr true (.i .u8) (aR l)) (v:=.a (.c (.slr new))) ?_ h;simp only[opR,run_bind,bP hx,JC,e_s,if_true,JV,fF,aX,gp];have e:lns (wN new (TB.arr true (Ty.i IntKind.u8) (aR l)) s).sto new=l.length:=(by grind [wN,rn,lnB,aR]);rw[e];rfl;rename_i g;have:own=false:=by simpa using g
 subst this;refine fQ (v:=vl _ _) ?_ h;simp only[opR,run_bind,bP hx,JC,e_s,eQ,if_false,JV,e_l,gp];rfl;cases h
end
end Go.Am
end
section
namespace Go.Am
section
variable {R:Type}
theorem Ly(p q:List Sp):spo (p++q)=spo p+spo q:=by
 induction p with
 |nil=>simp[spo]
 |cons x p ih=>cases x<;>simp only[rK,spo,ih]<;>omega
def d7(off:Nat)(x:TV)(kk:TV->Option R):Option R:=
 match x with
 | .a (.c (.ptr b p))=>kk (.a (.c (.ptr b (p++[.f off]))))
 | .a (.c (.cp t x p))=>kk (.a (.c (.cp t x (p++[.f off]))))
 | .a (.c (.ep b i p))=>kk (.a (.c (.ep b i (p++[.f off]))))
 |_=>none
theorem JIB{off:Nat}{x:TV}{s:TSt}{kk:TV->Option R}{r:R}(h:d7 off x kk=some r):Vl (KQ off (JX (lns s.sto) x)) s kk r:=by
 unfold d7 at h;split at h<;>first
  |(refine⟨_,?_,h⟩;simp only[kQ,mO,mK,KQ,Ly,spo,vH];done)
  |cases h
def d9(len esz:Nat)(x i:TV)(kk:TV->Option R):Option R:=
 match i with
 | .a (.c (.d (.i _) n))=>(aW len n).bind λ_=>match x with| .a (.c (.ptr b p))=>kk (.a (.c (.ptr b (p++[.a n.toNat esz]))))| .a (.c (.cp t x p))=>kk (.a (.c (.cp t x (p++[.a n.toNat esz]))))| .a (.c (.ep b i p))=>kk (.a (.c (.ep b i (p++[.a n.toNat esz]))))|_=>none
 |_=>none
theorem JIS{len esz:Nat}{x i:TV}{s:TSt}{kk:TV->Option R}{r:R}(h:d9 len esz x i kk=some r):Vl (KP len esz (JX (lns s.sto) x) (JX (lns s.sto) i)) s kk r:=by
 unfold d9 at h;split at h;obtain⟨_,h1,h⟩:=bR.1 h;have e:=Le h1;split at h<;>first
  |(refine⟨_,?_,h⟩;simp only[kQ,mO,mK,e_i,KP,if_pos e,Ly,spo,vH];done)
  |cases h
 cases h
def sg(t:Ty)(x i:TV)(s:TSt)(kk:TV->Option R):Option R:=
 match i with
 | .a (.c (.d (.i _) n))=>match x with
  | .a (.c (.d (.l t') l))=>if t'=t then(idx l n).bind λy=>kk (.a (.c (.cp t' y [])))else none
  | .a (.c (.slr b))=>match s.sto[b]? with|some (.arr _ t' rows)=>if t'=t then(aW rows.length n).bind λ_=>kk (.a (.c (.ep b n.toNat [])))else none|_=>none
  |_=>none
 |_=>none
theorem JIg{t:Ty}{x i:TV}{d:Option Nat}{s:TSt}{k:TSt->Option R}{r:R}(h:sg t x i s (λv=>k (bE d v s))=some r):Ok (mY t.sz (JX (lns s.sto) x) (JX (lns s.sto) i)) d s k r:=by
 unfold sg at h;split at h;split at h;split at h;rename_i e;subst e;obtain⟨y,h1,h⟩:=bR.1 h;refine fQ (v:=.a (.c (.cp _ y []))) ?_ h;grind [e_l,e_i,mO,mY,JIb,JV,spo];cases h;rename_i b;split at h;rename_i w t' rows hb;split at h;rename_i e;subst e;obtain⟨_,h1,h⟩:=bR.1 h;have e:=Le h1;refine fQ (v:=.a (.c (.ep b _ []))) ?_ h;simp only[fF,e_i,mK,mY,dY,eA,hb,cM,JC,aX,iB hb,eC,pM,true_and];rw[if_pos e];rfl;cases h;cases h;cases h;cases h
def ra(x i:TV)(kk:TV->Option R):Option R:=
 match x,i with
 | .a (.c (.d .s l)),.a (.c (.d (.i _) n))=>(lM l n).bind λu=>kk (vi .u8 u)
 |_,_=>none
theorem JLW(F:Orc){x i:TO}{g e:TV}{d:Option Nat}{new:Nat}{s:TSt}{k:TSt->Option R}{r:R}(hx:tev x s=some g)(hi:tev i s=some e)(h:ra g e (λv=>k (bE d v s))=some r):Ok (opR F (.sidx (erO x) (erO i)) new) d s k r:=by
 unfold ra at h;split at h
 ·rename_i l o n;obtain⟨u,h1,h⟩:=bR.1 h;refine fQ (v:=vi .u8 u) ?_ h;simp only[opR,run_bind,bP hx,bP hi,JC,e_s,e_i];unfold lM at h1;split at h1
  ·rename_i j;rw[if_pos j];split at h1
   all_goals simp_all
  cases h1
 cases h
def XQ(j:Int)(k:Nat->Option R):Nat->Option R|0=>none|m+1=>if aK j m=true then k m else XQ j k m
theorem Mp{j:Int}{k:Nat->Option R}{r:R}: ∀{n:Nat},XQ j k n=some r-> ∃m,m<n/\j=m/\k m=some r
 |0,h=>by cases h
 |n+1,h=>by
  simp only[XQ]at h;split at h;grind [aK];obtain⟨m,h1,h2,e⟩:=Mp h;grind
def po(agg:Bool)(len:Nat)(t:Ty)(x i:TV)(d:Option Nat)(s:TSt)(k:TSt->Option R):Option R:=
 if agg=true\/t.sz=1 then
  match x,i with
  | .a (.dt (.ar n t') v),.a (.c (.d (.i _) j))=>if h:t'=t/\n=len then(nw v j).bind λy=>k (bE d (mkv agg t (h.1▸y)) s)else none
  | .a (.m _ cs),.a (.c (.d (.i _) j))=>XQ j (λm=>match sub cs (m*t.sz) t.sz with
   |some l=>match mka agg t l with|some v=>k (bE d v s)|none=>none
   |none=>none) len
  |_,_=>none
 else none
theorem JKV(F:Orc){agg:Bool}{len:Nat}{t:Ty}{x i:TO}{o g:TV}{d:Option Nat}{new:Nat}{s:TSt}{k:TSt->Option R}{r:R}(hx:tev x s=some o)(hi:tev i s=some g)(h:po agg len t o g d s k=some r):
  Ok (opR F (.aidx agg len t.sz (erO x) (erO i)) new) d s k r:=by
 unfold po at h;split at h;rename_i D;split at h;rename_i n t' v w j;split at h;rename_i z;obtain⟨rfl,rfl⟩:=z;obtain⟨y,h1,h⟩:=bR.1 h;obtain⟨h2,e⟩:=JJG h1;refine fQ (v:=mkv agg t' y) ?_ h;simp only[opR,run_bind,bP hx,bP hi,JC,n5,e_i,if_pos h2,rU];grind [cel,LB,eN,EY,val,JV];cases h;rename_i C cs w j;obtain⟨m,h1,q,e⟩:=Mp h;clear h;subst q;split at e;rename_i l A;split at e;rename_i v B;refine fQ (v:=v) ?_ e;have h2:(0:Int)<=m/\(m:Int)<len:=by omega
 simp only[opR,run_bind,bP hx,bP hi,JC,e_m,e_i,if_pos h2,rU,Int.toNat_natCast,FW,A,cM,FD (lns s.sto) B,val,JV];cases e;cases e;cases h;cases h
def qu(x:TV)(i:Nat)(kk:TV->Option R):Option R:=
 match x with
 | .tup vs=>match vs[i]? with|some v=>kk (.a v)|none=>none
 |_=>none
theorem JLI{x:TV}{i:Nat}{s:TSt}{kk:TV->Option R}{r:R}(h:qu x i kk=some r):Vl (PQ i (JX (lns s.sto) x)) s kk r:=by
 unfold qu at h;split at h;split at h;rename_i v e;refine⟨_,?_,h⟩;simp_all [JX];cases h;cases h
def pb(str:Bool)(x:TV)(s:TSt)(kk:TV->Option R):Option R:=
 match str,x with
 |true,.a (.c (.d .s l))=>kk (vi .i64 (J0 l))
 |false,.a (.c (.d (.l _) l))=>kk (vi .i64 (J0 l))
 |false,.a (.c (.slr b))=>match s.sto[b]? with|some (.arr _ _ rows)=>kk (vi .i64 (J0 rows))|_=>none
 |false,.a (.c (.slo _ n))=>kk (vi .i64 n)
 |_,_=>none
theorem JMt{str:Bool}{x:TV}{s:TSt}{kk:TV->Option R}{r:R}(h:pb str x s kk=some r):Vl (HZ str (JX (lns s.sto) x)) s kk r:=by
 unfold pb at h;split at h;exact⟨_,rfl,h⟩;exact⟨_,by simp[e_l,e_i,J0],h⟩;split at h;rename_i hb;exact⟨_,by grind [fF,HZ,iB,e_i,J0],h⟩;cases h;exact⟨_,rfl,h⟩;cases h
theorem LR{s:TSt}{new:Nat}(hn:new<s.sto.length){w:Bool}{t:Ty}{rows:List t.D}:lns (wN new (TB.arr w t rows) s).sto new=rows.length:=by unfold wN;rw[rn (by simpa using hn)];rfl
theorem ej{m:RM Eff}{d:Option Nat}{s:TSt}{k:TSt->Option R}{r:R}{new:Nat}{t:Ty}{rows:List t.D}(hn:new<s.sto.length)
  (hm:m.run (JD s)=some ⟨.slr new 0 rows.length,[(new,.arr true t.sz (rows.map (cel t)))]⟩) (h:k (bE d (.a (.c (.slr new))) (wN new (.arr true t rows) s))=some r):Ok m d s k r:=by
 refine pm (x:=.arr true t rows) (v:=.a (.c (.slr new))) ?_ h;rw[hm,fF,LR hn];rfl
def gn(own:Bool)(t:Ty)(bytes:Nat)(l c:TV)(d:Option Nat)(new:Nat)(s:TSt)(k:TSt->Option R):Option R:=
 match l,c with
 | .a (.c (.d (.i _) n)),.a (.c (.d (.i _) m))=>(mkS bytes n m t.zero).bind λrows=>
  if own=true then k (bE d (.a (.c (.slr new))) (wN new (.arr true t rows) s))else k (bE d (vl t rows) s)
 |_,_=>none
theorem JDq(F:Orc){own:Bool}{t:Ty}{bytes:Nat}{l c:TO}{e n:TV}{d:Option Nat}{new:Nat}{s:TSt}{k:TSt->Option R}{r:R}(hl:tev l s=some e)(hc:tev c s=some n)(hn:own=true->new<s.sto.length)
  (h:gn own t bytes e n d new s k=some r):Ok (opR F (.mkslice own t.sz bytes (cel t t.zero) (erO l) (erO c)) new) d s k r:=by
 unfold gn at h;split at h;obtain⟨rows,h1,j⟩:=bR.1 h;obtain⟨h2,rfl⟩:=JNI h1;clear h;split at j;rename_i g;subst g;refine ej (hn rfl) ?_ j;simp only[opR,run_bind,bP hl,bP hc,JC,e_i,if_pos h2,if_true,JV,yV,YN];rename_i g;have:own=false:=by simpa using g
 subst this;refine fQ (v:=vl t _) ?_ j;simp only[opR,run_bind,bP hl,bP hc,JC,e_i,if_pos h2,eQ,if_false,JV,e_l,YN];cases h
def nj(t:Ty)(bytes:Nat)(x y:TV)(d:Option Nat)(s:TSt)(k:TSt->Option R):Option R:=
 match x with
 | .a (.c (.slr b))=>match s.sto[b]? with
  |some (.arr w t' rows)=>if h:t'=t then
   match tls t' y s with
   |some l=>(Js bytes rows l).bind λm=>k (bE d (.a (.c (.slr b))) (wN b (.arr w t' m) s))
   |none=>none
   else none
  |_=>none
 |_=>none
theorem JNY{t:Ty}{bytes:Nat}{x y:TV}{d:Option Nat}{s:TSt}{k:TSt->Option R}{r:R}(h:nj t bytes x y d s k=some r):Ok (jL t.sz bytes (JX (lns s.sto) x) (JX (lns s.sto) y)) d s k r:=by
 unfold nj at h;split at h;rename_i b;split at h;rename_i w t' rows hb;split at h;rename_i g;subst g;split at h;rename_i l j;obtain⟨m,h1,h⟩:=bR.1 h;refine pm (x:=.arr w t' m) (v:=.a (.c (.slr b))) ?_ h;have e:(JD s).sto[b]?=some (.arr w t'.sz (rows.map (cel t'))):=by rw[eA,hb];rfl
 have:=JNt h1 e (eh j);rw[fF,iB hb,this,fF,LR (Jz hb)];rfl;cases h;cases h;cases h;cases h
def qk(t:Ty)(x lo:TV)(d:Option Nat)(s:TSt)(k:TSt->Option R):Option R:=
 match x,lo with
 | .a (.c (.slr b)),.a (.c (.d (.i _) n))=>match s.sto[b]? with|some (.arr _ t' rows)=>if t'=t then(yR n rows.length).bind λj=>k (bE d (.a (.c (.suf b j))) s)else none|_=>none
 |_,_=>none
theorem JLC{t:Ty}{x lo:TV}{d:Option Nat}{s:TSt}{k:TSt->Option R}{r:R}(h:qk t x lo d s k=some r):Ok (tE t.sz (JX (lns s.sto) x) (JX (lns s.sto) lo)) d s k r:=by
 unfold qk at h;split at h;rename_i b q n;split at h;rename_i w t' rows hb;split at h;rename_i ht;subst ht;obtain⟨j,h1,h⟩:=bR.1 h;unfold yR at h1;split at h1;rename_i g;injection h1 with h1;subst h1;refine fQ (v:=.a (.c (.suf b n.toNat))) ?_ h;have e:JX (lns s.sto) (.a (.c (.suf b n.toNat)))=.slr b (min n.toNat (lns s.sto b)) (lns s.sto b-n.toNat):=rfl;have o:min n.toNat rows.length=n.toNat:=Nat.min_eq_left (by omega);simp only[e,fF,e_i,tE,dY,eA,hb,cM,JC,aX,iB hb,eC,pM,true_and,g,and_self,if_true,JV,o];cases h1;cases h;cases h;cases h
def pe(t:Ty)(x hi:TV)(d:Option Nat)(new:Nat)(s:TSt)(k:TSt->Option R):Option R:=
 match x,hi with
 | .a (.c (.slr b)),.a (.c (.d (.i _) n))=>match s.sto[b]? with|some (.arr true t' rows)=>if t'=t then(yP n rows.length).bind λj=>k (bE d (.a (.c (.slr new))) (wN new (.arr true t' (rows.take j)) (wN b (.arr false t' (rows++[t'.zero])) s)))else none|_=>none
 |_,_=>none
theorem JNf{t:Ty}{x hi:TV}{d:Option Nat}{new:Nat}{s:TSt}{k:TSt->Option R}{r:R}(hn:new<s.sto.length)(h:pe t x hi d new s k=some r):Ok (HY t.sz (cel t t.zero) new (JX (lns s.sto) x) (JX (lns s.sto) hi)) d s k r:=by
 unfold pe at h;split at h;rename_i b v n;split at h;rename_i t' rows hb;split at h;rename_i ht;subst ht;obtain⟨j,h1,h⟩:=bR.1 h;unfold yP at h1;split at h1;rename_i o;injection h1 with h1;subst h1;have e:new<(wN b (.arr false t' (rows++[t'.zero])) s).sto.length:=by simpa[wN]using hn
 refine⟨⟨.slr new 0 n.toNat,[(b,.arr false t'.sz ((rows++[t'.zero]).map (cel t'))),(new,.arr true t'.sz ((rows.take n.toNat).map (cel t')))]⟩,_,?_,?_,h⟩;simp only[fF,e_i,HY,dY,eA,hb,cM,JC,aX,iB hb,eC,true_and,o,and_self,if_true,JV];simp[Hk];have g:=ES new (.arr true t' (rows.take n.toNat)) (wN b (.arr false t' (rows++[t'.zero])) s);rw[ES b (.arr false t' (rows++[t'.zero])) s]at g;have q:JX (lns (wN new (.arr true t' (rows.take n.toNat)) (wN b (.arr false t' (rows++[t'.zero])) s)).sto) (.a (.c (.slr new)))=.slr new 0 n.toNat:=by
  rw[fF,LR e,lO]
  congr 1
  omega
 rw[<-q];exact mV g d _;cases h1;cases h;cases h;cases h
def oz(t:Ty)(x:TV)(d:Option Nat)(new:Nat)(s:TSt)(k:TSt->Option R):Option R:=
 match x with
 | .a (.c (.slr b))=>match s.sto[b]? with|some (.arr true t' rows)=>if t'=t then k (bE d (.a (.c (.slr new))) (wN new (.arr true t' rows) (wN b (.arr false t' (rows++[t'.zero])) s)))else none|_=>none
 |_=>none
theorem JNl{t:Ty}{x:TV}{d:Option Nat}{new:Nat}{s:TSt}{k:TSt->Option R}{r:R}(hn:new<s.sto.length)(h:oz t x d new s k=some r):Ok (MU t.sz (cel t t.zero) new (JX (lns s.sto) x)) d s k r:=by
 unfold oz at h;split at h;rename_i b;split at h;rename_i t' rows hb;split at h;rename_i ht;subst ht;have e:new<(wN b (.arr false t' (rows++[t'.zero])) s).sto.length:=by simpa[wN]using hn
 refine⟨⟨.slr new 0 rows.length,[(b,.arr false t'.sz ((rows++[t'.zero]).map (cel t'))),(new,.arr true t'.sz (rows.map (cel t')))]⟩,_,?_,?_,h⟩;simp only[fF,MU,dY,eA,hb,cM,JC,aX,iB hb,eC,and_self,if_true,JV];simp;have g:=ES new (.arr true t' rows) (wN b (.arr false t' (rows++[t'.zero])) s);rw[ES b (.arr false t' (rows++[t'.zero])) s]at g;have j:JX (lns (wN new (.arr true t' rows) (wN b (.arr false t' (rows++[t'.zero])) s)).sto) (.a (.c (.slr new)))=.slr new 0 rows.length:=by rw[fF,LR e]
 rw[<-j];exact mV g d _;cases h;cases h;cases h
def EB(t:Ty)(i:Nat)(l:List t.D):Option (List t.D):=if i<=l.length then some (l.take i++List.replicate (l.length-i) t.zero)else none
def n6(t:Ty)(x:TV)(d:Option Nat)(s:TSt)(k:TSt->Option R):Option R:=
 match x with
 | .a (.c (.suf b i))=>match s.sto[b]? with|some (.arr true t' rows)=>if t'=t then(EB t' i rows).bind λm=>k (bE d (.tup []) (wS b (.arr true t' m) s))else none|_=>none
 |_=>none
theorem JMX{t:Ty}{x:TV}{d:Option Nat}{s:TSt}{k:TSt->Option R}{r:R}(h:n6 t x d s k=some r):Ok (MZ t.sz (cel t t.zero) (JX (lns s.sto) x)) d s k r:=by
 unfold n6 at h;split at h;rename_i b i;split at h;rename_i t' rows hb;split at h;rename_i ht;subst ht;obtain⟨m,h1,h⟩:=bR.1 h;unfold EB at h1;split at h1;rename_i hi;injection h1 with h1;have g:m.length=rows.length:=by rw[<-h1,pU,lO,yV];omega
 have j:=wJ (b:=b) (x:=.arr true t' m) (s:=s) (by rw[iB hb];exact g);refine⟨⟨.tup [],[(b,.arr true t'.sz (m.map (cel t')))]⟩,_,?_,?_,h⟩;have e:JX (lns s.sto) (.a (.c (.suf b i)))=.slr b i (lns s.sto b-i):=(by show AV.slr b (min i (lns s.sto b)) (lns s.sto b-i)=_;rw[iB hb,Nat.min_eq_left hi]);simp only[e,MZ,dY,eA,hb,cM,JC,aX,iB hb,eC,true_and];rw[if_pos (by omega)];simp[JV,<-h1,Hk];exact mV (s1:=wS b (.arr true t' m) s) j d (.tup []);cases h1;cases h;cases h;cases h
def pq(t:Ty)(bytes:Nat)(y:TV)(d:Option Nat)(new:Nat)(s:TSt)(k:TSt->Option R):Option R:=
 match tls t y s with
 |some l=>(bK bytes l).bind λm=>k (bE d (.a (.c (.slr new))) (wN new (.arr true t m) s))
 |none=>none
theorem JK8(F:Orc){t:Ty}{bytes:Nat}{z:List PV}{y:TO}{e:TV}{d:Option Nat}{new:Nat}{s:TSt}{k:TSt->Option R}{r:R}(hy:tev y s=some e)(hn:new<s.sto.length)(h:pq t bytes e d new s k=some r):Ok (opR F (.appn t.sz bytes z (erO y)) new) d s k r:=by
 unfold pq at h;split at h;rename_i l g;obtain⟨m,h1,j⟩:=bR.1 h;obtain⟨h2,rfl⟩:=JJB h1;refine ej hn ?_ j;simp only[opR,run_bind,bP hy,JC,eh g,eC,h2,if_true,JV];cases h
def tbn(x:Option TO)(s:TSt):Option (Option (IntKind×Int)):=
 match x with
 |none=>some none
 |some o=>match tev o s with|some (.a (.c (.d (.i k) n)))=>some (some (k,n))|_=>none
def bv(x:Option (IntKind×Int)):Option AV:=x.map λy=>.p (.i y.1 y.2)
theorem EX{x:Option TO}{s:TSt}{y:Option (IntKind×Int)}(h:tbn x s=some y):(evo (x.map erO)).run (JD s)=some (bv y):=by
 cases x with
 |none=>injection h with h;subst h;rfl
 |some o=>
  simp only[tbn]at h;split at h;rename_i k n e;injection h with h;subst h;simp only[cM,evo,run_bind,bP e,JC,JV,bv,e_i];cases h
theorem JPP(x:Option (IntKind×Int))(top d:Nat):nC (bv x) top d=DO (x.map (·.2)) top d:=by cases x<;>rfl
theorem Kn(n:Nat)(lo hi:Option (IntKind×Int)):nZ n (bv lo) (bv hi)=yW n (lo.map (·.2)) (hi.map (·.2)):=by
 grind [nZ,yW,JPP]
inductive TSK where|str|sl (t:Ty)
def erK:TSK->SK| .str=>.str| .sl t=>.sl t.sz
def ng(t:Ty)(x:TV)(s:TSt)(kk:List t.D->TSt->Option R):Option R:=
 match x with
 | .a (.c (.d (.l t') l))=>if h:t'=t then kk (h▸l) s else none
 | .a (.c (.slr b))=>match s.sto[b]? with|some (.arr _ t' rows)=>if h:t'=t then kk (h▸rows) (wS b (.arr false t' rows) s)else none|_=>none
 |_=>none
theorem JNx{t:Ty}{x:TV}{s:TSt}{kk:List t.D->TSt->Option R}{r:R}(h:ng t x s kk=some r):
  ∃l s' ws,Fzd s s' ws/\kk l s'=some r/\((JX (lns s.sto) x=.p (.sl t.sz (l.map (cel t)))/\ws=[])\/
   ∃b,JX (lns s.sto) x=.slr b 0 l.length/\(fz (.slr b 0 l.length)).run (JD s)=some ([.sl t.sz (l.map (cel t))],ws)):=by
 unfold ng at h;split at h;grind [Fzd.refl,e_l];rename_i b;split at h;rename_i w t' rows hb;split at h;rename_i e;subst e;refine⟨_,_,_,fj hb,h,.inr ⟨b,by rw[fF,iB hb],?_⟩⟩;simp_all [eA,aX];cases h;cases h;cases h
def rf(e:TSK)(x:TV)(lo hi mx:Option (IntKind×Int))(d:Option Nat)(s:TSt)(k:TSt->Option R):Option R:=
 match e with
 | .str=>match x,mx with| .a (.c (.d .s l)),none=>(aT l (lo.map (·.2)) (hi.map (·.2))).bind λq=>k (bE d (vs q) s)|_,_=>none
 | .sl t=>ng t x s λl s1=>match mx with|none=>(aT l (lo.map (·.2)) (hi.map (·.2))).bind λq=>k (bE d (vl t q) s1)|some (_,n)=>match lo,hi with|none,some (_,h)=>if h=l.length/\n=l.length then k (bE d (.a (.c (.sc t l))) s1)else none|_,_=>none
theorem L3{α:Type}{l q:List α}{lo hi:Option Int}(h:aT l lo hi=some q): ∃c,yW l.length lo hi=some c/\q=(l.drop c.1).take (c.2-c.1):=by
 grind [aT]
theorem JIC(F:Orc){n:TSK}{x:TO}{j:TV}{lo hi mx:Option TO}{l g m:Option (IntKind×Int)}{d:Option Nat}{new:Nat}{s:TSt}{k:TSt->Option R}{r:R}(hx:tev x s=some j)(hl:tbn lo s=some l)(hh:tbn hi s=some g)(hm:tbn mx s=some m)
  (h:rf n j l g m d s k=some r):Ok (opR F (.slice (erK n) (erO x) (lo.map erO) (hi.map erO) (mx.map erO)) new) d s k r:=by
 unfold rf at h;split at h;split at h;rename_i z;obtain⟨q,h1,h⟩:=bR.1 h;obtain⟨c,hc,rfl⟩:=L3 h1;refine fQ (v:=vs _) ?_ h;have o:bv none=none:=rfl;simp only[opR,run_bind,bP hx,EX hl,EX hh,EX hm,JC,e_s,erK,o,kU,wU,val,Kn,hc,JV];cases h;rename_i t;obtain⟨y,s1,ws,f,h,B⟩:=JNx h;have e: ∀(res:AV),kU (.sl t.sz) (.p (.sl t.sz (y.map (cel t)))) (bv l) (bv g) (bv m)=some res->
   (opR F (.slice (erK (.sl t)) (erO x) (lo.map erO) (hi.map erO) (mx.map erO)) new).run (JD s)=some ⟨res,ws⟩:=by
  intro res A;simp only[opR,run_bind,bP hx,EX hl,EX hh,EX hm,JC,erK];grind [val,JV,run_bind]
 split at h;obtain⟨q,h2,h⟩:=bR.1 h;obtain⟨c,hc,rfl⟩:=L3 h2;refine rl (v:=vl t _) f (e _ ?_) h;grind [bv,kU,wQ,Kn,e_l,List.map_take,List.map_drop];split at h;split at h;rename_i w;refine rl (v:=.a (.c (.sc t y))) f (e _ ?_) h;simp only[bv,Option.map_none,cM,kU,PO,eC,w,and_self,if_true];rfl;cases h;cases h
end
end Go.Am
end
section
namespace Go.Am
section
variable {R:Type}
def XT(t:Ty):List (Nat×TO)->TSt->TSt->(List (Nat×t.D)->TSt->Option R)->Option R|[],_,s,k=>k [] s|(i,o)::r,s0,s,k=>match tev o s0 with|some v=>tfz t v s λz s'=>XT t r s0 s' λl e=>k ((i,z)::l) e|none=>none
theorem Mk{t:Ty}: ∀{parts:List (Nat×TO)} {s0 s:TSt} {w0:List (Nat×Blk)} {k:List (Nat×t.D)->TSt->Option R} {r:R},Fzd s0 s w0->XT t parts s0 s k=some r->
  ∃l s' ws,(fzs (parts.map λx=>erO x.2)).run (JD s0)=some (l.map λx=>cel t x.2,ws)/\Fzd s0 s' (w0++ws)/\l.map (·.1)=parts.map (·.1)/\k l s'=some r
 |[],s0,s,w0,k,r,f,h=>⟨[],s,[],rfl,by simp_all,rfl,h⟩
 |(i,o)::q,s0,s,w0,k,r,f,h=>by
  simp only[XT]at h;split at h;rename_i v w;obtain⟨z,s1,j,h1,e,h⟩:=Kf f h;obtain⟨l,g,y,h2,A,n,h⟩:=Mk e h;refine⟨(i,z)::l,g,j++y,?_,by simp_all,by simp[n],h⟩;simp only[bZ,fzs,run_bind,bP w,JC,h1,h2,JV];cases h
def RC{α:Type}:List (Nat×α)->List α->Option (List α)|[],rows=>some rows|(i,c)::r,rows=>if i<rows.length then RC r (rows.set i c)else none
theorem vk{t:Ty}: ∀{l:List (Nat×t.D)} {rows rows':List t.D},RC l rows=some rows'->
  AQ t.sz ((l.map (·.1)).zip (l.map λx=>cel t x.2)) (rows.map (cel t))=some (rows'.map (cel t))/\rows'.length=rows.length
 |[],rows,rows',h=>by injection h with h;simp_all
 |(i,c)::q,rows,rows',h=>by
  simp only[RC]at h;split at h;rename_i e;obtain⟨h1,h2⟩:=vk h;simp_all [eN];cases h
def qw(own:Bool)(t:Ty)(n:Nat)(parts:List (Nat×TO))(d:Option Nat)(new:Nat)(s:TSt)(k:TSt->Option R):Option R:=
 XT t parts s s λl s1=>match RC l (List.replicate n t.zero)with|some rows=>if own=true then k (bE d (.a (.c (.slr new))) (wN new (.arr true t rows) s1))else k (bE d (vl t rows) s1)|none=>none
theorem JKm(F:Orc){own:Bool}{t:Ty}{n:Nat}{parts:List (Nat×TO)}{d:Option Nat}{new:Nat}{s:TSt}{k:TSt->Option R}{r:R}(hn:own=true->new<s.sto.length)
  (h:qw own t n parts d new s k=some r):Ok (opR F (.lits own t.sz n (cel t t.zero) (parts.map λx=>(x.1,erO x.2))) new) d s k r:=by
 unfold qw at h;obtain⟨l,s1,ws,h1,f,h2,e⟩:=Mk (Fzd.refl s) h;rw[sW]at f;clear h;split at e;rename_i rows o;obtain⟨j,q⟩:=vk o;rw[yV]at q;rw[YN]at j;have z:(parts.map λx=>(x.1,erO x.2)).map (·.2)=parts.map λx=>erO x.2:=by simp
 have y:(parts.map λx=>(x.1,erO x.2)).map (·.1)=l.map (·.1):=by rw[h2];simp
 split at e;rename_i g;subst g;have w:new<s1.sto.length:=(by have:=congrArg (λst=>st.sto.length) f.2.2.1;grind [JD,AI]);refine⟨⟨JX (lns (wN new (.arr true t rows) s1).sto) (.a (.c (.slr new))),ws++[(new,.arr true t.sz (rows.map (cel t)))]⟩,_,?_,mV ?_ d _,e⟩;grind [fF,LR,opR,run_bind,JV];rw[ES,f.2.2.1,fG];rfl;rename_i g;have:own=false:=by simpa using g
 subst this;refine rl (v:=vl t rows) f ?_ e;grind [opR,run_bind,JV,e_l];cases e
def oI(s:TSt):Nat->Nat->Bool
 |_,0=>true
 |new,k+1=>(match s.sto[new]? with
  |some .dead=>true
  |_=>false)&&oI s (new+1) k
theorem N8{s:TSt}: ∀{k new:Nat},oI s new k=true->(tP new k).run (JD s)=some ()
 |0,_,_=>rfl
 |k+1,new,h=>by
  simp only[oI,aS]at h;obtain⟨h1,h2⟩:=h;split at h1;rename_i hd;simp only[tP,dY,eA,hd,cM,JC,aX];exact N8 h2;cases h1
theorem xE{s:TSt}: ∀{k new:Nat},oI s new k=true-> ∀j,j<k->s.sto[new+j]?=some .dead
 |0,_,_,j,hj=>by omega
 |k+1,new,h,j,hj=>by
  simp only[oI,aS]at h;obtain⟨h1,h2⟩:=h;cases j with
  |zero=>
   grind
  |succ j=>
   have:=xE h2 j (by omega);grind
theorem e9{m:RM Eff}{d:Option Nat}{s:TSt}{k:TSt->Option R}{r:R}{new:Nat}{x:TB}(hd:s.sto[new]?=some .dead)(h0:lnB x=0)
  (hm:m.run (JD s)=some ⟨.ptr new 0,[(new,aX (lns s.sto) x)]⟩) (h:k (bE d (.a (.c (.ptr new []))) (wS new x s))=some r):Ok m d s k r:=by
 refine IN (x:=x) (v:=.a (.c (.ptr new []))) (h0.trans (AR hd).symm) ?_ h;rw[hm];rfl
def Mh(t:Ty)(d:Option Nat)(new:Nat)(s:TSt)(k:TSt->Option R):Option R:=k (bE d (.a (.c (.ptr new []))) (wS new (.box t t.zero) s))
theorem JFZ(F:Orc){t:Ty}{d:Option Nat}{new:Nat}{s:TSt}{k:TSt->Option R}{r:R}(hd:s.sto[new]?=some .dead)(h:Mh t d new s k=some r):Ok (opR F (.newbox (cel t t.zero)) new) d s k r:=
 e9 hd (x:=.box t t.zero) rfl rfl h
def n0(t:Ty)(x:TV)(d:Option Nat)(new:Nat)(s:TSt)(k:TSt->Option R):Option R:=
 match tdv t x with
 |some z=>if agv x=true\/t.sz=1 then k (bE d (.a (.c (.ptr new []))) (wS new (.box t z) s))else none
 |none=>match tcs x with|some cs=>if cs.length=t.sz then k (bE d (.a (.c (.ptr new []))) (wS new (.mbox t cs) s))else none|none=>none
theorem JMv(F:Orc){t:Ty}{x:TO}{v:TV}{d:Option Nat}{new:Nat}{s:TSt}{k:TSt->Option R}{r:R}(hd:s.sto[new]?=some .dead)(hx:tev x s=some v)(h:n0 t v d new s k=some r):Ok (opR F (.box t.sz (erO x)) new) d s k r:=by
 unfold n0 at h;split at h;rename_i z j;split at h;rename_i e;refine e9 hd (x:=.box t z) rfl ?_ h;simp only[opR,run_bind,bP hx,JC,jp (lns s.sto) j e,eC,eN,if_true,JV,aX];cases h;split at h;rename_i cs hc;split at h;rename_i g;refine e9 hd (x:=.mbox t cs) rfl ?_ h;simp only[opR,run_bind,bP hx,JC,KU (lns s.sto) hc,eC,g,if_true,JV,aX];cases h;cases h
def qE:List (Nat×Ty)->Nat->TSt->TSt|[],_,s=>s|(_,t)::r,n,s=>qE r (n+1) (wS n (.arr true t []) s)
def zC:List (Nat×Ty)->Nat->List TC->List TC|[],_,cs=>cs|(off,_)::r,n,cs=>zC r (n+1) (cs.set off (.slr n))
def lN(os:List (Nat×Ty)):List (Nat×Nat):=os.map λx=>(x.1,x.2.sz)
theorem gx: ∀{os:List (Nat×Ty)} {new:Nat} {s:TSt},(∀j,j<os.length->s.sto[new+j]?=some .dead)->
  lns (qE os new s).sto=lns s.sto/\JD (qE os new s)=⟨(JD s).env,upd (hY (lN os) new) (JD s).sto⟩/\(∀b,(∀j,j<os.length->b≠new+j)->(qE os new s).sto[b]?=s.sto[b]?)
 |[],_,s,_=>⟨rfl,rfl,λ_ _=>rfl⟩
 |(off,t)::q,new,s,h=>by
  have hd:s.sto[new]?=some .dead:=h 0 (by simp);have k:lnB (.arr true t [])=lns s.sto new:=(AR hd).symm;have e:=FG k;have g: ∀c,c≠new->(wS new (.arr true t []) s).sto[c]?=s.sto[c]?:=λc hc=>by grind [wS]
  obtain⟨h1,h2,o⟩:=gx (os:=q) (new:=new+1) (s:=wS new (.arr true t []) s) (λj n=>by
   rw[g _ (by omega)];have:=h (j+1) (by simp;omega);grind)
  refine⟨h1.trans e,?_,λb hb=>?_⟩;simp only[qE];rw[h2,wJ k];simp only[lN,bZ,hY];rfl;simp only[qE];rw[o b (λj n=>by have:=hb (j+1) (by simp;omega);omega),g b (by have:=hb 0 (by simp);omega)]
theorem gm{L:Nat->Nat}: ∀{os:List (Nat×Ty)} {new:Nat} {cs:List TC},(∀j,j<os.length->L (new+j)=0)->(zC os new cs).map (aZ L)=mL (lN os) new (cs.map (aZ L))
 |[],_,_,_=>rfl
 |(off,t)::q,new,cs,h=>by
  simp only[zC,lN,bZ,mL];rw[gm (os:=q) (new:=new+1) (λj e=>by have:=h (j+1) (by simp;omega);grind),List.map_set];have:aZ L (.slr new)=.slr new 0 0:=by simp only[aZ];rw[show L new=0 from h 0 (by simp)]
  rw[this];rfl
def ig(t:Ty)(os:List (Nat×Ty))(d:Option Nat)(new:Nat)(s:TSt)(k:TSt->Option R):Option R:=k (bE d (.a (.c (.ptr (new+os.length) []))) (wS (new+os.length) (.mbox t (zC os new (zcs t))) (qE os new s)))
theorem JDo(F:Orc){t:Ty}{os:List (Nat×Ty)}{d:Option Nat}{new:Nat}{s:TSt}{k:TSt->Option R}{r:R}(hd:oI s new (os.length+1)=true)(h:ig t os d new s k=some r):
  Ok (opR F (.newboxo (cel t t.zero) (lN os)) new) d s k r:=by
 unfold ig at h;generalize hc:zcs t=cs at h;have g:=xE hd;obtain⟨h1,h2,q⟩:=gx (os:=os) (new:=new) (s:=s) (λj o=>g j (by omega));have n:lnB (.mbox t (zC os new cs))=lns (qE os new s).sto (new+os.length):=by rw[h1,AR (g os.length (by omega))];rfl
 have e:=FG n;have el:(lN os).length=os.length:=by simp[lN]
 refine⟨⟨JX (lns (wS (new+os.length) (.mbox t (zC os new cs)) (qE os new s)).sto) (.a (.c (.ptr (new+os.length) []))),hY (lN os) new++[(new+os.length,.box (mL (lN os) new ((cel t t.zero).map .p)))]⟩,_,?_,mV ?_ d _,h⟩;simp only[opR,JV,el];rfl;rw[wJ n,h2,fG];simp only[aX];rw[gm (λj o=>by rw[h1];grind [AR]),<-hc,FE];rfl
def gj(t:Ty)(parts:List (Nat×Ty×TO))(os:List (Nat×Ty))(d:Option Nat)(new:Nat)(s:TSt)(k:TSt->Option R):Option R:=
 match tpc parts s with
 |some l=>match IL l (zC os new (zcs t))with
  |some cs'=>match mka true t cs' with|some v=>k (bE d v (qE os new s))|none=>none
  |none=>none
 |none=>none
theorem JFR(F:Orc){t:Ty}{parts:List (Nat×Ty×TO)}{os:List (Nat×Ty)}{d:Option Nat}{new:Nat}{s:TSt}{k:TSt->Option R}{r:R}(hd:oI s new os.length=true)(h:gj t parts os d new s k=some r):
  Ok (opR F (.buildo (cel t t.zero) (erP parts) (lN os)) new) d s k r:=by
 unfold gj at h;split at h;rename_i l q;have e:=xE hd;obtain⟨h1,h2,w⟩:=gx (os:=os) (new:=new) (s:=s) (λj n=>e j (by omega));split at h;rename_i cs' hf;split at h;rename_i v x;refine⟨⟨JX (lns (qE os new s).sto) v,hY (lN os) new⟩,_,?_,mV h2 d _,h⟩;have g:=gm (L:=lns s.sto) (os:=os) (new:=new) (cs:=zcs t) (λj n=>AR (e j (by omega)));rw[FE]at g;have o:=il (lns s.sto) hf;grind [opR,run_bind,r8,FD,JV];cases h;cases h;cases h
def I3(t:Ty)(d:Option Nat)(new:Nat)(s:TSt)(k:TSt->Option R):Option R:=k (bE d (.a (.c (.slr new))) (wN new (.arr true t []) s))
theorem JHY(F:Orc){t:Ty}{x:Opd}{d:Option Nat}{new:Nat}{s:TSt}{k:TSt->Option R}{r:R}(hn:new<s.sto.length)(h:I3 t d new s k=some r):Ok (opR F (.mkarr t.sz x) new) d s k r:=
 ej (rows:=[]) hn rfl h
def tyB:Option TB->Ty|some (.box t _)=>t|some (.mbox t _)=>t|_=>.u
def fy(t:Ty)(x:TV)(d:Option Nat)(new:Nat)(s:TSt)(k:TSt->Option R):Option R:=
 match x with
 | .a (.c (.ptr b p))=>match sX p,(match s.sto[b]? with
   |some (.box e y)=>zE e y
   |some (.mbox _ cs)=>some cs
   |_=>none)with
  |some off,some cs=>match spl cs off [.slr new]with|some cs'=>k (bE d uv (wS b (.mbox (tyB s.sto[b]?) cs') (wS new (.arr true t []) s)))|none=>none
  |_,_=>none
 |_=>none
theorem JFQ(F:Orc){t:Ty}{x:TO}{v:TV}{d:Option Nat}{new:Nat}{s:TSt}{k:TSt->Option R}{r:R}(hd:s.sto[new]?=some .dead)(hx:tev x s=some v)(h:fy t v d new s k=some r):Ok (opR F (.storen t.sz (erO x)) new) d s k r:=by
 unfold fy at h;split at h;rename_i b p;split at h;rename_i off cs B hc;split at h;rename_i cs' hs;have n:lnB (.arr true t [])=lns s.sto new:=(AR hd).symm;have j:b≠new/\lns s.sto b=0/\(JD s).sto[b]?=some (.box (cs.map (aZ (lns s.sto)))):=(by split at hc;rename_i A y hb;refine⟨λe=>?_,RS hb,?_⟩;simp_all;rw[eA,hb,LG _ hc];rfl;rename_i A D hb;injection hc with hc;subst hc;refine⟨λe=>?_,uk hb,?_⟩;simp_all;rw[eA,hb];rfl;cases hc);obtain⟨C,w,hb⟩:=j;have o:=FG n;have g:lnB (.mbox (tyB s.sto[b]?) cs')=lns (wS new (.arr true t []) s).sto b:=by rw[o,w];rfl
 refine⟨⟨JX (lns (wS b (.mbox (tyB s.sto[b]?) cs') (wS new (.arr true t []) s)).sto) uv,(new,.arr true t.sz [])::[(b,.box (cs'.map (aZ (lns s.sto))))]⟩,_,?_,mV ?_ d _,h⟩;have z:aZ (lns s.sto) (.slr new)=.slr new 0 0:=by grind [aZ,AR]
 have q:spl (cs.map (aZ (lns s.sto))) (spo p) [.slr new 0 0]=some (cs'.map (aZ (lns s.sto))):=by rw[<-z,EZ B];have:=FU (aZ (lns s.sto)) cs off [TC.slr new];simp_all
 simp only[opR,run_bind,bP hx,JC,kQ,iR,dY,hb,cellsOf,mI,List.length_nil,pM,if_true,q,JV];rfl;rw[wJ g,wJ n,o];rfl;cases h;cases h;cases h
def qp(c:Bool)(a b:Option TV)(kk:TV->Option R):Option R:=
 match a,b with
 |some (.a (.c (.d t x))),some (.a (.c (.d t' y)))=>if h:t'=t then kk (.a (.c (.d t (JRt c x (h▸y)))))else none
 |some x,some y=>if c=true then kk x else kk y
 |some x,none=>if c=true then kk x else none
 |none,some y=>if c=true then none else kk y
 |none,none=>none
theorem JLF(F:Orc){c a b:TO}{x:Bool}{d:Option Nat}{new:Nat}{s:TSt}{k:TSt->Option R}{r:R}(hc:tev c s=some (vb x))(h:qp x (tev a s) (tev b s) (λv=>k (bE d v s))=some r):Ok (opR F (.pick (erO c) (erO a) (erO b)) new) d s k r:=by
 have e: ∃v,(if x=true then tev a s else tev b s)=some v/\k (bE d v s)=some r:=by
  unfold qp at h;split at h;rename_i t y t' z j hb;split at h;rename_i g;subst g;refine⟨_,?_,h⟩;rw[j,hb];cases x<;>rfl
  cases h
  all_goals grind
 obtain⟨v,h1,h2⟩:=e;refine fQ (v:=v) ?_ h2;simp only[opR,run_bind,bP hc,JC,e_b];grind [run_bind,bP,JV]
def tcl:List TO->TSt->Option (List TC)
 |[],_=>some []
 |o::r,s=>match tev o s with
  |some (.a (.c x))=>match tcl r s with|some l=>some (x::l)|none=>none
  |_=>none
theorem Kb{s:TSt}: ∀{xs:List TO} {l:List TC},tcl xs s=some l->(evs (xs.map erO)).run (JD s)=some (l.map (aZ (lns s.sto)))
 |[],l,h=>by injection h with h;subst h;rfl
 |o::q,l,h=>by
  simp only[tcl]at h;split at h;rename_i x g;split at h;rename_i j e;injection h with h;subst h;simp only[bZ,evs,run_bind,bP g,JC,Kb e,JV];rfl;cases h;cases h
def n7(x:TV)(kk:TV->Option R):Option R:=
 match x with
 | .a (.c (.ptr b p))=>kk (.a (.c (.ptr b p)))
 | .a (.c (.cp t y p))=>kk (.a (.c (.cp t y p)))
 | .a (.c (.ep b i p))=>kk (.a (.c (.ep b i p)))
 | .a (.fn f a c)=>kk (.a (.fn f a c))
 | .a (.c (.fn f))=>kk (.a (.c (.fn f)))
 |_=>none
theorem JMz(F:Orc){x:TO}{v:TV}{d:Option Nat}{new:Nat}{s:TSt}{k:TSt->Option R}{r:R}(hx:tev x s=some v)(h:n7 v (λv=>k (bE d v s))=some r):Ok (opR F (.nilchk (erO x)) new) d s k r:=by
 unfold n7 at h;split at h<;>first
  |(refine fQ (v:=_) ?_ h
    simp only[opR,run_bind,bP hx,JC,kQ,mO,mK,ob,He,JV];done)
  |cases h
end
end Go.Am
end
section
namespace Go.Am
section
variable {R:Type}
def nu(keep:Bool)(v:TV)(s:TSt)(kk:TA->TSt->Option R):Option R:=
 match v with
 | .a x=>if keep=true then kk x s else
  match x with
  | .c (.slr b)=>match s.sto[b]? with|some (.arr _ t' rows)=>kk (.c (.d (.l t') rows)) (wS b (.arr false t' rows) s)|_=>none
  | .c (.slo _ _)=>none
  | .c (.suf _ _)=>none
  | .c (.suo _ _ _)=>none
  | .m t cs=>fzC t cs s λx s'=>kk (.dt t x) s'
  |x=>kk x s
 | .tup _=>none
def IJ:List (TV×Bool)->TSt->(List TA->TSt->Option R)->Option R|[],s,kk=>kk [] s|(v,keep)::r,s,kk=>nu keep v s λx s=>IJ r s λl s=>kk (x::l) s
theorem JNq{keep:Bool}{v:TV}{s0 s:TSt}{w0:List (Nat×Blk)}{kk:TA->TSt->Option R}{r:R}(f:Fzd s0 s w0)(h:nu keep v s kk=some r):
  ∃x s' ws,(if keep=true then RM.ret (JX (lns s0.sto) v,[])else jQ (JX (lns s0.sto) v)).run (JD s0)=some (bO (lns s0.sto) x,ws)/\Fzd s0 s' (w0++ws)/\kk x s'=some r:=by
 unfold nu at h;split at h;rename_i x;split at h;rename_i hk;subst hk;exact⟨x,s,[],rfl,by simp_all,h⟩;rename_i hk;have:keep=false:=by simpa using hk
 subst this;simp only[eQ,if_false];split at h;rename_i b;split at h;rename_i w t' rows hb;obtain⟨w',e⟩:=f.2.2.2.1 b _ rows w hb;refine⟨_,_,[(b,.arr false t'.sz (rows.map (cel t')))],?_,f.trans (fj hb),h⟩;simp only[fF,jQ,fz,run_bind,dY,eA,e,cM,JC,aX,iB e,eC,pM,if_true,DM,JV];rfl;cases h;cases h;cases h;cases h;obtain⟨y,s',ws,h1,h2,g⟩:=LD f h;refine⟨_,s',ws,?_,h2,g⟩;simp only[e_m,jQ,fz,run_bind,h1,JC,JV];rfl;rename_i q z k o j;refine⟨x,s,[],?_,by simp_all,h⟩;cases x with
 |c x=>
  cases x with
  |slr b=>simp_all
  |slo b n=>simp_all
  |suf b i=>simp_all
  |suo b i n=>simp_all
  |_=>rfl
 |m t cs=>simp_all
 |_=>rfl
 cases h
theorem im: ∀{vs:List (TV×Bool)} {s0 s:TSt} {w0:List (Nat×Blk)} {kk:List TA->TSt->Option R} {r:R},Fzd s0 s w0->IJ vs s kk=some r->
  ∃xs s' ws,(fO (vs.map (·.2)) (vs.map λx=>JX (lns s0.sto) x.1)).run (JD s0)=some (xs.map (bO (lns s0.sto)),ws)/\Fzd s0 s' (w0++ws)/\kk xs s'=some r
 |[],s0,s,w0,kk,r,f,h=>⟨[],s,[],rfl,by simp_all,h⟩
 |(v,keep)::q,s0,s,w0,kk,r,f,h=>by simp only[IJ]at h;obtain⟨x,s1,j,h1,e,h⟩:=JNq f h;obtain⟨xs,g,k,h2,n,h⟩:=im e h;refine⟨x::xs,g,j++k,?_,by simp_all,h⟩;cases keep<;>simp_all [fO]
theorem UO: ∀(vs:List AV),fO [] vs=kL vs|[]=>rfl|x::r=>by simp only[fO,kL,UO r]
theorem MT: ∀(m:List Bool) (vs:List AV),(∀x∈m,x=false)->fO m vs=kL vs|[],vs,_=>UO vs|b::m,[],_=>rfl|b::m,x::r,h=>by have:b=false:=h b (by simp);subst this;simp only[fO,kL,MT m r (λx e=>h x (by simp[e]))]
def HP(b:Nat)(l:List Nat):List Nat:=if l.any (λx=>x==b)=true then l else l++[b]
def QA(x:TC)(l:List Nat):Option (List Nat):=
 match x with
 | .ptr b _=>some (HP b l)
 | .slr b=>some (HP b l)
 | .slo b _=>some (HP b l)
 | .ep _ _ _=>none
 | .epo _ _ _ _=>none
 | .suf _ _=>none
 | .suo _ _ _=>none
 |_=>some l
def vU:List TC->List Nat->Option (List Nat)|[],l=>some l|x::r,l=>match QA x l with|some l=>vU r l|none=>none
def q9(x:TA)(l:List Nat):Option (List Nat):=
 match x with
 | .c x=>QA x l
 | .dt _ _=>some l
 | .m _ cs=>vU cs l
 | .fn _ a c=>match vU a l with|some l=>vU c l|none=>none
def FC:List TA->List Nat->Option (List Nat)|[],l=>some l|x::r,l=>match q9 x l with|some l=>FC r l|none=>none
def wL(s:TSt):List Nat->List Nat->Option (List Nat)
 |[],acc=>some acc
 |b::r,acc=>match s.sto[b]? with
  |some (.mbox _ cs)=>match vU cs acc with|some acc=>wL s r acc|none=>none
  |some _=>wL s r acc
  |none=>none
theorem JCe(b:Nat)(l:List Nat):wR (.whole b) (l.map .whole)=(HP b l).map .whole:=by
 grind [wR,HP]
section
variable (L:Nat->Nat)
theorem u0{x:TC}{l g:List Nat}(h:QA x l=some g):cP (aZ L x) (l.map .whole)=g.map .whole:=by
 unfold QA at h;split at h<;>first
  |(injection h with h;subst h;simp only[aZ,cP,JCe];done)
  |(cases h;done)
  |skip
 injection h with h;subst h;rename_i q r v w o j k;cases x with
 |ptr b p=>simp_all
 |slr b=>simp_all
 |slo b n=>simp_all
 |ep b i p=>simp_all
 |epo b e i p=>grind
 |suf b i=>grind
 |suo b i n=>grind
 |_=>rfl
theorem MC: ∀{xs:List TC} {l e:List Nat},vU xs l=some e->cP.entsOfL (xs.map (aZ L)) (l.map .whole)=e.map .whole
 |[],l,e,h=>by injection h with h;subst h;rfl
 |x::r,l,e,h=>by
  simp only[vU]at h;split at h;rename_i g h1;simp only[bZ,cP.entsOfL,u0 L h1];exact MC h;cases h
theorem JL2{x:TA}{l e:List Nat}(h:q9 x l=some e):cP (bO L x) (l.map .whole)=e.map .whole:=by
 cases x with
 |c x=>exact u0 L h
 |dt t x=>injection h with h;subst h;rfl
 |m t cs=>exact MC L h
 |fn f a c=>
  simp only[q9]at h;split at h
  all_goals simp_all [bO,MC]
theorem TY: ∀{xs:List TA} {l e:List Nat},FC xs l=some e->cP.entsOfL (xs.map (bO L)) (l.map .whole)=e.map .whole
 |[],l,e,h=>by injection h with h;subst h;rfl
 |x::r,l,e,h=>by
  simp only[FC]at h;split at h;rename_i g h1;simp only[bZ,cP.entsOfL,JL2 L h1];exact TY h;cases h
end
theorem ic{s0 s1:TSt}{ws:List (Nat×Blk)}(f:Fzd s0 s1 ws){b:Nat}{y:TB}(h:s1.sto[b]?=some y):(rL ws b).run (JD s0)=some (aX (lns s0.sto) y):=by
 have h1:(JD s1).sto[b]?=some (aX (lns s0.sto) y):=by rw[eA,h,f.2.1];rfl
 rw[f.2.2.1]at h1;grind [AI,wY,rL,dY,JV]
theorem AS{s0 s1:TSt}{ws:List (Nat×Blk)}(f:Fzd s0 s1 ws): ∀{r acc l:List Nat},wL s1 r acc=some l->(eK ws (r.map .whole) (acc.map .whole)).run (JD s0)=some (l.map .whole)
 |[],acc,l,h=>by injection h with h;subst h;rfl
 |b::r,acc,l,h=>by
  simp only[wL]at h;split at h;rename_i cs hb;split at h;rename_i e g;simp only[bZ,eK,run_bind,ic f hb,JC,aX,MC (lns s0.sto) g];exact AS f h;cases h;rename_i x j hb;simp only[bZ,eK,run_bind,ic f hb,JC];cases x with
  |mbox t cs=>simp_all
  |box t x=>simp only[aX];rw[vg];exact AS f h
  |_=>exact AS f h
  cases h
end
end Go.Am
end
section
namespace Go.Am
def kCs(K:List Nat)(L:Nat->Nat):TC->TC| .slr c=>if K.any (λx=>x==c)=true then .slo c (L c)else .slr c| .ep c i p=>if K.any (λx=>x==c)=true then .epo c (L c) i p else .ep c i p| .pre c k=>if K.any (λx=>x==c)=true then .pro c (L c) k else .pre c k| .suf c i=>if K.any (λx=>x==c)=true then .suo c (min i (L c)) (L c-i)else .suf c i|x=>x
def kAs(K:List Nat)(L:Nat->Nat):TA->TA| .c x=>.c (kCs K L x)| .dt t x=>.dt t x| .m t cs=>.m t (cs.map (kCs K L))| .fn f a c=>.fn f (a.map (kCs K L)) (c.map (kCs K L))
def kVs(K:List Nat)(L:Nat->Nat):TV->TV| .a x=>.a (kAs K L x)| .tup vs=>.tup (vs.map (kAs K L))
def kBs(K:List Nat)(L:Nat->Nat):TB->TB| .mbox t cs=>.mbox t (cs.map (kCs K L))|x=>x
section
variable {K:List Nat} {L L':Nat->Nat} (h: ∀c,K.any (λx=>x==c)=false->L' c=L c)
include h
theorem Ge(x:TC):aZ L' (kCs K L x)=aZ L x:=by cases x<;>grind [kCs,aZ]
theorem H6(xs:List TC):(xs.map (kCs K L)).map (aZ L')=xs.map (aZ L):=by
 grind [List.map_congr_left,Ge]
theorem JRA(x:TA):bO L' (kAs K L x)=bO L x:=by cases x<;>simp only[kAs,bO,Ge h,H6 h]
theorem JRM(x:TV):JX L' (kVs K L x)=JX L x:=by cases x<;>simp only[kVs,JX,JRA h,DW,Function.comp_def]
theorem JRw(x:TB):aX L' (kBs K L x)=aX L x:=by cases x<;>simp only[kBs,aX,H6 h]
end
theorem JNL(K:List Nat)(L:Nat->Nat)(x:TB):lnB (kBs K L x)=lnB x:=by cases x<;>rfl
theorem JNp(sto:List TB)(K:List Nat)(L:Nat->Nat)(c:Nat):lns (sto.map (kBs K L)) c=lns sto c:=by
 unfold lns;rw[iO];cases sto[c]? with
 |none=>rfl
 |some x=>exact JNL K L x
def vG(ws:List (Nat×Bool×TB))(sto:List TB):List TB:=ws.foldl (λσ x=>σ.set x.1 x.2.2) sto
def oF(ws:List (Nat×Bool×TB))(s:TSt):TSt:=
 match ws with
 |[]=>s
 |ws=>
  let K:=(ws.filter λx=> !x.2.1).map (·.1)
  ⟨s.env.map λy=>(y.1,kVs K (lns s.sto) y.2),vG ws (s.sto.map (kBs K (lns s.sto)))⟩
theorem jb: ∀{ws:List (Nat×Bool×TB)} {sto:List TB} {c:Nat},c∉ws.map (·.1)->(vG ws sto)[c]?=sto[c]?|[],_,_,_=>rfl|x::ws,sto,c,h=>by simp only[bZ,cO,not_or]at h;show(vG ws (sto.set x.1 x.2.2))[c]?=_;rw[jb h.2,YR (λe=>h.1 e.symm)]
theorem Lu: ∀{ws:List (Nat×Bool×TB)} {sto:List TB},(ws.map (·.1)).Nodup-> ∀x∈ws,x.1<sto.length->(vG ws sto)[x.1]?=some x.2.2
 |[],_,_,x,e,_=>by cases e
 |y::ws,sto,g,x,e,h=>by
  simp only[bZ,List.nodup_cons]at g;show(vG ws (sto.set y.1 y.2.2))[x.1]?=_;rcases cO.1 e with rfl|e;grind [jb];exact Lu g.2 x e (by simpa using h)
theorem tz(f:TB->Blk): ∀(ws:List (Nat×Bool×TB)) (sto:List TB),(vG ws sto).map f=upd (ws.map λx=>(x.1,f x.2.2)) (sto.map f)
 |[],_=>rfl
 |x::ws,sto=>by show(vG ws (sto.set x.1 x.2.2)).map f=upd (ws.map λx=>(x.1,f x.2.2)) ((sto.map f).set x.1 (f x.2.2));rw[tz f ws,List.map_set]
theorem JNO{ws:List (Nat×Bool×TB)}{s:TSt}(hn:(ws.map (·.1)).Nodup)(hl: ∀x∈ws,x.1<s.sto.length)(hf: ∀x∈ws,x.2.1=true->lnB x.2.2=lns s.sto x.1):
  JD (oF ws s)=⟨(JD s).env,upd (ws.map λx=>(x.1,aX (lns (oF ws s).sto) x.2.2)) (JD s).sto⟩/\ ∀x∈ws,lns (oF ws s).sto x.1=lnB x.2.2:=by
 cases ws with
 |nil=>exact⟨rfl,λx g=>by cases g⟩
 |cons x0 j=>
  generalize k:x0::j=ws at*;have e:oF ws s=⟨s.env.map λy=>(y.1,kVs ((ws.filter λx=> !x.2.1).map (·.1)) (lns s.sto) y.2),vG ws (s.sto.map (kBs ((ws.filter λx=> !x.2.1).map (·.1)) (lns s.sto)))⟩:=by subst k;rfl
  have h: ∀x∈ws,lns (oF ws s).sto x.1=lnB x.2.2:=λx g=>by rw[e];unfold lns;rw[Lu hn x g (by grind)];rfl
  have hk: ∀c,((ws.filter λx=> !x.2.1).map (·.1)).any (λx=>x==c)=false->lns (oF ws s).sto c=lns s.sto c:=(by intro c hc;by_cases n:c∈ws.map (·.1);obtain⟨x,g,rfl⟩:=pO.1 n;grind;rw[e];have:=JNp s.sto ((ws.filter λx=> !x.2.1).map (·.1)) (lns s.sto) c;grind [lns,jb]);refine⟨?_,h⟩;generalize hL:lns (oF ws s).sto=L' at*;unfold JD;rw[hL,e];grind [fX,List.map_congr_left,JRM,tz,JRw]
theorem Lo(b:Nat): ∀(ids:List Nat) (k:Nat),dW (.whole b) (ids.map .whole) k=eZ b ids k
 |[],_=>rfl
 |x::r,k=>by
  simp only[bZ,dW,eZ];by_cases h:x=b;subst h;simp;simp[h,Lo b r (k+1)]
def QF(ids:List Nat):TC->Option TC| .ptr b p=>(eZ b ids 0).bind λk=>some (.ptr k p)| .slr b=>(eZ b ids 0).bind λk=>some (.slr k)| .slo b n=>(eZ b ids 0).bind λk=>some (.slo k n)| .ep _ _ _=>none| .epo _ _ _ _=>none| .pre _ _=>none| .pro _ _ _=>none| .suf _ _=>none| .suo _ _ _=>none|x=>some x
def zM(ids:List Nat):List TC->Option (List TC)|[]=>some []|x::r=>match QF ids x,zM ids r with|some y,some l=>some (y::l)|_,_=>none
def KB(ids:List Nat):TA->Option TA
 | .c x=>match QF ids x with|some y=>some (.c y)|none=>none
 | .dt t x=>some (.dt t x)
 | .m t cs=>match zM ids cs with|some l=>some (.m t l)|none=>none
 | .fn f a c=>match zM ids a,zM ids c with|some a,some c=>some (.fn f a c)|_,_=>none
def RB(ids:List Nat):List TA->Option (List TA)|[]=>some []|x::r=>match KB ids x,RB ids r with|some y,some l=>some (y::l)|_,_=>none
def ri(ids:List Nat):TB->Option TB
 | .box t x=>some (.box t x)
 | .mbox t cs=>match zM ids cs with|some l=>some (.mbox t l)|none=>none
 | .arr w t rows=>some (.arr w t rows)
 | .dead=>none
def xD(ids:List Nat)(s:TSt):List Nat->Option (List TB)
 |[]=>some []
 |b::r=>match s.sto[b]? with
  |some x=>match ri ids x,xD ids s r with|some y,some l=>some (y::l)|_,_=>none
  |none=>none
section
variable {ids:List Nat} {L L':Nat->Nat} (hL: ∀b k,eZ b ids 0=some k->L' k=L b)
include hL
theorem Oa{x y:TC}(h:QF ids x=some y):ren (λe=>dW e (ids.map .whole) 0) (aZ L x)=some (aZ L' y):=by
 cases x<;>simp only[QF]at h<;>first
  |(obtain⟨k,hk,h⟩:=bR.1 h
    injection h with h;subst h;simp only[aZ,ren,Lo,hk,cM]
    try rw[hL _ _ hk]
    done)
  |(injection h with h;subst h;rfl)
  |cases h
theorem SX: ∀{xs g:List TC},zM ids xs=some g->ren.renL (λe=>dW e (ids.map .whole) 0) (xs.map (aZ L))=some (g.map (aZ L'))
 |[],g,h=>by injection h with h;subst h;rfl
 |x::r,g,h=>by
  simp only[zM]at h;split at h;rename_i y l k j;injection h with h;subst h;simp only[bZ,ren.renL,Oa hL k,SX j];cases h
theorem JKL{x y:TA}(h:KB ids x=some y):ren (λe=>dW e (ids.map .whole) 0) (bO L x)=some (bO L' y):=by
 cases x with
 |c x=>
  simp only[KB]at h;split at h;rename_i y g;injection h with h;subst h;exact Oa hL g;cases h
 |dt t x=>injection h with h;subst h;rfl
 |m t cs=>
  grind [KB,bO,ren,SX]
 |fn f a c=>
  grind [KB,bO,ren,SX]
theorem wk: ∀{xs g:List TA},RB ids xs=some g->ren.renL (λe=>dW e (ids.map .whole) 0) (xs.map (bO L))=some (g.map (bO L'))
 |[],g,h=>by injection h with h;subst h;rfl
 |x::r,g,h=>by
  simp only[RB]at h;split at h;rename_i y l k j;injection h with h;subst h;simp only[bZ,ren.renL,JKL hL k,wk j];cases h
theorem xj{s0 s1:TSt}{ws:List (Nat×Blk)}(f:Fzd s0 s1 ws)(j:lns s0.sto=L): ∀{k:List Nat} {bl:List TB},xD ids s1 k=some bl->
  (kX ws (λe=>dW e (ids.map .whole) 0) (k.map .whole)).run (JD s0)=some (bl.map (aX L'))
 |[],bl,h=>by injection h with h;subst h;rfl
 |b::r,bl,h=>by
  simp only[xD]at h;split at h;rename_i x hb;split at h;rename_i y l g o;injection h with h;subst h;have ih:=xj f j o;have n:=ic f hb;rw[j]at n;simp only[bZ,kX,zS,run_bind,n,JC];cases x with
  |dead=>cases g
  |box t x=>injection g with g;grind [wh,ZR,aX,JV]
  |mbox t cs=>
   grind [ri,aX,SX,JV]
  |arr w t rows=>injection g with g;grind [aX,JV]
  cases h;cases h
end
theorem yi{ids:List Nat}{s:TSt}: ∀{g:List Nat} {bl:List TB},xD ids s g=some bl->bl.length=g.length/\ ∀(k b:Nat),g[k]?=some b->lns bl k=lns s.sto b
 |[],bl,h=>by injection h with h;simp_all
 |b::r,bl,h=>by
  simp only[xD]at h;split at h;rename_i x hb;split at h;rename_i y l e j;injection h with h;subst h;obtain⟨h1,h2⟩:=yi j;refine⟨by simp[h1],λk c hk=>?_⟩;cases k with
  |zero=>
   simp at hk;subst hk;unfold lns;rw[hb];show lnB y=lnB x;cases x with
   |dead=>cases e
   |box t x=>injection e with e;subst e;rfl
   |mbox t cs=>
    simp only[ri]at e;split at e;injection e with e;subst e;rfl;cases e
   |arr w t rows=>injection e with e;subst e;rfl
  |succ k=>
   grind [lns]
  cases h;cases h
def fL(ids:List Nat)(new m k:Nat):Option Nat:=if k<ids.length then ids[k]? else if k<m then some (new+(k-ids.length))else none
def YS(ids:List Nat)(new m:Nat):TC->Option TC| .ptr k p=>(fL ids new m k).bind λb=>some (.ptr b p)| .slr k=>(fL ids new m k).bind λb=>some (.slr b)| .slo k n=>(fL ids new m k).bind λb=>some (.slo b n)| .ep k i p=>(fL ids new m k).bind λb=>some (.ep b i p)| .epo k e i p=>(fL ids new m k).bind λb=>some (.epo b e i p)| .pre _ _=>none| .pro _ _ _=>none| .suf _ _=>none| .suo _ _ _=>none|x=>some x
def yT(ids:List Nat)(new m:Nat):List TC->Option (List TC)|[]=>some []|x::r=>match YS ids new m x,yT ids new m r with|some y,some l=>some (y::l)|_,_=>none
def ZI(ids:List Nat)(new m:Nat):TA->Option TA
 | .c x=>match YS ids new m x with|some y=>some (.c y)|none=>none
 | .dt t x=>some (.dt t x)
 | .m t cs=>match yT ids new m cs with|some l=>some (.m t l)|none=>none
 | .fn f a c=>match yT ids new m a,yT ids new m c with|some a,some c=>some (.fn f a c)|_,_=>none
def QU(ids:List Nat)(new m:Nat):List TA->Option (List TA)|[]=>some []|x::r=>match ZI ids new m x,QU ids new m r with|some y,some l=>some (y::l)|_,_=>none
def o5(ids:List Nat)(new m:Nat):TV->Option TV
 | .a x=>match ZI ids new m x with|some y=>some (.a y)|none=>none
 | .tup vs=>match QU ids new m vs with|some l=>some (.tup l)|none=>none
def zG(ids:List Nat)(new m:Nat):TB->Option TB
 | .box t x=>some (.box t x)
 | .mbox t cs=>match yT ids new m cs with|some l=>some (.mbox t l)|none=>none
 | .arr w t rows=>some (.arr w t rows)
 | .dead=>none
section
variable {ids:List Nat} {new m:Nat} {L Lp:Nat->Nat} (hL: ∀k b,fL ids new m k=some b->Lp b=L k)
theorem JQs{k b o:Nat}(h:fL ids new m k=some b):bk (ids.map .whole) new (.ptr k o)=some (.ptr b o):=by
 grind [fL,bk]
theorem JPx{k b i n:Nat}(h:fL ids new m k=some b):bk (ids.map .whole) new (.slr k i n)=some (.slr b i n):=by
 grind [fL,bk]
theorem JQK{k b e i o:Nat}(h:fL ids new m k=some b):bk (ids.map .whole) new (.ep k e i o)=some (.ep b e i o):=by
 grind [fL,bk]
include hL
theorem Mw{x y:TC}(h:YS ids new m x=some y):bk (ids.map .whole) new (aZ L x)=some (aZ Lp y):=by
 cases x<;>simp only[YS]at h<;>first
  |(obtain⟨b,hb,h⟩:=bR.1 h
    injection h with h;subst h;simp only[aZ,JQs hb,JPx hb,JQK hb,hL _ _ hb]
    done)
  |(cases h;done)
  |(injection h with h;subst h;rfl)
theorem SG: ∀{xs e:List TC},yT ids new m xs=some e->bk.bkL (ids.map .whole) new (xs.map (aZ L))=some (e.map (aZ Lp))
 |[],e,h=>by injection h with h;subst h;rfl
 |x::r,e,h=>by
  simp only[yT]at h;split at h;rename_i y l j g;injection h with h;subst h;simp only[bZ,bk.bkL,Mw hL j,SG g];cases h
theorem Nv{x y:TA}(h:ZI ids new m x=some y):bk (ids.map .whole) new (bO L x)=some (bO Lp y):=by cases x<;>grind [ZI,Mw,bO,bk,SG]
theorem N5: ∀{xs e:List TA},QU ids new m xs=some e->bk.bkL (ids.map .whole) new (xs.map (bO L))=some (e.map (bO Lp))
 |[],e,h=>by injection h with h;subst h;rfl
 |x::r,e,h=>by
  simp only[QU]at h;split at h;rename_i y l j g;injection h with h;subst h;simp only[bZ,bk.bkL,Nv hL j,N5 g];cases h
theorem JMp{x y:TV}(h:o5 ids new m x=some y):bk (ids.map .whole) new (JX L x)=some (JX Lp y):=by cases x<;>grind [o5,Nv,JX,bk,N5]
end
end Go.Am
end
section
namespace Go.Am
structure TG where
 go: ∀{R:Type},FuncId->List TA->List TB->(TV->List (Bool×TB)->Option R)->Option R
def pL(out:List (Bool×TB)):Nat->Nat:=lns (out.map (·.2))
structure GOk(F:Orc)(G:TG):Prop where
 ok: ∀{R:Type} {f:FuncId} {xs:List TA} {bl:List TB} {kk:TV->List (Bool×TB)->Option R} {r:R},G.go f xs bl kk=some r->
  ∃v out,F f (xs.map (bO (lns bl))) (bl.map (aX (lns bl)))=some (JX (pL out) v,out.map λx=>aX (pL out) x.2)/\
   (∀(k:Nat) x,out[k]?=some (true,x)->k<bl.length->lnB x=lns bl k)/\kk v out=some r
def pZ(ids:List Nat)(new m:Nat):Nat->List (Bool×TB)->Option (List (Nat×Bool×TB))|_,[]=>some []|k,(s,x)::r=>match fL ids new m k,zG ids new m x,pZ ids new m (k+1) r with|some b,some y,some l=>some ((b,s&&decide (k<ids.length),y)::l)|_,_,_=>none
section
variable {R:Type}
def px(e:Bool)(a b n:Nat):Bool:=if e=true then decide (a<=b/\b<=a+n)else decide (b=a+n)
theorem JIt{e:Bool}{a b n:Nat}(h:px e a b n=true):(if e=true then a<=b/\b<=a+n else b=a+n)/\a<=b/\b<=a+n:=by
 grind [px]
def EC(G:TG)(f:FuncId)(args:List (TV×Bool))(e:Bool)(n:Nat)(d:Option Nat)(new:Nat)(s:TSt)(kk:TSt->Option R):Option R:=
 IJ args s λxs s1=>
 match FC xs []with
 |none=>none
 |some g=>match wL s1 g g with
  |none=>none
  |some i1=>match wL s1 i1 i1 with
   |none=>none
   |some ids=>if jU ids=true then
    match RB ids xs,xD ids s1 ids with
    |some j,some bl=>G.go f j bl λv out=>
     if px e ids.length out.length n=true then
      match o5 ids new out.length v,pZ ids new out.length 0 out with
      |some h,some ws=>if jU (ws.map (·.1))=true then kk (bE d h (oF ws s1))else none
      |_,_=>none
     else none
    |_,_=>none
    else none
theorem Nx{ids:List Nat}{new m:Nat}{x y:TB}(h:zG ids new m x=some y):lnB y=lnB x:=by
 cases x with
 |dead=>cases h
 |box t x=>injection h with h;subst h;rfl
 |mbox t cs=>
  simp only[zG]at h;split at h;injection h with h;subst h;rfl;cases h
 |arr w t rows=>injection h with h;subst h;rfl
theorem u2{ids:List Nat}{new m:Nat}: ∀{k:Nat} {out:List (Bool×TB)} {ws:List (Nat×Bool×TB)},pZ ids new m k out=some ws->
  ws.length=out.length/\ ∀(j:Nat) s x,out[j]?=some (s,x)-> ∃b y,fL ids new m (k+j)=some b/\zG ids new m x=some y/\ws[j]?=some (b,s&&decide (k+j<ids.length),y)
 |k,[],ws,h=>by injection h with h;simp_all
 |k,(s,x)::r,ws,h=>by
  simp only[pZ]at h;split at h;rename_i b y l hb o e;injection h with h;subst h;obtain⟨h1,h2⟩:=u2 e;refine⟨by simp[h1],λj s' g n=>?_⟩;cases j<;>grind
  cases h
theorem JLE{l:List Nat}(h:jU l=true):l.Nodup:=UL h
theorem JDE{ids:List Nat}(h:jU ids=true):jU ((ids.map Ent.whole).map Ent.id)=true:=by rw[DW,show Ent.id∘Ent.whole=id from rfl,List.map_id];exact h
theorem ud{ids:List Nat}{new m:Nat}{L Lp:Nat->Nat}(hL: ∀k b,fL ids new m k=some b->Lp b=L k){ws0:List (Nat×Blk)}{st:St}: ∀{j:Nat} {es:List Nat} {out:List (Bool×TB)} {ws:List (Nat×Bool×TB)},
  (∀(i:Nat) b,es[i]?=some b->ids[j+i]?=some b)->j+es.length=ids.length->es.length<=out.length->pZ ids new m j out=some ws->
  (jD ws0 (ids.map .whole) new (es.map .whole) (out.map λx=>aX L x.2)).run st=some ((ws.take es.length).map λx=>(x.1,aX Lp x.2.2))
 |j,[],out,ws,_,_,_,h=>by simp[jD]
 |j,b::es,[],ws,_,_,hl,h=>by simp at hl
 |j,b::es,(s,x)::out,ws,he,hj,hl,h=>by
  simp only[pZ]at h;split at h;rename_i e y l hb r n;injection h with h;subst h;have ih:=ud hL (ws0:=ws0) (st:=st) (j:=j+1) (es:=es) (out:=out) (ws:=l) (λi c hc=>by
   have:=he (i+1) c (by simpa using hc);grind) (by grind) (by simpa using hl) n
  have g:e=b:=(by have q:=he 0 b (by simp);grind [fL]);subst g;simp only[bZ,jD,run_bind];have o:(tZ ws0 (ids.map .whole) new (.whole e) (aX L x)).run st=some (e,aX Lp y):=by cases x<;>grind [AG,tZ,j3,ZR,JV,zG,LH,SG,r5]
  simp_all;cases h
theorem Og{ids:List Nat}{new m:Nat}{L Lp:Nat->Nat}(hL: ∀k b,fL ids new m k=some b->Lp b=L k): ∀{j:Nat} {out:List (Bool×TB)} {ws:List (Nat×Bool×TB)},
  pZ ids new m (ids.length+j) out=some ws->iC (ids.map .whole) new (new+j) (out.map λx=>aX L x.2)=some (ws.map λx=>(x.1,aX Lp x.2.2))
 |j,[],ws,h=>by injection h with h;subst h;rfl
 |j,(s,x)::out,ws,h=>by
  simp only[pZ]at h;split at h;rename_i o y l hb e n;injection h with h;subst h;have ih:=Og hL (j:=j+1) n;have g:o=new+j:=(by grind [fL]);subst g;cases x with
  |dead=>cases e
  |box t x=>injection e with e;grind [AG,iC,j3,ZR]
  |mbox t cs=>
   grind [zG,LH,iC,SG]
  |arr w t rows=>injection e with e;grind [r5,iC]
  cases h
theorem x5{ids:List Nat}{new m:Nat}: ∀{n k:Nat} {out:List (Bool×TB)} {ws:List (Nat×Bool×TB)},pZ ids new m k out=some ws->pZ ids new m (k+n) (out.drop n)=some (ws.drop n)
 |0,k,out,ws,h=>h
 |n+1,k,[],ws,h=>by injection h with h;subst h;rfl
 |n+1,k,(s,x)::out,ws,h=>by
  simp only[pZ]at h;split at h;rename_i b y l hb g e;injection h with h;subst h;have:=x5 (n:=n) e;grind;cases h
theorem UQ{F:Orc}{G:TG}(hG:GOk F G){f:FuncId}{args:List (TV×Bool)}{A:Bool}{n:Nat}{d:Option Nat}{new:Nat}{s:TSt}{kk:TSt->Option R}{r:R}
  (hd:oI s new n=true) (h:EC G f args A n d new s kk=some r):
  ∃xs ws B es z blks v res E fresh,(fO (args.map (·.2)) (args.map λx=>JX (lns s.sto) x.1)).run (JD s)=some (xs,ws)/\
   (eK ws (cP.entsOfL xs []) (cP.entsOfL xs [])).run (JD s)=some B/\(eK ws B B).run (JD s)=some es/\jU (es.map Ent.id)=true/\
   ren.renL (λe=>dW e es 0) xs=some z/\(kX ws (λe=>dW e es 0) es).run (JD s)=some blks/\F f z blks=some res/\
   (if A=true then es.length<=res.2.length/\res.2.length<=es.length+n else res.2.length=es.length+n)/\bk es new res.1=some v/\iC es new new (res.2.drop es.length)=some fresh/\
   (jD ws es new es res.2).run (JD s)=some E/\ ∃s',put d ⟨v,ws++E++fresh⟩ (JD s)=JD s'/\kk s'=some r:=by
 unfold EC at h;obtain⟨xs,s1,ws,h1,q,h⟩:=im (Fzd.refl s) h;rw[sW]at q;split at h;cases h;rename_i i0 U;split at h;cases h;rename_i i1 Q;split at h;cases h;rename_i ids M;split at h;rename_i W;split at h;rename_i ys bl T L;obtain⟨v,out,hF,a0,h⟩:=hG.ok h;split at h;rename_i hlen;split at h;rename_i O g V o;split at h;rename_i N;have e0:cP.entsOfL (xs.map (bO (lns s.sto))) []=i0.map .whole:=TY (lns s.sto) (l:=[]) U;have e1:=AS q Q;have e2:=AS q M;obtain⟨aj,Y⟩:=yi L;have hL: ∀b k,eZ b ids 0=some k->lns bl k=lns s.sto b:=by intro b k hk;obtain⟨_,hk⟩:=UB hk;rw[Y k b (by simpa using hk),q.2.1]
 have e3:=wk hL T;have e4:=xj hL q rfl L;obtain⟨b1,b2⟩:=u2 o;have a5: ∀(j:Nat),pL out j=match out[j]? with
   |some x=>lnB x.2
   |none=>0:=by
  intro j;unfold pL lns;rw[iO];cases out[j]?<;>rfl
 have P: ∀(k b:Nat),ids[k]?=some b->b<s1.sto.length:=by
  have ak: ∀(C:List Nat) (bl:List TB),xD ids s1 C=some bl-> ∀(k b:Nat),C[k]?=some b->b<s1.sto.length:=by
   intro C
   induction C with
   |nil=>simp_all
   |cons c C ih=>
    grind [xD]
  grind
 have a3:s1.sto.length=s.sto.length:=(by have:=congrArg (λst=>st.sto.length) q.2.2.1;grind [JD,AI]);obtain⟨a2,K,a1⟩:=JIt hlen;have Z:=xE hd;have aa: ∀x∈g,∃(j:Nat) (S:Bool) (y:TB),out[j]?=some (S,y)/\fL ids new out.length j=some x.1/\zG ids new out.length y=some x.2.2/\x.2.1=(S&&decide (j<ids.length)):=by
  intro x hx;obtain⟨j,hj⟩:=jK hx;have w:j<out.length:=by grind
  obtain⟨b,y,q1,q2,I⟩:=b2 j (out[j]'w).1 (out[j]'w).2 (aY w);rw[hj]at I;injection I with I;rw[pM]at q1 I;exact⟨j,_,_,aY w,by simp_all,by simp_all,by rw[I];rfl⟩
 have H: ∀x∈g,x.1<s1.sto.length:=(by grind [fL,Jz]);have J: ∀x∈g,x.2.1=true->lnB x.2.2=lns s1.sto x.1:=(by grind [Nx,fL]);obtain⟨w1,w2⟩:=JNO (JLE N) H J;have D: ∀k b,fL ids new out.length k=some b->lns (oF g s1).sto b=pL out k:=(by grind [fL,Nx]);have e5:=JMp D V;have e6:=ud D (ws0:=ws) (st:=JD s) (j:=0) (es:=ids) (out:=out) (ws:=g) (λi b hb=>by grind) (by omega) K o;have e7:=Og D (j:=0) (out:=out.drop ids.length) (ws:=g.drop ids.length) (by have:=x5 (n:=ids.length) o;grind);rw[vH]at e7;refine⟨xs.map (bO (lns s.sto)),ws,i1.map .whole,ids.map .whole,_,_,JX (lns (oF g s1).sto) O,_,_,(g.drop ids.length).map (λx=>(x.1,aX (lns (oF g s1).sto) x.2.2)),h1,?_,e2,JDE W,e3,e4,hF,?_,e5,?_,e6,bE d O (oF g s1),?_,h⟩;grind;grind;grind [List.map_drop];refine mV ?_ d O;rw[w1,q.2.2.1];simp[fG];cases h;cases h;cases h;cases h;cases h
end
end Go.Am
end
section
namespace Go.Am
inductive TOp where
 |mv (x:TO)
 |mkarr (t:Ty) (x:TO)
 |pick (c a b:TO)
 |newbox (t:Ty)
 |box (t:Ty) (x:TO)
 |build (t:Ty) (parts:List (Nat×Ty×TO))
 |lits (own:Bool) (t:Ty) (n:Nat) (parts:List (Nat×TO))
 |load (agg:Bool) (t:Ty) (x:TO)
 |store (t:Ty) (x v:TO)
 |nilchk (x:TO)
 |bin (op:BinOp) (bt:TBT) (x y:TO)
 |un (op:UnOp) (x:TO)
 |conv (k:CK) (x:TO)
 |mkslice (own:Bool) (t:Ty) (bytes:Nat) (l c:TO)
 |slice (k:TSK) (x:TO) (lo hi mx:Option TO)
 |faddr (off:Nat) (x:TO)
 |field (agg:Bool) (off:Nat) (t:Ty) (x:TO)
 |iaddr (t:Ty) (x i:TO)
 |aaddr (len esz:Nat) (x i:TO)
 |sidx (x i:TO)
 |aidx (agg:Bool) (len:Nat) (t:Ty) (x i:TO)
 |extr (x:TO) (i:Nat)
 |call (f:FuncId) (args:List TO) (k:Nat)
 |callo (f:FuncId) (args:List (TO×Bool)) (k:Nat)
 |callv (g:TO) (args:List TO) (k:Nat)
 |len (str:Bool) (x:TO)
 |app (t:Ty) (bytes:Nat) (x y:TO)
 |appn (t:Ty) (bytes:Nat) (y:TO)
 |mm (mx:Bool) (x y:TO)
 |mkfn (f:FuncId) (first caps:List TO)
 |newboxo (t:Ty) (os:List (Nat×Ty))
 |buildo (t:Ty) (parts:List (Nat×Ty×TO)) (os:List (Nat×Ty))
 |storen (t:Ty) (x:TO)
 |psuf (t:Ty) (x lo:TO)
 |shr (t:Ty) (x hi:TO)
 |clr (t:Ty) (x:TO)
 |mvn (t:Ty) (x:TO)
def zer(t:Ty):List PV:=cel t t.zero
def erp:TOp->AOp
 | .mv x=>.mv (erO x)
 | .mkarr t x=>.mkarr t.sz (erO x)
 | .pick c a b=>.pick (erO c) (erO a) (erO b)
 | .newbox t=>.newbox (zer t)
 | .box t x=>.box t.sz (erO x)
 | .build t parts=>.build (zer t) (erP parts)
 | .lits own t n parts=>.lits own t.sz n (zer t) (parts.map λx=>(x.1,erO x.2))
 | .load agg t x=>.load agg t.sz (erO x)
 | .store t x v=>.store t.sz (erO x) (erO v)
 | .nilchk x=>.nilchk (erO x)
 | .bin op bt x y=>.bin op (erT bt) (erO x) (erO y)
 | .un op x=>.un op (erO x)
 | .conv k x=>.conv k (erO x)
 | .mkslice own t bytes l c=>.mkslice own t.sz bytes (zer t) (erO l) (erO c)
 | .slice k x lo hi mx=>.slice (erK k) (erO x) (lo.map erO) (hi.map erO) (mx.map erO)
 | .faddr off x=>.faddr off (erO x)
 | .field agg off t x=>.field agg off t.sz (erO x)
 | .iaddr t x i=>.iaddr t.sz (erO x) (erO i)
 | .aaddr len esz x i=>.aaddr len esz (erO x) (erO i)
 | .sidx x i=>.sidx (erO x) (erO i)
 | .aidx agg len t x i=>.aidx agg len t.sz (erO x) (erO i)
 | .extr x i=>.extr (erO x) i
 | .call f args k=>.call f (args.map erO) k
 | .callo f args k=>.callo f (args.map (·.2)) (args.map λx=>erO x.1) k
 | .callv g args k=>.callv (erO g) (args.map erO) k
 | .len str x=>.len str (erO x)
 | .app t bytes x y=>.app t.sz bytes (zer t) (erO x) (erO y)
 | .appn t bytes y=>.appn t.sz bytes (zer t) (erO y)
 | .psuf t x y=>.psuf t.sz (erO x) (erO y)
 | .shr t x y=>.shr t.sz (zer t) (erO x) (erO y)
 | .clr t x=>.clr t.sz (zer t) (erO x)
 | .mvn t x=>.mvn t.sz (zer t) (erO x)
 | .mm mx x y=>.mm mx (erO x) (erO y)
 | .mkfn f first caps=>.mkfn f (first.map erO) (caps.map erO)
 | .newboxo t os=>.newboxo (zer t) (lN os)
 | .buildo t parts os=>.buildo (zer t) (erP parts) (lN os)
 | .storen t x=>.storen t.sz (erO x)
def cG:TOp->Nat| .newbox _| .box _ _| .mkarr _ _| .appn _ _ _| .shr _ _ _| .mvn _ _=>1| .lits own _ _ _=>if own=true then 1 else 0| .mkslice own _ _ _ _=>if own=true then 1 else 0| .conv (.toBytes own) _=>if own=true then 1 else 0| .call _ _ k| .callv _ _ k| .callo _ _ k=>k| .newboxo _ os=>os.length+1| .buildo _ _ os=>os.length| .storen _ _=>1|_=>0
theorem LL(op:TOp):mT (erp op)=cG op:=by
 cases op<;>try rfl
 rename_i k x;cases k<;>rfl
 all_goals simp[erp,cG,lN]
def vR:List (TO×Bool)->TSt->Option (List (TV×Bool))|[],_=>some []|(o,x)::r,s=>match tev o s,vR r s with|some v,some l=>some ((v,x)::l)|_,_=>none
theorem AM{s:TSt}: ∀{xs:List (TO×Bool)} {l:List (TV×Bool)},vR xs s=some l->
  (evs (xs.map λx=>erO x.1)).run (JD s)=some (l.map λx=>JX (lns s.sto) x.1)/\l.map (·.2)=xs.map (·.2)
 |[],l,h=>by injection h with h;simp_all
 |(o,x)::q,l,h=>by
  simp only[vR]at h;split at h;rename_i v j e g;injection h with h;subst h;obtain⟨h1,h2⟩:=AM g;exact⟨by simp only[bZ,evs,run_bind,bP e,JC,h1,JV],by simp[h2]⟩;cases h
section
variable {R:Type}
def top(G:TG)(op:TOp)(d:Option Nat)(new:Nat)(s:TSt)(k:TSt->Option R):Option R:=
 match op with
 | .mv x=>match tev x s with|some v=>k (bE d v s)|none=>none
 | .mkarr t _=>I3 t d new s k
 | .pick c a b=>match tev c s with|some (.a (.c (.d .b x)))=>qp x (tev a s) (tev b s) λv=>k (bE d v s)|_=>none
 | .newbox t=>Mh t d new s k
 | .box t x=>match tev x s with|some v=>n0 t v d new s k|none=>none
 | .build t parts=>si t parts d s k
 | .lits own t n parts=>qw own t n parts d new s k
 | .load agg t x=>match tev x s with|some v=>q7 agg t v d s k|none=>none
 | .store t x y=>match tev x s,tev y s with|some v,some u=>sa t v u d s k|_,_=>none
 | .nilchk x=>match tev x s with|some v=>n7 v λv=>k (bE d v s)|none=>none
 | .bin op bt x y=>match tev x s,tev y s with|some v,some u=>n9 op bt v u λv=>k (bE d v s)|_,_=>none
 | .un op x=>match tev x s with|some v=>tUn op v λv=>k (bE d v s)|none=>none
 | .conv c x=>match tev x s with|some v=>qt c v d new s k|none=>none
 | .mkslice own t bytes l c=>match tev l s,tev c s with|some v,some u=>gn own t bytes v u d new s k|_,_=>none
 | .slice e x lo hi mx=>match tev x s,tbn lo s,tbn hi s,tbn mx s with|some v,some a,some b,some c=>rf e v a b c d s k|_,_,_,_=>none
 | .faddr off x=>match tev x s with|some v=>d7 off v λv=>k (bE d v s)|none=>none
 | .field agg off t x=>match tev x s with|some v=>sj agg off t v d s k|none=>none
 | .iaddr t x i=>match tev x s,tev i s with|some v,some u=>sg t v u s λv=>k (bE d v s)|_,_=>none
 | .aaddr len esz x i=>match tev x s,tev i s with|some v,some u=>d9 len esz v u λv=>k (bE d v s)|_,_=>none
 | .sidx x i=>match tev x s,tev i s with|some v,some u=>ra v u λv=>k (bE d v s)|_,_=>none
 | .aidx agg len t x i=>match tev x s,tev i s with|some v,some u=>po agg len t v u d s k|_,_=>none
 | .extr x i=>match tev x s with|some v=>qu v i λv=>k (bE d v s)|none=>none
 | .call f args n=>match vR (args.map λx=>(x,false)) s with|some l=>EC G f l false n d new s k|none=>none
 | .callo f args n=>match vR args s with|some l=>EC G f l true n d new s k|none=>none
 | .callv g args n=>match tev g s,vR (args.map λx=>(x,false)) s with|some (.a (.fn f a c)),some l=>EC G f (a.map (λx=>(.a (.c x),false))++l++c.map (λx=>(.a (.c x),false))) false n d new s k|some (.a (.c (.fn f))),some l=>EC G f l false n d new s k|_,_=>none
 | .len str x=>match tev x s with|some v=>pb str v s λv=>k (bE d v s)|none=>none
 | .app t bytes x y=>match tev x s,tev y s with|some v,some u=>nj t bytes v u d s k|_,_=>none
 | .appn t bytes y=>match tev y s with|some u=>pq t bytes u d new s k|none=>none
 | .mm mx x y=>match tev x s,tev y s with|some v,some u=>tMm mx v u λv=>k (bE d v s)|_,_=>none
 | .mkfn f first caps=>match tcl first s,tcl caps s with|some a,some c=>k (bE d (.a (.fn f a c)) s)|_,_=>none
 | .newboxo t os=>ig t os d new s k
 | .buildo t parts os=>gj t parts os d new s k
 | .storen t x=>match tev x s with|some v=>fy t v d new s k|none=>none
 | .psuf t x y=>match tev x s,tev y s with|some v,some u=>qk t v u d s k|_,_=>none
 | .shr t x y=>match tev x s,tev y s with|some v,some u=>pe t v u d new s k|_,_=>none
 | .clr t x=>match tev x s with|some v=>n6 t v d s k|none=>none
 | .mvn t x=>match tev x s with|some v=>oz t v d new s k|none=>none
theorem iv{F:Orc}{f:FuncId}{vs xs g:List AV}{ws:List (Nat×Blk)}{h es:List Ent}{blks:List Blk}{v:AV}{res:Res}{j fresh:List (Nat×Blk)}{n new:Nat}{st:St}
  (h1:(kL vs).run st=some (xs,ws)) (h2:(eK ws (cP.entsOfL xs []) (cP.entsOfL xs [])).run st=some h) (h3:(eK ws h h).run st=some es) (h4:jU (es.map Ent.id)=true)
  (h5:ren.renL (λe=>dW e es 0) xs=some g) (w:(kX ws (λe=>dW e es 0) es).run st=some blks) (q:F f g blks=some res) (r:res.2.length=es.length+n)
  (x:bk es new res.1=some v) (k:iC es new new (res.2.drop es.length)=some fresh) (o:(jD ws es new es res.2).run st=some j):
  (iQ F f vs n new).run st=some ⟨v,ws++j++fresh⟩:=by
 simp_all [iQ]
theorem JJy{F:Orc}{f:FuncId}{xs g:List AV}{ws:List (Nat×Blk)}{h es:List Ent}{blks:List Blk}{v:AV}{res:Res}{j fresh:List (Nat×Blk)}{n new:Nat}{st:St}
  (h2:(eK ws (cP.entsOfL xs []) (cP.entsOfL xs [])).run st=some h) (h3:(eK ws h h).run st=some es) (h4:jU (es.map Ent.id)=true)
  (h5:ren.renL (λe=>dW e es 0) xs=some g) (w:(kX ws (λe=>dW e es 0) es).run st=some blks) (q:F f g blks=some res) (r:es.length<=res.2.length/\res.2.length<=es.length+n)
  (x:bk es new res.1=some v) (k:iC es new new (res.2.drop es.length)=some fresh) (o:(jD ws es new es res.2).run st=some j):
  (fZ F f (xs,ws) n new).run st=some ⟨v,ws++j++fresh⟩:=by
 simp_all [fZ]
theorem SS(args:List TO):(args.map λx=>(x,false)).map (λx:TO×Bool=>erO x.1)=args.map erO:=by simp_all
theorem JPj{F:Orc}{G:TG}(L:GOk F G){op:TOp}{d:Option Nat}{new:Nat}{s:TSt}{k:TSt->Option R}{r:R}(hd:oI s new (cG op)=true)(h:top G op d new s k=some r):Ok (opR F (erp op) new) d s k r:=by
 have N: ∀j,j<cG op->new+j<s.sto.length:=λj hj=>Jz (xE hd j hj);unfold top at h;split at h;split at h;rename_i x _ v o;refine fQ (v:=v) ?_ h;simp only[erp,opR,run_bind,bP o,JC,JV];cases h;exact JHY F (by simp_all [cG]) h;split at h;rename_i hc;exact JLF F hc h;cases h;exact JFZ F (by have:=xE hd 0 (by simp[cG]);simp_all) h;split at h;rename_i o;exact JMv F (by have:=xE hd 0 (by simp[cG]);simp_all) o h;cases h;exact JIO F new h;rename_i own t n parts;exact JKm F (λho=>by simp_all [cG]) h;split at h;rename_i o;obtain⟨e,s',h1,h2,q⟩:=JLD h;exact⟨e,s',by grind [erp,opR,run_bind,bP],h2,q⟩;cases h;split at h;rename_i o w;obtain⟨e,s',h1,h2,q⟩:=JI1 h;exact⟨e,s',by grind [erp,opR,run_bind,bP],h2,q⟩;cases h;split at h;rename_i o;exact JMz F o h;cases h;split at h;rename_i o w;obtain⟨e,s',h1,h2,q⟩:=(JNm h).ok;exact⟨e,s',by grind [erp,opR,run_bind,bP],h2,q⟩;cases h;split at h;rename_i o;obtain⟨e,s',h1,h2,q⟩:=(JQ0 h).ok;exact⟨e,s',by grind [erp,opR,run_bind,bP],h2,q⟩;cases h;split at h;rename_i o;exact JKz F o (λho=>by simp_all [cG]) h;cases h;split at h;rename_i o w;exact JDq F o w (λho=>by simp_all [cG]) h;cases h;split at h;rename_i h1 h2 q h4;exact JIC F h1 h2 q h4 h;cases h;split at h;rename_i o;obtain⟨e,s',h1,h2,q⟩:=(JIB h).ok;exact⟨e,s',by grind [erp,opR,run_bind,bP],h2,q⟩;cases h;split at h;rename_i o;obtain⟨e,s',h1,h2,q⟩:=JIm h;exact⟨e,s',by grind [erp,opR,run_bind,bP],h2,q⟩;cases h;split at h;rename_i o w;obtain⟨e,s',h1,h2,q⟩:=JIg h;exact⟨e,s',by grind [erp,opR,run_bind,bP],h2,q⟩;cases h;split at h;rename_i o w;obtain⟨e,s',h1,h2,q⟩:=(JIS h).ok;exact⟨e,s',by grind [erp,opR,run_bind,bP],h2,q⟩;cases h;split at h;rename_i o w;exact JLW F o w h;cases h;split at h;rename_i o w;exact JKV F o w h;cases h;split at h;rename_i o;obtain⟨e,s',h1,h2,q⟩:=(JLI h).ok;exact⟨e,s',by grind [erp,opR,run_bind,bP],h2,q⟩;cases h;rename_i f args n;split at h;rename_i l H;obtain⟨C,M⟩:=AM H;rw[SS]at C;obtain⟨xs,ws,I,es,B,blks,v,res,D,fresh,E,Y,W,T,S,Q,P,U,O,K,J,s',A,y⟩:=UQ L hd h;rw[MT _ _ (λx hx=>by simp_all)]at E;refine⟨_,s',?_,A,y⟩;grind [erp,opR,run_bind,iv,cG];cases h;rename_i f args n;split at h;rename_i l H;obtain⟨C,M⟩:=AM H;obtain⟨xs,ws,I,es,B,blks,v,res,D,fresh,E,Y,W,T,S,Q,P,U,O,K,J,s',A,y⟩:=UQ L hd h;rw[M]at E;refine⟨_,s',?_,A,y⟩;simp_all [erp,JJy,cG];cases h;rename_i g args n;split at h;rename_i f a c l V H;obtain⟨C,M⟩:=AM H;rw[SS]at C;obtain⟨xs,ws,I,es,B,blks,v,res,D,fresh,E,Y,W,T,S,Q,P,U,O,K,J,s',A,y⟩:=UQ L hd h;have Z: ∀z:List TC,(z.map (λx=>((TV.a (.c x),false):TV×Bool))).map (λx=>JX (lns s.sto) x.1)=z.map (aZ (lns s.sto)):=λz=>by rw[DW];rfl
 rw[MT _ _ (λx hx=>by
  grind),nU,nU,Z,Z]at E
 refine⟨_,s',?_,A,y⟩;simp only[erp,opR,run_bind,bP V,JC,ob,C];grind [iv,cG];rename_i f l V H;obtain⟨C,M⟩:=AM H;rw[SS]at C;obtain⟨xs,ws,I,es,B,blks,v,res,D,fresh,E,Y,W,T,S,Q,P,U,O,K,J,s',A,y⟩:=UQ L hd h;rw[MT _ _ (λx hx=>by simp_all)]at E;refine⟨_,s',?_,A,y⟩;simp only[erp,opR,run_bind,bP V,JC,He,C,sW,hO];grind [iv,cG];cases h;split at h;rename_i o;obtain⟨e,s',h1,h2,q⟩:=(JMt h).ok;exact⟨e,s',by grind [erp,opR,run_bind,bP],h2,q⟩;cases h;split at h;rename_i o w;obtain⟨e,s',h1,h2,q⟩:=JNY h;exact⟨e,s',by grind [erp,opR,run_bind,bP],h2,q⟩;cases h;split at h;rename_i w;exact JK8 F w (by simp_all [cG]) h;cases h;split at h;rename_i o w;obtain⟨e,s',h1,h2,q⟩:=(JQv h).ok;exact⟨e,s',by grind [erp,opR,run_bind,bP],h2,q⟩;cases h;rename_i f first caps
 split at h;rename_i a c ha hc;refine fQ (v:=.a (.fn f a c)) ?_ h;simp_all [erp,Kb,ob];cases h;exact JDo F hd h;exact JFR F hd h;split at h;rename_i o;exact JFQ F (by have:=xE hd 0 (by simp[cG]);simp_all) o h;cases h;split at h;rename_i o w;obtain⟨e,s',h1,h2,q⟩:=JLC h;exact⟨e,s',by grind [erp,opR,run_bind,bP],h2,q⟩;cases h;split at h;rename_i o w;obtain⟨e,s',h1,h2,q⟩:=JNf (by have:=N 0 (by simp[cG]);simpa using this) h;exact⟨e,s',by simp only[erp,opR,run_bind,bP o,bP w,JC];exact h1,h2,q⟩;cases h;split at h;rename_i o;obtain⟨e,s',h1,h2,q⟩:=JMX h;exact⟨e,s',by simp only[erp,opR,run_bind,bP o,JC];exact h1,h2,q⟩;cases h;split at h;rename_i o;obtain⟨e,s',h1,h2,q⟩:=JNl (by have:=N 0 (by simp[cG]);simpa using this) h;exact⟨e,s',by simp only[erp,opR,run_bind,bP o,JC];exact h1,h2,q⟩;cases h
structure jM where
 op:TOp
 dst:Option Nat
 g:Option (Nat×Bool)
def eri(i:jM):bU:=⟨erp i.op,i.dst,i.g⟩
def rbE(g:Nat)(v:TV):List (Nat×TV)->List (Nat×TV)|[]=>[]|(m,u)::r=>if m=g then(m,v)::r else(m,u)::rbE g v r
def rb(g:Nat)(v:TV)(s:TSt):TSt:=⟨rbE g v s.env,s.sto⟩
theorem r6{g:Nat}{v:TV}{s:TSt}(h:tlk g s.env=some v):rb g v s=s:=by
 have e: ∀env:List (Nat×TV),tlk g env=some v->rbE g v env=env:=by
  intro env
  induction env with
  |nil=>intro h;cases h
  |cons x r ih=>
   grind [tlk,rbE]
 simp_all [rb]
def YO(G:TG)(i:jM)(new:Nat)(s:TSt)(k:TSt->Option R):Option R:=
 match i.g with
 |none=>if oI s new (cG i.op)=true then top G i.op i.dst new s k else none
 |some (g,e)=>match tlk g s.env with
  |some (.a (.c (.d .b x)))=>if x=e then
   (if oI s new (cG i.op)=true then top G i.op i.dst new (rb g (vb e) s) k else none)
   else k (bE i.dst uv (rb g (vb !e) s))
  |some (.tup [])=>k (bE i.dst uv s)
  |_=>none
theorem Nf{F:Orc}{G:TG}(B:GOk F G){i:jM}{new:Nat}{s:TSt}{k:TSt->Option R}{r:R}(h:YO G i new s k=some r):Ok (bW F (eri i) new) i.dst s k r:=by
 have z: ∀{s:TSt},oI s new (cG i.op)=true->top G i.op i.dst new s k=some r->Ok (opD F (erp i.op) new) i.dst s k r:=(by intro s hd h;obtain⟨e,s',h1,h2,w⟩:=JPj B hd h;refine⟨e,s',?_,h2,w⟩;grind [opD,run_bind,LL,N8]);unfold YO at h;split at h;grind [bW,eri];rename_i g n A;split at h;rename_i x j;have o:lk g (JD s).env=some (.p (.b x)):=by show lk g (fX _ s.env)=_;rw[AB,j];rfl
 split at h;rename_i q;subst q;rw[r6 j]at h;split at h;rename_i hd;obtain⟨e,s',h1,h2,w⟩:=z hd h;refine⟨e,s',?_,h2,w⟩;grind [bW,eri,xG];cases h;rename_i q;have y:x= !n:=by clear o j h;cases x<;>cases n<;>first|rfl|grind
 subst y;rw[r6 j]at h;refine fQ (v:=uv) ?_ h;simp only[bW,eri,A,xG,o,JC];rw[if_neg q];rfl;rename_i j;have o:lk g (JD s).env=some (.tup []):=by show lk g (fX _ s.env)=_;rw[AB,j];rfl
 refine fQ (v:=uv) ?_ h;simp only[bW,eri,A,xG,o,JC,JV];rfl;cases h
def YY(G:TG):List jM->Nat->TSt->(TSt->Option R)->Option R|[],_,s,k=>k s|i::r,new,s,k=>YO G i new s λs=>YY G r (new+cG i.op) s k
theorem L1{F:Orc}{G:TG}(g:GOk F G): ∀{ins:List jM} {new:Nat} {s:TSt} {k:TSt->Option R} {r:R},YY G ins new s k=some r-> ∃s',gL F (ins.map eri) new (JD s)=some (JD s')/\k s'=some r
 |[],new,s,k,r,h=>⟨s,rfl,h⟩
 |i::q,new,s,k,r,h=>by
  simp only[YY]at h;obtain⟨e,s1,h1,h2,h⟩:=Nf g h;obtain⟨j,o,n⟩:=L1 g h;grind [gL,eri,LL]
def KE:List jM->Nat|[]=>0|i::r=>cG i.op+KE r
theorem ij: ∀ins:List jM,news (ins.map eri)=KE ins
 |[]=>rfl
 |i::r=>by
  simp only[bZ,news,KE,ij r];grind [eri,LL]
def QL(n:Nat)(s:TSt):TSt:=if n=0 then s else⟨s.env,s.sto++List.replicate n .dead⟩
theorem JB3(sto:List TB)(n:Nat):lns (sto++List.replicate n .dead)=lns sto:=by
 funext c
 unfold lns;rcases zQ3 c sto.length with h|h;grind;rw[tA h,pT h,List.getElem?_replicate];split<;>rfl
theorem ul(n:Nat)(s:TSt):JD (QL n s)=⟨(JD s).env,room n (JD s).sto⟩:=by
 unfold QL room;split;rfl;unfold JD;rw[JB3];simp only[nU,YN];rfl
end
end Go.Am
end
section
namespace Go.Am
def Rb{α:Type}(S:Nat->Prop)(m:RM α)(st:St):Prop:= ∀b,Loc.blk b∈m.reads st->S b
section
variable {α β:Type} {S:Nat->Prop} {st:St}
theorem cC(a:α):Rb S (.ret a) st:=λb h=>by grind [RM.reads]
theorem eT:Rb S (.fail:RM α) st:=λb h=>by grind [RM.reads]
theorem bT{m:RM α}{f:α->RM β}(h:Rb S m st)(hf: ∀a,m.run st=some a->Rb S (f a) st):Rb S (m.bind f) st:=by
 intro b hb;rw[xM]at hb;rcases zQ9.1 hb with hb|hb;exact h b hb;cases hm:m.run st with
 |none=>simp_all
 |some a=>rw[hm]at hb;exact hf a hm b (by simpa using hb)
theorem qI{b:Nat}{k:Blk->RM α}(hb:S b)(h: ∀v,st.sto[b]?=some v->Rb S (k v) st):Rb S (.blk b k) st:=by
 intro c hc;simp only[RM.reads,cO]at hc;rcases hc with hc|hc;simp_all;cases hv:st.sto[b]? with
 |none=>simp_all
 |some v=>rw[hv]at hc;exact h v hv c hc
theorem Nm{n:Nat}{k:AV->RM α}(h: ∀v,lk n st.env=some v->Rb S (k v) st):Rb S (.slot n k) st:=by
 intro c hc;simp only[RM.reads,cO]at hc;rcases hc with hc|hc;cases hc;cases hv:lk n st.env with
 |none=>simp_all
 |some v=>rw[hv]at hc;exact h v hv c hc
theorem Kx(x:Option AV):Rb S (val x) st:=by cases x<;>first|exact eT|exact cC _
theorem kN(x:Opd):Rb S (ev x) st:=by cases x<;>first|exact cC _|exact Nm λv _=>cC v
theorem eg: ∀xs:List Opd,Rb S (evs xs) st|[]=>cC _|x::r=>bT (kN x) λv _=>bT (eg r) λvs _=>cC _
theorem r3(x:Option Opd):Rb S (evo x) st:=by cases x<;>simp_all [cC,bT,kN]
end
def fU:AV->List Nat| .ptr b _=>[b]| .slr b _ _=>[b]| .ep b _ _ _=>[b]| .pre b _ _=>[b]|_=>[]
def avR:AV->List Nat| .agg cs=>cs.flatMap fU|x=>fU x
section
variable {S:Nat->Prop} {st:St}
theorem JO8{x:AV}(h: ∀b∈fU x,S b):Rb S (fz.fz1 x) st:=by
 cases x with
 |slr b i n=>
  refine qI (h b (by simp[fU])) λv _=>?_;grind [cC,eT]
 |p c=>exact cC _
 |_=>exact eT
theorem Il: ∀{xs:List AV},(∀b∈xs.flatMap fU,S b)->Rb S (fz.fzL xs) st|[],_=>cC _|x::r,h=>bT (JO8 λb hb=>h b (by simp[hb])) λa _=>bT (Il λb hb=>h b (by simp_all)) λc _=>cC _
theorem IP{x:AV}(h: ∀b∈avR x,S b):Rb S (fz x) st:=by
 cases x with
 |slr b i n=>
  refine qI (h b (by simp[avR,fU])) λv _=>?_;grind [cC,eT]
 |p c=>exact cC _
 |data cs=>exact cC _
 |agg cs=>exact Il h
 |_=>exact eT
theorem JQ4{x:AV}{a:List PV×List (Nat×Blk)}(h:(fz.fz1 x).run st=some a): ∀y∈a.2,y.1∈fU x:=by
 cases x with
 |slr b i n=>
  simp only[fz.fz1,dY]at h;obtain⟨v,_,h⟩:=bR.1 h;cases v with
  |arr w esz rows=>
   dsimp only at h;split at h;injection h with h;grind [fU];cases h
  |_=>cases h
 |p c=>injection h with h;subst h;simp
 |_=>cases h
theorem Kz: ∀{xs:List AV} {a:List PV×List (Nat×Blk)},(fz.fzL xs).run st=some a-> ∀y∈a.2,y.1∈xs.flatMap fU
 |[],a,h,y,g=>by injection h with h;grind
 |x::r,a,h,y,g=>by
  simp only[fz.fzL]at h;obtain⟨c,h1,h⟩:=bind_some h;obtain⟨e,h2,h⟩:=bind_some h;injection h with h;subst h;simp only[zQ9]at g;simp only[List.flatMap_cons,zQ9];rcases g with g|g;grind [JQ4];exact .inr (Kz h2 y g)
theorem IK{x:AV}{a:List PV×List (Nat×Blk)}(h:(fz x).run st=some a): ∀y∈a.2,y.1∈avR x:=by
 cases x with
 |slr b i n=>
  simp only[fz,dY]at h;obtain⟨v,_,h⟩:=bR.1 h;cases v with
  |arr w esz rows=>
   dsimp only at h;split at h;injection h with h;grind [avR,fU];cases h
  |_=>cases h
 |p c=>injection h with h;subst h;simp
 |data cs=>injection h with h;subst h;simp
 |agg cs=>exact Kz h
 |_=>cases h
theorem fo{esz:Nat}{x:AV}(h: ∀b∈avR x,S b):Rb S (gA esz x) st:=by
 unfold gA;grind [cC,eT,qI,avR,fU]
theorem JN3{agg:Bool}{size:Nat}{x:AV}(h: ∀b∈avR x,S b):Rb S (gX agg size x) st:=by
 unfold gX;split
 all_goals grind [Kx,eT,qI,avR,fU]
theorem RP{x:Option AV}{e:Eff}(h:(val x).run st=some e):e.ws=[]:=by
 cases x with
 |none=>cases h
 |some v=>injection h with h;subst h;rfl
theorem JMR{agg:Bool}{size:Nat}{x:AV}{e:Eff}(h:(gX agg size x).run st=some e):e.ws=[]:=by
 unfold gX at h;split at h;split at h<;>first|exact RP h|cases h
 simp only[dY]at h;obtain⟨v,_,h⟩:=bR.1 h;split at h;split at h<;>first|exact RP h|cases h
 cases h;simp only[dY]at h;obtain⟨v,_,h⟩:=bR.1 h;split at h;split at h;split at h;split at h<;>first|exact RP h|cases h
 cases h;cases h;cases h;cases h
theorem JLf{size:Nat}{x v:AV}(h: ∀b∈avR x,S b)(hv: ∀b∈avR v,S b):Rb S (iR size x v) st:=by
 unfold iR;split;grind [qI,avR,fU,cC,eT];refine qI (h _ (by simp[avR,fU])) λy _=>?_;grind [bT,IP,cC,eT];simp[eT]
theorem JLR{size:Nat}{x v:AV}{e:Eff}(h:(iR size x v).run st=some e): ∀y∈e.ws,y.1∈avR x++avR v:=by
 unfold iR at h;split at h;simp only[dY]at h;obtain⟨w,_,h⟩:=bR.1 h;split at h;split at h;split at h;split at h;injection h with h;grind [avR,fU];cases h;cases h;cases h;cases h;simp only[dY]at h;obtain⟨w,_,h⟩:=bR.1 h;split at h;split at h;split at h;obtain⟨a,h1,h⟩:=bind_some h;split at h;split at h;injection h with h;subst h;intro y g;grind [IK,avR,fU];cases h;cases h;cases h;cases h;cases h;cases h
theorem JJD{esz:Nat}{x i:AV}(h: ∀b∈avR x,S b):Rb S (mY esz x i) st:=by
 unfold mY;grind [cC,eT,qI,avR,fU]
theorem JLL{esz:Nat}{x i:AV}{e:Eff}(h:(mY esz x i).run st=some e):e.ws=[]:=by
 unfold mY at h;split at h;split at h;split at h;injection h with h;subst h;rfl;cases h;cases h;simp only[dY]at h;obtain⟨v,_,h⟩:=bR.1 h;split at h;split at h;injection h with h;subst h;rfl;cases h;cases h;cases h
theorem JQ8{esz bytes:Nat}{x y:AV}(h: ∀b∈avR x,S b)(hy: ∀b∈avR y,S b):Rb S (jL esz bytes x y) st:=by
 unfold jL;split
 all_goals grind [qI,avR,fU,bT,fo,cC,eT]
theorem JOO{esz bytes:Nat}{x y:AV}{e:Eff}(h:(jL esz bytes x y).run st=some e): ∀z∈e.ws,z.1∈avR x:=by
 unfold jL at h;split at h;simp only[dY]at h;obtain⟨v,_,h⟩:=bR.1 h;split at h;obtain⟨new,_,h⟩:=bind_some h;split at h;injection h with h;grind [avR,fU];cases h;cases h;cases h
theorem JQm{esz:Nat}{x y:AV}(h: ∀b∈avR x,S b):Rb S (tE esz x y) st:=by
 unfold tE;grind [qI,avR,fU,cC,eT]
theorem JOS{esz:Nat}{x y:AV}{e:Eff}(h:(tE esz x y).run st=some e):e.ws=[]:=by
 unfold tE at h;split at h;simp only[dY]at h;obtain⟨v,_,h⟩:=bR.1 h;split at h;split at h;injection h with h;subst h;rfl;cases h;cases h;cases h
theorem Nj: ∀{k new:Nat},(∀j,j<k->S (new+j))->Rb S (tP new k) st
 |0,_,_=>cC _
 |k+1,new,h=>qI (h 0 (by omega)) λv _=>by
  cases v with
  |dead=>exact Nj λj e=>by grind
  |_=>exact eT
theorem Kp: ∀{xs:List Opd},(∀x∈xs,∀v,(ev x).run st=some v-> ∀b∈avR v,S b)->Rb S (fzs xs) st|[],_=>cC _|x::r,h=>bT (kN x) λv e=>bT (IP (h x (by simp) v e)) λa _=>bT (Kp λy g=>h y (by simp[g])) λc _=>cC _
theorem ei: ∀{xs:List Opd} {a:List (List PV)×List (Nat×Blk)},(∀x∈xs,∀v,(ev x).run st=some v-> ∀b∈avR v,S b)->(fzs xs).run st=some a-> ∀y∈a.2,S y.1
 |[],a,_,h,y,g=>by injection h with h;grind
 |x::r,a,j,h,y,g=>by
  simp only[fzs]at h;obtain⟨v,k,h⟩:=bind_some h;obtain⟨c,h1,h⟩:=bind_some h;obtain⟨e,h2,h⟩:=bind_some h;injection h with h;subst h;simp only[zQ9]at g;rcases g with g|g;exact j x (by simp) v k _ (IK h1 y g);exact ei (λz n=>j z (by simp[n])) h2 y g
theorem Mn{x:AV}(h: ∀b∈avR x,S b):Rb S (jQ x) st:=by
 cases x with
 |slr b i n=>
  refine bT (IP h) λa _=>?_;grind [cC,eT]
 |agg cs=>exact bT (IP h) λa _=>cC _
 |tup cs=>exact eT
 |_=>exact cC _
theorem L5{x:AV}{a:AV×List (Nat×Blk)}(h:(jQ x).run st=some a): ∀y∈a.2,y.1∈avR x:=by
 cases x with
 |slr b i n=>
  simp only[jQ]at h;obtain⟨c,h1,h⟩:=bind_some h;split at h;injection h with h;subst h;exact IK h1;cases h
 |agg cs=>simp only[jQ]at h;obtain⟨c,h1,h⟩:=bind_some h;injection h with h;subst h;exact IK h1
 |tup cs=>cases h
 |_=>injection h with h;subst h;simp
theorem LZ: ∀{m:List Bool} {xs:List AV},(∀x∈xs,∀b∈avR x,S b)->Rb S (fO m xs) st|_,[],_=>by simp[fO,cC]|[],x::r,h=>bT (Mn (h x (by simp))) λa _=>bT (LZ λy e=>h y (by simp[e])) λc _=>cC _|true::m,x::r,h=>bT (LZ λy e=>h y (by simp[e])) λc _=>cC _|false::m,x::r,h=>bT (Mn (h x (by simp))) λa _=>bT (LZ λy e=>h y (by simp[e])) λc _=>cC _
theorem MB: ∀{m:List Bool} {xs:List AV} {a:List AV×List (Nat×Blk)},(∀x∈xs,∀b∈avR x,S b)->(fO m xs).run st=some a-> ∀y∈a.2,S y.1
 |m,[],a,_,h,y,g=>by unfold fO at h;injection h with h;grind
 |[],x::r,a,j,h,y,g=>by
  simp only[fO]at h;obtain⟨c,h1,h⟩:=bind_some h;obtain⟨e,h2,h⟩:=bind_some h;injection h with h;subst h;simp only[zQ9]at g;rcases g with g|g;exact j x (by simp) _ (L5 h1 y g);exact MB (λz k=>j z (by simp[k])) h2 y g
 |true::m,x::r,a,j,h,y,g=>by simp only[fO]at h;obtain⟨e,h2,h⟩:=bind_some h;injection h with h;subst h;exact MB (λz k=>j z (by simp[k])) h2 y g
 |false::m,x::r,a,j,h,y,g=>by
  simp only[fO]at h;obtain⟨c,h1,h⟩:=bind_some h;obtain⟨e,h2,h⟩:=bind_some h;injection h with h;subst h;simp only[zQ9]at g;rcases g with g|g;exact j x (by simp) _ (L5 h1 y g);exact MB (λz k=>j z (by simp[k])) h2 y g
theorem Lr{ws:List (Nat×Blk)}{b:Nat}(h:S b):Rb S (rL ws b) st:=qI h λv _=>by grind [cC]
theorem gi{ws:List (Nat×Blk)}: ∀{r:List Nat} {acc:List Ent},(∀b∈r,S b)->Rb S (eK ws (r.map .whole) acc) st|[],acc,_=>cC _|b::r,acc,h=>by simp only[bZ,eK];refine bT (Lr (h b (by simp))) λx _=>?_;cases x<;>exact gi λc hc=>h c (by simp[hc])
theorem vh{ws:List (Nat×Blk)}{ρ:Ent->Option Nat}: ∀{r:List Nat},(∀b∈r,S b)->Rb S (kX ws ρ (r.map .whole)) st
 |[],_=>cC _
 |b::r,h=>by
  simp only[bZ,kX,zS];refine bT (bT (Lr (h b (by simp))) λx _=>?_) λx _=>bT (vh λc hc=>h c (by simp[hc])) λl _=>cC _;grind [cC,eT]
theorem xk{ws:List (Nat×Blk)}{es:List Ent}{new:Nat}: ∀{r:List Nat} {l:List Blk},Rb S (jD ws es new (r.map .whole) l) st
 |[],l=>by cases l<;>exact cC _
 |b::r,[]=>eT
 |b::r,x::l=>by simp only[bZ,jD];refine bT ?_ λy _=>bT xk λe _=>cC _;cases x<;>grind [tZ,cC,eT]
theorem xn{ws:List (Nat×Blk)}{es:List Ent}{new:Nat}: ∀{r:List Nat} {l:List Blk} {g:List (Nat×Blk)},(jD ws es new (r.map .whole) l).run st=some g-> ∀y∈g,y.1∈r
 |[],l,g,h,y,j=>by
  have:g=[]:=by cases l<;>(injection h with h;exact h.symm)
  simp_all
 |b::r,[],g,h,_,_=>by cases h
 |b::r,x::l,g,h,y,j=>by
  simp only[bZ,jD]at h;obtain⟨z,h1,h⟩:=bind_some h;obtain⟨k,h2,h⟩:=bind_some h;injection h with h;subst h;rcases cO.1 j with rfl|j;cases x with
  |box cs=>
   simp only[tZ]at h1;split at h1;injection h1 with h1;subst h1;simp;cases h1
  |arr w e rows=>injection h1 with h1;subst h1;simp
  |dead=>cases h1
  exact eG _ (xn h2 y j)
theorem j8{es:List Ent}{new:Nat}: ∀{l:List Blk} {k:Nat} {n:List (Nat×Blk)},iC es new k l=some n-> ∀y∈n,∃j,j<l.length/\y.1=k+j
 |[],k,n,h,y,g=>by injection h with h;simp_all
 | .dead::l,k,n,h,_,_=>by cases h
 | .box cs::l,k,n,h,y,g=>by
  simp only[iC]at h;split at h;rename_i c q _ o;injection h with h;subst h;rcases cO.1 g with rfl|g;simp_all;obtain⟨j,r,e⟩:=j8 o y g;exact⟨j+1,by simp;omega,by omega⟩;cases h
 | .arr w e rows::l,k,n,h,y,g=>by
  simp only[iC]at h;split at h;rename_i q o;injection h with h;subst h;rcases cO.1 g with rfl|g;simp_all;obtain⟨j,r,e⟩:=j8 o y g;exact⟨j+1,by simp;omega,by omega⟩;cases h
theorem jc(e x:Ent)(l:List Ent)(h:e∈l):e∈wR x l:=by grind [wR]
mutual
theorem JLy: ∀(x:AV) (l:List Ent) (e:Ent),e∈l->e∈cP x l| .ptr b off,l,e,h=>jc e _ l h| .slr b i n,l,e,h=>jc e _ l h| .ep b g i off,l,e,h=>jc e _ l h| .fn f a c,l,e,h=>entsL_sub c _ e (entsL_sub a l e h)| .agg cs,l,e,h=>entsL_sub cs l e h| .tup cs,l,e,h=>entsL_sub cs l e h| .p _,l,e,h=>h| .data _,l,e,h=>h| .cp _ _,l,e,h=>h| .unk,l,e,h=>h| .pre _ _ _,l,e,h=>h
theorem entsL_sub: ∀(xs:List AV) (l:List Ent) (e:Ent),e∈l->e∈cP.entsOfL xs l|[],l,e,h=>h|x::r,l,e,h=>entsL_sub r _ e (JLy x l e h)
end
theorem uf{ws:List (Nat×Blk)}: ∀{r acc l:List Ent},(eK ws r acc).run st=some l-> ∀e∈acc,e∈l:=by
 intro r
 induction r with
 |nil=>intro acc l h e g;injection h with h;simp_all
 |cons x r ih=>
  intro acc l h e g;cases x with
  |whole b=>
   simp only[eK]at h;obtain⟨y,_,h⟩:=bind_some h;cases y with
   |box cs=>exact ih h e (entsL_sub cs acc e g)
   |_=>exact ih h e g
  |elem b j i=>exact ih h e g
theorem ww{F:Orc}{f:FuncId}{xs:List AV}{ws:List (Nat×Blk)}{o k ids:List Nat}{n new:Nat}(r: ∀b∈ids,S b)(hw: ∀y∈ws,S y.1)(hn: ∀j,j<n->S (new+j))
  (h0:cP.entsOfL xs []=o.map .whole) (h1:(eK ws (o.map .whole) (o.map .whole)).run st=some (k.map .whole)) (h2:(eK ws (k.map .whole) (k.map .whole)).run st=some (ids.map .whole)):
  Rb S (fZ F f (xs,ws) n new) st/\(∀e,(fZ F f (xs,ws) n new).run st=some e-> ∀y∈e.ws,S y.1):=by
 have s1: ∀b∈k,S b:=λb hb=>by have:=uf h2 (.whole b) (pO.2 ⟨b,hb,rfl⟩);simp_all
 have s0: ∀b∈o,S b:=λb hb=>by have:=uf h1 (.whole b) (pO.2 ⟨b,hb,rfl⟩);simp_all
 constructor
 ·unfold fZ;simp only[h0];refine bT (gi s0) λa g=>?_;rw[h1]at g;injection g with g;subst g
  refine bT (gi s1) λa g=>?_;rw[h2]at g;injection g with g;subst g;split
  ·split
   all_goals grind [eT,bT,vh,xk,cC]
  simp[eT]
 intro e h y w;unfold fZ at h;simp only[h0]at h;obtain⟨a,g,h⟩:=bind_some h;rw[h1]at g;injection g with g;subst g;obtain⟨a,g,h⟩:=bind_some h;rw[h2]at g;injection g with g;subst g;split at h;split at h;cases h;obtain⟨bl,_,h⟩:=bind_some h;split at h;cases h;split at h;rename_i hlen;split at h;rename_i v fresh _ hf;obtain⟨q,hb,h⟩:=bind_some h;injection h with h;grind [xn,j8];cases h;cases h;cases h
end
def tcR:TC->List Nat| .ptr b _=>[b]| .slr b=>[b]| .slo b _=>[b]| .ep b _ _=>[b]| .epo b _ _ _=>[b]| .pre b _=>[b]| .pro b _ _=>[b]| .suf b _=>[b]| .suo b _ _=>[b]|_=>[]
def tvR:TV->List Nat| .a (.c x)=>tcR x| .a (.m _ cs)=>cs.flatMap tcR|_=>[]
theorem JPw(L:Nat->Nat)(x:TC):fU (aZ L x)=tcR x:=by cases x<;>rfl
theorem kS(L:Nat->Nat)(v:TV):avR (JX L v)=tvR v:=by
 cases v with
 |a x=>
  cases x with
  |c x=>cases x<;>rfl
  |dt t x=>rfl
  |m t cs=>show(cs.map (aZ L)).flatMap fU=cs.flatMap tcR;simp[List.flatMap_map,JPw]
  |fn f a c=>rfl
 |tup vs=>rfl
def rng(new:Nat):Nat->List Nat|0=>[]|k+1=>new::rng (new+1) k
theorem wW: ∀{k new j:Nat},j<k->new+j∈rng new k
 |0,_,_,h=>by omega
 |k+1,new,j,h=>by
  cases j with
  |zero=>simp[rng]
  |succ j=>simp only[rng,cO];right;rw[show new+(j+1)=new+1+j by omega];exact wW (by omega)
def hQ{α β:Type}(m:Option α)(f:α->Option β):Option β:=match m with|some x=>f x|none=>none
theorem iF{α β:Type}{m:Option α}{f:α->Option β}{b:β}(h:hQ m f=some b): ∃a,m=some a/\f a=some b:=by
 cases m with
 |none=>cases h
 |some a=>exact⟨a,rfl,h⟩
def o6(l:List (TV×Bool))(s:TSt):Option (List Nat):=IJ l s λxs s1=>hQ (FC xs []) λe=>hQ (wL s1 e e) λi1=>wL s1 i1 i1
def tcU(l:List (TV×Bool))(n new:Nat)(s:TSt):Option (List Nat×List Nat):=hQ (o6 l s) λids=>some (rng new n++(l.flatMap λx=>tvR x.1)++ids,rng new n++(l.flatMap λx=>tvR x.1)++ids)
def tpR(s:TSt):List (Nat×TO)->Option (List Nat)|[]=>some []|(_,o)::r=>hQ (tev o s) λv=>hQ (tpR s r) λl=>some (tvR v++l)
def uw(op:TOp)(new:Nat)(s:TSt):Option (List Nat×List Nat):=
 match op with
 | .load _ _ x=>hQ (tev x s) λv=>some (tvR v,[])
 | .newbox _=>some ([new],[new])
 | .store _ x y=>hQ (tev x s) λv=>hQ (tev y s) λu=>some (tvR v++tvR u,tvR v++tvR u)
 | .iaddr _ x _=>hQ (tev x s) λv=>some (tvR v,[])
 | .lits own t n ps=>hQ (tpR s ps) λl=>some (rng new (cG (.lits own t n ps))++l,rng new (cG (.lits own t n ps))++l)
 | .appn _ _ y=>hQ (tev y s) λv=>some (new::tvR v,[new])
 | .app _ _ x y=>hQ (tev x s) λv=>hQ (tev y s) λu=>some (tvR v++tvR u,tvR v)
 | .psuf _ x y=>hQ (tev x s) λv=>some (tvR v,[])
 | .slice _ x _ _ _=>hQ (tev x s) λv=>some (tvR v,tvR v)
 | .call _ args n=>hQ (vR (args.map λx=>(x,false)) s) λl=>tcU l n new s
 | .callo _ args n=>hQ (vR args s) λl=>tcU l n new s
 | .conv k x=>hQ (tev x s) λv=>some (rng new (cG (.conv k x))++tvR v,rng new (cG (.conv k x)))
 |_=>none
theorem oM{F:Orc}{op:TOp}{new:Nat}{st:St}{S:Nat->Prop}(hd: ∀j,j<cG op->S (new+j))(h:Rb S (opR F (erp op) new) st):Rb S (opD F (erp op) new) st:=by
 grind [opD,LL,bT,Nj]
theorem oQ{F:Orc}{op:AOp}{new:Nat}{st:St}{e:Eff}(h:(opD F op new).run st=some e):(opR F op new).run st=some e:=by unfold opD at h;obtain⟨_,_,h⟩:=bind_some h;exact h
def UW(F:Orc)(op:AOp)(new:Nat)(st:St)(U W:List Nat):Prop:=Rb (· ∈U) (opD F op new) st/\ ∀e,(opD F op new).run st=some e-> ∀y∈e.ws,y.1∈W
theorem kW{x:TO}{s:TSt}{v:TV}(h:tev x s=some v){a:AV}(ha:(ev (erO x)).run (JD s)=some a):a=JX (lns s.sto) v:=by
 grind [bP]
theorem Ll{l:List (TV×Bool)}{s:TSt}{ids:List Nat}(h:o6 l s=some ids): ∃(xs:List AV) (ws:List (Nat×Blk)) (e i1:List Nat),(fO (l.map (·.2)) (l.map λx=>JX (lns s.sto) x.1)).run (JD s)=some (xs,ws)/\
  cP.entsOfL xs []=e.map .whole/\(eK ws (e.map .whole) (e.map .whole)).run (JD s)=some (i1.map .whole)/\(eK ws (i1.map .whole) (i1.map .whole)).run (JD s)=some (ids.map .whole):=by
 unfold o6 at h;obtain⟨xs,s1,ws,h1,g,h⟩:=im (Fzd.refl s) h;rw[sW]at g;obtain⟨e,h2,h⟩:=iF h;obtain⟨i1,k,j⟩:=iF h;exact⟨_,ws,e,i1,h1,TY (lns s.sto) (l:=[]) h2,AS g k,AS g j⟩
theorem JLi{F:Orc}{f:FuncId}{vs:List AV}{n new:Nat}{st:St}{S:Nat->Prop}{a:List AV×List (Nat×Blk)}(ha:(kL vs).run st=some a)(hr:Rb S (kL vs) st)
  (h: ∀(_:Unit),Rb S (fZ F f a n new) st):Rb S (iQ F f vs n new) st:=by
 unfold iQ;refine bT hr λk g=>?_;rw[ha]at g;injection g with g;subst g;have h:=h ();unfold fZ at h;intro b hb;refine h b ?_
 revert hb
 simp only[xM];intro hb;rcases zQ9.1 hb with hb|hb;grind;refine zQ9.2 (.inr ?_)
 revert hb
 cases(eK a.2 (cP.entsOfL a.1 []) (cP.entsOfL a.1 [])).run st with
 |none=>grind
 |some j=>
  simp only[cM,Option.getD_some,xM];intro hb;rcases zQ9.1 hb with hb|hb;grind;refine zQ9.2 (.inr ?_)
  revert hb
  cases(eK a.2 j j).run st with
  |none=>grind
  |some es=>
   simp only[cM,Option.getD_some];split;split;grind;simp only[xM];intro hb;rcases zQ9.1 hb with hb|hb;grind;refine zQ9.2 (.inr ?_)
   revert hb
   cases(kX a.2 (λe=>dW e es 0) es).run st<;>grind [RM.reads]
   grind
theorem JQZ(F:Orc){op:TOp}{new:Nat}{s:TSt}{U W:List Nat}(h:uw op new s=some (U,W)):UW F (erp op) new (JD s) U W:=by
 unfold uw at h;split at h;rename_i agg t x;obtain⟨v,w,h⟩:=iF h;injection h with h;injection h with h1 h2;subst h1 h2;refine⟨oM (op:=.load agg t x) (λj A=>by grind [cG]) (bT (kN _) λa r=>?_),λe g y C=>?_⟩;rw[kW w r];grind [JN3,kS];have g:=oQ g;simp only[erp,opR]at g;obtain⟨a,r,g⟩:=bind_some g;grind [JMR];rename_i t;injection h with h;injection h with h1 h2;subst h1 h2;refine⟨oM (op:=.newbox t) (λj A=>by grind [cG]) (cC _),λe g y C=>?_⟩;have g:=oQ g;injection g with g;grind;rename_i t x y;obtain⟨v,w,h⟩:=iF h;obtain⟨u,G,h⟩:=iF h;injection h with h;injection h with h1 h2;subst h1 h2;refine⟨oM (op:=.store t x y) (λj A=>by grind [cG]) (bT (kN _) λa r=>bT (kN _) λc hc=>?_),λe g z E=>?_⟩;rw[kW w r,kW G hc];grind [JLf,kS];have g:=oQ g;simp only[erp,opR]at g;obtain⟨a,r,g⟩:=bind_some g;obtain⟨c,hc,g⟩:=bind_some g;have:=JLR g z E;rwa[kW w r,kW G hc,kS,kS]at this;rename_i t x i;obtain⟨v,w,h⟩:=iF h;injection h with h;injection h with h1 h2;subst h1 h2;refine⟨oM (op:=.iaddr t x i) (λj A=>by grind [cG]) (bT (kN _) λa r=>bT (kN _) λc hc=>?_),λe g y C=>?_⟩;rw[kW w r];grind [JJD,kS];have g:=oQ g;simp only[erp,opR]at g;obtain⟨a,r,g⟩:=bind_some g;obtain⟨c,hc,g⟩:=bind_some g;grind [JLL];rename_i own t n ps;obtain⟨l,B,h⟩:=iF h;injection h with h;injection h with h1 h2;subst h1 h2;have N: ∀x∈ps.map (λx=>erO x.2),∀v,(ev x).run (JD s)=some v-> ∀b∈avR v,b∈rng new (cG (.lits own t n ps))++l:=by
  have Y: ∀(ps:List (Nat×TO)) (l:List Nat),tpR s ps=some l-> ∀x∈ps.map (λx=>erO x.2),∀v,(ev x).run (JD s)=some v-> ∀b∈avR v,b∈l:=by
   intro ps
   induction ps with
   |nil=>simp_all
   |cons p ps ih=>
    intro l B x J v w b hb;obtain⟨i,o⟩:=p;simp only[tpR]at B;obtain⟨u,G,B⟩:=iF B;obtain⟨q,hq,B⟩:=iF B;injection B with B;subst B;simp only[bZ,cO]at J;rcases J with rfl|J;rw[kW G w,kS]at hb;simp[hb];grind
  grind
 have I:(ps.map λx=>(x.1,erO x.2)).map (·.2)=ps.map λx=>erO x.2:=by simp
 refine⟨oM (op:=.lits own t n ps) (λj A=>zQ9.2 (.inl (wW A))) ?_,λe g y C=>?_⟩;grind [erp,opR,bT,Kp,cC,eT];have g:=oQ g;simp only[erp,opR,I]at g;obtain⟨a,r,g⟩:=bind_some g;split at g;split at g;rename_i P;injection g with g;subst g;simp only[zQ9,kG]at C;rcases C with C|rfl;exact ei N r y C;exact zQ9.2 (.inl (by have:=wW (k:=cG (.lits own t n ps)) (new:=new) (j:=0) (by simp[cG,P]);grind));injection g with g;subst g;exact ei N r y C;cases g;rename_i t bytes y;obtain⟨v,w,h⟩:=iF h;injection h with h;injection h with h1 h2;subst h1 h2;refine⟨oM (op:=.appn t bytes y) (λj A=>by grind [cG]) (bT (kN _) λa r=>?_),λe g z E=>?_⟩;rw[kW w r];grind [bT,fo,kS,cC,eT];have g:=oQ g;simp only[erp,opR]at g;obtain⟨a,r,g⟩:=bind_some g;obtain⟨rows,_,g⟩:=bind_some g;split at g;injection g with g;grind;cases g;rename_i t bytes x y;obtain⟨v,w,h⟩:=iF h;obtain⟨u,G,h⟩:=iF h;injection h with h;injection h with h1 h2;subst h1 h2;refine⟨oM (op:=.app t bytes x y) (λj A=>by grind [cG]) (bT (kN _) λa r=>bT (kN _) λc hc=>?_),λe g z E=>?_⟩;rw[kW w r,kW G hc];grind [JQ8,kS];have g:=oQ g;simp only[erp,opR]at g;obtain⟨a,r,g⟩:=bind_some g;obtain⟨c,hc,g⟩:=bind_some g;have:=JOO g z E;rwa[kW w r,kS]at this;rename_i t x y;obtain⟨v,w,h⟩:=iF h;injection h with h;injection h with h1 h2;subst h1 h2;refine⟨oM (op:=.psuf t x y) (λj A=>by grind [cG]) (bT (kN _) λa r=>bT (kN _) λc hc=>?_),λe g z E=>?_⟩;rw[kW w r];simp[JQm,kS];have g:=oQ g;simp only[erp,opR]at g;obtain⟨a,r,g⟩:=bind_some g;obtain⟨c,hc,g⟩:=bind_some g;grind [JOS];rename_i Q x lo hi mx;obtain⟨v,w,h⟩:=iF h;injection h with h;injection h with h1 h2;subst h1 h2;refine⟨oM (op:=.slice Q x lo hi mx) (λj A=>by grind [cG]) (bT (kN _) λa r=>bT (r3 _) λ_ _=>bT (r3 _) λ_ _=>bT (r3 _) λ_ _=>?_),λe g z E=>?_⟩;have e:=kW w r;grind [bT,IP,kS,cC,eT,Kx];have g:=oQ g;simp only[erp,opR]at g;obtain⟨a,r,g⟩:=bind_some g;obtain⟨_,_,g⟩:=bind_some g;obtain⟨_,_,g⟩:=bind_some g;obtain⟨_,_,g⟩:=bind_some g;have e0:=kW w r;split at g;obtain⟨y,C,g⟩:=bind_some g;split at g;split at g;injection g with g;grind [IK,kS];cases g;cases g;grind [RP];rename_i f args n;obtain⟨l,B,h⟩:=iF h;unfold tcU at h;obtain⟨ids,hi,h⟩:=iF h;injection h with h;injection h with h1 h2;subst h1 h2;obtain⟨xs,ws,T,i1,D,M,L,K⟩:=Ll hi;obtain⟨I,O⟩:=AM B;rw[SS]at I;rw[MT _ _ (λx J=>by simp_all)]at D;have hA: ∀x∈l.map (λx=>JX (lns s.sto) x.1),∀b∈avR x,b∈rng new n++(l.flatMap λx=>tvR x.1)++ids:=(by grind [kS]);have Z:Rb (· ∈rng new n++(l.flatMap λx=>tvR x.1)++ids) (kL (l.map λx=>JX (lns s.sto) x.1)) (JD s):=by rw[<-UO];grind [LZ]
 have H: ∀y∈ws,y.1∈rng new n++(l.flatMap λx=>tvR x.1)++ids:=by rw[<-UO]at D;exact MB (S:=(· ∈rng new n++(l.flatMap λx=>tvR x.1)++ids)) hA D
 obtain⟨R,V⟩:=ww (F:=F) (f:=f) (S:=(· ∈rng new n++(l.flatMap λx=>tvR x.1)++ids)) (n:=n) (new:=new) (λb hb=>by simp[hb]) H
  (λj A=>by grind [wW]) M L K
 refine⟨oM (op:=.call f args n) (λj A=>by simp only[zQ9];exact .inl (.inl (wW A))) (bT (eg _) λa r=>?_),λe g y C=>?_⟩;grind [JLi];have g:=oQ g;simp only[erp,opR]at g;obtain⟨a,r,g⟩:=bind_some g;grind [Lx];rename_i f args n;obtain⟨l,B,h⟩:=iF h;unfold tcU at h;obtain⟨ids,hi,h⟩:=iF h;injection h with h;injection h with h1 h2;subst h1 h2;obtain⟨xs,ws,T,i1,D,M,L,K⟩:=Ll hi;obtain⟨I,O⟩:=AM B;have hA: ∀x∈l.map (λx=>JX (lns s.sto) x.1),∀b∈avR x,b∈rng new n++(l.flatMap λx=>tvR x.1)++ids:=(by grind [kS]);rw[O]at D;have H: ∀y∈ws,y.1∈rng new n++(l.flatMap λx=>tvR x.1)++ids:=MB (S:=(· ∈rng new n++(l.flatMap λx=>tvR x.1)++ids)) hA D;obtain⟨R,V⟩:=ww (F:=F) (f:=f) (S:=(· ∈rng new n++(l.flatMap λx=>tvR x.1)++ids)) (n:=n) (new:=new) (λb hb=>by simp[hb]) H
  (λj A=>by grind [wW]) M L K
 refine⟨oM (op:=.callo f args n) (λj A=>by simp only[zQ9];exact .inl (.inl (wW A))) (bT (eg _) λa r=>?_),λe g y C=>?_⟩;grind [bT,LZ];have g:=oQ g;simp only[erp,opR]at g;obtain⟨a,r,g⟩:=bind_some g;rw[I]at r;injection r with r;subst r;obtain⟨a,r,g⟩:=bind_some g;grind;rename_i k x;obtain⟨v,w,h⟩:=iF h;injection h with h;injection h with h1 h2;subst h1 h2;refine⟨oM (op:=.conv k x) (λj A=>zQ9.2 (.inl (wW A))) (bT (kN _) λa r=>?_),λe g y C=>?_⟩;have hr: ∀b∈avR a,b∈rng new (cG (.conv k x))++tvR v:=λb hb=>by rw[kW w r,kS]at hb;simp[hb]
 grind [cC,bT,fo,eT];have g:=oQ g;simp only[erp,opR]at g;obtain⟨a,r,g⟩:=bind_some g;split at g;injection g with g;grind;injection g with g;grind;obtain⟨rows,_,g⟩:=bind_some g;split at g;injection g with g;grind;cases g;split at g;rename_i P;injection g with g;grind [cG,rng];injection g with g;grind;cases g;cases h
abbrev pR:=Option (List Nat×List Nat)
section
variable {R:Type}
def Gy(i:jM)(s:TSt):Bool:=match i.g with|none=>false|some (g,e)=>if i.dst=some g then false else match tlk g s.env with|some (.a (.c (.d .b x)))=>if x=e then false else true|some (.tup [])=>true|_=>false
def uwI(i:jM)(new:Nat)(s s':TSt):pR:=if Gy i s'=true then some ([],[])else uw i.op new s
def PR(G:TG):List jM->Nat->TSt->List pR->(TSt->List pR->Option R)->Option R|[],_,s,l,k=>k s l|i::r,new,s,l,k=>YO G i new s λs'=>PR G r (new+cG i.op) s' (l++[uwI i new s s']) k
def tO:pR->(List Nat×List Nat)->Prop|none,_=>True|some (U,W),x=>(∀b∈x.1,b∈U)/\ ∀b∈x.2,b∈W
def QD(l:List pR):List (Nat×Nat)->Bool
 |[]=>true
 |(i,j)::r=>(match l[i]?,l[j]? with
  |some (some a),some (some b)=>gU a.2 b.1&&gU a.2 b.2&&gU a.1 b.2
  |_,_=>false)&&QD l r
theorem MM{b:Nat}: ∀{l:List Loc},b∈jX l->Loc.blk b∈l
 | .blk c::r,h=>by
  simp only[jX,cO]at h;rcases h with rfl|h;simp;simp[MM h]
 | .slot n::r,h=>by simp only[jX]at h;simp[MM h]
theorem tO.snoc{l:List pR}{l0:Log}{x:pR}{y:List Nat×List Nat}(hl:l.length=l0.length)(ho: ∀(j:Nat) a b,l[j]?=some a->l0[j]?=some b->tO a b)(hx:tO x y)(j:Nat)(a:pR)(b:List Nat×List Nat)(ha:(l++[x])[j]?=some a)(hb:(l0++[y])[j]?=some b):tO a b:=by
 grind
theorem JNE{F:Orc}{i:jM}{new:Nat}{s s':TSt}{e:Eff}(h:(bW F (eri i) new).run (JD s)=some e)(hp:put i.dst e (JD s)=JD s'):tO (uwI i new s s') (jX ((bW F (eri i) new).reads (JD s)),e.ws.map (·.1)):=by
 unfold uwI;split;rename_i j;unfold Gy at j;split at j;cases j;rename_i g k C;split at j;cases j;rename_i hd;have w:lk g (JD s').env=lk g (JD s).env:=(by rw[<-hp];unfold put;grind [lk]);have o: ∀v,tlk g s'.env=some v->lk g (JD s).env=some (JX (lns s'.sto) v):=λv A=>by
  rw[<-w];show lk g (fX _ s'.env)=_;grind [AB]
 split at j;rename_i x q;split at j;cases j;rename_i D;have n:=o _ q;rw[e_b]at n;have hi:bW F (eri i) new=.slot g fun
  | .p (.b x)=>if x=k then opD F (eri i).op new else .ret ⟨gY,[]⟩
  | .tup []=>.ret ⟨gY,[]⟩
  |_=>.fail:=by grind [bW,eri]
 rw[hi]at h⊢;refine⟨λb hb=>?_,λb hb=>?_⟩;have:=MM hb;grind [RM.reads];grind [xG,JV];rename_i q;have n:=o _ q;have n:lk g (JD s).env=some (.tup []):=n;have hi:bW F (eri i) new=.slot g fun
  | .p (.b x)=>if x=k then opD F (eri i).op new else .ret ⟨gY,[]⟩
  | .tup []=>.ret ⟨gY,[]⟩
  |_=>.fail:=by grind [bW,eri]
 rw[hi]at h⊢;refine⟨λb hb=>?_,λb hb=>?_⟩;have:=MM hb;grind [RM.reads];grind [xG,JV];cases j
 ·cases hu:uw i.op new s with
  |none=>trivial
  |some r=>
   obtain⟨U,W⟩:=r;obtain⟨h1,h2⟩:=JQZ F hu;have B:Rb (· ∈U) (bW F (eri i) new) (JD s):=by
    unfold bW;split;exact h1
    ·refine Nm λv A=>?_;split
     split;exact h1;simp[cC]
     all_goals simp[cC,eT]
   refine⟨λb hb=>B b (MM hb),λb hb=>?_⟩;obtain⟨y,z,rfl⟩:=pO.1 hb;unfold bW at h;split at h;exact h2 e h y z;simp only[xG]at h;obtain⟨v,A,h⟩:=bR.1 h;split at h;split at h;exact h2 e h y z;injection h with h;grind;injection h with h;grind;cases h
theorem N9{F:Orc}{G:TG}(w:GOk F G): ∀{ins:List jM} {new:Nat} {s:TSt} {l:List pR} {l0:Log} {k:TSt->List pR->Option R} {r:R},l.length=l0.length->(∀(j:Nat) a b,l[j]?=some a->l0[j]?=some b->tO a b)->
  PR G ins new s l k=some r-> ∃s' n g,jV F (ins.map eri) new (JD s) l0=some (JD s',n)/\k s' g=some r/\g.length=n.length/\ ∀(j:Nat) a b,g[j]?=some a->n[j]?=some b->tO a b
 |[],new,s,l,l0,k,r,v,o,h=>⟨s,l0,l,rfl,h,v,o⟩
 |i::q,new,s,l,l0,k,r,v,o,h=>by
  simp only[PR]at h;obtain⟨e,s1,h1,h2,h⟩:=Nf w h;obtain⟨x,n,g,B,z,A,y⟩:=N9 w (l0:=l0++[(jX ((bW F (eri i) new).reads (JD s)),e.ws.map (·.1))]) (by grind) (tO.snoc v o (JNE h1 h2)) h;refine⟨x,n,g,?_,z,A,y⟩;grind [jV,eri,LL]
theorem ii{a b e g:List Nat}(h:gU e g=true)(ha: ∀x∈a,x∈e)(hb: ∀x∈b,x∈g):gU a b=true:=by
 grind [gU]
theorem Ol{l:List pR}{e:Log}(hl:l.length=e.length)(ho: ∀(j:Nat) a b,l[j]?=some a->e[j]?=some b->tO a b): ∀{ps:List (Nat×Nat)},QD l ps=true->FR e ps=true
 |[],_=>rfl
 |(i,j)::r,h=>by
  simp only[QD,aS]at h;obtain⟨h1,h2⟩:=h;simp only[FR,aS];refine⟨?_,Ol hl ho h2⟩;split at h1;rename_i a b o hb;have hi:i<e.length:=by grind
  have n:j<e.length:=by grind
  have g:=ho i _ _ o (aY hi);have k:=ho j _ _ hb (aY n);rw[aY hi,aY n];simp only[aS]at h1⊢;exact⟨⟨ii h1.1.1 g.2 k.1,ii h1.1.2 g.2 k.2⟩,ii h1.2 g.1 k.2⟩;cases h1
def ox(G:TG)(pairs:List (Nat×Nat))(ins:List jM)(s:TSt)(k:TSt->Option R):Option R:=
 match pairs with
 |[]=>YY G ins s.sto.length (QL (KE ins) s) k
 |p::ps=>PR G ins s.sto.length (QL (KE ins) s) [] λs' l=>if QD l (p::ps)=true then k s' else none
theorem JNN{F:Orc}{G:TG}(e:GOk F G){pairs:List (Nat×Nat)}{ins:List jM}{s:TSt}{k:TSt->Option R}{r:R}(h:ox G pairs ins s k=some r): ∃s',region F pairs (ins.map eri) (JD s)=some (JD s')/\k s'=some r:=by
 have hlen:(JD s).sto.length=s.sto.length:=by simp[JD]
 unfold ox at h;split at h;grind [L1,region,ij,ul];obtain⟨s',o,n,h1,h2,v,q⟩:=N9 e (l0:=[]) rfl (λj a b g hb=>by simp at g) h;grind [region,ij,ul,Ol]
end
end Go.Am
end
section
namespace Go.Am
def vX(m:Nat)(ids:List Nat)(s:TSt):TC->Option TC
 | .ptr b p=>if b<m then some (.ptr b p)else match eZ b ids m with|some k=>some (.ptr k p)|none=>match s.sto[b]? with|some (.box t x)=>some (.cp t x p)|_=>none
 | .slr b=>if b<m then some (.slr b)else match eZ b ids m with|some k=>some (.slr k)|none=>match s.sto[b]? with|some (.arr _ t rows)=>some (.d (.l t) rows)|_=>none
 | .slo b n=>if b<m then some (.slo b n)else match eZ b ids m with|some k=>some (.slo k n)|none=>none
 | .ep b i p=>if b<m then some (.ep b i p)else match eZ b ids m with|some k=>some (.ep k i p)|none=>none
 | .epo b e i p=>if b<m then some (.epo b e i p)else match eZ b ids m with|some k=>some (.epo k e i p)|none=>none
 | .pre _ _=>none
 | .pro _ _ _=>none
 | .suf _ _=>none
 | .suo _ _ _=>none
 |x=>some x
def zQ(m:Nat)(ids:List Nat)(s:TSt):List TC->Option (List TC)|[]=>some []|x::r=>match vX m ids s x,zQ m ids s r with|some y,some l=>some (y::l)|_,_=>none
def EH(m:Nat)(ids:List Nat)(s:TSt):TA->Option TA
 | .c x=>match vX m ids s x with|some y=>some (.c y)|none=>none
 | .dt t x=>some (.dt t x)
 | .m t cs=>match zQ m ids s cs with
  |some l=>match asm t l with|some x=>some (.dt t x)|none=>if l.any YM=true then some (.m t l)else none
  |none=>none
 | .fn f a c=>match zQ m ids s a,zQ m ids s c with|some a,some c=>some (.fn f a c)|_,_=>none
def KO(m:Nat)(ids:List Nat)(s:TSt):List TA->Option (List TA)|[]=>some []|x::r=>match EH m ids s x,KO m ids s r with|some y,some l=>some (y::l)|_,_=>none
def pu(m:Nat)(ids:List Nat)(s:TSt):TV->Option TV
 | .a x=>match EH m ids s x with|some y=>some (.a y)|none=>none
 | .tup vs=>match KO m ids s vs with|some l=>some (.tup l)|none=>none
def IZ(m:Nat)(ids:List Nat)(s:TSt):TB->Option TB
 | .mbox t cs=>match zQ m ids s cs with|some l=>some (mkb t l)|none=>none
 |x=>some x
def wP(m:Nat)(ids:List Nat)(s:TSt):List TB->Option (List TB)|[]=>some []|x::r=>match IZ m ids s x,wP m ids s r with|some y,some l=>some (y::l)|_,_=>none
def QS(m:Nat)(s:TSt):List (Nat×TV)->Option (List (Nat×TV))|[]=>some []|(k,x)::r=>match pu m [] s x,QS m s r with|some y,some l=>some ((k,y)::l)|_,_=>none
def qK:List Nat->List (Nat×TV)->List (Nat×TV)|[],_=>[]|k::r,env=>match tlk k env with|some v=>(k,v)::qK r env|none=>qK r env
theorem MI(L:Nat->Nat)(env:List (Nat×TV)): ∀live:List Nat,restr live (fX L env)=fX L (qK live env)
 |[]=>rfl
 |k::r=>by
  simp only[restr,qK,AB];cases tlk k env with
  |none=>exact MI L env r
  |some v=>
   have ih:=MI L env r;grind [fX]
section
variable {m:Nat} {ids:List Nat} {s:TSt} {L':Nat->Nat} (h1: ∀b,b<m->L' b=lns s.sto b) (h2: ∀b k,eZ b ids m=some k->L' k=lns s.sto b)
include h1 h2
theorem u7{x y:TC}(h:vX m ids s x=some y):fin m ids (JD s).sto (aZ (lns s.sto) x)=some (aZ L' y):=by
 cases x with
 |ptr b p=>
  simp only[vX]at h;simp only[aZ,fin];split at h;grind;rename_i hb;rw[if_neg hb];split at h;grind [aZ];rename_i j;rw[j];dsimp only;split at h;rename_i t x g;injection h with h;subst h;simp only[eA,g,cM,AG,FT,aZ];cases h
 |slr b=>
  simp only[vX]at h;simp only[aZ,fin];split at h;grind
  ·rename_i hb;rw[if_neg hb];split at h
   all_goals grind [eA,r5,iB,cel,hdP]
 |slo b n=>
  grind [vX,aZ,fin]
 |ep b i p=>
  grind [vX,aZ,fin]
 |epo b e i p=>
  grind [vX,aZ,fin]
 |_=>first|(cases h;done)|(injection h with h;subst h;rfl)
theorem SQ: ∀{xs e:List TC},zQ m ids s xs=some e->fin.finL m ids (JD s).sto (xs.map (aZ (lns s.sto)))=some (e.map (aZ L'))
 |[],e,h=>by injection h with h;subst h;rfl
 |x::r,e,h=>by
  simp only[zQ]at h;split at h;rename_i y l j g;injection h with h;subst h;simp only[bZ,fin.finL,u7 h1 h2 j,SQ g];cases h
theorem Oi{x y:TA}(h:EH m ids s x=some y):fin m ids (JD s).sto (bO (lns s.sto) x)=some (bO L' y):=by
 cases x with
 |c x=>
  simp only[EH]at h;split at h;rename_i y j;injection h with h;subst h;exact u7 h1 h2 j;cases h
 |dt t x=>injection h with h;subst h;rfl
 |m t cs=>
  simp only[EH]at h;split at h;rename_i l g;have e:=SQ h1 h2 g;grind [bO,fin,LA,FT,fh];cases h
 |fn f a c=>
  grind [EH,bO,fin,SQ]
theorem jq: ∀{xs e:List TA},KO m ids s xs=some e->fin.finL m ids (JD s).sto (xs.map (bO (lns s.sto)))=some (e.map (bO L'))
 |[],e,h=>by injection h with h;subst h;rfl
 |x::r,e,h=>by
  simp only[KO]at h;split at h;rename_i y l j g;injection h with h;subst h;simp only[bZ,fin.finL,Oi h1 h2 j,jq g];cases h
theorem JKZ{x y:TV}(h:pu m ids s x=some y):fin m ids (JD s).sto (JX (lns s.sto) x)=some (JX L' y):=by cases x<;>grind [pu,Oi,JX,fin,jq]
theorem JJV{x y:TB}(h:IZ m ids s x=some y):gJ m ids (JD s).sto (aX (lns s.sto) x)=some (aX L' y):=by
 cases x with
 |mbox t cs=>
  grind [IZ,LH,gJ,SQ,SO]
 |box t x=>injection h with h;grind [AG,gJ,vo]
 |_=>injection h with h;subst h;rfl
theorem UA: ∀{xs e:List TB},wP m ids s xs=some e->rO m ids (JD s).sto (xs.map (aX (lns s.sto)))=some (e.map (aX L'))
 |[],e,h=>by injection h with h;subst h;rfl
 |x::r,e,h=>by
  simp only[wP]at h;split at h;rename_i y l j g;injection h with h;subst h;simp only[bZ,rO,JJV h1 h2 j,UA g];cases h
end
theorem JIV{m:Nat}{ids:List Nat}{s:TSt}{x y:TB}(h:IZ m ids s x=some y):lnB y=lnB x:=by
 cases x with
 |mbox t cs=>
  simp only[IZ]at h;split at h;injection h with h;subst h;exact SE _ _;cases h
 |_=>injection h with h;subst h;rfl
theorem UN{m:Nat}{ids:List Nat}{s:TSt}: ∀{xs e:List TB},wP m ids s xs=some e->e.length=xs.length/\ ∀(k:Nat),lns e k=lns xs k
 |[],e,h=>by injection h with h;simp_all
 |x::r,e,h=>by
  simp only[wP]at h;split at h;rename_i y l j g;injection h with h;subst h;obtain⟨n,o⟩:=UN g;refine⟨by simp[n],λk=>?_⟩;cases k with
  |zero=>exact JIV j
  |succ k=>exact o k
  cases h
theorem Nw{m:Nat}{s:TSt}{L':Nat->Nat}(h1: ∀b,b<m->L' b=lns s.sto b): ∀{env e:List (Nat×TV)},QS m s env=some e->vK m (JD s).sto (fX (lns s.sto) env)=some (fX L' e)
 |[],e,h=>by injection h with h;subst h;rfl
 |(k,x)::r,e,h=>by
  simp only[QS]at h;split at h;rename_i y l j g;injection h with h;subst h;simp only[fX,bZ,vK];rw[JKZ (ids:=[]) h1 (λb k hk=>by cases hk) j];have ih:=Nw h1 g;grind [fX];cases h
def rX(n:Nat)(live:List Nat)(s:TSt):Option TSt:=
 if s.sto.length=n then some ⟨qK live s.env,s.sto⟩
 else match QS n s (qK live s.env),wP n [] s (s.sto.take n)with|some e,some l=>some ⟨e,l⟩|_,_=>none
theorem GA{n:Nat}{live:List Nat}{s s':TSt}(h:rX n live s=some s'):clean n live (JD s)=some (JD s'):=by
 unfold rX at h;have hlen:(JD s).sto.length=s.sto.length:=by simp[JD]
 split at h;grind [clean,JD,MI];rename_i j;split at h;rename_i e l o g;injection h with h;subst h;obtain⟨q,w⟩:=UN g;have hL: ∀b,b<n->lns l b=lns s.sto b:=λb hb=>by
  grind [lns]
 unfold clean;rw[hlen,if_neg j];have v:=Nw hL o;have r:=UA (ids:=[]) hL (λb k hk=>by cases hk) g;grind [JD,MI,List.map_take];cases h
inductive zL where|tmp (t:Nat)|cell (t:Nat) (agg:Bool) (ty:Ty)
def erR:zL->vM| .tmp t=>.tmp t| .cell t agg ty=>.cell t agg ty.sz
def qn(agg:Bool)(ty:Ty)(v:TV)(s:TSt):Option TA:=
 if agg=true\/ty.sz=1 then
  match v with
  | .a (.c (.ptr b []))=>match s.sto[b]? with
   |some (.box e x)=>if h:e=ty then(if agg=true then some (.dt ty (h▸x))else some (.c (.d ty (h▸x))))else none
   |some (.mbox _ cs)=>if cs.length=ty.sz then
    match mka agg ty cs with
    |some (.a x)=>some x
    |_=>none
    else none
   |_=>none
  |_=>none
 else none
theorem JJU{agg:Bool}{ty:Ty}{v:TV}{s:TSt}{x:TA}(h:qn agg ty v s=some x): ∃e,(gX agg ty.sz (JX (lns s.sto) v)).run (JD s)=some e/\e.val=bO (lns s.sto) x:=by
 unfold qn at h;split at h;rename_i r;split at h;rename_i b;split at h;rename_i g y hb;split at h;rename_i k;subst k;refine⟨⟨bO (lns s.sto) x,[]⟩,?_,rfl⟩;have hc:kY agg ((cel g y).map .p)=oS agg (cel g y):=by
  unfold kY oS;split;rw[FT];cases hcel:cel g y with
  |nil=>rfl
  |cons a l=>cases l<;>rfl
 have j:sub (cel g y) 0 g.sz=some (cel g y):=fe (eN _ _);have q:=EY (lns s.sto) r y;simp only[kQ,spo,gX,dY,eA,hb,cM,JC,AG,FW,j,hc,q,val,JV];unfold mkv;split at h;rename_i h1;injection h with h;subst h;rw[if_pos h1];rfl;rename_i h1;injection h with h;subst h;rw[if_neg h1];rfl;cases h;rename_i cs hb;split at h;rename_i o;split at h;rename_i y n;injection h with h;subst h;have j:sub cs 0 ty.sz=some cs:=fe o;refine⟨⟨bO (lns s.sto) y,[]⟩,?_,rfl⟩;simp only[kQ,spo,gX,dY,eA,hb,cM,JC,LH,FW,j,FD (lns s.sto) n,val,JV];rfl;cases h;cases h;cases h;cases h;cases h
def DH:List zL->TSt->Option (List TA)
 |[],_=>some []
 | .tmp t::r,s=>match tlk t s.env,DH r s with|some (.a x),some l=>some (x::l)|_,_=>none
 | .cell t agg ty::r,s=>match tlk t s.env with
  |some v=>match qn agg ty v s,DH r s with|some x,some l=>some (x::l)|_,_=>none
  |none=>none
theorem M3(s:TSt)(t:Nat):(RM.slot t RM.ret).run (JD s)=(tlk t s.env).map (JX (lns s.sto)):=by rw[xG];show(lk t (fX _ s.env)).bind _=_;simp[AB]
theorem fv{s:TSt}: ∀{k:List zL} {l:List TA},DH k s=some l->(oA (k.map erR)).run (JD s)=some (l.map (bO (lns s.sto)))
 |[],l,h=>by injection h with h;subst h;rfl
 | .tmp t::r,l,h=>by
  simp only[DH]at h;split at h;rename_i x n j g;injection h with h;subst h;simp only[bZ,erR,oA,run_bind,M3,j,cM,JC,fv g,JV];rfl;cases h
 | .cell t agg ty::r,l,h=>by
  simp only[DH]at h;split at h;rename_i v o;split at h;rename_i x n j g;injection h with h;subst h;obtain⟨e,q,w⟩:=JJU j;simp only[bZ,erR,oA,run_bind,M3,o,cM,JC,q,fv g,JV,w];cases h;cases h
def IV(s:TSt):List Nat->List Nat->Option (List Nat)
 |[],acc=>some acc
 |b::r,acc=>match s.sto[b]? with
  |some (.mbox _ cs)=>match vU cs acc with|some acc=>IV s r acc|none=>none
  |some _=>IV s r acc
  |none=>none
theorem SW{s:TSt}: ∀{r acc l:List Nat},IV s r acc=some l->rP (JD s).sto (r.map .whole) (acc.map .whole)=l.map .whole
 |[],acc,l,h=>by injection h with h;subst h;rfl
 |b::r,acc,l,h=>by
  simp only[IV]at h;split at h;rename_i cs hb;split at h;rename_i e g;simp only[bZ,rP,eA,hb,cM,LH,MC (lns s.sto) g];exact SW h;cases h;rename_i x j hb;simp only[bZ,rP,eA,hb,cM];cases x with
  |mbox t cs=>simp_all
  |box t x=>simp only[AG];rw[vg];exact SW h
  |_=>exact SW h
  cases h
def lY(m:Nat)(fresh:Bool)(s:TSt):List Nat->List Nat
 |[]=>[]
 |b::r=>if b<m then lY m fresh s r else
  match s.sto[b]? with
  |some (.box _ _)=>b::lY m fresh s r
  |some (.mbox _ _)=>b::lY m fresh s r
  |some (.arr _ _ _)=>if fresh=true then b::lY m fresh s r else lY m fresh s r
  |_=>lY m fresh s r
theorem xv{m:Nat}{fresh:Bool}{s:TSt}: ∀r:List Nat,jY m fresh (JD s).sto (r.map .whole)=lY m fresh s r
 |[]=>rfl
 |b::r=>by
  simp only[bZ,jY,lY,eA];rw[xv r];split;rfl;cases s.sto[b]? with
  |none=>rfl
  |some x=>cases x<;>rfl
def PW(s:TSt):List Nat->Option (List TB)|[]=>some []|b::r=>match s.sto[b]?,PW s r with|some x,some l=>some (x::l)|_,_=>none
theorem Nz{s:TSt}: ∀{ids:List Nat} {l:List TB},PW s ids=some l->vZ (JD s).sto ids=some (l.map (aX (lns s.sto)))/\l.length=ids.length/\ ∀(j b:Nat),ids[j]?=some b->lns l j=lns s.sto b
 |[],l,h=>by injection h with h;simp_all
 |b::r,l,h=>by
  simp only[PW]at h;split at h;rename_i x g q e;injection h with h;subst h;obtain⟨k,o,n⟩:=Nz e;grind [vZ,eA,lns];cases h
def NC:List TA->TV|[x]=>.a x|l=>.tup l
theorem Nh(L:Nat->Nat)(l:List TA):one (l.map (bO L))=JX L (NC l):=by
 match l with
 |[]=>rfl
 |[x]=>rfl
 |x::y::r=>rfl
section
variable {R:Type}
def LJ(res:List zL)(fresh:Bool)(m:Nat)(s:TSt)(E:TV->List TB->Option R):Option R:=
 match DH res s with
 |none=>none
 |some vs=>
  if s.sto.length=m then E (NC vs) s.sto
  else match FC vs []with
   |none=>none
   |some e=>match IV s e e with
    |none=>none
    |some i1=>if jU (lY m fresh s i1)=true/\m<=s.sto.length then
     match KO m (lY m fresh s i1) s vs,wP m (lY m fresh s i1) s (s.sto.take m),PW s (lY m fresh s i1)with
     |some ws,some l,some q=>match wP m (lY m fresh s i1) s q with|some q'=>E (NC ws) (l++q')|none=>none
     |_,_,_=>none
     else none
theorem JHB{f:AFn}{res:List zL}{fresh:Bool}{m:Nat}{s:TSt}{E:TV->List TB->Option R}{r:R}(n:f.res=res.map erR)(I:f.fresh=fresh)(h:LJ res fresh m s E=some r):
  ∃v out,iA f m (JD s)=some (JX (lns out) v,out.map (aX (lns out)))/\E v out=some r:=by
 unfold LJ at h;have hlen:(JD s).sto.length=s.sto.length:=by simp[JD]
 split at h;cases h;rename_i vs hvs;have A:=fv hvs;split at h;rename_i z;refine⟨NC vs,s.sto,?_,h⟩;unfold iA;rw[n,A];dsimp only;rw[hlen,if_pos z,Nh];rfl;rename_i z;split at h;cases h;rename_i C x;split at h;cases h;rename_i i1 o;split at h;rename_i j;obtain⟨K,Y⟩:=j;generalize g:lY m fresh s i1=ids at*;split at h;rename_i ws l q w y F;split at h;rename_i q' e;refine⟨NC ws,l++q',?_,h⟩;obtain⟨U,D⟩:=UN y;obtain⟨Q,N,L⟩:=Nz F;obtain⟨O,S⟩:=UN e;have H:l.length=m:=by simp_all
 have h1: ∀b,b<m->lns (l++q') b=lns s.sto b:=λb hb=>by
  have:=D b;grind [lns]
 have h2: ∀b k,eZ b ids m=some k->lns (l++q') k=lns s.sto b:=λb k hk=>by
  obtain⟨J,G⟩:=UB hk;grind [lns]
 have Z:=jq h1 h2 w;have W:=UA h1 h2 y;have T:=UA h1 h2 e;have V:cP.entsOfL (vs.map (bO (lns s.sto))) []=C.map .whole:=TY (lns s.sto) (l:=[]) x;have M:=SW o;have B:=xv (m:=m) (fresh:=fresh) (s:=s) i1;rw[g]at B;have P:(JD s).sto.take m=(s.sto.take m).map (aX (lns s.sto)):=by simp[JD]
 grind [iA,Nh];cases h;cases h;cases h
end
end Go.Am
end
