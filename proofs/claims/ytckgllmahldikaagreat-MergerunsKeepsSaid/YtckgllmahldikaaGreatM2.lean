/-
  Parts of a proof.
-/
import Derived.Orders
import Derived.LoopN
import Derived.Scope
import Derived.Below
import Derived.Test.YtckgllmahldikaaGreatM1
set_option linter.unusedSimpArgs false
set_option linter.unusedVariables false
set_option linter.unusedSectionVars false
section
namespace Go.Am
def qO(s1:Sn)(es:List Ent)(new:Nat)(σ2:List Blk)(k:Nat)(y:Blk):Prop:=
 match es[k]? with
 |some (.whole b)=>(∃cs l,y=.box cs/\bk.bkL es new cs=some l/\σ2[b]?=some (.box l))\/(∃w esz rows,y=.arr w esz rows/\σ2[b]?=some (.arr w esz rows))
 |some (.elem b _ i)=> ∃w esz rows e,s1.σ[b]?=some (.arr w esz rows)/\y=.box (e.map .p)/\σ2[b]?=some (.arr w esz (rows.set i e))
 |none=>(∃cs l,y=.box cs/\bk.bkL es new cs=some l/\σ2[new+(k-es.length)]?=some (.box l))\/(∃w esz rows,y=.arr w esz rows/\σ2[new+(k-es.length)]?=some (.arr w esz rows))
structure M9(s1:Sn)(es:List Ent)(blks:List Blk)(new kf:Nat)(c':Sn)(σ2:List Blk):Prop where
 cin:gk s1 es blks
 inv:Inv c'
 trans:bD (iO s1 es blks) c'
 len:c'.σ.length=es.length+kf
 slen:σ2.length=s1.σ.length
 dead: ∀j,j<kf->s1.σ[new+j]?=some .dead
 out: ∀k y,c'.σ[k]?=some y->qO s1 es new σ2 k y
 same: ∀b,b∉es.map Ent.id->(b<new\/new+kf<=b)->σ2[b]?=s1.σ[b]?
def kOf(es:List Ent)(new kf b:Nat):Option Nat:=
 match dS (.whole b) es 0 with
 |some k=>some k
 |none=>if new<=b/\b<new+kf/\b∉es.map Ent.id then some (es.length+(b-new))else none
def fP(s1:Sn)(es:List Ent)(new kf:Nat)(c':Sn)(σ2:List Blk):Sn:=
 ⟨σ2,⟨λb=>match kOf es new kf b with
  |some k=>c'.g.μ k
  |none=>s1.g.μ b,c'.g.C⟩,c'.w⟩
theorem zw{e:Ent}: ∀{es:List Ent} {k:Nat},dS e es k=none->e∉es
 |[],k,_=>by simp
 |x::r,k,h=>by
  simp only[dS]at h;split at h;cases h;rename_i g;simp only[cJ,not_or];exact⟨λe=>g e.symm,zw h⟩
section
variable {s1 c':Sn} {es:List Ent} {blks σ2:List Blk} {new kf:Nat} (h:M9 s1 es blks new kf c' σ2)
theorem TI{k:Nat}{e:Ent}(he:es[k]?=some e):e.id∈es.map Ent.id:=gY.2 ⟨e,jM he,rfl⟩
include h in
theorem FW{e g:Nat}{e1 e2:Ent}(h1:es[e]?=some e1)(h2:es[g]?=some e2)(he:e1.id=e2.id):e=g:=
 WN h.cin.nodup (x:=e1.id) (by simp_all) (by simp_all)
include h in
theorem JOl{k:Nat}{e:Ent}(he:es[k]?=some e): ∃y,s1.σ[e.id]?=some y/\y≠.dead:=by
 obtain⟨x,_,g⟩:=sI h.cin he;cases e with
 |whole b=>
  rcases g with⟨cs',l,h1,h2,rfl⟩|⟨w,j,rows',h1,rfl⟩;exact⟨_,h1,by simp⟩;exact⟨_,h1,by simp⟩
 |elem b ext i=>obtain⟨j,rows',row,h1,h2,n,rfl⟩:=g;exact⟨_,h1,by simp⟩
include h in
theorem JLi{j:Nat}(hj:j<kf):new+j∉es.map Ent.id:=by intro n;obtain⟨e,o,g⟩:=gY.1 n;obtain⟨k,hk⟩:=jU o;obtain⟨y,q,hd⟩:=JOl h hk;rw[g,h.dead j hj]at q;simp_all
include h in
theorem JJx{k b:Nat}(he:es[k]?=some (.whole b)):kOf es new kf b=some k:=by
 unfold kOf;cases hc:dS (.whole b) es 0 with
 |none=>exact absurd (jM he) (zw hc)
 |some g=>
  obtain⟨_,e⟩:=yM hc;grind [FW]
include h in
theorem JN7{k b e i:Nat}(he:es[k]?=some (.elem b e i)):kOf es new kf b=none:=by
 unfold kOf;cases hc:dS (.whole b) es 0 with
 |some j=>obtain⟨_,g⟩:=yM hc;simp only[wT]at g;have:=FW h g he rfl;simp_all
 |none=>have:b∈es.map Ent.id:=TI he;simp[this]
include h in
theorem JJV{j:Nat}(hj:j<kf):kOf es new kf (new+j)=some (es.length+j):=by
 unfold kOf;have g:=JLi h hj;cases hc:dS (.whole (new+j)) es 0 with
 |some k=>obtain⟨_,e⟩:=yM hc;simp only[wT]at e;exact absurd (TI e) g
 |none=>simp_all
theorem VW{b:Nat}(h1:b∉es.map Ent.id)(h2:b<new\/new+kf<=b):kOf es new kf b=none:=by
 unfold kOf;cases hc:dS (.whole b) es 0 with
 |some g=>obtain⟨_,e⟩:=yM hc;simp only[wT]at e;exact absurd (TI e) h1
 |none=>
  grind
def tgt(es:List Ent)(new k:Nat):Nat:=match es[k]? with|some e=>e.id|none=>new+(k-es.length)
include h in
theorem oY{k:Nat}(hk:k<es.length+kf)(j: ∀b e i,es[k]?≠some (.elem b e i)):(fP s1 es new kf c' σ2).g.μ (tgt es new k)=c'.g.μ k:=by
 simp only[fP,tgt];cases he:es[k]? with
 |some e=>
  cases e with
  |whole b=>simp only[Ent.id];rw[JJx h he]
  |elem b e i=>simp_all
 |none=>
  grind [JJV]
include h in
theorem GW{k b ext i:Nat}(he:es[k]?=some (.elem b ext i)): ∃esz rows row r j,s1.σ[b]?=some (.arr true esz rows)/\ext=rows.length/\rows[i]?=some row/\s1.g.μ b=some (r,0)/\
  c'.σ[k]?=some (.box (j.map .p))/\j.length=row.length/\row.length=esz/\c'.g.μ k=some (r,i*esz)/\σ2[b]?=some (.arr true esz (rows.set i j))/\(fP s1 es new kf c' σ2).g.μ b=some (r,0):=by
 obtain⟨x,B,q⟩:=sI h.cin he;obtain⟨esz,rows,row,h1,h2,A,rfl⟩:=q;have D:=JC A;rcases h.cin.inv.arr _ _ _ _ h1 with⟨C,K⟩|⟨r,c,e,fz,C,J,y,hl,F,E⟩;simp_all;obtain⟨⟨cs',z,L⟩,I⟩:=h.trans.box k _ B;have o:=h.out k _ z;unfold qO at o;rw[he]at o;obtain⟨w,v,rows',j,n,G,H⟩:=o;rw[h1]at n;injection n with n;injection n with a1 a2 a3;subst a1 a2 a3;grind [VZ,fP,JN7]
include h in
theorem O8{x y:AV}{v:Value}(hr:JH c' x v):bk es new x=some y->JH (fP s1 es new kf c' σ2) y v:=by
 have D: ∀{k:Nat} {z:Blk},c'.σ[k]?=some z->k<es.length+kf:=λhz=>by rw[<-h.len];grind
 induction hr generalizing y with
 |p c v hp=>intro hf;simp[bk]at hf;subst hf;exact .p _ _ hp
 |data cs vs h1 h2=>intro hf;simp[bk]at hf;subst hf;exact .data _ _ h1 h2
 |cp cs off r o vals V S=>intro hf;simp[bk]at hf;subst hf;exact .cp cs off r o vals V S
 |unk x=>intro hf;simp[bk]at hf;subst hf;exact .unk x
 |pre=>intro hf;simp[bk]at hf
 |agg cs vs h1 H h2 ih=>
  intro hf;simp only[bk]at hf;split at hf;rename_i l hl;injection hf with hf;subst hf;obtain⟨Q,P⟩:=vB hl;refine .agg _ _ (by omega) H λi y v O E=>?_;grind [JC];cases hf
 |tup cs vs h1 h2 ih=>
  intro hf;simp only[bk]at hf;split at hf;rename_i l hl;injection hf with hf;subst hf;obtain⟨Q,P⟩:=vB hl;refine .tup _ _ (by omega) λi y v O E=>?_;grind [JC];cases hf
 |ptr k off r o Z hb=>
  intro hf;obtain⟨cs,hb⟩:=hb;have hk:=D hb;have B:=h.out k _ hb;unfold qO at B;simp only[bk]at hf;split at hf;rename_i F;have a5:es[k]?=some es[k]:=bA F;split at hf;rename_i b j;injection hf with hf;subst hf;have A:=oY h hk (by rw[j];simp);simp only[tgt,j,Ent.id]at A;rw[j]at B;rcases B with⟨cs',l,C,J,N⟩|⟨w,esz,rows,C,J⟩;exact .ptr b off r o (by simp_all) ⟨l,N⟩;cases C;rename_i b e i j;injection hf with hf;subst hf;obtain⟨esz,rows,row,r',L,f1,T,f3,f4,f5,f6,f7,I,U,R⟩:=GW h j;rw[Z]at I;injection I with I;injection I with g1 g2;subst g1 g2;exact .ep b e i off _ true esz (rows.set i L) ⟨_,_,rfl⟩ U (by simp[T]) λ_ _=>⟨r,R,rfl⟩;cases hf;rename_i K;injection hf with hf;subst hf;have j:es[k]?=none:=qI (by omega);have A:=oY h hk (by rw[j];simp);simp only[tgt,j]at A;rw[j]at B;rcases B with⟨cs',l,C,J,N⟩|⟨w,esz,rows,C,J⟩;exact .ptr _ off r o (by simp_all) ⟨l,N⟩;cases C
 |slr k i n v wm esz rows H hb G E=>
  intro hf;have hk:=D hb;have B:=h.out k _ hb;unfold qO at B;have go: ∀b,(fP s1 es new kf c' σ2).g.μ b=c'.g.μ k->σ2[b]?=some (.arr wm esz rows)->JH (fP s1 es new kf c' σ2) (.slr b i n) v:=(by intro b A M;refine .slr b i n v wm esz rows H M G λe=>?_;rcases E e with⟨W,q1,q2,Y⟩|⟨r,cap,c,C,fz,W,q⟩;exact .inl ⟨by simp_all,q1,q2,Y⟩;exact .inr ⟨r,cap,c,C,fz,by simp_all,q⟩);simp only[bk]at hf;split at hf;rename_i F;split at hf;rename_i b j;injection hf with hf;subst hf;have A:=oY h hk (by rw[j];simp);grind [tgt,Ent.id];cases hf;rename_i K;injection hf with hf;subst hf;have j:es[k]?=none:=qI (by omega);have A:=oY h hk (by rw[j];simp);grind [tgt]
 |ep k ext i off v wm esz rows H hb G E=>
  intro hf;have hk:=D hb;have B:=h.out k _ hb;unfold qO at B;have go: ∀b,(fP s1 es new kf c' σ2).g.μ b=c'.g.μ k->σ2[b]?=some (.arr wm esz rows)->JH (fP s1 es new kf c' σ2) (.ep b ext i off) v:=by intro b A M;refine .ep b ext i off v wm esz rows H M G λC J=>?_;simp_all
  simp only[bk]at hf;split at hf;rename_i F;split at hf;rename_i b j;injection hf with hf;subst hf;have A:=oY h hk (by rw[j];simp);grind [tgt,Ent.id];cases hf;rename_i K;injection hf with hf;subst hf;have j:es[k]?=none:=qI (by omega);have A:=oY h hk (by rw[j];simp);grind [tgt]
 |fn f first caps fs cs h1 h2 _ _ a6 a4=>
  intro hf;simp only[bk]at hf;split at hf
  ·rename_i a c ha hc;injection hf with hf;subst hf;obtain⟨Q,P⟩:=vB ha;obtain⟨k3,k4⟩:=vB hc;refine .fn f a c fs cs (by omega) (by omega) (λi y v O E=>?_) (λi y v O E=>?_)
   all_goals grind [JC]
  cases hf
inductive eb(es:List Ent)(new kf b:Nat):Prop where|out (k:Nat):k<es.length+kf->tgt es new k=b->(∀b e i,es[k]?≠some (.elem b e i))->eb es new kf b|elem (k e i:Nat):es[k]?=some (.elem b e i)->eb es new kf b|other:b∉es.map Ent.id->(b<new\/new+kf<=b)->eb es new kf b
theorem uX(b:Nat):eb es new kf b:=by
 by_cases j:b∈es.map Ent.id;obtain⟨e,h,g⟩:=gY.1 j;obtain⟨k,hk⟩:=jU h;have q:=JC hk;cases e with
 |whole o=>simp only[Ent.id]at g;subst g;exact .out k (by omega) (by grind [tgt,Ent.id]) (by rw[hk];simp)
 |elem o e' n=>simp only[Ent.id]at g;subst g;exact .elem k e' n hk
 by_cases r:new<=b/\b<new+kf;have h:es[es.length+(b-new)]?=none:=qI (by omega);refine .out (es.length+(b-new)) (by omega) ?_ (by rw[h];simp);grind [tgt];exact .other j (by omega)
include h in
theorem MX{k:Nat}(hk:k<es.length+kf)(j: ∀b e i,es[k]?≠some (.elem b e i))(r o:Nat):
  Wr1 (fP s1 es new kf c' σ2) (tgt es new k) r o↔Wr1 c' k r o:=by
 have q:=oY h hk j;have g:k<c'.σ.length:=by rw[h.len];exact hk
 have n:c'.σ[k]?=some c'.σ[k]:=bA g;have w:=h.out k _ n;unfold qO at w;unfold Wr1;rw[n,q];have v:(fP s1 es new kf c' σ2).σ=σ2:=rfl;rw[v];cases he:es[k]? with
 |some e=>
  grind [tgt,Ent.id,vB]
 |none=>
  grind [tgt,vB]
include h in
theorem NO{k b e i:Nat}(he:es[k]?=some (.elem b e i))(r o:Nat):Wr1 (fP s1 es new kf c' σ2) b r o↔Wr1 s1 b r o:=by
 obtain⟨esz,rows,row,r',g,v,y,A,z,w,x,q,n,B,j⟩:=GW h he;grind [Wr1,fP]
include h in
theorem kr{b:Nat}(h1:b∉es.map Ent.id)(h2:b<new\/new+kf<=b)(r o:Nat):Wr1 (fP s1 es new kf c' σ2) b r o↔Wr1 s1 b r o:=by
 unfold Wr1;have j:(fP s1 es new kf c' σ2).σ=σ2:=rfl;have e:(fP s1 es new kf c' σ2).g.μ b=s1.g.μ b:=by grind [fP,VW]
 rw[j,h.same b h1 h2,e]
include h in
theorem yk{r o:Nat}(hw:Wr c' r o):(∃k e,es[k]?=some e/\Wr1 (iO s1 es blks) k r o/\Wr1 s1 e.id r o)\/s1.w.heap.size<=r:=by
 rcases h.trans.wnew r o hw with⟨k,hk⟩|j;obtain⟨g,n⟩:=uH h.cin k r o hk;have q:es[k]?=some es[k]:=bA g;grind [xO];exact .inr j
include h in
theorem xt:bD s1 (fP s1 es new kf c' σ2):=by
 refine⟨?_,λr o hc=>h.trans.cmono r o hc,λr o hc=>?_,λr o ⟨b,E⟩=>?_,Nat.le_of_eq h.slen.symm,λb cs hb=>?_,λb wm esz rows hb=>?_⟩;refine h.trans.keep.mono λr o ⟨k,hk⟩=>?_;exact⟨_,(uH h.cin k r o hk).2⟩;rcases h.trans.cnew r o hc with hc|⟨k,hk⟩|N;exact .inl hc;exact .inr (.inl ⟨_,(uH h.cin k r o hk).2⟩);exact .inr (.inr N);cases uX (es:=es) (new:=new) (kf:=kf) b with
 |out k hk ht n=>
  subst ht;rcases yk h ⟨k,(MX h hk n r o).1 E⟩with⟨Z,e,_,_,H⟩|N;exact .inl ⟨_,H⟩;simp_all
 |elem k e i g=>exact .inl ⟨b,(NO h g r o).1 E⟩
 |other h1 h2=>exact .inl ⟨b,(kr h h1 h2 r o).1 E⟩
 ·cases uX (es:=es) (new:=new) (kf:=kf) b with
  |out k hk ht n=>
   cases g:es[k]? with
   |none=>
    exfalso;simp only[tgt,g]at ht;have G:es.length<=k:=by simp_all
    have:=h.dead (k-es.length) (by omega);simp_all
   |some e=>
    cases e with
    |elem b e i=>simp_all
    |whole R=>
     simp only[tgt,g,Ent.id]at ht;subst ht;obtain⟨x,F,y⟩:=sI h.cin g;rcases y with⟨cs',l,h1,h2,rfl⟩|⟨w,v,rows',h1,rfl⟩
     ·rw[hb]at h1;injection h1 with h1;injection h1 with h1;subst h1
      obtain⟨⟨V,D,O⟩,M⟩:=h.trans.box k _ F;have q:=h.out k _ D;unfold qO at q;rw[g]at q;have C:=oY h hk n;simp only[tgt,g,Ent.id]at C;rcases q with⟨L,K,j,B,J⟩|⟨w,esz,rows,j,B⟩
      ·injection j with j;subst j;refine⟨⟨K,J,?_⟩,?_⟩
       all_goals grind [vB,vG,yL]
      cases j
     simp_all
  |elem k e i g=>
   grind [GW]
  |other h1 h2=>
   refine⟨⟨cs,by rw[<-hb];exact h.same b h1 h2,rfl⟩,?_⟩;grind [fP,VW]
 cases uX (es:=es) (new:=new) (kf:=kf) b with
 |out k hk ht n=>
  cases g:es[k]? with
  |none=>
   exfalso;simp only[tgt,g]at ht;have G:es.length<=k:=by simp_all
   have:=h.dead (k-es.length) (by omega);simp_all
  |some e=>
   cases e with
   |elem b e i=>simp_all
   |whole R=>
    simp only[tgt,g,Ent.id]at ht;subst ht;obtain⟨x,F,y⟩:=sI h.cin g;rcases y with⟨cs',l,h1,h2,rfl⟩|⟨w,v,rows',h1,rfl⟩;simp_all;rw[hb]at h1;injection h1 with h1;injection h1 with a1 a2 a3;subst a1 a2 a3;obtain⟨wm',A,D,O,M,q4⟩:=h.trans.arr k _ _ _ F;have q:=h.out k _ D;unfold qO at q;rw[g]at q;have C:=oY h hk n;simp only[tgt,g,Ent.id]at C;rcases q with⟨L,K,j,B,J⟩|⟨w,Q,P,j,B⟩;cases j;injection j with a1 a2 a3;subst a1 a2 a3;exact⟨wm',A,B,O,M,λe=>by grind [yL]⟩
 |elem k e i g=>
  obtain⟨v,rows',row,r',T,z,f2,f3,S,f5,f6,Y,W,U,I⟩:=GW h g;rw[hb]at z;injection z with z;injection z with a1 a2 a3;subst a1 a2 a3;exact⟨true,_,U,λ_=>rfl,by simp,λ_=>by rw[I,S]⟩
 |other h1 h2=>
  refine⟨wm,rows,by rw[<-hb];exact h.same b h1 h2,id,zQ0 _,λ_=>?_⟩;grind [fP,VW]
include h in
theorem JOp:Inv (fP s1 es new kf c' σ2):=by
 have hi:=h.cin.inv;have t:=xt h;have M: ∀{b},¬(b∈es.map Ent.id\/(new<=b/\b<new+kf))->b∉es.map Ent.id/\(b<new\/new+kf<=b):=λH=>⟨λB=>H (.inl B),by omega⟩;have A: ∀{k b e i r o},es[k]?=some (.elem b e i)->(Wr1 (iO s1 es blks) k r o↔Wr1 c' k r o):=(by intro k b e i r o q;obtain⟨x,hx,a7⟩:=sI h.cin q;obtain⟨esz,rows,row,h1,h2,h3,rfl⟩:=a7;obtain⟨⟨cs',q1,q2⟩,q3⟩:=h.trans.box k _ hx;grind [iO,Wr1]);have N: ∀{k b r o},k<es.length+kf->Wr1 c' k r o->Wr1 s1 b r o->(∃n,es[n]?=some (.whole b)\/ ∃e i,es[n]?=some (.elem b e i)/\n=k):=by
  intro k b r o hk J hb;rcases yk h ⟨k,J⟩with⟨n,e,q,ak,y⟩|H;have E:=hi.apart _ _ _ _ y hb;cases e with
  |whole b'=>grind [Ent.id]
  |elem b' e' i'=>
   simp only[Ent.id]at E;subst E;have:=h.inv.apart _ _ _ _ ((A q).1 ak) J;grind
  have:=xH hi b r o hb;omega
 refine nM hi t (λb=>b∈es.map Ent.id\/(new<=b/\b<new+kf)) ?_ ?_ ?_ ?_ ?_ ?_ ?_ ?_;intro b H;obtain⟨h1,h2⟩:=M H;exact⟨h.same b h1 h2,by grind [fP,VW]⟩;intro b r o v H J hv;refine h.trans.keep.cell ?_ hv;rintro⟨k,hk⟩;obtain⟨D,y⟩:=uH h.cin k r o hk;have q:es[k]?=some es[k]:=bA D;rw[xO q]at y;have:=hi.apart _ _ _ _ y J;simp_all;intro b cs hd hb;have hb:σ2[b]?=some (.box cs):=hb;cases uX (es:=es) (new:=new) (kf:=kf) b with
 |other h1 h2=>grind
 |elem k e i q=>
  grind [GW]
 |out k hk ht U=>
  subst ht;have D:k<c'.σ.length:=by rw[h.len];exact hk
  have hg:c'.σ[k]?=some c'.σ[k]:=bA D;have ho:=h.out k _ hg;unfold qO at ho;have a6: ∃W,c'.σ[k]?=some (.box W)/\bk.bkL es new W=some cs:=by
   cases q:es[k]? with
   |some e=>
    grind [tgt,Ent.id]
   |none=>
    grind [tgt]
  obtain⟨W,h0,hl⟩:=a6;obtain⟨k1,k2⟩:=vB hl;obtain⟨r,o,c,e,fz,B,hh,c5,hx,ba⟩:=h.inv.box _ _ h0;refine⟨r,o,c,e,fz,by grind [oY],hh,by omega,λi x c1=>?_,by simp_all⟩;grind [JC,O8]
 intro b wm esz rows hd hb;have hb:σ2[b]?=some (.arr wm esz rows):=hb;cases uX (es:=es) (new:=new) (kf:=kf) b with
 |other h1 h2=>grind
 |elem k e i q=>
  obtain⟨bf,rows',row,r',bj,f1,f2,f3,f4,f5,f6,f7,f8,f9,bc⟩:=GW h q;rw[hb]at f9;injection f9 with f9;injection f9 with a1 a2 a3;subst a1 a2 a3;have D:=JC f3;rcases hi.arr _ _ _ _ f1 with⟨B,T⟩|⟨r,c,e1,fz,B,hh,ai,hl,hx,ba⟩;simp_all;rw[f4]at B;injection B with B;injection B with B _;subst B;obtain⟨c2,q1,q2,q3⟩:=t.keep.2.1 _ _ _ _ hh;obtain⟨rr,oo,c3,e3,c4,m3,R,bg,b0,bi⟩:=h.inv.box _ _ f5;rw[f8]at m3;injection m3 with m3;injection m3 with z I;subst z I;have b3:c'.w.heap[r']?=some (.cells c2 e1 fz):=q1;rw[b3]at R;injection R with R;injection R with z I w3;subst z I w3;refine .inr ⟨r',c2,e1,fz,bc,q1,λc7 c6=>?_,by simp;omega,λO j af x0 L Y=>⟨?_,λh=>by cases h⟩,by simp_all⟩;grind;have bt:=JC Y;by_cases ae:O=i;subst ae;rw[DZ D]at L;injection L with L;subst L;obtain⟨v,hv,T,_⟩:=b0 j (.p x0) (by simp[Y]);refine⟨v,hv,?_⟩;cases T with|p _ _ T=>exact T
  rw[ch (Ne.symm ae)]at L;obtain⟨⟨v',c8,aw⟩,_⟩:=hx O j af x0 L Y;refine⟨v',?_,aw.mono hi t⟩;have a9:cellAt s1.w r' (O*esz+j)=some v':=by grind [lP]
  have b4:j<esz:=by grind
  have ay: ¬Wr (iO s1 es blks) r' (O*esz+j):=by
   rintro⟨n,g⟩;obtain⟨F,y⟩:=uH h.cin n _ _ g;have C:es[n]?=some es[n]:=bA F;rw[xO C]at y;have bd:Wr1 s1 b r' (O*esz+j):=by grind [Wr1]
   have E:=hi.apart _ _ _ _ y bd;have K:n=k:=FW h C q E;subst K;obtain⟨x,b7,a7⟩:=sI h.cin q;obtain⟨bp,be,V,G,S,g3,rfl⟩:=a7;rw[f1]at G;injection G with G;injection G with z1 z2 z3;subst z2 z3;have ag:(iO s1 es blks).σ[n]?=some (.box (V.map .p)):=b7;unfold Wr1 at g;rw[ag,VZ q f1 f4]at g;obtain⟨o0,Z,hlo,b5⟩:=g;injection Z with Z;injection Z with _ Z;subst Z;have bm:=ai V (jM g3);simp at b5;rcases zQ3 O i with aj|bq;have:=nO aj b4;omega;have:=zQ4 esz (show i+1<=O by omega);grind
  have:=h.trans.keep.cell ay a9;grind [lP]
 |out k hk ht U=>
  subst ht;have D:k<c'.σ.length:=by rw[h.len];exact hk
  have hg:c'.σ[k]?=some c'.σ[k]:=bA D;have ho:=h.out k _ hg;unfold qO at ho;have a6:c'.σ[k]?=some (.arr wm esz rows):=by
   cases q:es[k]? with
   |some e=>
    grind [tgt,Ent.id]
   |none=>
    grind [tgt]
  rcases h.inv.arr _ _ _ _ a6 with⟨B,T⟩|⟨r,c,e,fz,B,hq⟩;exact .inl ⟨by grind [oY],T⟩;exact .inr ⟨r,c,e,fz,by grind [oY],hq⟩
 
 intro b1 b2 r o hd h1 h2;cases uX (es:=es) (new:=new) (kf:=kf) b1 with
 |other G S=>grind
 |out k1 a5 b8 al=>
  subst b8;have z:=(MX h a5 al r o).1 h1;cases uX (es:=es) (new:=new) (kf:=kf) b2 with
  |out k2 Q a4 P=>subst a4;have I:=(MX h Q P r o).1 h2;rw[h.inv.apart _ _ _ _ z I]
  |elem k2 e i q=>
   exfalso;have I:=(NO h q r o).1 h2;obtain⟨n,g|⟨e',i',g,K⟩⟩:=N a5 z I;have:=FW h g q rfl;simp_all;simp_all
  |other G S=>
   exfalso;have I:=(kr h G S r o).1 h2;obtain⟨n,g|⟨e',i',g,K⟩⟩:=N a5 z I;exact G (TI g);simp_all
 |elem k1 e1 i1 ad=>
  have z:=(NO h ad r o).1 h1;cases uX (es:=es) (new:=new) (kf:=kf) b2 with
  |out k2 Q a4 P=>
   subst a4;exfalso;have I:=(MX h Q P r o).1 h2;obtain⟨n,g|⟨e',i',g,K⟩⟩:=N Q I z;have:=FW h g ad rfl;simp_all;simp_all
  |elem k2 e i q=>exact hi.apart _ _ _ _ z ((NO h q r o).1 h2)
  |other G S=>exact hi.apart _ _ _ _ z ((kr h G S r o).1 h2)
 exact λr o hc=>(h.inv.const r o hc).1;intro r o b hc hd J;cases uX (es:=es) (new:=new) (kf:=kf) b with
 |other G S=>grind
 |out k hk ht U=>subst ht;exact(h.inv.const r o hc).2 _ ((MX h hk U r o).1 J)
 |elem k e i q=>
  have z:=(NO h q r o).1 J;rcases h.trans.cnew r o hc with a0|⟨n,g⟩|H;exact(hi.const r o a0).2 _ z;obtain⟨F,y⟩:=uH h.cin n _ _ g;have C:es[n]?=some es[n]:=bA F;rw[xO C]at y;have E:=hi.apart _ _ _ _ y z;have K:n=k:=FW h C q E;subst K;exact(h.inv.const r o hc).2 _ ((A q).1 g);have H:s1.w.heap.size<=r:=H;have:=xH hi _ _ _ z;omega
 intro r o b hc b6 hd J;rcases h.trans.cnew r o hc with a0|⟨n,g⟩|H;exact b6 a0;obtain⟨F,y⟩:=uH h.cin n _ _ g;have C:es[n]?=some es[n]:=bA F;rw[xO C]at y;have E:=hi.apart _ _ _ _ y J;simp_all;have H:s1.w.heap.size<=r:=H;have:=xH hi _ _ _ J;omega
end
section
variable {P:Program} {F:Orc} {s:Sn} {a:Act} {env:List (Nat×AV)} {o:Oper} {new:Nat} {e:Eff}
theorem Qr{r:List Blk}(hi:Inv s)(B:Frz r s.σ){x:AV}{y:AV×List (Nat×Blk)}{v:Value}(h:(jT x).run ⟨env,r⟩=some y)(hr:JH s x v):
  ∃g',Inv ⟨upd y.2 s.σ,g',s.w⟩/\bD s ⟨upd y.2 s.σ,g',s.w⟩/\Frz s.σ (upd y.2 s.σ)/\JH ⟨upd y.2 s.σ,g',s.w⟩ y.1 v:=by
 have same: ∀{z:AV},(RM.ret (z,[]):RM (AV×List (Nat×Blk))).run ⟨env,r⟩=some y->JH s z v-> ∃g',Inv ⟨upd y.2 s.σ,g',s.w⟩/\bD s ⟨upd y.2 s.σ,g',s.w⟩/\Frz s.σ (upd y.2 s.σ)/\JH ⟨upd y.2 s.σ,g',s.w⟩ y.1 v:=(by intro z j hr;simp only[RM.run]at j;injection j with j;subst j;exact⟨s.g,hi,.refl s,.refl _,hr⟩);cases x with
 |slr b i n=>
  simp only[jT]at h;obtain⟨C,h1,h⟩:=bind_some h;obtain⟨g',o,A,q,c,hc,E⟩:=OD hi B h1 hr;rw[hc]at h;simp only[RM.run]at h;injection h with h;subst h;exact⟨g',o,A,q,.p _ _ E⟩
 |agg cs=>
  simp only[jT]at h;obtain⟨C,h1,h⟩:=bind_some h;simp only[RM.run]at h;injection h with h;subst h;obtain⟨g',o,A,q,F,D⟩:=gp hi B h1 hr;cases hr with
  |agg _ vs h1 I h2=>exact⟨g',o,A,q,.data _ _ F λi x v G H=>D i x v G H⟩
 |tup=>grind [jT,RM.run]
 |p c=>exact same h hr
 |data cs=>exact same h hr
 |ptr b off=>exact same h hr
 |cp cs off=>exact same h hr
 |ep b e i off=>exact same h hr
 |fn f first caps=>exact same h hr
 |unk=>exact same h hr
 |pre b n k=>exact same h hr
theorem yo{o:List Blk}: ∀{xs:List AV} {s:Sn} {y:List AV×List (Nat×Blk)} {vs:List Value},Inv s->Frz o s.σ->(lE xs).run ⟨env,o⟩=some y->xs.length=vs.length->
  (∀(i:Nat) x v,xs[i]?=some x->vs[i]?=some v->JH s x v)->
  ∃g',Inv ⟨upd y.2 s.σ,g',s.w⟩/\bD s ⟨upd y.2 s.σ,g',s.w⟩/\Frz s.σ (upd y.2 s.σ)/\y.1.length=vs.length/\
   ∀(i:Nat) x v,y.1[i]?=some x->vs[i]?=some v->JH ⟨upd y.2 s.σ,g',s.w⟩ x v
 |[],s,y,vs,hi,e,h,hl,j=>by
  simp only[lE,RM.run]at h;injection h with h;subst h;exact⟨s.g,hi,.refl s,.refl _,by simpa using hl,λi c v hc=>by simp at hc⟩
 |x::xs,s,y,[],hi,e,h,hl,j=>by simp at hl
 |x::xs,s,y,v::vs,hi,e,h,hl,j=>by
  simp only[lE]at h;obtain⟨r,h1,h⟩:=bind_some h;obtain⟨J,h2,h⟩:=bind_some h;simp only[RM.run]at h;injection h with h;subst h;obtain⟨C,i1,n,k,H⟩:=Qr hi e h1 (j 0 x v rfl rfl);obtain⟨B,i2,q,z,A,I⟩:=yo (s:=⟨upd r.2 s.σ,C,s.w⟩) i1 (e.trans k) h2 (by simpa using hl) λi x v D E=>(j (i+1) x v (by simpa using D) (by simpa using E)).mono hi n;refine⟨B,by grind [fE],by rw[fE];exact n.trans q,by rw[fE];exact k.trans z,by simp[A],λi c' G hc' F=>?_⟩;grind [JH.mono,upd]
def Lk(s1:Sn)(es:List Ent)(new:Nat)(e:Ent)(x:Blk)(y:Nat×Blk):Prop:=
 y.1=e.id/\match e with
 | .whole _=>(∃cs l,x=.box cs/\bk.bkL es new cs=some l/\y.2=.box l)\/(∃w esz rows,x=.arr w esz rows/\y.2=.arr w esz rows)
 | .elem b _ i=> ∃w esz rows g,s1.σ[b]?=some (.arr w esz rows)/\x=.box (g.map .p)/\y.2=.arr w esz (rows.set i g)
theorem JHE{g:List Blk}{ws:List (Nat×Blk)}(j:s.σ=upd ws g){es:List Ent}{en:Ent}{x:Blk}{y:Nat×Blk}(h:(uS ws es new en x).run ⟨env,g⟩=some y):Lk s es new en x y:=by
 unfold uS at h;split at h;rename_i b cs;split at h;rename_i l hl;simp only[RM.run]at h;injection h with h;subst h;exact⟨rfl,.inl ⟨cs,l,rfl,hl,rfl⟩⟩;cases h;simp only[RM.run]at h;injection h with h;subst h;exact⟨rfl,.inr ⟨_,_,_,rfl,rfl⟩⟩;rename_i b ext i cs;obtain⟨z,h1,h⟩:=bind_some h;have hb:=kv h1;rw[<-j]at hb;cases z with
 |arr w esz rows=>
  dsimp only at h;split at h;rename_i e k;simp only[RM.run]at h;injection h with h;subst h;exact⟨rfl,w,esz,rows,e,hb,by grind [NU],rfl⟩;cases h
 |_=>cases h
 cases h
theorem A1{j:List Blk}{ws:List (Nat×Blk)}(n:s.σ=upd ws j){es:List Ent}: ∀{e:List Ent} {xs:List Blk} {g:List (Nat×Blk)},(jK ws es new e xs).run ⟨env,j⟩=some g->
  e.length=g.length/\e.length<=xs.length/\ ∀(k:Nat) en x y,e[k]?=some en->xs[k]?=some x->g[k]?=some y->Lk s es new en x y
 |[],xs,g,h=>by grind [jK,RM.run]
 |_::_,[],g,h=>by cases h
 |en::e,x::xs,g,h=>by
  simp only[jK]at h;obtain⟨y,h1,h⟩:=bind_some h;obtain⟨l,h2,h⟩:=bind_some h;simp only[RM.run]at h;injection h with h;subst h;obtain⟨o,q,r⟩:=A1 n h2;grind [JHE]
theorem m5{es:List Ent}: ∀{xs:List Blk} {g:Nat} {e:List (Nat×Blk)},iH es new g xs=some e->
  xs.length=e.length/\ ∀(j:Nat) x y,xs[j]?=some x->e[j]?=some y->y.1=g+j/\((∃cs l,x=.box cs/\bk.bkL es new cs=some l/\y.2=.box l)\/(∃w esz rows,x=.arr w esz rows/\y.2=.arr w esz rows))
 |[],g,e,h=>by grind [iH]
 | .dead::_,g,e,h=>by grind [iH]
 | .box cs::xs,g,e,h=>by
  simp only[iH]at h;split at h;rename_i c l hc hl;injection h with h;subst h;obtain⟨k,n⟩:=m5 hl;grind;cases h
 | .arr w esz rows::xs,g,e,h=>by
  simp only[iH]at h;split at h;rename_i l hl;injection h with h;subst h;obtain⟨k,n⟩:=m5 hl;grind;cases h
theorem yf(b:Nat)(p q:List (Nat×Blk)):kF b (p++q)=match kF b q with
  |some y=>some y
  |none=>kF b p:=by
 induction p with
 |nil=>grind [kF]
 |cons x p ih=>
  grind [kF]
theorem kz{b:Nat}{x:Blk}: ∀{ws:List (Nat×Blk)},(ws.map (·.1)).Nodup-> ∀{k:Nat},ws[k]?=some (b,x)->kF b ws=some x
 |[],_,k,h=>by simp at h
 |(c,z)::r,hn,k,h=>by
  obtain⟨h1,h2⟩:=List.nodup_cons.1 hn;simp only[kF];cases k with
  |zero=>
   grind [yN]
  |succ k=>rw[kz h2 (k:=k) (by simpa using h)]
theorem JDA(n k:Nat):((List.range k).map (n+ ·)).Nodup:=by
 grind [List.nodup_range]
theorem yj(hF:kK P F){f:FuncId}{ar:List AV×List (Nat×Blk)}{q:Nat}{vals:Array Value}(H: ∀j,j<q->s.σ[new+j]?=some .dead)
  {g1:Gh} (i1:Inv ⟨upd ar.2 s.σ,g1,s.w⟩) (t1:bD s ⟨upd ar.2 s.σ,g1,s.w⟩) (f1:Frz s.σ (upd ar.2 s.σ)) (l1:ar.1.length=vals.toList.length)
  (r1: ∀(i:Nat) x v,ar.1[i]?=some x->vals.toList[i]?=some v->JH ⟨upd ar.2 s.σ,g1,s.w⟩ x v)
  (h:(gA F f ar q new).run ⟨env,s.σ⟩=some e)
  (ai: ∀fn,P.funcs[f]?=some fn→fn.body.isSome=true→(fn.name== "runtime.NumGoroutine")=false→(execOp a.eval o).run P s.w=.ok (.enter f vals) s.w):bN P o a s e:=by
 unfold gA at h;obtain⟨b7,h2,h⟩:=bind_some h;obtain⟨es,h3,h⟩:=bind_some h;split at h;rename_i ah;split at h;cases h;rename_i N a6;obtain⟨blks,h4,h⟩:=bind_some h;split at h;cases h;rename_i r a8;split at h;rename_i V;obtain⟨k,hlen,hk⟩: ∃k,r.2.length=es.length+k/\k<=q:=⟨r.2.length-es.length,by omega,by omega⟩;have M: ∀j,j<k->s.σ[new+j]?=some .dead:=λj hj=>H j (by omega);clear V;split at h;rename_i v fresh hv K;obtain⟨n,h5,h⟩:=bind_some h;simp only[RM.run]at h;injection h with h;subst h
 let s1:Sn:=⟨upd ar.2 s.σ,g1,s.w⟩
 obtain⟨bl,a5⟩:=zu (s:=s1) rfl h4;have cin:gk s1 es blks:=⟨i1,WT ah,bl,a5⟩;obtain⟨⟨fn,af,O,S⟩,R⟩:=hF f N blks r a8;obtain⟨q1,q2⟩:=vG a6;have ci:=JS1 cin;have hc:=R (iO s1 es blks).g s.w vals ci (by grind) (λi x v hx hv=>by have A:=JC hx;have Y:ar.1[i]?=some (ar.1[i]'(by omega)):=bA _;exact Lb cin (r1 i _ v Y (by simpa using hv)) (q2 i _ x Y hx));intro next Q T;simp only[Oper.wp,ai fn af O S,Oper.upon];refine hc.mono ?_;rintro e w' ⟨rv,g',rfl,a7,I,a3⟩;simp only;obtain⟨b1,b2,b3⟩:=A1 (s:=s1) rfl h5;obtain⟨n1,n2⟩:=m5 K;have B: ∀j,j<k->s1.σ[new+j]?=some .dead:=λj hj=>f1.2 _ _ (M j hj) (by simp);have ba:(r.2.drop es.length).length=k:=by simp;omega
 have ac:n.map (·.1)=es.map Ent.id:=(by apply zQ6;intro i;rw[iS,iS];by_cases A:i<es.length;have G:es[i]?=some es[i]:=bA A;have L:n[i]?=some (n[i]'(by omega)):=bA _;have E:r.2[i]?=some (r.2[i]'(by omega)):=bA _;have:=(b3 i _ _ _ G E L).1;grind;grind);have ab: ∀j,j<k->fresh[j]?=some (new+j,(fresh[j]?.map (·.2)).getD .dead):=(by grind);have am:(fresh.map (·.1)).Nodup:=(by have:fresh.map (·.1)=(List.range k).map (new+ ·):=(by apply zQ6;grind);grind [JDA]);have al: ∀b,b∈fresh.map (·.1)↔new<=b/\b<new+k:=(by intro b;constructor;grind [List.getElem?_of_mem];intro hm;have:=ab (b-new) (by omega);grind);have W:(upd (n++fresh) s1.σ).length=s1.σ.length:=BW _ _;have U: ∀{q:Nat} {en:Ent},es[q]?=some en->en.id<s1.σ.length/\ ¬(new<=en.id/\en.id<new+k):=by
  intro q en C;obtain⟨x,_,Z⟩:=sI cin C;have z: ∃y,s1.σ[en.id]?=some y/\y≠.dead:=by
   cases en with
   |whole b=>
    rcases Z with⟨cs',l,h1,h2,rfl⟩|⟨w,a2,rows',h1,rfl⟩;exact⟨_,h1,by simp⟩;exact⟨_,h1,by simp⟩
   |elem b ext i=>obtain⟨a2,rows',row,h1,h2,h3,rfl⟩:=Z;exact⟨_,h1,by simp⟩
  obtain⟨y,z,hd⟩:=z;refine⟨JC z,λhm=>?_⟩;have:=B (en.id-new) (by omega);rw[show new+(en.id-new)=en.id by omega,z]at this;grind
 have aa: ∀{q:Nat} {en:Ent} {y:Nat×Blk},es[q]?=some en->n[q]?=some y->(upd (n++fresh) s1.σ)[en.id]?=some y.2:=by intro q en y C z;obtain⟨A,b8⟩:=U C;have E:r.2[q]?=some (r.2[q]'(by grind)):=bA _;have ag:=(b3 q en _ y C E z).1;rw[xY _ _ _ A,yf,yN (by grind)];simp only;rw[kz (x:=y.2) (by rw[ac];exact cin.nodup) (k:=q) (by grind)]
 have av: ∀{j:Nat} {y:Nat×Blk},j<k->fresh[j]?=some y->(upd (n++fresh) s1.σ)[new+j]?=some y.2:=(by grind [xY,yf,kz]);have co:M9 s1 es blks new k ⟨r.2,g',w'⟩ (upd (n++fresh) s1.σ):=by
  refine⟨cin,a7,I,hlen,W,B,λq y z=>?_,λb bc b9=>?_⟩;have z:r.2[q]?=some y:=z;unfold qO;cases C:es[q]? with
  |some en=>
   have A:=JC C;have L:n[q]?=some (n[q]'(by omega)):=bA _;obtain⟨ag,a0⟩:=b3 q en y _ C z L;have hg:=aa C L;cases en with
   |whole b=>
    rcases a0 with⟨cs,l,G,E,J⟩|⟨w,esz,rows,G,J⟩;exact .inl ⟨cs,l,G,E,by rw[<-J];exact hg⟩;exact .inr ⟨w,esz,rows,G,by rw[<-J];exact hg⟩
   |elem b ext i=>obtain⟨w,esz,rows,a4,G,E,J⟩:=a0;exact⟨w,esz,rows,a4,G,E,by rw[<-J];exact hg⟩
  |none=>
   have bb:es.length<=q:=(by grind);have A:=JC z;have L:fresh[q-es.length]?=some (fresh[q-es.length]'(by omega)):=bA _;grind
  grind [xY,yN]
 have oi:=JOp co;have ot:=xt co;have D:upd (ar.2++n++fresh) s.σ=upd (n++fresh) s1.σ:=by grind [fE]
 refine T rv w' (fP s1 es new k ⟨r.2,g',w'⟩ (upd (n++fresh) s1.σ)).g ?_ ?_ ?_;rw[D];exact oi;rw[D];exact t1.trans ot;rw[D];exact O8 co a3 hv;cases h;cases h;cases h
theorem Nn{f:FuncId}{args:List AV}{k:Nat}{s:St}(h:(iU F f args k new).run s=some e): ∃ar,(lE args).run s=some ar/\(gA F f ar k new).run s=some e:=by
 unfold iU at h;obtain⟨ar,h1,h⟩:=bind_some h;obtain⟨w,h2,h⟩:=bind_some h;obtain⟨es,v,h⟩:=bind_some h;refine⟨ar,h1,?_⟩;unfold gA;rw[run_bind,h2,Jy,run_bind,v,Jy];split at h;rename_i n;rw[if_pos n];split at h;cases h;rename_i o g;obtain⟨blks,q,h⟩:=bind_some h
 try rw[g]
 try dsimp only
 rw[run_bind,q,Jy];split at h;cases h;rename_i r j
 try rw[j]
 try dsimp only
 split at h;grind;cases h;cases h
theorem Nr(A:kK P F)(hi:Inv s){f:FuncId}{args:List AV}{k:Nat}{vals:Array Value}(g: ∀j,j<k->s.σ[new+j]?=some .dead)
  (h:(iU F f args k new).run ⟨env,s.σ⟩=some e) (hl:args.length=vals.size) (hr: ∀(i:Nat) x v,args[i]?=some x->vals[i]?=some v->JH s x v)
  (r: ∀fn,P.funcs[f]?=some fn→fn.body.isSome=true→(fn.name== "runtime.NumGoroutine")=false→(execOp a.eval o).run P s.w=.ok (.enter f vals) s.w):bN P o a s e:=by
 obtain⟨ar,h1,h2⟩:=Nn h;obtain⟨D,i1,B,z,C,y⟩:=yo (vs:=vals.toList) hi (.refl _) h1 (by simpa using hl) (λi x v n q=>hr i x v n (by simpa using q));grind [yj]
theorem JJl{q:List Blk}: ∀{m:List Bool} {xs:List AV} {s:Sn} {y:List AV×List (Nat×Blk)} {vs:List Value},Inv s->Frz q s.σ->(fO m xs).run ⟨env,q⟩=some y->xs.length=vs.length->
  (∀(i:Nat) x v,xs[i]?=some x->vs[i]?=some v->JH s x v)->
  ∃g',Inv ⟨upd y.2 s.σ,g',s.w⟩/\bD s ⟨upd y.2 s.σ,g',s.w⟩/\Frz s.σ (upd y.2 s.σ)/\y.1.length=vs.length/\
   ∀(i:Nat) x v,y.1[i]?=some x->vs[i]?=some v->JH ⟨upd y.2 s.σ,g',s.w⟩ x v:=by
 intro m xs
 induction xs generalizing m with
 |nil=>
  intro s y vs hi o h hl j;have h:(RM.ret ([],[]):RM (List AV×List (Nat×Blk))).run ⟨env,q⟩=some y:=by cases m<;>exact h
  simp only[RM.run]at h;injection h with h;subst h;exact⟨s.g,hi,.refl s,.refl _,by simpa using hl,λi c v hc=>by simp at hc⟩
 |cons x xs ih=>
  intro s y vs hi o h hl j;cases vs with
  |nil=>simp at hl
  |cons v vs=>
   have r: ∀{z:List Bool},((jT x).bind λa=>(fO z xs).bind λc=>.ret (a.1::c.1,a.2++c.2)).run ⟨env,q⟩=some y->
     ∃g',Inv ⟨upd y.2 s.σ,g',s.w⟩/\bD s ⟨upd y.2 s.σ,g',s.w⟩/\Frz s.σ (upd y.2 s.σ)/\y.1.length=(v::vs).length/\
      ∀(i:Nat) x n,y.1[i]?=some x->(v::vs)[i]?=some n->JH ⟨upd y.2 s.σ,g',s.w⟩ x n:=by
    intro z h;obtain⟨H,h1,h⟩:=bind_some h;obtain⟨J,h2,h⟩:=bind_some h;simp only[RM.run]at h;injection h with h;subst h;obtain⟨K,i1,G,F,L⟩:=Qr hi o h1 (j 0 x v rfl rfl);obtain⟨C,i2,k,A,B,I⟩:=ih (m:=z) (s:=⟨upd H.2 s.σ,K,s.w⟩) i1 (o.trans F) h2 (by simpa using hl) λi x v D E=>(j (i+1) x v (by simpa using D) (by simpa using E)).mono hi G;refine⟨C,by grind [fE],by rw[fE];exact G.trans k,by rw[fE];exact F.trans A,by simp[B],λi c' n hc' e=>?_⟩;grind [JH.mono,upd]
   cases m with
   |nil=>exact r h
   |cons b m=>
    cases b with
    |false=>exact r h
    |true=>
     simp only[fO]at h;obtain⟨J,h2,h⟩:=bind_some h;simp only[RM.run]at h;injection h with h;subst h;obtain⟨C,i2,k,A,B,I⟩:=ih (m:=m) hi o h2 (by simpa using hl) λi x v D E=>j (i+1) x v (by simpa using D) (by simpa using E);refine⟨C,i2,k,A,by simp[B],λi c' n hc' e=>?_⟩;cases i with
     |zero=>simp at hc' e;subst hc' e;exact(j 0 x v rfl rfl).mono hi k
     |succ i=>grind
theorem ni{f:FuncId}{args:Array Value}{fn:Func}(h1:P.funcs[f]?=some fn)(h2:fn.body.isSome=true)(h3:(fn.name== "runtime.NumGoroutine")=false)(w:World):
  (callFunc f args).run P w=.ok (.enter f args) w:=by
 have e:fn.name≠ "runtime.NumGoroutine" :=by simpa using h3
 have g:fn.body≠none:=by grind
 simp_all [callFunc]
theorem JOO(y:kK P F)(hi:Inv s)(he:bO s a.tmps env){f args k}(n: ∀j,j<k->s.σ[new+j]?=some .dead)(h:(opR F (.call f args k) new).run ⟨env,s.σ⟩=some e)
  (hc:JX P (.call f args k) o.op=true):bN P o a s e:=by
 simp only[opR]at h;obtain⟨vs,h1,w⟩:=bind_some h;clear h;unfold JX at hc;simp only at hc;split at hc;rename_i c C;split at hc;rename_i g z;simp only[aV,beq_iff_eq]at hc;obtain⟨rfl,q⟩:=hc;obtain⟨l,r⟩:=GD he h1 q;refine Nr y hi n w (vals:=c.args.map a.eval) (by simpa using l) (λi x v A B=>r i x v A (by simpa using B)) λfn G E D=>?_;simp_all [execOp,resolve,Act.eval,Deferred.ofValue,invoke,ni];cases hc;cases hc
theorem JKZ(A:kK P F)(hi:Inv s)(he:bO s a.tmps env){f keep args k}(n: ∀j,j<k->s.σ[new+j]?=some .dead)(h:(opR F (.callo f keep args k) new).run ⟨env,s.σ⟩=some e)
  (hc:JX P (.callo f keep args k) o.op=true):bN P o a s e:=by
 simp only[opR]at h;obtain⟨vs,h1,w⟩:=bind_some h;obtain⟨ar,h2,G⟩:=bind_some w;clear h w;unfold JX at hc;simp only at hc;split at hc;rename_i c J;split at hc;rename_i g B;simp only[aV,beq_iff_eq]at hc;obtain⟨rfl,q⟩:=hc;obtain⟨l,r⟩:=GD he h1 q;obtain⟨E,i1,C,z,D,y⟩:=JJl (vs:=(c.args.map a.eval).toList) hi (.refl _) h2 (by simpa using l) (λi x v H I=>r i x v H (by simpa using I));refine yj A n (vals:=c.args.map a.eval) i1 C z D y G λfn E L K=>?_;simp_all [execOp,resolve,Act.eval,Deferred.ofValue,invoke,ni];cases hc;cases hc
theorem JKT(C:kK P F)(hi:Inv s)(he:bO s a.tmps env){x args k}(g: ∀j,j<k->s.σ[new+j]?=some .dead)(h:(opR F (.callv x args k) new).run ⟨env,s.σ⟩=some e)
  (hc:JX P (.callv x args k) o.op=true):bN P o a s e:=by
 simp only[opR]at h;obtain⟨u,E,q⟩:=bind_some h;clear h;unfold JX at hc;simp only at hc;split at hc;rename_i c G;split at hc;rename_i y D;simp only[aV]at hc;obtain⟨B,n⟩:=hc;have A:=bK he E B;cases u with
 |fn f first caps=>
  dsimp only at q;obtain⟨vs,h1,w⟩:=bind_some q;obtain⟨l,r⟩:=GD he h1 n;generalize O:a.eval y=z at A;cases A with
  |fn _ _ _ fs cs K J H I=>
   have L:vs.length=c.args.size:=by simpa using l
   refine Nr C hi g w (vals:=fs++c.args.map a.eval++cs) (by simp;omega) (λi x v B R=>?_) λfn Q N M=>?_;grind;grind [execOp,resolve,Deferred.ofValue,invoke,ni]
 |_=>cases q
 cases hc;cases hc
end
section
variable {P:Program} {F:Orc} {s:Sn} {a:Act} {env:List (Nat×AV)} {o:Oper} {new:Nat} {e:Eff}
theorem ju: ∀(os:List (Nat×Nat)) (n:Nat) {s:Sn},Inv s->(∀j,j<os.length->s.σ[n+j]?=some .dead)->
  ∃g',Inv ⟨upd (iE os n) s.σ,g',s.w⟩/\bD s ⟨upd (iE os n) s.σ,g',s.w⟩/\
   (∀j,j<os.length->(∃esz,(upd (iE os n) s.σ)[n+j]?=some (.arr true esz []))/\g'.μ (n+j)=none)/\
   (∀b,b<n\/n+os.length<=b->(upd (iE os n) s.σ)[b]?=s.σ[b]?/\g'.μ b=s.g.μ b)
 |[],n,s,hi,_=>⟨s.g,hi,.refl s,λj e=>by simp at e,λb _=>⟨rfl,rfl⟩⟩
 |(off,esz)::r,n,s,hi,hd=>by
  obtain⟨i1,v⟩:=UY hi (hd 0 (by simp)) esz;obtain⟨g',i2,q,h1,h2⟩:=ju r (n+1) (s:=⟨s.σ.set n (.arr true esz []),fL s.g n none,s.w⟩) i1 (λj e=>by
   show(s.σ.set n _)[n+1+j]?=_;rw[sT (by omega)];have:=hd (j+1) (by simp;omega);grind)
  refine⟨g',i2,v.trans q,λj e=>?_,λb hb=>?_⟩;cases j with
  |zero=>
   obtain⟨o,k⟩:=h2 n (.inl (by omega));refine⟨⟨esz,?_⟩,?_⟩;grind [upd,iE];rw[wI,k];exact if_pos rfl
  |succ j=>have:=h1 j (by simpa using e);rw[show n+(j+1)=n+1+j by omega];exact this
  obtain⟨o,k⟩:=h2 b (by grind);have h:n≠b:=by grind
  exact⟨o.trans (sT h),k.trans (if_neg (Ne.symm h))⟩
theorem Ag{t:TypeId}{os:List (Nat×Nat)}{v:Value}(hv:zeT P t=some v)(h:RP P t os=true): ∀x∈os,v.cells[x.1]?=some (.slice none 0 0):=by
 grind [RP]
theorem jt{cells:Array Value}: ∀(os:List (Nat×Nat)) (n:Nat) {cs:List AV},(∀x∈os,cells[x.1]?=some (.slice none 0 0))->
  (∀j,j<os.length->(∃esz,s.σ[n+j]?=some (.arr true esz []))/\s.g.μ (n+j)=none)->
  (∀(i:Nat) x,cs[i]?=some x-> ∃u,cells[i]?=some u/\JH s x u/\u.oneCell'=true)->
  ∀(i:Nat) x,(nD os n cs)[i]?=some x-> ∃u,cells[i]?=some u/\JH s x u/\u.oneCell'=true
 |[],_,_,_,_,h=>h
 |(off,esz)::r,n,cs,hz,ha,h=>by
  refine jt r (n+1) (λx e=>hz x (by simp[e])) (λj q=>by
   have:=ha (j+1) (by simpa using q);grind) λi x e=>?_
  by_cases hi:off=i;subst hi;have k:=JC e;rw[List.length_set]at k;rw[DZ k]at e;injection e with e;subst e;obtain⟨⟨o,h1⟩,h2⟩:=ha 0 (by simp);rw[wI]at h1 h2;exact⟨.slice none 0 0,hz (off,esz) (by simp),.slr n 0 0 _ true o [] ⟨none,0,rfl,.inl rfl⟩ h1 (zQ0 _) λ_=>.inl ⟨h2,rfl,rfl,rfl⟩,rfl⟩;simp_all
theorem kx: ∀(os:List (Nat×Nat)) (n:Nat) (cs:List AV),(nD os n cs).length=cs.length|[],_,_=>rfl|_::r,n,cs=>(kx r (n+1) _).trans (by simp)
theorem JGf(hi:Inv s){zero os}(n: ∀j,j<os.length+1->s.σ[new+j]?=some .dead)(h:(opR F (.newboxo zero os) new).run ⟨env,s.σ⟩=some e)(hc:JX P (.newboxo zero os) o.op=true):bN P o a s e:=by
 simp only[opR,RM.run]at h;injection h with h;subst h;unfold JX at hc;simp only at hc;split at hc;rename_i t J;simp only[aV]at hc;obtain⟨B,E⟩:=hc;obtain⟨v,G,hl,D⟩:=yO B;obtain⟨r,i1,z,h1,h2⟩:=ju os new hi λj M=>n j (by omega);have hd:(upd (iE os new) s.σ)[new+os.length]?=some .dead:=((h2 _ (.inr (zQ0 _))).1).trans (n _ (by omega))
 let s1:Sn:=⟨upd (iE os new) s.σ,r,s.w⟩
 obtain⟨A,t'⟩:=UR (s0:=s1) i1 hd (blk:=.box (nD os new (zero.map .p))) (c:=v.cells) (e:=t) (fz:=(0,0)) (w':={s.w with heap:=s.w.heap.push (.cells v.cells t)}) rfl rfl rfl
  (λo _ _ h=>by simp at h) (λ_ _ _ h=>by cases h) ⟨by grind [kx],λi x q=>by
   obtain⟨u,L,K,I⟩:=jt (s:=s1) (cells:=v.cells) os new (Ag G E) h1 (λi x q=>by
    rw[iS]at q;cases hzi:zero[i]? with
    |none=>simp_all
    |some c=>
     simp[hzi]at q;subst q;have H:=JC hzi;have y:i<v.cells.size:=by omega
     have:=D (w:=s1.w) (C:=s1.g.C) i c v.cells[i] hzi (by simp);exact⟨v.cells[i],by simp,.p _ _ this,this.one⟩) i x q
   simp_all⟩
 have k:upd (iE os new++[(new+os.length,Blk.box (nD os new (zero.map .p)))]) s.σ=(upd (iE os new) s.σ).set (new+os.length) (.box (nD os new (zero.map .p))):=by rw[fE];rfl
 refine gE (e:=⟨.ptr (new+os.length) 0,iE os new++[(new+os.length,.box (nD os new (zero.map .p)))]⟩) (v:=.pointer (some ⟨s.w.heap.size,0,none⟩)) (g':=fL r (new+os.length) (some (s.w.heap.size,0))) ?_
  (by rw[k];exact A) (by rw[k];exact z.trans t') (by rw[k];exact .ptr (new+os.length) 0 _ 0 (if_pos rfl) ⟨_,jP hd⟩)
 simp_all [execOp,Instr.alloc,GS,newVar,newRow];cases hc
theorem JJi(hi:Inv s)(he:bO s a.tmps env)(hn:s.σ[new]?=some .dead){esz x}(h:(opR F (.storen esz x) new).run ⟨env,s.σ⟩=some e)(hc:JX P (.storen esz x) o.op=true):bN P o a s e:=by
 simp only[opR]at h;obtain⟨u,h1,L⟩:=bind_some h;obtain⟨G,h2,B⟩:=bind_some L;clear h L;simp only[RM.run]at B;injection B with B;subst B;obtain⟨J,Q⟩:=UY hi hn esz;unfold JX at hc;simp only at hc;split at hc;rename_i t M ae;simp only[aV,beq_iff_eq]at hc;obtain⟨hs,hx⟩:=hc;have v:=bK he h1 hx;have N: ∀{r n:Nat} {w':World},a.eval M=.pointer (some ⟨r,n,none⟩)->(storeVar t ⟨r,n,none⟩ (.slice none 0 0)).run P s.w=.ok () w'->(execOp a.eval o).run P s.w=.ok .skip w':=by intro r n w' R a7;have aa:a.eval (.const (.slice none 0 0))=.slice none 0 0:=rfl;simp_all [execOp,Instr.storeAt,Instr.sureAddr]
 unfold iV at h2;split at h2;rename_i b off;simp only[RM.run]at h2;split at h2;rename_i blk hb;split at h2;rename_i cs;split at h2;rename_i l hl;split at h2;rename_i a4;split at h2;rename_i cs' D;simp only[RM.run]at h2;injection h2 with h2;subst h2;have hb:s.σ[b]?=some (.box cs):=hb;have O:new≠b:=λe=>by simp_all
 let s1:Sn:=⟨s.σ.set new (.arr true esz []),fL s.g new none,s.w⟩
 have C:s1.σ[b]?=some (.box cs):=(sT O).trans hb;have Z:JH s1 (.slr new 0 0) (.slice none 0 0):=
  .slr new 0 0 _ true esz [] ⟨none,0,rfl,.inl rfl⟩ (jP hn) (zQ0 _) λ_=>.inl ⟨if_pos rfl,rfl,rfl,rfl⟩
 generalize R:a.eval M=z at v;have v:=JH.mono (s:=s1) hi Q v;cases v with
 |ptr _ _ r n m a8=>
  obtain⟨k1,I,Y⟩:=XF hl Z;obtain⟨S,j2,U,j4⟩:=UI D;obtain⟨r1,o1,c,W,fz,A,H,ab,a9,hf⟩:=J.box b cs C;rw[m]at A;injection A with A;injection A with m1 m2;subst m1 m2;have q:=HT (vs:=(Value.slice none 0 0).cells.toList) (o:=n+off) H (by simp;omega);have hlen:(Value.slice none 0 0).cells.toList.length=l.length:=by simp[k1]
  obtain⟨i',t'⟩:=lq (s0:=s1) J (blk:=.box cs') C q (λk h1 h2=>by
   grind [Wr1]) (.box _ _ S) (λa5 j E=>by
   injection j with j;subst j;obtain⟨c0,e0,ad,c',y,T,p3,p4,V,p6⟩:=q.there;rw[H]at y;injection y with y;injection y with q1 q2 q3;subst q1 q2 q3;refine⟨r,n,c',W,fz,m,T,by omega,λi x K=>?_,by simp_all⟩;by_cases af:off<=i/\i<off+l.length;have G:cs'[off+(i-off)]?=l[i-off]?:=U (i-off) (by omega);rw[show off+(i-off)=i by omega,K]at G;have a6:i-off<(Value.slice none 0 0).cells.size:=by omega
   have e2:=V (i-off) (Value.slice none 0 0).cells[i-off] (by simp);refine⟨(Value.slice none 0 0).cells[i-off],by rw[<-e2];congr 1;omega,E (Y (i-off) x _ G.symm (by simp)),I _ (by simp)⟩;grind)
   (λ_ _ j=>by cases j)
  refine la (e:=⟨hH,(new,.arr true esz [])::[(b,.box cs')]⟩) (N R (nn (by simp_all) H (by omega) (λk h1 h2=>hf k (by omega) (by omega)) I)) rfl i' (Q.trans t')
 cases h2;cases h2;cases h2;cases h2;cases h2;rename_i b ext i off;have ac:(fz (.slr new 0 0)).run ⟨env,s.σ⟩=none:=(by grind [fz,RM.run]);simp only[RM.run]at h2;split at h2;split at h2;split at h2;split at h2;grind [run_bind];cases h2;cases h2;cases h2;cases h2;cases h2;cases hc
theorem JJM(hi:Inv s)(he:bO s a.tmps env){zero parts os}(D: ∀j,j<os.length->s.σ[new+j]?=some .dead)(h:(opR F (.buildo zero parts os) new).run ⟨env,s.σ⟩=some e)
  (hc:JX P (.buildo zero parts os) o.op=true):bN P o a s e:=by
 simp only[opR]at h;obtain⟨l,h1,q⟩:=bind_some h;clear h;unfold JX at hc;simp only at hc;split at hc;rename_i t ps a8;simp only[aV]at hc;obtain⟨⟨hz,hn⟩,ht⟩:=hc;obtain⟨z,M,a9,O⟩:=yO hz;obtain⟨Q,i1,N,J,aa⟩:=ju os new hi D;split at q;rename_i cs hcs;split at q;rename_i r h3;simp only[RM.run]at q;injection q with q;subst q
 let s1:Sn:=⟨upd (iE os new) s.σ,Q,s.w⟩
 have E: ∀(i:Nat) x,(nD os new (zero.map AV.p))[i]?=some x-> ∃u,z.cells[i]?=some u/\JH s1 x u/\u.oneCell'=true:=
  jt (s:=s1) (cells:=z.cells) os new (Ag M hn) J (by
   intro i x I;rw[iS]at I;cases hzi:zero[i]? with
   |none=>simp_all
   |some c=>
    simp[hzi]at I;subst I;have K:=JC hzi;have W:i<z.cells.size:=by omega
    have:=O (w:=s1.w) (C:=s1.g.C) i c z.cells[i] hzi (by simp);exact⟨z.cells[i],by simp,.p _ _ this,this.one⟩)
 have fin: ∀{place:Nat->Option (Nat×Nat)},sS place parts ps.toList=true->
   ∃n,Instr.fill place z.cells (ps.toList.map λx=>(x.1,a.eval x.2))=some n/\JH s1 r (.agg n):=by
  intro place B;obtain⟨T,k2⟩:=mi he h1 B;obtain⟨n,L,Z,f3⟩:=kg (s:=s1) (cells:=z.cells) hcs T (λk off size cs i v hk G=>by obtain⟨Y,V,S,U⟩:=k2 k off size cs i v hk G;exact⟨Y,V,S,λj y u R H=>(U j y u R H).mono hi N⟩) (by grind [kx]) E;refine⟨n,L,?_⟩;have:=TY (s:=s1) (vs:=n.toList) h3 (by simpa using Z) (λv G=>by
    obtain⟨i,hi'⟩:=jU G;have hi':n[i]?=some v:=by simpa using hi'
    have K:=WU hi';obtain⟨u,H,_,h1⟩:=f3 i cs[i] (by simp_all);simp_all)
   (λi y v R G=>by
    grind)
  simp_all
 have ab:(ps.map λx=>(x.1,a.eval x.2)).toList=ps.toList.map λx=>(x.1,a.eval x.2):=by simp
 split at ht;rename_i fs H;simp only[aV]at ht;obtain⟨A,B⟩:=ht;obtain⟨n,L,hr⟩:=fin B;have a7:(λi=>(fs.map λf=>(f.offset,(szT P f.type).getD 0))[i]?)=GF P fs:=by
  funext i
  simp only[GF,Array.getElem?_map];cases hfi:fs[i]? with
  |none=>rfl
  |some f=>have:=ZV.1 A f (Array.mem_of_getElem? hfi);cases hq:szT P f.type<;>simp[hq]at this⊢
 have a1:(fs.mapM λf=>do pure (f.offset,<-sizeOf f.type):Sem (Array (Nat×Nat))).run P s.w=.ok (fs.map λf=>(f.offset,(szT P f.type).getD 0)) s.w:=by
  rw[Array.mapM_eq_mapM_toList];simp only[Sem.run_map,mj (P:=P) (fs:=fs.toList) (λf hf=>ZV.1 A f (by simpa using hf)),tW]
  congr 1
  grind
 have hf:Instr.fill (λi=>(fs.map λf=>(f.offset,(szT P f.type).getD 0))[i]?) z.cells (ps.map λx=>(x.1,a.eval x.2)).toList=some n:=by simp_all
 have hb:(Instr.build t (ps.map λx=>(x.1,a.eval x.2))).run P s.w=.ok (.agg n) s.w:=by simp_all [Instr.build,GS,run_underlying]
 refine gE (e:=⟨r,iE os new⟩) (v:=.agg n) (g':=Q) ?_ i1 N hr;simp_all [execOp];cases ht;cases q;cases q;cases hc
end
theorem Pc{new:Nat}{env:List (Nat×AV)}{σ:List Blk}: ∀{k new:Nat} {u:Unit},(uJ new k).run ⟨env,σ⟩=some u-> ∀j,j<k->σ[new+j]?=some .dead
 |0,_,_,_,j,hj=>by omega
 |k+1,new,u,h,j,hj=>by
  simp only[uJ,RM.run]at h;split at h;rename_i x e;cases x with
  |dead=>
   dsimp only at h;cases j with
   |zero=>exact e
   |succ j=>have:=Pc (new:=0) h j (by omega);grind
  |box=>cases h
  |arr=>cases h
  cases h
section
variable {P:Program} {F:Orc} {s:Sn} {a:Act} {env:List (Nat×AV)} {o:Oper} {new:Nat} {e:Eff}
theorem JSI(q:kK P F)(hi:Inv s)(he:bO s a.tmps env){n:AOp}(h:(opD F n new).run ⟨env,s.σ⟩=some e)(hc:JX P n o.op=true):bN P o a s e:=by
 unfold opD at h;obtain⟨u,hd,h⟩:=bind_some h;have g:=Pc (new:=0) hd;clear hd;have j:nG n=1->s.σ[new]?=some .dead:=λh1=>g 0 (by omega);cases n with
 |mv x=>grind [JSs]
 |mkarr esz x=>exact JLn hi (j rfl) h hc
 |pick=>grind [JO3]
 |newbox=>exact JJN hi (j rfl) h hc
 |box=>exact JPU hi he (j rfl) h hc
 |build=>grind [JLt]
 |lits=>grind [JOY,nG]
 |load=>grind [JP6]
 |store=>grind [JM5]
 |nilchk=>grind [JIL]
 |bin op t x y=>cases t<;>grind [JBD,JDH,JEd,JEq,JE7,JEn]
 |un=>grind [JSk]
 |conv k x=>
  grind [JHu,nG,JOT]
 |mkslice=>grind [JGT,nG]
 |slice=>grind [JLm]
 |faddr=>grind [JLv]
 |field=>grind [JLE]
 |iaddr=>grind [JMi]
 |aaddr=>grind [JMJ]
 |sidx=>grind [JOd]
 |aidx=>grind [JOV]
 |extr=>grind [JP0]
 |call=>exact JOO q hi he g h hc
 |callv=>exact JKT q hi he g h hc
 |len=>grind [JPQ]
 |app=>grind [JQa]
 |appn=>exact JOW hi he (j rfl) h hc
 |psuf=>exact JOJ hi he h hc
 |shr=>exact JRi hi he (j rfl) h hc
 |clr=>exact JQT hi he h hc
 |mvn=>exact JRz hi he (j rfl) h hc
 |mm=>grind [JSw]
 |mkfn=>grind [JOa]
 |newboxo=>exact JGf hi g h hc
 |buildo=>exact JJM hi he g h hc
 |storen=>exact JJi hi he (j rfl) h hc
 |callo=>exact JKZ q hi he g h hc
end
def BE(P:Program)(N:Nat)(ops:Array Oper)(i:bW)(o:Oper):Bool:=
 JX P i.op o.op&&i.dst==o.dst&&(match i.dst with
  |some d=>decide (d<N)
  |none=>true)&&(match i.g,o.guard with
  |none,none=>true
  |some (g,w),some (j,w')=>w==w'&&(ops[j]?).bind (·.dst)==some g
  |_,_=>false)
def Sim(N:Nat)(E:Sn)(st:St)(a:Act)(w:World):Prop:=a.tmps.size=N/\a.defers=[]/\ ∃g,Inv ⟨st.sto,g,w⟩/\bO ⟨st.sto,g,w⟩ a.tmps st.env/\bD E ⟨st.sto,g,w⟩
theorem bO.put{s:Sn}{tmps:Array Value}{env:List (Nat×AV)}(he:bO s tmps env){d:Nat}(hd:d<tmps.size){x:AV}{v:Value}(hv:JH s x v):
  bO s (tmps.setIfInBounds d v) ((d,x)::env):=by
 intro n y e;simp only[lk]at e;split at e;simp_all;rename_i g;obtain⟨u,h1,h2⟩:=he n y e;grind
theorem Sim.putd{N:Nat}{E:Sn}{st:St}{a:Act}{w w':World}{g g':Gh}{e:Eff}{v:Value}{d:Option Nat}
  (h1:a.tmps.size=N) (h2:a.defers=[]) (hi:Inv ⟨st.sto,g,w⟩) (he:bO ⟨st.sto,g,w⟩ a.tmps st.env) (ht:bD E ⟨st.sto,g,w⟩) (hd: ∀x,d=some x->x<N)
  (hi':Inv ⟨upd e.ws st.sto,g',w'⟩) (h:bD ⟨st.sto,g,w⟩ ⟨upd e.ws st.sto,g',w'⟩) (hv:JH ⟨upd e.ws st.sto,g',w'⟩ e.val v):
  Sim N E (Am.put d e st) (a.put d v) w':=by
 have j:=he.mono hi h;cases d with
 |none=>exact⟨h1,h2,g',hi',j,ht.trans h⟩
 |some d=>exact⟨by grind [Act.put],h2,g',hi',j.put (by simp_all) hv,ht.trans h⟩
section
variable {P:Program} {F:Orc} {N:Nat} {E:Sn} {st:St} {a:Act} {w:World} {ops:Array Oper} {i:bW} {o:Oper} {e:Eff} {new k:Nat} {Q:Exit->Act->World->Prop} {K:Act->World->Prop}
theorem JGE{s:Sn}:JH s hH undef:=.tup _ _ rfl λi x v h=>by simp at h
theorem Lu(C:kK P F)(hs:Sim N E st a w)(ho:ops[k]?=some o)(hc:BE P N ops i o=true)(h:(cB F i new).run st=some e)
  (next: ∀a' w',Sim N E (Am.put i.dst e st) a' w'->K a' w'):wpOp P ops Q k K a w:=by
 obtain⟨h1,h2,g,hi,r,ht⟩:=hs;simp only[BE,aV,beq_iff_eq]at hc;obtain⟨⟨⟨hc,hd⟩,H⟩,n⟩:=hc;have y: ∀x,i.dst=some x->x<N:=(by grind);have run: ∀{e:Eff},(opD F i.op new).run st=some e->(∀a' w',Sim N E (Am.put i.dst e st) a' w'->K a' w')->o.wp P a w K Q:=(by intro e h next;refine JSI (s:=⟨st.sto,g,w⟩) (env:=st.env) C hi r h hc K Q λv w' g' hi' G z=>next _ _ ?_;grind [Sim.putd]);have skip:(∀a' w',Sim N E (Am.put i.dst ⟨hH,[]⟩ st) a' w'->K a' w')->K (a.put o.dst undef) w:=by intro next;refine next _ _ ?_;rw[<-hd];exact Sim.putd (e:=⟨hH,[]⟩) h1 h2 hi r ht y hi (.refl _) JGE
 unfold wpOp;rw[ho];dsimp only;unfold cB at h;cases hig:i.g with
 |none=>
  grind [Region.wanted]
 |some D=>
  obtain⟨I,B⟩:=D;rw[hig]at h n;cases hog:o.guard with
  |none=>simp_all
  |some x=>
   obtain⟨j,A⟩:=x;rw[hog]at n;simp only[aV,beq_iff_eq]at n;obtain⟨rfl,M⟩:=n;simp only[RM.run]at h;split at h;rename_i v z;obtain⟨u,L,q⟩:=r _ _ z;split at h;rename_i b;cases q with
   |p _ _ q=>
    cases q with
    |b x=>
     have J:yielded ops a.tmps j=some b:=by grind [yielded]
     grind [Region.wanted,RM.run]
   cases q with
   |tup _ vs hl _=>
    grind [yielded,Region.wanted,RM.run]
   cases h;cases h
end
theorem Pz{σ:List Blk}{n b:Nat}{x:Blk}(h:(σ++List.replicate n Blk.dead)[b]?=some x)(hx:x≠.dead):σ[b]?=some x:=by
 grind
theorem yp{σ:List Blk}{n b:Nat}{x:Blk}(h:σ[b]?=some x):(σ++List.replicate n Blk.dead)[b]?=some x:=by
 grind
theorem UK{σ:List Blk}{g:Gh}{w:World}{n b r o:Nat}:Wr1 ⟨σ++List.replicate n .dead,g,w⟩ b r o↔Wr1 ⟨σ,g,w⟩ b r o:=by
 grind [Wr1]
theorem ml{σ:List Blk}{g:Gh}{w:World}{n:Nat}:bD ⟨σ,g,w⟩ ⟨σ++List.replicate n .dead,g,w⟩ where
 keep:=.refl _ _
 cmono _ _ h:=h
 cnew _ _ h:=.inl h
 wnew _ _ h:=let⟨b,hb⟩:=h;.inl ⟨b,UK.1 hb⟩
 len:=by simp
 box b cs h:=⟨⟨cs,yp h,rfl⟩,rfl⟩
 arr b wm esz rows h:=⟨wm,rows,yp h,id,zQ0 _,λ_=>rfl⟩
theorem JNc{σ:List Blk}{g:Gh}{w:World}{n:Nat}(hi:Inv ⟨σ,g,w⟩):Inv ⟨σ++List.replicate n .dead,g,w⟩:=by
 have t:=ml (σ:=σ) (g:=g) (w:=w) (n:=n);refine⟨λb cs h=>?_,λb wm esz rows h=>?_,λb1 b2 r o h1 h2=>hi.apart b1 b2 r o (UK.1 h1) (UK.1 h2),λr o hc=>⟨(hi.const r o hc).1,λb hb=>(hi.const r o hc).2 b (UK.1 hb)⟩⟩;obtain⟨r,o,c,e,fz,A,D,B,y,q⟩:=hi.box b cs (Pz h (by simp));exact⟨r,o,c,e,fz,A,D,B,λi x C=>let⟨v,j,z,k⟩:=y i x C;⟨v,j,z.mono hi t,k⟩,q⟩;exact hi.arr b wm esz rows (Pz h (by simp))
theorem Sim.room{N:Nat}{E:Sn}{st:St}{a:Act}{w:World}(h:Sim N E st a w)(n:Nat):Sim N E ⟨st.env,room n st.sto⟩ a w:=by
 unfold Am.room;split;exact h;obtain⟨h1,h2,g,hi,e,ht⟩:=h;exact⟨h1,h2,g,JNc hi,e.mono hi ml,ht.trans ml⟩
theorem Sim.heap{N:Nat}{E:Sn}{st:St}{a:Act}{w w':World}(h:Sim N E st a w)(hh:w'.heap=w.heap)(ho:w'.os=w.os)(hp:w'.output=w.output):Sim N E st a w':=by obtain⟨h1,h2,g,hi,j,ht⟩:=h;obtain⟨e,t'⟩:=xz hi hh ho hp;exact⟨h1,h2,g,e,j.mono hi t',ht.trans t'⟩
theorem Sim.congr{N:Nat}{E:Sn}{st st':St}{a:Act}{w:World}(h:Sim N E st a w)(he: ∀m,lk m st'.env=lk m st.env)(hs:st'.sto=st.sto):Sim N E st' a w:=by obtain⟨h1,h2,g,hi,e,ht⟩:=h;refine⟨h1,h2,g,?_⟩;rw[hs];exact⟨hi,λn x j=>e n x (by simp_all),ht⟩
def eN(P:Program)(N:Nat)(ops:Array Oper):List bW->List Oper->Bool|[],[]=>true|i::r,o::q=>BE P N ops i o&&eN P N ops r q|_,_=>false
def WX(x y:bW):Bool:=
 (match x.dst with
 |none=>true
 |some m=>y.dst !=some m&& !(yH y).contains m)&&(match y.dst with
 |none=>true
 |some m=> !(yH x).contains m)
def VM(x y:bW):Bool:=(!AA x.op|| !PM y.op)&&(!AA y.op|| !PM x.op)
def KZ:List Nat->List Nat->List Nat|[],acc=>acc|x::r,acc=>match acc.contains x with|true=>KZ r acc|false=>KZ r (x::acc)
theorem k9{i:Nat}: ∀{l acc:List Nat},i∈KZ l acc->i∈l\/i∈acc
 |[],_,h=>.inr h
 |x::r,acc,h=>by
  simp only[KZ]at h;split at h;exact(k9 h).imp (eF _) id
  ·rcases k9 h with h|h
   all_goals grind
def Ku(l:List Nat):List Nat:=KZ l []
theorem JKH{i:Nat}{l:List Nat}(h:i∈Ku l):i∈l:=(k9 h).resolve_right (by simp)
def K9(acc:List (List Nat))(o:Oper):List Nat:=Ku<|(o.after.toList.filter λe=>Region.binds .any e).flatMap λe=>e.on::(acc[e.on]?).getD []
def s6(acc:List (List Nat)):List Oper->List (List Nat)|[]=>acc|o::r=>s6 (acc++[K9 acc o]) r
def ik(e:List (List Nat))(pairs:List (Nat×Nat))(i j:Nat)(x y:bW):Bool:=
 ((e[j]?).getD []).contains i||(WX x y&&(VM x y||pairs.contains (i,j)))
def NR(e:List (List Nat))(pairs:List (Nat×Nat))(j:Nat)(y:bW):Nat->List bW->Bool|_,[]=>true|i,x::r=>(decide (j<=i)||ik e pairs i j x y)&&NR e pairs j y (i+1) r
def UN(e:List (List Nat))(pairs:List (Nat×Nat))(all:List bW):Nat->List bW->Bool|_,[]=>true|j,y::r=>NR e pairs j y 0 all&&UN e pairs all (j+1) r
def VB:Nat->List Oper->Bool|_,[]=>true|j,o::r=>(o.after.all λe=> !Region.binds .any e||decide (e.on<j))&&VB (j+1) r
def uk(P:Program)(N:Nat)(draw:Bool)(pairs:List (Nat×Nat))(ins:List bW)(ops:Array Oper):Bool:=
 eN P N ops ins ops.toList&&(!draw||(VB 0 ops.toList&&UN (s6 [] ops.toList) pairs ins 0 ins))
section
variable {P:Program} {F:Orc} {N:Nat} {E:Sn} {st st':St} {a:Act} {w:World} {ops:Array Oper} {Q:Exit->Act->World->Prop}
theorem xu: ∀{ins:List bW} {os:List Oper},eN P N ops ins os=true->ins.length=os.length/\ ∀(k:Nat) i,ins[k]?=some i-> ∃o,os[k]?=some o/\BE P N ops i o=true
 |[],[],_=>⟨rfl,by simp⟩
 |i::r,o::q,h=>by
  simp only[eN,aV]at h;obtain⟨h1,h2⟩:=xu h.2;grind
 |[],_::_,h=>by grind [eN]
 |_::_,[],h=>by grind [eN]
theorem yr(n:kK P F): ∀{r:List bW} {k new:Nat} {st:St} {a:Act} {w:World},(∀(j:Nat) i,r[j]?=some i-> ∃o,ops[k+j]?=some o/\BE P N ops i o=true)->
  gP F r new st=some st'->Sim N E st a w->(∀a' w',Sim N E st' a' w'->Q .normal a' w')->wpOps P ops Q (List.range' k r.length) a w
 |[],k,new,st,a,w,_,h,hs,next=>by simp only[gP]at h;cases h;exact next a w hs
 |i::r,k,new,st,a,w,hc,h,hs,next=>by
  simp only[gP]at h;split at h;rename_i e x;obtain⟨o,q,g⟩:=hc 0 i rfl;rw[kQ,List.range'_succ,wpOps_cons];refine Lu n hs q g x λa' w' hs'=>yr n (λj i v=>?_) h hs' next;obtain⟨o,q,g⟩:=hc (j+1) i (by simpa using v);grind;cases h
theorem Le: ∀{ins:List bW} {g:Nat} {st:St},gP F ins g st=some st'->
  ∃(new:Nat->Nat) (S:Nat->St) (eff:Nat->Eff),Run F ins new S eff/\S 0=st/\S ins.length=st'
 |[],g,st,h=>by
  simp only[gP]at h;injection h with h;subst h;exact⟨λ_=>0,λ_=>st,λ_=>⟨hH,[]⟩,⟨by simp⟩,rfl,rfl⟩
 |i::r,g,st,h=>by
  simp only[gP]at h;split at h;rename_i e o;obtain⟨new,S,eff,j,q,hl⟩:=Le h;refine⟨fun|0=>g|k+1=>new k,fun|0=>st|k+1=>S k,fun|0=>e|k+1=>eff k,⟨λk x n=>?_⟩,rfl,hl⟩;cases k with
  |zero=>simp_all
  |succ k=>exact j.step k x (by simpa using n)
  cases h
theorem Mb: ∀{ins:List bW} {g:Nat} {st:St} {l j:Log},kJ F ins g st l=some (st',j)->
  ∃(new:Nat->Nat) (S:Nat->St) (eff:Nat->Eff),Run F ins new S eff/\S 0=st/\S ins.length=st'/\
   (∀k,k<l.length->j[k]?=l[k]?)/\ ∀(k:Nat) i,ins[k]?=some i->j[l.length+k]?=some (kM ((cB F i (new k)).reads (S k)),(eff k).ws.map (·.1))
 |[],g,st,l,j,h=>by
  simp only[kJ]at h;injection h with h;injection h with h1 h2;subst h1 h2;exact⟨λ_=>0,λ_=>st,λ_=>⟨hH,[]⟩,⟨by simp⟩,rfl,rfl,λ_ _=>rfl,by simp⟩
 |i::r,g,st,l,j,h=>by
  simp only[kJ]at h;split at h
  ·rename_i e w;obtain⟨new,S,eff,o,q,hl,v,y⟩:=Mb h;refine⟨fun|0=>g|k+1=>new k,fun|0=>st|k+1=>S k,fun|0=>e|k+1=>eff k,⟨λk x n=>?_⟩,rfl,hl,λk hk=>?_,λk x n=>?_⟩
   cases k with
   |zero=>simp_all
   |succ k=>exact o.step k x (by simpa using n)
   all_goals grind
  cases h
theorem WQ{b:Nat}: ∀{l:List Loc},Loc.blk b∈l->b∈kM l
 | .blk c::r,h=>by
  simp only[kM,cJ]at*;rcases h with h|h;simp_all;exact .inr (WQ h)
 | .slot n::r,h=>by simp only[kM];refine WQ ?_;simpa using h
 |[],h=>by simp at h
theorem kt{a b:List Nat}(h:gV a b=true){x:Nat}(hx:x∈a):x∉b:=by
 grind [gV]
theorem zy{l:Log}: ∀{ps:List (Nat×Nat)} {i j:Nat},GM l ps=true->(i,j)∈ps->
  ∃x y,l[i]?=some x/\l[j]?=some y/\gV x.2 y.1=true/\gV x.2 y.2=true/\gV x.1 y.2=true
 |[],i,j,_,h=>by simp at h
 |(p,q)::r,i,j,h,hm=>by
  simp only[GM,aV]at h;obtain⟨h1,h2⟩:=h;rcases cJ.1 hm with e|e;grind;exact zy h2 e
def i5(ops:Array Oper)(D:Nat->Bool)(k:Nat):Prop:= ∀o,ops[k]?=some o-> ∀e∈o.after,Region.binds .any e=true->D e.on=true
def K4(ops:Array Oper)(D:Nat->Bool):Prop:= ∀k,D k=true->i5 ops D k
def qu(ops:Array Oper)(k i:Nat):Prop:= ∀D,K4 ops D->i5 ops D k->D i=true
theorem Me: ∀{os:List Oper} {acc:List (List Nat)},(∀(j:Nat) o,os[j]?=some o->ops[acc.length+j]?=some o)->(∀(k:Nat) l i,acc[k]?=some l->i∈l->qu ops k i)->
  ∀(k:Nat) l i,(s6 acc os)[k]?=some l->i∈l->qu ops k i
 |[],acc,_,h=>h
 |o::r,acc,w,h=>by
  refine Me (os:=r) (acc:=acc++[K9 acc o]) (λj x z=>?_) λk l i hk hi=>?_;have:=w (j+1) x (by simpa using z);grind;rcases NM hk with hk|⟨A,hk⟩;simp_all;have n:k=acc.length:=(by grind);subst n;simp at hk;subst hk;intro D hD y;replace hi:=JKH hi;simp only[List.mem_flatMap,List.mem_filter]at hi;obtain⟨e,⟨v,q⟩,hi⟩:=hi;have g:=y o (by simpa using w 0 o rfl) e (by simpa using v) q;rcases cJ.1 hi with rfl|hi;exact g;cases hac:acc[e.on]? with
  |none=>simp_all
  |some l=>rw[hac]at hi;exact h _ l i hac hi D hD (hD _ g)
theorem Av{g:List (List Nat)}{pairs:List (Nat×Nat)}{j:Nat}{y:bW}: ∀{r:List bW} {e:Nat},NR g pairs j y e r=true-> ∀(k:Nat) x,r[k]?=some x->e+k<j->ik g pairs (e+k) j x y=true
 |[],e,_,k,x,n,_=>by simp at n
 |z::r,e,h,k,x,n,o=>by
  simp only[NR,aV,ER,decide_eq_true_eq]at h;cases k with
  |zero=>grind
  |succ k=>
   have:=Av h.2 k x (by simpa using n) (by omega);grind
theorem zq{g:List (List Nat)}{pairs:List (Nat×Nat)}{all:List bW}: ∀{r:List bW} {e:Nat},UN g pairs all e r=true-> ∀(k:Nat) y,r[k]?=some y->NR g pairs (e+k) y 0 all=true
 |[],e,_,k,y,j=>by simp at j
 |z::r,e,h,k,y,j=>by
  simp only[UN,aV]at h;cases k with
  |zero=>simp_all
  |succ k=>
   have:=zq h.2 k y (by simpa using j);grind
theorem Au: ∀{r:List Oper} {g:Nat},VB g r=true-> ∀(k:Nat) o,r[k]?=some o-> ∀e∈o.after,Region.binds .any e=true->e.on<g+k
 |[],g,_,k,o,j=>by simp at j
 |z::r,g,h,k,o,j=>by
  simp only[VB,aV]at h;cases k with
  |zero=>
   grind [Array.all_eq_true_iff_forall_mem]
  |succ k=>intro e n hb;have:=Au h.2 k o (by simpa using j) e n hb;omega
theorem JLW{x y:bW}(h:WX x y=true):(∀m,x.dst=some m->y.dst≠some m/\m∉yH y)/\(∀m,y.dst=some m->m∉yH x):=by
 grind [WX]
variable {ins:List bW} {new:Nat->Nat} {S:Nat->St} {eff:Nat->Eff}
theorem JMR(hr:Run F ins new S eff){i j:Nat}(hi:i<ins.length)(hj:j<ins.length)(h1:WX ins[i] ins[j]=true)
  (h2:VM ins[i] ins[j]=true\/(gV ((eff i).ws.map (·.1)) (kM ((cB F ins[j] (new j)).reads (S j)))=true/\
   gV ((eff i).ws.map (·.1)) ((eff j).ws.map (·.1))=true/\gV (kM ((cB F ins[i] (new i)).reads (S i))) ((eff j).ws.map (·.1))=true)):RN F ins new S eff i j:=by
 obtain⟨s1,A⟩:=JLW h1;have n:ins[i]?=some ins[i]:=bA hi;have k:ins[j]?=some ins[j]:=bA hj;obtain⟨v,_⟩:=hr.step i _ n;obtain⟨q,_⟩:=hr.step j _ k;refine⟨λx y m g e o=>?_,λx y m g e o hl=>?_,λy b e hb=>?_,λx b g hb hl=>?_⟩;rw[n]at g;cases g;rw[k]at e;cases e;exact⟨(s1 m o).1,λhl=>(s1 m o).2 (Pa F _ _ _ _ hl)⟩;rw[n]at g;cases g;rw[k]at e;cases e;exact A m o (Pa F _ _ _ _ hl);rw[k]at e;cases e;rcases h2 with h2|⟨r,w,z⟩;simp only[VM,aV,ER,ZQ]at h2;rcases h2.1 with h|h;rw[ig F _ _ h _ _ v]at hb;simp at hb;refine⟨?_,Pp F _ _ h _ _ q b⟩;rw[ig F _ _ (Ll h) _ _ q];simp;exact⟨kt w hb,λhl=>kt r hb (WQ hl)⟩;rw[n]at g;cases g;rcases h2 with h2|⟨r,w,z⟩;simp only[VM,aV,ER,ZQ]at h2;rcases h2.2 with h|h;rw[ig F _ _ h _ _ q]at hb;simp at hb;exact Pp F _ _ h _ _ v b hl;grind [kt,WQ]
def Dl(e:Array Bool):Nat->Bool:=λj=>e.getD j false
theorem Mg{e:Array Bool}{i:Nat}(hi:i<e.size):Dl (e.setIfInBounds i true)=λj=>if j=i then true else Dl e j:=by
 funext j
 unfold Dl;by_cases h:j=i
 all_goals simp_all [Ne.symm]
theorem zk{l:Array Bool}{i:Nat}(hi:i<l.size)(h:l.getD i false=false):(l.setIfInBounds i true).count false+1=l.count false:=by
 have e:l[i]=false:=by simp_all
 grind [Array.getElem_mem]
theorem zj{l:Array Bool}(h:l.count false=0){i:Nat}(hi:i<l.size):l.getD i false=true:=by
 grind [zk]
theorem K0{l:Array Bool}: ∀m,m<=l.size->(∀j,j<m->Dl l j=true)\/ ∃k,k<m/\Dl l k=false/\ ∀j,j<k->Dl l j=true
 |0,_=>.inl λj e=>by omega
 |m+1,h=>by
  rcases K0 (l:=l) m (by omega)with h1|⟨k,a,b,c⟩
  all_goals grind
theorem JJR{l:Array Bool}{j:Nat}(hj:j<l.size):l.getD j true=l.getD j false:=by simp[hj]
theorem JS0(W:kK P F)(hr:Run F ins new S eff)(hlen:ins.length=ops.size)(hc: ∀(k:Nat) i,ins[k]?=some i-> ∃o,ops[k]?=some o/\BE P N ops i o=true)
  (D: ∀(k:Nat) o,ops[k]?=some o-> ∀e∈o.after,Region.binds .any e=true->e.on<k)
  (H: ∀i j,i<j->j<ins.length->qu ops j i\/RN F ins new S eff i j)
  (next: ∀a' w',Sim N E (S ins.length) a' w'->Q .normal a' w'):
  ∀(n:Nat) (g:Array Bool) (st:St) (a:Act) (w:World),g.size=ops.size->Agree ins eff (S 0) (Dl g) st->Sim N E st a w->K4 ops (Dl g)->g.count false=n->
   wpAny P .any ops Q n g a w:=by
 intro n
 induction n with
 |zero=>
  intro g st a w I B hs r A;refine⟨?_,?_⟩;cases hre:Region.ready .any ops g with
  |nil=>rfl
  |cons j l=>
   exfalso;have h:j∈Region.ready .any ops g:=by rw[hre];simp
   grind [mem_ready,zj]
  ·obtain⟨e1,Z⟩:=JJ9 hr B λj x=>zj A (by omega);exact next a w (hs.congr (λm=>(e1 m).symm) Z.symm)
 |succ n ih=>
  intro g st a w I B hs r A;refine⟨λY=>?_,λk hk=>?_⟩;exfalso;rcases K0 (l:=g) ops.size (by omega)with z|⟨k,hk,C,J⟩;have:g.count false=0:=(by rw[Array.count_eq_zero];intro h;obtain⟨i,hi,y⟩:=Array.getElem_of_mem h;have:=z i (by omega);unfold Dl at this;simp[hi,y]at this);omega;have h:k∈Region.ready .any ops g:=(by rw[mem_ready];refine⟨by rw[JJR (by omega)];exact C,ops[k],by simp[hk],λe y hb=>?_⟩;exact J _ (D k ops[k] (by simp[hk]) e y hb));simp_all;obtain⟨h1,o,T,z⟩:=mem_ready.1 hk;have V:k<ops.size:=(Array.getElem?_eq_some_iff.1 T).1;have C:Dl g k=false:=by grind [Dl]
  have L:ins[k]?=some (ins[k]'(by omega)):=bA _;obtain⟨o',R,M⟩:=hc k _ L;have q:i5 ops (Dl g) k:=by intro K v e y hb;rw[T]at v;cases v;exact z e y hb
  obtain⟨U,r2⟩:=JMk hr B L C (λj x hDj=>by
   rcases H j k x (by omega)with h|h;have:=h _ r q;simp_all;exact h) (λj x O hDj=>by
   rcases H k j x O with h|h;have:=h _ r (r j hDj);simp_all;exact h)
  refine Lu W hs R M U λa' w' hs'=>ih _ _ a' w' (by simp[I]) ?_ hs' ?_ ?_;grind [Mg];rw[Mg (by omega)];intro j x K v e y hb;dsimp only at x⊢;have h:Dl g e.on=true->(if e.on=k then true else Dl g e.on)=true:=by simp_all
  by_cases G:j=k;subst G;exact h (q K v e y hb);rw[if_neg G]at x;exact h (r j x K v e y hb);grind [zk]
theorem JQq(W:kK P F)(H:P.follows .mixedOrders=true){id:Nat}{draw:Bool}{pairs:List (Nat×Nat)}{ins:List bW}(h:region F pairs ins st=some st')
  (hc:uk P N draw pairs ins ops=true) (hs:Sim N E st a w) (next: ∀a' w',Sim N E st' a' w'->Q .normal a' w'):(Code.region id ops draw).wp P Q a w:=by
 simp only[uk,aV,ER,ZQ]at hc;obtain⟨K,B⟩:=hc;obtain⟨hlen,G⟩:=xu K;have hlen:ins.length=ops.size:=by simp_all
 have G: ∀(k:Nat) i,ins[k]?=some i-> ∃o,ops[k]?=some o/\BE P N ops i o=true:=λk i hi=>by simp_all
 have R:=hs.room (news ins);have J: ∃(new:Nat->Nat) (S:Nat->St) (eff:Nat->Eff),Run F ins new S eff/\S 0=⟨st.env,room (news ins) st.sto⟩/\S ins.length=st'/\
   ∀i j,(i,j)∈pairs-> ∃x y,ins[i]?=some x/\ins[j]?=some y/\gV ((eff i).ws.map (·.1)) (kM ((cB F y (new j)).reads (S j)))=true/\
   gV ((eff i).ws.map (·.1)) ((eff j).ws.map (·.1))=true/\gV (kM ((cB F x (new i)).reads (S i))) ((eff j).ws.map (·.1))=true:=by
  unfold region at h;split at h;grind [Le];split at h;rename_i s' l n;split at h;rename_i M;cases h;obtain⟨new,S,eff,D,C,hl,_,q⟩:=Mb n;refine⟨new,S,eff,D,C,hl,λi j hm=>?_⟩;obtain⟨x,y,V,U,d1,d2,d3⟩:=zy M hm;have O: ∀(k:Nat) z,l[k]?=some z->k<ins.length:=by
   intro k z hk;have:=JC hk;have a3:l.length=ins.length:=by
    clear q D C hl M V U;have: ∀{r:List bW} {e:Nat} {s0:St} {A v:Log} {s1:St},kJ F r e s0 A=some (s1,v)->v.length=A.length+r.length:=by
     intro r
     induction r with
     |nil=>simp[kJ]
     |cons i r ih=>
      grind [kJ]
    grind
   omega
  have hi:=O i x V;have g:=O j y U;have L:ins[i]?=some ins[i]:=bA hi;have I:ins[j]?=some ins[j]:=bA g;have Y:=q i _ L;have Z:=q j _ I;simp only[List.length_nil,qM]at Y Z;grind;cases h;cases h
 obtain⟨new,S,eff,D,C,hl,M⟩:=J;cases draw with
 |false=>
  refine wp_region ?_;rw[List.range_eq_range',<-hlen];have a4: ∃e,gP F ins e ⟨st.env,room (news ins) st.sto⟩=some st':=by
   unfold region at h;split at h;grind;split at h;rename_i s' l n;split at h;cases h;have: ∀{r:List bW} {e:Nat} {s0:St} {A v:Log} {s1:St},kJ F r e s0 A=some (s1,v)->gP F r e s0=some s1:=by
    intro r
    induction r with
    |nil=>intro e s0 A v s1 h;simp only[kJ]at h;injection h with h;injection h with h1 h2;subst h1;rfl
    |cons i r ih=>
     grind [kJ,gP]
   grind;cases h;cases h
  grind [yr]
 |true=>
  obtain⟨he,hd⟩:=B.resolve_left (by simp);refine wp_region_any H ?_;have T:Sim N E (S 0) a {w with drawn:=w.drawn+1}:=by rw[C];exact R.heap rfl rfl rfl
  refine JS0 W D hlen G (λk o ho=>?_) (λi j hij g=>?_) (by simp_all) ops.size _ (S 0) a _ (by simp) ?_ T ?_ ?_;have:=Au he k o (by simpa using ho);simp_all;have L:ins[i]?=some (ins[i]'(by omega)):=bA _;have I:ins[j]?=some ins[j]:=bA g;have h1:=zq hd j _ I;rw[qM]at h1;have h2:=Av h1 i _ L (by omega);rw[qM]at h2;simp only[ik,ER,aV]at h2;rcases h2 with h2|⟨h2,h3⟩;grind [Me];grind [JMR];have:Dl (Array.replicate ops.size false)=λ_=>false:=by
   funext j;unfold Dl;simp[Array.getElem?_replicate];split<;>rfl
  rw[this];exact JE6;intro j g;unfold Dl at g;simp[Array.getElem?_replicate]at g;grind;simp
end
def dH(P:Program)(N:Nat):cG->Code->Bool
 | .bad,_=>true
 | .skip,c=>match c with| .skip=>true| .label _=>true|_=>false
 | .reg draw pairs ins,c=>match c with| .region _ ops d=>draw==d&&uk P N draw pairs ins ops|_=>false
 | .seq a b,c=>match c with| .seq x y=>dH P N a x&&dH P N b y|_=>false
 | .cond o a b,c=>match c with| .cond p x y=>bM o p&&dH P N a x&&dH P N b y|_=>false
 | .block id a,c=>match c with| .block e x=>id==e&&dH P N a x|_=>false
 | .loop _ a,c=>match c with| .loop x=>dH P N a x|_=>false
 | .lp _ _ _,_=>false
 | .scope a,c=>match c with| .scope x=>dH P N a x|_=>false
 | .exit id,c=>match c with| .exit e=>id==e|_=>false
 | .ret,c=>match c with| .ret=>true|_=>false
 | .keep _ a,c=>dH P N a c
 | .tidy _ a,c=>dH P N a c
 | .br _ pre o a b rest,c=>match c with| .seq (.seq p (.cond q x y)) z=>dH P N pre p&&bM o q&&dH P N a x&&dH P N b y&&dH P N rest z|_=>false
def sL:AX->Exit| .normal=>.normal| .exit id=>.exit id| .ret=>.ret
def NJ(P:Program)(c:cG)(st:St)(r:Out):Prop:=
 match c with
 | .lp n _ b=> ∃k,∀(N:Nat) (e:Code) (E:Sn) (a:Act) (w:World) (Q:Exit->Act->World->Prop),dH P N b e=true->E.σ.length<=n->n<=st.sto.length->Sim N E st a w->
   (∀a' w',Sim N E r.2 a' w'->Q (sL r.1) a' w')->Code.rounds P e Q k a w
 |c=> ∀(N:Nat) (e:Code) (E:Sn) (a:Act) (w:World) (Q:Exit->Act->World->Prop),dH P N c e=true->Sim N E st a w->
  (∀a' w',Sim N E r.2 a' w'->Q (sL r.1) a' w')->e.wp P Q a w
theorem NJ.get{P:Program}{c:cG}{st:St}{r:Out}(h:NJ P c st r){N:Nat}{e:Code}{E:Sn}{a:Act}{w:World}{Q:Exit->Act->World->Prop}(hc:dH P N c e=true)(hs:Sim N E st a w)
  (next: ∀a' w',Sim N E r.2 a' w'->Q (sL r.1) a' w'):e.wp P Q a w:=by
 cases c<;>first|exact h N e E a w Q hc hs next|grind [dH]
theorem VN{env:List (Nat×AV)}{n:Nat}{x:AV}: ∀{live:List Nat},lk n (restr live env)=some x->lk n env=some x
 |[],h=>by grind [restr,lk]
 |k::r,h=>by
  simp only[restr]at h;split at h;rename_i v e;simp only[lk]at h;split at h;simp_all;exact VN h;exact VN h
theorem N0{m:Nat}{sto:List Blk}{n:Nat}{y:AV}: ∀{env g:List (Nat×AV)},wF m sto env=some g->lk n g=some y-> ∃x,lk n env=some x/\fin m [] sto x=some y
 |[],g,h,hy=>by grind [wF,lk]
 |(k,x)::r,g,h,hy=>by
  simp only[wF]at h;split at h;rename_i z l o hl;injection h with h;subst h;simp only[lk]at hy⊢;split at hy;simp_all;rename_i e;obtain⟨j,h1,h2⟩:=N0 hl hy;simp_all;cases h
section
variable {P:Program} {N:Nat} {E:Sn} {st st':St} {a:Act} {w:World}
theorem Sim.restr(h:Sim N E st a w)(live:List Nat):Sim N E ⟨restr live st.env,st.sto⟩ a w:=by obtain⟨h1,h2,g,hi,e,ht⟩:=h;exact⟨h1,h2,g,hi,λn x j=>e n x (VN j),ht⟩
theorem VG{n:Nat}{live:List Nat}(h:Sim N E st a w)(hc:clean n live st=some st')(q:E.σ.length<=n)(hn:n<=st.sto.length):Sim N E st' a w/\st'.sto.length=n:=by
 unfold clean at hc;split at hc;rename_i e;injection hc with hc;subst hc;exact⟨h.restr live,e⟩;split at hc;rename_i ev l o hl;injection hc with hc;subst hc;obtain⟨h1,h2,g,hi,z,ht⟩:=h;obtain⟨C,D⟩:=WO hl;have hlen:l.length=n:=by simp_all
 have j:tk ⟨st.sto,g,w⟩ n [] l:=(by refine⟨hi,hn,List.nodup_nil,λb hb=>by simp at hb,by simp[hlen],λk x hk=>?_⟩;grind [uZ]);refine⟨⟨h1,h2,(kW ⟨st.sto,g,w⟩ n [] l).g,M5 j,λk y r=>?_,ya j ht q⟩,hlen⟩;obtain⟨x,A,hf⟩:=N0 o r;obtain⟨v,B,hrel⟩:=z k x (VN A);exact⟨v,B,ie j hrel hf⟩;cases hc
def pJ(P:Program):List wG->List ResultVar->Bool|[],[]=>true| .tmp t::r,.tmp t'::q=>t==t'&&pJ P r q| .cell t agg size::r,.cell t' ty::q=>t==t'&&agT P ty==some agg&&szT P ty==some size&&pJ P r q|_,_=>false
def cu(tmps:Array Value):ResultVar->Sem Value| .tmp t=>pure (tmps.getD t undef)| .cell a t=>do loadVar t (<-asAddr (tmps.getD a undef))
theorem il{s:Sn}{env:List (Nat×AV)}{tmps:Array Value}(hi:Inv s)(he:bO s tmps env): ∀{A:List wG} {B:List ResultVar} {vs:List AV},pJ P A B=true->(oV A).run ⟨env,s.σ⟩=some vs->
  ∃g:List Value,(B.mapM (cu tmps)).run P s.w=.ok g s.w/\vs.length=g.length/\ ∀(i:Nat) x v,vs[i]?=some x->g[i]?=some v->JH s x v
 |[],[],vs,_,h=>by simp_all [oV,RM.run]
 | .tmp t::r,.tmp t'::q,vs,hc,h=>by
  simp only[pJ,aV,beq_iff_eq]at hc;obtain⟨rfl,hc⟩:=hc;simp only[oV]at h;obtain⟨x,h1,h⟩:=bind_some h;obtain⟨l,h2,h⟩:=bind_some h;simp only[RM.run]at h;injection h with h;subst h;simp only[RM.run]at h1;split at h1;rename_i y n;injection h1 with h1;subst h1;obtain⟨v,L,D⟩:=he _ _ n;obtain⟨g,E,k,F⟩:=il hi he hc h2;refine⟨v::g,?_,by simp[k],λi x u K I=>?_⟩;simp_all [cu];grind;cases h1
 | .cell t agg size::r,.cell t' ty::q,vs,hc,h=>by
  simp only[pJ,aV,beq_iff_eq]at hc;obtain⟨⟨⟨rfl,M⟩,C⟩,hc⟩:=hc;simp only[oV]at h;obtain⟨x,h1,h⟩:=bind_some h;obtain⟨e,J,h⟩:=bind_some h;obtain⟨l,h2,h⟩:=bind_some h;simp only[RM.run]at h;injection h with h;subst h;simp only[RM.run]at h1;split at h1;rename_i y n;injection h1 with h1;subst h1;obtain⟨v,L,D⟩:=he _ _ n;obtain⟨g,E,k,F⟩:=il hi he hc h2;obtain⟨G,o,ws,S,N,H,_,O⟩:=yb hi J D;obtain⟨Q,R⟩:=Ar (P:=P) M C N H;have j: ∃u,(loadVar ty ⟨G,o,none⟩).run P s.w=.ok u s.w/\JH s e.val u:=(by grind);obtain⟨u,I,hrel⟩:=j;refine⟨u::g,?_,by simp[k],λi x z K C=>?_⟩;simp_all [cu,asAddr];grind;cases h1
 |[],_::_,_,hc,_=>by grind [pJ]
 | .tmp _::_,[],_,hc,_=>by grind [pJ]
 | .cell _ _ _::_,[],_,hc,_=>by grind [pJ]
 | .tmp _::_,.cell _ _::_,_,hc,_=>by grind [pJ]
 | .cell _ _ _::_,.tmp _::_,_,hc,_=>by grind [pJ]
theorem VX{m:Nat}{fresh:Bool}{sto:List Blk}: ∀{es:List Ent},∀b∈kN m fresh sto es,m<=b
 |[],b,h=>by grind [kN]
 | .elem _ _ _::r,b,h=>VX (es:=r) b (by simpa[kN]using h)
 | .whole c::r,b,h=>by
  simp only[kN]at h;split at h;exact VX (es:=r) b h;rename_i hc;have e:b∈c::kN m fresh sto r->m<=b:=(by intro h;rcases cJ.1 h with rfl|h;omega;exact VX (es:=r) b h);grind
theorem M1{s:Sn}{vs:List AV}{e:List Value}(hl:vs.length=e.length)(hr: ∀(i:Nat) x v,vs[i]?=some x->e[i]?=some v->JH s x v):
  JH s (one vs) (if h:e.toArray.size=1 then e.toArray[0]else .tuple e.toArray):=by
 by_cases h:e.toArray.size=1;rw[dif_pos h];cases e with
 |nil=>simp at h
 |cons u q=>
  cases vs with
  |nil=>simp at hl
  |cons x p=>
   have j:q=[]:=by simpa using h
   subst j;have g:p=[]:=by simpa using hl
   subst g;exact hr 0 x u rfl rfl
 rw[dif_neg h];have:one vs=.tup vs:=by
  match vs,hl with
  |[],_=>rfl
  |[x],hl=>simp_all
  |_::_::_,_=>rfl
 rw[this];exact .tup _ _ (by simpa using hl) λi x v n k=>hr i x v n (by simpa using k)
theorem yh{e:AFn}{fn:Func}{m:Nat}{r:Res}(hs:Sim N E st a w)(hm:E.σ.length=m)(h:iF e m st=some r)(hc:pJ P e.res fn.results.toList=true):
  a.defers=[]/\ ∃v,(results fn a.tmps).run P w=.ok v w/\ ∃g',Inv ⟨r.2,g',w⟩/\bD E ⟨r.2,g',w⟩/\JH ⟨r.2,g',w⟩ r.1 v:=by
 obtain⟨h1,h2,g,hi,I,ht⟩:=hs;refine⟨h2,?_⟩;unfold iF at h;cases hvs:(oV e.res).run st with
 |none=>simp_all
 |some vs=>
  rw[hvs]at h;dsimp only at h;obtain⟨y,O,U,G⟩:=il (P:=P) (s:=⟨st.sto,g,w⟩) (env:=st.env) hi I hc hvs;have n:(results fn a.tmps).run P w=.ok (if h:y.toArray.size=1 then y.toArray[0]else .tuple y.toArray) w:=by
   have:results fn a.tmps=(do
    let vs<-fn.results.mapM (cu a.tmps)
    pure (if h:vs.size=1 then vs[0]else .tuple vs)):=rfl
   simp_all [Array.mapM_eq_mapM_toList]
  refine⟨_,n,?_⟩;split at h;grind [M1];split at h;rename_i B;have z:=VX (m:=m) (fresh:=e.fresh) (sto:=st.sto) (es:=sD st.sto (cV.entsOfL vs []) (cV.entsOfL vs []));generalize kN m e.fresh st.sto (sD st.sto (cV.entsOfL vs []) (cV.entsOfL vs []))=ids at*;split at h;rename_i ws l q A hl H;split at h;rename_i q' C;injection h with h;subst h;obtain⟨V,K⟩:=vD A;obtain⟨b1,b2⟩:=WO hl;obtain⟨S,T⟩:=z7 H;obtain⟨R,Q⟩:=WO C;have D:m<=st.sto.length:=by rw[<-hm];exact ht.len
  have hlen:l.length=m:=by simp_all
  have o:tk ⟨st.sto,g,w⟩ m ids (l++q'):=(by refine⟨hi,D,WT B,z,by simp;omega,λk x hk=>?_⟩;rcases NM hk with hk|⟨L,hk⟩;grind [uZ];grind [fW]);refine⟨_,M5 o,ya o ht (by omega),M1 (by omega) λi x v F J=>?_⟩;have M:=JC F;have j:vs[i]?=some (vs[i]'(by omega)):=bA _;exact ie o (G i _ v j J) (K i _ x j F);cases h;cases h;cases h
def lZ(P:Program)(f:FuncId)(e:AFn):Bool:=
 match P.funcs[f]? with
 |none=>false
 |some fn=>match fn.body with
  |none=>false
  |some g=>fn.name != "runtime.NumGoroutine" &&e.nt==e.np+(fn.ntmps-e.np)&&pJ P e.res fn.results.toList&&dH P e.nt e.body g
theorem ji: ∀{args:List AV} {k n:Nat} {x:AV},lk n (jX k args)=some x->k<=n/\args[n-k]?=some x
 |[],k,n,x,h=>by grind [jX,lk]
 |y::r,k,n,x,h=>by
  simp only[jX,lk]at h;split at h;simp_all;rename_i e;obtain⟨h1,h2⟩:=ji h;grind
end
section
variable {P:Program} {T:dY}
theorem JLy{f:FuncId}{j:AFn}{args:List AV}{blks:List Blk}{r:Res}(hc:lZ P f j=true)(H:args.length=j.np)
  (h: ∀(k:Code) (g:Gh) (w:World) (a:Act) (Q:Exit->Act->World->Prop),dH P j.nt j.body k=true->Sim j.nt ⟨blks,g,w⟩ ⟨jX 0 args,blks⟩ a w->
   (∀e s a' w',(e=.normal\/e=.ret)->iF j blks.length s=some r->Sim j.nt ⟨blks,g,w⟩ s a' w'->Q (sL e) a' w')->k.wp P Q a w):J7q P f args blks r:=by
 unfold lZ at hc;split at hc;cases hc;rename_i fn z;split at hc;cases hc;rename_i k hb;simp only[aV,beq_iff_eq,bne_iff_ne,ne_eq]at hc;obtain⟨⟨⟨C,G⟩,D⟩,y⟩:=hc;refine⟨⟨fn,z,by simp[hb],by simp_all⟩,λg w vals hinv hlen hrel=>?_⟩;refine calls_of_wp z hb ?_;have B:Sim j.nt ⟨blks,g,w⟩ ⟨jX 0 args,blks⟩ {tmps:=vals++Array.replicate (fn.ntmps-vals.size) undef,defers:=[]} w:=(by refine⟨by simp;omega,rfl,g,hinv,λn x q=>?_,.refl _⟩;obtain⟨_,q⟩:=ji q;rw[wT]at q;have F:=JC q;refine⟨vals[n]'(by omega),?_,hrel n x _ q (AC _)⟩;grind);have fin: ∀{s},iF j blks.length s=some r-> ∀a' w',Sim j.nt ⟨blks,g,w⟩ s a' w'->a'.defers=[]/\ ∃v,(results fn a'.tmps).run P w'=.ok v w'/\ ∃A g',Ending.returned v=.returned A/\
   Inv ⟨r.2,g',w'⟩/\bD ⟨blks,g,w⟩ ⟨r.2,g',w'⟩/\JH ⟨r.2,g',w'⟩ r.1 A:=by
  grind [yh]
 refine h k g w _ _ y B λe s a' w' E o hs=>?_;rcases E with rfl|rfl;exact fin o a' w' hs;exact fin o a' w' hs
theorem JMK{R:cG->St->Option Out}(ih: ∀c s r,R c s=some r->NJ P c s r){f:FuncId}{k:kR}{args:List AV}{blks:List Blk}{r:Res}(hc:lZ P f k.af=true)(I:args.length=k.np)
  (h:uM R k args blks=some r):J7q P f args blks r:=by
 refine JLy hc I λn g w a Q j y fin=>?_;simp only[kR.af]at j fin y;cases n<;>simp only[dH,fB]at j;rename_i N M;simp only[aV]at j;obtain⟨D,q⟩:=j;unfold uM at h;split at h
 rename_i s0 G;split at h;rename_i s1 A;refine wp_seq ((ih _ _ _ G).get D y λa0 w0 x=>?_);split at q;rename_i cp F Z Y O;simp only[aV]at q;obtain⟨⟨⟨⟨V,J⟩,hx⟩,hy⟩,U⟩:=q;simp only[sL,Exit.then];refine wp_seq (wp_seq ((ih _ _ _ A).get V x λC B x=>?_));have W: ∀{c:cG} {n:Code},dH P k.nt c n=true->uC k.af blks.length (thn (R c s1) λs=>R k.rest s)=some r->
   n.wp P (Exit.then (O.wp P Q) Q) C B:=by
  intro c n hc ht;cases hR:R c s1 with
  |none=>rw[hR]at ht;cases ht
  |some o=>
   obtain⟨e,E⟩:=o;rw[hR]at ht;refine(ih _ _ _ hR).get hc x λa' w' hs'=>?_;cases e with
   |normal=>
    simp only[thn]at ht;cases hR2:R k.rest E with
    |none=>rw[hR2]at ht;cases ht
    |some S=>
     obtain⟨T,H⟩:=S;rw[hR2]at ht;simp only[sL,Exit.then];refine(ih _ _ _ hR2).get U hs' λa' w' hs'=>?_;cases T with
     |normal=>exact fin .normal H a' w' (.inl rfl) ht hs'
     |ret=>exact fin .ret H a' w' (.inr rfl) ht hs'
     |exit id=>cases ht
   |exit id=>cases ht
   |ret=>exact fin .ret E a' w' (.inr rfl) ht hs'
 have z:=x;obtain⟨_,_,g,hi,K,_⟩:=z;simp only[sL,Exit.then];split at h;rename_i b hb;have hrel:=bK (s:=⟨s1.sto,g,B⟩) (env:=s1.env) K hb J;generalize L:C.eval F=v at hrel;cases hrel with
 |p _ _ hrel=>cases hrel<;>grind [wp_cond]
 rename_i hb;have hrel:=bK (s:=⟨s1.sto,g,B⟩) (env:=s1.env) K hb J;generalize L:C.eval F=v at hrel;cases hrel with
 |unk t=>
  refine wp_cond L ?_;unfold LZ at h;grind
 cases h;cases q;cases h;cases h
theorem xg{R:cG->St->Option Out}(ih: ∀c s r,R c s=some r->NJ P c s r)(C: ∀f e,T f=some (.fn e)->lZ P f e=true)
  (I: ∀f g,T f=some (.prim g)-> ∀args blks r,g args blks=some r->J7q P f args blks r) (H: ∀f k,T f=some (.fork k)->lZ P f k.af=true):kK P (qW T R):=by
 intro f args blks r h;unfold qW at h;cases hTf:T f with
 |none=>simp_all
 |some en=>
  rw[hTf]at h;cases en with
  |prim g=>simp_all
  |fork k=>
   grind [JMK]
  |fn e=>
   dsimp only at h;split at h;rename_i F;have hc:=C f e hTf;unfold lZ at hc;split at hc;cases hc;rename_i fn y;split at hc;cases hc;rename_i B hb;simp only[aV,beq_iff_eq,bne_iff_ne,ne_eq]at hc;obtain⟨⟨⟨A,G⟩,D⟩,j⟩:=hc;refine⟨⟨fn,y,by simp[hb],by simp_all⟩,λg w vals hinv hlen hrel=>?_⟩;refine calls_of_wp y hb ?_;have q:Sim e.nt ⟨blks,g,w⟩ ⟨jX 0 args,blks⟩ {tmps:=vals++Array.replicate (fn.ntmps-vals.size) undef,defers:=[]} w:=(by refine⟨by simp;omega,rfl,g,hinv,λn x o=>?_,.refl _⟩;obtain⟨_,o⟩:=ji o;rw[wT]at o;have E:=JC o;refine⟨vals[n]'(by omega),?_,hrel n x _ o (AC _)⟩;grind);have fin: ∀{s},iF e blks.length s=some r-> ∀a' w',Sim e.nt ⟨blks,g,w⟩ s a' w'->a'.defers=[]/\ ∃v,(results fn a'.tmps).run P w'=.ok v w'/\ ∃z g',Ending.returned v=.returned z/\
     Inv ⟨r.2,g',w'⟩/\bD ⟨blks,g,w⟩ ⟨r.2,g',w'⟩/\JH ⟨r.2,g',w'⟩ r.1 z:=by
    grind [yh]
   split at h;rename_i s hR;exact(ih _ _ _ hR).get j q λa' w' hs=>fin h a' w' hs;rename_i s hR;exact(ih _ _ _ hR).get j q λa' w' hs=>fin h a' w' hs;cases h;cases h
theorem JO7(Z:P.follows .mixedOrders=true)(hT: ∀f af,T f=some (.fn af)->lZ P f af=true)
  (hP: ∀f g,T f=some (.prim g)-> ∀args blks r,g args blks=some r->J7q P f args blks r) (hK: ∀f k,T f=some (.fork k)->lZ P f k.af=true): ∀c s r,X T c s=some r->NJ P c s r:=by
 refine JT6 T _ ?_;intro R ih c s r h;have hF:kK P (qW T R):=xg ih hT hP hK;cases c with
 |skip=>
  simp only[step]at h;injection h with h;subst h;intro N j E a w Q hc hs next;cases j<;>first
   |exact wp_skip (next a w hs)
   |exact wp_label (next a w hs)
   |grind [dH]
 |bad=>grind [step]
 |reg d pairs ins=>
  simp only[step]at h;split at h;rename_i s' W;injection h with h;subst h;intro N j E a w Q hc hs next;cases j<;>simp only[dH,fB]at hc;simp only[aV,beq_iff_eq]at hc;obtain⟨rfl,hc⟩:=hc;exact JQq hF Z W hc hs next
  cases h
 |seq x y=>
  simp only[step]at h;intro N j E a w Q hc hs next;cases j<;>simp only[dH,fB]at hc;simp only[aV]at hc;refine wp_seq ?_;split at h
  rename_i s' A;refine(ih _ _ _ A).get hc.1 hs λa' w' hs'=>?_;exact(ih _ _ _ h).get hc.2 hs' next;rename_i S;refine(ih _ _ _ h).get hc.1 hs λa' w' hs'=>?_;obtain⟨e,s'⟩:=r;cases e with
  |normal=>simp_all
  |exit id=>exact next a' w' hs'
  |ret=>exact next a' w' hs'
 |cond c x y=>
  simp only[step]at h;intro N j E a w Q hc hs next;cases j<;>simp only[dH,fB]at hc;simp only[aV]at hc;obtain⟨⟨U,A⟩,hy⟩:=hc;have hs':=hs;obtain⟨_,_,g,hi,z,_⟩:=hs';split at h
  rename_i b hb;have hrel:=bK (s:=⟨s.sto,g,w⟩) (env:=s.env) z hb U;generalize F:a.eval _=v at hrel;cases hrel with
  |p _ _ hrel=>
   cases hrel with
   |b=>
    refine wp_cond F ?_;cases b with
    |true=>exact(ih _ _ _ (by simpa using h)).get A hs next
    |false=>exact(ih _ _ _ (by simpa using h)).get hy hs next
  rename_i hb;have hrel:=bK (s:=⟨s.sto,g,w⟩) (env:=s.env) z hb U;generalize F:a.eval _=v at hrel;cases hrel with
  |unk t=>
   refine wp_cond F ?_;unfold same at h;split at h;rename_i r1 r2 e1 e2;split at h;rename_i I;injection h with h;subst h;cases t with
   |true=>exact(ih _ _ _ e1).get A hs next
   |false=>rw[I]at next;exact(ih _ _ _ e2).get hy hs next
   cases h;cases h
  cases h
 |block id x=>
  simp only[step]at h;intro N j E a w Q hc hs next;cases j<;>simp only[dH,fB]at hc;simp only[aV,beq_iff_eq]at hc;obtain⟨rfl,hc⟩:=hc;refine wp_block ?_;split at h
  rename_i k s' A;refine(ih _ _ _ A).get hc hs λa' w' hs'=>?_;grind [sL,Exit.inBlock];rename_i S;refine(ih _ _ _ h).get hc hs λa' w' hs'=>?_;obtain⟨e,s'⟩:=r;cases e with
  |normal=>exact next a' w' hs'
  |exit id=>simp_all
  |ret=>exact next a' w' hs'
 |loop live x=>
  simp only[step]at h;intro N j E a w Q hc hs next;cases j<;>simp only[dH,fB]at hc;split at h
  rename_i s' q;obtain⟨k,hk⟩:=ih _ _ _ h;have D:E.σ.length<=s.sto.length:=by obtain⟨_,_,g,_,_,ht⟩:=hs;exact ht.len
  obtain⟨hs',hl⟩:=VG hs q D (zQ0 _);exact wp_loop_rounds k (hk N _ E a w Q hc D (by omega) hs' next);cases h
 |lp n live x=>
  simp only[step]at h;split at h
  ·rename_i s' A;split at h
   ·rename_i am q;obtain⟨k,hk⟩:=ih _ _ _ h;refine⟨k+1,λN j E a w Q hc D hn hs next=>?_⟩;rw[rounds_succ];obtain⟨h1,h2,g,hi,z,ht⟩:=hs;have B:Sim N ⟨s.sto,g,w⟩ s a w:=⟨h1,h2,g,hi,z,.refl _⟩;refine(ih _ _ _ A).get hc B λa' w' hs'=>?_;obtain⟨L,J,g',G,H,C⟩:=hs';have hlen:s.sto.length<=s'.sto.length:=C.len;have a4:Sim N E s' a' w':=⟨L,J,g',G,H,ht.trans C⟩;obtain⟨a5,hl⟩:=VG a4 q D (by omega);exact hk N j E a' w' Q hc D (by omega) a5 next
   cases h
  ·rename_i S;refine⟨1,λN j E a w Q hc D hn hs next=>?_⟩;rw[rounds_succ];refine(ih _ _ _ h).get hc hs λa' w' hs'=>?_;obtain⟨e,s'⟩:=r;cases e with|normal=>simp_all|exit id=>exact next a' w' hs'|ret=>exact next a' w' hs'
 |scope x=>simp only[step]at h;intro N j E a w Q hc hs next;cases j<;>simp only[dH,fB]at hc;refine wp_scope_straight ((ih _ _ _ h).get hc hs λa' w' hs'=>?_);have:=next a' w' hs';obtain⟨e,s'⟩:=r;cases e<;>exact this
 |exit id=>
  simp only[step]at h;injection h with h;subst h;intro N j E a w Q hc hs next;cases j<;>simp only[dH,fB]at hc;simp only[beq_iff_eq]at hc;subst hc;exact wp_exit (next a w hs)
 |ret=>
  simp only[step]at h;injection h with h;subst h;intro N j E a w Q hc hs next;cases j<;>simp only[dH,fB]at hc;exact wp_ret (next a w hs)
 |keep live x=>simp only[step]at h;intro N j E a w Q hc hs next;exact(ih _ _ _ h).get (by grind [dH]) (hs.restr live) next
 |tidy live x=>
  simp only[step,nJ]at h;intro N j E a w Q hc hs next;split at h;rename_i e M I;split at h;rename_i s3 q;injection h with h;subst h;obtain⟨h1,h2,g,hi,z,ht⟩:=hs;have B:Sim N ⟨s.sto,g,w⟩ s a w:=⟨h1,h2,g,hi,z,.refl _⟩;refine(ih _ _ _ I).get (by grind [dH]) B λa' w' hs'=>next a' w' ?_;obtain⟨L,J,g',G,H,C⟩:=hs';exact(VG (st:=M) (st':=s3) ⟨L,J,g',G,H,ht.trans C⟩ q ht.len C.len).1;cases h;cases h
 |br live pre o x y rest=>
  simp only[step]at h;intro N j E a w Q hc hs next;unfold dH at hc;split at hc;rename_i cp cq cx cy cz;simp only[aV]at hc;obtain⟨⟨⟨⟨hp,ho⟩,A⟩,hy⟩,hz⟩:=hc;split at h;rename_i s1 a2;refine wp_seq (wp_seq ((ih _ _ _ a2).get hp hs λO K V=>?_));have a8: ∀{c:cG} {j:Code} {r':Out},dH P N c j=true->thn (R c s1) (λs=>R rest s)=some r'->
    ∀{E:Sn} {a:Act} {w:World} {Q:Exit->Act->World->Prop},Sim N E s1 a w->(∀a' w',Sim N E r'.2 a' w'->Q (sL r'.1) a' w')->j.wp P (Exit.then (cz.wp P Q) Q) a w:=by
   intro c j r' hc ht E a w Q hs next;cases hR:R c s1 with
   |none=>rw[hR]at ht;cases ht
   |some o=>
    obtain⟨e,M⟩:=o;rw[hR]at ht;refine(ih _ _ _ hR).get hc hs λa' w' hs'=>?_;cases e with
    |normal=>exact(ih _ _ _ ht).get hz hs' next
    |exit id=>injection ht with ht;subst ht;exact next a' w' hs'
    |ret=>injection ht with ht;subst ht;exact next a' w' hs'
  have ab: ∀{c:cG} {j:Code},dH P N c j=true->nJ s1.sto.length live (thn (R c s1) λs=>R rest s)=some r->j.wp P (Exit.then (cz.wp P Q) Q) O K:=(by intro c j hc ht;unfold nJ at ht;split at ht;rename_i e M I;split at ht;rename_i s3 q;injection ht with ht;subst ht;obtain⟨h1,h2,g,hi,z,ht⟩:=V;have B:Sim N ⟨s1.sto,g,K⟩ s1 O K:=⟨h1,h2,g,hi,z,.refl _⟩;refine a8 hc I B λa' w' hs'=>next a' w' ?_;obtain⟨L,J,g',G,H,C⟩:=hs';exact(VG (st:=M) (st':=s3) ⟨L,J,g',G,H,ht.trans C⟩ q ht.len C.len).1;cases ht;cases ht);have Y:=V;obtain⟨_,_,g,hi,z,_⟩:=Y;simp only[sL,Exit.then];split at h;rename_i b hb;have hrel:=bK (s:=⟨s1.sto,g,K⟩) (env:=s1.env) z hb ho;generalize F:O.eval cq=v at hrel;cases hrel with
  |p _ _ hrel=>cases hrel<;>grind [wp_cond]
  rename_i hb;have hrel:=bK (s:=⟨s1.sto,g,K⟩) (env:=s1.env) z hb ho;generalize F:O.eval cq=v at hrel;cases hrel with
  |unk t=>
   refine wp_cond F ?_;unfold same at h;grind
  cases h;cases h;cases hc
theorem Kr(e:P.follows .mixedOrders=true)(j: ∀f o,T f=some (.fn o)->lZ P f o=true)
  (h: ∀f g,T f=some (.prim g)-> ∀args blks r,g args blks=some r->J7q P f args blks r) (n: ∀f k,T f=some (.fork k)->lZ P f k.af=true):kK P (AF T):=
 xg (JO7 e j h n) j h n
end
@[congr] theorem JSW{o e:Option Out}{k:St->Option Out}(h:o=e):thn o k=thn e k:=by rw[h]
@[congr] theorem JS6{α β:Type}{o e:RM α}{f:α->RM β}(h:o=e):o.bind f=e.bind f:=by rw[h]
@[congr] theorem JS7{α β:Type}{o e:Option α}{f:α->Option β}(h:o=e):o.bind f=e.bind f:=by rw[h]
@[simp] theorem OB(s k):thn (some (.normal,s)) k=k s:=rfl
@[simp] theorem JLZ(i s k):thn (some (.exit i,s)) k=some (.exit i,s):=rfl
@[simp] theorem JO5(s k):thn (some (.ret,s)) k=some (.ret,s):=rfl
@[simp] theorem JKL(k):thn none k=none:=rfl
def PG(o:Option Out)(k:St->Option Out):Option Out:=
 match o with
 |some (.normal,s)=>k s
 |_=>none
@[congr] theorem JSc{o e:Option Out}{k:St->Option Out}(h:o=e):PG o k=PG e k:=by rw[h]
@[simp] theorem JDP(s k):PG (some (.normal,s)) k=k s:=rfl
def blo(id:Nat)(o:Option Out):Option Out:=
 match o with
 |some (.exit k,s)=>if k=id then some (.normal,s)else some (.exit k,s)
 |o=>o
@[simp] theorem JHV(id s):blo id (some (.normal,s))=some (.normal,s):=rfl
@[simp] theorem Qi(id i s):blo id (some (.exit i,s))=if i=id then some (.normal,s)else some (.exit i,s):=rfl
@[simp] theorem JPb(id s):blo id (some (.ret,s))=some (.ret,s):=rfl
@[simp] theorem JLA(id):blo id none=none:=rfl
def nrm(o:Option St):Option Out:=match o with|some s=>some (.normal,s)|none=>none
@[simp] theorem JN9(s):nrm (some s)=some (.normal,s):=rfl
@[simp] theorem JMh:nrm none=none:=rfl
def evv(x:Opd)(env:List (Nat×AV)):Option AV:=match x with| .t n=>lk n env| .c v=>some v
@[simp] theorem JTu(n env):evv (.t n) env=lk n env:=rfl
@[simp] theorem JTv(v env):evv (.c v) env=some v:=rfl
theorem TL(x:Opd)(s:St):(ev x).run s=evv x s.env:=by cases x<;>grind [ev,RM.run,evv]
section
variable (T:dY)
@[simp ↓] theorem JTp(s):X T .skip s=some (.normal,s):=by rw[nE];rfl
@[simp ↓] theorem Kw(a b s):X T (.seq a b) s=thn (X T a s) λs=>X T b s:=by
 rw[nE];simp only[step];cases X T a s with
 |none=>rfl
 |some o=>obtain⟨e,s'⟩:=o;cases e<;>rfl
theorem Kn(d ps ins s):X T (.reg d ps ins) s=nrm (region (AF T) ps ins s):=by rw[nE];simp only[step];show(match region (AF T) ps ins s with|some s'=>some (AX.normal,s')|none=>none)=_;cases region (AF T) ps ins s<;>rfl
@[simp ↓] theorem JTr(d ins env sto):X T (.reg d [] ins) ⟨env,sto⟩=nrm (gP (AF T) ins sto.length ⟨env,room (news ins) sto⟩):=by rw[Kn];rfl
def cnd(x:Option AV)(a b:Option Out)(c:Unit->Option Out):Option Out:=
 match x with
 |some (.p (.b x))=>if x=true then a else b
 |some .unk=>c ()
 |_=>none
@[congr] theorem JSU{x e:Option AV}{a b:Option Out}{c:Unit->Option Out}(h:x=e):cnd x a b c=cnd e a b c:=by rw[h]
@[simp] theorem Kk(x a b c):cnd (some (.p (.b x))) a b c=if x=true then a else b:=rfl
@[simp] theorem JPj(a b c):cnd (some .unk) a b c=c ():=rfl
@[simp ↓] theorem JPD(x a b s):X T (.cond x a b) s=cnd (evv x s.env) (X T a s) (X T b s) λ_=>same (X T a s) (X T b s):=by
 rw[nE];simp only[step,TL];cases evv x s.env with
 |none=>rfl
 |some v=>
  cases v with
  |p c=>cases c<;>rfl
  |_=>rfl
@[simp ↓] theorem JNS(id c s):X T (.block id c) s=blo id (X T c s):=by
 rw[nE];simp only[step];cases X T c s with
 |none=>rfl
 |some o=>obtain⟨e,s'⟩:=o;cases e<;>rfl
@[simp ↓] theorem JOi(c s):X T (.scope c) s=X T c s:=by rw[nE];rfl
@[simp ↓] theorem JTo(id s):X T (.exit id) s=some (.exit id,s):=by rw[nE];rfl
@[simp ↓] theorem JSD(s):X T .ret s=some (.ret,s):=by rw[nE];rfl
@[simp ↓] theorem K6(live c s):X T (.keep live c) s=X T c ⟨restr live s.env,s.sto⟩:=by rw[nE];rfl
@[simp ↓] theorem JTx(live pre x a b rest s):X T (.br live pre x a b rest) s=PG (X T pre s) λs1=>
  cnd (evv x s1.env) (thn (X T a s1) λs=>X T rest s) (thn (X T b s1) λs=>X T rest s) λ_=>
   same (nJ s1.sto.length live (thn (X T a s1) λs=>X T rest s)) (nJ s1.sto.length live (thn (X T b s1) λs=>X T rest s)):=by
 rw[nE];simp only[step,TL];cases X T pre s with
 |none=>rfl
 |some o=>
  obtain⟨e,s1⟩:=o;cases e with
  |normal=>
   dsimp only[PG];cases evv x s1.env with
   |none=>rfl
   |some v=>
    cases v with
    |p c=>cases c<;>rfl
    |_=>rfl
  |exit=>rfl
  |ret=>rfl
@[simp ↓] theorem JQU(live c env sto):X T (.loop live c) ⟨env,sto⟩=X T (.lp sto.length live c) ⟨restr live env,sto⟩:=by
 grind [nE,step,clean]
theorem rp(n live c s):X T (.lp n live c) s=thn (X T c s) λs=>match clean n live s with
  |some s=>X T (.lp n live c) s
  |none=>none:=by
 rw[nE];simp only[step];cases X T c s with
 |none=>rfl
 |some o=>obtain⟨e,s'⟩:=o;cases e<;>rfl
def OV(res:List wG)(fresh:Bool)(m:Nat)(o:Option Out):Option Res:=
 match o with
 |some (.normal,s)=>iF ⟨0,0,.skip,res,fresh⟩ m s
 |some (.ret,s)=>iF ⟨0,0,.skip,res,fresh⟩ m s
 |_=>none
@[congr] theorem JSC{res:List wG}{fresh:Bool}{m:Nat}{o e:Option Out}(h:o=e):OV res fresh m o=OV res fresh m e:=by rw[h]
@[simp] theorem JDY(res fresh m s):OV res fresh m (some (.normal,s))=iF ⟨0,0,.skip,res,fresh⟩ m s:=rfl
@[simp] theorem JMO(res fresh m s):OV res fresh m (some (.ret,s))=iF ⟨0,0,.skip,res,fresh⟩ m s:=rfl
theorem JPm{f:FuncId}{k:kR}(h:T f=some (.fork k))(args blks):AF T f args blks=if args.length=k.np then uM (X T) k args blks else none:=by simp_all [AF,qW]
@[simp] theorem JSq(o:Option Res):LZ o o=o:=by unfold LZ;cases o<;>simp
theorem JSO{f:FuncId}{fn:AFn}(h:T f=some (.fn fn))(args blks):AF T f args blks=if args.length=fn.np then
  OV fn.res fn.fresh blks.length (X T fn.body ⟨jX 0 args,blks⟩)
 else none:=by
 unfold AF qW;rw[h];rfl
end
variable {F:Orc} {env:List (Nat×AV)} {sto:List Blk} {new:Nat} {r:List bW} {d:Nat}
@[simp] theorem JGv(s):gP F [] new s=some s:=rfl
theorem JDV(i s):gP F (i::r) new s=((cB F i new).run s).bind λe=>gP F r (new+nG i.op) (put i.dst e s):=by
 grind [gP]
@[simp] theorem JT2:news []=0:=rfl
@[simp ↓] theorem JSV(i):news (i::r)=nG i.op+news r:=rfl
@[simp] theorem JTs:room 0 sto=sto:=rfl
@[simp] theorem JSS(n):room (n+1) sto=sto++List.replicate (n+1) .dead:=rfl
@[simp] theorem JTt(n):lk n []=none:=rfl
@[simp] theorem JOG(n m v)(r:List (Nat×AV)):lk n ((m,v)::r)=if n=m then some v else lk n r:=rfl
attribute [simp ↓] JDV cB opD uJ nG run_bind TL opR
attribute [simp] put val evs evo lO pM
 oW zV zP unP jZ PC fz fz.fzL fz.fz1 fzs BZ gZ iV sub spl sJ SW KU MC ML nK RU oT nS lJ xV xR gB qN jV mmP cellsOf unp rD lI
 oV one jX hH MP nQ
@[simp] theorem JSX(o:Option Out):same o o=o:=by unfold same;cases o<;>simp
@[simp ↓] theorem JW{α:Type}(a:α)(s:St):(RM.ret a).run s=some a:=rfl
@[simp ↓] theorem JTh{α:Type}(s:St):(RM.fail:RM α).run s=none:=rfl
@[simp ↓] theorem yI{α:Type}(n:Nat)(k:AV->RM α)(s:St):(RM.slot n k).run s=(lk n s.env).bind λv=>(k v).run s:=by grind [RM.run]
@[simp ↓] theorem dU{α:Type}(n:Nat)(k:Blk->RM α)(s:St):(RM.blk n k).run s=(s.sto[n]?).bind λv=>(k v).run s:=by grind [RM.run]
@[simp] theorem JNL:upd [] sto=sto:=rfl
@[simp] theorem JLV(b x ws):upd ((b,x)::ws) sto=upd ws (sto.set b x):=rfl
@[simp] theorem JST:restr [] env=[]:=rfl
@[simp] theorem JI3(k l):restr (k::l) env=match lk k env with
 |some v=>(k,v)::restr l env
 |none=>restr l env:=rfl
end Go.Am
namespace Go.Am
def rA:AV->Bool| .p _| .data _| .cp _ _| .unk=>true|_=>false
@[simp] theorem JT4(c):rA (.p c)=true:=rfl
@[simp] theorem JS8(c):rA (.data c)=true:=rfl
@[simp] theorem JSR(c o):rA (.cp c o)=true:=rfl
theorem Ah: ∀{args:List AV} {l:List Ent},args.all rA=true->cV.entsOfL args l=l|[],l,_=>rfl|x::r,l,h=>by simp only[List.all_cons,aV]at h;obtain⟨h1,h2⟩:=h;simp only[cV.entsOfL];cases x<;>simp[rA]at h1<;>simp only[cV]<;>exact Ah h2
theorem x9{ρ:Ent->Option Nat}: ∀{args:List AV},args.all rA=true->ren.renL ρ args=some args|[],_=>rfl|x::r,h=>by simp only[List.all_cons,aV]at h;have:=x9 (ρ:=ρ) h.2;have h1:=h.1;clear h;cases x<;>simp[rA]at h1<;>simp[ren.renL,ren,this]
theorem JM2{es:List Ent}{new:Nat}{x:AV}(h:rA x=true):bk es new x=some x:=by cases x<;>simp[rA]at h<;>rfl
theorem me{es:List Ent}{new:Nat}: ∀{xs:List AV},xs.all rA=true->bk.bkL es new xs=some xs|[],_=>rfl|x::r,h=>by simp only[List.all_cons,aV]at h;simp[bk.bkL,JM2 h.1,me h.2]
@[simp] theorem JTw(es new c):bk es new (.p c)=some (.p c):=rfl
@[simp] theorem JTn(es new c):bk es new (.data c)=some (.data c):=rfl
@[simp] theorem JTq(es new l):bk es new (.tup l)=(bk.bkL es new l).map .tup:=by grind [bk]
@[simp] theorem JTm(es new):bk.bkL es new []=some []:=rfl
@[simp] theorem JT8(es new x l):bk.bkL es new (x::l)=(bk es new x).bind λy=>(bk.bkL es new l).map λl=>y::l:=by simp only[bk.bkL];cases bk es new x<;>simp;cases bk.bkL es new l<;>rfl
@[simp] theorem JS9(n live):nJ n live none=none:=rfl
@[simp] theorem JDr(n live e s):nJ n live (some (e,s))=(clean n live s).map λs=>(e,s):=by
 grind [nJ]
attribute [simp ↓] Jy Option.bind_none OB JLZ JO5 JKL JDP JN9 JMh Kk JPj JHV Qi JPb JLA JDY JMO JGv JOG JI3 JNL JLV
attribute [simp] clean wF sC gL fin fin.finL iF kN sD cV cV.entsOfL xS kI xN eW unp
end Go.Am
end
section
namespace Go.Am
inductive Fr where|sq (b:cG)|bl (id:Nat)|td (n:Nat) (live:List Nat)|lo (n:Nat) (live:List Nat) (c:cG)
noncomputable def again(T:dY)(n:Nat)(live:List Nat)(c:cG)(o:Option St):Option Out:=match o with|some s=>X T (.lp n live c) s|none=>none
section
variable (T:dY) (f:AFn) (m:Nat) (k:List Fr)
theorem JQd(live c s):X T (.tidy live c) s=nJ s.sto.length live (X T c s):=by rw[nE];rfl
end
open Classical in
noncomputable def J3{σ ρ:Type}(f:σ->Option (σ⊕ρ))(s:σ):Option ρ:=
 let e:Nat->σ->Option ρ:=λn=>n.rec (λ_=>none) λ_ ih s=>match f s with|some (.inl s')=>ih s'|some (.inr r)=>some r|none=>none
 if h: ∃n r,e n s=some r then e (Classical.choose h) s else none
def dG{σ ρ:Type}(f:σ->Option (σ⊕ρ)):Nat->σ->Option ρ|0,_=>none|n+1,s=>match f s with|some (.inl s')=>dG f n s'|some (.inr r)=>some r|none=>none
section
variable {σ ρ:Type} {f:σ->Option (σ⊕ρ)}
theorem jc(n:Nat): ∀s:σ,(Nat.rec (motive:=λ_=>σ->Option ρ) (λ_=>none) (λ_ ih s=>match f s with
  |some (.inl s')=>ih s'
  |some (.inr r)=>some r
  |none=>none) n) s=dG f n s:=by
 induction n with
 |zero=>intro s;rfl
 |succ n ih=>grind [dG]
theorem ld: ∀{n:Nat} {s:σ} {r:ρ} (m:Nat),dG f n s=some r->dG f (n+m) s=some r
 |0,_,_,_,h=>by cases h
 |n+1,s,r,m,h=>by
  rw[show n+1+m=(n+m)+1 by omega];simp only[dG]at h⊢;split at h;exact ld m h
  all_goals simp_all
theorem JLc{n m:Nat}{s:σ}{r r':ρ}(h:dG f n s=some r)(e:dG f m s=some r'):r=r':=by
 have a:=ld m h;have b:=ld n e;grind
theorem lQ{s:σ}{r:ρ}:J3 f s=some r↔ ∃n,dG f n s=some r:=by
 unfold J3;dsimp only;constructor;intro h;split at h;exact⟨_,by rw[<-jc];exact h⟩;cases h;rintro⟨n,h⟩;have e: ∃n r,(Nat.rec (motive:=λ_=>σ->Option ρ) (λ_=>none) (λ_ ih s=>match f s with
  |some (.inl s')=>ih s'
  |some (.inr r)=>some r
  |none=>none) n) s=some r:=⟨n,r,by grind [jc]⟩
 rw[dif_pos e];obtain⟨r',g⟩:=Classical.choose_spec e;rw[g];rw[jc]at g;grind [JLc]
theorem dC{s:σ}{r:ρ}(h:f s=some (.inr r)):J3 f s=some r:=lQ.2 ⟨1,by grind [dG]⟩
theorem eR{s s':σ}(h:f s=some (.inl s')):J3 f s=J3 f s':=by
 have g: ∀r,J3 f s=some r↔J3 f s'=some r:=by
  intro r;rw[lQ,lQ];constructor;rintro⟨n,e⟩;cases n<;>grind [dG]
  rintro⟨n,e⟩;exact⟨n+1,by grind [dG]⟩
 cases hs:J3 f s with
 |some r=>grind
 |none=>cases hs':J3 f s'<;>grind
theorem JHk{s:σ}(h:f s=none):J3 f s=none:=by
 cases hs:J3 f s with
 |none=>rfl
 |some r=>obtain⟨n,e⟩:=lQ.1 hs;cases n<;>simp_all [dG]
theorem k8{P:σ->ρ->Prop}(h1: ∀s r,f s=some (.inr r)->P s r)(h2: ∀s s' r,f s=some (.inl s')->P s' r->P s r){s:σ}{r:ρ}(h:J3 f s=some r):P s r:=by
 obtain⟨n,e⟩:=lQ.1 h;clear h
 induction n generalizing s with
 |zero=>cases e
 |succ n ih=>
  grind [dG]
end
end Go.Am
end
section
namespace Go.Am
section
variable {α:Type}
def idx(l:List α)(n:Int):Option α:=if 0<=n then l[n.toNat]? else none
def aX(k:Nat)(n:Int):Option Unit:=if 0<=n/\n<k then some ()else none
def Jr(bytes:Nat)(l e:List α):Option (List α):=if qN (l.length+e.length) bytes=true then some (l++e)else none
def bP(bytes:Nat)(l:List α):Option (List α):=if qN l.length bytes=true then some l else none
def zO(n:Int)(len:Nat):Option Nat:=if 0<=n/\n.toNat<=len then some n.toNat else none
def zQ(n:Int)(len:Nat):Option Nat:=if 0<=n/\n.toNat<len then some n.toNat else none
def mkS(bytes:Nat)(n m:Int)(z:α):Option (List α):=if 0<=n/\n<=m/\bytes*m<=281474976710656/\m<=281474976710656 then some (List.replicate n.toNat z)else none
def EU(x:Option Int)(top e:Nat):Option Nat:=match x with|none=>some e|some n=>if 0<=n/\n<=top then some n.toNat else none
def AL(n:Nat)(lo hi:Option Int):Option (Nat×Nat):=match EU hi n n with|none=>none|some h=>match EU lo h 0 with|none=>none|some l=>some (l,h)
def aU(l:List α)(lo hi:Option Int):Option (List α):=match AL l.length lo hi with|some c=>some ((l.drop c.1).take (c.2-c.1))|none=>none
def I8(k:IntKind)(x y:Int):Option Int:=if y=0 then none else some (k.wrap (x.tdiv y))
def uF(x y:Int):Option Int:=if y=0 then none else some (x.tmod y)
def mZ(k:IntKind)(x y:Int):Option Int:=if y<0 then none else some (k.wrap (x*2^(min y.toNat k.bits)))
def hY(k:IntKind)(x y:Int):Option Int:=if y<0 then none else some (x.fdiv (2^(min y.toNat k.bits)))
def kU(k:IntKind)(x y:Int):Int:=k.wrap (BitVec.ofInt k.bits x&&&BitVec.ofInt k.bits y).toNat
def orI(k:IntKind)(x y:Int):Int:=k.wrap (BitVec.ofInt k.bits x|||BitVec.ofInt k.bits y).toNat
def gX(k:IntKind)(x y:Int):Int:=k.wrap (BitVec.ofInt k.bits x^^^BitVec.ofInt k.bits y).toNat
def KX(k:IntKind)(n:Int):Int:=k.wrap (BitVec.ofInt k.bits (if k.signed then -1 else k.max)^^^BitVec.ofInt k.bits n).toNat
def cN(a b:List UInt8):Option (List UInt8):=if a.length+b.length<=4611686018427387904 then some (a++b)else none
def nA(l:List UInt8)(n:Int):Option Int:=if 0<=n then(match l[n.toNat]? with|some u=>some (u.toNat:Int)|none=>none)else none
def qc{k:Nat}(v:Vector α k)(n:Int):Option α:=if 0<=n/\n<k then v[n.toNat]? else none
def toStr(l:List Int):List UInt8:=l.map λn=>UInt8.ofNat n.toNat
def aS(l:List UInt8):List Int:=l.map λu=>(u.toNat:Int)
def jE(x y:Int):Int:=if y<x then y else x
def cX(x y:Int):Int:=if y>x then y else x
end
@[reducible] def cat(a b:List PV):List PV:=a++b
def r_i(k:IntKind)(n:Int):List PV:=[.i k n]
def r_b(x:Bool):List PV:=[.b x]
def r_s(l:List UInt8):List PV:=[.s l]
def JTd{α:Type}(esz:Nat)(r:α->List PV)(l:List α):List PV:=[.sl esz (l.map r)]
def qH{α:Type}{n:Nat}(r:α->List PV)(v:Vector α n):List PV:=(v.toList.map r).flatten
section
variable {α:Type}
theorem BR(cs:List α)(off size:Nat):sub cs off size=if off+size<=cs.length then some ((cs.drop off).take size)else none:=by
 grind [sub]
theorem GL(cs:List α)(off:Nat)(vs:List α):spl cs off vs=if off+vs.length<=cs.length then some (cs.take off++vs++cs.drop (off+vs.length))else none:=by simp_all
theorem g0{cs:List α}{n:Nat}(h:cs.length=n):sub cs 0 n=some cs:=by simp_all
theorem O3{cs vs:List α}(h:cs.length=vs.length):spl cs 0 vs=some vs:=by simp_all
theorem JKz{a b c:List α}{off size:Nat}(h1:a.length=off)(h2:b.length=size):sub (a++(b++c)) off size=some b:=by
 grind [BR]
theorem JIm{b c:List α}{size:Nat}(h2:b.length=size):sub (b++c) 0 size=some b:=JKz (a:=[]) rfl h2
theorem JJa{a b c v:List α}{off:Nat}(h1:a.length=off)(h2:b.length=v.length):spl (a++(b++c)) off v=some (a++(v++c)):=by
 grind [GL]
theorem JIA{b c v:List α}(h2:b.length=v.length):spl (b++c) 0 v=some (v++c):=JJa (a:=[]) rfl h2
theorem Po{cs e r:List α}{a m k n:Nat}(h1:sub cs a m=some e)(h2:sub e k n=some r):sub cs (a+k) n=some r:=by
 grind [BR,List.drop_take,List.drop_drop]
theorem M8{cs g e v cs':List α}{a m k:Nat}(h1:sub cs a m=some g)(h2:spl g k v=some e)(h3:spl cs a e=some cs'):spl cs (a+k) v=some cs':=by
 rw[BR]at h1;rw[GL]at h2 h3⊢;split at h1;rename_i o;injection h1 with h1;subst h1;split at h2;rename_i j;injection h2 with h2;subst h2;simp at j;split at h3;injection h3 with h3;subst h3;rw[if_pos (by omega)]
 congr 1
 simp only[dP,kT,AN,List.take_take,List.drop_take,wM,iC];have h:cs.take (a+k)=cs.take a++(cs.drop a).take k:=List.take_add ..;rw[h,iC];rw[show min k m=k by omega]
 congr 3
 have n:cs.drop (a+k+v.length)=(cs.drop (a+(k+v.length))).take (m-(k+v.length))++cs.drop (a+m):=(by have:=lV (m-(k+v.length)) (cs.drop (a+(k+v.length)));rw[wM]at this;rw[show a+(k+v.length)+(m-(k+v.length))=a+m by omega]at this;grind);rw[n]
 congr 2
 omega;cases h3;cases h2;cases h1
theorem GO{β:Type}(g:α->β)(cs:List α)(off size:Nat):sub (cs.map g) off size=(sub cs off size).map (List.map g):=by
 grind [BR,List.map_drop,List.map_take]
theorem GU{β:Type}(g:α->β)(cs:List α)(off:Nat)(vs:List α):spl (cs.map g) off (vs.map g)=(spl cs off vs).map (List.map g):=by
 grind [GL,List.map_drop,List.map_take]
theorem MR{n k w:Nat}{r:α->List PV}(hr: ∀x,(r x).length=w){v:Vector α n}{x:α}(h:v[k]?=some x):sub (qH r v) (k*w) w=some (r x):=by
 have g: ∀(l:List α) (k:Nat) (x:α),l[k]?=some x->sub ((l.map r).flatten) (k*w) w=some (r x):=by
  intro l
  induction l with
  |nil=>simp_all
  |cons y l ih=>
   intro k x h;cases k with
   |zero=>
    grind [JIm]
   |succ k=>
    simp at h;have:=ih k x h;rw[bZ,tS];rw[BR]at this⊢;split at this;injection this with this;have e:(k+1)*w=w+k*w:=by grind
    rw[e,if_pos (by grind)];have j:w+k*w=(r y).length+k*w:=by rw[hr]
    rw[j,List.drop_length_add_append,this];cases this
 exact g _ _ _ (by simp_all)
theorem L5{n k w:Nat}{r:α->List PV}(hr: ∀x,(r x).length=w){v:Vector α n}(h:k<n)(y:α):spl (qH r v) (k*w) (r y)=some (qH r (v.setIfInBounds k y)):=by
 have g: ∀(l:List α) (k:Nat),k<l.length->spl ((l.map r).flatten) (k*w) (r y)=some (((l.set k y).map r).flatten):=by
  intro l
  induction l with
  |nil=>simp_all
  |cons z l ih=>
   intro k h;cases k with
   |zero=>
    grind [JIA]
   |succ k=>
    simp at h;have:=ih k h;rw[bZ,tS];rw[GL]at this⊢;split at this;rename_i j;injection this with this;have e:(k+1)*w=(r z).length+k*w:=by grind
    rw[e,if_pos (by grind)];simp only[List.set_cons_succ,bZ,tS];rw[<-this];rw[show(r z).length+k*w+(r y).length=(r z).length+(k*w+(r y).length) by omega];simp[List.take_length_add_append];cases this
 grind [qH]
theorem JR1{n w:Nat}{r:α->List PV}(hr: ∀x,(r x).length=w)(v:Vector α n):(qH r v).length=n*w:=by
 have e: ∀l:List α,((l.map r).flatten).length=l.length*w:=by
  intro l
  induction l with
  |nil=>simp
  |cons x l ih=>grind
 grind [qH]
end
theorem GT: ∀l:List PV,unp (l.map AV.p)=some l|[]=>rfl|x::l=>by simp[unp,GT l]
theorem A4(l:List PV):lO true (l.map AV.p)=some (.data l):=by simp[GT]
theorem YT: ∀l:List PV,(l.map AV.p).all rA=true|[]=>rfl|x::l=>by simp
theorem y1(m:Nat)(ids:List Nat)(sto:List Blk): ∀l:List PV,fin.finL m ids sto (l.map AV.p)=some (l.map AV.p)|[]=>rfl|x::l=>by simp[fin.finL,fin,y1 m ids sto l]
theorem yu(l:List PV)(acc:List Ent):cV.entsOfL (l.map AV.p) acc=acc:=Ah (YT l)
theorem JJ7{α:Type}{r:α->List PV}{l:List α}{n:Int}{x:α}(h:idx l n=some x):RU (l.map r) n=some (r x):=by simp_all [idx]
theorem Nu{k:Nat}{n:Int}{u:Unit}(h:aX k n=some u):0<=n/\n<k:=by
 grind [aX]
theorem JKN{α:Type}{k:Nat}{v:Vector α k}{n:Int}{x:α}(h:qc v n=some x):(0<=n/\n<k)/\v[n.toNat]?=some x:=by
 grind [qc]
theorem JOQ{α:Type}{r:α->List PV}{esz bytes b:Nat}{w:Bool}{l e g:List α}{y:AV}{s:St}(h:Jr bytes l g=some e)(hb:s.sto[b]?=some (.arr w esz (l.map r)))(hy:(gB esz y).run s=some (g.map r)):
  (jV esz bytes (.slr b 0 l.length) y).run s=some ⟨.slr b 0 e.length,[(b,.arr w esz (e.map r))]⟩:=by
 grind [Jr,jV,dU,run_bind,JW]
theorem mo: ∀l:List Int,uU (l.map (r_i .u8))=some (toStr l)|[]=>rfl|x::l=>by simp[uU,r_i,mo l,toStr]
theorem jx(l:List UInt8):l.map nQ=(aS l).map (r_i .u8):=by simp[aS,r_i]
theorem JKI{α:Type}{bytes:Nat}{l e:List α}(h:bP bytes l=some e):qN l.length bytes=true/\e=l:=by
 grind [bP]
theorem JP5{α:Type}{bytes:Nat}{n m:Int}{z:α}{l:List α}(h:mkS bytes n m z=some l):(0<=n/\n<=m/\bytes*m<=281474976710656/\m<=281474976710656)/\l=List.replicate n.toNat z:=by
 grind [mkS]
end Go.Am
end
section
namespace Go.Am
open Go.RowKit
theorem JN2{σ:List Blk}{g:Gh}{w w':World}(hi:Inv ⟨σ,g,w⟩)(hb:Below w.heap.size w w'):
  Inv ⟨σ,g,w'⟩/\bD ⟨σ,g,w⟩ ⟨σ,g,w'⟩:=by
 have hk: ∀(r:Nat) x,w.heap[r]?=some x->w'.heap[r]?=some x:=λr x h=>by rw[hb.block r (CI h)];exact h
 have hc: ∀r o v,cellAt w r o=some v->cellAt w' r o=some v:=(by grind [cellAt]);have t:bD ⟨σ,g,w⟩ ⟨σ,g,w'⟩:=by
  refine⟨⟨hb.size,λr c e fz h=>⟨c,hk r _ h,rfl,λ_ _=>rfl⟩,λr x h _=>hk r x h,hb.os,hb.output⟩,λ_ _ h=>h,λ_ _ h=>.inl h,λr o ⟨b,hb⟩=>.inl ⟨b,hb⟩,zQ0 _,λ_ cs h=>⟨⟨cs,h,rfl⟩,rfl⟩,
   λ_ wm _ rows h=>⟨wm,rows,h,id,zQ0 _,λ_=>rfl⟩⟩
 exact⟨nM hi t (λ_=>False) (λ_ _=>⟨rfl,rfl⟩) (λ_ r o v _ _ h=>hc r o v h) (λ_ _ h=>h.elim) (λ_ _ _ _ h=>h.elim)
  (λ_ _ _ _ h=>h.elim) (λr o h=>Nat.lt_of_lt_of_le (hi.const r o h).1 hb.size) (λ_ _ _ _ h=>h.elim) (λ_ _ _ h j=>(j h).elim),t⟩
def zU:PV->Option Value| .b x=>some (.bool x)| .i k n=>some (.int k n)| .s l=>some (.string ⟨l.toArray⟩)|_=>none
theorem JLG{x:PV}{v:Value}(h:zU x=some v)(w:World)(C:Nat->Nat->Prop):J0b w C x v:=by
 cases x<;>simp only[zU,Option.some.injEq,reduceCtorEq]at h<;>subst h
 exact .b _;exact .i _ _;exact .s _
theorem JOv{x:PV}{v e:Value}{w:World}{C:Nat->Nat->Prop}(h:J0b w C x v)(hv:zU x=some e):v=e:=by cases x<;>simp only[zU,Option.some.injEq,reduceCtorEq]at hv<;>subst hv<;>cases h<;>rfl
theorem JG5{P:Program}{f:FuncId}{xs:List PV}{vs:List Value}{r:PV}{v:Value}{blks:List Blk}
  (hf: ∃fn,P.funcs[f]?=some fn∧fn.body.isSome=true∧(fn.name== "runtime.NumGoroutine")=false)
  (hx:xs.mapM zU=some vs) (hr:zU r=some v)
  (hc: ∀w,Calls P f vs.toArray w λe w'=>e=.returned v/\Below w.heap.size w w'):
  J7q P f (xs.map .p) blks (.p r,blks):=by
 refine⟨hf,λg w vals hi hl B=>?_⟩;have h:vals=vs.toArray:=by
  have k: ∀(xs:List PV) (vs vl:List Value),xs.mapM zU=some vs->xs.length=vl.length->
    (∀(i:Nat) x v,(xs.map AV.p)[i]?=some x->vl[i]?=some v->JH ⟨blks,g,w⟩ x v)->vl=vs:=by
   intro xs
   induction xs with
   |nil=>grind
   |cons x r ih=>
    intro vs vl h1 h2 o;simp only[List.mapM_cons,Option.pure_def,Option.bind_eq_bind]at h1;obtain⟨C,n,h1⟩:=bU.1 h1;obtain⟨y,j,h1⟩:=bU.1 h1;simp only[Option.some.injEq]at h1;subst h1;cases vl with
    |nil=>simp at h2
    |cons u q=>
     have:=o 0 (.p x) u rfl rfl;cases this with
     |p _ _ z=>rw[JOv z n,ih y q j (by simpa using h2) (λi x v hx A=>o (i+1) x v hx A)]
  apply OZ;rw[k xs vs vals.toList hx (by simpa using hl) (λi x v h1 h2=>B i x v h1 (by simpa using h2))]
 subst h;refine(hc w).mono ?_;rintro e w' ⟨rfl,hb⟩;obtain⟨hi',t⟩:=JN2 hi hb;exact⟨v,g,rfl,hi',t,.p _ _ (JLG hr _ _)⟩
theorem M0{T:dY}{f:FuncId}{g:List AV->List Blk->Option Res}(h:T f=some (.prim g))(args blks):AF T f args blks=g args blks:=by simp_all [AF,qW]
def H9(a:Option AFn)(k:Option kR)(g q:Option (List AV->List Blk->Option Res)):Option sn:=
 match a with
 |some a=>some (.fn a)
 |none=>match k with|some k=>some (.fork k)|none=>match g with|some g=>some (.prim g)|none=>q.map .prim
theorem GX{a:Option AFn}{k:Option kR}{g q:Option (List AV->List Blk->Option Res)}{e:sn}(h:H9 a k g q=some e):
  (∃x,a=some x/\e=.fn x)\/(∃x,k=some x/\e=.fork x)\/(∃x,g=some x/\e=.prim x)\/(∃x,q=some x/\e=.prim x):=by
 cases a with
 |some a=>exact .inl ⟨a,rfl,by injection h with h;exact h.symm⟩
 |none=>
  cases k with
  |some k=>exact .inr (.inl ⟨k,rfl,by injection h with h;exact h.symm⟩)
  |none=>
   cases g with
   |some g=>exact .inr (.inr (.inl ⟨g,rfl,by injection h with h;exact h.symm⟩))
   |none=>
    cases q with
    |some q=>exact .inr (.inr (.inr ⟨q,rfl,by injection h with h;exact h.symm⟩))
    |none=>cases h
def J6z(n:Int)(i:Nat):Int:=IntKind.wrap .u8 ((IntKind.wrap .u64 n).fdiv (2^(8*i)))
def J1y(n:Int)(k:Nat):List UInt8:=toStr ((List.range k).map (J6z n))
def Joq(l:List UInt8)(n size:Int):Option (List UInt8):=if size<1\/8<size then some l else if l.length+8<=140737488355328 then some (l++J1y n size.toNat)else none
def JGJ:List AV->List Blk->Option Res|[.p (.s l),.p (.i .i64 n),.p (.i .i64 k)],blks=>(Joq l n k).map λr=>(.p (.s r),blks)|_,_=>none
theorem JP3(x:Int):0<=IntKind.wrap .u8 x/\IntKind.wrap .u8 x<256:=by have h:IntKind.wrap .u8 x=x%256:=rfl;rw[h];omega
theorem Jry(n:Int)(i:Nat):((UInt8.ofNat (J6z n i).toNat).toNat:Int)=J6z n i:=by
 have h:0<=J6z n i/\J6z n i<256:=JP3 _;grind [UInt8.toNat_ofNat_of_lt']
theorem Jvo(n:Int)(k:Nat):J1y n (k+1)=J1y n k++[UInt8.ofNat (J6z n k).toNat]:=by simp[J1y,toStr,List.range_succ]
theorem J0s(n:Int)(k:Nat):(J1y n k).length=k:=by simp[J1y,toStr]
theorem JSK(x y:Bool):cI [.b] [.b x] [.b y]=some (decide (x=y)):=by
 grind [cI,wE]
theorem JSG(k:IntKind)(x y:Int):cI [.i k] [.i k x] [.i k y]=some (decide (x=y)):=by
 grind [cI,wE]
theorem JSE(x y:List UInt8):cI [.s] [.s x] [.s y]=some (decide (x=y)):=by
 grind [cI,wE]
theorem Pm{p q:Prop} [Decidable p] [Decidable q]: ∀{e g:List KD} {a1 a2 b1 b2:List PV},cI e a1 b1=some (decide p)->cI g a2 b2=some (decide q)->cI (e++g) (cat a1 a2) (cat b1 b2)=some (decide (p/\q)):=by
 have h: ∀(e g:List KD) (a1 a2 b1 b2:List PV) (r s:Bool),cI e a1 b1=some r->cI g a2 b2=some s->cI (e++g) (a1++a2) (b1++b2)=some (r&&s):=by
  intro e
  induction e with
  |nil=>
   grind [cI]
  |cons k ks ih=>
   intro g a1 a2 b1 b2 r s h1 h2;cases a1 with
   |nil=>grind [cI]
   |cons a a1=>
    cases b1 with
    |nil=>grind [cI]
    |cons b b1=>
     simp only[cI]at h1;split at h1;rename_i u c j hc;injection h1 with h1;subst h1;simp only[tZ,cI,j,ih _ _ _ _ _ _ _ hc h2,Bool.and_assoc];cases h1
 intro e g a1 a2 b1 b2 h1 h2;rw[h _ _ _ _ _ _ _ _ h1 h2,Bool.decide_and]
theorem JRj{α:Type} [DecidableEq α]{n:Nat}{ks:List KD}{r:α->List PV}(h: ∀x y,cI ks (r x) (r y)=some (decide (x=y)))(v w:Vector α n):
  cI (List.replicate n ks).flatten (qH r v) (qH r w)=some (decide (v=w)):=by
 have g: ∀(l e:List α),l.length=e.length->cI (List.replicate l.length ks).flatten (l.map r).flatten (e.map r).flatten=some (decide (l=e)):=by
  intro l
  induction l with
  |nil=>grind [cI]
  |cons a l ih=>
   intro e h1;cases e with
   |nil=>simp at h1
   |cons b e=>
    have h2:=Pm (h a b) (ih e (by simpa using h1));grind [decide]
 have j:=g v.toList w.toList (by simp);rw[show v.toList.length=n by simp]at j;rw[show decide (v=w)=decide (v.toList=w.toList) by simp[Vector.toList_inj]];exact j
end Go.Am
end
section
namespace Go.Am
def J1(k:IntKind)(a c:Int):Int:=k.wrap (a+c)
def Jm(k:IntKind)(a c:Int):Int:=k.wrap (a-c)
def cA(k:IntKind)(a c:Int):Int:=k.wrap (a*c)
def JTf(k:IntKind)(n:Int):Int:=k.wrap (0-n)
def aT(k:IntKind)(n:Int):Int:=k.wrap n
def aM(a c:Int):Bool:=decide (a=c)
def aO(a c:Int):Bool:= !decide (a=c)
def aL(a c:Int):Bool:=decide (a<c)
def aW(a c:Int):Bool:=decide (a<=c)
def aP(a c:Int):Bool:=decide (a>c)
def aR(a c:Int):Bool:=decide (a>=c)
def eqS(a c:List UInt8):Bool:=decide (a=c)
def neS(a c:List UInt8):Bool:= !decide (a=c)
def ltS(a c:List UInt8):Bool:=Op.bytesLess a c
def leS(a c:List UInt8):Bool:=Op.bytesLess a c||decide (a=c)
def gtS(a c:List UInt8):Bool:= !(Op.bytesLess a c||decide (a=c))
def geS(a c:List UInt8):Bool:= !Op.bytesLess a c
def eqB(a c:Bool):Bool:=decide (a=c)
def Ji(x:Bool):Bool:= !x
def J0{α:Type}(l:List α):Int:=l.length
def JSY{α:Type}(c:Bool)(x y:α):α:=if c=true then x else y
def bE{α:Type}(l:List α)(i:Nat):Option α:=l[i]?
def bC{α:Type}(l:List α)(i:Nat)(x:α):List α:=l.set i x
def vat{α:Type}{n:Nat}(l:Vector α n)(i:Nat):Option α:=l[i]?
def bI{α:Type}{n:Nat}(l:Vector α n)(i:Nat)(x:α):Vector α n:=l.setIfInBounds i x
inductive Ty where
 |b
 |i (k:IntKind)
 |s
 |l (t:Ty)
 |pr (a c:Ty)
 |ar (n:Nat) (t:Ty)
 |u
 |f
 deriving DecidableEq
@[reducible] def Ty.D:Ty->Type
 | .b=>Bool
 | .i _=>Int
 | .s=>List UInt8
 | .l t=>List t.D
 | .pr a c=>a.D×c.D
 | .ar n t=>Vector t.D n
 | .u=>Unit
 | .f=>Unit
def Ty.sz:Ty->Nat| .b=>1| .i _=>1| .s=>1| .l _=>1| .pr a c=>a.sz+c.sz| .ar n t=>n*t.sz| .u=>0| .f=>1
def cel:(t:Ty)->t.D->List PV| .b,x=>[.b x]| .i k,x=>[.i k x]| .s,x=>[.s x]| .l t,x=>[.sl t.sz (x.map (cel t))]| .pr a c,x=>cel a x.1++cel c x.2| .ar _ t,x=>qH (cel t) x| .u,_=>[]| .f,_=>[.nf]
theorem eP: ∀(t:Ty) (x:t.D),(cel t x).length=t.sz| .b,_=>rfl| .i _,_=>rfl| .s,_=>rfl| .l _,_=>rfl| .pr a c,x=>by simp only[cel,dP,eP a,eP c,Ty.sz]| .ar n t,x=>by simp only[cel,Ty.sz];exact JR1 (eP t) x| .u,_=>rfl| .f,_=>rfl
def Ty.eqd:(t:Ty)->DecidableEq t.D| .b=>inferInstanceAs (DecidableEq Bool)| .i _=>inferInstanceAs (DecidableEq Int)| .s=>inferInstanceAs (DecidableEq (List UInt8))| .l t=>have:=t.eqd;inferInstanceAs (DecidableEq (List t.D))| .pr a c=>have:=a.eqd;have:=c.eqd;inferInstanceAs (DecidableEq (a.D×c.D))| .ar n t=>have:=t.eqd;inferInstanceAs (DecidableEq (Vector t.D n))| .u=>inferInstanceAs (DecidableEq Unit)| .f=>inferInstanceAs (DecidableEq Unit)
def eqT(t:Ty)(x y:t.D):Bool:=have:=t.eqd;decide (x=y)
theorem eA{t:Ty}{x y:t.D}:eqT t x y=true↔x=y:=by simp[eqT]
def Ty.zero:(t:Ty)->t.D| .b=>false| .i _=>(0:Int)| .s=>[]| .l _=>[]| .pr a c=>(a.zero,c.zero)| .ar n t=>Vector.replicate n t.zero| .u=>()| .f=>()
def Ty.ks:Ty->Option (List KD)
 | .b=>some [.b]
 | .i k=>some [.i k]
 | .s=>some [.s]
 | .l _=>none
 | .pr a c=>match a.ks,c.ks with|some x,some y=>some (x++y)|_,_=>none
 | .ar n t=>match t.ks with|some x=>some (List.replicate n x).flatten|none=>none
 | .u=>some []
 | .f=>none
theorem UF: ∀(t:Ty) {ks:List KD} (x y:t.D),t.ks=some ks->cI ks (cel t x) (cel t y)=some (eqT t x y)
 | .b,ks,x,y,h=>by injection h with h;subst h;exact JSK x y
 | .i k,ks,x,y,h=>by injection h with h;subst h;exact JSG k x y
 | .s,ks,x,y,h=>by injection h with h;subst h;exact JSE x y
 | .l _,_,_,_,h=>by cases h
 | .pr a c,ks,x,y,h=>by
  simp only[Ty.ks]at h;split at h;rename_i p q e g;injection h with h;subst h;have h1:=UF a x.1 y.1 e;have h2:=UF c x.2 y.2 g;unfold eqT at h1 h2;have j:(have:=a.eqd;decide (x.1=y.1))= @decide _ (a.eqd x.1 y.1):=rfl;have:= @Pm _ _ (a.eqd x.1 y.1) (c.eqd x.2 y.2) _ _ _ _ _ _ h1 h2;simp only[cel];refine this.trans (congrArg some ?_);grind [eqT];cases h
 | .ar n t,ks,x,y,h=>by
  simp only[Ty.ks]at h;split at h;rename_i p e;injection h with h;subst h;have:= @JRj t.D t.eqd n p (cel t) (λx y=>by have:=UF t x y e;exact this) x y;grind [cel,eqT];cases h
 | .u,ks,x,y,h=>by injection h with h;subst h;rfl
 | .f,_,_,_,h=>by cases h
inductive Sp where
 |f (off:Nat)
 |a (i esz:Nat)
 deriving DecidableEq
def spo:List Sp->Nat|[]=>0| .f o::r=>o+spo r| .a i e::r=>i*e+spo r
def spf:Nat->List Sp->Nat×List Sp|o,.f k::r=>spf (o+k) r|o,r=>(o,r)
theorem SN: ∀(o:Nat) (p:List Sp),(spf o p).1+spo (spf o p).2=o+spo p|o,[]=>rfl|o,.f k::r=>by simp only[spf,SN,spo];omega|o,.a i e::r=>rfl
section
variable {R:Type}
def prt:(t:Ty)->t.D->(off:Nat)->List Sp->(w:Ty)->(w.D->Option R)->Option R
 |t,x,off,p,w,k=>
  if h:t=w/\off=0/\p=[]then k (h.1▸x)
  else match t,x with
   | .pr a c,x=>if off+(if p=[]then w.sz else 1)<=a.sz then prt a x.1 off p w k
    else if a.sz<=off then prt c x.2 (off-a.sz) p w k
    else none
   | .ar _ t,x=>if p=[]then(vat x (off/t.sz)).bind λy=>prt t y (off%t.sz) p w k
    else match off,p with|0,.a i e::r=>if e=t.sz then(vat x i).bind λy=>prt t y (spf 0 r).1 (spf 0 r).2 w k else none|_,_=>none
   |_,_=>none
def pst:(t:Ty)->t.D->(off:Nat)->List Sp->(w:Ty)->w.D->(t.D->Option R)->Option R
 |t,x,off,p,w,v,k=>
  if h:t=w/\off=0/\p=[]then k (h.1.symm▸v)
  else match t,x,k with
   | .pr a c,x,k=>if off+(if p=[]then w.sz else 1)<=a.sz then pst a x.1 off p w v λy=>k (y,x.2)
    else if a.sz<=off then pst c x.2 (off-a.sz) p w v λy=>k (x.1,y)
    else none
   | .ar _ t,x,k=>if p=[]then(vat x (off/t.sz)).bind λy=>pst t y (off%t.sz) p w v λy=>k (bI x (off/t.sz) y)
    else match off,p with|0,.a i e::r=>if e=t.sz then(vat x i).bind λy=>pst t y (spf 0 r).1 (spf 0 r).2 w v λy=>k (bI x i y)else none|_,_=>none
   |_,_,_=>none
end
theorem JM9{α:Type}{a b v:List α}{off n:Nat}(h:sub a off n=some v):sub (a++b) off n=some v:=by
 grind [BR]
theorem JKm{α:Type}{a b v:List α}{off n:Nat}(h0:a.length<=off)(h:sub b (off-a.length) n=some v):sub (a++b) off n=some v:=by
 grind [BR,List.drop_append,List.drop_of_length_le]
theorem JN5{α:Type}{a b v a':List α}{off:Nat}(h:spl a off v=some a'):spl (a++b) off v=some (a'++b):=by
 grind [GL]
theorem JJp{α:Type}{a b v e:List α}{off:Nat}(h0:a.length<=off)(h:spl b (off-a.length) v=some e):spl (a++b) off v=some (a++e):=by
 rw[GL]at h⊢;split at h;injection h with h;rw[if_pos (by simp;omega),<-h,List.take_append,List.take_of_length_le h0,List.drop_append,List.drop_of_length_le (by omega)];simp;omega;cases h
theorem My{α:Type}{n i:Nat}{x:Vector α n}{y:α}(h:x[i]?=some y):i<n:=by
 grind
theorem yB{R:Type}{t w:Ty}{x:t.D}{off:Nat}{p:List Sp}{k:w.D->Option R}{r:R}(h0:t=w/\off=0/\p=[])(h:k (h0.1▸x)=some r):
  ∃y,sub (cel t x) (off+spo p) w.sz=some (cel w y)/\k y=some r:=by
 obtain⟨rfl,rfl,rfl⟩:=h0;grind [spo,g0,eP]
theorem yC{R:Type}{t w:Ty}{x:t.D}{off:Nat}{p:List Sp}{v:w.D}{k:t.D->Option R}{r:R}(h0:t=w/\off=0/\p=[])(h:k (h0.1.symm▸v)=some r):
  ∃y,spl (cel t x) (off+spo p) (cel w v)=some (cel t y)/\k y=some r:=by
 obtain⟨rfl,rfl,rfl⟩:=h0;grind [spo,O3,eP]
theorem xZ{R:Type}: ∀{t:Ty} {x:t.D} {off:Nat} {p:List Sp} {w:Ty} {k:w.D->Option R} {r:R},prt t x off p w k=some r->
  ∃y,sub (cel t x) (off+spo p) w.sz=some (cel w y)/\k y=some r
 | .pr a c,x,off,p,w,k,r,h=>by
  unfold prt at h;by_cases g:Ty.pr a c=w/\off=0/\p=[];rw[dif_pos g]at h;exact yB g h;rw[dif_neg g]at h;dsimp only at h;by_cases h1:off+(if p=[]then w.sz else 1)<=a.sz;rw[if_pos h1]at h;obtain⟨y,v,o⟩:=xZ h;exact⟨y,JM9 v,o⟩;rw[if_neg h1]at h;by_cases h2:a.sz<=off;rw[if_pos h2]at h;obtain⟨y,v,o⟩:=xZ h;refine⟨y,JKm (by grind [eP]) ?_,o⟩;grind [eP];simp_all
 | .ar n t,x,off,p,w,k,r,h=>by
  unfold prt at h;by_cases g:Ty.ar n t=w/\off=0/\p=[];rw[dif_pos g]at h;exact yB g h;rw[dif_neg g]at h;dsimp only at h;by_cases A:p=[];rw[if_pos A]at h;obtain⟨z,j,h⟩:=bU.1 h;obtain⟨y,h1,h2⟩:=xZ h;refine⟨y,?_,h2⟩;have:=Po (MR (eP t) j) h1;grind [cel,Nat.div_add_mod];rw[if_neg A]at h;split at h;rename_i _ i e q _;split at h;rename_i B;obtain⟨z,j,h⟩:=bU.1 h;obtain⟨y,h1,h2⟩:=xZ h;refine⟨y,?_,h2⟩;have:=Po (MR (eP t) j) h1;grind [cel,SN,spo];cases h;cases h
 | .b,x,off,p,w,k,r,h=>by
  unfold prt at h;split at h
  next g=>exact yB g h
  next=>cases h
 | .i _,x,off,p,w,k,r,h=>by
  unfold prt at h;split at h
  next g=>exact yB g h
  next=>cases h
 | .s,x,off,p,w,k,r,h=>by
  unfold prt at h;split at h
  next g=>exact yB g h
  next=>cases h
 | .l _,x,off,p,w,k,r,h=>by
  unfold prt at h;split at h
  next g=>exact yB g h
  next=>cases h
 | .u,x,off,p,w,k,r,h=>by
  unfold prt at h;split at h
  next g=>exact yB g h
  next=>cases h
 | .f,x,off,p,w,k,r,h=>by
  unfold prt at h;split at h
  next g=>exact yB g h
  next=>cases h
theorem BV{R:Type}: ∀{t:Ty} {x:t.D} {off:Nat} {p:List Sp} {w:Ty} {v:w.D} {k:t.D->Option R} {r:R},pst t x off p w v k=some r->
  ∃y,spl (cel t x) (off+spo p) (cel w v)=some (cel t y)/\k y=some r
 | .pr a c,x,off,p,w,v,k,r,h=>by
  unfold pst at h;by_cases g:Ty.pr a c=w/\off=0/\p=[];rw[dif_pos g]at h;exact yC g h;rw[dif_neg g]at h;dsimp only at h;by_cases h1:off+(if p=[]then w.sz else 1)<=a.sz;rw[if_pos h1]at h;obtain⟨y,B,A⟩:=BV h;exact⟨(y,x.2),JN5 B,A⟩;rw[if_neg h1]at h;by_cases h2:a.sz<=off;rw[if_pos h2]at h;obtain⟨y,B,A⟩:=BV h;refine⟨(x.1,y),JJp (by grind [eP]) ?_,A⟩;grind [eP];simp_all
 | .ar n t,x,off,p,w,v,k,r,h=>by
  unfold pst at h;by_cases g:Ty.ar n t=w/\off=0/\p=[];rw[dif_pos g]at h;exact yC g h;rw[dif_neg g]at h;dsimp only at h;by_cases o:p=[];rw[if_pos o]at h;obtain⟨z,j,h⟩:=bU.1 h;obtain⟨y,h1,h2⟩:=BV h;refine⟨_,?_,h2⟩;have:=M8 (MR (eP t) j) h1 (L5 (eP t) (My j) y);subst o;simp only[spo,wI]at this⊢;rw[dd,Nat.div_add_mod]at this;exact this;rw[if_neg o]at h;split at h;rename_i _ i e q _;split at h;rename_i C;obtain⟨z,j,h⟩:=bU.1 h;obtain⟨y,h1,h2⟩:=BV h;refine⟨_,?_,h2⟩;have:=M8 (MR (eP t) j) h1 (L5 (eP t) (My j) y);have E:=SN 0 q;simp only[spo,C];rw[show i*t.sz+((spf 0 q).1+spo (spf 0 q).2)=0+(i*t.sz+spo q) by omega]at this;exact this;cases h;cases h
 | .b,x,off,p,w,v,k,r,h=>by
  unfold pst at h;split at h
  next g=>exact yC g h
  next=>cases h
 | .i _,x,off,p,w,v,k,r,h=>by
  unfold pst at h;split at h
  next g=>exact yC g h
  next=>cases h
 | .s,x,off,p,w,v,k,r,h=>by
  unfold pst at h;split at h
  next g=>exact yC g h
  next=>cases h
 | .l _,x,off,p,w,v,k,r,h=>by
  unfold pst at h;split at h
  next g=>exact yC g h
  next=>cases h
 | .u,x,off,p,w,v,k,r,h=>by
  unfold pst at h;split at h
  next g=>exact yC g h
  next=>cases h
 | .f,x,off,p,w,v,k,r,h=>by
  unfold pst at h;split at h
  next g=>exact yC g h
  next=>cases h
end Go.Am
end
section
namespace Go.Am
inductive TC where|d (t:Ty) (x:t.D)|sc (t:Ty) (rows:List t.D)|np|nf|un|ptr (b:Nat) (p:List Sp)|cp (t:Ty) (x:t.D) (p:List Sp)|slr (b:Nat)|slo (b n:Nat)|ep (b i:Nat) (p:List Sp)|epo (b e i:Nat) (p:List Sp)|pre (b k:Nat)|pro (b n k:Nat)|suf (b i:Nat)|suo (b i n:Nat)|fn (f:FuncId)
inductive TA where|c (x:TC)|dt (t:Ty) (x:t.D)|m (t:Ty) (cs:List TC)|fn (f:FuncId) (first caps:List TC)
inductive TV where|a (x:TA)|tup (vs:List TA)
inductive TB where|dead|box (t:Ty) (x:t.D)|mbox (t:Ty) (cs:List TC)|arr (w:Bool) (t:Ty) (rows:List t.D)
structure TSt where
 env:List (Nat×TV)
 sto:List TB
def hdP:List PV->PV|[c]=>c|_=>.np
def lnB:TB->Nat| .arr _ _ rows=>rows.length|_=>0
def lnO:Option TB->Nat|some x=>lnB x|none=>0
def lns(sto:List TB)(b:Nat):Nat:=lnO sto[b]?
section
variable (L:Nat->Nat)
def bB:TC->AV| .d t x=>.p (hdP (cel t x))| .sc t rows=>.p (.slc t.sz (rows.map (cel t)))| .np=>.p .np| .nf=>.p .nf| .un=>.unk| .ptr b p=>.ptr b (spo p)| .cp t x p=>.cp (cel t x) (spo p)| .slr b=>.slr b 0 (L b)| .slo b n=>.slr b 0 n| .ep b i p=>.ep b (L b) i (spo p)| .epo b e i p=>.ep b e i (spo p)| .pre b k=>.pre b (L b) k| .pro b n k=>.pre b n k| .suf b i=>.slr b (min i (L b)) (L b-i)| .suo b i n=>.slr b i n| .fn f=>.fn f [] []
def bR:TA->AV| .c x=>bB L x| .dt t x=>.data (cel t x)| .m _ cs=>.agg (cs.map (bB L))| .fn f a c=>.fn f (a.map (bB L)) (c.map (bB L))
def JY:TV->AV| .a x=>bR L x| .tup vs=>.tup (vs.map (bR L))
def aZ:TB->Blk| .dead=>.dead| .box t x=>.box ((cel t x).map .p)| .mbox _ cs=>.box (cs.map (bB L))| .arr w t rows=>.arr w t.sz (rows.map (cel t))
end
def fZ(L:Nat->Nat)(env:List (Nat×TV)):List (Nat×AV):=env.map λx=>(x.1,JY L x.2)
def JE(s:TSt):St:=⟨fZ (lns s.sto) s.env,s.sto.map (aZ (lns s.sto))⟩
section
variable (L:Nat->Nat)
theorem BI(t x):aZ L (.box t x)=.box ((cel t x).map .p):=rfl
theorem NL(t cs):aZ L (.mbox t cs)=.box (cs.map (bB L)):=rfl
theorem u9(w t rows):aZ L (.arr w t rows)=.arr w t.sz (rows.map (cel t)):=rfl
theorem kY(b p):JY L (.a (.c (.ptr b p)))=.ptr b (spo p):=rfl
theorem mY(t x p):JY L (.a (.c (.cp t x p)))=.cp (cel t x) (spo p):=rfl
theorem fD(b):JY L (.a (.c (.slr b)))=.slr b 0 (L b):=rfl
theorem nC(b i p):JY L (.a (.c (.ep b i p)))=.ep b (L b) i (spo p):=rfl
theorem e_i(k x):JY L (.a (.c (.d (.i k) x)))=.p (.i k x):=rfl
theorem e_b(x):JY L (.a (.c (.d .b x)))=.p (.b x):=rfl
theorem e_s(x):JY L (.a (.c (.d .s x)))=.p (.s x):=rfl
theorem e_l(t x):JY L (.a (.c (.d (.l t) x)))=.p (.sl t.sz (x.map (cel t))):=rfl
theorem Kc(f):JY L (.a (.c (.fn f)))=.fn f [] []:=rfl
theorem ql(t x):JY L (.a (.dt t x))=.data (cel t x):=rfl
theorem q7(f a c):JY L (.a (.fn f a c))=.fn f (a.map (bB L)) (c.map (bB L)):=rfl
theorem e_m(t cs):JY L (.a (.m t cs))=.agg (cs.map (bB L)):=rfl
end
theorem PR{t:Ty}(h:t.sz=1)(x:t.D):cel t x=[hdP (cel t x)]:=by
 have:=eP t x;rw[h]at this
 match hc:cel t x,this with
 |[c],_=>rfl
def kC(b n:Nat):TC->TC| .slr c=>if c=b then .slo b n else .slr c| .ep c i p=>if c=b then .epo b n i p else .ep c i p| .pre c k=>if c=b then .pro b n k else .pre c k| .suf c i=>if c=b then .suo b (min i n) (n-i)else .suf c i|x=>x
def kA(b n:Nat):TA->TA| .c x=>.c (kC b n x)| .dt t x=>.dt t x| .m t cs=>.m t (cs.map (kC b n))| .fn f a c=>.fn f (a.map (kC b n)) (c.map (kC b n))
def kV(b n:Nat):TV->TV| .a x=>.a (kA b n x)| .tup vs=>.tup (vs.map (kA b n))
def kB(b n:Nat):TB->TB| .mbox t cs=>.mbox t (cs.map (kC b n))|x=>x
def wS(b:Nat)(x:TB)(s:TSt):TSt:=⟨s.env,s.sto.set b x⟩
def wN(b:Nat)(x:TB)(s:TSt):TSt:=⟨s.env.map λy=>(y.1,kV b (lns s.sto b) y.2),(s.sto.map (kB b (lns s.sto b))).set b x⟩
def bF(d:Option Nat)(v:TV)(s:TSt):TSt:=
 match d with
 |some d=>⟨(d,v)::s.env,s.sto⟩
 |none=>s
section
variable {L L':Nat->Nat} {b:Nat}
theorem k_C(h: ∀c,c≠b->L' c=L c)(x:TC):bB L' (kC b (L b) x)=bB L x:=by cases x<;>grind [kC,bB]
theorem Ie(h: ∀c,c≠b->L' c=L c)(xs:List TC):(xs.map (kC b (L b))).map (bB L')=xs.map (bB L):=by simp_all [k_C]
theorem k_A(h: ∀c,c≠b->L' c=L c)(x:TA):bR L' (kA b (L b) x)=bR L x:=by cases x<;>simp only[kA,bR,k_C h,Ie h]
theorem k_V(h: ∀c,c≠b->L' c=L c)(x:TV):JY L' (kV b (L b) x)=JY L x:=by cases x<;>simp only[kV,JY,k_A h,wK,Function.comp_def]
theorem k_B(h: ∀c,c≠b->L' c=L c)(x:TB):aZ L' (kB b (L b) x)=aZ L x:=by cases x<;>simp only[kB,aZ,Ie h]
theorem JRJ(b n:Nat)(x:TB):lnB (kB b n x)=lnB x:=by cases x<;>rfl
theorem JQc(sto:List TB)(b n c:Nat):lns (sto.map (kB b n)) c=lns sto c:=by
 unfold lns;rw[iS];cases sto[c]? with
 |none=>rfl
 |some x=>exact JRJ b n x
theorem Nw(sto:List TB)(b:Nat)(x:TB)(c:Nat)(h:c≠b):lns (sto.set b x) c=lns sto c:=by
 grind [lns]
theorem u7{sto:List TB}{b:Nat}(h:b<sto.length)(x:TB):lns (sto.set b x) b=lnB x:=by unfold lns;rw[DZ h];rfl
theorem FM(b:Nat)(x:TB)(s:TSt):JE (wN b x s)=⟨(JE s).env,(JE s).sto.set b (aZ (lns (wN b x s).sto) x)⟩:=by
 have h: ∀c,c≠b->lns (wN b x s).sto c=lns s.sto c:=λc hc=>by
  grind [wN,Nw,JQc]
 unfold JE
 congr 1
 show fZ _ (s.env.map λy=>(y.1,kV b (lns s.sto b) y.2))=fZ _ s.env;simp_all [fZ,k_V];show((s.sto.map (kB b (lns s.sto b))).set b x).map _=_;grind [List.map_set,List.map_congr_left,k_B]
theorem FV{b:Nat}{x:TB}{s:TSt}(h:lnB x=lns s.sto b):lns (wS b x s).sto=lns s.sto:=by
 grind [wS,u7,List.set_eq_of_length_le,Nw]
theorem xF{b:Nat}{x:TB}{s:TSt}(h:lnB x=lns s.sto b):JE (wS b x s)=⟨(JE s).env,(JE s).sto.set b (aZ (lns s.sto) x)⟩:=by
 grind [JE,FV,wS,List.map_set]
theorem nN{s s1:TSt}{ws:List (Nat×Blk)}(h:JE s1=⟨(JE s).env,upd ws (JE s).sto⟩)(d:Option Nat)(v:TV):put d ⟨JY (lns s1.sto) v,ws⟩ (JE s)=JE (bF d v s1):=by cases d<;>simp_all [bF,JE,fZ]
end
theorem NA{s:TSt}(d:Option Nat)(v:TV):put d ⟨JY (lns s.sto) v,[]⟩ (JE s)=JE (bF d v s):=nN rfl d v
def tlk(n:Nat):List (Nat×TV)->Option TV|[]=>none|(m,v)::r=>if n=m then some v else tlk n r
theorem BM(L:Nat->Nat)(n:Nat): ∀env:List (Nat×TV),lk n (fZ L env)=(tlk n env).map (JY L)
 |[]=>rfl
 |(m,v)::r=>by
  simp only[fZ,bZ,lk,tlk];split;rfl;exact BM L n r
theorem dZ(s:TSt)(b:Nat):(JE s).sto[b]?=(s.sto[b]?).map (aZ (lns s.sto)):=by simp[JE]
theorem iG{sto:List TB}{b:Nat}{w:Bool}{t:Ty}{rows:List t.D}(h:sto[b]?=some (.arr w t rows)):lns sto b=rows.length:=by unfold lns;rw[h];rfl
inductive TO where|t (n:Nat)|c (x:TV)
def erO:TO->Opd| .t n=>.t n| .c x=>.c (JY (λ_=>0) x)
def Ke:TC->Bool| .d _ _| .sc _ _| .np| .nf| .un| .fn _=>true|_=>false
def RK:TA->Bool| .c x=>Ke x| .dt _ _=>true| .m _ _=>false| .fn _ a c=>a.isEmpty&&c.isEmpty
def FE:TV->Bool| .a x=>RK x| .tup vs=>vs.isEmpty
theorem JMc{L L':Nat->Nat}{v:TV}(h:FE v=true):JY L v=JY L' v:=by
 cases v with
 |a x=>
  cases x with
  |c x=>cases x<;>first|rfl|grind [FE,RK,Ke]
  |dt t x=>rfl
  |m t cs=>grind [FE,RK]
  |fn f a c=>simp[FE,RK]at h;obtain⟨rfl,rfl⟩:=h;rfl
 |tup vs=>simp[FE]at h;subst h;rfl
def tev:TO->TSt->Option TV| .t n,s=>tlk n s.env| .c x,_=>if FE x=true then some x else none
theorem bT{x:TO}{s:TSt}{v:TV}(h:tev x s=some v):(ev (erO x)).run (JE s)=some (JY (lns s.sto) v):=by
 cases x with
 |t n=>simp only[erO,ev,yI];show(lk n (fZ (lns s.sto) s.env)).bind _=_;rw[BM,show tlk n s.env=some v from h];rfl
 |c x=>
  grind [tev,erO,ev,JW,JMc]
end Go.Am
end
section
namespace Go.Am
@[reducible] def vi(k:IntKind)(n:Int):TV:=.a (.c (.d (.i k) n))
@[reducible] def vb(x:Bool):TV:=.a (.c (.d .b x))
@[reducible] def vs(l:List UInt8):TV:=.a (.c (.d .s l))
@[reducible] def vl(t:Ty)(l:List t.D):TV:=.a (.c (.d (.l t) l))
def uv:TV:=.tup []
def mkv(agg:Bool)(t:Ty)(x:t.D):TV:=if agg=true then .a (.dt t x)else .a (.c (.d t x))
def Ok{R:Type}(m:RM Eff)(d:Option Nat)(s:TSt)(k:TSt->Option R)(r:R):Prop:= ∃e s',m.run (JE s)=some e/\put d e (JE s)=JE s'/\k s'=some r
def asm:(t:Ty)->List TC->Option t.D
 | .pr a c,l=>match asm a (l.take a.sz),asm c (l.drop a.sz)with|some x,some y=>some (x,y)|_,_=>none
 | .ar _ _,_=>none
 | .u,l=>if l.isEmpty=true then some ()else none
 |t,l=>match l with|[.d t' x]=>if h:t'=t then some (h▸x)else none|_=>none
def zX:(t:Ty)->t.D->Option (List TC)
 | .pr a c,x=>match zX a x.1,zX c x.2 with|some l,some q=>some (l++q)|_,_=>none
 | .ar _ _,_=>none
 | .u,_=>some []
 |t,x=>some [.d t x]
theorem MU(L:Nat->Nat): ∀{t:Ty} {l:List TC} {x:t.D},asm t l=some x->l.map (bB L)=(cel t x).map .p
 | .pr a c,l,x,h=>by
  simp only[asm]at h;split at h;rename_i y z g j;injection h with h;subst h;have h1:=MU L g;have h2:=MU L j;grind [cel,List.take_append_drop];cases h
 | .ar _ _,_,_,h=>by cases h
 | .u,l,x,h=>by
  simp only[asm]at h;split at h;rename_i e;rw[List.isEmpty_iff.1 e];rfl;cases h
 | .b,l,x,h=>by
  simp only[asm]at h;split at h;split at h;rename_i e;subst e;injection h with h;subst h;rfl;cases h;cases h
 | .i _,l,x,h=>by
  simp only[asm]at h;split at h;split at h;rename_i e;subst e;injection h with h;subst h;rfl;cases h;cases h
 | .s,l,x,h=>by
  simp only[asm]at h;split at h;split at h;rename_i e;subst e;injection h with h;subst h;rfl;cases h;cases h
 | .l _,l,x,h=>by
  simp only[asm]at h;split at h;split at h;rename_i e;subst e;injection h with h;subst h;rfl;cases h;cases h
 | .f,l,x,h=>by
  simp only[asm]at h;split at h;split at h;rename_i e;subst e;injection h with h;subst h;rfl;cases h;cases h
theorem NK(L:Nat->Nat): ∀{t:Ty} {x:t.D} {l:List TC},zX t x=some l->l.map (bB L)=(cel t x).map .p
 | .pr a c,x,l,h=>by
  simp only[zX]at h;split at h;rename_i y z e g;injection h with h;subst h;have h1:=NK L e;have h2:=NK L g;grind [cel];cases h
 | .ar _ _,_,_,h=>by cases h
 | .u,x,l,h=>by injection h with h;subst h;rfl
 | .b,x,l,h=>by injection h with h;subst h;rfl
 | .i _,x,l,h=>by injection h with h;subst h;rfl
 | .s,x,l,h=>by injection h with h;subst h;rfl
 | .l _,x,l,h=>by injection h with h;subst h;rfl
 | .f,x,l,h=>by injection h with h;subst h;rfl
def zcs:Ty->List TC| .pr a c=>zcs a++zcs c| .ar n t=>(List.replicate n (zcs t)).flatten| .u=>[]|t=>[.d t t.zero]
theorem FT(L:Nat->Nat): ∀t:Ty,(zcs t).map (bB L)=(cel t t.zero).map .p| .pr a c=>by simp only[zcs,oO,FT L a,FT L c,Ty.zero,cel]| .ar n t=>by have ih:=FT L t;simp_all [cel,qH,Ty.zero,zcs]| .u=>rfl| .b=>rfl| .i _=>rfl| .s=>rfl| .l _=>rfl| .f=>rfl
def mkb(t:Ty)(cs:List TC):TB:=match asm t cs with|some x=>.box t x|none=>.mbox t cs
theorem VA(L:Nat->Nat)(t:Ty)(cs:List TC):aZ L (mkb t cs)=.box (cs.map (bB L)):=by
 unfold mkb;split;grind [BI,MU];rfl
theorem UQ(t:Ty)(cs:List TC):lnB (mkb t cs)=0:=by unfold mkb;split<;>rfl
def da:TC->Bool| .ptr _ _| .cp _ _ _| .slr _| .slo _ _| .ep _ _ _| .epo _ _ _ _| .un| .fn _| .pre _ _| .pro _ _ _| .suf _ _| .suo _ _ _=>true|_=>false
theorem g7(L:Nat->Nat): ∀{cs:List TC},cs.any da=true->unp (cs.map (bB L))=none
 |[],h=>by simp at h
 |x::r,h=>by
  simp only[List.any_cons,ER]at h;rcases h with h|h;cases x<;>simp[da]at h<;>rfl
  have:=g7 L h;cases x<;>simp[bB,unp,this]
def mka(agg:Bool)(t:Ty)(cs:List TC):Option TV:=
 if agg=true then
  match asm t cs with
  |some x=>some (.a (.dt t x))
  |none=>if cs.any da=true then some (.a (.m t cs))else none
 else match cs with|[c]=>some (.a (.c c))|_=>none
theorem FS(L:Nat->Nat){agg:Bool}{t:Ty}{cs:List TC}{v:TV}(h:mka agg t cs=some v):lO agg (cs.map (bB L))=some (JY L v):=by
 unfold mka at h;split at h;rename_i e;subst e;split at h;rename_i x j;injection h with h;subst h;rw[MU L j,A4];rfl;split at h;rename_i g;injection h with h;subst h;simp only[lO,g7 L g,if_true];rfl;cases h;rename_i e;split at h;injection h with h;subst h;have:agg=false:=by simpa using e
 subst this;rfl;cases h
def tcs:TV->Option (List TC)| .a (.c .un)=>none| .a (.c (.pre _ _))=>none| .a (.c (.pro _ _ _))=>none| .a (.c x)=>some [x]| .a (.dt t x)=>zX t x| .a (.m _ cs)=>some cs| .a (.fn f [] [])=>some [.fn f]|_=>none
theorem MQ(L:Nat->Nat){v:TV}{cs:List TC}(h:tcs v=some cs):cellsOf (JY L v)=some (cs.map (bB L)):=by
 cases v with
 |a x=>
  cases x with
  |c x=>cases x<;>cases h<;>rfl
  |dt t x=>simp only[JY,bR,cellsOf];rw[NK L h]
  |m t cs=>injection h with h;subst h;rfl
  |fn f a c=>
   cases a with
   |nil=>cases c with
    |nil=>injection h with h;subst h;rfl
    |cons y c=>cases h
   |cons y a=>cases h
 |tup vs=>cases h
def tdv(t:Ty):TV->Option t.D| .a (.c (.d t' x))=>if h:t'=t then some (h▸x)else none| .a (.dt t' x)=>if h:t'=t then some (h▸x)else none|_=>none
def agv:TV->Bool| .a (.dt _ _)=>true|_=>false
theorem JRL(L:Nat->Nat){t:Ty}{v:TV}{x:t.D}(h:tdv t v=some x):JY L v=if agv v=true then .data (cel t x)else .p (hdP (cel t x)):=by
 unfold tdv at h;split at h;split at h;rename_i e;subst e;injection h with h;subst h;rfl;cases h;split at h;rename_i e;subst e;injection h with h;subst h;rfl;cases h;cases h
def uD:List Sp->Option Nat
 |[]=>some 0
 | .f o::r=>match uD r with|some n=>some (o+n)|none=>none
 | .a _ _::_=>none
theorem FZ: ∀{p:List Sp} {n:Nat},uD p=some n->spo p=n
 |[],n,h=>by injection h with h
 | .f o::r,n,h=>by
  simp only[uD]at h;split at h;rename_i m e;injection h with h;simp only[spo,FZ e,h];cases h
 | .a _ _::_,_,h=>by cases h
section
variable {R:Type}
def ug(agg:Bool)(t:Ty)(v:TV)(d:Option Nat)(s:TSt)(k:TSt->Option R):Option R:=
 if agg=true\/t.sz=1 then
  match v with
  | .a (.c (.cp e x p))=>prt e x (spf 0 p).1 (spf 0 p).2 t λy=>k (bF d (mkv agg t y) s)
  | .a (.c (.ptr b p))=>match s.sto[b]? with
   |some (.box e x)=>prt e x (spf 0 p).1 (spf 0 p).2 t λy=>k (bF d (mkv agg t y) s)
   |some (.mbox _ cs)=>match uD p with
    |some off=>match sub cs off t.sz with
     |some l=>match mka agg t l with|some v=>k (bF d v s)|none=>none
     |none=>none
    |none=>none
   |_=>none
  | .a (.c (.ep b i p))=>match s.sto[b]? with|some (.arr _ e rows)=>(bE rows i).bind λrow=>prt e row (spf 0 p).1 (spf 0 p).2 t λy=>k (bF d (mkv agg t y) s)|_=>none
  |_=>none
 else none
theorem FY(L:Nat->Nat){agg:Bool}{t:Ty}(h:agg=true\/t.sz=1)(y:t.D):pM agg (cel t y)=some (JY L (mkv agg t y)):=by
 unfold mkv;split;rename_i e;subst e;rfl;rename_i e;have:agg=false:=by simpa using e
 subst this;have:=h.resolve_left (by simp);rw[PR this];rfl
theorem OY(p:List Sp):(spf 0 p).1+spo (spf 0 p).2=spo p:=by simp[SN]
theorem JMV{agg:Bool}{t:Ty}{v:TV}{d:Option Nat}{s:TSt}{k:TSt->Option R}{r:R}(h:ug agg t v d s k=some r):Ok (gZ agg t.sz (JY (lns s.sto) v)) d s k r:=by
 unfold ug at h;split at h;rename_i g;split at h;rename_i j x p;obtain⟨y,h1,h2⟩:=xZ h;rw[OY]at h1;refine⟨_,_,?_,NA d (mkv agg t y),h2⟩;simp only[kY,mY,nC,fD,gZ,h1,FY (lns s.sto) g,val];rfl;rename_i b p;split at h;rename_i j x hb;obtain⟨y,h1,h2⟩:=xZ h;rw[OY]at h1;refine⟨_,_,?_,NA d (mkv agg t y),h2⟩;have hc:lO agg ((cel t y).map .p)=pM agg (cel t y):=by
  unfold lO pM;split;rw[GT];cases hcel:cel t y with
  |nil=>rfl
  |cons a l=>cases l<;>rfl
 simp only[kY,mY,nC,fD,gZ,dU,dZ,hb,cT,Jy,aZ,GO,h1,hc,FY (lns s.sto) g,val];rfl;rename_i cs hb;split at h;rename_i off n;split at h;rename_i l hl;split at h;rename_i v o;refine⟨_,_,?_,NA d v,h⟩;simp only[kY,mY,nC,fD,gZ,dU,dZ,hb,cT,Jy,aZ,GO,FZ n,hl,FS (lns s.sto) o,val];rfl;cases h;cases h;cases h;cases h;rename_i b i p;split at h;rename_i w j rows hb;obtain⟨row,e,h⟩:=bU.1 h;have e:rows[i]?=some row:=e;obtain⟨y,h1,h2⟩:=xZ h;rw[OY]at h1;refine⟨_,_,?_,NA d (mkv agg t y),h2⟩;simp only[kY,mY,nC,fD,gZ,dU,dZ,hb,cT,Jy,aZ,iG hb,dW,if_true,iS,e,h1,FY (lns s.sto) g,val];rfl;cases h;cases h;cases h
end
end Go.Am
end
section
namespace Go.Am
section
variable {R:Type}
def fzC:(t:Ty)->List TC->TSt->(t.D->TSt->Option R)->Option R
 | .pr a c,l,s,k=>fzC a (l.take a.sz) s λx s=>fzC c (l.drop a.sz) s λy s=>k (x,y) s
 | .ar _ _,_,_,_=>none
 | .u,l,s,k=>if l.isEmpty=true then k () s else none
 | .l e,l,s,k=>match l with
  |[.d t' x]=>if h:t'=.l e then k (h▸x) s else none
  |[.slr b]=>match s.sto[b]? with|some (.arr _ e' rows)=>if h:e'=e then k (h▸rows) (wS b (.arr false e' rows) s)else none|_=>none
  |_=>none
 |t,l,s,k=>match l with|[.d t' x]=>if h:t'=t then k (h▸x) s else none|_=>none
def tfz(t:Ty)(v:TV)(s:TSt)(k:t.D->TSt->Option R):Option R:=
 match v with
 | .a (.dt t' x)=>if h:t'=t then k (h▸x) s else none
 | .a (.c x)=>fzC t [x] s k
 | .a (.m _ cs)=>fzC t cs s k
 |_=>none
def Fzd(s s':TSt)(ws:List (Nat×Blk)):Prop:=s'.env=s.env/\lns s'.sto=lns s.sto/\JE s'=⟨(JE s).env,upd ws (JE s).sto⟩/\(∀(b:Nat) (t:Ty) (rows:List t.D) (w:Bool),s'.sto[b]?=some (TB.arr w t rows)-> ∃w',s.sto[b]?=some (TB.arr w' t rows))/\(∀(b:Nat) (t:Ty) (rows:List t.D),s.sto[b]?=some (TB.arr false t rows)->s'.sto[b]?=some (TB.arr false t rows))/\ ∀x∈ws,∃(t:Ty) (rows:List t.D),s'.sto[x.1]?=some (TB.arr false t rows)
theorem Fzd.refl(s:TSt):Fzd s s []:=⟨rfl,rfl,rfl,λb t rows w h=>⟨w,h⟩,λb t rows h=>h,λx h=>by cases h⟩
theorem Fzd.trans{s1 e g:TSt}{a c:List (Nat×Blk)}(h:Fzd s1 e a)(j:Fzd e g c):Fzd s1 g (a++c):=by
 obtain⟨h1,h2,B,z,o,y⟩:=h;obtain⟨n,q,A,v,k,r⟩:=j;refine⟨n.trans h1,q.trans h2,?_,λb t rows w h=>?_,λb t rows h=>k b t rows (o b t rows h),λx C=>?_⟩
 all_goals grind [fE]
theorem ic{s:TSt}{b:Nat}{w:Bool}{t:Ty}{rows:List t.D}(hb:s.sto[b]?=some (.arr w t rows)):Fzd s (wS b (.arr false t rows) s) [(b,.arr false t.sz (rows.map (cel t)))]:=by
 have hl:lnB (.arr false t rows)=lns s.sto b:=by rw[iG hb];rfl
 have hs:(wS b (.arr false t rows) s).sto[b]?=some (.arr false t rows):=by grind [wS]
 have g: ∀c,c≠b->(wS b (.arr false t rows) s).sto[c]?=s.sto[c]?:=λc hc=>by grind [wS]
 refine⟨rfl,FV hl,xF hl,λc t' e w' h=>?_,λc t' e h=>?_,λx j=>?_⟩
 all_goals grind
theorem JOy(x y:List AV)(st:St):(fz.fzL (x++y)).run st=((fz.fzL x).run st).bind λa=>((fz.fzL y).run st).map λc=>(a.1++c.1,a.2++c.2):=by
 induction x with
 |nil=>simp_all
 |cons v x ih=>
  simp only[tZ,fz.fzL,run_bind,ih];cases(fz.fz1 v).run st with
  |none=>rfl
  |some a=>
   simp only[Jy];cases(fz.fzL x).run st with
   |none=>rfl
   |some c=>simp only[Jy];cases(fz.fzL y).run st<;>simp_all
theorem MH{L:Nat->Nat}{t t':Ty}{x:t'.D}(h:t'=t)(h1:t.sz=1)(st:St):(fz.fzL ([TC.d t' x].map (bB L))).run st=some (cel t (h▸x),[]):=by
 grind [PR,bB,fz.fzL,fz.fz1,run_bind,JW]
theorem MT: ∀{t:Ty} {l:List TC} {s0 s:TSt} {w0:List (Nat×Blk)} {k:t.D->TSt->Option R} {r:R},Fzd s0 s w0->fzC t l s k=some r->
  ∃y s' ws,(fz.fzL (l.map (bB (lns s0.sto)))).run (JE s0)=some (cel t y,ws)/\Fzd s0 s' (w0++ws)/\k y s'=some r
 | .pr a c,l,s0,s,w0,k,r,j,h=>by simp only[fzC]at h;obtain⟨x,s1,v,A,o,h⟩:=MT j h;obtain⟨y,q,B,z,C,h⟩:=MT o h;refine⟨(x,y),q,v++B,?_,by simp_all,h⟩;have:=JOy ((l.take a.sz).map (bB (lns s0.sto))) ((l.drop a.sz).map (bB (lns s0.sto))) (JE s0);rw[<-oO,lV,A,z]at this;exact this
 | .ar _ _,_,_,_,_,_,_,_,h=>by cases h
 | .u,l,s0,s,w0,k,r,j,h=>by
  simp only[fzC]at h;split at h;rename_i g;refine⟨(),s,[],?_,by simp_all,h⟩;rw[List.isEmpty_iff.1 g];rfl;cases h
 | .l e,l,s0,s,w0,k,r,j,h=>by
  simp only[fzC]at h;split at h;split at h;rename_i g;exact⟨_,s,[],MH g rfl _,by simp_all,h⟩;cases h;rename_i b;split at h;rename_i w e' rows hb;split at h;rename_i g;subst g;obtain⟨w',n⟩:=j.2.2.2.1 b _ rows w hb;refine⟨rows,_,[(b,.arr false e'.sz (rows.map (cel e')))],?_,j.trans (ic hb),h⟩;simp only[bZ,List.map_nil,bB,fz.fzL,fz.fz1,run_bind,dU,dZ,n,cT,Jy,aZ,iG n,dW,qM,if_true,EK,JW];rfl;cases h;cases h;cases h
 | .b,l,s0,s,w0,k,r,j,h=>by
  simp only[fzC]at h;split at h;split at h;rename_i g;exact⟨_,s,[],MH g rfl _,by simp_all,h⟩;cases h;cases h
 | .i _,l,s0,s,w0,k,r,j,h=>by
  simp only[fzC]at h;split at h;split at h;rename_i g;exact⟨_,s,[],MH g rfl _,by simp_all,h⟩;cases h;cases h
 | .s,l,s0,s,w0,k,r,j,h=>by
  simp only[fzC]at h;split at h;split at h;rename_i g;exact⟨_,s,[],MH g rfl _,by simp_all,h⟩;cases h;cases h
 | .f,l,s0,s,w0,k,r,j,h=>by
  simp only[fzC]at h;split at h;split at h;rename_i g;exact⟨_,s,[],MH g rfl _,by simp_all,h⟩;cases h;cases h
theorem JTb(x:AV)(hx:(∀cs,x≠.data cs)/\ ∀cs,x≠.agg cs)(st:St){y:List PV}{ws:List (Nat×Blk)}(h:(fz.fzL [x]).run st=some (y,ws)):(fz x).run st=some (y,ws):=by simp only[fz.fzL,run_bind,JW]at h;cases x<;>simp_all [bU]
theorem Lr{t:Ty}{v:TV}{s0 s:TSt}{w0:List (Nat×Blk)}{k:t.D->TSt->Option R}{r:R}(g:Fzd s0 s w0)(h:tfz t v s k=some r):
  ∃y s' ws,(fz (JY (lns s0.sto) v)).run (JE s0)=some (cel t y,ws)/\Fzd s0 s' (w0++ws)/\k y s'=some r:=by
 unfold tfz at h;split at h;split at h;rename_i j;subst j;exact⟨_,s,[],rfl,by simp_all,h⟩;cases h;rename_i x;obtain⟨y,s',ws,h1,h2,e⟩:=MT g h;refine⟨y,s',ws,JTb _ ⟨λcs=>?_,λcs=>?_⟩ _ h1,h2,e⟩<;>cases x<;>simp[bB,JY,bR]
 obtain⟨y,s',ws,h1,h2,e⟩:=MT g h;exact⟨y,s',ws,h1,h2,e⟩;cases h
end
end Go.Am
end
section
namespace Go.Am
section
variable {R:Type}
theorem mf(L:Nat->Nat){t:Ty}{v:TV}{x:t.D}(h:tdv t v=some x)(ha:agv v=true\/t.sz=1):cellsOf (JY L v)=some ((cel t x).map .p):=by
 rw[JRL L h];split;rfl;rename_i e;rw[PR (ha.resolve_left e)];rfl
def vh(t:Ty)(x u:TV)(d:Option Nat)(s:TSt)(k:TSt->Option R):Option R:=
 match x with
 | .a (.c (.ptr b p))=>match s.sto[b]? with
  |some (.box e y)=>match tdv t u with
   |some z=>if agv u=true\/t.sz=1 then pst e y (spf 0 p).1 (spf 0 p).2 t z λh=>k (bF d uv (wS b (.box e h) s))else none
   |none=>match uD p,zX e y,tcs u with
    |some off,some cs,some l=>if l.length=t.sz then
     match spl cs off l with
     |some cs'=>k (bF d uv (wS b (mkb e cs') s))
     |none=>none
     else none
    |some off,none,some l=>if off=0/\l.length=e.sz/\l.length=t.sz then k (bF d uv (wS b (mkb e l) s))else none
    |_,_,_=>none
  |some (.mbox e cs)=>match uD p,tcs u with
   |some off,some l=>if l.length=t.sz then
    match spl cs off l with
    |some cs'=>k (bF d uv (wS b (mkb e cs') s))
    |none=>none
    else none
   |_,_=>none
  |_=>none
 | .a (.c (.ep b i p))=>tfz t u s λz s1=>match s1.sto[b]? with|some (.arr true e rows)=>(bE rows i).bind λrow=>pst e row (spf 0 p).1 (spf 0 p).2 t z λg=>k (bF d uv (wS b (.arr true e (bC rows i g)) s1))|_=>none
 |_=>none
theorem JRN(L:Nat->Nat):JY L uv=hH:=rfl
theorem UH{s:TSt}{b:Nat}{t:Ty}{x:t.D}(h:s.sto[b]?=some (.box t x)):lns s.sto b=0:=by unfold lns;rw[h];rfl
theorem Qn{s:TSt}{b:Nat}{t:Ty}{cs:List TC}(h:s.sto[b]?=some (.mbox t cs)):lns s.sto b=0:=by unfold lns;rw[h];rfl
theorem CA{s:TSt}{b:Nat}(h:s.sto[b]?=some .dead):lns s.sto b=0:=by unfold lns;rw[h];rfl
theorem LA{m:RM Eff}{d:Option Nat}{s:TSt}{k:TSt->Option R}{r:R}{b:Nat}{x:TB}{v:TV}(hl:lnB x=lns s.sto b)(hm:m.run (JE s)=some ⟨JY (lns s.sto) v,[(b,aZ (lns s.sto) x)]⟩)
  (h:k (bF d v (wS b x s))=some r):Ok m d s k r:=by
 refine⟨_,_,hm,?_,h⟩;have e:=FV hl;rw[<-e];refine nN ?_ d v;simp_all [xF]
theorem sm{m:RM Eff}{d:Option Nat}{s:TSt}{k:TSt->Option R}{r:R}{b:Nat}{x:TB}{v:TV}(hm:m.run (JE s)=some ⟨JY (lns (wN b x s).sto) v,[(b,aZ (lns (wN b x s).sto) x)]⟩)
  (h:k (bF d v (wN b x s))=some r):Ok m d s k r:=
 ⟨_,_,hm,nN (FM b x s) d v,h⟩
theorem fR{m:RM Eff}{d:Option Nat}{s:TSt}{k:TSt->Option R}{r:R}{v:TV}(hm:m.run (JE s)=some ⟨JY (lns s.sto) v,[]⟩)(h:k (bF d v s)=some r):Ok m d s k r:=
 ⟨_,_,hm,NA d v,h⟩
theorem u5{m:RM Eff}{d:Option Nat}{s s':TSt}{ws:List (Nat×Blk)}{k:TSt->Option R}{r:R}{v:TV}(f:Fzd s s' ws)(hm:m.run (JE s)=some ⟨JY (lns s.sto) v,ws⟩)(h:k (bF d v s')=some r):Ok m d s k r:=by refine⟨_,_,hm,?_,h⟩;rw[<-f.2.1];exact nN f.2.2.1 d v
theorem JIV{t:Ty}{x u:TV}{d:Option Nat}{s:TSt}{k:TSt->Option R}{r:R}(h:vh t x u d s k=some r):Ok (iV t.sz (JY (lns s.sto) x) (JY (lns s.sto) u)) d s k r:=by
 unfold vh at h;split at h;rename_i b p;split at h;rename_i e y hb;split at h;rename_i z D;split at h;rename_i G;obtain⟨B,h1,h2⟩:=BV h;rw[OY]at h1;refine LA (x:=.box e B) (v:=uv) (UH hb).symm ?_ h2;simp only[kY,mY,nC,fD,iV,dU,dZ,hb,cT,Jy,aZ,mf (lns s.sto) D G,dW,eP,if_true,GU,h1,JW];rfl;cases h;split at h;rename_i off cs l n hc hl;split at h;rename_i w;split at h;rename_i cs' hs;refine LA (x:=mkb e cs') (v:=uv) ((UQ _ _).trans (UH hb).symm) ?_ h;rw[VA];simp only[kY,mY,nC,fD,iV,dU,dZ,hb,cT,Jy,aZ,MQ (lns s.sto) hl,dW,w,if_true,FZ n,<-NK (lns s.sto) hc,GU,hs,JW];rfl;cases h;cases h;rename_i off l n _ hl;split at h;rename_i C;obtain⟨rfl,h1,h2⟩:=C;refine LA (x:=mkb e l) (v:=uv) ((UQ _ _).trans (UH hb).symm) ?_ h;rw[VA];have H:spl ((cel e y).map AV.p) 0 (l.map (bB (lns s.sto)))=some (l.map (bB (lns s.sto))):=O3 (by grind [eP]);simp only[kY,mY,nC,fD,iV,dU,dZ,hb,cT,Jy,aZ,MQ (lns s.sto) hl,dW,h2,if_true,FZ n,H,JW];rfl;cases h;cases h;rename_i e cs hb;split at h;rename_i off l n hl;split at h;rename_i w;split at h;rename_i cs' hs;refine LA (x:=mkb e cs') (v:=uv) ((UQ _ _).trans (Qn hb).symm) ?_ h;rw[VA];simp only[kY,mY,nC,fD,iV,dU,dZ,hb,cT,Jy,aZ,MQ (lns s.sto) hl,dW,w,if_true,FZ n,GU,hs,JW];rfl;cases h;cases h;cases h;cases h;rename_i b i p;obtain⟨z,s1,ws,h1,f,h⟩:=Lr (Fzd.refl s) h;rw[sA]at f;split at h;rename_i e rows hb;obtain⟨row,q,h⟩:=bU.1 h;have q:rows[i]?=some row:=q;obtain⟨g,A,I⟩:=BV h;rw[OY]at A;obtain⟨w',j⟩:=f.2.2.2.1 b _ rows true hb;have E:w'=true:=by
  cases w' with
  |true=>rfl
  |false=>have:=f.2.2.2.2.1 b _ rows j;simp_all
 subst E;have o:(ws.all λy=>y.1 !=b)=true:=(by rw[List.all_eq_true];intro y F;obtain⟨t',rows',hf⟩:=f.2.2.2.2.2 y F;grind);have hl:lnB (.arr true e (bC rows i g))=lns s1.sto b:=by grind [iG,lnB,bC]
 refine⟨⟨hH,ws++[(b,.arr true e.sz ((bC rows i g).map (cel e)))]⟩,_,?_,?_,I⟩;simp only[kY,mY,nC,fD,iV,dU,dZ,j,cT,Jy,aZ,iG j,dW,if_true,iS,q,run_bind,h1,eP,o,and_self,A,JW,List.map_set,bC];rw[<-JRN (lns (wS b (.arr true e (bC rows i g)) s1).sto)];refine nN ?_ d uv;rw[xF hl,f.2.2.1,fE];rfl;cases h;cases h
def tpv:List (Nat×Ty×TO)->TSt->Option (List (Nat×(w:Ty)×w.D))
 |[],_=>some []
 |(off,w,o)::r,s=>match tev o s with
  |some v=>match tdv w v with
   |some z=>if agv v=true\/w.sz=1 then
    match tpv r s with
    |some l=>some ((off,⟨w,z⟩)::l)
    |none=>none
    else none
   |none=>none
  |none=>none
def RR(t:Ty):t.D->List (Nat×(w:Ty)×w.D)->(t.D->Option R)->Option R|x,[],k=>k x|x,(off,⟨w,z⟩)::r,k=>pst t x off [] w z λe=>RR t e r k
def tpc:List (Nat×Ty×TO)->TSt->Option (List (Nat×Nat×List TC))
 |[],_=>some []
 |(off,w,o)::r,s=>match tev o s with
  |some v=>match tcs v with
   |some l=>match tpc r s with|some q=>some ((off,w.sz,l)::q)|none=>none
   |none=>none
  |none=>none
def LC:List (Nat×Nat×List TC)->List TC->Option (List TC)
 |[],cs=>some cs
 |(off,n,c)::r,cs=>if c.length=n then
  match spl cs off c with
  |some cs'=>LC r cs'
  |none=>none
  else none
def erP(parts:List (Nat×Ty×TO)):List (Nat×Nat×Opd):=parts.map λx=>(x.1,x.2.1.sz,erO x.2.2)
theorem vf{s:TSt}: ∀{parts:List (Nat×Ty×TO)} {l:List (Nat×Nat×List TC)},tpc parts s=some l->
  (lI (erP parts)).run (JE s)=some (l.map λx=>(x.1,x.2.1,x.2.2.map (bB (lns s.sto))))
 |[],l,h=>by injection h with h;subst h;rfl
 |(off,w,o)::r,l,h=>by
  simp only[tpc]at h;split at h;rename_i v g;split at h;rename_i c hc;split at h;rename_i q e;injection h with h;subst h;have ih:=vf e;simp only[erP,bZ,lI,run_bind,bT g,Jy,MQ (lns s.sto) hc];simp_all [erP];cases h;cases h;cases h
theorem Lc{s:TSt}: ∀{parts:List (Nat×Ty×TO)} {l:List (Nat×(w:Ty)×w.D)},tpv parts s=some l->
  (lI (erP parts)).run (JE s)=some (l.map λx=>(x.1,x.2.1.sz,(cel x.2.1 x.2.2).map .p))
 |[],l,h=>by injection h with h;subst h;rfl
 |(off,w,o)::r,l,h=>by
  simp only[tpv]at h;split at h;rename_i v g;split at h;rename_i z k;split at h;rename_i j;split at h;rename_i q e;injection h with h;subst h;have ih:=Lc e;simp only[erP,bZ,lI,run_bind,bT g,Jy,mf (lns s.sto) k j];simp_all [erP];cases h;cases h;cases h;cases h
theorem xj{t:Ty}: ∀{l:List (Nat×(w:Ty)×w.D)} {x:t.D} {k:t.D->Option R} {r:R},RR t x l k=some r->
  ∃y,rD (l.map λx=>(x.1,x.2.1.sz,(cel x.2.1 x.2.2).map .p)) ((cel t x).map .p)=some ((cel t y).map .p)/\k y=some r
 |[],x,k,r,h=>⟨x,rfl,h⟩
 |(off,⟨w,z⟩)::q,x,k,r,h=>by
  simp only[RR]at h;obtain⟨e,h1,h2⟩:=BV h;obtain⟨y,j,g⟩:=xj h2;grind [rD,eP,GU,spo]
theorem kd(L:Nat->Nat): ∀{l:List (Nat×Nat×List TC)} {cs cs':List TC},LC l cs=some cs'->
  rD (l.map λx=>(x.1,x.2.1,x.2.2.map (bB L))) (cs.map (bB L))=some (cs'.map (bB L))
 |[],cs,cs',h=>by injection h with h;subst h;rfl
 |(off,n,c)::q,cs,cs',h=>by
  simp only[LC]at h;split at h;rename_i e;split at h;rename_i g hs;simp only[bZ,rD,dW,e,if_true,GU,hs,cT];exact kd L h;cases h;cases h
def vk(t:Ty)(parts:List (Nat×Ty×TO))(d:Option Nat)(s:TSt)(k:TSt->Option R):Option R:=
 match tpv parts s with
 |some l=>RR t t.zero l λy=>k (bF d (.a (.dt t y)) s)
 |none=>match tpc parts s with
  |some l=>match LC l (zcs t)with
   |some cs'=>match mka true t cs' with|some v=>k (bF d v s)|none=>none
   |none=>none
  |none=>none
theorem JJP(F:Orc)(new:Nat){t:Ty}{parts:List (Nat×Ty×TO)}{d:Option Nat}{s:TSt}{k:TSt->Option R}{r:R}(h:vk t parts d s k=some r):Ok (opR F (.build (cel t t.zero) (erP parts)) new) d s k r:=by
 unfold vk at h;split at h;rename_i l hl;obtain⟨y,h1,h2⟩:=xj h;refine fR (v:=.a (.dt t y)) ?_ h2;simp only[opR,run_bind,Lc hl,Jy,h1,A4,val,JW];rfl;split at h;rename_i l hl;split at h;rename_i cs' hf;split at h;rename_i v e;refine fR (v:=v) ?_ h;simp only[opR,run_bind,vf hl,Jy,<-FT (lns s.sto) t,kd (lns s.sto) hf,FS (lns s.sto) e,val,JW];cases h;cases h;cases h
def vm(agg:Bool)(off:Nat)(t:Ty)(v:TV)(d:Option Nat)(s:TSt)(k:TSt->Option R):Option R:=
 if agg=true\/t.sz=1 then
  match v with
  | .a (.dt e x)=>prt e x off [] t λy=>k (bF d (mkv agg t y) s)
  | .a (.m _ cs)=>match sub cs off t.sz with
   |some l=>match mka agg t l with|some v=>k (bF d v s)|none=>none
   |none=>none
  |_=>none
 else none
theorem JJj{agg:Bool}{off:Nat}{t:Ty}{v:TV}{d:Option Nat}{s:TSt}{k:TSt->Option R}{r:R}(h:vm agg off t v d s k=some r):Ok (val (sJ agg off t.sz (JY (lns s.sto) v))) d s k r:=by
 unfold vm at h;split at h;rename_i j;split at h;rename_i e x;obtain⟨y,h1,h2⟩:=xZ h;refine fR (v:=mkv agg t y) ?_ h2;grind [spo,ql,sJ,FY,val,JW];rename_i cs;split at h;rename_i l hl;split at h;rename_i v g;refine fR (v:=v) ?_ h;grind [e_m,sJ,GO,FS,val,JW];cases h;cases h;cases h;cases h
end
end Go.Am
end
section
namespace Go.Am
section
variable {R:Type}
theorem ix{α:Type} [BEq α] [LawfulBEq α] [DecidableEq α](x y:α):(x==y)=decide (x=y):=by
 grind
def Vl(m:Option AV)(s:TSt)(kk:TV->Option R)(r:R):Prop:= ∃v,m=some (JY (lns s.sto) v)/\kk v=some r
theorem Vl.ok{m:Option AV}{d:Option Nat}{s:TSt}{k:TSt->Option R}{r:R}(h:Vl m s (λv=>k (bF d v s)) r):Ok (val m) d s k r:=by obtain⟨v,h1,h2⟩:=h;refine fR (v:=v) ?_ h2;rw[h1];rfl
def qg(op:BinOp)(k:IntKind)(a c:Int)(kk:TV->Option R):Option R:=
 match op with
 | .add=>kk (vi k (J1 k a c))
 | .sub=>kk (vi k (Jm k a c))
 | .mul=>kk (vi k (cA k a c))
 | .quo=>(I8 k a c).bind λq=>kk (vi k q)
 | .rem=>(uF a c).bind λq=>kk (vi k q)
 | .and=>kk (vi k (kU k a c))
 | .or=>kk (vi k (orI k a c))
 | .xor=>kk (vi k (gX k a c))
 | .eql=>kk (vb (aM a c))
 | .neq=>kk (vb (aO a c))
 | .lss=>kk (vb (aL a c))
 | .leq=>kk (vb (aW a c))
 | .gtr=>kk (vb (aP a c))
 | .geq=>kk (vb (aR a c))
 |_=>none
def sb(op:BinOp)(a c:List UInt8)(kk:TV->Option R):Option R:=
 match op with
 | .add=>(cN a c).bind λq=>kk (vs q)
 | .eql=>kk (vb (eqS a c))
 | .neq=>kk (vb (neS a c))
 | .lss=>kk (vb (ltS a c))
 | .leq=>kk (vb (leS a c))
 | .gtr=>kk (vb (gtS a c))
 | .geq=>kk (vb (geS a c))
 |_=>none
inductive TBT where|plain|bool|flat (t:Ty)|nilp|nilf
def erT:TBT->BT| .plain=>.plain| .bool=>.bool| .flat t=>.flat (t.ks.getD [])| .nilp=>.nilp| .nilf=>.nilf
def oM(op:BinOp)(x:Bool)(kk:TV->Option R):Option R:=
 match op with
 | .eql=>kk (vb x)
 | .neq=>kk (vb (Ji x))
 |_=>none
def qz(op:BinOp)(bt:TBT)(x y:TV)(kk:TV->Option R):Option R:=
 match bt with
 | .plain=>match x,y with
  | .a (.c (.d (.i k) a)),.a (.c (.d (.i j) c))=>match op with| .shl=>(mZ k a c).bind λq=>kk (vi k q)| .shr=>(hY k a c).bind λq=>kk (vi k q)|_=>if k=j then qg op k a c kk else none
  | .a (.c (.d .s a)),.a (.c (.d .s c))=>sb op a c kk
  |_,_=>none
 | .bool=>match x,y with| .a (.c (.d .b a)),.a (.c (.d .b c))=>oM op (eqB a c) kk|_,_=>none
 | .flat t=>match x,y with| .a (.dt g a),.a (.dt e c)=>if h:g=t/\e=t/\t.ks.isSome=true then oM op (eqT t (h.1▸a) (h.2.1▸c)) kk else none|_,_=>none
 | .nilp=>match x with| .a (.c .np)=>oM op true kk| .a (.c (.ptr _ _))=>oM op false kk| .a (.c (.cp _ _ _))=>oM op false kk| .a (.c (.ep _ _ _))=>oM op false kk|_=>none
 | .nilf=>match x with| .a (.c .nf)=>oM op true kk| .a (.fn _ _ _)=>oM op false kk| .a (.c (.fn _))=>oM op false kk| .a (.c (.d .f _))=>oM op true kk|_=>none
theorem UJ{op:BinOp}{x:Bool}{s:TSt}{kk:TV->Option R}{r:R}(h:oM op x kk=some r):Vl (jZ op (some x)) s kk r:=by
 unfold oM at h;split at h;exact⟨_,rfl,h⟩;exact⟨_,rfl,h⟩;cases h
theorem JND{op:BinOp}{k:IntKind}{a c:Int}{s:TSt}{kk:TV->Option R}{r:R}(h:qg op k a c kk=some r):Vl ((zV op k a c).map .p) s kk r:=by
 unfold qg at h;split at h<;>first
  |exact⟨_,rfl,h⟩
  |(obtain⟨q,h1,h⟩:=bU.1 h
    refine⟨_,?_,h⟩
    first|unfold I8 at h1|unfold uF at h1
    split at h1;cases h1;rename_i e;injection h1 with h1;simp only[zV,if_neg e,h1,cT,e_i])
  |(refine⟨_,?_,h⟩;simp only[zV,ix,cT,e_b,bne,aM,aO,aL,aW,aP,aR];done)
  |cases h
theorem JPn{op:BinOp}{a c:List UInt8}{s:TSt}{kk:TV->Option R}{r:R}(h:sb op a c kk=some r):Vl ((zP op a c).map .p) s kk r:=by
 unfold sb at h;split at h<;>first
  |(obtain⟨q,h1,h⟩:=bU.1 h
    refine⟨_,?_,h⟩;unfold cN at h1;split at h1;rename_i e;injection h1 with h1;simp only[zP,if_pos e,h1,cT,e_s];cases h1)
  |(refine⟨_,?_,h⟩;simp only[zP,ix,cT,e_b,eqS,neS,ltS,leS,gtS,geS];done)
  |cases h
theorem JOI{op:BinOp}{bt:TBT}{x y:TV}{s:TSt}{kk:TV->Option R}{r:R}(h:qz op bt x y kk=some r):Vl (oW op (erT bt) (JY (lns s.sto) x) (JY (lns s.sto) y)) s kk r:=by
 unfold qz at h;split at h;split at h;rename_i k a g c;simp only[e_i,erT,oW];split at h;obtain⟨q,h1,h⟩:=bU.1 h;unfold mZ at h1;split at h1;cases h1;rename_i e;injection h1 with h1;exact⟨_,by simp_all [e_i],h⟩;obtain⟨q,h1,h⟩:=bU.1 h;unfold hY at h1;split at h1;cases h1;rename_i e;injection h1 with h1;exact⟨_,by simp_all [e_i],h⟩;grind [JND];exact JPn h;cases h;split at h;rename_i a c;simp only[e_b,erT,oW,ix];exact UJ h;cases h;grind [Option.isSome_iff_exists,ql,erT,oW,UF,UJ];split at h<;>first|exact UJ h|cases h
 split at h<;>first|exact UJ h|cases h
def tUn(op:UnOp)(x:TV)(kk:TV->Option R):Option R:=
 match op,x with
 | .neg,.a (.c (.d (.i k) n))=>kk (vi k (JTf k n))
 | .xor,.a (.c (.d (.i k) n))=>kk (vi k (KX k n))
 | .not,.a (.c (.d .b x))=>kk (vb (Ji x))
 |_,_=>none
theorem JRs{op:UnOp}{x:TV}{s:TSt}{kk:TV->Option R}{r:R}(h:tUn op x kk=some r):Vl (unP op (JY (lns s.sto) x)) s kk r:=by unfold tUn at h;split at h<;>first|exact⟨_,rfl,h⟩|cases h
def tMm(mx:Bool)(x y:TV)(kk:TV->Option R):Option R:=
 match x,y with
 | .a (.c (.d (.i k) a)),.a (.c (.d (.i _) c))=>kk (vi k (if mx=true then cX a c else jE a c))
 |_,_=>none
theorem JRX{mx:Bool}{x y:TV}{s:TSt}{kk:TV->Option R}{r:R}(h:tMm mx x y kk=some r):Vl (mmP mx (JY (lns s.sto) x) (JY (lns s.sto) y)) s kk r:=by
 unfold tMm at h;split at h;exact⟨_,by cases mx<;>rfl,h⟩;cases h
def tls(t:Ty)(v:TV)(s:TSt):Option (List t.D):=
 match v with
 | .a (.c (.d (.l t') l))=>if h:t'=t then some (h▸l)else none
 | .a (.c (.d .s l))=>if h:t=.i .u8 then some (h▸(aS l:List (Ty.i .u8).D))else none
 | .a (.c (.slr b))=>match s.sto[b]? with|some (.arr _ t' rows)=>if h:t'=t then some (h▸rows)else none|_=>none
 | .a (.c (.suf b i))=>match s.sto[b]? with|some (.arr _ t' rows)=>if h:t'=t then some (h▸rows.drop i)else none|_=>none
 |_=>none
theorem gf{t:Ty}{v:TV}{s:TSt}{l:List t.D}(h:tls t v s=some l):(gB t.sz (JY (lns s.sto) v)).run (JE s)=some (l.map (cel t)):=by
 unfold tls at h;split at h;grind [e_l,gB,JW];split at h;rename_i g;subst g;injection h with h;subst h;simp only[e_s,gB,Ty.sz,if_true,JW,jx];rfl;cases h;rename_i b;split at h;rename_i w t' rows hb;split at h;rename_i g;subst g;injection h with h;subst h;simp only[fD,gB,dU,dZ,hb,cT,Jy,aZ,iG hb,dW,qM,and_self,if_true,JW,EK];cases h;cases h;rename_i b i;split at h;rename_i w t' rows hb;split at h;rename_i g;subst g;injection h with h;subst h;have e:JY (lns s.sto) (.a (.c (.suf b i)))=.slr b (min i (lns s.sto b)) (lns s.sto b-i):=rfl;have k:min i rows.length+(rows.length-i)=rows.length:=by omega
 have j:(rows.map (cel t')).drop (min i rows.length)=(rows.map (cel t')).drop i:=(by rcases Nat.le_total i rows.length with h|h;rw[Nat.min_eq_left h];rw[Nat.min_eq_right h,List.drop_of_length_le (by simp),List.drop_of_length_le (by simpa using h)]);simp only[e,gB,dU,dZ,hb,cT,Jy,aZ,iG hb,dW,k,and_self,if_true,JW,j,List.map_drop];cases h;cases h;cases h
def tx(k:CK)(x:TV)(d:Option Nat)(new:Nat)(s:TSt)(kk:TSt->Option R):Option R:=
 match k with
 | .int k=>match x with| .a (.c (.d (.i _) n))=>kk (bF d (vi k (aT k n)) s)|_=>none
 | .same=>match x with| .a (.c (.d .s l))=>kk (bF d (vs l) s)|_=>none
 | .toStr=>match tls (.i .u8) x s with|some l=>kk (bF d (vs (toStr l)) s)|none=>none
 | .toBytes own=>match x with| .a (.c (.d .s l))=>if own=true then kk (bF d (.a (.c (.slr new))) (wN new (.arr true (.i .u8) (aS l)) s))else kk (bF d (vl (.i .u8) (aS l)) s)|_=>none
theorem JLI(F:Orc){k:CK}{x:TO}{v:TV}{d:Option Nat}{new:Nat}{s:TSt}{kk:TSt->Option R}{r:R}(hx:tev x s=some v)(hn:k=.toBytes true->new<s.sto.length)(h:tx k v d new s kk=some r):Ok (opR F (.conv k (erO x)) new) d s kk r:=by
 unfold tx at h;split at h;split at h;refine fR (v:=vi _ _) ?_ h;simp only[opR,run_bind,bT hx,Jy,e_i,JW,aT];cases h;split at h;refine fR (v:=vs _) ?_ h;grind [opR,run_bind,bT,e_s,JW];cases h;split at h;rename_i l hl;refine fR (v:=vs _) ?_ h;have:=gf hl;have e:l.map (cel (.i .u8))=l.map (r_i .u8):=rfl;rw[e]at this;simp only[opR,run_bind,bT hx,Jy,this,mo,e_s,JW,Ty.sz];rw[show(gB 1 (JY (lns s.sto) v)).run (JE s)=some (l.map (r_i .u8))from this];simp[mo];cases h;rename_i own;split at h;rename_i l;split at h;rename_i g;subst g;refine sm (x:=.arr true (.i .u8) (aS l)) (v:=.a (.c (.slr new))) ?_ h;simp only[opR,run_bind,bT hx,Jy,e_s,if_true,JW,fD,aZ,jx];have e:lns (wN new (TB.arr true (Ty.i IntKind.u8) (aS l)) s).sto new=l.length:=(by grind [wN,u7,lnB,aS]);rw[e];rfl;rename_i g;have:own=false:=by simpa using g
 subst this;refine fR (v:=vl _ _) ?_ h;simp only[opR,run_bind,bT hx,Jy,e_s,fB,if_false,JW,e_l,jx];rfl;cases h
end
end Go.Am
end
section
namespace Go.Am
section
variable {R:Type}
theorem Np(p q:List Sp):spo (p++q)=spo p+spo q:=by
 induction p with
 |nil=>simp[spo]
 |cons x p ih=>cases x<;>simp only[tZ,spo,ih]<;>omega
def vn(off:Nat)(x:TV)(kk:TV->Option R):Option R:=
 match x with
 | .a (.c (.ptr b p))=>kk (.a (.c (.ptr b (p++[.f off]))))
 | .a (.c (.cp t x p))=>kk (.a (.c (.cp t x (p++[.f off]))))
 | .a (.c (.ep b i p))=>kk (.a (.c (.ep b i (p++[.f off]))))
 |_=>none
theorem JJC{off:Nat}{x:TV}{s:TSt}{kk:TV->Option R}{r:R}(h:vn off x kk=some r):Vl (MC off (JY (lns s.sto) x)) s kk r:=by
 unfold vn at h;split at h<;>first
  |(refine⟨_,?_,h⟩;simp only[kY,mY,nC,MC,Np,spo,wI];done)
  |cases h
def gl(len esz:Nat)(x i:TV)(kk:TV->Option R):Option R:=
 match i with
 | .a (.c (.d (.i _) n))=>(aX len n).bind λ_=>match x with| .a (.c (.ptr b p))=>kk (.a (.c (.ptr b (p++[.a n.toNat esz]))))| .a (.c (.cp t x p))=>kk (.a (.c (.cp t x (p++[.a n.toNat esz]))))| .a (.c (.ep b i p))=>kk (.a (.c (.ep b i (p++[.a n.toNat esz]))))|_=>none
 |_=>none
theorem JJU{len esz:Nat}{x i:TV}{s:TSt}{kk:TV->Option R}{r:R}(h:gl len esz x i kk=some r):Vl (ML len esz (JY (lns s.sto) x) (JY (lns s.sto) i)) s kk r:=by
 unfold gl at h;split at h;obtain⟨_,h1,h⟩:=bU.1 h;have e:=Nu h1;split at h<;>first
  |(refine⟨_,?_,h⟩;simp only[kY,mY,nC,e_i,ML,if_pos e,Np,spo,wI];done)
  |cases h
 cases h
def vj(t:Ty)(x i:TV)(s:TSt)(kk:TV->Option R):Option R:=
 match i with
 | .a (.c (.d (.i _) n))=>match x with
  | .a (.c (.d (.l t') l))=>if t'=t then(idx l n).bind λy=>kk (.a (.c (.cp t' y [])))else none
  | .a (.c (.slr b))=>match s.sto[b]? with|some (.arr _ t' rows)=>if t'=t then(aX rows.length n).bind λ_=>kk (.a (.c (.ep b n.toNat [])))else none|_=>none
  |_=>none
 |_=>none
theorem JJc{t:Ty}{x i:TV}{d:Option Nat}{s:TSt}{k:TSt->Option R}{r:R}(h:vj t x i s (λv=>k (bF d v s))=some r):Ok (nK t.sz (JY (lns s.sto) x) (JY (lns s.sto) i)) d s k r:=by
 unfold vj at h;split at h;split at h;split at h;rename_i e;subst e;obtain⟨y,h1,h⟩:=bU.1 h;refine fR (v:=.a (.c (.cp _ y []))) ?_ h;grind [e_l,e_i,mY,nK,JJ7,JW,spo];cases h;rename_i b;split at h;rename_i w t' rows hb;split at h;rename_i e;subst e;obtain⟨_,h1,h⟩:=bU.1 h;have e:=Nu h1;refine fR (v:=.a (.c (.ep b _ []))) ?_ h;simp only[fD,e_i,nC,nK,dU,dZ,hb,cT,Jy,aZ,iG hb,dW,qM,true_and];rw[if_pos e];rfl;cases h;cases h;cases h;cases h
def uc(x i:TV)(kk:TV->Option R):Option R:=
 match x,i with
 | .a (.c (.d .s l)),.a (.c (.d (.i _) n))=>(nA l n).bind λu=>kk (vi .u8 u)
 |_,_=>none
theorem JNd(F:Orc){x i:TO}{g e:TV}{d:Option Nat}{new:Nat}{s:TSt}{k:TSt->Option R}{r:R}(hx:tev x s=some g)(hi:tev i s=some e)(h:uc g e (λv=>k (bF d v s))=some r):Ok (opR F (.sidx (erO x) (erO i)) new) d s k r:=by
 unfold uc at h;split at h
 ·rename_i l o n;obtain⟨u,h1,h⟩:=bU.1 h;refine fR (v:=vi .u8 u) ?_ h;simp only[opR,run_bind,bT hx,bT hi,Jy,e_s,e_i];unfold nA at h1;split at h1
  ·rename_i j;rw[if_pos j];split at h1
   all_goals simp_all
  cases h1
 cases h
def ZT(j:Int)(k:Nat->Option R):Nat->Option R|0=>none|m+1=>if aM j m=true then k m else ZT j k m
theorem Oe{j:Int}{k:Nat->Option R}{r:R}: ∀{n:Nat},ZT j k n=some r-> ∃m,m<n/\j=m/\k m=some r
 |0,h=>by cases h
 |n+1,h=>by
  simp only[ZT]at h;split at h;grind [aM];obtain⟨m,h1,h2,e⟩:=Oe h;grind
def so(agg:Bool)(len:Nat)(t:Ty)(x i:TV)(d:Option Nat)(s:TSt)(k:TSt->Option R):Option R:=
 if agg=true\/t.sz=1 then
  match x,i with
  | .a (.dt (.ar n t') v),.a (.c (.d (.i _) j))=>if h:t'=t/\n=len then(qc v j).bind λy=>k (bF d (mkv agg t (h.1▸y)) s)else none
  | .a (.m _ cs),.a (.c (.d (.i _) j))=>ZT j (λm=>match sub cs (m*t.sz) t.sz with
   |some l=>match mka agg t l with|some v=>k (bF d v s)|none=>none
   |none=>none) len
  |_,_=>none
 else none
theorem JM6(F:Orc){agg:Bool}{len:Nat}{t:Ty}{x i:TO}{o g:TV}{d:Option Nat}{new:Nat}{s:TSt}{k:TSt->Option R}{r:R}(hx:tev x s=some o)(hi:tev i s=some g)(h:so agg len t o g d s k=some r):
  Ok (opR F (.aidx agg len t.sz (erO x) (erO i)) new) d s k r:=by
 unfold so at h;split at h;rename_i C;split at h;rename_i n t' v w j;split at h;rename_i z;obtain⟨rfl,rfl⟩:=z;obtain⟨y,h1,h⟩:=bU.1 h;obtain⟨h2,e⟩:=JKN h1;refine fR (v:=mkv agg t' y) ?_ h;simp only[opR,run_bind,bT hx,bT hi,Jy,ql,e_i,if_pos h2,sJ];grind [cel,MR,eP,FY,val,JW];cases h;rename_i B cs w j;obtain⟨m,h1,q,e⟩:=Oe h;clear h;subst q;split at e;rename_i l hl;split at e;rename_i v A;refine fR (v:=v) ?_ e;have h2:(0:Int)<=m/\(m:Int)<len:=by omega
 simp only[opR,run_bind,bT hx,bT hi,Jy,e_m,e_i,if_pos h2,sJ,Int.toNat_natCast,GO,hl,cT,FS (lns s.sto) A,val,JW];cases e;cases e;cases h;cases h
def tz(x:TV)(i:Nat)(kk:TV->Option R):Option R:=
 match x with
 | .tup vs=>match vs[i]? with|some v=>kk (.a v)|none=>none
 |_=>none
theorem JN0{x:TV}{i:Nat}{s:TSt}{kk:TV->Option R}{r:R}(h:tz x i kk=some r):Vl (SW i (JY (lns s.sto) x)) s kk r:=by
 unfold tz at h;split at h;split at h;rename_i v e;refine⟨_,?_,h⟩;simp_all [JY];cases h;cases h
def r7(str:Bool)(x:TV)(s:TSt)(kk:TV->Option R):Option R:=
 match str,x with
 |true,.a (.c (.d .s l))=>kk (vi .i64 (J0 l))
 |false,.a (.c (.d (.l _) l))=>kk (vi .i64 (J0 l))
 |false,.a (.c (.slr b))=>match s.sto[b]? with|some (.arr _ _ rows)=>kk (vi .i64 (J0 rows))|_=>none
 |false,.a (.c (.slo _ n))=>kk (vi .i64 n)
 |_,_=>none
theorem JNN{str:Bool}{x:TV}{s:TSt}{kk:TV->Option R}{r:R}(h:r7 str x s kk=some r):Vl (KU str (JY (lns s.sto) x)) s kk r:=by
 unfold r7 at h;split at h;exact⟨_,rfl,h⟩;exact⟨_,by simp[e_l,e_i,J0],h⟩;split at h;rename_i hb;exact⟨_,by grind [fD,KU,iG,e_i,J0],h⟩;cases h;exact⟨_,rfl,h⟩;cases h
theorem NF{s:TSt}{new:Nat}(hn:new<s.sto.length){w:Bool}{t:Ty}{rows:List t.D}:lns (wN new (TB.arr w t rows) s).sto new=rows.length:=by unfold wN;rw[u7 (by simpa using hn)];rfl
theorem gh{m:RM Eff}{d:Option Nat}{s:TSt}{k:TSt->Option R}{r:R}{new:Nat}{t:Ty}{rows:List t.D}(hn:new<s.sto.length)
  (hm:m.run (JE s)=some ⟨.slr new 0 rows.length,[(new,.arr true t.sz (rows.map (cel t)))]⟩) (h:k (bF d (.a (.c (.slr new))) (wN new (.arr true t rows) s))=some r):Ok m d s k r:=by
 refine sm (x:=.arr true t rows) (v:=.a (.c (.slr new))) ?_ h;rw[hm,fD,NF hn];rfl
def jw(own:Bool)(t:Ty)(bytes:Nat)(l c:TV)(d:Option Nat)(new:Nat)(s:TSt)(k:TSt->Option R):Option R:=
 match l,c with
 | .a (.c (.d (.i _) n)),.a (.c (.d (.i _) m))=>(mkS bytes n m t.zero).bind λrows=>
  if own=true then k (bF d (.a (.c (.slr new))) (wN new (.arr true t rows) s))else k (bF d (vl t rows) s)
 |_,_=>none
theorem JE4(F:Orc){own:Bool}{t:Ty}{bytes:Nat}{l c:TO}{e n:TV}{d:Option Nat}{new:Nat}{s:TSt}{k:TSt->Option R}{r:R}(hl:tev l s=some e)(hc:tev c s=some n)(hn:own=true->new<s.sto.length)
  (h:jw own t bytes e n d new s k=some r):Ok (opR F (.mkslice own t.sz bytes (cel t t.zero) (erO l) (erO c)) new) d s k r:=by
 unfold jw at h;split at h;obtain⟨rows,h1,j⟩:=bU.1 h;obtain⟨h2,rfl⟩:=JP5 h1;clear h;split at j;rename_i g;subst g;refine gh (hn rfl) ?_ j;simp only[opR,run_bind,bT hl,bT hc,Jy,e_i,if_pos h2,if_true,JW,AJ,ZU];rename_i g;have:own=false:=by simpa using g
 subst this;refine fR (v:=vl t _) ?_ j;simp only[opR,run_bind,bT hl,bT hc,Jy,e_i,if_pos h2,fB,if_false,JW,e_l,ZU];cases h
def qt(t:Ty)(bytes:Nat)(x y:TV)(d:Option Nat)(s:TSt)(k:TSt->Option R):Option R:=
 match x with
 | .a (.c (.slr b))=>match s.sto[b]? with
  |some (.arr w t' rows)=>if h:t'=t then
   match tls t' y s with
   |some l=>(Jr bytes rows l).bind λm=>k (bF d (.a (.c (.slr b))) (wN b (.arr w t' m) s))
   |none=>none
   else none
  |_=>none
 |_=>none
theorem JPl{t:Ty}{bytes:Nat}{x y:TV}{d:Option Nat}{s:TSt}{k:TSt->Option R}{r:R}(h:qt t bytes x y d s k=some r):Ok (jV t.sz bytes (JY (lns s.sto) x) (JY (lns s.sto) y)) d s k r:=by
 unfold qt at h;split at h;rename_i b;split at h;rename_i w t' rows hb;split at h;rename_i g;subst g;split at h;rename_i l hl;obtain⟨m,h1,h⟩:=bU.1 h;refine sm (x:=.arr w t' m) (v:=.a (.c (.slr b))) ?_ h;have e:(JE s).sto[b]?=some (.arr w t'.sz (rows.map (cel t'))):=by rw[dZ,hb];rfl
 have:=JOQ h1 e (gf hl);rw[fD,iG hb,this,fD,NF (JC hb)];rfl;cases h;cases h;cases h;cases h
def th(t:Ty)(x lo:TV)(d:Option Nat)(s:TSt)(k:TSt->Option R):Option R:=
 match x,lo with
 | .a (.c (.slr b)),.a (.c (.d (.i _) n))=>match s.sto[b]? with|some (.arr _ t' rows)=>if t'=t then(zQ n rows.length).bind λj=>k (bF d (.a (.c (.suf b j))) s)else none|_=>none
 |_,_=>none
theorem JMU{t:Ty}{x lo:TV}{d:Option Nat}{s:TSt}{k:TSt->Option R}{r:R}(h:th t x lo d s k=some r):Ok (tY t.sz (JY (lns s.sto) x) (JY (lns s.sto) lo)) d s k r:=by
 unfold th at h;split at h;rename_i b q n;split at h;rename_i w t' rows hb;split at h;rename_i ht;subst ht;obtain⟨j,h1,h⟩:=bU.1 h;unfold zQ at h1;split at h1;rename_i g;injection h1 with h1;subst h1;refine fR (v:=.a (.c (.suf b n.toNat))) ?_ h;have e:JY (lns s.sto) (.a (.c (.suf b n.toNat)))=.slr b (min n.toNat (lns s.sto b)) (lns s.sto b-n.toNat):=rfl;have o:min n.toNat rows.length=n.toNat:=Nat.min_eq_left (by omega);simp only[e,fD,e_i,tY,dU,dZ,hb,cT,Jy,aZ,iG hb,dW,qM,true_and,g,and_self,if_true,JW,o];cases h1;cases h;cases h;cases h
def r9(t:Ty)(x hi:TV)(d:Option Nat)(new:Nat)(s:TSt)(k:TSt->Option R):Option R:=
 match x,hi with
 | .a (.c (.slr b)),.a (.c (.d (.i _) n))=>match s.sto[b]? with|some (.arr true t' rows)=>if t'=t then(zO n rows.length).bind λj=>k (bF d (.a (.c (.slr new))) (wN new (.arr true t' (rows.take j)) (wN b (.arr false t' (rows++[t'.zero])) s)))else none|_=>none
 |_,_=>none
theorem JOB{t:Ty}{x hi:TV}{d:Option Nat}{new:Nat}{s:TSt}{k:TSt->Option R}{r:R}(hn:new<s.sto.length)(h:r9 t x hi d new s k=some r):Ok (KT t.sz (cel t t.zero) new (JY (lns s.sto) x) (JY (lns s.sto) hi)) d s k r:=by
 unfold r9 at h;split at h;rename_i b v n;split at h;rename_i t' rows hb;split at h;rename_i ht;subst ht;obtain⟨j,h1,h⟩:=bU.1 h;unfold zO at h1;split at h1;rename_i o;injection h1 with h1;subst h1;have e:new<(wN b (.arr false t' (rows++[t'.zero])) s).sto.length:=by simpa[wN]using hn
 refine⟨⟨.slr new 0 n.toNat,[(b,.arr false t'.sz ((rows++[t'.zero]).map (cel t'))),(new,.arr true t'.sz ((rows.take n.toNat).map (cel t')))]⟩,_,?_,?_,h⟩;simp only[fD,e_i,KT,dU,dZ,hb,cT,Jy,aZ,iG hb,dW,true_and,o,and_self,if_true,JW];simp[Iz];have g:=FM new (.arr true t' (rows.take n.toNat)) (wN b (.arr false t' (rows++[t'.zero])) s);rw[FM b (.arr false t' (rows++[t'.zero])) s]at g;have q:JY (lns (wN new (.arr true t' (rows.take n.toNat)) (wN b (.arr false t' (rows++[t'.zero])) s)).sto) (.a (.c (.slr new)))=.slr new 0 n.toNat:=by
  rw[fD,NF e,kT]
  congr 1
  omega
 rw[<-q];exact nN g d _;cases h1;cases h;cases h;cases h
def rm(t:Ty)(x:TV)(d:Option Nat)(new:Nat)(s:TSt)(k:TSt->Option R):Option R:=
 match x with
 | .a (.c (.slr b))=>match s.sto[b]? with|some (.arr true t' rows)=>if t'=t then k (bF d (.a (.c (.slr new))) (wN new (.arr true t' rows) (wN b (.arr false t' (rows++[t'.zero])) s)))else none|_=>none
 |_=>none
theorem JOH{t:Ty}{x:TV}{d:Option Nat}{new:Nat}{s:TSt}{k:TSt->Option R}{r:R}(hn:new<s.sto.length)(h:rm t x d new s k=some r):Ok (OS t.sz (cel t t.zero) new (JY (lns s.sto) x)) d s k r:=by
 unfold rm at h;split at h;rename_i b;split at h;rename_i t' rows hb;split at h;rename_i ht;subst ht;have e:new<(wN b (.arr false t' (rows++[t'.zero])) s).sto.length:=by simpa[wN]using hn
 refine⟨⟨.slr new 0 rows.length,[(b,.arr false t'.sz ((rows++[t'.zero]).map (cel t'))),(new,.arr true t'.sz (rows.map (cel t')))]⟩,_,?_,?_,h⟩;simp only[fD,OS,dU,dZ,hb,cT,Jy,aZ,iG hb,dW,and_self,if_true,JW];simp;have g:=FM new (.arr true t' rows) (wN b (.arr false t' (rows++[t'.zero])) s);rw[FM b (.arr false t' (rows++[t'.zero])) s]at g;have j:JY (lns (wN new (.arr true t' rows) (wN b (.arr false t' (rows++[t'.zero])) s)).sto) (.a (.c (.slr new)))=.slr new 0 rows.length:=by rw[fD,NF e]
 rw[<-j];exact nN g d _;cases h;cases h;cases h
def EQ(t:Ty)(i:Nat)(l:List t.D):Option (List t.D):=if i<=l.length then some (l.take i++List.replicate (l.length-i) t.zero)else none
def rz(t:Ty)(x:TV)(d:Option Nat)(s:TSt)(k:TSt->Option R):Option R:=
 match x with
 | .a (.c (.suf b i))=>match s.sto[b]? with|some (.arr true t' rows)=>if t'=t then(EQ t' i rows).bind λm=>k (bF d (.tup []) (wS b (.arr true t' m) s))else none|_=>none
 |_=>none
theorem JOk{t:Ty}{x:TV}{d:Option Nat}{s:TSt}{k:TSt->Option R}{r:R}(h:rz t x d s k=some r):Ok (PH t.sz (cel t t.zero) (JY (lns s.sto) x)) d s k r:=by
 unfold rz at h;split at h;rename_i b i;split at h;rename_i t' rows hb;split at h;rename_i ht;subst ht;obtain⟨m,h1,h⟩:=bU.1 h;unfold EQ at h1;split at h1;rename_i hi;injection h1 with h1;have hl:m.length=rows.length:=by rw[<-h1,dP,kT,AJ];omega
 have g:=xF (b:=b) (x:=.arr true t' m) (s:=s) (by rw[iG hb];exact hl);refine⟨⟨.tup [],[(b,.arr true t'.sz (m.map (cel t')))]⟩,_,?_,?_,h⟩;have e:JY (lns s.sto) (.a (.c (.suf b i)))=.slr b i (lns s.sto b-i):=(by show AV.slr b (min i (lns s.sto b)) (lns s.sto b-i)=_;rw[iG hb,Nat.min_eq_left hi]);simp only[e,PH,dU,dZ,hb,cT,Jy,aZ,iG hb,dW,true_and];rw[if_pos (by omega)];simp[JW,<-h1,Iz];exact nN (s1:=wS b (.arr true t' m) s) g d (.tup []);cases h1;cases h;cases h;cases h
def sw(t:Ty)(bytes:Nat)(y:TV)(d:Option Nat)(new:Nat)(s:TSt)(k:TSt->Option R):Option R:=
 match tls t y s with
 |some l=>(bP bytes l).bind λm=>k (bF d (.a (.c (.slr new))) (wN new (.arr true t m) s))
 |none=>none
theorem JLh(F:Orc){t:Ty}{bytes:Nat}{z:List PV}{y:TO}{e:TV}{d:Option Nat}{new:Nat}{s:TSt}{k:TSt->Option R}{r:R}(hy:tev y s=some e)(hn:new<s.sto.length)(h:sw t bytes e d new s k=some r):Ok (opR F (.appn t.sz bytes z (erO y)) new) d s k r:=by
 unfold sw at h;split at h;rename_i l hl;obtain⟨m,h1,g⟩:=bU.1 h;obtain⟨h2,rfl⟩:=JKI h1;refine gh hn ?_ g;simp only[opR,run_bind,bT hy,Jy,gf hl,dW,h2,if_true,JW];cases h
def tbn(x:Option TO)(s:TSt):Option (Option (IntKind×Int)):=
 match x with
 |none=>some none
 |some o=>match tev o s with|some (.a (.c (.d (.i k) n)))=>some (some (k,n))|_=>none
def bv(x:Option (IntKind×Int)):Option AV:=x.map λy=>.p (.i y.1 y.2)
theorem FX{x:Option TO}{s:TSt}{y:Option (IntKind×Int)}(h:tbn x s=some y):(evo (x.map erO)).run (JE s)=some (bv y):=by
 cases x with
 |none=>injection h with h;subst h;rfl
 |some o=>
  simp only[tbn]at h;split at h;rename_i k n e;injection h with h;subst h;simp only[cT,evo,run_bind,bT e,Jy,JW,bv,e_i];cases h
theorem JRh(x:Option (IntKind×Int))(top d:Nat):nS (bv x) top d=EU (x.map (·.2)) top d:=by cases x<;>rfl
theorem Ma(n:Nat)(lo hi:Option (IntKind×Int)):oT n (bv lo) (bv hi)=AL n (lo.map (·.2)) (hi.map (·.2)):=by
 grind [oT,AL,JRh]
inductive TSK where|str|sl (t:Ty)
def erK:TSK->SK| .str=>.str| .sl t=>.sl t.sz
def qq(t:Ty)(x:TV)(s:TSt)(kk:List t.D->TSt->Option R):Option R:=
 match x with
 | .a (.c (.d (.l t') l))=>if h:t'=t then kk (h▸l) s else none
 | .a (.c (.slr b))=>match s.sto[b]? with|some (.arr _ t' rows)=>if h:t'=t then kk (h▸rows) (wS b (.arr false t' rows) s)else none|_=>none
 |_=>none
theorem JOU{t:Ty}{x:TV}{s:TSt}{kk:List t.D->TSt->Option R}{r:R}(h:qq t x s kk=some r):
  ∃l s' ws,Fzd s s' ws/\kk l s'=some r/\((JY (lns s.sto) x=.p (.sl t.sz (l.map (cel t)))/\ws=[])\/
   ∃b,JY (lns s.sto) x=.slr b 0 l.length/\(fz (.slr b 0 l.length)).run (JE s)=some ([.sl t.sz (l.map (cel t))],ws)):=by
 unfold qq at h;split at h;grind [Fzd.refl,e_l];rename_i b;split at h;rename_i w t' rows hb;split at h;rename_i e;subst e;refine⟨_,_,_,ic hb,h,.inr ⟨b,by rw[fD,iG hb],?_⟩⟩;simp_all [dZ,aZ];cases h;cases h;cases h
def uq(e:TSK)(x:TV)(lo hi mx:Option (IntKind×Int))(d:Option Nat)(s:TSt)(k:TSt->Option R):Option R:=
 match e with
 | .str=>match x,mx with| .a (.c (.d .s l)),none=>(aU l (lo.map (·.2)) (hi.map (·.2))).bind λq=>k (bF d (vs q) s)|_,_=>none
 | .sl t=>qq t x s λl s1=>match mx with|none=>(aU l (lo.map (·.2)) (hi.map (·.2))).bind λq=>k (bF d (vl t q) s1)|some (_,n)=>match lo,hi with|none,some (_,h)=>if h=l.length/\n=l.length then k (bF d (.a (.c (.sc t l))) s1)else none|_,_=>none
theorem Ol{α:Type}{l q:List α}{lo hi:Option Int}(h:aU l lo hi=some q): ∃c,AL l.length lo hi=some c/\q=(l.drop c.1).take (c.2-c.1):=by
 grind [aU]
theorem JJD(F:Orc){n:TSK}{x:TO}{j:TV}{lo hi mx:Option TO}{l g m:Option (IntKind×Int)}{d:Option Nat}{new:Nat}{s:TSt}{k:TSt->Option R}{r:R}(hx:tev x s=some j)(hl:tbn lo s=some l)(hh:tbn hi s=some g)(hm:tbn mx s=some m)
  (h:uq n j l g m d s k=some r):Ok (opR F (.slice (erK n) (erO x) (lo.map erO) (hi.map erO) (mx.map erO)) new) d s k r:=by
 unfold uq at h;split at h;split at h;rename_i z;obtain⟨q,h1,h⟩:=bU.1 h;obtain⟨c,hc,rfl⟩:=Ol h1;refine fR (v:=vs _) ?_ h;have o:bv none=none:=rfl;simp only[opR,run_bind,bT hx,FX hl,FX hh,FX hm,Jy,e_s,erK,o,lJ,xV,val,Ma,hc,JW];cases h;rename_i t;obtain⟨y,s1,ws,f,h,B⟩:=JOU h;have e: ∀(res:AV),lJ (.sl t.sz) (.p (.sl t.sz (y.map (cel t)))) (bv l) (bv g) (bv m)=some res->
   (opR F (.slice (erK (.sl t)) (erO x) (lo.map erO) (hi.map erO) (mx.map erO)) new).run (JE s)=some ⟨res,ws⟩:=by
  intro res A;simp only[opR,run_bind,bT hx,FX hl,FX hh,FX hm,Jy,erK];grind [val,JW,run_bind]
 split at h;obtain⟨q,h2,h⟩:=bU.1 h;obtain⟨c,hc,rfl⟩:=Ol h2;refine u5 (v:=vl t _) f (e _ ?_) h;grind [bv,lJ,xR,Ma,e_l,List.map_take,List.map_drop];split at h;split at h;rename_i w;refine u5 (v:=.a (.c (.sc t y))) f (e _ ?_) h;simp only[bv,Option.map_none,cT,lJ,SS,dW,w,and_self,if_true];rfl;cases h;cases h
end
end Go.Am
end
section
namespace Go.Am
section
variable {R:Type}
def ZX(t:Ty):List (Nat×TO)->TSt->TSt->(List (Nat×t.D)->TSt->Option R)->Option R|[],_,s,k=>k [] s|(i,o)::r,s0,s,k=>match tev o s0 with|some v=>tfz t v s λz s'=>ZX t r s0 s' λl e=>k ((i,z)::l) e|none=>none
theorem O9{t:Ty}: ∀{parts:List (Nat×TO)} {s0 s:TSt} {w0:List (Nat×Blk)} {k:List (Nat×t.D)->TSt->Option R} {r:R},Fzd s0 s w0->ZX t parts s0 s k=some r->
  ∃l s' ws,(fzs (parts.map λx=>erO x.2)).run (JE s0)=some (l.map λx=>cel t x.2,ws)/\Fzd s0 s' (w0++ws)/\l.map (·.1)=parts.map (·.1)/\k l s'=some r
 |[],s0,s,w0,k,r,f,h=>⟨[],s,[],rfl,by simp_all,rfl,h⟩
 |(i,o)::q,s0,s,w0,k,r,f,h=>by
  simp only[ZX]at h;split at h;rename_i v w;obtain⟨z,s1,j,h1,e,h⟩:=Lr f h;obtain⟨l,g,y,h2,A,n,h⟩:=O9 e h;refine⟨(i,z)::l,g,j++y,?_,by simp_all,by simp[n],h⟩;simp only[bZ,fzs,run_bind,bT w,Jy,h1,h2,JW];cases h
def TR{α:Type}:List (Nat×α)->List α->Option (List α)|[],rows=>some rows|(i,c)::r,rows=>if i<rows.length then TR r (rows.set i c)else none
theorem yx{t:Ty}: ∀{l:List (Nat×t.D)} {rows rows':List t.D},TR l rows=some rows'->
  BZ t.sz ((l.map (·.1)).zip (l.map λx=>cel t x.2)) (rows.map (cel t))=some (rows'.map (cel t))/\rows'.length=rows.length
 |[],rows,rows',h=>by injection h with h;simp_all
 |(i,c)::q,rows,rows',h=>by
  simp only[TR]at h;split at h;rename_i e;obtain⟨h1,h2⟩:=yx h;simp_all [eP];cases h
def s8(own:Bool)(t:Ty)(n:Nat)(parts:List (Nat×TO))(d:Option Nat)(new:Nat)(s:TSt)(k:TSt->Option R):Option R:=
 ZX t parts s s λl s1=>match TR l (List.replicate n t.zero)with|some rows=>if own=true then k (bF d (.a (.c (.slr new))) (wN new (.arr true t rows) s1))else k (bF d (vl t rows) s1)|none=>none
theorem JLw(F:Orc){own:Bool}{t:Ty}{n:Nat}{parts:List (Nat×TO)}{d:Option Nat}{new:Nat}{s:TSt}{k:TSt->Option R}{r:R}(hn:own=true->new<s.sto.length)
  (h:s8 own t n parts d new s k=some r):Ok (opR F (.lits own t.sz n (cel t t.zero) (parts.map λx=>(x.1,erO x.2))) new) d s k r:=by
 unfold s8 at h;obtain⟨l,s1,ws,h1,f,h2,e⟩:=O9 (Fzd.refl s) h;rw[sA]at f;clear h;split at e;rename_i rows o;obtain⟨j,q⟩:=yx o;rw[AJ]at q;rw[ZU]at j;have z:(parts.map λx=>(x.1,erO x.2)).map (·.2)=parts.map λx=>erO x.2:=by simp
 have y:(parts.map λx=>(x.1,erO x.2)).map (·.1)=l.map (·.1):=by rw[h2];simp
 split at e;rename_i g;subst g;have w:new<s1.sto.length:=(by have:=congrArg (λst=>st.sto.length) f.2.2.1;grind [JE,BW]);refine⟨⟨JY (lns (wN new (.arr true t rows) s1).sto) (.a (.c (.slr new))),ws++[(new,.arr true t.sz (rows.map (cel t)))]⟩,_,?_,nN ?_ d _,e⟩;grind [fD,NF,opR,run_bind,JW];rw[FM,f.2.2.1,fE];rfl;rename_i g;have:own=false:=by simpa using g
 subst this;refine u5 (v:=vl t rows) f ?_ e;grind [opR,run_bind,JW,e_l];cases e
def pE(s:TSt):Nat->Nat->Bool
 |_,0=>true
 |new,k+1=>(match s.sto[new]? with
  |some .dead=>true
  |_=>false)&&pE s (new+1) k
theorem Qd{s:TSt}: ∀{k new:Nat},pE s new k=true->(uJ new k).run (JE s)=some ()
 |0,_,_=>rfl
 |k+1,new,h=>by
  simp only[pE,aV]at h;obtain⟨h1,h2⟩:=h;split at h1;rename_i hd;simp only[uJ,dU,dZ,hd,cT,Jy,aZ];exact Qd h2;cases h1
theorem yF{s:TSt}: ∀{k new:Nat},pE s new k=true-> ∀j,j<k->s.sto[new+j]?=some .dead
 |0,_,_,j,hj=>by omega
 |k+1,new,h,j,hj=>by
  simp only[pE,aV]at h;obtain⟨h1,h2⟩:=h;cases j with
  |zero=>
   grind
  |succ j=>
   have:=yF h2 j (by omega);grind
theorem ir{m:RM Eff}{d:Option Nat}{s:TSt}{k:TSt->Option R}{r:R}{new:Nat}{x:TB}(hd:s.sto[new]?=some .dead)(h0:lnB x=0)
  (hm:m.run (JE s)=some ⟨.ptr new 0,[(new,aZ (lns s.sto) x)]⟩) (h:k (bF d (.a (.c (.ptr new []))) (wS new x s))=some r):Ok m d s k r:=by
 refine LA (x:=x) (v:=.a (.c (.ptr new []))) (h0.trans (CA hd).symm) ?_ h;rw[hm];rfl
def O6(t:Ty)(d:Option Nat)(new:Nat)(s:TSt)(k:TSt->Option R):Option R:=k (bF d (.a (.c (.ptr new []))) (wS new (.box t t.zero) s))
theorem JGI(F:Orc){t:Ty}{d:Option Nat}{new:Nat}{s:TSt}{k:TSt->Option R}{r:R}(hd:s.sto[new]?=some .dead)(h:O6 t d new s k=some r):Ok (opR F (.newbox (cel t t.zero)) new) d s k r:=
 ir hd (x:=.box t t.zero) rfl rfl h
def qj(t:Ty)(x:TV)(d:Option Nat)(new:Nat)(s:TSt)(k:TSt->Option R):Option R:=
 match tdv t x with
 |some z=>if agv x=true\/t.sz=1 then k (bF d (.a (.c (.ptr new []))) (wS new (.box t z) s))else none
 |none=>match tcs x with|some cs=>if cs.length=t.sz then k (bF d (.a (.c (.ptr new []))) (wS new (.mbox t cs) s))else none|none=>none
theorem JNP(F:Orc){t:Ty}{x:TO}{v:TV}{d:Option Nat}{new:Nat}{s:TSt}{k:TSt->Option R}{r:R}(hd:s.sto[new]?=some .dead)(hx:tev x s=some v)(h:qj t v d new s k=some r):Ok (opR F (.box t.sz (erO x)) new) d s k r:=by
 unfold qj at h;split at h;rename_i z j;split at h;rename_i e;refine ir hd (x:=.box t z) rfl ?_ h;simp only[opR,run_bind,bT hx,Jy,mf (lns s.sto) j e,dW,eP,if_true,JW,aZ];cases h;split at h;rename_i cs hc;split at h;rename_i g;refine ir hd (x:=.mbox t cs) rfl ?_ h;simp only[opR,run_bind,bT hx,Jy,MQ (lns s.sto) hc,dW,g,if_true,JW,aZ];cases h;cases h
def qX:List (Nat×Ty)->Nat->TSt->TSt|[],_,s=>s|(_,t)::r,n,s=>qX r (n+1) (wS n (.arr true t []) s)
def zT:List (Nat×Ty)->Nat->List TC->List TC|[],_,cs=>cs|(off,_)::r,n,cs=>zT r (n+1) (cs.set off (.slr n))
def lW(os:List (Nat×Ty)):List (Nat×Nat):=os.map λx=>(x.1,x.2.sz)
theorem jo: ∀{os:List (Nat×Ty)} {new:Nat} {s:TSt},(∀j,j<os.length->s.sto[new+j]?=some .dead)->
  lns (qX os new s).sto=lns s.sto/\JE (qX os new s)=⟨(JE s).env,upd (iE (lW os) new) (JE s).sto⟩/\(∀b,(∀j,j<os.length->b≠new+j)->(qX os new s).sto[b]?=s.sto[b]?)
 |[],_,s,_=>⟨rfl,rfl,λ_ _=>rfl⟩
 |(off,t)::q,new,s,h=>by
  have hd:s.sto[new]?=some .dead:=h 0 (by simp);have hl:lnB (.arr true t [])=lns s.sto new:=(CA hd).symm;have e:=FV hl;have g: ∀c,c≠new->(wS new (.arr true t []) s).sto[c]?=s.sto[c]?:=λc hc=>by grind [wS]
  obtain⟨h1,h2,n⟩:=jo (os:=q) (new:=new+1) (s:=wS new (.arr true t []) s) (λj k=>by
   rw[g _ (by omega)];have:=h (j+1) (by simp;omega);grind)
  refine⟨h1.trans e,?_,λb hb=>?_⟩;simp only[qX];rw[h2,xF hl];simp only[lW,bZ,iE];rfl;simp only[qX];rw[n b (λj k=>by have:=hb (j+1) (by simp;omega);omega),g b (by have:=hb 0 (by simp);omega)]
theorem jl{L:Nat->Nat}: ∀{os:List (Nat×Ty)} {new:Nat} {cs:List TC},(∀j,j<os.length->L (new+j)=0)->(zT os new cs).map (bB L)=nD (lW os) new (cs.map (bB L))
 |[],_,_,_=>rfl
 |(off,t)::q,new,cs,h=>by
  simp only[zT,lW,bZ,nD];rw[jl (os:=q) (new:=new+1) (λj e=>by have:=h (j+1) (by simp;omega);grind),List.map_set];have:bB L (.slr new)=.slr new 0 0:=by simp only[bB];rw[show L new=0 from h 0 (by simp)]
  rw[this];rfl
def j9(t:Ty)(os:List (Nat×Ty))(d:Option Nat)(new:Nat)(s:TSt)(k:TSt->Option R):Option R:=k (bF d (.a (.c (.ptr (new+os.length) []))) (wS (new+os.length) (.mbox t (zT os new (zcs t))) (qX os new s)))
theorem JE2(F:Orc){t:Ty}{os:List (Nat×Ty)}{d:Option Nat}{new:Nat}{s:TSt}{k:TSt->Option R}{r:R}(hd:pE s new (os.length+1)=true)(h:j9 t os d new s k=some r):
  Ok (opR F (.newboxo (cel t t.zero) (lW os)) new) d s k r:=by
 unfold j9 at h;generalize hc:zcs t=cs at h;have g:=yF hd;obtain⟨h1,h2,o⟩:=jo (os:=os) (new:=new) (s:=s) (λj n=>g j (by omega));have hl:lnB (.mbox t (zT os new cs))=lns (qX os new s).sto (new+os.length):=by rw[h1,CA (g os.length (by omega))];rfl
 have e:=FV hl;have el:(lW os).length=os.length:=by simp[lW]
 refine⟨⟨JY (lns (wS (new+os.length) (.mbox t (zT os new cs)) (qX os new s)).sto) (.a (.c (.ptr (new+os.length) []))),iE (lW os) new++[(new+os.length,.box (nD (lW os) new ((cel t t.zero).map .p)))]⟩,_,?_,nN ?_ d _,h⟩;simp only[opR,JW,el];rfl;rw[xF hl,h2,fE];simp only[aZ];rw[jl (λj n=>by rw[h1];grind [CA]),<-hc,FT];rfl
def jg(t:Ty)(parts:List (Nat×Ty×TO))(os:List (Nat×Ty))(d:Option Nat)(new:Nat)(s:TSt)(k:TSt->Option R):Option R:=
 match tpc parts s with
 |some l=>match LC l (zT os new (zcs t))with
  |some cs'=>match mka true t cs' with|some v=>k (bF d v (qX os new s))|none=>none
  |none=>none
 |none=>none
theorem JGC(F:Orc){t:Ty}{parts:List (Nat×Ty×TO)}{os:List (Nat×Ty)}{d:Option Nat}{new:Nat}{s:TSt}{k:TSt->Option R}{r:R}(hd:pE s new os.length=true)(h:jg t parts os d new s k=some r):
  Ok (opR F (.buildo (cel t t.zero) (erP parts) (lW os)) new) d s k r:=by
 unfold jg at h;split at h;rename_i l hl;have e:=yF hd;obtain⟨h1,h2,q⟩:=jo (os:=os) (new:=new) (s:=s) (λj n=>e j (by omega));split at h;rename_i cs' hf;split at h;rename_i v w;refine⟨⟨JY (lns (qX os new s).sto) v,iE (lW os) new⟩,_,?_,nN h2 d _,h⟩;have g:=jl (L:=lns s.sto) (os:=os) (new:=new) (cs:=zcs t) (λj n=>CA (e j (by omega)));rw[FT]at g;have o:=kd (lns s.sto) hf;grind [opR,run_bind,vf,FS,JW];cases h;cases h;cases h
def Lh(t:Ty)(d:Option Nat)(new:Nat)(s:TSt)(k:TSt->Option R):Option R:=k (bF d (.a (.c (.slr new))) (wN new (.arr true t []) s))
theorem JIS(F:Orc){t:Ty}{x:Opd}{d:Option Nat}{new:Nat}{s:TSt}{k:TSt->Option R}{r:R}(hn:new<s.sto.length)(h:Lh t d new s k=some r):Ok (opR F (.mkarr t.sz x) new) d s k r:=
 gh (rows:=[]) hn rfl h
def tyB:Option TB->Ty|some (.box t _)=>t|some (.mbox t _)=>t|_=>.u
def iz(t:Ty)(x:TV)(d:Option Nat)(new:Nat)(s:TSt)(k:TSt->Option R):Option R:=
 match x with
 | .a (.c (.ptr b p))=>match uD p,(match s.sto[b]? with
   |some (.box e y)=>zX e y
   |some (.mbox _ cs)=>some cs
   |_=>none)with
  |some off,some cs=>match spl cs off [.slr new]with|some cs'=>k (bF d uv (wS b (.mbox (tyB s.sto[b]?) cs') (wS new (.arr true t []) s)))|none=>none
  |_,_=>none
 |_=>none
theorem JGB(F:Orc){t:Ty}{x:TO}{v:TV}{d:Option Nat}{new:Nat}{s:TSt}{k:TSt->Option R}{r:R}(hd:s.sto[new]?=some .dead)(hx:tev x s=some v)(h:iz t v d new s k=some r):Ok (opR F (.storen t.sz (erO x)) new) d s k r:=by
 unfold iz at h;split at h;rename_i b p;split at h;rename_i off cs A hc;split at h;rename_i cs' hs;have hl:lnB (.arr true t [])=lns s.sto new:=(CA hd).symm;have j:b≠new/\lns s.sto b=0/\(JE s).sto[b]?=some (.box (cs.map (bB (lns s.sto)))):=(by split at hc;rename_i z y hb;refine⟨λe=>?_,UH hb,?_⟩;simp_all;rw[dZ,hb,NK _ hc];rfl;rename_i z C hb;injection hc with hc;subst hc;refine⟨λe=>?_,Qn hb,?_⟩;simp_all;rw[dZ,hb];rfl;cases hc);obtain⟨B,q,hb⟩:=j;have n:=FV hl;have g:lnB (.mbox (tyB s.sto[b]?) cs')=lns (wS new (.arr true t []) s).sto b:=by rw[n,q];rfl
 refine⟨⟨JY (lns (wS b (.mbox (tyB s.sto[b]?) cs') (wS new (.arr true t []) s)).sto) uv,(new,.arr true t.sz [])::[(b,.box (cs'.map (bB (lns s.sto))))]⟩,_,?_,nN ?_ d _,h⟩;have w:bB (lns s.sto) (.slr new)=.slr new 0 0:=by grind [bB,CA]
 have o:spl (cs.map (bB (lns s.sto))) (spo p) [.slr new 0 0]=some (cs'.map (bB (lns s.sto))):=by rw[<-w,FZ A];have:=GU (bB (lns s.sto)) cs off [TC.slr new];simp_all
 simp only[opR,run_bind,bT hx,Jy,kY,iV,dU,hb,cellsOf,kQ,List.length_nil,qM,if_true,o,JW];rfl;rw[xF g,xF hl,n];rfl;cases h;cases h;cases h
def tt(c:Bool)(a b:Option TV)(kk:TV->Option R):Option R:=
 match a,b with
 |some (.a (.c (.d t x))),some (.a (.c (.d t' y)))=>if h:t'=t then kk (.a (.c (.d t (JSY c x (h▸y)))))else none
 |some x,some y=>if c=true then kk x else kk y
 |some x,none=>if c=true then kk x else none
 |none,some y=>if c=true then none else kk y
 |none,none=>none
theorem JMX(F:Orc){c a b:TO}{x:Bool}{d:Option Nat}{new:Nat}{s:TSt}{k:TSt->Option R}{r:R}(hc:tev c s=some (vb x))(h:tt x (tev a s) (tev b s) (λv=>k (bF d v s))=some r):Ok (opR F (.pick (erO c) (erO a) (erO b)) new) d s k r:=by
 have e: ∃v,(if x=true then tev a s else tev b s)=some v/\k (bF d v s)=some r:=by
  unfold tt at h;split at h;rename_i t y t' z j hb;split at h;rename_i g;subst g;refine⟨_,?_,h⟩;rw[j,hb];cases x<;>rfl
  cases h
  all_goals grind
 obtain⟨v,h1,h2⟩:=e;refine fR (v:=v) ?_ h2;simp only[opR,run_bind,bT hc,Jy,e_b];grind [run_bind,bT,JW]
def tcl:List TO->TSt->Option (List TC)
 |[],_=>some []
 |o::r,s=>match tev o s with
  |some (.a (.c x))=>match tcl r s with|some l=>some (x::l)|none=>none
  |_=>none
theorem Lz{s:TSt}: ∀{xs:List TO} {l:List TC},tcl xs s=some l->(evs (xs.map erO)).run (JE s)=some (l.map (bB (lns s.sto)))
 |[],l,h=>by injection h with h;subst h;rfl
 |o::q,l,h=>by
  simp only[tcl]at h;split at h;rename_i x e;split at h;rename_i g hl;injection h with h;subst h;simp only[bZ,evs,run_bind,bT e,Jy,Lz hl,JW];rfl;cases h;cases h
def r3(x:TV)(kk:TV->Option R):Option R:=
 match x with
 | .a (.c (.ptr b p))=>kk (.a (.c (.ptr b p)))
 | .a (.c (.cp t y p))=>kk (.a (.c (.cp t y p)))
 | .a (.c (.ep b i p))=>kk (.a (.c (.ep b i p)))
 | .a (.fn f a c)=>kk (.a (.fn f a c))
 | .a (.c (.fn f))=>kk (.a (.c (.fn f)))
 |_=>none
theorem JNT(F:Orc){x:TO}{v:TV}{d:Option Nat}{new:Nat}{s:TSt}{k:TSt->Option R}{r:R}(hx:tev x s=some v)(h:r3 v (λv=>k (bF d v s))=some r):Ok (opR F (.nilchk (erO x)) new) d s k r:=by
 unfold r3 at h;split at h<;>first
  |(refine fR (v:=_) ?_ h
    simp only[opR,run_bind,bT hx,Jy,kY,mY,nC,q7,Kc,JW];done)
  |cases h
end
end Go.Am
end
section
namespace Go.Am
section
variable {R:Type}
def qi(keep:Bool)(v:TV)(s:TSt)(kk:TA->TSt->Option R):Option R:=
 match v with
 | .a x=>if keep=true then kk x s else
  match x with
  | .c (.slr b)=>match s.sto[b]? with|some (.arr _ t' rows)=>kk (.c (.d (.l t') rows)) (wS b (.arr false t' rows) s)|_=>none
  | .c (.slo _ _)=>none
  | .c (.suf _ _)=>none
  | .c (.suo _ _ _)=>none
  | .m t cs=>fzC t cs s λx s'=>kk (.dt t x) s'
  |x=>kk x s
 | .tup _=>none
def LG:List (TV×Bool)->TSt->(List TA->TSt->Option R)->Option R|[],s,kk=>kk [] s|(v,keep)::r,s,kk=>qi keep v s λx s=>LG r s λl s=>kk (x::l) s
theorem JON{keep:Bool}{v:TV}{s0 s:TSt}{w0:List (Nat×Blk)}{kk:TA->TSt->Option R}{r:R}(f:Fzd s0 s w0)(h:qi keep v s kk=some r):
  ∃x s' ws,(if keep=true then RM.ret (JY (lns s0.sto) v,[])else jT (JY (lns s0.sto) v)).run (JE s0)=some (bR (lns s0.sto) x,ws)/\Fzd s0 s' (w0++ws)/\kk x s'=some r:=by
 unfold qi at h;split at h;rename_i x;split at h;rename_i hk;subst hk;exact⟨x,s,[],rfl,by simp_all,h⟩;rename_i hk;have:keep=false:=by simpa using hk
 subst this;simp only[fB,if_false];split at h;rename_i b;split at h;rename_i w t' rows hb;obtain⟨w',e⟩:=f.2.2.2.1 b _ rows w hb;refine⟨_,_,[(b,.arr false t'.sz (rows.map (cel t')))],?_,f.trans (ic hb),h⟩;simp only[fD,jT,fz,run_bind,dU,dZ,e,cT,Jy,aZ,iG e,dW,qM,if_true,EK,JW];rfl;cases h;cases h;cases h;cases h;obtain⟨y,s',ws,h1,h2,g⟩:=MT f h;refine⟨_,s',ws,?_,h2,g⟩;simp only[e_m,jT,fz,run_bind,h1,Jy,JW];rfl;rename_i q z k o j;refine⟨x,s,[],?_,by simp_all,h⟩;cases x with
 |c x=>
  cases x with
  |slr b=>simp_all
  |slo b n=>simp_all
  |suf b i=>simp_all
  |suo b i n=>simp_all
  |_=>rfl
 |m t cs=>simp_all
 |_=>rfl
 cases h
theorem js: ∀{vs:List (TV×Bool)} {s0 s:TSt} {w0:List (Nat×Blk)} {kk:List TA->TSt->Option R} {r:R},Fzd s0 s w0->LG vs s kk=some r->
  ∃xs s' ws,(fO (vs.map (·.2)) (vs.map λx=>JY (lns s0.sto) x.1)).run (JE s0)=some (xs.map (bR (lns s0.sto)),ws)/\Fzd s0 s' (w0++ws)/\kk xs s'=some r
 |[],s0,s,w0,kk,r,f,h=>⟨[],s,[],rfl,by simp_all,h⟩
 |(v,keep)::q,s0,s,w0,kk,r,f,h=>by simp only[LG]at h;obtain⟨x,s1,j,h1,e,h⟩:=JON f h;obtain⟨xs,g,k,h2,n,h⟩:=js e h;refine⟨x::xs,g,j++k,?_,by simp_all,h⟩;cases keep<;>simp_all [fO]
theorem WW: ∀(vs:List AV),fO [] vs=lE vs|[]=>rfl|x::r=>by simp only[fO,lE,WW r]
theorem OL: ∀(m:List Bool) (vs:List AV),(∀x∈m,x=false)->fO m vs=lE vs|[],vs,_=>WW vs|b::m,[],_=>rfl|b::m,x::r,h=>by have:b=false:=h b (by simp);subst this;simp only[fO,lE,OL m r (λx e=>h x (by simp[e]))]
def PQ(b:Nat)(l:List Nat):List Nat:=if l.any (λx=>x==b)=true then l else l++[b]
def RO(x:TC)(l:List Nat):Option (List Nat):=
 match x with
 | .ptr b _=>some (PQ b l)
 | .slr b=>some (PQ b l)
 | .slo b _=>some (PQ b l)
 | .ep _ _ _=>none
 | .epo _ _ _ _=>none
 | .suf _ _=>none
 | .suo _ _ _=>none
 |_=>some l
def xC:List TC->List Nat->Option (List Nat)|[],l=>some l|x::r,l=>match RO x l with|some l=>xC r l|none=>none
def ub(x:TA)(l:List Nat):Option (List Nat):=
 match x with
 | .c x=>RO x l
 | .dt _ _=>some l
 | .m _ cs=>xC cs l
 | .fn _ a c=>match xC a l with|some l=>xC c l|none=>none
def GC:List TA->List Nat->Option (List Nat)|[],l=>some l|x::r,l=>match ub x l with|some l=>GC r l|none=>none
def xL(s:TSt):List Nat->List Nat->Option (List Nat)
 |[],acc=>some acc
 |b::r,acc=>match s.sto[b]? with
  |some (.mbox _ cs)=>match xC cs acc with|some acc=>xL s r acc|none=>none
  |some _=>xL s r acc
  |none=>none
theorem JCT(b:Nat)(l:List Nat):xS (.whole b) (l.map .whole)=(PQ b l).map .whole:=by
 grind [xS,PQ]
section
variable (L:Nat->Nat)
theorem xk{x:TC}{l g:List Nat}(h:RO x l=some g):cV (bB L x) (l.map .whole)=g.map .whole:=by
 unfold RO at h;split at h<;>first
  |(injection h with h;subst h;simp only[bB,cV,JCT];done)
  |(cases h;done)
  |skip
 injection h with h;subst h;rename_i q r v w o j k;cases x with
 |ptr b p=>simp_all
 |slr b=>simp_all
 |slo b n=>simp_all
 |ep b i p=>simp_all
 |epo b e i p=>grind
 |suf b i=>grind
 |suo b i n=>grind
 |_=>rfl
theorem NT: ∀{xs:List TC} {l e:List Nat},xC xs l=some e->cV.entsOfL (xs.map (bB L)) (l.map .whole)=e.map .whole
 |[],l,e,h=>by injection h with h;subst h;rfl
 |x::r,l,e,h=>by
  simp only[xC]at h;split at h;rename_i g h1;simp only[bZ,cV.entsOfL,xk L h1];exact NT h;cases h
theorem JMe{x:TA}{l e:List Nat}(h:ub x l=some e):cV (bR L x) (l.map .whole)=e.map .whole:=by
 cases x with
 |c x=>exact xk L h
 |dt t x=>injection h with h;subst h;rfl
 |m t cs=>exact NT L h
 |fn f a c=>
  simp only[ub]at h;split at h
  all_goals simp_all [bR,NT]
theorem WM: ∀{xs:List TA} {l e:List Nat},GC xs l=some e->cV.entsOfL (xs.map (bR L)) (l.map .whole)=e.map .whole
 |[],l,e,h=>by injection h with h;subst h;rfl
 |x::r,l,e,h=>by
  simp only[GC]at h;split at h;rename_i g h1;simp only[bZ,cV.entsOfL,JMe L h1];exact WM h;cases h
end
theorem ky{s0 s1:TSt}{ws:List (Nat×Blk)}(f:Fzd s0 s1 ws){b:Nat}{y:TB}(h:s1.sto[b]?=some y):(rZ ws b).run (JE s0)=some (aZ (lns s0.sto) y):=by
 have h1:(JE s1).sto[b]?=some (aZ (lns s0.sto) y):=by rw[dZ,h,f.2.1];rfl
 rw[f.2.2.1]at h1;grind [BW,xY,rZ,dU,JW]
theorem CB{s0 s1:TSt}{ws:List (Nat×Blk)}(f:Fzd s0 s1 ws): ∀{r acc l:List Nat},xL s1 r acc=some l->(eM ws (r.map .whole) (acc.map .whole)).run (JE s0)=some (l.map .whole)
 |[],acc,l,h=>by injection h with h;subst h;rfl
 |b::r,acc,l,h=>by
  simp only[xL]at h;split at h;rename_i cs hb;split at h;rename_i e g;simp only[bZ,eM,run_bind,ky f hb,Jy,aZ,NT (lns s0.sto) g];exact CB f h;cases h;rename_i x j hb;simp only[bZ,eM,run_bind,ky f hb,Jy];cases x with
  |mbox t cs=>simp_all
  |box t x=>simp only[aZ];rw[yu];exact CB f h
  |_=>exact CB f h
  cases h
end
end Go.Am
end
section
namespace Go.Am
def kCs(K:List Nat)(L:Nat->Nat):TC->TC| .slr c=>if K.any (λx=>x==c)=true then .slo c (L c)else .slr c| .ep c i p=>if K.any (λx=>x==c)=true then .epo c (L c) i p else .ep c i p| .pre c k=>if K.any (λx=>x==c)=true then .pro c (L c) k else .pre c k| .suf c i=>if K.any (λx=>x==c)=true then .suo c (min i (L c)) (L c-i)else .suf c i|x=>x
def kAs(K:List Nat)(L:Nat->Nat):TA->TA| .c x=>.c (kCs K L x)| .dt t x=>.dt t x| .m t cs=>.m t (cs.map (kCs K L))| .fn f a c=>.fn f (a.map (kCs K L)) (c.map (kCs K L))
def kVs(K:List Nat)(L:Nat->Nat):TV->TV| .a x=>.a (kAs K L x)| .tup vs=>.tup (vs.map (kAs K L))
def kBs(K:List Nat)(L:Nat->Nat):TB->TB| .mbox t cs=>.mbox t (cs.map (kCs K L))|x=>x
section
variable {K:List Nat} {L L':Nat->Nat} (h: ∀c,K.any (λx=>x==c)=false->L' c=L c)
include h
theorem Ik(x:TC):bB L' (kCs K L x)=bB L x:=by cases x<;>grind [kCs,bB]
theorem Kj(xs:List TC):(xs.map (kCs K L)).map (bB L')=xs.map (bB L):=by
 grind [List.map_congr_left,Ik]
theorem JT5(x:TA):bR L' (kAs K L x)=bR L x:=by cases x<;>simp only[kAs,bR,Ik h,Kj h]
theorem JTg(x:TV):JY L' (kVs K L x)=JY L x:=by cases x<;>simp only[kVs,JY,JT5 h,wK,Function.comp_def]
theorem JT1(x:TB):aZ L' (kBs K L x)=aZ L x:=by cases x<;>simp only[kBs,aZ,Kj h]
end
theorem JP7(K:List Nat)(L:Nat->Nat)(x:TB):lnB (kBs K L x)=lnB x:=by cases x<;>rfl
theorem JOM(sto:List TB)(K:List Nat)(L:Nat->Nat)(c:Nat):lns (sto.map (kBs K L)) c=lns sto c:=by
 unfold lns;rw[iS];cases sto[c]? with
 |none=>rfl
 |some x=>exact JP7 K L x
def wH(ws:List (Nat×Bool×TB))(sto:List TB):List TB:=ws.foldl (λσ x=>σ.set x.1 x.2.2) sto
def oN(ws:List (Nat×Bool×TB))(s:TSt):TSt:=
 match ws with
 |[]=>s
 |ws=>
  let K:=(ws.filter λx=> !x.2.1).map (·.1)
  ⟨s.env.map λy=>(y.1,kVs K (lns s.sto) y.2),wH ws (s.sto.map (kBs K (lns s.sto)))⟩
theorem kh: ∀{ws:List (Nat×Bool×TB)} {sto:List TB} {c:Nat},c∉ws.map (·.1)->(wH ws sto)[c]?=sto[c]?|[],_,_,_=>rfl|x::ws,sto,c,h=>by simp only[bZ,cJ,not_or]at h;show(wH ws (sto.set x.1 x.2.2))[c]?=_;rw[kh h.2,ch (λe=>h.1 e.symm)]
theorem N8: ∀{ws:List (Nat×Bool×TB)} {sto:List TB},(ws.map (·.1)).Nodup-> ∀x∈ws,x.1<sto.length->(wH ws sto)[x.1]?=some x.2.2
 |[],_,_,x,e,_=>by cases e
 |y::ws,sto,g,x,e,hl=>by
  simp only[bZ,List.nodup_cons]at g;show(wH ws (sto.set y.1 y.2.2))[x.1]?=_;rcases cJ.1 e with rfl|e;grind [kh];exact N8 g.2 x e (by simpa using hl)
theorem Qu(f:TB->Blk): ∀(ws:List (Nat×Bool×TB)) (sto:List TB),(wH ws sto).map f=upd (ws.map λx=>(x.1,f x.2.2)) (sto.map f)
 |[],_=>rfl
 |x::ws,sto=>by show(wH ws (sto.set x.1 x.2.2)).map f=upd (ws.map λx=>(x.1,f x.2.2)) ((sto.map f).set x.1 (f x.2.2));rw[Qu f ws,List.map_set]
theorem JPa{ws:List (Nat×Bool×TB)}{s:TSt}(hn:(ws.map (·.1)).Nodup)(hl: ∀x∈ws,x.1<s.sto.length)(hf: ∀x∈ws,x.2.1=true->lnB x.2.2=lns s.sto x.1):
  JE (oN ws s)=⟨(JE s).env,upd (ws.map λx=>(x.1,aZ (lns (oN ws s).sto) x.2.2)) (JE s).sto⟩/\ ∀x∈ws,lns (oN ws s).sto x.1=lnB x.2.2:=by
 cases ws with
 |nil=>exact⟨rfl,λx g=>by cases g⟩
 |cons x0 j=>
  generalize k:x0::j=ws at*;have e:oN ws s=⟨s.env.map λy=>(y.1,kVs ((ws.filter λx=> !x.2.1).map (·.1)) (lns s.sto) y.2),wH ws (s.sto.map (kBs ((ws.filter λx=> !x.2.1).map (·.1)) (lns s.sto)))⟩:=by subst k;rfl
  have h: ∀x∈ws,lns (oN ws s).sto x.1=lnB x.2.2:=λx g=>by rw[e];unfold lns;rw[N8 hn x g (by grind)];rfl
  have hk: ∀c,((ws.filter λx=> !x.2.1).map (·.1)).any (λx=>x==c)=false->lns (oN ws s).sto c=lns s.sto c:=(by intro c hc;by_cases n:c∈ws.map (·.1);obtain⟨x,g,rfl⟩:=gY.1 n;grind;rw[e];have:=JOM s.sto ((ws.filter λx=> !x.2.1).map (·.1)) (lns s.sto) c;grind [lns,kh]);refine⟨?_,h⟩;generalize hL:lns (oN ws s).sto=L' at*;unfold JE;rw[hL,e];grind [fZ,List.map_congr_left,JTg,Qu,JT1]
theorem N2(b:Nat): ∀(ids:List Nat) (k:Nat),dS (.whole b) (ids.map .whole) k=eW b ids k
 |[],_=>rfl
 |x::r,k=>by
  simp only[bZ,dS,eW];by_cases h:x=b;subst h;simp;simp[h,N2 b r (k+1)]
def RV(ids:List Nat):TC->Option TC| .ptr b p=>(eW b ids 0).bind λk=>some (.ptr k p)| .slr b=>(eW b ids 0).bind λk=>some (.slr k)| .slo b n=>(eW b ids 0).bind λk=>some (.slo k n)| .ep _ _ _=>none| .epo _ _ _ _=>none| .pre _ _=>none| .pro _ _ _=>none| .suf _ _=>none| .suo _ _ _=>none|x=>some x
def AU(ids:List Nat):List TC->Option (List TC)|[]=>some []|x::r=>match RV ids x,AU ids r with|some y,some l=>some (y::l)|_,_=>none
def LJ(ids:List Nat):TA->Option TA
 | .c x=>match RV ids x with|some y=>some (.c y)|none=>none
 | .dt t x=>some (.dt t x)
 | .m t cs=>match AU ids cs with|some l=>some (.m t l)|none=>none
 | .fn f a c=>match AU ids a,AU ids c with|some a,some c=>some (.fn f a c)|_,_=>none
def UA(ids:List Nat):List TA->Option (List TA)|[]=>some []|x::r=>match LJ ids x,UA ids r with|some y,some l=>some (y::l)|_,_=>none
def uo(ids:List Nat):TB->Option TB
 | .box t x=>some (.box t x)
 | .mbox t cs=>match AU ids cs with|some l=>some (.mbox t l)|none=>none
 | .arr w t rows=>some (.arr w t rows)
 | .dead=>none
def yE(ids:List Nat)(s:TSt):List Nat->Option (List TB)
 |[]=>some []
 |b::r=>match s.sto[b]? with
  |some x=>match uo ids x,yE ids s r with|some y,some l=>some (y::l)|_,_=>none
  |none=>none
section
variable {ids:List Nat} {L L':Nat->Nat} (hL: ∀b k,eW b ids 0=some k->L' k=L b)
include hL
theorem Qf{x y:TC}(h:RV ids x=some y):ren (λe=>dS e (ids.map .whole) 0) (bB L x)=some (bB L' y):=by
 cases x<;>simp only[RV]at h<;>first
  |(obtain⟨k,hk,h⟩:=bU.1 h
    injection h with h;subst h;simp only[bB,ren,N2,hk,cT]
    try rw[hL _ _ hk]
    done)
  |(injection h with h;subst h;rfl)
  |cases h
theorem VJ: ∀{xs g:List TC},AU ids xs=some g->ren.renL (λe=>dS e (ids.map .whole) 0) (xs.map (bB L))=some (g.map (bB L'))
 |[],g,h=>by injection h with h;subst h;rfl
 |x::r,g,h=>by
  simp only[AU]at h;split at h;rename_i y l j hl;injection h with h;subst h;simp only[bZ,ren.renL,Qf hL j,VJ hl];cases h
theorem JLY{x y:TA}(h:LJ ids x=some y):ren (λe=>dS e (ids.map .whole) 0) (bR L x)=some (bR L' y):=by
 cases x with
 |c x=>
  simp only[LJ]at h;split at h;rename_i y g;injection h with h;subst h;exact Qf hL g;cases h
 |dt t x=>injection h with h;subst h;rfl
 |m t cs=>
  grind [LJ,bR,ren,VJ]
 |fn f a c=>
  grind [LJ,bR,ren,VJ]
theorem yc: ∀{xs g:List TA},UA ids xs=some g->ren.renL (λe=>dS e (ids.map .whole) 0) (xs.map (bR L))=some (g.map (bR L'))
 |[],g,h=>by injection h with h;subst h;rfl
 |x::r,g,h=>by
  simp only[UA]at h;split at h;rename_i y l j hl;injection h with h;subst h;simp only[bZ,ren.renL,JLY hL j,yc hl];cases h
theorem zt{s0 s1:TSt}{ws:List (Nat×Blk)}(f:Fzd s0 s1 ws)(j:lns s0.sto=L): ∀{bs:List Nat} {bl:List TB},yE ids s1 bs=some bl->
  (lL ws (λe=>dS e (ids.map .whole) 0) (bs.map .whole)).run (JE s0)=some (bl.map (aZ L'))
 |[],bl,h=>by injection h with h;subst h;rfl
 |b::r,bl,h=>by
  simp only[yE]at h;split at h;rename_i x hb;split at h;rename_i y l g hl;injection h with h;subst h;have ih:=zt f j hl;have k:=ky f hb;rw[j]at k;simp only[bZ,lL,AR,run_bind,k,Jy];cases x with
  |dead=>cases g
  |box t x=>injection g with g;grind [x9,YT,aZ,JW]
  |mbox t cs=>
   grind [uo,aZ,VJ,JW]
  |arr w t rows=>injection g with g;grind [aZ,JW]
  cases h;cases h
end
theorem Ay{ids:List Nat}{s:TSt}: ∀{bs:List Nat} {bl:List TB},yE ids s bs=some bl->bl.length=bs.length/\ ∀(k b:Nat),bs[k]?=some b->lns bl k=lns s.sto b
 |[],bl,h=>by injection h with h;simp_all
 |b::r,bl,h=>by
  simp only[yE]at h;split at h;rename_i x hb;split at h;rename_i y l e hl;injection h with h;subst h;obtain⟨h1,h2⟩:=Ay hl;refine⟨by simp[h1],λk c hk=>?_⟩;cases k with
  |zero=>
   simp at hk;subst hk;unfold lns;rw[hb];show lnB y=lnB x;cases x with
   |dead=>cases e
   |box t x=>injection e with e;subst e;rfl
   |mbox t cs=>
    simp only[uo]at e;split at e;injection e with e;subst e;rfl;cases e
   |arr w t rows=>injection e with e;subst e;rfl
  |succ k=>
   grind [lns]
  cases h;cases h
def fK(ids:List Nat)(new m k:Nat):Option Nat:=if k<ids.length then ids[k]? else if k<m then some (new+(k-ids.length))else none
def cj(ids:List Nat)(new m:Nat):TC->Option TC| .ptr k p=>(fK ids new m k).bind λb=>some (.ptr b p)| .slr k=>(fK ids new m k).bind λb=>some (.slr b)| .slo k n=>(fK ids new m k).bind λb=>some (.slo b n)| .ep k i p=>(fK ids new m k).bind λb=>some (.ep b i p)| .epo k e i p=>(fK ids new m k).bind λb=>some (.epo b e i p)| .pre _ _=>none| .pro _ _ _=>none| .suf _ _=>none| .suo _ _ _=>none|x=>some x
def AH(ids:List Nat)(new m:Nat):List TC->Option (List TC)|[]=>some []|x::r=>match cj ids new m x,AH ids new m r with|some y,some l=>some (y::l)|_,_=>none
def du(ids:List Nat)(new m:Nat):TA->Option TA
 | .c x=>match cj ids new m x with|some y=>some (.c y)|none=>none
 | .dt t x=>some (.dt t x)
 | .m t cs=>match AH ids new m cs with|some l=>some (.m t l)|none=>none
 | .fn f a c=>match AH ids new m a,AH ids new m c with|some a,some c=>some (.fn f a c)|_,_=>none
def SP(ids:List Nat)(new m:Nat):List TA->Option (List TA)|[]=>some []|x::r=>match du ids new m x,SP ids new m r with|some y,some l=>some (y::l)|_,_=>none
def ru(ids:List Nat)(new m:Nat):TV->Option TV
 | .a x=>match du ids new m x with|some y=>some (.a y)|none=>none
 | .tup vs=>match SP ids new m vs with|some l=>some (.tup l)|none=>none
def zZ(ids:List Nat)(new m:Nat):TB->Option TB
 | .box t x=>some (.box t x)
 | .mbox t cs=>match AH ids new m cs with|some l=>some (.mbox t l)|none=>none
 | .arr w t rows=>some (.arr w t rows)
 | .dead=>none
section
variable {ids:List Nat} {new m:Nat} {L Lp:Nat->Nat} (hL: ∀k b,fK ids new m k=some b->Lp b=L k)
theorem JRV{k b o:Nat}(h:fK ids new m k=some b):bk (ids.map .whole) new (.ptr k o)=some (.ptr b o):=by
 grind [fK,bk]
theorem JR0{k b i n:Nat}(h:fK ids new m k=some b):bk (ids.map .whole) new (.slr k i n)=some (.slr b i n):=by
 grind [fK,bk]
theorem JSd{k b e i o:Nat}(h:fK ids new m k=some b):bk (ids.map .whole) new (.ep k e i o)=some (.ep b e i o):=by
 grind [fK,bk]
include hL
theorem M3{x y:TC}(h:cj ids new m x=some y):bk (ids.map .whole) new (bB L x)=some (bB Lp y):=by
 cases x<;>simp only[cj]at h<;>first
  |(obtain⟨b,hb,h⟩:=bU.1 h
    injection h with h;subst h;simp only[bB,JRV hb,JR0 hb,JSd hb,hL _ _ hb]
    done)
  |(cases h;done)
  |(injection h with h;subst h;rfl)
theorem US: ∀{xs e:List TC},AH ids new m xs=some e->bk.bkL (ids.map .whole) new (xs.map (bB L))=some (e.map (bB Lp))
 |[],e,h=>by injection h with h;subst h;rfl
 |x::r,e,h=>by
  simp only[AH]at h;split at h;rename_i y l g hl;injection h with h;subst h;simp only[bZ,bk.bkL,M3 hL g,US hl];cases h
theorem Oz{x y:TA}(h:du ids new m x=some y):bk (ids.map .whole) new (bR L x)=some (bR Lp y):=by cases x<;>grind [du,M3,bR,bk,US]
theorem Qc: ∀{xs e:List TA},SP ids new m xs=some e->bk.bkL (ids.map .whole) new (xs.map (bR L))=some (e.map (bR Lp))
 |[],e,h=>by injection h with h;subst h;rfl
 |x::r,e,h=>by
  simp only[SP]at h;split at h;rename_i y l g hl;injection h with h;subst h;simp only[bZ,bk.bkL,Oz hL g,Qc hl];cases h
theorem JNJ{x y:TV}(h:ru ids new m x=some y):bk (ids.map .whole) new (JY L x)=some (JY Lp y):=by cases x<;>grind [ru,Oz,JY,bk,Qc]
end
end Go.Am
end
section
namespace Go.Am
structure TG where
 go: ∀{R:Type},FuncId->List TA->List TB->(TV->List (Bool×TB)->Option R)->Option R
def qD(out:List (Bool×TB)):Nat->Nat:=lns (out.map (·.2))
structure GOk(F:Orc)(G:TG):Prop where
 ok: ∀{R:Type} {f:FuncId} {xs:List TA} {bl:List TB} {kk:TV->List (Bool×TB)->Option R} {r:R},G.go f xs bl kk=some r->
  ∃v out,F f (xs.map (bR (lns bl))) (bl.map (aZ (lns bl)))=some (JY (qD out) v,out.map λx=>aZ (qD out) x.2)/\
   (∀(k:Nat) x,out[k]?=some (true,x)->k<bl.length->lnB x=lns bl k)/\kk v out=some r
def qS(ids:List Nat)(new m:Nat):Nat->List (Bool×TB)->Option (List (Nat×Bool×TB))|_,[]=>some []|k,(s,x)::r=>match fK ids new m k,zZ ids new m x,qS ids new m (k+1) r with|some b,some y,some l=>some ((b,s&&decide (k<ids.length),y)::l)|_,_,_=>none
section
variable {R:Type}
def sj(e:Bool)(a b n:Nat):Bool:=if e=true then decide (a<=b/\b<=a+n)else decide (b=a+n)
theorem JJs{e:Bool}{a b n:Nat}(h:sj e a b n=true):(if e=true then a<=b/\b<=a+n else b=a+n)/\a<=b/\b<=a+n:=by
 grind [sj]
def EZ(G:TG)(f:FuncId)(args:List (TV×Bool))(e:Bool)(n:Nat)(d:Option Nat)(new:Nat)(s:TSt)(kk:TSt->Option R):Option R:=
 LG args s λxs s1=>
 match GC xs []with
 |none=>none
 |some g=>match xL s1 g g with
  |none=>none
  |some i1=>match xL s1 i1 i1 with
   |none=>none
   |some ids=>if kI ids=true then
    match UA ids xs,yE ids s1 ids with
    |some j,some bl=>G.go f j bl λv out=>
     if sj e ids.length out.length n=true then
      match ru ids new out.length v,qS ids new out.length 0 out with
      |some h,some ws=>if kI (ws.map (·.1))=true then kk (bF d h (oN ws s1))else none
      |_,_=>none
     else none
    |_,_=>none
    else none
theorem Pr{ids:List Nat}{new m:Nat}{x y:TB}(h:zZ ids new m x=some y):lnB y=lnB x:=by
 cases x with
 |dead=>cases h
 |box t x=>injection h with h;subst h;rfl
 |mbox t cs=>
  simp only[zZ]at h;split at h;injection h with h;subst h;rfl;cases h
 |arr w t rows=>injection h with h;subst h;rfl
theorem xl{ids:List Nat}{new m:Nat}: ∀{k:Nat} {out:List (Bool×TB)} {ws:List (Nat×Bool×TB)},qS ids new m k out=some ws->
  ws.length=out.length/\ ∀(j:Nat) s x,out[j]?=some (s,x)-> ∃b y,fK ids new m (k+j)=some b/\zZ ids new m x=some y/\ws[j]?=some (b,s&&decide (k+j<ids.length),y)
 |k,[],ws,h=>by injection h with h;simp_all
 |k,(s,x)::r,ws,h=>by
  simp only[qS]at h;split at h;rename_i b y l hb n hl;injection h with h;subst h;obtain⟨h1,h2⟩:=xl hl;refine⟨by simp[h1],λj s' e g=>?_⟩;cases j<;>grind
  cases h
theorem JMW{l:List Nat}(h:kI l=true):l.Nodup:=WT h
theorem JEi{ids:List Nat}(h:kI ids=true):kI ((ids.map Ent.whole).map Ent.id)=true:=by rw[wK,show Ent.id∘Ent.whole=id from rfl,List.map_id];exact h
theorem xb{ids:List Nat}{new m:Nat}{L Lp:Nat->Nat}(hL: ∀k b,fK ids new m k=some b->Lp b=L k){ws0:List (Nat×Blk)}{st:St}: ∀{j:Nat} {es:List Nat} {out:List (Bool×TB)} {ws:List (Nat×Bool×TB)},
  (∀(i:Nat) b,es[i]?=some b->ids[j+i]?=some b)->j+es.length=ids.length->es.length<=out.length->qS ids new m j out=some ws->
  (jK ws0 (ids.map .whole) new (es.map .whole) (out.map λx=>aZ L x.2)).run st=some ((ws.take es.length).map λx=>(x.1,aZ Lp x.2.2))
 |j,[],out,ws,_,_,_,h=>by simp[jK]
 |j,b::es,[],ws,_,_,hl,h=>by simp at hl
 |j,b::es,(s,x)::out,ws,he,hj,hl,h=>by
  simp only[qS]at h;split at h;rename_i e y l hb r n;injection h with h;subst h;have ih:=xb hL (ws0:=ws0) (st:=st) (j:=j+1) (es:=es) (out:=out) (ws:=l) (λi c hc=>by
   have:=he (i+1) c (by simpa using hc);grind) (by grind) (by simpa using hl) n
  have g:e=b:=(by have q:=he 0 b (by simp);grind [fK]);subst g;simp only[bZ,jK,run_bind];have o:(uS ws0 (ids.map .whole) new (.whole e) (aZ L x)).run st=some (e,aZ Lp y):=by cases x<;>grind [BI,uS,me,YT,JW,zZ,NL,US,u9]
  simp_all;cases h
theorem Qs{ids:List Nat}{new m:Nat}{L Lp:Nat->Nat}(hL: ∀k b,fK ids new m k=some b->Lp b=L k): ∀{j:Nat} {out:List (Bool×TB)} {ws:List (Nat×Bool×TB)},
  qS ids new m (ids.length+j) out=some ws->iH (ids.map .whole) new (new+j) (out.map λx=>aZ L x.2)=some (ws.map λx=>(x.1,aZ Lp x.2.2))
 |j,[],ws,h=>by injection h with h;subst h;rfl
 |j,(s,x)::out,ws,h=>by
  simp only[qS]at h;split at h;rename_i o y l hb e n;injection h with h;subst h;have ih:=Qs hL (j:=j+1) n;have g:o=new+j:=(by grind [fK]);subst g;cases x with
  |dead=>cases e
  |box t x=>injection e with e;grind [BI,iH,me,YT]
  |mbox t cs=>
   grind [zZ,NL,iH,US]
  |arr w t rows=>injection e with e;grind [u9,iH]
  cases h
theorem Ad{ids:List Nat}{new m:Nat}: ∀{n k:Nat} {out:List (Bool×TB)} {ws:List (Nat×Bool×TB)},qS ids new m k out=some ws->qS ids new m (k+n) (out.drop n)=some (ws.drop n)
 |0,k,out,ws,h=>h
 |n+1,k,[],ws,h=>by injection h with h;subst h;rfl
 |n+1,k,(s,x)::out,ws,h=>by
  simp only[qS]at h;split at h;rename_i b y l hb e hl;injection h with h;subst h;have:=Ad (n:=n) hl;grind;cases h
theorem WY{F:Orc}{G:TG}(hG:GOk F G){f:FuncId}{args:List (TV×Bool)}{A:Bool}{n:Nat}{d:Option Nat}{new:Nat}{s:TSt}{kk:TSt->Option R}{r:R}
  (hd:pE s new n=true) (h:EZ G f args A n d new s kk=some r):
  ∃xs ws B es z blks v res D fresh,(fO (args.map (·.2)) (args.map λx=>JY (lns s.sto) x.1)).run (JE s)=some (xs,ws)/\
   (eM ws (cV.entsOfL xs []) (cV.entsOfL xs [])).run (JE s)=some B/\(eM ws B B).run (JE s)=some es/\kI (es.map Ent.id)=true/\
   ren.renL (λe=>dS e es 0) xs=some z/\(lL ws (λe=>dS e es 0) es).run (JE s)=some blks/\F f z blks=some res/\
   (if A=true then es.length<=res.2.length/\res.2.length<=es.length+n else res.2.length=es.length+n)/\bk es new res.1=some v/\iH es new new (res.2.drop es.length)=some fresh/\
   (jK ws es new es res.2).run (JE s)=some D/\ ∃s',put d ⟨v,ws++D++fresh⟩ (JE s)=JE s'/\kk s'=some r:=by
 unfold EZ at h;obtain⟨xs,s1,ws,h1,q,h⟩:=js (Fzd.refl s) h;rw[sA]at q;split at h;cases h;rename_i i0 T;split at h;cases h;rename_i i1 P;split at h;cases h;rename_i ids L;split at h;rename_i V;split at h;rename_i ys bl S K;obtain⟨v,out,hF,Z,h⟩:=hG.ok h;split at h;rename_i hlen;split at h;rename_i N g U o;split at h;rename_i M;have e0:cV.entsOfL (xs.map (bR (lns s.sto))) []=i0.map .whole:=WM (lns s.sto) (l:=[]) T;have e1:=CB q P;have e2:=CB q L;obtain⟨ai,W⟩:=Ay K;have hL: ∀b k,eW b ids 0=some k->lns bl k=lns s.sto b:=by intro b k hk;obtain⟨_,hk⟩:=WH hk;rw[W k b (by simpa using hk),q.2.1]
 have e3:=yc hL S;have e4:=zt hL q rfl K;obtain⟨b1,b2⟩:=xl o;have a4: ∀(j:Nat),qD out j=match out[j]? with
   |some x=>lnB x.2
   |none=>0:=by
  intro j;unfold qD lns;rw[iS];cases out[j]?<;>rfl
 have O: ∀(k b:Nat),ids[k]?=some b->b<s1.sto.length:=by
  have aj: ∀(bs:List Nat) (bl:List TB),yE ids s1 bs=some bl-> ∀(k b:Nat),bs[k]?=some b->b<s1.sto.length:=by
   intro bs
   induction bs with
   |nil=>simp_all
   |cons c bs ih=>
    grind [yE]
  grind
 have a2:s1.sto.length=s.sto.length:=(by have:=congrArg (λst=>st.sto.length) q.2.2.1;grind [JE,BW]);obtain⟨a1,J,a0⟩:=JJs hlen;have Y:=yF hd;have a9: ∀x∈g,∃(j:Nat) (Q:Bool) (y:TB),out[j]?=some (Q,y)/\fK ids new out.length j=some x.1/\zZ ids new out.length y=some x.2.2/\x.2.1=(Q&&decide (j<ids.length)):=by
  intro x hx;obtain⟨j,hj⟩:=jU hx;have w:j<out.length:=by grind
  obtain⟨b,y,q1,q2,H⟩:=b2 j (out[j]'w).1 (out[j]'w).2 (bA w);rw[hj]at H;injection H with H;rw[qM]at q1 H;exact⟨j,_,_,bA w,by simp_all,by simp_all,by rw[H];rfl⟩
 have E: ∀x∈g,x.1<s1.sto.length:=(by grind [fK,JC]);have I: ∀x∈g,x.2.1=true->lnB x.2.2=lns s1.sto x.1:=(by grind [Pr,fK]);obtain⟨w1,w2⟩:=JPa (JMW M) E I;have C: ∀k b,fK ids new out.length k=some b->lns (oN g s1).sto b=qD out k:=(by grind [fK,Pr]);have e5:=JNJ C U;have e6:=xb C (ws0:=ws) (st:=JE s) (j:=0) (es:=ids) (out:=out) (ws:=g) (λi b hb=>by grind) (by omega) J o;have e7:=Qs C (j:=0) (out:=out.drop ids.length) (ws:=g.drop ids.length) (by have:=Ad (n:=ids.length) o;grind);rw[wI]at e7;refine⟨xs.map (bR (lns s.sto)),ws,i1.map .whole,ids.map .whole,_,_,JY (lns (oN g s1).sto) N,_,_,(g.drop ids.length).map (λx=>(x.1,aZ (lns (oN g s1).sto) x.2.2)),h1,?_,e2,JEi V,e3,e4,hF,?_,e5,?_,e6,bF d N (oN g s1),?_,h⟩;grind;grind;grind [List.map_drop];refine nN ?_ d N;rw[w1,q.2.2.1];simp[fE];cases h;cases h;cases h;cases h;cases h
end
end Go.Am
end
section
namespace Go.Am
inductive TOp where
 |mv (x:TO)
 |mkarr (t:Ty) (x:TO)
 |pick (c a b:TO)
 |newbox (t:Ty)
 |box (t:Ty) (x:TO)
 |build (t:Ty) (parts:List (Nat×Ty×TO))
 |lits (own:Bool) (t:Ty) (n:Nat) (parts:List (Nat×TO))
 |load (agg:Bool) (t:Ty) (x:TO)
 |store (t:Ty) (x v:TO)
 |nilchk (x:TO)
 |bin (op:BinOp) (bt:TBT) (x y:TO)
 |un (op:UnOp) (x:TO)
 |conv (k:CK) (x:TO)
 |mkslice (own:Bool) (t:Ty) (bytes:Nat) (l c:TO)
 |slice (k:TSK) (x:TO) (lo hi mx:Option TO)
 |faddr (off:Nat) (x:TO)
 |field (agg:Bool) (off:Nat) (t:Ty) (x:TO)
 |iaddr (t:Ty) (x i:TO)
 |aaddr (len esz:Nat) (x i:TO)
 |sidx (x i:TO)
 |aidx (agg:Bool) (len:Nat) (t:Ty) (x i:TO)
 |extr (x:TO) (i:Nat)
 |call (f:FuncId) (args:List TO) (k:Nat)
 |callo (f:FuncId) (args:List (TO×Bool)) (k:Nat)
 |callv (g:TO) (args:List TO) (k:Nat)
 |len (str:Bool) (x:TO)
 |app (t:Ty) (bytes:Nat) (x y:TO)
 |appn (t:Ty) (bytes:Nat) (y:TO)
 |mm (mx:Bool) (x y:TO)
 |mkfn (f:FuncId) (first caps:List TO)
 |newboxo (t:Ty) (os:List (Nat×Ty))
 |buildo (t:Ty) (parts:List (Nat×Ty×TO)) (os:List (Nat×Ty))
 |storen (t:Ty) (x:TO)
 |psuf (t:Ty) (x lo:TO)
 |shr (t:Ty) (x hi:TO)
 |clr (t:Ty) (x:TO)
 |mvn (t:Ty) (x:TO)
def zer(t:Ty):List PV:=cel t t.zero
def erp:TOp->AOp
 | .mv x=>.mv (erO x)
 | .mkarr t x=>.mkarr t.sz (erO x)
 | .pick c a b=>.pick (erO c) (erO a) (erO b)
 | .newbox t=>.newbox (zer t)
 | .box t x=>.box t.sz (erO x)
 | .build t parts=>.build (zer t) (erP parts)
 | .lits own t n parts=>.lits own t.sz n (zer t) (parts.map λx=>(x.1,erO x.2))
 | .load agg t x=>.load agg t.sz (erO x)
 | .store t x v=>.store t.sz (erO x) (erO v)
 | .nilchk x=>.nilchk (erO x)
 | .bin op bt x y=>.bin op (erT bt) (erO x) (erO y)
 | .un op x=>.un op (erO x)
 | .conv k x=>.conv k (erO x)
 | .mkslice own t bytes l c=>.mkslice own t.sz bytes (zer t) (erO l) (erO c)
 | .slice k x lo hi mx=>.slice (erK k) (erO x) (lo.map erO) (hi.map erO) (mx.map erO)
 | .faddr off x=>.faddr off (erO x)
 | .field agg off t x=>.field agg off t.sz (erO x)
 | .iaddr t x i=>.iaddr t.sz (erO x) (erO i)
 | .aaddr len esz x i=>.aaddr len esz (erO x) (erO i)
 | .sidx x i=>.sidx (erO x) (erO i)
 | .aidx agg len t x i=>.aidx agg len t.sz (erO x) (erO i)
 | .extr x i=>.extr (erO x) i
 | .call f args k=>.call f (args.map erO) k
 | .callo f args k=>.callo f (args.map (·.2)) (args.map λx=>erO x.1) k
 | .callv g args k=>.callv (erO g) (args.map erO) k
 | .len str x=>.len str (erO x)
 | .app t bytes x y=>.app t.sz bytes (zer t) (erO x) (erO y)
 | .appn t bytes y=>.appn t.sz bytes (zer t) (erO y)
 | .psuf t x y=>.psuf t.sz (erO x) (erO y)
 | .shr t x y=>.shr t.sz (zer t) (erO x) (erO y)
 | .clr t x=>.clr t.sz (zer t) (erO x)
 | .mvn t x=>.mvn t.sz (zer t) (erO x)
 | .mm mx x y=>.mm mx (erO x) (erO y)
 | .mkfn f first caps=>.mkfn f (first.map erO) (caps.map erO)
 | .newboxo t os=>.newboxo (zer t) (lW os)
 | .buildo t parts os=>.buildo (zer t) (erP parts) (lW os)
 | .storen t x=>.storen t.sz (erO x)
def cE:TOp->Nat| .newbox _| .box _ _| .mkarr _ _| .appn _ _ _| .shr _ _ _| .mvn _ _=>1| .lits own _ _ _=>if own=true then 1 else 0| .mkslice own _ _ _ _=>if own=true then 1 else 0| .conv (.toBytes own) _=>if own=true then 1 else 0| .call _ _ k| .callv _ _ k| .callo _ _ k=>k| .newboxo _ os=>os.length+1| .buildo _ _ os=>os.length| .storen _ _=>1|_=>0
theorem MY(op:TOp):nG (erp op)=cE op:=by
 cases op<;>try rfl
 rename_i k x;cases k<;>rfl
 all_goals simp[erp,cE,lW]
def wR:List (TO×Bool)->TSt->Option (List (TV×Bool))|[],_=>some []|(o,x)::r,s=>match tev o s,wR r s with|some v,some l=>some ((v,x)::l)|_,_=>none
theorem BO{s:TSt}: ∀{xs:List (TO×Bool)} {l:List (TV×Bool)},wR xs s=some l->
  (evs (xs.map λx=>erO x.1)).run (JE s)=some (l.map λx=>JY (lns s.sto) x.1)/\l.map (·.2)=xs.map (·.2)
 |[],l,h=>by injection h with h;simp_all
 |(o,x)::q,l,h=>by
  simp only[wR]at h;split at h;rename_i v g e hl;injection h with h;subst h;obtain⟨h1,h2⟩:=BO hl;exact⟨by simp only[bZ,evs,run_bind,bT e,Jy,h1,JW],by simp[h2]⟩;cases h
section
variable {R:Type}
def top(G:TG)(op:TOp)(d:Option Nat)(new:Nat)(s:TSt)(k:TSt->Option R):Option R:=
 match op with
 | .mv x=>match tev x s with|some v=>k (bF d v s)|none=>none
 | .mkarr t _=>Lh t d new s k
 | .pick c a b=>match tev c s with|some (.a (.c (.d .b x)))=>tt x (tev a s) (tev b s) λv=>k (bF d v s)|_=>none
 | .newbox t=>O6 t d new s k
 | .box t x=>match tev x s with|some v=>qj t v d new s k|none=>none
 | .build t parts=>vk t parts d s k
 | .lits own t n parts=>s8 own t n parts d new s k
 | .load agg t x=>match tev x s with|some v=>ug agg t v d s k|none=>none
 | .store t x y=>match tev x s,tev y s with|some v,some u=>vh t v u d s k|_,_=>none
 | .nilchk x=>match tev x s with|some v=>r3 v λv=>k (bF d v s)|none=>none
 | .bin op bt x y=>match tev x s,tev y s with|some v,some u=>qz op bt v u λv=>k (bF d v s)|_,_=>none
 | .un op x=>match tev x s with|some v=>tUn op v λv=>k (bF d v s)|none=>none
 | .conv c x=>match tev x s with|some v=>tx c v d new s k|none=>none
 | .mkslice own t bytes l c=>match tev l s,tev c s with|some v,some u=>jw own t bytes v u d new s k|_,_=>none
 | .slice e x lo hi mx=>match tev x s,tbn lo s,tbn hi s,tbn mx s with|some v,some a,some b,some c=>uq e v a b c d s k|_,_,_,_=>none
 | .faddr off x=>match tev x s with|some v=>vn off v λv=>k (bF d v s)|none=>none
 | .field agg off t x=>match tev x s with|some v=>vm agg off t v d s k|none=>none
 | .iaddr t x i=>match tev x s,tev i s with|some v,some u=>vj t v u s λv=>k (bF d v s)|_,_=>none
 | .aaddr len esz x i=>match tev x s,tev i s with|some v,some u=>gl len esz v u λv=>k (bF d v s)|_,_=>none
 | .sidx x i=>match tev x s,tev i s with|some v,some u=>uc v u λv=>k (bF d v s)|_,_=>none
 | .aidx agg len t x i=>match tev x s,tev i s with|some v,some u=>so agg len t v u d s k|_,_=>none
 | .extr x i=>match tev x s with|some v=>tz v i λv=>k (bF d v s)|none=>none
 | .call f args n=>match wR (args.map λx=>(x,false)) s with|some l=>EZ G f l false n d new s k|none=>none
 | .callo f args n=>match wR args s with|some l=>EZ G f l true n d new s k|none=>none
 | .callv g args n=>match tev g s,wR (args.map λx=>(x,false)) s with|some (.a (.fn f a c)),some l=>EZ G f (a.map (λx=>(.a (.c x),false))++l++c.map (λx=>(.a (.c x),false))) false n d new s k|some (.a (.c (.fn f))),some l=>EZ G f l false n d new s k|_,_=>none
 | .len str x=>match tev x s with|some v=>r7 str v s λv=>k (bF d v s)|none=>none
 | .app t bytes x y=>match tev x s,tev y s with|some v,some u=>qt t bytes v u d s k|_,_=>none
 | .appn t bytes y=>match tev y s with|some u=>sw t bytes u d new s k|none=>none
 | .mm mx x y=>match tev x s,tev y s with|some v,some u=>tMm mx v u λv=>k (bF d v s)|_,_=>none
 | .mkfn f first caps=>match tcl first s,tcl caps s with|some a,some c=>k (bF d (.a (.fn f a c)) s)|_,_=>none
 | .newboxo t os=>j9 t os d new s k
 | .buildo t parts os=>jg t parts os d new s k
 | .storen t x=>match tev x s with|some v=>iz t v d new s k|none=>none
 | .psuf t x y=>match tev x s,tev y s with|some v,some u=>th t v u d s k|_,_=>none
 | .shr t x y=>match tev x s,tev y s with|some v,some u=>r9 t v u d new s k|_,_=>none
 | .clr t x=>match tev x s with|some v=>rz t v d s k|none=>none
 | .mvn t x=>match tev x s with|some v=>rm t v d new s k|none=>none
theorem j6{F:Orc}{f:FuncId}{vs xs g:List AV}{ws:List (Nat×Blk)}{h es:List Ent}{blks:List Blk}{v:AV}{res:Res}{j fresh:List (Nat×Blk)}{n new:Nat}{st:St}
  (h1:(lE vs).run st=some (xs,ws)) (h2:(eM ws (cV.entsOfL xs []) (cV.entsOfL xs [])).run st=some h) (h3:(eM ws h h).run st=some es) (h4:kI (es.map Ent.id)=true)
  (h5:ren.renL (λe=>dS e es 0) xs=some g) (w:(lL ws (λe=>dS e es 0) es).run st=some blks) (q:F f g blks=some res) (r:res.2.length=es.length+n)
  (x:bk es new res.1=some v) (k:iH es new new (res.2.drop es.length)=some fresh) (o:(jK ws es new es res.2).run st=some j):
  (iU F f vs n new).run st=some ⟨v,ws++j++fresh⟩:=by
 simp_all [iU]
theorem JKF{F:Orc}{f:FuncId}{xs g:List AV}{ws:List (Nat×Blk)}{h es:List Ent}{blks:List Blk}{v:AV}{res:Res}{j fresh:List (Nat×Blk)}{n new:Nat}{st:St}
  (h2:(eM ws (cV.entsOfL xs []) (cV.entsOfL xs [])).run st=some h) (h3:(eM ws h h).run st=some es) (h4:kI (es.map Ent.id)=true)
  (h5:ren.renL (λe=>dS e es 0) xs=some g) (w:(lL ws (λe=>dS e es 0) es).run st=some blks) (q:F f g blks=some res) (r:es.length<=res.2.length/\res.2.length<=es.length+n)
  (x:bk es new res.1=some v) (k:iH es new new (res.2.drop es.length)=some fresh) (o:(jK ws es new es res.2).run st=some j):
  (gA F f (xs,ws) n new).run st=some ⟨v,ws++j++fresh⟩:=by
 simp_all [gA]
theorem VR(args:List TO):(args.map λx=>(x,false)).map (λx:TO×Bool=>erO x.1)=args.map erO:=by simp_all
theorem JQM{F:Orc}{G:TG}(K:GOk F G){op:TOp}{d:Option Nat}{new:Nat}{s:TSt}{k:TSt->Option R}{r:R}(hd:pE s new (cE op)=true)(h:top G op d new s k=some r):Ok (opR F (erp op) new) d s k r:=by
 have M: ∀j,j<cE op->new+j<s.sto.length:=λj hj=>JC (yF hd j hj);unfold top at h;split at h;split at h;rename_i x _ v o;refine fR (v:=v) ?_ h;simp only[erp,opR,run_bind,bT o,Jy,JW];cases h;exact JIS F (by simp_all [cE]) h;split at h;rename_i hc;exact JMX F hc h;cases h;exact JGI F (by have:=yF hd 0 (by simp[cE]);simp_all) h;split at h;rename_i o;exact JNP F (by have:=yF hd 0 (by simp[cE]);simp_all) o h;cases h;exact JJP F new h;rename_i own t n parts;exact JLw F (λZ=>by simp_all [cE]) h;split at h;rename_i o;obtain⟨e,s',h1,h2,q⟩:=JMV h;exact⟨e,s',by grind [erp,opR,run_bind,bT],h2,q⟩;cases h;split at h;rename_i o w;obtain⟨e,s',h1,h2,q⟩:=JIV h;exact⟨e,s',by grind [erp,opR,run_bind,bT],h2,q⟩;cases h;split at h;rename_i o;exact JNT F o h;cases h;split at h;rename_i o w;obtain⟨e,s',h1,h2,q⟩:=(JOI h).ok;exact⟨e,s',by grind [erp,opR,run_bind,bT],h2,q⟩;cases h;split at h;rename_i o;obtain⟨e,s',h1,h2,q⟩:=(JRs h).ok;exact⟨e,s',by grind [erp,opR,run_bind,bT],h2,q⟩;cases h;split at h;rename_i o;exact JLI F o (λZ=>by simp_all [cE]) h;cases h;split at h;rename_i o w;exact JE4 F o w (λZ=>by simp_all [cE]) h;cases h;split at h;rename_i h1 h2 q h4;exact JJD F h1 h2 q h4 h;cases h;split at h;rename_i o;obtain⟨e,s',h1,h2,q⟩:=(JJC h).ok;exact⟨e,s',by grind [erp,opR,run_bind,bT],h2,q⟩;cases h;split at h;rename_i o;obtain⟨e,s',h1,h2,q⟩:=JJj h;exact⟨e,s',by grind [erp,opR,run_bind,bT],h2,q⟩;cases h;split at h;rename_i o w;obtain⟨e,s',h1,h2,q⟩:=JJc h;exact⟨e,s',by grind [erp,opR,run_bind,bT],h2,q⟩;cases h;split at h;rename_i o w;obtain⟨e,s',h1,h2,q⟩:=(JJU h).ok;exact⟨e,s',by grind [erp,opR,run_bind,bT],h2,q⟩;cases h;split at h;rename_i o w;exact JNd F o w h;cases h;split at h;rename_i o w;exact JM6 F o w h;cases h;split at h;rename_i o;obtain⟨e,s',h1,h2,q⟩:=(JN0 h).ok;exact⟨e,s',by grind [erp,opR,run_bind,bT],h2,q⟩;cases h;rename_i f args n;split at h;rename_i l hl;obtain⟨C,L⟩:=BO hl;rw[VR]at C;obtain⟨xs,ws,H,es,B,blks,v,res,D,fresh,E,W,V,S,Q,P,O,T,N,J,I,s',A,y⟩:=WY K hd h;rw[OL _ _ (λx hx=>by simp_all)]at E;refine⟨_,s',?_,A,y⟩;grind [erp,opR,run_bind,j6,cE];cases h;rename_i f args n;split at h;rename_i l hl;obtain⟨C,L⟩:=BO hl;obtain⟨xs,ws,H,es,B,blks,v,res,D,fresh,E,W,V,S,Q,P,O,T,N,J,I,s',A,y⟩:=WY K hd h;rw[L]at E;refine⟨_,s',?_,A,y⟩;simp_all [erp,JKF,cE];cases h;rename_i g args n;split at h;rename_i f a c l U hl;obtain⟨C,L⟩:=BO hl;rw[VR]at C;obtain⟨xs,ws,H,es,B,blks,v,res,D,fresh,E,W,V,S,Q,P,O,T,N,J,I,s',A,y⟩:=WY K hd h;have Y: ∀z:List TC,(z.map (λx=>((TV.a (.c x),false):TV×Bool))).map (λx=>JY (lns s.sto) x.1)=z.map (bB (lns s.sto)):=λz=>by rw[wK];rfl
 rw[OL _ _ (λx hx=>by
  grind),oO,oO,Y,Y]at E
 refine⟨_,s',?_,A,y⟩;simp only[erp,opR,run_bind,bT U,Jy,q7,C];grind [j6,cE];rename_i f l U hl;obtain⟨C,L⟩:=BO hl;rw[VR]at C;obtain⟨xs,ws,H,es,B,blks,v,res,D,fresh,E,W,V,S,Q,P,O,T,N,J,I,s',A,y⟩:=WY K hd h;rw[OL _ _ (λx hx=>by simp_all)]at E;refine⟨_,s',?_,A,y⟩;simp only[erp,opR,run_bind,bT U,Jy,Kc,C,sA,fM];grind [j6,cE];cases h;split at h;rename_i o;obtain⟨e,s',h1,h2,q⟩:=(JNN h).ok;exact⟨e,s',by grind [erp,opR,run_bind,bT],h2,q⟩;cases h;split at h;rename_i o w;obtain⟨e,s',h1,h2,q⟩:=JPl h;exact⟨e,s',by grind [erp,opR,run_bind,bT],h2,q⟩;cases h;split at h;rename_i w;exact JLh F w (by simp_all [cE]) h;cases h;split at h;rename_i o w;obtain⟨e,s',h1,h2,q⟩:=(JRX h).ok;exact⟨e,s',by grind [erp,opR,run_bind,bT],h2,q⟩;cases h;rename_i f first caps
 split at h;rename_i a c ha hc;refine fR (v:=.a (.fn f a c)) ?_ h;simp_all [erp,Lz,q7];cases h;exact JE2 F hd h;exact JGC F hd h;split at h;rename_i o;exact JGB F (by have:=yF hd 0 (by simp[cE]);simp_all) o h;cases h;split at h;rename_i o w;obtain⟨e,s',h1,h2,q⟩:=JMU h;exact⟨e,s',by grind [erp,opR,run_bind,bT],h2,q⟩;cases h;split at h;rename_i o w;obtain⟨e,s',h1,h2,q⟩:=JOB (by have:=M 0 (by simp[cE]);simpa using this) h;exact⟨e,s',by simp only[erp,opR,run_bind,bT o,bT w,Jy];exact h1,h2,q⟩;cases h;split at h;rename_i o;obtain⟨e,s',h1,h2,q⟩:=JOk h;exact⟨e,s',by simp only[erp,opR,run_bind,bT o,Jy];exact h1,h2,q⟩;cases h;split at h;rename_i o;obtain⟨e,s',h1,h2,q⟩:=JOH (by have:=M 0 (by simp[cE]);simpa using this) h;exact⟨e,s',by simp only[erp,opR,run_bind,bT o,Jy];exact h1,h2,q⟩;cases h
structure jW where
 op:TOp
 dst:Option Nat
 g:Option (Nat×Bool)
def eri(i:jW):bW:=⟨erp i.op,i.dst,i.g⟩
def rbE(g:Nat)(v:TV):List (Nat×TV)->List (Nat×TV)|[]=>[]|(m,u)::r=>if m=g then(m,v)::r else(m,u)::rbE g v r
def rb(g:Nat)(v:TV)(s:TSt):TSt:=⟨rbE g v s.env,s.sto⟩
theorem va{g:Nat}{v:TV}{s:TSt}(h:tlk g s.env=some v):rb g v s=s:=by
 have e: ∀env:List (Nat×TV),tlk g env=some v->rbE g v env=env:=by
  intro env
  induction env with
  |nil=>intro h;cases h
  |cons x r ih=>
   grind [tlk,rbE]
 simp_all [rb]
def db(G:TG)(i:jW)(new:Nat)(s:TSt)(k:TSt->Option R):Option R:=
 match i.g with
 |none=>if pE s new (cE i.op)=true then top G i.op i.dst new s k else none
 |some (g,e)=>match tlk g s.env with
  |some (.a (.c (.d .b x)))=>if x=e then
   (if pE s new (cE i.op)=true then top G i.op i.dst new (rb g (vb e) s) k else none)
   else k (bF i.dst uv (rb g (vb !e) s))
  |some (.tup [])=>k (bF i.dst uv s)
  |_=>none
theorem Pd{F:Orc}{G:TG}(A:GOk F G){i:jW}{new:Nat}{s:TSt}{k:TSt->Option R}{r:R}(h:db G i new s k=some r):Ok (cB F (eri i) new) i.dst s k r:=by
 have y: ∀{s:TSt},pE s new (cE i.op)=true->top G i.op i.dst new s k=some r->Ok (opD F (erp i.op) new) i.dst s k r:=(by intro s hd h;obtain⟨e,s',h1,h2,q⟩:=JQM A hd h;refine⟨e,s',?_,h2,q⟩;grind [opD,run_bind,MY,Qd]);unfold db at h;split at h;grind [cB,eri];rename_i g n z;split at h;rename_i x j;have hl:lk g (JE s).env=some (.p (.b x)):=by show lk g (fZ _ s.env)=_;rw[BM,j];rfl
 split at h;rename_i o;subst o;rw[va j]at h;split at h;rename_i hd;obtain⟨e,s',h1,h2,q⟩:=y hd h;refine⟨e,s',?_,h2,q⟩;grind [cB,eri,yI];cases h;rename_i o;have w:x= !n:=by clear hl j h;cases x<;>cases n<;>first|rfl|grind
 subst w;rw[va j]at h;refine fR (v:=uv) ?_ h;simp only[cB,eri,z,yI,hl,Jy];rw[if_neg o];rfl;rename_i j;have hl:lk g (JE s).env=some (.tup []):=by show lk g (fZ _ s.env)=_;rw[BM,j];rfl
 refine fR (v:=uv) ?_ h;simp only[cB,eri,z,yI,hl,Jy,JW];rfl;cases h
def dz(G:TG):List jW->Nat->TSt->(TSt->Option R)->Option R|[],_,s,k=>k s|i::r,new,s,k=>db G i new s λs=>dz G r (new+cE i.op) s k
theorem Ns{F:Orc}{G:TG}(g:GOk F G): ∀{ins:List jW} {new:Nat} {s:TSt} {k:TSt->Option R} {r:R},dz G ins new s k=some r-> ∃s',gP F (ins.map eri) new (JE s)=some (JE s')/\k s'=some r
 |[],new,s,k,r,h=>⟨s,rfl,h⟩
 |i::q,new,s,k,r,h=>by
  simp only[dz]at h;obtain⟨e,s1,h1,h2,h⟩:=Pd g h;obtain⟨j,o,n⟩:=Ns g h;grind [gP,eri,MY]
def LL:List jW->Nat|[]=>0|i::r=>cE i.op+LL r
theorem kb: ∀ins:List jW,news (ins.map eri)=LL ins
 |[]=>rfl
 |i::r=>by
  simp only[bZ,news,LL,kb r];grind [eri,MY]
def SB(n:Nat)(s:TSt):TSt:=if n=0 then s else⟨s.env,s.sto++List.replicate n .dead⟩
theorem JBG(sto:List TB)(n:Nat):lns (sto++List.replicate n .dead)=lns sto:=by
 funext c
 unfold lns;rcases zQ3 c sto.length with h|h;grind;rw[rX h,qI h,List.getElem?_replicate];split<;>rfl
theorem Qo(n:Nat)(s:TSt):JE (SB n s)=⟨(JE s).env,room n (JE s).sto⟩:=by
 unfold SB room;split;rfl;unfold JE;rw[JBG];simp only[oO,ZU];rfl
end
end Go.Am
end
section
namespace Go.Am
def Rb{α:Type}(S:Nat->Prop)(m:RM α)(st:St):Prop:= ∀b,Loc.blk b∈m.reads st->S b
section
variable {α β:Type} {S:Nat->Prop} {st:St}
theorem cH(a:α):Rb S (.ret a) st:=λb h=>by grind [RM.reads]
theorem eQ:Rb S (.fail:RM α) st:=λb h=>by grind [RM.reads]
theorem bS{m:RM α}{f:α->RM β}(h:Rb S m st)(hf: ∀a,m.run st=some a->Rb S (f a) st):Rb S (m.bind f) st:=by
 intro b hb;rw[yP]at hb;rcases zQ9.1 hb with hb|hb;exact h b hb;cases hm:m.run st with
 |none=>simp_all
 |some a=>rw[hm]at hb;exact hf a hm b (by simpa using hb)
theorem qZ{b:Nat}{k:Blk->RM α}(hb:S b)(h: ∀v,st.sto[b]?=some v->Rb S (k v) st):Rb S (.blk b k) st:=by
 intro c hc;simp only[RM.reads,cJ]at hc;rcases hc with hc|hc;simp_all;cases hv:st.sto[b]? with
 |none=>simp_all
 |some v=>rw[hv]at hc;exact h v hv c hc
theorem Pk{n:Nat}{k:AV->RM α}(h: ∀v,lk n st.env=some v->Rb S (k v) st):Rb S (.slot n k) st:=by
 intro c hc;simp only[RM.reads,cJ]at hc;rcases hc with hc|hc;cases hc;cases hv:lk n st.env with
 |none=>simp_all
 |some v=>rw[hv]at hc;exact h v hv c hc
theorem Ml(x:Option AV):Rb S (val x) st:=by cases x<;>first|exact eQ|exact cH _
theorem jH(x:Opd):Rb S (ev x) st:=by cases x<;>first|exact cH _|exact Pk λv _=>cH v
theorem gv: ∀xs:List Opd,Rb S (evs xs) st|[]=>cH _|x::r=>bS (jH x) λv _=>bS (gv r) λvs _=>cH _
theorem ul(x:Option Opd):Rb S (evo x) st:=by cases x<;>simp_all [cH,bS,jH]
end
def fV:AV->List Nat| .ptr b _=>[b]| .slr b _ _=>[b]| .ep b _ _ _=>[b]| .pre b _ _=>[b]|_=>[]
def avR:AV->List Nat| .agg cs=>cs.flatMap fV|x=>fV x
section
variable {S:Nat->Prop} {st:St}
theorem JPv{x:AV}(h: ∀b∈fV x,S b):Rb S (fz.fz1 x) st:=by
 cases x with
 |slr b i n=>
  refine qZ (h b (by simp[fV])) λv _=>?_;grind [cH,eQ]
 |p c=>exact cH _
 |_=>exact eQ
theorem Lj: ∀{xs:List AV},(∀b∈xs.flatMap fV,S b)->Rb S (fz.fzL xs) st|[],_=>cH _|x::r,h=>bS (JPv λb hb=>h b (by simp[hb])) λa _=>bS (Lj λb hb=>h b (by simp_all)) λc _=>cH _
theorem LB{x:AV}(h: ∀b∈avR x,S b):Rb S (fz x) st:=by
 cases x with
 |slr b i n=>
  refine qZ (h b (by simp[avR,fV])) λv _=>?_;grind [cH,eQ]
 |p c=>exact cH _
 |data cs=>exact cH _
 |agg cs=>exact Lj h
 |_=>exact eQ
theorem JRx{x:AV}{a:List PV×List (Nat×Blk)}(h:(fz.fz1 x).run st=some a): ∀y∈a.2,y.1∈fV x:=by
 cases x with
 |slr b i n=>
  simp only[fz.fz1,dU]at h;obtain⟨v,_,h⟩:=bU.1 h;cases v with
  |arr w esz rows=>
   dsimp only at h;split at h;injection h with h;grind [fV];cases h
  |_=>cases h
 |p c=>injection h with h;subst h;simp
 |_=>cases h
theorem Mn: ∀{xs:List AV} {a:List PV×List (Nat×Blk)},(fz.fzL xs).run st=some a-> ∀y∈a.2,y.1∈xs.flatMap fV
 |[],a,h,y,g=>by injection h with h;grind
 |x::r,a,h,y,g=>by
  simp only[fz.fzL]at h;obtain⟨c,h1,h⟩:=bind_some h;obtain⟨e,h2,h⟩:=bind_some h;injection h with h;subst h;simp only[zQ9]at g;simp only[List.flatMap_cons,zQ9];rcases g with g|g;grind [JRx];exact .inr (Mn h2 y g)
theorem KY{x:AV}{a:List PV×List (Nat×Blk)}(h:(fz x).run st=some a): ∀y∈a.2,y.1∈avR x:=by
 cases x with
 |slr b i n=>
  simp only[fz,dU]at h;obtain⟨v,_,h⟩:=bU.1 h;cases v with
  |arr w esz rows=>
   dsimp only at h;split at h;injection h with h;grind [avR,fV];cases h
  |_=>cases h
 |p c=>injection h with h;subst h;simp
 |data cs=>injection h with h;subst h;simp
 |agg cs=>exact Mn h
 |_=>cases h
theorem jh{esz:Nat}{x:AV}(h: ∀b∈avR x,S b):Rb S (gB esz x) st:=by
 unfold gB;grind [cH,eQ,qZ,avR,fV]
theorem JOq{agg:Bool}{size:Nat}{x:AV}(h: ∀b∈avR x,S b):Rb S (gZ agg size x) st:=by
 unfold gZ;split
 all_goals grind [Ml,eQ,qZ,avR,fV]
theorem UC{x:Option AV}{e:Eff}(h:(val x).run st=some e):e.ws=[]:=by
 cases x with
 |none=>cases h
 |some v=>injection h with h;subst h;rfl
theorem JOe{agg:Bool}{size:Nat}{x:AV}{e:Eff}(h:(gZ agg size x).run st=some e):e.ws=[]:=by
 unfold gZ at h;split at h;split at h<;>first|exact UC h|cases h
 simp only[dU]at h;obtain⟨v,_,h⟩:=bU.1 h;split at h;split at h<;>first|exact UC h|cases h
 cases h;simp only[dU]at h;obtain⟨v,_,h⟩:=bU.1 h;split at h;split at h;split at h;split at h<;>first|exact UC h|cases h
 cases h;cases h;cases h;cases h
theorem JMv{size:Nat}{x v:AV}(h: ∀b∈avR x,S b)(hv: ∀b∈avR v,S b):Rb S (iV size x v) st:=by
 unfold iV;split;grind [qZ,avR,fV,cH,eQ];refine qZ (h _ (by simp[avR,fV])) λy _=>?_;grind [bS,LB,cH,eQ];simp[eQ]
theorem JN8{size:Nat}{x v:AV}{e:Eff}(h:(iV size x v).run st=some e): ∀y∈e.ws,y.1∈avR x++avR v:=by
 unfold iV at h;split at h;simp only[dU]at h;obtain⟨w,_,h⟩:=bU.1 h;split at h;split at h;split at h;split at h;injection h with h;grind [avR,fV];cases h;cases h;cases h;cases h;simp only[dU]at h;obtain⟨w,_,h⟩:=bU.1 h;split at h;split at h;split at h;obtain⟨a,h1,h⟩:=bind_some h;split at h;split at h;injection h with h;subst h;intro y g;grind [KY,avR,fV];cases h;cases h;cases h;cases h;cases h;cases h
theorem JKK{esz:Nat}{x i:AV}(h: ∀b∈avR x,S b):Rb S (nK esz x i) st:=by
 unfold nK;grind [cH,eQ,qZ,avR,fV]
theorem JN3{esz:Nat}{x i:AV}{e:Eff}(h:(nK esz x i).run st=some e):e.ws=[]:=by
 unfold nK at h;split at h;split at h;split at h;injection h with h;subst h;rfl;cases h;cases h;simp only[dU]at h;obtain⟨v,_,h⟩:=bU.1 h;split at h;split at h;injection h with h;subst h;rfl;cases h;cases h;cases h
theorem JRC{esz bytes:Nat}{x y:AV}(h: ∀b∈avR x,S b)(hy: ∀b∈avR y,S b):Rb S (jV esz bytes x y) st:=by
 unfold jV;split
 all_goals grind [qZ,avR,fV,bS,jh,cH,eQ]
theorem JQl{esz bytes:Nat}{x y:AV}{e:Eff}(h:(jV esz bytes x y).run st=some e): ∀z∈e.ws,z.1∈avR x:=by
 unfold jV at h;split at h;simp only[dU]at h;obtain⟨v,_,h⟩:=bU.1 h;split at h;obtain⟨new,_,h⟩:=bind_some h;split at h;injection h with h;grind [avR,fV];cases h;cases h;cases h
theorem JRP{esz:Nat}{x y:AV}(h: ∀b∈avR x,S b):Rb S (tY esz x y) st:=by
 unfold tY;grind [qZ,avR,fV,cH,eQ]
theorem JQo{esz:Nat}{x y:AV}{e:Eff}(h:(tY esz x y).run st=some e):e.ws=[]:=by
 unfold tY at h;split at h;simp only[dU]at h;obtain⟨v,_,h⟩:=bU.1 h;split at h;split at h;injection h with h;subst h;rfl;cases h;cases h;cases h
theorem Ph: ∀{k new:Nat},(∀j,j<k->S (new+j))->Rb S (uJ new k) st
 |0,_,_=>cH _
 |k+1,new,h=>qZ (h 0 (by omega)) λv _=>by
  cases v with
  |dead=>exact Ph λj e=>by grind
  |_=>exact eQ
theorem Md: ∀{xs:List Opd},(∀x∈xs,∀v,(ev x).run st=some v-> ∀b∈avR v,S b)->Rb S (fzs xs) st|[],_=>cH _|x::r,h=>bS (jH x) λv e=>bS (LB (h x (by simp) v e)) λa _=>bS (Md λy g=>h y (by simp[g])) λc _=>cH _
theorem gg: ∀{xs:List Opd} {a:List (List PV)×List (Nat×Blk)},(∀x∈xs,∀v,(ev x).run st=some v-> ∀b∈avR v,S b)->(fzs xs).run st=some a-> ∀y∈a.2,S y.1
 |[],a,_,h,y,g=>by injection h with h;grind
 |x::r,a,j,h,y,g=>by
  simp only[fzs]at h;obtain⟨v,k,h⟩:=bind_some h;obtain⟨c,h1,h⟩:=bind_some h;obtain⟨e,h2,h⟩:=bind_some h;injection h with h;subst h;simp only[zQ9]at g;rcases g with g|g;exact j x (by simp) v k _ (KY h1 y g);exact gg (λz n=>j z (by simp[n])) h2 y g
theorem Oc{x:AV}(h: ∀b∈avR x,S b):Rb S (jT x) st:=by
 cases x with
 |slr b i n=>
  refine bS (LB h) λa _=>?_;grind [cH,eQ]
 |agg cs=>exact bS (LB h) λa _=>cH _
 |tup cs=>exact eQ
 |_=>exact cH _
theorem Oo{x:AV}{a:AV×List (Nat×Blk)}(h:(jT x).run st=some a): ∀y∈a.2,y.1∈avR x:=by
 cases x with
 |slr b i n=>
  simp only[jT]at h;obtain⟨c,h1,h⟩:=bind_some h;split at h;injection h with h;subst h;exact KY h1;cases h
 |agg cs=>simp only[jT]at h;obtain⟨c,h1,h⟩:=bind_some h;injection h with h;subst h;exact KY h1
 |tup cs=>cases h
 |_=>injection h with h;subst h;simp
theorem NP: ∀{m:List Bool} {xs:List AV},(∀x∈xs,∀b∈avR x,S b)->Rb S (fO m xs) st|_,[],_=>by simp[fO,cH]|[],x::r,h=>bS (Oc (h x (by simp))) λa _=>bS (NP λy e=>h y (by simp[e])) λc _=>cH _|true::m,x::r,h=>bS (NP λy e=>h y (by simp[e])) λc _=>cH _|false::m,x::r,h=>bS (Oc (h x (by simp))) λa _=>bS (NP λy e=>h y (by simp[e])) λc _=>cH _
theorem NS: ∀{m:List Bool} {xs:List AV} {a:List AV×List (Nat×Blk)},(∀x∈xs,∀b∈avR x,S b)->(fO m xs).run st=some a-> ∀y∈a.2,S y.1
 |m,[],a,_,h,y,g=>by unfold fO at h;injection h with h;grind
 |[],x::r,a,j,h,y,g=>by
  simp only[fO]at h;obtain⟨c,h1,h⟩:=bind_some h;obtain⟨e,h2,h⟩:=bind_some h;injection h with h;subst h;simp only[zQ9]at g;rcases g with g|g;exact j x (by simp) _ (Oo h1 y g);exact NS (λz k=>j z (by simp[k])) h2 y g
 |true::m,x::r,a,j,h,y,g=>by simp only[fO]at h;obtain⟨e,h2,h⟩:=bind_some h;injection h with h;subst h;exact NS (λz k=>j z (by simp[k])) h2 y g
 |false::m,x::r,a,j,h,y,g=>by
  simp only[fO]at h;obtain⟨c,h1,h⟩:=bind_some h;obtain⟨e,h2,h⟩:=bind_some h;injection h with h;subst h;simp only[zQ9]at g;rcases g with g|g;exact j x (by simp) _ (Oo h1 y g);exact NS (λz k=>j z (by simp[k])) h2 y g
theorem N5{ws:List (Nat×Blk)}{b:Nat}(h:S b):Rb S (rZ ws b) st:=qZ h λv _=>by grind [cH]
theorem jf{ws:List (Nat×Blk)}: ∀{r:List Nat} {acc:List Ent},(∀b∈r,S b)->Rb S (eM ws (r.map .whole) acc) st|[],acc,_=>cH _|b::r,acc,h=>by simp only[bZ,eM];refine bS (N5 (h b (by simp))) λx _=>?_;cases x<;>exact jf λc hc=>h c (by simp[hc])
theorem yv{ws:List (Nat×Blk)}{ρ:Ent->Option Nat}: ∀{r:List Nat},(∀b∈r,S b)->Rb S (lL ws ρ (r.map .whole)) st
 |[],_=>cH _
 |b::r,h=>by
  simp only[bZ,lL,AR];refine bS (bS (N5 (h b (by simp))) λx _=>?_) λx _=>bS (yv λc hc=>h c (by simp[hc])) λl _=>cH _;grind [cH,eQ]
theorem zp{ws:List (Nat×Blk)}{es:List Ent}{new:Nat}: ∀{r:List Nat} {l:List Blk},Rb S (jK ws es new (r.map .whole) l) st
 |[],l=>by cases l<;>exact cH _
 |b::r,[]=>eQ
 |b::r,x::l=>by simp only[bZ,jK];refine bS ?_ λy _=>bS zp λe _=>cH _;cases x<;>grind [uS,cH,eQ]
theorem zs{ws:List (Nat×Blk)}{es:List Ent}{new:Nat}: ∀{r:List Nat} {l:List Blk} {g:List (Nat×Blk)},(jK ws es new (r.map .whole) l).run st=some g-> ∀y∈g,y.1∈r
 |[],l,g,h,y,j=>by
  have:g=[]:=by cases l<;>(injection h with h;exact h.symm)
  simp_all
 |b::r,[],g,h,_,_=>by cases h
 |b::r,x::l,g,h,y,j=>by
  simp only[bZ,jK]at h;obtain⟨z,h1,h⟩:=bind_some h;obtain⟨k,h2,h⟩:=bind_some h;injection h with h;subst h;rcases cJ.1 j with rfl|j;cases x with
  |box cs=>
   simp only[uS]at h1;split at h1;injection h1 with h1;subst h1;simp;cases h1
  |arr w e rows=>injection h1 with h1;subst h1;simp
  |dead=>cases h1
  exact eF _ (zs h2 y j)
theorem ms{es:List Ent}{new:Nat}: ∀{l:List Blk} {k:Nat} {n:List (Nat×Blk)},iH es new k l=some n-> ∀y∈n,∃j,j<l.length/\y.1=k+j
 |[],k,n,h,y,g=>by injection h with h;simp_all
 | .dead::l,k,n,h,_,_=>by cases h
 | .box cs::l,k,n,h,y,g=>by
  simp only[iH]at h;split at h;rename_i c q _ o;injection h with h;subst h;rcases cJ.1 g with rfl|g;simp_all;obtain⟨j,r,e⟩:=ms o y g;exact⟨j+1,by simp;omega,by omega⟩;cases h
 | .arr w e rows::l,k,n,h,y,g=>by
  simp only[iH]at h;split at h;rename_i q o;injection h with h;subst h;rcases cJ.1 g with rfl|g;simp_all;obtain⟨j,r,e⟩:=ms o y g;exact⟨j+1,by simp;omega,by omega⟩;cases h
theorem ki(e x:Ent)(l:List Ent)(h:e∈l):e∈xS x l:=by grind [xS]
mutual
theorem JMP: ∀(x:AV) (l:List Ent) (e:Ent),e∈l->e∈cV x l| .ptr b off,l,e,h=>ki e _ l h| .slr b i n,l,e,h=>ki e _ l h| .ep b g i off,l,e,h=>ki e _ l h| .fn f a c,l,e,h=>entsL_sub c _ e (entsL_sub a l e h)| .agg cs,l,e,h=>entsL_sub cs l e h| .tup cs,l,e,h=>entsL_sub cs l e h| .p _,l,e,h=>h| .data _,l,e,h=>h| .cp _ _,l,e,h=>h| .unk,l,e,h=>h| .pre _ _ _,l,e,h=>h
theorem entsL_sub: ∀(xs:List AV) (l:List Ent) (e:Ent),e∈l->e∈cV.entsOfL xs l|[],l,e,h=>h|x::r,l,e,h=>entsL_sub r _ e (JMP x l e h)
end
theorem Qj{ws:List (Nat×Blk)}: ∀{r acc l:List Ent},(eM ws r acc).run st=some l-> ∀e∈acc,e∈l:=by
 intro r
 induction r with
 |nil=>intro acc l h e g;injection h with h;simp_all
 |cons x r ih=>
  intro acc l h e g;cases x with
  |whole b=>
   simp only[eM]at h;obtain⟨y,_,h⟩:=bind_some h;cases y with
   |box cs=>exact ih h e (entsL_sub cs acc e g)
   |_=>exact ih h e g
  |elem b j i=>exact ih h e g
theorem yl{F:Orc}{f:FuncId}{xs:List AV}{ws:List (Nat×Blk)}{o k ids:List Nat}{n new:Nat}(r: ∀b∈ids,S b)(hw: ∀y∈ws,S y.1)(hn: ∀j,j<n->S (new+j))
  (h0:cV.entsOfL xs []=o.map .whole) (h1:(eM ws (o.map .whole) (o.map .whole)).run st=some (k.map .whole)) (h2:(eM ws (k.map .whole) (k.map .whole)).run st=some (ids.map .whole)):
  Rb S (gA F f (xs,ws) n new) st/\(∀e,(gA F f (xs,ws) n new).run st=some e-> ∀y∈e.ws,S y.1):=by
 have s1: ∀b∈k,S b:=λb hb=>by have:=Qj h2 (.whole b) (gY.2 ⟨b,hb,rfl⟩);simp_all
 have s0: ∀b∈o,S b:=λb hb=>by have:=Qj h1 (.whole b) (gY.2 ⟨b,hb,rfl⟩);simp_all
 constructor
 ·unfold gA;simp only[h0];refine bS (jf s0) λa g=>?_;rw[h1]at g;injection g with g;subst g
  refine bS (jf s1) λa g=>?_;rw[h2]at g;injection g with g;subst g;split
  ·split
   all_goals grind [eQ,bS,yv,zp,cH]
  simp[eQ]
 intro e h y w;unfold gA at h;simp only[h0]at h;obtain⟨a,g,h⟩:=bind_some h;rw[h1]at g;injection g with g;subst g;obtain⟨a,g,h⟩:=bind_some h;rw[h2]at g;injection g with g;subst g;split at h;split at h;cases h;obtain⟨bl,_,h⟩:=bind_some h;split at h;cases h;split at h;rename_i hlen;split at h;rename_i v fresh _ hf;obtain⟨q,hb,h⟩:=bind_some h;injection h with h;grind [zs,ms];cases h;cases h;cases h
end
def tcR:TC->List Nat| .ptr b _=>[b]| .slr b=>[b]| .slo b _=>[b]| .ep b _ _=>[b]| .epo b _ _ _=>[b]| .pre b _=>[b]| .pro b _ _=>[b]| .suf b _=>[b]| .suo b _ _=>[b]|_=>[]
def tvR:TV->List Nat| .a (.c x)=>tcR x| .a (.m _ cs)=>cs.flatMap tcR|_=>[]
theorem JQZ(L:Nat->Nat)(x:TC):fV (bB L x)=tcR x:=by cases x<;>rfl
theorem lM(L:Nat->Nat)(v:TV):avR (JY L v)=tvR v:=by
 cases v with
 |a x=>
  cases x with
  |c x=>cases x<;>rfl
  |dt t x=>rfl
  |m t cs=>show(cs.map (bB L)).flatMap fV=cs.flatMap tcR;simp[List.flatMap_map,JQZ]
  |fn f a c=>rfl
 |tup vs=>rfl
def rng(new:Nat):Nat->List Nat|0=>[]|k+1=>new::rng (new+1) k
theorem sO: ∀{k new j:Nat},j<k->new+j∈rng new k
 |0,_,_,h=>by omega
 |k+1,new,j,h=>by
  cases j with
  |zero=>simp[rng]
  |succ j=>simp only[rng,cJ];right;rw[show new+(j+1)=new+1+j by omega];exact sO (by omega)
def hW{α β:Type}(m:Option α)(f:α->Option β):Option β:=match m with|some x=>f x|none=>none
theorem iK{α β:Type}{m:Option α}{f:α->Option β}{b:β}(h:hW m f=some b): ∃a,m=some a/\f a=some b:=by
 cases m with
 |none=>cases h
 |some a=>exact⟨a,rfl,h⟩
def rf(l:List (TV×Bool))(s:TSt):Option (List Nat):=LG l s λxs s1=>hW (GC xs []) λe=>hW (xL s1 e e) λi1=>xL s1 i1 i1
def tcU(l:List (TV×Bool))(n new:Nat)(s:TSt):Option (List Nat×List Nat):=hW (rf l s) λids=>some (rng new n++(l.flatMap λx=>tvR x.1)++ids,rng new n++(l.flatMap λx=>tvR x.1)++ids)
def tpR(s:TSt):List (Nat×TO)->Option (List Nat)|[]=>some []|(_,o)::r=>hW (tev o s) λv=>hW (tpR s r) λl=>some (tvR v++l)
def uw(op:TOp)(new:Nat)(s:TSt):Option (List Nat×List Nat):=
 match op with
 | .load _ _ x=>hW (tev x s) λv=>some (tvR v,[])
 | .newbox _=>some ([new],[new])
 | .store _ x y=>hW (tev x s) λv=>hW (tev y s) λu=>some (tvR v++tvR u,tvR v++tvR u)
 | .iaddr _ x _=>hW (tev x s) λv=>some (tvR v,[])
 | .lits own t n ps=>hW (tpR s ps) λl=>some (rng new (cE (.lits own t n ps))++l,rng new (cE (.lits own t n ps))++l)
 | .appn _ _ y=>hW (tev y s) λv=>some (new::tvR v,[new])
 | .app _ _ x y=>hW (tev x s) λv=>hW (tev y s) λu=>some (tvR v++tvR u,tvR v)
 | .psuf _ x y=>hW (tev x s) λv=>some (tvR v,[])
 | .slice _ x _ _ _=>hW (tev x s) λv=>some (tvR v,tvR v)
 | .call _ args n=>hW (wR (args.map λx=>(x,false)) s) λl=>tcU l n new s
 | .callo _ args n=>hW (wR args s) λl=>tcU l n new s
 | .mkslice own t bytes l c=>some (rng new (cE (.mkslice own t bytes l c)),rng new (cE (.mkslice own t bytes l c)))
 | .conv k x=>hW (tev x s) λv=>some (rng new (cE (.conv k x))++tvR v,rng new (cE (.conv k x)))
 |_=>none
theorem nL{F:Orc}{op:TOp}{new:Nat}{st:St}{S:Nat->Prop}(hd: ∀j,j<cE op->S (new+j))(h:Rb S (opR F (erp op) new) st):Rb S (opD F (erp op) new) st:=by
 grind [opD,MY,bS,Ph]
theorem nP{F:Orc}{op:AOp}{new:Nat}{st:St}{e:Eff}(h:(opD F op new).run st=some e):(opR F op new).run st=some e:=by unfold opD at h;obtain⟨_,_,h⟩:=bind_some h;exact h
def UW(F:Orc)(op:AOp)(new:Nat)(st:St)(U W:List Nat):Prop:=Rb (· ∈U) (opD F op new) st/\ ∀e,(opD F op new).run st=some e-> ∀y∈e.ws,y.1∈W
theorem lK{x:TO}{s:TSt}{v:TV}(h:tev x s=some v){a:AV}(ha:(ev (erO x)).run (JE s)=some a):a=JY (lns s.sto) v:=by
 grind [bT]
theorem Nz{l:List (TV×Bool)}{s:TSt}{ids:List Nat}(h:rf l s=some ids): ∃(xs:List AV) (ws:List (Nat×Blk)) (e i1:List Nat),(fO (l.map (·.2)) (l.map λx=>JY (lns s.sto) x.1)).run (JE s)=some (xs,ws)/\
  cV.entsOfL xs []=e.map .whole/\(eM ws (e.map .whole) (e.map .whole)).run (JE s)=some (i1.map .whole)/\(eM ws (i1.map .whole) (i1.map .whole)).run (JE s)=some (ids.map .whole):=by
 unfold rf at h;obtain⟨xs,s1,ws,h1,g,h⟩:=js (Fzd.refl s) h;rw[sA]at g;obtain⟨e,h2,h⟩:=iK h;obtain⟨i1,k,j⟩:=iK h;exact⟨_,ws,e,i1,h1,WM (lns s.sto) (l:=[]) h2,CB g k,CB g j⟩
theorem JMy{F:Orc}{f:FuncId}{vs:List AV}{n new:Nat}{st:St}{S:Nat->Prop}{a:List AV×List (Nat×Blk)}(ha:(lE vs).run st=some a)(hr:Rb S (lE vs) st)
  (h: ∀(_:Unit),Rb S (gA F f a n new) st):Rb S (iU F f vs n new) st:=by
 unfold iU;refine bS hr λa' g=>?_;rw[ha]at g;injection g with g;subst g;have h:=h ();unfold gA at h;intro b hb;refine h b ?_
 revert hb
 simp only[yP];intro hb;rcases zQ9.1 hb with hb|hb;grind;refine zQ9.2 (.inr ?_)
 revert hb
 cases(eM a.2 (cV.entsOfL a.1 []) (cV.entsOfL a.1 [])).run st with
 |none=>grind
 |some j=>
  simp only[cT,Option.getD_some,yP];intro hb;rcases zQ9.1 hb with hb|hb;grind;refine zQ9.2 (.inr ?_)
  revert hb
  cases(eM a.2 j j).run st with
  |none=>grind
  |some es=>
   simp only[cT,Option.getD_some];split;split;grind;simp only[yP];intro hb;rcases zQ9.1 hb with hb|hb;grind;refine zQ9.2 (.inr ?_)
   revert hb
   cases(lL a.2 (λe=>dS e es 0) es).run st<;>grind [RM.reads]
   grind
theorem JSt(F:Orc){op:TOp}{new:Nat}{s:TSt}{U W:List Nat}(h:uw op new s=some (U,W)):UW F (erp op) new (JE s) U W:=by
 unfold uw at h;split at h;rename_i agg t x;obtain⟨v,w,h⟩:=iK h;injection h with h;injection h with h1 h2;subst h1 h2;refine⟨nL (op:=.load agg t x) (λj A=>by grind [cE]) (bS (jH _) λa r=>?_),λe g y B=>?_⟩;rw[lK w r];grind [JOq,lM];have g:=nP g;simp only[erp,opR]at g;obtain⟨a,r,g⟩:=bind_some g;grind [JOe];rename_i t;injection h with h;injection h with h1 h2;subst h1 h2;refine⟨nL (op:=.newbox t) (λj A=>by grind [cE]) (cH _),λe g y B=>?_⟩;have g:=nP g;injection g with g;grind;rename_i t x y;obtain⟨v,w,h⟩:=iK h;obtain⟨u,E,h⟩:=iK h;injection h with h;injection h with h1 h2;subst h1 h2;refine⟨nL (op:=.store t x y) (λj A=>by grind [cE]) (bS (jH _) λa r=>bS (jH _) λc hc=>?_),λe g z D=>?_⟩;rw[lK w r,lK E hc];grind [JMv,lM];have g:=nP g;simp only[erp,opR]at g;obtain⟨a,r,g⟩:=bind_some g;obtain⟨c,hc,g⟩:=bind_some g;have:=JN8 g z D;rwa[lK w r,lK E hc,lM,lM]at this;rename_i t x i;obtain⟨v,w,h⟩:=iK h;injection h with h;injection h with h1 h2;subst h1 h2;refine⟨nL (op:=.iaddr t x i) (λj A=>by grind [cE]) (bS (jH _) λa r=>bS (jH _) λc hc=>?_),λe g y B=>?_⟩;rw[lK w r];grind [JKK,lM];have g:=nP g;simp only[erp,opR]at g;obtain⟨a,r,g⟩:=bind_some g;obtain⟨c,hc,g⟩:=bind_some g;grind [JN3];rename_i own t n ps;obtain⟨l,hl,h⟩:=iK h;injection h with h;injection h with h1 h2;subst h1 h2;have N: ∀x∈ps.map (λx=>erO x.2),∀v,(ev x).run (JE s)=some v-> ∀b∈avR v,b∈rng new (cE (.lits own t n ps))++l:=by
  have V: ∀(ps:List (Nat×TO)) (l:List Nat),tpR s ps=some l-> ∀x∈ps.map (λx=>erO x.2),∀v,(ev x).run (JE s)=some v-> ∀b∈avR v,b∈l:=by
   intro ps
   induction ps with
   |nil=>simp_all
   |cons p ps ih=>
    intro l hl x J v w b hb;obtain⟨i,o⟩:=p;simp only[tpR]at hl;obtain⟨u,E,hl⟩:=iK hl;obtain⟨q,hq,hl⟩:=iK hl;injection hl with hl;subst hl;simp only[bZ,cJ]at J;rcases J with rfl|J;rw[lK E w,lM]at hb;simp[hb];grind
  grind
 have H:(ps.map λx=>(x.1,erO x.2)).map (·.2)=ps.map λx=>erO x.2:=by simp
 refine⟨nL (op:=.lits own t n ps) (λj A=>zQ9.2 (.inl (sO A))) ?_,λe g y B=>?_⟩;grind [erp,opR,bS,Md,cH,eQ];have g:=nP g;simp only[erp,opR,H]at g;obtain⟨a,r,g⟩:=bind_some g;split at g;split at g;rename_i I;injection g with g;subst g;simp only[zQ9,eB]at B;rcases B with B|rfl;exact gg N r y B;exact zQ9.2 (.inl (by have:=sO (k:=cE (.lits own t n ps)) (new:=new) (j:=0) (by simp[cE,I]);grind));injection g with g;subst g;exact gg N r y B;cases g;rename_i t bytes y;obtain⟨v,w,h⟩:=iK h;injection h with h;injection h with h1 h2;subst h1 h2;refine⟨nL (op:=.appn t bytes y) (λj A=>by grind [cE]) (bS (jH _) λa r=>?_),λe g z D=>?_⟩;rw[lK w r];grind [bS,jh,lM,cH,eQ];have g:=nP g;simp only[erp,opR]at g;obtain⟨a,r,g⟩:=bind_some g;obtain⟨rows,_,g⟩:=bind_some g;split at g;injection g with g;grind;cases g;rename_i t bytes x y;obtain⟨v,w,h⟩:=iK h;obtain⟨u,E,h⟩:=iK h;injection h with h;injection h with h1 h2;subst h1 h2;refine⟨nL (op:=.app t bytes x y) (λj A=>by grind [cE]) (bS (jH _) λa r=>bS (jH _) λc hc=>?_),λe g z D=>?_⟩;rw[lK w r,lK E hc];grind [JRC,lM];have g:=nP g;simp only[erp,opR]at g;obtain⟨a,r,g⟩:=bind_some g;obtain⟨c,hc,g⟩:=bind_some g;have:=JQl g z D;rwa[lK w r,lM]at this;rename_i t x y;obtain⟨v,w,h⟩:=iK h;injection h with h;injection h with h1 h2;subst h1 h2;refine⟨nL (op:=.psuf t x y) (λj A=>by grind [cE]) (bS (jH _) λa r=>bS (jH _) λc hc=>?_),λe g z D=>?_⟩;rw[lK w r];simp[JRP,lM];have g:=nP g;simp only[erp,opR]at g;obtain⟨a,r,g⟩:=bind_some g;obtain⟨c,hc,g⟩:=bind_some g;grind [JQo];rename_i P x lo hi mx;obtain⟨v,w,h⟩:=iK h;injection h with h;injection h with h1 h2;subst h1 h2;refine⟨nL (op:=.slice P x lo hi mx) (λj A=>by grind [cE]) (bS (jH _) λa r=>bS (ul _) λ_ _=>bS (ul _) λ_ _=>bS (ul _) λ_ _=>?_),λe g z D=>?_⟩;have e:=lK w r;grind [bS,LB,lM,cH,eQ,Ml];have g:=nP g;simp only[erp,opR]at g;obtain⟨a,r,g⟩:=bind_some g;obtain⟨_,_,g⟩:=bind_some g;obtain⟨_,_,g⟩:=bind_some g;obtain⟨_,_,g⟩:=bind_some g;have Z:=lK w r;split at g;obtain⟨y,B,g⟩:=bind_some g;split at g;split at g;injection g with g;grind [KY,lM];cases g;cases g;grind [UC];rename_i f args n;obtain⟨l,hl,h⟩:=iK h;unfold tcU at h;obtain⟨ids,hi,h⟩:=iK h;injection h with h;injection h with h1 h2;subst h1 h2;obtain⟨xs,ws,R,i1,C,M,L,K⟩:=Nz hi;obtain⟨H,O⟩:=BO hl;rw[VR]at H;rw[OL _ _ (λx J=>by simp_all)]at C;have hA: ∀x∈l.map (λx=>JY (lns s.sto) x.1),∀b∈avR x,b∈rng new n++(l.flatMap λx=>tvR x.1)++ids:=(by grind [lM]);have Y:Rb (· ∈rng new n++(l.flatMap λx=>tvR x.1)++ids) (lE (l.map λx=>JY (lns s.sto) x.1)) (JE s):=by rw[<-WW];grind [NP]
 have G: ∀y∈ws,y.1∈rng new n++(l.flatMap λx=>tvR x.1)++ids:=by rw[<-WW]at C;exact NS (S:=(· ∈rng new n++(l.flatMap λx=>tvR x.1)++ids)) hA C
 obtain⟨Q,T⟩:=yl (F:=F) (f:=f) (S:=(· ∈rng new n++(l.flatMap λx=>tvR x.1)++ids)) (n:=n) (new:=new) (λb hb=>by simp[hb]) G
  (λj A=>by grind [sO]) M L K
 refine⟨nL (op:=.call f args n) (λj A=>by simp only[zQ9];exact .inl (.inl (sO A))) (bS (gv _) λa r=>?_),λe g y B=>?_⟩;grind [JMy];have g:=nP g;simp only[erp,opR]at g;obtain⟨a,r,g⟩:=bind_some g;grind [Nn];rename_i f args n;obtain⟨l,hl,h⟩:=iK h;unfold tcU at h;obtain⟨ids,hi,h⟩:=iK h;injection h with h;injection h with h1 h2;subst h1 h2;obtain⟨xs,ws,R,i1,C,M,L,K⟩:=Nz hi;obtain⟨H,O⟩:=BO hl;have hA: ∀x∈l.map (λx=>JY (lns s.sto) x.1),∀b∈avR x,b∈rng new n++(l.flatMap λx=>tvR x.1)++ids:=(by grind [lM]);rw[O]at C;have G: ∀y∈ws,y.1∈rng new n++(l.flatMap λx=>tvR x.1)++ids:=NS (S:=(· ∈rng new n++(l.flatMap λx=>tvR x.1)++ids)) hA C;obtain⟨Q,T⟩:=yl (F:=F) (f:=f) (S:=(· ∈rng new n++(l.flatMap λx=>tvR x.1)++ids)) (n:=n) (new:=new) (λb hb=>by simp[hb]) G
  (λj A=>by grind [sO]) M L K
 refine⟨nL (op:=.callo f args n) (λj A=>by simp only[zQ9];exact .inl (.inl (sO A))) (bS (gv _) λa r=>?_),λe g y B=>?_⟩;grind [bS,NP];have g:=nP g;simp only[erp,opR]at g;obtain⟨a,r,g⟩:=bind_some g;rw[H]at r;injection r with r;subst r;obtain⟨a,r,g⟩:=bind_some g;grind;rename_i own t bytes l c;injection h with h;injection h with h1 h2;subst h1 h2;refine⟨nL (op:=.mkslice own t bytes l c) (λj A=>sO A) (bS (jH _) λa r=>bS (jH _) λd hd=>?_),λe g y B=>?_⟩;grind [cH,eQ];have g:=nP g;simp only[erp,opR]at g;obtain⟨a,r,g⟩:=bind_some g;obtain⟨d,hd,g⟩:=bind_some g;split at g;split at g;split at g;rename_i I;injection g with g;subst g;simp only[eB]at B;subst B;have:=sO (k:=cE (.mkslice own t bytes l c)) (new:=new) (j:=0) (by simp[cE,I]);grind;injection g with g;grind;cases g;cases g;rename_i k x;obtain⟨v,w,h⟩:=iK h;injection h with h;injection h with h1 h2;subst h1 h2;refine⟨nL (op:=.conv k x) (λj A=>zQ9.2 (.inl (sO A))) (bS (jH _) λa r=>?_),λe g y B=>?_⟩;have hr: ∀b∈avR a,b∈rng new (cE (.conv k x))++tvR v:=λb hb=>by rw[lK w r,lM]at hb;simp[hb]
 grind [cH,bS,jh,eQ];have g:=nP g;simp only[erp,opR]at g;obtain⟨a,r,g⟩:=bind_some g;split at g;injection g with g;grind;injection g with g;grind;obtain⟨rows,_,g⟩:=bind_some g;split at g;injection g with g;grind;cases g;split at g;rename_i I;injection g with g;grind [cE,rng];injection g with g;grind;cases g;cases h
abbrev qE:=Option (List Nat×List Nat)
section
variable {R:Type}
def Hw(i:jW)(s:TSt):Bool:=match i.g with|none=>false|some (g,e)=>if i.dst=some g then false else match tlk g s.env with|some (.a (.c (.d .b x)))=>if x=e then false else true|some (.tup [])=>true|_=>false
def uwI(i:jW)(new:Nat)(s s':TSt):qE:=if Hw i s'=true then some ([],[])else uw i.op new s
def SX(G:TG):List jW->Nat->TSt->List qE->(TSt->List qE->Option R)->Option R|[],_,s,l,k=>k s l|i::r,new,s,l,k=>db G i new s λs'=>SX G r (new+cE i.op) s' (l++[uwI i new s s']) k
def uI:qE->(List Nat×List Nat)->Prop|none,_=>True|some (U,W),x=>(∀b∈x.1,b∈U)/\ ∀b∈x.2,b∈W
def RS(l:List qE):List (Nat×Nat)->Bool
 |[]=>true
 |(i,j)::r=>(match l[i]?,l[j]? with
  |some (some a),some (some b)=>gV a.2 b.1&&gV a.2 b.2&&gV a.1 b.2
  |_,_=>false)&&RS l r
theorem OE{b:Nat}: ∀{l:List Loc},b∈kM l->Loc.blk b∈l
 | .blk c::r,h=>by
  simp only[kM,cJ]at h;rcases h with rfl|h;simp;simp[OE h]
 | .slot n::r,h=>by simp only[kM]at h;simp[OE h]
theorem uI.snoc{l:List qE}{l0:Log}{x:qE}{y:List Nat×List Nat}(hl:l.length=l0.length)(ho: ∀(j:Nat) a b,l[j]?=some a->l0[j]?=some b->uI a b)(hx:uI x y)(j:Nat)(a:qE)(b:List Nat×List Nat)(ha:(l++[x])[j]?=some a)(hb:(l0++[y])[j]?=some b):uI a b:=by
 grind
theorem JP1{F:Orc}{i:jW}{new:Nat}{s s':TSt}{e:Eff}(h:(cB F (eri i) new).run (JE s)=some e)(hp:put i.dst e (JE s)=JE s'):uI (uwI i new s s') (kM ((cB F (eri i) new).reads (JE s)),e.ws.map (·.1)):=by
 unfold uwI;split;rename_i j;unfold Hw at j;split at j;cases j;rename_i g k B;split at j;cases j;rename_i hd;have r:lk g (JE s').env=lk g (JE s).env:=(by rw[<-hp];unfold put;grind [lk]);have n: ∀v,tlk g s'.env=some v->lk g (JE s).env=some (JY (lns s'.sto) v):=λv z=>by
  rw[<-r];show lk g (fZ _ s'.env)=_;grind [BM]
 split at j;rename_i x o;split at j;cases j;rename_i C;have hl:=n _ o;rw[e_b]at hl;have hi:cB F (eri i) new=.slot g fun
  | .p (.b x)=>if x=k then opD F (eri i).op new else .ret ⟨hH,[]⟩
  | .tup []=>.ret ⟨hH,[]⟩
  |_=>.fail:=by grind [cB,eri]
 rw[hi]at h⊢;refine⟨λb hb=>?_,λb hb=>?_⟩;have:=OE hb;grind [RM.reads];grind [yI,JW];rename_i o;have hl:=n _ o;have hl:lk g (JE s).env=some (.tup []):=hl;have hi:cB F (eri i) new=.slot g fun
  | .p (.b x)=>if x=k then opD F (eri i).op new else .ret ⟨hH,[]⟩
  | .tup []=>.ret ⟨hH,[]⟩
  |_=>.fail:=by grind [cB,eri]
 rw[hi]at h⊢;refine⟨λb hb=>?_,λb hb=>?_⟩;have:=OE hb;grind [RM.reads];grind [yI,JW];cases j
 ·cases hu:uw i.op new s with
  |none=>trivial
  |some q=>
   obtain⟨U,W⟩:=q;obtain⟨h1,h2⟩:=JSt F hu;have A:Rb (· ∈U) (cB F (eri i) new) (JE s):=by
    unfold cB;split;exact h1
    ·refine Pk λv z=>?_;split
     split;exact h1;simp[cH]
     all_goals simp[cH,eQ]
   refine⟨λb hb=>A b (OE hb),λb hb=>?_⟩;obtain⟨y,w,rfl⟩:=gY.1 hb;unfold cB at h;split at h;exact h2 e h y w;simp only[yI]at h;obtain⟨v,z,h⟩:=bU.1 h;split at h;split at h;exact h2 e h y w;injection h with h;grind;injection h with h;grind;cases h
theorem Qe{F:Orc}{G:TG}(v:GOk F G): ∀{ins:List jW} {new:Nat} {s:TSt} {l:List qE} {l0:Log} {k:TSt->List qE->Option R} {r:R},l.length=l0.length->(∀(j:Nat) a b,l[j]?=some a->l0[j]?=some b->uI a b)->
  SX G ins new s l k=some r-> ∃s' n g,kJ F (ins.map eri) new (JE s) l0=some (JE s',n)/\k s' g=some r/\g.length=n.length/\ ∀(j:Nat) a b,g[j]?=some a->n[j]?=some b->uI a b
 |[],new,s,l,l0,k,r,hl,o,h=>⟨s,l0,l,rfl,h,hl,o⟩
 |i::q,new,s,l,l0,k,r,hl,o,h=>by
  simp only[SX]at h;obtain⟨e,s1,h1,h2,h⟩:=Pd v h;obtain⟨w,n,g,A,y,z,x⟩:=Qe v (l0:=l0++[(kM ((cB F (eri i) new).reads (JE s)),e.ws.map (·.1))]) (by grind) (uI.snoc hl o (JP1 h1 h2)) h;refine⟨w,n,g,?_,y,z,x⟩;grind [kJ,eri,MY]
theorem ka{a b a' e:List Nat}(h:gV a' e=true)(ha: ∀x∈a,x∈a')(hb: ∀x∈b,x∈e):gV a b=true:=by
 grind [gV]
theorem P7{l:List qE}{e:Log}(hl:l.length=e.length)(ho: ∀(j:Nat) a b,l[j]?=some a->e[j]?=some b->uI a b): ∀{ps:List (Nat×Nat)},RS l ps=true->GM e ps=true
 |[],_=>rfl
 |(i,j)::r,h=>by
  simp only[RS,aV]at h;obtain⟨h1,h2⟩:=h;simp only[GM,aV];refine⟨?_,P7 hl ho h2⟩;split at h1;rename_i a b o hb;have hi:i<e.length:=by grind
  have n:j<e.length:=by grind
  have g:=ho i _ _ o (bA hi);have k:=ho j _ _ hb (bA n);rw[bA hi,bA n];simp only[aV]at h1⊢;exact⟨⟨ka h1.1.1 g.2 k.1,ka h1.1.2 g.2 k.2⟩,ka h1.2 g.1 k.2⟩;cases h1
def rk(G:TG)(pairs:List (Nat×Nat))(ins:List jW)(s:TSt)(k:TSt->Option R):Option R:=
 match pairs with
 |[]=>dz G ins s.sto.length (SB (LL ins) s) k
 |p::ps=>SX G ins s.sto.length (SB (LL ins) s) [] λs' l=>if RS l (p::ps)=true then k s' else none
theorem JP9{F:Orc}{G:TG}(e:GOk F G){pairs:List (Nat×Nat)}{ins:List jW}{s:TSt}{k:TSt->Option R}{r:R}(h:rk G pairs ins s k=some r): ∃s',region F pairs (ins.map eri) (JE s)=some (JE s')/\k s'=some r:=by
 have hlen:(JE s).sto.length=s.sto.length:=by simp[JE]
 unfold rk at h;split at h;grind [Ns,region,kb,Qo];obtain⟨s',o,n,h1,h2,v,q⟩:=Qe e (l0:=[]) rfl (λj a b g hb=>by simp at g) h;grind [region,kb,Qo,P7]
end
end Go.Am
end
section
namespace Go.Am
def wV(m:Nat)(ids:List Nat)(s:TSt):TC->Option TC
 | .ptr b p=>if b<m then some (.ptr b p)else match eW b ids m with|some k=>some (.ptr k p)|none=>match s.sto[b]? with|some (.box t x)=>some (.cp t x p)|_=>none
 | .slr b=>if b<m then some (.slr b)else match eW b ids m with|some k=>some (.slr k)|none=>match s.sto[b]? with|some (.arr _ t rows)=>some (.d (.l t) rows)|_=>none
 | .slo b n=>if b<m then some (.slo b n)else match eW b ids m with|some k=>some (.slo k n)|none=>none
 | .ep b i p=>if b<m then some (.ep b i p)else match eW b ids m with|some k=>some (.ep k i p)|none=>none
 | .epo b e i p=>if b<m then some (.epo b e i p)else match eW b ids m with|some k=>some (.epo k e i p)|none=>none
 | .pre _ _=>none
 | .pro _ _ _=>none
 | .suf _ _=>none
 | .suo _ _ _=>none
 |x=>some x
def AP(m:Nat)(ids:List Nat)(s:TSt):List TC->Option (List TC)|[]=>some []|x::r=>match wV m ids s x,AP m ids s r with|some y,some l=>some (y::l)|_,_=>none
def FB(m:Nat)(ids:List Nat)(s:TSt):TA->Option TA
 | .c x=>match wV m ids s x with|some y=>some (.c y)|none=>none
 | .dt t x=>some (.dt t x)
 | .m t cs=>match AP m ids s cs with
  |some l=>match asm t l with|some x=>some (.dt t x)|none=>if l.any da=true then some (.m t l)else none
  |none=>none
 | .fn f a c=>match AP m ids s a,AP m ids s c with|some a,some c=>some (.fn f a c)|_,_=>none
def MK(m:Nat)(ids:List Nat)(s:TSt):List TA->Option (List TA)|[]=>some []|x::r=>match FB m ids s x,MK m ids s r with|some y,some l=>some (y::l)|_,_=>none
def sy(m:Nat)(ids:List Nat)(s:TSt):TV->Option TV
 | .a x=>match FB m ids s x with|some y=>some (.a y)|none=>none
 | .tup vs=>match MK m ids s vs with|some l=>some (.tup l)|none=>none
def LN(m:Nat)(ids:List Nat)(s:TSt):TB->Option TB
 | .mbox t cs=>match AP m ids s cs with|some l=>some (mkb t l)|none=>none
 |x=>some x
def xQ(m:Nat)(ids:List Nat)(s:TSt):List TB->Option (List TB)|[]=>some []|x::r=>match LN m ids s x,xQ m ids s r with|some y,some l=>some (y::l)|_,_=>none
def SL(m:Nat)(s:TSt):List (Nat×TV)->Option (List (Nat×TV))|[]=>some []|(k,x)::r=>match sy m [] s x,SL m s r with|some y,some l=>some ((k,y)::l)|_,_=>none
def rB:List Nat->List (Nat×TV)->List (Nat×TV)|[],_=>[]|k::r,env=>match tlk k env with|some v=>(k,v)::rB r env|none=>rB r env
theorem OA(L:Nat->Nat)(env:List (Nat×TV)): ∀live:List Nat,restr live (fZ L env)=fZ L (rB live env)
 |[]=>rfl
 |k::r=>by
  simp only[restr,rB,BM];cases tlk k env with
  |none=>exact OA L env r
  |some v=>
   have ih:=OA L env r;grind [fZ]
section
variable {m:Nat} {ids:List Nat} {s:TSt} {L':Nat->Nat} (h1: ∀b,b<m->L' b=lns s.sto b) (h2: ∀b k,eW b ids m=some k->L' k=lns s.sto b)
include h1 h2
theorem w4{x y:TC}(h:wV m ids s x=some y):fin m ids (JE s).sto (bB (lns s.sto) x)=some (bB L' y):=by
 cases x with
 |ptr b p=>
  simp only[wV]at h;simp only[bB,fin];split at h;grind;rename_i hb;rw[if_neg hb];split at h;grind [bB];rename_i j;rw[j];dsimp only;split at h;rename_i t x g;injection h with h;subst h;simp only[dZ,g,cT,BI,GT,bB];cases h
 |slr b=>
  simp only[wV]at h;simp only[bB,fin];split at h;grind
  ·rename_i hb;rw[if_neg hb];split at h
   all_goals grind [dZ,u9,iG,cel,hdP]
 |slo b n=>
  grind [wV,bB,fin]
 |ep b i p=>
  grind [wV,bB,fin]
 |epo b e i p=>
  grind [wV,bB,fin]
 |_=>first|(cases h;done)|(injection h with h;subst h;rfl)
theorem VP: ∀{xs e:List TC},AP m ids s xs=some e->fin.finL m ids (JE s).sto (xs.map (bB (lns s.sto)))=some (e.map (bB L'))
 |[],e,h=>by injection h with h;subst h;rfl
 |x::r,e,h=>by
  simp only[AP]at h;split at h;rename_i y l g hl;injection h with h;subst h;simp only[bZ,fin.finL,w4 h1 h2 g,VP hl];cases h
theorem P5{x y:TA}(h:FB m ids s x=some y):fin m ids (JE s).sto (bR (lns s.sto) x)=some (bR L' y):=by
 cases x with
 |c x=>
  simp only[FB]at h;split at h;rename_i y g;injection h with h;subst h;exact w4 h1 h2 g;cases h
 |dt t x=>injection h with h;subst h;rfl
 |m t cs=>
  simp only[FB]at h;split at h;rename_i l hl;have e:=VP h1 h2 hl;grind [bR,fin,MU,GT,g7];cases h
 |fn f a c=>
  grind [FB,bR,fin,VP]
theorem mg: ∀{xs e:List TA},MK m ids s xs=some e->fin.finL m ids (JE s).sto (xs.map (bR (lns s.sto)))=some (e.map (bR L'))
 |[],e,h=>by injection h with h;subst h;rfl
 |x::r,e,h=>by
  simp only[MK]at h;split at h;rename_i y l g hl;injection h with h;subst h;simp only[bZ,fin.finL,P5 h1 h2 g,mg hl];cases h
theorem JMa{x y:TV}(h:sy m ids s x=some y):fin m ids (JE s).sto (JY (lns s.sto) x)=some (JY L' y):=by cases x<;>grind [sy,P5,JY,fin,mg]
theorem JL2{x y:TB}(h:LN m ids s x=some y):gL m ids (JE s).sto (aZ (lns s.sto) x)=some (aZ L' y):=by
 cases x with
 |mbox t cs=>
  grind [LN,NL,gL,VP,VA]
 |box t x=>injection h with h;grind [BI,gL,y1]
 |_=>injection h with h;subst h;rfl
theorem WG: ∀{xs e:List TB},xQ m ids s xs=some e->sC m ids (JE s).sto (xs.map (aZ (lns s.sto)))=some (e.map (aZ L'))
 |[],e,h=>by injection h with h;subst h;rfl
 |x::r,e,h=>by
  simp only[xQ]at h;split at h;rename_i y l g hl;injection h with h;subst h;simp only[bZ,sC,JL2 h1 h2 g,WG hl];cases h
end
theorem JJX{m:Nat}{ids:List Nat}{s:TSt}{x y:TB}(h:LN m ids s x=some y):lnB y=lnB x:=by
 cases x with
 |mbox t cs=>
  simp only[LN]at h;split at h;injection h with h;subst h;exact UQ _ _;cases h
 |_=>injection h with h;subst h;rfl
theorem WV{m:Nat}{ids:List Nat}{s:TSt}: ∀{xs e:List TB},xQ m ids s xs=some e->e.length=xs.length/\ ∀(k:Nat),lns e k=lns xs k
 |[],e,h=>by injection h with h;simp_all
 |x::r,e,h=>by
  simp only[xQ]at h;split at h;rename_i y l g hl;injection h with h;subst h;obtain⟨j,n⟩:=WV hl;refine⟨by simp[j],λk=>?_⟩;cases k with
  |zero=>exact JJX g
  |succ k=>exact n k
  cases h
theorem Pq{m:Nat}{s:TSt}{L':Nat->Nat}(h1: ∀b,b<m->L' b=lns s.sto b): ∀{env e:List (Nat×TV)},SL m s env=some e->wF m (JE s).sto (fZ (lns s.sto) env)=some (fZ L' e)
 |[],e,h=>by injection h with h;subst h;rfl
 |(k,x)::r,e,h=>by
  simp only[SL]at h;split at h;rename_i y l g hl;injection h with h;subst h;simp only[fZ,bZ,wF];rw[JMa (ids:=[]) h1 (λb k hk=>by cases hk) g];have ih:=Pq h1 hl;grind [fZ];cases h
def sM(n:Nat)(live:List Nat)(s:TSt):Option TSt:=
 if s.sto.length=n then some ⟨rB live s.env,s.sto⟩
 else match SL n s (rB live s.env),xQ n [] s (s.sto.take n)with|some e,some l=>some ⟨e,l⟩|_,_=>none
theorem GV{n:Nat}{live:List Nat}{s s':TSt}(h:sM n live s=some s'):clean n live (JE s)=some (JE s'):=by
 unfold sM at h;have hlen:(JE s).sto.length=s.sto.length:=by simp[JE]
 split at h;grind [clean,JE,OA];rename_i g;split at h;rename_i e l j hl;injection h with h;subst h;obtain⟨o,v⟩:=WV hl;have hL: ∀b,b<n->lns l b=lns s.sto b:=λb hb=>by
  grind [lns]
 unfold clean;rw[hlen,if_neg g];have r:=Pq hL j;have q:=WG (ids:=[]) hL (λb k hk=>by cases hk) hl;grind [JE,OA,List.map_take];cases h
inductive AG where|tmp (t:Nat)|cell (t:Nat) (agg:Bool) (ty:Ty)
def erR:AG->wG| .tmp t=>.tmp t| .cell t agg ty=>.cell t agg ty.sz
def ua(agg:Bool)(ty:Ty)(v:TV)(s:TSt):Option TA:=
 if agg=true\/ty.sz=1 then
  match v with
  | .a (.c (.ptr b []))=>match s.sto[b]? with
   |some (.box e x)=>if h:e=ty then(if agg=true then some (.dt ty (h▸x))else some (.c (.d ty (h▸x))))else none
   |some (.mbox _ cs)=>if cs.length=ty.sz then
    match mka agg ty cs with
    |some (.a x)=>some x
    |_=>none
    else none
   |_=>none
  |_=>none
 else none
theorem JL1{agg:Bool}{ty:Ty}{v:TV}{s:TSt}{x:TA}(h:ua agg ty v s=some x): ∃e,(gZ agg ty.sz (JY (lns s.sto) v)).run (JE s)=some e/\e.val=bR (lns s.sto) x:=by
 unfold ua at h;split at h;rename_i r;split at h;rename_i b;split at h;rename_i g y hb;split at h;rename_i k;subst k;refine⟨⟨bR (lns s.sto) x,[]⟩,?_,rfl⟩;have hc:lO agg ((cel g y).map .p)=pM agg (cel g y):=by
  unfold lO pM;split;rw[GT];cases hcel:cel g y with
  |nil=>rfl
  |cons a l=>cases l<;>rfl
 have j:sub (cel g y) 0 g.sz=some (cel g y):=g0 (eP _ _);have q:=FY (lns s.sto) r y;simp only[kY,spo,gZ,dU,dZ,hb,cT,Jy,BI,GO,j,hc,q,val,JW];unfold mkv;split at h;rename_i h1;injection h with h;subst h;rw[if_pos h1];rfl;rename_i h1;injection h with h;subst h;rw[if_neg h1];rfl;cases h;rename_i cs hb;split at h;rename_i o;split at h;rename_i y n;injection h with h;subst h;have j:sub cs 0 ty.sz=some cs:=g0 o;refine⟨⟨bR (lns s.sto) y,[]⟩,?_,rfl⟩;simp only[kY,spo,gZ,dU,dZ,hb,cT,Jy,NL,GO,j,FS (lns s.sto) n,val,JW];rfl;cases h;cases h;cases h;cases h;cases h
def EJ:List AG->TSt->Option (List TA)
 |[],_=>some []
 | .tmp t::r,s=>match tlk t s.env,EJ r s with|some (.a x),some l=>some (x::l)|_,_=>none
 | .cell t agg ty::r,s=>match tlk t s.env with
  |some v=>match ua agg ty v s,EJ r s with|some x,some l=>some (x::l)|_,_=>none
  |none=>none
theorem Nb(s:TSt)(t:Nat):(RM.slot t RM.ret).run (JE s)=(tlk t s.env).map (JY (lns s.sto)):=by rw[yI];show(lk t (fZ _ s.env)).bind _=_;simp[BM]
theorem im{s:TSt}: ∀{j:List AG} {l:List TA},EJ j s=some l->(oV (j.map erR)).run (JE s)=some (l.map (bR (lns s.sto)))
 |[],l,h=>by injection h with h;subst h;rfl
 | .tmp t::r,l,h=>by
  simp only[EJ]at h;split at h;rename_i x k g hl;injection h with h;subst h;simp only[bZ,erR,oV,run_bind,Nb,g,cT,Jy,im hl,JW];rfl;cases h
 | .cell t agg ty::r,l,h=>by
  simp only[EJ]at h;split at h;rename_i v n;split at h;rename_i x k g hl;injection h with h;subst h;obtain⟨e,o,q⟩:=JL1 g;simp only[bZ,erR,oV,run_bind,Nb,n,cT,Jy,o,im hl,JW,q];cases h;cases h
def LS(s:TSt):List Nat->List Nat->Option (List Nat)
 |[],acc=>some acc
 |b::r,acc=>match s.sto[b]? with
  |some (.mbox _ cs)=>match xC cs acc with|some acc=>LS s r acc|none=>none
  |some _=>LS s r acc
  |none=>none
theorem VI{s:TSt}: ∀{r acc l:List Nat},LS s r acc=some l->sD (JE s).sto (r.map .whole) (acc.map .whole)=l.map .whole
 |[],acc,l,h=>by injection h with h;subst h;rfl
 |b::r,acc,l,h=>by
  simp only[LS]at h;split at h;rename_i cs hb;split at h;rename_i e g;simp only[bZ,sD,dZ,hb,cT,NL,NT (lns s.sto) g];exact VI h;cases h;rename_i x j hb;simp only[bZ,sD,dZ,hb,cT];cases x with
  |mbox t cs=>simp_all
  |box t x=>simp only[BI];rw[yu];exact VI h
  |_=>exact VI h
  cases h
def mG(m:Nat)(fresh:Bool)(s:TSt):List Nat->List Nat
 |[]=>[]
 |b::r=>if b<m then mG m fresh s r else
  match s.sto[b]? with
  |some (.box _ _)=>b::mG m fresh s r
  |some (.mbox _ _)=>b::mG m fresh s r
  |some (.arr _ _ _)=>if fresh=true then b::mG m fresh s r else mG m fresh s r
  |_=>mG m fresh s r
theorem Ak{m:Nat}{fresh:Bool}{s:TSt}: ∀r:List Nat,kN m fresh (JE s).sto (r.map .whole)=mG m fresh s r
 |[]=>rfl
 |b::r=>by
  simp only[bZ,kN,mG,dZ];rw[Ak r];split;rfl;cases s.sto[b]? with
  |none=>rfl
  |some x=>cases x<;>rfl
def TD(s:TSt):List Nat->Option (List TB)|[]=>some []|b::r=>match s.sto[b]?,TD s r with|some x,some l=>some (x::l)|_,_=>none
theorem Py{s:TSt}: ∀{ids:List Nat} {l:List TB},TD s ids=some l->xN (JE s).sto ids=some (l.map (aZ (lns s.sto)))/\l.length=ids.length/\ ∀(j b:Nat),ids[j]?=some b->lns l j=lns s.sto b
 |[],l,h=>by injection h with h;simp_all
 |b::r,l,h=>by
  simp only[TD]at h;split at h;rename_i x e o hl;injection h with h;subst h;obtain⟨g,n,k⟩:=Py hl;grind [xN,dZ,lns];cases h
def OU:List TA->TV|[x]=>.a x|l=>.tup l
theorem Pf(L:Nat->Nat)(l:List TA):one (l.map (bR L))=JY L (OU l):=by
 match l with
 |[]=>rfl
 |[x]=>rfl
 |x::y::r=>rfl
section
variable {R:Type}
def NN(res:List AG)(fresh:Bool)(m:Nat)(s:TSt)(E:TV->List TB->Option R):Option R:=
 match EJ res s with
 |none=>none
 |some vs=>
  if s.sto.length=m then E (OU vs) s.sto
  else match GC vs []with
   |none=>none
   |some e=>match LS s e e with
    |none=>none
    |some i1=>if kI (mG m fresh s i1)=true/\m<=s.sto.length then
     match MK m (mG m fresh s i1) s vs,xQ m (mG m fresh s i1) s (s.sto.take m),TD s (mG m fresh s i1)with
     |some ws,some l,some q=>match xQ m (mG m fresh s i1) s q with|some q'=>E (OU ws) (l++q')|none=>none
     |_,_,_=>none
     else none
theorem JIt{f:AFn}{res:List AG}{fresh:Bool}{m:Nat}{s:TSt}{E:TV->List TB->Option R}{r:R}(n:f.res=res.map erR)(H:f.fresh=fresh)(h:NN res fresh m s E=some r):
  ∃v out,iF f m (JE s)=some (JY (lns out) v,out.map (aZ (lns out)))/\E v out=some r:=by
 unfold NN at h;have hlen:(JE s).sto.length=s.sto.length:=by simp[JE]
 split at h;cases h;rename_i vs hvs;have z:=im hvs;split at h;rename_i y;refine⟨OU vs,s.sto,?_,h⟩;unfold iF;rw[n,z];dsimp only;rw[hlen,if_pos y,Pf];rfl;rename_i y;split at h;cases h;rename_i B x;split at h;cases h;rename_i i1 o;split at h;rename_i j;obtain⟨J,W⟩:=j;generalize g:mG m fresh s i1=ids at*;split at h;rename_i ws l q w hl D;split at h;rename_i q' e;refine⟨OU ws,l++q',?_,h⟩;obtain⟨T,C⟩:=WV hl;obtain⟨P,M,K⟩:=Py D;obtain⟨N,Q⟩:=WV e;have G:l.length=m:=by simp_all
 have h1: ∀b,b<m->lns (l++q') b=lns s.sto b:=λb hb=>by
  have:=C b;grind [lns]
 have h2: ∀b k,eW b ids m=some k->lns (l++q') k=lns s.sto b:=λb k hk=>by
  obtain⟨I,F⟩:=WH hk;grind [lns]
 have Y:=mg h1 h2 w;have V:=WG h1 h2 hl;have S:=WG h1 h2 e;have U:cV.entsOfL (vs.map (bR (lns s.sto))) []=B.map .whole:=WM (lns s.sto) (l:=[]) x;have L:=VI o;have A:=Ak (m:=m) (fresh:=fresh) (s:=s) i1;rw[g]at A;have O:(JE s).sto.take m=(s.sto.take m).map (aZ (lns s.sto)):=by simp[JE]
 grind [iF,Pf];cases h;cases h;cases h
end
end Go.Am
end
