/-
  Parts of a proof.
-/
import Derived.Orders
import Derived.LoopN
import Derived.Scope
import Derived.Below
import Derived.Test.YtfedfekakecnfaaGreatM1
set_option linter.unusedSimpArgs false
set_option linter.unusedVariables false
section
namespace Go.Am
def nT(s1:Sn)(es:List Ent)(new:Nat)(σ2:List Blk)(k:Nat)(y:Blk):Prop:=
 match es[k]? with
 |some (.whole b)=>(∃cs l,y=.box cs/\bk.bkL es new cs=some l/\σ2[b]?=some (.box l))\/(∃w esz rows,y=.arr w esz rows/\σ2[b]?=some (.arr w esz rows))
 |some (.elem b _ i)=> ∃w esz rows e,s1.σ[b]?=some (.arr w esz rows)/\y=.box (e.map .p)/\σ2[b]?=some (.arr w esz (rows.set i e))
 |none=>(∃cs l,y=.box cs/\bk.bkL es new cs=some l/\σ2[new+(k-es.length)]?=some (.box l))\/(∃w esz rows,y=.arr w esz rows/\σ2[new+(k-es.length)]?=some (.arr w esz rows))
structure Bv(s1:Sn)(es:List Ent)(blks:List Blk)(new kf:Nat)(c':Sn)(σ2:List Blk):Prop where
 cin:WS s1 es blks
 inv:Inv c'
 trans:aW (gR s1 es blks) c'
 len:c'.σ.length=es.length+kf
 slen:σ2.length=s1.σ.length
 dead: ∀j,j<kf->s1.σ[new+j]?=some .dead
 out: ∀k y,c'.σ[k]?=some y->nT s1 es new σ2 k y
 same: ∀b,b∉es.map Ent.id->(b<new\/new+kf<=b)->σ2[b]?=s1.σ[b]?
def kOf(es:List Ent)(new kf b:Nat):Option Nat:=
 match cW (.whole b) es 0 with
 |some k=>some k
 |none=>if new<=b/\b<new+kf/\b∉es.map Ent.id then some (es.length+(b-new))else none
def eX(s1:Sn)(es:List Ent)(new kf:Nat)(c':Sn)(σ2:List Blk):Sn:=
 ⟨σ2,⟨λb=>match kOf es new kf b with
  |some k=>c'.g.μ k
  |none=>s1.g.μ b,c'.g.C⟩,c'.w⟩
theorem qk{e:Ent}: ∀{es:List Ent} {k:Nat},cW e es k=none->e∉es
 |[],k,_=>by simp
 |x::r,k,h=>by
  simp only[cW]at h;split at h;cases h;rename_i g;simp only[dZ,not_or];exact⟨λe=>g e.symm,qk h⟩
section
variable {s1 c':Sn} {es:List Ent} {blks σ2:List Blk} {new kf:Nat} (h:Bv s1 es blks new kf c' σ2)
theorem MO{k:Nat}{e:Ent}(he:es[k]?=some e):e.id∈es.map Ent.id:=iV.2 ⟨e,fZ he,rfl⟩
include h in
theorem BY{e g:Nat}{e1 e2:Ent}(h1:es[e]?=some e1)(h2:es[g]?=some e2)(he:e1.id=e2.id):e=g:=
 OQ h.cin.nodup (x:=e1.id) (by simp_all) (by simp_all)
include h in
theorem JHZ{k:Nat}{e:Ent}(he:es[k]?=some e): ∃y,s1.σ[e.id]?=some y/\y≠.dead:=by
 obtain⟨x,_,g⟩:=pW h.cin he;cases e with
 |whole b=>
  rcases g with⟨cs',l,h1,h2,rfl⟩|⟨w,j,rows',h1,rfl⟩;exact⟨_,h1,by simp⟩;exact⟨_,h1,by simp⟩
 |elem b ext i=>obtain⟨j,rows',row,h1,h2,n,rfl⟩:=g;exact⟨_,h1,by simp⟩
include h in
theorem JFn{j:Nat}(hj:j<kf):new+j∉es.map Ent.id:=by intro n;obtain⟨e,q,g⟩:=iV.1 n;obtain⟨k,o⟩:=kQ q;obtain⟨y,r,v⟩:=JHZ h o;rw[g,h.dead j hj]at r;simp_all
include h in
theorem JDU{k b:Nat}(he:es[k]?=some (.whole b)):kOf es new kf b=some k:=by
 unfold kOf;cases hc:cW (.whole b) es 0 with
 |none=>exact absurd (fZ he) (qk hc)
 |some g=>
  obtain⟨_,e⟩:=vB hc;grind [BY]
include h in
theorem JH6{k b e i:Nat}(he:es[k]?=some (.elem b e i)):kOf es new kf b=none:=by
 unfold kOf;cases hc:cW (.whole b) es 0 with
 |some j=>obtain⟨_,g⟩:=vB hc;simp only[tO]at g;have:=BY h g he rfl;simp_all
 |none=>have:b∈es.map Ent.id:=MO he;simp[this]
include h in
theorem JEc{j:Nat}(hj:j<kf):kOf es new kf (new+j)=some (es.length+j):=by
 unfold kOf;have g:=JFn h hj;cases hc:cW (.whole (new+j)) es 0 with
 |some k=>obtain⟨_,e⟩:=vB hc;simp only[tO]at e;exact absurd (MO e) g
 |none=>simp_all
theorem OU{b:Nat}(h1:b∉es.map Ent.id)(h2:b<new\/new+kf<=b):kOf es new kf b=none:=by
 unfold kOf;cases hc:cW (.whole b) es 0 with
 |some g=>obtain⟨_,e⟩:=vB hc;simp only[tO]at e;exact absurd (MO e) h1
 |none=>
  grind
def tgt(es:List Ent)(new k:Nat):Nat:=match es[k]? with|some e=>e.id|none=>new+(k-es.length)
include h in
theorem mK{k:Nat}(hk:k<es.length+kf)(j: ∀b e i,es[k]?≠some (.elem b e i)):(eX s1 es new kf c' σ2).g.μ (tgt es new k)=c'.g.μ k:=by
 simp only[eX,tgt];cases he:es[k]? with
 |some e=>
  cases e with
  |whole b=>simp only[Ent.id];rw[JDU h he]
  |elem b e i=>simp_all
 |none=>
  grind [JEc]
include h in
theorem CR{k b ext i:Nat}(he:es[k]?=some (.elem b ext i)): ∃esz rows row r j,s1.σ[b]?=some (.arr true esz rows)/\ext=rows.length/\rows[i]?=some row/\s1.g.μ b=some (r,0)/\
  c'.σ[k]?=some (.box (j.map .p))/\j.length=row.length/\row.length=esz/\c'.g.μ k=some (r,i*esz)/\σ2[b]?=some (.arr true esz (rows.set i j))/\(eX s1 es new kf c' σ2).g.μ b=some (r,0):=by
 obtain⟨x,B,q⟩:=pW h.cin he;obtain⟨esz,rows,row,h1,h2,A,rfl⟩:=q;have D:=Jq A;rcases h.cin.inv.arr _ _ _ _ h1 with⟨C,L⟩|⟨r,c,e,fz,C,K,y,J,F,E⟩;simp_all;obtain⟨⟨cs',z,M⟩,I⟩:=h.trans.box k _ B;have o:=h.out k _ z;unfold nT at o;rw[he]at o;obtain⟨w,v,rows',j,n,G,H⟩:=o;rw[h1]at n;injection n with n;injection n with a1 a2 a3;subst a1 a2 a3;grind [OX,eX,JH6]
include h in
theorem Da{x y:AV}{v:Value}(hr:JD c' x v):bk es new x=some y->JD (eX s1 es new kf c' σ2) y v:=by
 have G: ∀{k:Nat} {z:Blk},c'.σ[k]?=some z->k<es.length+kf:=λhz=>by rw[<-h.len];grind
 induction hr generalizing y with
 |p c v hp=>intro j;simp[bk]at j;subst j;exact .p _ _ hp
 |data cs vs h1 h2=>intro j;simp[bk]at j;subst j;exact .data _ _ h1 h2
 |cp cs off r o vals p1 W=>intro j;simp[bk]at j;subst j;exact .cp cs off r o vals p1 W
 |unk x=>intro j;simp[bk]at j;subst j;exact .unk x
 |pre=>intro j;simp[bk]at j
 |agg cs vs h1 K h2 ih=>
  intro j;simp only[bk]at j;split at j;rename_i l R;injection j with j;subst j;obtain⟨U,T⟩:=sB R;refine .agg _ _ (by omega) K λi y v Q H=>?_;grind [Jq];cases j
 |tup cs vs h1 h2 ih=>
  intro j;simp only[bk]at j;split at j;rename_i l R;injection j with j;subst j;obtain⟨U,T⟩:=sB R;refine .tup _ _ (by omega) λi y v Q H=>?_;grind [Jq];cases j
 |ptr k off r o hm B=>
  intro j;obtain⟨cs,B⟩:=B;have F:=G B;have D:=h.out k _ B;unfold nT at D;simp only[bk]at j;split at j;rename_i I;have aa:es[k]?=some es[k]:=aQ I;split at j;rename_i b A;injection j with j;subst j;have C:=mK h F (by rw[A];simp);simp only[tgt,A,Ent.id]at C;rw[A]at D;rcases D with⟨cs',l,E,M,S⟩|⟨w,esz,rows,E,M⟩;exact .ptr b off r o (by simp_all) ⟨l,S⟩;cases E;rename_i b e i A;injection j with j;subst j;obtain⟨esz,rows,row,r',O,f1,Y,f3,f4,f5,f6,f7,L,Z,V⟩:=CR h A;rw[hm]at L;injection L with L;injection L with g1 g2;subst g1 g2;exact .ep b e i off _ true esz (rows.set i O) ⟨_,_,rfl⟩ Z (by simp[Y]) λ_ _=>⟨r,V,rfl⟩;cases j;rename_i N;injection j with j;subst j;have A:es[k]?=none:=nR (by omega);have C:=mK h F (by rw[A];simp);simp only[tgt,A]at C;rw[A]at D;rcases D with⟨cs',l,E,M,S⟩|⟨w,esz,rows,E,M⟩;exact .ptr _ off r o (by simp_all) ⟨l,S⟩;cases E
 |slr k i n v wm esz rows K B J H=>
  intro j;have F:=G B;have D:=h.out k _ B;unfold nT at D;have go: ∀b,(eX s1 es new kf c' σ2).g.μ b=c'.g.μ k->σ2[b]?=some (.arr wm esz rows)->JD (eX s1 es new kf c' σ2) (.slr b i n) v:=(by intro b C P;refine .slr b i n v wm esz rows K P J λe=>?_;rcases H e with⟨m',q1,q2,q3⟩|⟨r,cap,c,E,fz,m',q⟩;exact .inl ⟨by simp_all,q1,q2,q3⟩;exact .inr ⟨r,cap,c,E,fz,by simp_all,q⟩);simp only[bk]at j;split at j;rename_i I;split at j;rename_i b A;injection j with j;subst j;have C:=mK h F (by rw[A];simp);grind [tgt,Ent.id];cases j;rename_i N;injection j with j;subst j;have A:es[k]?=none:=nR (by omega);have C:=mK h F (by rw[A];simp);grind [tgt]
 |ep k ext i off v wm esz rows K B J H=>
  intro j;have F:=G B;have D:=h.out k _ B;unfold nT at D;have go: ∀b,(eX s1 es new kf c' σ2).g.μ b=c'.g.μ k->σ2[b]?=some (.arr wm esz rows)->JD (eX s1 es new kf c' σ2) (.ep b ext i off) v:=by intro b C P;refine .ep b ext i off v wm esz rows K P J λE M=>?_;simp_all
  simp only[bk]at j;split at j;rename_i I;split at j;rename_i b A;injection j with j;subst j;have C:=mK h F (by rw[A];simp);grind [tgt,Ent.id];cases j;rename_i N;injection j with j;subst j;have A:es[k]?=none:=nR (by omega);have C:=mK h F (by rw[A];simp);grind [tgt]
 |fn f first caps fs cs h1 h2 _ _ ab a9=>
  intro j;simp only[bk]at j;split at j
  ·rename_i a c ha hc;injection j with j;subst j;obtain⟨U,T⟩:=sB ha;obtain⟨k3,k4⟩:=sB hc;refine .fn f a c fs cs (by omega) (by omega) (λi y v Q H=>?_) (λi y v Q H=>?_)
   all_goals grind [Jq]
  cases j
inductive RL(es:List Ent)(new kf b:Nat):Prop where|out (k:Nat):k<es.length+kf->tgt es new k=b->(∀b e i,es[k]?≠some (.elem b e i))->RL es new kf b|elem (k e i:Nat):es[k]?=some (.elem b e i)->RL es new kf b|other:b∉es.map Ent.id->(b<new\/new+kf<=b)->RL es new kf b
theorem rW(b:Nat):RL es new kf b:=by
 by_cases n:b∈es.map Ent.id;obtain⟨e,j,g⟩:=iV.1 n;obtain⟨k,h⟩:=kQ j;have r:=Jq h;cases e with
 |whole q=>simp only[Ent.id]at g;subst g;exact .out k (by omega) (by grind [tgt,Ent.id]) (by rw[h];simp)
 |elem q e' o=>simp only[Ent.id]at g;subst g;exact .elem k e' o h
 by_cases v:new<=b/\b<new+kf;have j:es[es.length+(b-new)]?=none:=nR (by omega);refine .out (es.length+(b-new)) (by omega) ?_ (by rw[j];simp);grind [tgt];exact .other n (by omega)
include h in
theorem HD{k:Nat}(hk:k<es.length+kf)(j: ∀b e i,es[k]?≠some (.elem b e i))(r o:Nat):
  Wr1 (eX s1 es new kf c' σ2) (tgt es new k) r o↔Wr1 c' k r o:=by
 have q:=mK h hk j;have g:k<c'.σ.length:=by rw[h.len];exact hk
 have n:c'.σ[k]?=some c'.σ[k]:=aQ g;have w:=h.out k _ n;unfold nT at w;unfold Wr1;rw[n,q];have v:(eX s1 es new kf c' σ2).σ=σ2:=rfl;rw[v];cases he:es[k]? with
 |some e=>
  grind [tgt,Ent.id,sB]
 |none=>
  grind [tgt,sB]
include h in
theorem HM{k b e i:Nat}(he:es[k]?=some (.elem b e i))(r o:Nat):Wr1 (eX s1 es new kf c' σ2) b r o↔Wr1 s1 b r o:=by
 obtain⟨esz,rows,row,r',g,v,y,A,z,w,x,q,n,B,j⟩:=CR h he;grind [Wr1,eX]
include h in
theorem YT{b:Nat}(h1:b∉es.map Ent.id)(h2:b<new\/new+kf<=b)(r o:Nat):Wr1 (eX s1 es new kf c' σ2) b r o↔Wr1 s1 b r o:=by
 unfold Wr1;have j:(eX s1 es new kf c' σ2).σ=σ2:=rfl;have e:(eX s1 es new kf c' σ2).g.μ b=s1.g.μ b:=by grind [eX,OU]
 rw[j,h.same b h1 h2,e]
include h in
theorem od{r o:Nat}(hw:Wr c' r o):(∃k e,es[k]?=some e/\Wr1 (gR s1 es blks) k r o/\Wr1 s1 e.id r o)\/s1.w.heap.size<=r:=by
 rcases h.trans.wnew r o hw with⟨k,j⟩|n;obtain⟨g,q⟩:=rL h.cin k r o j;have v:es[k]?=some es[k]:=aQ g;grind [uF];exact .inr n
include h in
theorem pa:aW s1 (eX s1 es new kf c' σ2):=by
 refine⟨?_,λr o C=>h.trans.cmono r o C,λr o C=>?_,λr o ⟨b,I⟩=>?_,Nat.le_of_eq h.slen.symm,λb cs z=>?_,λb wm esz rows z=>?_⟩;refine h.trans.keep.mono λr o ⟨k,n⟩=>?_;exact⟨_,(rL h.cin k r o n).2⟩;rcases h.trans.cnew r o C with C|⟨k,n⟩|Q;exact .inl C;exact .inr (.inl ⟨_,(rL h.cin k r o n).2⟩);exact .inr (.inr Q);cases rW (es:=es) (new:=new) (kf:=kf) b with
 |out k n j v=>
  subst j;rcases od h ⟨k,(HD h n v r o).1 I⟩with⟨k',e,_,_,L⟩|Q;exact .inl ⟨_,L⟩;simp_all
 |elem k e i g=>exact .inl ⟨b,(HM h g r o).1 I⟩
 |other h1 h2=>exact .inl ⟨b,(YT h h1 h2 r o).1 I⟩
 ·cases rW (es:=es) (new:=new) (kf:=kf) b with
  |out k n j v=>
   cases g:es[k]? with
   |none=>
    exfalso;simp only[tgt,g]at j;have K:es.length<=k:=by simp_all
    have:=h.dead (k-es.length) (by omega);simp_all
   |some e=>
    cases e with
    |elem b e i=>simp_all
    |whole V=>
     simp only[tgt,g,Ent.id]at j;subst j;obtain⟨x,J,B⟩:=pW h.cin g;rcases B with⟨cs',l,h1,h2,rfl⟩|⟨w,A,rows',h1,rfl⟩
     ·rw[z]at h1;injection h1 with h1;injection h1 with h1;subst h1
      obtain⟨⟨a0,H,S⟩,P⟩:=h.trans.box k _ J;have y:=h.out k _ H;unfold nT at y;rw[g]at y;have G:=mK h n v;simp only[tgt,g,Ent.id]at G;rcases y with⟨O,N,q,F,R⟩|⟨w,esz,rows,q,F⟩
      ·injection q with q;subst q;refine⟨⟨N,R,?_⟩,?_⟩
       all_goals grind [sB,sG,vA]
      cases q
     simp_all
  |elem k e i g=>
   grind [CR]
  |other h1 h2=>
   refine⟨⟨cs,by rw[<-z];exact h.same b h1 h2,rfl⟩,?_⟩;grind [eX,OU]
 cases rW (es:=es) (new:=new) (kf:=kf) b with
 |out k n j v=>
  cases g:es[k]? with
  |none=>
   exfalso;simp only[tgt,g]at j;have K:es.length<=k:=by simp_all
   have:=h.dead (k-es.length) (by omega);simp_all
  |some e=>
   cases e with
   |elem b e i=>simp_all
   |whole V=>
    simp only[tgt,g,Ent.id]at j;subst j;obtain⟨x,J,B⟩:=pW h.cin g;rcases B with⟨cs',l,h1,h2,rfl⟩|⟨w,A,rows',h1,rfl⟩;simp_all;rw[z]at h1;injection h1 with h1;injection h1 with a1 a2 a3;subst a1 a2 a3;obtain⟨wm',E,H,S,P,q4⟩:=h.trans.arr k _ _ _ J;have y:=h.out k _ H;unfold nT at y;rw[g]at y;have G:=mK h n v;simp only[tgt,g,Ent.id]at G;rcases y with⟨O,N,q,F,R⟩|⟨w,U,T,q,F⟩;cases q;injection q with a1 a2 a3;subst a1 a2 a3;exact⟨wm',E,F,S,P,λe=>by grind [vA]⟩
 |elem k e i g=>
  obtain⟨A,rows',row,r',Y,D,f2,f3,W,f5,f6,f7,f8,Z,M⟩:=CR h g;rw[z]at D;injection D with D;injection D with a1 a2 a3;subst a1 a2 a3;exact⟨true,_,Z,λ_=>rfl,by simp,λ_=>by rw[M,W]⟩
 |other h1 h2=>
  refine⟨wm,rows,by rw[<-z];exact h.same b h1 h2,id,zQ0 _,λ_=>?_⟩;grind [eX,OU]
include h in
theorem JI3:Inv (eX s1 es new kf c' σ2):=by
 have hi:=h.cin.inv;have t:=pa h;have O: ∀{b},¬(b∈es.map Ent.id\/(new<=b/\b<new+kf))->b∉es.map Ent.id/\(b<new\/new+kf<=b):=λH=>⟨λB=>H (.inl B),by omega⟩;have A: ∀{k b e i r o},es[k]?=some (.elem b e i)->(Wr1 (gR s1 es blks) k r o↔Wr1 c' k r o):=(by intro k b e i r o q;obtain⟨x,hx,ab⟩:=pW h.cin q;obtain⟨esz,rows,row,h1,h2,h3,rfl⟩:=ab;obtain⟨⟨cs',q1,q2⟩,q3⟩:=h.trans.box k _ hx;grind [gR,Wr1]);have P: ∀{k b r o},k<es.length+kf->Wr1 c' k r o->Wr1 s1 b r o->(∃n,es[n]?=some (.whole b)\/ ∃e i,es[n]?=some (.elem b e i)/\n=k):=by
  intro k b r o N J M;rcases od h ⟨k,J⟩with⟨n,e,q,ap,y⟩|H;have E:=hi.apart _ _ _ _ y M;cases e with
  |whole b'=>grind [Ent.id]
  |elem b' e' i'=>
   simp only[Ent.id]at E;subst E;have:=h.inv.apart _ _ _ _ ((A q).1 ap) J;grind
  have:=tW hi b r o M;omega
 refine mM hi t (λb=>b∈es.map Ent.id\/(new<=b/\b<new+kf)) ?_ ?_ ?_ ?_ ?_ ?_ ?_ ?_;intro b H;obtain⟨h1,h2⟩:=O H;exact⟨h.same b h1 h2,by grind [eX,OU]⟩;intro b r o v H J hv;refine h.trans.keep.cell ?_ hv;rintro⟨k,N⟩;obtain⟨D,y⟩:=rL h.cin k r o N;have q:es[k]?=some es[k]:=aQ D;rw[uF q]at y;have:=hi.apart _ _ _ _ y J;simp_all;intro b cs hd M;have M:σ2[b]?=some (.box cs):=M;cases rW (es:=es) (new:=new) (kf:=kf) b with
 |other h1 h2=>grind
 |elem k e i q=>
  grind [CR]
 |out k N Z Y=>
  subst Z;have D:k<c'.σ.length:=by rw[h.len];exact N
  have hg:c'.σ[k]?=some c'.σ[k]:=aQ D;have ho:=h.out k _ hg;unfold nT at ho;have aa: ∃a4,c'.σ[k]?=some (.box a4)/\bk.bkL es new a4=some cs:=by
   cases q:es[k]? with
   |some e=>
    grind [tgt,Ent.id]
   |none=>
    grind [tgt]
  obtain⟨a4,h0,hl⟩:=aa;obtain⟨k1,k2⟩:=sB hl;obtain⟨r,o,c,e,fz,B,hh,cc,hx,bf⟩:=h.inv.box _ _ h0;refine⟨r,o,c,e,fz,by grind [mK],hh,by omega,λi x c9=>?_,by simp_all⟩;grind [Jq,Da]
 intro b wm esz rows hd M;have M:σ2[b]?=some (.arr wm esz rows):=M;cases rW (es:=es) (new:=new) (kf:=kf) b with
 |other h1 h2=>grind
 |elem k e i q=>
  obtain⟨bn,rows',row,r',bs,f1,f2,f3,f4,f5,f6,f7,f8,f9,bh⟩:=CR h q;rw[M]at f9;injection f9 with f9;injection f9 with a1 a2 a3;subst a1 a2 a3;have D:=Jq f3;rcases hi.arr _ _ _ _ f1 with⟨B,W⟩|⟨r,c,e1,fz,B,hh,an,hl,hx,bf⟩;simp_all;rw[f4]at B;injection B with B;injection B with B _;subst B;obtain⟨c2,q1,q2,q3⟩:=t.keep.2.1 _ _ _ _ hh;obtain⟨rr,oo,c3,e3,ca,m3,U,bo,b7,bq⟩:=h.inv.box _ _ f5;rw[f8]at m3;injection m3 with m3;injection m3 with z I;subst z I;have b8:c'.w.heap[r']?=some (.cells c2 e1 fz):=q1;rw[b8]at U;injection U with U;injection U with z I w3;subst z I w3;refine .inr ⟨r',c2,e1,fz,bh,q1,λce cd=>?_,by simp;omega,λQ j ak x0 L a5=>⟨?_,λh=>by cases h⟩,by simp_all⟩;grind;have c4:=Jq a5;by_cases aj:Q=i;subst aj;rw[AM D]at L;injection L with L;subst L;obtain⟨v,hv,W,_⟩:=b7 j (.p x0) (by simp[a5]);refine⟨v,hv,?_⟩;cases W with|p _ _ W=>exact W
  rw[EQ (Ne.symm aj)]at L;obtain⟨⟨v',cf,b3⟩,_⟩:=hx Q j ak x0 L a5;refine⟨v',?_,b3.mono hi t⟩;have ad:cellAt s1.w r' (Q*esz+j)=some v':=by grind [iR]
  have b9:j<esz:=by grind
  have b5: ¬Wr (gR s1 es blks) r' (Q*esz+j):=by
   rintro⟨n,g⟩;obtain⟨F,y⟩:=rL h.cin n _ _ g;have C:es[n]?=some es[n]:=aQ F;rw[uF C]at y;have bi:Wr1 s1 b r' (Q*esz+j):=by grind [Wr1]
   have E:=hi.apart _ _ _ _ y bi;have K:n=k:=BY h C q E;subst K;obtain⟨x,bc,ab⟩:=pW h.cin q;obtain⟨bx,bm,a0,G,V,g3,rfl⟩:=ab;rw[f1]at G;injection G with G;injection G with z1 z2 z3;subst z2 z3;have al:(gR s1 es blks).σ[n]?=some (.box (a0.map .p)):=bc;unfold Wr1 at g;rw[al,OX q f1 f4]at g;obtain⟨o0,m0,cb,ba⟩:=g;injection m0 with m0;injection m0 with _ m0;subst m0;have bt:=an a0 (fZ g3);simp at ba;rcases zQ3 Q i with ao|c0;have:=iO ao b9;omega;have:=zQ4 esz (show i+1<=Q by omega);grind
  have:=h.trans.keep.cell b5 ad;grind [iR]
 |out k N Z Y=>
  subst Z;have D:k<c'.σ.length:=by rw[h.len];exact N
  have hg:c'.σ[k]?=some c'.σ[k]:=aQ D;have ho:=h.out k _ hg;unfold nT at ho;have aa:c'.σ[k]?=some (.arr wm esz rows):=by
   cases q:es[k]? with
   |some e=>
    grind [tgt,Ent.id]
   |none=>
    grind [tgt]
  rcases h.inv.arr _ _ _ _ aa with⟨B,W⟩|⟨r,c,e,fz,B,hq⟩;exact .inl ⟨by grind [mK],W⟩;exact .inr ⟨r,c,e,fz,by grind [mK],hq⟩
 
 intro b1 b2 r o hd h1 h2;cases rW (es:=es) (new:=new) (kf:=kf) b1 with
 |other G V=>grind
 |out k1 a9 bd aq=>
  subst bd;have z:=(HD h a9 aq r o).1 h1;cases rW (es:=es) (new:=new) (kf:=kf) b2 with
  |out k2 T a8 R=>subst a8;have I:=(HD h T R r o).1 h2;rw[h.inv.apart _ _ _ _ z I]
  |elem k2 e i q=>
   exfalso;have I:=(HM h q r o).1 h2;obtain⟨n,g|⟨e',i',g,K⟩⟩:=P a9 z I;have:=BY h g q rfl;simp_all;simp_all
  |other G V=>
   exfalso;have I:=(YT h G V r o).1 h2;obtain⟨n,g|⟨e',i',g,K⟩⟩:=P a9 z I;exact G (MO g);simp_all
 |elem k1 e1 i1 ai=>
  have z:=(HM h ai r o).1 h1;cases rW (es:=es) (new:=new) (kf:=kf) b2 with
  |out k2 T a8 R=>
   subst a8;exfalso;have I:=(HD h T R r o).1 h2;obtain⟨n,g|⟨e',i',g,K⟩⟩:=P T I z;have:=BY h g ai rfl;simp_all;simp_all
  |elem k2 e i q=>exact hi.apart _ _ _ _ z ((HM h q r o).1 h2)
  |other G V=>exact hi.apart _ _ _ _ z ((YT h G V r o).1 h2)
 exact λr o S=>(h.inv.const r o S).1;intro r o b S hd J;cases rW (es:=es) (new:=new) (kf:=kf) b with
 |other G V=>grind
 |out k N Z Y=>subst Z;exact(h.inv.const r o S).2 _ ((HD h N Y r o).1 J)
 |elem k e i q=>
  have z:=(HM h q r o).1 J;rcases h.trans.cnew r o S with a7|⟨n,g⟩|H;exact(hi.const r o a7).2 _ z;obtain⟨F,y⟩:=rL h.cin n _ _ g;have C:es[n]?=some es[n]:=aQ F;rw[uF C]at y;have E:=hi.apart _ _ _ _ y z;have K:n=k:=BY h C q E;subst K;exact(h.inv.const r o S).2 _ ((A q).1 g);have H:s1.w.heap.size<=r:=H;have:=tW hi _ _ _ z;omega
 intro r o b S bb hd J;rcases h.trans.cnew r o S with a7|⟨n,g⟩|H;exact bb a7;obtain⟨F,y⟩:=rL h.cin n _ _ g;have C:es[n]?=some es[n]:=aQ F;rw[uF C]at y;have E:=hi.apart _ _ _ _ y J;simp_all;have H:s1.w.heap.size<=r:=H;have:=tW hi _ _ _ J;omega
end
end Go.Am
end
section
namespace Go.Am
section
variable {P:Program} {F:Orc} {s:Sn} {a:Act} {env:List (Nat×AV)} {o:Oper} {new:Nat} {e:Eff}
theorem mr{r:List Blk}(hi:Inv s)(B:Frz r s.σ){x:AV}{y:AV×List (Nat×Blk)}{v:Value}(h:(hZ x).run ⟨env,r⟩=some y)(hr:JD s x v):
  ∃g',Inv ⟨upd y.2 s.σ,g',s.w⟩/\aW s ⟨upd y.2 s.σ,g',s.w⟩/\Frz s.σ (upd y.2 s.σ)/\JD ⟨upd y.2 s.σ,g',s.w⟩ y.1 v:=by
 have same: ∀{z:AV},(RM.ret (z,[]):RM (AV×List (Nat×Blk))).run ⟨env,r⟩=some y->JD s z v-> ∃g',Inv ⟨upd y.2 s.σ,g',s.w⟩/\aW s ⟨upd y.2 s.σ,g',s.w⟩/\Frz s.σ (upd y.2 s.σ)/\JD ⟨upd y.2 s.σ,g',s.w⟩ y.1 v:=(by intro z j hr;simp only[RM.run]at j;injection j with j;subst j;exact⟨s.g,hi,.refl s,.refl _,hr⟩);cases x with
 |slr b i n=>
  simp only[hZ]at h;obtain⟨C,h1,h⟩:=bind_some h;obtain⟨g',o,A,q,c,I,E⟩:=IK hi B h1 hr;rw[I]at h;simp only[RM.run]at h;injection h with h;subst h;exact⟨g',o,A,q,.p _ _ E⟩
 |agg cs=>
  simp only[hZ]at h;obtain⟨C,h1,h⟩:=bind_some h;simp only[RM.run]at h;injection h with h;subst h;obtain⟨g',o,A,q,F,D⟩:=XE hi B h1 hr;cases hr with
  |agg _ vs h1 J h2=>exact⟨g',o,A,q,.data _ _ F λi x v G H=>D i x v G H⟩
 |tup=>grind [hZ,RM.run]
 |p c=>exact same h hr
 |data cs=>exact same h hr
 |ptr b off=>exact same h hr
 |cp cs off=>exact same h hr
 |ep b e i off=>exact same h hr
 |fn f first caps=>exact same h hr
 |unk=>exact same h hr
 |pre b n k=>exact same h hr
theorem oj{q:List Blk}: ∀{xs:List AV} {s:Sn} {y:List AV×List (Nat×Blk)} {vs:List Value},Inv s->Frz q s.σ->(jA xs).run ⟨env,q⟩=some y->xs.length=vs.length->
  (∀(i:Nat) x v,xs[i]?=some x->vs[i]?=some v->JD s x v)->
  ∃g',Inv ⟨upd y.2 s.σ,g',s.w⟩/\aW s ⟨upd y.2 s.σ,g',s.w⟩/\Frz s.σ (upd y.2 s.σ)/\y.1.length=vs.length/\
   ∀(i:Nat) x v,y.1[i]?=some x->vs[i]?=some v->JD ⟨upd y.2 s.σ,g',s.w⟩ x v
 |[],s,y,vs,hi,j,h,e,k=>by
  simp only[jA,RM.run]at h;injection h with h;subst h;exact⟨s.g,hi,.refl s,.refl _,by simpa using e,λi c v G=>by simp at G⟩
 |x::xs,s,y,[],hi,j,h,e,k=>by simp at e
 |x::xs,s,y,v::vs,hi,j,h,e,k=>by
  simp only[jA]at h;obtain⟨z,h1,h⟩:=bind_some h;obtain⟨L,h2,h⟩:=bind_some h;simp only[RM.run]at h;injection h with h;subst h;obtain⟨D,i1,o,n,J⟩:=mr hi j h1 (k 0 x v rfl rfl);obtain⟨C,i2,r,A,B,K⟩:=oj (s:=⟨upd z.2 s.σ,D,s.w⟩) i1 (j.trans n) h2 (by simpa using e) λi x v E F=>(k (i+1) x v (by simpa using E) (by simpa using F)).mono hi o;refine⟨C,by grind [eN],by rw[eN];exact o.trans r,by rw[eN];exact n.trans A,by simp[B],λi c' I hc' H=>?_⟩;grind [JD.mono,upd]
def Ax(s1:Sn)(es:List Ent)(new:Nat)(e:Ent)(x:Blk)(y:Nat×Blk):Prop:=
 y.1=e.id/\match e with
 | .whole _=>(∃cs l,x=.box cs/\bk.bkL es new cs=some l/\y.2=.box l)\/(∃w esz rows,x=.arr w esz rows/\y.2=.arr w esz rows)
 | .elem b _ i=> ∃w esz rows g,s1.σ[b]?=some (.arr w esz rows)/\x=.box (g.map .p)/\y.2=.arr w esz (rows.set i g)
theorem JCi{g:List Blk}{ws:List (Nat×Blk)}(k:s.σ=upd ws g){es:List Ent}{en:Ent}{x:Blk}{y:Nat×Blk}(h:(rT ws es new en x).run ⟨env,g⟩=some y):Ax s es new en x y:=by
 unfold rT at h;split at h;rename_i b cs;split at h;rename_i l o;simp only[RM.run]at h;injection h with h;subst h;exact⟨rfl,.inl ⟨cs,l,rfl,o,rfl⟩⟩;cases h;simp only[RM.run]at h;injection h with h;subst h;exact⟨rfl,.inr ⟨_,_,_,rfl,rfl⟩⟩;rename_i b ext i cs;obtain⟨z,h1,h⟩:=bind_some h;have j:=ZF h1;rw[<-k]at j;cases z with
 |arr w esz rows=>
  dsimp only at h;split at h;rename_i e n;simp only[RM.run]at h;injection h with h;subst h;exact⟨rfl,w,esz,rows,e,j,by grind [OG],rfl⟩;cases h
 |_=>cases h
 cases h
theorem re{j:List Blk}{ws:List (Nat×Blk)}(n:s.σ=upd ws j){es:List Ent}: ∀{e:List Ent} {xs:List Blk} {g:List (Nat×Blk)},(hM ws es new e xs).run ⟨env,j⟩=some g->
  e.length=g.length/\e.length<=xs.length/\ ∀(k:Nat) en x y,e[k]?=some en->xs[k]?=some x->g[k]?=some y->Ax s es new en x y
 |[],xs,g,h=>by grind [hM,RM.run]
 |_::_,[],g,h=>by cases h
 |en::e,x::xs,g,h=>by
  simp only[hM]at h;obtain⟨y,h1,h⟩:=bind_some h;obtain⟨l,h2,h⟩:=bind_some h;simp only[RM.run]at h;injection h with h;subst h;obtain⟨o,q,r⟩:=re n h2;grind [JCi]
theorem d7{es:List Ent}: ∀{xs:List Blk} {g:Nat} {e:List (Nat×Blk)},gO es new g xs=some e->
  xs.length=e.length/\ ∀(j:Nat) x y,xs[j]?=some x->e[j]?=some y->y.1=g+j/\((∃cs l,x=.box cs/\bk.bkL es new cs=some l/\y.2=.box l)\/(∃w esz rows,x=.arr w esz rows/\y.2=.arr w esz rows))
 |[],g,e,h=>by grind [gO]
 | .dead::_,g,e,h=>by grind [gO]
 | .box cs::xs,g,e,h=>by
  simp only[gO]at h;split at h;rename_i c l q k;injection h with h;subst h;obtain⟨n,o⟩:=d7 k;grind;cases h
 | .arr w esz rows::xs,g,e,h=>by
  simp only[gO]at h;split at h;rename_i l k;injection h with h;subst h;obtain⟨n,o⟩:=d7 k;grind;cases h
theorem n8(b:Nat)(p q:List (Nat×Blk)):iG b (p++q)=match iG b q with
  |some y=>some y
  |none=>iG b p:=by
 induction p with
 |nil=>grind [iG]
 |cons x p ih=>
  grind [iG]
theorem ZI{b:Nat}{x:Blk}: ∀{ws:List (Nat×Blk)},(ws.map (·.1)).Nodup-> ∀{k:Nat},ws[k]?=some (b,x)->iG b ws=some x
 |[],_,k,h=>by simp at h
 |(c,z)::r,hn,k,h=>by
  obtain⟨h1,h2⟩:=List.nodup_cons.1 hn;simp only[iG];cases k with
  |zero=>
   grind [vC]
  |succ k=>rw[ZI h2 (k:=k) (by simpa using h)]
theorem Gc(n k:Nat):((List.range k).map (n+ ·)).Nodup:=by
 grind [List.nodup_range]
theorem oc(hF:iL P F){f:FuncId}{ar:List AV×List (Nat×Blk)}{q:Nat}{vals:Array Value}(H: ∀j,j<q->s.σ[new+j]?=some .dead)
  {g1:Gh} (i1:Inv ⟨upd ar.2 s.σ,g1,s.w⟩) (t1:aW s ⟨upd ar.2 s.σ,g1,s.w⟩) (f1:Frz s.σ (upd ar.2 s.σ)) (l1:ar.1.length=vals.toList.length)
  (r1: ∀(i:Nat) x v,ar.1[i]?=some x->vals.toList[i]?=some v->JD ⟨upd ar.2 s.σ,g1,s.w⟩ x v)
  (h:(fD F f ar q new).run ⟨env,s.σ⟩=some e)
  (ai: ∀fn,P.funcs[f]?=some fn→fn.body.isSome=true→(fn.name== "runtime.NumGoroutine")=false→(execOp a.eval o).run P s.w=.ok (.enter f vals) s.w):bH P o a s e:=by
 unfold fD at h;obtain⟨b8,h2,h⟩:=bind_some h;obtain⟨es,h3,h⟩:=bind_some h;split at h;rename_i ah;split at h;cases h;rename_i N a6;obtain⟨blks,h4,h⟩:=bind_some h;split at h;cases h;rename_i r a8;split at h;rename_i V;obtain⟨k,hlen,hk⟩: ∃k,r.2.length=es.length+k/\k<=q:=⟨r.2.length-es.length,by omega,by omega⟩;have M: ∀j,j<k->s.σ[new+j]?=some .dead:=λj hj=>H j (by omega);clear V;split at h;rename_i v fresh hv K;obtain⟨n,h5,h⟩:=bind_some h;simp only[RM.run]at h;injection h with h;subst h
 let s1:Sn:=⟨upd ar.2 s.σ,g1,s.w⟩
 obtain⟨bl,a5⟩:=qg (s:=s1) rfl h4;have cin:WS s1 es blks:=⟨i1,PH ah,bl,a5⟩;obtain⟨⟨fn,af,O,S⟩,R⟩:=hF f N blks r a8;obtain⟨q1,q2⟩:=sG a6;have ci:=JKP cin;have hc:=R (gR s1 es blks).g s.w vals ci (by grind) (λi x v hx hv=>by have A:=Jq hx;have Y:ar.1[i]?=some (ar.1[i]'(by omega)):=aQ _;exact Aj cin (r1 i _ v Y (by simpa using hv)) (q2 i _ x Y hx));intro next Q T;simp only[Oper.wp,ai fn af O S,Oper.upon];refine hc.mono ?_;rintro e w' ⟨rv,g',rfl,a7,I,a3⟩;simp only;obtain⟨b1,b2,b3⟩:=re (s:=s1) rfl h5;obtain⟨n1,n2⟩:=d7 K;have B: ∀j,j<k->s1.σ[new+j]?=some .dead:=λj hj=>f1.2 _ _ (M j hj) (by simp);have bb:(r.2.drop es.length).length=k:=by simp;omega
 have ac:n.map (·.1)=es.map Ent.id:=(by apply zQ6;intro i;rw[fT,fT];by_cases A:i<es.length;have E:es[i]?=some es[i]:=aQ A;have L:n[i]?=some (n[i]'(by omega)):=aQ _;have G:r.2[i]?=some (r.2[i]'(by omega)):=aQ _;have:=(b3 i _ _ _ E G L).1;grind;grind);have ab: ∀j,j<k->fresh[j]?=some (new+j,(fresh[j]?.map (·.2)).getD .dead):=(by grind);have am:(fresh.map (·.1)).Nodup:=(by have:fresh.map (·.1)=(List.range k).map (new+ ·):=(by apply zQ6;grind);grind [Gc]);have al: ∀b,b∈fresh.map (·.1)↔new<=b/\b<new+k:=(by intro b;constructor;grind [List.getElem?_of_mem];intro hm;have:=ab (b-new) (by omega);grind);have W:(upd (n++fresh) s1.σ).length=s1.σ.length:=xN _ _;have U: ∀{q:Nat} {en:Ent},es[q]?=some en->en.id<s1.σ.length/\ ¬(new<=en.id/\en.id<new+k):=by
  intro q en C;obtain⟨x,_,Z⟩:=pW cin C;have z: ∃y,s1.σ[en.id]?=some y/\y≠.dead:=by
   cases en with
   |whole b=>
    rcases Z with⟨cs',l,h1,h2,rfl⟩|⟨w,a2,rows',h1,rfl⟩;exact⟨_,h1,by simp⟩;exact⟨_,h1,by simp⟩
   |elem b ext i=>obtain⟨a2,rows',row,h1,h2,h3,rfl⟩:=Z;exact⟨_,h1,by simp⟩
  obtain⟨y,z,hd⟩:=z;refine⟨Jq z,λhm=>?_⟩;have:=B (en.id-new) (by omega);rw[show new+(en.id-new)=en.id by omega,z]at this;grind
 have aa: ∀{q:Nat} {en:Ent} {y:Nat×Blk},es[q]?=some en->n[q]?=some y->(upd (n++fresh) s1.σ)[en.id]?=some y.2:=by intro q en y C z;obtain⟨A,b9⟩:=U C;have G:r.2[q]?=some (r.2[q]'(by grind)):=aQ _;have ag:=(b3 q en _ y C G z).1;rw[uM _ _ _ A,n8,vC (by grind)];simp only;rw[ZI (x:=y.2) (by rw[ac];exact cin.nodup) (k:=q) (by grind)]
 have av: ∀{j:Nat} {y:Nat×Blk},j<k->fresh[j]?=some y->(upd (n++fresh) s1.σ)[new+j]?=some y.2:=(by grind [uM,n8,ZI]);have co:Bv s1 es blks new k ⟨r.2,g',w'⟩ (upd (n++fresh) s1.σ):=by
  refine⟨cin,a7,I,hlen,W,B,λq y z=>?_,λb bd ba=>?_⟩;have z:r.2[q]?=some y:=z;unfold nT;cases C:es[q]? with
  |some en=>
   have A:=Jq C;have L:n[q]?=some (n[q]'(by omega)):=aQ _;obtain⟨ag,a0⟩:=b3 q en y _ C z L;have hg:=aa C L;cases en with
   |whole b=>
    rcases a0 with⟨cs,l,E,G,J⟩|⟨w,esz,rows,E,J⟩;exact .inl ⟨cs,l,E,G,by rw[<-J];exact hg⟩;exact .inr ⟨w,esz,rows,E,by rw[<-J];exact hg⟩
   |elem b ext i=>obtain⟨w,esz,rows,a4,E,G,J⟩:=a0;exact⟨w,esz,rows,a4,E,G,by rw[<-J];exact hg⟩
  |none=>
   have bc:es.length<=q:=(by grind);have A:=Jq z;have L:fresh[q-es.length]?=some (fresh[q-es.length]'(by omega)):=aQ _;grind
  grind [uM,vC]
 have oi:=JI3 co;have ot:=pa co;have D:upd (ar.2++n++fresh) s.σ=upd (n++fresh) s1.σ:=by grind [eN]
 refine T rv w' (eX s1 es new k ⟨r.2,g',w'⟩ (upd (n++fresh) s1.σ)).g ?_ ?_ ?_;rw[D];exact oi;rw[D];exact t1.trans ot;rw[D];exact Da co a3 hv;cases h;cases h;cases h
theorem B6{f:FuncId}{args:List AV}{k:Nat}{s:St}(h:(gV F f args k new).run s=some e): ∃ar,(jA args).run s=some ar/\(fD F f ar k new).run s=some e:=by
 unfold gV at h;obtain⟨ar,h1,h⟩:=bind_some h;obtain⟨w,h2,h⟩:=bind_some h;obtain⟨es,v,h⟩:=bind_some h;refine⟨ar,h1,?_⟩;unfold fD;rw[run_bind,h2,Jy,run_bind,v,Jy];split at h;rename_i n;rw[if_pos n];split at h;cases h;rename_i o g;obtain⟨blks,q,h⟩:=bind_some h
 try rw[g]
 try dsimp only
 rw[run_bind,q,Jy];split at h;cases h;rename_i r j
 try rw[j]
 try dsimp only
 split at h;grind;cases h;cases h
theorem B8(A:iL P F)(hi:Inv s){f:FuncId}{args:List AV}{k:Nat}{vals:Array Value}(g: ∀j,j<k->s.σ[new+j]?=some .dead)
  (h:(gV F f args k new).run ⟨env,s.σ⟩=some e) (hl:args.length=vals.size) (hr: ∀(i:Nat) x v,args[i]?=some x->vals[i]?=some v->JD s x v)
  (r: ∀fn,P.funcs[f]?=some fn→fn.body.isSome=true→(fn.name== "runtime.NumGoroutine")=false→(execOp a.eval o).run P s.w=.ok (.enter f vals) s.w):bH P o a s e:=by
 obtain⟨ar,h1,h2⟩:=B6 h;obtain⟨D,i1,B,z,C,y⟩:=oj (vs:=vals.toList) hi (.refl _) h1 (by simpa using hl) (λi x v n q=>hr i x v n (by simpa using q));grind [oc]
theorem JDN{r:List Blk}: ∀{m:List Bool} {xs:List AV} {s:Sn} {y:List AV×List (Nat×Blk)} {vs:List Value},Inv s->Frz r s.σ->(eW m xs).run ⟨env,r⟩=some y->xs.length=vs.length->
  (∀(i:Nat) x v,xs[i]?=some x->vs[i]?=some v->JD s x v)->
  ∃g',Inv ⟨upd y.2 s.σ,g',s.w⟩/\aW s ⟨upd y.2 s.σ,g',s.w⟩/\Frz s.σ (upd y.2 s.σ)/\y.1.length=vs.length/\
   ∀(i:Nat) x v,y.1[i]?=some x->vs[i]?=some v->JD ⟨upd y.2 s.σ,g',s.w⟩ x v:=by
 intro m xs
 induction xs generalizing m with
 |nil=>
  intro s y vs hi q h j k;have h:(RM.ret ([],[]):RM (List AV×List (Nat×Blk))).run ⟨env,r⟩=some y:=by cases m<;>exact h
  simp only[RM.run]at h;injection h with h;subst h;exact⟨s.g,hi,.refl s,.refl _,by simpa using j,λi c v M=>by simp at M⟩
 |cons x xs ih=>
  intro s y vs hi q h j k;cases vs with
  |nil=>simp at j
  |cons v vs=>
   have z: ∀{A:List Bool},((hZ x).bind λa=>(eW A xs).bind λc=>.ret (a.1::c.1,a.2++c.2)).run ⟨env,r⟩=some y->
     ∃g',Inv ⟨upd y.2 s.σ,g',s.w⟩/\aW s ⟨upd y.2 s.σ,g',s.w⟩/\Frz s.σ (upd y.2 s.σ)/\y.1.length=(v::vs).length/\
      ∀(i:Nat) x o,y.1[i]?=some x->(v::vs)[i]?=some o->JD ⟨upd y.2 s.σ,g',s.w⟩ x o:=by
    intro A h;obtain⟨I,h1,h⟩:=bind_some h;obtain⟨K,h2,h⟩:=bind_some h;simp only[RM.run]at h;injection h with h;subst h;obtain⟨L,i1,H,G,N⟩:=mr hi q h1 (k 0 x v rfl rfl);obtain⟨D,i2,n,B,C,J⟩:=ih (m:=A) (s:=⟨upd I.2 s.σ,L,s.w⟩) i1 (q.trans G) h2 (by simpa using j) λi x v E F=>(k (i+1) x v (by simpa using E) (by simpa using F)).mono hi H;refine⟨D,by grind [eN],by rw[eN];exact H.trans n,by rw[eN];exact G.trans B,by simp[C],λi c' o hc' e=>?_⟩;grind [JD.mono,upd]
   cases m with
   |nil=>exact z h
   |cons b m=>
    cases b with
    |false=>exact z h
    |true=>
     simp only[eW]at h;obtain⟨K,h2,h⟩:=bind_some h;simp only[RM.run]at h;injection h with h;subst h;obtain⟨D,i2,n,B,C,J⟩:=ih (m:=m) hi q h2 (by simpa using j) λi x v E F=>k (i+1) x v (by simpa using E) (by simpa using F);refine⟨D,i2,n,B,by simp[C],λi c' o hc' e=>?_⟩;cases i with
     |zero=>simp at hc' e;subst hc' e;exact(k 0 x v rfl rfl).mono hi n
     |succ i=>grind
theorem ef{f:FuncId}{args:Array Value}{fn:Func}(h1:P.funcs[f]?=some fn)(h2:fn.body.isSome=true)(h3:(fn.name== "runtime.NumGoroutine")=false)(w:World):
  (callFunc f args).run P w=.ok (.enter f args) w:=by
 have e:fn.name≠ "runtime.NumGoroutine" :=by simpa using h3
 have g:fn.body≠none:=by grind
 simp_all [callFunc]
theorem JIj(y:iL P F)(hi:Inv s)(he:bI s a.tmps env){f args k}(n: ∀j,j<k->s.σ[new+j]?=some .dead)(h:(opR F (.call f args k) new).run ⟨env,s.σ⟩=some e)
  (hc:JS P (.call f args k) o.op=true):bH P o a s e:=by
 simp only[opR]at h;obtain⟨vs,h1,w⟩:=bind_some h;clear h;unfold JS at hc;simp only at hc;split at hc;rename_i c C;split at hc;rename_i g z;simp only[JW,beq_iff_eq]at hc;obtain⟨rfl,q⟩:=hc;obtain⟨l,r⟩:=CD he h1 q;refine B8 y hi n w (vals:=c.args.map a.eval) (by simpa using l) (λi x v A B=>r i x v A (by simpa using B)) λfn G E D=>?_;simp_all [execOp,resolve,Act.eval,Deferred.ofValue,invoke,ef];cases hc;cases hc
theorem JF7(A:iL P F)(hi:Inv s)(he:bI s a.tmps env){f keep args k}(n: ∀j,j<k->s.σ[new+j]?=some .dead)(h:(opR F (.callo f keep args k) new).run ⟨env,s.σ⟩=some e)
  (hc:JS P (.callo f keep args k) o.op=true):bH P o a s e:=by
 simp only[opR]at h;obtain⟨vs,h1,w⟩:=bind_some h;obtain⟨ar,h2,G⟩:=bind_some w;clear h w;unfold JS at hc;simp only at hc;split at hc;rename_i c J;split at hc;rename_i g B;simp only[JW,beq_iff_eq]at hc;obtain⟨rfl,q⟩:=hc;obtain⟨l,r⟩:=CD he h1 q;obtain⟨E,i1,C,z,D,y⟩:=JDN (vs:=(c.args.map a.eval).toList) hi (.refl _) h2 (by simpa using l) (λi x v H I=>r i x v H (by simpa using I));refine oc A n (vals:=c.args.map a.eval) i1 C z D y G λfn E L K=>?_;simp_all [execOp,resolve,Act.eval,Deferred.ofValue,invoke,ef];cases hc;cases hc
theorem JF0(D:iL P F)(hi:Inv s)(he:bI s a.tmps env){x args k}(g: ∀j,j<k->s.σ[new+j]?=some .dead)(h:(opR F (.callv x args k) new).run ⟨env,s.σ⟩=some e)
  (hc:JS P (.callv x args k) o.op=true):bH P o a s e:=by
 simp only[opR]at h;obtain⟨u,C,q⟩:=bind_some h;clear h;unfold JS at hc;simp only at hc;split at hc;rename_i c G;split at hc;rename_i y E;simp only[JW]at hc;obtain⟨B,n⟩:=hc;have A:=bD he C B;cases u with
 |fn f first caps=>
  dsimp only at q;obtain⟨vs,h1,w⟩:=bind_some q;obtain⟨l,r⟩:=CD he h1 n;generalize O:a.eval y=z at A;cases A with
  |fn _ _ _ fs cs K J H I=>
   have L:vs.length=c.args.size:=by simpa using l
   refine B8 D hi g w (vals:=fs++c.args.map a.eval++cs) (by simp;omega) (λi x v B R=>?_) λfn Q N M=>?_;grind;grind [execOp,resolve,Deferred.ofValue,invoke,ef]
 |_=>cases q
 cases hc;cases hc
end
end Go.Am
end
section
namespace Go.Am
section
variable {P:Program} {F:Orc} {s:Sn} {a:Act} {env:List (Nat×AV)} {o:Oper} {new:Nat} {e:Eff}
theorem ZD: ∀(os:List (Nat×Nat)) (n:Nat) {s:Sn},Inv s->(∀j,j<os.length->s.σ[n+j]?=some .dead)->
  ∃g',Inv ⟨upd (gH os n) s.σ,g',s.w⟩/\aW s ⟨upd (gH os n) s.σ,g',s.w⟩/\
   (∀j,j<os.length->(∃esz,(upd (gH os n) s.σ)[n+j]?=some (.arr true esz []))/\g'.μ (n+j)=none)/\
   (∀b,b<n\/n+os.length<=b->(upd (gH os n) s.σ)[b]?=s.σ[b]?/\g'.μ b=s.g.μ b)
 |[],n,s,hi,_=>⟨s.g,hi,.refl s,λj e=>by simp at e,λb _=>⟨rfl,rfl⟩⟩
 |(off,esz)::r,n,s,hi,hd=>by
  obtain⟨i1,v⟩:=NT hi (hd 0 (by simp)) esz;obtain⟨g',i2,q,h1,h2⟩:=ZD r (n+1) (s:=⟨s.σ.set n (.arr true esz []),eU s.g n none,s.w⟩) i1 (λj e=>by
   show(s.σ.set n _)[n+1+j]?=_;rw[qL (by omega)];have:=hd (j+1) (by simp;omega);grind)
  refine⟨g',i2,v.trans q,λj e=>?_,λb x=>?_⟩;cases j with
  |zero=>
   obtain⟨o,k⟩:=h2 n (.inl (by omega));refine⟨⟨esz,?_⟩,?_⟩;grind [upd,gH];rw[tP,k];exact if_pos rfl
  |succ j=>have:=h1 j (by simpa using e);rw[show n+(j+1)=n+1+j by omega];exact this
  obtain⟨o,k⟩:=h2 b (by grind);have h:n≠b:=by grind
  exact⟨o.trans (qL h),k.trans (if_neg (Ne.symm h))⟩
theorem qd{t:TypeId}{os:List (Nat×Nat)}{v:Value}(hv:zeT P t=some v)(h:LV P t os=true): ∀x∈os,v.cells[x.1]?=some (.slice none 0 0):=by
 grind [LV]
theorem ZC{cells:Array Value}: ∀(os:List (Nat×Nat)) (n:Nat) {cs:List AV},(∀x∈os,cells[x.1]?=some (.slice none 0 0))->
  (∀j,j<os.length->(∃esz,s.σ[n+j]?=some (.arr true esz []))/\s.g.μ (n+j)=none)->
  (∀(i:Nat) x,cs[i]?=some x-> ∃u,cells[i]?=some u/\JD s x u/\u.oneCell'=true)->
  ∀(i:Nat) x,(kT os n cs)[i]?=some x-> ∃u,cells[i]?=some u/\JD s x u/\u.oneCell'=true
 |[],_,_,_,_,h=>h
 |(off,esz)::r,n,cs,hz,ha,h=>by
  refine ZC r (n+1) (λx e=>hz x (by simp[e])) (λj q=>by
   have:=ha (j+1) (by simpa using q);grind) λi x e=>?_
  by_cases hi:off=i;subst hi;have k:=Jq e;rw[List.length_set]at k;rw[AM k]at e;injection e with e;subst e;obtain⟨⟨o,h1⟩,h2⟩:=ha 0 (by simp);rw[tP]at h1 h2;exact⟨.slice none 0 0,hz (off,esz) (by simp),.slr n 0 0 _ true o [] ⟨none,0,rfl,.inl rfl⟩ h1 (zQ0 _) λ_=>.inl ⟨h2,rfl,rfl,rfl⟩,rfl⟩;simp_all
theorem ZG: ∀(os:List (Nat×Nat)) (n:Nat) (cs:List AV),(kT os n cs).length=cs.length|[],_,_=>rfl|_::r,n,cs=>(ZG r (n+1) _).trans (by simp)
theorem JB0(hi:Inv s){zero os}(n: ∀j,j<os.length+1->s.σ[new+j]?=some .dead)(h:(opR F (.newboxo zero os) new).run ⟨env,s.σ⟩=some e)(hc:JS P (.newboxo zero os) o.op=true):bH P o a s e:=by
 simp only[opR,RM.run]at h;injection h with h;subst h;unfold JS at hc;simp only at hc;split at hc;rename_i t K;simp only[JW]at hc;obtain⟨D,G⟩:=hc;obtain⟨v,H,M,E⟩:=qM D;obtain⟨y,i1,A,h1,h2⟩:=ZD os new hi λj O=>n j (by omega);have r:(upd (gH os new) s.σ)[new+os.length]?=some .dead:=((h2 _ (.inr (zQ0 _))).1).trans (n _ (by omega))
 let s1:Sn:=⟨upd (gH os new) s.σ,y,s.w⟩
 obtain⟨B,t'⟩:=NN (s0:=s1) i1 r (blk:=.box (kT os new (zero.map .p))) (c:=v.cells) (e:=t) (fz:=(0,0)) (w':={s.w with heap:=s.w.heap.push (.cells v.cells t)}) rfl rfl rfl
  (λo _ _ h=>by simp at h) (λ_ _ _ h=>by cases h) ⟨by grind [ZG],λi x q=>by
   obtain⟨u,N,L,J⟩:=ZC (s:=s1) (cells:=v.cells) os new (qd H G) h1 (λi x q=>by
    rw[fT]at q;cases hzi:zero[i]? with
    |none=>simp_all
    |some c=>
     simp[hzi]at q;subst q;have I:=Jq hzi;have z:i<v.cells.size:=by omega
     have:=E (w:=s1.w) (C:=s1.g.C) i c v.cells[i] hzi (by simp);exact⟨v.cells[i],by simp,.p _ _ this,this.one⟩) i x q
   simp_all⟩
 have k:upd (gH os new++[(new+os.length,Blk.box (kT os new (zero.map .p)))]) s.σ=(upd (gH os new) s.σ).set (new+os.length) (.box (kT os new (zero.map .p))):=by rw[eN];rfl
 refine fO (e:=⟨.ptr (new+os.length) 0,gH os new++[(new+os.length,.box (kT os new (zero.map .p)))]⟩) (v:=.pointer (some ⟨s.w.heap.size,0,none⟩)) (g':=eU y (new+os.length) (some (s.w.heap.size,0))) ?_
  (by rw[k];exact B) (by rw[k];exact A.trans t') (by rw[k];exact .ptr (new+os.length) 0 _ 0 (if_pos rfl) ⟨_,gQ r⟩)
 simp_all [execOp,Instr.alloc,CM,newVar,newRow];cases hc
theorem JDK(hi:Inv s)(he:bI s a.tmps env)(hn:s.σ[new]?=some .dead){esz x}(h:(opR F (.storen esz x) new).run ⟨env,s.σ⟩=some e)(hc:JS P (.storen esz x) o.op=true):bH P o a s e:=by
 simp only[opR]at h;obtain⟨u,h1,M⟩:=bind_some h;obtain⟨H,h2,B⟩:=bind_some M;clear h M;simp only[RM.run]at B;injection B with B;subst B;obtain⟨K,R⟩:=NT hi hn esz;unfold JS at hc;simp only at hc;split at hc;rename_i t N ag;simp only[JW,beq_iff_eq]at hc;obtain⟨hs,hx⟩:=hc;have v:=bD he h1 hx;have O: ∀{r n:Nat} {w':World},a.eval N=.pointer (some ⟨r,n,none⟩)->(storeVar t ⟨r,n,none⟩ (.slice none 0 0)).run P s.w=.ok () w'->(execOp a.eval o).run P s.w=.ok .skip w':=by intro r n w' S a9;have ac:a.eval (.const (.slice none 0 0))=.slice none 0 0:=rfl;simp_all [execOp,Instr.storeAt,Instr.sureAddr]
 unfold gX at h2;split at h2;rename_i b off;simp only[RM.run]at h2;split at h2;rename_i blk G;split at h2;rename_i cs;split at h2;rename_i l hl;split at h2;rename_i a6;split at h2;rename_i cs' D;simp only[RM.run]at h2;injection h2 with h2;subst h2;have G:s.σ[b]?=some (.box cs):=G;have Q:new≠b:=λe=>by simp_all
 let s1:Sn:=⟨s.σ.set new (.arr true esz []),eU s.g new none,s.w⟩
 have C:s1.σ[b]?=some (.box cs):=(qL Q).trans G;have Z:JD s1 (.slr new 0 0) (.slice none 0 0):=
  .slr new 0 0 _ true esz [] ⟨none,0,rfl,.inl rfl⟩ (gQ hn) (zQ0 _) λ_=>.inl ⟨if_pos rfl,rfl,rfl,rfl⟩
 generalize S:a.eval N=z at v;have v:=JD.mono (s:=s1) hi R v;cases v with
 |ptr _ _ r n m aa=>
  obtain⟨k1,J,Y⟩:=QE hl Z;obtain⟨T,j2,V,j4⟩:=NE D;obtain⟨r1,o1,c,et,fz,A,I,ad,ab,hf⟩:=K.box b cs C;rw[m]at A;injection A with A;injection A with m1 m2;subst m1 m2;have q:=CZ (vs:=(Value.slice none 0 0).cells.toList) (o:=n+off) I (by simp;omega);have hlen:(Value.slice none 0 0).cells.toList.length=l.length:=by simp[k1]
  obtain⟨i',t'⟩:=da (s0:=s1) K (blk:=.box cs') C q (λk h1 h2=>by
   grind [Wr1]) (.box _ _ T) (λa7 j E=>by
   injection j with j;subst j;obtain⟨c0,e0,af,c',y,U,p3,p4,W,p6⟩:=q.there;rw[I]at y;injection y with y;injection y with q1 q2 q3;subst q1 q2 q3;refine⟨r,n,c',et,fz,m,U,by omega,λi x L=>?_,by simp_all⟩;by_cases ah:off<=i/\i<off+l.length;have H:cs'[off+(i-off)]?=l[i-off]?:=V (i-off) (by omega);rw[show off+(i-off)=i by omega,L]at H;have a8:i-off<(Value.slice none 0 0).cells.size:=by omega
   have e2:=W (i-off) (Value.slice none 0 0).cells[i-off] (by simp);refine⟨(Value.slice none 0 0).cells[i-off],by rw[<-e2];congr 1;omega,E (Y (i-off) x _ H.symm (by simp)),J _ (by simp)⟩;grind)
   (λ_ _ j=>by cases j)
  refine ZU (e:=⟨fX,(new,.arr true esz [])::[(b,.box cs')]⟩) (O S (ec (by simp_all) I (by omega) (λk h1 h2=>hf k (by omega) (by omega)) J)) rfl i' (R.trans t')
 cases h2;cases h2;cases h2;cases h2;cases h2;rename_i b ext i off;have ae:(fz (.slr new 0 0)).run ⟨env,s.σ⟩=none:=(by grind [fz,RM.run]);simp only[RM.run]at h2;split at h2;split at h2;split at h2;split at h2;grind [run_bind];cases h2;cases h2;cases h2;cases h2;cases h2;cases hc
theorem JE5(hi:Inv s)(he:bI s a.tmps env){zero parts os}(E: ∀j,j<os.length->s.σ[new+j]?=some .dead)(h:(opR F (.buildo zero parts os) new).run ⟨env,s.σ⟩=some e)
  (hc:JS P (.buildo zero parts os) o.op=true):bH P o a s e:=by
 simp only[opR]at h;obtain⟨l,h1,q⟩:=bind_some h;clear h;unfold JS at hc;simp only at hc;split at hc;rename_i t ps ab;simp only[JW]at hc;obtain⟨⟨hz,hn⟩,D⟩:=hc;obtain⟨z,N,ac,Q⟩:=qM hz;obtain⟨S,i1,O,K,ad⟩:=ZD os new hi E;split at q;rename_i cs hcs;split at q;rename_i r h3;simp only[RM.run]at q;injection q with q;subst q
 let s1:Sn:=⟨upd (gH os new) s.σ,S,s.w⟩
 have G: ∀(i:Nat) x,(kT os new (zero.map AV.p))[i]?=some x-> ∃u,z.cells[i]?=some u/\JD s1 x u/\u.oneCell'=true:=
  ZC (s:=s1) (cells:=z.cells) os new (qd N hn) K (by
   intro i x J;rw[fT]at J;cases hzi:zero[i]? with
   |none=>simp_all
   |some c=>
    simp[hzi]at J;subst J;have L:=Jq hzi;have Z:i<z.cells.size:=by omega
    have:=Q (w:=s1.w) (C:=s1.g.C) i c z.cells[i] hzi (by simp);exact⟨z.cells[i],by simp,.p _ _ this,this.one⟩)
 have fin: ∀{place:Nat->Option (Nat×Nat)},qI place parts ps.toList=true->
   ∃n,Instr.fill place z.cells (ps.toList.map λx=>(x.1,a.eval x.2))=some n/\JD s1 r (.agg n):=by
  intro place B;obtain⟨V,k2⟩:=dn he h1 B;obtain⟨n,M,f2,f3⟩:=ZO (s:=s1) (cells:=z.cells) hcs V (λk off size cs i v hk H=>by obtain⟨p1,Y,U,W⟩:=k2 k off size cs i v hk H;exact⟨p1,Y,U,λj y u T I=>(W j y u T I).mono hi O⟩) (by grind [ZG]) G;refine⟨n,M,?_⟩;have:=ML (s:=s1) (vs:=n.toList) h3 (by simpa using f2) (λv H=>by
    obtain⟨i,hi'⟩:=kQ H;have hi':n[i]?=some v:=by simpa using hi'
    have L:=PI hi';obtain⟨u,I,_,h1⟩:=f3 i cs[i] (by simp_all);simp_all)
   (λi y v T H=>by
    grind)
  simp_all
 have ae:(ps.map λx=>(x.1,a.eval x.2)).toList=ps.toList.map λx=>(x.1,a.eval x.2):=by simp
 split at D;rename_i fs I;simp only[JW]at D;obtain⟨A,B⟩:=D;obtain⟨n,M,hr⟩:=fin B;have aa:(λi=>(fs.map λf=>(f.offset,(szT P f.type).getD 0))[i]?)=CE P fs:=by
  funext i
  simp only[CE,Array.getElem?_map];cases hfi:fs[i]? with
  |none=>rfl
  |some f=>have:=RY.1 A f (Array.mem_of_getElem? hfi);cases hq:szT P f.type<;>simp[hq]at this⊢
 have a3:(fs.mapM λf=>do pure (f.offset,<-sizeOf f.type):Sem (Array (Nat×Nat))).run P s.w=.ok (fs.map λf=>(f.offset,(szT P f.type).getD 0)) s.w:=by
  rw[Array.mapM_eq_mapM_toList];simp only[Sem.run_map,dq (P:=P) (fs:=fs.toList) (λf R=>RY.1 A f (by simpa using R)),rH]
  congr 1
  grind
 have R:Instr.fill (λi=>(fs.map λf=>(f.offset,(szT P f.type).getD 0))[i]?) z.cells (ps.map λx=>(x.1,a.eval x.2)).toList=some n:=by simp_all
 have hb:(Instr.build t (ps.map λx=>(x.1,a.eval x.2))).run P s.w=.ok (.agg n) s.w:=by simp_all [Instr.build,CM,run_underlying]
 refine fO (e:=⟨r,gH os new⟩) (v:=.agg n) (g':=S) ?_ i1 O hr;simp_all [execOp];cases D;cases q;cases q;cases hc
end
end Go.Am
end
section
namespace Go.Am
theorem ld{new:Nat}{env:List (Nat×AV)}{σ:List Blk}: ∀{k new:Nat} {u:Unit},(rN new k).run ⟨env,σ⟩=some u-> ∀j,j<k->σ[new+j]?=some .dead
 |0,_,_,_,j,hj=>by omega
 |k+1,new,u,h,j,hj=>by
  simp only[rN,RM.run]at h;split at h;rename_i x e;cases x with
  |dead=>
   dsimp only at h;cases j with
   |zero=>exact e
   |succ j=>have:=ld (new:=0) h j (by omega);grind
  |box=>cases h
  |arr=>cases h
  cases h
section
variable {P:Program} {F:Orc} {s:Sn} {a:Act} {env:List (Nat×AV)} {o:Oper} {new:Nat} {e:Eff}
theorem Zk(q:iL P F)(hi:Inv s)(he:bI s a.tmps env){n:AOp}(h:(opD F n new).run ⟨env,s.σ⟩=some e)(hc:JS P n o.op=true):bH P o a s e:=by
 unfold opD at h;obtain⟨u,r,h⟩:=bind_some h;have g:=ld (new:=0) r;clear r;have j:jT n=1->s.σ[new]?=some .dead:=λh1=>g 0 (by omega);cases n with
 |mv x=>grind [Z0]
 |mkarr esz x=>exact JFq hi (j rfl) h hc
 |pick=>grind [JHK]
 |newbox=>exact JE6 hi (j rfl) h hc
 |box=>exact JJ9 hi he (j rfl) h hc
 |build=>grind [JFw]
 |lits=>grind [JIt,jT]
 |load=>grind [JIB]
 |store=>grind [JGa]
 |nilchk=>grind [JDm]
 |bin op t x y=>cases t<;>grind [Ia,F3,Dv,Ef,D2,Dj]
 |un=>grind [JL4]
 |conv k x=>
  grind [JC7,jT,JIo]
 |mkslice=>grind [JBx,jT]
 |slice=>grind [JFp]
 |faddr=>grind [JFy]
 |field=>grind [JFI]
 |iaddr=>grind [JGm]
 |aaddr=>grind [JGK]
 |sidx=>grind [JHS]
 |aidx=>grind [JIq]
 |extr=>grind [JIw]
 |call=>exact JIj q hi he g h hc
 |callv=>exact JF0 q hi he g h hc
 |len=>grind [JJ6]
 |alen=>grind [JIR]
 |app=>grind [JJi]
 |appz=>grind [JIO]
 |appn=>exact JIr hi he (j rfl) h hc
 |appc=>exact JHG hi he (j rfl) h hc
 |ppre=>exact JIl hi he h hc
 |psuf=>exact JIf hi he h hc
 |appp=>exact JHP hi he h hc
 |mm=>grind [Zw]
 |mkfn=>grind [JHQ]
 |newboxo=>exact JB0 hi g h hc
 |buildo=>exact JE5 hi he g h hc
 |storen=>exact JDK hi he (j rfl) h hc
 |callo=>exact JF7 q hi he g h hc
end
def xI(P:Program)(N:Nat)(ops:Array Oper)(i:bS)(o:Oper):Bool:=
 JS P i.op o.op&&i.dst==o.dst&&(match i.dst with
  |some d=>decide (d<N)
  |none=>true)&&(match i.g,o.guard with
  |none,none=>true
  |some (g,w),some (j,w')=>w==w'&&(ops[j]?).bind (·.dst)==some g
  |_,_=>false)
def Sim(N:Nat)(E:Sn)(st:St)(a:Act)(w:World):Prop:=a.tmps.size=N/\a.defers=[]/\ ∃g,Inv ⟨st.sto,g,w⟩/\bI ⟨st.sto,g,w⟩ a.tmps st.env/\aW E ⟨st.sto,g,w⟩
theorem bI.put{s:Sn}{tmps:Array Value}{env:List (Nat×AV)}(he:bI s tmps env){d:Nat}(hd:d<tmps.size){x:AV}{v:Value}(hv:JD s x v):
  bI s (tmps.setIfInBounds d v) ((d,x)::env):=by
 intro n y e;simp only[lk]at e;split at e;simp_all;rename_i g;obtain⟨u,h1,h2⟩:=he n y e;grind
theorem Sim.putd{N:Nat}{E:Sn}{st:St}{a:Act}{w w':World}{g g':Gh}{e:Eff}{v:Value}{d:Option Nat}
  (h1:a.tmps.size=N) (h2:a.defers=[]) (hi:Inv ⟨st.sto,g,w⟩) (he:bI ⟨st.sto,g,w⟩ a.tmps st.env) (k:aW E ⟨st.sto,g,w⟩) (hd: ∀x,d=some x->x<N)
  (hi':Inv ⟨upd e.ws st.sto,g',w'⟩) (h:aW ⟨st.sto,g,w⟩ ⟨upd e.ws st.sto,g',w'⟩) (hv:JD ⟨upd e.ws st.sto,g',w'⟩ e.val v):
  Sim N E (Am.put d e st) (a.put d v) w':=by
 have j:=he.mono hi h;cases d with
 |none=>exact⟨h1,h2,g',hi',j,k.trans h⟩
 |some d=>exact⟨by grind [Act.put],h2,g',hi',j.put (by simp_all) hv,k.trans h⟩
section
variable {P:Program} {F:Orc} {N:Nat} {E:Sn} {st:St} {a:Act} {w:World} {ops:Array Oper} {i:bS} {o:Oper} {e:Eff} {new k:Nat} {Q:Exit->Act->World->Prop} {K:Act->World->Prop}
theorem JBk{s:Sn}:JD s fX undef:=.tup _ _ rfl λi x v h=>by simp at h
theorem Bh(G:iL P F)(hs:Sim N E st a w)(ho:ops[k]?=some o)(hc:xI P N ops i o=true)(h:(bW F i new).run st=some e)
  (next: ∀n w',Sim N E (Am.put i.dst e st) n w'->K n w'):wpOp P ops Q k K a w:=by
 obtain⟨h1,h2,g,hi,y,D⟩:=hs;simp only[xI,JW,beq_iff_eq]at hc;obtain⟨⟨⟨hc,I⟩,L⟩,q⟩:=hc;have z: ∀x,i.dst=some x->x<N:=(by grind);have run: ∀{e:Eff},(opD F i.op new).run st=some e->(∀n w',Sim N E (Am.put i.dst e st) n w'->K n w')->o.wp P a w K Q:=(by intro e h next;refine Zk (s:=⟨st.sto,g,w⟩) (env:=st.env) G hi y h hc K Q λv w' g' hi' J A=>next _ _ ?_;grind [Sim.putd]);have skip:(∀n w',Sim N E (Am.put i.dst ⟨fX,[]⟩ st) n w'->K n w')->K (a.put o.dst undef) w:=by intro next;refine next _ _ ?_;rw[<-I];exact Sim.putd (e:=⟨fX,[]⟩) h1 h2 hi y D z hi (.refl _) JBk
 unfold wpOp;rw[ho];dsimp only;unfold bW at h;cases hig:i.g with
 |none=>
  grind [Region.wanted]
 |some H=>
  obtain⟨M,C⟩:=H;rw[hig]at h q;cases hog:o.guard with
  |none=>simp_all
  |some x=>
   obtain⟨j,B⟩:=x;rw[hog]at q;simp only[JW,beq_iff_eq]at q;obtain⟨rfl,T⟩:=q;simp only[RM.run]at h;split at h;rename_i v A;obtain⟨u,S,r⟩:=y _ _ A;split at h;rename_i b;cases r with
   |p _ _ r=>
    cases r with
    |b x=>
     have R:yielded ops a.tmps j=some b:=by grind [yielded]
     grind [Region.wanted,RM.run]
   cases r with
   |tup _ vs O _=>
    grind [yielded,Region.wanted,RM.run]
   cases h;cases h
end
theorem me{σ:List Blk}{n b:Nat}{x:Blk}(h:(σ++List.replicate n Blk.dead)[b]?=some x)(hx:x≠.dead):σ[b]?=some x:=by
 grind
theorem ol{σ:List Blk}{n b:Nat}{x:Blk}(h:σ[b]?=some x):(σ++List.replicate n Blk.dead)[b]?=some x:=by
 grind
theorem NG{σ:List Blk}{g:Gh}{w:World}{n b r o:Nat}:Wr1 ⟨σ++List.replicate n .dead,g,w⟩ b r o↔Wr1 ⟨σ,g,w⟩ b r o:=by
 grind [Wr1]
theorem dr{σ:List Blk}{g:Gh}{w:World}{n:Nat}:aW ⟨σ,g,w⟩ ⟨σ++List.replicate n .dead,g,w⟩ where
 keep:=.refl _ _
 cmono _ _ h:=h
 cnew _ _ h:=.inl h
 wnew _ _ h:=let⟨b,e⟩:=h;.inl ⟨b,NG.1 e⟩
 len:=by simp
 box b cs h:=⟨⟨cs,ol h,rfl⟩,rfl⟩
 arr b wm esz rows h:=⟨wm,rows,ol h,id,zQ0 _,λ_=>rfl⟩
theorem JHa{σ:List Blk}{g:Gh}{w:World}{n:Nat}(hi:Inv ⟨σ,g,w⟩):Inv ⟨σ++List.replicate n .dead,g,w⟩:=by
 have t:=dr (σ:=σ) (g:=g) (w:=w) (n:=n);refine⟨λb cs h=>?_,λb wm esz rows h=>?_,λb1 b2 r o h1 h2=>hi.apart b1 b2 r o (NG.1 h1) (NG.1 h2),λr o j=>⟨(hi.const r o j).1,λb B=>(hi.const r o j).2 b (NG.1 B)⟩⟩;obtain⟨r,o,c,e,fz,C,F,D,z,y⟩:=hi.box b cs (me h (by simp));exact⟨r,o,c,e,fz,C,F,D,λi x E=>let⟨v,k,A,q⟩:=z i x E;⟨v,k,A.mono hi t,q⟩,y⟩;exact hi.arr b wm esz rows (me h (by simp))
theorem Sim.room{N:Nat}{E:Sn}{st:St}{a:Act}{w:World}(h:Sim N E st a w)(n:Nat):Sim N E ⟨st.env,room n st.sto⟩ a w:=by
 unfold Am.room;split;exact h;obtain⟨h1,h2,g,hi,j,e⟩:=h;exact⟨h1,h2,g,JHa hi,j.mono hi dr,e.trans dr⟩
theorem Sim.heap{N:Nat}{E:Sn}{st:St}{a:Act}{w w':World}(h:Sim N E st a w)(hh:w'.heap=w.heap)(ho:w'.os=w.os)(hp:w'.output=w.output):Sim N E st a w':=by obtain⟨h1,h2,g,hi,k,j⟩:=h;obtain⟨e,t'⟩:=OV hi hh ho hp;exact⟨h1,h2,g,e,k.mono hi t',j.trans t'⟩
theorem Sim.congr{N:Nat}{E:Sn}{st st':St}{a:Act}{w:World}(h:Sim N E st a w)(he: ∀m,lk m st'.env=lk m st.env)(hs:st'.sto=st.sto):Sim N E st' a w:=by obtain⟨h1,h2,g,hi,j,e⟩:=h;refine⟨h1,h2,g,?_⟩;rw[hs];exact⟨hi,λn x k=>j n x (by simp_all),e⟩
end Go.Am
end
section
namespace Go.Am
def eG(P:Program)(N:Nat)(ops:Array Oper):List bS->List Oper->Bool|[],[]=>true|i::r,o::q=>xI P N ops i o&&eG P N ops r q|_,_=>false
def PL(x y:bS):Bool:=
 (match x.dst with
 |none=>true
 |some m=>y.dst !=some m&& !(uX y).contains m)&&(match y.dst with
 |none=>true
 |some m=> !(uX x).contains m)
def ON(x y:bS):Bool:=(!wB x.op|| !EU y.op)&&(!wB y.op|| !EU x.op)
def FX:List Nat->List Nat->List Nat|[],acc=>acc|x::r,acc=>match acc.contains x with|true=>FX r acc|false=>FX r (x::acc)
theorem ZT{i:Nat}: ∀{l acc:List Nat},i∈FX l acc->i∈l\/i∈acc
 |[],_,h=>.inr h
 |x::r,acc,h=>by
  simp only[FX]at h;split at h;exact(ZT h).imp (FK _) id
  ·rcases ZT h with h|h
   all_goals grind
def Af(l:List Nat):List Nat:=FX l []
theorem JEN{i:Nat}{l:List Nat}(h:i∈Af l):i∈l:=(ZT h).resolve_right (by simp)
def Ai(acc:List (List Nat))(o:Oper):List Nat:=Af<|(o.after.toList.filter λe=>Region.binds .any e).flatMap λe=>e.on::(acc[e.on]?).getD []
def jq(acc:List (List Nat)):List Oper->List (List Nat)|[]=>acc|o::r=>jq (acc++[Ai acc o]) r
def YC(e:List (List Nat))(pairs:List (Nat×Nat))(i j:Nat)(x y:bS):Bool:=
 ((e[j]?).getD []).contains i||(PL x y&&(ON x y||pairs.contains (i,j)))
def IC(e:List (List Nat))(pairs:List (Nat×Nat))(j:Nat)(y:bS):Nat->List bS->Bool|_,[]=>true|i,x::r=>(decide (j<=i)||YC e pairs i j x y)&&IC e pairs j y (i+1) r
def NI(g:List (List Nat))(pairs:List (Nat×Nat))(e:List bS):Nat->List bS->Bool|_,[]=>true|j,y::r=>IC g pairs j y 0 e&&NI g pairs e (j+1) r
def NV:Nat->List Oper->Bool|_,[]=>true|j,o::r=>(o.after.all λe=> !Region.binds .any e||decide (e.on<j))&&NV (j+1) r
def WB(P:Program)(N:Nat)(draw:Bool)(pairs:List (Nat×Nat))(ins:List bS)(ops:Array Oper):Bool:=
 eG P N ops ins ops.toList&&(!draw||(NV 0 ops.toList&&NI (jq [] ops.toList) pairs ins 0 ins))
section
variable {P:Program} {F:Orc} {N:Nat} {E:Sn} {st st':St} {a:Act} {w:World} {ops:Array Oper} {Q:Exit->Act->World->Prop}
theorem pb: ∀{ins:List bS} {os:List Oper},eG P N ops ins os=true->ins.length=os.length/\ ∀(k:Nat) i,ins[k]?=some i-> ∃o,os[k]?=some o/\xI P N ops i o=true
 |[],[],_=>⟨rfl,by simp⟩
 |i::r,o::q,h=>by
  simp only[eG,JW]at h;obtain⟨h1,h2⟩:=pb h.2;grind
 |[],_::_,h=>by grind [eG]
 |_::_,[],h=>by grind [eG]
theorem oq(v:iL P F): ∀{r:List bS} {k new:Nat} {st:St} {a:Act} {w:World},(∀(j:Nat) i,r[j]?=some i-> ∃o,ops[k+j]?=some o/\xI P N ops i o=true)->
  fM F r new st=some st'->Sim N E st a w->(∀n w',Sim N E st' n w'->Q .normal n w')->wpOps P ops Q (List.range' k r.length) a w
 |[],k,new,st,a,w,_,h,q,next=>by simp only[fM]at h;cases h;exact next a w q
 |i::r,k,new,st,a,w,y,h,q,next=>by
  simp only[fM]at h;split at h;rename_i e A;obtain⟨o,x,g⟩:=y 0 i rfl;rw[fr,List.range'_succ,wpOps_cons];refine Bh v q x g A λn w' hs'=>oq v (λj i z=>?_) h hs' next;obtain⟨o,x,g⟩:=y (j+1) i (by simpa using z);grind;cases h
theorem Ao: ∀{ins:List bS} {g:Nat} {st:St},fM F ins g st=some st'->
  ∃(new:Nat->Nat) (S:Nat->St) (eff:Nat->Eff),Run F ins new S eff/\S 0=st/\S ins.length=st'
 |[],g,st,h=>by
  simp only[fM]at h;injection h with h;subst h;exact⟨λ_=>0,λ_=>st,λ_=>⟨fX,[]⟩,⟨by simp⟩,rfl,rfl⟩
 |i::r,g,st,h=>by
  simp only[fM]at h;split at h;rename_i e v;obtain⟨new,S,eff,n,q,j⟩:=Ao h;refine⟨fun|0=>g|k+1=>new k,fun|0=>st|k+1=>S k,fun|0=>e|k+1=>eff k,⟨λk x o=>?_⟩,rfl,j⟩;cases k with
  |zero=>simp_all
  |succ k=>exact n.step k x (by simpa using o)
  cases h
theorem Bf: ∀{ins:List bS} {g:Nat} {st:St} {l j:Log},iK F ins g st l=some (st',j)->
  ∃(new:Nat->Nat) (S:Nat->St) (eff:Nat->Eff),Run F ins new S eff/\S 0=st/\S ins.length=st'/\
   (∀k,k<l.length->j[k]?=l[k]?)/\ ∀(k:Nat) i,ins[k]?=some i->j[l.length+k]?=some (iM ((bW F i (new k)).reads (S k)),(eff k).ws.map (·.1))
 |[],g,st,l,j,h=>by
  simp only[iK]at h;injection h with h;injection h with h1 h2;subst h1 h2;exact⟨λ_=>0,λ_=>st,λ_=>⟨fX,[]⟩,⟨by simp⟩,rfl,rfl,λ_ _=>rfl,by simp⟩
 |i::r,g,st,l,j,h=>by
  simp only[iK]at h;split at h
  ·rename_i e z;obtain⟨new,S,eff,q,v,o,y,A⟩:=Bf h;refine⟨fun|0=>g|k+1=>new k,fun|0=>st|k+1=>S k,fun|0=>e|k+1=>eff k,⟨λk x n=>?_⟩,rfl,o,λk w=>?_,λk x n=>?_⟩
   cases k with
   |zero=>simp_all
   |succ k=>exact q.step k x (by simpa using n)
   all_goals grind
  cases h
theorem PE{b:Nat}: ∀{l:List Loc},Loc.blk b∈l->b∈iM l
 | .blk c::r,h=>by
  simp only[iM,dZ]at*;rcases h with h|h;simp_all;exact .inr (PE h)
 | .slot n::r,h=>by simp only[iM];refine PE ?_;simpa using h
 |[],h=>by simp at h
theorem YU{a b:List Nat}(h:fR a b=true){x:Nat}(hx:x∈a):x∉b:=by
 grind [fR]
theorem pt{l:Log}: ∀{ps:List (Nat×Nat)} {i j:Nat},CL l ps=true->(i,j)∈ps->
  ∃x y,l[i]?=some x/\l[j]?=some y/\fR x.2 y.1=true/\fR x.2 y.2=true/\fR x.1 y.2=true
 |[],i,j,_,h=>by simp at h
 |(p,q)::r,i,j,h,hm=>by
  simp only[CL,JW]at h;obtain⟨h1,h2⟩:=h;rcases dZ.1 hm with e|e;grind;exact pt h2 e
def XX(ops:Array Oper)(D:Nat->Bool)(k:Nat):Prop:= ∀o,ops[k]?=some o-> ∀e∈o.after,Region.binds .any e=true->D e.on=true
def A0(ops:Array Oper)(D:Nat->Bool):Prop:= ∀k,D k=true->XX ops D k
def gj(ops:Array Oper)(k i:Nat):Prop:= ∀D,A0 ops D->XX ops D k->D i=true
theorem A9: ∀{os:List Oper} {acc:List (List Nat)},(∀(j:Nat) o,os[j]?=some o->ops[acc.length+j]?=some o)->(∀(k:Nat) l i,acc[k]?=some l->i∈l->gj ops k i)->
  ∀(k:Nat) l i,(jq acc os)[k]?=some l->i∈l->gj ops k i
 |[],acc,_,n=>n
 |o::r,acc,y,n=>by
  refine A9 (os:=r) (acc:=acc++[Ai acc o]) (λj x A=>?_) λk l i g hi=>?_;have:=y (j+1) x (by simpa using A);grind;rcases uO g with g|⟨B,g⟩;simp_all;have q:k=acc.length:=(by grind);subst q;simp at g;subst g;intro D hD z;replace hi:=JEN hi;simp only[List.mem_flatMap,List.mem_filter]at hi;obtain⟨e,⟨w,v⟩,hi⟩:=hi;have h:=z o (by simpa using y 0 o rfl) e (by simpa using w) v;rcases dZ.1 hi with rfl|hi;exact h;cases hac:acc[e.on]? with
  |none=>simp_all
  |some l=>rw[hac]at hi;exact n _ l i hac hi D hD (hD _ h)
theorem q8{g:List (List Nat)}{pairs:List (Nat×Nat)}{j:Nat}{y:bS}: ∀{r:List bS} {e:Nat},IC g pairs j y e r=true-> ∀(k:Nat) x,r[k]?=some x->e+k<j->YC g pairs (e+k) j x y=true
 |[],e,_,k,x,n,_=>by simp at n
 |z::r,e,h,k,x,n,o=>by
  simp only[IC,JW,BA,decide_eq_true_eq]at h;cases k with
  |zero=>grind
  |succ k=>
   have:=q8 h.2 k x (by simpa using n) (by omega);grind
theorem po{j:List (List Nat)}{pairs:List (Nat×Nat)}{g:List bS}: ∀{r:List bS} {e:Nat},NI j pairs g e r=true-> ∀(k:Nat) y,r[k]?=some y->IC j pairs (e+k) y 0 g=true
 |[],e,_,k,y,n=>by simp at n
 |z::r,e,h,k,y,n=>by
  simp only[NI,JW]at h;cases k with
  |zero=>simp_all
  |succ k=>
   have:=po h.2 k y (by simpa using n);grind
theorem q7: ∀{r:List Oper} {g:Nat},NV g r=true-> ∀(k:Nat) o,r[k]?=some o-> ∀e∈o.after,Region.binds .any e=true->e.on<g+k
 |[],g,_,k,o,j=>by simp at j
 |z::r,g,h,k,o,j=>by
  simp only[NV,JW]at h;cases k with
  |zero=>
   grind [Array.all_eq_true_iff_forall_mem]
  |succ k=>intro e n q;have:=q7 h.2 k o (by simpa using j) e n q;omega
theorem JFY{x y:bS}(h:PL x y=true):(∀m,x.dst=some m->y.dst≠some m/\m∉uX y)/\(∀m,y.dst=some m->m∉uX x):=by
 grind [PL]
variable {ins:List bS} {new:Nat->Nat} {S:Nat->St} {eff:Nat->Eff}
theorem JGS(hr:Run F ins new S eff){i j:Nat}(hi:i<ins.length)(hj:j<ins.length)(h1:PL ins[i] ins[j]=true)
  (h2:ON ins[i] ins[j]=true\/(fR ((eff i).ws.map (·.1)) (iM ((bW F ins[j] (new j)).reads (S j)))=true/\
   fR ((eff i).ws.map (·.1)) ((eff j).ws.map (·.1))=true/\fR (iM ((bW F ins[i] (new i)).reads (S i))) ((eff j).ws.map (·.1))=true)):LS F ins new S eff i j:=by
 obtain⟨s1,C⟩:=JFY h1;have q:ins[i]?=some ins[i]:=aQ hi;have o:ins[j]?=some ins[j]:=aQ hj;obtain⟨z,_⟩:=hr.step i _ q;obtain⟨v,_⟩:=hr.step j _ o;refine⟨λx y m g e r=>?_,λx y m g e r n=>?_,λy b e k=>?_,λx b g k n=>?_⟩;rw[q]at g;cases g;rw[o]at e;cases e;exact⟨(s1 m r).1,λn=>(s1 m r).2 (k9 F _ _ _ _ n)⟩;rw[q]at g;cases g;rw[o]at e;cases e;exact C m r (k9 F _ _ _ _ n);rw[o]at e;cases e;rcases h2 with h2|⟨w,A,B⟩;simp only[ON,JW,BA,kR]at h2;rcases h2.1 with h|h;rw[XZ F _ _ h _ _ z]at k;simp at k;refine⟨?_,lx F _ _ h _ _ v b⟩;rw[XZ F _ _ (Ay h) _ _ v];simp;exact⟨YU A k,λn=>YU w k (PE n)⟩;rw[q]at g;cases g;rcases h2 with h2|⟨w,A,B⟩;simp only[ON,JW,BA,kR]at h2;rcases h2.2 with h|h;rw[XZ F _ _ h _ _ v]at k;simp at k;exact lx F _ _ h _ _ z b n;grind [YU,PE]
def Dl(e:Array Bool):Nat->Bool:=λj=>e.getD j false
theorem Bb{e:Array Bool}{i:Nat}(hi:i<e.size):Dl (e.setIfInBounds i true)=λj=>if j=i then true else Dl e j:=by
 funext j
 unfold Dl;by_cases h:j=i
 all_goals simp_all [Ne.symm]
theorem pm{l:Array Bool}{i:Nat}(hi:i<l.size)(h:l.getD i false=false):(l.setIfInBounds i true).count false+1=l.count false:=by
 have e:l[i]=false:=by simp_all
 grind [Array.getElem_mem]
theorem pw{l:Array Bool}(h:l.count false=0){i:Nat}(hi:i<l.size):l.getD i false=true:=by
 grind [pm]
theorem zt{l:Array Bool}: ∀m,m<=l.size->(∀j,j<m->Dl l j=true)\/ ∃k,k<m/\Dl l k=false/\ ∀j,j<k->Dl l j=true
 |0,_=>.inl λj e=>by omega
 |m+1,h=>by
  rcases zt (l:=l) m (by omega)with h1|⟨k,a,b,c⟩
  all_goals grind
theorem JE9{l:Array Bool}{j:Nat}(hj:j<l.size):l.getD j true=l.getD j false:=by simp[hj]
theorem JKO(hF:iL P F)(hr:Run F ins new S eff)(hlen:ins.length=ops.size)(hc: ∀(k:Nat) i,ins[k]?=some i-> ∃o,ops[k]?=some o/\xI P N ops i o=true)
  (G: ∀(k:Nat) o,ops[k]?=some o-> ∀e∈o.after,Region.binds .any e=true->e.on<k)
  (K: ∀i j,i<j->j<ins.length->gj ops j i\/LS F ins new S eff i j)
  (next: ∀H w',Sim N E (S ins.length) H w'->Q .normal H w'):
  ∀(n:Nat) (g:Array Bool) (st:St) (a:Act) (w:World),g.size=ops.size->Agree ins eff (S 0) (Dl g) st->Sim N E st a w->A0 ops (Dl g)->g.count false=n->
   wpAny P .any ops Q n g a w:=by
 intro n
 induction n with
 |zero=>
  intro g st a w L C R r B;refine⟨?_,?_⟩;cases hre:Region.ready .any ops g with
  |nil=>rfl
  |cons j l=>
   exfalso;have h:j∈Region.ready .any ops g:=by rw[hre];simp
   grind [mem_ready,pw]
  ·obtain⟨e1,e2⟩:=JDE hr C λj x=>pw B (by omega);exact next a w (R.congr (λm=>(e1 m).symm) e2.symm)
 |succ n ih=>
  intro g st a w L C R r B;refine⟨λa2=>?_,λk I=>?_⟩;exfalso;rcases zt (l:=g) ops.size (by omega)with z|⟨k,I,D,M⟩;have:g.count false=0:=(by rw[Array.count_eq_zero];intro h;obtain⟨i,hi,y⟩:=Array.getElem_of_mem h;have:=z i (by omega);unfold Dl at this;simp[hi,y]at this);omega;have h:k∈Region.ready .any ops g:=(by rw[mem_ready];refine⟨by rw[JE9 (by omega)];exact D,ops[k],by simp[I],λe y A=>?_⟩;exact M _ (G k ops[k] (by simp[I]) e y A));simp_all;obtain⟨h1,o,Y,z⟩:=mem_ready.1 I;have a0:k<ops.size:=(yk.1 Y).1;have D:Dl g k=false:=by grind [Dl]
  have T:ins[k]?=some (ins[k]'(by omega)):=aQ _;obtain⟨o',W,U⟩:=hc k _ T;have q:XX ops (Dl g) k:=by intro O v e y A;rw[Y]at v;cases v;exact z e y A
  obtain⟨Z,r2⟩:=JGo hr C T D (λj x hDj=>by
   rcases K j k x (by omega)with h|h;have:=h _ r q;simp_all;exact h) (λj x V hDj=>by
   rcases K k j x V with h|h;have:=h _ r (r j hDj);simp_all;exact h)
  refine Bh hF R W U Z λH w' hs'=>ih _ _ H w' (by simp[L]) ?_ hs' ?_ ?_;grind [Bb];rw[Bb (by omega)];intro j x O v e y A;dsimp only at x⊢;have h:Dl g e.on=true->(if e.on=k then true else Dl g e.on)=true:=by simp_all
  by_cases J:j=k;subst J;exact h (q O v e y A);rw[if_neg J]at x;exact h (r j x O v e y A);grind [pm]
theorem JJt(Z:iL P F)(H:P.follows .mixedOrders=true){id:Nat}{draw:Bool}{pairs:List (Nat×Nat)}{ins:List bS}(h:region F pairs ins st=some st')
  (hc:WB P N draw pairs ins ops=true) (hs:Sim N E st a w) (next: ∀U w',Sim N E st' U w'->Q .normal U w'):(Code.region id ops draw).wp P Q a w:=by
 simp only[WB,JW,BA,kR]at hc;obtain⟨K,C⟩:=hc;obtain⟨hlen,G⟩:=pb K;have hlen:ins.length=ops.size:=by simp_all
 have G: ∀(k:Nat) i,ins[k]?=some i-> ∃o,ops[k]?=some o/\xI P N ops i o=true:=λk i hi=>by simp_all
 have T:=hs.room (news ins);have J: ∃(new:Nat->Nat) (S:Nat->St) (eff:Nat->Eff),Run F ins new S eff/\S 0=⟨st.env,room (news ins) st.sto⟩/\S ins.length=st'/\
   ∀i j,(i,j)∈pairs-> ∃x y,ins[i]?=some x/\ins[j]?=some y/\fR ((eff i).ws.map (·.1)) (iM ((bW F y (new j)).reads (S j)))=true/\
   fR ((eff i).ws.map (·.1)) ((eff j).ws.map (·.1))=true/\fR (iM ((bW F x (new i)).reads (S i))) ((eff j).ws.map (·.1))=true:=by
  unfold region at h;split at h;grind [Ao];split at h;rename_i s' l n;split at h;rename_i M;cases h;obtain⟨new,S,eff,D,B,O,_,q⟩:=Bf n;refine⟨new,S,eff,D,B,O,λi j hm=>?_⟩;obtain⟨x,y,Y,W,d1,d2,d3⟩:=pt M hm;have R: ∀(k:Nat) z,l[k]?=some z->k<ins.length:=by
   intro k z hk;have:=Jq hk;have a7:l.length=ins.length:=by
    clear q D B O M Y W;have: ∀{r:List bS} {e:Nat} {s0:St} {A v:Log} {s1:St},iK F r e s0 A=some (s1,v)->v.length=A.length+r.length:=by
     intro r
     induction r with
     |nil=>simp[iK]
     |cons i r ih=>
      grind [iK]
    grind
   omega
  have hi:=R i x Y;have g:=R j y W;have L:ins[i]?=some ins[i]:=aQ hi;have I:ins[j]?=some ins[j]:=aQ g;have qi:=q i _ L;have qj:=q j _ I;simp only[List.length_nil,mC]at qi qj;grind;cases h;cases h
 obtain⟨new,S,eff,D,B,O,M⟩:=J;cases draw with
 |false=>
  refine wp_region ?_;rw[List.range_eq_range',<-hlen];have a8: ∃e,fM F ins e ⟨st.env,room (news ins) st.sto⟩=some st':=by
   unfold region at h;split at h;grind;split at h;rename_i s' l n;split at h;cases h;have: ∀{r:List bS} {e:Nat} {s0:St} {A v:Log} {s1:St},iK F r e s0 A=some (s1,v)->fM F r e s0=some s1:=by
    intro r
    induction r with
    |nil=>intro e s0 A v s1 h;simp only[iK]at h;injection h with h;injection h with h1 h2;subst h1;rfl
    |cons i r ih=>
     grind [iK,fM]
   grind;cases h;cases h
  grind [oq]
 |true=>
  obtain⟨he,hd⟩:=C.resolve_left (by simp);refine wp_region_any H ?_;have V:Sim N E (S 0) a {w with drawn:=w.drawn+1}:=by rw[B];exact T.heap rfl rfl rfl
  refine JKO Z D hlen G (λk o ho=>?_) (λi j a9 g=>?_) (by simp_all) ops.size _ (S 0) a _ (by simp) ?_ V ?_ ?_;have:=q7 he k o (by simpa using ho);simp_all;have L:ins[i]?=some (ins[i]'(by omega)):=aQ _;have I:ins[j]?=some ins[j]:=aQ g;have h1:=po hd j _ I;rw[mC]at h1;have h2:=q8 h1 i _ L (by omega);rw[mC]at h2;simp only[YC,BA,JW]at h2;rcases h2 with h2|⟨h2,h3⟩;grind [A9];grind [JGS];have:Dl (Array.replicate ops.size false)=λ_=>false:=by
   funext j;unfold Dl;simp[Array.getElem?_replicate];split<;>rfl
  rw[this];exact D3;intro j g;unfold Dl at g;simp[Array.getElem?_replicate]at g;grind;simp
end
end Go.Am
end
section
namespace Go.Am
def cO(P:Program)(N:Nat):bZ->Code->Bool
 | .bad,_=>true
 | .skip,c=>match c with| .skip=>true| .label _=>true|_=>false
 | .reg draw pairs ins,c=>match c with| .region _ ops d=>draw==d&&WB P N draw pairs ins ops|_=>false
 | .seq a b,c=>match c with| .seq x y=>cO P N a x&&cO P N b y|_=>false
 | .cond o a b,c=>match c with| .cond p x y=>bF o p&&cO P N a x&&cO P N b y|_=>false
 | .block id a,c=>match c with| .block e x=>id==e&&cO P N a x|_=>false
 | .loop _ a,c=>match c with| .loop x=>cO P N a x|_=>false
 | .lp _ _ _,_=>false
 | .scope a,c=>match c with| .scope x=>cO P N a x|_=>false
 | .exit id,c=>match c with| .exit e=>id==e|_=>false
 | .ret,c=>match c with| .ret=>true|_=>false
 | .keep _ a,c=>cO P N a c
 | .tidy _ a,c=>cO P N a c
 | .br _ pre o a b rest,c=>match c with| .seq (.seq p (.cond q x y)) z=>cO P N pre p&&bF o q&&cO P N a x&&cO P N b y&&cO P N rest z|_=>false
def pX:AX->Exit| .normal=>.normal| .exit id=>.exit id| .ret=>.ret
def HI(P:Program)(c:bZ)(st:St)(r:Out):Prop:=
 match c with
 | .lp n _ b=> ∃k,∀(N:Nat) (e:Code) (E:Sn) (a:Act) (w:World) (Q:Exit->Act->World->Prop),cO P N b e=true->E.σ.length<=n->n<=st.sto.length->Sim N E st a w->
   (∀g w',Sim N E r.2 g w'->Q (pX r.1) g w')->Code.rounds P e Q k a w
 |c=> ∀(N:Nat) (e:Code) (E:Sn) (a:Act) (w:World) (Q:Exit->Act->World->Prop),cO P N c e=true->Sim N E st a w->
  (∀g w',Sim N E r.2 g w'->Q (pX r.1) g w')->e.wp P Q a w
theorem HI.get{P:Program}{c:bZ}{st:St}{r:Out}(h:HI P c st r){N:Nat}{e:Code}{E:Sn}{a:Act}{w:World}{Q:Exit->Act->World->Prop}(hc:cO P N c e=true)(hs:Sim N E st a w)
  (next: ∀g w',Sim N E r.2 g w'->Q (pX r.1) g w'):e.wp P Q a w:=by
 cases c<;>first|exact h N e E a w Q hc hs next|grind [cO]
theorem OA{env:List (Nat×AV)}{n:Nat}{x:AV}: ∀{live:List Nat},lk n (restr live env)=some x->lk n env=some x
 |[],h=>by grind [restr,lk]
 |k::r,h=>by
  simp only[restr]at h;split at h;rename_i v e;simp only[lk]at h;split at h;simp_all;exact OA h;exact OA h
theorem Cu{m:Nat}{sto:List Blk}{n:Nat}{y:AV}: ∀{env g:List (Nat×AV)},tH m sto env=some g->lk n g=some y-> ∃x,lk n env=some x/\fin m [] sto x=some y
 |[],g,h,hy=>by grind [tH,lk]
 |(k,x)::r,g,h,hy=>by
  simp only[tH]at h;split at h;rename_i z l q j;injection h with h;subst h;simp only[lk]at hy⊢;split at hy;simp_all;rename_i e;obtain⟨o,h1,h2⟩:=Cu j hy;simp_all;cases h
section
variable {P:Program} {N:Nat} {E:Sn} {st st':St} {a:Act} {w:World}
theorem Sim.restr(h:Sim N E st a w)(live:List Nat):Sim N E ⟨restr live st.env,st.sto⟩ a w:=by obtain⟨h1,h2,g,hi,j,e⟩:=h;exact⟨h1,h2,g,hi,λn x k=>j n x (OA k),e⟩
theorem NZ{n:Nat}{live:List Nat}(h:Sim N E st a w)(hc:clean n live st=some st')(r:E.σ.length<=n)(hn:n<=st.sto.length):Sim N E st' a w/\st'.sto.length=n:=by
 unfold clean at hc;split at hc;rename_i e;injection hc with hc;subst hc;exact⟨h.restr live,e⟩;split at hc;rename_i ev l o B;injection hc with hc;subst hc;obtain⟨h1,h2,g,hi,D,q⟩:=h;obtain⟨H,I⟩:=PB B;have hlen:l.length=n:=by simp_all
 have j:jr ⟨st.sto,g,w⟩ n [] l:=(by refine⟨hi,hn,List.nodup_nil,λb z=>by simp at z,by simp[hlen],λk x J=>?_⟩;grind [rX]);refine⟨⟨h1,h2,(iY ⟨st.sto,g,w⟩ n [] l).g,Bs j,λk y C=>?_,pj j q r⟩,hlen⟩;obtain⟨x,F,A⟩:=Cu o C;obtain⟨v,G,hrel⟩:=D k x (OA F);exact⟨v,G,XL j hrel A⟩;cases hc
def mP(P:Program):List tJ->List ResultVar->Bool|[],[]=>true| .tmp t::r,.tmp t'::q=>t==t'&&mP P r q| .cell t agg size::r,.cell t' ty::q=>t==t'&&agT P ty==some agg&&szT P ty==some size&&mP P r q|_,_=>false
def RU(tmps:Array Value):ResultVar->Sem Value| .tmp t=>pure (tmps.getD t undef)| .cell a t=>do loadVar t (<-asAddr (tmps.getD a undef))
theorem XT{s:Sn}{env:List (Nat×AV)}{tmps:Array Value}(hi:Inv s)(he:bI s tmps env): ∀{B:List tJ} {C:List ResultVar} {vs:List AV},mP P B C=true->(lW B).run ⟨env,s.σ⟩=some vs->
  ∃j:List Value,(C.mapM (RU tmps)).run P s.w=.ok j s.w/\vs.length=j.length/\ ∀(i:Nat) x v,vs[i]?=some x->j[i]?=some v->JD s x v
 |[],[],vs,_,h=>by simp_all [lW,RM.run]
 | .tmp t::r,.tmp t'::q,vs,g,h=>by
  simp only[mP,JW,beq_iff_eq]at g;obtain⟨rfl,g⟩:=g;simp only[lW]at h;obtain⟨x,h1,h⟩:=bind_some h;obtain⟨l,h2,h⟩:=bind_some h;simp only[RM.run]at h;injection h with h;subst h;simp only[RM.run]at h1;split at h1;rename_i y A;injection h1 with h1;subst h1;obtain⟨v,M,E⟩:=he _ _ A;obtain⟨j,F,n,G⟩:=XT hi he g h2;refine⟨v::j,?_,by simp[n],λi x u L J=>?_⟩;simp_all [RU];grind;cases h1
 | .cell t agg size::r,.cell t' ty::q,vs,g,h=>by
  simp only[mP,JW,beq_iff_eq]at g;obtain⟨⟨⟨rfl,N⟩,D⟩,g⟩:=g;simp only[lW]at h;obtain⟨x,h1,h⟩:=bind_some h;obtain⟨e,K,h⟩:=bind_some h;obtain⟨l,h2,h⟩:=bind_some h;simp only[RM.run]at h;injection h with h;subst h;simp only[RM.run]at h1;split at h1;rename_i y A;injection h1 with h1;subst h1;obtain⟨v,M,E⟩:=he _ _ A;obtain⟨j,F,n,G⟩:=XT hi he g h2;obtain⟨H,o,ws,T,O,I,_,Q⟩:=n4 hi K E;obtain⟨R,S⟩:=qy (P:=P) N D O I;have k: ∃u,(loadVar ty ⟨H,o,none⟩).run P s.w=.ok u s.w/\JD s e.val u:=(by grind);obtain⟨u,J,hrel⟩:=k;refine⟨u::j,?_,by simp[n],λi x z L D=>?_⟩;simp_all [RU,asAddr];grind;cases h1
 |[],_::_,_,g,_=>by grind [mP]
 | .tmp _::_,[],_,g,_=>by grind [mP]
 | .cell _ _ _::_,[],_,g,_=>by grind [mP]
 | .tmp _::_,.cell _ _::_,_,g,_=>by grind [mP]
 | .cell _ _ _::_,.tmp _::_,_,g,_=>by grind [mP]
theorem OW{m:Nat}{fresh:Bool}{sto:List Blk}: ∀{es:List Ent},∀b∈iN m fresh sto es,m<=b
 |[],b,h=>by grind [iN]
 | .elem _ _ _::r,b,h=>OW (es:=r) b (by simpa[iN]using h)
 | .whole c::r,b,h=>by
  simp only[iN]at h;split at h;exact OW (es:=r) b h;rename_i g;have e:b∈c::iN m fresh sto r->m<=b:=(by intro h;rcases dZ.1 h with rfl|h;omega;exact OW (es:=r) b h);grind
theorem Bp{s:Sn}{vs:List AV}{e:List Value}(hl:vs.length=e.length)(hr: ∀(i:Nat) x v,vs[i]?=some x->e[i]?=some v->JD s x v):
  JD s (one vs) (if h:e.toArray.size=1 then e.toArray[0]else .tuple e.toArray):=by
 by_cases h:e.toArray.size=1;rw[dif_pos h];cases e with
 |nil=>simp at h
 |cons u q=>
  cases vs with
  |nil=>simp at hl
  |cons x p=>
   have j:q=[]:=by simpa using h
   subst j;have g:p=[]:=by simpa using hl
   subst g;exact hr 0 x u rfl rfl
 rw[dif_neg h];have:one vs=.tup vs:=by
  match vs,hl with
  |[],_=>rfl
  |[x],hl=>simp_all
  |_::_::_,_=>rfl
 rw[this];exact .tup _ _ (by simpa using hl) λi x v n k=>hr i x v n (by simpa using k)
theorem oa{e:AFn}{fn:Func}{m:Nat}{r:Res}(hs:Sim N E st a w)(hm:E.σ.length=m)(h:gK e m st=some r)(hc:mP P e.res fn.results.toList=true):
  a.defers=[]/\ ∃v,(results fn a.tmps).run P w=.ok v w/\ ∃g',Inv ⟨r.2,g',w⟩/\aW E ⟨r.2,g',w⟩/\JD ⟨r.2,g',w⟩ r.1 v:=by
 obtain⟨h1,h2,g,hi,L,C⟩:=hs;refine⟨h2,?_⟩;unfold gK at h;cases hvs:(lW e.res).run st with
 |none=>simp_all
 |some vs=>
  rw[hvs]at h;dsimp only at h;obtain⟨y,S,Y,I⟩:=XT (P:=P) (s:=⟨st.sto,g,w⟩) (env:=st.env) hi L hc hvs;have n:(results fn a.tmps).run P w=.ok (if h:y.toArray.size=1 then y.toArray[0]else .tuple y.toArray) w:=by
   have:results fn a.tmps=(do
    let vs<-fn.results.mapM (RU a.tmps)
    pure (if h:vs.size=1 then vs[0]else .tuple vs)):=rfl
   simp_all [Array.mapM_eq_mapM_toList]
  refine⟨_,n,?_⟩;split at h;grind [Bp];split at h;rename_i D;have z:=OW (m:=m) (fresh:=e.fresh) (sto:=st.sto) (es:=pT st.sto (cF.entsOfL vs []) (cF.entsOfL vs []));generalize iN m e.fresh st.sto (pT st.sto (cF.entsOfL vs []) (cF.entsOfL vs []))=ids at*;split at h;rename_i ws l q B K J;split at h;rename_i q' F;injection h with h;subst h;obtain⟨Z,O⟩:=sD B;obtain⟨b1,b2⟩:=PB K;obtain⟨V,W⟩:=pv J;obtain⟨U,T⟩:=PB F;have G:m<=st.sto.length:=by rw[<-hm];exact C.len
  have hlen:l.length=m:=by simp_all
  have o:jr ⟨st.sto,g,w⟩ m ids (l++q'):=(by refine⟨hi,G,PH D,z,by simp;omega,λk x A=>?_⟩;rcases uO A with A|⟨Q,A⟩;grind [rX];grind [fS]);refine⟨_,Bs o,pj o C (by omega),Bp (by omega) λi x v H M=>?_⟩;have R:=Jq H;have j:vs[i]?=some (vs[i]'(by omega)):=aQ _;exact XL o (I i _ v j M) (O i _ x j H);cases h;cases h;cases h
def jV(P:Program)(f:FuncId)(e:AFn):Bool:=
 match P.funcs[f]? with
 |none=>false
 |some fn=>match fn.body with
  |none=>false
  |some g=>fn.name != "runtime.NumGoroutine" &&e.nt==e.np+(fn.ntmps-e.np)&&mP P e.res fn.results.toList&&cO P e.nt e.body g
theorem YI: ∀{args:List AV} {k n:Nat} {x:AV},lk n (iC k args)=some x->k<=n/\args[n-k]?=some x
 |[],k,n,x,h=>by grind [iC,lk]
 |y::r,k,n,x,h=>by
  simp only[iC,lk]at h;split at h;simp_all;rename_i e;obtain⟨h1,h2⟩:=YI h;grind
end
section
variable {P:Program} {T:dP}
theorem JFC{f:FuncId}{j:AFn}{args:List AV}{blks:List Blk}{r:Res}(hc:jV P f j=true)(K:args.length=j.np)
  (h: ∀(k:Code) (g:Gh) (w:World) (a:Act) (Q:Exit->Act->World->Prop),cO P j.nt j.body k=true->Sim j.nt ⟨blks,g,w⟩ ⟨iC 0 args,blks⟩ a w->
   (∀e s o w',(e=.normal\/e=.ret)->gK j blks.length s=some r->Sim j.nt ⟨blks,g,w⟩ s o w'->Q (pX e) o w')->k.wp P Q a w):J5W P f args blks r:=by
 unfold jV at hc;split at hc;cases hc;rename_i fn A;split at hc;cases hc;rename_i k D;simp only[JW,beq_iff_eq,bne_iff_ne,ne_eq]at hc;obtain⟨⟨⟨F,J⟩,G⟩,z⟩:=hc;refine⟨⟨fn,A,by simp[D],by simp_all⟩,λg w vals hinv hlen hrel=>?_⟩;refine calls_of_wp A D ?_;have C:Sim j.nt ⟨blks,g,w⟩ ⟨iC 0 args,blks⟩ {tmps:=vals++Array.replicate (fn.ntmps-vals.size) undef,defers:=[]} w:=(by refine⟨by simp;omega,rfl,g,hinv,λn x y=>?_,.refl _⟩;obtain⟨_,y⟩:=YI y;rw[tO]at y;have I:=Jq y;refine⟨vals[n]'(by omega),?_,hrel n x _ y (AL _)⟩;grind);have fin: ∀{s},gK j blks.length s=some r-> ∀o w',Sim j.nt ⟨blks,g,w⟩ s o w'->o.defers=[]/\ ∃v,(results fn o.tmps).run P w'=.ok v w'/\ ∃B g',Ending.returned v=.returned B/\
   Inv ⟨r.2,g',w'⟩/\aW ⟨blks,g,w⟩ ⟨r.2,g',w'⟩/\JD ⟨r.2,g',w'⟩ r.1 B:=by
  grind [oa]
 refine h k g w _ _ z C λe s o w' H q E=>?_;rcases H with rfl|rfl;exact fin q o w' E;exact fin q o w' E
theorem JGL{R:bZ->St->Option Out}(ih: ∀c s r,R c s=some r->HI P c s r){f:FuncId}{k:nO}{args:List AV}{blks:List Blk}{r:Res}(hc:jV P f k.af=true)(L:args.length=k.np)
  (h:BO R k args blks=some r):J5W P f args blks r:=by
 refine JFC hc L λq g w a Q n A fin=>?_;simp only[nO.af]at n fin A;cases q<;>simp only[cO,eB]at n;rename_i T S;simp only[JW]at n;obtain⟨G,x⟩:=n;unfold BO at h;split at h
 rename_i s0 J;split at h;rename_i s1 C;refine wp_seq ((ih _ _ _ J).get G A λa0 w0 y=>?_);split at x;rename_i cp I cx cy U;simp only[JW]at x;obtain⟨⟨⟨⟨Z,M⟩,hx⟩,hy⟩,Y⟩:=x;simp only[pX,Exit.then];refine wp_seq (wp_seq ((ih _ _ _ C).get Z y λF D y=>?_));have a2: ∀{c:bZ} {q:Code},cO P k.nt c q=true->wL k.af blks.length (thn (R c s1) λs=>R k.rest s)=some r->
   q.wp P (Exit.then (U.wp P Q) Q) F D:=by
  intro c q hc j;cases hR:R c s1 with
  |none=>rw[hR]at j;cases j
  |some o=>
   obtain⟨e,H⟩:=o;rw[hR]at j;refine(ih _ _ _ hR).get hc y λz w' hs'=>?_;cases e with
   |normal=>
    simp only[thn]at j;cases hR2:R k.rest H with
    |none=>rw[hR2]at j;cases j
    |some V=>
     obtain⟨W,K⟩:=V;rw[hR2]at j;simp only[pX,Exit.then];refine(ih _ _ _ hR2).get Y hs' λz w' hs'=>?_;cases W with
     |normal=>exact fin .normal K z w' (.inl rfl) j hs'
     |ret=>exact fin .ret K z w' (.inr rfl) j hs'
     |exit id=>cases j
   |exit id=>cases j
   |ret=>exact fin .ret H z w' (.inr rfl) j hs'
 have B:=y;obtain⟨_,_,g,hi,N,_⟩:=B;simp only[pX,Exit.then];split at h;rename_i b E;have hrel:=bD (s:=⟨s1.sto,g,D⟩) (env:=s1.env) N E M;generalize O:F.eval I=v at hrel;cases hrel with
 |p _ _ hrel=>cases hrel<;>grind [wp_cond]
 rename_i E;have hrel:=bD (s:=⟨s1.sto,g,D⟩) (env:=s1.env) N E M;generalize O:F.eval I=v at hrel;cases hrel with
 |unk t=>
  refine wp_cond O ?_;unfold GE at h;grind
 cases h;cases x;cases h;cases h
theorem nh{R:bZ->St->Option Out}(ih: ∀c s r,R c s=some r->HI P c s r)(G: ∀f j,T f=some (.fn j)->jV P f j=true)
  (M: ∀f g,T f=some (.prim g)-> ∀args blks r,g args blks=some r->J5W P f args blks r) (L: ∀f k,T f=some (.fork k)->jV P f k.af=true):iL P (pU T R):=by
 intro f args blks r h;unfold pU at h;cases hTf:T f with
 |none=>simp_all
 |some en=>
  rw[hTf]at h;cases en with
  |prim g=>simp_all
  |fork k=>
   grind [JGL]
  |fn j=>
   dsimp only at h;split at h;rename_i J;have o:=G f j hTf;unfold jV at o;split at o;cases o;rename_i fn A;split at o;cases o;rename_i F D;simp only[JW,beq_iff_eq,bne_iff_ne,ne_eq]at o;obtain⟨⟨⟨E,K⟩,H⟩,q⟩:=o;refine⟨⟨fn,A,by simp[D],by simp_all⟩,λg w vals hinv hlen hrel=>?_⟩;refine calls_of_wp A D ?_;have z:Sim j.nt ⟨blks,g,w⟩ ⟨iC 0 args,blks⟩ {tmps:=vals++Array.replicate (fn.ntmps-vals.size) undef,defers:=[]} w:=(by refine⟨by simp;omega,rfl,g,hinv,λn x y=>?_,.refl _⟩;obtain⟨_,y⟩:=YI y;rw[tO]at y;have I:=Jq y;refine⟨vals[n]'(by omega),?_,hrel n x _ y (AL _)⟩;grind);have fin: ∀{s},gK j blks.length s=some r-> ∀e w',Sim j.nt ⟨blks,g,w⟩ s e w'->e.defers=[]/\ ∃v,(results fn e.tmps).run P w'=.ok v w'/\ ∃C g',Ending.returned v=.returned C/\
     Inv ⟨r.2,g',w'⟩/\aW ⟨blks,g,w⟩ ⟨r.2,g',w'⟩/\JD ⟨r.2,g',w'⟩ r.1 C:=by
    grind [oa]
   split at h;rename_i s hR;exact(ih _ _ _ hR).get q z λe w' B=>fin h e w' B;rename_i s hR;exact(ih _ _ _ hR).get q z λe w' B=>fin h e w' B;cases h;cases h
theorem JHO(a5:P.follows .mixedOrders=true)(hT: ∀f af,T f=some (.fn af)->jV P f af=true)
  (hP: ∀f g,T f=some (.prim g)-> ∀args blks r,g args blks=some r->J5W P f args blks r) (hK: ∀f k,T f=some (.fork k)->jV P f k.af=true): ∀c s r,X T c s=some r->HI P c s r:=by
 refine JLP T _ ?_;intro R ih c s r h;have hF:iL P (pU T R):=nh ih hT hP hK;cases c with
 |skip=>
  simp only[step]at h;injection h with h;subst h;intro N j E a w Q q z next;cases j<;>first
   |exact wp_skip (next a w z)
   |exact wp_label (next a w z)
   |grind [cO]
 |bad=>grind [step]
 |reg d pairs ins=>
  simp only[step]at h;split at h;rename_i s' a3;injection h with h;subst h;intro N j E a w Q q z next;cases j<;>simp only[cO,eB]at q;simp only[JW,beq_iff_eq]at q;obtain⟨rfl,q⟩:=q;exact JJt hF a5 a3 q z next
  cases h
 |seq x y=>
  simp only[step]at h;intro N j E a w Q q z next;cases j<;>simp only[cO,eB]at q;simp only[JW]at q;refine wp_seq ?_;split at h
  rename_i s' F;refine(ih _ _ _ F).get q.1 z λB w' hs'=>?_;exact(ih _ _ _ h).get q.2 hs' next;rename_i Z;refine(ih _ _ _ h).get q.1 z λB w' hs'=>?_;obtain⟨e,s'⟩:=r;cases e with
  |normal=>simp_all
  |exit id=>exact next B w' hs'
  |ret=>exact next B w' hs'
 |cond c x y=>
  simp only[step]at h;intro N j E a w Q q z next;cases j<;>simp only[cO,eB]at q;simp only[JW]at q;obtain⟨⟨a0,F⟩,hy⟩:=q;have hs':=z;obtain⟨_,_,g,hi,D,_⟩:=hs';split at h
  rename_i b I;have hrel:=bD (s:=⟨s.sto,g,w⟩) (env:=s.env) D I a0;generalize K:a.eval _=v at hrel;cases hrel with
  |p _ _ hrel=>
   cases hrel with
   |b=>
    refine wp_cond K ?_;cases b with
    |true=>exact(ih _ _ _ (by simpa using h)).get F z next
    |false=>exact(ih _ _ _ (by simpa using h)).get hy z next
  rename_i I;have hrel:=bD (s:=⟨s.sto,g,w⟩) (env:=s.env) D I a0;generalize K:a.eval _=v at hrel;cases hrel with
  |unk t=>
   refine wp_cond K ?_;unfold same at h;split at h;rename_i r1 r2 e1 e2;split at h;rename_i O;injection h with h;subst h;cases t with
   |true=>exact(ih _ _ _ e1).get F z next
   |false=>rw[O]at next;exact(ih _ _ _ e2).get hy z next
   cases h;cases h
  cases h
 |block id x=>
  simp only[step]at h;intro N j E a w Q q z next;cases j<;>simp only[cO,eB]at q;simp only[JW,beq_iff_eq]at q;obtain⟨rfl,q⟩:=q;refine wp_block ?_;split at h
  rename_i k s' F;refine(ih _ _ _ F).get q z λB w' hs'=>?_;grind [pX,Exit.inBlock];rename_i Z;refine(ih _ _ _ h).get q z λB w' hs'=>?_;obtain⟨e,s'⟩:=r;cases e with
  |normal=>exact next B w' hs'
  |exit id=>simp_all
  |ret=>exact next B w' hs'
 |loop live x=>
  simp only[step]at h;intro N j E a w Q q z next;cases j<;>simp only[cO,eB]at q;split at h
  rename_i s' C;obtain⟨k,hk⟩:=ih _ _ _ h;have J:E.σ.length<=s.sto.length:=by obtain⟨_,_,g,_,_,A⟩:=z;exact A.len
  obtain⟨hs',hl⟩:=NZ z C J (zQ0 _);exact wp_loop_rounds k (hk N _ E a w Q q J (by omega) hs' next);cases h
 |lp n live x=>
  simp only[step]at h;split at h
  ·rename_i s' F;split at h
   ·rename_i aw C;obtain⟨k,hk⟩:=ih _ _ _ h;refine⟨k+1,λN j E a w Q q J hn z next=>?_⟩;rw[rounds_succ];obtain⟨h1,h2,g,hi,D,A⟩:=z;have G:Sim N ⟨s.sto,g,w⟩ s a w:=⟨h1,h2,g,hi,D,.refl _⟩;refine(ih _ _ _ F).get q G λB w' hs'=>?_;obtain⟨V,S,g',L,M,H⟩:=hs';have hlen:s.sto.length<=s'.sto.length:=H.len;have aa:Sim N E s' B w':=⟨V,S,g',L,M,A.trans H⟩;obtain⟨ab,hl⟩:=NZ aa C J (by omega);exact hk N j E B w' Q q J (by omega) ab next
   cases h
  ·rename_i Z;refine⟨1,λN j E a w Q q J hn z next=>?_⟩;rw[rounds_succ];refine(ih _ _ _ h).get q z λB w' hs'=>?_;obtain⟨e,s'⟩:=r;cases e with|normal=>simp_all|exit id=>exact next B w' hs'|ret=>exact next B w' hs'
 |scope x=>simp only[step]at h;intro N j E a w Q q z next;cases j<;>simp only[cO,eB]at q;refine wp_scope_straight ((ih _ _ _ h).get q z λB w' hs'=>?_);have:=next B w' hs';obtain⟨e,s'⟩:=r;cases e<;>exact this
 |exit id=>
  simp only[step]at h;injection h with h;subst h;intro N j E a w Q q z next;cases j<;>simp only[cO,eB]at q;simp only[beq_iff_eq]at q;subst q;exact wp_exit (next a w z)
 |ret=>
  simp only[step]at h;injection h with h;subst h;intro N j E a w Q q z next;cases j<;>simp only[cO,eB]at q;exact wp_ret (next a w z)
 |keep live x=>simp only[step]at h;intro N j E a w Q q z next;exact(ih _ _ _ h).get (by grind [cO]) (z.restr live) next
 |tidy live x=>
  simp only[step,kX]at h;intro N j E a w Q q z next;split at h;rename_i e W O;split at h;rename_i s3 C;injection h with h;subst h;obtain⟨h1,h2,g,hi,D,A⟩:=z;have G:Sim N ⟨s.sto,g,w⟩ s a w:=⟨h1,h2,g,hi,D,.refl _⟩;refine(ih _ _ _ O).get (by grind [cO]) G λB w' hs'=>next B w' ?_;obtain⟨V,S,g',L,M,H⟩:=hs';exact(NZ (st:=W) (st':=s3) ⟨V,S,g',L,M,A.trans H⟩ C A.len H.len).1;cases h;cases h
 |br live pre o x y rest=>
  simp only[step]at h;intro N j E a w Q q z next;unfold cO at q;split at q;rename_i cp cq cx cy cz;simp only[JW]at q;obtain⟨⟨⟨⟨hp,ho⟩,F⟩,hy⟩,hz⟩:=q;split at h;rename_i s1 a7;refine wp_seq (wp_seq ((ih _ _ _ a7).get hp z λY U a2=>?_));have ae: ∀{c:bZ} {j:Code} {r':Out},cO P N c j=true->thn (R c s1) (λs=>R rest s)=some r'->
    ∀{E:Sn} {a:Act} {w:World} {Q:Exit->Act->World->Prop},Sim N E s1 a w->(∀B w',Sim N E r'.2 B w'->Q (pX r'.1) B w')->j.wp P (Exit.then (cz.wp P Q) Q) a w:=by
   intro c j r' q A E a w Q z next;cases hR:R c s1 with
   |none=>rw[hR]at A;cases A
   |some o=>
    obtain⟨e,W⟩:=o;rw[hR]at A;refine(ih _ _ _ hR).get q z λB w' hs'=>?_;cases e with
    |normal=>exact(ih _ _ _ A).get hz hs' next
    |exit id=>injection A with A;subst A;exact next B w' hs'
    |ret=>injection A with A;subst A;exact next B w' hs'
  have ai: ∀{c:bZ} {j:Code},cO P N c j=true->kX s1.sto.length live (thn (R c s1) λs=>R rest s)=some r->j.wp P (Exit.then (cz.wp P Q) Q) Y U:=(by intro c j q A;unfold kX at A;split at A;rename_i e W O;split at A;rename_i s3 C;injection A with A;subst A;obtain⟨h1,h2,g,hi,D,A⟩:=a2;have G:Sim N ⟨s1.sto,g,U⟩ s1 Y U:=⟨h1,h2,g,hi,D,.refl _⟩;refine ae q O G λB w' hs'=>next B w' ?_;obtain⟨V,S,g',L,M,H⟩:=hs';exact(NZ (st:=W) (st':=s3) ⟨V,S,g',L,M,A.trans H⟩ C A.len H.len).1;cases A;cases A);have a4:=a2;obtain⟨_,_,g,hi,D,_⟩:=a4;simp only[pX,Exit.then];split at h;rename_i b I;have hrel:=bD (s:=⟨s1.sto,g,U⟩) (env:=s1.env) D I ho;generalize K:Y.eval cq=v at hrel;cases hrel with
  |p _ _ hrel=>cases hrel<;>grind [wp_cond]
  rename_i I;have hrel:=bD (s:=⟨s1.sto,g,U⟩) (env:=s1.env) D I ho;generalize K:Y.eval cq=v at hrel;cases hrel with
  |unk t=>
   refine wp_cond K ?_;unfold same at h;grind
  cases h;cases h;cases q
theorem Ab(e:P.follows .mixedOrders=true)(j: ∀f o,T f=some (.fn o)->jV P f o=true)
  (h: ∀f g,T f=some (.prim g)-> ∀args blks r,g args blks=some r->J5W P f args blks r) (n: ∀f k,T f=some (.fork k)->jV P f k.af=true):iL P (AF T):=
 nh (JHO e j h n) j h n
end
end Go.Am
end
section
namespace Go.Am
@[congr] theorem JLE{o e:Option Out}{k:St->Option Out}(h:o=e):thn o k=thn e k:=by rw[h]
@[congr] theorem JKS{α β:Type}{o e:RM α}{f:α->RM β}(h:o=e):o.bind f=e.bind f:=by rw[h]
@[congr] theorem JKT{α β:Type}{o e:Option α}{f:α->Option β}(h:o=e):o.bind f=e.bind f:=by rw[h]
@[simp] theorem II(s k):thn (some (.normal,s)) k=k s:=rfl
@[simp] theorem JG4(i s k):thn (some (.exit i,s)) k=some (.exit i,s):=rfl
@[simp] theorem JHM(s k):thn (some (.ret,s)) k=some (.ret,s):=rfl
@[simp] theorem JER(k):thn none k=none:=rfl
def ES(o:Option Out)(k:St->Option Out):Option Out:=
 match o with
 |some (.normal,s)=>k s
 |_=>none
@[congr] theorem JKX{o e:Option Out}{k:St->Option Out}(h:o=e):ES o k=ES e k:=by rw[h]
@[simp] theorem Fp(s k):ES (some (.normal,s)) k=k s:=rfl
def blo(id:Nat)(o:Option Out):Option Out:=
 match o with
 |some (.exit k,s)=>if k=id then some (.normal,s)else some (.exit k,s)
 |o=>o
@[simp] theorem JCy(id s):blo id (some (.normal,s))=some (.normal,s):=rfl
@[simp] theorem m9(id i s):blo id (some (.exit i,s))=if i=id then some (.normal,s)else some (.exit i,s):=rfl
@[simp] theorem JIG(id s):blo id (some (.ret,s))=some (.ret,s):=rfl
@[simp] theorem JFE(id):blo id none=none:=rfl
def nrm(o:Option St):Option Out:=match o with|some s=>some (.normal,s)|none=>none
@[simp] theorem JH9(s):nrm (some s)=some (.normal,s):=rfl
@[simp] theorem JGl:nrm none=none:=rfl
def evv(x:Opd)(env:List (Nat×AV)):Option AV:=match x with| .t n=>lk n env| .c v=>some v
@[simp] theorem JMb(n env):evv (.t n) env=lk n env:=rfl
@[simp] theorem JMc(v env):evv (.c v) env=some v:=rfl
theorem MQ(x:Opd)(s:St):(ev x).run s=evv x s.env:=by cases x<;>grind [ev,RM.run,evv]
section
variable (T:dP)
@[simp ↓] theorem JM6(s):X T .skip s=some (.normal,s):=by rw[kU];rfl
@[simp ↓] theorem Ag(a b s):X T (.seq a b) s=thn (X T a s) λs=>X T b s:=by
 rw[kU];simp only[step];cases X T a s with
 |none=>rfl
 |some o=>obtain⟨e,s'⟩:=o;cases e<;>rfl
theorem Aa(d ps ins s):X T (.reg d ps ins) s=nrm (region (AF T) ps ins s):=by rw[kU];simp only[step];show(match region (AF T) ps ins s with|some s'=>some (AX.normal,s')|none=>none)=_;cases region (AF T) ps ins s<;>rfl
@[simp ↓] theorem JM8(d ins env sto):X T (.reg d [] ins) ⟨env,sto⟩=nrm (fM (AF T) ins sto.length ⟨env,room (news ins) sto⟩):=by rw[Aa];rfl
def cnd(x:Option AV)(a b:Option Out)(c:Unit->Option Out):Option Out:=
 match x with
 |some (.p (.b x))=>if x=true then a else b
 |some .unk=>c ()
 |_=>none
@[congr] theorem JLC{x e:Option AV}{a b:Option Out}{c:Unit->Option Out}(h:x=e):cnd x a b c=cnd e a b c:=by rw[h]
@[simp] theorem z7(x a b c):cnd (some (.p (.b x))) a b c=if x=true then a else b:=rfl
@[simp] theorem JIM(a b c):cnd (some .unk) a b c=c ():=rfl
@[simp ↓] theorem JIU(x a b s):X T (.cond x a b) s=cnd (evv x s.env) (X T a s) (X T b s) λ_=>same (X T a s) (X T b s):=by
 rw[kU];simp only[step,MQ];cases evv x s.env with
 |none=>rfl
 |some v=>
  cases v with
  |p c=>cases c<;>rfl
  |_=>rfl
@[simp ↓] theorem JHA(id c s):X T (.block id c) s=blo id (X T c s):=by
 rw[kU];simp only[step];cases X T c s with
 |none=>rfl
 |some o=>obtain⟨e,s'⟩:=o;cases e<;>rfl
@[simp ↓] theorem JHX(c s):X T (.scope c) s=X T c s:=by rw[kU];rfl
@[simp ↓] theorem JM5(id s):X T (.exit id) s=some (.exit id,s):=by rw[kU];rfl
@[simp ↓] theorem Zq(s):X T .ret s=some (.ret,s):=by rw[kU];rfl
@[simp ↓] theorem A2(live c s):X T (.keep live c) s=X T c ⟨restr live s.env,s.sto⟩:=by rw[kU];rfl
@[simp ↓] theorem JMe(live pre x a b rest s):X T (.br live pre x a b rest) s=ES (X T pre s) λs1=>
  cnd (evv x s1.env) (thn (X T a s1) λs=>X T rest s) (thn (X T b s1) λs=>X T rest s) λ_=>
   same (kX s1.sto.length live (thn (X T a s1) λs=>X T rest s)) (kX s1.sto.length live (thn (X T b s1) λs=>X T rest s)):=by
 rw[kU];simp only[step,MQ];cases X T pre s with
 |none=>rfl
 |some o=>
  obtain⟨e,s1⟩:=o;cases e with
  |normal=>
   dsimp only[ES];cases evv x s1.env with
   |none=>rfl
   |some v=>
    cases v with
    |p c=>cases c<;>rfl
    |_=>rfl
  |exit=>rfl
  |ret=>rfl
@[simp ↓] theorem JJR(live c env sto):X T (.loop live c) ⟨env,sto⟩=X T (.lp sto.length live c) ⟨restr live env,sto⟩:=by
 grind [kU,step,clean]
theorem ib(n live c s):X T (.lp n live c) s=thn (X T c s) λs=>match clean n live s with
  |some s=>X T (.lp n live c) s
  |none=>none:=by
 rw[kU];simp only[step];cases X T c s with
 |none=>rfl
 |some o=>obtain⟨e,s'⟩:=o;cases e<;>rfl
def EJ(res:List tJ)(fresh:Bool)(m:Nat)(o:Option Out):Option Res:=
 match o with
 |some (.normal,s)=>gK ⟨0,0,.skip,res,fresh⟩ m s
 |some (.ret,s)=>gK ⟨0,0,.skip,res,fresh⟩ m s
 |_=>none
@[congr] theorem JLl{res:List tJ}{fresh:Bool}{m:Nat}{o e:Option Out}(h:o=e):EJ res fresh m o=EJ res fresh m e:=by rw[h]
@[simp] theorem El(res fresh m s):EJ res fresh m (some (.normal,s))=gK ⟨0,0,.skip,res,fresh⟩ m s:=rfl
@[simp] theorem JGO(res fresh m s):EJ res fresh m (some (.ret,s))=gK ⟨0,0,.skip,res,fresh⟩ m s:=rfl
@[simp] theorem JL9(o:Option Res):GE o o=o:=by unfold GE;cases o<;>simp
theorem Zg{f:FuncId}{fn:AFn}(h:T f=some (.fn fn))(args blks):AF T f args blks=if args.length=fn.np then
  EJ fn.res fn.fresh blks.length (X T fn.body ⟨iC 0 args,blks⟩)
 else none:=by
 unfold AF pU;rw[h];rfl
end
variable {F:Orc} {env:List (Nat×AV)} {sto:List Blk} {new:Nat} {r:List bS} {d:Nat}
@[simp] theorem JBc(s):fM F [] new s=some s:=rfl
theorem Ep(i s):fM F (i::r) new s=((bW F i new).run s).bind λe=>fM F r (new+jT i.op) (put i.dst e s):=by
 grind [fM]
@[simp] theorem JLL:news []=0:=rfl
@[simp ↓] theorem JLD(i):news (i::r)=jT i.op+news r:=rfl
@[simp] theorem JM9:room 0 sto=sto:=rfl
@[simp] theorem JLA(n):room (n+1) sto=sto++List.replicate (n+1) .dead:=rfl
@[simp] theorem JMa(n):lk n []=none:=rfl
@[simp] theorem JId(n m v)(r:List (Nat×AV)):lk n ((m,v)::r)=if n=m then some v else lk n r:=rfl
attribute [simp ↓] Ep bW opD rN jT run_bind MQ opR
attribute [simp] put val evs evo jI mR
 lX vW wK unP iE ER fz fz.fzL fz.fz1 fzs xR fW gX sub spl qA LJ FG GQ GO kY LY mF lG jF uL uI eH iF hC mmP cellsOf unp oG jE
 lW one iC fX GW lE
@[simp] theorem JLF(o:Option Out):same o o=o:=by unfold same;cases o<;>simp
@[simp ↓] theorem JV{α:Type}(a:α)(s:St):(RM.ret a).run s=some a:=rfl
@[simp ↓] theorem JLZ{α:Type}(s:St):(RM.fail:RM α).run s=none:=rfl
@[simp ↓] theorem uU{α:Type}(n:Nat)(k:AV->RM α)(s:St):(RM.slot n k).run s=(lk n s.env).bind λv=>(k v).run s:=by grind [RM.run]
@[simp ↓] theorem cV{α:Type}(n:Nat)(k:Blk->RM α)(s:St):(RM.blk n k).run s=(s.sto[n]?).bind λv=>(k v).run s:=by grind [RM.run]
@[simp] theorem JHv:upd [] sto=sto:=rfl
@[simp] theorem JFX(b x ws):upd ((b,x)::ws) sto=upd ws (sto.set b x):=rfl
@[simp] theorem JLB:restr [] env=[]:=rfl
@[simp] theorem JCI(k l):restr (k::l) env=match lk k env with
 |some v=>(k,v)::restr l env
 |none=>restr l env:=rfl
end Go.Am
namespace Go.Am
def oD:AV->Bool| .p _| .data _| .cp _ _| .unk=>true|_=>false
@[simp] theorem JLN(c):oD (.p c)=true:=rfl
@[simp] theorem JKU(c):oD (.data c)=true:=rfl
@[simp] theorem JLz(c o):oD (.cp c o)=true:=rfl
theorem qe: ∀{args:List AV} {l:List Ent},args.all oD=true->cF.entsOfL args l=l|[],l,_=>rfl|x::r,l,h=>by simp only[List.all_cons,JW]at h;obtain⟨h1,h2⟩:=h;simp only[cF.entsOfL];cases x<;>simp[oD]at h1<;>simp only[cF]<;>exact qe h2
theorem ph{ρ:Ent->Option Nat}: ∀{args:List AV},args.all oD=true->ren.renL ρ args=some args|[],_=>rfl|x::r,h=>by simp only[List.all_cons,JW]at h;have:=ph (ρ:=ρ) h.2;have h1:=h.1;clear h;cases x<;>simp[oD]at h1<;>simp[ren.renL,ren,this]
theorem JG6{es:List Ent}{new:Nat}{x:AV}(h:oD x=true):bk es new x=some x:=by cases x<;>simp[oD]at h<;>rfl
theorem di{es:List Ent}{new:Nat}: ∀{xs:List AV},xs.all oD=true->bk.bkL es new xs=some xs|[],_=>rfl|x::r,h=>by simp only[List.all_cons,JW]at h;simp[bk.bkL,JG6 h.1,di h.2]
@[simp] theorem JMd(es new c):bk es new (.p c)=some (.p c):=rfl
@[simp] theorem JM4(es new c):bk es new (.data c)=some (.data c):=rfl
@[simp] theorem JM7(es new l):bk es new (.tup l)=(bk.bkL es new l).map .tup:=by grind [bk]
@[simp] theorem JM3(es new):bk.bkL es new []=some []:=rfl
@[simp] theorem JLR(es new x l):bk.bkL es new (x::l)=(bk es new x).bind λy=>(bk.bkL es new l).map λl=>y::l:=by simp only[bk.bkL];cases bk es new x<;>simp;cases bk.bkL es new l<;>rfl
@[simp] theorem JKV(n live):kX n live none=none:=rfl
@[simp] theorem E0(n live e s):kX n live (some (e,s))=(clean n live s).map λs=>(e,s):=by
 grind [kX]
attribute [simp ↓] Jy Option.bind_none II JG4 JHM JER Fp JH9 JGl z7 JIM JCy m9 JIG JFE El JGO JBc JId JCI JHv JFX
attribute [simp] clean tH pQ fH fin fin.finL gK iN pT cF cF.entsOfL uJ iJ tU eE unp
end Go.Am
end
section
namespace Go.Am
inductive Fr where|sq (b:bZ)|bl (id:Nat)|td (n:Nat) (live:List Nat)|lo (n:Nat) (live:List Nat) (c:bZ)
noncomputable def again(T:dP)(n:Nat)(live:List Nat)(c:bZ)(o:Option St):Option Out:=match o with|some s=>X T (.lp n live c) s|none=>none
section
variable (T:dP) (f:AFn) (m:Nat) (k:List Fr)
theorem JJl(live c s):X T (.tidy live c) s=kX s.sto.length live (X T c s):=by rw[kU];rfl
end
open Classical in
noncomputable def J9{σ ρ:Type}(f:σ->Option (σ⊕ρ))(s:σ):Option ρ:=
 let e:Nat->σ->Option ρ:=λn=>n.rec (λ_=>none) λ_ ih s=>match f s with|some (.inl s')=>ih s'|some (.inr r)=>some r|none=>none
 if h: ∃n r,e n s=some r then e (Classical.choose h) s else none
def cI{σ ρ:Type}(f:σ->Option (σ⊕ρ)):Nat->σ->Option ρ|0,_=>none|n+1,s=>match f s with|some (.inl s')=>cI f n s'|some (.inr r)=>some r|none=>none
section
variable {σ ρ:Type} {f:σ->Option (σ⊕ρ)}
theorem YJ(n:Nat): ∀s:σ,(Nat.rec (motive:=λ_=>σ->Option ρ) (λ_=>none) (λ_ ih s=>match f s with
  |some (.inl s')=>ih s'
  |some (.inr r)=>some r
  |none=>none) n) s=cI f n s:=by
 induction n with
 |zero=>intro s;rfl
 |succ n ih=>grind [cI]
theorem ZW: ∀{n:Nat} {s:σ} {r:ρ} (m:Nat),cI f n s=some r->cI f (n+m) s=some r
 |0,_,_,_,h=>by cases h
 |n+1,s,r,m,h=>by
  rw[show n+1+m=(n+m)+1 by omega];simp only[cI]at h⊢;split at h;exact ZW m h
  all_goals simp_all
theorem JFh{n m:Nat}{s:σ}{r r':ρ}(h:cI f n s=some r)(e:cI f m s=some r'):r=r':=by
 have a:=ZW m h;have b:=ZW n e;grind
theorem gA{s:σ}{r:ρ}:J9 f s=some r↔ ∃n,cI f n s=some r:=by
 unfold J9;dsimp only;constructor;intro h;split at h;exact⟨_,by rw[<-YJ];exact h⟩;cases h;rintro⟨n,h⟩;have e: ∃n r,(Nat.rec (motive:=λ_=>σ->Option ρ) (λ_=>none) (λ_ ih s=>match f s with
  |some (.inl s')=>ih s'
  |some (.inr r)=>some r
  |none=>none) n) s=some r:=⟨n,r,by grind [YJ]⟩
 rw[dif_pos e];obtain⟨r',g⟩:=Classical.choose_spec e;rw[g];rw[YJ]at g;grind [JFh]
theorem qK{s:σ}{r:ρ}(h:f s=some (.inr r)):J9 f s=some r:=gA.2 ⟨1,by grind [cI]⟩
theorem uZ{s s':σ}(h:f s=some (.inl s')):J9 f s=J9 f s':=by
 have g: ∀r,J9 f s=some r↔J9 f s'=some r:=by
  intro r;rw[gA,gA];constructor;rintro⟨n,e⟩;cases n<;>grind [cI]
  rintro⟨n,e⟩;exact⟨n+1,by grind [cI]⟩
 cases hs:J9 f s with
 |some r=>grind
 |none=>cases hs':J9 f s'<;>grind
theorem JBZ{s:σ}(h:f s=none):J9 f s=none:=by
 cases hs:J9 f s with
 |none=>rfl
 |some r=>obtain⟨n,e⟩:=gA.1 hs;cases n<;>simp_all [cI]
theorem ZS{P:σ->ρ->Prop}(h1: ∀s r,f s=some (.inr r)->P s r)(h2: ∀s s' r,f s=some (.inl s')->P s' r->P s r){s:σ}{r:ρ}(h:J9 f s=some r):P s r:=by
 obtain⟨n,e⟩:=gA.1 h;clear h
 induction n generalizing s with
 |zero=>cases e
 |succ n ih=>
  grind [cI]
end
end Go.Am
end
section
namespace Go.Am
section
variable {α:Type}
def idx(l:List α)(n:Int):Option α:=if 0<=n then l[n.toNat]? else none
def aZ(k:Nat)(n:Int):Option Unit:=if 0<=n/\n<k then some ()else none
def JC(bytes:Nat)(l e:List α):Option (List α):=if iF (l.length+e.length) bytes=true then some (l++e)else none
def cJ(bytes:Nat)(l:List α):Option (List α):=if iF l.length bytes=true then some l else none
def EH(n:Int)(len:Nat):Option Nat:=if 0<=n/\n.toNat<=len then some n.toNat else none
def EM(n:Int)(len:Nat):Option Nat:=if 0<=n/\n.toNat<len then some n.toNat else none
def FI(bytes:Nat)(l:List α)(n:Nat)(e:List α):Option (List α):=if 0<l.length/\iF (l.length+e.length) bytes=true then some (l.take n++e)else none
def ym(bytes:Nat)(l e:List α):Option (List α):=if 0<e.length/\iF (l.length+e.length) bytes=true then some (l++e)else none
def mkS(bytes:Nat)(n m:Int)(z:α):Option (List α):=if 0<=n/\n<=m/\bytes*m<=281474976710656/\m<=281474976710656 then some (List.replicate n.toNat z)else none
def AK(x:Option Int)(top e:Nat):Option Nat:=match x with|none=>some e|some n=>if 0<=n/\n<=top then some n.toNat else none
def wG(n:Nat)(lo hi:Option Int):Option (Nat×Nat):=match AK hi n n with|none=>none|some h=>match AK lo h 0 with|none=>none|some l=>some (l,h)
def aV(l:List α)(lo hi:Option Int):Option (List α):=match wG l.length lo hi with|some c=>some ((l.drop c.1).take (c.2-c.1))|none=>none
def FE(k:IntKind)(x y:Int):Option Int:=if y=0 then none else some (k.wrap (x.tdiv y))
def tN(x y:Int):Option Int:=if y=0 then none else some (x.tmod y)
def nK(k:IntKind)(x y:Int):Option Int:=if y<0 then none else some (k.wrap (x*2^(min y.toNat k.bits)))
def iD(k:IntKind)(x y:Int):Option Int:=if y<0 then none else some (x.fdiv (2^(min y.toNat k.bits)))
def iX(k:IntKind)(x y:Int):Int:=k.wrap (BitVec.ofInt k.bits x&&&BitVec.ofInt k.bits y).toNat
def orI(k:IntKind)(x y:Int):Int:=k.wrap (BitVec.ofInt k.bits x|||BitVec.ofInt k.bits y).toNat
def eF(k:IntKind)(x y:Int):Int:=k.wrap (BitVec.ofInt k.bits x^^^BitVec.ofInt k.bits y).toNat
def FL(k:IntKind)(n:Int):Int:=k.wrap (BitVec.ofInt k.bits (if k.signed then -1 else k.max)^^^BitVec.ofInt k.bits n).toNat
def bY(a b:List UInt8):Option (List UInt8):=if a.length+b.length<=4611686018427387904 then some (a++b)else none
def iA(l:List UInt8)(n:Int):Option Int:=if 0<=n then(match l[n.toNat]? with|some u=>some (u.toNat:Int)|none=>none)else none
def fm{k:Nat}(v:Vector α k)(n:Int):Option α:=if 0<=n/\n<k then v[n.toNat]? else none
def toStr(l:List Int):List UInt8:=l.map λn=>UInt8.ofNat n.toNat
def aP(l:List UInt8):List Int:=l.map λu=>(u.toNat:Int)
def kP(x y:Int):Int:=if y<x then y else x
def eA(x y:Int):Int:=if y>x then y else x
end
@[reducible] def cat(a b:List PV):List PV:=a++b
def r_i(k:IntKind)(n:Int):List PV:=[.i k n]
def r_b(x:Bool):List PV:=[.b x]
def r_s(l:List UInt8):List PV:=[.s l]
def Z5{α:Type}(esz:Nat)(r:α->List PV)(l:List α):List PV:=[.sl esz (l.map r)]
def nJ{α:Type}{n:Nat}(r:α->List PV)(v:Vector α n):List PV:=(v.toList.map r).flatten
section
variable {α:Type}
theorem xL(cs:List α)(off size:Nat):sub cs off size=if off+size<=cs.length then some ((cs.drop off).take size)else none:=by
 grind [sub]
theorem CJ(cs:List α)(off:Nat)(vs:List α):spl cs off vs=if off+vs.length<=cs.length then some (cs.take off++vs++cs.drop (off+vs.length))else none:=by simp_all
theorem XP{cs:List α}{n:Nat}(h:cs.length=n):sub cs 0 n=some cs:=by simp_all
theorem C6{cs vs:List α}(h:cs.length=vs.length):spl cs 0 vs=some vs:=by simp_all
theorem JEF{a b c:List α}{off size:Nat}(h1:a.length=off)(h2:b.length=size):sub (a++(b++c)) off size=some b:=by
 grind [xL]
theorem JCZ{b c:List α}{size:Nat}(h2:b.length=size):sub (b++c) 0 size=some b:=JEF (a:=[]) rfl h2
theorem JDF{a b c v:List α}{off:Nat}(h1:a.length=off)(h2:b.length=v.length):spl (a++(b++c)) off v=some (a++(v++c)):=by
 grind [CJ]
theorem JDc{b c v:List α}(h2:b.length=v.length):spl (b++c) 0 v=some (v++c):=JDF (a:=[]) rfl h2
theorem lw{cs e r:List α}{a m k n:Nat}(h1:sub cs a m=some e)(h2:sub e k n=some r):sub cs (a+k) n=some r:=by
 grind [xL,List.drop_take,List.drop_drop]
theorem Bu{cs g e v cs':List α}{a m k:Nat}(h1:sub cs a m=some g)(h2:spl g k v=some e)(h3:spl cs a e=some cs'):spl cs (a+k) v=some cs':=by
 rw[xL]at h1;rw[CJ]at h2 h3⊢;split at h1;rename_i o;injection h1 with h1;subst h1;split at h2;rename_i j;injection h2 with h2;subst h2;simp at j;split at h3;injection h3 with h3;subst h3;rw[if_pos (by omega)]
 congr 1
 simp only[nG,rI,pL,List.take_take,List.drop_take,wW,FA];have h:cs.take (a+k)=cs.take a++(cs.drop a).take k:=List.take_add ..;rw[h,FA];rw[show min k m=k by omega]
 congr 3
 have n:cs.drop (a+k+v.length)=(cs.drop (a+(k+v.length))).take (m-(k+v.length))++cs.drop (a+m):=(by have:=iv (m-(k+v.length)) (cs.drop (a+(k+v.length)));rw[wW]at this;rw[show a+(k+v.length)+(m-(k+v.length))=a+m by omega]at this;grind);rw[n]
 congr 2
 omega;cases h3;cases h2;cases h1
theorem CO{β:Type}(g:α->β)(cs:List α)(off size:Nat):sub (cs.map g) off size=(sub cs off size).map (List.map g):=by
 grind [xL,List.map_drop,List.map_take]
theorem CN{β:Type}(g:α->β)(cs:List α)(off:Nat)(vs:List α):spl (cs.map g) off (vs.map g)=(spl cs off vs).map (List.map g):=by
 grind [CJ,List.map_drop,List.map_take]
theorem GZ{n k w:Nat}{r:α->List PV}(hr: ∀x,(r x).length=w){v:Vector α n}{x:α}(h:v[k]?=some x):sub (nJ r v) (k*w) w=some (r x):=by
 have g: ∀(l:List α) (k:Nat) (x:α),l[k]?=some x->sub ((l.map r).flatten) (k*w) w=some (r x):=by
  intro l
  induction l with
  |nil=>simp_all
  |cons y l ih=>
   intro k x h;cases k with
   |zero=>
    grind [JCZ]
   |succ k=>
    simp at h;have:=ih k x h;rw[bP,pO];rw[xL]at this⊢;split at this;injection this with this;have e:(k+1)*w=w+k*w:=by grind
    rw[e,if_pos (by grind)];have j:w+k*w=(r y).length+k*w:=by rw[hr]
    rw[j,List.drop_length_add_append,this];cases this
 exact g _ _ _ (by simp_all)
theorem A4{n k w:Nat}{r:α->List PV}(hr: ∀x,(r x).length=w){v:Vector α n}(h:k<n)(y:α):spl (nJ r v) (k*w) (r y)=some (nJ r (v.setIfInBounds k y)):=by
 have g: ∀(l:List α) (k:Nat),k<l.length->spl ((l.map r).flatten) (k*w) (r y)=some (((l.set k y).map r).flatten):=by
  intro l
  induction l with
  |nil=>simp_all
  |cons z l ih=>
   intro k h;cases k with
   |zero=>
    grind [JDc]
   |succ k=>
    simp at h;have:=ih k h;rw[bP,pO];rw[CJ]at this⊢;split at this;rename_i j;injection this with this;have e:(k+1)*w=(r z).length+k*w:=by grind
    rw[e,if_pos (by grind)];simp only[List.set_cons_succ,bP,pO];rw[<-this];rw[show(r z).length+k*w+(r y).length=(r z).length+(k*w+(r y).length) by omega];simp[List.take_length_add_append];cases this
 grind [nJ]
theorem JJZ{n w:Nat}{r:α->List PV}(hr: ∀x,(r x).length=w)(v:Vector α n):(nJ r v).length=n*w:=by
 have e: ∀l:List α,((l.map r).flatten).length=l.length*w:=by
  intro l
  induction l with
  |nil=>simp
  |cons x l ih=>grind
 grind [nJ]
end
theorem IA: ∀l:List PV,unp (l.map AV.p)=some l|[]=>rfl|x::l=>by simp[unp,IA l]
theorem rh(l:List PV):jI true (l.map AV.p)=some (.data l):=by simp[IA]
theorem VF: ∀l:List PV,(l.map AV.p).all oD=true|[]=>rfl|x::l=>by simp
theorem o3(m:Nat)(ids:List Nat)(sto:List Blk): ∀l:List PV,fin.finL m ids sto (l.map AV.p)=some (l.map AV.p)|[]=>rfl|x::l=>by simp[fin.finL,fin,o3 m ids sto l]
theorem ou(l:List PV)(acc:List Ent):cF.entsOfL (l.map AV.p) acc=acc:=qe (VF l)
theorem JDC{α:Type}{r:α->List PV}{l:List α}{n:Int}{x:α}(h:idx l n=some x):LY (l.map r) n=some (r x):=by simp_all [idx]
theorem Cp{k:Nat}{n:Int}{u:Unit}(h:aZ k n=some u):0<=n/\n<k:=by
 grind [aZ]
theorem JET{α:Type}{k:Nat}{v:Vector α k}{n:Int}{x:α}(h:fm v n=some x):(0<=n/\n<k)/\v[n.toNat]?=some x:=by
 grind [fm]
theorem JIk{α:Type}{r:α->List PV}{esz bytes b:Nat}{w:Bool}{l e g:List α}{y:AV}{s:St}(h:JC bytes l g=some e)(hb:s.sto[b]?=some (.arr w esz (l.map r)))(hy:(eH esz y).run s=some (g.map r)):
  (hC esz bytes (.slr b 0 l.length) y).run s=some ⟨.slr b 0 e.length,[(b,.arr w esz (e.map r))]⟩:=by
 grind [JC,hC,cV,run_bind,JV]
theorem du: ∀l:List Int,rZ (l.map (r_i .u8))=some (toStr l)|[]=>rfl|x::l=>by simp[rZ,r_i,du l,toStr]
theorem YN(l:List UInt8):l.map lE=(aP l).map (r_i .u8):=by simp[aP,r_i]
theorem JEO{α:Type}{bytes:Nat}{l e:List α}(h:cJ bytes l=some e):iF l.length bytes=true/\e=l:=by
 grind [cJ]
theorem JIA{α:Type}{bytes:Nat}{n m:Int}{z:α}{l:List α}(h:mkS bytes n m z=some l):(0<=n/\n<=m/\bytes*m<=281474976710656/\m<=281474976710656)/\l=List.replicate n.toNat z:=by
 grind [mkS]
end Go.Am
end
section
set_option linter.unusedSimpArgs false
set_option linter.unusedVariables false
namespace Go.Am
open Go.RowKit
theorem JH2{σ:List Blk}{g:Gh}{w w':World}(hi:Inv ⟨σ,g,w⟩)(hb:Below w.heap.size w w'):
  Inv ⟨σ,g,w'⟩/\aW ⟨σ,g,w⟩ ⟨σ,g,w'⟩:=by
 have j: ∀(r:Nat) x,w.heap[r]?=some x->w'.heap[r]?=some x:=λr x h=>by rw[hb.block r (CV h)];exact h
 have n: ∀r o v,cellAt w r o=some v->cellAt w' r o=some v:=(by grind [cellAt]);have t:aW ⟨σ,g,w⟩ ⟨σ,g,w'⟩:=by
  refine⟨⟨hb.size,λr c e fz h=>⟨c,j r _ h,rfl,λ_ _=>rfl⟩,λr x h _=>j r x h,hb.os,hb.output⟩,λ_ _ h=>h,λ_ _ h=>.inl h,λr o ⟨b,hb⟩=>.inl ⟨b,hb⟩,zQ0 _,λ_ cs h=>⟨⟨cs,h,rfl⟩,rfl⟩,
   λ_ wm _ rows h=>⟨wm,rows,h,id,zQ0 _,λ_=>rfl⟩⟩
 exact⟨mM hi t (λ_=>False) (λ_ _=>⟨rfl,rfl⟩) (λ_ r o v _ _ h=>n r o v h) (λ_ _ h=>h.elim) (λ_ _ _ _ h=>h.elim)
  (λ_ _ _ _ h=>h.elim) (λr o h=>Nat.lt_of_lt_of_le (hi.const r o h).1 hb.size) (λ_ _ _ _ h=>h.elim) (λ_ _ _ h k=>(k h).elim),t⟩
def vX:PV->Option Value| .b x=>some (.bool x)| .i k n=>some (.int k n)| .s l=>some (.string ⟨l.toArray⟩)|_=>none
theorem JFL{x:PV}{v:Value}(h:vX x=some v)(w:World)(C:Nat->Nat->Prop):J0g w C x v:=by
 cases x<;>simp only[vX,Option.some.injEq,reduceCtorEq]at h<;>subst h
 exact .b _;exact .i _ _;exact .s _
theorem JI8{x:PV}{v e:Value}{w:World}{C:Nat->Nat->Prop}(h:J0g w C x v)(hv:vX x=some e):v=e:=by cases x<;>simp only[vX,Option.some.injEq,reduceCtorEq]at hv<;>subst hv<;>cases h<;>rfl
theorem JAS{P:Program}{f:FuncId}{xs:List PV}{vs:List Value}{r:PV}{v:Value}{blks:List Blk}
  (hf: ∃fn,P.funcs[f]?=some fn∧fn.body.isSome=true∧(fn.name== "runtime.NumGoroutine")=false)
  (hx:xs.mapM vX=some vs) (hr:vX r=some v)
  (hc: ∀w,Calls P f vs.toArray w λe w'=>e=.returned v/\Below w.heap.size w w'):
  J5W P f (xs.map .p) blks (.p r,blks):=by
 refine⟨hf,λg w vals hi B D=>?_⟩;have h:vals=vs.toArray:=by
  have k: ∀(xs:List PV) (vs vl:List Value),xs.mapM vX=some vs->xs.length=vl.length->
    (∀(i:Nat) x v,(xs.map AV.p)[i]?=some x->vl[i]?=some v->JD ⟨blks,g,w⟩ x v)->vl=vs:=by
   intro xs
   induction xs with
   |nil=>grind
   |cons x r ih=>
    intro vs vl h1 h2 o;simp only[List.mapM_cons,Option.pure_def,Option.bind_eq_bind]at h1;obtain⟨E,n,h1⟩:=bL.1 h1;obtain⟨y,j,h1⟩:=bL.1 h1;simp only[Option.some.injEq]at h1;subst h1;cases vl with
    |nil=>simp at h2
    |cons u q=>
     have:=o 0 (.p x) u rfl rfl;cases this with
     |p _ _ A=>rw[JI8 A n,ih y q j (by simpa using h2) (λi x v hx C=>o (i+1) x v hx C)]
  apply vV;rw[k xs vs vals.toList hx (by simpa using B) (λi x v h1 h2=>D i x v h1 (by simpa using h2))]
 subst h;refine(hc w).mono ?_;rintro e w' ⟨rfl,z⟩;obtain⟨hi',t⟩:=JH2 hi z;exact⟨v,g,rfl,hi',t,.p _ _ (JFL hr _ _)⟩
theorem Cn{T:dP}{f:FuncId}{g:List AV->List Blk->Option Res}(h:T f=some (.prim g))(args blks):AF T f args blks=g args blks:=by simp_all [AF,pU]
def yq(a:Option AFn)(k:Option nO)(g q:Option (List AV->List Blk->Option Res)):Option i5:=
 match a with
 |some a=>some (.fn a)
 |none=>match k with|some k=>some (.fork k)|none=>match g with|some g=>some (.prim g)|none=>q.map .prim
theorem CS{a:Option AFn}{k:Option nO}{g q:Option (List AV->List Blk->Option Res)}{e:i5}(h:yq a k g q=some e):
  (∃x,a=some x/\e=.fn x)\/(∃x,k=some x/\e=.fork x)\/(∃x,g=some x/\e=.prim x)\/(∃x,q=some x/\e=.prim x):=by
 cases a with
 |some a=>exact .inl ⟨a,rfl,by injection h with h;exact h.symm⟩
 |none=>
  cases k with
  |some k=>exact .inr (.inl ⟨k,rfl,by injection h with h;exact h.symm⟩)
  |none=>
   cases g with
   |some g=>exact .inr (.inr (.inl ⟨g,rfl,by injection h with h;exact h.symm⟩))
   |none=>
    cases q with
    |some q=>exact .inr (.inr (.inr ⟨q,rfl,by injection h with h;exact h.symm⟩))
    |none=>cases h
def J7O(n:Int)(i:Nat):Int:=IntKind.wrap .u8 ((IntKind.wrap .u64 n).fdiv (2^(8*i)))
def J4g(n:Int)(k:Nat):List UInt8:=toStr ((List.range k).map (J7O n))
def JjQ(l:List UInt8)(n size:Int):Option (List UInt8):=if size<1\/8<size then some l else if l.length+8<=140737488355328 then some (l++J4g n size.toNat)else none
def JBp:List AV->List Blk->Option Res|[.p (.s l),.p (.i .i64 n),.p (.i .i64 k)],blks=>(JjQ l n k).map λr=>(.p (.s r),blks)|_,_=>none
theorem JIy(x:Int):0<=IntKind.wrap .u8 x/\IntKind.wrap .u8 x<256:=by have h:IntKind.wrap .u8 x=x%256:=rfl;rw[h];omega
theorem JCU(n:Int)(i:Nat):((UInt8.ofNat (J7O n i).toNat).toNat:Int)=J7O n i:=by
 have h:0<=J7O n i/\J7O n i<256:=JIy _;grind [UInt8.toNat_ofNat_of_lt']
theorem JEo(n:Int)(k:Nat):J4g n (k+1)=J4g n k++[UInt8.ofNat (J7O n k).toNat]:=by simp[J4g,toStr,List.range_succ]
theorem JyF(n:Int)(k:Nat):(J4g n k).length=k:=by simp[J4g,toStr]
theorem Zi(x y:Bool):cA [.b] [.b x] [.b y]=some (decide (x=y)):=by
 grind [cA,tF]
theorem Zl(k:IntKind)(x y:Int):cA [.i k] [.i k x] [.i k y]=some (decide (x=y)):=by
 grind [cA,tF]
theorem Zn(x y:List UInt8):cA [.s] [.s x] [.s y]=some (decide (x=y)):=by
 grind [cA,tF]
theorem ls{p q:Prop} [Decidable p] [Decidable q]: ∀{e g:List KD} {a1 a2 b1 b2:List PV},cA e a1 b1=some (decide p)->cA g a2 b2=some (decide q)->cA (e++g) (cat a1 a2) (cat b1 b2)=some (decide (p/\q)):=by
 have h: ∀(e g:List KD) (a1 a2 b1 b2:List PV) (r s:Bool),cA e a1 b1=some r->cA g a2 b2=some s->cA (e++g) (a1++a2) (b1++b2)=some (r&&s):=by
  intro e
  induction e with
  |nil=>
   grind [cA]
  |cons k ks ih=>
   intro g a1 a2 b1 b2 r s h1 h2;cases a1 with
   |nil=>grind [cA]
   |cons a a1=>
    cases b1 with
    |nil=>grind [cA]
    |cons b b1=>
     simp only[cA]at h1;split at h1;rename_i u c j n;injection h1 with h1;subst h1;simp only[AU,cA,j,ih _ _ _ _ _ _ _ n h2,Bool.and_assoc];cases h1
 intro e g a1 a2 b1 b2 h1 h2;rw[h _ _ _ _ _ _ _ _ h1 h2,Bool.decide_and]
theorem JKg{α:Type} [DecidableEq α]{n:Nat}{ks:List KD}{r:α->List PV}(h: ∀x y,cA ks (r x) (r y)=some (decide (x=y)))(v w:Vector α n):
  cA (List.replicate n ks).flatten (nJ r v) (nJ r w)=some (decide (v=w)):=by
 have g: ∀(l e:List α),l.length=e.length->cA (List.replicate l.length ks).flatten (l.map r).flatten (e.map r).flatten=some (decide (l=e)):=by
  intro l
  induction l with
  |nil=>grind [cA]
  |cons a l ih=>
   intro e h1;cases e with
   |nil=>simp at h1
   |cons b e=>
    have h2:=ls (h a b) (ih e (by simpa using h1));grind [decide]
 have j:=g v.toList w.toList (by simp);rw[show v.toList.length=n by simp]at j;rw[show decide (v=w)=decide (v.toList=w.toList) by simp[Vector.toList_inj]];exact j
end Go.Am
end
section
namespace Go.Am
def J1(k:IntKind)(a c:Int):Int:=k.wrap (a+c)
def JG(k:IntKind)(a c:Int):Int:=k.wrap (a-c)
def cK(k:IntKind)(a c:Int):Int:=k.wrap (a*c)
def Z3(k:IntKind)(n:Int):Int:=k.wrap (0-n)
def aS(k:IntKind)(n:Int):Int:=k.wrap n
def aI(a c:Int):Bool:=decide (a=c)
def aL(a c:Int):Bool:= !decide (a=c)
def aJ(a c:Int):Bool:=decide (a<c)
def bA(a c:Int):Bool:=decide (a<=c)
def aM(a c:Int):Bool:=decide (a>c)
def aO(a c:Int):Bool:=decide (a>=c)
def eqS(a c:List UInt8):Bool:=decide (a=c)
def neS(a c:List UInt8):Bool:= !decide (a=c)
def ltS(a c:List UInt8):Bool:=Op.bytesLess a c
def leS(a c:List UInt8):Bool:=Op.bytesLess a c||decide (a=c)
def gtS(a c:List UInt8):Bool:= !(Op.bytesLess a c||decide (a=c))
def geS(a c:List UInt8):Bool:= !Op.bytesLess a c
def eqB(a c:Bool):Bool:=decide (a=c)
def Jm(x:Bool):Bool:= !x
def J0{α:Type}(l:List α):Int:=l.length
def JLG{α:Type}(c:Bool)(x y:α):α:=if c=true then x else y
def bK{α:Type}(l:List α)(i:Nat):Option α:=l[i]?
def aX{α:Type}(l:List α)(i:Nat)(x:α):List α:=l.set i x
def vat{α:Type}{n:Nat}(l:Vector α n)(i:Nat):Option α:=l[i]?
def bC{α:Type}{n:Nat}(l:Vector α n)(i:Nat)(x:α):Vector α n:=l.setIfInBounds i x
inductive Ty where
 |b
 |i (k:IntKind)
 |s
 |l (t:Ty)
 |pr (a c:Ty)
 |ar (n:Nat) (t:Ty)
 |u
 |f
 deriving DecidableEq
@[reducible] def Ty.D:Ty->Type
 | .b=>Bool
 | .i _=>Int
 | .s=>List UInt8
 | .l t=>List t.D
 | .pr a c=>a.D×c.D
 | .ar n t=>Vector t.D n
 | .u=>Unit
 | .f=>Unit
def Ty.sz:Ty->Nat| .b=>1| .i _=>1| .s=>1| .l _=>1| .pr a c=>a.sz+c.sz| .ar n t=>n*t.sz| .u=>0| .f=>1
def cel:(t:Ty)->t.D->List PV| .b,x=>[.b x]| .i k,x=>[.i k x]| .s,x=>[.s x]| .l t,x=>[.sl t.sz (x.map (cel t))]| .pr a c,x=>cel a x.1++cel c x.2| .ar _ t,x=>nJ (cel t) x| .u,_=>[]| .f,_=>[.nf]
theorem dV: ∀(t:Ty) (x:t.D),(cel t x).length=t.sz| .b,_=>rfl| .i _,_=>rfl| .s,_=>rfl| .l _,_=>rfl| .pr a c,x=>by simp only[cel,nG,dV a,dV c,Ty.sz]| .ar n t,x=>by simp only[cel,Ty.sz];exact JJZ (dV t) x| .u,_=>rfl| .f,_=>rfl
def Ty.eqd:(t:Ty)->DecidableEq t.D| .b=>inferInstanceAs (DecidableEq Bool)| .i _=>inferInstanceAs (DecidableEq Int)| .s=>inferInstanceAs (DecidableEq (List UInt8))| .l t=>have:=t.eqd;inferInstanceAs (DecidableEq (List t.D))| .pr a c=>have:=a.eqd;have:=c.eqd;inferInstanceAs (DecidableEq (a.D×c.D))| .ar n t=>have:=t.eqd;inferInstanceAs (DecidableEq (Vector t.D n))| .u=>inferInstanceAs (DecidableEq Unit)| .f=>inferInstanceAs (DecidableEq Unit)
def eqT(t:Ty)(x y:t.D):Bool:=have:=t.eqd;decide (x=y)
theorem dE{t:Ty}{x y:t.D}:eqT t x y=true↔x=y:=by simp[eqT]
def Ty.zero:(t:Ty)->t.D| .b=>false| .i _=>(0:Int)| .s=>[]| .l _=>[]| .pr a c=>(a.zero,c.zero)| .ar n t=>Vector.replicate n t.zero| .u=>()| .f=>()
def Ty.ks:Ty->Option (List KD)
 | .b=>some [.b]
 | .i k=>some [.i k]
 | .s=>some [.s]
 | .l _=>none
 | .pr a c=>match a.ks,c.ks with|some x,some y=>some (x++y)|_,_=>none
 | .ar n t=>match t.ks with|some x=>some (List.replicate n x).flatten|none=>none
 | .u=>some []
 | .f=>none
theorem NB: ∀(t:Ty) {ks:List KD} (x y:t.D),t.ks=some ks->cA ks (cel t x) (cel t y)=some (eqT t x y)
 | .b,ks,x,y,h=>by injection h with h;subst h;exact Zi x y
 | .i k,ks,x,y,h=>by injection h with h;subst h;exact Zl k x y
 | .s,ks,x,y,h=>by injection h with h;subst h;exact Zn x y
 | .l _,_,_,_,h=>by cases h
 | .pr a c,ks,x,y,h=>by
  simp only[Ty.ks]at h;split at h;rename_i p q e g;injection h with h;subst h;have h1:=NB a x.1 y.1 e;have h2:=NB c x.2 y.2 g;unfold eqT at h1 h2;have j:(have:=a.eqd;decide (x.1=y.1))= @decide _ (a.eqd x.1 y.1):=rfl;have:= @ls _ _ (a.eqd x.1 y.1) (c.eqd x.2 y.2) _ _ _ _ _ _ h1 h2;simp only[cel];refine this.trans (congrArg some ?_);grind [eqT];cases h
 | .ar n t,ks,x,y,h=>by
  simp only[Ty.ks]at h;split at h;rename_i p e;injection h with h;subst h;have:= @JKg t.D t.eqd n p (cel t) (λx y=>by have:=NB t x y e;exact this) x y;grind [cel,eqT];cases h
 | .u,ks,x,y,h=>by injection h with h;subst h;rfl
 | .f,_,_,_,h=>by cases h
inductive Sp where
 |f (off:Nat)
 |a (i esz:Nat)
 deriving DecidableEq
def spo:List Sp->Nat|[]=>0| .f o::r=>o+spo r| .a i e::r=>i*e+spo r
def spf:Nat->List Sp->Nat×List Sp|o,.f k::r=>spf (o+k) r|o,r=>(o,r)
theorem LO: ∀(o:Nat) (p:List Sp),(spf o p).1+spo (spf o p).2=o+spo p|o,[]=>rfl|o,.f k::r=>by simp only[spf,LO,spo];omega|o,.a i e::r=>rfl
section
variable {R:Type}
def prt:(t:Ty)->t.D->(off:Nat)->List Sp->(w:Ty)->(w.D->Option R)->Option R
 |t,x,off,p,w,k=>
  if h:t=w/\off=0/\p=[]then k (h.1▸x)
  else match t,x with
   | .pr a c,x=>if off+(if p=[]then w.sz else 1)<=a.sz then prt a x.1 off p w k
    else if a.sz<=off then prt c x.2 (off-a.sz) p w k
    else none
   | .ar _ t,x=>if p=[]then(vat x (off/t.sz)).bind λy=>prt t y (off%t.sz) p w k
    else match off,p with|0,.a i e::r=>if e=t.sz then(vat x i).bind λy=>prt t y (spf 0 r).1 (spf 0 r).2 w k else none|_,_=>none
   |_,_=>none
def pst:(t:Ty)->t.D->(off:Nat)->List Sp->(w:Ty)->w.D->(t.D->Option R)->Option R
 |t,x,off,p,w,v,k=>
  if h:t=w/\off=0/\p=[]then k (h.1.symm▸v)
  else match t,x,k with
   | .pr a c,x,k=>if off+(if p=[]then w.sz else 1)<=a.sz then pst a x.1 off p w v λy=>k (y,x.2)
    else if a.sz<=off then pst c x.2 (off-a.sz) p w v λy=>k (x.1,y)
    else none
   | .ar _ t,x,k=>if p=[]then(vat x (off/t.sz)).bind λy=>pst t y (off%t.sz) p w v λy=>k (bC x (off/t.sz) y)
    else match off,p with|0,.a i e::r=>if e=t.sz then(vat x i).bind λy=>pst t y (spf 0 r).1 (spf 0 r).2 w v λy=>k (bC x i y)else none|_,_=>none
   |_,_,_=>none
end
theorem JGd{α:Type}{a b v:List α}{off n:Nat}(h:sub a off n=some v):sub (a++b) off n=some v:=by
 grind [xL]
theorem JEx{α:Type}{a b v:List α}{off n:Nat}(e:a.length<=off)(h:sub b (off-a.length) n=some v):sub (a++b) off n=some v:=by
 grind [xL,List.drop_append,List.drop_of_length_le]
theorem JH5{α:Type}{a b v e:List α}{off:Nat}(h:spl a off v=some e):spl (a++b) off v=some (e++b):=by
 grind [CJ]
theorem JDO{α:Type}{a b v e:List α}{off:Nat}(g:a.length<=off)(h:spl b (off-a.length) v=some e):spl (a++b) off v=some (a++e):=by
 rw[CJ]at h⊢;split at h;injection h with h;rw[if_pos (by simp;omega),<-h,List.take_append,List.take_of_length_le g,List.drop_append,List.drop_of_length_le (by omega)];simp;omega;cases h
theorem Cm{α:Type}{n i:Nat}{x:Vector α n}{y:α}(h:x[i]?=some y):i<n:=by
 grind
theorem uQ{R:Type}{t w:Ty}{x:t.D}{off:Nat}{p:List Sp}{k:w.D->Option R}{r:R}(e:t=w/\off=0/\p=[])(h:k (e.1▸x)=some r):
  ∃y,sub (cel t x) (off+spo p) w.sz=some (cel w y)/\k y=some r:=by
 obtain⟨rfl,rfl,rfl⟩:=e;grind [spo,XP,dV]
theorem uR{R:Type}{t w:Ty}{x:t.D}{off:Nat}{p:List Sp}{v:w.D}{k:t.D->Option R}{r:R}(e:t=w/\off=0/\p=[])(h:k (e.1.symm▸v)=some r):
  ∃y,spl (cel t x) (off+spo p) (cel w v)=some (cel t y)/\k y=some r:=by
 obtain⟨rfl,rfl,rfl⟩:=e;grind [spo,C6,dV]
theorem uP{R:Type}: ∀{t:Ty} {x:t.D} {off:Nat} {p:List Sp} {w:Ty} {k:w.D->Option R} {r:R},prt t x off p w k=some r->
  ∃y,sub (cel t x) (off+spo p) w.sz=some (cel w y)/\k y=some r
 | .pr a c,x,off,p,w,k,r,h=>by
  unfold prt at h;by_cases g:Ty.pr a c=w/\off=0/\p=[];rw[dif_pos g]at h;exact uQ g h;rw[dif_neg g]at h;dsimp only at h;by_cases h1:off+(if p=[]then w.sz else 1)<=a.sz;rw[if_pos h1]at h;obtain⟨y,v,o⟩:=uP h;exact⟨y,JGd v,o⟩;rw[if_neg h1]at h;by_cases h2:a.sz<=off;rw[if_pos h2]at h;obtain⟨y,v,o⟩:=uP h;refine⟨y,JEx (by grind [dV]) ?_,o⟩;grind [dV];simp_all
 | .ar n t,x,off,p,w,k,r,h=>by
  unfold prt at h;by_cases g:Ty.ar n t=w/\off=0/\p=[];rw[dif_pos g]at h;exact uQ g h;rw[dif_neg g]at h;dsimp only at h;by_cases A:p=[];rw[if_pos A]at h;obtain⟨z,j,h⟩:=bL.1 h;obtain⟨y,h1,h2⟩:=uP h;refine⟨y,?_,h2⟩;have:=lw (GZ (dV t) j) h1;grind [cel,Nat.div_add_mod];rw[if_neg A]at h;split at h;rename_i _ i e q _;split at h;rename_i B;obtain⟨z,j,h⟩:=bL.1 h;obtain⟨y,h1,h2⟩:=uP h;refine⟨y,?_,h2⟩;have:=lw (GZ (dV t) j) h1;grind [cel,LO,spo];cases h;cases h
 | .b,x,off,p,w,k,r,h=>by
  unfold prt at h;split at h
  next g=>exact uQ g h
  next=>cases h
 | .i _,x,off,p,w,k,r,h=>by
  unfold prt at h;split at h
  next g=>exact uQ g h
  next=>cases h
 | .s,x,off,p,w,k,r,h=>by
  unfold prt at h;split at h
  next g=>exact uQ g h
  next=>cases h
 | .l _,x,off,p,w,k,r,h=>by
  unfold prt at h;split at h
  next g=>exact uQ g h
  next=>cases h
 | .u,x,off,p,w,k,r,h=>by
  unfold prt at h;split at h
  next g=>exact uQ g h
  next=>cases h
 | .f,x,off,p,w,k,r,h=>by
  unfold prt at h;split at h
  next g=>exact uQ g h
  next=>cases h
theorem xM{R:Type}: ∀{t:Ty} {x:t.D} {off:Nat} {p:List Sp} {w:Ty} {v:w.D} {k:t.D->Option R} {r:R},pst t x off p w v k=some r->
  ∃y,spl (cel t x) (off+spo p) (cel w v)=some (cel t y)/\k y=some r
 | .pr a c,x,off,p,w,v,k,r,h=>by
  unfold pst at h;by_cases g:Ty.pr a c=w/\off=0/\p=[];rw[dif_pos g]at h;exact uR g h;rw[dif_neg g]at h;dsimp only at h;by_cases h1:off+(if p=[]then w.sz else 1)<=a.sz;rw[if_pos h1]at h;obtain⟨y,B,A⟩:=xM h;exact⟨(y,x.2),JH5 B,A⟩;rw[if_neg h1]at h;by_cases h2:a.sz<=off;rw[if_pos h2]at h;obtain⟨y,B,A⟩:=xM h;refine⟨(x.1,y),JDO (by grind [dV]) ?_,A⟩;grind [dV];simp_all
 | .ar n t,x,off,p,w,v,k,r,h=>by
  unfold pst at h;by_cases g:Ty.ar n t=w/\off=0/\p=[];rw[dif_pos g]at h;exact uR g h;rw[dif_neg g]at h;dsimp only at h;by_cases o:p=[];rw[if_pos o]at h;obtain⟨z,j,h⟩:=bL.1 h;obtain⟨y,h1,h2⟩:=xM h;refine⟨_,?_,h2⟩;have:=Bu (GZ (dV t) j) h1 (A4 (dV t) (Cm j) y);subst o;simp only[spo,tP]at this⊢;rw[f0,Nat.div_add_mod]at this;exact this;rw[if_neg o]at h;split at h;rename_i _ i e q _;split at h;rename_i C;obtain⟨z,j,h⟩:=bL.1 h;obtain⟨y,h1,h2⟩:=xM h;refine⟨_,?_,h2⟩;have:=Bu (GZ (dV t) j) h1 (A4 (dV t) (Cm j) y);have E:=LO 0 q;simp only[spo,C];rw[show i*t.sz+((spf 0 q).1+spo (spf 0 q).2)=0+(i*t.sz+spo q) by omega]at this;exact this;cases h;cases h
 | .b,x,off,p,w,v,k,r,h=>by
  unfold pst at h;split at h
  next g=>exact uR g h
  next=>cases h
 | .i _,x,off,p,w,v,k,r,h=>by
  unfold pst at h;split at h
  next g=>exact uR g h
  next=>cases h
 | .s,x,off,p,w,v,k,r,h=>by
  unfold pst at h;split at h
  next g=>exact uR g h
  next=>cases h
 | .l _,x,off,p,w,v,k,r,h=>by
  unfold pst at h;split at h
  next g=>exact uR g h
  next=>cases h
 | .u,x,off,p,w,v,k,r,h=>by
  unfold pst at h;split at h
  next g=>exact uR g h
  next=>cases h
 | .f,x,off,p,w,v,k,r,h=>by
  unfold pst at h;split at h
  next g=>exact uR g h
  next=>cases h
end Go.Am
end
section
namespace Go.Am
inductive TC where|d (t:Ty) (x:t.D)|sc (t:Ty) (rows:List t.D)|np|nf|un|ptr (b:Nat) (p:List Sp)|cp (t:Ty) (x:t.D) (p:List Sp)|slr (b:Nat)|slo (b n:Nat)|ep (b i:Nat) (p:List Sp)|epo (b e i:Nat) (p:List Sp)|pre (b k:Nat)|pro (b n k:Nat)|suf (b i:Nat)|suo (b i n:Nat)|fn (f:FuncId)
inductive TA where|c (x:TC)|dt (t:Ty) (x:t.D)|m (t:Ty) (cs:List TC)|fn (f:FuncId) (first caps:List TC)
inductive TV where|a (x:TA)|tup (vs:List TA)
inductive TB where|dead|box (t:Ty) (x:t.D)|mbox (t:Ty) (cs:List TC)|arr (w:Bool) (t:Ty) (rows:List t.D)
structure TSt where
 env:List (Nat×TV)
 sto:List TB
def hdP:List PV->PV|[c]=>c|_=>.np
def lnB:TB->Nat| .arr _ _ rows=>rows.length|_=>0
def lnO:Option TB->Nat|some x=>lnB x|none=>0
def lns(sto:List TB)(b:Nat):Nat:=lnO sto[b]?
section
variable (L:Nat->Nat)
def aT:TC->AV| .d t x=>.p (hdP (cel t x))| .sc t rows=>.p (.slc t.sz (rows.map (cel t)))| .np=>.p .np| .nf=>.p .nf| .un=>.unk| .ptr b p=>.ptr b (spo p)| .cp t x p=>.cp (cel t x) (spo p)| .slr b=>.slr b 0 (L b)| .slo b n=>.slr b 0 n| .ep b i p=>.ep b (L b) i (spo p)| .epo b e i p=>.ep b e i (spo p)| .pre b k=>.pre b (L b) k| .pro b n k=>.pre b n k| .suf b i=>.slr b (min i (L b)) (L b-i)| .suo b i n=>.slr b i n| .fn f=>.fn f [] []
def bO:TA->AV| .c x=>aT L x| .dt t x=>.data (cel t x)| .m _ cs=>.agg (cs.map (aT L))| .fn f a c=>.fn f (a.map (aT L)) (c.map (aT L))
def JZ:TV->AV| .a x=>bO L x| .tup vs=>.tup (vs.map (bO L))
def aR:TB->Blk| .dead=>.dead| .box t x=>.box ((cel t x).map .p)| .mbox _ cs=>.box (cs.map (aT L))| .arr w t rows=>.arr w t.sz (rows.map (cel t))
end
def fC(L:Nat->Nat)(env:List (Nat×TV)):List (Nat×AV):=env.map λx=>(x.1,JZ L x.2)
def Ju(s:TSt):St:=⟨fC (lns s.sto) s.env,s.sto.map (aR (lns s.sto))⟩
section
variable (L:Nat->Nat)
theorem BW(t x):aR L (.box t x)=.box ((cel t x).map .p):=rfl
theorem HK(t cs):aR L (.mbox t cs)=.box (cs.map (aT L)):=rfl
theorem MN(w t rows):aR L (.arr w t rows)=.arr w t.sz (rows.map (cel t)):=rfl
theorem iZ(b p):JZ L (.a (.c (.ptr b p)))=.ptr b (spo p):=rfl
theorem kO(t x p):JZ L (.a (.c (.cp t x p)))=.cp (cel t x) (spo p):=rfl
theorem fJ(b):JZ L (.a (.c (.slr b)))=.slr b 0 (L b):=rfl
theorem kS(b i p):JZ L (.a (.c (.ep b i p)))=.ep b (L b) i (spo p):=rfl
theorem e_i(k x):JZ L (.a (.c (.d (.i k) x)))=.p (.i k x):=rfl
theorem e_b(x):JZ L (.a (.c (.d .b x)))=.p (.b x):=rfl
theorem e_s(x):JZ L (.a (.c (.d .s x)))=.p (.s x):=rfl
theorem e_l(t x):JZ L (.a (.c (.d (.l t) x)))=.p (.sl t.sz (x.map (cel t))):=rfl
theorem zr(f):JZ L (.a (.c (.fn f)))=.fn f [] []:=rfl
theorem fx(t x):JZ L (.a (.dt t x))=.data (cel t x):=rfl
theorem gq(f a c):JZ L (.a (.fn f a c))=.fn f (a.map (aT L)) (c.map (aT L)):=rfl
theorem e_m(t cs):JZ L (.a (.m t cs))=.agg (cs.map (aT L)):=rfl
end
theorem EZ{t:Ty}(h:t.sz=1)(x:t.D):cel t x=[hdP (cel t x)]:=by
 have:=dV t x;rw[h]at this
 match hc:cel t x,this with
 |[c],_=>rfl
def kC(b n:Nat):TC->TC| .slr c=>if c=b then .slo b n else .slr c| .ep c i p=>if c=b then .epo b n i p else .ep c i p| .pre c k=>if c=b then .pro b n k else .pre c k| .suf c i=>if c=b then .suo b (min i n) (n-i)else .suf c i|x=>x
def kA(b n:Nat):TA->TA| .c x=>.c (kC b n x)| .dt t x=>.dt t x| .m t cs=>.m t (cs.map (kC b n))| .fn f a c=>.fn f (a.map (kC b n)) (c.map (kC b n))
def kV(b n:Nat):TV->TV| .a x=>.a (kA b n x)| .tup vs=>.tup (vs.map (kA b n))
def kB(b n:Nat):TB->TB| .mbox t cs=>.mbox t (cs.map (kC b n))|x=>x
def wS(b:Nat)(x:TB)(s:TSt):TSt:=⟨s.env,s.sto.set b x⟩
def wN(b:Nat)(x:TB)(s:TSt):TSt:=⟨s.env.map λy=>(y.1,kV b (lns s.sto b) y.2),(s.sto.map (kB b (lns s.sto b))).set b x⟩
def aY(d:Option Nat)(v:TV)(s:TSt):TSt:=
 match d with
 |some d=>⟨(d,v)::s.env,s.sto⟩
 |none=>s
section
variable {L L':Nat->Nat} {b:Nat}
theorem k_C(h: ∀c,c≠b->L' c=L c)(x:TC):aT L' (kC b (L b) x)=aT L x:=by cases x<;>grind [kC,aT]
theorem yz(h: ∀c,c≠b->L' c=L c)(xs:List TC):(xs.map (kC b (L b))).map (aT L')=xs.map (aT L):=by simp_all [k_C]
theorem k_A(h: ∀c,c≠b->L' c=L c)(x:TA):bO L' (kA b (L b) x)=bO L x:=by cases x<;>simp only[kA,bO,k_C h,yz h]
theorem k_V(h: ∀c,c≠b->L' c=L c)(x:TV):JZ L' (kV b (L b) x)=JZ L x:=by cases x<;>simp only[kV,JZ,k_A h,wF,Function.comp_def]
theorem k_B(h: ∀c,c≠b->L' c=L c)(x:TB):aR L' (kB b (L b) x)=aR L x:=by cases x<;>simp only[kB,aR,yz h]
theorem JKA(b n:Nat)(x:TB):lnB (kB b n x)=lnB x:=by cases x<;>rfl
theorem JJk(sto:List TB)(b n c:Nat):lns (sto.map (kB b n)) c=lns sto c:=by
 unfold lns;rw[fT];cases sto[c]? with
 |none=>rfl
 |some x=>exact JKA b n x
theorem Cr(sto:List TB)(b:Nat)(x:TB)(c:Nat)(h:c≠b):lns (sto.set b x) c=lns sto c:=by
 grind [lns]
theorem WO{sto:List TB}{b:Nat}(h:b<sto.length)(x:TB):lns (sto.set b x) b=lnB x:=by unfold lns;rw[AM h];rfl
theorem Ae(b:Nat)(x:TB)(s:TSt):Ju (wN b x s)=⟨(Ju s).env,(Ju s).sto.set b (aR (lns (wN b x s).sto) x)⟩:=by
 have h: ∀c,c≠b->lns (wN b x s).sto c=lns s.sto c:=λc e=>by
  grind [wN,Cr,JJk]
 unfold Ju
 congr 1
 show fC _ (s.env.map λy=>(y.1,kV b (lns s.sto b) y.2))=fC _ s.env;simp_all [fC,k_V];show((s.sto.map (kB b (lns s.sto b))).set b x).map _=_;grind [List.map_set,List.map_congr_left,k_B]
theorem CC{b:Nat}{x:TB}{s:TSt}(h:lnB x=lns s.sto b):lns (wS b x s).sto=lns s.sto:=by
 grind [wS,WO,List.set_eq_of_length_le,Cr]
theorem xD{b:Nat}{x:TB}{s:TSt}(h:lnB x=lns s.sto b):Ju (wS b x s)=⟨(Ju s).env,(Ju s).sto.set b (aR (lns s.sto) x)⟩:=by
 grind [Ju,CC,wS,List.map_set]
theorem pY{s s1:TSt}{ws:List (Nat×Blk)}(h:Ju s1=⟨(Ju s).env,upd ws (Ju s).sto⟩)(d:Option Nat)(v:TV):put d ⟨JZ (lns s1.sto) v,ws⟩ (Ju s)=Ju (aY d v s1):=by cases d<;>simp_all [aY,Ju,fC]
end
theorem HQ{s:TSt}(d:Option Nat)(v:TV):put d ⟨JZ (lns s.sto) v,[]⟩ (Ju s)=Ju (aY d v s):=pY rfl d v
def tlk(n:Nat):List (Nat×TV)->Option TV|[]=>none|(m,v)::r=>if n=m then some v else tlk n r
theorem xH(L:Nat->Nat)(n:Nat): ∀env:List (Nat×TV),lk n (fC L env)=(tlk n env).map (JZ L)
 |[]=>rfl
 |(m,v)::r=>by
  simp only[fC,bP,lk,tlk];split;rfl;exact xH L n r
theorem dK(s:TSt)(b:Nat):(Ju s).sto[b]?=(s.sto[b]?).map (aR (lns s.sto)):=by simp[Ju]
theorem iP{sto:List TB}{b:Nat}{w:Bool}{t:Ty}{rows:List t.D}(h:sto[b]?=some (.arr w t rows)):lns sto b=rows.length:=by unfold lns;rw[h];rfl
inductive TO where|t (n:Nat)|c (x:TV)
def erO:TO->Opd| .t n=>.t n| .c x=>.c (JZ (λ_=>0) x)
def zv:TC->Bool| .d _ _| .sc _ _| .np| .nf| .un| .fn _=>true|_=>false
def LQ:TA->Bool| .c x=>zv x| .dt _ _=>true| .m _ _=>false| .fn _ a c=>a.isEmpty&&c.isEmpty
def BK:TV->Bool| .a x=>LQ x| .tup vs=>vs.isEmpty
theorem JGh{L L':Nat->Nat}{v:TV}(h:BK v=true):JZ L v=JZ L' v:=by
 cases v with
 |a x=>
  cases x with
  |c x=>cases x<;>first|rfl|grind [BK,LQ,zv]
  |dt t x=>rfl
  |m t cs=>grind [BK,LQ]
  |fn f a c=>simp[BK,LQ]at h;obtain⟨rfl,rfl⟩:=h;rfl
 |tup vs=>simp[BK]at h;subst h;rfl
def tev:TO->TSt->Option TV| .t n,s=>tlk n s.env| .c x,_=>if BK x=true then some x else none
theorem bM{x:TO}{s:TSt}{v:TV}(h:tev x s=some v):(ev (erO x)).run (Ju s)=some (JZ (lns s.sto) v):=by
 cases x with
 |t n=>simp only[erO,ev,uU];show(lk n (fC (lns s.sto) s.env)).bind _=_;rw[xH,show tlk n s.env=some v from h];rfl
 |c x=>
  grind [tev,erO,ev,JV,JGh]
end Go.Am
end
section
namespace Go.Am
@[reducible] def vi(k:IntKind)(n:Int):TV:=.a (.c (.d (.i k) n))
@[reducible] def vb(x:Bool):TV:=.a (.c (.d .b x))
@[reducible] def vs(l:List UInt8):TV:=.a (.c (.d .s l))
@[reducible] def vl(t:Ty)(l:List t.D):TV:=.a (.c (.d (.l t) l))
def uv:TV:=.tup []
def mkv(agg:Bool)(t:Ty)(x:t.D):TV:=if agg=true then .a (.dt t x)else .a (.c (.d t x))
def Ok{R:Type}(m:RM Eff)(d:Option Nat)(s:TSt)(k:TSt->Option R)(r:R):Prop:= ∃e s',m.run (Ju s)=some e/\put d e (Ju s)=Ju s'/\k s'=some r
def asm:(t:Ty)->List TC->Option t.D
 | .pr a c,l=>match asm a (l.take a.sz),asm c (l.drop a.sz)with|some x,some y=>some (x,y)|_,_=>none
 | .ar _ _,_=>none
 | .u,l=>if l.isEmpty=true then some ()else none
 |t,l=>match l with|[.d t' x]=>if h:t'=t then some (h▸x)else none|_=>none
def vY:(t:Ty)->t.D->Option (List TC)
 | .pr a c,x=>match vY a x.1,vY c x.2 with|some l,some q=>some (l++q)|_,_=>none
 | .ar _ _,_=>none
 | .u,_=>some []
 |t,x=>some [.d t x]
theorem HC(L:Nat->Nat): ∀{t:Ty} {l:List TC} {x:t.D},asm t l=some x->l.map (aT L)=(cel t x).map .p
 | .pr a c,l,x,h=>by
  simp only[asm]at h;split at h;rename_i y z g j;injection h with h;subst h;have h1:=HC L g;have h2:=HC L j;grind [cel,List.take_append_drop];cases h
 | .ar _ _,_,_,h=>by cases h
 | .u,l,x,h=>by
  simp only[asm]at h;split at h;rename_i e;rw[List.isEmpty_iff.1 e];rfl;cases h
 | .b,l,x,h=>by
  simp only[asm]at h;split at h;split at h;rename_i e;subst e;injection h with h;subst h;rfl;cases h;cases h
 | .i _,l,x,h=>by
  simp only[asm]at h;split at h;split at h;rename_i e;subst e;injection h with h;subst h;rfl;cases h;cases h
 | .s,l,x,h=>by
  simp only[asm]at h;split at h;split at h;rename_i e;subst e;injection h with h;subst h;rfl;cases h;cases h
 | .l _,l,x,h=>by
  simp only[asm]at h;split at h;split at h;rename_i e;subst e;injection h with h;subst h;rfl;cases h;cases h
 | .f,l,x,h=>by
  simp only[asm]at h;split at h;split at h;rename_i e;subst e;injection h with h;subst h;rfl;cases h;cases h
theorem HJ(L:Nat->Nat): ∀{t:Ty} {x:t.D} {l:List TC},vY t x=some l->l.map (aT L)=(cel t x).map .p
 | .pr a c,x,l,h=>by
  simp only[vY]at h;split at h;rename_i y z e g;injection h with h;subst h;have h1:=HJ L e;have h2:=HJ L g;grind [cel];cases h
 | .ar _ _,_,_,h=>by cases h
 | .u,x,l,h=>by injection h with h;subst h;rfl
 | .b,x,l,h=>by injection h with h;subst h;rfl
 | .i _,x,l,h=>by injection h with h;subst h;rfl
 | .s,x,l,h=>by injection h with h;subst h;rfl
 | .l _,x,l,h=>by injection h with h;subst h;rfl
 | .f,x,l,h=>by injection h with h;subst h;rfl
def zcs:Ty->List TC| .pr a c=>zcs a++zcs c| .ar n t=>(List.replicate n (zcs t)).flatten| .u=>[]|t=>[.d t t.zero]
theorem CA(L:Nat->Nat): ∀t:Ty,(zcs t).map (aT L)=(cel t t.zero).map .p| .pr a c=>by simp only[zcs,wJ,CA L a,CA L c,Ty.zero,cel]| .ar n t=>by have ih:=CA L t;simp_all [cel,nJ,Ty.zero,zcs]| .u=>rfl| .b=>rfl| .i _=>rfl| .s=>rfl| .l _=>rfl| .f=>rfl
def mkb(t:Ty)(cs:List TC):TB:=match asm t cs with|some x=>.box t x|none=>.mbox t cs
theorem NU(L:Nat->Nat)(t:Ty)(cs:List TC):aR L (mkb t cs)=.box (cs.map (aT L)):=by
 unfold mkb;split;grind [BW,HC];rfl
theorem NL(t:Ty)(cs:List TC):lnB (mkb t cs)=0:=by unfold mkb;split<;>rfl
def QU:TC->Bool| .ptr _ _| .cp _ _ _| .slr _| .slo _ _| .ep _ _ _| .epo _ _ _ _| .un| .fn _| .pre _ _| .pro _ _ _| .suf _ _| .suo _ _ _=>true|_=>false
theorem XR(L:Nat->Nat): ∀{cs:List TC},cs.any QU=true->unp (cs.map (aT L))=none
 |[],h=>by simp at h
 |x::r,h=>by
  simp only[List.any_cons,BA]at h;rcases h with h|h;cases x<;>simp[QU]at h<;>rfl
  have:=XR L h;cases x<;>simp[aT,unp,this]
def mka(agg:Bool)(t:Ty)(cs:List TC):Option TV:=
 if agg=true then
  match asm t cs with
  |some x=>some (.a (.dt t x))
  |none=>if cs.any QU=true then some (.a (.m t cs))else none
 else match cs with|[c]=>some (.a (.c c))|_=>none
theorem BZ(L:Nat->Nat){agg:Bool}{t:Ty}{cs:List TC}{v:TV}(h:mka agg t cs=some v):jI agg (cs.map (aT L))=some (JZ L v):=by
 unfold mka at h;split at h;rename_i e;subst e;split at h;rename_i x j;injection h with h;subst h;rw[HC L j,rh];rfl;split at h;rename_i g;injection h with h;subst h;simp only[jI,XR L g,if_true];rfl;cases h;rename_i e;split at h;injection h with h;subst h;have:agg=false:=by simpa using e
 subst this;rfl;cases h
def tcs:TV->Option (List TC)| .a (.c .un)=>none| .a (.c (.pre _ _))=>none| .a (.c (.pro _ _ _))=>none| .a (.c x)=>some [x]| .a (.dt t x)=>vY t x| .a (.m _ cs)=>some cs| .a (.fn f [] [])=>some [.fn f]|_=>none
theorem GX(L:Nat->Nat){v:TV}{cs:List TC}(h:tcs v=some cs):cellsOf (JZ L v)=some (cs.map (aT L)):=by
 cases v with
 |a x=>
  cases x with
  |c x=>cases x<;>cases h<;>rfl
  |dt t x=>simp only[JZ,bO,cellsOf];rw[HJ L h]
  |m t cs=>injection h with h;subst h;rfl
  |fn f a c=>
   cases a with
   |nil=>cases c with
    |nil=>injection h with h;subst h;rfl
    |cons y c=>cases h
   |cons y a=>cases h
 |tup vs=>cases h
def tdv(t:Ty):TV->Option t.D| .a (.c (.d t' x))=>if h:t'=t then some (h▸x)else none| .a (.dt t' x)=>if h:t'=t then some (h▸x)else none|_=>none
def agv:TV->Bool| .a (.dt _ _)=>true|_=>false
theorem JKC(L:Nat->Nat){t:Ty}{v:TV}{x:t.D}(h:tdv t v=some x):JZ L v=if agv v=true then .data (cel t x)else .p (hdP (cel t x)):=by
 unfold tdv at h;split at h;split at h;rename_i e;subst e;injection h with h;subst h;rfl;cases h;split at h;rename_i e;subst e;injection h with h;subst h;rfl;cases h;cases h
def rE:List Sp->Option Nat
 |[]=>some 0
 | .f o::r=>match rE r with|some n=>some (o+n)|none=>none
 | .a _ _::_=>none
theorem BU: ∀{p:List Sp} {n:Nat},rE p=some n->spo p=n
 |[],n,h=>by injection h with h
 | .f o::r,n,h=>by
  simp only[rE]at h;split at h;rename_i m e;injection h with h;simp only[spo,BU e,h];cases h
 | .a _ _::_,_,h=>by cases h
section
variable {R:Type}
def jz(agg:Bool)(t:Ty)(v:TV)(d:Option Nat)(s:TSt)(k:TSt->Option R):Option R:=
 if agg=true\/t.sz=1 then
  match v with
  | .a (.c (.cp e x p))=>prt e x (spf 0 p).1 (spf 0 p).2 t λy=>k (aY d (mkv agg t y) s)
  | .a (.c (.ptr b p))=>match s.sto[b]? with
   |some (.box e x)=>prt e x (spf 0 p).1 (spf 0 p).2 t λy=>k (aY d (mkv agg t y) s)
   |some (.mbox _ cs)=>match rE p with
    |some off=>match sub cs off t.sz with
     |some l=>match mka agg t l with|some v=>k (aY d v s)|none=>none
     |none=>none
    |none=>none
   |_=>none
  | .a (.c (.ep b i p))=>match s.sto[b]? with|some (.arr _ e rows)=>(bK rows i).bind λrow=>prt e row (spf 0 p).1 (spf 0 p).2 t λy=>k (aY d (mkv agg t y) s)|_=>none
  |_=>none
 else none
theorem BR(L:Nat->Nat){agg:Bool}{t:Ty}(h:agg=true\/t.sz=1)(y:t.D):mR agg (cel t y)=some (JZ L (mkv agg t y)):=by
 unfold mkv;split;rename_i e;subst e;rfl;rename_i e;have:agg=false:=by simpa using e
 subst this;have:=h.resolve_left (by simp);rw[EZ this];rfl
theorem EL(p:List Sp):(spf 0 p).1+spo (spf 0 p).2=spo p:=by simp[LO]
theorem JGV{agg:Bool}{t:Ty}{v:TV}{d:Option Nat}{s:TSt}{k:TSt->Option R}{r:R}(h:jz agg t v d s k=some r):Ok (fW agg t.sz (JZ (lns s.sto) v)) d s k r:=by
 unfold jz at h;split at h;rename_i j;split at h;rename_i n x p;obtain⟨y,h1,h2⟩:=uP h;rw[EL]at h1;refine⟨_,_,?_,HQ d (mkv agg t y),h2⟩;simp only[iZ,kO,kS,fJ,fW,h1,BR (lns s.sto) j,val];rfl;rename_i b p;split at h;rename_i n x e;obtain⟨y,h1,h2⟩:=uP h;rw[EL]at h1;refine⟨_,_,?_,HQ d (mkv agg t y),h2⟩;have A:jI agg ((cel t y).map .p)=mR agg (cel t y):=by
  unfold jI mR;split;rw[IA];cases hcel:cel t y with
  |nil=>rfl
  |cons a l=>cases l<;>rfl
 simp only[iZ,kO,kS,fJ,fW,cV,dK,e,cE,Jy,aR,CO,h1,A,BR (lns s.sto) j,val];rfl;rename_i cs e;split at h;rename_i off o;split at h;rename_i l q;split at h;rename_i v z;refine⟨_,_,?_,HQ d v,h⟩;simp only[iZ,kO,kS,fJ,fW,cV,dK,e,cE,Jy,aR,CO,BU o,q,BZ (lns s.sto) z,val];rfl;cases h;cases h;cases h;cases h;rename_i b i p;split at h;rename_i w n rows e;obtain⟨row,g,h⟩:=bL.1 h;have g:rows[i]?=some row:=g;obtain⟨y,h1,h2⟩:=uP h;rw[EL]at h1;refine⟨_,_,?_,HQ d (mkv agg t y),h2⟩;simp only[iZ,kO,kS,fJ,fW,cV,dK,e,cE,Jy,aR,iP e,dX,if_true,fT,g,h1,BR (lns s.sto) j,val];rfl;cases h;cases h;cases h
end
end Go.Am
end
section
namespace Go.Am
section
variable {R:Type}
def fzC:(t:Ty)->List TC->TSt->(t.D->TSt->Option R)->Option R
 | .pr a c,l,s,k=>fzC a (l.take a.sz) s λx s=>fzC c (l.drop a.sz) s λy s=>k (x,y) s
 | .ar _ _,_,_,_=>none
 | .u,l,s,k=>if l.isEmpty=true then k () s else none
 | .l e,l,s,k=>match l with
  |[.d t' x]=>if h:t'=.l e then k (h▸x) s else none
  |[.slr b]=>match s.sto[b]? with|some (.arr _ e' rows)=>if h:e'=e then k (h▸rows) (wS b (.arr false e' rows) s)else none|_=>none
  |_=>none
 |t,l,s,k=>match l with|[.d t' x]=>if h:t'=t then k (h▸x) s else none|_=>none
def tfz(t:Ty)(v:TV)(s:TSt)(k:t.D->TSt->Option R):Option R:=
 match v with
 | .a (.dt t' x)=>if h:t'=t then k (h▸x) s else none
 | .a (.c x)=>fzC t [x] s k
 | .a (.m _ cs)=>fzC t cs s k
 |_=>none
def Fzd(s s':TSt)(ws:List (Nat×Blk)):Prop:=s'.env=s.env/\lns s'.sto=lns s.sto/\Ju s'=⟨(Ju s).env,upd ws (Ju s).sto⟩/\(∀(b:Nat) (t:Ty) (rows:List t.D) (w:Bool),s'.sto[b]?=some (TB.arr w t rows)-> ∃w',s.sto[b]?=some (TB.arr w' t rows))/\(∀(b:Nat) (t:Ty) (rows:List t.D),s.sto[b]?=some (TB.arr false t rows)->s'.sto[b]?=some (TB.arr false t rows))/\ ∀x∈ws,∃(t:Ty) (rows:List t.D),s'.sto[x.1]?=some (TB.arr false t rows)
theorem Fzd.refl(s:TSt):Fzd s s []:=⟨rfl,rfl,rfl,λb t rows w h=>⟨w,h⟩,λb t rows h=>h,λx h=>by cases h⟩
theorem Fzd.trans{s1 e g:TSt}{a c:List (Nat×Blk)}(h:Fzd s1 e a)(j:Fzd e g c):Fzd s1 g (a++c):=by
 obtain⟨h1,h2,B,z,o,y⟩:=h;obtain⟨n,q,A,v,k,r⟩:=j;refine⟨n.trans h1,q.trans h2,?_,λb t rows w h=>?_,λb t rows h=>k b t rows (o b t rows h),λx C=>?_⟩
 all_goals grind [eN]
theorem XK{s:TSt}{b:Nat}{w:Bool}{t:Ty}{rows:List t.D}(hb:s.sto[b]?=some (.arr w t rows)):Fzd s (wS b (.arr false t rows) s) [(b,.arr false t.sz (rows.map (cel t)))]:=by
 have e:lnB (.arr false t rows)=lns s.sto b:=by rw[iP hb];rfl
 have k:(wS b (.arr false t rows) s).sto[b]?=some (.arr false t rows):=by grind [wS]
 have j: ∀c,c≠b->(wS b (.arr false t rows) s).sto[c]?=s.sto[c]?:=λc n=>by grind [wS]
 refine⟨rfl,CC e,xD e,λc t' g w' h=>?_,λc t' g h=>?_,λx o=>?_⟩
 all_goals grind
theorem JIa(x y:List AV)(st:St):(fz.fzL (x++y)).run st=((fz.fzL x).run st).bind λa=>((fz.fzL y).run st).map λc=>(a.1++c.1,a.2++c.2):=by
 induction x with
 |nil=>simp_all
 |cons v x ih=>
  simp only[AU,fz.fzL,run_bind,ih];cases(fz.fz1 v).run st with
  |none=>rfl
  |some a=>
   simp only[Jy];cases(fz.fzL x).run st with
   |none=>rfl
   |some c=>simp only[Jy];cases(fz.fzL y).run st<;>simp_all
theorem GT{L:Nat->Nat}{t t':Ty}{x:t'.D}(h:t'=t)(h1:t.sz=1)(st:St):(fz.fzL ([TC.d t' x].map (aT L))).run st=some (cel t (h▸x),[]):=by
 grind [EZ,aT,fz.fzL,fz.fz1,run_bind,JV]
theorem HA: ∀{t:Ty} {l:List TC} {s0 s:TSt} {w0:List (Nat×Blk)} {k:t.D->TSt->Option R} {r:R},Fzd s0 s w0->fzC t l s k=some r->
  ∃y s' ws,(fz.fzL (l.map (aT (lns s0.sto)))).run (Ju s0)=some (cel t y,ws)/\Fzd s0 s' (w0++ws)/\k y s'=some r
 | .pr a c,l,s0,s,w0,k,r,j,h=>by simp only[fzC]at h;obtain⟨x,s1,z,B,q,h⟩:=HA j h;obtain⟨y,v,C,A,E,h⟩:=HA q h;refine⟨(x,y),v,z++C,?_,by simp_all,h⟩;have:=JIa ((l.take a.sz).map (aT (lns s0.sto))) ((l.drop a.sz).map (aT (lns s0.sto))) (Ju s0);rw[<-wJ,iv,B,A]at this;exact this
 | .ar _ _,_,_,_,_,_,_,_,h=>by cases h
 | .u,l,s0,s,w0,k,r,j,h=>by
  simp only[fzC]at h;split at h;rename_i g;refine⟨(),s,[],?_,by simp_all,h⟩;rw[List.isEmpty_iff.1 g];rfl;cases h
 | .l e,l,s0,s,w0,k,r,j,h=>by
  simp only[fzC]at h;split at h;split at h;rename_i g;exact⟨_,s,[],GT g rfl _,by simp_all,h⟩;cases h;rename_i b;split at h;rename_i w e' rows o;split at h;rename_i g;subst g;obtain⟨w',n⟩:=j.2.2.2.1 b _ rows w o;refine⟨rows,_,[(b,.arr false e'.sz (rows.map (cel e')))],?_,j.trans (XK o),h⟩;simp only[bP,List.map_nil,aT,fz.fzL,fz.fz1,run_bind,cV,dK,n,cE,Jy,aR,iP n,dX,mC,if_true,wR,JV];rfl;cases h;cases h;cases h
 | .b,l,s0,s,w0,k,r,j,h=>by
  simp only[fzC]at h;split at h;split at h;rename_i g;exact⟨_,s,[],GT g rfl _,by simp_all,h⟩;cases h;cases h
 | .i _,l,s0,s,w0,k,r,j,h=>by
  simp only[fzC]at h;split at h;split at h;rename_i g;exact⟨_,s,[],GT g rfl _,by simp_all,h⟩;cases h;cases h
 | .s,l,s0,s,w0,k,r,j,h=>by
  simp only[fzC]at h;split at h;split at h;rename_i g;exact⟨_,s,[],GT g rfl _,by simp_all,h⟩;cases h;cases h
 | .f,l,s0,s,w0,k,r,j,h=>by
  simp only[fzC]at h;split at h;split at h;rename_i g;exact⟨_,s,[],GT g rfl _,by simp_all,h⟩;cases h;cases h
theorem Z7(x:AV)(hx:(∀cs,x≠.data cs)/\ ∀cs,x≠.agg cs)(st:St){y:List PV}{ws:List (Nat×Blk)}(h:(fz.fzL [x]).run st=some (y,ws)):(fz x).run st=some (y,ws):=by simp only[fz.fzL,run_bind,JV]at h;cases x<;>simp_all [bL]
theorem As{t:Ty}{v:TV}{s0 s:TSt}{w0:List (Nat×Blk)}{k:t.D->TSt->Option R}{r:R}(g:Fzd s0 s w0)(h:tfz t v s k=some r):
  ∃y s' ws,(fz (JZ (lns s0.sto) v)).run (Ju s0)=some (cel t y,ws)/\Fzd s0 s' (w0++ws)/\k y s'=some r:=by
 unfold tfz at h;split at h;split at h;rename_i j;subst j;exact⟨_,s,[],rfl,by simp_all,h⟩;cases h;rename_i x;obtain⟨y,s',ws,h1,h2,e⟩:=HA g h;refine⟨y,s',ws,Z7 _ ⟨λcs=>?_,λcs=>?_⟩ _ h1,h2,e⟩<;>cases x<;>simp[aT,JZ,bO]
 obtain⟨y,s',ws,h1,h2,e⟩:=HA g h;exact⟨y,s',ws,h1,h2,e⟩;cases h
end
end Go.Am
end
section
namespace Go.Am
section
variable {R:Type}
theorem dj(L:Nat->Nat){t:Ty}{v:TV}{x:t.D}(h:tdv t v=some x)(ha:agv v=true\/t.sz=1):cellsOf (JZ L v)=some ((cel t x).map .p):=by
 rw[JKC L h];split;rfl;rename_i e;rw[EZ (ha.resolve_left e)];rfl
def WP(t:Ty)(x u:TV)(d:Option Nat)(s:TSt)(k:TSt->Option R):Option R:=
 match x with
 | .a (.c (.ptr b p))=>match s.sto[b]? with
  |some (.box e y)=>match tdv t u with
   |some z=>if agv u=true\/t.sz=1 then pst e y (spf 0 p).1 (spf 0 p).2 t z λh=>k (aY d uv (wS b (.box e h) s))else none
   |none=>match rE p,vY e y,tcs u with
    |some off,some cs,some l=>if l.length=t.sz then
     match spl cs off l with
     |some cs'=>k (aY d uv (wS b (mkb e cs') s))
     |none=>none
     else none
    |some off,none,some l=>if off=0/\l.length=e.sz/\l.length=t.sz then k (aY d uv (wS b (mkb e l) s))else none
    |_,_,_=>none
  |some (.mbox e cs)=>match rE p,tcs u with
   |some off,some l=>if l.length=t.sz then
    match spl cs off l with
    |some cs'=>k (aY d uv (wS b (mkb e cs') s))
    |none=>none
    else none
   |_,_=>none
  |_=>none
 | .a (.c (.ep b i p))=>tfz t u s λz s1=>match s1.sto[b]? with|some (.arr true e rows)=>(bK rows i).bind λrow=>pst e row (spf 0 p).1 (spf 0 p).2 t z λg=>k (aY d uv (wS b (.arr true e (aX rows i g)) s1))|_=>none
 |_=>none
theorem JKF(L:Nat->Nat):JZ L uv=fX:=rfl
theorem ND{s:TSt}{b:Nat}{t:Ty}{x:t.D}(h:s.sto[b]?=some (.box t x)):lns s.sto b=0:=by unfold lns;rw[h];rfl
theorem m4{s:TSt}{b:Nat}{t:Ty}{cs:List TC}(h:s.sto[b]?=some (.mbox t cs)):lns s.sto b=0:=by unfold lns;rw[h];rfl
theorem xT{s:TSt}{b:Nat}(h:s.sto[b]?=some .dead):lns s.sto b=0:=by unfold lns;rw[h];rfl
theorem FY{m:RM Eff}{d:Option Nat}{s:TSt}{k:TSt->Option R}{r:R}{b:Nat}{x:TB}{v:TV}(hl:lnB x=lns s.sto b)(hm:m.run (Ju s)=some ⟨JZ (lns s.sto) v,[(b,aR (lns s.sto) x)]⟩)
  (h:k (aY d v (wS b x s))=some r):Ok m d s k r:=by
 refine⟨_,_,hm,?_,h⟩;have e:=CC hl;rw[<-e];refine pY ?_ d v;simp_all [xD]
theorem LP{m:RM Eff}{d:Option Nat}{s:TSt}{k:TSt->Option R}{r:R}{b:Nat}{x:TB}{v:TV}(hm:m.run (Ju s)=some ⟨JZ (lns (wN b x s).sto) v,[(b,aR (lns (wN b x s).sto) x)]⟩)
  (h:k (aY d v (wN b x s))=some r):Ok m d s k r:=
 ⟨_,_,hm,pY (Ae b x s) d v,h⟩
theorem eJ{m:RM Eff}{d:Option Nat}{s:TSt}{k:TSt->Option R}{r:R}{v:TV}(hm:m.run (Ju s)=some ⟨JZ (lns s.sto) v,[]⟩)(h:k (aY d v s)=some r):Ok m d s k r:=
 ⟨_,_,hm,HQ d v,h⟩
theorem WH{m:RM Eff}{d:Option Nat}{s s':TSt}{ws:List (Nat×Blk)}{k:TSt->Option R}{r:R}{v:TV}(f:Fzd s s' ws)(hm:m.run (Ju s)=some ⟨JZ (lns s.sto) v,ws⟩)(h:k (aY d v s')=some r):Ok m d s k r:=by refine⟨_,_,hm,?_,h⟩;rw[<-f.2.1];exact pY f.2.2.1 d v
theorem JDt{t:Ty}{x u:TV}{d:Option Nat}{s:TSt}{k:TSt->Option R}{r:R}(h:WP t x u d s k=some r):Ok (gX t.sz (JZ (lns s.sto) x) (JZ (lns s.sto) u)) d s k r:=by
 unfold WP at h;split at h;rename_i b p;split at h;rename_i g y e;split at h;rename_i z G;split at h;rename_i J;obtain⟨F,h1,h2⟩:=xM h;rw[EL]at h1;refine FY (x:=.box g F) (v:=uv) (ND e).symm ?_ h2;simp only[iZ,kO,kS,fJ,gX,cV,dK,e,cE,Jy,aR,dj (lns s.sto) G J,dX,dV,if_true,CN,h1,JV];rfl;cases h;split at h;rename_i off cs l q L n;split at h;rename_i C;split at h;rename_i cs' B;refine FY (x:=mkb g cs') (v:=uv) ((NL _ _).trans (ND e).symm) ?_ h;rw[NU];simp only[iZ,kO,kS,fJ,gX,cV,dK,e,cE,Jy,aR,GX (lns s.sto) n,dX,C,if_true,BU q,<-HJ (lns s.sto) L,CN,B,JV];rfl;cases h;cases h;rename_i off l q _ n;split at h;rename_i E;obtain⟨rfl,h1,h2⟩:=E;refine FY (x:=mkb g l) (v:=uv) ((NL _ _).trans (ND e).symm) ?_ h;rw[NU];have K:spl ((cel g y).map AV.p) 0 (l.map (aT (lns s.sto)))=some (l.map (aT (lns s.sto))):=C6 (by grind [dV]);simp only[iZ,kO,kS,fJ,gX,cV,dK,e,cE,Jy,aR,GX (lns s.sto) n,dX,h2,if_true,BU q,K,JV];rfl;cases h;cases h;rename_i g cs e;split at h;rename_i off l q n;split at h;rename_i C;split at h;rename_i cs' B;refine FY (x:=mkb g cs') (v:=uv) ((NL _ _).trans (m4 e).symm) ?_ h;rw[NU];simp only[iZ,kO,kS,fJ,gX,cV,dK,e,cE,Jy,aR,GX (lns s.sto) n,dX,C,if_true,BU q,CN,B,JV];rfl;cases h;cases h;cases h;cases h;rename_i b i p;obtain⟨z,s1,ws,h1,f,h⟩:=As (Fzd.refl s) h;rw[wO]at f;split at h;rename_i g rows e;obtain⟨row,A,h⟩:=bL.1 h;have A:rows[i]?=some row:=A;obtain⟨j,D,M⟩:=xM h;rw[EL]at D;obtain⟨w',o⟩:=f.2.2.2.1 b _ rows true e;have H:w'=true:=by
  cases w' with
  |true=>rfl
  |false=>have:=f.2.2.2.2.1 b _ rows o;simp_all
 subst H;have w:(ws.all λy=>y.1 !=b)=true:=(by rw[QV];intro y I;obtain⟨t',rows',N⟩:=f.2.2.2.2.2 y I;grind);have n:lnB (.arr true g (aX rows i j))=lns s1.sto b:=by grind [iP,lnB,aX]
 refine⟨⟨fX,ws++[(b,.arr true g.sz ((aX rows i j).map (cel g)))]⟩,_,?_,?_,M⟩;simp only[iZ,kO,kS,fJ,gX,cV,dK,o,cE,Jy,aR,iP o,dX,if_true,fT,A,run_bind,h1,dV,w,and_self,D,JV,List.map_set,aX];rw[<-JKF (lns (wS b (.arr true g (aX rows i j)) s1).sto)];refine pY ?_ d uv;rw[xD n,f.2.2.1,eN];rfl;cases h;cases h
def tpv:List (Nat×Ty×TO)->TSt->Option (List (Nat×(w:Ty)×w.D))
 |[],_=>some []
 |(off,w,o)::r,s=>match tev o s with
  |some v=>match tdv w v with
   |some z=>if agv v=true\/w.sz=1 then
    match tpv r s with
    |some l=>some ((off,⟨w,z⟩)::l)
    |none=>none
    else none
   |none=>none
  |none=>none
def LW(t:Ty):t.D->List (Nat×(w:Ty)×w.D)->(t.D->Option R)->Option R|x,[],k=>k x|x,(off,⟨w,z⟩)::r,k=>pst t x off [] w z λe=>LW t e r k
def tpc:List (Nat×Ty×TO)->TSt->Option (List (Nat×Nat×List TC))
 |[],_=>some []
 |(off,w,o)::r,s=>match tev o s with
  |some v=>match tcs v with
   |some l=>match tpc r s with|some q=>some ((off,w.sz,l)::q)|none=>none
   |none=>none
  |none=>none
def FN:List (Nat×Nat×List TC)->List TC->Option (List TC)
 |[],cs=>some cs
 |(off,n,c)::r,cs=>if c.length=n then
  match spl cs off c with
  |some cs'=>FN r cs'
  |none=>none
  else none
def erP(parts:List (Nat×Ty×TO)):List (Nat×Nat×Opd):=parts.map λx=>(x.1,x.2.1.sz,erO x.2.2)
theorem WM{s:TSt}: ∀{parts:List (Nat×Ty×TO)} {l:List (Nat×Nat×List TC)},tpc parts s=some l->
  (jE (erP parts)).run (Ju s)=some (l.map λx=>(x.1,x.2.1,x.2.2.map (aT (lns s.sto))))
 |[],l,h=>by injection h with h;subst h;rfl
 |(off,w,o)::r,l,h=>by
  simp only[tpc]at h;split at h;rename_i v g;split at h;rename_i c j;split at h;rename_i q e;injection h with h;subst h;have ih:=WM e;simp only[erP,bP,jE,run_bind,bM g,Jy,GX (lns s.sto) j];simp_all [erP];cases h;cases h;cases h
theorem Ak{s:TSt}: ∀{parts:List (Nat×Ty×TO)} {l:List (Nat×(w:Ty)×w.D)},tpv parts s=some l->
  (jE (erP parts)).run (Ju s)=some (l.map λx=>(x.1,x.2.1.sz,(cel x.2.1 x.2.2).map .p))
 |[],l,h=>by injection h with h;subst h;rfl
 |(off,w,o)::r,l,h=>by
  simp only[tpv]at h;split at h;rename_i v g;split at h;rename_i z k;split at h;rename_i j;split at h;rename_i q e;injection h with h;subst h;have ih:=Ak e;simp only[erP,bP,jE,run_bind,bM g,Jy,dj (lns s.sto) k j];simp_all [erP];cases h;cases h;cases h;cases h
theorem nu{t:Ty}: ∀{l:List (Nat×(w:Ty)×w.D)} {x:t.D} {k:t.D->Option R} {r:R},LW t x l k=some r->
  ∃y,oG (l.map λx=>(x.1,x.2.1.sz,(cel x.2.1 x.2.2).map .p)) ((cel t x).map .p)=some ((cel t y).map .p)/\k y=some r
 |[],x,k,r,h=>⟨x,rfl,h⟩
 |(off,⟨w,z⟩)::q,x,k,r,h=>by
  simp only[LW]at h;obtain⟨e,h1,h2⟩:=xM h;obtain⟨y,j,g⟩:=nu h2;grind [oG,dV,CN,spo]
theorem ZM(L:Nat->Nat): ∀{l:List (Nat×Nat×List TC)} {cs cs':List TC},FN l cs=some cs'->
  oG (l.map λx=>(x.1,x.2.1,x.2.2.map (aT L))) (cs.map (aT L))=some (cs'.map (aT L))
 |[],cs,cs',h=>by injection h with h;subst h;rfl
 |(off,n,c)::q,cs,cs',h=>by
  simp only[FN]at h;split at h;rename_i e;split at h;rename_i j g;simp only[bP,oG,dX,e,if_true,CN,g,cE];exact ZM L h;cases h;cases h
def WT(t:Ty)(parts:List (Nat×Ty×TO))(d:Option Nat)(s:TSt)(k:TSt->Option R):Option R:=
 match tpv parts s with
 |some l=>LW t t.zero l λy=>k (aY d (.a (.dt t y)) s)
 |none=>match tpc parts s with
  |some l=>match FN l (zcs t)with
   |some cs'=>match mka true t cs' with|some v=>k (aY d v s)|none=>none
   |none=>none
  |none=>none
theorem JE7(F:Orc)(new:Nat){t:Ty}{parts:List (Nat×Ty×TO)}{d:Option Nat}{s:TSt}{k:TSt->Option R}{r:R}(h:WT t parts d s k=some r):Ok (opR F (.build (cel t t.zero) (erP parts)) new) d s k r:=by
 unfold WT at h;split at h;rename_i l e;obtain⟨y,h1,h2⟩:=nu h;refine eJ (v:=.a (.dt t y)) ?_ h2;simp only[opR,run_bind,Ak e,Jy,h1,rh,val,JV];rfl;split at h;rename_i l e;split at h;rename_i cs' g;split at h;rename_i v j;refine eJ (v:=v) ?_ h;simp only[opR,run_bind,WM e,Jy,<-CA (lns s.sto) t,ZM (lns s.sto) g,BZ (lns s.sto) j,val,JV];cases h;cases h;cases h
def WU(agg:Bool)(off:Nat)(t:Ty)(v:TV)(d:Option Nat)(s:TSt)(k:TSt->Option R):Option R:=
 if agg=true\/t.sz=1 then
  match v with
  | .a (.dt e x)=>prt e x off [] t λy=>k (aY d (mkv agg t y) s)
  | .a (.m _ cs)=>match sub cs off t.sz with
   |some l=>match mka agg t l with|some v=>k (aY d v s)|none=>none
   |none=>none
  |_=>none
 else none
theorem JDL{agg:Bool}{off:Nat}{t:Ty}{v:TV}{d:Option Nat}{s:TSt}{k:TSt->Option R}{r:R}(h:WU agg off t v d s k=some r):Ok (val (qA agg off t.sz (JZ (lns s.sto) v))) d s k r:=by
 unfold WU at h;split at h;rename_i n;split at h;rename_i e x;obtain⟨y,h1,h2⟩:=uP h;refine eJ (v:=mkv agg t y) ?_ h2;grind [spo,fx,qA,BR,val,JV];rename_i cs;split at h;rename_i l g;split at h;rename_i v j;refine eJ (v:=v) ?_ h;grind [e_m,qA,CO,BZ,val,JV];cases h;cases h;cases h;cases h
end
end Go.Am
end
section
namespace Go.Am
section
variable {R:Type}
theorem XV{α:Type} [BEq α] [LawfulBEq α] [DecidableEq α](x y:α):(x==y)=decide (x=y):=by
 grind
def Vl(m:Option AV)(s:TSt)(kk:TV->Option R)(r:R):Prop:= ∃v,m=some (JZ (lns s.sto) v)/\kk v=some r
theorem Vl.ok{m:Option AV}{d:Option Nat}{s:TSt}{k:TSt->Option R}{r:R}(h:Vl m s (λv=>k (aY d v s)) r):Ok (val m) d s k r:=by obtain⟨v,h1,h2⟩:=h;refine eJ (v:=v) ?_ h2;rw[h1];rfl
def fp(op:BinOp)(k:IntKind)(a c:Int)(kk:TV->Option R):Option R:=
 match op with
 | .add=>kk (vi k (J1 k a c))
 | .sub=>kk (vi k (JG k a c))
 | .mul=>kk (vi k (cK k a c))
 | .quo=>(FE k a c).bind λq=>kk (vi k q)
 | .rem=>(tN a c).bind λq=>kk (vi k q)
 | .and=>kk (vi k (iX k a c))
 | .or=>kk (vi k (orI k a c))
 | .xor=>kk (vi k (eF k a c))
 | .eql=>kk (vb (aI a c))
 | .neq=>kk (vb (aL a c))
 | .lss=>kk (vb (aJ a c))
 | .leq=>kk (vb (bA a c))
 | .gtr=>kk (vb (aM a c))
 | .geq=>kk (vb (aO a c))
 |_=>none
def io(op:BinOp)(a c:List UInt8)(kk:TV->Option R):Option R:=
 match op with
 | .add=>(bY a c).bind λq=>kk (vs q)
 | .eql=>kk (vb (eqS a c))
 | .neq=>kk (vb (neS a c))
 | .lss=>kk (vb (ltS a c))
 | .leq=>kk (vb (leS a c))
 | .gtr=>kk (vb (gtS a c))
 | .geq=>kk (vb (geS a c))
 |_=>none
inductive TBT where|plain|bool|flat (t:Ty)|nilp|nilf
def erT:TBT->BT| .plain=>.plain| .bool=>.bool| .flat t=>.flat (t.ks.getD [])| .nilp=>.nilp| .nilf=>.nilf
def mA(op:BinOp)(x:Bool)(kk:TV->Option R):Option R:=
 match op with
 | .eql=>kk (vb x)
 | .neq=>kk (vb (Jm x))
 |_=>none
def ik(op:BinOp)(bt:TBT)(x y:TV)(kk:TV->Option R):Option R:=
 match bt with
 | .plain=>match x,y with
  | .a (.c (.d (.i k) a)),.a (.c (.d (.i j) c))=>match op with| .shl=>(nK k a c).bind λq=>kk (vi k q)| .shr=>(iD k a c).bind λq=>kk (vi k q)|_=>if k=j then fp op k a c kk else none
  | .a (.c (.d .s a)),.a (.c (.d .s c))=>io op a c kk
  |_,_=>none
 | .bool=>match x,y with| .a (.c (.d .b a)),.a (.c (.d .b c))=>mA op (eqB a c) kk|_,_=>none
 | .flat t=>match x,y with| .a (.dt g a),.a (.dt e c)=>if h:g=t/\e=t/\t.ks.isSome=true then mA op (eqT t (h.1▸a) (h.2.1▸c)) kk else none|_,_=>none
 | .nilp=>match x with| .a (.c .np)=>mA op true kk| .a (.c (.ptr _ _))=>mA op false kk| .a (.c (.cp _ _ _))=>mA op false kk| .a (.c (.ep _ _ _))=>mA op false kk|_=>none
 | .nilf=>match x with| .a (.c .nf)=>mA op true kk| .a (.fn _ _ _)=>mA op false kk| .a (.c (.fn _))=>mA op false kk| .a (.c (.d .f _))=>mA op true kk|_=>none
theorem NF{op:BinOp}{x:Bool}{s:TSt}{kk:TV->Option R}{r:R}(h:mA op x kk=some r):Vl (iE op (some x)) s kk r:=by
 unfold mA at h;split at h;exact⟨_,rfl,h⟩;exact⟨_,rfl,h⟩;cases h
theorem JHq{op:BinOp}{k:IntKind}{a c:Int}{s:TSt}{kk:TV->Option R}{r:R}(h:fp op k a c kk=some r):Vl ((vW op k a c).map .p) s kk r:=by
 unfold fp at h;split at h<;>first
  |exact⟨_,rfl,h⟩
  |(obtain⟨q,h1,h⟩:=bL.1 h
    refine⟨_,?_,h⟩
    first|unfold FE at h1|unfold tN at h1
    split at h1;cases h1;rename_i e;injection h1 with h1;simp only[vW,if_neg e,h1,cE,e_i])
  |(refine⟨_,?_,h⟩;simp only[vW,XV,cE,e_b,bne,aI,aL,aJ,bA,aM,aO];done)
  |cases h
theorem JIN{op:BinOp}{a c:List UInt8}{s:TSt}{kk:TV->Option R}{r:R}(h:io op a c kk=some r):Vl ((wK op a c).map .p) s kk r:=by
 unfold io at h;split at h<;>first
  |(obtain⟨q,h1,h⟩:=bL.1 h
    refine⟨_,?_,h⟩;unfold bY at h1;split at h1;rename_i e;injection h1 with h1;simp only[wK,if_pos e,h1,cE,e_s];cases h1)
  |(refine⟨_,?_,h⟩;simp only[wK,XV,cE,e_b,eqS,neS,ltS,leS,gtS,geS];done)
  |cases h
theorem JIe{op:BinOp}{bt:TBT}{x y:TV}{s:TSt}{kk:TV->Option R}{r:R}(h:ik op bt x y kk=some r):Vl (lX op (erT bt) (JZ (lns s.sto) x) (JZ (lns s.sto) y)) s kk r:=by
 unfold ik at h;split at h;split at h;rename_i k a g c;simp only[e_i,erT,lX];split at h;obtain⟨q,h1,h⟩:=bL.1 h;unfold nK at h1;split at h1;cases h1;rename_i e;injection h1 with h1;exact⟨_,by simp_all [e_i],h⟩;obtain⟨q,h1,h⟩:=bL.1 h;unfold iD at h1;split at h1;cases h1;rename_i e;injection h1 with h1;exact⟨_,by simp_all [e_i],h⟩;grind [JHq];exact JIN h;cases h;split at h;rename_i a c;simp only[e_b,erT,lX,XV];exact NF h;cases h;grind [Option.isSome_iff_exists,fx,erT,lX,NB,NF];split at h<;>first|exact NF h|cases h
 split at h<;>first|exact NF h|cases h
def tUn(op:UnOp)(x:TV)(kk:TV->Option R):Option R:=
 match op,x with
 | .neg,.a (.c (.d (.i k) n))=>kk (vi k (Z3 k n))
 | .xor,.a (.c (.d (.i k) n))=>kk (vi k (FL k n))
 | .not,.a (.c (.d .b x))=>kk (vb (Jm x))
 |_,_=>none
theorem JKm{op:UnOp}{x:TV}{s:TSt}{kk:TV->Option R}{r:R}(h:tUn op x kk=some r):Vl (unP op (JZ (lns s.sto) x)) s kk r:=by unfold tUn at h;split at h<;>first|exact⟨_,rfl,h⟩|cases h
def tMm(mx:Bool)(x y:TV)(kk:TV->Option R):Option R:=
 match x,y with
 | .a (.c (.d (.i k) a)),.a (.c (.d (.i _) c))=>kk (vi k (if mx=true then eA a c else kP a c))
 |_,_=>none
theorem JKL{mx:Bool}{x y:TV}{s:TSt}{kk:TV->Option R}{r:R}(h:tMm mx x y kk=some r):Vl (mmP mx (JZ (lns s.sto) x) (JZ (lns s.sto) y)) s kk r:=by
 unfold tMm at h;split at h;exact⟨_,by cases mx<;>rfl,h⟩;cases h
def tls(t:Ty)(v:TV)(s:TSt):Option (List t.D):=
 match v with
 | .a (.c (.d (.l t') l))=>if h:t'=t then some (h▸l)else none
 | .a (.c (.d .s l))=>if h:t=.i .u8 then some (h▸(aP l:List (Ty.i .u8).D))else none
 | .a (.c (.slr b))=>match s.sto[b]? with|some (.arr _ t' rows)=>if h:t'=t then some (h▸rows)else none|_=>none
 | .a (.c (.suf b i))=>match s.sto[b]? with|some (.arr _ t' rows)=>if h:t'=t then some (h▸rows.drop i)else none|_=>none
 |_=>none
theorem GY{t:Ty}{v:TV}{s:TSt}{l:List t.D}(h:tls t v s=some l):(eH t.sz (JZ (lns s.sto) v)).run (Ju s)=some (l.map (cel t)):=by
 unfold tls at h;split at h;grind [e_l,eH,JV];split at h;rename_i g;subst g;injection h with h;subst h;simp only[e_s,eH,Ty.sz,if_true,JV,YN];rfl;cases h;rename_i b;split at h;rename_i w t' rows j;split at h;rename_i g;subst g;injection h with h;subst h;simp only[fJ,eH,cV,dK,j,cE,Jy,aR,iP j,dX,mC,and_self,if_true,JV,wR];cases h;cases h;rename_i b i;split at h;rename_i w t' rows j;split at h;rename_i g;subst g;injection h with h;subst h;have e:JZ (lns s.sto) (.a (.c (.suf b i)))=.slr b (min i (lns s.sto b)) (lns s.sto b-i):=rfl;have n:min i rows.length+(rows.length-i)=rows.length:=by omega
 have k:(rows.map (cel t')).drop (min i rows.length)=(rows.map (cel t')).drop i:=(by rcases Nat.le_total i rows.length with h|h;rw[Nat.min_eq_left h];rw[Nat.min_eq_right h,List.drop_of_length_le (by simp),List.drop_of_length_le (by simpa using h)]);simp only[e,eH,cV,dK,j,cE,Jy,aR,iP j,dX,n,and_self,if_true,JV,k,List.map_drop];cases h;cases h;cases h
def jh(k:CK)(x:TV)(d:Option Nat)(new:Nat)(s:TSt)(kk:TSt->Option R):Option R:=
 match k with
 | .int k=>match x with| .a (.c (.d (.i _) n))=>kk (aY d (vi k (aS k n)) s)|_=>none
 | .same=>match x with| .a (.c (.d .s l))=>kk (aY d (vs l) s)|_=>none
 | .toStr=>match tls (.i .u8) x s with|some l=>kk (aY d (vs (toStr l)) s)|none=>none
 | .toBytes own=>match x with| .a (.c (.d .s l))=>if own=true then kk (aY d (.a (.c (.slr new))) (wN new (.arr true (.i .u8) (aP l)) s))else kk (aY d (vl (.i .u8) (aP l)) s)|_=>none
theorem JFM(F:Orc){k:CK}{x:TO}{v:TV}{d:Option Nat}{new:Nat}{s:TSt}{kk:TSt->Option R}{r:R}(hx:tev x s=some v)(hn:k=.toBytes true->new<s.sto.length)(h:jh k v d new s kk=some r):Ok (opR F (.conv k (erO x)) new) d s kk r:=by
 unfold jh at h;split at h;split at h;refine eJ (v:=vi _ _) ?_ h;simp only[opR,run_bind,bM hx,Jy,e_i,JV,aS];cases h;split at h;refine eJ (v:=vs _) ?_ h;grind [opR,run_bind,bM,e_s,JV];cases h;split at h;rename_i l j;refine eJ (v:=vs _) ?_ h;have:=GY j;have e:l.map (cel (.i .u8))=l.map (r_i .u8):=rfl;rw[e]at this;simp only[opR,run_bind,bM hx,Jy,this,du,e_s,JV,Ty.sz];rw[show(eH 1 (JZ (lns s.sto) v)).run (Ju s)=some (l.map (r_i .u8))from this];simp[du];cases h;rename_i own;split at h;rename_i l;split at h;rename_i g;subst g;refine LP (x:=.arr true (.i .u8) (aP l)) (v:=.a (.c (.slr new))) ?_ h;simp only[opR,run_bind,bM hx,Jy,e_s,if_true,JV,fJ,aR,YN];have e:lns (wN new (TB.arr true (Ty.i IntKind.u8) (aP l)) s).sto new=l.length:=(by grind [wN,WO,lnB,aP]);rw[e];rfl;rename_i g;have:own=false:=by simpa using g
 subst this;refine eJ (v:=vl _ _) ?_ h;simp only[opR,run_bind,bM hx,Jy,e_s,eB,if_false,JV,e_l,YN];rfl;cases h
end
end Go.Am
end
section
namespace Go.Am
section
variable {R:Type}
theorem B7(p q:List Sp):spo (p++q)=spo p+spo q:=by
 induction p with
 |nil=>simp[spo]
 |cons x p ih=>cases x<;>simp only[AU,spo,ih]<;>omega
def WR(off:Nat)(x:TV)(kk:TV->Option R):Option R:=
 match x with
 | .a (.c (.ptr b p))=>kk (.a (.c (.ptr b (p++[.f off]))))
 | .a (.c (.cp t x p))=>kk (.a (.c (.cp t x (p++[.f off]))))
 | .a (.c (.ep b i p))=>kk (.a (.c (.ep b i (p++[.f off]))))
 |_=>none
theorem JDY{off:Nat}{x:TV}{s:TSt}{kk:TV->Option R}{r:R}(h:WR off x kk=some r):Vl (GQ off (JZ (lns s.sto) x)) s kk r:=by
 unfold WR at h;split at h<;>first
  |(refine⟨_,?_,h⟩;simp only[iZ,kO,kS,GQ,B7,spo,tP];done)
  |cases h
def WW(len esz:Nat)(x i:TV)(kk:TV->Option R):Option R:=
 match i with
 | .a (.c (.d (.i _) n))=>(aZ len n).bind λ_=>match x with| .a (.c (.ptr b p))=>kk (.a (.c (.ptr b (p++[.a n.toNat esz]))))| .a (.c (.cp t x p))=>kk (.a (.c (.cp t x (p++[.a n.toNat esz]))))| .a (.c (.ep b i p))=>kk (.a (.c (.ep b i (p++[.a n.toNat esz]))))|_=>none
 |_=>none
theorem JEb{len esz:Nat}{x i:TV}{s:TSt}{kk:TV->Option R}{r:R}(h:WW len esz x i kk=some r):Vl (GO len esz (JZ (lns s.sto) x) (JZ (lns s.sto) i)) s kk r:=by
 unfold WW at h;split at h;obtain⟨_,h1,h⟩:=bL.1 h;have e:=Cp h1;split at h<;>first
  |(refine⟨_,?_,h⟩;simp only[iZ,kO,kS,e_i,GO,if_pos e,B7,spo,tP];done)
  |cases h
 cases h
def WQ(t:Ty)(x i:TV)(s:TSt)(kk:TV->Option R):Option R:=
 match i with
 | .a (.c (.d (.i _) n))=>match x with
  | .a (.c (.d (.l t') l))=>if t'=t then(idx l n).bind λy=>kk (.a (.c (.cp t' y [])))else none
  | .a (.c (.slr b))=>match s.sto[b]? with|some (.arr _ t' rows)=>if t'=t then(aZ rows.length n).bind λ_=>kk (.a (.c (.ep b n.toNat [])))else none|_=>none
  |_=>none
 |_=>none
theorem JDG{t:Ty}{x i:TV}{d:Option Nat}{s:TSt}{k:TSt->Option R}{r:R}(h:WQ t x i s (λv=>k (aY d v s))=some r):Ok (kY t.sz (JZ (lns s.sto) x) (JZ (lns s.sto) i)) d s k r:=by
 unfold WQ at h;split at h;split at h;split at h;rename_i e;subst e;obtain⟨y,h1,h⟩:=bL.1 h;refine eJ (v:=.a (.c (.cp _ y []))) ?_ h;grind [e_l,e_i,kO,kY,JDC,JV,spo];cases h;rename_i b;split at h;rename_i w t' rows g;split at h;rename_i e;subst e;obtain⟨_,h1,h⟩:=bL.1 h;have e:=Cp h1;refine eJ (v:=.a (.c (.ep b _ []))) ?_ h;simp only[fJ,e_i,kS,kY,cV,dK,g,cE,Jy,aR,iP g,dX,mC,true_and];rw[if_pos e];rfl;cases h;cases h;cases h;cases h
def j6(x i:TV)(kk:TV->Option R):Option R:=
 match x,i with
 | .a (.c (.d .s l)),.a (.c (.d (.i _) n))=>(iA l n).bind λu=>kk (vi .u8 u)
 |_,_=>none
theorem JHb(F:Orc){x i:TO}{g e:TV}{d:Option Nat}{new:Nat}{s:TSt}{k:TSt->Option R}{r:R}(hx:tev x s=some g)(hi:tev i s=some e)(h:j6 g e (λv=>k (aY d v s))=some r):Ok (opR F (.sidx (erO x) (erO i)) new) d s k r:=by
 unfold j6 at h;split at h
 ·rename_i l o n;obtain⟨u,h1,h⟩:=bL.1 h;refine eJ (v:=vi .u8 u) ?_ h;simp only[opR,run_bind,bM hx,bM hi,Jy,e_s,e_i];unfold iA at h1;split at h1
  ·rename_i j;rw[if_pos j];split at h1
   all_goals simp_all
  cases h1
 cases h
def RG(j:Int)(k:Nat->Option R):Nat->Option R|0=>none|m+1=>if aI j m=true then k m else RG j k m
theorem C0{j:Int}{k:Nat->Option R}{r:R}: ∀{n:Nat},RG j k n=some r-> ∃m,m<n/\j=m/\k m=some r
 |0,h=>by cases h
 |n+1,h=>by
  simp only[RG]at h;split at h;grind [aI];obtain⟨m,h1,h2,e⟩:=C0 h;grind
def jk(agg:Bool)(len:Nat)(t:Ty)(x i:TV)(d:Option Nat)(s:TSt)(k:TSt->Option R):Option R:=
 if agg=true\/t.sz=1 then
  match x,i with
  | .a (.dt (.ar n t') v),.a (.c (.d (.i _) j))=>if h:t'=t/\n=len then(fm v j).bind λy=>k (aY d (mkv agg t (h.1▸y)) s)else none
  | .a (.m _ cs),.a (.c (.d (.i _) j))=>RG j (λm=>match sub cs (m*t.sz) t.sz with
   |some l=>match mka agg t l with|some v=>k (aY d v s)|none=>none
   |none=>none) len
  |_,_=>none
 else none
theorem JGb(F:Orc){agg:Bool}{len:Nat}{t:Ty}{x i:TO}{o g:TV}{d:Option Nat}{new:Nat}{s:TSt}{k:TSt->Option R}{r:R}(hx:tev x s=some o)(hi:tev i s=some g)(h:jk agg len t o g d s k=some r):
  Ok (opR F (.aidx agg len t.sz (erO x) (erO i)) new) d s k r:=by
 unfold jk at h;split at h;rename_i D;split at h;rename_i n t' v z j;split at h;rename_i w;obtain⟨rfl,rfl⟩:=w;obtain⟨y,h1,h⟩:=bL.1 h;obtain⟨h2,e⟩:=JET h1;refine eJ (v:=mkv agg t' y) ?_ h;simp only[opR,run_bind,bM hx,bM hi,Jy,fx,e_i,if_pos h2,qA];grind [cel,GZ,dV,BR,val,JV];cases h;rename_i C cs z j;obtain⟨m,h1,q,e⟩:=C0 h;clear h;subst q;split at e;rename_i l A;split at e;rename_i v B;refine eJ (v:=v) ?_ e;have h2:(0:Int)<=m/\(m:Int)<len:=by omega
 simp only[opR,run_bind,bM hx,bM hi,Jy,e_m,e_i,if_pos h2,qA,Int.toNat_natCast,CO,A,cE,BZ (lns s.sto) B,val,JV];cases e;cases e;cases h;cases h
def ji(x:TV)(i:Nat)(kk:TV->Option R):Option R:=
 match x with
 | .tup vs=>match vs[i]? with|some v=>kk (.a v)|none=>none
 |_=>none
theorem JGZ{x:TV}{i:Nat}{s:TSt}{kk:TV->Option R}{r:R}(h:ji x i kk=some r):Vl (LJ i (JZ (lns s.sto) x)) s kk r:=by
 unfold ji at h;split at h;split at h;rename_i v e;refine⟨_,?_,h⟩;simp_all [JZ];cases h;cases h
def g4(str:Bool)(x:TV)(s:TSt)(kk:TV->Option R):Option R:=
 match str,x with
 |true,.a (.c (.d .s l))=>kk (vi .i64 (J0 l))
 |false,.a (.c (.d (.l _) l))=>kk (vi .i64 (J0 l))
 |false,.a (.c (.slr b))=>match s.sto[b]? with|some (.arr _ _ rows)=>kk (vi .i64 (J0 rows))|_=>none
 |false,.a (.c (.slo _ n))=>kk (vi .i64 n)
 |_,_=>none
theorem JHw{str:Bool}{x:TV}{s:TSt}{kk:TV->Option R}{r:R}(h:g4 str x s kk=some r):Vl (FG str (JZ (lns s.sto) x)) s kk r:=by
 unfold g4 at h;split at h;exact⟨_,rfl,h⟩;exact⟨_,by simp[e_l,e_i,J0],h⟩;split at h;rename_i e;exact⟨_,by grind [fJ,FG,iP,e_i,J0],h⟩;cases h;exact⟨_,rfl,h⟩;cases h
theorem YH{s:TSt}{new:Nat}(hn:new<s.sto.length){w:Bool}{t:Ty}{rows:List t.D}:lns (wN new (TB.arr w t rows) s).sto new=rows.length:=by unfold wN;rw[WO (by simpa using hn)];rfl
theorem MS{m:RM Eff}{d:Option Nat}{s:TSt}{k:TSt->Option R}{r:R}{new:Nat}{t:Ty}{rows:List t.D}(hn:new<s.sto.length)
  (hm:m.run (Ju s)=some ⟨.slr new 0 rows.length,[(new,.arr true t.sz (rows.map (cel t)))]⟩) (h:k (aY d (.a (.c (.slr new))) (wN new (.arr true t rows) s))=some r):Ok m d s k r:=by
 refine LP (x:=.arr true t rows) (v:=.a (.c (.slr new))) ?_ h;rw[hm,fJ,YH hn];rfl
def YM(own:Bool)(t:Ty)(bytes:Nat)(l c:TV)(d:Option Nat)(new:Nat)(s:TSt)(k:TSt->Option R):Option R:=
 match l,c with
 | .a (.c (.d (.i _) n)),.a (.c (.d (.i _) m))=>(mkS bytes n m t.zero).bind λrows=>
  if own=true then k (aY d (.a (.c (.slr new))) (wN new (.arr true t rows) s))else k (aY d (vl t rows) s)
 |_,_=>none
theorem D5(F:Orc){own:Bool}{t:Ty}{bytes:Nat}{l c:TO}{e n:TV}{d:Option Nat}{new:Nat}{s:TSt}{k:TSt->Option R}{r:R}(hl:tev l s=some e)(hc:tev c s=some n)(hn:own=true->new<s.sto.length)
  (h:YM own t bytes e n d new s k=some r):Ok (opR F (.mkslice own t.sz bytes (cel t t.zero) (erO l) (erO c)) new) d s k r:=by
 unfold YM at h;split at h;obtain⟨rows,h1,j⟩:=bL.1 h;obtain⟨h2,rfl⟩:=JIA h1;clear h;split at j;rename_i g;subst g;refine MS (hn rfl) ?_ j;simp only[opR,run_bind,bM hl,bM hc,Jy,e_i,if_pos h2,if_true,JV,AS,RK];rename_i g;have:own=false:=by simpa using g
 subst this;refine eJ (v:=vl t _) ?_ j;simp only[opR,run_bind,bM hl,bM hc,Jy,e_i,if_pos h2,eB,if_false,JV,e_l,RK];cases h
def RC(t:Ty)(bytes:Nat)(x y:TV)(d:Option Nat)(s:TSt)(k:TSt->Option R):Option R:=
 match x with
 | .a (.c (.slr b))=>match s.sto[b]? with
  |some (.arr w t' rows)=>if h:t'=t then
   match tls t' y s with
   |some l=>(JC bytes rows l).bind λm=>k (aY d (.a (.c (.slr b))) (wN b (.arr w t' m) s))
   |none=>none
   else none
  |_=>none
 |_=>none
theorem Cj{t:Ty}{bytes:Nat}{x y:TV}{d:Option Nat}{s:TSt}{k:TSt->Option R}{r:R}(h:RC t bytes x y d s k=some r):Ok (hC t.sz bytes (JZ (lns s.sto) x) (JZ (lns s.sto) y)) d s k r:=by
 unfold RC at h;split at h;rename_i b;split at h;rename_i w t' rows e;split at h;rename_i j;subst j;split at h;rename_i l n;obtain⟨m,h1,h⟩:=bL.1 h;refine LP (x:=.arr w t' m) (v:=.a (.c (.slr b))) ?_ h;have g:(Ju s).sto[b]?=some (.arr w t'.sz (rows.map (cel t'))):=by rw[dK,e];rfl
 have:=JIk h1 g (GY n);rw[fJ,iP e,this,fJ,YH (Jq e)];rfl;cases h;cases h;cases h;cases h
def jy(x hi:TV)(d:Option Nat)(s:TSt)(k:TSt->Option R):Option R:=
 match x,hi with
 | .a (.c (.slr b)),.a (.c (.d (.i _) n))=>match s.sto[b]? with|some (.arr _ _ rows)=>(EH n rows.length).bind λj=>k (aY d (.a (.c (.pre b j))) s)|_=>none
 |_,_=>none
theorem JFZ{x hi:TV}{d:Option Nat}{s:TSt}{k:TSt->Option R}{r:R}(h:jy x hi d s k=some r):Ok (rD (JZ (lns s.sto) x) (JZ (lns s.sto) hi)) d s k r:=by
 unfold jy at h;split at h;rename_i b q n;split at h;rename_i w t rows g;obtain⟨j,h1,h⟩:=bL.1 h;unfold EH at h1;split at h1;rename_i o;injection h1 with h1;subst h1;refine eJ (v:=.a (.c (.pre b n.toNat))) ?_ h;have e:JZ (lns s.sto) (.a (.c (.pre b n.toNat)))=.pre b (lns s.sto b) n.toNat:=rfl;simp only[e,fJ,e_i,rD,cV,dK,g,cE,Jy,aR,iP g,dX,true_and,o,and_self,if_true,JV];cases h1;cases h;cases h
def j7(t:Ty)(x lo:TV)(d:Option Nat)(s:TSt)(k:TSt->Option R):Option R:=
 match x,lo with
 | .a (.c (.slr b)),.a (.c (.d (.i _) n))=>match s.sto[b]? with|some (.arr _ t' rows)=>if t'=t then(EM n rows.length).bind λj=>k (aY d (.a (.c (.suf b j))) s)else none|_=>none
 |_,_=>none
theorem JGU{t:Ty}{x lo:TV}{d:Option Nat}{s:TSt}{k:TSt->Option R}{r:R}(h:j7 t x lo d s k=some r):Ok (rJ t.sz (JZ (lns s.sto) x) (JZ (lns s.sto) lo)) d s k r:=by
 unfold j7 at h;split at h;rename_i b z n;split at h;rename_i w t' rows g;split at h;rename_i q;subst q;obtain⟨j,h1,h⟩:=bL.1 h;unfold EM at h1;split at h1;rename_i o;injection h1 with h1;subst h1;refine eJ (v:=.a (.c (.suf b n.toNat))) ?_ h;have e:JZ (lns s.sto) (.a (.c (.suf b n.toNat)))=.slr b (min n.toNat (lns s.sto b)) (lns s.sto b-n.toNat):=rfl;have y:min n.toNat rows.length=n.toNat:=Nat.min_eq_left (by omega);simp only[e,fJ,e_i,rJ,cV,dK,g,cE,Jy,aR,iP g,dX,mC,true_and,o,and_self,if_true,JV,y];cases h1;cases h;cases h;cases h
def kb(t:Ty)(bytes:Nat)(x y:TV)(d:Option Nat)(s:TSt)(k:TSt->Option R):Option R:=
 match x with
 | .a (.c (.pre b n))=>match s.sto[b]? with
  |some (.arr true t' rows)=>if h:t'=t then
   match tls t' y s with
   |some l=>(FI bytes rows n l).bind λm=>k (aY d (vl t' m) (wN b (.arr false t' (m++rows.drop (n+l.length))) s))
   |none=>none
   else none
  |_=>none
 |_=>none
theorem JF1{t:Ty}{bytes:Nat}{x y:TV}{d:Option Nat}{s:TSt}{k:TSt->Option R}{r:R}(h:kb t bytes x y d s k=some r):Ok (rK t.sz bytes (JZ (lns s.sto) x) (JZ (lns s.sto) y)) d s k r:=by
 unfold kb at h;split at h;rename_i b n;split at h;rename_i t' rows j;split at h;rename_i o;subst o;split at h;rename_i l q;obtain⟨m,h1,h⟩:=bL.1 h;unfold FI at h1;split at h1;rename_i w;injection h1 with h1;subst h1;refine LP (x:=.arr false t' (rows.take n++l++rows.drop (n+l.length))) (v:=vl t' (rows.take n++l)) ?_ h;have g:(Ju s).sto[b]?=some (.arr true t'.sz (rows.map (cel t'))):=by rw[dK,j];rfl
 have e:JZ (lns s.sto) (.a (.c (.pre b n)))=.pre b (lns s.sto b) n:=rfl;simp only[e,iP j,rK,cV,g,Jy,run_bind,GY q,dX,w,and_self,if_true,JV,e_l,MN,wJ,ig,List.map_drop];cases h1;cases h;cases h;cases h;cases h
def jm(t:Ty)(bytes:Nat)(y:TV)(d:Option Nat)(new:Nat)(s:TSt)(k:TSt->Option R):Option R:=
 match tls t y s with
 |some l=>(cJ bytes l).bind λm=>k (aY d (.a (.c (.slr new))) (wN new (.arr true t m) s))
 |none=>none
theorem JFm(F:Orc){t:Ty}{bytes:Nat}{z:List PV}{y:TO}{e:TV}{d:Option Nat}{new:Nat}{s:TSt}{k:TSt->Option R}{r:R}(hy:tev y s=some e)(hn:new<s.sto.length)(h:jm t bytes e d new s k=some r):Ok (opR F (.appn t.sz bytes z (erO y)) new) d s k r:=by
 unfold jm at h;split at h;rename_i l g;obtain⟨m,h1,j⟩:=bL.1 h;obtain⟨h2,rfl⟩:=JEO h1;refine MS hn ?_ j;simp only[opR,run_bind,bM hy,Jy,GY g,dX,h2,if_true,JV];cases h
def jl(t:Ty)(bytes:Nat)(x y:TV)(d:Option Nat)(s:TSt)(k:TSt->Option R):Option R:=
 match y with
 | .a (.c (.d (.i _) n))=>if 0<=n then RC t bytes x (vl t (List.replicate n.toNat t.zero)) d s k else none
 |_=>none
theorem JG8(F:Orc){t:Ty}{bytes:Nat}{x y:TO}{g j:TV}{d:Option Nat}{new:Nat}{s:TSt}{k:TSt->Option R}{r:R}(hx:tev x s=some g)(hy:tev y s=some j)(h:jl t bytes g j d s k=some r):Ok (opR F (.appz t.sz bytes (cel t t.zero) (erO x) (erO y)) new) d s k r:=by
 unfold jl at h;split at h;rename_i n;split at h;rename_i o;obtain⟨e,s',h1,h2,q⟩:=Cj h;refine⟨e,s',?_,h2,q⟩;simp only[opR,run_bind,bM hx,bM hy,Jy,e_i,zrs,if_pos o];simp_all [e_l];cases h;cases h
def jv(t:Ty)(bytes:Nat)(x y:TV)(d:Option Nat)(new:Nat)(s:TSt)(k:TSt->Option R):Option R:=
 match x with
 | .a (.c (.sc t' rows))=>if h:t'=t then
   match tls t' y s with
   |some l=>(ym bytes rows l).bind λm=>k (aY d (.a (.c (.slr new))) (wN new (.arr true t' m) s))
   |none=>none
  else none
 |_=>none
theorem JG1(F:Orc){t:Ty}{bytes:Nat}{z:List PV}{x y:TO}{e g:TV}{d:Option Nat}{new:Nat}{s:TSt}{k:TSt->Option R}{r:R}(hx:tev x s=some e)(hy:tev y s=some g)(hn:new<s.sto.length)(h:jv t bytes e g d new s k=some r):
  Ok (opR F (.appc t.sz bytes z (erO x) (erO y)) new) d s k r:=by
 unfold jv at h;split at h;rename_i t' rows;split at h;rename_i j;subst j;split at h;rename_i l n;obtain⟨m,h1,h⟩:=bL.1 h;unfold ym at h1;split at h1;rename_i h2;injection h1 with h1;subst h1;refine MS hn ?_ h;simp only[opR,run_bind,bM hx,bM hy,Jy];show(EX t'.sz bytes (.p (.slc t'.sz (rows.map (cel t')))) _ new).run _=_;grind [EX,run_bind,GY,JV];cases h1;cases h;cases h;cases h
def tbn(x:Option TO)(s:TSt):Option (Option (IntKind×Int)):=
 match x with
 |none=>some none
 |some o=>match tev o s with|some (.a (.c (.d (.i k) n)))=>some (some (k,n))|_=>none
def bv(x:Option (IntKind×Int)):Option AV:=x.map λy=>.p (.i y.1 y.2)
theorem BQ{x:Option TO}{s:TSt}{y:Option (IntKind×Int)}(h:tbn x s=some y):(evo (x.map erO)).run (Ju s)=some (bv y):=by
 cases x with
 |none=>injection h with h;subst h;rfl
 |some o=>
  simp only[tbn]at h;split at h;rename_i k n e;injection h with h;subst h;simp only[cE,evo,run_bind,bM e,Jy,JV,bv,e_i];cases h
theorem JKf(x:Option (IntKind×Int))(top d:Nat):lG (bv x) top d=AK (x.map (·.2)) top d:=by cases x<;>rfl
theorem A7(n:Nat)(lo hi:Option (IntKind×Int)):mF n (bv lo) (bv hi)=wG n (lo.map (·.2)) (hi.map (·.2)):=by
 grind [mF,wG,JKf]
inductive TSK where|str|sl (t:Ty)
def erK:TSK->SK| .str=>.str| .sl t=>.sl t.sz
def gf(t:Ty)(x:TV)(s:TSt)(kk:List t.D->TSt->Option R):Option R:=
 match x with
 | .a (.c (.d (.l t') l))=>if h:t'=t then kk (h▸l) s else none
 | .a (.c (.slr b))=>match s.sto[b]? with|some (.arr _ t' rows)=>if h:t'=t then kk (h▸rows) (wS b (.arr false t' rows) s)else none|_=>none
 |_=>none
theorem JIp{t:Ty}{x:TV}{s:TSt}{kk:List t.D->TSt->Option R}{r:R}(h:gf t x s kk=some r):
  ∃l s' ws,Fzd s s' ws/\kk l s'=some r/\((JZ (lns s.sto) x=.p (.sl t.sz (l.map (cel t)))/\ws=[])\/
   ∃b,JZ (lns s.sto) x=.slr b 0 l.length/\(fz (.slr b 0 l.length)).run (Ju s)=some ([.sl t.sz (l.map (cel t))],ws)):=by
 unfold gf at h;split at h;grind [Fzd.refl,e_l];rename_i b;split at h;rename_i w t' rows e;split at h;rename_i g;subst g;refine⟨_,_,_,XK e,h,.inr ⟨b,by rw[fJ,iP e],?_⟩⟩;simp_all [dK,aR];cases h;cases h;cases h
def WE(e:TSK)(x:TV)(lo hi mx:Option (IntKind×Int))(d:Option Nat)(s:TSt)(k:TSt->Option R):Option R:=
 match e with
 | .str=>match x,mx with| .a (.c (.d .s l)),none=>(aV l (lo.map (·.2)) (hi.map (·.2))).bind λq=>k (aY d (vs q) s)|_,_=>none
 | .sl t=>gf t x s λl s1=>match mx with|none=>(aV l (lo.map (·.2)) (hi.map (·.2))).bind λq=>k (aY d (vl t q) s1)|some (_,n)=>match lo,hi with|none,some (_,h)=>if h=l.length/\n=l.length then k (aY d (.a (.c (.sc t l))) s1)else none|_,_=>none
theorem Ca{α:Type}{l q:List α}{lo hi:Option Int}(h:aV l lo hi=some q): ∃c,wG l.length lo hi=some c/\q=(l.drop c.1).take (c.2-c.1):=by
 grind [aV]
theorem JDZ(F:Orc){n:TSK}{x:TO}{j:TV}{lo hi mx:Option TO}{l g m:Option (IntKind×Int)}{d:Option Nat}{new:Nat}{s:TSt}{k:TSt->Option R}{r:R}(hx:tev x s=some j)(hl:tbn lo s=some l)(hh:tbn hi s=some g)(hm:tbn mx s=some m)
  (h:WE n j l g m d s k=some r):Ok (opR F (.slice (erK n) (erO x) (lo.map erO) (hi.map erO) (mx.map erO)) new) d s k r:=by
 unfold WE at h;split at h;split at h;rename_i A;obtain⟨q,h1,h⟩:=bL.1 h;obtain⟨c,o,rfl⟩:=Ca h1;refine eJ (v:=vs _) ?_ h;have w:bv none=none:=rfl;simp only[opR,run_bind,bM hx,BQ hl,BQ hh,BQ hm,Jy,e_s,erK,w,jF,uL,val,A7,o,JV];cases h;rename_i t;obtain⟨y,s1,ws,f,h,C⟩:=JIp h;have e: ∀(res:AV),jF (.sl t.sz) (.p (.sl t.sz (y.map (cel t)))) (bv l) (bv g) (bv m)=some res->
   (opR F (.slice (erK (.sl t)) (erO x) (lo.map erO) (hi.map erO) (mx.map erO)) new).run (Ju s)=some ⟨res,ws⟩:=by
  intro res B;simp only[opR,run_bind,bM hx,BQ hl,BQ hh,BQ hm,Jy,erK];grind [val,JV,run_bind]
 split at h;obtain⟨q,h2,h⟩:=bL.1 h;obtain⟨c,o,rfl⟩:=Ca h2;refine WH (v:=vl t _) f (e _ ?_) h;grind [bv,jF,uI,A7,e_l,List.map_take,List.map_drop];split at h;split at h;rename_i z;refine WH (v:=.a (.c (.sc t y))) f (e _ ?_) h;simp only[bv,Option.map_none,cE,jF,LH,dX,z,and_self,if_true];rfl;cases h;cases h
end
end Go.Am
end
section
namespace Go.Am
section
variable {R:Type}
def QO(t:Ty):List (Nat×TO)->TSt->TSt->(List (Nat×t.D)->TSt->Option R)->Option R|[],_,s,k=>k [] s|(i,o)::r,s0,s,k=>match tev o s0 with|some v=>tfz t v s λz s'=>QO t r s0 s' λl e=>k ((i,z)::l) e|none=>none
theorem Db{t:Ty}: ∀{parts:List (Nat×TO)} {s0 s:TSt} {w0:List (Nat×Blk)} {k:List (Nat×t.D)->TSt->Option R} {r:R},Fzd s0 s w0->QO t parts s0 s k=some r->
  ∃l s' ws,(fzs (parts.map λx=>erO x.2)).run (Ju s0)=some (l.map λx=>cel t x.2,ws)/\Fzd s0 s' (w0++ws)/\l.map (·.1)=parts.map (·.1)/\k l s'=some r
 |[],s0,s,w0,k,r,f,h=>⟨[],s,[],rfl,by simp_all,rfl,h⟩
 |(i,o)::q,s0,s,w0,k,r,f,h=>by
  simp only[QO]at h;split at h;rename_i v w;obtain⟨z,s1,j,h1,e,h⟩:=As f h;obtain⟨l,g,y,h2,A,n,h⟩:=Db e h;refine⟨(i,z)::l,g,j++y,?_,by simp_all,by simp[n],h⟩;simp only[bP,fzs,run_bind,bM w,Jy,h1,h2,JV];cases h
def MR{α:Type}:List (Nat×α)->List α->Option (List α)|[],rows=>some rows|(i,c)::r,rows=>if i<rows.length then MR r (rows.set i c)else none
theorem ox{t:Ty}: ∀{l:List (Nat×t.D)} {rows rows':List t.D},MR l rows=some rows'->
  xR t.sz ((l.map (·.1)).zip (l.map λx=>cel t x.2)) (rows.map (cel t))=some (rows'.map (cel t))/\rows'.length=rows.length
 |[],rows,rows',h=>by injection h with h;simp_all
 |(i,c)::q,rows,rows',h=>by
  simp only[MR]at h;split at h;rename_i e;obtain⟨h1,h2⟩:=ox h;simp_all [dV];cases h
def jt(own:Bool)(t:Ty)(n:Nat)(parts:List (Nat×TO))(d:Option Nat)(new:Nat)(s:TSt)(k:TSt->Option R):Option R:=
 QO t parts s s λl s1=>match MR l (List.replicate n t.zero)with|some rows=>if own=true then k (aY d (.a (.c (.slr new))) (wN new (.arr true t rows) s1))else k (aY d (vl t rows) s1)|none=>none
theorem JFz(F:Orc){own:Bool}{t:Ty}{n:Nat}{parts:List (Nat×TO)}{d:Option Nat}{new:Nat}{s:TSt}{k:TSt->Option R}{r:R}(hn:own=true->new<s.sto.length)
  (h:jt own t n parts d new s k=some r):Ok (opR F (.lits own t.sz n (cel t t.zero) (parts.map λx=>(x.1,erO x.2))) new) d s k r:=by
 unfold jt at h;obtain⟨l,s1,ws,h1,f,h2,e⟩:=Db (Fzd.refl s) h;rw[wO]at f;clear h;split at e;rename_i rows o;obtain⟨j,q⟩:=ox o;rw[AS]at q;rw[RK]at j;have z:(parts.map λx=>(x.1,erO x.2)).map (·.2)=parts.map λx=>erO x.2:=by simp
 have y:(parts.map λx=>(x.1,erO x.2)).map (·.1)=l.map (·.1):=by rw[h2];simp
 split at e;rename_i g;subst g;have w:new<s1.sto.length:=(by have:=congrArg (λst=>st.sto.length) f.2.2.1;grind [Ju,xN]);refine⟨⟨JZ (lns (wN new (.arr true t rows) s1).sto) (.a (.c (.slr new))),ws++[(new,.arr true t.sz (rows.map (cel t)))]⟩,_,?_,pY ?_ d _,e⟩;grind [fJ,YH,opR,run_bind,JV];rw[Ae,f.2.2.1,eN];rfl;rename_i g;have:own=false:=by simpa using g
 subst this;refine WH (v:=vl t rows) f ?_ e;grind [opR,run_bind,JV,e_l];cases e
def mG(s:TSt):Nat->Nat->Bool
 |_,0=>true
 |new,k+1=>(match s.sto[new]? with
  |some .dead=>true
  |_=>false)&&mG s (new+1) k
theorem ml{s:TSt}: ∀{k new:Nat},mG s new k=true->(rN new k).run (Ju s)=some ()
 |0,_,_=>rfl
 |k+1,new,h=>by
  simp only[mG,JW]at h;obtain⟨h1,h2⟩:=h;split at h1;rename_i e;simp only[rN,cV,dK,e,cE,Jy,aR];exact ml h2;cases h1
theorem uW{s:TSt}: ∀{k new:Nat},mG s new k=true-> ∀j,j<k->s.sto[new+j]?=some .dead
 |0,_,_,j,hj=>by omega
 |k+1,new,h,j,hj=>by
  simp only[mG,JW]at h;obtain⟨h1,h2⟩:=h;cases j with
  |zero=>
   grind
  |succ j=>
   have:=uW h2 j (by omega);grind
theorem XM{m:RM Eff}{d:Option Nat}{s:TSt}{k:TSt->Option R}{r:R}{new:Nat}{x:TB}(hd:s.sto[new]?=some .dead)(e:lnB x=0)
  (hm:m.run (Ju s)=some ⟨.ptr new 0,[(new,aR (lns s.sto) x)]⟩) (h:k (aY d (.a (.c (.ptr new []))) (wS new x s))=some r):Ok m d s k r:=by
 refine FY (x:=x) (v:=.a (.c (.ptr new []))) (e.trans (xT hd).symm) ?_ h;rw[hm];rfl
def C9(t:Ty)(d:Option Nat)(new:Nat)(s:TSt)(k:TSt->Option R):Option R:=k (aY d (.a (.c (.ptr new []))) (wS new (.box t t.zero) s))
theorem JBo(F:Orc){t:Ty}{d:Option Nat}{new:Nat}{s:TSt}{k:TSt->Option R}{r:R}(hd:s.sto[new]?=some .dead)(h:C9 t d new s k=some r):Ok (opR F (.newbox (cel t t.zero)) new) d s k r:=
 XM hd (x:=.box t t.zero) rfl rfl h
def fv(t:Ty)(x:TV)(d:Option Nat)(new:Nat)(s:TSt)(k:TSt->Option R):Option R:=
 match tdv t x with
 |some z=>if agv x=true\/t.sz=1 then k (aY d (.a (.c (.ptr new []))) (wS new (.box t z) s))else none
 |none=>match tcs x with|some cs=>if cs.length=t.sz then k (aY d (.a (.c (.ptr new []))) (wS new (.mbox t cs) s))else none|none=>none
theorem JHy(F:Orc){t:Ty}{x:TO}{v:TV}{d:Option Nat}{new:Nat}{s:TSt}{k:TSt->Option R}{r:R}(hd:s.sto[new]?=some .dead)(hx:tev x s=some v)(h:fv t v d new s k=some r):Ok (opR F (.box t.sz (erO x)) new) d s k r:=by
 unfold fv at h;split at h;rename_i z n;split at h;rename_i e;refine XM hd (x:=.box t z) rfl ?_ h;simp only[opR,run_bind,bM hx,Jy,dj (lns s.sto) n e,dX,dV,if_true,JV,aR];cases h;split at h;rename_i cs g;split at h;rename_i j;refine XM hd (x:=.mbox t cs) rfl ?_ h;simp only[opR,run_bind,bM hx,Jy,GX (lns s.sto) g,dX,j,if_true,JV,aR];cases h;cases h
def nZ:List (Nat×Ty)->Nat->TSt->TSt|[],_,s=>s|(_,t)::r,n,s=>nZ r (n+1) (wS n (.arr true t []) s)
def wQ:List (Nat×Ty)->Nat->List TC->List TC|[],_,cs=>cs|(off,_)::r,n,cs=>wQ r (n+1) (cs.set off (.slr n))
def jR(os:List (Nat×Ty)):List (Nat×Nat):=os.map λx=>(x.1,x.2.sz)
theorem YZ: ∀{os:List (Nat×Ty)} {new:Nat} {s:TSt},(∀j,j<os.length->s.sto[new+j]?=some .dead)->
  lns (nZ os new s).sto=lns s.sto/\Ju (nZ os new s)=⟨(Ju s).env,upd (gH (jR os) new) (Ju s).sto⟩/\(∀b,(∀j,j<os.length->b≠new+j)->(nZ os new s).sto[b]?=s.sto[b]?)
 |[],_,s,_=>⟨rfl,rfl,λ_ _=>rfl⟩
 |(off,t)::q,new,s,h=>by
  have o:s.sto[new]?=some .dead:=h 0 (by simp);have k:lnB (.arr true t [])=lns s.sto new:=(xT o).symm;have e:=CC k;have g: ∀c,c≠new->(wS new (.arr true t []) s).sto[c]?=s.sto[c]?:=λc w=>by grind [wS]
  obtain⟨h1,h2,v⟩:=YZ (os:=q) (new:=new+1) (s:=wS new (.arr true t []) s) (λj r=>by
   rw[g _ (by omega)];have:=h (j+1) (by simp;omega);grind)
  refine⟨h1.trans e,?_,λb n=>?_⟩;simp only[nZ];rw[h2,xD k];simp only[jR,bP,gH];rfl;simp only[nZ];rw[v b (λj r=>by have:=n (j+1) (by simp;omega);omega),g b (by have:=n 0 (by simp);omega)]
theorem YG{L:Nat->Nat}: ∀{os:List (Nat×Ty)} {new:Nat} {cs:List TC},(∀j,j<os.length->L (new+j)=0)->(wQ os new cs).map (aT L)=kT (jR os) new (cs.map (aT L))
 |[],_,_,_=>rfl
 |(off,t)::q,new,cs,h=>by
  simp only[wQ,jR,bP,kT];rw[YG (os:=q) (new:=new+1) (λj e=>by have:=h (j+1) (by simp;omega);grind),List.map_set];have:aT L (.slr new)=.slr new 0 0:=by simp only[aT];rw[show L new=0 from h 0 (by simp)]
  rw[this];rfl
def ZJ(t:Ty)(os:List (Nat×Ty))(d:Option Nat)(new:Nat)(s:TSt)(k:TSt->Option R):Option R:=k (aY d (.a (.c (.ptr (new+os.length) []))) (wS (new+os.length) (.mbox t (wQ os new (zcs t))) (nZ os new s)))
theorem D7(F:Orc){t:Ty}{os:List (Nat×Ty)}{d:Option Nat}{new:Nat}{s:TSt}{k:TSt->Option R}{r:R}(hd:mG s new (os.length+1)=true)(h:ZJ t os d new s k=some r):
  Ok (opR F (.newboxo (cel t t.zero) (jR os)) new) d s k r:=by
 unfold ZJ at h;generalize q:zcs t=cs at h;have g:=uW hd;obtain⟨h1,h2,v⟩:=YZ (os:=os) (new:=new) (s:=s) (λj o=>g j (by omega));have n:lnB (.mbox t (wQ os new cs))=lns (nZ os new s).sto (new+os.length):=by rw[h1,xT (g os.length (by omega))];rfl
 have e:=CC n;have el:(jR os).length=os.length:=by simp[jR]
 refine⟨⟨JZ (lns (wS (new+os.length) (.mbox t (wQ os new cs)) (nZ os new s)).sto) (.a (.c (.ptr (new+os.length) []))),gH (jR os) new++[(new+os.length,.box (kT (jR os) new ((cel t t.zero).map .p)))]⟩,_,?_,pY ?_ d _,h⟩;simp only[opR,JV,el];rfl;rw[xD n,h2,eN];simp only[aR];rw[YG (λj o=>by rw[h1];grind [xT]),<-q,CA];rfl
def YE(t:Ty)(parts:List (Nat×Ty×TO))(os:List (Nat×Ty))(d:Option Nat)(new:Nat)(s:TSt)(k:TSt->Option R):Option R:=
 match tpc parts s with
 |some l=>match FN l (wQ os new (zcs t))with
  |some cs'=>match mka true t cs' with|some v=>k (aY d v (nZ os new s))|none=>none
  |none=>none
 |none=>none
theorem JBi(F:Orc){t:Ty}{parts:List (Nat×Ty×TO)}{os:List (Nat×Ty)}{d:Option Nat}{new:Nat}{s:TSt}{k:TSt->Option R}{r:R}(hd:mG s new os.length=true)(h:YE t parts os d new s k=some r):
  Ok (opR F (.buildo (cel t t.zero) (erP parts) (jR os)) new) d s k r:=by
 unfold YE at h;split at h;rename_i l w;have e:=uW hd;obtain⟨h1,h2,x⟩:=YZ (os:=os) (new:=new) (s:=s) (λj o=>e j (by omega));split at h;rename_i cs' g;split at h;rename_i v y;refine⟨⟨JZ (lns (nZ os new s).sto) v,gH (jR os) new⟩,_,?_,pY h2 d _,h⟩;have n:=YG (L:=lns s.sto) (os:=os) (new:=new) (cs:=zcs t) (λj o=>xT (e j (by omega)));rw[CA]at n;have q:=ZM (lns s.sto) g;grind [opR,run_bind,WM,BZ,JV];cases h;cases h;cases h
def Aq(t:Ty)(d:Option Nat)(new:Nat)(s:TSt)(k:TSt->Option R):Option R:=k (aY d (.a (.c (.slr new))) (wN new (.arr true t []) s))
theorem JDq(F:Orc){t:Ty}{x:Opd}{d:Option Nat}{new:Nat}{s:TSt}{k:TSt->Option R}{r:R}(hn:new<s.sto.length)(h:Aq t d new s k=some r):Ok (opR F (.mkarr t.sz x) new) d s k r:=
 MS (rows:=[]) hn rfl h
def tyB:Option TB->Ty|some (.box t _)=>t|some (.mbox t _)=>t|_=>.u
def XW(t:Ty)(x:TV)(d:Option Nat)(new:Nat)(s:TSt)(k:TSt->Option R):Option R:=
 match x with
 | .a (.c (.ptr b p))=>match rE p,(match s.sto[b]? with
   |some (.box e y)=>vY e y
   |some (.mbox _ cs)=>some cs
   |_=>none)with
  |some off,some cs=>match spl cs off [.slr new]with|some cs'=>k (aY d uv (wS b (.mbox (tyB s.sto[b]?) cs') (wS new (.arr true t []) s)))|none=>none
  |_,_=>none
 |_=>none
theorem JBh(F:Orc){t:Ty}{x:TO}{v:TV}{d:Option Nat}{new:Nat}{s:TSt}{k:TSt->Option R}{r:R}(hd:s.sto[new]?=some .dead)(hx:tev x s=some v)(h:XW t v d new s k=some r):Ok (opR F (.storen t.sz (erO x)) new) d s k r:=by
 unfold XW at h;split at h;rename_i b p;split at h;rename_i off cs C j;split at h;rename_i cs' H;have q:lnB (.arr true t [])=lns s.sto new:=(xT hd).symm;have o:b≠new/\lns s.sto b=0/\(Ju s).sto[b]?=some (.box (cs.map (aT (lns s.sto)))):=(by split at j;rename_i B y g;refine⟨λe=>?_,ND g,?_⟩;simp_all;rw[dK,g,HJ _ j];rfl;rename_i B G g;injection j with j;subst j;refine⟨λe=>?_,m4 g,?_⟩;simp_all;rw[dK,g];rfl;cases j);obtain⟨E,z,g⟩:=o;have w:=CC q;have n:lnB (.mbox (tyB s.sto[b]?) cs')=lns (wS new (.arr true t []) s).sto b:=by rw[w,z];rfl
 refine⟨⟨JZ (lns (wS b (.mbox (tyB s.sto[b]?) cs') (wS new (.arr true t []) s)).sto) uv,(new,.arr true t.sz [])::[(b,.box (cs'.map (aT (lns s.sto))))]⟩,_,?_,pY ?_ d _,h⟩;have A:aT (lns s.sto) (.slr new)=.slr new 0 0:=by grind [aT,xT]
 have D:spl (cs.map (aT (lns s.sto))) (spo p) [.slr new 0 0]=some (cs'.map (aT (lns s.sto))):=by rw[<-A,BU C];have:=CN (aT (lns s.sto)) cs off [TC.slr new];simp_all
 simp only[opR,run_bind,bM hx,Jy,iZ,gX,cV,g,cellsOf,fr,List.length_nil,mC,if_true,D,JV];rfl;rw[xD n,xD q,w];rfl;cases h;cases h;cases h
def jf(c:Bool)(a b:Option TV)(kk:TV->Option R):Option R:=
 match a,b with
 |some (.a (.c (.d t x))),some (.a (.c (.d t' y)))=>if h:t'=t then kk (.a (.c (.d t (JLG c x (h▸y)))))else none
 |some x,some y=>if c=true then kk x else kk y
 |some x,none=>if c=true then kk x else none
 |none,some y=>if c=true then none else kk y
 |none,none=>none
theorem JGX(F:Orc){c a b:TO}{x:Bool}{d:Option Nat}{new:Nat}{s:TSt}{k:TSt->Option R}{r:R}(hc:tev c s=some (vb x))(h:jf x (tev a s) (tev b s) (λv=>k (aY d v s))=some r):Ok (opR F (.pick (erO c) (erO a) (erO b)) new) d s k r:=by
 have e: ∃v,(if x=true then tev a s else tev b s)=some v/\k (aY d v s)=some r:=by
  unfold jf at h;split at h;rename_i t y t' z n j;split at h;rename_i g;subst g;refine⟨_,?_,h⟩;rw[n,j];cases x<;>rfl
  cases h
  all_goals grind
 obtain⟨v,h1,h2⟩:=e;refine eJ (v:=v) ?_ h2;simp only[opR,run_bind,bM hc,Jy,e_b];grind [run_bind,bM,JV]
def tcl:List TO->TSt->Option (List TC)
 |[],_=>some []
 |o::r,s=>match tev o s with
  |some (.a (.c x))=>match tcl r s with|some l=>some (x::l)|none=>none
  |_=>none
theorem Bk{s:TSt}: ∀{xs:List TO} {l:List TC},tcl xs s=some l->(evs (xs.map erO)).run (Ju s)=some (l.map (aT (lns s.sto)))
 |[],l,h=>by injection h with h;subst h;rfl
 |o::q,l,h=>by
  simp only[tcl]at h;split at h;rename_i x g;split at h;rename_i j e;injection h with h;subst h;simp only[bP,evs,run_bind,bM g,Jy,Bk e,JV];rfl;cases h;cases h
def ii(x:TV)(kk:TV->Option R):Option R:=
 match x with
 | .a (.c (.ptr b p))=>kk (.a (.c (.ptr b p)))
 | .a (.c (.cp t y p))=>kk (.a (.c (.cp t y p)))
 | .a (.c (.ep b i p))=>kk (.a (.c (.ep b i p)))
 | .a (.fn f a c)=>kk (.a (.fn f a c))
 | .a (.c (.fn f))=>kk (.a (.c (.fn f)))
 |_=>none
theorem JHB(F:Orc){x:TO}{v:TV}{d:Option Nat}{new:Nat}{s:TSt}{k:TSt->Option R}{r:R}(hx:tev x s=some v)(h:ii v (λv=>k (aY d v s))=some r):Ok (opR F (.nilchk (erO x)) new) d s k r:=by
 unfold ii at h;split at h<;>first
  |(refine eJ (v:=_) ?_ h
    simp only[opR,run_bind,bM hx,Jy,iZ,kO,kS,gq,zr,JV];done)
  |cases h
end
end Go.Am
end
section
namespace Go.Am
section
variable {R:Type}
def fu(keep:Bool)(v:TV)(s:TSt)(kk:TA->TSt->Option R):Option R:=
 match v with
 | .a x=>if keep=true then kk x s else
  match x with
  | .c (.slr b)=>match s.sto[b]? with|some (.arr _ t' rows)=>kk (.c (.d (.l t') rows)) (wS b (.arr false t' rows) s)|_=>none
  | .c (.slo _ _)=>none
  | .c (.suf _ _)=>none
  | .c (.suo _ _ _)=>none
  | .m t cs=>fzC t cs s λx s'=>kk (.dt t x) s'
  |x=>kk x s
 | .tup _=>none
def FP:List (TV×Bool)->TSt->(List TA->TSt->Option R)->Option R|[],s,kk=>kk [] s|(v,keep)::r,s,kk=>fu keep v s λx s=>FP r s λl s=>kk (x::l) s
theorem JIi{keep:Bool}{v:TV}{s0 s:TSt}{w0:List (Nat×Blk)}{kk:TA->TSt->Option R}{r:R}(f:Fzd s0 s w0)(h:fu keep v s kk=some r):
  ∃x s' ws,(if keep=true then RM.ret (JZ (lns s0.sto) v,[])else hZ (JZ (lns s0.sto) v)).run (Ju s0)=some (bO (lns s0.sto) x,ws)/\Fzd s0 s' (w0++ws)/\kk x s'=some r:=by
 unfold fu at h;split at h;rename_i x;split at h;rename_i g;subst g;exact⟨x,s,[],rfl,by simp_all,h⟩;rename_i g;have:keep=false:=by simpa using g
 subst this;simp only[eB,if_false];split at h;rename_i b;split at h;rename_i w t' rows j;obtain⟨w',e⟩:=f.2.2.2.1 b _ rows w j;refine⟨_,_,[(b,.arr false t'.sz (rows.map (cel t')))],?_,f.trans (XK j),h⟩;simp only[fJ,hZ,fz,run_bind,cV,dK,e,cE,Jy,aR,iP e,dX,mC,if_true,wR,JV];rfl;cases h;cases h;cases h;cases h;obtain⟨y,s',ws,h1,h2,k⟩:=HA f h;refine⟨_,s',ws,?_,h2,k⟩;simp only[e_m,hZ,fz,run_bind,h1,Jy,JV];rfl;rename_i A B q z o;refine⟨x,s,[],?_,by simp_all,h⟩;cases x with
 |c x=>
  cases x with
  |slr b=>simp_all
  |slo b n=>simp_all
  |suf b i=>simp_all
  |suo b i n=>simp_all
  |_=>rfl
 |m t cs=>simp_all
 |_=>rfl
 cases h
theorem ZB: ∀{vs:List (TV×Bool)} {s0 s:TSt} {w0:List (Nat×Blk)} {kk:List TA->TSt->Option R} {r:R},Fzd s0 s w0->FP vs s kk=some r->
  ∃xs s' ws,(eW (vs.map (·.2)) (vs.map λx=>JZ (lns s0.sto) x.1)).run (Ju s0)=some (xs.map (bO (lns s0.sto)),ws)/\Fzd s0 s' (w0++ws)/\kk xs s'=some r
 |[],s0,s,w0,kk,r,f,h=>⟨[],s,[],rfl,by simp_all,h⟩
 |(v,keep)::q,s0,s,w0,kk,r,f,h=>by simp only[FP]at h;obtain⟨x,s1,j,h1,e,h⟩:=JIi f h;obtain⟨xs,g,k,h2,n,h⟩:=ZB e h;refine⟨x::xs,g,j++k,?_,by simp_all,h⟩;cases keep<;>simp_all [eW]
theorem PK: ∀(vs:List AV),eW [] vs=jA vs|[]=>rfl|x::r=>by simp only[eW,jA,PK r]
theorem IS: ∀(m:List Bool) (vs:List AV),(∀x∈m,x=false)->eW m vs=jA vs|[],vs,_=>PK vs|b::m,[],_=>rfl|b::m,x::r,h=>by have:b=false:=h b (by simp);subst this;simp only[eW,jA,IS m r (λx e=>h x (by simp[e]))]
def EY(b:Nat)(l:List Nat):List Nat:=if l.any (λx=>x==b)=true then l else l++[b]
def LU(x:TC)(l:List Nat):Option (List Nat):=
 match x with
 | .ptr b _=>some (EY b l)
 | .slr b=>some (EY b l)
 | .slo b _=>some (EY b l)
 | .ep _ _ _=>none
 | .epo _ _ _ _=>none
 | .suf _ _=>none
 | .suo _ _ _=>none
 |_=>some l
def tR:List TC->List Nat->Option (List Nat)|[],l=>some l|x::r,l=>match LU x l with|some l=>tR r l|none=>none
def j5(x:TA)(l:List Nat):Option (List Nat):=
 match x with
 | .c x=>LU x l
 | .dt _ _=>some l
 | .m _ cs=>tR cs l
 | .fn _ a c=>match tR a l with|some l=>tR c l|none=>none
def BX:List TA->List Nat->Option (List Nat)|[],l=>some l|x::r,l=>match j5 x l with|some l=>BX r l|none=>none
def tS(s:TSt):List Nat->List Nat->Option (List Nat)
 |[],acc=>some acc
 |b::r,acc=>match s.sto[b]? with
  |some (.mbox _ cs)=>match tR cs acc with|some acc=>tS s r acc|none=>none
  |some _=>tS s r acc
  |none=>none
theorem G6(b:Nat)(l:List Nat):uJ (.whole b) (l.map .whole)=(EY b l).map .whole:=by
 grind [uJ,EY]
section
variable (L:Nat->Nat)
theorem nv{x:TC}{l g:List Nat}(h:LU x l=some g):cF (aT L x) (l.map .whole)=g.map .whole:=by
 unfold LU at h;split at h<;>first
  |(injection h with h;subst h;simp only[aT,cF,G6];done)
  |(cases h;done)
  |skip
 injection h with h;subst h;rename_i q r v w o j k;cases x with
 |ptr b p=>simp_all
 |slr b=>simp_all
 |slo b n=>simp_all
 |ep b i p=>simp_all
 |epo b e i p=>grind
 |suf b i=>grind
 |suo b i n=>grind
 |_=>rfl
theorem HW: ∀{xs:List TC} {l e:List Nat},tR xs l=some e->cF.entsOfL (xs.map (aT L)) (l.map .whole)=e.map .whole
 |[],l,e,h=>by injection h with h;subst h;rfl
 |x::r,l,e,h=>by
  simp only[tR]at h;split at h;rename_i g h1;simp only[bP,cF.entsOfL,nv L h1];exact HW h;cases h
theorem JGj{x:TA}{l e:List Nat}(h:j5 x l=some e):cF (bO L x) (l.map .whole)=e.map .whole:=by
 cases x with
 |c x=>exact nv L h
 |dt t x=>injection h with h;subst h;rfl
 |m t cs=>exact HW L h
 |fn f a c=>
  simp only[j5]at h;split at h
  all_goals simp_all [bO,HW]
theorem OP: ∀{xs:List TA} {l e:List Nat},BX xs l=some e->cF.entsOfL (xs.map (bO L)) (l.map .whole)=e.map .whole
 |[],l,e,h=>by injection h with h;subst h;rfl
 |x::r,l,e,h=>by
  simp only[BX]at h;split at h;rename_i g h1;simp only[bP,cF.entsOfL,JGj L h1];exact OP h;cases h
end
theorem ZH{s0 s1:TSt}{ws:List (Nat×Blk)}(f:Fzd s0 s1 ws){b:Nat}{y:TB}(h:s1.sto[b]?=some y):(pN ws b).run (Ju s0)=some (aR (lns s0.sto) y):=by
 have h1:(Ju s1).sto[b]?=some (aR (lns s0.sto) y):=by rw[dK,h,f.2.1];rfl
 rw[f.2.2.1]at h1;grind [xN,uM,pN,cV,JV]
theorem xV{s0 s1:TSt}{ws:List (Nat×Blk)}(f:Fzd s0 s1 ws): ∀{r acc l:List Nat},tS s1 r acc=some l->(dU ws (r.map .whole) (acc.map .whole)).run (Ju s0)=some (l.map .whole)
 |[],acc,l,h=>by injection h with h;subst h;rfl
 |b::r,acc,l,h=>by
  simp only[tS]at h;split at h;rename_i cs e;split at h;rename_i g j;simp only[bP,dU,run_bind,ZH f e,Jy,aR,HW (lns s0.sto) j];exact xV f h;cases h;rename_i x k e;simp only[bP,dU,run_bind,ZH f e,Jy];cases x with
  |mbox t cs=>simp_all
  |box t x=>simp only[aR];rw[ou];exact xV f h
  |_=>exact xV f h
  cases h
end
end Go.Am
end
section
namespace Go.Am
def kCs(K:List Nat)(L:Nat->Nat):TC->TC| .slr c=>if K.any (λx=>x==c)=true then .slo c (L c)else .slr c| .ep c i p=>if K.any (λx=>x==c)=true then .epo c (L c) i p else .ep c i p| .pre c k=>if K.any (λx=>x==c)=true then .pro c (L c) k else .pre c k| .suf c i=>if K.any (λx=>x==c)=true then .suo c (min i (L c)) (L c-i)else .suf c i|x=>x
def kAs(K:List Nat)(L:Nat->Nat):TA->TA| .c x=>.c (kCs K L x)| .dt t x=>.dt t x| .m t cs=>.m t (cs.map (kCs K L))| .fn f a c=>.fn f (a.map (kCs K L)) (c.map (kCs K L))
def kVs(K:List Nat)(L:Nat->Nat):TV->TV| .a x=>.a (kAs K L x)| .tup vs=>.tup (vs.map (kAs K L))
def kBs(K:List Nat)(L:Nat->Nat):TB->TB| .mbox t cs=>.mbox t (cs.map (kCs K L))|x=>x
section
variable {K:List Nat} {L L':Nat->Nat} (h: ∀c,K.any (λx=>x==c)=false->L' c=L c)
include h
theorem zd(x:TC):aT L' (kCs K L x)=aT L x:=by cases x<;>grind [kCs,aT]
theorem zy(xs:List TC):(xs.map (kCs K L)).map (aT L')=xs.map (aT L):=by
 grind [List.map_congr_left,zd]
theorem JLO(x:TA):bO L' (kAs K L x)=bO L x:=by cases x<;>simp only[kAs,bO,zd h,zy h]
theorem Z2(x:TV):JZ L' (kVs K L x)=JZ L x:=by cases x<;>simp only[kVs,JZ,JLO h,wF,Function.comp_def]
theorem JLJ(x:TB):aR L' (kBs K L x)=aR L x:=by cases x<;>simp only[kBs,aR,zy h]
end
theorem JIC(K:List Nat)(L:Nat->Nat)(x:TB):lnB (kBs K L x)=lnB x:=by cases x<;>rfl
theorem JIh(sto:List TB)(K:List Nat)(L:Nat->Nat)(c:Nat):lns (sto.map (kBs K L)) c=lns sto c:=by
 unfold lns;rw[fT];cases sto[c]? with
 |none=>rfl
 |some x=>exact JIC K L x
def tE(ws:List (Nat×Bool×TB))(sto:List TB):List TB:=ws.foldl (λσ x=>σ.set x.1 x.2.2) sto
def mB(ws:List (Nat×Bool×TB))(s:TSt):TSt:=
 match ws with
 |[]=>s
 |ws=>
  let K:=(ws.filter λx=> !x.2.1).map (·.1)
  ⟨s.env.map λy=>(y.1,kVs K (lns s.sto) y.2),tE ws (s.sto.map (kBs K (lns s.sto)))⟩
theorem ZP: ∀{ws:List (Nat×Bool×TB)} {sto:List TB} {c:Nat},c∉ws.map (·.1)->(tE ws sto)[c]?=sto[c]?|[],_,_,_=>rfl|x::ws,sto,c,h=>by simp only[bP,dZ,not_or]at h;show(tE ws (sto.set x.1 x.2.2))[c]?=_;rw[ZP h.2,EQ (λe=>h.1 e.symm)]
theorem Cy: ∀{ws:List (Nat×Bool×TB)} {sto:List TB},(ws.map (·.1)).Nodup-> ∀x∈ws,x.1<sto.length->(tE ws sto)[x.1]?=some x.2.2
 |[],_,_,x,e,_=>by cases e
 |y::ws,sto,g,x,e,h=>by
  simp only[bP,List.nodup_cons]at g;show(tE ws (sto.set y.1 y.2.2))[x.1]?=_;rcases dZ.1 e with rfl|e;grind [ZP];exact Cy g.2 x e (by simpa using h)
theorem m6(f:TB->Blk): ∀(ws:List (Nat×Bool×TB)) (sto:List TB),(tE ws sto).map f=upd (ws.map λx=>(x.1,f x.2.2)) (sto.map f)
 |[],_=>rfl
 |x::ws,sto=>by show(tE ws (sto.set x.1 x.2.2)).map f=upd (ws.map λx=>(x.1,f x.2.2)) ((sto.map f).set x.1 (f x.2.2));rw[m6 f ws,List.map_set]
theorem JIF{ws:List (Nat×Bool×TB)}{s:TSt}(hn:(ws.map (·.1)).Nodup)(hl: ∀x∈ws,x.1<s.sto.length)(hf: ∀x∈ws,x.2.1=true->lnB x.2.2=lns s.sto x.1):
  Ju (mB ws s)=⟨(Ju s).env,upd (ws.map λx=>(x.1,aR (lns (mB ws s).sto) x.2.2)) (Ju s).sto⟩/\ ∀x∈ws,lns (mB ws s).sto x.1=lnB x.2.2:=by
 cases ws with
 |nil=>exact⟨rfl,λx g=>by cases g⟩
 |cons x0 j=>
  generalize k:x0::j=ws at*;have e:mB ws s=⟨s.env.map λy=>(y.1,kVs ((ws.filter λx=> !x.2.1).map (·.1)) (lns s.sto) y.2),tE ws (s.sto.map (kBs ((ws.filter λx=> !x.2.1).map (·.1)) (lns s.sto)))⟩:=by subst k;rfl
  have h: ∀x∈ws,lns (mB ws s).sto x.1=lnB x.2.2:=λx g=>by rw[e];unfold lns;rw[Cy hn x g (by grind)];rfl
  have o: ∀c,((ws.filter λx=> !x.2.1).map (·.1)).any (λx=>x==c)=false->lns (mB ws s).sto c=lns s.sto c:=(by intro c q;by_cases n:c∈ws.map (·.1);obtain⟨x,g,rfl⟩:=iV.1 n;grind;rw[e];have:=JIh s.sto ((ws.filter λx=> !x.2.1).map (·.1)) (lns s.sto) c;grind [lns,ZP]);refine⟨?_,h⟩;generalize hL:lns (mB ws s).sto=L' at*;unfold Ju;rw[hL,e];grind [fC,List.map_congr_left,Z2,m6,JLJ]
theorem Cv(b:Nat): ∀(ids:List Nat) (k:Nat),cW (.whole b) (ids.map .whole) k=eE b ids k
 |[],_=>rfl
 |x::r,k=>by
  simp only[bP,cW,eE];by_cases h:x=b;subst h;simp;simp[h,Cv b r (k+1)]
def LZ(ids:List Nat):TC->Option TC| .ptr b p=>(eE b ids 0).bind λk=>some (.ptr k p)| .slr b=>(eE b ids 0).bind λk=>some (.slr k)| .slo b n=>(eE b ids 0).bind λk=>some (.slo k n)| .ep _ _ _=>none| .epo _ _ _ _=>none| .pre _ _=>none| .pro _ _ _=>none| .suf _ _=>none| .suo _ _ _=>none|x=>some x
def xB(ids:List Nat):List TC->Option (List TC)|[]=>some []|x::r=>match LZ ids x,xB ids r with|some y,some l=>some (y::l)|_,_=>none
def GH(ids:List Nat):TA->Option TA
 | .c x=>match LZ ids x with|some y=>some (.c y)|none=>none
 | .dt t x=>some (.dt t x)
 | .m t cs=>match xB ids cs with|some l=>some (.m t l)|none=>none
 | .fn f a c=>match xB ids a,xB ids c with|some a,some c=>some (.fn f a c)|_,_=>none
def MM(ids:List Nat):List TA->Option (List TA)|[]=>some []|x::r=>match GH ids x,MM ids r with|some y,some l=>some (y::l)|_,_=>none
def WD(ids:List Nat):TB->Option TB
 | .box t x=>some (.box t x)
 | .mbox t cs=>match xB ids cs with|some l=>some (.mbox t l)|none=>none
 | .arr w t rows=>some (.arr w t rows)
 | .dead=>none
def uT(ids:List Nat)(s:TSt):List Nat->Option (List TB)
 |[]=>some []
 |b::r=>match s.sto[b]? with
  |some x=>match WD ids x,uT ids s r with|some y,some l=>some (y::l)|_,_=>none
  |none=>none
section
variable {ids:List Nat} {L L':Nat->Nat} (hL: ∀b k,eE b ids 0=some k->L' k=L b)
include hL
theorem mo{x y:TC}(h:LZ ids x=some y):ren (λe=>cW e (ids.map .whole) 0) (aT L x)=some (aT L' y):=by
 cases x<;>simp only[LZ]at h<;>first
  |(obtain⟨k,g,h⟩:=bL.1 h
    injection h with h;subst h;simp only[aT,ren,Cv,g,cE]
    try rw[hL _ _ g]
    done)
  |(injection h with h;subst h;rfl)
  |cases h
theorem OK: ∀{xs g:List TC},xB ids xs=some g->ren.renL (λe=>cW e (ids.map .whole) 0) (xs.map (aT L))=some (g.map (aT L'))
 |[],g,h=>by injection h with h;subst h;rfl
 |x::r,g,h=>by
  simp only[xB]at h;split at h;rename_i y l k j;injection h with h;subst h;simp only[bP,ren.renL,mo hL k,OK j];cases h
theorem JG3{x y:TA}(h:GH ids x=some y):ren (λe=>cW e (ids.map .whole) 0) (bO L x)=some (bO L' y):=by
 cases x with
 |c x=>
  simp only[GH]at h;split at h;rename_i y g;injection h with h;subst h;exact mo hL g;cases h
 |dt t x=>injection h with h;subst h;rfl
 |m t cs=>
  grind [GH,bO,ren,OK]
 |fn f a c=>
  grind [GH,bO,ren,OK]
theorem n5: ∀{xs g:List TA},MM ids xs=some g->ren.renL (λe=>cW e (ids.map .whole) 0) (xs.map (bO L))=some (g.map (bO L'))
 |[],g,h=>by injection h with h;subst h;rfl
 |x::r,g,h=>by
  simp only[MM]at h;split at h;rename_i y l k j;injection h with h;subst h;simp only[bP,ren.renL,JG3 hL k,n5 j];cases h
theorem py{s0 s1:TSt}{ws:List (Nat×Blk)}(f:Fzd s0 s1 ws)(j:lns s0.sto=L): ∀{k:List Nat} {bl:List TB},uT ids s1 k=some bl->
  (jG ws (λe=>cW e (ids.map .whole) 0) (k.map .whole)).run (Ju s0)=some (bl.map (aR L'))
 |[],bl,h=>by injection h with h;subst h;rfl
 |b::r,bl,h=>by
  simp only[uT]at h;split at h;rename_i x o;split at h;rename_i y l g q;injection h with h;subst h;have ih:=py f j q;have n:=ZH f o;rw[j]at n;simp only[bP,jG,wZ,run_bind,n,Jy];cases x with
  |dead=>cases g
  |box t x=>injection g with g;grind [ph,VF,aR,JV]
  |mbox t cs=>
   grind [WD,aR,OK,JV]
  |arr w t rows=>injection g with g;grind [aR,JV]
  cases h;cases h
end
theorem rc{ids:List Nat}{s:TSt}: ∀{g:List Nat} {bl:List TB},uT ids s g=some bl->bl.length=g.length/\ ∀(k b:Nat),g[k]?=some b->lns bl k=lns s.sto b
 |[],bl,h=>by injection h with h;simp_all
 |b::r,bl,h=>by
  simp only[uT]at h;split at h;rename_i x n;split at h;rename_i y l e o;injection h with h;subst h;obtain⟨h1,h2⟩:=rc o;refine⟨by simp[h1],λk c j=>?_⟩;cases k with
  |zero=>
   simp at j;subst j;unfold lns;rw[n];show lnB y=lnB x;cases x with
   |dead=>cases e
   |box t x=>injection e with e;subst e;rfl
   |mbox t cs=>
    simp only[WD]at e;split at e;injection e with e;subst e;rfl;cases e
   |arr w t rows=>injection e with e;subst e;rfl
  |succ k=>
   grind [lns]
  cases h;cases h
def eS(ids:List Nat)(new m k:Nat):Option Nat:=if k<ids.length then ids[k]? else if k<m then some (new+(k-ids.length))else none
def QZ(ids:List Nat)(new m:Nat):TC->Option TC| .ptr k p=>(eS ids new m k).bind λb=>some (.ptr b p)| .slr k=>(eS ids new m k).bind λb=>some (.slr b)| .slo k n=>(eS ids new m k).bind λb=>some (.slo b n)| .ep k i p=>(eS ids new m k).bind λb=>some (.ep b i p)| .epo k e i p=>(eS ids new m k).bind λb=>some (.epo b e i p)| .pre _ _=>none| .pro _ _ _=>none| .suf _ _=>none| .suo _ _ _=>none|x=>some x
def wE(ids:List Nat)(new m:Nat):List TC->Option (List TC)|[]=>some []|x::r=>match QZ ids new m x,wE ids new m r with|some y,some l=>some (y::l)|_,_=>none
def SM(ids:List Nat)(new m:Nat):TA->Option TA
 | .c x=>match QZ ids new m x with|some y=>some (.c y)|none=>none
 | .dt t x=>some (.dt t x)
 | .m t cs=>match wE ids new m cs with|some l=>some (.m t l)|none=>none
 | .fn f a c=>match wE ids new m a,wE ids new m c with|some a,some c=>some (.fn f a c)|_,_=>none
def LC(ids:List Nat)(new m:Nat):List TA->Option (List TA)|[]=>some []|x::r=>match SM ids new m x,LC ids new m r with|some y,some l=>some (y::l)|_,_=>none
def ie(ids:List Nat)(new m:Nat):TV->Option TV
 | .a x=>match SM ids new m x with|some y=>some (.a y)|none=>none
 | .tup vs=>match LC ids new m vs with|some l=>some (.tup l)|none=>none
def wA(ids:List Nat)(new m:Nat):TB->Option TB
 | .box t x=>some (.box t x)
 | .mbox t cs=>match wE ids new m cs with|some l=>some (.mbox t l)|none=>none
 | .arr w t rows=>some (.arr w t rows)
 | .dead=>none
section
variable {ids:List Nat} {new m:Nat} {L Lp:Nat->Nat} (hL: ∀k b,eS ids new m k=some b->Lp b=L k)
theorem JKJ{k b o:Nat}(h:eS ids new m k=some b):bk (ids.map .whole) new (.ptr k o)=some (.ptr b o):=by
 grind [eS,bk]
theorem JJX{k b i n:Nat}(h:eS ids new m k=some b):bk (ids.map .whole) new (.slr k i n)=some (.slr b i n):=by
 grind [eS,bk]
theorem JKY{k b e i o:Nat}(h:eS ids new m k=some b):bk (ids.map .whole) new (.ep k e i o)=some (.ep b e i o):=by
 grind [eS,bk]
include hL
theorem Br{x y:TC}(h:QZ ids new m x=some y):bk (ids.map .whole) new (aT L x)=some (aT Lp y):=by
 cases x<;>simp only[QZ]at h<;>first
  |(obtain⟨b,e,h⟩:=bL.1 h
    injection h with h;subst h;simp only[aT,JKJ e,JJX e,JKY e,hL _ _ e]
    done)
  |(cases h;done)
  |(injection h with h;subst h;rfl)
theorem NO: ∀{xs e:List TC},wE ids new m xs=some e->bk.bkL (ids.map .whole) new (xs.map (aT L))=some (e.map (aT Lp))
 |[],e,h=>by injection h with h;subst h;rfl
 |x::r,e,h=>by
  simp only[wE]at h;split at h;rename_i y l j g;injection h with h;subst h;simp only[bP,bk.bkL,Br hL j,NO g];cases h
theorem ly{x y:TA}(h:SM ids new m x=some y):bk (ids.map .whole) new (bO L x)=some (bO Lp y):=by cases x<;>grind [SM,Br,bO,bk,NO]
theorem mu: ∀{xs e:List TA},LC ids new m xs=some e->bk.bkL (ids.map .whole) new (xs.map (bO L))=some (e.map (bO Lp))
 |[],e,h=>by injection h with h;subst h;rfl
 |x::r,e,h=>by
  simp only[LC]at h;split at h;rename_i y l j g;injection h with h;subst h;simp only[bP,bk.bkL,ly hL j,mu g];cases h
theorem JHu{x y:TV}(h:ie ids new m x=some y):bk (ids.map .whole) new (JZ L x)=some (JZ Lp y):=by cases x<;>grind [ie,ly,JZ,bk,mu]
end
end Go.Am
end
section
namespace Go.Am
structure TG where
 go: ∀{R:Type},FuncId->List TA->List TB->(TV->List (Bool×TB)->Option R)->Option R
def nL(out:List (Bool×TB)):Nat->Nat:=lns (out.map (·.2))
structure GOk(F:Orc)(G:TG):Prop where
 ok: ∀{R:Type} {f:FuncId} {xs:List TA} {bl:List TB} {kk:TV->List (Bool×TB)->Option R} {r:R},G.go f xs bl kk=some r->
  ∃v out,F f (xs.map (bO (lns bl))) (bl.map (aR (lns bl)))=some (JZ (nL out) v,out.map λx=>aR (nL out) x.2)/\
   (∀(k:Nat) x,out[k]?=some (true,x)->k<bl.length->lnB x=lns bl k)/\kk v out=some r
def nV(ids:List Nat)(new m:Nat):Nat->List (Bool×TB)->Option (List (Nat×Bool×TB))|_,[]=>some []|k,(s,x)::r=>match eS ids new m k,wA ids new m x,nV ids new m (k+1) r with|some b,some y,some l=>some ((b,s&&decide (k<ids.length),y)::l)|_,_,_=>none
section
variable {R:Type}
def iy(e:Bool)(a b n:Nat):Bool:=if e=true then decide (a<=b/\b<=a+n)else decide (b=a+n)
theorem JDQ{e:Bool}{a b n:Nat}(h:iy e a b n=true):(if e=true then a<=b/\b<=a+n else b=a+n)/\a<=b/\b<=a+n:=by
 grind [iy]
def BD(G:TG)(f:FuncId)(args:List (TV×Bool))(e:Bool)(n:Nat)(d:Option Nat)(new:Nat)(s:TSt)(kk:TSt->Option R):Option R:=
 FP args s λxs s1=>
 match BX xs []with
 |none=>none
 |some g=>match tS s1 g g with
  |none=>none
  |some i1=>match tS s1 i1 i1 with
   |none=>none
   |some ids=>if iJ ids=true then
    match MM ids xs,uT ids s1 ids with
    |some j,some bl=>G.go f j bl λv out=>
     if iy e ids.length out.length n=true then
      match ie ids new out.length v,nV ids new out.length 0 out with
      |some h,some ws=>if iJ (ws.map (·.1))=true then kk (aY d h (mB ws s1))else none
      |_,_=>none
     else none
    |_,_=>none
    else none
theorem ma{ids:List Nat}{new m:Nat}{x y:TB}(h:wA ids new m x=some y):lnB y=lnB x:=by
 cases x with
 |dead=>cases h
 |box t x=>injection h with h;subst h;rfl
 |mbox t cs=>
  simp only[wA]at h;split at h;injection h with h;subst h;rfl;cases h
 |arr w t rows=>injection h with h;subst h;rfl
theorem nw{ids:List Nat}{new m:Nat}: ∀{k:Nat} {out:List (Bool×TB)} {ws:List (Nat×Bool×TB)},nV ids new m k out=some ws->
  ws.length=out.length/\ ∀(j:Nat) s x,out[j]?=some (s,x)-> ∃b y,eS ids new m (k+j)=some b/\wA ids new m x=some y/\ws[j]?=some (b,s&&decide (k+j<ids.length),y)
 |k,[],ws,h=>by injection h with h;simp_all
 |k,(s,x)::r,ws,h=>by
  simp only[nV]at h;split at h;rename_i b y l q o e;injection h with h;subst h;obtain⟨h1,h2⟩:=nw e;refine⟨by simp[h1],λj s' g n=>?_⟩;cases j<;>grind
  cases h
theorem JGW{l:List Nat}(h:iJ l=true):l.Nodup:=PH h
theorem Dp{ids:List Nat}(h:iJ ids=true):iJ ((ids.map Ent.whole).map Ent.id)=true:=by rw[wF,show Ent.id∘Ent.whole=id from rfl,List.map_id];exact h
theorem ng{ids:List Nat}{new m:Nat}{L Lp:Nat->Nat}(hL: ∀k b,eS ids new m k=some b->Lp b=L k){ws0:List (Nat×Blk)}{st:St}: ∀{j:Nat} {es:List Nat} {out:List (Bool×TB)} {ws:List (Nat×Bool×TB)},
  (∀(i:Nat) b,es[i]?=some b->ids[j+i]?=some b)->j+es.length=ids.length->es.length<=out.length->nV ids new m j out=some ws->
  (hM ws0 (ids.map .whole) new (es.map .whole) (out.map λx=>aR L x.2)).run st=some ((ws.take es.length).map λx=>(x.1,aR Lp x.2.2))
 |j,[],out,ws,_,_,_,h=>by simp[hM]
 |j,b::es,[],ws,_,_,hl,h=>by simp at hl
 |j,b::es,(s,x)::out,ws,he,hj,hl,h=>by
  simp only[nV]at h;split at h;rename_i e y l v w n;injection h with h;subst h;have ih:=ng hL (ws0:=ws0) (st:=st) (j:=j+1) (es:=es) (out:=out) (ws:=l) (λi c q=>by
   have:=he (i+1) c (by simpa using q);grind) (by grind) (by simpa using hl) n
  have g:e=b:=(by have r:=he 0 b (by simp);grind [eS]);subst g;simp only[bP,hM,run_bind];have o:(rT ws0 (ids.map .whole) new (.whole e) (aR L x)).run st=some (e,aR Lp y):=by cases x<;>grind [BW,rT,di,VF,JV,wA,HK,NO,MN]
  simp_all;cases h
theorem ms{ids:List Nat}{new m:Nat}{L Lp:Nat->Nat}(hL: ∀k b,eS ids new m k=some b->Lp b=L k): ∀{j:Nat} {out:List (Bool×TB)} {ws:List (Nat×Bool×TB)},
  nV ids new m (ids.length+j) out=some ws->gO (ids.map .whole) new (new+j) (out.map λx=>aR L x.2)=some (ws.map λx=>(x.1,aR Lp x.2.2))
 |j,[],ws,h=>by injection h with h;subst h;rfl
 |j,(s,x)::out,ws,h=>by
  simp only[nV]at h;split at h;rename_i o y l q e n;injection h with h;subst h;have ih:=ms hL (j:=j+1) n;have g:o=new+j:=(by grind [eS]);subst g;cases x with
  |dead=>cases e
  |box t x=>injection e with e;grind [BW,gO,di,VF]
  |mbox t cs=>
   grind [wA,HK,gO,NO]
  |arr w t rows=>injection e with e;grind [MN,gO]
  cases h
theorem qb{ids:List Nat}{new m:Nat}: ∀{n k:Nat} {out:List (Bool×TB)} {ws:List (Nat×Bool×TB)},nV ids new m k out=some ws->nV ids new m (k+n) (out.drop n)=some (ws.drop n)
 |0,k,out,ws,h=>h
 |n+1,k,[],ws,h=>by injection h with h;subst h;rfl
 |n+1,k,(s,x)::out,ws,h=>by
  simp only[nV]at h;split at h;rename_i b y l j g e;injection h with h;subst h;have:=qb (n:=n) e;grind;cases h
theorem PM{F:Orc}{G:TG}(hG:GOk F G){f:FuncId}{args:List (TV×Bool)}{A:Bool}{n:Nat}{d:Option Nat}{new:Nat}{s:TSt}{kk:TSt->Option R}{r:R}
  (hd:mG s new n=true) (h:BD G f args A n d new s kk=some r):
  ∃xs ws B es z blks v res E fresh,(eW (args.map (·.2)) (args.map λx=>JZ (lns s.sto) x.1)).run (Ju s)=some (xs,ws)/\
   (dU ws (cF.entsOfL xs []) (cF.entsOfL xs [])).run (Ju s)=some B/\(dU ws B B).run (Ju s)=some es/\iJ (es.map Ent.id)=true/\
   ren.renL (λe=>cW e es 0) xs=some z/\(jG ws (λe=>cW e es 0) es).run (Ju s)=some blks/\F f z blks=some res/\
   (if A=true then es.length<=res.2.length/\res.2.length<=es.length+n else res.2.length=es.length+n)/\bk es new res.1=some v/\gO es new new (res.2.drop es.length)=some fresh/\
   (hM ws es new es res.2).run (Ju s)=some E/\ ∃s',put d ⟨v,ws++E++fresh⟩ (Ju s)=Ju s'/\kk s'=some r:=by
 unfold BD at h;obtain⟨xs,s1,ws,h1,q,h⟩:=ZB (Fzd.refl s) h;rw[wO]at q;split at h;cases h;rename_i i0 V;split at h;cases h;rename_i i1 S;split at h;cases h;rename_i ids M;split at h;rename_i Y;split at h;rename_i ys bl U L;obtain⟨v,out,hF,a1,h⟩:=hG.ok h;split at h;rename_i hlen;split at h;rename_i O g W o;split at h;rename_i N;have e0:cF.entsOfL (xs.map (bO (lns s.sto))) []=i0.map .whole:=OP (lns s.sto) (l:=[]) V;have e1:=xV q S;have e2:=xV q M;obtain⟨ak,Z⟩:=rc L;have hL: ∀b k,eE b ids 0=some k->lns bl k=lns s.sto b:=by intro b k P;obtain⟨_,P⟩:=OS P;rw[Z k b (by simpa using P),q.2.1]
 have e3:=n5 hL U;have e4:=py hL q rfl L;obtain⟨b1,b2⟩:=nw o;have a6: ∀(j:Nat),nL out j=match out[j]? with
   |some x=>lnB x.2
   |none=>0:=by
  intro j;unfold nL lns;rw[fT];cases out[j]?<;>rfl
 have Q: ∀(k b:Nat),ids[k]?=some b->b<s1.sto.length:=by
  have al: ∀(C:List Nat) (bl:List TB),uT ids s1 C=some bl-> ∀(k b:Nat),C[k]?=some b->b<s1.sto.length:=by
   intro C
   induction C with
   |nil=>simp_all
   |cons c C ih=>
    grind [uT]
  grind
 have a4:s1.sto.length=s.sto.length:=(by have:=congrArg (λst=>st.sto.length) q.2.2.1;grind [Ju,xN]);obtain⟨a3,K,a2⟩:=JDQ hlen;have a0:=uW hd;have ab: ∀x∈g,∃(j:Nat) (T:Bool) (y:TB),out[j]?=some (T,y)/\eS ids new out.length j=some x.1/\wA ids new out.length y=some x.2.2/\x.2.1=(T&&decide (j<ids.length)):=by
  intro x hx;obtain⟨j,hj⟩:=kQ hx;have w:j<out.length:=by grind
  obtain⟨b,y,q1,q2,I⟩:=b2 j (out[j]'w).1 (out[j]'w).2 (aQ w);rw[hj]at I;injection I with I;rw[mC]at q1 I;exact⟨j,_,_,aQ w,by simp_all,by simp_all,by rw[I];rfl⟩
 have H: ∀x∈g,x.1<s1.sto.length:=(by grind [eS,Jq]);have J: ∀x∈g,x.2.1=true->lnB x.2.2=lns s1.sto x.1:=(by grind [ma,eS]);obtain⟨w1,w2⟩:=JIF (JGW N) H J;have D: ∀k b,eS ids new out.length k=some b->lns (mB g s1).sto b=nL out k:=(by grind [eS,ma]);have e5:=JHu D W;have e6:=ng D (ws0:=ws) (st:=Ju s) (j:=0) (es:=ids) (out:=out) (ws:=g) (λi b hb=>by grind) (by omega) K o;have e7:=ms D (j:=0) (out:=out.drop ids.length) (ws:=g.drop ids.length) (by have:=qb (n:=ids.length) o;grind);rw[tP]at e7;refine⟨xs.map (bO (lns s.sto)),ws,i1.map .whole,ids.map .whole,_,_,JZ (lns (mB g s1).sto) O,_,_,(g.drop ids.length).map (λx=>(x.1,aR (lns (mB g s1).sto) x.2.2)),h1,?_,e2,Dp Y,e3,e4,hF,?_,e5,?_,e6,aY d O (mB g s1),?_,h⟩;grind;grind;grind [List.map_drop];refine pY ?_ d O;rw[w1,q.2.2.1];simp[eN];cases h;cases h;cases h;cases h;cases h
end
end Go.Am
end
section
namespace Go.Am
inductive TOp where
 |mv (x:TO)
 |mkarr (t:Ty) (x:TO)
 |pick (c a b:TO)
 |newbox (t:Ty)
 |box (t:Ty) (x:TO)
 |build (t:Ty) (parts:List (Nat×Ty×TO))
 |lits (own:Bool) (t:Ty) (n:Nat) (parts:List (Nat×TO))
 |load (agg:Bool) (t:Ty) (x:TO)
 |store (t:Ty) (x v:TO)
 |nilchk (x:TO)
 |bin (op:BinOp) (bt:TBT) (x y:TO)
 |un (op:UnOp) (x:TO)
 |conv (k:CK) (x:TO)
 |mkslice (own:Bool) (t:Ty) (bytes:Nat) (l c:TO)
 |slice (k:TSK) (x:TO) (lo hi mx:Option TO)
 |faddr (off:Nat) (x:TO)
 |field (agg:Bool) (off:Nat) (t:Ty) (x:TO)
 |iaddr (t:Ty) (x i:TO)
 |aaddr (len esz:Nat) (x i:TO)
 |sidx (x i:TO)
 |aidx (agg:Bool) (len:Nat) (t:Ty) (x i:TO)
 |extr (x:TO) (i:Nat)
 |call (f:FuncId) (args:List TO) (k:Nat)
 |callo (f:FuncId) (args:List (TO×Bool)) (k:Nat)
 |callv (g:TO) (args:List TO) (k:Nat)
 |len (str:Bool) (x:TO)
 |alen (n:Nat)
 |app (t:Ty) (bytes:Nat) (x y:TO)
 |appn (t:Ty) (bytes:Nat) (y:TO)
 |appz (t:Ty) (bytes:Nat) (x y:TO)
 |appc (t:Ty) (bytes:Nat) (x y:TO)
 |mm (mx:Bool) (x y:TO)
 |mkfn (f:FuncId) (first caps:List TO)
 |newboxo (t:Ty) (os:List (Nat×Ty))
 |buildo (t:Ty) (parts:List (Nat×Ty×TO)) (os:List (Nat×Ty))
 |storen (t:Ty) (x:TO)
 |ppre (t:Ty) (x hi:TO)
 |psuf (t:Ty) (x lo:TO)
 |appp (t:Ty) (bytes:Nat) (x y:TO)
def zer(t:Ty):List PV:=cel t t.zero
def erp:TOp->AOp
 | .mv x=>.mv (erO x)
 | .mkarr t x=>.mkarr t.sz (erO x)
 | .pick c a b=>.pick (erO c) (erO a) (erO b)
 | .newbox t=>.newbox (zer t)
 | .box t x=>.box t.sz (erO x)
 | .build t parts=>.build (zer t) (erP parts)
 | .lits own t n parts=>.lits own t.sz n (zer t) (parts.map λx=>(x.1,erO x.2))
 | .load agg t x=>.load agg t.sz (erO x)
 | .store t x v=>.store t.sz (erO x) (erO v)
 | .nilchk x=>.nilchk (erO x)
 | .bin op bt x y=>.bin op (erT bt) (erO x) (erO y)
 | .un op x=>.un op (erO x)
 | .conv k x=>.conv k (erO x)
 | .mkslice own t bytes l c=>.mkslice own t.sz bytes (zer t) (erO l) (erO c)
 | .slice k x lo hi mx=>.slice (erK k) (erO x) (lo.map erO) (hi.map erO) (mx.map erO)
 | .faddr off x=>.faddr off (erO x)
 | .field agg off t x=>.field agg off t.sz (erO x)
 | .iaddr t x i=>.iaddr t.sz (erO x) (erO i)
 | .aaddr len esz x i=>.aaddr len esz (erO x) (erO i)
 | .sidx x i=>.sidx (erO x) (erO i)
 | .aidx agg len t x i=>.aidx agg len t.sz (erO x) (erO i)
 | .extr x i=>.extr (erO x) i
 | .call f args k=>.call f (args.map erO) k
 | .callo f args k=>.callo f (args.map (·.2)) (args.map λx=>erO x.1) k
 | .callv g args k=>.callv (erO g) (args.map erO) k
 | .len str x=>.len str (erO x)
 | .alen n=>.alen n
 | .app t bytes x y=>.app t.sz bytes (zer t) (erO x) (erO y)
 | .appn t bytes y=>.appn t.sz bytes (zer t) (erO y)
 | .appz t bytes x y=>.appz t.sz bytes (zer t) (erO x) (erO y)
 | .appc t bytes x y=>.appc t.sz bytes (zer t) (erO x) (erO y)
 | .ppre t x y=>.ppre t.sz (erO x) (erO y)
 | .psuf t x y=>.psuf t.sz (erO x) (erO y)
 | .appp t bytes x y=>.appp t.sz bytes (zer t) (erO x) (erO y)
 | .mm mx x y=>.mm mx (erO x) (erO y)
 | .mkfn f first caps=>.mkfn f (first.map erO) (caps.map erO)
 | .newboxo t os=>.newboxo (zer t) (jR os)
 | .buildo t parts os=>.buildo (zer t) (erP parts) (jR os)
 | .storen t x=>.storen t.sz (erO x)
def bT:TOp->Nat| .newbox _| .box _ _| .mkarr _ _| .appn _ _ _| .appc _ _ _ _=>1| .lits own _ _ _=>if own=true then 1 else 0| .mkslice own _ _ _ _=>if own=true then 1 else 0| .conv (.toBytes own) _=>if own=true then 1 else 0| .call _ _ k| .callv _ _ k| .callo _ _ k=>k| .newboxo _ os=>os.length+1| .buildo _ _ os=>os.length| .storen _ _=>1|_=>0
theorem HG(op:TOp):jT (erp op)=bT op:=by
 cases op<;>try rfl
 rename_i k x;cases k<;>rfl
 all_goals simp[erp,bT,jR]
def tM:List (TO×Bool)->TSt->Option (List (TV×Bool))|[],_=>some []|(o,x)::r,s=>match tev o s,tM r s with|some v,some l=>some ((v,x)::l)|_,_=>none
theorem xP{s:TSt}: ∀{xs:List (TO×Bool)} {l:List (TV×Bool)},tM xs s=some l->
  (evs (xs.map λx=>erO x.1)).run (Ju s)=some (l.map λx=>JZ (lns s.sto) x.1)/\l.map (·.2)=xs.map (·.2)
 |[],l,h=>by injection h with h;simp_all
 |(o,x)::q,l,h=>by
  simp only[tM]at h;split at h;rename_i v j e g;injection h with h;subst h;obtain⟨h1,h2⟩:=xP g;exact⟨by simp only[bP,evs,run_bind,bM e,Jy,h1,JV],by simp[h2]⟩;cases h
section
variable {R:Type}
def top(G:TG)(op:TOp)(d:Option Nat)(new:Nat)(s:TSt)(k:TSt->Option R):Option R:=
 match op with
 | .mv x=>match tev x s with|some v=>k (aY d v s)|none=>none
 | .mkarr t _=>Aq t d new s k
 | .pick c a b=>match tev c s with|some (.a (.c (.d .b x)))=>jf x (tev a s) (tev b s) λv=>k (aY d v s)|_=>none
 | .newbox t=>C9 t d new s k
 | .box t x=>match tev x s with|some v=>fv t v d new s k|none=>none
 | .build t parts=>WT t parts d s k
 | .lits own t n parts=>jt own t n parts d new s k
 | .load agg t x=>match tev x s with|some v=>jz agg t v d s k|none=>none
 | .store t x y=>match tev x s,tev y s with|some v,some u=>WP t v u d s k|_,_=>none
 | .nilchk x=>match tev x s with|some v=>ii v λv=>k (aY d v s)|none=>none
 | .bin op bt x y=>match tev x s,tev y s with|some v,some u=>ik op bt v u λv=>k (aY d v s)|_,_=>none
 | .un op x=>match tev x s with|some v=>tUn op v λv=>k (aY d v s)|none=>none
 | .conv c x=>match tev x s with|some v=>jh c v d new s k|none=>none
 | .mkslice own t bytes l c=>match tev l s,tev c s with|some v,some u=>YM own t bytes v u d new s k|_,_=>none
 | .slice e x lo hi mx=>match tev x s,tbn lo s,tbn hi s,tbn mx s with|some v,some a,some b,some c=>WE e v a b c d s k|_,_,_,_=>none
 | .faddr off x=>match tev x s with|some v=>WR off v λv=>k (aY d v s)|none=>none
 | .field agg off t x=>match tev x s with|some v=>WU agg off t v d s k|none=>none
 | .iaddr t x i=>match tev x s,tev i s with|some v,some u=>WQ t v u s λv=>k (aY d v s)|_,_=>none
 | .aaddr len esz x i=>match tev x s,tev i s with|some v,some u=>WW len esz v u λv=>k (aY d v s)|_,_=>none
 | .sidx x i=>match tev x s,tev i s with|some v,some u=>j6 v u λv=>k (aY d v s)|_,_=>none
 | .aidx agg len t x i=>match tev x s,tev i s with|some v,some u=>jk agg len t v u d s k|_,_=>none
 | .extr x i=>match tev x s with|some v=>ji v i λv=>k (aY d v s)|none=>none
 | .call f args n=>match tM (args.map λx=>(x,false)) s with|some l=>BD G f l false n d new s k|none=>none
 | .callo f args n=>match tM args s with|some l=>BD G f l true n d new s k|none=>none
 | .callv g args n=>match tev g s,tM (args.map λx=>(x,false)) s with|some (.a (.fn f a c)),some l=>BD G f (a.map (λx=>(.a (.c x),false))++l++c.map (λx=>(.a (.c x),false))) false n d new s k|some (.a (.c (.fn f))),some l=>BD G f l false n d new s k|_,_=>none
 | .len str x=>match tev x s with|some v=>g4 str v s λv=>k (aY d v s)|none=>none
 | .alen n=>k (aY d (vi .i64 n) s)
 | .app t bytes x y=>match tev x s,tev y s with|some v,some u=>RC t bytes v u d s k|_,_=>none
 | .appn t bytes y=>match tev y s with|some u=>jm t bytes u d new s k|none=>none
 | .appz t bytes x y=>match tev x s,tev y s with|some v,some u=>jl t bytes v u d s k|_,_=>none
 | .appc t bytes x y=>match tev x s,tev y s with|some v,some u=>jv t bytes v u d new s k|_,_=>none
 | .mm mx x y=>match tev x s,tev y s with|some v,some u=>tMm mx v u λv=>k (aY d v s)|_,_=>none
 | .mkfn f first caps=>match tcl first s,tcl caps s with|some a,some c=>k (aY d (.a (.fn f a c)) s)|_,_=>none
 | .newboxo t os=>ZJ t os d new s k
 | .buildo t parts os=>YE t parts os d new s k
 | .storen t x=>match tev x s with|some v=>XW t v d new s k|none=>none
 | .ppre _ x y=>match tev x s,tev y s with|some v,some u=>jy v u d s k|_,_=>none
 | .psuf t x y=>match tev x s,tev y s with|some v,some u=>j7 t v u d s k|_,_=>none
 | .appp t bytes x y=>match tev x s,tev y s with|some v,some u=>kb t bytes v u d s k|_,_=>none
theorem YQ{F:Orc}{f:FuncId}{vs xs g:List AV}{ws:List (Nat×Blk)}{h es:List Ent}{blks:List Blk}{v:AV}{res:Res}{j fresh:List (Nat×Blk)}{n new:Nat}{st:St}
  (h1:(jA vs).run st=some (xs,ws)) (h2:(dU ws (cF.entsOfL xs []) (cF.entsOfL xs [])).run st=some h) (h3:(dU ws h h).run st=some es) (h4:iJ (es.map Ent.id)=true)
  (h5:ren.renL (λe=>cW e es 0) xs=some g) (w:(jG ws (λe=>cW e es 0) es).run st=some blks) (q:F f g blks=some res) (r:res.2.length=es.length+n)
  (x:bk es new res.1=some v) (k:gO es new new (res.2.drop es.length)=some fresh) (o:(hM ws es new es res.2).run st=some j):
  (gV F f vs n new).run st=some ⟨v,ws++j++fresh⟩:=by
 simp_all [gV]
theorem JEL{F:Orc}{f:FuncId}{xs g:List AV}{ws:List (Nat×Blk)}{h es:List Ent}{blks:List Blk}{v:AV}{res:Res}{j fresh:List (Nat×Blk)}{n new:Nat}{st:St}
  (h2:(dU ws (cF.entsOfL xs []) (cF.entsOfL xs [])).run st=some h) (h3:(dU ws h h).run st=some es) (h4:iJ (es.map Ent.id)=true)
  (h5:ren.renL (λe=>cW e es 0) xs=some g) (w:(jG ws (λe=>cW e es 0) es).run st=some blks) (q:F f g blks=some res) (r:es.length<=res.2.length/\res.2.length<=es.length+n)
  (x:bk es new res.1=some v) (k:gO es new new (res.2.drop es.length)=some fresh) (o:(hM ws es new es res.2).run st=some j):
  (fD F f (xs,ws) n new).run st=some ⟨v,ws++j++fresh⟩:=by
 simp_all [fD]
theorem OE(args:List TO):(args.map λx=>(x,false)).map (λx:TO×Bool=>erO x.1)=args.map erO:=by simp_all
theorem JJL{F:Orc}{G:TG}(L:GOk F G){op:TOp}{d:Option Nat}{new:Nat}{s:TSt}{k:TSt->Option R}{r:R}(hd:mG s new (bT op)=true)(h:top G op d new s k=some r):Ok (opR F (erp op) new) d s k r:=by
 have a4: ∀j,j<bT op->new+j<s.sto.length:=λj hj=>Jq (uW hd j hj);unfold top at h;split at h;split at h;rename_i x _ v o;refine eJ (v:=v) ?_ h;simp only[erp,opR,run_bind,bM o,Jy,JV];cases h;exact JDq F (by simp_all [bT]) h;split at h;rename_i hc;exact JGX F hc h;cases h;exact JBo F (by have:=uW hd 0 (by simp[bT]);simp_all) h;split at h;rename_i o;exact JHy F (by have:=uW hd 0 (by simp[bT]);simp_all) o h;cases h;exact JE7 F new h;rename_i own t n parts;exact JFz F (λZ=>by simp_all [bT]) h;split at h;rename_i o;obtain⟨e,s',h1,h2,q⟩:=JGV h;exact⟨e,s',by grind [erp,opR,run_bind,bM],h2,q⟩;cases h;split at h;rename_i o w;obtain⟨e,s',h1,h2,q⟩:=JDt h;exact⟨e,s',by grind [erp,opR,run_bind,bM],h2,q⟩;cases h;split at h;rename_i o;exact JHB F o h;cases h;split at h;rename_i o w;obtain⟨e,s',h1,h2,q⟩:=(JIe h).ok;exact⟨e,s',by grind [erp,opR,run_bind,bM],h2,q⟩;cases h;split at h;rename_i o;obtain⟨e,s',h1,h2,q⟩:=(JKm h).ok;exact⟨e,s',by grind [erp,opR,run_bind,bM],h2,q⟩;cases h;split at h;rename_i o;exact JFM F o (λZ=>by simp_all [bT]) h;cases h;split at h;rename_i o w;exact D5 F o w (λZ=>by simp_all [bT]) h;cases h;split at h;rename_i h1 h2 q h4;exact JDZ F h1 h2 q h4 h;cases h;split at h;rename_i o;obtain⟨e,s',h1,h2,q⟩:=(JDY h).ok;exact⟨e,s',by grind [erp,opR,run_bind,bM],h2,q⟩;cases h;split at h;rename_i o;obtain⟨e,s',h1,h2,q⟩:=JDL h;exact⟨e,s',by grind [erp,opR,run_bind,bM],h2,q⟩;cases h;split at h;rename_i o w;obtain⟨e,s',h1,h2,q⟩:=JDG h;exact⟨e,s',by grind [erp,opR,run_bind,bM],h2,q⟩;cases h;split at h;rename_i o w;obtain⟨e,s',h1,h2,q⟩:=(JEb h).ok;exact⟨e,s',by grind [erp,opR,run_bind,bM],h2,q⟩;cases h;split at h;rename_i o w;exact JHb F o w h;cases h;split at h;rename_i o w;exact JGb F o w h;cases h;split at h;rename_i o;obtain⟨e,s',h1,h2,q⟩:=(JGZ h).ok;exact⟨e,s',by grind [erp,opR,run_bind,bM],h2,q⟩;cases h;rename_i f args n;split at h;rename_i l H;obtain⟨C,M⟩:=xP H;rw[OE]at C;obtain⟨xs,ws,I,es,B,blks,v,res,D,fresh,E,W,V,S,Q,P,O,T,N,K,J,s',A,y⟩:=PM L hd h;rw[IS _ _ (λx hx=>by simp_all)]at E;refine⟨_,s',?_,A,y⟩;grind [erp,opR,run_bind,YQ,bT];cases h;rename_i f args n;split at h;rename_i l H;obtain⟨C,M⟩:=xP H;obtain⟨xs,ws,I,es,B,blks,v,res,D,fresh,E,W,V,S,Q,P,O,T,N,K,J,s',A,y⟩:=PM L hd h;rw[M]at E;refine⟨_,s',?_,A,y⟩;simp_all [erp,JEL,bT];cases h;rename_i g args n;split at h;rename_i f a c l U H;obtain⟨C,M⟩:=xP H;rw[OE]at C;obtain⟨xs,ws,I,es,B,blks,v,res,D,fresh,E,W,V,S,Q,P,O,T,N,K,J,s',A,y⟩:=PM L hd h;have Y: ∀z:List TC,(z.map (λx=>((TV.a (.c x),false):TV×Bool))).map (λx=>JZ (lns s.sto) x.1)=z.map (aT (lns s.sto)):=λz=>by rw[wF];rfl
 rw[IS _ _ (λx hx=>by
  grind),wJ,wJ,Y,Y]at E
 refine⟨_,s',?_,A,y⟩;simp only[erp,opR,run_bind,bM U,Jy,gq,C];grind [YQ,bT];rename_i f l U H;obtain⟨C,M⟩:=xP H;rw[OE]at C;obtain⟨xs,ws,I,es,B,blks,v,res,D,fresh,E,W,V,S,Q,P,O,T,N,K,J,s',A,y⟩:=PM L hd h;rw[IS _ _ (λx hx=>by simp_all)]at E;refine⟨_,s',?_,A,y⟩;simp only[erp,opR,run_bind,bM U,Jy,zr,C,wO,lZ];grind [YQ,bT];cases h;split at h;rename_i o;obtain⟨e,s',h1,h2,q⟩:=(JHw h).ok;exact⟨e,s',by grind [erp,opR,run_bind,bM],h2,q⟩;cases h;rename_i n;exact eJ (v:=vi .i64 n) rfl h;split at h;rename_i o w;obtain⟨e,s',h1,h2,q⟩:=Cj h;exact⟨e,s',by grind [erp,opR,run_bind,bM],h2,q⟩;cases h;split at h;rename_i w;exact JFm F w (by simp_all [bT]) h;cases h;split at h;rename_i o w;exact JG8 F o w h;cases h;split at h;rename_i o w;exact JG1 F o w (by simp_all [bT]) h;cases h;split at h;rename_i o w;obtain⟨e,s',h1,h2,q⟩:=(JKL h).ok;exact⟨e,s',by grind [erp,opR,run_bind,bM],h2,q⟩;cases h;rename_i f first caps
 split at h;rename_i a c ha hc;refine eJ (v:=.a (.fn f a c)) ?_ h;simp_all [erp,Bk,gq];cases h;exact D7 F hd h;exact JBi F hd h;split at h;rename_i o;exact JBh F (by have:=uW hd 0 (by simp[bT]);simp_all) o h;cases h;split at h;rename_i o w;obtain⟨e,s',h1,h2,q⟩:=JFZ h;exact⟨e,s',by grind [erp,opR,run_bind,bM],h2,q⟩;cases h;split at h;rename_i o w;obtain⟨e,s',h1,h2,q⟩:=JGU h;exact⟨e,s',by grind [erp,opR,run_bind,bM],h2,q⟩;cases h;split at h;rename_i o w;obtain⟨e,s',h1,h2,q⟩:=JF1 h;exact⟨e,s',by grind [erp,opR,run_bind,bM],h2,q⟩;cases h
structure iB where
 op:TOp
 dst:Option Nat
 g:Option (Nat×Bool)
def eri(i:iB):bS:=⟨erp i.op,i.dst,i.g⟩
def rbE(g:Nat)(v:TV):List (Nat×TV)->List (Nat×TV)|[]=>[]|(m,u)::r=>if m=g then(m,v)::r else(m,u)::rbE g v r
def rb(g:Nat)(v:TV)(s:TSt):TSt:=⟨rbE g v s.env,s.sto⟩
theorem WL{g:Nat}{v:TV}{s:TSt}(h:tlk g s.env=some v):rb g v s=s:=by
 have e: ∀env:List (Nat×TV),tlk g env=some v->rbE g v env=env:=by
  intro env
  induction env with
  |nil=>intro h;cases h
  |cons x r ih=>
   grind [tlk,rbE]
 simp_all [rb]
def QW(G:TG)(i:iB)(new:Nat)(s:TSt)(k:TSt->Option R):Option R:=
 match i.g with
 |none=>if mG s new (bT i.op)=true then top G i.op i.dst new s k else none
 |some (g,e)=>match tlk g s.env with
  |some (.a (.c (.d .b x)))=>if x=e then
   (if mG s new (bT i.op)=true then top G i.op i.dst new (rb g (vb e) s) k else none)
   else k (aY i.dst uv (rb g (vb !e) s))
  |some (.tup [])=>k (aY i.dst uv s)
  |_=>none
theorem lf{F:Orc}{G:TG}(C:GOk F G){i:iB}{new:Nat}{s:TSt}{k:TSt->Option R}{r:R}(h:QW G i new s k=some r):Ok (bW F (eri i) new) i.dst s k r:=by
 have A: ∀{s:TSt},mG s new (bT i.op)=true->top G i.op i.dst new s k=some r->Ok (opD F (erp i.op) new) i.dst s k r:=(by intro s q h;obtain⟨e,s',h1,h2,y⟩:=JJL C q h;refine⟨e,s',?_,h2,y⟩;grind [opD,run_bind,HG,ml]);unfold QW at h;split at h;grind [bW,eri];rename_i g n B;split at h;rename_i x j;have o:lk g (Ju s).env=some (.p (.b x)):=by show lk g (fC _ s.env)=_;rw[xH,j];rfl
 split at h;rename_i w;subst w;rw[WL j]at h;split at h;rename_i q;obtain⟨e,s',h1,h2,y⟩:=A q h;refine⟨e,s',?_,h2,y⟩;grind [bW,eri,uU];cases h;rename_i w;have z:x= !n:=by clear o j h;cases x<;>cases n<;>first|rfl|grind
 subst z;rw[WL j]at h;refine eJ (v:=uv) ?_ h;simp only[bW,eri,B,uU,o,Jy];rw[if_neg w];rfl;rename_i j;have o:lk g (Ju s).env=some (.tup []):=by show lk g (fC _ s.env)=_;rw[xH,j];rfl
 refine eJ (v:=uv) ?_ h;simp only[bW,eri,B,uU,o,Jy,JV];rfl;cases h
def SP(G:TG):List iB->Nat->TSt->(TSt->Option R)->Option R|[],_,s,k=>k s|i::r,new,s,k=>QW G i new s λs=>SP G r (new+bT i.op) s k
theorem B9{F:Orc}{G:TG}(g:GOk F G): ∀{ins:List iB} {new:Nat} {s:TSt} {k:TSt->Option R} {r:R},SP G ins new s k=some r-> ∃s',fM F (ins.map eri) new (Ju s)=some (Ju s')/\k s'=some r
 |[],new,s,k,r,h=>⟨s,rfl,h⟩
 |i::q,new,s,k,r,h=>by
  simp only[SP]at h;obtain⟨e,s1,h1,h2,h⟩:=lf g h;obtain⟨j,o,n⟩:=B9 g h;grind [fM,eri,HG]
def GI:List iB->Nat|[]=>0|i::r=>bT i.op+GI r
theorem ZL: ∀ins:List iB,news (ins.map eri)=GI ins
 |[]=>rfl
 |i::r=>by
  simp only[bP,news,GI,ZL r];grind [eri,HG]
def MB(n:Nat)(s:TSt):TSt:=if n=0 then s else⟨s.env,s.sto++List.replicate n .dead⟩
theorem H8(sto:List TB)(n:Nat):lns (sto++List.replicate n .dead)=lns sto:=by
 funext c
 unfold lns;rcases zQ3 c sto.length with h|h;grind;rw[pH h,nR h,List.getElem?_replicate];split<;>rfl
theorem m5(n:Nat)(s:TSt):Ju (MB n s)=⟨(Ju s).env,room n (Ju s).sto⟩:=by
 unfold MB room;split;rfl;unfold Ju;rw[H8];simp only[wJ,RK];rfl
end
end Go.Am
end
section
namespace Go.Am
def Rb{α:Type}(S:Nat->Prop)(m:RM α)(st:St):Prop:= ∀b,Loc.blk b∈m.reads st->S b
section
variable {α β:Type} {S:Nat->Prop} {st:St}
theorem bJ(a:α):Rb S (.ret a) st:=λb h=>by simp[RM.reads]at h
theorem JO:Rb S (.fail:RM α) st:=λb h=>by simp[RM.reads]at h
theorem bG{m:RM α}{f:α->RM β}(h:Rb S m st)(hf: ∀a,m.run st=some a->Rb S (f a) st):Rb S (m.bind f) st:=by
 intro b e;rw[vD]at e;rcases zQ9.1 e with e|e;exact h b e;cases hm:m.run st with
 |none=>rw[hm]at e;simp at e
 |some a=>rw[hm]at e;exact hf a hm b (by simpa using e)
theorem jX{b:Nat}{k:Blk->RM α}(hb:S b)(h: ∀v,st.sto[b]?=some v->Rb S (k v) st):Rb S (.blk b k) st:=by
 intro c e;simp only[RM.reads,dZ]at e;rcases e with e|e;injection e with e;subst e;exact hb;cases hv:st.sto[b]? with
 |none=>rw[hv]at e;simp at e
 |some v=>rw[hv]at e;exact h v hv c e
theorem ln{n:Nat}{k:AV->RM α}(h: ∀v,lk n st.env=some v->Rb S (k v) st):Rb S (.slot n k) st:=by
 intro c e;simp only[RM.reads,dZ]at e;rcases e with e|e;cases e;cases hv:lk n st.env with
 |none=>rw[hv]at e;simp at e
 |some v=>rw[hv]at e;exact h v hv c e
theorem MZ(x:Option AV):Rb S (val x) st:=by cases x<;>first|exact JO|exact bJ _
theorem fI(x:Opd):Rb S (ev x) st:=by cases x<;>first|exact bJ _|exact ln λv _=>bJ v
theorem XI: ∀xs:List Opd,Rb S (evs xs) st|[]=>bJ _|x::r=>bG (fI x) λv _=>bG (XI r) λvs _=>bJ _
theorem WC(x:Option Opd):Rb S (evo x) st:=by
 cases x with
 |none=>exact bJ _
 |some x=>exact bG (fI x) λv _=>bJ _
end
def dY:AV->List Nat| .ptr b _=>[b]| .slr b _ _=>[b]| .ep b _ _ _=>[b]| .pre b _ _=>[b]|_=>[]
def avR:AV->List Nat| .agg cs=>cs.flatMap dY|x=>dY x
section
variable {S:Nat->Prop} {st:St}
theorem JIT{x:AV}(h: ∀b∈dY x,S b):Rb S (fz.fz1 x) st:=by
 cases x with
 |slr b i n=>
  refine jX (h b (by simp[dY])) λv _=>?_;cases v with
  |arr w esz rows=>dsimp only;split<;>first|exact bJ _|exact JO
  |_=>exact JO
 |p c=>exact bJ _
 |_=>exact JO
theorem Aw: ∀{xs:List AV},(∀b∈xs.flatMap dY,S b)->Rb S (fz.fzL xs) st|[],_=>bJ _|x::r,h=>bG (JIT λb e=>h b (by simp[e])) λa _=>bG (Aw λb e=>h b (by simp only[List.flatMap_cons,zQ9];exact .inr e)) λc _=>bJ _
theorem FZ{x:AV}(h: ∀b∈avR x,S b):Rb S (fz x) st:=by
 cases x with
 |slr b i n=>
  refine jX (h b (by simp[avR,dY])) λv _=>?_;cases v with
  |arr w esz rows=>dsimp only;split<;>first|exact bJ _|exact JO
  |_=>exact JO
 |p c=>exact bJ _
 |data cs=>exact bJ _
 |agg cs=>exact Aw h
 |_=>exact JO
theorem JKq{x:AV}{a:List PV×List (Nat×Blk)}(h:(fz.fz1 x).run st=some a): ∀y∈a.2,y.1∈dY x:=by
 cases x with
 |slr b i n=>
  simp only[fz.fz1,cV]at h;obtain⟨v,_,h⟩:=bL.1 h;cases v with
  |arr w esz rows=>
   dsimp only at h;split at h;injection h with h;subst h;simp[dY];cases h
  |_=>cases h
 |p c=>injection h with h;subst h;simp
 |_=>cases h
theorem Be: ∀{xs:List AV} {a:List PV×List (Nat×Blk)},(fz.fzL xs).run st=some a-> ∀y∈a.2,y.1∈xs.flatMap dY
 |[],a,h,y,g=>by injection h with h;subst h;simp at g
 |x::r,a,h,y,g=>by
  simp only[fz.fzL]at h;obtain⟨c,h1,h⟩:=bind_some h;obtain⟨e,h2,h⟩:=bind_some h;injection h with h;subst h;simp only[zQ9]at g;simp only[List.flatMap_cons,zQ9];rcases g with g|g;exact .inl (JKq h1 y g);exact .inr (Be h2 y g)
theorem FQ{x:AV}{a:List PV×List (Nat×Blk)}(h:(fz x).run st=some a): ∀y∈a.2,y.1∈avR x:=by
 cases x with
 |slr b i n=>
  simp only[fz,cV]at h;obtain⟨v,_,h⟩:=bL.1 h;cases v with
  |arr w esz rows=>
   dsimp only at h;split at h;injection h with h;subst h;simp[avR,dY];cases h
  |_=>cases h
 |p c=>injection h with h;subst h;simp
 |data cs=>injection h with h;subst h;simp
 |agg cs=>exact Be h
 |_=>cases h
theorem NS{esz:Nat}{x:AV}(h: ∀b∈avR x,S b):Rb S (eH esz x) st:=by
 unfold eH;split;split<;>first|exact bJ _|exact JO
 split<;>first|exact bJ _|exact JO
 refine jX (h _ (by simp[avR,dY])) λv _=>?_;split;split<;>first|exact bJ _|exact JO
 exact JO;exact JO
theorem JI4{agg:Bool}{size:Nat}{x:AV}(h: ∀b∈avR x,S b):Rb S (fW agg size x) st:=by
 unfold fW;split;split<;>first|exact MZ _|exact JO
 refine jX (h _ (by simp[avR,dY])) λv _=>?_;split;split<;>first|exact MZ _|exact JO
 exact JO;refine jX (h _ (by simp[avR,dY])) λv _=>?_;split;split;split;split<;>first|exact MZ _|exact JO
 exact JO;exact JO;exact JO;exact JO
theorem MU{x:Option AV}{e:Eff}(h:(val x).run st=some e):e.ws=[]:=by
 cases x with
 |none=>cases h
 |some v=>injection h with h;subst h;rfl
theorem JHT{agg:Bool}{size:Nat}{x:AV}{e:Eff}(h:(fW agg size x).run st=some e):e.ws=[]:=by
 unfold fW at h;split at h;split at h<;>first|exact MU h|cases h
 simp only[cV]at h;obtain⟨v,_,h⟩:=bL.1 h;split at h;split at h<;>first|exact MU h|cases h
 cases h;simp only[cV]at h;obtain⟨v,_,h⟩:=bL.1 h;split at h;split at h;split at h;split at h<;>first|exact MU h|cases h
 cases h;cases h;cases h;cases h
theorem JGy{size:Nat}{x v:AV}(h: ∀b∈avR x,S b)(hv: ∀b∈avR v,S b):Rb S (gX size x v) st:=by
 unfold gX;split;refine jX (h _ (by simp[avR,dY])) λy _=>?_;split;split;split;split<;>first|exact bJ _|exact JO
 exact JO;exact JO;exact JO;refine jX (h _ (by simp[avR,dY])) λy _=>?_;split;split;split;refine bG (FZ hv) λa _=>?_;split;split<;>first|exact bJ _|exact JO
 exact JO;exact JO;exact JO;exact JO;exact JO
theorem JH8{size:Nat}{x v:AV}{e:Eff}(h:(gX size x v).run st=some e): ∀y∈e.ws,y.1∈avR x++avR v:=by
 unfold gX at h;split at h;simp only[cV]at h;obtain⟨w,_,h⟩:=bL.1 h;split at h;split at h;split at h;split at h;injection h with h;subst h;simp[avR,dY];cases h;cases h;cases h;cases h;simp only[cV]at h;obtain⟨w,_,h⟩:=bL.1 h;split at h;split at h;split at h;obtain⟨a,h1,h⟩:=bind_some h;split at h;split at h;injection h with h;subst h;intro y g;simp only[zQ9,pK]at g⊢;rcases g with g|rfl;exact .inr (FQ h1 y g);exact .inl (by simp[avR,dY]);cases h;cases h;cases h;cases h;cases h;cases h
theorem JEQ{esz:Nat}{x i:AV}(h: ∀b∈avR x,S b):Rb S (kY esz x i) st:=by
 unfold kY;split;split;split<;>first|exact bJ _|exact JO
 exact JO;refine jX (h _ (by simp[avR,dY])) λv _=>?_;split;split<;>first|exact bJ _|exact JO
 exact JO;exact JO
theorem JH3{esz:Nat}{x i:AV}{e:Eff}(h:(kY esz x i).run st=some e):e.ws=[]:=by
 unfold kY at h;split at h;split at h;split at h;injection h with h;subst h;rfl;cases h;cases h;simp only[cV]at h;obtain⟨v,_,h⟩:=bL.1 h;split at h;split at h;injection h with h;subst h;rfl;cases h;cases h;cases h
theorem JKs{esz bytes:Nat}{x y:AV}(h: ∀b∈avR x,S b)(hy: ∀b∈avR y,S b):Rb S (hC esz bytes x y) st:=by
 unfold hC;split;refine jX (h _ (by simp[avR,dY])) λv _=>?_;split;refine bG (NS hy) λnew _=>?_;split<;>first|exact bJ _|exact JO
 exact JO;exact JO
theorem JJp{esz bytes:Nat}{x y:AV}{e:Eff}(h:(hC esz bytes x y).run st=some e): ∀z∈e.ws,z.1∈avR x:=by
 unfold hC at h;split at h;simp only[cV]at h;obtain⟨v,_,h⟩:=bL.1 h;split at h;obtain⟨new,_,h⟩:=bind_some h;split at h;injection h with h;subst h;simp[avR,dY];cases h;cases h;cases h
theorem JKD{x y:AV}(h: ∀b∈avR x,S b):Rb S (rD x y) st:=by
 unfold rD;split;refine jX (h _ (by simp[avR,dY])) λv _=>?_;split;split<;>first|exact bJ _|exact JO
 exact JO;exact JO
theorem JKG{esz:Nat}{x y:AV}(h: ∀b∈avR x,S b):Rb S (rJ esz x y) st:=by
 unfold rJ;split;refine jX (h _ (by simp[avR,dY])) λv _=>?_;split;split<;>first|exact bJ _|exact JO
 exact JO;exact JO
theorem JK5{x y:AV}{e:Eff}(h:(rD x y).run st=some e):e.ws=[]:=by
 unfold rD at h;split at h;simp only[cV]at h;obtain⟨v,_,h⟩:=bL.1 h;split at h;split at h;injection h with h;subst h;rfl;cases h;cases h;cases h
theorem JJs{esz:Nat}{x y:AV}{e:Eff}(h:(rJ esz x y).run st=some e):e.ws=[]:=by
 unfold rJ at h;split at h;simp only[cV]at h;obtain⟨v,_,h⟩:=bL.1 h;split at h;split at h;injection h with h;subst h;rfl;cases h;cases h;cases h
theorem JJz{esz bytes:Nat}{x y:AV}(h: ∀b∈avR x,S b)(hy: ∀b∈avR y,S b):Rb S (rK esz bytes x y) st:=by
 unfold rK;split;refine jX (h _ (by simp[avR,dY])) λv _=>?_;split;refine bG (NS hy) λnew _=>?_;split<;>first|exact bJ _|exact JO
 exact JO;exact JO
theorem JJY{esz bytes:Nat}{x y:AV}{e:Eff}(h:(rK esz bytes x y).run st=some e): ∀z∈e.ws,z.1∈avR x:=by
 unfold rK at h;split at h;simp only[cV]at h;obtain⟨v,_,h⟩:=bL.1 h;split at h;obtain⟨new,_,h⟩:=bind_some h;split at h;injection h with h;subst h;simp[avR,dY];cases h;cases h;cases h
theorem lj: ∀{k new:Nat},(∀j,j<k->S (new+j))->Rb S (rN new k) st
 |0,_,_=>bJ _
 |k+1,new,h=>jX (h 0 (by omega)) λv _=>by
  cases v with
  |dead=>exact lj λj e=>by have:=h (j+1) (by omega);rwa[Nat.add_comm j 1,<-EP]at this
  |_=>exact JO
theorem A8: ∀{xs:List Opd},(∀x∈xs,∀v,(ev x).run st=some v-> ∀b∈avR v,S b)->Rb S (fzs xs) st|[],_=>bJ _|x::r,h=>bG (fI x) λv e=>bG (FZ (h x (by simp) v e)) λa _=>bG (A8 λy g=>h y (by simp[g])) λc _=>bJ _
theorem XF: ∀{xs:List Opd} {a:List (List PV)×List (Nat×Blk)},(∀x∈xs,∀v,(ev x).run st=some v-> ∀b∈avR v,S b)->(fzs xs).run st=some a-> ∀y∈a.2,S y.1
 |[],a,_,h,y,g=>by injection h with h;subst h;simp at g
 |x::r,a,j,h,y,g=>by
  simp only[fzs]at h;obtain⟨v,k,h⟩:=bind_some h;obtain⟨c,h1,h⟩:=bind_some h;obtain⟨e,h2,h⟩:=bind_some h;injection h with h;subst h;simp only[zQ9]at g;rcases g with g|g;exact j x (by simp) v k _ (FQ h1 y g);exact XF (λz n=>j z (by simp[n])) h2 y g
theorem Cz{x:AV}(h: ∀b∈avR x,S b):Rb S (hZ x) st:=by
 cases x with
 |slr b i n=>refine bG (FZ h) λa _=>?_;split<;>first|exact bJ _|exact JO
 |agg cs=>exact bG (FZ h) λa _=>bJ _
 |tup cs=>exact JO
 |_=>exact bJ _
theorem Cb{x:AV}{a:AV×List (Nat×Blk)}(h:(hZ x).run st=some a): ∀y∈a.2,y.1∈avR x:=by
 cases x with
 |slr b i n=>
  simp only[hZ]at h;obtain⟨c,h1,h⟩:=bind_some h;split at h;injection h with h;subst h;exact FQ h1;cases h
 |agg cs=>simp only[hZ]at h;obtain⟨c,h1,h⟩:=bind_some h;injection h with h;subst h;exact FQ h1
 |tup cs=>cases h
 |_=>injection h with h;subst h;simp
theorem IB: ∀{m:List Bool} {xs:List AV},(∀x∈xs,∀b∈avR x,S b)->Rb S (eW m xs) st|_,[],_=>by unfold eW;exact bJ _|[],x::r,h=>bG (Cz (h x (by simp))) λa _=>bG (IB λy e=>h y (by simp[e])) λc _=>bJ _|true::m,x::r,h=>bG (IB λy e=>h y (by simp[e])) λc _=>bJ _|false::m,x::r,h=>bG (Cz (h x (by simp))) λa _=>bG (IB λy e=>h y (by simp[e])) λc _=>bJ _
theorem ID: ∀{m:List Bool} {xs:List AV} {a:List AV×List (Nat×Blk)},(∀x∈xs,∀b∈avR x,S b)->(eW m xs).run st=some a-> ∀y∈a.2,S y.1
 |m,[],a,_,h,y,g=>by unfold eW at h;injection h with h;subst h;simp at g
 |[],x::r,a,j,h,y,g=>by
  simp only[eW]at h;obtain⟨c,h1,h⟩:=bind_some h;obtain⟨e,h2,h⟩:=bind_some h;injection h with h;subst h;simp only[zQ9]at g;rcases g with g|g;exact j x (by simp) _ (Cb h1 y g);exact ID (λz k=>j z (by simp[k])) h2 y g
 |true::m,x::r,a,j,h,y,g=>by simp only[eW]at h;obtain⟨e,h2,h⟩:=bind_some h;injection h with h;subst h;exact ID (λz k=>j z (by simp[k])) h2 y g
 |false::m,x::r,a,j,h,y,g=>by
  simp only[eW]at h;obtain⟨c,h1,h⟩:=bind_some h;obtain⟨e,h2,h⟩:=bind_some h;injection h with h;subst h;simp only[zQ9]at g;rcases g with g|g;exact j x (by simp) _ (Cb h1 y g);exact ID (λz k=>j z (by simp[k])) h2 y g
theorem Cw{ws:List (Nat×Blk)}{b:Nat}(h:S b):Rb S (pN ws b) st:=jX h λv _=>by split<;>exact bJ _
theorem YD{ws:List (Nat×Blk)}: ∀{r:List Nat} {acc:List Ent},(∀b∈r,S b)->Rb S (dU ws (r.map .whole) acc) st|[],acc,_=>bJ _|b::r,acc,h=>by simp only[bP,dU];refine bG (Cw (h b (by simp))) λx _=>?_;cases x<;>exact YD λc e=>h c (by simp[e])
theorem ov{ws:List (Nat×Blk)}{ρ:Ent->Option Nat}: ∀{r:List Nat},(∀b∈r,S b)->Rb S (jG ws ρ (r.map .whole)) st
 |[],_=>bJ _
 |b::r,h=>by
  simp only[bP,jG,wZ];refine bG (bG (Cw (h b (by simp))) λx _=>?_) λx _=>bG (ov λc g=>h c (by simp[g])) λl _=>bJ _;cases x with
  |box cs=>dsimp only;split<;>first|exact bJ _|exact JO
  |arr w e rows=>exact bJ _
  |dead=>exact JO
theorem px{ws:List (Nat×Blk)}{es:List Ent}{new:Nat}: ∀{r:List Nat} {l:List Blk},Rb S (hM ws es new (r.map .whole) l) st
 |[],l=>by cases l<;>exact bJ _
 |b::r,[]=>JO
 |b::r,x::l=>by
  simp only[bP,hM];refine bG ?_ λy _=>bG px λg _=>bJ _;cases x with
  |box cs=>simp only[rT];split<;>first|exact bJ _|exact JO
  |arr w e rows=>exact bJ _
  |dead=>exact JO
theorem pp{ws:List (Nat×Blk)}{es:List Ent}{new:Nat}: ∀{r:List Nat} {l:List Blk} {g:List (Nat×Blk)},(hM ws es new (r.map .whole) l).run st=some g-> ∀y∈g,y.1∈r
 |[],l,g,h,y,j=>by
  have:g=[]:=by cases l<;>(injection h with h;exact h.symm)
  subst this;simp at j
 |b::r,[],g,h,_,_=>by cases h
 |b::r,x::l,g,h,y,j=>by
  simp only[bP,hM]at h;obtain⟨z,h1,h⟩:=bind_some h;obtain⟨k,h2,h⟩:=bind_some h;injection h with h;subst h;rcases dZ.1 j with rfl|j;cases x with
  |box cs=>
   simp only[rT]at h1;split at h1;injection h1 with h1;subst h1;simp;cases h1
  |arr w e rows=>injection h1 with h1;subst h1;simp
  |dead=>cases h1
  exact FK _ (pp h2 y j)
theorem dp{es:List Ent}{new:Nat}: ∀{l:List Blk} {k:Nat} {n:List (Nat×Blk)},gO es new k l=some n-> ∀y∈n,∃j,j<l.length/\y.1=k+j
 |[],k,n,h,y,g=>by injection h with h;subst h;simp at g
 | .dead::l,k,n,h,_,_=>by cases h
 | .box cs::l,k,n,h,y,g=>by
  simp only[gO]at h;split at h;rename_i c q _ o;injection h with h;subst h;rcases dZ.1 g with rfl|g;exact⟨0,by simp,rfl⟩;obtain⟨j,r,e⟩:=dp o y g;exact⟨j+1,by simp;omega,by omega⟩;cases h
 | .arr w e rows::l,k,n,h,y,g=>by
  simp only[gO]at h;split at h;rename_i q o;injection h with h;subst h;rcases dZ.1 g with rfl|g;exact⟨0,by simp,rfl⟩;obtain⟨j,r,e⟩:=dp o y g;exact⟨j+1,by simp;omega,by omega⟩;cases h
theorem ZQ(e x:Ent)(l:List Ent)(h:e∈l):e∈uJ x l:=by unfold uJ;split<;>simp[h]
mutual
theorem JGQ: ∀(x:AV) (l:List Ent) (e:Ent),e∈l->e∈cF x l| .ptr b off,l,e,h=>ZQ e _ l h| .slr b i n,l,e,h=>ZQ e _ l h| .ep b g i off,l,e,h=>ZQ e _ l h| .fn f a c,l,e,h=>entsL_sub c _ e (entsL_sub a l e h)| .agg cs,l,e,h=>entsL_sub cs l e h| .tup cs,l,e,h=>entsL_sub cs l e h| .p _,l,e,h=>h| .data _,l,e,h=>h| .cp _ _,l,e,h=>h| .unk,l,e,h=>h| .pre _ _ _,l,e,h=>h
theorem entsL_sub: ∀(xs:List AV) (l:List Ent) (e:Ent),e∈l->e∈cF.entsOfL xs l|[],l,e,h=>h|x::r,l,e,h=>entsL_sub r _ e (JGQ x l e h)
end
theorem na{ws:List (Nat×Blk)}: ∀{r acc l:List Ent},(dU ws r acc).run st=some l-> ∀e∈acc,e∈l:=by
 intro r
 induction r with
 |nil=>intro acc l h e g;injection h with h;subst h;exact g
 |cons x r ih=>
  intro acc l h e g;cases x with
  |whole b=>
   simp only[dU]at h;obtain⟨y,_,h⟩:=bind_some h;cases y with
   |box cs=>exact ih h e (entsL_sub cs acc e g)
   |_=>exact ih h e g
  |elem b j i=>exact ih h e g
theorem oe{F:Orc}{f:FuncId}{xs:List AV}{ws:List (Nat×Blk)}{r o ids:List Nat}{n new:Nat}(w: ∀b∈ids,S b)(hw: ∀y∈ws,S y.1)(hn: ∀j,j<n->S (new+j))
  (z:cF.entsOfL xs []=r.map .whole) (h1:(dU ws (r.map .whole) (r.map .whole)).run st=some (o.map .whole)) (h2:(dU ws (o.map .whole) (o.map .whole)).run st=some (ids.map .whole)):
  Rb S (fD F f (xs,ws) n new) st/\(∀e,(fD F f (xs,ws) n new).run st=some e-> ∀y∈e.ws,S y.1):=by
 have s1: ∀b∈o,S b:=λb q=>by have:=na h2 (.whole b) (iV.2 ⟨b,q,rfl⟩);obtain⟨c,x,e⟩:=iV.1 this;injection e with e;subst e;exact w c x
 have s0: ∀b∈r,S b:=λb q=>by have:=na h1 (.whole b) (iV.2 ⟨b,q,rfl⟩);obtain⟨c,x,e⟩:=iV.1 this;injection e with e;subst e;exact s1 c x
 constructor;unfold fD;simp only[z];refine bG (YD s0) λa g=>?_;rw[h1]at g;injection g with g;subst g;refine bG (YD s1) λa g=>?_;rw[h2]at g;injection g with g;subst g;split;split;exact JO;refine bG (ov w) λbl _=>?_;split;exact JO;split;split;exact bG px λ_ _=>bJ _;exact JO;exact JO;exact JO;intro e h y k;unfold fD at h;simp only[z]at h;obtain⟨a,g,h⟩:=bind_some h;rw[h1]at g;injection g with g;subst g;obtain⟨a,g,h⟩:=bind_some h;rw[h2]at g;injection g with g;subst g;split at h;split at h;cases h;obtain⟨bl,_,h⟩:=bind_some h;split at h;cases h;split at h;rename_i hlen;split at h;rename_i v fresh _ B;obtain⟨A,q,h⟩:=bind_some h;injection h with h;subst h;simp only[zQ9]at k;rcases k with(k|k)|k;exact hw y k;exact w _ (pp q y k);obtain⟨j,C,e⟩:=dp B y k;rw[e];exact hn j (by simp only[pL,dX]at C hlen;omega);cases h;cases h;cases h
end
def tcR:TC->List Nat| .ptr b _=>[b]| .slr b=>[b]| .slo b _=>[b]| .ep b _ _=>[b]| .epo b _ _ _=>[b]| .pre b _=>[b]| .pro b _ _=>[b]| .suf b _=>[b]| .suo b _ _=>[b]|_=>[]
def tvR:TV->List Nat| .a (.c x)=>tcR x| .a (.m _ cs)=>cs.flatMap tcR|_=>[]
theorem JJW(L:Nat->Nat)(x:TC):dY (aT L x)=tcR x:=by cases x<;>rfl
theorem fL(L:Nat->Nat)(v:TV):avR (JZ L v)=tvR v:=by
 cases v with
 |a x=>
  cases x with
  |c x=>cases x<;>rfl
  |dt t x=>rfl
  |m t cs=>
   show(cs.map (aT L)).flatMap dY=cs.flatMap tcR;rw[List.flatMap_map]
   congr 1
   funext x;exact JJW L x
  |fn f a c=>rfl
 |tup vs=>rfl
def rng(new:Nat):Nat->List Nat|0=>[]|k+1=>new::rng (new+1) k
theorem qD: ∀{k new j:Nat},j<k->new+j∈rng new k
 |0,_,_,h=>by omega
 |k+1,new,j,h=>by
  cases j with
  |zero=>simp[rng]
  |succ j=>simp only[rng,dZ];right;rw[show new+(j+1)=new+1+j by omega];exact qD (by omega)
def fA{α β:Type}(m:Option α)(f:α->Option β):Option β:=match m with|some x=>f x|none=>none
theorem fE{α β:Type}{m:Option α}{f:α->Option β}{b:β}(h:fA m f=some b): ∃a,m=some a/\f a=some b:=by
 cases m with
 |none=>cases h
 |some a=>exact⟨a,rfl,h⟩
def gx(l:List (TV×Bool))(s:TSt):Option (List Nat):=FP l s λxs s1=>fA (BX xs []) λe=>fA (tS s1 e e) λi1=>tS s1 i1 i1
def tcU(l:List (TV×Bool))(n new:Nat)(s:TSt):Option (List Nat×List Nat):=fA (gx l s) λids=>some (rng new n++(l.flatMap λx=>tvR x.1)++ids,rng new n++(l.flatMap λx=>tvR x.1)++ids)
def tpR(s:TSt):List (Nat×TO)->Option (List Nat)|[]=>some []|(_,o)::r=>fA (tev o s) λv=>fA (tpR s r) λl=>some (tvR v++l)
def uw(op:TOp)(new:Nat)(s:TSt):Option (List Nat×List Nat):=
 match op with
 | .load _ _ x=>fA (tev x s) λv=>some (tvR v,[])
 | .newbox _=>some ([new],[new])
 | .store _ x y=>fA (tev x s) λv=>fA (tev y s) λu=>some (tvR v++tvR u,tvR v++tvR u)
 | .iaddr _ x _=>fA (tev x s) λv=>some (tvR v,[])
 | .lits own t n ps=>fA (tpR s ps) λl=>some (rng new (bT (.lits own t n ps))++l,rng new (bT (.lits own t n ps))++l)
 | .appn _ _ y=>fA (tev y s) λv=>some (new::tvR v,[new])
 | .app _ _ x y=>fA (tev x s) λv=>fA (tev y s) λu=>some (tvR v++tvR u,tvR v)
 | .appp _ _ x y=>fA (tev x s) λv=>fA (tev y s) λu=>some (tvR v++tvR u,tvR v)
 | .ppre _ x y=>fA (tev x s) λv=>some (tvR v,[])
 | .psuf _ x y=>fA (tev x s) λv=>some (tvR v,[])
 | .slice _ x _ _ _=>fA (tev x s) λv=>some (tvR v,tvR v)
 | .call _ args n=>fA (tM (args.map λx=>(x,false)) s) λl=>tcU l n new s
 | .callo _ args n=>fA (tM args s) λl=>tcU l n new s
 | .mkslice own t bytes l c=>some (rng new (bT (.mkslice own t bytes l c)),rng new (bT (.mkslice own t bytes l c)))
 | .conv k x=>fA (tev x s) λv=>some (rng new (bT (.conv k x))++tvR v,rng new (bT (.conv k x)))
 |_=>none
theorem jD{F:Orc}{op:TOp}{new:Nat}{st:St}{S:Nat->Prop}(hd: ∀j,j<bT op->S (new+j))(h:Rb S (opR F (erp op) new) st):Rb S (opD F (erp op) new) st:=by unfold opD;rw[HG];exact bG (lj hd) λ_ _=>h
theorem jH{F:Orc}{op:AOp}{new:Nat}{st:St}{e:Eff}(h:(opD F op new).run st=some e):(opR F op new).run st=some e:=by unfold opD at h;obtain⟨_,_,h⟩:=bind_some h;exact h
def UW(F:Orc)(op:AOp)(new:Nat)(st:St)(U W:List Nat):Prop:=Rb (· ∈U) (opD F op new) st/\ ∀e,(opD F op new).run st=some e-> ∀y∈e.ws,y.1∈W
theorem gJ{x:TO}{s:TSt}{v:TV}(h:tev x s=some v){a:AV}(ha:(ev (erO x)).run (Ju s)=some a):a=JZ (lns s.sto) v:=by rw[bM h]at ha;injection ha with ha;exact ha.symm
theorem Ct{l:List (TV×Bool)}{s:TSt}{ids:List Nat}(h:gx l s=some ids): ∃(xs:List AV) (ws:List (Nat×Blk)) (e i1:List Nat),(eW (l.map (·.2)) (l.map λx=>JZ (lns s.sto) x.1)).run (Ju s)=some (xs,ws)/\
  cF.entsOfL xs []=e.map .whole/\(dU ws (e.map .whole) (e.map .whole)).run (Ju s)=some (i1.map .whole)/\(dU ws (i1.map .whole) (i1.map .whole)).run (Ju s)=some (ids.map .whole):=by
 unfold gx at h;obtain⟨xs,s1,ws,h1,g,h⟩:=ZB (Fzd.refl s) h;rw[wO]at g;obtain⟨e,h2,h⟩:=fE h;obtain⟨i1,k,j⟩:=fE h;exact⟨_,ws,e,i1,h1,OP (lns s.sto) (l:=[]) h2,xV g k,xV g j⟩
theorem JGB{F:Orc}{f:FuncId}{vs:List AV}{n new:Nat}{st:St}{S:Nat->Prop}{a:List AV×List (Nat×Blk)}(ha:(jA vs).run st=some a)(hr:Rb S (jA vs) st)
  (h: ∀(_:Unit),Rb S (fD F f a n new) st):Rb S (gV F f vs n new) st:=by
 unfold gV;refine bG hr λo j=>?_;rw[ha]at j;injection j with j;subst j;have h:=h ();unfold fD at h;intro b g;refine h b ?_
 revert g
 simp only[vD];intro g;rcases zQ9.1 g with g|g;exact zQ9.2 (.inl g);refine zQ9.2 (.inr ?_)
 revert g
 cases(dU a.2 (cF.entsOfL a.1 []) (cF.entsOfL a.1 [])).run st with
 |none=>intro g;exact g
 |some k=>
  simp only[cE,Option.getD_some,vD];intro g;rcases zQ9.1 g with g|g;exact zQ9.2 (.inl g);refine zQ9.2 (.inr ?_)
  revert g
  cases(dU a.2 k k).run st with
  |none=>intro g;exact g
  |some es=>
   simp only[cE,Option.getD_some];split;split;intro g;exact g;simp only[vD];intro g;rcases zQ9.1 g with g|g;exact zQ9.2 (.inl g);refine zQ9.2 (.inr ?_)
   revert g
   cases(jG a.2 (λe=>cW e es 0) es).run st with
   |none=>intro g;exact g
   |some bl=>
    simp only[cE,Option.getD_some];split;intro g;exact g;split;rename_i hlen;rw[if_pos (by omega)];intro g;exact g;intro g;simp[RM.reads]at g
   intro g;exact g
theorem Zz(F:Orc){op:TOp}{new:Nat}{s:TSt}{U W:List Nat}(h:uw op new s=some (U,W)):UW F (erp op) new (Ju s) U W:=by
 unfold uw at h;split at h;rename_i agg t x;obtain⟨v,C,h⟩:=fE h;injection h with h;injection h with h1 h2;subst h1 h2;refine⟨jD (op:=.load agg t x) (λj B=>by simp[bT]at B) (bG (fI _) λa r=>?_),λe g y A=>?_⟩;rw[gJ C r];exact JI4 λb w=>by rw[fL]at w;exact w
 have g:=jH g;simp only[erp,opR]at g;obtain⟨a,r,g⟩:=bind_some g;rw[JHT g]at A;simp at A;rename_i t;injection h with h;injection h with h1 h2;subst h1 h2;refine⟨jD (op:=.newbox t) (λj B=>by simp[bT]at B;subst B;simp) (bJ _),λe g y A=>?_⟩;have g:=jH g;injection g with g;subst g;simp only[pK]at A;subst A;simp;rename_i t x y;obtain⟨v,C,h⟩:=fE h;obtain⟨u,K,h⟩:=fE h;injection h with h;injection h with h1 h2;subst h1 h2;refine⟨jD (op:=.store t x y) (λj B=>by simp[bT]at B) (bG (fI _) λa r=>bG (fI _) λc E=>?_),λe g z D=>?_⟩;rw[gJ C r,gJ K E];exact JGy (λb w=>by rw[fL]at w;simp[w]) (λb w=>by rw[fL]at w;simp[w]);have g:=jH g;simp only[erp,opR]at g;obtain⟨a,r,g⟩:=bind_some g;obtain⟨c,E,g⟩:=bind_some g;have:=JH8 g z D;rwa[gJ C r,gJ K E,fL,fL]at this;rename_i t x i;obtain⟨v,C,h⟩:=fE h;injection h with h;injection h with h1 h2;subst h1 h2;refine⟨jD (op:=.iaddr t x i) (λj B=>by simp[bT]at B) (bG (fI _) λa r=>bG (fI _) λc E=>?_),λe g y A=>?_⟩;rw[gJ C r];exact JEQ λb w=>by rw[fL]at w;exact w
 have g:=jH g;simp only[erp,opR]at g;obtain⟨a,r,g⟩:=bind_some g;obtain⟨c,E,g⟩:=bind_some g;rw[JH3 g]at A;simp at A;rename_i own t n ps;obtain⟨l,H,h⟩:=fE h;injection h with h;injection h with h1 h2;subst h1 h2;have Q: ∀x∈ps.map (λx=>erO x.2),∀v,(ev x).run (Ju s)=some v-> ∀b∈avR v,b∈rng new (bT (.lits own t n ps))++l:=by
  have Y: ∀(ps:List (Nat×TO)) (l:List Nat),tpR s ps=some l-> ∀x∈ps.map (λx=>erO x.2),∀v,(ev x).run (Ju s)=some v-> ∀b∈avR v,b∈l:=by
   intro ps
   induction ps with
   |nil=>intro l _ x G;simp at G
   |cons p ps ih=>
    intro l H x G v C b w;obtain⟨i,o⟩:=p;simp only[tpR]at H;obtain⟨u,K,H⟩:=fE H;obtain⟨q,hq,H⟩:=fE H;injection H with H;subst H;simp only[bP,dZ]at G;rcases G with rfl|G;rw[gJ K C,fL]at w;simp[w];simp[ih q hq x G v C b w]
  intro x G v C b w;exact zQ9.2 (.inr (Y ps l H x G v C b w))
 have J:(ps.map λx=>(x.1,erO x.2)).map (·.2)=ps.map λx=>erO x.2:=by simp
 refine⟨jD (op:=.lits own t n ps) (λj B=>zQ9.2 (.inl (qD B))) ?_,λe g y A=>?_⟩;simp only[erp,opR,J];refine bG (A8 Q) λa _=>?_;split;split<;>exact bJ _
 exact JO;have g:=jH g;simp only[erp,opR,J]at g;obtain⟨a,r,g⟩:=bind_some g;split at g;split at g;rename_i M;injection g with g;subst g;simp only[zQ9,pK]at A;rcases A with A|rfl;exact XF Q r y A;exact zQ9.2 (.inl (by have:=qD (k:=bT (.lits own t n ps)) (new:=new) (j:=0) (by simp[bT,M]);simpa using this));injection g with g;subst g;exact XF Q r y A;cases g;rename_i t bytes y;obtain⟨v,C,h⟩:=fE h;injection h with h;injection h with h1 h2;subst h1 h2;refine⟨jD (op:=.appn t bytes y) (λj B=>by simp[bT]at B;subst B;simp) (bG (fI _) λa r=>?_),λe g z D=>?_⟩;rw[gJ C r];refine bG (NS λb w=>by rw[fL]at w;simp[w]) λrows _=>?_;split<;>first|exact bJ _|exact JO
 have g:=jH g;simp only[erp,opR]at g;obtain⟨a,r,g⟩:=bind_some g;obtain⟨rows,_,g⟩:=bind_some g;split at g;injection g with g;subst g;simp only[pK]at D;subst D;simp;cases g;rename_i t bytes x y;obtain⟨v,C,h⟩:=fE h;obtain⟨u,K,h⟩:=fE h;injection h with h;injection h with h1 h2;subst h1 h2;refine⟨jD (op:=.app t bytes x y) (λj B=>by simp[bT]at B) (bG (fI _) λa r=>bG (fI _) λc E=>?_),λe g z D=>?_⟩;rw[gJ C r,gJ K E];exact JKs (λb w=>by rw[fL]at w;simp[w]) (λb w=>by rw[fL]at w;simp[w]);have g:=jH g;simp only[erp,opR]at g;obtain⟨a,r,g⟩:=bind_some g;obtain⟨c,E,g⟩:=bind_some g;have:=JJp g z D;rwa[gJ C r,fL]at this;rename_i t bytes x y;obtain⟨v,C,h⟩:=fE h;obtain⟨u,K,h⟩:=fE h;injection h with h;injection h with h1 h2;subst h1 h2;refine⟨jD (op:=.appp t bytes x y) (λj B=>by simp[bT]at B) (bG (fI _) λa r=>bG (fI _) λc E=>?_),λe g z D=>?_⟩;rw[gJ C r,gJ K E];exact JJz (λb w=>by rw[fL]at w;simp[w]) (λb w=>by rw[fL]at w;simp[w]);have g:=jH g;simp only[erp,opR]at g;obtain⟨a,r,g⟩:=bind_some g;obtain⟨c,E,g⟩:=bind_some g;have:=JJY g z D;rwa[gJ C r,fL]at this;rename_i t x y;obtain⟨v,C,h⟩:=fE h;injection h with h;injection h with h1 h2;subst h1 h2;refine⟨jD (op:=.ppre t x y) (λj B=>by simp[bT]at B) (bG (fI _) λa r=>bG (fI _) λc E=>?_),λe g z D=>?_⟩;rw[gJ C r];exact JKD (λb w=>by rw[fL]at w;simp[w]);have g:=jH g;simp only[erp,opR]at g;obtain⟨a,r,g⟩:=bind_some g;obtain⟨c,E,g⟩:=bind_some g;rw[JK5 g]at D;cases D;rename_i t x y;obtain⟨v,C,h⟩:=fE h;injection h with h;injection h with h1 h2;subst h1 h2;refine⟨jD (op:=.psuf t x y) (λj B=>by simp[bT]at B) (bG (fI _) λa r=>bG (fI _) λc E=>?_),λe g z D=>?_⟩;rw[gJ C r];exact JKG (λb w=>by rw[fL]at w;simp[w]);have g:=jH g;simp only[erp,opR]at g;obtain⟨a,r,g⟩:=bind_some g;obtain⟨c,E,g⟩:=bind_some g;rw[JJs g]at D;cases D;rename_i kd x lo hi mx;obtain⟨v,C,h⟩:=fE h;injection h with h;injection h with h1 h2;subst h1 h2;refine⟨jD (op:=.slice kd x lo hi mx) (λj B=>by simp[bT]at B) (bG (fI _) λa r=>bG (WC _) λ_ _=>bG (WC _) λ_ _=>bG (WC _) λ_ _=>?_),λe g z D=>?_⟩;have e:=gJ C r;split;refine bG (FZ λb w=>?_) λy _=>?_;rw[e,fL]at w;exact w;split;split<;>first|exact bJ _|exact JO
 exact JO;exact MZ _;have g:=jH g;simp only[erp,opR]at g;obtain⟨a,r,g⟩:=bind_some g;obtain⟨_,_,g⟩:=bind_some g;obtain⟨_,_,g⟩:=bind_some g;obtain⟨_,_,g⟩:=bind_some g;have e0:=gJ C r;split at g;obtain⟨y,A,g⟩:=bind_some g;split at g;split at g;injection g with g;subst g;have:=FQ A z D;rwa[e0,fL]at this;cases g;cases g;rw[MU g]at D;simp at D;rename_i f args n;obtain⟨l,H,h⟩:=fE h;unfold tcU at h;obtain⟨ids,hi,h⟩:=fE h;injection h with h;injection h with h1 h2;subst h1 h2;obtain⟨xs,ws,i0,i1,I,V,R,P⟩:=Ct hi;obtain⟨J,T⟩:=xP H;rw[OE]at J;rw[IS _ _ (λx G=>by rw[T,wF]at G;obtain⟨y,_,rfl⟩:=iV.1 G;rfl)]at I;have hA: ∀x∈l.map (λx=>JZ (lns s.sto) x.1),∀b∈avR x,b∈rng new n++(l.flatMap λx=>tvR x.1)++ids:=by intro x G b w;obtain⟨y,A,rfl⟩:=iV.1 G;rw[fL]at w;simp only[zQ9];exact .inl (.inr (List.mem_flatMap.2 ⟨y,A,w⟩))
 have Z:Rb (· ∈rng new n++(l.flatMap λx=>tvR x.1)++ids) (jA (l.map λx=>JZ (lns s.sto) x.1)) (Ju s):=by rw[<-PK];exact IB hA
 have L: ∀y∈ws,y.1∈rng new n++(l.flatMap λx=>tvR x.1)++ids:=by rw[<-PK]at I;exact ID (S:=(· ∈rng new n++(l.flatMap λx=>tvR x.1)++ids)) hA I
 obtain⟨N,O⟩:=oe (F:=F) (f:=f) (S:=(· ∈rng new n++(l.flatMap λx=>tvR x.1)++ids)) (n:=n) (new:=new) (λb w=>by simp[w]) L
  (λj B=>by simp only[zQ9];exact .inl (.inl (qD B))) V R P
 refine⟨jD (op:=.call f args n) (λj B=>by simp only[zQ9];exact .inl (.inl (qD B))) (bG (XI _) λa r=>?_),λe g y A=>?_⟩;rw[J]at r;injection r with r;subst r;exact JGB I Z λ_=>N;have g:=jH g;simp only[erp,opR]at g;obtain⟨a,r,g⟩:=bind_some g;rw[J]at r;injection r with r;subst r;obtain⟨ar,h1,h2⟩:=B6 g;rw[I]at h1;injection h1 with h1;subst h1;exact O e h2 y A;rename_i f args n;obtain⟨l,H,h⟩:=fE h;unfold tcU at h;obtain⟨ids,hi,h⟩:=fE h;injection h with h;injection h with h1 h2;subst h1 h2;obtain⟨xs,ws,i0,i1,I,V,R,P⟩:=Ct hi;obtain⟨J,T⟩:=xP H;have hA: ∀x∈l.map (λx=>JZ (lns s.sto) x.1),∀b∈avR x,b∈rng new n++(l.flatMap λx=>tvR x.1)++ids:=by intro x G b w;obtain⟨y,A,rfl⟩:=iV.1 G;rw[fL]at w;simp only[zQ9];exact .inl (.inr (List.mem_flatMap.2 ⟨y,A,w⟩))
 rw[T]at I;have L: ∀y∈ws,y.1∈rng new n++(l.flatMap λx=>tvR x.1)++ids:=ID (S:=(· ∈rng new n++(l.flatMap λx=>tvR x.1)++ids)) hA I;obtain⟨N,O⟩:=oe (F:=F) (f:=f) (S:=(· ∈rng new n++(l.flatMap λx=>tvR x.1)++ids)) (n:=n) (new:=new) (λb w=>by simp[w]) L
  (λj B=>by simp only[zQ9];exact .inl (.inl (qD B))) V R P
 refine⟨jD (op:=.callo f args n) (λj B=>by simp only[zQ9];exact .inl (.inl (qD B))) (bG (XI _) λa r=>?_),λe g y A=>?_⟩;rw[J]at r;injection r with r;subst r;refine bG (IB hA) λa r=>?_;rw[I]at r;injection r with r;subst r;exact N;have g:=jH g;simp only[erp,opR]at g;obtain⟨a,r,g⟩:=bind_some g;rw[J]at r;injection r with r;subst r;obtain⟨a,r,g⟩:=bind_some g;rw[I]at r;injection r with r;subst r;exact O e g y A;rename_i own t bytes l c;injection h with h;injection h with h1 h2;subst h1 h2;refine⟨jD (op:=.mkslice own t bytes l c) (λj B=>qD B) (bG (fI _) λa r=>bG (fI _) λd hd=>?_),λe g y A=>?_⟩;split;split;split<;>exact bJ _
 exact JO;exact JO;have g:=jH g;simp only[erp,opR]at g;obtain⟨a,r,g⟩:=bind_some g;obtain⟨d,hd,g⟩:=bind_some g;split at g;split at g;split at g;rename_i M;injection g with g;subst g;simp only[pK]at A;subst A;have:=qD (k:=bT (.mkslice own t bytes l c)) (new:=new) (j:=0) (by simp[bT,M]);simpa using this;injection g with g;subst g;simp at A;cases g;cases g;rename_i k x;obtain⟨v,C,h⟩:=fE h;injection h with h;injection h with h1 h2;subst h1 h2;refine⟨jD (op:=.conv k x) (λj B=>zQ9.2 (.inl (qD B))) (bG (fI _) λa r=>?_),λe g y A=>?_⟩;have hr: ∀b∈avR a,b∈rng new (bT (.conv k x))++tvR v:=λb w=>by rw[gJ C r,fL]at w;simp[w]
 split;exact bJ _;exact bJ _;refine bG (NS hr) λrows _=>?_;split<;>first|exact bJ _|exact JO
 split<;>exact bJ _
 exact JO;have g:=jH g;simp only[erp,opR]at g;obtain⟨a,r,g⟩:=bind_some g;split at g;injection g with g;subst g;simp at A;injection g with g;subst g;simp at A;obtain⟨rows,_,g⟩:=bind_some g;split at g;injection g with g;subst g;simp at A;cases g;split at g;rename_i M;injection g with g;subst g;simp only[pK]at A;subst A;simp[bT,M,rng];injection g with g;subst g;simp at A;cases g;cases h
abbrev nM:=Option (List Nat×List Nat)
section
variable {R:Type}
def yj(i:iB)(s:TSt):Bool:=match i.g with|none=>false|some (g,e)=>if i.dst=some g then false else match tlk g s.env with|some (.a (.c (.d .b x)))=>if x=e then false else true|some (.tup [])=>true|_=>false
def uwI(i:iB)(new:Nat)(s s':TSt):nM:=if yj i s'=true then some ([],[])else uw i.op new s
def LK(G:TG):List iB->Nat->TSt->List nM->(TSt->List nM->Option R)->Option R|[],_,s,l,k=>k s l|i::r,new,s,l,k=>QW G i new s λs'=>LK G r (new+bT i.op) s' (l++[uwI i new s s']) k
def rM:nM->(List Nat×List Nat)->Prop|none,_=>True|some (U,W),x=>(∀b∈x.1,b∈U)/\ ∀b∈x.2,b∈W
def LX(l:List nM):List (Nat×Nat)->Bool
 |[]=>true
 |(i,j)::r=>(match l[i]?,l[j]? with
  |some (some a),some (some b)=>fR a.2 b.1&&fR a.2 b.2&&fR a.1 b.2
  |_,_=>false)&&LX l r
theorem IL{b:Nat}: ∀{l:List Loc},b∈iM l->Loc.blk b∈l
 | .blk c::r,h=>by
  simp only[iM,dZ]at h;rcases h with rfl|h;simp;simp[IL h]
 | .slot n::r,h=>by simp only[iM]at h;simp[IL h]
theorem rM.snoc{l:List nM}{l0:Log}{x:nM}{y:List Nat×List Nat}(hl:l.length=l0.length)(ho: ∀(j:Nat) a b,l[j]?=some a->l0[j]?=some b->rM a b)(hx:rM x y)(j:Nat)(a:nM)(b:List Nat×List Nat)(ha:(l++[x])[j]?=some a)(hb:(l0++[y])[j]?=some b):rM a b:=by
 rcases zQ3 j l.length with g|g;rw[AR g]at ha;rw[AR (by omega)]at hb;exact ho j a b ha hb;rw[pH g]at ha;rw[pH (by omega)]at hb;have e:j-l.length=0:=by have:=Jq ha;simp at this;omega
 rw[e]at ha;rw[<-hl,e]at hb;simp at ha hb;subst ha hb;exact hx
theorem JIx{F:Orc}{i:iB}{new:Nat}{s s':TSt}{e:Eff}(h:(bW F (eri i) new).run (Ju s)=some e)(hp:put i.dst e (Ju s)=Ju s'):rM (uwI i new s s') (iM ((bW F (eri i) new).reads (Ju s)),e.ws.map (·.1)):=by
 unfold uwI;split;rename_i k;unfold yj at k;split at k;cases k;rename_i g o D;split at k;cases k;rename_i H;have C:lk g (Ju s').env=lk g (Ju s).env:=(by rw[<-hp];unfold put;split;rename_i d B;show lk g ((d,e.val)::(Ju s).env)=_;simp only[lk];rw[if_neg (λG=>H (by rw[B,G]))];rfl);have r: ∀v,tlk g s'.env=some v->lk g (Ju s).env=some (JZ (lns s'.sto) v):=λv z=>by rw[<-C];show lk g (fC _ s'.env)=_;rw[xH,z];rfl
 split at k;rename_i x w;split at k;cases k;rename_i E;have n:=r _ w;rw[e_b]at n;have hi:bW F (eri i) new=.slot g fun
  | .p (.b x)=>if x=o then opD F (eri i).op new else .ret ⟨fX,[]⟩
  | .tup []=>.ret ⟨fX,[]⟩
  |_=>.fail:=by unfold bW;rw[show(eri i).g=i.g from rfl,D];rfl
 rw[hi]at h⊢;refine⟨λb j=>?_,λb j=>?_⟩;have:=IL j;simp only[RM.reads,n,dZ,if_neg E]at this;rcases this with this|this;cases this;simp at this;simp only[uU,n,Jy,if_neg E,JV]at h;injection h with h;subst h;exact j;rename_i w;have n:=r _ w;have n:lk g (Ju s).env=some (.tup []):=n;have hi:bW F (eri i) new=.slot g fun
  | .p (.b x)=>if x=o then opD F (eri i).op new else .ret ⟨fX,[]⟩
  | .tup []=>.ret ⟨fX,[]⟩
  |_=>.fail:=by unfold bW;rw[show(eri i).g=i.g from rfl,D];rfl
 rw[hi]at h⊢;refine⟨λb j=>?_,λb j=>?_⟩;have:=IL j;simp only[RM.reads,n,dZ]at this;rcases this with this|this;cases this;simp at this;simp only[uU,n,Jy,JV]at h;injection h with h;subst h;exact j;cases k;cases hu:uw i.op new s with
 |none=>trivial
 |some A=>
  obtain⟨U,W⟩:=A;obtain⟨h1,h2⟩:=Zz F hu;have I:Rb (· ∈U) (bW F (eri i) new) (Ju s):=(by unfold bW;split;exact h1;refine ln λv z=>?_;split;split;exact h1;exact bJ _;exact bJ _;exact JO);refine⟨λb j=>I b (IL j),λb j=>?_⟩;obtain⟨y,q,rfl⟩:=iV.1 j;unfold bW at h;split at h;exact h2 e h y q;simp only[uU]at h;obtain⟨v,z,h⟩:=bL.1 h;split at h;split at h;exact h2 e h y q;injection h with h;subst h;simp at q;injection h with h;subst h;simp at q;cases h
theorem mn{F:Orc}{G:TG}(w:GOk F G): ∀{ins:List iB} {new:Nat} {s:TSt} {l:List nM} {l0:Log} {k:TSt->List nM->Option R} {r:R},l.length=l0.length->(∀(j:Nat) a b,l[j]?=some a->l0[j]?=some b->rM a b)->
  LK G ins new s l k=some r-> ∃s' n g,iK F (ins.map eri) new (Ju s) l0=some (Ju s',n)/\k s' g=some r/\g.length=n.length/\ ∀(j:Nat) a b,g[j]?=some a->n[j]?=some b->rM a b
 |[],new,s,l,l0,k,r,o,v,h=>⟨s,l0,l,rfl,h,o,v⟩
 |i::q,new,s,l,l0,k,r,o,v,h=>by simp only[LK]at h;obtain⟨e,s1,h1,h2,h⟩:=lf w h;obtain⟨x,n,g,B,z,A,y⟩:=mn w (l0:=l0++[(iM ((bW F (eri i) new).reads (Ju s)),e.ws.map (·.1))]) (by rw[nG,nG,o];rfl) (rM.snoc o v (JIx h1 h2)) h;refine⟨x,n,g,?_,z,A,y⟩;simp only[bP,iK,h1];rw[show put (eri i).dst e (Ju s)=Ju s1 from h2,show jT (eri i).op=bT i.op from HG _,B]
theorem ZK{a b e g:List Nat}(h:fR e g=true)(ha: ∀x∈a,x∈e)(hb: ∀x∈b,x∈g):fR a b=true:=by unfold fR at h⊢;rw[QV]at h⊢;intro x k;have:=h x (ha x k);simp only[kR,List.contains_eq_mem,decide_eq_false_iff_not]at this⊢;exact λj=>this (hb x j)
theorem mj{l:List nM}{e:Log}(hl:l.length=e.length)(ho: ∀(j:Nat) a b,l[j]?=some a->e[j]?=some b->rM a b): ∀{ps:List (Nat×Nat)},LX l ps=true->CL e ps=true
 |[],_=>rfl
 |(i,j)::r,h=>by
  simp only[LX,JW]at h;obtain⟨h1,h2⟩:=h;simp only[CL,JW];refine⟨?_,mj hl ho h2⟩;split at h1;rename_i a b o q;have hi:i<e.length:=by have:=Jq o;omega
  have n:j<e.length:=by have:=Jq q;omega
  have g:=ho i _ _ o (aQ hi);have k:=ho j _ _ q (aQ n);rw[aQ hi,aQ n];simp only[JW]at h1⊢;exact⟨⟨ZK h1.1.1 g.2 k.1,ZK h1.1.2 g.2 k.2⟩,ZK h1.2 g.1 k.2⟩;cases h1
def g8(G:TG)(pairs:List (Nat×Nat))(ins:List iB)(s:TSt)(k:TSt->Option R):Option R:=
 match pairs with
 |[]=>SP G ins s.sto.length (MB (GI ins) s) k
 |p::ps=>LK G ins s.sto.length (MB (GI ins) s) [] λs' l=>if LX l (p::ps)=true then k s' else none
theorem JIE{F:Orc}{G:TG}(e:GOk F G){pairs:List (Nat×Nat)}{ins:List iB}{s:TSt}{k:TSt->Option R}{r:R}(h:g8 G pairs ins s k=some r): ∃s',region F pairs (ins.map eri) (Ju s)=some (Ju s')/\k s'=some r:=by
 have hlen:(Ju s).sto.length=s.sto.length:=by simp[Ju]
 unfold g8 at h;split at h;obtain⟨s',h1,h2⟩:=B9 e h;refine⟨s',?_,h2⟩;simp only[region,ZL];rw[m5]at h1;rw[hlen];exact h1;obtain⟨s',w,v,h1,h2,o,g⟩:=mn e (l0:=[]) rfl (λj a b q x=>by simp at q) h;split at h2;rename_i n;refine⟨s',?_,h2⟩;simp only[region,ZL];rw[m5]at h1;rw[hlen,h1];simp only[mj o g n,if_true];cases h2
end
end Go.Am
end
