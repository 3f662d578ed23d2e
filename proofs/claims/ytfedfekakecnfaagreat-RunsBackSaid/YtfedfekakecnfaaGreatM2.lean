/-
  Parts of a proof.
-/
import Derived.Orders
import Derived.LoopN
import Derived.Scope
import Derived.Below
import Derived.Test.YtfedfekakecnfaaGreatM1
set_option linter.unusedSimpArgs false
set_option linter.unusedVariables false
section
namespace Go.Am
def oX(s1:Sn)(es:List Ent)(new:Nat)(σ2:List Blk)(k:Nat)(y:Blk):Prop:=
 match es[k]? with
 |some (.whole b)=>(∃cs l,y=.box cs/\bk.bkL es new cs=some l/\σ2[b]?=some (.box l))\/(∃w esz rows,y=.arr w esz rows/\σ2[b]?=some (.arr w esz rows))
 |some (.elem b _ i)=> ∃w esz rows e,s1.σ[b]?=some (.arr w esz rows)/\y=.box (e.map .p)/\σ2[b]?=some (.arr w esz (rows.set i e))
 |none=>(∃cs l,y=.box cs/\bk.bkL es new cs=some l/\σ2[new+(k-es.length)]?=some (.box l))\/(∃w esz rows,y=.arr w esz rows/\σ2[new+(k-es.length)]?=some (.arr w esz rows))
structure De(s1:Sn)(es:List Ent)(blks:List Blk)(new kf:Nat)(c':Sn)(σ2:List Blk):Prop where
 cin:YH s1 es blks
 inv:Inv c'
 trans:aZ (hC s1 es blks) c'
 len:c'.σ.length=es.length+kf
 slen:σ2.length=s1.σ.length
 dead: ∀j,j<kf->s1.σ[new+j]?=some .dead
 out: ∀k y,c'.σ[k]?=some y->oX s1 es new σ2 k y
 same: ∀b,b∉es.map Ent.id->(b<new\/new+kf<=b)->σ2[b]?=s1.σ[b]?
def kOf(es:List Ent)(new kf b:Nat):Option Nat:=
 match dG (.whole b) es 0 with
 |some k=>some k
 |none=>if new<=b/\b<new+kf/\b∉es.map Ent.id then some (es.length+(b-new))else none
def fD(s1:Sn)(es:List Ent)(new kf:Nat)(c':Sn)(σ2:List Blk):Sn:=
 ⟨σ2,⟨λb=>match kOf es new kf b with
  |some k=>c'.g.μ k
  |none=>s1.g.μ b,c'.g.C⟩,c'.w⟩
theorem q8{e:Ent}: ∀{es:List Ent} {k:Nat},dG e es k=none->e∉es
 |[],k,_=>by simp
 |x::r,k,h=>by
  simp only[dG]at h;split at h;cases h;rename_i g;simp only[eJ,not_or];exact⟨λe=>g e.symm,q8 h⟩
section
variable {s1 c':Sn} {es:List Ent} {blks σ2:List Blk} {new kf:Nat} (h:De s1 es blks new kf c' σ2)
theorem NM{k:Nat}{e:Ent}(he:es[k]?=some e):e.id∈es.map Ent.id:=jF.2 ⟨e,gL he,rfl⟩
include h in
theorem CY{e g:Nat}{e1 e2:Ent}(h1:es[e]?=some e1)(h2:es[g]?=some e2)(he:e1.id=e2.id):e=g:=
 QH h.cin.nodup (x:=e1.id) (by simp_all) (by simp_all)
include h in
theorem JIL{k:Nat}{e:Ent}(he:es[k]?=some e): ∃y,s1.σ[e.id]?=some y/\y≠.dead:=by
 obtain⟨x,_,g⟩:=qY h.cin he;cases e with
 |whole b=>
  rcases g with⟨cs',l,h1,h2,rfl⟩|⟨w,j,rows',h1,rfl⟩;exact⟨_,h1,by simp⟩;exact⟨_,h1,by simp⟩
 |elem b ext i=>obtain⟨j,rows',row,h1,h2,n,rfl⟩:=g;exact⟨_,h1,by simp⟩
include h in
theorem JG9{j:Nat}(hj:j<kf):new+j∉es.map Ent.id:=by intro n;obtain⟨e,q,g⟩:=jF.1 n;obtain⟨k,o⟩:=lZ q;obtain⟨y,r,v⟩:=JIL h o;rw[g,h.dead j hj]at r;simp_all
include h in
theorem JEH{k b:Nat}(he:es[k]?=some (.whole b)):kOf es new kf b=some k:=by
 unfold kOf;cases hc:dG (.whole b) es 0 with
 |none=>exact absurd (gL he) (q8 hc)
 |some g=>
  obtain⟨_,e⟩:=wG hc;grind [CY]
include h in
theorem JHP{k b e i:Nat}(he:es[k]?=some (.elem b e i)):kOf es new kf b=none:=by
 unfold kOf;cases hc:dG (.whole b) es 0 with
 |some j=>obtain⟨_,g⟩:=wG hc;simp only[uN]at g;have:=CY h g he rfl;simp_all
 |none=>have:b∈es.map Ent.id:=NM he;simp[this]
include h in
theorem JEZ{j:Nat}(hj:j<kf):kOf es new kf (new+j)=some (es.length+j):=by
 unfold kOf;have g:=JG9 h hj;cases hc:dG (.whole (new+j)) es 0 with
 |some k=>obtain⟨_,e⟩:=wG hc;simp only[uN]at e;exact absurd (NM e) g
 |none=>simp_all
theorem PX{b:Nat}(h1:b∉es.map Ent.id)(h2:b<new\/new+kf<=b):kOf es new kf b=none:=by
 unfold kOf;cases hc:dG (.whole b) es 0 with
 |some g=>obtain⟨_,e⟩:=wG hc;simp only[uN]at e;exact absurd (NM e) h1
 |none=>
  grind
def tgt(es:List Ent)(new k:Nat):Nat:=match es[k]? with|some e=>e.id|none=>new+(k-es.length)
include h in
theorem nM{k:Nat}(hk:k<es.length+kf)(j: ∀b e i,es[k]?≠some (.elem b e i)):(fD s1 es new kf c' σ2).g.μ (tgt es new k)=c'.g.μ k:=by
 simp only[fD,tgt];cases he:es[k]? with
 |some e=>
  cases e with
  |whole b=>simp only[Ent.id];rw[JEH h he]
  |elem b e i=>simp_all
 |none=>
  grind [JEZ]
include h in
theorem DM{k b ext i:Nat}(he:es[k]?=some (.elem b ext i)): ∃esz rows row r j,s1.σ[b]?=some (.arr true esz rows)/\ext=rows.length/\rows[i]?=some row/\s1.g.μ b=some (r,0)/\
  c'.σ[k]?=some (.box (j.map .p))/\j.length=row.length/\row.length=esz/\c'.g.μ k=some (r,i*esz)/\σ2[b]?=some (.arr true esz (rows.set i j))/\(fD s1 es new kf c' σ2).g.μ b=some (r,0):=by
 obtain⟨x,B,q⟩:=qY h.cin he;obtain⟨esz,rows,row,h1,h2,A,rfl⟩:=q;have D:=Jq A;rcases h.cin.inv.arr _ _ _ _ h1 with⟨C,K⟩|⟨r,c,e,fz,C,J,y,hl,F,E⟩;simp_all;obtain⟨⟨cs',z,L⟩,I⟩:=h.trans.box k _ B;have o:=h.out k _ z;unfold oX at o;rw[he]at o;obtain⟨w,v,rows',j,n,G,H⟩:=o;rw[h1]at n;injection n with n;injection n with a1 a2 a3;subst a1 a2 a3;grind [QA,fD,JHP]
include h in
theorem Er{x y:AV}{v:Value}(hr:JJ c' x v):bk es new x=some y->JJ (fD s1 es new kf c' σ2) y v:=by
 have F: ∀{k:Nat} {z:Blk},c'.σ[k]?=some z->k<es.length+kf:=λhz=>by rw[<-h.len];grind
 induction hr generalizing y with
 |p c v hp=>intro hf;simp[bk]at hf;subst hf;exact .p _ _ hp
 |data cs vs h1 h2=>intro hf;simp[bk]at hf;subst hf;exact .data _ _ h1 h2
 |cp cs off r o vals Y U=>intro hf;simp[bk]at hf;subst hf;exact .cp cs off r o vals Y U
 |unk x=>intro hf;simp[bk]at hf;subst hf;exact .unk x
 |pre=>intro hf;simp[bk]at hf
 |agg cs vs h1 J h2 ih=>
  intro hf;simp only[bk]at hf;split at hf;rename_i l hl;injection hf with hf;subst hf;obtain⟨S,R⟩:=tH hl;refine .agg _ _ (by omega) J λi y v P G=>?_;grind [Jq];cases hf
 |tup cs vs h1 h2 ih=>
  intro hf;simp only[bk]at hf;split at hf;rename_i l hl;injection hf with hf;subst hf;obtain⟨S,R⟩:=tH hl;refine .tup _ _ (by omega) λi y v P G=>?_;grind [Jq];cases hf
 |ptr k off r o hm A=>
  intro hf;obtain⟨cs,A⟩:=A;have E:=F A;have C:=h.out k _ A;unfold oX at C;simp only[bk]at hf;split at hf;rename_i H;have a8:es[k]?=some es[k]:=aS H;split at hf;rename_i b j;injection hf with hf;subst hf;have B:=nM h E (by rw[j];simp);simp only[tgt,j,Ent.id]at B;rw[j]at C;rcases C with⟨cs',l,D,L,Q⟩|⟨w,esz,rows,D,L⟩;exact .ptr b off r o (by simp_all) ⟨l,Q⟩;cases D;rename_i b e i j;injection hf with hf;subst hf;obtain⟨esz,rows,row,r',N,f1,V,f3,f4,f5,f6,f7,K,W,T⟩:=DM h j;rw[hm]at K;injection K with K;injection K with g1 g2;subst g1 g2;exact .ep b e i off _ true esz (rows.set i N) ⟨_,_,rfl⟩ W (by simp[V]) λ_ _=>⟨r,T,rfl⟩;cases hf;rename_i M;injection hf with hf;subst hf;have j:es[k]?=none:=oR (by omega);have B:=nM h E (by rw[j];simp);simp only[tgt,j]at B;rw[j]at C;rcases C with⟨cs',l,D,L,Q⟩|⟨w,esz,rows,D,L⟩;exact .ptr _ off r o (by simp_all) ⟨l,Q⟩;cases D
 |slr k i n v wm esz rows J A I G=>
  intro hf;have E:=F A;have C:=h.out k _ A;unfold oX at C;have go: ∀b,(fD s1 es new kf c' σ2).g.μ b=c'.g.μ k->σ2[b]?=some (.arr wm esz rows)->JJ (fD s1 es new kf c' σ2) (.slr b i n) v:=(by intro b B O;refine .slr b i n v wm esz rows J O I λe=>?_;rcases G e with⟨Z,q1,q2,q3⟩|⟨r,cap,c,D,fz,Z,q⟩;exact .inl ⟨by simp_all,q1,q2,q3⟩;exact .inr ⟨r,cap,c,D,fz,by simp_all,q⟩);simp only[bk]at hf;split at hf;rename_i H;split at hf;rename_i b j;injection hf with hf;subst hf;have B:=nM h E (by rw[j];simp);grind [tgt,Ent.id];cases hf;rename_i M;injection hf with hf;subst hf;have j:es[k]?=none:=oR (by omega);have B:=nM h E (by rw[j];simp);grind [tgt]
 |ep k ext i off v wm esz rows J A I G=>
  intro hf;have E:=F A;have C:=h.out k _ A;unfold oX at C;have go: ∀b,(fD s1 es new kf c' σ2).g.μ b=c'.g.μ k->σ2[b]?=some (.arr wm esz rows)->JJ (fD s1 es new kf c' σ2) (.ep b ext i off) v:=by intro b B O;refine .ep b ext i off v wm esz rows J O I λD L=>?_;simp_all
  simp only[bk]at hf;split at hf;rename_i H;split at hf;rename_i b j;injection hf with hf;subst hf;have B:=nM h E (by rw[j];simp);grind [tgt,Ent.id];cases hf;rename_i M;injection hf with hf;subst hf;have j:es[k]?=none:=oR (by omega);have B:=nM h E (by rw[j];simp);grind [tgt]
 |fn f first caps fs cs h1 h2 _ _ a9 a7=>
  intro hf;simp only[bk]at hf;split at hf
  ·rename_i a c ha hc;injection hf with hf;subst hf;obtain⟨S,R⟩:=tH ha;obtain⟨k3,k4⟩:=tH hc;refine .fn f a c fs cs (by omega) (by omega) (λi y v P G=>?_) (λi y v P G=>?_)
   all_goals grind [Jq]
  cases hf
inductive TN(es:List Ent)(new kf b:Nat):Prop where|out (k:Nat):k<es.length+kf->tgt es new k=b->(∀b e i,es[k]?≠some (.elem b e i))->TN es new kf b|elem (k e i:Nat):es[k]?=some (.elem b e i)->TN es new kf b|other:b∉es.map Ent.id->(b<new\/new+kf<=b)->TN es new kf b
theorem tB(b:Nat):TN es new kf b:=by
 by_cases n:b∈es.map Ent.id;obtain⟨e,j,g⟩:=jF.1 n;obtain⟨k,h⟩:=lZ j;have r:=Jq h;cases e with
 |whole q=>simp only[Ent.id]at g;subst g;exact .out k (by omega) (by grind [tgt,Ent.id]) (by rw[h];simp)
 |elem q e' o=>simp only[Ent.id]at g;subst g;exact .elem k e' o h
 by_cases v:new<=b/\b<new+kf;have j:es[es.length+(b-new)]?=none:=oR (by omega);refine .out (es.length+(b-new)) (by omega) ?_ (by rw[j];simp);grind [tgt];exact .other n (by omega)
include h in
theorem IC{k:Nat}(hk:k<es.length+kf)(j: ∀b e i,es[k]?≠some (.elem b e i))(r o:Nat):
  Wr1 (fD s1 es new kf c' σ2) (tgt es new k) r o↔Wr1 c' k r o:=by
 have q:=nM h hk j;have g:k<c'.σ.length:=by rw[h.len];exact hk
 have n:c'.σ[k]?=some c'.σ[k]:=aS g;have w:=h.out k _ n;unfold oX at w;unfold Wr1;rw[n,q];have v:(fD s1 es new kf c' σ2).σ=σ2:=rfl;rw[v];cases he:es[k]? with
 |some e=>
  grind [tgt,Ent.id,tH]
 |none=>
  grind [tgt,tH]
include h in
theorem IW{k b e i:Nat}(he:es[k]?=some (.elem b e i))(r o:Nat):Wr1 (fD s1 es new kf c' σ2) b r o↔Wr1 s1 b r o:=by
 obtain⟨esz,rows,row,r',g,v,y,A,z,w,x,q,n,B,j⟩:=DM h he;grind [Wr1,fD]
include h in
theorem dr{b:Nat}(h1:b∉es.map Ent.id)(h2:b<new\/new+kf<=b)(r o:Nat):Wr1 (fD s1 es new kf c' σ2) b r o↔Wr1 s1 b r o:=by
 unfold Wr1;have j:(fD s1 es new kf c' σ2).σ=σ2:=rfl;have e:(fD s1 es new kf c' σ2).g.μ b=s1.g.μ b:=by grind [fD,PX]
 rw[j,h.same b h1 h2,e]
include h in
theorem pp{r o:Nat}(hw:Wr c' r o):(∃k e,es[k]?=some e/\Wr1 (hC s1 es blks) k r o/\Wr1 s1 e.id r o)\/s1.w.heap.size<=r:=by
 rcases h.trans.wnew r o hw with⟨k,j⟩|n;obtain⟨g,q⟩:=sQ h.cin k r o j;have v:es[k]?=some es[k]:=aS g;grind [vM];exact .inr n
include h in
theorem oy:aZ s1 (fD s1 es new kf c' σ2):=by
 refine⟨?_,λr o B=>h.trans.cmono r o B,λr o B=>?_,λr o ⟨b,H⟩=>?_,Nat.le_of_eq h.slen.symm,λb cs y=>?_,λb wm esz rows y=>?_⟩;refine h.trans.keep.mono λr o ⟨k,j⟩=>?_;exact⟨_,(sQ h.cin k r o j).2⟩;rcases h.trans.cnew r o B with B|⟨k,j⟩|P;exact .inl B;exact .inr (.inl ⟨_,(sQ h.cin k r o j).2⟩);exact .inr (.inr P);cases tB (es:=es) (new:=new) (kf:=kf) b with
 |out k j ht q=>
  subst ht;rcases pp h ⟨k,(IC h j q r o).1 H⟩with⟨k',e,_,_,K⟩|P;exact .inl ⟨_,K⟩;simp_all
 |elem k e i g=>exact .inl ⟨b,(IW h g r o).1 H⟩
 |other h1 h2=>exact .inl ⟨b,(dr h h1 h2 r o).1 H⟩
 ·cases tB (es:=es) (new:=new) (kf:=kf) b with
  |out k j ht q=>
   cases g:es[k]? with
   |none=>
    exfalso;simp only[tgt,g]at ht;have J:es.length<=k:=by simp_all
    have:=h.dead (k-es.length) (by omega);simp_all
   |some e=>
    cases e with
    |elem b e i=>simp_all
    |whole U=>
     simp only[tgt,g,Ent.id]at ht;subst ht;obtain⟨x,I,A⟩:=qY h.cin g;rcases A with⟨cs',l,h1,h2,rfl⟩|⟨w,z,rows',h1,rfl⟩
     ·rw[y]at h1;injection h1 with h1;injection h1 with h1;subst h1
      obtain⟨⟨Z,G,R⟩,O⟩:=h.trans.box k _ I;have v:=h.out k _ G;unfold oX at v;rw[g]at v;have F:=nM h j q;simp only[tgt,g,Ent.id]at F;rcases v with⟨N,M,n,E,Q⟩|⟨w,esz,rows,n,E⟩
      ·injection n with n;subst n;refine⟨⟨M,Q,?_⟩,?_⟩
       all_goals grind [tH,tK,wE]
      cases n
     simp_all
  |elem k e i g=>
   grind [DM]
  |other h1 h2=>
   refine⟨⟨cs,by rw[<-y];exact h.same b h1 h2,rfl⟩,?_⟩;grind [fD,PX]
 cases tB (es:=es) (new:=new) (kf:=kf) b with
 |out k j ht q=>
  cases g:es[k]? with
  |none=>
   exfalso;simp only[tgt,g]at ht;have J:es.length<=k:=by simp_all
   have:=h.dead (k-es.length) (by omega);simp_all
  |some e=>
   cases e with
   |elem b e i=>simp_all
   |whole U=>
    simp only[tgt,g,Ent.id]at ht;subst ht;obtain⟨x,I,A⟩:=qY h.cin g;rcases A with⟨cs',l,h1,h2,rfl⟩|⟨w,z,rows',h1,rfl⟩;simp_all;rw[y]at h1;injection h1 with h1;injection h1 with a1 a2 a3;subst a1 a2 a3;obtain⟨wm',D,G,R,O,q4⟩:=h.trans.arr k _ _ _ I;have v:=h.out k _ G;unfold oX at v;rw[g]at v;have F:=nM h j q;simp only[tgt,g,Ent.id]at F;rcases v with⟨N,M,n,E,Q⟩|⟨w,T,S,n,E⟩;cases n;injection n with a1 a2 a3;subst a1 a2 a3;exact⟨wm',D,E,R,O,λe=>by grind [wE]⟩
 |elem k e i g=>
  obtain⟨z,rows',row,r',W,C,f2,f3,V,f5,f6,f7,f8,Y,L⟩:=DM h g;rw[y]at C;injection C with C;injection C with a1 a2 a3;subst a1 a2 a3;exact⟨true,_,Y,λ_=>rfl,by simp,λ_=>by rw[L,V]⟩
 |other h1 h2=>
  refine⟨wm,rows,by rw[<-y];exact h.same b h1 h2,id,zQ0 _,λ_=>?_⟩;grind [fD,PX]
include h in
theorem JIP:Inv (fD s1 es new kf c' σ2):=by
 have hi:=h.cin.inv;have t:=oy h;have O: ∀{b},¬(b∈es.map Ent.id\/(new<=b/\b<new+kf))->b∉es.map Ent.id/\(b<new\/new+kf<=b):=λH=>⟨λB=>H (.inl B),by omega⟩;have A: ∀{k b e i r o},es[k]?=some (.elem b e i)->(Wr1 (hC s1 es blks) k r o↔Wr1 c' k r o):=(by intro k b e i r o q;obtain⟨x,hx,aa⟩:=qY h.cin q;obtain⟨esz,rows,row,h1,h2,h3,rfl⟩:=aa;obtain⟨⟨cs',q1,q2⟩,q3⟩:=h.trans.box k _ hx;grind [hC,Wr1]);have P: ∀{k b r o},k<es.length+kf->Wr1 c' k r o->Wr1 s1 b r o->(∃n,es[n]?=some (.whole b)\/ ∃e i,es[n]?=some (.elem b e i)/\n=k):=by
  intro k b r o N J M;rcases pp h ⟨k,J⟩with⟨n,e,q,ao,y⟩|H;have E:=hi.apart _ _ _ _ y M;cases e with
  |whole b'=>grind [Ent.id]
  |elem b' e' i'=>
   simp only[Ent.id]at E;subst E;have:=h.inv.apart _ _ _ _ ((A q).1 ao) J;grind
  have:=uZ hi b r o M;omega
 refine nO hi t (λb=>b∈es.map Ent.id\/(new<=b/\b<new+kf)) ?_ ?_ ?_ ?_ ?_ ?_ ?_ ?_;intro b H;obtain⟨h1,h2⟩:=O H;exact⟨h.same b h1 h2,by grind [fD,PX]⟩;intro b r o v H J hv;refine h.trans.keep.cell ?_ hv;rintro⟨k,N⟩;obtain⟨D,y⟩:=sQ h.cin k r o N;have q:es[k]?=some es[k]:=aS D;rw[vM q]at y;have:=hi.apart _ _ _ _ y J;simp_all;intro b cs hd M;have M:σ2[b]?=some (.box cs):=M;cases tB (es:=es) (new:=new) (kf:=kf) b with
 |other h1 h2=>grind
 |elem k e i q=>
  grind [DM]
 |out k N ht Y=>
  subst ht;have D:k<c'.σ.length:=by rw[h.len];exact N
  have hg:c'.σ[k]?=some c'.σ[k]:=aS D;have ho:=h.out k _ hg;unfold oX at ho;have a9: ∃a0,c'.σ[k]?=some (.box a0)/\bk.bkL es new a0=some cs:=by
   cases q:es[k]? with
   |some e=>
    grind [tgt,Ent.id]
   |none=>
    grind [tgt]
  obtain⟨a0,h0,hl⟩:=a9;obtain⟨k1,k2⟩:=tH hl;obtain⟨r,o,c,e,fz,B,hh,ca,hx,be⟩:=h.inv.box _ _ h0;refine⟨r,o,c,e,fz,by grind [nM],hh,by omega,λi x c7=>?_,by simp_all⟩;grind [Jq,Er]
 intro b wm esz rows hd M;have M:σ2[b]?=some (.arr wm esz rows):=M;cases tB (es:=es) (new:=new) (kf:=kf) b with
 |other h1 h2=>grind
 |elem k e i q=>
  obtain⟨bj,rows',row,r',bp,f1,f2,f3,f4,f5,f6,f7,f8,f9,bg⟩:=DM h q;rw[M]at f9;injection f9 with f9;injection f9 with a1 a2 a3;subst a1 a2 a3;have D:=Jq f3;rcases hi.arr _ _ _ _ f1 with⟨B,W⟩|⟨r,c,e1,fz,B,hh,am,hl,hx,be⟩;simp_all;rw[f4]at B;injection B with B;injection B with B _;subst B;obtain⟨c2,q1,q2,q3⟩:=t.keep.2.1 _ _ _ _ hh;obtain⟨rr,oo,c3,e3,c8,m3,U,bm,b6,bo⟩:=h.inv.box _ _ f5;rw[f8]at m3;injection m3 with m3;injection m3 with z I;subst z I;have b7:c'.w.heap[r']?=some (.cells c2 e1 fz):=q1;rw[b7]at U;injection U with U;injection U with z I w3;subst z I w3;refine .inr ⟨r',c2,e1,fz,bg,q1,λcc cb=>?_,by simp;omega,λQ j aj x0 L a4=>⟨?_,λh=>by cases h⟩,by simp_all⟩;grind;have c0:=Jq a4;by_cases ai:Q=i;subst ai;rw[uH D]at L;injection L with L;subst L;obtain⟨v,hv,W,_⟩:=b6 j (.p x0) (by simp[a4]);refine⟨v,hv,?_⟩;cases W with|p _ _ W=>exact W
  rw[FC (Ne.symm ai)]at L;obtain⟨⟨v',cd,b0⟩,_⟩:=hx Q j aj x0 L a4;refine⟨v',?_,b0.mono hi t⟩;have ac:cellAt s1.w r' (Q*esz+j)=some v':=by grind [jB]
  have b8:j<esz:=by grind
  have b4: ¬Wr (hC s1 es blks) r' (Q*esz+j):=by
   rintro⟨n,g⟩;obtain⟨F,y⟩:=sQ h.cin n _ _ g;have C:es[n]?=some es[n]:=aS F;rw[vM C]at y;have bh:Wr1 s1 b r' (Q*esz+j):=by grind [Wr1]
   have E:=hi.apart _ _ _ _ y bh;have K:n=k:=CY h C q E;subst K;obtain⟨x,bb,aa⟩:=qY h.cin q;obtain⟨bu,bi,Z,G,V,g3,rfl⟩:=aa;rw[f1]at G;injection G with G;injection G with z1 z2 z3;subst z2 z3;have ak:(hC s1 es blks).σ[n]?=some (.box (Z.map .p)):=bb;unfold Wr1 at g;rw[ak,QA q f1 f4]at g;obtain⟨o0,m0,c9,b9⟩:=g;injection m0 with m0;injection m0 with _ m0;subst m0;have bq:=am Z (gL g3);simp at b9;rcases zQ3 Q i with an|bx;have:=iY an b8;omega;have:=zQ4 esz (show i+1<=Q by omega);grind
  have:=h.trans.keep.cell b4 ac;grind [jB]
 |out k N ht Y=>
  subst ht;have D:k<c'.σ.length:=by rw[h.len];exact N
  have hg:c'.σ[k]?=some c'.σ[k]:=aS D;have ho:=h.out k _ hg;unfold oX at ho;have a9:c'.σ[k]?=some (.arr wm esz rows):=by
   cases q:es[k]? with
   |some e=>
    grind [tgt,Ent.id]
   |none=>
    grind [tgt]
  rcases h.inv.arr _ _ _ _ a9 with⟨B,W⟩|⟨r,c,e,fz,B,hq⟩;exact .inl ⟨by grind [nM],W⟩;exact .inr ⟨r,c,e,fz,by grind [nM],hq⟩
 
 intro b1 b2 r o hd h1 h2;cases tB (es:=es) (new:=new) (kf:=kf) b1 with
 |other G V=>grind
 |out k1 a8 bc ap=>
  subst bc;have z:=(IC h a8 ap r o).1 h1;cases tB (es:=es) (new:=new) (kf:=kf) b2 with
  |out k2 T a7 R=>subst a7;have I:=(IC h T R r o).1 h2;rw[h.inv.apart _ _ _ _ z I]
  |elem k2 e i q=>
   exfalso;have I:=(IW h q r o).1 h2;obtain⟨n,g|⟨e',i',g,K⟩⟩:=P a8 z I;have:=CY h g q rfl;simp_all;simp_all
  |other G V=>
   exfalso;have I:=(dr h G V r o).1 h2;obtain⟨n,g|⟨e',i',g,K⟩⟩:=P a8 z I;exact G (NM g);simp_all
 |elem k1 e1 i1 ah=>
  have z:=(IW h ah r o).1 h1;cases tB (es:=es) (new:=new) (kf:=kf) b2 with
  |out k2 T a7 R=>
   subst a7;exfalso;have I:=(IC h T R r o).1 h2;obtain⟨n,g|⟨e',i',g,K⟩⟩:=P T I z;have:=CY h g ah rfl;simp_all;simp_all
  |elem k2 e i q=>exact hi.apart _ _ _ _ z ((IW h q r o).1 h2)
  |other G V=>exact hi.apart _ _ _ _ z ((dr h G V r o).1 h2)
 exact λr o S=>(h.inv.const r o S).1;intro r o b S hd J;cases tB (es:=es) (new:=new) (kf:=kf) b with
 |other G V=>grind
 |out k N ht Y=>subst ht;exact(h.inv.const r o S).2 _ ((IC h N Y r o).1 J)
 |elem k e i q=>
  have z:=(IW h q r o).1 J;rcases h.trans.cnew r o S with a6|⟨n,g⟩|H;exact(hi.const r o a6).2 _ z;obtain⟨F,y⟩:=sQ h.cin n _ _ g;have C:es[n]?=some es[n]:=aS F;rw[vM C]at y;have E:=hi.apart _ _ _ _ y z;have K:n=k:=CY h C q E;subst K;exact(h.inv.const r o S).2 _ ((A q).1 g);have H:s1.w.heap.size<=r:=H;have:=uZ hi _ _ _ z;omega
 intro r o b S ba hd J;rcases h.trans.cnew r o S with a6|⟨n,g⟩|H;exact ba a6;obtain⟨F,y⟩:=sQ h.cin n _ _ g;have C:es[n]?=some es[n]:=aS F;rw[vM C]at y;have E:=hi.apart _ _ _ _ y J;simp_all;have H:s1.w.heap.size<=r:=H;have:=uZ hi _ _ _ J;omega
end
end Go.Am
end
section
namespace Go.Am
section
variable {P:Program} {F:Orc} {s:Sn} {a:Act} {env:List (Nat×AV)} {o:Oper} {new:Nat} {e:Eff}
theorem ns{r:List Blk}(hi:Inv s)(B:Frz r s.σ){x:AV}{y:AV×List (Nat×Blk)}{v:Value}(h:(iM x).run ⟨env,r⟩=some y)(hr:JJ s x v):
  ∃g',Inv ⟨upd y.2 s.σ,g',s.w⟩/\aZ s ⟨upd y.2 s.σ,g',s.w⟩/\Frz s.σ (upd y.2 s.σ)/\JJ ⟨upd y.2 s.σ,g',s.w⟩ y.1 v:=by
 have same: ∀{z:AV},(RM.ret (z,[]):RM (AV×List (Nat×Blk))).run ⟨env,r⟩=some y->JJ s z v-> ∃g',Inv ⟨upd y.2 s.σ,g',s.w⟩/\aZ s ⟨upd y.2 s.σ,g',s.w⟩/\Frz s.σ (upd y.2 s.σ)/\JJ ⟨upd y.2 s.σ,g',s.w⟩ y.1 v:=(by intro z j hr;simp only[RM.run]at j;injection j with j;subst j;exact⟨s.g,hi,.refl s,.refl _,hr⟩);cases x with
 |slr b i n=>
  simp only[iM]at h;obtain⟨C,h1,h⟩:=bind_some h;obtain⟨g',o,A,q,c,I,E⟩:=KO hi B h1 hr;rw[I]at h;simp only[RM.run]at h;injection h with h;subst h;exact⟨g',o,A,q,.p _ _ E⟩
 |agg cs=>
  simp only[iM]at h;obtain⟨C,h1,h⟩:=bind_some h;simp only[RM.run]at h;injection h with h;subst h;obtain⟨g',o,A,q,F,D⟩:=YB hi B h1 hr;cases hr with
  |agg _ vs h1 J h2=>exact⟨g',o,A,q,.data _ _ F λi x v G H=>D i x v G H⟩
 |tup=>grind [iM,RM.run]
 |p c=>exact same h hr
 |data cs=>exact same h hr
 |ptr b off=>exact same h hr
 |cp cs off=>exact same h hr
 |ep b e i off=>exact same h hr
 |fn f first caps=>exact same h hr
 |unk=>exact same h hr
 |pre b n k=>exact same h hr
theorem pw{o:List Blk}: ∀{xs:List AV} {s:Sn} {y:List AV×List (Nat×Blk)} {vs:List Value},Inv s->Frz o s.σ->(jJ xs).run ⟨env,o⟩=some y->xs.length=vs.length->
  (∀(i:Nat) x v,xs[i]?=some x->vs[i]?=some v->JJ s x v)->
  ∃g',Inv ⟨upd y.2 s.σ,g',s.w⟩/\aZ s ⟨upd y.2 s.σ,g',s.w⟩/\Frz s.σ (upd y.2 s.σ)/\y.1.length=vs.length/\
   ∀(i:Nat) x v,y.1[i]?=some x->vs[i]?=some v->JJ ⟨upd y.2 s.σ,g',s.w⟩ x v
 |[],s,y,vs,hi,e,h,hl,j=>by
  simp only[jJ,RM.run]at h;injection h with h;subst h;exact⟨s.g,hi,.refl s,.refl _,by simpa using hl,λi c v F=>by simp at F⟩
 |x::xs,s,y,[],hi,e,h,hl,j=>by simp at hl
 |x::xs,s,y,v::vs,hi,e,h,hl,j=>by
  simp only[jJ]at h;obtain⟨r,h1,h⟩:=bind_some h;obtain⟨K,h2,h⟩:=bind_some h;simp only[RM.run]at h;injection h with h;subst h;obtain⟨C,i1,n,k,I⟩:=ns hi e h1 (j 0 x v rfl rfl);obtain⟨B,i2,q,z,A,J⟩:=pw (s:=⟨upd r.2 s.σ,C,s.w⟩) i1 (e.trans k) h2 (by simpa using hl) λi x v D E=>(j (i+1) x v (by simpa using D) (by simpa using E)).mono hi n;refine⟨B,by grind [eR],by rw[eR];exact n.trans q,by rw[eR];exact k.trans z,by simp[A],λi c' H hc' G=>?_⟩;grind [JJ.mono,upd]
def Bj(s1:Sn)(es:List Ent)(new:Nat)(e:Ent)(x:Blk)(y:Nat×Blk):Prop:=
 y.1=e.id/\match e with
 | .whole _=>(∃cs l,x=.box cs/\bk.bkL es new cs=some l/\y.2=.box l)\/(∃w esz rows,x=.arr w esz rows/\y.2=.arr w esz rows)
 | .elem b _ i=> ∃w esz rows g,s1.σ[b]?=some (.arr w esz rows)/\x=.box (g.map .p)/\y.2=.arr w esz (rows.set i g)
theorem JD5{g:List Blk}{ws:List (Nat×Blk)}(k:s.σ=upd ws g){es:List Ent}{en:Ent}{x:Blk}{y:Nat×Blk}(h:(sY ws es new en x).run ⟨env,g⟩=some y):Bj s es new en x y:=by
 unfold sY at h;split at h;rename_i b cs;split at h;rename_i l hl;simp only[RM.run]at h;injection h with h;subst h;exact⟨rfl,.inl ⟨cs,l,rfl,hl,rfl⟩⟩;cases h;simp only[RM.run]at h;injection h with h;subst h;exact⟨rfl,.inr ⟨_,_,_,rfl,rfl⟩⟩;rename_i b ext i cs;obtain⟨z,h1,h⟩:=bind_some h;have j:=dv h1;rw[<-k]at j;cases z with
 |arr w esz rows=>
  dsimp only at h;split at h;rename_i e n;simp only[RM.run]at h;injection h with h;subst h;exact⟨rfl,w,esz,rows,e,j,by grind [PI],rfl⟩;cases h
 |_=>cases h
 cases h
theorem r6{j:List Blk}{ws:List (Nat×Blk)}(n:s.σ=upd ws j){es:List Ent}: ∀{e:List Ent} {xs:List Blk} {g:List (Nat×Blk)},(iF ws es new e xs).run ⟨env,j⟩=some g->
  e.length=g.length/\e.length<=xs.length/\ ∀(k:Nat) en x y,e[k]?=some en->xs[k]?=some x->g[k]?=some y->Bj s es new en x y
 |[],xs,g,h=>by grind [iF,RM.run]
 |_::_,[],g,h=>by cases h
 |en::e,x::xs,g,h=>by
  simp only[iF]at h;obtain⟨y,h1,h⟩:=bind_some h;obtain⟨l,h2,h⟩:=bind_some h;simp only[RM.run]at h;injection h with h;subst h;obtain⟨o,q,r⟩:=r6 n h2;grind [JD5]
theorem fj{es:List Ent}: ∀{xs:List Blk} {g:Nat} {e:List (Nat×Blk)},gY es new g xs=some e->
  xs.length=e.length/\ ∀(j:Nat) x y,xs[j]?=some x->e[j]?=some y->y.1=g+j/\((∃cs l,x=.box cs/\bk.bkL es new cs=some l/\y.2=.box l)\/(∃w esz rows,x=.arr w esz rows/\y.2=.arr w esz rows))
 |[],g,e,h=>by grind [gY]
 | .dead::_,g,e,h=>by grind [gY]
 | .box cs::xs,g,e,h=>by
  simp only[gY]at h;split at h;rename_i c l o hl;injection h with h;subst h;obtain⟨k,n⟩:=fj hl;grind;cases h
 | .arr w esz rows::xs,g,e,h=>by
  simp only[gY]at h;split at h;rename_i l hl;injection h with h;subst h;obtain⟨k,n⟩:=fj hl;grind;cases h
theorem ph(b:Nat)(p q:List (Nat×Blk)):iP b (p++q)=match iP b q with
  |some y=>some y
  |none=>iP b p:=by
 induction p with
 |nil=>grind [iP]
 |cons x p ih=>
  grind [iP]
theorem dd{b:Nat}{x:Blk}: ∀{ws:List (Nat×Blk)},(ws.map (·.1)).Nodup-> ∀{k:Nat},ws[k]?=some (b,x)->iP b ws=some x
 |[],_,k,h=>by simp at h
 |(c,z)::r,hn,k,h=>by
  obtain⟨h1,h2⟩:=List.nodup_cons.1 hn;simp only[iP];cases k with
  |zero=>
   grind [wH]
  |succ k=>rw[dd h2 (k:=k) (by simpa using h)]
theorem Fs(n k:Nat):((List.range k).map (n+ ·)).Nodup:=by
 grind [List.nodup_range]
theorem po(hF:iV P F){f:FuncId}{ar:List AV×List (Nat×Blk)}{q:Nat}{vals:Array Value}(H: ∀j,j<q->s.σ[new+j]?=some .dead)
  {g1:Gh} (i1:Inv ⟨upd ar.2 s.σ,g1,s.w⟩) (t1:aZ s ⟨upd ar.2 s.σ,g1,s.w⟩) (f1:Frz s.σ (upd ar.2 s.σ)) (l1:ar.1.length=vals.toList.length)
  (r1: ∀(i:Nat) x v,ar.1[i]?=some x->vals.toList[i]?=some v->JJ ⟨upd ar.2 s.σ,g1,s.w⟩ x v)
  (h:(fJ F f ar q new).run ⟨env,s.σ⟩=some e)
  (ai: ∀fn,P.funcs[f]?=some fn→fn.body.isSome=true→(fn.name== "runtime.NumGoroutine")=false→(execOp a.eval o).run P s.w=.ok (.enter f vals) s.w):bL P o a s e:=by
 unfold fJ at h;obtain⟨b8,h2,h⟩:=bind_some h;obtain⟨es,h3,h⟩:=bind_some h;split at h;rename_i ah;split at h;cases h;rename_i N a6;obtain⟨blks,h4,h⟩:=bind_some h;split at h;cases h;rename_i r a8;split at h;rename_i V;obtain⟨k,hlen,hk⟩: ∃k,r.2.length=es.length+k/\k<=q:=⟨r.2.length-es.length,by omega,by omega⟩;have M: ∀j,j<k->s.σ[new+j]?=some .dead:=λj hj=>H j (by omega);clear V;split at h;rename_i v fresh hv K;obtain⟨n,h5,h⟩:=bind_some h;simp only[RM.run]at h;injection h with h;subst h
 let s1:Sn:=⟨upd ar.2 s.σ,g1,s.w⟩
 obtain⟨bl,a5⟩:=qu (s:=s1) rfl h4;have cin:YH s1 es blks:=⟨i1,QO ah,bl,a5⟩;obtain⟨⟨fn,af,O,S⟩,R⟩:=hF f N blks r a8;obtain⟨q1,q2⟩:=tK a6;have ci:=JLE cin;have hc:=R (hC s1 es blks).g s.w vals ci (by grind) (λi x v hx hv=>by have A:=Jq hx;have Y:ar.1[i]?=some (ar.1[i]'(by omega)):=aS _;exact Bu cin (r1 i _ v Y (by simpa using hv)) (q2 i _ x Y hx));intro next Q T;simp only[Oper.wp,ai fn af O S,Oper.upon];refine hc.mono ?_;rintro e w' ⟨rv,g',rfl,a7,I,a3⟩;simp only;obtain⟨b1,b2,b3⟩:=r6 (s:=s1) rfl h5;obtain⟨n1,n2⟩:=fj K;have B: ∀j,j<k->s1.σ[new+j]?=some .dead:=λj hj=>f1.2 _ _ (M j hj) (by simp);have bb:(r.2.drop es.length).length=k:=by simp;omega
 have ac:n.map (·.1)=es.map Ent.id:=(by apply zQ6;intro i;rw[gE,gE];by_cases A:i<es.length;have E:es[i]?=some es[i]:=aS A;have L:n[i]?=some (n[i]'(by omega)):=aS _;have G:r.2[i]?=some (r.2[i]'(by omega)):=aS _;have:=(b3 i _ _ _ E G L).1;grind;grind);have ab: ∀j,j<k->fresh[j]?=some (new+j,(fresh[j]?.map (·.2)).getD .dead):=(by grind);have am:(fresh.map (·.1)).Nodup:=(by have:fresh.map (·.1)=(List.range k).map (new+ ·):=(by apply zQ6;grind);grind [Fs]);have al: ∀b,b∈fresh.map (·.1)↔new<=b/\b<new+k:=(by intro b;constructor;grind [List.getElem?_of_mem];intro hm;have:=ab (b-new) (by omega);grind);have W:(upd (n++fresh) s1.σ).length=s1.σ.length:=yP _ _;have U: ∀{q:Nat} {en:Ent},es[q]?=some en->en.id<s1.σ.length/\ ¬(new<=en.id/\en.id<new+k):=by
  intro q en C;obtain⟨x,_,Z⟩:=qY cin C;have z: ∃y,s1.σ[en.id]?=some y/\y≠.dead:=by
   cases en with
   |whole b=>
    rcases Z with⟨cs',l,h1,h2,rfl⟩|⟨w,a2,rows',h1,rfl⟩;exact⟨_,h1,by simp⟩;exact⟨_,h1,by simp⟩
   |elem b ext i=>obtain⟨a2,rows',row,h1,h2,h3,rfl⟩:=Z;exact⟨_,h1,by simp⟩
  obtain⟨y,z,hd⟩:=z;refine⟨Jq z,λhm=>?_⟩;have:=B (en.id-new) (by omega);rw[show new+(en.id-new)=en.id by omega,z]at this;grind
 have aa: ∀{q:Nat} {en:Ent} {y:Nat×Blk},es[q]?=some en->n[q]?=some y->(upd (n++fresh) s1.σ)[en.id]?=some y.2:=by intro q en y C z;obtain⟨A,b9⟩:=U C;have G:r.2[q]?=some (r.2[q]'(by grind)):=aS _;have ag:=(b3 q en _ y C G z).1;rw[vT _ _ _ A,ph,wH (by grind)];simp only;rw[dd (x:=y.2) (by rw[ac];exact cin.nodup) (k:=q) (by grind)]
 have av: ∀{j:Nat} {y:Nat×Blk},j<k->fresh[j]?=some y->(upd (n++fresh) s1.σ)[new+j]?=some y.2:=(by grind [vT,ph,dd]);have co:De s1 es blks new k ⟨r.2,g',w'⟩ (upd (n++fresh) s1.σ):=by
  refine⟨cin,a7,I,hlen,W,B,λq y z=>?_,λb bd ba=>?_⟩;have z:r.2[q]?=some y:=z;unfold oX;cases C:es[q]? with
  |some en=>
   have A:=Jq C;have L:n[q]?=some (n[q]'(by omega)):=aS _;obtain⟨ag,a0⟩:=b3 q en y _ C z L;have hg:=aa C L;cases en with
   |whole b=>
    rcases a0 with⟨cs,l,E,G,J⟩|⟨w,esz,rows,E,J⟩;exact .inl ⟨cs,l,E,G,by rw[<-J];exact hg⟩;exact .inr ⟨w,esz,rows,E,by rw[<-J];exact hg⟩
   |elem b ext i=>obtain⟨w,esz,rows,a4,E,G,J⟩:=a0;exact⟨w,esz,rows,a4,E,G,by rw[<-J];exact hg⟩
  |none=>
   have bc:es.length<=q:=(by grind);have A:=Jq z;have L:fresh[q-es.length]?=some (fresh[q-es.length]'(by omega)):=aS _;grind
  grind [vT,wH]
 have oi:=JIP co;have ot:=oy co;have D:upd (ar.2++n++fresh) s.σ=upd (n++fresh) s1.σ:=by grind [eR]
 refine T rv w' (fD s1 es new k ⟨r.2,g',w'⟩ (upd (n++fresh) s1.σ)).g ?_ ?_ ?_;rw[D];exact oi;rw[D];exact t1.trans ot;rw[D];exact Er co a3 hv;cases h;cases h;cases h
theorem Dw{f:FuncId}{args:List AV}{k:Nat}{s:St}(h:(hJ F f args k new).run s=some e): ∃ar,(jJ args).run s=some ar/\(fJ F f ar k new).run s=some e:=by
 unfold hJ at h;obtain⟨ar,h1,h⟩:=bind_some h;obtain⟨w,h2,h⟩:=bind_some h;obtain⟨es,v,h⟩:=bind_some h;refine⟨ar,h1,?_⟩;unfold fJ;rw[run_bind,h2,Jv,run_bind,v,Jv];split at h;rename_i n;rw[if_pos n];split at h;cases h;rename_i o g;obtain⟨blks,q,h⟩:=bind_some h
 try rw[g]
 try dsimp only
 rw[run_bind,q,Jv];split at h;cases h;rename_i r j
 try rw[j]
 try dsimp only
 split at h;grind;cases h;cases h
theorem Dy(A:iV P F)(hi:Inv s){f:FuncId}{args:List AV}{k:Nat}{vals:Array Value}(g: ∀j,j<k->s.σ[new+j]?=some .dead)
  (h:(hJ F f args k new).run ⟨env,s.σ⟩=some e) (hl:args.length=vals.size) (hr: ∀(i:Nat) x v,args[i]?=some x->vals[i]?=some v->JJ s x v)
  (r: ∀fn,P.funcs[f]?=some fn→fn.body.isSome=true→(fn.name== "runtime.NumGoroutine")=false→(execOp a.eval o).run P s.w=.ok (.enter f vals) s.w):bL P o a s e:=by
 obtain⟨ar,h1,h2⟩:=Dw h;obtain⟨D,i1,B,z,C,y⟩:=pw (vs:=vals.toList) hi (.refl _) h1 (by simpa using hl) (λi x v n q=>hr i x v n (by simpa using q));grind [po]
theorem JEB{q:List Blk}: ∀{m:List Bool} {xs:List AV} {s:Sn} {y:List AV×List (Nat×Blk)} {vs:List Value},Inv s->Frz q s.σ->(fC m xs).run ⟨env,q⟩=some y->xs.length=vs.length->
  (∀(i:Nat) x v,xs[i]?=some x->vs[i]?=some v->JJ s x v)->
  ∃g',Inv ⟨upd y.2 s.σ,g',s.w⟩/\aZ s ⟨upd y.2 s.σ,g',s.w⟩/\Frz s.σ (upd y.2 s.σ)/\y.1.length=vs.length/\
   ∀(i:Nat) x v,y.1[i]?=some x->vs[i]?=some v->JJ ⟨upd y.2 s.σ,g',s.w⟩ x v:=by
 intro m xs
 induction xs generalizing m with
 |nil=>
  intro s y vs hi o h hl j;have h:(RM.ret ([],[]):RM (List AV×List (Nat×Blk))).run ⟨env,q⟩=some y:=by cases m<;>exact h
  simp only[RM.run]at h;injection h with h;subst h;exact⟨s.g,hi,.refl s,.refl _,by simpa using hl,λi c v L=>by simp at L⟩
 |cons x xs ih=>
  intro s y vs hi o h hl j;cases vs with
  |nil=>simp at hl
  |cons v vs=>
   have r: ∀{z:List Bool},((iM x).bind λa=>(fC z xs).bind λc=>.ret (a.1::c.1,a.2++c.2)).run ⟨env,q⟩=some y->
     ∃g',Inv ⟨upd y.2 s.σ,g',s.w⟩/\aZ s ⟨upd y.2 s.σ,g',s.w⟩/\Frz s.σ (upd y.2 s.σ)/\y.1.length=(v::vs).length/\
      ∀(i:Nat) x n,y.1[i]?=some x->(v::vs)[i]?=some n->JJ ⟨upd y.2 s.σ,g',s.w⟩ x n:=by
    intro z h;obtain⟨H,h1,h⟩:=bind_some h;obtain⟨J,h2,h⟩:=bind_some h;simp only[RM.run]at h;injection h with h;subst h;obtain⟨K,i1,G,F,M⟩:=ns hi o h1 (j 0 x v rfl rfl);obtain⟨C,i2,k,A,B,I⟩:=ih (m:=z) (s:=⟨upd H.2 s.σ,K,s.w⟩) i1 (o.trans F) h2 (by simpa using hl) λi x v D E=>(j (i+1) x v (by simpa using D) (by simpa using E)).mono hi G;refine⟨C,by grind [eR],by rw[eR];exact G.trans k,by rw[eR];exact F.trans A,by simp[B],λi c' n hc' e=>?_⟩;grind [JJ.mono,upd]
   cases m with
   |nil=>exact r h
   |cons b m=>
    cases b with
    |false=>exact r h
    |true=>
     simp only[fC]at h;obtain⟨J,h2,h⟩:=bind_some h;simp only[RM.run]at h;injection h with h;subst h;obtain⟨C,i2,k,A,B,I⟩:=ih (m:=m) hi o h2 (by simpa using hl) λi x v D E=>j (i+1) x v (by simpa using D) (by simpa using E);refine⟨C,i2,k,A,by simp[B],λi c' n hc' e=>?_⟩;cases i with
     |zero=>simp at hc' e;subst hc' e;exact(j 0 x v rfl rfl).mono hi k
     |succ i=>grind
theorem fv{f:FuncId}{args:Array Value}{fn:Func}(h1:P.funcs[f]?=some fn)(h2:fn.body.isSome=true)(h3:(fn.name== "runtime.NumGoroutine")=false)(w:World):
  (callFunc f args).run P w=.ok (.enter f args) w:=by
 have e:fn.name≠ "runtime.NumGoroutine" :=by simpa using h3
 have g:fn.body≠none:=by grind
 simp_all [callFunc]
theorem JJ8(y:iV P F)(hi:Inv s)(he:bM s a.tmps env){f args k}(n: ∀j,j<k->s.σ[new+j]?=some .dead)(h:(opR F (.call f args k) new).run ⟨env,s.σ⟩=some e)
  (hc:JV P (.call f args k) o.op=true):bL P o a s e:=by
 simp only[opR]at h;obtain⟨vs,h1,w⟩:=bind_some h;clear h;unfold JV at hc;simp only at hc;split at hc;rename_i c C;split at hc;rename_i g z;simp only[JX,beq_iff_eq]at hc;obtain⟨rfl,q⟩:=hc;obtain⟨l,r⟩:=CZ he h1 q;refine Dy y hi n w (vals:=c.args.map a.eval) (by simpa using l) (λi x v A B=>r i x v A (by simpa using B)) λfn G E D=>?_;simp_all [execOp,resolve,Act.eval,Deferred.ofValue,invoke,fv];cases hc;cases hc
theorem JFU(A:iV P F)(hi:Inv s)(he:bM s a.tmps env){f keep args k}(n: ∀j,j<k->s.σ[new+j]?=some .dead)(h:(opR F (.callo f keep args k) new).run ⟨env,s.σ⟩=some e)
  (hc:JV P (.callo f keep args k) o.op=true):bL P o a s e:=by
 simp only[opR]at h;obtain⟨vs,h1,w⟩:=bind_some h;obtain⟨ar,h2,G⟩:=bind_some w;clear h w;unfold JV at hc;simp only at hc;split at hc;rename_i c J;split at hc;rename_i g B;simp only[JX,beq_iff_eq]at hc;obtain⟨rfl,q⟩:=hc;obtain⟨l,r⟩:=CZ he h1 q;obtain⟨E,i1,C,z,D,y⟩:=JEB (vs:=(c.args.map a.eval).toList) hi (.refl _) h2 (by simpa using l) (λi x v H I=>r i x v H (by simpa using I));refine po A n (vals:=c.args.map a.eval) i1 C z D y G λfn E L K=>?_;simp_all [execOp,resolve,Act.eval,Deferred.ofValue,invoke,fv];cases hc;cases hc
theorem JFN(D:iV P F)(hi:Inv s)(he:bM s a.tmps env){x args k}(g: ∀j,j<k->s.σ[new+j]?=some .dead)(h:(opR F (.callv x args k) new).run ⟨env,s.σ⟩=some e)
  (hc:JV P (.callv x args k) o.op=true):bL P o a s e:=by
 simp only[opR]at h;obtain⟨u,C,q⟩:=bind_some h;clear h;unfold JV at hc;simp only at hc;split at hc;rename_i c G;split at hc;rename_i y E;simp only[JX]at hc;obtain⟨B,n⟩:=hc;have A:=bH he C B;cases u with
 |fn f first caps=>
  dsimp only at q;obtain⟨vs,h1,w⟩:=bind_some q;obtain⟨l,r⟩:=CZ he h1 n;generalize O:a.eval y=z at A;cases A with
  |fn _ _ _ fs cs K J H I=>
   have L:vs.length=c.args.size:=by simpa using l
   refine Dy D hi g w (vals:=fs++c.args.map a.eval++cs) (by simp;omega) (λi x v B R=>?_) λfn Q N M=>?_;grind;grind [execOp,resolve,Deferred.ofValue,invoke,fv]
 |_=>cases q
 cases hc;cases hc
end
end Go.Am
end
section
namespace Go.Am
section
variable {P:Program} {F:Orc} {s:Sn} {a:Act} {env:List (Nat×AV)} {o:Oper} {new:Nat} {e:Eff}
theorem cv: ∀(os:List (Nat×Nat)) (n:Nat) {s:Sn},Inv s->(∀j,j<os.length->s.σ[n+j]?=some .dead)->
  ∃g',Inv ⟨upd (gU os n) s.σ,g',s.w⟩/\aZ s ⟨upd (gU os n) s.σ,g',s.w⟩/\
   (∀j,j<os.length->(∃esz,(upd (gU os n) s.σ)[n+j]?=some (.arr true esz []))/\g'.μ (n+j)=none)/\
   (∀b,b<n\/n+os.length<=b->(upd (gU os n) s.σ)[b]?=s.σ[b]?/\g'.μ b=s.g.μ b)
 |[],n,s,hi,_=>⟨s.g,hi,.refl s,λj e=>by simp at e,λb _=>⟨rfl,rfl⟩⟩
 |(off,esz)::r,n,s,hi,hd=>by
  obtain⟨i1,v⟩:=OY hi (hd 0 (by simp)) esz;obtain⟨g',i2,q,h1,h2⟩:=cv r (n+1) (s:=⟨s.σ.set n (.arr true esz []),eZ s.g n none,s.w⟩) i1 (λj e=>by
   show(s.σ.set n _)[n+1+j]?=_;rw[rP (by omega)];have:=hd (j+1) (by simp;omega);grind)
  refine⟨g',i2,v.trans q,λj e=>?_,λb x=>?_⟩;cases j with
  |zero=>
   obtain⟨o,k⟩:=h2 n (.inl (by omega));refine⟨⟨esz,?_⟩,?_⟩;grind [upd,gU];rw[uO,k];exact if_pos rfl
  |succ j=>have:=h1 j (by simpa using e);rw[show n+(j+1)=n+1+j by omega];exact this
  obtain⟨o,k⟩:=h2 b (by grind);have h:n≠b:=by grind
  exact⟨o.trans (rP h),k.trans (if_neg (Ne.symm h))⟩
theorem rh{t:TypeId}{os:List (Nat×Nat)}{v:Value}(hv:zeT P t=some v)(h:MP P t os=true): ∀x∈os,v.cells[x.1]?=some (.slice none 0 0):=by
 grind [MP]
theorem cu{cells:Array Value}: ∀(os:List (Nat×Nat)) (n:Nat) {cs:List AV},(∀x∈os,cells[x.1]?=some (.slice none 0 0))->
  (∀j,j<os.length->(∃esz,s.σ[n+j]?=some (.arr true esz []))/\s.g.μ (n+j)=none)->
  (∀(i:Nat) x,cs[i]?=some x-> ∃u,cells[i]?=some u/\JJ s x u/\u.oneCell'=true)->
  ∀(i:Nat) x,(lQ os n cs)[i]?=some x-> ∃u,cells[i]?=some u/\JJ s x u/\u.oneCell'=true
 |[],_,_,_,_,h=>h
 |(off,esz)::r,n,cs,hz,ha,h=>by
  refine cu r (n+1) (λx e=>hz x (by simp[e])) (λj q=>by
   have:=ha (j+1) (by simpa using q);grind) λi x e=>?_
  by_cases hi:off=i;subst hi;have k:=Jq e;rw[List.length_set]at k;rw[uH k]at e;injection e with e;subst e;obtain⟨⟨o,h1⟩,h2⟩:=ha 0 (by simp);rw[uO]at h1 h2;exact⟨.slice none 0 0,hz (off,esz) (by simp),.slr n 0 0 _ true o [] ⟨none,0,rfl,.inl rfl⟩ h1 (zQ0 _) λ_=>.inl ⟨h2,rfl,rfl,rfl⟩,rfl⟩;simp_all
theorem dw: ∀(os:List (Nat×Nat)) (n:Nat) (cs:List AV),(lQ os n cs).length=cs.length|[],_,_=>rfl|_::r,n,cs=>(dw r (n+1) _).trans (by simp)
theorem JBK(hi:Inv s){zero os}(n: ∀j,j<os.length+1->s.σ[new+j]?=some .dead)(h:(opR F (.newboxo zero os) new).run ⟨env,s.σ⟩=some e)(hc:JV P (.newboxo zero os) o.op=true):bL P o a s e:=by
 simp only[opR,RM.run]at h;injection h with h;subst h;unfold JV at hc;simp only at hc;split at hc;rename_i t K;simp only[JX]at hc;obtain⟨D,G⟩:=hc;obtain⟨v,H,hl,E⟩:=rQ D;obtain⟨y,i1,A,h1,h2⟩:=cv os new hi λj N=>n j (by omega);have r:(upd (gU os new) s.σ)[new+os.length]?=some .dead:=((h2 _ (.inr (zQ0 _))).1).trans (n _ (by omega))
 let s1:Sn:=⟨upd (gU os new) s.σ,y,s.w⟩
 obtain⟨B,t'⟩:=OS (s0:=s1) i1 r (blk:=.box (lQ os new (zero.map .p))) (c:=v.cells) (e:=t) (fz:=(0,0)) (w':={s.w with heap:=s.w.heap.push (.cells v.cells t)}) rfl rfl rfl
  (λo _ _ h=>by simp at h) (λ_ _ _ h=>by cases h) ⟨by grind [dw],λi x q=>by
   obtain⟨u,M,L,J⟩:=cu (s:=s1) (cells:=v.cells) os new (rh H G) h1 (λi x q=>by
    rw[gE]at q;cases hzi:zero[i]? with
    |none=>simp_all
    |some c=>
     simp[hzi]at q;subst q;have I:=Jq hzi;have z:i<v.cells.size:=by omega
     have:=E (w:=s1.w) (C:=s1.g.C) i c v.cells[i] hzi (by simp);exact⟨v.cells[i],by simp,.p _ _ this,this.one⟩) i x q
   simp_all⟩
 have k:upd (gU os new++[(new+os.length,Blk.box (lQ os new (zero.map .p)))]) s.σ=(upd (gU os new) s.σ).set (new+os.length) (.box (lQ os new (zero.map .p))):=by rw[eR];rfl
 refine fX (e:=⟨.ptr (new+os.length) 0,gU os new++[(new+os.length,.box (lQ os new (zero.map .p)))]⟩) (v:=.pointer (some ⟨s.w.heap.size,0,none⟩)) (g':=eZ y (new+os.length) (some (s.w.heap.size,0))) ?_
  (by rw[k];exact B) (by rw[k];exact A.trans t') (by rw[k];exact .ptr (new+os.length) 0 _ 0 (if_pos rfl) ⟨_,gZ r⟩)
 simp_all [execOp,Instr.alloc,DH,newVar,newRow];cases hc
theorem JEy(hi:Inv s)(he:bM s a.tmps env)(hn:s.σ[new]?=some .dead){esz x}(h:(opR F (.storen esz x) new).run ⟨env,s.σ⟩=some e)(hc:JV P (.storen esz x) o.op=true):bL P o a s e:=by
 simp only[opR]at h;obtain⟨u,h1,M⟩:=bind_some h;obtain⟨H,h2,B⟩:=bind_some M;clear h M;simp only[RM.run]at B;injection B with B;subst B;obtain⟨K,R⟩:=OY hi hn esz;unfold JV at hc;simp only at hc;split at hc;rename_i t N ae;simp only[JX,beq_iff_eq]at hc;obtain⟨hs,hx⟩:=hc;have v:=bH he h1 hx;have O: ∀{r n:Nat} {w':World},a.eval N=.pointer (some ⟨r,n,none⟩)->(storeVar t ⟨r,n,none⟩ (.slice none 0 0)).run P s.w=.ok () w'->(execOp a.eval o).run P s.w=.ok .skip w':=by intro r n w' S a7;have aa:a.eval (.const (.slice none 0 0))=.slice none 0 0:=rfl;simp_all [execOp,Instr.storeAt,Instr.sureAddr]
 unfold hQ at h2;split at h2;rename_i b off;simp only[RM.run]at h2;split at h2;rename_i blk G;split at h2;rename_i cs;split at h2;rename_i l hl;split at h2;rename_i a4;split at h2;rename_i cs' D;simp only[RM.run]at h2;injection h2 with h2;subst h2;have G:s.σ[b]?=some (.box cs):=G;have Q:new≠b:=λe=>by simp_all
 let s1:Sn:=⟨s.σ.set new (.arr true esz []),eZ s.g new none,s.w⟩
 have C:s1.σ[b]?=some (.box cs):=(rP Q).trans G;have Z:JJ s1 (.slr new 0 0) (.slice none 0 0):=
  .slr new 0 0 _ true esz [] ⟨none,0,rfl,.inl rfl⟩ (gZ hn) (zQ0 _) λ_=>.inl ⟨if_pos rfl,rfl,rfl,rfl⟩
 generalize S:a.eval N=z at v;have v:=JJ.mono (s:=s1) hi R v;cases v with
 |ptr _ _ r n m a8=>
  obtain⟨k1,J,Y⟩:=RF hl Z;obtain⟨T,j2,V,j4⟩:=OJ D;obtain⟨r1,o1,c,et,fz,A,I,ab,a9,hf⟩:=K.box b cs C;rw[m]at A;injection A with A;injection A with m1 m2;subst m1 m2;have q:=DZ (vs:=(Value.slice none 0 0).cells.toList) (o:=n+off) I (by simp;omega);have hlen:(Value.slice none 0 0).cells.toList.length=l.length:=by simp[k1]
  obtain⟨i',t'⟩:=d8 (s0:=s1) K (blk:=.box cs') C q (λk h1 h2=>by
   grind [Wr1]) (.box _ _ T) (λa5 j E=>by
   injection j with j;subst j;obtain⟨c0,e0,ad,c',y,U,p3,p4,W,p6⟩:=q.there;rw[I]at y;injection y with y;injection y with q1 q2 q3;subst q1 q2 q3;refine⟨r,n,c',et,fz,m,U,by omega,λi x L=>?_,by simp_all⟩;by_cases af:off<=i/\i<off+l.length;have H:cs'[off+(i-off)]?=l[i-off]?:=V (i-off) (by omega);rw[show off+(i-off)=i by omega,L]at H;have a6:i-off<(Value.slice none 0 0).cells.size:=by omega
   have e2:=W (i-off) (Value.slice none 0 0).cells[i-off] (by simp);refine⟨(Value.slice none 0 0).cells[i-off],by rw[<-e2];congr 1;omega,E (Y (i-off) x _ H.symm (by simp)),J _ (by simp)⟩;grind)
   (λ_ _ j=>by cases j)
  refine ei (e:=⟨gJ,(new,.arr true esz [])::[(b,.box cs')]⟩) (O S (fx (by simp_all) I (by omega) (λk h1 h2=>hf k (by omega) (by omega)) J)) rfl i' (R.trans t')
 cases h2;cases h2;cases h2;cases h2;cases h2;rename_i b ext i off;have ac:(fz (.slr new 0 0)).run ⟨env,s.σ⟩=none:=(by grind [fz,RM.run]);simp only[RM.run]at h2;split at h2;split at h2;split at h2;split at h2;grind [run_bind];cases h2;cases h2;cases h2;cases h2;cases h2;cases hc
theorem JES(hi:Inv s)(he:bM s a.tmps env){zero parts os}(D: ∀j,j<os.length->s.σ[new+j]?=some .dead)(h:(opR F (.buildo zero parts os) new).run ⟨env,s.σ⟩=some e)
  (hc:JV P (.buildo zero parts os) o.op=true):bL P o a s e:=by
 simp only[opR]at h;obtain⟨l,h1,q⟩:=bind_some h;clear h;unfold JV at hc;simp only at hc;split at hc;rename_i t ps a9;simp only[JX]at hc;obtain⟨⟨hz,hn⟩,ht⟩:=hc;obtain⟨z,M,aa,O⟩:=rQ hz;obtain⟨Q,i1,N,J,ab⟩:=cv os new hi D;split at q;rename_i cs hcs;split at q;rename_i r h3;simp only[RM.run]at q;injection q with q;subst q
 let s1:Sn:=⟨upd (gU os new) s.σ,Q,s.w⟩
 have E: ∀(i:Nat) x,(lQ os new (zero.map AV.p))[i]?=some x-> ∃u,z.cells[i]?=some u/\JJ s1 x u/\u.oneCell'=true:=
  cu (s:=s1) (cells:=z.cells) os new (rh M hn) J (by
   intro i x I;rw[gE]at I;cases hzi:zero[i]? with
   |none=>simp_all
   |some c=>
    simp[hzi]at I;subst I;have K:=Jq hzi;have W:i<z.cells.size:=by omega
    have:=O (w:=s1.w) (C:=s1.g.C) i c z.cells[i] hzi (by simp);exact⟨z.cells[i],by simp,.p _ _ this,this.one⟩)
 have fin: ∀{place:Nat->Option (Nat×Nat)},rL place parts ps.toList=true->
   ∃n,Instr.fill place z.cells (ps.toList.map λx=>(x.1,a.eval x.2))=some n/\JJ s1 r (.agg n):=by
  intro place B;obtain⟨T,k2⟩:=fb he h1 B;obtain⟨n,L,Z,f3⟩:=dj (s:=s1) (cells:=z.cells) hcs T (λk off size cs i v hk G=>by obtain⟨Y,V,S,U⟩:=k2 k off size cs i v hk G;exact⟨Y,V,S,λj y u R H=>(U j y u R H).mono hi N⟩) (by grind [dw]) E;refine⟨n,L,?_⟩;have:=NT (s:=s1) (vs:=n.toList) h3 (by simpa using Z) (λv G=>by
    obtain⟨i,hi'⟩:=lZ G;have hi':n[i]?=some v:=by simpa using hi'
    have K:=QP hi';obtain⟨u,H,_,h1⟩:=f3 i cs[i] (by simp_all);simp_all)
   (λi y v R G=>by
    grind)
  simp_all
 have ac:(ps.map λx=>(x.1,a.eval x.2)).toList=ps.toList.map λx=>(x.1,a.eval x.2):=by simp
 split at ht;rename_i fs H;simp only[JX]at ht;obtain⟨A,B⟩:=ht;obtain⟨n,L,hr⟩:=fin B;have a8:(λi=>(fs.map λf=>(f.offset,(szT P f.type).getD 0))[i]?)=DA P fs:=by
  funext i
  simp only[DA,Array.getElem?_map];cases hfi:fs[i]? with
  |none=>rfl
  |some f=>have:=SY.1 A f (Array.mem_of_getElem? hfi);cases hq:szT P f.type<;>simp[hq]at this⊢
 have a1:(fs.mapM λf=>do pure (f.offset,<-sizeOf f.type):Sem (Array (Nat×Nat))).run P s.w=.ok (fs.map λf=>(f.offset,(szT P f.type).getD 0)) s.w:=by
  rw[Array.mapM_eq_mapM_toList];simp only[Sem.run_map,fa (P:=P) (fs:=fs.toList) (λf hf=>SY.1 A f (by simpa using hf)),sM]
  congr 1
  grind
 have hf:Instr.fill (λi=>(fs.map λf=>(f.offset,(szT P f.type).getD 0))[i]?) z.cells (ps.map λx=>(x.1,a.eval x.2)).toList=some n:=by simp_all
 have hb:(Instr.build t (ps.map λx=>(x.1,a.eval x.2))).run P s.w=.ok (.agg n) s.w:=by simp_all [Instr.build,DH,run_underlying]
 refine fX (e:=⟨r,gU os new⟩) (v:=.agg n) (g':=Q) ?_ i1 N hr;simp_all [execOp];cases ht;cases q;cases q;cases hc
end
end Go.Am
end
section
namespace Go.Am
theorem Ev{new:Nat}{env:List (Nat×AV)}{σ:List Blk}: ∀{k new:Nat} {u:Unit},(sS new k).run ⟨env,σ⟩=some u-> ∀j,j<k->σ[new+j]?=some .dead
 |0,_,_,_,j,hj=>by omega
 |k+1,new,u,h,j,hj=>by
  simp only[sS,RM.run]at h;split at h;rename_i x e;cases x with
  |dead=>
   dsimp only at h;cases j with
   |zero=>exact e
   |succ j=>have:=Ev (new:=0) h j (by omega);grind
  |box=>cases h
  |arr=>cases h
  cases h
section
variable {P:Program} {F:Orc} {s:Sn} {a:Act} {env:List (Nat×AV)} {o:Oper} {new:Nat} {e:Eff}
theorem JMj(q:iV P F)(hi:Inv s)(he:bM s a.tmps env){n:AOp}(h:(opD F n new).run ⟨env,s.σ⟩=some e)(hc:JV P n o.op=true):bL P o a s e:=by
 unfold opD at h;obtain⟨u,r,h⟩:=bind_some h;have g:=Ev (new:=0) r;clear r;have j:kL n=1->s.σ[new]?=some .dead:=λh1=>g 0 (by omega);cases n with
 |mv x=>grind [JM2]
 |mkarr esz x=>exact JGc hi (j rfl) h hc
 |pick=>grind [JIx]
 |newbox=>exact JET hi (j rfl) h hc
 |box=>exact JJZ hi he (j rfl) h hc
 |build=>grind [JGh]
 |lits=>grind [JJj,kL]
 |load=>grind [JJr]
 |store=>grind [JGV]
 |nilchk=>grind [JEb]
 |bin op t x y=>cases t<;>grind [Io,Fh,JA4,JAi,F6,JAf]
 |un=>grind [JLU]
 |conv k x=>
  grind [JCU,kL,JJe]
 |mkslice=>grind [JCi,kL]
 |slice=>grind [JGb]
 |faddr=>grind [JGj]
 |field=>grind [JGu]
 |iaddr=>grind [JH7]
 |aaddr=>grind [JHv]
 |sidx=>grind [JIF]
 |aidx=>grind [JJg]
 |extr=>grind [JJm]
 |call=>exact JJ8 q hi he g h hc
 |callv=>exact JFN q hi he g h hc
 |len=>grind [JJW]
 |alen=>grind [JJH]
 |app=>grind [JK7]
 |appz=>grind [JJE]
 |appn=>exact JJh hi he (j rfl) h hc
 |appc=>exact JIt hi he (j rfl) h hc
 |ppre=>exact JJa hi he h hc
 |psuf=>exact JJ3 hi he h hc
 |appp=>exact JIC hi he h hc
 |mm=>grind [JM6]
 |mkfn=>grind [JID]
 |newboxo=>exact JBK hi g h hc
 |buildo=>exact JES hi he g h hc
 |storen=>exact JEy hi he (j rfl) h hc
 |callo=>exact JFU q hi he g h hc
end
def yI(P:Program)(N:Nat)(ops:Array Oper)(i:bV)(o:Oper):Bool:=
 JV P i.op o.op&&i.dst==o.dst&&(match i.dst with
  |some d=>decide (d<N)
  |none=>true)&&(match i.g,o.guard with
  |none,none=>true
  |some (g,w),some (j,w')=>w==w'&&(ops[j]?).bind (·.dst)==some g
  |_,_=>false)
def Sim(N:Nat)(E:Sn)(st:St)(a:Act)(w:World):Prop:=a.tmps.size=N/\a.defers=[]/\ ∃g,Inv ⟨st.sto,g,w⟩/\bM ⟨st.sto,g,w⟩ a.tmps st.env/\aZ E ⟨st.sto,g,w⟩
theorem bM.put{s:Sn}{tmps:Array Value}{env:List (Nat×AV)}(he:bM s tmps env){d:Nat}(hd:d<tmps.size){x:AV}{v:Value}(hv:JJ s x v):
  bM s (tmps.setIfInBounds d v) ((d,x)::env):=by
 intro n y e;simp only[lk]at e;split at e;simp_all;rename_i g;obtain⟨u,h1,h2⟩:=he n y e;grind
theorem Sim.putd{N:Nat}{E:Sn}{st:St}{a:Act}{w w':World}{g g':Gh}{e:Eff}{v:Value}{d:Option Nat}
  (h1:a.tmps.size=N) (h2:a.defers=[]) (hi:Inv ⟨st.sto,g,w⟩) (he:bM ⟨st.sto,g,w⟩ a.tmps st.env) (ht:aZ E ⟨st.sto,g,w⟩) (hd: ∀x,d=some x->x<N)
  (hi':Inv ⟨upd e.ws st.sto,g',w'⟩) (h:aZ ⟨st.sto,g,w⟩ ⟨upd e.ws st.sto,g',w'⟩) (hv:JJ ⟨upd e.ws st.sto,g',w'⟩ e.val v):
  Sim N E (Am.put d e st) (a.put d v) w':=by
 have j:=he.mono hi h;cases d with
 |none=>exact⟨h1,h2,g',hi',j,ht.trans h⟩
 |some d=>exact⟨by grind [Act.put],h2,g',hi',j.put (by simp_all) hv,ht.trans h⟩
section
variable {P:Program} {F:Orc} {N:Nat} {E:Sn} {st:St} {a:Act} {w:World} {ops:Array Oper} {i:bV} {o:Oper} {e:Eff} {new k:Nat} {Q:Exit->Act->World->Prop} {K:Act->World->Prop}
theorem JC6{s:Sn}:JJ s gJ undef:=.tup _ _ rfl λi x v h=>by simp at h
theorem Cm(D:iV P F)(hs:Sim N E st a w)(ho:ops[k]?=some o)(hc:yI P N ops i o=true)(h:(bZ F i new).run st=some e)
  (next: ∀n w',Sim N E (Am.put i.dst e st) n w'->K n w'):wpOp P ops Q k K a w:=by
 obtain⟨h1,h2,g,hi,y,ht⟩:=hs;simp only[yI,JX,beq_iff_eq]at hc;obtain⟨⟨⟨hc,H⟩,J⟩,q⟩:=hc;have z: ∀x,i.dst=some x->x<N:=(by grind);have run: ∀{e:Eff},(opD F i.op new).run st=some e->(∀n w',Sim N E (Am.put i.dst e st) n w'->K n w')->o.wp P a w K Q:=(by intro e h next;refine JMj (s:=⟨st.sto,g,w⟩) (env:=st.env) D hi y h hc K Q λv w' g' hi' I A=>next _ _ ?_;grind [Sim.putd]);have skip:(∀n w',Sim N E (Am.put i.dst ⟨gJ,[]⟩ st) n w'->K n w')->K (a.put o.dst undef) w:=by intro next;refine next _ _ ?_;rw[<-H];exact Sim.putd (e:=⟨gJ,[]⟩) h1 h2 hi y ht z hi (.refl _) JC6
 unfold wpOp;rw[ho];dsimp only;unfold bZ at h;cases hig:i.g with
 |none=>
  grind [Region.wanted]
 |some G=>
  obtain⟨L,C⟩:=G;rw[hig]at h q;cases hog:o.guard with
  |none=>simp_all
  |some x=>
   obtain⟨j,B⟩:=x;rw[hog]at q;simp only[JX,beq_iff_eq]at q;obtain⟨rfl,R⟩:=q;simp only[RM.run]at h;split at h;rename_i v A;obtain⟨u,O,r⟩:=y _ _ A;split at h;rename_i b;cases r with
   |p _ _ r=>
    cases r with
    |b x=>
     have M:yielded ops a.tmps j=some b:=by grind [yielded]
     grind [Region.wanted,RM.run]
   cases r with
   |tup _ vs hl _=>
    grind [yielded,Region.wanted,RM.run]
   cases h;cases h
end
theorem mn{σ:List Blk}{n b:Nat}{x:Blk}(h:(σ++List.replicate n Blk.dead)[b]?=some x)(hx:x≠.dead):σ[b]?=some x:=by
 grind
theorem px{σ:List Blk}{n b:Nat}{x:Blk}(h:σ[b]?=some x):(σ++List.replicate n Blk.dead)[b]?=some x:=by
 grind
theorem OL{σ:List Blk}{g:Gh}{w:World}{n b r o:Nat}:Wr1 ⟨σ++List.replicate n .dead,g,w⟩ b r o↔Wr1 ⟨σ,g,w⟩ b r o:=by
 grind [Wr1]
theorem fc{σ:List Blk}{g:Gh}{w:World}{n:Nat}:aZ ⟨σ,g,w⟩ ⟨σ++List.replicate n .dead,g,w⟩ where
 keep:=.refl _ _
 cmono _ _ h:=h
 cnew _ _ h:=.inl h
 wnew _ _ h:=let⟨b,e⟩:=h;.inl ⟨b,OL.1 e⟩
 len:=by simp
 box b cs h:=⟨⟨cs,px h,rfl⟩,rfl⟩
 arr b wm esz rows h:=⟨wm,rows,px h,id,zQ0 _,λ_=>rfl⟩
theorem JHT{σ:List Blk}{g:Gh}{w:World}{n:Nat}(hi:Inv ⟨σ,g,w⟩):Inv ⟨σ++List.replicate n .dead,g,w⟩:=by
 have t:=fc (σ:=σ) (g:=g) (w:=w) (n:=n);refine⟨λb cs h=>?_,λb wm esz rows h=>?_,λb1 b2 r o h1 h2=>hi.apart b1 b2 r o (OL.1 h1) (OL.1 h2),λr o j=>⟨(hi.const r o j).1,λb B=>(hi.const r o j).2 b (OL.1 B)⟩⟩;obtain⟨r,o,c,e,fz,C,F,D,z,y⟩:=hi.box b cs (mn h (by simp));exact⟨r,o,c,e,fz,C,F,D,λi x E=>let⟨v,k,A,q⟩:=z i x E;⟨v,k,A.mono hi t,q⟩,y⟩;exact hi.arr b wm esz rows (mn h (by simp))
theorem Sim.room{N:Nat}{E:Sn}{st:St}{a:Act}{w:World}(h:Sim N E st a w)(n:Nat):Sim N E ⟨st.env,room n st.sto⟩ a w:=by
 unfold Am.room;split;exact h;obtain⟨h1,h2,g,hi,e,ht⟩:=h;exact⟨h1,h2,g,JHT hi,e.mono hi fc,ht.trans fc⟩
theorem Sim.heap{N:Nat}{E:Sn}{st:St}{a:Act}{w w':World}(h:Sim N E st a w)(hh:w'.heap=w.heap)(ho:w'.os=w.os)(hp:w'.output=w.output):Sim N E st a w':=by obtain⟨h1,h2,g,hi,j,ht⟩:=h;obtain⟨e,t'⟩:=PY hi hh ho hp;exact⟨h1,h2,g,e,j.mono hi t',ht.trans t'⟩
theorem Sim.congr{N:Nat}{E:Sn}{st st':St}{a:Act}{w:World}(h:Sim N E st a w)(he: ∀m,lk m st'.env=lk m st.env)(hs:st'.sto=st.sto):Sim N E st' a w:=by obtain⟨h1,h2,g,hi,e,ht⟩:=h;refine⟨h1,h2,g,?_⟩;rw[hs];exact⟨hi,λn x j=>e n x (by simp_all),ht⟩
end Go.Am
end
section
namespace Go.Am
def eK(P:Program)(N:Nat)(ops:Array Oper):List bV->List Oper->Bool|[],[]=>true|i::r,o::q=>yI P N ops i o&&eK P N ops r q|_,_=>false
def QS(x y:bV):Bool:=
 (match x.dst with
 |none=>true
 |some m=>y.dst !=some m&& !(wA y).contains m)&&(match y.dst with
 |none=>true
 |some m=> !(wA x).contains m)
def PT(x y:bV):Bool:=(!xT x.op|| !FR y.op)&&(!xT y.op|| !FR x.op)
def GL:List Nat->List Nat->List Nat|[],acc=>acc|x::r,acc=>match acc.contains x with|true=>GL r acc|false=>GL r (x::acc)
theorem eh{i:Nat}: ∀{l acc:List Nat},i∈GL l acc->i∈l\/i∈acc
 |[],_,h=>.inr h
 |x::r,acc,h=>by
  simp only[GL]at h;split at h;exact(eh h).imp (FW _) id
  ·rcases eh h with h|h
   all_goals grind
def Be(l:List Nat):List Nat:=GL l []
theorem JFB{i:Nat}{l:List Nat}(h:i∈Be l):i∈l:=(eh h).resolve_right (by simp)
def Bt(acc:List (List Nat))(o:Oper):List Nat:=Be<|(o.after.toList.filter λe=>Region.binds .any e).flatMap λe=>e.on::(acc[e.on]?).getD []
def j5(acc:List (List Nat)):List Oper->List (List Nat)|[]=>acc|o::r=>j5 (acc++[Bt acc o]) r
def ZA(e:List (List Nat))(pairs:List (Nat×Nat))(i j:Nat)(x y:bV):Bool:=
 ((e[j]?).getD []).contains i||(QS x y&&(PT x y||pairs.contains (i,j)))
def KA(e:List (List Nat))(pairs:List (Nat×Nat))(j:Nat)(y:bV):Nat->List bV->Bool|_,[]=>true|i,x::r=>(decide (j<=i)||ZA e pairs i j x y)&&KA e pairs j y (i+1) r
def ON(g:List (List Nat))(pairs:List (Nat×Nat))(e:List bV):Nat->List bV->Bool|_,[]=>true|j,y::r=>KA g pairs j y 0 e&&ON g pairs e (j+1) r
def PN:Nat->List Oper->Bool|_,[]=>true|j,o::r=>(o.after.all λe=> !Region.binds .any e||decide (e.on<j))&&PN (j+1) r
def XH(P:Program)(N:Nat)(draw:Bool)(pairs:List (Nat×Nat))(ins:List bV)(ops:Array Oper):Bool:=
 eK P N ops ins ops.toList&&(!draw||(PN 0 ops.toList&&ON (j5 [] ops.toList) pairs ins 0 ins))
section
variable {P:Program} {F:Orc} {N:Nat} {E:Sn} {st st':St} {a:Act} {w:World} {ops:Array Oper} {Q:Exit->Act->World->Prop}
theorem oz: ∀{ins:List bV} {os:List Oper},eK P N ops ins os=true->ins.length=os.length/\ ∀(k:Nat) i,ins[k]?=some i-> ∃o,os[k]?=some o/\yI P N ops i o=true
 |[],[],_=>⟨rfl,by simp⟩
 |i::r,o::q,h=>by
  simp only[eK,JX]at h;obtain⟨h1,h2⟩:=oz h.2;grind
 |[],_::_,h=>by grind [eK]
 |_::_,[],h=>by grind [eK]
theorem py(v:iV P F): ∀{r:List bV} {k new:Nat} {st:St} {a:Act} {w:World},(∀(j:Nat) i,r[j]?=some i-> ∃o,ops[k+j]?=some o/\yI P N ops i o=true)->
  fW F r new st=some st'->Sim N E st a w->(∀n w',Sim N E st' n w'->Q .normal n w')->wpOps P ops Q (List.range' k r.length) a w
 |[],k,new,st,a,w,_,h,q,next=>by simp only[fW]at h;cases h;exact next a w q
 |i::r,k,new,st,a,w,y,h,q,next=>by
  simp only[fW]at h;split at h;rename_i e A;obtain⟨o,x,g⟩:=y 0 i rfl;rw[FP,List.range'_succ,wpOps_cons];refine Cm v q x g A λn w' hs'=>py v (λj i z=>?_) h hs' next;obtain⟨o,x,g⟩:=y (j+1) i (by simpa using z);grind;cases h
theorem By: ∀{ins:List bV} {g:Nat} {st:St},fW F ins g st=some st'->
  ∃(new:Nat->Nat) (S:Nat->St) (eff:Nat->Eff),Run F ins new S eff/\S 0=st/\S ins.length=st'
 |[],g,st,h=>by
  simp only[fW]at h;injection h with h;subst h;exact⟨λ_=>0,λ_=>st,λ_=>⟨gJ,[]⟩,⟨by simp⟩,rfl,rfl⟩
 |i::r,g,st,h=>by
  simp only[fW]at h;split at h;rename_i e q;obtain⟨new,S,eff,j,o,hl⟩:=By h;refine⟨fun|0=>g|k+1=>new k,fun|0=>st|k+1=>S k,fun|0=>e|k+1=>eff k,⟨λk x n=>?_⟩,rfl,hl⟩;cases k with
  |zero=>simp_all
  |succ k=>exact j.step k x (by simpa using n)
  cases h
theorem Ck: ∀{ins:List bV} {g:Nat} {st:St} {l j:Log},iU F ins g st l=some (st',j)->
  ∃(new:Nat->Nat) (S:Nat->St) (eff:Nat->Eff),Run F ins new S eff/\S 0=st/\S ins.length=st'/\
   (∀k,k<l.length->j[k]?=l[k]?)/\ ∀(k:Nat) i,ins[k]?=some i->j[l.length+k]?=some (iW ((bZ F i (new k)).reads (S k)),(eff k).ws.map (·.1))
 |[],g,st,l,j,h=>by
  simp only[iU]at h;injection h with h;injection h with h1 h2;subst h1 h2;exact⟨λ_=>0,λ_=>st,λ_=>⟨gJ,[]⟩,⟨by simp⟩,rfl,rfl,λ_ _=>rfl,by simp⟩
 |i::r,g,st,l,j,h=>by
  simp only[iU]at h;split at h
  ·rename_i e y;obtain⟨new,S,eff,o,q,hl,w,z⟩:=Ck h;refine⟨fun|0=>g|k+1=>new k,fun|0=>st|k+1=>S k,fun|0=>e|k+1=>eff k,⟨λk x n=>?_⟩,rfl,hl,λk v=>?_,λk x n=>?_⟩
   cases k with
   |zero=>simp_all
   |succ k=>exact o.step k x (by simpa using n)
   all_goals grind
  cases h
theorem QM{b:Nat}: ∀{l:List Loc},Loc.blk b∈l->b∈iW l
 | .blk c::r,h=>by
  simp only[iW,eJ]at*;rcases h with h|h;simp_all;exact .inr (QM h)
 | .slot n::r,h=>by simp only[iW];refine QM ?_;simpa using h
 |[],h=>by simp at h
theorem ds{a b:List Nat}(h:fZ a b=true){x:Nat}(hx:x∈a):x∉b:=by
 grind [fZ]
theorem qy{l:Log}: ∀{ps:List (Nat×Nat)} {i j:Nat},DG l ps=true->(i,j)∈ps->
  ∃x y,l[i]?=some x/\l[j]?=some y/\fZ x.2 y.1=true/\fZ x.2 y.2=true/\fZ x.1 y.2=true
 |[],i,j,_,h=>by simp at h
 |(p,q)::r,i,j,h,hm=>by
  simp only[DG,JX]at h;obtain⟨h1,h2⟩:=h;rcases eJ.1 hm with e|e;grind;exact qy h2 e
def ZN(ops:Array Oper)(D:Nat->Bool)(k:Nat):Prop:= ∀o,ops[k]?=some o-> ∀e∈o.after,Region.binds .any e=true->D e.on=true
def Bo(ops:Array Oper)(D:Nat->Bool):Prop:= ∀k,D k=true->ZN ops D k
def g8(ops:Array Oper)(k i:Nat):Prop:= ∀D,Bo ops D->ZN ops D k->D i=true
theorem Cc: ∀{os:List Oper} {acc:List (List Nat)},(∀(j:Nat) o,os[j]?=some o->ops[acc.length+j]?=some o)->(∀(k:Nat) l i,acc[k]?=some l->i∈l->g8 ops k i)->
  ∀(k:Nat) l i,(j5 acc os)[k]?=some l->i∈l->g8 ops k i
 |[],acc,_,n=>n
 |o::r,acc,y,n=>by
  refine Cc (os:=r) (acc:=acc++[Bt acc o]) (λj x A=>?_) λk l i g hi=>?_;have:=y (j+1) x (by simpa using A);grind;rcases vV g with g|⟨B,g⟩;simp_all;have q:k=acc.length:=(by grind);subst q;simp at g;subst g;intro D hD z;replace hi:=JFB hi;simp only[List.mem_flatMap,List.mem_filter]at hi;obtain⟨e,⟨w,v⟩,hi⟩:=hi;have h:=z o (by simpa using y 0 o rfl) e (by simpa using w) v;rcases eJ.1 hi with rfl|hi;exact h;cases hac:acc[e.on]? with
  |none=>simp_all
  |some l=>rw[hac]at hi;exact n _ l i hac hi D hD (hD _ h)
theorem ru{g:List (List Nat)}{pairs:List (Nat×Nat)}{j:Nat}{y:bV}: ∀{r:List bV} {e:Nat},KA g pairs j y e r=true-> ∀(k:Nat) x,r[k]?=some x->e+k<j->ZA g pairs (e+k) j x y=true
 |[],e,_,k,x,n,_=>by simp at n
 |z::r,e,h,k,x,n,o=>by
  simp only[KA,JX,BP,decide_eq_true_eq]at h;cases k with
  |zero=>grind
  |succ k=>
   have:=ru h.2 k x (by simpa using n) (by omega);grind
theorem qs{j:List (List Nat)}{pairs:List (Nat×Nat)}{g:List bV}: ∀{r:List bV} {e:Nat},ON j pairs g e r=true-> ∀(k:Nat) y,r[k]?=some y->KA j pairs (e+k) y 0 g=true
 |[],e,_,k,y,n=>by simp at n
 |z::r,e,h,k,y,n=>by
  simp only[ON,JX]at h;cases k with
  |zero=>simp_all
  |succ k=>
   have:=qs h.2 k y (by simpa using n);grind
theorem rq: ∀{r:List Oper} {g:Nat},PN g r=true-> ∀(k:Nat) o,r[k]?=some o-> ∀e∈o.after,Region.binds .any e=true->e.on<g+k
 |[],g,_,k,o,j=>by simp at j
 |z::r,g,h,k,o,j=>by
  simp only[PN,JX]at h;cases k with
  |zero=>
   grind [Array.all_eq_true_iff_forall_mem]
  |succ k=>intro e n q;have:=rq h.2 k o (by simpa using j) e n q;omega
theorem JGK{x y:bV}(h:QS x y=true):(∀m,x.dst=some m->y.dst≠some m/\m∉wA y)/\(∀m,y.dst=some m->m∉wA x):=by
 grind [QS]
variable {ins:List bV} {new:Nat->Nat} {S:Nat->St} {eff:Nat->Eff}
theorem JHB(hr:Run F ins new S eff){i j:Nat}(hi:i<ins.length)(hj:j<ins.length)(h1:QS ins[i] ins[j]=true)
  (h2:PT ins[i] ins[j]=true\/(fZ ((eff i).ws.map (·.1)) (iW ((bZ F ins[j] (new j)).reads (S j)))=true/\
   fZ ((eff i).ws.map (·.1)) ((eff j).ws.map (·.1))=true/\fZ (iW ((bZ F ins[i] (new i)).reads (S i))) ((eff j).ws.map (·.1))=true)):MN F ins new S eff i j:=by
 obtain⟨s1,B⟩:=JGK h1;have o:ins[i]?=some ins[i]:=aS hi;have n:ins[j]?=some ins[j]:=aS hj;obtain⟨w,_⟩:=hr.step i _ o;obtain⟨r,_⟩:=hr.step j _ n;refine⟨λx y m g e q=>?_,λx y m g e q hl=>?_,λy b e k=>?_,λx b g k hl=>?_⟩;rw[o]at g;cases g;rw[n]at e;cases e;exact⟨(s1 m q).1,λhl=>(s1 m q).2 (Et F _ _ _ _ hl)⟩;rw[o]at g;cases g;rw[n]at e;cases e;exact B m q (Et F _ _ _ _ hl);rw[n]at e;cases e;rcases h2 with h2|⟨v,z,A⟩;simp only[PT,JX,BP,lO]at h2;rcases h2.1 with h|h;rw[YX F _ _ h _ _ w]at k;simp at k;refine⟨?_,D8 F _ _ h _ _ r b⟩;rw[YX F _ _ (Bk h) _ _ r];simp;exact⟨ds z k,λhl=>ds v k (QM hl)⟩;rw[o]at g;cases g;rcases h2 with h2|⟨v,z,A⟩;simp only[PT,JX,BP,lO]at h2;rcases h2.2 with h|h;rw[YX F _ _ h _ _ r]at k;simp at k;exact D8 F _ _ h _ _ w b hl;grind [ds,QM]
def Dl(e:Array Bool):Nat->Bool:=λj=>e.getD j false
theorem Cd{e:Array Bool}{i:Nat}(hi:i<e.size):Dl (e.setIfInBounds i true)=λj=>if j=i then true else Dl e j:=by
 funext j
 unfold Dl;by_cases h:j=i
 all_goals simp_all [Ne.symm]
theorem qo{l:Array Bool}{i:Nat}(hi:i<l.size)(h:l.getD i false=false):(l.setIfInBounds i true).count false+1=l.count false:=by
 have e:l[i]=false:=by simp_all
 grind [Array.getElem_mem]
theorem qn{l:Array Bool}(h:l.count false=0){i:Nat}(hi:i<l.size):l.getD i false=true:=by
 grind [qo]
theorem A1{l:Array Bool}: ∀m,m<=l.size->(∀j,j<m->Dl l j=true)\/ ∃k,k<m/\Dl l k=false/\ ∀j,j<k->Dl l j=true
 |0,_=>.inl λj e=>by omega
 |m+1,h=>by
  rcases A1 (l:=l) m (by omega)with h1|⟨k,a,b,c⟩
  all_goals grind
theorem JEW{l:Array Bool}{j:Nat}(hj:j<l.size):l.getD j true=l.getD j false:=by simp[hj]
theorem JLD(hF:iV P F)(hr:Run F ins new S eff)(hlen:ins.length=ops.size)(hc: ∀(k:Nat) i,ins[k]?=some i-> ∃o,ops[k]?=some o/\yI P N ops i o=true)
  (G: ∀(k:Nat) o,ops[k]?=some o-> ∀e∈o.after,Region.binds .any e=true->e.on<k)
  (K: ∀i j,i<j->j<ins.length->g8 ops j i\/MN F ins new S eff i j)
  (next: ∀H w',Sim N E (S ins.length) H w'->Q .normal H w'):
  ∀(n:Nat) (g:Array Bool) (st:St) (a:Act) (w:World),g.size=ops.size->Agree ins eff (S 0) (Dl g) st->Sim N E st a w->Bo ops (Dl g)->g.count false=n->
   wpAny P .any ops Q n g a w:=by
 intro n
 induction n with
 |zero=>
  intro g st a w L C R r B;refine⟨?_,?_⟩;cases hre:Region.ready .any ops g with
  |nil=>rfl
  |cons j l=>
   exfalso;have h:j∈Region.ready .any ops g:=by rw[hre];simp
   grind [mem_ready,qn]
  ·obtain⟨e1,e2⟩:=JEt hr C λj x=>qn B (by omega);exact next a w (R.congr (λm=>(e1 m).symm) e2.symm)
 |succ n ih=>
  intro g st a w L C R r B;refine⟨λa2=>?_,λk I=>?_⟩;exfalso;rcases A1 (l:=g) ops.size (by omega)with z|⟨k,I,D,M⟩;have:g.count false=0:=(by rw[Array.count_eq_zero];intro h;obtain⟨i,hi,y⟩:=Array.getElem_of_mem h;have:=z i (by omega);unfold Dl at this;simp[hi,y]at this);omega;have h:k∈Region.ready .any ops g:=(by rw[mem_ready];refine⟨by rw[JEW (by omega)];exact D,ops[k],by simp[I],λe y A=>?_⟩;exact M _ (G k ops[k] (by simp[I]) e y A));simp_all;obtain⟨h1,o,Y,z⟩:=mem_ready.1 I;have a0:k<ops.size:=(Ad.1 Y).1;have D:Dl g k=false:=by grind [Dl]
  have T:ins[k]?=some (ins[k]'(by omega)):=aS _;obtain⟨o',W,U⟩:=hc k _ T;have q:ZN ops (Dl g) k:=by intro O v e y A;rw[Y]at v;cases v;exact z e y A
  obtain⟨Z,r2⟩:=JH8 hr C T D (λj x hDj=>by
   rcases K j k x (by omega)with h|h;have:=h _ r q;simp_all;exact h) (λj x V hDj=>by
   rcases K k j x V with h|h;have:=h _ r (r j hDj);simp_all;exact h)
  refine Cm hF R W U Z λH w' hs'=>ih _ _ H w' (by simp[L]) ?_ hs' ?_ ?_;grind [Cd];rw[Cd (by omega)];intro j x O v e y A;dsimp only at x⊢;have h:Dl g e.on=true->(if e.on=k then true else Dl g e.on)=true:=by simp_all
  by_cases J:j=k;subst J;exact h (q O v e y A);rw[if_neg J]at x;exact h (r j x O v e y A);grind [qo]
theorem JKi(Y:iV P F)(H:P.follows .mixedOrders=true){id:Nat}{draw:Bool}{pairs:List (Nat×Nat)}{ins:List bV}(h:region F pairs ins st=some st')
  (hc:XH P N draw pairs ins ops=true) (hs:Sim N E st a w) (next: ∀T w',Sim N E st' T w'->Q .normal T w'):(Code.region id ops draw).wp P Q a w:=by
 simp only[XH,JX,BP,lO]at hc;obtain⟨K,C⟩:=hc;obtain⟨hlen,G⟩:=oz K;have hlen:ins.length=ops.size:=by simp_all
 have G: ∀(k:Nat) i,ins[k]?=some i-> ∃o,ops[k]?=some o/\yI P N ops i o=true:=λk i hi=>by simp_all
 have R:=hs.room (news ins);have J: ∃(new:Nat->Nat) (S:Nat->St) (eff:Nat->Eff),Run F ins new S eff/\S 0=⟨st.env,room (news ins) st.sto⟩/\S ins.length=st'/\
   ∀i j,(i,j)∈pairs-> ∃x y,ins[i]?=some x/\ins[j]?=some y/\fZ ((eff i).ws.map (·.1)) (iW ((bZ F y (new j)).reads (S j)))=true/\
   fZ ((eff i).ws.map (·.1)) ((eff j).ws.map (·.1))=true/\fZ (iW ((bZ F x (new i)).reads (S i))) ((eff j).ws.map (·.1))=true:=by
  unfold region at h;split at h;grind [By];split at h;rename_i s' l n;split at h;rename_i M;cases h;obtain⟨new,S,eff,D,B,hl,_,q⟩:=Ck n;refine⟨new,S,eff,D,B,hl,λi j hm=>?_⟩;obtain⟨x,y,W,V,d1,d2,d3⟩:=qy M hm;have O: ∀(k:Nat) z,l[k]?=some z->k<ins.length:=by
   intro k z hk;have:=Jq hk;have a6:l.length=ins.length:=by
    clear q D B hl M W V;have: ∀{r:List bV} {e:Nat} {s0:St} {A v:Log} {s1:St},iU F r e s0 A=some (s1,v)->v.length=A.length+r.length:=by
     intro r
     induction r with
     |nil=>simp[iU]
     |cons i r ih=>
      grind [iU]
    grind
   omega
  have hi:=O i x W;have g:=O j y V;have L:ins[i]?=some ins[i]:=aS hi;have I:ins[j]?=some ins[j]:=aS g;have Z:=q i _ L;have qj:=q j _ I;simp only[List.length_nil,nG]at Z qj;grind;cases h;cases h
 obtain⟨new,S,eff,D,B,hl,M⟩:=J;cases draw with
 |false=>
  refine wp_region ?_;rw[List.range_eq_range',<-hlen];have a7: ∃e,fW F ins e ⟨st.env,room (news ins) st.sto⟩=some st':=by
   unfold region at h;split at h;grind;split at h;rename_i s' l n;split at h;cases h;have: ∀{r:List bV} {e:Nat} {s0:St} {A v:Log} {s1:St},iU F r e s0 A=some (s1,v)->fW F r e s0=some s1:=by
    intro r
    induction r with
    |nil=>intro e s0 A v s1 h;simp only[iU]at h;injection h with h;injection h with h1 h2;subst h1;rfl
    |cons i r ih=>
     grind [iU,fW]
   grind;cases h;cases h
  grind [py]
 |true=>
  obtain⟨he,hd⟩:=C.resolve_left (by simp);refine wp_region_any H ?_;have U:Sim N E (S 0) a {w with drawn:=w.drawn+1}:=by rw[B];exact R.heap rfl rfl rfl
  refine JLD Y D hlen G (λk o ho=>?_) (λi j a8 g=>?_) (by simp_all) ops.size _ (S 0) a _ (by simp) ?_ U ?_ ?_;have:=rq he k o (by simpa using ho);simp_all;have L:ins[i]?=some (ins[i]'(by omega)):=aS _;have I:ins[j]?=some ins[j]:=aS g;have h1:=qs hd j _ I;rw[nG]at h1;have h2:=ru h1 i _ L (by omega);rw[nG]at h2;simp only[ZA,BP,JX]at h2;rcases h2 with h2|⟨h2,h3⟩;grind [Cc];grind [JHB];have:Dl (Array.replicate ops.size false)=λ_=>false:=by
   funext j;unfold Dl;simp[Array.getElem?_replicate];split<;>rfl
  rw[this];exact F7;intro j g;unfold Dl at g;simp[Array.getElem?_replicate]at g;grind;simp
end
end Go.Am
end
section
namespace Go.Am
def cS(P:Program)(N:Nat):cB->Code->Bool
 | .bad,_=>true
 | .skip,c=>match c with| .skip=>true| .label _=>true|_=>false
 | .reg draw pairs ins,c=>match c with| .region _ ops d=>draw==d&&XH P N draw pairs ins ops|_=>false
 | .seq a b,c=>match c with| .seq x y=>cS P N a x&&cS P N b y|_=>false
 | .cond o a b,c=>match c with| .cond p x y=>bJ o p&&cS P N a x&&cS P N b y|_=>false
 | .block id a,c=>match c with| .block e x=>id==e&&cS P N a x|_=>false
 | .loop _ a,c=>match c with| .loop x=>cS P N a x|_=>false
 | .lp _ _ _,_=>false
 | .scope a,c=>match c with| .scope x=>cS P N a x|_=>false
 | .exit id,c=>match c with| .exit e=>id==e|_=>false
 | .ret,c=>match c with| .ret=>true|_=>false
 | .keep _ a,c=>cS P N a c
 | .tidy _ a,c=>cS P N a c
 | .br _ pre o a b rest,c=>match c with| .seq (.seq p (.cond q x y)) z=>cS P N pre p&&bJ o q&&cS P N a x&&cS P N b y&&cS P N rest z|_=>false
def rC:AX->Exit| .normal=>.normal| .exit id=>.exit id| .ret=>.ret
def IS(P:Program)(c:cB)(st:St)(r:Out):Prop:=
 match c with
 | .lp n _ b=> ∃k,∀(N:Nat) (e:Code) (E:Sn) (a:Act) (w:World) (Q:Exit->Act->World->Prop),cS P N b e=true->E.σ.length<=n->n<=st.sto.length->Sim N E st a w->
   (∀g w',Sim N E r.2 g w'->Q (rC r.1) g w')->Code.rounds P e Q k a w
 |c=> ∀(N:Nat) (e:Code) (E:Sn) (a:Act) (w:World) (Q:Exit->Act->World->Prop),cS P N c e=true->Sim N E st a w->
  (∀g w',Sim N E r.2 g w'->Q (rC r.1) g w')->e.wp P Q a w
theorem IS.get{P:Program}{c:cB}{st:St}{r:Out}(h:IS P c st r){N:Nat}{e:Code}{E:Sn}{a:Act}{w:World}{Q:Exit->Act->World->Prop}(hc:cS P N c e=true)(hs:Sim N E st a w)
  (next: ∀g w',Sim N E r.2 g w'->Q (rC r.1) g w'):e.wp P Q a w:=by
 cases c<;>first|exact h N e E a w Q hc hs next|grind [cS]
theorem PD{env:List (Nat×AV)}{n:Nat}{x:AV}: ∀{live:List Nat},lk n (restr live env)=some x->lk n env=some x
 |[],h=>by grind [restr,lk]
 |k::r,h=>by
  simp only[restr]at h;split at h;rename_i v e;simp only[lk]at h;split at h;simp_all;exact PD h;exact PD h
theorem Cx{m:Nat}{sto:List Blk}{n:Nat}{y:AV}: ∀{env g:List (Nat×AV)},uF m sto env=some g->lk n g=some y-> ∃x,lk n env=some x/\fin m [] sto x=some y
 |[],g,h,hy=>by grind [uF,lk]
 |(k,x)::r,g,h,hy=>by
  simp only[uF]at h;split at h;rename_i z l o hl;injection h with h;subst h;simp only[lk]at hy⊢;split at hy;simp_all;rename_i e;obtain⟨j,h1,h2⟩:=Cx hl hy;simp_all;cases h
section
variable {P:Program} {N:Nat} {E:Sn} {st st':St} {a:Act} {w:World}
theorem Sim.restr(h:Sim N E st a w)(live:List Nat):Sim N E ⟨restr live st.env,st.sto⟩ a w:=by obtain⟨h1,h2,g,hi,e,ht⟩:=h;exact⟨h1,h2,g,hi,λn x j=>e n x (PD j),ht⟩
theorem PC{n:Nat}{live:List Nat}(h:Sim N E st a w)(hc:clean n live st=some st')(q:E.σ.length<=n)(hn:n<=st.sto.length):Sim N E st' a w/\st'.sto.length=n:=by
 unfold clean at hc;split at hc;rename_i e;injection hc with hc;subst hc;exact⟨h.restr live,e⟩;split at hc;rename_i ev l o hl;injection hc with hc;subst hc;obtain⟨h1,h2,g,hi,A,ht⟩:=h;obtain⟨D,F⟩:=QJ hl;have hlen:l.length=n:=by simp_all
 have j:j6 ⟨st.sto,g,w⟩ n [] l:=(by refine⟨hi,hn,List.nodup_nil,λb r=>by simp at r,by simp[hlen],λk x G=>?_⟩;grind [tC]);refine⟨⟨h1,h2,(jM ⟨st.sto,g,w⟩ n [] l).g,Db j,λk y z=>?_,pd j ht q⟩,hlen⟩;obtain⟨x,B,hf⟩:=Cx o z;obtain⟨v,C,hrel⟩:=A k x (PD B);exact⟨v,C,YV j hrel hf⟩;cases hc
def nR(P:Program):List uG->List ResultVar->Bool|[],[]=>true| .tmp t::r,.tmp t'::q=>t==t'&&nR P r q| .cell t agg size::r,.cell t' ty::q=>t==t'&&agT P ty==some agg&&szT P ty==some size&&nR P r q|_,_=>false
def TX(tmps:Array Value):ResultVar->Sem Value| .tmp t=>pure (tmps.getD t undef)| .cell a t=>do loadVar t (<-asAddr (tmps.getD a undef))
theorem ZE{s:Sn}{env:List (Nat×AV)}{tmps:Array Value}(hi:Inv s)(he:bM s tmps env): ∀{B:List uG} {C:List ResultVar} {vs:List AV},nR P B C=true->(nB B).run ⟨env,s.σ⟩=some vs->
  ∃j:List Value,(C.mapM (TX tmps)).run P s.w=.ok j s.w/\vs.length=j.length/\ ∀(i:Nat) x v,vs[i]?=some x->j[i]?=some v->JJ s x v
 |[],[],vs,_,h=>by simp_all [nB,RM.run]
 | .tmp t::r,.tmp t'::q,vs,g,h=>by
  simp only[nR,JX,beq_iff_eq]at g;obtain⟨rfl,g⟩:=g;simp only[nB]at h;obtain⟨x,h1,h⟩:=bind_some h;obtain⟨l,h2,h⟩:=bind_some h;simp only[RM.run]at h;injection h with h;subst h;simp only[RM.run]at h1;split at h1;rename_i y A;injection h1 with h1;subst h1;obtain⟨v,M,E⟩:=he _ _ A;obtain⟨j,F,n,G⟩:=ZE hi he g h2;refine⟨v::j,?_,by simp[n],λi x u L J=>?_⟩;simp_all [TX];grind;cases h1
 | .cell t agg size::r,.cell t' ty::q,vs,g,h=>by
  simp only[nR,JX,beq_iff_eq]at g;obtain⟨⟨⟨rfl,N⟩,D⟩,g⟩:=g;simp only[nB]at h;obtain⟨x,h1,h⟩:=bind_some h;obtain⟨e,K,h⟩:=bind_some h;obtain⟨l,h2,h⟩:=bind_some h;simp only[RM.run]at h;injection h with h;subst h;simp only[RM.run]at h1;split at h1;rename_i y A;injection h1 with h1;subst h1;obtain⟨v,M,E⟩:=he _ _ A;obtain⟨j,F,n,G⟩:=ZE hi he g h2;obtain⟨H,o,ws,T,O,I,_,Q⟩:=pe hi K E;obtain⟨R,S⟩:=rm (P:=P) N D O I;have k: ∃u,(loadVar ty ⟨H,o,none⟩).run P s.w=.ok u s.w/\JJ s e.val u:=(by grind);obtain⟨u,J,hrel⟩:=k;refine⟨u::j,?_,by simp[n],λi x z L D=>?_⟩;simp_all [TX,asAddr];grind;cases h1
 |[],_::_,_,g,_=>by grind [nR]
 | .tmp _::_,[],_,g,_=>by grind [nR]
 | .cell _ _ _::_,[],_,g,_=>by grind [nR]
 | .tmp _::_,.cell _ _::_,_,g,_=>by grind [nR]
 | .cell _ _ _::_,.tmp _::_,_,g,_=>by grind [nR]
theorem PZ{m:Nat}{fresh:Bool}{sto:List Blk}: ∀{es:List Ent},∀b∈iX m fresh sto es,m<=b
 |[],b,h=>by grind [iX]
 | .elem _ _ _::r,b,h=>PZ (es:=r) b (by simpa[iX]using h)
 | .whole c::r,b,h=>by
  simp only[iX]at h;split at h;exact PZ (es:=r) b h;rename_i g;have e:b∈c::iX m fresh sto r->m<=b:=(by intro h;rcases eJ.1 h with rfl|h;omega;exact PZ (es:=r) b h);grind
theorem C8{s:Sn}{vs:List AV}{e:List Value}(hl:vs.length=e.length)(hr: ∀(i:Nat) x v,vs[i]?=some x->e[i]?=some v->JJ s x v):
  JJ s (one vs) (if h:e.toArray.size=1 then e.toArray[0]else .tuple e.toArray):=by
 by_cases h:e.toArray.size=1;rw[dif_pos h];cases e with
 |nil=>simp at h
 |cons u q=>
  cases vs with
  |nil=>simp at hl
  |cons x p=>
   have j:q=[]:=by simpa using h
   subst j;have g:p=[]:=by simpa using hl
   subst g;exact hr 0 x u rfl rfl
 rw[dif_neg h];have:one vs=.tup vs:=by
  match vs,hl with
  |[],_=>rfl
  |[x],hl=>simp_all
  |_::_::_,_=>rfl
 rw[this];exact .tup _ _ (by simpa using hl) λi x v n k=>hr i x v n (by simpa using k)
theorem pk{e:AFn}{fn:Func}{m:Nat}{r:Res}(hs:Sim N E st a w)(hm:E.σ.length=m)(h:gW e m st=some r)(hc:nR P e.res fn.results.toList=true):
  a.defers=[]/\ ∃v,(results fn a.tmps).run P w=.ok v w/\ ∃g',Inv ⟨r.2,g',w⟩/\aZ E ⟨r.2,g',w⟩/\JJ ⟨r.2,g',w⟩ r.1 v:=by
 obtain⟨h1,h2,g,hi,J,ht⟩:=hs;refine⟨h2,?_⟩;unfold gW at h;cases hvs:(nB e.res).run st with
 |none=>simp_all
 |some vs=>
  rw[hvs]at h;dsimp only at h;obtain⟨y,Q,V,H⟩:=ZE (P:=P) (s:=⟨st.sto,g,w⟩) (env:=st.env) hi J hc hvs;have n:(results fn a.tmps).run P w=.ok (if h:y.toArray.size=1 then y.toArray[0]else .tuple y.toArray) w:=by
   have:results fn a.tmps=(do
    let vs<-fn.results.mapM (TX a.tmps)
    pure (if h:vs.size=1 then vs[0]else .tuple vs)):=rfl
   simp_all [Array.mapM_eq_mapM_toList]
  refine⟨_,n,?_⟩;split at h;grind [C8];split at h;rename_i C;have z:=PZ (m:=m) (fresh:=e.fresh) (sto:=st.sto) (es:=qV st.sto (cI.entsOfL vs []) (cI.entsOfL vs []));generalize iX m e.fresh st.sto (qV st.sto (cI.entsOfL vs []) (cI.entsOfL vs []))=ids at*;split at h;rename_i ws l q B hl I;split at h;rename_i q' D;injection h with h;subst h;obtain⟨W,L⟩:=tI B;obtain⟨b1,b2⟩:=QJ hl;obtain⟨T,U⟩:=q7 I;obtain⟨S,R⟩:=QJ D;have F:m<=st.sto.length:=by rw[<-hm];exact ht.len
  have hlen:l.length=m:=by simp_all
  have o:j6 ⟨st.sto,g,w⟩ m ids (l++q'):=(by refine⟨hi,F,QO C,z,by simp;omega,λk x A=>?_⟩;rcases vV A with A|⟨M,A⟩;grind [tC];grind [gB]);refine⟨_,Db o,pd o ht (by omega),C8 (by omega) λi x v G K=>?_⟩;have O:=Jq G;have j:vs[i]?=some (vs[i]'(by omega)):=aS _;exact YV o (H i _ v j K) (L i _ x j G);cases h;cases h;cases h
def kH(P:Program)(f:FuncId)(e:AFn):Bool:=
 match P.funcs[f]? with
 |none=>false
 |some fn=>match fn.body with
  |none=>false
  |some g=>fn.name != "runtime.NumGoroutine" &&e.nt==e.np+(fn.ntmps-e.np)&&nR P e.res fn.results.toList&&cS P e.nt e.body g
theorem ZI: ∀{args:List AV} {k n:Nat} {x:AV},lk n (iK k args)=some x->k<=n/\args[n-k]?=some x
 |[],k,n,x,h=>by grind [iK,lk]
 |y::r,k,n,x,h=>by
  simp only[iK,lk]at h;split at h;simp_all;rename_i e;obtain⟨h1,h2⟩:=ZI h;grind
end
section
variable {P:Program} {T:dV}
theorem JGn{f:FuncId}{j:AFn}{args:List AV}{blks:List Blk}{r:Res}(hc:kH P f j=true)(K:args.length=j.np)
  (h: ∀(k:Code) (g:Gh) (w:World) (a:Act) (Q:Exit->Act->World->Prop),cS P j.nt j.body k=true->Sim j.nt ⟨blks,g,w⟩ ⟨iK 0 args,blks⟩ a w->
   (∀e s o w',(e=.normal\/e=.ret)->gW j blks.length s=some r->Sim j.nt ⟨blks,g,w⟩ s o w'->Q (rC e) o w')->k.wp P Q a w):J67 P f args blks r:=by
 unfold kH at hc;split at hc;cases hc;rename_i fn A;split at hc;cases hc;rename_i k D;simp only[JX,beq_iff_eq,bne_iff_ne,ne_eq]at hc;obtain⟨⟨⟨F,J⟩,G⟩,z⟩:=hc;refine⟨⟨fn,A,by simp[D],by simp_all⟩,λg w vals hinv hlen hrel=>?_⟩;refine calls_of_wp A D ?_;have C:Sim j.nt ⟨blks,g,w⟩ ⟨iK 0 args,blks⟩ {tmps:=vals++Array.replicate (fn.ntmps-vals.size) undef,defers:=[]} w:=(by refine⟨by simp;omega,rfl,g,hinv,λn x y=>?_,.refl _⟩;obtain⟨_,y⟩:=ZI y;rw[uN]at y;have I:=Jq y;refine⟨vals[n]'(by omega),?_,hrel n x _ y (BD _)⟩;grind);have fin: ∀{s},gW j blks.length s=some r-> ∀o w',Sim j.nt ⟨blks,g,w⟩ s o w'->o.defers=[]/\ ∃v,(results fn o.tmps).run P w'=.ok v w'/\ ∃B g',Ending.returned v=.returned B/\
   Inv ⟨r.2,g',w'⟩/\aZ ⟨blks,g,w⟩ ⟨r.2,g',w'⟩/\JJ ⟨r.2,g',w'⟩ r.1 B:=by
  grind [pk]
 refine h k g w _ _ z C λe s o w' H q E=>?_;rcases H with rfl|rfl;exact fin q o w' E;exact fin q o w' E
theorem JHw{R:cB->St->Option Out}(ih: ∀c s r,R c s=some r->IS P c s r){f:FuncId}{k:oN}{args:List AV}{blks:List Blk}{r:Res}(hc:kH P f k.af=true)(K:args.length=k.np)
  (h:CN R k args blks=some r):J67 P f args blks r:=by
 refine JGn hc K λn g w a Q j z fin=>?_;simp only[oN.af]at j fin z;cases n<;>simp only[cS,eE]at j;rename_i S O;simp only[JX]at j;obtain⟨F,q⟩:=j;unfold CN at h;split at h
 rename_i s0 I;split at h;rename_i s1 B;refine wp_seq ((ih _ _ _ I).get F z λa0 w0 x=>?_);split at q;rename_i cp H cx cy T;simp only[JX]at q;obtain⟨⟨⟨⟨Y,L⟩,hx⟩,hy⟩,W⟩:=q;simp only[rC,Exit.then];refine wp_seq (wp_seq ((ih _ _ _ B).get Y x λE C x=>?_));have Z: ∀{c:cB} {n:Code},cS P k.nt c n=true->xG k.af blks.length (thn (R c s1) λs=>R k.rest s)=some r->
   n.wp P (Exit.then (T.wp P Q) Q) E C:=by
  intro c n hc ht;cases hR:R c s1 with
  |none=>rw[hR]at ht;cases ht
  |some o=>
   obtain⟨e,G⟩:=o;rw[hR]at ht;refine(ih _ _ _ hR).get hc x λy w' hs'=>?_;cases e with
   |normal=>
    simp only[thn]at ht;cases hR2:R k.rest G with
    |none=>rw[hR2]at ht;cases ht
    |some U=>
     obtain⟨V,J⟩:=U;rw[hR2]at ht;simp only[rC,Exit.then];refine(ih _ _ _ hR2).get W hs' λy w' hs'=>?_;cases V with
     |normal=>exact fin .normal J y w' (.inl rfl) ht hs'
     |ret=>exact fin .ret J y w' (.inr rfl) ht hs'
     |exit id=>cases ht
   |exit id=>cases ht
   |ret=>exact fin .ret G y w' (.inr rfl) ht hs'
 have A:=x;obtain⟨_,_,g,hi,M,_⟩:=A;simp only[rC,Exit.then];split at h;rename_i b D;have hrel:=bH (s:=⟨s1.sto,g,C⟩) (env:=s1.env) M D L;generalize N:E.eval H=v at hrel;cases hrel with
 |p _ _ hrel=>cases hrel<;>grind [wp_cond]
 rename_i D;have hrel:=bH (s:=⟨s1.sto,g,C⟩) (env:=s1.env) M D L;generalize N:E.eval H=v at hrel;cases hrel with
 |unk t=>
  refine wp_cond N ?_;unfold HL at h;grind
 cases h;cases q;cases h;cases h
theorem ol{R:cB->St->Option Out}(ih: ∀c s r,R c s=some r->IS P c s r)(G: ∀f j,T f=some (.fn j)->kH P f j=true)
  (M: ∀f g,T f=some (.prim g)-> ∀args blks r,g args blks=some r->J67 P f args blks r) (L: ∀f k,T f=some (.fork k)->kH P f k.af=true):iV P (qW T R):=by
 intro f args blks r h;unfold qW at h;cases hTf:T f with
 |none=>simp_all
 |some en=>
  rw[hTf]at h;cases en with
  |prim g=>simp_all
  |fork k=>
   grind [JHw]
  |fn j=>
   dsimp only at h;split at h;rename_i J;have o:=G f j hTf;unfold kH at o;split at o;cases o;rename_i fn A;split at o;cases o;rename_i F D;simp only[JX,beq_iff_eq,bne_iff_ne,ne_eq]at o;obtain⟨⟨⟨E,K⟩,H⟩,q⟩:=o;refine⟨⟨fn,A,by simp[D],by simp_all⟩,λg w vals hinv hlen hrel=>?_⟩;refine calls_of_wp A D ?_;have z:Sim j.nt ⟨blks,g,w⟩ ⟨iK 0 args,blks⟩ {tmps:=vals++Array.replicate (fn.ntmps-vals.size) undef,defers:=[]} w:=(by refine⟨by simp;omega,rfl,g,hinv,λn x y=>?_,.refl _⟩;obtain⟨_,y⟩:=ZI y;rw[uN]at y;have I:=Jq y;refine⟨vals[n]'(by omega),?_,hrel n x _ y (BD _)⟩;grind);have fin: ∀{s},gW j blks.length s=some r-> ∀e w',Sim j.nt ⟨blks,g,w⟩ s e w'->e.defers=[]/\ ∃v,(results fn e.tmps).run P w'=.ok v w'/\ ∃C g',Ending.returned v=.returned C/\
     Inv ⟨r.2,g',w'⟩/\aZ ⟨blks,g,w⟩ ⟨r.2,g',w'⟩/\JJ ⟨r.2,g',w'⟩ r.1 C:=by
    grind [pk]
   split at h;rename_i s hR;exact(ih _ _ _ hR).get q z λe w' B=>fin h e w' B;rename_i s hR;exact(ih _ _ _ hR).get q z λe w' B=>fin h e w' B;cases h;cases h
theorem JIB(a4:P.follows .mixedOrders=true)(hT: ∀f af,T f=some (.fn af)->kH P f af=true)
  (hP: ∀f g,T f=some (.prim g)-> ∀args blks r,g args blks=some r->J67 P f args blks r) (hK: ∀f k,T f=some (.fork k)->kH P f k.af=true): ∀c s r,X T c s=some r->IS P c s r:=by
 refine JMF T _ ?_;intro R ih c s r h;have hF:iV P (qW T R):=ol ih hT hP hK;cases c with
 |skip=>
  simp only[step]at h;injection h with h;subst h;intro N j E a w Q q z next;cases j<;>first
   |exact wp_skip (next a w z)
   |exact wp_label (next a w z)
   |grind [cS]
 |bad=>grind [step]
 |reg d pairs ins=>
  simp only[step]at h;split at h;rename_i s' a2;injection h with h;subst h;intro N j E a w Q q z next;cases j<;>simp only[cS,eE]at q;simp only[JX,beq_iff_eq]at q;obtain⟨rfl,q⟩:=q;exact JKi hF a4 a2 q z next
  cases h
 |seq x y=>
  simp only[step]at h;intro N j E a w Q q z next;cases j<;>simp only[cS,eE]at q;simp only[JX]at q;refine wp_seq ?_;split at h
  rename_i s' D;refine(ih _ _ _ D).get q.1 z λA w' hs'=>?_;exact(ih _ _ _ h).get q.2 hs' next;rename_i Y;refine(ih _ _ _ h).get q.1 z λA w' hs'=>?_;obtain⟨e,s'⟩:=r;cases e with
  |normal=>simp_all
  |exit id=>exact next A w' hs'
  |ret=>exact next A w' hs'
 |cond c x y=>
  simp only[step]at h;intro N j E a w Q q z next;cases j<;>simp only[cS,eE]at q;simp only[JX]at q;obtain⟨⟨Z,D⟩,hy⟩:=q;have hs':=z;obtain⟨_,_,g,hi,C,_⟩:=hs';split at h
  rename_i b H;have hrel:=bH (s:=⟨s.sto,g,w⟩) (env:=s.env) C H Z;generalize J:a.eval _=v at hrel;cases hrel with
  |p _ _ hrel=>
   cases hrel with
   |b=>
    refine wp_cond J ?_;cases b with
    |true=>exact(ih _ _ _ (by simpa using h)).get D z next
    |false=>exact(ih _ _ _ (by simpa using h)).get hy z next
  rename_i H;have hrel:=bH (s:=⟨s.sto,g,w⟩) (env:=s.env) C H Z;generalize J:a.eval _=v at hrel;cases hrel with
  |unk t=>
   refine wp_cond J ?_;unfold same at h;split at h;rename_i r1 r2 e1 e2;split at h;rename_i M;injection h with h;subst h;cases t with
   |true=>exact(ih _ _ _ e1).get D z next
   |false=>rw[M]at next;exact(ih _ _ _ e2).get hy z next
   cases h;cases h
  cases h
 |block id x=>
  simp only[step]at h;intro N j E a w Q q z next;cases j<;>simp only[cS,eE]at q;simp only[JX,beq_iff_eq]at q;obtain⟨rfl,q⟩:=q;refine wp_block ?_;split at h
  rename_i k s' D;refine(ih _ _ _ D).get q z λA w' hs'=>?_;grind [rC,Exit.inBlock];rename_i Y;refine(ih _ _ _ h).get q z λA w' hs'=>?_;obtain⟨e,s'⟩:=r;cases e with
  |normal=>exact next A w' hs'
  |exit id=>simp_all
  |ret=>exact next A w' hs'
 |loop live x=>
  simp only[step]at h;intro N j E a w Q q z next;cases j<;>simp only[cS,eE]at q;split at h
  rename_i s' B;obtain⟨k,hk⟩:=ih _ _ _ h;have I:E.σ.length<=s.sto.length:=by obtain⟨_,_,g,_,_,ht⟩:=z;exact ht.len
  obtain⟨hs',hl⟩:=PC z B I (zQ0 _);exact wp_loop_rounds k (hk N _ E a w Q q I (by omega) hs' next);cases h
 |lp n live x=>
  simp only[step]at h;split at h
  ·rename_i s' D;split at h
   ·rename_i au B;obtain⟨k,hk⟩:=ih _ _ _ h;refine⟨k+1,λN j E a w Q q I hn z next=>?_⟩;rw[rounds_succ];obtain⟨h1,h2,g,hi,C,ht⟩:=z;have F:Sim N ⟨s.sto,g,w⟩ s a w:=⟨h1,h2,g,hi,C,.refl _⟩;refine(ih _ _ _ D).get q F λA w' hs'=>?_;obtain⟨U,O,g',K,L,G⟩:=hs';have hlen:s.sto.length<=s'.sto.length:=G.len;have a9:Sim N E s' A w':=⟨U,O,g',K,L,ht.trans G⟩;obtain⟨aa,hl⟩:=PC a9 B I (by omega);exact hk N j E A w' Q q I (by omega) aa next
   cases h
  ·rename_i Y;refine⟨1,λN j E a w Q q I hn z next=>?_⟩;rw[rounds_succ];refine(ih _ _ _ h).get q z λA w' hs'=>?_;obtain⟨e,s'⟩:=r;cases e with|normal=>simp_all|exit id=>exact next A w' hs'|ret=>exact next A w' hs'
 |scope x=>simp only[step]at h;intro N j E a w Q q z next;cases j<;>simp only[cS,eE]at q;refine wp_scope_straight ((ih _ _ _ h).get q z λA w' hs'=>?_);have:=next A w' hs';obtain⟨e,s'⟩:=r;cases e<;>exact this
 |exit id=>
  simp only[step]at h;injection h with h;subst h;intro N j E a w Q q z next;cases j<;>simp only[cS,eE]at q;simp only[beq_iff_eq]at q;subst q;exact wp_exit (next a w z)
 |ret=>
  simp only[step]at h;injection h with h;subst h;intro N j E a w Q q z next;cases j<;>simp only[cS,eE]at q;exact wp_ret (next a w z)
 |keep live x=>simp only[step]at h;intro N j E a w Q q z next;exact(ih _ _ _ h).get (by grind [cS]) (z.restr live) next
 |tidy live x=>
  simp only[step,mC]at h;intro N j E a w Q q z next;split at h;rename_i e V M;split at h;rename_i s3 B;injection h with h;subst h;obtain⟨h1,h2,g,hi,C,ht⟩:=z;have F:Sim N ⟨s.sto,g,w⟩ s a w:=⟨h1,h2,g,hi,C,.refl _⟩;refine(ih _ _ _ M).get (by grind [cS]) F λA w' hs'=>next A w' ?_;obtain⟨U,O,g',K,L,G⟩:=hs';exact(PC (st:=V) (st':=s3) ⟨U,O,g',K,L,ht.trans G⟩ B ht.len G.len).1;cases h;cases h
 |br live pre o x y rest=>
  simp only[step]at h;intro N j E a w Q q z next;unfold cS at q;split at q;rename_i cp cq cx cy cz;simp only[JX]at q;obtain⟨⟨⟨⟨hp,ho⟩,D⟩,hy⟩,hz⟩:=q;split at h;rename_i s1 a6;refine wp_seq (wp_seq ((ih _ _ _ a6).get hp z λW S a0=>?_));have ad: ∀{c:cB} {j:Code} {r':Out},cS P N c j=true->thn (R c s1) (λs=>R rest s)=some r'->
    ∀{E:Sn} {a:Act} {w:World} {Q:Exit->Act->World->Prop},Sim N E s1 a w->(∀A w',Sim N E r'.2 A w'->Q (rC r'.1) A w')->j.wp P (Exit.then (cz.wp P Q) Q) a w:=by
   intro c j r' q ht E a w Q z next;cases hR:R c s1 with
   |none=>rw[hR]at ht;cases ht
   |some o=>
    obtain⟨e,V⟩:=o;rw[hR]at ht;refine(ih _ _ _ hR).get q z λA w' hs'=>?_;cases e with
    |normal=>exact(ih _ _ _ ht).get hz hs' next
    |exit id=>injection ht with ht;subst ht;exact next A w' hs'
    |ret=>injection ht with ht;subst ht;exact next A w' hs'
  have ah: ∀{c:cB} {j:Code},cS P N c j=true->mC s1.sto.length live (thn (R c s1) λs=>R rest s)=some r->j.wp P (Exit.then (cz.wp P Q) Q) W S:=(by intro c j q ht;unfold mC at ht;split at ht;rename_i e V M;split at ht;rename_i s3 B;injection ht with ht;subst ht;obtain⟨h1,h2,g,hi,C,ht⟩:=a0;have F:Sim N ⟨s1.sto,g,S⟩ s1 W S:=⟨h1,h2,g,hi,C,.refl _⟩;refine ad q M F λA w' hs'=>next A w' ?_;obtain⟨U,O,g',K,L,G⟩:=hs';exact(PC (st:=V) (st':=s3) ⟨U,O,g',K,L,ht.trans G⟩ B ht.len G.len).1;cases ht;cases ht);have a3:=a0;obtain⟨_,_,g,hi,C,_⟩:=a3;simp only[rC,Exit.then];split at h;rename_i b H;have hrel:=bH (s:=⟨s1.sto,g,S⟩) (env:=s1.env) C H ho;generalize J:W.eval cq=v at hrel;cases hrel with
  |p _ _ hrel=>cases hrel<;>grind [wp_cond]
  rename_i H;have hrel:=bH (s:=⟨s1.sto,g,S⟩) (env:=s1.env) C H ho;generalize J:W.eval cq=v at hrel;cases hrel with
  |unk t=>
   refine wp_cond J ?_;unfold same at h;grind
  cases h;cases h;cases q
theorem Ba(e:P.follows .mixedOrders=true)(j: ∀f o,T f=some (.fn o)->kH P f o=true)
  (h: ∀f g,T f=some (.prim g)-> ∀args blks r,g args blks=some r->J67 P f args blks r) (n: ∀f k,T f=some (.fork k)->kH P f k.af=true):iV P (AF T):=
 ol (JIB e j h n) j h n
end
end Go.Am
end
section
namespace Go.Am
@[congr] theorem JMv{o e:Option Out}{k:St->Option Out}(h:o=e):thn o k=thn e k:=by rw[h]
@[congr] theorem JLH{α β:Type}{o e:RM α}{f:α->RM β}(h:o=e):o.bind f=e.bind f:=by rw[h]
@[congr] theorem JLI{α β:Type}{o e:Option α}{f:α->Option β}(h:o=e):o.bind f=e.bind f:=by rw[h]
@[simp] theorem KL(s k):thn (some (.normal,s)) k=k s:=rfl
@[simp] theorem JGP(i s k):thn (some (.exit i,s)) k=some (.exit i,s):=rfl
@[simp] theorem JIz(s k):thn (some (.ret,s)) k=some (.ret,s):=rfl
@[simp] theorem JFE(k):thn none k=none:=rfl
def FQ(o:Option Out)(k:St->Option Out):Option Out:=
 match o with
 |some (.normal,s)=>k s
 |_=>none
@[congr] theorem JLN{o e:Option Out}{k:St->Option Out}(h:o=e):FQ o k=FQ e k:=by rw[h]
@[simp] theorem Gr(s k):FQ (some (.normal,s)) k=k s:=rfl
def blo(id:Nat)(o:Option Out):Option Out:=
 match o with
 |some (.exit k,s)=>if k=id then some (.normal,s)else some (.exit k,s)
 |o=>o
@[simp] theorem JDn(id s):blo id (some (.normal,s))=some (.normal,s):=rfl
@[simp] theorem nc(id i s):blo id (some (.exit i,s))=if i=id then some (.normal,s)else some (.exit i,s):=rfl
@[simp] theorem JJw(id s):blo id (some (.ret,s))=some (.ret,s):=rfl
@[simp] theorem JGq(id):blo id none=none:=rfl
def nrm(o:Option St):Option Out:=match o with|some s=>some (.normal,s)|none=>none
@[simp] theorem JHR(s):nrm (some s)=some (.normal,s):=rfl
@[simp] theorem JH6:nrm none=none:=rfl
def evv(x:Opd)(env:List (Nat×AV)):Option AV:=match x with| .t n=>lk n env| .c v=>some v
@[simp] theorem JN3(n env):evv (.t n) env=lk n env:=rfl
@[simp] theorem JN4(v env):evv (.c v) env=some v:=rfl
theorem NO(x:Opd)(s:St):(ev x).run s=evv x s.env:=by cases x<;>grind [ev,RM.run,evv]
section
variable (T:dV)
@[simp ↓] theorem JMY(s):X T .skip s=some (.normal,s):=by rw[lR];rfl
@[simp ↓] theorem Bf(a b s):X T (.seq a b) s=thn (X T a s) λs=>X T b s:=by
 rw[lR];simp only[step];cases X T a s with
 |none=>rfl
 |some o=>obtain⟨e,s'⟩:=o;cases e<;>rfl
theorem A8(d ps ins s):X T (.reg d ps ins) s=nrm (region (AF T) ps ins s):=by rw[lR];simp only[step];show(match region (AF T) ps ins s with|some s'=>some (AX.normal,s')|none=>none)=_;cases region (AF T) ps ins s<;>rfl
@[simp ↓] theorem JN0(d ins env sto):X T (.reg d [] ins) ⟨env,sto⟩=nrm (fW (AF T) ins sto.length ⟨env,room (news ins) sto⟩):=by rw[A8];rfl
def cnd(x:Option AV)(a b:Option Out)(c:Unit->Option Out):Option Out:=
 match x with
 |some (.p (.b x))=>if x=true then a else b
 |some .unk=>c ()
 |_=>none
@[congr] theorem JMt{x e:Option AV}{a b:Option Out}{c:Unit->Option Out}(h:x=e):cnd x a b c=cnd e a b c:=by rw[h]
@[simp] theorem A7(x a b c):cnd (some (.p (.b x))) a b c=if x=true then a else b:=rfl
@[simp] theorem JJC(a b c):cnd (some .unk) a b c=c ():=rfl
@[simp ↓] theorem JJK(x a b s):X T (.cond x a b) s=cnd (evv x s.env) (X T a s) (X T b s) λ_=>same (X T a s) (X T b s):=by
 rw[lR];simp only[step,NO];cases evv x s.env with
 |none=>rfl
 |some v=>
  cases v with
  |p c=>cases c<;>rfl
  |_=>rfl
@[simp ↓] theorem JIn(id c s):X T (.block id c) s=blo id (X T c s):=by
 rw[lR];simp only[step];cases X T c s with
 |none=>rfl
 |some o=>obtain⟨e,s'⟩:=o;cases e<;>rfl
@[simp ↓] theorem JIJ(c s):X T (.scope c) s=X T c s:=by rw[lR];rfl
@[simp ↓] theorem JMX(id s):X T (.exit id) s=some (.exit id,s):=by rw[lR];rfl
@[simp ↓] theorem JMd(s):X T .ret s=some (.ret,s):=by rw[lR];rfl
@[simp ↓] theorem Bq(live c s):X T (.keep live c) s=X T c ⟨restr live s.env,s.sto⟩:=by rw[lR];rfl
@[simp ↓] theorem JN6(live pre x a b rest s):X T (.br live pre x a b rest) s=FQ (X T pre s) λs1=>
  cnd (evv x s1.env) (thn (X T a s1) λs=>X T rest s) (thn (X T b s1) λs=>X T rest s) λ_=>
   same (mC s1.sto.length live (thn (X T a s1) λs=>X T rest s)) (mC s1.sto.length live (thn (X T b s1) λs=>X T rest s)):=by
 rw[lR];simp only[step,NO];cases X T pre s with
 |none=>rfl
 |some o=>
  obtain⟨e,s1⟩:=o;cases e with
  |normal=>
   dsimp only[FQ];cases evv x s1.env with
   |none=>rfl
   |some v=>
    cases v with
    |p c=>cases c<;>rfl
    |_=>rfl
  |exit=>rfl
  |ret=>rfl
@[simp ↓] theorem JKG(live c env sto):X T (.loop live c) ⟨env,sto⟩=X T (.lp sto.length live c) ⟨restr live env,sto⟩:=by
 grind [lR,step,clean]
theorem jk(n live c s):X T (.lp n live c) s=thn (X T c s) λs=>match clean n live s with
  |some s=>X T (.lp n live c) s
  |none=>none:=by
 rw[lR];simp only[step];cases X T c s with
 |none=>rfl
 |some o=>obtain⟨e,s'⟩:=o;cases e<;>rfl
def FK(res:List uG)(fresh:Bool)(m:Nat)(o:Option Out):Option Res:=
 match o with
 |some (.normal,s)=>gW ⟨0,0,.skip,res,fresh⟩ m s
 |some (.ret,s)=>gW ⟨0,0,.skip,res,fresh⟩ m s
 |_=>none
@[congr] theorem JMc{res:List uG}{fresh:Bool}{m:Nat}{o e:Option Out}(h:o=e):FK res fresh m o=FK res fresh m e:=by rw[h]
@[simp] theorem Gi(res fresh m s):FK res fresh m (some (.normal,s))=gW ⟨0,0,.skip,res,fresh⟩ m s:=rfl
@[simp] theorem JHy(res fresh m s):FK res fresh m (some (.ret,s))=gW ⟨0,0,.skip,res,fresh⟩ m s:=rfl
@[simp] theorem JM0(o:Option Res):HL o o=o:=by unfold HL;cases o<;>simp
theorem JMn{f:FuncId}{fn:AFn}(h:T f=some (.fn fn))(args blks):AF T f args blks=if args.length=fn.np then
  FK fn.res fn.fresh blks.length (X T fn.body ⟨iK 0 args,blks⟩)
 else none:=by
 unfold AF qW;rw[h];rfl
end
variable {F:Orc} {env:List (Nat×AV)} {sto:List Blk} {new:Nat} {r:List bV} {d:Nat}
@[simp] theorem JBW(s):fW F [] new s=some s:=rfl
theorem Gl(i s):fW F (i::r) new s=((bZ F i new).run s).bind λe=>fW F r (new+kL i.op) (put i.dst e s):=by
 grind [fW]
@[simp] theorem JMC:news []=0:=rfl
@[simp ↓] theorem JMu(i):news (i::r)=kL i.op+news r:=rfl
@[simp] theorem JN1:room 0 sto=sto:=rfl
@[simp] theorem JMr(n):room (n+1) sto=sto++List.replicate (n+1) .dead:=rfl
@[simp] theorem JN2(n):lk n []=none:=rfl
@[simp] theorem JJ0(n m v)(r:List (Nat×AV)):lk n ((m,v)::r)=if n=m then some v else lk n r:=rfl
attribute [simp ↓] Gl bZ opD sS kL run_bind NO opR
attribute [simp] put val evs evo jU nU
 nC xB xF unP iL FO fz fz.fzL fz.fz1 fzs yT gF hQ sub spl rB NF GE IA HY mD MS nA mF jQ vL vJ eL iO iA mmP cellsOf unp pN jP
 nB one iK gJ ID mE
@[simp] theorem JMw(o:Option Out):same o o=o:=by unfold same;cases o<;>simp
@[simp ↓] theorem JW{α:Type}(a:α)(s:St):(RM.ret a).run s=some a:=rfl
@[simp ↓] theorem JMQ{α:Type}(s:St):(RM.fail:RM α).run s=none:=rfl
@[simp ↓] theorem wB{α:Type}(n:Nat)(k:AV->RM α)(s:St):(RM.slot n k).run s=(lk n s.env).bind λv=>(k v).run s:=by grind [RM.run]
@[simp ↓] theorem cY{α:Type}(n:Nat)(k:Blk->RM α)(s:St):(RM.blk n k).run s=(s.sto[n]?).bind λv=>(k v).run s:=by grind [RM.run]
@[simp] theorem JIi:upd [] sto=sto:=rfl
@[simp] theorem JGJ(b x ws):upd ((b,x)::ws) sto=upd ws (sto.set b x):=rfl
@[simp] theorem JMs:restr [] env=[]:=rfl
@[simp] theorem JDy(k l):restr (k::l) env=match lk k env with
 |some v=>(k,v)::restr l env
 |none=>restr l env:=rfl
end Go.Am
namespace Go.Am
def pK:AV->Bool| .p _| .data _| .cp _ _| .unk=>true|_=>false
@[simp] theorem JMD(c):pK (.p c)=true:=rfl
@[simp] theorem JLJ(c):pK (.data c)=true:=rfl
@[simp] theorem JMq(c o):pK (.cp c o)=true:=rfl
theorem ri: ∀{args:List AV} {l:List Ent},args.all pK=true->cI.entsOfL args l=l|[],l,_=>rfl|x::r,l,h=>by simp only[List.all_cons,JX]at h;obtain⟨h1,h2⟩:=h;simp only[cI.entsOfL];cases x<;>simp[pK]at h1<;>simp only[cI]<;>exact ri h2
theorem pc{ρ:Ent->Option Nat}: ∀{args:List AV},args.all pK=true->ren.renL ρ args=some args|[],_=>rfl|x::r,h=>by simp only[List.all_cons,JX]at h;have:=pc (ρ:=ρ) h.2;have h1:=h.1;clear h;cases x<;>simp[pK]at h1<;>simp[ren.renL,ren,this]
theorem JGR{es:List Ent}{new:Nat}{x:AV}(h:pK x=true):bk es new x=some x:=by cases x<;>simp[pK]at h<;>rfl
theorem ee{es:List Ent}{new:Nat}: ∀{xs:List AV},xs.all pK=true->bk.bkL es new xs=some xs|[],_=>rfl|x::r,h=>by simp only[List.all_cons,JX]at h;simp[bk.bkL,JGR h.1,ee h.2]
@[simp] theorem JN5(es new c):bk es new (.p c)=some (.p c):=rfl
@[simp] theorem JMW(es new c):bk es new (.data c)=some (.data c):=rfl
@[simp] theorem JMZ(es new l):bk es new (.tup l)=(bk.bkL es new l).map .tup:=by grind [bk]
@[simp] theorem JMV(es new):bk.bkL es new []=some []:=rfl
@[simp] theorem JMH(es new x l):bk.bkL es new (x::l)=(bk es new x).bind λy=>(bk.bkL es new l).map λl=>y::l:=by simp only[bk.bkL];cases bk es new x<;>simp;cases bk.bkL es new l<;>rfl
@[simp] theorem JLK(n live):mC n live none=none:=rfl
@[simp] theorem Gw(n live e s):mC n live (some (e,s))=(clean n live s).map λs=>(e,s):=by
 grind [mC]
attribute [simp ↓] Jv Option.bind_none KL JGP JIz JFE Gr JHR JH6 A7 JJC JDn nc JJw JGq Gi JHy JBW JJ0 JDy JIi JGJ
attribute [simp] clean uF qT fR fin fin.finL gW iX qV cI cI.entsOfL vK iT vI eI unp
end Go.Am
end
section
namespace Go.Am
inductive Fr where|sq (b:cB)|bl (id:Nat)|td (n:Nat) (live:List Nat)|lo (n:Nat) (live:List Nat) (c:cB)
noncomputable def again(T:dV)(n:Nat)(live:List Nat)(c:cB)(o:Option St):Option Out:=match o with|some s=>X T (.lp n live c) s|none=>none
section
variable (T:dV) (f:AFn) (m:Nat) (k:List Fr)
theorem JKa(live c s):X T (.tidy live c) s=mC s.sto.length live (X T c s):=by rw[lR];rfl
end
open Classical in
noncomputable def J9{σ ρ:Type}(f:σ->Option (σ⊕ρ))(s:σ):Option ρ:=
 let e:Nat->σ->Option ρ:=λn=>n.rec (λ_=>none) λ_ ih s=>match f s with|some (.inl s')=>ih s'|some (.inr r)=>some r|none=>none
 if h: ∃n r,e n s=some r then e (Classical.choose h) s else none
def cL{σ ρ:Type}(f:σ->Option (σ⊕ρ)):Nat->σ->Option ρ|0,_=>none|n+1,s=>match f s with|some (.inl s')=>cL f n s'|some (.inr r)=>some r|none=>none
section
variable {σ ρ:Type} {f:σ->Option (σ⊕ρ)}
theorem ZJ(n:Nat): ∀s:σ,(Nat.rec (motive:=λ_=>σ->Option ρ) (λ_=>none) (λ_ ih s=>match f s with
  |some (.inl s')=>ih s'
  |some (.inr r)=>some r
  |none=>none) n) s=cL f n s:=by
 induction n with
 |zero=>intro s;rfl
 |succ n ih=>grind [cL]
theorem em: ∀{n:Nat} {s:σ} {r:ρ} (m:Nat),cL f n s=some r->cL f (n+m) s=some r
 |0,_,_,_,h=>by cases h
 |n+1,s,r,m,h=>by
  rw[show n+1+m=(n+m)+1 by omega];simp only[cL]at h⊢;split at h;exact em m h
  all_goals simp_all
theorem JG3{n m:Nat}{s:σ}{r r':ρ}(h:cL f n s=some r)(e:cL f m s=some r'):r=r':=by
 have a:=em m h;have b:=em n e;grind
theorem gO{s:σ}{r:ρ}:J9 f s=some r↔ ∃n,cL f n s=some r:=by
 unfold J9;dsimp only;constructor;intro h;split at h;exact⟨_,by rw[<-ZJ];exact h⟩;cases h;rintro⟨n,h⟩;have e: ∃n r,(Nat.rec (motive:=λ_=>σ->Option ρ) (λ_=>none) (λ_ ih s=>match f s with
  |some (.inl s')=>ih s'
  |some (.inr r)=>some r
  |none=>none) n) s=some r:=⟨n,r,by grind [ZJ]⟩
 rw[dif_pos e];obtain⟨r',g⟩:=Classical.choose_spec e;rw[g];rw[ZJ]at g;grind [JG3]
theorem rN{s:σ}{r:ρ}(h:f s=some (.inr r)):J9 f s=some r:=gO.2 ⟨1,by grind [cL]⟩
theorem wD{s s':σ}(h:f s=some (.inl s')):J9 f s=J9 f s':=by
 have g: ∀r,J9 f s=some r↔J9 f s'=some r:=by
  intro r;rw[gO,gO];constructor;rintro⟨n,e⟩;cases n<;>grind [cL]
  rintro⟨n,e⟩;exact⟨n+1,by grind [cL]⟩
 cases hs:J9 f s with
 |some r=>grind
 |none=>cases hs':J9 f s'<;>grind
theorem JCK{s:σ}(h:f s=none):J9 f s=none:=by
 cases hs:J9 f s with
 |none=>rfl
 |some r=>obtain⟨n,e⟩:=gO.1 hs;cases n<;>simp_all [cL]
theorem eg{P:σ->ρ->Prop}(h1: ∀s r,f s=some (.inr r)->P s r)(h2: ∀s s' r,f s=some (.inl s')->P s' r->P s r){s:σ}{r:ρ}(h:J9 f s=some r):P s r:=by
 obtain⟨n,e⟩:=gO.1 h;clear h
 induction n generalizing s with
 |zero=>cases e
 |succ n ih=>
  grind [cL]
end
end Go.Am
end
section
namespace Go.Am
section
variable {α:Type}
def idx(l:List α)(n:Int):Option α:=if 0<=n then l[n.toNat]? else none
def bC(k:Nat)(n:Int):Option Unit:=if 0<=n/\n<k then some ()else none
def JI(bytes:Nat)(l e:List α):Option (List α):=if iO (l.length+e.length) bytes=true then some (l++e)else none
def cM(bytes:Nat)(l:List α):Option (List α):=if iO l.length bytes=true then some l else none
def FD(n:Int)(len:Nat):Option Nat:=if 0<=n/\n.toNat<=len then some n.toNat else none
def FN(n:Int)(len:Nat):Option Nat:=if 0<=n/\n.toNat<len then some n.toNat else none
def FU(bytes:Nat)(l:List α)(n:Nat)(e:List α):Option (List α):=if 0<l.length/\iO (l.length+e.length) bytes=true then some (l.take n++e)else none
def Af(bytes:Nat)(l e:List α):Option (List α):=if 0<e.length/\iO (l.length+e.length) bytes=true then some (l++e)else none
def mkS(bytes:Nat)(n m:Int)(z:α):Option (List α):=if 0<=n/\n<=m/\bytes*m<=281474976710656/\m<=281474976710656 then some (List.replicate n.toNat z)else none
def BU(x:Option Int)(top e:Nat):Option Nat:=match x with|none=>some e|some n=>if 0<=n/\n<=top then some n.toNat else none
def xY(n:Nat)(lo hi:Option Int):Option (Nat×Nat):=match BU hi n n with|none=>none|some h=>match BU lo h 0 with|none=>none|some l=>some (l,h)
def aW(l:List α)(lo hi:Option Int):Option (List α):=match xY l.length lo hi with|some c=>some ((l.drop c.1).take (c.2-c.1))|none=>none
def jt(k:IntKind)(x y:Int):Option Int:=if y=0 then none else some (k.wrap (x.tdiv y))
def oT(x y:Int):Option Int:=if y=0 then none else some (x.tmod y)
def kD(k:IntKind)(x y:Int):Option Int:=if y<0 then none else some (k.wrap (x*2^(min y.toNat k.bits)))
def iB(k:IntKind)(x y:Int):Option Int:=if y<0 then none else some (x.fdiv (2^(min y.toNat k.bits)))
def jH(k:IntKind)(x y:Int):Int:=k.wrap (BitVec.ofInt k.bits x&&&BitVec.ofInt k.bits y).toNat
def orI(k:IntKind)(x y:Int):Int:=k.wrap (BitVec.ofInt k.bits x|||BitVec.ofInt k.bits y).toNat
def eP(k:IntKind)(x y:Int):Int:=k.wrap (BitVec.ofInt k.bits x^^^BitVec.ofInt k.bits y).toNat
def GH(k:IntKind)(n:Int):Int:=k.wrap (BitVec.ofInt k.bits (if k.signed then -1 else k.max)^^^BitVec.ofInt k.bits n).toNat
def bQ(a b:List UInt8):Option (List UInt8):=if a.length+b.length<=4611686018427387904 then some (a++b)else none
def gA(l:List UInt8)(n:Int):Option Int:=if 0<=n then(match l[n.toNat]? with|some u=>some (u.toNat:Int)|none=>none)else none
def im{k:Nat}(v:Vector α k)(n:Int):Option α:=if 0<=n/\n<k then v[n.toNat]? else none
def toStr(l:List Int):List UInt8:=l.map λn=>UInt8.ofNat n.toNat
def aQ(l:List UInt8):List Int:=l.map λu=>(u.toNat:Int)
def lY(x y:Int):Int:=if y<x then y else x
def eD(x y:Int):Int:=if y>x then y else x
end
@[reducible] def cat(a b:List PV):List PV:=a++b
def r_i(k:IntKind)(n:Int):List PV:=[.i k n]
def r_b(x:Bool):List PV:=[.b x]
def r_s(l:List UInt8):List PV:=[.s l]
def JMM{α:Type}(esz:Nat)(r:α->List PV)(l:List α):List PV:=[.sl esz (l.map r)]
def oP{α:Type}{n:Nat}(r:α->List PV)(v:Vector α n):List PV:=(v.toList.map r).flatten
section
variable {α:Type}
theorem yS(cs:List α)(off size:Nat):sub cs off size=if off+size<=cs.length then some ((cs.drop off).take size)else none:=by
 grind [sub]
theorem DF(cs:List α)(off:Nat)(vs:List α):spl cs off vs=if off+vs.length<=cs.length then some (cs.take off++vs++cs.drop (off+vs.length))else none:=by simp_all
theorem YQ{cs:List α}{n:Nat}(h:cs.length=n):sub cs 0 n=some cs:=by simp_all
theorem Ek{cs vs:List α}(h:cs.length=vs.length):spl cs 0 vs=some vs:=by simp_all
theorem JFu{a b c:List α}{off size:Nat}(h1:a.length=off)(h2:b.length=size):sub (a++(b++c)) off size=some b:=by
 grind [yS]
theorem JDN{b c:List α}{size:Nat}(h2:b.length=size):sub (b++c) 0 size=some b:=JFu (a:=[]) rfl h2
theorem JEu{a b c v:List α}{off:Nat}(h1:a.length=off)(h2:b.length=v.length):spl (a++(b++c)) off v=some (a++(v++c)):=by
 grind [DF]
theorem JE0{b c v:List α}(h2:b.length=v.length):spl (b++c) 0 v=some (v++c):=JEu (a:=[]) rfl h2
theorem D7{cs e r:List α}{a m k n:Nat}(h1:sub cs a m=some e)(h2:sub e k n=some r):sub cs (a+k) n=some r:=by
 grind [yS,List.drop_take,List.drop_drop]
theorem Dd{cs g e v cs':List α}{a m k:Nat}(h1:sub cs a m=some g)(h2:spl g k v=some e)(h3:spl cs a e=some cs'):spl cs (a+k) v=some cs':=by
 rw[yS]at h1;rw[DF]at h2 h3⊢;split at h1;rename_i o;injection h1 with h1;subst h1;split at h2;rename_i j;injection h2 with h2;subst h2;simp at j;split at h3;injection h3 with h3;subst h3;rw[if_pos (by omega)]
 congr 1
 simp only[cN,lW,lU,List.take_take,List.drop_take,qL,hH];have h:cs.take (a+k)=cs.take a++(cs.drop a).take k:=List.take_add ..;rw[h,hH];rw[show min k m=k by omega]
 congr 3
 have n:cs.drop (a+k+v.length)=(cs.drop (a+(k+v.length))).take (m-(k+v.length))++cs.drop (a+m):=(by have:=BZ (m-(k+v.length)) (cs.drop (a+(k+v.length)));rw[qL]at this;rw[show a+(k+v.length)+(m-(k+v.length))=a+m by omega]at this;grind);rw[n]
 congr 2
 omega;cases h3;cases h2;cases h1
theorem DJ{β:Type}(g:α->β)(cs:List α)(off size:Nat):sub (cs.map g) off size=(sub cs off size).map (List.map g):=by
 grind [yS,List.map_drop,List.map_take]
theorem DI{β:Type}(g:α->β)(cs:List α)(off:Nat)(vs:List α):spl (cs.map g) off (vs.map g)=(spl cs off vs).map (List.map g):=by
 grind [DF,List.map_drop,List.map_take]
theorem IG{n k w:Nat}{r:α->List PV}(hr: ∀x,(r x).length=w){v:Vector α n}{x:α}(h:v[k]?=some x):sub (oP r v) (k*w) w=some (r x):=by
 have g: ∀(l:List α) (k:Nat) (x:α),l[k]?=some x->sub ((l.map r).flatten) (k*w) w=some (r x):=by
  intro l
  induction l with
  |nil=>simp_all
  |cons y l ih=>
   intro k x h;cases k with
   |zero=>
    grind [JDN]
   |succ k=>
    simp at h;have:=ih k x h;rw[bT,qO];rw[yS]at this⊢;split at this;injection this with this;have e:(k+1)*w=w+k*w:=by grind
    rw[e,if_pos (by grind)];have j:w+k*w=(r y).length+k*w:=by rw[hr]
    rw[j,List.drop_length_add_append,this];cases this
 exact g _ _ _ (by simp_all)
theorem Cg{n k w:Nat}{r:α->List PV}(hr: ∀x,(r x).length=w){v:Vector α n}(h:k<n)(y:α):spl (oP r v) (k*w) (r y)=some (oP r (v.setIfInBounds k y)):=by
 have g: ∀(l:List α) (k:Nat),k<l.length->spl ((l.map r).flatten) (k*w) (r y)=some (((l.set k y).map r).flatten):=by
  intro l
  induction l with
  |nil=>simp_all
  |cons z l ih=>
   intro k h;cases k with
   |zero=>
    grind [JE0]
   |succ k=>
    simp at h;have:=ih k h;rw[bT,qO];rw[DF]at this⊢;split at this;rename_i j;injection this with this;have e:(k+1)*w=(r z).length+k*w:=by grind
    rw[e,if_pos (by grind)];simp only[List.set_cons_succ,bT,qO];rw[<-this];rw[show(r z).length+k*w+(r y).length=(r z).length+(k*w+(r y).length) by omega];simp[List.take_length_add_append];cases this
 grind [oP]
theorem JKO{n w:Nat}{r:α->List PV}(hr: ∀x,(r x).length=w)(v:Vector α n):(oP r v).length=n*w:=by
 have e: ∀l:List α,((l.map r).flatten).length=l.length*w:=by
  intro l
  induction l with
  |nil=>simp
  |cons x l ih=>grind
 grind [oP]
end
theorem IX: ∀l:List PV,unp (l.map AV.p)=some l|[]=>rfl|x::l=>by simp[unp,IX l]
theorem r8(l:List PV):jU true (l.map AV.p)=some (.data l):=by simp[IX]
theorem VQ: ∀l:List PV,(l.map AV.p).all pK=true|[]=>rfl|x::l=>by simp
theorem qf(m:Nat)(ids:List Nat)(sto:List Blk): ∀l:List PV,fin.finL m ids sto (l.map AV.p)=some (l.map AV.p)|[]=>rfl|x::l=>by simp[fin.finL,fin,qf m ids sto l]
theorem pz(l:List PV)(acc:List Ent):cI.entsOfL (l.map AV.p) acc=acc:=ri (VQ l)
theorem JEr{α:Type}{r:α->List PV}{l:List α}{n:Int}{x:α}(h:idx l n=some x):MS (l.map r) n=some (r x):=by simp_all [idx]
theorem Cs{k:Nat}{n:Int}{u:Unit}(h:bC k n=some u):0<=n/\n<k:=by
 grind [bC]
theorem JFG{α:Type}{k:Nat}{v:Vector α k}{n:Int}{x:α}(h:im v n=some x):(0<=n/\n<k)/\v[n.toNat]?=some x:=by
 grind [im]
theorem JJ9{α:Type}{r:α->List PV}{esz bytes b:Nat}{w:Bool}{l e g:List α}{y:AV}{s:St}(h:JI bytes l g=some e)(hb:s.sto[b]?=some (.arr w esz (l.map r)))(hy:(eL esz y).run s=some (g.map r)):
  (iA esz bytes (.slr b 0 l.length) y).run s=some ⟨.slr b 0 e.length,[(b,.arr w esz (e.map r))]⟩:=by
 grind [JI,iA,cY,run_bind,JW]
theorem fg: ∀l:List Int,tE (l.map (r_i .u8))=some (toStr l)|[]=>rfl|x::l=>by simp[tE,r_i,fg l,toStr]
theorem ZU(l:List UInt8):l.map mE=(aQ l).map (r_i .u8):=by simp[aQ,r_i]
theorem JFC{α:Type}{bytes:Nat}{l e:List α}(h:cM bytes l=some e):iO l.length bytes=true/\e=l:=by
 grind [cM]
theorem JJq{α:Type}{bytes:Nat}{n m:Int}{z:α}{l:List α}(h:mkS bytes n m z=some l):(0<=n/\n<=m/\bytes*m<=281474976710656/\m<=281474976710656)/\l=List.replicate n.toNat z:=by
 grind [mkS]
end Go.Am
end
section
set_option linter.unusedSimpArgs false
set_option linter.unusedVariables false
namespace Go.Am
open Go.RowKit
theorem JHL{σ:List Blk}{g:Gh}{w w':World}(hi:Inv ⟨σ,g,w⟩)(hb:Below w.heap.size w w'):
  Inv ⟨σ,g,w'⟩/\aZ ⟨σ,g,w⟩ ⟨σ,g,w'⟩:=by
 have j: ∀(r:Nat) x,w.heap[r]?=some x->w'.heap[r]?=some x:=λr x h=>by rw[hb.block r (DQ h)];exact h
 have n: ∀r o v,cellAt w r o=some v->cellAt w' r o=some v:=(by grind [cellAt]);have t:aZ ⟨σ,g,w⟩ ⟨σ,g,w'⟩:=by
  refine⟨⟨hb.size,λr c e fz h=>⟨c,j r _ h,rfl,λ_ _=>rfl⟩,λr x h _=>j r x h,hb.os,hb.output⟩,λ_ _ h=>h,λ_ _ h=>.inl h,λr o ⟨b,hb⟩=>.inl ⟨b,hb⟩,zQ0 _,λ_ cs h=>⟨⟨cs,h,rfl⟩,rfl⟩,
   λ_ wm _ rows h=>⟨wm,rows,h,id,zQ0 _,λ_=>rfl⟩⟩
 exact⟨nO hi t (λ_=>False) (λ_ _=>⟨rfl,rfl⟩) (λ_ r o v _ _ h=>n r o v h) (λ_ _ h=>h.elim) (λ_ _ _ _ h=>h.elim)
  (λ_ _ _ _ h=>h.elim) (λr o h=>Nat.lt_of_lt_of_le (hi.const r o h).1 hb.size) (λ_ _ _ _ h=>h.elim) (λ_ _ _ h k=>(k h).elim),t⟩
def xM:PV->Option Value| .b x=>some (.bool x)| .i k n=>some (.int k n)| .s l=>some (.string ⟨l.toArray⟩)|_=>none
theorem JGx{x:PV}{v:Value}(h:xM x=some v)(w:World)(C:Nat->Nat->Prop):J0i w C x v:=by
 cases x<;>simp only[xM,Option.some.injEq,reduceCtorEq]at h<;>subst h
 exact .b _;exact .i _ _;exact .s _
theorem JIU{x:PV}{v e:Value}{w:World}{C:Nat->Nat->Prop}(h:J0i w C x v)(hv:xM x=some e):v=e:=by cases x<;>simp only[xM,Option.some.injEq,reduceCtorEq]at hv<;>subst hv<;>cases h<;>rfl
theorem JBD{P:Program}{f:FuncId}{xs:List PV}{vs:List Value}{r:PV}{v:Value}{blks:List Blk}
  (hf: ∃fn,P.funcs[f]?=some fn∧fn.body.isSome=true∧(fn.name== "runtime.NumGoroutine")=false)
  (hx:xs.mapM xM=some vs) (hr:xM r=some v)
  (hc: ∀w,Calls P f vs.toArray w λe w'=>e=.returned v/\Below w.heap.size w w'):
  J67 P f (xs.map .p) blks (.p r,blks):=by
 refine⟨hf,λg w vals hi hl C=>?_⟩;have h:vals=vs.toArray:=by
  have k: ∀(xs:List PV) (vs vl:List Value),xs.mapM xM=some vs->xs.length=vl.length->
    (∀(i:Nat) x v,(xs.map AV.p)[i]?=some x->vl[i]?=some v->JJ ⟨blks,g,w⟩ x v)->vl=vs:=by
   intro xs
   induction xs with
   |nil=>grind
   |cons x r ih=>
    intro vs vl h1 h2 o;simp only[List.mapM_cons,Option.pure_def,Option.bind_eq_bind]at h1;obtain⟨D,n,h1⟩:=aU.1 h1;obtain⟨y,j,h1⟩:=aU.1 h1;simp only[Option.some.injEq]at h1;subst h1;cases vl with
    |nil=>simp at h2
    |cons u q=>
     have:=o 0 (.p x) u rfl rfl;cases this with
     |p _ _ A=>rw[JIU A n,ih y q j (by simpa using h2) (λi x v hx B=>o (i+1) x v hx B)]
  apply xA;rw[k xs vs vals.toList hx (by simpa using hl) (λi x v h1 h2=>C i x v h1 (by simpa using h2))]
 subst h;refine(hc w).mono ?_;rintro e w' ⟨rfl,z⟩;obtain⟨hi',t⟩:=JHL hi z;exact⟨v,g,rfl,hi',t,.p _ _ (JGx hr _ _)⟩
theorem Cq{T:dV}{f:FuncId}{g:List AV->List Blk->Option Res}(h:T f=some (.prim g))(args blks):AF T f args blks=g args blks:=by simp_all [AF,qW]
def zt(a:Option AFn)(k:Option oN)(g q:Option (List AV->List Blk->Option Res)):Option kl:=
 match a with
 |some a=>some (.fn a)
 |none=>match k with|some k=>some (.fork k)|none=>match g with|some g=>some (.prim g)|none=>q.map .prim
theorem DN{a:Option AFn}{k:Option oN}{g q:Option (List AV->List Blk->Option Res)}{e:kl}(h:zt a k g q=some e):
  (∃x,a=some x/\e=.fn x)\/(∃x,k=some x/\e=.fork x)\/(∃x,g=some x/\e=.prim x)\/(∃x,q=some x/\e=.prim x):=by
 cases a with
 |some a=>exact .inl ⟨a,rfl,by injection h with h;exact h.symm⟩
 |none=>
  cases k with
  |some k=>exact .inr (.inl ⟨k,rfl,by injection h with h;exact h.symm⟩)
  |none=>
   cases g with
   |some g=>exact .inr (.inr (.inl ⟨g,rfl,by injection h with h;exact h.symm⟩))
   |none=>
    cases q with
    |some q=>exact .inr (.inr (.inr ⟨q,rfl,by injection h with h;exact h.symm⟩))
    |none=>cases h
def J3q(n:Int)(i:Nat):Int:=IntKind.wrap .u8 ((IntKind.wrap .u64 n).fdiv (2^(8*i)))
def J0v(n:Int)(k:Nat):List UInt8:=toStr ((List.range k).map (J3q n))
def Jkk(l:List UInt8)(n size:Int):Option (List UInt8):=if size<1\/8<size then some l else if l.length+8<=140737488355328 then some (l++J0v n size.toNat)else none
def JCa:List AV->List Blk->Option Res|[.p (.s l),.p (.i .i64 n),.p (.i .i64 k)],blks=>(Jkk l n k).map λr=>(.p (.s r),blks)|_,_=>none
theorem JJo(x:Int):0<=IntKind.wrap .u8 x/\IntKind.wrap .u8 x<256:=by have h:IntKind.wrap .u8 x=x%256:=rfl;rw[h];omega
theorem Jgt(n:Int)(i:Nat):((UInt8.ofNat (J3q n i).toNat).toNat:Int)=J3q n i:=by
 have h:0<=J3q n i/\J3q n i<256:=JJo _;grind [UInt8.toNat_ofNat_of_lt']
theorem Jrc(n:Int)(k:Nat):J0v n (k+1)=J0v n k++[UInt8.ofNat (J3q n k).toNat]:=by simp[J0v,toStr,List.range_succ]
theorem JC(n:Int)(k:Nat):(J0v n k).length=k:=by simp[J0v,toStr]
theorem JMl(x y:Bool):cC [.b] [.b x] [.b y]=some (decide (x=y)):=by
 grind [cC,uL]
theorem JMh(k:IntKind)(x y:Int):cC [.i k] [.i k x] [.i k y]=some (decide (x=y)):=by
 grind [cC,uL]
theorem JMf(x y:List UInt8):cC [.s] [.s x] [.s y]=some (decide (x=y)):=by
 grind [cC,uL]
theorem D5{p q:Prop} [Decidable p] [Decidable q]: ∀{e g:List KD} {a1 a2 b1 b2:List PV},cC e a1 b1=some (decide p)->cC g a2 b2=some (decide q)->cC (e++g) (cat a1 a2) (cat b1 b2)=some (decide (p/\q)):=by
 have h: ∀(e g:List KD) (a1 a2 b1 b2:List PV) (r s:Bool),cC e a1 b1=some r->cC g a2 b2=some s->cC (e++g) (a1++a2) (b1++b2)=some (r&&s):=by
  intro e
  induction e with
  |nil=>
   grind [cC]
  |cons k ks ih=>
   intro g a1 a2 b1 b2 r s h1 h2;cases a1 with
   |nil=>grind [cC]
   |cons a a1=>
    cases b1 with
    |nil=>grind [cC]
    |cons b b1=>
     simp only[cC]at h1;split at h1;rename_i u c j n;injection h1 with h1;subst h1;simp only[BK,cC,j,ih _ _ _ _ _ _ _ n h2,Bool.and_assoc];cases h1
 intro e g a1 a2 b1 b2 h1 h2;rw[h _ _ _ _ _ _ _ _ h1 h2,Bool.decide_and]
theorem JL4{α:Type} [DecidableEq α]{n:Nat}{ks:List KD}{r:α->List PV}(h: ∀x y,cC ks (r x) (r y)=some (decide (x=y)))(v w:Vector α n):
  cC (List.replicate n ks).flatten (oP r v) (oP r w)=some (decide (v=w)):=by
 have g: ∀(l e:List α),l.length=e.length->cC (List.replicate l.length ks).flatten (l.map r).flatten (e.map r).flatten=some (decide (l=e)):=by
  intro l
  induction l with
  |nil=>grind [cC]
  |cons a l ih=>
   intro e h1;cases e with
   |nil=>simp at h1
   |cons b e=>
    have h2:=D5 (h a b) (ih e (by simpa using h1));grind [decide]
 have j:=g v.toList w.toList (by simp);rw[show v.toList.length=n by simp]at j;rw[show decide (v=w)=decide (v.toList=w.toList) by simp[Vector.toList_inj]];exact j
end Go.Am
end
section
namespace Go.Am
def J1(k:IntKind)(a c:Int):Int:=k.wrap (a+c)
def JL(k:IntKind)(a c:Int):Int:=k.wrap (a-c)
def cF(k:IntKind)(a c:Int):Int:=k.wrap (a*c)
def JMO(k:IntKind)(n:Int):Int:=k.wrap (0-n)
def aT(k:IntKind)(n:Int):Int:=k.wrap n
def aJ(a c:Int):Bool:=decide (a=c)
def aM(a c:Int):Bool:= !decide (a=c)
def aK(a c:Int):Bool:=decide (a<c)
def bD(a c:Int):Bool:=decide (a<=c)
def aN(a c:Int):Bool:=decide (a>c)
def aP(a c:Int):Bool:=decide (a>=c)
def eqS(a c:List UInt8):Bool:=decide (a=c)
def neS(a c:List UInt8):Bool:= !decide (a=c)
def ltS(a c:List UInt8):Bool:=Op.bytesLess a c
def leS(a c:List UInt8):Bool:=Op.bytesLess a c||decide (a=c)
def gtS(a c:List UInt8):Bool:= !(Op.bytesLess a c||decide (a=c))
def geS(a c:List UInt8):Bool:= !Op.bytesLess a c
def eqB(a c:Bool):Bool:=decide (a=c)
def Jl(x:Bool):Bool:= !x
def J0{α:Type}(l:List α):Int:=l.length
def JMx{α:Type}(c:Bool)(x y:α):α:=if c=true then x else y
def bO{α:Type}(l:List α)(i:Nat):Option α:=l[i]?
def bA{α:Type}(l:List α)(i:Nat)(x:α):List α:=l.set i x
def vat{α:Type}{n:Nat}(l:Vector α n)(i:Nat):Option α:=l[i]?
def bG{α:Type}{n:Nat}(l:Vector α n)(i:Nat)(x:α):Vector α n:=l.setIfInBounds i x
inductive Ty where
 |b
 |i (k:IntKind)
 |s
 |l (t:Ty)
 |pr (a c:Ty)
 |ar (n:Nat) (t:Ty)
 |u
 |f
 deriving DecidableEq
@[reducible] def Ty.D:Ty->Type
 | .b=>Bool
 | .i _=>Int
 | .s=>List UInt8
 | .l t=>List t.D
 | .pr a c=>a.D×c.D
 | .ar n t=>Vector t.D n
 | .u=>Unit
 | .f=>Unit
def Ty.sz:Ty->Nat| .b=>1| .i _=>1| .s=>1| .l _=>1| .pr a c=>a.sz+c.sz| .ar n t=>n*t.sz| .u=>0| .f=>1
def cel:(t:Ty)->t.D->List PV| .b,x=>[.b x]| .i k,x=>[.i k x]| .s,x=>[.s x]| .l t,x=>[.sl t.sz (x.map (cel t))]| .pr a c,x=>cel a x.1++cel c x.2| .ar _ t,x=>oP (cel t) x| .u,_=>[]| .f,_=>[.nf]
theorem dZ: ∀(t:Ty) (x:t.D),(cel t x).length=t.sz| .b,_=>rfl| .i _,_=>rfl| .s,_=>rfl| .l _,_=>rfl| .pr a c,x=>by simp only[cel,cN,dZ a,dZ c,Ty.sz]| .ar n t,x=>by simp only[cel,Ty.sz];exact JKO (dZ t) x| .u,_=>rfl| .f,_=>rfl
def Ty.eqd:(t:Ty)->DecidableEq t.D| .b=>inferInstanceAs (DecidableEq Bool)| .i _=>inferInstanceAs (DecidableEq Int)| .s=>inferInstanceAs (DecidableEq (List UInt8))| .l t=>have:=t.eqd;inferInstanceAs (DecidableEq (List t.D))| .pr a c=>have:=a.eqd;have:=c.eqd;inferInstanceAs (DecidableEq (a.D×c.D))| .ar n t=>have:=t.eqd;inferInstanceAs (DecidableEq (Vector t.D n))| .u=>inferInstanceAs (DecidableEq Unit)| .f=>inferInstanceAs (DecidableEq Unit)
def eqT(t:Ty)(x y:t.D):Bool:=have:=t.eqd;decide (x=y)
theorem dJ{t:Ty}{x y:t.D}:eqT t x y=true↔x=y:=by simp[eqT]
def Ty.zero:(t:Ty)->t.D| .b=>false| .i _=>(0:Int)| .s=>[]| .l _=>[]| .pr a c=>(a.zero,c.zero)| .ar n t=>Vector.replicate n t.zero| .u=>()| .f=>()
def Ty.ks:Ty->Option (List KD)
 | .b=>some [.b]
 | .i k=>some [.i k]
 | .s=>some [.s]
 | .l _=>none
 | .pr a c=>match a.ks,c.ks with|some x,some y=>some (x++y)|_,_=>none
 | .ar n t=>match t.ks with|some x=>some (List.replicate n x).flatten|none=>none
 | .u=>some []
 | .f=>none
theorem OG: ∀(t:Ty) {ks:List KD} (x y:t.D),t.ks=some ks->cC ks (cel t x) (cel t y)=some (eqT t x y)
 | .b,ks,x,y,h=>by injection h with h;subst h;exact JMl x y
 | .i k,ks,x,y,h=>by injection h with h;subst h;exact JMh k x y
 | .s,ks,x,y,h=>by injection h with h;subst h;exact JMf x y
 | .l _,_,_,_,h=>by cases h
 | .pr a c,ks,x,y,h=>by
  simp only[Ty.ks]at h;split at h;rename_i p q e g;injection h with h;subst h;have h1:=OG a x.1 y.1 e;have h2:=OG c x.2 y.2 g;unfold eqT at h1 h2;have j:(have:=a.eqd;decide (x.1=y.1))= @decide _ (a.eqd x.1 y.1):=rfl;have:= @D5 _ _ (a.eqd x.1 y.1) (c.eqd x.2 y.2) _ _ _ _ _ _ h1 h2;simp only[cel];refine this.trans (congrArg some ?_);grind [eqT];cases h
 | .ar n t,ks,x,y,h=>by
  simp only[Ty.ks]at h;split at h;rename_i p e;injection h with h;subst h;have:= @JL4 t.D t.eqd n p (cel t) (λx y=>by have:=OG t x y e;exact this) x y;grind [cel,eqT];cases h
 | .u,ks,x,y,h=>by injection h with h;subst h;rfl
 | .f,_,_,_,h=>by cases h
inductive Sp where
 |f (off:Nat)
 |a (i esz:Nat)
 deriving DecidableEq
def spo:List Sp->Nat|[]=>0| .f o::r=>o+spo r| .a i e::r=>i*e+spo r
def spf:Nat->List Sp->Nat×List Sp|o,.f k::r=>spf (o+k) r|o,r=>(o,r)
theorem MI: ∀(o:Nat) (p:List Sp),(spf o p).1+spo (spf o p).2=o+spo p|o,[]=>rfl|o,.f k::r=>by simp only[spf,MI,spo];omega|o,.a i e::r=>rfl
section
variable {R:Type}
def prt:(t:Ty)->t.D->(off:Nat)->List Sp->(w:Ty)->(w.D->Option R)->Option R
 |t,x,off,p,w,k=>
  if h:t=w/\off=0/\p=[]then k (h.1▸x)
  else match t,x with
   | .pr a c,x=>if off+(if p=[]then w.sz else 1)<=a.sz then prt a x.1 off p w k
    else if a.sz<=off then prt c x.2 (off-a.sz) p w k
    else none
   | .ar _ t,x=>if p=[]then(vat x (off/t.sz)).bind λy=>prt t y (off%t.sz) p w k
    else match off,p with|0,.a i e::r=>if e=t.sz then(vat x i).bind λy=>prt t y (spf 0 r).1 (spf 0 r).2 w k else none|_,_=>none
   |_,_=>none
def pst:(t:Ty)->t.D->(off:Nat)->List Sp->(w:Ty)->w.D->(t.D->Option R)->Option R
 |t,x,off,p,w,v,k=>
  if h:t=w/\off=0/\p=[]then k (h.1.symm▸v)
  else match t,x,k with
   | .pr a c,x,k=>if off+(if p=[]then w.sz else 1)<=a.sz then pst a x.1 off p w v λy=>k (y,x.2)
    else if a.sz<=off then pst c x.2 (off-a.sz) p w v λy=>k (x.1,y)
    else none
   | .ar _ t,x,k=>if p=[]then(vat x (off/t.sz)).bind λy=>pst t y (off%t.sz) p w v λy=>k (bG x (off/t.sz) y)
    else match off,p with|0,.a i e::r=>if e=t.sz then(vat x i).bind λy=>pst t y (spf 0 r).1 (spf 0 r).2 w v λy=>k (bG x i y)else none|_,_=>none
   |_,_,_=>none
end
theorem JGY{α:Type}{a b v:List α}{off n:Nat}(h:sub a off n=some v):sub (a++b) off n=some v:=by
 grind [yS]
theorem JFm{α:Type}{a b v:List α}{off n:Nat}(e:a.length<=off)(h:sub b (off-a.length) n=some v):sub (a++b) off n=some v:=by
 grind [yS,List.drop_append,List.drop_of_length_le]
theorem JHO{α:Type}{a b v e:List α}{off:Nat}(h:spl a off v=some e):spl (a++b) off v=some (e++b):=by
 grind [DF]
theorem JEC{α:Type}{a b v e:List α}{off:Nat}(g:a.length<=off)(h:spl b (off-a.length) v=some e):spl (a++b) off v=some (a++e):=by
 rw[DF]at h⊢;split at h;injection h with h;rw[if_pos (by simp;omega),<-h,List.take_append,List.take_of_length_le g,List.drop_append,List.drop_of_length_le (by omega)];simp;omega;cases h
theorem Do{α:Type}{n i:Nat}{x:Vector α n}{y:α}(h:x[i]?=some y):i<n:=by
 grind
theorem vP{R:Type}{t w:Ty}{x:t.D}{off:Nat}{p:List Sp}{k:w.D->Option R}{r:R}(e:t=w/\off=0/\p=[])(h:k (e.1▸x)=some r):
  ∃y,sub (cel t x) (off+spo p) w.sz=some (cel w y)/\k y=some r:=by
 obtain⟨rfl,rfl,rfl⟩:=e;grind [spo,YQ,dZ]
theorem vQ{R:Type}{t w:Ty}{x:t.D}{off:Nat}{p:List Sp}{v:w.D}{k:t.D->Option R}{r:R}(e:t=w/\off=0/\p=[])(h:k (e.1.symm▸v)=some r):
  ∃y,spl (cel t x) (off+spo p) (cel w v)=some (cel t y)/\k y=some r:=by
 obtain⟨rfl,rfl,rfl⟩:=e;grind [spo,Ek,dZ]
theorem vW{R:Type}: ∀{t:Ty} {x:t.D} {off:Nat} {p:List Sp} {w:Ty} {k:w.D->Option R} {r:R},prt t x off p w k=some r->
  ∃y,sub (cel t x) (off+spo p) w.sz=some (cel w y)/\k y=some r
 | .pr a c,x,off,p,w,k,r,h=>by
  unfold prt at h;by_cases g:Ty.pr a c=w/\off=0/\p=[];rw[dif_pos g]at h;exact vP g h;rw[dif_neg g]at h;dsimp only at h;by_cases h1:off+(if p=[]then w.sz else 1)<=a.sz;rw[if_pos h1]at h;obtain⟨y,v,o⟩:=vW h;exact⟨y,JGY v,o⟩;rw[if_neg h1]at h;by_cases h2:a.sz<=off;rw[if_pos h2]at h;obtain⟨y,v,o⟩:=vW h;refine⟨y,JFm (by grind [dZ]) ?_,o⟩;grind [dZ];simp_all
 | .ar n t,x,off,p,w,k,r,h=>by
  unfold prt at h;by_cases g:Ty.ar n t=w/\off=0/\p=[];rw[dif_pos g]at h;exact vP g h;rw[dif_neg g]at h;dsimp only at h;by_cases A:p=[];rw[if_pos A]at h;obtain⟨z,j,h⟩:=aU.1 h;obtain⟨y,h1,h2⟩:=vW h;refine⟨y,?_,h2⟩;have:=D7 (IG (dZ t) j) h1;grind [cel,Nat.div_add_mod];rw[if_neg A]at h;split at h;rename_i _ i e q _;split at h;rename_i B;obtain⟨z,j,h⟩:=aU.1 h;obtain⟨y,h1,h2⟩:=vW h;refine⟨y,?_,h2⟩;have:=D7 (IG (dZ t) j) h1;grind [cel,MI,spo];cases h;cases h
 | .b,x,off,p,w,k,r,h=>by
  unfold prt at h;split at h
  next g=>exact vP g h
  next=>cases h
 | .i _,x,off,p,w,k,r,h=>by
  unfold prt at h;split at h
  next g=>exact vP g h
  next=>cases h
 | .s,x,off,p,w,k,r,h=>by
  unfold prt at h;split at h
  next g=>exact vP g h
  next=>cases h
 | .l _,x,off,p,w,k,r,h=>by
  unfold prt at h;split at h
  next g=>exact vP g h
  next=>cases h
 | .u,x,off,p,w,k,r,h=>by
  unfold prt at h;split at h
  next g=>exact vP g h
  next=>cases h
 | .f,x,off,p,w,k,r,h=>by
  unfold prt at h;split at h
  next g=>exact vP g h
  next=>cases h
theorem yO{R:Type}: ∀{t:Ty} {x:t.D} {off:Nat} {p:List Sp} {w:Ty} {v:w.D} {k:t.D->Option R} {r:R},pst t x off p w v k=some r->
  ∃y,spl (cel t x) (off+spo p) (cel w v)=some (cel t y)/\k y=some r
 | .pr a c,x,off,p,w,v,k,r,h=>by
  unfold pst at h;by_cases g:Ty.pr a c=w/\off=0/\p=[];rw[dif_pos g]at h;exact vQ g h;rw[dif_neg g]at h;dsimp only at h;by_cases h1:off+(if p=[]then w.sz else 1)<=a.sz;rw[if_pos h1]at h;obtain⟨y,B,A⟩:=yO h;exact⟨(y,x.2),JHO B,A⟩;rw[if_neg h1]at h;by_cases h2:a.sz<=off;rw[if_pos h2]at h;obtain⟨y,B,A⟩:=yO h;refine⟨(x.1,y),JEC (by grind [dZ]) ?_,A⟩;grind [dZ];simp_all
 | .ar n t,x,off,p,w,v,k,r,h=>by
  unfold pst at h;by_cases g:Ty.ar n t=w/\off=0/\p=[];rw[dif_pos g]at h;exact vQ g h;rw[dif_neg g]at h;dsimp only at h;by_cases o:p=[];rw[if_pos o]at h;obtain⟨z,j,h⟩:=aU.1 h;obtain⟨y,h1,h2⟩:=yO h;refine⟨_,?_,h2⟩;have:=Dd (IG (dZ t) j) h1 (Cg (dZ t) (Do j) y);subst o;simp only[spo,uO]at this⊢;rw[SI,Nat.div_add_mod]at this;exact this;rw[if_neg o]at h;split at h;rename_i _ i e q _;split at h;rename_i C;obtain⟨z,j,h⟩:=aU.1 h;obtain⟨y,h1,h2⟩:=yO h;refine⟨_,?_,h2⟩;have:=Dd (IG (dZ t) j) h1 (Cg (dZ t) (Do j) y);have E:=MI 0 q;simp only[spo,C];rw[show i*t.sz+((spf 0 q).1+spo (spf 0 q).2)=0+(i*t.sz+spo q) by omega]at this;exact this;cases h;cases h
 | .b,x,off,p,w,v,k,r,h=>by
  unfold pst at h;split at h
  next g=>exact vQ g h
  next=>cases h
 | .i _,x,off,p,w,v,k,r,h=>by
  unfold pst at h;split at h
  next g=>exact vQ g h
  next=>cases h
 | .s,x,off,p,w,v,k,r,h=>by
  unfold pst at h;split at h
  next g=>exact vQ g h
  next=>cases h
 | .l _,x,off,p,w,v,k,r,h=>by
  unfold pst at h;split at h
  next g=>exact vQ g h
  next=>cases h
 | .u,x,off,p,w,v,k,r,h=>by
  unfold pst at h;split at h
  next g=>exact vQ g h
  next=>cases h
 | .f,x,off,p,w,v,k,r,h=>by
  unfold pst at h;split at h
  next g=>exact vQ g h
  next=>cases h
end Go.Am
end
section
namespace Go.Am
inductive TC where|d (t:Ty) (x:t.D)|sc (t:Ty) (rows:List t.D)|np|nf|un|ptr (b:Nat) (p:List Sp)|cp (t:Ty) (x:t.D) (p:List Sp)|slr (b:Nat)|slo (b n:Nat)|ep (b i:Nat) (p:List Sp)|epo (b e i:Nat) (p:List Sp)|pre (b k:Nat)|pro (b n k:Nat)|suf (b i:Nat)|suo (b i n:Nat)|fn (f:FuncId)
inductive TA where|c (x:TC)|dt (t:Ty) (x:t.D)|m (t:Ty) (cs:List TC)|fn (f:FuncId) (first caps:List TC)
inductive TV where|a (x:TA)|tup (vs:List TA)
inductive TB where|dead|box (t:Ty) (x:t.D)|mbox (t:Ty) (cs:List TC)|arr (w:Bool) (t:Ty) (rows:List t.D)
structure TSt where
 env:List (Nat×TV)
 sto:List TB
def hdP:List PV->PV|[c]=>c|_=>.np
def lnB:TB->Nat| .arr _ _ rows=>rows.length|_=>0
def lnO:Option TB->Nat|some x=>lnB x|none=>0
def lns(sto:List TB)(b:Nat):Nat:=lnO sto[b]?
section
variable (L:Nat->Nat)
def aX:TC->AV| .d t x=>.p (hdP (cel t x))| .sc t rows=>.p (.slc t.sz (rows.map (cel t)))| .np=>.p .np| .nf=>.p .nf| .un=>.unk| .ptr b p=>.ptr b (spo p)| .cp t x p=>.cp (cel t x) (spo p)| .slr b=>.slr b 0 (L b)| .slo b n=>.slr b 0 n| .ep b i p=>.ep b (L b) i (spo p)| .epo b e i p=>.ep b e i (spo p)| .pre b k=>.pre b (L b) k| .pro b n k=>.pre b n k| .suf b i=>.slr b (min i (L b)) (L b-i)| .suo b i n=>.slr b i n| .fn f=>.fn f [] []
def bS:TA->AV| .c x=>aX L x| .dt t x=>.data (cel t x)| .m _ cs=>.agg (cs.map (aX L))| .fn f a c=>.fn f (a.map (aX L)) (c.map (aX L))
def aR:TV->AV| .a x=>bS L x| .tup vs=>.tup (vs.map (bS L))
def aV:TB->Blk| .dead=>.dead| .box t x=>.box ((cel t x).map .p)| .mbox _ cs=>.box (cs.map (aX L))| .arr w t rows=>.arr w t.sz (rows.map (cel t))
end
def fI(L:Nat->Nat)(env:List (Nat×TV)):List (Nat×AV):=env.map λx=>(x.1,aR L x.2)
def Jy(s:TSt):St:=⟨fI (lns s.sto) s.env,s.sto.map (aV (lns s.sto))⟩
section
variable (L:Nat->Nat)
theorem CR(t x):aV L (.box t x)=.box ((cel t x).map .p):=rfl
theorem IJ(t cs):aV L (.mbox t cs)=.box (cs.map (aX L)):=rfl
theorem NL(w t rows):aV L (.arr w t rows)=.arr w t.sz (rows.map (cel t)):=rfl
theorem jN(b p):aR L (.a (.c (.ptr b p)))=.ptr b (spo p):=rfl
theorem lV(t x p):aR L (.a (.c (.cp t x p)))=.cp (cel t x) (spo p):=rfl
theorem fT(b):aR L (.a (.c (.slr b)))=.slr b 0 (L b):=rfl
theorem lP(b i p):aR L (.a (.c (.ep b i p)))=.ep b (L b) i (spo p):=rfl
theorem e_i(k x):aR L (.a (.c (.d (.i k) x)))=.p (.i k x):=rfl
theorem e_b(x):aR L (.a (.c (.d .b x)))=.p (.b x):=rfl
theorem e_s(x):aR L (.a (.c (.d .s x)))=.p (.s x):=rfl
theorem e_l(t x):aR L (.a (.c (.d (.l t) x)))=.p (.sl t.sz (x.map (cel t))):=rfl
theorem Az(f):aR L (.a (.c (.fn f)))=.fn f [] []:=rfl
theorem it(t x):aR L (.a (.dt t x))=.data (cel t x):=rfl
theorem i5(f a c):aR L (.a (.fn f a c))=.fn f (a.map (aX L)) (c.map (aX L)):=rfl
theorem e_m(t cs):aR L (.a (.m t cs))=.agg (cs.map (aX L)):=rfl
end
theorem FZ{t:Ty}(h:t.sz=1)(x:t.D):cel t x=[hdP (cel t x)]:=by
 have:=dZ t x;rw[h]at this
 match hc:cel t x,this with
 |[c],_=>rfl
def kC(b n:Nat):TC->TC| .slr c=>if c=b then .slo b n else .slr c| .ep c i p=>if c=b then .epo b n i p else .ep c i p| .pre c k=>if c=b then .pro b n k else .pre c k| .suf c i=>if c=b then .suo b (min i n) (n-i)else .suf c i|x=>x
def kA(b n:Nat):TA->TA| .c x=>.c (kC b n x)| .dt t x=>.dt t x| .m t cs=>.m t (cs.map (kC b n))| .fn f a c=>.fn f (a.map (kC b n)) (c.map (kC b n))
def kV(b n:Nat):TV->TV| .a x=>.a (kA b n x)| .tup vs=>.tup (vs.map (kA b n))
def kB(b n:Nat):TB->TB| .mbox t cs=>.mbox t (cs.map (kC b n))|x=>x
def wS(b:Nat)(x:TB)(s:TSt):TSt:=⟨s.env,s.sto.set b x⟩
def wN(b:Nat)(x:TB)(s:TSt):TSt:=⟨s.env.map λy=>(y.1,kV b (lns s.sto b) y.2),(s.sto.map (kB b (lns s.sto b))).set b x⟩
def bB(d:Option Nat)(v:TV)(s:TSt):TSt:=
 match d with
 |some d=>⟨(d,v)::s.env,s.sto⟩
 |none=>s
section
variable {L L':Nat->Nat} {b:Nat}
theorem k_C(h: ∀c,c≠b->L' c=L c)(x:TC):aX L' (kC b (L b) x)=aX L x:=by cases x<;>grind [kC,aX]
theorem Ag(h: ∀c,c≠b->L' c=L c)(xs:List TC):(xs.map (kC b (L b))).map (aX L')=xs.map (aX L):=by simp_all [k_C]
theorem k_A(h: ∀c,c≠b->L' c=L c)(x:TA):bS L' (kA b (L b) x)=bS L x:=by cases x<;>simp only[kA,bS,k_C h,Ag h]
theorem k_V(h: ∀c,c≠b->L' c=L c)(x:TV):aR L' (kV b (L b) x)=aR L x:=by cases x<;>simp only[kV,aR,k_A h,xX,Function.comp_def]
theorem k_B(h: ∀c,c≠b->L' c=L c)(x:TB):aV L' (kB b (L b) x)=aV L x:=by cases x<;>simp only[kB,aV,Ag h]
theorem JLo(b n:Nat)(x:TB):lnB (kB b n x)=lnB x:=by cases x<;>rfl
theorem JK9(sto:List TB)(b n c:Nat):lns (sto.map (kB b n)) c=lns sto c:=by
 unfold lns;rw[gE];cases sto[c]? with
 |none=>rfl
 |some x=>exact JLo b n x
theorem Cu(sto:List TB)(b:Nat)(x:TB)(c:Nat)(h:c≠b):lns (sto.set b x) c=lns sto c:=by
 grind [lns]
theorem XJ{sto:List TB}{b:Nat}(h:b<sto.length)(x:TB):lns (sto.set b x) b=lnB x:=by unfold lns;rw[uH h];rfl
theorem Bd(b:Nat)(x:TB)(s:TSt):Jy (wN b x s)=⟨(Jy s).env,(Jy s).sto.set b (aV (lns (wN b x s).sto) x)⟩:=by
 have h: ∀c,c≠b->lns (wN b x s).sto c=lns s.sto c:=λc e=>by
  grind [wN,Cu,JK9]
 unfold Jy
 congr 1
 show fI _ (s.env.map λy=>(y.1,kV b (lns s.sto b) y.2))=fI _ s.env;simp_all [fI,k_V];show((s.sto.map (kB b (lns s.sto b))).set b x).map _=_;grind [List.map_set,List.map_congr_left,k_B]
theorem CX{b:Nat}{x:TB}{s:TSt}(h:lnB x=lns s.sto b):lns (wS b x s).sto=lns s.sto:=by
 grind [wS,XJ,List.set_eq_of_length_le,Cu]
theorem yD{b:Nat}{x:TB}{s:TSt}(h:lnB x=lns s.sto b):Jy (wS b x s)=⟨(Jy s).env,(Jy s).sto.set b (aV (lns s.sto) x)⟩:=by
 grind [Jy,CX,wS,List.map_set]
theorem rE{s s1:TSt}{ws:List (Nat×Blk)}(h:Jy s1=⟨(Jy s).env,upd ws (Jy s).sto⟩)(d:Option Nat)(v:TV):put d ⟨aR (lns s1.sto) v,ws⟩ (Jy s)=Jy (bB d v s1):=by cases d<;>simp_all [bB,Jy,fI]
end
theorem IP{s:TSt}(d:Option Nat)(v:TV):put d ⟨aR (lns s.sto) v,[]⟩ (Jy s)=Jy (bB d v s):=rE rfl d v
def tlk(n:Nat):List (Nat×TV)->Option TV|[]=>none|(m,v)::r=>if n=m then some v else tlk n r
theorem yM(L:Nat->Nat)(n:Nat): ∀env:List (Nat×TV),lk n (fI L env)=(tlk n env).map (aR L)
 |[]=>rfl
 |(m,v)::r=>by
  simp only[fI,bT,lk,tlk];split;rfl;exact yM L n r
theorem dS(s:TSt)(b:Nat):(Jy s).sto[b]?=(s.sto[b]?).map (aV (lns s.sto)):=by simp[Jy]
theorem jA{sto:List TB}{b:Nat}{w:Bool}{t:Ty}{rows:List t.D}(h:sto[b]?=some (.arr w t rows)):lns sto b=rows.length:=by unfold lns;rw[h];rfl
inductive TO where|t (n:Nat)|c (x:TV)
def erO:TO->Opd| .t n=>.t n| .c x=>.c (aR (λ_=>0) x)
def A3:TC->Bool| .d _ _| .sc _ _| .np| .nf| .un| .fn _=>true|_=>false
def ML:TA->Bool| .c x=>A3 x| .dt _ _=>true| .m _ _=>false| .fn _ a c=>a.isEmpty&&c.isEmpty
def CE:TV->Bool| .a x=>ML x| .tup vs=>vs.isEmpty
theorem JH2{L L':Nat->Nat}{v:TV}(h:CE v=true):aR L v=aR L' v:=by
 cases v with
 |a x=>
  cases x with
  |c x=>cases x<;>first|rfl|grind [CE,ML,A3]
  |dt t x=>rfl
  |m t cs=>grind [CE,ML]
  |fn f a c=>simp[CE,ML]at h;obtain⟨rfl,rfl⟩:=h;rfl
 |tup vs=>simp[CE]at h;subst h;rfl
def tev:TO->TSt->Option TV| .t n,s=>tlk n s.env| .c x,_=>if CE x=true then some x else none
theorem bP{x:TO}{s:TSt}{v:TV}(h:tev x s=some v):(ev (erO x)).run (Jy s)=some (aR (lns s.sto) v):=by
 cases x with
 |t n=>simp only[erO,ev,wB];show(lk n (fI (lns s.sto) s.env)).bind _=_;rw[yM,show tlk n s.env=some v from h];rfl
 |c x=>
  grind [tev,erO,ev,JW,JH2]
end Go.Am
end
section
namespace Go.Am
@[reducible] def vi(k:IntKind)(n:Int):TV:=.a (.c (.d (.i k) n))
@[reducible] def vb(x:Bool):TV:=.a (.c (.d .b x))
@[reducible] def vs(l:List UInt8):TV:=.a (.c (.d .s l))
@[reducible] def vl(t:Ty)(l:List t.D):TV:=.a (.c (.d (.l t) l))
def uv:TV:=.tup []
def mkv(agg:Bool)(t:Ty)(x:t.D):TV:=if agg=true then .a (.dt t x)else .a (.c (.d t x))
def Ok{R:Type}(m:RM Eff)(d:Option Nat)(s:TSt)(k:TSt->Option R)(r:R):Prop:= ∃e s',m.run (Jy s)=some e/\put d e (Jy s)=Jy s'/\k s'=some r
def asm:(t:Ty)->List TC->Option t.D
 | .pr a c,l=>match asm a (l.take a.sz),asm c (l.drop a.sz)with|some x,some y=>some (x,y)|_,_=>none
 | .ar _ _,_=>none
 | .u,l=>if l.isEmpty=true then some ()else none
 |t,l=>match l with|[.d t' x]=>if h:t'=t then some (h▸x)else none|_=>none
def xN:(t:Ty)->t.D->Option (List TC)
 | .pr a c,x=>match xN a x.1,xN c x.2 with|some l,some q=>some (l++q)|_,_=>none
 | .ar _ _,_=>none
 | .u,_=>some []
 |t,x=>some [.d t x]
theorem HV(L:Nat->Nat): ∀{t:Ty} {l:List TC} {x:t.D},asm t l=some x->l.map (aX L)=(cel t x).map .p
 | .pr a c,l,x,h=>by
  simp only[asm]at h;split at h;rename_i y z g j;injection h with h;subst h;have h1:=HV L g;have h2:=HV L j;grind [cel,List.take_append_drop];cases h
 | .ar _ _,_,_,h=>by cases h
 | .u,l,x,h=>by
  simp only[asm]at h;split at h;rename_i e;rw[List.isEmpty_iff.1 e];rfl;cases h
 | .b,l,x,h=>by
  simp only[asm]at h;split at h;split at h;rename_i e;subst e;injection h with h;subst h;rfl;cases h;cases h
 | .i _,l,x,h=>by
  simp only[asm]at h;split at h;split at h;rename_i e;subst e;injection h with h;subst h;rfl;cases h;cases h
 | .s,l,x,h=>by
  simp only[asm]at h;split at h;split at h;rename_i e;subst e;injection h with h;subst h;rfl;cases h;cases h
 | .l _,l,x,h=>by
  simp only[asm]at h;split at h;split at h;rename_i e;subst e;injection h with h;subst h;rfl;cases h;cases h
 | .f,l,x,h=>by
  simp only[asm]at h;split at h;split at h;rename_i e;subst e;injection h with h;subst h;rfl;cases h;cases h
theorem II(L:Nat->Nat): ∀{t:Ty} {x:t.D} {l:List TC},xN t x=some l->l.map (aX L)=(cel t x).map .p
 | .pr a c,x,l,h=>by
  simp only[xN]at h;split at h;rename_i y z e g;injection h with h;subst h;have h1:=II L e;have h2:=II L g;grind [cel];cases h
 | .ar _ _,_,_,h=>by cases h
 | .u,x,l,h=>by injection h with h;subst h;rfl
 | .b,x,l,h=>by injection h with h;subst h;rfl
 | .i _,x,l,h=>by injection h with h;subst h;rfl
 | .s,x,l,h=>by injection h with h;subst h;rfl
 | .l _,x,l,h=>by injection h with h;subst h;rfl
 | .f,x,l,h=>by injection h with h;subst h;rfl
def zcs:Ty->List TC| .pr a c=>zcs a++zcs c| .ar n t=>(List.replicate n (zcs t)).flatten| .u=>[]|t=>[.d t t.zero]
theorem CV(L:Nat->Nat): ∀t:Ty,(zcs t).map (aX L)=(cel t t.zero).map .p| .pr a c=>by simp only[zcs,xE,CV L a,CV L c,Ty.zero,cel]| .ar n t=>by have ih:=CV L t;simp_all [cel,oP,Ty.zero,zcs]| .u=>rfl| .b=>rfl| .i _=>rfl| .s=>rfl| .l _=>rfl| .f=>rfl
def mkb(t:Ty)(cs:List TC):TB:=match asm t cs with|some x=>.box t x|none=>.mbox t cs
theorem OZ(L:Nat->Nat)(t:Ty)(cs:List TC):aV L (mkb t cs)=.box (cs.map (aX L)):=by
 unfold mkb;split;grind [CR,HV];rfl
theorem OQ(t:Ty)(cs:List TC):lnB (mkb t cs)=0:=by unfold mkb;split<;>rfl
def SG:TC->Bool| .ptr _ _| .cp _ _ _| .slr _| .slo _ _| .ep _ _ _| .epo _ _ _ _| .un| .fn _| .pre _ _| .pro _ _ _| .suf _ _| .suo _ _ _=>true|_=>false
theorem YS(L:Nat->Nat): ∀{cs:List TC},cs.any SG=true->unp (cs.map (aX L))=none
 |[],h=>by simp at h
 |x::r,h=>by
  simp only[List.any_cons,BP]at h;rcases h with h|h;cases x<;>simp[SG]at h<;>rfl
  have:=YS L h;cases x<;>simp[aX,unp,this]
def mka(agg:Bool)(t:Ty)(cs:List TC):Option TV:=
 if agg=true then
  match asm t cs with
  |some x=>some (.a (.dt t x))
  |none=>if cs.any SG=true then some (.a (.m t cs))else none
 else match cs with|[c]=>some (.a (.c c))|_=>none
theorem CT(L:Nat->Nat){agg:Bool}{t:Ty}{cs:List TC}{v:TV}(h:mka agg t cs=some v):jU agg (cs.map (aX L))=some (aR L v):=by
 unfold mka at h;split at h;rename_i e;subst e;split at h;rename_i x j;injection h with h;subst h;rw[HV L j,r8];rfl;split at h;rename_i g;injection h with h;subst h;simp only[jU,YS L g,if_true];rfl;cases h;rename_i e;split at h;injection h with h;subst h;have:agg=false:=by simpa using e
 subst this;rfl;cases h
def tcs:TV->Option (List TC)| .a (.c .un)=>none| .a (.c (.pre _ _))=>none| .a (.c (.pro _ _ _))=>none| .a (.c x)=>some [x]| .a (.dt t x)=>xN t x| .a (.m _ cs)=>some cs| .a (.fn f [] [])=>some [.fn f]|_=>none
theorem IE(L:Nat->Nat){v:TV}{cs:List TC}(h:tcs v=some cs):cellsOf (aR L v)=some (cs.map (aX L)):=by
 cases v with
 |a x=>
  cases x with
  |c x=>cases x<;>cases h<;>rfl
  |dt t x=>simp only[aR,bS,cellsOf];rw[II L h]
  |m t cs=>injection h with h;subst h;rfl
  |fn f a c=>
   cases a with
   |nil=>cases c with
    |nil=>injection h with h;subst h;rfl
    |cons y c=>cases h
   |cons y a=>cases h
 |tup vs=>cases h
def tdv(t:Ty):TV->Option t.D| .a (.c (.d t' x))=>if h:t'=t then some (h▸x)else none| .a (.dt t' x)=>if h:t'=t then some (h▸x)else none|_=>none
def agv:TV->Bool| .a (.dt _ _)=>true|_=>false
theorem JLq(L:Nat->Nat){t:Ty}{v:TV}{x:t.D}(h:tdv t v=some x):aR L v=if agv v=true then .data (cel t x)else .p (hdP (cel t x)):=by
 unfold tdv at h;split at h;split at h;rename_i e;subst e;injection h with h;subst h;rfl;cases h;split at h;rename_i e;subst e;injection h with h;subst h;rfl;cases h;cases h
def sK:List Sp->Option Nat
 |[]=>some 0
 | .f o::r=>match sK r with|some n=>some (o+n)|none=>none
 | .a _ _::_=>none
theorem CP: ∀{p:List Sp} {n:Nat},sK p=some n->spo p=n
 |[],n,h=>by injection h with h
 | .f o::r,n,h=>by
  simp only[sK]at h;split at h;rename_i m e;injection h with h;simp only[spo,CP e,h];cases h
 | .a _ _::_,_,h=>by cases h
section
variable {R:Type}
def kt(agg:Bool)(t:Ty)(v:TV)(d:Option Nat)(s:TSt)(k:TSt->Option R):Option R:=
 if agg=true\/t.sz=1 then
  match v with
  | .a (.c (.cp e x p))=>prt e x (spf 0 p).1 (spf 0 p).2 t λy=>k (bB d (mkv agg t y) s)
  | .a (.c (.ptr b p))=>match s.sto[b]? with
   |some (.box e x)=>prt e x (spf 0 p).1 (spf 0 p).2 t λy=>k (bB d (mkv agg t y) s)
   |some (.mbox _ cs)=>match sK p with
    |some off=>match sub cs off t.sz with
     |some l=>match mka agg t l with|some v=>k (bB d v s)|none=>none
     |none=>none
    |none=>none
   |_=>none
  | .a (.c (.ep b i p))=>match s.sto[b]? with|some (.arr _ e rows)=>(bO rows i).bind λrow=>prt e row (spf 0 p).1 (spf 0 p).2 t λy=>k (bB d (mkv agg t y) s)|_=>none
  |_=>none
 else none
theorem CO(L:Nat->Nat){agg:Bool}{t:Ty}(h:agg=true\/t.sz=1)(y:t.D):nU agg (cel t y)=some (aR L (mkv agg t y)):=by
 unfold mkv;split;rename_i e;subst e;rfl;rename_i e;have:agg=false:=by simpa using e
 subst this;have:=h.resolve_left (by simp);rw[FZ this];rfl
theorem FM(p:List Sp):(spf 0 p).1+spo (spf 0 p).2=spo p:=by simp[MI]
theorem JHE{agg:Bool}{t:Ty}{v:TV}{d:Option Nat}{s:TSt}{k:TSt->Option R}{r:R}(h:kt agg t v d s k=some r):Ok (gF agg t.sz (aR (lns s.sto) v)) d s k r:=by
 unfold kt at h;split at h;rename_i j;split at h;rename_i n x p;obtain⟨y,h1,h2⟩:=vW h;rw[FM]at h1;refine⟨_,_,?_,IP d (mkv agg t y),h2⟩;simp only[jN,lV,lP,fT,gF,h1,CO (lns s.sto) j,val];rfl;rename_i b p;split at h;rename_i n x e;obtain⟨y,h1,h2⟩:=vW h;rw[FM]at h1;refine⟨_,_,?_,IP d (mkv agg t y),h2⟩;have z:jU agg ((cel t y).map .p)=nU agg (cel t y):=by
  unfold jU nU;split;rw[IX];cases hcel:cel t y with
  |nil=>rfl
  |cons a l=>cases l<;>rfl
 simp only[jN,lV,lP,fT,gF,cY,dS,e,cH,Jv,aV,DJ,h1,z,CO (lns s.sto) j,val];rfl;rename_i cs e;split at h;rename_i off o;split at h;rename_i l hl;split at h;rename_i v q;refine⟨_,_,?_,IP d v,h⟩;simp only[jN,lV,lP,fT,gF,cY,dS,e,cH,Jv,aV,DJ,CP o,hl,CT (lns s.sto) q,val];rfl;cases h;cases h;cases h;cases h;rename_i b i p;split at h;rename_i w n rows e;obtain⟨row,g,h⟩:=aU.1 h;have g:rows[i]?=some row:=g;obtain⟨y,h1,h2⟩:=vW h;rw[FM]at h1;refine⟨_,_,?_,IP d (mkv agg t y),h2⟩;simp only[jN,lV,lP,fT,gF,cY,dS,e,cH,Jv,aV,jA e,eB,if_true,gE,g,h1,CO (lns s.sto) j,val];rfl;cases h;cases h;cases h
end
end Go.Am
end
section
namespace Go.Am
section
variable {R:Type}
def fzC:(t:Ty)->List TC->TSt->(t.D->TSt->Option R)->Option R
 | .pr a c,l,s,k=>fzC a (l.take a.sz) s λx s=>fzC c (l.drop a.sz) s λy s=>k (x,y) s
 | .ar _ _,_,_,_=>none
 | .u,l,s,k=>if l.isEmpty=true then k () s else none
 | .l e,l,s,k=>match l with
  |[.d t' x]=>if h:t'=.l e then k (h▸x) s else none
  |[.slr b]=>match s.sto[b]? with|some (.arr _ e' rows)=>if h:e'=e then k (h▸rows) (wS b (.arr false e' rows) s)else none|_=>none
  |_=>none
 |t,l,s,k=>match l with|[.d t' x]=>if h:t'=t then k (h▸x) s else none|_=>none
def tfz(t:Ty)(v:TV)(s:TSt)(k:t.D->TSt->Option R):Option R:=
 match v with
 | .a (.dt t' x)=>if h:t'=t then k (h▸x) s else none
 | .a (.c x)=>fzC t [x] s k
 | .a (.m _ cs)=>fzC t cs s k
 |_=>none
def Fzd(s s':TSt)(ws:List (Nat×Blk)):Prop:=s'.env=s.env/\lns s'.sto=lns s.sto/\Jy s'=⟨(Jy s).env,upd ws (Jy s).sto⟩/\(∀(b:Nat) (t:Ty) (rows:List t.D) (w:Bool),s'.sto[b]?=some (TB.arr w t rows)-> ∃w',s.sto[b]?=some (TB.arr w' t rows))/\(∀(b:Nat) (t:Ty) (rows:List t.D),s.sto[b]?=some (TB.arr false t rows)->s'.sto[b]?=some (TB.arr false t rows))/\ ∀x∈ws,∃(t:Ty) (rows:List t.D),s'.sto[x.1]?=some (TB.arr false t rows)
theorem Fzd.refl(s:TSt):Fzd s s []:=⟨rfl,rfl,rfl,λb t rows w h=>⟨w,h⟩,λb t rows h=>h,λx h=>by cases h⟩
theorem Fzd.trans{s1 e g:TSt}{a c:List (Nat×Blk)}(h:Fzd s1 e a)(j:Fzd e g c):Fzd s1 g (a++c):=by
 obtain⟨h1,h2,B,z,o,y⟩:=h;obtain⟨n,q,A,v,k,r⟩:=j;refine⟨n.trans h1,q.trans h2,?_,λb t rows w h=>?_,λb t rows h=>k b t rows (o b t rows h),λx C=>?_⟩
 all_goals grind [eR]
theorem YU{s:TSt}{b:Nat}{w:Bool}{t:Ty}{rows:List t.D}(hb:s.sto[b]?=some (.arr w t rows)):Fzd s (wS b (.arr false t rows) s) [(b,.arr false t.sz (rows.map (cel t)))]:=by
 have hl:lnB (.arr false t rows)=lns s.sto b:=by rw[jA hb];rfl
 have j:(wS b (.arr false t rows) s).sto[b]?=some (.arr false t rows):=by grind [wS]
 have g: ∀c,c≠b->(wS b (.arr false t rows) s).sto[c]?=s.sto[c]?:=λc k=>by grind [wS]
 refine⟨rfl,CX hl,yD hl,λc t' e w' h=>?_,λc t' e h=>?_,λx n=>?_⟩
 all_goals grind
theorem JIW(x y:List AV)(st:St):(fz.fzL (x++y)).run st=((fz.fzL x).run st).bind λa=>((fz.fzL y).run st).map λc=>(a.1++c.1,a.2++c.2):=by
 induction x with
 |nil=>simp_all
 |cons v x ih=>
  simp only[BK,fz.fzL,run_bind,ih];cases(fz.fz1 v).run st with
  |none=>rfl
  |some a=>
   simp only[Jv];cases(fz.fzL x).run st with
   |none=>rfl
   |some c=>simp only[Jv];cases(fz.fzL y).run st<;>simp_all
theorem HQ{L:Nat->Nat}{t t':Ty}{x:t'.D}(h:t'=t)(h1:t.sz=1)(st:St):(fz.fzL ([TC.d t' x].map (aX L))).run st=some (cel t (h▸x),[]):=by
 grind [FZ,aX,fz.fzL,fz.fz1,run_bind,JW]
theorem IH: ∀{t:Ty} {l:List TC} {s0 s:TSt} {w0:List (Nat×Blk)} {k:t.D->TSt->Option R} {r:R},Fzd s0 s w0->fzC t l s k=some r->
  ∃y s' ws,(fz.fzL (l.map (aX (lns s0.sto)))).run (Jy s0)=some (cel t y,ws)/\Fzd s0 s' (w0++ws)/\k y s'=some r
 | .pr a c,l,s0,s,w0,k,r,j,h=>by simp only[fzC]at h;obtain⟨x,s1,z,B,q,h⟩:=IH j h;obtain⟨y,v,C,A,E,h⟩:=IH q h;refine⟨(x,y),v,z++C,?_,by simp_all,h⟩;have:=JIW ((l.take a.sz).map (aX (lns s0.sto))) ((l.drop a.sz).map (aX (lns s0.sto))) (Jy s0);rw[<-xE,BZ,B,A]at this;exact this
 | .ar _ _,_,_,_,_,_,_,_,h=>by cases h
 | .u,l,s0,s,w0,k,r,j,h=>by
  simp only[fzC]at h;split at h;rename_i g;refine⟨(),s,[],?_,by simp_all,h⟩;rw[List.isEmpty_iff.1 g];rfl;cases h
 | .l e,l,s0,s,w0,k,r,j,h=>by
  simp only[fzC]at h;split at h;split at h;rename_i g;exact⟨_,s,[],HQ g rfl _,by simp_all,h⟩;cases h;rename_i b;split at h;rename_i w e' rows o;split at h;rename_i g;subst g;obtain⟨w',n⟩:=j.2.2.2.1 b _ rows w o;refine⟨rows,_,[(b,.arr false e'.sz (rows.map (cel e')))],?_,j.trans (YU o),h⟩;simp only[bT,List.map_nil,aX,fz.fzL,fz.fz1,run_bind,cY,dS,n,cH,Jv,aV,jA n,eB,nG,if_true,xL,JW];rfl;cases h;cases h;cases h
 | .b,l,s0,s,w0,k,r,j,h=>by
  simp only[fzC]at h;split at h;split at h;rename_i g;exact⟨_,s,[],HQ g rfl _,by simp_all,h⟩;cases h;cases h
 | .i _,l,s0,s,w0,k,r,j,h=>by
  simp only[fzC]at h;split at h;split at h;rename_i g;exact⟨_,s,[],HQ g rfl _,by simp_all,h⟩;cases h;cases h
 | .s,l,s0,s,w0,k,r,j,h=>by
  simp only[fzC]at h;split at h;split at h;rename_i g;exact⟨_,s,[],HQ g rfl _,by simp_all,h⟩;cases h;cases h
 | .f,l,s0,s,w0,k,r,j,h=>by
  simp only[fzC]at h;split at h;split at h;rename_i g;exact⟨_,s,[],HQ g rfl _,by simp_all,h⟩;cases h;cases h
theorem JMJ(x:AV)(hx:(∀cs,x≠.data cs)/\ ∀cs,x≠.agg cs)(st:St){y:List PV}{ws:List (Nat×Blk)}(h:(fz.fzL [x]).run st=some (y,ws)):(fz x).run st=some (y,ws):=by simp only[fz.fzL,run_bind,JW]at h;cases x<;>simp_all [aU]
theorem B4{t:Ty}{v:TV}{s0 s:TSt}{w0:List (Nat×Blk)}{k:t.D->TSt->Option R}{r:R}(g:Fzd s0 s w0)(h:tfz t v s k=some r):
  ∃y s' ws,(fz (aR (lns s0.sto) v)).run (Jy s0)=some (cel t y,ws)/\Fzd s0 s' (w0++ws)/\k y s'=some r:=by
 unfold tfz at h;split at h;split at h;rename_i j;subst j;exact⟨_,s,[],rfl,by simp_all,h⟩;cases h;rename_i x;obtain⟨y,s',ws,h1,h2,e⟩:=IH g h;refine⟨y,s',ws,JMJ _ ⟨λcs=>?_,λcs=>?_⟩ _ h1,h2,e⟩<;>cases x<;>simp[aX,aR,bS]
 obtain⟨y,s',ws,h1,h2,e⟩:=IH g h;exact⟨y,s',ws,h1,h2,e⟩;cases h
end
end Go.Am
end
section
namespace Go.Am
section
variable {R:Type}
theorem ef(L:Nat->Nat){t:Ty}{v:TV}{x:t.D}(h:tdv t v=some x)(ha:agv v=true\/t.sz=1):cellsOf (aR L v)=some ((cel t x).map .p):=by
 rw[JLq L h];split;rfl;rename_i e;rw[FZ (ha.resolve_left e)];rfl
def XX(t:Ty)(x u:TV)(d:Option Nat)(s:TSt)(k:TSt->Option R):Option R:=
 match x with
 | .a (.c (.ptr b p))=>match s.sto[b]? with
  |some (.box e y)=>match tdv t u with
   |some z=>if agv u=true\/t.sz=1 then pst e y (spf 0 p).1 (spf 0 p).2 t z λh=>k (bB d uv (wS b (.box e h) s))else none
   |none=>match sK p,xN e y,tcs u with
    |some off,some cs,some l=>if l.length=t.sz then
     match spl cs off l with
     |some cs'=>k (bB d uv (wS b (mkb e cs') s))
     |none=>none
     else none
    |some off,none,some l=>if off=0/\l.length=e.sz/\l.length=t.sz then k (bB d uv (wS b (mkb e l) s))else none
    |_,_,_=>none
  |some (.mbox e cs)=>match sK p,tcs u with
   |some off,some l=>if l.length=t.sz then
    match spl cs off l with
    |some cs'=>k (bB d uv (wS b (mkb e cs') s))
    |none=>none
    else none
   |_,_=>none
  |_=>none
 | .a (.c (.ep b i p))=>tfz t u s λz s1=>match s1.sto[b]? with|some (.arr true e rows)=>(bO rows i).bind λrow=>pst e row (spf 0 p).1 (spf 0 p).2 t z λg=>k (bB d uv (wS b (.arr true e (bA rows i g)) s1))|_=>none
 |_=>none
theorem JLt(L:Nat->Nat):aR L uv=gJ:=rfl
theorem OI{s:TSt}{b:Nat}{t:Ty}{x:t.D}(h:s.sto[b]?=some (.box t x)):lns s.sto b=0:=by unfold lns;rw[h];rfl
theorem nw{s:TSt}{b:Nat}{t:Ty}{cs:List TC}(h:s.sto[b]?=some (.mbox t cs)):lns s.sto b=0:=by unfold lns;rw[h];rfl
theorem yU{s:TSt}{b:Nat}(h:s.sto[b]?=some .dead):lns s.sto b=0:=by unfold lns;rw[h];rfl
theorem GM{m:RM Eff}{d:Option Nat}{s:TSt}{k:TSt->Option R}{r:R}{b:Nat}{x:TB}{v:TV}(hl:lnB x=lns s.sto b)(hm:m.run (Jy s)=some ⟨aR (lns s.sto) v,[(b,aV (lns s.sto) x)]⟩)
  (h:k (bB d v (wS b x s))=some r):Ok m d s k r:=by
 refine⟨_,_,hm,?_,h⟩;have e:=CX hl;rw[<-e];refine rE ?_ d v;simp_all [yD]
theorem MK{m:RM Eff}{d:Option Nat}{s:TSt}{k:TSt->Option R}{r:R}{b:Nat}{x:TB}{v:TV}(hm:m.run (Jy s)=some ⟨aR (lns (wN b x s).sto) v,[(b,aV (lns (wN b x s).sto) x)]⟩)
  (h:k (bB d v (wN b x s))=some r):Ok m d s k r:=
 ⟨_,_,hm,rE (Bd b x s) d v,h⟩
theorem eM{m:RM Eff}{d:Option Nat}{s:TSt}{k:TSt->Option R}{r:R}{v:TV}(hm:m.run (Jy s)=some ⟨aR (lns s.sto) v,[]⟩)(h:k (bB d v s)=some r):Ok m d s k r:=
 ⟨_,_,hm,IP d v,h⟩
theorem XM{m:RM Eff}{d:Option Nat}{s s':TSt}{ws:List (Nat×Blk)}{k:TSt->Option R}{r:R}{v:TV}(f:Fzd s s' ws)(hm:m.run (Jy s)=some ⟨aR (lns s.sto) v,ws⟩)(h:k (bB d v s')=some r):Ok m d s k r:=by refine⟨_,_,hm,?_,h⟩;rw[<-f.2.1];exact rE f.2.2.1 d v
theorem JEi{t:Ty}{x u:TV}{d:Option Nat}{s:TSt}{k:TSt->Option R}{r:R}(h:XX t x u d s k=some r):Ok (hQ t.sz (aR (lns s.sto) x) (aR (lns s.sto) u)) d s k r:=by
 unfold XX at h;split at h;rename_i b p;split at h;rename_i g y e;split at h;rename_i z F;split at h;rename_i I;obtain⟨E,h1,h2⟩:=yO h;rw[FM]at h1;refine GM (x:=.box g E) (v:=uv) (OI e).symm ?_ h2;simp only[jN,lV,lP,fT,hQ,cY,dS,e,cH,Jv,aV,ef (lns s.sto) F I,eB,dZ,if_true,DI,h1,JW];rfl;cases h;split at h;rename_i off cs l o K hl;split at h;rename_i B;split at h;rename_i cs' A;refine GM (x:=mkb g cs') (v:=uv) ((OQ _ _).trans (OI e).symm) ?_ h;rw[OZ];simp only[jN,lV,lP,fT,hQ,cY,dS,e,cH,Jv,aV,IE (lns s.sto) hl,eB,B,if_true,CP o,<-II (lns s.sto) K,DI,A,JW];rfl;cases h;cases h;rename_i off l o _ hl;split at h;rename_i D;obtain⟨rfl,h1,h2⟩:=D;refine GM (x:=mkb g l) (v:=uv) ((OQ _ _).trans (OI e).symm) ?_ h;rw[OZ];have J:spl ((cel g y).map AV.p) 0 (l.map (aX (lns s.sto)))=some (l.map (aX (lns s.sto))):=Ek (by grind [dZ]);simp only[jN,lV,lP,fT,hQ,cY,dS,e,cH,Jv,aV,IE (lns s.sto) hl,eB,h2,if_true,CP o,J,JW];rfl;cases h;cases h;rename_i g cs e;split at h;rename_i off l o hl;split at h;rename_i B;split at h;rename_i cs' A;refine GM (x:=mkb g cs') (v:=uv) ((OQ _ _).trans (nw e).symm) ?_ h;rw[OZ];simp only[jN,lV,lP,fT,hQ,cY,dS,e,cH,Jv,aV,IE (lns s.sto) hl,eB,B,if_true,CP o,DI,A,JW];rfl;cases h;cases h;cases h;cases h;rename_i b i p;obtain⟨z,s1,ws,h1,f,h⟩:=B4 (Fzd.refl s) h;rw[uM]at f;split at h;rename_i g rows e;obtain⟨row,w,h⟩:=aU.1 h;have w:rows[i]?=some row:=w;obtain⟨j,C,L⟩:=yO h;rw[FM]at C;obtain⟨w',n⟩:=f.2.2.2.1 b _ rows true e;have G:w'=true:=by
  cases w' with
  |true=>rfl
  |false=>have:=f.2.2.2.2.1 b _ rows n;simp_all
 subst G;have q:(ws.all λy=>y.1 !=b)=true:=(by rw[SH];intro y H;obtain⟨t',rows',hf⟩:=f.2.2.2.2.2 y H;grind);have hl:lnB (.arr true g (bA rows i j))=lns s1.sto b:=by grind [jA,lnB,bA]
 refine⟨⟨gJ,ws++[(b,.arr true g.sz ((bA rows i j).map (cel g)))]⟩,_,?_,?_,L⟩;simp only[jN,lV,lP,fT,hQ,cY,dS,n,cH,Jv,aV,jA n,eB,if_true,gE,w,run_bind,h1,dZ,q,and_self,C,JW,List.map_set,bA];rw[<-JLt (lns (wS b (.arr true g (bA rows i j)) s1).sto)];refine rE ?_ d uv;rw[yD hl,f.2.2.1,eR];rfl;cases h;cases h
def tpv:List (Nat×Ty×TO)->TSt->Option (List (Nat×(w:Ty)×w.D))
 |[],_=>some []
 |(off,w,o)::r,s=>match tev o s with
  |some v=>match tdv w v with
   |some z=>if agv v=true\/w.sz=1 then
    match tpv r s with
    |some l=>some ((off,⟨w,z⟩)::l)
    |none=>none
    else none
   |none=>none
  |none=>none
def MQ(t:Ty):t.D->List (Nat×(w:Ty)×w.D)->(t.D->Option R)->Option R|x,[],k=>k x|x,(off,⟨w,z⟩)::r,k=>pst t x off [] w z λe=>MQ t e r k
def tpc:List (Nat×Ty×TO)->TSt->Option (List (Nat×Nat×List TC))
 |[],_=>some []
 |(off,w,o)::r,s=>match tev o s with
  |some v=>match tcs v with
   |some l=>match tpc r s with|some q=>some ((off,w.sz,l)::q)|none=>none
   |none=>none
  |none=>none
def GO:List (Nat×Nat×List TC)->List TC->Option (List TC)
 |[],cs=>some cs
 |(off,n,c)::r,cs=>if c.length=n then
  match spl cs off c with
  |some cs'=>GO r cs'
  |none=>none
  else none
def erP(parts:List (Nat×Ty×TO)):List (Nat×Nat×Opd):=parts.map λx=>(x.1,x.2.1.sz,erO x.2.2)
theorem XV{s:TSt}: ∀{parts:List (Nat×Ty×TO)} {l:List (Nat×Nat×List TC)},tpc parts s=some l->
  (jP (erP parts)).run (Jy s)=some (l.map λx=>(x.1,x.2.1,x.2.2.map (aX (lns s.sto))))
 |[],l,h=>by injection h with h;subst h;rfl
 |(off,w,o)::r,l,h=>by
  simp only[tpc]at h;split at h;rename_i v g;split at h;rename_i c j;split at h;rename_i q e;injection h with h;subst h;have ih:=XV e;simp only[erP,bT,jP,run_bind,bP g,Jv,IE (lns s.sto) j];simp_all [erP];cases h;cases h;cases h
theorem Bv{s:TSt}: ∀{parts:List (Nat×Ty×TO)} {l:List (Nat×(w:Ty)×w.D)},tpv parts s=some l->
  (jP (erP parts)).run (Jy s)=some (l.map λx=>(x.1,x.2.1.sz,(cel x.2.1 x.2.2).map .p))
 |[],l,h=>by injection h with h;subst h;rfl
 |(off,w,o)::r,l,h=>by
  simp only[tpv]at h;split at h;rename_i v g;split at h;rename_i z k;split at h;rename_i j;split at h;rename_i q e;injection h with h;subst h;have ih:=Bv e;simp only[erP,bT,jP,run_bind,bP g,Jv,ef (lns s.sto) k j];simp_all [erP];cases h;cases h;cases h;cases h
theorem oc{t:Ty}: ∀{l:List (Nat×(w:Ty)×w.D)} {x:t.D} {k:t.D->Option R} {r:R},MQ t x l k=some r->
  ∃y,pN (l.map λx=>(x.1,x.2.1.sz,(cel x.2.1 x.2.2).map .p)) ((cel t x).map .p)=some ((cel t y).map .p)/\k y=some r
 |[],x,k,r,h=>⟨x,rfl,h⟩
 |(off,⟨w,z⟩)::q,x,k,r,h=>by
  simp only[MQ]at h;obtain⟨e,h1,h2⟩:=yO h;obtain⟨y,j,g⟩:=oc h2;grind [pN,dZ,DI,spo]
theorem dh(L:Nat->Nat): ∀{l:List (Nat×Nat×List TC)} {cs cs':List TC},GO l cs=some cs'->
  pN (l.map λx=>(x.1,x.2.1,x.2.2.map (aX L))) (cs.map (aX L))=some (cs'.map (aX L))
 |[],cs,cs',h=>by injection h with h;subst h;rfl
 |(off,n,c)::q,cs,cs',h=>by
  simp only[GO]at h;split at h;rename_i e;split at h;rename_i j g;simp only[bT,pN,eB,e,if_true,DI,g,cH];exact dh L h;cases h;cases h
def XR(t:Ty)(parts:List (Nat×Ty×TO))(d:Option Nat)(s:TSt)(k:TSt->Option R):Option R:=
 match tpv parts s with
 |some l=>MQ t t.zero l λy=>k (bB d (.a (.dt t y)) s)
 |none=>match tpc parts s with
  |some l=>match GO l (zcs t)with
   |some cs'=>match mka true t cs' with|some v=>k (bB d v s)|none=>none
   |none=>none
  |none=>none
theorem JEU(F:Orc)(new:Nat){t:Ty}{parts:List (Nat×Ty×TO)}{d:Option Nat}{s:TSt}{k:TSt->Option R}{r:R}(h:XR t parts d s k=some r):Ok (opR F (.build (cel t t.zero) (erP parts)) new) d s k r:=by
 unfold XR at h;split at h;rename_i l hl;obtain⟨y,h1,h2⟩:=oc h;refine eM (v:=.a (.dt t y)) ?_ h2;simp only[opR,run_bind,Bv hl,Jv,h1,r8,val,JW];rfl;split at h;rename_i l hl;split at h;rename_i cs' hf;split at h;rename_i v e;refine eM (v:=v) ?_ h;simp only[opR,run_bind,XV hl,Jv,<-CV (lns s.sto) t,dh (lns s.sto) hf,CT (lns s.sto) e,val,JW];cases h;cases h;cases h
def XS(agg:Bool)(off:Nat)(t:Ty)(v:TV)(d:Option Nat)(s:TSt)(k:TSt->Option R):Option R:=
 if agg=true\/t.sz=1 then
  match v with
  | .a (.dt e x)=>prt e x off [] t λy=>k (bB d (mkv agg t y) s)
  | .a (.m _ cs)=>match sub cs off t.sz with
   |some l=>match mka agg t l with|some v=>k (bB d v s)|none=>none
   |none=>none
  |_=>none
 else none
theorem JEz{agg:Bool}{off:Nat}{t:Ty}{v:TV}{d:Option Nat}{s:TSt}{k:TSt->Option R}{r:R}(h:XS agg off t v d s k=some r):Ok (val (rB agg off t.sz (aR (lns s.sto) v))) d s k r:=by
 unfold XS at h;split at h;rename_i j;split at h;rename_i e x;obtain⟨y,h1,h2⟩:=vW h;refine eM (v:=mkv agg t y) ?_ h2;grind [spo,it,rB,CO,val,JW];rename_i cs;split at h;rename_i l hl;split at h;rename_i v g;refine eM (v:=v) ?_ h;grind [e_m,rB,DJ,CT,val,JW];cases h;cases h;cases h;cases h
end
end Go.Am
end
section
namespace Go.Am
section
variable {R:Type}
theorem ZG{α:Type} [BEq α] [LawfulBEq α] [DecidableEq α](x y:α):(x==y)=decide (x=y):=by
 grind
def Vl(m:Option AV)(s:TSt)(kk:TV->Option R)(r:R):Prop:= ∃v,m=some (aR (lns s.sto) v)/\kk v=some r
theorem Vl.ok{m:Option AV}{d:Option Nat}{s:TSt}{k:TSt->Option R}{r:R}(h:Vl m s (λv=>k (bB d v s)) r):Ok (val m) d s k r:=by obtain⟨v,h1,h2⟩:=h;refine eM (v:=v) ?_ h2;rw[h1];rfl
def ie(op:BinOp)(k:IntKind)(a c:Int)(kk:TV->Option R):Option R:=
 match op with
 | .add=>kk (vi k (J1 k a c))
 | .sub=>kk (vi k (JL k a c))
 | .mul=>kk (vi k (cF k a c))
 | .quo=>(jt k a c).bind λq=>kk (vi k q)
 | .rem=>(oT a c).bind λq=>kk (vi k q)
 | .and=>kk (vi k (jH k a c))
 | .or=>kk (vi k (orI k a c))
 | .xor=>kk (vi k (eP k a c))
 | .eql=>kk (vb (aJ a c))
 | .neq=>kk (vb (aM a c))
 | .lss=>kk (vb (aK a c))
 | .leq=>kk (vb (bD a c))
 | .gtr=>kk (vb (aN a c))
 | .geq=>kk (vb (aP a c))
 |_=>none
def jv(op:BinOp)(a c:List UInt8)(kk:TV->Option R):Option R:=
 match op with
 | .add=>(bQ a c).bind λq=>kk (vs q)
 | .eql=>kk (vb (eqS a c))
 | .neq=>kk (vb (neS a c))
 | .lss=>kk (vb (ltS a c))
 | .leq=>kk (vb (leS a c))
 | .gtr=>kk (vb (gtS a c))
 | .geq=>kk (vb (geS a c))
 |_=>none
inductive TBT where|plain|bool|flat (t:Ty)|nilp|nilf
def erT:TBT->BT| .plain=>.plain| .bool=>.bool| .flat t=>.flat (t.ks.getD [])| .nilp=>.nilp| .nilf=>.nilf
def nE(op:BinOp)(x:Bool)(kk:TV->Option R):Option R:=
 match op with
 | .eql=>kk (vb x)
 | .neq=>kk (vb (Jl x))
 |_=>none
def ix(op:BinOp)(bt:TBT)(x y:TV)(kk:TV->Option R):Option R:=
 match bt with
 | .plain=>match x,y with
  | .a (.c (.d (.i k) a)),.a (.c (.d (.i j) c))=>match op with| .shl=>(kD k a c).bind λq=>kk (vi k q)| .shr=>(iB k a c).bind λq=>kk (vi k q)|_=>if k=j then ie op k a c kk else none
  | .a (.c (.d .s a)),.a (.c (.d .s c))=>jv op a c kk
  |_,_=>none
 | .bool=>match x,y with| .a (.c (.d .b a)),.a (.c (.d .b c))=>nE op (eqB a c) kk|_,_=>none
 | .flat t=>match x,y with| .a (.dt g a),.a (.dt e c)=>if h:g=t/\e=t/\t.ks.isSome=true then nE op (eqT t (h.1▸a) (h.2.1▸c)) kk else none|_,_=>none
 | .nilp=>match x with| .a (.c .np)=>nE op true kk| .a (.c (.ptr _ _))=>nE op false kk| .a (.c (.cp _ _ _))=>nE op false kk| .a (.c (.ep _ _ _))=>nE op false kk|_=>none
 | .nilf=>match x with| .a (.c .nf)=>nE op true kk| .a (.fn _ _ _)=>nE op false kk| .a (.c (.fn _))=>nE op false kk| .a (.c (.d .f _))=>nE op true kk|_=>none
theorem OK{op:BinOp}{x:Bool}{s:TSt}{kk:TV->Option R}{r:R}(h:nE op x kk=some r):Vl (iL op (some x)) s kk r:=by
 unfold nE at h;split at h;exact⟨_,rfl,h⟩;exact⟨_,rfl,h⟩;cases h
theorem JId{op:BinOp}{k:IntKind}{a c:Int}{s:TSt}{kk:TV->Option R}{r:R}(h:ie op k a c kk=some r):Vl ((xB op k a c).map .p) s kk r:=by
 unfold ie at h;split at h<;>first
  |exact⟨_,rfl,h⟩
  |(obtain⟨q,h1,h⟩:=aU.1 h
    refine⟨_,?_,h⟩
    first|unfold jt at h1|unfold oT at h1
    split at h1;cases h1;rename_i e;injection h1 with h1;simp only[xB,if_neg e,h1,cH,e_i])
  |(refine⟨_,?_,h⟩;simp only[xB,ZG,cH,e_b,bne,aJ,aM,aK,bD,aN,aP];done)
  |cases h
theorem JJD{op:BinOp}{a c:List UInt8}{s:TSt}{kk:TV->Option R}{r:R}(h:jv op a c kk=some r):Vl ((xF op a c).map .p) s kk r:=by
 unfold jv at h;split at h<;>first
  |(obtain⟨q,h1,h⟩:=aU.1 h
    refine⟨_,?_,h⟩;unfold bQ at h1;split at h1;rename_i e;injection h1 with h1;simp only[xF,if_pos e,h1,cH,e_s];cases h1)
  |(refine⟨_,?_,h⟩;simp only[xF,ZG,cH,e_b,eqS,neS,ltS,leS,gtS,geS];done)
  |cases h
theorem JJ2{op:BinOp}{bt:TBT}{x y:TV}{s:TSt}{kk:TV->Option R}{r:R}(h:ix op bt x y kk=some r):Vl (nC op (erT bt) (aR (lns s.sto) x) (aR (lns s.sto) y)) s kk r:=by
 unfold ix at h;split at h;split at h;rename_i k a g c;simp only[e_i,erT,nC];split at h;obtain⟨q,h1,h⟩:=aU.1 h;unfold kD at h1;split at h1;cases h1;rename_i e;injection h1 with h1;exact⟨_,by simp_all [e_i],h⟩;obtain⟨q,h1,h⟩:=aU.1 h;unfold iB at h1;split at h1;cases h1;rename_i e;injection h1 with h1;exact⟨_,by simp_all [e_i],h⟩;grind [JId];exact JJD h;cases h;split at h;rename_i a c;simp only[e_b,erT,nC,ZG];exact OK h;cases h;grind [Option.isSome_iff_exists,it,erT,nC,OG,OK];split at h<;>first|exact OK h|cases h
 split at h<;>first|exact OK h|cases h
def tUn(op:UnOp)(x:TV)(kk:TV->Option R):Option R:=
 match op,x with
 | .neg,.a (.c (.d (.i k) n))=>kk (vi k (JMO k n))
 | .xor,.a (.c (.d (.i k) n))=>kk (vi k (GH k n))
 | .not,.a (.c (.d .b x))=>kk (vb (Jl x))
 |_,_=>none
theorem JLb{op:UnOp}{x:TV}{s:TSt}{kk:TV->Option R}{r:R}(h:tUn op x kk=some r):Vl (unP op (aR (lns s.sto) x)) s kk r:=by unfold tUn at h;split at h<;>first|exact⟨_,rfl,h⟩|cases h
def tMm(mx:Bool)(x y:TV)(kk:TV->Option R):Option R:=
 match x,y with
 | .a (.c (.d (.i k) a)),.a (.c (.d (.i _) c))=>kk (vi k (if mx=true then eD a c else lY a c))
 |_,_=>none
theorem JLA{mx:Bool}{x y:TV}{s:TSt}{kk:TV->Option R}{r:R}(h:tMm mx x y kk=some r):Vl (mmP mx (aR (lns s.sto) x) (aR (lns s.sto) y)) s kk r:=by
 unfold tMm at h;split at h;exact⟨_,by cases mx<;>rfl,h⟩;cases h
def tls(t:Ty)(v:TV)(s:TSt):Option (List t.D):=
 match v with
 | .a (.c (.d (.l t') l))=>if h:t'=t then some (h▸l)else none
 | .a (.c (.d .s l))=>if h:t=.i .u8 then some (h▸(aQ l:List (Ty.i .u8).D))else none
 | .a (.c (.slr b))=>match s.sto[b]? with|some (.arr _ t' rows)=>if h:t'=t then some (h▸rows)else none|_=>none
 | .a (.c (.suf b i))=>match s.sto[b]? with|some (.arr _ t' rows)=>if h:t'=t then some (h▸rows.drop i)else none|_=>none
 |_=>none
theorem IF{t:Ty}{v:TV}{s:TSt}{l:List t.D}(h:tls t v s=some l):(eL t.sz (aR (lns s.sto) v)).run (Jy s)=some (l.map (cel t)):=by
 unfold tls at h;split at h;grind [e_l,eL,JW];split at h;rename_i g;subst g;injection h with h;subst h;simp only[e_s,eL,Ty.sz,if_true,JW,ZU];rfl;cases h;rename_i b;split at h;rename_i w t' rows j;split at h;rename_i g;subst g;injection h with h;subst h;simp only[fT,eL,cY,dS,j,cH,Jv,aV,jA j,eB,nG,and_self,if_true,JW,xL];cases h;cases h;rename_i b i;split at h;rename_i w t' rows j;split at h;rename_i g;subst g;injection h with h;subst h;have e:aR (lns s.sto) (.a (.c (.suf b i)))=.slr b (min i (lns s.sto b)) (lns s.sto b-i):=rfl;have n:min i rows.length+(rows.length-i)=rows.length:=by omega
 have k:(rows.map (cel t')).drop (min i rows.length)=(rows.map (cel t')).drop i:=(by rcases Nat.le_total i rows.length with h|h;rw[Nat.min_eq_left h];rw[Nat.min_eq_right h,List.drop_of_length_le (by simp),List.drop_of_length_le (by simpa using h)]);simp only[e,eL,cY,dS,j,cH,Jv,aV,jA j,eB,n,and_self,if_true,JW,k,List.map_drop];cases h;cases h;cases h
def kp(k:CK)(x:TV)(d:Option Nat)(new:Nat)(s:TSt)(kk:TSt->Option R):Option R:=
 match k with
 | .int k=>match x with| .a (.c (.d (.i _) n))=>kk (bB d (vi k (aT k n)) s)|_=>none
 | .same=>match x with| .a (.c (.d .s l))=>kk (bB d (vs l) s)|_=>none
 | .toStr=>match tls (.i .u8) x s with|some l=>kk (bB d (vs (toStr l)) s)|none=>none
 | .toBytes own=>match x with| .a (.c (.d .s l))=>if own=true then kk (bB d (.a (.c (.slr new))) (wN new (.arr true (.i .u8) (aQ l)) s))else kk (bB d (vl (.i .u8) (aQ l)) s)|_=>none
theorem JGy(F:Orc){k:CK}{x:TO}{v:TV}{d:Option Nat}{new:Nat}{s:TSt}{kk:TSt->Option R}{r:R}(hx:tev x s=some v)(hn:k=.toBytes true->new<s.sto.length)(h:kp k v d new s kk=some r):Ok (opR F (.conv k (erO x)) new) d s kk r:=by
 unfold kp at h;split at h;split at h;refine eM (v:=vi _ _) ?_ h;simp only[opR,run_bind,bP hx,Jv,e_i,JW,aT];cases h;split at h;refine eM (v:=vs _) ?_ h;grind [opR,run_bind,bP,e_s,JW];cases h;split at h;rename_i l hl;refine eM (v:=vs _) ?_ h;have:=IF hl;have e:l.map (cel (.i .u8))=l.map (r_i .u8):=rfl;rw[e]at this;simp only[opR,run_bind,bP hx,Jv,this,fg,e_s,JW,Ty.sz];rw[show(eL 1 (aR (lns s.sto) v)).run (Jy s)=some (l.map (r_i .u8))from this];simp[fg];cases h;rename_i own;split at h;rename_i l;split at h;rename_i g;subst g;refine MK (x:=.arr true (.i .u8) (aQ l)) (v:=.a (.c (.slr new))) ?_ h;simp only[opR,run_bind,bP hx,Jv,e_s,if_true,JW,fT,aV,ZU];have e:lns (wN new (TB.arr true (Ty.i IntKind.u8) (aQ l)) s).sto new=l.length:=(by grind [wN,XJ,lnB,aQ]);rw[e];rfl;rename_i g;have:own=false:=by simpa using g
 subst this;refine eM (v:=vl _ _) ?_ h;simp only[opR,run_bind,bP hx,Jv,e_s,eE,if_false,JW,e_l,ZU];rfl;cases h
end
end Go.Am
end
section
namespace Go.Am
section
variable {R:Type}
theorem Dx(p q:List Sp):spo (p++q)=spo p+spo q:=by
 induction p with
 |nil=>simp[spo]
 |cons x p ih=>cases x<;>simp only[BK,spo,ih]<;>omega
def YG(off:Nat)(x:TV)(kk:TV->Option R):Option R:=
 match x with
 | .a (.c (.ptr b p))=>kk (.a (.c (.ptr b (p++[.f off]))))
 | .a (.c (.cp t x p))=>kk (.a (.c (.cp t x (p++[.f off]))))
 | .a (.c (.ep b i p))=>kk (.a (.c (.ep b i (p++[.f off]))))
 |_=>none
theorem JEL{off:Nat}{x:TV}{s:TSt}{kk:TV->Option R}{r:R}(h:YG off x kk=some r):Vl (IA off (aR (lns s.sto) x)) s kk r:=by
 unfold YG at h;split at h<;>first
  |(refine⟨_,?_,h⟩;simp only[jN,lV,lP,IA,Dx,spo,uO];done)
  |cases h
def YI(len esz:Nat)(x i:TV)(kk:TV->Option R):Option R:=
 match i with
 | .a (.c (.d (.i _) n))=>(bC len n).bind λ_=>match x with| .a (.c (.ptr b p))=>kk (.a (.c (.ptr b (p++[.a n.toNat esz]))))| .a (.c (.cp t x p))=>kk (.a (.c (.cp t x (p++[.a n.toNat esz]))))| .a (.c (.ep b i p))=>kk (.a (.c (.ep b i (p++[.a n.toNat esz]))))|_=>none
 |_=>none
theorem JEY{len esz:Nat}{x i:TV}{s:TSt}{kk:TV->Option R}{r:R}(h:YI len esz x i kk=some r):Vl (HY len esz (aR (lns s.sto) x) (aR (lns s.sto) i)) s kk r:=by
 unfold YI at h;split at h;obtain⟨_,h1,h⟩:=aU.1 h;have e:=Cs h1;split at h<;>first
  |(refine⟨_,?_,h⟩;simp only[jN,lV,lP,e_i,HY,if_pos e,Dx,spo,uO];done)
  |cases h
 cases h
def XY(t:Ty)(x i:TV)(s:TSt)(kk:TV->Option R):Option R:=
 match i with
 | .a (.c (.d (.i _) n))=>match x with
  | .a (.c (.d (.l t') l))=>if t'=t then(idx l n).bind λy=>kk (.a (.c (.cp t' y [])))else none
  | .a (.c (.slr b))=>match s.sto[b]? with|some (.arr _ t' rows)=>if t'=t then(bC rows.length n).bind λ_=>kk (.a (.c (.ep b n.toNat [])))else none|_=>none
  |_=>none
 |_=>none
theorem JEv{t:Ty}{x i:TV}{d:Option Nat}{s:TSt}{k:TSt->Option R}{r:R}(h:XY t x i s (λv=>k (bB d v s))=some r):Ok (mD t.sz (aR (lns s.sto) x) (aR (lns s.sto) i)) d s k r:=by
 unfold XY at h;split at h;split at h;split at h;rename_i e;subst e;obtain⟨y,h1,h⟩:=aU.1 h;refine eM (v:=.a (.c (.cp _ y []))) ?_ h;grind [e_l,e_i,lV,mD,JEr,JW,spo];cases h;rename_i b;split at h;rename_i w t' rows g;split at h;rename_i e;subst e;obtain⟨_,h1,h⟩:=aU.1 h;have e:=Cs h1;refine eM (v:=.a (.c (.ep b _ []))) ?_ h;simp only[fT,e_i,lP,mD,cY,dS,g,cH,Jv,aV,jA g,eB,nG,true_and];rw[if_pos e];rfl;cases h;cases h;cases h;cases h
def ll(x i:TV)(kk:TV->Option R):Option R:=
 match x,i with
 | .a (.c (.d .s l)),.a (.c (.d (.i _) n))=>(gA l n).bind λu=>kk (vi .u8 u)
 |_,_=>none
theorem JHU(F:Orc){x i:TO}{g e:TV}{d:Option Nat}{new:Nat}{s:TSt}{k:TSt->Option R}{r:R}(hx:tev x s=some g)(hi:tev i s=some e)(h:ll g e (λv=>k (bB d v s))=some r):Ok (opR F (.sidx (erO x) (erO i)) new) d s k r:=by
 unfold ll at h;split at h
 ·rename_i l o n;obtain⟨u,h1,h⟩:=aU.1 h;refine eM (v:=vi .u8 u) ?_ h;simp only[opR,run_bind,bP hx,bP hi,Jv,e_s,e_i];unfold gA at h1;split at h1
  ·rename_i j;rw[if_pos j];split at h1
   all_goals simp_all
  cases h1
 cases h
def SR(j:Int)(k:Nat->Option R):Nat->Option R|0=>none|m+1=>if aJ j m=true then k m else SR j k m
theorem C4{j:Int}{k:Nat->Option R}{r:R}: ∀{n:Nat},SR j k n=some r-> ∃m,m<n/\j=m/\k m=some r
 |0,h=>by cases h
 |n+1,h=>by
  simp only[SR]at h;split at h;grind [aJ];obtain⟨m,h1,h2,e⟩:=C4 h;grind
def km(agg:Bool)(len:Nat)(t:Ty)(x i:TV)(d:Option Nat)(s:TSt)(k:TSt->Option R):Option R:=
 if agg=true\/t.sz=1 then
  match x,i with
  | .a (.dt (.ar n t') v),.a (.c (.d (.i _) j))=>if h:t'=t/\n=len then(im v j).bind λy=>k (bB d (mkv agg t (h.1▸y)) s)else none
  | .a (.m _ cs),.a (.c (.d (.i _) j))=>SR j (λm=>match sub cs (m*t.sz) t.sz with
   |some l=>match mka agg t l with|some v=>k (bB d v s)|none=>none
   |none=>none) len
  |_,_=>none
 else none
theorem JGW(F:Orc){agg:Bool}{len:Nat}{t:Ty}{x i:TO}{o g:TV}{d:Option Nat}{new:Nat}{s:TSt}{k:TSt->Option R}{r:R}(hx:tev x s=some o)(hi:tev i s=some g)(h:km agg len t o g d s k=some r):
  Ok (opR F (.aidx agg len t.sz (erO x) (erO i)) new) d s k r:=by
 unfold km at h;split at h;rename_i C;split at h;rename_i n t' v z j;split at h;rename_i w;obtain⟨rfl,rfl⟩:=w;obtain⟨y,h1,h⟩:=aU.1 h;obtain⟨h2,e⟩:=JFG h1;refine eM (v:=mkv agg t' y) ?_ h;simp only[opR,run_bind,bP hx,bP hi,Jv,it,e_i,if_pos h2,rB];grind [cel,IG,dZ,CO,val,JW];cases h;rename_i B cs z j;obtain⟨m,h1,q,e⟩:=C4 h;clear h;subst q;split at e;rename_i l hl;split at e;rename_i v A;refine eM (v:=v) ?_ e;have h2:(0:Int)<=m/\(m:Int)<len:=by omega
 simp only[opR,run_bind,bP hx,bP hi,Jv,e_m,e_i,if_pos h2,rB,Int.toNat_natCast,DJ,hl,cH,CT (lns s.sto) A,val,JW];cases e;cases e;cases h;cases h
def kq(x:TV)(i:Nat)(kk:TV->Option R):Option R:=
 match x with
 | .tup vs=>match vs[i]? with|some v=>kk (.a v)|none=>none
 |_=>none
theorem JHI{x:TV}{i:Nat}{s:TSt}{kk:TV->Option R}{r:R}(h:kq x i kk=some r):Vl (NF i (aR (lns s.sto) x)) s kk r:=by
 unfold kq at h;split at h;split at h;rename_i v e;refine⟨_,?_,h⟩;simp_all [aR];cases h;cases h
def js(str:Bool)(x:TV)(s:TSt)(kk:TV->Option R):Option R:=
 match str,x with
 |true,.a (.c (.d .s l))=>kk (vi .i64 (J0 l))
 |false,.a (.c (.d (.l _) l))=>kk (vi .i64 (J0 l))
 |false,.a (.c (.slr b))=>match s.sto[b]? with|some (.arr _ _ rows)=>kk (vi .i64 (J0 rows))|_=>none
 |false,.a (.c (.slo _ n))=>kk (vi .i64 n)
 |_,_=>none
theorem JIj{str:Bool}{x:TV}{s:TSt}{kk:TV->Option R}{r:R}(h:js str x s kk=some r):Vl (GE str (aR (lns s.sto) x)) s kk r:=by
 unfold js at h;split at h;exact⟨_,rfl,h⟩;exact⟨_,by simp[e_l,e_i,J0],h⟩;split at h;rename_i e;exact⟨_,by grind [fT,GE,jA,e_i,J0],h⟩;cases h;exact⟨_,rfl,h⟩;cases h
theorem ZH{s:TSt}{new:Nat}(hn:new<s.sto.length){w:Bool}{t:Ty}{rows:List t.D}:lns (wN new (TB.arr w t rows) s).sto new=rows.length:=by unfold wN;rw[XJ (by simpa using hn)];rfl
theorem NY{m:RM Eff}{d:Option Nat}{s:TSt}{k:TSt->Option R}{r:R}{new:Nat}{t:Ty}{rows:List t.D}(hn:new<s.sto.length)
  (hm:m.run (Jy s)=some ⟨.slr new 0 rows.length,[(new,.arr true t.sz (rows.map (cel t)))]⟩) (h:k (bB d (.a (.c (.slr new))) (wN new (.arr true t rows) s))=some r):Ok m d s k r:=by
 refine MK (x:=.arr true t rows) (v:=.a (.c (.slr new))) ?_ h;rw[hm,fT,ZH hn];rfl
def ZT(own:Bool)(t:Ty)(bytes:Nat)(l c:TV)(d:Option Nat)(new:Nat)(s:TSt)(k:TSt->Option R):Option R:=
 match l,c with
 | .a (.c (.d (.i _) n)),.a (.c (.d (.i _) m))=>(mkS bytes n m t.zero).bind λrows=>
  if own=true then k (bB d (.a (.c (.slr new))) (wN new (.arr true t rows) s))else k (bB d (vl t rows) s)
 |_,_=>none
theorem F9(F:Orc){own:Bool}{t:Ty}{bytes:Nat}{l c:TO}{e n:TV}{d:Option Nat}{new:Nat}{s:TSt}{k:TSt->Option R}{r:R}(hl:tev l s=some e)(hc:tev c s=some n)(hn:own=true->new<s.sto.length)
  (h:ZT own t bytes e n d new s k=some r):Ok (opR F (.mkslice own t.sz bytes (cel t t.zero) (erO l) (erO c)) new) d s k r:=by
 unfold ZT at h;split at h;obtain⟨rows,h1,j⟩:=aU.1 h;obtain⟨h2,rfl⟩:=JJq h1;clear h;split at j;rename_i g;subst g;refine NY (hn rfl) ?_ j;simp only[opR,run_bind,bP hl,bP hc,Jv,e_i,if_pos h2,if_true,JW,BY,TS];rename_i g;have:own=false:=by simpa using g
 subst this;refine eM (v:=vl t _) ?_ j;simp only[opR,run_bind,bP hl,bP hc,Jv,e_i,if_pos h2,eE,if_false,JW,e_l,TS];cases h
def SO(t:Ty)(bytes:Nat)(x y:TV)(d:Option Nat)(s:TSt)(k:TSt->Option R):Option R:=
 match x with
 | .a (.c (.slr b))=>match s.sto[b]? with
  |some (.arr w t' rows)=>if h:t'=t then
   match tls t' y s with
   |some l=>(JI bytes rows l).bind λm=>k (bB d (.a (.c (.slr b))) (wN b (.arr w t' m) s))
   |none=>none
   else none
  |_=>none
 |_=>none
theorem Dk{t:Ty}{bytes:Nat}{x y:TV}{d:Option Nat}{s:TSt}{k:TSt->Option R}{r:R}(h:SO t bytes x y d s k=some r):Ok (iA t.sz bytes (aR (lns s.sto) x) (aR (lns s.sto) y)) d s k r:=by
 unfold SO at h;split at h;rename_i b;split at h;rename_i w t' rows e;split at h;rename_i j;subst j;split at h;rename_i l hl;obtain⟨m,h1,h⟩:=aU.1 h;refine MK (x:=.arr w t' m) (v:=.a (.c (.slr b))) ?_ h;have g:(Jy s).sto[b]?=some (.arr w t'.sz (rows.map (cel t'))):=by rw[dS,e];rfl
 have:=JJ9 h1 g (IF hl);rw[fT,jA e,this,fT,ZH (Jq e)];rfl;cases h;cases h;cases h;cases h
def ld(x hi:TV)(d:Option Nat)(s:TSt)(k:TSt->Option R):Option R:=
 match x,hi with
 | .a (.c (.slr b)),.a (.c (.d (.i _) n))=>match s.sto[b]? with|some (.arr _ _ rows)=>(FD n rows.length).bind λj=>k (bB d (.a (.c (.pre b j))) s)|_=>none
 |_,_=>none
theorem JGL{x hi:TV}{d:Option Nat}{s:TSt}{k:TSt->Option R}{r:R}(h:ld x hi d s k=some r):Ok (sN (aR (lns s.sto) x) (aR (lns s.sto) hi)) d s k r:=by
 unfold ld at h;split at h;rename_i b q n;split at h;rename_i w t rows g;obtain⟨j,h1,h⟩:=aU.1 h;unfold FD at h1;split at h1;rename_i o;injection h1 with h1;subst h1;refine eM (v:=.a (.c (.pre b n.toNat))) ?_ h;have e:aR (lns s.sto) (.a (.c (.pre b n.toNat)))=.pre b (lns s.sto b) n.toNat:=rfl;simp only[e,fT,e_i,sN,cY,dS,g,cH,Jv,aV,jA g,eB,true_and,o,and_self,if_true,JW];cases h1;cases h;cases h
def lg(t:Ty)(x lo:TV)(d:Option Nat)(s:TSt)(k:TSt->Option R):Option R:=
 match x,lo with
 | .a (.c (.slr b)),.a (.c (.d (.i _) n))=>match s.sto[b]? with|some (.arr _ t' rows)=>if t'=t then(FN n rows.length).bind λj=>k (bB d (.a (.c (.suf b j))) s)else none|_=>none
 |_,_=>none
theorem JHD{t:Ty}{x lo:TV}{d:Option Nat}{s:TSt}{k:TSt->Option R}{r:R}(h:lg t x lo d s k=some r):Ok (sO t.sz (aR (lns s.sto) x) (aR (lns s.sto) lo)) d s k r:=by
 unfold lg at h;split at h;rename_i b y n;split at h;rename_i w t' rows g;split at h;rename_i ht;subst ht;obtain⟨j,h1,h⟩:=aU.1 h;unfold FN at h1;split at h1;rename_i o;injection h1 with h1;subst h1;refine eM (v:=.a (.c (.suf b n.toNat))) ?_ h;have e:aR (lns s.sto) (.a (.c (.suf b n.toNat)))=.slr b (min n.toNat (lns s.sto b)) (lns s.sto b-n.toNat):=rfl;have q:min n.toNat rows.length=n.toNat:=Nat.min_eq_left (by omega);simp only[e,fT,e_i,sO,cY,dS,g,cH,Jv,aV,jA g,eB,nG,true_and,o,and_self,if_true,JW,q];cases h1;cases h;cases h;cases h
def ln(t:Ty)(bytes:Nat)(x y:TV)(d:Option Nat)(s:TSt)(k:TSt->Option R):Option R:=
 match x with
 | .a (.c (.pre b n))=>match s.sto[b]? with
  |some (.arr true t' rows)=>if h:t'=t then
   match tls t' y s with
   |some l=>(FU bytes rows n l).bind λm=>k (bB d (vl t' m) (wN b (.arr false t' (m++rows.drop (n+l.length))) s))
   |none=>none
   else none
  |_=>none
 |_=>none
theorem JFO{t:Ty}{bytes:Nat}{x y:TV}{d:Option Nat}{s:TSt}{k:TSt->Option R}{r:R}(h:ln t bytes x y d s k=some r):Ok (sP t.sz bytes (aR (lns s.sto) x) (aR (lns s.sto) y)) d s k r:=by
 unfold ln at h;split at h;rename_i b n;split at h;rename_i t' rows j;split at h;rename_i o;subst o;split at h;rename_i l hl;obtain⟨m,h1,h⟩:=aU.1 h;unfold FU at h1;split at h1;rename_i q;injection h1 with h1;subst h1;refine MK (x:=.arr false t' (rows.take n++l++rows.drop (n+l.length))) (v:=vl t' (rows.take n++l)) ?_ h;have g:(Jy s).sto[b]?=some (.arr true t'.sz (rows.map (cel t'))):=by rw[dS,j];rfl
 have e:aR (lns s.sto) (.a (.c (.pre b n)))=.pre b (lns s.sto b) n:=rfl;simp only[e,jA j,sP,cY,g,Jv,run_bind,IF hl,eB,q,and_self,if_true,JW,e_l,NL,xE,iu,List.map_drop];cases h1;cases h;cases h;cases h;cases h
def ko(t:Ty)(bytes:Nat)(y:TV)(d:Option Nat)(new:Nat)(s:TSt)(k:TSt->Option R):Option R:=
 match tls t y s with
 |some l=>(cM bytes l).bind λm=>k (bB d (.a (.c (.slr new))) (wN new (.arr true t m) s))
 |none=>none
theorem JG8(F:Orc){t:Ty}{bytes:Nat}{z:List PV}{y:TO}{e:TV}{d:Option Nat}{new:Nat}{s:TSt}{k:TSt->Option R}{r:R}(hy:tev y s=some e)(hn:new<s.sto.length)(h:ko t bytes e d new s k=some r):Ok (opR F (.appn t.sz bytes z (erO y)) new) d s k r:=by
 unfold ko at h;split at h;rename_i l hl;obtain⟨m,h1,g⟩:=aU.1 h;obtain⟨h2,rfl⟩:=JFC h1;refine NY hn ?_ g;simp only[opR,run_bind,bP hy,Jv,IF hl,eB,h2,if_true,JW];cases h
def kn(t:Ty)(bytes:Nat)(x y:TV)(d:Option Nat)(s:TSt)(k:TSt->Option R):Option R:=
 match y with
 | .a (.c (.d (.i _) n))=>if 0<=n then SO t bytes x (vl t (List.replicate n.toNat t.zero)) d s k else none
 |_=>none
theorem JGT(F:Orc){t:Ty}{bytes:Nat}{x y:TO}{g j:TV}{d:Option Nat}{new:Nat}{s:TSt}{k:TSt->Option R}{r:R}(hx:tev x s=some g)(hy:tev y s=some j)(h:kn t bytes g j d s k=some r):Ok (opR F (.appz t.sz bytes (cel t t.zero) (erO x) (erO y)) new) d s k r:=by
 unfold kn at h;split at h;rename_i n;split at h;rename_i o;obtain⟨e,s',h1,h2,q⟩:=Dk h;refine⟨e,s',?_,h2,q⟩;simp only[opR,run_bind,bP hx,bP hy,Jv,e_i,zrs,if_pos o];simp_all [e_l];cases h;cases h
def k8(t:Ty)(bytes:Nat)(x y:TV)(d:Option Nat)(new:Nat)(s:TSt)(k:TSt->Option R):Option R:=
 match x with
 | .a (.c (.sc t' rows))=>if h:t'=t then
   match tls t' y s with
   |some l=>(Af bytes rows l).bind λm=>k (bB d (.a (.c (.slr new))) (wN new (.arr true t' m) s))
   |none=>none
  else none
 |_=>none
theorem JGM(F:Orc){t:Ty}{bytes:Nat}{z:List PV}{x y:TO}{e g:TV}{d:Option Nat}{new:Nat}{s:TSt}{k:TSt->Option R}{r:R}(hx:tev x s=some e)(hy:tev y s=some g)(hn:new<s.sto.length)(h:k8 t bytes e g d new s k=some r):
  Ok (opR F (.appc t.sz bytes z (erO x) (erO y)) new) d s k r:=by
 unfold k8 at h;split at h;rename_i t' rows;split at h;rename_i j;subst j;split at h;rename_i l hl;obtain⟨m,h1,h⟩:=aU.1 h;unfold Af at h1;split at h1;rename_i h2;injection h1 with h1;subst h1;refine NY hn ?_ h;simp only[opR,run_bind,bP hx,bP hy,Jv];show(FS t'.sz bytes (.p (.slc t'.sz (rows.map (cel t')))) _ new).run _=_;grind [FS,run_bind,IF,JW];cases h1;cases h;cases h;cases h
def tbn(x:Option TO)(s:TSt):Option (Option (IntKind×Int)):=
 match x with
 |none=>some none
 |some o=>match tev o s with|some (.a (.c (.d (.i k) n)))=>some (some (k,n))|_=>none
def bv(x:Option (IntKind×Int)):Option AV:=x.map λy=>.p (.i y.1 y.2)
theorem CU{x:Option TO}{s:TSt}{y:Option (IntKind×Int)}(h:tbn x s=some y):(evo (x.map erO)).run (Jy s)=some (bv y):=by
 cases x with
 |none=>injection h with h;subst h;rfl
 |some o=>
  simp only[tbn]at h;split at h;rename_i k n e;injection h with h;subst h;simp only[cH,evo,run_bind,bP e,Jv,JW,bv,e_i];cases h
theorem JL3(x:Option (IntKind×Int))(top d:Nat):mF (bv x) top d=BU (x.map (·.2)) top d:=by cases x<;>rfl
theorem Cj(n:Nat)(lo hi:Option (IntKind×Int)):nA n (bv lo) (bv hi)=xY n (lo.map (·.2)) (hi.map (·.2)):=by
 grind [nA,xY,JL3]
inductive TSK where|str|sl (t:Ty)
def erK:TSK->SK| .str=>.str| .sl t=>.sl t.sz
def iq(t:Ty)(x:TV)(s:TSt)(kk:List t.D->TSt->Option R):Option R:=
 match x with
 | .a (.c (.d (.l t') l))=>if h:t'=t then kk (h▸l) s else none
 | .a (.c (.slr b))=>match s.sto[b]? with|some (.arr _ t' rows)=>if h:t'=t then kk (h▸rows) (wS b (.arr false t' rows) s)else none|_=>none
 |_=>none
theorem JJf{t:Ty}{x:TV}{s:TSt}{kk:List t.D->TSt->Option R}{r:R}(h:iq t x s kk=some r):
  ∃l s' ws,Fzd s s' ws/\kk l s'=some r/\((aR (lns s.sto) x=.p (.sl t.sz (l.map (cel t)))/\ws=[])\/
   ∃b,aR (lns s.sto) x=.slr b 0 l.length/\(fz (.slr b 0 l.length)).run (Jy s)=some ([.sl t.sz (l.map (cel t))],ws)):=by
 unfold iq at h;split at h;grind [Fzd.refl,e_l];rename_i b;split at h;rename_i w t' rows e;split at h;rename_i g;subst g;refine⟨_,_,_,YU e,h,.inr ⟨b,by rw[fT,jA e],?_⟩⟩;simp_all [dS,aV];cases h;cases h;cases h
def XE(e:TSK)(x:TV)(lo hi mx:Option (IntKind×Int))(d:Option Nat)(s:TSt)(k:TSt->Option R):Option R:=
 match e with
 | .str=>match x,mx with| .a (.c (.d .s l)),none=>(aW l (lo.map (·.2)) (hi.map (·.2))).bind λq=>k (bB d (vs q) s)|_,_=>none
 | .sl t=>iq t x s λl s1=>match mx with|none=>(aW l (lo.map (·.2)) (hi.map (·.2))).bind λq=>k (bB d (vl t q) s1)|some (_,n)=>match lo,hi with|none,some (_,h)=>if h=l.length/\n=l.length then k (bB d (.a (.c (.sc t l))) s1)else none|_,_=>none
theorem Eb{α:Type}{l q:List α}{lo hi:Option Int}(h:aW l lo hi=some q): ∃c,xY l.length lo hi=some c/\q=(l.drop c.1).take (c.2-c.1):=by
 grind [aW]
theorem JEM(F:Orc){n:TSK}{x:TO}{j:TV}{lo hi mx:Option TO}{l g m:Option (IntKind×Int)}{d:Option Nat}{new:Nat}{s:TSt}{k:TSt->Option R}{r:R}(hx:tev x s=some j)(hl:tbn lo s=some l)(hh:tbn hi s=some g)(hm:tbn mx s=some m)
  (h:XE n j l g m d s k=some r):Ok (opR F (.slice (erK n) (erO x) (lo.map erO) (hi.map erO) (mx.map erO)) new) d s k r:=by
 unfold XE at h;split at h;split at h;rename_i A;obtain⟨q,h1,h⟩:=aU.1 h;obtain⟨c,o,rfl⟩:=Eb h1;refine eM (v:=vs _) ?_ h;have w:bv none=none:=rfl;simp only[opR,run_bind,bP hx,CU hl,CU hh,CU hm,Jv,e_s,erK,w,jQ,vL,val,Cj,o,JW];cases h;rename_i t;obtain⟨y,s1,ws,f,h,C⟩:=JJf h;have e: ∀(res:AV),jQ (.sl t.sz) (.p (.sl t.sz (y.map (cel t)))) (bv l) (bv g) (bv m)=some res->
   (opR F (.slice (erK (.sl t)) (erO x) (lo.map erO) (hi.map erO) (mx.map erO)) new).run (Jy s)=some ⟨res,ws⟩:=by
  intro res B;simp only[opR,run_bind,bP hx,CU hl,CU hh,CU hm,Jv,erK];grind [val,JW,run_bind]
 split at h;obtain⟨q,h2,h⟩:=aU.1 h;obtain⟨c,o,rfl⟩:=Eb h2;refine XM (v:=vl t _) f (e _ ?_) h;grind [bv,jQ,vJ,Cj,e_l,List.map_take,List.map_drop];split at h;split at h;rename_i z;refine XM (v:=.a (.c (.sc t y))) f (e _ ?_) h;simp only[bv,Option.map_none,cH,jQ,ND,eB,z,and_self,if_true];rfl;cases h;cases h
end
end Go.Am
end
section
namespace Go.Am
section
variable {R:Type}
def RY(t:Ty):List (Nat×TO)->TSt->TSt->(List (Nat×t.D)->TSt->Option R)->Option R|[],_,s,k=>k [] s|(i,o)::r,s0,s,k=>match tev o s0 with|some v=>tfz t v s λz s'=>RY t r s0 s' λl e=>k ((i,z)::l) e|none=>none
theorem Es{t:Ty}: ∀{parts:List (Nat×TO)} {s0 s:TSt} {w0:List (Nat×Blk)} {k:List (Nat×t.D)->TSt->Option R} {r:R},Fzd s0 s w0->RY t parts s0 s k=some r->
  ∃l s' ws,(fzs (parts.map λx=>erO x.2)).run (Jy s0)=some (l.map λx=>cel t x.2,ws)/\Fzd s0 s' (w0++ws)/\l.map (·.1)=parts.map (·.1)/\k l s'=some r
 |[],s0,s,w0,k,r,f,h=>⟨[],s,[],rfl,by simp_all,rfl,h⟩
 |(i,o)::q,s0,s,w0,k,r,f,h=>by
  simp only[RY]at h;split at h;rename_i v w;obtain⟨z,s1,j,h1,e,h⟩:=B4 f h;obtain⟨l,g,y,h2,A,n,h⟩:=Es e h;refine⟨(i,z)::l,g,j++y,?_,by simp_all,by simp[n],h⟩;simp only[bT,fzs,run_bind,bP w,Jv,h1,h2,JW];cases h
def NQ{α:Type}:List (Nat×α)->List α->Option (List α)|[],rows=>some rows|(i,c)::r,rows=>if i<rows.length then NQ r (rows.set i c)else none
theorem qc{t:Ty}: ∀{l:List (Nat×t.D)} {rows rows':List t.D},NQ l rows=some rows'->
  yT t.sz ((l.map (·.1)).zip (l.map λx=>cel t x.2)) (rows.map (cel t))=some (rows'.map (cel t))/\rows'.length=rows.length
 |[],rows,rows',h=>by injection h with h;simp_all
 |(i,c)::q,rows,rows',h=>by
  simp only[NQ]at h;split at h;rename_i e;obtain⟨h1,h2⟩:=qc h;simp_all [dZ];cases h
def kx(own:Bool)(t:Ty)(n:Nat)(parts:List (Nat×TO))(d:Option Nat)(new:Nat)(s:TSt)(k:TSt->Option R):Option R:=
 RY t parts s s λl s1=>match NQ l (List.replicate n t.zero)with|some rows=>if own=true then k (bB d (.a (.c (.slr new))) (wN new (.arr true t rows) s1))else k (bB d (vl t rows) s1)|none=>none
theorem JGk(F:Orc){own:Bool}{t:Ty}{n:Nat}{parts:List (Nat×TO)}{d:Option Nat}{new:Nat}{s:TSt}{k:TSt->Option R}{r:R}(hn:own=true->new<s.sto.length)
  (h:kx own t n parts d new s k=some r):Ok (opR F (.lits own t.sz n (cel t t.zero) (parts.map λx=>(x.1,erO x.2))) new) d s k r:=by
 unfold kx at h;obtain⟨l,s1,ws,h1,f,h2,e⟩:=Es (Fzd.refl s) h;rw[uM]at f;clear h;split at e;rename_i rows o;obtain⟨j,q⟩:=qc o;rw[BY]at q;rw[TS]at j;have z:(parts.map λx=>(x.1,erO x.2)).map (·.2)=parts.map λx=>erO x.2:=by simp
 have y:(parts.map λx=>(x.1,erO x.2)).map (·.1)=l.map (·.1):=by rw[h2];simp
 split at e;rename_i g;subst g;have w:new<s1.sto.length:=(by have:=congrArg (λst=>st.sto.length) f.2.2.1;grind [Jy,yP]);refine⟨⟨aR (lns (wN new (.arr true t rows) s1).sto) (.a (.c (.slr new))),ws++[(new,.arr true t.sz (rows.map (cel t)))]⟩,_,?_,rE ?_ d _,e⟩;grind [fT,ZH,opR,run_bind,JW];rw[Bd,f.2.2.1,eR];rfl;rename_i g;have:own=false:=by simpa using g
 subst this;refine XM (v:=vl t rows) f ?_ e;grind [opR,run_bind,JW,e_l];cases e
def nH(s:TSt):Nat->Nat->Bool
 |_,0=>true
 |new,k+1=>(match s.sto[new]? with
  |some .dead=>true
  |_=>false)&&nH s (new+1) k
theorem nh{s:TSt}: ∀{k new:Nat},nH s new k=true->(sS new k).run (Jy s)=some ()
 |0,_,_=>rfl
 |k+1,new,h=>by
  simp only[nH,JX]at h;obtain⟨h1,h2⟩:=h;split at h1;rename_i e;simp only[sS,cY,dS,e,cH,Jv,aV];exact nh h2;cases h1
theorem vZ{s:TSt}: ∀{k new:Nat},nH s new k=true-> ∀j,j<k->s.sto[new+j]?=some .dead
 |0,_,_,j,hj=>by omega
 |k+1,new,h,j,hj=>by
  simp only[nH,JX]at h;obtain⟨h1,h2⟩:=h;cases j with
  |zero=>
   grind
  |succ j=>
   have:=vZ h2 j (by omega);grind
theorem ZB{m:RM Eff}{d:Option Nat}{s:TSt}{k:TSt->Option R}{r:R}{new:Nat}{x:TB}(hd:s.sto[new]?=some .dead)(e:lnB x=0)
  (hm:m.run (Jy s)=some ⟨.ptr new 0,[(new,aV (lns s.sto) x)]⟩) (h:k (bB d (.a (.c (.ptr new []))) (wS new x s))=some r):Ok m d s k r:=by
 refine GM (x:=x) (v:=.a (.c (.ptr new []))) (e.trans (yU hd).symm) ?_ h;rw[hm];rfl
def Eo(t:Ty)(d:Option Nat)(new:Nat)(s:TSt)(k:TSt->Option R):Option R:=k (bB d (.a (.c (.ptr new []))) (wS new (.box t t.zero) s))
theorem JC9(F:Orc){t:Ty}{d:Option Nat}{new:Nat}{s:TSt}{k:TSt->Option R}{r:R}(hd:s.sto[new]?=some .dead)(h:Eo t d new s k=some r):Ok (opR F (.newbox (cel t t.zero)) new) d s k r:=
 ZB hd (x:=.box t t.zero) rfl rfl h
def ir(t:Ty)(x:TV)(d:Option Nat)(new:Nat)(s:TSt)(k:TSt->Option R):Option R:=
 match tdv t x with
 |some z=>if agv x=true\/t.sz=1 then k (bB d (.a (.c (.ptr new []))) (wS new (.box t z) s))else none
 |none=>match tcs x with|some cs=>if cs.length=t.sz then k (bB d (.a (.c (.ptr new []))) (wS new (.mbox t cs) s))else none|none=>none
theorem JIl(F:Orc){t:Ty}{x:TO}{v:TV}{d:Option Nat}{new:Nat}{s:TSt}{k:TSt->Option R}{r:R}(hd:s.sto[new]?=some .dead)(hx:tev x s=some v)(h:ir t v d new s k=some r):Ok (opR F (.box t.sz (erO x)) new) d s k r:=by
 unfold ir at h;split at h;rename_i z n;split at h;rename_i e;refine ZB hd (x:=.box t z) rfl ?_ h;simp only[opR,run_bind,bP hx,Jv,ef (lns s.sto) n e,eB,dZ,if_true,JW,aV];cases h;split at h;rename_i cs g;split at h;rename_i j;refine ZB hd (x:=.mbox t cs) rfl ?_ h;simp only[opR,run_bind,bP hx,Jv,IE (lns s.sto) g,eB,j,if_true,JW,aV];cases h;cases h
def pG:List (Nat×Ty)->Nat->TSt->TSt|[],_,s=>s|(_,t)::r,n,s=>pG r (n+1) (wS n (.arr true t []) s)
def xK:List (Nat×Ty)->Nat->List TC->List TC|[],_,cs=>cs|(off,_)::r,n,cs=>xK r (n+1) (cs.set off (.slr n))
def kF(os:List (Nat×Ty)):List (Nat×Nat):=os.map λx=>(x.1,x.2.sz)
theorem ZY: ∀{os:List (Nat×Ty)} {new:Nat} {s:TSt},(∀j,j<os.length->s.sto[new+j]?=some .dead)->
  lns (pG os new s).sto=lns s.sto/\Jy (pG os new s)=⟨(Jy s).env,upd (gU (kF os) new) (Jy s).sto⟩/\(∀b,(∀j,j<os.length->b≠new+j)->(pG os new s).sto[b]?=s.sto[b]?)
 |[],_,s,_=>⟨rfl,rfl,λ_ _=>rfl⟩
 |(off,t)::q,new,s,h=>by
  have n:s.sto[new]?=some .dead:=h 0 (by simp);have hl:lnB (.arr true t [])=lns s.sto new:=(yU n).symm;have e:=CX hl;have g: ∀c,c≠new->(wS new (.arr true t []) s).sto[c]?=s.sto[c]?:=λc v=>by grind [wS]
  obtain⟨h1,h2,r⟩:=ZY (os:=q) (new:=new+1) (s:=wS new (.arr true t []) s) (λj o=>by
   rw[g _ (by omega)];have:=h (j+1) (by simp;omega);grind)
  refine⟨h1.trans e,?_,λb k=>?_⟩;simp only[pG];rw[h2,yD hl];simp only[kF,bT,gU];rfl;simp only[pG];rw[r b (λj o=>by have:=k (j+1) (by simp;omega);omega),g b (by have:=k 0 (by simp);omega)]
theorem ZS{L:Nat->Nat}: ∀{os:List (Nat×Ty)} {new:Nat} {cs:List TC},(∀j,j<os.length->L (new+j)=0)->(xK os new cs).map (aX L)=lQ (kF os) new (cs.map (aX L))
 |[],_,_,_=>rfl
 |(off,t)::q,new,cs,h=>by
  simp only[xK,kF,bT,lQ];rw[ZS (os:=q) (new:=new+1) (λj e=>by have:=h (j+1) (by simp;omega);grind),List.map_set];have:aX L (.slr new)=.slr new 0 0:=by simp only[aX];rw[show L new=0 from h 0 (by simp)]
  rw[this];rfl
def de(t:Ty)(os:List (Nat×Ty))(d:Option Nat)(new:Nat)(s:TSt)(k:TSt->Option R):Option R:=k (bB d (.a (.c (.ptr (new+os.length) []))) (wS (new+os.length) (.mbox t (xK os new (zcs t))) (pG os new s)))
theorem Gb(F:Orc){t:Ty}{os:List (Nat×Ty)}{d:Option Nat}{new:Nat}{s:TSt}{k:TSt->Option R}{r:R}(hd:nH s new (os.length+1)=true)(h:de t os d new s k=some r):
  Ok (opR F (.newboxo (cel t t.zero) (kF os)) new) d s k r:=by
 unfold de at h;generalize o:zcs t=cs at h;have g:=vZ hd;obtain⟨h1,h2,q⟩:=ZY (os:=os) (new:=new) (s:=s) (λj n=>g j (by omega));have hl:lnB (.mbox t (xK os new cs))=lns (pG os new s).sto (new+os.length):=by rw[h1,yU (g os.length (by omega))];rfl
 have e:=CX hl;have el:(kF os).length=os.length:=by simp[kF]
 refine⟨⟨aR (lns (wS (new+os.length) (.mbox t (xK os new cs)) (pG os new s)).sto) (.a (.c (.ptr (new+os.length) []))),gU (kF os) new++[(new+os.length,.box (lQ (kF os) new ((cel t t.zero).map .p)))]⟩,_,?_,rE ?_ d _,h⟩;simp only[opR,JW,el];rfl;rw[yD hl,h2,eR];simp only[aV];rw[ZS (λj n=>by rw[h1];grind [yU]),<-o,CV];rfl
def ZQ(t:Ty)(parts:List (Nat×Ty×TO))(os:List (Nat×Ty))(d:Option Nat)(new:Nat)(s:TSt)(k:TSt->Option R):Option R:=
 match tpc parts s with
 |some l=>match GO l (xK os new (zcs t))with
  |some cs'=>match mka true t cs' with|some v=>k (bB d v (pG os new s))|none=>none
  |none=>none
 |none=>none
theorem JC4(F:Orc){t:Ty}{parts:List (Nat×Ty×TO)}{os:List (Nat×Ty)}{d:Option Nat}{new:Nat}{s:TSt}{k:TSt->Option R}{r:R}(hd:nH s new os.length=true)(h:ZQ t parts os d new s k=some r):
  Ok (opR F (.buildo (cel t t.zero) (erP parts) (kF os)) new) d s k r:=by
 unfold ZQ at h;split at h;rename_i l hl;have e:=vZ hd;obtain⟨h1,h2,q⟩:=ZY (os:=os) (new:=new) (s:=s) (λj n=>e j (by omega));split at h;rename_i cs' hf;split at h;rename_i v w;refine⟨⟨aR (lns (pG os new s).sto) v,gU (kF os) new⟩,_,?_,rE h2 d _,h⟩;have g:=ZS (L:=lns s.sto) (os:=os) (new:=new) (cs:=zcs t) (λj n=>yU (e j (by omega)));rw[CV]at g;have o:=dh (lns s.sto) hf;grind [opR,run_bind,XV,CT,JW];cases h;cases h;cases h
def B1(t:Ty)(d:Option Nat)(new:Nat)(s:TSt)(k:TSt->Option R):Option R:=k (bB d (.a (.c (.slr new))) (wN new (.arr true t []) s))
theorem JEf(F:Orc){t:Ty}{x:Opd}{d:Option Nat}{new:Nat}{s:TSt}{k:TSt->Option R}{r:R}(hn:new<s.sto.length)(h:B1 t d new s k=some r):Ok (opR F (.mkarr t.sz x) new) d s k r:=
 NY (rows:=[]) hn rfl h
def tyB:Option TB->Ty|some (.box t _)=>t|some (.mbox t _)=>t|_=>.u
def ZM(t:Ty)(x:TV)(d:Option Nat)(new:Nat)(s:TSt)(k:TSt->Option R):Option R:=
 match x with
 | .a (.c (.ptr b p))=>match sK p,(match s.sto[b]? with
   |some (.box e y)=>xN e y
   |some (.mbox _ cs)=>some cs
   |_=>none)with
  |some off,some cs=>match spl cs off [.slr new]with|some cs'=>k (bB d uv (wS b (.mbox (tyB s.sto[b]?) cs') (wS new (.arr true t []) s)))|none=>none
  |_,_=>none
 |_=>none
theorem JC2(F:Orc){t:Ty}{x:TO}{v:TV}{d:Option Nat}{new:Nat}{s:TSt}{k:TSt->Option R}{r:R}(hd:s.sto[new]?=some .dead)(hx:tev x s=some v)(h:ZM t v d new s k=some r):Ok (opR F (.storen t.sz (erO x)) new) d s k r:=by
 unfold ZM at h;split at h;rename_i b p;split at h;rename_i off cs B j;split at h;rename_i cs' G;have hl:lnB (.arr true t [])=lns s.sto new:=(yU hd).symm;have o:b≠new/\lns s.sto b=0/\(Jy s).sto[b]?=some (.box (cs.map (aX (lns s.sto)))):=(by split at j;rename_i A y g;refine⟨λe=>?_,OI g,?_⟩;simp_all;rw[dS,g,II _ j];rfl;rename_i A E g;injection j with j;subst j;refine⟨λe=>?_,nw g,?_⟩;simp_all;rw[dS,g];rfl;cases j);obtain⟨D,w,g⟩:=o;have q:=CX hl;have n:lnB (.mbox (tyB s.sto[b]?) cs')=lns (wS new (.arr true t []) s).sto b:=by rw[q,w];rfl
 refine⟨⟨aR (lns (wS b (.mbox (tyB s.sto[b]?) cs') (wS new (.arr true t []) s)).sto) uv,(new,.arr true t.sz [])::[(b,.box (cs'.map (aX (lns s.sto))))]⟩,_,?_,rE ?_ d _,h⟩;have z:aX (lns s.sto) (.slr new)=.slr new 0 0:=by grind [aX,yU]
 have C:spl (cs.map (aX (lns s.sto))) (spo p) [.slr new 0 0]=some (cs'.map (aX (lns s.sto))):=by rw[<-z,CP B];have:=DI (aX (lns s.sto)) cs off [TC.slr new];simp_all
 simp only[opR,run_bind,bP hx,Jv,jN,hQ,cY,g,cellsOf,FP,List.length_nil,nG,if_true,C,JW];rfl;rw[yD n,yD hl,q];rfl;cases h;cases h;cases h
def ke(c:Bool)(a b:Option TV)(kk:TV->Option R):Option R:=
 match a,b with
 |some (.a (.c (.d t x))),some (.a (.c (.d t' y)))=>if h:t'=t then kk (.a (.c (.d t (JMx c x (h▸y)))))else none
 |some x,some y=>if c=true then kk x else kk y
 |some x,none=>if c=true then kk x else none
 |none,some y=>if c=true then none else kk y
 |none,none=>none
theorem JHG(F:Orc){c a b:TO}{x:Bool}{d:Option Nat}{new:Nat}{s:TSt}{k:TSt->Option R}{r:R}(hc:tev c s=some (vb x))(h:ke x (tev a s) (tev b s) (λv=>k (bB d v s))=some r):Ok (opR F (.pick (erO c) (erO a) (erO b)) new) d s k r:=by
 have e: ∃v,(if x=true then tev a s else tev b s)=some v/\k (bB d v s)=some r:=by
  unfold ke at h;split at h;rename_i t y t' z n j;split at h;rename_i g;subst g;refine⟨_,?_,h⟩;rw[n,j];cases x<;>rfl
  cases h
  all_goals grind
 obtain⟨v,h1,h2⟩:=e;refine eM (v:=v) ?_ h2;simp only[opR,run_bind,bP hc,Jv,e_b];grind [run_bind,bP,JW]
def tcl:List TO->TSt->Option (List TC)
 |[],_=>some []
 |o::r,s=>match tev o s with
  |some (.a (.c x))=>match tcl r s with|some l=>some (x::l)|none=>none
  |_=>none
theorem B9{s:TSt}: ∀{xs:List TO} {l:List TC},tcl xs s=some l->(evs (xs.map erO)).run (Jy s)=some (l.map (aX (lns s.sto)))
 |[],l,h=>by injection h with h;subst h;rfl
 |o::q,l,h=>by
  simp only[tcl]at h;split at h;rename_i x e;split at h;rename_i g hl;injection h with h;subst h;simp only[bT,evs,run_bind,bP e,Jv,B9 hl,JW];rfl;cases h;cases h
def iv(x:TV)(kk:TV->Option R):Option R:=
 match x with
 | .a (.c (.ptr b p))=>kk (.a (.c (.ptr b p)))
 | .a (.c (.cp t y p))=>kk (.a (.c (.cp t y p)))
 | .a (.c (.ep b i p))=>kk (.a (.c (.ep b i p)))
 | .a (.fn f a c)=>kk (.a (.fn f a c))
 | .a (.c (.fn f))=>kk (.a (.c (.fn f)))
 |_=>none
theorem JIo(F:Orc){x:TO}{v:TV}{d:Option Nat}{new:Nat}{s:TSt}{k:TSt->Option R}{r:R}(hx:tev x s=some v)(h:iv v (λv=>k (bB d v s))=some r):Ok (opR F (.nilchk (erO x)) new) d s k r:=by
 unfold iv at h;split at h<;>first
  |(refine eM (v:=_) ?_ h
    simp only[opR,run_bind,bP hx,Jv,jN,lV,lP,i5,Az,JW];done)
  |cases h
end
end Go.Am
end
section
namespace Go.Am
section
variable {R:Type}
def ik(keep:Bool)(v:TV)(s:TSt)(kk:TA->TSt->Option R):Option R:=
 match v with
 | .a x=>if keep=true then kk x s else
  match x with
  | .c (.slr b)=>match s.sto[b]? with|some (.arr _ t' rows)=>kk (.c (.d (.l t') rows)) (wS b (.arr false t' rows) s)|_=>none
  | .c (.slo _ _)=>none
  | .c (.suf _ _)=>none
  | .c (.suo _ _ _)=>none
  | .m t cs=>fzC t cs s λx s'=>kk (.dt t x) s'
  |x=>kk x s
 | .tup _=>none
def GS:List (TV×Bool)->TSt->(List TA->TSt->Option R)->Option R|[],s,kk=>kk [] s|(v,keep)::r,s,kk=>ik keep v s λx s=>GS r s λl s=>kk (x::l) s
theorem JJ7{keep:Bool}{v:TV}{s0 s:TSt}{w0:List (Nat×Blk)}{kk:TA->TSt->Option R}{r:R}(f:Fzd s0 s w0)(h:ik keep v s kk=some r):
  ∃x s' ws,(if keep=true then RM.ret (aR (lns s0.sto) v,[])else iM (aR (lns s0.sto) v)).run (Jy s0)=some (bS (lns s0.sto) x,ws)/\Fzd s0 s' (w0++ws)/\kk x s'=some r:=by
 unfold ik at h;split at h;rename_i x;split at h;rename_i g;subst g;exact⟨x,s,[],rfl,by simp_all,h⟩;rename_i g;have:keep=false:=by simpa using g
 subst this;simp only[eE,if_false];split at h;rename_i b;split at h;rename_i w t' rows j;obtain⟨w',e⟩:=f.2.2.2.1 b _ rows w j;refine⟨_,_,[(b,.arr false t'.sz (rows.map (cel t')))],?_,f.trans (YU j),h⟩;simp only[fT,iM,fz,run_bind,cY,dS,e,cH,Jv,aV,jA e,eB,nG,if_true,xL,JW];rfl;cases h;cases h;cases h;cases h;obtain⟨y,s',ws,h1,h2,k⟩:=IH f h;refine⟨_,s',ws,?_,h2,k⟩;simp only[e_m,iM,fz,run_bind,h1,Jv,JW];rfl;rename_i A B q z o;refine⟨x,s,[],?_,by simp_all,h⟩;cases x with
 |c x=>
  cases x with
  |slr b=>simp_all
  |slo b n=>simp_all
  |suf b i=>simp_all
  |suo b i n=>simp_all
  |_=>rfl
 |m t cs=>simp_all
 |_=>rfl
 cases h
theorem ct: ∀{vs:List (TV×Bool)} {s0 s:TSt} {w0:List (Nat×Blk)} {kk:List TA->TSt->Option R} {r:R},Fzd s0 s w0->GS vs s kk=some r->
  ∃xs s' ws,(fC (vs.map (·.2)) (vs.map λx=>aR (lns s0.sto) x.1)).run (Jy s0)=some (xs.map (bS (lns s0.sto)),ws)/\Fzd s0 s' (w0++ws)/\kk xs s'=some r
 |[],s0,s,w0,kk,r,f,h=>⟨[],s,[],rfl,by simp_all,h⟩
 |(v,keep)::q,s0,s,w0,kk,r,f,h=>by simp only[GS]at h;obtain⟨x,s1,j,h1,e,h⟩:=JJ7 f h;obtain⟨xs,g,k,h2,n,h⟩:=ct e h;refine⟨x::xs,g,j++k,?_,by simp_all,h⟩;cases keep<;>simp_all [fC]
theorem QR: ∀(vs:List AV),fC [] vs=jJ vs|[]=>rfl|x::r=>by simp only[fC,jJ,QR r]
theorem KW: ∀(m:List Bool) (vs:List AV),(∀x∈m,x=false)->fC m vs=jJ vs|[],vs,_=>QR vs|b::m,[],_=>rfl|b::m,x::r,h=>by have:b=false:=h b (by simp);subst this;simp only[fC,jJ,KW m r (λx e=>h x (by simp[e]))]
def FT(b:Nat)(l:List Nat):List Nat:=if l.any (λx=>x==b)=true then l else l++[b]
def MO(x:TC)(l:List Nat):Option (List Nat):=
 match x with
 | .ptr b _=>some (FT b l)
 | .slr b=>some (FT b l)
 | .slo b _=>some (FT b l)
 | .ep _ _ _=>none
 | .epo _ _ _ _=>none
 | .suf _ _=>none
 | .suo _ _ _=>none
 |_=>some l
def uU:List TC->List Nat->Option (List Nat)|[],l=>some l|x::r,l=>match MO x l with|some l=>uU r l|none=>none
def li(x:TA)(l:List Nat):Option (List Nat):=
 match x with
 | .c x=>MO x l
 | .dt _ _=>some l
 | .m _ cs=>uU cs l
 | .fn _ a c=>match uU a l with|some l=>uU c l|none=>none
def CS:List TA->List Nat->Option (List Nat)|[],l=>some l|x::r,l=>match li x l with|some l=>CS r l|none=>none
def vG(s:TSt):List Nat->List Nat->Option (List Nat)
 |[],acc=>some acc
 |b::r,acc=>match s.sto[b]? with
  |some (.mbox _ cs)=>match uU cs acc with|some acc=>vG s r acc|none=>none
  |some _=>vG s r acc
  |none=>none
theorem H7(b:Nat)(l:List Nat):vK (.whole b) (l.map .whole)=(FT b l).map .whole:=by
 grind [vK,FT]
section
variable (L:Nat->Nat)
theorem od{x:TC}{l g:List Nat}(h:MO x l=some g):cI (aX L x) (l.map .whole)=g.map .whole:=by
 unfold MO at h;split at h<;>first
  |(injection h with h;subst h;simp only[aX,cI,H7];done)
  |(cases h;done)
  |skip
 injection h with h;subst h;rename_i q r v w o j k;cases x with
 |ptr b p=>simp_all
 |slr b=>simp_all
 |slo b n=>simp_all
 |ep b i p=>simp_all
 |epo b e i p=>grind
 |suf b i=>grind
 |suo b i n=>grind
 |_=>rfl
theorem KC: ∀{xs:List TC} {l e:List Nat},uU xs l=some e->cI.entsOfL (xs.map (aX L)) (l.map .whole)=e.map .whole
 |[],l,e,h=>by injection h with h;subst h;rfl
 |x::r,l,e,h=>by
  simp only[uU]at h;split at h;rename_i g h1;simp only[bT,cI.entsOfL,od L h1];exact KC h;cases h
theorem JH4{x:TA}{l e:List Nat}(h:li x l=some e):cI (bS L x) (l.map .whole)=e.map .whole:=by
 cases x with
 |c x=>exact od L h
 |dt t x=>injection h with h;subst h;rfl
 |m t cs=>exact KC L h
 |fn f a c=>
  simp only[li]at h;split at h
  all_goals simp_all [bS,KC]
theorem QG: ∀{xs:List TA} {l e:List Nat},CS xs l=some e->cI.entsOfL (xs.map (bS L)) (l.map .whole)=e.map .whole
 |[],l,e,h=>by injection h with h;subst h;rfl
 |x::r,l,e,h=>by
  simp only[CS]at h;split at h;rename_i g h1;simp only[bT,cI.entsOfL,JH4 L h1];exact QG h;cases h
end
theorem dx{s0 s1:TSt}{ws:List (Nat×Blk)}(f:Fzd s0 s1 ws){b:Nat}{y:TB}(h:s1.sto[b]?=some y):(qN ws b).run (Jy s0)=some (aV (lns s0.sto) y):=by
 have h1:(Jy s1).sto[b]?=some (aV (lns s0.sto) y):=by rw[dS,h,f.2.1];rfl
 rw[f.2.2.1]at h1;grind [yP,vT,qN,cY,JW]
theorem yV{s0 s1:TSt}{ws:List (Nat×Blk)}(f:Fzd s0 s1 ws): ∀{r acc l:List Nat},vG s1 r acc=some l->(dY ws (r.map .whole) (acc.map .whole)).run (Jy s0)=some (l.map .whole)
 |[],acc,l,h=>by injection h with h;subst h;rfl
 |b::r,acc,l,h=>by
  simp only[vG]at h;split at h;rename_i cs e;split at h;rename_i g j;simp only[bT,dY,run_bind,dx f e,Jv,aV,KC (lns s0.sto) j];exact yV f h;cases h;rename_i x k e;simp only[bT,dY,run_bind,dx f e,Jv];cases x with
  |mbox t cs=>simp_all
  |box t x=>simp only[aV];rw[pz];exact yV f h
  |_=>exact yV f h
  cases h
end
end Go.Am
end
section
namespace Go.Am
def kCs(K:List Nat)(L:Nat->Nat):TC->TC| .slr c=>if K.any (λx=>x==c)=true then .slo c (L c)else .slr c| .ep c i p=>if K.any (λx=>x==c)=true then .epo c (L c) i p else .ep c i p| .pre c k=>if K.any (λx=>x==c)=true then .pro c (L c) k else .pre c k| .suf c i=>if K.any (λx=>x==c)=true then .suo c (min i (L c)) (L c-i)else .suf c i|x=>x
def kAs(K:List Nat)(L:Nat->Nat):TA->TA| .c x=>.c (kCs K L x)| .dt t x=>.dt t x| .m t cs=>.m t (cs.map (kCs K L))| .fn f a c=>.fn f (a.map (kCs K L)) (c.map (kCs K L))
def kVs(K:List Nat)(L:Nat->Nat):TV->TV| .a x=>.a (kAs K L x)| .tup vs=>.tup (vs.map (kAs K L))
def kBs(K:List Nat)(L:Nat->Nat):TB->TB| .mbox t cs=>.mbox t (cs.map (kCs K L))|x=>x
section
variable {K:List Nat} {L L':Nat->Nat} (h: ∀c,K.any (λx=>x==c)=false->L' c=L c)
include h
theorem zi(x:TC):aX L' (kCs K L x)=aX L x:=by cases x<;>grind [kCs,aX]
theorem A6(xs:List TC):(xs.map (kCs K L)).map (aX L')=xs.map (aX L):=by
 grind [List.map_congr_left,zi]
theorem JME(x:TA):bS L' (kAs K L x)=bS L x:=by cases x<;>simp only[kAs,bS,zi h,A6 h]
theorem JMP(x:TV):aR L' (kVs K L x)=aR L x:=by cases x<;>simp only[kVs,aR,JME h,xX,Function.comp_def]
theorem JMA(x:TB):aV L' (kBs K L x)=aV L x:=by cases x<;>simp only[kBs,aV,A6 h]
end
theorem JJs(K:List Nat)(L:Nat->Nat)(x:TB):lnB (kBs K L x)=lnB x:=by cases x<;>rfl
theorem JJ6(sto:List TB)(K:List Nat)(L:Nat->Nat)(c:Nat):lns (sto.map (kBs K L)) c=lns sto c:=by
 unfold lns;rw[gE];cases sto[c]? with
 |none=>rfl
 |some x=>exact JJs K L x
def uK(ws:List (Nat×Bool×TB))(sto:List TB):List TB:=ws.foldl (λσ x=>σ.set x.1 x.2.2) sto
def nF(ws:List (Nat×Bool×TB))(s:TSt):TSt:=
 match ws with
 |[]=>s
 |ws=>
  let K:=(ws.filter λx=> !x.2.1).map (·.1)
  ⟨s.env.map λy=>(y.1,kVs K (lns s.sto) y.2),uK ws (s.sto.map (kBs K (lns s.sto)))⟩
theorem dk: ∀{ws:List (Nat×Bool×TB)} {sto:List TB} {c:Nat},c∉ws.map (·.1)->(uK ws sto)[c]?=sto[c]?|[],_,_,_=>rfl|x::ws,sto,c,h=>by simp only[bT,eJ,not_or]at h;show(uK ws (sto.set x.1 x.2.2))[c]?=_;rw[dk h.2,FC (λe=>h.1 e.symm)]
theorem C2: ∀{ws:List (Nat×Bool×TB)} {sto:List TB},(ws.map (·.1)).Nodup-> ∀x∈ws,x.1<sto.length->(uK ws sto)[x.1]?=some x.2.2
 |[],_,_,x,e,_=>by cases e
 |y::ws,sto,g,x,e,hl=>by
  simp only[bT,List.nodup_cons]at g;show(uK ws (sto.set y.1 y.2.2))[x.1]?=_;rcases eJ.1 e with rfl|e;grind [dk];exact C2 g.2 x e (by simpa using hl)
theorem n7(f:TB->Blk): ∀(ws:List (Nat×Bool×TB)) (sto:List TB),(uK ws sto).map f=upd (ws.map λx=>(x.1,f x.2.2)) (sto.map f)
 |[],_=>rfl
 |x::ws,sto=>by show(uK ws (sto.set x.1 x.2.2)).map f=upd (ws.map λx=>(x.1,f x.2.2)) ((sto.map f).set x.1 (f x.2.2));rw[n7 f ws,List.map_set]
theorem JJv{ws:List (Nat×Bool×TB)}{s:TSt}(hn:(ws.map (·.1)).Nodup)(hl: ∀x∈ws,x.1<s.sto.length)(hf: ∀x∈ws,x.2.1=true->lnB x.2.2=lns s.sto x.1):
  Jy (nF ws s)=⟨(Jy s).env,upd (ws.map λx=>(x.1,aV (lns (nF ws s).sto) x.2.2)) (Jy s).sto⟩/\ ∀x∈ws,lns (nF ws s).sto x.1=lnB x.2.2:=by
 cases ws with
 |nil=>exact⟨rfl,λx g=>by cases g⟩
 |cons x0 j=>
  generalize k:x0::j=ws at*;have e:nF ws s=⟨s.env.map λy=>(y.1,kVs ((ws.filter λx=> !x.2.1).map (·.1)) (lns s.sto) y.2),uK ws (s.sto.map (kBs ((ws.filter λx=> !x.2.1).map (·.1)) (lns s.sto)))⟩:=by subst k;rfl
  have h: ∀x∈ws,lns (nF ws s).sto x.1=lnB x.2.2:=λx g=>by rw[e];unfold lns;rw[C2 hn x g (by grind)];rfl
  have o: ∀c,((ws.filter λx=> !x.2.1).map (·.1)).any (λx=>x==c)=false->lns (nF ws s).sto c=lns s.sto c:=(by intro c q;by_cases n:c∈ws.map (·.1);obtain⟨x,g,rfl⟩:=jF.1 n;grind;rw[e];have:=JJ6 s.sto ((ws.filter λx=> !x.2.1).map (·.1)) (lns s.sto) c;grind [lns,dk]);refine⟨?_,h⟩;generalize hL:lns (nF ws s).sto=L' at*;unfold Jy;rw[hL,e];grind [fI,List.map_congr_left,JMP,n7,JMA]
theorem Cz(b:Nat): ∀(ids:List Nat) (k:Nat),dG (.whole b) (ids.map .whole) k=eI b ids k
 |[],_=>rfl
 |x::r,k=>by
  simp only[bT,dG,eI];by_cases h:x=b;subst h;simp;simp[h,Cz b r (k+1)]
def MT(ids:List Nat):TC->Option TC| .ptr b p=>(eI b ids 0).bind λk=>some (.ptr k p)| .slr b=>(eI b ids 0).bind λk=>some (.slr k)| .slo b n=>(eI b ids 0).bind λk=>some (.slo k n)| .ep _ _ _=>none| .epo _ _ _ _=>none| .pre _ _=>none| .pro _ _ _=>none| .suf _ _=>none| .suo _ _ _=>none|x=>some x
def yB(ids:List Nat):List TC->Option (List TC)|[]=>some []|x::r=>match MT ids x,yB ids r with|some y,some l=>some (y::l)|_,_=>none
def GV(ids:List Nat):TA->Option TA
 | .c x=>match MT ids x with|some y=>some (.c y)|none=>none
 | .dt t x=>some (.dt t x)
 | .m t cs=>match yB ids cs with|some l=>some (.m t l)|none=>none
 | .fn f a c=>match yB ids a,yB ids c with|some a,some c=>some (.fn f a c)|_,_=>none
def NU(ids:List Nat):List TA->Option (List TA)|[]=>some []|x::r=>match GV ids x,NU ids r with|some y,some l=>some (y::l)|_,_=>none
def XK(ids:List Nat):TB->Option TB
 | .box t x=>some (.box t x)
 | .mbox t cs=>match yB ids cs with|some l=>some (.mbox t l)|none=>none
 | .arr w t rows=>some (.arr w t rows)
 | .dead=>none
def vS(ids:List Nat)(s:TSt):List Nat->Option (List TB)
 |[]=>some []
 |b::r=>match s.sto[b]? with
  |some x=>match XK ids x,vS ids s r with|some y,some l=>some (y::l)|_,_=>none
  |none=>none
section
variable {ids:List Nat} {L L':Nat->Nat} (hL: ∀b k,eI b ids 0=some k->L' k=L b)
include hL
theorem nj{x y:TC}(h:MT ids x=some y):ren (λe=>dG e (ids.map .whole) 0) (aX L x)=some (aX L' y):=by
 cases x<;>simp only[MT]at h<;>first
  |(obtain⟨k,g,h⟩:=aU.1 h
    injection h with h;subst h;simp only[aX,ren,Cz,g,cH]
    try rw[hL _ _ g]
    done)
  |(injection h with h;subst h;rfl)
  |cases h
theorem PP: ∀{xs g:List TC},yB ids xs=some g->ren.renL (λe=>dG e (ids.map .whole) 0) (xs.map (aX L))=some (g.map (aX L'))
 |[],g,h=>by injection h with h;subst h;rfl
 |x::r,g,h=>by
  simp only[yB]at h;split at h;rename_i y l j hl;injection h with h;subst h;simp only[bT,ren.renL,nj hL j,PP hl];cases h
theorem JGO{x y:TA}(h:GV ids x=some y):ren (λe=>dG e (ids.map .whole) 0) (bS L x)=some (bS L' y):=by
 cases x with
 |c x=>
  simp only[GV]at h;split at h;rename_i y g;injection h with h;subst h;exact nj hL g;cases h
 |dt t x=>injection h with h;subst h;rfl
 |m t cs=>
  grind [GV,bS,ren,PP]
 |fn f a c=>
  grind [GV,bS,ren,PP]
theorem pf: ∀{xs g:List TA},NU ids xs=some g->ren.renL (λe=>dG e (ids.map .whole) 0) (xs.map (bS L))=some (g.map (bS L'))
 |[],g,h=>by injection h with h;subst h;rfl
 |x::r,g,h=>by
  simp only[NU]at h;split at h;rename_i y l j hl;injection h with h;subst h;simp only[bT,ren.renL,JGO hL j,pf hl];cases h
theorem qt{s0 s1:TSt}{ws:List (Nat×Blk)}(f:Fzd s0 s1 ws)(j:lns s0.sto=L): ∀{k:List Nat} {bl:List TB},vS ids s1 k=some bl->
  (jR ws (λe=>dG e (ids.map .whole) 0) (k.map .whole)).run (Jy s0)=some (bl.map (aV L'))
 |[],bl,h=>by injection h with h;subst h;rfl
 |b::r,bl,h=>by
  simp only[vS]at h;split at h;rename_i x o;split at h;rename_i y l g hl;injection h with h;subst h;have ih:=qt f j hl;have n:=dx f o;rw[j]at n;simp only[bT,jR,xZ,run_bind,n,Jv];cases x with
  |dead=>cases g
  |box t x=>injection g with g;grind [pc,VQ,aV,JW]
  |mbox t cs=>
   grind [XK,aV,PP,JW]
  |arr w t rows=>injection g with g;grind [aV,JW]
  cases h;cases h
end
theorem r4{ids:List Nat}{s:TSt}: ∀{g:List Nat} {bl:List TB},vS ids s g=some bl->bl.length=g.length/\ ∀(k b:Nat),g[k]?=some b->lns bl k=lns s.sto b
 |[],bl,h=>by injection h with h;simp_all
 |b::r,bl,h=>by
  simp only[vS]at h;split at h;rename_i x n;split at h;rename_i y l e hl;injection h with h;subst h;obtain⟨h1,h2⟩:=r4 hl;refine⟨by simp[h1],λk c j=>?_⟩;cases k with
  |zero=>
   simp at j;subst j;unfold lns;rw[n];show lnB y=lnB x;cases x with
   |dead=>cases e
   |box t x=>injection e with e;subst e;rfl
   |mbox t cs=>
    simp only[XK]at e;split at e;injection e with e;subst e;rfl;cases e
   |arr w t rows=>injection e with e;subst e;rfl
  |succ k=>
   grind [lns]
  cases h;cases h
def eX(ids:List Nat)(new m k:Nat):Option Nat:=if k<ids.length then ids[k]? else if k<m then some (new+(k-ids.length))else none
def TP(ids:List Nat)(new m:Nat):TC->Option TC| .ptr k p=>(eX ids new m k).bind λb=>some (.ptr b p)| .slr k=>(eX ids new m k).bind λb=>some (.slr b)| .slo k n=>(eX ids new m k).bind λb=>some (.slo b n)| .ep k i p=>(eX ids new m k).bind λb=>some (.ep b i p)| .epo k e i p=>(eX ids new m k).bind λb=>some (.epo b e i p)| .pre _ _=>none| .pro _ _ _=>none| .suf _ _=>none| .suo _ _ _=>none|x=>some x
def xW(ids:List Nat)(new m:Nat):List TC->Option (List TC)|[]=>some []|x::r=>match TP ids new m x,xW ids new m r with|some y,some l=>some (y::l)|_,_=>none
def UD(ids:List Nat)(new m:Nat):TA->Option TA
 | .c x=>match TP ids new m x with|some y=>some (.c y)|none=>none
 | .dt t x=>some (.dt t x)
 | .m t cs=>match xW ids new m cs with|some l=>some (.m t l)|none=>none
 | .fn f a c=>match xW ids new m a,xW ids new m c with|some a,some c=>some (.fn f a c)|_,_=>none
def NC(ids:List Nat)(new m:Nat):List TA->Option (List TA)|[]=>some []|x::r=>match UD ids new m x,NC ids new m r with|some y,some l=>some (y::l)|_,_=>none
def jm(ids:List Nat)(new m:Nat):TV->Option TV
 | .a x=>match UD ids new m x with|some y=>some (.a y)|none=>none
 | .tup vs=>match NC ids new m vs with|some l=>some (.tup l)|none=>none
def xS(ids:List Nat)(new m:Nat):TB->Option TB
 | .box t x=>some (.box t x)
 | .mbox t cs=>match xW ids new m cs with|some l=>some (.mbox t l)|none=>none
 | .arr w t rows=>some (.arr w t rows)
 | .dead=>none
section
variable {ids:List Nat} {new m:Nat} {L Lp:Nat->Nat} (hL: ∀k b,eX ids new m k=some b->Lp b=L k)
theorem JLy{k b o:Nat}(h:eX ids new m k=some b):bk (ids.map .whole) new (.ptr k o)=some (.ptr b o):=by
 grind [eX,bk]
theorem JKM{k b i n:Nat}(h:eX ids new m k=some b):bk (ids.map .whole) new (.slr k i n)=some (.slr b i n):=by
 grind [eX,bk]
theorem JLO{k b e i o:Nat}(h:eX ids new m k=some b):bk (ids.map .whole) new (.ep k e i o)=some (.ep b e i o):=by
 grind [eX,bk]
include hL
theorem Da{x y:TC}(h:TP ids new m x=some y):bk (ids.map .whole) new (aX L x)=some (aX Lp y):=by
 cases x<;>simp only[TP]at h<;>first
  |(obtain⟨b,e,h⟩:=aU.1 h
    injection h with h;subst h;simp only[aX,JLy e,JKM e,JLO e,hL _ _ e]
    done)
  |(cases h;done)
  |(injection h with h;subst h;rfl)
theorem OT: ∀{xs e:List TC},xW ids new m xs=some e->bk.bkL (ids.map .whole) new (xs.map (aX L))=some (e.map (aX Lp))
 |[],e,h=>by injection h with h;subst h;rfl
 |x::r,e,h=>by
  simp only[xW]at h;split at h;rename_i y l g hl;injection h with h;subst h;simp only[bT,bk.bkL,Da hL g,OT hl];cases h
theorem D9{x y:TA}(h:UD ids new m x=some y):bk (ids.map .whole) new (bS L x)=some (bS Lp y):=by cases x<;>grind [UD,Da,bS,bk,OT]
theorem my: ∀{xs e:List TA},NC ids new m xs=some e->bk.bkL (ids.map .whole) new (xs.map (bS L))=some (e.map (bS Lp))
 |[],e,h=>by injection h with h;subst h;rfl
 |x::r,e,h=>by
  simp only[NC]at h;split at h;rename_i y l g hl;injection h with h;subst h;simp only[bT,bk.bkL,D9 hL g,my hl];cases h
theorem JIh{x y:TV}(h:jm ids new m x=some y):bk (ids.map .whole) new (aR L x)=some (aR Lp y):=by cases x<;>grind [jm,D9,aR,bk,my]
end
end Go.Am
end
section
namespace Go.Am
structure TG where
 go: ∀{R:Type},FuncId->List TA->List TB->(TV->List (Bool×TB)->Option R)->Option R
def oJ(out:List (Bool×TB)):Nat->Nat:=lns (out.map (·.2))
structure GOk(F:Orc)(G:TG):Prop where
 ok: ∀{R:Type} {f:FuncId} {xs:List TA} {bl:List TB} {kk:TV->List (Bool×TB)->Option R} {r:R},G.go f xs bl kk=some r->
  ∃v out,F f (xs.map (bS (lns bl))) (bl.map (aV (lns bl)))=some (aR (oJ out) v,out.map λx=>aV (oJ out) x.2)/\
   (∀(k:Nat) x,out[k]?=some (true,x)->k<bl.length->lnB x=lns bl k)/\kk v out=some r
def oZ(ids:List Nat)(new m:Nat):Nat->List (Bool×TB)->Option (List (Nat×Bool×TB))|_,[]=>some []|k,(s,x)::r=>match eX ids new m k,xS ids new m x,oZ ids new m (k+1) r with|some b,some y,some l=>some ((b,s&&decide (k<ids.length),y)::l)|_,_,_=>none
section
variable {R:Type}
def ki(e:Bool)(a b n:Nat):Bool:=if e=true then decide (a<=b/\b<=a+n)else decide (b=a+n)
theorem JEE{e:Bool}{a b n:Nat}(h:ki e a b n=true):(if e=true then a<=b/\b<=a+n else b=a+n)/\a<=b/\b<=a+n:=by
 grind [ki]
def CL(G:TG)(f:FuncId)(args:List (TV×Bool))(e:Bool)(n:Nat)(d:Option Nat)(new:Nat)(s:TSt)(kk:TSt->Option R):Option R:=
 GS args s λxs s1=>
 match CS xs []with
 |none=>none
 |some g=>match vG s1 g g with
  |none=>none
  |some i1=>match vG s1 i1 i1 with
   |none=>none
   |some ids=>if iT ids=true then
    match NU ids xs,vS ids s1 ids with
    |some j,some bl=>G.go f j bl λv out=>
     if ki e ids.length out.length n=true then
      match jm ids new out.length v,oZ ids new out.length 0 out with
      |some h,some ws=>if iT (ws.map (·.1))=true then kk (bB d h (nF ws s1))else none
      |_,_=>none
     else none
    |_,_=>none
    else none
theorem mr{ids:List Nat}{new m:Nat}{x y:TB}(h:xS ids new m x=some y):lnB y=lnB x:=by
 cases x with
 |dead=>cases h
 |box t x=>injection h with h;subst h;rfl
 |mbox t cs=>
  simp only[xS]at h;split at h;injection h with h;subst h;rfl;cases h
 |arr w t rows=>injection h with h;subst h;rfl
theorem oe{ids:List Nat}{new m:Nat}: ∀{k:Nat} {out:List (Bool×TB)} {ws:List (Nat×Bool×TB)},oZ ids new m k out=some ws->
  ws.length=out.length/\ ∀(j:Nat) s x,out[j]?=some (s,x)-> ∃b y,eX ids new m (k+j)=some b/\xS ids new m x=some y/\ws[j]?=some (b,s&&decide (k+j<ids.length),y)
 |k,[],ws,h=>by injection h with h;simp_all
 |k,(s,x)::r,ws,h=>by
  simp only[oZ]at h;split at h;rename_i b y l o n hl;injection h with h;subst h;obtain⟨h1,h2⟩:=oe hl;refine⟨by simp[h1],λj s' e g=>?_⟩;cases j<;>grind
  cases h
theorem JHF{l:List Nat}(h:iT l=true):l.Nodup:=QO h
theorem JAa{ids:List Nat}(h:iT ids=true):iT ((ids.map Ent.whole).map Ent.id)=true:=by rw[xX,show Ent.id∘Ent.whole=id from rfl,List.map_id];exact h
theorem ob{ids:List Nat}{new m:Nat}{L Lp:Nat->Nat}(hL: ∀k b,eX ids new m k=some b->Lp b=L k){ws0:List (Nat×Blk)}{st:St}: ∀{j:Nat} {es:List Nat} {out:List (Bool×TB)} {ws:List (Nat×Bool×TB)},
  (∀(i:Nat) b,es[i]?=some b->ids[j+i]?=some b)->j+es.length=ids.length->es.length<=out.length->oZ ids new m j out=some ws->
  (iF ws0 (ids.map .whole) new (es.map .whole) (out.map λx=>aV L x.2)).run st=some ((ws.take es.length).map λx=>(x.1,aV Lp x.2.2))
 |j,[],out,ws,_,_,_,h=>by simp[iF]
 |j,b::es,[],ws,_,_,hl,h=>by simp at hl
 |j,b::es,(s,x)::out,ws,he,hj,hl,h=>by
  simp only[oZ]at h;split at h;rename_i e y l v w n;injection h with h;subst h;have ih:=ob hL (ws0:=ws0) (st:=st) (j:=j+1) (es:=es) (out:=out) (ws:=l) (λi c q=>by
   have:=he (i+1) c (by simpa using q);grind) (by grind) (by simpa using hl) n
  have g:e=b:=(by have r:=he 0 b (by simp);grind [eX]);subst g;simp only[bT,iF,run_bind];have o:(sY ws0 (ids.map .whole) new (.whole e) (aV L x)).run st=some (e,aV Lp y):=by cases x<;>grind [CR,sY,ee,VQ,JW,xS,IJ,OT,NL]
  simp_all;cases h
theorem nu{ids:List Nat}{new m:Nat}{L Lp:Nat->Nat}(hL: ∀k b,eX ids new m k=some b->Lp b=L k): ∀{j:Nat} {out:List (Bool×TB)} {ws:List (Nat×Bool×TB)},
  oZ ids new m (ids.length+j) out=some ws->gY (ids.map .whole) new (new+j) (out.map λx=>aV L x.2)=some (ws.map λx=>(x.1,aV Lp x.2.2))
 |j,[],ws,h=>by injection h with h;subst h;rfl
 |j,(s,x)::out,ws,h=>by
  simp only[oZ]at h;split at h;rename_i o y l q e n;injection h with h;subst h;have ih:=nu hL (j:=j+1) n;have g:o=new+j:=(by grind [eX]);subst g;cases x with
  |dead=>cases e
  |box t x=>injection e with e;grind [CR,gY,ee,VQ]
  |mbox t cs=>
   grind [xS,IJ,gY,OT]
  |arr w t rows=>injection e with e;grind [NL,gY]
  cases h
theorem re{ids:List Nat}{new m:Nat}: ∀{n k:Nat} {out:List (Bool×TB)} {ws:List (Nat×Bool×TB)},oZ ids new m k out=some ws->oZ ids new m (k+n) (out.drop n)=some (ws.drop n)
 |0,k,out,ws,h=>h
 |n+1,k,[],ws,h=>by injection h with h;subst h;rfl
 |n+1,k,(s,x)::out,ws,h=>by
  simp only[oZ]at h;split at h;rename_i b y l g e hl;injection h with h;subst h;have:=re (n:=n) hl;grind;cases h
theorem QT{F:Orc}{G:TG}(hG:GOk F G){f:FuncId}{args:List (TV×Bool)}{A:Bool}{n:Nat}{d:Option Nat}{new:Nat}{s:TSt}{kk:TSt->Option R}{r:R}
  (hd:nH s new n=true) (h:CL G f args A n d new s kk=some r):
  ∃xs ws B es z blks v res E fresh,(fC (args.map (·.2)) (args.map λx=>aR (lns s.sto) x.1)).run (Jy s)=some (xs,ws)/\
   (dY ws (cI.entsOfL xs []) (cI.entsOfL xs [])).run (Jy s)=some B/\(dY ws B B).run (Jy s)=some es/\iT (es.map Ent.id)=true/\
   ren.renL (λe=>dG e es 0) xs=some z/\(jR ws (λe=>dG e es 0) es).run (Jy s)=some blks/\F f z blks=some res/\
   (if A=true then es.length<=res.2.length/\res.2.length<=es.length+n else res.2.length=es.length+n)/\bk es new res.1=some v/\gY es new new (res.2.drop es.length)=some fresh/\
   (iF ws es new es res.2).run (Jy s)=some E/\ ∃s',put d ⟨v,ws++E++fresh⟩ (Jy s)=Jy s'/\kk s'=some r:=by
 unfold CL at h;obtain⟨xs,s1,ws,h1,q,h⟩:=ct (Fzd.refl s) h;rw[uM]at q;split at h;cases h;rename_i i0 V;split at h;cases h;rename_i i1 S;split at h;cases h;rename_i ids M;split at h;rename_i Y;split at h;rename_i ys bl U L;obtain⟨v,out,hF,a1,h⟩:=hG.ok h;split at h;rename_i hlen;split at h;rename_i O g W o;split at h;rename_i N;have e0:cI.entsOfL (xs.map (bS (lns s.sto))) []=i0.map .whole:=QG (lns s.sto) (l:=[]) V;have e1:=yV q S;have e2:=yV q M;obtain⟨ak,Z⟩:=r4 L;have hL: ∀b k,eI b ids 0=some k->lns bl k=lns s.sto b:=by intro b k P;obtain⟨_,P⟩:=QB P;rw[Z k b (by simpa using P),q.2.1]
 have e3:=pf hL U;have e4:=qt hL q rfl L;obtain⟨b1,b2⟩:=oe o;have a6: ∀(j:Nat),oJ out j=match out[j]? with
   |some x=>lnB x.2
   |none=>0:=by
  intro j;unfold oJ lns;rw[gE];cases out[j]?<;>rfl
 have Q: ∀(k b:Nat),ids[k]?=some b->b<s1.sto.length:=by
  have al: ∀(C:List Nat) (bl:List TB),vS ids s1 C=some bl-> ∀(k b:Nat),C[k]?=some b->b<s1.sto.length:=by
   intro C
   induction C with
   |nil=>simp_all
   |cons c C ih=>
    grind [vS]
  grind
 have a4:s1.sto.length=s.sto.length:=(by have:=congrArg (λst=>st.sto.length) q.2.2.1;grind [Jy,yP]);obtain⟨a3,K,a2⟩:=JEE hlen;have a0:=vZ hd;have ab: ∀x∈g,∃(j:Nat) (T:Bool) (y:TB),out[j]?=some (T,y)/\eX ids new out.length j=some x.1/\xS ids new out.length y=some x.2.2/\x.2.1=(T&&decide (j<ids.length)):=by
  intro x hx;obtain⟨j,hj⟩:=lZ hx;have w:j<out.length:=by grind
  obtain⟨b,y,q1,q2,I⟩:=b2 j (out[j]'w).1 (out[j]'w).2 (aS w);rw[hj]at I;injection I with I;rw[nG]at q1 I;exact⟨j,_,_,aS w,by simp_all,by simp_all,by rw[I];rfl⟩
 have H: ∀x∈g,x.1<s1.sto.length:=(by grind [eX,Jq]);have J: ∀x∈g,x.2.1=true->lnB x.2.2=lns s1.sto x.1:=(by grind [mr,eX]);obtain⟨w1,w2⟩:=JJv (JHF N) H J;have D: ∀k b,eX ids new out.length k=some b->lns (nF g s1).sto b=oJ out k:=(by grind [eX,mr]);have e5:=JIh D W;have e6:=ob D (ws0:=ws) (st:=Jy s) (j:=0) (es:=ids) (out:=out) (ws:=g) (λi b hb=>by grind) (by omega) K o;have e7:=nu D (j:=0) (out:=out.drop ids.length) (ws:=g.drop ids.length) (by have:=re (n:=ids.length) o;grind);rw[uO]at e7;refine⟨xs.map (bS (lns s.sto)),ws,i1.map .whole,ids.map .whole,_,_,aR (lns (nF g s1).sto) O,_,_,(g.drop ids.length).map (λx=>(x.1,aV (lns (nF g s1).sto) x.2.2)),h1,?_,e2,JAa Y,e3,e4,hF,?_,e5,?_,e6,bB d O (nF g s1),?_,h⟩;grind;grind;grind [List.map_drop];refine rE ?_ d O;rw[w1,q.2.2.1];simp[eR];cases h;cases h;cases h;cases h;cases h
end
end Go.Am
end
section
namespace Go.Am
inductive TOp where
 |mv (x:TO)
 |mkarr (t:Ty) (x:TO)
 |pick (c a b:TO)
 |newbox (t:Ty)
 |box (t:Ty) (x:TO)
 |build (t:Ty) (parts:List (Nat×Ty×TO))
 |lits (own:Bool) (t:Ty) (n:Nat) (parts:List (Nat×TO))
 |load (agg:Bool) (t:Ty) (x:TO)
 |store (t:Ty) (x v:TO)
 |nilchk (x:TO)
 |bin (op:BinOp) (bt:TBT) (x y:TO)
 |un (op:UnOp) (x:TO)
 |conv (k:CK) (x:TO)
 |mkslice (own:Bool) (t:Ty) (bytes:Nat) (l c:TO)
 |slice (k:TSK) (x:TO) (lo hi mx:Option TO)
 |faddr (off:Nat) (x:TO)
 |field (agg:Bool) (off:Nat) (t:Ty) (x:TO)
 |iaddr (t:Ty) (x i:TO)
 |aaddr (len esz:Nat) (x i:TO)
 |sidx (x i:TO)
 |aidx (agg:Bool) (len:Nat) (t:Ty) (x i:TO)
 |extr (x:TO) (i:Nat)
 |call (f:FuncId) (args:List TO) (k:Nat)
 |callo (f:FuncId) (args:List (TO×Bool)) (k:Nat)
 |callv (g:TO) (args:List TO) (k:Nat)
 |len (str:Bool) (x:TO)
 |alen (n:Nat)
 |app (t:Ty) (bytes:Nat) (x y:TO)
 |appn (t:Ty) (bytes:Nat) (y:TO)
 |appz (t:Ty) (bytes:Nat) (x y:TO)
 |appc (t:Ty) (bytes:Nat) (x y:TO)
 |mm (mx:Bool) (x y:TO)
 |mkfn (f:FuncId) (first caps:List TO)
 |newboxo (t:Ty) (os:List (Nat×Ty))
 |buildo (t:Ty) (parts:List (Nat×Ty×TO)) (os:List (Nat×Ty))
 |storen (t:Ty) (x:TO)
 |ppre (t:Ty) (x hi:TO)
 |psuf (t:Ty) (x lo:TO)
 |appp (t:Ty) (bytes:Nat) (x y:TO)
def zer(t:Ty):List PV:=cel t t.zero
def erp:TOp->AOp
 | .mv x=>.mv (erO x)
 | .mkarr t x=>.mkarr t.sz (erO x)
 | .pick c a b=>.pick (erO c) (erO a) (erO b)
 | .newbox t=>.newbox (zer t)
 | .box t x=>.box t.sz (erO x)
 | .build t parts=>.build (zer t) (erP parts)
 | .lits own t n parts=>.lits own t.sz n (zer t) (parts.map λx=>(x.1,erO x.2))
 | .load agg t x=>.load agg t.sz (erO x)
 | .store t x v=>.store t.sz (erO x) (erO v)
 | .nilchk x=>.nilchk (erO x)
 | .bin op bt x y=>.bin op (erT bt) (erO x) (erO y)
 | .un op x=>.un op (erO x)
 | .conv k x=>.conv k (erO x)
 | .mkslice own t bytes l c=>.mkslice own t.sz bytes (zer t) (erO l) (erO c)
 | .slice k x lo hi mx=>.slice (erK k) (erO x) (lo.map erO) (hi.map erO) (mx.map erO)
 | .faddr off x=>.faddr off (erO x)
 | .field agg off t x=>.field agg off t.sz (erO x)
 | .iaddr t x i=>.iaddr t.sz (erO x) (erO i)
 | .aaddr len esz x i=>.aaddr len esz (erO x) (erO i)
 | .sidx x i=>.sidx (erO x) (erO i)
 | .aidx agg len t x i=>.aidx agg len t.sz (erO x) (erO i)
 | .extr x i=>.extr (erO x) i
 | .call f args k=>.call f (args.map erO) k
 | .callo f args k=>.callo f (args.map (·.2)) (args.map λx=>erO x.1) k
 | .callv g args k=>.callv (erO g) (args.map erO) k
 | .len str x=>.len str (erO x)
 | .alen n=>.alen n
 | .app t bytes x y=>.app t.sz bytes (zer t) (erO x) (erO y)
 | .appn t bytes y=>.appn t.sz bytes (zer t) (erO y)
 | .appz t bytes x y=>.appz t.sz bytes (zer t) (erO x) (erO y)
 | .appc t bytes x y=>.appc t.sz bytes (zer t) (erO x) (erO y)
 | .ppre t x y=>.ppre t.sz (erO x) (erO y)
 | .psuf t x y=>.psuf t.sz (erO x) (erO y)
 | .appp t bytes x y=>.appp t.sz bytes (zer t) (erO x) (erO y)
 | .mm mx x y=>.mm mx (erO x) (erO y)
 | .mkfn f first caps=>.mkfn f (first.map erO) (caps.map erO)
 | .newboxo t os=>.newboxo (zer t) (kF os)
 | .buildo t parts os=>.buildo (zer t) (erP parts) (kF os)
 | .storen t x=>.storen t.sz (erO x)
def bW:TOp->Nat| .newbox _| .box _ _| .mkarr _ _| .appn _ _ _| .appc _ _ _ _=>1| .lits own _ _ _=>if own=true then 1 else 0| .mkslice own _ _ _ _=>if own=true then 1 else 0| .conv (.toBytes own) _=>if own=true then 1 else 0| .call _ _ k| .callv _ _ k| .callo _ _ k=>k| .newboxo _ os=>os.length+1| .buildo _ _ os=>os.length| .storen _ _=>1|_=>0
theorem IR(op:TOp):kL (erp op)=bW op:=by
 cases op<;>try rfl
 rename_i k x;cases k<;>rfl
 all_goals simp[erp,bW,kF]
def uI:List (TO×Bool)->TSt->Option (List (TV×Bool))|[],_=>some []|(o,x)::r,s=>match tev o s,uI r s with|some v,some l=>some ((v,x)::l)|_,_=>none
theorem yQ{s:TSt}: ∀{xs:List (TO×Bool)} {l:List (TV×Bool)},uI xs s=some l->
  (evs (xs.map λx=>erO x.1)).run (Jy s)=some (l.map λx=>aR (lns s.sto) x.1)/\l.map (·.2)=xs.map (·.2)
 |[],l,h=>by injection h with h;simp_all
 |(o,x)::q,l,h=>by
  simp only[uI]at h;split at h;rename_i v g e hl;injection h with h;subst h;obtain⟨h1,h2⟩:=yQ hl;exact⟨by simp only[bT,evs,run_bind,bP e,Jv,h1,JW],by simp[h2]⟩;cases h
section
variable {R:Type}
def top(G:TG)(op:TOp)(d:Option Nat)(new:Nat)(s:TSt)(k:TSt->Option R):Option R:=
 match op with
 | .mv x=>match tev x s with|some v=>k (bB d v s)|none=>none
 | .mkarr t _=>B1 t d new s k
 | .pick c a b=>match tev c s with|some (.a (.c (.d .b x)))=>ke x (tev a s) (tev b s) λv=>k (bB d v s)|_=>none
 | .newbox t=>Eo t d new s k
 | .box t x=>match tev x s with|some v=>ir t v d new s k|none=>none
 | .build t parts=>XR t parts d s k
 | .lits own t n parts=>kx own t n parts d new s k
 | .load agg t x=>match tev x s with|some v=>kt agg t v d s k|none=>none
 | .store t x y=>match tev x s,tev y s with|some v,some u=>XX t v u d s k|_,_=>none
 | .nilchk x=>match tev x s with|some v=>iv v λv=>k (bB d v s)|none=>none
 | .bin op bt x y=>match tev x s,tev y s with|some v,some u=>ix op bt v u λv=>k (bB d v s)|_,_=>none
 | .un op x=>match tev x s with|some v=>tUn op v λv=>k (bB d v s)|none=>none
 | .conv c x=>match tev x s with|some v=>kp c v d new s k|none=>none
 | .mkslice own t bytes l c=>match tev l s,tev c s with|some v,some u=>ZT own t bytes v u d new s k|_,_=>none
 | .slice e x lo hi mx=>match tev x s,tbn lo s,tbn hi s,tbn mx s with|some v,some a,some b,some c=>XE e v a b c d s k|_,_,_,_=>none
 | .faddr off x=>match tev x s with|some v=>YG off v λv=>k (bB d v s)|none=>none
 | .field agg off t x=>match tev x s with|some v=>XS agg off t v d s k|none=>none
 | .iaddr t x i=>match tev x s,tev i s with|some v,some u=>XY t v u s λv=>k (bB d v s)|_,_=>none
 | .aaddr len esz x i=>match tev x s,tev i s with|some v,some u=>YI len esz v u λv=>k (bB d v s)|_,_=>none
 | .sidx x i=>match tev x s,tev i s with|some v,some u=>ll v u λv=>k (bB d v s)|_,_=>none
 | .aidx agg len t x i=>match tev x s,tev i s with|some v,some u=>km agg len t v u d s k|_,_=>none
 | .extr x i=>match tev x s with|some v=>kq v i λv=>k (bB d v s)|none=>none
 | .call f args n=>match uI (args.map λx=>(x,false)) s with|some l=>CL G f l false n d new s k|none=>none
 | .callo f args n=>match uI args s with|some l=>CL G f l true n d new s k|none=>none
 | .callv g args n=>match tev g s,uI (args.map λx=>(x,false)) s with|some (.a (.fn f a c)),some l=>CL G f (a.map (λx=>(.a (.c x),false))++l++c.map (λx=>(.a (.c x),false))) false n d new s k|some (.a (.c (.fn f))),some l=>CL G f l false n d new s k|_,_=>none
 | .len str x=>match tev x s with|some v=>js str v s λv=>k (bB d v s)|none=>none
 | .alen n=>k (bB d (vi .i64 n) s)
 | .app t bytes x y=>match tev x s,tev y s with|some v,some u=>SO t bytes v u d s k|_,_=>none
 | .appn t bytes y=>match tev y s with|some u=>ko t bytes u d new s k|none=>none
 | .appz t bytes x y=>match tev x s,tev y s with|some v,some u=>kn t bytes v u d s k|_,_=>none
 | .appc t bytes x y=>match tev x s,tev y s with|some v,some u=>k8 t bytes v u d new s k|_,_=>none
 | .mm mx x y=>match tev x s,tev y s with|some v,some u=>tMm mx v u λv=>k (bB d v s)|_,_=>none
 | .mkfn f first caps=>match tcl first s,tcl caps s with|some a,some c=>k (bB d (.a (.fn f a c)) s)|_,_=>none
 | .newboxo t os=>de t os d new s k
 | .buildo t parts os=>ZQ t parts os d new s k
 | .storen t x=>match tev x s with|some v=>ZM t v d new s k|none=>none
 | .ppre _ x y=>match tev x s,tev y s with|some v,some u=>ld v u d s k|_,_=>none
 | .psuf t x y=>match tev x s,tev y s with|some v,some u=>lg t v u d s k|_,_=>none
 | .appp t bytes x y=>match tev x s,tev y s with|some v,some u=>ln t bytes v u d s k|_,_=>none
theorem dn{F:Orc}{f:FuncId}{vs xs g:List AV}{ws:List (Nat×Blk)}{h es:List Ent}{blks:List Blk}{v:AV}{res:Res}{j fresh:List (Nat×Blk)}{n new:Nat}{st:St}
  (h1:(jJ vs).run st=some (xs,ws)) (h2:(dY ws (cI.entsOfL xs []) (cI.entsOfL xs [])).run st=some h) (h3:(dY ws h h).run st=some es) (h4:iT (es.map Ent.id)=true)
  (h5:ren.renL (λe=>dG e es 0) xs=some g) (w:(jR ws (λe=>dG e es 0) es).run st=some blks) (q:F f g blks=some res) (r:res.2.length=es.length+n)
  (x:bk es new res.1=some v) (k:gY es new new (res.2.drop es.length)=some fresh) (o:(iF ws es new es res.2).run st=some j):
  (hJ F f vs n new).run st=some ⟨v,ws++j++fresh⟩:=by
 simp_all [hJ]
theorem JFA{F:Orc}{f:FuncId}{xs g:List AV}{ws:List (Nat×Blk)}{h es:List Ent}{blks:List Blk}{v:AV}{res:Res}{j fresh:List (Nat×Blk)}{n new:Nat}{st:St}
  (h2:(dY ws (cI.entsOfL xs []) (cI.entsOfL xs [])).run st=some h) (h3:(dY ws h h).run st=some es) (h4:iT (es.map Ent.id)=true)
  (h5:ren.renL (λe=>dG e es 0) xs=some g) (w:(jR ws (λe=>dG e es 0) es).run st=some blks) (q:F f g blks=some res) (r:es.length<=res.2.length/\res.2.length<=es.length+n)
  (x:bk es new res.1=some v) (k:gY es new new (res.2.drop es.length)=some fresh) (o:(iF ws es new es res.2).run st=some j):
  (fJ F f (xs,ws) n new).run st=some ⟨v,ws++j++fresh⟩:=by
 simp_all [fJ]
theorem PG(args:List TO):(args.map λx=>(x,false)).map (λx:TO×Bool=>erO x.1)=args.map erO:=by simp_all
theorem JKB{F:Orc}{G:TG}(K:GOk F G){op:TOp}{d:Option Nat}{new:Nat}{s:TSt}{k:TSt->Option R}{r:R}(hd:nH s new (bW op)=true)(h:top G op d new s k=some r):Ok (opR F (erp op) new) d s k r:=by
 have a3: ∀j,j<bW op->new+j<s.sto.length:=λj hj=>Jq (vZ hd j hj);unfold top at h;split at h;split at h;rename_i x _ v o;refine eM (v:=v) ?_ h;simp only[erp,opR,run_bind,bP o,Jv,JW];cases h;exact JEf F (by simp_all [bW]) h;split at h;rename_i hc;exact JHG F hc h;cases h;exact JC9 F (by have:=vZ hd 0 (by simp[bW]);simp_all) h;split at h;rename_i o;exact JIl F (by have:=vZ hd 0 (by simp[bW]);simp_all) o h;cases h;exact JEU F new h;rename_i own t n parts;exact JGk F (λY=>by simp_all [bW]) h;split at h;rename_i o;obtain⟨e,s',h1,h2,q⟩:=JHE h;exact⟨e,s',by grind [erp,opR,run_bind,bP],h2,q⟩;cases h;split at h;rename_i o w;obtain⟨e,s',h1,h2,q⟩:=JEi h;exact⟨e,s',by grind [erp,opR,run_bind,bP],h2,q⟩;cases h;split at h;rename_i o;exact JIo F o h;cases h;split at h;rename_i o w;obtain⟨e,s',h1,h2,q⟩:=(JJ2 h).ok;exact⟨e,s',by grind [erp,opR,run_bind,bP],h2,q⟩;cases h;split at h;rename_i o;obtain⟨e,s',h1,h2,q⟩:=(JLb h).ok;exact⟨e,s',by grind [erp,opR,run_bind,bP],h2,q⟩;cases h;split at h;rename_i o;exact JGy F o (λY=>by simp_all [bW]) h;cases h;split at h;rename_i o w;exact F9 F o w (λY=>by simp_all [bW]) h;cases h;split at h;rename_i h1 h2 q h4;exact JEM F h1 h2 q h4 h;cases h;split at h;rename_i o;obtain⟨e,s',h1,h2,q⟩:=(JEL h).ok;exact⟨e,s',by grind [erp,opR,run_bind,bP],h2,q⟩;cases h;split at h;rename_i o;obtain⟨e,s',h1,h2,q⟩:=JEz h;exact⟨e,s',by grind [erp,opR,run_bind,bP],h2,q⟩;cases h;split at h;rename_i o w;obtain⟨e,s',h1,h2,q⟩:=JEv h;exact⟨e,s',by grind [erp,opR,run_bind,bP],h2,q⟩;cases h;split at h;rename_i o w;obtain⟨e,s',h1,h2,q⟩:=(JEY h).ok;exact⟨e,s',by grind [erp,opR,run_bind,bP],h2,q⟩;cases h;split at h;rename_i o w;exact JHU F o w h;cases h;split at h;rename_i o w;exact JGW F o w h;cases h;split at h;rename_i o;obtain⟨e,s',h1,h2,q⟩:=(JHI h).ok;exact⟨e,s',by grind [erp,opR,run_bind,bP],h2,q⟩;cases h;rename_i f args n;split at h;rename_i l hl;obtain⟨C,L⟩:=yQ hl;rw[PG]at C;obtain⟨xs,ws,H,es,B,blks,v,res,D,fresh,E,V,U,Q,P,O,N,S,M,J,I,s',A,y⟩:=QT K hd h;rw[KW _ _ (λx Z=>by simp_all)]at E;refine⟨_,s',?_,A,y⟩;grind [erp,opR,run_bind,dn,bW];cases h;rename_i f args n;split at h;rename_i l hl;obtain⟨C,L⟩:=yQ hl;obtain⟨xs,ws,H,es,B,blks,v,res,D,fresh,E,V,U,Q,P,O,N,S,M,J,I,s',A,y⟩:=QT K hd h;rw[L]at E;refine⟨_,s',?_,A,y⟩;simp_all [erp,JFA,bW];cases h;rename_i g args n;split at h;rename_i f a c l T hl;obtain⟨C,L⟩:=yQ hl;rw[PG]at C;obtain⟨xs,ws,H,es,B,blks,v,res,D,fresh,E,V,U,Q,P,O,N,S,M,J,I,s',A,y⟩:=QT K hd h;have W: ∀z:List TC,(z.map (λx=>((TV.a (.c x),false):TV×Bool))).map (λx=>aR (lns s.sto) x.1)=z.map (aX (lns s.sto)):=λz=>by rw[xX];rfl
 rw[KW _ _ (λx Z=>by
  grind),xE,xE,W,W]at E
 refine⟨_,s',?_,A,y⟩;simp only[erp,opR,run_bind,bP T,Jv,i5,C];grind [dn,bW];rename_i f l T hl;obtain⟨C,L⟩:=yQ hl;rw[PG]at C;obtain⟨xs,ws,H,es,B,blks,v,res,D,fresh,E,V,U,Q,P,O,N,S,M,J,I,s',A,y⟩:=QT K hd h;rw[KW _ _ (λx Z=>by simp_all)]at E;refine⟨_,s',?_,A,y⟩;simp only[erp,opR,run_bind,bP T,Jv,Az,C,uM,gR];grind [dn,bW];cases h;split at h;rename_i o;obtain⟨e,s',h1,h2,q⟩:=(JIj h).ok;exact⟨e,s',by grind [erp,opR,run_bind,bP],h2,q⟩;cases h;rename_i n;exact eM (v:=vi .i64 n) rfl h;split at h;rename_i o w;obtain⟨e,s',h1,h2,q⟩:=Dk h;exact⟨e,s',by grind [erp,opR,run_bind,bP],h2,q⟩;cases h;split at h;rename_i w;exact JG8 F w (by simp_all [bW]) h;cases h;split at h;rename_i o w;exact JGT F o w h;cases h;split at h;rename_i o w;exact JGM F o w (by simp_all [bW]) h;cases h;split at h;rename_i o w;obtain⟨e,s',h1,h2,q⟩:=(JLA h).ok;exact⟨e,s',by grind [erp,opR,run_bind,bP],h2,q⟩;cases h;rename_i f first caps
 split at h;rename_i a c ha hc;refine eM (v:=.a (.fn f a c)) ?_ h;simp_all [erp,B9,i5];cases h;exact Gb F hd h;exact JC4 F hd h;split at h;rename_i o;exact JC2 F (by have:=vZ hd 0 (by simp[bW]);simp_all) o h;cases h;split at h;rename_i o w;obtain⟨e,s',h1,h2,q⟩:=JGL h;exact⟨e,s',by grind [erp,opR,run_bind,bP],h2,q⟩;cases h;split at h;rename_i o w;obtain⟨e,s',h1,h2,q⟩:=JHD h;exact⟨e,s',by grind [erp,opR,run_bind,bP],h2,q⟩;cases h;split at h;rename_i o w;obtain⟨e,s',h1,h2,q⟩:=JFO h;exact⟨e,s',by grind [erp,opR,run_bind,bP],h2,q⟩;cases h
structure iN where
 op:TOp
 dst:Option Nat
 g:Option (Nat×Bool)
def eri(i:iN):bV:=⟨erp i.op,i.dst,i.g⟩
def rbE(g:Nat)(v:TV):List (Nat×TV)->List (Nat×TV)|[]=>[]|(m,u)::r=>if m=g then(m,v)::r else(m,u)::rbE g v r
def rb(g:Nat)(v:TV)(s:TSt):TSt:=⟨rbE g v s.env,s.sto⟩
theorem XQ{g:Nat}{v:TV}{s:TSt}(h:tlk g s.env=some v):rb g v s=s:=by
 have e: ∀env:List (Nat×TV),tlk g env=some v->rbE g v env=env:=by
  intro env
  induction env with
  |nil=>intro h;cases h
  |cons x r ih=>
   grind [tlk,rbE]
 simp_all [rb]
def SS(G:TG)(i:iN)(new:Nat)(s:TSt)(k:TSt->Option R):Option R:=
 match i.g with
 |none=>if nH s new (bW i.op)=true then top G i.op i.dst new s k else none
 |some (g,e)=>match tlk g s.env with
  |some (.a (.c (.d .b x)))=>if x=e then
   (if nH s new (bW i.op)=true then top G i.op i.dst new (rb g (vb e) s) k else none)
   else k (bB i.dst uv (rb g (vb !e) s))
  |some (.tup [])=>k (bB i.dst uv s)
  |_=>none
theorem Ew{F:Orc}{G:TG}(B:GOk F G){i:iN}{new:Nat}{s:TSt}{k:TSt->Option R}{r:R}(h:SS G i new s k=some r):Ok (bZ F (eri i) new) i.dst s k r:=by
 have z: ∀{s:TSt},nH s new (bW i.op)=true->top G i.op i.dst new s k=some r->Ok (opD F (erp i.op) new) i.dst s k r:=(by intro s o h;obtain⟨e,s',h1,h2,w⟩:=JKB B o h;refine⟨e,s',?_,h2,w⟩;grind [opD,run_bind,IR,nh]);unfold SS at h;split at h;grind [bZ,eri];rename_i g n A;split at h;rename_i x j;have hl:lk g (Jy s).env=some (.p (.b x)):=by show lk g (fI _ s.env)=_;rw[yM,j];rfl
 split at h;rename_i q;subst q;rw[XQ j]at h;split at h;rename_i o;obtain⟨e,s',h1,h2,w⟩:=z o h;refine⟨e,s',?_,h2,w⟩;grind [bZ,eri,wB];cases h;rename_i q;have y:x= !n:=by clear hl j h;cases x<;>cases n<;>first|rfl|grind
 subst y;rw[XQ j]at h;refine eM (v:=uv) ?_ h;simp only[bZ,eri,A,wB,hl,Jv];rw[if_neg q];rfl;rename_i j;have hl:lk g (Jy s).env=some (.tup []):=by show lk g (fI _ s.env)=_;rw[yM,j];rfl
 refine eM (v:=uv) ?_ h;simp only[bZ,eri,A,wB,hl,Jv,JW];rfl;cases h
def UF(G:TG):List iN->Nat->TSt->(TSt->Option R)->Option R|[],_,s,k=>k s|i::r,new,s,k=>SS G i new s λs=>UF G r (new+bW i.op) s k
theorem Ea{F:Orc}{G:TG}(g:GOk F G): ∀{ins:List iN} {new:Nat} {s:TSt} {k:TSt->Option R} {r:R},UF G ins new s k=some r-> ∃s',fW F (ins.map eri) new (Jy s)=some (Jy s')/\k s'=some r
 |[],new,s,k,r,h=>⟨s,rfl,h⟩
 |i::q,new,s,k,r,h=>by
  simp only[UF]at h;obtain⟨e,s1,h1,h2,h⟩:=Ew g h;obtain⟨j,o,n⟩:=Ea g h;grind [fW,eri,IR]
def GY:List iN->Nat|[]=>0|i::r=>bW i.op+GY r
theorem dg: ∀ins:List iN,news (ins.map eri)=GY ins
 |[]=>rfl
 |i::r=>by
  simp only[bT,news,GY,dg r];grind [eri,IR]
def MX(n:Nat)(s:TSt):TSt:=if n=0 then s else⟨s.env,s.sto++List.replicate n .dead⟩
theorem Il(sto:List TB)(n:Nat):lns (sto++List.replicate n .dead)=lns sto:=by
 funext c
 unfold lns;rcases zQ3 c sto.length with h|h;grind;rw[mX h,oR h,List.getElem?_replicate];split<;>rfl
theorem ny(n:Nat)(s:TSt):Jy (MX n s)=⟨(Jy s).env,room n (Jy s).sto⟩:=by
 unfold MX room;split;rfl;unfold Jy;rw[Il];simp only[xE,TS];rfl
end
end Go.Am
end
section
namespace Go.Am
def Rb{α:Type}(S:Nat->Prop)(m:RM α)(st:St):Prop:= ∀b,Loc.blk b∈m.reads st->S b
section
variable {α β:Type} {S:Nat->Prop} {st:St}
theorem bN(a:α):Rb S (.ret a) st:=λb h=>by simp[RM.reads]at h
theorem JS:Rb S (.fail:RM α) st:=λb h=>by simp[RM.reads]at h
theorem bK{m:RM α}{f:α->RM β}(h:Rb S m st)(hf: ∀a,m.run st=some a->Rb S (f a) st):Rb S (m.bind f) st:=by
 intro b e;rw[wI]at e;rcases zQ9.1 e with e|e;exact h b e;cases hm:m.run st with
 |none=>rw[hm]at e;simp at e
 |some a=>rw[hm]at e;exact hf a hm b (by simpa using e)
theorem kN{b:Nat}{k:Blk->RM α}(hb:S b)(h: ∀v,st.sto[b]?=some v->Rb S (k v) st):Rb S (.blk b k) st:=by
 intro c e;simp only[RM.reads,eJ]at e;rcases e with e|e;injection e with e;subst e;exact hb;cases hv:st.sto[b]? with
 |none=>rw[hv]at e;simp at e
 |some v=>rw[hv]at e;exact h v hv c e
theorem D2{n:Nat}{k:AV->RM α}(h: ∀v,lk n st.env=some v->Rb S (k v) st):Rb S (.slot n k) st:=by
 intro c e;simp only[RM.reads,eJ]at e;rcases e with e|e;cases e;cases hv:lk n st.env with
 |none=>rw[hv]at e;simp at e
 |some v=>rw[hv]at e;exact h v hv c e
theorem OD(x:Option AV):Rb S (val x) st:=by cases x<;>first|exact JS|exact bN _
theorem fS(x:Opd):Rb S (ev x) st:=by cases x<;>first|exact bN _|exact D2 λv _=>bN v
theorem YO: ∀xs:List Opd,Rb S (evs xs) st|[]=>bN _|x::r=>bK (fS x) λv _=>bK (YO r) λvs _=>bN _
theorem XI(x:Option Opd):Rb S (evo x) st:=by
 cases x with
 |none=>exact bN _
 |some x=>exact bK (fS x) λv _=>bN _
end
def eC:AV->List Nat| .ptr b _=>[b]| .slr b _ _=>[b]| .ep b _ _ _=>[b]| .pre b _ _=>[b]|_=>[]
def avR:AV->List Nat| .agg cs=>cs.flatMap eC|x=>eC x
section
variable {S:Nat->Prop} {st:St}
theorem JJJ{x:AV}(h: ∀b∈eC x,S b):Rb S (fz.fz1 x) st:=by
 cases x with
 |slr b i n=>
  refine kN (h b (by simp[eC])) λv _=>?_;cases v with
  |arr w esz rows=>dsimp only;split<;>first|exact bN _|exact JS
  |_=>exact JS
 |p c=>exact bN _
 |_=>exact JS
theorem Bi: ∀{xs:List AV},(∀b∈xs.flatMap eC,S b)->Rb S (fz.fzL xs) st|[],_=>bN _|x::r,h=>bK (JJJ λb e=>h b (by simp[e])) λa _=>bK (Bi λb e=>h b (by simp only[List.flatMap_cons,zQ9];exact .inr e)) λc _=>bN _
theorem GN{x:AV}(h: ∀b∈avR x,S b):Rb S (fz x) st:=by
 cases x with
 |slr b i n=>
  refine kN (h b (by simp[avR,eC])) λv _=>?_;cases v with
  |arr w esz rows=>dsimp only;split<;>first|exact bN _|exact JS
  |_=>exact JS
 |p c=>exact bN _
 |data cs=>exact bN _
 |agg cs=>exact Bi h
 |_=>exact JS
theorem JLf{x:AV}{a:List PV×List (Nat×Blk)}(h:(fz.fz1 x).run st=some a): ∀y∈a.2,y.1∈eC x:=by
 cases x with
 |slr b i n=>
  simp only[fz.fz1,cY]at h;obtain⟨v,_,h⟩:=aU.1 h;cases v with
  |arr w esz rows=>
   dsimp only at h;split at h;injection h with h;subst h;simp[eC];cases h
  |_=>cases h
 |p c=>injection h with h;subst h;simp
 |_=>cases h
theorem Co: ∀{xs:List AV} {a:List PV×List (Nat×Blk)},(fz.fzL xs).run st=some a-> ∀y∈a.2,y.1∈xs.flatMap eC
 |[],a,h,y,g=>by injection h with h;subst h;simp at g
 |x::r,a,h,y,g=>by
  simp only[fz.fzL]at h;obtain⟨c,h1,h⟩:=bind_some h;obtain⟨e,h2,h⟩:=bind_some h;injection h with h;subst h;simp only[zQ9]at g;simp only[List.flatMap_cons,zQ9];rcases g with g|g;exact .inl (JLf h1 y g);exact .inr (Co h2 y g)
theorem GI{x:AV}{a:List PV×List (Nat×Blk)}(h:(fz x).run st=some a): ∀y∈a.2,y.1∈avR x:=by
 cases x with
 |slr b i n=>
  simp only[fz,cY]at h;obtain⟨v,_,h⟩:=aU.1 h;cases v with
  |arr w esz rows=>
   dsimp only at h;split at h;injection h with h;subst h;simp[avR,eC];cases h
  |_=>cases h
 |p c=>injection h with h;subst h;simp
 |data cs=>injection h with h;subst h;simp
 |agg cs=>exact Co h
 |_=>cases h
theorem OX{esz:Nat}{x:AV}(h: ∀b∈avR x,S b):Rb S (eL esz x) st:=by
 unfold eL;split;split<;>first|exact bN _|exact JS
 split<;>first|exact bN _|exact JS
 refine kN (h _ (by simp[avR,eC])) λv _=>?_;split;split<;>first|exact bN _|exact JS
 exact JS;exact JS
theorem JIQ{agg:Bool}{size:Nat}{x:AV}(h: ∀b∈avR x,S b):Rb S (gF agg size x) st:=by
 unfold gF;split;split<;>first|exact OD _|exact JS
 refine kN (h _ (by simp[avR,eC])) λv _=>?_;split;split<;>first|exact OD _|exact JS
 exact JS;refine kN (h _ (by simp[avR,eC])) λv _=>?_;split;split;split;split<;>first|exact OD _|exact JS
 exact JS;exact JS;exact JS;exact JS
theorem OA{x:Option AV}{e:Eff}(h:(val x).run st=some e):e.ws=[]:=by
 cases x with
 |none=>cases h
 |some v=>injection h with h;subst h;rfl
theorem JIG{agg:Bool}{size:Nat}{x:AV}{e:Eff}(h:(gF agg size x).run st=some e):e.ws=[]:=by
 unfold gF at h;split at h;split at h<;>first|exact OA h|cases h
 simp only[cY]at h;obtain⟨v,_,h⟩:=aU.1 h;split at h;split at h<;>first|exact OA h|cases h
 cases h;simp only[cY]at h;obtain⟨v,_,h⟩:=aU.1 h;split at h;split at h;split at h;split at h<;>first|exact OA h|cases h
 cases h;cases h;cases h;cases h
theorem JHi{size:Nat}{x v:AV}(h: ∀b∈avR x,S b)(hv: ∀b∈avR v,S b):Rb S (hQ size x v) st:=by
 unfold hQ;split;refine kN (h _ (by simp[avR,eC])) λy _=>?_;split;split;split;split<;>first|exact bN _|exact JS
 exact JS;exact JS;exact JS;refine kN (h _ (by simp[avR,eC])) λy _=>?_;split;split;split;refine bK (GN hv) λa _=>?_;split;split<;>first|exact bN _|exact JS
 exact JS;exact JS;exact JS;exact JS;exact JS
theorem JHQ{size:Nat}{x v:AV}{e:Eff}(h:(hQ size x v).run st=some e): ∀y∈e.ws,y.1∈avR x++avR v:=by
 unfold hQ at h;split at h;simp only[cY]at h;obtain⟨w,_,h⟩:=aU.1 h;split at h;split at h;split at h;split at h;injection h with h;subst h;simp[avR,eC];cases h;cases h;cases h;cases h;simp only[cY]at h;obtain⟨w,_,h⟩:=aU.1 h;split at h;split at h;split at h;obtain⟨a,h1,h⟩:=bind_some h;split at h;split at h;injection h with h;subst h;intro y g;simp only[zQ9,qS]at g⊢;rcases g with g|rfl;exact .inr (GI h1 y g);exact .inl (by simp[avR,eC]);cases h;cases h;cases h;cases h;cases h;cases h
theorem JFD{esz:Nat}{x i:AV}(h: ∀b∈avR x,S b):Rb S (mD esz x i) st:=by
 unfold mD;split;split;split<;>first|exact bN _|exact JS
 exact JS;refine kN (h _ (by simp[avR,eC])) λv _=>?_;split;split<;>first|exact bN _|exact JS
 exact JS;exact JS
theorem JHM{esz:Nat}{x i:AV}{e:Eff}(h:(mD esz x i).run st=some e):e.ws=[]:=by
 unfold mD at h;split at h;split at h;split at h;injection h with h;subst h;rfl;cases h;cases h;simp only[cY]at h;obtain⟨v,_,h⟩:=aU.1 h;split at h;split at h;injection h with h;subst h;rfl;cases h;cases h;cases h
theorem JLh{esz bytes:Nat}{x y:AV}(h: ∀b∈avR x,S b)(hy: ∀b∈avR y,S b):Rb S (iA esz bytes x y) st:=by
 unfold iA;split;refine kN (h _ (by simp[avR,eC])) λv _=>?_;split;refine bK (OX hy) λnew _=>?_;split<;>first|exact bN _|exact JS
 exact JS;exact JS
theorem JKe{esz bytes:Nat}{x y:AV}{e:Eff}(h:(iA esz bytes x y).run st=some e): ∀z∈e.ws,z.1∈avR x:=by
 unfold iA at h;split at h;simp only[cY]at h;obtain⟨v,_,h⟩:=aU.1 h;split at h;obtain⟨new,_,h⟩:=bind_some h;split at h;injection h with h;subst h;simp[avR,eC];cases h;cases h;cases h
theorem JLr{x y:AV}(h: ∀b∈avR x,S b):Rb S (sN x y) st:=by
 unfold sN;split;refine kN (h _ (by simp[avR,eC])) λv _=>?_;split;split<;>first|exact bN _|exact JS
 exact JS;exact JS
theorem JLu{esz:Nat}{x y:AV}(h: ∀b∈avR x,S b):Rb S (sO esz x y) st:=by
 unfold sO;split;refine kN (h _ (by simp[avR,eC])) λv _=>?_;split;split<;>first|exact bN _|exact JS
 exact JS;exact JS
theorem JKU{x y:AV}{e:Eff}(h:(sN x y).run st=some e):e.ws=[]:=by
 unfold sN at h;split at h;simp only[cY]at h;obtain⟨v,_,h⟩:=aU.1 h;split at h;split at h;injection h with h;subst h;rfl;cases h;cases h;cases h
theorem JKh{esz:Nat}{x y:AV}{e:Eff}(h:(sO esz x y).run st=some e):e.ws=[]:=by
 unfold sO at h;split at h;simp only[cY]at h;obtain⟨v,_,h⟩:=aU.1 h;split at h;split at h;injection h with h;subst h;rfl;cases h;cases h;cases h
theorem JKp{esz bytes:Nat}{x y:AV}(h: ∀b∈avR x,S b)(hy: ∀b∈avR y,S b):Rb S (sP esz bytes x y) st:=by
 unfold sP;split;refine kN (h _ (by simp[avR,eC])) λv _=>?_;split;refine bK (OX hy) λnew _=>?_;split<;>first|exact bN _|exact JS
 exact JS;exact JS
theorem JKN{esz bytes:Nat}{x y:AV}{e:Eff}(h:(sP esz bytes x y).run st=some e): ∀z∈e.ws,z.1∈avR x:=by
 unfold sP at h;split at h;simp only[cY]at h;obtain⟨v,_,h⟩:=aU.1 h;split at h;obtain⟨new,_,h⟩:=bind_some h;split at h;injection h with h;subst h;simp[avR,eC];cases h;cases h;cases h
theorem E1: ∀{k new:Nat},(∀j,j<k->S (new+j))->Rb S (sS new k) st
 |0,_,_=>bN _
 |k+1,new,h=>kN (h 0 (by omega)) λv _=>by
  cases v with
  |dead=>exact E1 λj e=>by have:=h (j+1) (by omega);rwa[Nat.add_comm j 1,<-AW]at this
  |_=>exact JS
theorem Ca: ∀{xs:List Opd},(∀x∈xs,∀v,(ev x).run st=some v-> ∀b∈avR v,S b)->Rb S (fzs xs) st|[],_=>bN _|x::r,h=>bK (fS x) λv e=>bK (GN (h x (by simp) v e)) λa _=>bK (Ca λy g=>h y (by simp[g])) λc _=>bN _
theorem YC: ∀{xs:List Opd} {a:List (List PV)×List (Nat×Blk)},(∀x∈xs,∀v,(ev x).run st=some v-> ∀b∈avR v,S b)->(fzs xs).run st=some a-> ∀y∈a.2,S y.1
 |[],a,_,h,y,g=>by injection h with h;subst h;simp at g
 |x::r,a,j,h,y,g=>by
  simp only[fzs]at h;obtain⟨v,k,h⟩:=bind_some h;obtain⟨c,h1,h⟩:=bind_some h;obtain⟨e,h2,h⟩:=bind_some h;injection h with h;subst h;simp only[zQ9]at g;rcases g with g|g;exact j x (by simp) v k _ (GI h1 y g);exact YC (λz n=>j z (by simp[n])) h2 y g
theorem C3{x:AV}(h: ∀b∈avR x,S b):Rb S (iM x) st:=by
 cases x with
 |slr b i n=>refine bK (GN h) λa _=>?_;split<;>first|exact bN _|exact JS
 |agg cs=>exact bK (GN h) λa _=>bN _
 |tup cs=>exact JS
 |_=>exact bN _
theorem Ed{x:AV}{a:AV×List (Nat×Blk)}(h:(iM x).run st=some a): ∀y∈a.2,y.1∈avR x:=by
 cases x with
 |slr b i n=>
  simp only[iM]at h;obtain⟨c,h1,h⟩:=bind_some h;split at h;injection h with h;subst h;exact GI h1;cases h
 |agg cs=>simp only[iM]at h;obtain⟨c,h1,h⟩:=bind_some h;injection h with h;subst h;exact GI h1
 |tup cs=>cases h
 |_=>injection h with h;subst h;simp
theorem IY: ∀{m:List Bool} {xs:List AV},(∀x∈xs,∀b∈avR x,S b)->Rb S (fC m xs) st|_,[],_=>by unfold fC;exact bN _|[],x::r,h=>bK (C3 (h x (by simp))) λa _=>bK (IY λy e=>h y (by simp[e])) λc _=>bN _|true::m,x::r,h=>bK (IY λy e=>h y (by simp[e])) λc _=>bN _|false::m,x::r,h=>bK (C3 (h x (by simp))) λa _=>bK (IY λy e=>h y (by simp[e])) λc _=>bN _
theorem KB: ∀{m:List Bool} {xs:List AV} {a:List AV×List (Nat×Blk)},(∀x∈xs,∀b∈avR x,S b)->(fC m xs).run st=some a-> ∀y∈a.2,S y.1
 |m,[],a,_,h,y,g=>by unfold fC at h;injection h with h;subst h;simp at g
 |[],x::r,a,j,h,y,g=>by
  simp only[fC]at h;obtain⟨c,h1,h⟩:=bind_some h;obtain⟨e,h2,h⟩:=bind_some h;injection h with h;subst h;simp only[zQ9]at g;rcases g with g|g;exact j x (by simp) _ (Ed h1 y g);exact KB (λz k=>j z (by simp[k])) h2 y g
 |true::m,x::r,a,j,h,y,g=>by simp only[fC]at h;obtain⟨e,h2,h⟩:=bind_some h;injection h with h;subst h;exact KB (λz k=>j z (by simp[k])) h2 y g
 |false::m,x::r,a,j,h,y,g=>by
  simp only[fC]at h;obtain⟨c,h1,h⟩:=bind_some h;obtain⟨e,h2,h⟩:=bind_some h;injection h with h;subst h;simp only[zQ9]at g;rcases g with g|g;exact j x (by simp) _ (Ed h1 y g);exact KB (λz k=>j z (by simp[k])) h2 y g
theorem C0{ws:List (Nat×Blk)}{b:Nat}(h:S b):Rb S (qN ws b) st:=kN h λv _=>by split<;>exact bN _
theorem ZP{ws:List (Nat×Blk)}: ∀{r:List Nat} {acc:List Ent},(∀b∈r,S b)->Rb S (dY ws (r.map .whole) acc) st|[],acc,_=>bN _|b::r,acc,h=>by simp only[bT,dY];refine bK (C0 (h b (by simp))) λx _=>?_;cases x<;>exact ZP λc e=>h c (by simp[e])
theorem qa{ws:List (Nat×Blk)}{ρ:Ent->Option Nat}: ∀{r:List Nat},(∀b∈r,S b)->Rb S (jR ws ρ (r.map .whole)) st
 |[],_=>bN _
 |b::r,h=>by
  simp only[bT,jR,xZ];refine bK (bK (C0 (h b (by simp))) λx _=>?_) λx _=>bK (qa λc g=>h c (by simp[g])) λl _=>bN _;cases x with
  |box cs=>dsimp only;split<;>first|exact bN _|exact JS
  |arr w e rows=>exact bN _
  |dead=>exact JS
theorem qq{ws:List (Nat×Blk)}{es:List Ent}{new:Nat}: ∀{r:List Nat} {l:List Blk},Rb S (iF ws es new (r.map .whole) l) st
 |[],l=>by cases l<;>exact bN _
 |b::r,[]=>JS
 |b::r,x::l=>by
  simp only[bT,iF];refine bK ?_ λy _=>bK qq λg _=>bN _;cases x with
  |box cs=>simp only[sY];split<;>first|exact bN _|exact JS
  |arr w e rows=>exact bN _
  |dead=>exact JS
theorem qw{ws:List (Nat×Blk)}{es:List Ent}{new:Nat}: ∀{r:List Nat} {l:List Blk} {g:List (Nat×Blk)},(iF ws es new (r.map .whole) l).run st=some g-> ∀y∈g,y.1∈r
 |[],l,g,h,y,j=>by
  have:g=[]:=by cases l<;>(injection h with h;exact h.symm)
  subst this;simp at j
 |b::r,[],g,h,_,_=>by cases h
 |b::r,x::l,g,h,y,j=>by
  simp only[bT,iF]at h;obtain⟨z,h1,h⟩:=bind_some h;obtain⟨k,h2,h⟩:=bind_some h;injection h with h;subst h;rcases eJ.1 j with rfl|j;cases x with
  |box cs=>
   simp only[sY]at h1;split at h1;injection h1 with h1;subst h1;simp;cases h1
  |arr w e rows=>injection h1 with h1;subst h1;simp
  |dead=>cases h1
  exact FW _ (qw h2 y j)
theorem e9{es:List Ent}{new:Nat}: ∀{l:List Blk} {k:Nat} {n:List (Nat×Blk)},gY es new k l=some n-> ∀y∈n,∃j,j<l.length/\y.1=k+j
 |[],k,n,h,y,g=>by injection h with h;subst h;simp at g
 | .dead::l,k,n,h,_,_=>by cases h
 | .box cs::l,k,n,h,y,g=>by
  simp only[gY]at h;split at h;rename_i c q _ o;injection h with h;subst h;rcases eJ.1 g with rfl|g;exact⟨0,by simp,rfl⟩;obtain⟨j,r,e⟩:=e9 o y g;exact⟨j+1,by simp;omega,by omega⟩;cases h
 | .arr w e rows::l,k,n,h,y,g=>by
  simp only[gY]at h;split at h;rename_i q o;injection h with h;subst h;rcases eJ.1 g with rfl|g;exact⟨0,by simp,rfl⟩;obtain⟨j,r,e⟩:=e9 o y g;exact⟨j+1,by simp;omega,by omega⟩;cases h
theorem dl(e x:Ent)(l:List Ent)(h:e∈l):e∈vK x l:=by unfold vK;split<;>simp[h]
mutual
theorem JHz: ∀(x:AV) (l:List Ent) (e:Ent),e∈l->e∈cI x l| .ptr b off,l,e,h=>dl e _ l h| .slr b i n,l,e,h=>dl e _ l h| .ep b g i off,l,e,h=>dl e _ l h| .fn f a c,l,e,h=>entsL_sub c _ e (entsL_sub a l e h)| .agg cs,l,e,h=>entsL_sub cs l e h| .tup cs,l,e,h=>entsL_sub cs l e h| .p _,l,e,h=>h| .data _,l,e,h=>h| .cp _ _,l,e,h=>h| .unk,l,e,h=>h| .pre _ _ _,l,e,h=>h
theorem entsL_sub: ∀(xs:List AV) (l:List Ent) (e:Ent),e∈l->e∈cI.entsOfL xs l|[],l,e,h=>h|x::r,l,e,h=>entsL_sub r _ e (JHz x l e h)
end
theorem nd{ws:List (Nat×Blk)}: ∀{r acc l:List Ent},(dY ws r acc).run st=some l-> ∀e∈acc,e∈l:=by
 intro r
 induction r with
 |nil=>intro acc l h e g;injection h with h;subst h;exact g
 |cons x r ih=>
  intro acc l h e g;cases x with
  |whole b=>
   simp only[dY]at h;obtain⟨y,_,h⟩:=bind_some h;cases y with
   |box cs=>exact ih h e (entsL_sub cs acc e g)
   |_=>exact ih h e g
  |elem b j i=>exact ih h e g
theorem pq{F:Orc}{f:FuncId}{xs:List AV}{ws:List (Nat×Blk)}{r o ids:List Nat}{n new:Nat}(w: ∀b∈ids,S b)(hw: ∀y∈ws,S y.1)(hn: ∀j,j<n->S (new+j))
  (z:cI.entsOfL xs []=r.map .whole) (h1:(dY ws (r.map .whole) (r.map .whole)).run st=some (o.map .whole)) (h2:(dY ws (o.map .whole) (o.map .whole)).run st=some (ids.map .whole)):
  Rb S (fJ F f (xs,ws) n new) st/\(∀e,(fJ F f (xs,ws) n new).run st=some e-> ∀y∈e.ws,S y.1):=by
 have s1: ∀b∈o,S b:=λb q=>by have:=nd h2 (.whole b) (jF.2 ⟨b,q,rfl⟩);obtain⟨c,x,e⟩:=jF.1 this;injection e with e;subst e;exact w c x
 have s0: ∀b∈r,S b:=λb q=>by have:=nd h1 (.whole b) (jF.2 ⟨b,q,rfl⟩);obtain⟨c,x,e⟩:=jF.1 this;injection e with e;subst e;exact s1 c x
 constructor;unfold fJ;simp only[z];refine bK (ZP s0) λa g=>?_;rw[h1]at g;injection g with g;subst g;refine bK (ZP s1) λa g=>?_;rw[h2]at g;injection g with g;subst g;split;split;exact JS;refine bK (qa w) λbl _=>?_;split;exact JS;split;split;exact bK qq λ_ _=>bN _;exact JS;exact JS;exact JS;intro e h y k;unfold fJ at h;simp only[z]at h;obtain⟨a,g,h⟩:=bind_some h;rw[h1]at g;injection g with g;subst g;obtain⟨a,g,h⟩:=bind_some h;rw[h2]at g;injection g with g;subst g;split at h;split at h;cases h;obtain⟨bl,_,h⟩:=bind_some h;split at h;cases h;split at h;rename_i hlen;split at h;rename_i v fresh _ hf;obtain⟨A,q,h⟩:=bind_some h;injection h with h;subst h;simp only[zQ9]at k;rcases k with(k|k)|k;exact hw y k;exact w _ (qw q y k);obtain⟨j,B,e⟩:=e9 hf y k;rw[e];exact hn j (by simp only[lU,eB]at B hlen;omega);cases h;cases h;cases h
end
def tcR:TC->List Nat| .ptr b _=>[b]| .slr b=>[b]| .slo b _=>[b]| .ep b _ _=>[b]| .epo b _ _ _=>[b]| .pre b _=>[b]| .pro b _ _=>[b]| .suf b _=>[b]| .suo b _ _=>[b]|_=>[]
def tvR:TV->List Nat| .a (.c x)=>tcR x| .a (.m _ cs)=>cs.flatMap tcR|_=>[]
theorem JKL(L:Nat->Nat)(x:TC):eC (aX L x)=tcR x:=by cases x<;>rfl
theorem fU(L:Nat->Nat)(v:TV):avR (aR L v)=tvR v:=by
 cases v with
 |a x=>
  cases x with
  |c x=>cases x<;>rfl
  |dt t x=>rfl
  |m t cs=>
   show(cs.map (aX L)).flatMap eC=cs.flatMap tcR;rw[List.flatMap_map]
   congr 1
   funext x;exact JKL L x
  |fn f a c=>rfl
 |tup vs=>rfl
def rng(new:Nat):Nat->List Nat|0=>[]|k+1=>new::rng (new+1) k
theorem rG: ∀{k new j:Nat},j<k->new+j∈rng new k
 |0,_,_,h=>by omega
 |k+1,new,j,h=>by
  cases j with
  |zero=>simp[rng]
  |succ j=>simp only[rng,eJ];right;rw[show new+(j+1)=new+1+j by omega];exact rG (by omega)
def fG{α β:Type}(m:Option α)(f:α->Option β):Option β:=match m with|some x=>f x|none=>none
theorem fL{α β:Type}{m:Option α}{f:α->Option β}{b:β}(h:fG m f=some b): ∃a,m=some a/\f a=some b:=by
 cases m with
 |none=>cases h
 |some a=>exact⟨a,rfl,h⟩
def jo(l:List (TV×Bool))(s:TSt):Option (List Nat):=GS l s λxs s1=>fG (CS xs []) λe=>fG (vG s1 e e) λi1=>vG s1 i1 i1
def tcU(l:List (TV×Bool))(n new:Nat)(s:TSt):Option (List Nat×List Nat):=fG (jo l s) λids=>some (rng new n++(l.flatMap λx=>tvR x.1)++ids,rng new n++(l.flatMap λx=>tvR x.1)++ids)
def tpR(s:TSt):List (Nat×TO)->Option (List Nat)|[]=>some []|(_,o)::r=>fG (tev o s) λv=>fG (tpR s r) λl=>some (tvR v++l)
def uw(op:TOp)(new:Nat)(s:TSt):Option (List Nat×List Nat):=
 match op with
 | .load _ _ x=>fG (tev x s) λv=>some (tvR v,[])
 | .newbox _=>some ([new],[new])
 | .store _ x y=>fG (tev x s) λv=>fG (tev y s) λu=>some (tvR v++tvR u,tvR v++tvR u)
 | .iaddr _ x _=>fG (tev x s) λv=>some (tvR v,[])
 | .lits own t n ps=>fG (tpR s ps) λl=>some (rng new (bW (.lits own t n ps))++l,rng new (bW (.lits own t n ps))++l)
 | .appn _ _ y=>fG (tev y s) λv=>some (new::tvR v,[new])
 | .app _ _ x y=>fG (tev x s) λv=>fG (tev y s) λu=>some (tvR v++tvR u,tvR v)
 | .appp _ _ x y=>fG (tev x s) λv=>fG (tev y s) λu=>some (tvR v++tvR u,tvR v)
 | .ppre _ x y=>fG (tev x s) λv=>some (tvR v,[])
 | .psuf _ x y=>fG (tev x s) λv=>some (tvR v,[])
 | .slice _ x _ _ _=>fG (tev x s) λv=>some (tvR v,tvR v)
 | .call _ args n=>fG (uI (args.map λx=>(x,false)) s) λl=>tcU l n new s
 | .callo _ args n=>fG (uI args s) λl=>tcU l n new s
 | .mkslice own t bytes l c=>some (rng new (bW (.mkslice own t bytes l c)),rng new (bW (.mkslice own t bytes l c)))
 | .conv k x=>fG (tev x s) λv=>some (rng new (bW (.conv k x))++tvR v,rng new (bW (.conv k x)))
 |_=>none
theorem jO{F:Orc}{op:TOp}{new:Nat}{st:St}{S:Nat->Prop}(hd: ∀j,j<bW op->S (new+j))(h:Rb S (opR F (erp op) new) st):Rb S (opD F (erp op) new) st:=by unfold opD;rw[IR];exact bK (E1 hd) λ_ _=>h
theorem jS{F:Orc}{op:AOp}{new:Nat}{st:St}{e:Eff}(h:(opD F op new).run st=some e):(opR F op new).run st=some e:=by unfold opD at h;obtain⟨_,_,h⟩:=bind_some h;exact h
def UW(F:Orc)(op:AOp)(new:Nat)(st:St)(U W:List Nat):Prop:=Rb (· ∈U) (opD F op new) st/\ ∀e,(opD F op new).run st=some e-> ∀y∈e.ws,y.1∈W
theorem gV{x:TO}{s:TSt}{v:TV}(h:tev x s=some v){a:AV}(ha:(ev (erO x)).run (Jy s)=some a):a=aR (lns s.sto) v:=by rw[bP h]at ha;injection ha with ha;exact ha.symm
theorem Cw{l:List (TV×Bool)}{s:TSt}{ids:List Nat}(h:jo l s=some ids): ∃(xs:List AV) (ws:List (Nat×Blk)) (e i1:List Nat),(fC (l.map (·.2)) (l.map λx=>aR (lns s.sto) x.1)).run (Jy s)=some (xs,ws)/\
  cI.entsOfL xs []=e.map .whole/\(dY ws (e.map .whole) (e.map .whole)).run (Jy s)=some (i1.map .whole)/\(dY ws (i1.map .whole) (i1.map .whole)).run (Jy s)=some (ids.map .whole):=by
 unfold jo at h;obtain⟨xs,s1,ws,h1,g,h⟩:=ct (Fzd.refl s) h;rw[uM]at g;obtain⟨e,h2,h⟩:=fL h;obtain⟨i1,k,j⟩:=fL h;exact⟨_,ws,e,i1,h1,QG (lns s.sto) (l:=[]) h2,yV g k,yV g j⟩
theorem JHm{F:Orc}{f:FuncId}{vs:List AV}{n new:Nat}{st:St}{S:Nat->Prop}{a:List AV×List (Nat×Blk)}(ha:(jJ vs).run st=some a)(hr:Rb S (jJ vs) st)
  (h: ∀(_:Unit),Rb S (fJ F f a n new) st):Rb S (hJ F f vs n new) st:=by
 unfold hJ;refine bK hr λo j=>?_;rw[ha]at j;injection j with j;subst j;have h:=h ();unfold fJ at h;intro b g;refine h b ?_
 revert g
 simp only[wI];intro g;rcases zQ9.1 g with g|g;exact zQ9.2 (.inl g);refine zQ9.2 (.inr ?_)
 revert g
 cases(dY a.2 (cI.entsOfL a.1 []) (cI.entsOfL a.1 [])).run st with
 |none=>intro g;exact g
 |some k=>
  simp only[cH,Option.getD_some,wI];intro g;rcases zQ9.1 g with g|g;exact zQ9.2 (.inl g);refine zQ9.2 (.inr ?_)
  revert g
  cases(dY a.2 k k).run st with
  |none=>intro g;exact g
  |some es=>
   simp only[cH,Option.getD_some];split;split;intro g;exact g;simp only[wI];intro g;rcases zQ9.1 g with g|g;exact zQ9.2 (.inl g);refine zQ9.2 (.inr ?_)
   revert g
   cases(jR a.2 (λe=>dG e es 0) es).run st with
   |none=>intro g;exact g
   |some bl=>
    simp only[cH,Option.getD_some];split;intro g;exact g;split;rename_i hlen;rw[if_pos (by omega)];intro g;exact g;intro g;simp[RM.reads]at g
   intro g;exact g
theorem JM3(F:Orc){op:TOp}{new:Nat}{s:TSt}{U W:List Nat}(h:uw op new s=some (U,W)):UW F (erp op) new (Jy s) U W:=by
 unfold uw at h;split at h;rename_i agg t x;obtain⟨v,C,h⟩:=fL h;injection h with h;injection h with h1 h2;subst h1 h2;refine⟨jO (op:=.load agg t x) (λj B=>by simp[bW]at B) (bK (fS _) λa r=>?_),λe g y A=>?_⟩;rw[gV C r];exact JIQ λb w=>by rw[fU]at w;exact w
 have g:=jS g;simp only[erp,opR]at g;obtain⟨a,r,g⟩:=bind_some g;rw[JIG g]at A;simp at A;rename_i t;injection h with h;injection h with h1 h2;subst h1 h2;refine⟨jO (op:=.newbox t) (λj B=>by simp[bW]at B;subst B;simp) (bN _),λe g y A=>?_⟩;have g:=jS g;injection g with g;subst g;simp only[qS]at A;subst A;simp;rename_i t x y;obtain⟨v,C,h⟩:=fL h;obtain⟨u,J,h⟩:=fL h;injection h with h;injection h with h1 h2;subst h1 h2;refine⟨jO (op:=.store t x y) (λj B=>by simp[bW]at B) (bK (fS _) λa r=>bK (fS _) λc E=>?_),λe g z D=>?_⟩;rw[gV C r,gV J E];exact JHi (λb w=>by rw[fU]at w;simp[w]) (λb w=>by rw[fU]at w;simp[w]);have g:=jS g;simp only[erp,opR]at g;obtain⟨a,r,g⟩:=bind_some g;obtain⟨c,E,g⟩:=bind_some g;have:=JHQ g z D;rwa[gV C r,gV J E,fU,fU]at this;rename_i t x i;obtain⟨v,C,h⟩:=fL h;injection h with h;injection h with h1 h2;subst h1 h2;refine⟨jO (op:=.iaddr t x i) (λj B=>by simp[bW]at B) (bK (fS _) λa r=>bK (fS _) λc E=>?_),λe g y A=>?_⟩;rw[gV C r];exact JFD λb w=>by rw[fU]at w;exact w
 have g:=jS g;simp only[erp,opR]at g;obtain⟨a,r,g⟩:=bind_some g;obtain⟨c,E,g⟩:=bind_some g;rw[JHM g]at A;simp at A;rename_i own t n ps;obtain⟨l,hl,h⟩:=fL h;injection h with h;injection h with h1 h2;subst h1 h2;have P: ∀x∈ps.map (λx=>erO x.2),∀v,(ev x).run (Jy s)=some v-> ∀b∈avR v,b∈rng new (bW (.lits own t n ps))++l:=by
  have V: ∀(ps:List (Nat×TO)) (l:List Nat),tpR s ps=some l-> ∀x∈ps.map (λx=>erO x.2),∀v,(ev x).run (Jy s)=some v-> ∀b∈avR v,b∈l:=by
   intro ps
   induction ps with
   |nil=>intro l _ x G;simp at G
   |cons p ps ih=>
    intro l hl x G v C b w;obtain⟨i,o⟩:=p;simp only[tpR]at hl;obtain⟨u,J,hl⟩:=fL hl;obtain⟨q,hq,hl⟩:=fL hl;injection hl with hl;subst hl;simp only[bT,eJ]at G;rcases G with rfl|G;rw[gV J C,fU]at w;simp[w];simp[ih q hq x G v C b w]
  intro x G v C b w;exact zQ9.2 (.inr (V ps l hl x G v C b w))
 have I:(ps.map λx=>(x.1,erO x.2)).map (·.2)=ps.map λx=>erO x.2:=by simp
 refine⟨jO (op:=.lits own t n ps) (λj B=>zQ9.2 (.inl (rG B))) ?_,λe g y A=>?_⟩;simp only[erp,opR,I];refine bK (Ca P) λa _=>?_;split;split<;>exact bN _
 exact JS;have g:=jS g;simp only[erp,opR,I]at g;obtain⟨a,r,g⟩:=bind_some g;split at g;split at g;rename_i L;injection g with g;subst g;simp only[zQ9,qS]at A;rcases A with A|rfl;exact YC P r y A;exact zQ9.2 (.inl (by have:=rG (k:=bW (.lits own t n ps)) (new:=new) (j:=0) (by simp[bW,L]);simpa using this));injection g with g;subst g;exact YC P r y A;cases g;rename_i t bytes y;obtain⟨v,C,h⟩:=fL h;injection h with h;injection h with h1 h2;subst h1 h2;refine⟨jO (op:=.appn t bytes y) (λj B=>by simp[bW]at B;subst B;simp) (bK (fS _) λa r=>?_),λe g z D=>?_⟩;rw[gV C r];refine bK (OX λb w=>by rw[fU]at w;simp[w]) λrows _=>?_;split<;>first|exact bN _|exact JS
 have g:=jS g;simp only[erp,opR]at g;obtain⟨a,r,g⟩:=bind_some g;obtain⟨rows,_,g⟩:=bind_some g;split at g;injection g with g;subst g;simp only[qS]at D;subst D;simp;cases g;rename_i t bytes x y;obtain⟨v,C,h⟩:=fL h;obtain⟨u,J,h⟩:=fL h;injection h with h;injection h with h1 h2;subst h1 h2;refine⟨jO (op:=.app t bytes x y) (λj B=>by simp[bW]at B) (bK (fS _) λa r=>bK (fS _) λc E=>?_),λe g z D=>?_⟩;rw[gV C r,gV J E];exact JLh (λb w=>by rw[fU]at w;simp[w]) (λb w=>by rw[fU]at w;simp[w]);have g:=jS g;simp only[erp,opR]at g;obtain⟨a,r,g⟩:=bind_some g;obtain⟨c,E,g⟩:=bind_some g;have:=JKe g z D;rwa[gV C r,fU]at this;rename_i t bytes x y;obtain⟨v,C,h⟩:=fL h;obtain⟨u,J,h⟩:=fL h;injection h with h;injection h with h1 h2;subst h1 h2;refine⟨jO (op:=.appp t bytes x y) (λj B=>by simp[bW]at B) (bK (fS _) λa r=>bK (fS _) λc E=>?_),λe g z D=>?_⟩;rw[gV C r,gV J E];exact JKp (λb w=>by rw[fU]at w;simp[w]) (λb w=>by rw[fU]at w;simp[w]);have g:=jS g;simp only[erp,opR]at g;obtain⟨a,r,g⟩:=bind_some g;obtain⟨c,E,g⟩:=bind_some g;have:=JKN g z D;rwa[gV C r,fU]at this;rename_i t x y;obtain⟨v,C,h⟩:=fL h;injection h with h;injection h with h1 h2;subst h1 h2;refine⟨jO (op:=.ppre t x y) (λj B=>by simp[bW]at B) (bK (fS _) λa r=>bK (fS _) λc E=>?_),λe g z D=>?_⟩;rw[gV C r];exact JLr (λb w=>by rw[fU]at w;simp[w]);have g:=jS g;simp only[erp,opR]at g;obtain⟨a,r,g⟩:=bind_some g;obtain⟨c,E,g⟩:=bind_some g;rw[JKU g]at D;cases D;rename_i t x y;obtain⟨v,C,h⟩:=fL h;injection h with h;injection h with h1 h2;subst h1 h2;refine⟨jO (op:=.psuf t x y) (λj B=>by simp[bW]at B) (bK (fS _) λa r=>bK (fS _) λc E=>?_),λe g z D=>?_⟩;rw[gV C r];exact JLu (λb w=>by rw[fU]at w;simp[w]);have g:=jS g;simp only[erp,opR]at g;obtain⟨a,r,g⟩:=bind_some g;obtain⟨c,E,g⟩:=bind_some g;rw[JKh g]at D;cases D;rename_i kd x lo hi mx;obtain⟨v,C,h⟩:=fL h;injection h with h;injection h with h1 h2;subst h1 h2;refine⟨jO (op:=.slice kd x lo hi mx) (λj B=>by simp[bW]at B) (bK (fS _) λa r=>bK (XI _) λ_ _=>bK (XI _) λ_ _=>bK (XI _) λ_ _=>?_),λe g z D=>?_⟩;have e:=gV C r;split;refine bK (GN λb w=>?_) λy _=>?_;rw[e,fU]at w;exact w;split;split<;>first|exact bN _|exact JS
 exact JS;exact OD _;have g:=jS g;simp only[erp,opR]at g;obtain⟨a,r,g⟩:=bind_some g;obtain⟨_,_,g⟩:=bind_some g;obtain⟨_,_,g⟩:=bind_some g;obtain⟨_,_,g⟩:=bind_some g;have Z:=gV C r;split at g;obtain⟨y,A,g⟩:=bind_some g;split at g;split at g;injection g with g;subst g;have:=GI A z D;rwa[Z,fU]at this;cases g;cases g;rw[OA g]at D;simp at D;rename_i f args n;obtain⟨l,hl,h⟩:=fL h;unfold tcU at h;obtain⟨ids,hi,h⟩:=fL h;injection h with h;injection h with h1 h2;subst h1 h2;obtain⟨xs,ws,i0,i1,H,T,Q,O⟩:=Cw hi;obtain⟨I,R⟩:=yQ hl;rw[PG]at I;rw[KW _ _ (λx G=>by rw[R,xX]at G;obtain⟨y,_,rfl⟩:=jF.1 G;rfl)]at H;have hA: ∀x∈l.map (λx=>aR (lns s.sto) x.1),∀b∈avR x,b∈rng new n++(l.flatMap λx=>tvR x.1)++ids:=by intro x G b w;obtain⟨y,A,rfl⟩:=jF.1 G;rw[fU]at w;simp only[zQ9];exact .inl (.inr (List.mem_flatMap.2 ⟨y,A,w⟩))
 have Y:Rb (· ∈rng new n++(l.flatMap λx=>tvR x.1)++ids) (jJ (l.map λx=>aR (lns s.sto) x.1)) (Jy s):=by rw[<-QR];exact IY hA
 have K: ∀y∈ws,y.1∈rng new n++(l.flatMap λx=>tvR x.1)++ids:=by rw[<-QR]at H;exact KB (S:=(· ∈rng new n++(l.flatMap λx=>tvR x.1)++ids)) hA H
 obtain⟨M,N⟩:=pq (F:=F) (f:=f) (S:=(· ∈rng new n++(l.flatMap λx=>tvR x.1)++ids)) (n:=n) (new:=new) (λb w=>by simp[w]) K
  (λj B=>by simp only[zQ9];exact .inl (.inl (rG B))) T Q O
 refine⟨jO (op:=.call f args n) (λj B=>by simp only[zQ9];exact .inl (.inl (rG B))) (bK (YO _) λa r=>?_),λe g y A=>?_⟩;rw[I]at r;injection r with r;subst r;exact JHm H Y λ_=>M;have g:=jS g;simp only[erp,opR]at g;obtain⟨a,r,g⟩:=bind_some g;rw[I]at r;injection r with r;subst r;obtain⟨ar,h1,h2⟩:=Dw g;rw[H]at h1;injection h1 with h1;subst h1;exact N e h2 y A;rename_i f args n;obtain⟨l,hl,h⟩:=fL h;unfold tcU at h;obtain⟨ids,hi,h⟩:=fL h;injection h with h;injection h with h1 h2;subst h1 h2;obtain⟨xs,ws,i0,i1,H,T,Q,O⟩:=Cw hi;obtain⟨I,R⟩:=yQ hl;have hA: ∀x∈l.map (λx=>aR (lns s.sto) x.1),∀b∈avR x,b∈rng new n++(l.flatMap λx=>tvR x.1)++ids:=by intro x G b w;obtain⟨y,A,rfl⟩:=jF.1 G;rw[fU]at w;simp only[zQ9];exact .inl (.inr (List.mem_flatMap.2 ⟨y,A,w⟩))
 rw[R]at H;have K: ∀y∈ws,y.1∈rng new n++(l.flatMap λx=>tvR x.1)++ids:=KB (S:=(· ∈rng new n++(l.flatMap λx=>tvR x.1)++ids)) hA H;obtain⟨M,N⟩:=pq (F:=F) (f:=f) (S:=(· ∈rng new n++(l.flatMap λx=>tvR x.1)++ids)) (n:=n) (new:=new) (λb w=>by simp[w]) K
  (λj B=>by simp only[zQ9];exact .inl (.inl (rG B))) T Q O
 refine⟨jO (op:=.callo f args n) (λj B=>by simp only[zQ9];exact .inl (.inl (rG B))) (bK (YO _) λa r=>?_),λe g y A=>?_⟩;rw[I]at r;injection r with r;subst r;refine bK (IY hA) λa r=>?_;rw[H]at r;injection r with r;subst r;exact M;have g:=jS g;simp only[erp,opR]at g;obtain⟨a,r,g⟩:=bind_some g;rw[I]at r;injection r with r;subst r;obtain⟨a,r,g⟩:=bind_some g;rw[H]at r;injection r with r;subst r;exact N e g y A;rename_i own t bytes l c;injection h with h;injection h with h1 h2;subst h1 h2;refine⟨jO (op:=.mkslice own t bytes l c) (λj B=>rG B) (bK (fS _) λa r=>bK (fS _) λd hd=>?_),λe g y A=>?_⟩;split;split;split<;>exact bN _
 exact JS;exact JS;have g:=jS g;simp only[erp,opR]at g;obtain⟨a,r,g⟩:=bind_some g;obtain⟨d,hd,g⟩:=bind_some g;split at g;split at g;split at g;rename_i L;injection g with g;subst g;simp only[qS]at A;subst A;have:=rG (k:=bW (.mkslice own t bytes l c)) (new:=new) (j:=0) (by simp[bW,L]);simpa using this;injection g with g;subst g;simp at A;cases g;cases g;rename_i k x;obtain⟨v,C,h⟩:=fL h;injection h with h;injection h with h1 h2;subst h1 h2;refine⟨jO (op:=.conv k x) (λj B=>zQ9.2 (.inl (rG B))) (bK (fS _) λa r=>?_),λe g y A=>?_⟩;have hr: ∀b∈avR a,b∈rng new (bW (.conv k x))++tvR v:=λb w=>by rw[gV C r,fU]at w;simp[w]
 split;exact bN _;exact bN _;refine bK (OX hr) λrows _=>?_;split<;>first|exact bN _|exact JS
 split<;>exact bN _
 exact JS;have g:=jS g;simp only[erp,opR]at g;obtain⟨a,r,g⟩:=bind_some g;split at g;injection g with g;subst g;simp at A;injection g with g;subst g;simp at A;obtain⟨rows,_,g⟩:=bind_some g;split at g;injection g with g;subst g;simp at A;cases g;split at g;rename_i L;injection g with g;subst g;simp only[qS]at A;subst A;simp[bW,L,rng];injection g with g;subst g;simp at A;cases g;cases h
abbrev oL:=Option (List Nat×List Nat)
section
variable {R:Type}
def Ac(i:iN)(s:TSt):Bool:=match i.g with|none=>false|some (g,e)=>if i.dst=some g then false else match tlk g s.env with|some (.a (.c (.d .b x)))=>if x=e then false else true|some (.tup [])=>true|_=>false
def uwI(i:iN)(new:Nat)(s s':TSt):oL:=if Ac i s'=true then some ([],[])else uw i.op new s
def NG(G:TG):List iN->Nat->TSt->List oL->(TSt->List oL->Option R)->Option R|[],_,s,l,k=>k s l|i::r,new,s,l,k=>SS G i new s λs'=>NG G r (new+bW i.op) s' (l++[uwI i new s s']) k
def sR:oL->(List Nat×List Nat)->Prop|none,_=>True|some (U,W),x=>(∀b∈x.1,b∈U)/\ ∀b∈x.2,b∈W
def MR(l:List oL):List (Nat×Nat)->Bool
 |[]=>true
 |(i,j)::r=>(match l[i]?,l[j]? with
  |some (some a),some (some b)=>fZ a.2 b.1&&fZ a.2 b.2&&fZ a.1 b.2
  |_,_=>false)&&MR l r
theorem KP{b:Nat}: ∀{l:List Loc},b∈iW l->Loc.blk b∈l
 | .blk c::r,h=>by
  simp only[iW,eJ]at h;rcases h with rfl|h;simp;simp[KP h]
 | .slot n::r,h=>by simp only[iW]at h;simp[KP h]
theorem sR.snoc{l:List oL}{l0:Log}{x:oL}{y:List Nat×List Nat}(hl:l.length=l0.length)(ho: ∀(j:Nat) a b,l[j]?=some a->l0[j]?=some b->sR a b)(hx:sR x y)(j:Nat)(a:oL)(b:List Nat×List Nat)(ha:(l++[x])[j]?=some a)(hb:(l0++[y])[j]?=some b):sR a b:=by
 rcases zQ3 j l.length with g|g;rw[qK g]at ha;rw[qK (by omega)]at hb;exact ho j a b ha hb;rw[mX g]at ha;rw[mX (by omega)]at hb;have e:j-l.length=0:=by have:=Jq ha;simp at this;omega
 rw[e]at ha;rw[<-hl,e]at hb;simp at ha hb;subst ha hb;exact hx
theorem JJn{F:Orc}{i:iN}{new:Nat}{s s':TSt}{e:Eff}(h:(bZ F (eri i) new).run (Jy s)=some e)(hp:put i.dst e (Jy s)=Jy s'):sR (uwI i new s s') (iW ((bZ F (eri i) new).reads (Jy s)),e.ws.map (·.1)):=by
 unfold uwI;split;rename_i k;unfold Ac at k;split at k;cases k;rename_i g n C;split at k;cases k;rename_i G;have B:lk g (Jy s').env=lk g (Jy s).env:=(by rw[<-hp];unfold put;split;rename_i d A;show lk g ((d,e.val)::(Jy s).env)=_;simp only[lk];rw[if_neg (λE=>G (by rw[A,E]))];rfl);have q: ∀v,tlk g s'.env=some v->lk g (Jy s).env=some (aR (lns s'.sto) v):=λv w=>by rw[<-B];show lk g (fI _ s'.env)=_;rw[yM,w];rfl
 split at k;rename_i x r;split at k;cases k;rename_i D;have hl:=q _ r;rw[e_b]at hl;have hi:bZ F (eri i) new=.slot g fun
  | .p (.b x)=>if x=n then opD F (eri i).op new else .ret ⟨gJ,[]⟩
  | .tup []=>.ret ⟨gJ,[]⟩
  |_=>.fail:=by unfold bZ;rw[show(eri i).g=i.g from rfl,C];rfl
 rw[hi]at h⊢;refine⟨λb j=>?_,λb j=>?_⟩;have:=KP j;simp only[RM.reads,hl,eJ,if_neg D]at this;rcases this with this|this;cases this;simp at this;simp only[wB,hl,Jv,if_neg D,JW]at h;injection h with h;subst h;exact j;rename_i r;have hl:=q _ r;have hl:lk g (Jy s).env=some (.tup []):=hl;have hi:bZ F (eri i) new=.slot g fun
  | .p (.b x)=>if x=n then opD F (eri i).op new else .ret ⟨gJ,[]⟩
  | .tup []=>.ret ⟨gJ,[]⟩
  |_=>.fail:=by unfold bZ;rw[show(eri i).g=i.g from rfl,C];rfl
 rw[hi]at h⊢;refine⟨λb j=>?_,λb j=>?_⟩;have:=KP j;simp only[RM.reads,hl,eJ]at this;rcases this with this|this;cases this;simp at this;simp only[wB,hl,Jv,JW]at h;injection h with h;subst h;exact j;cases k;cases hu:uw i.op new s with
 |none=>trivial
 |some z=>
  obtain⟨U,W⟩:=z;obtain⟨h1,h2⟩:=JM3 F hu;have H:Rb (· ∈U) (bZ F (eri i) new) (Jy s):=(by unfold bZ;split;exact h1;refine D2 λv w=>?_;split;split;exact h1;exact bN _;exact bN _;exact JS);refine⟨λb j=>H b (KP j),λb j=>?_⟩;obtain⟨y,o,rfl⟩:=jF.1 j;unfold bZ at h;split at h;exact h2 e h y o;simp only[wB]at h;obtain⟨v,w,h⟩:=aU.1 h;split at h;split at h;exact h2 e h y o;injection h with h;subst h;simp at o;injection h with h;subst h;simp at o;cases h
theorem ni{F:Orc}{G:TG}(v:GOk F G): ∀{ins:List iN} {new:Nat} {s:TSt} {l:List oL} {l0:Log} {k:TSt->List oL->Option R} {r:R},l.length=l0.length->(∀(j:Nat) a b,l[j]?=some a->l0[j]?=some b->sR a b)->
  NG G ins new s l k=some r-> ∃s' n g,iU F (ins.map eri) new (Jy s) l0=some (Jy s',n)/\k s' g=some r/\g.length=n.length/\ ∀(j:Nat) a b,g[j]?=some a->n[j]?=some b->sR a b
 |[],new,s,l,l0,k,r,hl,o,h=>⟨s,l0,l,rfl,h,hl,o⟩
 |i::q,new,s,l,l0,k,r,hl,o,h=>by simp only[NG]at h;obtain⟨e,s1,h1,h2,h⟩:=Ew v h;obtain⟨w,n,g,A,y,z,x⟩:=ni v (l0:=l0++[(iW ((bZ F (eri i) new).reads (Jy s)),e.ws.map (·.1))]) (by rw[cN,cN,hl];rfl) (sR.snoc hl o (JJn h1 h2)) h;refine⟨w,n,g,?_,y,z,x⟩;simp only[bT,iU,h1];rw[show put (eri i).dst e (Jy s)=Jy s1 from h2,show kL (eri i).op=bW i.op from IR _,A]
theorem df{a b e g:List Nat}(h:fZ e g=true)(ha: ∀x∈a,x∈e)(hb: ∀x∈b,x∈g):fZ a b=true:=by unfold fZ at h⊢;rw[SH]at h⊢;intro x k;have:=h x (ha x k);simp only[lO,List.contains_eq_mem,decide_eq_false_iff_not]at this⊢;exact λj=>this (hb x j)
theorem m6{l:List oL}{e:Log}(hl:l.length=e.length)(ho: ∀(j:Nat) a b,l[j]?=some a->e[j]?=some b->sR a b): ∀{ps:List (Nat×Nat)},MR l ps=true->DG e ps=true
 |[],_=>rfl
 |(i,j)::r,h=>by
  simp only[MR,JX]at h;obtain⟨h1,h2⟩:=h;simp only[DG,JX];refine⟨?_,m6 hl ho h2⟩;split at h1;rename_i a b o q;have hi:i<e.length:=by have:=Jq o;omega
  have n:j<e.length:=by have:=Jq q;omega
  have g:=ho i _ _ o (aS hi);have k:=ho j _ _ q (aS n);rw[aS hi,aS n];simp only[JX]at h1⊢;exact⟨⟨df h1.1.1 g.2 k.1,df h1.1.2 g.2 k.2⟩,df h1.2 g.1 k.2⟩;cases h1
def jh(G:TG)(pairs:List (Nat×Nat))(ins:List iN)(s:TSt)(k:TSt->Option R):Option R:=
 match pairs with
 |[]=>UF G ins s.sto.length (MX (GY ins) s) k
 |p::ps=>NG G ins s.sto.length (MX (GY ins) s) [] λs' l=>if MR l (p::ps)=true then k s' else none
theorem JJu{F:Orc}{G:TG}(e:GOk F G){pairs:List (Nat×Nat)}{ins:List iN}{s:TSt}{k:TSt->Option R}{r:R}(h:jh G pairs ins s k=some r): ∃s',region F pairs (ins.map eri) (Jy s)=some (Jy s')/\k s'=some r:=by
 have hlen:(Jy s).sto.length=s.sto.length:=by simp[Jy]
 unfold jh at h;split at h;obtain⟨s',h1,h2⟩:=Ea e h;refine⟨s',?_,h2⟩;simp only[region,dg];rw[ny]at h1;rw[hlen];exact h1;obtain⟨s',w,v,h1,h2,o,g⟩:=ni e (l0:=[]) rfl (λj a b q x=>by simp at q) h;split at h2;rename_i n;refine⟨s',?_,h2⟩;simp only[region,dg];rw[ny]at h1;rw[hlen,h1];simp only[m6 o g n,if_true];cases h2
end
end Go.Am
end
