/-
  Parts of a proof.
-/
import Derived.Test.YtknpcflejohnoaaGreatM3
import Derived.Test.YtknpcflejohnoaaGreatM5
set_option linter.unusedSimpArgs false
set_option linter.unusedVariables false
section
namespace Go.Am
set_option linter.unusedVariables false
set_option maxRecDepth 20000
set_option maxHeartbeats 1000000
theorem JJA{B S:Int}{e:J5}(h:Ty.fit B S J8 e)(hv:Js e=some true)(j:0<=B)(g:0<=S):0<=e.2.2.2.2.2.2.1.1/\e.2.2.2.2.2.2.1.1<64:=by have:=(rU h hv rfl j g).1;omega
theorem JEI{l:Jt}(hf:Ty.fit 16384 1073741824 Jy l)(hv:JB l=some true):Tot (VB l) λy=>J0 y=64/\Ty.fit 64 0 (.l (.i .i64)) y:=by
 obtain⟨_,E,h⟩:=IW hv;unfold VB;refine .bind (hC hv) λK w=>.not (λc=>by rw[w]at c;cases c) λ_=>.bind (yA (t:=.i .i64) (B:=64) (S:=0) (cS .i64 0)) λx h3=>Jq (τ:=Int×List Int) (λq=>(q.1,l,q.2)) (λq=>0<=q.1/\q.1<=J0 l.2.1/\J0 q.2=64/\Ty.fit 64 0 (.l (.i .i64)) q.2) (λq=>J0 l.2.1-q.1) ?_ (0,x) rfl ⟨aZ _,Jh,h3.2,h3.1⟩;rintro⟨i,j⟩ ⟨h0,h1,h2,g⟩
 (try dsimp only at h0 h1 h2 g)
 unfold wx;dsimp only;have o:=Jm i 1;refine .lt (λc=>?_) λ_=>.some ⟨h2,g⟩;obtain⟨e,k,v⟩:=KK (l:=l.2.1) h0 c;have D:=h _ e v;have n:Ty.fit 16384 1073741824 J8 e:=hf.2.1.2 e (zQ5 v);have r:=JJA n D.2 (by decide) (by decide);refine .bind (hC k) λI A=>?_;subst A;refine .bind (hC (EY _)) λJ G=>.ite (λ_=>?_) λ_=>.some ⟨(J1 .i64 i 1,j),rfl,⟨om,om,h2,g⟩,om,om⟩;refine .bind (hC k) λF z=>.bind (hC k) λH C=>?_;subst z;subst C;refine .bind (fB r.1 (by omega)) λ_ _=>.bind (jG g r.1 (by show _<J0 j;omega)) λ_ _=>.some ⟨(J1 .i64 i 1,aW j _ _),rfl,⟨om,om,pJ.trans h2,kL g n.1⟩,om,om⟩
theorem JH8{l:Jt}(h1:1<=l.1)(h2:l.1<=1099511627776)(h3:J0 l.2.1<=4096)(h4:l.1-1<=l.2.2)(h5:l.2.2<=l.1+J0 l.2.1-1)(he: ∀(i:Nat) e,l.2.1[i]?=some e->e.1=l.1+i/\Js e=some true):Par (JB l) λy=>y=true:=by
 unfold JB;have o:=bC l.1 1;have v:0<=J0 l.2.1:=Jh;refine .ltf (λ_=>.gtf (λ_=>.gtf (λ_=>.ltf (λ_=>.bind λE r=>?_) λc=>by omega) λc=>by omega) λc=>by omega) λc=>by omega
 have F:=yR r h1 h2 h3;refine .gt (λc=>by omega) λ_=>.while (λz=>z.2=l/\0<=z.1/\z.1<=J0 l.2.1) ⟨rfl,aZ _,v⟩ ?_;rintro⟨i,l'⟩ ⟨rfl,h0,D⟩
 (try dsimp only at*)
 have A:=Jm l'.1 i;have w:=Jm i 1;unfold wX;have g: ∀{e},idx l'.2.1 i=some e->e.1=l'.1+i/\Js e=some true:=fun{e} h=>by unfold idx at h;rw[if_pos h0]at h;have k:=he _ e h;exact⟨by have:=k.1;omega,k.2⟩
 refine .lt (λc=>.bind λC n=>.nef (λ_=>.bind λx q=>.bind λB j=>.not (λd=>?_) λ_=>.some ⟨rfl,om,by(try dsimp only at*);omega⟩) λd=>?_) λ_=>.some rfl;have:=(g q).2;rw[j]at this;cases this;cases d;have:=(g n).1;exact absurd this (by(try dsimp only at d);omega)
theorem JKP{l:Jt}{n:Int}(hv:Par (JB l) λv=>v=true)(h1:l.1=1)(h2:l.2.2<=J0 l.2.1)(h3:J0 l.2.1<=4096)(hn:1<=n)(E:n<=l.2.2+1):Par (wK (l,n)) λy=>Par (JB y.1) λv=>v=true:=by
 unfold wK;refine .bind λv h=>?_;have e:=hv _ h;subst e
 (try dsimp only at h)
 obtain⟨_,F,j⟩:=IW h;have G:=bC n l.1;refine .not (λc=>by cases c) λ_=>.ltf (λ_=>.bind λr D=>?_) λc=>by(try dsimp only at c);omega
 have C:=yR D (om) (om) h3
 (try dsimp only at C)
 have H:=Jm r 1;have I:=Jm l.2.2 1;refine .gtf (λ_=>.gt (λc=>by(try dsimp only at c);omega) λ_=>.gt (λc=>by(try dsimp only at c);omega) λ_=>.bind λz x=>.bind λw g=>.some ?_) λc=>by(try dsimp only at c);omega
 have B:=(IX (l:=l.2.1) (k:=JJ .i64 n l.1) (by omega) (by omega)).get x;have q:w=z:=(by unfold cZ at g;split at g;injection g with g;exact g.symm;cases g);subst q;refine JH8 hn (om) (om) (om) (om) λi e hi=>?_
 (try dsimp only at hi⊢)
 rw[B.1,TL]at hi;obtain⟨o,A⟩:=j _ e hi;exact⟨by rw[o];omega,A⟩
theorem Cj{l:Jt}(hi:gT l)(hc:eY l.2.1){c:iO}(hf:Ty.fit 16384 1073741824 J3 c.2)(h0:0<=c.2.2):Par (if aH c.1 0=true then(if aQ l.2.2 l.1=true then(J6 (J1 .i64 (JJ .i64 l.2.2 l.1) 2,c.2)).bind λe=>(wK (l,J1 .i64 l.1 e.1)).bind λj=>some (j.1,e.2)else some (l,c.2))else some (l,c.2)) λy=>Par (JB y.1) λv=>v=true:=by
 have g:=YS hi hc;obtain⟨i1,i2,i3,i4⟩:=hi;refine .eq (λ_=>.ge (λd=>.bind λe k=>.bind λj n=>.some ?_) λ_=>.some g) λ_=>.some g;have q:=bC l.2.2 l.1;have o:=Jm (JJ .i64 l.2.2 l.1) 2;have r:=Jm l.1 e.1;have h:=(J4 (B:=16384) (S:=1073741824) (X:=(J1 .i64 (JJ .i64 l.2.2 l.1) 2,c.2)) ⟨Je,hf⟩ h0).get k;have a:=h.2.2.1 (om);have b:=h.2.1
 (try dsimp only at a b)
 exact JKP g i1 i3 i4 (by omega) (by omega) _ n
theorem JEf{c:Jk}(hf:Ty.fit 16384 1073741824 J3 c)(h0:0<=c.2):Par (FX (24,c)) λy=>Par (JB y.1) λv=>v=true:=by
 unfold FX;refine .bind λe h2=>.bind λk h3=>?_;have g:=JGL hf h0 h2;have r:=(ym (B:=16384) (S:=1073741824) (X:=(24,true,c)) ⟨cS .i64 24,trivial,hf⟩ h0 (by show(0:Int)<=24;decide) (by show(24:Int)<=1000;decide)).get h2;have C:Ty.fit 16384 1073741824 J3 e.2:=r.1.2;have h:=(J4 (B:=16384) (S:=1073741824) (X:=(2,e.2)) ⟨cS .i64 2,C⟩ r.2).get h3;refine .eq (λ_=>.bind λq G=>.bind λJ w=>.bind λK E=>?_) λ_=>.bind λL F=>?_;have M:q=J0 e.1.2.2.1.2.1:=by
  have A:Par (rG e.1.2.2.1) λy=>y=J0 e.1.2.2.1.2.1:=by unfold rG;refine .bind λv I=>.not (λc=>by rw[YS g.1 g.2.1 _ I]at c;cases c) λ_=>.bind λm H=>.some ?_;obtain⟨i1,i2,i3,i4⟩:=g.1;have:=yR H (by omega) (by omega) i4;omega
  exact A _ G
 have x:=oq g.1 g.2.1 (n:=q) (by omega) _ w;obtain⟨z,D⟩:=RD w x;have j:=(J4 (B:=16384) (S:=1073741824) (X:=(5,k.2)) ⟨cS .i64 5,h.1.2⟩ h.2.2.2).get E;exact Cj (D g.1) (by rw[z];exact g.2.1) j.1.2 j.2.2.2;have o:=(J4 (B:=16384) (S:=1073741824) (X:=(5,k.2)) ⟨cS .i64 5,h.1.2⟩ h.2.2.2).get F;exact Cj g.1 g.2.1 o.1.2 o.2.2.2
theorem JIJ{c:Jk}{n:Int}:Par (GA (n,c)) λy=>y.1.1=n:=by
 unfold GA;refine .bind λj _=>.bind λg _=>.eq (λ_=>.bind λk _=>.gt (λ_=>.bind λe _=>.while (λz=>z.2.2.2.1=n) rfl ?_) λ_=>.some rfl) λ_=>.gt (λ_=>.bind λe _=>.while (λz=>z.2.2.2.1=n) rfl ?_) λ_=>.some rfl;intro z h;unfold yk;exact .gt (λ_=>.bind λ_ _=>.bind λ_ _=>.bind λ_ _=>.bind λ_ _=>.some h) λ_=>.some h;intro z h;unfold yi;exact .gt (λ_=>.bind λ_ _=>.bind λ_ _=>.bind λ_ _=>.bind λ_ _=>.some h) λ_=>.some h
end Go.Am
end
section
namespace Go.Am
set_option linter.unusedVariables false
set_option maxRecDepth 20000
set_option maxHeartbeats 1000000
def CE(p:Ji):Prop:=Ty.fit 16384 9223372036854775807 Jd p
def SV(e:J5):Prop:=Ty.fit 16384 9223372036854775807 J8 e
def jk(l:Jt):Prop:=Ty.fit 16384 1073741824 Jy l
theorem A2{z:List UInt8}(h:Ty.inR .s z):Ty.fit 16384 9223372036854775807 .s z:=by have h2:z.length<=maxLen:=h;show J0 z<=9223372036854775807;unfold J0;simp only[maxLen]at h2;omega
theorem oO{z B S:Int}(h:Ty.inR (.i .i64) z):Ty.fit B S (.i .i64) z:=by rw[J2];simpa[Ty.inR,IntKind.min,IntKind.max,IntKind.signed,IntKind.bits]using h
theorem lx{c:dG}(h:Ty.inR Jr c):Ty.fit 16384 9223372036854775807 Jr c:=⟨trivial,A2 h.2⟩
theorem JEU{p:Ji}(h:Ty.inR Jd p):CE p:=⟨oO h.1,oO h.2.1,λi hi=>lx (h.2.2 i hi)⟩
theorem JDf{e:J5}(h:Ty.inR J8 e):SV e:=
 ⟨oO h.1,oO h.2.1,oO h.2.2.1,oO h.2.2.2.1,oO h.2.2.2.2.1,oO h.2.2.2.2.2.1,⟨oO h.2.2.2.2.2.2.1.1,oO h.2.2.2.2.2.2.1.2.1,lx h.2.2.2.2.2.2.1.2.2.1,lx h.2.2.2.2.2.2.1.2.2.2⟩,A2 h.2.2.2.2.2.2.2⟩
theorem JGy{y:Ji}{z:J5}(hy:CE y)(hz:SV z): ∃r,wP (y,z)=some r/\iK (y,z)=some r:=by obtain⟨r,e,_⟩:=UR (B:=16384) (S:=9223372036854775807) (X:=(y,z)) ⟨hy,hz⟩ (by decide) (by decide);exact⟨r,(QG (y,z) (NW hy (by decide) (by decide))).trans e,e⟩
theorem JFq{m:Jt}{y:Ji}{n:Int}(hm:jk m)(hy:CE y)(hn:Ty.fit 0 0 (.i .i64) n):
  (∃r,MB (m,y,n)=some r/\pU (m,y,n)=some r)/\ ∃r,ME (m,y,n)=some r/\BD (m,y,n)=some r:=by
 have g:Ty.fit 16384 9223372036854775807 GZ (m,y,n):=⟨hm.up (by decide) (by decide),hy,hn⟩;have C:=J2.1 hn;obtain⟨b1,b2⟩:=JED (m,y,n) CE (λq h=>NW h (by decide) (by decide)) hy (om) (λx w q e r h z A=>by have k:=(u0 (B:=16384) (S:=9223372036854775807) g (by decide) (by decide) (by decide)).get w;have v:=(UR (B:=16384) (S:=9223372036854775807) (X:=(q,e)) ⟨h,(k.1.2 e z).up (by decide) (by decide)⟩ (by decide) (by decide)).get A;exact v.1.up (by decide) (by decide));obtain⟨r,e,_⟩:=th (B:=16384) (S:=9223372036854775807) g (by decide) (by decide) (by decide);obtain⟨o,j,_⟩:=Q5 (B:=16384) (S:=9223372036854775807) g (by decide) (by decide) (by decide);exact⟨⟨r,b1.trans e,e⟩,o,b2.trans j,j⟩
theorem JGA{l:List Int}{n:Int}(h0:0<=n){y:Jk}(e:zL (l,n)=some y):y.2=0/\J0 y.1<=n:=by
 have g:Par (zL (l,n)) λy=>y.2=0/\J0 y.1<=n:=by unfold zL;exact .gt (λc=>.bind λr h=>.some ⟨rfl,by have:=(TU (l:=l) (k:=n) h0 (by(try dsimp only at c);omega)).get h;dsimp only;omega⟩) λc=>.some ⟨rfl,by(try dsimp only at*);omega⟩
 exact g _ e
theorem Xf{D:List Int}{X:Ji}{o:J5}{w:Int}(w0:Ty.inR (.l (.i .u8)) D)(w1:Ty.inR Jd X)(w2:Ty.inR J8 o)(w3:Ty.inR (.i .i64) w):WI (D,X,o,w)=some true:=by
 have b6:Tot (WI (D,X,o,w)) λy=>y=true:=by
  have q1:CE X:=JEU w1;have q2:SV o:=JDf w2;have q3:Ty.fit 0 0 (.i .i64) w:=oO w3;have f0:Ty.fit (J0 D) 0 (.l (.i .u8)) D:=⟨aZ _,λa ha=>by have:=w0.2 a ha;rw[XA];simpa[Ty.inR,IntKind.min,IntKind.max,IntKind.signed,IntKind.bits]using this⟩;have c5:0<=J0 D:=Jh;unfold WI;dsimp only;refine .bind (hC JI5) λy2 d2=>.not (λc=>by rw[d2]at c;cases c) λ_=>.bind ((JAX (B:=J0 D) (S:=0) (X:=(D,500)) ⟨f0,cS .i64 500⟩ (by show(0:Int)<=500;decide)).eqn) λy3 h3=>?_;obtain⟨n1,n2⟩:=JGA (by decide) h3.2;have f3:Ty.fit 16384 1073741824 J3 y3:=⟨⟨by show J0 y3.1<=16384;omega,λa ha=>h3.1.1.1.2 a ha⟩,h3.1.1.2⟩;refine .bind ((Wj (B:=16384) (S:=1073741824) (X:=(24,y3)) ⟨cS .i64 24,f3⟩ om (by show(0:Int)<=24;decide) (by show(24:Int)<=1000;decide)).eqn) λx W=>?_;have V:jk x.1:=W.1.1.1;obtain⟨v,hv,_⟩:=mL (B:=16384) (S:=1073741824) V;have lv:JB x.1=some true:=by rw[hv,JEf f3 (by omega) _ W.2 _ hv]
  refine .bind (J4 (B:=16384) (S:=1073741824) (X:=(4,x.2)) ⟨cS .i64 4,W.1.1.2⟩ W.1.2) λy5 R=>.bind ((Xa (B:=16384) (S:=1073741824) (X:=(y5.1,y5.2)) ⟨R.1.1,R.1.2⟩ R.2.2.2).eqn) λh H=>?_;have ca:h.1.1=y5.1:=JIJ _ H.2;have ax:=R.2.2.1 (by show(1:Int)<=4;decide);have au:=R.2.1
  (try dsimp only at ax au)
  refine .bind (JEI V lv) λU h7=>.bind (Yt (B:=16384) (S:=1073741824) (X:=(h.1,h.2)) ⟨H.1.1.1,H.1.1.2⟩ H.1.2) λG h8=>?_;have l4:J0 [X,h.1,(h.1.1,0,Vector.replicate 16 ((false,[]):dG)),G.1]=4:=rfl;have fp: ∀p∈[X,h.1,(h.1.1,0,Vector.replicate 16 ((false,[]):dG)),G.1],CE p:=(by intro p hp;simp only[dZ,List.not_mem_nil,or_false]at hp;rcases hp with rfl|rfl|rfl|rfl;exact q1;exact H.1.1.1.up (by decide) (by decide);exact⟨H.1.1.1.1,cS .i64 0,bZ (by decide) (by decide) (.ar 16 Jr)⟩;exact h8.1.1.up (by decide) (by decide));rw[l4];generalize [X,h.1,(h.1.1,0,Vector.replicate 16 ((false,[]):dG)),G.1]=ps at fp l4;have T:Ty.fit 16384 1073741824 J3 G.2/\0<=G.2.2:=⟨h8.1.2,h8.2⟩;generalize G.2=cd at T;refine Jq (τ:=iO) (λq=>(w,U,ps,4,q.1,X,o,q.2,x.1,h.1)) (λq=>0<=q.1/\q.1<=4/\Ty.fit 16384 1073741824 J3 q.2/\0<=q.2.2) (λq=>4-q.1) ?_ (0,cd) rfl ⟨aZ _,om,T.1,T.2⟩;clear T;rintro⟨i,cd⟩ ⟨g1,g2,g3,g4⟩
  (try dsimp only at g1 g2 g3 g4)
  unfold ye;dsimp only;have oi:=Jm i 1;refine .lt (λci=>?_) λ_=>.some rfl;obtain⟨y,ey,ao⟩:=KK (l:=ps) g1 (by omega);have I:=fp _ (zQ5 ao);refine .bind (hC ey) λg bb=>?_;subst bb;refine .bind (Xr (B:=16384) (S:=1073741824) g3 g4) λF Q=>.bind (J4 (B:=16384) (S:=1073741824) (X:=(3,F.2)) ⟨cS .i64 3,Q.1.2⟩ Q.2) λA N=>.bind (fK (by decide) (by decide)) λ_ _=>.bind (iS I.2.2 (by decide)) λJ ab=>?_;have l3:J0 [o,F.1,(60,1,1,0,gV (cP g.2.1 0) 59,0,(g.1,A.1,J,false,[]),[])]=3:=rfl;have fz: ∀z∈[o,F.1,(60,1,1,0,gV (cP g.2.1 0) 59,0,(g.1,A.1,J,false,[]),[])],SV z:=(by intro z hz;simp only[dZ,List.not_mem_nil,or_false]at hz;rcases hz with rfl|rfl|rfl;exact q2;exact Q.1.1.up (by decide) (by decide);exact⟨cS .i64 60,cS .i64 1,cS .i64 1,cS .i64 0,Dx (kJ I.2.1 (cS .i64 0)) (cS .i64 59),cS .i64 0,⟨I.1,N.1.1,ab,trivial,J9 (by decide)⟩,J9 (by decide)⟩);rw[l3];generalize [o,F.1,(60,1,1,0,gV (cP g.2.1 0) 59,0,(g.1,A.1,J,false,[]),[])]=zs at fz l3;have L:Ty.fit 16384 1073741824 J3 A.2/\0<=A.2.2:=⟨N.1.2,N.2.2.2⟩;generalize A.2=Y at L;refine Jq (τ:=Int) (λk=>(w,U,ps,4,i,zs,3,k,X,o,Y,x.1,h.1,g)) (λk=>0<=k/\k<=3) (λk=>3-k) ?_ 0 rfl ⟨by decide,by decide⟩;rintro k ⟨k1,k2⟩;unfold yo;dsimp only;have ok:=Jm k 1;refine .lt (λck=>?_) λ_=>.inr ?_;obtain⟨z,ez,aq⟩:=KK (l:=zs) k1 (by omega);obtain⟨r,a1,a2⟩:=JGy I (fz _ (zQ5 aq));refine .bind (hC ez) λcb ah=>?_;subst ah;refine .bind (hC a1) λc9 b8=>?_;subst b8;refine .bind (hC a2) λc4 ae=>?_;subst ae;exact .nof (λ_=>.ne (λc=>absurd rfl c) λ_=>.some ⟨J1 .i64 k 1,rfl,⟨by omega,by omega⟩,by omega,by omega⟩) λc=>(Bool.false_ne_true (c.symm.trans (dY.2 rfl))).elim;refine .bind (Yj (B:=16384) (S:=1073741824) (X:=(x.1,Y)) ⟨V,L.1⟩ L.2) λC M=>?_;have l2:J0 [x.1,C.1]=2:=rfl;have fm: ∀m∈[x.1,C.1],jk m:=(by intro m hm;simp only[dZ,List.not_mem_nil,or_false]at hm;rcases hm with rfl|rfl;exact V;exact M.1.1);rw[l2];generalize [x.1,C.1]=ms at fm l2;have O:Ty.fit 16384 1073741824 J3 C.2/\0<=C.2.2:=⟨M.1.2,M.2⟩;generalize C.2=b7 at O;refine Jq (τ:=iO) (λq=>(w,U,ps,4,i,ms,2,q.1,X,o,q.2,x.1,h.1,g)) (λq=>0<=q.1/\q.1<=2/\Ty.fit 16384 1073741824 J3 q.2/\0<=q.2.2) (λq=>2-q.1) ?_ (0,b7) rfl ⟨aZ _,om,O.1,O.2⟩;rintro⟨j,Z⟩ ⟨j1,j2,j3,j4⟩
  (try dsimp only at j1 j2 j3 j4)
  unfold yh;dsimp only;have oj:=Jm j 1;refine .lt (λcj=>?_) λ_=>.some ⟨(J1 .i64 i 1,Z),rfl,⟨om,om,j3,j4⟩,om,om⟩;obtain⟨m,em,aw⟩:=KK (l:=ms) j1 (by omega);have ai:=fm _ (zQ5 aw);refine .bind (hC em) λb0 aj=>?_;subst aj;refine .bind (Jl h7.2 (by omega) (by omega)) λK ay=>.bind (J4 (B:=16384) (S:=1073741824) (X:=(30,Z)) ⟨cS .i64 30,j3⟩ j4) λE P=>?_;have l5:J0 [w,K,E.1]=3:=rfl;have fn: ∀n∈[w,K,E.1],Ty.fit 0 0 (.i .i64) n:=(by intro n hn;simp only[dZ,List.not_mem_nil,or_false]at hn;rcases hn with rfl|rfl|rfl;exact q3;exact ay.1;exact P.1.1);rw[l5];generalize [w,K,E.1]=ns at fn l5;refine Jq (τ:=Int) (λk=>(w,U,ps,4,i,ms,2,j,ns,3,k,X,o,E.2,x.1,h.1,g,b0)) (λk=>0<=k/\k<=3) (λk=>3-k) ?_ 0 rfl ⟨by decide,by decide⟩;rintro t ⟨t1,t2⟩;unfold yl;dsimp only;have ot:=Jm t 1;refine .lt (λct=>?_) λ_=>.some ⟨(J1 .i64 j 1,E.2),rfl,⟨om,om,P.1.2,P.2.2.2⟩,om,om⟩;obtain⟨n,en,b3⟩:=KK (l:=ns) t1 (by omega);obtain⟨⟨r1,a1,a2⟩,r2,b1,b2⟩:=JFq ai I (fn _ (zQ5 b3));refine .bind (hC en) λc7 b5=>?_;subst b5;refine .bind (hC a1) λc2 an=>?_;subst an;refine .bind (hC a2) λc3 am=>?_;subst am;refine .bind (hC b1) λcc az=>?_;subst az;refine .bind (hC b2) λc6 b9=>?_;subst b9;exact .nof (λ_=>.nef (λ_=>.nef (λ_=>.ne (λc=>absurd rfl c) λ_=>.some ⟨J1 .i64 t 1,rfl,⟨by omega,by omega⟩,by omega,by omega⟩) λc=>absurd rfl c) λc=>absurd rfl c) λc=>(Bool.false_ne_true (c.symm.trans (dY.2 rfl))).elim
 obtain⟨y,e,d⟩:=b6;rw[e,d]
end Go.Am
end
section
namespace Go.Am
set_option maxRecDepth 20000
def BW{α:Type}(f:FuncId):List (FuncId×α)->Option α|[]=>none|(g,a)::r=>if f=g then some a else BW f r
noncomputable def lc:List (FuncId×AFn):=[(9,aL mr),(39,aL Xm),(37,aL Xd),(40,aL Yg),(19,aL Xt),(38,aL V6),(104,aL Yi),(73,aL W3),(51,aL Za),(94,aL Uf),(71,aL Gw),(93,aL Fx),(91,aL Em),(92,aL Gl),(70,aL Gi),(49,aL D8),(64,aL T2),(89,aL Xg),(67,aL Nz),(63,aL Ns),(44,aL Nj),(36,aL Km),(32,aL O1),(13,aL Ow)]
noncomputable def kz:List (FuncId×AFn):=[(14,aL La),(103,aL T3),(198,aL Qs),(155,aL Of),(156,aL Le),(126,aL O2),(144,aL Mb),(209,aL Wf),(227,aL Mc),(228,aL I5),(229,aL Kt),(185,aL Ob),(66,aL Qd),(65,aL Ut),(163,aL P1),(132,aL Mp),(230,aL En),(186,aL Pa),(187,aL X4),(143,aL P5),(120,aL Oc),(112,aL Mw),(95,aL Qk),(33,aL Vb)]
noncomputable def mf:List (FuncId×AFn):=[(177,aL Sj),(110,aL D5),(218,aL Fz),(179,aL Ig),(176,aL Lx),(215,aL Tn),(216,aL F7),(217,aL Ue),(178,aL K1),(133,aL Lq),(115,aL I8),(130,aL Fs),(147,aL G5),(139,aL Fe),(164,aL E4),(175,aL S7),(214,aL V0),(174,aL S9),(173,aL Qq),(138,aL T0),(172,aL Qn),(137,aL JCH),(117,aL L5),(99,aL X1)]
noncomputable def k0:List (FuncId×AFn):=[(131,aL Qv),(114,aL Ot),(166,aL E9),(45,aL Qc),(165,aL Nm),(134,aL Sz),(168,aL H7),(212,aL Ul),(169,aL P2),(248,aL Qz),(211,aL Pl),(167,aL Tf),(170,aL Kz),(135,aL Nx),(213,aL Ef),(171,aL M4),(136,aL U2),(116,aL N1),(98,aL M1),(193,aL Hr),(235,aL He),(236,aL Ix),(192,aL Tq),(152,aL Uz)]
noncomputable def k6:List (FuncId×AFn):=[(151,aL Vy),(153,aL Ib),(46,aL Nw),(194,aL Vt),(197,aL Hq),(237,aL Rz),(195,aL Fu),(238,aL JCk),(196,aL Tt),(154,aL G2),(123,aL Kw),(150,aL S1),(122,aL G6),(189,aL D6),(146,aL In),(222,aL Gv),(256,aL Oy),(233,aL S6),(234,aL E6),(190,aL Wa),(148,aL N4),(191,aL Fb),(149,aL S3),(21,aL Ni)]
noncomputable def l9:List (FuncId×AFn):=[(111,aL Ou),(90,aL Iz),(69,aL Nv),(48,aL G8),(23,aL Lk),(232,aL L1),(231,aL Sd),(188,aL Kn),(145,aL G9),(121,aL Qh),(102,aL Hz),(100,aL Tm),(160,aL Vk),(210,aL Ks),(161,aL Gk),(128,aL V4),(243,aL Qx),(205,aL Vz),(245,aL U7),(246,aL iq),(207,aL Pg),(242,aL R8),(203,aL Kx),(202,aL L4)]
noncomputable def lj:List (FuncId×AFn):=[(247,aL Pr),(208,aL Fy),(244,aL D3),(206,aL Sm),(200,aL T5),(240,aL Rt),(241,aL Uy),(201,aL Nk),(204,aL Hd),(239,aL Sk),(199,aL Ux),(157,aL JBv),(158,aL Uk),(159,aL Wp),(127,aL JCR),(162,aL I0),(129,aL G1),(113,aL JBs),(97,aL X7),(140,aL If),(219,aL Pn),(249,aL Mf),(220,aL Ua),(181,aL Md)]
noncomputable def ly:List (FuncId×AFn):=[(180,aL Kf),(141,aL Ql),(118,aL Py),(221,aL Uh),(252,aL Y4),(250,aL Y8),(251,aL Yo),(223,aL Rr),(182,aL Lo),(258,aL K3),(255,aL Ll),(226,aL Mz),(260,aL Td),(261,aL Zm),(262,aL Ye),(259,aL Tb),(257,aL R3),(253,aL R0),(224,aL Qt),(254,aL Np),(225,aL Hk),(183,aL Uw),(184,aL Qj),(142,aL Lg)]
noncomputable def ma:List (FuncId×AFn):=[(119,aL Ia),(101,aL Zd),(96,aL Zk),(72,aL Y9),(50,aL E3),(26,aL Yr),(8,aL Yp),(15,aL Eq),(16,aL Wk),(68,aL Ze),(47,aL Yz),(22,aL Yd),(18,aL Yu),(17,aL Xh),(7,aL JBx),(88,aL X2),(87,aL T4),(62,aL R5),(43,aL Tj),(30,aL Ui),(54,aL Sq),(75,aL I3),(74,aL Ws),(76,aL Wi)]
noncomputable def lh:List (FuncId×AFn):=[(77,aL V9),(55,aL Oz),(41,aL Ov),(86,aL Xu),(61,aL Fd),(59,aL Yk),(57,aL H8),(78,aL It),(56,aL Nh),(42,aL Ps),(20,aL Ld),(6,aL Pu),(52,aL Ma),(27,aL U1),(34,aL P4),(35,aL J9z),(12,aL Gc),(24,aL Mi),(11,aL M9),(25,aL Qu),(4,aL Xe)]
noncomputable def fns:List (FuncId×AFn):=lc++(kz++(mf++(k0++(k6++(l9++(lj++(ly++(ma++(lh)))))))))
noncomputable def fks:List (FuncId×oI):=[]
noncomputable def fps:List (FuncId×Prm):=[(58,JBm),(60,JBR)]
abbrev PS:=FuncId->Option (List AV->List Blk->Option Res)
noncomputable def yC(p:PS):eN:=λf=>zo (BW f fns) (BW f fks) (BW f fps) (p f)
def AE(l:List TE):Prop:= ∀p,yE (AF (yC p)) l
theorem ae0:AE []:=λ_=>trivial
theorem eX{i g S l f}(hf: ∀p,yC p i=some (.fn (aL f)))(A:AE l)(q: ∀x,onO (nA g x) (λy=>uN (TG.of l) f y.1 y.2 (oQ g))=S x)(hs:DU g=true:=by rfl):AE (aE i g S::l):=λp=>⟨lg (hf p) (A p) hs q,A p⟩
end Go.Am
end
