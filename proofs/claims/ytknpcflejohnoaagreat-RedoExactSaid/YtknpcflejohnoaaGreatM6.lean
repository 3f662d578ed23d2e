/-
  Parts of a proof.
-/
import Derived.Test.YtknpcflejohnoaaGreatM3
import Derived.Test.YtknpcflejohnoaaGreatM5
set_option linter.unusedSimpArgs false
set_option linter.unusedVariables false
section
namespace Go.Am
set_option linter.unusedVariables false
set_option maxRecDepth 20000
set_option maxHeartbeats 1000000
theorem JJB{B S:Int}{e:J5}(h:Ty.fit B S J8 e)(hv:Js e=some true)(j:0<=B)(g:0<=S):0<=e.2.2.2.2.2.2.1.1/\e.2.2.2.2.2.2.1.1<64:=by have:=(rU h hv rfl).1;omega
theorem JEJ{l:Jt}(hf:Ty.fit 16384 1073741824 Jy l)(hv:JB l=some true):Tot (VC l) λy=>J0 y=64/\Ty.fit 64 0 (.l (.i .i64)) y:=by
 obtain⟨_,E,h⟩:=KJ hv;unfold VC;refine .bind (hC hv) λK w=>.not (λc=>by rw[w]at c;cases c) λ_=>.bind (xR (t:=.i .i64) (B:=64) (S:=0) (cS .i64 0)) λx h3=>Jq (τ:=Int×List Int) (λq=>(q.1,l,q.2)) (λq=>0<=q.1/\q.1<=J0 l.2.1/\J0 q.2=64/\Ty.fit 64 0 (.l (.i .i64)) q.2) (λq=>J0 l.2.1-q.1) ?_ (0,x) rfl ⟨aZ _,Jh,h3.2,h3.1⟩;rintro⟨i,j⟩ ⟨h0,h1,h2,g⟩
 (try dsimp only at h0 h1 h2 g)
 unfold yk;dsimp only;have o:=Jm i 1;refine .lt (λc=>?_) λ_=>.some ⟨h2,g⟩;obtain⟨e,k,v⟩:=KH (l:=l.2.1) h0 c;have D:=h _ e v;have n:Ty.fit 16384 1073741824 J8 e:=hf.2.1.2 e (zQ5 v);have r:=JJB n D.2 (by decide) (by decide);refine .bind (hC k) λI A=>?_;subst A;refine .bind (hC (EW _)) λJ G=>.ite (λ_=>?_) λ_=>.some ⟨(J1 .i64 i 1,j),rfl,⟨om,om,h2,g⟩,om,om⟩;refine .bind (hC k) λF z=>.bind (hC k) λH C=>?_;subst z;subst C;refine .bind (fC r.1 (by omega)) λ_ _=>.bind (jF g r.1 (by show _<J0 j;omega)) λ_ _=>.some ⟨(J1 .i64 i 1,aW j _ _),rfl,⟨om,om,pJ.trans h2,kL g n.1⟩,om,om⟩
theorem JH9{l:Jt}(h1:1<=l.1)(h2:l.1<=1099511627776)(h3:J0 l.2.1<=4096)(h4:l.1-1<=l.2.2)(h5:l.2.2<=l.1+J0 l.2.1-1)(he: ∀(i:Nat) e,l.2.1[i]?=some e->e.1=l.1+i/\Js e=some true):Par (JB l) λy=>y=true:=by
 unfold JB;have o:=bC l.1 1;have v:0<=J0 l.2.1:=Jh;refine .ltf (λ_=>.gtf (λ_=>.gtf (λ_=>.ltf (λ_=>.bind λE r=>?_) λc=>by omega) λc=>by omega) λc=>by omega) λc=>by omega
 have F:=yP r h1 h2 h3;refine .gt (λc=>by omega) λ_=>.while (λz=>z.2=l/\0<=z.1/\z.1<=J0 l.2.1) ⟨rfl,aZ _,v⟩ ?_;rintro⟨i,l'⟩ ⟨rfl,h0,D⟩
 (try dsimp only at*)
 have A:=Jm l'.1 i;have w:=Jm i 1;unfold wZ;have g: ∀{e},idx l'.2.1 i=some e->e.1=l'.1+i/\Js e=some true:=fun{e} h=>by unfold idx at h;rw[if_pos h0]at h;have k:=he _ e h;exact⟨by have:=k.1;omega,k.2⟩
 refine .lt (λc=>.bind λC n=>.nef (λ_=>.bind λx q=>.bind λB j=>.not (λd=>?_) λ_=>.some ⟨rfl,om,by(try dsimp only at*);omega⟩) λd=>?_) λ_=>.some rfl;have:=(g q).2;rw[j]at this;cases this;cases d;have:=(g n).1;exact absurd this (by(try dsimp only at d);omega)
theorem JKQ{l:Jt}{n:Int}(hv:Par (JB l) λv=>v=true)(h1:l.1=1)(h2:l.2.2<=J0 l.2.1)(h3:J0 l.2.1<=4096)(hn:1<=n)(E:n<=l.2.2+1):Par (wK (l,n)) λy=>Par (JB y.1) λv=>v=true:=by
 unfold wK;refine .bind λv h=>?_;have e:=hv _ h;subst e
 (try dsimp only at h)
 obtain⟨_,F,j⟩:=KJ h;have G:=bC n l.1;refine .not (λc=>by cases c) λ_=>.ltf (λ_=>.bind λr D=>?_) λc=>by(try dsimp only at c);omega
 have C:=yP D (om) (om) h3
 (try dsimp only at C)
 have H:=Jm r 1;have I:=Jm l.2.2 1;refine .gtf (λ_=>.gt (λc=>by(try dsimp only at c);omega) λ_=>.gt (λc=>by(try dsimp only at c);omega) λ_=>.bind λz x=>.bind λw g=>.some ?_) λc=>by(try dsimp only at c);omega
 have B:=(KK (l:=l.2.1) (k:=JJ .i64 n l.1) (by omega) (by omega)).get x;have q:w=z:=(by unfold cZ at g;split at g;injection g with g;exact g.symm;cases g);subst q;refine JH9 hn (om) (om) (om) (om) λi e hi=>?_
 (try dsimp only at hi⊢)
 rw[B.1,UJ]at hi;obtain⟨o,A⟩:=j _ e hi;exact⟨by rw[o];omega,A⟩
theorem C3{l:Jt}(hi:gT l)(hc:eY l.2.1){c:iO}(hf:Ty.fit 16384 1073741824 J3 c.2)(h0:0<=c.2.2):Par (if aH c.1 0=true then(if aQ l.2.2 l.1=true then(J6 (J1 .i64 (JJ .i64 l.2.2 l.1) 2,c.2)).bind λe=>(wK (l,J1 .i64 l.1 e.1)).bind λj=>some (j.1,e.2)else some (l,c.2))else some (l,c.2)) λy=>Par (JB y.1) λv=>v=true:=by
 have g:=YT hi hc;obtain⟨i1,i2,i3,i4⟩:=hi;refine .eq (λ_=>.ge (λd=>.bind λe k=>.bind λj n=>.some ?_) λ_=>.some g) λ_=>.some g;have q:=bC l.2.2 l.1;have o:=Jm (JJ .i64 l.2.2 l.1) 2;have r:=Jm l.1 e.1;have h:=(J4 (B:=16384) (S:=1073741824) (X:=(J1 .i64 (JJ .i64 l.2.2 l.1) 2,c.2)) ⟨Je,hf⟩ h0).get k;have a:=h.2.2.1 (om);have b:=h.2.1
 (try dsimp only at a b)
 exact JKQ g i1 i3 i4 (by omega) (by omega) _ n
theorem JEg{c:Jk}(hf:Ty.fit 16384 1073741824 J3 c)(h0:0<=c.2):Par (FW (24,c)) λy=>Par (JB y.1) λv=>v=true:=by
 unfold FW;refine .bind λe h2=>.bind λk h3=>?_;have g:=JGM hf h0 h2;have r:=(zf (B:=16384) (S:=1073741824) (X:=(24,true,c)) ⟨cS .i64 24,trivial,hf⟩ h0 (by show(0:Int)<=24;decide) (by show(24:Int)<=1000;decide)).get h2;have C:Ty.fit 16384 1073741824 J3 e.2:=r.1.2;have h:=(J4 (B:=16384) (S:=1073741824) (X:=(2,e.2)) ⟨cS .i64 2,C⟩ r.2).get h3;refine .eq (λ_=>.bind λq G=>.bind λJ w=>.bind λK E=>?_) λ_=>.bind λL F=>?_;have M:q=J0 e.1.2.2.1.2.1:=by
  have A:Par (rG e.1.2.2.1) λy=>y=J0 e.1.2.2.1.2.1:=by unfold rG;refine .bind λv I=>.not (λc=>by rw[YT g.1 g.2.1 _ I]at c;cases c) λ_=>.bind λm H=>.some ?_;obtain⟨i1,i2,i3,i4⟩:=g.1;have:=yP H (by omega) (by omega) i4;omega
  exact A _ G
 have x:=ph g.1 g.2.1 (n:=q) (by omega) _ w;obtain⟨z,D⟩:=QX w x;have j:=(J4 (B:=16384) (S:=1073741824) (X:=(5,k.2)) ⟨cS .i64 5,h.1.2⟩ h.2.2.2).get E;exact C3 (D g.1) (by rw[z];exact g.2.1) j.1.2 j.2.2.2;have o:=(J4 (B:=16384) (S:=1073741824) (X:=(5,k.2)) ⟨cS .i64 5,h.1.2⟩ h.2.2.2).get F;exact C3 g.1 g.2.1 o.1.2 o.2.2.2
theorem JIK{c:Jk}{n:Int}:Par (FZ (n,c)) λy=>y.1.1=n:=by
 unfold FZ;refine .bind λj _=>.bind λg _=>.eq (λ_=>.bind λk _=>.gt (λ_=>.bind λe _=>.while (λz=>z.2.2.2.1=n) rfl ?_) λ_=>.some rfl) λ_=>.gt (λ_=>.bind λe _=>.while (λz=>z.2.2.2.1=n) rfl ?_) λ_=>.some rfl;intro z h;unfold nm;exact .gt (λ_=>.bind λ_ _=>.bind λ_ _=>.bind λ_ _=>.bind λ_ _=>.some h) λ_=>.some h;intro z h;unfold nk;exact .gt (λ_=>.bind λ_ _=>.bind λ_ _=>.bind λ_ _=>.bind λ_ _=>.some h) λ_=>.some h
end Go.Am
end
section
namespace Go.Am
set_option linter.unusedVariables false
set_option maxRecDepth 20000
set_option maxHeartbeats 1000000
def CD(p:Ji):Prop:=Ty.fit 16384 9223372036854775807 Jd p
def SV(e:J5):Prop:=Ty.fit 16384 9223372036854775807 J8 e
def jy(l:Jt):Prop:=Ty.fit 16384 1073741824 Jy l
theorem Bp{z:List UInt8}(h:Ty.inR .s z):Ty.fit 16384 9223372036854775807 .s z:=by have h2:z.length<=maxLen:=h;show J0 z<=9223372036854775807;unfold J0;simp only[maxLen]at h2;omega
theorem oN{z B S:Int}(h:Ty.inR (.i .i64) z):Ty.fit B S (.i .i64) z:=by rw[J2];simpa[Ty.inR,IntKind.min,IntKind.max,IntKind.signed,IntKind.bits]using h
theorem mh{c:dG}(h:Ty.inR Jr c):Ty.fit 16384 9223372036854775807 Jr c:=⟨trivial,Bp h.2⟩
theorem JEV{p:Ji}(h:Ty.inR Jd p):CD p:=⟨oN h.1,oN h.2.1,λi hi=>mh (h.2.2 i hi)⟩
theorem JDg{e:J5}(h:Ty.inR J8 e):SV e:=
 ⟨oN h.1,oN h.2.1,oN h.2.2.1,oN h.2.2.2.1,oN h.2.2.2.2.1,oN h.2.2.2.2.2.1,⟨oN h.2.2.2.2.2.2.1.1,oN h.2.2.2.2.2.2.1.2.1,mh h.2.2.2.2.2.2.1.2.2.1,mh h.2.2.2.2.2.2.1.2.2.2⟩,Bp h.2.2.2.2.2.2.2⟩
theorem JGz{y:Ji}{z:J5}(hy:CD y)(hz:SV z): ∃r,wP (y,z)=some r/\iK (y,z)=some r:=by obtain⟨r,e,_⟩:=US (B:=16384) (S:=9223372036854775807) (X:=(y,z)) ⟨hy,hz⟩;exact⟨r,(QG (y,z) (NV hy (by decide) (by decide))).trans e,e⟩
theorem JFr{m:Jt}{y:Ji}{n:Int}(hm:jy m)(hy:CD y)(hn:Ty.fit 0 0 (.i .i64) n):
  (∃r,LU (m,y,n)=some r/\pU (m,y,n)=some r)/\ ∃r,ME (m,y,n)=some r/\BB (m,y,n)=some r:=by
 have g:Ty.fit 16384 9223372036854775807 GX (m,y,n):=⟨hm.up (by decide) (by decide),hy,hn⟩;have C:=J2.1 hn;obtain⟨b1,b2⟩:=JEE (m,y,n) CD (λq h=>NV h (by decide) (by decide)) hy (om) (λx w q e r h z A=>by have k:=(wa (B:=16384) (S:=9223372036854775807) g).get w;have v:=(US (B:=16384) (S:=9223372036854775807) (X:=(q,e)) ⟨h,(k.1.2 e z).up (by decide) (by decide)⟩).get A;exact v.1.up (by decide) (by decide));obtain⟨r,e,_⟩:=uk (B:=16384) (S:=9223372036854775807) g;obtain⟨o,j,_⟩:=Rq (B:=16384) (S:=9223372036854775807) g;exact⟨⟨r,b1.trans e,e⟩,o,b2.trans j,j⟩
theorem JGB{l:List Int}{n:Int}(h0:0<=n){y:Jk}(e:zL (l,n)=some y):y.2=0/\J0 y.1<=n:=by
 have g:Par (zL (l,n)) λy=>y.2=0/\J0 y.1<=n:=by unfold zL;exact .gt (λc=>.bind λr h=>.some ⟨rfl,by have:=(TU (l:=l) (k:=n) h0 (by(try dsimp only at c);omega)).get h;dsimp only;omega⟩) λc=>.some ⟨rfl,by(try dsimp only at*);omega⟩
 exact g _ e
theorem Xf{D:List Int}{X:Ji}{o:J5}{w:Int}(w0:Ty.inR (.l (.i .u8)) D)(w1:Ty.inR Jd X)(w2:Ty.inR J8 o)(w3:Ty.inR (.i .i64) w):WL (D,X,o,w)=some true:=by
 have b6:Tot (WL (D,X,o,w)) λy=>y=true:=by
  have q1:CD X:=JEV w1;have q2:SV o:=JDg w2;have q3:Ty.fit 0 0 (.i .i64) w:=oN w3;have f0:Ty.fit (J0 D) 0 (.l (.i .u8)) D:=⟨aZ _,λa ha=>by have:=w0.2 a ha;rw[XD];simpa[Ty.inR,IntKind.min,IntKind.max,IntKind.signed,IntKind.bits]using this⟩;have c5:0<=J0 D:=Jh;unfold WL;dsimp only;refine .bind (hC JI6) λy2 d2=>.not (λc=>by rw[d2]at c;cases c) λ_=>.bind ((JAY (B:=J0 D) (S:=0) (X:=(D,500)) ⟨f0,cS .i64 500⟩ (by show(0:Int)<=500;decide)).eqn) λy3 h3=>?_;obtain⟨n1,n2⟩:=JGB (by decide) h3.2;have f3:Ty.fit 16384 1073741824 J3 y3:=⟨⟨by show J0 y3.1<=16384;omega,λa ha=>h3.1.1.1.2 a ha⟩,h3.1.1.2⟩;refine .bind ((Wm (B:=16384) (S:=1073741824) (X:=(24,y3)) ⟨cS .i64 24,f3⟩ om (by show(0:Int)<=24;decide) (by show(24:Int)<=1000;decide)).eqn) λx W=>?_;have V:jy x.1:=W.1.1.1;obtain⟨v,hv,_⟩:=mL (B:=16384) (S:=1073741824) V;have lv:JB x.1=some true:=by rw[hv,JEg f3 (by omega) _ W.2 _ hv]
  refine .bind (J4 (B:=16384) (S:=1073741824) (X:=(4,x.2)) ⟨cS .i64 4,W.1.1.2⟩ W.1.2) λy5 R=>.bind ((Xx (B:=16384) (S:=1073741824) (X:=(y5.1,y5.2)) ⟨R.1.1,R.1.2⟩ R.2.2.2).eqn) λh H=>?_;have ca:h.1.1=y5.1:=JIK _ H.2;have ax:=R.2.2.1 (by show(1:Int)<=4;decide);have au:=R.2.1
  (try dsimp only at ax au)
  refine .bind (JEJ V lv) λU h7=>.bind (Y9 (B:=16384) (S:=1073741824) (X:=(h.1,h.2)) ⟨H.1.1.1,H.1.1.2⟩ H.1.2) λG h8=>?_;have l4:J0 [X,h.1,(h.1.1,0,Vector.replicate 16 ((false,[]):dG)),G.1]=4:=rfl;have fp: ∀p∈[X,h.1,(h.1.1,0,Vector.replicate 16 ((false,[]):dG)),G.1],CD p:=(by intro p hp;simp only[dZ,List.not_mem_nil,or_false]at hp;rcases hp with rfl|rfl|rfl|rfl;exact q1;exact H.1.1.1.up (by decide) (by decide);exact⟨H.1.1.1.1,cS .i64 0,bZ (by decide) (by decide) (.ar 16 Jr)⟩;exact h8.1.1.up (by decide) (by decide));rw[l4];generalize [X,h.1,(h.1.1,0,Vector.replicate 16 ((false,[]):dG)),G.1]=ps at fp l4;have T:Ty.fit 16384 1073741824 J3 G.2/\0<=G.2.2:=⟨h8.1.2,h8.2⟩;generalize G.2=cd at T;refine Jq (τ:=iO) (λq=>(w,U,ps,4,q.1,X,o,q.2,x.1,h.1)) (λq=>0<=q.1/\q.1<=4/\Ty.fit 16384 1073741824 J3 q.2/\0<=q.2.2) (λq=>4-q.1) ?_ (0,cd) rfl ⟨aZ _,om,T.1,T.2⟩;clear T;rintro⟨i,cd⟩ ⟨g1,g2,g3,g4⟩
  (try dsimp only at g1 g2 g3 g4)
  unfold y0;dsimp only;have oi:=Jm i 1;refine .lt (λci=>?_) λ_=>.some rfl;obtain⟨y,ey,ao⟩:=KH (l:=ps) g1 (by omega);have I:=fp _ (zQ5 ao);refine .bind (hC ey) λg bb=>?_;subst bb;refine .bind (X3 (B:=16384) (S:=1073741824) g3 g4) λF Q=>.bind (J4 (B:=16384) (S:=1073741824) (X:=(3,F.2)) ⟨cS .i64 3,Q.1.2⟩ Q.2) λA N=>.bind (fK (by decide) (by decide)) λ_ _=>.bind (iS I.2.2 (by decide)) λJ ab=>?_;have l3:J0 [o,F.1,(60,1,1,0,gV (cP g.2.1 0) 59,0,(g.1,A.1,J,false,[]),[])]=3:=rfl;have fz: ∀z∈[o,F.1,(60,1,1,0,gV (cP g.2.1 0) 59,0,(g.1,A.1,J,false,[]),[])],SV z:=(by intro z hz;simp only[dZ,List.not_mem_nil,or_false]at hz;rcases hz with rfl|rfl|rfl;exact q2;exact Q.1.1.up (by decide) (by decide);exact⟨cS .i64 60,cS .i64 1,cS .i64 1,cS .i64 0,Ej (kJ I.2.1 (cS .i64 0)) (cS .i64 59),cS .i64 0,⟨I.1,N.1.1,ab,trivial,J9 (by decide)⟩,J9 (by decide)⟩);rw[l3];generalize [o,F.1,(60,1,1,0,gV (cP g.2.1 0) 59,0,(g.1,A.1,J,false,[]),[])]=zs at fz l3;have L:Ty.fit 16384 1073741824 J3 A.2/\0<=A.2.2:=⟨N.1.2,N.2.2.2⟩;generalize A.2=Y at L;refine Jq (τ:=Int) (λk=>(w,U,ps,4,i,zs,3,k,X,o,Y,x.1,h.1,g)) (λk=>0<=k/\k<=3) (λk=>3-k) ?_ 0 rfl ⟨by decide,by decide⟩;rintro k ⟨k1,k2⟩;unfold zh;dsimp only;have ok:=Jm k 1;refine .lt (λck=>?_) λ_=>.inr ?_;obtain⟨z,ez,aq⟩:=KH (l:=zs) k1 (by omega);obtain⟨r,a1,a2⟩:=JGz I (fz _ (zQ5 aq));refine .bind (hC ez) λcb ah=>?_;subst ah;refine .bind (hC a1) λc9 b8=>?_;subst b8;refine .bind (hC a2) λc4 ae=>?_;subst ae;exact .nof (λ_=>.ne (λc=>absurd rfl c) λ_=>.some ⟨J1 .i64 k 1,rfl,⟨by omega,by omega⟩,by omega,by omega⟩) λc=>(Bool.false_ne_true (c.symm.trans (dY.2 rfl))).elim;refine .bind (Yn (B:=16384) (S:=1073741824) (X:=(x.1,Y)) ⟨V,L.1⟩ L.2) λC M=>?_;have l2:J0 [x.1,C.1]=2:=rfl;have fm: ∀m∈[x.1,C.1],jy m:=(by intro m hm;simp only[dZ,List.not_mem_nil,or_false]at hm;rcases hm with rfl|rfl;exact V;exact M.1.1);rw[l2];generalize [x.1,C.1]=ms at fm l2;have O:Ty.fit 16384 1073741824 J3 C.2/\0<=C.2.2:=⟨M.1.2,M.2⟩;generalize C.2=b7 at O;refine Jq (τ:=iO) (λq=>(w,U,ps,4,i,ms,2,q.1,X,o,q.2,x.1,h.1,g)) (λq=>0<=q.1/\q.1<=2/\Ty.fit 16384 1073741824 J3 q.2/\0<=q.2.2) (λq=>2-q.1) ?_ (0,b7) rfl ⟨aZ _,om,O.1,O.2⟩;rintro⟨j,Z⟩ ⟨j1,j2,j3,j4⟩
  (try dsimp only at j1 j2 j3 j4)
  unfold zb;dsimp only;have oj:=Jm j 1;refine .lt (λcj=>?_) λ_=>.some ⟨(J1 .i64 i 1,Z),rfl,⟨om,om,j3,j4⟩,om,om⟩;obtain⟨m,em,aw⟩:=KH (l:=ms) j1 (by omega);have ai:=fm _ (zQ5 aw);refine .bind (hC em) λb0 aj=>?_;subst aj;refine .bind (Jl h7.2 (by omega) (by omega)) λK ay=>.bind (J4 (B:=16384) (S:=1073741824) (X:=(30,Z)) ⟨cS .i64 30,j3⟩ j4) λE P=>?_;have l5:J0 [w,K,E.1]=3:=rfl;have fn: ∀n∈[w,K,E.1],Ty.fit 0 0 (.i .i64) n:=(by intro n hn;simp only[dZ,List.not_mem_nil,or_false]at hn;rcases hn with rfl|rfl|rfl;exact q3;exact ay.1;exact P.1.1);rw[l5];generalize [w,K,E.1]=ns at fn l5;refine Jq (τ:=Int) (λk=>(w,U,ps,4,i,ms,2,j,ns,3,k,X,o,E.2,x.1,h.1,g,b0)) (λk=>0<=k/\k<=3) (λk=>3-k) ?_ 0 rfl ⟨by decide,by decide⟩;rintro t ⟨t1,t2⟩;unfold ze;dsimp only;have ot:=Jm t 1;refine .lt (λct=>?_) λ_=>.some ⟨(J1 .i64 j 1,E.2),rfl,⟨om,om,P.1.2,P.2.2.2⟩,om,om⟩;obtain⟨n,en,b3⟩:=KH (l:=ns) t1 (by omega);obtain⟨⟨r1,a1,a2⟩,r2,b1,b2⟩:=JFr ai I (fn _ (zQ5 b3));refine .bind (hC en) λc7 b5=>?_;subst b5;refine .bind (hC a1) λc2 an=>?_;subst an;refine .bind (hC a2) λc3 am=>?_;subst am;refine .bind (hC b1) λcc az=>?_;subst az;refine .bind (hC b2) λc6 b9=>?_;subst b9;exact .nof (λ_=>.nef (λ_=>.nef (λ_=>.ne (λc=>absurd rfl c) λ_=>.some ⟨J1 .i64 t 1,rfl,⟨by omega,by omega⟩,by omega,by omega⟩) λc=>absurd rfl c) λc=>absurd rfl c) λc=>(Bool.false_ne_true (c.symm.trans (dY.2 rfl))).elim
 obtain⟨y,e,d⟩:=b6;rw[e,d]
end Go.Am
end
section
namespace Go.Am
set_option maxRecDepth 20000
def BV{α:Type}(f:FuncId):List (FuncId×α)->Option α|[]=>none|(g,a)::r=>if f=g then some a else BV f r
noncomputable def lx:List (FuncId×AFn):=[(9,aL nd),(39,aL Xk),(37,aL Xd),(40,aL Yf),(19,aL Xy),(38,aL Wa),(104,aL Ym),(73,aL Xs),(51,aL Zm),(94,aL Ux),(71,aL Hj),(93,aL Gl),(91,aL E8),(92,aL G9),(70,aL G6),(49,aL Eu),(64,aL T3),(89,aL Xg),(67,aL On),(63,aL Of),(44,aL N6),(36,aL La),(32,aL Pm),(13,aL Ph)]
noncomputable def lq:List (FuncId×AFn):=[(14,aL L0),(103,aL T4),(198,aL Rc),(155,aL O5),(156,aL L4),(126,aL Pn),(144,aL Mz),(209,aL Ws),(227,aL M0),(228,aL Kt),(229,aL Lh),(185,aL O2),(66,aL Qy),(65,aL U9),(163,aL Qm),(132,aL Nc),(230,aL E9),(186,aL Pv),(187,aL X6),(143,aL Qq),(120,aL O3),(112,aL O4),(95,aL Q4),(33,aL Vs)]
noncomputable def mw:List (FuncId×AFn):=[(177,aL S4),(110,aL Er),(218,aL Gn),(179,aL I4),(176,aL Ml),(215,aL U2),(216,aL Gw),(217,aL Uw),(178,aL Lr),(133,aL Me),(115,aL Kw),(130,aL Gg),(147,aL Hs),(139,aL F5),(164,aL Fu),(175,aL Tq),(214,aL Wf),(174,aL Ts),(173,aL Q9),(138,aL T1),(172,aL Q7),(137,aL JCI),(117,aL Ms),(99,aL Yl)]
noncomputable def lr:List (FuncId×AFn):=[(131,aL Rg),(114,aL Qu),(166,aL F0),(45,aL Qx),(165,aL Nj),(134,aL Ti),(168,aL Iu),(212,aL U3),(169,aL Qn),(248,aL Rk),(211,aL P6),(167,aL Te),(170,aL Ln),(135,aL Ol),(213,aL E1),(171,aL Ns),(136,aL Vi),(116,aL Oq),(98,aL Np),(193,aL Ih),(235,aL H4),(236,aL Lk),(192,aL T7),(152,aL U5)]
noncomputable def lu:List (FuncId×AFn):=[(151,aL Wd),(153,aL Iz),(46,aL Oj),(194,aL V2),(197,aL Ig),(237,aL Si),(195,aL Gj),(238,aL JCl),(196,aL Ua),(154,aL Hp),(123,aL K3),(150,aL Tk),(122,aL Ht),(189,aL Es),(146,aL Kb),(222,aL Hi),(256,aL Pj),(233,aL Tp),(234,aL Hf),(190,aL W4),(148,aL Ov),(191,aL F2),(149,aL Tm),(21,aL N5)]
noncomputable def mp:List (FuncId×AFn):=[(111,aL Pf),(90,aL Km),(69,aL Oi),(48,aL Hv),(23,aL L9),(232,aL L7),(231,aL Tv),(188,aL Lb),(145,aL Hw),(121,aL Rt),(102,aL Ip),(100,aL U1),(160,aL V5),(210,aL Lg),(161,aL G8),(128,aL Wi),(243,aL Ri),(205,aL We),(245,aL Vo),(246,aL i8),(207,aL P1),(242,aL R7),(203,aL Ll),(202,aL Mr)]
noncomputable def l8:List (FuncId×AFn):=[(247,aL Qc),(208,aL Gm),(244,aL Ep),(206,aL S6),(200,aL Um),(240,aL Sc),(241,aL U4),(201,aL N7),(204,aL Hn),(239,aL S5),(199,aL Vd),(157,aL JBw),(158,aL Uk),(159,aL Wz),(127,aL JCS),(162,aL Kn),(129,aL Ho),(113,aL JBt),(97,aL Yu),(140,aL I3),(219,aL P8),(249,aL M3),(220,aL Us),(181,aL M1)]
noncomputable def mf:List (FuncId×AFn):=[(180,aL Kk),(141,aL Q5),(118,aL Qj),(221,aL Uh),(252,aL Y0),(250,aL Y5),(251,aL Ys),(223,aL Sa),(182,aL Md),(258,aL Lt),(255,aL Ma),(226,aL Nm),(260,aL Tc),(261,aL Zj),(262,aL Yd),(259,aL Ta),(257,aL So),(253,aL Sj),(224,aL Re),(254,aL Oc),(225,aL Ia),(183,aL Vc),(184,aL Q3),(142,aL L5)]
noncomputable def mq:List (FuncId×AFn):=[(119,aL Iy),(101,aL Zp),(96,aL Ze),(72,aL Zl),(50,aL Ft),(26,aL Yw),(8,aL Yt),(15,aL Fc),(16,aL Wn),(68,aL Zg),(47,aL Y2),(22,aL Yc),(18,aL Za),(17,aL Xh),(7,aL JBy),(88,aL X5),(87,aL Ul),(62,aL R4),(43,aL Uy),(30,aL Ui),(54,aL S8),(75,aL Kr),(74,aL W2),(76,aL Wv)]
noncomputable def l6:List (FuncId×AFn):=[(77,aL W3),(55,aL Pk),(41,aL Pg),(86,aL Xz),(61,aL F4),(59,aL Yo),(57,aL Iv),(78,aL Kg),(56,aL N4),(42,aL Qd),(20,aL L3),(6,aL Qf),(52,aL My),(27,aL U7),(34,aL Qp),(35,aL J9K),(12,aL G1),(24,aL M6),(11,aL Nx),(25,aL Rf),(4,aL Xe)]
noncomputable def fns:List (FuncId×AFn):=lx++(lq++(mw++(lr++(lu++(mp++(l8++(mf++(mq++(l6)))))))))
noncomputable def fks:List (FuncId×oE):=[]
noncomputable def fps:List (FuncId×Prm):=[(58,JBn),(60,JBS)]
abbrev PS:=FuncId->Option (List AV->List Blk->Option Res)
noncomputable def xT(p:PS):eN:=λf=>Al (BV f fns) (BV f fks) (BV f fps) (p f)
def AE(l:List TE):Prop:= ∀p,yF (AF (xT p)) l
theorem ae0:AE []:=λ_=>trivial
theorem eX{i g S l f}(hf: ∀p,xT p i=some (.fn (aL f)))(A:AE l)(q: ∀x,onO (mY g x) (λy=>uK (TG.of l) f y.1 y.2 (oP g))=S x)(hs:DY g=true:=by rfl):AE (aE i g S::l):=λp=>⟨lz (hf p) (A p) hs q,A p⟩
end Go.Am
end
