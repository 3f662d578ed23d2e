/-
  Parts of a proof.
-/
import Derived.Test.YtfedfekakecnfaaGreatM3
import Derived.Test.YtfedfekakecnfaaGreatM4
import Derived.Test.YtfedfekakecnfaaGreatM5
set_option linter.unusedSimpArgs false
set_option linter.unusedVariables false
section
namespace Go.Am
set_option linter.unusedVariables false
set_option maxRecDepth 20000
set_option maxHeartbeats 1000000
section
variable {B S:Int}
def EF(e:J2):Prop:=1<=e.1/\e.1<=1099511627776/\1<=e.2.2.1/\e.2.2.1<=1073741824/\0<=e.2.2.2.1/\e.2.2.2.1<e.1/\0<=e.2.2.2.2.1/\e.2.2.2.2.1<e.1/\0<=e.2.2.2.2.2.1/\e.2.2.2.2.2.1<e.1/\e.2.2.2.2.2.2.2=[]/\iH e.2.2.2.2.2.2.1=some true/\((e.2.1=1/\e.2.2.2.2.2.1=0)\/(e.2.1=2/\0<e.2.2.2.1/\1<=e.2.2.2.2.2.1/\e.2.2.2.2.2.1<=e.2.2.2.1))
theorem SM{x:JG}(e:jV x=some true):0<=x.1/\x.1<x.2:=by
 have g:Par (jV x) λy=>y=true->0<=x.1/\x.1<x.2:=by unfold jV;exact .ge (λc=>.some λd=>⟨c,iB.1 d⟩) λ_=>.some nofun
 exact g _ e rfl
theorem EF.of{e:J2}(h:Js e=some true)(hk:e.2.1=1\/e.2.1=2):EF e:=by
 have x:Par (mJ e) λy=>y.2=true->y.1=e->1<=e.2.2.1/\e.2.2.1<=1073741824/\e.2.2.2.2.2.2.2=[]/\iH e.2.2.2.2.2.2.1=some true/\((e.2.1=1/\e.2.2.2.2.2.1=0)\/(e.2.1=2/\0<e.2.2.2.1/\1<=e.2.2.2.2.2.1/\e.2.2.2.2.2.1<=e.2.2.2.1)):=by
  unfold mJ;refine .eq (λk=>.bind λH h2=>.eq (λg=>by omega) λ_=>.ite (λj=>.ge (λo=>.some λn L=>?_) λ_=>.some nofun) λ_=>.some nofun) λk=>.eq (λg=>.bind λH h2=>.eq (λ_=>.ite (λj=>.gt (λR=>.ge (λS=>.le (λQ=>.ge (λo=>.some λn L=>?_) λ_=>.some nofun) λ_=>.some nofun) λ_=>.some nofun) λ_=>.some nofun) λ_=>.some nofun) λc=>absurd g c) λg=>by omega
  grind [eF];grind [eF]
 have q:Par (Js e) λy=>y=true->EF e:=by unfold Js;refine .bind λa M=>.ite (λk=>.ite (λg=>.ge (λo=>.le (λn=>.bind λb1 v=>.ite (λF=>.bind λb2 r=>.ite (λj=>.bind λP w=>.some λC=>?_) λ_=>.some nofun) λ_=>.some nofun) λ_=>.some nofun) λ_=>.some nofun) λ_=>.some nofun) λ_=>.some nofun;subst F;subst j;subst C;obtain⟨N,O,I,K,J⟩:=x _ M k (dJ.1 g);obtain⟨G,D⟩:=SM v;obtain⟨z,B⟩:=SM r;obtain⟨A,E⟩:=SM w;exact⟨o,n,N,O,G,D,z,B,A,E,I,K,J⟩
 exact q _ h rfl
theorem ra{c:fX}(h:fS c=some true):Tot (CQ c) λy=>y=true:=by have e:CQ c=fS c:=rfl;exact⟨true,e.trans h,rfl⟩
theorem uu{c:aK}(h:iH c=some true):Tot (uT c) λy=>y=true:=by
 have j:Par (iH c) λy=>y=true->0<=c.1/\c.1<64/\0<=c.2.1/\c.2.1<16/\fS c.2.2.1=some true/\fS c.2.2.2=some true:=by unfold iH;refine .ge (λe=>.lt (λg=>.ge (λn=>.lt (λk=>.bind λa E=>.ite (λA=>.bind λb D=>.some λw=>?_) λ_=>.some nofun) λ_=>.some nofun) λ_=>.some nofun) λ_=>.some nofun) λ_=>.some nofun;simp_all
 obtain⟨e,g,n,k,o,r⟩:=j _ h rfl;unfold uT;have v:Tot (CC c.1) λy=>y=true:=by unfold CC;exact .ge (λ_=>.some (iB.2 g)) λc=>absurd e c
 refine .bind v λC d=>.ite (λ_=>.ge (λ_=>.lt (λ_=>.bind (ra o) λz x=>.ite (λ_=>.bind (ra r) λB q=>.some q) λc=>by simp_all) λc=>absurd k c) λc=>absurd n c) λc=>by simp_all
theorem JDD{e:J2}(h:EF e):Tot (oG e) λy=>y=true:=by
 obtain⟨O,P,M,N,C,B,w,v,D,k,g,q,F⟩:=h;have j: ∀{n:Int},0<=n->n<e.1->Tot (pY (n,e)) λy=>y=true:=fun{n} h1 h2=>by unfold pY;exact .ge (λ_=>.some (iB.2 h2)) λc=>absurd h1 c
 have J: ∀{b:Bool} {Q:Prop},b=true->Jm b=true->Q:=fun{b Q} h1 h2=>by subst h1;cases h2
 have L:neS e.2.2.2.2.2.2.2 []=false:=by rw[g];rfl
 have r:J0 e.2.2.2.2.2.2.2<=8192:=by rw[g];decide
 unfold oG;refine .ltf (λ_=>.gtf (λ_=>.ltf (λ_=>.gtf (λ_=>.bind (j C B) λK G=>.nof (λ_=>.bind (j w v) λI H=>.nof (λ_=>.bind (j D k) λA o=>.not (λc=>by simp_all) λ_=>?_) λc=>by simp_all) λc=>by simp_all) λc=>by omega) λc=>by omega) λc=>by omega) λc=>by omega
 refine .eq (λc=>by omega) λ_=>.eq (λc=>by omega) λ_=>.eq (λc=>by omega) λ_=>.eq (λc=>by omega) λ_=>.eq (λc=>by omega) λ_=>.eq (λc=>by omega) λ_=>.eq (λz=>?_) λz=>.eq (λx=>?_) λx=>by omega
 refine .ltf (λ_=>.gt (λc=>by omega) λ_=>.eq (λc=>by omega) λ_=>.ite (λc=>by simp_all) λ_=>.le (λ_=>?_) λc=>absurd r c) λc=>by omega
 have E:Tot (lS e) λy=>y=true:=by unfold lS;exact .ge (λ_=>.some (eF.2 (by omega))) λc=>by omega
 exact .bind E λy d=>.ite (λ_=>.bind (uu q) λA o=>.some o) λc=>by simp_all
 refine .ltf (λ_=>.gt (λc=>by omega) λ_=>.ne (λc=>by omega) λ_=>.ite (λc=>by simp_all) λ_=>.le (λ_=>?_) λc=>absurd r c) λc=>by omega
 grind [iI,uu]
def aQ(e:J2):Int:=e.2.2.2.2.2.2.1.1
def qY(r:JZ):Prop:=1<=r.1/\r.1<=r.2.1/\r.2.1<=1099511627776/\0<=r.2.2.1/\r.2.2.1<=r.2.2.2.1/\r.2.2.2.1<64/\0<=r.2.2.2.2.1/\r.2.2.2.2.1<=8
def KT(r:JZ)(e:J2):Prop:=Js e=some true/\(e.2.1=1\/e.2.1=2)/\r.1<=e.1/\e.1<=r.2.1/\r.2.2.1<=aQ e/\aQ e<=r.2.2.2.1
def lE(f:Int)(a b:J2):Prop:=(aQ a<aQ b/\b.2.2.2.2.1<f)\/(aQ a=aQ b/\a.1<b.1/\b.2.2.2.2.1=a.1)
def nM(r:JZ):Prop:=qY r/\J0 r.2.2.2.2.2<=4096/\(∀(j:Nat) (e:J2),r.2.2.2.2.2[j]?=some e->KT r e)/\(∀e,r.2.2.2.2.2[0]?=some e->e.2.2.2.2.1<r.1)/\ ∀(j:Nat) (a b:J2),r.2.2.2.2.2[j]?=some a->r.2.2.2.2.2[j+1]?=some b->lE r.1 a b
theorem qY.of{r:JZ}(h:mO (r.1,r.2.1,r.2.2.1,r.2.2.2.1,r.2.2.2.2.1)=some true):qY r:=by
 have e:Par (mO (r.1,r.2.1,r.2.2.1,r.2.2.2.1,r.2.2.2.2.1)) λy=>y=true->qY r:=by unfold mO;exact .ge (λv=>.le (λg=>.le (λw=>.ge (λq=>.le (λn=>.lt (λo=>.ge (λj=>.some λk=>⟨v,g,w,q,n,o,j,eF.1 k⟩) λ_=>.some nofun) λ_=>.some nofun) λ_=>.some nofun) λ_=>.some nofun) λ_=>.some nofun) λ_=>.some nofun) λ_=>.some nofun
 exact e _ h rfl
theorem JDU{e:J2}(h:JA e=some true):e.2.1=1\/e.2.1=2:=by
 grind [JA,jR]
theorem vw{e:J2}(h:e.2.1=1\/e.2.1=2):Tot (JA e) λy=>y=true:=by unfold JA;exact .eqf (λc=>.some (jR.2 (by omega))) λ_=>.some rfl
theorem Rq{e:J2}(h:e.2.1=1\/e.2.1=2):Tot (xW e) λy=>y=true:=vw h
theorem th{a b:J2}{y:Int}(h:oI (a,b)=some y)(c: ¬0<=y):aQ a<aQ b\/(aQ a=aQ b/\a.1<b.1):=by
 have e:Par (oI (a,b)) λy=> ¬0<=y->aQ a<aQ b\/(aQ a=aQ b/\a.1<b.1):=by unfold oI;exact .ltf (λ_=>.eq (λj=>.lt (λg=>.some λ_=>.inr ⟨j,g⟩) λ_=>.eq (λ_=>.eq (λ_=>.some λc=>absurd (bA 0) c) λ_=>.some λc=>absurd (by decide) c) λ_=>.some λc=>absurd (by decide) c) λ_=>.eq (λ_=>.eq (λ_=>.some λc=>absurd (bA 0) c) λ_=>.some λc=>absurd (by decide) c) λ_=>.some λc=>absurd (by decide) c) λc=>.some λ_=>.inl c
 exact e _ h c
theorem JA3{a b:J2}(h:aQ a<aQ b\/(aQ a=aQ b/\a.1<b.1)):Tot (oI (a,b)) λy=> ¬0<=y:=by unfold aQ at h;unfold oI;exact .ltf (λc=>.eq (λe=>.lt (λg=>.some (by decide)) λj=>by simp_all) λe=>by simp_all) λc=>.some (by decide)
theorem nM.of{r:JZ}(h:mK r=some true):nM r:=by
 have G:Par (mK r) λy=>y=true->nM r:=by
  unfold mK;refine .bind λa g=>.nof (λQ=>.gt (λ_=>.some nofun) λR=>?_) λ_=>.some nofun;subst Q;refine .while (λz=>z.2=r/\0<=z.1/\(∀(j:Nat) (e:J2),(j:Int)<z.1->r.2.2.2.2.2[j]?=some e->KT r e)/\(∀e,0<z.1->r.2.2.2.2.2[0]?=some e->e.2.2.2.2.1<r.1)/\ ∀(j:Nat) (a b:J2),(j:Int)+1<z.1->r.2.2.2.2.2[j]?=some a->r.2.2.2.2.2[j+1]?=some b->lE r.1 a b) ⟨rfl,bA _,λj e h=>by grind,λe h=>by simp_all,λj a b h=>by grind⟩ ?_;rintro⟨i,z⟩ ⟨rfl,S,h1,h2,M⟩
  (try dsimp only at S h1 h2 M R)
  unfold XL;dsimp only;have o1:=Jh i 1;have o2:=bE i 1;refine .lt (λc=>?_) λc=>.some λ_=>⟨qY.of g,by omega,λj e n=>h1 j e (by have:=kL n;omega) n,λe n=>h2 e (by have:=kL n;omega) n,λj a b F C=>M j a b (by have:=kL C;omega) F C⟩;refine .bind λe n=>.bind λb J=>.nof (λU=>.bind λd hd=>.nof (λP=>.ltf (λc5=>.gtf (λc6=>.ltf (λc7=>.gt (λ_=>.some nofun) λc8=>?_) λ_=>.some nofun) λ_=>.some nofun) λ_=>.some nofun) λ_=>.some nofun) λ_=>.some nofun;subst U;subst P;obtain⟨_,Y⟩:=cE n;have O:KT z e:=⟨J,JDU hd,by omega,by omega,by grind [aQ],by grind [aQ]⟩;have D:(i=0->e.2.2.2.2.1<z.1)->(∀a,0<i->z.2.2.2.2.2[(i-1).toNat]?=some a->lE z.1 a e)->(z=z/\0<=J1 .i64 i 1/\(∀(j:Nat) (e:J2),(j:Int)<J1 .i64 i 1->z.2.2.2.2.2[j]?=some e->KT z e)/\(∀e,0<J1 .i64 i 1->z.2.2.2.2.2[0]?=some e->e.2.2.2.2.1<z.1)/\ ∀(j:Nat) (a b:J2),(j:Int)+1<J1 .i64 i 1->z.2.2.2.2.2[j]?=some a->z.2.2.2.2.2[j+1]?=some b->lE z.1 a b):=by
   intro n1 n2;refine⟨rfl,by omega,λj f V L=>?_,λf hp L=>?_,λj a b V g J=>?_⟩;by_cases T:(j:Int)<i;grind;have:j=i.toNat:=by omega
   grind;by_cases hi:0<i;grind;have I:i=0:=by omega
   subst I;grind;by_cases T:(j:Int)+1<i;grind;have e1:j+1=i.toNat:=by omega
   have e2:j=(i-1).toNat:=by omega
   grind
  have x: ∀{a:J2},0<i->idx z.2.2.2.2.2 (Jx .i64 i 1)=some a->z.2.2.2.2.2[(i-1).toNat]?=some a:=fun{a} hi g=>by obtain⟨_,q⟩:=cE g;rw[show(i-1).toNat=(Jx .i64 i 1).toNat by omega];exact q
  have zero: ¬0<i-> ¬z.1<=e.2.2.2.2.1->(z=z/\0<=J1 .i64 i 1/\(∀(j:Nat) (e:J2),(j:Int)<J1 .i64 i 1->z.2.2.2.2.2[j]?=some e->KT z e)/\(∀e,0<J1 .i64 i 1->z.2.2.2.2.2[0]?=some e->e.2.2.2.2.1<z.1)/\ ∀(j:Nat) (a b:J2),(j:Int)+1<J1 .i64 i 1->z.2.2.2.2.2[j]?=some a->z.2.2.2.2.2[j+1]?=some b->lE z.1 a b):=λhi L=>D (λ_=>by omega) λa h=>absurd h hi;refine .gt (λw=>.bind λZ B=>.bind λy8 H=>.ge (λ_=>.some nofun) λE=>.gt (λ_=>.bind λy9 k=>.eq (λA=>.bind λW o=>.ne (λ_=>.some nofun) λv=>.some ?_) λA=>.ge (λ_=>.some nofun) λv=>.some ?_) λc=>absurd w c) λw=>.gt (λc=>absurd c w) λ_=>.ge (λ_=>.some nofun) λv=>.some (zero w v);rw[B]at k o;injection k with k;injection o with o;subst k;subst o;refine D (λh=>by omega) λa _ g=>?_;rw[x w B]at g;injection g with g;subst g;rcases th H E with q|⟨K,N⟩;grind [aQ];exact .inr ⟨A,N,v⟩;rw[B]at k;injection k with k;subst k;refine D (λh=>by omega) λa _ g=>?_;rw[x w B]at g;injection g with g;subst g;rcases th H E with q|⟨K,N⟩;exact .inl ⟨q,by omega⟩;exact absurd K A
 exact G _ h rfl
end
section
variable {B S:Int}
theorem kN{α:Type}{l:List α}{i:Int}(h0:0<=i)(h1:i<J0 l): ∃a,idx l i=some a/\l[i.toNat]?=some a:=by simp_all [J0,idx]
theorem u0{r:JZ}(h:qY r):Tot (mO (r.1,r.2.1,r.2.2.1,r.2.2.2.1,r.2.2.2.2.1)) λy=>y=true:=by obtain⟨h1,h2,o,k,n,e,j,g⟩:=h;unfold mO;exact .ge (λ_=>.le (λ_=>.le (λ_=>.ge (λ_=>.le (λ_=>.lt (λ_=>.ge (λ_=>.some (eF.2 g)) λc=>absurd j c) λc=>absurd e c) λc=>absurd n c) λc=>absurd k c) λc=>absurd o c) λc=>absurd h2 c) λc=>absurd h1 c
theorem Nv{r:JZ}(h:qY r):Tot (HM r) λy=>y=true:=by obtain⟨h1,h2,o,k,n,e,j,g⟩:=h;unfold HM;exact .ge (λ_=>.le (λ_=>.le (λ_=>.ge (λ_=>.le (λ_=>.lt (λ_=>.ge (λ_=>.some (eF.2 g)) λc=>absurd j c) λc=>absurd e c) λc=>absurd n c) λc=>absurd k c) λc=>absurd o c) λc=>absurd h2 c) λc=>absurd h1 c
theorem fH{α:Type}{o:Option α}{v:α}(h:o=some v):Tot o λy=>y=v:=⟨v,h,rfl⟩
theorem sm{r:JZ}(h:nM r){i:Int}(hi:0<i)(hl:i<J0 r.2.2.2.2.2){a b:J2}(ha:r.2.2.2.2.2[(i-1).toNat]?=some a)(hb:r.2.2.2.2.2[i.toNat]?=some b):lE r.1 a b:=
 h.2.2.2.2 (i-1).toNat a b ha (by rw[show(i-1).toNat+1=i.toNat by omega];exact hb)
theorem tm{r:JZ}(h:nM r):mK r=some true:=by
 have o:Tot (mK r) λy=>y=true:=by
  obtain⟨M,g2,K,Z,g5⟩:=id h;unfold mK;refine .bind (u0 M) λy2 R=>.nof (λ_=>.gt (λc=>by omega) λ_=>?_) λc=>by grind
  refine Jl (τ:=Int) (λq=>(q,r)) (λq=>0<=q/\q<=J0 r.2.2.2.2.2) (λq=>J0 r.2.2.2.2.2-q) ?_ 0 rfl ⟨bA _,Jd⟩;rintro i ⟨L,h1⟩;unfold XL;dsimp only;have Y:=Jh i 1;have V:=bE i 1;refine .lt (λc=>?_) λc=>.some rfl;obtain⟨e,O,j⟩:=kN L c;obtain⟨F,C,Q,S,A,D⟩:=K _ e j;have k: ∃c':Int,((J1 .i64 i 1,r):Int×JZ)=(c',r)/\(0<=c'/\c'<=J0 r.2.2.2.2.2)/\J0 r.2.2.2.2.2-c'<J0 r.2.2.2.2.2-i/\0<=J0 r.2.2.2.2.2-i:=⟨J1 .i64 i 1,rfl,⟨by omega,by omega⟩,by omega,by omega⟩;unfold aQ at A D;refine .bind (fH O) λH J=>?_;subst J;refine .bind (fH F) λW d5=>.nof (λ_=>.bind (vw C) λy6 U=>.nof (λ_=>.ltf (λ_=>.gtf (λ_=>.ltf (λ_=>.gt (λc=>by omega) λ_=>?_) λc=>by omega) λc=>by omega) λc=>by omega) λc=>by grind) λc=>by grind
  refine .gt (λg=>?_) λg=>.gt (λc=>absurd c g) λ_=>.ge (λc=>?_) λ_=>.some k
  ·have N:Jx .i64 i 1=i-1:=by omega
   rw[N];obtain⟨a,n,w⟩:=kN (l:=r.2.2.2.2.2) (i:=i-1) (by omega) (by omega);have x:=sm h g c w j;refine .bind (fH n) λB E=>?_;subst E;refine .bind (JA3 (a:=B) (b:=H) (by rcases x with⟨q,_⟩|⟨q1,q2,_⟩;all_goals grind)) λT I=>.ge (λc=>absurd c I) λ_=>.gt (λ_=>.bind (fH n) λy9 G=>?_) λc=>absurd g c;subst G;unfold lE aQ at x;refine .eq (λv=>.bind (fH n) λP z=>?_) λv=>.ge (λc=>by omega) λ_=>.some k;subst z;exact .ne (λc=>by omega) λ_=>.some k
  grind
 obtain⟨y,e,d⟩:=o;rw[e,d]
theorem Ik{a b:J2}(h:aQ a=aQ b/\a.1<b.1):Tot (HB (a,b)) λy=> ¬0<=y:=by
 obtain⟨h1,h2⟩:=h;unfold aQ at h1;have g:sR (a.2.2.2.2.2.2.1.1,b.2.2.2.2.2.2.1.1)=some 0:=(by grind [sR,HJ,aJ,aN]);have e:sR (a.1,b.1)=some (-1):=(by grind [sR,HJ,aM,aJ]);unfold HB;dsimp only;rw[g,e];show Tot ((BM [0, -1]).bind _) _;have j:BM [0, -1]=some (-1):=by unfold BM;rw[iF (s':=(0,[0, -1],J0 ([0, -1]:List Int),1)) (by rfl)];exact eT (by rfl)
 rw[j];exact .some (by decide)
theorem OH{r:JZ}(h:nM r):iE r=some true:=by
 have w:Tot (iE r) λy=>y=true:=by
  obtain⟨O,g2,L,Z,g5⟩:=id h;unfold iE;refine .bind (Nv O) λy2 T=>.nof (λ_=>.gt (λc=>by omega) λ_=>?_) λc=>by grind
  refine Jl (τ:=Int) (λq=>(r.2.2.2.2.2,J0 r.2.2.2.2.2,q,r)) (λq=>0<=q/\q<=J0 r.2.2.2.2.2) (λq=>J0 r.2.2.2.2.2-q) ?_ 0 rfl ⟨bA _,Jd⟩;rintro i ⟨M,h1⟩;unfold js;dsimp only;have Y:=Jh i 1;have V:=bE i 1;refine .lt (λc=>?_) λc=>.some rfl;obtain⟨e,Q,g⟩:=kN M c;obtain⟨E,o,A,B,n,v⟩:=L _ e g;have k: ∃c':Int,((r.2.2.2.2.2,J0 r.2.2.2.2.2,J1 .i64 i 1,r):WJ)=(r.2.2.2.2.2,J0 r.2.2.2.2.2,c',r)/\(0<=c'/\c'<=J0 r.2.2.2.2.2)/\J0 r.2.2.2.2.2-c'<J0 r.2.2.2.2.2-i/\0<=J0 r.2.2.2.2.2-i:=⟨J1 .i64 i 1,rfl,⟨by omega,by omega⟩,by omega,by omega⟩;unfold aQ at n v;have N:Tot (HI (r,e)) λy=>y=true:=by unfold HI;exact .bind (Rq o) λy d=>.ite (λ_=>.ge (λ_=>.le (λ_=>.ge (λ_=>.some (eF.2 B)) λc=>absurd A c) λc=>absurd v c) λc=>absurd n c) λc=>by grind
  refine .bind (fH Q) λH K=>?_;subst K;refine .bind (JDD (EF.of E o)) λW d5=>.nof (λ_=>.bind N λy6 U=>.not (λc=>by grind) λ_=>?_) λc=>by grind
  refine .eqf (λF=>?_) λF=>.ge (λc=>?_) λ_=>.some k;have hi:0<i:=by omega
  have P:Jx .i64 i 1=i-1:=by omega
  rw[P];obtain⟨a,z,x⟩:=kN (l:=r.2.2.2.2.2) (i:=i-1) (by omega) (by omega);have j:=sm h hi c x g;refine .bind (fH z) λS C=>?_;subst C;refine .lt (λJ=>.ge (λc=>?_) λ_=>.some k) λJ=>.bind (fH z) λD I=>?_;unfold lE aQ at j;omega;subst I;have R:=j;unfold lE aQ at j;refine .bind (Ik (a:=D) (b:=H) (by unfold aQ;omega)) λy9 G=>.gef (λ_=>.ne (λc=>by omega) λ_=>.some k) λc=>absurd c G;grind
 obtain⟨y,e,d⟩:=w;rw[e,d]
end
section
variable {B S:Int}
def ent(r:JZ):List J2:=r.2.2.2.2.2
theorem Dq{α:Type}{bytes:Nat}{l m:List α}(h:J0 l+J0 m<=34359738368)(hb:bytes<=2048):JB bytes l m=some (l++m):=by
 grind [JB,ed,J0]
def vO(id:Int)(e:J2):Bool:=aI (aQ e) id
end
section
variable {B S:Int}
theorem JJJ{l:List Int}{y:Jq}(e:rU (l,400)=some y):y.2=0/\J0 y.1<=400:=by
 have g:Par (rU (l,400)) λy=>y.2=0/\J0 y.1<=400:=by unfold rU;dsimp only;refine .gt (λc=>.bind λa h=>.some ⟨rfl,?_⟩) λc=>.some ⟨rfl,by simp_all⟩;obtain⟨r,j,_,h2⟩:=WF (l:=l) (k:=400) (by decide) (by omega);simp_all
 exact g _ e
end
section
variable {B S:Int}
theorem gb(x:Int×J2):Tot (pY x) λy=>y=true->0<=x.1/\x.1<x.2.1:=by unfold pY;exact .ge (λc=>.some λd=>⟨c,iB.1 d⟩) λ_=>.some nofun
theorem Gx(c:fX):Tot (CQ c) λy=>fS c=some y:=by
 have g:Tot (fS c) λ_=>True:=by unfold fS;exact .ite (λ_=>.itf (λ_=>.some trivial) λ_=>.some trivial) λ_=>.some trivial
 obtain⟨y,e,_⟩:=g;exact⟨y,e,e⟩
theorem JHj(n:Int):Tot (CC n) λy=>y=true->0<=n/\n<64:=by unfold CC;exact .ge (λc=>.some λd=>⟨c,iB.1 d⟩) λ_=>.some nofun
theorem sk(c:aK):Tot (uT c) λy=>y=true->iH c=some true:=by
 unfold uT;refine .bind (JHj c.1) λk h2=>.ite (λe=>.ge (λr=>.lt (λn=>.bind (Gx c.2.2.1) λj v=>.ite (λh=>.bind (Gx c.2.2.2) λo q=>.some λg=>?_) λ_=>.some nofun) λ_=>.some nofun) λ_=>.some nofun) λ_=>.some nofun;grind [iH,zX,iB]
theorem JKk(c:aK):Tot (xT c) λ_=>True:=⟨_,rfl,trivial⟩
theorem Cp(e:J2):Tot (iI e) λ_=>True:=⟨_,rfl,trivial⟩
theorem JNZ(e:J2):Tot (lS e) λy=>y=true->1<=e.2.2.2.2.2.1/\e.2.2.2.2.2.1<=e.2.2.2.1:=by unfold lS;exact .ge (λc=>.some λd=>⟨c,eF.1 d⟩) λ_=>.some nofun
theorem JNz(c:aK):Tot (CO c) λ_=>True:=by unfold CO;exact .ite (λ_=>.ite (λ_=>.some trivial) λ_=>.some trivial) λ_=>.some trivial
theorem Gu{l:List UInt8}(h:neS l []=false):l=[]:=by
 grind [neS]
theorem JKY(e:J2):Tot (oG e) λy=>y=true->(e.2.1=1\/e.2.1=2)->EF e:=by
 have g: ∀{o:Option Bool},(3<=e.2.1\/e.2.1<=0)->Tot o (λ_=>True)->Tot o λy=>y=true->(e.2.1=1\/e.2.1=2)->EF e:=λh ht=>ht.mono λ_ _ _ M=>by omega
 unfold oG;refine .ltf (λP=>.gtf (λQ=>.ltf (λN=>.gtf (λO=>.bind (gb _) λL h2=>.nof (λA=>.bind (gb _) λJ H=>.nof (λB=>.bind (gb _) λK E=>.not (λ_=>.some nofun) λD=>?_) λ_=>.some nofun) λ_=>.some nofun) λ_=>.some nofun) λ_=>.some nofun) λ_=>.some nofun) λ_=>.some nofun;have b2:=h2 A;have j:=H B;have k:=E D;refine .eq (λc=>g (by omega) ?_) λ_=>.eq (λc=>g (by omega) ?_) λ_=>.eq (λc=>g (by omega) ?_) λ_=>.eq (λc=>g (by omega) ?_) λ_=>.eq (λc=>g (by omega) ?_) λ_=>.eq (λc=>g (by omega) ?_) λ_=>.eq (λx=>?_) λx=>.eq (λw=>?_) λw=>by omega
 case refine_7=>refine .ltf (λG=>.gt (λ_=>.some nofun) λC=>.eq (λ_=>.some nofun) λv=>.ite (λ_=>.some nofun) λn=>.le (λ_=>.bind (JNZ e) λy h=>.ite (λd=>.bind (sk _) λz r=>.some λq _=>?_) λ_=>.some nofun) λ_=>.some nofun) λ_=>.some nofun;obtain⟨F,I⟩:=h d;exact⟨by omega,by omega,by omega,by omega,b2.1,b2.2,j.1,j.2,k.1,k.2,Gu n,r q,.inr ⟨x,by have:=b2.1;(try dsimp only at this);omega,F,I⟩⟩
 case refine_8=>refine .ltf (λG=>.gt (λ_=>.some nofun) λC=>.ne (λ_=>.some nofun) λv=>.ite (λ_=>.some nofun) λn=>.le (λ_=>.bind (Cp e) λy h=>.ite (λd=>.bind (sk _) λz r=>.some λq _=>?_) λ_=>.some nofun) λ_=>.some nofun) λ_=>.some nofun;exact⟨by omega,by omega,by omega,by omega,b2.1,b2.2,j.1,j.2,k.1,k.2,Gu n,r q,.inl ⟨w,v⟩⟩
 all_goals repeat' first
  |exact .some trivial
  |refine .ite (λ_=>?_) λ_=>?_
  |refine .itf (λ_=>?_) λ_=>?_
  |refine .bind (Cp _) λ_ _=>?_
  |refine .bind (JKk _) λ_ _=>?_
  |refine .bind (JNz _) λ_ _=>?_
end
section
variable {B S:Int}
def tG(x y:Int):Int:=if x<y then -1 else if y<x then 1 else 0
def tB(a b:J2):Int:=if tG (aQ a) (aQ b)=0 then tG a.1 b.1 else tG (aQ a) (aQ b)
theorem JHy(x:Int):aM x x=false:=by simp[aM]
theorem Co(x y:Int):sR (x,y)=some (tG x y):=by
 grind [sR,HJ,tG,JHy,aJ,aN]
theorem JNW(p q:Int):BM [p,q]=some (if p=0 then q else p):=by
 unfold BM;have h: ∀p q:Int,XC (0,[p,q],J0 [p,q],0)=if aM p 0=true then some (.inr p)else some (.inl (0,[p,q],J0 [p,q],1)):=λp q=>rfl
 have e: ∀p q:Int,XC (0,[p,q],J0 [p,q],1)=if aM q 0=true then some (.inr q)else some (.inl (0,[p,q],J0 [p,q],2)):=λp q=>rfl
 have k: ∀p q:Int,XC (0,[p,q],J0 [p,q],2)=some (.inr 0):=λp q=>rfl;by_cases g:p=0;subst g;rw[if_pos rfl,iF ((h 0 q).trans (if_neg (by decide)))];by_cases j:q=0;subst j;rw[iF ((e 0 0).trans (if_neg (by decide)))];grind [eT];grind [eT,zW];grind [eT,zW]
theorem JKF(a b:J2):HB (a,b)=some (tB a b):=by
 grind [HB,tB,aQ,Co,JNW]
def ltE(a b:J2):Prop:=aQ a<aQ b\/(aQ a=aQ b/\a.1<b.1)
theorem pw{a b:J2}:tB a b<0↔ltE a b:=by
 grind [tB,tG,ltE]
theorem gi{a b:J2}:tB a b=0↔aQ a=aQ b/\a.1=b.1:=by
 grind [tB,tG]
theorem JN7(r:JZ):Tot (HM r) λy=>y=true->qY r:=by unfold HM;exact .ge (λo=>.le (λe=>.le (λq=>.ge (λn=>.le (λj=>.lt (λk=>.ge (λg=>.some λh=>⟨o,e,q,n,j,k,g,eF.1 h⟩) λ_=>.some nofun) λ_=>.some nofun) λ_=>.some nofun) λ_=>.some nofun) λ_=>.some nofun) λ_=>.some nofun) λ_=>.some nofun
theorem JMc(e:J2):Tot (xW e) λy=>y=true->e.2.1=1\/e.2.1=2:=by unfold xW;exact .eqf (λ_=>.some λd=>.inr (jR.1 d)) λc=>.some λ_=>.inl c
theorem JMN(r:JZ)(e:J2):Tot (HI (r,e)) λy=>y=true->(e.2.1=1\/e.2.1=2)/\r.1<=e.1/\e.1<=r.2.1/\r.2.2.1<=aQ e/\aQ e<=r.2.2.2.1:=by unfold HI;exact .bind (JMc e) λy h=>.ite (λd=>.ge (λk=>.le (λg=>.ge (λn=>.some λj=>⟨h d,n,eF.1 j,k,g⟩) λ_=>.some nofun) λ_=>.some nofun) λ_=>.some nofun) λ_=>.some nofun
theorem JJ6{t:Ty}(x:t.D):eqT t x x=true:=dJ.2 rfl
theorem JGN{e:J2}(h:EF e)(hk:e.2.1=1\/e.2.1=2):Js e=some true:=by
 obtain⟨H,I,w,Q,E,A,z,x,F,o,K,g,v⟩:=h;have j: ∀{n:Int},0<=n->n<e.1->jV (n,e.1)=some true:=fun{n} h1 h2=>by
  grind [jV,zX,iB]
 have sh:Tot (mJ e) λy=>y=(e,true):=(by unfold mJ;rcases v with⟨k,q⟩|⟨k,C,J,D⟩;refine .eq (λ_=>.bind (fH g) λy d=>.eq (λc=>by omega) λ_=>.ite (λ_=>.ge (λ_=>.some ?_) λc=>absurd w c) λc=>by simp_all) λc=>absurd k c;grind [eF];refine .eq (λc=>by omega) λ_=>.eq (λ_=>.bind (fH g) λy d=>.eq (λ_=>.ite (λ_=>.gt (λ_=>.ge (λ_=>.le (λ_=>.ge (λ_=>.some ?_) λc=>absurd w c) λc=>absurd D c) λc=>absurd J c) λc=>absurd C c) λc=>by simp_all) λc=>absurd k c) λc=>absurd k c;grind [eF]);have r:Tot (Js e) λy=>y=true:=by unfold Js;refine .bind sh λy d=>?_;subst d;exact .ite (λ_=>.ite (λ_=>.ge (λ_=>.le (λ_=>.bind (fH (j E A)) λP L=>.ite (λ_=>.bind (fH (j z x)) λN M=>.ite (λ_=>.bind (fH (j F o)) λO B=>.some B) λc=>by simp_all) λc=>by simp_all) λc=>absurd I c) λc=>absurd H c) λc=>by grind [JJ6]) λc=>by cases c
 obtain⟨y,G,d⟩:=r;rw[G,d]
theorem JNk(r:JZ):Tot (iE r) λy=>y=true->nM r:=by
 unfold iE;refine .bind (JN7 r) λy1 A=>.nof (λM=>.gt (λ_=>.some nofun) λc2=>?_) λ_=>.some nofun;have A:=A M;have L:=Jd (l:=r.2.2.2.2.2);refine Jl (τ:=Int) (λq=>(r.2.2.2.2.2,J0 r.2.2.2.2.2,q,r)) (λi=>0<=i/\i<=J0 r.2.2.2.2.2/\(∀(j:Nat) (e:J2),(j:Int)<i->r.2.2.2.2.2[j]?=some e->EF e/\(e.2.1=1\/e.2.1=2)/\r.1<=e.1/\e.1<=r.2.1/\r.2.2.1<=aQ e/\aQ e<=r.2.2.2.1)/\(∀e,0<i->r.2.2.2.2.2[0]?=some e->e.2.2.2.2.1<r.1)/\ ∀(j:Nat) (a b:J2),(j:Int)+1<i->r.2.2.2.2.2[j]?=some a->r.2.2.2.2.2[j+1]?=some b->lE r.1 a b) (λq=>J0 r.2.2.2.2.2-q) ?_ 0 rfl ⟨bA _,L,λj e h=>by omega,λe h=>by omega,λj a b h=>by omega⟩;rintro i ⟨S,hn,h1,h2,Z⟩;unfold js;dsimp only;have o1:=Jh i 1;have o2:=bE i 1;refine .lt (λc=>?_) λc=>.some λ_=>⟨A,by omega,λj e k=>?_,λe k=>h2 e (by have:=kL k;omega) k,λj a b E o=>Z j a b (by have:=kL o;omega) E o⟩;obtain⟨e,k,a1⟩:=kN S c;refine .bind (fH k) λg Q=>?_;subst Q;refine .bind (JKY g) λy5 U=>.nof (λY=>.bind (JMN r g) λy6 P=>.not (λ_=>.some nofun) λN=>?_) λ_=>.some nofun;have H:=P N;have J:EF g/\(g.2.1=1\/g.2.1=2)/\r.1<=g.1/\g.1<=r.2.1/\r.2.2.1<=aQ g/\aQ g<=r.2.2.2.1:=⟨U Y H.1,H⟩;have x:(i=0->g.2.2.2.2.1<r.1)->(∀a,0<i->r.2.2.2.2.2[(i-1).toNat]?=some a->lE r.1 a g)-> ∃c':Int,((r.2.2.2.2.2,J0 r.2.2.2.2.2,J1 .i64 i 1,r):WJ)=(r.2.2.2.2.2,J0 r.2.2.2.2.2,c',r)/\(0<=c'/\c'<=J0 r.2.2.2.2.2/\(∀(j:Nat) (e:J2),(j:Int)<c'->r.2.2.2.2.2[j]?=some e->EF e/\(e.2.1=1\/e.2.1=2)/\r.1<=e.1/\e.1<=r.2.1/\r.2.2.1<=aQ e/\aQ e<=r.2.2.2.1)/\(∀e,0<c'->r.2.2.2.2.2[0]?=some e->e.2.2.2.2.1<r.1)/\ ∀(j:Nat) (a b:J2),(j:Int)+1<c'->r.2.2.2.2.2[j]?=some a->r.2.2.2.2.2[j+1]?=some b->lE r.1 a b)/\J0 r.2.2.2.2.2-c'<J0 r.2.2.2.2.2-i/\0<=J0 r.2.2.2.2.2-i:=by
  intro n1 n2;refine⟨J1 .i64 i 1,rfl,⟨by omega,by omega,λj f hj V=>?_,λf hp V=>?_,λj a b hj B T=>?_⟩,by omega,by omega⟩;by_cases W:(j:Int)<i;grind;have:j=i.toNat:=by omega
  grind;by_cases hi:0<i;grind;have G:i=0:=by omega
  subst G;grind;by_cases W:(j:Int)+1<i;grind;have I:j+1=i.toNat:=by omega
  have e2:j=(i-1).toNat:=by omega
  grind
 refine .eqf (λv=>?_) λv=>.ge (λ_=>.some nofun) λc5=>.some (x (λ_=>by omega) λa h=>by omega);have I:Jx .i64 i 1=i-1:=by omega
 rw[I];obtain⟨a,B,a2⟩:=kN (l:=r.2.2.2.2.2) (i:=i-1) (by omega) (by omega);have C:lE r.1 a g->(∀b,0<i->r.2.2.2.2.2[(i-1).toNat]?=some b->lE r.1 b g):=λh b _ T=>by
  grind
 refine .bind (fH B) λy7 K=>?_;subst K;refine .lt (λw=>.ge (λ_=>.some nofun) λc6=>.some (x (λh=>absurd h v) (C (.inl ⟨w,by omega⟩)))) λw=>.bind (fH B) λD O=>?_;subst O;refine .bind (fH (JKF D g)) λy9 R=>.gef (λc9=>.ne (λ_=>.some nofun) λF=>.some (x (λh=>absurd h v) (C ?_))) λ_=>.some nofun;subst R;rcases(pw (a:=D) (b:=g)).1 (by omega)with q|⟨z,n⟩;exact absurd q w;exact .inr ⟨z,n,F⟩;obtain⟨z,n⟩:=h1 j e (by grind [kL]) k;exact⟨JGN z n.1,n⟩
end
section
variable {B S:Int}
theorem ltE.trans{a b c:J2}(h1:ltE a b)(h2:ltE b c):ltE a c:=by
 grind [ltE]
def oM:List J2->J2->List J2|[],e=>[e]|x::l,e=>if tB x e<0 then x::oM l e else if tB x e=0 then x::l else e::x::l
end
section
variable {B S:Int}
def mh(r:JZ):Prop:=aB 16384 9223372036854775807 eS r
theorem vv{r:JZ}(h:mh r): ∃v,iE r=some v/\mK r=some v/\(v=true->nM r):=by
 obtain⟨y,e,h1⟩:=JNk r;obtain⟨z,g,_⟩:=Qv (B:=16384) (S:=9223372036854775807) h;refine⟨y,e,?_,h1⟩;cases y with
 |true=>grind [tm]
 |false=>cases z<;>simp_all [OH,nM.of]
end
end Go.Am
end
section
namespace Go.Am
set_option linter.unusedVariables false
set_option maxRecDepth 20000
set_option maxHeartbeats 1000000
section
variable {B S:Int}
def bV(l:List J2)(p:Int):Int:=l.foldl (λa e=>if(e.2.1=1\/e.2.1=2)/\aQ e=p then e.1 else a) 0
theorem AK(l:List J2)(e:J2)(p:Int):bV (l++[e]) p=if(e.2.1=1\/e.2.1=2)/\aQ e=p then e.1 else bV l p:=by simp[bV]
theorem AT{l:List J2}{e:J2}{p:Int}(h: ¬((e.2.1=1\/e.2.1=2)/\aQ e=p)):bV (l++[e]) p=bV l p:=by
 grind [AK]
structure Rel(l:List J2)(n:Int)(fr:List aF)(lk rows:List aA):Prop where
 rng: ∀f∈fr,0<=f.1.1/\f.1.1<n
 one:fr.Pairwise λa b=>a.1.1≠b.1.1
 apt: ∀f∈fr,∀d∈lk,d.1≠f.1.1
 hot: ∀f∈fr,f.1.2.1=bV l f.1.1/\(f.2.1=false-> ∀r,idx rows f.1.1=some r->r.1=bV l f.1.1)
 lak: ∀d∈lk,d.2.2=bV l d.1
 row: ∀p r,idx rows p=some r->r.1<=bV l p/\((∀f∈fr,f.1.1≠p)->(∀d∈lk,d.1≠p)->r.1=bV l p)
def WA(m:List J2)(s:List UInt8):Prop:= ∀c,uX s=some (c,0)->Rel m c.1 [] c.2.2.2.1 c.2.2.2.2
def OQ(m:List J2)(e:J2):Prop:=e.1=J0 m+1/\Js e=some true/\((e.2.1=1\/e.2.1=2)->e.2.2.2.2.1=bV m (aQ e))/\(e.2.1=7->e.2.2.2.2.2.1<=bV m (aQ e))/\(e.2.1=6->WA m e.2.2.2.2.2.2.2)
def dE(l:List J2):Prop:= ∀(i:Nat) e,l[i]?=some e->OQ (l.take i) e
def gP(l:JK):Prop:=l.1=1/\0<=l.2.2/\l.2.2<=J0 l.2.1/\J0 l.2.1<=4096
def JD(k:J5):Prop:=gP k.2.2.1/\dE k.2.2.1.2.1/\Rel k.2.2.1.2.1 k.1 k.2.2.2.1.2.1 k.2.2.2.2.2.2.2 k.2.2.2.2.2.2.1
theorem dE.app{l:List J2}{e:J2}(h:dE l)(he:OQ l e):dE (l++[e]):=by
 intro i x g;by_cases hi:i<l.length;rw[jY hi]at g;rw[List.take_append_of_le_length (Nat.le_of_lt hi)];exact h i x g;grind
theorem dE.take{l:List J2}(h:dE l)(n:Nat):dE (l.take n):=by
 intro i x e;rw[WH]at e;split at e;rename_i hi;rw[List.take_take,Nat.min_eq_left (Nat.le_of_lt hi)];exact h i x e;cases e
theorem rn{l:List J2}(h:dE l)(p:Int):0<=bV l p/\bV l p<=J0 l:=by
 have g: ∀n:Nat,0<=bV (l.take n) p/\bV (l.take n) p<=J0 l:=by
  intro n
  induction n with
  |zero=>exact⟨bA _,Jd⟩
  |succ n ih=>
   rw[List.take_add_one];cases hn:l[n]? with
   |none=>simpa using ih
   |some e=>
    have k:=kL hn;have j:=(h n e hn).1;grind [J0,AK]
 have:=g l.length;simp_all
theorem Rel.ent{l:List J2}{n:Int}{fr:List aF}{lk rows:List aA}(h:Rel l n fr lk rows){e:J2}(he: ¬(e.2.1=1\/e.2.1=2)):Rel (l++[e]) n fr lk rows:=by have k: ∀p,bV (l++[e]) p=bV l p:=λp=>AT λh=>he h.1;exact⟨h.rng,h.one,h.apt,by simpa only[k]using h.hot,by simpa only[k]using h.lak,by simpa only[k]using h.row⟩
def upw{α:Type}(P:α->Prop)(l:List α)(i:Int):Prop:=i<=9223372036854775807/\(0<=i->IG P l i)
theorem ES{α:Type}{P:α->Prop}{l:List α}:upw P l 0:=⟨by decide,λ_=>JMI⟩
theorem AG{α:Type}{P:α->Prop}{l:List α}{i:Int}{x:α}(h:upw P l i)(e:idx l i=some x)(hx:P x):upw P l (J1 .i64 i 1):=by have o:=Jh i 1;obtain⟨g,_⟩:=cE e;have h1:=h.1;refine⟨by omega,λh2=>JGk (h.2 g) e hx (by omega)⟩
theorem FW{α:Type}{P:α->Prop}{l:List α}{i:Int}(h:upw P l i)(hi: ¬i<J0 l): ∀x∈l,P x:=JH3 (h.2 (by have:=Jd (l:=l);omega)) hi
theorem oA{α:Type}{l:List α}{i:Int}{x:α}(e:idx l i=some x):x∈l:=zQ5 (cE e).2
theorem pz{α:Type}{l r:List α}{k:Int}(h:bD l (some k) none=some r):0<=k/\r=l.drop k.toNat:=by
 have g:0<=k:=by grind [bD,qM,tF]
 have h1:k<=J0 l:=by grind [bD,qM,tF,J0]
 obtain⟨r',e,d,_⟩:=QI g h1;simp_all
theorem C7{α:Type}{l r:List α}{k:Int}(h:bD l none (some k)=some r):0<=k/\k<=J0 l/\r=l.take k.toNat:=by
 grind [bD,qM,tF,J0]
theorem LX{α:Type}{b:Nat}{l r:List α}(h:cM b l=some r):r=l:=by grind [cM]
theorem gF{α:Type}{b:Nat}{l m r:List α}(h:JB b l m=some r):r=l++m:=by grind [JB]
theorem gf{l:JK}{y:Bool}(e:dQ l=some y)(c:y=true):1<=l.1/\l.1<=1099511627776/\J0 l.2.1<=4096:=by
 have g:Par (dQ l) λy=>y=true->1<=l.1/\l.1<=1099511627776/\J0 l.2.1<=4096:=by unfold dQ;exact .ltf (λj=>.gtf (λh=>.gtf (λk=>.ltf (λ_=>.bind λ_ _=>.ite (λ_=>.some nofun) λ_=>λ_ _ _=>⟨by omega,by omega,by omega⟩) λ_=>.some nofun) λ_=>.some nofun) λ_=>.some nofun) λ_=>.some nofun
 exact g _ e c
theorem LZ{l:JK}{n:Int}(h:lM l=some n)(h1:1<=l.1)(h2:l.1<=1099511627776)(h3:J0 l.2.1<=4096):n=l.1+J0 l.2.1-1:=by
 grind [lM,Jh,J0,bE]
theorem JHA{l:JK}{e:J2}{y:zF}(h:fY (l,e)=some y)(c:y.2.2=0)(hl:l.1=1):y.1=(l.1,l.2.1++[(J0 l.2.1+1,e.2)],l.2.2)/\y.2.1=J0 l.2.1+1/\Js (J0 l.2.1+1,e.2)=some true/\J0 l.2.1+1<=4096:=by
 have g:Par (fY (l,e)) λy=>y.2.2=0->y.1=(l.1,l.2.1++[(J0 l.2.1+1,e.2)],l.2.2)/\y.2.1=J0 l.2.1+1/\Js (J0 l.2.1+1,e.2)=some true/\J0 l.2.1+1<=4096:=(by unfold fY;dsimp only;refine .bind λA h2=>.not (λ_=>.some nofun) λj=>.eqf (λo=>.bind λq G=>.eq (λ_=>.some nofun) λ_=>.bind λx C=>.bind λv D=>.not (λ_=>.some nofun) λk=>.bind λw z=>.bind λn r=>.some λ_=>?_) λ_=>.some nofun;subst k;obtain⟨E,F,B⟩:=gf h2 j;grind [LZ,Jh,J0,gF,LX]);exact g _ h c
theorem SU{l:JK}{n:Int}{y:jI}(h:iU (l,n)=some y)(c:y.2=0):y.1.2.1=l.2.1/\(gP l->gP y.1):=by
 have e:Par (iU (l,n)) λy=>y.2=0->y.1.2.1=l.2.1/\(gP l->gP y.1):=(by unfold iU;refine .bind λ_ h2=>.not (λ_=>.some nofun) λg=>.bind λm q=>.gt (λ_=>.some nofun) λr=>.some λ_=>⟨rfl,λhi=>⟨hi.1,?_⟩⟩;obtain⟨k,o,j⟩:=gf h2 g;have:=LZ q k o j;obtain⟨i1,i2,i3,i4⟩:=hi;have:=rN l.2.2 n;grind);exact e _ h c
abbrev eZ:J2:=(0,0,0,0,0,0,(0,0,(false,[]),false,[]),[])
theorem JNS:Js eZ=some false:=rfl
theorem JK6{l:JK}{n:Int}{y:zJ}(h:eE (l,n)=some y):(y.2=0/\idx l.2.1 (Jx .i64 n l.1)=some y.1)\/(y.2≠0/\y.1=eZ):=by
 have e:Par (eE (l,n)) λy=>(y.2=0/\idx l.2.1 (Jx .i64 n l.1)=some y.1)\/(y.2≠0/\y.1=eZ):=by unfold eE;exact .bind λ_ _=>.not (λ_=>.some (.inr ⟨by decide,rfl⟩)) λ_=>.ltf (λ_=>.bind λ_ _=>.gt (λ_=>.some (.inr ⟨by decide,rfl⟩)) λ_=>.bind λ_ h=>.some (.inl ⟨rfl,h⟩)) λ_=>.some (.inr ⟨by decide,rfl⟩)
 exact e _ h
theorem xC{p:JI}{id y:Int}(h:iD (p,id)=some y):y<=9223372036854775807/\(0<=y-> ∃f,idx p.2.1 y=some f/\f.1.1=id)/\(y<0-> ∀f∈p.2.1,f.1.1≠id):=by
 have k:Par (iD (p,id)) λy=>y<=9223372036854775807/\(0<=y-> ∃f,idx p.2.1 y=some f/\f.1.1=id)/\(y<0-> ∀f∈p.2.1,f.1.1≠id):=(by unfold iD;refine .while (λz=>z.1=id/\z.2.2=p/\upw (λf:aF=>f.1.1≠id) p.2.1 z.2.1) ⟨rfl,rfl,ES⟩ ?_;rintro⟨a,i,q⟩ ⟨rfl,rfl,j⟩;unfold XJ;refine .lt (λc=>.bind λf g=>.eq (λe=>.some ⟨j.1,λ_=>⟨f,g,e⟩,λh=>?_⟩) λe=>.some ⟨rfl,rfl,AG j g e⟩) λc=>.some ⟨by decide,λh=>absurd h (by decide),λ_=>FW j c⟩;have:=(cE g).1;grind);exact k _ h
theorem d9{p:JI}{id y:Int}(h:gM (p,id)=some y):(0<=y-> ∃f,idx p.2.1 y=some f/\f.1.1=id)/\(y<0->JR p=some true-> ∀f∈p.2.1,f.1.1≠id):=by
 have e:Par (gM (p,id)) λy=>(0<=y-> ∃f,idx p.2.1 y=some f/\f.1.1=id)/\(y<0->JR p=some true-> ∀f∈p.2.1,f.1.1≠id):=by unfold gM;refine .bind λv j=>.not (λc=>.some ⟨λh=>absurd h (by decide),λ_ h=>?_⟩) λ_=>.bind λg h2=>.some ⟨(xC h2).2.1,λh _=>(xC h2).2.2 h⟩;simp_all
 exact e _ h
theorem zV{p:JI}{id:Int}{y:JS×Bool}(h:lL (p,id)=some y):(y.2=true-> ∃f∈p.2.1,f.1=y.1/\f.1.1=id)/\(y.2=false->JR p=some true-> ∀f∈p.2.1,f.1.1≠id):=by
 have e:Par (lL (p,id)) λy=>(y.2=true-> ∃f∈p.2.1,f.1=y.1/\f.1.1=id)/\(y.2=false->JR p=some true-> ∀f∈p.2.1,f.1.1≠id):=(by unfold lL;refine .bind λi hi=>.lt (λc=>.some ⟨nofun,λ_=>(d9 hi).2 c⟩) λc=>.bind λf j=>.some ⟨λ_=>?_,nofun⟩;obtain⟨g,h1,h2⟩:=(d9 hi).1 (by omega);grind [oA]);exact e _ h
end
end Go.Am
end
section
namespace Go.Am
set_option linter.unusedVariables false
set_option maxRecDepth 20000
set_option maxHeartbeats 1000000
section
variable {B S:Int} {l l':List J2} {n:Int} {fr:List aF} {lk lk' rows rows':List aA} {f f':aF} {i:Int}
theorem Dv(h:fr.Pairwise λa b=>a.1.1≠b.1.1){i j:Nat}{a b:aF}(ha:fr[i]?=some a)(hb:fr[j]?=some b)(e:a.1.1=b.1.1):i=j:=by
 grind [List.pairwise_iff_getElem]
theorem JI5(hf:idx fr i=some f)(e:f'.1.1=f.1.1)(h:fr.Pairwise λa b=>a.1.1≠b.1.1){x:aF}(hx:x∈fr.set i.toNat f'):x=f'\/(x∈fr/\x.1.1≠f.1.1):=by
 obtain⟨g,hf⟩:=cE hf;grind [List.mem_iff_getElem?,Dv]
theorem Rel.upd(h:Rel l n fr lk rows)(hf:idx fr i=some f)(k:f'.1.1=f.1.1)(ho: ∀q,q≠f.1.1->bV l' q=bV l q)(hr: ∀q,q≠f.1.1->idx rows' q=idx rows q)(h1:f'.1.2.1=bV l' f.1.1)
  (h2:f'.2.1=false-> ∀r,idx rows' f.1.1=some r->r.1=bV l' f.1.1) (h3: ∀r,idx rows' f.1.1=some r->r.1<=bV l' f.1.1):Rel l' n (fr.set i.toNat f') lk rows':=by
 have y:=oA hf;have w: ∀{x:aF},x∈fr.set i.toNat f'->x=f'\/(x∈fr/\x.1.1≠f.1.1):=λg=>JI5 hf k h.one g;have E:f'∈fr.set i.toNat f':=(by obtain⟨A,hf⟩:=cE hf;grind [List.mem_set]);refine⟨λx g=>?_,?_,λx g d hd=>?_,λx g=>?_,λd hd=>?_,λp r B=>?_⟩;rcases w g with rfl|⟨g,_⟩;rw[k];exact h.rng _ y;exact h.rng _ g;have q:=h.one;obtain⟨A,hf⟩:=cE hf;grind [List.pairwise_iff_getElem];rcases w g with rfl|⟨g,_⟩;rw[k];exact h.apt _ y d hd;exact h.apt _ g d hd;rcases w g with rfl|⟨g,o⟩;grind;rw[ho _ o,hr _ o];exact h.hot _ g;rw[h.lak d hd,ho];exact h.apt _ y d hd;by_cases v:p=f.1.1;grind;rw[hr _ v]at B;obtain⟨C,D⟩:=h.row p r B;rw[ho _ v];refine⟨C,λa b=>D (λx g e=>?_) b⟩;have z:x∈fr.set i.toNat f':=(by obtain⟨A,hf⟩:=cE hf;obtain⟨j,F⟩:=gN.1 g;refine zQ5 (i:=j) ?_;grind);exact a x z e
theorem Rel.drop(h:Rel l n fr lk rows)(hf:idx fr i=some f)(hc:f.2.1=false):Rel l n (fr.eraseIdx i.toNat) lk rows:=by
 have j: ∀{x:aF},x∈fr.eraseIdx i.toNat->x∈fr:=λg=>(List.eraseIdx_sublist fr i.toNat).subset g;refine⟨λx g=>h.rng x (j g),h.one.sublist (List.eraseIdx_sublist fr i.toNat),λx g=>h.apt x (j g),λx g=>h.hot x (j g),h.lak,λp r o=>?_⟩;obtain⟨q,v⟩:=h.row p r o;refine⟨q,λa b=>?_⟩;by_cases k:p=f.1.1;subst k;exact(h.hot f (oA hf)).2 hc r o;refine v (λx g e=>?_) b;obtain⟨w,hf⟩:=cE hf;grind [List.mem_iff_getElem?,List.mem_eraseIdx_iff_getElem?]
theorem Rel.add(h:Rel l n fr lk rows)(hn: ∀x∈fr,x.1.1≠f.1.1)(hr:0<=f.1.1/\f.1.1<n)(h1:f.1.2.1=bV l f.1.1)(h2:f.2.1=false-> ∀r,idx rows f.1.1=some r->r.1=bV l f.1.1)
  (hs: ∀d,d∈lk'↔d∈lk/\d.1≠f.1.1):Rel l n (fr++[f]) lk' rows:=by
 have g: ∀{x:aF},x∈fr++[f]->x∈fr\/x=f:=λe=>by simpa using e
 refine⟨λx e=>?_,?_,λx e d hd=>?_,λx e=>?_,λd hd=>h.lak d ((hs d).1 hd).1,λp r j=>?_⟩;rcases g e with e|rfl;exact h.rng x e;exact hr;rw[List.pairwise_append];exact⟨h.one,List.pairwise_singleton _ _,λa q b k=>by grind⟩;rcases g e with e|rfl;exact h.apt x e d ((hs d).1 hd).1;simp_all;rcases g e with e|rfl;exact h.hot x e;grind;obtain⟨o,v⟩:=h.row p r j;grind
theorem RG{p q:JI}(h:iV (p,i,f)=some q):q=(p.1,p.2.1.set i.toNat f,p.2.2):=by
 have e:Par (iV (p,i,f)) λq=>q=(p.1,p.2.1.set i.toNat f,p.2.2):=by unfold iV;refine .bind λg h2=>.bind λ_ _=>.bind λ_ _=>.some ?_;rw[LX h2];rfl
 exact e _ h
theorem Rel.use(h:Rel l n fr lk rows)(hf:idx fr i=some f)(h1:f'.1=f.1)(h2:f'.2.1=f.2.1):Rel l n (fr.set i.toNat f') lk rows:=by have q:=h.hot f (oA hf);exact h.upd hf (by rw[h1]) (λ_ _=>rfl) (λ_ _=>rfl) (by simp_all) (by grind) λr e=>(h.row _ r e).1
theorem JND{p q:JI}{id:Int}(e:AR (p,id)=some q)(h:Rel l n p.2.1 lk rows):Rel l n q.2.1 lk rows:=by
 have g:Par (AR (p,id)) λq=>Rel l n q.2.1 lk rows:=by unfold AR;refine .bind λj r=>.lt (λ_=>.some h) λc=>.bind λx o=>.bind λy k=>.some ?_;rw[RG k];exact h.use o rfl rfl
 exact g _ e
theorem JHC{p:JI}{y:KX}(e:uR p=some y)(h:Rel l n p.2.1 lk rows):y.2.2=0->Rel l n y.1.2.1 lk rows:=by
 have g:Par (uR p) λy=>y.2.2=0->Rel l n y.1.2.1 lk rows:=by unfold uR;refine .bind λ_ _=>.not (λ_=>.some nofun) λ_=>.eq (λ_=>.some nofun) λ_=>.while (λz=>Rel l n z.1.2.1 lk rows) h ?_;intro z j;unfold XX;refine .bind λx r=>.ite (λ_=>.bind λy o=>.bind λq k=>.bind λ_ _=>.some ?_) λ_=>.map (.bind λ_ _=>.some λ_=>j);show Rel l n q.2.1 lk rows;rw[RG k];exact j.use o rfl rfl
 exact g _ e
theorem JLX{p:JI}{id:Int}{y:iN}(e:uY (p,id)=some y)(c:y.2=0)(h:Rel l n p.2.1 lk rows):Rel l n y.1.2.1 lk rows:=by
 have k:Par (uY (p,id)) λy=>y.2=0->Rel l n y.1.2.1 lk rows:=by
  unfold uY;refine .bind λ_ _=>.not (λ_=>.some nofun) λ_=>.bind λj F=>.lt (λ_=>.some nofun) λ_=>.bind λx r=>.ite (λ_=>.some nofun) λw=>.bind λI E=>.bind λJ D=>.bind λG z=>.bind λA B=>?_;have C:A=p.2.1.eraseIdx j.toNat:=by obtain⟨H,v⟩:=pz z;have o:=Jh j 1;have q:=(xC F).1;have K:=(cE r).1;rw[gF B,LX D,(C7 E).2.2,v,List.eraseIdx_eq_take_drop_succ,show(J1 .i64 j 1).toNat=j.toNat+1 by omega]
  have g:=h.drop r w;rw[<-C]at g;exact .lt (λ_=>.ge (λ_=>.some λ_=>g) λ_=>.some λ_=>g) λ_=>.ge (λ_=>.some λ_=>g) λ_=>.some λ_=>g
 exact k _ e c
end
end Go.Am
end
section
namespace Go.Am
set_option linter.unusedVariables false
set_option maxRecDepth 20000
set_option maxHeartbeats 1000000
section
variable {B S:Int} {l l':List J2} {n:Int} {fr:List aF} {lk lk' rows rows':List aA} {f f':aF} {i:Int}
theorem GA{k:J5}{id:Int}{y:aA×Bool}(e:sG (k,id)=some y):(y.2=true->y.1∈k.2.2.2.2.2.2.2/\y.1.1=id)/\(y.2=false-> ∀d∈k.2.2.2.2.2.2.2,d.1≠id):=by
 have g:Par (sG (k,id)) λy=>(y.2=true->y.1∈k.2.2.2.2.2.2.2/\y.1.1=id)/\(y.2=false-> ∀d∈k.2.2.2.2.2.2.2,d.1≠id):=(by unfold sG;refine .while (λz=>z.1=id/\z.2.2.1=k/\upw (λd:aA=>d.1≠id) k.2.2.2.2.2.2.2 z.2.1) ⟨rfl,rfl,ES⟩ ?_;rintro⟨a,i,q,r⟩ ⟨rfl,rfl,h⟩;unfold yy;refine .lt (λc=>.bind λd hd=>.eq (λe=>.bind λn j=>.some ⟨λ_=>?_,nofun⟩) λe=>.some ⟨rfl,rfl,AG h hd e⟩) λc=>.some ⟨nofun,λ_=>FW h c⟩;grind [oA]);exact g _ e
theorem MZ{k:J5}(e:Jo k=some true):JR k.2.2.2.1=some true:=by
 have h:Par (mI k) λy=>y=true->JR k.2.2.2.1=some true:=by unfold mI;refine .ge (λ_=>.le (λ_=>.ge (λ_=>.le (λ_=>.bind λ_ _=>.ite (λ_=>.bind λn o=>.ite (λc=>λ_ _ _=>?_) λ_=>.some nofun) λ_=>.some nofun) λ_=>.some nofun) λ_=>.some nofun) λ_=>.some nofun) λ_=>.some nofun;simp_all
 have g:Par (Jo k) λy=>y=true->JR k.2.2.2.1=some true:=by unfold Jo;exact .bind λa j=>.not (λ_=>.some nofun) λc=>λ_ _ _=>h _ j c
 exact g _ e rfl
theorem YO{k:J5}{p h:Int}(e:pX (k,p)=some h)(hv:Jo k=some true)(hi:JD k)(h0:0<=p)(h1:p<k.1):h=bV k.2.2.1.2.1 p:=by
 have q:Par (pX (k,p)) λh=>h=bV k.2.2.1.2.1 p:=(by obtain⟨_,_,r⟩:=hi;unfold pX;refine .bind λv B=>.nof (λ_=>.ltf (λ_=>.ge (λc=>absurd h1 (by grind)) λ_=>.bind λC x=>.ite (λn=>.some ?_) λn=>.bind λD w=>.ite (λg=>.some ?_) λg=>.bind λy z=>.some ?_) λc=>absurd h0 (by grind)) λc=>?_;obtain⟨f,A,o,j⟩:=(zV x).1 n;rw[<-o,(r.hot f A).1,j];obtain⟨o,j⟩:=(GA w).1 g;rw[r.lak _ o,j];exact(r.row p y z).2 ((zV x).2 n (MZ hv)) ((GA w).2 g);simp_all);exact q _ e
theorem qu{e:J2}{y:tT}(h:jU (rows,e)=some y)(c:y.2=0):Js e=some true/\(e.2.1≠7->y.1=rows)/\(e.2.1=7->(∀q,q≠aQ e->idx y.1 q=idx rows q)/\ ∀r,idx y.1 (aQ e)=some r-> ∃r0,idx rows (aQ e)=some r0/\r.1=cP r0.1 e.2.2.2.2.2.1):=by
 have j:Par (jU (rows,e)) λy=>y.2=0->Js e=some true/\(e.2.1≠7->y.1=rows)/\(e.2.1=7->(∀q,q≠aQ e->idx y.1 q=idx rows q)/\ ∀r,idx y.1 (aQ e)=some r-> ∃r0,idx rows (aQ e)=some r0/\r.1=cP r0.1 e.2.2.2.2.2.1):=by
  unfold jU;refine .bind λ_ _=>.not (λ_=>.some nofun) λ_=>.bind λv A=>.not (λ_=>.some nofun) λw=>.ne (λc=>.some λ_=>⟨by simp_all,λ_=>rfl,λh=>absurd h c⟩) λc=>.ge (λ_=>.some nofun) λ_=>.bind λr0 z=>.bind λg n=>.some λ_=>⟨by simp_all,λh=>absurd c h,λ_=>?_⟩;have o:g=rows.set (aQ e).toNat (cP r0.1 e.2.2.2.2.2.1,r0.2):=by
   have k:Par (GQ (rows,aQ e,cP r0.1 e.2.2.2.2.2.1,r0.2)) λg=>g=rows.set (aQ e).toNat (cP r0.1 e.2.2.2.2.2.1,r0.2):=by unfold GQ;refine .bind λx h2=>.bind λ_ _=>.bind λ_ _=>.some ?_;rw[LX h2];rfl
   exact k _ n
  grind [idx,aQ]
 exact j _ h c
theorem JCZ{l:JK}{e:J2}{y:zF}(h:fY (l,e)=some y)(c:y.2.2=0):1<=l.1/\l.1<=1099511627776/\J0 l.2.1<=4096:=by
 have g:Par (fY (l,e)) λy=>y.2.2=0->1<=l.1/\l.1<=1099511627776/\J0 l.2.1<=4096:=by unfold fY;exact .bind λk h2=>.not (λ_=>.some nofun) λj=>λ_ _ _=>gf h2 j
 exact g _ h c
def EG(k:J5)(e:J2)(y:gT):Prop:=Jo k=some true/\ ∃e':J2,e'.2.1=e.2.1/\e'.2.2.2.2.2=e.2.2.2.2.2/\e'.1=J0 k.2.2.1.2.1+1/\y.2.1=e'.1/\y.1.1=k.1/\y.1.2.2.1=(1,k.2.2.1.2.1++[e'],k.2.2.1.2.2)/\gP y.1.2.2.1/\y.1.2.2.2.1=k.2.2.2.1/\y.1.2.2.2.2.2.2.2=k.2.2.2.2.2.2.2/\dE (k.2.2.1.2.1++[e'])/\(e.2.1≠7->y.1.2.2.2.2.2.2.1=k.2.2.2.2.2.2.1)/\(e.2.1=7->(∀q,q≠aQ e->idx y.1.2.2.2.2.2.2.1 q=idx k.2.2.2.2.2.2.1 q)/\ ∀r,idx y.1.2.2.2.2.2.2.1 (aQ e)=some r-> ∃g,idx k.2.2.2.2.2.2.1 (aQ e)=some g/\r.1=cP g.1 e.2.2.2.2.2.1)
theorem VD{k:J5}{e0 e:J2}{z:gT}(hv:Jo k=some true)(hi:JD k)(h1:e0.2.1=e.2.1)(h2:e0.2.2.2.2.2=e.2.2.2.2.2)(hp:(e.2.1=1\/e.2.1=2)->e0.2.2.2.2.1=bV k.2.2.1.2.1 (aQ e))
  (N:e.2.1=7->e.2.2.2.2.2.1<=bV k.2.2.1.2.1 (aQ e)) (S:e.2.1=6->WA k.2.2.1.2.1 e.2.2.2.2.2.2.2)
  (hz:((fY (k.2.2.1,e0)).bind λg=>
   if aM g.2.2 0 then
    some ((0,0,(0,[],0),(0,[],0),([],[]),[],[],[]),0,g.2.2)
   else
    (eE (g.1,g.2.1)).bind λq=>
    (eV (k.2.2.2.2.2.1,q.1)).bind λj=>
    if aM j.2 0 then
     some ((0,0,(0,[],0),(0,[],0),([],[]),[],[],[]),0,j.2)
    else
     (jU (k.2.2.2.2.2.2.1,q.1)).bind λn=>
     if aM n.2 0 then
      some ((0,0,(0,[],0),(0,[],0),([],[]),[],[],[]),0,n.2)
     else
      some ((k.1,k.2.1,g.1,k.2.2.2.1,k.2.2.2.2.1,j.1,n.1,k.2.2.2.2.2.2.2),g.2.1,0))=some z):z.2.2=0->EG k e z:=by
 have C:Par ((fY (k.2.2.1,e0)).bind λg=>
   if aM g.2.2 0 then
    some ((0,0,(0,[],0),(0,[],0),([],[]),[],[],[]),0,g.2.2)
   else
    (eE (g.1,g.2.1)).bind λq=>
    (eV (k.2.2.2.2.2.1,q.1)).bind λj=>
    if aM j.2 0 then
     some ((0,0,(0,[],0),(0,[],0),([],[]),[],[],[]),0,j.2)
    else
     (jU (k.2.2.2.2.2.2.1,q.1)).bind λn=>
     if aM n.2 0 then
      some ((0,0,(0,[],0),(0,[],0),([],[]),[],[],[]),0,n.2)
     else
      some ((k.1,k.2.1,g.1,k.2.2.2.1,k.2.2.2.2.1,j.1,n.1,k.2.2.2.2.2.2.2),g.2.1,0)) λz=>z.2.2=0->EG k e z:=by
  obtain⟨r,H,T⟩:=hi;refine .bind λg x=>.ne (λc=>.some λh=>absurd h c) λw=>.bind λq D=>.bind λj M=>.ne (λc=>.some λh=>absurd h c) λ_=>.bind λn A=>.ne (λc=>.some λh=>absurd h c) λy=>.some λ_=>?_;obtain⟨b1,b2,G,R⟩:=JHA x w r.1;have O:=Jd (l:=k.2.2.1.2.1);obtain⟨P,B,F⟩:=qu A y;have E:q.1=(J0 k.2.2.1.2.1+1,e0.2):=(by rcases JK6 D with⟨_,h⟩|⟨_,h⟩;rw[b1,b2,r.1]at h;obtain⟨_,h⟩:=cE h;have v:=(JCZ x w).2.2;have o:=bE (J0 k.2.2.1.2.1+1) 1;rw[show(Jx .i64 (J0 k.2.2.1.2.1+1) 1).toNat=k.2.2.1.2.1.length by grind [J0]]at h;simp_all;grind [JNS]);rw[E]at B F;have K:aQ (J0 k.2.2.1.2.1+1,e0.2)=aQ e:=congrArg (λz:Int×aK×List UInt8=>z.2.1.1) h2;have L:e0.2.2.2.2.2.1=e.2.2.2.2.2.1:=congrArg (λz:Int×aK×List UInt8=>z.1) h2;have J:e0.2.2.2.2.2.2.2=e.2.2.2.2.2.2.2:=congrArg (λz:Int×aK×List UInt8=>z.2.2) h2;refine⟨hv,(J0 k.2.2.1.2.1+1,e0.2),h1,h2,rfl,b2,rfl,?_,?_,rfl,rfl,?_,λc=>B (by simp_all),λc=>?_⟩;show g.1=_;rw[b1,r.1]
  ·show gP g.1;rw[b1,r.1];obtain⟨U,I,V,Q⟩:=r;refine⟨rfl,I,?_,?_⟩
   all_goals
    grind [GF,wY]
  ·refine H.app ⟨rfl,G,λc=>?_,λc=>?_,λc=>?_⟩
   all_goals grind
  grind
 exact C _ hz
theorem PC{k:J5}{e:J2}{y:gT}(h:fQ (k,e)=some y)(c:y.2.2=0)(hi:JD k)(hp:(e.2.1=1\/e.2.1=2)->0<=aQ e/\aQ e<k.1)
  (q:e.2.1=7->e.2.2.2.2.2.1<=bV k.2.2.1.2.1 (aQ e)) (w:e.2.1=6->WA k.2.2.1.2.1 e.2.2.2.2.2.2.2):EG k e y:=by
 have D: ∀{o:J2} {b:Bool},JA o=some b->b=false-> ¬(o.2.1=1\/o.2.1=2):=fun{o b} C r=>by
  grind [JA,jR]
 have A:Par (fQ (k,e)) λy=>y.2.2=0->EG k e y:=by
  unfold fQ;refine .bind λv G=>.not (λ_=>.some nofun) λE=>?_;have g:Jo k=some true:=by simp_all
  refine .gt (λ_=>.bind λF _=>.lt (λ_=>.some nofun) λ_=>.bind λB _=>.bind λb C=>.ite (λr=>.bind λx n=>λz j=>VD (e0:=(e.1,e.2.1,e.2.2.1,B.2.2.1,x,e.2.2.2.2.2)) g hi rfl rfl ?_ q w j) λr=>λz j=>VD (e0:=(e.1,e.2.1,e.2.2.1,B.2.2.1,0,e.2.2.2.2.2)) g hi rfl rfl ?_ q w j) λ_=>.bind λb C=>.ite (λr=>.bind λx n=>λz j=>VD (e0:=(e.1,e.2.1,e.2.2.1,0,x,e.2.2.2.2.2)) g hi rfl rfl ?_ q w j) λr=>λz j=>VD (e0:=(e.1,e.2.1,e.2.2.1,0,0,e.2.2.2.2.2)) g hi rfl rfl ?_ q w j
  all_goals intro hc
  exact YO n g hi (hp hc).1 (hp hc).2;grind;exact YO n g hi (hp hc).1 (hp hc).2;grind
 exact A _ h c
end
end Go.Am
end
section
namespace Go.Am
set_option linter.unusedVariables false
set_option maxRecDepth 20000
set_option maxHeartbeats 1000000
section
variable {l E F:List J2} {p:Int}
theorem ltE.irr{a:J2}: ¬ltE a a:=by simp[ltE]
theorem ltE.asym{a b:J2}(h:ltE a b): ¬ltE b a:=by grind [ltE]
theorem rm: ∀{a b:List J2},a.Pairwise ltE->b.Pairwise ltE->(∀x,x∈a↔x∈b)->a=b
 |[],[],_,_,_=>rfl
 |[],y::b,_,_,h=>absurd ((h y).2 List.mem_cons_self) (by simp)
 |x::a,[],_,_,h=>absurd ((h x).1 List.mem_cons_self) (by simp)
 |x::a,y::b,n,o,h=>by
  obtain⟨k,j⟩:=List.pairwise_cons.1 n;obtain⟨b1,b2⟩:=List.pairwise_cons.1 o;have e:x=y:=(by rcases cS.1 ((h x).1 List.mem_cons_self)with q|q;exact q;rcases cS.1 ((h y).2 List.mem_cons_self)with g|g;exact g.symm;exact absurd (b1 x q) (k y g).asym);subst e;refine congrArg (x:: ·) (rm j b2 λz=>⟨λr=>?_,λr=>?_⟩)
  all_goals grind [ltE.irr]
theorem ey{e:J2}(hd: ∀x∈l,x.1≠e.1): ∀x,x∈oM l e↔x∈l\/x=e:=by
 induction l with
 |nil=>simp[oM]
 |cons y l ih=>
  grind [gi,oM]
theorem ud{e:J2}(hs:l.Pairwise ltE)(hd: ∀x∈l,x.1≠e.1):(oM l e).Pairwise ltE:=by
 induction l with
 |nil=>exact List.pairwise_singleton _ _
 |cons y l ih=>
  obtain⟨h1,h2⟩:=List.pairwise_cons.1 hs;have g:=hd y List.mem_cons_self;have n: ¬tB y e=0:=λh=>g (gi.1 h).2;have k: ∀x∈l,x.1≠e.1:=λz j=>hd z (qR _ j);grind [oM,List.pairwise_cons,ey,pw,ltE]
theorem py{e:J2}(hd: ∀x∈l,x.1≠e.1):(oM l e).length=l.length+1:=by
 induction l with
 |nil=>simp[oM]
 |cons y k ih=>
  grind [gi,oM]
def srt(l:List J2):List J2:=l.foldl oM []
theorem Ew(l:List J2)(e:J2):srt (l++[e])=oM (srt l) e:=by simp[srt]
def Inc(l:List J2):Prop:=l.Pairwise λa b=>a.1<b.1
theorem Dy: ∀{n:Nat} {l:List J2},l.length=n->Inc l->(srt l).Pairwise ltE/\(∀x,x∈srt l↔x∈l)/\(srt l).length=l.length
 |0,l,h,_=>by simp_all [srt]
 |n+1,l,h,hi=>by
  obtain⟨m,e,rfl⟩: ∃m e,l=m++[e]:=⟨l.dropLast,l.getLast (by grind),(List.dropLast_concat_getLast _).symm⟩;have j:m.length=n:=by simpa using h
  obtain⟨i1,i2,i3⟩:=List.pairwise_append.1 hi;obtain⟨s1,g,o⟩:=Dy j i1;have hd: ∀x∈srt m,x.1≠e.1:=λx k=>by have:=i3 x ((g x).1 k) e (by simp);omega
  grind [Ew,ud,ey,py]
theorem dE.inc(h:dE l):Inc l:=by
 unfold Inc;rw[List.pairwise_iff_getElem];intro i j hi e hij;have a:=(h i _ (zQ9 hi)).1;have b:=(h j _ (zQ9 e)).1;grind [J0]
theorem dE.at(h:dE l){i:Nat}{e:J2}(he:l[i]?=some e):e.1=(i:Int)+1:=by
 have a:=(h i e he).1;grind [J0]
theorem JAI(h:dE l)(p:Int):(bV l p=0\/ ∃x∈l,(x.2.1=1\/x.2.1=2)/\aQ x=p/\x.1=bV l p)/\ ∀x∈l,(x.2.1=1\/x.2.1=2)->aQ x=p->x.1<=bV l p:=by
 have q: ∀n:Nat,n<=l.length->(bV (l.take n) p=0\/ ∃x∈l.take n,(x.2.1=1\/x.2.1=2)/\aQ x=p/\x.1=bV (l.take n) p)/\ ∀x∈l.take n,(x.2.1=1\/x.2.1=2)->aQ x=p->x.1<=bV (l.take n) p:=by
  intro n
  induction n with
  |zero=>intro _;exact⟨.inl rfl,by simp⟩
  |succ n ih=>
   intro r;obtain⟨h1,h2⟩:=ih (by omega);have o:=zQ9 (l:=l) (i:=n) (by omega);have k:l.take (n+1)=l.take n++[l[n]]:=by simp[List.take_add_one]
   have en:=h.at o;rw[k,AK];split;rename_i c;refine⟨.inr ⟨l[n],List.mem_append_right _ (hO.2 rfl),c.1,c.2,rfl⟩,λx g a b=>?_⟩;rcases cF.1 g with g|g;obtain⟨j,e⟩:=gN.1 g;rw[WH]at e;split at e;have:=h.at e;omega;cases e;grind;grind
 grind [List.take_length]
theorem qb(h:dE l){e:J2}(he:e∈l)(hc:e.2.1=1\/e.2.1=2):e.2.2.2.2.1<e.1/\(e.2.2.2.2.1=0\/ ∃x∈l,(x.2.1=1\/x.2.1=2)/\aQ x=aQ e/\x.1=e.2.2.2.2.1)/\ ∀x∈l,(x.2.1=1\/x.2.1=2)->aQ x=aQ e->x.1<e.1->x.1<=e.2.2.2.2.1:=by
 obtain⟨i,hi⟩:=gN.1 he;obtain⟨r,v,o,_⟩:=h i e hi;have q:=h.at hi;rw[o hc];obtain⟨s1,n⟩:=JAI (h.take i) (aQ e);have lt: ∀x∈l.take i,x.1<e.1:=λx k=>by
  obtain⟨j,g⟩:=gN.1 k;rw[WH]at g;split at g;have:=h.at g;omega;cases g
 refine⟨?_,?_,λx k a b c=>?_⟩;grind;grind;refine n x ?_ a b;obtain⟨j,g⟩:=gN.1 k;have:=h.at g;refine zQ5 (i:=j) ?_;grind
def inB(f t lo hi:Int)(e:J2):Bool:=decide ((e.2.1=1\/e.2.1=2)/\(lo<=aQ e/\aQ e<=hi)/\f<=e.1/\e.1<=t)
theorem wX{f t lo hi:Int}{e:J2}:inB f t lo hi e=true↔(e.2.1=1\/e.2.1=2)/\(lo<=aQ e/\aQ e<=hi)/\f<=e.1/\e.1<=t:=by simp[inB]
def sel(l:List J2)(f t lo hi:Int):List J2:=srt (l.filter (inB f t lo hi))
theorem Inc.filter(h:Inc l)(q:J2->Bool):Inc (l.filter q):=h.sublist (List.filter_sublist)
theorem JMD(h:dE l)(f t lo hi:Int):(sel l f t lo hi).Pairwise ltE/\(∀x,x∈sel l f t lo hi↔x∈l/\inB f t lo hi x=true)/\(sel l f t lo hi).length<=l.length:=by
 obtain⟨s1,g,e⟩:=Dy rfl (h.inc.filter (inB f t lo hi));grind [sel]
theorem adj(hs:E.Pairwise ltE){j:Nat}{a b x:J2}(ha:E[j]?=some a)(hb:E[j+1]?=some b)(hx:x∈E)(h1:ltE a x)(h2:ltE x b):False:=by
 obtain⟨i,hi⟩:=gN.1 hx;rw[List.pairwise_iff_getElem]at hs;obtain⟨la,rfl⟩:=cI.1 ha;obtain⟨g,rfl⟩:=cI.1 hb;obtain⟨e,rfl⟩:=cI.1 hi;by_cases c:i<=j;rcases Nat.lt_or_eq_of_le c with c|c;exact h1.asym (hs i j e la c);grind [ltE.irr];by_cases h:i=j+1;grind [ltE.irr];exact h2.asym (hs (j+1) i g e (by omega))
theorem JKn(h:dE l)(hl:J0 l<=4096){f t lo hi lv:Int}(hn:qY (f,t,lo,hi,lv,[])):nM (f,t,lo,hi,lv,sel l f t lo hi):=by
 obtain⟨s1,k,s3⟩:=JMD h f t lo hi;obtain⟨S,T,N,P,O,G,y,w⟩:=hn
 (try dsimp only at S T N P O G y w)
 have val: ∀x∈l,Js x=some true:=λx R=>by obtain⟨i,hi⟩:=gN.1 R;exact(h i x hi).2.1
 refine⟨⟨S,T,N,P,O,G,y,w⟩,?_,λj e q=>?_,λe q=>?_,λj a b r n=>?_⟩;grind [J0];obtain⟨o,v⟩:=(k e).1 (zQ5 q);obtain⟨b1,b2,z,F⟩:=wX.1 v;exact⟨val e o,b1,z,F,b2.1,b2.2⟩;have W:=zQ5 q;obtain⟨o,v⟩:=(k e).1 W;obtain⟨b1,b2,z,F⟩:=wX.1 v;obtain⟨U,g,Q⟩:=qb h o b1;dsimp only;rcases g with g|⟨x,X,x2,x3,x4⟩;omega;rcases Int.lt_or_le e.2.2.2.2.1 f with c|c;exact c;have R:x∈sel l f t lo hi:=(k x).2 ⟨X,wX.2 ⟨x2,by omega,by omega,by omega⟩⟩;grind [List.mem_iff_getElem?,ltE,Nat.eq_zero_or_pos,List.pairwise_iff_getElem]
 (try dsimp only at r n)
 have A:=zQ5 r;have D:=zQ5 n;obtain⟨H,L⟩:=(k a).1 A;obtain⟨B,J⟩:=(k b).1 D;obtain⟨M,a9,aa,ab⟩:=wX.1 L;obtain⟨I,a0,Z,Y⟩:=wX.1 J;obtain⟨U,g,Q⟩:=qb h B I;have C:ltE a b:=(by grind [List.pairwise_iff_getElem]);have E: ∀x∈l,(x.2.1=1\/x.2.1=2)->aQ x=aQ b->x.1=b.2.2.2.2.1->f<=x.1->ltE a x->False:=λx X x2 x3 x4 x5 V=>
  adj s1 r n ((k x).2 ⟨X,wX.2 ⟨x2,by omega,by omega,by omega⟩⟩) V (.inr ⟨x3,by omega⟩)
 rcases C with lp|⟨lp,K⟩;refine .inl ⟨lp,?_⟩;rcases g with g|⟨x,X,x2,x3,x4⟩;grind;show b.2.2.2.2.1<f;rcases Int.lt_or_le b.2.2.2.2.1 f with c|c;exact c;exact(E x X x2 x3 x4 (by omega) (.inl (by omega))).elim;refine .inr ⟨lp,K,?_⟩;have ge:=Q a H M lp K;rcases g with g|⟨x,X,x2,x3,x4⟩;omega;rcases Int.lt_or_eq_of_le ge with c|c;exact(E x X x2 x3 x4 (by omega) (.inr ⟨by omega,by omega⟩)).elim;exact c.symm
end
end Go.Am
end
section
namespace Go.Am
set_option linter.unusedVariables false
set_option maxRecDepth 20000
set_option maxHeartbeats 1000000
section
variable {B S:Int} {l l':List J2} {n:Int} {fr:List aF} {lk lk' rows rows':List aA} {f f':aF} {i:Int} {k k':J5}
theorem Rel.note{e:J2}{p:Int}(h:Rel l n fr lk rows)(he: ¬(e.2.1=1\/e.2.1=2))(h0:e.2.2.2.2.2.1<=bV l p)(h1: ∀q,q≠p->idx rows' q=idx rows q)(h2: ∀r,idx rows' p=some r-> ∃r0,idx rows p=some r0/\r.1=cP r0.1 e.2.2.2.2.2.1):Rel (l++[e]) n fr lk rows':=by
 have k: ∀p,bV (l++[e]) p=bV l p:=λp=>AT λh=>he h.1;refine⟨h.rng,h.one,h.apt,λx o=>?_,by simpa only[k]using h.lak,λq r g=>?_⟩;rw[k];refine⟨(h.hot x o).1,λc r g=>?_⟩;by_cases j:x.1.1=p;rw[j]at g⊢;obtain⟨r0,v,w⟩:=h2 r g;have:=(h.hot x o).2 c r0 (by simp_all);rw[j]at this;have:=rN r0.1 e.2.2.2.2.2.1;omega;rw[h1 _ j]at g;exact(h.hot x o).2 c r g;rw[k];by_cases j:q=p;subst j;obtain⟨r0,v,w⟩:=h2 r g;obtain⟨y,z⟩:=h.row q r0 v;have:=rN r0.1 e.2.2.2.2.2.1;grind;rw[h1 _ j]at g;exact h.row q r g
theorem EG.inv{e:J2}{y:gT}(h:EG k e y)(hi:JD k)(he: ¬(e.2.1=1\/e.2.1=2))(A:e.2.1=7->e.2.2.2.2.2.1<=bV k.2.2.1.2.1 (aQ e)):JD y.1:=by
 obtain⟨F,e',G,x,B,C,w,v,r,q,o,E,j,n⟩:=h;obtain⟨i1,i2,i3⟩:=hi;have g: ¬(e'.2.1=1\/e'.2.1=2):=by simp_all
 refine⟨r,by simp_all,?_⟩;rw[w,v,q,o];by_cases c:e.2.1=7;obtain⟨b1,b2⟩:=n c;have D:e'.2.2.2.2.2.1=e.2.2.2.2.2.1:=congrArg (λz:Int×aK×List UInt8=>z.1) x;exact i3.note g (by simp_all) b1 (by grind);rw[j c];exact i3.ent g
theorem dp{m:Int}(e:lR (k,m)=some k'):k'.1=k.1/\(gP k.2.2.1->gP k'.2.2.1)/\k'.2.2.1.2.1=k.2.2.1.2.1/\k'.2.2.2=k.2.2.2:=by
 have g:Par (lR (k,m)) λk'=>k'.1=k.1/\(gP k.2.2.1->gP k'.2.2.1)/\k'.2.2.1.2.1=k.2.2.1.2.1/\k'.2.2.2=k.2.2.2:=(by unfold lR;refine .bind λ_ _=>.bind λh j=>.eq (λc=>.some ?_) λ_=>.some ⟨rfl,id,rfl,rfl⟩;grind [SU]);exact g _ e
theorem JD.same(h:JD k)(e1:k'.1=k.1)(e2:gP k.2.2.1->gP k'.2.2.1)(e3:k'.2.2.1.2.1=k.2.2.1.2.1)(j:k'.2.2.2.1.2.1=k.2.2.2.1.2.1)(e:k'.2.2.2.2.2.2.2=k.2.2.2.2.2.2.2)(g:k'.2.2.2.2.2.2.1=k.2.2.2.2.2.2.1):JD k':=by
 grind [JD]
theorem JD.force{m:Int}(h:JD k)(e:lR (k,m)=some k'):JD k':=by obtain⟨j,o,n,g⟩:=dp e;exact h.same j o n (by rw[g]) (by rw[g]) (by rw[g])
theorem JHn{p:JI}{x:JS}{y:iN}(e:BZ (p,x)=some y)(c:y.2=0): ∃i f r,idx p.2.1 i=some f/\f.1.1=x.1/\y.1=(p.1,p.2.1.set i.toNat (x,true,r,true),p.2.2):=by
 have j:Par (BZ (p,x)) λy=>y.2=0-> ∃i f r,idx p.2.1 i=some f/\f.1.1=x.1/\y.1=(p.1,p.2.1.set i.toNat (x,true,r,true),p.2.2):=by
  unfold BZ;refine .bind λ_ _=>.not (λ_=>.some nofun) λ_=>.bind λn _=>.ne (λc=>.some λh=>absurd h c) λ_=>.bind λi hi=>.lt (λ_=>.some nofun) λo=>.bind λf w=>.le (λ_=>.some nofun) λ_=>.not (λ_=>.bind λq k=>.some λ_=>?_) λ_=>.bind λq k=>.some λ_=>?_
  all_goals
   obtain⟨g,z,v⟩:=(xC hi).2.1 (by omega);grind [RG]
 exact j _ e c
theorem mz{e:J2}{y:cO}(h:uQ (k,e)=some y)(hi:JD k)(hk:e.2.1=1\/e.2.1=2)(hf: ∃f∈k.2.2.2.1.2.1,f.1.1=aQ e):JD y.1:=by
 have x:Par (uQ (k,e)) λy=>JD y.1:=by
  unfold uQ;dsimp only;have F:e.2.1≠7:=by omega
  have E:e.2.1≠6:=by omega
  refine .bind λI h2=>.ne (λ_=>.some hi) λD=>.bind λj B=>.bind λ_ _=>.bind λ_ _=>.bind λW G=>.ne (λ_=>.some hi) λH=>.some ?_;obtain⟨f,hf,o⟩:=hf;have A:=hi.2.2.rng f hf;rw[o]at A;obtain⟨N,e',a1,O,a3,a4,a5,Y,C,V,U,a9,R,T⟩:=PC h2 D hi (λ_=>A) (λc=>absurd c F) (λc=>absurd c E);obtain⟨i,g,r,K,n,Z⟩:=JHn G H;have M: ∃g∈k.2.2.2.1.2.1,g.1=j.1/\g.1.1=aQ e:=by
   cases c3:j.2 with
   |true=>exact(zV B).1 c3
   |false=>exact absurd o ((zV B).2 c3 (MZ N) f hf)
  obtain⟨g',P,S,Q⟩:=M;have v:j.1.1=aQ e:=by simp_all
  have w:aQ e'=aQ e:=congrArg (λz:Int×aK×List UInt8=>z.2.1.1) O;have hc:e'.2.1=1\/e'.2.1=2:=by simp_all
  have n:g.1.1=aQ e:=n.trans v;have up:=hi.2.2.upd (l':=k.2.2.1.2.1++[e']) (rows':=k.2.2.2.2.2.2.1) (f':=((j.1.1,I.2.1,bH j.1.2.2 (Int.toNat e.2.2.2.2.2.2.1.2.1) e.2.2.2.2.2.2.1.2.2.2),true,r,true)) K (v.trans n.symm)
   (λq J=>AT λh=>J (by simp_all)) (λ_ _=>rfl) (by
    grind [AK]) nofun (λr L=>by
    rw[AK,if_pos ⟨hc,by rw[w,n]⟩];have q:=(hi.2.2.row _ r L).1;have b:=rn hi.2.1 (g.1.1);omega)
  refine⟨C,by simp_all,?_⟩;simp_all
 exact x _ h
end
end Go.Am
end
section
namespace Go.Am
set_option linter.unusedVariables false
set_option maxRecDepth 20000
set_option maxHeartbeats 1000000
section
variable {B S:Int} {l l':List J2} {n:Int} {fr:List aF} {lk lk' rows rows':List aA} {f f':aF} {i:Int} {k k':J5}
theorem JOc{p:JI}{x:JS}{y:Int×Int×Int×List aF}(e:sD (p,x)=some y)(c:y.2.2.1=0):y.2.2.2=p.2.1++[(x,false,0,true)]/\ ∀f∈p.2.1,f.1.1≠x.1:=by
 have g:Par (sD (p,x)) λy=>y.2.2.1=0->y.2.2.2=p.2.1++[(x,false,0,true)]/\ ∀f∈p.2.1,f.1.1≠x.1:=(by unfold sD;refine .bind λ_ _=>.not (λ_=>.some nofun) λ_=>.bind λn _=>.ne (λc=>.some λh=>absurd h c) λ_=>.bind λi hi=>.ge (λ_=>.some nofun) λo=>.eq (λ_=>.some nofun) λ_=>.bind λq r=>.bind λj k=>.some λ_=>⟨?_,(xC hi).2.2 (by omega)⟩;grind [gF,LX]);exact g _ e c
theorem JJI{p:JI}{id j:Int}{y:iN}(e:BP (p,id,j)=some y)(c:y.2=0): ∃i f,idx p.2.1 i=some f/\f.1.1=id/\j<=f.1.2.1/\(y.1.2.1=p.2.1\/ ∃f',f'.1=f.1/\(f'.2.1=false->f.2.1=false\/f.1.2.1=j)/\y.1.2.1=p.2.1.set i.toNat f'):=by
 have o:Par (BP (p,id,j)) λy=>y.2=0-> ∃i f,idx p.2.1 i=some f/\f.1.1=id/\j<=f.1.2.1/\(y.1.2.1=p.2.1\/ ∃f',f'.1=f.1/\(f'.2.1=false->f.2.1=false\/f.1.2.1=j)/\y.1.2.1=p.2.1.set i.toNat f'):=by
  unfold BP;refine .bind λ_ _=>.not (λ_=>.some nofun) λ_=>.bind λi hi=>.lt (λ_=>.some nofun) λx=>.bind λf z=>.gt (λ_=>.some nofun) λn=>?_;obtain⟨g,v,r⟩:=(xC hi).2.1 (by omega);have:g=f:=by simp_all
  subst this;have n:j<=g.1.2.1:=Int.not_lt.1 n;have go: ∀{f':aF} {q:JI},f'.1=g.1->(f'.2.1=false->g.2.1=false\/g.1.2.1=j)->iV (p,i,f')=some q-> ∃i f,idx p.2.1 i=some f/\f.1.1=id/\j<=f.1.2.1/\(q.2.1=p.2.1\/ ∃f',f'.1=f.1/\(f'.2.1=false->f.2.1=false\/f.1.2.1=j)/\q.2.1=p.2.1.set i.toNat f'):=fun{f' q} h1 h2 k=>⟨i,g,v,r,n,.inr ⟨f',h1,h2,by rw[RG k]⟩⟩;refine .not (λ_=>.some λ_=>⟨i,g,v,r,n,.inl rfl⟩) λ_=>.eq (λw=>.bind λq k=>.some λ_=>go (f':=(g.1,false,0,g.2.2.2)) rfl (λ_=>.inr w) k) λ_=>.le (λ_=>.bind λq k=>.some λ_=>go (f':=(g.1,g.2.1,J1 .i64 j 1,g.2.2.2)) rfl (λh=>.inl h) k) λ_=>.bind λq k=>.some λ_=>go (f':=(g.1,g.2)) rfl (λh=>.inl h) k
 exact o _ e c
theorem JGv{p:JI}(e:JR p=some true):J0 p.2.1<=64:=by
 have g:Par (JR p) λy=>y=true->J0 p.2.1<=64:=by unfold JR;exact .ltf (λ_=>.gtf (λ_=>.gtf (λ_=>λ_ _ _=>by omega) λ_=>.some nofun) λ_=>.some nofun) λ_=>.some nofun
 exact g _ e rfl
theorem JHm{x:JS}{y:cO}(e:sM (k,x)=some y)(c:y.2=0)(hi:JD k):JD y.1:=by
 have G:Par (sM (k,x)) λy=>y.2=0->JD y.1:=by
  unfold sM;dsimp only;refine .bind λv V=>.not (λ_=>.some nofun) λL=>.ltf (λc0=>.ge (λ_=>.some nofun) λc1=>.bind λy3 h3=>.lt (λ_=>.some nofun) λc3=>.bind λy4 h4=>.gt (λ_=>.some nofun) λc4=>.bind λO T=>.ne (λc=>.some λh=>absurd h c) λQ=>.bind λF R=>?_) λ_=>.some nofun;subst L;obtain⟨i1,i2,i3⟩:=id hi;have J:x.2.1=bV k.2.2.1.2.1 x.1:=(by grind [YO]);have H:0<=x.1/\x.1<k.1:=⟨by omega,by omega⟩;obtain⟨C,B⟩:=JOc T Q;have A:=GA R;refine .ite (λD=>.bind λ_ _=>.bind λy8 w=>.bind λ_ _=>.bind λZ j=>?_) λD=>.some λ_=>⟨i1,i2,?_⟩;have hlen: ∀z:aF,(Jx .i64 (J0 (k.2.2.2.1.2.1++[z])) 1).toNat=k.2.2.2.1.2.1.length:=λz=>by
   have o:=bE (J0 (k.2.2.2.1.2.1++[z])) 1;have q:=JGv (MZ V);have N:=Jd (l:=k.2.2.2.1.2.1);rw[GF,wY]at*;grind [J0]
  have st: ∀a b:aF,(k.2.2.2.1.2.1++[a]).set k.2.2.2.1.2.1.length b=k.2.2.2.1.2.1++[b]:=λa b=>by simp
  have I: ∀a:aF,(k.2.2.2.1.2.1++[a])[k.2.2.2.1.2.1.length]?=some a:=λa=>by simp
  unfold aX bF at*;rw[C,hlen,I]at w;injection w with w;subst w;simp only[C,hlen,st,I]at j⊢;injection j with j;subst j;refine .while (λz=>z.2.1=k/\z.2.2.1=x/\z.2.2.2.2.1=k.2.2.2.1.2.1++[(x,true,F.1.2.1,true)]/\z.1<=9223372036854775807/\(0<=z.1->z.2.2.2.2.2.2.2.2=(k.2.2.2.2.2.2.2.take z.1.toNat).filter λd=>d.1≠x.1)) ⟨rfl,rfl,rfl,show(0:Int)<=9223372036854775807 by decide,λ_=>rfl⟩ ?_;rintro⟨i,g,x2,k3,fr,u1,u2,u3,out⟩ ⟨rfl,rfl,n,M,E⟩
  (try dsimp only at n M E)
  unfold XY;dsimp only;have o:=Jh i 1;have step: ∀{d:aA},idx g.2.2.2.2.2.2.2 i=some d->0<=i/\(0<=J1 .i64 i 1->g.2.2.2.2.2.2.2.take (J1 .i64 i 1).toNat=g.2.2.2.2.2.2.2.take i.toNat++[d]):=fun{d} hd=>by obtain⟨K,S⟩:=cE hd;exact⟨K,λh=>by rw[show(J1 .i64 i 1).toNat=i.toNat+1 by omega,List.take_add_one,S];rfl⟩
  refine .lt (λc=>.bind λd hd=>.ne (λP=>.bind λd2 W=>.bind λa0 Y=>.some ⟨rfl,rfl,n,by grind,λh=>?_⟩) λP=>.some ⟨rfl,rfl,n,by grind,λh=>?_⟩) λc=>.some λ_=>⟨i1,i2,?_⟩;grind [gF];simp_all;show Rel g.2.2.1.2.1 g.1 fr out g.2.2.2.2.2.2.1;have N:=Jd (l:=g.2.2.2.2.2.2.2);rw[n,E (by omega),List.take_of_length_le (by grind [J0])];exact i3.add (f:=(x2,true,F.1.2.1,true)) B H J nofun λd=>by simp
  show Rel _ _ O.2.2.2 _ _;rw[C];refine i3.add (f:=(x,false,0,true)) B H J (λ_ r U=>?_) λd=>⟨λh=>⟨h,A.2 D d h⟩,λh=>h.1⟩;exact(i3.row x.1 r U).2 B (A.2 D)
 exact G _ e c
end
end Go.Am
end
section
namespace Go.Am
set_option linter.unusedVariables false
set_option maxRecDepth 20000
set_option maxHeartbeats 1000000
section
variable {k k':J5}
theorem JLr{y:k0}(e:rZ k=some y)(c:y.2.2.2=0)(hi:JD k):JD y.1/\(y.2.2.1=true-> ∃f∈y.1.2.2.2.1.2.1,f.1=y.2.1):=by
 have w:Par (rZ k) λy=>y.2.2.2=0->JD y.1/\(y.2.2.1=true-> ∃f∈y.1.2.2.2.1.2.1,f.1=y.2.1):=by
  unfold rZ;refine .bind λ_ _=>.not (λ_=>.some nofun) λ_=>.lt (λ_=>.some λ_=>⟨hi,nofun⟩) λ_=>.bind λn B=>.bind λE I=>.bind λf J=>?_;have L:n.2.2=0:=by
   have C:Par (uR k.2.2.2.1) λy=>y.2.2=0\/y.1=(0,[],0):=by unfold uR;refine .bind λ_ _=>.not (λ_=>.some (.inr rfl)) λ_=>.eq (λ_=>.some (.inr rfl)) λ_=>.while (λ_=>True) trivial λz _=>?_;unfold XX;exact .bind λx U=>.ite (λ_=>.bind λy S=>.bind λq R=>.bind λ_ _=>.some trivial) λ_=>.map (.bind λ_ _=>.some (.inl rfl))
   rcases C _ B with h|h
   all_goals grind [idx]
  have i3:Rel k.2.2.1.2.1 k.1 n.1.2.1 k.2.2.2.2.2.2.2 k.2.2.2.2.2.2.1:=JHC B hi.2.2 L;refine .not (λP=>.bind λA F=>.some λ_=>⟨⟨hi.1,hi.2.1,?_⟩,nofun⟩) λ_=>.bind λM r=>.some λ_=>⟨JD.force (k:=(k.1,k.2.1,k.2.2.1,n.1,k.2.2.2.2)) ⟨hi.1,hi.2.1,i3⟩ r,λ_=>⟨f,?_,rfl⟩⟩;show Rel _ _ A.1.2.1 _ _;by_cases G:A.2=0;grind [JLX];refine absurd ?_ G;have H:Par (gM (n.1,n.2.1)) λi=>0<=i->JR n.1=some true/\iD (n.1,n.2.1)=some i:=by unfold gM;exact .bind λv K=>.not (λ_=>.some λh=>absurd h (by decide)) λO=>.bind λi hi=>.some λ_=>⟨by simp_all,hi⟩
  obtain⟨o,_⟩:=cE J;obtain⟨T,Q⟩:=H _ I o;have D:Par (uY (n.1,n.2.1)) λy=>y.2=0:=by
   unfold uY;refine .bind λv K=>.not (λc=>?_) λ_=>.bind λj V=>?_;simp_all;have:j=E:=by simp_all
   subst this;refine .lt (λc=>absurd o (by omega)) λ_=>.bind λg N=>.ite (λc=>?_) λ_=>.bind λ_ _=>.bind λ_ _=>.bind λ_ _=>.bind λ_ _=>.lt (λ_=>.ge (λ_=>.some rfl) λ_=>.some rfl) λ_=>.ge (λ_=>.some rfl) λ_=>.some rfl;simp_all
  exact D _ F;rw[(dp r).2.2.2];grind [oA]
 exact w _ e c
theorem JGB{id:Int}{y:kw}(e:sB (k,id)=some y)(c:y.2.2=0)(hi:JD k):JD y.1/\ ∃f∈y.1.2.2.2.1.2.1,f.1=y.2.1:=by
 have g:Par (sB (k,id)) λy=>y.2.2=0->JD y.1/\ ∃f∈y.1.2.2.2.1.2.1,f.1=y.2.1:=(by unfold sB;refine .bind λ_ _=>.not (λ_=>.some nofun) λ_=>.bind λq n=>.not (λ_=>.some nofun) λj=>.bind λo h=>.some λ_=>⟨hi.force h,?_⟩;obtain⟨f,r,v,_⟩:=(zV n).1 j;grind [dp]);exact g _ e c
theorem JGM{id j:Int}{y:cO}(e:sJ (k,id,j)=some y)(c:y.2=0)(hi:JD k)(hf: ∃f∈k.2.2.2.1.2.1,f.1.1=id/\f.1.2.1=j):JD y.1:=by
 have D:Par (sJ (k,id,j)) λy=>y.2=0->JD y.1:=by
  obtain⟨f,hf,E,T⟩:=hf;have hot:=(hi.2.2.hot f hf).1;rw[E,T]at hot;have K: ∀{g:gT},fQ (k,0,7,0,0,0,j,(id,0,(false,[]),false,[]),[])=some g->g.2.2=0->JD g.1/\g.1.2.2.2.1=k.2.2.2.1/\g.1.1=k.1/\ ∀r,idx g.1.2.2.2.2.2.2.1 id=some r->r.1=bV g.1.2.2.1.2.1 id:=by intro g x z;have q:=PC x z hi (λh=>absurd h (by simp_all)) (λ_=>Int.le_of_eq hot) (λh=>absurd h (by simp_all));refine⟨q.inv hi (by simp_all) (λ_=>Int.le_of_eq hot),?_⟩;obtain⟨U,e',a1,a2,a3,a4,S,M,b0,G,W,a9,V,C⟩:=q;refine⟨G,S,λr o=>?_⟩;obtain⟨A,b1,b2⟩:=(C rfl).2 r o;have H:=(hi.2.2.row id A b1).1;have w:=rN A.1 j;have b2:r.1=cP A.1 j:=b2;rw[M];show r.1=bV (k.2.2.1.2.1++[e']) id;rw[AT (by simp_all)];omega
  unfold sJ;dsimp only;refine .bind λv U=>.not (λ_=>.some nofun) λZ=>.ltf (λ_=>.gef (λ_=>.ltf (λ_=>.bind λ_ _=>.gt (λ_=>.some nofun) λ_=>.bind λy4 Q=>.ge (λO=>.bind λJ R=>.ne (λc=>.some λh=>absurd h c) λL=>.bind λg x=>.ne (λc=>.some λh=>absurd h c) λz=>.some λ_=>?_) λO=>?_) λ_=>.some nofun) λ_=>.some nofun) λ_=>.some nofun;obtain⟨B,P,g3,g4⟩:=K x z;obtain⟨i,N,b1,b2,H,w⟩:=JJI R L;refine⟨B.1,B.2.1,?_⟩;show Rel g.1.2.2.1.2.1 g.1.1 J.1.2.1 g.1.2.2.2.2.2.2.2 g.1.2.2.2.2.2.2.1;have n:=B.2.2;rw[P]at n;rcases w with w|⟨f',I,Y,F⟩;grind;rw[F];have hh:=n.hot N (oA b1);refine n.upd b1 (by rw[I]) (λ_ _=>rfl) (λ_ _=>rfl) (by grind) (λ_ r o=>?_) λr o=>(n.row _ r o).1;grind;refine absurd E ((d9 Q).2 (by omega) (MZ ?_) f hf);grind
 exact D _ e c
theorem JFd{y:gT}(e:BQ k=some y)(c:y.2.2=0)(hi:JD k):JD y.1:=by
 have g:Par (BQ k) λy=>y.2.2=0->JD y.1:=by unfold BQ;exact .bind λ_ _=>.not (λ_=>.some nofun) λ_=>.gt (λ_=>.some nofun) λ_=>.bind λ_ _=>.ne (λc=>.some λh=>absurd h c) λ_=>.some λ_=>hi
 exact g _ e c
theorem JHU{j:Int}{a:mH}{y:dZ}(e:sN (k,j,a)=some y)(hi:JD k):JD y.1:=by
 have h:Par (sN (k,j,a)) λy=>JD y.1:=by unfold sN;dsimp only;refine .bind λz h2=>.not (λ_=>.some hi) λq=>.eq (λ_=>.bind λx v=>.bind λ_ _=>.bind λ_ _=>.some ⟨hi.1,hi.2.1,JND v hi.2.2⟩) λ_=>.bind λ_ _=>.bind λw _=>?_;obtain⟨f,n,_,o⟩:=(zV h2).1 q;exact .eq (λ_=>.bind λr g=>.ne (λ_=>.bind λ_ _=>.some hi) λ_=>.some (mz g hi (.inl rfl) ⟨f,n,o⟩)) λ_=>.bind λr g=>.ne (λ_=>.bind λ_ _=>.some hi) λ_=>.some (mz g hi (.inl rfl) ⟨f,n,o⟩)
 exact h _ e
theorem QN{t m:Int}{y:gT}(e:fQ (k,0,m,t,0,0,0,(0,0,(false,[]),false,[]),[])=some y)(c:y.2.2=0)(hi:JD k)(hm:m=3\/m=4\/m=5):JD y.1:=by have q:=PC e c hi (λh=>by grind) (λh=>by simp_all) (λh=>by simp_all);exact q.inv hi (λh=>by grind) (λh=>by simp_all)
theorem JIs{h:Int}{y:dZ}(e:sK (k,h)=some y)(hi:JD k):JD y.1:=by
 have g:Par (sK (k,h)) λy=>JD y.1:=by unfold sK;exact .bind λ_ _=>.bind λ_ _=>.eq (λ_=>.bind λ_ _=>.bind λ_ _=>.some hi) λ_=>.bind λr j=>.ne (λ_=>.bind λ_ _=>.some hi) λo=>.bind λq n=>.bind λ_ _=>.some (show JD q from(QN j o hi (.inl rfl)).force n)
 exact g _ e
theorem E1{j st:Int}{y:dZ}(e:qB (k,j,st)=some y)(hi:JD k):JD y.1:=by
 have h:Par (qB (k,j,st)) λy=>JD y.1:=by unfold qB;refine .bind λ_ _=>.bind λ_ _=>.bind λ_ _=>.eq (λ_=>.bind λ_ _=>.bind λ_ _=>.some hi) λ_=>.bind λq o=>.ne (λ_=>.bind λ_ _=>.some hi) λn=>.while (λz=>JD z.2.2.2.2.2.2.2) (QN (k:=(k.1,k.2.1,k.2.2.1,k.2.2.2.1,_,k.2.2.2.2.2)) o n hi (.inr (.inl rfl))) λz g=>?_;unfold XK;exact .lt (λ_=>.bind λ_ _=>.eq (λ_=>.bind λ_ _=>.bind λ_ _=>.not (λ_=>.bind λ_ _=>.bind λ_ _=>.some g) λ_=>.some g) λ_=>.some g) λ_=>.some g
 exact h _ e
theorem JMh{v:Int}{a:mH}{y:dZ}(e:rT (k,v,a)=some y)(hi:JD k):JD y.1:=by
 have r:Par (rT (k,v,a)) λy=>JD y.1:=by unfold rT;have g: ∀{o:Option (dN)},Par (o.bind λj=>if aM j.2 0 then(Jp j.2).bind λw=>some (k,w)else some ((k.1,k.2.1,k.2.2.1,k.2.2.2.1,k.2.2.2.2.1,j.1,k.2.2.2.2.2.2),1,0,0,(false,[]),0)) λy=>JD y.1:=.bind λ_ _=>.ne (λ_=>.bind λ_ _=>.some hi) λ_=>.some hi;refine .bind λ_ _=>.ne (λ_=>.bind λ_ _=>.some hi) λ_=>.eq (λ_=>.bind λD x=>.some (JIs x hi)) λ_=>.eq (λ_=>.bind λC z=>.some (E1 z hi)) λ_=>.eq (λ_=>.bind λ_ _=>.eq (λ_=>g) λ_=>.ne (λ_=>.bind λ_ _=>.some hi) λ_=>.some hi) λ_=>.eq (λ_=>.bind λ_ _=>.eq (λ_=>g) λ_=>.ne (λ_=>.bind λ_ _=>.some hi) λ_=>.some hi) λ_=>.bind λ_ _=>.bind λh _=>.ne (λ_=>.bind λ_ _=>.some hi) λ_=>.ite (λ_=>.bind λA q=>.eq (λ_=>.some hi) λ_=>.some (JHU (k:=(k.1,k.2.1,k.2.2.1,k.2.2.2.1,h.1,k.2.2.2.2.2)) q hi)) λ_=>.bind λ_ _=>.gt (λ_=>.bind λB n=>.eq (λ_=>.some hi) λ_=>.some (E1 (k:=(k.1,k.2.1,k.2.2.1,k.2.2.2.1,h.1,k.2.2.2.2.2)) n hi)) λ_=>.bind λ_ _=>.some hi
 exact r _ e
theorem D6{x:Jn}{e:J2}{y:dZ}(h:gL (k,x,e)=some y)(hi:JD k):JD y.1:=by
 have j:Par (gL (k,x,e)) λy=>JD y.1:=(by unfold gL;dsimp only;refine .bind λA h2=>.not (λ_=>.some hi) λo=>.bind λn B=>.bind λ_ _=>.ne (λ_=>.bind λ_ _=>.some hi) λ_=>.bind λz q=>.ne (λ_=>.bind λ_ _=>.some hi) λ_=>?_;obtain⟨f,v,_,r⟩:=(zV h2).1 o;have w:n.1=e.2.2.2.2.2.2.1.1:=(by grind [OF]);have g:=mz q hi (.inr rfl) ⟨f,v,r.trans w.symm⟩;exact .eq (λ_=>.bind λ_ _=>.not (λ_=>.bind λ_ _=>.some g) λ_=>.some g) λ_=>.some g);exact j _ h
end
section
variable {k k':J5}
theorem JIZ{g:Int}{c:JG}{y:dZ}(h:lN (k,g,c)=some y)(hi:JD k):JD y.1:=by
 have e:Par (lN (k,g,c)) λy=>JD y.1:=by unfold lN;exact .bind λ_ _=>.ne (λ_=>.bind λ_ _=>.some hi) λ_=>.ne (λ_=>.bind λ_ _=>.some hi) λ_=>.bind λ_ _=>.not (λ_=>.some hi) λ_=>.bind λn j=>.some (D6 j hi)
 exact e _ h
theorem qh{j:Int}{y:dZ}(h:fR (k,j)=some y)(hi:JD k):JD y.1:=by
 have n:Par (fR (k,j)) λy=>JD y.1:=by unfold fR;have q: ∀x:Jn,Par ((pW (k,j)).bind λe=>if Jm e.2 then(Jp 14).bind λo=>some (k,o)else(gL (k,x,e.1)).bind λg=>some (g.1,g.2)) λy=>JD y.1:=λx=>.bind λ_ _=>.not (λ_=>.bind λ_ _=>.some hi) λ_=>.bind λA r=>.some (D6 r hi);exact .bind λ_ _=>.ne (λ_=>.bind λ_ _=>.some hi) λ_=>.eq (λ_=>.eq (λ_=>.bind λv z=>.ne (λ_=>.bind λ_ _=>.some hi) λw=>.bind λ_ _=>.some (show JD v.1 from QN z w hi (.inr (.inr rfl)))) λ_=>q _) λ_=>q _
 exact n _ h
end
section
variable {k k':J5}
def Fl(r:dV):Prop:=r.1=5->r.2.2.2.2≠0
theorem mp{r:dV}(h:r.1≠5):Fl r:=λe=>absurd e h
theorem LC{n:Int}{r:dV}(h:Jp n=some r)(hn: ¬n=0):Fl r:=by unfold Jp at h;injection h with h;subst h;exact λ_=>hn
theorem JM6{x:Jn}{e:J2}{y:dZ}(h:gL (k,x,e)=some y):Fl y.2:=by
 have g:Par (gL (k,x,e)) λy=>Fl y.2:=by unfold gL;have d:Fl (1,x.1,0,(false,[]),0):=mp (show(1:Int)≠5 by decide);exact .bind λr h2=>.not (λ_=>.some (mp (show(3:Int)≠5 by decide))) λj=>.bind λq v=>.bind λ_ _=>.ne (λc=>.bind λ_ h=>.some (LC h c)) λ_=>.bind λn o=>.ne (λc=>.bind λ_ h=>.some (LC h c)) λ_=>.eq (λ_=>.bind λ_ _=>.not (λ_=>.bind λ_ _=>.some d) λ_=>.some d) λ_=>.some d
 exact g _ h
theorem pj{j:Int}{y:dZ}(h:fR (k,j)=some y):Fl y.2:=by
 have n:Par (fR (k,j)) λy=>Fl y.2:=by unfold fR;have q: ∀x:Jn,Par ((pW (k,j)).bind λe=>if Jm e.2 then(Jp 14).bind λo=>some (k,o)else(gL (k,x,e.1)).bind λg=>some (g.1,g.2)) λy=>Fl y.2:=λx=>.bind λ_ _=>.not (λ_=>.bind λ_ h=>.some (LC h (by decide))) λ_=>.bind λv r=>.some (JM6 r);exact .bind λ_ _=>.ne (λc=>.bind λ_ h=>.some (LC h c)) λ_=>.eq (λ_=>.eq (λ_=>.bind λw A=>.ne (λc=>.bind λ_ h=>.some (LC h c)) λz=>.bind λ_ _=>.some (mp (show(1:Int)≠5 by decide))) λ_=>q _) λ_=>q _
 exact n _ h
end
end Go.Am
end
section
namespace Go.Am
set_option linter.unusedVariables false
set_option maxRecDepth 20000
set_option maxHeartbeats 1000000
section
variable {s:Jt}
theorem Gz{k:J5}{x:JS}{y:eA}(e:qE (s,k,x)=some y)(c:y.2=0)(hi:JD k)(hf: ∃f∈k.2.2.2.1.2.1,f.1=x):JD y.1.1:=by
 have g:Par (qE (s,k,x)) λy=>y.2=0->JD y.1.1:=(by unfold qE;refine .bind λ_ _=>.bind λ_ _=>.ne (λc=>.some λh=>absurd h c) λ_=>.bind λo n=>.ne (λc=>.some λh=>absurd h c) λj=>.some λ_=>JGM n j hi ?_;grind);exact g _ e c
theorem JGF{id:Int}{y:eA}(e:CG (s,id)=some y)(c:y.2=0)(hi:JD s.1):JD y.1.1:=by
 have g:Par (CG (s,id)) λy=>y.2=0->JD y.1.1:=(by unfold CG;refine .bind λn h2=>.ne (λc=>.some λh=>absurd h c) λj=>.bind λ_ _=>.bind λ_ _=>.not (λ_=>.some λ_=>hi) λ_=>.bind λo q=>.some λk=>?_;grind [JGB,Gz]);exact g _ e c
theorem JLG{y:eA}(e:rY s=some y)(c:y.2=0)(hi:JD s.1):JD y.1.1:=by
 have g:Par (rY s) λy=>y.2=0->JD y.1.1:=by unfold rY;refine .while (λz=>JD z.1.1) hi λz v=>?_;unfold WX;refine .bind λw r=>.ne (λc=>.some λh=>absurd h c) λq=>?_;obtain⟨j,n⟩:=JLr r q v;exact .not (λ_=>.some λ_=>j) λc=>.bind λx o=>.ne (λc=>.some λh=>absurd h c) λk=>.some (Gz o k j (n c))
 exact g _ e c
theorem MH{id:Int}{y:eA}(e:lP (s,id)=some y)(c:y.2=0)(hi:JD s.1):JD y.1.1:=by
 have g:Par (lP (s,id)) λy=>y.2=0->JD y.1.1:=by unfold lP;exact .bind λ_ _=>.not (λ_=>.some nofun) λ_=>.ltf (λ_=>.ge (λ_=>.some nofun) λ_=>.bind λ_ _=>.ge (λ_=>.some λ_=>hi) λ_=>.bind λq o=>.ne (λc=>.some λh=>absurd h c) λn=>.bind λ_ _=>.ne (λc=>.some λh=>absurd h c) λ_=>.bind λ_ _=>.bind λ_ _=>.ne (λc=>.some λh=>absurd h c) λ_=>.bind λ_ _=>.ne (λc=>.some λh=>absurd h c) λ_=>.bind λr k=>.ne (λc=>.some λh=>absurd h c) λj=>.some λ_=>JHm k j (JLG o n hi)) λ_=>.some nofun
 exact g _ e c
theorem JEb{k:Int}{y:eA}(e:qH (s,k)=some y)(c:y.2=0)(hi:JD s.1):JD y.1.1:=by
 have j:Par (qH (s,k)) λy=>y.2=0->JD y.1.1:=by unfold qH;refine .bind λ_ _=>.not (λ_=>.some nofun) λ_=>.bind λ_ _=>.lt (λ_=>.some nofun) λ_=>.while (λz=>JD z.2.1.1) hi λz g=>?_;unfold oc;exact .bind λ_ _=>.ite (λ_=>.bind λr n=>.eq (λc=>.some λh=>absurd h (pj (by assumption) c)) λ_=>.eq (λ_=>.bind λv q=>.ne (λc=>.some λh=>absurd h c) λo=>.some (MH q o g)) λ_=>.some (qh n g)) λ_=>.some λ_=>g
 exact j _ e c
theorem JNl{q:Int}{a:mH}{y:iJ}(e:AN (s,q,a)=some y)(hi:JD s.1):JD y.1.1:=by
 have n:Par (AN (s,q,a)) λy=>JD y.1.1:=by
  unfold AN;refine .while (λz=>JD z.2.1.1) hi λz B=>?_;unfold ir;refine .bind λj C=>?_;have g:=JMh C B;have rb: ∀{Q:(lU)⊕(iJ)->Prop},(∀y,JD y.1.1->Q (.inr y))->Par ((vE ((j.1,z.2.1.2),z.1)).bind λw=>if w then(qH ((j.1,z.2.1.2),z.1)).bind λk=>if aM k.2 0 then(Jp k.2).bind λo=>some (.inr ((j.1,z.2.1.2),o))else some (.inr (k.1,j.2))else some (.inr ((j.1,z.2.1.2),j.2))) Q:=
   λh=>.bind λ_ _=>.ite (λ_=>.bind λD v=>.ne (λ_=>.bind λ_ _=>.some (h _ g)) λr=>.some (h _ (JEb (s:=(j.1,z.2.1.2)) v r g))) λ_=>.some (h _ g)
  exact .eq (λ_=>.bind λE A=>.ne (λ_=>.bind λ_ _=>.some g) λx=>.some (MH (s:=(j.1,z.2.1.2)) A x g)) λ_=>.eqf (λ_=>.eq (λ_=>.eqf (λ_=>.eq (λ_=>rb λ_ h=>h) λ_=>.some g) λ_=>rb λ_ h=>h) λ_=>.some g) λ_=>rb λ_ h=>h
 exact n _ e
theorem rh{y:qL}(e:CJ s=some y)(c:y.2.2=0)(hi:JD s.1):JD y.1.1:=by
 have g:Par (CJ s) λy=>y.2.2=0->JD y.1.1:=by unfold CJ;exact .bind λk h2=>.ne (λc=>.some λh=>absurd h c) λj=>.some λ_=>JFd h2 j hi
 exact g _ e c
theorem er{j:Int}{l:JG}{y:qL}(e:AY (s,j,l)=some y)(hi:JD s.1):JD y.1.1:=by
 have h:Par (AY (s,j,l)) λy=>JD y.1.1:=by unfold AY;refine .while (λz=>JD z.2.2.1.1) hi λz g=>?_;unfold jp;exact .bind λr o=>.eq (λ_=>.some g) λ_=>.eq (λ_=>.bind λq n=>.ne (λ_=>.some g) λk=>.some (MH n k g)) λ_=>.eq (λ_=>.some g) λ_=>.some (JIZ o g)
 exact h _ e
theorem ZB{k:Int}{a:mH}{y:iJ}(e:AO (s,k,a)=some y)(hi:JD s.1):JD y.1.1:=by
 have j:Par (AO (s,k,a)) λy=>JD y.1.1:=by unfold AO;refine .while (λz=>JD z.2.1.1) hi λz o=>?_;unfold ix;refine .bind λq n=>?_;have g:=JNl n o;exact .ne (λ_=>.some g) λ_=>.bind λ_ _=>.not (λ_=>.some g) λ_=>.bind λr h=>.ne (λ_=>.bind λ_ _=>.some (er h g)) λ_=>.eq (λ_=>.some (er h g)) λ_=>.some (er h g)
 exact j _ e
theorem JMn{y:kz}(e:BD s=some y)(c:y.2.2=0)(hi:JD s.1):JD y.1.1:=by
 have g:Par (BD s) λy=>y.2.2=0->JD y.1.1:=by unfold BD;refine .bind λ_ _=>.not (λ_=>.some nofun) λ_=>.gt (λ_=>.bind λ_ _=>.bind λv r=>.some λq=>MH r q hi) λ_=>.bind λ_ _=>.eq (λ_=>.some λ_=>hi) λ_=>.while (λz=>JD z.2.1.1) hi λz j=>?_;unfold jj;exact .bind λ_ _=>.bind λx o=>.eq (λc=>.some λh=>absurd h (pj (by assumption) c)) λ_=>.ne (λ_=>.some λ_=>qh o j) λ_=>.bind λw n=>.ne (λc=>.some λh=>absurd h c) λk=>.some (MH n k j)
 exact g _ e c
end
end Go.Am
end
section
namespace Go.Am
set_option linter.unusedVariables false
set_option maxRecDepth 20000
set_option maxHeartbeats 1000000
section
theorem EB{n:Int}(h1:0<=n)(h2:n<18446744073709551616):IntKind.u64.wrap n=n:=by
 grind [IntKind.wrap,IntKind.bits,IntKind.signed]
theorem A5{n:Int}(h1: -9223372036854775808<=n)(h2:n<=9223372036854775807):IntKind.i64.wrap n=n:=by
 grind [IntKind.wrap,IntKind.bits,IntKind.signed]
theorem JO2{l:List UInt8}{k:Nat}(h:k<l.length):oT l (k:Int)=some ((l[k]).toNat:Int):=by simp[oT,h]
theorem JMF{x b j:Nat}(hj:j<=7)(hx:x<2^(8*j))(hb:b<256):
  orI .u64 (x:Int) (IntKind.wrap .u64 (((b:Nat):Int)*2^(8*j)))=((x+b*2^(8*j):Nat):Int):=by
 have e:(2:Nat)^(8*j)*256<=2^64:=by rw[show(256:Nat)=2^8 by rfl,<-Nat.pow_add];exact DO (by omega) (by omega)
 have g:b*2^(8*j)+2^(8*j)<=2^64:=(by have:(b+1)*2^(8*j)<=256*2^(8*j):=zQ4 _ (by omega);grind);have w:IntKind.wrap .u64 (((b:Nat):Int)*2^(8*j))=((b*2^(8*j):Nat):Int):=(by grind [EB]);rw[w];have h: ∀y:Nat,y<2^64->(BitVec.ofInt 64 (y:Int)).toNat=y:=by simp_all
 show IntKind.wrap .u64 (((BitVec.ofInt 64 (x:Int)|||BitVec.ofInt 64 ((b*2^(8*j):Nat):Int)).toNat:Nat):Int)=_;grind [Nat.mul_comm,Nat.two_pow_add_eq_or_of_lt,EB]
theorem JCM{n i:Nat}(hn:n<2^64):J7e (n:Int) i=((n/2^(8*i)%256:Nat):Int):=by
 show((IntKind.wrap .u64 (n:Int)).fdiv (2^(8*i)))%256=_;grind [EB]
theorem JHv{n:Int}{k i:Nat}(h:i<k):(J0E n k)[i]?=some (UInt8.ofNat (J7e n i).toNat):=by
 grind [J0E,toStr]
theorem eK{s r:List UInt8}{n:Int}{k:Nat}(h1:1<=k)(E:k<=8)(h:JN (s,n,(k:Int))=some r):r=s++J0E n k:=by
 have v:Par (JN (s,n,(k:Int))) λr=>r=s++J0E n k:=by
  unfold JN;refine .ltf (λ_=>.gt (λc=>by grind) λ_=>?_) λc=>by grind
  refine .while (λz=>z.2.1=n/\z.2.2.1=(k:Int)/\ ∃j:Nat,z.2.2.2=(j:Int)/\j<=k/\z.1=s++J0E n j) ⟨rfl,rfl,0,rfl,zQ2 _,by simp[J0E,toStr]⟩ ?_;rintro⟨o,w,k',B⟩ ⟨rfl,rfl,j,rfl,G,e⟩
  (try dsimp only at e)
  subst e;unfold iz;dsimp only;have D:=Jh (j:Int) 1;have C:=tS 8 (j:Int);refine .lt (λc=>.bind λx q=>.bind λF g=>.some ⟨rfl,rfl,j+1,by grind,by omega,?_⟩) λc=>.some (by grind);have A:aU .u8 x=J7e w j:=by
   have y:aU .u64 (cB .i64 8 (j:Int))=((8*j:Nat):Int):=(by grind [aU,EB]);rw[y]at q;simp only[kE]at q;rw[if_neg (by omega)]at q;injection q with q;rw[<-q];have:min (((8*j:Nat):Int)).toNat IntKind.u64.bits=8*j:=by simp only[Int.toNat_natCast];exact Nat.min_eq_left (by show 8*j<=64;omega)
   rw[this];rfl
  rw[A]at g;dsimp only;unfold dY at g;split at g;injection g with g;rw[<-g,JrX,kF];rfl;cases g
 exact v _ h
def At(s w:List UInt8)(p:Int):Prop:= ∃pre e,s=pre++(w++e)/\(pre.length:Int)=p
theorem At.left{s a b:List UInt8}{p:Int}(h:At s (a++b) p):At s a p:=by obtain⟨pre,g,e,h⟩:=h;exact⟨pre,b++g,by rw[e];simp,h⟩
theorem At.right{s a b:List UInt8}{p:Int}(h:At s (a++b) p):At s b (p+a.length):=by obtain⟨pre,g,e,h⟩:=h;exact⟨pre++a,g,by rw[e];simp,by simp_all⟩
theorem At.bnd{s w:List UInt8}{p:Int}(h:At s w p):0<=p/\p+w.length<=s.length:=by
 obtain⟨pre,g,e,h⟩:=h;grind
theorem At.slc{s w r:List UInt8}{p q:Int}(h:At s w p)(hq:q=p+w.length)(e:bD s (some p) (some q)=some r):r=w:=by
 obtain⟨pre,g,rfl,rfl⟩:=h;obtain⟨r',e',d,_⟩:=LY (l:=pre++(w++g)) (j:=pre.length) (k:=q) (by omega) (by omega) (by grind [J0]);rw[e']at e;injection e with e;subst e;rw[d,show(q-(pre.length:Int)).toNat=w.length by omega];simp
theorem At.all{s:List UInt8}:At s s 0:=⟨[],[],by simp,rfl⟩
theorem FA{s:List UInt8}{p:Int}{n k:Nat}(h:At s (J0E n k) p)(h1:1<=k)(J:k<=8)(hn:n<2^(8*k))(E:n<2^63)(hl:s.length<=4611686018427387904):
  cW (s,p,(k:Int))=some ((n:Int),0):=by
 have q:=h.bnd;rw[JT]at q;obtain⟨pre,B,L,rfl⟩:=h;have v:Tot (cW (s,(pre.length:Int),(k:Int))) λy=>y=((n:Int),0):=by
  unfold cW;have o:=bE (J0 s) (pre.length:Int);have F:J0 s=(s.length:Int):=rfl;refine .ltf (λ_=>.gtf (λ_=>.lt (λc=>by grind) λ_=>.gtf (λ_=>.lt (λc=>by grind) λ_=>?_) λc=>by grind) λc=>by grind) λc=>by grind
  refine Jl (τ:=Nat) (λj=>(s,(pre.length:Int),(k:Int),((n%2^(8*j):Nat):Int),(j:Int))) (λj=>j<=k) (λj=>(k:Int)-j) ?_ 0 (by simp_all) (zQ2 _);intro j M;unfold XF;dsimp only;have H:=Jh (j:Int) 1;have G:=tS 8 (j:Int);have I:=Jh (pre.length:Int) (j:Int);refine .lt (λc=>?_) λc=>.some ?_;have D:J1 .i64 (pre.length:Int) (j:Int)=((pre.length+j:Nat):Int):=by omega
  have g:pre.length+j<s.length:=by omega
  have q:(s[pre.length+j]'g).toNat=n/2^(8*j)%256:=(by have K:s[pre.length+j]?=some (UInt8.ofNat (J7e (n:Int) j).toNat):=(by grind [JT,JHv]);grind [Joc,JCM]);have w:n/2^(8*j)%256<256:=Nat.mod_lt _ (by omega);have A:aU .u64 (cB .i64 8 (j:Int))=((8*j:Nat):Int):=(by grind [aU,EB]);have C:sY .u64 (aU .u64 (((s[pre.length+j]'g).toNat:Nat):Int)) ((8*j:Nat):Int)=some (IntKind.wrap .u64 (((n/2^(8*j)%256:Nat):Int)*2^(8*j))):=by
   unfold aU;rw[q,EB (by omega) (by omega)];simp only[sY];rw[if_neg (by omega)];have:min (((8*j:Nat):Int)).toNat IntKind.u64.bits=8*j:=by simp only[Int.toNat_natCast];exact Nat.min_eq_left (by show 8*j<=64;omega)
   rw[this]
  have r:=JMF (x:=n%2^(8*j)) (b:=n/2^(8*j)%256) (j:=j) (by omega) (Nat.mod_lt _ (Nat.two_pow_pos _)) w;have z:n%2^(8*j)+n/2^(8*j)%256*2^(8*j)=n%2^(8*(j+1)):=by rw[Nat.mul_add,Nat.pow_add,Nat.mod_mul,IL (n/2^(8*j)%256)]
  rw[z]at r;rw[D,JO2 g,JO,A,C,JO,r];exact .some ⟨j+1,by grind,by omega,by omega,by omega⟩;grind [Nat.mod_eq_of_lt,aU,A5]
 obtain⟨y,e,d⟩:=v;rw[e,d]
end
end Go.Am
end
section
namespace Go.Am
set_option linter.unusedVariables false
set_option maxRecDepth 20000
set_option maxHeartbeats 1000000
section
def lC(c:fX):Prop:=J0 c.2<=12/\(c.1=false->c.2=[])
def EV(e:J2):Prop:=(1<=e.1/\e.1<=1099511627776)/\(0<=e.2.2.2.1/\e.2.2.2.1<e.1)/\(0<=e.2.2.2.2.1/\e.2.2.2.2.1<e.1)/\(0<=e.2.2.2.2.2.1/\e.2.2.2.2.2.1<e.1)/\(1<=e.2.1/\e.2.1<=8)/\(0<=e.2.2.1/\e.2.2.1<=1073741824)/\(0<=aQ e/\aQ e<64)/\(0<=e.2.2.2.2.2.2.1.2.1/\e.2.2.2.2.2.2.1.2.1<16)/\lC e.2.2.2.2.2.2.1.2.2.1/\lC e.2.2.2.2.2.2.1.2.2.2/\J0 e.2.2.2.2.2.2.2<=8192
theorem o7{c:fX}(h:fS c=some true):lC c:=by
 have e:Par (fS c) λy=>y=true->lC c:=by
  unfold fS;refine .ite (λj=>.itf (λg=>.some ?_) λg=>.some ?_) λj=>.some ?_
  all_goals grind [lC,eqS,aW,J0]
 exact e _ h rfl
theorem EV.of{e:J2}(h:Js e=some true):EV e:=by
 obtain⟨H,B,A,G,F,E,⟨w,x,r,o⟩,j⟩:=e;have g: ∀{c:aK} {b:Bool},iH c=some b->b=true->(0<=c.1/\c.1<64)/\(0<=c.2.1/\c.2.1<16)/\lC c.2.2.1/\lC c.2.2.2:=fun{c b} D L=>by
  have C:Par (iH c) λy=>y=true->(0<=c.1/\c.1<64)/\(0<=c.2.1/\c.2.1<16)/\lC c.2.2.1/\lC c.2.2.2:=by unfold iH;refine .ge (λK=>.lt (λM=>.ge (λg=>.lt (λO=>.bind λa P=>.ite (λJ=>.bind λb D=>.some λI=>?_) λ_=>.some nofun) λ_=>.some nofun) λ_=>.some nofun) λ_=>.some nofun) λ_=>.some nofun;subst J;subst I;exact⟨⟨K,M⟩,⟨g,O⟩,o7 P,o7 D⟩
  exact C _ D L
 have z:lC (false,[]):=⟨show(0:Int)<=12 by decide,λ_=>rfl⟩;have W:Par (mJ (H,B,A,G,F,E,(w,x,r,o),j)) λy=>y.2=true->y.1=(H,B,A,G,F,E,(w,x,r,o),j)->(1<=B/\B<=8)/\(0<=A/\A<=1073741824)/\(0<=w/\w<64)/\(0<=x/\x<16)/\lC r/\lC o/\J0 j<=8192:=by
  unfold mJ;dsimp only
  repeat' first
   |refine .eq (λ_=>?_) λ_=>?_
   |refine .ge (λ_=>?_) λ_=>?_
   |refine .le (λ_=>?_) λ_=>?_
   |refine .gt (λ_=>?_) λ_=>?_
   |exact .some λh=>absurd h Bool.false_ne_true
   |refine .bind λv q=>.ite (λk=>?_) λ_=>.some nofun
   |refine .bind λv q=>.eq (λ_=>.ite (λk=>?_) λ_=>.some nofun) λ_=>.ite (λk=>?_) λ_=>.some nofun
  all_goals refine .some λc Q=>?_
  all_goals simp only[Prod.mk.injEq,true_and,and_true]at Q
  all_goals simp only[eF,iB,uF]at c
  all_goals first
   |exact⟨by omega,by omega,(g q k).1,(g q k).2.1,(g q k).2.2.1,(g q k).2.2.2,by rw[<-Q];exact(by decide:(0:Int)<=8192)⟩
   |exact⟨by omega,by omega,(g q k).1,(g q k).2.1,(g q k).2.2.1,(g q k).2.2.2,by rw[<-Q.2];exact(by decide:(0:Int)<=8192)⟩
   |(have Z:r=(false,[]):=by grind
     have S:o=(false,[]):=by grind
     have R:J0 j<=8192:=by
      first
       |exact c
       |(have:j=[]:=by grind
         rw[this];exact(by decide:(0:Int)<=8192))
     rw[Z,S];exact⟨by omega,by omega,by omega,by omega,z,z,R⟩)
 have N: ∀{n l:Int} {b:Bool},jV (n,l)=some b->b=true->0<=n/\n<l:=fun{n l b} D L=>SM (by rw[<-L];exact D);have C:Par (Js (H,B,A,G,F,E,(w,x,r,o),j)) λy=>y=true->EV (H,B,A,G,F,E,(w,x,r,o),j):=by unfold Js;exact .bind λa P=>.ite (λK=>.ite (λM=>.ge (λg=>.le (λO=>.bind λb1 U=>.ite (λJ=>.bind λb2 T=>.ite (λI=>.bind λb3 V=>.some λY=>⟨⟨g,O⟩,N U J,N T I,N V Y,W _ P K (dJ.1 M)⟩) λ_=>.some nofun) λ_=>.some nofun) λ_=>.some nofun) λ_=>.some nofun) λ_=>.some nofun) λ_=>.some nofun
 exact C _ h rfl
end
end Go.Am
end
section
namespace Go.Am
set_option linter.unusedVariables false
set_option maxRecDepth 20000
set_option maxHeartbeats 1000000
section
def nS(c:fX):List UInt8:=if c.1=false then J0E 255 1 else J0E (J0 c.2) 1++c.2
def kX(e:J2):List UInt8:=J0E e.1 8++(J0E e.2.1 1++(J0E e.2.2.1 4++(J0E e.2.2.2.1 8++(J0E e.2.2.2.2.1 8++(J0E e.2.2.2.2.2.1 8++(J0E (aQ e) 4++(J0E e.2.2.2.2.2.2.1.2.1 1++(nS e.2.2.2.2.2.2.1.2.2.1++(nS e.2.2.2.2.2.2.1.2.2.2++(J0E (J0 e.2.2.2.2.2.2.2) 4++e.2.2.2.2.2.2.2))))))))))
theorem rB{a b r:List UInt8}(h:dY a b=some r):r=a++b:=by
 grind [dY]
theorem Da{s r:List UInt8}{c:fX}(h:xR (s,c)=some r):r=s++nS c:=by
 have e:Par (xR (s,c)) λr=>r=s++nS c:=by
  unfold xR nS;refine .not (λd=>.bind λj h2=>.some ?_) λd=>.bind λg o=>.bind λk n=>.some ?_
  all_goals grind [eK,rB]
 exact e _ h
theorem JO6{e:J2}{y:List UInt8×Int}(h:CB e=some y)(hv:Js e=some true):y=(kX e,0):=by
 have r:Par (CB e) λy=>y=(kX e,0):=(by unfold CB;refine .bind λv G=>.not (λc=>?_) λ_=>.bind λL D=>.bind λQ B=>.bind λN C=>.bind λO z=>.bind λK w=>.bind λM x=>.bind λP A=>.bind λE n=>.bind λJ q=>.bind λI o=>.bind λF g=>.bind λH j=>.some ?_;simp_all;rw[rB j,eK (k:=4) (by decide) (by decide) g,Da o,Da q,eK (k:=1) (by decide) (by decide) n,eK (k:=4) (by decide) (by decide) A,eK (k:=8) (by decide) (by decide) x,eK (k:=8) (by decide) (by decide) w,eK (k:=8) (by decide) (by decide) z,eK (k:=4) (by decide) (by decide) C,eK (k:=1) (by decide) (by decide) B,eK (k:=8) (by decide) (by decide) D];unfold kX;simp only[kF,jA];rfl);exact r _ h
variable {s:List UInt8} {p:Int}
theorem pC{n:Int}{k:Nat}(b:Nat)(h:At s (J0E n k) p)(hl:s.length<=1000000)(h0:0<=n)(hn:n<b)(hb:b=2^(8*k):=by rfl)(h1:1<=k:=by decide)(j:k<=8:=by decide)(q:n<9223372036854775808:=by omega):JF ((k:Int),s,p,0)=some (n,s,p+k,0):=by have e:=h.bnd;rw[JT]at e;obtain⟨m,rfl⟩:=Int.eq_ofNat_of_zero_le h0;have g:=FA h h1 j (by omega) (by omega) (by omega);have o:=Jh p (k:Int);unfold JF;dsimp only;rw[if_neg (by decide),g];dsimp only[Option.bind_some];rw[if_neg (by decide),show J1 .i64 p (k:Int)=p+k by omega]
theorem Cm{w:List UInt8}(h:At s w p)(hl:s.length<=1000000):yA (J0 w,s,p,0)=some (w,s,p+w.length,0):=by
 have k:=h.bnd;have o:=Jh p (J0 w);have q:=bE (J0 s) p;have n:=bE (J1 .i64 p (J0 w)) (J0 w);have v:J0 w=w.length:=rfl;have x:J0 s=s.length:=rfl;have g:Tot (yA (J0 w,s,p,0)) λy=>y=(w,s,p+w.length,0):=by unfold yA;dsimp only;refine .ne (λc=>absurd rfl c) λ_=>.gt (λc=>by omega) λ_=>?_;rw[show Jx .i64 (J1 .i64 p (J0 w)) (J0 w)=p by omega,show J1 .i64 p (J0 w)=p+w.length by omega];refine .bind (LY (l:=s) k.1 (by omega) (by omega)).eqn λr j=>.some ?_;rw[h.slc rfl j.2]
 obtain⟨y,e,d⟩:=g;rw[e,d]
theorem Cg{c:fX}(h:At s (nS c) p)(hc:lC c)(hl:s.length<=1000000):CV (s,p,0)=some (c,s,p+(nS c).length,0):=by
 unfold nS at h⊢;unfold CV;obtain⟨b,d⟩:=c;obtain⟨h1,h2⟩:=hc
 (try dsimp only at h h1 h2⊢)
 have e:=Jd (l:=d);cases b with
 |false=>rw[if_pos rfl]at h⊢;have g:=pC (k:=1) 256 h hl (by decide) (by decide);rw[show JF (1,s,p,0)=_ from g,h2 rfl];rfl
 |true=>
  rw[if_neg (by decide)]at h⊢;have g:=pC (k:=1) 256 h.left hl (by omega) (by omega);have j:=Cm h.right hl;grind [JF,jR,uF,JT]
theorem Cy{e:J2}(hv:Js e=some true):GZ (kX e)=some (e,0)/\(kX e).length<=8300:=by
 obtain⟨P,Q,O,R,S,J,K,N,v,j,I⟩:=EV.of hv;have n: ∀{c:fX},lC c->(nS c).length<=13:=fun{c} hc=>by
  unfold nS;have:=hc.1;grind [J0,JT]
 have L:=n v;have M:=n j;have F:(kX e).length=46+(nS e.2.2.2.2.2.2.1.2.2.1).length+(nS e.2.2.2.2.2.2.1.2.2.2).length+e.2.2.2.2.2.2.2.length:=(by grind [kX,List.length_append,JT]);have H:J0 e.2.2.2.2.2.2.2=e.2.2.2.2.2.2.2.length:=rfl;refine⟨?_,by omega⟩;have h:(kX e).length<=1000000:=by omega
 generalize G:kX e=s at F h;have g:At s (kX e) 0:=by rw[G];exact .all
 unfold kX at g;have E:=pC (k:=8) 18446744073709551616 g.left h (by omega) (by omega);replace g:=g.right;simp only[JT]at g;have D:=pC (k:=1) 256 g.left h (by omega) (by omega);replace g:=g.right;simp only[JT]at g;have C:=pC (k:=4) 4294967296 g.left h (by omega) (by omega);replace g:=g.right;simp only[JT]at g;have A:=pC (k:=8) 18446744073709551616 g.left h (by omega) (by omega);replace g:=g.right;simp only[JT]at g;have B:=pC (k:=8) 18446744073709551616 g.left h (by omega) (by omega);replace g:=g.right;simp only[JT]at g;have w:=pC (k:=8) 18446744073709551616 g.left h (by omega) (by omega);replace g:=g.right;simp only[JT]at g;have y:=pC (k:=4) 4294967296 g.left h (by omega) (by omega);replace g:=g.right;simp only[JT]at g;have z:=pC (k:=1) 256 g.left h (by omega) (by omega);replace g:=g.right;simp only[JT]at g;have x:=Cg g.left v h;replace g:=g.right;have r:=Cg g.left j h;replace g:=g.right;have o:=pC (k:=4) 4294967296 g.left h (by omega) (by omega);replace g:=g.right;simp only[JT]at g;have q:=Cm g h;unfold GZ;rw[show JF (8,s,0,0)=_ from E,JO];rw[show JF (1,s,_,0)=_ from D,JO];rw[show JF (4,s,_,0)=_ from C,JO];rw[show JF (8,s,_,0)=_ from A,JO];rw[show JF (8,s,_,0)=_ from B,JO];rw[show JF (8,s,_,0)=_ from w,JO];rw[show JF (4,s,_,0)=_ from y,JO];rw[show JF (1,s,_,0)=_ from z,JO];rw[x,JO];rw[r,JO];rw[show JF (4,s,_,0)=_ from o,JO];rw[q,JO];dsimp only;rw[if_neg (by decide),if_neg (by grind [zW,J0])];rw[show Js (e.1,e.2.1,e.2.2.1,e.2.2.2.1,e.2.2.2.2.1,e.2.2.2.2.2.1,(aQ e,e.2.2.2.2.2.2.1.2.1,e.2.2.2.2.2.2.1.2.2.1,e.2.2.2.2.2.2.1.2.2.2),e.2.2.2.2.2.2.2)=some true from hv];rfl
end
end Go.Am
end
section
namespace Go.Am
set_option linter.unusedVariables false
set_option maxRecDepth 20000
set_option maxHeartbeats 1000000
section
variable {s r w:List UInt8} {p:Int}
theorem Cs{c:Int}(h:pT s=some c):0<=c/\c<4294967296:=by
 have e:Par (pT s) λc=>0<=c/\c<4294967296:=(by unfold pT;refine .while (λ_=>True) trivial λz _=>?_;unfold jb;refine .lt (λ_=>.bind λ_ _=>.while (λ_=>True) trivial λz _=>?_) λ_=>.some ?_;unfold je;exact .lt (λ_=>.eq (λ_=>.bind λ_ _=>.some trivial) λ_=>.bind λ_ _=>.some trivial) λ_=>.some trivial;exact⟨(pQ .u32 _).1,Int.lt_of_le_of_lt (pQ .u32 _).2 (by decide)⟩);exact e _ h
def FrB(w r:List UInt8):Prop:=J0 w<=8392/\ ∃c,pT (J0E (J0 w) 4++w)=some c/\r=(J0E (J0 w) 4++w)++J0E c 4
theorem Cu(h:xN w=some r)(hl:J0 w<=8392):FrB w r:=by
 have e:Par (xN w) λr=>FrB w r:=(by unfold xN;refine .gt (λc=>by omega) λ_=>.bind λv h2=>.bind λn g=>.bind λc hc=>.bind λo j=>.some ⟨hl,c,?_,?_⟩;rw[rB g,eK (k:=4) (by decide) (by decide) h2]at hc;exact hc;obtain⟨q,x⟩:=Cs hc;rw[eK (k:=4) (by decide) (by decide) j,rB g,eK (k:=4) (by decide) (by decide) h2];grind [aU,A5]);exact e _ h
theorem FrB.len(h:FrB w r):(r.length:Int)=J0 w+8:=by
 obtain⟨_,c,_,rfl⟩:=h;grind [JT,J0]
theorem Cv(h:FrB w r)(ha:At s r p)(hl:s.length<=4611686018427387904):oH (s,p)=some (w,p+r.length,0):=by
 have j:=ha.bnd;have G:=h.len;obtain⟨h1,c,hc,rfl⟩:=h;have B:=Jd (l:=w);obtain⟨m,q⟩:=Int.eq_ofNat_of_zero_le B;obtain⟨C,M⟩:=Cs hc;obtain⟨P,rfl⟩:=Int.eq_ofNat_of_zero_le C;have o:=FA (n:=m) (by rw[<-q];exact ha.left.left) (by decide:1<=4) (by decide) (by omega) (by omega) hl;have k:=FA ha.right (by decide:1<=4) (by decide) (by omega) (by omega) hl;rw[<-q]at o;have I:J0 s=s.length:=rfl;have H:J0 w=w.length:=rfl;simp only[eC,JT]at G k;have U:=Jh p 4;have T:=Jh (J1 .i64 p 4) (J0 w);have V:=Jh p 8;have R:=Jh (J1 .i64 p 8) (J0 w);have J:=bE (J0 s) p;have L:=Jh (J0 w) 8;simp only[eC,JT]at j;have A:J1 .i64 (J1 .i64 p 4) (J0 w)=p+((4+w.length:Nat):Int):=by omega
 have g:Tot (oH (s,p)) λy=>y=(w,p+((4+w.length+4:Nat):Int),0):=by
  unfold oH;dsimp only;refine .ltf (λ_=>.gt (λc=>by omega) λ_=>.bind (fH o) λS x=>?_) λc=>by omega
  subst x;dsimp only;refine .ne (λc=>absurd rfl c) λ_=>.gt (λc=>by omega) λ_=>.lt (λc=>by omega) λ_=>?_;rw[A];refine .bind (fH k) λK z=>.bind (LY (l:=s) j.1 (by omega) (by omega)).eqn λQ F=>?_;subst z;rw[ha.left.slc (by simp[JT]) F.2];refine .bind (fH hc) λN D=>?_;subst D;refine .ne (λc=>absurd (by grind [aU,IntKind.wrap,IntKind.bits,IntKind.signed]) c) λ_=>?_;rw[show J1 .i64 p 4=p+((4:Nat):Int) by omega];refine .bind (LY (l:=s) (by omega) (by omega) (by omega)).eqn λO E=>.some ?_;have v:=ha.left.right;rw[JT]at v;rw[v.slc (by omega) E.2,show J1 .i64 (J1 .i64 p 8) (J0 w)=p+((4+w.length+4:Nat):Int) by omega]
 obtain⟨y,e,d⟩:=g;grind [JT]
theorem JKU{m:Nat}(h:FrB w r)(ha:At s (r.take m) p)(hm:m<r.length)(he:p+m=s.length)(hl:s.length<=4611686018427387904):Par (oH (s,p)) λy=>y.2.2≠0:=by
 have B:=ha.bnd;have E:=h.len;obtain⟨h1,c,hc,rfl⟩:=h;have v:J0 s=s.length:=rfl;have x:=bE (J0 s) p;have z:=Jh (J0 w) 8;have k:=Jd (l:=w);unfold oH;dsimp only;refine .ltf (λ_=>.gt (λ_=>.some (by decide)) λ_=>.bind λA h2=>.ne (λ_=>.some (by decide)) λo=>.gt (λ_=>.some (by decide)) λ_=>.lt (λ_=>.some (by decide)) λD=>?_) λ_=>.some (by decide);exfalso;by_cases C:m<4;have g:Par (cW (s,p,4)) λy=>y.2≠0:=(by unfold cW;dsimp only;exact .ltf (λ_=>.gtf (λ_=>.lt (λ_=>.some (by decide)) λ_=>.gtf (λ_=>.lt (λ_=>.some (by decide)) λc=>by omega) λ_=>.some (by decide)) λ_=>.some (by decide)) λ_=>.some (by decide));exact g _ h2 o;obtain⟨n,F⟩:=Int.eq_ofNat_of_zero_le k;have G:At s (J0E (J0 w) 4) p:=(by obtain⟨pre,j,e,q⟩:=ha;refine⟨pre,((w++J0E c 4).take (m-4))++j,?_,q⟩;grind [List.take_append,JT,List.take_of_length_le]);grind [FA]
end
end Go.Am
end
section
namespace Go.Am
set_option linter.unusedVariables false
set_option maxRecDepth 20000
set_option maxHeartbeats 1000000
section
variable {s:List UInt8} {l:JK}
noncomputable def qN(e:J2):List UInt8:=(sC e).getD []
noncomputable def frs(l:List J2):List UInt8:=(l.map qN).flatten
theorem Ez(a b:List J2):frs (a++b)=frs a++frs b:=by simp[frs]
theorem da{e:J2}{r:List UInt8}(h:sC e=some r)(hv:Js e=some true):FrB (kX e) r/\qN e=r:=by
 refine⟨?_,by grind [qN]⟩;have g:Par (sC e) λr=>FrB (kX e) r:=(by unfold sC;refine .bind λk h2=>.bind λj n=>.some ?_;grind [JO6,Cu,Cy,J0]);exact g _ h
def hdB(h:List UInt8):Prop:=FrB ([80,77,76,71]++J0E 1 8) h
theorem Z5{r:List UInt8}(h:BK 1=some r):hdB r:=by
 have e:Par (BK 1) λr=>hdB r:=by unfold BK;refine .bind λn h2=>.bind λj g=>.some ?_;rw[eK (k:=8) (by decide) (by decide) h2]at g;refine Cu g ?_;simp[J0,JT]
 exact e _ h
def IK(l:List J2):Prop:= ∀e∈l,FrB (kX e) (qN e)/\Js e=some true
theorem JL1{n:Int}(h:mM (l,n)=some s)(hi:gP l)(hc:dE l.2.1):s=[]\/(IK l.2.1/\s.length<=4611686018427387904/\ ∃hd rest,hdB hd/\s=hd++rest/\rest<+:frs l.2.1):=by
 have J:Par (mM (l,n)) λs=>s=[]\/(IK l.2.1/\s.length<=4611686018427387904/\ ∃hd rest,hdB hd/\s=hd++rest/\rest<+:frs l.2.1):=by
  obtain⟨i1,i2,i3,i4⟩:=hi;unfold mM;refine .bind λ_ _=>.not (λ_=>.some (.inl rfl)) λ_=>.bind λhd v=>?_
  (try dsimp only at v)
  rw[i1]at v;refine .while (λz=>z.2.2.2.2=l/\ ∃i:Nat,z.2.2.2.1=(i:Int)/\i<=l.2.1.length/\IK (l.2.1.take i)/\hd<+:z.2.1/\z.2.1++z.2.2.1=hd++frs (l.2.1.take i)/\((i:Int)<=l.2.2->z.2.2.1=[])) ⟨rfl,0,rfl,zQ2 _,λe h=>by simp at h,List.prefix_refl _,by simp[frs],λ_=>rfl⟩ ?_;rintro⟨t,a,b,i',l'⟩ ⟨E,i,D,hi,B,G,j,O⟩
  (try dsimp only at E D hi B G j O)
  subst E;subst D;unfold ke;dsimp only;have o:=Jh (i:Int) 1;have N: ∀{e:J2},idx l'.2.1 (i:Int)=some e->l'.2.1.take (i+1)=l'.2.1.take i++[e]/\e.1=(i:Int)+1/\Js e=some true/\i+1<=l'.2.1.length:=fun{e} j=>by
   obtain⟨_,q⟩:=cE j;rw[Int.toNat_natCast]at q;have W:=(cI.1 q).1;obtain⟨A,Q,_⟩:=hc i e q;grind [List.take_add_one,J0]
  have Z: ∀{e:J2} {r:List UInt8},sC e=some r->Js e=some true->IK (l'.2.1.take i++[e]):=fun{e r} hr hv x C=>by
   rcases cF.1 C with C|C;exact B x C;simp_all [da]
  refine .lt (λc=>.bind λe k=>.le (λT=>.bind λU g=>.bind λR I=>.bind λw y=>.some ⟨rfl,i+1,?_⟩) λT=>.bind λU g=>.bind λR I=>.bind λw y=>.some ⟨rfl,i+1,?_⟩) λc=>.map (.bind λL H=>.bind λY V=>.some (.inr ?_));rw[k]at g;injection g with g;subst g;obtain⟨A,Q,P,F⟩:=N k;have K:=O (by omega);subst K;refine⟨by grind,F,by grind,?_,?_,λ_=>rfl⟩;show hd<+:w;rw[rB y];simp_all;show w++[]=_;rw[rB y,A,Ez,<-kF,<-j];simp_all [frs,da];rw[k]at g;injection g with g;subst g;obtain⟨A,Q,P,F⟩:=N k;refine⟨by grind,F,by grind,G,?_,λh=>by exfalso;omega⟩;show a++w=_;rw[rB y,A,Ez,<-kF hd,<-j];simp[frs,(da I P).2];have M:i=l'.2.1.length:=by grind [J0]
  rw[M,List.take_length]at B j;refine⟨B,?_,hd,?_⟩;grind [dY];obtain⟨S,rfl⟩:=G;refine⟨S++L,Z5 v,by grind [rB],?_⟩;rw[kF]at j;have j:=List.append_cancel_left j;rw[<-j,(C7 H).2.2];simp[List.take_prefix]
 exact J _ h
theorem JMS{E:List J2}{hd rest:List UInt8}{y:jI}(h:xQ s=some y)(hf:IK E)(R:dE E)(hl:s.length<=4611686018427387904)(T:hdB hd)(hs:s=hd++rest)(hr:rest<+:frs E):y.2=0-> ∃m,y.1=(1,E.take m,(m:Int))/\m<=E.length/\m<=4096:=by
 have r:Par (xQ s) λy=>y.2=0-> ∃m,y.1=(1,E.take m,(m:Int))/\m<=E.length/\m<=4096:=by
  have a0:At s hd 0:=⟨[],rest,by rw[hs];rfl,rfl⟩;have P:=Cv T a0 hl;unfold xQ;refine .bind λW h2=>.nef (λ_=>.nef (λ_=>.bind λy3 h3=>.ite (λ_=>.some nofun) λ_=>.bind λy4 n=>.ltf (λ_=>.gt (λ_=>.some nofun) λ_=>?_) λ_=>.some nofun) λ_=>.some nofun) λ_=>.some nofun;rw[P]at h2;injection h2 with h2;subst h2
  (try dsimp only at h3 n⊢)
  have V:At ([80,77,76,71]++J0E 1 8) (J0E ((1:Nat):Int) 8) 4:=⟨[80,77,76,71],[],by simp,rfl⟩;have S:=FA V (by decide) (by decide) (by decide) (by decide) (by simp[JT]);have n:=n.symm.trans S;injection n with n;subst n;refine .while (λz=>z.1=s/\z.2.2.2.2.2.2.2.1=1/\ ∃m:Nat,m<=E.length/\m<=4096/\z.2.2.2.2.2.1=E.take m/\z.2.2.2.2.2.2.2.2=(m:Int)/\ ∃e,At s e z.2.1/\z.2.1+(e.length:Int)=(s.length:Int)/\e<+:frs (E.drop m)) ⟨rfl,rfl,0,zQ2 _,by decide,rfl,rfl,rest,⟨hd,[],by rw[hs];simp,by simp⟩,by simp_all,hr⟩ ?_;rintro⟨s',q,z1,z2,z3,es,z4,f,du⟩ ⟨rfl,rfl,m,hm,I,rfl,rfl,e,x,w,j⟩
  (try dsimp only at x w j)
  unfold jk;dsimp only;have fin: ∃v,((1,E.take m,(m:Int)):JK)=(1,E.take v,(v:Int))/\v<=E.length/\v<=4096:=⟨m,rfl,hm,I⟩;refine .lt (λc=>.bind λy6 F=>.ne (λ_=>.some λ_=>fin) λL=>.bind λy7 O=>.nef (λc7=>.ne (λ_=>.some λ_=>fin) λc8=>.bind λy8 h8=>.some ⟨rfl,rfl,?_⟩) λ_=>.some λ_=>fin) λ_=>.some λ_=>fin;have hn:=x.bnd;by_cases k:m<E.length;have K:E.drop m=E[m]::E.drop (m+1):=List.drop_eq_getElem_cons k;have G:E[m]∈E:=lA k;obtain⟨H,U⟩:=hf _ G;rw[K]at j;have e2:frs (E[m]::E.drop (m+1))=qN E[m]++frs (E.drop (m+1)):=by grind [frs]
  rw[e2]at j;by_cases C:e.length<(qN E[m]).length;have e3:e=(qN E[m]).take e.length:=(by obtain⟨t,ht⟩:=j;have:=congrArg (List.take e.length) ht;grind);exact absurd L (JKU H (by grind) C w hl _ F);obtain⟨D,rfl⟩: ∃D,e=qN E[m]++D:=(by obtain⟨t,ht⟩:=j;refine⟨e.drop (qN E[m]).length,?_⟩;have:=congrArg (List.take (qN E[m]).length) ht;grind [List.take_append_drop]);have N:=Cv H x.left hl;have B:=F.symm.trans N;injection B with B;subst B;have A:=O.symm.trans (Cy U).1;injection A with A;subst A;have M:J0 (E.take m)=m:=by grind [J0]
  rw[M]at c;obtain⟨Z,_⟩:=R m _ (zQ9 k);rw[M]at Z;have tk:E.take (m+1)=E.take m++[E[m]]:=by simp_all
  rw[eC]at w;exact⟨m+1,k,by omega,by grind [gF],by simp_all,D,x.right,by grind,(List.prefix_append_right_inj _).1 j⟩;have Y:E.drop m=[]:=List.drop_eq_nil_of_le (by omega);rw[Y]at j;have J:e=[]:=by grind [frs]
  subst J;exfalso;have a6:J0 s'=s'.length:=rfl;have o:=bE (J0 s') q;simp only[List.length_nil]at w hn;have r:Par (oH (s',q)) λy=>y.2.2≠0:=by
   unfold oH;dsimp only;refine .ltf (λ_=>.gt (λ_=>.some (by decide)) λ_=>.bind λW h2=>.ne (λ_=>.some (by decide)) λQ=>?_) λ_=>.some (by decide);have g:Par (cW (s',q,4)) λy=>y.2≠0:=by unfold cW;dsimp only;exact .ltf (λ_=>.gtf (λ_=>.lt (λ_=>.some (by decide)) λ_=>.gtf (λ_=>.lt (λ_=>.some (by decide)) λc=>by omega) λ_=>.some (by decide)) λ_=>.some (by decide)) λ_=>.some (by decide)
   exact absurd Q (g _ h2)
  exact r _ F L
 exact r _ h
end
end Go.Am
end
section
namespace Go.Am
set_option linter.unusedVariables false
set_option maxRecDepth 20000
set_option maxHeartbeats 1000000
section
variable {lk lk' rows rows' out:List aA} {e:J2} {m:List J2} {n:Int}
def Chg(e:J2):Prop:=e.2.1=1\/e.2.1=2
theorem rG{b:Bool}(h:JA e=some b):(b=true->Chg e)/\(b=false-> ¬Chg e):=by
 grind [JA,Chg,jR]
def DG(lk:List aA)(e:J2)(d:aA):Prop:=(d.1=aQ e->(Chg e->d.2.2=e.1)/\(¬Chg e-> ∃g∈lk,g.1=aQ e/\d.2.2=g.2.2))/\(d.1≠aQ e->d∈lk)
def DQ(e:J2)(out:List aA)(d:aA):Prop:=(d.1≠aQ e->d∈out)/\(d.1=aQ e-> ¬Chg e->e.2.2.2.2.2.1<d.2.2-> ∃g∈out,g.1=aQ e)
def DI(lk:List aA)(e:J2)(i:Int)(dn:Bool)(out:List aA):Prop:=(∀d∈out,DG lk e d)/\upw (DQ e out) lk i/\(Chg e->dn=true-> ∃d∈out,d.1=aQ e)
def DF(lk:List aA)(e:J2)(out:List aA):Prop:=(∀d∈out,DG lk e d)/\(∀d∈lk,DQ e out d)/\(Chg e-> ∃d∈out,d.1=aQ e)
theorem DQ.app{d x:aA}(h:DQ e out d):DQ e (out++[x]) d:=by
 refine⟨λa=>by simp[h.1 a],λa b c=>?_⟩;obtain⟨g,h1,h2⟩:=h.2 a b c;grind
theorem upw.mono{α:Type}{P Q:α->Prop}{l:List α}{i:Int}(h:upw P l i)(e: ∀x,P x->Q x):upw Q l i:=⟨h.1,λa=>⟨(h.2 a).1,λx g=>e x ((h.2 a).2 x g)⟩⟩
theorem DI.app{i:Int}{dn:Bool}{x:aA}(h:DI lk e i dn out)(hx:DG lk e x):DI lk e i dn (out++[x]):=by
 refine⟨λd hd=>?_,h.2.1.mono λ_ q=>q.app,λa b=>?_⟩;rcases cF.1 hd with hd|hd;exact h.1 d hd;simp_all;obtain⟨d,h1,h2⟩:=h.2.2 a b;grind
theorem DI.new{i:Int}{dn:Bool}{t:Int}(h:DI lk e i dn out)(hc:Chg e):DI lk e i true (out++[(aQ e,t,e.1)]):=by have q:=h.app (x:=(aQ e,t,e.1)) ⟨λ_=>⟨λ_=>rfl,λh=>absurd hc h⟩,λh=>absurd rfl h⟩;exact⟨q.1,q.2.1,λ_ _=>⟨_,List.mem_append_right _ (hO.2 rfl),rfl⟩⟩
theorem DI.next{i:Int}{dn g:Bool}{d:aA}(h:DI lk e i dn out)(hd:idx lk i=some d)(hq:DQ e out d)(j:g=true->Chg e-> ∃d∈out,d.1=aQ e):DI lk e (J1 .i64 i 1) g out:=
 ⟨h.1,AG h.2.1 hd hq,λa b=>j b a⟩
theorem JL7{y:List aA}(h:kU (lk,e)=some y):(Chg e\/e.2.1=7->DF lk e y)/\(¬(Chg e\/e.2.1=7)->y=lk):=by
 have lp:Par (J6 jx (lk,false,0,e,[])) λy=>DF lk e y:=by
  refine .while (λz=>z.1=lk/\z.2.2.2.1=e/\DI lk e z.2.2.1 z.2.1 z.2.2.2.2) ⟨rfl,rfl,λd h=>by simp at h,ES,nofun⟩ ?_;rintro⟨l,dn,i,e',out⟩ ⟨h1,h2,hi⟩
  (try dsimp only at h1 h2 hi)
  subst h1 h2;unfold jx;dsimp only;have same: ∀{d:aA} {dn:Bool} {out:List aA},DI l e' i dn out->idx l i=some d->
    Par (if aI d.1 e'.2.2.2.2.2.2.1.1 then
      (JA e').bind λM=>
      if M then
       (JB 24 out [(d.1,d.2.1,e'.1)]).bind λG=>
       some (.inl (l,true,J1 .i64 i 1,e',G))
      else
       if aO e'.2.2.2.2.2.1 d.2.2 then
        some (.inl (l,true,J1 .i64 i 1,e',out))
       else
        if aO e'.2.2.2.2.2.1 d.2.1 then
         (JB 24 out [(d.1,J1 .i64 e'.2.2.2.2.2.1 1,d.2.2)]).bind λn=>
         some (.inl (l,true,J1 .i64 i 1,e',n))
        else
         (JB 24 out [d]).bind λE=>
         some (.inl (l,true,J1 .i64 i 1,e',E))
     else
      (JB 24 out [d]).bind λA=>
      some (.inl (l,dn,J1 .i64 i 1,e',A))) λr:(iK)⊕(List aA)=> ∃z,r=.inl z/\z.1=l/\z.2.2.2.1=e'/\DI l e' z.2.2.1 z.2.1 z.2.2.2.2:=by
   intro d dn out hi hd;have L:=oA hd;have keep: ∀{t:Int} {n:List aA},d.1=aQ e'-> ¬Chg e'->JB 24 out [(d.1,t,d.2.2)]=some n->DI l e' (J1 .i64 i 1) true n:=fun{t n} w J v=>by rw[gF v];refine(hi.app (x:=(d.1,t,d.2.2)) ⟨λ_=>⟨λa=>absurd a J,λ_=>⟨d,L,w,rfl⟩⟩,λa=>absurd w a⟩).next hd ⟨λa=>absurd w a,λ_ _ _=>⟨(d.1,t,d.2.2),List.mem_append_right _ (hO.2 rfl),w⟩⟩ λ_ a=>absurd a J
   refine .eq (λc=>.bind λb k=>.ite (λg=>.bind λG R=>.some ⟨_,rfl,rfl,rfl,?_⟩) λg=>.ge (λI=>.some ⟨_,rfl,rfl,rfl,?_⟩) λI=>.ge (λ_=>.bind λn v=>.some ⟨_,rfl,rfl,rfl,keep c ((rG k).2 g) v⟩) λ_=>.bind λn v=>.some ⟨_,rfl,rfl,rfl,keep c ((rG k).2 g) v⟩) λc=>.bind λA H=>.some ⟨_,rfl,rfl,rfl,?_⟩;have hc:=(rG k).1 g;dsimp only;rw[gF R,show d.1=aQ e' from c];have q:=hi.new (t:=d.2.1) hc;exact q.next hd ⟨λa=>absurd c a,λ_ b=>absurd hc b⟩ λ_ a=>q.2.2 a rfl;exact hi.next hd ⟨λa=>absurd c a,λ_ _ a=>absurd I (by omega)⟩ λ_ a=>absurd a ((rG k).2 g);dsimp only;rw[gF H];have q:=hi.app (x:=d) ⟨λa=>absurd a c,λ_=>L⟩;exact q.next hd ⟨λ_=>by simp,λa=>absurd a c⟩ λa b=>q.2.2 b a
  have j: ∀{d:aA} {dn:Bool} {out:List aA} {o:Option ((iK)⊕(List aA))} {Q:((iK)⊕(List aA))->Prop},(∀z,z.1=l/\z.2.2.2.1=e'/\DI l e' z.2.2.1 z.2.1 z.2.2.2.2->Q (.inl z))->Par o (λr=> ∃z,r=.inl z/\z.1=l/\z.2.2.2.1=e'/\DI l e' z.2.2.1 z.2.1 z.2.2.2.2)->Par o Q:=fun{d dn out o Q} h1 h2=>h2.mono λr ⟨z,S,h⟩=>by grind
  refine .lt (λ_=>.bind λd hd=>.gt (λ_=>.not (λ_=>.bind λb k=>.ite (λg=>.bind λN C=>j (d:=d) (dn:=dn) (out:=out) (λz h=>h) (same (dn:=true) ?_ hd)) λ_=>j (d:=d) (dn:=dn) (out:=out) (λz h=>h) (same hi hd)) λ_=>j (d:=d) (dn:=dn) (out:=out) (λz h=>h) (same hi hd)) λ_=>j (d:=d) (dn:=dn) (out:=out) (λz h=>h) (same hi hd)) λc=>.map ?_;rw[gF C];exact hi.new ((rG k).1 g);have B:=FW hi.2.1 c;refine .not (λ_=>.bind λb k=>.ite (λg=>.bind λN C=>.some ?_) λg=>.some ⟨hi.1,B,λa=>absurd a ((rG k).2 g)⟩) λO=>.some ⟨hi.1,B,λa=>hi.2.2 a O⟩;dsimp only;rw[gF C];have q:=hi.new (t:=e'.1) ((rG k).1 g);exact⟨q.1,λd hd=>(B d hd).app,λa=>q.2.2 a rfl⟩
 have K:Par (kU (lk,e)) λy=>(Chg e\/e.2.1=7->DF lk e y)/\(¬(Chg e\/e.2.1=7)->y=lk):=(by unfold kU;refine .bind λb k=>.not (λg=>.ne (λF=>.some ⟨λh=>?_,λ_=>rfl⟩) λF=>Par.mono (P:=λy=>DF lk e y) lp λy D=>⟨λ_=>D,λh=>absurd (.inr F) h⟩) λg=>lp.mono λy D=>⟨λ_=>D,λh=>absurd (.inl ((rG k).1 g)) h⟩;grind [rG]);exact K _ h
end
end Go.Am
end
section
namespace Go.Am
set_option linter.unusedVariables false
set_option maxRecDepth 20000
set_option maxHeartbeats 1000000
section
variable {lk lk' rows rows' out:List aA} {e:J2} {m:List J2} {n:Int}
theorem Rel.noted(h:Rel m n [] lk rows)(hm:dE m)(he:OQ m e)(hd:(Chg e\/e.2.1=7->DF lk e lk')/\(¬(Chg e\/e.2.1=7)->lk'=lk))(hr:(e.2.1≠7->rows'=rows)/\(e.2.1=7->(∀q,q≠aQ e->idx rows' q=idx rows q)/\ ∀r,idx rows' (aQ e)=some r-> ∃r0,idx rows (aQ e)=some r0/\r.1=cP r0.1 e.2.2.2.2.2.1)):Rel (m++[e]) n [] lk' rows':=by
 obtain⟨K,_,_,z,_⟩:=he;by_cases hc:Chg e;have F:e.2.1≠7:=by rcases hc with h|h<;>omega
 obtain⟨j,o,I⟩:=hd.1 (.inl hc);rw[hr.1 F];refine⟨nofun,.nil,nofun,nofun,λd hd=>?_,λq r k=>?_⟩;by_cases c:d.1=aQ e;rw[AK,if_pos ⟨hc,c.symm⟩];exact((j d hd).1 c).1 hc;rw[AT λh=>c h.2.symm];exact h.lak d ((j d hd).2 c);obtain⟨w,x⟩:=h.row q r k;by_cases c:q=aQ e;subst c;rw[AK,if_pos ⟨hc,rfl⟩];have:=rn hm (aQ e);grind;rw[AT λh=>c h.2.symm];exact⟨w,λa b=>x a λd hd g=>b d ((o d hd).1 (by simp_all)) g⟩;have A: ∀p,bV (m++[e]) p=bV m p:=λp=>AT λh=>hc h.1;by_cases v:e.2.1=7;obtain⟨j,o,_⟩:=hd.1 (.inr v);obtain⟨B,G⟩:=hr.2 v;have z:=z v;refine⟨nofun,.nil,nofun,nofun,λd hd=>?_,λq r k=>?_⟩;rw[A];by_cases c:d.1=aQ e;obtain⟨E,y,h1,h2⟩:=((j d hd).1 c).2 hc;rw[h2,h.lak E y,h1,c];exact h.lak d ((j d hd).2 c);rw[A];by_cases c:q=aQ e;subst c;obtain⟨r0,y,h1⟩:=G r k;obtain⟨w,x⟩:=h.row _ r0 y;have mx:=rN r0.1 e.2.2.2.2.2.1;refine⟨by omega,λ_ b=>?_⟩;by_cases C: ∀d∈lk,d.1≠aQ e;grind;obtain⟨d,hd,g⟩: ∃d,d∈lk/\d.1=aQ e:=by simpa using C
 have H:=h.lak d hd;rw[g]at H;by_cases D:e.2.2.2.2.2.1<d.2.2;obtain⟨J,h1,h2⟩:=(o d hd).2 g hc D;grind;omega;rw[B _ c]at k;obtain⟨w,x⟩:=h.row q r k;exact⟨w,λa b=>x a λd hd g=>b d ((o d hd).1 (by simp_all)) g⟩;rw[hd.2 (λh=>by simp_all),hr.1 v];exact h.ent hc
theorem JLA{a:mT}{y:wG}(h:BL (a,e)=some y)(c:y.2=0)(hr:Rel m a.1 [] a.2.2.2.2.2.1 a.2.2.2.2.2.2)(hm:dE m)(he:OQ m e):y.1.1=a.1/\y.1.2.2.1=a.2.2.1/\Rel (m++[e]) y.1.1 [] y.1.2.2.2.2.2.1 y.1.2.2.2.2.2.2:=by
 have o:Par (BL (a,e)) λy=>y.2=0->y.1.1=a.1/\y.1.2.2.1=a.2.2.1/\Rel (m++[e]) y.1.1 [] y.1.2.2.2.2.2.1 y.1.2.2.2.2.2.2:=by
  unfold BL;have n: ∀{t:Int} {j l2:List Jn},Par ((jU (a.2.2.2.2.2.2,e)).bind λg=>
   if aM g.2 0 then
    some ((a.1,t,a.2.2.1,j,a.2.2.2.2),g.2)
   else
    (JA e).bind λv=>
    if v then
     if aO e.2.2.2.2.2.2.1.1 a.1 then
      some ((a.1,t,a.2.2.1,j,a.2.2.2.2.1,a.2.2.2.2.2.1,g.1),1)
     else
      (kU (a.2.2.2.2.2.1,e)).bind λk=>
      some ((a.1,t,a.2.2.1,j,a.2.2.2.2.1,k,g.1),0)
    else
     (kU (a.2.2.2.2.2.1,e)).bind λr=>
     some ((a.1,t,a.2.2.1,j,a.2.2.2.2.1,r,g.1),0)) λy=>y.2=0->y.1.1=a.1/\y.1.2.2.1=a.2.2.1/\Rel (m++[e]) y.1.1 [] y.1.2.2.2.2.2.1 y.1.2.2.2.2.2.2:=fun{t j l2}=>by
    refine .bind λg x=>.ne (λc=>.some λh=>absurd h c) λw=>?_;have dn:Par ((kU (a.2.2.2.2.2.1,e)).bind λk=>some ((a.1,t,a.2.2.1,j,a.2.2.2.2.1,k,g.1),(0:Int))) λy=>y.2=0->y.1.1=a.1/\y.1.2.2.1=a.2.2.1/\Rel (m++[e]) y.1.1 [] y.1.2.2.2.2.2.1 y.1.2.2.2.2.2.2:=.bind λk q=>.some λ_=>⟨rfl,rfl,hr.noted hm he (JL7 q) (qu x w).2⟩;exact .bind λ_ _=>.ite (λ_=>.ge (λ_=>.some nofun) λ_=>dn) λ_=>dn
  refine .gt (λ_=>.bind λ_ _=>.lt (λ_=>.bind λ_ _=>.ne (λc=>.some λh=>absurd h c) λ_=>.bind λ_ _=>.ne (λc=>.some λh=>absurd h c) λ_=>n (l2:=[])) λ_=>.bind λ_ _=>.ne (λc=>.some λh=>absurd h c) λ_=>n (l2:=[])) λ_=>.bind λ_ _=>.ne (λc=>.some λh=>absurd h c) λ_=>n (l2:=[])
 exact o _ h c
variable {l:JK}
theorem JHS{y:mn}(h:CE l=some y)(hc:dE l.2.1):y.2.2=true-> ∃(j:Nat),y.2.1=(j:Int)+1/\j+1<=l.2.1.length/\Rel (l.2.1.take (j+1)) y.1.1 [] y.1.2.2.2.1 y.1.2.2.2.2:=by
 have r:Par (CE l) λy=>y.2.2=true-> ∃(j:Nat),y.2.1=(j:Int)+1/\j+1<=l.2.1.length/\Rel (l.2.1.take (j+1)) y.1.1 [] y.1.2.2.2.1 y.1.2.2.2.2:=by
  unfold CE;refine .bind λ_ _=>.not (λ_=>.some nofun) λ_=>.while (λz=>z.2.1=l) rfl ?_;rintro⟨i,l',z⟩ o
  (try dsimp only at o)
  subst o;unfold zn;refine .ge (λ_=>.bind λF v=>.ne (λ_=>.some rfl) λB=>.bind λD k=>.bind λA G=>.eq (λH=>.bind λC e=>.some λ_=>?_) λ_=>.some rfl) λ_=>.some nofun;rw[v]at k e;injection k with k;injection e with e;subst k;subst e;obtain⟨x,q⟩:=cE v
  (try dsimp only at x q)
  obtain⟨E,_,_,_,w⟩:=hc _ _ q;have n:=(cI.1 q).1;have I:J0 (l'.2.1.take i.toNat)=i:=by grind [J0]
  refine⟨i.toNat,by grind,n,?_⟩;have g:=w B A.1 (by grind);rw[List.take_add_one,q];exact g.ent (by omega)
 exact r _ h
theorem Fj{n:Int}{y:tT}(h:AS n=some y): ∀r∈y.1,r.1=0:=by
 grind [AS,mkS]
theorem JJU{e:Int}{y:wG}(h:CI (l,e)=some y)(c:y.2=0)(hc:dE l.2.1):y.1.1=e/\ ∃j:Nat,y.1.2.2.1=(j:Int)/\j<=l.2.1.length/\Rel (l.2.1.take j) y.1.1 [] y.1.2.2.2.2.2.1 y.1.2.2.2.2.2.2:=by
 have g:Par (CI (l,e)) λy=>y.2=0->y.1.1=e/\ ∃j:Nat,y.1.2.2.1=(j:Int)/\j<=l.2.1.length/\Rel (l.2.1.take j) y.1.1 [] y.1.2.2.2.2.2.1 y.1.2.2.2.2.2.2:=(by unfold CI;refine .bind λv h2=>.not (λ_=>.gt (λ_=>.some nofun) λ_=>.bind λq n=>.some λ_=>⟨rfl,0,rfl,zQ2 _,?_⟩) λo=>.ne (λ_=>.some nofun) λcp=>.some λ_=>?_;refine⟨nofun,.nil,nofun,nofun,nofun,λp r k=>?_⟩;have z:r.1=0:=Fj n r (oA k);rw[z];exact⟨bA _,λ_ _=>rfl⟩;grind [JHS]);exact g _ h c
theorem JGc{k:Int}{y:wG}(h:CN (l,k)=some y)(c:y.2=0)(hc:dE l.2.1):y.1.1=k/\Rel l.2.1 k [] y.1.2.2.2.2.2.1 y.1.2.2.2.2.2.2:=by
 have B:Par (CN (l,k)) λy=>y.2=0->y.1.1=k/\Rel l.2.1 k [] y.1.2.2.2.2.2.1 y.1.2.2.2.2.2.2:=by
  unfold CN;refine .bind λ_ _=>.not (λ_=>.some nofun) λ_=>.ltf (λ_=>.gt (λ_=>.some nofun) λ_=>.bind λT O=>.ne (λc=>.some λh=>absurd h c) λN=>?_) λ_=>.some nofun;obtain⟨b1,j,b2,S,V⟩:=JJU O N hc;refine .while (λz=>z.2.1=l/\z.2.2.2.1=k/\z.2.2.2.2.2.1=(j:Int)/\z.1<=9223372036854775807/\(0<=z.1->Rel (l.2.1.take (max j z.1.toNat)) k [] z.2.2.2.2.2.2.2.2.1 z.2.2.2.2.2.2.2.2.2)) ⟨rfl,b1,b2,show(0:Int)<=9223372036854775807 by decide,λ_=>by simp_all⟩ ?_;rintro⟨i,l',Y,a⟩ ⟨h1,h2,r,L,C⟩
  (try dsimp only at h1 h2 r L C)
  subst h1;unfold oa;dsimp only;have o:=Jh i 1;refine .lt (λ_=>.bind λe v=>.le (λI=>.some ⟨rfl,h2,r,by grind,λE=>?_⟩) λI=>.bind λW n=>.bind λR H=>.ne (λc=>.some λh=>absurd h c) λG=>.some ?_) λU=>.map (.while (λz=>z.2.2.2.1=a) rfl ?_);obtain⟨A,q⟩:=cE v;have P:=(hc _ _ q).1;have w:=(cI.1 q).1;have M:J0 (l'.2.1.take i.toNat)=i:=by grind [J0]
  grind;rw[v]at n;injection n with n;subst n;obtain⟨A,q⟩:=cE v;have w:=(cI.1 q).1;have D:=hc _ _ q;have M:J0 (l'.2.1.take i.toNat)=i:=by grind [J0]
  have P:=D.1;have g:=C A;rw[show max j i.toNat=i.toNat by omega]at g;obtain⟨F,K,J⟩:=JLA H G (by simp_all) (hc.take _) D;refine⟨rfl,F.trans h2,K.trans r,by grind,λE=>?_⟩
  (try dsimp only at E⊢)
  rw[show max j (J1 .i64 i 1).toNat=i.toNat+1 by omega,List.take_add_one,q,<-h2,<-F];exact J;rintro⟨i2,l2,Q,Z,out⟩ x
  (try dsimp only at x)
  subst x;unfold n9;refine .lt (λ_=>.bind λ_ _=>.gt (λ_=>.bind λ_ _=>.bind λ_ _=>.some rfl) λ_=>.some rfl) λ_=>.map (.bind λ_ _=>.ne (λc=>.some λh=>absurd h c) λ_=>.some λ_=>⟨h2,?_⟩);grind [List.take_of_length_le,J0]
 exact B _ h c
theorem JK8{a:mT}{j:Int}{y:cO}(h:BV (l,a,j)=some y)(c:y.2=0)(hl:gP l)(hc:dE l.2.1)(hr:Rel l.2.1 a.1 [] a.2.2.2.2.2.1 a.2.2.2.2.2.2):JD y.1:=by
 have g:Par (BV (l,a,j)) λy=>y.2=0->JD y.1:=(by unfold BV;refine .bind λr h2=>.ne (λc=>.some λh=>absurd h (by decide)) λo=>.bind λ_ _=>.not (λ_=>.some nofun) λ_=>.while (λz=>JD z.2.2.2.2.2) ⟨hl,hc,?_⟩ ?_;grind [xL];intro z e;unfold jl;exact .lt (λ_=>.bind λ_ _=>.eq (λ_=>.some e) λ_=>.bind λ_ _=>.bind λq n=>.ne (λc=>.some λh=>absurd h c) λk=>.some (QN n k e (.inr (.inl rfl)))) λ_=>.some λ_=>e);exact g _ h c
end
end Go.Am
end
section
namespace Go.Am
set_option linter.unusedVariables false
set_option maxRecDepth 20000
set_option maxHeartbeats 1000000
section
variable {s:List UInt8} {p:Int}
theorem rI{n:Int}{k:Nat}(b:Nat)(h:At s (J0E n k) p)(hl:s.length<=4611686018427387904)(h0:0<=n)(hn:n<b)(hb:b=2^(8*k):=by rfl)(h1:1<=k:=by decide)(g:k<=8:=by decide)(e:n<9223372036854775808:=by omega):cW (s,p,(k:Int))=some (n,0):=by
 grind [Int.eq_ofNat_of_zero_le,FA]
def vU(r:aA):List UInt8:=J0E r.1 8++(J0E r.2.1 8++J0E r.2.2 8)
def gR(l:List aA):List UInt8:=(l.map vU).flatten
def IF(r:aA):Prop:=(0<=r.1/\r.1<=1099511627776)/\(0<=r.2.1/\r.2.1<=1099511627776)/\0<=r.2.2/\r.2.2<=1099511627776
def vN(r:aA):List UInt8:=J0E r.1 1++(J0E r.2.1 8++J0E r.2.2 8)
def oY(l:List aA):List UInt8:=(l.map vN).flatten
def IP(r:aA):Prop:=(0<=r.1/\r.1<64)/\(0<=r.2.1/\r.2.1<=1099511627776)/\0<=r.2.2/\r.2.2<=1099511627776
theorem JL4{l:List aA}(h:hC l=some true):J0 l<=64/\ ∀r∈l,IF r:=by
 have v: ∀{n:Int} {b:Bool},oC n=some b->b=true->0<=n/\n<=1099511627776:=fun{n b} F D=>by
  have k:Par (oC n) λb=>b=true->0<=n/\n<=1099511627776:=by unfold oC;exact .ge (λc=>.some λd=>⟨c,eF.1 d⟩) λ_=>.some nofun
  exact k _ F D
 have C:Par (hC l) λy=>y=true->J0 l<=64/\ ∀r∈l,IF r:=by
  unfold hC;refine .ltf (λ_=>.gt (λ_=>.some nofun) λc=>.while (λz=>z.2=l/\upw IF l z.1) ⟨rfl,ES⟩ ?_) λ_=>.some nofun;rintro⟨i,l'⟩ ⟨h1,x⟩
  (try dsimp only at h1 x)
  subst h1;unfold kh;have go: ∀{r:aA} {A B w:Bool},idx l' i=some r->oC r.1=some A->A=true->oC r.2.1=some B->B=true->oC r.2.2=some w->w=true->upw IF l' (J1 .i64 i 1):=λj h1 e h2 g q o=>AG x j ⟨v h1 e,v h2 g,v q o⟩;exact .lt (λ_=>.bind λr j=>.bind λA h1=>.nof (λe=>.bind λB h2=>.nof (λg=>.bind λw q=>.nof (λo=>.eq (λ_=>.ne (λ_=>.some nofun) λ_=>.some ⟨rfl,go j h1 e h2 g q o⟩) λ_=>.some ⟨rfl,go j h1 e h2 g q o⟩) λ_=>.some nofun) λ_=>.some nofun) λ_=>.some nofun) λE=>.some λ_=>⟨Int.not_lt.1 c,FW x E⟩
 exact C _ h rfl
theorem JNo{l:List aA}{n:Int}(h:lT (l,n)=some true)(hn:n<=64):J0 l<=64/\ ∀r∈l,IP r:=by
 have v:Par (lT (l,n)) λy=>y=true->J0 l<=64/\ ∀r∈l,IP r:=by
  unfold lT;refine .while (λz=>z.1=l/\z.2.1=n/\upw IP l z.2.2/\(0<=z.2.2->z.2.2<=J0 l/\z.2.2<=64/\ ∀r,idx l (z.2.2-1)=some r->z.2.2-1<=r.1)) ⟨rfl,rfl,ES,λ_=>⟨Jd,show(0:Int)<=64 by decide,λr e=>absurd (cE e).1 (show¬(0:Int)<=0-1 by decide)⟩⟩ ?_;rintro⟨l',j,i⟩ ⟨h1,h2,g,hi⟩
  (try dsimp only at h1 h2 g hi)
  subst h1 h2;unfold YE;dsimp only;have o:=Jh i 1;have H:=bE i 1;refine .lt (λL=>.bind λr e=>.ltf (λI=>.gef (λJ=>.ltf (λP=>.gtf (λM=>.gtf (λK=>?_) λ_=>.some nofun) λ_=>.some nofun) λ_=>.some nofun) λ_=>.some nofun) λ_=>.some nofun) λB=>.some λ_=>⟨?_,FW g B⟩;obtain⟨A,q⟩:=cE e;obtain⟨E,N,F⟩:=hi A;have x:IP r:=⟨⟨by omega,by omega⟩,⟨by omega,by omega⟩,by omega,by omega⟩;have w:i<=r.1->(l'=l'/\j=j/\upw IP l' (J1 .i64 i 1)/\(0<=J1 .i64 i 1->J1 .i64 i 1<=J0 l'/\J1 .i64 i 1<=64/\ ∀r,idx l' (J1 .i64 i 1-1)=some r->J1 .i64 i 1-1<=r.1)):=λD=>⟨rfl,rfl,AG g e x,λO=>⟨by omega,by omega,λr' k=>by
   grind⟩⟩
  refine .gt (λC=>.bind λr' k=>.ge (λ_=>.some nofun) λG=>.some (w ?_)) λC=>.some (w (by omega));grind;grind
 exact v _ h rfl
theorem JO7{l:List aA}{y:List UInt8×Int}(h:CA l=some y)(hv:hC l=some true):y.1=J0E (J0 l) 2++gR l:=by
 have n:Par (CA l) λy=>y.1=J0E (J0 l) 2++gR l:=by
  unfold CA;refine .bind λv F=>.not (λc=>by simp_all) λ_=>.bind λH D=>.while (λz=>z.2.2=l/\z.2.1<=9223372036854775807/\(0<=z.2.1->z.1=J0E (J0 l) 2++gR (l.take z.2.1.toNat))) ⟨rfl,show(0:Int)<=9223372036854775807 by decide,λ_=>by rw[eK (k:=2) (by decide) (by decide) D];simp[gR]⟩ ?_;rintro⟨o,i,l'⟩ ⟨h1,h2,hi⟩
  (try dsimp only at h1 h2 hi)
  subst h1;unfold j7;dsimp only;have oo:=Jh i 1;refine .lt (λ_=>.bind λr w=>.bind λJ B=>.bind λL e=>.bind λI A=>.bind λG g=>.bind λE j=>.some ⟨rfl,by grind,λC=>?_⟩) λK=>.some ?_;rw[w]at e g;injection e with e;injection g with g;subst e;subst g;obtain⟨x,q⟩:=cE w
  (try dsimp only at C⊢)
  rw[eK (k:=8) (by decide) (by decide) j,eK (k:=8) (by decide) (by decide) A,eK (k:=8) (by decide) (by decide) B,hi x,show(J1 .i64 i 1).toNat=i.toNat+1 by omega,List.take_add_one,q];simp[gR,vU];grind [List.take_of_length_le,J0]
 exact n _ h
theorem At.rows{l:List aA}(h:At s (gR l) p): ∀{i:Nat} {r:aA},l[i]?=some r->At s (vU r) (p+24*i):=by
 induction l generalizing p with
 |nil=>simp_all
 |cons x l ih=>
  intro i r g;have e:gR (x::l)=vU x++gR l:=by simp[gR]
  rw[e]at h;cases i with
  |zero=>simp at g;subst g;simpa using h.left
  |succ i=>
   have q:=ih h.right (i:=i) (r:=r) (by simpa using g);have j:(vU x).length=24:=by simp[vU,JT]
   grind
theorem At.dirs{l:List aA}(h:At s (oY l) p): ∀{i:Nat} {r:aA},l[i]?=some r->At s (vN r) (p+17*i):=by
 induction l generalizing p with
 |nil=>simp_all
 |cons x l ih=>
  intro i r g;have e:oY (x::l)=vN x++oY l:=by simp[oY]
  rw[e]at h;cases i with
  |zero=>simp at g;subst g;simpa using h.left
  |succ i=>
   have q:=ih h.right (i:=i) (r:=r) (by simpa using g);have j:(vN x).length=17:=by simp[vN,JT]
   grind
theorem JO9{l:List aA}{y:tT}(h:CD (J0E (J0 l) 2++gR l)=some y)(hl:J0 l<=64)(B: ∀r∈l,IF r)(c:y.2=0):y.1=l:=by
 have len:(gR l).length=24*l.length:=by
  clear h hl B
  induction l with
  |nil=>rfl
  |cons x l ih=>grind [gR,vU,JT]
 have H:=Jd (l:=l);have M:J0 l=l.length:=rfl;have C:Par (CD (J0E (J0 l) 2++gR l)) λy=>y.2=0->y.1=l:=by
  generalize L:J0E (J0 l) 2++gR l=s;have E:At s (J0E (J0 l) 2++gR l) 0:=by rw[L];exact .all
  have q:s.length<=4611686018427387904:=by grind [JT]
  have g:=rI (k:=2) 65536 E.left q H (by omega);have F:=E.right;rw[JT]at F;unfold CD;refine .bind λZ h2=>.nef (λ_=>.lt (λ_=>.some nofun) λ_=>.gt (λ_=>.some nofun) λ_=>?_) λ_=>.some nofun;have A:=h2.symm.trans g;injection A with A;subst A;refine .while (λz=>z.1=s/\z.2.1=J0 l/\ ∃i:Nat,z.2.2.1=(i:Int)/\i<=l.length/\z.2.2.2.2=l.take i) ⟨rfl,rfl,0,rfl,zQ2 _,rfl⟩ ?_;rintro⟨s',n,Y,z,o⟩ ⟨h1,D,i,j,w,e⟩
  (try dsimp only at h1 D j w e)
  subst h1 D j e;unfold j8;dsimp only;have oo:=Jh (i:Int) 1;have om:=tS 24 (i:Int);have P:=Jh 2 (cB .i64 24 (i:Int));have T:=Jh 10 (cB .i64 24 (i:Int));have V:=Jh 18 (cB .i64 24 (i:Int));refine .lt (λU=>.bind λW j=>.bind λQ w=>.bind λR e=>.bind λN O=>.some ⟨rfl,rfl,i+1,by grind,by omega,?_⟩) λS=>.map (.bind λ_ _=>.not (λ_=>.some nofun) λ_=>.some λ_=>by grind);have v:i<l.length:=by omega
  have K:=zQ9 v;obtain⟨G,I,J⟩:=B _ (lA v);have ar:=F.rows K;unfold vU at ar;have g1:=rI (k:=8) 18446744073709551616 ar.left q G.1 (by omega);have ar:=ar.right;rw[JT]at ar;have g2:=rI (k:=8) 18446744073709551616 ar.left q I.1 (by omega);have ar:=ar.right;rw[JT]at ar;have g3:=rI (k:=8) 18446744073709551616 ar q J.1 (by omega);rw[show J1 .i64 2 (cB .i64 24 (i:Int))=0+((2:Nat):Int)+24*(i:Int) by omega]at j;rw[show J1 .i64 10 (cB .i64 24 (i:Int))=0+((2:Nat):Int)+24*(i:Int)+((8:Nat):Int) by omega]at w;rw[show J1 .i64 18 (cB .i64 24 (i:Int))=0+((2:Nat):Int)+24*(i:Int)+((8:Nat):Int)+((8:Nat):Int) by omega]at e;grind [gF,List.take_add_one]
 exact C _ h c
end
end Go.Am
end
section
namespace Go.Am
set_option linter.unusedVariables false
set_option maxRecDepth 20000
set_option maxHeartbeats 1000000
section
variable {s:List UInt8} {p:Int}
theorem Gs{c:jX}(h:oF c=some true):(1<=c.1/\c.1<=64)/\lT (c.2.2.2.1,c.1)=some true/\hC c.2.2.2.2=some true:=by
 have e:Par (oF c) λy=>y=true->(1<=c.1/\c.1<=64)/\lT (c.2.2.2.1,c.1)=some true/\hC c.2.2.2.2=some true:=by unfold oF;exact .ltf (λn=>.gtf (λj=>.ltf (λ_=>.gtf (λ_=>.bind λ_ _=>.nof (λ_=>.bind λa o=>.nof (λk=>.bind λb q=>.nof (λg=>.ne (λ_=>.some nofun) λ_=>λ_ _ _=>⟨⟨by omega,by omega⟩,by simp_all,by simp_all⟩) λ_=>.some nofun) λ_=>.some nofun) λ_=>.some nofun) λ_=>.some nofun) λ_=>.some nofun) λ_=>.some nofun) λ_=>.some nofun
 exact e _ h rfl
def ckB(c:jX)(t:List UInt8):List UInt8:=J0E c.1 2++(J0E c.2.1 4++(J0E (J0 t) 4++(t++(J0E (J0 c.2.2.2.1) 1++(oY c.2.2.2.1++(J0E (J0 c.2.2.2.2) 2++gR c.2.2.2.2))))))
theorem JNK{c:jX}{y:List UInt8×Int}(h:CF c=some y):y.1=[]\/(oF c=some true/\ ∃t,y.1=ckB c t):=by
 have A:Par (CF c) λy=>y.1=[]\/(oF c=some true/\ ∃t,y.1=ckB c t):=by
  unfold CF;refine .bind λv x=>.not (λ_=>.some (.inl rfl)) λQ=>.bind λw Z=>.bind λW J=>.bind λT K=>.bind λU G=>.bind λO D=>.bind λS F=>?_;have x:oF c=some true:=by simp_all
  obtain⟨_,_,H⟩:=Gs x;refine .while (λz=>z.2.2=c/\z.2.1<=9223372036854775807/\(0<=z.2.1->z.1=J0E c.1 2++(J0E c.2.1 4++(J0E (J0 w.1) 4++(w.1++(J0E (J0 c.2.2.2.1) 1++oY (c.2.2.2.1.take z.2.1.toNat))))))) ⟨rfl,show(0:Int)<=9223372036854775807 by decide,λ_=>?_⟩ ?_;dsimp only;rw[eK (k:=1) (by decide) (by decide) F,rB D,eK (k:=4) (by decide) (by decide) G,eK (k:=4) (by decide) (by decide) K,eK (k:=2) (by decide) (by decide) J];simp[oY];rintro⟨o,i,c'⟩ ⟨h1,h2,hi⟩
  (try dsimp only at h1 h2 hi)
  subst h1;unfold j6;dsimp only;have oo:=Jh i 1;refine .lt (λ_=>.bind λr B=>.bind λa M=>.bind λY j=>.bind λb I=>.bind λP n=>.bind λd hd=>.some ⟨rfl,by grind,λL=>?_⟩) λV=>.map (.bind λe N=>.bind λg C=>.some (.inr ⟨x,w.1,?_⟩));rw[B]at j n;injection j with j;injection n with n;subst j;subst n;obtain⟨E,q⟩:=cE B
  (try dsimp only at L⊢)
  rw[eK (k:=8) (by decide) (by decide) hd,eK (k:=8) (by decide) (by decide) I,eK (k:=1) (by decide) (by decide) M,hi E,show(J1 .i64 i 1).toNat=i.toNat+1 by omega,List.take_add_one,q];simp[oY,vN];have R:=Jd (l:=c'.2.2.2.1);show g=_;rw[rB C,JO7 N H,hi (by omega),List.take_of_length_le (by grind [J0])];simp[ckB]
 exact A _ h
theorem ri(l:List aA):(oY l).length=17*l.length:=by
 induction l with
 |nil=>rfl
 |cons x l ih=>grind [oY,vN,JT]
theorem JNY{c c':jX}{t:List UInt8}(hv:oF c=some true)(hl:(ckB c t).length<=8192)(h:uX (ckB c t)=some (c',0)):c'.1=c.1/\c'.2.2.2.1=c.2.2.2.1/\c'.2.2.2.2=c.2.2.2.2:=by
 obtain⟨v1,v2,v3⟩:=Gs hv;obtain⟨d1,U⟩:=JNo v2 v1.2;obtain⟨r1,r2⟩:=JL4 v3;have O:Par (uX (ckB c t)) λy=>y.2=0->y.1.1=c.1/\y.1.2.2.2.1=c.2.2.2.1/\y.1.2.2.2.2=c.2.2.2.2:=by
  generalize R:ckB c t=s at hl;have A:At s (ckB c t) 0:=by rw[R];exact .all
  have g:s.length<=4611686018427387904:=by omega
  unfold ckB at A;have T:=rI (k:=2) 65536 A.left g (by omega) (by omega);have o:=A.right.right;simp only[JT]at o;have b1:=o.bnd;simp only[eC,JT]at b1;have lt:J0 t=t.length:=rfl;have ld:J0 c.2.2.2.1=c.2.2.2.1.length:=rfl;have ls:J0 s=s.length:=rfl;have Q:=rI (k:=4) 4294967296 o.left g (by omega) (by omega);have B:=o.right.right;simp only[JT]at B;have Y:=rI (k:=1) 256 B.left g (by omega) (by omega);have E:=B.right;simp only[JT]at E;have S:=E.right;rw[ri]at S;have o1:=Jh 10 (J0 t);have o2:=Jh (J1 .i64 10 (J0 t)) 1;unfold uX;refine .bind λy2 h2=>.bind λy3 h3=>.bind λy4 h4=>?_;have x:=h2.symm.trans T;have w:=h4.symm.trans Q;injection x with x;injection w with w;subst x;subst w;dsimp only;refine .nef (λ_=>.gt (λ_=>.some nofun) λ_=>.bind λy5 h5=>.bind λy6 P=>?_) λ_=>.some nofun;rw[show J1 .i64 10 (J0 t)=0+((2:Nat):Int)+((4:Nat):Int)+((4:Nat):Int)+(t.length:Int) by omega]at P;have v:=P.symm.trans Y;injection v with v;subst v;refine .nef (λ_=>.lt (λ_=>.some nofun) λ_=>?_) λ_=>.some nofun;refine .while (λz=>z.1=s/\z.2.2.2.1=J0 c.2.2.2.1/\z.2.2.2.2.2.2.2.2.2.2.2.1=c.1/\ ∃i:Nat,z.2.2.2.2.1=(i:Int)/\i<=c.2.2.2.1.length/\z.2.2.1=11+J0 t+17*(i:Int)/\z.2.2.2.2.2.2.2.2.2.2.1=c.2.2.2.1.take i) ⟨rfl,rfl,rfl,0,rfl,zQ2 _,by grind,rfl⟩ ?_;rintro⟨s',C,al,n,i',q2,q3,q4,q5,q6,D,pg,q7⟩ ⟨L,J,K,i,H,k8,N,r⟩
  (try dsimp only at L J K H k8 N r)
  subst L J K H N r;unfold j5;dsimp only;have p1:=Jh (i:Int) 1;have p2:=Jh (11+J0 t+17*(i:Int)) 1;have p3:=Jh (11+J0 t+17*(i:Int)) 9;have p4:=Jh (11+J0 t+17*(i:Int)) 17;refine .lt (λci=>.bind λy8 Z=>.bind λy9 h9=>.bind λah I=>.bind λak an=>.some ⟨rfl,rfl,rfl,i+1,by grind,by omega,by grind,?_⟩) λcn=>.map (.bind λaj _=>.ne (λc=>.some λh=>absurd h c) λ_=>.bind λM F=>.bind λam ag=>.ne (λc=>.some λh=>absurd h c) λai=>.bind λ_ _=>.not (λ_=>.some nofun) λ_=>.some λ_=>⟨rfl,?_,?_⟩);have q:i<c.2.2.2.1.length:=by omega
  have hr:=zQ9 q;obtain⟨W,V,f3⟩:=U _ (lA q);have ar:=E.left.dirs hr;unfold vN at ar;have T:=rI (k:=1) 256 ar.left g W.1 (by omega);have ar:=ar.right;rw[JT]at ar;have g2:=rI (k:=8) 18446744073709551616 ar.left g V.1 (by omega);have ar:=ar.right;rw[JT]at ar;have Q:=rI (k:=8) 18446744073709551616 ar g f3.1 (by omega);rw[show 11+J0 t+17*(i:Int)=0+((2:Nat):Int)+((4:Nat):Int)+((4:Nat):Int)+(t.length:Int)+((1:Nat):Int)+17*(i:Int) by omega]at Z;rw[show J1 .i64 (11+J0 t+17*(i:Int)) 1=0+((2:Nat):Int)+((4:Nat):Int)+((4:Nat):Int)+(t.length:Int)+((1:Nat):Int)+17*(i:Int)+((1:Nat):Int) by omega]at h9;rw[show J1 .i64 (11+J0 t+17*(i:Int)) 9=0+((2:Nat):Int)+((4:Nat):Int)+((4:Nat):Int)+(t.length:Int)+((1:Nat):Int)+17*(i:Int)+((1:Nat):Int)+((8:Nat):Int) by omega]at I;grind [gF,List.take_add_one];grind;have hi:i=c.2.2.2.1.length:=by omega
  obtain⟨_,G⟩:=pz F;have e:M=J0E (J0 c.2.2.2.2) 2++gR c.2.2.2.2:=by
   obtain⟨pre,j,C,q2⟩:=S;have b4:(pre++((J0E (J0 c.2.2.2.2) 2++gR c.2.2.2.2)++j)).length=(J0E c.1 2++(J0E c.2.1 4++(J0E (J0 t) 4++(t++(J0E (J0 c.2.2.2.1) 1++(oY c.2.2.2.1++(J0E (J0 c.2.2.2.2) 2++gR c.2.2.2.2))))))).length:=by rw[<-C,<-R];rfl
   simp only[eC,JT,ri]at b4;have hp:j=[]:=List.length_eq_zero_iff.1 (by omega);subst hp;rw[G,C,jZ,show(11+J0 t+17*(i:Int)).toNat=pre.length by omega];simp
  grind [JO9]
 exact O _ h rfl
end
end Go.Am
end
section
namespace Go.Am
set_option linter.unusedVariables false
set_option maxRecDepth 20000
set_option maxHeartbeats 1000000
section
variable {k:J5}
theorem JFU{p:JI}{y:List aA}(h:uZ p=some y)(hv:JR p=some true)(one:p.2.1.Pairwise λa b=>a.1.1≠b.1.1):(∀d∈y,∃f∈p.2.1,f.1.1=d.1/\d.2.2=f.1.2.1)/\ ∀f∈p.2.1,f.2.1=true->0<=f.1.1->f.1.1<64-> ∃d∈y,d.1=f.1.1:=by
 have B:Par (uZ p) λy=>(∀d∈y,∃f∈p.2.1,f.1.1=d.1/\d.2.2=f.1.2.1)/\ ∀f∈p.2.1,f.2.1=true->0<=f.1.1->f.1.1<64-> ∃d∈y,d.1=f.1.1:=by
  unfold uZ;refine .bind λv L=>.not (λc=>by simp_all) λ_=>.while (λz=>z.2.1=p/\(0<=z.1/\z.1<=64)/\(∀d∈z.2.2,∃f∈p.2.1,f.1.1=d.1/\d.2.2=f.1.2.1)/\ ∀f∈p.2.1,f.2.1=true->0<=f.1.1->f.1.1<z.1-> ∃d∈z.2.2,d.1=f.1.1) ⟨rfl,⟨bA _,show(0:Int)<=64 by decide⟩,nofun,λf _ _ a b=>by grind⟩ ?_;rintro⟨i,I,o⟩ ⟨h1,⟨h2,J⟩,k,w⟩
  (try dsimp only at h1 h2 J k w)
  subst h1;unfold kb;dsimp only;have oo:=Jh i 1;refine .lt (λH=>.bind λj D=>.ge (λA=>.bind λf n=>?_) λA=>.some ⟨rfl,by grind,k,λg E a b c=>?_⟩) λH=>.some ⟨k,λf n a b c=>w f n a b (by omega)⟩;obtain⟨g,q,R⟩:=(xC D).2.1 A;rw[n]at q;injection q with q;subst q;have G: ∀x∈I.2.1,x.1.1=i->x=f:=λx r e=>by
   obtain⟨a,T⟩:=gN.1 r;obtain⟨_,Q⟩:=cE n;grind [Dv]
  refine .ite (λF=>.bind λO M=>.bind λP K=>.bind λN C=>.some ⟨rfl,by grind,λd hd=>?_,λx r a b c=>?_⟩) λF=>.some ⟨rfl,by grind,k,λx r a b c=>?_⟩
  (try dsimp only at hd)
  rw[gF C]at hd;grind [oA]
  (try dsimp only at c⊢)
  rw[gF C];by_cases e:x.1.1=i;exact⟨_,List.mem_append_right _ (hO.2 rfl),e.symm⟩;obtain⟨d,S,U⟩:=w x r a b (by omega);grind;grind
  (try dsimp only at c)
  by_cases e:g.1.1=i;exact absurd e ((xC D).2.2 (by omega) g E);grind
 exact B _ h
def OfQ(k:J5)(n:Int)(D:List aA):Prop:=(∀d∈D,d.2.2=bV k.2.2.1.2.1 d.1)/\ ∀q,0<=q->q<n->((∃d∈k.2.2.2.2.2.2.2,d.1=q)\/(∃f∈k.2.2.2.1.2.1,f.2.1=true/\f.1.1=q))-> ∃d∈D,d.1=q
theorem JOO{y:tM}(h:AL k=some y)(c:y.2=0)(hi:JD k):y.1.1=k.1/\y.1.2.2.2.2=k.2.2.2.2.2.2.1/\OfQ k k.1 y.1.2.2.2.1/\Jo k=some true:=by
 have Z:Par (AL k) λy=>y.2=0->y.1.1=k.1/\y.1.2.2.2.2=k.2.2.2.2.2.2.1/\OfQ k k.1 y.1.2.2.2.1/\Jo k=some true:=by
  unfold AL;refine .bind λv K=>.not (λ_=>.some nofun) λcv=>?_;have K:Jo k=some true:=by simp_all
  have ao:k.1<=64:=by
   have k1:Par (mI k) λy=>y=true->k.1<=64:=by unfold mI;exact .ge (λ_=>.le (λc=>λ_ _ _=>c) λ_=>.some nofun) λ_=>.some nofun
   have O:Par (Jo k) λy=>y=true->k.1<=64:=by unfold Jo;exact .bind λa ha=>.not (λ_=>.some nofun) λc=>λ_ _ _=>k1 _ ha c
   exact O _ K rfl
  refine .while (λz=>z.2.1=k/\z.2.2.2.2.2.2.2.2.2.1=k.1/\z.2.2.2.2.2.2.2.2.2.2.2.2=k.2.2.2.2.2.2.1/\(0<=z.1/\z.1<=1000)/\OfQ k z.1 z.2.2.2.2.2.2.2.1) ⟨rfl,rfl,rfl,⟨bA _,show(0:Int)<=1000 by decide⟩,nofun,λq a b=>by grind⟩ ?_;rintro⟨i,k',u1,u2,u3,u4,u5,D,u6,pg,u7,u8,rw⟩ ⟨h1,h2,h3,⟨h4,E⟩,B⟩
  (try dsimp only at h1 h2 h3 h4 E B)
  subst h1 h2 h3;unfold iy;have oo:=Jh i 1;have S:iv=NM:=rfl;rw[S];have lp: ∀{A w:List aA},i<k'.1->uZ k'.2.2.2.1=some w->(∀d∈A,d.2.2=bV k'.2.2.1.2.1 d.1)->(∀d∈D,d∈A)->((∃d∈k'.2.2.2.2.2.2.2,d.1=i)-> ∃d∈A,d.1=i)->
    Par (J6 NM (i,w,J0 w,0,k',u1,u2,u3,u4,u5,A,u6,k'.1,u7,u8,k'.2.2.2.2.2.2.1)) λr=> ∃z,r=.inl z/\z.2.1=k'/\z.2.2.2.2.2.2.2.2.2.1=k'.1/\z.2.2.2.2.2.2.2.2.2.2.2.2=k'.2.2.2.2.2.2.1/\(0<=z.1/\z.1<=1000)/\OfQ k' z.1 z.2.2.2.2.2.2.2.1:=by
   intro A w I F hl ae ap;obtain⟨d1,d2⟩:=JFU F (MZ K) hi.2.2.one;refine .while (λz=>z.1=i/\z.2.1=w/\z.2.2.1=J0 w/\z.2.2.2.2.1=k'/\z.2.2.2.2.2.2.2.2.2.2.2.2.1=k'.1/\z.2.2.2.2.2.2.2.2.2.2.2.2.2.2.2=k'.2.2.2.2.2.2.1/\(∀d∈z.2.2.2.2.2.2.2.2.2.2.1,d.2.2=bV k'.2.2.1.2.1 d.1)/\(∀d∈A,d∈z.2.2.2.2.2.2.2.2.2.2.1)/\upw (λd=>d.1=i->d∈z.2.2.2.2.2.2.2.2.2.2.1) w z.2.2.2.1) ⟨rfl,rfl,rfl,rfl,rfl,rfl,hl,λ_ h=>h,ES⟩ ?_;rintro⟨i',aq,n,j,O,t1,t2,t3,t4,t5,D2,t6,pg,t7,t8,rw⟩ ⟨g1,g2,g3,U,R,P,H,Y,J⟩
   (try dsimp only at g1 g2 g3 U R P H Y J)
   subst g1 g2 g3 U R P;unfold NM;refine .lt (λW=>.bind λd hd=>.eq (λcd=>.bind λy9 L=>.some ⟨rfl,rfl,rfl,rfl,rfl,rfl,λx g=>?_,λx g=>?_,?_⟩) λcd=>.some ⟨rfl,rfl,rfl,rfl,rfl,rfl,H,Y,AG J hd λh=>absurd h cd⟩) λW=>.some ⟨_,rfl,rfl,rfl,rfl,by grind,H,λq M q2 G=>?_⟩
   (try dsimp only at g)
   rw[gF L]at g;rcases cF.1 g with g|g;exact H x g;simp at g;subst g;obtain⟨f,T,N,f3⟩:=d1 _ (oA hd);rw[f3,(hi.2.2.hot f T).1,N];dsimp only;rw[gF L];grind;dsimp only;rw[gF L];exact AG (J.mono λx h e=>List.mem_append_left _ (h e)) hd λ_=>List.mem_append_right _ (hO.2 rfl)
   ·(try dsimp only at q2)
    have al:=FW J W;by_cases e:q=i'
    ·subst e;rcases G with G|⟨f,T,N,f3⟩
     all_goals grind
    obtain⟨d,a,b⟩:=B.2 q M (by omega) G;grind
  have fin: ∀{o:Option ((DP)⊕(tM))} {Q:((DP)⊕(tM))->Prop},Par o (λr=> ∃z,r=.inl z/\z.2.1=k'/\z.2.2.2.2.2.2.2.2.2.1=k'.1/\z.2.2.2.2.2.2.2.2.2.2.2.2=k'.2.2.2.2.2.2.1/\(0<=z.1/\z.1<=1000)/\OfQ k' z.1 z.2.2.2.2.2.2.2.1)->
   (∀z,z.2.1=k'/\z.2.2.2.2.2.2.2.2.2.1=k'.1/\z.2.2.2.2.2.2.2.2.2.2.2.2=k'.2.2.2.2.2.2.1/\(0<=z.1/\z.1<=1000)/\OfQ k' z.1 z.2.2.2.2.2.2.2.1->Q (.inl z))->Par o Q:=λh1 h2=>h1.mono λr ⟨z,hz,h⟩=>by grind
  refine .lt (λI=>.bind λy4 E=>.ite (λV=>.bind λy5 C=>.bind λw F=>fin (lp I F (λd hd=>?_) (λd hd=>?_) λ_=>?_) λz h=>h) λV=>.bind λw F=>fin (lp I F B.1 (λd hd=>hd) λg=>?_) λz h=>h) λI=>.some λ_=>⟨rfl,rfl,⟨B.1,λq M q2 G=>B.2 q M (by grind) G⟩,K⟩;rw[gF C]at hd;rcases cF.1 hd with hd|hd;exact B.1 d hd;simp at hd;subst hd;exact hi.2.2.lak _ ((GA E).1 V).1;rw[gF C];grind;rw[gF C];grind [GA];grind [GA]
 exact Z _ h c
theorem E0{l:JK}(hi:gP l)(hc:dE l.2.1):Par (dQ l) λy=>y=true:=by
 obtain⟨i1,i2,i3,i4⟩:=hi;have o:=bE l.1 1;unfold dQ;refine .ltf (λ_=>.gtf (λ_=>.gtf (λ_=>.ltf (λ_=>.bind λm r=>.gt (λc=>?_) λ_=>.while (λz=>z.2=l) rfl ?_) λc=>by omega) λc=>by omega) λc=>by omega) λc=>by omega
 grind [LZ];rintro⟨i,l'⟩ h
 (try dsimp only at h)
 subst h;unfold XP;refine .lt (λ_=>.bind λe j=>.nef (λ_=>.bind λn g=>.bind λv x=>.not (λc=>?_) λ_=>.some rfl) λc=>?_) λ_=>.some rfl;rw[j]at g;injection g with g;subst g;obtain⟨_,q⟩:=cE j;have:=(hc _ _ q).2.1;simp_all;obtain⟨k,q⟩:=cE j
 (try dsimp only at k q c)
 have w:=(hc _ _ q).1;grind [J0,Jh]
theorem oz{l:JK}{n:Int}(hi:gP l)(hc:dE l.2.1)(hn:n<=J0 l.2.1):Par (iU (l,n)) λy=>y.2=0:=by
 have v:=E0 hi hc;obtain⟨i1,i2,i3,i4⟩:=hi;unfold iU;refine .bind λb e=>.not (λc=>by rw[v _ e]at c;cases c) λ_=>.bind λm g=>.gt (λc=>?_) λ_=>.some rfl;grind [LZ]
theorem JM1{y:gT}(h:BA k=some y)(c:y.2.2=0)(hi:JD k):JD y.1:=by
 have x:Par (BA k) λy=>y.2.2=0->JD y.1:=by
  unfold BA;refine .bind λy2 h2=>.ne (λc=>.some λh=>absurd h c) λM=>.bind λI U=>.gt (λ_=>.some nofun) λP=>.bind λZ S=>.ne (λc=>.some λh=>absurd h c) λR=>.bind λn D=>.some λ_=>?_;obtain⟨L,K,⟨N,B⟩,W⟩:=JOO h2 M hi;have cp:WA k.2.2.1.2.1 I.1:=by
   intro c' hc';rcases JNK U with e|⟨v,t,e⟩;rw[e]at hc';exact absurd hc' (by have:uX []=some ((0,0,[],[],[]),5):=rfl;simp_all);rw[e]at hc' P;obtain⟨J,G,H⟩:=JNY v (by grind [J0]) hc';rw[J,G,H,L,K];refine⟨nofun,.nil,nofun,nofun,N,λp r w=>?_⟩;obtain⟨T,Y⟩:=hi.2.2.row p r w;refine⟨T,λ_ b=>?_⟩;have p0:=(cE w).1;have z:p<k.1:=by
    have:=kL (cE w).2;have F:Par (mI k) λy=>y=true->J0 k.2.2.2.2.2.2.1=k.1:=by unfold mI;exact .ge (λ_=>.le (λ_=>.ge (λ_=>.le (λ_=>.bind λ_ _=>.ite (λ_=>.bind λ_ _=>.ite (λ_=>.bind λ_ _=>.ite (λ_=>.bind λ_ _=>.ite (λ_=>.bind λ_ _=>.ite (λ_=>.eq (λc=>λ_ _ _=>c) λ_=>.some nofun) λ_=>.some nofun) λ_=>.some nofun) λ_=>.some nofun) λ_=>.some nofun) λ_=>.some nofun) λ_=>.some nofun) λ_=>.some nofun) λ_=>.some nofun) λ_=>.some nofun
    have Q:Par (Jo k) λy=>y=true->J0 k.2.2.2.2.2.2.1=k.1:=by unfold Jo;exact .bind λa V=>.not (λ_=>.some nofun) λc=>λ_ _ _=>F _ V c
    have:=Q _ W rfl;omega
   by_cases E: ∃f∈k.2.2.2.1.2.1,f.1.1=p;obtain⟨f,j,o⟩:=E;cases fd:f.2.1 with
   |true=>
    obtain⟨d,a,e⟩:=B p p0 z (.inr ⟨f,j,fd,o⟩);grind
   |false=>
    have:=(hi.2.2.hot f j).2 fd r (by grind);grind
   refine Y (λf C e=>E ⟨f,C,e⟩) λd hd e=>?_;obtain⟨O,a,e'⟩:=B p p0 z (.inl ⟨d,hd,e⟩);exact b O a e'
  have q:=PC S R hi (λh=>absurd h (by simp_all)) (λh=>absurd h (by simp_all)) λ_=>cp;have g:=q.inv hi (by simp_all) λh=>absurd h (by simp_all);by_cases A:n.2=0;obtain⟨j,o⟩:=SU D A;exact⟨o g.1,by show dE n.1.2.1;rw[j];exact g.2.1,by show Rel n.1.2.1 _ _ _ _;rw[j];exact g.2.2⟩;obtain⟨_,e',_,_,a3,a4,_,a6,_⟩:=q;exact absurd (oz g.1 g.2.1 (by grind [GF,wY]) _ D) A
 exact x _ h c
end
section
variable {s:Jt}
theorem Md{y:qL}(e:CR s=some y)(c:y.2.2=0)(hi:JD s.1):JD y.1.1:=by
 have g:Par (CR s) λy=>y.2.2=0->JD y.1.1:=by unfold CR;exact .bind λk h2=>.ne (λc=>.some λh=>absurd h c) λj=>.some λ_=>JM1 h2 j hi
 exact g _ e c
end
end Go.Am
end
section
namespace Go.Am
set_option linter.unusedVariables false
set_option maxRecDepth 20000
set_option maxHeartbeats 1000000
section
variable {s:Jt}
abbrev TFl:=Int×Int×Int×(List J2)×Int×Int×(List aF)×Int×(List aD)×(List aD)×(List Jn)×(List aA)×(List aA)×(List (List UInt8))×Int×(List Int)×Bool×(List JQ)×Bool×(List Int)×(List uL)
def krn(t:TFl):J5:=(t.1,t.2.1,(t.2.2.1,t.2.2.2.1,t.2.2.2.2.1),(t.2.2.2.2.2.1,t.2.2.2.2.2.2.1,t.2.2.2.2.2.2.2.1),(t.2.2.2.2.2.2.2.2.1,t.2.2.2.2.2.2.2.2.2.1),t.2.2.2.2.2.2.2.2.2.2.1,t.2.2.2.2.2.2.2.2.2.2.2.1,t.2.2.2.2.2.2.2.2.2.2.2.2.1)
theorem Ki{k:J5}{t n m:Int}{b:List UInt8}{d:dU}{y:eA}(hi:JD k)(hb:mM (k.2.2.1,t)=some b)(h:xS (d,b,n,m)=some y)(c:y.2=0):JD y.1.1:=by
 have g:Par (xS (d,b,n,m)) λy=>y.2=0->JD y.1.1:=by
  unfold xS;dsimp only;refine .bind λo h2=>.ne (λc=>.some λh=>absurd h c) λr=>.bind λF A=>.ne (λc=>.some λh=>absurd h c) λz=>.bind λG J=>.ne (λc=>.some λh=>absurd h c) λI=>.some λ_=>?_;rcases JL1 hb hi.1 hi.2.1 with e|⟨f,x,hd,rest,B,w,C⟩;rw[e]at h2;have:xQ []=some ((0,[],0),4):=rfl;grind;obtain⟨j,v,L,K⟩:=JMS h2 f hi.2.1 x B w C r;have hc:=hi.2.1.take j;have E:J0 (k.2.2.1.2.1.take j)=j:=by grind [J0]
  have hL:gP o.1:=by rw[v];exact⟨rfl,by simp_all,by simp_all,by grind⟩
  have q:dE o.1.2.1:=by simp_all
  obtain⟨D,H⟩:=JGc A z q;grind [JK8]
 exact g _ h c
theorem JGa{t id g:Int}{y:dU×List UInt8}(h:BR (s,t,id,g)=some y)(hi:JD s.1): ∃k,JD k/\ ∃t,mM (k.2.2.1,t)=some y.2:=by
 have n:Par (BR (s,t,id,g)) λy=> ∃k,JD k/\ ∃t,mM (k.2.2.1,t)=some y.2:=by unfold BR;exact .bind λ_ _=>.ge (λ_=>.bind λ_ _=>.ite (λ_=>.bind λ_ _=>.bind λ_ _=>.bind λ_ _=>.bind λo q=>.bind λ_ _=>.eq (λ_=>.bind λj e=>.some ⟨o,hi.force q,_,e⟩) λ_=>.bind λj e=>.some ⟨o,hi.force q,_,e⟩) λ_=>.bind λj e=>.some ⟨s.1,hi,_,e⟩) λ_=>.bind λj e=>.some ⟨s.1,hi,_,e⟩
 exact n _ h
variable {x:pV} {t:TFl}
theorem LM{e:Int}{y:dV×TFl}(h:qI (s,e,t)=some y)(hi:JD (krn t))(hs:e=0->JD s.1):JD (krn y.2):=by
 have g:Par (qI (s,e,t)) λy=>JD (krn y.2):=by unfold qI;exact .eq (λc=>.bind λ_ _=>.some (hs c)) λ_=>.bind λ_ _=>.some hi
 exact g _ h
theorem JNy{y:dV×TFl}(h:CX (x,t)=some y)(hi:JD (krn t)):JD (krn y.2):=by
 have g:Par (CX (x,t)) λy=>JD (krn y.2):=by unfold CX;exact .ltf (λ_=>.gtf (λ_=>.bind λ_ _=>.bind λ_ _=>.eq (λ_=>.bind λ_ _=>.some hi) λ_=>.bind λ_ _=>.bind λ_ _=>.bind λj e=>.eq (λ_=>.some hi) λ_=>.eq (λ_=>.eq (λ_=>.bind λ_ _=>.bind λ_ _=>.some (ZB e hi)) λ_=>.some (ZB e hi)) λ_=>.some (ZB e hi)) λ_=>.bind λ_ _=>.some hi) λ_=>.bind λ_ _=>.some hi
 exact g _ h
theorem JK1{y:dV×TFl}(h:CU (x,t)=some y)(hi:JD (krn t)):JD (krn y.2):=by
 have n:Par (CU (x,t)) λy=>JD (krn y.2):=by
  unfold CU;refine .bind λe h2=>.bind λj q=>?_;obtain⟨k,B,t',A⟩:=JGa h2 hi;have F:j.2=0->JD j.1.1:=by unfold NT at q;have w:Par ((xS (e.1,e.2,t.1,t.2.2.2.2.2.1)).bind λe=>some (e.1,e.2)) λy=>y.2=0->JD y.1.1:=.bind λG C=>.some λc=>Ki B A C c;exact w _ q
  refine .while (λz=>z.1=j.2/\z.2.2.2.2.2.2.2.2.2.2.2.2.2.2.2.2.2.2.2.2.2.2.2.2.2.2=j.1/\ ∃u v:List Int,True/\JD (krn (z.2.2.1,z.2.2.2.1,z.2.2.2.2.1,z.2.2.2.2.2.1,z.2.2.2.2.2.2.1,z.2.2.2.2.2.2.2.1,z.2.2.2.2.2.2.2.2.1,z.2.2.2.2.2.2.2.2.2.1,z.2.2.2.2.2.2.2.2.2.2.1,z.2.2.2.2.2.2.2.2.2.2.2.1,z.2.2.2.2.2.2.2.2.2.2.2.2.1,z.2.2.2.2.2.2.2.2.2.2.2.2.2.1,z.2.2.2.2.2.2.2.2.2.2.2.2.2.2.1,[],0,[],false,[],false,u,[]))) ⟨rfl,rfl,[],[],trivial,hi⟩ λz E=>?_;obtain⟨D,o,u,v,_,r⟩:=E;unfold od;refine .lt (λ_=>.bind λ_ _=>.bind λ_ _=>.some ⟨D,o,u,v,trivial,r⟩) λ_=>.map (.ne (λ_=>.bind λ_ _=>.some r) λc=>.bind λ_ _=>.some ?_);have g:=F (by simp_all);rw[<-o]at g;exact g
 exact n _ h
theorem JLP{y:dV×TFl}(h:CT (x,t)=some y)(hi:JD (krn t)):JD (krn y.2):=by
 have z:Par (CT (x,t)) λy=>JD (krn y.2):=(by unfold CT;refine .eq (λ_=>.bind λF h2=>.eq (λ_=>.bind λA _=>.bind λk n=>.some ?_) λ_=>.bind λk n=>.some (show JD (krn k.2)from LM n hi λc=>rh h2 c hi)) λ_=>.eq (λ_=>.bind λE C=>.some (JNy C hi)) λ_=>.eq (λ_=>.bind λo e=>.bind λw g=>.some (LM g hi λc=>JGF e c hi)) λ_=>.eq (λ_=>.bind λo e=>.bind λw g=>.some (LM g hi λc=>Md e c hi)) λ_=>.eq (λ_=>.bind λ_ _=>.bind λj r=>.eq (λc=>.bind λ_ _=>.some ?_) λ_=>.bind λ_ _=>.some hi) λ_=>.eq (λ_=>.bind λD v=>.some (JK1 v hi)) λ_=>.eq (λ_=>.bind λo e=>.bind λw g=>.some (LM g hi λc=>JMn e c hi)) λ_=>.bind λ_ _=>.some hi;show JD (krn k.2);exact LM (t:=(_,_,_,_,_,_,_,_,_,_,_,_,_,_,_,_,_,_,_,A,_)) n hi λc=>rh h2 c hi;obtain⟨q,B⟩:=SU r c;exact⟨B hi.1,by show dE j.1.2.1;rw[q];exact hi.2.1,by show Rel j.1.2.1 _ _ _ _;rw[q];exact hi.2.2⟩);exact z _ h
theorem JOb{l:List pV}{y:Jt×(List dV)×List uL}(h:AQ (s,l)=some y)(hi:JD s.1):JD y.1.1:=by
 have g:Par (AQ (s,l)) λy=>JD y.1.1:=by unfold AQ;refine .while (λz=>JD (krn (z.2.2.2.2.2.2.1,z.2.2.2.2.2.2.2.1,z.2.2.2.2.2.2.2.2.1,z.2.2.2.2.2.2.2.2.2.1,z.2.2.2.2.2.2.2.2.2.2.1,z.2.2.2.2.2.2.2.2.2.2.2.1,z.2.2.2.2.2.2.2.2.2.2.2.2.1,z.2.2.2.2.2.2.2.2.2.2.2.2.2.1,z.2.2.2.2.2.2.2.2.2.2.2.2.2.2.1,z.2.2.2.2.2.2.2.2.2.2.2.2.2.2.2.1,z.2.2.2.2.2.2.2.2.2.2.2.2.2.2.2.2.1,z.2.2.2.2.2.2.2.2.2.2.2.2.2.2.2.2.2.1,z.2.2.2.2.2.2.2.2.2.2.2.2.2.2.2.2.2.2.1,[],0,[],false,[],false,[],[]))) (by exact hi) λz e=>?_;unfold jh;exact .lt (λ_=>.lt (λ_=>.not (λ_=>.bind λ_ _=>.bind λk j=>.bind λ_ _=>.some (JLP j e)) λ_=>.some e) λ_=>.some e) λ_=>.some e
 exact g _ h
theorem JKv{p f:Int}{y:eA}(h:uN (p,f)=some y)(c:y.2=0):JD y.1.1:=by
 have j:Par (xM (p,f)) λy=>y.2=0->JD y.1:=by
  unfold xM;refine .ltf (λ_=>.gtf (λ_=>.ltf (λ_=>.gt (λ_=>.some nofun) λ_=>.bind λk h2=>.bind λn w=>.some λ_=>⟨⟨rfl,bA _,Jd,show(0:Int)<=4096 by decide⟩,λi e h=>by simp at h,?_⟩) λ_=>.some nofun) λ_=>.some nofun) λ_=>.some nofun;have q:Par (xL f) λy=>y.1.2.1=[]:=by unfold xL;exact .ltf (λ_=>.gt (λ_=>.some rfl) λ_=>.some rfl) λ_=>.some rfl
  show Rel [] p k.1.2.1 [] n.1;rw[q _ h2];refine⟨nofun,.nil,nofun,nofun,nofun,λp r v=>?_⟩;have z:r.1=0:=Fj w r (oA v);rw[z];exact⟨bA _,λ_ _=>rfl⟩
 have g:Par (uN (p,f)) λy=>y.2=0->JD y.1.1:=by unfold uN;exact .bind λk h2=>.ne (λc=>.some λh=>absurd h c) λo=>.bind λ_ _=>.ne (λc=>.some λh=>absurd h c) λ_=>.some λ_=>j _ h2 o
 exact g _ h c
end
end Go.Am
end
section
namespace Go.Am
set_option linter.unusedVariables false
set_option maxRecDepth 20000
set_option maxHeartbeats 1000000
section
variable {B S:Int}
theorem JMU{p f:Int}(h1:1<=p)(h2:p<=64)(h3:1<=f)(h4:f<=64):Par (uN (p,f)) λy=>y.2=0:=by
 have e:Par (xM (p,f)) λy=>y.2=0:=by unfold xM;exact .ltf (λ_=>.gtf (λ_=>.ltf (λ_=>.gt (λc=>by grind) λ_=>.bind λj h2=>.bind λg h3=>.some rfl) λc=>by grind) λc=>by grind) λc=>by grind
 have h:Par (GJ p) λy=>y.2=0:=by unfold GJ;exact .ltf (λ_=>.gt (λc=>by omega) λ_=>.bind λ_ _=>.some rfl) λc=>by omega
 unfold uN;exact .bind λj h2=>.ne (λc=>absurd (e _ h2) c) λk=>.bind λg h3=>.ne (λc=>absurd (h _ h3) c) λ_=>.some rfl
theorem JFN{c:Jq}{n:Int}{b:Bool}{y:Jt×Jq}(hf:aB 16384 1073741824 J9 c)(h0:0<=c.2)(h:CY (n,b,c)=some y):JD y.1.1:=by
 have o:Par (CY (n,b,c)) λy=>JD y.1.1:=(by unfold CY;refine .bind λg h2=>.bind λk r=>.bind λC q=>.bind λx F=>.bind λz D=>.some ?_;have e:=(Jr (B:=16384) (S:=1073741824) (X:=(4,c)) ⟨nL .i64 4,hf⟩ h0).get h2;have j:=(Jr (B:=16384) (S:=1073741824) (X:=(3,g.2)) ⟨nL .i64 3,e.1.2⟩ e.2.2.2).get r;have H:=e.2.2.1 (show(1:Int)<=4 by decide);have G:=j.2.2.1 (show(1:Int)<=3 by decide);have b2:=e.2.1;have v:=j.2.1;have w:=Jh 1 g.1;have A:=Jh 1 k.1;have E:=JMU (p:=J1 .i64 1 g.1) (f:=J1 .i64 1 k.1) (by omega) (by grind) (by omega) (by grind) _ q;grind [JOb,JKv]);exact o _ h
theorem JIR{c:Jq}{n:Int}{b:Bool}{y:J5×Jq}(hf:aB 16384 1073741824 J9 c)(h0:0<=c.2)(h:CW (n,b,c)=some y):JD y.1:=by
 have e:Par (CW (n,b,c)) λy=>JD y.1:=by unfold CW;exact .bind λg h2=>.some (JFN hf h0 h2)
 exact e _ h
def Bv(l:JK):Prop:=gP l/\dE l.2.1
theorem JGn{c:Jq}{n:Int}{y:Int×JK×Jq}(hf:aB 16384 1073741824 J9 c)(h0:0<=c.2)(h:xF (n,c)=some y):Bv y.2.1/\y.2.1.2.2=J0 y.2.1.2.1:=by
 have o:Par (xF (n,c)) λy=>Bv y.2.1/\y.2.1.2.2=J0 y.2.1.2.1:=by
  unfold xF;refine .bind λe h2=>.bind λj A=>.bind λC k=>.some ?_;have g:=JIR hf h0 h2;have E:j=J0 e.1.2.2.1.2.1:=(by have w:Par (rX e.1.2.2.1) λy=>y=J0 e.1.2.2.1.2.1:=(by unfold rX;refine .bind λv B=>.not (λc=>by rw[E0 g.1 g.2.1 _ B]at c;cases c) λ_=>.bind λm D=>.some ?_;obtain⟨i1,i2,i3,i4⟩:=g.1;grind [LZ]);exact w _ A);have q:=oz g.1 g.2.1 (n:=j) (by omega) _ k;obtain⟨r,x⟩:=SU k q;refine⟨⟨x g.1,by rw[r];exact g.2.1⟩,?_⟩;have z:Par (iU (e.1.2.2.1,j)) λy=>y.2=0->y.1.2.2=cP e.1.2.2.1.2.2 j:=by unfold iU;exact .bind λ_ _=>.not (λ_=>.some nofun) λ_=>.bind λ_ _=>.gt (λ_=>.some nofun) λ_=>.some λ_=>rfl
  have:=z _ k q;have mx:=rN e.1.2.2.1.2.2 j;have i3:=g.1.2.2.1;grind
 exact o _ h
end
end Go.Am
end
section
namespace Go.Am
set_option linter.unusedVariables false
set_option maxRecDepth 20000
set_option maxHeartbeats 1000000
theorem i1(c x:Bool):(if c=true then some x else some false)=some (c&&x):=by cases c<;>rfl
theorem i2(c x:Bool):(if c=false then some x else some false)=some (!c&&x):=by cases c<;>rfl
theorem i3(c x:Bool):(if c=true then some false else some x)=some (!c&&x):=by cases c<;>rfl
theorem i4{α:Type}(c x:Bool)(E:α):(if c=true then some (E,x)else some (E,false))=some (E,c&&x):=by cases c<;>rfl
theorem JJV(c:fX):CQ c=fS c:=rfl
theorem Fo(c:fX): ∃b,fS c=some b:=by unfold fS;split<;>(try split)<;>exact⟨_,rfl⟩
theorem JFz(c:aK): ∃b,uT c=some b/\iH c=some b:=by
 obtain⟨b1,e⟩:=Fo c.2.2.1;obtain⟨b2,g⟩:=Fo c.2.2.2;grind [uT,CC,iH,JJV]
theorem JDb{x:JG}(e:jV x=some true):0<=x.1/\x.1<x.2:=by
 grind [jV,zX,iB]
theorem fu(x:JG): ∃b,jV x=some b:=by unfold jV;split<;>exact⟨_,rfl⟩
theorem JKZ(c:aK): ∃z,xT c=some z/\(z=true↔c=(0,0,(false,[]),false,[])):=⟨_,rfl,dJ (t:=eN)⟩
theorem JNT(c:aK): ∃z,CO c=some z/\(z=true↔c=(c.1,0,(false,[]),false,[])/\0<=c.1/\c.1<64):=by
 have e:Tot (CO c) λz=>(z=true↔c=(c.1,0,(false,[]),false,[])/\0<=c.1/\c.1<64):=by unfold CO;exact .ite (λh=>.ge (λg=>.some ⟨λk=>⟨(dJ (t:=eN)).1 h,g,iB.1 k⟩,λk=>iB.2 k.2.2⟩) λg=>.some ⟨nofun,λk=>absurd k.2.1 g⟩) λh=>.some ⟨nofun,λk=>(Bool.false_ne_true (h.symm.trans ((dJ (t:=eN)).2 k.1))).elim⟩
 exact e
theorem JN9(e:J2):oG e=Js e:=by
 obtain⟨l,k,t,n,q,o,c,bl⟩:=e;obtain⟨N,v,w⟩:=JFz c;obtain⟨b1,r⟩:=fu (n,l);obtain⟨b2,A⟩:=fu (q,l);obtain⟨G,B⟩:=fu (o,l);have C:pY (n,l,k,t,n,q,o,c,bl)=some b1:=r;have D:pY (q,l,k,t,n,q,o,c,bl)=some b2:=A;have E:pY (o,l,k,t,n,q,o,c,bl)=some G:=B;have M: ∀b:Bool,Jm b= !b:=λ_=>rfl;unfold oG Js mJ;dsimp only;rw[C,D,E,r,A,B,v,w];have O: ∀a b:J2,(eqT J4 a b=true)=(a=b):=λa b=>propext (dJ (t:=J4));have L: ∀a b:aK,(eqT eN a b=true)=(a=b):=λa b=>propext (dJ (t:=eN));have P:b1=true->0<=n/\n<l:=λh=>by subst h;exact JDb r
 have x:k=1\/k=2\/k=3\/k=4\/k=5\/k=6\/k=7\/k=8\/k<1\/8<k:=by omega
 clear r A B C D E v w;have Q:J0 ([]:List UInt8)=0:=rfl;obtain⟨z,g,K⟩:=JKZ c;obtain⟨y,j,J⟩:=JNT c;rcases x with rfl|rfl|rfl|rfl|rfl|rfl|rfl|rfl|x|x;simp only[show aJ 1 1=false from rfl,show aN 1 8=false from rfl,show aI 1 8=false from rfl,show aI 1 7=false from rfl,show aI 1 6=false from rfl,show aI 1 5=false from rfl,show aI 1 4=false from rfl,show aI 1 3=false from rfl,show aI 1 2=false from rfl,show aI 1 1=true from rfl,if_true,if_false,eJ,reduceCtorEq,JO,iI,lS,g,j,i1,i2,i3,i4]
 congr 1
 grind [aJ,aN,aO,aW,aM,neS];simp only[show aJ 2 1=false from rfl,show aN 2 8=false from rfl,show aI 2 8=false from rfl,show aI 2 7=false from rfl,show aI 2 6=false from rfl,show aI 2 5=false from rfl,show aI 2 4=false from rfl,show aI 2 3=false from rfl,show aI 2 2=true from rfl,show aI 2 1=false from rfl,if_true,if_false,eJ,reduceCtorEq,JO,iI,lS,g,j,i1,i2,i3,i4]
 congr 1
 grind [aJ,aN,aO,aW,aI,neS];simp only[show aJ 3 1=false from rfl,show aN 3 8=false from rfl,show aI 3 8=false from rfl,show aI 3 7=false from rfl,show aI 3 6=false from rfl,show aI 3 5=false from rfl,show aI 3 4=false from rfl,show aI 3 3=true from rfl,show aI 3 2=false from rfl,show aI 3 1=false from rfl,if_true,if_false,eJ,reduceCtorEq,JO,iI,lS,g,j,i1,i2,i3,i4]
 congr 1
 grind [aJ,aN,aO,aW,aM,aI,neS];simp only[show aJ 4 1=false from rfl,show aN 4 8=false from rfl,show aI 4 8=false from rfl,show aI 4 7=false from rfl,show aI 4 6=false from rfl,show aI 4 5=false from rfl,show aI 4 4=true from rfl,show aI 4 3=false from rfl,show aI 4 2=false from rfl,show aI 4 1=false from rfl,if_true,if_false,eJ,reduceCtorEq,JO,iI,lS,g,j,i1,i2,i3,i4]
 congr 1
 grind [aJ,aN,aO,aW,aM,aI,neS];simp only[show aJ 5 1=false from rfl,show aN 5 8=false from rfl,show aI 5 8=false from rfl,show aI 5 7=false from rfl,show aI 5 6=false from rfl,show aI 5 5=true from rfl,show aI 5 4=false from rfl,show aI 5 3=false from rfl,show aI 5 2=false from rfl,show aI 5 1=false from rfl,if_true,if_false,eJ,reduceCtorEq,JO,iI,lS,g,j,i1,i2,i3,i4]
 congr 1
 grind [aJ,aN,aO,aW,aM,aI,neS];simp only[show aJ 6 1=false from rfl,show aN 6 8=false from rfl,show aI 6 8=false from rfl,show aI 6 7=false from rfl,show aI 6 6=true from rfl,show aI 6 5=false from rfl,show aI 6 4=false from rfl,show aI 6 3=false from rfl,show aI 6 2=false from rfl,show aI 6 1=false from rfl,if_true,if_false,eJ,reduceCtorEq,JO,iI,lS,g,j,i1,i2,i3,i4];grind [aJ,aN,aO,aW,aM,Prod.mk.injEq];simp only[show aJ 7 1=false from rfl,show aN 7 8=false from rfl,show aI 7 8=false from rfl,show aI 7 7=true from rfl,show aI 7 6=false from rfl,show aI 7 5=false from rfl,show aI 7 4=false from rfl,show aI 7 3=false from rfl,show aI 7 2=false from rfl,show aI 7 1=false from rfl,if_true,if_false,eJ,reduceCtorEq,JO,iI,lS,g,j,i1,i2,i3,i4];grind [aJ,aN,aO,aW,aM,neS,Prod.mk.injEq];simp only[show aJ 8 1=false from rfl,show aN 8 8=false from rfl,show aI 8 8=true from rfl,show aI 8 7=false from rfl,show aI 8 6=false from rfl,show aI 8 5=false from rfl,show aI 8 4=false from rfl,show aI 8 3=false from rfl,show aI 8 2=false from rfl,show aI 8 1=false from rfl,if_true,if_false,eJ,reduceCtorEq,JO,iI,lS,g,j,i1,i2,i3,i4];grind [aJ,aN,aO,aW,aM,Prod.mk.injEq];have H:aI k 1=false:=by grind [aI]
 have I:aI k 2=false:=by grind [aI]
 have F:aI k 3=false:=by grind [aI]
 grind [aI,aJ];have H:aI k 1=false:=by grind [aI]
 have I:aI k 2=false:=by grind [aI]
 have F:aI k 3=false:=by grind [aI]
 grind [aI,aN]
theorem JFo{x0:List Int}{y:Jq}(w0:Ty.inR (.l (.i .u8)) x0)(h:rU (x0,400)=some y):aB 16384 1073741824 J9 y/\0<=y.2:=by
 have j:aB (J0 x0) 0 (.l (.i .u8)) x0:=⟨bA _,λa e=>by
  grind [QE,Ty.inR,IntKind.min,IntKind.max,IntKind.signed,IntKind.bits]⟩
 have k:0<=J0 x0:=Jd;have g:=(tn (B:=J0 x0) (S:=0) (X:=(x0,400)) ⟨j,nL .i64 400⟩ (show(0:Int)<=400 by decide)).get h;obtain⟨n,o⟩:=JJJ h;exact⟨⟨⟨by grind,λa e=>g.1.1.2 a e⟩,g.1.2⟩,by omega⟩
theorem JFK{x0:List Int}(w0:Ty.inR (.l (.i .u8)) x0):Tot (rU (x0,400)) λy=>aB 16384 1073741824 J9 y/\0<=y.2:=by
 have g:aB (J0 x0) 0 (.l (.i .u8)) x0:=⟨bA _,λa j=>by
  grind [QE,Ty.inR,IntKind.min,IntKind.max,IntKind.signed,IntKind.bits]⟩
 have h:0<=J0 x0:=Jd;obtain⟨y,e,_⟩:=tn (B:=J0 x0) (S:=0) (X:=(x0,400)) ⟨g,nL .i64 400⟩ (show(0:Int)<=400 by decide);exact⟨y,e,JFo w0 e⟩
end Go.Am
end
section
namespace Go.Am
set_option linter.unusedVariables false
set_option maxRecDepth 20000
set_option maxHeartbeats 1000000
theorem JLv(f t lo hi lv:Int)(es:List J2): ∃b,mO (f,t,lo,hi,lv)=some b/\YC (f,t,lo,hi,lv,es)=some (b,es):=by
 unfold mO YC;dsimp only
 repeat' split
 all_goals simp_all
theorem JNQ(f t lo hi lv:Int)(x:J2)(es:List J2):OI (f,t,lo,hi,lv,x,es)=some (inB f t lo hi x,es):=by
 have j:Tot (OI (f,t,lo,hi,lv,x,es)) λy=>y=(inB f t lo hi x,es):=by
  unfold OI;have hc:Tot (xW x) λy=>(y=true↔x.2.1=1\/x.2.1=2):=by unfold xW;exact .eqf (λc=>.some ⟨λd=>.inr (jR.1 d),λd=>jR.2 (d.resolve_left c)⟩) λc=>.some ⟨λ_=>.inl c,λ_=>rfl⟩
  have g: ¬((x.2.1=1\/x.2.1=2)/\(lo<=aQ x/\aQ x<=hi)/\f<=x.1/\x.1<=t)->(false,es)=(inB f t lo hi x,es):=λh=>by
   grind [inB]
  refine .bind hc λy h=>.ite (λd=>.ge (λn=>.le (λo=>.ge (λr=>.some ?_) λc=>.some (g λh=>c h.2.2.1)) λc=>.some (g λh=>c h.2.1.2)) λc=>.some (g λh=>c h.2.1.1)) λc=>.some (g λq=>by simp_all);show(aW x.1 t,es)=_;by_cases k:x.1<=t;rw[eF.2 k,wX.2 ⟨h.1 d,⟨n,o⟩,r,k⟩];grind [aW]
 obtain⟨y,e,d⟩:=j;rw[e,d]
def leL(a b:J2):Bool:=decide (a.1<=b.1)
theorem JLw:KQ xZ leL:=λx y=>by
 refine⟨tG x.1 y.1,?_,?_⟩
 all_goals grind [xZ,Co,tG,leL,aJ]
theorem JNR(a b c:J2)(h:leL a b=true)(k:leL b c=true):leL a c=true:=by grind [leL]
theorem Z6(a b:J2):leL a b=true\/leL b a=true:=by grind [leL]
theorem JId{l:List J2}(h: ∀x∈l,oG x=some true)(hl:J0 l<=16384):YI l=some false:=by
 have g:Tot (YH l) λy=>y= -1:=by
  unfold YH;refine Jl (τ:=Int) (λq=>(l,J0 l,q)) (λi=>0<=i/\i<=J0 l) (λi=>J0 l-i) ?_ 0 rfl ⟨bA _,Jd⟩;rintro i ⟨k,h1⟩;unfold Ha;dsimp only;refine .lt (λc=>?_) λ_=>.some rfl;obtain⟨a,e,q⟩:=kN k c;refine .same e ?_;have j:XA a=some false:=by unfold XA;rw[h a (zQ5 q)];rfl
  refine .same j (.ite (λd=>by cases d) λ_=>.some ⟨J1 .i64 i 1,rfl,?_,?_,?_⟩)
  all_goals grind [Jh]
 obtain⟨y,e,rfl⟩:=g;unfold YI;rw[e];rfl
theorem JLH{l:List J2}(hl:J0 l<=16384)(hd: ∀(j:Nat) (a b:J2),l[j]?=some a->l[j+1]?=some b->a.1≠b.1):OM l=some l:=by
 have k:Tot (OM l) λy=>y=l:=by
  unfold OM;refine .lt (λ_=>.some rfl) λz=>Jl (τ:=Int) (λq=>(q,l)) (λi=>1<=i/\i<=J0 l) (λi=>J0 l-i) ?_ 1 rfl ⟨bA _,by omega⟩;rintro i ⟨A,h1⟩;unfold G5;dsimp only;refine .lt (λc=>?_) λ_=>.some rfl;have o:Jx .i64 i 1=i-1:=by grind [bE]
  rw[o];obtain⟨a,x,n⟩:=kN (l:=l) (i:=i) (by omega) c;obtain⟨b,r,h⟩:=kN (l:=l) (i:=i-1) (by omega) (by omega);have v:((l.length:Nat):Int)=J0 l:=rfl;refine .same (w:=()) (by unfold aV;grind) (.same n (.same (w:=()) (by unfold aV;grind) (.same h (.ite (λd=>?_) λ_=>.some ⟨J1 .i64 i 1,rfl,?_,?_,?_⟩))));have g:a=b:=dJ.1 d;exact absurd (by rw[g]) (hd (i-1).toNat b a h (by rw[show(i-1).toNat+1=i.toNat by omega];exact n))
  all_goals have:=Jh i 1
  all_goals omega
 obtain⟨y,e,d⟩:=k;rw[e,d]
noncomputable def mkO(f t lo hi lv:Int)(es:List J2):Option (tQ):=if J0 es>4096 then some ((0,0,0,0,0,[]),21)else(mK (f,t,lo,hi,lv,es)).bind λv=>if v=true then some ((f,t,lo,hi,lv,es),0)else some ((0,0,0,0,0,[]),13)
theorem JMx{l:List J2}(h:l.Pairwise λx y=>x.1≠y.1):(srt l).Pairwise ltE/\(∀x,x∈srt l↔x∈l)/\(srt l).length=l.length:=by
 have g: ∀{n:Nat} {l:List J2},l.length=n->(l.Pairwise λx y=>x.1≠y.1)->(srt l).Pairwise ltE/\(∀x,x∈srt l↔x∈l)/\(srt l).length=l.length:=by
  intro n
  induction n with
  |zero=>simp[srt]
  |succ n ih=>
   intro l h hi;obtain⟨m,e,rfl⟩: ∃m e,l=m++[e]:=⟨l.dropLast,l.getLast (by grind),(List.dropLast_concat_getLast _).symm⟩;have k:m.length=n:=by simpa using h
   obtain⟨i1,i2,i3⟩:=List.pairwise_append.1 hi;obtain⟨s1,j,q⟩:=ih k i1;have hd: ∀x∈srt m,x.1≠e.1:=λx o=>i3 x ((j x).1 o) e (by simp);rw[Ew];refine⟨ud s1 hd,λx=>by rw[ey hd,j];simp,?_⟩;grind [py]
 exact g rfl h
theorem JHJ{x y:J2}(hx:J8b x=true)(hy:J8b y=true):J75 x<J75 y↔ltE x y:=by
 grind [J8b,J75,ltE,aQ]
theorem Gk: ∀{l:List Int},(l.Pairwise λx y=>x≠y)->AJ l=true
 |[],_=>rfl
 |x::l,h=>by rw[List.pairwise_cons]at h;simp only[AJ,aS,yN,List.contains_eq_mem,decide_eq_false_iff_not];exact⟨λe=>h.1 x e rfl,Gk h.2⟩
theorem JLb{s E:List J2}(hf: ∀x∈s,J8b x=true)(hl:J0 s<=16384)(hd:s.Pairwise λx y=>x.1≠y.1)(v:E.Pairwise ltE)(hm: ∀x,x∈E↔x∈s):ON s=some E:=by
 have w:(s.map J75).Pairwise λx y=>x≠y:=(by rw[List.pairwise_map];refine hd.imp_of_mem fun{x y} r q h=>?_;grind [J8b,J75]);have z:mC J75 s=some (s.mergeSort (jG J75)):=(by grind [mC,J0,Gk]);have g:=List.mergeSort_perm s (jG J75);have n:(s.mergeSort (jG J75)).Pairwise ltE:=(by have h1:=List.pairwise_mergeSort (le:=jG J75) (λa b c h k=>by grind [jG]) (λa b=>by grind [jG]) s;have h2:(s.mergeSort (jG J75)).Pairwise λx y=>x.1≠y.1:=g.symm.pairwise hd (λh k=>h k.symm);refine(h1.and h2).imp_of_mem fun{x y} r q h=>?_;have j:=hf x (g.mem_iff.1 r);have o:=hf y (g.mem_iff.1 q);rw[<-JHJ j o];grind [jG,J8b,J75]);have e:s.mergeSort (jG J75)=E:=rm n v λx=>by grind
 show(if s.all J8b=true then mC J75 s else none)=some E;simp_all
end Go.Am
end
section
namespace Go.Am
set_option linter.unusedVariables false
set_option maxRecDepth 20000
set_option maxHeartbeats 1000000
theorem JNb{s E:List J2}{f t lo hi lv:Int}(hl:J0 s<=16384)(hd: ∀(j:Nat) (a b:J2),s[j]?=some a->s[j+1]?=some b->a.1≠b.1)(x:J0 E=J0 s)
  (hs:ON s=some E) (hv: ∃v,iE (f,t,lo,hi,lv,E)=some v/\mK (f,t,lo,hi,lv,E)=some v):
  Tot (J6 ja (1,[],0,0,0,0,0,s,[],f,t,lo,hi,lv)) λy=>mkO f t lo hi lv E=some y:=by
 refine Jl (τ:=Int) (λq=>(q,[],0,0,0,0,0,s,[],f,t,lo,hi,lv)) (λi=>1<=i/\i<=J0 s+1) (λi=>J0 s-i) ?_ 1 rfl ⟨bA _,by have:=Jd (l:=s);omega⟩;rintro i ⟨B,h1⟩;unfold ja;dsimp only;have z:((s.length:Nat):Int)=J0 s:=rfl;have n:Jx .i64 i 1=i-1:=by grind [bE]
 refine .lt (λc=>?_) λ_=>.map (P:=λy=>mkO f t lo hi lv E=some y) (.gt (λc=>.some ?_) λc=>.same hs ?_) λ_ h=>h
 ·rw[n];obtain⟨a,A,g⟩:=kN (l:=s) (i:=i) (by omega) c;obtain⟨b,r,e⟩:=kN (l:=s) (i:=i-1) (by omega) (by omega);refine .same (w:=()) (by unfold aV;grind) (.same e (.same (w:=()) (by unfold aV;grind) (.same g (.eq (λd=>?_) λ_=>.some ⟨J1 .i64 i 1,rfl,?_,?_,?_⟩))))
  exact absurd d (hd (i-1).toNat b a e (by rw[show(i-1).toNat+1=i.toNat by omega];exact g))
  all_goals have:=Jh i 1
  all_goals omega
 grind [mkO]
 ·have o:sV (List.length E) (List.length s)=true:=by
   have:E.length=s.length:=by grind [J0]
   grind [Nat.beq_refl]
  obtain⟨v,k,C⟩:=hv;have D:mkO f t lo hi lv E=if v=true then some ((f,t,lo,hi,lv,E),0)else some ((0,0,0,0,0,[]),13):=(by grind [mkO])
  refine .ite (λ_=>.same k (.not (λd=>.some ?_) λd=>.some ?_)) λd=>by grind
  all_goals grind
theorem D8{l:List J2}(hd:l.Pairwise λx y=>x.1≠y.1)(f t lo hi:Int):(sel l f t lo hi).Pairwise ltE/\(∀x,x∈sel l f t lo hi↔x∈l/\inB f t lo hi x=true)/\(sel l f t lo hi).length=(l.filter (inB f t lo hi)).length:=by
 grind [JMx,sel]
theorem JHz{l:List J2}{f t lo hi lv:Int}(hv: ∀x∈l,oG x=some true)(hf: ∀x∈l,aB 16384 9223372036854775807 J4 x)(hl:J0 l<=8192)(hn:mO (f,t,lo,hi,lv)=some true)
  (hd:l.Pairwise λx y=>x.1≠y.1) (hr:mh (f,t,lo,hi,lv,[])):Tot (NE (l,f,t,lo,hi,lv)) λy=>mkO f t lo hi lv (sel l f t lo hi)=some y:=by
 obtain⟨s1,E,N⟩:=D8 hd f t lo hi;have K:=List.length_filter_le (inB f t lo hi) l;unfold J0 at hl;have n: ∀x∈l,J8b x=true:=λx g=>by have h1:=(hf x g).1;have h1:IntKind.i64.min<=x.1/\x.1<=IntKind.i64.max:=h1;unfold J8b;simp only[decide_eq_true_eq];have D:IntKind.i64.min= -9223372036854775808:=rfl;have R:IntKind.i64.max=9223372036854775807:=rfl;omega
 unfold NE;obtain⟨b,b1,b2⟩:=JLv f t lo hi lv [];rw[hn]at b1;injection b1 with b1;subst b1;refine .same b2 (.ite (λ_=>.not (λc=>by cases c) λ_=>.same (JId hv (show J0 l<=16384 by grind [J0])) (.ite (λc=>by cases c) λ_=>?_)) λc=>by cases c);refine Jl (τ:=Int×List J2) (λq=>(l,J0 l,q.1,[],0,0,0,0,0,q.2,[],f,t,lo,hi,lv)) (λq=>0<=q.1/\q.1<=J0 l/\q.2=(l.take q.1.toNat).filter (inB f t lo hi)) (λq=>J0 l-q.1) ?_ (0,[]) rfl ⟨bA _,Jd,rfl⟩;rintro⟨i,es⟩ ⟨B,h1,h2⟩
 (try dsimp only at B h1 h2)
 unfold wg;dsimp only;have o:=Jh i 1;have O:((l.length:Nat):Int)=J0 l:=rfl;have J:es.length<=l.length:=(by grind);have F: ∀{m:List J2},sV (List.length m) (List.length m)=true:=fun{m}=>Nat.beq_refl _;refine .lt (λc=>?_) λc=>.map (P:=λy=>mkO f t lo hi lv (sel l f t lo hi)=some y) ?_ λ_ h=>h;obtain⟨x,e,q⟩:=kN B c;have M:l.take (J1 .i64 i 1).toNat=l.take i.toNat++[x]:=by rw[show(J1 .i64 i 1).toNat=i.toNat+1 by omega,List.take_add_one,q];rfl
 refine .same e (.same (JNQ f t lo hi lv x es) (.ite (λ_=>.ite (λd=>?_) λd=>.some ⟨(J1 .i64 i 1,es),rfl,⟨by grind,by grind,?_⟩,by grind,by grind⟩) λd=>by grind));have d:inB f t lo hi x=true:=d;refine .same (Dq (bytes:=128) (l:=es) (m:=[x]) (by grind [J0]) (by decide)) (.some ⟨(J1 .i64 i 1,es++[x]),rfl,⟨by grind,by grind,?_⟩,by grind,by grind⟩);grind;grind;have L:es=l.filter (inB f t lo hi):=by grind
 have C:(ST leL es).Perm es:=dd (le:=leL) es;have w:=JM0 (c:=xZ) (le:=leL) (X:=es) JNR Z6 JLw (by omega);have r:(ST leL es).Pairwise λx y=>x.1≠y.1:=C.symm.pairwise (by grind) (λh k=>h k.symm);have A: ∀x∈ST leL es,x∈l:=λx g=>by grind
 have hlen:(ST leL es).length=es.length:=C.length_eq;have adj: ∀(j:Nat) (a b:J2),(ST leL es)[j]?=some a->(ST leL es)[j+1]?=some b->a.1≠b.1:=λj a b S Q=>by
  grind [List.pairwise_iff_getElem]
 have I:ON (ST leL es)=some (sel l f t lo hi):=JLb (λx g=>n x (A x g)) (by grind [J0]) r s1 λx=>by
  grind
 have D:og es=some (ST leL es):=w;refine .same D (.ite (λ_=>.same (JLH (by grind [J0]) adj) (.ite (λ_=>?_) λd=>by grind)) λd=>by
  grind)
 have z:mh (f,t,lo,hi,lv,sel l f t lo hi):=⟨hr.1,hr.2.1,hr.2.2.1,hr.2.2.2.1,hr.2.2.2.2.1,by
  refine⟨?_,λx g=>hf x ((E x).1 g).1⟩;show J0 (sel l f t lo hi)<=16384;grind [J0]⟩
 obtain⟨v,G,H,_⟩:=vv z;exact(JNb (by grind [J0]) adj (by grind [J0]) I ⟨v,G,H⟩).mono λy h=>h
end Go.Am
end
section
namespace Go.Am
set_option linter.unusedVariables false
set_option maxRecDepth 20000
set_option maxHeartbeats 1000000
theorem JE9{σ ρ α:Type}{L:σ->Option (σ⊕ρ)}{z:σ}{o:Option α}{k:α->σ}(h:L z=o.bind λy=>some (.inl (k y))):J6 L z=o.bind λy=>J6 L (k y):=by cases o<;>grind [JDH,iF]
theorem JOP(a b:Int):vat (bH (bH (Vector.replicate 2 0) 0 a) 1 b) (Int.toNat 0)=some a:=by simp[vat,bH]
theorem JOI(a b:Int):vat (bH (bH (Vector.replicate 2 0) 0 a) 1 b) (Int.toNat 1)=some b:=by simp[vat,bH]
theorem FU{s:List UInt8}{vs:List (Vector Int 2)}{n i:Int}{r:JZ}{a b:Int}(hi:i<n)(hx:idx vs i=some (bH (bH (Vector.replicate 2 0) 0 a) 1 b)):
  J6 GV (s,vs,n,i,r)=(fJ (s,a,b)).bind λy=>J6 GV (y,vs,n,J1 .i64 i 1,r):=by
 refine JE9 ?_;unfold GV;dsimp only;rw[iB.2 hi,hx];simp only[if_true,JO,JOP,JOI];rfl
theorem JHI(r:JZ):xK r=(fJ ([80,77,82,78],r.1,8)).bind λa=>(fJ (a,r.2.1,8)).bind λa=>(fJ (a,r.2.2.1,4)).bind λa=>(fJ (a,r.2.2.2.1,4)).bind λa=>
  (fJ (a,r.2.2.2.2.1,1)).bind λa=>fJ (a,J0 r.2.2.2.2.2,4):=by
 have e:xK r=J6 GV ([80,77,82,78],[bH (bH (Vector.replicate 2 0) 0 r.1) 1 8,bH (bH (Vector.replicate 2 0) 0 r.2.1) 1 8,bH (bH (Vector.replicate 2 0) 0 r.2.2.1) 1 4,bH (bH (Vector.replicate 2 0) 0 r.2.2.2.1) 1 4,bH (bH (Vector.replicate 2 0) 0 r.2.2.2.2.1) 1 1,bH (bH (Vector.replicate 2 0) 0 (J0 r.2.2.2.2.2)) 1 4],6,0,r):=rfl;rw[e];rw[FU (show(0:Int)<6 by decide) rfl];refine congrArg (Option.bind _) (funext λa=>?_);rw[show J1 .i64 0 1=1 from rfl,FU (show(1:Int)<6 by decide) rfl];refine congrArg (Option.bind _) (funext λa=>?_);rw[show J1 .i64 1 1=2 from rfl,FU (show(2:Int)<6 by decide) rfl];refine congrArg (Option.bind _) (funext λa=>?_);rw[show J1 .i64 2 1=3 from rfl,FU (show(3:Int)<6 by decide) rfl];refine congrArg (Option.bind _) (funext λa=>?_);rw[show J1 .i64 3 1=4 from rfl,FU (show(4:Int)<6 by decide) rfl];refine congrArg (Option.bind _) (funext λa=>?_);rw[show J1 .i64 4 1=5 from rfl,FU (show(5:Int)<6 by decide) rfl];cases fJ (a,J0 r.2.2.2.2.2,4)with
 |none=>rfl
 |some y=>refine eT ?_;unfold GV;rfl
theorem yF{s:List UInt8}{a b:Int}(ha:aB 0 1073741824 (.i .i64) a)(hs:J0 s<=1000)(h1:1<=b)(h2:b<=8):Tot (fJ (s,a,b)) λy=>J0 y=J0 s+b:=
 (uj (B:=0) (S:=1073741824) (X:=(s,a,b)) ⟨by show J0 s<=1073741824;omega,ha,by show IntKind.i64.min<=b/\b<=IntKind.i64.max;have e:IntKind.i64.min= -9223372036854775808:=rfl;have g:IntKind.i64.max=9223372036854775807:=rfl;omega⟩).mono λy h=>h.2.2 h1 h2
theorem JDr{l:List UInt8}(hl:J0 l<=8392):Tot (mL l) λy=>J0 y=J0 l+8:=by
 unfold mL;have r:=Jd (l:=l);refine .gt (λc=>absurd c (by omega)) λ_=>.bind (yF (s:=[]) (by show IntKind.i64.min<=J0 l/\J0 l<=IntKind.i64.max;have n:IntKind.i64.min= -9223372036854775808:=rfl;have o:IntKind.i64.max=9223372036854775807:=rfl;omega) (by decide) (by decide) (by decide)) λa j=>?_;have j:J0 a=4:=j;obtain⟨c,e,hc⟩: ∃c,dY a l=some c/\J0 c=J0 a+J0 l:=(by grind [J0,dY]);refine .same e (.bind (JBg (B:=0) (S:=1073741824) (X:=c) (by show J0 c<=1073741824;omega)) λu k=>?_);have k:IntKind.u32.min<=u/\u<=IntKind.u32.max:=k;have n:IntKind.u32.min=0:=rfl;have o:IntKind.u32.max=4294967295:=rfl;have g:aU .i64 u=u:=by grind [EL]
 refine .bind (P:=λy=>J0 y=J0 l+8) ?_ λy h=>.some h;exact(uj (B:=0) (S:=1073741824) (X:=(c,aU .i64 u,4)) ⟨by show J0 c<=1073741824;omega,by rw[g];show IntKind.i64.min<=u/\u<=IntKind.i64.max;have v:IntKind.i64.min= -9223372036854775808:=rfl;have q:IntKind.i64.max=9223372036854775807:=rfl;omega,aG 4⟩).mono λy h=>by
  grind
theorem Dn:nM (1,1,0,0,0,[]):=
 ⟨⟨by decide,by decide,by decide,by decide,by decide,by decide,by decide,by decide⟩,by decide,λj e h=>by simp at h,λe h=>by simp at h,λj a b h=>by simp at h⟩
theorem JKi:NX ()=some true:=by
 have g:aB 0 1073741824 (.i .i64) 0:=by show IntKind.i64.min<=0/\0<=IntKind.i64.max;decide
 have j:aB 0 1073741824 (.i .i64) 1:=by show IntKind.i64.min<=1/\1<=IntKind.i64.max;decide
 have k:Tot (xK (1,1,0,0,0,[])) λy=>J0 y=33:=by
  rw[JHI];have v:J0 ([80,77,82,78]:List UInt8)=4:=rfl;exact .bind (yF j (by omega) (by decide) (by decide)) λa z=>.bind (yF j (by omega) (by decide) (by decide)) λb q=>.bind (yF g (by omega) (by decide) (by decide)) λc hc=>.bind (yF g (by omega) (by decide) (by decide)) λd hd=>
   .bind (yF g (by omega) (by decide) (by decide)) λe w=>(yF g (by omega) (by decide) (by decide)).mono λf r=>by omega
 obtain⟨h,o,h1⟩:=k;obtain⟨f,n,h2⟩:=JDr (l:=h) (by omega);have en:GS (1,1,0,0,0,[])=some (f,0):=by show KM iE xK mL uV (λx=>x.2.2.2.2.2) ((1,1,0,0,0,[]):JZ)=some (f,0);unfold KM;rw[OH Dn];simp only[JO,if_true];rw[o];simp only[JO];rw[n];simp only[JO];rw[if_pos (by grind [J0])];rfl
 unfold NX;rw[en];simp only[JO];rw[if_pos (by rfl),if_pos (by rw[h2,h1];rfl),OH Dn];rfl
end Go.Am
end
section
namespace Go.Am
set_option linter.unusedVariables false
set_option maxRecDepth 20000
set_option maxHeartbeats 1000000
theorem JDM{r:JZ}(h:nM r)(id:Int):OB (r,id)=some ((ent r).filter (vO id)):=by
 have k:Tot (OB (r,id)) λy=>y=(ent r).filter (vO id):=by
  have B:J0 (ent r)<=4096:=h.2.1;unfold OB;refine .bind (fH (OH h)) λA w=>.not (λc=>by simp_all) λ_=>Jl (τ:=Int) (λq=>(id,ent r,J0 (ent r),q,r,((ent r).take q.toNat).filter (vO id))) (λq=>0<=q/\q<=J0 (ent r)) (λq=>J0 (ent r)-q) ?_ 0 (by simp[ent]) ⟨bA _,Jd⟩;rintro i ⟨o,h1⟩;unfold yx;dsimp only;have z:=Jh i 1;refine .lt (λc=>?_) λc=>.some ?_;obtain⟨e,v,n⟩:=kN o c;have x:(ent r).take (J1 .i64 i 1).toNat=(ent r).take i.toNat++[e]:=by rw[show(J1 .i64 i 1).toNat=i.toNat+1 by omega,List.take_add_one,n];rfl
  refine .same v (.eq (λg=>?_) λg=>?_);have C:J0 (((ent r).take i.toNat).filter (vO id))<=4096:=(by grind [J0]);refine .same (Dq (by grind [wY]) (by decide)) (.some ⟨J1 .i64 i 1,?_,⟨by omega,by omega⟩,by omega,by omega⟩);have j:vO id e=true:=jR.2 g;simp_all;refine .some ⟨J1 .i64 i 1,?_,⟨by omega,by omega⟩,by omega,by omega⟩;have j: ¬vO id e=true:=λh=>g (jR.1 h);simp_all;grind [List.take_of_length_le,J0]
 obtain⟨y,e,d⟩:=k;rw[e,d]
theorem JJd{f p t q n i:Int}{own:List J2}{c:Jq}{l:JK}{r:JZ}{x:J2}(hx:x∈own)(hl:J0 own<=4096):
  J6 YD (f,p,t,q,n,i,false,own,0,c,l,r,x)=some (.inl (f,p,t,q,n,J1 .i64 i 1,c,l,r)):=by
 have v:Tot (J6 YD (f,p,t,q,n,i,false,own,0,c,l,r,x)) λy=>y=.inl (f,p,t,q,n,J1 .i64 i 1,c,l,r):=by
  refine Jl (τ:=Bool×Int) (λz=>(f,p,t,q,n,i,z.1,own,z.2,c,l,r,x)) (λz=>0<=z.2/\z.2<=J0 own/\(z.1=true\/x∉own.take z.2.toNat)) (λz=>J0 own-z.2) ?_ (false,0) rfl ⟨bA _,Jd,.inr (by simp)⟩;rintro⟨b,k⟩ ⟨A,h1,h2⟩;unfold YD
  (try dsimp only at A h1 h2⊢)
  have C:=Jh k 1;refine .lt (λj=>?_) λj=>.map (P:=λy=>y=.inl (f,p,t,q,n,J1 .i64 i 1,c,l,r)) (.not (λo=>?_) λ_=>.some rfl) λ_ h=>h;refine .itf (λo=>?_) λo=>.some ⟨(true,J1 .i64 k 1),rfl,⟨om,om,.inl rfl⟩,om,om⟩;obtain⟨e,g,w⟩:=kN A j;refine .same g (.some ⟨(eqT J4 e x,J1 .i64 k 1),rfl,⟨om,om,?_⟩,om,om⟩);dsimp only;by_cases g:eqT J4 e x=true;exact .inl g;refine .inr λB=>?_;rw[show(J1 .i64 k 1).toNat=k.toNat+1 by omega,List.take_add_one,w,cF]at B;grind [dJ];grind [List.take_of_length_le,J0]
 obtain⟨y,e,d⟩:=v;rw[e,d]
end Go.Am
end
section
namespace Go.Am
set_option linter.unusedVariables false
set_option maxRecDepth 20000
set_option maxHeartbeats 1000000
theorem cv8{x:Int}(h:Ty.inR (.i .u8) x):0<=aU .i64 x/\aU .i64 x<=255:=by
 grind [Ty.inR,IntKind.min,IntKind.max,IntKind.signed,IntKind.bits,EL]
theorem WQ{x k:Int}(h:0<=x/\x<=255)(hk:0<k):Tot (mA x k) λr=>0<=r/\r<k:=
 (Cl (by omega)).mono λr e=>by subst e;rw[Int.tmod_eq_emod_of_nonneg h.1];exact⟨Int.emod_nonneg _ (by omega),Int.emod_lt_of_pos _ hk⟩
theorem X5{x0:List Int}{X x2 x3 x4:Int}(w0:Ty.inR (.l (.i .u8)) x0)(w1:Ty.inR (.i .u8) X)(w2:Ty.inR (.i .u8) x2)(w3:Ty.inR (.i .u8) x3)(w4:Ty.inR (.i .u8) x4):
  YA (x0,X,x2,x3,x4)=some true:=by
 have W:Tot (YA (x0,X,x2,x3,x4)) λy=>y=true:=by
  unfold YA;refine .bind (fH JKi) λy2 d2=>.not (λc=>by simp_all) λ_=>.bind (JFK w0) λy3 G=>.bind ((JEz (B:=16384) (S:=1073741824) (X:=(30,y3)) ⟨aG 30,G.1⟩ G.2 (show(0:Int)<=30 by decide) (show(30:Int)<=1000 by decide)).eqn) λy4 M=>?_;obtain⟨a4,g,c⟩:=y4;obtain⟨⟨⟨_,O,aq⟩,av⟩,M⟩:=M;obtain⟨⟨hI,D⟩,_⟩:=JGn G.1 G.2 M;have D:dE g.2.1:=D;have V:J0 g.2.1<=4096:=hI.2.2.2;refine .bind (WQ (cv8 w1) (by decide)) λf hf=>.bind (WQ (cv8 w3) (by decide)) λp hp=>.bind (WQ (cv8 w2) (by decide)) λt ht=>.bind (WQ (cv8 w4) (by decide)) λq hq=>?_;dsimp only;have a1:=Jh 1 f;have a2:=Jh (J1 .i64 1 f) t;have a3:=Jh p q;generalize J1 .i64 (J1 .i64 1 f) t=T at a2⊢;generalize J1 .i64 1 f=F at a1 a2⊢;generalize J1 .i64 p q=Q at a3⊢;have Z:qY (F,T,p,Q,0,[]):=⟨by grind,by grind,by grind,by simp_all,by grind,by grind,(show(0:Int)<=0 by decide),(show(0:Int)<=8 by decide)⟩;have hR:=JKn D V Z;have J: ∀x∈g.2.1,Js x=some true:=λx k=>by obtain⟨j,hj⟩:=gN.1 k;exact(D j x hj).2.1
  have A: ∀x∈g.2.1,aB 16384 9223372036854775807 J4 x:=λx k=>Ty.fit.up (by decide) (by decide) (O.2.1.2 x k);have C: ∀{n:Int}, -9223372036854775808<=n/\n<=9223372036854775807->aB 16384 9223372036854775807 (.i .i64) n:=λh=>h;have r1: -9223372036854775808<=F/\F<=9223372036854775807:=by omega
  have r2: -9223372036854775808<=T/\T<=9223372036854775807:=by omega
  have r3: -9223372036854775808<=p/\p<=9223372036854775807:=by omega
  have r4: -9223372036854775808<=Q/\Q<=9223372036854775807:=by omega
  have hd:g.2.1.Pairwise λx y=>x.1≠y.1:=D.inc.imp fun{a b} h=>by
   grind
  obtain⟨v,ev,hv⟩:=u0 Z;subst hv;obtain⟨y,e,L⟩:=JHz (f:=F) (t:=T) (lo:=p) (hi:=Q) (lv:=0) (λx k=>(JN9 x).trans (J x k)) A (by omega) ev hd
   ⟨C r1,C r2,C r3,C r4,C (show -9223372036854775808<=(0:Int)/\(0:Int)<=9223372036854775807 by decide),(show J0 ([]:List J2)<=16384 by decide),λx k=>absurd k List.not_mem_nil⟩
  have L:y=((F,T,p,Q,0,sel g.2.1 F T p Q),0):=(by unfold mkO at L;have hl:J0 (sel g.2.1 F T p Q)<=4096:=hR.2.1;grind [tm]);subst L;refine .same e (.nef (λ_=>.bind (fH (OH hR)) λv dv=>.not (λc=>by simp_all) λ_=>?_) λc=>absurd rfl c);dsimp only;have hs:=D8 hd F T p Q;refine Jl (τ:=Int) (λi=>(F,p,T,Q,J0 ((g.2.1.take i.toNat).filter (inB F T p Q)),i,c,g,(F,T,p,Q,0,sel g.2.1 F T p Q))) (λi=>0<=i/\i<=J0 g.2.1) (λi=>J0 g.2.1-i) ?_ 0 rfl ⟨bA _,Jd⟩;rintro i ⟨h0,h1⟩;unfold Ae;dsimp only;have o:=Jh i 1;refine .lt (λP=>?_) λP=>.some ?_;obtain⟨x,ex,U⟩:=kN h0 P;have tk:g.2.1.take (J1 .i64 i 1).toNat=g.2.1.take i.toNat++[x]:=by rw[show(J1 .i64 i 1).toNat=i.toNat+1 by omega,List.take_add_one,U];rfl
  have skip:inB F T p Q x=false->J0 ((g.2.1.take i.toNat).filter (inB F T p Q))=J0 ((g.2.1.take (J1 .i64 i 1).toNat).filter (inB F T p Q)):=λE=>by
   grind
  have w: ¬((x.2.1=1\/x.2.1=2)/\(p<=aQ x/\aQ x<=Q)/\F<=x.1/\x.1<=T)->inB F T p Q x=false:=λk=>by grind [inB]
  have r:inB F T p Q x=false-> ∃c',((F,p,T,Q,J0 ((g.2.1.take i.toNat).filter (inB F T p Q)),J1 .i64 i 1,c,g,((F,T,p,Q,0,sel g.2.1 F T p Q):JZ)):WE)=
    (F,p,T,Q,J0 ((g.2.1.take c'.toNat).filter (inB F T p Q)),c',c,g,(F,T,p,Q,0,sel g.2.1 F T p Q))/\(0<=c'/\c'<=J0 g.2.1)/\J0 g.2.1-c'<J0 g.2.1-i/\0<=J0 g.2.1-i:=λE=>
   ⟨J1 .i64 i 1,by rw[skip E],⟨by omega,by omega⟩,by omega,by omega⟩
  have H:x∈g.2.1:=zQ5 U;refine .same ex (.bind ((qG (B:=16384) (S:=9223372036854775807) (A x H)).eqn) λb E=>?_);have N:=rG E.2;refine .nof (λK=>.ltf (λc1=>.gtf (λc2=>.ltf (λc3=>.gt (λc4=>.some (r (w λz=>by grind [aQ]))) λc4=>?_) λc3=>.some (r (w λz=>by grind [aQ]))) λc2=>.some (r (w λz=>by omega))) λc1=>.some (r (w λz=>by omega))) λK=>.some (r (w λz=>N.2 K z.1));have Y:inB F T p Q x=true:=wX.2 ⟨N.1 K,by grind [aQ],by omega,by omega⟩;have I:x∈(sel g.2.1 F T p Q).filter (vO (aQ x)):=List.mem_filter.2 ⟨(hs.2.1 x).2 ⟨H,Y⟩,jR.2 rfl⟩;have R:J0 ((sel g.2.1 F T p Q).filter (vO (aQ x)))<=4096:=(by grind [J0]);refine .same (JDM hR (aQ x)) ?_;dsimp only[ent];rw[JJd I R];have hn:J0 ((g.2.1.take (J1 .i64 i 1).toNat).filter (inB F T p Q))=J0 ((g.2.1.take i.toNat).filter (inB F T p Q))+1:=(by grind [J0]);have au:J0 ((g.2.1.take i.toNat).filter (inB F T p Q))<=4096:=(by grind [J0]);have aw:0<=J0 ((g.2.1.take i.toNat).filter (inB F T p Q)):=Jd;have o2:=Jh (J0 ((g.2.1.take i.toNat).filter (inB F T p Q))) 1;have e2:J1 .i64 (J0 ((g.2.1.take i.toNat).filter (inB F T p Q))) 1=J0 ((g.2.1.take i.toNat).filter (inB F T p Q))+1:=by omega
  exact .some ⟨J1 .i64 i 1,by rw[hn,e2],⟨by omega,by omega⟩,by omega,by omega⟩;grind [J0,jR]
 obtain⟨y,e,rfl⟩:=W;exact e
end Go.Am
end
section
namespace Go.Am
set_option maxRecDepth 20000
def DB{α:Type}(f:FuncId):List (FuncId×α)->Option α|[]=>none|(g,a)::r=>if f=g then some a else DB f r
noncomputable def m8:List (FuncId×AFn):=[(21,aL n8),(10,aL JDk),(88,aL Ui),(127,aL Ym),(126,aL Tz),(107,aL S9),(106,aL Lx),(105,aL Xp),(108,aL Xh),(109,aL Xq),(89,aL Qy),(52,aL P4),(93,aL Vy),(59,aL X3),(65,aL Il),(30,aL Tl),(51,aL U2),(90,aL Ux),(53,aL P2),(19,aL Ld),(39,aL JAa),(103,aL Yj),(73,aL JA6),(38,aL Pk)]
noncomputable def m4:List (FuncId×AFn):=[(74,aL H2),(40,aL U9),(9,aL M4),(70,aL X6),(35,aL Ww),(148,aL Y3),(125,aL Yd),(100,aL Zw),(138,aL U8),(123,aL H7),(137,aL Hz),(135,aL JAW),(136,aL JAm),(122,aL JAq),(98,aL JB8),(97,aL Tw),(134,aL X0),(121,aL Ng),(96,aL M9),(63,aL Pn),(68,aL Kp),(67,aL Q0),(33,aL P5),(34,aL Mq)]
noncomputable def n4:List (FuncId×AFn):=[(147,aL Tx),(238,aL Qm),(193,aL Pt),(194,aL Mr),(163,aL Q1),(181,aL Nw),(249,aL Xf),(264,aL Nx),(265,aL Ly),(266,aL Kv),(223,aL N8),(252,aL Rp),(251,aL Wg),(201,aL O5),(169,aL N3),(267,aL JAV),(224,aL Ra),(225,aL Yn),(180,aL Py),(159,aL N9),(151,aL Oa),(139,aL Qe),(24,aL V8),(214,aL Ue)]
noncomputable def m5:List (FuncId×AFn):=[(215,aL JBb),(260,aL H1),(217,aL It),(213,aL Lv),(257,aL Ve),(258,aL JAA),(259,aL U7),(216,aL Mc),(170,aL Lr),(154,aL L1),(167,aL Hv),(184,aL Ii),(176,aL JA5),(75,aL JAJ),(212,aL Tk),(256,aL Wp),(211,aL T5),(210,aL Qk),(175,aL Tu),(209,aL Qh),(174,aL JEG),(156,aL Mz),(143,aL Y0),(168,aL Qo)]
noncomputable def m6:List (FuncId×AFn):=[(153,aL P1),(76,aL JAb),(202,aL Ro),(203,aL M5),(171,aL Sk),(205,aL K1),(254,aL U1),(206,aL O6),(287,aL Qs),(253,aL Ol),(204,aL Tq),(207,aL L9),(172,aL Nd),(255,aL JB2),(208,aL Pb),(173,aL U6),(155,aL Nk),(142,aL O8),(232,aL Hm),(274,aL Ie),(275,aL K9),(231,aL Vh),(190,aL U4),(189,aL Wm)]
noncomputable def nx:List (FuncId×AFn):=[(191,aL Io),(234,aL Nc),(233,aL V4),(237,aL Hl),(276,aL R3),(235,aL Hx),(277,aL JEg),(236,aL Vk),(192,aL If),(162,aL L6),(188,aL So),(161,aL Ij),(227,aL JBa),(183,aL I1),(84,aL H6),(291,aL P7),(270,aL Th),(271,aL JAf),(228,aL Xr),(185,aL Nm),(230,aL JA8),(187,aL Sr),(273,aL Pm),(295,aL P3)]
noncomputable def nc:List (FuncId×AFn):=[(292,aL Lb),(272,aL Nb),(229,aL I4),(186,aL Lk),(269,aL Mu),(268,aL T8),(226,aL Kq),(182,aL I5),(160,aL Rt),(146,aL Kg),(144,aL Vd),(198,aL Xb),(250,aL Ku),(199,aL JAo),(165,aL W1),(282,aL Qq),(245,aL Wo),(284,aL Vq),(285,aL jw),(247,aL Rk),(281,aL Tc),(243,aL L7),(242,aL My),(286,aL Ou)]
noncomputable def nr:List (FuncId×AFn):=[(248,aL H0),(283,aL JBd),(246,aL Ug),(240,aL T0),(279,aL Rx),(280,aL U3),(241,aL Pp),(244,aL Ic),(278,aL Uf),(239,aL Vt),(195,aL JDh),(196,aL U0),(197,aL Xo),(164,aL JEQ),(200,aL Lc),(166,aL Hq),(152,aL JDe),(141,aL Y9),(177,aL Is),(42,aL On),(77,aL Mh),(44,aL Uk),(219,aL Ny),(218,aL Kh)]
noncomputable def nj:List (FuncId×AFn):=[(178,aL Qf),(157,aL O2),(48,aL Uw),(87,aL Ze),(85,aL Zh),(86,aL Y7),(50,aL Rv),(220,aL Lo),(294,aL Me),(290,aL Ll),(263,aL Oc),(297,aL To),(298,aL Zs),(299,aL Ys),(296,aL Tm),(293,aL R7),(288,aL R4),(261,aL Qn),(289,aL M7),(262,aL Hf),(221,aL Vs),(222,aL Qd),(179,aL Ms),(158,aL Im)]
noncomputable def na:List (FuncId×AFn):=[(145,aL Zo),(140,aL Zq),(124,aL Zu),(99,aL JAK),(66,aL Zb),(32,aL Y8),(11,aL JDt),(31,aL V9),(64,aL Sj),(62,aL Uy),(27,aL Q3),(23,aL Mv),(28,aL Yq),(18,aL H9),(56,aL Su),(58,aL Tj),(60,aL J94),(91,aL J87),(55,aL J7m),(110,aL J7N),(149,aL J96),(128,aL Zy),(111,aL oe),(92,aL Zx)]
noncomputable def ZC:List (FuncId×AFn):=[(57,aL J6T),(22,aL JBh),(5,aL Yg),(25,aL Ow),(6,aL X8)]
noncomputable def fns:List (FuncId×AFn):=m8++(m4++(n4++(m5++(m6++(nx++(nc++(nr++(nj++(na++(ZC))))))))))
noncomputable def fks:List (FuncId×oV):=[]
noncomputable def fps:List (FuncId×Prm):=[(72,JDa),(61,Jk8 13 30 (Jfq J4 J8b) (cel J4) J75)]
abbrev PS:=FuncId->Option (List AV->List Blk->Option Res)
noncomputable def tI(p:PS):dK:=λf=>B7 (DB f fns) (DB f fks) (DB f fps) (p f)
def AE(l:List TE):Prop:= ∀p,tK (AF (tI p)) l
theorem ae0:AE []:=λ_=>trivial
theorem DA{i g S l f}(hf: ∀p,tI p i=some (.fn (aL f)))(A:AE l)(q: ∀x,onO (hM g x) (λy=>lW (TG.of l) f y.1 y.2 (iQ g))=S x)(hs:FN g=true:=by rfl):AE (aE i g S::l):=λp=>⟨nh (hf p) (A p) hs q,A p⟩
end Go.Am
end
