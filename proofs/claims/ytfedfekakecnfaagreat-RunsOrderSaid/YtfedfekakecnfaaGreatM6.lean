/-
  Parts of a proof.
-/
import Derived.Test.YtfedfekakecnfaaGreatM3
import Derived.Test.YtfedfekakecnfaaGreatM4
import Derived.Test.YtfedfekakecnfaaGreatM5
set_option linter.unusedSimpArgs false
set_option linter.unusedVariables false
section
namespace Go.Am
set_option linter.unusedVariables false
set_option maxRecDepth 20000
set_option maxHeartbeats 1000000
section
variable {B S:Int}
def EF(e:J1):Prop:=1<=e.1/\e.1<=1099511627776/\1<=e.2.2.1/\e.2.2.1<=1073741824/\0<=e.2.2.2.1/\e.2.2.2.1<e.1/\0<=e.2.2.2.2.1/\e.2.2.2.2.1<e.1/\0<=e.2.2.2.2.2.1/\e.2.2.2.2.2.1<e.1/\e.2.2.2.2.2.2.2=[]/\kK e.2.2.2.2.2.2.1=some true/\((e.2.1=1/\e.2.2.2.2.2.1=0)\/(e.2.1=2/\0<e.2.2.2.1/\1<=e.2.2.2.2.2.1/\e.2.2.2.2.2.1<=e.2.2.2.1))
theorem fo{x:JE}(e:kM x=some true):0<=x.1/\x.1<x.2:=by
 have g:Par (kM x) λy=>y=true->0<=x.1/\x.1<x.2:=by unfold kM;exact .ge (λc=>.some λd=>⟨c,iG.1 d⟩) λ_=>.some nofun
 exact g _ e rfl
theorem EF.of{e:J1}(h:Jl e=some true)(hk:e.2.1=1\/e.2.1=2):EF e:=by
 have x:Par (pP e) λy=>y.2=true->y.1=e->1<=e.2.2.1/\e.2.2.1<=1073741824/\e.2.2.2.2.2.2.2=[]/\kK e.2.2.2.2.2.2.1=some true/\((e.2.1=1/\e.2.2.2.2.2.1=0)\/(e.2.1=2/\0<e.2.2.2.1/\1<=e.2.2.2.2.2.1/\e.2.2.2.2.2.1<=e.2.2.2.1)):=by
  unfold pP;refine .eq (λk=>.bind λH h2=>.eq (λg=>by omega) λ_=>.ite (λj=>.ge (λo=>.some λn J=>?_) λ_=>.some nofun) λ_=>.some nofun) λk=>.eq (λg=>.bind λH h2=>.eq (λ_=>.ite (λj=>.gt (λP=>.ge (λQ=>.le (λO=>.ge (λo=>.some λn J=>?_) λ_=>.some nofun) λ_=>.some nofun) λ_=>.some nofun) λ_=>.some nofun) λ_=>.some nofun) λc=>absurd g c) λg=>by omega
  grind [eG];grind [eG]
 have q:Par (Jl e) λy=>y=true->EF e:=by unfold Jl;refine .bind λa K=>.ite (λk=>.ite (λg=>.ge (λo=>.le (λn=>.bind λb1 v=>.ite (λF=>.bind λb2 r=>.ite (λj=>.bind λN w=>.some λC=>?_) λ_=>.some nofun) λ_=>.some nofun) λ_=>.some nofun) λ_=>.some nofun) λ_=>.some nofun) λ_=>.some nofun;subst F;subst j;subst C;obtain⟨L,M,a3,a4,I⟩:=x _ K k (J0X.1 g);obtain⟨G,D⟩:=fo v;obtain⟨z,B⟩:=fo r;obtain⟨A,E⟩:=fo w;exact⟨o,n,L,M,G,D,z,B,A,E,a3,a4,I⟩
 exact q _ h rfl
theorem sa{c:fL}(h:JR c=some true):Tot (JR c) λy=>y=true:=by have e:JR c=JR c:=rfl;exact⟨true,e.trans h,rfl⟩
theorem uy{c:aL}(h:kK c=some true):Tot (uP c) λy=>y=true:=by
 have j:Par (kK c) λy=>y=true->0<=c.1/\c.1<64/\0<=c.2.1/\c.2.1<16/\JR c.2.2.1=some true/\JR c.2.2.2=some true:=by unfold kK;refine .ge (λe=>.lt (λg=>.ge (λn=>.lt (λk=>.bind λa E=>.ite (λA=>.bind λb D=>.some λw=>?_) λ_=>.some nofun) λ_=>.some nofun) λ_=>.some nofun) λ_=>.some nofun) λ_=>.some nofun;simp_all
 obtain⟨e,g,n,k,o,r⟩:=j _ h rfl;unfold uP;have v:Tot (BY c.1) λy=>y=true:=by unfold BY;exact .ge (λ_=>.some (iG.2 g)) λc=>absurd e c
 refine .bind v λC d=>.ite (λ_=>.ge (λ_=>.lt (λ_=>.bind (sa o) λz x=>.ite (λ_=>.bind (sa r) λB q=>.some q) λc=>by simp_all) λc=>absurd k c) λc=>absurd n c) λc=>by simp_all
theorem JCp{e:J1}(h:EF e):Tot (rY e) λy=>y=true:=by
 obtain⟨M,N,a3,a4,C,B,w,v,D,k,g,q,F⟩:=h;have j: ∀{n:Int},0<=n->n<e.1->Tot (pM (n,e)) λy=>y=true:=fun{n} h1 h2=>by unfold pM;exact .ge (λ_=>.some (iG.2 h2)) λc=>absurd h1 c
 have J: ∀{b:Bool} {Q:Prop},b=true->Jr b=true->Q:=fun{b Q} h1 h2=>by subst h1;cases h2
 have L:neS e.2.2.2.2.2.2.2 []=false:=by rw[g];rfl
 have r:J0 e.2.2.2.2.2.2.2<=8192:=by rw[g];decide
 unfold rY;refine .ltf (λ_=>.gtf (λ_=>.ltf (λ_=>.gtf (λ_=>.bind (j C B) λK G=>.nof (λ_=>.bind (j w v) λI H=>.nof (λ_=>.bind (j D k) λA o=>.not (λc=>by simp_all) λ_=>?_) λc=>by simp_all) λc=>by simp_all) λc=>by omega) λc=>by omega) λc=>by omega) λc=>by omega
 refine .eq (λc=>by omega) λ_=>.eq (λc=>by omega) λ_=>.eq (λc=>by omega) λ_=>.eq (λc=>by omega) λ_=>.eq (λc=>by omega) λ_=>.eq (λc=>by omega) λ_=>.eq (λz=>?_) λz=>.eq (λx=>?_) λx=>by omega
 refine .ltf (λ_=>.gt (λc=>by omega) λ_=>.eq (λc=>by omega) λ_=>.ite (λc=>by simp_all) λ_=>.le (λ_=>?_) λc=>absurd r c) λc=>by omega
 have E:Tot (lI e) λy=>y=true:=by unfold lI;exact .ge (λ_=>.some (eG.2 (by omega))) λc=>by omega
 exact .bind E λy d=>.ite (λ_=>.bind (uy q) λA o=>.some o) λc=>by simp_all
 refine .ltf (λ_=>.gt (λc=>by omega) λ_=>.ne (λc=>by omega) λ_=>.ite (λc=>by simp_all) λ_=>.le (λ_=>?_) λc=>absurd r c) λc=>by omega
 grind [hX,uy]
def aR(e:J1):Int:=e.2.2.2.2.2.2.1.1
def oS(r:cD):Prop:=1<=r.1/\r.1<=r.2.1/\r.2.1<=1099511627776/\0<=r.2.2.1/\r.2.2.1<=r.2.2.2.1/\r.2.2.2.1<64/\0<=r.2.2.2.2.1/\r.2.2.2.2.1<=8
def KG(r:cD)(e:J1):Prop:=Jl e=some true/\(e.2.1=1\/e.2.1=2)/\r.1<=e.1/\e.1<=r.2.1/\r.2.2.1<=aR e/\aR e<=r.2.2.2.1
def kT(f:Int)(a b:J1):Prop:=(aR a<aR b/\b.2.2.2.2.1<f)\/(aR a=aR b/\a.1<b.1/\b.2.2.2.2.1=a.1)
def kQ(r:cD):Prop:=oS r/\J0 r.2.2.2.2.2<=4096/\(∀(j:Nat) (e:J1),r.2.2.2.2.2[j]?=some e->KG r e)/\(∀e,r.2.2.2.2.2[0]?=some e->e.2.2.2.2.1<r.1)/\ ∀(j:Nat) (a b:J1),r.2.2.2.2.2[j]?=some a->r.2.2.2.2.2[j+1]?=some b->kT r.1 a b
theorem oS.of{r:cD}(h:pS (r.1,r.2.1,r.2.2.1,r.2.2.2.1,r.2.2.2.2.1)=some true):oS r:=by
 have e:Par (pS (r.1,r.2.1,r.2.2.1,r.2.2.2.1,r.2.2.2.2.1)) λy=>y=true->oS r:=by unfold pS;exact .ge (λv=>.le (λg=>.le (λw=>.ge (λq=>.le (λn=>.lt (λo=>.ge (λj=>.some λk=>⟨v,g,w,q,n,o,j,eG.1 k⟩) λ_=>.some nofun) λ_=>.some nofun) λ_=>.some nofun) λ_=>.some nofun) λ_=>.some nofun) λ_=>.some nofun) λ_=>.some nofun
 exact e _ h rfl
theorem JCC{e:J1}(h:Jt e=some true):e.2.1=1\/e.2.1=2:=by
 grind [Jt,jI]
theorem vo{e:J1}(h:e.2.1=1\/e.2.1=2):Tot (Jt e) λy=>y=true:=by unfold Jt;exact .eqf (λc=>.some (jI.2 (by omega))) λ_=>.some rfl
theorem Te{e:J1}(h:e.2.1=1\/e.2.1=2):Tot (Jt e) λy=>y=true:=vo h
theorem tf{a b:J1}{y:Int}(h:xU (a,b)=some y)(c: ¬0<=y):aR a<aR b\/(aR a=aR b/\a.1<b.1):=by
 have e:Par (xU (a,b)) λy=> ¬0<=y->aR a<aR b\/(aR a=aR b/\a.1<b.1):=by unfold xU;exact .ltf (λ_=>.eq (λj=>.lt (λg=>.some λ_=>.inr ⟨j,g⟩) λ_=>.eq (λ_=>.eq (λ_=>.some λc=>absurd (aZ 0) c) λ_=>.some λc=>absurd (by decide) c) λ_=>.some λc=>absurd (by decide) c) λ_=>.eq (λ_=>.eq (λ_=>.some λc=>absurd (aZ 0) c) λ_=>.some λc=>absurd (by decide) c) λ_=>.some λc=>absurd (by decide) c) λc=>.some λ_=>.inl c
 exact e _ h c
theorem Lr{a b:J1}(h:aR a<aR b\/(aR a=aR b/\a.1<b.1)):Tot (xU (a,b)) λy=> ¬0<=y:=by unfold aR at h;unfold xU;exact .ltf (λc=>.eq (λe=>.lt (λg=>.some (by decide)) λj=>by simp_all) λe=>by simp_all) λc=>.some (by decide)
theorem kQ.of{r:cD}(h:pQ r=some true):kQ r:=by
 have F:Par (pQ r) λy=>y=true->kQ r:=by
  unfold pQ;refine .bind λa g=>.nof (λP=>.gt (λ_=>.some nofun) λQ=>?_) λ_=>.some nofun;subst P;refine .while (λz=>z.2=r/\0<=z.1/\(∀(j:Nat) (e:J1),(j:Int)<z.1->r.2.2.2.2.2[j]?=some e->KG r e)/\(∀e,0<z.1->r.2.2.2.2.2[0]?=some e->e.2.2.2.2.1<r.1)/\ ∀(j:Nat) (a b:J1),(j:Int)+1<z.1->r.2.2.2.2.2[j]?=some a->r.2.2.2.2.2[j+1]?=some b->kT r.1 a b) ⟨rfl,aZ _,λj e h=>by grind,λe h=>by simp_all,λj a b h=>by grind⟩ ?_;rintro⟨i,z⟩ ⟨rfl,R,h1,h2,L⟩
  (try dsimp only at R h1 h2 L Q)
  unfold WQ;dsimp only;have o1:=Jg i 1;have o2:=bD i 1;refine .lt (λc=>?_) λc=>.some λ_=>⟨oS.of g,by omega,λj e n=>h1 j e (by have:=jZ n;omega) n,λe n=>h2 e (by have:=jZ n;omega) n,λj a b E C=>L j a b (by have:=jZ C;omega) E C⟩;refine .bind λe n=>.bind λb I=>.nof (λT=>.bind λd hd=>.nof (λO=>.ltf (λc5=>.gtf (λc6=>.ltf (λc7=>.gt (λ_=>.some nofun) λZ=>?_) λ_=>.some nofun) λ_=>.some nofun) λ_=>.some nofun) λ_=>.some nofun) λ_=>.some nofun;subst T;subst O;obtain⟨_,W⟩:=cB n;have N:KG z e:=⟨I,JCC hd,by omega,by omega,by grind [aR],by grind [aR]⟩;have nx:(i=0->e.2.2.2.2.1<z.1)->(∀a,0<i->z.2.2.2.2.2[(i-1).toNat]?=some a->kT z.1 a e)->(z=z/\0<=J2 .i64 i 1/\(∀(j:Nat) (e:J1),(j:Int)<J2 .i64 i 1->z.2.2.2.2.2[j]?=some e->KG z e)/\(∀e,0<J2 .i64 i 1->z.2.2.2.2.2[0]?=some e->e.2.2.2.2.1<z.1)/\ ∀(j:Nat) (a b:J1),(j:Int)+1<J2 .i64 i 1->z.2.2.2.2.2[j]?=some a->z.2.2.2.2.2[j+1]?=some b->kT z.1 a b):=by
   intro n1 n2;refine⟨rfl,by omega,λj f U K=>?_,λf hp K=>?_,λj a b U g I=>?_⟩;by_cases S:(j:Int)<i;grind;have:j=i.toNat:=by omega
   grind;by_cases hi:0<i;grind;have H:i=0:=by omega
   subst H;grind;by_cases S:(j:Int)+1<i;grind;have e1:j+1=i.toNat:=by omega
   have e2:j=(i-1).toNat:=by omega
   grind
  have x: ∀{a:J1},0<i->idx z.2.2.2.2.2 (Jw .i64 i 1)=some a->z.2.2.2.2.2[(i-1).toNat]?=some a:=fun{a} hi g=>by obtain⟨_,q⟩:=cB g;rw[show(i-1).toNat=(Jw .i64 i 1).toNat by omega];exact q
  have zero: ¬0<i-> ¬z.1<=e.2.2.2.2.1->(z=z/\0<=J2 .i64 i 1/\(∀(j:Nat) (e:J1),(j:Int)<J2 .i64 i 1->z.2.2.2.2.2[j]?=some e->KG z e)/\(∀e,0<J2 .i64 i 1->z.2.2.2.2.2[0]?=some e->e.2.2.2.2.1<z.1)/\ ∀(j:Nat) (a b:J1),(j:Int)+1<J2 .i64 i 1->z.2.2.2.2.2[j]?=some a->z.2.2.2.2.2[j+1]?=some b->kT z.1 a b):=λhi K=>nx (λ_=>by omega) λa h=>absurd h hi;refine .gt (λw=>.bind λY B=>.bind λy8 G=>.ge (λ_=>.some nofun) λD=>.gt (λ_=>.bind λy9 k=>.eq (λA=>.bind λV o=>.ne (λ_=>.some nofun) λv=>.some ?_) λA=>.ge (λ_=>.some nofun) λv=>.some ?_) λc=>absurd w c) λw=>.gt (λc=>absurd c w) λ_=>.ge (λ_=>.some nofun) λv=>.some (zero w v);rw[B]at k o;injection k with k;injection o with o;subst k;subst o;refine nx (λh=>by omega) λa _ g=>?_;rw[x w B]at g;injection g with g;subst g;rcases tf G D with q|⟨J,M⟩;grind [aR];exact .inr ⟨A,M,v⟩;rw[B]at k;injection k with k;subst k;refine nx (λh=>by omega) λa _ g=>?_;rw[x w B]at g;injection g with g;subst g;rcases tf G D with q|⟨J,M⟩;exact .inl ⟨q,by omega⟩;exact absurd J A
 exact F _ h rfl
end
section
variable {B S:Int}
theorem kU{α:Type}{l:List α}{i:Int}(h0:0<=i)(h1:i<J0 l): ∃a,idx l i=some a/\l[i.toNat]?=some a:=by simp_all [J0,idx]
theorem vh{r:cD}(h:oS r):Tot (pS (r.1,r.2.1,r.2.2.1,r.2.2.2.1,r.2.2.2.2.1)) λy=>y=true:=by obtain⟨h1,h2,o,k,n,e,j,g⟩:=h;unfold pS;exact .ge (λ_=>.le (λ_=>.le (λ_=>.ge (λ_=>.le (λ_=>.lt (λ_=>.ge (λ_=>.some (eG.2 g)) λc=>absurd j c) λc=>absurd e c) λc=>absurd n c) λc=>absurd k c) λc=>absurd o c) λc=>absurd h2 c) λc=>absurd h1 c
theorem Pb{r:cD}(h:oS r):Tot (GW r) λy=>y=true:=by obtain⟨h1,h2,o,k,n,e,j,g⟩:=h;unfold GW;exact .ge (λ_=>.le (λ_=>.le (λ_=>.ge (λ_=>.le (λ_=>.lt (λ_=>.ge (λ_=>.some (eG.2 g)) λc=>absurd j c) λc=>absurd e c) λc=>absurd n c) λc=>absurd k c) λc=>absurd o c) λc=>absurd h2 c) λc=>absurd h1 c
theorem eL{α:Type}{o:Option α}{v:α}(h:o=some v):Tot o λy=>y=v:=⟨v,h,rfl⟩
theorem rj{r:cD}(h:kQ r){i:Int}(hi:0<i)(hl:i<J0 r.2.2.2.2.2){a b:J1}(ha:r.2.2.2.2.2[(i-1).toNat]?=some a)(hb:r.2.2.2.2.2[i.toNat]?=some b):kT r.1 a b:=
 h.2.2.2.2 (i-1).toNat a b ha (by rw[show(i-1).toNat+1=i.toNat by omega];exact hb)
theorem tr{r:cD}(h:kQ r):pQ r=some true:=by
 have n:Tot (pQ r) λy=>y=true:=by
  obtain⟨L,g2,J,Y,g5⟩:=id h;unfold pQ;refine .bind (vh L) λy2 Q=>.nof (λ_=>.gt (λc=>by omega) λ_=>?_) λc=>by grind
  refine Jk (τ:=Int) (λq=>(q,r)) (λq=>0<=q/\q<=J0 r.2.2.2.2.2) (λq=>J0 r.2.2.2.2.2-q) ?_ 0 rfl ⟨aZ _,Ja⟩;rintro i ⟨K,h1⟩;unfold WQ;dsimp only;have W:=Jg i 1;have U:=bD i 1;refine .lt (λc=>?_) λc=>.some rfl;obtain⟨e,N,j⟩:=kU K c;obtain⟨E,B,P,R,z,C⟩:=J _ e j;have nx: ∃c':Int,((J2 .i64 i 1,r):Int×cD)=(c',r)/\(0<=c'/\c'<=J0 r.2.2.2.2.2)/\J0 r.2.2.2.2.2-c'<J0 r.2.2.2.2.2-i/\0<=J0 r.2.2.2.2.2-i:=⟨J2 .i64 i 1,rfl,⟨by omega,by omega⟩,by omega,by omega⟩;unfold aR at z C;refine .bind (eL N) λG I=>?_;subst I;refine .bind (eL E) λV d5=>.nof (λ_=>.bind (vo B) λZ T=>.nof (λ_=>.ltf (λ_=>.gtf (λ_=>.ltf (λ_=>.gt (λc=>by omega) λ_=>?_) λc=>by omega) λc=>by omega) λc=>by omega) λc=>by grind) λc=>by grind
  refine .gt (λg=>?_) λg=>.gt (λc=>absurd c g) λ_=>.ge (λc=>?_) λ_=>.some nx
  ·have M:Jw .i64 i 1=i-1:=by omega
   rw[M];obtain⟨a,k,v⟩:=kU (l:=r.2.2.2.2.2) (i:=i-1) (by omega) (by omega);have w:=rj h g c v j;refine .bind (eL k) λA D=>?_;subst D;refine .bind (Lr (a:=A) (b:=G) (by rcases w with⟨q,_⟩|⟨q1,q2,_⟩;all_goals grind)) λS H=>.ge (λc=>absurd c H) λ_=>.gt (λ_=>.bind (eL k) λy9 F=>?_) λc=>absurd g c;subst F;unfold kT aR at w;refine .eq (λo=>.bind (eL k) λO x=>?_) λo=>.ge (λc=>by omega) λ_=>.some nx;subst x;exact .ne (λc=>by omega) λ_=>.some nx
  grind
 obtain⟨y,e,d⟩:=n;rw[e,d]
theorem Mt{a b:J1}(h:aR a=aR b/\a.1<b.1):Tot (GO (a,b)) λy=> ¬0<=y:=by
 obtain⟨h1,h2⟩:=h;unfold aR at h1;have g:sI (a.2.2.2.2.2.2.1.1,b.2.2.2.2.2.2.1.1)=some 0:=(by grind [sI,GV,aK,aO]);have e:sI (a.1,b.1)=some (-1):=(by grind [sI,GV,aN,aK]);unfold GO;dsimp only;rw[g,e];show Tot ((BK [0, -1]).bind _) _;have j:BK [0, -1]=some (-1):=by unfold BK;rw[hV (s':=(0,[0, -1],J0 ([0, -1]:List Int),1)) (by rfl)];exact fA (by rfl)
 rw[j];exact .some (by decide)
theorem WR{r:cD}(h:kQ r):iL r=some true:=by
 have v:Tot (iL r) λy=>y=true:=by
  obtain⟨N,g2,K,Y,g5⟩:=id h;unfold iL;refine .bind (Pb N) λy2 S=>.nof (λ_=>.gt (λc=>by omega) λ_=>?_) λc=>by grind
  refine Jk (τ:=Int) (λq=>(r.2.2.2.2.2,J0 r.2.2.2.2.2,q,r)) (λq=>0<=q/\q<=J0 r.2.2.2.2.2) (λq=>J0 r.2.2.2.2.2-q) ?_ 0 rfl ⟨aZ _,Ja⟩;rintro i ⟨L,h1⟩;unfold i5;dsimp only;have W:=Jg i 1;have U:=bD i 1;refine .lt (λc=>?_) λc=>.some rfl;obtain⟨e,P,g⟩:=kU L c;obtain⟨D,n,z,A,k,o⟩:=K _ e g;have nx: ∃c':Int,((r.2.2.2.2.2,J0 r.2.2.2.2.2,J2 .i64 i 1,r):UQ)=(r.2.2.2.2.2,J0 r.2.2.2.2.2,c',r)/\(0<=c'/\c'<=J0 r.2.2.2.2.2)/\J0 r.2.2.2.2.2-c'<J0 r.2.2.2.2.2-i/\0<=J0 r.2.2.2.2.2-i:=⟨J2 .i64 i 1,rfl,⟨by omega,by omega⟩,by omega,by omega⟩;unfold aR at k o;have M:Tot (GS (r,e)) λy=>y=true:=by unfold GS;exact .bind (Te n) λy d=>.ite (λ_=>.ge (λ_=>.le (λ_=>.ge (λ_=>.some (eG.2 A)) λc=>absurd z c) λc=>absurd o c) λc=>absurd k c) λc=>by grind
  refine .bind (eL P) λG J=>?_;subst J;refine .bind (JCp (EF.of D n)) λV d5=>.nof (λ_=>.bind M λZ T=>.not (λc=>by grind) λ_=>?_) λc=>by grind
  refine .eqf (λE=>?_) λE=>.ge (λc=>?_) λ_=>.some nx;have hi:0<i:=by omega
  have O:Jw .i64 i 1=i-1:=by omega
  rw[O];obtain⟨a,x,w⟩:=kU (l:=r.2.2.2.2.2) (i:=i-1) (by omega) (by omega);have j:=rj h hi c w g;refine .bind (eL x) λR B=>?_;subst B;refine .lt (λI=>.ge (λc=>?_) λ_=>.some nx) λI=>.bind (eL x) λC H=>?_;unfold kT aR at j;omega;subst H;have Q:=j;unfold kT aR at j;refine .bind (Mt (a:=C) (b:=G) (by unfold aR;omega)) λy9 F=>.gef (λ_=>.ne (λc=>by omega) λ_=>.some nx) λc=>absurd c F;grind
 obtain⟨y,e,d⟩:=v;rw[e,d]
end
section
variable {B S:Int}
def ent(r:cD):List J1:=r.2.2.2.2.2
theorem FA{α:Type}{bytes:Nat}{l m:List α}(h:J0 l+J0 m<=34359738368)(hb:bytes<=2048):JH bytes l m=some (l++m):=by
 grind [JH,de,J0]
def sR(id:Int)(e:J1):Bool:=aJ (aR e) id
theorem JEm(l:List J1)(hl:J0 l<=4096):NT (l,l)=some true:=by
 have g:Tot (NT (l,l)) λy=>y=true:=(by unfold NT;refine .ne (λc=>absurd rfl c) λ_=>Jk (τ:=Int) (λq=>(l,l,q)) (λq=>0<=q/\q<=J0 l) (λq=>J0 l-q) ?_ 0 rfl ⟨aZ _,Ja⟩;rintro i ⟨j,h1⟩;unfold Bc;dsimp only;have v:=Jg i 1;refine .lt (λc=>?_) λ_=>.some rfl;obtain⟨e,h,_⟩:=kU j c;refine .bind (eL h) λo n=>.bind (eL h) λr k=>.not (λc=>?_) λ_=>.some ⟨J2 .i64 i 1,rfl,⟨by omega,by omega⟩,by omega,by omega⟩;grind [J0X]);obtain⟨y,e,d⟩:=g;rw[e,d]
end
section
variable {B S:Int}
theorem JIu{l:List Int}{y:Jf}(e:uH (l,400)=some y):y.2=0/\J0 y.1<=400:=by
 have g:Par (uH (l,400)) λy=>y.2=0/\J0 y.1<=400:=by unfold uH;dsimp only;refine .gt (λc=>.bind λa h=>.some ⟨rfl,?_⟩) λc=>.some ⟨rfl,by simp_all⟩;obtain⟨r,j,_,h2⟩:=HV (l:=l) (k:=400) (by decide) (by omega);simp_all
 exact g _ e
end
section
variable {B S:Int}
theorem ej(x:Int×J1):Tot (pM x) λy=>y=true->0<=x.1/\x.1<x.2.1:=by unfold pM;exact .ge (λc=>.some λd=>⟨c,iG.1 d⟩) λ_=>.some nofun
theorem Gk(c:fL):Tot (JR c) λy=>JR c=some y:=by
 have g:Tot (JR c) λ_=>True:=by unfold JR;exact .ite (λ_=>.itf (λ_=>.some trivial) λ_=>.some trivial) λ_=>.some trivial
 obtain⟨y,e,_⟩:=g;exact⟨y,e,e⟩
theorem JG3(n:Int):Tot (BY n) λy=>y=true->0<=n/\n<64:=by unfold BY;exact .ge (λc=>.some λd=>⟨c,iG.1 d⟩) λ_=>.some nofun
theorem ri(c:aL):Tot (uP c) λy=>y=true->kK c=some true:=by
 unfold uP;refine .bind (JG3 c.1) λk h2=>.ite (λe=>.ge (λr=>.lt (λn=>.bind (Gk c.2.2.1) λj v=>.ite (λh=>.bind (Gk c.2.2.2) λo q=>.some λg=>?_) λ_=>.some nofun) λ_=>.some nofun) λ_=>.some nofun) λ_=>.some nofun;grind [kK,wP,iG]
theorem JJ4(c:aL):Tot (xT c) λ_=>True:=⟨_,rfl,trivial⟩
theorem Do(e:J1):Tot (hX e) λ_=>True:=⟨_,rfl,trivial⟩
theorem JMU(e:J1):Tot (lI e) λy=>y=true->1<=e.2.2.2.2.2.1/\e.2.2.2.2.2.1<=e.2.2.2.1:=by unfold lI;exact .ge (λc=>.some λd=>⟨c,eG.1 d⟩) λ_=>.some nofun
theorem JMu(c:aL):Tot (CJ c) λ_=>True:=by unfold CJ;exact .ite (λ_=>.ite (λ_=>.some trivial) λ_=>.some trivial) λ_=>.some trivial
theorem Gf{l:List UInt8}(h:neS l []=false):l=[]:=by
 grind [neS]
theorem JJN(e:J1):Tot (rY e) λy=>y=true->(e.2.1=1\/e.2.1=2)->EF e:=by
 have g: ∀{o:Option Bool},(3<=e.2.1\/e.2.1<=0)->Tot o (λ_=>True)->Tot o λy=>y=true->(e.2.1=1\/e.2.1=2)->EF e:=λh ht=>ht.mono λ_ _ _ M=>by omega
 unfold rY;refine .ltf (λN=>.gtf (λO=>.ltf (λa3=>.gtf (λa4=>.bind (ej _) λL h2=>.nof (λA=>.bind (ej _) λJ H=>.nof (λB=>.bind (ej _) λK E=>.not (λ_=>.some nofun) λD=>?_) λ_=>.some nofun) λ_=>.some nofun) λ_=>.some nofun) λ_=>.some nofun) λ_=>.some nofun) λ_=>.some nofun;have b2:=h2 A;have j:=H B;have k:=E D;refine .eq (λc=>g (by omega) ?_) λ_=>.eq (λc=>g (by omega) ?_) λ_=>.eq (λc=>g (by omega) ?_) λ_=>.eq (λc=>g (by omega) ?_) λ_=>.eq (λc=>g (by omega) ?_) λ_=>.eq (λc=>g (by omega) ?_) λ_=>.eq (λx=>?_) λx=>.eq (λw=>?_) λw=>by omega
 case refine_7=>refine .ltf (λG=>.gt (λ_=>.some nofun) λC=>.eq (λ_=>.some nofun) λv=>.ite (λ_=>.some nofun) λn=>.le (λ_=>.bind (JMU e) λy h=>.ite (λd=>.bind (ri _) λz r=>.some λq _=>?_) λ_=>.some nofun) λ_=>.some nofun) λ_=>.some nofun;obtain⟨F,I⟩:=h d;exact⟨by omega,by omega,by omega,by omega,b2.1,b2.2,j.1,j.2,k.1,k.2,Gf n,r q,.inr ⟨x,by have:=b2.1;(try dsimp only at this);omega,F,I⟩⟩
 case refine_8=>refine .ltf (λG=>.gt (λ_=>.some nofun) λC=>.ne (λ_=>.some nofun) λv=>.ite (λ_=>.some nofun) λn=>.le (λ_=>.bind (Do e) λy h=>.ite (λd=>.bind (ri _) λz r=>.some λq _=>?_) λ_=>.some nofun) λ_=>.some nofun) λ_=>.some nofun;exact⟨by omega,by omega,by omega,by omega,b2.1,b2.2,j.1,j.2,k.1,k.2,Gf n,r q,.inl ⟨w,v⟩⟩
 all_goals repeat' first
  |exact .some trivial
  |refine .ite (λ_=>?_) λ_=>?_
  |refine .itf (λ_=>?_) λ_=>?_
  |refine .bind (Do _) λ_ _=>?_
  |refine .bind (JJ4 _) λ_ _=>?_
  |refine .bind (JMu _) λ_ _=>?_
end
section
variable {B S:Int}
def qA(x y:Int):Int:=if x<y then -1 else if y<x then 1 else 0
def cmpE(a b:J1):Int:=if qA (aR a) (aR b)=0 then qA a.1 b.1 else qA (aR a) (aR b)
theorem JGl(x:Int):aN x x=false:=by simp[aN]
theorem Dn(x y:Int):sI (x,y)=some (qA x y):=by
 grind [sI,GV,qA,JGl,aK,aO]
theorem JMR(p q:Int):BK [p,q]=some (if p=0 then q else p):=by
 unfold BK;have h: ∀p q:Int,WK (0,[p,q],J0 [p,q],0)=if aN p 0=true then some (.inr p)else some (.inl (0,[p,q],J0 [p,q],1)):=λp q=>rfl
 have e: ∀p q:Int,WK (0,[p,q],J0 [p,q],1)=if aN q 0=true then some (.inr q)else some (.inl (0,[p,q],J0 [p,q],2)):=λp q=>rfl
 have k: ∀p q:Int,WK (0,[p,q],J0 [p,q],2)=some (.inr 0):=λp q=>rfl;by_cases g:p=0;subst g;rw[if_pos rfl,hV ((h 0 q).trans (if_neg (by decide)))];by_cases j:q=0;subst j;rw[hV ((e 0 0).trans (if_neg (by decide)))];grind [fA];grind [fA,wX];grind [fA,wX]
theorem JJt(a b:J1):GO (a,b)=some (cmpE a b):=by
 grind [GO,cmpE,aR,Dn,JMR]
def ltE(a b:J1):Prop:=aR a<aR b\/(aR a=aR b/\a.1<b.1)
theorem d4{a b:J1}:cmpE a b<0↔ltE a b:=by
 grind [cmpE,qA,ltE]
theorem ew{a b:J1}:cmpE a b=0↔aR a=aR b/\a.1=b.1:=by
 grind [cmpE,qA]
theorem JM2(r:cD):Tot (GW r) λy=>y=true->oS r:=by unfold GW;exact .ge (λo=>.le (λe=>.le (λq=>.ge (λn=>.le (λj=>.lt (λk=>.ge (λg=>.some λh=>⟨o,e,q,n,j,k,g,eG.1 h⟩) λ_=>.some nofun) λ_=>.some nofun) λ_=>.some nofun) λ_=>.some nofun) λ_=>.some nofun) λ_=>.some nofun) λ_=>.some nofun
theorem JL5(e:J1):Tot (Jt e) λy=>y=true->e.2.1=1\/e.2.1=2:=by unfold Jt;exact .eqf (λ_=>.some λd=>.inr (jI.1 d)) λc=>.some λ_=>.inl c
theorem JLK(r:cD)(e:J1):Tot (GS (r,e)) λy=>y=true->(e.2.1=1\/e.2.1=2)/\r.1<=e.1/\e.1<=r.2.1/\r.2.2.1<=aR e/\aR e<=r.2.2.2.1:=by unfold GS;exact .bind (JL5 e) λy h=>.ite (λd=>.ge (λk=>.le (λg=>.ge (λn=>.some λj=>⟨h d,n,eG.1 j,k,g⟩) λ_=>.some nofun) λ_=>.some nofun) λ_=>.some nofun) λ_=>.some nofun
theorem JHO{t:Ty}(x:t.D):eqT t x x=true:=J0X.2 rfl
theorem JFA{e:J1}(h:EF e)(hk:e.2.1=1\/e.2.1=2):Jl e=some true:=by
 obtain⟨G,H,a3,a4,D,z,x,w,E,o,J,g,v⟩:=h;have j: ∀{n:Int},0<=n->n<e.1->kM (n,e.1)=some true:=fun{n} h1 h2=>by
  grind [kM,wP,iG]
 have sh:Tot (pP e) λy=>y=(e,true):=(by unfold pP;rcases v with⟨k,q⟩|⟨k,B,I,C⟩;refine .eq (λ_=>.bind (eL g) λy d=>.eq (λc=>by omega) λ_=>.ite (λ_=>.ge (λ_=>.some ?_) λc=>absurd a3 c) λc=>by simp_all) λc=>absurd k c;grind [eG];refine .eq (λc=>by omega) λ_=>.eq (λ_=>.bind (eL g) λy d=>.eq (λ_=>.ite (λ_=>.gt (λ_=>.ge (λ_=>.le (λ_=>.ge (λ_=>.some ?_) λc=>absurd a3 c) λc=>absurd C c) λc=>absurd I c) λc=>absurd B c) λc=>by simp_all) λc=>absurd k c) λc=>absurd k c;grind [eG]);have r:Tot (Jl e) λy=>y=true:=by unfold Jl;refine .bind sh λy d=>?_;subst d;exact .ite (λ_=>.ite (λ_=>.ge (λ_=>.le (λ_=>.bind (eL (j D z)) λO K=>.ite (λ_=>.bind (eL (j x w)) λM L=>.ite (λ_=>.bind (eL (j E o)) λN A=>.some A) λc=>by simp_all) λc=>by simp_all) λc=>absurd H c) λc=>absurd G c) λc=>by grind [JHO]) λc=>by cases c
 obtain⟨y,F,d⟩:=r;rw[F,d]
theorem JMf(r:cD):Tot (iL r) λy=>y=true->kQ r:=by
 unfold iL;refine .bind (JM2 r) λy1 z=>.nof (λL=>.gt (λ_=>.some nofun) λc2=>?_) λ_=>.some nofun;have z:=z L;have K:=Ja (l:=r.2.2.2.2.2);refine Jk (τ:=Int) (λq=>(r.2.2.2.2.2,J0 r.2.2.2.2.2,q,r)) (λi=>0<=i/\i<=J0 r.2.2.2.2.2/\(∀(j:Nat) (e:J1),(j:Int)<i->r.2.2.2.2.2[j]?=some e->EF e/\(e.2.1=1\/e.2.1=2)/\r.1<=e.1/\e.1<=r.2.1/\r.2.2.1<=aR e/\aR e<=r.2.2.2.1)/\(∀e,0<i->r.2.2.2.2.2[0]?=some e->e.2.2.2.2.1<r.1)/\ ∀(j:Nat) (a b:J1),(j:Int)+1<i->r.2.2.2.2.2[j]?=some a->r.2.2.2.2.2[j+1]?=some b->kT r.1 a b) (λq=>J0 r.2.2.2.2.2-q) ?_ 0 rfl ⟨aZ _,K,λj e h=>by omega,λe h=>by omega,λj a b h=>by omega⟩;rintro i ⟨R,hn,h1,h2,Y⟩;unfold i5;dsimp only;have o1:=Jg i 1;have o2:=bD i 1;refine .lt (λc=>?_) λc=>.some λ_=>⟨z,by omega,λj e k=>?_,λe k=>h2 e (by have:=jZ k;omega) k,λj a b D o=>Y j a b (by have:=jZ o;omega) D o⟩;obtain⟨e,k,a0⟩:=kU R c;refine .bind (eL k) λg P=>?_;subst P;refine .bind (JJN g) λy5 T=>.nof (λW=>.bind (JLK r g) λy6 O=>.not (λ_=>.some nofun) λM=>?_) λ_=>.some nofun;have G:=O M;have I:EF g/\(g.2.1=1\/g.2.1=2)/\r.1<=g.1/\g.1<=r.2.1/\r.2.2.1<=aR g/\aR g<=r.2.2.2.1:=⟨T W G.1,G⟩;have nx:(i=0->g.2.2.2.2.1<r.1)->(∀a,0<i->r.2.2.2.2.2[(i-1).toNat]?=some a->kT r.1 a g)-> ∃c':Int,((r.2.2.2.2.2,J0 r.2.2.2.2.2,J2 .i64 i 1,r):UQ)=(r.2.2.2.2.2,J0 r.2.2.2.2.2,c',r)/\(0<=c'/\c'<=J0 r.2.2.2.2.2/\(∀(j:Nat) (e:J1),(j:Int)<c'->r.2.2.2.2.2[j]?=some e->EF e/\(e.2.1=1\/e.2.1=2)/\r.1<=e.1/\e.1<=r.2.1/\r.2.2.1<=aR e/\aR e<=r.2.2.2.1)/\(∀e,0<c'->r.2.2.2.2.2[0]?=some e->e.2.2.2.2.1<r.1)/\ ∀(j:Nat) (a b:J1),(j:Int)+1<c'->r.2.2.2.2.2[j]?=some a->r.2.2.2.2.2[j+1]?=some b->kT r.1 a b)/\J0 r.2.2.2.2.2-c'<J0 r.2.2.2.2.2-i/\0<=J0 r.2.2.2.2.2-i:=by
  intro n1 n2;refine⟨J2 .i64 i 1,rfl,⟨by omega,by omega,λj f Z U=>?_,λf hp U=>?_,λj a b Z A S=>?_⟩,by omega,by omega⟩;by_cases V:(j:Int)<i;grind;have:j=i.toNat:=by omega
  grind;by_cases hi:0<i;grind;have F:i=0:=by omega
  subst F;grind;by_cases V:(j:Int)+1<i;grind;have H:j+1=i.toNat:=by omega
  have e2:j=(i-1).toNat:=by omega
  grind
 refine .eqf (λv=>?_) λv=>.ge (λ_=>.some nofun) λc5=>.some (nx (λ_=>by omega) λa h=>by omega);have H:Jw .i64 i 1=i-1:=by omega
 rw[H];obtain⟨a,A,a1⟩:=kU (l:=r.2.2.2.2.2) (i:=i-1) (by omega) (by omega);have B:kT r.1 a g->(∀b,0<i->r.2.2.2.2.2[(i-1).toNat]?=some b->kT r.1 b g):=λh b _ S=>by
  grind
 refine .bind (eL A) λy7 J=>?_;subst J;refine .lt (λw=>.ge (λ_=>.some nofun) λc6=>.some (nx (λh=>absurd h v) (B (.inl ⟨w,by omega⟩)))) λw=>.bind (eL A) λC N=>?_;subst N;refine .bind (eL (JJt C g)) λy9 Q=>.gef (λc9=>.ne (λ_=>.some nofun) λE=>.some (nx (λh=>absurd h v) (B ?_))) λ_=>.some nofun;subst Q;rcases(d4 (a:=C) (b:=g)).1 (by omega)with q|⟨x,n⟩;exact absurd q w;exact .inr ⟨x,n,E⟩;obtain⟨x,n⟩:=h1 j e (by grind [jZ]) k;exact⟨JFA x n.1,n⟩
end
section
variable {B S:Int}
theorem ltE.trans{a b c:J1}(h1:ltE a b)(h2:ltE b c):ltE a c:=by
 grind [ltE]
def lN:List J1->J1->List J1|[],e=>[e]|x::l,e=>if cmpE x e<0 then x::lN l e else if cmpE x e=0 then x::l else e::x::l
end
section
variable {B S:Int}
def IL(r:cD):Prop:=aB 16384 9223372036854775807 fW r
theorem vv{r:cD}(h:IL r): ∃v,iL r=some v/\pQ r=some v/\(v=true->kQ r):=by
 obtain⟨y,e,h1⟩:=JMf r;obtain⟨z,g,_⟩:=Tc (B:=16384) (S:=9223372036854775807) h;refine⟨y,e,?_,h1⟩;cases y with
 |true=>grind [tr]
 |false=>cases z<;>simp_all [WR,kQ.of]
theorem JKO{l:List J1}(h:J0 l<=16384):cN 128 l=some l:=by
 grind [cN,qH,J0]
end
end Go.Am
end
section
namespace Go.Am
set_option linter.unusedVariables false
set_option maxRecDepth 20000
set_option maxHeartbeats 1000000
section
variable {B S:Int}
def bS(l:List J1)(p:Int):Int:=l.foldl (λa e=>if(e.2.1=1\/e.2.1=2)/\aR e=p then e.1 else a) 0
theorem AG(l:List J1)(e:J1)(p:Int):bS (l++[e]) p=if(e.2.1=1\/e.2.1=2)/\aR e=p then e.1 else bS l p:=by simp[bS]
theorem AQ{l:List J1}{e:J1}{p:Int}(h: ¬((e.2.1=1\/e.2.1=2)/\aR e=p)):bS (l++[e]) p=bS l p:=by
 grind [AG]
structure Rel(l:List J1)(n:Int)(fr:List aG)(lk rows:List aA):Prop where
 rng: ∀f∈fr,0<=f.1.1/\f.1.1<n
 one:fr.Pairwise λa b=>a.1.1≠b.1.1
 apt: ∀f∈fr,∀d∈lk,d.1≠f.1.1
 hot: ∀f∈fr,f.1.2.1=bS l f.1.1/\(f.2.1=false-> ∀r,idx rows f.1.1=some r->r.1=bS l f.1.1)
 lak: ∀d∈lk,d.2.2=bS l d.1
 row: ∀p r,idx rows p=some r->r.1<=bS l p/\((∀f∈fr,f.1.1≠p)->(∀d∈lk,d.1≠p)->r.1=bS l p)
def VM(m:List J1)(s:List UInt8):Prop:= ∀c,uS s=some (c,0)->Rel m c.1 [] c.2.2.2.1 c.2.2.2.2
def OB(m:List J1)(e:J1):Prop:=e.1=J0 m+1/\Jl e=some true/\((e.2.1=1\/e.2.1=2)->e.2.2.2.2.1=bS m (aR e))/\(e.2.1=7->e.2.2.2.2.2.1<=bS m (aR e))/\(e.2.1=6->VM m e.2.2.2.2.2.2.2)
def cX(l:List J1):Prop:= ∀(i:Nat) e,l[i]?=some e->OB (l.take i) e
def gO(l:JJ):Prop:=l.1=1/\0<=l.2.2/\l.2.2<=J0 l.2.1/\J0 l.2.1<=4096
def JD(k:J4):Prop:=gO k.2.2.1/\cX k.2.2.1.2.1/\Rel k.2.2.1.2.1 k.1 k.2.2.2.1.2.1 k.2.2.2.2.2.2.2 k.2.2.2.2.2.2.1
theorem cX.app{l:List J1}{e:J1}(h:cX l)(he:OB l e):cX (l++[e]):=by
 intro i x g;by_cases hi:i<l.length;rw[vQ hi]at g;rw[List.take_append_of_le_length (Nat.le_of_lt hi)];exact h i x g;grind
theorem cX.take{l:List J1}(h:cX l)(n:Nat):cX (l.take n):=by
 intro i x e;rw[TT]at e;split at e;rename_i hi;rw[List.take_take,Nat.min_eq_left (Nat.le_of_lt hi)];exact h i x e;cases e
theorem so{l:List J1}(h:cX l)(p:Int):0<=bS l p/\bS l p<=J0 l:=by
 have g: ∀n:Nat,0<=bS (l.take n) p/\bS (l.take n) p<=J0 l:=by
  intro n
  induction n with
  |zero=>exact⟨aZ _,Ja⟩
  |succ n ih=>
   rw[List.take_add_one];cases hn:l[n]? with
   |none=>simpa using ih
   |some e=>
    have k:=jZ hn;have j:=(h n e hn).1;grind [J0,AG]
 have:=g l.length;simp_all
theorem Rel.ent{l:List J1}{n:Int}{fr:List aG}{lk rows:List aA}(h:Rel l n fr lk rows){e:J1}(he: ¬(e.2.1=1\/e.2.1=2)):Rel (l++[e]) n fr lk rows:=by have k: ∀p,bS (l++[e]) p=bS l p:=λp=>AQ λh=>he h.1;exact⟨h.rng,h.one,h.apt,by simpa only[k]using h.hot,by simpa only[k]using h.lak,by simpa only[k]using h.row⟩
def upw{α:Type}(P:α->Prop)(l:List α)(i:Int):Prop:=i<=9223372036854775807/\(0<=i->DB P l i)
theorem EQ{α:Type}{P:α->Prop}{l:List α}:upw P l 0:=⟨by decide,λ_=>Ed⟩
theorem zZ{α:Type}{P:α->Prop}{l:List α}{i:Int}{x:α}(h:upw P l i)(e:idx l i=some x)(hx:P x):upw P l (J2 .i64 i 1):=by have o:=Jg i 1;obtain⟨g,_⟩:=cB e;have h1:=h.1;refine⟨by omega,λh2=>qy (h.2 g) e hx (by omega)⟩
theorem FK{α:Type}{P:α->Prop}{l:List α}{i:Int}(h:upw P l i)(hi: ¬i<J0 l): ∀x∈l,P x:=qe (h.2 (by have:=Ja (l:=l);omega)) hi
theorem nN{α:Type}{l:List α}{i:Int}{x:α}(e:idx l i=some x):x∈l:=zQ5 (cB e).2
theorem pu{α:Type}{l r:List α}{k:Int}(h:bH l (some k) none=some r):0<=k/\r=l.drop k.toNat:=by
 have g:0<=k:=by grind [bH,pZ,sY]
 have h1:k<=J0 l:=by grind [bH,pZ,sY,J0]
 obtain⟨r',e,d,_⟩:=LK g h1;simp_all
theorem Ef{α:Type}{l r:List α}{k:Int}(h:bH l none (some k)=some r):0<=k/\k<=J0 l/\r=l.take k.toNat:=by
 grind [bH,pZ,sY,J0]
theorem LA{α:Type}{b:Nat}{l r:List α}(h:cN b l=some r):r=l:=by grind [cN]
theorem gF{α:Type}{b:Nat}{l m r:List α}(h:JH b l m=some r):r=l++m:=by grind [JH]
theorem er{l:JJ}{y:Bool}(e:dJ l=some y)(c:y=true):1<=l.1/\l.1<=1099511627776/\J0 l.2.1<=4096:=by
 have g:Par (dJ l) λy=>y=true->1<=l.1/\l.1<=1099511627776/\J0 l.2.1<=4096:=by unfold dJ;exact .ltf (λj=>.gtf (λh=>.gtf (λk=>.ltf (λ_=>.bind λ_ _=>.ite (λ_=>.some nofun) λ_=>λ_ _ _=>⟨by omega,by omega,by omega⟩) λ_=>.some nofun) λ_=>.some nofun) λ_=>.some nofun) λ_=>.some nofun
 exact g _ e c
theorem LH{l:JJ}{n:Int}(h:lB l=some n)(h1:1<=l.1)(h2:l.1<=1099511627776)(h3:J0 l.2.1<=4096):n=l.1+J0 l.2.1-1:=by
 grind [lB,Jg,J0,bD]
theorem JGm{l:JJ}{e:J1}{y:yV}(h:fY (l,e)=some y)(c:y.2.2=0)(hl:l.1=1):y.1=(l.1,l.2.1++[(J0 l.2.1+1,e.2)],l.2.2)/\y.2.1=J0 l.2.1+1/\Jl (J0 l.2.1+1,e.2)=some true/\J0 l.2.1+1<=4096:=by
 have g:Par (fY (l,e)) λy=>y.2.2=0->y.1=(l.1,l.2.1++[(J0 l.2.1+1,e.2)],l.2.2)/\y.2.1=J0 l.2.1+1/\Jl (J0 l.2.1+1,e.2)=some true/\J0 l.2.1+1<=4096:=(by unfold fY;dsimp only;refine .bind λA h2=>.not (λ_=>.some nofun) λj=>.eqf (λo=>.bind λq F=>.eq (λ_=>.some nofun) λ_=>.bind λx B=>.bind λv C=>.not (λ_=>.some nofun) λk=>.bind λw z=>.bind λn r=>.some λ_=>?_) λ_=>.some nofun;subst k;obtain⟨D,E,v3⟩:=er h2 j;grind [LH,Jg,J0,gF,LA]);exact g _ h c
theorem RQ{l:JJ}{n:Int}{y:jC}(h:iM (l,n)=some y)(c:y.2=0):y.1.2.1=l.2.1/\(gO l->gO y.1):=by
 have e:Par (iM (l,n)) λy=>y.2=0->y.1.2.1=l.2.1/\(gO l->gO y.1):=(by unfold iM;refine .bind λ_ h2=>.not (λ_=>.some nofun) λg=>.bind λm o=>.gt (λ_=>.some nofun) λq=>.some λ_=>⟨rfl,λhi=>⟨hi.1,?_⟩⟩;obtain⟨j,k,v3⟩:=er h2 g;have:=LH o j k v3;obtain⟨i1,i2,i3,i4⟩:=hi;have:=rB l.2.2 n;grind);exact e _ h c
abbrev eZ:J1:=(0,0,0,0,0,0,(0,0,(false,[]),false,[]),[])
theorem JMN:Jl eZ=some false:=rfl
theorem JIR{l:JJ}{n:Int}{y:zF}(h:dZ (l,n)=some y):(y.2=0/\idx l.2.1 (Jw .i64 n l.1)=some y.1)\/(y.2≠0/\y.1=eZ):=by
 have e:Par (dZ (l,n)) λy=>(y.2=0/\idx l.2.1 (Jw .i64 n l.1)=some y.1)\/(y.2≠0/\y.1=eZ):=by unfold dZ;exact .bind λ_ _=>.not (λ_=>.some (.inr ⟨by decide,rfl⟩)) λ_=>.ltf (λ_=>.bind λ_ _=>.gt (λ_=>.some (.inr ⟨by decide,rfl⟩)) λ_=>.bind λ_ h=>.some (.inl ⟨rfl,h⟩)) λ_=>.some (.inr ⟨by decide,rfl⟩)
 exact e _ h
theorem xB{p:JG}{id y:Int}(h:hW (p,id)=some y):y<=9223372036854775807/\(0<=y-> ∃f,idx p.2.1 y=some f/\f.1.1=id)/\(y<0-> ∀f∈p.2.1,f.1.1≠id):=by
 have k:Par (hW (p,id)) λy=>y<=9223372036854775807/\(0<=y-> ∃f,idx p.2.1 y=some f/\f.1.1=id)/\(y<0-> ∀f∈p.2.1,f.1.1≠id):=(by unfold hW;refine .while (λz=>z.1=id/\z.2.2=p/\upw (λf:aG=>f.1.1≠id) p.2.1 z.2.1) ⟨rfl,rfl,EQ⟩ ?_;rintro⟨a,i,q⟩ ⟨rfl,rfl,j⟩;unfold XC;refine .lt (λc=>.bind λf g=>.eq (λe=>.some ⟨j.1,λ_=>⟨f,g,e⟩,λh=>?_⟩) λe=>.some ⟨rfl,rfl,zZ j g e⟩) λc=>.some ⟨by decide,λh=>absurd h (by decide),λ_=>FK j c⟩;have:=(cB g).1;grind);exact k _ h
theorem dc{p:JG}{id y:Int}(h:gM (p,id)=some y):(0<=y-> ∃f,idx p.2.1 y=some f/\f.1.1=id)/\(y<0->JQ p=some true-> ∀f∈p.2.1,f.1.1≠id):=by
 have e:Par (gM (p,id)) λy=>(0<=y-> ∃f,idx p.2.1 y=some f/\f.1.1=id)/\(y<0->JQ p=some true-> ∀f∈p.2.1,f.1.1≠id):=by unfold gM;refine .bind λv j=>.not (λc=>.some ⟨λh=>absurd h (by decide),λ_ h=>?_⟩) λ_=>.bind λg h2=>.some ⟨(xB h2).2.1,λh _=>(xB h2).2.2 h⟩;simp_all
 exact e _ h
theorem zV{p:JG}{id:Int}{y:JS×Bool}(h:lA (p,id)=some y):(y.2=true-> ∃f∈p.2.1,f.1=y.1/\f.1.1=id)/\(y.2=false->JQ p=some true-> ∀f∈p.2.1,f.1.1≠id):=by
 have e:Par (lA (p,id)) λy=>(y.2=true-> ∃f∈p.2.1,f.1=y.1/\f.1.1=id)/\(y.2=false->JQ p=some true-> ∀f∈p.2.1,f.1.1≠id):=(by unfold lA;refine .bind λi hi=>.lt (λc=>.some ⟨nofun,λ_=>(dc hi).2 c⟩) λc=>.bind λf j=>.some ⟨λ_=>?_,nofun⟩;obtain⟨g,h1,h2⟩:=(dc hi).1 (by omega);grind [nN]);exact e _ h
end
end Go.Am
end
section
namespace Go.Am
set_option linter.unusedVariables false
set_option maxRecDepth 20000
set_option maxHeartbeats 1000000
section
variable {B S:Int} {l l':List J1} {n:Int} {fr:List aG} {lk lk' rows rows':List aA} {f f':aG} {i:Int}
theorem E0(h:fr.Pairwise λa b=>a.1.1≠b.1.1){i j:Nat}{a b:aG}(ha:fr[i]?=some a)(hb:fr[j]?=some b)(e:a.1.1=b.1.1):i=j:=by
 grind [List.pairwise_iff_getElem]
theorem JGR(hf:idx fr i=some f)(e:f'.1.1=f.1.1)(h:fr.Pairwise λa b=>a.1.1≠b.1.1){x:aG}(hx:x∈fr.set i.toNat f'):x=f'\/(x∈fr/\x.1.1≠f.1.1):=by
 obtain⟨g,hf⟩:=cB hf;grind [List.mem_iff_getElem?,E0]
theorem Rel.upd(h:Rel l n fr lk rows)(hf:idx fr i=some f)(k:f'.1.1=f.1.1)(ho: ∀q,q≠f.1.1->bS l' q=bS l q)(hr: ∀q,q≠f.1.1->idx rows' q=idx rows q)(h1:f'.1.2.1=bS l' f.1.1)
  (h2:f'.2.1=false-> ∀r,idx rows' f.1.1=some r->r.1=bS l' f.1.1) (h3: ∀r,idx rows' f.1.1=some r->r.1<=bS l' f.1.1):Rel l' n (fr.set i.toNat f') lk rows':=by
 have y:=nN hf;have w: ∀{x:aG},x∈fr.set i.toNat f'->x=f'\/(x∈fr/\x.1.1≠f.1.1):=λg=>JGR hf k h.one g;have E:f'∈fr.set i.toNat f':=(by obtain⟨A,hf⟩:=cB hf;grind [List.mem_set]);refine⟨λx g=>?_,?_,λx g d hd=>?_,λx g=>?_,λd hd=>?_,λp r B=>?_⟩;rcases w g with rfl|⟨g,_⟩;rw[k];exact h.rng _ y;exact h.rng _ g;have q:=h.one;obtain⟨A,hf⟩:=cB hf;grind [List.pairwise_iff_getElem];rcases w g with rfl|⟨g,_⟩;rw[k];exact h.apt _ y d hd;exact h.apt _ g d hd;rcases w g with rfl|⟨g,o⟩;grind;rw[ho _ o,hr _ o];exact h.hot _ g;rw[h.lak d hd,ho];exact h.apt _ y d hd;by_cases v:p=f.1.1;grind;rw[hr _ v]at B;obtain⟨C,D⟩:=h.row p r B;rw[ho _ v];refine⟨C,λa b=>D (λx g e=>?_) b⟩;have z:x∈fr.set i.toNat f':=(by obtain⟨A,hf⟩:=cB hf;obtain⟨j,F⟩:=fS.1 g;refine zQ5 (i:=j) ?_;grind);exact a x z e
theorem Rel.drop(h:Rel l n fr lk rows)(hf:idx fr i=some f)(hc:f.2.1=false):Rel l n (fr.eraseIdx i.toNat) lk rows:=by
 have j: ∀{x:aG},x∈fr.eraseIdx i.toNat->x∈fr:=λg=>(List.eraseIdx_sublist fr i.toNat).subset g;refine⟨λx g=>h.rng x (j g),h.one.sublist (List.eraseIdx_sublist fr i.toNat),λx g=>h.apt x (j g),λx g=>h.hot x (j g),h.lak,λp r o=>?_⟩;obtain⟨q,v⟩:=h.row p r o;refine⟨q,λa b=>?_⟩;by_cases k:p=f.1.1;subst k;exact(h.hot f (nN hf)).2 hc r o;refine v (λx g e=>?_) b;obtain⟨w,hf⟩:=cB hf;grind [List.mem_iff_getElem?,List.mem_eraseIdx_iff_getElem?]
theorem Rel.add(h:Rel l n fr lk rows)(hn: ∀x∈fr,x.1.1≠f.1.1)(hr:0<=f.1.1/\f.1.1<n)(h1:f.1.2.1=bS l f.1.1)(h2:f.2.1=false-> ∀r,idx rows f.1.1=some r->r.1=bS l f.1.1)
  (hs: ∀d,d∈lk'↔d∈lk/\d.1≠f.1.1):Rel l n (fr++[f]) lk' rows:=by
 have g: ∀{x:aG},x∈fr++[f]->x∈fr\/x=f:=λe=>by simpa using e
 refine⟨λx e=>?_,?_,λx e d hd=>?_,λx e=>?_,λd hd=>h.lak d ((hs d).1 hd).1,λp r j=>?_⟩;rcases g e with e|rfl;exact h.rng x e;exact hr;rw[List.pairwise_append];exact⟨h.one,List.pairwise_singleton _ _,λa q b k=>by grind⟩;rcases g e with e|rfl;exact h.apt x e d ((hs d).1 hd).1;simp_all;rcases g e with e|rfl;exact h.hot x e;grind;obtain⟨o,v⟩:=h.row p r j;grind
theorem QL{p q:JG}(h:iK (p,i,f)=some q):q=(p.1,p.2.1.set i.toNat f,p.2.2):=by
 have e:Par (iK (p,i,f)) λq=>q=(p.1,p.2.1.set i.toNat f,p.2.2):=by unfold iK;refine .bind λg h2=>.bind λ_ _=>.bind λ_ _=>.some ?_;rw[LA h2];rfl
 exact e _ h
theorem Rel.use(h:Rel l n fr lk rows)(hf:idx fr i=some f)(h1:f'.1=f.1)(h2:f'.2.1=f.2.1):Rel l n (fr.set i.toNat f') lk rows:=by have q:=h.hot f (nN hf);exact h.upd hf (by rw[h1]) (λ_ _=>rfl) (λ_ _=>rfl) (by simp_all) (by grind) λr e=>(h.row _ r e).1
theorem JMy{p q:JG}{id:Int}(e:AO (p,id)=some q)(h:Rel l n p.2.1 lk rows):Rel l n q.2.1 lk rows:=by
 have g:Par (AO (p,id)) λq=>Rel l n q.2.1 lk rows:=by unfold AO;refine .bind λj r=>.lt (λ_=>.some h) λc=>.bind λx o=>.bind λy k=>.some ?_;rw[QL k];exact h.use o rfl rfl
 exact g _ e
theorem JGo{p:JG}{y:KQ}(e:uN p=some y)(h:Rel l n p.2.1 lk rows):y.2.2=0->Rel l n y.1.2.1 lk rows:=by
 have g:Par (uN p) λy=>y.2.2=0->Rel l n y.1.2.1 lk rows:=by unfold uN;refine .bind λ_ _=>.not (λ_=>.some nofun) λ_=>.eq (λ_=>.some nofun) λ_=>.while (λz=>Rel l n z.1.2.1 lk rows) h ?_;intro z j;unfold XE;refine .bind λx r=>.ite (λ_=>.bind λy o=>.bind λq k=>.bind λ_ _=>.some ?_) λ_=>.map (.bind λ_ _=>.some λ_=>j);show Rel l n q.2.1 lk rows;rw[QL k];exact j.use o rfl rfl
 exact g _ e
theorem JKQ{p:JG}{id:Int}{y:iD}(e:uM (p,id)=some y)(c:y.2=0)(h:Rel l n p.2.1 lk rows):Rel l n y.1.2.1 lk rows:=by
 have k:Par (uM (p,id)) λy=>y.2=0->Rel l n y.1.2.1 lk rows:=by
  unfold uM;refine .bind λ_ _=>.not (λ_=>.some nofun) λ_=>.bind λj F=>.lt (λ_=>.some nofun) λ_=>.bind λx r=>.ite (λ_=>.some nofun) λw=>.bind λI E=>.bind λJ D=>.bind λG z=>.bind λA B=>?_;have C:A=p.2.1.eraseIdx j.toNat:=by obtain⟨H,v⟩:=pu z;have o:=Jg j 1;have q:=(xB F).1;have K:=(cB r).1;rw[gF B,LA D,(Ef E).2.2,v,List.eraseIdx_eq_take_drop_succ,show(J2 .i64 j 1).toNat=j.toNat+1 by omega]
  have g:=h.drop r w;rw[<-C]at g;exact .lt (λ_=>.ge (λ_=>.some λ_=>g) λ_=>.some λ_=>g) λ_=>.ge (λ_=>.some λ_=>g) λ_=>.some λ_=>g
 exact k _ e c
end
end Go.Am
end
section
namespace Go.Am
set_option linter.unusedVariables false
set_option maxRecDepth 20000
set_option maxHeartbeats 1000000
section
variable {B S:Int} {l l':List J1} {n:Int} {fr:List aG} {lk lk' rows rows':List aA} {f f':aG} {i:Int}
theorem FO{k:J4}{id:Int}{y:aA×Bool}(e:rT (k,id)=some y):(y.2=true->y.1∈k.2.2.2.2.2.2.2/\y.1.1=id)/\(y.2=false-> ∀d∈k.2.2.2.2.2.2.2,d.1≠id):=by
 have g:Par (rT (k,id)) λy=>(y.2=true->y.1∈k.2.2.2.2.2.2.2/\y.1.1=id)/\(y.2=false-> ∀d∈k.2.2.2.2.2.2.2,d.1≠id):=(by unfold rT;refine .while (λz=>z.1=id/\z.2.2.1=k/\upw (λd:aA=>d.1≠id) k.2.2.2.2.2.2.2 z.2.1) ⟨rfl,rfl,EQ⟩ ?_;rintro⟨a,i,q,r⟩ ⟨rfl,rfl,h⟩;unfold zu;refine .lt (λc=>.bind λd hd=>.eq (λe=>.bind λn j=>.some ⟨λ_=>?_,nofun⟩) λe=>.some ⟨rfl,rfl,zZ h hd e⟩) λc=>.some ⟨nofun,λ_=>FK h c⟩;grind [nN]);exact g _ e
theorem MM{k:J4}(e:Jp k=some true):JQ k.2.2.2.1=some true:=by
 have h:Par (mH k) λy=>y=true->JQ k.2.2.2.1=some true:=by unfold mH;refine .ge (λ_=>.le (λ_=>.ge (λ_=>.le (λ_=>.bind λ_ _=>.ite (λ_=>.bind λn o=>.ite (λc=>λ_ _ _=>?_) λ_=>.some nofun) λ_=>.some nofun) λ_=>.some nofun) λ_=>.some nofun) λ_=>.some nofun) λ_=>.some nofun;simp_all
 have g:Par (Jp k) λy=>y=true->JQ k.2.2.2.1=some true:=by unfold Jp;exact .bind λa j=>.not (λ_=>.some nofun) λc=>λ_ _ _=>h _ j c
 exact g _ e rfl
theorem XV{k:J4}{p h:Int}(e:pI (k,p)=some h)(hv:Jp k=some true)(hi:JD k)(h0:0<=p)(h1:p<k.1):h=bS k.2.2.1.2.1 p:=by
 have q:Par (pI (k,p)) λh=>h=bS k.2.2.1.2.1 p:=(by obtain⟨_,_,r⟩:=hi;unfold pI;refine .bind λv B=>.nof (λ_=>.ltf (λ_=>.ge (λc=>absurd h1 (by grind)) λ_=>.bind λC x=>.ite (λn=>.some ?_) λn=>.bind λD w=>.ite (λg=>.some ?_) λg=>.bind λy z=>.some ?_) λc=>absurd h0 (by grind)) λc=>?_;obtain⟨f,A,o,j⟩:=(zV x).1 n;rw[<-o,(r.hot f A).1,j];obtain⟨o,j⟩:=(FO w).1 g;rw[r.lak _ o,j];exact(r.row p y z).2 ((zV x).2 n (MM hv)) ((FO w).2 g);simp_all);exact q _ e
theorem qd{e:J1}{y:tI}(h:jL (rows,e)=some y)(c:y.2=0):Jl e=some true/\(e.2.1≠7->y.1=rows)/\(e.2.1=7->(∀q,q≠aR e->idx y.1 q=idx rows q)/\ ∀r,idx y.1 (aR e)=some r-> ∃r0,idx rows (aR e)=some r0/\r.1=cO r0.1 e.2.2.2.2.2.1):=by
 have j:Par (jL (rows,e)) λy=>y.2=0->Jl e=some true/\(e.2.1≠7->y.1=rows)/\(e.2.1=7->(∀q,q≠aR e->idx y.1 q=idx rows q)/\ ∀r,idx y.1 (aR e)=some r-> ∃r0,idx rows (aR e)=some r0/\r.1=cO r0.1 e.2.2.2.2.2.1):=by
  unfold jL;refine .bind λ_ _=>.not (λ_=>.some nofun) λ_=>.bind λv A=>.not (λ_=>.some nofun) λw=>.ne (λc=>.some λ_=>⟨by simp_all,λ_=>rfl,λh=>absurd h c⟩) λc=>.ge (λ_=>.some nofun) λ_=>.bind λr0 z=>.bind λg n=>.some λ_=>⟨by simp_all,λh=>absurd c h,λ_=>?_⟩;have o:g=rows.set (aR e).toNat (cO r0.1 e.2.2.2.2.2.1,r0.2):=by
   have k:Par (GE (rows,aR e,cO r0.1 e.2.2.2.2.2.1,r0.2)) λg=>g=rows.set (aR e).toNat (cO r0.1 e.2.2.2.2.2.1,r0.2):=by unfold GE;refine .bind λx h2=>.bind λ_ _=>.bind λ_ _=>.some ?_;rw[LA h2];rfl
   exact k _ n
  grind [idx,aR]
 exact j _ h c
theorem JBK{l:JJ}{e:J1}{y:yV}(h:fY (l,e)=some y)(c:y.2.2=0):1<=l.1/\l.1<=1099511627776/\J0 l.2.1<=4096:=by
 have g:Par (fY (l,e)) λy=>y.2.2=0->1<=l.1/\l.1<=1099511627776/\J0 l.2.1<=4096:=by unfold fY;exact .bind λk h2=>.not (λ_=>.some nofun) λj=>λ_ _ _=>er h2 j
 exact g _ h c
def DW(k:J4)(e:J1)(y:gR):Prop:=Jp k=some true/\ ∃e':J1,e'.2.1=e.2.1/\e'.2.2.2.2.2=e.2.2.2.2.2/\e'.1=J0 k.2.2.1.2.1+1/\y.2.1=e'.1/\y.1.1=k.1/\y.1.2.2.1=(1,k.2.2.1.2.1++[e'],k.2.2.1.2.2)/\gO y.1.2.2.1/\y.1.2.2.2.1=k.2.2.2.1/\y.1.2.2.2.2.2.2.2=k.2.2.2.2.2.2.2/\cX (k.2.2.1.2.1++[e'])/\(e.2.1≠7->y.1.2.2.2.2.2.2.1=k.2.2.2.2.2.2.1)/\(e.2.1=7->(∀q,q≠aR e->idx y.1.2.2.2.2.2.2.1 q=idx k.2.2.2.2.2.2.1 q)/\ ∀r,idx y.1.2.2.2.2.2.2.1 (aR e)=some r-> ∃g,idx k.2.2.2.2.2.2.1 (aR e)=some g/\r.1=cO g.1 e.2.2.2.2.2.1)
theorem VB{k:J4}{e0 e:J1}{z:gR}(hv:Jp k=some true)(hi:JD k)(h1:e0.2.1=e.2.1)(h2:e0.2.2.2.2.2=e.2.2.2.2.2)(hp:(e.2.1=1\/e.2.1=2)->e0.2.2.2.2.1=bS k.2.2.1.2.1 (aR e))
  (N:e.2.1=7->e.2.2.2.2.2.1<=bS k.2.2.1.2.1 (aR e)) (S:e.2.1=6->VM k.2.2.1.2.1 e.2.2.2.2.2.2.2)
  (hz:((fY (k.2.2.1,e0)).bind λg=>
   if aN g.2.2 0 then
    some ((0,0,(0,[],0),(0,[],0),([],[]),[],[],[]),0,g.2.2)
   else
    (dZ (g.1,g.2.1)).bind λq=>
    (eO (k.2.2.2.2.2.1,q.1)).bind λj=>
    if aN j.2 0 then
     some ((0,0,(0,[],0),(0,[],0),([],[]),[],[],[]),0,j.2)
    else
     (jL (k.2.2.2.2.2.2.1,q.1)).bind λn=>
     if aN n.2 0 then
      some ((0,0,(0,[],0),(0,[],0),([],[]),[],[],[]),0,n.2)
     else
      some ((k.1,k.2.1,g.1,k.2.2.2.1,k.2.2.2.2.1,j.1,n.1,k.2.2.2.2.2.2.2),g.2.1,0))=some z):z.2.2=0->DW k e z:=by
 have C:Par ((fY (k.2.2.1,e0)).bind λg=>
   if aN g.2.2 0 then
    some ((0,0,(0,[],0),(0,[],0),([],[]),[],[],[]),0,g.2.2)
   else
    (dZ (g.1,g.2.1)).bind λq=>
    (eO (k.2.2.2.2.2.1,q.1)).bind λj=>
    if aN j.2 0 then
     some ((0,0,(0,[],0),(0,[],0),([],[]),[],[],[]),0,j.2)
    else
     (jL (k.2.2.2.2.2.2.1,q.1)).bind λn=>
     if aN n.2 0 then
      some ((0,0,(0,[],0),(0,[],0),([],[]),[],[],[]),0,n.2)
     else
      some ((k.1,k.2.1,g.1,k.2.2.2.1,k.2.2.2.2.1,j.1,n.1,k.2.2.2.2.2.2.2),g.2.1,0)) λz=>z.2.2=0->DW k e z:=by
  obtain⟨r,H,T⟩:=hi;refine .bind λg x=>.ne (λc=>.some λh=>absurd h c) λw=>.bind λq D=>.bind λj M=>.ne (λc=>.some λh=>absurd h c) λ_=>.bind λn A=>.ne (λc=>.some λh=>absurd h c) λy=>.some λ_=>?_;obtain⟨b1,b2,G,R⟩:=JGm x w r.1;have O:=Ja (l:=k.2.2.1.2.1);obtain⟨P,B,F⟩:=qd A y;have E:q.1=(J0 k.2.2.1.2.1+1,e0.2):=(by rcases JIR D with⟨_,h⟩|⟨_,h⟩;rw[b1,b2,r.1]at h;obtain⟨_,h⟩:=cB h;have v:=(JBK x w).2.2;have o:=bD (J0 k.2.2.1.2.1+1) 1;rw[show(Jw .i64 (J0 k.2.2.1.2.1+1) 1).toNat=k.2.2.1.2.1.length by grind [J0]]at h;simp_all;grind [JMN]);rw[E]at B F;have K:aR (J0 k.2.2.1.2.1+1,e0.2)=aR e:=congrArg (λz:Int×aL×List UInt8=>z.2.1.1) h2;have L:e0.2.2.2.2.2.1=e.2.2.2.2.2.1:=congrArg (λz:Int×aL×List UInt8=>z.1) h2;have J:e0.2.2.2.2.2.2.2=e.2.2.2.2.2.2.2:=congrArg (λz:Int×aL×List UInt8=>z.2.2) h2;refine⟨hv,(J0 k.2.2.1.2.1+1,e0.2),h1,h2,rfl,b2,rfl,?_,?_,rfl,rfl,?_,λc=>B (by simp_all),λc=>?_⟩;show g.1=_;rw[b1,r.1]
  ·show gO g.1;rw[b1,r.1];obtain⟨U,I,V,Q⟩:=r;refine⟨rfl,I,?_,?_⟩
   all_goals
    grind [FU,rE]
  ·refine H.app ⟨rfl,G,λc=>?_,λc=>?_,λc=>?_⟩
   all_goals grind
  grind
 exact C _ hz
theorem OL{k:J4}{e:J1}{y:gR}(h:fM (k,e)=some y)(c:y.2.2=0)(hi:JD k)(hp:(e.2.1=1\/e.2.1=2)->0<=aR e/\aR e<k.1)
  (q:e.2.1=7->e.2.2.2.2.2.1<=bS k.2.2.1.2.1 (aR e)) (w:e.2.1=6->VM k.2.2.1.2.1 e.2.2.2.2.2.2.2):DW k e y:=by
 have D: ∀{o:J1} {b:Bool},Jt o=some b->b=false-> ¬(o.2.1=1\/o.2.1=2):=fun{o b} C r=>by
  grind [Jt,jI]
 have A:Par (fM (k,e)) λy=>y.2.2=0->DW k e y:=by
  unfold fM;refine .bind λv G=>.not (λ_=>.some nofun) λE=>?_;have g:Jp k=some true:=by simp_all
  refine .gt (λ_=>.bind λF _=>.lt (λ_=>.some nofun) λ_=>.bind λB _=>.bind λb C=>.ite (λr=>.bind λx n=>λz j=>VB (e0:=(e.1,e.2.1,e.2.2.1,B.2.2.1,x,e.2.2.2.2.2)) g hi rfl rfl ?_ q w j) λr=>λz j=>VB (e0:=(e.1,e.2.1,e.2.2.1,B.2.2.1,0,e.2.2.2.2.2)) g hi rfl rfl ?_ q w j) λ_=>.bind λb C=>.ite (λr=>.bind λx n=>λz j=>VB (e0:=(e.1,e.2.1,e.2.2.1,0,x,e.2.2.2.2.2)) g hi rfl rfl ?_ q w j) λr=>λz j=>VB (e0:=(e.1,e.2.1,e.2.2.1,0,0,e.2.2.2.2.2)) g hi rfl rfl ?_ q w j
  all_goals intro hc
  exact XV n g hi (hp hc).1 (hp hc).2;grind;exact XV n g hi (hp hc).1 (hp hc).2;grind
 exact A _ h c
end
end Go.Am
end
section
namespace Go.Am
set_option linter.unusedVariables false
set_option maxRecDepth 20000
set_option maxHeartbeats 1000000
section
variable {l E F:List J1} {p:Int}
theorem ltE.irr{a:J1}: ¬ltE a a:=by simp[ltE]
theorem ltE.asym{a b:J1}(h:ltE a b): ¬ltE b a:=by grind [ltE]
theorem sn: ∀{a b:List J1},a.Pairwise ltE->b.Pairwise ltE->(∀x,x∈a↔x∈b)->a=b
 |[],[],_,_,_=>rfl
 |[],y::b,_,_,h=>absurd ((h y).2 List.mem_cons_self) (by simp)
 |x::a,[],_,_,h=>absurd ((h x).1 List.mem_cons_self) (by simp)
 |x::a,y::b,n,o,h=>by
  obtain⟨k,j⟩:=List.pairwise_cons.1 n;obtain⟨b1,b2⟩:=List.pairwise_cons.1 o;have e:x=y:=(by rcases cL.1 ((h x).1 List.mem_cons_self)with q|q;exact q;rcases cL.1 ((h y).2 List.mem_cons_self)with g|g;exact g.symm;exact absurd (b1 x q) (k y g).asym);subst e;refine congrArg (x:: ·) (sn j b2 λz=>⟨λr=>?_,λr=>?_⟩)
  all_goals grind [ltE.irr]
theorem eg{e:J1}(hd: ∀x∈l,x.1≠e.1): ∀x,x∈lN l e↔x∈l\/x=e:=by
 induction l with
 |nil=>simp[lN]
 |cons y l ih=>
  grind [ew,lN]
theorem ud{e:J1}(hs:l.Pairwise ltE)(hd: ∀x∈l,x.1≠e.1):(lN l e).Pairwise ltE:=by
 induction l with
 |nil=>exact List.pairwise_singleton _ _
 |cons y l ih=>
  obtain⟨h1,h2⟩:=List.pairwise_cons.1 hs;have g:=hd y List.mem_cons_self;have n: ¬cmpE y e=0:=λh=>g (ew.1 h).2;have k: ∀x∈l,x.1≠e.1:=λz j=>hd z (qC _ j);grind [lN,List.pairwise_cons,eg,d4,ltE]
theorem JG6{e:J1}(hd: ∀x∈l,x.1≠e.1):(lN l e).length=l.length+1:=by
 induction l with
 |nil=>simp[lN]
 |cons y k ih=>
  grind [ew,lN]
def srt(l:List J1):List J1:=l.foldl lN []
theorem F4(l:List J1)(e:J1):srt (l++[e])=lN (srt l) e:=by simp[srt]
def Inc(l:List J1):Prop:=l.Pairwise λa b=>a.1<b.1
theorem E4: ∀{n:Nat} {l:List J1},l.length=n->Inc l->(srt l).Pairwise ltE/\(∀x,x∈srt l↔x∈l)/\(srt l).length=l.length
 |0,l,h,_=>by simp_all [srt]
 |n+1,l,h,hi=>by
  obtain⟨m,e,rfl⟩: ∃m e,l=m++[e]:=⟨l.dropLast,l.getLast (by grind),(List.dropLast_concat_getLast _).symm⟩;have j:m.length=n:=by simpa using h
  obtain⟨i1,i2,i3⟩:=List.pairwise_append.1 hi;obtain⟨s1,g,o⟩:=E4 j i1;have hd: ∀x∈srt m,x.1≠e.1:=λx k=>by have:=i3 x ((g x).1 k) e (by simp);omega
  grind [F4,ud,eg,JG6]
theorem cX.inc(h:cX l):Inc l:=by
 unfold Inc;rw[List.pairwise_iff_getElem];intro i j hi e hij;have a:=(h i _ (JX hi)).1;have b:=(h j _ (JX e)).1;grind [J0]
theorem cX.at(h:cX l){i:Nat}{e:J1}(he:l[i]?=some e):e.1=(i:Int)+1:=by
 have a:=(h i e he).1;grind [J0]
theorem Ig(h:cX l)(p:Int):(bS l p=0\/ ∃x∈l,(x.2.1=1\/x.2.1=2)/\aR x=p/\x.1=bS l p)/\ ∀x∈l,(x.2.1=1\/x.2.1=2)->aR x=p->x.1<=bS l p:=by
 have q: ∀n:Nat,n<=l.length->(bS (l.take n) p=0\/ ∃x∈l.take n,(x.2.1=1\/x.2.1=2)/\aR x=p/\x.1=bS (l.take n) p)/\ ∀x∈l.take n,(x.2.1=1\/x.2.1=2)->aR x=p->x.1<=bS (l.take n) p:=by
  intro n
  induction n with
  |zero=>intro _;exact⟨.inl rfl,by simp⟩
  |succ n ih=>
   intro r;obtain⟨h1,h2⟩:=ih (by omega);have o:=JX (l:=l) (i:=n) (by omega);have k:l.take (n+1)=l.take n++[l[n]]:=by simp[List.take_add_one]
   have en:=h.at o;rw[k,AG];split;rename_i c;refine⟨.inr ⟨l[n],List.mem_append_right _ (qG.2 rfl),c.1,c.2,rfl⟩,λx g a b=>?_⟩;rcases zQ9.1 g with g|g;obtain⟨j,e⟩:=fS.1 g;rw[TT]at e;split at e;have:=h.at e;omega;cases e;grind;grind
 grind [List.take_length]
theorem p8(h:cX l){e:J1}(he:e∈l)(hc:e.2.1=1\/e.2.1=2):e.2.2.2.2.1<e.1/\(e.2.2.2.2.1=0\/ ∃x∈l,(x.2.1=1\/x.2.1=2)/\aR x=aR e/\x.1=e.2.2.2.2.1)/\ ∀x∈l,(x.2.1=1\/x.2.1=2)->aR x=aR e->x.1<e.1->x.1<=e.2.2.2.2.1:=by
 obtain⟨i,hi⟩:=fS.1 he;obtain⟨r,v,o,_⟩:=h i e hi;have q:=h.at hi;rw[o hc];obtain⟨s1,n⟩:=Ig (h.take i) (aR e);have lt: ∀x∈l.take i,x.1<e.1:=λx k=>by
  obtain⟨j,g⟩:=fS.1 k;rw[TT]at g;split at g;have:=h.at g;omega;cases g
 refine⟨?_,?_,λx k a b c=>?_⟩;grind;grind;refine n x ?_ a b;obtain⟨j,g⟩:=fS.1 k;have:=h.at g;refine zQ5 (i:=j) ?_;grind
def inB(f t lo hi:Int)(e:J1):Bool:=decide ((e.2.1=1\/e.2.1=2)/\(lo<=aR e/\aR e<=hi)/\f<=e.1/\e.1<=t)
theorem zR{f t lo hi:Int}{e:J1}:inB f t lo hi e=true↔(e.2.1=1\/e.2.1=2)/\(lo<=aR e/\aR e<=hi)/\f<=e.1/\e.1<=t:=by simp[inB]
def sel(l:List J1)(f t lo hi:Int):List J1:=srt (l.filter (inB f t lo hi))
theorem Inc.filter(h:Inc l)(q:J1->Bool):Inc (l.filter q):=h.sublist (List.filter_sublist)
theorem JLy(h:cX l)(f t lo hi:Int):(sel l f t lo hi).Pairwise ltE/\(∀x,x∈sel l f t lo hi↔x∈l/\inB f t lo hi x=true)/\(sel l f t lo hi).length<=l.length:=by
 obtain⟨s1,g,e⟩:=E4 rfl (h.inc.filter (inB f t lo hi));grind [sel]
theorem adj(hs:E.Pairwise ltE){j:Nat}{a b x:J1}(ha:E[j]?=some a)(hb:E[j+1]?=some b)(hx:x∈E)(h1:ltE a x)(h2:ltE x b):False:=by
 obtain⟨i,hi⟩:=fS.1 hx;rw[List.pairwise_iff_getElem]at hs;obtain⟨la,rfl⟩:=cG.1 ha;obtain⟨g,rfl⟩:=cG.1 hb;obtain⟨e,rfl⟩:=cG.1 hi;by_cases c:i<=j;rcases Nat.lt_or_eq_of_le c with c|c;exact h1.asym (hs i j e la c);grind [ltE.irr];by_cases h:i=j+1;grind [ltE.irr];exact h2.asym (hs (j+1) i g e (by omega))
theorem JJ7(h:cX l)(hl:J0 l<=4096){f t lo hi lv:Int}(hn:oS (f,t,lo,hi,lv,[])):kQ (f,t,lo,hi,lv,sel l f t lo hi):=by
 obtain⟨s1,k,s3⟩:=JLy h f t lo hi;obtain⟨Q,R,a3,a4,N,G,y,w⟩:=hn
 (try dsimp only at Q R a3 a4 N G y w)
 have val: ∀x∈l,Jl x=some true:=λx P=>by obtain⟨i,hi⟩:=fS.1 P;exact(h i x hi).2.1
 refine⟨⟨Q,R,a3,a4,N,G,y,w⟩,?_,λj e q=>?_,λe q=>?_,λj a b r n=>?_⟩;grind [J0];obtain⟨o,v⟩:=(k e).1 (zQ5 q);obtain⟨b1,b2,z,F⟩:=zR.1 v;exact⟨val e o,b1,z,F,b2.1,b2.2⟩;have U:=zQ5 q;obtain⟨o,v⟩:=(k e).1 U;obtain⟨b1,b2,z,F⟩:=zR.1 v;obtain⟨S,g,O⟩:=p8 h o b1;dsimp only;rcases g with g|⟨x,X,x2,x3,x4⟩;omega;rcases Int.lt_or_le e.2.2.2.2.1 f with c|c;exact c;have P:x∈sel l f t lo hi:=(k x).2 ⟨X,zR.2 ⟨x2,by omega,by omega,by omega⟩⟩;grind [List.mem_iff_getElem?,ltE,Nat.eq_zero_or_pos,List.pairwise_iff_getElem]
 (try dsimp only at r n)
 have A:=zQ5 r;have D:=zQ5 n;obtain⟨H,L⟩:=(k a).1 A;obtain⟨B,J⟩:=(k b).1 D;obtain⟨M,Z,a0,a9⟩:=zR.1 L;obtain⟨I,Y,W,V⟩:=zR.1 J;obtain⟨S,g,O⟩:=p8 h B I;have C:ltE a b:=(by grind [List.pairwise_iff_getElem]);have E: ∀x∈l,(x.2.1=1\/x.2.1=2)->aR x=aR b->x.1=b.2.2.2.2.1->f<=x.1->ltE a x->False:=λx X x2 x3 x4 x5 T=>
  adj s1 r n ((k x).2 ⟨X,zR.2 ⟨x2,by omega,by omega,by omega⟩⟩) T (.inr ⟨x3,by omega⟩)
 rcases C with lp|⟨lp,K⟩;refine .inl ⟨lp,?_⟩;rcases g with g|⟨x,X,x2,x3,x4⟩;grind;show b.2.2.2.2.1<f;rcases Int.lt_or_le b.2.2.2.2.1 f with c|c;exact c;exact(E x X x2 x3 x4 (by omega) (.inl (by omega))).elim;refine .inr ⟨lp,K,?_⟩;have ge:=O a H M lp K;rcases g with g|⟨x,X,x2,x3,x4⟩;omega;rcases Int.lt_or_eq_of_le ge with c|c;exact(E x X x2 x3 x4 (by omega) (.inr ⟨by omega,by omega⟩)).elim;exact c.symm
end
end Go.Am
end
section
namespace Go.Am
set_option linter.unusedVariables false
set_option maxRecDepth 20000
set_option maxHeartbeats 1000000
section
variable {B S:Int} {l l':List J1} {n:Int} {fr:List aG} {lk lk' rows rows':List aA} {f f':aG} {i:Int} {k k':J4}
theorem Rel.note{e:J1}{p:Int}(h:Rel l n fr lk rows)(he: ¬(e.2.1=1\/e.2.1=2))(h0:e.2.2.2.2.2.1<=bS l p)(h1: ∀q,q≠p->idx rows' q=idx rows q)(h2: ∀r,idx rows' p=some r-> ∃r0,idx rows p=some r0/\r.1=cO r0.1 e.2.2.2.2.2.1):Rel (l++[e]) n fr lk rows':=by
 have k: ∀p,bS (l++[e]) p=bS l p:=λp=>AQ λh=>he h.1;refine⟨h.rng,h.one,h.apt,λx o=>?_,by simpa only[k]using h.lak,λq r g=>?_⟩;rw[k];refine⟨(h.hot x o).1,λc r g=>?_⟩;by_cases j:x.1.1=p;rw[j]at g⊢;obtain⟨r0,v,w⟩:=h2 r g;have:=(h.hot x o).2 c r0 (by simp_all);rw[j]at this;have:=rB r0.1 e.2.2.2.2.2.1;omega;rw[h1 _ j]at g;exact(h.hot x o).2 c r g;rw[k];by_cases j:q=p;subst j;obtain⟨r0,v,w⟩:=h2 r g;obtain⟨y,z⟩:=h.row q r0 v;have:=rB r0.1 e.2.2.2.2.2.1;grind;rw[h1 _ j]at g;exact h.row q r g
theorem DW.inv{e:J1}{y:gR}(h:DW k e y)(hi:JD k)(he: ¬(e.2.1=1\/e.2.1=2))(A:e.2.1=7->e.2.2.2.2.2.1<=bS k.2.2.1.2.1 (aR e)):JD y.1:=by
 obtain⟨D,e',E,x,a3,a4,w,v,r,q,o,C,j,n⟩:=h;obtain⟨i1,i2,i3⟩:=hi;have g: ¬(e'.2.1=1\/e'.2.1=2):=by simp_all
 refine⟨r,by simp_all,?_⟩;rw[w,v,q,o];by_cases c:e.2.1=7;obtain⟨b1,b2⟩:=n c;have B:e'.2.2.2.2.2.1=e.2.2.2.2.2.1:=congrArg (λz:Int×aL×List UInt8=>z.1) x;exact i3.note g (by simp_all) b1 (by grind);rw[j c];exact i3.ent g
theorem ZY{m:Int}(e:lH (k,m)=some k'):k'.1=k.1/\(gO k.2.2.1->gO k'.2.2.1)/\k'.2.2.1.2.1=k.2.2.1.2.1/\k'.2.2.2=k.2.2.2:=by
 have g:Par (lH (k,m)) λk'=>k'.1=k.1/\(gO k.2.2.1->gO k'.2.2.1)/\k'.2.2.1.2.1=k.2.2.1.2.1/\k'.2.2.2=k.2.2.2:=(by unfold lH;refine .bind λ_ _=>.bind λh j=>.eq (λc=>.some ?_) λ_=>.some ⟨rfl,id,rfl,rfl⟩;grind [RQ]);exact g _ e
theorem JD.same(h:JD k)(e1:k'.1=k.1)(e2:gO k.2.2.1->gO k'.2.2.1)(e3:k'.2.2.1.2.1=k.2.2.1.2.1)(j:k'.2.2.2.1.2.1=k.2.2.2.1.2.1)(e:k'.2.2.2.2.2.2.2=k.2.2.2.2.2.2.2)(g:k'.2.2.2.2.2.2.1=k.2.2.2.2.2.2.1):JD k':=by
 grind [JD]
theorem JD.force{m:Int}(h:JD k)(e:lH (k,m)=some k'):JD k':=by obtain⟨j,o,n,g⟩:=ZY e;exact h.same j o n (by rw[g]) (by rw[g]) (by rw[g])
theorem JG9{p:JG}{x:JS}{y:iD}(e:CG (p,x)=some y)(c:y.2=0): ∃i f r,idx p.2.1 i=some f/\f.1.1=x.1/\y.1=(p.1,p.2.1.set i.toNat (x,true,r,true),p.2.2):=by
 have j:Par (CG (p,x)) λy=>y.2=0-> ∃i f r,idx p.2.1 i=some f/\f.1.1=x.1/\y.1=(p.1,p.2.1.set i.toNat (x,true,r,true),p.2.2):=by
  unfold CG;refine .bind λ_ _=>.not (λ_=>.some nofun) λ_=>.bind λn _=>.ne (λc=>.some λh=>absurd h c) λ_=>.bind λi hi=>.lt (λ_=>.some nofun) λo=>.bind λf w=>.le (λ_=>.some nofun) λ_=>.not (λ_=>.bind λq k=>.some λ_=>?_) λ_=>.bind λq k=>.some λ_=>?_
  all_goals
   obtain⟨g,z,v⟩:=(xB hi).2.1 (by omega);grind [QL]
 exact j _ e c
theorem mp{e:J1}{y:cM}(h:uL (k,e)=some y)(hi:JD k)(hk:e.2.1=1\/e.2.1=2)(hf: ∃f∈k.2.2.2.1.2.1,f.1.1=aR e):JD y.1:=by
 have x:Par (uL (k,e)) λy=>JD y.1:=by
  unfold uL;dsimp only;have F:e.2.1≠7:=by omega
  have E:e.2.1≠6:=by omega
  refine .bind λI h2=>.ne (λ_=>.some hi) λD=>.bind λj B=>.bind λ_ _=>.bind λ_ _=>.bind λW G=>.ne (λ_=>.some hi) λH=>.some ?_;obtain⟨f,hf,o⟩:=hf;have A:=hi.2.2.rng f hf;rw[o]at A;obtain⟨N,e',a1,O,a3,a4,a5,Y,C,V,U,a9,R,T⟩:=OL h2 D hi (λ_=>A) (λc=>absurd c F) (λc=>absurd c E);obtain⟨i,g,r,K,n,Z⟩:=JG9 G H;have M: ∃g∈k.2.2.2.1.2.1,g.1=j.1/\g.1.1=aR e:=by
   cases c3:j.2 with
   |true=>exact(zV B).1 c3
   |false=>exact absurd o ((zV B).2 c3 (MM N) f hf)
  obtain⟨g',P,S,Q⟩:=M;have v:j.1.1=aR e:=by simp_all
  have w:aR e'=aR e:=congrArg (λz:Int×aL×List UInt8=>z.2.1.1) O;have hc:e'.2.1=1\/e'.2.1=2:=by simp_all
  have n:g.1.1=aR e:=n.trans v;have up:=hi.2.2.upd (l':=k.2.2.1.2.1++[e']) (rows':=k.2.2.2.2.2.2.1) (f':=((j.1.1,I.2.1,bG j.1.2.2 (Int.toNat e.2.2.2.2.2.2.1.2.1) e.2.2.2.2.2.2.1.2.2.2),true,r,true)) K (v.trans n.symm)
   (λq J=>AQ λh=>J (by simp_all)) (λ_ _=>rfl) (by
    grind [AG]) nofun (λr L=>by
    rw[AG,if_pos ⟨hc,by rw[w,n]⟩];have q:=(hi.2.2.row _ r L).1;have b:=so hi.2.1 (g.1.1);omega)
  refine⟨C,by simp_all,?_⟩;simp_all
 exact x _ h
end
end Go.Am
end
section
namespace Go.Am
set_option linter.unusedVariables false
set_option maxRecDepth 20000
set_option maxHeartbeats 1000000
section
variable {B S:Int} {l l':List J1} {n:Int} {fr:List aG} {lk lk' rows rows':List aA} {f f':aG} {i:Int} {k k':J4}
theorem JN8{p:JG}{x:JS}{y:Int×Int×Int×List aG}(e:rU (p,x)=some y)(c:y.2.2.1=0):y.2.2.2=p.2.1++[(x,false,0,true)]/\ ∀f∈p.2.1,f.1.1≠x.1:=by
 have g:Par (rU (p,x)) λy=>y.2.2.1=0->y.2.2.2=p.2.1++[(x,false,0,true)]/\ ∀f∈p.2.1,f.1.1≠x.1:=(by unfold rU;refine .bind λ_ _=>.not (λ_=>.some nofun) λ_=>.bind λn _=>.ne (λc=>.some λh=>absurd h c) λ_=>.bind λi hi=>.ge (λ_=>.some nofun) λo=>.eq (λ_=>.some nofun) λ_=>.bind λq r=>.bind λj k=>.some λ_=>⟨?_,(xB hi).2.2 (by omega)⟩;grind [gF,LA]);exact g _ e c
theorem JIt{p:JG}{id j:Int}{y:iD}(e:BM (p,id,j)=some y)(c:y.2=0): ∃i f,idx p.2.1 i=some f/\f.1.1=id/\j<=f.1.2.1/\(y.1.2.1=p.2.1\/ ∃f',f'.1=f.1/\(f'.2.1=false->f.2.1=false\/f.1.2.1=j)/\y.1.2.1=p.2.1.set i.toNat f'):=by
 have o:Par (BM (p,id,j)) λy=>y.2=0-> ∃i f,idx p.2.1 i=some f/\f.1.1=id/\j<=f.1.2.1/\(y.1.2.1=p.2.1\/ ∃f',f'.1=f.1/\(f'.2.1=false->f.2.1=false\/f.1.2.1=j)/\y.1.2.1=p.2.1.set i.toNat f'):=by
  unfold BM;refine .bind λ_ _=>.not (λ_=>.some nofun) λ_=>.bind λi hi=>.lt (λ_=>.some nofun) λx=>.bind λf z=>.gt (λ_=>.some nofun) λn=>?_;obtain⟨g,v,r⟩:=(xB hi).2.1 (by omega);have:g=f:=by simp_all
  subst this;have n:j<=g.1.2.1:=Int.not_lt.1 n;have go: ∀{f':aG} {q:JG},f'.1=g.1->(f'.2.1=false->g.2.1=false\/g.1.2.1=j)->iK (p,i,f')=some q-> ∃i f,idx p.2.1 i=some f/\f.1.1=id/\j<=f.1.2.1/\(q.2.1=p.2.1\/ ∃f',f'.1=f.1/\(f'.2.1=false->f.2.1=false\/f.1.2.1=j)/\q.2.1=p.2.1.set i.toNat f'):=fun{f' q} h1 h2 k=>⟨i,g,v,r,n,.inr ⟨f',h1,h2,by rw[QL k]⟩⟩;refine .not (λ_=>.some λ_=>⟨i,g,v,r,n,.inl rfl⟩) λ_=>.eq (λw=>.bind λq k=>.some λ_=>go (f':=(g.1,false,0,g.2.2.2)) rfl (λ_=>.inr w) k) λ_=>.le (λ_=>.bind λq k=>.some λ_=>go (f':=(g.1,g.2.1,J2 .i64 j 1,g.2.2.2)) rfl (λh=>.inl h) k) λ_=>.bind λq k=>.some λ_=>go (f':=(g.1,g.2)) rfl (λh=>.inl h) k
 exact o _ e c
theorem JFh{p:JG}(e:JQ p=some true):J0 p.2.1<=64:=by
 have g:Par (JQ p) λy=>y=true->J0 p.2.1<=64:=by unfold JQ;exact .ltf (λ_=>.gtf (λ_=>.gtf (λ_=>λ_ _ _=>by omega) λ_=>.some nofun) λ_=>.some nofun) λ_=>.some nofun
 exact g _ e rfl
theorem JG7{x:JS}{y:cM}(e:sE (k,x)=some y)(c:y.2=0)(hi:JD k):JD y.1:=by
 have G:Par (sE (k,x)) λy=>y.2=0->JD y.1:=by
  unfold sE;dsimp only;refine .bind λv V=>.not (λ_=>.some nofun) λL=>.ltf (λc0=>.ge (λ_=>.some nofun) λc1=>.bind λy3 h3=>.lt (λ_=>.some nofun) λc3=>.bind λy4 h4=>.gt (λ_=>.some nofun) λc4=>.bind λO T=>.ne (λc=>.some λh=>absurd h c) λQ=>.bind λF R=>?_) λ_=>.some nofun;subst L;obtain⟨i1,i2,i3⟩:=id hi;have J:x.2.1=bS k.2.2.1.2.1 x.1:=(by grind [XV]);have H:0<=x.1/\x.1<k.1:=⟨by omega,by omega⟩;obtain⟨C,B⟩:=JN8 T Q;have A:=FO R;refine .ite (λD=>.bind λ_ _=>.bind λy8 w=>.bind λ_ _=>.bind λZ j=>?_) λD=>.some λ_=>⟨i1,i2,?_⟩;have hlen: ∀z:aG,(Jw .i64 (J0 (k.2.2.2.1.2.1++[z])) 1).toNat=k.2.2.2.1.2.1.length:=λz=>by
   have o:=bD (J0 (k.2.2.2.1.2.1++[z])) 1;have q:=JFh (MM V);have N:=Ja (l:=k.2.2.2.1.2.1);rw[FU,rE]at*;grind [J0]
  have st: ∀a b:aG,(k.2.2.2.1.2.1++[a]).set k.2.2.2.1.2.1.length b=k.2.2.2.1.2.1++[b]:=λa b=>by simp
  have I: ∀a:aG,(k.2.2.2.1.2.1++[a])[k.2.2.2.1.2.1.length]?=some a:=λa=>by simp
  unfold aY bF at*;rw[C,hlen,I]at w;injection w with w;subst w;simp only[C,hlen,st,I]at j⊢;injection j with j;subst j;refine .while (λz=>z.2.1=k/\z.2.2.1=x/\z.2.2.2.2.1=k.2.2.2.1.2.1++[(x,true,F.1.2.1,true)]/\z.1<=9223372036854775807/\(0<=z.1->z.2.2.2.2.2.2.2.2=(k.2.2.2.2.2.2.2.take z.1.toNat).filter λd=>d.1≠x.1)) ⟨rfl,rfl,rfl,show(0:Int)<=9223372036854775807 by decide,λ_=>rfl⟩ ?_;rintro⟨i,g,x2,k3,fr,u1,u2,u3,out⟩ ⟨rfl,rfl,n,M,E⟩
  (try dsimp only at n M E)
  unfold XF;dsimp only;have o:=Jg i 1;have step: ∀{d:aA},idx g.2.2.2.2.2.2.2 i=some d->0<=i/\(0<=J2 .i64 i 1->g.2.2.2.2.2.2.2.take (J2 .i64 i 1).toNat=g.2.2.2.2.2.2.2.take i.toNat++[d]):=fun{d} hd=>by obtain⟨K,S⟩:=cB hd;exact⟨K,λh=>by rw[show(J2 .i64 i 1).toNat=i.toNat+1 by omega,List.take_add_one,S];rfl⟩
  refine .lt (λc=>.bind λd hd=>.ne (λP=>.bind λd2 W=>.bind λa0 Y=>.some ⟨rfl,rfl,n,by grind,λh=>?_⟩) λP=>.some ⟨rfl,rfl,n,by grind,λh=>?_⟩) λc=>.some λ_=>⟨i1,i2,?_⟩;grind [gF];simp_all;show Rel g.2.2.1.2.1 g.1 fr out g.2.2.2.2.2.2.1;have N:=Ja (l:=g.2.2.2.2.2.2.2);rw[n,E (by omega),List.take_of_length_le (by grind [J0])];exact i3.add (f:=(x2,true,F.1.2.1,true)) B H J nofun λd=>by simp
  show Rel _ _ O.2.2.2 _ _;rw[C];refine i3.add (f:=(x,false,0,true)) B H J (λ_ r U=>?_) λd=>⟨λh=>⟨h,A.2 D d h⟩,λh=>h.1⟩;exact(i3.row x.1 r U).2 B (A.2 D)
 exact G _ e c
end
end Go.Am
end
section
namespace Go.Am
set_option linter.unusedVariables false
set_option maxRecDepth 20000
set_option maxHeartbeats 1000000
section
variable {k k':J4}
theorem JKg{y:jv}(e:rO k=some y)(c:y.2.2.2=0)(hi:JD k):JD y.1/\(y.2.2.1=true-> ∃f∈y.1.2.2.2.1.2.1,f.1=y.2.1):=by
 have w:Par (rO k) λy=>y.2.2.2=0->JD y.1/\(y.2.2.1=true-> ∃f∈y.1.2.2.2.1.2.1,f.1=y.2.1):=by
  unfold rO;refine .bind λ_ _=>.not (λ_=>.some nofun) λ_=>.lt (λ_=>.some λ_=>⟨hi,nofun⟩) λ_=>.bind λn B=>.bind λE I=>.bind λf J=>?_;have v0:n.2.2=0:=by
   have C:Par (uN k.2.2.2.1) λy=>y.2.2=0\/y.1=(0,[],0):=by unfold uN;refine .bind λ_ _=>.not (λ_=>.some (.inr rfl)) λ_=>.eq (λ_=>.some (.inr rfl)) λ_=>.while (λ_=>True) trivial λz _=>?_;unfold XE;exact .bind λx S=>.ite (λ_=>.bind λy R=>.bind λq Q=>.bind λ_ _=>.some trivial) λ_=>.map (.bind λ_ _=>.some (.inl rfl))
   rcases C _ B with h|h
   all_goals grind [idx]
  have i3:Rel k.2.2.1.2.1 k.1 n.1.2.1 k.2.2.2.2.2.2.2 k.2.2.2.2.2.2.1:=JGo B hi.2.2 v0;refine .not (λO=>.bind λA F=>.some λ_=>⟨⟨hi.1,hi.2.1,?_⟩,nofun⟩) λ_=>.bind λL r=>.some λ_=>⟨JD.force (k:=(k.1,k.2.1,k.2.2.1,n.1,k.2.2.2.2)) ⟨hi.1,hi.2.1,i3⟩ r,λ_=>⟨f,?_,rfl⟩⟩;show Rel _ _ A.1.2.1 _ _;by_cases G:A.2=0;grind [JKQ];refine absurd ?_ G;have H:Par (gM (n.1,n.2.1)) λi=>0<=i->JQ n.1=some true/\hW (n.1,n.2.1)=some i:=by unfold gM;exact .bind λv K=>.not (λ_=>.some λh=>absurd h (by decide)) λN=>.bind λi hi=>.some λ_=>⟨by simp_all,hi⟩
  obtain⟨o,_⟩:=cB J;obtain⟨v4,P⟩:=H _ I o;have D:Par (uM (n.1,n.2.1)) λy=>y.2=0:=by
   unfold uM;refine .bind λv K=>.not (λc=>?_) λ_=>.bind λj T=>?_;simp_all;have:j=E:=by simp_all
   subst this;refine .lt (λc=>absurd o (by omega)) λ_=>.bind λg M=>.ite (λc=>?_) λ_=>.bind λ_ _=>.bind λ_ _=>.bind λ_ _=>.bind λ_ _=>.lt (λ_=>.ge (λ_=>.some rfl) λ_=>.some rfl) λ_=>.ge (λ_=>.some rfl) λ_=>.some rfl;simp_all
  exact D _ F;rw[(ZY r).2.2.2];grind [nN]
 exact w _ e c
theorem JFo{id:Int}{y:k9}(e:rQ (k,id)=some y)(c:y.2.2=0)(hi:JD k):JD y.1/\ ∃f∈y.1.2.2.2.1.2.1,f.1=y.2.1:=by
 have g:Par (rQ (k,id)) λy=>y.2.2=0->JD y.1/\ ∃f∈y.1.2.2.2.1.2.1,f.1=y.2.1:=(by unfold rQ;refine .bind λ_ _=>.not (λ_=>.some nofun) λ_=>.bind λq n=>.not (λ_=>.some nofun) λj=>.bind λo h=>.some λ_=>⟨hi.force h,?_⟩;obtain⟨f,r,v,_⟩:=(zV n).1 j;grind [ZY]);exact g _ e c
theorem JFz{id j:Int}{y:cM}(e:rZ (k,id,j)=some y)(c:y.2=0)(hi:JD k)(hf: ∃f∈k.2.2.2.1.2.1,f.1.1=id/\f.1.2.1=j):JD y.1:=by
 have D:Par (rZ (k,id,j)) λy=>y.2=0->JD y.1:=by
  obtain⟨f,hf,E,T⟩:=hf;have hot:=(hi.2.2.hot f hf).1;rw[E,T]at hot;have K: ∀{g:gR},fM (k,0,7,0,0,0,j,(id,0,(false,[]),false,[]),[])=some g->g.2.2=0->JD g.1/\g.1.2.2.2.1=k.2.2.2.1/\g.1.1=k.1/\ ∀r,idx g.1.2.2.2.2.2.2.1 id=some r->r.1=bS g.1.2.2.1.2.1 id:=by intro g x z;have q:=OL x z hi (λh=>absurd h (by simp_all)) (λ_=>Int.le_of_eq hot) (λh=>absurd h (by simp_all));refine⟨q.inv hi (by simp_all) (λ_=>Int.le_of_eq hot),?_⟩;obtain⟨U,e',a1,a2,a3,a4,S,M,b0,G,W,a9,V,C⟩:=q;refine⟨G,S,λr o=>?_⟩;obtain⟨A,b1,b2⟩:=(C rfl).2 r o;have H:=(hi.2.2.row id A b1).1;have w:=rB A.1 j;have b2:r.1=cO A.1 j:=b2;rw[M];show r.1=bS (k.2.2.1.2.1++[e']) id;rw[AQ (by simp_all)];omega
  unfold rZ;dsimp only;refine .bind λv U=>.not (λ_=>.some nofun) λZ=>.ltf (λ_=>.gef (λ_=>.ltf (λ_=>.bind λ_ _=>.gt (λ_=>.some nofun) λ_=>.bind λy4 Q=>.ge (λO=>.bind λJ R=>.ne (λc=>.some λh=>absurd h c) λL=>.bind λg x=>.ne (λc=>.some λh=>absurd h c) λz=>.some λ_=>?_) λO=>?_) λ_=>.some nofun) λ_=>.some nofun) λ_=>.some nofun;obtain⟨B,P,g3,g4⟩:=K x z;obtain⟨i,N,b1,b2,H,w⟩:=JIt R L;refine⟨B.1,B.2.1,?_⟩;show Rel g.1.2.2.1.2.1 g.1.1 J.1.2.1 g.1.2.2.2.2.2.2.2 g.1.2.2.2.2.2.2.1;have n:=B.2.2;rw[P]at n;rcases w with w|⟨f',I,Y,F⟩;grind;rw[F];have hh:=n.hot N (nN b1);refine n.upd b1 (by rw[I]) (λ_ _=>rfl) (λ_ _=>rfl) (by grind) (λ_ r o=>?_) λr o=>(n.row _ r o).1;grind;refine absurd E ((dc Q).2 (by omega) (MM ?_) f hf);grind
 exact D _ e c
theorem JDZ{y:gR}(e:BN k=some y)(c:y.2.2=0)(hi:JD k):JD y.1:=by
 have g:Par (BN k) λy=>y.2.2=0->JD y.1:=by unfold BN;exact .bind λ_ _=>.not (λ_=>.some nofun) λ_=>.gt (λ_=>.some nofun) λ_=>.bind λ_ _=>.ne (λc=>.some λh=>absurd h c) λ_=>.some λ_=>hi
 exact g _ e c
theorem JGG{j:Int}{a:mG}{y:dS}(e:sG (k,j,a)=some y)(hi:JD k):JD y.1:=by
 have h:Par (sG (k,j,a)) λy=>JD y.1:=by unfold sG;dsimp only;refine .bind λz h2=>.not (λ_=>.some hi) λq=>.eq (λ_=>.bind λx v=>.bind λ_ _=>.bind λ_ _=>.some ⟨hi.1,hi.2.1,JMy v hi.2.2⟩) λ_=>.bind λ_ _=>.bind λw _=>?_;obtain⟨f,n,_,o⟩:=(zV h2).1 q;exact .eq (λ_=>.bind λr g=>.ne (λ_=>.bind λ_ _=>.some hi) λ_=>.some (mp g hi (.inl rfl) ⟨f,n,o⟩)) λ_=>.bind λr g=>.ne (λ_=>.bind λ_ _=>.some hi) λ_=>.some (mp g hi (.inl rfl) ⟨f,n,o⟩)
 exact h _ e
theorem PT{t m:Int}{y:gR}(e:fM (k,0,m,t,0,0,0,(0,0,(false,[]),false,[]),[])=some y)(c:y.2.2=0)(hi:JD k)(hm:m=3\/m=4\/m=5):JD y.1:=by have q:=OL e c hi (λh=>by grind) (λh=>by simp_all) (λh=>by simp_all);exact q.inv hi (λh=>by grind) (λh=>by simp_all)
theorem JHd{h:Int}{y:dS}(e:sB (k,h)=some y)(hi:JD k):JD y.1:=by
 have g:Par (sB (k,h)) λy=>JD y.1:=by unfold sB;exact .bind λ_ _=>.bind λ_ _=>.eq (λ_=>.bind λ_ _=>.bind λ_ _=>.some hi) λ_=>.bind λr j=>.ne (λ_=>.bind λ_ _=>.some hi) λo=>.bind λq n=>.bind λ_ _=>.some (show JD q from(PT j o hi (.inl rfl)).force n)
 exact g _ e
theorem F9{j st:Int}{y:dS}(e:pR (k,j,st)=some y)(hi:JD k):JD y.1:=by
 have h:Par (pR (k,j,st)) λy=>JD y.1:=by unfold pR;refine .bind λ_ _=>.bind λ_ _=>.bind λ_ _=>.eq (λ_=>.bind λ_ _=>.bind λ_ _=>.some hi) λ_=>.bind λq o=>.ne (λ_=>.bind λ_ _=>.some hi) λn=>.while (λz=>JD z.2.2.2.2.2.2.2) (PT (k:=(k.1,k.2.1,k.2.2.1,k.2.2.2.1,_,k.2.2.2.2.2)) o n hi (.inr (.inl rfl))) λz g=>?_;unfold WP;exact .lt (λ_=>.bind λ_ _=>.eq (λ_=>.bind λ_ _=>.bind λ_ _=>.not (λ_=>.bind λ_ _=>.bind λ_ _=>.some g) λ_=>.some g) λ_=>.some g) λ_=>.some g
 exact h _ e
theorem JLc{v:Int}{a:mG}{y:dS}(e:rJ (k,v,a)=some y)(hi:JD k):JD y.1:=by
 have r:Par (rJ (k,v,a)) λy=>JD y.1:=by unfold rJ;have g: ∀{o:Option (dE)},Par (o.bind λj=>if aN j.2 0 then(Jq j.2).bind λw=>some (k,w)else some ((k.1,k.2.1,k.2.2.1,k.2.2.2.1,k.2.2.2.2.1,j.1,k.2.2.2.2.2.2),1,0,0,(false,[]),0)) λy=>JD y.1:=.bind λ_ _=>.ne (λ_=>.bind λ_ _=>.some hi) λ_=>.some hi;refine .bind λ_ _=>.ne (λ_=>.bind λ_ _=>.some hi) λ_=>.eq (λ_=>.bind λD x=>.some (JHd x hi)) λ_=>.eq (λ_=>.bind λC z=>.some (F9 z hi)) λ_=>.eq (λ_=>.bind λ_ _=>.eq (λ_=>g) λ_=>.ne (λ_=>.bind λ_ _=>.some hi) λ_=>.some hi) λ_=>.eq (λ_=>.bind λ_ _=>.eq (λ_=>g) λ_=>.ne (λ_=>.bind λ_ _=>.some hi) λ_=>.some hi) λ_=>.bind λ_ _=>.bind λh _=>.ne (λ_=>.bind λ_ _=>.some hi) λ_=>.ite (λ_=>.bind λA q=>.eq (λ_=>.some hi) λ_=>.some (JGG (k:=(k.1,k.2.1,k.2.2.1,k.2.2.2.1,h.1,k.2.2.2.2.2)) q hi)) λ_=>.bind λ_ _=>.gt (λ_=>.bind λB n=>.eq (λ_=>.some hi) λ_=>.some (F9 (k:=(k.1,k.2.1,k.2.2.1,k.2.2.2.1,h.1,k.2.2.2.2.2)) n hi)) λ_=>.bind λ_ _=>.some hi
 exact r _ e
theorem Ew{x:Jo}{e:J1}{y:dS}(h:gL (k,x,e)=some y)(hi:JD k):JD y.1:=by
 have j:Par (gL (k,x,e)) λy=>JD y.1:=(by unfold gL;dsimp only;refine .bind λA h2=>.not (λ_=>.some hi) λo=>.bind λn B=>.bind λ_ _=>.ne (λ_=>.bind λ_ _=>.some hi) λ_=>.bind λz q=>.ne (λ_=>.bind λ_ _=>.some hi) λ_=>?_;obtain⟨f,v,_,r⟩:=(zV h2).1 o;have w:n.1=e.2.2.2.2.2.2.1.1:=(by grind [NQ]);have g:=mp q hi (.inr rfl) ⟨f,v,r.trans w.symm⟩;exact .eq (λ_=>.bind λ_ _=>.not (λ_=>.bind λ_ _=>.some g) λ_=>.some g) λ_=>.some g);exact j _ h
end
section
variable {k k':J4}
theorem JHH{g:Int}{c:JE}{y:dS}(h:lC (k,g,c)=some y)(hi:JD k):JD y.1:=by
 have e:Par (lC (k,g,c)) λy=>JD y.1:=by unfold lC;exact .bind λ_ _=>.ne (λ_=>.bind λ_ _=>.some hi) λ_=>.ne (λ_=>.bind λ_ _=>.some hi) λ_=>.bind λ_ _=>.not (λ_=>.some hi) λ_=>.bind λn j=>.some (Ew j hi)
 exact e _ h
theorem pz{j:Int}{y:dS}(h:fN (k,j)=some y)(hi:JD k):JD y.1:=by
 have n:Par (fN (k,j)) λy=>JD y.1:=by unfold fN;have nx: ∀x:Jo,Par ((pH (k,j)).bind λe=>if Jr e.2 then(Jq 14).bind λo=>some (k,o)else(gL (k,x,e.1)).bind λg=>some (g.1,g.2)) λy=>JD y.1:=λx=>.bind λ_ _=>.not (λ_=>.bind λ_ _=>.some hi) λ_=>.bind λz q=>.some (Ew q hi);exact .bind λ_ _=>.ne (λ_=>.bind λ_ _=>.some hi) λ_=>.eq (λ_=>.eq (λ_=>.bind λr w=>.ne (λ_=>.bind λ_ _=>.some hi) λv=>.bind λ_ _=>.some (show JD r.1 from PT w v hi (.inr (.inr rfl)))) λ_=>nx _) λ_=>nx _
 exact n _ h
end
section
variable {k k':J4}
def Fl(r:dQ):Prop:=r.1=5->r.2.2.2.2≠0
theorem me{r:dQ}(h:r.1≠5):Fl r:=λe=>absurd e h
theorem LD{n:Int}{r:dQ}(h:Jq n=some r)(hn: ¬n=0):Fl r:=by unfold Jq at h;injection h with h;subst h;exact λ_=>hn
theorem JL0{x:Jo}{e:J1}{y:dS}(h:gL (k,x,e)=some y):Fl y.2:=by
 have g:Par (gL (k,x,e)) λy=>Fl y.2:=by unfold gL;have d:Fl (1,x.1,0,(false,[]),0):=me (show(1:Int)≠5 by decide);exact .bind λr h2=>.not (λ_=>.some (me (show(3:Int)≠5 by decide))) λj=>.bind λq v=>.bind λ_ _=>.ne (λc=>.bind λ_ h=>.some (LD h c)) λ_=>.bind λn o=>.ne (λc=>.bind λ_ h=>.some (LD h c)) λ_=>.eq (λ_=>.bind λ_ _=>.not (λ_=>.bind λ_ _=>.some d) λ_=>.some d) λ_=>.some d
 exact g _ h
theorem pb{j:Int}{y:dS}(h:fN (k,j)=some y):Fl y.2:=by
 have n:Par (fN (k,j)) λy=>Fl y.2:=by unfold fN;have nx: ∀x:Jo,Par ((pH (k,j)).bind λe=>if Jr e.2 then(Jq 14).bind λo=>some (k,o)else(gL (k,x,e.1)).bind λg=>some (g.1,g.2)) λy=>Fl y.2:=λx=>.bind λ_ _=>.not (λ_=>.bind λ_ h=>.some (LD h (by decide))) λ_=>.bind λr q=>.some (JL0 q);exact .bind λ_ _=>.ne (λc=>.bind λ_ h=>.some (LD h c)) λ_=>.eq (λ_=>.eq (λ_=>.bind λv z=>.ne (λc=>.bind λ_ h=>.some (LD h c)) λw=>.bind λ_ _=>.some (me (show(1:Int)≠5 by decide))) λ_=>nx _) λ_=>nx _
 exact n _ h
end
end Go.Am
end
section
namespace Go.Am
set_option linter.unusedVariables false
set_option maxRecDepth 20000
set_option maxHeartbeats 1000000
section
variable {s:Ju}
theorem Gm{k:J4}{x:JS}{y:dU}(e:pL (s,k,x)=some y)(c:y.2=0)(hi:JD k)(hf: ∃f∈k.2.2.2.1.2.1,f.1=x):JD y.1.1:=by
 have g:Par (pL (s,k,x)) λy=>y.2=0->JD y.1.1:=(by unfold pL;refine .bind λ_ _=>.bind λ_ _=>.ne (λc=>.some λh=>absurd h c) λ_=>.bind λo n=>.ne (λc=>.some λh=>absurd h c) λj=>.some λ_=>JFz n j hi ?_;grind);exact g _ e c
theorem JFs{id:Int}{y:dU}(e:BW (s,id)=some y)(c:y.2=0)(hi:JD s.1):JD y.1.1:=by
 have g:Par (BW (s,id)) λy=>y.2=0->JD y.1.1:=(by unfold BW;refine .bind λn h2=>.ne (λc=>.some λh=>absurd h c) λj=>.bind λ_ _=>.bind λ_ _=>.not (λ_=>.some λ_=>hi) λ_=>.bind λo q=>.some λk=>?_;grind [JFo,Gm]);exact g _ e c
theorem JKy{y:dU}(e:rN s=some y)(c:y.2=0)(hi:JD s.1):JD y.1.1:=by
 have g:Par (rN s) λy=>y.2=0->JD y.1.1:=by unfold rN;refine .while (λz=>JD z.1.1) hi λz v=>?_;unfold VY;refine .bind λw r=>.ne (λc=>.some λh=>absurd h c) λq=>?_;obtain⟨j,n⟩:=JKg r q v;exact .not (λ_=>.some λ_=>j) λc=>.bind λx o=>.ne (λc=>.some λh=>absurd h c) λk=>.some (Gm o k j (n c))
 exact g _ e c
theorem LV{id:Int}{y:dU}(e:lE (s,id)=some y)(c:y.2=0)(hi:JD s.1):JD y.1.1:=by
 have g:Par (lE (s,id)) λy=>y.2=0->JD y.1.1:=by unfold lE;exact .bind λ_ _=>.not (λ_=>.some nofun) λ_=>.ltf (λ_=>.ge (λ_=>.some nofun) λ_=>.bind λ_ _=>.ge (λ_=>.some λ_=>hi) λ_=>.bind λq o=>.ne (λc=>.some λh=>absurd h c) λn=>.bind λ_ _=>.ne (λc=>.some λh=>absurd h c) λ_=>.bind λ_ _=>.bind λ_ _=>.ne (λc=>.some λh=>absurd h c) λ_=>.bind λ_ _=>.ne (λc=>.some λh=>absurd h c) λ_=>.bind λr k=>.ne (λc=>.some λh=>absurd h c) λj=>.some λ_=>JG7 k j (JKy o n hi)) λ_=>.some nofun
 exact g _ e c
theorem JCS{k:Int}{y:dU}(e:pU (s,k)=some y)(c:y.2=0)(hi:JD s.1):JD y.1.1:=by
 have j:Par (pU (s,k)) λy=>y.2=0->JD y.1.1:=by unfold pU;refine .bind λ_ _=>.not (λ_=>.some nofun) λ_=>.bind λ_ _=>.lt (λ_=>.some nofun) λ_=>.while (λz=>JD z.2.1.1) hi λz g=>?_;unfold ny;exact .bind λ_ _=>.ite (λ_=>.bind λr n=>.eq (λc=>.some λh=>absurd h (pb (by assumption) c)) λ_=>.eq (λ_=>.bind λv q=>.ne (λc=>.some λh=>absurd h c) λo=>.some (LV q o g)) λ_=>.some (pz n g)) λ_=>.some λ_=>g
 exact j _ e c
theorem JMg{q:Int}{a:mG}{y:hY}(e:AK (s,q,a)=some y)(hi:JD s.1):JD y.1.1:=by
 have n:Par (AK (s,q,a)) λy=>JD y.1.1:=by
  unfold AK;refine .while (λz=>JD z.2.1.1) hi λz B=>?_;unfold gv;refine .bind λj C=>?_;have g:=JLc C B;have rb: ∀{Q:(lK)⊕(hY)->Prop},(∀y,JD y.1.1->Q (.inr y))->Par ((uY ((j.1,z.2.1.2),z.1)).bind λw=>if w then(pU ((j.1,z.2.1.2),z.1)).bind λk=>if aN k.2 0 then(Jq k.2).bind λo=>some (.inr ((j.1,z.2.1.2),o))else some (.inr (k.1,j.2))else some (.inr ((j.1,z.2.1.2),j.2))) Q:=
   λh=>.bind λ_ _=>.ite (λ_=>.bind λD v=>.ne (λ_=>.bind λ_ _=>.some (h _ g)) λr=>.some (h _ (JCS (s:=(j.1,z.2.1.2)) v r g))) λ_=>.some (h _ g)
  exact .eq (λ_=>.bind λE A=>.ne (λ_=>.bind λ_ _=>.some g) λx=>.some (LV (s:=(j.1,z.2.1.2)) A x g)) λ_=>.eqf (λ_=>.eq (λ_=>.eqf (λ_=>.eq (λ_=>rb λ_ h=>h) λ_=>.some g) λ_=>rb λ_ h=>h) λ_=>.some g) λ_=>rb λ_ h=>h
 exact n _ e
theorem sg{y:pY}(e:CF s=some y)(c:y.2.2=0)(hi:JD s.1):JD y.1.1:=by
 have g:Par (CF s) λy=>y.2.2=0->JD y.1.1:=by unfold CF;exact .bind λk h2=>.ne (λc=>.some λh=>absurd h c) λj=>.some λ_=>JDZ h2 j hi
 exact g _ e c
theorem ed{j:Int}{l:JE}{y:pY}(e:AU (s,j,l)=some y)(hi:JD s.1):JD y.1.1:=by
 have h:Par (AU (s,j,l)) λy=>JD y.1.1:=by unfold AU;refine .while (λz=>JD z.2.2.1.1) hi λz g=>?_;unfold ix;exact .bind λr o=>.eq (λ_=>.some g) λ_=>.eq (λ_=>.bind λq n=>.ne (λ_=>.some g) λk=>.some (LV n k g)) λ_=>.eq (λ_=>.some g) λ_=>.some (JHH o g)
 exact h _ e
theorem YH{k:Int}{a:mG}{y:hY}(e:AM (s,k,a)=some y)(hi:JD s.1):JD y.1.1:=by
 have j:Par (AM (s,k,a)) λy=>JD y.1.1:=by unfold AM;refine .while (λz=>JD z.2.1.1) hi λz o=>?_;unfold g0;refine .bind λq n=>?_;have g:=JMg n o;exact .ne (λ_=>.some g) λ_=>.bind λ_ _=>.not (λ_=>.some g) λ_=>.bind λr h=>.ne (λ_=>.bind λ_ _=>.some (ed h g)) λ_=>.eq (λ_=>.some (ed h g)) λ_=>.some (ed h g)
 exact j _ e
theorem JLj{y:ko}(e:BB s=some y)(c:y.2.2=0)(hi:JD s.1):JD y.1.1:=by
 have g:Par (BB s) λy=>y.2.2=0->JD y.1.1:=by unfold BB;refine .bind λ_ _=>.not (λ_=>.some nofun) λ_=>.gt (λ_=>.bind λ_ _=>.bind λv r=>.some λq=>LV r q hi) λ_=>.bind λ_ _=>.eq (λ_=>.some λ_=>hi) λ_=>.while (λz=>JD z.2.1.1) hi λz j=>?_;unfold iu;exact .bind λ_ _=>.bind λx o=>.eq (λc=>.some λh=>absurd h (pb (by assumption) c)) λ_=>.ne (λ_=>.some λ_=>pz o j) λ_=>.bind λw n=>.ne (λc=>.some λh=>absurd h c) λk=>.some (LV n k j)
 exact g _ e c
end
end Go.Am
end
section
namespace Go.Am
set_option linter.unusedVariables false
set_option maxRecDepth 20000
set_option maxHeartbeats 1000000
section
theorem DO{n:Int}(h1:0<=n)(h2:n<18446744073709551616):IntKind.u64.wrap n=n:=by
 grind [IntKind.wrap,IntKind.bits,IntKind.signed]
theorem Bw{n:Int}(h1: -9223372036854775808<=n)(h2:n<=9223372036854775807):IntKind.i64.wrap n=n:=by
 grind [IntKind.wrap,IntKind.bits,IntKind.signed]
theorem JMY{l:List UInt8}{k:Nat}(h:k<l.length):oA l (k:Int)=some ((l[k]).toNat:Int):=by simp[oA,h]
theorem JLC{x b j:Nat}(hj:j<=7)(hx:x<2^(8*j))(hb:b<256):
  orI .u64 (x:Int) (IntKind.wrap .u64 (((b:Nat):Int)*2^(8*j)))=((x+b*2^(8*j):Nat):Int):=by
 have e:(2:Nat)^(8*j)*256<=2^64:=by rw[show(256:Nat)=2^8 by rfl,<-Nat.pow_add];exact DK (by omega) (by omega)
 have g:b*2^(8*j)+2^(8*j)<=2^64:=(by have:(b+1)*2^(8*j)<=256*2^(8*j):=zQ4 _ (by omega);grind);have w:IntKind.wrap .u64 (((b:Nat):Int)*2^(8*j))=((b*2^(8*j):Nat):Int):=(by grind [DO]);rw[w];have h: ∀y:Nat,y<2^64->(BitVec.ofInt 64 (y:Int)).toNat=y:=by simp_all
 show IntKind.wrap .u64 (((BitVec.ofInt 64 (x:Int)|||BitVec.ofInt 64 ((b*2^(8*j):Nat):Int)).toNat:Nat):Int)=_;grind [Nat.mul_comm,Nat.two_pow_add_eq_or_of_lt,DO]
theorem JBy{n i:Nat}(hn:n<2^64):J7b (n:Int) i=((n/2^(8*i)%256:Nat):Int):=by
 show((IntKind.wrap .u64 (n:Int)).fdiv (2^(8*i)))%256=_;grind [DO]
theorem JGi{n:Int}{k i:Nat}(h:i<k):(J0h n k)[i]?=some (UInt8.ofNat (J7b n i).toNat):=by
 grind [J0h,toStr]
theorem cP{s r:List UInt8}{n:Int}{k:Nat}(h1:1<=k)(E:k<=8)(h:JM (s,n,(k:Int))=some r):r=s++J0h n k:=by
 have v:Par (JM (s,n,(k:Int))) λr=>r=s++J0h n k:=by
  unfold JM;refine .ltf (λ_=>.gt (λc=>by grind) λ_=>?_) λc=>by grind
  refine .while (λz=>z.2.1=n/\z.2.2.1=(k:Int)/\ ∃j:Nat,z.2.2.2=(j:Int)/\j<=k/\z.1=s++J0h n j) ⟨rfl,rfl,0,rfl,zQ2 _,by simp[J0h,toStr]⟩ ?_;rintro⟨o,w,k',B⟩ ⟨rfl,rfl,j,rfl,G,e⟩
  (try dsimp only at e)
  subst e;unfold g8;dsimp only;have D:=Jg (j:Int) 1;have C:=tL 8 (j:Int);refine .lt (λc=>.bind λx q=>.bind λF g=>.some ⟨rfl,rfl,j+1,by grind,by omega,?_⟩) λc=>.some (by grind);have A:aU .u8 x=J7b w j:=by
   have y:aU .u64 (bX .i64 8 (j:Int))=((8*j:Nat):Int):=(by grind [aU,DO]);rw[y]at q;simp only[jR]at q;rw[if_neg (by omega)]at q;injection q with q;rw[<-q];have:min (((8*j:Nat):Int)).toNat IntKind.u64.bits=8*j:=by simp only[Int.toNat_natCast];exact Nat.min_eq_left (by show 8*j<=64;omega)
   rw[this];rfl
  rw[A]at g;dsimp only;unfold dA at g;split at g;injection g with g;rw[<-g,JrA,lL];rfl;cases g
 exact v _ h
def At(s w:List UInt8)(p:Int):Prop:= ∃pre e,s=pre++(w++e)/\(pre.length:Int)=p
theorem At.left{s a b:List UInt8}{p:Int}(h:At s (a++b) p):At s a p:=by obtain⟨pre,g,e,h⟩:=h;exact⟨pre,b++g,by rw[e];simp,h⟩
theorem At.right{s a b:List UInt8}{p:Int}(h:At s (a++b) p):At s b (p+a.length):=by obtain⟨pre,g,e,h⟩:=h;exact⟨pre++a,g,by rw[e];simp,by simp_all⟩
theorem At.bnd{s w:List UInt8}{p:Int}(h:At s w p):0<=p/\p+w.length<=s.length:=by
 obtain⟨pre,g,e,h⟩:=h;grind
theorem At.slc{s w r:List UInt8}{p q:Int}(h:At s w p)(hq:q=p+w.length)(e:bH s (some p) (some q)=some r):r=w:=by
 obtain⟨pre,g,rfl,rfl⟩:=h;obtain⟨r',e',d,_⟩:=EY (l:=pre++(w++g)) (j:=pre.length) (k:=q) (by omega) (by omega) (by grind [J0]);rw[e']at e;injection e with e;subst e;rw[d,show(q-(pre.length:Int)).toNat=w.length by omega];simp
theorem At.all{s:List UInt8}:At s s 0:=⟨[],[],by simp,rfl⟩
theorem zB{s:List UInt8}{p:Int}{n k:Nat}(h:At s (J0h n k) p)(h1:1<=k)(J:k<=8)(hn:n<2^(8*k))(E:n<2^63)(hl:s.length<=4611686018427387904):
  cV (s,p,(k:Int))=some ((n:Int),0):=by
 have q:=h.bnd;rw[Jx]at q;obtain⟨pre,B,L,rfl⟩:=h;have v:Tot (cV (s,(pre.length:Int),(k:Int))) λy=>y=((n:Int),0):=by
  unfold cV;have o:=bD (J0 s) (pre.length:Int);have F:J0 s=(s.length:Int):=rfl;refine .ltf (λ_=>.gtf (λ_=>.lt (λc=>by grind) λ_=>.gtf (λ_=>.lt (λc=>by grind) λ_=>?_) λc=>by grind) λc=>by grind) λc=>by grind
  refine Jk (τ:=Nat) (λj=>(s,(pre.length:Int),(k:Int),((n%2^(8*j):Nat):Int),(j:Int))) (λj=>j<=k) (λj=>(k:Int)-j) ?_ 0 (by simp_all) (zQ2 _);intro j M;unfold WI;dsimp only;have H:=Jg (j:Int) 1;have G:=tL 8 (j:Int);have I:=Jg (pre.length:Int) (j:Int);refine .lt (λc=>?_) λc=>.some ?_;have D:J2 .i64 (pre.length:Int) (j:Int)=((pre.length+j:Nat):Int):=by omega
  have g:pre.length+j<s.length:=by omega
  have q:(s[pre.length+j]'g).toNat=n/2^(8*j)%256:=(by have K:s[pre.length+j]?=some (UInt8.ofNat (J7b (n:Int) j).toNat):=(by grind [Jx,JGi]);grind [Job,JBy]);have w:n/2^(8*j)%256<256:=Nat.mod_lt _ (by omega);have A:aU .u64 (bX .i64 8 (j:Int))=((8*j:Nat):Int):=(by grind [aU,DO]);have C:sP .u64 (aU .u64 (((s[pre.length+j]'g).toNat:Nat):Int)) ((8*j:Nat):Int)=some (IntKind.wrap .u64 (((n/2^(8*j)%256:Nat):Int)*2^(8*j))):=by
   unfold aU;rw[q,DO (by omega) (by omega)];simp only[sP];rw[if_neg (by omega)];have:min (((8*j:Nat):Int)).toNat IntKind.u64.bits=8*j:=by simp only[Int.toNat_natCast];exact Nat.min_eq_left (by show 8*j<=64;omega)
   rw[this]
  have r:=JLC (x:=n%2^(8*j)) (b:=n/2^(8*j)%256) (j:=j) (by omega) (Nat.mod_lt _ (Nat.two_pow_pos _)) w;have z:n%2^(8*j)+n/2^(8*j)%256*2^(8*j)=n%2^(8*(j+1)):=by rw[Nat.mul_add,Nat.pow_add,Nat.mod_mul,HX (n/2^(8*j)%256)]
  rw[z]at r;rw[D,JMY g,JL,A,C,JL,r];exact .some ⟨j+1,by grind,by omega,by omega,by omega⟩;grind [Nat.mod_eq_of_lt,aU,Bw]
 obtain⟨y,e,d⟩:=v;rw[e,d]
end
end Go.Am
end
section
namespace Go.Am
set_option linter.unusedVariables false
set_option maxRecDepth 20000
set_option maxHeartbeats 1000000
section
def CellF (c : fL) : Prop := J0 c.2 ≤ 12 ∧ (c.1 = false → c.2 = [])
def EV (e : J1) : Prop := (1 ≤ e.1 ∧ e.1 ≤ 1099511627776) ∧ (0 ≤ e.2.2.2.1 ∧ e.2.2.2.1 < e.1) ∧ (0 ≤ e.2.2.2.2.1 ∧ e.2.2.2.2.1 < e.1) ∧ (0 ≤ e.2.2.2.2.2.1 ∧ e.2.2.2.2.2.1 < e.1) ∧
  (1 ≤ e.2.1 ∧ e.2.1 ≤ 8) ∧ (0 ≤ e.2.2.1 ∧ e.2.2.1 ≤ 1073741824) ∧ (0 ≤ aR e ∧ aR e < 64) ∧ (0 ≤ e.2.2.2.2.2.2.1.2.1 ∧ e.2.2.2.2.2.2.1.2.1 < 16) ∧ CellF e.2.2.2.2.2.2.1.2.2.1 ∧ CellF e.2.2.2.2.2.2.1.2.2.2 ∧ J0 e.2.2.2.2.2.2.2 ≤ 8192
theorem cellF_of {c : fL} (h : JR c = some true) : CellF c := by
  have key : Par (JR c) fun y => y = true → CellF c := by
    unfold JR
    refine .ite (fun c1 => .itf (fun c2 => .some ?_) fun c2 => .some ?_) fun c1 => .some ?_
    all_goals grind [CellF, eqS, aX, J0]
  exact key _ h rfl
theorem EV.of {e : J1} (h : Jl e = some true) : EV e := by
  obtain ⟨q1, q2, q3, q4, q5, q6, ⟨q7, q8, q9, q10⟩, q11⟩ := e
  have c3 : ∀ {c : aL} {b : Bool}, kK c = some b → b = true → (0 ≤ c.1 ∧ c.1 < 64) ∧ (0 ≤ c.2.1 ∧ c.2.1 < 16) ∧ CellF c.2.2.1 ∧ CellF c.2.2.2 := fun {c b} hb cb => by
    have key : Par (kK c) fun y => y = true → (0 ≤ c.1 ∧ c.1 < 64) ∧ (0 ≤ c.2.1 ∧ c.2.1 < 16) ∧ CellF c.2.2.1 ∧ CellF c.2.2.2 := by
      unfold kK
      refine .ge (fun c1 => .lt (fun c2 => .ge (fun c3 => .lt (fun c4 => .bind fun a ha => .ite (fun d1 => .bind fun b hb => .some fun d2 => ?_) fun _ => .some nofun) fun _ => .some nofun) fun _ => .some nofun) fun _ => .some nofun) fun _ => .some nofun
      subst d1; subst d2
      exact ⟨⟨c1, c2⟩, ⟨c3, c4⟩, cellF_of ha, cellF_of hb⟩
    exact key _ hb cb
  have z : CellF (false, []) := ⟨show (0 : Int) ≤ 12 by decide, fun _ => rfl⟩
  have k1 : Par (pP (q1, q2, q3, q4, q5, q6, (q7, q8, q9, q10), q11)) fun y => y.2 = true → y.1 = (q1, q2, q3, q4, q5, q6, (q7, q8, q9, q10), q11) → (1 ≤ q2 ∧ q2 ≤ 8) ∧ (0 ≤ q3 ∧ q3 ≤ 1073741824) ∧ (0 ≤ q7 ∧ q7 < 64) ∧ (0 ≤ q8 ∧ q8 < 16) ∧ CellF q9 ∧ CellF q10 ∧ J0 q11 ≤ 8192 := by
    unfold pP
    dsimp only
    repeat' first
      | refine .eq (fun _ => ?_) fun _ => ?_
      | refine .ge (fun _ => ?_) fun _ => ?_
      | refine .le (fun _ => ?_) fun _ => ?_
      | refine .gt (fun _ => ?_) fun _ => ?_
      | exact .some fun h => absurd h Bool.false_ne_true
      | refine .bind fun v hv => .ite (fun cv => ?_) fun _ => .some nofun
      | refine .bind fun v hv => .eq (fun _ => .ite (fun cv => ?_) fun _ => .some nofun) fun _ => .ite (fun cv => ?_) fun _ => .some nofun
    all_goals refine .some fun c he => ?_
    all_goals simp only [Prod.mk.injEq, true_and, and_true] at he
    all_goals simp only [eG, iG, uA] at c
    all_goals first
      | exact ⟨by omega, by omega, (c3 hv cv).1, (c3 hv cv).2.1, (c3 hv cv).2.2.1, (c3 hv cv).2.2.2, by rw [← he]; exact (by decide : (0 : Int) ≤ 8192)⟩
      | exact ⟨by omega, by omega, (c3 hv cv).1, (c3 hv cv).2.1, (c3 hv cv).2.2.1, (c3 hv cv).2.2.2, by rw [← he.2]; exact (by decide : (0 : Int) ≤ 8192)⟩
      | (have e9 : q9 = (false, []) := by grind
         have e10 : q10 = (false, []) := by grind
         have e11 : J0 q11 ≤ 8192 := by
           first
             | exact c
             | (have : q11 = [] := by grind
                rw [this]; exact (by decide : (0 : Int) ≤ 8192))
         rw [e9, e10]
         exact ⟨by omega, by omega, by omega, by omega, z, z, e11⟩)
  have bf : ∀ {n l : Int} {b : Bool}, kM (n, l) = some b → b = true → 0 ≤ n ∧ n < l := fun {n l b} hb cb => fo (by rw [← cb]; exact hb)
  have key : Par (Jl (q1, q2, q3, q4, q5, q6, (q7, q8, q9, q10), q11)) fun y => y = true → EV (q1, q2, q3, q4, q5, q6, (q7, q8, q9, q10), q11) := by
    unfold Jl
    exact .bind fun a ha => .ite (fun c1 => .ite (fun c2 => .ge (fun c3 => .le (fun c4 => .bind fun b1 hb1 => .ite (fun d1 => .bind fun b2 hb2 => .ite (fun d2 => .bind fun b3 hb3 => .some fun d3 => ⟨⟨c3, c4⟩, bf hb1 d1, bf hb2 d2, bf hb3 d3, k1 _ ha c1 (J0X.1 c2)⟩) fun _ => .some nofun) fun _ => .some nofun) fun _ => .some nofun) fun _ => .some nofun) fun _ => .some nofun) fun _ => .some nofun
  exact key _ h rfl
end
end Go.Am
end
section
namespace Go.Am
set_option linter.unusedVariables false
set_option maxRecDepth 20000
set_option maxHeartbeats 1000000
section
def eF(c:fL):List UInt8:=if c.1=false then J0h 255 1 else J0h (J0 c.2) 1++c.2
def eA(e:J1):List UInt8:=J0h e.1 8++(J0h e.2.1 1++(J0h e.2.2.1 4++(J0h e.2.2.2.1 8++(J0h e.2.2.2.2.1 8++(J0h e.2.2.2.2.2.1 8++(J0h (aR e) 4++(J0h e.2.2.2.2.2.2.1.2.1 1++(eF e.2.2.2.2.2.2.1.2.2.1++(eF e.2.2.2.2.2.2.1.2.2.2++(J0h (J0 e.2.2.2.2.2.2.2) 4++e.2.2.2.2.2.2.2))))))))))
theorem lX{a b r:List UInt8}(h:dA a b=some r):r=a++b:=by
 grind [dA]
theorem LG{s r:List UInt8}{c:fL}(h:pG (s,c)=some r):r=s++eF c:=by
 have e:Par (pG (s,c)) λr=>r=s++eF c:=by
  unfold pG eF;refine .not (λd=>.bind λj h2=>.some ?_) λd=>.bind λg o=>.bind λk n=>.some ?_
  all_goals grind [cP,lX]
 exact e _ h
theorem Dh{e:J1}{y:List UInt8×Int}(h:sD e=some y)(hv:Jl e=some true):y=(eA e,0):=by
 have r:Par (sD e) λy=>y=(eA e,0):=(by unfold sD;refine .bind λv G=>.not (λc=>?_) λ_=>.bind λL D=>.bind λQ B=>.bind λN C=>.bind λO z=>.bind λK w=>.bind λM x=>.bind λP A=>.bind λE n=>.bind λJ q=>.bind λI o=>.bind λF g=>.bind λH j=>.some ?_;simp_all;rw[lX j,cP (k:=4) (by decide) (by decide) g,LG o,LG q,cP (k:=1) (by decide) (by decide) n,cP (k:=4) (by decide) (by decide) A,cP (k:=8) (by decide) (by decide) x,cP (k:=8) (by decide) (by decide) w,cP (k:=8) (by decide) (by decide) z,cP (k:=4) (by decide) (by decide) C,cP (k:=1) (by decide) (by decide) B,cP (k:=8) (by decide) (by decide) D];unfold eA;simp only[lL,oC];rfl);exact r _ h
variable {s:List UInt8} {p:Int}
theorem eV{n:Int}{k:Nat}(b:Nat)(h:At s (J0h n k) p)(hl:s.length<=1000000)(h0:0<=n)(hn:n<b)(hb:b=2^(8*k):=by rfl)(h1:1<=k:=by decide)(j:k<=8:=by decide)(q:n<9223372036854775808:=by omega):Jh ((k:Int),s,p,0)=some (n,s,p+k,0):=by have e:=h.bnd;rw[Jx]at e;obtain⟨m,rfl⟩:=Int.eq_ofNat_of_zero_le h0;have g:=zB h h1 j (by omega) (by omega) (by omega);have o:=Jg p (k:Int);unfold Jh;dsimp only;rw[if_neg (by decide),g];dsimp only[Option.bind_some];rw[if_neg (by decide),show J2 .i64 p (k:Int)=p+k by omega]
theorem KH{w:List UInt8}(h:At s w p)(hl:s.length<=1000000):pV (J0 w,s,p,0)=some (w,s,p+w.length,0):=by
 have k:=h.bnd;have o:=Jg p (J0 w);have q:=bD (J0 s) p;have n:=bD (J2 .i64 p (J0 w)) (J0 w);have v:J0 w=w.length:=rfl;have x:J0 s=s.length:=rfl;have g:Tot (pV (J0 w,s,p,0)) λy=>y=(w,s,p+w.length,0):=by unfold pV;dsimp only;refine .ne (λc=>absurd rfl c) λ_=>.gt (λc=>by omega) λ_=>?_;rw[show Jw .i64 (J2 .i64 p (J0 w)) (J0 w)=p by omega,show J2 .i64 p (J0 w)=p+w.length by omega];refine .bind (EY (l:=s) k.1 (by omega) (by omega)).eqn λr j=>.some ?_;rw[h.slc rfl j.2]
 obtain⟨y,e,d⟩:=g;rw[e,d]
theorem IR{c:fL}(h:At s (eF c) p)(hc:CellF c)(hl:s.length<=1000000):uZ (s,p,0)=some (c,s,p+(eF c).length,0):=by
 unfold eF at h⊢;unfold uZ;obtain⟨b,d⟩:=c;obtain⟨h1,h2⟩:=hc
 (try dsimp only at h h1 h2⊢)
 have e:=Ja (l:=d);cases b with
 |false=>rw[if_pos rfl]at h⊢;have g:=eV (k:=1) 256 h hl (by decide) (by decide);rw[show Jh (1,s,p,0)=_ from g,h2 rfl];rfl
 |true=>
  rw[if_neg (by decide)]at h⊢;have g:=eV (k:=1) 256 h.left hl (by omega) (by omega);have j:=KH h.right hl;grind [Jh,jI,uA,Jx]
theorem mg{e:J1}(hv:Jl e=some true):xW (eA e)=some (e,0)/\(eA e).length<=8300:=by
 obtain⟨N,O,v3,v4,P,I,J,M,r,h,H⟩:=EV.of hv;have j: ∀{c:fL},CellF c->(eF c).length<=13:=fun{c} hc=>by
  unfold eF;have:=hc.1;grind [J0,Jx]
 have K:=j r;have L:=j h;have E:(eA e).length=46+(eF e.2.2.2.2.2.2.1.2.2.1).length+(eF e.2.2.2.2.2.2.1.2.2.2).length+e.2.2.2.2.2.2.2.length:=(by grind [eA,List.length_append,Jx]);have G:J0 e.2.2.2.2.2.2.2=e.2.2.2.2.2.2.2.length:=rfl;refine⟨?_,by omega⟩;have g:(eA e).length<=1000000:=by omega
 generalize F:eA e=s at E g;have a0:At s (eA e) 0:=by rw[F];exact .all
 unfold eA at a0;have D:=eV (k:=8) 18446744073709551616 a0.left g (by omega) (by omega);replace a0:=a0.right;simp only[Jx]at a0;have C:=eV (k:=1) 256 a0.left g (by omega) (by omega);replace a0:=a0.right;simp only[Jx]at a0;have B:=eV (k:=4) 4294967296 a0.left g (by omega) (by omega);replace a0:=a0.right;simp only[Jx]at a0;have z:=eV (k:=8) 18446744073709551616 a0.left g (by omega) (by omega);replace a0:=a0.right;simp only[Jx]at a0;have A:=eV (k:=8) 18446744073709551616 a0.left g (by omega) (by omega);replace a0:=a0.right;simp only[Jx]at a0;have v:=eV (k:=8) 18446744073709551616 a0.left g (by omega) (by omega);replace a0:=a0.right;simp only[Jx]at a0;have x:=eV (k:=4) 4294967296 a0.left g (by omega) (by omega);replace a0:=a0.right;simp only[Jx]at a0;have y:=eV (k:=1) 256 a0.left g (by omega) (by omega);replace a0:=a0.right;simp only[Jx]at a0;have w:=IR a0.left r g;replace a0:=a0.right;have q:=IR a0.left h g;replace a0:=a0.right;have n:=eV (k:=4) 4294967296 a0.left g (by omega) (by omega);replace a0:=a0.right;simp only[Jx]at a0;have o:=KH a0 g;unfold xW;rw[show Jh (8,s,0,0)=_ from D,JL];rw[show Jh (1,s,_,0)=_ from C,JL];rw[show Jh (4,s,_,0)=_ from B,JL];rw[show Jh (8,s,_,0)=_ from z,JL];rw[show Jh (8,s,_,0)=_ from A,JL];rw[show Jh (8,s,_,0)=_ from v,JL];rw[show Jh (4,s,_,0)=_ from x,JL];rw[show Jh (1,s,_,0)=_ from y,JL];rw[w,JL];rw[q,JL];rw[show Jh (4,s,_,0)=_ from n,JL];rw[o,JL];dsimp only;rw[if_neg (by decide),if_neg (by grind [wX,J0])];rw[show Jl (e.1,e.2.1,e.2.2.1,e.2.2.2.1,e.2.2.2.2.1,e.2.2.2.2.2.1,(aR e,e.2.2.2.2.2.2.1.2.1,e.2.2.2.2.2.2.1.2.2.1,e.2.2.2.2.2.2.1.2.2.2),e.2.2.2.2.2.2.2)=some true from hv];rfl
end
end Go.Am
end
section
namespace Go.Am
set_option linter.unusedVariables false
set_option maxRecDepth 20000
set_option maxHeartbeats 1000000
section
variable {s r w:List UInt8} {p:Int}
theorem Ds{c:Int}(h:pE s=some c):0<=c/\c<4294967296:=by
 have e:Par (pE s) λc=>0<=c/\c<4294967296:=(by unfold pE;refine .while (λ_=>True) trivial λz _=>?_;unfold ib;refine .lt (λ_=>.bind λ_ _=>.while (λ_=>True) trivial λz _=>?_) λ_=>.some ?_;unfold ii;exact .lt (λ_=>.eq (λ_=>.bind λ_ _=>.some trivial) λ_=>.bind λ_ _=>.some trivial) λ_=>.some trivial;exact⟨(pB .u32 _).1,Int.lt_of_le_of_lt (pB .u32 _).2 (by decide)⟩);exact e _ h
def FrB(w r:List UInt8):Prop:=J0 w<=8392/\ ∃c,pE (J0h (J0 w) 4++w)=some c/\r=(J0h (J0 w) 4++w)++J0h c 4
theorem Du(h:xM w=some r)(hl:J0 w<=8392):FrB w r:=by
 have e:Par (xM w) λr=>FrB w r:=(by unfold xM;refine .gt (λc=>by omega) λ_=>.bind λv h2=>.bind λn g=>.bind λc hc=>.bind λo j=>.some ⟨hl,c,?_,?_⟩;rw[lX g,cP (k:=4) (by decide) (by decide) h2]at hc;exact hc;obtain⟨q,x⟩:=Ds hc;rw[cP (k:=4) (by decide) (by decide) j,lX g,cP (k:=4) (by decide) (by decide) h2];grind [aU,Bw]);exact e _ h
theorem FrB.len(h:FrB w r):(r.length:Int)=J0 w+8:=by
 obtain⟨_,c,_,rfl⟩:=h;grind [Jx,J0]
theorem Dv(h:FrB w r)(ha:At s r p)(hl:s.length<=4611686018427387904):nT (s,p)=some (w,p+r.length,0):=by
 have j:=ha.bnd;have G:=h.len;obtain⟨h1,c,hc,rfl⟩:=h;have B:=Ja (l:=w);obtain⟨m,q⟩:=Int.eq_ofNat_of_zero_le B;obtain⟨C,M⟩:=Ds hc;obtain⟨P,rfl⟩:=Int.eq_ofNat_of_zero_le C;have o:=zB (n:=m) (by rw[<-q];exact ha.left.left) (by decide:1<=4) (by decide) (by omega) (by omega) hl;have k:=zB ha.right (by decide:1<=4) (by decide) (by omega) (by omega) hl;rw[<-q]at o;have I:J0 s=s.length:=rfl;have H:J0 w=w.length:=rfl;simp only[fR,Jx]at G k;have U:=Jg p 4;have T:=Jg (J2 .i64 p 4) (J0 w);have V:=Jg p 8;have R:=Jg (J2 .i64 p 8) (J0 w);have J:=bD (J0 s) p;have L:=Jg (J0 w) 8;simp only[fR,Jx]at j;have A:J2 .i64 (J2 .i64 p 4) (J0 w)=p+((4+w.length:Nat):Int):=by omega
 have g:Tot (nT (s,p)) λy=>y=(w,p+((4+w.length+4:Nat):Int),0):=by
  unfold nT;dsimp only;refine .ltf (λ_=>.gt (λc=>by omega) λ_=>.bind (eL o) λS x=>?_) λc=>by omega
  subst x;dsimp only;refine .ne (λc=>absurd rfl c) λ_=>.gt (λc=>by omega) λ_=>.lt (λc=>by omega) λ_=>?_;rw[A];refine .bind (eL k) λK z=>.bind (EY (l:=s) j.1 (by omega) (by omega)).eqn λQ F=>?_;subst z;rw[ha.left.slc (by simp[Jx]) F.2];refine .bind (eL hc) λN D=>?_;subst D;refine .ne (λc=>absurd (by grind [aU,IntKind.wrap,IntKind.bits,IntKind.signed]) c) λ_=>?_;rw[show J2 .i64 p 4=p+((4:Nat):Int) by omega];refine .bind (EY (l:=s) (by omega) (by omega) (by omega)).eqn λO E=>.some ?_;have v:=ha.left.right;rw[Jx]at v;rw[v.slc (by omega) E.2,show J2 .i64 (J2 .i64 p 8) (J0 w)=p+((4+w.length+4:Nat):Int) by omega]
 obtain⟨y,e,d⟩:=g;grind [Jx]
theorem JJJ{m:Nat}(h:FrB w r)(ha:At s (r.take m) p)(hm:m<r.length)(he:p+m=s.length)(hl:s.length<=4611686018427387904):Par (nT (s,p)) λy=>y.2.2≠0:=by
 have B:=ha.bnd;have E:=h.len;obtain⟨h1,c,hc,rfl⟩:=h;have v:J0 s=s.length:=rfl;have x:=bD (J0 s) p;have z:=Jg (J0 w) 8;have k:=Ja (l:=w);unfold nT;dsimp only;refine .ltf (λ_=>.gt (λ_=>.some (by decide)) λ_=>.bind λA h2=>.ne (λ_=>.some (by decide)) λo=>.gt (λ_=>.some (by decide)) λ_=>.lt (λ_=>.some (by decide)) λD=>?_) λ_=>.some (by decide);exfalso;by_cases C:m<4;have g:Par (cV (s,p,4)) λy=>y.2≠0:=(by unfold cV;dsimp only;exact .ltf (λ_=>.gtf (λ_=>.lt (λ_=>.some (by decide)) λ_=>.gtf (λ_=>.lt (λ_=>.some (by decide)) λc=>by omega) λ_=>.some (by decide)) λ_=>.some (by decide)) λ_=>.some (by decide));exact g _ h2 o;obtain⟨n,F⟩:=Int.eq_ofNat_of_zero_le k;have G:At s (J0h (J0 w) 4) p:=(by obtain⟨pre,j,e,q⟩:=ha;refine⟨pre,((w++J0h c 4).take (m-4))++j,?_,q⟩;grind [List.take_append,Jx,List.take_of_length_le]);grind [zB]
end
end Go.Am
end
section
namespace Go.Am
set_option linter.unusedVariables false
set_option maxRecDepth 20000
set_option maxHeartbeats 1000000
section
variable {s:List UInt8} {l:JJ}
noncomputable def qB(e:J1):List UInt8:=(rR e).getD []
noncomputable def frs(l:List J1):List UInt8:=(l.map qB).flatten
theorem F7(a b:List J1):frs (a++b)=frs a++frs b:=by simp[frs]
theorem ZP{e:J1}{r:List UInt8}(h:rR e=some r)(hv:Jl e=some true):FrB (eA e) r/\qB e=r:=by
 refine⟨?_,by grind [qB]⟩;have g:Par (rR e) λr=>FrB (eA e) r:=(by unfold rR;refine .bind λk h2=>.bind λj n=>.some ?_;grind [Dh,Du,mg,J0]);exact g _ h
def hdB(h:List UInt8):Prop:=FrB ([80,77,76,71]++J0h 1 8) h
theorem JNm{r:List UInt8}(h:BI 1=some r):hdB r:=by
 have e:Par (BI 1) λr=>hdB r:=by unfold BI;refine .bind λn h2=>.bind λj g=>.some ?_;rw[cP (k:=8) (by decide) (by decide) h2]at g;refine Du g ?_;simp[J0,Jx]
 exact e _ h
def HW(l:List J1):Prop:= ∀e∈l,FrB (eA e) (qB e)/\Jl e=some true
theorem JJQ{n:Int}(h:mL (l,n)=some s)(hi:gO l)(hc:cX l.2.1):s=[]\/(HW l.2.1/\s.length<=4611686018427387904/\ ∃hd rest,hdB hd/\s=hd++rest/\rest<+:frs l.2.1):=by
 have J:Par (mL (l,n)) λs=>s=[]\/(HW l.2.1/\s.length<=4611686018427387904/\ ∃hd rest,hdB hd/\s=hd++rest/\rest<+:frs l.2.1):=by
  obtain⟨i1,i2,i3,i4⟩:=hi;unfold mL;refine .bind λ_ _=>.not (λ_=>.some (.inl rfl)) λ_=>.bind λhd v=>?_
  (try dsimp only at v)
  rw[i1]at v;refine .while (λz=>z.2.2.2.2=l/\ ∃i:Nat,z.2.2.2.1=(i:Int)/\i<=l.2.1.length/\HW (l.2.1.take i)/\hd<+:z.2.1/\z.2.1++z.2.2.1=hd++frs (l.2.1.take i)/\((i:Int)<=l.2.2->z.2.2.1=[])) ⟨rfl,0,rfl,zQ2 _,λe h=>by simp at h,List.prefix_refl _,by simp[frs],λ_=>rfl⟩ ?_;rintro⟨t,a,b,Z,l'⟩ ⟨E,i,D,hi,B,G,j,N⟩
  (try dsimp only at E D hi B G j N)
  subst E;subst D;unfold js;dsimp only;have o:=Jg (i:Int) 1;have nx: ∀{e:J1},idx l'.2.1 (i:Int)=some e->l'.2.1.take (i+1)=l'.2.1.take i++[e]/\e.1=(i:Int)+1/\Jl e=some true/\i+1<=l'.2.1.length:=fun{e} j=>by
   obtain⟨_,q⟩:=cB j;rw[Int.toNat_natCast]at q;have V:=(cG.1 q).1;obtain⟨A,P,_⟩:=hc i e q;grind [List.take_add_one,J0]
  have Y: ∀{e:J1} {r:List UInt8},rR e=some r->Jl e=some true->HW (l'.2.1.take i++[e]):=fun{e r} hr hv x C=>by
   rcases zQ9.1 C with C|C;exact B x C;simp_all [ZP]
  refine .lt (λc=>.bind λe k=>.le (λS=>.bind λT g=>.bind λQ I=>.bind λw y=>.some ⟨rfl,i+1,?_⟩) λS=>.bind λT g=>.bind λQ I=>.bind λw y=>.some ⟨rfl,i+1,?_⟩) λc=>.map (.bind λL H=>.bind λW U=>.some (.inr ?_));rw[k]at g;injection g with g;subst g;obtain⟨A,P,O,F⟩:=nx k;have K:=N (by omega);subst K;refine⟨by grind,F,by grind,?_,?_,λ_=>rfl⟩;show hd<+:w;rw[lX y];simp_all;show w++[]=_;rw[lX y,A,F7,<-lL,<-j];simp_all [frs,ZP];rw[k]at g;injection g with g;subst g;obtain⟨A,P,O,F⟩:=nx k;refine⟨by grind,F,by grind,G,?_,λh=>by exfalso;omega⟩;show a++w=_;rw[lX y,A,F7,<-lL hd,<-j];simp[frs,(ZP I O).2];have M:i=l'.2.1.length:=by grind [J0]
  rw[M,List.take_length]at B j;refine⟨B,?_,hd,?_⟩;grind [dA];obtain⟨R,rfl⟩:=G;refine⟨R++L,JNm v,by grind [lX],?_⟩;rw[lL]at j;have j:=List.append_cancel_left j;rw[<-j,(Ef H).2.2];simp[List.take_prefix]
 exact J _ h
theorem JLO{E:List J1}{hd rest:List UInt8}{y:jC}(h:xR s=some y)(hf:HW E)(R:cX E)(hl:s.length<=4611686018427387904)(T:hdB hd)(hs:s=hd++rest)(hr:rest<+:frs E):y.2=0-> ∃m,y.1=(1,E.take m,(m:Int))/\m<=E.length/\m<=4096:=by
 have r:Par (xR s) λy=>y.2=0-> ∃m,y.1=(1,E.take m,(m:Int))/\m<=E.length/\m<=4096:=by
  have a0:At s hd 0:=⟨[],rest,by rw[hs];rfl,rfl⟩;have P:=Dv T a0 hl;unfold xR;refine .bind λW h2=>.nef (λ_=>.nef (λ_=>.bind λy3 h3=>.ite (λ_=>.some nofun) λ_=>.bind λy4 n=>.ltf (λ_=>.gt (λ_=>.some nofun) λ_=>?_) λ_=>.some nofun) λ_=>.some nofun) λ_=>.some nofun;rw[P]at h2;injection h2 with h2;subst h2
  (try dsimp only at h3 n⊢)
  have V:At ([80,77,76,71]++J0h 1 8) (J0h ((1:Nat):Int) 8) 4:=⟨[80,77,76,71],[],by simp,rfl⟩;have S:=zB V (by decide) (by decide) (by decide) (by decide) (by simp[Jx]);have n:=n.symm.trans S;injection n with n;subst n;refine .while (λz=>z.1=s/\z.2.2.2.2.2.2.2.1=1/\ ∃m:Nat,m<=E.length/\m<=4096/\z.2.2.2.2.2.1=E.take m/\z.2.2.2.2.2.2.2.2=(m:Int)/\ ∃e,At s e z.2.1/\z.2.1+(e.length:Int)=(s.length:Int)/\e<+:frs (E.drop m)) ⟨rfl,rfl,0,zQ2 _,by decide,rfl,rfl,rest,⟨hd,[],by rw[hs];simp,by simp⟩,by simp_all,hr⟩ ?_;rintro⟨s',q,z1,z2,z3,es,z4,f,du⟩ ⟨rfl,rfl,m,hm,I,rfl,rfl,e,x,w,j⟩
  (try dsimp only at x w j)
  unfold iv;dsimp only;have fin: ∃v,((1,E.take m,(m:Int)):JJ)=(1,E.take v,(v:Int))/\v<=E.length/\v<=4096:=⟨m,rfl,hm,I⟩;refine .lt (λc=>.bind λy6 F=>.ne (λ_=>.some λ_=>fin) λL=>.bind λy7 O=>.nef (λc7=>.ne (λ_=>.some λ_=>fin) λc8=>.bind λy8 h8=>.some ⟨rfl,rfl,?_⟩) λ_=>.some λ_=>fin) λ_=>.some λ_=>fin;have hn:=x.bnd;by_cases k:m<E.length;have K:E.drop m=E[m]::E.drop (m+1):=List.drop_eq_getElem_cons k;have G:E[m]∈E:=iQ k;obtain⟨H,U⟩:=hf _ G;rw[K]at j;have e2:frs (E[m]::E.drop (m+1))=qB E[m]++frs (E.drop (m+1)):=by grind [frs]
  rw[e2]at j;by_cases C:e.length<(qB E[m]).length;have e3:e=(qB E[m]).take e.length:=(by obtain⟨t,ht⟩:=j;have:=congrArg (List.take e.length) ht;grind);exact absurd L (JJJ H (by grind) C w hl _ F);obtain⟨D,rfl⟩: ∃D,e=qB E[m]++D:=(by obtain⟨t,ht⟩:=j;refine⟨e.drop (qB E[m]).length,?_⟩;have:=congrArg (List.take (qB E[m]).length) ht;grind [List.take_append_drop]);have N:=Dv H x.left hl;have B:=F.symm.trans N;injection B with B;subst B;have A:=O.symm.trans (mg U).1;injection A with A;subst A;have M:J0 (E.take m)=m:=by grind [J0]
  rw[M]at c;obtain⟨Z,_⟩:=R m _ (JX k);rw[M]at Z;have tk:E.take (m+1)=E.take m++[E[m]]:=by simp_all
  rw[fR]at w;exact⟨m+1,k,by omega,by grind [gF],by simp_all,D,x.right,by grind,(List.prefix_append_right_inj _).1 j⟩;have Y:E.drop m=[]:=List.drop_eq_nil_of_le (by omega);rw[Y]at j;have J:e=[]:=by grind [frs]
  subst J;exfalso;have a5:J0 s'=s'.length:=rfl;have o:=bD (J0 s') q;simp only[List.length_nil]at w hn;have r:Par (nT (s',q)) λy=>y.2.2≠0:=by
   unfold nT;dsimp only;refine .ltf (λ_=>.gt (λ_=>.some (by decide)) λ_=>.bind λW h2=>.ne (λ_=>.some (by decide)) λQ=>?_) λ_=>.some (by decide);have g:Par (cV (s',q,4)) λy=>y.2≠0:=by unfold cV;dsimp only;exact .ltf (λ_=>.gtf (λ_=>.lt (λ_=>.some (by decide)) λ_=>.gtf (λ_=>.lt (λ_=>.some (by decide)) λc=>by omega) λ_=>.some (by decide)) λ_=>.some (by decide)) λ_=>.some (by decide)
   exact absurd Q (g _ h2)
  exact r _ F L
 exact r _ h
end
end Go.Am
end
section
namespace Go.Am
set_option linter.unusedVariables false
set_option maxRecDepth 20000
set_option maxHeartbeats 1000000
section
variable {lk lk' rows rows' out:List aA} {e:J1} {m:List J1} {n:Int}
def Chg(e:J1):Prop:=e.2.1=1\/e.2.1=2
theorem tS{b:Bool}(h:Jt e=some b):(b=true->Chg e)/\(b=false-> ¬Chg e):=by
 grind [Jt,Chg,jI]
def DG(lk:List aA)(e:J1)(d:aA):Prop:=(d.1=aR e->(Chg e->d.2.2=e.1)/\(¬Chg e-> ∃g∈lk,g.1=aR e/\d.2.2=g.2.2))/\(d.1≠aR e->d∈lk)
def DQ(e:J1)(out:List aA)(d:aA):Prop:=(d.1≠aR e->d∈out)/\(d.1=aR e-> ¬Chg e->e.2.2.2.2.2.1<d.2.2-> ∃g∈out,g.1=aR e)
def DI(lk:List aA)(e:J1)(i:Int)(dn:Bool)(out:List aA):Prop:=(∀d∈out,DG lk e d)/\upw (DQ e out) lk i/\(Chg e->dn=true-> ∃d∈out,d.1=aR e)
def DF(lk:List aA)(e:J1)(out:List aA):Prop:=(∀d∈out,DG lk e d)/\(∀d∈lk,DQ e out d)/\(Chg e-> ∃d∈out,d.1=aR e)
theorem DQ.app{d x:aA}(h:DQ e out d):DQ e (out++[x]) d:=by
 refine⟨λa=>by simp[h.1 a],λa b c=>?_⟩;obtain⟨g,h1,h2⟩:=h.2 a b c;grind
theorem upw.mono{α:Type}{P Q:α->Prop}{l:List α}{i:Int}(h:upw P l i)(e: ∀x,P x->Q x):upw Q l i:=⟨h.1,λa=>⟨(h.2 a).1,λx g=>e x ((h.2 a).2 x g)⟩⟩
theorem DI.app{i:Int}{dn:Bool}{x:aA}(h:DI lk e i dn out)(hx:DG lk e x):DI lk e i dn (out++[x]):=by
 refine⟨λd hd=>?_,h.2.1.mono λ_ q=>q.app,λa b=>?_⟩;rcases zQ9.1 hd with hd|hd;exact h.1 d hd;simp_all;obtain⟨d,h1,h2⟩:=h.2.2 a b;grind
theorem DI.new{i:Int}{dn:Bool}{t:Int}(h:DI lk e i dn out)(hc:Chg e):DI lk e i true (out++[(aR e,t,e.1)]):=by have q:=h.app (x:=(aR e,t,e.1)) ⟨λ_=>⟨λ_=>rfl,λh=>absurd hc h⟩,λh=>absurd rfl h⟩;exact⟨q.1,q.2.1,λ_ _=>⟨_,List.mem_append_right _ (qG.2 rfl),rfl⟩⟩
theorem DI.next{i:Int}{dn g:Bool}{d:aA}(h:DI lk e i dn out)(hd:idx lk i=some d)(hq:DQ e out d)(j:g=true->Chg e-> ∃d∈out,d.1=aR e):DI lk e (J2 .i64 i 1) g out:=
 ⟨h.1,zZ h.2.1 hd hq,λa b=>j b a⟩
theorem JJW{y:List aA}(h:kL (lk,e)=some y):(Chg e\/e.2.1=7->DF lk e y)/\(¬(Chg e\/e.2.1=7)->y=lk):=by
 have lp:Par (J6 jf (lk,false,0,e,[])) λy=>DF lk e y:=by
  refine .while (λz=>z.1=lk/\z.2.2.2.1=e/\DI lk e z.2.2.1 z.2.1 z.2.2.2.2) ⟨rfl,rfl,λd h=>by simp at h,EQ,nofun⟩ ?_;rintro⟨l,dn,i,e',out⟩ ⟨h1,h2,hi⟩
  (try dsimp only at h1 h2 hi)
  subst h1 h2;unfold jf;dsimp only;have same: ∀{d:aA} {dn:Bool} {out:List aA},DI l e' i dn out->idx l i=some d->
    Par (if aJ d.1 e'.2.2.2.2.2.2.1.1 then
      (Jt e').bind λM=>
      if M then
       (JH 24 out [(d.1,d.2.1,e'.1)]).bind λG=>
       some (.inl (l,true,J2 .i64 i 1,e',G))
      else
       if aP e'.2.2.2.2.2.1 d.2.2 then
        some (.inl (l,true,J2 .i64 i 1,e',out))
       else
        if aP e'.2.2.2.2.2.1 d.2.1 then
         (JH 24 out [(d.1,J2 .i64 e'.2.2.2.2.2.1 1,d.2.2)]).bind λn=>
         some (.inl (l,true,J2 .i64 i 1,e',n))
        else
         (JH 24 out [d]).bind λE=>
         some (.inl (l,true,J2 .i64 i 1,e',E))
     else
      (JH 24 out [d]).bind λA=>
      some (.inl (l,dn,J2 .i64 i 1,e',A))) λr:(hZ)⊕(List aA)=> ∃z,r=.inl z/\z.1=l/\z.2.2.2.1=e'/\DI l e' z.2.2.1 z.2.1 z.2.2.2.2:=by
   intro d dn out hi hd;have L:=nN hd;have keep: ∀{t:Int} {n:List aA},d.1=aR e'-> ¬Chg e'->JH 24 out [(d.1,t,d.2.2)]=some n->DI l e' (J2 .i64 i 1) true n:=fun{t n} w J v=>by rw[gF v];refine(hi.app (x:=(d.1,t,d.2.2)) ⟨λ_=>⟨λa=>absurd a J,λ_=>⟨d,L,w,rfl⟩⟩,λa=>absurd w a⟩).next hd ⟨λa=>absurd w a,λ_ _ _=>⟨(d.1,t,d.2.2),List.mem_append_right _ (qG.2 rfl),w⟩⟩ λ_ a=>absurd a J
   refine .eq (λc=>.bind λb k=>.ite (λg=>.bind λG R=>.some ⟨_,rfl,rfl,rfl,?_⟩) λg=>.ge (λI=>.some ⟨_,rfl,rfl,rfl,?_⟩) λI=>.ge (λ_=>.bind λn v=>.some ⟨_,rfl,rfl,rfl,keep c ((tS k).2 g) v⟩) λ_=>.bind λn v=>.some ⟨_,rfl,rfl,rfl,keep c ((tS k).2 g) v⟩) λc=>.bind λA H=>.some ⟨_,rfl,rfl,rfl,?_⟩;have hc:=(tS k).1 g;dsimp only;rw[gF R,show d.1=aR e' from c];have q:=hi.new (t:=d.2.1) hc;exact q.next hd ⟨λa=>absurd c a,λ_ b=>absurd hc b⟩ λ_ a=>q.2.2 a rfl;exact hi.next hd ⟨λa=>absurd c a,λ_ _ a=>absurd I (by omega)⟩ λ_ a=>absurd a ((tS k).2 g);dsimp only;rw[gF H];have q:=hi.app (x:=d) ⟨λa=>absurd a c,λ_=>L⟩;exact q.next hd ⟨λ_=>by simp,λa=>absurd a c⟩ λa b=>q.2.2 b a
  have j: ∀{d:aA} {dn:Bool} {out:List aA} {o:Option ((hZ)⊕(List aA))} {Q:((hZ)⊕(List aA))->Prop},(∀z,z.1=l/\z.2.2.2.1=e'/\DI l e' z.2.2.1 z.2.1 z.2.2.2.2->Q (.inl z))->Par o (λr=> ∃z,r=.inl z/\z.1=l/\z.2.2.2.1=e'/\DI l e' z.2.2.1 z.2.1 z.2.2.2.2)->Par o Q:=fun{d dn out o Q} h1 h2=>h2.mono λr ⟨z,S,h⟩=>by grind
  refine .lt (λ_=>.bind λd hd=>.gt (λ_=>.not (λ_=>.bind λb k=>.ite (λg=>.bind λN C=>j (d:=d) (dn:=dn) (out:=out) (λz h=>h) (same (dn:=true) ?_ hd)) λ_=>j (d:=d) (dn:=dn) (out:=out) (λz h=>h) (same hi hd)) λ_=>j (d:=d) (dn:=dn) (out:=out) (λz h=>h) (same hi hd)) λ_=>j (d:=d) (dn:=dn) (out:=out) (λz h=>h) (same hi hd)) λc=>.map ?_;rw[gF C];exact hi.new ((tS k).1 g);have B:=FK hi.2.1 c;refine .not (λ_=>.bind λb k=>.ite (λg=>.bind λN C=>.some ?_) λg=>.some ⟨hi.1,B,λa=>absurd a ((tS k).2 g)⟩) λO=>.some ⟨hi.1,B,λa=>hi.2.2 a O⟩;dsimp only;rw[gF C];have q:=hi.new (t:=e'.1) ((tS k).1 g);exact⟨q.1,λd hd=>(B d hd).app,λa=>q.2.2 a rfl⟩
 have K:Par (kL (lk,e)) λy=>(Chg e\/e.2.1=7->DF lk e y)/\(¬(Chg e\/e.2.1=7)->y=lk):=(by unfold kL;refine .bind λb k=>.not (λg=>.ne (λF=>.some ⟨λh=>?_,λ_=>rfl⟩) λF=>Par.mono (P:=λy=>DF lk e y) lp λy D=>⟨λ_=>D,λh=>absurd (.inr F) h⟩) λg=>lp.mono λy D=>⟨λ_=>D,λh=>absurd (.inl ((tS k).1 g)) h⟩;grind [tS]);exact K _ h
end
end Go.Am
end
section
namespace Go.Am
set_option linter.unusedVariables false
set_option maxRecDepth 20000
set_option maxHeartbeats 1000000
section
variable {lk lk' rows rows' out:List aA} {e:J1} {m:List J1} {n:Int}
theorem Rel.noted(h:Rel m n [] lk rows)(hm:cX m)(he:OB m e)(hd:(Chg e\/e.2.1=7->DF lk e lk')/\(¬(Chg e\/e.2.1=7)->lk'=lk))(hr:(e.2.1≠7->rows'=rows)/\(e.2.1=7->(∀q,q≠aR e->idx rows' q=idx rows q)/\ ∀r,idx rows' (aR e)=some r-> ∃r0,idx rows (aR e)=some r0/\r.1=cO r0.1 e.2.2.2.2.2.1)):Rel (m++[e]) n [] lk' rows':=by
 obtain⟨K,_,_,z,_⟩:=he;by_cases hc:Chg e;have F:e.2.1≠7:=by rcases hc with h|h<;>omega
 obtain⟨j,o,I⟩:=hd.1 (.inl hc);rw[hr.1 F];refine⟨nofun,.nil,nofun,nofun,λd hd=>?_,λq r k=>?_⟩;by_cases c:d.1=aR e;rw[AG,if_pos ⟨hc,c.symm⟩];exact((j d hd).1 c).1 hc;rw[AQ λh=>c h.2.symm];exact h.lak d ((j d hd).2 c);obtain⟨w,x⟩:=h.row q r k;by_cases c:q=aR e;subst c;rw[AG,if_pos ⟨hc,rfl⟩];have:=so hm (aR e);grind;rw[AQ λh=>c h.2.symm];exact⟨w,λa b=>x a λd hd g=>b d ((o d hd).1 (by simp_all)) g⟩;have A: ∀p,bS (m++[e]) p=bS m p:=λp=>AQ λh=>hc h.1;by_cases v:e.2.1=7;obtain⟨j,o,_⟩:=hd.1 (.inr v);obtain⟨B,G⟩:=hr.2 v;have z:=z v;refine⟨nofun,.nil,nofun,nofun,λd hd=>?_,λq r k=>?_⟩;rw[A];by_cases c:d.1=aR e;obtain⟨E,y,h1,h2⟩:=((j d hd).1 c).2 hc;rw[h2,h.lak E y,h1,c];exact h.lak d ((j d hd).2 c);rw[A];by_cases c:q=aR e;subst c;obtain⟨r0,y,h1⟩:=G r k;obtain⟨w,x⟩:=h.row _ r0 y;have mx:=rB r0.1 e.2.2.2.2.2.1;refine⟨by omega,λ_ b=>?_⟩;by_cases C: ∀d∈lk,d.1≠aR e;grind;obtain⟨d,hd,g⟩: ∃d,d∈lk/\d.1=aR e:=by simpa using C
 have H:=h.lak d hd;rw[g]at H;by_cases D:e.2.2.2.2.2.1<d.2.2;obtain⟨J,h1,h2⟩:=(o d hd).2 g hc D;grind;omega;rw[B _ c]at k;obtain⟨w,x⟩:=h.row q r k;exact⟨w,λa b=>x a λd hd g=>b d ((o d hd).1 (by simp_all)) g⟩;rw[hd.2 (λh=>by simp_all),hr.1 v];exact h.ent hc
theorem JKr{a:mI}{y:wD}(h:BJ (a,e)=some y)(c:y.2=0)(hr:Rel m a.1 [] a.2.2.2.2.2.1 a.2.2.2.2.2.2)(hm:cX m)(he:OB m e):y.1.1=a.1/\y.1.2.2.1=a.2.2.1/\Rel (m++[e]) y.1.1 [] y.1.2.2.2.2.2.1 y.1.2.2.2.2.2.2:=by
 have o:Par (BJ (a,e)) λy=>y.2=0->y.1.1=a.1/\y.1.2.2.1=a.2.2.1/\Rel (m++[e]) y.1.1 [] y.1.2.2.2.2.2.1 y.1.2.2.2.2.2.2:=by
  unfold BJ;have n: ∀{t:Int} {j l2:List Jo},Par ((jL (a.2.2.2.2.2.2,e)).bind λg=>
   if aN g.2 0 then
    some ((a.1,t,a.2.2.1,j,a.2.2.2.2),g.2)
   else
    (Jt e).bind λv=>
    if v then
     if aP e.2.2.2.2.2.2.1.1 a.1 then
      some ((a.1,t,a.2.2.1,j,a.2.2.2.2.1,a.2.2.2.2.2.1,g.1),1)
     else
      (kL (a.2.2.2.2.2.1,e)).bind λk=>
      some ((a.1,t,a.2.2.1,j,a.2.2.2.2.1,k,g.1),0)
    else
     (kL (a.2.2.2.2.2.1,e)).bind λr=>
     some ((a.1,t,a.2.2.1,j,a.2.2.2.2.1,r,g.1),0)) λy=>y.2=0->y.1.1=a.1/\y.1.2.2.1=a.2.2.1/\Rel (m++[e]) y.1.1 [] y.1.2.2.2.2.2.1 y.1.2.2.2.2.2.2:=fun{t j l2}=>by
    refine .bind λg x=>.ne (λc=>.some λh=>absurd h c) λw=>?_;have dn:Par ((kL (a.2.2.2.2.2.1,e)).bind λk=>some ((a.1,t,a.2.2.1,j,a.2.2.2.2.1,k,g.1),(0:Int))) λy=>y.2=0->y.1.1=a.1/\y.1.2.2.1=a.2.2.1/\Rel (m++[e]) y.1.1 [] y.1.2.2.2.2.2.1 y.1.2.2.2.2.2.2:=.bind λk q=>.some λ_=>⟨rfl,rfl,hr.noted hm he (JJW q) (qd x w).2⟩;exact .bind λ_ _=>.ite (λ_=>.ge (λ_=>.some nofun) λ_=>dn) λ_=>dn
  refine .gt (λ_=>.bind λ_ _=>.lt (λ_=>.bind λ_ _=>.ne (λc=>.some λh=>absurd h c) λ_=>.bind λ_ _=>.ne (λc=>.some λh=>absurd h c) λ_=>n (l2:=[])) λ_=>.bind λ_ _=>.ne (λc=>.some λh=>absurd h c) λ_=>n (l2:=[])) λ_=>.bind λ_ _=>.ne (λc=>.some λh=>absurd h c) λ_=>n (l2:=[])
 exact o _ h c
variable {l:JJ}
theorem JGE{y:l8}(h:CA l=some y)(hc:cX l.2.1):y.2.2=true-> ∃(j:Nat),y.2.1=(j:Int)+1/\j+1<=l.2.1.length/\Rel (l.2.1.take (j+1)) y.1.1 [] y.1.2.2.2.1 y.1.2.2.2.2:=by
 have r:Par (CA l) λy=>y.2.2=true-> ∃(j:Nat),y.2.1=(j:Int)+1/\j+1<=l.2.1.length/\Rel (l.2.1.take (j+1)) y.1.1 [] y.1.2.2.2.1 y.1.2.2.2.2:=by
  unfold CA;refine .bind λ_ _=>.not (λ_=>.some nofun) λ_=>.while (λz=>z.2.1=l) rfl ?_;rintro⟨i,l',z⟩ o
  (try dsimp only at o)
  subst o;unfold Ak;refine .ge (λ_=>.bind λF v=>.ne (λ_=>.some rfl) λB=>.bind λD k=>.bind λA G=>.eq (λH=>.bind λC e=>.some λ_=>?_) λ_=>.some rfl) λ_=>.some nofun;rw[v]at k e;injection k with k;injection e with e;subst k;subst e;obtain⟨x,q⟩:=cB v
  (try dsimp only at x q)
  obtain⟨E,_,_,_,w⟩:=hc _ _ q;have n:=(cG.1 q).1;have I:J0 (l'.2.1.take i.toNat)=i:=by grind [J0]
  refine⟨i.toNat,by grind,n,?_⟩;have g:=w B A.1 (by grind);rw[List.take_add_one,q];exact g.ent (by omega)
 exact r _ h
theorem G8{n:Int}{y:tI}(h:AP n=some y): ∀r∈y.1,r.1=0:=by
 grind [AP,mkS]
theorem JIG{e:Int}{y:wD}(h:CE (l,e)=some y)(c:y.2=0)(hc:cX l.2.1):y.1.1=e/\ ∃j:Nat,y.1.2.2.1=(j:Int)/\j<=l.2.1.length/\Rel (l.2.1.take j) y.1.1 [] y.1.2.2.2.2.2.1 y.1.2.2.2.2.2.2:=by
 have g:Par (CE (l,e)) λy=>y.2=0->y.1.1=e/\ ∃j:Nat,y.1.2.2.1=(j:Int)/\j<=l.2.1.length/\Rel (l.2.1.take j) y.1.1 [] y.1.2.2.2.2.2.1 y.1.2.2.2.2.2.2:=(by unfold CE;refine .bind λv h2=>.not (λ_=>.gt (λ_=>.some nofun) λ_=>.bind λq n=>.some λ_=>⟨rfl,0,rfl,zQ2 _,?_⟩) λo=>.ne (λ_=>.some nofun) λcp=>.some λ_=>?_;refine⟨nofun,.nil,nofun,nofun,nofun,λp r k=>?_⟩;have z:r.1=0:=G8 n r (nN k);rw[z];exact⟨aZ _,λ_ _=>rfl⟩;grind [JGE]);exact g _ h c
theorem JEZ{k:Int}{y:wD}(h:CI (l,k)=some y)(c:y.2=0)(hc:cX l.2.1):y.1.1=k/\Rel l.2.1 k [] y.1.2.2.2.2.2.1 y.1.2.2.2.2.2.2:=by
 have B:Par (CI (l,k)) λy=>y.2=0->y.1.1=k/\Rel l.2.1 k [] y.1.2.2.2.2.2.1 y.1.2.2.2.2.2.2:=by
  unfold CI;refine .bind λ_ _=>.not (λ_=>.some nofun) λ_=>.ltf (λ_=>.gt (λ_=>.some nofun) λ_=>.bind λT O=>.ne (λc=>.some λh=>absurd h c) λN=>?_) λ_=>.some nofun;obtain⟨b1,j,b2,S,V⟩:=JIG O N hc;refine .while (λz=>z.2.1=l/\z.2.2.2.1=k/\z.2.2.2.2.2.1=(j:Int)/\z.1<=9223372036854775807/\(0<=z.1->Rel (l.2.1.take (max j z.1.toNat)) k [] z.2.2.2.2.2.2.2.2.1 z.2.2.2.2.2.2.2.2.2)) ⟨rfl,b1,b2,show(0:Int)<=9223372036854775807 by decide,λ_=>by simp_all⟩ ?_;rintro⟨i,l',a0,a⟩ ⟨h1,h2,r,L,C⟩
  (try dsimp only at h1 h2 r L C)
  subst h1;unfold nw;dsimp only;have o:=Jg i 1;refine .lt (λ_=>.bind λe v=>.le (λI=>.some ⟨rfl,h2,r,by grind,λE=>?_⟩) λI=>.bind λW n=>.bind λR H=>.ne (λc=>.some λh=>absurd h c) λG=>.some ?_) λU=>.map (.while (λz=>z.2.2.2.1=a) rfl ?_);obtain⟨A,q⟩:=cB v;have P:=(hc _ _ q).1;have w:=(cG.1 q).1;have M:J0 (l'.2.1.take i.toNat)=i:=by grind [J0]
  grind;rw[v]at n;injection n with n;subst n;obtain⟨A,q⟩:=cB v;have w:=(cG.1 q).1;have D:=hc _ _ q;have M:J0 (l'.2.1.take i.toNat)=i:=by grind [J0]
  have P:=D.1;have g:=C A;rw[show max j i.toNat=i.toNat by omega]at g;obtain⟨F,K,J⟩:=JKr H G (by simp_all) (hc.take _) D;refine⟨rfl,F.trans h2,K.trans r,by grind,λE=>?_⟩
  (try dsimp only at E⊢)
  rw[show max j (J2 .i64 i 1).toNat=i.toNat+1 by omega,List.take_add_one,q,<-h2,<-F];exact J;rintro⟨i2,Z,Q,Y,out⟩ x
  (try dsimp only at x)
  subst x;unfold nv;refine .lt (λ_=>.bind λ_ _=>.gt (λ_=>.bind λ_ _=>.bind λ_ _=>.some rfl) λ_=>.some rfl) λ_=>.map (.bind λ_ _=>.ne (λc=>.some λh=>absurd h c) λ_=>.some λ_=>⟨h2,?_⟩);grind [List.take_of_length_le,J0]
 exact B _ h c
theorem JIT{a:mI}{j:Int}{y:cM}(h:BQ (l,a,j)=some y)(c:y.2=0)(hl:gO l)(hc:cX l.2.1)(hr:Rel l.2.1 a.1 [] a.2.2.2.2.2.1 a.2.2.2.2.2.2):JD y.1:=by
 have g:Par (BQ (l,a,j)) λy=>y.2=0->JD y.1:=(by unfold BQ;refine .bind λr h2=>.ne (λc=>.some λh=>absurd h (by decide)) λo=>.bind λ_ _=>.not (λ_=>.some nofun) λ_=>.while (λz=>JD z.2.2.2.2.2) ⟨hl,hc,?_⟩ ?_;grind [xK];intro z e;unfold iw;exact .lt (λ_=>.bind λ_ _=>.eq (λ_=>.some e) λ_=>.bind λ_ _=>.bind λq n=>.ne (λc=>.some λh=>absurd h c) λk=>.some (PT n k e (.inr (.inl rfl)))) λ_=>.some λ_=>e);exact g _ h c
end
end Go.Am
end
section
namespace Go.Am
set_option linter.unusedVariables false
set_option maxRecDepth 20000
set_option maxHeartbeats 1000000
section
variable {s:List UInt8} {p:Int}
theorem qW{n:Int}{k:Nat}(b:Nat)(h:At s (J0h n k) p)(hl:s.length<=4611686018427387904)(h0:0<=n)(hn:n<b)(hb:b=2^(8*k):=by rfl)(h1:1<=k:=by decide)(g:k<=8:=by decide)(e:n<9223372036854775808:=by omega):cV (s,p,(k:Int))=some (n,0):=by
 grind [Int.eq_ofNat_of_zero_le,zB]
def vK(r:aA):List UInt8:=J0h r.1 8++(J0h r.2.1 8++J0h r.2.2 8)
def gQ(l:List aA):List UInt8:=(l.map vK).flatten
def HD(r:aA):Prop:=(0<=r.1/\r.1<=1099511627776)/\(0<=r.2.1/\r.2.1<=1099511627776)/\0<=r.2.2/\r.2.2<=1099511627776
def vD(r:aA):List UInt8:=J0h r.1 1++(J0h r.2.1 8++J0h r.2.2 8)
def oN(l:List aA):List UInt8:=(l.map vD).flatten
def HZ(r:aA):Prop:=(0<=r.1/\r.1<64)/\(0<=r.2.1/\r.2.1<=1099511627776)/\0<=r.2.2/\r.2.2<=1099511627776
theorem JJU{l:List aA}(h:gZ l=some true):J0 l<=64/\ ∀r∈l,HD r:=by
 have v: ∀{n:Int} {b:Bool},nP n=some b->b=true->0<=n/\n<=1099511627776:=fun{n b} E C=>by
  have k:Par (nP n) λb=>b=true->0<=n/\n<=1099511627776:=by unfold nP;exact .ge (λc=>.some λd=>⟨c,eG.1 d⟩) λ_=>.some nofun
  exact k _ E C
 have B:Par (gZ l) λy=>y=true->J0 l<=64/\ ∀r∈l,HD r:=by
  unfold gZ;refine .ltf (λ_=>.gt (λ_=>.some nofun) λc=>.while (λz=>z.2=l/\upw HD l z.1) ⟨rfl,EQ⟩ ?_) λ_=>.some nofun;rintro⟨i,l'⟩ ⟨h1,w⟩
  (try dsimp only at h1 w)
  subst h1;unfold ju;have go: ∀{r:aA} {x A a3:Bool},idx l' i=some r->nP r.1=some x->x=true->nP r.2.1=some A->A=true->nP r.2.2=some a3->a3=true->upw HD l' (J2 .i64 i 1):=λj h1 e h2 g q o=>zZ w j ⟨v h1 e,v h2 g,v q o⟩;exact .lt (λ_=>.bind λr j=>.bind λx h1=>.nof (λe=>.bind λA h2=>.nof (λg=>.bind λa3 q=>.nof (λo=>.eq (λ_=>.ne (λ_=>.some nofun) λ_=>.some ⟨rfl,go j h1 e h2 g q o⟩) λ_=>.some ⟨rfl,go j h1 e h2 g q o⟩) λ_=>.some nofun) λ_=>.some nofun) λ_=>.some nofun) λD=>.some λ_=>⟨Int.not_lt.1 c,FK w D⟩
 exact B _ h rfl
theorem JMk{l:List aA}{n:Int}(h:lJ (l,n)=some true)(hn:n<=64):J0 l<=64/\ ∀r∈l,HZ r:=by
 have v:Par (lJ (l,n)) λy=>y=true->J0 l<=64/\ ∀r∈l,HZ r:=by
  unfold lJ;refine .while (λz=>z.1=l/\z.2.1=n/\upw HZ l z.2.2/\(0<=z.2.2->z.2.2<=J0 l/\z.2.2<=64/\ ∀r,idx l (z.2.2-1)=some r->z.2.2-1<=r.1)) ⟨rfl,rfl,EQ,λ_=>⟨Ja,show(0:Int)<=64 by decide,λr e=>absurd (cB e).1 (show¬(0:Int)<=0-1 by decide)⟩⟩ ?_;rintro⟨l',j,i⟩ ⟨h1,h2,g,hi⟩
  (try dsimp only at h1 h2 g hi)
  subst h1 h2;unfold XK;dsimp only;have o:=Jg i 1;have G:=bD i 1;refine .lt (λK=>.bind λr e=>.ltf (λH=>.gef (λI=>.ltf (λO=>.gtf (λL=>.gtf (λJ=>?_) λ_=>.some nofun) λ_=>.some nofun) λ_=>.some nofun) λ_=>.some nofun) λ_=>.some nofun) λA=>.some λ_=>⟨?_,FK g A⟩;obtain⟨x,q⟩:=cB e;obtain⟨D,M,E⟩:=hi x;have w:HZ r:=⟨⟨by omega,by omega⟩,⟨by omega,by omega⟩,by omega,by omega⟩;have nx:i<=r.1->(l'=l'/\j=j/\upw HZ l' (J2 .i64 i 1)/\(0<=J2 .i64 i 1->J2 .i64 i 1<=J0 l'/\J2 .i64 i 1<=64/\ ∀r,idx l' (J2 .i64 i 1-1)=some r->J2 .i64 i 1-1<=r.1)):=λC=>⟨rfl,rfl,zZ g e w,λN=>⟨by omega,by omega,λr' k=>by
   grind⟩⟩
  refine .gt (λB=>.bind λr' k=>.ge (λ_=>.some nofun) λF=>.some (nx ?_)) λB=>.some (nx (by omega));grind;grind
 exact v _ h rfl
theorem JN2{l:List aA}{y:List UInt8×Int}(h:BX l=some y)(hv:gZ l=some true):y.1=J0h (J0 l) 2++gQ l:=by
 have n:Par (BX l) λy=>y.1=J0h (J0 l) 2++gQ l:=by
  unfold BX;refine .bind λv F=>.not (λc=>by simp_all) λ_=>.bind λH D=>.while (λz=>z.2.2=l/\z.2.1<=9223372036854775807/\(0<=z.2.1->z.1=J0h (J0 l) 2++gQ (l.take z.2.1.toNat))) ⟨rfl,show(0:Int)<=9223372036854775807 by decide,λ_=>by rw[cP (k:=2) (by decide) (by decide) D];simp[gQ]⟩ ?_;rintro⟨o,i,l'⟩ ⟨h1,h2,hi⟩
  (try dsimp only at h1 h2 hi)
  subst h1;unfold jk;dsimp only;have oo:=Jg i 1;refine .lt (λ_=>.bind λr w=>.bind λJ B=>.bind λL e=>.bind λI A=>.bind λG g=>.bind λE j=>.some ⟨rfl,by grind,λC=>?_⟩) λK=>.some ?_;rw[w]at e g;injection e with e;injection g with g;subst e;subst g;obtain⟨x,q⟩:=cB w
  (try dsimp only at C⊢)
  rw[cP (k:=8) (by decide) (by decide) j,cP (k:=8) (by decide) (by decide) A,cP (k:=8) (by decide) (by decide) B,hi x,show(J2 .i64 i 1).toNat=i.toNat+1 by omega,List.take_add_one,q];simp[gQ,vK];grind [List.take_of_length_le,J0]
 exact n _ h
theorem At.rows{l:List aA}(h:At s (gQ l) p): ∀{i:Nat} {r:aA},l[i]?=some r->At s (vK r) (p+24*i):=by
 induction l generalizing p with
 |nil=>simp_all
 |cons x l ih=>
  intro i r g;have e:gQ (x::l)=vK x++gQ l:=by simp[gQ]
  rw[e]at h;cases i with
  |zero=>simp at g;subst g;simpa using h.left
  |succ i=>
   have q:=ih h.right (i:=i) (r:=r) (by simpa using g);have j:(vK x).length=24:=by simp[vK,Jx]
   grind
theorem At.dirs{l:List aA}(h:At s (oN l) p): ∀{i:Nat} {r:aA},l[i]?=some r->At s (vD r) (p+17*i):=by
 induction l generalizing p with
 |nil=>simp_all
 |cons x l ih=>
  intro i r g;have e:oN (x::l)=vD x++oN l:=by simp[oN]
  rw[e]at h;cases i with
  |zero=>simp at g;subst g;simpa using h.left
  |succ i=>
   have q:=ih h.right (i:=i) (r:=r) (by simpa using g);have j:(vD x).length=17:=by simp[vD,Jx]
   grind
theorem JN5{l:List aA}{y:tI}(h:BZ (J0h (J0 l) 2++gQ l)=some y)(hl:J0 l<=64)(B: ∀r∈l,HD r)(c:y.2=0):y.1=l:=by
 have len:(gQ l).length=24*l.length:=by
  clear h hl B
  induction l with
  |nil=>rfl
  |cons x l ih=>grind [gQ,vK,Jx]
 have G:=Ja (l:=l);have L:J0 l=l.length:=rfl;have C:Par (BZ (J0h (J0 l) 2++gQ l)) λy=>y.2=0->y.1=l:=by
  generalize K:J0h (J0 l) 2++gQ l=s;have a0:At s (J0h (J0 l) 2++gQ l) 0:=by rw[K];exact .all
  have q:s.length<=4611686018427387904:=by grind [Jx]
  have g:=qW (k:=2) 65536 a0.left q G (by omega);have E:=a0.right;rw[Jx]at E;unfold BZ;refine .bind λY h2=>.nef (λ_=>.lt (λ_=>.some nofun) λ_=>.gt (λ_=>.some nofun) λ_=>?_) λ_=>.some nofun;have A:=h2.symm.trans g;injection A with A;subst A;refine .while (λz=>z.1=s/\z.2.1=J0 l/\ ∃i:Nat,z.2.2.1=(i:Int)/\i<=l.length/\z.2.2.2.2=l.take i) ⟨rfl,rfl,0,rfl,zQ2 _,rfl⟩ ?_;rintro⟨s',n,W,z,o⟩ ⟨h1,D,i,j,w,e⟩
  (try dsimp only at h1 D j w e)
  subst h1 D j e;unfold jl;dsimp only;have oo:=Jg (i:Int) 1;have om:=tL 24 (i:Int);have O:=Jg 2 (bX .i64 24 (i:Int));have S:=Jg 10 (bX .i64 24 (i:Int));have U:=Jg 18 (bX .i64 24 (i:Int));refine .lt (λT=>.bind λV j=>.bind λP w=>.bind λQ e=>.bind λM N=>.some ⟨rfl,rfl,i+1,by grind,by omega,?_⟩) λR=>.map (.bind λ_ _=>.not (λ_=>.some nofun) λ_=>.some λ_=>by grind);have v:i<l.length:=by omega
  have J:=JX v;obtain⟨F,H,I⟩:=B _ (iQ v);have ar:=E.rows J;unfold vK at ar;have g1:=qW (k:=8) 18446744073709551616 ar.left q F.1 (by omega);have ar:=ar.right;rw[Jx]at ar;have g2:=qW (k:=8) 18446744073709551616 ar.left q H.1 (by omega);have ar:=ar.right;rw[Jx]at ar;have Z:=qW (k:=8) 18446744073709551616 ar q I.1 (by omega);rw[show J2 .i64 2 (bX .i64 24 (i:Int))=0+((2:Nat):Int)+24*(i:Int) by omega]at j;rw[show J2 .i64 10 (bX .i64 24 (i:Int))=0+((2:Nat):Int)+24*(i:Int)+((8:Nat):Int) by omega]at w;rw[show J2 .i64 18 (bX .i64 24 (i:Int))=0+((2:Nat):Int)+24*(i:Int)+((8:Nat):Int)+((8:Nat):Int) by omega]at e;grind [gF,List.take_add_one]
 exact C _ h c
end
end Go.Am
end
section
namespace Go.Am
set_option linter.unusedVariables false
set_option maxRecDepth 20000
set_option maxHeartbeats 1000000
section
variable {s:List UInt8} {p:Int}
theorem Gc{c:jO}(h:nS c=some true):(1<=c.1/\c.1<=64)/\lJ (c.2.2.2.1,c.1)=some true/\gZ c.2.2.2.2=some true:=by
 have e:Par (nS c) λy=>y=true->(1<=c.1/\c.1<=64)/\lJ (c.2.2.2.1,c.1)=some true/\gZ c.2.2.2.2=some true:=by unfold nS;exact .ltf (λn=>.gtf (λj=>.ltf (λ_=>.gtf (λ_=>.bind λ_ _=>.nof (λ_=>.bind λa o=>.nof (λk=>.bind λb q=>.nof (λg=>.ne (λ_=>.some nofun) λ_=>λ_ _ _=>⟨⟨by omega,by omega⟩,by simp_all,by simp_all⟩) λ_=>.some nofun) λ_=>.some nofun) λ_=>.some nofun) λ_=>.some nofun) λ_=>.some nofun) λ_=>.some nofun) λ_=>.some nofun
 exact e _ h rfl
def ckB(c:jO)(t:List UInt8):List UInt8:=J0h c.1 2++(J0h c.2.1 4++(J0h (J0 t) 4++(t++(J0h (J0 c.2.2.2.1) 1++(oN c.2.2.2.1++(J0h (J0 c.2.2.2.2) 2++gQ c.2.2.2.2))))))
theorem JMF{c:jO}{y:List UInt8×Int}(h:CB c=some y):y.1=[]\/(nS c=some true/\ ∃t,y.1=ckB c t):=by
 have A:Par (CB c) λy=>y.1=[]\/(nS c=some true/\ ∃t,y.1=ckB c t):=by
  unfold CB;refine .bind λv x=>.not (λ_=>.some (.inl rfl)) λP=>.bind λw Y=>.bind λV I=>.bind λS J=>.bind λT G=>.bind λN D=>.bind λR F=>?_;have x:nS c=some true:=by simp_all
  obtain⟨_,_,v3⟩:=Gc x;refine .while (λz=>z.2.2=c/\z.2.1<=9223372036854775807/\(0<=z.2.1->z.1=J0h c.1 2++(J0h c.2.1 4++(J0h (J0 w.1) 4++(w.1++(J0h (J0 c.2.2.2.1) 1++oN (c.2.2.2.1.take z.2.1.toNat))))))) ⟨rfl,show(0:Int)<=9223372036854775807 by decide,λ_=>?_⟩ ?_;dsimp only;rw[cP (k:=1) (by decide) (by decide) F,lX D,cP (k:=4) (by decide) (by decide) G,cP (k:=4) (by decide) (by decide) J,cP (k:=2) (by decide) (by decide) I];simp[oN];rintro⟨o,i,c'⟩ ⟨h1,h2,hi⟩
  (try dsimp only at h1 h2 hi)
  subst h1;unfold ji;dsimp only;have oo:=Jg i 1;refine .lt (λ_=>.bind λr B=>.bind λa L=>.bind λW j=>.bind λb H=>.bind λO n=>.bind λd hd=>.some ⟨rfl,by grind,λK=>?_⟩) λU=>.map (.bind λe M=>.bind λg C=>.some (.inr ⟨x,w.1,?_⟩));rw[B]at j n;injection j with j;injection n with n;subst j;subst n;obtain⟨E,q⟩:=cB B
  (try dsimp only at K⊢)
  rw[cP (k:=8) (by decide) (by decide) hd,cP (k:=8) (by decide) (by decide) H,cP (k:=1) (by decide) (by decide) L,hi E,show(J2 .i64 i 1).toNat=i.toNat+1 by omega,List.take_add_one,q];simp[oN,vD];have Q:=Ja (l:=c'.2.2.2.1);show g=_;rw[lX C,JN2 M v3,hi (by omega),List.take_of_length_le (by grind [J0])];simp[ckB]
 exact A _ h
theorem si(l:List aA):(oN l).length=17*l.length:=by
 induction l with
 |nil=>rfl
 |cons x l ih=>grind [oN,vD,Jx]
theorem JMT{c c':jO}{t:List UInt8}(hv:nS c=some true)(hl:(ckB c t).length<=8192)(h:uS (ckB c t)=some (c',0)):c'.1=c.1/\c'.2.2.2.1=c.2.2.2.1/\c'.2.2.2.2=c.2.2.2.2:=by
 obtain⟨v1,v2,v3⟩:=Gc hv;obtain⟨d1,R⟩:=JMk v2 v1.2;obtain⟨r1,r2⟩:=JJU v3;have M:Par (uS (ckB c t)) λy=>y.2=0->y.1.1=c.1/\y.1.2.2.2.1=c.2.2.2.1/\y.1.2.2.2.2=c.2.2.2.2:=by
  generalize P:ckB c t=s at hl;have a0:At s (ckB c t) 0:=by rw[P];exact .all
  have g:s.length<=4611686018427387904:=by omega
  unfold ckB at a0;have Q:=qW (k:=2) 65536 a0.left g (by omega) (by omega);have o:=a0.right.right;simp only[Jx]at o;have b1:=o.bnd;simp only[fR,Jx]at b1;have lt:J0 t=t.length:=rfl;have ld:J0 c.2.2.2.1=c.2.2.2.1.length:=rfl;have ls:J0 s=s.length:=rfl;have O:=qW (k:=4) 4294967296 o.left g (by omega) (by omega);have A:=o.right.right;simp only[Jx]at A;have U:=qW (k:=1) 256 A.left g (by omega) (by omega);have a3:=A.right;simp only[Jx]at a3;have a4:=a3.right;rw[si]at a4;have o1:=Jg 10 (J0 t);have o2:=Jg (J2 .i64 10 (J0 t)) 1;unfold uS;refine .bind λy2 h2=>.bind λy3 h3=>.bind λy4 h4=>?_;have x:=h2.symm.trans Q;have w:=h4.symm.trans O;injection x with x;injection w with w;subst x;subst w;dsimp only;refine .nef (λ_=>.gt (λ_=>.some nofun) λ_=>.bind λy5 h5=>.bind λy6 N=>?_) λ_=>.some nofun;rw[show J2 .i64 10 (J0 t)=0+((2:Nat):Int)+((4:Nat):Int)+((4:Nat):Int)+(t.length:Int) by omega]at N;have v:=N.symm.trans U;injection v with v;subst v;refine .nef (λ_=>.lt (λ_=>.some nofun) λ_=>?_) λ_=>.some nofun;refine .while (λz=>z.1=s/\z.2.2.2.1=J0 c.2.2.2.1/\z.2.2.2.2.2.2.2.2.2.2.2.1=c.1/\ ∃i:Nat,z.2.2.2.2.1=(i:Int)/\i<=c.2.2.2.1.length/\z.2.2.1=11+J0 t+17*(i:Int)/\z.2.2.2.2.2.2.2.2.2.2.1=c.2.2.2.1.take i) ⟨rfl,rfl,rfl,0,rfl,zQ2 _,by grind,rfl⟩ ?_;rintro⟨s',B,ah,n,i',q2,q3,q4,q5,q6,D,pg,q7⟩ ⟨J,H,I,i,F,W,L,r⟩
  (try dsimp only at J H I F W L r)
  subst J H I F L r;unfold jh;dsimp only;have p1:=Jg (i:Int) 1;have p2:=Jg (11+J0 t+17*(i:Int)) 1;have p3:=Jg (11+J0 t+17*(i:Int)) 9;have p4:=Jg (11+J0 t+17*(i:Int)) 17;refine .lt (λci=>.bind λy8 V=>.bind λy9 Z=>.bind λad G=>.bind λag aj=>.some ⟨rfl,rfl,rfl,i+1,by grind,by omega,by grind,?_⟩) λcn=>.map (.bind λaf _=>.ne (λc=>.some λh=>absurd h c) λ_=>.bind λK C=>.bind λai ac=>.ne (λc=>.some λh=>absurd h c) λae=>.bind λ_ _=>.not (λ_=>.some nofun) λ_=>.some λ_=>⟨rfl,?_,?_⟩);have q:i<c.2.2.2.1.length:=by omega
  have hr:=JX q;obtain⟨T,S,f3⟩:=R _ (iQ q);have ar:=a3.left.dirs hr;unfold vD at ar;have Q:=qW (k:=1) 256 ar.left g T.1 (by omega);have ar:=ar.right;rw[Jx]at ar;have g2:=qW (k:=8) 18446744073709551616 ar.left g S.1 (by omega);have ar:=ar.right;rw[Jx]at ar;have O:=qW (k:=8) 18446744073709551616 ar g f3.1 (by omega);rw[show 11+J0 t+17*(i:Int)=0+((2:Nat):Int)+((4:Nat):Int)+((4:Nat):Int)+(t.length:Int)+((1:Nat):Int)+17*(i:Int) by omega]at V;rw[show J2 .i64 (11+J0 t+17*(i:Int)) 1=0+((2:Nat):Int)+((4:Nat):Int)+((4:Nat):Int)+(t.length:Int)+((1:Nat):Int)+17*(i:Int)+((1:Nat):Int) by omega]at Z;rw[show J2 .i64 (11+J0 t+17*(i:Int)) 9=0+((2:Nat):Int)+((4:Nat):Int)+((4:Nat):Int)+(t.length:Int)+((1:Nat):Int)+17*(i:Int)+((1:Nat):Int)+((8:Nat):Int) by omega]at G;grind [gF,List.take_add_one];grind;have hi:i=c.2.2.2.1.length:=by omega
  obtain⟨_,E⟩:=pu C;have e:K=J0h (J0 c.2.2.2.2) 2++gQ c.2.2.2.2:=by
   obtain⟨pre,j,B,q2⟩:=a4;have Y:(pre++((J0h (J0 c.2.2.2.2) 2++gQ c.2.2.2.2)++j)).length=(J0h c.1 2++(J0h c.2.1 4++(J0h (J0 t) 4++(t++(J0h (J0 c.2.2.2.1) 1++(oN c.2.2.2.1++(J0h (J0 c.2.2.2.2) 2++gQ c.2.2.2.2))))))).length:=by rw[<-B,<-P];rfl
   simp only[fR,Jx,si]at Y;have hp:j=[]:=List.length_eq_zero_iff.1 (by omega);subst hp;rw[E,B,jP,show(11+J0 t+17*(i:Int)).toNat=pre.length by omega];simp
  grind [JN5]
 exact M _ h rfl
end
end Go.Am
end
section
namespace Go.Am
set_option linter.unusedVariables false
set_option maxRecDepth 20000
set_option maxHeartbeats 1000000
section
variable {k:J4}
theorem JEH{p:JG}{y:List aA}(h:uT p=some y)(hv:JQ p=some true)(one:p.2.1.Pairwise λa b=>a.1.1≠b.1.1):(∀d∈y,∃f∈p.2.1,f.1.1=d.1/\d.2.2=f.1.2.1)/\ ∀f∈p.2.1,f.2.1=true->0<=f.1.1->f.1.1<64-> ∃d∈y,d.1=f.1.1:=by
 have B:Par (uT p) λy=>(∀d∈y,∃f∈p.2.1,f.1.1=d.1/\d.2.2=f.1.2.1)/\ ∀f∈p.2.1,f.2.1=true->0<=f.1.1->f.1.1<64-> ∃d∈y,d.1=f.1.1:=by
  unfold uT;refine .bind λv L=>.not (λc=>by simp_all) λ_=>.while (λz=>z.2.1=p/\(0<=z.1/\z.1<=64)/\(∀d∈z.2.2,∃f∈p.2.1,f.1.1=d.1/\d.2.2=f.1.2.1)/\ ∀f∈p.2.1,f.2.1=true->0<=f.1.1->f.1.1<z.1-> ∃d∈z.2.2,d.1=f.1.1) ⟨rfl,⟨aZ _,show(0:Int)<=64 by decide⟩,nofun,λf _ _ a b=>by grind⟩ ?_;rintro⟨i,I,o⟩ ⟨h1,⟨h2,J⟩,k,w⟩
  (try dsimp only at h1 h2 J k w)
  subst h1;unfold jq;dsimp only;have oo:=Jg i 1;refine .lt (λH=>.bind λj D=>.ge (λA=>.bind λf n=>?_) λA=>.some ⟨rfl,by grind,k,λg E a b c=>?_⟩) λH=>.some ⟨k,λf n a b c=>w f n a b (by omega)⟩;obtain⟨g,q,R⟩:=(xB D).2.1 A;rw[n]at q;injection q with q;subst q;have G: ∀x∈I.2.1,x.1.1=i->x=f:=λx r e=>by
   obtain⟨a,T⟩:=fS.1 r;obtain⟨_,Q⟩:=cB n;grind [E0]
  refine .ite (λF=>.bind λO M=>.bind λP K=>.bind λN C=>.some ⟨rfl,by grind,λd hd=>?_,λx r a b c=>?_⟩) λF=>.some ⟨rfl,by grind,k,λx r a b c=>?_⟩
  (try dsimp only at hd)
  rw[gF C]at hd;grind [nN]
  (try dsimp only at c⊢)
  rw[gF C];by_cases e:x.1.1=i;exact⟨_,List.mem_append_right _ (qG.2 rfl),e.symm⟩;obtain⟨d,S,U⟩:=w x r a b (by omega);grind;grind
  (try dsimp only at c)
  by_cases e:g.1.1=i;exact absurd e ((xB D).2.2 (by omega) g E);grind
 exact B _ h
def OfQ(k:J4)(n:Int)(D:List aA):Prop:=(∀d∈D,d.2.2=bS k.2.2.1.2.1 d.1)/\ ∀q,0<=q->q<n->((∃d∈k.2.2.2.2.2.2.2,d.1=q)\/(∃f∈k.2.2.2.1.2.1,f.2.1=true/\f.1.1=q))-> ∃d∈D,d.1=q
theorem JNJ{y:tG}(h:AH k=some y)(c:y.2=0)(hi:JD k):y.1.1=k.1/\y.1.2.2.2.2=k.2.2.2.2.2.2.1/\OfQ k k.1 y.1.2.2.2.1/\Jp k=some true:=by
 have Z:Par (AH k) λy=>y.2=0->y.1.1=k.1/\y.1.2.2.2.2=k.2.2.2.2.2.2.1/\OfQ k k.1 y.1.2.2.2.1/\Jp k=some true:=by
  unfold AH;refine .bind λv K=>.not (λ_=>.some nofun) λcv=>?_;have K:Jp k=some true:=by simp_all
  have ao:k.1<=64:=by
   have k1:Par (mH k) λy=>y=true->k.1<=64:=by unfold mH;exact .ge (λ_=>.le (λc=>λ_ _ _=>c) λ_=>.some nofun) λ_=>.some nofun
   have O:Par (Jp k) λy=>y=true->k.1<=64:=by unfold Jp;exact .bind λa ha=>.not (λ_=>.some nofun) λc=>λ_ _ _=>k1 _ ha c
   exact O _ K rfl
  refine .while (λz=>z.2.1=k/\z.2.2.2.2.2.2.2.2.2.1=k.1/\z.2.2.2.2.2.2.2.2.2.2.2.2=k.2.2.2.2.2.2.1/\(0<=z.1/\z.1<=1000)/\OfQ k z.1 z.2.2.2.2.2.2.2.1) ⟨rfl,rfl,rfl,⟨aZ _,show(0:Int)<=1000 by decide⟩,nofun,λq a b=>by grind⟩ ?_;rintro⟨i,k',u1,u2,u3,u4,u5,D,u6,pg,u7,u8,rw⟩ ⟨h1,h2,h3,⟨h4,E⟩,B⟩
  (try dsimp only at h1 h2 h3 h4 E B)
  subst h1 h2 h3;unfold g6;have oo:=Jg i 1;have S:gy=NA:=rfl;rw[S];have lp: ∀{A w:List aA},i<k'.1->uT k'.2.2.2.1=some w->(∀d∈A,d.2.2=bS k'.2.2.1.2.1 d.1)->(∀d∈D,d∈A)->((∃d∈k'.2.2.2.2.2.2.2,d.1=i)-> ∃d∈A,d.1=i)->
    Par (J6 NA (i,w,J0 w,0,k',u1,u2,u3,u4,u5,A,u6,k'.1,u7,u8,k'.2.2.2.2.2.2.1)) λr=> ∃z,r=.inl z/\z.2.1=k'/\z.2.2.2.2.2.2.2.2.2.1=k'.1/\z.2.2.2.2.2.2.2.2.2.2.2.2=k'.2.2.2.2.2.2.1/\(0<=z.1/\z.1<=1000)/\OfQ k' z.1 z.2.2.2.2.2.2.2.1:=by
   intro A w I F hl ae ap;obtain⟨d1,d2⟩:=JEH F (MM K) hi.2.2.one;refine .while (λz=>z.1=i/\z.2.1=w/\z.2.2.1=J0 w/\z.2.2.2.2.1=k'/\z.2.2.2.2.2.2.2.2.2.2.2.2.1=k'.1/\z.2.2.2.2.2.2.2.2.2.2.2.2.2.2.2=k'.2.2.2.2.2.2.1/\(∀d∈z.2.2.2.2.2.2.2.2.2.2.1,d.2.2=bS k'.2.2.1.2.1 d.1)/\(∀d∈A,d∈z.2.2.2.2.2.2.2.2.2.2.1)/\upw (λd=>d.1=i->d∈z.2.2.2.2.2.2.2.2.2.2.1) w z.2.2.2.1) ⟨rfl,rfl,rfl,rfl,rfl,rfl,hl,λ_ h=>h,EQ⟩ ?_;rintro⟨i',aq,n,j,O,t1,t2,t3,t4,t5,D2,t6,pg,t7,t8,rw⟩ ⟨g1,g2,g3,U,R,P,H,Y,J⟩
   (try dsimp only at g1 g2 g3 U R P H Y J)
   subst g1 g2 g3 U R P;unfold NA;refine .lt (λW=>.bind λd hd=>.eq (λcd=>.bind λy9 L=>.some ⟨rfl,rfl,rfl,rfl,rfl,rfl,λx g=>?_,λx g=>?_,?_⟩) λcd=>.some ⟨rfl,rfl,rfl,rfl,rfl,rfl,H,Y,zZ J hd λh=>absurd h cd⟩) λW=>.some ⟨_,rfl,rfl,rfl,rfl,by grind,H,λq M q2 G=>?_⟩
   (try dsimp only at g)
   rw[gF L]at g;rcases zQ9.1 g with g|g;exact H x g;simp at g;subst g;obtain⟨f,T,N,f3⟩:=d1 _ (nN hd);rw[f3,(hi.2.2.hot f T).1,N];dsimp only;rw[gF L];grind;dsimp only;rw[gF L];exact zZ (J.mono λx h e=>List.mem_append_left _ (h e)) hd λ_=>List.mem_append_right _ (qG.2 rfl)
   ·(try dsimp only at q2)
    have al:=FK J W;by_cases e:q=i'
    ·subst e;rcases G with G|⟨f,T,N,f3⟩
     all_goals grind
    obtain⟨d,a,b⟩:=B.2 q M (by omega) G;grind
  have fin: ∀{o:Option ((DH)⊕(tG))} {Q:((DH)⊕(tG))->Prop},Par o (λr=> ∃z,r=.inl z/\z.2.1=k'/\z.2.2.2.2.2.2.2.2.2.1=k'.1/\z.2.2.2.2.2.2.2.2.2.2.2.2=k'.2.2.2.2.2.2.1/\(0<=z.1/\z.1<=1000)/\OfQ k' z.1 z.2.2.2.2.2.2.2.1)->
   (∀z,z.2.1=k'/\z.2.2.2.2.2.2.2.2.2.1=k'.1/\z.2.2.2.2.2.2.2.2.2.2.2.2=k'.2.2.2.2.2.2.1/\(0<=z.1/\z.1<=1000)/\OfQ k' z.1 z.2.2.2.2.2.2.2.1->Q (.inl z))->Par o Q:=λh1 h2=>h1.mono λr ⟨z,hz,h⟩=>by grind
  refine .lt (λI=>.bind λy4 E=>.ite (λV=>.bind λy5 C=>.bind λw F=>fin (lp I F (λd hd=>?_) (λd hd=>?_) λ_=>?_) λz h=>h) λV=>.bind λw F=>fin (lp I F B.1 (λd hd=>hd) λg=>?_) λz h=>h) λI=>.some λ_=>⟨rfl,rfl,⟨B.1,λq M q2 G=>B.2 q M (by grind) G⟩,K⟩;rw[gF C]at hd;rcases zQ9.1 hd with hd|hd;exact B.1 d hd;simp at hd;subst hd;exact hi.2.2.lak _ ((FO E).1 V).1;rw[gF C];grind;rw[gF C];grind [FO];grind [FO]
 exact Z _ h c
theorem F8{l:JJ}(hi:gO l)(hc:cX l.2.1):Par (dJ l) λy=>y=true:=by
 obtain⟨i1,i2,i3,i4⟩:=hi;have o:=bD l.1 1;unfold dJ;refine .ltf (λ_=>.gtf (λ_=>.gtf (λ_=>.ltf (λ_=>.bind λm r=>.gt (λc=>?_) λ_=>.while (λz=>z.2=l) rfl ?_) λc=>by omega) λc=>by omega) λc=>by omega) λc=>by omega
 grind [LH];rintro⟨i,l'⟩ h
 (try dsimp only at h)
 subst h;unfold WV;refine .lt (λ_=>.bind λe j=>.nef (λ_=>.bind λn g=>.bind λv x=>.not (λc=>?_) λ_=>.some rfl) λc=>?_) λ_=>.some rfl;rw[j]at g;injection g with g;subst g;obtain⟨_,q⟩:=cB j;have:=(hc _ _ q).2.1;simp_all;obtain⟨k,q⟩:=cB j
 (try dsimp only at k q c)
 have w:=(hc _ _ q).1;grind [J0,Jg]
theorem ov{l:JJ}{n:Int}(hi:gO l)(hc:cX l.2.1)(hn:n<=J0 l.2.1):Par (iM (l,n)) λy=>y.2=0:=by
 have v:=F8 hi hc;obtain⟨i1,i2,i3,i4⟩:=hi;unfold iM;refine .bind λb e=>.not (λc=>by rw[v _ e]at c;cases c) λ_=>.bind λm g=>.gt (λc=>?_) λ_=>.some rfl;grind [LH]
theorem JKV{y:gR}(h:AY k=some y)(c:y.2.2=0)(hi:JD k):JD y.1:=by
 have x:Par (AY k) λy=>y.2.2=0->JD y.1:=by
  unfold AY;refine .bind λy2 h2=>.ne (λc=>.some λh=>absurd h c) λM=>.bind λI U=>.gt (λ_=>.some nofun) λP=>.bind λZ S=>.ne (λc=>.some λh=>absurd h c) λR=>.bind λn D=>.some λ_=>?_;obtain⟨L,K,⟨N,B⟩,W⟩:=JNJ h2 M hi;have cp:VM k.2.2.1.2.1 I.1:=by
   intro c' hc';rcases JMF U with e|⟨v,t,e⟩;rw[e]at hc';exact absurd hc' (by have:uS []=some ((0,0,[],[],[]),5):=rfl;simp_all);rw[e]at hc' P;obtain⟨J,G,H⟩:=JMT v (by grind [J0]) hc';rw[J,G,H,L,K];refine⟨nofun,.nil,nofun,nofun,N,λp r w=>?_⟩;obtain⟨T,Y⟩:=hi.2.2.row p r w;refine⟨T,λ_ b=>?_⟩;have p0:=(cB w).1;have z:p<k.1:=by
    have:=jZ (cB w).2;have F:Par (mH k) λy=>y=true->J0 k.2.2.2.2.2.2.1=k.1:=by unfold mH;exact .ge (λ_=>.le (λ_=>.ge (λ_=>.le (λ_=>.bind λ_ _=>.ite (λ_=>.bind λ_ _=>.ite (λ_=>.bind λ_ _=>.ite (λ_=>.bind λ_ _=>.ite (λ_=>.bind λ_ _=>.ite (λ_=>.eq (λc=>λ_ _ _=>c) λ_=>.some nofun) λ_=>.some nofun) λ_=>.some nofun) λ_=>.some nofun) λ_=>.some nofun) λ_=>.some nofun) λ_=>.some nofun) λ_=>.some nofun) λ_=>.some nofun) λ_=>.some nofun
    have Q:Par (Jp k) λy=>y=true->J0 k.2.2.2.2.2.2.1=k.1:=by unfold Jp;exact .bind λa V=>.not (λ_=>.some nofun) λc=>λ_ _ _=>F _ V c
    have:=Q _ W rfl;omega
   by_cases E: ∃f∈k.2.2.2.1.2.1,f.1.1=p;obtain⟨f,j,o⟩:=E;cases fd:f.2.1 with
   |true=>
    obtain⟨d,a,e⟩:=B p p0 z (.inr ⟨f,j,fd,o⟩);grind
   |false=>
    have:=(hi.2.2.hot f j).2 fd r (by grind);grind
   refine Y (λf C e=>E ⟨f,C,e⟩) λd hd e=>?_;obtain⟨O,a,e'⟩:=B p p0 z (.inl ⟨d,hd,e⟩);exact b O a e'
  have q:=OL S R hi (λh=>absurd h (by simp_all)) (λh=>absurd h (by simp_all)) λ_=>cp;have g:=q.inv hi (by simp_all) λh=>absurd h (by simp_all);by_cases A:n.2=0;obtain⟨j,o⟩:=RQ D A;exact⟨o g.1,by show cX n.1.2.1;rw[j];exact g.2.1,by show Rel n.1.2.1 _ _ _ _;rw[j];exact g.2.2⟩;obtain⟨_,e',_,_,a3,a4,_,a6,_⟩:=q;exact absurd (ov g.1 g.2.1 (by grind [FU,rE]) _ D) A
 exact x _ h c
end
section
variable {s:Ju}
theorem Oc{y:pY}(e:CN s=some y)(c:y.2.2=0)(hi:JD s.1):JD y.1.1:=by
 have g:Par (CN s) λy=>y.2.2=0->JD y.1.1:=by unfold CN;exact .bind λk h2=>.ne (λc=>.some λh=>absurd h c) λj=>.some λ_=>JKV h2 j hi
 exact g _ e c
end
end Go.Am
end
section
namespace Go.Am
set_option linter.unusedVariables false
set_option maxRecDepth 20000
set_option maxHeartbeats 1000000
section
variable {s:Ju}
abbrev TFl:=Int×Int×Int×(List J1)×Int×Int×(List aG)×Int×(List aD)×(List aD)×(List Jo)×(List aA)×(List aA)×(List (List UInt8))×Int×(List Int)×Bool×(List JP)×Bool×(List Int)×(List uG)
def krn(t:TFl):J4:=(t.1,t.2.1,(t.2.2.1,t.2.2.2.1,t.2.2.2.2.1),(t.2.2.2.2.2.1,t.2.2.2.2.2.2.1,t.2.2.2.2.2.2.2.1),(t.2.2.2.2.2.2.2.2.1,t.2.2.2.2.2.2.2.2.2.1),t.2.2.2.2.2.2.2.2.2.2.1,t.2.2.2.2.2.2.2.2.2.2.2.1,t.2.2.2.2.2.2.2.2.2.2.2.2.1)
theorem M6{k:J4}{t n m:Int}{b:List UInt8}{d:dP}{y:dU}(hi:JD k)(hb:mL (k.2.2.1,t)=some b)(h:xS (d,b,n,m)=some y)(c:y.2=0):JD y.1.1:=by
 have g:Par (xS (d,b,n,m)) λy=>y.2=0->JD y.1.1:=by
  unfold xS;dsimp only;refine .bind λo h2=>.ne (λc=>.some λh=>absurd h c) λr=>.bind λF A=>.ne (λc=>.some λh=>absurd h c) λz=>.bind λG J=>.ne (λc=>.some λh=>absurd h c) λI=>.some λ_=>?_;rcases JJQ hb hi.1 hi.2.1 with e|⟨f,x,hd,rest,B,w,C⟩;rw[e]at h2;have:xR []=some ((0,[],0),4):=rfl;grind;obtain⟨j,v,L,K⟩:=JLO h2 f hi.2.1 x B w C r;have hc:=hi.2.1.take j;have E:J0 (k.2.2.1.2.1.take j)=j:=by grind [J0]
  have hL:gO o.1:=by rw[v];exact⟨rfl,by simp_all,by simp_all,by grind⟩
  have q:cX o.1.2.1:=by simp_all
  obtain⟨D,H⟩:=JEZ A z q;grind [JIT]
 exact g _ h c
theorem JEX{t id g:Int}{y:dP×List UInt8}(h:BO (s,t,id,g)=some y)(hi:JD s.1): ∃k,JD k/\ ∃t,mL (k.2.2.1,t)=some y.2:=by
 have n:Par (BO (s,t,id,g)) λy=> ∃k,JD k/\ ∃t,mL (k.2.2.1,t)=some y.2:=by unfold BO;exact .bind λ_ _=>.ge (λ_=>.bind λ_ _=>.ite (λ_=>.bind λ_ _=>.bind λ_ _=>.bind λ_ _=>.bind λo q=>.bind λ_ _=>.eq (λ_=>.bind λj e=>.some ⟨o,hi.force q,_,e⟩) λ_=>.bind λj e=>.some ⟨o,hi.force q,_,e⟩) λ_=>.bind λj e=>.some ⟨s.1,hi,_,e⟩) λ_=>.bind λj e=>.some ⟨s.1,hi,_,e⟩
 exact n _ h
variable {x:pD} {t:TFl}
theorem LC{e:Int}{y:dQ×TFl}(h:pW (s,e,t)=some y)(hi:JD (krn t))(hs:e=0->JD s.1):JD (krn y.2):=by
 have g:Par (pW (s,e,t)) λy=>JD (krn y.2):=by unfold pW;exact .eq (λc=>.bind λ_ _=>.some (hs c)) λ_=>.bind λ_ _=>.some hi
 exact g _ h
theorem JMt{y:dQ×TFl}(h:CO (x,t)=some y)(hi:JD (krn t)):JD (krn y.2):=by
 have g:Par (CO (x,t)) λy=>JD (krn y.2):=by unfold CO;exact .ltf (λ_=>.gtf (λ_=>.bind λ_ _=>.bind λ_ _=>.eq (λ_=>.bind λ_ _=>.some hi) λ_=>.bind λ_ _=>.bind λ_ _=>.bind λj e=>.eq (λ_=>.some hi) λ_=>.eq (λ_=>.eq (λ_=>.bind λ_ _=>.bind λ_ _=>.some (YH e hi)) λ_=>.some (YH e hi)) λ_=>.some (YH e hi)) λ_=>.bind λ_ _=>.some hi) λ_=>.bind λ_ _=>.some hi
 exact g _ h
theorem JIM{y:dQ×TFl}(h:CT (x,t)=some y)(hi:JD (krn t)):JD (krn y.2):=by
 have n:Par (CT (x,t)) λy=>JD (krn y.2):=by
  unfold CT;refine .bind λe h2=>.bind λj q=>?_;obtain⟨k,A,t',w⟩:=JEX h2 hi;have E:j.2=0->JD j.1.1:=by unfold MW at q;have r:Par ((xS (e.1,e.2,t.1,t.2.2.2.2.2.1)).bind λe=>some (e.1,e.2)) λy=>y.2=0->JD y.1.1:=.bind λF B=>.some λc=>M6 A w B c;exact r _ q
  refine .while (λz=>z.1=j.2/\z.2.2.2.2.2.2.2.2.2.2.2.2.2.2.2.2.2.2.2.2.2.2.2.2.2.2=j.1/\ ∃u v:List Int,True/\JD (krn (z.2.2.1,z.2.2.2.1,z.2.2.2.2.1,z.2.2.2.2.2.1,z.2.2.2.2.2.2.1,z.2.2.2.2.2.2.2.1,z.2.2.2.2.2.2.2.2.1,z.2.2.2.2.2.2.2.2.2.1,z.2.2.2.2.2.2.2.2.2.2.1,z.2.2.2.2.2.2.2.2.2.2.2.1,z.2.2.2.2.2.2.2.2.2.2.2.2.1,z.2.2.2.2.2.2.2.2.2.2.2.2.2.1,z.2.2.2.2.2.2.2.2.2.2.2.2.2.2.1,[],0,[],false,[],false,u,[]))) ⟨rfl,rfl,[],[],trivial,hi⟩ λz D=>?_;obtain⟨C,o,u,v,_,z3⟩:=D;unfold n4;refine .lt (λ_=>.bind λ_ _=>.bind λ_ _=>.some ⟨C,o,u,v,trivial,z3⟩) λ_=>.map (.ne (λ_=>.bind λ_ _=>.some z3) λc=>.bind λ_ _=>.some ?_);have g:=E (by simp_all);rw[<-o]at g;exact g
 exact n _ h
theorem JKH{y:dQ×TFl}(h:CR (x,t)=some y)(hi:JD (krn t)):JD (krn y.2):=by
 have z:Par (CR (x,t)) λy=>JD (krn y.2):=(by unfold CR;refine .eq (λ_=>.bind λF h2=>.eq (λ_=>.bind λA _=>.bind λk n=>.some ?_) λ_=>.bind λk n=>.some (show JD (krn k.2)from LC n hi λc=>sg h2 c hi)) λ_=>.eq (λ_=>.bind λE C=>.some (JMt C hi)) λ_=>.eq (λ_=>.bind λo e=>.bind λw g=>.some (LC g hi λc=>JFs e c hi)) λ_=>.eq (λ_=>.bind λo e=>.bind λw g=>.some (LC g hi λc=>Oc e c hi)) λ_=>.eq (λ_=>.bind λ_ _=>.bind λj r=>.eq (λc=>.bind λ_ _=>.some ?_) λ_=>.bind λ_ _=>.some hi) λ_=>.eq (λ_=>.bind λD v=>.some (JIM v hi)) λ_=>.eq (λ_=>.bind λo e=>.bind λw g=>.some (LC g hi λc=>JLj e c hi)) λ_=>.bind λ_ _=>.some hi;show JD (krn k.2);exact LC (t:=(_,_,_,_,_,_,_,_,_,_,_,_,_,_,_,_,_,_,_,A,_)) n hi λc=>sg h2 c hi;obtain⟨q,B⟩:=RQ r c;exact⟨B hi.1,by show cX j.1.2.1;rw[q];exact hi.2.1,by show Rel j.1.2.1 _ _ _ _;rw[q];exact hi.2.2⟩);exact z _ h
theorem JN7{l:List pD}{y:Ju×(List dQ)×List uG}(h:AN (s,l)=some y)(hi:JD s.1):JD y.1.1:=by
 have g:Par (AN (s,l)) λy=>JD y.1.1:=by unfold AN;refine .while (λz=>JD (krn (z.2.2.2.2.2.2.1,z.2.2.2.2.2.2.2.1,z.2.2.2.2.2.2.2.2.1,z.2.2.2.2.2.2.2.2.2.1,z.2.2.2.2.2.2.2.2.2.2.1,z.2.2.2.2.2.2.2.2.2.2.2.1,z.2.2.2.2.2.2.2.2.2.2.2.2.1,z.2.2.2.2.2.2.2.2.2.2.2.2.2.1,z.2.2.2.2.2.2.2.2.2.2.2.2.2.2.1,z.2.2.2.2.2.2.2.2.2.2.2.2.2.2.2.1,z.2.2.2.2.2.2.2.2.2.2.2.2.2.2.2.2.1,z.2.2.2.2.2.2.2.2.2.2.2.2.2.2.2.2.2.1,z.2.2.2.2.2.2.2.2.2.2.2.2.2.2.2.2.2.2.1,[],0,[],false,[],false,[],[]))) (by exact hi) λz e=>?_;unfold il;exact .lt (λ_=>.lt (λ_=>.not (λ_=>.bind λ_ _=>.bind λk j=>.bind λ_ _=>.some (JKH j e)) λ_=>.some e) λ_=>.some e) λ_=>.some e
 exact g _ h
theorem JJh{p f:Int}{y:dU}(h:uI (p,f)=some y)(c:y.2=0):JD y.1.1:=by
 have j:Par (xL (p,f)) λy=>y.2=0->JD y.1:=by
  unfold xL;refine .ltf (λ_=>.gtf (λ_=>.ltf (λ_=>.gt (λ_=>.some nofun) λ_=>.bind λk h2=>.bind λn w=>.some λ_=>⟨⟨rfl,aZ _,Ja,show(0:Int)<=4096 by decide⟩,λi e h=>by simp at h,?_⟩) λ_=>.some nofun) λ_=>.some nofun) λ_=>.some nofun;have q:Par (xK f) λy=>y.1.2.1=[]:=by unfold xK;exact .ltf (λ_=>.gt (λ_=>.some rfl) λ_=>.some rfl) λ_=>.some rfl
  show Rel [] p k.1.2.1 [] n.1;rw[q _ h2];refine⟨nofun,.nil,nofun,nofun,nofun,λp r v=>?_⟩;have z:r.1=0:=G8 w r (nN v);rw[z];exact⟨aZ _,λ_ _=>rfl⟩
 have g:Par (uI (p,f)) λy=>y.2=0->JD y.1.1:=by unfold uI;exact .bind λk h2=>.ne (λc=>.some λh=>absurd h c) λo=>.bind λ_ _=>.ne (λc=>.some λh=>absurd h c) λ_=>.some λ_=>j _ h2 o
 exact g _ h c
end
end Go.Am
end
section
namespace Go.Am
set_option linter.unusedVariables false
set_option maxRecDepth 20000
set_option maxHeartbeats 1000000
section
variable {B S:Int}
theorem JLQ{p f:Int}(h1:1<=p)(h2:p<=64)(h3:1<=f)(h4:f<=64):Par (uI (p,f)) λy=>y.2=0:=by
 have e:Par (xL (p,f)) λy=>y.2=0:=by unfold xL;exact .ltf (λ_=>.gtf (λ_=>.ltf (λ_=>.gt (λc=>by grind) λ_=>.bind λj h2=>.bind λg h3=>.some rfl) λc=>by grind) λc=>by grind) λc=>by grind
 have h:Par (FY p) λy=>y.2=0:=by unfold FY;exact .ltf (λ_=>.gt (λc=>by omega) λ_=>.bind λ_ _=>.some rfl) λc=>by omega
 unfold uI;exact .bind λj h2=>.ne (λc=>absurd (e _ h2) c) λk=>.bind λg h3=>.ne (λc=>absurd (h _ h3) c) λ_=>.some rfl
theorem JEz{c:Jf}{n:Int}{b:Bool}{y:Ju×Jf}(hf:aB 16384 1073741824 J5 c)(h0:0<=c.2)(h:CP (n,b,c)=some y):JD y.1.1:=by
 have o:Par (CP (n,b,c)) λy=>JD y.1.1:=(by unfold CP;refine .bind λg h2=>.bind λk r=>.bind λC q=>.bind λx F=>.bind λz D=>.some ?_;have e:=(Js (B:=16384) (S:=1073741824) (X:=(4,c)) ⟨nC .i64 4,hf⟩ h0).get h2;have j:=(Js (B:=16384) (S:=1073741824) (X:=(3,g.2)) ⟨nC .i64 3,e.1.2⟩ e.2.2.2).get r;have G:=e.2.2.1 (show(1:Int)<=4 by decide);have a3:=j.2.2.1 (show(1:Int)<=3 by decide);have b2:=e.2.1;have v:=j.2.1;have w:=Jg 1 g.1;have A:=Jg 1 k.1;have E:=JLQ (p:=J2 .i64 1 g.1) (f:=J2 .i64 1 k.1) (by omega) (by grind) (by omega) (by grind) _ q;grind [JN7,JJh]);exact o _ h
theorem JHA{c:Jf}{n:Int}{b:Bool}{y:J4×Jf}(hf:aB 16384 1073741824 J5 c)(h0:0<=c.2)(h:CS (n,b,c)=some y):JD y.1:=by
 have e:Par (CS (n,b,c)) λy=>JD y.1:=by unfold CS;exact .bind λg h2=>.some (JEz hf h0 h2)
 exact e _ h
def Cp(l:JJ):Prop:=gO l/\cX l.2.1
theorem JF9{c:Jf}{n:Int}{y:Int×JJ×Jf}(hf:aB 16384 1073741824 J5 c)(h0:0<=c.2)(h:AI (n,c)=some y):Cp y.2.1/\y.2.1.2.2=J0 y.2.1.2.1:=by
 have o:Par (AI (n,c)) λy=>Cp y.2.1/\y.2.1.2.2=J0 y.2.1.2.1:=by
  unfold AI;refine .bind λe h2=>.bind λj A=>.bind λC k=>.some ?_;have g:=JHA hf h0 h2;have E:j=J0 e.1.2.2.1.2.1:=(by have w:Par (rM e.1.2.2.1) λy=>y=J0 e.1.2.2.1.2.1:=(by unfold rM;refine .bind λv B=>.not (λc=>by rw[F8 g.1 g.2.1 _ B]at c;cases c) λ_=>.bind λm D=>.some ?_;obtain⟨i1,i2,i3,i4⟩:=g.1;grind [LH]);exact w _ A);have q:=ov g.1 g.2.1 (n:=j) (by omega) _ k;obtain⟨r,x⟩:=RQ k q;refine⟨⟨x g.1,by rw[r];exact g.2.1⟩,?_⟩;have z:Par (iM (e.1.2.2.1,j)) λy=>y.2=0->y.1.2.2=cO e.1.2.2.1.2.2 j:=by unfold iM;exact .bind λ_ _=>.not (λ_=>.some nofun) λ_=>.bind λ_ _=>.gt (λ_=>.some nofun) λ_=>.some λ_=>rfl
  have:=z _ k q;have mx:=rB e.1.2.2.1.2.2 j;have i3:=g.1.2.2.1;grind
 exact o _ h
end
end Go.Am
end
section
namespace Go.Am
set_option linter.unusedVariables false
set_option maxRecDepth 20000
set_option maxHeartbeats 1000000
theorem i1(c x:Bool):(if c=true then some x else some false)=some (c&&x):=by cases c<;>rfl
theorem i2(c x:Bool):(if c=false then some x else some false)=some (!c&&x):=by cases c<;>rfl
theorem i3(c x:Bool):(if c=true then some false else some x)=some (!c&&x):=by cases c<;>rfl
theorem i4{α:Type}(c x:Bool)(E:α):(if c=true then some (E,x)else some (E,false))=some (E,c&&x):=by cases c<;>rfl
theorem JIH(c:fL):JR c=JR c:=rfl
theorem Hb(c:fL): ∃b,JR c=some b:=by unfold JR;split<;>(try split)<;>exact⟨_,rfl⟩
theorem JEl(c:aL): ∃b,uP c=some b/\kK c=some b:=by
 obtain⟨b1,e⟩:=Hb c.2.2.1;obtain⟨b2,g⟩:=Hb c.2.2.2;grind [uP,BY,kK,JIH]
theorem JBW{x:JE}(e:kM x=some true):0<=x.1/\x.1<x.2:=by
 grind [kM,wP,iG]
theorem ff(x:JE): ∃b,kM x=some b:=by unfold kM;split<;>exact⟨_,rfl⟩
theorem JJO(c:aL): ∃z,xT c=some z/\(z=true↔c=(0,0,(false,[]),false,[])):=⟨_,rfl,J0X (t:=fO)⟩
theorem JMO(c:aL): ∃z,CJ c=some z/\(z=true↔c=(c.1,0,(false,[]),false,[])/\0<=c.1/\c.1<64):=by
 have e:Tot (CJ c) λz=>(z=true↔c=(c.1,0,(false,[]),false,[])/\0<=c.1/\c.1<64):=by unfold CJ;exact .ite (λh=>.ge (λg=>.some ⟨λk=>⟨(J0X (t:=fO)).1 h,g,iG.1 k⟩,λk=>iG.2 k.2.2⟩) λg=>.some ⟨nofun,λk=>absurd k.2.1 g⟩) λh=>.some ⟨nofun,λk=>(Bool.false_ne_true (h.symm.trans ((J0X (t:=fO)).2 k.1))).elim⟩
 exact e
theorem JM4(e:J1):rY e=Jl e:=by
 obtain⟨l,k,t,n,q,o,c,bl⟩:=e;obtain⟨N,v,w⟩:=JEl c;obtain⟨b1,r⟩:=ff (n,l);obtain⟨b2,A⟩:=ff (q,l);obtain⟨G,B⟩:=ff (o,l);have C:pM (n,l,k,t,n,q,o,c,bl)=some b1:=r;have D:pM (q,l,k,t,n,q,o,c,bl)=some b2:=A;have E:pM (o,l,k,t,n,q,o,c,bl)=some G:=B;have M: ∀b:Bool,Jr b= !b:=λ_=>rfl;unfold rY Jl pP;dsimp only;rw[C,D,E,r,A,B,v,w];have O: ∀a b:J1,(eqT t_api_Entry a b=true)=(a=b):=λa b=>propext (J0X (t:=t_api_Entry));have L: ∀a b:aL,(eqT fO a b=true)=(a=b):=λa b=>propext (J0X (t:=fO));have P:b1=true->0<=n/\n<l:=λh=>by subst h;exact JBW r
 have x:k=1\/k=2\/k=3\/k=4\/k=5\/k=6\/k=7\/k=8\/k<1\/8<k:=by omega
 clear r A B C D E v w;have Q:J0 ([]:List UInt8)=0:=rfl;obtain⟨z,g,K⟩:=JJO c;obtain⟨y,j,J⟩:=JMO c;rcases x with rfl|rfl|rfl|rfl|rfl|rfl|rfl|rfl|x|x;simp only[show aK 1 1=false from rfl,show aO 1 8=false from rfl,show aJ 1 8=false from rfl,show aJ 1 7=false from rfl,show aJ 1 6=false from rfl,show aJ 1 5=false from rfl,show aJ 1 4=false from rfl,show aJ 1 3=false from rfl,show aJ 1 2=false from rfl,show aJ 1 1=true from rfl,if_true,if_false,eI,reduceCtorEq,JL,hX,lI,g,j,i1,i2,i3,i4]
 congr 1
 grind [aK,aO,aP,aX,aN,neS];simp only[show aK 2 1=false from rfl,show aO 2 8=false from rfl,show aJ 2 8=false from rfl,show aJ 2 7=false from rfl,show aJ 2 6=false from rfl,show aJ 2 5=false from rfl,show aJ 2 4=false from rfl,show aJ 2 3=false from rfl,show aJ 2 2=true from rfl,show aJ 2 1=false from rfl,if_true,if_false,eI,reduceCtorEq,JL,hX,lI,g,j,i1,i2,i3,i4]
 congr 1
 grind [aK,aO,aP,aX,aJ,neS];simp only[show aK 3 1=false from rfl,show aO 3 8=false from rfl,show aJ 3 8=false from rfl,show aJ 3 7=false from rfl,show aJ 3 6=false from rfl,show aJ 3 5=false from rfl,show aJ 3 4=false from rfl,show aJ 3 3=true from rfl,show aJ 3 2=false from rfl,show aJ 3 1=false from rfl,if_true,if_false,eI,reduceCtorEq,JL,hX,lI,g,j,i1,i2,i3,i4]
 congr 1
 grind [aK,aO,aP,aX,aN,aJ,neS];simp only[show aK 4 1=false from rfl,show aO 4 8=false from rfl,show aJ 4 8=false from rfl,show aJ 4 7=false from rfl,show aJ 4 6=false from rfl,show aJ 4 5=false from rfl,show aJ 4 4=true from rfl,show aJ 4 3=false from rfl,show aJ 4 2=false from rfl,show aJ 4 1=false from rfl,if_true,if_false,eI,reduceCtorEq,JL,hX,lI,g,j,i1,i2,i3,i4]
 congr 1
 grind [aK,aO,aP,aX,aN,aJ,neS];simp only[show aK 5 1=false from rfl,show aO 5 8=false from rfl,show aJ 5 8=false from rfl,show aJ 5 7=false from rfl,show aJ 5 6=false from rfl,show aJ 5 5=true from rfl,show aJ 5 4=false from rfl,show aJ 5 3=false from rfl,show aJ 5 2=false from rfl,show aJ 5 1=false from rfl,if_true,if_false,eI,reduceCtorEq,JL,hX,lI,g,j,i1,i2,i3,i4]
 congr 1
 grind [aK,aO,aP,aX,aN,aJ,neS];simp only[show aK 6 1=false from rfl,show aO 6 8=false from rfl,show aJ 6 8=false from rfl,show aJ 6 7=false from rfl,show aJ 6 6=true from rfl,show aJ 6 5=false from rfl,show aJ 6 4=false from rfl,show aJ 6 3=false from rfl,show aJ 6 2=false from rfl,show aJ 6 1=false from rfl,if_true,if_false,eI,reduceCtorEq,JL,hX,lI,g,j,i1,i2,i3,i4];grind [aK,aO,aP,aX,aN,Prod.mk.injEq];simp only[show aK 7 1=false from rfl,show aO 7 8=false from rfl,show aJ 7 8=false from rfl,show aJ 7 7=true from rfl,show aJ 7 6=false from rfl,show aJ 7 5=false from rfl,show aJ 7 4=false from rfl,show aJ 7 3=false from rfl,show aJ 7 2=false from rfl,show aJ 7 1=false from rfl,if_true,if_false,eI,reduceCtorEq,JL,hX,lI,g,j,i1,i2,i3,i4];grind [aK,aO,aP,aX,aN,neS,Prod.mk.injEq];simp only[show aK 8 1=false from rfl,show aO 8 8=false from rfl,show aJ 8 8=true from rfl,show aJ 8 7=false from rfl,show aJ 8 6=false from rfl,show aJ 8 5=false from rfl,show aJ 8 4=false from rfl,show aJ 8 3=false from rfl,show aJ 8 2=false from rfl,show aJ 8 1=false from rfl,if_true,if_false,eI,reduceCtorEq,JL,hX,lI,g,j,i1,i2,i3,i4];grind [aK,aO,aP,aX,aN,Prod.mk.injEq];have H:aJ k 1=false:=by grind [aJ]
 have I:aJ k 2=false:=by grind [aJ]
 have F:aJ k 3=false:=by grind [aJ]
 grind [aJ,aK];have H:aJ k 1=false:=by grind [aJ]
 have I:aJ k 2=false:=by grind [aJ]
 have F:aJ k 3=false:=by grind [aJ]
 grind [aJ,aO]
theorem JEa{x0:List Int}{y:Jf}(w0:Ty.inR (.l (.i .u8)) x0)(h:uH (x0,400)=some y):aB 16384 1073741824 J5 y/\0<=y.2:=by
 have j:aB (J0 x0) 0 (.l (.i .u8)) x0:=⟨aZ _,λa e=>by
  grind [PM,Ty.inR,IntKind.min,IntKind.max,IntKind.signed,IntKind.bits]⟩
 have k:0<=J0 x0:=Ja;have g:=(tu (B:=J0 x0) (S:=0) (X:=(x0,400)) ⟨j,nC .i64 400⟩ (show(0:Int)<=400 by decide)).get h;obtain⟨n,o⟩:=JIu h;exact⟨⟨⟨by grind,λa e=>g.1.1.2 a e⟩,g.1.2⟩,by omega⟩
theorem JEw{x0:List Int}(w0:Ty.inR (.l (.i .u8)) x0):Tot (uH (x0,400)) λy=>aB 16384 1073741824 J5 y/\0<=y.2:=by
 have g:aB (J0 x0) 0 (.l (.i .u8)) x0:=⟨aZ _,λa j=>by
  grind [PM,Ty.inR,IntKind.min,IntKind.max,IntKind.signed,IntKind.bits]⟩
 have h:0<=J0 x0:=Ja;obtain⟨y,e,_⟩:=tu (B:=J0 x0) (S:=0) (X:=(x0,400)) ⟨g,nC .i64 400⟩ (show(0:Int)<=400 by decide);exact⟨y,e,JEa w0 e⟩
end Go.Am
end
section
namespace Go.Am
set_option linter.unusedVariables false
set_option maxRecDepth 20000
set_option maxHeartbeats 1000000
theorem JKm(f t lo hi lv:Int)(es:List J1): ∃b,pS (f,t,lo,hi,lv)=some b/\XG (f,t,lo,hi,lv,es)=some (b,es):=by
 unfold pS XG;dsimp only
 repeat' split
 all_goals simp_all
theorem JMM(f t lo hi lv:Int)(x:J1)(es:List J1):NS (f,t,lo,hi,lv,x,es)=some (inB f t lo hi x,es):=by
 have j:Tot (NS (f,t,lo,hi,lv,x,es)) λy=>y=(inB f t lo hi x,es):=by
  unfold NS;have hc:Tot (Jt x) λy=>(y=true↔x.2.1=1\/x.2.1=2):=by unfold Jt;exact .eqf (λc=>.some ⟨λd=>.inr (jI.1 d),λd=>jI.2 (d.resolve_left c)⟩) λc=>.some ⟨λ_=>.inl c,λ_=>rfl⟩
  have g: ¬((x.2.1=1\/x.2.1=2)/\(lo<=aR x/\aR x<=hi)/\f<=x.1/\x.1<=t)->(false,es)=(inB f t lo hi x,es):=λh=>by
   grind [inB]
  refine .bind hc λy h=>.ite (λd=>.ge (λn=>.le (λo=>.ge (λr=>.some ?_) λc=>.some (g λh=>c h.2.2.1)) λc=>.some (g λh=>c h.2.1.2)) λc=>.some (g λh=>c h.2.1.1)) λc=>.some (g λq=>by simp_all);show(aX x.1 t,es)=_;by_cases k:x.1<=t;rw[eG.2 k,zR.2 ⟨h.1 d,⟨n,o⟩,r,k⟩];grind [aX]
 obtain⟨y,e,d⟩:=j;rw[e,d]
def leL(a b:J1):Bool:=decide (a.1<=b.1)
theorem JKn:KC xZ leL:=λx y=>by
 refine⟨qA x.1 y.1,?_,?_⟩
 all_goals grind [xZ,Dn,qA,leL,aK]
theorem Dq(a b c:J1)(h:leL a b=true)(k:leL b c=true):leL a c=true:=by grind [leL]
theorem Dd(a b:J1):leL a b=true\/leL b a=true:=by grind [leL]
noncomputable def mkO(f t lo hi lv:Int)(es:List J1):Option (KI):=if J0 es>4096 then some ((0,0,0,0,0,[]),21)else(pQ (f,t,lo,hi,lv,es)).bind λv=>if v=true then some ((f,t,lo,hi,lv,es),0)else some ((0,0,0,0,0,[]),13)
theorem JGu{x y:J1}(hx:J7y x=true)(hy:J7y y=true):J6I x<J6I y↔ltE x y:=by
 grind [J7y,J6I,ltE,aR]
theorem Hm: ∀{l:List Int},(l.Pairwise λx y=>x≠y)->AB l=true
 |[],_=>rfl
 |x::l,h=>by rw[List.pairwise_cons]at h;simp only[AB,aT,CY,List.contains_eq_mem,decide_eq_false_iff_not];exact⟨λe=>h.1 x e rfl,Hm h.2⟩
theorem JK0{s E:List J1}(hf: ∀x∈s,J7y x=true)(hl:J0 s<=16384)(hd:s.Pairwise λx y=>x.1≠y.1)(v:E.Pairwise ltE)(hm: ∀x,x∈E↔x∈s):NZ s=some E:=by
 have w:(s.map J6I).Pairwise λx y=>x≠y:=(by rw[List.pairwise_map];refine hd.imp_of_mem fun{x y} r q h=>?_;grind [J7y,J6I]);have z:jB J6I s=some (s.mergeSort (iZ J6I)):=(by grind [jB,J0,Hm]);have g:=List.mergeSort_perm s (iZ J6I);have n:(s.mergeSort (iZ J6I)).Pairwise ltE:=(by have h1:=List.pairwise_mergeSort (le:=iZ J6I) (λa b c h k=>by grind [iZ]) (λa b=>by grind [iZ]) s;have h2:(s.mergeSort (iZ J6I)).Pairwise λx y=>x.1≠y.1:=g.symm.pairwise hd (λh k=>h k.symm);refine(h1.and h2).imp_of_mem fun{x y} r q h=>?_;have j:=hf x (g.mem_iff.1 r);have o:=hf y (g.mem_iff.1 q);rw[<-JGu j o];grind [iZ,J7y,J6I]);have e:s.mergeSort (iZ J6I)=E:=sn n v λx=>by grind
 show(if s.all J7y=true then jB J6I s else none)=some E;simp_all
end Go.Am
end
section
namespace Go.Am
set_option linter.unusedVariables false
set_option maxRecDepth 20000
set_option maxHeartbeats 1000000
section
variable {α:Type} [Inhabited α] [DecidableEq α]
theorem JIo(l:List α):(Lib.compact l).Sublist l:=by
 have e:=Lib.range_map_get l.toArray;have e:(List.range l.length).map (l.toArray[·]!)=l:=by simpa using e
 conv=>rhs;rw[<-e]
 unfold Lib.compact Lib.compactUpTo;exact List.filter_sublist.map _
theorem JJn{l:List α}{x:α}(h:x∈l):x∈Lib.compact l:=by
 have o: ∀j,j<l.length->l.toArray[j]! ∈Lib.compactUpTo l.toArray (j+1):=by
  intro j
  induction j with
  |zero=>intro _;rw[Lib.compactUpTo_succ,Lib.keeps_lt_one _ 0 (by decide)];simp
  |succ j ih=>
   intro k;rw[Lib.compactUpTo_succ];by_cases q:Lib.keeps l.toArray (j+1)=true;rw[q];simp;have e:l.toArray[j+1]! =l.toArray[j]! :=by
    have: ¬(j+1=0\/l.toArray[j+1]! ≠l.toArray[j+1-1]!):=by simpa[Lib.keeps]using q
    rw[Nat.add_sub_cancel]at this;exact Decidable.of_not_not λh=>this (.inr h)
   rw[e];exact List.mem_append_left _ (ih (by omega))
 have up: ∀m n,m<=n-> ∀z,z∈Lib.compactUpTo l.toArray m->z∈Lib.compactUpTo l.toArray n:=by
  intro m n r
  induction n with
  |zero=>intro z g;rw[show m=0 by omega]at g;exact g
  |succ n ih=>
   intro z g;rcases zQ3 n m with h|h;rw[show n+1=m by omega];exact g;rw[Lib.compactUpTo_succ];exact List.mem_append_left _ (ih h z g)
 obtain⟨j,k,rfl⟩:=List.getElem_of_mem h;have:=up (j+1) l.length k _ (o j k);rw[getElem!_pos l.toArray j (by simpa using k)]at this;simpa[Lib.compact]using this
theorem JHS{l:List α}{R:α->α->Prop}(h: ∀(i j:Nat) (hij:i<j) (hj:j<l.length),l[j]≠l[j-1]->R l[i] l[j]):(Lib.compact l).Pairwise R:=by
 have g: ∀k (n:k<l.length),l.toArray[k]! =l[k]:=λk n=>by rw[getElem!_pos _ _ (by simpa using n)];simp
 unfold Lib.compact Lib.compactUpTo;rw[List.pairwise_map];refine(List.pairwise_lt_range.filter _).imp_of_mem fun{i j} hi hj hij=>?_;obtain⟨h1,h2⟩:=List.mem_filter.1 hj;have h1:=List.mem_range.1 h1;have e:j=0\/l.toArray[j]! ≠l.toArray[j-1]! :=by simpa[Lib.keeps]using h2
 have e:=e.resolve_left (by omega);rw[g j h1,g (j-1) (by omega)]at e;rw[g i (by omega),g j h1];exact h i j hij h1 e
end
theorem F3(l:List J1):(cpL t_api_Entry l:List J1).Sublist l:= @JIo t_api_Entry.D (Jlq t_api_Entry) (JiV t_api_Entry) l
theorem Fv{l:List J1}{x:J1}(h:x∈l):x∈(cpL t_api_Entry l:List J1):= @JJn t_api_Entry.D (Jlq t_api_Entry) (JiV t_api_Entry) l x h
theorem JI0{l:List J1}{R:J1->J1->Prop}(h: ∀(i j:Nat) (hij:i<j) (hj:j<l.length),l[j]≠l[j-1]->R l[i] l[j]):(cpL t_api_Entry l:List J1).Pairwise R:= @JHS t_api_Entry.D (Jlq t_api_Entry) (JiV t_api_Entry) l R h
def hE(l:List J1):Prop:= ∀a∈l,∀b∈l,a.1=b.1->a=b
theorem qb: ∀{l:List J1},(∀(j:Nat) (a b:J1),l[j]?=some a->l[j+1]?=some b->a.1<b.1)->l.Pairwise λx y=>x.1<y.1
 |[],_=>.nil
 |x::l,h=>by
  have ih:=qb (l:=l) λj a b g n=>h (j+1) a b (by simpa using g) (by simpa using n);refine .cons (λy e=>?_) ih;cases l with
  |nil=>cases e
  |cons z l=>
   have k:=h 0 x z rfl rfl;rcases cL.1 e with rfl|e;exact k;have:=(List.pairwise_cons.1 ih).1 y e;omega
theorem JIF{t:List J1}(ht:t.Pairwise λx y=>x.1<=y.1)(hc:hE t):(cpL t_api_Entry t:List J1).Pairwise λx y=>x.1<y.1:=by
 refine JI0 λi j hij e g=>?_;have h1:t[i].1<=t[j].1:=List.pairwise_iff_getElem.1 ht i j (by omega) e hij;have h2:t[j-1].1<=t[j].1:=List.pairwise_iff_getElem.1 ht (j-1) j (by omega) e (by omega);have k:t[i].1<=t[j-1].1:=by
  rcases zQ3 i (j-1)with h|h;exact List.pairwise_iff_getElem.1 ht i (j-1) (by omega) (by omega) h;have:i=j-1:=by omega
  subst this;exact aZ _
 rcases Int.lt_or_le t[i].1 t[j].1 with h|h;exact h;exact absurd (hc _ (iQ e) _ (iQ (by omega)) (by omega)) g
def tK(s:List J1):Prop:= ∃(j:Nat) (a b:J1),s[j]?=some a/\s[j+1]?=some b/\a.1=b.1
theorem JEC{t:List J1}(ht:t.Pairwise λx y=>x.1<=y.1)(hc: ¬hE t):tK (cpL t_api_Entry t):=by
 have q:=ht.sublist (F3 t);have n: ∀x∈t,x∈(cpL t_api_Entry t:List J1):=λx w=>Fv w;generalize (cpL t_api_Entry t:List J1)=C at q n;apply Classical.byContradiction;intro z;have o:=qb (l:=C) λj a b k g=>by
  have h2:a.1≠b.1:=λe=>z ⟨j,a,b,k,g,e⟩;obtain⟨la,rfl⟩:=cG.1 k;obtain⟨v,rfl⟩:=cG.1 g;have h1:C[j].1<=C[j+1].1:=List.pairwise_iff_getElem.1 q j (j+1) la v (by omega);rcases Int.lt_or_eq_of_le h1 with h|h;exact h;exact absurd h h2
 apply hc;intro a k b g e;obtain⟨i,hi,rfl⟩:=List.getElem_of_mem (n a k);obtain⟨j,r,rfl⟩:=List.getElem_of_mem (n b g);rcases Nat.lt_trichotomy i j with h|h|h;have:=List.pairwise_iff_getElem.1 o i j hi r h;omega;subst h;rfl;have:=List.pairwise_iff_getElem.1 o j i r hi h;omega
theorem JEy{l:List J1}{e:J1}(hl:l.Pairwise ltE)(h:e∈l):lN l e=l:=by
 induction l with
 |nil=>cases h
 |cons x l ih=>
  obtain⟨h1,h2⟩:=List.pairwise_cons.1 hl;unfold lN;rcases cL.1 h with rfl|h;have:cmpE e e=0:=by unfold cmpE qA;simp
  rw[if_neg (by omega),if_pos this];have:=h1 e h;rw[if_pos (d4.2 this),ih h2 h]
theorem oy{l:List J1}(hc:hE l):(srt l).Pairwise ltE/\ ∀x,x∈srt l↔x∈l:=by
 have k: ∀{n:Nat} {l:List J1},l.length=n->hE l->(srt l).Pairwise ltE/\ ∀x,x∈srt l↔x∈l:=by
  intro n
  induction n with
  |zero=>intro l h _;rw[List.length_eq_zero_iff.1 h];exact⟨.nil,by simp[srt]⟩
  |succ n ih=>
   intro l h hi;obtain⟨m,e,rfl⟩: ∃m e,l=m++[e]:=⟨l.dropLast,l.getLast (by intro r;rw[r]at h;simp at h),(List.dropLast_concat_getLast _).symm⟩;have w:m.length=n:=by simpa using h
   obtain⟨s1,g⟩:=ih w λa y b v=>hi a (by simp[y]) b (by simp[v]);rw[F4];by_cases j:e∈m;rw[JEy s1 ((g e).2 j)];refine⟨s1,λx=>?_⟩;rw[g];constructor;intro h;simp[h];intro h;rcases zQ9.1 h with h|h;exact h;rw[qG.1 h];exact j;have hd: ∀x∈srt m,x.1≠e.1:=λx o q=>j (by
    have:=hi x (by simp[(g x).1 o]) e (by simp) q;rw[<-this];exact(g x).1 o)
   exact⟨ud s1 hd,λx=>by rw[eg hd,g];simp⟩
 exact k rfl hc
end Go.Am
end
section
namespace Go.Am
set_option linter.unusedVariables false
set_option maxRecDepth 20000
set_option maxHeartbeats 1000000
theorem JGa{x:J1}(h:Ty.fit 16384 9223372036854775807 t_api_Entry x): ∃b,Jl x=some b:=by obtain⟨b,e,_⟩:=rV (B:=16384) (S:=9223372036854775807) (X:=x) h;exact⟨b,e⟩
theorem JMi{l:List J1}(hf: ∀x∈l,Ty.fit 16384 9223372036854775807 t_api_Entry x)(hl:J0 l<=16384): ∃b,XO l=some b/\(b=false↔ ∀x∈l,Jl x=some true):=by
 have j:Tot (XN l) λy=>(0<=y/\ ¬∀x∈l,Jl x=some true)\/(y= -1/\ ∀x∈l,Jl x=some true):=by
  unfold XN;refine Jk (τ:=Int) (λq=>(l,J0 l,q)) (λi=>0<=i/\i<=J0 l/\DB (λx=>Jl x=some true) l i) (λi=>J0 l-i) ?_ 0 rfl ⟨aZ _,Ja,Ed⟩;rintro i ⟨k,h1,h2⟩;unfold H6;dsimp only;have o:=Jg i 1;refine .lt (λc=>?_) λc=>.some (.inr ⟨rfl,qe h2 c⟩);obtain⟨a,e,q⟩:=kU k c;obtain⟨b,g⟩:=JGa (hf a (zQ5 q));have r:WB a=some (Jr b):=by unfold WB;rw[JM4,g];rfl
  refine .same e (.same r (.ite (λd=>.some (.inl ⟨k,λn=>?_⟩)) λd=>.some ⟨J2 .i64 i 1,rfl,⟨by omega,by omega,qy h2 e ?_ (by omega)⟩,by omega,by omega⟩));rw[n a (zQ5 q)]at g;injection g with g;subst g;cases d;cases b with
  |true=>exact g
  |false=>cases d
 obtain⟨y,e,h⟩:=j;unfold XO;rw[e];rcases h with⟨h1,h2⟩|⟨h1,h2⟩;exact⟨true,by simp only[JL];rw[wP.2 h1],nofun,λh=>absurd h h2⟩;exact⟨false,by subst h1;rfl,λ_=>h2,λ_=>rfl⟩
theorem JJx{s E w1 g:List J1}{f t lo hi lv:Int}(hl:J0 s<=16384)
  (hs: ¬tK s->J0 E=J0 s/\NZ s=some E/\ ∃v,iL (f,t,lo,hi,lv,E)=some v/\pQ (f,t,lo,hi,lv,E)=some v):
  Tot (J6 ia (1,w1,0,0,0,0,0,g,[],f,t,lo,hi,lv,s)) λy=>(¬tK s->mkO f t lo hi lv E=some y)/\(tK s->y=((0,0,0,0,0,[]),41)):=by
 refine Jk (τ:=Int) (λq=>(q,w1,0,0,0,0,0,g,[],f,t,lo,hi,lv,s)) (λi=>1<=i/\i<=J0 s+1/\ ∀(j:Nat) (a b:J1),(j:Int)+1<i->s[j]?=some a->s[j+1]?=some b->a.1≠b.1) (λi=>J0 s-i) ?_ 1 rfl ⟨aZ _,by have:=Ja (l:=s);omega,λj a b h=>by omega⟩;rintro i ⟨R,h1,h2⟩;unfold ia;dsimp only;have O:((s.length:Nat):Int)=J0 s:=rfl;have L:Jw .i64 i 1=i-1:=by have:=bD i 1;omega
 refine .lt (λc=>?_) λc=>.map (P:=λy=>(¬tK s->mkO f t lo hi lv E=some y)/\(tK s->y=((0,0,0,0,0,[]),41))) ?_ λ_ h=>h;rw[L];obtain⟨a,Q,B⟩:=kU (l:=s) (i:=i) (by omega) c;obtain⟨b,N,z⟩:=kU (l:=s) (i:=i-1) (by omega) (by omega);have r:s[(i-1).toNat+1]?=some a:=by rw[show(i-1).toNat+1=i.toNat by omega];exact B
 have o:=Jg i 1;refine .same (w:=()) (by unfold aW;rw[if_pos (by omega)]) (.same z (.same (w:=()) (by unfold aW;rw[if_pos (by omega)]) (.same B (.eq (λd=>.some ⟨λh=>absurd ⟨_,b,a,z,r,d⟩ h,λ_=>rfl⟩) λd=>.some ⟨J2 .i64 i 1,rfl,⟨by omega,by omega,λj x y H n k=>?_⟩,by omega,by omega⟩))));by_cases A:(j:Int)+1<i;exact h2 j x y A n k;have H:j=(i-1).toNat:=by omega
 subst H;rw[z]at n;injection n with n;subst n;rw[r]at k;injection k with k;subst k;exact d;have C: ¬tK s:=fun⟨j,a,b,M,F,e⟩=>h2 j a b (by have:=(cG.1 F).1;omega) M F e;obtain⟨I,hs,v,J,K⟩:=hs C;refine .mono (P:=λy=>mkO f t lo hi lv E=some y) ?_ λy h=>⟨λ_=>h,λh=>absurd h C⟩;refine .gt (λc=>.some ?_) λc=>.same hs ?_;unfold mkO;rw[if_pos (by omega)];have D:sS (List.length E) (List.length s)=true:=by
  have:E.length=s.length:=by unfold J0 at I;omega
  rw[this];exact Nat.beq_refl _
 have G:mkO f t lo hi lv E=if v=true then some ((f,t,lo,hi,lv,E),0)else some ((0,0,0,0,0,[]),13):=by unfold mkO;rw[if_neg (by omega),K];rfl
 refine .ite (λ_=>.same J (.not (λd=>.some ?_) λd=>.some ?_)) λd=>by rw[D]at d;cases d
 rw[G,d];rfl;rw[G,d];rfl
theorem JEh{l:List J1}{f t lo hi lv:Int}(hv: ∀x∈l,Jl x=some true)(hf: ∀x∈l,Ty.fit 16384 9223372036854775807 t_api_Entry x)(hl:J0 l<=16384)(hn:pS (f,t,lo,hi,lv)=some true)
  (hr:IL (f,t,lo,hi,lv,[])):Tot (GA (l,f,t,lo,hi,lv)) λy=>(hE (l.filter (inB f t lo hi))->mkO f t lo hi lv (sel l f t lo hi)=some y)/\(¬hE (l.filter (inB f t lo hi))->y=((0,0,0,0,0,[]),41)):=by
 have a6:=List.length_filter_le (inB f t lo hi) l;unfold J0 at hl;have L: ∀x∈l,J7y x=true:=λx g=>by have h1:=(hf x g).1;have h1:IntKind.i64.min<=x.1/\x.1<=IntKind.i64.max:=h1;unfold J7y;simp only[decide_eq_true_eq];have Y:IntKind.i64.min= -9223372036854775808:=rfl;have W:IntKind.i64.max=9223372036854775807:=rfl;omega
 unfold GA;obtain⟨b,b1,b2⟩:=JKm f t lo hi lv [];rw[hn]at b1;injection b1 with b1;subst b1;obtain⟨cb,N,M⟩:=JMi hf (show J0 l<=16384 from hl);have K:=M.2 hv;subst K;refine .same b2 (.ite (λ_=>.not (λc=>by cases c) λ_=>.same N (.ite (λc=>by cases c) λ_=>?_)) λc=>by cases c);refine Jk (τ:=Int×List J1) (λq=>(l,J0 l,q.1,[],0,0,0,0,0,q.2,[],f,t,lo,hi,lv)) (λq=>0<=q.1/\q.1<=J0 l/\q.2=(l.take q.1.toNat).filter (inB f t lo hi)) (λq=>J0 l-q.1) ?_ (0,[]) rfl ⟨aZ _,Ja,rfl⟩;rintro⟨i,es⟩ ⟨V,h1,h2⟩;dsimp only at V h1 h2;unfold wv;dsimp only;have o:=Jg i 1;have ln:((l.length:Nat):Int)=J0 l:=rfl;have a5:es.length<=l.length:=by rw[h2];have:=List.length_filter_le (inB f t lo hi) (l.take i.toNat);rw[yT]at this;omega
 have D: ∀{m:List J1},sS (List.length m) (List.length m)=true:=fun{m}=>Nat.beq_refl _;refine .lt (λc=>?_) λc=>.map (P:=λy=>(hE (l.filter (inB f t lo hi))->mkO f t lo hi lv (sel l f t lo hi)=some y)/\(¬hE (l.filter (inB f t lo hi))->y=((0,0,0,0,0,[]),41))) ?_ λ_ h=>h;obtain⟨x,e,q⟩:=kU V c;have Q:l.take (J2 .i64 i 1).toNat=l.take i.toNat++[x]:=by rw[show(J2 .i64 i 1).toNat=i.toNat+1 by omega,List.take_add_one,q];rfl
 refine .same e (.same (JMM f t lo hi lv x es) (.ite (λ_=>.ite (λd=>?_) λd=>.some ⟨(J2 .i64 i 1,es),rfl,⟨by first|omega|(dsimp only;omega),by first|omega|(dsimp only;omega),?_⟩,by first|omega|(dsimp only;omega),by first|omega|(dsimp only;omega)⟩) λd=>by rw[D]at d;cases d));have d:inB f t lo hi x=true:=d;refine .same (FA (bytes:=128) (l:=es) (m:=[x]) (by unfold J0;simp;omega) (by decide)) (.some ⟨(J2 .i64 i 1,es++[x]),rfl,⟨by first|omega|(dsimp only;omega),by first|omega|(dsimp only;omega),?_⟩,by first|omega|(dsimp only;omega),by first|omega|(dsimp only;omega)⟩);dsimp only;rw[Q,List.filter_append,h2];simp[d];have d:inB f t lo hi x=false:=d;dsimp only;rw[Q,List.filter_append,h2];simp[d];have w:es=l.filter (inB f t lo hi):=by rw[h2,show i.toNat=l.length by omega,List.take_length]
 obtain⟨T,H⟩: ∃T:List J1,ST leL es=T:=⟨_,rfl⟩;have k:T.Perm es:=by rw[<-H];exact ZR (le:=leL) es
 have Y:n8 es=some T:=by rw[<-H];exact JKT (c:=xZ) (le:=leL) (X:=es) Dq Dd JKn (by omega)
 have U: ∀x∈T,x∈l:=λx g=>by have:=k.mem_iff.1 g;rw[w]at this;exact(List.mem_filter.1 this).1
 have hlen:T.length=es.length:=k.length_eq;have I:T.Pairwise λx y=>x.1<=y.1:=by rw[<-H];exact(yX (le:=leL) Dq Dd es).imp λh=>by unfold leL at h;simpa using h
 clear H;obtain⟨C,z⟩: ∃C:List J1,cpL t_api_Entry T=C:=⟨_,rfl⟩;have W:n7 T=some (T++([t_api_Entry.zero]:List J1),C):=by rw[<-z];show cpE t_api_Entry T=_;unfold cpE;exact if_pos (show T.length<=1099511627776 by omega)
 have sub:C.Sublist T:=by rw[<-z];exact F3 T
 have O: ∀x,x∈C↔x∈es:=λx=>⟨λh=>k.mem_iff.1 (sub.subset h),λh=>by rw[<-z];exact Fv (k.mem_iff.2 h)⟩;have cons:hE T↔hE es:=⟨λh a G b F=>h a (k.mem_iff.2 G) b (k.mem_iff.2 F),λh a G b F=>h a (k.mem_iff.1 G) b (k.mem_iff.1 F)⟩;have Z:=sub.length_le;have J:hE es->C.Pairwise λx y=>x.1<y.1:=λh=>by rw[<-z];exact JIF I (cons.2 h)
 have r: ¬hE es->tK C:=λh=>by rw[<-z];exact JEC I λh2=>h (cons.1 h2)
 clear z;have B:hE es-> ¬tK C:=λh ⟨j,a,b,G,F,e⟩=>by obtain⟨la,rfl⟩:=cG.1 G;obtain⟨lb,rfl⟩:=cG.1 F;have:=List.pairwise_iff_getElem.1 (J h) j (j+1) la lb (by omega);omega
 refine .same Y (.ite (λ_=>.same W ?_) λd=>by rw[show sS (List.length T) (List.length es)=true by rw[hlen];exact D]at d;cases d);dsimp only;rw[<-w];refine(JJx (E:=sel l f t lo hi) (by unfold J0;omega) λnc=>?_).mono λy h=>⟨λhc=>h.1 (B hc),λhc=>h.2 (r hc)⟩;have hc:hE es:=Classical.byContradiction λh=>nc (r h);obtain⟨s1,R⟩:=oy hc;have n:sel l f t lo hi=srt es:=by unfold sel;rw[w]
 have A:NZ C=some (sel l f t lo hi):=JK0 (λx g=>L x (U x (sub.subset g))) (by unfold J0;omega) ((J hc).imp λh e=>by omega) (by rw[n];exact s1) λx=>by rw[n,R,O]
 have a4:(sel l f t lo hi).length=C.length:=(by have A:(if C.all J7y=true then jB J6I C else none)=some (sel l f t lo hi):=A;split at A;exact JFi A;cases A);have S:IL (f,t,lo,hi,lv,sel l f t lo hi):=⟨hr.1,hr.2.1,hr.2.2.1,hr.2.2.2.1,hr.2.2.2.2.1,by
  refine⟨?_,λx g=>hf x ?_⟩;show J0 (sel l f t lo hi)<=16384;unfold J0;omega;have g:x∈sel l f t lo hi:=g;rw[n]at g;have g:=(R x).1 g;rw[w]at g;exact(List.mem_filter.1 g).1⟩
 obtain⟨v,v1,v2,_⟩:=vv S;exact⟨by unfold J0;omega,A,v,v1,v2⟩
end Go.Am
end
section
namespace Go.Am
set_option linter.unusedVariables false
set_option maxRecDepth 20000
set_option maxHeartbeats 1000000
theorem JCQ{σ ρ α:Type}{L:σ->Option (σ⊕ρ)}{z:σ}{o:Option α}{k:α->σ}(h:L z=o.bind λy=>some (.inl (k y))):J6 L z=o.bind λy=>J6 L (k y):=by cases o<;>grind [JCs,hV]
theorem JNK(a b:Int):vat (bG (bG (Vector.replicate 2 0) 0 a) 1 b) (Int.toNat 0)=some a:=by simp[vat,bG]
theorem JND(a b:Int):vat (bG (bG (Vector.replicate 2 0) 0 a) 1 b) (Int.toNat 1)=some b:=by simp[vat,bG]
theorem FI{s:List UInt8}{vs:List (Vector Int 2)}{n i:Int}{r:cD}{a b:Int}(hi:i<n)(hx:idx vs i=some (bG (bG (Vector.replicate 2 0) 0 a) 1 b)):
  J6 GJ (s,vs,n,i,r)=(fD (s,a,b)).bind λy=>J6 GJ (y,vs,n,J2 .i64 i 1,r):=by
 refine JCQ ?_;unfold GJ;dsimp only;rw[iG.2 hi,hx];simp only[if_true,JL,JNK,JND];rfl
theorem JGt(r:cD):xJ r=(fD ([80,77,82,78],r.1,8)).bind λa=>(fD (a,r.2.1,8)).bind λa=>(fD (a,r.2.2.1,4)).bind λa=>(fD (a,r.2.2.2.1,4)).bind λa=>
  (fD (a,r.2.2.2.2.1,1)).bind λa=>fD (a,J0 r.2.2.2.2.2,4):=by
 have e:xJ r=J6 GJ ([80,77,82,78],[bG (bG (Vector.replicate 2 0) 0 r.1) 1 8,bG (bG (Vector.replicate 2 0) 0 r.2.1) 1 8,bG (bG (Vector.replicate 2 0) 0 r.2.2.1) 1 4,bG (bG (Vector.replicate 2 0) 0 r.2.2.2.1) 1 4,bG (bG (Vector.replicate 2 0) 0 r.2.2.2.2.1) 1 1,bG (bG (Vector.replicate 2 0) 0 (J0 r.2.2.2.2.2)) 1 4],6,0,r):=rfl;rw[e];rw[FI (show(0:Int)<6 by decide) rfl];refine congrArg (Option.bind _) (funext λa=>?_);rw[show J2 .i64 0 1=1 from rfl,FI (show(1:Int)<6 by decide) rfl];refine congrArg (Option.bind _) (funext λa=>?_);rw[show J2 .i64 1 1=2 from rfl,FI (show(2:Int)<6 by decide) rfl];refine congrArg (Option.bind _) (funext λa=>?_);rw[show J2 .i64 2 1=3 from rfl,FI (show(3:Int)<6 by decide) rfl];refine congrArg (Option.bind _) (funext λa=>?_);rw[show J2 .i64 3 1=4 from rfl,FI (show(4:Int)<6 by decide) rfl];refine congrArg (Option.bind _) (funext λa=>?_);rw[show J2 .i64 4 1=5 from rfl,FI (show(5:Int)<6 by decide) rfl];cases fD (a,J0 r.2.2.2.2.2,4)with
 |none=>rfl
 |some y=>refine fA ?_;unfold GJ;rfl
theorem yE{s:List UInt8}{a b:Int}(ha:Ty.fit 0 1073741824 (.i .i64) a)(hs:J0 s<=1000)(h1:1<=b)(h2:b<=8):Tot (fD (s,a,b)) λy=>J0 y=J0 s+b:=
 (ul (B:=0) (S:=1073741824) (X:=(s,a,b)) ⟨by show J0 s<=1073741824;omega,ha,by show IntKind.i64.min<=b/\b<=IntKind.i64.max;have e:IntKind.i64.min= -9223372036854775808:=rfl;have g:IntKind.i64.max=9223372036854775807:=rfl;omega⟩).mono λy h=>h.2.2 h1 h2
theorem JCb{l:List UInt8}(hl:J0 l<=8392):Tot (mK l) λy=>J0 y=J0 l+8:=by
 unfold mK;have r:=Ja (l:=l);refine .gt (λc=>absurd c (by omega)) λ_=>.bind (yE (s:=[]) (by show IntKind.i64.min<=J0 l/\J0 l<=IntKind.i64.max;have n:IntKind.i64.min= -9223372036854775808:=rfl;have o:IntKind.i64.max=9223372036854775807:=rfl;omega) (by decide) (by decide) (by decide)) λa j=>?_;have j:J0 a=4:=j;obtain⟨c,e,hc⟩: ∃c,dA a l=some c/\J0 c=J0 a+J0 l:=(by grind [J0,dA]);refine .same e (.bind (Iz (B:=0) (S:=1073741824) (X:=c) (by show J0 c<=1073741824;omega)) λu k=>?_);have k:IntKind.u32.min<=u/\u<=IntKind.u32.max:=k;have n:IntKind.u32.min=0:=rfl;have o:IntKind.u32.max=4294967295:=rfl;have g:aU .i64 u=u:=by grind [IK]
 refine .bind (P:=λy=>J0 y=J0 l+8) ?_ λy h=>.some h;exact(ul (B:=0) (S:=1073741824) (X:=(c,aU .i64 u,4)) ⟨by show J0 c<=1073741824;omega,by rw[g];show IntKind.i64.min<=u/\u<=IntKind.i64.max;have v:IntKind.i64.min= -9223372036854775808:=rfl;have q:IntKind.i64.max=9223372036854775807:=rfl;omega,aH 4⟩).mono λy h=>by
  grind
theorem Eo:kQ (1,1,0,0,0,[]):=
 ⟨⟨by decide,by decide,by decide,by decide,by decide,by decide,by decide,by decide⟩,by decide,λj e h=>by simp at h,λe h=>by simp at h,λj a b h=>by simp at h⟩
theorem JJ2:WE ()=some true:=by
 have g:Ty.fit 0 1073741824 (.i .i64) 0:=by show IntKind.i64.min<=0/\0<=IntKind.i64.max;decide
 have j:Ty.fit 0 1073741824 (.i .i64) 1:=by show IntKind.i64.min<=1/\1<=IntKind.i64.max;decide
 have k:Tot (xJ (1,1,0,0,0,[])) λy=>J0 y=33:=by
  rw[JGt];have v:J0 ([80,77,82,78]:List UInt8)=4:=rfl;exact .bind (yE j (by omega) (by decide) (by decide)) λa z=>.bind (yE j (by omega) (by decide) (by decide)) λb q=>.bind (yE g (by omega) (by decide) (by decide)) λc hc=>.bind (yE g (by omega) (by decide) (by decide)) λd hd=>
   .bind (yE g (by omega) (by decide) (by decide)) λe w=>(yE g (by omega) (by decide) (by decide)).mono λf r=>by omega
 obtain⟨h,o,h1⟩:=k;obtain⟨f,n,h2⟩:=JCb (l:=h) (by omega);have en:GG (1,1,0,0,0,[])=some (f,0):=by show IY iL xJ mK uR (λx=>x.2.2.2.2.2) ((1,1,0,0,0,[]):cD)=some (f,0);unfold IY;rw[WR Eo];simp only[JL,if_true];rw[o];simp only[JL];rw[n];simp only[JL];rw[if_pos (by grind [J0])];rfl
 unfold WE;rw[en];simp only[JL];rw[if_pos (by rfl),if_pos (by rw[h2,h1];rfl),WR Eo];rfl
end Go.Am
end
section
namespace Go.Am
set_option linter.unusedVariables false
set_option maxRecDepth 20000
set_option maxHeartbeats 1000000
theorem JCw{r:cD}(h:kQ r)(id:Int):NM (r,id)=some ((ent r).filter (sR id)):=by
 have k:Tot (NM (r,id)) λy=>y=(ent r).filter (sR id):=by
  have B:J0 (ent r)<=4096:=h.2.1;unfold NM;refine .bind (eL (WR h)) λA w=>.not (λc=>by simp_all) λ_=>Jk (τ:=Int) (λq=>(id,ent r,J0 (ent r),q,r,((ent r).take q.toNat).filter (sR id))) (λq=>0<=q/\q<=J0 (ent r)) (λq=>J0 (ent r)-q) ?_ 0 (by simp[ent]) ⟨aZ _,Ja⟩;rintro i ⟨o,h1⟩;unfold zt;dsimp only;have z:=Jg i 1;refine .lt (λc=>?_) λc=>.some ?_;obtain⟨e,v,n⟩:=kU o c;have x:(ent r).take (J2 .i64 i 1).toNat=(ent r).take i.toNat++[e]:=by rw[show(J2 .i64 i 1).toNat=i.toNat+1 by omega,List.take_add_one,n];rfl
  refine .same v (.eq (λg=>?_) λg=>?_);have C:J0 (((ent r).take i.toNat).filter (sR id))<=4096:=(by grind [J0]);refine .same (FA (by grind [rE]) (by decide)) (.some ⟨J2 .i64 i 1,?_,⟨by omega,by omega⟩,by omega,by omega⟩);have j:sR id e=true:=jI.2 g;simp_all;refine .some ⟨J2 .i64 i 1,?_,⟨by omega,by omega⟩,by omega,by omega⟩;have j: ¬sR id e=true:=λh=>g (jI.1 h);simp_all;grind [List.take_of_length_le,J0]
 obtain⟨y,e,d⟩:=k;rw[e,d]
theorem nx{c:Jf}{n:Int}(hn: -9223372036854775808<=n/\n<=9223372036854775807)(h:Ty.fit 16384 1073741824 J5 c)(h0:0<=c.2):Tot (Ji (n,c)) λy=>(0<=y.1/\y.1<=9223372036854775807/\(1<=n->y.1<n))/\Ty.fit 16384 1073741824 J5 y.2/\0<=y.2.2:=
 (Js (B:=16384) (S:=1073741824) (X:=(n,c)) ⟨J3.2 hn,h⟩ h0).mono λy h=>⟨⟨h.2.1,(J3.1 h.1.1).2,h.2.2.1⟩,h.1.2,h.2.2.2⟩
theorem Gg: ∀{l m:List J1},l.Pairwise ltE->m.Pairwise ltE->(∀x,x∈l↔x∈m)->l=m
 |[],[],_,_,_=>rfl
 |[],y::m,_,_,h=>absurd ((h y).2 (by simp)) (by simp)
 |x::l,[],_,_,h=>absurd ((h x).1 (by simp)) (by simp)
 |x::l,y::m,w,A,h=>by
  obtain⟨n,B⟩:=List.pairwise_cons.1 w;obtain⟨o,v⟩:=List.pairwise_cons.1 A;have j: ∀{a b:J1},ltE a b->ltE b a->False:=λh k=>by unfold ltE at*;omega
  have e:x=y:=(by rcases cL.1 ((h x).1 (by simp))with q|q;exact q;rcases cL.1 ((h y).2 (by simp))with r|r;exact r.symm;exact(j (o x q) (n y r)).elim);subst e;rw[Gg B v λz=>⟨λg=>(cL.1 ((h z).1 (by simp[g]))).resolve_left λe=>j (n z g) (e▸n z g),λg=>(cL.1 ((h z).2 (by simp[g]))).resolve_left λe=>j (o z g) (e▸o z g)⟩]
def kO(id:Int)(e:J1):Bool:=decide (aR e<id)
theorem pw: ∀{l:List J1} {id:Int},(∀x∈l,id<=aR x)->l.filter (kO id)=[]:=λh=>by rw[List.filter_eq_nil_iff];intro x e;have:=h x e;unfold kO;simp;omega
theorem pc{id:Int}: ∀{l:List J1},l.Pairwise ltE->l.filter (kO (id+1))=l.filter (kO id)++l.filter (sR id)
 |[],_=>rfl
 |x::l,h=>by
  obtain⟨h1,h2⟩:=List.pairwise_cons.1 h;have ih:=pc (id:=id) h2;have up: ∀y∈l,aR x<=aR y:=λy g=>by have:=h1 y g;unfold ltE at this;omega
  have e: ∀z:J1,sR id z=true↔aR z=id:=λz=>jI;rcases Int.lt_trichotomy (aR x) id with c|c|c;rw[List.filter_cons_of_pos (by unfold kO;simp;omega),List.filter_cons_of_pos (by unfold kO;simp;omega),List.filter_cons_of_neg (by rw[e];omega),ih,vR];rw[List.filter_cons_of_pos (by unfold kO;simp;omega),List.filter_cons_of_neg (by unfold kO;simp;omega),List.filter_cons_of_pos (by rw[e];omega),ih,pw λy g=>by have:=up y g;omega];rfl;rw[List.filter_cons_of_neg (by unfold kO;simp;omega),List.filter_cons_of_neg (by unfold kO;simp;omega),List.filter_cons_of_neg (by rw[e];omega),ih]
theorem JFX(l:List J1)(hl:J0 l<=16384):NY (l,l)=some true:=by
 have g:Tot (NY (l,l)) λy=>y=true:=by unfold NY;refine .ne (λc=>absurd rfl c) λ_=>Jk (τ:=Int) (λq=>(l,l,J0 l,q)) (λq=>0<=q/\q<=J0 l) (λq=>J0 l-q) ?_ 0 rfl ⟨aZ _,Ja⟩;rintro i ⟨j,h1⟩;unfold H3;dsimp only;have k:=Jg i 1;refine .lt (λc=>?_) λ_=>.some rfl;obtain⟨e,h,_⟩:=kU j c;refine .same h (.same h (.not (λc=>?_) λ_=>.some ⟨J2 .i64 i 1,rfl,⟨by omega,by omega⟩,by omega,by omega⟩));have q:eqT t_api_Entry e e=true:=J0X.2 rfl;cases q.symm.trans c
 obtain⟨y,e,d⟩:=g;rw[e,d]
theorem JMG(r:cD)(hl:J0 (ent r)<=16384):MS (r,r)=some true:=by
 have g:Tot (MS (r,r)) λy=>y=true:=by unfold MS;exact .eq (λ_=>.eq (λ_=>.eq (λ_=>.eq (λ_=>.eq (λ_=>.same (JFX _ hl) (.some rfl)) λc=>absurd rfl c) λc=>absurd rfl c) λc=>absurd rfl c) λc=>absurd rfl c) λc=>absurd rfl c
 obtain⟨y,e,d⟩:=g;rw[e,d]
theorem Dj{l E:List J1}{f t lo hi lv:Int}(hv: ∀x∈l,Jl x=some true)(hf: ∀x∈l,Ty.fit 16384 9223372036854775807 t_api_Entry x)(hl:J0 l<=16384)(k:oS (f,t,lo,hi,lv,[]))(hr:IL (f,t,lo,hi,lv,[]))(hc:hE l)(j:sel l f t lo hi=E)(hR:kQ (f,t,lo,hi,lv,E)):
  GA (l,f,t,lo,hi,lv)=some ((f,t,lo,hi,lv,E),0):=by
 obtain⟨v,ev,h⟩:=vh k;subst h;obtain⟨y,e,g,_⟩:=JEh hv hf hl ev hr;have g:=g λa o b n=>hc a (List.mem_filter.1 o).1 b (List.mem_filter.1 n).1;rw[j]at g;unfold mkO at g;have h1:J0 E<=4096:=hR.2.1;rw[if_neg (by omega),tr hR]at g;injection g with g;rw[e,<-g]
theorem JLz{r:cD}(hR:kQ r)(hs:(ent r).Pairwise ltE)(c:Jf)(l:JJ):Tot (J6 nz (0,0,0,c,l,r,r,[])) λy=>y=true:=by
 have q:J0 (ent r)<=4096:=hR.2.1;have e: ∀p,J0 ((ent r).filter p)<=4096:=λp=>by have:=List.length_filter_le p (ent r);unfold J0 at q⊢;omega
 refine Jk (τ:=Int) (λi=>(0,0,i,c,l,r,r,(ent r).filter (kO i))) (λi=>0<=i/\i<=64) (λi=>64-i) ?_ 0 ?_ ⟨by decide,by decide⟩;rintro i ⟨z,h1⟩;unfold nz;dsimp only;have o:=Jg i 1;have w:J2 .i64 i 1=i+1:=by omega
 refine .lt (λv=>?_) λv=>.map (P:=λy=>y=true) (.eq (λ_=>.eq (λ_=>.same (JMG r (by omega)) (.ite (λ_=>?_) λc=>by cases c)) λc=>absurd rfl c) λc=>absurd rfl c) λ_ h=>h;refine .same (JCw hR i) (.same (FA (by have:=e (kO i);have:=e (sR i);omega) (by decide)) (.some ⟨J2 .i64 i 1,?_,⟨by omega,by omega⟩,by omega,by omega⟩));rw[w,pc hs];have g:(ent r).filter (kO i)=ent r:=List.filter_eq_self.2 λx k=>by
  obtain⟨j,n⟩:=fS.1 k;have h:=(hR.2.2.1 j x n).2.2.2.2.2;have h2:=hR.1.2.2.2.2.2.1;unfold kO;simp;omega
 rw[g];exact .same (JEm _ q) (.some rfl);rw[pw λx k=>?_];obtain⟨j,n⟩:=fS.1 k;have h:=(hR.2.2.1 j x n).2.2.2.2.1;have h2:=hR.1.2.2.2.1;omega
theorem Ys{x0:List Int}(w0:Ty.inR (.l (.i .u8)) x0):XJ x0=some true:=by
 have ag:Tot (XJ x0) λy=>y=true:=by
  unfold XJ;refine .bind (eL JJ2) λy2 d2=>.not (λc=>by rw[d2]at c;cases c) λ_=>.bind (JEw w0) λy3 N=>.bind ((JDg (B:=16384) (S:=1073741824) (X:=(25,y3)) ⟨aH 25,N.1⟩ N.2 (show(0:Int)<=25 by decide) (show(25:Int)<=1000 by decide)).eqn) λy4 h4=>?_;obtain⟨ak,g,c⟩:=y4;obtain⟨⟨⟨_,a7,r⟩,v⟩,h4⟩:=h4;obtain⟨⟨hI,H⟩,_⟩:=JF9 N.1 N.2 h4;have H:cX g.2.1:=H;have aa:J0 g.2.1<=4096:=hI.2.2.2;have K: ∀x∈g.2.1,Jl x=some true:=λx C=>by obtain⟨j,O⟩:=fS.1 C;exact(H j x O).2.1
  have I: ∀x∈g.2.1,Ty.fit 16384 9223372036854775807 t_api_Entry x:=λx C=>Ty.fit.up (by decide) (by decide) (a7.2.1.2 x C);have q:hE g.2.1:=λa M b L e=>by
   obtain⟨i,hi,rfl⟩:=List.getElem_of_mem M;obtain⟨j,O,rfl⟩:=List.getElem_of_mem L;rcases Nat.lt_trichotomy i j with h|h|h;have:g.2.1[i].1<g.2.1[j].1:=List.pairwise_iff_getElem.1 H.inc i j hi O h;omega;subst h;rfl;have:g.2.1[j].1<g.2.1[i].1:=List.pairwise_iff_getElem.1 H.inc j i O hi h;omega
  dsimp only;refine Jk (τ:=List J1×lU) (λz=>(z.1,z.2.1,z.2.2,g)) (λz=>(0<=z.2.1/\z.2.1<=J0 g.2.1)/\(∀x,x∈z.1↔x∈g.2.1.take z.2.1.toNat)/\J0 z.1<=2*z.2.1/\Ty.fit 16384 1073741824 J5 z.2.2/\0<=z.2.2.2) (λz=>J0 g.2.1-z.2.1) ?_ ([],0,c) rfl ⟨⟨aZ _,Ja⟩,by simp,by simp[J0],r,v⟩;rintro⟨T,i,c⟩ ⟨⟨h0,h1⟩,G,hT,r,v⟩;dsimp only at h0 h1 G hT r v;unfold A6;dsimp only;have b5:0<=J0 T:=Ja;have o:=Jg i 1;have oT:=Jg (J0 T) 1;refine .lt (λW=>?_) λW=>.map (P:=λy=>y=true) ?_ λ_ h=>h;obtain⟨x,ex,qx⟩:=kU h0 W;have tk:g.2.1.take (J2 .i64 i 1).toNat=g.2.1.take i.toNat++[x]:=by rw[show(J2 .i64 i 1).toNat=i.toNat+1 by omega,List.take_add_one,qx];rfl
  refine .bind (nx (by omega) r v) λk hk=>?_;obtain⟨⟨k0,_,k1⟩,r,v⟩:=hk;have k1:=k1 (by omega);refine .bind (HV k0 (show k.1<=J0 T by omega)) λA hA=>.same (JKO (by omega)) (.same ex (.same (FA (m:=[x]) (by rw[rE];omega) (by decide)) (.bind (LK k0 (show k.1<=J0 T by omega)) λD hD=>?_)));have l1:J0 (A++[x])=k.1+1:=by have:=hA.2;unfold J0 at this⊢;simp;omega
  have l2:J0 (A++[x]++D)=J0 T+1:=by have:=hD.2;unfold J0 at this l1⊢;rw[fR];omega
  have V: ∀z,z∈A++[x]++D↔z∈g.2.1.take (J2 .i64 i 1).toNat:=λz=>by
   have:z∈T↔z∈A\/z∈D:=by rw[hA.1,hD.1,<-zQ9,oG]
   rw[tk,zQ9,zQ9,zQ9,<-G,this];constructor;rintro((h|h)|h);exact .inl (.inl h);exact .inr h;exact .inl (.inr h);rintro((h|h)|h);exact .inl (.inl h);exact .inr h;exact .inl (.inr h)
  refine .same (FA (by have:=hD.2;omega) (by decide)) (.bind (nx (by decide) r v) λw R=>.eq (λ_=>.same ex (.same (FA (m:=[x]) (by rw[rE];omega) (by decide)) (.some ⟨(A++[x]++D++[x],J2 .i64 i 1,w.2),rfl,⟨⟨by first|omega|(dsimp only;omega),by first|omega|(dsimp only;omega)⟩,λz=>?_,?_,R.2.1,R.2.2⟩,by first|omega|(dsimp only;omega),by first|omega|(dsimp only;omega)⟩))) λ_=>.some ⟨(A++[x]++D,J2 .i64 i 1,w.2),rfl,⟨⟨by first|omega|(dsimp only;omega),by first|omega|(dsimp only;omega)⟩,V,by first|omega|(dsimp only;omega),R.2.1,R.2.2⟩,by first|omega|(dsimp only;omega),by first|omega|(dsimp only;omega)⟩);dsimp only;rw[<-V,zQ9,qG];exact⟨λh=>h.elim id λe=>by rw[e];simp,.inl⟩;dsimp only;unfold J0 at l2⊢;rw[fR];simp only[List.length_singleton];unfold J0 at hT;omega;rw[List.take_of_length_le (by unfold J0 at W;omega)]at G;refine .bind (nx (by decide) r v) λf hf=>.bind (nx (by decide) hf.2.1 hf.2.2) λp hp=>.bind (nx (by decide) hp.2.1 hp.2.2) λt ht=>?_;obtain⟨⟨f0,_,f1⟩,_⟩:=hf;obtain⟨⟨p0,_,Y⟩,_⟩:=hp;obtain⟨⟨t0,_,t1⟩,_⟩:=ht;have f1:=f1 (by decide);have Y:=Y (by decide);have t1:=t1 (by decide);have a1:=Jg 1 f.1;have a2:=Jg (J2 .i64 1 f.1) t.1;have a3:=Jg p.1 5;generalize J2 .i64 (J2 .i64 1 f.1) t.1=U at a2⊢;generalize J2 .i64 1 f.1=F at a1 a2⊢;generalize J2 .i64 p.1 5=Q at a3⊢;generalize p.1=P at p0 Y a3⊢;have hN:oS (F,U,P,Q,1,[]):=⟨by dsimp only;omega,by dsimp only;omega,by dsimp only;omega,by dsimp only;omega,by dsimp only;omega,by dsimp only;omega,(show(0:Int)<=1 by decide),(show(1:Int)<=8 by decide)⟩;have hR:=JJ7 H aa hN;have J: ∀{n:Int}, -9223372036854775808<=n/\n<=9223372036854775807->Ty.fit 16384 9223372036854775807 (.i .i64) n:=λh=>h;have r1: -9223372036854775808<=F/\F<=9223372036854775807:=by omega
  have r2: -9223372036854775808<=U/\U<=9223372036854775807:=by omega
  have r3: -9223372036854775808<=P/\P<=9223372036854775807:=by omega
  have r4: -9223372036854775808<=Q/\Q<=9223372036854775807:=by omega
  have hr:IL (F,U,P,Q,1,[]):=⟨J r1,J r2,J r3,J r4,J (show -9223372036854775808<=(1:Int)/\(1:Int)<=9223372036854775807 by decide),(show J0 ([]:List J1)<=16384 by decide),λx C=>absurd C List.not_mem_nil⟩;have Z:hE T:=λa M b L=>q a ((G a).1 M) b ((G b).1 L);have E: ∀{l:List J1},hE l->(sel l F U P Q).Pairwise ltE/\ ∀x,x∈sel l F U P Q↔x∈l/\inB F U P Q x=true:=fun{l} h=>by obtain⟨u1,u2⟩:=oy (l:=l.filter (inB F U P Q)) λa M b L=>h a (List.mem_filter.1 M).1 b (List.mem_filter.1 L).1;exact⟨u1,λx=>by unfold sel;rw[u2,List.mem_filter]⟩
  have sT:sel T F U P Q=sel g.2.1 F U P Q:=Gg (E Z).1 (E q).1 λx=>by rw[(E Z).2,(E q).2,G]
  refine .same (Dj K I (by omega) hN hr q rfl hR) ?_;dsimp only;refine .same (Dj (λx C=>K x ((G x).1 C)) (λx C=>I x ((G x).1 C)) (by omega) hN hr Z sT hR) ?_;dsimp only;exact JLz hR (E q).1 t.2 g
 obtain⟨y,e,rfl⟩:=ag;exact e
end Go.Am
end
section
namespace Go.Am
set_option maxRecDepth 20000
def CW{α:Type}(f:FuncId):List (FuncId×α)->Option α|[]=>none|(g,a)::r=>if f=g then some a else CW f r
noncomputable def m8:List (FuncId×AFn):=[(21,aM nu),(10,aM JC5),(88,aM Ut),(127,aM Ay),(126,aM Vn),(107,aM Tl),(106,aM N3),(105,aM X5),(108,aM Yd),(109,aM X8),(89,aM Ra),(52,aM Q7),(93,aM Wy),(59,aM Yr),(65,aM Mu),(30,aM Vb),(51,aM V4),(90,aM yr),(53,aM Q5),(19,aM N0),(39,aM Lk),(103,aM Yz),(73,aM Ln),(38,aM P3)]
noncomputable def mq:List (FuncId×AFn):=[(74,aM L6),(40,aM We),(9,aM Qd),(70,aM Yu),(35,aM Xr),(148,aM Y8),(125,aM Yi),(100,aM Zy),(138,aM Wd),(123,aM K2),(137,aM L3),(135,aM Kj),(136,aM Kq),(122,aM Iw),(98,aM I7),(97,aM U4),(134,aM Ay),(121,aM Qo),(96,aM Qi),(63,aM Qv),(68,aM Nd),(67,aM Re),(33,aM Q8),(34,aM Ox)]
noncomputable def nm:List (FuncId×AFn):=[(147,aM U5),(238,aM S5),(193,aM Q0),(194,aM Oy),(163,aM Rf),(181,aM Pc),(249,aM Yb),(264,aM Pd),(265,aM vm),(266,aM Ni),(223,aM Pn),(252,aM So),(251,aM Xk),(201,aM Sh),(169,aM P9),(267,aM Kk),(224,aM Rn),(225,aM Y3),(180,aM Sk),(159,aM Po),(151,aM Pp),(139,aM Sx),(24,aM yr),(214,aM Vm)]
noncomputable def m5:List (FuncId×AFn):=[(215,aM I4),(260,aM L5),(217,aM Mi),(213,aM N9),(257,aM Wg),(258,aM Im),(259,aM Wc),(216,aM Ob),(170,aM N6),(154,aM Oh),(167,aM Lz),(184,aM Mr),(176,aM Lo),(75,aM If),(212,aM Va),(256,aM Xo),(211,aM Vd),(210,aM S3),(175,aM U2),(209,aM S1),(174,aM JDo),(156,aM O3),(143,aM Zg),(168,aM S7)]
noncomputable def m6:List (FuncId×AFn):=[(153,aM Q4),(76,aM Lj),(202,aM Rv),(203,aM Qe),(171,aM Uj),(205,aM Nq),(254,aM V3),(206,aM Si),(287,aM S9),(253,aM R1),(204,aM Uy),(207,aM wc),(172,aM Qm),(255,aM Kd),(208,aM Pv),(173,aM Wk),(155,aM Qt),(142,aM Ps),(232,aM Le),(274,aM K6),(275,aM Nx),(231,aM Wj),(190,aM V6),(189,aM Xm)]
noncomputable def mw:List (FuncId×AFn):=[(191,aM Md),(234,aM Ql),(233,aM W8),(237,aM Ld),(276,aM T7),(235,aM L1),(277,aM JCY),(236,aM Vu),(192,aM Mb),(162,aM Ol),(188,aM Ul),(161,aM Ms),(227,aM I5),(183,aM Mo),(84,aM K1),(291,aM Q9),(270,aM U8),(271,aM Kx),(228,aM X9),(185,aM Pf),(230,aM Lm),(187,aM Um),(273,aM Qu),(295,aM Q6)]
noncomputable def l9:List (FuncId×AFn):=[(292,aM Ny),(272,aM Qk),(229,aM Mv),(186,aM Oq),(269,aM O0),(268,aM Vg),(226,aM Nf),(182,aM Mw),(160,aM Th),(146,aM M5),(144,aM Wf),(198,aM X1),(250,aM wc),(199,aM Iy),(165,aM Xx),(282,aM S8),(245,aM Xn),(284,aM Wp),(285,aM it),(247,aM Rs),(281,aM To),(243,aM Om),(242,aM O2),(286,aM R6)]
noncomputable def ng:List (FuncId×AFn):=[(248,aM L4),(283,aM I2),(246,aM Uq),(240,aM Vo),(279,aM T1),(280,aM V5),(241,aM Qx),(244,aM K5),(278,aM Uo),(239,aM Wt),(195,aM JC2),(196,aM V2),(197,aM Xu),(164,aM JDy),(200,aM Nz),(166,aM Ma),(152,aM JBZ),(141,aM Zk),(177,aM Mh),(42,aM R3),(77,aM O5),(44,aM V8),(219,aM P4),(218,aM Nw)]
noncomputable def my:List (FuncId×AFn):=[(178,aM Sy),(157,aM Se),(48,aM V0),(87,aM Zl),(85,aM Zp),(86,aM Zc),(50,aM Tz),(220,aM N5),(294,aM vm),(290,aM Ot),(263,aM Pq),(297,aM Uw),(298,aM Zw),(299,aM Y6),(296,aM Uu),(293,aM Ua),(288,aM T8),(261,aM S6),(289,aM Qg),(262,aM Lb),(221,aM Ws),(222,aM Sw),(179,aM Oz),(158,aM Mc)]
noncomputable def mh:List (FuncId×AFn):=[(145,aM Z0),(140,aM Zu),(124,aM Zx),(99,aM Ie),(66,aM Zh),(32,aM Zd),(11,aM JCf),(28,aM Y4),(56,aM Un),(58,aM U9),(91,aM J86),(55,aM J7j),(110,aM J7P),(149,aM J8Y),(128,aM Z2),(111,aM n5),(92,aM Z1),(57,aM J6Q),(22,aM JA1),(54,aM J9v),(20,aM JA0),(25,aM R8),(8,aM Yp)]
noncomputable def fns:List (FuncId×AFn):=m8++(mq++(nm++(m5++(m6++(mw++(l9++(ng++(my++(mh)))))))))
noncomputable def fks:List (FuncId×oB):=[]
noncomputable def fps:List (FuncId×Prm):=[(72,JBV),(60,cpP t_api_Entry),(61,Jkq 13 30 (JfC t_api_Entry J7y) (cel t_api_Entry) J6I)]
abbrev PS:=FuncId->Option (List AV->List Blk->Option Res)
noncomputable def tB(p:PS):cZ:=λf=>Cz (CW f fns) (CW f fks) (CW f fps) (p f)
def AE(l:List TE):Prop:= ∀p,tC (AF (tB p)) l
theorem ae0:AE []:=λ_=>trivial
theorem CV{i g S l f}(hf: ∀p,tB p i=some (.fn (aM f)))(A:AE l)(q: ∀x,onO (gN g x) (λy=>lO (TG.of l) f y.1 y.2 (hM g))=S x)(hs:FC g=true:=by rfl):AE (aF i g S::l):=λp=>⟨na (hf p) (A p) hs q,A p⟩
end Go.Am
end
