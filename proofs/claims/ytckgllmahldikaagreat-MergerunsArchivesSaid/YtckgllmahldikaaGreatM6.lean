/- Parts of a proof. -/
import Derived.Test.YtckgllmahldikaaGreatM3
import Derived.Test.YtckgllmahldikaaGreatM4
import Derived.Test.YtckgllmahldikaaGreatM5
set_option linter.unusedSimpArgs false
set_option linter.unusedVariables false
set_option linter.unusedSectionVars false
set_option maxRecDepth 20000
set_option maxHeartbeats 1000000
noncomputable section
namespace Go.Am
section
variable {B S:Int}
def EF(e:aA):Prop:=1<=e.1/\e.1<=1099511627776/\1<=e.2.2.1/\e.2.2.1<=1073741824/\0<=e.2.2.2.1/\e.2.2.2.1<e.1/\0<=e.2.2.2.2.1/\e.2.2.2.2.1<e.1/\0<=e.2.2.2.2.2.1/\e.2.2.2.2.2.1<e.1/\e.2.2.2.2.2.2.2=[]/\lJ e.2.2.2.2.2.2.1=some true/\((e.2.1=1/\e.2.2.2.2.2.1=0)\/(e.2.1=2/\0<e.2.2.2.1/\1<=e.2.2.2.2.2.1/\e.2.2.2.2.2.1<=e.2.2.2.1))
theorem jr{x:Jr}(e:lG x=some true):0<=x.1/\x.1<x.2:=by
 have g:Par (lG x) λy=>y=true->0<=x.1/\x.1<x.2:=.h (λc=>.s λd=>⟨c,Jt.1 d⟩) λ_=>.s nofun
 exact g _ e rfl
theorem EF.of{e:aA}(h:JO e=some true)(hk:e.2.1=1\/e.2.1=2):EF e:=by
 have B:Par (rB e) λy=>y.2=true->y.1=e->1<=e.2.2.1/\e.2.2.1<=1073741824/\e.2.2.2.2.2.2.2=[]/\lJ e.2.2.2.2.2.2.1=some true/\((e.2.1=1/\e.2.2.2.2.2.1=0)\/(e.2.1=2/\0<e.2.2.2.1/\1<=e.2.2.2.2.2.1/\e.2.2.2.2.2.1<=e.2.2.2.1)):=by
  unfold rB;refine .e (λo=>.b λN h2=>.e (λg=>by omega) λ_=>.i (λj=>.h (λk=>.s λn q=>?_) λ_=>.s nofun) λ_=>.s nofun) λo=>.e (λg=>.b λN h2=>.e (λ_=>.i (λj=>.g (λL=>.h (λM=>.G (λI=>.h (λk=>.s λn q=>?_) λ_=>.s nofun) λ_=>.s nofun) λ_=>.s nofun) λ_=>.s nofun) λ_=>.s nofun) λc=>absurd g c) λg=>by omega
  subst j;have R:(0:Int)=e.2.2.2.2.2.1:=congrArg (λz:aA=>z.2.2.2.2.2.1) q;have r:([]:qQC)=e.2.2.2.2.2.2.2:=congrArg (λz:aA=>z.2.2.2.2.2.2.2) q;exact⟨k,dA.1 n,r.symm,h2,.inl ⟨o,R.symm⟩⟩;subst j;have r:([]:qQC)=e.2.2.2.2.2.2.2:=congrArg (λz:aA=>z.2.2.2.2.2.2.2) q;exact⟨k,dA.1 n,r.symm,h2,.inr ⟨g,L,M,I⟩⟩
 have v:Par (JO e) λy=>y=true->EF e:=by unfold JO;refine .b λa S=>.i (λo=>.i (λg=>.h (λk=>.G (λn=>.b λb1 x=>.i (λJ=>.b λb2 w=>.i (λj=>.b λV A=>.s λF=>?_) λ_=>.s nofun) λ_=>.s nofun) λ_=>.s nofun) λ_=>.s nofun) λ_=>.s nofun) λ_=>.s nofun;subst J;subst j;subst F;obtain⟨T,U,O,Q,P⟩:=B _ S o (eF.1 g);obtain⟨K,G⟩:=jr x;obtain⟨C,E⟩:=jr w;obtain⟨D,H⟩:=jr A;exact⟨k,n,T,U,K,G,C,E,D,H,O,Q,P⟩
 exact v _ h rfl
theorem wa{c:kD}(h:JQ c=some true):Tot (JQ c) λy=>y=true:=by have e:JQ c=JQ c:=rfl;exact⟨true,e.trans h,rfl⟩
theorem yu{c:hJ}(h:lJ c=some true):Tot (uW c) λy=>y=true:=by
 have n:Par (lJ c) λy=>y=true->0<=c.1/\c.1<64/\0<=c.2.1/\c.2.1<16/\JQ c.2.2.1=some true/\JQ c.2.2.2=some true:=by unfold lJ;refine .h (λe=>.l (λg=>.h (λj=>.l (λk=>.b λa A=>.i (λr=>.b λb hb=>.s λo=>?_) λ_=>.s nofun) λ_=>.s nofun) λ_=>.s nofun) λ_=>.s nofun) λ_=>.s nofun;subst r;subst o;exact⟨e,g,j,k,A,hb⟩
 obtain⟨e,g,j,k,v,x⟩:=n _ h rfl;unfold uW;have z:Tot (CM c.1) λy=>y=true:=.h (λ_=>.s (Jt.2 g)) λc=>absurd e c
 refine .b z λD d=>.i (λ_=>.h (λ_=>.l (λ_=>.b (wa v) λB q=>.i (λ_=>.b (wa x) λC w=>.s w) λc=>by rw[q]at c;cases c) λc=>absurd k c) λc=>absurd j c) λc=>by rw[d]at c;cases c
theorem JGv{e:aA}(h:EF e):Tot (oY e) λy=>y=true:=by
 obtain⟨N,O,L,M,F,E,B,x,G,r,j,k,H⟩:=h;have o: ∀{n:Int},0<=n->n<e.1->Tot (rG (n,e)) λy=>y=true:=fun{n} h1 h2=>by unfold rG;exact .h (λ_=>.s (Jt.2 h2)) λc=>absurd h1 c
 have J: ∀{b:Bool} {Q:Prop},b=true->Jj b=true->Q:=fun{b Q} h1 h2=>by subst h1;cases h2
 have hb:neS e.2.2.2.2.2.2.2 []=false:=by rw[j];rfl
 have w:J0 e.2.2.2.2.2.2.2<=8192:=by rw[j];decide
 unfold oY;refine .j (λ_=>.k (λ_=>.j (λ_=>.k (λ_=>.b (o F E) λK z=>.r (λ_=>.b (o B x) λI A=>.r (λ_=>.b (o G r) λv g=>.n (λc=>by rw[g]at c;cases c) λ_=>?_) λc=>by rw[A]at c;cases c) λc=>by rw[z]at c;cases c) λc=>by omega) λc=>by omega) λc=>by omega) λc=>by omega
 refine .e (λc=>by omega) λ_=>.e (λc=>by omega) λ_=>.e (λc=>by omega) λ_=>.e (λc=>by omega) λ_=>.e (λc=>by omega) λ_=>.e (λc=>by omega) λ_=>.e (λD=>?_) λD=>.e (λC=>?_) λC=>by omega
 refine .j (λ_=>.g (λc=>by omega) λ_=>.e (λc=>by omega) λ_=>.i (λc=>by rw[hb]at c;cases c) λ_=>.G (λ_=>?_) λc=>absurd w c) λc=>by omega
 have q:Tot (mG e) λy=>y=true:=.h (λ_=>.s (dA.2 oo)) λc=>by omega
 exact .b q λy d=>.i (λ_=>.b (yu k) λv g=>.s g) λc=>by rw[d]at c;cases c
 refine .j (λ_=>.g (λc=>by omega) λ_=>.d (λc=>by omega) λ_=>.i (λc=>by rw[hb]at c;cases c) λ_=>.G (λ_=>?_) λc=>absurd w c) λc=>by omega
 have q:Tot (iU e) λy=>y=true:=⟨true,rfl,rfl⟩;exact .b q λy d=>.i (λ_=>.b (yu k) λv g=>.s g) λc=>by rw[d]at c;cases c
def bQ(e:aA):Int:=e.2.2.2.2.2.2.1.1
def vY(r:J7):Prop:=1<=r.1/\r.1<=r.2.1/\r.2.1<=1099511627776/\0<=r.2.2.1/\r.2.2.1<=r.2.2.2.1/\r.2.2.2.1<64/\0<=r.2.2.2.2.1/\r.2.2.2.2.1<=8
def IX(r:J7)(e:aA):Prop:=JO e=some true/\(e.2.1=1\/e.2.1=2)/\r.1<=e.1/\e.1<=r.2.1/\r.2.2.1<=bQ e/\bQ e<=r.2.2.2.1
def lV(f:Int)(a b:aA):Prop:=(bQ a<bQ b/\b.2.2.2.2.1<f)\/(bQ a=bQ b/\a.1<b.1/\b.2.2.2.2.1=a.1)
def dV(r:J7):Prop:=vY r/\J0 r.2.2.2.2.2<=4096/\(∀(j:Nat) (e:aA),r.2.2.2.2.2[j]?=some e->IX r e)/\(∀e,r.2.2.2.2.2[0]?=some e->e.2.2.2.2.1<r.1)/\ ∀(j:Nat) (a b:aA),r.2.2.2.2.2[j]?=some a->r.2.2.2.2.2[j+1]?=some b->lV r.1 a b
theorem vY.of{r:J7}(h:pF (r.1,r.2.1,r.2.2.1,r.2.2.2.1,r.2.2.2.2.1)=some true):vY r:=by
 have e:Par (pF (r.1,r.2.1,r.2.2.1,r.2.2.2.1,r.2.2.2.2.1)) λy=>y=true->vY r:=.h (λw=>.G (λg=>.G (λj=>.h (λv=>.G (λo=>.l (λq=>.h (λk=>.s λn=>⟨w,g,j,v,o,q,k,dA.1 n⟩) λ_=>.s nofun) λ_=>.s nofun) λ_=>.s nofun) λ_=>.s nofun) λ_=>.s nofun) λ_=>.s nofun) λ_=>.s nofun
 exact e _ h rfl
theorem JGI{e:aA}(h:JF e=some true):e.2.1=1\/e.2.1=2:=by
 have g:Par (JF e) λy=>y=true->e.2.1=1\/e.2.1=2:=.p (λ_=>.s λd=>.inr (fH.1 d)) λc=>.s λ_=>.inl c
 exact g _ h rfl
theorem zk{e:aA}(h:e.2.1=1\/e.2.1=2):Tot (JF e) λy=>y=true:=.p (λc=>.s (fH.2 oo)) λ_=>.s rfl
theorem Uy{e:aA}(h:e.2.1=1\/e.2.1=2):Tot (JF e) λy=>y=true:=zk h
theorem xw{a b:aA}{y:Int}(h:lK (a,b)=some y)(c: ¬0<=y):bQ a<bQ b\/(bQ a=bQ b/\a.1<b.1):=by
 have e:Par (lK (a,b)) λy=> ¬0<=y->bQ a<bQ b\/(bQ a=bQ b/\a.1<b.1):=.j (λ_=>.e (λj=>.l (λg=>.s λ_=>.inr ⟨j,g⟩) λ_=>.e (λ_=>.e (λ_=>.s λc=>absurd (bB 0) c) λ_=>.s λc=>absurd qQH c) λ_=>.s λc=>absurd qQH c) λ_=>.e (λ_=>.e (λ_=>.s λc=>absurd (bB 0) c) λ_=>.s λc=>absurd qQH c) λ_=>.s λc=>absurd qQH c) λc=>.s λ_=>.inl c
 exact e _ h c
theorem JCN{a b:aA}(h:bQ a<bQ b\/(bQ a=bQ b/\a.1<b.1)):Tot (lK (a,b)) λy=> ¬0<=y:=by unfold bQ at h;unfold lK;exact .j (λc=>.e (λe=>.l (λj=>.s qQH) λg=>by dsimp only at c e g;omega) λe=>by dsimp only at c e;omega) λc=>.s qQH
theorem dV.of{r:J7}(h:fT r=some true):dV r:=by
 have J:Par (fT r) λy=>y=true->dV r:=by
  unfold fT;refine .b λa g=>.r (λP=>.g (λ_=>.s nofun) λQ=>?_) λ_=>.s nofun;subst P;refine .z (λz=>z.2=r/\0<=z.1/\(∀(j:Nat) (e:aA),(j:Int)<z.1->r.2.2.2.2.2[j]?=some e->IX r e)/\(∀e,0<z.1->r.2.2.2.2.2[0]?=some e->e.2.2.2.2.1<r.1)/\ ∀(j:Nat) (a b:aA),(j:Int)+1<z.1->r.2.2.2.2.2[j]?=some a->r.2.2.2.2.2[j+1]?=some b->lV r.1 a b) ⟨rfl,bB _,λj e h=>by dsimp only at h;omega,λe h=>by dsimp only at h;omega,λj a b h=>by dsimp only at h;omega⟩ ?_;rintro⟨i,z⟩ ⟨rfl,U,h1,h2,G⟩;dsimp only at U h1 h2 G Q;unfold ZM;dsimp only;have o1:=Jk i 1;have o2:=bF i 1;refine .l (λc=>?_) λc=>.s λ_=>⟨vY.of g,by omega,λj e n=>h1 j e (by have:=lT n;omega) n,λe n=>h2 e (by have:=lT n;omega) n,λj a b I D=>G j a b (by have:=lT D;omega) I D⟩;refine .b λe n=>.b λb hb=>.r (λR=>.b λd hd=>.r (λO=>.j (λc5=>.k (λc6=>.j (λc7=>.g (λ_=>.s nofun) λc8=>?_) λ_=>.s nofun) λ_=>.s nofun) λ_=>.s nofun) λ_=>.s nofun) λ_=>.s nofun;subst R;subst O;obtain⟨_,w⟩:=fY n;have E:IX z e:=⟨hb,JGI hd,by omega,by omega,by unfold bQ;omega,by unfold bQ;omega⟩;have nx:(i=0->e.2.2.2.2.1<z.1)->(∀a,0<i->z.2.2.2.2.2[(i-1).toNat]?=some a->lV z.1 a e)->(z=z/\0<=J1 .i64 i 1/\(∀(j:Nat) (e:aA),(j:Int)<J1 .i64 i 1->z.2.2.2.2.2[j]?=some e->IX z e)/\(∀e,0<J1 .i64 i 1->z.2.2.2.2.2[0]?=some e->e.2.2.2.2.1<z.1)/\ ∀(j:Nat) (a b:aA),(j:Int)+1<J1 .i64 i 1->z.2.2.2.2.2[j]?=some a->z.2.2.2.2.2[j+1]?=some b->lV z.1 a b):=by
   intro S T;refine⟨rfl,by omega,λj f Y hf=>?_,λf hp hf=>?_,λj a b Y g hb=>?_⟩;by_cases F:(j:Int)<i;exact h1 j f F hf;have:j=i.toNat:=by omega
   subst this;rw[w]at hf;injection hf with hf;subst hf;exact E;by_cases hi:0<i;exact h2 f hi hf;have L:i=0:=by omega
   subst L;rw[show(0:Int).toNat=0 from rfl]at w;rw[w]at hf;injection hf with hf;subst hf;exact S rfl;by_cases F:(j:Int)+1<i;exact G j a b F g hb;have W:j+1=i.toNat:=by omega
   have V:j=(i-1).toNat:=by omega
   rw[W,w]at hb;injection hb with hb;subst hb;rw[V]at g;exact T a oo g
  have A: ∀{a:aA},0<i->idx z.2.2.2.2.2 (Jm .i64 i 1)=some a->z.2.2.2.2.2[(i-1).toNat]?=some a:=fun{a} hi g=>by obtain⟨_,q⟩:=fY g;rw[show(i-1).toNat=(Jm .i64 i 1).toNat by omega];exact q
  have zero: ¬0<i-> ¬z.1<=e.2.2.2.2.1->(z=z/\0<=J1 .i64 i 1/\(∀(j:Nat) (e:aA),(j:Int)<J1 .i64 i 1->z.2.2.2.2.2[j]?=some e->IX z e)/\(∀e,0<J1 .i64 i 1->z.2.2.2.2.2[0]?=some e->e.2.2.2.2.1<z.1)/\ ∀(j:Nat) (a b:aA),(j:Int)+1<J1 .i64 i 1->z.2.2.2.2.2[j]?=some a->z.2.2.2.2.2[j+1]?=some b->lV z.1 a b):=λhi hf=>nx (λ_=>by omega) λa h=>absurd h hi;refine .g (λx=>.b λy7 C=>.b λy8 K=>.h (λ_=>.s nofun) λH=>.g (λ_=>.b λy9 k=>.e (λB=>.b λZ o=>.d (λ_=>.s nofun) λv=>.s ?_) λB=>.h (λ_=>.s nofun) λv=>.s ?_) λc=>absurd x c) λx=>.g (λc=>absurd c x) λ_=>.h (λ_=>.s nofun) λv=>.s (zero x v);rw[C]at k o;injection k with k;injection o with o;subst k;subst o;refine nx (λh=>by omega) λa _ g=>?_;rw[A x C]at g;injection g with g;subst g;rcases xw K H with q|⟨M,N⟩;unfold bQ at q;omega;exact .inr ⟨B,N,v⟩;rw[C]at k;injection k with k;subst k;refine nx (λh=>by omega) λa _ g=>?_;rw[A x C]at g;injection g with g;subst g;rcases xw K H with q|⟨M,N⟩;exact .inl ⟨q,by omega⟩;exact absurd M B
 exact J _ h rfl
end
section
variable {B S:Int}
theorem jC{α:Type}{l:List α}{i:Int}(h0:0<=i)(h1:i<J0 l): ∃a,idx l i=some a/\l[i.toNat]?=some a:=by
 have e:i.toNat<l.length:=by unfold J0 at h1;omega
 exact⟨l[i.toNat],by unfold idx;rw[if_pos h0,aY e],aY e⟩
theorem JBp{r:J7}(h:vY r):Tot (pF (r.1,r.2.1,r.2.2.1,r.2.2.2.1,r.2.2.2.2.1)) λy=>y=true:=by obtain⟨h1,h2,o,k,n,e,j,g⟩:=h;unfold pF;exact .h (λ_=>.G (λ_=>.G (λ_=>.h (λ_=>.G (λ_=>.l (λ_=>.h (λ_=>.s (dA.2 g)) λc=>absurd j c) λc=>absurd e c) λc=>absurd n c) λc=>absurd k c) λc=>absurd o c) λc=>absurd h2 c) λc=>absurd h1 c
theorem Qn{r:J7}(h:vY r):Tot (HG r) λy=>y=true:=by obtain⟨h1,h2,o,k,n,e,j,g⟩:=h;unfold HG;exact .h (λ_=>.G (λ_=>.G (λ_=>.h (λ_=>.G (λ_=>.l (λ_=>.h (λ_=>.s (dA.2 g)) λc=>absurd j c) λc=>absurd e c) λc=>absurd n c) λc=>absurd k c) λc=>absurd o c) λc=>absurd h2 c) λc=>absurd h1 c
theorem cE{α:Type}{o:Option α}{v:α}(h:o=some v):Tot o λy=>y=v:=⟨v,h,rfl⟩
theorem wy{r:J7}(h:dV r){i:Int}(hi:0<i)(hl:i<J0 r.2.2.2.2.2){a b:aA}(ha:r.2.2.2.2.2[(i-1).toNat]?=some a)(hb:r.2.2.2.2.2[i.toNat]?=some b):lV r.1 a b:=h.2.2.2.2 (i-1).toNat a b ha (by rw[show(i-1).toNat+1=i.toNat by omega];exact hb)
theorem xt{r:J7}(h:dV r):fT r=some true:=by
 have n:Tot (fT r) λy=>y=true:=by
  obtain⟨R,g2,G,J,g5⟩:=id h;unfold fT;refine .b (JBp R) λy2 D=>.r (λ_=>.g (λc=>by omega) λ_=>?_) λc=>by rw[D]at c;cases c
  refine Jn (τ:=Int) (λq=>(q,r)) (λq=>0<=q/\q<=J0 r.2.2.2.2.2) (λq=>J0 r.2.2.2.2.2-q) ?_ 0 rfl ⟨bB _,J6⟩;rintro i ⟨P,h1⟩;unfold ZM;dsimp only;have o1:=Jk i 1;have o2:=bF i 1;refine .l (λc=>?_) λc=>.s rfl;obtain⟨e,T,g⟩:=jC P c;obtain⟨K,E,W,Y,B,F⟩:=G _ e g;have nx: ∃c':Int,((J1 .i64 i 1,r):Int×J7)=(c',r)/\(0<=c'/\c'<=J0 r.2.2.2.2.2)/\J0 r.2.2.2.2.2-c'<J0 r.2.2.2.2.2-i/\0<=J0 r.2.2.2.2.2-i:=⟨J1 .i64 i 1,rfl,⟨by omega,by omega⟩,by omega,by omega⟩;unfold bQ at B F;refine .b (cE T) λw O=>?_;subst O;refine .b (cE K) λy5 L=>.r (λ_=>.b (zk E) λy6 I=>.r (λ_=>.j (λ_=>.k (λ_=>.j (λ_=>.g (λc=>by omega) λ_=>?_) λc=>by omega) λc=>by omega) λc=>by omega) λc=>by rw[I]at c;cases c) λc=>by rw[L]at c;cases c
  refine .g (λj=>?_) λj=>.g (λc=>absurd c j) λ_=>.h (λc=>?_) λ_=>.s nx;have S:Jm .i64 i 1=i-1:=by omega
  rw[S];obtain⟨a,k,v⟩:=jC (l:=r.2.2.2.2.2) (i:=i-1) oo oo;have x:=wy h j c v g;refine .b (cE k) λC H=>?_;subst H;refine .b (JCN (a:=C) (b:=w) (by rcases x with⟨q,_⟩|⟨Q,U,_⟩;exact .inl q;exact .inr ⟨Q,U⟩)) λZ N=>.h (λc=>absurd c N) λ_=>.g (λ_=>.b (cE k) λy9 M=>?_) λc=>absurd j c;subst M;unfold lV bQ at x;refine .e (λo=>.b (cE k) λV z=>?_) λo=>.h (λc=>by omega) λ_=>.s nx;subst z;exact .d (λc=>by omega) λ_=>.s nx;have A:i=0:=by omega
  subst A;have:=J w g;omega
 obtain⟨y,e,d⟩:=n;rw[e,d]
theorem JBO{a b:aA}(h:bQ a=bQ b/\a.1<b.1):Tot (CL (a,b)) λy=> ¬0<=y:=by
 obtain⟨h1,h2⟩:=h;unfold bQ at h1;have j:pE (a.2.2.2.2.2.2.1.1,b.2.2.2.2.2.2.1.1)=some 0:=by unfold pE GV;dsimp only;rw[h1];simp[aN,aL,aO]
 have e:pE (a.1,b.1)=some (-1):=by unfold pE GV;dsimp only;simp[aN,aL,aO,h2]
 unfold CL;dsimp only;rw[j,e];show Tot ((sO [0, -1]).bind _) _;have g:sO [0, -1]=some (-1):=by unfold sO;rw[eW (s':=(0,[0, -1],J0 ([0, -1]:qQD),1)) (by rfl)];exact dG (by rfl)
 rw[g];exact .s qQH
theorem ON{r:J7}(h:dV r):iG r=some true:=by
 have v:Tot (iG r) λy=>y=true:=by
  obtain⟨R,g2,O,H,g5⟩:=id h;unfold iG;refine .b (Qn R) λy2 C=>.r (λ_=>.g (λc=>by omega) λ_=>?_) λc=>by rw[C]at c;cases c
  refine Jn (τ:=Int) (λq=>(r.2.2.2.2.2,J0 r.2.2.2.2.2,q,r)) (λq=>0<=q/\q<=J0 r.2.2.2.2.2) (λq=>J0 r.2.2.2.2.2-q) ?_ 0 rfl ⟨bB _,J6⟩;rintro i ⟨P,h1⟩;unfold lw;dsimp only;have Z:=Jk i 1;have W:=bF i 1;refine .l (λc=>?_) λc=>.s rfl;obtain⟨e,T,g⟩:=jC P c;obtain⟨I,n,B,D,k,o⟩:=O _ e g;have nx: ∃c':Int,((r.2.2.2.2.2,J0 r.2.2.2.2.2,J1 .i64 i 1,r):XX)=(r.2.2.2.2.2,J0 r.2.2.2.2.2,c',r)/\(0<=c'/\c'<=J0 r.2.2.2.2.2)/\J0 r.2.2.2.2.2-c'<J0 r.2.2.2.2.2-i/\0<=J0 r.2.2.2.2.2-i:=⟨J1 .i64 i 1,rfl,⟨by omega,by omega⟩,by omega,by omega⟩;unfold bQ at k o;have Q:Tot (HC (r,e)) λy=>y=true:=.b (Uy n) λy d=>.i (λ_=>.h (λ_=>.G (λ_=>.h (λ_=>.s (dA.2 D)) λc=>absurd B c) λc=>absurd o c) λc=>absurd k c) λc=>by rw[d]at c;cases c
  refine .b (cE T) λz N=>?_;subst N;refine .b (JGv (EF.of I n)) λY J=>.r (λ_=>.b Q λy6 F=>.n (λc=>by rw[F]at c;cases c) λ_=>?_) λc=>by rw[J]at c;cases c
  refine .p (λw=>?_) λw=>.h (λc=>?_) λ_=>.s nx;have hi:0<i:=by omega
  have S:Jm .i64 i 1=i-1:=by omega
  rw[S];obtain⟨a,A,x⟩:=jC (l:=r.2.2.2.2.2) (i:=i-1) oo oo;have j:=wy h hi c x g;refine .b (cE A) λV E=>?_;subst E;refine .l (λM=>.h (λc=>?_) λ_=>.s nx) λM=>.b (cE A) λG L=>?_;unfold lV bQ at j;omega;subst L;have U:=j;unfold lV bQ at j;refine .b (JBO (a:=G) (b:=z) (by unfold bQ;omega)) λy9 K=>.o (λ_=>.d (λc=>by omega) λ_=>.s nx) λc=>absurd c K;subst w;have:=H z g;omega
 obtain⟨y,e,d⟩:=v;rw[e,d]
end
section
variable {B S:Int}
def pl(r:J7):List aA:=r.2.2.2.2.2
theorem eR{α:Type}{bytes:Nat}{l m:List α}(h:J0 l+J0 m<=34359738368)(hb:bytes<=2048):Js bytes l m=some (l++m):=by unfold Js;rw[if_pos (TD (by unfold J0 at h;omega) hb)]
end
section
variable {B S:Int}
theorem jf(x:Int×aA):Tot (rG x) λy=>y=true->0<=x.1/\x.1<x.2.1:=.h (λc=>.s λd=>⟨c,Jt.1 d⟩) λ_=>.s nofun
theorem Mg(c:kD):Tot (JQ c) λy=>JQ c=some y:=by
 have g:Tot (JQ c) λ_=>True:=.i (λ_=>.t (λ_=>.s qQG) λ_=>.s qQG) λ_=>.s qQG
 obtain⟨y,e,_⟩:=g;exact⟨y,e,e⟩
theorem JK1(n:Int):Tot (CM n) λy=>y=true->0<=n/\n<64:=.h (λc=>.s λd=>⟨c,Jt.1 d⟩) λ_=>.s nofun
theorem wx(c:hJ):Tot (uW c) λy=>y=true->lJ c=some true:=by unfold uW;refine .b (JK1 c.1) λw h2=>.i (λe=>.h (λj=>.l (λk=>.b (Mg c.2.2.1) λv r=>.i (λh=>.b (Mg c.2.2.2) λx o=>.s λg=>?_) λ_=>.s nofun) λ_=>.s nofun) λ_=>.s nofun) λ_=>.s nofun;obtain⟨n,q⟩:=h2 e;subst h;subst g;unfold lJ;rw[if_pos (iS.2 n),if_pos (Jt.2 q),if_pos (iS.2 j),if_pos (Jt.2 k),r,o];rfl
theorem JN0(c:hJ):Tot (xS c) λ_=>True:=⟨_,rfl,qQG⟩
theorem Ie(e:aA):Tot (iU e) λ_=>True:=⟨_,rfl,qQG⟩
theorem JR7(e:aA):Tot (mG e) λy=>y=true->1<=e.2.2.2.2.2.1/\e.2.2.2.2.2.1<=e.2.2.2.1:=.h (λc=>.s λd=>⟨c,dA.1 d⟩) λ_=>.s nofun
theorem JQL(c:hJ):Tot (CS c) λ_=>True:=.i (λ_=>.i (λ_=>.s qQG) λ_=>.s qQG) λ_=>.s qQG
theorem Md{l:qQC}(h:neS l []=false):l=[]:=by unfold neS at h;simpa using h
theorem JNR(e:aA):Tot (oY e) λy=>y=true->(e.2.1=1\/e.2.1=2)->EF e:=by
 have g: ∀{o:Option Bool},(3<=e.2.1\/e.2.1<=0)->Tot o (λ_=>True)->Tot o λy=>y=true->(e.2.1=1\/e.2.1=2)->EF e:=λh ht=>ht.mono λ_ _ _ hk=>by omega
 unfold oY;refine .j (λO=>.k (λP=>.j (λM=>.k (λN=>.b (jf _) λL h2=>.r (λA=>.b (jf _) λJ H=>.r (λB=>.b (jf _) λK E=>.n (λ_=>.s nofun) λD=>?_) λ_=>.s nofun) λ_=>.s nofun) λ_=>.s nofun) λ_=>.s nofun) λ_=>.s nofun) λ_=>.s nofun;have b2:=h2 A;have j:=H B;have k:=E D;refine .e (λc=>g oo ?_) λ_=>.e (λc=>g oo ?_) λ_=>.e (λc=>g oo ?_) λ_=>.e (λc=>g oo ?_) λ_=>.e (λc=>g oo ?_) λ_=>.e (λc=>g oo ?_) λ_=>.e (λx=>?_) λx=>.e (λw=>?_) λw=>by omega
 case refine_7=>refine .j (λG=>.g (λ_=>.s nofun) λC=>.e (λ_=>.s nofun) λv=>.i (λ_=>.s nofun) λn=>.G (λ_=>.b (JR7 e) λy h=>.i (λd=>.b (wx _) λz r=>.s λq _=>?_) λ_=>.s nofun) λ_=>.s nofun) λ_=>.s nofun;obtain⟨F,I⟩:=h d;exact⟨by omega,by omega,by omega,by omega,b2.1,b2.2,j.1,j.2,k.1,k.2,Md n,r q,.inr ⟨x,by have:=b2.1;dsimp only at this;omega,F,I⟩⟩
 case refine_8=>refine .j (λG=>.g (λ_=>.s nofun) λC=>.d (λ_=>.s nofun) λv=>.i (λ_=>.s nofun) λn=>.G (λ_=>.b (Ie e) λy h=>.i (λd=>.b (wx _) λz r=>.s λq _=>?_) λ_=>.s nofun) λ_=>.s nofun) λ_=>.s nofun;exact⟨by omega,by omega,by omega,by omega,b2.1,b2.2,j.1,j.2,k.1,k.2,Md n,r q,.inl ⟨w,v⟩⟩
 all_goals repeat' first
  |exact .s qQG
  |refine .i (λ_=>?_) λ_=>?_
  |refine .t (λ_=>?_) λ_=>?_
  |refine .b (Ie _) λ_ _=>?_
  |refine .b (JN0 _) λ_ _=>?_
  |refine .b (JQL _) λ_ _=>?_
end
section
variable {B S:Int}
def hW(x y:Int):Int:=if x<y then -1 else if y<x then 1 else 0
def iL(a b:aA):Int:=if hW (bQ a) (bQ b)=0 then hW a.1 b.1 else hW (bQ a) (bQ b)
theorem uc(x:Int):aN x x=false:=by simp[aN]
theorem IQ(x y:Int):pE (x,y)=some (hW x y):=by unfold pE GV hW;dsimp only;rw[uc,uc];by_cases h:x<y;simp[aL,h];by_cases h2:y<x;simp[aL,aO,h,h2];simp[aL,aO,h,h2]
theorem JR5(p q:Int):sO [p,q]=some (if p=0 then q else p):=by
 unfold sO;have h: ∀p q:Int,yH (0,[p,q],J0 [p,q],0)=if aN p 0=true then some (.inr p)else some (.inl (0,[p,q],J0 [p,q],1)):=λp q=>rfl
 have g: ∀p q:Int,yH (0,[p,q],J0 [p,q],1)=if aN q 0=true then some (.inr q)else some (.inl (0,[p,q],J0 [p,q],2)):=λp q=>rfl
 have k: ∀p q:Int,yH (0,[p,q],J0 [p,q],2)=some (.inr 0):=λp q=>rfl;by_cases e:p=0;subst e;rw[if_pos rfl,eW ((h 0 q).trans (if_neg qQH))];by_cases j:q=0;subst j;rw[eW ((g 0 0).trans (if_neg qQH))];exact dG (k 0 0);exact dG ((g 0 q).trans (if_pos (eJ.2 j)));rw[if_neg e];exact dG ((h p q).trans (if_pos (eJ.2 e)))
theorem Mq(a b:aA):CL (a,b)=some (iL a b):=by unfold CL iL bQ;dsimp only;rw[IQ,IQ];simp only[JC];rw[JR5];rfl
theorem My(a b:aA):lK (a,b)=some (iL a b):=by
 have h:Tot (lK (a,b)) λy=>y=iL a b:=by
  unfold lK iL hW bQ;dsimp only;refine .j (λc=>.e (λg=>.l (λj=>.s ?_) λj=>.e (λ_=>.e (λk=>.s ?_) λk=>.s ?_) λc=>absurd g c) λg=>.e (λc=>absurd c g) λ_=>.s ?_) λc=>.s ?_
  all_goals repeat' split
  all_goals omega
 obtain⟨y,e,d⟩:=h;rw[e,d]
def rg(a b:aA):Prop:=bQ a<bQ b\/(bQ a=bQ b/\a.1<b.1)
theorem FX{a b:aA}:iL a b<0↔rg a b:=by
 unfold iL hW rg
 repeat' split
 all_goals first|omega|(constructor<;>intro h<;>omega)
theorem JIN{a b:aA}:iL a b=0↔bQ a=bQ b/\a.1=b.1:=by
 unfold iL hW
 repeat' split
 all_goals first|omega|(constructor<;>intro h<;>omega)
theorem JQh(r:J7):Tot (HG r) λy=>y=true->vY r:=.h (λq=>.G (λe=>.G (λg=>.h (λo=>.G (λk=>.l (λn=>.h (λh=>.s λj=>⟨q,e,g,o,k,n,h,dA.1 j⟩) λ_=>.s nofun) λ_=>.s nofun) λ_=>.s nofun) λ_=>.s nofun) λ_=>.s nofun) λ_=>.s nofun) λ_=>.s nofun
theorem JPa(e:aA):Tot (JF e) λy=>y=true->e.2.1=1\/e.2.1=2:=.p (λ_=>.s λd=>.inr (fH.1 d)) λc=>.s λ_=>.inl c
theorem JPT(r:J7)(e:aA):Tot (HC (r,e)) λy=>y=true->(e.2.1=1\/e.2.1=2)/\r.1<=e.1/\e.1<=r.2.1/\r.2.2.1<=bQ e/\bQ e<=r.2.2.2.1:=.b (JPa e) λy h=>.i (λd=>.h (λn=>.G (λg=>.h (λj=>.s λk=>⟨h d,j,dA.1 k,n,g⟩) λ_=>.s nofun) λ_=>.s nofun) λ_=>.s nofun) λ_=>.s nofun
theorem gu{t:Ty}(x:t.D):eqT t x x=true:=eF.2 rfl
theorem JJv{e:aA}(h:EF e)(hk:e.2.1=1\/e.2.1=2):JO e=some true:=by
 obtain⟨S,T,A,j,P,J,F,B,R,w,g,o,z⟩:=h;have r: ∀{n:Int},0<=n->n<e.1->lG (n,e.1)=some true:=fun{n} h1 h2=>by unfold lG;rw[if_pos (iS.2 h1)];exact congrArg some (Jt.2 h2)
 have sh:Tot (rB e) λy=>y=(e,true):=(by unfold rB;rcases z with⟨k,q⟩|⟨k,N,U,O⟩;refine .e (λ_=>.b (cE o) λy d=>.e (λc=>by omega) λ_=>.i (λ_=>.h (λ_=>.s ?_) λc=>absurd A c) λc=>by rw[d]at c;cases c) λc=>absurd k c;obtain⟨v,Q,L,M,D,H,G,I⟩:=e;dsimp only at k q g j;subst q;subst g;exact congrArg (Prod.mk _) (dA.2 j);refine .e (λc=>by omega) λ_=>.e (λ_=>.b (cE o) λy d=>.e (λ_=>.i (λ_=>.g (λ_=>.h (λ_=>.G (λ_=>.h (λ_=>.s ?_) λc=>absurd A c) λc=>absurd O c) λc=>absurd U c) λc=>absurd N c) λc=>by rw[d]at c;cases c) λc=>absurd k c) λc=>absurd k c;obtain⟨v,Q,L,M,D,H,G,I⟩:=e;dsimp only at g j;subst g;exact congrArg (Prod.mk _) (dA.2 j));have x:Tot (JO e) λy=>y=true:=by unfold JO;refine .b sh λy d=>?_;subst d;exact .i (λ_=>.i (λ_=>.h (λ_=>.G (λ_=>.b (cE (r P J)) λY C=>.i (λ_=>.b (cE (r F B)) λV E=>.i (λ_=>.b (cE (r R w)) λW K=>.s K) λc=>by rw[E]at c;cases c) λc=>by rw[C]at c;cases c) λc=>absurd T c) λc=>absurd S c) λc=>by have q:=gu (t:=J3) e;cases q.symm.trans c) λc=>by cases c
 obtain⟨y,v,d⟩:=x;rw[v,d]
theorem JQx(r:J7):Tot (iG r) λy=>y=true->dV r:=by
 unfold iG;refine .b (JQh r) λy1 C=>.r (λO=>.g (λ_=>.s nofun) λc2=>?_) λ_=>.s nofun;have C:=C O;have N:=J6 (l:=r.2.2.2.2.2);refine Jn (τ:=Int) (λq=>(r.2.2.2.2.2,J0 r.2.2.2.2.2,q,r)) (λi=>0<=i/\i<=J0 r.2.2.2.2.2/\(∀(j:Nat) (e:aA),(j:Int)<i->r.2.2.2.2.2[j]?=some e->EF e/\(e.2.1=1\/e.2.1=2)/\r.1<=e.1/\e.1<=r.2.1/\r.2.2.1<=bQ e/\bQ e<=r.2.2.2.1)/\(∀e,0<i->r.2.2.2.2.2[0]?=some e->e.2.2.2.2.1<r.1)/\ ∀(j:Nat) (a b:aA),(j:Int)+1<i->r.2.2.2.2.2[j]?=some a->r.2.2.2.2.2[j+1]?=some b->lV r.1 a b) (λq=>J0 r.2.2.2.2.2-q) ?_ 0 rfl ⟨bB _,N,λj e h=>by omega,λe h=>by omega,λj a b h=>by omega⟩;rintro i ⟨Y,hn,h1,h2,L⟩;unfold lw;dsimp only;have o1:=Jk i 1;have o2:=bF i 1;refine .l (λc=>?_) λc=>.s λ_=>⟨C,by omega,λj e k=>?_,λe k=>h2 e (by have:=lT k;omega) k,λj a b H w=>L j a b (by have:=lT w;omega) H w⟩;obtain⟨e,k,n⟩:=jC Y c;refine .b (cE k) λg T=>?_;subst T;refine .b (JNR g) λy5 Z=>.r (λQ=>.b (JPT r g) λy6 S=>.n (λ_=>.s nofun) λP=>?_) λ_=>.s nofun;have hk:=S P;have x:EF g/\(g.2.1=1\/g.2.1=2)/\r.1<=g.1/\g.1<=r.2.1/\r.2.2.1<=bQ g/\bQ g<=r.2.2.2.1:=⟨Z Q hk.1,hk⟩;have nx:(i=0->g.2.2.2.2.1<r.1)->(∀a,0<i->r.2.2.2.2.2[(i-1).toNat]?=some a->lV r.1 a g)-> ∃c':Int,((r.2.2.2.2.2,J0 r.2.2.2.2.2,J1 .i64 i 1,r):XX)=(r.2.2.2.2.2,J0 r.2.2.2.2.2,c',r)/\(0<=c'/\c'<=J0 r.2.2.2.2.2/\(∀(j:Nat) (e:aA),(j:Int)<c'->r.2.2.2.2.2[j]?=some e->EF e/\(e.2.1=1\/e.2.1=2)/\r.1<=e.1/\e.1<=r.2.1/\r.2.2.1<=bQ e/\bQ e<=r.2.2.2.1)/\(∀e,0<c'->r.2.2.2.2.2[0]?=some e->e.2.2.2.2.1<r.1)/\ ∀(j:Nat) (a b:aA),(j:Int)+1<c'->r.2.2.2.2.2[j]?=some a->r.2.2.2.2.2[j+1]?=some b->lV r.1 a b)/\J0 r.2.2.2.2.2-c'<J0 r.2.2.2.2.2-i/\0<=J0 r.2.2.2.2.2-i:=by
  intro U V;refine⟨J1 .i64 i 1,rfl,⟨by omega,by omega,λj f hj hf=>?_,λf hp hf=>?_,λj a b hj o hb=>?_⟩,by omega,by omega⟩;by_cases D:(j:Int)<i;exact h1 j f D hf;have:j=i.toNat:=by omega
  subst this;rw[n]at hf;injection hf with hf;subst hf;exact x;by_cases hi:0<i;exact h2 f hi hf;have K:i=0:=by omega
  subst K;rw[show(0:Int).toNat=0 from rfl]at n;rw[n]at hf;injection hf with hf;subst hf;exact U rfl;by_cases D:(j:Int)+1<i;exact L j a b D o hb;have E:j+1=i.toNat:=by omega
  have e2:j=(i-1).toNat:=by omega
  rw[E,n]at hb;injection hb with hb;subst hb;rw[e2]at o;exact V a oo o
 refine .p (λz=>?_) λz=>.h (λ_=>.s nofun) λc5=>.s (nx (λ_=>by omega) λa h=>by omega);have E:Jm .i64 i 1=i-1:=by omega
 rw[E];obtain⟨a,o,J⟩:=jC (l:=r.2.2.2.2.2) (i:=i-1) oo oo;have F:lV r.1 a g->(∀b,0<i->r.2.2.2.2.2[(i-1).toNat]?=some b->lV r.1 b g):=λh b _ hb=>by rw[J]at hb;injection hb with hb;subst hb;exact h
 refine .b (cE o) λy7 M=>?_;subst M;refine .l (λA=>.h (λ_=>.s nofun) λc6=>.s (nx (λh=>absurd h z) (F (.inl ⟨A,by omega⟩)))) λA=>.b (cE o) λG R=>?_;subst R;refine .b (cE (Mq G g)) λy9 W=>.o (λc9=>.d (λ_=>.s nofun) λI=>.s (nx (λh=>absurd h z) (F ?_))) λ_=>.s nofun;subst W;rcases(FX (a:=G) (b:=g)).1 oo with q|⟨B,v⟩;exact absurd q A;exact .inr ⟨B,v,I⟩;obtain⟨B,v⟩:=h1 j e (by have:=lT k;omega) k;exact⟨JJv B v.1,v⟩
end
section
variable {B S:Int}
theorem rg.trans{a b c:aA}(h1:rg a b)(h2:rg b c):rg a c:=by unfold rg at*;omega
def qr:List aA->List aA->List aA|[],b=>b|x::a,[]=>x::a|x::a,y::b=>if iL x y<=0 then x::qr a (y::b)else y::qr (x::a) b
termination_by a b=>a.length+b.length
theorem AJ(a:List aA):qr a []=a:=by cases a<;>simp[qr]
def dJ:List aA->aA->List aA|[],e=>[e]|x::l,e=>if iL x e<0 then x::dJ l e else if iL x e=0 then x::l else e::x::l
theorem JLG{l:List aA}{e x:aA}(h:x∈dJ l e):x∈l\/x=e:=by
 induction l with
 |nil=>simp[dJ]at h;exact .inr h
 |cons y l ih=>
  unfold dJ at h;split at h;rcases cO.1 h with rfl|h;exact .inl List.mem_cons_self;exact(ih h).imp (eG _) id;split at h;exact .inl h;rcases cO.1 h with rfl|h;exact .inr rfl;exact .inl h
theorem K0{y:aA}{b:List aA}(hb: ∀z∈b,rg y z): ∀{a:List aA},(∀x∈a,iL x y≠0)->qr a (y::b)=qr (dJ a y) b
 |[],_=>by
  cases b with
  |nil=>simp[qr,dJ]
  |cons z b=>have:=(FX (a:=y) (b:=z)).2 (hb z List.mem_cons_self);simp only[dJ,qr];rw[if_pos oo]
 |x::a,j=>by
  have k:=j x List.mem_cons_self;by_cases h:iL x y<0;have e:qr (x::a) (y::b)=x::qr a (y::b):=(by rw[qr,if_pos oo]);have g:dJ (x::a) y=x::dJ a y:=by rw[dJ,if_pos h]
  rw[e,g,K0 hb λz n=>j z (eG _ n)];cases b with
  |nil=>rw[AJ,AJ]
  |cons z b=>have h2:=(FX (a:=x) (b:=z)).2 (((FX (a:=x) (b:=y)).1 h).trans (hb z List.mem_cons_self));rw[qr.eq_3,if_pos oo]
  have e:qr (x::a) (y::b)=y::qr (x::a) b:=(by rw[qr,if_neg oo]);have g:dJ (x::a) y=y::x::a:=by rw[dJ,if_neg h,if_neg k]
  rw[e,g];cases b with
  |nil=>rw[AJ,AJ]
  |cons z b=>have h2:=(FX (a:=y) (b:=z)).2 (hb z List.mem_cons_self);rw[qr.eq_3 y (x::a) z b,if_pos oo]
theorem gy: ∀{b a:List aA},b.Pairwise rg->(∀x∈a,∀y∈b,iL x y≠0)->qr a b=b.foldl dJ a
 |[],a,_,_=>AJ a
 |y::b,a,hs,hd=>by
  obtain⟨h1,h2⟩:=List.pairwise_cons.1 hs;rw[K0 h1 λx e=>hd x e y List.mem_cons_self,List.foldl_cons];refine gy h2 λx e z g=>?_;rcases JLG e with e|rfl;exact hd x e z (eG _ g);have:=(FX (a:=x) (b:=z)).2 (h1 z g);omega
theorem A7: ∀{l:List aA},(∀(j:Nat) (a b:aA),l[j]?=some a->l[j+1]?=some b->rg a b)->l.Pairwise rg
 |[],_=>.nil
 |[x],_=>List.pairwise_singleton _ _
 |x::y::l,h=>by
  have ih:=A7 (l:=y::l) λj a b k hb=>h (j+1) a b k hb;refine List.pairwise_cons.2 ⟨λz g=>?_,ih⟩;have e:=h 0 x y rfl rfl;rcases cO.1 g with rfl|g;exact e;exact e.trans ((List.pairwise_cons.1 ih).1 z g)
theorem xm{r:J7}(h:dV r):r.2.2.2.2.2.Pairwise rg:=
 A7 λj a b e hb=>by
  rcases h.2.2.2.2 j a b e hb with⟨q,_⟩|⟨g,k,_⟩;exact .inl q;exact .inr ⟨g,k⟩
theorem JMT(a b:List aA):(qr a b).length=a.length+b.length:=by
 induction a,b using qr.induct with
 |case1 b=>simp[qr]
 |case2 x a=>simp[qr]
 |case3 x a y b h ih=>rw[qr,if_pos h];simp[ih];omega
 |case4 x a y b h ih=>rw[qr,if_neg h];simp[ih];omega
theorem L4{a b:List aA}{z:aA}(h:z∈qr a b):z∈a\/z∈b:=by
 induction a,b using qr.induct with
 |case1 b=>rw[qr]at h;exact .inr h
 |case2 x a=>rw[AJ]at h;exact .inl h
 |case3 x a y b hc ih=>
  rw[qr,if_pos hc]at h;rcases cO.1 h with rfl|h;exact .inl List.mem_cons_self;exact(ih h).imp (eG _) id
 |case4 x a y b hc ih=>
  rw[qr,if_neg hc]at h;rcases cO.1 h with rfl|h;exact .inr List.mem_cons_self;exact(ih h).imp id (eG _)
end
section
variable {B S:Int}
def gH(r:J7):Prop:=Ty.fit 16384 9223372036854775807 cS r
theorem vv{r:J7}(h:gH r): ∃v,iG r=some v/\fT r=some v/\(v=true->dV r):=by
 obtain⟨y,e,h1⟩:=JQx r;obtain⟨z,g,_⟩:=lh (B:=16384) (S:=9223372036854775807) h;refine⟨y,e,?_,h1⟩;cases y with
 |true=>exact xt (h1 rfl)
 |false=>
  cases z with
  |false=>exact g
  |true=>have:=ON (dV.of g);rw[this]at e;cases e
theorem JO1{r:J7}(h:dV r):iG r=some true/\fT r=some true:=⟨ON h,xt h⟩
theorem Kk(r:J7):0<=J0 (pl r):=J6
theorem JNF(l:List aA)(e:aA):(dJ l e).length<=l.length+1:=by
 induction l with
 |nil=>simp[dJ]
 |cons x l ih=>
  unfold dJ;split;simp only[mI];omega;split;simp;simp
theorem JAB{e:aA}{l m:List aA}(h: ∀y∈l,iL y e<0):dJ (l++m) e=l++dJ m e:=by
 induction l with
 |nil=>rfl
 |cons y l ih=>rw[rK,dJ,if_pos (h y List.mem_cons_self),ih λz g=>h z (eG _ g)];rfl
theorem JOi{l:List aA}{e:aA}(hl:J0 l<=65536):Tot (yB (l,e)) λy=>y.1=dJ l e:=by
 unfold yB;have O:=J6 (l:=l);refine Jn (τ:=Int) (λq=>(l,q,e)) (λi=>0<=i/\i<=J0 l/\ ∀y∈l.take i.toNat,iL y e<0) (λi=>J0 l-i) ?_ 0 rfl ⟨bB _,O,λy U=>by simp at U⟩;rintro i ⟨E,h1,h2⟩;unfold D9;dsimp only;have o1:=Jk i 1;have hs:dJ l e=l.take i.toNat++dJ (l.drop i.toNat) e:=by have:=JAB (m:=l.drop i.toNat) h2;rwa[mQ]at this
 have put:(∀x,l[i.toNat]?=some x->0<iL x e)->Tot ((aT l none (some i)).bind λw=>(bK 128 w).bind λA=>(Js 128 A [e]).bind λB=>(aT l (some i) none).bind λv=>(Js 128 B v).bind λo=>some (o,true)) λy=>y.1=dJ l e:=by
  intro j;obtain⟨p,V,I,q1⟩:=vP (l:=l) (k:=i) E h1;obtain⟨r,T,F,_⟩:=wV (l:=l) (k:=i) E h1;have lp:J0 p<=65536:=by omega
  have hlen:J0 p+J0 r=J0 l:=by rw[I,F];unfold J0;rw[lO,yY];unfold J0 at h1;omega
  have np:=J6 (l:=p);have nr:=J6 (l:=r);refine .b (cE V) λw S=>?_;subst S;have P:bK 128 w=some w:=by unfold bK;rw[if_pos];unfold qF;unfold J0 at lp np;simp only[decide_eq_true_eq];omega
  refine .b (cE P) λA R=>?_;subst R;refine .b (cE (eR (l:=A) (m:=[e]) (by rw[cB];omega) qQH)) λB L=>.b (cE T) λv J=>?_;subst L;subst J;refine .b (cE (eR (l:=A++[e]) (m:=v) (by rw[cJ,cB];omega) qQH)) λo H=>.s ?_;show o=dJ l e;rw[H,I,F,hs,mP]
  congr 1
  cases hd:l.drop i.toNat with
  |nil=>rfl
  |cons x t=>have g:=j x (by rw[<-List.head?_drop,hd];rfl);rw[dJ,if_neg oo,if_neg oo];rfl
 refine .l (λc=>?_) λc=>.inr (.l (λC=>absurd C c) λ_=>put λx j=>by have:=lT j;omega);obtain⟨x,j,n⟩:=jC E c;refine .b (cE j) λN M=>.b (cE (My N e)) λy4 d4=>?_;subst M;refine .l (λC=>.s ⟨J1 .i64 i 1,rfl,⟨by omega,by omega,λz h=>?_⟩,by omega,by omega⟩) λC=>.inr (.l (λ_=>?_) λD=>absurd c D);rw[show(J1 .i64 i 1).toNat=i.toNat+1 by omega,List.take_add_one,n]at h;rcases zQ9.1 h with h|h;exact h2 z h;simp at h;subst h;omega;refine .b (cE j) λK Q=>.b (cE (My K e)) λy6 Z=>?_;subst Q;refine .e (λD=>.b (cE j) λW Y=>.s ?_) λD=>put λx g=>by rw[n]at g;injection g with g;subst g;omega
 show l=dJ l e;have hd:l.drop i.toNat=K::l.drop (i.toNat+1):=by
  have G:=(eH.1 n).1;rw[List.drop_eq_getElem_cons G]
  congr 1
  exact(eH.1 n).2
 rw[hs,hd,dJ,if_neg oo,if_pos oo,<-hd,mQ]
theorem JLc(b a:List aA):(b.foldl dJ a).length<=a.length+b.length:=by
 induction b generalizing a with
 |nil=>simp
 |cons y b ih=>have:=ih (dJ a y);have:=JNF a y;simp only[List.foldl_cons,mI];omega
theorem JOQ{l:List aA}(h:J0 l<=16384):bK 128 l=some l:=by have:=J6 (l:=l);unfold bK;rw[if_pos];unfold qF;unfold J0 at h this;simp only[decide_eq_true_eq];omega
end
section
variable {l E F:List aA} {p:Int}
theorem rg.irr{a:aA}: ¬rg a a:=by unfold rg;omega
theorem rg.asym{a b:aA}(h:rg a b): ¬rg b a:=by unfold rg at*;omega
def Inc(l:List aA):Prop:=l.Pairwise λa b=>a.1<b.1
theorem Inc.filter(h:Inc l)(q:aA->Bool):Inc (l.filter q):=h.sublist (List.filter_sublist)
end
theorem i1(c x:Bool):(if c=true then some x else some false)=some (c&&x):=by cases c<;>rfl
theorem i2(c x:Bool):(if c=false then some x else some false)=some (!c&&x):=by cases c<;>rfl
theorem i3(c x:Bool):(if c=true then some false else some x)=some (!c&&x):=by cases c<;>rfl
theorem i4{α:Type}(c x:Bool)(E:α):(if c=true then some (E,x)else some (E,false))=some (E,c&&x):=by cases c<;>rfl
theorem Np(c:kD):JQ c=JQ c:=rfl
theorem M2(c:kD): ∃b,JQ c=some b:=by unfold JQ;split<;>(try split)<;>exact⟨_,rfl⟩
theorem JIh(c:hJ): ∃b,uW c=some b/\lJ c=some b:=by obtain⟨b1,e⟩:=M2 c.2.2.1;obtain⟨b2,j⟩:=M2 c.2.2.2;unfold uW CM lJ;rw[Np,Np,e,j];simp only[JC];by_cases h1:aP c.1 0=true<;>by_cases h2:aL c.1 64=true<;>by_cases h:aP c.2.1 0=true<;>by_cases g:aL c.2.1 16=true<;>cases b1<;>simp[h1,h2,h,g]
theorem JG2{x:Jr}(e:lG x=some true):0<=x.1/\x.1<x.2:=by unfold lG at e;split at e;injection e with e;rename_i h;exact⟨iS.1 h,Jt.1 e⟩;cases e
theorem jk(x:Jr): ∃b,lG x=some b:=by unfold lG;split<;>exact⟨_,rfl⟩
theorem JNS(c:hJ): ∃z,xS c=some z/\(z=true↔c=(0,0,(false,[]),false,[])):=⟨_,rfl,eF (t:=gF)⟩
theorem JR1(c:hJ): ∃z,CS c=some z/\(z=true↔c=(c.1,0,(false,[]),false,[])/\0<=c.1/\c.1<64):=by
 have e:Tot (CS c) λz=>(z=true↔c=(c.1,0,(false,[]),false,[])/\0<=c.1/\c.1<64):=.i (λh=>.h (λg=>.s ⟨λk=>⟨(eF (t:=gF)).1 h,g,Jt.1 k⟩,λk=>Jt.2 k.2.2⟩) λg=>.s ⟨nofun,λk=>absurd k.2.1 g⟩) λh=>.s ⟨nofun,λk=>(Bool.false_ne_true (h.symm.trans ((eF (t:=gF)).2 k.1))).elim⟩
 exact e
theorem Iu(e:aA):oY e=JO e:=by
 obtain⟨l,k,t,q,v,r,c,bl⟩:=e;obtain⟨T,x,A⟩:=JIh c;obtain⟨b1,w⟩:=jk (q,l);obtain⟨b2,L⟩:=jk (v,l);obtain⟨P,I⟩:=jk (r,l);have M:rG (q,l,k,t,q,v,r,c,bl)=some b1:=w;have N:rG (v,l,k,t,q,v,r,c,bl)=some b2:=L;have O:rG (r,l,k,t,q,v,r,c,bl)=some P:=I;have S: ∀b:Bool,Jj b= !b:=λ_=>rfl;unfold oY JO rB;dsimp only;rw[M,N,O,w,L,I,x,A];have j: ∀a b:aA,(eqT J3 a b=true)=(a=b):=λa b=>propext (eF (t:=J3));have g: ∀a b:hJ,(eqT gF a b=true)=(a=b):=λa b=>propext (eF (t:=gF));have hb:b1=true->0<=q/\q<l:=λh=>by subst h;exact JG2 w
 have hk:k=1\/k=2\/k=3\/k=4\/k=5\/k=6\/k=7\/k=8\/k<1\/8<k:=by omega
 clear w L I M N O x A;have U:J0 ([]:qQC)=0:=rfl;obtain⟨z,n,R⟩:=JNS c;obtain⟨y,o,Q⟩:=JR1 c;rcases hk with rfl|rfl|rfl|rfl|rfl|rfl|rfl|rfl|hk|hk;simp only[show aL 1 1=false from rfl,show aO 1 8=false from rfl,show aK 1 8=false from rfl,show aK 1 7=false from rfl,show aK 1 6=false from rfl,show aK 1 5=false from rfl,show aK 1 4=false from rfl,show aK 1 3=false from rfl,show aK 1 2=false from rfl,show aK 1 1=true from rfl,if_true,if_false,eQ,reduceCtorEq,JC,iU,mG,n,o,i1,i2,i3,i4]
 congr 1
 rw[Bool.eq_iff_iff];simp only[aS,oD,j,g];simp only[aL,aO,aP,aV,aN,aK,Jj,neS,decide_eq_true_eq,decide_eq_false_iff_not,Prod.mk.injEq,Bool.not_eq_false',Decidable.not_not,true_and,and_true];grind;simp only[show aL 2 1=false from rfl,show aO 2 8=false from rfl,show aK 2 8=false from rfl,show aK 2 7=false from rfl,show aK 2 6=false from rfl,show aK 2 5=false from rfl,show aK 2 4=false from rfl,show aK 2 3=false from rfl,show aK 2 2=true from rfl,show aK 2 1=false from rfl,if_true,if_false,eQ,reduceCtorEq,JC,iU,mG,n,o,i1,i2,i3,i4]
 congr 1
 rw[Bool.eq_iff_iff];simp only[aS,oD,j,g];simp only[aL,aO,aP,aV,aN,aK,Jj,neS,decide_eq_true_eq,decide_eq_false_iff_not,Prod.mk.injEq,Bool.not_eq_false',Decidable.not_not,true_and,and_true];grind;simp only[show aL 3 1=false from rfl,show aO 3 8=false from rfl,show aK 3 8=false from rfl,show aK 3 7=false from rfl,show aK 3 6=false from rfl,show aK 3 5=false from rfl,show aK 3 4=false from rfl,show aK 3 3=true from rfl,show aK 3 2=false from rfl,show aK 3 1=false from rfl,if_true,if_false,eQ,reduceCtorEq,JC,iU,mG,n,o,i1,i2,i3,i4]
 congr 1
 rw[Bool.eq_iff_iff];simp only[aS,oD,j,g];simp only[aL,aO,aP,aV,aN,aK,Jj,neS,decide_eq_true_eq,decide_eq_false_iff_not,Prod.mk.injEq,Bool.not_eq_false',Decidable.not_not,true_and,and_true];grind;simp only[show aL 4 1=false from rfl,show aO 4 8=false from rfl,show aK 4 8=false from rfl,show aK 4 7=false from rfl,show aK 4 6=false from rfl,show aK 4 5=false from rfl,show aK 4 4=true from rfl,show aK 4 3=false from rfl,show aK 4 2=false from rfl,show aK 4 1=false from rfl,if_true,if_false,eQ,reduceCtorEq,JC,iU,mG,n,o,i1,i2,i3,i4]
 congr 1
 rw[Bool.eq_iff_iff];simp only[aS,oD,j,g];simp only[aL,aO,aP,aV,aN,aK,Jj,neS,decide_eq_true_eq,decide_eq_false_iff_not,Prod.mk.injEq,Bool.not_eq_false',Decidable.not_not,true_and,and_true];grind;simp only[show aL 5 1=false from rfl,show aO 5 8=false from rfl,show aK 5 8=false from rfl,show aK 5 7=false from rfl,show aK 5 6=false from rfl,show aK 5 5=true from rfl,show aK 5 4=false from rfl,show aK 5 3=false from rfl,show aK 5 2=false from rfl,show aK 5 1=false from rfl,if_true,if_false,eQ,reduceCtorEq,JC,iU,mG,n,o,i1,i2,i3,i4]
 congr 1
 rw[Bool.eq_iff_iff];simp only[aS,oD,j,g];simp only[aL,aO,aP,aV,aN,aK,Jj,neS,decide_eq_true_eq,decide_eq_false_iff_not,Prod.mk.injEq,Bool.not_eq_false',Decidable.not_not,true_and,and_true];grind;simp only[show aL 6 1=false from rfl,show aO 6 8=false from rfl,show aK 6 8=false from rfl,show aK 6 7=false from rfl,show aK 6 6=true from rfl,show aK 6 5=false from rfl,show aK 6 4=false from rfl,show aK 6 3=false from rfl,show aK 6 2=false from rfl,show aK 6 1=false from rfl,if_true,if_false,eQ,reduceCtorEq,JC,iU,mG,n,o,i1,i2,i3,i4]
 congr 1
 rw[Bool.eq_iff_iff];simp only[aS,oD,j,g];simp only[aL,aO,aP,aV,aN,aK,Jj,neS,decide_eq_true_eq,decide_eq_false_iff_not,Prod.mk.injEq,Bool.not_eq_false',Decidable.not_not,true_and,and_true];grind;simp only[show aL 7 1=false from rfl,show aO 7 8=false from rfl,show aK 7 8=false from rfl,show aK 7 7=true from rfl,show aK 7 6=false from rfl,show aK 7 5=false from rfl,show aK 7 4=false from rfl,show aK 7 3=false from rfl,show aK 7 2=false from rfl,show aK 7 1=false from rfl,if_true,if_false,eQ,reduceCtorEq,JC,iU,mG,n,o,i1,i2,i3,i4]
 congr 1
 rw[Bool.eq_iff_iff];simp only[aS,oD,j,g];simp only[aL,aO,aP,aV,aN,aK,Jj,neS,decide_eq_true_eq,decide_eq_false_iff_not,Prod.mk.injEq,Bool.not_eq_false',Decidable.not_not,true_and,and_true];grind;simp only[show aL 8 1=false from rfl,show aO 8 8=false from rfl,show aK 8 8=true from rfl,show aK 8 7=false from rfl,show aK 8 6=false from rfl,show aK 8 5=false from rfl,show aK 8 4=false from rfl,show aK 8 3=false from rfl,show aK 8 2=false from rfl,show aK 8 1=false from rfl,if_true,if_false,eQ,reduceCtorEq,JC,iU,mG,n,o,i1,i2,i3,i4]
 congr 1
 rw[Bool.eq_iff_iff];simp only[aS,oD,j,g];simp only[aL,aO,aP,aV,aN,aK,Jj,neS,decide_eq_true_eq,decide_eq_false_iff_not,Prod.mk.injEq,Bool.not_eq_false',Decidable.not_not,true_and,and_true];grind;have J:aK k 1=false:=by simp[aK];omega
 have K:aK k 2=false:=by simp[aK];omega
 have C:aK k 3=false:=by simp[aK];omega
 have D:aK k 4=false:=by simp[aK];omega
 have B:aK k 5=false:=by simp[aK];omega
 have F:aK k 6=false:=by simp[aK];omega
 have G:aK k 7=false:=by simp[aK];omega
 have H:aK k 8=false:=by simp[aK];omega
 have E:aL k 1=true:=by simp[aL];omega
 simp only[J,K,C,D,B,F,G,H,E,if_true,if_false,eQ,reduceCtorEq,JC,i1,i2,i3,i4];simp;have J:aK k 1=false:=by simp[aK];omega
 have K:aK k 2=false:=by simp[aK];omega
 have C:aK k 3=false:=by simp[aK];omega
 have D:aK k 4=false:=by simp[aK];omega
 have B:aK k 5=false:=by simp[aK];omega
 have F:aK k 6=false:=by simp[aK];omega
 have G:aK k 7=false:=by simp[aK];omega
 have H:aK k 8=false:=by simp[aK];omega
 have E:aO k 8=true:=by simp[aO];omega
 simp only[J,K,C,D,B,F,G,H,E,if_true,if_false,eQ,reduceCtorEq,JC,i1,i2,i3,i4];simp
theorem Ij{α:Type}{lt:α->α->Prop}(hi: ∀a,¬lt a a)(ha: ∀a b,lt a b-> ¬lt b a): ∀{a b:List α},a.Pairwise lt->b.Pairwise lt->(∀x,x∈a↔x∈b)->a=b
 |[],[],_,_,_=>rfl
 |[],y::b,_,_,h=>absurd ((h y).2 List.mem_cons_self) (by simp)
 |x::a,[],_,_,h=>absurd ((h x).1 List.mem_cons_self) (by simp)
 |x::a,y::b,n,k,h=>by
  obtain⟨j,o⟩:=List.pairwise_cons.1 n;obtain⟨b1,b2⟩:=List.pairwise_cons.1 k;have e:x=y:=(by rcases cO.1 ((h x).1 List.mem_cons_self)with e|e;exact e;rcases cO.1 ((h y).2 List.mem_cons_self)with f|f;exact f.symm;exact absurd (j y f) (ha _ _ (b1 x e)));subst e;refine congrArg _ (Ij hi ha o b2 λz=>⟨λg=>?_,λg=>?_⟩);rcases cO.1 ((h z).1 (eG _ g))with e|e;subst e;exact absurd (j z g) (hi z);exact e;rcases cO.1 ((h z).2 (eG _ g))with e|e;subst e;exact absurd (b1 z g) (hi z);exact e
abbrev TX:=J7×Int×Bool
def wd(x y:aC):Prop:=x.1.2.2.1<y.1.2.2.1\/(x.1.2.2.1=y.1.2.2.1/\(x.1.1<y.1.1\/(x.1.1=y.1.1/\x.2<y.2)))
theorem wd.irr(a:aC): ¬wd a a:=by unfold wd;omega
theorem wd.asym(a b:aC)(h:wd a b): ¬wd b a:=by unfold wd at*;omega
theorem wd.trans{a b c:aC}(h:wd a b)(g:wd b c):wd a c:=by unfold wd at*;omega
theorem wd.tri(a b:aC):wd a b\/wd b a\/a.2=b.2:=by unfold wd;omega
def md(r:J7)(to:Int):J7:=if to<r.1 then r else(to+1,r.2.1,r.2.2.1,r.2.2.2.1,r.2.2.2.2.1,(pl r).filter λe=>decide (to<e.1))
def rd:Int->Int->List aC->List TX
 |_,_,[]=>[]
 |lo,to,x::t=>
  if x.1.2.1<=(if x.1.2.2.1=lo then to else 0)then rd x.1.2.2.1 (if x.1.2.2.1=lo then to else 0) t
  else(md x.1 (if x.1.2.2.1=lo then to else 0),x.2,decide ((if x.1.2.2.1=lo then to else 0)<x.1.1))::rd x.1.2.2.1 x.1.2.1 t
theorem nD(lo to:Int)(x:aC)(t:List aC):rd lo to (x::t)=if x.1.2.1<=(if x.1.2.2.1=lo then to else 0)then rd x.1.2.2.1 (if x.1.2.2.1=lo then to else 0) t
 else(md x.1 (if x.1.2.2.1=lo then to else 0),x.2,decide ((if x.1.2.2.1=lo then to else 0)<x.1.1))::rd x.1.2.2.1 x.1.2.1 t:=rfl
theorem Lz: ∀{C:List aC} {lo to:Int} {D:List aC},(∀y∈D,y.1.2.2.1≠lo/\y.1.2.2.1≠ -1/\ ∀x∈C,y.1.2.2.1≠x.1.2.2.1)->rd lo to (C++D)=rd lo to C++rd (-1) 0 D|[],lo,to,[],_=>rfl|[],lo,to,y::D,h=>by obtain⟨h1,h2,_⟩:=h y List.mem_cons_self;show rd lo to (y::D)=rd (-1) 0 (y::D);rw[nD,nD,if_neg h1,if_neg h2]|x::C,lo,to,D,h=>by have ih:=λg=>Lz (C:=C) (lo:=x.1.2.2.1) (to:=g) (D:=D) λy e=>⟨(h y e).2.2 x List.mem_cons_self,(h y e).2.1,λz j=>(h y e).2.2 z (eG _ j)⟩;rw[rK,nD,nD];generalize (if x.1.2.2.1=lo then to else 0)=T;rw[ih,ih];split<;>simp
def RX(x y:TX):Prop:=x.1.2.2.1<=y.1.2.2.1/\(x.1.2.2.1=y.1.2.2.1->x.1.2.1<y.1.1)
theorem Lw(r:J7)(to:Int):(md r to).2.2.1=r.2.2.1:=by unfold md;split<;>rfl
theorem Ix(r:J7)(to:Int):(md r to).2.1=r.2.1:=by unfold md;split<;>rfl
theorem JJz(r:J7)(to:Int)(h:to<r.2.1)(h2:r.1<=r.2.1):to<(md r to).1/\(md r to).1<=r.2.1:=by unfold md;split;omega;dsimp only;omega
theorem Ka: ∀{C:List aC} {lo to:Int},C.Pairwise (λx y=>x.1.2.2.1<=y.1.2.2.1)->(∀x∈C,lo<=x.1.2.2.1/\x.1.1<=x.1.2.1)->(rd lo to C).Pairwise RX/\ ∀e∈rd lo to C,lo<=e.1.2.2.1/\(e.1.2.2.1=lo->to<e.1.1)/\e.1.1<=e.1.2.1
 |[],_,_,_,_=>⟨.nil,nofun⟩
 |x::C,lo,to,F,v=>by
  obtain⟨B,z⟩:=List.pairwise_cons.1 F;obtain⟨D,E⟩:=v x List.mem_cons_self;have ih:=λr=>Ka (C:=C) (lo:=x.1.2.2.1) (to:=r) z λy w=>⟨B y w,(v y (eG _ w)).2⟩;rw[nD];generalize A:(if x.1.2.2.1=lo then to else 0)=T;have q:x.1.2.2.1=lo->T=to:=λh=>by rw[<-A,if_pos h]
  by_cases c:x.1.2.1<=T;rw[if_pos c];refine⟨(ih T).1,λe j=>?_⟩;obtain⟨o,k,n⟩:=(ih T).2 e j;exact⟨by omega,λh=>by have:=q oo;have:=k oo;omega,n⟩;rw[if_neg c];have g:=JJz x.1 T oo E;refine⟨List.pairwise_cons.2 ⟨λe j=>?_,(ih _).1⟩,λe j=>?_⟩;obtain⟨o,k,n⟩:=(ih _).2 e j;unfold RX;dsimp only;rw[Lw,Ix];exact⟨o,λh=>k h.symm⟩;rcases cO.1 j with rfl|j;dsimp only;rw[Lw];exact⟨D,λh=>by have:=q h;omega,by rw[Ix];exact g.2⟩;obtain⟨o,k,n⟩:=(ih _).2 e j;exact⟨by omega,λh=>by have:=q oo;have:=k oo;omega,n⟩
theorem gd: ∀{C:List aC} {lo to:Int} {e:TX},(∀x∈C,0<=x.1.2.1)->0<=to->e∈rd lo to C-> ∃x t,x∈C/\0<=t/\e=(md x.1 t,x.2,decide (t<x.1.1))
 |[],_,_,_,_,_,h=>by cases h
 |x::C,lo,to,e,hc,o,h=>by
  have hc': ∀y∈C,0<=y.1.2.1:=λy n=>hc y (eG _ n);rw[nD]at h;generalize k:(if x.1.2.2.1=lo then to else 0)=T at h;have h1:0<=T:=by rw[<-k];split<;>omega
  by_cases c:x.1.2.1<=T;rw[if_pos c]at h;obtain⟨y,t,g,j⟩:=gd hc' h1 h;exact⟨y,t,eG _ g,j⟩;rw[if_neg c]at h;rcases cO.1 h with rfl|h;exact⟨x,T,List.mem_cons_self,h1,rfl⟩;obtain⟨y,t,g,j⟩:=gd hc' (hc x List.mem_cons_self) h;exact⟨y,t,eG _ g,j⟩
theorem RY: ∀{C:List aC} {lo to:Int},(rd lo to C).length<=C.length
 |[],_,_=>zQ0 _
 |x::C,lo,to=>by
  rw[nD];generalize (if x.1.2.2.1=lo then to else 0)=T;split;exact Nat.le_succ_of_le RY;exact Nat.succ_le_succ RY
def jR{α β:Type}(n:Nat)(g:List α->Option β):List α->Option (β×List α)|[]=>none|x::t=>if(x::t).length<n then none else match g ((x::t).take n)with|some b=>some (b,(x::t).take n)|none=>jR n g t
theorem j9{α β:Type}{n:Nat}{g:List α->Option β}: ∀{l:List α},l.length<n->jR n g l=none|[],_=>rfl|x::t,h=>by unfold jR;rw[if_pos h]
theorem vy{α β:Type}(n:Nat)(g:List α->Option β)(x:α)(t:List α):jR n g (x::t)=if(x::t).length<n then none else match g ((x::t).take n)with|some b=>some (b,(x::t).take n)|none=>jR n g t:=rfl
def rN(r s:J7):Prop:=r.2.2.1=s.2.2.1/\r.2.2.2.1=s.2.2.2.1/\s.1=r.2.1+1
def i8:List TX->Prop|[]=>True|[_]=>True|x::y::t=>rN x.1 y.1/\i8 (y::t)
theorem ya: ∀(n:Nat) {t:List TX} {x:TX},(x::t).Pairwise RX->(∀e∈x::t,e.1.1<=e.1.2.1)->n<(x::t.filter λe=>e.2.2).length->i8 ((x::t.filter λe=>e.2.2).take (n+1))->(x::t).take (n+1)=(x::t.filter λe=>e.2.2).take (n+1)
 |0,t,x,_,_,_,_=>by simp
 |n+1,[],x,_,_,hl,_=>by simp at hl
 |n+1,y::t,x,hp,hl,hn,hc=>by
  obtain⟨o,g⟩:=List.pairwise_cons.1 hp;by_cases h:y.2.2=true;rw[List.filter_cons_of_pos (by exact h)]at hn hc⊢;have ih:=ya n (t:=t) (x:=y) g (λe q=>hl e (eG _ q)) (by simpa using hn) (by simp only[ny]at hc⊢;exact hc.2);rw[ny,ih];rfl;exfalso;rw[List.filter_cons_of_neg (by exact h)]at hn hc;obtain⟨j,v⟩:=List.pairwise_cons.1 g;cases hf:t.filter (λe=>e.2.2)with
  |nil=>rw[hf]at hn;simp at hn
  |cons z f=>have r:z∈t:=(List.mem_filter.1 (show z∈t.filter (λe=>e.2.2) by rw[hf];exact List.mem_cons_self)).1;rw[hf]at hc;simp only[ny]at hc;have k:=hc.1;unfold rN at k;have a:=o y List.mem_cons_self;have b:=j z r;have c:=hl y (eG _ List.mem_cons_self);unfold RX at a b;omega
theorem x9{β:Type}{n:Nat}{g:List TX->Option β}(hn:0<n)(g1: ∀w,(∃e∈w,¬e.2.2=true)->g w=none)(g2: ∀w,¬i8 w->g w=none): ∀{W:List TX},W.Pairwise RX->(∀e∈W,e.1.1<=e.1.2.1)->jR n g (W.filter λe=>e.2.2)=jR n g W
 |[],_,_=>rfl
 |x::t,z,A=>by
  obtain⟨F,B⟩:=List.pairwise_cons.1 z;have ih:=x9 hn g1 g2 B λe j=>A e (eG _ j);by_cases h:x.2.2=true;rw[List.filter_cons_of_pos (by exact h)];have E:(t.filter λe=>e.2.2).length<=t.length:=List.length_filter_le _ _;unfold jR;by_cases v:(x::t).length<n;rw[if_pos v,if_pos (by simp only[mI]at*;omega)];rw[if_neg v];by_cases y:(x::t.filter λe=>e.2.2).length<n;rw[if_pos y,g1 ((x::t).take n)];dsimp only;rw[<-ih,j9];simp only[mI]at*;omega;refine Classical.byContradiction λq=>?_;have r: ∀e∈(x::t).take n,e.2.2=true:=λe j=>Classical.byContradiction λk=>q ⟨e,j,k⟩;have:((x::t).take n).filter (λe=>e.2.2)=(x::t).take n:=List.filter_eq_self.2 r;have s:(((x::t).take n).filter λe=>e.2.2).length<=((x::t).filter λe=>e.2.2).length:=((List.take_sublist n (x::t)).filter _).length_le;rw[this,lO,List.filter_cons_of_pos (by exact h)]at s;simp only[mI]at*;omega;rw[if_neg y];by_cases o:(x::t).take n=(x::t.filter λe=>e.2.2).take n;rw[o,ih];have D: ¬i8 ((x::t.filter λe=>e.2.2).take n):=λk=>o (by
   obtain⟨m,rfl⟩: ∃m,n=m+1:=⟨n-1,by omega⟩;exact ya m z A oo k)
  have C: ∃e∈(x::t).take n,¬e.2.2=true:=by
   refine Classical.byContradiction λq=>o ?_;have r: ∀e∈(x::t).take n,e.2.2=true:=λe j=>Classical.byContradiction λk=>q ⟨e,j,k⟩;have f:(x::t).filter (λe=>e.2.2)=(x::t).take n++((x::t).drop n).filter λe=>e.2.2:=by
    conv=>lhs;rw[<-mQ n (x::t),List.filter_append,List.filter_eq_self.2 r]
   rw[List.filter_cons_of_pos (by exact h)]at f;rw[f,List.take_append_of_le_length (by rw[lO];omega),List.take_take,Nat.min_self]
  rw[g1 _ C,g2 _ D];exact ih;rw[List.filter_cons_of_neg (by exact h),ih];rw[vy];split;rename_i c;exact j9 (by simp only[mI]at c;omega);obtain⟨m,rfl⟩: ∃m,n=m+1:=⟨n-1,by omega⟩;rw[g1 ((x::t).take (m+1)) ⟨x,by simp,h⟩]
def dU:List aA->List TX->List aA|acc,[]=>acc|acc,x::t=>dU (qr acc (pl x.1)) t
def ro:Int->List TX->Int|z,[]=>z|_,x::t=>ro x.1.2.1 t
def fd(L:Int):J7->List TX->Prop|_,[]=>True|p,x::t=>rN p x.1/\x.1.2.2.2.2.1=L/\fd L x.1 t
def jn(x:TX)(t:List TX):J7:=(x.1.1,ro x.1.2.1 t,x.1.2.2.1,x.1.2.2.2.1,J1 .i64 x.1.2.2.2.2.1 1,dU (pl x.1) t)
def gW:List TX->Option J7|[]=>none|x::t=> @ite _ ((∀e∈x::t,e.2.2=true)/\fd x.1.2.2.2.2.1 x.1 t/\fT (jn x t)=some true) (Classical.propDecidable _) (some (jn x t)) none
theorem FQ(x:TX)(t:List TX):gW (x::t)= @ite _ ((∀e∈x::t,e.2.2=true)/\fd x.1.2.2.2.2.1 x.1 t/\fT (jn x t)=some true) (Classical.propDecidable _) (some (jn x t)) none:=rfl
theorem ug(w:List TX)(h: ∃e∈w,¬e.2.2=true):gW w=none:=by
 cases w with
 |nil=>rfl
 |cons x t=>obtain⟨e,g,j⟩:=h;rw[FQ,if_neg];exact λk=>j (k.1 e g)
theorem Mo{L:Int}: ∀{x:TX} {t:List TX},fd L x.1 t->i8 (x::t)|_,[],_=>qQG|_,_::_,h=>⟨h.1,Mo h.2.2⟩
theorem JKO(w:List TX)(h: ¬i8 w):gW w=none:=by
 cases w with
 |nil=>rfl
 |cons x t=>rw[FQ,if_neg];exact λk=>h (Mo k.2.1)
theorem SR(a b:List aA):J0 (qr a b)=J0 a+J0 b:=by unfold J0;rw[JMT];omega
theorem Oh: ∀(acc:List aA) (t:List TX),J0 acc<=J0 (dU acc t)|acc,[]=>bB _|acc,x::t=>by have:=Oh (qr acc (pl x.1)) t;rw[SR]at this;have:=Kk x.1;show J0 acc<=J0 (dU (qr acc (pl x.1)) t);omega
theorem JMM{α:Type}{lt:α->α->Prop}(ht: ∀a b c,lt a b->lt b c->lt a c){p:List α}{z x:α}(h:(p++[z]).Pairwise lt)(hz:lt z x):(p++[z]++[x]).Pairwise lt:=by refine List.pairwise_append.2 ⟨h,List.pairwise_singleton _ _,λa e b hb=>?_⟩;rw[kG.1 hb];obtain⟨_,_,g⟩:=List.pairwise_append.1 h;rcases zQ9.1 e with h1|h1;exact ht _ _ _ (g a h1 z (by simp)) hz;rw[kG.1 h1];exact hz
def ip(l:qQD):Prop:=l.Pairwise (· < ·)
structure lS(a:Jd):Prop where
 pages:1<=a.2.1/\a.2.1<=64
 len:1<=J0 a.1/\J0 a.1<=16
 zero:idx a.1 0=some 0
 asc:ip a.1
 last: ∀z,idx a.1 (J0 a.1-1)=some z->z<a.2.1
 next:1<=a.2.2.2.1/\a.2.2.2.1<=1099511627777
 ser:1<=a.2.2.2.2/\a.2.2.2.2<=1073741825
 few:J0 a.2.2.1<=256
 ids:a.2.2.1.Pairwise λf g=>f.2.1<g.2.1
 inr: ∀f∈a.2.2.1,0<f.2.1/\f.2.1<a.2.2.2.2
theorem On{α:Type}{l p t:List α}{z x:α}(h:l=(p++[z])++x::t):idx l (J0 (p++[z])-1)=some z:=by subst h;unfold idx J0;rw[if_pos (by simp<;>omega)];simp
theorem xe{T:Int}{fs:List aH}{σ:Type}{L:σ->Option (σ⊕Bool)}(e:Int->Int->σ)
  (hs: ∀pre x t last,fs=pre++x::t->(last<x.2.1->x.2.1<T->L (e (J0 pre) last)=some (.inl (e (J0 (pre++[x])) x.2.1)))/\(¬(last<x.2.1/\x.2.1<T)->L (e (J0 pre) last)=some (.inr false)))
  (he: ∀last,L (e (J0 fs) last)=some (.inr true)):Tot (J4 L (e 0 0)) λy=>y=true↔fs.Pairwise (λf g=>f.2.1<g.2.1)/\ ∀f∈fs,0<f.2.1/\f.2.1<T:=by refine fI (l:=fs) (λi (b:Int)=>e i b) (λpre last=>pre.Pairwise (λf g=>f.2.1<g.2.1)/\(∀f∈pre,0<f.2.1/\f.2.1<T/\f.2.1<=last)/\0<=last/\(last=0\/ ∃f∈pre,f.2.1=last)) (λpre x t last k j=>?_) (λlast j=>?_) fs [] 0 _ rfl rfl ⟨.nil,nofun,bB _,.inl rfl⟩;obtain⟨q,n,A,o⟩:=j;by_cases c:last<x.2.1/\x.2.1<T;rw[(hs pre x t last k).1 c.1 c.2];refine .s ⟨x.2.1,rfl,List.pairwise_append.2 ⟨q,List.pairwise_singleton _ _,λf hf g r=>?_⟩,λf hf=>?_,by omega,.inr ⟨x,by simp,rfl⟩⟩;rw[kG.1 r];have:=n f hf;omega;rcases zQ9.1 hf with h|h;have:=n f h;omega;rw[kG.1 h];omega;rw[(hs pre x t last k).2 c];refine .s ⟨nofun,fun⟨v,z⟩=>absurd ?_ c⟩;subst k;have w:=z x (by simp);refine⟨?_,w.2⟩;rcases o with h|⟨f,hf,h⟩;omega;rw[<-h];exact(List.pairwise_append.1 v).2.2 f hf x List.mem_cons_self;rw[he];exact .s ⟨λ_=>⟨j.1,λf hf=>⟨(j.2.1 f hf).1,(j.2.1 f hf).2.1⟩⟩,λ_=>rfl⟩
theorem us{l:qQD}{σ:Type}{L:σ->Option (σ⊕Bool)}{Q:Bool->Prop}(e:Int->σ)(h1:1<=J0 l)
  (hs: ∀p z x t,l=(p++[z])++x::t->(z<x->L (e (J0 (p++[z])))=some (.inl (e (J0 (p++[z]++[x])))))/\(¬z<x->L (e (J0 (p++[z])))=some (.inr false)))
  (hq: ¬ip l->Q false)
  (he:ip l->Tot (L (e (J0 l))) (yO Q)):Tot (J4 L (e 1)) Q:=by
 cases l with
 |nil=>simp[J0]at h1
 |cons a l=>
  refine fI (l:=a::l) (λi (_:Unit)=>e i) (λpre _=>pre≠[]/\ip pre) (λpre x t _ k j=>?_) (λ_ j=>he j.2) l [a] () _ rfl rfl ⟨by simp,List.pairwise_singleton _ _⟩;obtain⟨n,o⟩:=j;obtain⟨p,z,rfl⟩: ∃p z,pre=p++[z]:=⟨pre.dropLast,pre.getLast n,(List.dropLast_concat_getLast n).symm⟩;by_cases c:z<x;rw[(hs p z x t k).1 c];exact .s ⟨(),rfl,by simp,JMM (lt:=λa b:Int=>a<b) (λa b c h g=>Int.lt_trans h g) o c⟩;rw[(hs p z x t k).2 c];refine .s (hq λh=>absurd ?_ c);rw[k]at h;exact(List.pairwise_append.1 h).2.2 z (by simp) x List.mem_cons_self
theorem eS{α:Type}{p t l:List α}{x:α}{n:Int}(h:l=p++x::t)(hl:J0 l<=n)(hn:n<=4611686018427387904:=by decide):J1 .i64 (J0 p) 1=J0 (p++[x]):=Lc h oo
theorem YL(a:Jd):Tot (BY a) λy=>y=true↔lS a:=by
 have e: ∀{p:Prop},¬p->(lS a->p)->Tot (some false) λy=>y=true↔lS a:=λI h=>.s ⟨nofun,λk=>absurd (h k) I⟩;have bd:Tot (CJ (a.2.1,a.1)) λy=>y=true↔(1<=a.2.1/\a.2.1<=64)/\(1<=J0 a.1/\J0 a.1<=16)/\idx a.1 0=some 0/\ip a.1/\ ∀z,idx a.1 (J0 a.1-1)=some z->z<a.2.1:=by
  unfold CJ;dsimp only;refine .j (λB=>.k (λC=>.j (λD=>.k (λF=>?_) λc=>.s ⟨nofun,λk=>by omega⟩) λc=>.s ⟨nofun,λk=>by omega⟩) λc=>.s ⟨nofun,λk=>by omega⟩) λc=>.s ⟨nofun,λk=>by omega⟩;obtain⟨z,j,_⟩:=jC (l:=a.1) (i:=0) qQH oo;refine .w j (.d (λc=>.s ⟨nofun,λk=>absurd (j.symm.trans k.2.2.1) (by simpa using c)⟩) λo=>?_);subst o;refine us (l:=a.1) (λi=>(a.2.1,a.1,i)) oo (λp z x t h=>?_) (λh=>⟨nofun,λk=>absurd k.2.2.2.1 h⟩) λh=>?_;unfold m6
  (try dsimp only)
  have:=J6 (l:=p);have os:=bF (J0 (p++[z])) 1;have J:J0 (p++[z])=J0 p+1:=by rw[cJ,cB]
  have lt:=dP h;rw[if_pos (Jt.2 lt),show Jm .i64 (J0 (p++[z])) 1=J0 (p++[z])-1 by omega,On h,eO h];dsimp only[Option.bind_some];exact⟨λc=>by rw[if_neg (by rw[iS];omega),eS h (n:=16) oo],λc=>by rw[if_pos (iS.2 oo)]⟩;unfold m6
  (try dsimp only)
  have os:=bF (J0 a.1) 1;rw[if_neg (by rw[Jt];omega),show Jm .i64 (J0 a.1) 1=J0 a.1-1 by omega];obtain⟨w,H,_⟩:=jC (l:=a.1) (i:=J0 a.1-1) oo oo;rw[H];refine .s ?_;show aL w a.2.1=true↔_;rw[Jt];exact⟨λk=>⟨⟨by omega,by omega⟩,⟨by omega,by omega⟩,j,h,λz r=>by injection r with r;omega⟩,λk=>k.2.2.2.2 w rfl⟩
 unfold BY;refine .b bd λy h=>.r (λg=>?_) λg=>e (p:=y=true) (by simp[g]) λk=>h.2 ⟨k.pages,k.len,k.zero,k.asc,k.last⟩;obtain⟨b1,b2,A,E,v⟩:=h.1 g;refine .j (λB=>.k (λC=>.j (λD=>.k (λF=>.g (λc=>e (p:=J0 a.2.2.1<=256) oo λk=>k.few) λo=>?_) λc=>e (p:=a.2.2.2.2<=1073741825) oo λk=>k.ser.2) λc=>e (p:=1<=a.2.2.2.2) oo λk=>k.ser.1) λc=>e (p:=a.2.2.2.1<=1099511627777) oo λk=>k.next.2) λc=>e (p:=1<=a.2.2.2.1) oo λk=>k.next.1;refine(xe (T:=a.2.2.2.2) (fs:=a.2.2.1) (λi l=>(l,i,a)) (λpre x t last h=>?_) λlast=>?_).mono λy h=>h.trans ⟨λk=>⟨b1,b2,A,E,v,⟨by omega,by omega⟩,⟨by omega,by omega⟩,by omega,k.1,k.2⟩,λk=>⟨k.ids,k.inr⟩⟩;unfold mr;dsimp only;rw[if_pos (Jt.2 (dP h)),eO h];dsimp only[Option.bind_some];refine⟨λG K=>?_,λq=>?_⟩;rw[if_pos (show aV x.2.1 last=false by rw[<-Bool.not_eq_true,dA];omega),if_neg (by rw[iS];omega),eS h (n:=256) oo];by_cases G:last<x.2.1;rw[if_pos (show aV x.2.1 last=false by rw[<-Bool.not_eq_true,dA];omega),if_pos (iS.2 oo)];rw[if_neg (by rw[dA.2 oo];decide)];unfold mr;dsimp only;rw[if_neg (by rw[Jt];omega)]
theorem Hu(a:Jd):Tot (OQ a) λy=>y=true↔lS a:=by
 have e: ∀{p:Prop},¬p->(lS a->p)->Tot (some false) λy=>y=true↔lS a:=λF h=>.s ⟨nofun,λk=>absurd (h k) F⟩;unfold OQ;refine .j (λA=>.k (λB=>.j (λC=>.k (λD=>?_) λc=>e (p:=J0 a.1<=16) oo λk=>k.len.2) λc=>e (p:=1<=J0 a.1) oo λk=>k.len.1) λc=>e (p:=a.2.1<=64) oo λk=>k.pages.2) λc=>e (p:=1<=a.2.1) oo λk=>k.pages.1;obtain⟨z,r,_⟩:=jC (l:=a.1) (i:=0) qQH oo;have os:=bF (J0 a.1) 1;obtain⟨w,j,_⟩:=jC (l:=a.1) (i:=J0 a.1-1) oo oo;refine .w r (.q (λv=>?_) λc=>e (p:=idx a.1 0=some 0) (by rw[r];simpa using c) λk=>k.zero);subst v;rw[show Jm .i64 (J0 a.1) 1=J0 a.1-1 by omega];refine .w j (.h (λc=>e (p:=w<a.2.1) oo λk=>k.last w j) λG=>?_);refine us (l:=a.1) (λi=>(J0 a.1,i,a)) oo (λp z x t h=>?_) (λh=>⟨nofun,λk=>absurd k.asc h⟩) λh=>?_;unfold so
 (try dsimp only)
 have:=J6 (l:=p);have os:=bF (J0 (p++[z])) 1;have H:J0 (p++[z])=J0 p+1:=by rw[cJ,cB]
 have lt:=dP h;rw[if_pos (Jt.2 lt),show Jm .i64 (J0 (p++[z])) 1=J0 (p++[z])-1 by omega,On h,eO h];dsimp only[Option.bind_some];exact⟨λc=>by rw[if_neg (by rw[iS];omega),eS h (n:=16) oo],λc=>by rw[if_pos (iS.2 oo)]⟩;unfold so
 (try dsimp only)
 rw[if_neg (by rw[Jt];omega)];refine .endq ?_;refine .j (λA=>.k (λB=>.j (λC=>.k (λD=>.g (λc=>e (p:=J0 a.2.2.1<=256) oo λk=>k.few) λv=>?_) λc=>e (p:=a.2.2.2.2<=1073741825) oo λk=>k.ser.2) λc=>e (p:=1<=a.2.2.2.2) oo λk=>k.ser.1) λc=>e (p:=a.2.2.2.1<=1099511627777) oo λk=>k.next.2) λc=>e (p:=1<=a.2.2.2.1) oo λk=>k.next.1;refine(xe (T:=a.2.2.2.2) (fs:=a.2.2.1) (λi l=>(l,a.2.2.1,J0 a.2.2.1,i,a)) (λpre x t last g=>?_) λlast=>?_).mono λy g=>g.trans ⟨λk=>⟨⟨by omega,by omega⟩,⟨by omega,by omega⟩,r,h,λz o=>by rw[j]at o;injection o with o;omega,⟨by omega,by omega⟩,⟨by omega,by omega⟩,by omega,k.1,k.2⟩,λk=>⟨k.ids,k.inr⟩⟩;unfold sn;dsimp only;rw[if_pos (Jt.2 (dP g)),eO g];dsimp only[Option.bind_some];refine⟨λE I=>?_,λq=>?_⟩;rw[if_pos (show aV x.2.1 last=false by rw[<-Bool.not_eq_true,dA];omega),if_neg (by rw[iS];omega),eS g (n:=256) oo];by_cases E:last<x.2.1;rw[if_pos (show aV x.2.1 last=false by rw[<-Bool.not_eq_true,dA];omega),if_pos (iS.2 oo)];rw[if_neg (by rw[dA.2 oo];decide)];unfold sn;dsimp only;rw[if_neg (by rw[Jt];omega)]
def ex:Nat:=2197175160
def gb(c:Nat):Nat:=if c%2=1 then c/2^^^ex else c/2
def gN:Nat->Nat->Nat|0,c=>c|j+1,c=>gN j (gb c)
def sl(b:Nat):Nat:=if b=1 then ex else 0
theorem KJ(c:Nat):gb c=c/2^^^sl (c%2):=by unfold gb sl;split;rfl;rw[Nat.xor_zero]
theorem JPE(x y:Nat):gb (x^^^y)=gb x^^^gb y:=by
 have j:(x^^^y)/2=x/2^^^y/2:=by have:= @Nat.xor_div_two_pow x y 1;simpa using this
 have k:(x^^^y)%2=x%2^^^y%2:=by have:= @Nat.xor_mod_two_pow x y 1;simpa using this
 simp only[KJ,j,k];have g:sl (x%2^^^y%2)=sl (x%2)^^^sl (y%2):=by rcases Nat.mod_two_eq_zero_or_one x with h|h<;>rcases Nat.mod_two_eq_zero_or_one y with e|e<;>rw[h,e]<;>decide
 rw[g]
 ac_rfl
theorem RG: ∀(j x y:Nat),gN j (x^^^y)=gN j x^^^gN j y|0,_,_=>rfl|j+1,x,y=>by simp only[gN];rw[JPE,RG j]
theorem Kw: ∀(i j x:Nat),gN (i+j) x=gN j (gN i x)|0,j,x=>by simp[gN]|i+1,j,x=>by rw[Nat.succ_add];simp only[gN];exact Kw i j _
theorem K6(c:Nat):gN 4 c=c/16^^^(sl (c/8%2)^^^gN 1 (sl (c/4%2))^^^gN 2 (sl (c/2%2))^^^gN 3 (sl (c%2))):=by
 have s1:gN 4 c=gN 3 (c/2)^^^gN 3 (sl (c%2)):=by rw[<-RG,<-KJ];rfl
 have h:gN 3 (c/2)=gN 2 (c/4)^^^gN 2 (sl (c/2%2)):=by rw[<-RG,show c/4=c/2/2 by omega,<-KJ];rfl
 have e:gN 2 (c/4)=gN 1 (c/8)^^^gN 1 (sl (c/4%2)):=by rw[<-RG,show c/8=c/4/2 by omega,<-KJ];rfl
 have g:gN 1 (c/8)=c/16^^^sl (c/8%2):=by rw[show c/16=c/8/2 by omega,<-KJ];rfl
 rw[s1,h,e,g]
 ac_rfl
theorem JLd(c:Nat):gN 4 c=c/16^^^gN 4 (c%16):=by
 rw[K6 c,K6 (c%16)];have g:c%16/16=0:=by omega
 have h:c%16/8%2=c/8%2:=by omega
 have j:c%16/4%2=c/4%2:=by omega
 have k:c%16/2%2=c/2%2:=by omega
 have e:c%16%2=c%2:=by omega
 rw[g,h,j,k,e,Nat.zero_xor]
theorem ec:ex<2^32:=by decide
theorem KI{c:Nat}(h:c<2^32):gb c<2^32:=by unfold gb;split;exact Nat.xor_lt_two_pow oo ec;omega
theorem zO: ∀{j c:Nat},c<2^32->gN j c<2^32|0,_,h=>h|j+1,_,h=>zO (j:=j) (KI h)
theorem AN(n:Nat)(h:n<2^32):IntKind.wrap .u32 (n:Int)=(n:Int):=by rw[show IntKind.wrap .u32 (n:Int)=(n:Int)%4294967296 from rfl];omega
theorem DY{n:Nat}(h:n<2^32):(BitVec.ofInt 32 (n:Int)).toNat=n:=by rw[BitVec.toNat_ofInt];omega
theorem LX{x y:Nat}(hx:x<2^32)(hy:y<2^32):eY .u32 (x:Int) (y:Int)=((x^^^y:Nat):Int):=by show IntKind.wrap .u32 (((BitVec.ofInt 32 (x:Int)^^^BitVec.ofInt 32 (y:Int)).toNat:Nat):Int)=_;rw[BitVec.toNat_xor,DY hx,DY hy,AN _ (Nat.xor_lt_two_pow hx hy)]
theorem uh{x:Nat}(hx:x<2^32)(k:Nat)(hk:k<=20):kJ .u32 (x:Int) ((2^k-1:Nat):Int)=((x%2^k:Nat):Int):=by
 show IntKind.wrap .u32 (((BitVec.ofInt 32 (x:Int)&&&BitVec.ofInt 32 ((2^k-1:Nat):Int)).toNat:Nat):Int)=_;have h2:2^k-1<2^32:=by have:(2:Nat)^k<=2^20:=DC oo hk;omega
 rw[BitVec.toNat_and,DY hx,DY h2,Nat.and_two_pow_sub_one_eq_mod,AN _ (Nat.lt_of_le_of_lt (Nat.mod_le _ _) hx)]
theorem Hi{x:Nat}(hx:x<2^32):kJ .u32 (x:Int) 1=((x%2:Nat):Int):=uh hx 1 oo
theorem JQd{x:Nat}(hx:x<2^32):kJ .u32 (x:Int) 15=((x%16:Nat):Int):=uh hx 4 oo
theorem YQ(x:Nat):iM .u32 (x:Int) 1=some ((x/2:Nat):Int):=by show some ((x:Int).fdiv 2)=_;rw[Int.fdiv_eq_ediv_of_nonneg _ oo];simp
theorem Fx(x:Nat):iM .u32 (x:Int) 4=some ((x/16:Nat):Int):=by show some ((x:Int).fdiv 16)=_;rw[Int.fdiv_eq_ediv_of_nonneg _ oo];simp
def sY:qQC->Nat->Nat|[],c=>c|b::r,c=>sY r (gN 8 (c^^^b.toNat))
theorem AL(b:UInt8):b.toNat<2^32:=by have:=UInt8.toNat_lt b;omega
theorem Nl: ∀{l:qQC} {c:Nat},c<2^32->sY l c<2^32|[],_,h=>h|b::r,_,h=>Nl (l:=r) (zO (Nat.xor_lt_two_pow h (AL b)))
def bw(l:qQC):Nat:=sY l 4294967295^^^4294967295
theorem JPp(l:qQC):bw l<2^32:=Nat.xor_lt_two_pow (Nl qQH) qQH
theorem uq{x:Nat}(hx:x<2^32):IC .u32 (x:Int)=((x^^^4294967295:Nat):Int):=by show IntKind.wrap .u32 (((BitVec.ofInt 32 4294967295^^^BitVec.ofInt 32 (x:Int)).toNat:Nat):Int)=_;rw[BitVec.toNat_xor,DY hx,show(4294967295:Int)=((4294967295:Nat):Int) by rfl,DY qQH,Nat.xor_comm,AN _ (Nat.xor_lt_two_pow hx qQH)]
theorem rz{l:qQC}{k:Nat}(h:k<l.length):lM l (k:Int)=some ((l[k]).toNat:Int):=by simp[lM,h]
theorem fr(l:qQC)(hl:J0 l<=1073741824):sC l=some ((bw l:Nat):Int):=by
 have j: ∀(x c:Nat),c<2^32->Tot (J4 WM (l,(c:Int),(x:Int),0)) λr=>r=.inl (l,((gN 8 c:Nat):Int),J1 .i64 (x:Int) 1):=λx c hc=>by
  refine Jn (τ:=Nat×Nat) (λq=>(l,(q.2:Int),(x:Int),(q.1:Int))) (λq=>q.1<=8/\q.2<2^32/\gN (8-q.1) q.2=gN 8 c) (λq=>8-(q.1:Int)) ?_ (0,c) rfl ⟨by omega,hc,rfl⟩;rintro⟨k,d⟩ ⟨h1,h2,g⟩;unfold WM;dsimp only at h1 h2 g⊢;have o:=Jk (k:Int) 1;refine .l (λv=>?_) λv=>.map (P:=λr=>r=.inl (l,((gN 8 c:Nat):Int),J1 .i64 (x:Int) 1)) (.s ?_) λ_ h=>h;have D:=Hi h2;have z:gN (8-(k+1)) (gb d)=gN 8 c:=by rw[<-g,show 8-k=(8-(k+1))+1 by omega];rfl
  have w:J1 .i64 (k:Int) 1=((k+1:Nat):Int):=by omega
  rw[D];refine .e (λhb=>.w (YQ d) (.s ⟨(k+1,gb d),?_,⟨by omega,KI h2,z⟩,by omega,by omega⟩)) λhb=>.w (YQ d) (.s ⟨(k+1,gb d),?_,⟨by omega,KI h2,z⟩,by omega,by omega⟩);have hb:d%2=1:=by omega
  have n:gb d=d/2^^^ex:=by unfold gb;rw[if_pos hb]
  rw[w,n,show(2197175160:Int)=((ex:Nat):Int)from rfl,LX oo ec];have hb: ¬d%2=1:=by omega
  have n:gb d=d/2:=by unfold gb;rw[if_neg hb]
  rw[w,n];have hk:k=8:=by omega
  subst hk;rw[<-g];rfl
 have y:Tot (sC l) λr=>r=((bw l:Nat):Int):=by
  unfold sC;refine Jn (τ:=Nat×Nat) (λq=>(l,(q.2:Int),(q.1:Int))) (λq=>q.1<=l.length/\q.2<2^32/\sY (l.drop q.1) q.2=sY l 4294967295) (λq=>(l.length:Int)-(q.1:Int)) ?_ (0,4294967295) rfl ⟨by omega,by decide,rfl⟩;rintro⟨k,d⟩ ⟨h1,h2,g⟩;unfold k8;dsimp only at h1 h2 g⊢;have E:J0 l=(l.length:Int):=rfl;have o:=Jk (k:Int) 1;refine .l (λv=>?_) λv=>.s ?_;have hk:k<l.length:=by omega
  have A:=Nat.xor_lt_two_pow h2 (AL l[k]);refine .w (rz hk) ?_;have B:aU .u32 ((l[k]).toNat:Int)=((l[k]).toNat:Int):=AN _ (AL _);rw[B,LX h2 (AL _)];obtain⟨r,C,rfl⟩:=j k _ A;rw[C];refine .s ⟨(k+1,gN 8 (d^^^(l[k]).toNat)),?_,⟨by omega,zO A,?_⟩,by omega,by omega⟩;rw[show J1 .i64 (k:Int) 1=((k+1:Nat):Int) by omega];rw[<-g,List.drop_eq_getElem_cons hk];rfl;have hk:k=l.length:=by omega
  subst hk;rw[List.drop_length]at g;have g:d=sY l 4294967295:=g;rw[uq h2,g];rfl
 obtain⟨r,e,rfl⟩:=y;exact e
theorem K7{n k:Nat}(h:k<n):aW n (k:Int)=some ():=by
 have e:(0:Int)<=k/\(k:Int)<n:=by omega
 simp[aW,e]
theorem JKh:Tot (dj ()) λv=> ∀(i:Nat) (h:i<16),v[i]=((gN 4 i:Nat):Int):=by
 have w: ∀(x:Nat) (n g:Vector Int 16),x<16->Tot (J4 s8 ((x:Int),(x:Int),(x:Int),0,n,g)) λr=>r=.inl (J1 .i64 (x:Int) 1,n,bH g x ((gN 4 x:Nat):Int)):=λx n g C=>by
  refine Jn (τ:=Nat×Nat) (λq=>((x:Int),(q.2:Int),(x:Int),(q.1:Int),n,g)) (λq=>q.1<=4/\q.2<2^32/\gN (4-q.1) q.2=gN 4 x) (λq=>4-(q.1:Int)) ?_ (0,x) rfl ⟨by omega,by omega,rfl⟩;rintro⟨k,d⟩ ⟨h1,h2,j⟩;unfold s8;dsimp only at h1 h2 j⊢;have o:=Jk (k:Int) 1;refine .l (λz=>?_) λz=>.map (P:=λr=>r=.inl (J1 .i64 (x:Int) 1,n,bH g x ((gN 4 x:Nat):Int))) ?_ λ_ h=>h;have F:=Hi h2;have B:gN (4-(k+1)) (gb d)=gN 4 x:=by rw[<-j,show 4-k=(4-(k+1))+1 by omega];rfl
  have A:J1 .i64 (k:Int) 1=((k+1:Nat):Int):=by omega
  rw[F];refine .e (λhb=>.w (YQ d) (.s ⟨(k+1,gb d),?_,⟨by omega,KI h2,B⟩,by omega,by omega⟩)) λhb=>.w (YQ d) (.s ⟨(k+1,gb d),?_,⟨by omega,KI h2,B⟩,by omega,by omega⟩);have hb:d%2=1:=by omega
  have y:gb d=d/2^^^ex:=by unfold gb;rw[if_pos hb]
  rw[A,y,show(2197175160:Int)=((ex:Nat):Int)from rfl,LX oo ec];have hb: ¬d%2=1:=by omega
  have y:gb d=d/2:=by unfold gb;rw[if_neg hb]
  rw[A,y];have hk:k=4:=by omega
  subst hk;have j:d=gN 4 x:=j;have G:vat g (Int.toNat (x:Int))=some g[x]:=by simp[vat,C]
  refine .w (K7 C) (.w G (.s ?_));rw[j];rfl
 unfold dj;refine Jn (τ:=Nat×Vector Int 16) (λq=>((q.1:Int),Vector.replicate 16 0,q.2)) (λq=>q.1<=16/\ ∀(i:Nat) (h:i<16),i<q.1->q.2[i]=((gN 4 i:Nat):Int)) (λq=>16-(q.1:Int)) ?_ (0,Vector.replicate 16 0) rfl ⟨by omega,λi h H=>by omega⟩;rintro⟨k,v⟩ ⟨h1,h2⟩;unfold Ey;dsimp only at h1 h2⊢;have o:=Jk (k:Int) 1;refine .l (λz=>?_) λz=>.s λi h=>h2 i h oo;have hk:k<16:=by omega
 have D:aU .u32 (k:Int)=(k:Int):=AN _ oo;rw[D];obtain⟨r,E,rfl⟩:=w k (Vector.replicate 16 0) v hk;rw[E];refine .s ⟨(k+1,bH v k ((gN 4 k:Nat):Int)),by rw[show J1 .i64 (k:Int) 1=((k+1:Nat):Int) by omega],⟨by omega,λi h hi=>?_⟩,by omega,by omega⟩;simp only[bH,Vector.getElem_setIfInBounds];by_cases e:k=i;subst e;simp;rw[if_neg e];exact h2 i h oo
theorem M6(l:qQC)(hl:J0 l<=1073741824):GJ l=some ((bw l:Nat):Int):=by
 have n:Tot (GJ l) λr=>r=((bw l:Nat):Int):=by
  unfold GJ;refine .b JKh λv ht=>Jn (τ:=Nat×Nat) (λq=>(l,(q.2:Int),J0 l,(q.1:Int),v)) (λq=>q.1<=l.length/\q.2<2^32/\sY (l.drop q.1) q.2=sY l 4294967295) (λq=>(l.length:Int)-(q.1:Int)) ?_ (0,4294967295) rfl ⟨by omega,by decide,rfl⟩;rintro⟨k,d⟩ ⟨h1,h2,g⟩;unfold Av;dsimp only at h1 h2 g⊢;have D:J0 l=(l.length:Int):=rfl;have o:=Jk (k:Int) 1;refine .l (λz=>?_) λz=>.s ?_;have hk:k<l.length:=by omega
  have j:=Nat.xor_lt_two_pow h2 (AL l[k]);have step: ∀x:Nat,x<2^32->aW 16 (kJ .u32 (x:Int) 15)=some ()/\vat v (Int.toNat (kJ .u32 (x:Int) 15))=some ((gN 4 (x%16):Nat):Int)/\eY .u32 ((x/16:Nat):Int) ((gN 4 (x%16):Nat):Int)=((gN 4 x:Nat):Int):=by
   intro x j;have h:x%16<16:=by omega
   rw[JQd j];refine⟨K7 h,by rw[Int.toNat_natCast,<-ht _ h];simp[vat,h],?_⟩;rw[LX oo (zO oo),<-JLd]
  obtain⟨B,C,A⟩:=step _ j;obtain⟨b1,b2,y⟩:=step (gN 4 (d^^^(l[k]).toNat)) (zO j);have w:aU .u32 ((l[k]).toNat:Int)=((l[k]).toNat:Int):=AN _ (AL _);refine .w (rz hk) ?_;rw[w,LX h2 (AL _)];refine .w (Fx _) (.w B (.w C ?_));rw[A];refine .w (Fx _) (.w b1 (.w b2 ?_));rw[y];refine .s ⟨(k+1,gN 4 (gN 4 (d^^^(l[k]).toNat))),by rw[show J1 .i64 (k:Int) 1=((k+1:Nat):Int) by omega],⟨by omega,zO (zO j),?_⟩,by omega,by omega⟩;rw[<-g,List.drop_eq_getElem_cons hk,<-Kw 4 4];rfl;have hk:k=l.length:=by omega
  subst hk;rw[List.drop_length]at g;have g:d=sY l 4294967295:=g;rw[uq h2,g];rfl
 obtain⟨r,e,rfl⟩:=n;exact e
theorem uj{n:Int}(h1:0<=n)(h2:n<18446744073709551616):IntKind.u64.wrap n=n:=by rw[show IntKind.u64.wrap n=n%18446744073709551616 by simp[IntKind.wrap,IntKind.bits,IntKind.signed]];omega
theorem jd{σ τ ρ:Type}{f:σ->Option (σ⊕ρ)}{g:τ->Option (τ⊕ρ)}(R:σ->τ->Prop)
  (h: ∀s t,R s t->(f s=none/\g t=none)\/(∃r,f s=some (.inr r)/\g t=some (.inr r))\/ ∃s' t',f s=some (.inl s')/\g t=some (.inl t')/\R s' t'):
  ∀(n:Nat) s t,R s t->cZ f n s=cZ g n t
 |0,s,t,_=>rfl
 |n+1,s,t,hR=>by
  rcases h s t hR with⟨h1,h2⟩|⟨r,h1,h2⟩|⟨s',t',h1,h2,e⟩;simp only[cZ,h1,h2];simp only[cZ,h1,h2];simp only[cZ,h1,h2];exact jd R h n s' t' e
theorem jo{σ τ ρ:Type}{f:σ->Option (σ⊕ρ)}{g:τ->Option (τ⊕ρ)}(R:σ->τ->Prop)
  (h: ∀s t,R s t->(f s=none/\g t=none)\/(∃r,f s=some (.inr r)/\g t=some (.inr r))\/ ∃s' t',f s=some (.inl s')/\g t=some (.inl t')/\R s' t') {s:σ} {t:τ} (hR:R s t):
  J4 f s=J4 g t:=by apply Option.ext;intro r;rw[lE,lE];constructor;rintro⟨n,e⟩;exact⟨n,by rw[<-jd R h n s t hR];exact e⟩;rintro⟨n,e⟩;exact⟨n,by rw[jd R h n s t hR];exact e⟩
theorem RO(x:qQC×Jr):AZ x=JS x:=by
 obtain⟨s,a,n⟩:=x;unfold AZ JS;dsimp only;by_cases h1:aL n 1=false;rw[if_pos h1,if_pos h1];by_cases h2:aO n 8=false;rw[if_pos h2,if_pos h2];split;rfl;split;split;rfl;have L:1<=n:=by
  have: ¬n<1:=λh=>by rw[Jt.2 h]at h1;cases h1
  omega
 have E:n<=8:=by
  have: ¬8<n:=λh=>by rw[gM.2 h]at h2;cases h2
  omega
 refine jo (fun(z:qQC×Int×Int×Int×Int) (w:qQC×Int×Int×Int×Int)=>z.1=w.1/\z.2.1=w.2.1/\z.2.2.1=w.2.2.2.1/\z.2.2.2.1=w.2.2.1/\z.2.2.2.2=w.2.2.2.2/\0<=z.2.2.2.2/\z.2.2.2.1<=8) ?_ ⟨rfl,rfl,rfl,rfl,rfl,bB _,E⟩;rintro⟨s1,G,I,F,g⟩ ⟨H,N,M,J,K⟩ ⟨B,A,k,r,j,C,v⟩;dsimp only at B A k r j C v;subst B A k r j;unfold Ae CB;dsimp only;by_cases hk:aL g F=true;rw[if_pos hk,if_pos hk];have hk:=Jt.1 hk;have D:aU .u64 (cA .i64 8 g)=cA .i64 8 g:=by
  have o:=tU 8 g;have e:cA .i64 8 g=8*g:=by omega
  rw[e];exact uj oo oo
 rw[D];cases lM s1 (J1 .i64 G g)with
 |none=>exact .inl ⟨rfl,rfl⟩
 |some y=>
  simp only[JC];cases pK .u64 (aU .u64 y) (cA .i64 8 g)with
  |none=>exact .inl ⟨rfl,rfl⟩
  |some q=>have o:=Jk g 1;exact .inr (.inr ⟨_,_,rfl,rfl,rfl,rfl,rfl,rfl,rfl,by dsimp only;omega,v⟩)
 rw[if_neg hk,if_neg hk];exact .inr (.inl ⟨_,rfl,rfl⟩);rfl;rw[if_neg h2,if_neg h2];rw[if_neg h1,if_neg h1]
theorem fi{l:qQC}{n:Int}{k:Nat}(h1:1<=k)(h:k<=8)(hl:J0 l<=70368744177664):fJ (l,n,(k:Int))=some (l++J59 n k):=by
 show Jo7 l n (k:Int)=_;have e: ¬((k:Int)<1\/8<(k:Int)):=by omega
 have g:l.length+8<=140737488355328:=by unfold J0 at hl;omega
 rw[Jo7,if_neg e,if_pos g,Int.toNat_natCast]
theorem gk{s:qQC}{n:Int}{k:Nat}(h1:1<=k)(y:k<=8)(hl:J0 s<=70368744177664):JE (s,n,(k:Int))=some (s++J59 n k):=by
 have g:Tot (JE (s,n,(k:Int))) λr=>r=s++J59 n k:=by
  unfold JE;refine .j (λ_=>.g (λc=>by dsimp only at c;omega) λ_=>?_) λc=>by dsimp only at c;omega
  refine Jn (τ:=Nat) (λj=>(s++J59 n j,n,(k:Int),(j:Int))) (λj=>j<=k) (λj=>(k:Int)-(j:Int)) ?_ 0 (by simp[J59,toStr]) (zQ2 _);intro j z;unfold li;dsimp only;have x:=Jk (j:Int) 1;have w:=tU 8 (j:Int);refine .l (λc=>?_) λc=>.s (by rw[show j=k by omega]);have o:aU .u64 (cA .i64 8 (j:Int))=((8*j:Nat):Int):=by unfold aU;rw[uj oo oo];omega
  have q:iM .u64 (aU .u64 n) (aU .u64 (cA .i64 8 (j:Int)))=some ((aU .u64 n).fdiv (2^(8*j))):=by
   rw[o];simp only[iM];rw[if_neg oo];have:min (((8*j:Nat):Int)).toNat IntKind.u64.bits=8*j:=by simp only[Int.toNat_natCast];exact Nat.min_eq_left (by show 8*j<=64;omega)
   rw[this]
  have v:aU .u8 ((aU .u64 n).fdiv (2^(8*j)))=J9D n j:=rfl;refine .w q ?_;rw[v];have h:cF (s++J59 n j) (toStr [J9D n j])=some (s++J59 n (j+1)):=by unfold cF;rw[if_pos (by unfold J0 at hl;simp[J59,toStr];omega)];simp[J59,toStr,List.range_succ]
  exact .w h (.s ⟨j+1,by rw[show J1 .i64 (j:Int) 1=((j+1:Nat):Int) by omega],by omega,by omega,by omega⟩)
 obtain⟨r,e,rfl⟩:=g;exact e
theorem u6(l:qQC):mE l=oU l:=by
 unfold mE oU;by_cases h:aO (J0 l) 8392=true;rw[if_pos h,if_pos h];rw[if_neg h,if_neg h];have r:J0 l<=8392:=by have: ¬8392<J0 l:=λc=>h (gM.2 c);omega
 have e:J0 ([]:qQC)<=70368744177664:=by decide
 have g:=fi (l:=[]) (n:=J0 l) (k:=4) qQH qQH e;have j:=gk (s:=[]) (n:=J0 l) (k:=4) qQH qQH e;rw[show((4:Nat):Int)=4 from rfl]at g j;rw[g,j];simp only[JC];cases hc:cF ([]++J59 (J0 l) 4) l with
 |none=>rfl
 |some y=>
  simp only[JC];have v:J0 y<=8396:=(by unfold cF at hc;split at hc;injection hc with hc;subst hc;unfold J0 at*;simp[J59,toStr];omega;cases hc);rw[M6 y oo,fr y oo];simp only[JC];have o:=fi (l:=y) (n:=aU .i64 ((bw y:Nat):Int)) (k:=4) qQH qQH oo;have q:=gk (s:=y) (n:=aU .i64 ((bw y:Nat):Int)) (k:=4) qQH qQH oo;rw[show((4:Nat):Int)=4 from rfl]at o q;rw[o,q]
theorem YJ{n:Int}(h1:0<=n)(h2:n<18446744073709551616):IntKind.u64.wrap n=n:=by simp[IntKind.wrap,IntKind.bits,IntKind.signed];omega
theorem Gd{n:Int}(h1: -9223372036854775808<=n)(h2:n<=9223372036854775807):IntKind.i64.wrap n=n:=by simp[IntKind.wrap,IntKind.bits,IntKind.signed];omega
theorem JPH{x b j:Nat}(hj:j<=7)(hx:x<2^(8*j))(hb:b<256):
  orI .u64 (x:Int) (IntKind.wrap .u64 (((b:Nat):Int)*2^(8*j)))=((x+b*2^(8*j):Nat):Int):=by
 have k:(2:Nat)^(8*j)*256<=2^64:=by rw[show(256:Nat)=2^8 by rfl,<-Nat.pow_add];exact DC oo oo
 have n:b*2^(8*j)+2^(8*j)<=2^64:=by have:(b+1)*2^(8*j)<=256*2^(8*j):=zQ4 _ oo;rw[zQ8,Nat.one_mul]at this;omega
 have w:IntKind.wrap .u64 (((b:Nat):Int)*2^(8*j))=((b*2^(8*j):Nat):Int):=by
  have e:(((b:Nat):Int)*2^(8*j))=((b*2^(8*j):Nat):Int):=by simp
  rw[e,YJ oo oo]
 rw[w];have g: ∀y:Nat,y<2^64->(BitVec.ofInt 64 (y:Int)).toNat=y:=by intro y o;rw[BitVec.toNat_ofInt];omega
 show IntKind.wrap .u64 (((BitVec.ofInt 64 (x:Int)|||BitVec.ofInt 64 ((b*2^(8*j):Nat):Int)).toNat:Nat):Int)=_;rw[BitVec.toNat_or,g x oo,g _ oo];have h:x|||b*2^(8*j)=x+b*2^(8*j):=by rw[Nat.or_comm,ou b,<-Nat.two_pow_add_eq_or_of_lt hx,Nat.add_comm]
 rw[h,YJ oo oo]
theorem ZB{s:qQC}{p:Int}(hp:0<=p)(hl:J0 s<=1073741824):
  (p+4<=J0 s-> ∃v:Nat,v<2^32/\JS (s,p,4)=some ((v:Int),0))/\(J0 s<p+4->p<=4611686018427387904->JS (s,p,4)=some (0,5)):=by
 have o:=bF (J0 s) p;have H:J0 s=(s.length:Int):=rfl;refine⟨λh=>?_,λh G=>?_⟩;have k:Tot (JS (s,p,4)) λy=> ∃v:Nat,v<2^32/\y=((v:Int),0):=by
  unfold JS;dsimp only;refine .j (λ_=>.k (λ_=>.l (λc=>by omega) λ_=>.k (λ_=>.l (λc=>by omega) λ_=>?_) λc=>by omega) λc=>by omega) λc=>by omega
  refine Jn (τ:=Nat×Nat) (λq=>(s,p,4,(q.2:Int),(q.1:Int))) (λq=>q.1<=4/\q.2<2^(8*q.1)) (λq=>4-(q.1:Int)) ?_ (0,0) rfl ⟨by omega,by decide⟩;rintro⟨j,x⟩ ⟨E,n⟩;dsimp only at E n;unfold CB;dsimp only;have K:=Jk (j:Int) 1;have J:=tU 8 (j:Int);have L:=Jk p (j:Int);refine .l (λc=>?_) λc=>.s ?_;have D:J1 .i64 p (j:Int)=((p.toNat+j:Nat):Int):=by omega
  have g:p.toNat+j<s.length:=by omega
  have w:(s[p.toNat+j]'g).toNat<256:=UInt8.toNat_lt _;have B:aU .u64 (cA .i64 8 (j:Int))=((8*j:Nat):Int):=by unfold aU;rw[YJ oo oo];omega
  have C:pK .u64 (aU .u64 (((s[p.toNat+j]'g).toNat:Nat):Int)) ((8*j:Nat):Int)=some (IntKind.wrap .u64 ((((s[p.toNat+j]'g).toNat:Nat):Int)*2^(8*j))):=by
   unfold aU;rw[YJ oo oo];simp only[pK];rw[if_neg oo];have:min (((8*j:Nat):Int)).toNat IntKind.u64.bits=8*j:=by simp only[Int.toNat_natCast];exact Nat.min_eq_left (by show 8*j<=64;omega)
   rw[this]
  have z:=JPH (x:=x) (b:=(s[p.toNat+j]'g).toNat) (j:=j) oo n w;have A:x+(s[p.toNat+j]'g).toNat*2^(8*j)<2^(8*(j+1)):=by
   have I:(2:Nat)^(8*(j+1))=256*2^(8*j):=by rw[Nat.mul_add,Nat.pow_add,ou]
   have:((s[p.toNat+j]'g).toNat+1)*2^(8*j)<=256*2^(8*j):=zQ4 _ oo;rw[zQ8,Nat.one_mul]at this;omega
  rw[D,rz g,JC,B,C,JC,z];exact .s ⟨(j+1,x+(s[p.toNat+j]'g).toNat*2^(8*j)),by rw[show J1 .i64 (j:Int) 1=((j+1:Nat):Int) by omega],⟨by omega,A⟩,by omega,by omega⟩;have r:j=4:=by omega
  subst r;refine⟨x,n,?_⟩;unfold aU;rw[Gd oo oo]
 obtain⟨y,e,v,F,rfl⟩:=k;exact⟨v,F,e⟩;have k:Tot (JS (s,p,4)) λy=>y=(0,5):=(by unfold JS;dsimp only;exact .j (λ_=>.k (λ_=>.l (λc=>by omega) λ_=>.k (λ_=>.l (λc=>.s rfl) λc=>by omega) λc=>.s rfl) λc=>by omega) λc=>by omega);obtain⟨y,e,rfl⟩:=k;exact e
theorem xg{s:qQC}{p:Int}(hl:J0 s<=1073741824):OU (s,p)=qY (s,p):=by
 unfold OU qY;dsimp only;by_cases g:aL p 0=false;rw[if_pos g,if_pos g];have j:0<=p:=by
  have: ¬p<0:=λc=>by rw[Jt.2 c]at g;cases g
  omega
 by_cases h1:aO p (J0 s)=true;rw[if_pos h1,if_pos h1];rw[if_neg h1,if_neg h1];have x:p<=J0 s:=by have: ¬J0 s<p:=λc=>h1 (gM.2 c);omega
 rw[RO];rcases Int.lt_or_le (J0 s) (p+4)with hc|hc;rw[(ZB j hl).2 hc oo];rfl;obtain⟨v,J,e⟩:=(ZB j hl).1 hc;rw[e];simp only[JC];rw[if_neg (show¬aN 0 0=true by decide),if_neg (show¬aN 0 0=true by decide)];by_cases h2:aO (v:Int) 8392=true;rw[if_pos h2,if_pos h2];rw[if_neg h2,if_neg h2];have z:(v:Int)<=8392:=by have: ¬8392<(v:Int):=λc=>h2 (gM.2 c);omega
 have E:=Jk p 4;have D:=Jk (J1 .i64 p 4) (v:Int);have F:=bF (J0 s) p;have G:=Jk (v:Int) 8;have B:=Jk p 8;have A:=Jk (J1 .i64 p 8) (v:Int);have C:=Jk (J1 .i64 (J1 .i64 p 4) (v:Int)) 4;have k:0<=J1 .i64 (J1 .i64 p 4) (v:Int):=by omega
 rw[RO];rcases Int.lt_or_le (J0 s) (J1 .i64 (J1 .i64 p 4) (v:Int)+4)with hd|hd;rw[(ZB k hl).2 hd oo,if_pos (Jt.2 oo)];rfl;obtain⟨u,r,e'⟩:=(ZB k hl).1 hd;rw[e',if_neg (λc=>by have:=Jt.1 c;omega)];simp only[JC];rw[if_neg (show¬aN 0 0=true by decide)];cases hs:aT s (some p) (some (J1 .i64 (J1 .i64 p 4) (v:Int)))with
 |none=>rfl
 |some w=>
  simp only[JC];have I:J0 w<=J0 s:=by
   have q:p<=J1 .i64 (J1 .i64 p 4) (v:Int):=by omega
   obtain⟨w',h,_,H⟩:=KS (l:=s) j q oo;rw[hs]at h;injection h with h;subst h;omega
  rw[M6 w oo,fr w oo];simp only[JC];have y:=JPp w;have n:aU .i64 ((bw w:Nat):Int)=((bw w:Nat):Int):=by unfold aU;rw[Gd oo oo]
  have o:aU .u32 (u:Int)=(u:Int):=AN _ r;rw[n,o,show J1 .i64 (J1 .i64 (J1 .i64 p 4) (v:Int)) 4=J1 .i64 (J1 .i64 p 8) (v:Int) by omega]
 rw[if_neg g,if_neg g]
theorem JMB{x:qQC×Jr}{y:Jr}(h:JS x=some y):y.2=0\/y.1=0:=by
 have e:Par (JS x) λy=>y.2=0\/y.1=0:=by unfold JS;refine .j (λ_=>.k (λ_=>.l (λ_=>.s (.inr rfl)) λ_=>.k (λ_=>.l (λ_=>.s (.inr rfl)) λ_=>?_) λ_=>.s (.inr rfl)) λ_=>.s (.inr rfl)) λ_=>.s (.inr rfl);refine .z (λ_=>True) trivial ?_;intro z _;unfold CB;exact .l (λ_=>.b λ_ _=>.b λ_ _=>.s qQG) λ_=>.s (.inl rfl)
 exact e _ h
theorem vx(x:Int×qQC×Jr):nR x=lL x:=by
 unfold nR lL;by_cases h:aN x.2.2.2 0=true;rw[if_pos h,if_pos h];rw[if_neg h,if_neg h,RO];have j:x.2.2.2=0:=Decidable.of_not_not λc=>h (eJ.2 c);cases hg:JS (x.2.1,x.2.2.1,x.1)with
 |none=>rfl
 |some y=>
  simp only[JC];by_cases g:y.2=0;rw[if_pos (fH.2 g),if_neg (λc=>eJ.1 c g),g,j];rw[if_neg (λc=>g (fH.1 c)),if_pos (eJ.2 g)];rcases JMB hg with e|e;exact absurd e g;rw[e]
theorem Mt(x:Int×qQC×Jr):PA x=CY x:=by unfold PA CY;by_cases e:x.2.2.2=0;rw[if_pos (fH.2 e)];have h: ¬aN x.2.2.2 0=true:=λc=>eJ.1 c e;rw[if_neg h,if_neg h];by_cases g:Jm .i64 (J0 x.2.1) x.2.2.1<x.1;rw[if_pos (Jt.2 g),if_pos (gM.2 g),if_pos (show aN 5 0=true by decide)];rw[if_neg (λc=>g (Jt.1 c)),if_neg (λc=>g (gM.1 c))];rw[if_neg (λc=>e (fH.1 c)),if_pos (eJ.2 e),if_pos (eJ.2 e)]
theorem JJH(x:qQC×Jr):PD x=CX x:=by unfold PD CX;simp only[vx,Mt]
theorem JNh(hv: ∀e,oY e=JO e)(x:qQC):WW x=yE x:=by unfold WW yE;simp only[vx,Mt,JJH,hv]
theorem dK{s:qQC}{n:Int}{k:Nat}(h1:1<=k)(e:k<=8)(hl:J0 s<=70368744177664): ∃y,fJ (s,n,(k:Int))=some y/\JE (s,n,(k:Int))=some y/\J0 y=J0 s+k:=⟨_,fi h1 e hl,gk h1 e hl,by unfold J0;simp[J59,toStr]⟩
theorem ff{a b y:qQC}(h:cF a b=some y):J0 y=J0 a+J0 b:=by unfold cF at h;split at h;injection h with h;subst h;unfold J0;simp;cases h
theorem SU{s:qQC}{c:kD}(hl:J0 s<=35184372088832)(hc:J0 c.2<=1073741824): ∃y,MN (s,c)=some y/\BF (s,c)=some y/\J0 y<=J0 s+J0 c.2+1:=by
 unfold MN BF;dsimp only;have q:0<=J0 c.2:=J6;by_cases h:Jj c.1=true;obtain⟨y,e,g,j⟩:=dK (s:=s) (n:=255) (k:=1) qQH qQH oo;rw[show((1:Nat):Int)=1 from rfl]at e g j;exact⟨y,by rw[if_pos h,e];rfl,by rw[if_pos h,g];rfl,by omega⟩;obtain⟨y,e,g,j⟩:=dK (s:=s) (n:=J0 c.2) (k:=1) qQH qQH oo;rw[show((1:Nat):Int)=1 from rfl]at e g j;have o:cF y c.2=some (y++c.2):=by unfold cF;rw[if_pos (by unfold J0 at*;omega)]
 exact⟨y++c.2,by rw[if_neg h,e];simp only[JC,o],by rw[if_neg h,g];simp only[JC,o],by have:=ff o;omega⟩
theorem JNH{x:aA}(hv:oY x=JO x)(h1:J0 x.2.2.2.2.2.2.1.2.2.1.2<=1073741824)(h2:J0 x.2.2.2.2.2.2.1.2.2.2.2<=1073741824):nO x=qW x:=by
 unfold nO qW;rw[hv];cases JO x with
 |none=>rfl
 |some v=>
  simp only[JC];by_cases hb:Jj v=true;rw[if_pos hb,if_pos hb];rw[if_neg hb,if_neg hb];obtain⟨V,w,S,l3⟩:=dK (s:=[]) (n:=x.1) (k:=8) qQH qQH qQH;have l0:J0 ([]:qQC)=0:=rfl;obtain⟨y4,A,M,l4⟩:=dK (s:=V) (n:=x.2.1) (k:=1) qQH qQH oo;obtain⟨K,z,L,l5⟩:=dK (s:=y4) (n:=x.2.2.1) (k:=4) qQH qQH oo;obtain⟨j,D,G,l6⟩:=dK (s:=K) (n:=x.2.2.2.1) (k:=8) qQH qQH oo;obtain⟨h,F,C,l7⟩:=dK (s:=j) (n:=x.2.2.2.2.1) (k:=8) qQH qQH oo;obtain⟨g,J,Q,l8⟩:=dK (s:=h) (n:=x.2.2.2.2.2.1) (k:=8) qQH qQH oo;obtain⟨y9,P,B,l9⟩:=dK (s:=g) (n:=x.2.2.2.2.2.2.1.1) (k:=4) qQH qQH oo;obtain⟨yA,E,I,lA⟩:=dK (s:=y9) (n:=x.2.2.2.2.2.2.1.2.1) (k:=1) qQH qQH oo;obtain⟨U,T,qB,lB⟩:=SU (s:=yA) (c:=x.2.2.2.2.2.2.1.2.2.1) oo h1;obtain⟨Z,Y,qC,lC⟩:=SU (s:=U) (c:=x.2.2.2.2.2.2.1.2.2.2) oo h2;obtain⟨H,R,O,lD⟩:=dK (s:=Z) (n:=J0 x.2.2.2.2.2.2.2) (k:=4) qQH qQH oo;simp only[show((8:Nat):Int)=8 from rfl,show((4:Nat):Int)=4 from rfl,show((1:Nat):Int)=1 from rfl]at w S A M z L D G F C J Q P B E I R O;simp only[w,S,A,M,z,L,G,C,Q,B,I,qB,qC,O,JC];have st: ∀(o q:qQC) (i:Nat) (n:Int),i<3->idx [x.2.2.2.1,x.2.2.2.2.1,x.2.2.2.2.2.1] (i:Int)=some n->fJ (o,n,8)=some q->
    J4 CV (o,[x.2.2.2.1,x.2.2.2.2.1,x.2.2.2.2.2.1],J0 [x.2.2.2.1,x.2.2.2.2.1,x.2.2.2.2.2.1],(i:Int),x)=J4 CV (q,[x.2.2.2.1,x.2.2.2.2.1,x.2.2.2.2.2.1],J0 [x.2.2.2.1,x.2.2.2.2.1,x.2.2.2.2.2.1],((i+1:Nat):Int),x):=by
   intro o q i n hi e hp;refine eW ?_;unfold CV;dsimp only;have hl:J0 [x.2.2.2.1,x.2.2.2.2.1,x.2.2.2.2.2.1]=3:=rfl;have o1:=Jk (i:Int) 1;rw[if_pos (Jt.2 oo),e];simp only[JC];rw[hp];simp only[JC];rw[show J1 .i64 (i:Int) 1=((i+1:Nat):Int) by omega]
  have s0:=st K j 0 _ qQH rfl D;have s1:=st j h 1 _ qQH rfl F;have W:=st h g 2 _ qQH rfl J;rw[show((0:Nat):Int)=0 from rfl]at s0;rw[s0,s1,W];have fin:CV (g,[x.2.2.2.1,x.2.2.2.2.1,x.2.2.2.2.2.1],J0 [x.2.2.2.1,x.2.2.2.2.1,x.2.2.2.2.2.1],((2+1:Nat):Int),x)=Option.map .inr ((cF H x.2.2.2.2.2.2.2).bind λN=>some (N,0)):=by unfold CV;dsimp only;have hl:J0 [x.2.2.2.1,x.2.2.2.2.1,x.2.2.2.2.2.1]=3:=rfl;rw[if_neg (λc=>by have:=Jt.1 c;omega)];simp only[P,E,T,Y,R,JC]
  cases hc:cF H x.2.2.2.2.2.2.2 with
  |some y=>rw[hc]at fin;exact dG fin
  |none=>
   rw[hc]at fin;cases hw:J4 CV (g,[x.2.2.2.1,x.2.2.2.2.1,x.2.2.2.2.2.1],J0 [x.2.2.2.1,x.2.2.2.2.1,x.2.2.2.2.2.1],((2+1:Nat):Int),x)with
   |none=>rfl
   |some r=>
    rw[lE]at hw;obtain⟨n,e⟩:=hw;cases n with
    |zero=>cases e
    |succ n=>simp only[cZ,fin]at e;cases e
theorem JGY{σ ρ α:Type}{L:σ->Option (σ⊕ρ)}{z:σ}{o:Option α}{k:α->σ}(h:L z=o.bind λy=>some (.inl (k y))):J4 L z=o.bind λy=>J4 L (k y):=by
 cases o with
 |none=>exact JGz h
 |some y=>exact eW h
theorem JRR(a b:Int):vat (bH (bH (Vector.replicate 2 0) 0 a) 1 b) (Int.toNat 0)=some a:=by simp[vat,bH]
theorem JRJ(a b:Int):vat (bH (bH (Vector.replicate 2 0) 0 a) 1 b) (Int.toNat 1)=some b:=by simp[vat,bH]
theorem FL{s:qQC}{vs:List (Vector Int 2)}{n i:Int}{r:J7}{a b:Int}(hi:i<n)(hx:idx vs i=some (bH (bH (Vector.replicate 2 0) 0 a) 1 b)):
  J4 GP (s,vs,n,i,r)=(fJ (s,a,b)).bind λy=>J4 GP (y,vs,n,J1 .i64 i 1,r):=by refine JGY ?_;unfold GP;dsimp only;rw[Jt.2 hi,hx];simp only[if_true,JC,JRR,JRJ];rfl
theorem JKn(r:J7):xO r=(fJ ([80,77,82,78],r.1,8)).bind λa=>(fJ (a,r.2.1,8)).bind λa=>(fJ (a,r.2.2.1,4)).bind λa=>(fJ (a,r.2.2.2.1,4)).bind λa=>
  (fJ (a,r.2.2.2.2.1,1)).bind λa=>fJ (a,J0 r.2.2.2.2.2,4):=by
 have e:xO r=J4 GP ([80,77,82,78],[bH (bH (Vector.replicate 2 0) 0 r.1) 1 8,bH (bH (Vector.replicate 2 0) 0 r.2.1) 1 8,bH (bH (Vector.replicate 2 0) 0 r.2.2.1) 1 4,bH (bH (Vector.replicate 2 0) 0 r.2.2.2.1) 1 4,bH (bH (Vector.replicate 2 0) 0 r.2.2.2.2.1) 1 1,bH (bH (Vector.replicate 2 0) 0 (J0 r.2.2.2.2.2)) 1 4],6,0,r):=rfl;rw[e];rw[FL (show(0:Int)<6 by decide) rfl];refine congrArg (Option.bind _) (funext λa=>?_);rw[show J1 .i64 0 1=1 from rfl,FL (show(1:Int)<6 by decide) rfl];refine congrArg (Option.bind _) (funext λa=>?_);rw[show J1 .i64 1 1=2 from rfl,FL (show(2:Int)<6 by decide) rfl];refine congrArg (Option.bind _) (funext λa=>?_);rw[show J1 .i64 2 1=3 from rfl,FL (show(3:Int)<6 by decide) rfl];refine congrArg (Option.bind _) (funext λa=>?_);rw[show J1 .i64 3 1=4 from rfl,FL (show(4:Int)<6 by decide) rfl];refine congrArg (Option.bind _) (funext λa=>?_);rw[show J1 .i64 4 1=5 from rfl,FL (show(5:Int)<6 by decide) rfl];cases fJ (a,J0 r.2.2.2.2.2,4)with
 |none=>rfl
 |some y=>refine dG ?_;unfold GP;rfl
theorem JNU(r:J7):xO r=xP r:=by rw[JKn];unfold xP;have N:J0 ([80,77,82,78]:qQC)=4:=rfl;obtain⟨B,w,y,K⟩:=dK (s:=[80,77,82,78]) (n:=r.1) (k:=8) qQH qQH qQH;obtain⟨F,j,A,L⟩:=dK (s:=B) (n:=r.2.1) (k:=8) qQH qQH oo;obtain⟨C,e,z,H⟩:=dK (s:=F) (n:=r.2.2.1) (k:=4) qQH qQH oo;obtain⟨E,h,x,I⟩:=dK (s:=C) (n:=r.2.2.2.1) (k:=4) qQH qQH oo;obtain⟨D,g,v,G⟩:=dK (s:=E) (n:=r.2.2.2.2.1) (k:=1) qQH qQH oo;obtain⟨J,o,q,M⟩:=dK (s:=D) (n:=J0 r.2.2.2.2.2) (k:=4) qQH qQH oo;simp only[show((8:Nat):Int)=8 from rfl,show((4:Nat):Int)=4 from rfl,show((1:Nat):Int)=1 from rfl]at w y j A e z h x g v o q;simp only[w,y,j,A,e,z,h,x,g,v,o,q,JC]
theorem JLr{x:J7}(hl:J0 (pl x)<=4096)(he: ∀e∈pl x,nO e=qW e)(hv: ∀e∈pl x,∃b,qW e=some (b,0)/\J0 b<=8392)(hf: ∀(b:qQC),J0 b<=8392-> ∃f,oU b=some f/\J0 f=J0 b+8):
  ∀(l:List aA) (i:Nat) (out:qQC),(pl x).drop i=l->i<=(pl x).length->J0 out<=8400*(i+1)->
   rJ mE nO 40 l out=J4 CQ (out,(i:Int),x):=by
 intro l
 induction l with
 |nil=>
  intro i out hd hi v;have hi':i=(pl x).length:=by have:=congrArg List.length hd;simp at this;omega
  refine(dG ?_).symm;unfold CQ;dsimp only;rw[if_neg (λc=>by have:=Jt.1 c;have:(i:Int)<J0 (pl x):=this;unfold J0 at this;omega)]
 |cons e l ih=>
  intro i out hd hi v;have n:i<(pl x).length:=(by rcases zQ3 i (pl x).length with h|h;exact h;rw[List.drop_of_length_le h]at hd;cases hd);have o:(pl x)[i]?=some e:=by have:=congrArg (λl=>l[0]?) hd;simpa using this
  have q:e∈pl x:=zQ5 o;obtain⟨b,hb,r⟩:=hv e q;obtain⟨f,g,z⟩:=hf b r;have y:=Jk (i:Int) 1;have w:J0 (pl x)=((pl x).length:Int):=rfl;have j:cF out f=some (out++f):=by unfold cF;rw[if_pos (by unfold J0 at*;omega)]
  have step:CQ (out,(i:Int),x)=some (.inl (out++f,((i+1:Nat):Int),x)):=by
   unfold CQ;dsimp only;have k:idx x.2.2.2.2.2 (i:Int)=some e:=by show idx (pl x) (i:Int)=some e;unfold idx;rw[if_pos oo,Int.toNat_natCast];exact o
   rw[if_pos (Jt.2 (by show(i:Int)<J0 (pl x);omega)),k];simp only[JC];rw[hb];simp only[JC];rw[g];simp only[JC];rw[j];simp only[JC];rw[show J1 .i64 (i:Int) 1=((i+1:Nat):Int) by omega]
  rw[eW step];unfold rJ;rw[he e q,hb];simp only[JC];rw[if_pos trivial,u6,g];simp only[JC];rw[if_pos (by unfold J0 at*;omega)];refine ih (i+1) (out++f) ?_ n (by unfold J0 at*;simp;omega);rw[<-vJ,hd];rfl
theorem JI3{x:aA}(hv:JO x=some true)(h1:J0 x.2.2.2.2.2.2.1.2.2.1.2<=12)(h2:J0 x.2.2.2.2.2.2.1.2.2.2.2<=12)(h3:J0 x.2.2.2.2.2.2.2<=8192): ∃b,qW x=some (b,0)/\J0 b<=8392:=by
 unfold qW;rw[hv];simp only[JC];rw[if_neg (show¬Jj true=true by decide)];obtain⟨D,V,z,I⟩:=dK (s:=[]) (n:=x.1) (k:=8) qQH qQH qQH;have l0:J0 ([]:qQC)=0:=rfl;obtain⟨Q,Y,r,K⟩:=dK (s:=D) (n:=x.2.1) (k:=1) qQH qQH oo;obtain⟨H,W,q,B⟩:=dK (s:=Q) (n:=x.2.2.1) (k:=4) qQH qQH oo;obtain⟨L,p6,h,U⟩:=dK (s:=H) (n:=x.2.2.2.1) (k:=8) qQH qQH oo;obtain⟨A,p7,g,M⟩:=dK (s:=L) (n:=x.2.2.2.2.1) (k:=8) qQH qQH oo;obtain⟨G,p8,y,E⟩:=dK (s:=A) (n:=x.2.2.2.2.2.1) (k:=8) qQH qQH oo;obtain⟨N,p9,e,P⟩:=dK (s:=G) (n:=x.2.2.2.2.2.2.1.1) (k:=4) qQH qQH oo;obtain⟨S,pA,o,O⟩:=dK (s:=N) (n:=x.2.2.2.2.2.2.1.2.1) (k:=1) qQH qQH oo;obtain⟨C,pB,T,lB⟩:=SU (s:=S) (c:=x.2.2.2.2.2.2.1.2.2.1) oo oo;obtain⟨F,pC,R,Z⟩:=SU (s:=C) (c:=x.2.2.2.2.2.2.1.2.2.2) oo oo;obtain⟨j,pD,v,J⟩:=dK (s:=F) (n:=J0 x.2.2.2.2.2.2.2) (k:=4) qQH qQH oo;simp only[show((8:Nat):Int)=8 from rfl,show((4:Nat):Int)=4 from rfl,show((1:Nat):Int)=1 from rfl]at z r q h g y e o v I K B U M E P O J;simp only[z,r,q,h,g,y,e,o,T,R,v,JC];have w:cF j x.2.2.2.2.2.2.2=some (j++x.2.2.2.2.2.2.2):=by unfold cF;rw[if_pos (by unfold J0 at*;omega)]
 rw[w];exact⟨_,rfl,by have:=ff w;omega⟩
theorem wn{b:qQC}(hb:J0 b<=8392): ∃f,oU b=some f/\J0 f=J0 b+8:=by
 unfold oU;rw[if_neg (λc=>by have:=gM.1 c;omega)];have r:0<=J0 b:=J6;have v:J0 ([]:qQC)=0:=rfl;obtain⟨y,p,q,l⟩:=dK (s:=[]) (n:=J0 b) (k:=4) qQH qQH qQH;simp only[show((4:Nat):Int)=4 from rfl]at q l;rw[q];simp only[JC];have e:cF y b=some (y++b):=by unfold cF;rw[if_pos (by unfold J0 at*;omega)]
 rw[e];simp only[JC];have j:=ff e;rw[fr _ oo];simp only[JC];obtain⟨z,o,g,h⟩:=dK (s:=y++b) (n:=aU .i64 ((bw (y++b):Nat):Int)) (k:=4) qQH qQH oo;simp only[show((4:Nat):Int)=4 from rfl]at g h;rw[g];exact⟨z,rfl,by omega⟩
theorem JLb(r:J7): ∃y,xP r=some y/\J0 y=33:=by unfold xP;have O:J0 ([80,77,82,78]:qQC)=4:=rfl;obtain⟨v,N,j,E⟩:=dK (s:=[80,77,82,78]) (n:=r.1) (k:=8) qQH qQH qQH;obtain⟨H,L,q,F⟩:=dK (s:=v) (n:=r.2.1) (k:=8) qQH qQH oo;obtain⟨x,I,o,A⟩:=dK (s:=H) (n:=r.2.2.1) (k:=4) qQH qQH oo;obtain⟨D,K,h,B⟩:=dK (s:=x) (n:=r.2.2.2.1) (k:=4) qQH qQH oo;obtain⟨z,J,g,w⟩:=dK (s:=D) (n:=r.2.2.2.2.1) (k:=1) qQH qQH oo;obtain⟨C,M,e,G⟩:=dK (s:=z) (n:=J0 r.2.2.2.2.2) (k:=4) qQH qQH oo;simp only[show((8:Nat):Int)=8 from rfl,show((4:Nat):Int)=4 from rfl,show((1:Nat):Int)=1 from rfl]at j q o h g e E F A B w G;simp only[j,q,o,h,g,e,JC];exact⟨C,rfl,by omega⟩
theorem JNj{x:J7}(h:gH x):CC x=nP x:=by
 obtain⟨v,E,C,hR⟩:=vv h;have e:CC x=IS iG xO mE nO (λx=>x.2.2.2.2.2) x:=rfl;rw[e];unfold IS nP;rw[E,C];simp only[JC];cases v with
 |false=>rw[if_neg (show¬false=true by decide),if_pos (show Jj false=true by decide)]
 |true=>
  rw[if_pos rfl,if_neg (show¬Jj true=true by decide),JNU];have R:=hR rfl;obtain⟨y,D,A⟩:=JLb x;obtain⟨f,hf,z⟩:=wn (b:=y) oo;rw[D];simp only[JC];rw[u6,hf];simp only[JC];rw[if_pos (by unfold J0 at z A;omega)];have w: ∀e∈pl x,Ty.fit 16384 9223372036854775807 J3 e:=h.2.2.2.2.2.2;have o: ∀e∈pl x,JO e=some true/\J0 e.2.2.2.2.2.2.1.2.2.1.2<=12/\J0 e.2.2.2.2.2.2.1.2.2.2.2<=12/\e.2.2.2.2.2.2.2=[]:=λe g=>by obtain⟨j,F⟩:=tK.1 g;obtain⟨k,n,_⟩:=R.2.2.1 j e F;obtain⟨_,_,_,_,_,_,_,_,_,_,b1,b2,_⟩:=EF.of k n;have c:=(VW (B:=16384) (S:=9223372036854775807) (X:=e.2.2.2.2.2.2.1) (w e g).2.2.2.2.2.2.1).get b2;exact⟨k,(c.2 rfl).2.2.2.2.1,(c.2 rfl).2.2.2.2.2,b1⟩
  refine JLr R.2.1 (λe g=>?_) (λe g=>?_) (λb hb=>wn hb) (pl x) 0 f rfl (zQ2 _) oo;obtain⟨k,n,q,r⟩:=o e g;exact JNH (Iu e) oo oo;obtain⟨k,n,q,r⟩:=o e g;exact JI3 k n q (by rw[r];decide)
theorem JR4(x:Int×qQC×Int):vD x=(JU (x.2.1,x.2.2,x.1)).map λv=>(v,x.2.1,J1 .i64 x.2.2 x.1):=by
 obtain⟨n,s,a⟩:=x;unfold vD JU;dsimp only;rw[RO];cases JS (s,a,n)with
 |none=>rfl
 |some y=>rfl
theorem JOC{s:qQC}(h:J0 s=33):GU s=(aT s none (some 4)).bind λk=>if neS k [80,77,82,78]=true then some (0,0,0,0,0,0,false,[])else
  (JU (s,4,8)).bind λa=>(JU (s,12,8)).bind λb=>(JU (s,20,4)).bind λc=>(JU (s,24,4)).bind λd=>(JU (s,28,1)).bind λe=>(JU (s,29,4)).bind λn=>
   some (a,b,c,d,e,n,aV n 4096,[]):=by
 unfold GU sv tf;dsimp only;have j:J0 ([80,77,82,78]:qQC)=4:=rfl;rw[h,if_pos (show aN 33 33=false by decide),j,if_pos (show aP 33 4=true by decide)];cases aT s none (some 4)with
 |none=>rfl
 |some y=>
  simp only[JC];by_cases g:y=[80,77,82,78];subst g;rw[if_neg (show¬Jj (eqS [80,77,82,78] [80,77,82,78])=true by decide),if_neg (show¬neS [80,77,82,78] [80,77,82,78]=true by decide)];simp only[JR4,show J1 .i64 4 8=12 by decide,show J1 .i64 12 8=20 by decide,show J1 .i64 20 4=24 by decide,show J1 .i64 24 4=28 by decide,show J1 .i64 28 1=29 by decide];cases JU (s,4,8)with
  |none=>rfl
  |some a=>
   simp only[cM,JC,show J1 .i64 4 8=12 by decide];cases JU (s,12,8)with
   |none=>rfl
   |some b=>
    simp only[cM,JC,show J1 .i64 12 8=20 by decide];cases JU (s,20,4)with
    |none=>rfl
    |some c=>
     simp only[cM,JC,show J1 .i64 20 4=24 by decide];cases JU (s,24,4)with
     |none=>rfl
     |some d=>
      simp only[cM,JC,show J1 .i64 24 4=28 by decide];cases JU (s,28,1)with
      |none=>rfl
      |some e=>
       simp only[cM,JC,show J1 .i64 28 1=29 by decide];cases JU (s,29,4)with
       |none=>rfl
       |some n=>rfl
  have o:neS y [80,77,82,78]=true:=by simp[neS,g]
  have q:Jj (eqS y [80,77,82,78])=true:=by simp[eqS,g,Jj]
  rw[if_pos o,if_pos q]
theorem JMI{s:qQC}(h: ¬J0 s=33):GU s=some (0,0,0,0,0,0,false,[]):=by unfold GU;rw[if_neg (by rw[<-Bool.not_eq_true,eJ];exact λt=>t h)]
theorem JN6{x:qQC×Jr}{y:Jr}(h:JS x=some y): -9223372036854775808<=y.1/\y.1<=9223372036854775807:=by
 have e:Par (JS x) λy=> -9223372036854775808<=y.1/\y.1<=9223372036854775807:=by unfold JS;refine .j (λ_=>.k (λ_=>.l (λ_=>.s qQH) λ_=>.k (λ_=>.l (λ_=>.s qQH) λ_=>?_) λ_=>.s qQH) λ_=>.s qQH) λ_=>.s qQH;refine .z (λ_=>True) trivial ?_;intro z _;unfold CB;exact .l (λ_=>.b λ_ _=>.b λ_ _=>.s qQG) λ_=>.s (rZ .i64 _)
 exact e _ h
theorem LY{x:qQC×Jr}{n:Int}(h:JU x=some n): -9223372036854775808<=n/\n<=9223372036854775807:=by unfold JU at h;obtain⟨y,g,e⟩:=bR.1 h;injection e with e;subst e;exact JN6 g
theorem Mi{x:qQC}(hl:J0 x<=1073741824):OK x=xZ x:=by
 unfold OK xZ;rw[xg hl];cases hu:qY (x,0)with
 |none=>rfl
 |some g=>
  dsimp only[Option.bind_some];by_cases c:aN g.2.2 0=true;rw[if_pos c,if_pos c];rw[if_neg c,if_neg c];have V:g.2.2=0:=Decidable.of_not_not λt=>c (eJ.2 t);by_cases h:J0 g.1=33;rw[JOC h,if_pos (by rw[<-Bool.not_eq_true,eJ];exact λt=>t h)];cases aT g.1 none (some 4)with
  |none=>rfl
  |some Q=>
   dsimp only[Option.bind_some];by_cases D:neS Q [80,77,82,78]=true;rw[if_pos D,if_pos D];rfl;rw[if_neg D,if_neg D];cases ha:JU (g.1,4,8)with
   |none=>rfl
   |some a=>
    cases hb:JU (g.1,12,8)with
    |none=>rfl
    |some b=>
     cases hc:JU (g.1,20,4)with
     |none=>rfl
     |some c=>
      cases hd:JU (g.1,24,4)with
      |none=>rfl
      |some d=>
       cases he:JU (g.1,28,1)with
       |none=>rfl
       |some e=>
        cases hf:JU (g.1,29,4)with
        |none=>rfl
        |some n=>
         dsimp only[Option.bind_some];by_cases M:4096<n;rw[if_pos (gM.2 M),if_pos (show Jj (aV n 4096)=true by rw[show aV n 4096=false by rw[<-Bool.not_eq_true,dA];omega];rfl)];rw[if_neg (λt=>M (gM.1 t)),if_neg (show¬Jj (aV n 4096)=true by rw[dA.2 oo];decide)];have F:=((GW (B:=0) (S:=1073741824) (X:=(x,0)) ⟨hl,mR .i64 0⟩).get hu).2 V;refine jo (λz w=>z=w/\z.1=x/\(0<=z.2.1/\z.2.1<=J0 x)/\z.2.2.1=n/\0<=z.2.2.2.1/\z.2.2.2.2.2.2.2.2.2.2.2=([],a,b,c,d,e)/\J0 z.2.2.2.2.2.2.2.2.2.2.1<=z.2.2.2.1/\(z.2.2.2.1<=n\/z.2.2.2.1<=0)/\ ∀q∈z.2.2.2.2.2.2.2.2.2.2.1,Ty.fit 16384 9223372036854775807 J3 q) ?_ ⟨rfl,rfl,⟨F.1,F.2.1⟩,rfl,bB _,rfl,bB _,.inr (bB _),nofun⟩;rintro⟨s,p,m,i,w1,w2,w3,w4,w5,w6,l,w7⟩ w ⟨rfl,N,Y,K,T,I,P,O,H⟩;dsimp only at N Y K T I P O H;subst N K I;unfold Dv mz;dsimp only;by_cases j:aL i m=true;rw[if_pos j,if_pos j,xg hl];have j:=Jt.1 j;cases hU:qY (s,p)with
         |none=>exact .inl ⟨rfl,rfl⟩
         |some u=>
          dsimp only[Option.bind_some];by_cases y:aN u.2.2 0=true;rw[if_pos y,if_pos y];exact .inr (.inl ⟨_,rfl,rfl⟩);rw[if_neg y,if_neg y,JNh Iu];have E:u.2.2=0:=Decidable.of_not_not λt=>y (eJ.2 t);cases hD:yE u.1 with
          |none=>exact .inl ⟨rfl,rfl⟩
          |some v=>
           dsimp only[Option.bind_some];by_cases k:aN v.2 0=true;rw[if_pos k];exact .inr (.inl ⟨_,rfl,rfl⟩);rw[if_neg k];cases hA:Js 128 l [v.1]with
           |none=>exact .inl ⟨rfl,rfl⟩
           |some R=>
            have L:R=l++[v.1]:=(by unfold Js at hA;split at hA;injection hA with hA;exact hA.symm;cases hA);have G:=(GW (B:=0) (S:=1073741824) (X:=(s,p)) ⟨hl,J2.2 (show -9223372036854775808<=p/\p<=9223372036854775807 by omega)⟩).get hU;have U:=(ma (B:=0) (S:=1073741824) (X:=u.1) G.1.1).get hD;have o:=Jk i 1;refine .inr (.inr ⟨_,_,rfl,rfl,rfl,rfl,⟨(G.2 E).1,(G.2 E).2.1⟩,rfl,?_,rfl,?_,?_,?_⟩);dsimp only;omega;subst L;dsimp only;rw[cJ,cB];omega;dsimp only;omega;subst L;intro q A;rcases zQ9.1 A with A|A;exact H q A;rw[kG.1 A];exact Ty.fit.up qQH qQH U.1
         rw[if_neg j,if_neg j];by_cases C:aL p (J0 s)=true;have J:=Jt.1 C;rw[if_pos C,if_pos (eJ.2 oo)];exact .inr (.inl ⟨_,rfl,rfl⟩);have J: ¬p<J0 s:=λt=>C (Jt.2 t);rw[if_neg C,if_neg (λt=>eJ.1 t oo)];obtain⟨v,W,Z,_⟩:=vv (r:=(a,b,c,d,e,l)) ⟨J2.2 (LY ha),J2.2 (LY hb),J2.2 (LY hc),J2.2 (LY hd),J2.2 (LY he),by show J0 l<=16384;omega,H⟩;rw[W,Z];dsimp only[Option.bind_some];by_cases k:Jj v=true;rw[if_pos k];exact .inr (.inl ⟨_,rfl,rfl⟩);rw[if_neg k];exact .inr (.inl ⟨_,rfl,rfl⟩)
  rw[JMI h,if_neg (by rw[<-Bool.not_eq_true,eJ];exact λt=>t h)];rfl
theorem wO:J0 (pl ((0,0,0,0,0,[]):J7))<=4096:=by decide
theorem gv{x:qQC}(hl:J0 x<=1073741824):Tot (xZ x) λy=>J0 (pl y.1)<=4096/\(y.2=0->dV y.1/\gH y.1):=by
 unfold xZ;refine .b ((GW (B:=0) (S:=1073741824) (X:=(x,0)) ⟨hl,mR .i64 0⟩)) λj h2=>.d (λc=>.s ⟨wO,λk=>absurd k c⟩) λJ=>.q (λT=>?_) λ_=>.s ⟨wO,λk=>absurd k qQH⟩;obtain⟨U,I,_⟩:=vP (l:=j.1) (k:=4) qQH oo;have num: ∀a k:Int, -9223372036854775808<=a/\a<=9223372036854775807-> -9223372036854775808<=k/\k<=9223372036854775807->Tot (JU (j.1,a,k)) λn=> -9223372036854775808<=n/\n<=9223372036854775807:=λa k C hk=>
  (Vx (B:=0) (S:=1073741824) (X:=(j.1,a,k)) ⟨h2.1.1,J2.2 C,J2.2 hk⟩).mono λn h=>J2.1 h
 refine .w I (.i (λ_=>.s ⟨wO,λk=>absurd k qQH⟩) λ_=>.b (num 4 8 qQH qQH) λa C=>.b (num 12 8 qQH qQH) λb hb=>.b (num 20 4 qQH qQH) λc hc=>.b (num 24 4 qQH qQH) λd hd=>.b (num 28 1 qQH qQH) λe O=>.b (num 29 4 qQH qQH) λn Z=>.g (λ_=>.s ⟨wO,λk=>absurd k qQH⟩) λW=>?_);have w:=h2.2 J;refine Jn (τ:=Int×Int×List aA) (λq=>(x,q.1,n,q.2.1,[],0,0,0,0,0,q.2.2,[],a,b,c,d,e)) (λq=>(0<=q.1/\q.1<=J0 x)/\0<=q.2.1/\(q.2.1<=n\/q.2.1<=0)/\J0 q.2.2<=q.2.1/\ ∀z∈q.2.2,Ty.fit 16384 9223372036854775807 J3 z) (λq=>n-q.2.1) ?_ (j.2.1,0,[]) rfl ⟨⟨w.1,w.2.1⟩,bB _,.inr (bB _),bB _,nofun⟩;rintro⟨p,i,l⟩ ⟨L,R,M,H,A⟩;dsimp only at L R M H A;unfold mz;dsimp only;have o:=Jk i 1;refine .l (λV=>?_) λ_=>.map (P:=λy=>J0 (pl y.1)<=4096/\(y.2=0->dV y.1/\gH y.1)) ?_ λ_ h=>h;refine .b ((GW (B:=0) (S:=1073741824) (X:=(x,p)) ⟨hl,J2.2 (show -9223372036854775808<=p/\p<=9223372036854775807 by omega)⟩)) λu F=>.d (λc=>.s ⟨wO,λk=>absurd k c⟩) λG=>.b (ma (B:=0) (S:=1073741824) (X:=u.1) F.1.1) λv Q=>.d (λc=>.s ⟨wO,λk=>absurd k c⟩) λD=>.w (eR (bytes:=128) (l:=l) (m:=[v.1]) (by rw[cB];omega) qQH) (.s ?_);have r:=F.2 G;refine⟨(u.2.1,J1 .i64 i 1,l++[v.1]),rfl,⟨⟨r.1,r.2.1⟩,?_,?_,?_,λz g=>?_⟩,?_,?_⟩;dsimp only;omega;dsimp only;omega;dsimp only;rw[cJ,cB];omega;rcases zQ9.1 g with g|g;exact A z g;rw[kG.1 g];exact Ty.fit.up qQH qQH Q.1;dsimp only;omega;omega;refine .d (λ_=>.s ⟨wO,λk=>absurd k qQH⟩) λ_=>?_;have E:gH (a,b,c,d,e,l):=⟨J2.2 C,J2.2 hb,J2.2 hc,J2.2 hd,J2.2 O,by show J0 l<=16384;omega,A⟩;obtain⟨v,Y,N,K⟩:=vv E;refine .w N (.n (λ_=>.s ⟨wO,λk=>absurd k qQH⟩) λD=>.s ⟨?_,λ_=>⟨K D,E⟩⟩);show J0 l<=4096;omega
section
theorem JN1(x:kK):cm x=sE x:=by
 unfold cm sE;split;cases idx x.1.1 x.2<;>cases idx x.1.1 (J1 .i64 x.2 1)<;>rfl
 rfl
theorem JNX(x:pp):de x=rI x:=by
 unfold de rI;refine jo (λs t=>s=(J0 x.1.1,t.1,x.1,x.2)/\t.2=(x.1,x.2)) ?_ ⟨rfl,rfl⟩;rintro s ⟨i,a,r⟩ ⟨rfl,h⟩;injection h with h1 h2;subst h1 h2;unfold E0 dm;dsimp only;by_cases c:aL i (J0 x.1.1)=true;rw[if_pos c,if_pos c,JN1];cases sE (x.1,i)with
 |none=>exact .inl ⟨rfl,rfl⟩
 |some y=>
  dsimp only[Option.bind_some];by_cases d:aK y.1 x.2.2.2.1=true;rw[if_pos d,if_pos d];by_cases e:aK y.2 x.2.2.2.2.1=true;rw[if_pos e,if_pos e];exact .inr (.inl ⟨_,rfl,rfl⟩);rw[if_neg e,if_neg e];exact .inr (.inr ⟨_,_,rfl,rfl,rfl,rfl⟩);rw[if_neg d,if_neg d];exact .inr (.inr ⟨_,_,rfl,rfl,rfl,rfl⟩)
 rw[if_neg c,if_neg c];exact .inr (.inl ⟨_,rfl,rfl⟩)
theorem YW{a:Jd}(h:J0 a.1<=16)(r:J7):Tot (rI (a,r)) λy=>(y= -1\/(0<=y/\y<J0 a.1))/\(0<=y->idx a.1 y=some r.2.2.1):=by
 unfold rI;refine fI (l:=a.1) (λi (_:Unit)=>(i,a,r)) (λ_ _=>True) (λpre x t _ g _=>?_) (λ_ _=>?_) a.1 [] () _ rfl rfl trivial;unfold dm;dsimp only;have lt:=dP g;have j:=J6 (l:=pre);have o:=eS g (n:=16) h;rw[if_pos (Jt.2 lt)];have k:Tot (sE (a,J0 pre)) λy=>y.1=x:=by unfold sE;dsimp only;have v:=Jk (J0 pre) 1;refine .l (λc=>?_) λc=>.w (eO g) (.s rfl);obtain⟨w,e,_⟩:=jC (l:=a.1) (i:=J1 .i64 (J0 pre) 1) oo c;exact .w e (.w (eO g) (.s rfl))
 refine .b k λy q=>.e (λc=>.e (λ_=>.s ⟨.inr ⟨j,lt⟩,λ_=>?_⟩) λ_=>.s ⟨(),by rw[o],qQG⟩) λ_=>.s ⟨(),by rw[o],qQG⟩;rw[eO g,<-q,c];unfold dm;dsimp only;rw[if_neg (by rw[Jt];omega)];exact .s ⟨.inl rfl,λh=>absurd h qQH⟩
def rt(a:Jd)(f:aH)(r:J7)(p:Int):Prop:=f.1=1/\xZ f.2.2=some (r,0)/\rI (a,r)=some p/\0<=p
theorem rt.uniq{a:Jd}{f:aH}{r r':J7}{p j:Int}(h:rt a f r p)(g:rt a f r' j):r=r'/\p=j:=by have e:=h.2.1.symm.trans g.2.1;injection e with e;injection e with e _;subst e;have k:=h.2.2.1.symm.trans g.2.2.1;injection k with k;exact⟨rfl,k⟩
variable {a:Jd} (hb:J0 a.1<=16) {f:aH} (hs:J0 f.2.2<=1073741824)
include hb hs
theorem JRO:Tot (ZS (a,f)) λy=>(y.2<J0 a.1/\rt a f y.1 y.2)\/(y.2= -1/\ ∀r p,¬rt a f r p):=by unfold ZS;dsimp only;refine .d (λc=>.s (.inr ⟨rfl,λr p h=>c h.1⟩)) λc=>.b (gv hs).eqn λy h=>.d (λd=>.s (.inr ⟨rfl,λr p k=>d (by have:=h.2.symm.trans k.2.1;injection this with this;rw[this])⟩)) λd=>.b (YW hb y.1).eqn λq j=>.s ?_;obtain⟨r,z⟩:=y;dsimp only at d;subst d;dsimp only at j⊢;rcases j.1.1 with k|k;subst k;exact .inr ⟨rfl,λr' n k=>by have e:=h.2.symm.trans k.2.1;injection e with e;injection e with e _;subst e;have g:=j.2.symm.trans k.2.2.1;injection g with g;have:=k.2.2.2;omega⟩;exact .inl ⟨k.2,c,h.2,j.2,k.1⟩
theorem JRC:Tot (df (a,f)) λy=>(y.2=true/\ ∃p,p<J0 a.1/\rt a f y.1 p)\/(y.2=false/\ ∀r p,¬rt a f r p):=by unfold df;dsimp only;refine .d (λc=>.s (.inr ⟨rfl,λr p h=>c h.1⟩)) λc=>?_;rw[Mi hs];refine .b (gv hs).eqn λy h=>.e (λd=>?_) λd=>.s (.inr ⟨rfl,λr p k=>d (by have:=h.2.symm.trans k.2.1;injection this with this;rw[this])⟩);rw[JNX];refine .b (YW hb y.1).eqn λq j=>.s ?_;obtain⟨r,z⟩:=y;dsimp only at d;subst d;dsimp only at j⊢;rcases j.1.1 with k|k;subst k;exact .inr ⟨rfl,λr' n k=>by have e:=h.2.symm.trans k.2.1;injection e with e;injection e with e _;subst e;have g:=j.2.symm.trans k.2.2.1;injection g with g;have:=k.2.2.2;omega⟩;exact .inl ⟨iS.2 k.1,q,k.2,c,h.2,j.2,k.1⟩
omit hb hs
def gc(a:Jd)(f:aH):Option aC:= @dite _ (∃r p,rt a f r p) (Classical.propDecidable _) (λh=>some (h.choose,f.2.1)) λ_=>none
theorem iw{r:J7}{p:Int}(h:rt a f r p):gc a f=some (r,f.2.1):=by have k: ∃r p,rt a f r p:=⟨r,p,h⟩;unfold gc;rw[dif_pos k];obtain⟨q,e⟩:=k.choose_spec;rw[(e.uniq h).1]
theorem ui(h: ∀r p,¬rt a f r p):gc a f=none:=by unfold gc;rw[dif_neg];exact fun⟨r,p,k⟩=>h r p k
theorem RJ{x:aC}(h:gc a f=some x):x.2=f.2.1/\ ∃p,rt a f x.1 p:=by unfold gc at h;split at h;rename_i k;injection h with h;subst h;exact⟨rfl,k.choose_spec⟩;cases h
def gT(a:Jd):List aC:=a.2.2.1.filterMap (gc a)
theorem rt.ok{r:J7}{p:Int}(h:rt a f r p)(hs:J0 f.2.2<=1073741824):dV r/\gH r:=by exact((gv hs).get h.2.1).2 rfl
end
def NJ{α:Type}(p:α->Bool)(l:List α)(i:Int):Prop:=(i= -1/\ ∀x∈l,p x=false)\/ ∃pre x t,l=pre++x::t/\i=J0 pre/\p x=true/\ ∀y∈pre,p y=false
theorem SH{σ ρ α:Type}{L:σ->Option (σ⊕ρ)}(p:α->Bool){l:List α}(e:Int->σ)(r:Int->ρ)
  (hs: ∀pre x t,l=pre++x::t->L (e (J0 pre))=if p x=true then some (.inr (r (J0 pre)))else some (.inl (e (J0 (pre++[x])))))
  (he:L (e (J0 l))=some (.inr (r (-1)))):Tot (J4 L (e 0)) λy=> ∃i,y=r i/\NJ p l i:=by refine fI (l:=l) (λi (_:Unit)=>e i) (λpre _=> ∀y∈pre,p y=false) (λpre x t _ j g=>?_) (λ_ g=>?_) l [] () _ rfl rfl nofun;rw[hs pre x t j];by_cases c:p x=true;rw[if_pos c];exact .s ⟨_,rfl,.inr ⟨pre,x,t,j,rfl,c,g⟩⟩;rw[if_neg c];refine .s ⟨(),rfl,λy k=>?_⟩;rcases zQ9.1 k with h|h;exact g y h;rw[kG.1 h];simpa using c;rw[he];exact .s ⟨_,rfl,.inl ⟨rfl,g⟩⟩
theorem RA{σ ρ α:Type}{L:σ->Option (σ⊕ρ)}{Q:ρ->Prop}(p:α->Bool){l:List α}(e:Nat->Nat->List α->σ)
  (hk: ∀i j k x,i<k.length->k[j]?=some x->k.length=l.length->p x=false->L (e i j k)=some (.inl (e (i+1) (j+1) (k.set i x))))
  (hd: ∀i j k x,k[j]?=some x->k.length=l.length->p x=true->L (e i j k)=some (.inl (e i (j+1) k)))
  (he: ∀i k,k.length=l.length->i<k.length->k.take i=l.filter (λx=> !p x)->Tot (L (e i l.length k)) (yO Q)):
  ∀(t:List α) (i j:Nat) (k:List α),j+t.length=l.length->l.drop j=t->k.drop j=t->k.length=l.length->i<j->k.take i=(l.take j).filter (λx=> !p x)->Tot (J4 L (e i j k)) Q
 |[],i,j,k,h1,h2,v,n,B,o=>by
  have A:j=l.length:=by simpa using h1
  subst A;rw[List.take_length]at o;refine .step ((he i k n oo o).mono λr h=>?_);cases r with
  |inl z=>exact h.elim
  |inr y=>exact h
 |x::t,i,j,k,h1,h2,v,n,B,o=>by
  have g: ∀{m:List α},m.drop j=x::t->m[j]?=some x/\m.drop (j+1)=t:=fun{m} h=>by refine⟨by rw[<-List.head?_drop,h];rfl,?_⟩;rw[<-vJ,h];rfl
  obtain⟨C,w⟩:=g h2;obtain⟨b1,b2⟩:=g v;rw[mI]at h1;have q:(l.take (j+1)).filter (λx=> !p x)=(l.take j).filter (λx=> !p x)++[x].filter (λx=> !p x):=by rw[List.take_add_one,C,List.filter_append];rfl
  by_cases c:p x=true;refine .step ?_;rw[hd i j k x b1 n c];refine .s (RA p e hk hd he t i (j+1) k oo w b2 n oo ?_);rw[q,o,List.filter_cons_of_neg (by simp[c])];simp;have c:p x=false:=by simpa using c
  refine .step ?_;rw[hk i j k x oo b1 n c];refine .s (RA p e hk hd he t (i+1) (j+1) (k.set i x) oo w ?_ (by rw[List.length_set];exact n) oo ?_);rw[List.drop_set_of_lt oo];exact b2;rw[q,<-o,List.filter_cons_of_pos (by simp[c])];rw[List.take_add_one,List.take_set_of_le (zQ0 i),DD oo];rfl
theorem JNQ{n len:Nat}(h:n<len):yR (n:Int) len=some n:=by unfold yR;rw[if_pos oo];simp
theorem JN8{n len:Nat}(h:n<=len):yP (n:Int) len=some n:=by unfold yP;rw[if_pos oo];simp
theorem EM{n i:Nat}(h:i<n):aW n (i:Int)=some ():=by grind [aW]
theorem wF{n:Nat}(h:n<4611686018427387904):J1 .i64 (n:Int) 1=((n+1:Nat):Int):=by grind [Jk]
theorem L2{β:Type}{t:Ty}{e:List t.D}{i:Nat}{Q:β->Prop}{k:List t.D->Nat->Option β}(h:i<e.length)(hk: ∀m,m.take i=e.take i->Tot (k m i) Q):
  Tot ((yR (i:Int) (List.length e)).bind λn=>(EB t n e).bind λg=>(yP (i:Int) (List.length g)).bind λj=>k g j) Q:=by
 refine .w (JNQ h) ?_;unfold EB;rw[if_pos (Nat.le_of_lt h)];refine .w rfl ?_;have o:i<=(e.take i++List.replicate (e.length-i) t.zero).length:=by simp;omega
 refine .w (JN8 o) (hk _ ?_);rw[List.take_append_of_le_length (by simp;omega),List.take_take,Nat.min_self]
theorem Km{l:List aA}{j:Nat}{x:aA}(h:l[j]?=some x):j<l.length:=(eH.1 h).1
theorem JLw{r:J7}{to:Int}(hl:J0 (pl r)<=4096)(h0:0<=to)(h1:to<=1099511627776):CU (r,to)=some (md r to):=by
 have z:Tot (CU (r,to)) λy=>y=md r to:=by
  unfold CU md;dsimp only;refine .g (λc=>.s (by rw[if_pos c])) λc=>?_;rw[if_neg c];refine .w (JOQ (l:=pl r) oo) ?_;have B:Tot (dz (pl r,to)) λy=>y.2.2=(pl r).filter λe=>decide (to<e.1):=by
   have A: ∀l:List aA,l.filter (λx=> !aV x.1 to)=l.filter λe=>decide (to<e.1):=λl=>by
    congr 1;funext x;unfold aV;rw[<-decide_not];congr 1;simp
   unfold dz;dsimp only;have D:Tot (tm (pl r,to)) λy=> ∃i,y=(i,pl r,to)/\NJ (λe:aA=>aV e.1 to) (pl r) i:=(by refine SH (λe:aA=>aV e.1 to) (l:=pl r) (λi=>(J0 (pl r),i,pl r,to)) (λi=>(i,pl r,to)) (λpre x t h=>?_) ?_;unfold tg;dsimp only;rw[if_pos (Jt.2 (dP h)),ew h,e8 h,eS h (n:=4096) hl];rfl;unfold tg;dsimp only;rw[if_neg (by rw[Jt];omega)]);refine .b D λy h=>?_;obtain⟨i,rfl,hi⟩:=h;dsimp only;rw[if_pos (by simp[rM])];rcases hi with⟨rfl,hi⟩|⟨pre,x,t,g,rfl,H,F⟩;rw[if_pos qQH];refine .s ?_;rw[<-A,List.filter_eq_self.2];intro a v;simp[hi a v];have K:=J6 (l:=pre);rw[if_neg (by rw[fH];omega)];have hlen:(pl r).length=pre.length+1+t.length:=by rw[g];simp;omega
   have J:(pl r).length<=4096:=by unfold J0 at hl;omega
   have st:=RA (Q:=λy:List aA×Int×List aA=>y.2.2=(pl r).filter λe=>decide (to<e.1)) (λe:aA=>aV e.1 to) (l:=pl r) (L:=PI) (λi j k=>((i:Int),(j:Int),k,to)) (λi j k x h1 h2 C q=>?_) (λi j k x h2 C q=>?_) (λi k C q E=>?_) t pre.length (pre.length+1) (pl r) oo (by rw[g];simp) (by rw[g];simp) rfl oo (by
    rw[g,List.take_append_of_le_length (zQ0 _),List.take_length,List.take_add_one];have:(pre++x::t)[pre.length]?=some x:=by simp
    rw[this,List.take_append_of_le_length (zQ0 _),List.take_length,List.filter_append,List.filter_eq_self.2 (λa v=>by simp[F a v])];simp[H])
   rw[show J1 .i64 (J0 pre) 1=((pre.length+1:Nat):Int)from wF oo];exact st;have w:=Km h2;unfold PI;dsimp only;rw[if_pos (Jt.2 (by unfold J0;omega)),EM w];simp only[JC,bD,Int.toNat_natCast,h2,PE,q];rw[if_pos (show Jj false=true from rfl),EM h1,aY h1,wF (show i<4611686018427387904 by omega),wF (show j<4611686018427387904 by omega)];rfl;have w:=Km h2;unfold PI;dsimp only;rw[if_pos (Jt.2 (by unfold J0;omega)),EM w];simp only[JC,bD,Int.toNat_natCast,h2,PE,q];rw[if_neg qQH,wF (show j<4611686018427387904 by omega)];unfold PI;dsimp only;rw[if_neg (by rw[Jt];unfold J0;omega)];refine .endq (L2 (t:=J3) q λm I=>.s (show List.take i m=_ from(I.trans E).trans (A _)))
  have o:=Jk to 1;refine .b B λy G=>.s ?_;rw[G,show J1 .i64 to 1=to+1 by omega]
 obtain⟨y,e,d⟩:=z;rw[e,d]
section
def mt(x y:aC):Bool:= @decide (¬wd y x) (Classical.propDecidable _)
theorem JPB(p q r:Int):sO [p,q,r]=some (if p=0 then(if q=0 then r else q)else p):=by
 unfold sO;have o:yH (0,[p,q,r],J0 [p,q,r],0)=if aN p 0=true then some (.inr p)else some (.inl (0,[p,q,r],J0 [p,q,r],1)):=rfl
 have j:yH (0,[p,q,r],J0 [p,q,r],1)=if aN q 0=true then some (.inr q)else some (.inl (0,[p,q,r],J0 [p,q,r],2)):=rfl
 have n:yH (0,[p,q,r],J0 [p,q,r],2)=if aN r 0=true then some (.inr r)else some (.inl (0,[p,q,r],J0 [p,q,r],3)):=rfl
 have v:yH (0,[p,q,r],J0 [p,q,r],3)=some (.inr 0):=rfl;by_cases e:p=0;rw[if_pos e,eW (o.trans (if_neg (by rw[eJ];exact λk=>k e)))];by_cases g:q=0;rw[if_pos g,eW (j.trans (if_neg (by rw[eJ];exact λk=>k g)))];by_cases h:r=0;rw[eW (n.trans (if_neg (by rw[eJ];exact λk=>k h))),dG v,h];exact dG (n.trans (if_pos (eJ.2 h)));rw[if_neg g];exact dG (j.trans (if_pos (eJ.2 g)));rw[if_neg e];exact dG (o.trans (if_pos (eJ.2 e)))
theorem vp{x y:Int}:hW x y=0↔x=y:=by
 unfold hW;repeat' split
 all_goals first|omega|(constructor<;>intro h<;>omega)
theorem ik{x y:Int}:hW x y<0↔x<y:=by
 unfold hW;repeat' split
 all_goals first|omega|(constructor<;>intro h<;>omega)
theorem JRy:KC CP mt:=by intro x y;refine⟨if hW x.1.2.2.1 y.1.2.2.1=0 then(if hW x.1.1 y.1.1=0 then hW x.2 y.2 else hW x.1.1 y.1.1)else hW x.1.2.2.1 y.1.2.2.1,?_,?_⟩;unfold CP;dsimp only;rw[IQ,IQ,IQ];simp only[JC];rw[JPB];rfl;have e:(!mt y x)= @decide (wd x y) (Classical.propDecidable _):=(by unfold mt;by_cases c:wd x y<;>simp[c]);rw[e,Bool.eq_iff_iff,Jt];simp only[decide_eq_true_eq];unfold wd;have h:=vp (x:=x.1.2.2.1) (y:=y.1.2.2.1);have j:=ik (x:=x.1.2.2.1) (y:=y.1.2.2.1);have b1:=vp (x:=x.1.1) (y:=y.1.1);have b2:=ik (x:=x.1.1) (y:=y.1.1);have g:=ik (x:=x.2) (y:=y.2);by_cases h1:hW x.1.2.2.1 y.1.2.2.1=0;rw[if_pos h1];by_cases h2:hW x.1.1 y.1.1=0;rw[if_pos h2];omega;rw[if_neg h2];omega;rw[if_neg h1];omega
theorem AK{x y:aC}:mt x y=true↔ ¬wd y x:=by unfold mt;simp
def CR(a:Jd):List aC:=ST mt (gT a)
def WR(a:Jd):List TX:=rd (-1) 0 (CR a)
def FZ(a:Jd):Prop:= ∀f∈a.2.2.1,J0 f.2.2<=1073741824
variable {a:Jd} (h:lS a) (hf:FZ a)
include h hf
theorem FM{x:aC}(hx:x∈gT a): ∃f∈a.2.2.1,x.2=f.2.1/\(∃p,p<J0 a.1/\rt a f x.1 p/\idx a.1 p=some x.1.2.2.1)/\dV x.1/\gH x.1:=by obtain⟨f,h1,h2⟩:=List.mem_filterMap.1 hx;obtain⟨e,p,g⟩:=RJ h2;have k:=(YW h.len.2 x.1).get g.2.2.1;rcases k.1 with q|q;have:=g.2.2.2;omega;exact⟨f,h1,e,⟨p,q.2,g,k.2 g.2.2.2⟩,g.ok (hf f h1)⟩
theorem JNJ:(gT a).Pairwise λx y=>x.2<y.2:=by unfold gT;rw[List.pairwise_filterMap];refine h.ids.imp fun{f g} k x j y e=>?_;rw[(RJ j).1,(RJ e).1];exact k
theorem ey:(gT a).length<=256:=by have:=h.few;unfold J0 at this;have:=List.length_filterMap_le (gc a) a.2.2.1;unfold gT;omega
theorem RH{x:aC}:x∈CR a↔x∈gT a:=(SD (le:=mt) (gT a)).mem_iff
theorem Hz:(CR a).Pairwise wd:=by
 have s:=zT (le:=mt) (λx y z h1 h2=>by rw[AK]at*;unfold wd at*;omega) (λx y=>by rw[AK,AK];unfold wd;omega) (gT a);have n:(CR a).Pairwise λx y=>x.2≠y.2:=by refine((SD (le:=mt) (gT a)).pairwise_iff fun{x y} k e=>k e.symm).2 ?_;exact(JNJ h hf).imp λk e=>by omega
 refine(List.pairwise_and_iff.2 ⟨s,n⟩).imp fun{x y} k=>?_;rcases wd.tri x y with q|q|q;exact q;exact absurd q (AK.1 k.1);exact absurd q k.2
theorem qh{x:aC}(hx:x∈CR a):dV x.1/\gH x.1:=by obtain⟨f,_,_,_,k⟩:=FM h hf ((RH h hf).1 hx);exact k
theorem Kd:(CR a).length<=256:=by unfold CR;rw[hZ];exact ey h hf
theorem JRi:OP a=some ((WR a).map (·.1),(WR a).map (·.2.1)):=by
 have F:Tot (OP a) λy=>y=((WR a).map (·.1),(WR a).map (·.2.1)):=by
  unfold OP;refine .b (Hu a) λy N=>.n (λc=>by rw[N.2 h]at c;cases c) λ_=>fI (l:=a.2.2.1) (λi (b:List aC)=>(a.2.2.1,J0 a.2.2.1,i,a,[],[],b)) (λpre b=>b=pre.filterMap (gc a)) (λpre f t b o r=>?_) (λb r=>?_) a.2.2.1 [] [] _ rfl rfl rfl;have D:f∈a.2.2.1:=by rw[o];simp
  unfold nc;dsimp only;rw[if_pos (Jt.2 (dP o))];refine .w (eO o) (.b (JRC h.len.2 (hf f D)) λL g=>?_);rw[eS o (n:=256) h.few];rcases g with⟨C,p,_,B⟩|⟨C,B⟩;rw[C];refine .w (eR (l:=b) (m:=[(L.1,f.2.1)]) (by have:=List.length_filterMap_le (gc a) pre;have e:=h.few;have e2:=dP o;rw[r,cB];unfold J0 at*;omega) qQH) (.s ⟨_,rfl,?_⟩);rw[r,List.filterMap_append,List.filterMap_cons,iw B];rfl;rw[C];refine .s ⟨b,rfl,?_⟩;rw[r,List.filterMap_append,List.filterMap_cons,ui B];simp;subst r;unfold nc;dsimp only;rw[if_neg (by rw[Jt];omega)];refine .endq ?_;have Y:=ey h hf;refine .w (show tp (gT a)=some (CR a)from JOW (le:=mt) (λx y z h1 h2=>by rw[AK]at*;unfold wd at*;omega) (λx y=>by rw[AK,AK];unfold wd;omega) JRy oo) ?_;rw[if_pos (show rM (List.length (CR a)) (List.length (List.filterMap (gc a) a.2.2.1))=true by show rM (List.length (CR a)) (List.length (gT a))=true;unfold CR;rw[hZ];simp[rM])];have Z:=Kd h hf;refine fI (l:=CR a) (λi (b:Int×Int×List TX)=>(b.1,b.2.1,J0 (CR a),i,a,b.2.2.map (·.1),b.2.2.map (·.2.1),CR a)) (λpre b=>(0<=b.2.1/\b.2.1<=1099511627776)/\b.2.2.length<=pre.length/\ ∀t,rd (-1) 0 (pre++t)=b.2.2++rd b.1 b.2.1 t) (λpre x t b o r=>?_) (λb r=>?_) (CR a) [] (-1,0,[]) _ rfl rfl ⟨⟨by decide,by decide⟩,zQ0 _,λt=>rfl⟩;obtain⟨lo,to,A⟩:=b;obtain⟨v,E,w⟩:=r;dsimp only at v E w⊢;have G:x∈CR a:=by rw[o];simp
  obtain⟨H,W⟩:=qh h hf G;obtain⟨O,V,S,T,Q,R,U,P⟩:=H.1;have lp:pre.length<256:=by
   have:(CR a).length=pre.length+(t.length+1):=by rw[o];simp
   omega
  unfold m8;dsimp only;rw[if_pos (Jt.2 (dP o)),ew o,e8 o,eS o (n:=256) (by unfold J0;omega)];simp only[JC];have step: ∀j:Int,(if x.1.2.2.1=lo then to else 0)=j->0<=j->j<=1099511627776->Tot ((if aV x.1.2.1 j=true then some (.inl (x.1.2.2.1,j,J0 (CR a),J0 (pre++[x]),a,A.map (·.1),A.map (·.2.1),CR a))else(CU (x.1,j)).bind λy=>(Js 64 (A.map (·.1)) [y]).bind λM=>(Js 8 (A.map (·.2.1)) [x.2]).bind λK=>some (.inl (x.1.2.2.1,x.1.2.1,J0 (CR a),J0 (pre++[x]),a,M,K,CR a))):Option ((Int×Int×Int×Int×Jd×List J7×qQD×List aC)⊕(List J7×qQD))) (H3 (λq:Int×Int×List TX=>(q.1,q.2.1,J0 (CR a),J0 (pre++[x]),a,q.2.2.map (·.1),q.2.2.map (·.2.1),CR a)) (λq=>(0<=q.2.1/\q.2.1<=1099511627776)/\q.2.2.length<=(pre++[x]).length/\ ∀t,rd (-1) 0 (pre++[x]++t)=q.2.2++rd q.1 q.2.1 t) λy=>y=((WR a).map (·.1),(WR a).map (·.2.1))):=(by intro j J I h1;refine .G (λc=>.s ⟨(x.1.2.2.1,j,A),rfl,⟨I,h1⟩,by simp;omega,λt=>?_⟩) λc=>.w (JLw H.2.1 I h1) (.w (eR (l:=A.map (·.1)) (m:=[md x.1 j]) (by rw[cB];unfold J0;rw[eC];omega) qQH) (.w (eR (l:=A.map (·.2.1)) (m:=[x.2]) (by rw[cB];unfold J0;rw[eC];omega) qQH) (.s ⟨(x.1.2.2.1,x.1.2.1,A++[(md x.1 j,x.2,decide (j<x.1.1))]),by simp,⟨by dsimp only;omega,by dsimp only;omega⟩,by simp;omega,λt=>?_⟩)));rw[mP,w];show A++rd lo to (x::t)=_;rw[nD,J,if_pos c];rw[mP,w];show A++rd lo to (x::t)=_;rw[nD,J,if_neg c];simp);by_cases c:x.1.2.2.1=lo;rw[if_neg (by rw[eJ];exact λk=>k c)];have s:=step to (if_pos c) v.1 v.2;rw[c]at s;exact s;rw[if_pos (eJ.2 c)];exact step 0 (if_neg c) qQH qQH;unfold m8;dsimp only;rw[if_neg (by rw[Jt];omega)];have:=r.2.2 [];rw[hO]at this;refine .s ?_;unfold WR;rw[this];simp[rd,yO]
 obtain⟨y,e,d⟩:=F;rw[e,d]
end
section
theorem Ke{α:Type}{l U V:List α}{k:Int}(h:l=U++V)(hk:k=J0 U):aT l none (some k)=some U:=by subst h hk;obtain⟨r,e,d,_⟩:=vP (l:=U++V) (k:=J0 U) J6 (by rw[cJ];have:=J6 (l:=V);omega);rw[e,d];simp[J0]
theorem ur{α:Type}{l U V:List α}{k:Int}(h:l=U++V)(hk:k=J0 U):aT l (some k) none=some V:=by subst h hk;obtain⟨r,e,d,_⟩:=wV (l:=U++V) (k:=J0 U) J6 (by rw[cJ];have:=J6 (l:=V);omega);rw[e,d];simp[J0]
theorem AC{α:Type}{bytes:Nat}{l:List α}(h:J0 l<=34359738368)(hb:bytes<=2048):bK bytes l=some l:=by unfold bK;rw[if_pos (TD (by unfold J0 at h;omega) hb)]
theorem cI{α β:Type}(f:α->β)(l:List α):J0 (l.map f)=J0 l:=by unfold J0;rw[eC]
theorem JFW{r:J7}{to:Int}(hl:J0 (pl r)<=4096)(h0:0<=to)(h1:to<=1099511627776):OS (r,to)=some (md r to):=by have j:Tot (OS (r,to)) λy=>y=md r to:=(by unfold OS md;dsimp only;refine .g (λc=>.s (by rw[if_pos c])) λc=>?_;rw[if_neg c];have o:=Jk to 1;rw[show J1 .i64 to 1=to+1 by omega];refine fI (l:=pl r) (λi (b:List aA)=>(to,i,r,[],0,0,0,0,0,b,[],to+1,r.2.1,r.2.2.1,r.2.2.2.1,r.2.2.2.2.1)) (λpre b=>b=pre.filter λe=>decide (to<e.1)) (λpre x t b g h=>?_) (λb h=>?_) (pl r) [] [] _ rfl rfl rfl;unfold nd;dsimp only;have g':r.2.2.2.2.2=pre++x::t:=g;rw[if_pos (Jt.2 (dP g')),eS g (n:=4096) hl];refine .w (eO g') (.g (λd=>.w (eO g') (.w (eR (l:=b) (m:=[x]) (by have:=List.length_filter_le (λe:aA=>decide (to<e.1)) pre;have:=dP g;rw[h,cB];unfold J0 at*;omega) qQH) (.s ⟨_,rfl,?_⟩))) λd=>.s ⟨b,rfl,?_⟩);rw[h,List.filter_append,List.filter_cons_of_pos (by simpa using d)];rfl;rw[h,List.filter_append,List.filter_cons_of_neg (by simpa using d)];simp;unfold nd;dsimp only;rw[if_neg (by rw[Jt];unfold pl;omega)];rw[h];exact .s rfl);obtain⟨y,e,d⟩:=j;rw[e,d]
section
variable {i k:Int} {a:Jd} {A:List TX} {r:J7} {f:aH} (hk:idx a.2.2.1 k=some f)
include hk
theorem Lj{U V:List aC}{β:Type}{Q:β->Prop}{c:List J7->qQD->Option β}(hl:(U++V).length<=256)(h:Tot (c ((U++(r,f.2.1)::V).map (·.1)) ((U++(r,f.2.1)::V).map (·.2))) Q):
  Tot ((aT ((U++V).map (·.1)) none (some (J0 U))).bind λD=>(bK 64 D).bind λe=>(Js 64 e [r]).bind λy=>(aT ((U++V).map (·.1)) (some (J0 U)) none).bind λx=>(Js 64 y x).bind λg=>
   (aT ((U++V).map (·.2)) none (some (J0 U))).bind λv=>(bK 8 v).bind λj=>(idx a.2.2.1 k).bind λw=>(Js 8 j [w.2.1]).bind λn=>(aT ((U++V).map (·.2)) (some (J0 U)) none).bind λo=>(Js 8 n o).bind λq=>c g q) Q:=by
 have A:J0 U<=256:=by unfold J0;simp at hl;omega
 have C:J0 V<=256:=by unfold J0;simp at hl;omega
 have B:(U++V).map (·.1)=U.map (·.1)++V.map (·.1):=nU;have z:(U++V).map (·.2)=U.map (·.2)++V.map (·.2):=nU;have F:J0 (U.map (·.1))<=256:=by rw[cI];exact A
 have H:J0 (V.map (·.1))<=256:=by rw[cI];exact C
 have G:J0 (U.map (·.2))<=256:=by rw[cI];exact A
 have E:J0 (V.map (·.2))<=256:=by rw[cI];exact C
 refine .w (Ke B (by rw[cI])) (.w (AC oo qQH) (.w (eR (by rw[cB];omega) qQH) (.w (ur B (by rw[cI])) (.w (eR (by rw[cJ,cB];omega) qQH) ?_))));refine .w (Ke z (by rw[cI])) (.w (AC oo qQH) (.w hk (.w (eR (by rw[cB];omega) qQH) (.w (ur z (by rw[cI])) (.w (eR (by rw[cJ,cB];omega) qQH) ?_)))));simpa using h
theorem vc: ∀(n:Nat) (U V:List aC),U.length=n->(U++V).length<=256->(∀v∈V,r.1<v.1.1)->
  Tot (J4 db (i,(U++V).map (·.1),(U++V).map (·.2),k,J0 U,a,A.map (·.1),A.map (·.2.1),A.map (·.2.2),r)) λy=> ∃g j,U++V=g++j/\(∀v∈j,r.1<v.1.1)/\(∀u z,g=u++[z]->z.1.1<=r.1)/\
   y=.inl (i,(g++(r,f.2.1)::j).map (·.1),(g++(r,f.2.1)::j).map (·.2),J1 .i64 k 1,a,A.map (·.1),A.map (·.2.1),A.map (·.2.2))
 |0,U,V,hn,hl,hv=>by have:U=[]:=List.length_eq_zero_iff.1 hn;subst this;refine .step ?_;unfold db;dsimp only;rw[if_neg (by rw[gM,iT];omega)];refine .stq ?_;exact Lj hk hl (.s ⟨[],V,rfl,hv,λu z e=>by simp at e,rfl⟩)
 |n+1,U,V,hn,hl,hv=>by
  obtain⟨u,z,rfl⟩: ∃p z,U=p++[z]:=⟨U.dropLast,U.getLast (by intro e;subst e;simp at hn),(List.dropLast_concat_getLast _).symm⟩;have w:=J6 (l:=u);have B:J0 (u++[z])=J0 u+1:=by rw[cJ,cB]
  have C:J0 u<=256:=by unfold J0;simp at hl;omega
  have os:=bF (J0 (u++[z])) 1;refine .step ?_;unfold db;dsimp only;rw[if_pos (by rw[gM];omega),show Jm .i64 (J0 (u++[z])) 1=J0 u by omega];refine .w (qO (·.1) (show u++[z]++V=u++z::V by simp)) (.g (λc=>.s ?_) λc=>?_);have ih:=vc n u (z::V) (by simp at hn;omega) (by simpa using hl) (λv o=>by
   rcases cO.1 o with rfl|h;exact c;exact hv v h)
  rw[show u++[z]++V=u++z::V by simp];exact ih;refine .stq ?_;refine Lj hk hl (.s ⟨u++[z],V,rfl,hv,λx q e=>?_,rfl⟩);have:=List.append_inj_right' e rfl;injection this with this;rw[<-this];omega
end
def Ik(a:Jd)(i:Int)(O:List aC)(F:List aH):Prop:=O.Pairwise wd/\ ∀x,x∈O↔x∈F.filterMap (gc a)/\rI (a,x.1)=some i
variable {a:Jd} (h:lS a) (hf:FZ a)
include h hf
theorem ME{x:aC}{i:Int}(hx:x∈gT a)(hp:rI (a,x.1)=some i):0<=i/\i<J0 a.1/\idx a.1 i=some x.1.2.2.1:=by obtain⟨f,_,_,⟨p,j,e,g⟩,_⟩:=FM h hf hx;have:=e.2.2.1.symm.trans hp;injection this with this;subst this;exact⟨e.2.2.2,j,g⟩
theorem JJ1{i:Int}{O:List aC}{A:List TX}{L:Int}(hi:0<=i/\i<16)(K:O.length<=256)(hA:A.length<=256)(hL: ∀x∈O,x.1.2.2.1=L/\dV x.1):
  Tot (J4 ck (i,O.map (·.1),O.map (·.2),0,0,a,A.map (·.1),A.map (·.2.1),A.map (·.2.2))) λy=>y=.inl (i+1,a,(A++rd L 0 O).map (·.1),(A++rd L 0 O).map (·.2.1),(A++rd L 0 O).map (·.2.2)):=by
 refine fI (l:=O) (λj (b:Int×List TX)=>(i,O.map (·.1),O.map (·.2),b.1,j,a,b.2.map (·.1),b.2.map (·.2.1),b.2.map (·.2.2))) (λpre b=>(0<=b.1/\b.1<=1099511627776)/\b.2.length<=A.length+pre.length/\ ∀t,A++rd L 0 (pre++t)=b.2++rd L b.1 t) (λpre x t b e v=>?_) (λb v=>?_) O [] (0,A) _ rfl rfl ⟨⟨by show(0:Int)<=0;decide,by show(0:Int)<=1099511627776;decide⟩,zQ0 _,λt=>rfl⟩;obtain⟨to,B⟩:=b;obtain⟨⟨k,g⟩,w,h⟩:=v;dsimp only at k g w h⊢;obtain⟨r,z⟩:=hL x (by rw[e];simp);obtain⟨C,J,G,H,E,F,I,D⟩:=z.1;have lp:pre.length<256:=by
  have:O.length=pre.length+(t.length+1):=by rw[e];simp
  omega
 have q:=qO (λx:aC=>x.1) e;unfold ck;dsimp only;rw[if_pos (Jt.2 (by rw[cI];exact dP e)),eS e (n:=256) (by unfold J0;omega)];have M:J0 B<=512:=by unfold J0;omega
 refine .w q (.G (λc=>.s ⟨(to,B),rfl,⟨k,g⟩,by simp;omega,λt=>?_⟩) λc=>.w q (.w (JFW z.2.1 k g) (.w (eR (l:=B.map (·.1)) (by rw[cB,cI];omega) qQH) (.w (qO (λx:aC=>x.2) e) (.w (eR (l:=B.map (·.2.1)) (by rw[cB,cI];omega) qQH) (.w q (.w (eR (l:=B.map (·.2.2)) (by rw[cB,cI];omega) qQH) (.w q (.s ⟨(x.1.2.1,B++[(md x.1 to,x.2,decide (to<x.1.1))]),?_,⟨by dsimp only;omega,by dsimp only;omega⟩,by simp;omega,λt=>?_⟩)))))))));rw[mP,h];show B++rd L to (x::t)=_;rw[nD,if_pos r,if_pos c,r];dsimp only;rw[nU,nU,nU];rfl;rw[mP,h];show B++rd L to (x::t)=_;rw[nD,if_pos r,if_neg c,r];simp;unfold ck;dsimp only;have o:=Jk i 1;rw[if_neg (by rw[Jt,cI];omega),show J1 .i64 i 1=i+1 by omega];have:=v.2.2 [];rw[hO]at this;refine .s ?_;rw[this];simp[rd,yO]
theorem JKW{i:Int}{A:List TX}(hi:0<=i/\i<J0 a.1)(hA:A.length<=256):
  Tot (J4 ZP (i,[],[],0,a,A.map (·.1),A.map (·.2.1),A.map (·.2.2))) λy=> ∃O,Ik a i O a.2.2.1/\y=.inl (i+1,a,(A++rd (-1) 0 O).map (·.1),(A++rd (-1) 0 O).map (·.2.1),(A++rd (-1) 0 O).map (·.2.2)):=by
 have N:=h.len.2;refine fI (l:=a.2.2.1) (λk (b:List aC)=>(i,b.map (·.1),b.map (·.2),k,a,A.map (·.1),A.map (·.2.1),A.map (·.2.2))) (λpre b=>b.length<=pre.length/\Ik a i b pre) (λpre f t b B F=>?_) (λb F=>?_) a.2.2.1 [] [] _ rfl rfl ⟨zQ0 _,.nil,λx=>by simp⟩;obtain⟨S,P,H⟩:=F;have Q:f∈a.2.2.1:=by rw[B];simp
 have lp:pre.length<256:=by have e:=h.few;have:=dP B;unfold J0 at*;omega
 unfold ZP;dsimp only;rw[if_pos (Jt.2 (dP B))];have o:=eS B (n:=256) h.few;refine .w (eO B) (.b (JRO N (hf f Q)) λD g=>.d (λc=>?_) λc=>?_);rw[o];refine .s ⟨b,rfl,by simp;omega,P,λx=>(H x).trans ?_⟩;rw[List.filterMap_append];rcases g with⟨_,g⟩|⟨_,g⟩;rw[List.filterMap_cons,iw g];constructor;rintro⟨E,j⟩;exact⟨List.mem_append_left _ E,j⟩;rintro⟨E,j⟩;refine⟨?_,j⟩;rcases zQ9.1 E with q|q;exact q;rw[kG.1 q]at j;have:=j.symm.trans g.2.2.1;injection this with this;exact absurd this.symm c;rw[List.filterMap_cons,ui g];simp;have g:rt a f D.1 D.2:=(by rcases g with⟨_,g⟩|⟨g,_⟩;exact g;omega);have R:=vc (i:=i) (A:=A) (r:=D.1) (eO B) b.length b [] rfl (by simp;omega) nofun;simp only[hO]at R;rw[cI];refine R.mono λy w=>?_;obtain⟨U,V,w1,w2,w3,rfl⟩:=w;rw[o];have I: ∀x∈b,x.1.2.2.1=D.1.2.2.1/\x.2<f.2.1:=λx C=>by
  obtain⟨E,j⟩:=(H x).1 C;have qa:x∈gT a:=by unfold gT;rw[B,List.filterMap_append];exact List.mem_append_left _ E
  have e1:=(ME h hf qa j).2.2;have J:=((YW N D.1).get g.2.2.1).2 g.2.2.2;rw[c,e1]at J;injection J with J;refine⟨J,?_⟩;obtain⟨f',Y,f2⟩:=List.mem_filterMap.1 E;rw[(RJ f2).1];have ids:=h.ids;rw[B]at ids;exact(List.pairwise_append.1 ids).2.2 f' Y f List.mem_cons_self
 subst w1;refine⟨U++(D.1,f.2.1)::V,rfl,by simp at S⊢;omega,?_,λx=>?_⟩;obtain⟨T,Z,u3⟩:=List.pairwise_append.1 P;refine List.pairwise_append.2 ⟨T,List.pairwise_cons.2 ⟨λv G=>?_,Z⟩,λu K v G=>?_⟩;have lv:=I v (List.mem_append_right _ G);have:=w2 v G;exact .inr ⟨lv.1.symm,.inl this⟩;rcases cO.1 G with rfl|G;obtain⟨u',z,rfl⟩: ∃p z,U=p++[z]:=⟨U.dropLast,U.getLast (List.ne_nil_of_mem K),(List.dropLast_concat_getLast _).symm⟩;have lu:=I u (List.mem_append_left _ K);have lz:=I z (by simp);have hz:=w3 u' z rfl;have ac:u.1.1<=z.1.1:=(by rcases zQ9.1 K with q|q;have:=(List.pairwise_append.1 T).2.2 u q z (by simp);unfold wd at this;omega;rw[kG.1 q];exact bB _);have:=lu.2;unfold wd;dsimp only;omega;exact u3 u K v G;rw[List.filterMap_append,List.filterMap_cons,iw g];have k:=H x;simp only[List.filterMap_nil,zQ9,cO,List.not_mem_nil,or_false]at k⊢;constructor;rintro(q|rfl|q);exact⟨.inl (k.1 (.inl q)).1,(k.1 (.inl q)).2⟩;exact⟨.inr rfl,by rw[<-c];exact g.2.2.1⟩;exact⟨.inl (k.1 (.inr q)).1,(k.1 (.inr q)).2⟩;rintro⟨q|rfl,j⟩;rcases k.2 ⟨q,j⟩with q|q;exact .inl q;exact .inr (.inr q);exact .inr (.inl rfl);unfold ZP;dsimp only;rw[if_neg (by rw[Jt];omega)];have M: ∀x∈b,x∈gT a:=λx C=>((F.2.2 x).1 C).1;obtain⟨L,eL,_⟩:=jC (l:=a.1) hi.1 hi.2;have hL: ∀x∈b,x.1.2.2.1=L/\dV x.1:=λx C=>by have q:=((F.2.2 x).1 C).2;have e:=(ME h hf (M x C) q).2.2;rw[eL]at e;injection e with e;obtain⟨_,_,_,_,k,_⟩:=FM h hf (M x C);exact⟨e.symm,k⟩
 have lb:b.length<=256:=by have e:=h.few;have:=F.1;unfold J0 at e;omega
 have W:rd (-1) 0 b=rd L 0 b:=by
  cases b with
  |nil=>rfl
  |cons x t=>rw[nD,nD,(hL x List.mem_cons_self).1];simp
 refine .endq ((JJ1 h hf ⟨hi.1,by omega⟩ lb hA hL).mono λy e=>⟨b,F.2,by rw[e,W]⟩)
theorem JPV:OG a=some ((WR a).map (·.1),(WR a).map (·.2.1),(WR a).map (·.2.2)):=by
 have Y:=h.len.2;have L:Tot (OG a) λy=>y=((WR a).map (·.1),(WR a).map (·.2.1),(WR a).map (·.2.2)):=by
  unfold OG;refine .b (YL a) λy V=>.n (λc=>by rw[V.2 h]at c;cases c) λ_=>fI (l:=a.1) (λi (b:List TX)=>(i,a,b.map (·.1),b.map (·.2.1),b.map (·.2.2))) (λpre b=> ∃C:List aC,b=rd (-1) 0 C/\C.Pairwise wd/\C.length<=256/\ ∀x,x∈C↔x∈gT a/\ ∃p,p<J0 pre/\rI (a,x.1)=some p) (λpre x t b U I=>?_) (λb I=>?_) a.1 [] [] _ rfl rfl ⟨[],rfl,.nil,by decide,λx=>⟨nofun,fun⟨q,p,r,j⟩=>by have:=(ME h hf q j).1;rw[iT]at r;omega⟩⟩;obtain⟨C,rfl,v,F,o⟩:=I;have Q:=J6 (l:=pre);have lt:=dP U;unfold m4;dsimp only;rw[if_pos (Jt.2 lt)];refine(JKW h hf ⟨Q,lt⟩ (zQ1 RY F)).mono λy w=>?_;obtain⟨O,⟨R,G⟩,rfl⟩:=w;have N: ∀z∈O,z∈gT a:=λz g=>((G z).1 g).1;have A: ∀z∈O,∀c∈C,c.1.2.2.1<z.1.2.2.1:=λz g c hc=>by have W:=(ME h hf (N z g) ((G z).1 g).2).2.2;obtain⟨q,p,r,j⟩:=(o c).1 hc;obtain⟨Z,r2,P⟩:=ME h hf q j;have K:=h.asc;unfold ip at K;have J:a.1[(J0 pre).toNat]?=some z.1.2.2.1:=(fY W).2;have H:a.1[p.toNat]?=some c.1.2.2.1:=(fY P).2;obtain⟨S,J⟩:=eH.1 J;obtain⟨T,H⟩:=eH.1 H;have:=List.pairwise_iff_getElem.1 K p.toNat (J0 pre).toNat T S oo;rw[J,H]at this;exact this
  have B: ∀z∈O,0<=z.1.2.2.1:=λz g=>by obtain⟨_,_,_,_,k,_⟩:=FM h hf (N z g);exact k.1.2.2.2.1
  have E: ∀z,z∈C++O↔z∈gT a/\ ∃p,p<J0 (pre++[x])/\rI (a,z.1)=some p:=λz=>by
   rw[zQ9,o,G,cJ,cB];constructor;rintro(⟨q,p,r,j⟩|⟨q,j⟩);exact⟨q,p,by omega,j⟩;exact⟨q,_,by omega,j⟩;rintro⟨q,p,r,j⟩;by_cases e:p<J0 pre;exact .inl ⟨q,p,e,j⟩;have:p=J0 pre:=by omega
   subst this;exact .inr ⟨q,j⟩
  have M:(C++O).Pairwise wd:=List.pairwise_append.2 ⟨v,R,λc hc z g=>.inl (A z g c hc)⟩;have hlen:(C++O).length<=256:=by
   have n:(C++O).Nodup:=M.imp fun{x y} k e=>by subst e;exact wd.irr _ k
   have s:(C++O)⊆gT a:=λz g=>((E z).1 g).1;exact zQ1 (n.length_le_of_subset s) (ey h hf)
  refine⟨rd (-1) 0 (C++O),?_,C++O,rfl,M,hlen,E⟩;rw[Lz (D:=O) λz g=>⟨by have:=B z g;omega,by have:=B z g;omega,λc hc=>by have:=A z g c hc;omega⟩,cJ,cB];obtain⟨C,rfl,v,F,o⟩:=I;unfold m4;dsimp only;rw[if_neg (by rw[Jt];omega)];refine .s ?_;have:C=CR a:=Ij wd.irr wd.asym v (Hz h hf) λx=>(o x).trans ⟨λq=>(RH h hf).2 q.1,λq=>by have q:=(RH h hf).1 q;obtain⟨_,_,_,⟨p,r,j,_⟩,_⟩:=FM h hf q;exact⟨q,p,r,j.2.2.1⟩⟩;rw[this];rfl
 obtain⟨y,e,d⟩:=L;rw[e,d]
end
theorem JMs{f t l h v:Int}{es:List aA}(q:0<=f/\f<=1099511627777/\0<=t/\t<=1099511627777/\0<=l/\l<=100/\0<=h/\h<=100/\0<=v/\v<=100)(hl:J0 es<=16384)(he: ∀e∈es,Ty.fit 16384 9223372036854775807 J3 e):gH (f,t,l,h,v,es):=⟨J2.2 (show(-9223372036854775808:Int)<=f/\f<=9223372036854775807 by omega),J2.2 (show(-9223372036854775808:Int)<=t/\t<=9223372036854775807 by omega),J2.2 (show(-9223372036854775808:Int)<=l/\l<=9223372036854775807 by omega),J2.2 (show(-9223372036854775808:Int)<=h/\h<=9223372036854775807 by omega),J2.2 (show(-9223372036854775808:Int)<=v/\v<=9223372036854775807 by omega),hl,he⟩
theorem JHW(a0 h:List aA)(hl:J0 a0+J0 h<=8192):yJ (a0,h)=some (qr a0 h):=by
 have B:Tot (yJ (a0,h)) λy=>y=qr a0 h:=by
  unfold yJ;refine Jn (τ:=List aA×List aA×List aA) (λq=>q) (λq=>J0 q.1+J0 q.2.1+J0 q.2.2<=8192/\q.2.2++qr q.1 q.2.1=qr a0 h) (λq=>J0 q.1+J0 q.2.1) ?_ (a0,h,[]) rfl ⟨by show J0 a0+J0 h+J0 []<=8192;rw[iT];omega,rfl⟩;rintro⟨a,b,out⟩ ⟨h1,h2⟩;dsimp only at h1 h2;have I:=J6 (l:=a);have E:=J6 (l:=b);have N:=J6 (l:=out);unfold s7;dsimp only;cases a with
  |nil=>refine .e (λ_=>.b (cE (eR oo qQH)) λy d=>.s ?_) λc=>absurd rfl c;show y=_;rw[d,<-h2,qr]
  |cons x a=>
   rw[hH]at h1 I;have nx:=J6 (l:=a);refine .e (λc=>by rw[hH]at c;omega) λ_=>?_;cases b with
   |nil=>refine .e (λ_=>.b (cE (eR (by rw[hH];omega) qQH)) λy d=>.s ?_) λc=>absurd rfl c;show y=_;rw[d,<-h2,AJ]
   |cons y b=>
    rw[hH]at h1 E;have M:=J6 (l:=b);refine .e (λc=>by rw[hH]at c;omega) λ_=>?_;have i1:idx (x::a) 0=some x:=rfl;have i2:idx (y::b) 0=some y:=rfl;have s1:aT (x::a) (some 1) none=some a:=by obtain⟨r,e,d,_⟩:=wV (l:=x::a) (k:=1) qQH (by rw[hH];omega);rw[e,d];rfl
    have F:aT (y::b) (some 1) none=some b:=by obtain⟨r,e,d,_⟩:=wV (l:=y::b) (k:=1) qQH (by rw[hH];omega);rw[e,d];rfl
    have C: ∀z:aA,Js 128 out [z]=some (out++[z]):=λz=>eR (by rw[cB];omega) qQH;have D: ∀z:aA,J0 (out++[z])=J0 out+1:=λz=>by rw[cJ,cB]
    refine .b (cE i1) λj J=>.b (cE i2) λn H=>?_;subst J;subst H;refine .b (cE (Mq j n)) λL G=>?_;subst G;refine .G (λc=>?_) λc=>?_;refine .b (cE i1) λg w=>?_;subst w;refine .b (cE (C g)) λK v=>.b (cE s1) λA o=>.s ⟨(a,n::b,out++[g]),by rw[v,o],⟨?_,?_⟩,?_,?_⟩;show J0 a+J0 (n::b)+J0 (out++[g])<=8192;rw[D,hH];omega;show out++[g]++qr a (n::b)=_;rw[<-h2,qr,if_pos c,mP];rfl;show J0 a+J0 (n::b)<J0 (g::a)+J0 (n::b);rw[hH,hH];omega;show 0<=J0 (g::a)+J0 (n::b);rw[hH,hH];omega;refine .b (cE i2) λg w=>?_;subst w;refine .b (cE (C g)) λK v=>.b (cE F) λA o=>.s ⟨(j::a,b,out++[g]),by rw[v,o],⟨?_,?_⟩,?_,?_⟩;show J0 (j::a)+J0 b+J0 (out++[g])<=8192;rw[D,hH];omega;show out++[g]++qr (j::a) b=_;rw[<-h2,qr,if_neg c,mP];rfl;show J0 (j::a)+J0 b<J0 (j::a)+J0 (g::b);rw[hH,hH];omega;show 0<=J0 (j::a)+J0 (g::b);rw[hH,hH];omega
 obtain⟨y,e,d⟩:=B;rw[e,d]
section
theorem JLu(l:List aA)(hl:J0 l<=4096):HK (l,l)=some true:=by have g:Tot (HK (l,l)) λy=>y=true:=(by unfold HK;refine .d (λc=>absurd rfl c) λ_=>fI (l:=l) (λi (_:Unit)=>(l,l,J0 l,i)) (λ_ _=>True) (λpre x t _ h _=>?_) (λ_ _=>?_) l [] () _ rfl rfl trivial;unfold te;dsimp only;rw[if_pos (Jt.2 (dP h)),eS h (n:=4096) hl];refine .w (eO h) (.w (eO h) ?_);rw[gu (t:=J3) x];exact .s ⟨(),rfl,qQG⟩;unfold te;dsimp only;rw[if_neg (by rw[Jt];omega)];exact .s rfl);obtain⟨y,e,d⟩:=g;rw[e,d]
theorem JHu{r:J7}(hl:J0 (pl r)<=4096):GG (r,r)=some true:=by have e: ∀x:Int,aK x x=true:=λx=>fH.2 rfl;unfold GG;dsimp only;rw[if_pos (e _),if_pos (e _),if_pos (e _),if_pos (e _),if_pos (e _),show HK (r.2.2.2.2.2,r.2.2.2.2.2)=some true from JLu _ hl];rfl
variable {a:Jd} (h:lS a) (hf:FZ a)
include h hf
theorem I6{e:TX}(he:e∈WR a): ∃f∈a.2.2.1,∃(x:J7) (t:Int),e=(md x t,f.2.1,decide (t<x.1))/\xZ f.2.2=some (x,0)/\dV x/\gH x/\0<=t:=by obtain⟨x,t,h1,h2,o⟩:=gd (λx q=>by obtain⟨r,w,v,_⟩:=(qh h hf q).1.1;omega) (bB 0) he;obtain⟨f,j,n,⟨p,z,g,y⟩,k⟩:=FM h hf ((RH h hf).1 h1);exact⟨f,j,x.1,t,by rw[o,n],g.2.1,k.1,k.2,h2⟩
theorem JNu(r:J7)(t:Int):J0 (pl (md r t))<=J0 (pl r):=by unfold md;split;exact bB _;have:=List.length_filter_le (λe:aA=>decide (t<e.1)) (pl r);show J0 ((pl r).filter λe=>decide (t<e.1))<=_;unfold J0;omega
theorem If{e:TX}(he:e∈WR a):J0 (pl e.1)<=4096/\(e.2.2=true->dV e.1/\gH e.1):=by
 obtain⟨f,_,x,t,rfl,_,g,j,_⟩:=I6 h hf he;refine⟨kH (JNu h hf x t) g.2.1,λc=>?_⟩;have:t<x.1:=by simpa using c
 unfold md;rw[if_pos this];exact⟨g,j⟩
theorem re:(WR a).length<=256:=zQ1 RY (Kd h hf)
theorem JQl:OX a=some (((WR a).filter (·.2.2)).map (·.1),((WR a).filter (·.2.2)).map (·.2.1)):=by
 have z:Tot (OX a) λy=>y=(((WR a).filter (·.2.2)).map (·.1),((WR a).filter (·.2.2)).map (·.2.1)):=by
  unfold OX;refine .w (JRi h hf) ?_;have G:=re h hf;refine fI (l:=WR a) (λi (b:List TX)=>((WR a).map (·.1),J0 ((WR a).map (·.1)),i,a,b.map (·.1),b.map (·.2.1),(WR a).map (·.2.1))) (λpre b=>b=pre.filter (·.2.2)) (λpre x t b j k=>?_) (λb k=>?_) (WR a) [] [] _ rfl rfl rfl;obtain⟨f,o,r,to,rfl,A,B,J,H⟩:=I6 h hf (show x∈WR a by rw[j];simp);have I:J0 b<=256:=by
   have:(WR a).length=pre.length+(t.length+1):=by rw[j];simp
   have:=List.length_filter_le (·.2.2) pre;rw[k];unfold J0;omega
  unfold su;dsimp only;rw[if_pos (Jt.2 (by rw[cI];exact dP j)),eS j (n:=256) (by unfold J0;omega)];refine .w (qO (λx:TX=>x.1) j) ?_;have v:=qO (λx:TX=>x.2.1) j;have C:Tot (tj (a.2.2.1,(WR a).map (·.2.1),J0 pre)) λy=> ∃i,y=(i,(WR a).map (·.2.1),J0 pre)/\NJ (λg:aH=>aK g.2.1 f.2.1) a.2.2.1 i:=(by refine SH (λg:aH=>aK g.2.1 f.2.1) (l:=a.2.2.1) (λi=>(a.2.2.1,J0 a.2.2.1,i,(WR a).map (·.2.1),J0 pre)) (λi=>(i,(WR a).map (·.2.1),J0 pre)) (λp g q e=>?_) ?_;unfold tl;dsimp only;rw[if_pos (Jt.2 (dP e)),eO e,eS e (n:=256) h.few];simp only[JC,sx,v];unfold tl;dsimp only;rw[if_neg (by rw[Jt];omega)]);refine .b C λy w=>?_;obtain⟨i,rfl,w⟩:=w;have F:idx a.2.2.1 i=some f:=(by rcases w with⟨_,w⟩|⟨p,g,q,e,rfl,c,_⟩;have:=w f o;rw[<-Bool.not_eq_true,fH]at this;exact absurd rfl this;rw[eO e];have c:g.2.1=f.2.1:=fH.1 c;have ids:=h.ids;rw[e]at ids o;obtain⟨i1,i2,i3⟩:=List.pairwise_append.1 ids;rcases zQ9.1 o with m|m;have:=i3 f m g List.mem_cons_self;omega;rcases cO.1 m with m|m;rw[m];have:=(List.pairwise_cons.1 i2).1 f m;omega);refine .w F ?_;rw[Mi (hf f o)];refine .w A ?_;dsimp only;rw[if_pos (fH.2 rfl)];by_cases c:to<r.1;have D:md r to=r:=by unfold md;rw[if_pos c]
  rw[D];refine .w (JHu B.2.1) ?_;rw[if_pos rfl];refine .w (eR (by rw[cB,cI];omega) qQH) (.w v (.w (eR (by rw[cB,cI];omega) qQH) (.s ⟨b++[(r,f.2.1,decide (to<r.1))],?_,?_⟩)));dsimp only;rw[nU,nU];rfl;dsimp only;rw[k,List.filter_append,List.filter_cons_of_pos (by simpa using c)];rfl;have E:GG (r,md r to)=some false:=(by unfold GG md;rw[if_neg c];dsimp only;rw[if_neg (by rw[fH];omega)]);refine .w E (.s ⟨b,rfl,?_⟩);dsimp only;rw[k,List.filter_append,List.filter_cons_of_neg (by simpa using c)];simp;unfold su;dsimp only;rw[if_neg (by rw[Jt,cI];omega),k];exact .s rfl
 obtain⟨y,e,d⟩:=z;rw[e,d]
omit h hf
theorem Nc{r:J7}(h:4096<J0 (pl r)):fT r=some false:=by
 have n: ∃b,pF (r.1,r.2.1,r.2.2.1,r.2.2.2.1,r.2.2.2.2.1)=some b:=by
  unfold pF
  repeat' split
  all_goals exact⟨_,rfl⟩
 obtain⟨b,e⟩:=n;unfold fT;rw[e];cases b;rfl;show(if aO (J0 (pl r)) 4096 then some false else _)=_;rw[if_pos (gM.2 h)]
theorem JMq{r s:J7}(hr:0<=r.2.1/\r.2.1<=1099511627776):Tot (HI (r,s)) λy=>y=true↔rN r s:=by have o:=Jk r.2.1 1;unfold HI rN;exact .e (λg=>.e (λe=>.s ⟨λk=>⟨g,e,by have k:=fH.1 k;dsimp only at k;omega⟩,λk=>fH.2 (by have:=k.2.2;dsimp only;omega)⟩) λc=>.s ⟨nofun,λk=>absurd k.2.1 c⟩) λc=>.s ⟨nofun,λk=>absurd k.1 c⟩
def mS:J7->List TX->J7|z,[]=>z|_,x::p=>mS x.1 p
theorem Ob(L:Int)(z:J7)(x:TX)(t:List TX):fd L z (x::t)=(rN z x.1/\x.1.2.2.2.2.1=L/\fd L x.1 t):=rfl
theorem SN{L:Int}: ∀{p:List TX} {z:J7} {t:List TX},fd L z (p++t)↔fd L z p/\fd L (mS z p) t|[],_,_=>⟨λh=>⟨qQG,h⟩,λh=>h.2⟩|x::p,z,t=>by have ih:=SN (L:=L) (p:=p) (z:=x.1) (t:=t);rw[rK,Ob,Ob,ih];exact⟨fun⟨a,b,c,d⟩=>⟨⟨a,b,c⟩,d⟩,fun⟨⟨a,b,c⟩,d⟩=>⟨a,b,c,d⟩⟩
theorem kg{x q:TX}: ∀{b:List TX} {z:J7},mS z (b++[q])=q.1|[],_=>rfl|y::b,z=>kg (b:=b) (z:=y.1) (x:=x)
theorem iy{x q:TX}{b p:List TX}(h:x::b=p++[q]):mS x.1 b=q.1:=by
 cases p with
 |nil=>injection h with h1 h2;subst h1 h2;rfl
 |cons y p=>injection h with h1 h2;subst h2;exact kg (x:=x)
theorem FY: ∀{p:List TX} {acc:List aA} {t:List TX},dU acc (p++t)=dU (dU acc p) t|[],_,_=>rfl|x::p,acc,t=>by show dU (qr acc (pl x.1)) (p++t)=dU (dU (qr acc (pl x.1)) p) t;exact FY
theorem Lv: ∀{p:List TX} {z:Int} {t:List TX},ro z (p++t)=ro (ro z p) t|[],_,_=>rfl|x::p,z,t=>by show ro x.1.2.1 (p++t)=ro (ro x.1.2.1 p) t;exact Lv
def tH(w:List TX)(y:wI):Prop:=gW w=if y.2=true then some y.1 else none
theorem wX{w:List TX}(h:gW w=none){r:J7}:tH w (r,false):=by unfold tH;rw[h];rfl
theorem Mr{x:TX}{p t:List TX}{z:TX}{L:Int}(h: ¬(rN (mS x.1 p) z.1/\z.1.2.2.2.2.1=L))(hL:L=x.1.2.2.2.2.1):gW (x::(p++z::t))=none:=by rw[FQ,if_neg];rintro⟨_,k,_⟩;rw[<-hL,SN]at k;exact h ⟨k.2.1,k.2.2.1⟩
theorem JLU{x:TX}{p t:List TX}(h:4096<J0 (dU (pl x.1) p)):gW (x::(p++t))=none:=by rw[FQ,if_neg];rintro⟨_,_,k⟩;have:=Oh (dU (pl x.1) p) t;rw[<-FY]at this;rw[Nc (show 4096<J0 (pl (jn x (p++t))) by show 4096<J0 (dU (pl x.1) (p++t));omega)]at k;cases k
theorem u1: ∀{t:List TX} {acc:List aA} {z:aA},z∈dU acc t->z∈acc\/ ∃e∈t,z∈pl e.1
 |[],_,_,h=>.inl h
 |x::t,acc,z,h=>by
  rcases u1 (t:=t) (acc:=qr acc (pl x.1)) h with k|⟨e,g,j⟩;rcases L4 k with k|k;exact .inl k;exact .inr ⟨x,List.mem_cons_self,k⟩;exact .inr ⟨e,eG _ g,j⟩
theorem JOt{x:TX}{t:List TX}(h: ∀e∈x::t,dV e.1):1<=ro x.1.2.1 t/\ro x.1.2.1 t<=1099511627776:=by
 induction t generalizing x with
 |nil=>obtain⟨j,k,n,_⟩:=(h x List.mem_cons_self).1;exact⟨by show 1<=x.1.2.1;omega,by show x.1.2.1<=_;omega⟩
 |cons y t ih=>exact ih λe g=>h e (eG _ g)
theorem rj{x:TX}{t:List TX}(h: ∀e∈x::t,dV e.1/\gH e.1)(hl:J0 (dU (pl x.1) t)<=16384):gH (jn x t):=by obtain⟨B,C,r,v,q,y,z,A⟩:=(h x List.mem_cons_self).1.1;have o:=Jk x.1.2.2.2.2.1 1;have w:=JOt λe g=>(h e g).1;refine JMs oo hl λe g=>?_;rcases u1 g with k|⟨f,j,n⟩;exact(h x List.mem_cons_self).2.2.2.2.2.2.2 e k;exact(h f (eG _ j)).2.2.2.2.2.2.2 e n
theorem Oo{x:TX}{t:List TX}(h: ∀e∈x::t,e.2.2=true)(hc:fd x.1.2.2.2.2.1 x.1 t){v:Bool}(hv:fT (jn x t)=some v):tH (x::t) (jn x t,v):=by
 unfold tH;rw[FQ];cases v with
 |true=>rw[if_pos ⟨h,hc,hv⟩];rfl
 |false=>rw[if_neg (λk=>by rw[hv]at k;cases k.2.2)];rfl
theorem JOc{x:TX}{t:List TX}(hw: ∀e∈x::t,e.2.2=true/\dV e.1/\gH e.1)(hn:(x::t).length<=8):Tot (ds ((x::t).map (·.1))) (tH (x::t)):=by
 unfold ds;have B:idx ((x::t).map (·.1)) 0=some x.1:=rfl;refine .w B ?_;have X:=hw x List.mem_cons_self;refine fI (l:=x::t) (λi (b:List TX)=>((x::t).map (·.1),i,(0,0,0,0,0,[]),x.1.1,ro x.1.2.1 b,x.1.2.2.1,x.1.2.2.2.1,J1 .i64 x.1.2.2.2.2.1 1,dU (pl x.1) b)) (λpre b=>pre=x::b/\fd x.1.2.2.2.2.1 x.1 b/\J0 (dU (pl x.1) b)<=4096) (λpre z u b h y=>?_) (λb y=>?_) t [x] [] _ rfl rfl ⟨rfl,qQG,X.2.1.2.1⟩;obtain⟨rfl,j,D⟩:=y;have I:=hw z (by rw[h];simp);have K:J0 (x::b)<=8:=by
  have:(x::t).length=(x::b).length+(u.length+1):=by rw[h];simp;omega
  unfold J0;omega
 obtain⟨p,q,r⟩: ∃p q,x::b=p++[q]:=⟨(x::b).dropLast,(x::b).getLast (by simp),(List.dropLast_concat_getLast (by simp)).symm⟩;have C:mS x.1 b=q.1:=iy r;have G:=hw q (by rw[h,r];simp);have np:=J6 (l:=p);have lp:J0 (x::b)=J0 p+1:=by rw[r,cJ,cB]
 have os:=bF (J0 (x::b)) 1;have lt:J0 (x::b)<J0 ((x::t).map (·.1)):=by rw[cI];exact dP h
 unfold s6;dsimp only;rw[if_pos (Jt.2 lt),show Jm .i64 (J0 (x::b)) 1=J0 p by omega];have n:=qO (λx:TX=>x.1) h;have E:t=b++z::u:=by simpa using h
 have F: ¬(rN (mS x.1 b) z.1/\z.1.2.2.2.2.1=x.1.2.2.2.2.1)->gW (x::t)=none:=λk=>by rw[E];exact Mr k rfl
 obtain⟨N,L,M,_⟩:=G.2.1.1;have P:=Jk (J0 (dU (pl x.1) b)) (J0 (pl z.1));have Q:J0 (pl z.1)<=4096:=I.2.1.2.1;have S:=Kk z.1;have R:=J6 (l:=dU (pl x.1) b);refine .w (qO (λx:TX=>x.1) (show x::t=p++q::(z::u) by rw[h,r];simp)) (.w n (.b (JMq (s:=z.1) ⟨by omega,by omega⟩) λO g=>.r (λc=>.w n (.w B (.q (λw=>.w n (.g (λo=>.s (wX ?_)) λo=>.w n (.w n (.w (JHW _ _ ?_) (.s ⟨b++[z],?_,by simp,?_,?_⟩))))) λw=>.s (wX (F λk=>w k.2))))) λc=>.s (wX (F λk=>by rw[g.2 (C▸k.1)]at c;cases c))));rw[E,show b++z::u=(b++[z])++u by simp];refine JLU ?_;rw[FY];show 4096<J0 (qr (dU (pl x.1) b) (pl z.1));rw[SR];have o:4096<J1 .i64 (J0 (dU (pl x.1) b)) (J0 (pl z.1)):=o;omega;show J0 (dU (pl x.1) b)+J0 (pl z.1)<=8192;omega;dsimp only;rw[Lv,FY,show J1 .i64 (J0 (x::b)) 1=J0 (x::b++[z])from Lc h (by have:J0 (x::t)<=8:=(by unfold J0;omega);omega)];rfl;rw[SN];exact⟨j,C▸g.1 c,w,qQG⟩;rw[FY];show J0 (qr (dU (pl x.1) b) (pl z.1))<=4096;rw[SR];have o: ¬4096<J1 .i64 (J0 (dU (pl x.1) b)) (J0 (pl z.1)):=o;omega;obtain⟨e,j,D⟩:=y;injection e with _ e;subst e;unfold s6;dsimp only;rw[if_neg (by rw[Jt,cI];omega)];obtain⟨v,H,J,_⟩:=vv (rj (λe A=>(hw e A).2) oo);exact .endq (.w H (.s (Oo (λe A=>(hw e A).1) j J)))
end
theorem ub{L:Int}: ∀{p:List TX} {z:J7},fd L z p->(mS z p).2.2.1=z.2.2.1/\(mS z p).2.2.2.1=z.2.2.2.1|[],_,_=>⟨rfl,rfl⟩|x::p,z,h=>by obtain⟨h1,_,e⟩:=h;have k:=ub (p:=p) (z:=x.1) e;exact⟨k.1.trans h1.1.symm,k.2.trans h1.2.1.symm⟩
theorem N4: ∀{p:List TX} {z:J7},ro z.2.1 p=(mS z p).2.1|[],_=>rfl|x::p,z=>N4 (p:=p) (z:=x.1)
theorem r4{r:J7}(h:dV r){e:aA}(he:e∈pl r):r.1<=e.1/\e.1<=r.2.1:=by obtain⟨j,g⟩:=tK.1 he;have k:=h.2.2.1 j e g;exact⟨k.2.2.1,k.2.2.2.1⟩
theorem La{l:List J7}{j:List Bool}{i f t lo hi lv:Int}{z:J7}{acc:List aA}{r:J7}(o:idx l i=some r)(hr:J0 (pl r)<=4096)(ha:J0 acc<=40000):
  Tot (J4 OT (l,j,i,0,z,f,t,lo,hi,lv,acc)) λy=>y=.inl (l,j,J1 .i64 i 1,z,f,t,lo,hi,lv,(pl r).foldl dJ acc):=by refine fI (l:=pl r) (λk (b:List aA)=>(l,j,i,k,z,f,t,lo,hi,lv,b)) (λpre b=>b=pre.foldl dJ acc) (λpre x u b h g=>?_) (λb g=>?_) (pl r) [] acc _ rfl rfl rfl;unfold OT;dsimp only;refine .w o ?_;have lt:J0 pre<J0 r.2.2.2.2.2:=dP h;rw[if_pos (Jt.2 lt),eS h (n:=4096) hr];refine .w o (.w (eO h) (.b (JOi (l:=b) (e:=x) ?_) λy q=>.s ⟨dJ b x,?_,?_⟩));have:=JLc pre acc;have:=dP h;rw[g];unfold J0 at*;omega;rw[q];rw[List.foldl_append,<-g];rfl;unfold OT;dsimp only;refine .w o ?_;have: ¬J0 (pl r)<J0 r.2.2.2.2.2:=Int.lt_irrefl _;rw[if_neg (by rw[Jt];exact this),g];exact .s rfl
theorem JO3:Dh=OT:=rfl
theorem JPg{x:TX}{t:List TX}(hw: ∀e∈x::t,J0 (pl e.1)<=4096/\(e.2.2=true->dV e.1/\gH e.1))(hn:(x::t).length<=8):Tot (WZ ((x::t).map (·.1),(x::t).map (·.2.2))) (tH (x::t)):=by
 have r:idx ((x::t).map (·.1)) 0=some x.1:=rfl;obtain⟨G,N,el⟩: ∃p q,x::t=p++[q]:=⟨(x::t).dropLast,(x::t).getLast (by simp),(List.dropLast_concat_getLast (by simp)).symm⟩;have aj:=J6 (l:=G);have ad:J0 (x::t)=J0 G+1:=by rw[el,cJ,cB]
 have l8:J0 (x::t)<=8:=by unfold J0;omega
 have ag:=bF (J0 (x::t)) 1;have K:idx ((x::t).map (·.1)) (Jm .i64 (J0 ((x::t).map (·.1))) 1)=some N.1:=by rw[cI,show Jm .i64 (J0 (x::t)) 1=J0 G by omega];exact qO (λx:TX=>x.1) (show x::t=G++N::[]from el)
 have a0:N.1.2.1=ro x.1.2.1 t:=by rw[N4,iy el]
 unfold WZ;refine .w r (.w K (.w r (.w r (.w r ?_))));dsimp only;rw[a0];have fin: ∀acc:List aA,(∀e∈x::t,e.2.2=true)->fd x.1.2.2.2.2.1 x.1 t->acc=dU (pl x.1) t->Tot ((fT (x.1.1,ro x.1.2.1 t,x.1.2.2.1,x.1.2.2.2.1,J1 .i64 x.1.2.2.2.2.1 1,acc)).bind λT=>some ((x.1.1,ro x.1.2.1 t,x.1.2.2.1,x.1.2.2.2.1,J1 .i64 x.1.2.2.2.2.1 1,acc),T)) (tH (x::t)):=(by intro acc h1 h2 h3;subst h3;have V: ∃v,fT (jn x t)=some v:=(by by_cases c:J0 (dU (pl x.1) t)<=4096;obtain⟨v,_,L,_⟩:=vv (rj (λe g=>(hw e g).2 (h1 e g)) oo);exact⟨v,L⟩;exact⟨false,Nc (show 4096<J0 (dU (pl x.1) t) by omega)⟩);obtain⟨v,L⟩:=V;exact .w L (.s (Oo h1 h2 L)));refine fI (l:=x::t) (λi (b:List aA)=>((x::t).map (·.1),(x::t).map (·.2.2),i,(0,0,0,0,0,[]),x.1.1,ro x.1.2.1 t,x.1.2.2.1,x.1.2.2.2.1,J1 .i64 x.1.2.2.2.2.1 1,b)) (λpre acc=>(∀e∈pre,e.2.2=true)/\J0 acc<=4096*J0 pre/\((pre=[]/\acc=[])\/ ∃b,pre=x::b/\fd x.1.2.2.2.2.1 x.1 b/\acc=dU (pl x.1) b/\ ∀e∈acc,e.1<=(mS x.1 b).2.1)) (λpre z u acc j R=>?_) (λacc R=>?_) (x::t) [] [] _ rfl rfl ⟨nofun,by rw[iT,iT];decide,.inl ⟨rfl,rfl⟩⟩;obtain⟨C,Y,F⟩:=R;have hz:=hw z (by rw[j];simp);have w:=qO (λx:TX=>x.1) j;have lt:=dP j;have np:=J6 (l:=pre);have o:=eS j (n:=8) l8;have Z:J0 (pre++[z])=J0 pre+1:=by rw[cJ,cB]
 have bad: ¬z.2.2=true->gW (x::t)=none:=λc=>ug _ ⟨z,by rw[j];simp,c⟩;unfold mq;dsimp only;rw[if_pos (Jt.2 (by rw[cI];exact lt))];refine .w (qO (λx:TX=>x.2.2) j) (.r (λc=>?_) λc=>.s (wX (bad (by rw[c];decide))));obtain⟨E,zf⟩:=hz.2 c;have zl:J0 (pl z.1)<=4096:=hz.1;refine .w w (.w r ?_);rcases F with⟨rfl,rfl⟩|⟨b,rfl,B,rfl,D⟩;injection j with h1 h2;subst h1 h2;have P: ∀y:Int,aN y y=false:=λy=>by simp[aN]
 rw[if_pos (P _)];refine .w w (.w r ?_);rw[if_pos (P _)];refine .w w (.w r ?_);rw[if_pos (P _),if_neg (by rw[gM,iT];omega),JO3];refine(La w zl (by rw[iT];decide)).mono λy Q=>?_;rw[Q,o];have M:(pl x.1).foldl dJ []=pl x.1:=(gy (b:=pl x.1) (a:=[]) (xm E) λ_ h=>absurd h List.not_mem_nil).symm.trans (by rw[qr]);rw[M];refine⟨_,rfl,λe g=>by rw[kG.1 g];exact c,by rw[Z,iT];omega,.inr ⟨[],rfl,qQG,rfl,λe g=>?_⟩⟩;exact(r4 E g).2;have hq:J0 (x::b)=J0 b+1:=(by rw[show x::b=[x]++b from rfl,cJ,cB];omega);have nb:=J6 (l:=b);have et:t=b++z::u:=by simpa using j
 have H: ¬(rN (mS x.1 b) z.1/\z.1.2.2.2.2.1=x.1.2.2.2.2.1)->gW (x::t)=none:=λk=>by rw[et];exact Mr k rfl
 have I:=ub B;obtain⟨p,q,J⟩: ∃p q,x::b=p++[q]:=⟨(x::b).dropLast,(x::b).getLast (by simp),(List.dropLast_concat_getLast (by simp)).symm⟩;have W:=iy J;have U:q∈x::b:=by rw[J];simp
 obtain⟨qo,_⟩:=(hw q (by rw[j];exact List.mem_append_left _ U)).2 (C q U);have ae:=J6 (l:=p);have lp:J0 (x::b)=J0 p+1:=by rw[J,cJ,cB]
 have os:=bF (J0 (x::b)) 1;have iq:=qO (λx:TX=>x.1) (show x::t=p++q::(z::u) by rw[j,J];simp);obtain⟨af,ac,ai,_⟩:=qo.1;have oq:=Jk q.1.2.1 1;refine .q (λc1=>.w w (.w r (.q (λc2=>.w w (.w r (.q (λc3=>?_) λk=>.s (wX (H λA=>k A.2))))) λk=>.s (wX (H λA=>k (A.1.2.1.symm.trans I.2)))))) λk=>.s (wX (H λA=>k (A.1.1.symm.trans I.1)));rw[if_pos (by rw[gM];omega),show Jm .i64 (J0 (x::b)) 1=J0 p by omega];refine .w w (.w iq (.d (λk=>.s (wX (H λA=>k (by have:=A.1.2.2;rw[W]at this;omega)))) λc4=>?_));have O:rN (mS x.1 b) z.1:=⟨I.1.trans c1.symm,I.2.trans c2.symm,by rw[W];omega⟩;refine(La (acc:=dU (pl x.1) b) w zl oo).mono λy Q=>?_;rw[Q,o];have M:(pl z.1).foldl dJ (dU (pl x.1) b)=qr (dU (pl x.1) b) (pl z.1):=(gy (xm E) λe g f S k=>by have k1:=(JIN.1 k).2;have A:=D e g;have k3:=(r4 E S).1;have k4:=O.2.2;omega).symm;rw[M];refine⟨_,rfl,λe g=>?_,?_,.inr ⟨b++[z],by simp,SN.2 ⟨B,O,c3,qQG⟩,by rw[FY];rfl,λe g=>?_⟩⟩;rcases zQ9.1 g with k|k;exact C e k;rw[kG.1 k];exact c;rw[SR,Z];omega;rw[kg (x:=x)];obtain⟨ah,ak,_⟩:=E.1;have k4:=O.2.2;rcases L4 g with k|k;have:=D e k;omega;exact(r4 E k).2;obtain⟨C,Y,F⟩:=R;unfold mq;dsimp only;rw[if_neg (by rw[Jt,cI];omega)];rcases F with⟨e,_⟩|⟨b,e,B,D,_⟩;cases e;injection e with _ e;subst e;exact .endq (fin acc C B D)
theorem JIk{l:qQD}{x:Int}(hl:J0 l<=4096):Tot (dx (l,x)) λy=>y=true↔x∈l:=by unfold dx;have h:Tot (sy (l,x)) λy=> ∃i,y=i/\NJ (λz=>aK x z) l i:=(by refine SH (λz=>aK x z) (l:=l) (λi=>(l,x,J0 l,i)) (λi=>i) (λp g q e=>?_) ?_;unfold s9;dsimp only;rw[if_pos (Jt.2 (dP e)),eO e,eS e (n:=4096) hl];rfl;unfold s9;dsimp only;rw[if_neg (by rw[Jt];omega)]);refine .b h λy w=>.s ?_;obtain⟨i,rfl,w⟩:=w;rcases w with⟨rfl,w⟩|⟨p,g,q,e,rfl,c,_⟩;refine⟨nofun,λk=>?_⟩;have:=w x k;rw[<-Bool.not_eq_true,fH]at this;exact absurd rfl this;refine⟨λ_=>?_,λ_=>iS.2 J6⟩;rw[e,show x=g from fH.1 c];simp
theorem Lt{l:List aH}{j:Nat}{x:aH}(h:l[j]?=some x):j<l.length:=(eH.1 h).1
def oG(ids:qQD)(F:List aH):List aH:=F.filter λf=> !decide (f.2.1∈ids)
theorem JMO{F:List aH}{ids win pre post:qQD}{fan:Int}(C:J0 F<=256)(v:ids=pre++win++post)(hn:J0 ids<=256)(hw:J0 win=fan):
  Tot (d5 (J0 pre,F,ids,fan)) λy=>y.2.2.2=oG win F:=by
 have G:=J6 (l:=pre);have R:=J6 (l:=win);have N:=J6 (l:=post);have P:J0 ids=J0 pre+J0 win+J0 post:=by rw[v,cJ,cJ]
 have o:=Jk (J0 pre) fan;have sl:aT ids (some (J0 pre)) (some (J1 .i64 (J0 pre) fan))=some win:=by obtain⟨r,e,d,_⟩:=KS (l:=ids) (j:=J0 pre) (k:=J1 .i64 (J0 pre) fan) G oo oo;rw[e,d,v,show J1 .i64 (J0 pre) fan-J0 pre=J0 win by omega];unfold J0;simp
 have z: ∀f:aH,PC (f,J0 pre,ids,fan)=some (decide (f.2.1∈win),ids,fan):=λf=>by unfold PC;dsimp only;rw[sl];obtain⟨y,e,d⟩:=JIk (l:=win) (x:=f.2.1) oo;simp only[JC,e];rw[show y=decide (f.2.1∈win) by rw[Bool.eq_iff_iff];simpa using d]
 have M:F.length<=256:=by unfold J0 at C;omega
 unfold d5;have E:Tot (tk (J0 pre,F,ids,fan)) λy=> ∃i,y=(i,F,ids,fan)/\NJ (λf:aH=>decide (f.2.1∈win)) F i:=(by refine SH (λf:aH=>decide (f.2.1∈win)) (l:=F) (λi=>(J0 pre,J0 F,i,F,ids,fan)) (λi=>(i,F,ids,fan)) (λp x t h=>?_) ?_;unfold tn;dsimp only;rw[if_pos (Jt.2 (dP h)),ew h,e8 h,eS h (n:=256) C];simp only[JC,z];unfold tn;dsimp only;rw[if_neg (by rw[Jt];omega)]);refine .b E λy h=>?_;obtain⟨i,rfl,hi⟩:=h;dsimp only;rw[if_pos (by simp[rM])];rcases hi with⟨rfl,hi⟩|⟨p,x,t,g,rfl,J,I⟩;rw[if_pos qQH];refine .s ?_;show F=oG win F;unfold oG;rw[List.filter_eq_self.2];intro a A;simp[hi a A];have O:=J6 (l:=p);rw[if_neg (by rw[fH];omega)];have hlen:F.length=p.length+1+t.length:=by rw[g];simp;omega
 have st:=RA (Q:=λy:List aH×qQD×Int×List aH=>y.2.2.2=oG win F) (λf:aH=>decide (f.2.1∈win)) (l:=F) (L:=PH) (λi j q=>(J0 pre,(i:Int),(j:Int),q,ids,fan)) (λi j q x h1 h2 D w=>?_) (λi j q x h2 D w=>?_) (λi q D w H=>?_) t p.length (p.length+1) F oo (by rw[g];simp) (by rw[g];simp) rfl oo (by
  rw[g,List.take_append_of_le_length (zQ0 _),List.take_length,List.take_add_one];have:(p++x::t)[p.length]?=some x:=by simp
  rw[this,List.take_append_of_le_length (zQ0 _),List.take_length,List.filter_append,List.filter_eq_self.2 (λa A=>by simp[I a A])];simp[J])
 rw[show J1 .i64 (J0 p) 1=((p.length+1:Nat):Int)from wF oo];exact st;have B:=Lt h2;unfold PH;dsimp only;rw[if_pos (Jt.2 (by unfold J0;omega)),EM B];simp only[JC,bD,Int.toNat_natCast,h2,z,w];rw[if_pos (show Jj false=true from rfl),EM h1,aY h1,wF (show i<4611686018427387904 by omega),wF (show j<4611686018427387904 by omega)];rfl;have B:=Lt h2;unfold PH;dsimp only;rw[if_pos (Jt.2 (by unfold J0;omega)),EM B];simp only[JC,bD,Int.toNat_natCast,h2,z,w];rw[if_neg qQH,wF (show j<4611686018427387904 by omega)];unfold PH;dsimp only;rw[if_neg (by rw[Jt];unfold J0;omega)];exact .endq (L2 (t:=cU) w λm K=>.s (show List.take i m=_ from K.trans H))
def oe(a:Jd)(s:qQC)(w:List TX):Jd:=(a.1,a.2.1,oG (w.map (·.2.1)) a.2.2.1++[(1,a.2.2.2.2,s)],a.2.2.2.1,J1 .i64 a.2.2.2.2 1)
def uC(a:Jd)(fan:Int)(y:tR):Prop:=(¬lS a/\y=(([],0,[],0,0),false,54))\/(lS a/\ ¬(2<=fan/\fan<=8)/\y=(([],0,[],0,0),false,1))\/(lS a/\(2<=fan/\fan<=8)/\((jR fan.toNat gW (WR a)=none/\y=(a,false,0))\/ ∃r w,jR fan.toNat gW (WR a)=some (r,w)/\((1073741824<a.2.2.2.2/\y=(([],0,[],0,0),false,21))\/(a.2.2.2.2<=1073741824/\ ∃s,nP r=some (s,0)/\J0 s<=167968836/\y=(oe a s w,true,0)))))
theorem r7{r:J7}(h:dV r)(hf:gH r): ∃s,nP r=some (s,0)/\J0 s<=167968836:=by
 have n:=(JO1 h).2;obtain⟨y,e,k⟩:=Vu (B:=4096) (S:=9223372036854775807) (X:=r) ⟨hf.1,hf.2.1,hf.2.2.1,hf.2.2.2.1,hf.2.2.2.2.1,h.2.1,λe j=>Ty.fit.up (B:=0) qQH qQH (show Ty.fit 0 9223372036854775807 J3 e from hf.2.2.2.2.2.2 e j)⟩;have z:Par (nP r) λy=>y.2=0:=by unfold nP;rw[n];refine .b λy g=>?_;injection g with g;subst g;refine .n (λc=>by cases c) λ_=>.b λ_ _=>.b λ_ _=>.z (λ_=>True) trivial λz _=>?_;unfold CQ;exact .i (λ_=>.b λ_ _=>.b λ_ _=>.b λ_ _=>.b λ_ _=>.s qQG) λ_=>.s rfl
 obtain⟨s,f⟩:=y;have:=z _ e;dsimp only at this;subst this;exact⟨s,e,k.1⟩
theorem g4{α σ ρ β:Type}{L:σ->Option (σ⊕ρ)}{Q:ρ->Prop}{n:Nat}{g:List α->Option β}{l:List α}(hn:0<n)(e:Int->σ)
  (hs: ∀pre w post,l=pre++w++post->w.length=n->Tot (L (e (J0 pre))) λr=>match g w with|none=>r=.inl (e (J0 pre+1))|some b=>match r with| .inl _=>False| .inr y=>jR n g l=some (b,w)->Q y)
  (he: ∀i,0<=i->i<=J0 l->J0 l<i+n->Tot (L (e i)) (yO λy=>jR n g l=none->Q y)):
  ∀(t pre:List α),l=pre++t->jR n g l=jR n g t->Tot (J4 L (e (J0 pre))) Q
 |[],pre,j,hf=>by
  refine .step ((he (J0 pre) J6 (by rw[j,cJ];have:=J6 (l:=([]:List α));omega) (by rw[j,hO];omega)).mono λr h=>?_);cases r with
  |inl z=>exact h.elim
  |inr y=>exact h hf
 |x::t,pre,j,hf=>by
  by_cases c:(x::t).length<n;refine .step ((he (J0 pre) J6 (by rw[j,cJ];have:=J6 (l:=x::t);omega) (by rw[j,cJ];unfold J0;omega)).mono λr h=>?_);cases r with
  |inl z=>exact h.elim
  |inr y=>exact h (hf.trans (j9 c))
  have k:((x::t).take n).length=n:=by rw[lO];omega
  have st:=hs pre ((x::t).take n) ((x::t).drop n) (by rw[mP,mQ];exact j) k;rw[vy,if_neg c]at hf;refine .step (st.mono λr h=>?_);cases hg:g ((x::t).take n)with
  |none=>rw[hg]at h hf;subst h;have:=g4 hn e hs he t (pre++[x]) (by rw[j];simp) hf;rw[cJ,cB]at this;exact this
  |some b=>
   rw[hg]at h hf;cases r with
   |inl z=>exact h.elim
   |inr y=>exact h hf
section
theorem H8{w:List TX}{r:J7}(h:gW w=some r)(hw: ∀e∈w,J0 (pl e.1)<=4096/\(e.2.2=true->dV e.1/\gH e.1)):dV r/\gH r:=by
 cases w with
 |nil=>cases h
 |cons x t=>
  rw[FQ]at h;by_cases c:(∀e∈x::t,e.2.2=true)/\fd x.1.2.2.2.2.1 x.1 t/\fT (jn x t)=some true;rw[if_pos c]at h;injection h with h;subst h;have k:=dV.of c.2.2;have j:J0 (dU (pl x.1) t)<=4096:=k.2.1;exact⟨k,rj (λe g=>(hw e g).2 (c.1 e g)) oo⟩;rw[if_neg c]at h;cases h
theorem eu{α:Type}{l pre w post:List α}{j k:Int}(h:l=pre++w++post)(hj:j=J0 pre)(hk:k=J0 pre+J0 w):aT l (some j) (some k)=some w:=by
 have g:=J6 (l:=pre);have o:=J6 (l:=w);have q:=J6 (l:=post);have n:J0 l=J0 pre+J0 w+J0 post:=by rw[h,cJ,cJ]
 obtain⟨r,e,d,_⟩:=KS (l:=l) (j:=j) (k:=k) oo oo oo;rw[e,d,h,hj,show k-J0 pre=J0 w by omega];unfold J0;simp
variable {a:Jd} (hf:FZ a) {fan:Int}
include hf
theorem H5:Tot (OW (a,fan)) (uC a fan):=by
 unfold OW;refine .b (Hu a) λy2 h2=>.n (λc=>.s (.inl ⟨λk=>(by rw[h2.2 k]at c;cases c),rfl⟩)) λc=>?_;have h:=h2.1 c;refine .j (λD=>.g (λE=>.s (.inr (.inl ⟨h,λk=>by omega,rfl⟩))) λE=>.w (JQl h hf) ?_) λD=>.s (.inr (.inl ⟨h,λk=>by omega,rfl⟩));dsimp only at D E;have D: ¬fan<2:=D;have E: ¬8<fan:=E;obtain⟨S,R⟩:=Ka (C:=CR a) (lo:= -1) (to:=0) ((Hz h hf).imp fun{x y} k=>by unfold wd at k;omega) λx V=>by obtain⟨T,n2,O,n4,_⟩:=(qh h hf V).1.1;omega
 have B:jR fan.toNat gW ((WR a).filter λe=>e.2.2)=jR fan.toNat gW (WR a):=x9 oo ug JKO S λe j=>(R e j).2.2;have len:=re h hf;have lF:((WR a).filter λe=>e.2.2).length<=256:=zQ1 (List.length_filter_le _ _) len;have z: ∀e∈(WR a).filter λe=>e.2.2,e.2.2=true/\J0 (pl e.1)<=4096/\(e.2.2=true->dV e.1/\gH e.1):=λe j=>by obtain⟨U,W⟩:=List.mem_filter.1 j;exact⟨W,If h hf U⟩
 generalize Z:(WR a).filter (λe=>e.2.2)=F at B lF z;have fl:(fan.toNat:Int)=fan:=by omega
 refine g4 (L:=di) (Q:=uC a fan) (l:=F) (n:=fan.toNat) (g:=gW) oo (λi=>(F.map (·.1),i,a,fan,[],[],0,0,0,F.map (·.2.1))) (λpre w post H hw=>?_) (λi i0 i1 hi=>?_) F [] rfl rfl;have T:=J6 (l:=pre);have ll:J0 F=J0 pre+J0 w+J0 post:=by rw[H,cJ,cJ]
 have O:=J6 (l:=post);have J:J0 w=fan:=by unfold J0;omega
 have M:J0 F<=256:=by unfold J0;omega
 have o:=Jk (J0 pre) fan;have o1:=Jk (J0 pre) 1;have wm: ∀e∈w,e∈F:=λe j=>by rw[H];simp[j]
 unfold di;dsimp only;rw[if_pos (dA.2 (by rw[cI];omega))];refine .w (eu (pre:=pre.map (·.1)) (w:=w.map (·.1)) (post:=post.map (·.1)) (by rw[H];simp) (by rw[cI]) (by rw[cI,cI];omega)) ?_;cases w with
 |nil=>rw[iT]at J;omega
 |cons x t=>
  refine .b (JOc (x:=x) (t:=t) (λe j=>⟨(z e (wm e j)).1,(z e (wm e j)).2.2 (z e (wm e j)).1⟩) oo) λy q=>?_;obtain⟨r,v⟩:=y;unfold tH at q;cases v with
  |false=>rw[q];exact .s (by show _=_;rw[show J1 .i64 (J0 pre) 1=J0 pre+1 by omega])
  |true=>have q:gW (x::t)=some r:=q;rw[q];obtain⟨N,I⟩:=H8 q λe j=>(z e (wm e j)).2;obtain⟨s,es,P⟩:=r7 N I;rw[if_neg (show¬Jj true=true by decide)];refine .g (λG=>.s λA=>.inr (.inr ⟨h,⟨by omega,by omega⟩,.inr ⟨r,x::t,B▸A,.inl ⟨G,rfl⟩⟩⟩)) λG=>?_;rw[JNj I];refine .w es (.d (λk=>absurd rfl k) λ_=>.w (AC (by have:=h.few;omega) qQH) (.b (JMO (win:=(x::t).map (·.2.1)) (pre:=pre.map (·.2.1)) (post:=post.map (·.2.1)) (ids:=F.map (·.2.1)) (fan:=fan) (F:=a.2.2.1) h.few (by rw[H];simp) (by rw[cI];omega) (by rw[cI];exact J)|>λk=>by rw[cI]at k;exact k) λy9 K=>?_));have:=h.few;have Y:=List.length_filter_le (λf:aH=> !decide (f.2.1∈(x::t).map (·.2.1))) a.2.2.1;refine .w (eR (by rw[K,cB];unfold oG J0 at*;omega) qQH) (.s λA=>.inr (.inr ⟨h,⟨by omega,by omega⟩,.inr ⟨r,x::t,B▸A,.inr ⟨by show a.2.2.2.2<=1073741824;have G: ¬1073741824<a.2.2.2.2:=G;omega,s,es,P,?_⟩⟩⟩));unfold oe;rw[K]
 have M:J0 F<=256:=by unfold J0;omega
 have o:=Jk i fan;unfold di;dsimp only;rw[if_neg (by rw[dA,cI];omega)];exact .s λA=>.inr (.inr ⟨h,⟨by omega,by omega⟩,.inl ⟨B▸A,rfl⟩⟩)
theorem JK0{win pre post ids:qQD}{k:Int}{f:aH}{r:J7}{acc:List aH}(g:ids=pre++win++post)(hn:J0 ids<=256)(hw:J0 win=fan)(hk:idx a.2.2.1 k=some f)(la:J0 acc<=256):
  Tot (J4 ZW (fan,ids,J0 pre,k,false,J0 pre,a,[],[],0,0,0,r,[],a.1,a.2.1,a.2.2.2.1,a.2.2.2.2,acc)) λy=>y=.inl (fan,ids,J0 pre,J1 .i64 k 1,a,[],[],0,0,0,r,[],a.1,a.2.1,a.2.2.2.1,a.2.2.2.2,if f.2.1∈win then acc else acc++[f]):=by
 have B:=J6 (l:=pre);have D:=J6 (l:=win);have A:=J6 (l:=post);have C:J0 ids=J0 pre+J0 win+J0 post:=by rw[g,cJ,cJ]
 have o:=Jk (J0 pre) fan;have z:J0 (pre++win)=J0 pre+J0 win:=cJ;refine fI (l:=pre++win) (λn (m:Bool)=>(fan,ids,J0 pre,k,m,n,a,[],[],0,0,0,r,[],a.1,a.2.1,a.2.2.2.1,a.2.2.2.2,acc)) (λp m=> ∃q,p=pre++q/\(m=true↔f.2.1∈q)) (λp x t m v j=>?_) (λm j=>?_) win pre false _ rfl rfl ⟨[],by simp,by simp⟩;obtain⟨q,rfl,h⟩:=j;have w:ids=(pre++q)++x::(t++post):=by rw[g,v];simp
 have lt:=dP v;unfold ZW;dsimp only;rw[if_pos (Jt.2 oo),eS v (n:=256) oo];refine .t (λc=>.w (eO w) (.w hk (.s ⟨_,rfl,q++[x],by simp,?_⟩))) λc=>.s ⟨true,by subst c;rfl,q++[x],by simp,?_⟩;rw[fH];have: ¬f.2.1∈q:=λk=>by rw[h.2 k]at c;cases c
 simp only[zQ9,kG,this,false_or];exact eq_comm;exact⟨λ_=>List.mem_append_left _ (h.1 c),λ_=>rfl⟩;obtain⟨q,e,h⟩:=j;have e:=List.append_cancel_left e;subst e;unfold ZW;dsimp only;rw[if_neg (by rw[Jt];omega)];refine .endq (.n (λc=>.w hk (.w (eR (by rw[cB];omega) qQH) (.s ?_))) λc=>.s ?_);rw[if_neg (λk=>by rw[h.2 k]at c;cases c)];rw[if_pos (h.1 c)]
theorem Ic:Tot (NS (a,fan)) (uC a fan):=by
 unfold NS;refine .b (YL a) λZ h2=>.n (λc=>.s (.inl ⟨λk=>(by rw[h2.2 k]at c;cases c),rfl⟩)) λc=>?_;have h:=h2.1 c;refine .j (λE=>.g (λF=>.s (.inr (.inl ⟨h,λk=>by omega,rfl⟩))) λF=>.w (JPV h hf) ?_) λE=>.s (.inr (.inl ⟨h,λk=>by omega,rfl⟩));dsimp only at E F;have E: ¬fan<2:=E;have F: ¬8<fan:=F;have len:=re h hf;have K: ∀e∈WR a,J0 (pl e.1)<=4096/\(e.2.2=true->dV e.1/\gH e.1):=λe z=>If h hf z;refine g4 (L:=WT) (Q:=uC a fan) (l:=(WR a)) (n:=fan.toNat) (g:=gW) oo (λi=>(fan,(WR a).map (·.1),(WR a).map (·.2.1),(WR a).map (·.2.2),i,a,[],[],0,0,0)) (λpre w post D hw=>?_) (λi V i1 hi=>?_) (WR a) [] rfl rfl;have W:=J6 (l:=pre);have Y:J0 (WR a)=J0 pre+J0 w+J0 post:=by rw[D,cJ,cJ]
 have T:=J6 (l:=post);have N:J0 w=fan:=by unfold J0;omega
 have O:J0 (WR a)<=256:=by unfold J0;omega
 have o:=Jk (J0 pre) fan;have U:=Jk (J0 pre) 1;have wm: ∀e∈w,e∈(WR a):=λe z=>by rw[D];simp[z]
 unfold WT;dsimp only;rw[if_pos (dA.2 (by rw[cI];omega))];refine .w (eu (pre:=pre.map (·.1)) (w:=w.map (·.1)) (post:=post.map (·.1)) (by rw[D];simp) (by rw[cI]) (by rw[cI,cI];omega)) (.w (eu (pre:=pre.map (·.2.2)) (w:=w.map (·.2.2)) (post:=post.map (·.2.2)) (by rw[D];simp) (by rw[cI]) (by rw[cI,cI];omega)) ?_);cases w with
 |nil=>rw[iT]at N;omega
 |cons x t=>
  refine .b (JPg (x:=x) (t:=t) (λe z=>K e (wm e z)) oo) λy j=>?_;obtain⟨r,v⟩:=y;unfold tH at j;cases v with
  |false=>rw[j];exact .s (by show _=_;rw[show J1 .i64 (J0 pre) 1=J0 pre+1 by omega])
  |true=>
   have j:gW (x::t)=some r:=j;rw[j];obtain⟨P,S⟩:=H8 j λe z=>K e (wm e z);obtain⟨s,es,R⟩:=r7 P S;rw[if_neg (show¬Jj true=true by decide)];refine .g (λG=>.s λC=>.inr (.inr ⟨h,⟨by omega,by omega⟩,.inr ⟨r,x::t,C,.inl ⟨G,rfl⟩⟩⟩)) λG=>?_;have I:=h.few;have H:(WR a).map (·.2.1)=pre.map (·.2.1)++(x::t).map (·.2.1)++post.map (·.2.1):=by rw[D];simp
   have go:Tot (J4 WQ (fan,(WR a).map (·.2.1),J0 pre,0,a,[],[],0,0,0,r,[],a.1,a.2.1,a.2.2.2.1,a.2.2.2.2,[])) λy=>y=.inr (oe a s (x::t),true,0):=(by refine fI (l:=a.2.2.1) (λk (acc:List aH)=>(fan,(WR a).map (·.2.1),J0 pre,k,a,[],[],0,0,0,r,[],a.1,a.2.1,a.2.2.2.1,a.2.2.2.2,acc)) (λp acc=>acc=oG ((x::t).map (·.2.1)) p) (λp f q acc B A=>?_) (λacc A=>?_) a.2.2.1 [] [] _ rfl rfl rfl;have lt:=dP B;have M:=List.length_filter_le (λf:aH=> !decide (f.2.1∈(x::t).map (·.2.1))) p;unfold WQ;dsimp only;rw[if_pos (Jt.2 lt)];have J:=JK0 hf (fan:=fan) (win:=(x::t).map (·.2.1)) (pre:=pre.map (·.2.1)) (post:=post.map (·.2.1)) (r:=r) (acc:=acc) H (by rw[cI];omega) (by rw[cI];exact N) (eO B) (by rw[A];unfold oG J0 at*;omega);rw[cI]at J;refine J.mono λy j=>?_;rw[j,eS B (n:=256) I];refine⟨_,rfl,?_⟩;unfold oG at A⊢;rw[List.filter_append,<-A];by_cases c:f.2.1∈(x::t).map (·.2.1);rw[if_pos c,List.filter_cons_of_neg (by rw[decide_eq_true c];decide),List.filter_nil,hO];rw[if_neg c,List.filter_cons_of_pos (by rw[decide_eq_false c];rfl)];rfl;have M:=List.length_filter_le (λf:aH=> !decide (f.2.1∈(x::t).map (·.2.1))) a.2.2.1;unfold WQ;dsimp only;rw[if_neg (by rw[Jt];omega)];refine .endq (.w es (.w (eR (by rw[A,cB];unfold oG J0 at*;omega) qQH) (.s ?_)));rw[A];rfl);refine go.mono λy j=>?_;rw[j];exact λC=>.inr (.inr ⟨h,⟨by omega,by omega⟩,.inr ⟨r,x::t,C,.inr ⟨by show a.2.2.2.2<=1073741824;have G: ¬1073741824<a.2.2.2.2:=G;omega,s,es,R,rfl⟩⟩⟩)
 have O:J0 (WR a)<=256:=by unfold J0;omega
 have o:=Jk i fan;unfold WT;dsimp only;rw[if_neg (by rw[dA,cI];omega)];exact .s λC=>.inr (.inr ⟨h,⟨by omega,by omega⟩,.inl ⟨C,rfl⟩⟩)
omit hf
theorem uC.uniq{y z:tR}(h:uC a fan y)(g:uC a fan z):y=z:=by rcases h with⟨h1,h2⟩|⟨h1,h2,B⟩|⟨h1,h2,B⟩;rcases g with⟨j,k⟩|⟨j,_⟩|⟨j,_⟩;rw[h2,k];exact absurd j h1;exact absurd j h1;rcases g with⟨j,k⟩|⟨j,k,o⟩|⟨j,k,_⟩;exact absurd h1 j;rw[B,o];exact absurd k h2;rcases g with⟨j,k⟩|⟨j,k,o⟩|⟨j,k,o⟩;exact absurd h1 j;exact absurd h2 k;rcases B with⟨e,x⟩|⟨r,w,e,x⟩;rcases o with⟨e',n⟩|⟨r',w',e',n⟩;rw[x,n];rw[e]at e';cases e';rcases o with⟨e',n⟩|⟨r',w',e',n⟩;rw[e]at e';cases e';rw[e]at e';injection e' with e';injection e' with e1 e2;subst e1 e2;rcases x with⟨q,A⟩|⟨q,s,es,_,A⟩;rcases n with⟨q',v⟩|⟨q',_⟩;rw[A,v];omega;rcases n with⟨q',v⟩|⟨q',s',C,_,v⟩;omega;have:=es.symm.trans C;injection this with this;injection this with this _;rw[A,v,this]
end
def fD(K:Int)(a:Jd):Prop:=(∀f∈a.2.2.1,J0 f.2.2<=K)/\J0 a.2.2.1<=257/\J0 a.1<=16
theorem fD.zero{K:Int}:fD K ([],0,[],0,0):=⟨nofun,by decide,by decide⟩
theorem fD.up{K e:Int}{a:Jd}(h:fD K a)(hk:K<=e):fD e a:=⟨λf hf=>kH (h.1 f hf) hk,h.2⟩
theorem JJ3{l:qQD}(hl:J0 l<=16):NX (l,l)=some true:=by have g:Tot (NX (l,l)) λy=>y=true:=(by unfold NX;refine .d (λc=>absurd rfl c) λ_=>fI (l:=l) (λi (_:Unit)=>(l,l,i)) (λ_ _=>True) (λpre x t _ h _=>?_) (λ_ _=>?_) l [] () _ rfl rfl trivial;unfold lr;dsimp only;rw[if_pos (Jt.2 (dP h)),eS h (n:=16) hl];exact .w (eO h) (.w (eO h) (.d (λc=>absurd rfl c) λ_=>.s ⟨(),rfl,qQG⟩));unfold lr;dsimp only;rw[if_neg (by rw[Jt];omega)];exact .s rfl);obtain⟨y,e,d⟩:=g;rw[e,d]
theorem JHF{l:List aH}(hl:J0 l<=257):OY (l,l)=some true:=by have g:Tot (OY (l,l)) λy=>y=true:=(by unfold OY;refine .d (λc=>absurd rfl c) λ_=>fI (l:=l) (λi (_:Unit)=>(l,l,i)) (λ_ _=>True) (λpre x t _ h _=>?_) (λ_ _=>?_) l [] () _ rfl rfl trivial;unfold ss;dsimp only;rw[if_pos (Jt.2 (dP h)),eS h (n:=257) hl];refine .w (eO h) (.w (eO h) ?_);rw[gu (t:=cU) x];exact .s ⟨(),rfl,qQG⟩;unfold ss;dsimp only;rw[if_neg (by rw[Jt];omega)];exact .s rfl);obtain⟨y,e,d⟩:=g;rw[e,d]
theorem Ii{K:Int}{a:Jd}(h:fD K a):NV (a,a)=some true:=by have e: ∀x:Int,aK x x=true:=λx=>fH.2 rfl;unfold NV;dsimp only;rw[if_pos (e _),if_pos (e _),if_pos (e _),JJ3 h.2.2];simp only[JC,if_true];rw[JHF h.2.1];rfl
theorem uC.af{K:Int}{a:Jd}{fan:Int}{y:tR}(g:167968836<=K)(h:fD K a)(o:uC a fan y):fD K y.1/\(y.2.2=0->y.2.1=false->y.1=a)/\(y.2.2=0->y.2.1=true->y.1.2.2.2.2=a.2.2.2.2+1/\a.2.2.2.2<=1073741824):=by rcases o with⟨_,rfl⟩|⟨_,_,rfl⟩|⟨ok,_,⟨_,rfl⟩|⟨r,w,_,⟨_,rfl⟩|⟨hs,s,_,e,rfl⟩⟩⟩;exact⟨.zero,λc=>absurd c qQH,λc=>absurd c qQH⟩;exact⟨.zero,λc=>absurd c qQH,λc=>absurd c qQH⟩;exact⟨h,λ_ _=>rfl,λ_ c=>(by cases c)⟩;exact⟨.zero,λc=>absurd c qQH,λc=>absurd c qQH⟩;have o:=Jk a.2.2.2.2 1;have:=ok.ser;refine⟨⟨λf hf=>?_,?_,h.2.2⟩,λ_ c=>(by cases c),λ_ _=>⟨by show J1 .i64 a.2.2.2.2 1=_;omega,hs⟩⟩;rcases zQ9.1 hf with k|k;exact h.1 f (List.mem_filter.1 k).1;rw[kG.1 k];show J0 s<=K;omega;have j:=List.length_filter_le (λf:aH=> !decide (f.2.1∈w.map (·.2.1))) a.2.2.1;have:=ok.few;show J0 (oG _ _++_)<=257;rw[cJ,cB];unfold oG J0 at*;omega
theorem M5{K fan:Int}(j:167968836<=K)(g:K<=1073741824): ∀(n:Nat) (a:Jd),fD K a->(1073741826-a.2.2.2.2).toNat<=n-> ∃y,J4 dn (fan,a,[],0,[],0,0)=some y/\J4 WX (fan,a,[],0,[],0,0)=some y/\fD K y.1
 |n,a,h,hn=>by
  have hf:FZ a:=λf hf=>kH (h.1 f hf) g;obtain⟨y,F,o⟩:=H5 hf (fan:=fan);obtain⟨z,E,B⟩:=Ic hf (fan:=fan);have:=o.uniq B;subst this;obtain⟨v,D,A⟩:=o.af j h;have s1:dn (fan,a,[],0,[],0,0)=if aN y.2.2 0=true then some (.inr (([],0,[],0,0),y.2.2))else if Jj y.2.1=true then some (.inr (y.1,0))else some (.inl (fan,y.1,[],0,[],0,0)):=by unfold dn;dsimp only;rw[F];rfl
  have e:WX (fan,a,[],0,[],0,0)=if aN y.2.2 0=true then some (.inr (([],0,[],0,0),y.2.2))else if Jj y.2.1=true then some (.inr (a,0))else some (.inl (fan,y.1,[],0,[],0,0)):=by unfold WX;dsimp only;rw[E];rfl
  by_cases c:aN y.2.2 0=true;rw[if_pos c]at s1 e;exact⟨_,dG s1,dG e,.zero⟩;rw[if_neg c]at s1 e;have q:y.2.2=0:=Decidable.of_not_not λk=>c (eJ.2 k);cases hb:y.2.1 with
  |false=>rw[hb,if_pos (show Jj false=true from rfl)]at s1 e;rw[D q hb]at s1;exact⟨_,dG s1,dG e,h⟩
  |true=>
   rw[hb,if_neg (show¬Jj true=true by decide)]at s1 e;obtain⟨G,H⟩:=A q hb
   match n,hn with
   |0,hn=>omega
   |n+1,hn=>obtain⟨r,x,C,w⟩:=M5 j g n y.1 v oo;exact⟨r,by rw[eW s1];exact x,by rw[eW e];exact C,w⟩
theorem Lk{K:Int}{a:Jd}{fan:Int}(g:167968836<=K)(e:K<=1073741824)(h:fD K a): ∃y,mw (a,fan)=some y/\GK (a,fan)=some y/\fD K y.1:=M5 g e _ a h (zQ0 _)
theorem JOb{a:Jd}(h:lS a){i b:Int}(e:idx a.1 i=some b):0<=b/\b<64:=by
 obtain⟨B,e⟩:=fY e;obtain⟨o,j⟩:=eH.1 e;obtain⟨_,z⟩:=fY h.zero;obtain⟨x,r⟩:=eH.1 z;have D:=h.len;obtain⟨w,g,_⟩:=jC (l:=a.1) (i:=J0 a.1-1) oo oo;have C:=h.last w g;obtain⟨_,g⟩:=fY g;obtain⟨v,n⟩:=eH.1 g;have k:=h.asc;unfold ip at k;have p:=List.pairwise_iff_getElem.1 k;have y:=h.pages;have A:(J0 a.1-1).toNat+1=a.1.length:=by unfold J0 at*;omega
 constructor;rcases ID i.toNat with c|c;have q:(0:Int)=b:=by rw[<-j,<-r];congr 1;exact c.symm
 omega;have:=p (0:Int).toNat i.toNat x o c;rw[j,r]at this;omega;rcases zQ3 i.toNat (J0 a.1-1).toNat with c|c;have:=p i.toNat (J0 a.1-1).toNat o v c;rw[j,n]at this;omega;have q:w=b:=by rw[<-j,<-n];congr 1;omega
 omega
theorem JJj{a:Jd}(h:lS a){i:Int}(h0:0<=i)(h1:i<J0 a.1):Tot (sE (a,i)) λy=>Ty.fit 0 0 (.i .i64) y.1/\Ty.fit 0 0 (.i .i64) y.2:=by unfold sE;dsimp only;have k:=Jk i 1;have:=h.len.2;obtain⟨w,e,_⟩:=jC (l:=a.1) h0 h1;have b:=JOb h e;have g:Ty.fit 0 0 (.i .i64) w:=J2.2 (show -9223372036854775808<=w/\w<=9223372036854775807 by omega);refine .l (λc=>?_) λc=>.w e (.s ⟨g,fA⟩);obtain⟨n,j,_⟩:=jC (l:=a.1) (i:=J1 .i64 i 1) oo c;exact .w j (.w e (.s ⟨g,fA⟩))
theorem JJZ{x:J7}(h:gH x):Tot (nP x) λy=>J0 y.1<=167968836:=by
 obtain⟨v,j,g,hR⟩:=vv h;cases v with
 |false=>unfold nP;rw[g];exact .s qQH
 |true=>obtain⟨s,e,l⟩:=r7 (hR rfl) h;exact⟨_,e,l⟩
theorem tx{K:Int}{a:Jd}{l:JT}{n:Int}(V:167968836<=K)(h:fD K a)(hl:Ty.fit 16384 1073741824 JP l)(hn: -9223372036854775808<=n/\n<=9223372036854775807):Tot (NQ (a,l,n)) λy=>fD K y.1:=by
 unfold NQ;refine .b (YL a) λy2 h2=>.n (λ_=>.s .zero) λc=>?_;have ok:=h2.1 c;refine .b (oW hl) λR M=>.n (λ_=>.s .zero) λI=>.j (λL=>.g (λ_=>.s .zero) λJ=>?_) λ_=>.s .zero;have lv:=M.2 I;dsimp only at L J lv⊢;have nx:=ok.next;have m1:=LP a.2.2.2.1 l.1;have Y:=Jk (cR a.2.2.2.1 l.1) n;have W:=bF (J1 .i64 (cR a.2.2.2.1 l.1) n) 1;have m2:=fg (Jm .i64 (J1 .i64 (cR a.2.2.2.1 l.1) n) 1) l.2.2;generalize cR a.2.2.2.1 l.1=e at*;generalize iW (Jm .i64 (J1 .i64 e n) 1) l.2.2=to at*;refine .l (λ_=>.s h) λc6=>.k (λU=>.g (λ_=>.s .zero) λQ=>?_) λ_=>.s .zero;have Z:=bF e l.1;have o4:=bF to l.1;have T:=Jk (Jm .i64 to l.1) 1;have bl:=ok.len;have fl:=ok.few;have P:=Jk (J0 a.2.2.1) (J0 a.1);have fn:=J6 (l:=a.2.2.1);obtain⟨es,G,v,_⟩:=KS (l:=l.2.1) (j:=Jm .i64 e l.1) (k:=J1 .i64 (Jm .i64 to l.1) 1) oo oo oo;have H:Ty.fit 16384 1073741824 (.l J3) es:=by rw[v];exact uo (Od hl.2.1)
 have le:J0 es<=4096:=by rw[v];have:=lv.2.2.1;unfold J0 at*;simp;omega
 refine .w G ?_;have o: ∀fs:List aH,fs=a.2.2.1->Tot (J4 XM (e,to,es,0,a,l,[],[],0,0,0,[],a.1,a.2.1,a.2.2.2.1,a.2.2.2.2,fs)) λy=>fD K y.1:=(by intro fs F;subst F;refine fI (l:=a.1) (λi (b:Int×List aH)=>(e,to,es,i,a,l,[],[],0,0,0,[],a.1,a.2.1,a.2.2.2.1,b.1,b.2)) (λpre b=>(∀f∈b.2,J0 f.2.2<=K)/\J0 b.2=J0 a.2.2.1+J0 pre) (λpre x t b g r=>?_) (λb r=>?_) a.1 [] (a.2.2.2.2,a.2.2.1) _ rfl rfl ⟨h.1,by dsimp only;rw[iT];omega⟩;obtain⟨D,O⟩:=r;have lt:=dP g;have np:=J6 (l:=pre);unfold XM;dsimp only;rw[if_pos (Jt.2 lt),eS g (n:=16) bl.2];refine .b (JJj ok np lt) λA w=>.b (Pq (B:=16384) (S:=1073741824) (X:=(es,e,to,A.1,A.2,0)) ⟨H,J2.2 (show -9223372036854775808<=e/\e<=9223372036854775807 by omega),J2.2 (show -9223372036854775808<=to/\to<=9223372036854775807 by omega),w.1.u,w.2.u,mR .i64 0⟩) λE C=>.d (λ_=>.s .zero) λ_=>.b (JJZ (x:=E.1) (Ty.fit.up qQH qQH C.1)) λz N=>.w (eR (by rw[cB];omega) qQH) (.s ⟨(J1 .i64 b.1 1,b.2++[(1,b.1,z.1)]),rfl,λf hf=>?_,?_⟩);rcases zQ9.1 hf with k|k;exact D f k;rw[kG.1 k];show J0 z.1<=K;omega;dsimp only;rw[cJ,cB,cJ,cB];omega;unfold XM;dsimp only;rw[if_neg (by rw[Jt];omega)];exact .s ⟨r.1,by show J0 b.2<=257;have:=r.2;omega,h.2.2⟩);refine fI (l:=es) (λi (_:Unit)=>(e,to,es,i,a,l,[],[],0,0,0)) (λ_ _=>True) (λpre x t _ g _=>?_) (λ_ _=>?_) es [] () _ rfl rfl trivial;have q:=eO g;unfold mo;dsimp only;rw[if_pos (Jt.2 (dP g)),eS g (n:=4096) le];exact .w q (.p (λ_=>.w q (.e (λ_=>.w q (.h (λ_=>.s .zero) λ_=>.s ⟨(),rfl,qQG⟩)) λ_=>.s ⟨(),rfl,qQG⟩)) λ_=>.w q (.h (λ_=>.s .zero) λ_=>.s ⟨(),rfl,qQG⟩));unfold mo;dsimp only;rw[if_neg (by rw[Jt];omega)];exact .endq (.w (AC oo qQH) (o _ rfl))
theorem JMo{l:qQD}{y:Je}(e:uQ (l,400)=some y):y.2=0/\J0 y.1<=400:=by have h:Par (uQ (l,400)) λy=>y.2=0/\J0 y.1<=400:=(by unfold uQ;dsimp only;refine .g (λc=>.b λa g=>.s ⟨rfl,?_⟩) λc=>.s ⟨rfl,by show J0 l<=400;omega⟩;obtain⟨r,j,_,h2⟩:=vP (l:=l) (k:=400) qQH oo;rw[j]at g;injection g with g;subst g;show J0 r<=400;omega);exact h _ e
theorem JI5{x0:qQD}{y:Je}(w0:Ty.inR (.l (.i .u8)) x0)(h:uQ (x0,400)=some y):Ty.fit 16384 1073741824 J5 y/\0<=y.2:=by have j:Ty.fit (J0 x0) 0 (.l (.i .u8)) x0:=⟨bB _,λa e=>by have:=w0.2 a e;rw[RE];simpa[Ty.inR,IntKind.min,IntKind.max,IntKind.signed,IntKind.bits]using this⟩;have k:0<=J0 x0:=J6;have g:=(xu (B:=J0 x0) (S:=0) (X:=(x0,400)) ⟨j,mR .i64 400⟩ (show(0:Int)<=400 by decide)).get h;obtain⟨n,o⟩:=JMo h;exact⟨⟨⟨by show J0 y.1<=16384;omega,λa e=>g.1.1.2 a e⟩,g.1.2⟩,by omega⟩
theorem JIu{x0:qQD}(w0:Ty.inR (.l (.i .u8)) x0):Tot (uQ (x0,400)) λy=>Ty.fit 16384 1073741824 J5 y/\0<=y.2:=by have g:Ty.fit (J0 x0) 0 (.l (.i .u8)) x0:=⟨bB _,λa h=>by have:=w0.2 a h;rw[RE];simpa[Ty.inR,IntKind.min,IntKind.max,IntKind.signed,IntKind.bits]using this⟩;have j:0<=J0 x0:=J6;obtain⟨y,e,_⟩:=xu (B:=J0 x0) (S:=0) (X:=(x0,400)) ⟨g,mR .i64 400⟩ (show(0:Int)<=400 by decide);exact⟨y,e,JI5 w0 e⟩
theorem nf{n:Int}(h0:0<=n)(h1:n<=9223372036854775807){B S:Int}:Ty.fit B S (.i .i64) n:=J2.2 ⟨by omega,h1⟩
theorem nx{c:Je}{n:Int}(hn: -9223372036854775808<=n/\n<=9223372036854775807)(h:Ty.fit 16384 1073741824 J5 c)(h0:0<=c.2):Tot (Ji (n,c)) λy=>(0<=y.1/\y.1<=9223372036854775807/\(1<=n->y.1<n))/\Ty.fit 16384 1073741824 J5 y.2/\0<=y.2.2:=(Jo (B:=16384) (S:=1073741824) (X:=(n,c)) ⟨J2.2 hn,h⟩ h0).mono λy h=>⟨⟨h.2.1,(J2.1 h.1.1).2,h.2.2.1⟩,h.1.2,h.2.2.2⟩
theorem nxI{c:Je}(h:Ty.fit 16384 1073741824 J5 c)(h0:0<=c.2):Tot (gP c) λy=>Ty.fit 16384 9223372036854775807 (.i .i64) y.1/\Ty.fit 16384 1073741824 J5 y.2/\0<=y.2.2:=(jI (B:=16384) (S:=1073741824) (X:=c) h h0).mono λy h=>⟨h.1.1,h.1.2,h.2⟩
theorem g0{a b lv:Int}(h1:1<=a)(h2:a<=b)(h3:b<=100)(h4:0<=lv)(h5:lv<=8):dV (a,b,0,0,lv,[]):=⟨⟨h1,h2,by show b<=1099511627776;omega,by show(0:Int)<=0;decide,by show(0:Int)<=0;decide,by show(0:Int)<64;decide,h4,h5⟩,by show J0 ([]:List aA)<=4096;decide,λj e h=>by simp at h,λe h=>by simp at h,λj a b h=>by simp at h⟩
theorem JGi:OB ()=some true:=by
 have x:=ON (g0 (a:=1) (b:=2) (lv:=0) qQH qQH qQH qQH qQH);have z:=ON (g0 (a:=3) (b:=3) (lv:=0) qQH qQH qQH qQH qQH);have w:=ON (g0 (a:=1) (b:=3) (lv:=1) qQH qQH qQH qQH qQH);have m:yJ (([]:List aA),[])=some []:=by unfold yJ;refine dG ?_;unfold s7;dsimp only;rw[if_pos (by rfl),eR (α:=aA) (l:=[]) (m:=[]) qQH qQH];rfl
 have g:Tot (dh ((1,2,0,0,0,[]),3,3,0,0,0,[])) λy=>y=((1,3,0,0,1,[]),0):=by
  unfold dh;dsimp only;refine .b (cE x) λv h=>.r (λ_=>.b (cE z) λB k=>.n (λc=>by rw[k]at c;cases c) λ_=>?_) λc=>by rw[h]at c;cases c
  have o:HI ((1,2,0,0,0,([]:List aA)),3,3,0,0,0,([]:List aA))=some true:=by rfl
  refine .b (cE o) λE r=>.n (λc=>by rw[r]at c;cases c) λ_=>.o (λ_=>.g (λc=>absurd c qQH) λ_=>?_) λc=>absurd c qQH;refine .b (cE m) λC q=>?_;subst q;have A:J1 .i64 (cR 0 0) 1=1:=by rfl
  rw[A];exact .b (cE w) λD n=>.n (λc=>by rw[n]at c;cases c) λ_=>.s rfl
 have j:Tot (OB ()) λy=>y=true:=by unfold OB;refine .b g λv h=>?_;subst h;exact .e (λ_=>.e (λ_=>.e (λ_=>.s (by rfl)) λc=>absurd rfl c) λc=>absurd rfl c) λc=>absurd rfl c
 obtain⟨y,e,d⟩:=j;rw[e,d]
abbrev pW(c:Je):Prop:=Ty.fit 16384 1073741824 J5 c/\0<=c.2
theorem JMn{n:Int}{c:Je}(hn:n<=9223372036854775807)(hc:pW c):Tot (VX (n,c)) λy=>J0 y.1<=16/\pW y.2:=by unfold VX;refine Jn (τ:=Int×Je×qQD) (λq=>(n,q.1,q.2.1,q.2.2)) (λq=>1<=q.1/\pW q.2.1/\J0 q.2.2<=16) (λq=>n-q.1) ?_ (1,c,[0]) rfl ⟨by show(1:Int)<=1;decide,hc,by show J0 ([0]:qQD)<=16;decide⟩;rintro⟨i,c,l⟩ ⟨h1,h2,e⟩;dsimp only at h1 h2 e;unfold Ci;dsimp only;have o:=Jk i 1;refine .l (λk=>.b (nx (n:=3) qQH h2.1 h2.2) λy g=>.e (λ_=>.l (λh=>.w (eR (by rw[cB];omega) qQH) (.s ⟨(J1 .i64 i 1,y.2,l++[i]),rfl,⟨by dsimp only;omega,g.2,?_⟩,by dsimp only;omega,by omega⟩)) λ_=>.s ⟨(J1 .i64 i 1,y.2,l),rfl,⟨by dsimp only;omega,g.2,e⟩,by dsimp only;omega,by omega⟩) λ_=>.s ⟨(J1 .i64 i 1,y.2,l),rfl,⟨by dsimp only;omega,g.2,e⟩,by dsimp only;omega,by omega⟩) λ_=>.s ⟨e,h2⟩;show J0 (l++[i])<=16;rw[cJ,cB];omega
theorem JN4{K n:Int}{l:qQD}(hl:J0 l<=16):Tot (US (n,l)) λy=>fD K y.1:=by
 have bt: ∃b,CJ (n,l)=some b:=by
  obtain⟨y,e,_⟩:=YL (l,n,[],1,1);unfold BY at e;dsimp only at e;cases hb:CJ (n,l)with
  |none=>rw[hb]at e;cases e
  |some b=>exact⟨b,rfl⟩
 obtain⟨b,e⟩:=bt;unfold US;refine .w e (.n (λ_=>.s .zero) λ_=>.w (AC (by dsimp only;omega) qQH) (.s ⟨nofun,by show J0 ([]:List aH)<=257;decide,hl⟩))
theorem JJO{n:Int}{l:JT}{c:Je}(hn:n<=9223372036854775807)(hl:Ty.fit 16384 1073741824 JP l)(hc:pW c):Tot (XJ (n,l,c)) λy=>fD 167968836 y.1/\pW y.2:=by
 have E:(167968836:Int)<=167968836:=bB _;have td: ∀{a:Jd} {fan:Int},fD 167968836 a->Tot (GK (a,fan)) λy=>fD 167968836 y.1:=λh=>by obtain⟨y,_,e,k⟩:=Lk E qQH h;exact⟨y,e,k⟩
 unfold XJ;refine .b (JMn hn hc) λY h2=>.b (JN4 (K:=167968836) h2.1) λL R=>.b (nx (n:=8) qQH h2.2.1 h2.2.2) λH I=>Jn (τ:=Fs) (λq=>(q.1,q.2.1,l,([],0,[],0,0),q.2.2)) (λq=>q.1<=9223372036854775807/\pW q.2.1/\fD 167968836 q.2.2) (λq=>q.1) ?_ (H.1,H.2,L.1) rfl ⟨I.1.2.1,I.2,R⟩;rintro⟨i,c,a⟩ ⟨Q,z,j⟩;dsimp only at Q z j;unfold Dg;dsimp only;have o:=bF i 1;have g: ∀{c':Je} {A:Jd},0<i->pW c'->fD 167968836 A-> ∃q:Fs,(Jm .i64 i 1,c',l,(([],0,[],0,0):Jd),A)=(q.1,q.2.1,l,([],0,[],0,0),q.2.2)/\(q.1<=9223372036854775807/\pW q.2.1/\fD 167968836 q.2.2)/\q.1<i/\0<=i:=fun{c' A} h J O=>
  ⟨(Jm .i64 i 1,c',A),rfl,⟨by dsimp only;omega,J,O⟩,by dsimp only;omega,by omega⟩
 refine .g (λk=>.b (nx (n:=12) qQH z.1 z.2) λW C=>.b (tx E j hl (J2.1 (Jl (B:=0) (S:=0)))) λV D=>.e (λ_=>.b (nx (n:=4) qQH C.2.1 C.2.2) λM r=>.e (λ_=>.b (nx (n:=3) qQH r.2.1 r.2.2) λN x=>.b (td D) λF w=>.e (λ_=>.s (g k x.2 w)) λ_=>.s (g k x.2 D)) λ_=>.s (g k r.2 D)) λ_=>.b (nx (n:=4) qQH C.2.1 C.2.2) λM r=>.e (λ_=>.b (nx (n:=3) qQH r.2.1 r.2.2) λN x=>.b (td j) λF w=>.e (λ_=>.s (g k x.2 w)) λ_=>.s (g k x.2 j)) λ_=>.s (g k r.2 j)) λ_=>.map (P:=λy=>fD 167968836 y.1/\pW y.2) (.b (nx (n:=2) qQH z.1 z.2) λU v=>.e (λ_=>.b (tx E j hl qQH) λT G=>.e (λ_=>.s ⟨G,v.2⟩) λ_=>.s ⟨j,v.2⟩) λ_=>.s ⟨j,v.2⟩) λ_ h=>h
theorem JKU{fs:List aH}{c:Je}(hf: ∀f∈fs,J0 f.2.2<=167968836)(hl:J0 fs<=257)(hc:pW c):Tot (WB (fs,c)) λy=>((∀f∈y.1,J0 f.2.2<=335937673)/\J0 y.1<=257)/\pW y.2:=by
 have K:=J6 (l:=fs);unfold WB;refine .e (λ_=>.s ⟨⟨nofun,by show J0 ([]:List aH)<=257;decide⟩,hc⟩) λA=>?_;have A: ¬J0 fs=0:=A;refine .b (nx (n:=J0 fs) ⟨by omega,by omega⟩ hc.1 hc.2) λe h2=>.b (nx (n:=2) qQH h2.2.1 h2.2.2) λD j=>?_;have v:=h2.1.2.2 oo;have w:=h2.1.1;have o:=Jk e.1 1;dsimp only;refine .e (λ_=>?_) λ_=>?_;obtain⟨p,H,E,L⟩:=vP (l:=fs) (k:=e.1) w oo;obtain⟨q,F,C,M⟩:=wV (l:=fs) (k:=J1 .i64 e.1 1) oo oo;refine .w H (.w (AC oo qQH) (.w F (.w (eR oo qQH) (.s ⟨⟨λf r=>?_,?_⟩,j.2⟩))));have:f∈fs:=(by rcases zQ9.1 r with m|m;rw[E]at m;exact MW m;rw[C]at m;exact zQ7 m);have:=hf f this;omega;show J0 (p++q)<=257;rw[cJ];omega;obtain⟨x,J,h⟩:=jC w v;have G:=hf x (zQ5 h);have en:e.1=((e.1.toNat:Nat):Int):=by omega
 have z:aW (List.length fs) e.1=some ():=by unfold aW;rw[if_pos (by unfold J0 at v;omega)]
 have el:bD fs (Int.toNat e.1)=some x:=h;have hs:Ty.fit 16384 167968836 XN (x.2.2,D.2):=⟨G,j.2.1⟩;refine .w (AC oo qQH) (.w z (.w el (.b (JkB (B:=16384) (S:=167968836) hs j.2.2) λI g=>.w z (.w el (.s ⟨⟨λf r=>?_,?_⟩,⟨g.1.2.1,g.1.2.2⟩,g.2⟩)))));rcases pc r with m|rfl;have:=hf f m;omega;exact g.1.1;show J0 (bA fs _ _)<=257;rw[qQ];exact hl
theorem JeN{x0:qQD}{X:Int}(w0:Ty.inR (.l (.i .u8)) x0)(w1:Ty.inR (.i .i64) X):dy (x0,X)=some true:=by have F:Tot (dy (x0,X)) λy=>y=true:=(by unfold dy;refine .b (cE JGi) λy2 O=>.n (λc=>by rw[O]at c;cases c) λ_=>.b (JIu w0) λQ M=>.b (JHj (B:=16384) (S:=1073741824) (X:=(25,Q)) ⟨mR .i64 25,M.1⟩ M.2 (by show(0:Int)<=25;decide) (by show(25:Int)<=1000;decide)) λJ x=>?_;have P:=J2.1 x.1.1;refine .b (JJO (n:=J.1) P.2 x.1.2.1 ⟨x.1.2.2,x.2⟩) λg o=>.b (JKU o.1.1 o.1.2.1 o.2) λv w=>.b (nxI w.2.1 w.2.2) λr h7=>?_;dsimp only;have G:J0 [g.1,(g.1.1,g.1.2.1,v.1,g.1.2.2.2),(([],0,[],r.1,0):Jd)]=3:=rfl;have I: ∀a∈[g.1,(g.1.1,g.1.2.1,v.1,g.1.2.2.2),(([],0,[],r.1,0):Jd)],fD 335937673 a:=(by intro a h;simp only[cO,List.not_mem_nil,or_false]at h;rcases h with rfl|rfl|rfl;exact o.1.up qQH;exact⟨w.1.1,w.1.2,o.1.2.2⟩;exact⟨nofun,by show J0 ([]:List aH)<=257;decide,by show J0 ([]:qQD)<=16;decide⟩);rw[G];generalize [g.1,(g.1.1,g.1.2.1,v.1,g.1.2.2.2),(([],0,[],r.1,0):Jd)]=l at I G;generalize (g.1,g.1.1,g.1.2.1,v.1,g.1.2.2.2)=rest;generalize r.2=H;generalize J.2.1=D;refine fI (l:=l) (λi (_:Unit)=>(X,l,3,i,H,D,rest)) (λ_ _=>True) (λpre a t _ A _=>?_) (λ_ _=>?_) l [] () _ rfl rfl trivial;have h:=I a (by rw[A];simp);have lt:=dP A;unfold tc;dsimp only;rw[if_pos (Jt.2 oo)];refine .w (eO A) ?_;have L:J0 [X,2,3]=3:=rfl;rw[L];generalize [X,2,3]=fs at L;refine fI (l:=fs) (λk (_:Unit)=>(X,l,3,J0 pre,fs,3,k,H,D,rest.1,rest.2,a)) (λ_ _=>True) (λp fan q _ C _=>?_) (λ_ _=>?_) fs [] () _ rfl rfl trivial;have Z:=dP C;have j:FZ a:=λf hf=>kH (h.1 f hf) qQH;obtain⟨y,Y,E⟩:=H5 j (fan:=fan);obtain⟨z,W,T⟩:=Ic j (fan:=fan);have:=E.uniq T;subst this;obtain⟨N,_,_⟩:=E.af (K:=335937673) qQH h;obtain⟨u,U,R,V⟩:=Lk (K:=335937673) (fan:=fan) qQH qQH h;unfold ta;dsimp only;rw[if_pos (Jt.2 oo),eS C (n:=3) oo];refine .w (eO C) (.w Y (.w W (.q (λ_=>?_) λc=>absurd rfl c)));rw[if_pos (show Jj (eqB y.2.1 y.2.1)=false by cases y.2.1<;>rfl)];refine .w (Ii N) ?_;rw[if_neg (show¬Jj true=true by decide)];refine .w U (.w R (.q (λ_=>.w (Ii V) ?_) λc=>absurd rfl c));rw[if_neg (show¬Jj true=true by decide)];exact .s ⟨(),rfl,qQG⟩;unfold ta;dsimp only;rw[if_neg (by rw[Jt];omega),eS A (n:=3) oo];exact .s ⟨(),rfl,qQG⟩;unfold tc;dsimp only;rw[if_neg (by rw[Jt];omega)];exact .s rfl);obtain⟨y,e,d⟩:=F;rw[e,d]
def DA{α:Type}(f:FuncId):List (FuncId×α)->Option α|[]=>none|(g,a)::r=>if f=g then some a else DA f r
def qf:List (FuncId×AFn):=[(25,aM na),(14,aM Zw),(10,aM JGc),(93,aM JiK),(125,aM Za),(74,aM Jnl),(84,aM JBM),(122,aM Wj),(94,aM Jlp),(151,aM Xp),(218,aM Ew),(217,aM W8),(181,aM Wc),(180,aM Pm),(179,aM JoI),(182,aM Jol),(183,aM JoE),(152,aM T9),(113,aM T6),(115,aM X7),(153,aM Cm),(117,aM T4),(92,aM Pk),(44,aM Jnv)]
def qb:List (FuncId×AFn):=[(9,aM Rk),(24,aM Qt),(79,aM Xq),(31,aM JDc),(158,aM Wz),(225,aM Ew),(195,aM Rc),(157,aM Q5),(123,aM Rj),(70,aM JA5),(69,aM Ua),(148,aM JDl),(149,aM JCU),(108,aM R1),(150,aM P4),(110,aM Xu),(109,aM JAV),(68,aM Cm),(111,aM Zc),(134,aM X2),(107,aM Ud),(58,aM Xc),(60,aM Vq),(90,aM Pz)]
def rc:List (FuncId×AFn):=[(88,aM Ul),(33,aM Sx),(42,aM JB8),(198,aM JCu),(163,aM X1),(201,aM Jjm),(199,aM Jis),(200,aM Jky),(165,aM U2),(164,aM Wn),(135,aM W9),(136,aM Jnp),(91,aM Xd),(106,aM X8),(56,aM Tc),(57,aM Sm),(16,aM Pn),(19,aM JB9),(12,aM Xx),(48,aM JkA),(13,aM Tu),(133,aM Jnh),(215,aM JkI),(169,aM Jnz)]
def qc:List (FuncId×AFn):=[(139,aM JhH),(205,aM Yh),(167,aM JCt),(204,aM JCB),(202,aM JDx),(203,aM JD4),(166,aM JD8),(137,aM JDI),(46,aM T7),(47,aM Qh),(214,aM W1),(317,aM Tx),(272,aM Ro),(273,aM Qi),(242,aM Ub),(260,aM Qo),(328,aM Jos),(343,aM Qp),(344,aM zi),(345,aM Pe),(302,aM Sf),(331,aM Ti),(330,aM Zl),(280,aM S7)]
def qd:List (FuncId×AFn):=[(248,aM Qv),(346,aM JDw),(303,aM Un),(304,aM JkW),(259,aM T1),(236,aM Sg),(228,aM Sh),(206,aM Tq),(293,aM Xl),(294,aM JDL),(339,aM JCz),(296,aM JB7),(292,aM P8),(336,aM Yk),(337,aM JDf),(338,aM Yg),(295,aM Qb),(249,aM Pv),(231,aM Ps),(246,aM JCF),(263,aM JBR),(255,aM JCP),(291,aM Wi),(335,aM Z0)]
def qz:List (FuncId×AFn):=[(290,aM Wl),(289,aM Tv),(254,aM Wx),(288,aM Tt),(253,aM JHo),(233,aM P2),(210,aM Jlg),(247,aM Us),(230,aM T3),(281,aM Th),(282,aM Qz),(250,aM Vs),(284,aM JAy),(333,aM X6),(285,aM S8),(366,aM Uu),(332,aM Rz),(283,aM Wt),(286,aM zn),(251,aM Q9),(334,aM JDD),(287,aM Sr),(252,aM Yc),(232,aM R6)]
def py:List (FuncId×AFn):=[(209,aM Sk),(311,aM JC4),(353,aM JCk),(354,aM Ph),(310,aM Yn),(269,aM Ya),(268,aM Zx),(270,aM JBk),(313,aM Q8),(312,aM Zo),(316,aM JC5),(355,aM Vb),(314,aM JCD),(356,aM JH4),(315,aM Yp),(271,aM JBV),(239,aM O5),(267,aM Vv),(238,aM JBP),(306,aM JDK),(262,aM JAY),(370,aM T8),(349,aM V1),(350,aM JCY)]
def qv:List (FuncId×AFn):=[(307,aM JoC),(264,aM R8),(309,aM JCR),(266,aM Vw),(352,aM Ri),(374,aM T5),(371,aM Pi),(351,aM Q7),(308,aM JBJ),(265,aM Pb),(348,aM Py),(347,aM Xg),(305,aM JA4),(261,aM JBH),(237,aM Va),(213,aM JAR),(211,aM Yj),(277,aM Zs),(329,aM zn),(278,aM JD6),(244,aM Z4),(361,aM Ut),(324,aM Zz),(363,aM Yv)]
def ql:List (FuncId×AFn):=[(364,aM ml),(326,aM Tb),(360,aM Wf),(322,aM O6),(321,aM P1),(365,aM Sy),(327,aM JCA),(362,aM JDN),(325,aM Xo),(319,aM Xa),(358,aM U4),(359,aM X9),(320,aM Rl),(323,aM JCm),(357,aM Xn),(318,aM Y5),(274,aM JG8),(275,aM X5),(276,aM JoU),(243,aM JHz),(279,aM Pj),(245,aM JBX),(229,aM JG5),(208,aM JjT)]
def pw:List (FuncId×AFn):=[(256,aM JBc),(298,aM Qq),(297,aM JAe),(257,aM Tr),(234,aM S4),(299,aM Pu),(373,aM zi),(369,aM Pc),(342,aM Si),(376,aM Wq),(377,aM JhV),(378,aM JkL),(375,aM Xs),(372,aM Ve),(367,aM Vc),(340,aM Tz),(368,aM Q1),(341,aM JCc),(300,aM Y2),(301,aM Tp),(258,aM Px),(235,aM JBm),(212,aM Jhx),(207,aM Ji1)]
def qQK:TCo->TCo|.reg b p l=>.reg b p (l.map λi=>match i with|⟨.storen t x,d,g⟩=>⟨.clr t x,d,g⟩|⟨.mkarr t x,d,g⟩=>⟨.mvn t x,d,g⟩|i=>i)|.seq a b=>.seq (qQK a) (qQK b)|.cond c a b=>.cond c (qQK a) (qQK b)|.keep l a=>.keep l (qQK a)|.block n a=>.block n (qQK a)|.loop l a=>.loop l (qQK a)|.tidy l a=>.tidy l (qQK a)|c=>c
def qQL(n:Nat):TFn:={dF J9 n with body:=qQK (dF J9 n).body}
def qQI:=qQL 0x4bca996581a29c8e1643e48fab909b81a294e082619c87802b1671dea4af3ec56a470af00539c008998c93a822c9328f2389656701dbb86a46489d24ca3c0e0ce43c481c9000032c954e0888e6a000c00034aa81b81ed85e04ee8dbc024d65f938e020014f01c326bcf80322c1289eb2280c4451f15280d2f765cb93b000250fd10994ba91f90f2802451415002
def qQJ:=qQL 0x12f2a65948c00f14e470b21f247c4400789b23003c529c104c3390f00562ce3bd495e7d8ad48e15e00a73807933701010937ce2389656701dbb86a46489d24df380e0ce43c481c90000323200788401203d096fe808a000c00034aa81b81ed85e04ee8dbc024d65f938e020014f01c326bcf9d280f1289eb2280c4451f15280d2f765cb93b000250dd48994ba91f90f2805e51415002
def sd:List (FuncId×AFn):=[(168,aM JhK),(138,aM JDm),(95,aM JjL),(45,aM Jkx),(11,aM JGl),(32,aM Z8),(105,aM JhD),(55,aM JeX),(54,aM JkD),(50,aM JjH),(83,aM JlI),(129,aM JkF),(114,aM J8N),(127,aM qQI),(85,aM Jo5),(66,aM Z3),(77,aM Jny),(170,aM JCZ),(178,aM Jmd),(146,aM JCQ),(140,aM Zi),(173,aM Ji6),(175,aM JkN),(174,aM JkJ)]
def ed:List (FuncId×AFn):=[(142,aM U1),(172,aM Jlv),(216,aM Jbw),(171,aM JkO),(141,aM Zn),(98,aM S9),(71,aM Jnk),(161,aM J7n),(227,aM J7T),(197,aM J9f),(162,aM th),(126,aM J9h),(82,aM J5d),(35,aM Yw),(97,aM JjD),(143,aM Jas),(99,aM JDQ),(96,aM J9k),(49,aM JnB),(102,aM JCT),(101,aM Rh),(147,aM JCy),(103,aM Yi),(52,aM qQJ)]
def rh:List (FuncId×AFn):=[(15,aM Z7),(18,aM JoD),(38,aM P6),(59,aM Jnj),(17,aM JBQ),(3,aM JeY)]
def fns:List (FuncId×AFn):=qf++(qb++(rc++(qc++(qd++(qz++(py++(qv++(ql++(pw++(sd++(ed++(rh))))))))))))
def fks:List (FuncId×kF):=[(128,FA J3 128),(53,FA cU 32)]
def fps:List (FuncId×Prm):=[(145,JG1)]
abbrev PS:=FuncId->Option (List AV->List Blk->Option Res)
def tL(p:PS):dZ:=λf=>Hq (DA f fns) (DA f fks) (DA f fps) (p f)
def AE(l:List TE):Prop:= ∀p,tM (AF (tL p)) l
theorem ae0:AE []:=λ_=>qQG
theorem dH{i g S l f}(hf: ∀p,tL p i=some (.fn (aM f)))(A:AE l)(q: ∀x,onO (iJ g x) (λy=>mJ (TG.of l) f y.1 y.2 (iP g))=S x)(hs:FF g=true:=by rfl):AE (aF i g S::l):=λp=>⟨qq (hf p) (A p) hs q,A p⟩
end Go.Am
end
