/-
  Parts of a proof.
-/
import Derived.Test.YtfedfekakecnfaaGreatM3
import Derived.Test.YtfedfekakecnfaaGreatM4
import Derived.Test.YtfedfekakecnfaaGreatM5
set_option linter.unusedSimpArgs false
set_option linter.unusedVariables false
section
namespace Go.Am
set_option linter.unusedVariables false
set_option maxRecDepth 20000
set_option maxHeartbeats 1000000
section
variable {B S:Int}
def EF(e:aA):Prop:=1<=e.1/\e.1<=1099511627776/\1<=e.2.2.1/\e.2.2.1<=1073741824/\0<=e.2.2.2.1/\e.2.2.2.1<e.1/\0<=e.2.2.2.2.1/\e.2.2.2.2.1<e.1/\0<=e.2.2.2.2.2.1/\e.2.2.2.2.2.1<e.1/\e.2.2.2.2.2.2.2=[]/\jQ e.2.2.2.2.2.2.1=some true/\((e.2.1=1/\e.2.2.2.2.2.1=0)\/(e.2.1=2/\0<e.2.2.2.1/\1<=e.2.2.2.2.2.1/\e.2.2.2.2.2.1<=e.2.2.2.1))
theorem db{x:JB}(e:jR x=some true):0<=x.1/\x.1<x.2:=by
 have g:Par (jR x) λy=>y=true->0<=x.1/\x.1<x.2:=by unfold jR;exact .ge (λc=>.some λd=>⟨c,gU.1 d⟩) λ_=>.some nofun
 exact g _ e rfl
theorem EF.of{e:aA}(h:JF e=some true)(hk:e.2.1=1\/e.2.1=2):EF e:=by
 have B:Par (oT e) λy=>y.2=true->y.1=e->1<=e.2.2.1/\e.2.2.1<=1073741824/\e.2.2.2.2.2.2.2=[]/\jQ e.2.2.2.2.2.2.1=some true/\((e.2.1=1/\e.2.2.2.2.2.1=0)\/(e.2.1=2/\0<e.2.2.2.1/\1<=e.2.2.2.2.2.1/\e.2.2.2.2.2.1<=e.2.2.2.1)):=by
  unfold oT;refine .eq (λo=>.bind λN h2=>.eq (λg=>by omega) λ_=>.ite (λj=>.ge (λk=>.some λn q=>?_) λ_=>.some nofun) λ_=>.some nofun) λo=>.eq (λg=>.bind λN h2=>.eq (λ_=>.ite (λj=>.gt (λL=>.ge (λM=>.le (λI=>.ge (λk=>.some λn q=>?_) λ_=>.some nofun) λ_=>.some nofun) λ_=>.some nofun) λ_=>.some nofun) λ_=>.some nofun) λc=>absurd g c) λg=>by omega
  subst j;have R:(0:Int)=e.2.2.2.2.2.1:=congrArg (λz:aA=>z.2.2.2.2.2.1) q;have r:([]:List UInt8)=e.2.2.2.2.2.2.2:=congrArg (λz:aA=>z.2.2.2.2.2.2.2) q;exact⟨k,eG.1 n,r.symm,h2,.inl ⟨o,R.symm⟩⟩;subst j;have r:([]:List UInt8)=e.2.2.2.2.2.2.2:=congrArg (λz:aA=>z.2.2.2.2.2.2.2) q;exact⟨k,eG.1 n,r.symm,h2,.inr ⟨g,L,M,I⟩⟩
 have v:Par (JF e) λy=>y=true->EF e:=by unfold JF;refine .bind λa S=>.ite (λo=>.ite (λg=>.ge (λk=>.le (λn=>.bind λb1 x=>.ite (λJ=>.bind λb2 w=>.ite (λj=>.bind λV A=>.some λF=>?_) λ_=>.some nofun) λ_=>.some nofun) λ_=>.some nofun) λ_=>.some nofun) λ_=>.some nofun) λ_=>.some nofun;subst J;subst j;subst F;obtain⟨T,U,O,Q,P⟩:=B _ S o (cV.1 g);obtain⟨K,G⟩:=db x;obtain⟨C,E⟩:=db w;obtain⟨D,H⟩:=db A;exact⟨k,n,T,U,K,G,C,E,D,H,O,Q,P⟩
 exact v _ h rfl
theorem ng{c:jM}(h:gH c=some true):Tot (zD c) λy=>y=true:=by have e:zD c=gH c:=rfl;exact⟨true,e.trans h,rfl⟩
theorem p7{c:fT}(h:jQ c=some true):Tot (sU c) λy=>y=true:=by
 have n:Par (jQ c) λy=>y=true->0<=c.1/\c.1<64/\0<=c.2.1/\c.2.1<16/\gH c.2.2.1=some true/\gH c.2.2.2=some true:=by unfold jQ;refine .ge (λe=>.lt (λg=>.ge (λj=>.lt (λk=>.bind λa B=>.ite (λr=>.bind λb z=>.some λo=>?_) λ_=>.some nofun) λ_=>.some nofun) λ_=>.some nofun) λ_=>.some nofun) λ_=>.some nofun;subst r;subst o;exact⟨e,g,j,k,B,z⟩
 obtain⟨e,g,j,k,v,x⟩:=n _ h rfl;unfold sU;have A:Tot (yX c.1) λy=>y=true:=by unfold yX;exact .ge (λ_=>.some (gU.2 g)) λc=>absurd e c
 refine .bind A λE d=>.ite (λ_=>.ge (λ_=>.lt (λ_=>.bind (ng v) λC q=>.ite (λ_=>.bind (ng x) λD w=>.some w) λc=>by rw[q]at c;cases c) λc=>absurd k c) λc=>absurd j c) λc=>by rw[d]at c;cases c
theorem JCn{e:aA}(h:EF e):Tot (nE e) λy=>y=true:=by
 obtain⟨O,P,M,N,G,F,C,z,H,r,j,k,I⟩:=h;have o: ∀{n:Int},0<=n->n<e.1->Tot (pA (n,e)) λy=>y=true:=fun{n} h1 h2=>by unfold pA;exact .ge (λ_=>.some (gU.2 h2)) λc=>absurd h1 c
 have K: ∀{b:Bool} {Q:Prop},b=true->Jk b=true->Q:=fun{b Q} h1 h2=>by subst h1;cases h2
 have w:neS e.2.2.2.2.2.2.2 []=false:=by rw[j];rfl
 have x:J0 e.2.2.2.2.2.2.2<=8192:=by rw[j];decide
 unfold nE;refine .ltf (λ_=>.gtf (λ_=>.ltf (λ_=>.gtf (λ_=>.bind (o G F) λL A=>.nof (λ_=>.bind (o C z) λJ B=>.nof (λ_=>.bind (o H r) λv g=>.not (λc=>by rw[g]at c;cases c) λ_=>?_) λc=>by rw[B]at c;cases c) λc=>by rw[A]at c;cases c) λc=>by omega) λc=>by omega) λc=>by omega) λc=>by omega
 refine .eq (λc=>by omega) λ_=>.eq (λc=>by omega) λ_=>.eq (λc=>by omega) λ_=>.eq (λc=>by omega) λ_=>.eq (λc=>by omega) λ_=>.eq (λc=>by omega) λ_=>.eq (λE=>?_) λE=>.eq (λD=>?_) λD=>by omega
 refine .ltf (λ_=>.gt (λc=>by omega) λ_=>.eq (λc=>by omega) λ_=>.ite (λc=>by rw[w]at c;cases c) λ_=>.le (λ_=>?_) λc=>absurd x c) λc=>by omega
 have q:Tot (kU e) λy=>y=true:=by unfold kU;exact .ge (λ_=>.some (eG.2 (by omega))) λc=>by omega
 exact .bind q λy d=>.ite (λ_=>.bind (p7 k) λv g=>.some g) λc=>by rw[d]at c;cases c
 refine .ltf (λ_=>.gt (λc=>by omega) λ_=>.ne (λc=>by omega) λ_=>.ite (λc=>by rw[w]at c;cases c) λ_=>.le (λ_=>?_) λc=>absurd x c) λc=>by omega
 have q:Tot (gY e) λy=>y=true:=⟨true,rfl,rfl⟩;exact .bind q λy d=>.ite (λ_=>.bind (p7 k) λv g=>.some g) λc=>by rw[d]at c;cases c
def aZ(e:aA):Int:=e.2.2.2.2.2.2.1.1
def tW(r:JZ):Prop:=1<=r.1/\r.1<=r.2.1/\r.2.1<=1099511627776/\0<=r.2.2.1/\r.2.2.1<=r.2.2.2.1/\r.2.2.2.1<64/\0<=r.2.2.2.2.1/\r.2.2.2.2.1<=8
def FY(r:JZ)(e:aA):Prop:=JF e=some true/\(e.2.1=1\/e.2.1=2)/\r.1<=e.1/\e.1<=r.2.1/\r.2.2.1<=aZ e/\aZ e<=r.2.2.2.1
def kL(f:Int)(a b:aA):Prop:=(aZ a<aZ b/\b.2.2.2.2.1<f)\/(aZ a=aZ b/\a.1<b.1/\b.2.2.2.2.1=a.1)
def pK(r:JZ):Prop:=tW r/\J0 r.2.2.2.2.2<=4096/\(∀(j:Nat) (e:aA),r.2.2.2.2.2[j]?=some e->FY r e)/\(∀e,r.2.2.2.2.2[0]?=some e->e.2.2.2.2.1<r.1)/\ ∀(j:Nat) (a b:aA),r.2.2.2.2.2[j]?=some a->r.2.2.2.2.2[j+1]?=some b->kL r.1 a b
theorem tW.of{r:JZ}(h:jS (r.1,r.2.1,r.2.2.1,r.2.2.2.1,r.2.2.2.2.1)=some true):tW r:=by
 have e:Par (jS (r.1,r.2.1,r.2.2.1,r.2.2.2.1,r.2.2.2.2.1)) λy=>y=true->tW r:=by unfold jS;exact .ge (λw=>.le (λg=>.le (λj=>.ge (λv=>.le (λo=>.lt (λq=>.ge (λk=>.some λn=>⟨w,g,j,v,o,q,k,eG.1 n⟩) λ_=>.some nofun) λ_=>.some nofun) λ_=>.some nofun) λ_=>.some nofun) λ_=>.some nofun) λ_=>.some nofun) λ_=>.some nofun
 exact e _ h rfl
theorem JCC{e:aA}(h:JD e=some true):e.2.1=1\/e.2.1=2:=by
 have g:Par (JD e) λy=>y=true->e.2.1=1\/e.2.1=2:=by unfold JD;exact .eqf (λ_=>.some λd=>.inr (oN.1 d)) λc=>.some λ_=>.inl c
 exact g _ h rfl
theorem qn{e:aA}(h:e.2.1=1\/e.2.1=2):Tot (JD e) λy=>y=true:=by unfold JD;exact .eqf (λc=>.some (oN.2 (by omega))) λ_=>.some rfl
theorem Ql{e:aA}(h:e.2.1=1\/e.2.1=2):Tot (vM e) λy=>y=true:=qn h
theorem ow{a b:aA}{y:Int}(h:jT (a,b)=some y)(c: ¬0<=y):aZ a<aZ b\/(aZ a=aZ b/\a.1<b.1):=by
 have e:Par (jT (a,b)) λy=> ¬0<=y->aZ a<aZ b\/(aZ a=aZ b/\a.1<b.1):=by unfold jT;exact .ltf (λ_=>.eq (λj=>.lt (λg=>.some λ_=>.inr ⟨j,g⟩) λ_=>.eq (λ_=>.eq (λ_=>.some λc=>absurd (aV 0) c) λ_=>.some λc=>absurd (by decide) c) λ_=>.some λc=>absurd (by decide) c) λ_=>.eq (λ_=>.eq (λ_=>.some λc=>absurd (aV 0) c) λ_=>.some λc=>absurd (by decide) c) λ_=>.some λc=>absurd (by decide) c) λc=>.some λ_=>.inl c
 exact e _ h c
theorem Gj{a b:aA}(h:aZ a<aZ b\/(aZ a=aZ b/\a.1<b.1)):Tot (jT (a,b)) λy=> ¬0<=y:=by unfold aZ at h;unfold jT;exact .ltf (λc=>.eq (λe=>.lt (λj=>.some (by decide)) λg=>by(try dsimp only at c e g);omega) λe=>by(try dsimp only at c e);omega) λc=>.some (by decide)
theorem pK.of{r:JZ}(h:lO r=some true):pK r:=by
 have M:Par (lO r) λy=>y=true->pK r:=by
  unfold lO;refine .bind λa g=>.nof (λS=>.gt (λ_=>.some nofun) λT=>?_) λ_=>.some nofun;subst S;refine .while (λz=>z.2=r/\0<=z.1/\(∀(j:Nat) (e:aA),(j:Int)<z.1->r.2.2.2.2.2[j]?=some e->FY r e)/\(∀e,0<z.1->r.2.2.2.2.2[0]?=some e->e.2.2.2.2.1<r.1)/\ ∀(j:Nat) (a b:aA),(j:Int)+1<z.1->r.2.2.2.2.2[j]?=some a->r.2.2.2.2.2[j+1]?=some b->kL r.1 a b) ⟨rfl,aV _,λj e h=>by(try dsimp only at h);omega,λe h=>by(try dsimp only at h);omega,λj a b h=>by(try dsimp only at h);omega⟩ ?_;rintro⟨i,z⟩ ⟨rfl,Y,h1,h2,J⟩
  (try dsimp only at Y h1 h2 J T)
  unfold VC;dsimp only;have o1:=Jl i 1;have o2:=bH i 1;refine .lt (λc=>?_) λc=>.some λ_=>⟨tW.of g,by omega,λj e v=>h1 j e (by have:=kJ v;omega) v,λe v=>h2 e (by have:=kJ v;omega) v,λj a b L F=>J j a b (by have:=kJ F;omega) L F⟩;refine .bind λe v=>.bind λb o=>.nof (λU=>.bind λd hd=>.nof (λR=>.ltf (λc5=>.gtf (λc6=>.ltf (λc7=>.gt (λ_=>.some nofun) λc8=>?_) λ_=>.some nofun) λ_=>.some nofun) λ_=>.some nofun) λ_=>.some nofun) λ_=>.some nofun;subst U;subst R;obtain⟨_,x⟩:=fO v;have G:FY z e:=⟨o,JCC hd,by omega,by omega,by unfold aZ;omega,by unfold aZ;omega⟩;have H:(i=0->e.2.2.2.2.1<z.1)->(∀a,0<i->z.2.2.2.2.2[(i-1).toNat]?=some a->kL z.1 a e)->(z=z/\0<=J1 .i64 i 1/\(∀(j:Nat) (e:aA),(j:Int)<J1 .i64 i 1->z.2.2.2.2.2[j]?=some e->FY z e)/\(∀e,0<J1 .i64 i 1->z.2.2.2.2.2[0]?=some e->e.2.2.2.2.1<z.1)/\ ∀(j:Nat) (a b:aA),(j:Int)+1<J1 .i64 i 1->z.2.2.2.2.2[j]?=some a->z.2.2.2.2.2[j+1]?=some b->kL z.1 a b):=by
   intro V W;refine⟨rfl,by omega,λj f hj k=>?_,λf hp k=>?_,λj a b hj g o=>?_⟩;by_cases I:(j:Int)<i;exact h1 j f I k;have:j=i.toNat:=by omega
   subst this;rw[x]at k;injection k with k;subst k;exact G;by_cases hi:0<i;exact h2 f hi k;have O:i=0:=by omega
   subst O;rw[show(0:Int).toNat=0 from rfl]at x;rw[x]at k;injection k with k;subst k;exact V rfl;by_cases I:(j:Int)+1<i;exact J j a b I g o;have e1:j+1=i.toNat:=by omega
   have Z:j=(i-1).toNat:=by omega
   rw[e1,x]at o;injection o with o;subst o;rw[Z]at g;exact W a (by omega) g
  have C: ∀{a:aA},0<i->idx z.2.2.2.2.2 (Js .i64 i 1)=some a->z.2.2.2.2.2[(i-1).toNat]?=some a:=fun{a} hi g=>by obtain⟨_,q⟩:=fO g;rw[show(i-1).toNat=(Js .i64 i 1).toNat by omega];exact q
  have zero: ¬0<i-> ¬z.1<=e.2.2.2.2.1->(z=z/\0<=J1 .i64 i 1/\(∀(j:Nat) (e:aA),(j:Int)<J1 .i64 i 1->z.2.2.2.2.2[j]?=some e->FY z e)/\(∀e,0<J1 .i64 i 1->z.2.2.2.2.2[0]?=some e->e.2.2.2.2.1<z.1)/\ ∀(j:Nat) (a b:aA),(j:Int)+1<J1 .i64 i 1->z.2.2.2.2.2[j]?=some a->z.2.2.2.2.2[j+1]?=some b->kL z.1 a b):=λhi k=>H (λ_=>by omega) λa h=>absurd h hi;refine .gt (λB=>.bind λy7 E=>.bind λy8 N=>.ge (λ_=>.some nofun) λK=>.gt (λ_=>.bind λy9 n=>.eq (λD=>.bind λa2 A=>.ne (λ_=>.some nofun) λw=>.some ?_) λD=>.ge (λ_=>.some nofun) λw=>.some ?_) λc=>absurd B c) λB=>.gt (λc=>absurd c B) λ_=>.ge (λ_=>.some nofun) λw=>.some (zero B w);rw[E]at n A;injection n with n;injection A with A;subst n;subst A;refine H (λh=>by omega) λa _ g=>?_;rw[C B E]at g;injection g with g;subst g;rcases ow N K with q|⟨P,Q⟩;unfold aZ at q;omega;exact .inr ⟨D,Q,w⟩;rw[E]at n;injection n with n;subst n;refine H (λh=>by omega) λa _ g=>?_;rw[C B E]at g;injection g with g;subst g;rcases ow N K with q|⟨P,Q⟩;exact .inl ⟨q,by omega⟩;exact absurd P D
 exact M _ h rfl
end
section
variable {B S:Int}
theorem jG{α:Type}{l:List α}{i:Int}(h0:0<=i)(h1:i<J0 l): ∃a,idx l i=some a/\l[i.toNat]?=some a:=by
 have e:i.toNat<l.length:=by unfold J0 at h1;omega
 exact⟨l[i.toNat],by unfold idx;rw[if_pos h0,zQ9 e],zQ9 e⟩
theorem Hf{r:JZ}(h:tW r):Tot (jS (r.1,r.2.1,r.2.2.1,r.2.2.2.1,r.2.2.2.2.1)) λy=>y=true:=by obtain⟨h1,h2,o,k,n,e,j,g⟩:=h;unfold jS;exact .ge (λ_=>.le (λ_=>.le (λ_=>.ge (λ_=>.le (λ_=>.lt (λ_=>.ge (λ_=>.some (eG.2 g)) λc=>absurd j c) λc=>absurd e c) λc=>absurd n c) λc=>absurd k c) λc=>absurd o c) λc=>absurd h2 c) λc=>absurd h1 c
theorem Ms{r:JZ}(h:tW r):Tot (DN r) λy=>y=true:=by obtain⟨h1,h2,o,k,n,e,j,g⟩:=h;unfold DN;exact .ge (λ_=>.le (λ_=>.le (λ_=>.ge (λ_=>.le (λ_=>.lt (λ_=>.ge (λ_=>.some (eG.2 g)) λc=>absurd j c) λc=>absurd e c) λc=>absurd n c) λc=>absurd k c) λc=>absurd o c) λc=>absurd h2 c) λc=>absurd h1 c
theorem cU{α:Type}{o:Option α}{v:α}(h:o=some v):Tot o λy=>y=v:=⟨v,h,rfl⟩
theorem n8{r:JZ}(h:pK r){i:Int}(hi:0<i)(hl:i<J0 r.2.2.2.2.2){a b:aA}(ha:r.2.2.2.2.2[(i-1).toNat]?=some a)(hb:r.2.2.2.2.2[i.toNat]?=some b):kL r.1 a b:=
 h.2.2.2.2 (i-1).toNat a b ha (by rw[show(i-1).toNat+1=i.toNat by omega];exact hb)
theorem JBz{r:JZ}(h:pK r):lO r=some true:=by
 have o:Tot (lO r) λy=>y=true:=by
  obtain⟨S,g2,H,K,g5⟩:=id h;unfold lO;refine .bind (Hf S) λy2 E=>.nof (λ_=>.gt (λc=>by omega) λ_=>?_) λc=>by rw[E]at c;cases c
  refine Jj (τ:=Int) (λq=>(q,r)) (λq=>0<=q/\q<=J0 r.2.2.2.2.2) (λq=>J0 r.2.2.2.2.2-q) ?_ 0 rfl ⟨aV _,Jd⟩;rintro i ⟨Q,h1⟩;unfold VC;dsimp only;have o1:=Jl i 1;have o2:=bH i 1;refine .lt (λc=>?_) λc=>.some rfl;obtain⟨e,U,g⟩:=jG Q c;obtain⟨L,F,Y,Z,C,G⟩:=H _ e g;have k: ∃c':Int,((J1 .i64 i 1,r):Int×JZ)=(c',r)/\(0<=c'/\c'<=J0 r.2.2.2.2.2)/\J0 r.2.2.2.2.2-c'<J0 r.2.2.2.2.2-i/\0<=J0 r.2.2.2.2.2-i:=⟨J1 .i64 i 1,rfl,⟨by omega,by omega⟩,by omega,by omega⟩;unfold aZ at C G;refine .bind (cU U) λx P=>?_;subst P;refine .bind (cU L) λy5 M=>.nof (λ_=>.bind (qn F) λy6 J=>.nof (λ_=>.ltf (λ_=>.gtf (λ_=>.ltf (λ_=>.gt (λc=>by omega) λ_=>?_) λc=>by omega) λc=>by omega) λc=>by omega) λc=>by rw[J]at c;cases c) λc=>by rw[M]at c;cases c
  refine .gt (λj=>?_) λj=>.gt (λc=>absurd c j) λ_=>.ge (λc=>?_) λ_=>.some k;have T:Js .i64 i 1=i-1:=by omega
  rw[T];obtain⟨a,n,w⟩:=jG (l:=r.2.2.2.2.2) (i:=i-1) (by omega) (by omega);have z:=n8 h j c w g;refine .bind (cU n) λD I=>?_;subst I;refine .bind (Gj (a:=D) (b:=x) (by rcases z with⟨q,_⟩|⟨R,V,_⟩;exact .inl q;exact .inr ⟨R,V⟩)) λy8 O=>.ge (λc=>absurd c O) λ_=>.gt (λ_=>.bind (cU n) λy9 N=>?_) λc=>absurd j c;subst N;unfold kL aZ at z;refine .eq (λv=>.bind (cU n) λW A=>?_) λv=>.ge (λc=>by omega) λ_=>.some k;subst A;exact .ne (λc=>by omega) λ_=>.some k;have B:i=0:=by omega
  subst B;have:=K x g;omega
 obtain⟨y,e,d⟩:=o;rw[e,d]
theorem Hv{a b:aA}(h:aZ a=aZ b/\a.1<b.1):Tot (DJ (a,b)) λy=> ¬0<=y:=by
 obtain⟨h1,h2⟩:=h;unfold aZ at h1;have j:qS (a.2.2.2.2.2.2.1.1,b.2.2.2.2.2.2.1.1)=some 0:=by unfold qS DD;dsimp only;rw[h1];simp[aL,aJ,aM]
 have e:qS (a.1,b.1)=some (-1):=by unfold qS DD;dsimp only;simp[aL,aJ,aM,h2]
 unfold DJ;dsimp only;rw[j,e];show Tot ((yR [0, -1]).bind _) _;have g:yR [0, -1]=some (-1):=by unfold yR;rw[gV (s':=(0,[0, -1],J0 ([0, -1]:List Int),1)) (by rfl)];exact eH (by rfl)
 rw[g];exact .some (by decide)
theorem fl{r:JZ}(h:pK r):iS r=some true:=by
 have w:Tot (iS r) λy=>y=true:=by
  obtain⟨S,g2,P,I,g5⟩:=id h;unfold iS;refine .bind (Ms S) λy2 D=>.nof (λ_=>.gt (λc=>by omega) λ_=>?_) λc=>by rw[D]at c;cases c
  refine Jj (τ:=Int) (λq=>(r.2.2.2.2.2,J0 r.2.2.2.2.2,q,r)) (λq=>0<=q/\q<=J0 r.2.2.2.2.2) (λq=>J0 r.2.2.2.2.2-q) ?_ 0 rfl ⟨aV _,Jd⟩;rintro i ⟨Q,h1⟩;unfold ey;dsimp only;have o1:=Jl i 1;have Y:=bH i 1;refine .lt (λc=>?_) λc=>.some rfl;obtain⟨e,U,g⟩:=jG Q c;obtain⟨J,o,C,E,n,v⟩:=P _ e g;have k: ∃c':Int,((r.2.2.2.2.2,J0 r.2.2.2.2.2,J1 .i64 i 1,r):RH)=(r.2.2.2.2.2,J0 r.2.2.2.2.2,c',r)/\(0<=c'/\c'<=J0 r.2.2.2.2.2)/\J0 r.2.2.2.2.2-c'<J0 r.2.2.2.2.2-i/\0<=J0 r.2.2.2.2.2-i:=⟨J1 .i64 i 1,rfl,⟨by omega,by omega⟩,by omega,by omega⟩;unfold aZ at n v;have R:Tot (DP (r,e)) λy=>y=true:=by unfold DP;exact .bind (Ql o) λy d=>.ite (λ_=>.ge (λ_=>.le (λ_=>.ge (λ_=>.some (eG.2 E)) λc=>absurd C c) λc=>absurd v c) λc=>absurd n c) λc=>by rw[d]at c;cases c
  refine .bind (cU U) λA O=>?_;subst O;refine .bind (JCn (EF.of J o)) λZ K=>.nof (λ_=>.bind R λy6 G=>.not (λc=>by rw[G]at c;cases c) λ_=>?_) λc=>by rw[K]at c;cases c
  refine .eqf (λx=>?_) λx=>.ge (λc=>?_) λ_=>.some k;have hi:0<i:=by omega
  have T:Js .i64 i 1=i-1:=by omega
  rw[T];obtain⟨a,B,z⟩:=jG (l:=r.2.2.2.2.2) (i:=i-1) (by omega) (by omega);have j:=n8 h hi c z g;refine .bind (cU B) λW F=>?_;subst F;refine .lt (λN=>.ge (λc=>?_) λ_=>.some k) λN=>.bind (cU B) λH M=>?_;unfold kL aZ at j;omega;subst M;have V:=j;unfold kL aZ at j;refine .bind (Hv (a:=H) (b:=A) (by unfold aZ;omega)) λy9 L=>.gef (λ_=>.ne (λc=>by omega) λ_=>.some k) λc=>absurd c L;subst x;have:=I A g;omega
 obtain⟨y,e,d⟩:=w;rw[e,d]
end
section
variable {B S:Int}
def ent(r:JZ):List aA:=r.2.2.2.2.2
theorem GS{α:Type}{bytes:Nat}{l m:List α}(h:J0 l+J0 m<=34359738368)(hb:bytes<=2048):Jy bytes l m=some (l++m):=by unfold Jy;rw[if_pos (YL (by unfold J0 at h;omega) hb)]
theorem JEe(l:List aA)(hl:J0 l<=4096):KP (l,l)=some true:=by
 have g:Tot (KP (l,l)) λy=>y=true:=by unfold KP;refine .ne (λc=>absurd rfl c) λ_=>Jj (τ:=Int) (λq=>(l,l,q)) (λq=>0<=q/\q<=J0 l) (λq=>J0 l-q) ?_ 0 rfl ⟨aV _,Jd⟩;rintro i ⟨o,h1⟩;unfold Dm;dsimp only;have v:=Jl i 1;refine .lt (λc=>?_) λ_=>.some rfl;obtain⟨e,j,_⟩:=jG o c;refine .bind (cU j) λr n=>.bind (cU j) λh k=>.not (λc=>?_) λ_=>.some ⟨J1 .i64 i 1,rfl,⟨by omega,by omega⟩,by omega,by omega⟩;subst n;subst k;have q:eqT J3 h h=true:=cV.2 rfl;cases q.symm.trans c
 obtain⟨y,e,d⟩:=g;rw[e,d]
end
section
variable {B S:Int}
theorem ZQ(x:Int×aA):Tot (pA x) λy=>y=true->0<=x.1/\x.1<x.2.1:=by unfold pA;exact .ge (λc=>.some λd=>⟨c,gU.1 d⟩) λ_=>.some nofun
theorem B6(c:jM):Tot (zD c) λy=>gH c=some y:=by
 have g:Tot (gH c) λ_=>True:=by unfold gH;exact .ite (λ_=>.itf (λ_=>.some trivial) λ_=>.some trivial) λ_=>.some trivial
 obtain⟨y,e,_⟩:=g;exact⟨y,e,e⟩
theorem JFL(n:Int):Tot (yX n) λy=>y=true->0<=n/\n<64:=by unfold yX;exact .ge (λc=>.some λd=>⟨c,gU.1 d⟩) λ_=>.some nofun
theorem n7(c:fT):Tot (sU c) λy=>y=true->jQ c=some true:=by unfold sU;refine .bind (JFL c.1) λw h2=>.ite (λe=>.ge (λj=>.lt (λk=>.bind (B6 c.2.2.1) λv r=>.ite (λh=>.bind (B6 c.2.2.2) λx o=>.some λg=>?_) λ_=>.some nofun) λ_=>.some nofun) λ_=>.some nofun) λ_=>.some nofun;obtain⟨n,q⟩:=h2 e;subst h;subst g;unfold jQ;rw[if_pos (uJ.2 n),if_pos (gU.2 q),if_pos (uJ.2 j),if_pos (gU.2 k),r,o];rfl
theorem JIn(c:fT):Tot (vB c) λ_=>True:=⟨_,rfl,trivial⟩
theorem zi(e:aA):Tot (gY e) λ_=>True:=⟨_,rfl,trivial⟩
theorem Z4(e:aA):Tot (kU e) λy=>y=true->1<=e.2.2.2.2.2.1/\e.2.2.2.2.2.1<=e.2.2.2.1:=by unfold kU;exact .ge (λc=>.some λd=>⟨c,eG.1 d⟩) λ_=>.some nofun
theorem Zn(c:fT):Tot (zA c) λ_=>True:=by unfold zA;exact .ite (λ_=>.ite (λ_=>.some trivial) λ_=>.some trivial) λ_=>.some trivial
theorem B3{l:List UInt8}(h:neS l []=false):l=[]:=by unfold neS at h;simpa using h
theorem JJ0(e:aA):Tot (nE e) λy=>y=true->(e.2.1=1\/e.2.1=2)->EF e:=by
 have g: ∀{o:Option Bool},(3<=e.2.1\/e.2.1<=0)->Tot o (λ_=>True)->Tot o λy=>y=true->(e.2.1=1\/e.2.1=2)->EF e:=λh ht=>ht.mono λ_ _ _ M=>by omega
 unfold nE;refine .ltf (λP=>.gtf (λQ=>.ltf (λN=>.gtf (λO=>.bind (ZQ _) λL h2=>.nof (λA=>.bind (ZQ _) λJ H=>.nof (λB=>.bind (ZQ _) λK E=>.not (λ_=>.some nofun) λD=>?_) λ_=>.some nofun) λ_=>.some nofun) λ_=>.some nofun) λ_=>.some nofun) λ_=>.some nofun) λ_=>.some nofun;have b2:=h2 A;have j:=H B;have k:=E D;refine .eq (λc=>g (by omega) ?_) λ_=>.eq (λc=>g (by omega) ?_) λ_=>.eq (λc=>g (by omega) ?_) λ_=>.eq (λc=>g (by omega) ?_) λ_=>.eq (λc=>g (by omega) ?_) λ_=>.eq (λc=>g (by omega) ?_) λ_=>.eq (λx=>?_) λx=>.eq (λw=>?_) λw=>by omega
 case refine_7=>refine .ltf (λG=>.gt (λ_=>.some nofun) λC=>.eq (λ_=>.some nofun) λv=>.ite (λ_=>.some nofun) λn=>.le (λ_=>.bind (Z4 e) λy h=>.ite (λd=>.bind (n7 _) λz r=>.some λq _=>?_) λ_=>.some nofun) λ_=>.some nofun) λ_=>.some nofun;obtain⟨F,I⟩:=h d;exact⟨by omega,by omega,by omega,by omega,b2.1,b2.2,j.1,j.2,k.1,k.2,B3 n,r q,.inr ⟨x,by have:=b2.1;(try dsimp only at this);omega,F,I⟩⟩
 case refine_8=>refine .ltf (λG=>.gt (λ_=>.some nofun) λC=>.ne (λ_=>.some nofun) λv=>.ite (λ_=>.some nofun) λn=>.le (λ_=>.bind (zi e) λy h=>.ite (λd=>.bind (n7 _) λz r=>.some λq _=>?_) λ_=>.some nofun) λ_=>.some nofun) λ_=>.some nofun;exact⟨by omega,by omega,by omega,by omega,b2.1,b2.2,j.1,j.2,k.1,k.2,B3 n,r q,.inl ⟨w,v⟩⟩
 all_goals repeat' first
  |exact .some trivial
  |refine .ite (λ_=>?_) λ_=>?_
  |refine .itf (λ_=>?_) λ_=>?_
  |refine .bind (zi _) λ_ _=>?_
  |refine .bind (JIn _) λ_ _=>?_
  |refine .bind (Zn _) λ_ _=>?_
end
section
variable {B S:Int}
def pG(x y:Int):Int:=if x<y then -1 else if y<x then 1 else 0
def hC(a b:aA):Int:=if pG (aZ a) (aZ b)=0 then pG a.1 b.1 else pG (aZ a) (aZ b)
theorem l4(x:Int):aL x x=false:=by simp[aL]
theorem jz(x y:Int):qS (x,y)=some (pG x y):=by
 unfold qS DD pG;dsimp only;rw[l4,l4];by_cases h:x<y;simp[aJ,h];by_cases h2:y<x;simp[aJ,aM,h,h2];simp[aJ,aM,h,h2]
theorem Z7(p q:Int):yR [p,q]=some (if p=0 then q else p):=by
 unfold yR;have h: ∀p q:Int,UA (0,[p,q],J0 [p,q],0)=if aL p 0=true then some (.inr p)else some (.inl (0,[p,q],J0 [p,q],1)):=λp q=>rfl
 have g: ∀p q:Int,UA (0,[p,q],J0 [p,q],1)=if aL q 0=true then some (.inr q)else some (.inl (0,[p,q],J0 [p,q],2)):=λp q=>rfl
 have k: ∀p q:Int,UA (0,[p,q],J0 [p,q],2)=some (.inr 0):=λp q=>rfl;by_cases e:p=0;subst e;rw[if_pos rfl,gV ((h 0 q).trans (if_neg (by decide)))];by_cases j:q=0;subst j;rw[gV ((g 0 0).trans (if_neg (by decide)))];exact eH (k 0 0);exact eH ((g 0 q).trans (if_pos (CA.2 j)));rw[if_neg e];exact eH ((h p q).trans (if_pos (CA.2 e)))
theorem JIH(a b:aA):DJ (a,b)=some (hC a b):=by unfold DJ hC aZ;dsimp only;rw[jz,jz];simp only[JL];rw[Z7];rfl
theorem Cv(a b:aA):jT (a,b)=some (hC a b):=by
 have h:Tot (jT (a,b)) λy=>y=hC a b:=by
  unfold jT hC pG aZ;dsimp only;refine .ltf (λc=>.eq (λg=>.lt (λj=>.some ?_) λj=>.eq (λ_=>.eq (λk=>.some ?_) λk=>.some ?_) λc=>absurd g c) λg=>.eq (λc=>absurd c g) λ_=>.some ?_) λc=>.some ?_
  all_goals repeat' split
  all_goals omega
 obtain⟨y,e,d⟩:=h;rw[e,d]
def ltE(a b:aA):Prop:=aZ a<aZ b\/(aZ a=aZ b/\a.1<b.1)
theorem ZH{a b:aA}:hC a b<0↔ltE a b:=by
 unfold hC pG ltE
 repeat' split
 all_goals first|omega|(constructor<;>intro h<;>omega)
theorem ZV{a b:aA}:hC a b=0↔aZ a=aZ b/\a.1=b.1:=by
 unfold hC pG
 repeat' split
 all_goals first|omega|(constructor<;>intro h<;>omega)
theorem JKU(r:JZ):Tot (DN r) λy=>y=true->tW r:=by unfold DN;exact .ge (λq=>.le (λe=>.le (λg=>.ge (λo=>.le (λk=>.lt (λn=>.ge (λh=>.some λj=>⟨q,e,g,o,k,n,h,eG.1 j⟩) λ_=>.some nofun) λ_=>.some nofun) λ_=>.some nofun) λ_=>.some nofun) λ_=>.some nofun) λ_=>.some nofun) λ_=>.some nofun
theorem JK8(e:aA):Tot (vM e) λy=>y=true->e.2.1=1\/e.2.1=2:=by unfold vM;exact .eqf (λ_=>.some λd=>.inr (oN.1 d)) λc=>.some λ_=>.inl c
theorem JKC(r:JZ)(e:aA):Tot (DP (r,e)) λy=>y=true->(e.2.1=1\/e.2.1=2)/\r.1<=e.1/\e.1<=r.2.1/\r.2.2.1<=aZ e/\aZ e<=r.2.2.2.1:=by unfold DP;exact .bind (JK8 e) λy h=>.ite (λd=>.ge (λn=>.le (λg=>.ge (λj=>.some λk=>⟨h d,j,eG.1 k,n,g⟩) λ_=>.some nofun) λ_=>.some nofun) λ_=>.some nofun) λ_=>.some nofun
theorem JHn{t:Ty}(x:t.D):eqT t x x=true:=cV.2 rfl
theorem JFh{e:aA}(h:EF e)(hk:e.2.1=1\/e.2.1=2):JF e=some true:=by
 obtain⟨S,T,A,j,O,J,F,B,Q,w,g,o,z⟩:=h;have r: ∀{n:Int},0<=n->n<e.1->jR (n,e.1)=some true:=fun{n} h1 h2=>by unfold jR;rw[if_pos (uJ.2 h1)];exact congrArg some (gU.2 h2)
 have sh:Tot (oT e) λy=>y=(e,true):=by
  unfold oT;rcases z with⟨k,q⟩|⟨k,M,U,N⟩;refine .eq (λ_=>.bind (cU o) λy d=>.eq (λc=>by omega) λ_=>.ite (λ_=>.ge (λ_=>.some ?_) λc=>absurd A c) λc=>by rw[d]at c;cases c) λc=>absurd k c;obtain⟨v,P,R,L,D,H,G,I⟩:=e
  (try dsimp only at k q g j)
  subst q;subst g;exact congrArg (Prod.mk _) (eG.2 j);refine .eq (λc=>by omega) λ_=>.eq (λ_=>.bind (cU o) λy d=>.eq (λ_=>.ite (λ_=>.gt (λ_=>.ge (λ_=>.le (λ_=>.ge (λ_=>.some ?_) λc=>absurd A c) λc=>absurd N c) λc=>absurd U c) λc=>absurd M c) λc=>by rw[d]at c;cases c) λc=>absurd k c) λc=>absurd k c;obtain⟨v,P,R,L,D,H,G,I⟩:=e
  (try dsimp only at g j)
  subst g;exact congrArg (Prod.mk _) (eG.2 j)
 have x:Tot (JF e) λy=>y=true:=by unfold JF;refine .bind sh λy d=>?_;subst d;exact .ite (λ_=>.ite (λ_=>.ge (λ_=>.le (λ_=>.bind (cU (r O J)) λY C=>.ite (λ_=>.bind (cU (r F B)) λV E=>.ite (λ_=>.bind (cU (r Q w)) λW K=>.some K) λc=>by rw[E]at c;cases c) λc=>by rw[C]at c;cases c) λc=>absurd T c) λc=>absurd S c) λc=>by have q:=JHn (t:=J3) e;cases q.symm.trans c) λc=>by cases c
 obtain⟨y,v,d⟩:=x;rw[v,d]
theorem JL7(r:JZ):Tot (iS r) λy=>y=true->pK r:=by
 unfold iS;refine .bind (JKU r) λy1 F=>.nof (λS=>.gt (λ_=>.some nofun) λc2=>?_) λ_=>.some nofun;have F:=F S;have R:=Jd (l:=r.2.2.2.2.2);refine Jj (τ:=Int) (λq=>(r.2.2.2.2.2,J0 r.2.2.2.2.2,q,r)) (λi=>0<=i/\i<=J0 r.2.2.2.2.2/\(∀(j:Nat) (e:aA),(j:Int)<i->r.2.2.2.2.2[j]?=some e->EF e/\(e.2.1=1\/e.2.1=2)/\r.1<=e.1/\e.1<=r.2.1/\r.2.2.1<=aZ e/\aZ e<=r.2.2.2.1)/\(∀e,0<i->r.2.2.2.2.2[0]?=some e->e.2.2.2.2.1<r.1)/\ ∀(j:Nat) (a b:aA),(j:Int)+1<i->r.2.2.2.2.2[j]?=some a->r.2.2.2.2.2[j+1]?=some b->kL r.1 a b) (λq=>J0 r.2.2.2.2.2-q) ?_ 0 rfl ⟨aV _,R,λj e h=>by omega,λe h=>by omega,λj a b h=>by omega⟩;rintro i ⟨h0,hn,h1,h2,P⟩;unfold ey;dsimp only;have o1:=Jl i 1;have o2:=bH i 1;refine .lt (λc=>?_) λc=>.some λ_=>⟨F,by omega,λj e o=>?_,λe o=>h2 e (by have:=kJ o;omega) o,λj a b K z=>P j a b (by have:=kJ z;omega) K z⟩;obtain⟨e,o,v⟩:=jG h0 c;refine .bind (cU o) λg Y=>?_;subst Y;refine .bind (JJ0 g) λy5 h5=>.nof (λU=>.bind (JKC r g) λy6 W=>.not (λ_=>.some nofun) λT=>?_) λ_=>.some nofun;have O:=W T;have A:EF g/\(g.2.1=1\/g.2.1=2)/\r.1<=g.1/\g.1<=r.2.1/\r.2.2.1<=aZ g/\aZ g<=r.2.2.2.1:=⟨h5 U O.1,O⟩;have D:(i=0->g.2.2.2.2.1<r.1)->(∀a,0<i->r.2.2.2.2.2[(i-1).toNat]?=some a->kL r.1 a g)-> ∃c':Int,((r.2.2.2.2.2,J0 r.2.2.2.2.2,J1 .i64 i 1,r):RH)=(r.2.2.2.2.2,J0 r.2.2.2.2.2,c',r)/\(0<=c'/\c'<=J0 r.2.2.2.2.2/\(∀(j:Nat) (e:aA),(j:Int)<c'->r.2.2.2.2.2[j]?=some e->EF e/\(e.2.1=1\/e.2.1=2)/\r.1<=e.1/\e.1<=r.2.1/\r.2.2.1<=aZ e/\aZ e<=r.2.2.2.1)/\(∀e,0<c'->r.2.2.2.2.2[0]?=some e->e.2.2.2.2.1<r.1)/\ ∀(j:Nat) (a b:aA),(j:Int)+1<c'->r.2.2.2.2.2[j]?=some a->r.2.2.2.2.2[j+1]?=some b->kL r.1 a b)/\J0 r.2.2.2.2.2-c'<J0 r.2.2.2.2.2-i/\0<=J0 r.2.2.2.2.2-i:=by
  intro Z n2;refine⟨J1 .i64 i 1,rfl,⟨by omega,by omega,λj f hj k=>?_,λf hp k=>?_,λj a b hj w n=>?_⟩,by omega,by omega⟩;by_cases G:(j:Int)<i;exact h1 j f G k;have:j=i.toNat:=by omega
  subst this;rw[v]at k;injection k with k;subst k;exact A;by_cases hi:0<i;exact h2 f hi k;have N:i=0:=by omega
  subst N;rw[show(0:Int).toNat=0 from rfl]at v;rw[v]at k;injection k with k;subst k;exact Z rfl;by_cases G:(j:Int)+1<i;exact P j a b G w n;have H:j+1=i.toNat:=by omega
  have e2:j=(i-1).toNat:=by omega
  rw[H,v]at n;injection n with n;subst n;rw[e2]at w;exact n2 a (by omega) w
 refine .eqf (λB=>?_) λB=>.ge (λ_=>.some nofun) λc5=>.some (D (λ_=>by omega) λa h=>by omega);have H:Js .i64 i 1=i-1:=by omega
 rw[H];obtain⟨a,w,M⟩:=jG (l:=r.2.2.2.2.2) (i:=i-1) (by omega) (by omega);have I:kL r.1 a g->(∀b,0<i->r.2.2.2.2.2[(i-1).toNat]?=some b->kL r.1 b g):=λh b _ n=>by rw[M]at n;injection n with n;subst n;exact h
 refine .bind (cU w) λy7 Q=>?_;subst Q;refine .lt (λC=>.ge (λ_=>.some nofun) λc6=>.some (D (λh=>absurd h B) (I (.inl ⟨C,by omega⟩)))) λC=>.bind (cU w) λJ V=>?_;subst V;refine .bind (cU (JIH J g)) λy9 d9=>.gef (λc9=>.ne (λ_=>.some nofun) λL=>.some (D (λh=>absurd h B) (I ?_))) λ_=>.some nofun;subst d9;rcases(ZH (a:=J) (b:=g)).1 (by omega)with q|⟨E,x⟩;exact absurd q C;exact .inr ⟨E,x,L⟩;obtain⟨E,x⟩:=h1 j e (by have:=kJ o;omega) o;exact⟨JFh E x.1,x⟩
end
section
variable {B S:Int}
theorem ltE.trans{a b c:aA}(h1:ltE a b)(h2:ltE b c):ltE a c:=by unfold ltE at*;omega
def eX:List aA->aA->List aA|[],e=>[e]|x::l,e=>if hC x e<0 then x::eX l e else if hC x e=0 then x::l else e::x::l
end
section
variable {B S:Int}
def SJ(r:JZ):Prop:=aB 16384 9223372036854775807 eB r
theorem vv{r:JZ}(h:SJ r): ∃v,iS r=some v/\lO r=some v/\(v=true->pK r):=by
 obtain⟨y,e,h1⟩:=JL7 r;obtain⟨z,g,_⟩:=sn (B:=16384) (S:=9223372036854775807) h;refine⟨y,e,?_,h1⟩;cases y with
 |true=>exact JBz (h1 rfl)
 |false=>
  cases z with
  |false=>exact g
  |true=>have:=fl (pK.of g);rw[this]at e;cases e
theorem Iw{e:aA}{l m:List aA}(h: ∀y∈l,hC y e<0):eX (l++m) e=l++eX m e:=by
 induction l with
 |nil=>rfl
 |cons y l ih=>rw[lE,eX,if_pos (h y List.mem_cons_self),ih λz g=>h z (iW _ g)];rfl
theorem JJk{l:List aA}{e:aA}(hl:J0 l<=16384):Tot (DH (l,e)) λy=>y.1=eX l e:=by
 unfold DH;have P:=Jd (l:=l);refine Jj (τ:=Int) (λq=>(l,q,e)) (λi=>0<=i/\i<=J0 l/\ ∀y∈l.take i.toNat,hC y e<0) (λi=>J0 l-i) ?_ 0 rfl ⟨aV _,P,λy V=>by simp at V⟩;rintro i ⟨E,h1,h2⟩;unfold wk;dsimp only;have o1:=Jl i 1;have M:eX l e=l.take i.toNat++eX (l.drop i.toNat) e:=by have:=Iw (m:=l.drop i.toNat) h2;rwa[lB]at this
 have put:(∀x,l[i.toNat]?=some x->0<hC x e)->Tot ((bB l none (some i)).bind λw=>(cC 128 w).bind λA=>(Jy 128 A [e]).bind λB=>(bB l (some i) none).bind λv=>(Jy 128 B v).bind λo=>some (o,true)) λy=>y.1=eX l e:=by
  intro j;obtain⟨p,W,I,q1⟩:=zZ (l:=l) (k:=i) E h1;obtain⟨r,U,F,_⟩:=GT (l:=l) (k:=i) E h1;have lp:J0 p<=16384:=by omega
  have hlen:J0 p+J0 r=J0 l:=by rw[I,F];unfold J0;rw[nS,qZ];unfold J0 at h1;omega
  have np:=Jd (l:=p);have nr:=Jd (l:=r);refine .bind (cU W) λw T=>?_;subst T;have Q:cC 128 w=some w:=by unfold cC;rw[if_pos];unfold kG;unfold J0 at lp np;simp only[decide_eq_true_eq];omega
  refine .bind (cU Q) λA S=>?_;subst S;refine .bind (cU (GS (l:=A) (m:=[e]) (by rw[CJ];omega) (by decide))) λB L=>.bind (cU U) λv J=>?_;subst L;subst J;refine .bind (cU (GS (l:=A++[e]) (m:=v) (by rw[NS,CJ];omega) (by decide))) λo H=>.some ?_;show o=eX l e;rw[H,I,F,M,mL]
  congr 1
  cases hd:l.drop i.toNat with
  |nil=>rfl
  |cons x t=>have g:=j x (by rw[<-List.head?_drop,hd];rfl);rw[eX,if_neg (by omega),if_neg (by omega)];rfl
 refine .lt (λc=>?_) λc=>.inr (.lt (λC=>absurd C c) λ_=>put λx j=>by have:=kJ j;omega);obtain⟨x,j,n⟩:=jG E c;refine .bind (cU j) λO N=>.bind (cU (Cv O e)) λy4 d4=>?_;subst N;refine .lt (λC=>.some ⟨J1 .i64 i 1,rfl,⟨by omega,by omega,λz h=>?_⟩,by omega,by omega⟩) λC=>.inr (.lt (λ_=>?_) λD=>absurd c D);rw[show(J1 .i64 i 1).toNat=i.toNat+1 by omega,List.take_add_one,n]at h;rcases cH.1 h with h|h;exact h2 z h;simp at h;subst h;omega;refine .bind (cU j) λK R=>.bind (cU (Cv K e)) λy6 d6=>?_;subst R;refine .eq (λD=>.bind (cU j) λY Z=>.some ?_) λD=>put λx g=>by rw[n]at g;injection g with g;subst g;omega
 show l=eX l e;have hd:l.drop i.toNat=K::l.drop (i.toNat+1):=by
  have G:=(cB.1 n).1;rw[List.drop_eq_getElem_cons G]
  congr 1
  exact(cB.1 n).2
 rw[M,hd,eX,if_neg (by omega),if_pos (by omega),<-hd,lB]
theorem JJS{l:List aA}(h:J0 l<=16384):cC 128 l=some l:=by have:=Jd (l:=l);unfold cC;rw[if_pos];unfold kG;unfold J0 at h this;simp only[decide_eq_true_eq];omega
theorem mr{r:JZ}(h:J0 (ent r)<=4096):CX (r,r)=some true:=by
 have g:Tot (CX (r,r)) λy=>y=true:=by unfold CX;exact .eq (λ_=>.eq (λ_=>.eq (λ_=>.eq (λ_=>.eq (λ_=>.bind (cU (JEe (ent r) h)) λy d=>.some d) λc=>absurd rfl c) λc=>absurd rfl c) λc=>absurd rfl c) λc=>absurd rfl c) λc=>absurd rfl c
 obtain⟨y,e,d⟩:=g;rw[e,d]
end
section
variable {l E F:List aA} {p:Int}
theorem ltE.irr{a:aA}: ¬ltE a a:=by unfold ltE;omega
theorem ltE.asym{a b:aA}(h:ltE a b): ¬ltE b a:=by unfold ltE at*;omega
theorem nb: ∀{a b:List aA},a.Pairwise ltE->b.Pairwise ltE->(∀x,x∈a↔x∈b)->a=b
 |[],[],_,_,_=>rfl
 |[],y::b,_,_,h=>absurd ((h y).2 List.mem_cons_self) (by simp)
 |x::a,[],_,_,h=>absurd ((h x).1 List.mem_cons_self) (by simp)
 |x::a,y::b,o,r,h=>by
  obtain⟨k,n⟩:=List.pairwise_cons.1 o;obtain⟨b1,b2⟩:=List.pairwise_cons.1 r;have e:x=y:=(by rcases bZ.1 ((h x).1 List.mem_cons_self)with q|q;exact q;rcases bZ.1 ((h y).2 List.mem_cons_self)with j|j;exact j.symm;exact absurd (b1 x q) (k y j).asym);subst e;refine congrArg (x:: ·) (nb n b2 λz=>⟨λg=>?_,λg=>?_⟩);rcases bZ.1 ((h z).1 (iW _ g))with rfl|q;exact absurd (k z g) ltE.irr;exact q;rcases bZ.1 ((h z).2 (iW _ g))with rfl|q;exact absurd (b1 z g) ltE.irr;exact q
theorem JIU(a b:aA):ltE a b\/(aZ a=aZ b/\a.1=b.1)\/ltE b a:=by unfold ltE;omega
theorem l6{e:aA}(hd: ∀x∈l,x.1≠e.1): ∀x,x∈eX l e↔x∈l\/x=e:=by
 induction l with
 |nil=>intro x;simp[eX]
 |cons y l ih=>
  intro x;have g:=hd y List.mem_cons_self;have k: ¬hC y e=0:=λh=>g (ZV.1 h).2;unfold eX;split;rw[bZ,ih (λz j=>hd z (iW _ j)),bZ,or_assoc];simp only[bZ];constructor;rintro(h|h|h);exact .inr h;exact .inl (.inl h);exact .inl (.inr h);rintro((h|h)|h);exact .inr (.inl h);exact .inr (.inr h);exact .inl h
theorem D4{e:aA}(hs:l.Pairwise ltE)(hd: ∀x∈l,x.1≠e.1):(eX l e).Pairwise ltE:=by
 induction l with
 |nil=>exact List.pairwise_singleton _ _
 |cons y l ih=>
  obtain⟨h1,h2⟩:=List.pairwise_cons.1 hs;have n:=hd y List.mem_cons_self;have o: ¬hC y e=0:=λh=>n (ZV.1 h).2;have k: ∀x∈l,x.1≠e.1:=λz g=>hd z (iW _ g);unfold eX;split;rename_i c;refine List.pairwise_cons.2 ⟨λz g=>?_,ih h2 k⟩;rcases(l6 k z).1 g with q|rfl;exact h1 z q;exact ZH.1 c;rename_i c;have j:ltE e y:=(by rcases JIU y e with q|q|q;exact absurd (ZH.2 q) c;exact absurd q.2 n;exact q);refine List.pairwise_cons.2 ⟨λz g=>?_,hs⟩;rcases bZ.1 g with rfl|g;exact j;exact j.trans (h1 z g)
theorem JFN{e:aA}(hd: ∀x∈l,x.1≠e.1):(eX l e).length=l.length+1:=by
 induction l with
 |nil=>simp[eX]
 |cons y k ih=>
  have j: ¬hC y e=0:=λh=>hd y List.mem_cons_self (ZV.1 h).2;unfold eX;split;have:=ih λz g=>hd z (iW _ g);simp at this⊢;omega;simp
def srt(l:List aA):List aA:=l.foldl eX []
theorem Bv(l:List aA)(e:aA):srt (l++[e])=eX (srt l) e:=by simp[srt,List.foldl_append]
def Inc(l:List aA):Prop:=l.Pairwise λa b=>a.1<b.1
def inB(f t lo hi:Int)(e:aA):Bool:=decide ((e.2.1=1\/e.2.1=2)/\(lo<=aZ e/\aZ e<=hi)/\f<=e.1/\e.1<=t)
theorem Cj{f t lo hi:Int}{e:aA}:inB f t lo hi e=true↔(e.2.1=1\/e.2.1=2)/\(lo<=aZ e/\aZ e<=hi)/\f<=e.1/\e.1<=t:=by simp[inB]
def sel(l:List aA)(f t lo hi:Int):List aA:=srt (l.filter (inB f t lo hi))
theorem Inc.filter(h:Inc l)(q:aA->Bool):Inc (l.filter q):=h.sublist (List.filter_sublist)
end
theorem i1(c x:Bool):(if c=true then some x else some false)=some (c&&x):=by cases c<;>rfl
theorem i2(c x:Bool):(if c=false then some x else some false)=some (!c&&x):=by cases c<;>rfl
theorem i3(c x:Bool):(if c=true then some false else some x)=some (!c&&x):=by cases c<;>rfl
theorem i4{α:Type}(c x:Bool)(E:α):(if c=true then some (E,x)else some (E,false))=some (E,c&&x):=by cases c<;>rfl
theorem Cm(c:jM):zD c=gH c:=rfl
theorem Cz(c:jM): ∃b,gH c=some b:=by unfold gH;split<;>(try split)<;>exact⟨_,rfl⟩
theorem JEd(c:fT): ∃b,sU c=some b/\jQ c=some b:=by obtain⟨b1,e⟩:=Cz c.2.2.1;obtain⟨b2,j⟩:=Cz c.2.2.2;unfold sU yX jQ;rw[Cm,Cm,e,j];simp only[JL];by_cases h1:aO c.1 0=true<;>by_cases h2:aJ c.1 64=true<;>by_cases h:aO c.2.1 0=true<;>by_cases g:aJ c.2.1 16=true<;>cases b1<;>simp[h1,h2,h,g]
theorem JBU{x:JB}(e:jR x=some true):0<=x.1/\x.1<x.2:=by
 unfold jR at e;split at e;injection e with e;rename_i h;exact⟨uJ.1 h,gU.1 e⟩;cases e
theorem cu(x:JB): ∃b,jR x=some b:=by unfold jR;split<;>exact⟨_,rfl⟩
theorem JJ1(c:fT): ∃z,vB c=some z/\(z=true↔c=(0,0,(false,[]),false,[])):=⟨_,rfl,cV (t:=dY)⟩
theorem Y7(c:fT): ∃z,zA c=some z/\(z=true↔c=(c.1,0,(false,[]),false,[])/\0<=c.1/\c.1<64):=by
 have e:Tot (zA c) λz=>(z=true↔c=(c.1,0,(false,[]),false,[])/\0<=c.1/\c.1<64):=by unfold zA;exact .ite (λh=>.ge (λg=>.some ⟨λk=>⟨(cV (t:=dY)).1 h,g,gU.1 k⟩,λk=>gU.2 k.2.2⟩) λg=>.some ⟨nofun,λk=>absurd k.2.1 g⟩) λh=>.some ⟨nofun,λk=>(Bool.false_ne_true (h.symm.trans ((cV (t:=dY)).2 k.1))).elim⟩
 exact e
theorem JKW(e:aA):nE e=JF e:=by
 obtain⟨l,k,t,q,v,r,c,bl⟩:=e;obtain⟨U,x,A⟩:=JEd c;obtain⟨b1,w⟩:=cu (q,l);obtain⟨b2,L⟩:=cu (v,l);obtain⟨Q,M⟩:=cu (r,l);have N:pA (q,l,k,t,q,v,r,c,bl)=some b1:=w;have O:pA (v,l,k,t,q,v,r,c,bl)=some b2:=L;have P:pA (r,l,k,t,q,v,r,c,bl)=some Q:=M;have T: ∀b:Bool,Jk b= !b:=λ_=>rfl;unfold nE JF oT;dsimp only;rw[N,O,P,w,L,M,x,A];have j: ∀a b:aA,(eqT J3 a b=true)=(a=b):=λa b=>propext (cV (t:=J3));have g: ∀a b:fT,(eqT dY a b=true)=(a=b):=λa b=>propext (cV (t:=dY));have V:b1=true->0<=q/\q<l:=λh=>by subst h;exact JBU w
 have K:k=1\/k=2\/k=3\/k=4\/k=5\/k=6\/k=7\/k=8\/k<1\/8<k:=by omega
 clear w L M N O P x A;have W:J0 ([]:List UInt8)=0:=rfl;obtain⟨z,n,S⟩:=JJ1 c;obtain⟨y,o,R⟩:=Y7 c;rcases K with rfl|rfl|rfl|rfl|rfl|rfl|rfl|rfl|K|K;simp only[show aJ 1 1=false from rfl,show aM 1 8=false from rfl,show aI 1 8=false from rfl,show aI 1 7=false from rfl,show aI 1 6=false from rfl,show aI 1 5=false from rfl,show aI 1 4=false from rfl,show aI 1 3=false from rfl,show aI 1 2=false from rfl,show aI 1 1=true from rfl,if_true,if_false,dJ,reduceCtorEq,JL,gY,kU,n,o,i1,i2,i3,i4]
 congr 1
 rw[Bool.eq_iff_iff];simp only[JQ,iV,j,g];simp only[aJ,aM,aO,aR,aL,aI,Jk,neS,decide_eq_true_eq,decide_eq_false_iff_not,Prod.mk.injEq,Bool.not_eq_false',Decidable.not_not,true_and,and_true];grind;simp only[show aJ 2 1=false from rfl,show aM 2 8=false from rfl,show aI 2 8=false from rfl,show aI 2 7=false from rfl,show aI 2 6=false from rfl,show aI 2 5=false from rfl,show aI 2 4=false from rfl,show aI 2 3=false from rfl,show aI 2 2=true from rfl,show aI 2 1=false from rfl,if_true,if_false,dJ,reduceCtorEq,JL,gY,kU,n,o,i1,i2,i3,i4]
 congr 1
 rw[Bool.eq_iff_iff];simp only[JQ,iV,j,g];simp only[aJ,aM,aO,aR,aL,aI,Jk,neS,decide_eq_true_eq,decide_eq_false_iff_not,Prod.mk.injEq,Bool.not_eq_false',Decidable.not_not,true_and,and_true];grind;simp only[show aJ 3 1=false from rfl,show aM 3 8=false from rfl,show aI 3 8=false from rfl,show aI 3 7=false from rfl,show aI 3 6=false from rfl,show aI 3 5=false from rfl,show aI 3 4=false from rfl,show aI 3 3=true from rfl,show aI 3 2=false from rfl,show aI 3 1=false from rfl,if_true,if_false,dJ,reduceCtorEq,JL,gY,kU,n,o,i1,i2,i3,i4]
 congr 1
 rw[Bool.eq_iff_iff];simp only[JQ,iV,j,g];simp only[aJ,aM,aO,aR,aL,aI,Jk,neS,decide_eq_true_eq,decide_eq_false_iff_not,Prod.mk.injEq,Bool.not_eq_false',Decidable.not_not,true_and,and_true];grind;simp only[show aJ 4 1=false from rfl,show aM 4 8=false from rfl,show aI 4 8=false from rfl,show aI 4 7=false from rfl,show aI 4 6=false from rfl,show aI 4 5=false from rfl,show aI 4 4=true from rfl,show aI 4 3=false from rfl,show aI 4 2=false from rfl,show aI 4 1=false from rfl,if_true,if_false,dJ,reduceCtorEq,JL,gY,kU,n,o,i1,i2,i3,i4]
 congr 1
 rw[Bool.eq_iff_iff];simp only[JQ,iV,j,g];simp only[aJ,aM,aO,aR,aL,aI,Jk,neS,decide_eq_true_eq,decide_eq_false_iff_not,Prod.mk.injEq,Bool.not_eq_false',Decidable.not_not,true_and,and_true];grind;simp only[show aJ 5 1=false from rfl,show aM 5 8=false from rfl,show aI 5 8=false from rfl,show aI 5 7=false from rfl,show aI 5 6=false from rfl,show aI 5 5=true from rfl,show aI 5 4=false from rfl,show aI 5 3=false from rfl,show aI 5 2=false from rfl,show aI 5 1=false from rfl,if_true,if_false,dJ,reduceCtorEq,JL,gY,kU,n,o,i1,i2,i3,i4]
 congr 1
 rw[Bool.eq_iff_iff];simp only[JQ,iV,j,g];simp only[aJ,aM,aO,aR,aL,aI,Jk,neS,decide_eq_true_eq,decide_eq_false_iff_not,Prod.mk.injEq,Bool.not_eq_false',Decidable.not_not,true_and,and_true];grind;simp only[show aJ 6 1=false from rfl,show aM 6 8=false from rfl,show aI 6 8=false from rfl,show aI 6 7=false from rfl,show aI 6 6=true from rfl,show aI 6 5=false from rfl,show aI 6 4=false from rfl,show aI 6 3=false from rfl,show aI 6 2=false from rfl,show aI 6 1=false from rfl,if_true,if_false,dJ,reduceCtorEq,JL,gY,kU,n,o,i1,i2,i3,i4]
 congr 1
 rw[Bool.eq_iff_iff];simp only[JQ,iV,j,g];simp only[aJ,aM,aO,aR,aL,aI,Jk,neS,decide_eq_true_eq,decide_eq_false_iff_not,Prod.mk.injEq,Bool.not_eq_false',Decidable.not_not,true_and,and_true];grind;simp only[show aJ 7 1=false from rfl,show aM 7 8=false from rfl,show aI 7 8=false from rfl,show aI 7 7=true from rfl,show aI 7 6=false from rfl,show aI 7 5=false from rfl,show aI 7 4=false from rfl,show aI 7 3=false from rfl,show aI 7 2=false from rfl,show aI 7 1=false from rfl,if_true,if_false,dJ,reduceCtorEq,JL,gY,kU,n,o,i1,i2,i3,i4]
 congr 1
 rw[Bool.eq_iff_iff];simp only[JQ,iV,j,g];simp only[aJ,aM,aO,aR,aL,aI,Jk,neS,decide_eq_true_eq,decide_eq_false_iff_not,Prod.mk.injEq,Bool.not_eq_false',Decidable.not_not,true_and,and_true];grind;simp only[show aJ 8 1=false from rfl,show aM 8 8=false from rfl,show aI 8 8=true from rfl,show aI 8 7=false from rfl,show aI 8 6=false from rfl,show aI 8 5=false from rfl,show aI 8 4=false from rfl,show aI 8 3=false from rfl,show aI 8 2=false from rfl,show aI 8 1=false from rfl,if_true,if_false,dJ,reduceCtorEq,JL,gY,kU,n,o,i1,i2,i3,i4]
 congr 1
 rw[Bool.eq_iff_iff];simp only[JQ,iV,j,g];simp only[aJ,aM,aO,aR,aL,aI,Jk,neS,decide_eq_true_eq,decide_eq_false_iff_not,Prod.mk.injEq,Bool.not_eq_false',Decidable.not_not,true_and,and_true];grind;have I:aI k 1=false:=by simp[aI];omega
 have J:aI k 2=false:=by simp[aI];omega
 have C:aI k 3=false:=by simp[aI];omega
 have D:aI k 4=false:=by simp[aI];omega
 have B:aI k 5=false:=by simp[aI];omega
 have F:aI k 6=false:=by simp[aI];omega
 have G:aI k 7=false:=by simp[aI];omega
 have H:aI k 8=false:=by simp[aI];omega
 have E:aJ k 1=true:=by simp[aJ];omega
 simp only[I,J,C,D,B,F,G,H,E,if_true,if_false,dJ,reduceCtorEq,JL,i1,i2,i3,i4];simp;have I:aI k 1=false:=by simp[aI];omega
 have J:aI k 2=false:=by simp[aI];omega
 have C:aI k 3=false:=by simp[aI];omega
 have D:aI k 4=false:=by simp[aI];omega
 have B:aI k 5=false:=by simp[aI];omega
 have F:aI k 6=false:=by simp[aI];omega
 have G:aI k 7=false:=by simp[aI];omega
 have H:aI k 8=false:=by simp[aI];omega
 have E:aM k 8=true:=by simp[aM];omega
 simp only[I,J,C,D,B,F,G,H,E,if_true,if_false,dJ,reduceCtorEq,JL,i1,i2,i3,i4];simp
end Go.Am
end
section
namespace Go.Am
set_option linter.unusedVariables false
set_option maxRecDepth 20000
set_option maxHeartbeats 1000000
theorem WW(f t lo hi lv:Int)(es:List aA): ∃b,jS (f,t,lo,hi,lv)=some b/\VJ (f,t,lo,hi,lv,es)=some (b,es):=by
 unfold jS VJ;dsimp only
 repeat' split
 all_goals exact⟨_,rfl,rfl⟩
theorem Y9(f t lo hi lv:Int)(x:aA)(es:List aA):KM (f,t,lo,hi,lv,x,es)=some (inB f t lo hi x,es):=by
 have k:Tot (KM (f,t,lo,hi,lv,x,es)) λy=>y=(inB f t lo hi x,es):=by
  unfold KM;have hc:Tot (vM x) λy=>(y=true↔x.2.1=1\/x.2.1=2):=by unfold vM;exact .eqf (λc=>.some ⟨λd=>.inr (oN.1 d),λd=>oN.2 (d.resolve_left c)⟩) λc=>.some ⟨λ_=>.inl c,λ_=>rfl⟩
  have g: ¬((x.2.1=1\/x.2.1=2)/\(lo<=aZ x/\aZ x<=hi)/\f<=x.1/\x.1<=t)->(false,es)=(inB f t lo hi x,es):=λh=>by
   have:inB f t lo hi x=false:=by unfold inB;simp only[decide_eq_false_iff_not];exact h
   rw[this]
  refine .bind hc λy h=>.ite (λd=>.ge (λn=>.le (λo=>.ge (λr=>.some ?_) λc=>.some (g λh=>c h.2.2.1)) λc=>.some (g λh=>c h.2.1.2)) λc=>.some (g λh=>c h.2.1.1)) λc=>.some (g λq=>by rw[h.2 q.1]at c;cases c);show(aR x.1 t,es)=_;by_cases j:x.1<=t;rw[eG.2 j,Cj.2 ⟨h.1 d,⟨n,o⟩,r,j⟩];rw[<-g λh=>j h.2.2.2];have:aR x.1 t=false:=by unfold aR;simp[j]
  rw[this]
 obtain⟨y,e,d⟩:=k;rw[e,d]
def leL(a b:aA):Bool:=decide (a.1<=b.1)
theorem JJv:FV vK leL:=λx y=>by
 refine⟨pG x.1 y.1,?_,?_⟩;unfold vK;dsimp only;rw[jz];rfl;unfold pG leL aJ;split;simp;omega;split;simp;omega;simp;omega
theorem Y8(a b c:aA)(h:leL a b=true)(k:leL b c=true):leL a c=true:=by unfold leL at*;simp at*;omega
theorem Zq(a b:aA):leL a b=true\/leL b a=true:=by unfold leL;simp;omega
theorem JGy{l:List aA}(h: ∀x∈l,nE x=some true)(hl:J0 l<=16384):VS l=some false:=by
 have g:Tot (VR l) λy=>y= -1:=by
  unfold VR;refine Jj (τ:=Int) (λq=>(l,J0 l,q)) (λi=>0<=i/\i<=J0 l) (λi=>J0 l-i) ?_ 0 rfl ⟨aV _,Jd⟩;rintro i ⟨k,h1⟩;unfold Dv;dsimp only;refine .lt (λc=>?_) λ_=>.some rfl;obtain⟨a,e,q⟩:=jG k c;refine .same e ?_;have j:UP a=some false:=by unfold UP;rw[h a (zQ5 q)];rfl
  refine .same j (.ite (λd=>by cases d) λ_=>.some ⟨J1 .i64 i 1,rfl,?_,?_,?_⟩)
  all_goals have:=Jl i 1
  all_goals omega
 obtain⟨y,e,rfl⟩:=g;unfold VS;rw[e];rfl
theorem JJD{l:List aA}(hl:J0 l<=16384)(hd: ∀(j:Nat) (a b:aA),l[j]?=some a->l[j+1]?=some b->a.1≠b.1):KT l=some l:=by
 have k:Tot (KT l) λy=>y=l:=by
  unfold KT;refine .lt (λ_=>.some rfl) λz=>Jj (τ:=Int) (λq=>(q,l)) (λi=>1<=i/\i<=J0 l) (λi=>J0 l-i) ?_ 1 rfl ⟨aV _,by omega⟩;rintro i ⟨A,h1⟩;unfold Dt;dsimp only;refine .lt (λc=>?_) λ_=>.some rfl;have o:Js .i64 i 1=i-1:=by have:=bH i 1;omega
  rw[o];obtain⟨a,x,n⟩:=jG (l:=l) (i:=i) (by omega) c;obtain⟨b,r,h⟩:=jG (l:=l) (i:=i-1) (by omega) (by omega);have v:((l.length:Nat):Int)=J0 l:=rfl;refine .same (w:=()) (by unfold aQ;rw[if_pos (by omega)]) (.same n (.same (w:=()) (by unfold aQ;rw[if_pos (by omega)]) (.same h (.ite (λd=>?_) λ_=>.some ⟨J1 .i64 i 1,rfl,?_,?_,?_⟩))));have g:a=b:=cV.1 d;exact absurd (by rw[g]) (hd (i-1).toNat b a h (by rw[show(i-1).toNat+1=i.toNat by omega];exact n))
  all_goals have:=Jl i 1
  all_goals omega
 obtain⟨y,e,d⟩:=k;rw[e,d]
noncomputable def mkO(f t lo hi lv:Int)(es:List aA):Option (pN):=if J0 es>4096 then some ((0,0,0,0,0,[]),21)else(lO (f,t,lo,hi,lv,es)).bind λv=>if v=true then some ((f,t,lo,hi,lv,es),0)else some ((0,0,0,0,0,[]),13)
theorem As{l:List aA}(h:l.Pairwise λx y=>x.1≠y.1):(srt l).Pairwise ltE/\(∀x,x∈srt l↔x∈l)/\(srt l).length=l.length:=by
 have j: ∀{n:Nat} {l:List aA},l.length=n->(l.Pairwise λx y=>x.1≠y.1)->(srt l).Pairwise ltE/\(∀x,x∈srt l↔x∈l)/\(srt l).length=l.length:=by
  intro n
  induction n with
  |zero=>intro l h _;rw[List.length_eq_zero_iff.1 h];exact⟨.nil,by simp[srt],rfl⟩
  |succ n ih=>
   intro l h hi;obtain⟨m,e,rfl⟩: ∃m e,l=m++[e]:=⟨l.dropLast,l.getLast (by intro o;rw[o]at h;simp at h),(List.dropLast_concat_getLast _).symm⟩;have r:m.length=n:=by simpa using h
   obtain⟨i1,i2,i3⟩:=List.pairwise_append.1 hi;obtain⟨s1,g,k⟩:=ih r i1;have hd: ∀x∈srt m,x.1≠e.1:=λx q=>i3 x ((g x).1 q) e (by simp);rw[Bv];refine⟨D4 s1 hd,λx=>by rw[l6 hd,g];simp,?_⟩;rw[JFN hd,k];simp
 exact j rfl h
theorem JG5{x y:aA}(hx:J7h x=true)(hy:J7h y=true):J6e x<J6e y↔ltE x y:=by unfold J7h at hx hy;simp only[decide_eq_true_eq]at hx hy;unfold J6e ltE aZ;omega
theorem Db: ∀{l:List Int},(l.Pairwise λx y=>x≠y)->xO l=true
 |[],_=>rfl
 |x::l,h=>by rw[List.pairwise_cons]at h;simp only[xO,JQ,iV,List.contains_eq_mem,decide_eq_false_iff_not];exact⟨λe=>h.1 x e rfl,Db h.2⟩
theorem JJb{s E:List aA}(hf: ∀x∈s,J7h x=true)(hl:J0 s<=16384)(hd:s.Pairwise λx y=>x.1≠y.1)(w:E.Pairwise ltE)(hm: ∀x,x∈E↔x∈s):KU s=some E:=by
 have v:(s.map J6e).Pairwise λx y=>x≠y:=by rw[List.pairwise_map];refine hd.imp_of_mem fun{x y} q o h=>?_;have h1:=hf x q;have h2:=hf y o;unfold J7h at h1 h2;simp only[decide_eq_true_eq]at h1 h2;unfold J6e;omega
 have z:kE J6e s=some (s.mergeSort (iG J6e)):=by unfold kE;rw[if_pos ⟨by unfold J0 at hl;omega,Db v⟩]
 have n:=List.mergeSort_perm s (iG J6e);have r:(s.mergeSort (iG J6e)).Pairwise ltE:=by have h1:=List.pairwise_mergeSort (le:=iG J6e) (λa b c h k=>by unfold iG at*;simp at*;omega) (λa b=>by unfold iG;simp;omega) s;have h2:(s.mergeSort (iG J6e)).Pairwise λx y=>x.1≠y.1:=n.symm.pairwise hd (λh k=>h k.symm);refine(h1.and h2).imp_of_mem fun{x y} q o h=>?_;have g:=hf x (n.mem_iff.1 q);have j:=hf y (n.mem_iff.1 o);rw[<-JG5 g j];have h1:=h.1;have h2:=h.2;unfold iG at h1;simp only[decide_eq_true_eq]at h1;unfold J7h at g j;simp only[decide_eq_true_eq]at g j;unfold J6e at h1⊢;omega
 have e:s.mergeSort (iG J6e)=E:=nb r w λx=>by rw[n.mem_iff,hm]
 show(if s.all J7h=true then kE J6e s else none)=some E;rw[if_pos (EC.2 hf),z,e]
end Go.Am
end
section
namespace Go.Am
set_option linter.unusedVariables false
set_option maxRecDepth 20000
set_option maxHeartbeats 1000000
theorem JKY{s E:List aA}{f t lo hi lv:Int}(hl:J0 s<=16384)(hd: ∀(j:Nat) (a b:aA),s[j]?=some a->s[j+1]?=some b->a.1≠b.1)(o:J0 E=J0 s)
  (hs:KU s=some E) (hv: ∃v,iS (f,t,lo,hi,lv,E)=some v/\lO (f,t,lo,hi,lv,E)=some v):
  Tot (J4 ee (1,[],0,0,0,0,0,s,[],f,t,lo,hi,lv)) λy=>mkO f t lo hi lv E=some y:=by
 refine Jj (τ:=Int) (λq=>(q,[],0,0,0,0,0,s,[],f,t,lo,hi,lv)) (λi=>1<=i/\i<=J0 s+1) (λi=>J0 s-i) ?_ 1 rfl ⟨aV _,by have:=Jd (l:=s);omega⟩;rintro i ⟨D,h1⟩;unfold ee;dsimp only;have B:((s.length:Nat):Int)=J0 s:=rfl;have z:Js .i64 i 1=i-1:=by have:=bH i 1;omega
 refine .lt (λc=>?_) λ_=>.map (P:=λy=>mkO f t lo hi lv E=some y) (.gt (λc=>.some ?_) λc=>.same hs ?_) λ_ h=>h
 ·rw[z];obtain⟨a,C,g⟩:=jG (l:=s) (i:=i) (by omega) c;obtain⟨b,A,e⟩:=jG (l:=s) (i:=i-1) (by omega) (by omega);refine .same (w:=()) (by unfold aQ;rw[if_pos (by omega)]) (.same e (.same (w:=()) (by unfold aQ;rw[if_pos (by omega)]) (.same g (.eq (λd=>?_) λ_=>.some ⟨J1 .i64 i 1,rfl,?_,?_,?_⟩))))
  exact absurd d (hd (i-1).toNat b a e (by rw[show(i-1).toNat+1=i.toNat by omega];exact g))
  all_goals have:=Jl i 1
  all_goals omega
 unfold mkO;rw[if_pos (by omega)];have k:nQ (List.length E) (List.length s)=true:=by
  have:E.length=s.length:=by unfold J0 at o;omega
  rw[this];exact Nat.beq_refl _
 obtain⟨v,r,x⟩:=hv;have n:mkO f t lo hi lv E=if v=true then some ((f,t,lo,hi,lv,E),0)else some ((0,0,0,0,0,[]),13):=by unfold mkO;rw[if_neg (by omega),x];rfl
 refine .ite (λ_=>.same r (.not (λd=>.some ?_) λd=>.some ?_)) λd=>by rw[k]at d;cases d
 rw[n,d];rfl;rw[n,d];rfl
theorem JK2{l:List aA}(hd:l.Pairwise λx y=>x.1≠y.1)(f t lo hi:Int):(sel l f t lo hi).Pairwise ltE/\(∀x,x∈sel l f t lo hi↔x∈l/\inB f t lo hi x=true)/\(sel l f t lo hi).length=(l.filter (inB f t lo hi)).length:=by obtain⟨s1,g,e⟩:=As (hd.sublist (List.filter_sublist (p:=inB f t lo hi)));exact⟨s1,λx=>by unfold sel;rw[g,List.mem_filter],e⟩
theorem JFX{l:List aA}{f t lo hi lv:Int}(hv: ∀x∈l,nE x=some true)(hf: ∀x∈l,aB 16384 9223372036854775807 J3 x)(hl:J0 l<=8192)(hn:jS (f,t,lo,hi,lv)=some true)
  (hd:l.Pairwise λx y=>x.1≠y.1) (hr:SJ (f,t,lo,hi,lv,[])):Tot (xT (l,f,t,lo,hi,lv)) λy=>mkO f t lo hi lv (sel l f t lo hi)=some y:=by
 obtain⟨s1,E,K⟩:=JK2 hd f t lo hi;have S:=List.length_filter_le (inB f t lo hi) l;unfold J0 at hl;have B: ∀x∈l,J7h x=true:=λx n=>by have h1:=(hf x n).1;have h1:IntKind.i64.min<=x.1/\x.1<=IntKind.i64.max:=h1;unfold J7h;simp only[decide_eq_true_eq];have I:IntKind.i64.min= -9223372036854775808:=rfl;have U:IntKind.i64.max=9223372036854775807:=rfl;omega
 unfold xT;obtain⟨b,b1,b2⟩:=WW f t lo hi lv [];rw[hn]at b1;injection b1 with b1;subst b1;refine .same b2 (.ite (λ_=>.not (λc=>by cases c) λ_=>.same (JGy hv (show J0 l<=16384 by unfold J0;omega)) (.ite (λc=>by cases c) λ_=>?_)) λc=>by cases c);refine Jj (τ:=Int×List aA) (λq=>(l,J0 l,q.1,[],0,0,0,0,0,q.2,[],f,t,lo,hi,lv)) (λq=>0<=q.1/\q.1<=J0 l/\q.2=(l.take q.1.toNat).filter (inB f t lo hi)) (λq=>J0 l-q.1) ?_ (0,[]) rfl ⟨aV _,Jd,rfl⟩;rintro⟨i,es⟩ ⟨H,h1,h2⟩
 (try dsimp only at H h1 h2)
 unfold qy;dsimp only;have o:=Jl i 1;have T:((l.length:Nat):Int)=J0 l:=rfl;have R:es.length<=l.length:=by rw[h2];have:=List.length_filter_le (inB f t lo hi) (l.take i.toNat);rw[nS]at this;omega
 have g: ∀{m:List aA},nQ (List.length m) (List.length m)=true:=fun{m}=>Nat.beq_refl _;refine .lt (λc=>?_) λc=>.map (P:=λy=>mkO f t lo hi lv (sel l f t lo hi)=some y) ?_ λ_ h=>h;obtain⟨x,e,q⟩:=jG H c;have D:l.take (J1 .i64 i 1).toNat=l.take i.toNat++[x]:=by rw[show(J1 .i64 i 1).toNat=i.toNat+1 by omega,List.take_add_one,q];rfl
 refine .same e (.same (Y9 f t lo hi lv x es) (.ite (λ_=>.ite (λd=>?_) λd=>.some ⟨(J1 .i64 i 1,es),rfl,⟨by first|omega|(dsimp only;omega),by first|omega|(dsimp only;omega),?_⟩,by first|omega|(dsimp only;omega),by first|omega|(dsimp only;omega)⟩) λd=>by rw[g]at d;cases d));have d:inB f t lo hi x=true:=d;refine .same (GS (bytes:=128) (l:=es) (m:=[x]) (by unfold J0;simp;omega) (by decide)) (.some ⟨(J1 .i64 i 1,es++[x]),rfl,⟨by first|omega|(dsimp only;omega),by first|omega|(dsimp only;omega),?_⟩,by first|omega|(dsimp only;omega),by first|omega|(dsimp only;omega)⟩);dsimp only;rw[D,List.filter_append,h2];simp[d];have d:inB f t lo hi x=false:=d;dsimp only;rw[D,List.filter_append,h2];simp[d];have r:es=l.filter (inB f t lo hi):=by rw[h2,show i.toNat=l.length by omega,List.take_length]
 have w:(ST leL es).Perm es:=XO (le:=leL) es;have C:=JJW (c:=vK) (le:=leL) (X:=es) Y8 Zq JJv (by omega);have A:(ST leL es).Pairwise λx y=>x.1≠y.1:=w.symm.pairwise (by rw[r];exact hd.sublist List.filter_sublist) (λh k=>h k.symm);have G: ∀x∈ST leL es,x∈l:=λx n=>by have:=w.mem_iff.1 n;rw[r]at this;exact(List.mem_filter.1 this).1
 have hlen:(ST leL es).length=es.length:=w.length_eq;have z: ∀(j:Nat) (a b:aA),(ST leL es)[j]?=some a->(ST leL es)[j+1]?=some b->a.1≠b.1:=λj a b Q L=>by obtain⟨la,rfl⟩:=cB.1 Q;obtain⟨J,rfl⟩:=cB.1 L;exact List.pairwise_iff_getElem.1 A j (j+1) la J (by omega)
 have O:KU (ST leL es)=some (sel l f t lo hi):=JJb (λx n=>B x (G x n)) (by unfold J0;omega) A s1 λx=>by rw[E,w.mem_iff,r,List.mem_filter]
 have I:km es=some (ST leL es):=C;refine .same I (.ite (λ_=>.same (JJD (by unfold J0;omega) z) (.ite (λ_=>?_) λd=>by rw[g]at d;cases d)) λd=>by rw[show nQ (List.length (ST leL es)) (List.length es)=true by rw[hlen];exact g]at d;cases d);have F:SJ (f,t,lo,hi,lv,sel l f t lo hi):=⟨hr.1,hr.2.1,hr.2.2.1,hr.2.2.2.1,hr.2.2.2.2.1,by refine⟨?_,λx n=>hf x ((E x).1 n).1⟩;show J0 (sel l f t lo hi)<=16384;unfold J0;omega⟩;obtain⟨v,M,N,_⟩:=vv F;exact(JKY (by unfold J0;omega) z (by unfold J0;rw[K,hlen,r]) O ⟨v,M,N⟩).mono λy h=>h
end Go.Am
end
section
namespace Go.Am
set_option linter.unusedVariables false
set_option maxRecDepth 20000
set_option maxHeartbeats 1000000
theorem JHw{l:List aA}{f t lo hi lv:Int}{y:pN}(hv: ∀x∈l,JF x=some true)(hl:J0 l<=8192)(hn:jS (f,t,lo,hi,lv)=some true)
  (hd:l.Pairwise λx y=>x.1≠y.1) (e:qL (l,f,t,lo,hi,lv)=some y):mkO f t lo hi lv (sel l f t lo hi)=some y:=by
 have a5:Par (qL (l,f,t,lo,hi,lv)) λy=>mkO f t lo hi lv (sel l f t lo hi)=some y:=by
  unfold qL;refine .bind λv B=>.not (λc=>?_) λ_=>.while (λz=>z.1=l/\z.2.1=f/\z.2.2.1=t/\z.2.2.2.1=lo/\z.2.2.2.2.1=hi/\z.2.2.2.2.2.1=lv) ⟨rfl,rfl,rfl,rfl,rfl,rfl⟩ ?_;rw[hn]at B;injection B with B;subst B;cases c;rintro⟨V,W,t',L,D,J,i,r0⟩ ⟨h1,h2,F,H,G,E⟩
  (try dsimp only at h1 h2 F H G E)
  subst h1 h2 F H G E;unfold s8;dsimp only;refine .lt (λ_=>.bind λx C=>.bind λv B=>.not (λc=>?_) λ_=>.some ⟨rfl,rfl,rfl,rfl,rfl,rfl⟩) λ_=>.map ?_;obtain⟨_,q⟩:=fO C;rw[hv _ (zQ5 q)]at B;injection B with B;subst B;cases c;refine .while (λz=>z.1=V/\z.2.1=W/\z.2.2.1=t'/\z.2.2.2.1=L/\z.2.2.2.2.1=D/\z.2.2.2.2.2.1=false/\ ∃i:Nat,z.2.2.2.2.2.2.1=(i:Int)/\i<=V.length/\z.2.2.2.2.2.2.2.2=(W,t',L,D,J,srt ((V.take i).filter (inB W t' L D)))) ⟨rfl,rfl,rfl,rfl,rfl,rfl,0,rfl,zQ2 _,rfl⟩ ?_;rintro⟨r,w,A,n,g,tw,i',r1,r2⟩ ⟨h1,h2,F,H,G,E,i,N,h8,I⟩
  (try dsimp only at h1 h2 F H G E N h8 I)
  subst h1 h2 F H G E N I;unfold em;dsimp only;have o:=Jl (i:Int) 1;have nx: ∀{x:aA},idx r (i:Int)=some x->r.take (i+1)=r.take i++[x]/\i+1<=r.length/\r[i]?=some x:=fun{x} C=>by obtain⟨_,q⟩:=fO C;rw[Int.toNat_natCast]at q;exact⟨by rw[List.take_add_one,q];rfl,(cB.1 q).1,q⟩
  have skip: ∀{x:aA},idx r (i:Int)=some x->inB w A n g x=false-> ∃j:Nat,J1 .i64 (i:Int) 1=(j:Int)/\j<=r.length/\((w,A,n,g,J,srt ((r.take i).filter (inB w A n g))):JZ)=(w,A,n,g,J,srt ((r.take j).filter (inB w A n g))):=fun{x} C Q=>by
   obtain⟨Z,Y,_⟩:=nx C;refine⟨i+1,?_,Y,?_⟩;unfold J0 at hl;omega;rw[Z,List.filter_append];simp[Q]
  have M: ∀{x:aA},¬((x.2.1=1\/x.2.1=2)/\(n<=aZ x/\aZ x<=g)/\w<=x.1/\x.1<=A)->inB w A n g x=false:=fun{x} C=>by simp only[inB,decide_eq_false_iff_not];exact C
  have T: ∀{x:aA} {b:Bool},JD x=some b->(b=true↔x.2.1=1\/x.2.1=2):=fun{x b} h=>by
   have k:Par (JD x) λb=>(b=true↔x.2.1=1\/x.2.1=2):=by unfold JD;exact .eqf (λc=>.some ⟨λd=>.inr (oN.1 d),λd=>oN.2 (d.resolve_left c)⟩) λc=>.some ⟨λ_=>.inl c,λ_=>rfl⟩
   exact k _ h
  refine .lt (λci=>.bind λx C=>.bind λb Q=>.nof (λP=>.ltf (λc1=>.gtf (λK=>.ltf (λc3=>.gt (λc4=>.some ⟨rfl,rfl,rfl,rfl,rfl,rfl,skip C (M λq=>by omega)⟩) λc4=>?_) λc3=>.some ⟨rfl,rfl,rfl,rfl,rfl,rfl,skip C (M λq=>by omega)⟩) λK=>.some ⟨rfl,rfl,rfl,rfl,rfl,rfl,skip C (M λq=>by unfold aZ at q;omega)⟩) λc1=>.some ⟨rfl,rfl,rfl,rfl,rfl,rfl,skip C (M λq=>by unfold aZ at q;omega)⟩) λP=>.some ⟨rfl,rfl,rfl,rfl,rfl,rfl,skip C (M λq=>by rw[(T Q).2 q.1]at P;cases P)⟩) λci=>.map (.ite (λc=>by cases c) λ_=>?_);obtain⟨Z,Y,q3⟩:=nx C;have a6:inB w A n g x=true:=Cj.2 ⟨(T Q).1 P,by unfold aZ;omega,by omega,by omega⟩;obtain⟨s1,s2,s3⟩:=As ((hd.sublist (List.take_sublist i r)).sublist (List.filter_sublist (p:=inB w A n g)));have a2: ∀z∈srt ((r.take i).filter (inB w A n g)),z.1≠x.1:=λz O=>by
   have O:=(List.mem_filter.1 ((s2 z).1 O)).1;obtain⟨j,R⟩:=lA.1 O;rw[gg]at R;split at R;rename_i a4;obtain⟨la,rfl⟩:=cB.1 R;obtain⟨lb,rfl⟩:=cB.1 q3;exact List.pairwise_iff_getElem.1 hd j i la lb a4;cases R
  have hlen:J0 (srt ((r.take i).filter (inB w A n g)))<=8192:=by have:=List.length_filter_le (inB w A n g) (r.take i);rw[nS]at this;unfold J0 at*;omega
  refine .while (λz=>z.1=r/\z.2.1=w/\z.2.2.1=A/\z.2.2.2.1=n/\z.2.2.2.2.1=g/\z.2.2.2.2.2.1=false/\z.2.2.2.2.2.2.1=(i:Int)/\z.2.2.2.2.2.2.2.2.2=((w,A,n,g,J,srt ((r.take i).filter (inB w A n g))),x)) ⟨rfl,rfl,rfl,rfl,rfl,rfl,rfl,rfl⟩ ?_;rintro⟨l3,f3,t3,S,U,tw,i3,k,r3,r4,x3⟩ ⟨h1,h2,F,H,G,E,N,I⟩
  (try dsimp only at h1 h2 F H G E N I)
  injection I with I h10;subst h1 h2 F H G E N I h10;unfold fj;dsimp only;refine .lt (λ_=>.itf (λ_=>.bind λz O=>.eq (λc=>absurd c (a2 z (zQ5 (fO O).2))) λ_=>.some ⟨rfl,rfl,rfl,rfl,rfl,rfl,rfl,rfl⟩) λc=>by cases c) λ_=>.map (.bind λak a3=>.some ⟨rfl,rfl,rfl,rfl,rfl,rfl,i+1,?_,Y,?_⟩);unfold J0 at hl;dsimp only;omega;obtain⟨y',e',d'⟩:=JJk (l:=srt ((l3.take i).filter (inB f3 t3 S U))) (e:=x3) (by omega);rw[a3]at e';injection e' with e';subst e';dsimp only;rw[d',Z,List.filter_append];rw[show List.filter (inB f3 t3 S U) [x3]=[x3] by simp[a6],Bv];have D:i=r.length:=by unfold J0 at ci;omega
  have hs:srt ((r.take i).filter (inB w A n g))=sel r w A n g:=by rw[D,List.take_length];rfl
  dsimp only;rw[hs];unfold mkO;refine .gt (λc=>.some (by rw[if_pos (by omega)])) λc=>.bind λv hv=>.not (λK=>.some ?_) λK=>.some ?_;rw[if_neg (by omega),hv,K];rfl;rw[if_neg (by omega),hv,K];rfl
 exact a5 _ e
end Go.Am
end
section
namespace Go.Am
set_option linter.unusedVariables false
set_option maxRecDepth 20000
set_option maxHeartbeats 1000000
theorem JCT{σ ρ α:Type}{L:σ->Option (σ⊕ρ)}{z:σ}{o:Option α}{k:α->σ}(h:L z=o.bind λy=>some (.inl (k y))):J4 L z=o.bind λy=>J4 L (k y):=by
 cases o with
 |none=>exact JCs h
 |some y=>exact gV h
theorem Yo(a b:Int):vat (bE (bE (Vector.replicate 2 0) 0 a) 1 b) (Int.toNat 0)=some a:=by simp[vat,bE]
theorem Yt(a b:Int):vat (bE (bE (Vector.replicate 2 0) 0 a) 1 b) (Int.toNat 1)=some b:=by simp[vat,bE]
theorem BZ{s:List UInt8}{vs:List (Vector Int 2)}{n i:Int}{r:JZ}{a b:Int}(hi:i<n)(hx:idx vs i=some (bE (bE (Vector.replicate 2 0) 0 a) 1 b)):
  J4 DB (s,vs,n,i,r)=(eW (s,a,b)).bind λy=>J4 DB (y,vs,n,J1 .i64 i 1,r):=by
 refine JCT ?_;unfold DB;dsimp only;rw[gU.2 hi,hx];simp only[if_true,JL,Yo,Yt];rfl
theorem JG4(r:JZ):uY r=(eW ([80,77,82,78],r.1,8)).bind λa=>(eW (a,r.2.1,8)).bind λa=>(eW (a,r.2.2.1,4)).bind λa=>(eW (a,r.2.2.2.1,4)).bind λa=>
  (eW (a,r.2.2.2.2.1,1)).bind λa=>eW (a,J0 r.2.2.2.2.2,4):=by
 have e:uY r=J4 DB ([80,77,82,78],[bE (bE (Vector.replicate 2 0) 0 r.1) 1 8,bE (bE (Vector.replicate 2 0) 0 r.2.1) 1 8,bE (bE (Vector.replicate 2 0) 0 r.2.2.1) 1 4,bE (bE (Vector.replicate 2 0) 0 r.2.2.2.1) 1 4,bE (bE (Vector.replicate 2 0) 0 r.2.2.2.2.1) 1 1,bE (bE (Vector.replicate 2 0) 0 (J0 r.2.2.2.2.2)) 1 4],6,0,r):=rfl;rw[e];rw[BZ (show(0:Int)<6 by decide) rfl];refine congrArg (Option.bind _) (funext λa=>?_);rw[show J1 .i64 0 1=1 from rfl,BZ (show(1:Int)<6 by decide) rfl];refine congrArg (Option.bind _) (funext λa=>?_);rw[show J1 .i64 1 1=2 from rfl,BZ (show(2:Int)<6 by decide) rfl];refine congrArg (Option.bind _) (funext λa=>?_);rw[show J1 .i64 2 1=3 from rfl,BZ (show(3:Int)<6 by decide) rfl];refine congrArg (Option.bind _) (funext λa=>?_);rw[show J1 .i64 3 1=4 from rfl,BZ (show(4:Int)<6 by decide) rfl];refine congrArg (Option.bind _) (funext λa=>?_);rw[show J1 .i64 4 1=5 from rfl,BZ (show(5:Int)<6 by decide) rfl];cases eW (a,J0 r.2.2.2.2.2,4)with
 |none=>rfl
 |some y=>refine eH ?_;unfold DB;rfl
theorem vR{s:List UInt8}{a b:Int}(ha:aB 0 1073741824 (.i .i64) a)(hs:J0 s<=1000)(h1:1<=b)(h2:b<=8):Tot (eW (s,a,b)) λy=>J0 y=J0 s+b:=
 (pt (B:=0) (S:=1073741824) (X:=(s,a,b)) ⟨by show J0 s<=1073741824;omega,ha,by show IntKind.i64.min<=b/\b<=IntKind.i64.max;have e:IntKind.i64.min= -9223372036854775808:=rfl;have g:IntKind.i64.max=9223372036854775807:=rfl;omega⟩).mono λy h=>h.2.2 h1 h2
theorem JCa{l:List UInt8}(hl:J0 l<=8392):Tot (lQ l) λy=>J0 y=J0 l+8:=by
 unfold lQ;have r:=Jd (l:=l);refine .gt (λc=>absurd c (by omega)) λ_=>.bind (vR (s:=[]) (by show IntKind.i64.min<=J0 l/\J0 l<=IntKind.i64.max;have n:IntKind.i64.min= -9223372036854775808:=rfl;have o:IntKind.i64.max=9223372036854775807:=rfl;omega) (by decide) (by decide) (by decide)) λa g=>?_;have g:J0 a=4:=g;obtain⟨c,e,hc⟩: ∃c,eC a l=some c/\J0 c=J0 a+J0 l:=by refine⟨a++l,?_,by unfold J0;simp⟩;unfold eC;unfold J0 at g hl;rw[if_pos (by omega)]
 refine .same e (.bind (JA5 (B:=0) (S:=1073741824) (X:=c) (by show J0 c<=1073741824;omega)) λu k=>?_);have k:IntKind.u32.min<=u/\u<=IntKind.u32.max:=k;have n:IntKind.u32.min=0:=rfl;have o:IntKind.u32.max=4294967295:=rfl;have j:aX .i64 u=u:=by have:=FG u;omega
 refine .bind (P:=λy=>J0 y=J0 l+8) ?_ λy h=>.some h;exact(pt (B:=0) (S:=1073741824) (X:=(c,aX .i64 u,4)) ⟨by show J0 c<=1073741824;omega,by rw[j];show IntKind.i64.min<=u/\u<=IntKind.i64.max;have v:IntKind.i64.min= -9223372036854775808:=rfl;have q:IntKind.i64.max=9223372036854775807:=rfl;omega,aG 4⟩).mono λy h=>by have:=h.2.2 (show(1:Int)<=4 by decide) (show(4:Int)<=8 by decide);show J0 y=J0 l+8;have this:J0 y=J0 c+4:=this;omega
theorem Ar:pK (1,1,0,0,0,[]):=
 ⟨⟨by decide,by decide,by decide,by decide,by decide,by decide,by decide,by decide⟩,by decide,λj e h=>by simp at h,λe h=>by simp at h,λj a b h=>by simp at h⟩
theorem JIl:TH ()=some true:=by
 have g:aB 0 1073741824 (.i .i64) 0:=by show IntKind.i64.min<=0/\0<=IntKind.i64.max;decide
 have j:aB 0 1073741824 (.i .i64) 1:=by show IntKind.i64.min<=1/\1<=IntKind.i64.max;decide
 have k:Tot (uY (1,1,0,0,0,[])) λy=>J0 y=33:=by
  rw[JG4];have v:J0 ([80,77,82,78]:List UInt8)=4:=rfl;exact .bind (vR j (by omega) (by decide) (by decide)) λa z=>.bind (vR j (by omega) (by decide) (by decide)) λb q=>.bind (vR g (by omega) (by decide) (by decide)) λc hc=>.bind (vR g (by omega) (by decide) (by decide)) λd hd=>
   .bind (vR g (by omega) (by decide) (by decide)) λe w=>(vR g (by omega) (by decide) (by decide)).mono λf r=>by omega
 obtain⟨h,o,h1⟩:=k;obtain⟨f,n,h2⟩:=JCa (l:=h) (by omega);have en:CY (1,1,0,0,0,[])=some (f,0):=by show GB iS uY lQ sW (λx=>x.2.2.2.2.2) ((1,1,0,0,0,[]):JZ)=some (f,0);unfold GB;rw[fl Ar];simp only[JL,if_true];rw[o];simp only[JL];rw[n];simp only[JL];rw[if_pos (by unfold J0 at h2 h1;omega)];rfl
 unfold TH;rw[en];simp only[JL];rw[if_pos (by rfl),if_pos (by rw[h2,h1];rfl),fl Ar];rfl
end Go.Am
end
section
namespace Go.Am
set_option linter.unusedVariables false
set_option maxRecDepth 20000
set_option maxHeartbeats 1000000
theorem JHR{l:List Int}{y:JC}(e:sJ (l,400)=some y):y.2=0/\J0 y.1<=400:=by
 have h:Par (sJ (l,400)) λy=>y.2=0/\J0 y.1<=400:=(by unfold sJ;dsimp only;refine .gt (λc=>.bind λa g=>.some ⟨rfl,?_⟩) λc=>.some ⟨rfl,by show J0 l<=400;omega⟩;obtain⟨r,j,_,h2⟩:=zZ (l:=l) (k:=400) (by decide) (by omega);rw[j]at g;injection g with g;subst g;show J0 r<=400;omega);exact h _ e
theorem JE3{x0:List Int}{y:JC}(w0:Ty.inR (.l (.i .u8)) x0)(h:sJ (x0,400)=some y):aB 16384 1073741824 J7 y/\0<=y.2:=by
 have j:aB (J0 x0) 0 (.l (.i .u8)) x0:=⟨aV _,λa e=>by have:=w0.2 a e;rw[MH];simpa[Ty.inR,IntKind.min,IntKind.max,IntKind.signed,IntKind.bits]using this⟩;have k:0<=J0 x0:=Jd;have g:=(pd (B:=J0 x0) (S:=0) (X:=(x0,400)) ⟨j,pU .i64 400⟩ (show(0:Int)<=400 by decide)).get h;obtain⟨n,o⟩:=JHR h;exact⟨⟨⟨by show J0 y.1<=16384;omega,λa e=>g.1.1.2 a e⟩,g.1.2⟩,by omega⟩
theorem JEp{x0:List Int}(w0:Ty.inR (.l (.i .u8)) x0):Tot (sJ (x0,400)) λy=>aB 16384 1073741824 J7 y/\0<=y.2:=by
 have g:aB (J0 x0) 0 (.l (.i .u8)) x0:=⟨aV _,λa h=>by have:=w0.2 a h;rw[MH];simpa[Ty.inR,IntKind.min,IntKind.max,IntKind.signed,IntKind.bits]using this⟩;have j:0<=J0 x0:=Jd;obtain⟨y,e,_⟩:=pd (B:=J0 x0) (S:=0) (X:=(x0,400)) ⟨g,pU .i64 400⟩ (show(0:Int)<=400 by decide);exact⟨y,e,JE3 w0 e⟩
theorem JJY{l:JX}(h:dG l=some true):(1<=l.1/\l.1<=1099511627776)/\J0 l.2.1<=4096/\ ∀(i:Nat) e,l.2.1[i]?=some e->e.1=l.1+i/\JF e=some true:=by
 have x:Par (dG l) λy=>y=true->(1<=l.1/\l.1<=1099511627776)/\J0 l.2.1<=4096/\ ∀(i:Nat) e,l.2.1[i]?=some e->e.1=l.1+i/\JF e=some true:=by
  unfold dG;refine .ltf (λE=>.gtf (λF=>.gtf (λG=>.ltf (λP=>.bind λQ _=>.gt (λ_=>.some nofun) λ_=>?_) λ_=>.some nofun) λ_=>.some nofun) λ_=>.some nofun) λ_=>.some nofun;have hL:J0 l.2.1=l.2.1.length:=rfl;refine .while (λz=>z.2=l/\0<=z.1/\z.1<=J0 l.2.1/\ ∀(i:Nat) e,(i:Int)<z.1->l.2.1[i]?=some e->e.1=l.1+i/\JF e=some true) ⟨rfl,aV _,by show(0:Int)<=_;omega,λi e hi=>by omega⟩ ?_;rintro⟨i,g⟩ ⟨rfl,B,h1,h2⟩;have L:J0 g.2.1=g.2.1.length:=rfl;have J: ¬g.1<1:=E;have K: ¬(1099511627776:Int)<g.1:=F;have M: ¬(4096:Int)<J0 g.2.1:=G;unfold UR;refine .lt (λq=>.bind λA r=>.nef (λC=>.bind λN n=>.bind λO H=>.not (λ_=>.some nofun) λD=>.some ?_) λ_=>.some nofun) λq=>.some λ_=>⟨⟨by omega,by omega⟩,by omega,λj e o=>h2 j e (by have:j<g.2.1.length:=(cB.1 o).1;simp only at q h1⊢;omega) o⟩;simp only at B h1 h2 q C r n;have S:=Jl g.1 i;have R:=Jl i 1;rw[r]at n;injection n with n;subst n;refine⟨rfl,by show 0<=J1 .i64 i 1;omega,by show J1 .i64 i 1<=J0 g.2.1;omega,λj e I o=>?_⟩;by_cases v:(j:Int)<i;exact h2 j e v o;have w:(j:Int)=i:=(by have:(j:Int)<J1 .i64 i 1:=I;omega);have k:g.2.1[j]?=some A:=by have:idx g.2.1 i=some A:=r;unfold idx at this;rw[if_pos B]at this;rw[<-this,<-w];rfl
  rw[o]at k;injection k with k;subst k D;exact⟨by show e.1=g.1+j;omega,H⟩
 exact x _ h rfl
def tU(es:List aA):Prop:=J0 es<=4096/\ ∃F:Int,∀(i:Nat) e,es[i]?=some e->e.1=F+i/\JF e=some true
theorem JC7{x y:jE}(h:lP x=some y):tU y.1.2.1:=by
 have g:Par (lP x) λy=>tU y.1.2.1:=by unfold lP;have z:tU ([]:List aA):=⟨by decide,0,λi e j=>by simp at j⟩;refine .bind λv k=>.not (λ_=>.some z) λc=>.bind λo _=>.gt (λ_=>.some z) λ_=>.some ?_;subst c;obtain⟨_,h2,n⟩:=JJY k;exact⟨h2,_,n⟩
 exact g _ h
theorem I4{x:jY}{y:Int×JX×JC}(h:xQ x=some y):tU y.2.1.2.1:=by
 have e:Par (xQ x) λy=>tU y.2.1.2.1:=by unfold xQ;exact .bind λk _=>.bind λj _=>.bind λn g=>.some (JC7 g)
 exact e _ h
theorem tU.ne{l:List aA}(h:tU l){i j:Nat}{a b:aA}(ha:l[i]?=some a)(hb:l[j]?=some b)(hij:i≠j):a.1≠b.1:=by obtain⟨_,F,e⟩:=h;have:=(e i a ha).1;have:=(e j b hb).1;omega
theorem JGh{l:List aA}{f t lo hi lv:Int}(hn:jS (f,t,lo,hi,lv)=some false):xT (l,f,t,lo,hi,lv)=some ((0,0,0,0,0,[]),1)/\qL (l,f,t,lo,hi,lv)=some ((0,0,0,0,0,[]),1):=by
 obtain⟨b,b1,b2⟩:=WW f t lo hi lv [];rw[hn]at b1;injection b1 with b1;subst b1;constructor;unfold xT;dsimp only;rw[b2];rfl;unfold qL;dsimp only;rw[hn];rfl
theorem JJ8{f t lo hi lv:Int}{es:List aA}{y:pN}(h:mkO f t lo hi lv es=some y):J0 (ent y.1)<=4096:=by
 unfold mkO at h;split at h;injection h with h;subst h;show J0 ([]:List aA)<=4096;decide;obtain⟨v,_,h⟩:=bG.1 h;split at h;injection h with h;subst h;show J0 es<=4096;omega;injection h with h;subst h;show J0 ([]:List aA)<=4096;decide
theorem JEC{l:List aA}{f t lo hi lv:Int}(hv: ∀x∈l,JF x=some true)(hf: ∀x∈l,aB 16384 9223372036854775807 J3 x)(hl:J0 l<=8192)
  (hd:l.Pairwise λx y=>x.1≠y.1) (hr:SJ (f,t,lo,hi,lv,[])): ∃y,xT (l,f,t,lo,hi,lv)=some y/\qL (l,f,t,lo,hi,lv)=some y/\CX (y.1,y.1)=some true:=by
 obtain⟨b,b1,_⟩:=WW f t lo hi lv [];cases b with
 |false=>obtain⟨h1,h2⟩:=JGh (l:=l) b1;exact⟨_,h1,h2,mr (by show J0 ([]:List aA)<=4096;decide)⟩
 |true=>
  obtain⟨y,e,j⟩:=JFX (λx k=>(JKW x).trans (hv x k)) hf hl b1 hd hr;obtain⟨z,h,_⟩:=Kw (B:=16384) (S:=9223372036854775807) (X:=(l,f,t,lo,hi,lv)) ⟨⟨by show J0 l<=16384;omega,hf⟩,hr.1,hr.2.1,hr.2.2.1,hr.2.2.2.1,hr.2.2.2.2.1⟩;have g:=JHw hv hl b1 hd h;rw[j]at g;injection g with g;subst g;exact⟨y,e,h,mr (JJ8 j)⟩
end Go.Am
end
section
namespace Go.Am
set_option linter.unusedVariables false
set_option maxRecDepth 20000
set_option maxHeartbeats 1000000
theorem xM{c:JC}{n:Int}(hn:aB 16384 1073741824 (.i .i64) n)(h:aB 16384 1073741824 J7 c)(h0:0<=c.2):Tot (Ji (n,c)) λy=>(0<=y.1/\(1<=n->y.1<n))/\aB 16384 1073741824 J7 y.2/\0<=y.2.2:=
 (Jq (B:=16384) (S:=1073741824) (X:=(n,c)) ⟨hn,h⟩ h0).mono λy h=>⟨⟨h.2.1,h.2.2.1⟩,h.1.2,h.2.2.2⟩
theorem fk'{n:Int}(h: -9223372036854775808<=n/\n<=9223372036854775807){B S:Int}:aB B S (.i .i64) n:=h
def Z6(l e:List aA)(i:Int):Prop:=J0 e<=i/\(∀x∈e,x∈l.take i.toNat)/\e.Pairwise λx y=>x.1≠y.1
theorem Wt{x0:List Int}(w0:Ty.inR (.l (.i .u8)) x0):VF x0=some true:=by
 have ai:Tot (VF x0) λy=>y=true:=by
  unfold VF;refine .bind (cU JIl) λy2 N=>.not (λc=>by rw[N]at c;cases c) λ_=>.bind (JEp w0) λy3 h3=>.bind ((JDf (B:=16384) (S:=1073741824) (X:=(25,y3)) ⟨aG 25,h3.1⟩ h3.2 (show(0:Int)<=25 by decide) (show(25:Int)<=1000 by decide)).eqn) λy4 h4=>?_;obtain⟨ao,v,c⟩:=y4;obtain⟨⟨⟨_,ad,af⟩,R⟩,h4⟩:=h4;have R:0<=c.2:=R;have hE:tU v.2.1:=I4 h4;have b8:J0 v.2.1<=4096:=hE.1;dsimp only;refine Jj (τ:=List aA×jY) (λq=>(q.1,q.2.1,q.2.2,v)) (λq=>0<=q.2.1/\q.2.1<=J0 v.2.1/\Z6 v.2.1 q.1 q.2.1/\aB 16384 1073741824 J7 q.2.2/\0<=q.2.2.2) (λq=>J0 v.2.1-q.2.1) ?_ ([],0,c) rfl
   ⟨aV _,Jd,⟨(show J0 ([]:List aA)<=0 by decide),λx n=>by simp at n,.nil⟩,af,R⟩
  rintro⟨g,i,d⟩ ⟨h0,h1,⟨m1,M,D⟩,hd,T⟩
  (try dsimp only at h0 h1 m1 M D hd T)
  unfold wu;dsimp only;have o:=Jl i 1;have nn:=Jd (l:=g);refine .lt (λci=>?_) λci=>.map (P:=λy=>y=true) ?_ λ_ h=>h;have V:J1 .i64 (J0 g) 1=J0 g+1:=by have:=Jl (J0 g) 1;omega
  rw[V];refine .bind (xM (fk' (by omega)) hd T) λy6 U=>.bind (xM (aG 8) U.2.1 U.2.2) λy7 Y=>?_;have hk:=U.1.2 (by omega);have tk: ∀{x},x∈v.2.1.take i.toNat->x∈v.2.1.take (J1 .i64 i 1).toNat:=fun{x} n=>by rw[show(J1 .i64 i 1).toNat=i.toNat+1 by omega];exact(List.take_sublist_take_left (by omega)).subset n
  refine .gt (λ_=>?_) λ_=>.some ⟨(g,J1 .i64 i 1,y7.2),rfl,⟨om,om,⟨om,λx n=>tk (M x n),D⟩,Y.2.1,Y.2.2⟩,om,om⟩;obtain⟨p,V,W,q1⟩:=zZ (l:=g) (k:=y6.1) U.1.1 (by omega);obtain⟨r,e2,N,q2⟩:=GT (l:=g) (k:=y6.1) U.1.1 (by omega);obtain⟨x,ex,qx⟩:=jG h0 ci;have lp:p.length<=g.length:=by rw[W,nS];omega
  have lr:p.length+r.length=g.length:=by rw[W,N,nS,qZ];unfold J0 at hk;omega
  have ls:((g.length:Nat):Int)=J0 g:=rfl;refine .same V (.same (JJS (by unfold J0;omega)) (.same ex (.same (GS (bytes:=128) (l:=p) (m:=[x]) (by unfold J0;simp;omega) (by decide)) (.same e2 (.same (GS (bytes:=128) (l:=p++[x]) (m:=r) (by unfold J0;simp;omega) (by decide))
   (.some ⟨(p++[x]++r,J1 .i64 i 1,y7.2),rfl,⟨om,om,⟨?_,λz w=>?_,?_⟩,Y.2.1,Y.2.2⟩,om,om⟩))))))
  show J0 (p++[x]++r)<=J1 .i64 i 1;unfold J0 at m1⊢;simp only[eM,List.length_singleton];omega;have w:z∈p\/z=x\/z∈r:=by simpa[or_assoc]using w
  rcases w with w|rfl|w;rw[W]at w;exact tk (M z (DX w));show z∈v.2.1.take (J1 .i64 i 1).toNat;rw[show(J1 .i64 i 1).toNat=i.toNat+1 by omega,List.take_add_one,qx];simp;rw[N]at w;exact tk (M z (zQ7 w));have n: ∀z∈g,z.1≠x.1:=λz w=>by
   obtain⟨j,L⟩:=lA.1 (M z w);rw[gg]at L;split at L;exact hE.ne L qx (by omega);cases L
  have O:p++r=g:=by rw[W,N];exact lB _ _
  rw[<-O,List.pairwise_append]at D;rw[mL,List.singleton_append,List.pairwise_append,List.pairwise_cons];refine⟨D.1,⟨λz w h=>n z (by rw[<-O];simp[w]) h.symm,D.2.1⟩,λa ha b hb=>?_⟩;rcases bZ.1 hb with rfl|hb;exact n a (by rw[<-O];simp[ha]);exact D.2.2 a ha b hb;refine .bind (xM (aG 12) hd T) λA E=>.bind (xM (aG 3) E.2.1 E.2.2) λC G=>.bind (xM (aG 30) G.2.1 G.2.2) λK H=>.bind (xM (aG 4) H.2.1 H.2.2) λJ I=>.bind (xM (aG 10) I.2.1 I.2.2) λQ Z=>?_;have a1:=E.1.2 (by decide);have a2:=G.1.2 (by decide);have a3:=H.1.2 (by decide);have a4:=I.1.2 (by decide);have a5:=Z.1.2 (by decide);have b1:=E.1.1;have b2:=G.1.1;have b3:=H.1.1;have b4:=I.1.1;have b5:=Z.1.1;have o1:=Jl 1 A.1;have o2:=Jl (J1 .i64 1 A.1) K.1;have o3:=Jl C.1 J.1;have a0: ∀x∈g,x∈v.2.1:=λx n=>DX (M x n);have a9: ∀x∈g,JF x=some true:=λx n=>by obtain⟨j,L⟩:=lA.1 (a0 x n);obtain⟨_,F,hF⟩:=hE;exact(hF j x L).2
  have a8: ∀x∈g,aB 16384 9223372036854775807 J3 x:=λx n=>Ty.fit.up (by decide) (by decide) (ad.2.1.2 x (a0 x n));have r1: -9223372036854775808<=J1 .i64 1 A.1/\J1 .i64 1 A.1<=9223372036854775807:=by omega
  have r2: -9223372036854775808<=J1 .i64 (J1 .i64 1 A.1) K.1/\J1 .i64 (J1 .i64 1 A.1) K.1<=9223372036854775807:=by omega
  have r3: -9223372036854775808<=C.1/\C.1<=9223372036854775807:=by omega
  have r4: -9223372036854775808<=J1 .i64 C.1 J.1/\J1 .i64 C.1 J.1<=9223372036854775807:=by omega
  have r5: -9223372036854775808<=Q.1/\Q.1<=9223372036854775807:=by omega
  obtain⟨y,V,e2,e3⟩:=JEC (f:=J1 .i64 1 A.1) (t:=J1 .i64 (J1 .i64 1 A.1) K.1) (lo:=C.1) (hi:=J1 .i64 C.1 J.1) (lv:=Q.1) a9 a8 (by omega) D
   ⟨fk' r1,fk' r2,fk' r3,fk' r4,fk' r5,(show J0 ([]:List aA)<=16384 by decide),λx n=>absurd n List.not_mem_nil⟩
  exact .same V (.same e2 (.eq (λ_=>.same e3 (.some rfl)) λc=>absurd rfl c))
 obtain⟨y,e,rfl⟩:=ai;exact e
end Go.Am
end
section
namespace Go.Am
set_option maxRecDepth 20000
def zH{α:Type}(f:FuncId):List (FuncId×α)->Option α|[]=>none|(g,a)::r=>if f=g then some a else zH f r
noncomputable def jt:List (FuncId×AFn):=[(21,aK kg),(10,aK JC3),(88,aK Te),(127,aK Xy),(126,aK Ss),(107,aK R0),(106,aK Kt),(105,aK V5),(108,aK Wh),(109,aK Wa),(89,aK Pw),(52,aK O2),(93,aK Uv),(59,aK W1),(65,aK Hw),(30,aK Sd),(51,aK Tu),(90,aK Ul),(53,aK O0),(19,aK Kq),(39,aK Gb),(103,aK Xf),(73,aK Gf),(38,aK Of)]
noncomputable def jh:List (FuncId×AFn):=[(74,aK Gz),(40,aK Tm),(9,aK L6),(70,aK W9),(35,aK Vq),(148,aK Xr),(125,aK Wo),(100,aK Yk),(138,aK Tl),(123,aK Fu),(137,aK Gw),(135,aK E3),(136,aK Ek),(122,aK Eg),(98,aK Ep),(97,aK Sq),(134,aK Wy),(121,aK Mh),(96,aK Mb),(63,aK Oi),(68,aK Io),(67,aK Py),(33,aK O3),(34,aK Lt)]
noncomputable def ka:List (FuncId×AFn):=[(147,aK Sr),(238,aK Pk),(193,aK Oq),(194,aK Lu),(163,aK Pz),(181,aK Mt),(249,aK Wf),(264,aK Mu),(265,aK Ku),(266,aK I5),(223,aK M5),(252,aK O5),(251,aK Vd),(201,aK Nz),(169,aK L1),(267,aK E4),(224,aK P8),(225,aK Xz),(180,aK Ow),(159,aK M6),(151,aK M7),(139,aK Pc),(24,aK Un),(214,aK Ta)]
noncomputable def ji:List (FuncId×AFn):=[(215,aK JA0),(260,aK Gy),(217,aK Hm),(213,aK K7),(257,aK T7),(258,aK D6),(259,aK Tk),(216,aK Ll),(170,aK Kl),(154,aK Ky),(167,aK Gs),(184,aK Ht),(176,aK Gg),(75,aK Dx),(212,aK Sc),(256,aK U9),(211,aK Sf),(210,aK Pi),(175,aK Sm),(209,aK Pf),(174,aK JDk),(156,aK Lc),(143,aK Xx),(168,aK Pm)]
noncomputable def jr:List (FuncId×AFn):=[(153,aK Oz),(76,aK Fs),(202,aK O4),(203,aK L7),(171,aK Rf),(205,aK Iz),(254,aK Tt),(206,aK Ou),(287,aK Pq),(253,aK Ni),(204,aK Sh),(207,aK Ka),(172,aK Mf),(255,aK Ew),(208,aK N6),(173,aK Tz),(155,aK Ml),(142,aK N3),(232,aK G6),(274,aK F2),(275,aK I8),(231,aK Ua),(190,aK Tw),(189,aK U6)]
noncomputable def jo:List (FuncId×AFn):=[(191,aK Hh),(234,aK Me),(233,aK U1),(237,aK G5),(276,aK Qy),(235,aK Gu),(277,aK JCZ),(236,aK Ud),(192,aK Hq),(162,aK K3),(188,aK Rh),(161,aK Hu),(227,aK Em),(183,aK H7),(84,aK Ft),(291,aK Pv),(270,aK Rr),(271,aK Fm),(228,aK Wb),(185,aK Mn),(230,aK Gd),(187,aK Rj),(273,aK Oh),(295,aK O1)]
noncomputable def iw:List (FuncId×AFn):=[(292,aK Ko),(272,aK Md),(229,aK Hx),(186,aK Kf),(269,aK Lx),(268,aK S4),(226,aK Ip),(182,aK Hy),(160,aK Qo),(146,aK It),(144,aK Tp),(198,aK V0),(250,aK I3),(199,aK Ei),(165,aK Vw),(282,aK Po),(245,aK U8),(284,aK T4),(285,aK fh),(247,aK Qg),(281,aK R3),(243,aK K4),(242,aK Lb),(286,aK Np)]
noncomputable def j5:List (FuncId×AFn):=[(248,aK Gx),(283,aK JA2),(246,aK Tc),(240,aK Su),(279,aK Qs),(280,aK Tv),(241,aK Ol),(244,aK F0),(278,aK Tb),(239,aK Vi),(195,aK JC0),(196,aK Ts),(197,aK Vv),(164,aK JDx),(200,aK Kp),(166,aK Hp),(152,aK JBY),(141,aK X4),(177,aK Hl),(42,aK Nk),(77,aK Lg),(44,aK Sz),(219,aK Mv),(218,aK Ig)]
noncomputable def jp:List (FuncId×AFn):=[(178,aK Pd),(157,aK Nw),(48,aK Uk),(87,aK X2),(85,aK Yi),(86,aK Xv),(50,aK Qq),(220,aK Kj),(294,aK Lm),(290,aK Kg),(263,aK N1),(297,aK Th),(298,aK Yd),(299,aK Xo),(296,aK Tf),(293,aK Q2),(288,aK Qz),(261,aK Pl),(289,aK L9),(262,aK F7),(221,aK Vg),(222,aK Pb),(179,aK Lv),(158,aK Hg)]
noncomputable def jb:List (FuncId×AFn):=[(145,aK Yn),(140,aK Yb),(124,aK Yj),(99,aK Dw),(66,aK X6),(32,aK Xw),(11,aK JCd),(31,aK Uo),(64,aK Re),(62,aK Tq),(27,aK P1),(23,aK Ly),(28,aK Xm),(18,aK Fx),(56,aK Rl),(58,aK Sb),(60,aK J8c),(91,aK J7e),(55,aK J6v),(110,aK J6S),(149,aK J8f),(128,aK J9v),(111,aK kl),(92,aK J9F)]
noncomputable def WL:List (FuncId×AFn):=[(57,aK J62),(22,aK JA6),(5,aK Ws),(25,aK Nq),(6,aK Wj)]
noncomputable def fns:List (FuncId×AFn):=jt++(jh++(ka++(ji++(jr++(jo++(iw++(j5++(jp++(jb++(WL))))))))))
noncomputable def fks:List (FuncId×nO):=[]
noncomputable def fps:List (FuncId×Prm):=[(72,JBT),(61,Jjr 13 30 (JeN J3 J7h) (cel J3) J6e)]
abbrev PS:=FuncId->Option (List AV->List Blk->Option Res)
noncomputable def rH(p:PS):cW:=λf=>yr (zH f fns) (zH f fks) (zH f fps) (p f)
def AE(l:List TE):Prop:= ∀p,rJ (AF (rH p)) l
theorem ae0:AE []:=λ_=>trivial
theorem zG{i g S l f}(hf: ∀p,rH p i=some (.fn (aK f)))(A:AE l)(q: ∀x,onO (gL g x) (λy=>kW (TG.of l) f y.1 y.2 (hJ g))=S x)(hs:BQ g=true:=by rfl):AE (aF i g S::l):=λp=>⟨jv (hf p) (A p) hs q,A p⟩
end Go.Am
end
