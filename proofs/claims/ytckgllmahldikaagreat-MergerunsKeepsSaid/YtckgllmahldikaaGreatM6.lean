/-
  Parts of a proof.
-/
import Derived.Test.YtckgllmahldikaaGreatM3
import Derived.Test.YtckgllmahldikaaGreatM4
import Derived.Test.YtckgllmahldikaaGreatM5
set_option linter.unusedSimpArgs false
set_option linter.unusedVariables false
set_option linter.unusedSectionVars false
set_option maxRecDepth 20000
set_option maxHeartbeats 1000000
section
namespace Go.Am
section
variable {B S:Int}
def EF(e:aA):Prop:=1<=e.1/\e.1<=1099511627776/\1<=e.2.2.1/\e.2.2.1<=1073741824/\0<=e.2.2.2.1/\e.2.2.2.1<e.1/\0<=e.2.2.2.2.1/\e.2.2.2.2.1<e.1/\0<=e.2.2.2.2.2.1/\e.2.2.2.2.2.1<e.1/\e.2.2.2.2.2.2.2=[]/\iY e.2.2.2.2.2.2.1=some true/\((e.2.1=1/\e.2.2.2.2.2.1=0)\/(e.2.1=2/\0<e.2.2.2.1/\1<=e.2.2.2.2.2.1/\e.2.2.2.2.2.1<=e.2.2.2.1))
theorem WL{x:Jn}(e:kO x=some true):0<=x.1/\x.1<x.2:=by
 have g:Par (kO x) λy=>y=true->0<=x.1/\x.1<x.2:=.h (λc=>.s λd=>⟨c,Jw.1 d⟩) λ_=>.s nofun
 exact g _ e rfl
theorem EF.of{e:aA}(h:JF e=some true)(hk:e.2.1=1\/e.2.1=2):EF e:=by
 have x:Par (nW e) λy=>y.2=true->y.1=e->1<=e.2.2.1/\e.2.2.1<=1073741824/\e.2.2.2.2.2.2.2=[]/\iY e.2.2.2.2.2.2.1=some true/\((e.2.1=1/\e.2.2.2.2.2.1=0)\/(e.2.1=2/\0<e.2.2.2.1/\1<=e.2.2.2.2.2.1/\e.2.2.2.2.2.1<=e.2.2.2.1)):=by
  unfold nW;refine .e (λk=>.b λH h2=>.e (λg=>by omega) λ_=>.i (λj=>.h (λn=>.s λo L=>?_) λ_=>.s nofun) λ_=>.s nofun) λk=>.e (λg=>.b λH h2=>.e (λ_=>.i (λj=>.g (λR=>.h (λS=>.G (λQ=>.h (λn=>.s λo L=>?_) λ_=>.s nofun) λ_=>.s nofun) λ_=>.s nofun) λ_=>.s nofun) λ_=>.s nofun) λc=>absurd g c) λg=>by omega
  grind [dD];grind [dD]
 have q:Par (JF e) λy=>y=true->EF e:=by unfold JF;refine .b λa M=>.i (λk=>.i (λg=>.h (λn=>.G (λo=>.b λb1 v=>.i (λF=>.b λb2 r=>.i (λj=>.b λP w=>.s λC=>?_) λ_=>.s nofun) λ_=>.s nofun) λ_=>.s nofun) λ_=>.s nofun) λ_=>.s nofun) λ_=>.s nofun;subst F;subst j;subst C;obtain⟨N,O,I,K,J⟩:=x _ M k (eA.1 g);obtain⟨G,D⟩:=WL v;obtain⟨z,B⟩:=WL r;obtain⟨A,E⟩:=WL w;exact⟨n,o,N,O,G,D,z,B,A,E,I,K,J⟩
 exact q _ h rfl
theorem xv{c:gF}(h:JK c=some true):Tot (JK c) λy=>y=true:=by have e:JK c=JK c:=rfl;exact⟨true,e.trans h,rfl⟩
theorem Ba{c:gT}(h:iY c=some true):Tot (vV c) λy=>y=true:=by
 have j:Par (iY c) λy=>y=true->0<=c.1/\c.1<64/\0<=c.2.1/\c.2.1<16/\JK c.2.2.1=some true/\JK c.2.2.2=some true:=by unfold iY;refine .h (λe=>.l (λg=>.h (λk=>.l (λn=>.b λa D=>.i (λA=>.b λb hb=>.s λw=>?_) λ_=>.s nofun) λ_=>.s nofun) λ_=>.s nofun) λ_=>.s nofun) λ_=>.s nofun;simp_all
 obtain⟨e,g,k,n,o,r⟩:=j _ h rfl;unfold vV;have v:Tot (DC c.1) λy=>y=true:=.h (λ_=>.s (Jw.2 g)) λc=>absurd e c
 refine .b v λC d=>.i (λ_=>.h (λ_=>.l (λ_=>.b (xv o) λz x=>.i (λ_=>.b (xv r) λB q=>.s q) λc=>by simp_all) λc=>absurd n c) λc=>absurd k c) λc=>by simp_all
theorem JHg{e:aA}(h:EF e):Tot (pT e) λy=>y=true:=by
 obtain⟨M,N,K,L,B,A,v,r,C,k,g,q,E⟩:=h;have j: ∀{n:Int},0<=n->n<e.1->Tot (rR (n,e)) λy=>y=true:=fun{n} h1 h2=>by unfold rR;exact .h (λ_=>.s (Jw.2 h2)) λc=>absurd h1 c
 have I: ∀{b:Bool} {Q:Prop},b=true->Ji b=true->Q:=fun{b Q} h1 h2=>by subst h1;cases h2
 have hb:neS e.2.2.2.2.2.2.2 []=false:=by rw[g];rfl
 have hl:J0 e.2.2.2.2.2.2.2<=8192:=by rw[g];decide
 unfold pT;refine .j (λ_=>.k (λ_=>.j (λ_=>.k (λ_=>.b (j B A) λJ F=>.r (λ_=>.b (j v r) λH G=>.r (λ_=>.b (j C k) λz o=>.n (λc=>by simp_all) λ_=>?_) λc=>by simp_all) λc=>by simp_all) λc=>by omega) λc=>by omega) λc=>by omega) λc=>by omega
 refine .e (λc=>by omega) λ_=>.e (λc=>by omega) λ_=>.e (λc=>by omega) λ_=>.e (λc=>by omega) λ_=>.e (λc=>by omega) λ_=>.e (λc=>by omega) λ_=>.e (λx=>?_) λx=>.e (λw=>?_) λw=>by omega
 refine .j (λ_=>.g (λc=>by omega) λ_=>.e (λc=>by omega) λ_=>.i (λc=>by simp_all) λ_=>.G (λ_=>?_) λc=>absurd hl c) λc=>by omega
 have D:Tot (mS e) λy=>y=true:=.h (λ_=>.s (dD.2 oo)) λc=>by omega
 exact .b D λy d=>.i (λ_=>.b (Ba q) λz o=>.s o) λc=>by simp_all
 refine .j (λ_=>.g (λc=>by omega) λ_=>.d (λc=>by omega) λ_=>.i (λc=>by simp_all) λ_=>.G (λ_=>?_) λc=>absurd hl c) λc=>by omega
 grind [jA,Ba]
def bL(e:aA):Int:=e.2.2.2.2.2.2.1.1
def xM(r:aC):Prop:=1<=r.1/\r.1<=r.2.1/\r.2.1<=1099511627776/\0<=r.2.2.1/\r.2.2.1<=r.2.2.2.1/\r.2.2.2.1<64/\0<=r.2.2.2.2.1/\r.2.2.2.2.1<=8
def LH(r:aC)(e:aA):Prop:=JF e=some true/\(e.2.1=1\/e.2.1=2)/\r.1<=e.1/\e.1<=r.2.1/\r.2.2.1<=bL e/\bL e<=r.2.2.2.1
def mD(f:Int)(a b:aA):Prop:=(bL a<bL b/\b.2.2.2.2.1<f)\/(bL a=bL b/\a.1<b.1/\b.2.2.2.2.1=a.1)
def cZ(r:aC):Prop:=xM r/\J0 r.2.2.2.2.2<=4096/\(∀(j:Nat) (e:aA),r.2.2.2.2.2[j]?=some e->LH r e)/\(∀e,r.2.2.2.2.2[0]?=some e->e.2.2.2.2.1<r.1)/\ ∀(j:Nat) (a b:aA),r.2.2.2.2.2[j]?=some a->r.2.2.2.2.2[j+1]?=some b->mD r.1 a b
theorem xM.of{r:aC}(h:pU (r.1,r.2.1,r.2.2.1,r.2.2.2.1,r.2.2.2.2.1)=some true):xM r:=by
 have e:Par (pU (r.1,r.2.1,r.2.2.1,r.2.2.2.1,r.2.2.2.2.1)) λy=>y=true->xM r:=.h (λw=>.G (λg=>.G (λj=>.h (λv=>.G (λo=>.l (λq=>.h (λk=>.s λn=>⟨w,g,j,v,o,q,k,dD.1 n⟩) λ_=>.s nofun) λ_=>.s nofun) λ_=>.s nofun) λ_=>.s nofun) λ_=>.s nofun) λ_=>.s nofun) λ_=>.s nofun
 exact e _ h rfl
theorem JHw{e:aA}(h:JI e=some true):e.2.1=1\/e.2.1=2:=by
 grind [JI,fF]
theorem B6{e:aA}(h:e.2.1=1\/e.2.1=2):Tot (JI e) λy=>y=true:=.p (λc=>.s (fF.2 oo)) λ_=>.s rfl
theorem Wf{e:aA}(h:e.2.1=1\/e.2.1=2):Tot (JI e) λy=>y=true:=B6 h
theorem zv{a b:aA}{y:Int}(h:lU (a,b)=some y)(c: ¬0<=y):bL a<bL b\/(bL a=bL b/\a.1<b.1):=by
 have e:Par (lU (a,b)) λy=> ¬0<=y->bL a<bL b\/(bL a=bL b/\a.1<b.1):=.j (λ_=>.e (λj=>.l (λg=>.s λ_=>.inr ⟨j,g⟩) λ_=>.e (λ_=>.e (λ_=>.s λc=>absurd (aY 0) c) λ_=>.s λc=>absurd qQH c) λ_=>.s λc=>absurd qQH c) λ_=>.e (λ_=>.e (λ_=>.s λc=>absurd (aY 0) c) λ_=>.s λc=>absurd qQH c) λ_=>.s λc=>absurd qQH c) λc=>.s λ_=>.inl c
 exact e _ h c
theorem JDs{a b:aA}(h:bL a<bL b\/(bL a=bL b/\a.1<b.1)):Tot (lU (a,b)) λy=> ¬0<=y:=by unfold bL at h;unfold lU;exact .j (λc=>.e (λe=>.l (λg=>.s qQH) λj=>by simp_all) λe=>by simp_all) λc=>.s qQH
theorem cZ.of{r:aC}(h:fG r=some true):cZ r:=by
 have F:Par (fG r) λy=>y=true->cZ r:=by
  unfold fG;refine .b λa g=>.r (λN=>.g (λ_=>.s nofun) λO=>?_) λ_=>.s nofun;subst N;refine .z (λz=>z.2=r/\0<=z.1/\(∀(j:Nat) (e:aA),(j:Int)<z.1->r.2.2.2.2.2[j]?=some e->LH r e)/\(∀e,0<z.1->r.2.2.2.2.2[0]?=some e->e.2.2.2.2.1<r.1)/\ ∀(j:Nat) (a b:aA),(j:Int)+1<z.1->r.2.2.2.2.2[j]?=some a->r.2.2.2.2.2[j+1]?=some b->mD r.1 a b) ⟨rfl,aY _,λj e h=>by grind,λe h=>by simp_all,λj a b h=>by grind⟩ ?_;rintro⟨i,z⟩ ⟨rfl,Q,h1,h2,J⟩;dsimp only at Q h1 h2 J O;unfold er;dsimp only;have o1:=Jg i 1;have Z:=bG i 1;refine .l (λc=>?_) λc=>.s λ_=>⟨xM.of g,by omega,λj e n=>h1 j e (by have:=mB n;omega) n,λe n=>h2 e (by have:=mB n;omega) n,λj a b E C=>J j a b (by have:=mB C;omega) E C⟩;refine .b λe n=>.b λb hb=>.r (λP=>.b λd hd=>.r (λM=>.j (λc5=>.k (λc6=>.j (λW=>.g (λ_=>.s nofun) λV=>?_) λ_=>.s nofun) λ_=>.s nofun) λ_=>.s nofun) λ_=>.s nofun) λ_=>.s nofun;subst P;subst M;obtain⟨_,T⟩:=eS n;have L:LH z e:=⟨hb,JHw hd,by omega,by omega,by grind [bL],by grind [bL]⟩;have nx:(i=0->e.2.2.2.2.1<z.1)->(∀a,0<i->z.2.2.2.2.2[(i-1).toNat]?=some a->mD z.1 a e)->(z=z/\0<=J1 .i64 i 1/\(∀(j:Nat) (e:aA),(j:Int)<J1 .i64 i 1->z.2.2.2.2.2[j]?=some e->LH z e)/\(∀e,0<J1 .i64 i 1->z.2.2.2.2.2[0]?=some e->e.2.2.2.2.1<z.1)/\ ∀(j:Nat) (a b:aA),(j:Int)+1<J1 .i64 i 1->z.2.2.2.2.2[j]?=some a->z.2.2.2.2.2[j+1]?=some b->mD z.1 a b):=by
   intro n1 n2;refine⟨rfl,by omega,λj f R hf=>?_,λf hp hf=>?_,λj a b R g hb=>?_⟩;by_cases hl:(j:Int)<i;grind;have:j=i.toNat:=by omega
   grind;by_cases hi:0<i;grind;have H:i=0:=by omega
   subst H;grind;by_cases hl:(j:Int)+1<i;grind;have e1:j+1=i.toNat:=by omega
   have e2:j=(i-1).toNat:=by omega
   grind
  have x: ∀{a:aA},0<i->idx z.2.2.2.2.2 (Jm .i64 i 1)=some a->z.2.2.2.2.2[(i-1).toNat]?=some a:=fun{a} hi g=>by obtain⟨_,q⟩:=eS g;rw[show(i-1).toNat=(Jm .i64 i 1).toNat by omega];exact q
  have zero: ¬0<i-> ¬z.1<=e.2.2.2.2.1->(z=z/\0<=J1 .i64 i 1/\(∀(j:Nat) (e:aA),(j:Int)<J1 .i64 i 1->z.2.2.2.2.2[j]?=some e->LH z e)/\(∀e,0<J1 .i64 i 1->z.2.2.2.2.2[0]?=some e->e.2.2.2.2.1<z.1)/\ ∀(j:Nat) (a b:aA),(j:Int)+1<J1 .i64 i 1->z.2.2.2.2.2[j]?=some a->z.2.2.2.2.2[j+1]?=some b->mD z.1 a b):=λhi hf=>nx (λ_=>by omega) λa h=>absurd h hi;refine .g (λw=>.b λU B=>.b λY G=>.h (λ_=>.s nofun) λD=>.g (λ_=>.b λy9 k=>.e (λA=>.b λS o=>.d (λ_=>.s nofun) λv=>.s ?_) λA=>.h (λ_=>.s nofun) λv=>.s ?_) λc=>absurd w c) λw=>.g (λc=>absurd c w) λ_=>.h (λ_=>.s nofun) λv=>.s (zero w v);rw[B]at k o;injection k with k;injection o with o;subst k;subst o;refine nx (λh=>by omega) λa _ g=>?_;rw[x w B]at g;injection g with g;subst g;rcases zv G D with q|⟨I,K⟩;grind [bL];exact .inr ⟨A,K,v⟩;rw[B]at k;injection k with k;subst k;refine nx (λh=>by omega) λa _ g=>?_;rw[x w B]at g;injection g with g;subst g;rcases zv G D with q|⟨I,K⟩;exact .inl ⟨q,by omega⟩;exact absurd I A
 exact F _ h rfl
end
section
variable {B S:Int}
theorem kL{α:Type}{l:List α}{i:Int}(h0:0<=i)(h1:i<J0 l): ∃a,idx l i=some a/\l[i.toNat]?=some a:=by simp_all [J0,idx]
theorem JC0{r:aC}(h:xM r):Tot (pU (r.1,r.2.1,r.2.2.1,r.2.2.2.1,r.2.2.2.2.1)) λy=>y=true:=by obtain⟨h1,h2,o,k,n,e,j,g⟩:=h;unfold pU;exact .h (λ_=>.G (λ_=>.G (λ_=>.h (λ_=>.G (λ_=>.l (λ_=>.h (λ_=>.s (dD.2 g)) λc=>absurd j c) λc=>absurd e c) λc=>absurd n c) λc=>absurd k c) λc=>absurd o c) λc=>absurd h2 c) λc=>absurd h1 c
theorem S4{r:aC}(h:xM r):Tot (IR r) λy=>y=true:=by obtain⟨h1,h2,o,k,n,e,j,g⟩:=h;unfold IR;exact .h (λ_=>.G (λ_=>.G (λ_=>.h (λ_=>.G (λ_=>.l (λ_=>.h (λ_=>.s (dD.2 g)) λc=>absurd j c) λc=>absurd e c) λc=>absurd n c) λc=>absurd k c) λc=>absurd o c) λc=>absurd h2 c) λc=>absurd h1 c
theorem cD{α:Type}{o:Option α}{v:α}(h:o=some v):Tot o λy=>y=v:=⟨v,h,rfl⟩
theorem yn{r:aC}(h:cZ r){i:Int}(hi:0<i)(hl:i<J0 r.2.2.2.2.2){a b:aA}(ha:r.2.2.2.2.2[(i-1).toNat]?=some a)(hb:r.2.2.2.2.2[i.toNat]?=some b):mD r.1 a b:=
 h.2.2.2.2 (i-1).toNat a b ha (by rw[show(i-1).toNat+1=i.toNat by omega];exact hb)
theorem Ai{r:aC}(h:cZ r):fG r=some true:=by
 have n:Tot (fG r) λy=>y=true:=by
  obtain⟨L,g2,J,Y,g5⟩:=id h;unfold fG;refine .b (JC0 L) λy2 Q=>.r (λ_=>.g (λc=>by omega) λ_=>?_) λc=>by grind
  refine Jl (τ:=Int) (λq=>(q,r)) (λq=>0<=q/\q<=J0 r.2.2.2.2.2) (λq=>J0 r.2.2.2.2.2-q) ?_ 0 rfl ⟨aY _,J6⟩;rintro i ⟨K,h1⟩;unfold er;dsimp only;have W:=Jg i 1;have U:=bG i 1;refine .l (λc=>?_) λc=>.s rfl;obtain⟨e,N,j⟩:=kL K c;obtain⟨E,B,P,R,z,C⟩:=J _ e j;have nx: ∃c':Int,((J1 .i64 i 1,r):Int×aC)=(c',r)/\(0<=c'/\c'<=J0 r.2.2.2.2.2)/\J0 r.2.2.2.2.2-c'<J0 r.2.2.2.2.2-i/\0<=J0 r.2.2.2.2.2-i:=⟨J1 .i64 i 1,rfl,⟨by omega,by omega⟩,by omega,by omega⟩;unfold bL at z C;refine .b (cD N) λG I=>?_;subst I;refine .b (cD E) λV d5=>.r (λ_=>.b (B6 B) λZ T=>.r (λ_=>.j (λ_=>.k (λ_=>.j (λ_=>.g (λc=>by omega) λ_=>?_) λc=>by omega) λc=>by omega) λc=>by omega) λc=>by grind) λc=>by grind
  refine .g (λg=>?_) λg=>.g (λc=>absurd c g) λ_=>.h (λc=>?_) λ_=>.s nx
  ·have M:Jm .i64 i 1=i-1:=by omega
   rw[M];obtain⟨a,k,v⟩:=kL (l:=r.2.2.2.2.2) (i:=i-1) oo oo;have w:=yn h g c v j;refine .b (cD k) λA D=>?_;subst D;refine .b (JDs (a:=A) (b:=G) (by rcases w with⟨q,_⟩|⟨q1,q2,_⟩;all_goals grind)) λS H=>.h (λc=>absurd c H) λ_=>.g (λ_=>.b (cD k) λy9 F=>?_) λc=>absurd g c;subst F;unfold mD bL at w;refine .e (λo=>.b (cD k) λO x=>?_) λo=>.h (λc=>by omega) λ_=>.s nx;subst x;exact .d (λc=>by omega) λ_=>.s nx
  grind
 obtain⟨y,e,d⟩:=n;rw[e,d]
theorem JCq{a b:aA}(h:bL a=bL b/\a.1<b.1):Tot (DB (a,b)) λy=> ¬0<=y:=by
 obtain⟨h1,h2⟩:=h;unfold bL at h1;have j:pV (a.2.2.2.2.2.2.1.1,b.2.2.2.2.2.2.1.1)=some 0:=(by grind [pV,IK,aL,aP]);have e:pV (a.1,b.1)=some (-1):=(by grind [pV,IK,aO,aL]);unfold DB;dsimp only;rw[j,e];show Tot ((tG [0, -1]).bind _) _;have g:tG [0, -1]=some (-1):=by unfold tG;rw[eR (s':=(0,[0, -1],J0 ([0, -1]:qQD),1)) (by rfl)];exact dC (by rfl)
 rw[g];exact .s qQH
theorem QM{r:aC}(h:cZ r):iL r=some true:=by
 have v:Tot (iL r) λy=>y=true:=by
  obtain⟨N,g2,K,Y,g5⟩:=id h;unfold iL;refine .b (S4 N) λy2 S=>.r (λ_=>.g (λc=>by omega) λ_=>?_) λc=>by grind
  refine Jl (τ:=Int) (λq=>(r.2.2.2.2.2,J0 r.2.2.2.2.2,q,r)) (λq=>0<=q/\q<=J0 r.2.2.2.2.2) (λq=>J0 r.2.2.2.2.2-q) ?_ 0 rfl ⟨aY _,J6⟩;rintro i ⟨L,h1⟩;unfold n4;dsimp only;have W:=Jg i 1;have U:=bG i 1;refine .l (λc=>?_) λc=>.s rfl;obtain⟨e,P,g⟩:=kL L c;obtain⟨D,n,z,A,k,o⟩:=K _ e g;have nx: ∃c':Int,((r.2.2.2.2.2,J0 r.2.2.2.2.2,J1 .i64 i 1,r):cv)=(r.2.2.2.2.2,J0 r.2.2.2.2.2,c',r)/\(0<=c'/\c'<=J0 r.2.2.2.2.2)/\J0 r.2.2.2.2.2-c'<J0 r.2.2.2.2.2-i/\0<=J0 r.2.2.2.2.2-i:=⟨J1 .i64 i 1,rfl,⟨by omega,by omega⟩,by omega,by omega⟩;unfold bL at k o;have M:Tot (IN (r,e)) λy=>y=true:=.b (Wf n) λy d=>.i (λ_=>.h (λ_=>.G (λ_=>.h (λ_=>.s (dD.2 A)) λc=>absurd z c) λc=>absurd o c) λc=>absurd k c) λc=>by grind
  refine .b (cD P) λG J=>?_;subst J;refine .b (JHg (EF.of D n)) λV d5=>.r (λ_=>.b M λZ T=>.n (λc=>by grind) λ_=>?_) λc=>by grind
  refine .p (λE=>?_) λE=>.h (λc=>?_) λ_=>.s nx;have hi:0<i:=by omega
  have O:Jm .i64 i 1=i-1:=by omega
  rw[O];obtain⟨a,x,w⟩:=kL (l:=r.2.2.2.2.2) (i:=i-1) oo oo;have j:=yn h hi c w g;refine .b (cD x) λR B=>?_;subst B;refine .l (λI=>.h (λc=>?_) λ_=>.s nx) λI=>.b (cD x) λC H=>?_;unfold mD bL at j;omega;subst H;have Q:=j;unfold mD bL at j;refine .b (JCq (a:=C) (b:=G) (by unfold bL;omega)) λy9 F=>.o (λ_=>.d (λc=>by omega) λ_=>.s nx) λc=>absurd c F;grind
 obtain⟨y,e,d⟩:=v;rw[e,d]
end
section
variable {B S:Int}
def ent(r:aC):List aA:=r.2.2.2.2.2
theorem eO{α:Type}{bytes:Nat}{l m:List α}(h:J0 l+J0 m<=34359738368)(hb:bytes<=2048):Jr bytes l m=some (l++m):=by
 grind [Jr,VE,J0]
end
section
variable {B S:Int}
theorem lj(x:Int×aA):Tot (rR x) λy=>y=true->0<=x.1/\x.1<x.2.1:=.h (λc=>.s λd=>⟨c,Jw.1 d⟩) λ_=>.s nofun
theorem O5(c:gF):Tot (JK c) λy=>JK c=some y:=by
 have g:Tot (JK c) λ_=>True:=.i (λ_=>.t (λ_=>.s qQG) λ_=>.s qQG) λ_=>.s qQG
 obtain⟨y,e,_⟩:=g;exact⟨y,e,e⟩
theorem JL9(n:Int):Tot (DC n) λy=>y=true->0<=n/\n<64:=.h (λc=>.s λd=>⟨c,Jw.1 d⟩) λ_=>.s nofun
theorem ym(c:gT):Tot (vV c) λy=>y=true->iY c=some true:=by
 unfold vV;refine .b (JL9 c.1) λn h2=>.i (λe=>.h (λk=>.l (λo=>.b (O5 c.2.2.1) λj v=>.i (λh=>.b (O5 c.2.2.2) λq r=>.s λg=>?_) λ_=>.s nofun) λ_=>.s nofun) λ_=>.s nofun) λ_=>.s nofun;grind [iY,jL,Jw]
theorem JOn(c:gT):Tot (yV c) λ_=>True:=⟨_,rfl,qQG⟩
theorem Kt(e:aA):Tot (jA e) λ_=>True:=⟨_,rfl,qQG⟩
theorem JSB(e:aA):Tot (mS e) λy=>y=true->1<=e.2.2.2.2.2.1/\e.2.2.2.2.2.1<=e.2.2.2.1:=.h (λc=>.s λd=>⟨c,dD.1 d⟩) λ_=>.s nofun
theorem JSf(c:gT):Tot (DN c) λ_=>True:=.i (λ_=>.i (λ_=>.s qQG) λ_=>.s qQG) λ_=>.s qQG
theorem O2{l:qQC}(h:neS l []=false):l=[]:=by
 grind [neS]
theorem JPd(e:aA):Tot (pT e) λy=>y=true->(e.2.1=1\/e.2.1=2)->EF e:=by
 have g: ∀{o:Option Bool},(3<=e.2.1\/e.2.1<=0)->Tot o (λ_=>True)->Tot o λy=>y=true->(e.2.1=1\/e.2.1=2)->EF e:=λh ht=>ht.mono λ_ _ _ hk=>by omega
 unfold pT;refine .j (λO=>.k (λP=>.j (λM=>.k (λN=>.b (lj _) λL h2=>.r (λA=>.b (lj _) λJ H=>.r (λB=>.b (lj _) λK E=>.n (λ_=>.s nofun) λD=>?_) λ_=>.s nofun) λ_=>.s nofun) λ_=>.s nofun) λ_=>.s nofun) λ_=>.s nofun) λ_=>.s nofun;have b2:=h2 A;have j:=H B;have k:=E D;refine .e (λc=>g oo ?_) λ_=>.e (λc=>g oo ?_) λ_=>.e (λc=>g oo ?_) λ_=>.e (λc=>g oo ?_) λ_=>.e (λc=>g oo ?_) λ_=>.e (λc=>g oo ?_) λ_=>.e (λx=>?_) λx=>.e (λw=>?_) λw=>by omega
 case refine_7=>refine .j (λG=>.g (λ_=>.s nofun) λC=>.e (λ_=>.s nofun) λv=>.i (λ_=>.s nofun) λn=>.G (λ_=>.b (JSB e) λy h=>.i (λd=>.b (ym _) λz r=>.s λq _=>?_) λ_=>.s nofun) λ_=>.s nofun) λ_=>.s nofun;obtain⟨F,I⟩:=h d;exact⟨by omega,by omega,by omega,by omega,b2.1,b2.2,j.1,j.2,k.1,k.2,O2 n,r q,.inr ⟨x,by have:=b2.1;dsimp only at this;omega,F,I⟩⟩
 case refine_8=>refine .j (λG=>.g (λ_=>.s nofun) λC=>.d (λ_=>.s nofun) λv=>.i (λ_=>.s nofun) λn=>.G (λ_=>.b (Kt e) λy h=>.i (λd=>.b (ym _) λz r=>.s λq _=>?_) λ_=>.s nofun) λ_=>.s nofun) λ_=>.s nofun;exact⟨by omega,by omega,by omega,by omega,b2.1,b2.2,j.1,j.2,k.1,k.2,O2 n,r q,.inl ⟨w,v⟩⟩
 all_goals repeat' first
  |exact .s qQG
  |refine .i (λ_=>?_) λ_=>?_
  |refine .t (λ_=>?_) λ_=>?_
  |refine .b (Kt _) λ_ _=>?_
  |refine .b (JOn _) λ_ _=>?_
  |refine .b (JSf _) λ_ _=>?_
end
section
variable {B S:Int}
def hX(x y:Int):Int:=if x<y then -1 else if y<x then 1 else 0
def fX(a b:aA):Int:=if hX (bL a) (bL b)=0 then hX a.1 b.1 else hX (bL a) (bL b)
theorem JLo(x:Int):aO x x=false:=by simp[aO]
theorem SF(x y:Int):pV (x,y)=some (hX x y):=by
 grind [pV,IK,hX,JLo,aL,aP]
theorem JSz(p q:Int):tG [p,q]=some (if p=0 then q else p):=by
 unfold tG;have h: ∀p q:Int,yZ (0,[p,q],J0 [p,q],0)=if aO p 0=true then some (.inr p)else some (.inl (0,[p,q],J0 [p,q],1)):=λp q=>rfl
 have e: ∀p q:Int,yZ (0,[p,q],J0 [p,q],1)=if aO q 0=true then some (.inr q)else some (.inl (0,[p,q],J0 [p,q],2)):=λp q=>rfl
 have k: ∀p q:Int,yZ (0,[p,q],J0 [p,q],2)=some (.inr 0):=λp q=>rfl;by_cases g:p=0;subst g;rw[if_pos rfl,eR ((h 0 q).trans (if_neg qQH))];by_cases j:q=0;subst j;rw[eR ((e 0 0).trans (if_neg qQH))];grind [dC];grind [dC,eH];grind [dC,eH]
theorem Of(a b:aA):DB (a,b)=some (fX a b):=by
 grind [DB,fX,bL,SF,JSz]
theorem M6(a b:aA):lU (a,b)=some (fX a b):=by
 have h:Tot (lU (a,b)) λy=>y=fX a b:=by
  unfold lU fX hX bL;dsimp only;refine .j (λc=>.e (λg=>.l (λj=>.s ?_) λj=>.e (λ_=>.e (λk=>.s ?_) λk=>.s ?_) λc=>absurd g c) λg=>.e (λc=>absurd c g) λ_=>.s ?_) λc=>.s ?_
  all_goals grind
 obtain⟨y,e,d⟩:=h;rw[e,d]
def ltE(a b:aA):Prop:=bL a<bL b\/(bL a=bL b/\a.1<b.1)
theorem yG{a b:aA}:fX a b<0↔ltE a b:=by
 grind [fX,hX,ltE]
theorem WF{a b:aA}:fX a b=0↔bL a=bL b/\a.1=b.1:=by
 grind [fX,hX]
theorem JRK(r:aC):Tot (IR r) λy=>y=true->xM r:=.h (λq=>.G (λe=>.G (λg=>.h (λo=>.G (λk=>.l (λn=>.h (λh=>.s λj=>⟨q,e,g,o,k,n,h,dD.1 j⟩) λ_=>.s nofun) λ_=>.s nofun) λ_=>.s nofun) λ_=>.s nofun) λ_=>.s nofun) λ_=>.s nofun) λ_=>.s nofun
theorem JQF(e:aA):Tot (JI e) λy=>y=true->e.2.1=1\/e.2.1=2:=.p (λ_=>.s λd=>.inr (fF.1 d)) λc=>.s λ_=>.inl c
theorem JRm(r:aC)(e:aA):Tot (IN (r,e)) λy=>y=true->(e.2.1=1\/e.2.1=2)/\r.1<=e.1/\e.1<=r.2.1/\r.2.2.1<=bL e/\bL e<=r.2.2.2.1:=.b (JQF e) λy h=>.i (λd=>.h (λn=>.G (λg=>.h (λj=>.s λk=>⟨h d,j,dD.1 k,n,g⟩) λ_=>.s nofun) λ_=>.s nofun) λ_=>.s nofun) λ_=>.s nofun
theorem P1{t:Ty}(x:t.D):eqT t x x=true:=eA.2 rfl
theorem JKC{e:aA}(h:EF e)(hk:e.2.1=1\/e.2.1=2):JF e=some true:=by
 obtain⟨H,I,w,Q,E,A,z,x,F,o,K,g,v⟩:=h;have j: ∀{n:Int},0<=n->n<e.1->kO (n,e.1)=some true:=fun{n} h1 h2=>by
  grind [kO,jL,Jw]
 have sh:Tot (nW e) λy=>y=(e,true):=(by unfold nW;rcases v with⟨k,q⟩|⟨k,C,J,D⟩;refine .e (λ_=>.b (cD g) λy d=>.e (λc=>by omega) λ_=>.i (λ_=>.h (λ_=>.s ?_) λc=>absurd w c) λc=>by simp_all) λc=>absurd k c;grind [dD];refine .e (λc=>by omega) λ_=>.e (λ_=>.b (cD g) λy d=>.e (λ_=>.i (λ_=>.g (λ_=>.h (λ_=>.G (λ_=>.h (λ_=>.s ?_) λc=>absurd w c) λc=>absurd D c) λc=>absurd J c) λc=>absurd C c) λc=>by simp_all) λc=>absurd k c) λc=>absurd k c;grind [dD]);have r:Tot (JF e) λy=>y=true:=by unfold JF;refine .b sh λy d=>?_;subst d;exact .i (λ_=>.i (λ_=>.h (λ_=>.G (λ_=>.b (cD (j E A)) λP L=>.i (λ_=>.b (cD (j z x)) λN M=>.i (λ_=>.b (cD (j F o)) λO B=>.s B) λc=>by simp_all) λc=>by simp_all) λc=>absurd I c) λc=>absurd H c) λc=>by grind [P1]) λc=>by cases c
 obtain⟨y,G,d⟩:=r;rw[G,d]
theorem JRZ(r:aC):Tot (iL r) λy=>y=true->cZ r:=by
 unfold iL;refine .b (JRK r) λZ z=>.r (λK=>.g (λ_=>.s nofun) λc2=>?_) λ_=>.s nofun;have z:=z K;have J:=J6 (l:=r.2.2.2.2.2);refine Jl (τ:=Int) (λq=>(r.2.2.2.2.2,J0 r.2.2.2.2.2,q,r)) (λi=>0<=i/\i<=J0 r.2.2.2.2.2/\(∀(j:Nat) (e:aA),(j:Int)<i->r.2.2.2.2.2[j]?=some e->EF e/\(e.2.1=1\/e.2.1=2)/\r.1<=e.1/\e.1<=r.2.1/\r.2.2.1<=bL e/\bL e<=r.2.2.2.1)/\(∀e,0<i->r.2.2.2.2.2[0]?=some e->e.2.2.2.2.1<r.1)/\ ∀(j:Nat) (a b:aA),(j:Int)+1<i->r.2.2.2.2.2[j]?=some a->r.2.2.2.2.2[j+1]?=some b->mD r.1 a b) (λq=>J0 r.2.2.2.2.2-q) ?_ 0 rfl ⟨aY _,J,λj e h=>by omega,λe h=>by omega,λj a b h=>by omega⟩;rintro i ⟨R,hn,h1,h2,T⟩;unfold n4;dsimp only;have o1:=Jg i 1;have o2:=bG i 1;refine .l (λc=>?_) λc=>.s λ_=>⟨z,by omega,λj e k=>?_,λe k=>h2 e (by have:=mB k;omega) k,λj a b D o=>T j a b (by have:=mB o;omega) D o⟩;obtain⟨e,k,V⟩:=kL R c;refine .b (cD k) λg P=>?_;subst P;refine .b (JPd g) λy5 S=>.r (λM=>.b (JRm r g) λy6 O=>.n (λ_=>.s nofun) λL=>?_) λ_=>.s nofun;have hk:=O L;have H:EF g/\(g.2.1=1\/g.2.1=2)/\r.1<=g.1/\g.1<=r.2.1/\r.2.2.1<=bL g/\bL g<=r.2.2.2.1:=⟨S M hk.1,hk⟩;have nx:(i=0->g.2.2.2.2.1<r.1)->(∀a,0<i->r.2.2.2.2.2[(i-1).toNat]?=some a->mD r.1 a g)-> ∃c':Int,((r.2.2.2.2.2,J0 r.2.2.2.2.2,J1 .i64 i 1,r):cv)=(r.2.2.2.2.2,J0 r.2.2.2.2.2,c',r)/\(0<=c'/\c'<=J0 r.2.2.2.2.2/\(∀(j:Nat) (e:aA),(j:Int)<c'->r.2.2.2.2.2[j]?=some e->EF e/\(e.2.1=1\/e.2.1=2)/\r.1<=e.1/\e.1<=r.2.1/\r.2.2.1<=bL e/\bL e<=r.2.2.2.1)/\(∀e,0<c'->r.2.2.2.2.2[0]?=some e->e.2.2.2.2.1<r.1)/\ ∀(j:Nat) (a b:aA),(j:Int)+1<c'->r.2.2.2.2.2[j]?=some a->r.2.2.2.2.2[j+1]?=some b->mD r.1 a b)/\J0 r.2.2.2.2.2-c'<J0 r.2.2.2.2.2-i/\0<=J0 r.2.2.2.2.2-i:=by
  intro n1 n2;refine⟨J1 .i64 i 1,rfl,⟨by omega,by omega,λj f U hf=>?_,λf hp hf=>?_,λj a b U A hb=>?_⟩,by omega,by omega⟩;by_cases hl:(j:Int)<i;grind;have:j=i.toNat:=by omega
  grind;by_cases hi:0<i;grind;have F:i=0:=by omega
  subst F;grind;by_cases hl:(j:Int)+1<i;grind;have G:j+1=i.toNat:=by omega
  have e2:j=(i-1).toNat:=by omega
  grind
 refine .p (λv=>?_) λv=>.h (λ_=>.s nofun) λc5=>.s (nx (λ_=>by omega) λa h=>by omega);have G:Jm .i64 i 1=i-1:=by omega
 rw[G];obtain⟨a,A,W⟩:=kL (l:=r.2.2.2.2.2) (i:=i-1) oo oo;have B:mD r.1 a g->(∀b,0<i->r.2.2.2.2.2[(i-1).toNat]?=some b->mD r.1 b g):=λh b _ hb=>by
  grind
 refine .b (cD A) λY I=>?_;subst I;refine .l (λw=>.h (λ_=>.s nofun) λc6=>.s (nx (λh=>absurd h v) (B (.inl ⟨w,by omega⟩)))) λw=>.b (cD A) λC N=>?_;subst N;refine .b (cD (Of C g)) λy9 Q=>.o (λc9=>.d (λ_=>.s nofun) λE=>.s (nx (λh=>absurd h v) (B ?_))) λ_=>.s nofun;subst Q;rcases(yG (a:=C) (b:=g)).1 oo with q|⟨x,n⟩;exact absurd q w;exact .inr ⟨x,n,E⟩;obtain⟨x,n⟩:=h1 j e (by grind [mB]) k;exact⟨JKC x n.1,n⟩
end
section
variable {B S:Int}
theorem ltE.trans{a b c:aA}(h1:ltE a b)(h2:ltE b c):ltE a c:=by
 grind [ltE]
def mrg:List aA->List aA->List aA|[],b=>b|x::a,[]=>x::a|x::a,y::b=>if fX x y<=0 then x::mrg a (y::b)else y::mrg (x::a) b
termination_by a b=>a.length+b.length
theorem GE(a:List aA):mrg a []=a:=by cases a<;>simp[mrg]
def bQ:List aA->aA->List aA|[],e=>[e]|x::l,e=>if fX x e<0 then x::bQ l e else if fX x e=0 then x::l else e::x::l
theorem j3{l:List aA}{e x:aA}(h:x∈bQ l e):x∈l\/x=e:=by
 induction l with
 |nil=>grind [bQ]
 |cons y l ih=>
  grind [bQ]
theorem Mo{y:aA}{b:List aA}(hb: ∀z∈b,ltE y z): ∀{a:List aA},(∀x∈a,fX x y≠0)->mrg a (y::b)=mrg (bQ a y) b
 |[],_=>by
  cases b with
  |nil=>simp[mrg,bQ]
  |cons z b=>
   have:=(yG (a:=y) (b:=z)).2 (hb z List.mem_cons_self);grind [bQ,mrg]
 |x::a,j=>by
  have n:=j x List.mem_cons_self;by_cases h:fX x y<0;have e:mrg (x::a) (y::b)=x::mrg a (y::b):=(by grind [mrg]);have g:bQ (x::a) y=x::bQ a y:=(by grind [bQ]);rw[e,g,Mo hb λz k=>j z (eF _ k)];cases b with
  |nil=>simp[GE]
  |cons z b=>
   have h2:=(yG (a:=x) (b:=z)).2 (((yG (a:=x) (b:=y)).1 h).trans (hb z List.mem_cons_self));grind [mrg.eq_3]
  have e:mrg (x::a) (y::b)=y::mrg (x::a) b:=(by grind [mrg]);have g:bQ (x::a) y=y::x::a:=(by grind [bQ]);rw[e,g];cases b with
  |nil=>simp[GE]
  |cons z b=>
   have h2:=(yG (a:=y) (b:=z)).2 (hb z List.mem_cons_self);grind [mrg.eq_3]
theorem jp: ∀{b a:List aA},b.Pairwise ltE->(∀x∈a,∀y∈b,fX x y≠0)->mrg a b=b.foldl bQ a
 |[],a,_,_=>GE a
 |y::b,a,hs,hd=>by
  obtain⟨h1,h2⟩:=List.pairwise_cons.1 hs;rw[Mo h1 λx e=>hd x e y List.mem_cons_self,List.foldl_cons];refine jp h2 λx e z g=>?_;rcases j3 e with e|rfl;grind;have:=(yG (a:=x) (b:=z)).2 (h1 z g);omega
theorem Ca: ∀{l:List aA},(∀(j:Nat) (a b:aA),l[j]?=some a->l[j+1]?=some b->ltE a b)->l.Pairwise ltE
 |[],_=>.nil
 |[x],_=>List.pairwise_singleton _ _
 |x::y::l,h=>by
  have ih:=Ca (l:=y::l) λj a b k hb=>h (j+1) a b k hb;refine List.pairwise_cons.2 ⟨λz g=>?_,ih⟩;have e:=h 0 x y rfl rfl;rcases cJ.1 g with rfl|g;exact e;exact e.trans ((List.pairwise_cons.1 ih).1 z g)
theorem zr{r:aC}(h:cZ r):r.2.2.2.2.2.Pairwise ltE:=
 Ca λj a b e hb=>by
  rcases h.2.2.2.2 j a b e hb with⟨q,_⟩|⟨g,k,_⟩;exact .inl q;exact .inr ⟨g,k⟩
theorem JOg(a b:List aA):(mrg a b).length=a.length+b.length:=by
 induction a,b using mrg.induct with
 |case1 b=>simp[mrg]
 |case2 x a=>simp[mrg]
 |case3 x a y b h ih=>grind [mrg]
 |case4 x a y b h ih=>grind [mrg]
theorem Om{a b:List aA}{z:aA}(h:z∈mrg a b):z∈a\/z∈b:=by
 induction a,b using mrg.induct with
 |case1 b=>grind [mrg]
 |case2 x a=>grind [GE]
 |case3 x a y b hc ih=>
  grind [mrg]
 |case4 x a y b hc ih=>
  grind [mrg]
end
section
variable {B S:Int}
def gK(r:aC):Prop:=Ty.fit 16384 9223372036854775807 cY r
theorem vv{r:aC}(h:gK r): ∃v,iL r=some v/\fG r=some v/\(v=true->cZ r):=by
 obtain⟨y,e,h1⟩:=JRZ r;obtain⟨z,g,_⟩:=ny (B:=16384) (S:=9223372036854775807) h;refine⟨y,e,?_,h1⟩;cases y with
 |true=>grind [Ai]
 |false=>cases z<;>simp_all [QM,cZ.of]
theorem gx{r:aC}(h:cZ r):iL r=some true/\fG r=some true:=⟨QM h,Ai h⟩
theorem L7(r:aC):0<=J0 (ent r):=J6
theorem JP2(l:List aA)(e:aA):(bQ l e).length<=l.length+1:=by
 induction l with
 |nil=>simp[bQ]
 |cons x l ih=>
  grind [bQ]
theorem JBd{e:aA}{l m:List aA}(h: ∀y∈l,fX y e<0):bQ (l++m) e=l++bQ m e:=by
 induction l with
 |nil=>rfl
 |cons y l ih=>
  grind [bQ]
theorem gr{l:List aA}{e:aA}(hl:J0 l<=16777216):Tot (vT (l,e)) λy=>y.1=bQ l e:=by
 unfold vT;have O:=J6 (l:=l);refine Jl (τ:=Int) (λq=>(l,q,e)) (λi=>0<=i/\i<=J0 l/\ ∀y∈l.take i.toNat,fX y e<0) (λi=>J0 l-i) ?_ 0 rfl ⟨aY _,O,λy U=>by simp at U⟩;rintro i ⟨E,h1,h2⟩;unfold F0;dsimp only;have o1:=Jg i 1;have hs:bQ l e=l.take i.toNat++bQ (l.drop i.toNat) e:=by have:=JBd (m:=l.drop i.toNat) h2;rwa[lV]at this
 have put:(∀x,l[i.toNat]?=some x->0<fX x e)->Tot ((aU l none (some i)).bind λw=>(bP 128 w).bind λA=>(Jr 128 A [e]).bind λB=>(aU l (some i) none).bind λv=>(Jr 128 B v).bind λo=>some (o,true)) λy=>y.1=bQ l e:=by
  intro j;obtain⟨p,V,I,q1⟩:=wP (l:=l) (k:=i) E h1;obtain⟨r,T,F,_⟩:=BJ (l:=l) (k:=i) E h1;have lp:J0 p<=16777216:=by omega
  have hlen:J0 p+J0 r=J0 l:=by rw[I,F];unfold J0;rw[kT,AN];unfold J0 at h1;omega
  have np:=J6 (l:=p);have nr:=J6 (l:=r);refine .b (cD V) λw S=>?_;subst S;have P:bP 128 w=some w:=by unfold bP;rw[if_pos];unfold qN;unfold J0 at lp np;simp only[decide_eq_true_eq];omega
  refine .b (cD P) λA R=>?_;subst R;refine .b (cD (eO (l:=A) (m:=[e]) (by rw[bY];omega) qQH)) λB L=>.b (cD T) λv J=>?_;subst L;subst J;refine .b (cD (eO (l:=A++[e]) (m:=v) (by rw[cM,bY];omega) qQH)) λo H=>.s ?_;show o=bQ l e;rw[H,I,F,hs,iC]
  congr 1
  cases hd:l.drop i.toNat with
  |nil=>rfl
  |cons x t=>have g:=j x (by rw[<-List.head?_drop,hd];rfl);rw[bQ,if_neg oo,if_neg oo];rfl
 refine .l (λc=>?_) λc=>.inr (.l (λC=>absurd C c) λ_=>put λx j=>by have:=mB j;omega);obtain⟨x,j,n⟩:=kL E c;refine .b (cD j) λN M=>.b (cD (M6 N e)) λy4 d4=>?_;subst M;refine .l (λC=>.s ⟨J1 .i64 i 1,rfl,⟨by omega,by omega,λz h=>?_⟩,by omega,by omega⟩) λC=>.inr (.l (λ_=>?_) λD=>absurd c D);rw[show(J1 .i64 i 1).toNat=i.toNat+1 by omega,List.take_add_one,n]at h;rcases zQ9.1 h with h|h;exact h2 z h;simp at h;subst h;omega;refine .b (cD j) λK Q=>.b (cD (M6 K e)) λy6 Z=>?_;subst Q;refine .e (λD=>.b (cD j) λW Y=>.s ?_) λD=>put λx g=>by rw[n]at g;injection g with g;subst g;omega
 show l=bQ l e;have hd:l.drop i.toNat=K::l.drop (i.toNat+1):=by
  have G:=(eC.1 n).1;rw[List.drop_eq_getElem_cons G]
  congr 1
  exact(eC.1 n).2
 rw[hs,hd,bQ,if_neg oo,if_pos oo,<-hd,lV]
theorem JMp(b a:List aA):(b.foldl bQ a).length<=a.length+b.length:=by
 induction b generalizing a with
 |nil=>simp
 |cons y b ih=>
  grind [JP2]
theorem JQm{l:List aA}(h:J0 l<=16384):bP 128 l=some l:=by
 grind [bP,qN,J0]
end
section
variable {l E F:List aA} {p:Int}
theorem ltE.irr{a:aA}: ¬ltE a a:=by simp[ltE]
theorem ltE.asym{a b:aA}(h:ltE a b): ¬ltE b a:=by grind [ltE]
def Inc(l:List aA):Prop:=l.Pairwise λa b=>a.1<b.1
theorem Inc.filter(h:Inc l)(q:aA->Bool):Inc (l.filter q):=h.sublist (List.filter_sublist)
end
theorem i1(c x:Bool):(if c=true then some x else some false)=some (c&&x):=by cases c<;>rfl
theorem i2(c x:Bool):(if c=false then some x else some false)=some (!c&&x):=by cases c<;>rfl
theorem i3(c x:Bool):(if c=true then some false else some x)=some (!c&&x):=by cases c<;>rfl
theorem i4{α:Type}(c x:Bool)(E:α):(if c=true then some (E,x)else some (E,false))=some (E,c&&x):=by cases c<;>rfl
theorem JNX(c:gF):JK c=JK c:=rfl
theorem Na(c:gF): ∃b,JK c=some b:=by unfold JK;split<;>(try split)<;>exact⟨_,rfl⟩
theorem JJd(c:gT): ∃b,vV c=some b/\iY c=some b:=by
 obtain⟨b1,e⟩:=Na c.2.2.1;obtain⟨b2,g⟩:=Na c.2.2.2;grind [vV,DC,iY,JNX]
theorem JGK{x:Jn}(e:kO x=some true):0<=x.1/\x.1<x.2:=by
 grind [kO,jL,Jw]
theorem lc(x:Jn): ∃b,kO x=some b:=by unfold kO;split<;>exact⟨_,rfl⟩
theorem JPf(c:gT): ∃z,yV c=some z/\(z=true↔c=(0,0,(false,[]),false,[])):=⟨_,rfl,eA (t:=gR)⟩
theorem JSv(c:gT): ∃z,DN c=some z/\(z=true↔c=(c.1,0,(false,[]),false,[])/\0<=c.1/\c.1<64):=by
 have e:Tot (DN c) λz=>(z=true↔c=(c.1,0,(false,[]),false,[])/\0<=c.1/\c.1<64):=.i (λh=>.h (λg=>.s ⟨λk=>⟨(eA (t:=gR)).1 h,g,Jw.1 k⟩,λk=>Jw.2 k.2.2⟩) λg=>.s ⟨nofun,λk=>absurd k.2.1 g⟩) λh=>.s ⟨nofun,λk=>(Bool.false_ne_true (h.symm.trans ((eA (t:=gR)).2 k.1))).elim⟩
 exact e
theorem K7(e:aA):pT e=JF e:=by
 obtain⟨l,k,t,n,q,o,c,bl⟩:=e;obtain⟨M,v,w⟩:=JJd c;obtain⟨b1,r⟩:=lc (n,l);obtain⟨b2,A⟩:=lc (q,l);obtain⟨F,x⟩:=lc (o,l);have B:rR (n,l,k,t,n,q,o,c,bl)=some b1:=r;have C:rR (q,l,k,t,n,q,o,c,bl)=some b2:=A;have D:rR (o,l,k,t,n,q,o,c,bl)=some F:=x;have L: ∀b:Bool,Ji b= !b:=λ_=>rfl;unfold pT JF nW;dsimp only;rw[B,C,D,r,A,x,v,w];have N: ∀a b:aA,(eqT J4 a b=true)=(a=b):=λa b=>propext (eA (t:=J4));have K: ∀a b:gT,(eqT gR a b=true)=(a=b):=λa b=>propext (eA (t:=gR));have hb:b1=true->0<=n/\n<l:=λh=>by subst h;exact JGK r
 have hk:k=1\/k=2\/k=3\/k=4\/k=5\/k=6\/k=7\/k=8\/k<1\/8<k:=by omega
 clear r A x B C D v w;have O:J0 ([]:qQC)=0:=rfl;obtain⟨z,g,J⟩:=JPf c;obtain⟨y,j,I⟩:=JSv c;rcases hk with rfl|rfl|rfl|rfl|rfl|rfl|rfl|rfl|hk|hk;simp only[show aL 1 1=false from rfl,show aP 1 8=false from rfl,show aM 1 8=false from rfl,show aM 1 7=false from rfl,show aM 1 6=false from rfl,show aM 1 5=false from rfl,show aM 1 4=false from rfl,show aM 1 3=false from rfl,show aM 1 2=false from rfl,show aM 1 1=true from rfl,if_true,if_false,fB,reduceCtorEq,Jy,jA,mS,g,j,i1,i2,i3,i4]
 congr 1
 grind [aL,aP,aR,aW,aO,neS];simp only[show aL 2 1=false from rfl,show aP 2 8=false from rfl,show aM 2 8=false from rfl,show aM 2 7=false from rfl,show aM 2 6=false from rfl,show aM 2 5=false from rfl,show aM 2 4=false from rfl,show aM 2 3=false from rfl,show aM 2 2=true from rfl,show aM 2 1=false from rfl,if_true,if_false,fB,reduceCtorEq,Jy,jA,mS,g,j,i1,i2,i3,i4]
 congr 1
 grind [aL,aP,aR,aW,aM,neS];simp only[show aL 3 1=false from rfl,show aP 3 8=false from rfl,show aM 3 8=false from rfl,show aM 3 7=false from rfl,show aM 3 6=false from rfl,show aM 3 5=false from rfl,show aM 3 4=false from rfl,show aM 3 3=true from rfl,show aM 3 2=false from rfl,show aM 3 1=false from rfl,if_true,if_false,fB,reduceCtorEq,Jy,jA,mS,g,j,i1,i2,i3,i4]
 congr 1
 grind [aL,aP,aR,aW,aO,aM,neS];simp only[show aL 4 1=false from rfl,show aP 4 8=false from rfl,show aM 4 8=false from rfl,show aM 4 7=false from rfl,show aM 4 6=false from rfl,show aM 4 5=false from rfl,show aM 4 4=true from rfl,show aM 4 3=false from rfl,show aM 4 2=false from rfl,show aM 4 1=false from rfl,if_true,if_false,fB,reduceCtorEq,Jy,jA,mS,g,j,i1,i2,i3,i4]
 congr 1
 grind [aL,aP,aR,aW,aO,aM,neS];simp only[show aL 5 1=false from rfl,show aP 5 8=false from rfl,show aM 5 8=false from rfl,show aM 5 7=false from rfl,show aM 5 6=false from rfl,show aM 5 5=true from rfl,show aM 5 4=false from rfl,show aM 5 3=false from rfl,show aM 5 2=false from rfl,show aM 5 1=false from rfl,if_true,if_false,fB,reduceCtorEq,Jy,jA,mS,g,j,i1,i2,i3,i4]
 congr 1
 grind [aL,aP,aR,aW,aO,aM,neS];simp only[show aL 6 1=false from rfl,show aP 6 8=false from rfl,show aM 6 8=false from rfl,show aM 6 7=false from rfl,show aM 6 6=true from rfl,show aM 6 5=false from rfl,show aM 6 4=false from rfl,show aM 6 3=false from rfl,show aM 6 2=false from rfl,show aM 6 1=false from rfl,if_true,if_false,fB,reduceCtorEq,Jy,jA,mS,g,j,i1,i2,i3,i4];grind [aL,aP,aR,aW,aO,Prod.mk.injEq];simp only[show aL 7 1=false from rfl,show aP 7 8=false from rfl,show aM 7 8=false from rfl,show aM 7 7=true from rfl,show aM 7 6=false from rfl,show aM 7 5=false from rfl,show aM 7 4=false from rfl,show aM 7 3=false from rfl,show aM 7 2=false from rfl,show aM 7 1=false from rfl,if_true,if_false,fB,reduceCtorEq,Jy,jA,mS,g,j,i1,i2,i3,i4];grind [aL,aP,aR,aW,aO,neS,Prod.mk.injEq];simp only[show aL 8 1=false from rfl,show aP 8 8=false from rfl,show aM 8 8=true from rfl,show aM 8 7=false from rfl,show aM 8 6=false from rfl,show aM 8 5=false from rfl,show aM 8 4=false from rfl,show aM 8 3=false from rfl,show aM 8 2=false from rfl,show aM 8 1=false from rfl,if_true,if_false,fB,reduceCtorEq,Jy,jA,mS,g,j,i1,i2,i3,i4];grind [aL,aP,aR,aW,aO,Prod.mk.injEq];have G:aM k 1=false:=by grind [aM]
 have H:aM k 2=false:=by grind [aM]
 have E:aM k 3=false:=by grind [aM]
 grind [aM,aL];have G:aM k 1=false:=by grind [aM]
 have H:aM k 2=false:=by grind [aM]
 have E:aM k 3=false:=by grind [aM]
 grind [aM,aP]
section
theorem uh{α:Type}{lt:α->α->Prop}(hi: ∀a,¬lt a a)(ha: ∀a b,lt a b-> ¬lt b a): ∀{a b:List α},a.Pairwise lt->b.Pairwise lt->(∀x,x∈a↔x∈b)->a=b
 |[],[],_,_,_=>rfl
 |[],y::b,_,_,h=>absurd ((h y).2 List.mem_cons_self) (by simp)
 |x::a,[],_,_,h=>absurd ((h x).1 List.mem_cons_self) (by simp)
 |x::a,y::b,n,k,h=>by
  obtain⟨j,o⟩:=List.pairwise_cons.1 n;obtain⟨b1,b2⟩:=List.pairwise_cons.1 k;have e:x=y:=(by rcases cJ.1 ((h x).1 List.mem_cons_self)with e|e;exact e;rcases cJ.1 ((h y).2 List.mem_cons_self)with f|f;exact f.symm;exact absurd (j y f) (ha _ _ (b1 x e)));subst e;refine congrArg _ (uh hi ha o b2 λz=>⟨λg=>?_,λg=>?_⟩);rcases cJ.1 ((h z).1 (eF _ g))with e|e;subst e;exact absurd (j z g) (hi z);exact e;rcases cJ.1 ((h z).2 (eF _ g))with e|e;subst e;exact absurd (b1 z g) (hi z);exact e
abbrev TX:=aC×Int×Bool
def ltN(x y:aB):Prop:=x.1.2.2.1<y.1.2.2.1\/(x.1.2.2.1=y.1.2.2.1/\(x.1.1<y.1.1\/(x.1.1=y.1.1/\x.2<y.2)))
theorem ltN.irr(a:aB): ¬ltN a a:=by unfold ltN;omega
theorem ltN.asym(a b:aB)(h:ltN a b): ¬ltN b a:=by unfold ltN at*;omega
theorem ltN.trans{a b c:aB}(h:ltN a b)(g:ltN b c):ltN a c:=by unfold ltN at*;omega
theorem ltN.tri(a b:aB):ltN a b\/ltN b a\/a.2=b.2:=by unfold ltN;omega
def abv(r:aC)(to:Int):aC:=if to<r.1 then r else(to+1,r.2.1,r.2.2.1,r.2.2.2.1,r.2.2.2.2.1,(ent r).filter λe=>decide (to<e.1))
def clp:Int->Int->List aB->List TX
 |_,_,[]=>[]
 |lo,to,x::t=>
  if x.1.2.1<=(if x.1.2.2.1=lo then to else 0)then clp x.1.2.2.1 (if x.1.2.2.1=lo then to else 0) t
  else(abv x.1 (if x.1.2.2.1=lo then to else 0),x.2,decide ((if x.1.2.2.1=lo then to else 0)<x.1.1))::clp x.1.2.2.1 x.1.2.1 t
theorem mJ(lo to:Int)(x:aB)(t:List aB):clp lo to (x::t)=if x.1.2.1<=(if x.1.2.2.1=lo then to else 0)then clp x.1.2.2.1 (if x.1.2.2.1=lo then to else 0) t
 else(abv x.1 (if x.1.2.2.1=lo then to else 0),x.2,decide ((if x.1.2.2.1=lo then to else 0)<x.1.1))::clp x.1.2.2.1 x.1.2.1 t:=rfl
theorem Nq: ∀{C:List aB} {lo to:Int} {D:List aB},(∀y∈D,y.1.2.2.1≠lo/\y.1.2.2.1≠ -1/\ ∀x∈C,y.1.2.2.1≠x.1.2.2.1)->clp lo to (C++D)=clp lo to C++clp (-1) 0 D|[],lo,to,[],_=>rfl|[],lo,to,y::D,h=>by obtain⟨h1,h2,_⟩:=h y List.mem_cons_self;show clp lo to (y::D)=clp (-1) 0 (y::D);rw[mJ,mJ,if_neg h1,if_neg h2]|x::C,lo,to,D,h=>by have ih:=λg=>Nq (C:=C) (lo:=x.1.2.2.1) (to:=g) (D:=D) λy e=>⟨(h y e).2.2 x List.mem_cons_self,(h y e).2.1,λz j=>(h y e).2.2 z (eF _ j)⟩;rw[tZ,mJ,mJ];generalize (if x.1.2.2.1=lo then to else 0)=T;rw[ih,ih];split<;>simp
def RX(x y:TX):Prop:=x.1.2.2.1<=y.1.2.2.1/\(x.1.2.2.1=y.1.2.2.1->x.1.2.1<y.1.1)
theorem Ob(r:aC)(to:Int):(abv r to).2.2.1=r.2.2.1:=by unfold abv;split<;>rfl
theorem La(r:aC)(to:Int):(abv r to).2.1=r.2.1:=by unfold abv;split<;>rfl
theorem JKG(r:aC)(to:Int)(h:to<r.2.1)(h2:r.1<=r.2.1):to<(abv r to).1/\(abv r to).1<=r.2.1:=by
 unfold abv;split;omega;dsimp only;omega
theorem Ly: ∀{C:List aB} {lo to:Int},C.Pairwise (λx y=>x.1.2.2.1<=y.1.2.2.1)->(∀x∈C,lo<=x.1.2.2.1/\x.1.1<=x.1.2.1)->(clp lo to C).Pairwise RX/\ ∀e∈clp lo to C,lo<=e.1.2.2.1/\(e.1.2.2.1=lo->to<e.1.1)/\e.1.1<=e.1.2.1
 |[],_,_,_,_=>⟨.nil,nofun⟩
 |x::C,lo,to,E,hl=>by
  obtain⟨A,w⟩:=List.pairwise_cons.1 E;obtain⟨B,D⟩:=hl x List.mem_cons_self;have ih:=λr=>Ly (C:=C) (lo:=x.1.2.2.1) (to:=r) w λy v=>⟨A y v,(hl y (eF _ v)).2⟩;rw[mJ];generalize z:(if x.1.2.2.1=lo then to else 0)=T;have q:x.1.2.2.1=lo->T=to:=λh=>by rw[<-z,if_pos h]
  by_cases c:x.1.2.1<=T;rw[if_pos c];refine⟨(ih T).1,λe j=>?_⟩;obtain⟨o,k,n⟩:=(ih T).2 e j;exact⟨by omega,λh=>by have:=q oo;have:=k oo;omega,n⟩;rw[if_neg c];have g:=JKG x.1 T oo D;refine⟨List.pairwise_cons.2 ⟨λe j=>?_,(ih _).1⟩,λe j=>?_⟩;obtain⟨o,k,n⟩:=(ih _).2 e j;unfold RX;dsimp only;rw[Ob,La];exact⟨o,λh=>k h.symm⟩;rcases cJ.1 j with rfl|j;dsimp only;rw[Ob];exact⟨B,λh=>by have:=q h;omega,by rw[La];exact g.2⟩;obtain⟨o,k,n⟩:=(ih _).2 e j;exact⟨by omega,λh=>by have:=q oo;have:=k oo;omega,n⟩
theorem jb: ∀{C:List aB} {lo to:Int} {e:TX},(∀x∈C,0<=x.1.2.1)->0<=to->e∈clp lo to C-> ∃x t,x∈C/\0<=t/\e=(abv x.1 t,x.2,decide (t<x.1.1))
 |[],_,_,_,_,_,h=>by cases h
 |x::C,lo,to,e,hc,o,h=>by
  have hc': ∀y∈C,0<=y.1.2.1:=λy n=>hc y (eF _ n);rw[mJ]at h;generalize k:(if x.1.2.2.1=lo then to else 0)=T at h;have h1:0<=T:=by rw[<-k];split<;>omega
  by_cases c:x.1.2.1<=T;rw[if_pos c]at h;obtain⟨y,t,g,j⟩:=jb hc' h1 h;exact⟨y,t,eF _ g,j⟩;rw[if_neg c]at h;rcases cJ.1 h with rfl|h;exact⟨x,T,List.mem_cons_self,h1,rfl⟩;obtain⟨y,t,g,j⟩:=jb hc' (hc x List.mem_cons_self) h;exact⟨y,t,eF _ g,j⟩
theorem UL: ∀{C:List aB} {lo to:Int},(clp lo to C).length<=C.length
 |[],_,_=>zQ0 _
 |x::C,lo,to=>by
  rw[mJ];generalize (if x.1.2.2.1=lo then to else 0)=T;split;exact Nat.le_succ_of_le UL;exact Nat.succ_le_succ UL
def iB{α β:Type}(n:Nat)(g:List α->Option β):List α->Option (β×List α)|[]=>none|x::t=>if(x::t).length<n then none else match g ((x::t).take n)with|some b=>some (b,(x::t).take n)|none=>iB n g t
theorem mu{α β:Type}{n:Nat}{g:List α->Option β}: ∀{l:List α},l.length<n->iB n g l=none|[],_=>rfl|x::t,h=>by unfold iB;rw[if_pos h]
theorem ln{α β:Type}(n:Nat)(g:List α->Option β)(x:α)(t:List α):iB n g (x::t)=if(x::t).length<n then none else match g ((x::t).take n)with|some b=>some (b,(x::t).take n)|none=>iB n g t:=rfl
def rU(r s:aC):Prop:=r.2.2.1=s.2.2.1/\r.2.2.2.1=s.2.2.2.1/\s.1=r.2.1+1
def chW:List TX->Prop|[]=>True|[_]=>True|x::y::t=>rU x.1 y.1/\chW (y::t)
theorem Ap: ∀(n:Nat) {t:List TX} {x:TX},(x::t).Pairwise RX->(∀e∈x::t,e.1.1<=e.1.2.1)->n<(x::t.filter λe=>e.2.2).length->chW ((x::t.filter λe=>e.2.2).take (n+1))->(x::t).take (n+1)=(x::t.filter λe=>e.2.2).take (n+1)
 |0,t,x,_,_,_,_=>by simp
 |n+1,[],x,_,_,hl,_=>by simp at hl
 |n+1,y::t,x,hp,hl,hn,hc=>by
  obtain⟨o,g⟩:=List.pairwise_cons.1 hp;by_cases h:y.2.2=true;rw[List.filter_cons_of_pos (by exact h)]at hn hc⊢;have ih:=Ap n (t:=t) (x:=y) g (λe q=>hl e (eF _ q)) (by simpa using hn) (by simp only[qf]at hc⊢;exact hc.2);rw[qf,ih];rfl;exfalso;rw[List.filter_cons_of_neg (by exact h)]at hn hc;obtain⟨j,v⟩:=List.pairwise_cons.1 g;cases hf:t.filter (λe=>e.2.2)with
  |nil=>rw[hf]at hn;simp at hn
  |cons z f=>have r:z∈t:=(List.mem_filter.1 (show z∈t.filter (λe=>e.2.2) by rw[hf];exact List.mem_cons_self)).1;rw[hf]at hc;simp only[qf]at hc;have k:=hc.1;unfold rU at k;have a:=o y List.mem_cons_self;have b:=j z r;have c:=hl y (eF _ List.mem_cons_self);unfold RX at a b;omega
theorem Ao{β:Type}{n:Nat}{g:List TX->Option β}(hn:0<n)(g1: ∀w,(∃e∈w,¬e.2.2=true)->g w=none)(g2: ∀w,¬chW w->g w=none): ∀{W:List TX},W.Pairwise RX->(∀e∈W,e.1.1<=e.1.2.1)->iB n g (W.filter λe=>e.2.2)=iB n g W
 |[],_,_=>rfl
 |x::t,z,hl=>by
  obtain⟨E,A⟩:=List.pairwise_cons.1 z;have ih:=Ao hn g1 g2 A λe j=>hl e (eF _ j);by_cases h:x.2.2=true;rw[List.filter_cons_of_pos (by exact h)];have D:(t.filter λe=>e.2.2).length<=t.length:=List.length_filter_le _ _;unfold iB;by_cases v:(x::t).length<n;rw[if_pos v,if_pos (by simp only[kQ]at*;omega)];rw[if_neg v];by_cases y:(x::t.filter λe=>e.2.2).length<n;rw[if_pos y,g1 ((x::t).take n)];dsimp only;rw[<-ih,mu];simp only[kQ]at*;omega;refine Classical.byContradiction λq=>?_;have r: ∀e∈(x::t).take n,e.2.2=true:=λe j=>Classical.byContradiction λk=>q ⟨e,j,k⟩;have:((x::t).take n).filter (λe=>e.2.2)=(x::t).take n:=List.filter_eq_self.2 r;have s:(((x::t).take n).filter λe=>e.2.2).length<=((x::t).filter λe=>e.2.2).length:=((List.take_sublist n (x::t)).filter _).length_le;rw[this,kT,List.filter_cons_of_pos (by exact h)]at s;simp only[kQ]at*;omega;rw[if_neg y];by_cases o:(x::t).take n=(x::t.filter λe=>e.2.2).take n;rw[o,ih];have C: ¬chW ((x::t.filter λe=>e.2.2).take n):=λk=>o (by
   obtain⟨m,rfl⟩: ∃m,n=m+1:=⟨n-1,by omega⟩;exact Ap m z hl oo k)
  have B: ∃e∈(x::t).take n,¬e.2.2=true:=by
   refine Classical.byContradiction λq=>o ?_;have r: ∀e∈(x::t).take n,e.2.2=true:=λe j=>Classical.byContradiction λk=>q ⟨e,j,k⟩;have f:(x::t).filter (λe=>e.2.2)=(x::t).take n++((x::t).drop n).filter λe=>e.2.2:=by
    conv=>lhs;rw[<-lV n (x::t),List.filter_append,List.filter_eq_self.2 r]
   rw[List.filter_cons_of_pos (by exact h)]at f;rw[f,List.take_append_of_le_length (by rw[kT];omega),List.take_take,Nat.min_self]
  rw[g1 _ B,g2 _ C];exact ih;rw[List.filter_cons_of_neg (by exact h),ih];rw[ln];split;rename_i c;exact mu (by simp only[kQ]at c;omega);obtain⟨m,rfl⟩: ∃m,n=m+1:=⟨n-1,by omega⟩;rw[g1 ((x::t).take (m+1)) ⟨x,by simp,h⟩]
end
section
def dO:List aA->List TX->List aA|acc,[]=>acc|acc,x::t=>dO (mrg acc (ent x.1)) t
def toW:Int->List TX->Int|z,[]=>z|_,x::t=>toW x.1.2.1 t
def chX(L:Int):aC->List TX->Prop|_,[]=>True|p,x::t=>rU p x.1/\x.1.2.2.2.2.1=L/\chX L x.1 t
def jn(x:TX)(t:List TX):aC:=(x.1.1,toW x.1.2.1 t,x.1.2.2.1,x.1.2.2.2.1,J1 .i64 x.1.2.2.2.2.1 1,dO (ent x.1) t)
noncomputable def gW:List TX->Option aC|[]=>none|x::t=> @ite _ ((∀e∈x::t,e.2.2=true)/\chX x.1.2.2.2.2.1 x.1 t/\fG (jn x t)=some true) (Classical.propDecidable _) (some (jn x t)) none
theorem BU(x:TX)(t:List TX):gW (x::t)= @ite _ ((∀e∈x::t,e.2.2=true)/\chX x.1.2.2.2.2.1 x.1 t/\fG (jn x t)=some true) (Classical.propDecidable _) (some (jn x t)) none:=rfl
theorem Qk(w:List TX)(h: ∃e∈w,¬e.2.2=true):gW w=none:=by
 cases w with
 |nil=>rfl
 |cons x t=>obtain⟨e,g,j⟩:=h;rw[BU,if_neg];exact λk=>j (k.1 e g)
theorem Od{L:Int}: ∀{x:TX} {t:List TX},chX L x.1 t->chW (x::t)|_,[],_=>qQG|_,_::_,h=>⟨h.1,Od h.2.2⟩
theorem JM1(w:List TX)(h: ¬chW w):gW w=none:=by
 cases w with
 |nil=>rfl
 |cons x t=>rw[BU,if_neg];exact λk=>h (Od k.2.1)
theorem VQ(a b:List aA):J0 (mrg a b)=J0 a+J0 b:=by unfold J0;rw[JOg];omega
theorem P4: ∀(acc:List aA) (t:List TX),J0 acc<=J0 (dO acc t)|acc,[]=>aY _|acc,x::t=>by have:=P4 (mrg acc (ent x.1)) t;rw[VQ]at this;have:=L7 x.1;show J0 acc<=J0 (dO (mrg acc (ent x.1)) t);omega
end
section
theorem JO9{α:Type}{lt:α->α->Prop}(ht: ∀a b c,lt a b->lt b c->lt a c){p:List α}{z x:α}(h:(p++[z]).Pairwise lt)(hz:lt z x):(p++[z]++[x]).Pairwise lt:=by
 refine List.pairwise_append.2 ⟨h,List.pairwise_singleton _ _,λa e b hb=>?_⟩;rw[eB.1 hb];obtain⟨_,_,g⟩:=List.pairwise_append.1 h;rcases zQ9.1 e with h1|h1;exact ht _ _ _ (g a h1 z (by simp)) hz;rw[eB.1 h1];exact hz
def Asc(l:qQD):Prop:=l.Pairwise (· < ·)
structure kH(a:J8):Prop where
 pages:1<=a.2.1/\a.2.1<=64
 len:1<=J0 a.1/\J0 a.1<=16
 zero:idx a.1 0=some 0
 asc:Asc a.1
 last: ∀z,idx a.1 (J0 a.1-1)=some z->z<a.2.1
 next:1<=a.2.2.2.1/\a.2.2.2.1<=1099511627777
 ser:1<=a.2.2.2.2/\a.2.2.2.2<=1073741825
 few:J0 a.2.2.1<=256
 ids:a.2.2.1.Pairwise λf g=>f.2.1<g.2.1
 inr: ∀f∈a.2.2.1,0<f.2.1/\f.2.1<a.2.2.2.2
theorem P9{α:Type}{l p t:List α}{z x:α}(h:l=(p++[z])++x::t):idx l (J0 (p++[z])-1)=some z:=by subst h;unfold idx J0;rw[if_pos (by simp<;>omega)];simp
theorem zh{T:Int}{fs:List aI}{σ:Type}{L:σ->Option (σ⊕Bool)}(e:Int->Int->σ)
  (hs: ∀pre x t last,fs=pre++x::t->(last<x.2.1->x.2.1<T->L (e (J0 pre) last)=some (.inl (e (J0 (pre++[x])) x.2.1)))/\(¬(last<x.2.1/\x.2.1<T)->L (e (J0 pre) last)=some (.inr false)))
  (he: ∀last,L (e (J0 fs) last)=some (.inr true)):Tot (J3 L (e 0 0)) λy=>y=true↔fs.Pairwise (λf g=>f.2.1<g.2.1)/\ ∀f∈fs,0<f.2.1/\f.2.1<T:=by
 refine fT (l:=fs) (λi (b:Int)=>e i b) (λpre last=>pre.Pairwise (λf g=>f.2.1<g.2.1)/\(∀f∈pre,0<f.2.1/\f.2.1<T/\f.2.1<=last)/\0<=last/\(last=0\/ ∃f∈pre,f.2.1=last)) (λpre x t last hl j=>?_) (λlast j=>?_) fs [] 0 _ rfl rfl ⟨.nil,nofun,aY _,.inl rfl⟩;obtain⟨o,k,z,n⟩:=j;by_cases c:last<x.2.1/\x.2.1<T;rw[(hs pre x t last hl).1 c.1 c.2];refine .s ⟨x.2.1,rfl,List.pairwise_append.2 ⟨o,List.pairwise_singleton _ _,λf hf g q=>?_⟩,λf hf=>?_,by omega,.inr ⟨x,by simp,rfl⟩⟩;rw[eB.1 q];have:=k f hf;omega;rcases zQ9.1 hf with h|h;have:=k f h;omega;rw[eB.1 h];omega;rw[(hs pre x t last hl).2 c];refine .s ⟨nofun,fun⟨r,w⟩=>absurd ?_ c⟩;subst hl;have v:=w x (by simp);refine⟨?_,v.2⟩;rcases n with h|⟨f,hf,h⟩;omega;rw[<-h];exact(List.pairwise_append.1 r).2.2 f hf x List.mem_cons_self;rw[he];exact .s ⟨λ_=>⟨j.1,λf hf=>⟨(j.2.1 f hf).1,(j.2.1 f hf).2.1⟩⟩,λ_=>rfl⟩
theorem xf{l:qQD}{σ:Type}{L:σ->Option (σ⊕Bool)}{Q:Bool->Prop}(e:Int->σ)(h1:1<=J0 l)
  (hs: ∀p z x t,l=(p++[z])++x::t->(z<x->L (e (J0 (p++[z])))=some (.inl (e (J0 (p++[z]++[x])))))/\(¬z<x->L (e (J0 (p++[z])))=some (.inr false)))
  (hq: ¬Asc l->Q false)
  (he:Asc l->Tot (L (e (J0 l))) (zN Q)):Tot (J3 L (e 1)) Q:=by
 cases l with
 |nil=>simp[J0]at h1
 |cons a l=>
  refine fT (l:=a::l) (λi (_:Unit)=>e i) (λpre _=>pre≠[]/\Asc pre) (λpre x t _ hl j=>?_) (λ_ j=>he j.2) l [a] () _ rfl rfl ⟨by simp,List.pairwise_singleton _ _⟩;obtain⟨k,n⟩:=j;obtain⟨p,z,rfl⟩: ∃p z,pre=p++[z]:=⟨pre.dropLast,pre.getLast k,(List.dropLast_concat_getLast k).symm⟩;by_cases c:z<x;rw[(hs p z x t hl).1 c];exact .s ⟨(),rfl,by simp,JO9 (lt:=λa b:Int=>a<b) (λa b c h g=>Int.lt_trans h g) n c⟩;rw[(hs p z x t hl).2 c];refine .s (hq λh=>absurd ?_ c);rw[hl]at h;exact(List.pairwise_append.1 h).2.2 z (by simp) x List.mem_cons_self
theorem fQ{α:Type}{p t l:List α}{x:α}{n:Int}(h:l=p++x::t)(hl:J0 l<=n)(hn:n<=4611686018427387904:=by decide):J1 .i64 (J0 p) 1=J0 (p++[x]):=UG h oo
theorem d8(a:J8):Tot (zE a) λy=>y=true↔kH a:=by
 have e: ∀{p:Prop},¬p->(kH a->p)->Tot (some false) λy=>y=true↔kH a:=λI h=>.s ⟨nofun,λk=>absurd (h k) I⟩;have bd:Tot (DA (a.2.1,a.1)) λy=>y=true↔(1<=a.2.1/\a.2.1<=64)/\(1<=J0 a.1/\J0 a.1<=16)/\idx a.1 0=some 0/\Asc a.1/\ ∀z,idx a.1 (J0 a.1-1)=some z->z<a.2.1:=by
  unfold DA;dsimp only;refine .j (λB=>.k (λC=>.j (λD=>.k (λF=>?_) λc=>.s ⟨nofun,λk=>by omega⟩) λc=>.s ⟨nofun,λk=>by omega⟩) λc=>.s ⟨nofun,λk=>by omega⟩) λc=>.s ⟨nofun,λk=>by omega⟩;obtain⟨z,j,_⟩:=kL (l:=a.1) (i:=0) qQH oo;refine .w j (.d (λc=>.s ⟨nofun,λk=>absurd (j.symm.trans k.2.2.1) (by simpa using c)⟩) λo=>?_);subst o;refine xf (l:=a.1) (λi=>(a.2.1,a.1,i)) oo (λp z x t h=>?_) (λh=>⟨nofun,λk=>absurd k.2.2.2.1 h⟩) λh=>?_;unfold pj
  (try dsimp only)
  have:=J6 (l:=p);have os:=bG (J0 (p++[z])) 1;have J:J0 (p++[z])=J0 p+1:=by rw[cM,bY]
  have lt:=dV h;rw[if_pos (Jw.2 lt),show Jm .i64 (J0 (p++[z])) 1=J0 (p++[z])-1 by omega,P9 h,eY h];dsimp only[Option.bind_some];exact⟨λc=>by rw[if_neg (by rw[jL];omega),fQ h (n:=16) oo],λc=>by rw[if_pos (jL.2 oo)]⟩;unfold pj
  (try dsimp only)
  have os:=bG (J0 a.1) 1;rw[if_neg (by rw[Jw];omega),show Jm .i64 (J0 a.1) 1=J0 a.1-1 by omega];obtain⟨w,H,_⟩:=kL (l:=a.1) (i:=J0 a.1-1) oo oo;rw[H];refine .s ?_;show aL w a.2.1=true↔_;rw[Jw];exact⟨λk=>⟨⟨by omega,by omega⟩,⟨by omega,by omega⟩,j,h,λz r=>by injection r with r;omega⟩,λk=>k.2.2.2.2 w rfl⟩
 unfold zE;refine .b bd λy h=>.r (λg=>?_) λg=>e (p:=y=true) (by simp[g]) λk=>h.2 ⟨k.pages,k.len,k.zero,k.asc,k.last⟩;obtain⟨b1,b2,A,E,v⟩:=h.1 g;refine .j (λB=>.k (λC=>.j (λD=>.k (λF=>.g (λc=>e (p:=J0 a.2.2.1<=256) oo λk=>k.few) λo=>?_) λc=>e (p:=a.2.2.2.2<=1073741825) oo λk=>k.ser.2) λc=>e (p:=1<=a.2.2.2.2) oo λk=>k.ser.1) λc=>e (p:=a.2.2.2.1<=1099511627777) oo λk=>k.next.2) λc=>e (p:=1<=a.2.2.2.1) oo λk=>k.next.1;refine(zh (T:=a.2.2.2.2) (fs:=a.2.2.1) (λi l=>(l,i,a)) (λpre x t last h=>?_) λlast=>?_).mono λy h=>h.trans ⟨λk=>⟨b1,b2,A,E,v,⟨by omega,by omega⟩,⟨by omega,by omega⟩,by omega,k.1,k.2⟩,λk=>⟨k.ids,k.inr⟩⟩;unfold ox;dsimp only;rw[if_pos (Jw.2 (dV h)),eY h];dsimp only[Option.bind_some];refine⟨λG K=>?_,λq=>?_⟩;rw[if_pos (show aW x.2.1 last=false by rw[<-Bool.not_eq_true,dD];omega),if_neg (by rw[jL];omega),fQ h (n:=256) oo];by_cases G:last<x.2.1;rw[if_pos (show aW x.2.1 last=false by rw[<-Bool.not_eq_true,dD];omega),if_pos (jL.2 oo)];rw[if_neg (by rw[dD.2 oo];decide)];unfold ox;dsimp only;rw[if_neg (by rw[Jw];omega)]
theorem Ir(a:J8):Tot (QV a) λy=>y=true↔kH a:=by
 have e: ∀{p:Prop},¬p->(kH a->p)->Tot (some false) λy=>y=true↔kH a:=λF h=>.s ⟨nofun,λk=>absurd (h k) F⟩;unfold QV;refine .j (λA=>.k (λB=>.j (λC=>.k (λD=>?_) λc=>e (p:=J0 a.1<=16) oo λk=>k.len.2) λc=>e (p:=1<=J0 a.1) oo λk=>k.len.1) λc=>e (p:=a.2.1<=64) oo λk=>k.pages.2) λc=>e (p:=1<=a.2.1) oo λk=>k.pages.1;obtain⟨z,r,_⟩:=kL (l:=a.1) (i:=0) qQH oo;have os:=bG (J0 a.1) 1;obtain⟨w,j,_⟩:=kL (l:=a.1) (i:=J0 a.1-1) oo oo;refine .w r (.q (λv=>?_) λc=>e (p:=idx a.1 0=some 0) (by rw[r];simpa using c) λk=>k.zero);subst v;rw[show Jm .i64 (J0 a.1) 1=J0 a.1-1 by omega];refine .w j (.h (λc=>e (p:=w<a.2.1) oo λk=>k.last w j) λG=>?_);refine xf (l:=a.1) (λi=>(J0 a.1,i,a)) oo (λp z x t h=>?_) (λh=>⟨nofun,λk=>absurd k.asc h⟩) λh=>?_;unfold px
 (try dsimp only)
 have:=J6 (l:=p);have os:=bG (J0 (p++[z])) 1;have H:J0 (p++[z])=J0 p+1:=by rw[cM,bY]
 have lt:=dV h;rw[if_pos (Jw.2 lt),show Jm .i64 (J0 (p++[z])) 1=J0 (p++[z])-1 by omega,P9 h,eY h];dsimp only[Option.bind_some];exact⟨λc=>by rw[if_neg (by rw[jL];omega),fQ h (n:=16) oo],λc=>by rw[if_pos (jL.2 oo)]⟩;unfold px
 (try dsimp only)
 rw[if_neg (by rw[Jw];omega)];refine .endq ?_;refine .j (λA=>.k (λB=>.j (λC=>.k (λD=>.g (λc=>e (p:=J0 a.2.2.1<=256) oo λk=>k.few) λv=>?_) λc=>e (p:=a.2.2.2.2<=1073741825) oo λk=>k.ser.2) λc=>e (p:=1<=a.2.2.2.2) oo λk=>k.ser.1) λc=>e (p:=a.2.2.2.1<=1099511627777) oo λk=>k.next.2) λc=>e (p:=1<=a.2.2.2.1) oo λk=>k.next.1;refine(zh (T:=a.2.2.2.2) (fs:=a.2.2.1) (λi l=>(l,a.2.2.1,J0 a.2.2.1,i,a)) (λpre x t last g=>?_) λlast=>?_).mono λy g=>g.trans ⟨λk=>⟨⟨by omega,by omega⟩,⟨by omega,by omega⟩,r,h,λz o=>by rw[j]at o;injection o with o;omega,⟨by omega,by omega⟩,⟨by omega,by omega⟩,by omega,k.1,k.2⟩,λk=>⟨k.ids,k.inr⟩⟩;unfold pv;dsimp only;rw[if_pos (Jw.2 (dV g)),eY g];dsimp only[Option.bind_some];refine⟨λE I=>?_,λq=>?_⟩;rw[if_pos (show aW x.2.1 last=false by rw[<-Bool.not_eq_true,dD];omega),if_neg (by rw[jL];omega),fQ g (n:=256) oo];by_cases E:last<x.2.1;rw[if_pos (show aW x.2.1 last=false by rw[<-Bool.not_eq_true,dD];omega),if_pos (jL.2 oo)];rw[if_neg (by rw[dD.2 oo];decide)];unfold pv;dsimp only;rw[if_neg (by rw[Jw];omega)]
end
def P32:Nat:=2197175160
def gb(c:Nat):Nat:=if c%2=1 then c/2^^^P32 else c/2
def gN:Nat->Nat->Nat|0,c=>c|j+1,c=>gN j (gb c)
def sl(b:Nat):Nat:=if b=1 then P32 else 0
theorem LV(c:Nat):gb c=c/2^^^sl (c%2):=by
 unfold gb sl;split;rfl;rw[Nat.xor_zero]
theorem JR7(x y:Nat):gb (x^^^y)=gb x^^^gb y:=by
 have j:(x^^^y)/2=x/2^^^y/2:=by have:= @Nat.xor_div_two_pow x y 1;simpa using this
 have k:(x^^^y)%2=x%2^^^y%2:=by have:= @Nat.xor_mod_two_pow x y 1;simpa using this
 simp only[LV,j,k];have g:sl (x%2^^^y%2)=sl (x%2)^^^sl (y%2):=by rcases Nat.mod_two_eq_zero_or_one x with h|h<;>rcases Nat.mod_two_eq_zero_or_one y with e|e<;>rw[h,e]<;>decide
 rw[g]
 ac_rfl
theorem TW: ∀(j x y:Nat),gN j (x^^^y)=gN j x^^^gN j y|0,_,_=>rfl|j+1,x,y=>by simp only[gN];rw[JR7,TW j]
theorem Mk: ∀(i j x:Nat),gN (i+j) x=gN j (gN i x)|0,j,x=>by simp[gN]|i+1,j,x=>by rw[Nat.succ_add];simp only[gN];exact Mk i j _
theorem Mv(c:Nat):gN 4 c=c/16^^^(sl (c/8%2)^^^gN 1 (sl (c/4%2))^^^gN 2 (sl (c/2%2))^^^gN 3 (sl (c%2))):=by
 have s1:gN 4 c=gN 3 (c/2)^^^gN 3 (sl (c%2)):=by rw[<-TW,<-LV];rfl
 have h:gN 3 (c/2)=gN 2 (c/4)^^^gN 2 (sl (c/2%2)):=by rw[<-TW,show c/4=c/2/2 by omega,<-LV];rfl
 have e:gN 2 (c/4)=gN 1 (c/8)^^^gN 1 (sl (c/4%2)):=by rw[<-TW,show c/8=c/4/2 by omega,<-LV];rfl
 have g:gN 1 (c/8)=c/16^^^sl (c/8%2):=by rw[show c/16=c/8/2 by omega,<-LV];rfl
 rw[s1,h,e,g]
 ac_rfl
theorem JMr(c:Nat):gN 4 c=c/16^^^gN 4 (c%16):=by
 rw[Mv c,Mv (c%16)];have g:c%16/16=0:=by omega
 have h:c%16/8%2=c/8%2:=by omega
 have j:c%16/4%2=c/4%2:=by omega
 have k:c%16/2%2=c/2%2:=by omega
 have e:c%16%2=c%2:=by omega
 rw[g,h,j,k,e,Nat.zero_xor]
theorem gn:P32<2^32:=by decide
theorem LU{c:Nat}(h:c<2^32):gb c<2^32:=by
 unfold gb;split;exact Nat.xor_lt_two_pow oo gn;omega
theorem AY: ∀{j c:Nat},c<2^32->gN j c<2^32|0,_,h=>h|j+1,_,h=>AY (j:=j) (LU h)
theorem BP(n:Nat)(h:n<2^32):IntKind.wrap .u32 (n:Int)=(n:Int):=by rw[show IntKind.wrap .u32 (n:Int)=(n:Int)%4294967296 from rfl];omega
theorem EN{n:Nat}(h:n<2^32):(BitVec.ofInt 32 (n:Int)).toNat=n:=by rw[BitVec.toNat_ofInt];omega
theorem NX{x y:Nat}(hx:x<2^32)(hy:y<2^32):gX .u32 (x:Int) (y:Int)=((x^^^y:Nat):Int):=by show IntKind.wrap .u32 (((BitVec.ofInt 32 (x:Int)^^^BitVec.ofInt 32 (y:Int)).toNat:Nat):Int)=_;rw[BitVec.toNat_xor,EN hx,EN hy,BP _ (Nat.xor_lt_two_pow hx hy)]
theorem Ql{x:Nat}(hx:x<2^32)(k:Nat)(hk:k<=20):kU .u32 (x:Int) ((2^k-1:Nat):Int)=((x%2^k:Nat):Int):=by
 show IntKind.wrap .u32 (((BitVec.ofInt 32 (x:Int)&&&BitVec.ofInt 32 ((2^k-1:Nat):Int)).toNat:Nat):Int)=_;have h2:2^k-1<2^32:=by have:(2:Nat)^k<=2^20:=EO oo hk;omega
 rw[BitVec.toNat_and,EN hx,EN h2,Nat.and_two_pow_sub_one_eq_mod,BP _ (Nat.lt_of_le_of_lt (Nat.mod_le _ _) hx)]
theorem H1{x:Nat}(hx:x<2^32):kU .u32 (x:Int) 1=((x%2:Nat):Int):=Ql hx 1 oo
theorem JRG{x:Nat}(hx:x<2^32):kU .u32 (x:Int) 15=((x%16:Nat):Int):=Ql hx 4 oo
theorem bz(x:Nat):hY .u32 (x:Int) 1=some ((x/2:Nat):Int):=by show some ((x:Int).fdiv 2)=_;rw[Int.fdiv_eq_ediv_of_nonneg _ oo];simp
theorem G4(x:Nat):hY .u32 (x:Int) 4=some ((x/16:Nat):Int):=by show some ((x:Int).fdiv 16)=_;rw[Int.fdiv_eq_ediv_of_nonneg _ oo];simp
def uE:qQC->Nat->Nat|[],c=>c|b::r,c=>uE r (gN 8 (c^^^b.toNat))
theorem BN(b:UInt8):b.toNat<2^32:=by have:=UInt8.toNat_lt b;omega
theorem Pj: ∀{l:qQC} {c:Nat},c<2^32->uE l c<2^32|[],_,h=>h|b::r,_,h=>Pj (l:=r) (AY (Nat.xor_lt_two_pow h (BN b)))
def crc(l:qQC):Nat:=uE l 4294967295^^^4294967295
theorem JQS(l:qQC):crc l<2^32:=Nat.xor_lt_two_pow (Pj qQH) qQH
theorem xd{x:Nat}(hx:x<2^32):KX .u32 (x:Int)=((x^^^4294967295:Nat):Int):=by show IntKind.wrap .u32 (((BitVec.ofInt 32 4294967295^^^BitVec.ofInt 32 (x:Int)).toNat:Nat):Int)=_;rw[BitVec.toNat_xor,EN hx,show(4294967295:Int)=((4294967295:Nat):Int) by rfl,EN qQH,Nat.xor_comm,BP _ (Nat.xor_lt_two_pow hx qQH)]
theorem TP{l:qQC}{k:Nat}(h:k<l.length):nA l (k:Int)=some ((l[k]).toNat:Int):=by simp[nA,h]
theorem ij(l:qQC)(hl:J0 l<=1073741824):mN l=some ((crc l:Nat):Int):=by
 have j: ∀(x c:Nat),c<2^32->Tot (J3 QH (l,(c:Int),(x:Int),0)) λr=>r=.inl (l,((gN 8 c:Nat):Int),J1 .i64 (x:Int) 1):=λx c hc=>by
  refine Jl (τ:=Nat×Nat) (λq=>(l,(q.2:Int),(x:Int),(q.1:Int))) (λq=>q.1<=8/\q.2<2^32/\gN (8-q.1) q.2=gN 8 c) (λq=>8-(q.1:Int)) ?_ (0,c) rfl ⟨by omega,hc,rfl⟩;rintro⟨k,d⟩ ⟨h1,h2,g⟩;unfold QH;dsimp only at h1 h2 g⊢;have o:=Jg (k:Int) 1;refine .l (λv=>?_) λv=>.map (P:=λr=>r=.inl (l,((gN 8 c:Nat):Int),J1 .i64 (x:Int) 1)) (.s ?_) λ_ h=>h;have D:=H1 h2;have z:gN (8-(k+1)) (gb d)=gN 8 c:=by rw[<-g,show 8-k=(8-(k+1))+1 by omega];rfl
  have w:J1 .i64 (k:Int) 1=((k+1:Nat):Int):=by omega
  rw[D];refine .e (λhb=>.w (bz d) (.s ⟨(k+1,gb d),?_,⟨by omega,LU h2,z⟩,by omega,by omega⟩)) λhb=>.w (bz d) (.s ⟨(k+1,gb d),?_,⟨by omega,LU h2,z⟩,by omega,by omega⟩);have hb:d%2=1:=by omega
  have n:gb d=d/2^^^P32:=by unfold gb;rw[if_pos hb]
  rw[w,n,show(2197175160:Int)=((P32:Nat):Int)from rfl,NX oo gn];have hb: ¬d%2=1:=by omega
  have n:gb d=d/2:=by unfold gb;rw[if_neg hb]
  rw[w,n];have hk:k=8:=by omega
  subst hk;rw[<-g];rfl
 have y:Tot (mN l) λr=>r=((crc l:Nat):Int):=by
  unfold mN;refine Jl (τ:=Nat×Nat) (λq=>(l,(q.2:Int),(q.1:Int))) (λq=>q.1<=l.length/\q.2<2^32/\uE (l.drop q.1) q.2=uE l 4294967295) (λq=>(l.length:Int)-(q.1:Int)) ?_ (0,4294967295) rfl ⟨by omega,by decide,rfl⟩;rintro⟨k,d⟩ ⟨h1,h2,g⟩;unfold YG;dsimp only at h1 h2 g⊢;have E:J0 l=(l.length:Int):=rfl;have o:=Jg (k:Int) 1;refine .l (λv=>?_) λv=>.s ?_;have hk:k<l.length:=by omega
  have A:=Nat.xor_lt_two_pow h2 (BN l[k]);refine .w (TP hk) ?_;have B:aT .u32 ((l[k]).toNat:Int)=((l[k]).toNat:Int):=BP _ (BN _);rw[B,NX h2 (BN _)];obtain⟨r,C,rfl⟩:=j k _ A;rw[C];refine .s ⟨(k+1,gN 8 (d^^^(l[k]).toNat)),?_,⟨by omega,AY A,?_⟩,by omega,by omega⟩;rw[show J1 .i64 (k:Int) 1=((k+1:Nat):Int) by omega];rw[<-g,List.drop_eq_getElem_cons hk];rfl;have hk:k=l.length:=by omega
  subst hk;rw[List.drop_length]at g;have g:d=uE l 4294967295:=g;rw[xd h2,g];rfl
 obtain⟨r,e,rfl⟩:=y;exact e
theorem Mw{n k:Nat}(h:k<n):aX n (k:Int)=some ():=by
 have e:(0:Int)<=k/\(k:Int)<n:=by omega
 simp[aX,e]
theorem JLs:Tot (fm ()) λv=> ∀(i:Nat) (h:i<16),v[i]=((gN 4 i:Nat):Int):=by
 have w: ∀(x:Nat) (n g:Vector Int 16),x<16->Tot (J3 vt ((x:Int),(x:Int),(x:Int),0,n,g)) λr=>r=.inl (J1 .i64 (x:Int) 1,n,bI g x ((gN 4 x:Nat):Int)):=λx n g C=>by
  refine Jl (τ:=Nat×Nat) (λq=>((x:Int),(q.2:Int),(x:Int),(q.1:Int),n,g)) (λq=>q.1<=4/\q.2<2^32/\gN (4-q.1) q.2=gN 4 x) (λq=>4-(q.1:Int)) ?_ (0,x) rfl ⟨by omega,by omega,rfl⟩;rintro⟨k,d⟩ ⟨h1,h2,j⟩;unfold vt;dsimp only at h1 h2 j⊢;have o:=Jg (k:Int) 1;refine .l (λz=>?_) λz=>.map (P:=λr=>r=.inl (J1 .i64 (x:Int) 1,n,bI g x ((gN 4 x:Nat):Int))) ?_ λ_ h=>h;have F:=H1 h2;have B:gN (4-(k+1)) (gb d)=gN 4 x:=by rw[<-j,show 4-k=(4-(k+1))+1 by omega];rfl
  have A:J1 .i64 (k:Int) 1=((k+1:Nat):Int):=by omega
  rw[F];refine .e (λhb=>.w (bz d) (.s ⟨(k+1,gb d),?_,⟨by omega,LU h2,B⟩,by omega,by omega⟩)) λhb=>.w (bz d) (.s ⟨(k+1,gb d),?_,⟨by omega,LU h2,B⟩,by omega,by omega⟩);have hb:d%2=1:=by omega
  have y:gb d=d/2^^^P32:=by unfold gb;rw[if_pos hb]
  rw[A,y,show(2197175160:Int)=((P32:Nat):Int)from rfl,NX oo gn];have hb: ¬d%2=1:=by omega
  have y:gb d=d/2:=by unfold gb;rw[if_neg hb]
  rw[A,y];have hk:k=4:=by omega
  subst hk;have j:d=gN 4 x:=j;have G:vat g (Int.toNat (x:Int))=some g[x]:=by simp[vat,C]
  refine .w (Mw C) (.w G (.s ?_));rw[j];rfl
 unfold fm;refine Jl (τ:=Nat×Vector Int 16) (λq=>((q.1:Int),Vector.replicate 16 0,q.2)) (λq=>q.1<=16/\ ∀(i:Nat) (h:i<16),i<q.1->q.2[i]=((gN 4 i:Nat):Int)) (λq=>16-(q.1:Int)) ?_ (0,Vector.replicate 16 0) rfl ⟨by omega,λi h H=>by omega⟩;rintro⟨k,v⟩ ⟨h1,h2⟩;unfold Gz;dsimp only at h1 h2⊢;have o:=Jg (k:Int) 1;refine .l (λz=>?_) λz=>.s λi h=>h2 i h oo;have hk:k<16:=by omega
 have D:aT .u32 (k:Int)=(k:Int):=BP _ oo;rw[D];obtain⟨r,E,rfl⟩:=w k (Vector.replicate 16 0) v hk;rw[E];refine .s ⟨(k+1,bI v k ((gN 4 k:Nat):Int)),by rw[show J1 .i64 (k:Int) 1=((k+1:Nat):Int) by omega],⟨by omega,λi h hi=>?_⟩,by omega,by omega⟩;simp only[bI,Vector.getElem_setIfInBounds];by_cases e:k=i;subst e;simp;rw[if_neg e];exact h2 i h oo
theorem Ng(l:qQC)(hl:J0 l<=1073741824):HL l=some ((crc l:Nat):Int):=by
 have n:Tot (HL l) λr=>r=((crc l:Nat):Int):=by
  unfold HL;refine .b JLs λv ht=>Jl (τ:=Nat×Nat) (λq=>(l,(q.2:Int),J0 l,(q.1:Int),v)) (λq=>q.1<=l.length/\q.2<2^32/\uE (l.drop q.1) q.2=uE l 4294967295) (λq=>(l.length:Int)-(q.1:Int)) ?_ (0,4294967295) rfl ⟨by omega,by decide,rfl⟩;rintro⟨k,d⟩ ⟨h1,h2,g⟩;unfold Cd;dsimp only at h1 h2 g⊢;have D:J0 l=(l.length:Int):=rfl;have o:=Jg (k:Int) 1;refine .l (λz=>?_) λz=>.s ?_;have hk:k<l.length:=by omega
  have j:=Nat.xor_lt_two_pow h2 (BN l[k]);have step: ∀x:Nat,x<2^32->aX 16 (kU .u32 (x:Int) 15)=some ()/\vat v (Int.toNat (kU .u32 (x:Int) 15))=some ((gN 4 (x%16):Nat):Int)/\gX .u32 ((x/16:Nat):Int) ((gN 4 (x%16):Nat):Int)=((gN 4 x:Nat):Int):=by
   intro x j;have h:x%16<16:=by omega
   rw[JRG j];refine⟨Mw h,by rw[Int.toNat_natCast,<-ht _ h];simp[vat,h],?_⟩;rw[NX oo (AY oo),<-JMr]
  obtain⟨B,C,A⟩:=step _ j;obtain⟨b1,b2,y⟩:=step (gN 4 (d^^^(l[k]).toNat)) (AY j);have w:aT .u32 ((l[k]).toNat:Int)=((l[k]).toNat:Int):=BP _ (BN _);refine .w (TP hk) ?_;rw[w,NX h2 (BN _)];refine .w (G4 _) (.w B (.w C ?_));rw[A];refine .w (G4 _) (.w b1 (.w b2 ?_));rw[y];refine .s ⟨(k+1,gN 4 (gN 4 (d^^^(l[k]).toNat))),by rw[show J1 .i64 (k:Int) 1=((k+1:Nat):Int) by omega],⟨by omega,AY (AY j),?_⟩,by omega,by omega⟩;rw[<-g,List.drop_eq_getElem_cons hk,<-Mk 4 4];rfl;have hk:k=l.length:=by omega
  subst hk;rw[List.drop_length]at g;have g:d=uE l 4294967295:=g;rw[xd h2,g];rfl
 obtain⟨r,e,rfl⟩:=n;exact e
theorem Qm{n:Int}(h1:0<=n)(h2:n<18446744073709551616):IntKind.u64.wrap n=n:=by rw[show IntKind.u64.wrap n=n%18446744073709551616 by simp[IntKind.wrap,IntKind.bits,IntKind.signed]];omega
theorem kl{σ τ ρ:Type}{f:σ->Option (σ⊕ρ)}{g:τ->Option (τ⊕ρ)}(R:σ->τ->Prop)
  (h: ∀s t,R s t->(f s=none/\g t=none)\/(∃r,f s=some (.inr r)/\g t=some (.inr r))\/ ∃s' t',f s=some (.inl s')/\g t=some (.inl t')/\R s' t'):
  ∀(n:Nat) s t,R s t->dG f n s=dG g n t
 |0,s,t,_=>rfl
 |n+1,s,t,hR=>by
  rcases h s t hR with⟨h1,h2⟩|⟨r,h1,h2⟩|⟨s',t',h1,h2,e⟩;simp only[dG,h1,h2];simp only[dG,h1,h2];simp only[dG,h1,h2];exact kl R h n s' t' e
theorem WA{σ τ ρ:Type}{f:σ->Option (σ⊕ρ)}{g:τ->Option (τ⊕ρ)}(R:σ->τ->Prop)
  (h: ∀s t,R s t->(f s=none/\g t=none)\/(∃r,f s=some (.inr r)/\g t=some (.inr r))\/ ∃s' t',f s=some (.inl s')/\g t=some (.inl t')/\R s' t') {s:σ} {t:τ} (hR:R s t):
  J3 f s=J3 g t:=by
 apply Option.ext;intro r;rw[lQ,lQ];constructor;rintro⟨n,e⟩;exact⟨n,by rw[<-kl R h n s t hR];exact e⟩;rintro⟨n,e⟩;exact⟨n,by rw[kl R h n s t hR];exact e⟩
theorem UB(x:qQC×Jn):CG x=JO x:=by
 obtain⟨s,a,n⟩:=x;unfold CG JO;dsimp only;by_cases h1:aL n 1=false;rw[if_pos h1,if_pos h1];by_cases h2:aP n 8=false;rw[if_pos h2,if_pos h2];split;rfl;split;split;rfl;have L:1<=n:=by
  have: ¬n<1:=λh=>by rw[Jw.2 h]at h1;cases h1
  omega
 have E:n<=8:=by
  have: ¬8<n:=λh=>by rw[fS.2 h]at h2;cases h2
  omega
 refine WA (fun(z:qQC×Int×Int×Int×Int) (w:qQC×Int×Int×Int×Int)=>z.1=w.1/\z.2.1=w.2.1/\z.2.2.1=w.2.2.2.1/\z.2.2.2.1=w.2.2.1/\z.2.2.2.2=w.2.2.2.2/\0<=z.2.2.2.2/\z.2.2.2.1<=8) ?_ ⟨rfl,rfl,rfl,rfl,rfl,aY _,E⟩;rintro⟨s1,G,I,F,g⟩ ⟨H,N,M,J,K⟩ ⟨B,A,k,r,j,C,v⟩;dsimp only at B A k r j C v;subst B A k r j;unfold Cw zG;dsimp only;by_cases hk:aL g F=true;rw[if_pos hk,if_pos hk];have hk:=Jw.1 hk;have D:aT .u64 (cA .i64 8 g)=cA .i64 8 g:=by
  have o:=qQ 8 g;have e:cA .i64 8 g=8*g:=by omega
  rw[e];exact Qm oo oo
 rw[D];cases nA s1 (J1 .i64 G g)with
 |none=>exact .inl ⟨rfl,rfl⟩
 |some y=>
  simp only[Jy];cases mZ .u64 (aT .u64 y) (cA .i64 8 g)with
  |none=>exact .inl ⟨rfl,rfl⟩
  |some q=>have o:=Jg g 1;exact .inr (.inr ⟨_,_,rfl,rfl,rfl,rfl,rfl,rfl,rfl,by dsimp only;omega,v⟩)
 rw[if_neg hk,if_neg hk];exact .inr (.inl ⟨_,rfl,rfl⟩);rfl;rw[if_neg h2,if_neg h2];rw[if_neg h1,if_neg h1]
theorem g8{l:qQC}{n:Int}{k:Nat}(h1:1<=k)(h:k<=8)(hl:J0 l<=70368744177664):fH (l,n,(k:Int))=some (l++J1y n k):=by
 show Joq l n (k:Int)=_;have e: ¬((k:Int)<1\/8<(k:Int)):=by omega
 have g:l.length+8<=140737488355328:=by unfold J0 at hl;omega
 rw[Joq,if_neg e,if_pos g,Int.toNat_natCast]
theorem jj{s:qQC}{n:Int}{k:Nat}(h1:1<=k)(y:k<=8)(hl:J0 s<=70368744177664):JB (s,n,(k:Int))=some (s++J1y n k):=by
 have g:Tot (JB (s,n,(k:Int))) λr=>r=s++J1y n k:=by
  unfold JB;refine .j (λ_=>.g (λc=>by dsimp only at c;omega) λ_=>?_) λc=>by dsimp only at c;omega
  refine Jl (τ:=Nat) (λj=>(s++J1y n j,n,(k:Int),(j:Int))) (λj=>j<=k) (λj=>(k:Int)-(j:Int)) ?_ 0 (by simp[J1y,toStr]) (zQ2 _);intro j z;unfold YE;dsimp only;have x:=Jg (j:Int) 1;have w:=qQ 8 (j:Int);refine .l (λc=>?_) λc=>.s (by rw[show j=k by omega]);have o:aT .u64 (cA .i64 8 (j:Int))=((8*j:Nat):Int):=by unfold aT;rw[Qm oo oo];omega
  have q:hY .u64 (aT .u64 n) (aT .u64 (cA .i64 8 (j:Int)))=some ((aT .u64 n).fdiv (2^(8*j))):=by
   rw[o];simp only[hY];rw[if_neg oo];have:min (((8*j:Nat):Int)).toNat IntKind.u64.bits=8*j:=by simp only[Int.toNat_natCast];exact Nat.min_eq_left (by show 8*j<=64;omega)
   rw[this]
  have v:aT .u8 ((aT .u64 n).fdiv (2^(8*j)))=J6z n j:=rfl;refine .w q ?_;rw[v];have h:cN (s++J1y n j) (toStr [J6z n j])=some (s++J1y n (j+1)):=by unfold cN;rw[if_pos (by unfold J0 at hl;simp[J1y,toStr];omega)];simp[J1y,toStr,List.range_succ]
  exact .w h (.s ⟨j+1,by rw[show J1 .i64 (j:Int) 1=((j+1:Nat):Int) by omega],by omega,by omega,by omega⟩)
 obtain⟨r,e,rfl⟩:=g;exact e
theorem wz(l:qQC):mP l=lS l:=by
 unfold mP lS;by_cases h:aP (J0 l) 8392=true;rw[if_pos h,if_pos h];rw[if_neg h,if_neg h];have hl:J0 l<=8392:=by have: ¬8392<J0 l:=λc=>h (fS.2 c);omega
 have e:J0 ([]:qQC)<=70368744177664:=by decide
 have g:=g8 (l:=[]) (n:=J0 l) (k:=4) qQH qQH e;have j:=jj (s:=[]) (n:=J0 l) (k:=4) qQH qQH e;rw[show((4:Nat):Int)=4 from rfl]at g j;rw[g,j];simp only[Jy];cases hc:cN ([]++J1y (J0 l) 4) l with
 |none=>rfl
 |some y=>
  simp only[Jy];have r:J0 y<=8396:=(by unfold cN at hc;split at hc;injection hc with hc;subst hc;unfold J0 at*;simp[J1y,toStr];omega;cases hc);rw[Ng y oo,ij y oo];simp only[Jy];have o:=g8 (l:=y) (n:=aT .i64 ((crc y:Nat):Int)) (k:=4) qQH qQH oo;have q:=jj (s:=y) (n:=aT .i64 ((crc y:Nat):Int)) (k:=4) qQH qQH oo;rw[show((4:Nat):Int)=4 from rfl]at o q;rw[o,q]
theorem wU{n:Int}(h1:0<=n)(h2:n<18446744073709551616):IntKind.u64.wrap n=n:=by simp[IntKind.wrap,IntKind.bits,IntKind.signed];omega
theorem ck{n:Int}(h1: -9223372036854775808<=n)(h2:n<=9223372036854775807):IntKind.i64.wrap n=n:=by simp[IntKind.wrap,IntKind.bits,IntKind.signed];omega
theorem Lq{x b j:Nat}(hj:j<=7)(hx:x<2^(8*j))(hb:b<256):
  orI .u64 (x:Int) (IntKind.wrap .u64 (((b:Nat):Int)*2^(8*j)))=((x+b*2^(8*j):Nat):Int):=by
 have k:(2:Nat)^(8*j)*256<=2^64:=by rw[show(256:Nat)=2^8 by rfl,<-Nat.pow_add];exact EO oo oo
 have n:b*2^(8*j)+2^(8*j)<=2^64:=by have:(b+1)*2^(8*j)<=256*2^(8*j):=zQ4 _ oo;rw[zQ8,Nat.one_mul]at this;omega
 have w:IntKind.wrap .u64 (((b:Nat):Int)*2^(8*j))=((b*2^(8*j):Nat):Int):=by
  have e:(((b:Nat):Int)*2^(8*j))=((b*2^(8*j):Nat):Int):=by simp
  rw[e,wU oo oo]
 rw[w];have g: ∀y:Nat,y<2^64->(BitVec.ofInt 64 (y:Int)).toNat=y:=by intro y o;rw[BitVec.toNat_ofInt];omega
 show IntKind.wrap .u64 (((BitVec.ofInt 64 (x:Int)|||BitVec.ofInt 64 ((b*2^(8*j):Nat):Int)).toNat:Nat):Int)=_;rw[BitVec.toNat_or,g x oo,g _ oo];have h:x|||b*2^(8*j)=x+b*2^(8*j):=by rw[Nat.or_comm,dd b,<-Nat.two_pow_add_eq_or_of_lt hx,Nat.add_comm]
 rw[h,wU oo oo]
theorem ed{s:qQC}{p:Int}(hp:0<=p)(hl:J0 s<=1073741824):
  (p+4<=J0 s-> ∃v:Nat,v<2^32/\JO (s,p,4)=some ((v:Int),0))/\(J0 s<p+4->p<=4611686018427387904->JO (s,p,4)=some (0,5)):=by
 have o:=bG (J0 s) p;have H:J0 s=(s.length:Int):=rfl;refine⟨λh=>?_,λh G=>?_⟩;have k:Tot (JO (s,p,4)) λy=> ∃v:Nat,v<2^32/\y=((v:Int),0):=by
  unfold JO;dsimp only;refine .j (λ_=>.k (λ_=>.l (λc=>by omega) λ_=>.k (λ_=>.l (λc=>by omega) λ_=>?_) λc=>by omega) λc=>by omega) λc=>by omega
  refine Jl (τ:=Nat×Nat) (λq=>(s,p,4,(q.2:Int),(q.1:Int))) (λq=>q.1<=4/\q.2<2^(8*q.1)) (λq=>4-(q.1:Int)) ?_ (0,0) rfl ⟨by omega,by decide⟩;rintro⟨j,x⟩ ⟨E,n⟩;dsimp only at E n;unfold zG;dsimp only;have K:=Jg (j:Int) 1;have J:=qQ 8 (j:Int);have L:=Jg p (j:Int);refine .l (λc=>?_) λc=>.s ?_;have D:J1 .i64 p (j:Int)=((p.toNat+j:Nat):Int):=by omega
  have g:p.toNat+j<s.length:=by omega
  have w:(s[p.toNat+j]'g).toNat<256:=UInt8.toNat_lt _;have B:aT .u64 (cA .i64 8 (j:Int))=((8*j:Nat):Int):=by unfold aT;rw[wU oo oo];omega
  have C:mZ .u64 (aT .u64 (((s[p.toNat+j]'g).toNat:Nat):Int)) ((8*j:Nat):Int)=some (IntKind.wrap .u64 ((((s[p.toNat+j]'g).toNat:Nat):Int)*2^(8*j))):=by
   unfold aT;rw[wU oo oo];simp only[mZ];rw[if_neg oo];have:min (((8*j:Nat):Int)).toNat IntKind.u64.bits=8*j:=by simp only[Int.toNat_natCast];exact Nat.min_eq_left (by show 8*j<=64;omega)
   rw[this]
  have z:=Lq (x:=x) (b:=(s[p.toNat+j]'g).toNat) (j:=j) oo n w;have A:x+(s[p.toNat+j]'g).toNat*2^(8*j)<2^(8*(j+1)):=by
   have I:(2:Nat)^(8*(j+1))=256*2^(8*j):=by rw[Nat.mul_add,Nat.pow_add,dd]
   have:((s[p.toNat+j]'g).toNat+1)*2^(8*j)<=256*2^(8*j):=zQ4 _ oo;rw[zQ8,Nat.one_mul]at this;omega
  rw[D,TP g,Jy,B,C,Jy,z];exact .s ⟨(j+1,x+(s[p.toNat+j]'g).toNat*2^(8*j)),by rw[show J1 .i64 (j:Int) 1=((j+1:Nat):Int) by omega],⟨by omega,A⟩,by omega,by omega⟩;have r:j=4:=by omega
  subst r;refine⟨x,n,?_⟩;unfold aT;rw[ck oo oo]
 obtain⟨y,e,v,F,rfl⟩:=k;exact⟨v,F,e⟩;have k:Tot (JO (s,p,4)) λy=>y=(0,5):=(by unfold JO;dsimp only;exact .j (λ_=>.k (λ_=>.l (λc=>by omega) λ_=>.k (λ_=>.l (λc=>.s rfl) λc=>by omega) λc=>.s rfl) λc=>by omega) λc=>by omega);obtain⟨y,e,rfl⟩:=k;exact e
theorem zx{s:qQC}{p:Int}(hl:J0 s<=1073741824):QT (s,p)=mR (s,p):=by
 unfold QT mR;dsimp only;by_cases g:aL p 0=false;rw[if_pos g,if_pos g];have j:0<=p:=by
  have: ¬p<0:=λc=>by rw[Jw.2 c]at g;cases g
  omega
 by_cases h1:aP p (J0 s)=true;rw[if_pos h1,if_pos h1];rw[if_neg h1,if_neg h1];have x:p<=J0 s:=by have: ¬J0 s<p:=λc=>h1 (fS.2 c);omega
 rw[UB];rcases Int.lt_or_le (J0 s) (p+4)with hc|hc;rw[(ed j hl).2 hc oo];rfl;obtain⟨v,J,e⟩:=(ed j hl).1 hc;rw[e];simp only[Jy];rw[if_neg (show¬aO 0 0=true by decide),if_neg (show¬aO 0 0=true by decide)];by_cases h2:aP (v:Int) 8392=true;rw[if_pos h2,if_pos h2];rw[if_neg h2,if_neg h2];have z:(v:Int)<=8392:=by have: ¬8392<(v:Int):=λc=>h2 (fS.2 c);omega
 have E:=Jg p 4;have D:=Jg (J1 .i64 p 4) (v:Int);have F:=bG (J0 s) p;have G:=Jg (v:Int) 8;have B:=Jg p 8;have A:=Jg (J1 .i64 p 8) (v:Int);have C:=Jg (J1 .i64 (J1 .i64 p 4) (v:Int)) 4;have k:0<=J1 .i64 (J1 .i64 p 4) (v:Int):=by omega
 rw[UB];rcases Int.lt_or_le (J0 s) (J1 .i64 (J1 .i64 p 4) (v:Int)+4)with hd|hd;rw[(ed k hl).2 hd oo,if_pos (Jw.2 oo)];rfl;obtain⟨u,r,e'⟩:=(ed k hl).1 hd;rw[e',if_neg (λc=>by have:=Jw.1 c;omega)];simp only[Jy];rw[if_neg (show¬aO 0 0=true by decide)];cases hs:aU s (some p) (some (J1 .i64 (J1 .i64 p 4) (v:Int)))with
 |none=>rfl
 |some w=>
  simp only[Jy];have I:J0 w<=J0 s:=by
   have q:p<=J1 .i64 (J1 .i64 p 4) (v:Int):=by omega
   obtain⟨w',h,_,H⟩:=uT (l:=s) j q oo;rw[hs]at h;injection h with h;subst h;omega
  rw[Ng w oo,ij w oo];simp only[Jy];have y:=JQS w;have n:aT .i64 ((crc w:Nat):Int)=((crc w:Nat):Int):=by unfold aT;rw[ck oo oo]
  have o:aT .u32 (u:Int)=(u:Int):=BP _ r;rw[n,o,show J1 .i64 (J1 .i64 (J1 .i64 p 4) (v:Int)) 4=J1 .i64 (J1 .i64 p 8) (v:Int) by omega]
 rw[if_neg g,if_neg g]
theorem JNV{x:qQC×Jn}{y:Jn}(h:JO x=some y):y.2=0\/y.1=0:=by
 have e:Par (JO x) λy=>y.2=0\/y.1=0:=by unfold JO;refine .j (λ_=>.k (λ_=>.l (λ_=>.s (.inr rfl)) λ_=>.k (λ_=>.l (λ_=>.s (.inr rfl)) λ_=>?_) λ_=>.s (.inr rfl)) λ_=>.s (.inr rfl)) λ_=>.s (.inr rfl);refine .z (λ_=>True) trivial ?_;intro z _;unfold zG;exact .l (λ_=>.b λ_ _=>.b λ_ _=>.s qQG) λ_=>.s (.inl rfl)
 exact e _ h
theorem xr(x:Int×qQC×Jn):oJ x=JD x:=by
 unfold oJ JD;by_cases h:aO x.2.2.2 0=true;rw[if_pos h,if_pos h];rw[if_neg h,if_neg h,UB];have j:x.2.2.2=0:=Decidable.of_not_not λc=>h (eH.2 c);cases hg:JO (x.2.1,x.2.2.1,x.1)with
 |none=>rfl
 |some y=>
  simp only[Jy];by_cases g:y.2=0;rw[if_pos (fF.2 g),if_neg (λc=>eH.1 c g),g,j];rw[if_neg (λc=>g (fF.1 c)),if_pos (eH.2 g)];rcases JNV hg with e|e;exact absurd e g;rw[e]
theorem Oi(x:Int×qQC×Jn):QZ x=tO x:=by
 unfold QZ tO;by_cases e:x.2.2.2=0;rw[if_pos (fF.2 e)];have h: ¬aO x.2.2.2 0=true:=λc=>eH.1 c e;rw[if_neg h,if_neg h];by_cases hl:Jm .i64 (J0 x.2.1) x.2.2.1<x.1;rw[if_pos (Jw.2 hl),if_pos (fS.2 hl),if_pos (show aO 5 0=true by decide)];rw[if_neg (λc=>hl (Jw.1 c)),if_neg (λc=>hl (fS.1 c))];rw[if_neg (λc=>e (fF.1 c)),if_pos (eH.2 e),if_pos (eH.2 e)]
theorem JKQ(x:qQC×Jn):RD x=wC x:=by unfold RD wC;simp only[xr,Oi]
theorem JOD(hv: ∀e,pT e=JF e)(x:qQC):ZH x=tD x:=by unfold ZH tD;simp only[xr,Oi,JKQ,hv]
theorem dK{s:qQC}{n:Int}{k:Nat}(h1:1<=k)(e:k<=8)(hl:J0 s<=70368744177664): ∃y,fH (s,n,(k:Int))=some y/\JB (s,n,(k:Int))=some y/\J0 y=J0 s+k:=
 ⟨_,g8 h1 e hl,jj h1 e hl,by unfold J0;simp[J1y,toStr]⟩
theorem g4{a b y:qQC}(h:cN a b=some y):J0 y=J0 a+J0 b:=by
 unfold cN at h;split at h;injection h with h;subst h;unfold J0;simp;cases h
theorem VT{s:qQC}{c:gF}(hl:J0 s<=35184372088832)(hc:J0 c.2<=1073741824): ∃y,OF (s,c)=some y/\sV (s,c)=some y/\J0 y<=J0 s+J0 c.2+1:=by
 unfold OF sV;dsimp only;have q:0<=J0 c.2:=J6;by_cases h:Ji c.1=true;obtain⟨y,e,g,j⟩:=dK (s:=s) (n:=255) (k:=1) qQH qQH oo;rw[show((1:Nat):Int)=1 from rfl]at e g j;exact⟨y,by rw[if_pos h,e];rfl,by rw[if_pos h,g];rfl,by omega⟩;obtain⟨y,e,g,j⟩:=dK (s:=s) (n:=J0 c.2) (k:=1) qQH qQH oo;rw[show((1:Nat):Int)=1 from rfl]at e g j;have o:cN y c.2=some (y++c.2):=by unfold cN;rw[if_pos (by unfold J0 at*;omega)]
 exact⟨y++c.2,by rw[if_neg h,e];simp only[Jy,o],by rw[if_neg h,g];simp only[Jy,o],by have:=g4 o;omega⟩
theorem JP4{x:aA}(hv:pT x=JF x)(h1:J0 x.2.2.2.2.2.2.1.2.2.1.2<=1073741824)(h2:J0 x.2.2.2.2.2.2.1.2.2.2.2<=1073741824):oG x=mT x:=by
 unfold oG mT;rw[hv];cases JF x with
 |none=>rfl
 |some v=>
  simp only[Jy];by_cases hb:Ji v=true;rw[if_pos hb,if_pos hb];rw[if_neg hb,if_neg hb];obtain⟨V,w,S,l3⟩:=dK (s:=[]) (n:=x.1) (k:=8) qQH qQH qQH;have l0:J0 ([]:qQC)=0:=rfl;obtain⟨y4,A,M,l4⟩:=dK (s:=V) (n:=x.2.1) (k:=1) qQH qQH oo;obtain⟨K,z,L,l5⟩:=dK (s:=y4) (n:=x.2.2.1) (k:=4) qQH qQH oo;obtain⟨j,D,G,l6⟩:=dK (s:=K) (n:=x.2.2.2.1) (k:=8) qQH qQH oo;obtain⟨h,F,C,l7⟩:=dK (s:=j) (n:=x.2.2.2.2.1) (k:=8) qQH qQH oo;obtain⟨g,J,Q,l8⟩:=dK (s:=h) (n:=x.2.2.2.2.2.1) (k:=8) qQH qQH oo;obtain⟨y9,P,B,l9⟩:=dK (s:=g) (n:=x.2.2.2.2.2.2.1.1) (k:=4) qQH qQH oo;obtain⟨yA,E,I,lA⟩:=dK (s:=y9) (n:=x.2.2.2.2.2.2.1.2.1) (k:=1) qQH qQH oo;obtain⟨U,T,qB,lB⟩:=VT (s:=yA) (c:=x.2.2.2.2.2.2.1.2.2.1) oo h1;obtain⟨Z,Y,qC,lC⟩:=VT (s:=U) (c:=x.2.2.2.2.2.2.1.2.2.2) oo h2;obtain⟨H,R,O,lD⟩:=dK (s:=Z) (n:=J0 x.2.2.2.2.2.2.2) (k:=4) qQH qQH oo;simp only[show((8:Nat):Int)=8 from rfl,show((4:Nat):Int)=4 from rfl,show((1:Nat):Int)=1 from rfl]at w S A M z L D G F C J Q P B E I R O;simp only[w,S,A,M,z,L,G,C,Q,B,I,qB,qC,O,Jy];have st: ∀(o q:qQC) (i:Nat) (n:Int),i<3->idx [x.2.2.2.1,x.2.2.2.2.1,x.2.2.2.2.2.1] (i:Int)=some n->fH (o,n,8)=some q->
    J3 DP (o,[x.2.2.2.1,x.2.2.2.2.1,x.2.2.2.2.2.1],J0 [x.2.2.2.1,x.2.2.2.2.1,x.2.2.2.2.2.1],(i:Int),x)=J3 DP (q,[x.2.2.2.1,x.2.2.2.2.1,x.2.2.2.2.2.1],J0 [x.2.2.2.1,x.2.2.2.2.1,x.2.2.2.2.2.1],((i+1:Nat):Int),x):=by
   intro o q i n hi e hp;refine eR ?_;unfold DP;dsimp only;have hl:J0 [x.2.2.2.1,x.2.2.2.2.1,x.2.2.2.2.2.1]=3:=rfl;have o1:=Jg (i:Int) 1;rw[if_pos (Jw.2 oo),e];simp only[Jy];rw[hp];simp only[Jy];rw[show J1 .i64 (i:Int) 1=((i+1:Nat):Int) by omega]
  have s0:=st K j 0 _ qQH rfl D;have s1:=st j h 1 _ qQH rfl F;have W:=st h g 2 _ qQH rfl J;rw[show((0:Nat):Int)=0 from rfl]at s0;rw[s0,s1,W];have fin:DP (g,[x.2.2.2.1,x.2.2.2.2.1,x.2.2.2.2.2.1],J0 [x.2.2.2.1,x.2.2.2.2.1,x.2.2.2.2.2.1],((2+1:Nat):Int),x)=Option.map .inr ((cN H x.2.2.2.2.2.2.2).bind λN=>some (N,0)):=by unfold DP;dsimp only;have hl:J0 [x.2.2.2.1,x.2.2.2.2.1,x.2.2.2.2.2.1]=3:=rfl;rw[if_neg (λc=>by have:=Jw.1 c;omega)];simp only[P,E,T,Y,R,Jy]
  cases hc:cN H x.2.2.2.2.2.2.2 with
  |some y=>rw[hc]at fin;exact dC fin
  |none=>
   rw[hc]at fin;cases hw:J3 DP (g,[x.2.2.2.1,x.2.2.2.2.1,x.2.2.2.2.2.1],J0 [x.2.2.2.1,x.2.2.2.2.1,x.2.2.2.2.2.1],((2+1:Nat):Int),x)with
   |none=>rfl
   |some r=>
    rw[lQ]at hw;obtain⟨n,e⟩:=hw;cases n with
    |zero=>cases e
    |succ n=>simp only[dG,fin]at e;cases e
theorem JHN{σ ρ α:Type}{L:σ->Option (σ⊕ρ)}{z:σ}{o:Option α}{k:α->σ}(h:L z=o.bind λy=>some (.inl (k y))):J3 L z=o.bind λy=>J3 L (k y):=by
 cases o with
 |none=>exact JHk h
 |some y=>exact eR h
theorem JTl(a b:Int):vat (bI (bI (Vector.replicate 2 0) 0 a) 1 b) (Int.toNat 0)=some a:=by simp[vat,bI]
theorem JTe(a b:Int):vat (bI (bI (Vector.replicate 2 0) 0 a) 1 b) (Int.toNat 1)=some b:=by simp[vat,bI]
theorem GH{s:qQC}{vs:List (Vector Int 2)}{n i:Int}{r:aC}{a b:Int}(hi:i<n)(hx:idx vs i=some (bI (bI (Vector.replicate 2 0) 0 a) 1 b)):
  J3 IB (s,vs,n,i,r)=(fH (s,a,b)).bind λy=>J3 IB (y,vs,n,J1 .i64 i 1,r):=by
 refine JHN ?_;unfold IB;dsimp only;rw[Jw.2 hi,hx];simp only[if_true,Jy,JTl,JTe];rfl
theorem JLx(r:aC):yR r=(fH ([80,77,82,78],r.1,8)).bind λa=>(fH (a,r.2.1,8)).bind λa=>(fH (a,r.2.2.1,4)).bind λa=>(fH (a,r.2.2.2.1,4)).bind λa=>
  (fH (a,r.2.2.2.2.1,1)).bind λa=>fH (a,J0 r.2.2.2.2.2,4):=by
 have e:yR r=J3 IB ([80,77,82,78],[bI (bI (Vector.replicate 2 0) 0 r.1) 1 8,bI (bI (Vector.replicate 2 0) 0 r.2.1) 1 8,bI (bI (Vector.replicate 2 0) 0 r.2.2.1) 1 4,bI (bI (Vector.replicate 2 0) 0 r.2.2.2.1) 1 4,bI (bI (Vector.replicate 2 0) 0 r.2.2.2.2.1) 1 1,bI (bI (Vector.replicate 2 0) 0 (J0 r.2.2.2.2.2)) 1 4],6,0,r):=rfl;rw[e];rw[GH (show(0:Int)<6 by decide) rfl];refine congrArg (Option.bind _) (funext λa=>?_);rw[show J1 .i64 0 1=1 from rfl,GH (show(1:Int)<6 by decide) rfl];refine congrArg (Option.bind _) (funext λa=>?_);rw[show J1 .i64 1 1=2 from rfl,GH (show(2:Int)<6 by decide) rfl];refine congrArg (Option.bind _) (funext λa=>?_);rw[show J1 .i64 2 1=3 from rfl,GH (show(3:Int)<6 by decide) rfl];refine congrArg (Option.bind _) (funext λa=>?_);rw[show J1 .i64 3 1=4 from rfl,GH (show(4:Int)<6 by decide) rfl];refine congrArg (Option.bind _) (funext λa=>?_);rw[show J1 .i64 4 1=5 from rfl,GH (show(5:Int)<6 by decide) rfl];cases fH (a,J0 r.2.2.2.2.2,4)with
 |none=>rfl
 |some y=>refine dC ?_;unfold IB;rfl
theorem JPh(r:aC):yR r=rJ r:=by rw[JLx];unfold rJ;have N:J0 ([80,77,82,78]:qQC)=4:=rfl;obtain⟨B,w,y,K⟩:=dK (s:=[80,77,82,78]) (n:=r.1) (k:=8) qQH qQH qQH;obtain⟨F,j,A,L⟩:=dK (s:=B) (n:=r.2.1) (k:=8) qQH qQH oo;obtain⟨C,e,z,H⟩:=dK (s:=F) (n:=r.2.2.1) (k:=4) qQH qQH oo;obtain⟨E,h,x,I⟩:=dK (s:=C) (n:=r.2.2.2.1) (k:=4) qQH qQH oo;obtain⟨D,g,v,G⟩:=dK (s:=E) (n:=r.2.2.2.2.1) (k:=1) qQH qQH oo;obtain⟨J,o,q,M⟩:=dK (s:=D) (n:=J0 r.2.2.2.2.2) (k:=4) qQH qQH oo;simp only[show((8:Nat):Int)=8 from rfl,show((4:Nat):Int)=4 from rfl,show((1:Nat):Int)=1 from rfl]at w y j A e z h x g v o q;simp only[w,y,j,A,e,z,h,x,g,v,o,q,Jy]
theorem JMI{x:aC}(hl:J0 (ent x)<=4096)(he: ∀e∈ent x,oG e=mT e)(hv: ∀e∈ent x,∃b,mT e=some (b,0)/\J0 b<=8392)(hf: ∀(b:qQC),J0 b<=8392-> ∃f,lS b=some f/\J0 f=J0 b+8):
  ∀(l:List aA) (i:Nat) (out:qQC),(ent x).drop i=l->i<=(ent x).length->J0 out<=8400*(i+1)->
   rW mP oG 40 l out=J3 zH (out,(i:Int),x):=by
 intro l
 induction l with
 |nil=>
  intro i out hd hi v;have hi':i=(ent x).length:=by have:=congrArg List.length hd;simp at this;omega
  refine(dC ?_).symm;unfold zH;dsimp only;rw[if_neg (λc=>by have:=Jw.1 c;have:(i:Int)<J0 (ent x):=this;unfold J0 at this;omega)]
 |cons e l ih=>
  intro i out hd hi v;have n:i<(ent x).length:=(by rcases zQ3 i (ent x).length with h|h;exact h;rw[List.drop_of_length_le h]at hd;cases hd);have o:(ent x)[i]?=some e:=by have:=congrArg (λl=>l[0]?) hd;simpa using this
  have q:e∈ent x:=zQ5 o;obtain⟨b,hb,r⟩:=hv e q;obtain⟨f,g,z⟩:=hf b r;have y:=Jg (i:Int) 1;have w:J0 (ent x)=((ent x).length:Int):=rfl;have j:cN out f=some (out++f):=by unfold cN;rw[if_pos (by unfold J0 at*;omega)]
  have step:zH (out,(i:Int),x)=some (.inl (out++f,((i+1:Nat):Int),x)):=by
   unfold zH;dsimp only;have k:idx x.2.2.2.2.2 (i:Int)=some e:=by show idx (ent x) (i:Int)=some e;unfold idx;rw[if_pos oo,Int.toNat_natCast];exact o
   rw[if_pos (Jw.2 (by show(i:Int)<J0 (ent x);omega)),k];simp only[Jy];rw[hb];simp only[Jy];rw[g];simp only[Jy];rw[j];simp only[Jy];rw[show J1 .i64 (i:Int) 1=((i+1:Nat):Int) by omega]
  rw[eR step];unfold rW;rw[he e q,hb];simp only[Jy];rw[if_pos trivial,wz,g];simp only[Jy];rw[if_pos (by unfold J0 at*;omega)];refine ih (i+1) (out++f) ?_ n (by unfold J0 at*;simp;omega);rw[<-wM,hd];rfl
theorem JIX{x:aA}(hv:JF x=some true)(h1:J0 x.2.2.2.2.2.2.1.2.2.1.2<=12)(h2:J0 x.2.2.2.2.2.2.1.2.2.2.2<=12)(h3:J0 x.2.2.2.2.2.2.2<=8192): ∃b,mT x=some (b,0)/\J0 b<=8392:=by
 unfold mT;rw[hv];simp only[Jy];rw[if_neg (show¬Ji true=true by decide)];obtain⟨D,V,z,I⟩:=dK (s:=[]) (n:=x.1) (k:=8) qQH qQH qQH;have l0:J0 ([]:qQC)=0:=rfl;obtain⟨Q,Y,r,K⟩:=dK (s:=D) (n:=x.2.1) (k:=1) qQH qQH oo;obtain⟨H,W,q,B⟩:=dK (s:=Q) (n:=x.2.2.1) (k:=4) qQH qQH oo;obtain⟨L,p6,h,U⟩:=dK (s:=H) (n:=x.2.2.2.1) (k:=8) qQH qQH oo;obtain⟨A,p7,g,M⟩:=dK (s:=L) (n:=x.2.2.2.2.1) (k:=8) qQH qQH oo;obtain⟨G,p8,y,E⟩:=dK (s:=A) (n:=x.2.2.2.2.2.1) (k:=8) qQH qQH oo;obtain⟨N,p9,e,P⟩:=dK (s:=G) (n:=x.2.2.2.2.2.2.1.1) (k:=4) qQH qQH oo;obtain⟨S,pA,o,O⟩:=dK (s:=N) (n:=x.2.2.2.2.2.2.1.2.1) (k:=1) qQH qQH oo;obtain⟨C,pB,T,lB⟩:=VT (s:=S) (c:=x.2.2.2.2.2.2.1.2.2.1) oo oo;obtain⟨F,pC,R,Z⟩:=VT (s:=C) (c:=x.2.2.2.2.2.2.1.2.2.2) oo oo;obtain⟨j,pD,v,J⟩:=dK (s:=F) (n:=J0 x.2.2.2.2.2.2.2) (k:=4) qQH qQH oo;simp only[show((8:Nat):Int)=8 from rfl,show((4:Nat):Int)=4 from rfl,show((1:Nat):Int)=1 from rfl]at z r q h g y e o v I K B U M E P O J;simp only[z,r,q,h,g,y,e,o,T,R,v,Jy];have w:cN j x.2.2.2.2.2.2.2=some (j++x.2.2.2.2.2.2.2):=by unfold cN;rw[if_pos (by unfold J0 at*;omega)]
 rw[w];exact⟨_,rfl,by have:=g4 w;omega⟩
theorem ye{b:qQC}(hb:J0 b<=8392): ∃f,lS b=some f/\J0 f=J0 b+8:=by
 unfold lS;rw[if_neg (λc=>by have:=fS.1 c;omega)];have r:0<=J0 b:=J6;have v:J0 ([]:qQC)=0:=rfl;obtain⟨y,p,q,l⟩:=dK (s:=[]) (n:=J0 b) (k:=4) qQH qQH qQH;simp only[show((4:Nat):Int)=4 from rfl]at q l;rw[q];simp only[Jy];have e:cN y b=some (y++b):=by unfold cN;rw[if_pos (by unfold J0 at*;omega)]
 rw[e];simp only[Jy];have j:=g4 e;rw[ij _ oo];simp only[Jy];obtain⟨z,o,g,h⟩:=dK (s:=y++b) (n:=aT .i64 ((crc (y++b):Nat):Int)) (k:=4) qQH qQH oo;simp only[show((4:Nat):Int)=4 from rfl]at g h;rw[g];exact⟨z,rfl,by omega⟩
theorem JMo(r:aC): ∃y,rJ r=some y/\J0 y=33:=by unfold rJ;have O:J0 ([80,77,82,78]:qQC)=4:=rfl;obtain⟨v,N,j,E⟩:=dK (s:=[80,77,82,78]) (n:=r.1) (k:=8) qQH qQH qQH;obtain⟨H,L,q,F⟩:=dK (s:=v) (n:=r.2.1) (k:=8) qQH qQH oo;obtain⟨x,I,o,A⟩:=dK (s:=H) (n:=r.2.2.1) (k:=4) qQH qQH oo;obtain⟨D,K,h,B⟩:=dK (s:=x) (n:=r.2.2.2.1) (k:=4) qQH qQH oo;obtain⟨z,J,g,w⟩:=dK (s:=D) (n:=r.2.2.2.2.1) (k:=1) qQH qQH oo;obtain⟨C,M,e,G⟩:=dK (s:=z) (n:=J0 r.2.2.2.2.2) (k:=4) qQH qQH oo;simp only[show((8:Nat):Int)=8 from rfl,show((4:Nat):Int)=4 from rfl,show((1:Nat):Int)=1 from rfl]at j q o h g e E F A B w G;simp only[j,q,o,h,g,e,Jy];exact⟨C,rfl,by omega⟩
theorem JOF{x:aC}(h:gK x):DD x=jQ x:=by
 obtain⟨v,E,C,hR⟩:=vv h;have e:DD x=LP iL yR mP oG (λx=>x.2.2.2.2.2) x:=rfl;rw[e];unfold LP jQ;rw[E,C];simp only[Jy];cases v with
 |false=>rw[if_neg (show¬false=true by decide),if_pos (show Ji false=true by decide)]
 |true=>
  rw[if_pos rfl,if_neg (show¬Ji true=true by decide),JPh];have R:=hR rfl;obtain⟨y,D,A⟩:=JMo x;obtain⟨f,hf,z⟩:=ye (b:=y) oo;rw[D];simp only[Jy];rw[wz,hf];simp only[Jy];rw[if_pos (by unfold J0 at z A;omega)];have w: ∀e∈ent x,Ty.fit 16384 9223372036854775807 J4 e:=h.2.2.2.2.2.2;have o: ∀e∈ent x,JF e=some true/\J0 e.2.2.2.2.2.2.1.2.2.1.2<=12/\J0 e.2.2.2.2.2.2.1.2.2.2.2<=12/\e.2.2.2.2.2.2.2=[]:=λe g=>by obtain⟨j,F⟩:=qK.1 g;obtain⟨k,n,_⟩:=R.2.2.1 j e F;obtain⟨_,_,_,_,_,_,_,_,_,_,b1,b2,_⟩:=EF.of k n;have c:=(YI (B:=16384) (S:=9223372036854775807) (X:=e.2.2.2.2.2.2.1) (w e g).2.2.2.2.2.2.1).get b2;exact⟨k,(c.2 rfl).2.2.2.2.1,(c.2 rfl).2.2.2.2.2,b1⟩
  refine JMI R.2.1 (λe g=>?_) (λe g=>?_) (λb hb=>ye hb) (ent x) 0 f rfl (zQ2 _) oo;obtain⟨k,n,q,r⟩:=o e g;exact JP4 (K7 e) oo oo;obtain⟨k,n,q,r⟩:=o e g;exact JIX k n q (by rw[r];decide)
theorem JSy(x:Int×qQC×Int):wB x=(JG (x.2.1,x.2.2,x.1)).map λv=>(v,x.2.1,J1 .i64 x.2.2 x.1):=by
 obtain⟨n,s,a⟩:=x;unfold wB JG;dsimp only;rw[UB];cases JO (s,a,n)with
 |none=>rfl
 |some y=>rfl
theorem JQ8{s:qQC}(h:J0 s=33):IJ s=(aU s none (some 4)).bind λk=>if neS k [80,77,82,78]=true then some (0,0,0,0,0,0,false,[])else
  (JG (s,4,8)).bind λa=>(JG (s,12,8)).bind λb=>(JG (s,20,4)).bind λc=>(JG (s,24,4)).bind λd=>(JG (s,28,1)).bind λe=>(JG (s,29,4)).bind λn=>
   some (a,b,c,d,e,n,aW n 4096,[]):=by
 unfold IJ vp wb;dsimp only;have j:J0 ([80,77,82,78]:qQC)=4:=rfl;rw[h,if_pos (show aO 33 33=false by decide),j,if_pos (show aR 33 4=true by decide)];cases aU s none (some 4)with
 |none=>rfl
 |some y=>
  simp only[Jy];by_cases g:y=[80,77,82,78];subst g;rw[if_neg (show¬Ji (eqS [80,77,82,78] [80,77,82,78])=true by decide),if_neg (show¬neS [80,77,82,78] [80,77,82,78]=true by decide)];simp only[JSy,show J1 .i64 4 8=12 by decide,show J1 .i64 12 8=20 by decide,show J1 .i64 20 4=24 by decide,show J1 .i64 24 4=28 by decide,show J1 .i64 28 1=29 by decide];cases JG (s,4,8)with
  |none=>rfl
  |some a=>
   simp only[cT,Jy,show J1 .i64 4 8=12 by decide];cases JG (s,12,8)with
   |none=>rfl
   |some b=>
    simp only[cT,Jy,show J1 .i64 12 8=20 by decide];cases JG (s,20,4)with
    |none=>rfl
    |some c=>
     simp only[cT,Jy,show J1 .i64 20 4=24 by decide];cases JG (s,24,4)with
     |none=>rfl
     |some d=>
      simp only[cT,Jy,show J1 .i64 24 4=28 by decide];cases JG (s,28,1)with
      |none=>rfl
      |some e=>
       simp only[cT,Jy,show J1 .i64 28 1=29 by decide];cases JG (s,29,4)with
       |none=>rfl
       |some n=>rfl
  have o:neS y [80,77,82,78]=true:=by simp[neS,g]
  have q:Ji (eqS y [80,77,82,78])=true:=by simp[eqS,g,Ji]
  rw[if_pos o,if_pos q]
theorem JO4{s:qQC}(h: ¬J0 s=33):IJ s=some (0,0,0,0,0,0,false,[]):=by unfold IJ;rw[if_neg (by rw[<-Bool.not_eq_true,eH];exact λt=>t h)]
theorem JOs{x:qQC×Jn}{y:Jn}(h:JO x=some y): -9223372036854775808<=y.1/\y.1<=9223372036854775807:=by
 have e:Par (JO x) λy=> -9223372036854775808<=y.1/\y.1<=9223372036854775807:=by unfold JO;refine .j (λ_=>.k (λ_=>.l (λ_=>.s qQH) λ_=>.k (λ_=>.l (λ_=>.s qQH) λ_=>?_) λ_=>.s qQH) λ_=>.s qQH) λ_=>.s qQH;refine .z (λ_=>True) trivial ?_;intro z _;unfold zG;exact .l (λ_=>.b λ_ _=>.b λ_ _=>.s qQG) λ_=>.s (pL .i64 _)
 exact e _ h
theorem NQ{x:qQC×Jn}{n:Int}(h:JG x=some n): -9223372036854775808<=n/\n<=9223372036854775807:=by unfold JG at h;obtain⟨y,g,e⟩:=bU.1 h;injection e with e;subst e;exact JOs g
theorem O7{x:qQC}(hl:J0 x<=1073741824):QL x=rS x:=by
 unfold QL rS;rw[zx hl];cases hu:mR (x,0)with
 |none=>rfl
 |some g=>
  dsimp only[Option.bind_some];by_cases c:aO g.2.2 0=true;rw[if_pos c,if_pos c];rw[if_neg c,if_neg c];have U:g.2.2=0:=Decidable.of_not_not λt=>c (eH.2 t);by_cases h:J0 g.1=33;rw[JQ8 h,if_pos (by rw[<-Bool.not_eq_true,eH];exact λt=>t h)];cases aU g.1 none (some 4)with
  |none=>rfl
  |some P=>
   dsimp only[Option.bind_some];by_cases D:neS P [80,77,82,78]=true;rw[if_pos D,if_pos D];rfl;rw[if_neg D,if_neg D];cases ha:JG (g.1,4,8)with
   |none=>rfl
   |some a=>
    cases hb:JG (g.1,12,8)with
    |none=>rfl
    |some b=>
     cases hc:JG (g.1,20,4)with
     |none=>rfl
     |some c=>
      cases hd:JG (g.1,24,4)with
      |none=>rfl
      |some d=>
       cases he:JG (g.1,28,1)with
       |none=>rfl
       |some e=>
        cases hf:JG (g.1,29,4)with
        |none=>rfl
        |some n=>
         dsimp only[Option.bind_some];by_cases L:4096<n;rw[if_pos (fS.2 L),if_pos (show Ji (aW n 4096)=true by rw[show aW n 4096=false by rw[<-Bool.not_eq_true,dD];omega];rfl)];rw[if_neg (λt=>L (fS.1 t)),if_neg (show¬Ji (aW n 4096)=true by rw[dD.2 oo];decide)];have F:=((IL (B:=0) (S:=1073741824) (X:=(x,0)) ⟨hl,lH .i64 0⟩).get hu).2 U;refine WA (λz w=>z=w/\z.1=x/\(0<=z.2.1/\z.2.1<=J0 x)/\z.2.2.1=n/\0<=z.2.2.2.1/\z.2.2.2.2.2.2.2.2.2.2.2=([],a,b,c,d,e)/\J0 z.2.2.2.2.2.2.2.2.2.2.1<=z.2.2.2.1/\(z.2.2.2.1<=n\/z.2.2.2.1<=0)/\ ∀q∈z.2.2.2.2.2.2.2.2.2.2.1,Ty.fit 16384 9223372036854775807 J4 q) ?_ ⟨rfl,rfl,⟨F.1,F.2.1⟩,rfl,aY _,rfl,aY _,.inr (aY _),nofun⟩;rintro⟨s,p,m,i,w1,w2,w3,Z,w5,w6,l,w7⟩ w ⟨rfl,M,W,K,R,I,O,N,H⟩;dsimp only at M W K R I O N H;subst M K I;unfold Fk fg;dsimp only;by_cases j:aL i m=true;rw[if_pos j,if_pos j,zx hl];have j:=Jw.1 j;cases hU:mR (s,p)with
         |none=>exact .inl ⟨rfl,rfl⟩
         |some u=>
          dsimp only[Option.bind_some];by_cases y:aO u.2.2 0=true;rw[if_pos y,if_pos y];exact .inr (.inl ⟨_,rfl,rfl⟩);rw[if_neg y,if_neg y,JOD K7];have E:u.2.2=0:=Decidable.of_not_not λt=>y (eH.2 t);cases hD:tD u.1 with
          |none=>exact .inl ⟨rfl,rfl⟩
          |some v=>
           dsimp only[Option.bind_some];by_cases k:aO v.2 0=true;rw[if_pos k];exact .inr (.inl ⟨_,rfl,rfl⟩);rw[if_neg k];cases hA:Jr 128 l [v.1]with
           |none=>exact .inl ⟨rfl,rfl⟩
           |some Q=>
            have ea:Q=l++[v.1]:=(by unfold Jr at hA;split at hA;injection hA with hA;exact hA.symm;cases hA);have G:=(IL (B:=0) (S:=1073741824) (X:=(s,p)) ⟨hl,J2.2 (show -9223372036854775808<=p/\p<=9223372036854775807 by omega)⟩).get hU;have T:=(n7 (B:=0) (S:=1073741824) (X:=u.1) G.1.1).get hD;have o:=Jg i 1;refine .inr (.inr ⟨_,_,rfl,rfl,rfl,rfl,⟨(G.2 E).1,(G.2 E).2.1⟩,rfl,?_,rfl,?_,?_,?_⟩);dsimp only;omega;subst ea;dsimp only;rw[cM,bY];omega;dsimp only;omega;subst ea;intro q A;rcases zQ9.1 A with A|A;exact H q A;rw[eB.1 A];exact Ty.fit.up qQH qQH T.1
         rw[if_neg j,if_neg j];by_cases C:aL p (J0 s)=true;have J:=Jw.1 C;rw[if_pos C,if_pos (eH.2 oo)];exact .inr (.inl ⟨_,rfl,rfl⟩);have J: ¬p<J0 s:=λt=>C (Jw.2 t);rw[if_neg C,if_neg (λt=>eH.1 t oo)];obtain⟨v,V,Y,_⟩:=vv (r:=(a,b,c,d,e,l)) ⟨J2.2 (NQ ha),J2.2 (NQ hb),J2.2 (NQ hc),J2.2 (NQ hd),J2.2 (NQ he),by show J0 l<=16384;omega,H⟩;rw[V,Y];dsimp only[Option.bind_some];by_cases k:Ji v=true;rw[if_pos k];exact .inr (.inl ⟨_,rfl,rfl⟩);rw[if_neg k];exact .inr (.inl ⟨_,rfl,rfl⟩)
  rw[JO4 h,if_neg (by rw[<-Bool.not_eq_true,eH];exact λt=>t h)];rfl
section
theorem xP:J0 (ent ((0,0,0,0,0,[]):aC))<=4096:=by decide
theorem VF{x:qQC}(hl:J0 x<=1073741824):Tot (rS x) λy=>J0 (ent y.1)<=4096/\(y.2=0->cZ y.1/\gK y.1):=by
 unfold rS;refine .b ((IL (B:=0) (S:=1073741824) (X:=(x,0)) ⟨hl,lH .i64 0⟩)) λj h2=>.d (λc=>.s ⟨xP,λk=>absurd k c⟩) λJ=>.q (λT=>?_) λ_=>.s ⟨xP,λk=>absurd k qQH⟩;obtain⟨U,I,_⟩:=wP (l:=j.1) (k:=4) qQH oo;have num: ∀a k:Int, -9223372036854775808<=a/\a<=9223372036854775807-> -9223372036854775808<=k/\k<=9223372036854775807->Tot (JG (j.1,a,k)) λn=> -9223372036854775808<=n/\n<=9223372036854775807:=λa k C hk=>
  (Yh (B:=0) (S:=1073741824) (X:=(j.1,a,k)) ⟨h2.1.1,J2.2 C,J2.2 hk⟩).mono λn h=>J2.1 h
 refine .w I (.i (λ_=>.s ⟨xP,λk=>absurd k qQH⟩) λ_=>.b (num 4 8 qQH qQH) λa C=>.b (num 12 8 qQH qQH) λb hb=>.b (num 20 4 qQH qQH) λc hc=>.b (num 24 4 qQH qQH) λd hd=>.b (num 28 1 qQH qQH) λe O=>.b (num 29 4 qQH qQH) λn Z=>.g (λ_=>.s ⟨xP,λk=>absurd k qQH⟩) λW=>?_);have w:=h2.2 J;refine Jl (τ:=Int×Int×List aA) (λq=>(x,q.1,n,q.2.1,[],0,0,0,0,0,q.2.2,[],a,b,c,d,e)) (λq=>(0<=q.1/\q.1<=J0 x)/\0<=q.2.1/\(q.2.1<=n\/q.2.1<=0)/\J0 q.2.2<=q.2.1/\ ∀z∈q.2.2,Ty.fit 16384 9223372036854775807 J4 z) (λq=>n-q.2.1) ?_ (j.2.1,0,[]) rfl ⟨⟨w.1,w.2.1⟩,aY _,.inr (aY _),aY _,nofun⟩;rintro⟨p,i,l⟩ ⟨L,R,M,H,A⟩;dsimp only at L R M H A;unfold fg;dsimp only;have o:=Jg i 1;refine .l (λV=>?_) λ_=>.map (P:=λy=>J0 (ent y.1)<=4096/\(y.2=0->cZ y.1/\gK y.1)) ?_ λ_ h=>h;refine .b ((IL (B:=0) (S:=1073741824) (X:=(x,p)) ⟨hl,J2.2 (show -9223372036854775808<=p/\p<=9223372036854775807 by omega)⟩)) λu F=>.d (λc=>.s ⟨xP,λk=>absurd k c⟩) λG=>.b (n7 (B:=0) (S:=1073741824) (X:=u.1) F.1.1) λv Q=>.d (λc=>.s ⟨xP,λk=>absurd k c⟩) λD=>.w (eO (bytes:=128) (l:=l) (m:=[v.1]) (by rw[bY];omega) qQH) (.s ?_);have r:=F.2 G;refine⟨(u.2.1,J1 .i64 i 1,l++[v.1]),rfl,⟨⟨r.1,r.2.1⟩,?_,?_,?_,λz g=>?_⟩,?_,?_⟩;dsimp only;omega;dsimp only;omega;dsimp only;rw[cM,bY];omega;rcases zQ9.1 g with g|g;exact A z g;rw[eB.1 g];exact Ty.fit.up qQH qQH Q.1;dsimp only;omega;omega;refine .d (λ_=>.s ⟨xP,λk=>absurd k qQH⟩) λ_=>?_;have E:gK (a,b,c,d,e,l):=⟨J2.2 C,J2.2 hb,J2.2 hc,J2.2 hd,J2.2 O,by show J0 l<=16384;omega,A⟩;obtain⟨v,Y,N,K⟩:=vv E;refine .w N (.n (λ_=>.s ⟨xP,λk=>absurd k qQH⟩) λD=>.s ⟨?_,λ_=>⟨K D,E⟩⟩);show J0 l<=4096;omega
end
section
theorem JOo(x:kD):fb x=iX x:=by
 unfold fb iX;split;cases idx x.1.1 x.2<;>cases idx x.1.1 (J1 .i64 x.2 1)<;>rfl
 rfl
theorem JPk(x:sx):fp x=jR x:=by
 unfold fp jR;refine WA (λs t=>s=(J0 x.1.1,t.1,x.1,x.2)/\t.2=(x.1,x.2)) ?_ ⟨rfl,rfl⟩;rintro s ⟨i,a,r⟩ ⟨rfl,h⟩;injection h with h1 h2;subst h1 h2;unfold Gp KA;dsimp only;by_cases c:aL i (J0 x.1.1)=true;rw[if_pos c,if_pos c,JOo];cases iX (x.1,i)with
 |none=>exact .inl ⟨rfl,rfl⟩
 |some y=>
  dsimp only[Option.bind_some];by_cases d:aM y.1 x.2.2.2.1=true;rw[if_pos d,if_pos d];by_cases e:aM y.2 x.2.2.2.2.1=true;rw[if_pos e,if_pos e];exact .inr (.inl ⟨_,rfl,rfl⟩);rw[if_neg e,if_neg e];exact .inr (.inr ⟨_,_,rfl,rfl,rfl,rfl⟩);rw[if_neg d,if_neg d];exact .inr (.inr ⟨_,_,rfl,rfl,rfl,rfl⟩)
 rw[if_neg c,if_neg c];exact .inr (.inl ⟨_,rfl,rfl⟩)
theorem KJ{a:J8}(h:J0 a.1<=16)(r:aC):Tot (jR (a,r)) λy=>(y= -1\/(0<=y/\y<J0 a.1))/\(0<=y->idx a.1 y=some r.2.2.1):=by
 unfold jR;refine fT (l:=a.1) (λi (_:Unit)=>(i,a,r)) (λ_ _=>True) (λpre x t _ hl _=>?_) (λ_ _=>?_) a.1 [] () _ rfl rfl trivial;unfold KA;dsimp only;have lt:=dV hl;have g:=J6 (l:=pre);have o:=fQ hl (n:=16) h;rw[if_pos (Jw.2 lt)];have j:Tot (iX (a,J0 pre)) λy=>y.1=x:=by unfold iX;dsimp only;have q:=Jg (J0 pre) 1;refine .l (λc=>?_) λc=>.w (eY hl) (.s rfl);obtain⟨w,e,_⟩:=kL (l:=a.1) (i:=J1 .i64 (J0 pre) 1) oo c;exact .w e (.w (eY hl) (.s rfl))
 refine .b j λy k=>.e (λc=>.e (λ_=>.s ⟨.inr ⟨g,lt⟩,λ_=>?_⟩) λ_=>.s ⟨(),by rw[o],qQG⟩) λ_=>.s ⟨(),by rw[o],qQG⟩;rw[eY hl,<-k,c];unfold KA;dsimp only;rw[if_neg (by rw[Jw];omega)];exact .s ⟨.inl rfl,λh=>absurd h qQH⟩
def Itc(a:J8)(f:aI)(r:aC)(p:Int):Prop:=f.1=1/\rS f.2.2=some (r,0)/\jR (a,r)=some p/\0<=p
theorem Itc.uniq{a:J8}{f:aI}{r r':aC}{p j:Int}(h:Itc a f r p)(g:Itc a f r' j):r=r'/\p=j:=by have e:=h.2.1.symm.trans g.2.1;injection e with e;injection e with e _;subst e;have k:=h.2.2.1.symm.trans g.2.2.1;injection k with k;exact⟨rfl,k⟩
variable {a:J8} (hb:J0 a.1<=16) {f:aI} (hs:J0 f.2.2<=1073741824)
include hb hs
theorem JTi:Tot (YU (a,f)) λy=>(y.2<J0 a.1/\Itc a f y.1 y.2)\/(y.2= -1/\ ∀r p,¬Itc a f r p):=by
 unfold YU;dsimp only;refine .d (λc=>.s (.inr ⟨rfl,λr p h=>c h.1⟩)) λc=>.b (VF hs).eqn λy h=>.d (λd=>.s (.inr ⟨rfl,λr p k=>d (by have:=h.2.symm.trans k.2.1;injection this with this;rw[this])⟩)) λd=>.b (KJ hb y.1).eqn λq j=>.s ?_;obtain⟨r,z⟩:=y;dsimp only at d;subst d;dsimp only at j⊢;rcases j.1.1 with k|k;subst k;exact .inr ⟨rfl,λr' n k=>by have e:=h.2.symm.trans k.2.1;injection e with e;injection e with e _;subst e;have g:=j.2.symm.trans k.2.2.1;injection g with g;have:=k.2.2.2;omega⟩;exact .inl ⟨k.2,c,h.2,j.2,k.1⟩
theorem JT7:Tot (fq (a,f)) λy=>(y.2=true/\ ∃p,p<J0 a.1/\Itc a f y.1 p)\/(y.2=false/\ ∀r p,¬Itc a f r p):=by
 unfold fq;dsimp only;refine .d (λc=>.s (.inr ⟨rfl,λr p h=>c h.1⟩)) λc=>?_;rw[O7 hs];refine .b (VF hs).eqn λy h=>.e (λd=>?_) λd=>.s (.inr ⟨rfl,λr p k=>d (by have:=h.2.symm.trans k.2.1;injection this with this;rw[this])⟩);rw[JPk];refine .b (KJ hb y.1).eqn λq j=>.s ?_;obtain⟨r,z⟩:=y;dsimp only at d;subst d;dsimp only at j⊢;rcases j.1.1 with k|k;subst k;exact .inr ⟨rfl,λr' n k=>by have e:=h.2.symm.trans k.2.1;injection e with e;injection e with e _;subst e;have g:=j.2.symm.trans k.2.2.1;injection g with g;have:=k.2.2.2;omega⟩;exact .inl ⟨jL.2 k.1,q,k.2,c,h.2,j.2,k.1⟩
omit hb hs
noncomputable def its(a:J8)(f:aI):Option aB:= @dite _ (∃r p,Itc a f r p) (Classical.propDecidable _) (λh=>some (h.choose,f.2.1)) λ_=>none
theorem BY{r:aC}{p:Int}(h:Itc a f r p):its a f=some (r,f.2.1):=by have k: ∃r p,Itc a f r p:=⟨r,p,h⟩;unfold its;rw[dif_pos k];obtain⟨q,e⟩:=k.choose_spec;rw[(e.uniq h).1]
theorem VS(h: ∀r p,¬Itc a f r p):its a f=none:=by unfold its;rw[dif_neg];exact fun⟨r,p,k⟩=>h r p k
theorem MV{x:aB}(h:its a f=some x):x.2=f.2.1/\ ∃p,Itc a f x.1 p:=by
 unfold its at h;split at h;rename_i k;injection h with h;subst h;exact⟨rfl,k.choose_spec⟩;cases h
noncomputable def dB(a:J8):List aB:=a.2.2.1.filterMap (its a)
theorem Itc.ok{r:aC}{p:Int}(h:Itc a f r p)(hs:J0 f.2.2<=1073741824):cZ r/\gK r:=by exact((VF hs).get h.2.1).2 rfl
end
section
def PL{α:Type}(p:α->Bool)(l:List α)(i:Int):Prop:=(i= -1/\ ∀x∈l,p x=false)\/ ∃pre x t,l=pre++x::t/\i=J0 pre/\p x=true/\ ∀y∈pre,p y=false
theorem UT{σ ρ α:Type}{L:σ->Option (σ⊕ρ)}(p:α->Bool){l:List α}(e:Int->σ)(r:Int->ρ)
  (hs: ∀pre x t,l=pre++x::t->L (e (J0 pre))=if p x=true then some (.inr (r (J0 pre)))else some (.inl (e (J0 (pre++[x])))))
  (he:L (e (J0 l))=some (.inr (r (-1)))):Tot (J3 L (e 0)) λy=> ∃i,y=r i/\PL p l i:=by
 refine fT (l:=l) (λi (_:Unit)=>e i) (λpre _=> ∀y∈pre,p y=false) (λpre x t _ hl g=>?_) (λ_ g=>?_) l [] () _ rfl rfl nofun;rw[hs pre x t hl];by_cases c:p x=true;rw[if_pos c];exact .s ⟨_,rfl,.inr ⟨pre,x,t,hl,rfl,c,g⟩⟩;rw[if_neg c];refine .s ⟨(),rfl,λy j=>?_⟩;rcases zQ9.1 j with h|h;exact g y h;rw[eB.1 h];simpa using c;rw[he];exact .s ⟨_,rfl,.inl ⟨rfl,g⟩⟩
theorem TZ{σ ρ α:Type}{L:σ->Option (σ⊕ρ)}{Q:ρ->Prop}(p:α->Bool){l:List α}(e:Nat->Nat->List α->σ)
  (hk: ∀i j k x,i<k.length->k[j]?=some x->k.length=l.length->p x=false->L (e i j k)=some (.inl (e (i+1) (j+1) (k.set i x))))
  (hd: ∀i j k x,k[j]?=some x->k.length=l.length->p x=true->L (e i j k)=some (.inl (e i (j+1) k)))
  (he: ∀i k,k.length=l.length->i<k.length->k.take i=l.filter (λx=> !p x)->Tot (L (e i l.length k)) (zN Q)):
  ∀(t:List α) (i j:Nat) (k:List α),j+t.length=l.length->l.drop j=t->k.drop j=t->k.length=l.length->i<j->k.take i=(l.take j).filter (λx=> !p x)->Tot (J3 L (e i j k)) Q
 |[],i,j,k,h1,h2,v,n,B,o=>by
  have A:j=l.length:=by simpa using h1
  subst A;rw[List.take_length]at o;refine .step ((he i k n oo o).mono λr h=>?_);cases r with
  |inl z=>exact h.elim
  |inr y=>exact h
 |x::t,i,j,k,h1,h2,v,n,B,o=>by
  have g: ∀{m:List α},m.drop j=x::t->m[j]?=some x/\m.drop (j+1)=t:=fun{m} h=>by refine⟨by rw[<-List.head?_drop,h];rfl,?_⟩;rw[<-wM,h];rfl
  obtain⟨C,w⟩:=g h2;obtain⟨b1,b2⟩:=g v;rw[kQ]at h1;have q:(l.take (j+1)).filter (λx=> !p x)=(l.take j).filter (λx=> !p x)++[x].filter (λx=> !p x):=by rw[List.take_add_one,C,List.filter_append];rfl
  by_cases c:p x=true;refine .step ?_;rw[hd i j k x b1 n c];refine .s (TZ p e hk hd he t i (j+1) k oo w b2 n oo ?_);rw[q,o,List.filter_cons_of_neg (by simp[c])];simp;have c:p x=false:=by simpa using c
  refine .step ?_;rw[hk i j k x oo b1 n c];refine .s (TZ p e hk hd he t (i+1) (j+1) (k.set i x) oo w ?_ (by rw[List.length_set];exact n) oo ?_);rw[List.drop_set_of_lt oo];exact b2;rw[q,<-o,List.filter_cons_of_pos (by simp[c])];rw[List.take_add_one,List.take_set_of_le (zQ0 i),DZ oo];rfl
theorem JPc{n len:Nat}(h:n<len):zQ (n:Int) len=some n:=by unfold zQ;rw[if_pos oo];simp
theorem JOu{n len:Nat}(h:n<=len):zO (n:Int) len=some n:=by unfold zO;rw[if_pos oo];simp
theorem FH{n i:Nat}(h:i<n):aX n (i:Int)=some ():=by grind [aX]
theorem xB{n:Nat}(h:n<4611686018427387904):J1 .i64 (n:Int) 1=((n+1:Nat):Int):=by grind [Jg]
theorem Oj{β:Type}{t:Ty}{e:List t.D}{i:Nat}{Q:β->Prop}{k:List t.D->Nat->Option β}(h:i<e.length)(hk: ∀m,m.take i=e.take i->Tot (k m i) Q):
  Tot ((zQ (i:Int) (List.length e)).bind λn=>(EQ t n e).bind λg=>(zO (i:Int) (List.length g)).bind λj=>k g j) Q:=by
 refine .w (JPc h) ?_;unfold EQ;rw[if_pos (Nat.le_of_lt h)];refine .w rfl ?_;have hl:i<=(e.take i++List.replicate (e.length-i) t.zero).length:=by simp;omega
 refine .w (JOu hl) (hk _ ?_);rw[List.take_append_of_le_length (by simp;omega),List.take_take,Nat.min_self]
theorem L9{l:List aA}{j:Nat}{x:aA}(h:l[j]?=some x):j<l.length:=(eC.1 h).1
theorem JMN{r:aC}{to:Int}(hl:J0 (ent r)<=4096)(h0:0<=to)(h1:to<=1099511627776):DO (r,to)=some (abv r to):=by
 have z:Tot (DO (r,to)) λy=>y=abv r to:=by
  unfold DO abv;dsimp only;refine .g (λc=>.s (by rw[if_pos c])) λc=>?_;rw[if_neg c];refine .w (JQm (l:=ent r) oo) ?_;have B:Tot (ga (ent r,to)) λy=>y.2.2=(ent r).filter λe=>decide (to<e.1):=by
   have A: ∀l:List aA,l.filter (λx=> !aW x.1 to)=l.filter λe=>decide (to<e.1):=λl=>by
    congr 1;funext x;unfold aW;rw[<-decide_not];congr 1;simp
   unfold ga;dsimp only;have D:Tot (wk (ent r,to)) λy=> ∃i,y=(i,ent r,to)/\PL (λe:aA=>aW e.1 to) (ent r) i:=(by refine UT (λe:aA=>aW e.1 to) (l:=ent r) (λi=>(J0 (ent r),i,ent r,to)) (λi=>(i,ent r,to)) (λpre x t h=>?_) ?_;unfold wi;dsimp only;rw[if_pos (Jw.2 (dV h)),ia h,gy h,fQ h (n:=4096) hl];rfl;unfold wi;dsimp only;rw[if_neg (by rw[Jw];omega)]);refine .b D λy h=>?_;obtain⟨i,rfl,hi⟩:=h;dsimp only;rw[if_pos (by simp[rT])];rcases hi with⟨rfl,hi⟩|⟨pre,x,t,g,rfl,H,F⟩;rw[if_pos qQH];refine .s ?_;rw[<-A,List.filter_eq_self.2];intro a v;simp[hi a v];have K:=J6 (l:=pre);rw[if_neg (by rw[fF];omega)];have hlen:(ent r).length=pre.length+1+t.length:=by rw[g];simp;omega
   have J:(ent r).length<=4096:=by unfold J0 at hl;omega
   have st:=TZ (Q:=λy:List aA×Int×List aA=>y.2.2=(ent r).filter λe=>decide (to<e.1)) (λe:aA=>aW e.1 to) (l:=ent r) (L:=RH) (λi j k=>((i:Int),(j:Int),k,to)) (λi j k x h1 h2 C q=>?_) (λi j k x h2 C q=>?_) (λi k C q E=>?_) t pre.length (pre.length+1) (ent r) oo (by rw[g];simp) (by rw[g];simp) rfl oo (by
    rw[g,List.take_append_of_le_length (zQ0 _),List.take_length,List.take_add_one];have:(pre++x::t)[pre.length]?=some x:=by simp
    rw[this,List.take_append_of_le_length (zQ0 _),List.take_length,List.filter_append,List.filter_eq_self.2 (λa v=>by simp[F a v])];simp[H])
   rw[show J1 .i64 (J0 pre) 1=((pre.length+1:Nat):Int)from xB oo];exact st;have w:=L9 h2;unfold RH;dsimp only;rw[if_pos (Jw.2 (by unfold J0;omega)),FH w];simp only[Jy,bE,Int.toNat_natCast,h2,RE,q];rw[if_pos (show Ji false=true from rfl),FH h1,bA h1,xB (show i<4611686018427387904 by omega),xB (show j<4611686018427387904 by omega)];rfl;have w:=L9 h2;unfold RH;dsimp only;rw[if_pos (Jw.2 (by unfold J0;omega)),FH w];simp only[Jy,bE,Int.toNat_natCast,h2,RE,q];rw[if_neg qQH,xB (show j<4611686018427387904 by omega)];unfold RH;dsimp only;rw[if_neg (by rw[Jw];unfold J0;omega)];refine .endq (Oj (t:=J4) q λm I=>.s (show List.take i m=_ from(I.trans E).trans (A _)))
  have o:=Jg to 1;refine .b B λy G=>.s ?_;rw[G,show J1 .i64 to 1=to+1 by omega]
 obtain⟨y,e,d⟩:=z;rw[e,d]
end
section
noncomputable def leN(x y:aB):Bool:= @decide (¬ltN y x) (Classical.propDecidable _)
theorem JR4(p q r:Int):tG [p,q,r]=some (if p=0 then(if q=0 then r else q)else p):=by
 unfold tG;have o:yZ (0,[p,q,r],J0 [p,q,r],0)=if aO p 0=true then some (.inr p)else some (.inl (0,[p,q,r],J0 [p,q,r],1)):=rfl
 have j:yZ (0,[p,q,r],J0 [p,q,r],1)=if aO q 0=true then some (.inr q)else some (.inl (0,[p,q,r],J0 [p,q,r],2)):=rfl
 have n:yZ (0,[p,q,r],J0 [p,q,r],2)=if aO r 0=true then some (.inr r)else some (.inl (0,[p,q,r],J0 [p,q,r],3)):=rfl
 have v:yZ (0,[p,q,r],J0 [p,q,r],3)=some (.inr 0):=rfl;by_cases e:p=0;rw[if_pos e,eR (o.trans (if_neg (by rw[eH];exact λk=>k e)))];by_cases g:q=0;rw[if_pos g,eR (j.trans (if_neg (by rw[eH];exact λk=>k g)))];by_cases h:r=0;rw[eR (n.trans (if_neg (by rw[eH];exact λk=>k h))),dC v,h];exact dC (n.trans (if_pos (eH.2 h)));rw[if_neg g];exact dC (j.trans (if_pos (eH.2 g)));rw[if_neg e];exact dC (o.trans (if_pos (eH.2 e)))
theorem za{x y:Int}:hX x y=0↔x=y:=by
 unfold hX;repeat' split
 all_goals first|omega|(constructor<;>intro h<;>omega)
theorem kc{x y:Int}:hX x y<0↔x<y:=by
 unfold hX;repeat' split
 all_goals first|omega|(constructor<;>intro h<;>omega)
theorem JT3:LK DV leN:=by
 intro x y;refine⟨if hX x.1.2.2.1 y.1.2.2.1=0 then(if hX x.1.1 y.1.1=0 then hX x.2 y.2 else hX x.1.1 y.1.1)else hX x.1.2.2.1 y.1.2.2.1,?_,?_⟩;unfold DV;dsimp only;rw[SF,SF,SF];simp only[Jy];rw[JR4];rfl;have e:(!leN y x)= @decide (ltN x y) (Classical.propDecidable _):=(by unfold leN;by_cases c:ltN x y<;>simp[c]);rw[e,Bool.eq_iff_iff,Jw];simp only[decide_eq_true_eq];unfold ltN;have h:=za (x:=x.1.2.2.1) (y:=y.1.2.2.1);have j:=kc (x:=x.1.2.2.1) (y:=y.1.2.2.1);have b1:=za (x:=x.1.1) (y:=y.1.1);have b2:=kc (x:=x.1.1) (y:=y.1.1);have g:=kc (x:=x.2) (y:=y.2);by_cases h1:hX x.1.2.2.1 y.1.2.2.1=0;rw[if_pos h1];by_cases h2:hX x.1.1 y.1.1=0;rw[if_pos h2];omega;rw[if_neg h2];omega;rw[if_neg h1];omega
theorem BX{x y:aB}:leN x y=true↔ ¬ltN y x:=by unfold leN;simp
noncomputable def CR(a:J8):List aB:=ST leN (dB a)
noncomputable def WR(a:J8):List TX:=clp (-1) 0 (CR a)
def GQ(a:J8):Prop:= ∀f∈a.2.2.1,J0 f.2.2<=1073741824
variable {a:J8} (h:kH a) (hf:GQ a)
include h hf
theorem xX{x:aB}(hx:x∈dB a): ∃f∈a.2.2.1,x.2=f.2.1/\(∃p,p<J0 a.1/\Itc a f x.1 p/\idx a.1 p=some x.1.2.2.1)/\cZ x.1/\gK x.1:=by
 obtain⟨f,h1,h2⟩:=List.mem_filterMap.1 hx;obtain⟨e,p,g⟩:=MV h2;have k:=(KJ h.len.2 x.1).get g.2.2.1;rcases k.1 with q|q;have:=g.2.2.2;omega;exact⟨f,h1,e,⟨p,q.2,g,k.2 g.2.2.2⟩,g.ok (hf f h1)⟩
theorem N3:(dB a).Pairwise λx y=>x.2<y.2:=by unfold dB;rw[List.pairwise_filterMap];refine h.ids.imp fun{f g} k x j y e=>?_;rw[(MV j).1,(MV e).1];exact k
theorem ib:(dB a).length<=256:=by have:=h.few;unfold J0 at this;have:=List.length_filterMap_le (its a) a.2.2.1;unfold dB;omega
theorem xT{x:aB}:x∈CR a↔x∈dB a:=(GJ (le:=leN) (dB a)).mem_iff
theorem ss:(CR a).Pairwise ltN:=by
 have s:=AT (le:=leN) (λx y z h1 h2=>by rw[BX]at*;unfold ltN at*;omega) (λx y=>by rw[BX,BX];unfold ltN;omega) (dB a);have n:(CR a).Pairwise λx y=>x.2≠y.2:=by refine((GJ (le:=leN) (dB a)).pairwise_iff fun{x y} k e=>k e.symm).2 ?_;exact(N3 h hf).imp λk e=>by omega
 refine(List.pairwise_and_iff.2 ⟨s,n⟩).imp fun{x y} k=>?_;rcases ltN.tri x y with q|q|q;exact q;exact absurd q (BX.1 k.1);exact absurd q k.2
theorem SJ{x:aB}(hx:x∈CR a):cZ x.1/\gK x.1:=by obtain⟨f,_,_,_,k⟩:=xX h hf ((xT h hf).1 hx);exact k
theorem L2:(CR a).length<=256:=by unfold CR;rw[hE];exact ib h hf
theorem JSM:QO a=some ((WR a).map (·.1),(WR a).map (·.2.1)):=by
 have E:Tot (QO a) λy=>y=((WR a).map (·.1),(WR a).map (·.2.1)):=by
  unfold QO;refine .b (Ir a) λy M=>.n (λc=>by rw[M.2 h]at c;cases c) λ_=>fT (l:=a.2.2.1) (λi (b:List aB)=>(a.2.2.1,J0 a.2.2.1,i,a,[],[],b)) (λpre b=>b=pre.filterMap (its a)) (λpre f t b hl q=>?_) (λb q=>?_) a.2.2.1 [] [] _ rfl rfl rfl;have C:f∈a.2.2.1:=by rw[hl];simp
  unfold po;dsimp only;rw[if_pos (Jw.2 (dV hl))];refine .w (eY hl) (.b (JT7 h.len.2 (hf f C)) λK g=>?_);rw[fQ hl (n:=256) h.few];rcases g with⟨B,p,_,w⟩|⟨B,w⟩;rw[B];refine .w (eO (l:=b) (m:=[(K.1,f.2.1)]) (by have:=List.length_filterMap_le (its a) pre;have e:=h.few;have Z:=dV hl;rw[q,bY];unfold J0 at*;omega) qQH) (.s ⟨_,rfl,?_⟩);rw[q,List.filterMap_append,List.filterMap_cons,BY w];rfl;rw[B];refine .s ⟨b,rfl,?_⟩;rw[q,List.filterMap_append,List.filterMap_cons,VS w];simp;subst q;unfold po;dsimp only;rw[if_neg (by rw[Jw];omega)];refine .endq ?_;have W:=ib h hf;refine .w (show wn (dB a)=some (CR a)from JQs (le:=leN) (λx y z h1 h2=>by rw[BX]at*;unfold ltN at*;omega) (λx y=>by rw[BX,BX];unfold ltN;omega) JT3 oo) ?_;rw[if_pos (show rT (List.length (CR a)) (List.length (List.filterMap (its a) a.2.2.1))=true by show rT (List.length (CR a)) (List.length (dB a))=true;unfold CR;rw[hE];simp[rT])];have Y:=L2 h hf;refine fT (l:=CR a) (λi (b:Int×Int×List TX)=>(b.1,b.2.1,J0 (CR a),i,a,b.2.2.map (·.1),b.2.2.map (·.2.1),CR a)) (λpre b=>(0<=b.2.1/\b.2.1<=1099511627776)/\b.2.2.length<=pre.length/\ ∀t,clp (-1) 0 (pre++t)=b.2.2++clp b.1 b.2.1 t) (λpre x t b hl q=>?_) (λb q=>?_) (CR a) [] (-1,0,[]) _ rfl rfl ⟨⟨by decide,by decide⟩,zQ0 _,λt=>rfl⟩;obtain⟨lo,to,A⟩:=b;obtain⟨r,D,v⟩:=q;dsimp only at r D v⊢;have F:x∈CR a:=by rw[hl];simp
  obtain⟨G,V⟩:=SJ h hf F;obtain⟨N,U,R,S,P,Q,T,O⟩:=G.1;have lp:pre.length<256:=by
   have:(CR a).length=pre.length+(t.length+1):=by rw[hl];simp
   omega
  unfold pu;dsimp only;rw[if_pos (Jw.2 (dV hl)),ia hl,gy hl,fQ hl (n:=256) (by unfold J0;omega)];simp only[Jy];have step: ∀j:Int,(if x.1.2.2.1=lo then to else 0)=j->0<=j->j<=1099511627776->Tot ((if aW x.1.2.1 j=true then some (.inl (x.1.2.2.1,j,J0 (CR a),J0 (pre++[x]),a,A.map (·.1),A.map (·.2.1),CR a))else(DO (x.1,j)).bind λy=>(Jr 64 (A.map (·.1)) [y]).bind λL=>(Jr 8 (A.map (·.2.1)) [x.2]).bind λJ=>some (.inl (x.1.2.2.1,x.1.2.1,J0 (CR a),J0 (pre++[x]),a,L,J,CR a))):Option ((Int×Int×Int×Int×J8×List aC×qQD×List aB)⊕(List aC×qQD))) (si (λo:Int×Int×List TX=>(o.1,o.2.1,J0 (CR a),J0 (pre++[x]),a,o.2.2.map (·.1),o.2.2.map (·.2.1),CR a)) (λo=>(0<=o.2.1/\o.2.1<=1099511627776)/\o.2.2.length<=(pre++[x]).length/\ ∀t,clp (-1) 0 (pre++[x]++t)=o.2.2++clp o.1 o.2.1 t) λy=>y=((WR a).map (·.1),(WR a).map (·.2.1))):=(by intro j I H h1;refine .G (λc=>.s ⟨(x.1.2.2.1,j,A),rfl,⟨H,h1⟩,by simp;omega,λt=>?_⟩) λc=>.w (JMN G.2.1 H h1) (.w (eO (l:=A.map (·.1)) (m:=[abv x.1 j]) (by rw[bY];unfold J0;rw[dW];omega) qQH) (.w (eO (l:=A.map (·.2.1)) (m:=[x.2]) (by rw[bY];unfold J0;rw[dW];omega) qQH) (.s ⟨(x.1.2.2.1,x.1.2.1,A++[(abv x.1 j,x.2,decide (j<x.1.1))]),by simp,⟨by dsimp only;omega,by dsimp only;omega⟩,by simp;omega,λt=>?_⟩)));rw[iC,v];show A++clp lo to (x::t)=_;rw[mJ,I,if_pos c];rw[iC,v];show A++clp lo to (x::t)=_;rw[mJ,I,if_neg c];simp);by_cases c:x.1.2.2.1=lo;rw[if_neg (by rw[eH];exact λk=>k c)];have s:=step to (if_pos c) r.1 r.2;rw[c]at s;exact s;rw[if_pos (eH.2 c)];exact step 0 (if_neg c) qQH qQH;unfold pu;dsimp only;rw[if_neg (by rw[Jw];omega)];have:=q.2.2 [];rw[fM]at this;refine .s ?_;unfold WR;rw[this];simp[clp,zN]
 obtain⟨y,e,d⟩:=E;rw[e,d]
end
section
theorem Lo{α:Type}{l U V:List α}{k:Int}(h:l=U++V)(hk:k=J0 U):aU l none (some k)=some U:=by subst h hk;obtain⟨r,e,d,_⟩:=wP (l:=U++V) (k:=J0 U) J6 (by rw[cM];have:=J6 (l:=V);omega);rw[e,d];simp[J0]
theorem xe{α:Type}{l U V:List α}{k:Int}(h:l=U++V)(hk:k=J0 U):aU l (some k) none=some V:=by subst h hk;obtain⟨r,e,d,_⟩:=BJ (l:=U++V) (k:=J0 U) J6 (by rw[cM];have:=J6 (l:=V);omega);rw[e,d];simp[J0]
theorem MF{α:Type}{bytes:Nat}{l:List α}(h:J0 l<=34359738368)(hb:bytes<=2048):bP bytes l=some l:=by unfold bP;rw[if_pos (VE (by unfold J0 at h;omega) hb)]
theorem cQ{α β:Type}(f:α->β)(l:List α):J0 (l.map f)=J0 l:=by unfold J0;rw[dW]
theorem JGG{r:aC}{to:Int}(hl:J0 (ent r)<=4096)(h0:0<=to)(h1:to<=1099511627776):QR (r,to)=some (abv r to):=by
 have j:Tot (QR (r,to)) λy=>y=abv r to:=(by unfold QR abv;dsimp only;refine .g (λc=>.s (by rw[if_pos c])) λc=>?_;rw[if_neg c];have o:=Jg to 1;rw[show J1 .i64 to 1=to+1 by omega];refine fT (l:=ent r) (λi (b:List aA)=>(to,i,r,[],0,0,0,0,0,b,[],to+1,r.2.1,r.2.2.1,r.2.2.2.1,r.2.2.2.2.1)) (λpre b=>b=pre.filter λe=>decide (to<e.1)) (λpre x t b g h=>?_) (λb h=>?_) (ent r) [] [] _ rfl rfl rfl;unfold pq;dsimp only;have g':r.2.2.2.2.2=pre++x::t:=g;rw[if_pos (Jw.2 (dV g')),fQ g (n:=4096) hl];refine .w (eY g') (.g (λd=>.w (eY g') (.w (eO (l:=b) (m:=[x]) (by have:=List.length_filter_le (λe:aA=>decide (to<e.1)) pre;have:=dV g;rw[h,bY];unfold J0 at*;omega) qQH) (.s ⟨_,rfl,?_⟩))) λd=>.s ⟨b,rfl,?_⟩);rw[h,List.filter_append,List.filter_cons_of_pos (by simpa using d)];rfl;rw[h,List.filter_append,List.filter_cons_of_neg (by simpa using d)];simp;unfold pq;dsimp only;rw[if_neg (by rw[Jw];unfold ent;omega)];rw[h];exact .s rfl);obtain⟨y,e,d⟩:=j;rw[e,d]
section
variable {i k:Int} {a:J8} {A:List TX} {r:aC} {f:aI} (hk:idx a.2.2.1 k=some f)
include hk
theorem Ny{U V:List aB}{β:Type}{Q:β->Prop}{c:List aC->qQD->Option β}(hl:(U++V).length<=256)(h:Tot (c ((U++(r,f.2.1)::V).map (·.1)) ((U++(r,f.2.1)::V).map (·.2))) Q):
  Tot ((aU ((U++V).map (·.1)) none (some (J0 U))).bind λD=>(bP 64 D).bind λe=>(Jr 64 e [r]).bind λy=>(aU ((U++V).map (·.1)) (some (J0 U)) none).bind λx=>(Jr 64 y x).bind λg=>
   (aU ((U++V).map (·.2)) none (some (J0 U))).bind λv=>(bP 8 v).bind λj=>(idx a.2.2.1 k).bind λw=>(Jr 8 j [w.2.1]).bind λn=>(aU ((U++V).map (·.2)) (some (J0 U)) none).bind λo=>(Jr 8 n o).bind λq=>c g q) Q:=by
 have A:J0 U<=256:=by unfold J0;simp at hl;omega
 have C:J0 V<=256:=by unfold J0;simp at hl;omega
 have B:(U++V).map (·.1)=U.map (·.1)++V.map (·.1):=oO;have z:(U++V).map (·.2)=U.map (·.2)++V.map (·.2):=oO;have F:J0 (U.map (·.1))<=256:=by rw[cQ];exact A
 have H:J0 (V.map (·.1))<=256:=by rw[cQ];exact C
 have G:J0 (U.map (·.2))<=256:=by rw[cQ];exact A
 have E:J0 (V.map (·.2))<=256:=by rw[cQ];exact C
 refine .w (Lo B (by rw[cQ])) (.w (MF oo qQH) (.w (eO (by rw[bY];omega) qQH) (.w (xe B (by rw[cQ])) (.w (eO (by rw[cM,bY];omega) qQH) ?_))));refine .w (Lo z (by rw[cQ])) (.w (MF oo qQH) (.w hk (.w (eO (by rw[bY];omega) qQH) (.w (xe z (by rw[cQ])) (.w (eO (by rw[cM,bY];omega) qQH) ?_)))));simpa using h
theorem xo: ∀(n:Nat) (U V:List aB),U.length=n->(U++V).length<=256->(∀v∈V,r.1<v.1.1)->
  Tot (J3 ej (i,(U++V).map (·.1),(U++V).map (·.2),k,J0 U,a,A.map (·.1),A.map (·.2.1),A.map (·.2.2),r)) λy=> ∃g j,U++V=g++j/\(∀v∈j,r.1<v.1.1)/\(∀u z,g=u++[z]->z.1.1<=r.1)/\
   y=.inl (i,(g++(r,f.2.1)::j).map (·.1),(g++(r,f.2.1)::j).map (·.2),J1 .i64 k 1,a,A.map (·.1),A.map (·.2.1),A.map (·.2.2))
 |0,U,V,hn,hl,hv=>by have:U=[]:=List.length_eq_zero_iff.1 hn;subst this;refine .step ?_;unfold ej;dsimp only;rw[if_neg (by rw[fS,mI];omega)];refine .stq ?_;exact Ny hk hl (.s ⟨[],V,rfl,hv,λu z e=>by simp at e,rfl⟩)
 |n+1,U,V,hn,hl,hv=>by
  obtain⟨u,z,rfl⟩: ∃p z,U=p++[z]:=⟨U.dropLast,U.getLast (by intro e;subst e;simp at hn),(List.dropLast_concat_getLast _).symm⟩;have w:=J6 (l:=u);have B:J0 (u++[z])=J0 u+1:=by rw[cM,bY]
  have C:J0 u<=256:=by unfold J0;simp at hl;omega
  have os:=bG (J0 (u++[z])) 1;refine .step ?_;unfold ej;dsimp only;rw[if_pos (by rw[fS];omega),show Jm .i64 (J0 (u++[z])) 1=J0 u by omega];refine .w (rE (·.1) (show u++[z]++V=u++z::V by simp)) (.g (λc=>.s ?_) λc=>?_);have ih:=xo n u (z::V) (by simp at hn;omega) (by simpa using hl) (λv o=>by
   rcases cJ.1 o with rfl|h;exact c;exact hv v h)
  rw[show u++[z]++V=u++z::V by simp];exact ih;refine .stq ?_;refine Ny hk hl (.s ⟨u++[z],V,rfl,hv,λx q e=>?_,rfl⟩);have:=List.append_inj_right' e rfl;injection this with this;rw[<-this];omega
end
def Ky(a:J8)(i:Int)(O:List aB)(F:List aI):Prop:=O.Pairwise ltN/\ ∀x,x∈O↔x∈F.filterMap (its a)/\jR (a,x.1)=some i
variable {a:J8} (h:kH a) (hf:GQ a)
include h hf
theorem NV{x:aB}{i:Int}(hx:x∈dB a)(hp:jR (a,x.1)=some i):0<=i/\i<J0 a.1/\idx a.1 i=some x.1.2.2.1:=by obtain⟨f,_,_,⟨p,j,e,g⟩,_⟩:=xX h hf hx;have:=e.2.2.1.symm.trans hp;injection this with this;subst this;exact⟨e.2.2.2,j,g⟩
theorem JK6{i:Int}{O:List aB}{A:List TX}{L:Int}(hi:0<=i/\i<16)(J:O.length<=256)(hA:A.length<=256)(hL: ∀x∈O,x.1.2.2.1=L/\cZ x.1):
  Tot (J3 e9 (i,O.map (·.1),O.map (·.2),0,0,a,A.map (·.1),A.map (·.2.1),A.map (·.2.2))) λy=>y=.inl (i+1,a,(A++clp L 0 O).map (·.1),(A++clp L 0 O).map (·.2.1),(A++clp L 0 O).map (·.2.2)):=by
 refine fT (l:=O) (λj (b:Int×List TX)=>(i,O.map (·.1),O.map (·.2),b.1,j,a,b.2.map (·.1),b.2.map (·.2.1),b.2.map (·.2.2))) (λpre b=>(0<=b.1/\b.1<=1099511627776)/\b.2.length<=A.length+pre.length/\ ∀t,A++clp L 0 (pre++t)=b.2++clp L b.1 t) (λpre x t b hl r=>?_) (λb r=>?_) O [] (0,A) _ rfl rfl ⟨⟨by show(0:Int)<=0;decide,by show(0:Int)<=1099511627776;decide⟩,zQ0 _,λt=>rfl⟩;obtain⟨to,B⟩:=b;obtain⟨⟨h,e⟩,v,g⟩:=r;dsimp only at h e v g⊢;obtain⟨q,w⟩:=hL x (by rw[hl];simp);obtain⟨z,I,F,G,D,E,H,C⟩:=w.1;have lp:pre.length<256:=by
  have:O.length=pre.length+(t.length+1):=by rw[hl];simp
  omega
 have k:=rE (λx:aB=>x.1) hl;unfold e9;dsimp only;rw[if_pos (Jw.2 (by rw[cQ];exact dV hl)),fQ hl (n:=256) (by unfold J0;omega)];have K:J0 B<=512:=by unfold J0;omega
 refine .w k (.G (λc=>.s ⟨(to,B),rfl,⟨h,e⟩,by simp;omega,λt=>?_⟩) λc=>.w k (.w (JGG w.2.1 h e) (.w (eO (l:=B.map (·.1)) (by rw[bY,cQ];omega) qQH) (.w (rE (λx:aB=>x.2) hl) (.w (eO (l:=B.map (·.2.1)) (by rw[bY,cQ];omega) qQH) (.w k (.w (eO (l:=B.map (·.2.2)) (by rw[bY,cQ];omega) qQH) (.w k (.s ⟨(x.1.2.1,B++[(abv x.1 to,x.2,decide (to<x.1.1))]),?_,⟨by dsimp only;omega,by dsimp only;omega⟩,by simp;omega,λt=>?_⟩)))))))));rw[iC,g];show B++clp L to (x::t)=_;rw[mJ,if_pos q,if_pos c,q];dsimp only;rw[oO,oO,oO];rfl;rw[iC,g];show B++clp L to (x::t)=_;rw[mJ,if_pos q,if_neg c,q];simp;unfold e9;dsimp only;have o:=Jg i 1;rw[if_neg (by rw[Jw,cQ];omega),show J1 .i64 i 1=i+1 by omega];have:=r.2.2 [];rw[fM]at this;refine .s ?_;rw[this];simp[clp,zN]
theorem JM7{i:Int}{A:List TX}(hi:0<=i/\i<J0 a.1)(hA:A.length<=256):
  Tot (J3 ey (i,[],[],0,a,A.map (·.1),A.map (·.2.1),A.map (·.2.2))) λy=> ∃O,Ky a i O a.2.2.1/\y=.inl (i+1,a,(A++clp (-1) 0 O).map (·.1),(A++clp (-1) 0 O).map (·.2.1),(A++clp (-1) 0 O).map (·.2.2)):=by
 have M:=h.len.2;refine fT (l:=a.2.2.1) (λk (b:List aB)=>(i,b.map (·.1),b.map (·.2),k,a,A.map (·.1),A.map (·.2.1),A.map (·.2.2))) (λpre b=>b.length<=pre.length/\Ky a i b pre) (λpre f t b hl E=>?_) (λb E=>?_) a.2.2.1 [] [] _ rfl rfl ⟨zQ0 _,.nil,λx=>by simp⟩;obtain⟨R,N,G⟩:=E;have P:f∈a.2.2.1:=by rw[hl];simp
 have lp:pre.length<256:=by have e:=h.few;have:=dV hl;unfold J0 at*;omega
 unfold ey;dsimp only;rw[if_pos (Jw.2 (dV hl))];have o:=fQ hl (n:=256) h.few;refine .w (eY hl) (.b (JTi M (hf f P)) λC g=>.d (λc=>?_) λc=>?_);rw[o];refine .s ⟨b,rfl,by simp;omega,N,λx=>(G x).trans ?_⟩;rw[List.filterMap_append];rcases g with⟨_,g⟩|⟨_,g⟩;rw[List.filterMap_cons,BY g];constructor;rintro⟨D,j⟩;exact⟨List.mem_append_left _ D,j⟩;rintro⟨D,j⟩;refine⟨?_,j⟩;rcases zQ9.1 D with q|q;exact q;rw[eB.1 q]at j;have:=j.symm.trans g.2.2.1;injection this with this;exact absurd this.symm c;rw[List.filterMap_cons,VS g];simp;have g:Itc a f C.1 C.2:=(by rcases g with⟨_,g⟩|⟨g,_⟩;exact g;omega);have Q:=xo (i:=i) (A:=A) (r:=C.1) (eY hl) b.length b [] rfl (by simp;omega) nofun;simp only[fM]at Q;rw[cQ];refine Q.mono λy w=>?_;obtain⟨U,V,w1,w2,w3,rfl⟩:=w;rw[o];have H: ∀x∈b,x.1.2.2.1=C.1.2.2.1/\x.2<f.2.1:=λx B=>by
  obtain⟨D,j⟩:=(G x).1 B;have qa:x∈dB a:=by unfold dB;rw[hl,List.filterMap_append];exact List.mem_append_left _ D
  have e1:=(NV h hf qa j).2.2;have I:=((KJ M C.1).get g.2.2.1).2 g.2.2.2;rw[c,e1]at I;injection I with I;refine⟨I,?_⟩;obtain⟨f',W,f2⟩:=List.mem_filterMap.1 D;rw[(MV f2).1];have ids:=h.ids;rw[hl]at ids;exact(List.pairwise_append.1 ids).2.2 f' W f List.mem_cons_self
 subst w1;refine⟨U++(C.1,f.2.1)::V,rfl,by simp at R⊢;omega,?_,λx=>?_⟩;obtain⟨S,Y,u3⟩:=List.pairwise_append.1 N;refine List.pairwise_append.2 ⟨S,List.pairwise_cons.2 ⟨λv F=>?_,Y⟩,λu J v F=>?_⟩;have lv:=H v (List.mem_append_right _ F);have:=w2 v F;exact .inr ⟨lv.1.symm,.inl this⟩;rcases cJ.1 F with rfl|F;obtain⟨Z,z,rfl⟩: ∃p z,U=p++[z]:=⟨U.dropLast,U.getLast (List.ne_nil_of_mem J),(List.dropLast_concat_getLast _).symm⟩;have lu:=H u (List.mem_append_left _ J);have lz:=H z (by simp);have hz:=w3 Z z rfl;have ab:u.1.1<=z.1.1:=(by rcases zQ9.1 J with q|q;have:=(List.pairwise_append.1 S).2.2 u q z (by simp);unfold ltN at this;omega;rw[eB.1 q];exact aY _);have:=lu.2;unfold ltN;dsimp only;omega;exact u3 u J v F;rw[List.filterMap_append,List.filterMap_cons,BY g];have k:=G x;simp only[List.filterMap_nil,zQ9,cJ,List.not_mem_nil,or_false]at k⊢;constructor;rintro(q|rfl|q);exact⟨.inl (k.1 (.inl q)).1,(k.1 (.inl q)).2⟩;exact⟨.inr rfl,by rw[<-c];exact g.2.2.1⟩;exact⟨.inl (k.1 (.inr q)).1,(k.1 (.inr q)).2⟩;rintro⟨q|rfl,j⟩;rcases k.2 ⟨q,j⟩with q|q;exact .inl q;exact .inr (.inr q);exact .inr (.inl rfl);unfold ey;dsimp only;rw[if_neg (by rw[Jw];omega)];have K: ∀x∈b,x∈dB a:=λx B=>((E.2.2 x).1 B).1;obtain⟨L,eL,_⟩:=kL (l:=a.1) hi.1 hi.2;have hL: ∀x∈b,x.1.2.2.1=L/\cZ x.1:=λx B=>by have q:=((E.2.2 x).1 B).2;have e:=(NV h hf (K x B) q).2.2;rw[eL]at e;injection e with e;obtain⟨_,_,_,_,k,_⟩:=xX h hf (K x B);exact⟨e.symm,k⟩
 have lb:b.length<=256:=by have e:=h.few;have:=E.1;unfold J0 at e;omega
 have T:clp (-1) 0 b=clp L 0 b:=by
  cases b with
  |nil=>rfl
  |cons x t=>rw[mJ,mJ,(hL x List.mem_cons_self).1];simp
 refine .endq ((JK6 h hf ⟨hi.1,by omega⟩ lb hA hL).mono λy e=>⟨b,E.2,by rw[e,T]⟩)
theorem Li:IE a=some ((WR a).map (·.1),(WR a).map (·.2.1),(WR a).map (·.2.2)):=by
 have W:=h.len.2;have L:Tot (IE a) λy=>y=((WR a).map (·.1),(WR a).map (·.2.1),(WR a).map (·.2.2)):=by
  unfold IE;refine .b (d8 a) λy U=>.n (λc=>by rw[U.2 h]at c;cases c) λ_=>fT (l:=a.1) (λi (b:List TX)=>(i,a,b.map (·.1),b.map (·.2.1),b.map (·.2.2))) (λpre b=> ∃C:List aB,b=clp (-1) 0 C/\C.Pairwise ltN/\C.length<=256/\ ∀x,x∈C↔x∈dB a/\ ∃p,p<J0 pre/\jR (a,x.1)=some p) (λpre x t b hl I=>?_) (λb I=>?_) a.1 [] [] _ rfl rfl ⟨[],rfl,.nil,by decide,λx=>⟨nofun,fun⟨q,p,r,j⟩=>by have:=(NV h hf q j).1;rw[mI]at r;omega⟩⟩;obtain⟨C,rfl,v,F,o⟩:=I;have Q:=J6 (l:=pre);have lt:=dV hl;unfold o8;dsimp only;rw[if_pos (Jw.2 lt)];refine(JM7 h hf ⟨Q,lt⟩ (zQ1 UL F)).mono λy w=>?_;obtain⟨O,⟨R,G⟩,rfl⟩:=w;have N: ∀z∈O,z∈dB a:=λz g=>((G z).1 g).1;have A: ∀z∈O,∀c∈C,c.1.2.2.1<z.1.2.2.1:=λz g c hc=>by have V:=(NV h hf (N z g) ((G z).1 g).2).2.2;obtain⟨q,p,r,j⟩:=(o c).1 hc;obtain⟨Y,Z,P⟩:=NV h hf q j;have K:=h.asc;unfold Asc at K;have J:a.1[(J0 pre).toNat]?=some z.1.2.2.1:=(eS V).2;have H:a.1[p.toNat]?=some c.1.2.2.1:=(eS P).2;obtain⟨S,J⟩:=eC.1 J;obtain⟨T,H⟩:=eC.1 H;have:=List.pairwise_iff_getElem.1 K p.toNat (J0 pre).toNat T S oo;rw[J,H]at this;exact this
  have B: ∀z∈O,0<=z.1.2.2.1:=λz g=>by obtain⟨_,_,_,_,k,_⟩:=xX h hf (N z g);exact k.1.2.2.2.1
  have E: ∀z,z∈C++O↔z∈dB a/\ ∃p,p<J0 (pre++[x])/\jR (a,z.1)=some p:=λz=>by
   rw[zQ9,o,G,cM,bY];constructor;rintro(⟨q,p,r,j⟩|⟨q,j⟩);exact⟨q,p,by omega,j⟩;exact⟨q,_,by omega,j⟩;rintro⟨q,p,r,j⟩;by_cases e:p<J0 pre;exact .inl ⟨q,p,e,j⟩;have:p=J0 pre:=by omega
   subst this;exact .inr ⟨q,j⟩
  have M:(C++O).Pairwise ltN:=List.pairwise_append.2 ⟨v,R,λc hc z g=>.inl (A z g c hc)⟩;have hlen:(C++O).length<=256:=by
   have n:(C++O).Nodup:=M.imp fun{x y} k e=>by subst e;exact ltN.irr _ k
   have s:(C++O)⊆dB a:=λz g=>((E z).1 g).1;exact zQ1 (n.length_le_of_subset s) (ib h hf)
  refine⟨clp (-1) 0 (C++O),?_,C++O,rfl,M,hlen,E⟩;rw[Nq (D:=O) λz g=>⟨by have:=B z g;omega,by have:=B z g;omega,λc hc=>by have:=A z g c hc;omega⟩,cM,bY];obtain⟨C,rfl,v,F,o⟩:=I;unfold o8;dsimp only;rw[if_neg (by rw[Jw];omega)];refine .s ?_;have:C=CR a:=uh ltN.irr ltN.asym v (ss h hf) λx=>(o x).trans ⟨λq=>(xT h hf).2 q.1,λq=>by have q:=(xT h hf).1 q;obtain⟨_,_,_,⟨p,r,j,_⟩,_⟩:=xX h hf q;exact⟨q,p,r,j.2.2.1⟩⟩;rw[this];rfl
 obtain⟨y,e,d⟩:=L;rw[e,d]
end
theorem JNM{f t l h v:Int}{es:List aA}(q:0<=f/\f<=1099511627777/\0<=t/\t<=1099511627777/\0<=l/\l<=100/\0<=h/\h<=100/\0<=v/\v<=100)(hl:J0 es<=16384)(he: ∀e∈es,Ty.fit 16384 9223372036854775807 J4 e):gK (f,t,l,h,v,es):=
 ⟨J2.2 (show(-9223372036854775808:Int)<=f/\f<=9223372036854775807 by omega),J2.2 (show(-9223372036854775808:Int)<=t/\t<=9223372036854775807 by omega),J2.2 (show(-9223372036854775808:Int)<=l/\l<=9223372036854775807 by omega),J2.2 (show(-9223372036854775808:Int)<=h/\h<=9223372036854775807 by omega),J2.2 (show(-9223372036854775808:Int)<=v/\v<=9223372036854775807 by omega),hl,he⟩
theorem JIQ(a0 g:List aA)(hl:J0 a0+J0 g<=8192):zL (a0,g)=some (mrg a0 g):=by
 have A:Tot (zL (a0,g)) λy=>y=mrg a0 g:=by
  unfold zL;refine Jl (τ:=List aA×List aA×List aA) (λq=>q) (λq=>J0 q.1+J0 q.2.1+J0 q.2.2<=8192/\q.2.2++mrg q.1 q.2.1=mrg a0 g) (λq=>J0 q.1+J0 q.2.1) ?_ (a0,g,[]) rfl ⟨by grind [mI],rfl⟩;rintro⟨a,b,out⟩ ⟨h1,h2⟩;dsimp only at h1 h2;have H:=J6 (l:=a);have D:=J6 (l:=b);have M:=J6 (l:=out);unfold vr;dsimp only;cases a with
  |nil=>
   refine .e (λ_=>.b (cD (eO oo qQH)) λy d=>.s ?_) λc=>absurd rfl c;grind [mrg]
  |cons x a=>
   rw[vF]at h1 H;have nx:=J6 (l:=a);refine .e (λc=>by grind [vF]) λ_=>?_;cases b with
   |nil=>
    refine .e (λ_=>.b (cD (eO (by grind [vF]) qQH)) λy d=>.s ?_) λc=>absurd rfl c;grind [GE]
   |cons y b=>
    rw[vF]at h1 D;have L:=J6 (l:=b);refine .e (λc=>by grind [vF]) λ_=>?_;have i1:idx (x::a) 0=some x:=rfl;have i2:idx (y::b) 0=some y:=rfl;have s1:aU (x::a) (some 1) none=some a:=by obtain⟨r,e,d,_⟩:=BJ (l:=x::a) (k:=1) qQH (by grind [vF]);rw[e,d];rfl
    have E:aU (y::b) (some 1) none=some b:=by obtain⟨r,e,d,_⟩:=BJ (l:=y::b) (k:=1) qQH (by grind [vF]);rw[e,d];rfl
    have C: ∀z:aA,Jr 128 out [z]=some (out++[z]):=λz=>eO (by grind [bY]) qQH;have N: ∀z:aA,J0 (out++[z])=J0 out+1:=λz=>by rw[cM,bY]
    refine .b (cD i1) λw I=>.b (cD i2) λB G=>?_;subst I;subst G;refine .b (cD (Of w B)) λK F=>?_;subst F;refine .G (λc=>?_) λc=>?_
    ·refine .b (cD i1) λh o=>?_;subst o;refine .b (cD (C h)) λJ n=>.b (cD s1) λv j=>.s ⟨(a,B::b,out++[h]),by rw[n,j],⟨?_,?_⟩,?_,?_⟩
     all_goals grind [vF,mrg]
    ·refine .b (cD i2) λh o=>?_;subst o;refine .b (cD (C h)) λJ n=>.b (cD E) λv j=>.s ⟨(w::a,b,out++[h]),by rw[n,j],⟨?_,?_⟩,?_,?_⟩
     all_goals grind [vF,mrg]
 obtain⟨y,e,d⟩:=A;rw[e,d]
section
theorem JML(l:List aA)(hl:J0 l<=4096):KF (l,l)=some true:=by
 have g:Tot (KF (l,l)) λy=>y=true:=(by unfold KF;refine .d (λc=>absurd rfl c) λ_=>fT (l:=l) (λi (_:Unit)=>(l,l,J0 l,i)) (λ_ _=>True) (λpre x t _ h _=>?_) (λ_ _=>?_) l [] () _ rfl rfl trivial;unfold wc;dsimp only;rw[if_pos (Jw.2 (dV h)),fQ h (n:=4096) hl];refine .w (eY h) (.w (eY h) ?_);rw[P1 (t:=J4) x];exact .s ⟨(),rfl,qQG⟩;unfold wc;dsimp only;rw[if_neg (by rw[Jw];omega)];exact .s rfl);obtain⟨y,e,d⟩:=g;rw[e,d]
theorem JIn{r:aC}(hl:J0 (ent r)<=4096):HJ (r,r)=some true:=by have e: ∀x:Int,aM x x=true:=λx=>fF.2 rfl;unfold HJ;dsimp only;rw[if_pos (e _),if_pos (e _),if_pos (e _),if_pos (e _),if_pos (e _),show KF (r.2.2.2.2.2,r.2.2.2.2.2)=some true from JML _ hl];rfl
variable {a:J8} (h:kH a) (hf:GQ a)
include h hf
theorem Lt{e:TX}(he:e∈WR a): ∃f∈a.2.2.1,∃(x:aC) (t:Int),e=(abv x t,f.2.1,decide (t<x.1))/\rS f.2.2=some (x,0)/\cZ x/\gK x/\0<=t:=by
 obtain⟨x,t,h1,h2,o⟩:=jb (λx q=>by obtain⟨r,w,v,_⟩:=(SJ h hf q).1.1;omega) (aY 0) he;obtain⟨f,j,n,⟨p,z,g,y⟩,k⟩:=xX h hf ((xT h hf).1 h1);exact⟨f,j,x.1,t,by rw[o,n],g.2.1,k.1,k.2,h2⟩
theorem JOR(r:aC)(t:Int):J0 (ent (abv r t))<=J0 (ent r):=by
 unfold abv;split;exact aY _;have:=List.length_filter_le (λe:aA=>decide (t<e.1)) (ent r);show J0 ((ent r).filter λe=>decide (t<e.1))<=_;unfold J0;omega
theorem SI{e:TX}(he:e∈WR a):J0 (ent e.1)<=4096/\(e.2.2=true->cZ e.1/\gK e.1):=by
 obtain⟨f,_,x,t,rfl,_,g,j,_⟩:=Lt h hf he;refine⟨jC (JOR h hf x t) g.2.1,λc=>?_⟩;have:t<x.1:=by simpa using c
 unfold abv;rw[if_pos this];exact⟨g,j⟩
theorem TM:(WR a).length<=256:=zQ1 UL (L2 h hf)
theorem JRO:QW a=some (((WR a).filter (·.2.2)).map (·.1),((WR a).filter (·.2.2)).map (·.2.1)):=by
 have v:Tot (QW a) λy=>y=(((WR a).filter (·.2.2)).map (·.1),((WR a).filter (·.2.2)).map (·.2.1)):=by
  unfold QW;refine .w (JSM h hf) ?_;have E:=TM h hf;refine fT (l:=WR a) (λi (b:List TX)=>((WR a).map (·.1),J0 ((WR a).map (·.1)),i,a,b.map (·.1),b.map (·.2.1),(WR a).map (·.2.1))) (λpre b=>b=pre.filter (·.2.2)) (λpre x t b hl j=>?_) (λb j=>?_) (WR a) [] [] _ rfl rfl rfl;obtain⟨f,k,r,to,rfl,z,A,H,F⟩:=Lt h hf (show x∈WR a by rw[hl];simp);have G:J0 b<=256:=by
   have:(WR a).length=pre.length+(t.length+1):=by rw[hl];simp
   have:=List.length_filter_le (·.2.2) pre;rw[j];unfold J0;omega
  unfold vo;dsimp only;rw[if_pos (Jw.2 (by rw[cQ];exact dV hl)),fQ hl (n:=256) (by unfold J0;omega)];refine .w (rE (λx:TX=>x.1) hl) ?_;have o:=rE (λx:TX=>x.2.1) hl;have B:Tot (wg (a.2.2.1,(WR a).map (·.2.1),J0 pre)) λy=> ∃i,y=(i,(WR a).map (·.2.1),J0 pre)/\PL (λg:aI=>aM g.2.1 f.2.1) a.2.2.1 i:=(by refine UT (λg:aI=>aM g.2.1 f.2.1) (l:=a.2.2.1) (λi=>(a.2.2.1,J0 a.2.2.1,i,(WR a).map (·.2.1),J0 pre)) (λi=>(i,(WR a).map (·.2.1),J0 pre)) (λp g q e=>?_) ?_;unfold wj;dsimp only;rw[if_pos (Jw.2 (dV e)),eY e,fQ e (n:=256) h.few];simp only[Jy,vq,o];unfold wj;dsimp only;rw[if_neg (by rw[Jw];omega)]);refine .b B λy w=>?_;obtain⟨i,rfl,w⟩:=w;have D:idx a.2.2.1 i=some f:=(by rcases w with⟨_,w⟩|⟨p,g,q,e,rfl,c,_⟩;have:=w f k;rw[<-Bool.not_eq_true,fF]at this;exact absurd rfl this;rw[eY e];have c:g.2.1=f.2.1:=fF.1 c;have ids:=h.ids;rw[e]at ids k;obtain⟨i1,i2,i3⟩:=List.pairwise_append.1 ids;rcases zQ9.1 k with m|m;have:=i3 f m g List.mem_cons_self;omega;rcases cJ.1 m with m|m;rw[m];have:=(List.pairwise_cons.1 i2).1 f m;omega);refine .w D ?_;rw[O7 (hf f k)];refine .w z ?_;dsimp only;rw[if_pos (fF.2 rfl)];by_cases c:to<r.1;have ea:abv r to=r:=by unfold abv;rw[if_pos c]
  rw[ea];refine .w (JIn A.2.1) ?_;rw[if_pos rfl];refine .w (eO (by rw[bY,cQ];omega) qQH) (.w o (.w (eO (by rw[bY,cQ];omega) qQH) (.s ⟨b++[(r,f.2.1,decide (to<r.1))],?_,?_⟩)));dsimp only;rw[oO,oO];rfl;dsimp only;rw[j,List.filter_append,List.filter_cons_of_pos (by simpa using c)];rfl;have C:HJ (r,abv r to)=some false:=(by unfold HJ abv;rw[if_neg c];dsimp only;rw[if_neg (by rw[fF];omega)]);refine .w C (.s ⟨b,rfl,?_⟩);dsimp only;rw[j,List.filter_append,List.filter_cons_of_neg (by simpa using c)];simp;unfold vo;dsimp only;rw[if_neg (by rw[Jw,cQ];omega),j];exact .s rfl
 obtain⟨y,e,d⟩:=v;rw[e,d]
omit h hf
theorem Nm{r:aC}(h:4096<J0 (ent r)):fG r=some false:=by
 have n: ∃b,pU (r.1,r.2.1,r.2.2.1,r.2.2.2.1,r.2.2.2.2.1)=some b:=by
  unfold pU
  repeat' split
  all_goals exact⟨_,rfl⟩
 obtain⟨b,e⟩:=n;unfold fG;rw[e];cases b;rfl;show(if aP (J0 (ent r)) 4096 then some false else _)=_;rw[if_pos (fS.2 h)]
theorem JNK{r s:aC}(hr:0<=r.2.1/\r.2.1<=1099511627776):Tot (IW (r,s)) λy=>y=true↔rU r s:=by have o:=Jg r.2.1 1;unfold IW rU;exact .e (λg=>.e (λe=>.s ⟨λk=>⟨g,e,by have k:=fF.1 k;dsimp only at k;omega⟩,λk=>fF.2 (by have:=k.2.2;dsimp only;omega)⟩) λc=>.s ⟨nofun,λk=>absurd k.2.1 c⟩) λc=>.s ⟨nofun,λk=>absurd k.1 c⟩
def nH:aC->List TX->aC|z,[]=>z|_,x::p=>nH x.1 p
theorem Qg(L:Int)(z:aC)(x:TX)(t:List TX):chX L z (x::t)=(rU z x.1/\x.1.2.2.2.2.1=L/\chX L x.1 t):=rfl
theorem UZ{L:Int}: ∀{p:List TX} {z:aC} {t:List TX},chX L z (p++t)↔chX L z p/\chX L (nH z p) t|[],_,_=>⟨λh=>⟨qQG,h⟩,λh=>h.2⟩|x::p,z,t=>by have ih:=UZ (L:=L) (p:=p) (z:=x.1) (t:=t);rw[tZ,Qg,Qg,ih];exact⟨fun⟨a,b,c,d⟩=>⟨⟨a,b,c⟩,d⟩,fun⟨⟨a,b,c⟩,d⟩=>⟨a,b,c,d⟩⟩
theorem mp{x q:TX}: ∀{b:List TX} {z:aC},nH z (b++[q])=q.1|[],_=>rfl|y::b,z=>mp (b:=b) (z:=y.1) (x:=x)
theorem kn{x q:TX}{b p:List TX}(h:x::b=p++[q]):nH x.1 b=q.1:=by
 cases p with
 |nil=>injection h with h1 h2;subst h1 h2;rfl
 |cons y p=>injection h with h1 h2;subst h2;exact mp (x:=x)
theorem GP: ∀{p:List TX} {acc:List aA} {t:List TX},dO acc (p++t)=dO (dO acc p) t|[],_,_=>rfl|x::p,acc,t=>by show dO (mrg acc (ent x.1)) (p++t)=dO (dO (mrg acc (ent x.1)) p) t;exact GP
theorem Oa: ∀{p:List TX} {z:Int} {t:List TX},toW z (p++t)=toW (toW z p) t|[],_,_=>rfl|x::p,z,t=>by show toW x.1.2.1 (p++t)=toW (toW x.1.2.1 p) t;exact Oa
def tU(w:List TX)(y:wW):Prop:=gW w=if y.2=true then some y.1 else none
theorem xW{w:List TX}(h:gW w=none){r:aC}:tU w (r,false):=by unfold tU;rw[h];rfl
theorem Og{x:TX}{p t:List TX}{z:TX}{L:Int}(h: ¬(rU (nH x.1 p) z.1/\z.1.2.2.2.2.1=L))(hL:L=x.1.2.2.2.2.1):gW (x::(p++z::t))=none:=by rw[BU,if_neg];rintro⟨_,k,_⟩;rw[<-hL,UZ]at k;exact h ⟨k.2.1,k.2.2.1⟩
theorem JNb{x:TX}{p t:List TX}(h:4096<J0 (dO (ent x.1) p)):gW (x::(p++t))=none:=by rw[BU,if_neg];rintro⟨_,_,k⟩;have:=P4 (dO (ent x.1) p) t;rw[<-GP]at this;rw[Nm (show 4096<J0 (ent (jn x (p++t))) by show 4096<J0 (dO (ent x.1) (p++t));omega)]at k;cases k
theorem kj: ∀{t:List TX} {acc:List aA} {z:aA},z∈dO acc t->z∈acc\/ ∃e∈t,z∈ent e.1
 |[],_,_,h=>.inl h
 |x::t,acc,z,h=>by
  rcases kj (t:=t) (acc:=mrg acc (ent x.1)) h with k|⟨e,g,j⟩;rcases Om k with k|k;exact .inl k;exact .inr ⟨x,List.mem_cons_self,k⟩;exact .inr ⟨e,eF _ g,j⟩
theorem JPV{x:TX}{t:List TX}(h: ∀e∈x::t,cZ e.1):1<=toW x.1.2.1 t/\toW x.1.2.1 t<=1099511627776:=by
 induction t generalizing x with
 |nil=>obtain⟨j,k,n,_⟩:=(h x List.mem_cons_self).1;exact⟨by show 1<=x.1.2.1;omega,by show x.1.2.1<=_;omega⟩
 |cons y t ih=>exact ih λe g=>h e (eF _ g)
theorem uu{x:TX}{t:List TX}(h: ∀e∈x::t,cZ e.1/\gK e.1)(hl:J0 (dO (ent x.1) t)<=16384):gK (jn x t):=by
 obtain⟨B,C,r,v,q,y,z,A⟩:=(h x List.mem_cons_self).1.1;have o:=Jg x.1.2.2.2.2.1 1;have w:=JPV λe g=>(h e g).1;refine JNM oo hl λe g=>?_;rcases kj g with k|⟨f,j,n⟩;exact(h x List.mem_cons_self).2.2.2.2.2.2.2 e k;exact(h f (eF _ j)).2.2.2.2.2.2.2 e n
theorem Qa{x:TX}{t:List TX}(h: ∀e∈x::t,e.2.2=true)(hc:chX x.1.2.2.2.2.1 x.1 t){v:Bool}(hv:fG (jn x t)=some v):tU (x::t) (jn x t,v):=by
 unfold tU;rw[BU];cases v with
 |true=>rw[if_pos ⟨h,hc,hv⟩];rfl
 |false=>rw[if_neg (λk=>by rw[hv]at k;cases k.2.2)];rfl
theorem JPB{x:TX}{t:List TX}(hw: ∀e∈x::t,e.2.2=true/\cZ e.1/\gK e.1)(hn:(x::t).length<=8):Tot (fv ((x::t).map (·.1))) (tU (x::t)):=by
 unfold fv;have A:idx ((x::t).map (·.1)) 0=some x.1:=rfl;refine .w A ?_;have X:=hw x List.mem_cons_self;refine fT (l:=x::t) (λi (b:List TX)=>((x::t).map (·.1),i,(0,0,0,0,0,[]),x.1.1,toW x.1.2.1 b,x.1.2.2.1,x.1.2.2.2.1,J1 .i64 x.1.2.2.2.2.1 1,dO (ent x.1) b)) (λpre b=>pre=x::b/\chX x.1.2.2.2.2.1 x.1 b/\J0 (dO (ent x.1) b)<=4096) (λpre z u b hl w=>?_) (λb w=>?_) t [x] [] _ rfl rfl ⟨rfl,qQG,X.2.1.2.1⟩;obtain⟨rfl,h,C⟩:=w;have H:=hw z (by rw[hl];simp);have J:J0 (x::b)<=8:=by
  have:(x::t).length=(x::b).length+(u.length+1):=by rw[hl];simp;omega
  unfold J0;omega
 obtain⟨p,q,o⟩: ∃p q,x::b=p++[q]:=⟨(x::b).dropLast,(x::b).getLast (by simp),(List.dropLast_concat_getLast (by simp)).symm⟩;have B:nH x.1 b=q.1:=kn o;have F:=hw q (by rw[hl,o];simp);have np:=J6 (l:=p);have lp:J0 (x::b)=J0 p+1:=by rw[o,cM,bY]
 have os:=bG (J0 (x::b)) 1;have lt:J0 (x::b)<J0 ((x::t).map (·.1)):=by rw[cQ];exact dV hl
 unfold vx;dsimp only;rw[if_pos (Jw.2 lt),show Jm .i64 (J0 (x::b)) 1=J0 p by omega];have j:=rE (λx:TX=>x.1) hl;have D:t=b++z::u:=by simpa using hl
 have E: ¬(rU (nH x.1 b) z.1/\z.1.2.2.2.2.1=x.1.2.2.2.2.1)->gW (x::t)=none:=λk=>by rw[D];exact Og k rfl
 obtain⟨M,K,L,_⟩:=F.2.1.1;have O:=Jg (J0 (dO (ent x.1) b)) (J0 (ent z.1));have P:J0 (ent z.1)<=4096:=H.2.1.2.1;have R:=L7 z.1;have Q:=J6 (l:=dO (ent x.1) b);refine .w (rE (λx:TX=>x.1) (show x::t=p++q::(z::u) by rw[hl,o];simp)) (.w j (.b (JNK (s:=z.1) ⟨by omega,by omega⟩) λN g=>.r (λc=>.w j (.w A (.q (λr=>.w j (.g (λn=>.s (xW ?_)) λn=>.w j (.w j (.w (JIQ _ _ ?_) (.s ⟨b++[z],?_,by simp,?_,?_⟩))))) λr=>.s (xW (E λk=>r k.2))))) λc=>.s (xW (E λk=>by rw[g.2 (B▸k.1)]at c;cases c))));rw[D,show b++z::u=(b++[z])++u by simp];refine JNb ?_;rw[GP];show 4096<J0 (mrg (dO (ent x.1) b) (ent z.1));rw[VQ];have n:4096<J1 .i64 (J0 (dO (ent x.1) b)) (J0 (ent z.1)):=n;omega;show J0 (dO (ent x.1) b)+J0 (ent z.1)<=8192;omega;dsimp only;rw[Oa,GP,show J1 .i64 (J0 (x::b)) 1=J0 (x::b++[z])from UG hl (by have:J0 (x::t)<=8:=(by unfold J0;omega);omega)];rfl;rw[UZ];exact⟨h,B▸g.1 c,r,qQG⟩;rw[GP];show J0 (mrg (dO (ent x.1) b) (ent z.1))<=4096;rw[VQ];have n: ¬4096<J1 .i64 (J0 (dO (ent x.1) b)) (J0 (ent z.1)):=n;omega;obtain⟨e,h,C⟩:=w;injection e with _ e;subst e;unfold vx;dsimp only;rw[if_neg (by rw[Jw,cQ];omega)];obtain⟨v,G,I,_⟩:=vv (uu (λe y=>(hw e y).2) oo);exact .endq (.w G (.s (Qa (λe y=>(hw e y).1) h I)))
end
section
theorem xa{L:Int}: ∀{p:List TX} {z:aC},chX L z p->(nH z p).2.2.1=z.2.2.1/\(nH z p).2.2.2.1=z.2.2.2.1|[],_,_=>⟨rfl,rfl⟩|x::p,z,h=>by obtain⟨h1,_,e⟩:=h;have k:=xa (p:=p) (z:=x.1) e;exact⟨k.1.trans h1.1.symm,k.2.trans h1.2.1.symm⟩
theorem Qb: ∀{p:List TX} {z:aC},toW z.2.1 p=(nH z p).2.1|[],_=>rfl|x::p,z=>Qb (p:=p) (z:=x.1)
theorem ME{r:aC}(h:cZ r){e:aA}(he:e∈ent r):r.1<=e.1/\e.1<=r.2.1:=by obtain⟨j,g⟩:=qK.1 he;have k:=h.2.2.1 j e g;exact⟨k.2.2.1,k.2.2.2.1⟩
theorem Mz{l:List aC}{h:List Bool}{i f t lo hi lv:Int}{z:aC}{acc:List aA}{r:aC}(j:idx l i=some r)(hr:J0 (ent r)<=4096)(ha:J0 acc<=40000):
  Tot (J3 QS (l,h,i,0,z,f,t,lo,hi,lv,acc)) λy=>y=.inl (l,h,J1 .i64 i 1,z,f,t,lo,hi,lv,(ent r).foldl bQ acc):=by
 refine fT (l:=ent r) (λk (b:List aA)=>(l,h,i,k,z,f,t,lo,hi,lv,b)) (λpre b=>b=pre.foldl bQ acc) (λpre x u b hl g=>?_) (λb g=>?_) (ent r) [] acc _ rfl rfl rfl;unfold QS;dsimp only;refine .w j ?_;have lt:J0 pre<J0 r.2.2.2.2.2:=dV hl;rw[if_pos (Jw.2 lt),fQ hl (n:=4096) hr];refine .w j (.w (eY hl) (.b (gr (l:=b) (e:=x) ?_) λy o=>.s ⟨bQ b x,?_,?_⟩));have:=JMp pre acc;have:=dV hl;rw[g];unfold J0 at*;omega;rw[o];rw[List.foldl_append,<-g];rfl;unfold QS;dsimp only;refine .w j ?_;have: ¬J0 (ent r)<J0 r.2.2.2.2.2:=Int.lt_irrefl _;rw[if_neg (by rw[Jw];exact this),g];exact .s rfl
theorem JPq:Em=QS:=rfl
theorem JQK{x:TX}{t:List TX}(hw: ∀e∈x::t,J0 (ent e.1)<=4096/\(e.2.2=true->cZ e.1/\gK e.1))(hn:(x::t).length<=8):Tot (XZ ((x::t).map (·.1),(x::t).map (·.2.2))) (tU (x::t)):=by
 have j:idx ((x::t).map (·.1)) 0=some x.1:=rfl;obtain⟨F,M,el⟩: ∃p q,x::t=p++[q]:=⟨(x::t).dropLast,(x::t).getLast (by simp),(List.dropLast_concat_getLast (by simp)).symm⟩;have ai:=J6 (l:=F);have ac:J0 (x::t)=J0 F+1:=by rw[el,cM,bY]
 have l8:J0 (x::t)<=8:=by unfold J0;omega
 have af:=bG (J0 (x::t)) 1;have J:idx ((x::t).map (·.1)) (Jm .i64 (J0 ((x::t).map (·.1))) 1)=some M.1:=by rw[cQ,show Jm .i64 (J0 (x::t)) 1=J0 F by omega];exact rE (λx:TX=>x.1) (show x::t=F++M::[]from el)
 have Z:M.1.2.1=toW x.1.2.1 t:=by rw[Qb,kn el]
 unfold XZ;refine .w j (.w J (.w j (.w j (.w j ?_))));dsimp only;rw[Z];have fin: ∀acc:List aA,(∀e∈x::t,e.2.2=true)->chX x.1.2.2.2.2.1 x.1 t->acc=dO (ent x.1) t->Tot ((fG (x.1.1,toW x.1.2.1 t,x.1.2.2.1,x.1.2.2.2.1,J1 .i64 x.1.2.2.2.2.1 1,acc)).bind λS=>some ((x.1.1,toW x.1.2.1 t,x.1.2.2.1,x.1.2.2.2.1,J1 .i64 x.1.2.2.2.2.1 1,acc),S)) (tU (x::t)):=(by intro acc h1 h2 h3;subst h3;have U: ∃v,fG (jn x t)=some v:=(by by_cases c:J0 (dO (ent x.1) t)<=4096;obtain⟨v,_,K,_⟩:=vv (uu (λe g=>(hw e g).2 (h1 e g)) oo);exact⟨v,K⟩;exact⟨false,Nm (show 4096<J0 (dO (ent x.1) t) by omega)⟩);obtain⟨v,K⟩:=U;exact .w K (.s (Qa h1 h2 K)));refine fT (l:=x::t) (λi (b:List aA)=>((x::t).map (·.1),(x::t).map (·.2.2),i,(0,0,0,0,0,[]),x.1.1,toW x.1.2.1 t,x.1.2.2.1,x.1.2.2.2.1,J1 .i64 x.1.2.2.2.2.1 1,b)) (λpre acc=>(∀e∈pre,e.2.2=true)/\J0 acc<=4096*J0 pre/\((pre=[]/\acc=[])\/ ∃b,pre=x::b/\chX x.1.2.2.2.2.1 x.1 b/\acc=dO (ent x.1) b/\ ∀e∈acc,e.1<=(nH x.1 b).2.1)) (λpre z u acc hl Q=>?_) (λacc Q=>?_) (x::t) [] [] _ rfl rfl ⟨nofun,by rw[mI,mI];decide,.inl ⟨rfl,rfl⟩⟩;obtain⟨B,W,E⟩:=Q;have hz:=hw z (by rw[hl];simp);have r:=rE (λx:TX=>x.1) hl;have lt:=dV hl;have np:=J6 (l:=pre);have o:=fQ hl (n:=8) l8;have Y:J0 (pre++[z])=J0 pre+1:=by rw[cM,bY]
 have bad: ¬z.2.2=true->gW (x::t)=none:=λc=>Qk _ ⟨z,by rw[hl];simp,c⟩;unfold pa;dsimp only;rw[if_pos (Jw.2 (by rw[cQ];exact lt))];refine .w (rE (λx:TX=>x.2.2) hl) (.r (λc=>?_) λc=>.s (xW (bad (by rw[c];decide))));obtain⟨D,zf⟩:=hz.2 c;have zl:J0 (ent z.1)<=4096:=hz.1;refine .w r (.w j ?_);rcases E with⟨rfl,rfl⟩|⟨b,rfl,A,rfl,C⟩;injection hl with h1 h2;subst h1 h2;have O: ∀y:Int,aO y y=false:=λy=>by simp[aO]
 rw[if_pos (O _)];refine .w r (.w j ?_);rw[if_pos (O _)];refine .w r (.w j ?_);rw[if_pos (O _),if_neg (by rw[fS,mI];omega),JPq];refine(Mz r zl (by rw[mI];decide)).mono λy P=>?_;rw[P,o];have L:(ent x.1).foldl bQ []=ent x.1:=(jp (b:=ent x.1) (a:=[]) (zr D) λ_ h=>absurd h List.not_mem_nil).symm.trans (by rw[mrg]);rw[L];refine⟨_,rfl,λe g=>by rw[eB.1 g];exact c,by rw[Y,mI];omega,.inr ⟨[],rfl,qQG,rfl,λe g=>?_⟩⟩;exact(ME D g).2;have hq:J0 (x::b)=J0 b+1:=(by rw[show x::b=[x]++b from rfl,cM,bY];omega);have nb:=J6 (l:=b);have et:t=b++z::u:=by simpa using hl
 have G: ¬(rU (nH x.1 b) z.1/\z.1.2.2.2.2.1=x.1.2.2.2.2.1)->gW (x::t)=none:=λk=>by rw[et];exact Og k rfl
 have H:=xa A;obtain⟨p,q,I⟩: ∃p q,x::b=p++[q]:=⟨(x::b).dropLast,(x::b).getLast (by simp),(List.dropLast_concat_getLast (by simp)).symm⟩;have V:=kn I;have T:q∈x::b:=by rw[I];simp
 obtain⟨qo,_⟩:=(hw q (by rw[hl];exact List.mem_append_left _ T)).2 (B q T);have ad:=J6 (l:=p);have lp:J0 (x::b)=J0 p+1:=by rw[I,cM,bY]
 have os:=bG (J0 (x::b)) 1;have iq:=rE (λx:TX=>x.1) (show x::t=p++q::(z::u) by rw[hl,I];simp);obtain⟨ae,ab,ah,_⟩:=qo.1;have oq:=Jg q.1.2.1 1;refine .q (λc1=>.w r (.w j (.q (λc2=>.w r (.w j (.q (λc3=>?_) λk=>.s (xW (G λw=>k w.2))))) λk=>.s (xW (G λw=>k (w.1.2.1.symm.trans H.2)))))) λk=>.s (xW (G λw=>k (w.1.1.symm.trans H.1)));rw[if_pos (by rw[fS];omega),show Jm .i64 (J0 (x::b)) 1=J0 p by omega];refine .w r (.w iq (.d (λk=>.s (xW (G λw=>k (by have:=w.1.2.2;rw[V]at this;omega)))) λc4=>?_));have N:rU (nH x.1 b) z.1:=⟨H.1.trans c1.symm,H.2.trans c2.symm,by rw[V];omega⟩;refine(Mz (acc:=dO (ent x.1) b) r zl oo).mono λy P=>?_;rw[P,o];have L:(ent z.1).foldl bQ (dO (ent x.1) b)=mrg (dO (ent x.1) b) (ent z.1):=(jp (zr D) λe g f R k=>by have k1:=(WF.1 k).2;have w:=C e g;have k3:=(ME D R).1;have k4:=N.2.2;omega).symm;rw[L];refine⟨_,rfl,λe g=>?_,?_,.inr ⟨b++[z],by simp,UZ.2 ⟨A,N,c3,qQG⟩,by rw[GP];rfl,λe g=>?_⟩⟩;rcases zQ9.1 g with k|k;exact B e k;rw[eB.1 k];exact c;rw[VQ,Y];omega;rw[mp (x:=x)];obtain⟨ag,aj,_⟩:=D.1;have k4:=N.2.2;rcases Om g with k|k;have:=C e k;omega;exact(ME D k).2;obtain⟨B,W,E⟩:=Q;unfold pa;dsimp only;rw[if_neg (by rw[Jw,cQ];omega)];rcases E with⟨e,_⟩|⟨b,e,A,C,_⟩;cases e;injection e with _ e;subst e;exact .endq (fin acc B A C)
end
section
theorem JJh{l:qQD}{x:Int}(hl:J0 l<=4096):Tot (fx (l,x)) λy=>y=true↔x∈l:=by
 unfold fx;have h:Tot (vz (l,x)) λy=> ∃i,y=i/\PL (λz=>aM x z) l i:=(by refine UT (λz=>aM x z) (l:=l) (λi=>(l,x,J0 l,i)) (λi=>i) (λp g q e=>?_) ?_;unfold v7;dsimp only;rw[if_pos (Jw.2 (dV e)),eY e,fQ e (n:=4096) hl];rfl;unfold v7;dsimp only;rw[if_neg (by rw[Jw];omega)]);refine .b h λy w=>.s ?_;obtain⟨i,rfl,w⟩:=w;rcases w with⟨rfl,w⟩|⟨p,g,q,e,rfl,c,_⟩;refine⟨nofun,λk=>?_⟩;have:=w x k;rw[<-Bool.not_eq_true,fF]at this;exact absurd rfl this;refine⟨λ_=>?_,λ_=>jL.2 J6⟩;rw[e,show x=g from fF.1 c];simp
theorem N7{l:List aI}{j:Nat}{x:aI}(h:l[j]?=some x):j<l.length:=(eC.1 h).1
noncomputable def hZ(ids:qQD)(F:List aI):List aI:=F.filter λf=> !decide (f.2.1∈ids)
theorem JOb{F:List aI}{ids win pre post:qQD}{fan:Int}(C:J0 F<=256)(v:ids=pre++win++post)(hn:J0 ids<=256)(hw:J0 win=fan):
  Tot (fy (J0 pre,F,ids,fan)) λy=>y.2.2.2=hZ win F:=by
 have G:=J6 (l:=pre);have R:=J6 (l:=win);have N:=J6 (l:=post);have P:J0 ids=J0 pre+J0 win+J0 post:=by rw[v,cM,cM]
 have o:=Jg (J0 pre) fan;have sl:aU ids (some (J0 pre)) (some (J1 .i64 (J0 pre) fan))=some win:=by obtain⟨r,e,d,_⟩:=uT (l:=ids) (j:=J0 pre) (k:=J1 .i64 (J0 pre) fan) G oo oo;rw[e,d,v,show J1 .i64 (J0 pre) fan-J0 pre=J0 win by omega];unfold J0;simp
 have z: ∀f:aI,RC (f,J0 pre,ids,fan)=some (decide (f.2.1∈win),ids,fan):=λf=>by unfold RC;dsimp only;rw[sl];obtain⟨y,e,d⟩:=JJh (l:=win) (x:=f.2.1) oo;simp only[Jy,e];rw[show y=decide (f.2.1∈win) by rw[Bool.eq_iff_iff];simpa using d]
 have M:F.length<=256:=by unfold J0 at C;omega
 unfold fy;have E:Tot (wh (J0 pre,F,ids,fan)) λy=> ∃i,y=(i,F,ids,fan)/\PL (λf:aI=>decide (f.2.1∈win)) F i:=(by refine UT (λf:aI=>decide (f.2.1∈win)) (l:=F) (λi=>(J0 pre,J0 F,i,F,ids,fan)) (λi=>(i,F,ids,fan)) (λp x t h=>?_) ?_;unfold wl;dsimp only;rw[if_pos (Jw.2 (dV h)),ia h,gy h,fQ h (n:=256) C];simp only[Jy,z];unfold wl;dsimp only;rw[if_neg (by rw[Jw];omega)]);refine .b E λy h=>?_;obtain⟨i,rfl,hi⟩:=h;dsimp only;rw[if_pos (by simp[rT])];rcases hi with⟨rfl,hi⟩|⟨p,x,t,g,rfl,J,I⟩;rw[if_pos qQH];refine .s ?_;show F=hZ win F;unfold hZ;rw[List.filter_eq_self.2];intro a A;simp[hi a A];have O:=J6 (l:=p);rw[if_neg (by rw[fF];omega)];have hlen:F.length=p.length+1+t.length:=by rw[g];simp;omega
 have st:=TZ (Q:=λy:List aI×qQD×Int×List aI=>y.2.2.2=hZ win F) (λf:aI=>decide (f.2.1∈win)) (l:=F) (L:=RG) (λi j q=>(J0 pre,(i:Int),(j:Int),q,ids,fan)) (λi j q x h1 h2 D w=>?_) (λi j q x h2 D w=>?_) (λi q D w H=>?_) t p.length (p.length+1) F oo (by rw[g];simp) (by rw[g];simp) rfl oo (by
  rw[g,List.take_append_of_le_length (zQ0 _),List.take_length,List.take_add_one];have:(p++x::t)[p.length]?=some x:=by simp
  rw[this,List.take_append_of_le_length (zQ0 _),List.take_length,List.filter_append,List.filter_eq_self.2 (λa A=>by simp[I a A])];simp[J])
 rw[show J1 .i64 (J0 p) 1=((p.length+1:Nat):Int)from xB oo];exact st;have B:=N7 h2;unfold RG;dsimp only;rw[if_pos (Jw.2 (by unfold J0;omega)),FH B];simp only[Jy,bE,Int.toNat_natCast,h2,z,w];rw[if_pos (show Ji false=true from rfl),FH h1,bA h1,xB (show i<4611686018427387904 by omega),xB (show j<4611686018427387904 by omega)];rfl;have B:=N7 h2;unfold RG;dsimp only;rw[if_pos (Jw.2 (by unfold J0;omega)),FH B];simp only[Jy,bE,Int.toNat_natCast,h2,z,w];rw[if_neg qQH,xB (show j<4611686018427387904 by omega)];unfold RG;dsimp only;rw[if_neg (by rw[Jw];unfold J0;omega)];exact .endq (Oj (t:=eK) w λm K=>.s (show List.take i m=_ from K.trans H))
noncomputable def d7(a:J8)(s:qQC)(w:List TX):J8:=(a.1,a.2.1,hZ (w.map (·.2.1)) a.2.2.1++[(1,a.2.2.2.2,s)],a.2.2.2.1,J1 .i64 a.2.2.2.2 1)
def sN(a:J8)(fan:Int)(y:sB):Prop:=(¬kH a/\y=(([],0,[],0,0),false,54))\/(kH a/\ ¬(2<=fan/\fan<=8)/\y=(([],0,[],0,0),false,1))\/(kH a/\(2<=fan/\fan<=8)/\((iB fan.toNat gW (WR a)=none/\y=(a,false,0))\/ ∃r w,iB fan.toNat gW (WR a)=some (r,w)/\((1073741824<a.2.2.2.2/\y=(([],0,[],0,0),false,21))\/(a.2.2.2.2<=1073741824/\ ∃s,jQ r=some (s,0)/\J0 s<=167968836/\y=(d7 a s w,true,0)))))
theorem vc{r:aC}(h:cZ r)(hf:gK r): ∃s,jQ r=some (s,0)/\J0 s<=167968836:=by
 have n:=(gx h).2;obtain⟨y,e,k⟩:=Ye (B:=4096) (S:=9223372036854775807) (X:=r) ⟨hf.1,hf.2.1,hf.2.2.1,hf.2.2.2.1,hf.2.2.2.2.1,h.2.1,λe j=>Ty.fit.up (B:=0) qQH qQH (show Ty.fit 0 9223372036854775807 J4 e from hf.2.2.2.2.2.2 e j)⟩;have z:Par (jQ r) λy=>y.2=0:=by unfold jQ;rw[n];refine .b λy g=>?_;injection g with g;subst g;refine .n (λc=>by cases c) λ_=>.b λ_ _=>.b λ_ _=>.z (λ_=>True) trivial λz _=>?_;unfold zH;exact .i (λ_=>.b λ_ _=>.b λ_ _=>.b λ_ _=>.b λ_ _=>.s qQG) λ_=>.s rfl
 obtain⟨s,f⟩:=y;have:=z _ e;dsimp only at this;subst this;exact⟨s,e,k.1⟩
theorem kq{α σ ρ β:Type}{L:σ->Option (σ⊕ρ)}{Q:ρ->Prop}{n:Nat}{g:List α->Option β}{l:List α}(hn:0<n)(e:Int->σ)
  (hs: ∀pre w post,l=pre++w++post->w.length=n->Tot (L (e (J0 pre))) λr=>match g w with|none=>r=.inl (e (J0 pre+1))|some b=>match r with| .inl _=>False| .inr y=>iB n g l=some (b,w)->Q y)
  (he: ∀i,0<=i->i<=J0 l->J0 l<i+n->Tot (L (e i)) (zN λy=>iB n g l=none->Q y)):
  ∀(t pre:List α),l=pre++t->iB n g l=iB n g t->Tot (J3 L (e (J0 pre))) Q
 |[],pre,hl,hf=>by
  refine .step ((he (J0 pre) J6 (by rw[hl,cM];have:=J6 (l:=([]:List α));omega) (by rw[hl,fM];omega)).mono λr h=>?_);cases r with
  |inl z=>exact h.elim
  |inr y=>exact h hf
 |x::t,pre,hl,hf=>by
  by_cases c:(x::t).length<n;refine .step ((he (J0 pre) J6 (by rw[hl,cM];have:=J6 (l:=x::t);omega) (by rw[hl,cM];unfold J0;omega)).mono λr h=>?_);cases r with
  |inl z=>exact h.elim
  |inr y=>exact h (hf.trans (mu c))
  have j:((x::t).take n).length=n:=by rw[kT];omega
  have st:=hs pre ((x::t).take n) ((x::t).drop n) (by rw[iC,lV];exact hl) j;rw[ln,if_neg c]at hf;refine .step (st.mono λr h=>?_);cases hg:g ((x::t).take n)with
  |none=>rw[hg]at h hf;subst h;have:=kq hn e hs he t (pre++[x]) (by rw[hl];simp) hf;rw[cM,bY]at this;exact this
  |some b=>
   rw[hg]at h hf;cases r with
   |inl z=>exact h.elim
   |inr y=>exact h hf
end
section
theorem su{w:List TX}{r:aC}(h:gW w=some r)(hw: ∀e∈w,J0 (ent e.1)<=4096/\(e.2.2=true->cZ e.1/\gK e.1)):cZ r/\gK r:=by
 cases w with
 |nil=>cases h
 |cons x t=>
  rw[BU]at h;by_cases c:(∀e∈x::t,e.2.2=true)/\chX x.1.2.2.2.2.1 x.1 t/\fG (jn x t)=some true;rw[if_pos c]at h;injection h with h;subst h;have k:=cZ.of c.2.2;have j:J0 (dO (ent x.1) t)<=4096:=k.2.1;exact⟨k,uu (λe g=>(hw e g).2 (c.1 e g)) oo⟩;rw[if_neg c]at h;cases h
theorem g9{α:Type}{l pre w post:List α}{j k:Int}(h:l=pre++w++post)(hj:j=J0 pre)(hk:k=J0 pre+J0 w):aU l (some j) (some k)=some w:=by
 have g:=J6 (l:=pre);have o:=J6 (l:=w);have q:=J6 (l:=post);have n:J0 l=J0 pre+J0 w+J0 post:=by rw[h,cM,cM]
 obtain⟨r,e,d,_⟩:=uT (l:=l) (j:=j) (k:=k) oo oo oo;rw[e,d,h,hj,show k-J0 pre=J0 w by omega];unfold J0;simp
variable {a:J8} (hf:GQ a) {fan:Int}
include hf
theorem Ki:Tot (IQ (a,fan)) (sN a fan):=by
 unfold IQ;refine .b (Ir a) λy2 h2=>.n (λc=>.s (.inl ⟨λk=>(by rw[h2.2 k]at c;cases c),rfl⟩)) λc=>?_;have h:=h2.1 c;refine .j (λD=>.g (λE=>.s (.inr (.inl ⟨h,λk=>by omega,rfl⟩))) λE=>.w (JRO h hf) ?_) λD=>.s (.inr (.inl ⟨h,λk=>by omega,rfl⟩));dsimp only at D E;have D: ¬fan<2:=D;have E: ¬8<fan:=E;obtain⟨P,O⟩:=Ly (C:=CR a) (lo:= -1) (to:=0) ((ss h hf).imp fun{x y} k=>by unfold ltN at k;omega) λx T=>by obtain⟨R,n2,N,Y,_⟩:=(SJ h hf T).1.1;omega
 have B:iB fan.toNat gW ((WR a).filter λe=>e.2.2)=iB fan.toNat gW (WR a):=Ao oo Qk JM1 P λe j=>(O e j).2.2;have len:=TM h hf;have lF:((WR a).filter λe=>e.2.2).length<=256:=zQ1 (List.length_filter_le _ _) len;have z: ∀e∈(WR a).filter λe=>e.2.2,e.2.2=true/\J0 (ent e.1)<=4096/\(e.2.2=true->cZ e.1/\gK e.1):=λe j=>by obtain⟨S,U⟩:=List.mem_filter.1 j;exact⟨U,SI h hf S⟩
 generalize W:(WR a).filter (λe=>e.2.2)=F at B lF z;have fl:(fan.toNat:Int)=fan:=by omega
 refine kq (L:=fk) (Q:=sN a fan) (l:=F) (n:=fan.toNat) (g:=gW) oo (λi=>(F.map (·.1),i,a,fan,[],[],0,0,0,F.map (·.2.1))) (λpre w post hl hw=>?_) (λi i0 i1 hi=>?_) F [] rfl rfl;have R:=J6 (l:=pre);have ll:J0 F=J0 pre+J0 w+J0 post:=by rw[hl,cM,cM]
 have N:=J6 (l:=post);have I:J0 w=fan:=by unfold J0;omega
 have K:J0 F<=256:=by unfold J0;omega
 have o:=Jg (J0 pre) fan;have Z:=Jg (J0 pre) 1;have wm: ∀e∈w,e∈F:=λe j=>by rw[hl];simp[j]
 unfold fk;dsimp only;rw[if_pos (dD.2 (by rw[cQ];omega))];refine .w (g9 (pre:=pre.map (·.1)) (w:=w.map (·.1)) (post:=post.map (·.1)) (by rw[hl];simp) (by rw[cQ]) (by rw[cQ,cQ];omega)) ?_;cases w with
 |nil=>rw[mI]at I;omega
 |cons x t=>
  refine .b (JPB (x:=x) (t:=t) (λe j=>⟨(z e (wm e j)).1,(z e (wm e j)).2.2 (z e (wm e j)).1⟩) oo) λy q=>?_;obtain⟨r,v⟩:=y;unfold tU at q;cases v with
  |false=>rw[q];exact .s (by show _=_;rw[show J1 .i64 (J0 pre) 1=J0 pre+1 by omega])
  |true=>have q:gW (x::t)=some r:=q;rw[q];obtain⟨M,H⟩:=su q λe j=>(z e (wm e j)).2;obtain⟨s,es,ls⟩:=vc M H;rw[if_neg (show¬Ji true=true by decide)];refine .g (λG=>.s λA=>.inr (.inr ⟨h,⟨by omega,by omega⟩,.inr ⟨r,x::t,B▸A,.inl ⟨G,rfl⟩⟩⟩)) λG=>?_;rw[JOF H];refine .w es (.d (λk=>absurd rfl k) λ_=>.w (MF (by have:=h.few;omega) qQH) (.b (JOb (win:=(x::t).map (·.2.1)) (pre:=pre.map (·.2.1)) (post:=post.map (·.2.1)) (ids:=F.map (·.2.1)) (fan:=fan) (F:=a.2.2.1) h.few (by rw[hl];simp) (by rw[cQ];omega) (by rw[cQ];exact I)|>λk=>by rw[cQ]at k;exact k) λy9 J=>?_));have:=h.few;have V:=List.length_filter_le (λf:aI=> !decide (f.2.1∈(x::t).map (·.2.1))) a.2.2.1;refine .w (eO (by rw[J,bY];unfold hZ J0 at*;omega) qQH) (.s λA=>.inr (.inr ⟨h,⟨by omega,by omega⟩,.inr ⟨r,x::t,B▸A,.inr ⟨by show a.2.2.2.2<=1073741824;have G: ¬1073741824<a.2.2.2.2:=G;omega,s,es,ls,?_⟩⟩⟩));unfold d7;rw[J]
 have K:J0 F<=256:=by unfold J0;omega
 have o:=Jg i fan;unfold fk;dsimp only;rw[if_neg (by rw[dD,cQ];omega)];exact .s λA=>.inr (.inr ⟨h,⟨by omega,by omega⟩,.inl ⟨B▸A,rfl⟩⟩)
theorem JL8{win pre post ids:qQD}{k:Int}{f:aI}{r:aC}{acc:List aI}(g:ids=pre++win++post)(hn:J0 ids<=256)(hw:J0 win=fan)(hk:idx a.2.2.1 k=some f)(A:J0 acc<=256):
  Tot (J3 YY (fan,ids,J0 pre,k,false,J0 pre,a,[],[],0,0,0,r,[],a.1,a.2.1,a.2.2.2.1,a.2.2.2.2,acc)) λy=>y=.inl (fan,ids,J0 pre,J1 .i64 k 1,a,[],[],0,0,0,r,[],a.1,a.2.1,a.2.2.2.1,a.2.2.2.2,if f.2.1∈win then acc else acc++[f]):=by
 have B:=J6 (l:=pre);have D:=J6 (l:=win);have z:=J6 (l:=post);have C:J0 ids=J0 pre+J0 win+J0 post:=by rw[g,cM,cM]
 have o:=Jg (J0 pre) fan;have w:J0 (pre++win)=J0 pre+J0 win:=cM;refine fT (l:=pre++win) (λn (m:Bool)=>(fan,ids,J0 pre,k,m,n,a,[],[],0,0,0,r,[],a.1,a.2.1,a.2.2.2.1,a.2.2.2.2,acc)) (λp m=> ∃q,p=pre++q/\(m=true↔f.2.1∈q)) (λp x t m hl j=>?_) (λm j=>?_) win pre false _ rfl rfl ⟨[],by simp,by simp⟩;obtain⟨q,rfl,h⟩:=j;have v:ids=(pre++q)++x::(t++post):=by rw[g,hl];simp
 have lt:=dV hl;unfold YY;dsimp only;rw[if_pos (Jw.2 oo),fQ hl (n:=256) oo];refine .t (λc=>.w (eY v) (.w hk (.s ⟨_,rfl,q++[x],by simp,?_⟩))) λc=>.s ⟨true,by subst c;rfl,q++[x],by simp,?_⟩;rw[fF];have: ¬f.2.1∈q:=λk=>by rw[h.2 k]at c;cases c
 simp only[zQ9,eB,this,false_or];exact eq_comm;exact⟨λ_=>List.mem_append_left _ (h.1 c),λ_=>rfl⟩;obtain⟨q,e,h⟩:=j;have e:=List.append_cancel_left e;subst e;unfold YY;dsimp only;rw[if_neg (by rw[Jw];omega)];refine .endq (.n (λc=>.w hk (.w (eO (by rw[bY];omega) qQH) (.s ?_))) λc=>.s ?_);rw[if_neg (λk=>by rw[h.2 k]at c;cases c)];rw[if_pos (h.1 c)]
theorem Ks:Tot (XL (a,fan)) (sN a fan):=by
 unfold XL;refine .b (d8 a) λW h2=>.n (λc=>.s (.inl ⟨λk=>(by rw[h2.2 k]at c;cases c),rfl⟩)) λc=>?_;have h:=h2.1 c;refine .j (λD=>.g (λE=>.s (.inr (.inl ⟨h,λk=>by omega,rfl⟩))) λE=>.w (Li h hf) ?_) λD=>.s (.inr (.inl ⟨h,λk=>by omega,rfl⟩));dsimp only at D E;have D: ¬fan<2:=D;have E: ¬8<fan:=E;have len:=TM h hf;have J: ∀e∈WR a,J0 (ent e.1)<=4096/\(e.2.2=true->cZ e.1/\gK e.1):=λe z=>SI h hf z;refine kq (L:=ZE) (Q:=sN a fan) (l:=(WR a)) (n:=fan.toNat) (g:=gW) oo (λi=>(fan,(WR a).map (·.1),(WR a).map (·.2.1),(WR a).map (·.2.2),i,a,[],[],0,0,0)) (λpre w post hl Y=>?_) (λi T i1 hi=>?_) (WR a) [] rfl rfl;have U:=J6 (l:=pre);have V:J0 (WR a)=J0 pre+J0 w+J0 post:=by rw[hl,cM,cM]
 have R:=J6 (l:=post);have M:J0 w=fan:=by unfold J0;omega
 have N:J0 (WR a)<=256:=by unfold J0;omega
 have o:=Jg (J0 pre) fan;have S:=Jg (J0 pre) 1;have wm: ∀e∈w,e∈(WR a):=λe z=>by rw[hl];simp[z]
 unfold ZE;dsimp only;rw[if_pos (dD.2 (by rw[cQ];omega))];refine .w (g9 (pre:=pre.map (·.1)) (w:=w.map (·.1)) (post:=post.map (·.1)) (by rw[hl];simp) (by rw[cQ]) (by rw[cQ,cQ];omega)) (.w (g9 (pre:=pre.map (·.2.2)) (w:=w.map (·.2.2)) (post:=post.map (·.2.2)) (by rw[hl];simp) (by rw[cQ]) (by rw[cQ,cQ];omega)) ?_);cases w with
 |nil=>rw[mI]at M;omega
 |cons x t=>
  refine .b (JQK (x:=x) (t:=t) (λe z=>J e (wm e z)) oo) λy j=>?_;obtain⟨r,v⟩:=y;unfold tU at j;cases v with
  |false=>rw[j];exact .s (by show _=_;rw[show J1 .i64 (J0 pre) 1=J0 pre+1 by omega])
  |true=>
   have j:gW (x::t)=some r:=j;rw[j];obtain⟨O,P⟩:=su j λe z=>J e (wm e z);obtain⟨s,es,ls⟩:=vc O P;rw[if_neg (show¬Ji true=true by decide)];refine .g (λF=>.s λC=>.inr (.inr ⟨h,⟨by omega,by omega⟩,.inr ⟨r,x::t,C,.inl ⟨F,rfl⟩⟩⟩)) λF=>?_;have H:=h.few;have G:(WR a).map (·.2.1)=pre.map (·.2.1)++(x::t).map (·.2.1)++post.map (·.2.1):=by rw[hl];simp
   have go:Tot (J3 ZC (fan,(WR a).map (·.2.1),J0 pre,0,a,[],[],0,0,0,r,[],a.1,a.2.1,a.2.2.2.1,a.2.2.2.2,[])) λy=>y=.inr (d7 a s (x::t),true,0):=(by refine fT (l:=a.2.2.1) (λk (acc:List aI)=>(fan,(WR a).map (·.2.1),J0 pre,k,a,[],[],0,0,0,r,[],a.1,a.2.1,a.2.2.2.1,a.2.2.2.2,acc)) (λp acc=>acc=hZ ((x::t).map (·.2.1)) p) (λp f q acc B A=>?_) (λacc A=>?_) a.2.2.1 [] [] _ rfl rfl rfl;have lt:=dV B;have K:=List.length_filter_le (λf:aI=> !decide (f.2.1∈(x::t).map (·.2.1))) p;unfold ZC;dsimp only;rw[if_pos (Jw.2 lt)];have I:=JL8 hf (fan:=fan) (win:=(x::t).map (·.2.1)) (pre:=pre.map (·.2.1)) (post:=post.map (·.2.1)) (r:=r) (acc:=acc) G (by rw[cQ];omega) (by rw[cQ];exact M) (eY B) (by rw[A];unfold hZ J0 at*;omega);rw[cQ]at I;refine I.mono λy j=>?_;rw[j,fQ B (n:=256) H];refine⟨_,rfl,?_⟩;unfold hZ at A⊢;rw[List.filter_append,<-A];by_cases c:f.2.1∈(x::t).map (·.2.1);rw[if_pos c,List.filter_cons_of_neg (by rw[decide_eq_true c];decide),List.filter_nil,fM];rw[if_neg c,List.filter_cons_of_pos (by rw[decide_eq_false c];rfl)];rfl;have K:=List.length_filter_le (λf:aI=> !decide (f.2.1∈(x::t).map (·.2.1))) a.2.2.1;unfold ZC;dsimp only;rw[if_neg (by rw[Jw];omega)];refine .endq (.w es (.w (eO (by rw[A,bY];unfold hZ J0 at*;omega) qQH) (.s ?_)));rw[A];rfl);refine go.mono λy j=>?_;rw[j];exact λC=>.inr (.inr ⟨h,⟨by omega,by omega⟩,.inr ⟨r,x::t,C,.inr ⟨by show a.2.2.2.2<=1073741824;have F: ¬1073741824<a.2.2.2.2:=F;omega,s,es,ls,rfl⟩⟩⟩)
 have N:J0 (WR a)<=256:=by unfold J0;omega
 have o:=Jg i fan;unfold ZE;dsimp only;rw[if_neg (by rw[dD,cQ];omega)];exact .s λC=>.inr (.inr ⟨h,⟨by omega,by omega⟩,.inl ⟨C,rfl⟩⟩)
omit hf
theorem sN.uniq{y z:sB}(h:sN a fan y)(g:sN a fan z):y=z:=by
 rcases h with⟨h1,h2⟩|⟨h1,h2,B⟩|⟨h1,h2,B⟩;rcases g with⟨j,k⟩|⟨j,_⟩|⟨j,_⟩;rw[h2,k];exact absurd j h1;exact absurd j h1;rcases g with⟨j,k⟩|⟨j,k,o⟩|⟨j,k,_⟩;exact absurd h1 j;rw[B,o];exact absurd k h2;rcases g with⟨j,k⟩|⟨j,k,o⟩|⟨j,k,o⟩;exact absurd h1 j;exact absurd h2 k;rcases B with⟨e,x⟩|⟨r,w,e,x⟩;rcases o with⟨e',n⟩|⟨r',w',e',n⟩;rw[x,n];rw[e]at e';cases e';rcases o with⟨e',n⟩|⟨r',w',e',n⟩;rw[e]at e';cases e';rw[e]at e';injection e' with e';injection e' with e1 e2;subst e1 e2;rcases x with⟨q,A⟩|⟨q,s,es,_,A⟩;rcases n with⟨q',v⟩|⟨q',_⟩;rw[A,v];omega;rcases n with⟨q',v⟩|⟨q',s',C,_,v⟩;omega;have:=es.symm.trans C;injection this with this;injection this with this _;rw[A,v,this]
end
section
def oU(K:Int)(a:J8):Prop:=(∀f∈a.2.2.1,J0 f.2.2<=K)/\J0 a.2.2.1<=257/\J0 a.1<=16
theorem oU.zero{K:Int}:oU K ([],0,[],0,0):=⟨nofun,by decide,by decide⟩
theorem oU.up{K e:Int}{a:J8}(h:oU K a)(hk:K<=e):oU e a:=⟨λf hf=>jC (h.1 f hf) hk,h.2⟩
theorem sN.af{K:Int}{a:J8}{fan:Int}{y:sB}(e:167968836<=K)(h:oU K a)(o:sN a fan y):oU K y.1/\(y.2.2=0->y.2.1=false->y.1=a)/\(y.2.2=0->y.2.1=true->y.1.2.2.2.2=a.2.2.2.2+1/\a.2.2.2.2<=1073741824):=by
 rcases o with⟨_,rfl⟩|⟨_,_,rfl⟩|⟨ok,_,⟨_,rfl⟩|⟨r,w,_,⟨_,rfl⟩|⟨hs,s,_,ls,rfl⟩⟩⟩;exact⟨.zero,λc=>absurd c qQH,λc=>absurd c qQH⟩;exact⟨.zero,λc=>absurd c qQH,λc=>absurd c qQH⟩;exact⟨h,λ_ _=>rfl,λ_ c=>(by cases c)⟩;exact⟨.zero,λc=>absurd c qQH,λc=>absurd c qQH⟩;have o:=Jg a.2.2.2.2 1;have:=ok.ser;refine⟨⟨λf hf=>?_,?_,h.2.2⟩,λ_ c=>(by cases c),λ_ _=>⟨by show J1 .i64 a.2.2.2.2 1=_;omega,hs⟩⟩;rcases zQ9.1 hf with k|k;exact h.1 f (List.mem_filter.1 k).1;rw[eB.1 k];show J0 s<=K;omega;have g:=List.length_filter_le (λf:aI=> !decide (f.2.1∈w.map (·.2.1))) a.2.2.1;have:=ok.few;show J0 (hZ _ _++_)<=257;rw[cM,bY];unfold hZ J0 at*;omega
theorem Nf{K fan:Int}(j:167968836<=K)(g:K<=1073741824): ∀(n:Nat) (a:J8),oU K a->(1073741826-a.2.2.2.2).toNat<=n-> ∃y,J3 fo (fan,a,[],0,[],0,0)=some y/\J3 CZ (fan,a,[],0,[],0,0)=some y/\oU K y.1
 |n,a,h,hn=>by
  have hf:GQ a:=λf hf=>jC (h.1 f hf) g;obtain⟨y,F,o⟩:=Ki hf (fan:=fan);obtain⟨z,E,B⟩:=Ks hf (fan:=fan);have:=o.uniq B;subst this;obtain⟨v,D,A⟩:=o.af j h;have s1:fo (fan,a,[],0,[],0,0)=if aO y.2.2 0=true then some (.inr (([],0,[],0,0),y.2.2))else if Ji y.2.1=true then some (.inr (y.1,0))else some (.inl (fan,y.1,[],0,[],0,0)):=by unfold fo;dsimp only;rw[F];rfl
  have e:CZ (fan,a,[],0,[],0,0)=if aO y.2.2 0=true then some (.inr (([],0,[],0,0),y.2.2))else if Ji y.2.1=true then some (.inr (a,0))else some (.inl (fan,y.1,[],0,[],0,0)):=by unfold CZ;dsimp only;rw[E];rfl
  by_cases c:aO y.2.2 0=true;rw[if_pos c]at s1 e;exact⟨_,dC s1,dC e,.zero⟩;rw[if_neg c]at s1 e;have q:y.2.2=0:=Decidable.of_not_not λk=>c (eH.2 k);cases hb:y.2.1 with
  |false=>rw[hb,if_pos (show Ji false=true from rfl)]at s1 e;rw[D q hb]at s1;exact⟨_,dC s1,dC e,h⟩
  |true=>
   rw[hb,if_neg (show¬Ji true=true by decide)]at s1 e;obtain⟨G,H⟩:=A q hb
   match n,hn with
   |0,hn=>omega
   |n+1,hn=>obtain⟨r,x,C,w⟩:=Nf j g n y.1 v oo;exact⟨r,by rw[eR s1];exact x,by rw[eR e];exact C,w⟩
theorem JPe{K:Int}{a:J8}{fan:Int}(g:167968836<=K)(e:K<=1073741824)(h:oU K a): ∃y,ff (a,fan)=some y/\CY (a,fan)=some y/\oU K y.1:=
 Nf g e _ a h (zQ0 _)
theorem JPA{a:J8}(h:kH a){i b:Int}(e:idx a.1 i=some b):0<=b/\b<64:=by
 obtain⟨B,e⟩:=eS e;obtain⟨o,j⟩:=eC.1 e;obtain⟨_,z⟩:=eS h.zero;obtain⟨x,r⟩:=eC.1 z;have hl:=h.len;obtain⟨w,g,_⟩:=kL (l:=a.1) (i:=J0 a.1-1) oo oo;have C:=h.last w g;obtain⟨_,g⟩:=eS g;obtain⟨v,n⟩:=eC.1 g;have k:=h.asc;unfold Asc at k;have p:=List.pairwise_iff_getElem.1 k;have y:=h.pages;have A:(J0 a.1-1).toNat+1=a.1.length:=by unfold J0 at*;omega
 constructor;rcases KQ i.toNat with c|c;have q:(0:Int)=b:=by rw[<-j,<-r];congr 1;exact c.symm
 omega;have:=p (0:Int).toNat i.toNat x o c;rw[j,r]at this;omega;rcases zQ3 i.toNat (J0 a.1-1).toNat with c|c;have:=p i.toNat (J0 a.1-1).toNat o v c;rw[j,n]at this;omega;have q:w=b:=by rw[<-j,<-n];congr 1;omega
 omega
theorem JKo{a:J8}(h:kH a){i:Int}(h0:0<=i)(h1:i<J0 a.1):Tot (iX (a,i)) λy=>Ty.fit 0 0 (.i .i64) y.1/\Ty.fit 0 0 (.i .i64) y.2:=by unfold iX;dsimp only;have k:=Jg i 1;have:=h.len.2;obtain⟨w,e,_⟩:=kL (l:=a.1) h0 h1;have b:=JPA h e;have g:Ty.fit 0 0 (.i .i64) w:=J2.2 (show -9223372036854775808<=w/\w<=9223372036854775807 by omega);refine .l (λc=>?_) λc=>.w e (.s ⟨g,eX⟩);obtain⟨n,j,_⟩:=kL (l:=a.1) (i:=J1 .i64 i 1) oo c;exact .w j (.w e (.s ⟨g,eX⟩))
theorem JL7{x:aC}(h:gK x):Tot (jQ x) λy=>J0 y.1<=167968836:=by
 obtain⟨v,j,g,hR⟩:=vv h;cases v with
 |false=>unfold jQ;rw[g];exact .s qQH
 |true=>obtain⟨s,e,l⟩:=vc (hR rfl) h;exact⟨_,e,l⟩
end
section
theorem JGh{n i:Nat}(hn:n<2^64):J6z (n:Int) i=((n/2^(8*i)%256:Nat):Int):=by show((IntKind.wrap .u64 (n:Int)).fdiv (2^(8*i)))%256=_;rw[Int.fdiv_eq_ediv_of_nonneg _ (Int.le_of_lt (Int.pow_pos qQH)),wU oo oo];simp
theorem JLl{n:Int}{k i:Nat}(h:i<k):(J1y n k)[i]?=some (UInt8.ofNat (J6z n i).toNat):=by simp[J1y,toStr,h]
theorem hC{s r:qQC}{n:Int}{k:Nat}(h1:1<=k)(F:k<=8)(h:JB (s,n,(k:Int))=some r):r=s++J1y n k:=by
 have v:Par (JB (s,n,(k:Int))) λr=>r=s++J1y n k:=by
  unfold JB;refine .j (λ_=>.g (λc=>by dsimp only at c;omega) λ_=>?_) λc=>by dsimp only at c;omega
  refine .z (λz=>z.2.1=n/\z.2.2.1=(k:Int)/\ ∃j:Nat,z.2.2.2=(j:Int)/\j<=k/\z.1=s++J1y n j) ⟨rfl,rfl,0,rfl,zQ2 _,by simp[J1y,toStr]⟩ ?_;rintro⟨o,w,D,B⟩ ⟨rfl,rfl,j,rfl,H,e⟩;dsimp only at e;subst e;unfold YE;dsimp only;have E:=Jg (j:Int) 1;have C:=qQ 8 (j:Int);refine .l (λc=>.b λx q=>.b λG g=>.s ⟨rfl,rfl,j+1,by dsimp only;omega,by omega,?_⟩) λc=>.s (by rw[show j=k by omega]);have A:aT .u8 x=J6z w j:=by
   have y:aT .u64 (cA .i64 8 (j:Int))=((8*j:Nat):Int):=by unfold aT;rw[wU oo oo];omega
   rw[y]at q;simp only[hY]at q;rw[if_neg oo]at q;injection q with q;rw[<-q];have:min (((8*j:Nat):Int)).toNat IntKind.u64.bits=8*j:=by simp only[Int.toNat_natCast];exact Nat.min_eq_left (by show 8*j<=64;omega)
   rw[this];rfl
  rw[A]at g;dsimp only;unfold cN at g;split at g;injection g with g;rw[<-g,Jvo,iC];rfl;cases g
 exact v _ h
def At(s w:qQC)(p:Int):Prop:= ∃pre post,s=pre++(w++post)/\(pre.length:Int)=p
theorem At.left{s a b:qQC}{p:Int}(h:At s (a++b) p):At s a p:=by obtain⟨pre,post,e,h⟩:=h;exact⟨pre,b++post,by rw[e];simp,h⟩
theorem At.right{s a b:qQC}{p:Int}(h:At s (a++b) p):At s b (p+a.length):=by obtain⟨pre,post,e,h⟩:=h;exact⟨pre++a,post,by rw[e];simp,by rw[dP];omega⟩
theorem At.bnd{s w:qQC}{p:Int}(h:At s w p):0<=p/\p+w.length<=s.length:=by obtain⟨pre,post,e,h⟩:=h;subst e;simp only[dP];omega
theorem At.slc{s w r:qQC}{p q:Int}(h:At s w p)(hq:q=p+w.length)(e:aU s (some p) (some q)=some r):r=w:=by
 obtain⟨pre,post,rfl,rfl⟩:=h;obtain⟨r',e',d,_⟩:=uT (l:=pre++(w++post)) (j:=pre.length) (k:=q) oo oo (by unfold J0;simp only[dP];omega);rw[e']at e;injection e with e;subst e;rw[d,show(q-(pre.length:Int)).toNat=w.length by omega];simp
theorem At.all{s:qQC}:At s s 0:=⟨[],[],by simp,rfl⟩
theorem SE{s:qQC}{p:Int}{n k:Nat}(h:At s (J1y n k) p)(h1:1<=k)(J:k<=8)(hn:n<2^(8*k))(E:n<2^63)(hl:s.length<=4611686018427387904):
  JO (s,p,(k:Int))=some ((n:Int),0):=by
 have hb:=h.bnd;rw[J0s]at hb;obtain⟨pre,post,hs,rfl⟩:=h;have v:Tot (JO (s,(pre.length:Int),(k:Int))) λy=>y=((n:Int),0):=by
  unfold JO;have o:=bG (J0 s) (pre.length:Int);have F:J0 s=(s.length:Int):=rfl;refine .j (λ_=>.k (λ_=>.l (λc=>by dsimp only at c;omega) λ_=>.k (λ_=>.l (λc=>by dsimp only at c;omega) λ_=>?_) λc=>by dsimp only at c;omega) λc=>by dsimp only at c;omega) λc=>by dsimp only at c;omega
  refine Jl (τ:=Nat) (λj=>(s,(pre.length:Int),(k:Int),((n%2^(8*j):Nat):Int),(j:Int))) (λj=>j<=k) (λj=>(k:Int)-j) ?_ 0 (by simp[Nat.mod_one]) (zQ2 _);intro j K;unfold zG;dsimp only;have H:=Jg (j:Int) 1;have G:=qQ 8 (j:Int);have I:=Jg (pre.length:Int) (j:Int);refine .l (λc=>?_) λc=>.s ?_;have D:J1 .i64 (pre.length:Int) (j:Int)=((pre.length+j:Nat):Int):=by omega
  have g:pre.length+j<s.length:=by omega
  have hb:(s[pre.length+j]'g).toNat=n/2^(8*j)%256:=by
   have q:s[pre.length+j]?=some (UInt8.ofNat (J6z (n:Int) j).toNat):=by rw[hs,rX oo,Nat.add_sub_cancel_left,AK (by rw[J0s];omega),JLl oo]
   rw[bA g]at q;injection q with q;have B:=Jry (n:Int) j;rw[<-q,JGh oo]at B;omega
  have w:n/2^(8*j)%256<256:=Nat.mod_lt _ oo;have A:aT .u64 (cA .i64 8 (j:Int))=((8*j:Nat):Int):=by unfold aT;rw[wU oo oo];omega
  have C:mZ .u64 (aT .u64 (((s[pre.length+j]'g).toNat:Nat):Int)) ((8*j:Nat):Int)=some (IntKind.wrap .u64 (((n/2^(8*j)%256:Nat):Int)*2^(8*j))):=by
   unfold aT;rw[hb,wU oo oo];simp only[mZ];rw[if_neg oo];have:min (((8*j:Nat):Int)).toNat IntKind.u64.bits=8*j:=by simp only[Int.toNat_natCast];exact Nat.min_eq_left (by show 8*j<=64;omega)
   rw[this]
  have r:=Lq (x:=n%2^(8*j)) (b:=n/2^(8*j)%256) (j:=j) oo (Nat.mod_lt _ (Nat.two_pow_pos _)) w;have z:n%2^(8*j)+n/2^(8*j)%256*2^(8*j)=n%2^(8*(j+1)):=by rw[Nat.mul_add,Nat.pow_add,Nat.mod_mul,dd (n/2^(8*j)%256)]
  rw[z]at r;rw[D,TP g,Jy,A,C,Jy,r];exact .s ⟨j+1,by rw[show J1 .i64 (j:Int) 1=((j+1:Nat):Int) by omega],by omega,by omega,by omega⟩;rw[show j=k by omega,Nat.mod_eq_of_lt hn];unfold aT;rw[ck oo oo]
 obtain⟨y,e,d⟩:=v;rw[e,d]
end
section
def lX(c:gF):Prop:=J0 c.2<=12/\(c.1=false->c.2=[])
def EV(e:aA):Prop:=(1<=e.1/\e.1<=1099511627776)/\(0<=e.2.2.2.1/\e.2.2.2.1<e.1)/\(0<=e.2.2.2.2.1/\e.2.2.2.2.1<e.1)/\(0<=e.2.2.2.2.2.1/\e.2.2.2.2.2.1<e.1)/\(1<=e.2.1/\e.2.1<=8)/\(0<=e.2.2.1/\e.2.2.1<=1073741824)/\(0<=bL e/\bL e<64)/\(0<=e.2.2.2.2.2.2.1.2.1/\e.2.2.2.2.2.2.1.2.1<16)/\lX e.2.2.2.2.2.2.1.2.2.1/\lX e.2.2.2.2.2.2.1.2.2.2/\J0 e.2.2.2.2.2.2.2<=8192
theorem Pu{c:gF}(h:JK c=some true):lX c:=by
 have e:Par (JK c) λy=>y=true->lX c:=by
  unfold JK;refine .i (λj=>.t (λg=>.s ?_) λg=>.s ?_) λj=>.s ?_
  all_goals grind [lX,eqS,aW,J0]
 exact e _ h rfl
theorem EV.of{e:aA}(h:JF e=some true):EV e:=by
 obtain⟨G,B,A,F,E,D,⟨w,x,r,o⟩,j⟩:=e;have g: ∀{c:gT} {b:Bool},iY c=some b->b=true->(0<=c.1/\c.1<64)/\(0<=c.2.1/\c.2.1<16)/\lX c.2.2.1/\lX c.2.2.2:=fun{c b} hb K=>by
  have C:Par (iY c) λy=>y=true->(0<=c.1/\c.1<64)/\(0<=c.2.1/\c.2.1<16)/\lX c.2.2.1/\lX c.2.2.2:=by unfold iY;refine .h (λJ=>.l (λL=>.h (λg=>.l (λN=>.b λa O=>.i (λI=>.b λb hb=>.s λH=>?_) λ_=>.s nofun) λ_=>.s nofun) λ_=>.s nofun) λ_=>.s nofun) λ_=>.s nofun;subst I;subst H;exact⟨⟨J,L⟩,⟨g,N⟩,Pu O,Pu hb⟩
  exact C _ hb K
 have z:lX (false,[]):=⟨show(0:Int)<=12 by decide,λ_=>rfl⟩;have V:Par (nW (G,B,A,F,E,D,(w,x,r,o),j)) λy=>y.2=true->y.1=(G,B,A,F,E,D,(w,x,r,o),j)->(1<=B/\B<=8)/\(0<=A/\A<=1073741824)/\(0<=w/\w<64)/\(0<=x/\x<16)/\lX r/\lX o/\J0 j<=8192:=by
  unfold nW;dsimp only
  repeat' first
   |refine .e (λ_=>?_) λ_=>?_
   |refine .h (λ_=>?_) λ_=>?_
   |refine .G (λ_=>?_) λ_=>?_
   |refine .g (λ_=>?_) λ_=>?_
   |exact .s λh=>absurd h Bool.false_ne_true
   |refine .b λv q=>.i (λk=>?_) λ_=>.s nofun
   |refine .b λv q=>.e (λ_=>.i (λk=>?_) λ_=>.s nofun) λ_=>.i (λk=>?_) λ_=>.s nofun
  all_goals refine .s λc P=>?_
  all_goals simp only[Prod.mk.injEq,true_and,and_true]at P
  all_goals simp only[dD,Jw,fS]at c
  all_goals first
   |exact⟨by omega,by omega,(g q k).1,(g q k).2.1,(g q k).2.2.1,(g q k).2.2.2,by rw[<-P];exact(by decide:(0:Int)<=8192)⟩
   |exact⟨by omega,by omega,(g q k).1,(g q k).2.1,(g q k).2.2.1,(g q k).2.2.2,by rw[<-P.2];exact(by decide:(0:Int)<=8192)⟩
   |(have Y:r=(false,[]):=by grind
     have R:o=(false,[]):=by grind
     have Q:J0 j<=8192:=by
      first
       |exact c
       |(have:j=[]:=by grind
         rw[this];exact(by decide:(0:Int)<=8192))
     rw[Y,R];exact⟨by omega,by omega,by omega,by omega,z,z,Q⟩)
 have M: ∀{n l:Int} {b:Bool},kO (n,l)=some b->b=true->0<=n/\n<l:=fun{n l b} hb K=>WL (by rw[<-K];exact hb);have C:Par (JF (G,B,A,F,E,D,(w,x,r,o),j)) λy=>y=true->EV (G,B,A,F,E,D,(w,x,r,o),j):=.b λa O=>.i (λJ=>.i (λL=>.h (λg=>.G (λN=>.b λb1 T=>.i (λI=>.b λb2 S=>.i (λH=>.b λZ U=>.s λW=>⟨⟨g,N⟩,M T I,M S H,M U W,V _ O J (eA.1 L)⟩) λ_=>.s nofun) λ_=>.s nofun) λ_=>.s nofun) λ_=>.s nofun) λ_=>.s nofun) λ_=>.s nofun
 exact C _ h rfl
end
section
def oZ(c:gF):qQC:=if c.1=false then J1y 255 1 else J1y (J0 c.2) 1++c.2
def nF(e:aA):qQC:=J1y e.1 8++(J1y e.2.1 1++(J1y e.2.2.1 4++(J1y e.2.2.2.1 8++(J1y e.2.2.2.2.1 8++(J1y e.2.2.2.2.2.1 8++(J1y (bL e) 4++(J1y e.2.2.2.2.2.2.1.2.1 1++(oZ e.2.2.2.2.2.2.1.2.2.1++(oZ e.2.2.2.2.2.2.1.2.2.2++(J1y (J0 e.2.2.2.2.2.2.2) 4++e.2.2.2.2.2.2.2))))))))))
theorem MI{a b r:qQC}(h:cN a b=some r):r=a++b:=by
 unfold cN at h;split at h;injection h with h;exact h.symm;cases h
theorem L3{s r:qQC}{c:gF}(h:sV (s,c)=some r):r=s++oZ c:=by
 have e:Par (sV (s,c)) λr=>r=s++oZ c:=(by unfold sV oZ;refine .n (λd=>.b λo h2=>.s ?_) λd=>.b λn j=>.b λq g=>.s ?_;rw[hC (k:=1) qQH qQH h2,if_pos d];rw[MI g,hC (k:=1) qQH qQH j,if_neg (by rw[show c.1=true from d];decide),iC]);exact e _ h
theorem JSH{e:aA}{y:qQC×Int}(h:mT e=some y)(hv:JF e=some true):y=(nF e,0):=by
 have w:Par (mT e) λy=>y=(nF e,0):=(by unfold mT;refine .b λv g=>.n (λc=>?_) λ_=>.b λL E=>.b λQ C=>.b λN D=>.b λO A=>.b λK x=>.b λM z=>.b λP B=>.b λF o=>.b λJ r=>.b λI q=>.b λG j=>.b λH n=>.s ?_;rw[hv]at g;injection g with g;subst g;cases c;rw[MI n,hC (k:=4) qQH qQH j,L3 q,L3 r,hC (k:=1) qQH qQH o,hC (k:=4) qQH qQH B,hC (k:=8) qQH qQH z,hC (k:=8) qQH qQH x,hC (k:=8) qQH qQH A,hC (k:=4) qQH qQH D,hC (k:=1) qQH qQH C,hC (k:=8) qQH qQH E];unfold nF;simp only[iC,sA];rfl);exact w _ h
variable {s:qQC} {p:Int}
theorem qT{n:Int}{k:Nat}(b:Nat)(h:At s (J1y n k) p)(hl:s.length<=1000000)(h0:0<=n)(hn:n<b)(hb:b=2^(8*k):=by rfl)(h1:1<=k:=by decide)(j:k<=8:=by decide)(q:n<9223372036854775808:=by omega):JD ((k:Int),s,p,0)=some (n,s,p+k,0):=by have e:=h.bnd;rw[J0s]at e;obtain⟨m,rfl⟩:=Int.eq_ofNat_of_zero_le h0;have g:=SE h h1 j oo oo oo;have o:=Jg p (k:Int);unfold JD;dsimp only;rw[if_neg qQH,g];dsimp only[Option.bind_some];rw[if_neg qQH,show J1 .i64 p (k:Int)=p+k by omega]
theorem Kq{w:qQC}(h:At s w p)(hl:s.length<=1000000):tO (J0 w,s,p,0)=some (w,s,p+w.length,0):=by
 have hb:=h.bnd;have o:=Jg p (J0 w);have n:=bG (J0 s) p;have k:=bG (J1 .i64 p (J0 w)) (J0 w);have q:J0 w=w.length:=rfl;have hs:J0 s=s.length:=rfl;have g:Tot (tO (J0 w,s,p,0)) λy=>y=(w,s,p+w.length,0):=by unfold tO;dsimp only;refine .d (λc=>absurd rfl c) λ_=>.g (λc=>by omega) λ_=>?_;rw[show Jm .i64 (J1 .i64 p (J0 w)) (J0 w)=p by omega,show J1 .i64 p (J0 w)=p+w.length by omega];refine .b (uT (l:=s) hb.1 oo oo).eqn λr j=>.s ?_;rw[h.slc rfl j.2]
 obtain⟨y,e,d⟩:=g;rw[e,d]
theorem Kf{c:gF}(h:At s (oZ c) p)(hc:lX c)(hl:s.length<=1000000):wC (s,p,0)=some (c,s,p+(oZ c).length,0):=by
 unfold oZ at h⊢;unfold wC;obtain⟨b,d⟩:=c;obtain⟨h1,h2⟩:=hc;dsimp only at h h1 h2⊢;have j:=J6 (l:=d);cases b with
 |false=>rw[if_pos rfl]at h⊢;have g:=qT (k:=1) 256 h hl qQH qQH;rw[show JD (1,s,p,0)=_ from g,h2 rfl];rfl
 |true=>rw[if_neg qQH]at h⊢;have g:=qT (k:=1) 256 h.left hl oo oo;have e:=Kq h.right hl;rw[show JD (1,s,p,0)=_ from g];dsimp only[Option.bind_some];rw[if_pos qQH,if_neg (by rw[fF];omega),if_neg (by rw[fS];omega)];rw[J0s]at e;rw[e];dsimp only[Option.bind_some];rw[dP,J0s,Int.natCast_add,Int.add_assoc]
theorem K2{e:aA}(hv:JF e=some true):tD (nF e)=some (e,0)/\(nF e).length<=8300:=by
 obtain⟨N,O,M,P,Q,H,I,L,r,h,G⟩:=EV.of hv;have j: ∀{c:gF},lX c->(oZ c).length<=13:=fun{c} hc=>by
  unfold oZ;have:=hc.1;unfold J0 at this;split;rw[J0s];decide;rw[dP,J0s];omega
 have J:=j r;have K:=j h;have hl:(nF e).length=46+(oZ e.2.2.2.2.2.2.1.2.2.1).length+(oZ e.2.2.2.2.2.2.1.2.2.2).length+e.2.2.2.2.2.2.2.length:=by unfold nF;simp only[dP,J0s];omega
 have F:J0 e.2.2.2.2.2.2.2=e.2.2.2.2.2.2.2.length:=rfl;refine⟨?_,by omega⟩;have hs:(nF e).length<=1000000:=by omega
 generalize E:nF e=s at hl hs;have g:At s (nF e) 0:=by rw[E];exact .all
 unfold nF at g;have D:=qT (k:=8) 18446744073709551616 g.left hs oo oo;replace g:=g.right;simp only[J0s]at g;have C:=qT (k:=1) 256 g.left hs oo oo;replace g:=g.right;simp only[J0s]at g;have B:=qT (k:=4) 4294967296 g.left hs oo oo;replace g:=g.right;simp only[J0s]at g;have z:=qT (k:=8) 18446744073709551616 g.left hs oo oo;replace g:=g.right;simp only[J0s]at g;have A:=qT (k:=8) 18446744073709551616 g.left hs oo oo;replace g:=g.right;simp only[J0s]at g;have v:=qT (k:=8) 18446744073709551616 g.left hs oo oo;replace g:=g.right;simp only[J0s]at g;have x:=qT (k:=4) 4294967296 g.left hs oo oo;replace g:=g.right;simp only[J0s]at g;have y:=qT (k:=1) 256 g.left hs oo oo;replace g:=g.right;simp only[J0s]at g;have w:=Kf g.left r hs;replace g:=g.right;have q:=Kf g.left h hs;replace g:=g.right;have n:=qT (k:=4) 4294967296 g.left hs oo oo;replace g:=g.right;simp only[J0s]at g;have o:=Kq g hs;unfold tD;rw[show JD (8,s,0,0)=_ from D,Jy];rw[show JD (1,s,_,0)=_ from C,Jy];rw[show JD (4,s,_,0)=_ from B,Jy];rw[show JD (8,s,_,0)=_ from z,Jy];rw[show JD (8,s,_,0)=_ from A,Jy];rw[show JD (8,s,_,0)=_ from v,Jy];rw[show JD (4,s,_,0)=_ from x,Jy];rw[show JD (1,s,_,0)=_ from y,Jy];rw[w,Jy];rw[q,Jy];rw[show JD (4,s,_,0)=_ from n,Jy];rw[o,Jy];dsimp only;rw[if_neg qQH,if_neg (by rw[eH,Decidable.not_not];unfold J0;omega)];rw[show JF (e.1,e.2.1,e.2.2.1,e.2.2.2.1,e.2.2.2.2.1,e.2.2.2.2.2.1,(bL e,e.2.2.2.2.2.2.1.2.1,e.2.2.2.2.2.2.1.2.2.1,e.2.2.2.2.2.2.1.2.2.2),e.2.2.2.2.2.2.2)=some true from hv];rfl
end
section
variable {s r w:qQC} {p:Int}
theorem Kv{c:Int}(h:mN s=some c):0<=c/\c<4294967296:=by
 have e:Par (mN s) λc=>0<=c/\c<4294967296:=(by unfold mN;refine .z (λ_=>True) trivial λz _=>?_;unfold YG;refine .l (λ_=>.b λ_ _=>.z (λ_=>True) trivial λz _=>?_) λ_=>.s ?_;unfold QH;exact .l (λ_=>.e (λ_=>.b λ_ _=>.s qQG) λ_=>.b λ_ _=>.s qQG) λ_=>.s qQG;exact⟨(pL .u32 _).1,Int.lt_of_le_of_lt (pL .u32 _).2 qQH⟩);exact e _ h
def FrB(w r:qQC):Prop:=J0 w<=8392/\ ∃c,mN (J1y (J0 w) 4++w)=some c/\r=(J1y (J0 w) 4++w)++J1y c 4
theorem Kx(h:lS w=some r)(hl:J0 w<=8392):FrB w r:=by
 have e:Par (lS w) λr=>FrB w r:=(by unfold lS;refine .g (λc=>by omega) λ_=>.b λv h2=>.b λn g=>.b λc hc=>.b λo j=>.s ⟨hl,c,?_,?_⟩;rw[MI g,hC (k:=4) qQH qQH h2]at hc;exact hc;obtain⟨q,x⟩:=Kv hc;rw[hC (k:=4) qQH qQH j,MI g,hC (k:=4) qQH qQH h2];unfold aT;rw[ck oo oo];rfl);exact e _ h
theorem FrB.len(h:FrB w r):(r.length:Int)=J0 w+8:=by obtain⟨_,c,_,rfl⟩:=h;simp only[dP,J0s];unfold J0;omega
theorem Kz(h:FrB w r)(ha:At s r p)(hl:s.length<=4611686018427387904):mR (s,p)=some (w,p+r.length,0):=by
 have hb:=ha.bnd;have G:=h.len;obtain⟨h1,c,hc,rfl⟩:=h;have B:=J6 (l:=w);obtain⟨m,q⟩:=Int.eq_ofNat_of_zero_le B;obtain⟨C,M⟩:=Kv hc;obtain⟨j,rfl⟩:=Int.eq_ofNat_of_zero_le C;have o:=SE (n:=m) (by rw[<-q];exact ha.left.left) (by decide:1<=4) qQH oo oo hl;have k:=SE ha.right (by decide:1<=4) qQH oo oo hl;rw[<-q]at o;have I:J0 s=s.length:=rfl;have H:J0 w=w.length:=rfl;simp only[dP,J0s]at G k;have U:=Jg p 4;have T:=Jg (J1 .i64 p 4) (J0 w);have Q:=Jg p 8;have R:=Jg (J1 .i64 p 8) (J0 w);have J:=bG (J0 s) p;have L:=Jg (J0 w) 8;simp only[dP,J0s]at hb;have A:J1 .i64 (J1 .i64 p 4) (J0 w)=p+((4+w.length:Nat):Int):=by omega
 have g:Tot (mR (s,p)) λy=>y=(w,p+((4+w.length+4:Nat):Int),0):=by
  unfold mR;dsimp only;refine .j (λ_=>.g (λc=>by omega) λ_=>.b (cD o) λS x=>?_) λc=>by omega
  subst x;dsimp only;refine .d (λc=>absurd rfl c) λ_=>.g (λc=>by omega) λ_=>.l (λc=>by omega) λ_=>?_;rw[A];refine .b (cD k) λK z=>.b (uT (l:=s) hb.1 oo oo).eqn λP F=>?_;subst z;rw[ha.left.slc (by simp only[dP,J0s]) F.2];refine .b (cD hc) λN D=>?_;subst D;refine .d (λc=>absurd (by unfold aT;rw[show IntKind.u32.wrap (j:Int)=(j:Int) by simp[IntKind.wrap,IntKind.bits,IntKind.signed];omega]) c) λ_=>?_;rw[show J1 .i64 p 4=p+((4:Nat):Int) by omega];refine .b (uT (l:=s) oo oo oo).eqn λO E=>.s ?_;have v:=ha.left.right;rw[J0s]at v;rw[v.slc oo E.2,show J1 .i64 (J1 .i64 p 8) (J0 w)=p+((4+w.length+4:Nat):Int) by omega]
 obtain⟨y,e,d⟩:=g;rw[e,d];simp only[dP,J0s]
end
def rV:List aA->qQC->Prop|[],r=>r=[]|e::l,r=> ∃f t,FrB (nF e) f/\rV l t/\r=f++t
theorem rV.snoc{e:aA}{f:qQC}(hf:FrB (nF e) f): ∀{l:List aA} {r:qQC},rV l r->rV (l++[e]) (r++f)|[],r,h=>⟨f,[],hf,rfl,by rw[show r=[]from h,fM];rfl⟩|x::l,r,⟨j,g,a,b,e⟩=>⟨j,g++f,a,rV.snoc hf b,by rw[e,iC]⟩
def gM(x:aC):qQC:=[80,77,82,78]++(J1y x.1 8++(J1y x.2.1 8++(J1y x.2.2.1 4++(J1y x.2.2.2.1 4++(J1y x.2.2.2.2.1 1++J1y (J0 (ent x)) 4)))))
theorem VU(x:aC):(gM x).length=33:=by unfold gM;simp only[dP,J0s];rfl
theorem JI1{x:aC}{w:qQC}(h:rJ x=some w):w=gM x:=by
 have e:Par (rJ x) λw=>w=gM x:=by unfold rJ;refine .b λz h2=>.b λy q=>.b λA n=>.b λB o=>.b λr g=>.b λv j=>.s ?_;rw[hC (k:=4) qQH qQH j,hC (k:=1) qQH qQH g,hC (k:=4) qQH qQH o,hC (k:=4) qQH qQH n,hC (k:=8) qQH qQH q,hC (k:=8) qQH qQH h2];unfold gM;simp only[iC];rfl
 exact e _ h
theorem Aa{x:aC}{y:qQC×Int}(R:cZ x)(h:jQ x=some y):y.2=0/\ ∃f t,FrB (gM x) f/\rV (ent x) t/\y.1=f++t:=by
 have A:Par (jQ x) λy=>y.2=0/\ ∃f t,FrB (gM x) f/\rV (ent x) t/\y.1=f++t:=(by unfold jQ;refine .b λv n=>.n (λc=>?_) λ_=>.b λw q=>.b λf hf=>?_;rw[(gx R).2]at n;injection n with n;rw[<-n]at c;cases c;have q:=JI1 q;subst q;have hf:=Kx hf (by unfold J0;rw[VU];decide);refine .z (fun(z:qQC×Int×aC)=>z.2.2=x/\ ∃(j:Nat) (t:qQC),z.2.1=(j:Int)/\j<=(ent x).length/\rV ((ent x).take j) t/\z.1=f++t) ⟨rfl,0,[],rfl,zQ2 _,rfl,(fM _).symm⟩ ?_;rintro⟨o,i,k⟩ ⟨rfl,j,t,E,I,ht,C⟩;dsimp only at E C I ht;subst E C;unfold zH;dsimp only;have J:=Jg (j:Int) 1;refine .l (λc=>.b λe H=>.b λb hb=>.b λg F=>.b λr G=>.s ⟨rfl,j+1,t++g,?_,?_,?_,?_⟩) λc=>.s ⟨rfl,f,t,hf,?_,rfl⟩;have:J0 k.2.2.2.2.2=((ent k).length:Int):=rfl;have B:=R.2.1;have B:((ent k).length:Int)<=4096:=B;dsimp only;omega;have:J0 k.2.2.2.2.2=((ent k).length:Int):=rfl;omega;have D:(ent k)[j]?=some e:=(by have:=(eS H).2;rw[Int.toNat_natCast]at this;exact this);have n:=(R.2.2.1 j e D).1;have hb:=JSH hb n;subst hb;rw[List.take_add_one,D];exact ht.snoc (Kx F (by have:=(K2 n).2;unfold J0;omega));rw[MI G,iC];have:J0 k.2.2.2.2.2=((ent k).length:Int):=rfl;rw[show j=(ent k).length by omega,List.take_length]at ht;exact ht);exact A _ h
theorem At.set{s w:qQC}{p:Int}{k:Nat}{c:UInt8}(h:At s w p)(hk:p+w.length<=k):At (s.set k c) w p:=by obtain⟨pre,post,e,h⟩:=h;refine⟨pre,post.set (k-pre.length-w.length) c,?_,h⟩;rw[e,List.set_append_right _ _ oo,List.set_append_right _ _ oo]
theorem FF{s:qQC}{p n:Int}{k:Nat}(b:Nat)(h:At s (J1y n k) p)(hl:s.length<=1000000)(h0:0<=n)(hn:n<b)(hb:b=2^(8*k):=by rfl)(h1:1<=k:=by decide)(e:k<=8:=by decide)(j:n<9223372036854775808:=by omega):JG (s,p,(k:Int))=some n:=by obtain⟨m,rfl⟩:=Int.eq_ofNat_of_zero_le h0;have g:=SE h h1 e oo oo oo;unfold JG;rw[g];rfl
theorem JJt{x:aC}(R:cZ x):aU (gM x) none (some 4)=some [80,77,82,78]/\JG (gM x,4,8)=some x.1/\JG (gM x,12,8)=some x.2.1/\JG (gM x,20,4)=some x.2.2.1/\JG (gM x,24,4)=some x.2.2.2.1/\JG (gM x,28,1)=some x.2.2.2.2.1/\JG (gM x,29,4)=some (J0 (ent x)):=by
 obtain⟨⟨H,I,B,C,A,E,F,G⟩,h,_⟩:=R;have h:J0 (ent x)<=4096:=h;have D:=J6 (l:=ent x);have hs:(gM x).length<=1000000:=by rw[VU];decide
 obtain⟨r,e,d,_⟩:=wP (l:=gM x) (k:=4) qQH (by unfold J0;rw[VU];decide);generalize j:gM x=s at hs e d⊢;have g:At s (gM x) 0:=by rw[j];exact .all
 unfold gM at g;have hd:r=[80,77,82,78]:=by rw[d,<-j];rfl
 replace g:=g.right;have q:(([80,77,82,78]:qQC).length:Int)=4:=rfl;rw[q]at g;have z:=FF (k:=8) 18446744073709551616 g.left hs oo oo;replace g:=g.right;simp only[J0s]at g;have y:=FF (k:=8) 18446744073709551616 g.left hs oo oo;replace g:=g.right;simp only[J0s]at g;have w:=FF (k:=4) 4294967296 g.left hs oo oo;replace g:=g.right;simp only[J0s]at g;have o:=FF (k:=4) 4294967296 g.left hs oo oo;replace g:=g.right;simp only[J0s]at g;have v:=FF (k:=1) 256 g.left hs oo oo;replace g:=g.right;simp only[J0s]at g;have n:=FF (k:=4) 4294967296 g hs oo oo;exact⟨by rw[e,hd],z,y,w,o,v,n⟩
section
variable {x:aC} {f t:qQC} (R:cZ x) (hf:FrB (gM x) f) (ht:rV (ent x) t) (hl:J0 (f++t)<=1073741824)
include R hf ht hl
theorem JMb:Par (rS (f++t)) λy=>y=(x,0):=by
 obtain⟨B,H,A,D,F,C,E⟩:=JJt R;have M:J0 (f++t)=((f++t).length:Int):=rfl;have T:J0 (ent x)<=4096:=R.2.1;have u:=Kz (s:=f++t) (p:=0) hf ⟨[],t,rfl,rfl⟩ oo;unfold rS;rw[u];dsimp only[Option.bind_some];refine .d (λc=>absurd rfl c) λ_=>.q (λ_=>?_) λc=>absurd (show J0 (gM x)=33 by unfold J0;rw[VU];rfl) c;rw[B,H,A,D,F,C,E];dsimp only[Option.bind_some];rw[if_neg qQH];refine .g (λc=>by omega) λ_=>.z (fun(z:pY)=>z.1=f++t/\z.2.2.1=J0 (ent x)/\z.2.2.2.2.2.2.2.2.2.2.2=([],x.1,x.2.1,x.2.2.1,x.2.2.2.1,x.2.2.2.2.1)/\ ∃rest h,ent x=z.2.2.2.2.2.2.2.2.2.2.1++rest/\z.2.2.2.1=J0 z.2.2.2.2.2.2.2.2.2.2.1/\rV rest h/\At (f++t) h z.2.1/\z.2.1+(h.length:Int)=((f++t).length:Int)) ⟨rfl,rfl,rfl,ent x,t,rfl,rfl,ht,⟨f,[],by rw[fM],(Int.zero_add _).symm⟩,by simp only[dP];omega⟩ ?_;rintro⟨s,p,m,i,Z,w2,w3,O,Y,P,l,Q⟩ ⟨w,v,r,rest,h,h1,h2,j,k,n⟩;dsimp only at w v r h1 h2 k n;subst w v r h2;have L:J0 (ent x)=J0 l+J0 rest:=by rw[h1,cM]
 have V:=J6 (l:=l);unfold fg;dsimp only;cases rest with
 |nil=>
  have j:h=[]:=j;subst j;have l0:J0 ([]:List aA)=0:=rfl;refine .l (λc=>by omega) λ_=>.map (.d (λc=>absurd (by simp only[List.length_nil]at n;omega) c) λ_=>?_);have q:(x.1,x.2.1,x.2.2.1,x.2.2.2.1,x.2.2.2.2.1,l)=x:=by
   have:l=ent x:=by rw[h1,fM]
   rw[this];rfl
  dsimp only;rw[q,(gx R).2];dsimp only[Option.bind_some];exact .n (λc=>by cases c) λ_=>.s rfl
 |cons e rest=>
  obtain⟨S,G,J,K,rfl⟩:=j;have I:JF e=some true:=by
   have q:(ent x)[l.length]?=some e:=by rw[h1];simp
   exact(R.2.2.1 _ e q).1
  have N:J0 (e::rest)=1+J0 rest:=by unfold J0;simp;omega
  have U:=J6 (l:=rest);refine .l (λ_=>?_) λc=>by omega
  rw[Kz J k.left oo];dsimp only[Option.bind_some];refine .d (λc=>absurd rfl c) λ_=>?_;rw[(K2 I).1];dsimp only[Option.bind_some];refine .d (λc=>absurd rfl c) λ_=>.b λW g=>.s ⟨rfl,rfl,rfl,rest,G,?_,?_,K,k.right,?_⟩;dsimp only;rw[eO (by rw[bY];omega) qQH]at g;injection g with g;subst g;rw[h1,iC];rfl;dsimp only;rw[eO (by rw[bY];omega) qQH]at g;injection g with g;subst g;have o:=Jg (J0 l) 1;rw[cM,bY];omega;dsimp only;rw[dP]at n;omega
end
section
theorem On{r:aC}{s:qQC}(R:cZ r)(h:jQ r=some (s,0))(hl:J0 s<=1073741824):rS s=some (r,0):=by obtain⟨_,f,t,hf,ht,e⟩:=Aa R h;have e:s=f++t:=e;subst e;obtain⟨y,g,_⟩:=VF hl;rw[g,JMb R hf ht hl _ g]
def EA(a:J8)(e:aA):Prop:= ∃x∈dB a,e∈ent x.1
structure Gd(a:J8):Prop where
 ok:kH a
 fit:oU 167968836 a
 all: ∀f∈a.2.2.1,∃x,its a f=some x/\x.1.2.1<a.2.2.2.1
 dis:(dB a).Pairwise λx y=>x.1.2.2.1=y.1.2.2.1->x.1.2.1<y.1.1\/y.1.2.1<x.1.1
 one: ∀e e',EA a e->EA a e'->e.1=e'.1->e=e'
end
section
theorem Pt{a b:List aA}{z:aA}(h:z∈a\/z∈b):z∈mrg a b:=by
 induction a,b using mrg.induct with
 |case1 b=>grind [mrg]
 |case2 x a=>grind [GE]
 |case3 x a y b hc ih=>grind [mrg]
 |case4 x a y b hc ih=>grind [mrg]
theorem x6: ∀{t:List TX} {acc:List aA} {z:aA},z∈acc\/(∃e∈t,z∈ent e.1)->z∈dO acc t
 |[],_,_,h=>by
  rcases h with h|⟨_,h,_⟩;exact h;cases h
 |x::t,acc,z,h=>by
  refine x6 (t:=t) ?_;rcases h with h|⟨e,g,h⟩;exact .inl (Pt (.inl h));rcases cJ.1 g with rfl|g;exact .inl (Pt (.inr h));exact .inr ⟨e,g,h⟩
theorem x8{a a':J8}{r r':aC}(h1:a'.1=a.1)(h2:a'.2.1=a.2.1)(h3:r'.2.2.1=r.2.2.1)(h4:r'.2.2.2.1=r.2.2.2.1):jR (a',r')=jR (a,r):=by
 unfold jR;refine WA (λs t=>s.1=t.1/\s.2=(a',r')/\t.2=(a,r)) ?_ ⟨rfl,rfl,rfl⟩;rintro⟨i,s⟩ ⟨j,t⟩ ⟨g,h,e⟩;dsimp only at g h e;subst g h e;have hR:iX (a',i)=iX (a,i):=by unfold iX;dsimp only;rw[h1,h2]
 unfold KA;dsimp only;rw[h1,hR,h3,h4];split;cases iX (a,i)with
 |none=>exact .inl ⟨rfl,rfl⟩
 |some y=>
  dsimp only[Option.bind_some];split;split;exact .inr (.inl ⟨_,rfl,rfl⟩);exact .inr (.inr ⟨_,_,rfl,rfl,rfl,rfl,rfl⟩);exact .inr (.inr ⟨_,_,rfl,rfl,rfl,rfl,rfl⟩)
 exact .inr (.inl ⟨_,rfl,rfl⟩)
theorem xy{α β:Type}{n:Nat}{g:List α->Option β}: ∀{l:List α} {b:β} {w:List α},iB n g l=some (b,w)-> ∃pre post,l=pre++w++post/\w.length=n/\g w=some b
 |[],_,_,h=>by cases h
 |x::t,b,w,h=>by
  rw[ln]at h;split at h;cases h;rename_i o;split at h;rename_i j hb;injection h with h;injection h with h1 h2;subst h1 h2;exact⟨[],(x::t).drop n,(lV n (x::t)).symm,by rw[kT];omega,hb⟩;obtain⟨p,q,e,k⟩:=xy h;exact⟨x::p,q,by rw[e];rfl,k⟩
abbrev H8(x y:aB):Prop:=x.1.2.2.1=y.1.2.2.1->x.1.2.1<y.1.1\/y.1.2.1<x.1.1
abbrev q8(x y:aB):Prop:=x.1.2.2.1=y.1.2.2.1->x.1.2.1<y.1.1
theorem JQ1{C:List aB}(h1:C.Pairwise ltN)(h2:C.Pairwise H8)(h3: ∀x∈C,x.1.1<=x.1.2.1):C.Pairwise q8:=by refine(h1.and h2).imp_of_mem fun{x y} h g k e=>?_;have:=h3 x h;have:=h3 y g;have:=k.2 e;have:=k.1;unfold ltN at this;omega
theorem M4: ∀{C:List aB} {lo to:Int},C.Pairwise q8->(∀x∈C,0<x.1.1/\x.1.1<=x.1.2.1/\(x.1.2.2.1=lo->to<x.1.1))->clp lo to C=C.map λx=>(x.1,x.2,true)
 |[],_,_,_,_=>rfl
 |x::t,lo,to,h,j=>by
  obtain⟨n,o⟩:=List.pairwise_cons.1 h;obtain⟨b1,b2,q⟩:=j x List.mem_cons_self;have k:(if x.1.2.2.1=lo then to else 0)<x.1.1:=by split<;>simp_all
  rw[mJ];generalize (if x.1.2.2.1=lo then to else 0)=T at k;rw[if_neg oo,M4 o λy g=>⟨(j y (eF _ g)).1,(j y (eF _ g)).2.1,λe=>n y g e.symm⟩];unfold abv;rw[if_pos k,decide_eq_true k];rfl
end
section
variable {a:J8}
theorem Gd.hf(G:Gd a):GQ a:=λf h=>jC (G.fit.1 f h) qQH
theorem Gd.num(G:Gd a){x:aB}(hx:x∈CR a):0<x.1.1/\x.1.1<=x.1.2.1:=by obtain⟨g,e,_⟩:=(SJ G.ok G.hf hx).1.1;exact⟨by omega,e⟩
theorem Gd.ord(G:Gd a):(CR a).Pairwise q8:=
 JQ1 (ss G.ok G.hf) (((GJ (le:=leN) (dB a)).pairwise_iff fun{x y} k e=>(k e.symm).symm).2 G.dis) λx g=>(G.num g).2
theorem Gd.wr(G:Gd a):WR a=(CR a).map λx=>(x.1,x.2,true):=
 M4 G.ord λx g=>⟨(G.num g).1,(G.num g).2,λe=>by have:=G.num g;omega⟩
theorem Gd.uniq(G:Gd a){x y:aB}(hx:x∈dB a)(hy:y∈dB a)(e:x.2=y.2):x=y:=by
 have h:=N3 G.ok G.hf;generalize dB a=l at*
 induction l with
 |nil=>cases hx
 |cons z t ih=>
  obtain⟨h1,h2⟩:=List.pairwise_cons.1 h;rcases cJ.1 hx with p|p<;>rcases cJ.1 hy with q|q
  rw[p,q];have:=h1 y q;rw[p]at e;omega;have:=h1 x p;rw[q]at e;omega;exact ih p q h2
theorem GR{a':J8}(h1:a'.1=a.1)(h2:a'.2.1=a.2.1)(f:aI):its a' f=its a f:=by
 have k: ∀r p,Itc a' f r p↔Itc a f r p:=λr p=>by unfold Itc;rw[x8 (r:=r) (r':=r) h1 h2 rfl rfl]
 by_cases h: ∃r p,Itc a f r p;obtain⟨r,p,h⟩:=h;rw[BY h,BY ((k r p).2 h)];rw[VS λr p g=>h ⟨r,p,g⟩,VS λr p g=>h ⟨r,p,(k r p).1 g⟩]
theorem iw{a':J8}(h1:a'.1=a.1)(h2:a'.2.1=a.2.1)(ids:qQD): ∀F:List aI,(hZ ids F).filterMap (its a')=(F.filterMap (its a)).filter λx=> !decide (x.2∈ids)
 |[]=>rfl
 |f::F=>by
  have ih:=iw h1 h2 ids F;unfold hZ at*;rw[List.filter_cons,List.filterMap_cons];cases e:its a f with
  |none=>
   dsimp only;split;rw[List.filterMap_cons,GR h1 h2,e];exact ih;exact ih
  |some x=>
   dsimp only;rw[List.filter_cons,(MV e).1];split;rw[List.filterMap_cons,GR h1 h2,e];exact congrArg _ ih;exact ih
theorem gd{α β:Type}{f:α->Option β}: ∀{l:List α},(∀x∈l,∃y,f x=some y)->(l.filterMap f).length=l.length|[],_=>rfl|x::t,h=>by obtain⟨y,e⟩:=h x List.mem_cons_self;rw[List.filterMap_cons,e];exact congrArg (· +1) (gd λz g=>h z (eF _ g))
theorem N9{L:Int}: ∀{t:List TX} {z:aC},chX L z t-> ∀e∈t,e.1.2.2.1=z.2.2.1
 |[],_,_,_,h=>by cases h
 |x::t,z,h,e,g=>by
  rcases cJ.1 g with rfl|g;exact h.1.1.symm;rw[N9 h.2.2 e g,<-h.1.1]
theorem Ox: ∀{t:List TX} {x:TX},∃e∈x::t,toW x.1.2.1 t=e.1.2.1|[],x=>⟨x,List.mem_cons_self,rfl⟩|y::t,x=>by obtain⟨e,h1,h2⟩:=Ox (t:=t) (x:=y);exact⟨e,eF _ h1,h2⟩
end
section
variable {a:J8}
theorem Gd.to(G:Gd a){x:aB}(hx:x∈dB a):x.1.2.1<a.2.2.2.1:=by obtain⟨f,h1,h2⟩:=List.mem_filterMap.1 hx;obtain⟨y,e,k⟩:=G.all f h1;rw[h2]at e;injection e with e;rw[e];exact k
theorem Gd.lenF(G:Gd a):(CR a).length=a.2.2.1.length:=by unfold CR;rw[hE];exact gd λf hf=>(G.all f hf).imp λ_ k=>k.1
theorem zd(G:Gd a){fan:Int}(Y:2<=fan/\fan<=8){y:sB}(o:sN a fan y)(hs:a.2.2.2.2<=1073741824):
  (iB fan.toNat gW (WR a)=none/\y=(a,false,0))\/ ∃b,y=(b,true,0)/\Gd b/\(∀e,EA b e↔EA a e)/\b.2.2.2.1=a.2.2.2.1/\b.2.2.1.length+1<=a.2.2.1.length/\b.2.2.2.2=a.2.2.2.2+1:=by
 have E:=(o.af qQH G.fit).1;rcases o with⟨k,_⟩|⟨_,k,_⟩|⟨_,_,k|⟨r,w,hw,⟨k,_⟩|⟨_,s,s1,s2,rfl⟩⟩⟩;exact absurd G.ok k;exact absurd Y k;exact .inl k;omega;refine .inr ⟨_,rfl,?_⟩;obtain⟨pre,post,e1,Q,C⟩:=xy hw;have hr:=su C λe he=>SI G.ok G.hf (by rw[e1];simp[he]);rw[G.wr]at e1;obtain⟨q,B,c1,c2,c3⟩:=List.map_eq_append_iff.1 e1;obtain⟨A,W,c4,c5,c6⟩:=List.map_eq_append_iff.1 c2;subst c4 c6;have T:(W.map λx=>(x.1,x.2,true)).map (λx:TX=>x.2.1)=W.map (·.2):=by rw[wK];rfl
 rw[dW]at Q;cases W with
 |nil=>simp at Q;omega
 |cons x t=>
 rw[bZ,BU]at C;by_cases c:(∀e∈(x.1,x.2,true)::t.map (λx:aB=>(x.1,x.2,true)),e.2.2=true)/\chX x.1.2.2.2.2.1 x.1 (t.map λx:aB=>(x.1,x.2,true))/\fG (jn (x.1,x.2,true) (t.map λx:aB=>(x.1,x.2,true)))=some true
 case neg=>rw[if_neg c]at C;cases C
 rw[if_pos c]at C;injection C with C;obtain⟨_,a4,_⟩:=c;have U:=N9 a4;have H: ∀z∈x::t,z∈dB a:=λz j=>(xT G.ok G.hf).1 (by rw[c1];simp at j⊢;rcases j with rfl|j<;>simp_all);have O: ∀z∈x::t,z.1.2.2.1=x.1.2.2.1:=λz j=>by
  rcases cJ.1 j with rfl|j;rfl;exact U (z.1,z.2,true) (gY.2 ⟨z,j,rfl⟩)
 have N:r.1=x.1.1:=by rw[<-C];rfl
 have S:r.2.2.1=x.1.2.2.1:=by rw[<-C];rfl
 obtain⟨z,j,R⟩: ∃z∈x::t,r.2.1=z.1.2.1:=by obtain⟨e,h1,h2⟩:=Ox (t:=t.map λx:aB=>(x.1,x.2,true)) (x:=(x.1,x.2,true));rw[<-bZ (f:=λx:aB=>(x.1,x.2,true))]at h1;obtain⟨z,P,rfl⟩:=gY.1 h1;exact⟨z,P,by rw[<-C];exact h2⟩
 have K: ∀e,e∈ent r↔ ∃z∈x::t,e∈ent z.1:=λe=>by
  rw[<-C];refine⟨λh=>?_,λh=>x6 ?_⟩;rcases kj h with h|⟨u,n,h⟩;exact⟨x,List.mem_cons_self,h⟩;obtain⟨z,j,rfl⟩:=gY.1 n;exact⟨z,eF _ j,h⟩;obtain⟨z,j,h⟩:=h;rcases cJ.1 j with rfl|j;exact .inl h;exact .inr ⟨(z.1,z.2,true),gY.2 ⟨z,j,rfl⟩,h⟩
 unfold d7 at E⊢;rw[T]at E⊢;have Z:J1 .i64 a.2.2.2.2 1=a.2.2.2.2+1:=by have:=G.ok.ser.1;have o:=Jg a.2.2.2.2 1;omega
 rw[Z]at E⊢;generalize hb:((a.1,a.2.1,hZ ((x::t).map (·.2)) a.2.2.1++[(1,a.2.2.2.2,s)],a.2.2.2.1,a.2.2.2.2+1):J8)=b at E⊢;have b1:b.1=a.1:=by rw[<-hb]
 have b2:b.2.1=a.2.1:=by rw[<-hb]
 have I:b.2.2.1=hZ ((x::t).map (·.2)) a.2.2.1++[(1,a.2.2.2.2,s)]:=by rw[<-hb]
 have b4:b.2.2.2.1=a.2.2.2.1:=by rw[<-hb]
 have V:b.2.2.2.2=a.2.2.2.2+1:=by rw[<-hb]
 have L:its b (1,a.2.2.2.2,s)=some (r,a.2.2.2.2):=by obtain⟨f,_,_,⟨p,_,hp,_⟩,_⟩:=xX G.ok G.hf (H x List.mem_cons_self);exact BY (p:=p) ⟨rfl,On hr.1 s1 (jC s2 qQH),by rw[x8 (r:=x.1) (r':=r) b1 b2 S (by rw[<-C];rfl)];exact hp.2.2.1,hp.2.2.2⟩
 have J:dB b=(dB a).filter (λu=> !decide (u.2∈(x::t).map (·.2)))++[(r,a.2.2.2.2)]:=by unfold dB;rw[I,List.filterMap_append,iw b1 b2,List.filterMap_cons,L];rfl
 have F: ∀u,u∈(dB a).filter (λu=> !decide (u.2∈(x::t).map (·.2)))↔u∈dB a/\u.2∉(x::t).map (·.2):=λu=>by rw[List.mem_filter];simp
 have hlen:(hZ ((x::t).map (·.2)) a.2.2.1).length+(x::t).length<=a.2.2.1.length:=by
  have h1:((hZ ((x::t).map (·.2)) a.2.2.1).filterMap (its b)).length=(hZ ((x::t).map (·.2)) a.2.2.1).length:=gd λf hf=>by obtain⟨u,e,_⟩:=G.all f (List.mem_filter.1 hf).1;exact⟨u,by rw[GR b1 b2];exact e⟩
  rw[<-h1,iw b1 b2,<-G.lenF];have h2:=((GJ (le:=leN) (dB a)).filter λu=> !decide (u.2∈(x::t).map (·.2))).length_eq;have P:((dB a).filter λu=> !decide (u.2∈(x::t).map (·.2))).length=((CR a).filter λu=> !decide (u.2∈(x::t).map (·.2))).length:=h2.symm;unfold dB at P;rw[P,c1,List.filter_append,List.filter_append];have h4:(x::t).filter (λu=> !decide (u.2∈(x::t).map (·.2)))=[]:=List.filter_eq_nil_iff.2 λu n=>by have:u.2∈(x::t).map (·.2):=gY.2 ⟨u,n,rfl⟩;simp only[decide_eq_true this];decide
  rw[h4];have h5:=List.length_filter_le (λu:aB=> !decide (u.2∈(x::t).map (·.2))) A;have h6:=List.length_filter_le (λu:aB=> !decide (u.2∈(x::t).map (·.2))) B;simp only[dP,List.length_nil]at*;omega
 have M: ∀e,EA b e↔EA a e:=λe=>by
  unfold EA;rw[J];refine⟨fun⟨u,n,h⟩=>?_,fun⟨u,n,h⟩=>?_⟩;rcases zQ9.1 n with n|n;exact⟨u,((F u).1 n).1,h⟩;rw[eB.1 n]at h;obtain⟨z,j,h⟩:=(K e).1 h;exact⟨z,H z j,h⟩;by_cases k:u.2∈(x::t).map (·.2);obtain⟨z,j,Q⟩:=gY.1 k;have:=G.uniq (H z j) n Q;subst this;exact⟨_,List.mem_append_right _ List.mem_cons_self,(K e).2 ⟨z,j,h⟩⟩;exact⟨u,List.mem_append_left _ ((F u).2 ⟨n,k⟩),h⟩
 refine⟨⟨⟨b2▸G.ok.pages,b1▸G.ok.len,b1▸G.ok.zero,b1▸G.ok.asc,by rw[b1,b2];exact G.ok.last,b4▸G.ok.next,?_,?_,?_,?_⟩,E,?_,?_,?_⟩,M,b4,?_,V⟩;rw[V];have:=G.ok.ser.1;omega;rw[I];have:=G.ok.few;unfold J0 at*;simp only[dP,kQ,List.length_nil]at*;omega;rw[I];refine List.pairwise_append.2 ⟨G.ok.ids.filter _,List.pairwise_singleton _ _,λf hf g hg=>?_⟩;rw[eB.1 hg];exact(G.ok.inr f (List.mem_filter.1 hf).1).2;rw[I,V];intro f hf;rcases zQ9.1 hf with hf|hf;have:=G.ok.inr f (List.mem_filter.1 hf).1;omega;rw[eB.1 hf];have:=G.ok.ser.1;dsimp only;omega;rw[I,b4];intro f hf;rcases zQ9.1 hf with hf|hf;obtain⟨u,e,k⟩:=G.all f (List.mem_filter.1 hf).1;exact⟨u,by rw[GR b1 b2];exact e,k⟩;rw[eB.1 hf];exact⟨_,L,by rw[R];exact G.to (H z j)⟩;rw[J];refine List.pairwise_append.2 ⟨G.dis.filter _,List.pairwise_singleton _ _,λu n v hv e=>?_⟩;rw[eB.1 hv]at e⊢;obtain⟨u1,u2⟩:=(F u).1 n;have D:u∈CR a:=(xT G.ok G.hf).2 u1;have ho:=G.ord;rw[c1]at D ho;rw[iC]at D ho;obtain⟨_,o2,o3⟩:=List.pairwise_append.1 ho;obtain⟨_,_,o5⟩:=List.pairwise_append.1 o2;dsimp only at e⊢;rw[S]at e;rw[N,R];rcases zQ9.1 D with D|D;exact .inl (o3 u D x (by simp) e);rcases zQ9.1 D with D|D;exact absurd (gY.2 ⟨u,D,rfl⟩) u2;exact .inr (o5 z j u D ((O z j).trans e.symm));exact λe e' h h'=>G.one e e' ((M e).1 h) ((M e').1 h');rw[I];simp only[dP,kQ,List.length_nil]at*;omega
end
section
structure Kp(a b:J8):Prop where
 good:Gd b
 ea: ∀e,EA b e↔EA a e
 next:b.2.2.2.1=a.2.2.2.1
 few:b.2.2.1.length<=a.2.2.1.length
 bud:b.2.2.2.2+b.2.2.1.length<=a.2.2.2.2+a.2.2.1.length
theorem yq{fan:Int}(g:2<=fan/\fan<=8): ∀(n:Nat) (a:J8),Gd a->a.2.2.2.2+a.2.2.1.length<=1073741824->a.2.2.1.length<=n->
  ∃b,J3 CZ (fan,a,[],0,[],0,0)=some (b,0)/\Kp a b/\iB fan.toNat gW (WR b)=none
 |n,a,G,hb,hn=>by
  obtain⟨z,v,q⟩:=Ks G.hf (fan:=fan);have j:CZ (fan,a,[],0,[],0,0)=if aO z.2.2 0=true then some (.inr (([],0,[],0,0),z.2.2))else if Ji z.2.1=true then some (.inr (a,0))else some (.inl (fan,z.1,[],0,[],0,0)):=by unfold CZ;dsimp only;rw[v];rfl
  rcases zd G g q oo with⟨h1,rfl⟩|⟨b,rfl,h2,w,r,y,x⟩;rw[if_neg (show¬aO (0:Int) 0=true by decide),if_pos (show Ji false=true from rfl)]at j;exact⟨a,dC j,⟨G,λ_=>.rfl,rfl,zQ0 _,aY _⟩,h1⟩;rw[if_neg (show¬aO (0:Int) 0=true by decide),if_neg (show¬Ji true=true by decide)]at j
  match n,hn with
  |0,hn=>omega
  |n+1,hn=>obtain⟨c,k,h,o⟩:=yq g n b h2 oo oo;exact⟨c,by rw[eR j];exact k,⟨h.good,λe=>(h.ea e).trans (w e),h.next.trans r,by have:=h.few;omega,by have:=h.bud;omega⟩,o⟩
theorem zi{fan:Int}(e:2<=fan/\fan<=8){a:J8}(G:Gd a)(hb:a.2.2.2.2+a.2.2.1.length<=1073741824): ∃b,ff (a,fan)=some (b,0)/\CY (a,fan)=some (b,0)/\Kp a b/\IQ (b,fan)=some (b,false,0):=by
 obtain⟨b,h1,h2,n⟩:=yq e _ a G hb (zQ0 _);obtain⟨y,h,j,_⟩:=JPe (fan:=fan) qQH qQH G.fit;have h1:CY (a,fan)=some (b,0):=h1;obtain⟨z,o,g⟩:=Ki h2.good.hf (fan:=fan);have k:z=(b,false,0):=(by rcases zd h2.good e g (by have:=h2.bud;omega)with⟨_,q⟩|⟨c,rfl,_⟩;exact q;rcases g with⟨_,q⟩|⟨_,_,q⟩|⟨_,_,⟨_,q⟩|⟨r,w,q,_⟩⟩;cases q;cases q;cases q;rw[n]at q;cases q);subst k;refine⟨b,?_,h1,h2,o⟩;rw[h,<-j,h1]
end
section
theorem x5(l:List aA)(e:aA):J0 (bQ l e)<=J0 l+1:=by
 unfold J0
 induction l with
 |nil=>simp[bQ]
 |cons x l ih=>
  unfold bQ;split;simp only[kQ]at*;omega;split<;>simp only[kQ]at* <;>omega
theorem JMM{l:List aA}{from_ to lo hi lv:Int}(hl:J0 l<=4096):Par (HP (l,from_,to,lo,hi,lv)) λy=>y.2=0->cZ y.1/\y.1.1=from_/\y.1.2.1=to/\y.1.2.2.1=lo/\y.1.2.2.2.1=hi/\ ∀e∈ent y.1,e∈l:=by
 unfold HP;refine .b λ_ _=>.n (λ_=>.s λh=>absurd h qQH) λ_=>.z (λz=>z.1=l/\z.2.1=from_/\z.2.2.1=to/\z.2.2.2.1=lo/\z.2.2.2.2.1=hi) ⟨rfl,rfl,rfl,rfl,rfl⟩ ?_;rintro⟨g,w,x,n,j,R,S,Q⟩ ⟨rfl,rfl,rfl,rfl,rfl⟩;have hl:J0 g<=4096:=hl;unfold Dr;refine .l (λ_=>.b λ_ _=>.b λ_ _=>.n (λ_=>.s λh=>absurd h qQH) λ_=>.s ⟨rfl,rfl,rfl,rfl,rfl⟩) λ_=>.map ?_;refine .z (λz=> ∃A i C r,z=(g,w,x,n,j,A,i,C,r)/\r.1=w/\r.2.1=x/\r.2.2.1=n/\r.2.2.2.1=j/\0<=i/\J0 (ent r)<=i/\ ∀e∈ent r,e∈g) ⟨_,_,_,_,rfl,rfl,rfl,rfl,rfl,aY _,aY _,nofun⟩ ?_;rintro _ ⟨A,i,C,r,rfl,h1,h2,H,F,U,T,D⟩;unfold ol;dsimp only;have J:i<J0 g->J1 .i64 i 1=i+1:=λc=>by have o:=Jg i 1;omega
 refine .l (λc=>.b λB M=>.b λ_ _=>?_) λc=>.map ?_;have c:=J c;have nx: ∃K E I r',((g,w,x,n,j,A,J1 .i64 i 1,C,r):ec)=(g,w,x,n,j,K,E,I,r')/\r'.1=w/\r'.2.1=x/\r'.2.2.1=n/\r'.2.2.2.1=j/\0<=E/\J0 (ent r')<=E/\ ∀e∈ent r',e∈g:=⟨_,_,_,_,rfl,h1,h2,H,F,by omega,by omega,D⟩;refine .r (λ_=>.j (λ_=>.k (λ_=>.j (λ_=>.g (λ_=>.s nx) λ_=>?_) λ_=>.s nx) λ_=>.s nx) λ_=>.s nx) λ_=>.s nx;refine .z (λz=> ∃A k,z=(g,w,x,n,j,A,i,k,C,r,B)) ⟨_,_,rfl⟩ ?_;rintro _ ⟨P,k,rfl⟩;unfold od;dsimp only;refine .l (λ_=>.t (λ_=>.b λ_ _=>.e (λ_=>.b λ_ _=>.s ⟨_,_,rfl⟩) λ_=>.s ⟨_,_,rfl⟩) λ_=>.s ⟨_,_,rfl⟩) λ_=>.map (.b λy L=>.s ?_);have q:=eS M;have N:B∈g:=zQ5 q.2;have e:=(gr (l:=ent r) (e:=B) oo).get L;refine⟨_,_,_,_,rfl,h1,h2,H,F,by omega,?_,?_⟩;show J0 y.1<=_;rw[e];have:=x5 (ent r) B;omega;show∀z∈y.1,z∈g;rw[e];intro z G;rcases j3 G with G|rfl;exact D z G;exact N;refine .i (λ_=>.s λh=>absurd h qQH) λ_=>.g (λ_=>.s λh=>absurd h qQH) λ_=>.b λv O=>.n (λ_=>.s λh=>absurd h qQH) λk=>.s λ_=>?_;subst k;exact⟨cZ.of O,h1,h2,H,F,D⟩
theorem JLL{a:J8}(hb:J0 a.1<=16){i lo hi:Int}(h0:0<=i)(h:iX (a,i)=some (lo,hi))(w:i<J0 a.1){r:aC}(h1:r.2.2.1=lo)(h2:r.2.2.2.1=hi): ∃p,jR (a,r)=some p/\0<=p:=by
 obtain⟨p,e,_⟩:=KJ hb r;refine⟨p,e,?_⟩;have n:Par (jR (a,r)) λp=>0<=p:=by
  unfold jR;refine .z (λz=>z.2=(a,r)/\0<=z.1/\z.1<=i) ⟨rfl,aY _,h0⟩ ?_;rintro⟨j,z⟩ ⟨k,g,q⟩;have k:z=(a,r):=k;subst k;dsimp only at g q;unfold KA;dsimp only;refine .l (λc=>?_) λc=>by omega
  by_cases v:j=i;subst v;rw[h];dsimp only[Option.bind_some];exact .e (λ_=>.e (λ_=>.s g) λc=>absurd h2.symm c) λc=>absurd h1.symm c;have o:J1 .i64 j 1=j+1:=(by have o:=Jg j 1;omega);have nx:(((J1 .i64 j 1,a,r):tw).2=(a,r))/\0<=J1 .i64 j 1/\J1 .i64 j 1<=i:=⟨rfl,by omega,by omega⟩;exact .b λ_ _=>.e (λ_=>.e (λ_=>.s g) λ_=>.s nx) λ_=>.s nx
 exact n _ e
end
section
theorem JKv{a:J8}{i:Int}:Par (iX (a,i)) λy=>idx a.1 i=some y.1:=.l (λ_=>.b λ_ _=>.b λ_ h=>.s h) λ_=>.b λ_ h=>.s h
structure Mid(a:J8)(es:List aA)(from_ to:Int)(k:Nat)(b:Int×List aI):Prop where
 ser:b.1=a.2.2.2.2+k
 len:J0 b.2=J0 a.2.2.1+k
 ids:b.2.Pairwise λf g=>f.2.1<g.2.1
 inr: ∀f∈b.2,0<f.2.1/\f.2.1<b.1
 fit: ∀f∈b.2,J0 f.2.2<=167968836
 all: ∀f∈b.2,∃x,its a f=some x/\x.1.2.1<=to
 dis:(b.2.filterMap (its a)).Pairwise H8
 old: ∀x∈b.2.filterMap (its a),x.1.2.1<from_\/(x.1.1=from_/\x.1.2.1=to/\ ∃j,j<k/\a.1[j]?=some x.1.2.2.1)
 ent: ∀x∈b.2.filterMap (its a),∀e∈ent x.1,(e.1<from_/\EA a e)\/(from_<=e.1/\e∈es)
 top:0<k->to<=1099511627776
theorem yi{a:J8}{l:JV}{n:Int}(G:Gd a)(hl:Ty.fit 16384 1073741824 JT l)(hn: -9223372036854775808<=n/\n<=9223372036854775807):Tot (PW (a,l,n)) λy=>y.2=0->Gd y.1/\y.1.2.2.2.2+y.1.2.2.1.length<=a.2.2.2.2+a.2.2.1.length+32:=by
 have E: ∀{z:J8} {k:Int},k≠0->((z,k):kD).2=0->Gd z/\z.2.2.2.2+(z.2.2.1.length:Int)<=a.2.2.2.2+a.2.2.1.length+32:=λh k=>absurd k h;have h:=G.fit;unfold PW;refine .b (d8 a) λy2 h2=>.n (λ_=>.s (E qQH)) λc=>?_;have ok:=h2.1 c;refine .b (pQ hl).eqn λy3 ag=>.n (λ_=>.s (E qQH)) λc3=>.j (λc4=>.g (λ_=>.s (E qQH)) λc5=>?_) λ_=>.s (E qQH);obtain⟨h3,ae⟩:=ag;subst c3;have lv:=h3.2 rfl;have K:=(nw hl ae).2;dsimp only at c4 c5 lv K⊢;have nx:=ok.next;have m1:=NC a.2.2.2.1 l.1;have o1:=Jg (cX a.2.2.2.1 l.1) n;have o2:=bG (J1 .i64 (cX a.2.2.2.1 l.1) n) 1;have m2:=g6 (Jm .i64 (J1 .i64 (cX a.2.2.2.1 l.1) n) 1) l.2.2;generalize cX a.2.2.2.1 l.1=from_ at*;generalize jE (Jm .i64 (J1 .i64 from_ n) 1) l.2.2=to at*;refine .l (λ_=>.s λ_=>⟨G,by dsimp only;omega⟩) λc6=>.k (λc7=>.g (λ_=>.s (E qQH)) λc8=>?_) λ_=>.s (E qQH);have o3:=bG from_ l.1;have o4:=bG to l.1;have o5:=Jg (Jm .i64 to l.1) 1;have bl:=ok.len;have fl:=ok.few;have o6:=Jg (J0 a.2.2.1) (J0 a.1);have o7:=Jg a.2.2.2.2 (J0 a.1);have fn:=J6 (l:=a.2.2.1);have sr:=ok.ser;obtain⟨es,ah,P,_⟩:=uT (l:=l.2.1) (j:=Jm .i64 from_ l.1) (k:=J1 .i64 (Jm .i64 to l.1) 1) oo oo oo;have fe:Ty.fit 16384 1073741824 (.l J4) es:=by rw[P];exact xc (Qp hl.2.1)
 have le:J0 es<=4096:=by rw[P];have:=lv.2.2.1;unfold J0 at*;simp;omega
 have Y: ∀e∈es,e∈l.2.1:=λe C=>by rw[P]at C;exact zQ7 (PA C)
 refine .w ah ?_;have U: ∀fs:List aI,fs=a.2.2.1->Tot (J3 YR (from_,to,es,0,a,l,[],[],0,0,0,[],a.1,a.2.1,a.2.2.2.1,a.2.2.2.2,fs)) λy=>y.2=0->Gd y.1/\y.1.2.2.2.2+y.1.2.2.1.length<=a.2.2.2.2+a.2.2.1.length+32:=by
  intro fs af;subst af;refine fT (l:=a.1) (λi (b:Int×List aI)=>(from_,to,es,i,a,l,[],[],0,0,0,[],a.1,a.2.1,a.2.2.2.1,b.1,b.2)) (λpre b=>Mid a es from_ to pre.length b) (λpre x t b g w=>?_) (λb w=>?_) a.1 [] (a.2.2.2.2,a.2.2.1) _ rfl rfl ⟨by simp,by simp,ok.ids,ok.inr,h.1,λf hf=>by obtain⟨x,e,k⟩:=G.all f hf;exact⟨x,e,by omega⟩,G.dis,λx F=>.inl (by have:=G.to F;omega),λx F e C=>.inl ⟨by have:=G.to F;have:=(ME (xX G.ok G.hf F).choose_spec.2.2.2.1 C).2;omega,x,F,C⟩,λk=>absurd k (by simp)⟩;have lt:=dV g;have np:=J6 (l:=pre);have lp:J0 pre=(pre.length:Int):=rfl;unfold YR;dsimp only;rw[if_pos (Jw.2 lt),fQ g (n:=16) bl.2];refine .b (JKo ok np lt).eqn λH a6=>?_;obtain⟨W,N⟩:=a6;refine .b (JAc (B:=16384) (S:=1073741824) (X:=(es,from_,to,H.1,H.2,0)) ⟨fe,J2.2 (show -9223372036854775808<=from_/\from_<=9223372036854775807 by omega),J2.2 (show -9223372036854775808<=to/\to<=9223372036854775807 by omega),W.1.u,W.2.u,lH .i64 0⟩).eqn λA a4=>.d (λk=>.s (E k)) λai=>?_;obtain⟨aa,a0⟩:=a4;obtain⟨R,q1,q2,q3,q4,q5⟩:=JMM le _ a0 ai;refine .b (JL7 (x:=A.1) (Ty.fit.up qQH qQH aa.1)).eqn λM a3=>.w (eO (by rw[bY];have:=w.len;omega) qQH) (.s ⟨(J1 .i64 b.1 1,b.2++[(1,b.1,M.1)]),rfl,?_⟩);obtain⟨J,T⟩:=a3;have s0:M.2=0:=(Aa R T).1;obtain⟨s,z⟩:=M;dsimp only at s0 J⊢;subst s0;obtain⟨p,p1,p2⟩:=JLL (r:=A.1) ok.len.2 np (show iX (a,J0 pre)=some (H.1,H.2)from N) lt q3 q4;have Q:its a (1,b.1,s)=some (A.1,b.1):=BY (p:=p) ⟨rfl,On R T (jC J qQH),p1,p2⟩;have I:a.1[pre.length]?=some A.1.2.2.1:=by
   have e:=JKv _ N;obtain⟨_,e⟩:=eS e;rw[q3,<-e]
   congr 1
  have hs:b.1=a.2.2.2.2+pre.length:=w.ser;have a7:J1 .i64 b.1 1=b.1+1:=by have o:=Jg b.1 1;omega
  have O:(b.2++[(1,b.1,s)]).filterMap (its a)=b.2.filterMap (its a)++[(A.1,b.1)]:=by rw[List.filterMap_append,List.filterMap_cons,Q];rfl
  have num:1<=A.1.1/\A.1.1<=A.1.2.1/\A.1.2.1<=1099511627776:=⟨R.1.1,R.1.2.1,R.1.2.2.1⟩;rw[a7];refine⟨by simp only[dP,List.length_singleton];omega,by rw[cM,bY,w.len];simp only[dP,List.length_singleton];omega,?_,?_,?_,?_,?_,?_,?_,λ_=>by omega⟩;refine List.pairwise_append.2 ⟨w.ids,List.pairwise_singleton _ _,λf hf g hg=>?_⟩;rw[eB.1 hg];exact(w.inr f hf).2;intro f hf;rcases zQ9.1 hf with hf|hf;have:=w.inr f hf;dsimp only;omega;rw[eB.1 hf];dsimp only;omega;intro f hf;rcases zQ9.1 hf with hf|hf;exact w.fit f hf;rw[eB.1 hf];exact J;intro f hf;rcases zQ9.1 hf with hf|hf;exact w.all f hf;rw[eB.1 hf];exact⟨_,Q,by dsimp only;omega⟩;rw[O];refine List.pairwise_append.2 ⟨w.dis,List.pairwise_singleton _ _,λu D v hv e=>?_⟩;rw[eB.1 hv]at e⊢;dsimp only at e⊢;rcases w.old u D with k|⟨_,_,j,j1,j2⟩;exact .inl oo;exfalso;have hasq:=ok.asc;unfold Asc at hasq;have pp:=List.pairwise_iff_getElem.1 hasq;obtain⟨l1,e1⟩:=eC.1 j2;obtain⟨l2,e2⟩:=eC.1 I;have:=pp j pre.length l1 l2 j1;omega;rw[O];intro u D;simp only[dP,List.length_singleton];rcases zQ9.1 D with D|D;rcases w.old u D with k|⟨k1,L,j,j1,j2⟩;exact .inl k;exact .inr ⟨k1,L,j,by omega,j2⟩;rw[eB.1 D];exact .inr ⟨q1,q2,pre.length,by omega,I⟩;rw[O];intro u D e C;rcases zQ9.1 D with D|D;exact w.ent u D e C;rw[eB.1 D]at C;have:=(ME R C).1;exact .inr ⟨by omega,q5 e C⟩;unfold YR;dsimp only;rw[if_neg (by rw[Jw];omega)];refine .s λ_=>?_;have ll:J0 a.1=(a.1.length:Int):=rfl;have ht:=w.top oo;have ac:J1 .i64 to 1=to+1:=by have o:=Jg to 1;omega
  have ao:=w.ser;have hlen:=w.len;have hR:dB (a.1,a.2.1,b.2,to+1,b.1)=b.2.filterMap (its a):=by show b.2.filterMap (its (a.1,a.2.1,b.2,to+1,b.1))=_;exact congrArg (List.filterMap · b.2) (funext λf=>GR (a:=a) (a':=(a.1,a.2.1,b.2,to+1,b.1)) rfl rfl f)
  have bn:J0 b.2=(b.2.length:Int):=rfl;have an:J0 a.2.2.1=(a.2.2.1.length:Int):=rfl;rw[ac];refine⟨⟨⟨ok.pages,ok.len,ok.zero,ok.asc,ok.last,⟨by dsimp only;omega,by dsimp only;omega⟩,⟨by dsimp only;omega,by dsimp only;omega⟩,by dsimp only;omega,w.ids,w.inr⟩,⟨w.fit,by dsimp only;omega,h.2.2⟩,λf hf=>?_,?_,?_⟩,by dsimp only;omega⟩;obtain⟨x,e,k⟩:=w.all f hf;exact⟨x,(GR (a:=a) (a':=(a.1,a.2.1,b.2,to+1,b.1)) rfl rfl f).trans e,by dsimp only;omega⟩;rw[hR];exact w.dis;have Z: ∀e,EA (a.1,a.2.1,b.2,to+1,b.1) e->(e.1<from_/\EA a e)\/(from_<=e.1/\e∈es):=λe ⟨x,F,C⟩=>by
   rw[hR]at F;exact w.ent x F e C
  intro e e' C ad q;rcases Z e C with⟨k1,L⟩|⟨k1,L⟩<;>rcases Z e' ad with⟨k3,k4⟩|⟨k3,k4⟩
  exact G.one e e' L k4 q;omega;omega;obtain⟨j,hj⟩:=qK.1 (Y e L);obtain⟨i,hi⟩:=qK.1 (Y e' k4);have a1:=(K j e hj).1;have a2:=(K i e' hi).1;have:j=i:=by omega
  subst this;rw[hj]at hi;injection hi
 refine fT (l:=es) (λi (_:Unit)=>(from_,to,es,i,a,l,[],[],0,0,0)) (λ_ _=>True) (λpre x t _ g _=>?_) (λ_ _=>?_) es [] () _ rfl rfl trivial;have V:=eY g;unfold oc;dsimp only;rw[if_pos (Jw.2 (dV g)),fQ g (n:=4096) le];exact .w V (.p (λ_=>.w V (.e (λ_=>.w V (.h (λ_=>.s (E qQH)) λ_=>.s ⟨(),rfl,qQG⟩)) λ_=>.s ⟨(),rfl,qQG⟩)) λ_=>.w V (.h (λ_=>.s (E qQH)) λ_=>.s ⟨(),rfl,qQG⟩));unfold oc;dsimp only;rw[if_neg (by rw[Jw];omega)];exact .endq (.w (MF oo qQH) (U _ rfl))
end
theorem JNI{l:qQD}{y:Jd}(e:vK (l,400)=some y):y.2=0/\J0 y.1<=400:=by
 have g:Par (vK (l,400)) λy=>y.2=0/\J0 y.1<=400:=by unfold vK;dsimp only;refine .g (λc=>.b λa h=>.s ⟨rfl,?_⟩) λc=>.s ⟨rfl,by simp_all⟩;obtain⟨r,j,_,h2⟩:=wP (l:=l) (k:=400) qQH oo;simp_all
 exact g _ e
theorem JJ1{x0:qQD}{y:Jd}(w0:Ty.inR (.l (.i .u8)) x0)(h:vK (x0,400)=some y):Ty.fit 16384 1073741824 J5 y/\0<=y.2:=by
 have j:Ty.fit (J0 x0) 0 (.l (.i .u8)) x0:=⟨aY _,λa e=>by
  grind [TQ,Ty.inR,IntKind.min,IntKind.max,IntKind.signed,IntKind.bits]⟩
 have k:0<=J0 x0:=J6;have g:=(Aj (B:=J0 x0) (S:=0) (X:=(x0,400)) ⟨j,lH .i64 400⟩ (show(0:Int)<=400 by decide)).get h;obtain⟨n,o⟩:=JNI h;exact⟨⟨⟨by grind,λa e=>g.1.1.2 a e⟩,g.1.2⟩,by omega⟩
theorem JJu{x0:qQD}(w0:Ty.inR (.l (.i .u8)) x0):Tot (vK (x0,400)) λy=>Ty.fit 16384 1073741824 J5 y/\0<=y.2:=by
 have g:Ty.fit (J0 x0) 0 (.l (.i .u8)) x0:=⟨aY _,λa j=>by
  grind [TQ,Ty.inR,IntKind.min,IntKind.max,IntKind.signed,IntKind.bits]⟩
 have h:0<=J0 x0:=J6;obtain⟨y,e,_⟩:=Aj (B:=J0 x0) (S:=0) (X:=(x0,400)) ⟨g,lH .i64 400⟩ (show(0:Int)<=400 by decide);exact⟨y,e,JJ1 w0 e⟩
theorem nf{n:Int}(h0:0<=n)(h1:n<=9223372036854775807){B S:Int}:Ty.fit B S (.i .i64) n:=J2.2 ⟨by omega,h1⟩
theorem nx{c:Jd}{n:Int}(hn: -9223372036854775808<=n/\n<=9223372036854775807)(h:Ty.fit 16384 1073741824 J5 c)(h0:0<=c.2):Tot (Jj (n,c)) λy=>(0<=y.1/\y.1<=9223372036854775807/\(1<=n->y.1<n))/\Ty.fit 16384 1073741824 J5 y.2/\0<=y.2.2:=
 (Jt (B:=16384) (S:=1073741824) (X:=(n,c)) ⟨J2.2 hn,h⟩ h0).mono λy h=>⟨⟨h.2.1,(J2.1 h.1.1).2,h.2.2.1⟩,h.1.2,h.2.2.2⟩
theorem jr{a b lv:Int}(h1:1<=a)(h2:a<=b)(h3:b<=100)(h4:0<=lv)(h5:lv<=8):cZ (a,b,0,0,lv,[]):=
 ⟨⟨h1,h2,by grind,by simp_all,by simp_all,by simp_all,h4,h5⟩,by simp[J0],λj e h=>by simp at h,λe h=>by simp at h,λj a b h=>by simp at h⟩
theorem JH3:QB ()=some true:=by
 have r:=QM (jr (a:=1) (b:=2) (lv:=0) qQH qQH qQH qQH qQH);have v:=QM (jr (a:=3) (b:=3) (lv:=0) qQH qQH qQH qQH qQH);have q:=QM (jr (a:=1) (b:=3) (lv:=1) qQH qQH qQH qQH qQH);have m:zL (([]:List aA),[])=some []:=by unfold zL;refine dC ?_;unfold vr;dsimp only;rw[if_pos (by rfl),eO (α:=aA) (l:=[]) (m:=[]) qQH qQH];rfl
 have g:Tot (ft ((1,2,0,0,0,[]),3,3,0,0,0,[])) λy=>y=((1,3,0,0,1,[]),0):=by
  unfold ft;dsimp only;refine .b (cD r) λo h=>.r (λ_=>.b (cD v) λz x=>.n (λc=>by simp_all) λ_=>?_) λc=>by simp_all
  have k:IW ((1,2,0,0,0,([]:List aA)),3,3,0,0,0,([]:List aA))=some true:=by rfl
  refine .b (cD k) λD E=>.n (λc=>by simp_all) λ_=>.o (λ_=>.g (λc=>absurd c qQH) λ_=>?_) λc=>absurd c qQH;refine .b (cD m) λB n=>?_;subst n;have w:J1 .i64 (cX 0 0) 1=1:=by rfl
  rw[w];exact .b (cD q) λC A=>.n (λc=>by simp_all) λ_=>.s rfl
 have j:Tot (QB ()) λy=>y=true:=by unfold QB;refine .b g λo h=>?_;subst h;exact .e (λ_=>.e (λ_=>.e (λ_=>.s (by rfl)) λc=>absurd rfl c) λc=>absurd rfl c) λc=>absurd rfl c
 obtain⟨y,e,d⟩:=j;rw[e,d]
section
abbrev rY(c:Jd):Prop:=Ty.fit 16384 1073741824 J5 c/\0<=c.2
def dn(l:qQD)(i:Int):Prop:=1<=J0 l/\J0 l<=16/\idx l 0=some 0/\Asc l/\ ∀z∈l,z<i
theorem JKY{n:Int}{c:Jd}(h0:1<=n)(hn:n<=64)(hc:rY c):Tot (YJ (n,c)) λy=>dn y.1 n/\rY y.2:=by
 unfold YJ;refine Jl (τ:=Int×Jd×qQD) (λq=>(n,q.1,q.2.1,q.2.2)) (λq=>1<=q.1/\q.1<=n/\rY q.2.1/\dn q.2.2 q.1) (λq=>n-q.1) ?_ (1,c,[0]) rfl ⟨aY _,h0,hc,show(1:Int)<=1 by decide,show(1:Int)<=16 by decide,rfl,List.pairwise_singleton _ _,λz e=>by rw[eB.1 e];show(0:Int)<1;decide⟩;rintro⟨i,c,l⟩ ⟨h1,hi,h2,A,w,r,v,h⟩;dsimp only at h1 hi h2 A w r v h;unfold Ej;dsimp only;have o:=Jg i 1;have keep: ∀{j:Int},i<=j->dn l j:=λk=>⟨A,w,r,v,λz e=>by have:=h z e;omega⟩;refine .l (λk=>.b (nx (n:=3) qQH h2.1 h2.2) λy g=>.e (λ_=>.l (λC=>.w (eO (by rw[bY];omega) qQH) (.s ⟨(J1 .i64 i 1,y.2,l++[i]),rfl,⟨by dsimp only;omega,by dsimp only;omega,g.2,?_⟩,by dsimp only;omega,by omega⟩)) λ_=>.s ⟨(J1 .i64 i 1,y.2,l),rfl,⟨by dsimp only;omega,by dsimp only;omega,g.2,keep (by dsimp only;omega)⟩,by dsimp only;omega,by omega⟩) λ_=>.s ⟨(J1 .i64 i 1,y.2,l),rfl,⟨by dsimp only;omega,by dsimp only;omega,g.2,keep (by dsimp only;omega)⟩,by dsimp only;omega,by omega⟩) λ_=>.s ⟨keep hi,h2⟩;dsimp only;refine⟨by rw[cM,bY];omega,by rw[cM,bY];omega,?_,?_,λz e=>?_⟩;cases l with
 |nil=>cases r
 |cons x t=>exact r
 exact List.pairwise_append.2 ⟨v,List.pairwise_singleton _ _,λx B y g=>by rw[eB.1 g];exact h x B⟩;rcases zQ9.1 e with e|e;have:=h z e;omega;rw[eB.1 e];omega
theorem JMF{n:Int}{l:qQD}(h0:1<=n)(hn:n<=64)(hl:dn l n):Tot (XG (n,l)) λy=>Gd y.1/\y.1.2.2.2.2+y.1.2.2.1.length=1:=by
 obtain⟨h1,h2,q,h,j⟩:=hl;have ok:kH (l,n,[],1,1):=⟨⟨h0,hn⟩,⟨h1,h2⟩,q,h,λz o=>j z (zQ5 (eS o).2),show(1:Int)<=1/\(1:Int)<=1099511627777 by decide,show(1:Int)<=1/\(1:Int)<=1073741825 by decide,show(0:Int)<=256 by decide,List.Pairwise.nil,nofun⟩;have g:zE (l,n,[],1,1)=some true:=by obtain⟨y,e,k⟩:=d8 (l,n,[],1,1);rw[e,k.2 ok]
 have hb:DA (n,l)=some true:=by
  unfold zE at g;dsimp only at g;cases hb:DA (n,l)with
  |none=>rw[hb]at g;cases g
  |some b=>
   cases b with
   |true=>rfl
   |false=>rw[hb]at g;cases g
 unfold XG;refine .w hb (.n (λc=>by cases c) λ_=>.w (MF (by dsimp only;omega) qQH) (.s ⟨⟨ok,⟨nofun,by show J0 ([]:List aI)<=257;decide,h2⟩,nofun,List.Pairwise.nil,λe _ ⟨x,r,_⟩=>by cases r⟩,rfl⟩))
end
section
theorem JKp{n:Int}{l:JV}{c:Jd}(h0:1<=n)(hn:n<=64)(hl:Ty.fit 16384 1073741824 JT l)(hc:rY c):Tot (ZL (n,l,c)) λy=>(Gd y.1/\y.1.2.2.2.2+y.1.2.2.1.length<=2000)/\rY y.2:=by
 unfold ZL;refine .b (JKY h0 hn hc) λy2 h2=>.b (JMF h0 hn h2.1) λM U=>.b (nx (n:=8) qQH h2.2.1 h2.2.2) λI F=>?_;have b4:=F.1.2.2 qQH;refine Jl (τ:=Hp) (λq=>(q.1,q.2.1,l,([],0,[],0,0),q.2.2)) (λq=>q.1<=8/\rY q.2.1/\Gd q.2.2/\q.2.2.2.2.2.2+q.2.2.2.2.1.length<=1000-32*q.1/\ -1<=q.1) (λq=>q.1) ?_ (I.1,I.2,M.1) rfl ⟨by dsimp only;omega,F.2,U.1,by dsimp only;omega,by have:=F.1.1;dsimp only;omega⟩;rintro⟨i,c,a⟩ ⟨T,z,C,O,R⟩;dsimp only at T z C O R;unfold E1;dsimp only;have o:=bG i 1;have g: ∀{c':Jd} {a':J8},0<i->rY c'->Gd a'/\a'.2.2.2.2+a'.2.2.1.length<=a.2.2.2.2+a.2.2.1.length+32-> ∃q:Hp,(Jm .i64 i 1,c',l,(([],0,[],0,0):J8),a')=(q.1,q.2.1,l,([],0,[],0,0),q.2.2)/\(q.1<=8/\rY q.2.1/\Gd q.2.2/\q.2.2.2.2.2.2+q.2.2.2.2.1.length<=1000-32*q.1/\ -1<=q.1)/\q.1<i/\0<=i:=fun{c' a'} h L J=>
  ⟨(Jm .i64 i 1,c',a'),rfl,⟨by dsimp only;omega,L,J.1,by have:=J.2;dsimp only;omega,by dsimp only;omega⟩,by dsimp only;omega,by omega⟩
 have td: ∀{b:J8} {k:Int},0<=k->k<3->Gd b/\b.2.2.2.2+b.2.2.1.length<=a.2.2.2.2+a.2.2.1.length+32->Tot (CY (b,J1 .i64 2 k)) λy=>y.2=0->Gd y.1/\y.1.2.2.2.2+y.1.2.2.1.length<=a.2.2.2.2+a.2.2.1.length+32:=fun{b k} k0 Z h=>by have o:=Jg 2 k;obtain⟨d,_,e,K,_⟩:=zi (fan:=J1 .i64 2 k) ⟨by omega,by omega⟩ h.1 oo;exact⟨_,e,λ_=>⟨K.good,by have:=K.bud;dsimp only;omega⟩⟩
 have same:Gd a/\a.2.2.2.2+a.2.2.1.length<=a.2.2.2.2+a.2.2.1.length+32:=⟨C,by omega⟩;refine .g (λk=>.b (nx (n:=12) qQH z.1 z.2) λy6 A=>.b (yi C hl (J2.1 (Jk (B:=0) (S:=0)))) λY E=>.e (λD=>.b (nx (n:=4) qQH A.2.1 A.2.2) λN r=>.e (λ_=>.b (nx (n:=3) qQH r.2.1 r.2.2) λQ j=>.b (td j.1.1 (j.1.2.2 qQH) (E D)) λG w=>.e (λx=>.s (g k j.2 (w x))) λ_=>.s (g k j.2 (E D))) λ_=>.s (g k r.2 (E D))) λ_=>.b (nx (n:=4) qQH A.2.1 A.2.2) λN r=>.e (λ_=>.b (nx (n:=3) qQH r.2.1 r.2.2) λQ j=>.b (td j.1.1 (j.1.2.2 qQH) same) λG w=>.e (λx=>.s (g k j.2 (w x))) λ_=>.s (g k j.2 same)) λ_=>.s (g k r.2 same)) λ_=>?_;have fin: ∀{b:J8},Gd b/\b.2.2.2.2+b.2.2.1.length<=a.2.2.2.2+a.2.2.1.length+32->Gd b/\b.2.2.2.2+b.2.2.1.length<=2000:=λh=>⟨h.1,by have:=h.2;omega⟩;exact .map (P:=λy:pZ=>(Gd y.1/\y.1.2.2.2.2+y.1.2.2.1.length<=2000)/\rY y.2) (.b (nx (n:=2) qQH z.1 z.2) λW v=>.e (λ_=>.b (yi C hl qQH) λV H=>.e (λe=>.s ⟨fin (H e),v.2⟩) λ_=>.s ⟨fin same,v.2⟩) λ_=>.s ⟨fin same,v.2⟩) λ_ h=>h
end
section
theorem L1{e:aA}: ∀{l:List aA},l.Pairwise ltE->(bQ l e).Pairwise ltE
 |[],_=>List.pairwise_singleton _ _
 |x::l,h=>by
  obtain⟨h1,h2⟩:=List.pairwise_cons.1 h;unfold bQ;split;rename_i c;refine List.pairwise_cons.2 ⟨λz g=>?_,L1 h2⟩;rcases j3 g with g|rfl;exact h1 z g;exact yG.1 c;split;exact h;rename_i n j;have k:ltE e x:=by have o: ¬ltE x e:=λk=>n (yG.2 k);have q: ¬(bL x=bL e/\x.1=e.1):=λk=>j (WF.2 k);unfold ltE at*;omega
  refine List.pairwise_cons.2 ⟨λz g=>?_,h⟩;rcases cJ.1 g with rfl|g;exact k;exact k.trans (h1 z g)
theorem io: ∀{L acc:List aA},acc.Pairwise ltE->(L.foldl bQ acc).Pairwise ltE|[],_,h=>h|e::L,acc,h=>show(L.foldl bQ (bQ acc e)).Pairwise ltE from io (L:=L) (L1 h)
theorem Mp{e:aA}: ∀{l:List aA},(∀x∈l,fX x e=0->x=e)-> ∀z,z∈bQ l e↔z∈l\/z=e
 |[],_,z=>by simp[bQ]
 |x::l,h,z=>by
  have ih:=Mp (l:=l) (λy g=>h y (eF _ g)) z;unfold bQ;split;simp only[cJ,ih,or_assoc];split;rename_i c;have:=h x List.mem_cons_self c;subst this;simp;exact .inl;simp only[cJ];exact or_comm.trans (by simp[or_assoc,or_comm,or_left_comm])
theorem km: ∀{L acc:List aA},(∀x∈acc++L,∀y∈acc++L,fX x y=0->x=y)-> ∀z,z∈L.foldl bQ acc↔z∈acc++L
 |[],acc,_,z=>by simp
 |e::L,acc,h,z=>by
  have j:=Mp (e:=e) (l:=acc) λx g=>h x (by simp[g]) e (by simp);have k: ∀x,x∈bQ acc e++L↔x∈acc++e::L:=λx=>by simp[j,or_assoc]
  rw[List.foldl_cons,km (λx g y n=>h x ((k x).1 g) y ((k y).1 n)),k]
theorem JKl{L M:List aA}(h: ∀x∈L,∀y∈L,x.1=y.1->x=y)(hm: ∀z,z∈L↔z∈M):L.foldl bQ []=M.foldl bQ []:=by have h1: ∀x∈[]++L,∀y∈[]++L,fX x y=0->x=y:=λx g y e c=>h x g y e (WF.1 c).2;have h2: ∀x∈[]++M,∀y∈[]++M,fX x y=0->x=y:=λx g y e c=>h x ((hm x).2 g) y ((hm y).2 e) (WF.1 c).2;refine uh (lt:=ltE) (λa k=>by unfold ltE at k;omega) (λa b k j=>by unfold ltE at*;omega) (io List.Pairwise.nil) (io List.Pairwise.nil) λz=>?_;rw[km h1,km h2];exact hm z
end
section
variable {a:J8}
noncomputable def EL(a:J8):List aA:=((WR a).map (·.1)).flatMap ent
theorem iu(G:Gd a):zJ a=some ((EL a).foldl bQ [])/\J0 ((EL a).foldl bQ [])<=1048576:=by
 have E:Tot (zJ a) λy=>y=(EL a).foldl bQ []/\J0 y<=1048576:=by
  unfold zJ m8;rw[Li G.ok G.hf];dsimp only[Option.bind_some];have I:=TM G.ok G.hf;have z: ∀r∈(WR a).map (·.1),J0 (ent r)<=4096:=λr z=>by obtain⟨e,K,rfl⟩:=gY.1 z;exact(SI G.ok G.hf K).1
  have hl:((WR a).map (·.1)).length<=256:=by rw[dW];exact I
  unfold EL;generalize (WR a).map (·.1)=R at z hl⊢;refine fT (l:=R) (λi (b:List aA)=>(b,R,i,a)) (λpre b=>b=(pre.flatMap ent).foldl bQ []/\J0 b<=4096*(pre.length:Int)) (λpre x t b g v=>?_) (λb v=>?_) R [] [] _ rfl rfl ⟨rfl,aY _⟩;obtain⟨D,N⟩:=v;have A:=eY g;have P:R.length=pre.length+(t.length+1):=by rw[g];simp
  have J:=z x (by rw[g];simp);have step: ∀o:List aA,o=b->Tot (J3 fu (o,R,J0 pre,0,a)) (si (λq:List aA=>(q,R,J0 (pre++[x]),a)) (λq=>q=((pre++[x]).flatMap ent).foldl bQ []/\J0 q<=4096*((pre++[x]).length:Int)) λy=>y=(R.flatMap ent).foldl bQ []/\J0 y<=1048576):=by
   intro o F;subst F;refine fT (l:=ent x) (λj (c:List aA)=>(c,R,J0 pre,j,a)) (λp c=>c=p.foldl bQ o/\J0 c<=J0 o+(p.length:Int)) (λp e u c k B=>?_) (λc B=>?_) (ent x) [] o _ rfl rfl ⟨rfl,by simp⟩;obtain⟨C,L⟩:=B;have O:(ent x).length=p.length+(u.length+1):=by rw[k];simp
   have M:J0 (ent x)=((ent x).length:Int):=rfl;unfold fu;dsimp only;refine .w A ?_;refine .l (λ_=>.w A (.w (show idx x.2.2.2.2.2 (J0 p)=some e from eY k) (.b (gr (l:=c) (e:=e) oo) λy H=>.s ⟨y.1,?_,?_,?_⟩))) λw=>absurd (dV k) w;rw[show J1 .i64 (J0 p) 1=J0 (p++[e])from fQ k (n:=4096) J];rw[H,C,List.foldl_append];rfl;rw[H];have:=x5 c e;simp only[dP,List.length_singleton];omega;obtain⟨C,L⟩:=B;unfold fu;dsimp only;refine .w A ?_;refine .l (λw=>absurd w (Int.lt_irrefl _)) λ_=>.s ⟨c,?_,?_,?_⟩;rw[show J1 .i64 (J0 pre) 1=J0 (pre++[x])from UG g (by unfold J0;omega)];rw[C,D,List.flatMap_append,List.foldl_append];simp;simp only[dP,List.length_singleton];have:J0 (ent x)=((ent x).length:Int):=rfl;omega
  unfold pn;dsimp only;rw[if_pos (Jw.2 (dV g))];exact step b rfl;unfold pn;dsimp only;rw[if_neg (by rw[Jw];exact Int.lt_irrefl _)];exact .s ⟨v.1,by have:=v.2;omega⟩
 obtain⟨y,e,h,k⟩:=E;rw[<-h];exact⟨e,k⟩
theorem TN(G:Gd a)(z:aA):z∈EL a↔EA a z:=by
 unfold EL EA;rw[G.wr];simp only[wK,List.mem_flatMap,gY,Function.comp];constructor;rintro⟨r,⟨x,e,rfl⟩,h⟩;exact⟨x,(xT G.ok G.hf).1 e,h⟩;rintro⟨x,e,h⟩;exact⟨_,⟨x,(xT G.ok G.hf).2 e,rfl⟩,h⟩
theorem JJm{b:J8}(G:Gd a)(K:Kp a b): ∃l,zJ a=some l/\zJ b=some l/\J0 l<=1048576:=by refine⟨_,(iu G).1,?_,(iu G).2⟩;rw[(iu K.good).1];exact congrArg some (JKl (λx g y e=>K.good.one x y ((TN K.good x).1 g) ((TN K.good y).1 e)) λz=>(TN K.good z).trans ((K.ea z).trans (TN G z).symm))
end
section
theorem JJo{l:List aA}(hl:J0 l<=4611686018427387904):QX (l,l)=some true:=by
 have g:Tot (QX (l,l)) λy=>y=true:=(by unfold QX;refine .d (λc=>absurd rfl c) λ_=>fT (l:=l) (λi (_:Unit)=>(l,l,i)) (λ_ _=>True) (λpre x t _ h _=>?_) (λ_ _=>?_) l [] () _ rfl rfl trivial;unfold vy;dsimp only;rw[if_pos (Jw.2 (dV h)),UG h hl];exact .w (eY h) (.w (eY h) (.n (λc=>absurd (show eqT J4 x x=true from eA.2 rfl) (by rw[c];decide)) λ_=>.s ⟨(),rfl,qQG⟩));unfold vy;dsimp only;rw[if_neg (by rw[Jw];omega)];exact .s rfl);obtain⟨y,e,d⟩:=g;rw[e,d]
theorem JMj{x0:qQD}{X:Int}(w0:Ty.inR (.l (.i .u8)) x0)(w1:Ty.inR (.i .u8) X)
  (hp: ∀{c:Jd} {y:qe},rY c->CD (30,c)=some y->1<=y.1/\y.1<=64):RF (x0,X)=some true:=by
 have q:Tot (RF (x0,X)) λy=>y=true:=by
  unfold RF;refine .b (cD JH3) λQ w=>.n (λc=>by rw[w]at c;cases c) λ_=>.b (JJu w0) λA g=>.b (JIc (B:=16384) (S:=1073741824) (X:=(30,A)) ⟨lH .i64 30,g.1⟩ g.2 (by show(0:Int)<=30;decide) (by show(30:Int)<=1000;decide)).eqn λO n=>?_;obtain⟨j,I⟩:=n;have k:=hp ⟨g.1,g.2⟩ I;refine .b (JKp k.1 k.2 j.1.2.1 ⟨j.1.2.2,j.2⟩) λK J=>?_;obtain⟨⟨G,hb⟩,_⟩:=J;have D:0<=X/\X<=255:=w1;have M:=KR X;obtain⟨r,z,E⟩:=Ko (x:=aT .i64 X) (y:=3) qQH;have o:=Jg 2 r;have N:0<=r/\r<3:=by
   have:aT .i64 X=X:=by omega
   rw[E,this];exact⟨Int.tmod_nonneg _ D.1,Int.tmod_lt_of_pos _ qQH⟩
  refine .w z ?_;obtain⟨b,v,_,h,C⟩:=zi (fan:=J1 .i64 2 r) ⟨by omega,by omega⟩ G oo;obtain⟨l,F,H,L⟩:=JJm G h;refine .w v (.w C ?_);have P:=h.few;refine .q (λ_=>.q (λ_=>.t (λ_=>.q (λc=>.g (λc=>?_) λ_=>.w F (.w H (.w (JJo oo) (.s rfl)))) λc=>absurd h.next c) λc=>absurd (show false=true from c) qQH) λc=>absurd rfl c) λc=>absurd rfl c;exfalso;unfold J0 at c;dsimp only at c;omega
 obtain⟨y,e,d⟩:=q;rw[e,d]
end
section
variable {k:J7} {s:JA}
def PI(k:J7):Prop:=1<=k.1/\k.1<=64
theorem ZO{v:Bool}(h:JJ k=some v)(c:v=true):PI k:=by
 subst c;have e:Par (vL k) λy=>y=true->PI k:=.h (λa=>.G (λc=>λ_ _ _=>⟨a,c⟩) λ_=>.s nofun) λ_=>.s nofun
 have g:Par (JJ k) λy=>y=true->PI k:=.b λa j=>.n (λ_=>.s nofun) λc=>λ_ _ _=>e _ j c
 exact g _ h rfl
theorem wZ{e:aA}:Par (iM (k,e)) λy=>y.2.2=0->PI y.1:=by
 unfold iM;refine .b λv j=>.n (λ_=>.s nofun) λg=>?_;have P:=ZO j g;refine .g (λ_=>.b λ_ _=>.l (λ_=>.s nofun) λ_=>.b λ_ _=>.b λ_ _=>.i (λ_=>.b λ_ _=>?_) λ_=>?_) λ_=>.b λ_ _=>.i (λ_=>.b λ_ _=>?_) λ_=>?_
 all_goals exact .b λ_ _=>.d (λc=>.s λh=>absurd h c) λ_=>.b λ_ _=>.b λ_ _=>.d (λc=>.s λh=>absurd h c) λ_=>.b λ_ _=>.d (λc=>.s λh=>absurd h c) λ_=>.s λ_=>P
theorem JOL{m:Int}(hi:PI k):Par (pR (k,m)) PI:=.b λ_ _=>.b λ_ _=>.e (λ_=>.s hi) λ_=>.s hi
theorem s9{e:aA}(hi:PI k):Par (yS (k,e)) λy=>PI y.1:=by unfold yS;dsimp only;exact .b λh h2=>.d (λ_=>.s hi) λg=>.b λ_ _=>.b λ_ _=>.b λ_ _=>.b λ_ _=>.d (λ_=>.s hi) λ_=>.s (wZ _ h2 g)
theorem JLP{x:JU}:Par (vX (k,x)) λy=>y.2=0->PI y.1:=by unfold vX;dsimp only;refine .b λv j=>.n (λ_=>.s nofun) λg=>?_;have P:=ZO j g;refine .j (λ_=>.h (λ_=>.s nofun) λ_=>.b λ_ _=>.l (λ_=>.s nofun) λ_=>.b λ_ _=>.g (λ_=>.s nofun) λ_=>.b λ_ _=>.d (λc=>.s λh=>absurd h c) λ_=>.b λ_ _=>.i (λ_=>.b λ_ _=>.b λ_ _=>.b λ_ _=>.b λ_ _=>.z (λz=>PI z.2.1) P λz e=>?_) λ_=>.s λ_=>P) λ_=>.s nofun;unfold fj;exact .l (λ_=>.b λ_ _=>.d (λ_=>.b λ_ _=>.b λ_ _=>.s e) λ_=>.s e) λ_=>.s λ_=>e
theorem JJ0{id j:Int}:Par (vQ (k,id,j)) λy=>y.2=0->PI y.1:=by unfold vQ;dsimp only;exact .b λ_ _=>.n (λ_=>.s nofun) λ_=>.j (λ_=>.o (λ_=>.j (λ_=>.b λ_ _=>.g (λ_=>.s nofun) λ_=>.b λ_ _=>.h (λ_=>.b λ_ _=>.d (λc=>.s λh=>absurd h c) λ_=>.b λ_ e=>.d (λc=>.s λh=>absurd h c) λg=>.s λ_=>wZ _ e g) λ_=>.b λ_ e=>.d (λc=>.s λh=>absurd h c) λg=>.s λ_=>wZ _ e g) λ_=>.s nofun) λ_=>.s nofun) λ_=>.s nofun
theorem JJH:Par (HY k) λy=>y.2.2=0->PI y.1:=.b λ_ g=>.n (λ_=>.s nofun) λe=>.g (λ_=>.s nofun) λ_=>.b λ_ _=>.d (λc=>.s λh=>absurd h c) λ_=>.s λ_=>show PI k from ZO g e
theorem JLa{g:Int}{a:oD}(hi:PI k):Par (vY (k,g,a)) λy=>PI y.1:=by unfold vY;dsimp only;exact .b λ_ _=>.n (λ_=>.s hi) λ_=>.e (λ_=>.b λ_ _=>.b λ_ _=>.b λ_ _=>.s hi) λ_=>.b λ_ _=>.b λ_ _=>.e (λ_=>.b λ_ e=>.d (λ_=>.b λ_ _=>.s hi) λ_=>.s (s9 hi _ e)) λ_=>.b λ_ e=>.d (λ_=>.b λ_ _=>.s hi) λ_=>.s (s9 hi _ e)
theorem JMS{j:Int}(hi:PI k):Par (vS (k,j)) λy=>PI y.1:=.b λ_ _=>.b λ_ _=>.e (λ_=>.b λ_ _=>.b λ_ _=>.s hi) λ_=>.b λ_ e=>.d (λ_=>.b λ_ _=>.s hi) λh=>.b λn g=>.b λ_ _=>.s (show PI n from JOL (wZ _ e h) _ g)
theorem Nc{j st:Int}(hi:PI k):Par (tI (k,j,st)) λy=>PI y.1:=by unfold tI;refine .b λ_ _=>.b λ_ _=>.b λ_ _=>.e (λ_=>.b λ_ _=>.b λ_ _=>.s hi) λ_=>.b λn h=>.d (λ_=>.b λ_ _=>.s hi) λg=>.z (λz=>PI z.2.2.2.2.2.2.2) (wZ _ h g) λz e=>?_;unfold eo;exact .l (λ_=>.b λ_ _=>.e (λ_=>.b λ_ _=>.b λ_ _=>.n (λ_=>.b λ_ _=>.b λ_ _=>.s e) λ_=>.s e) λ_=>.s e) λ_=>.s e
theorem JPT{q:Int}{a:oD}(hi:PI k):Par (vJ (k,q,a)) λy=>PI y.1:=by unfold vJ;have e: ∀{o:Option (eD)},Par (o.bind λh=>if aO h.2 0 then(Ju h.2).bind λr=>some (k,r)else some ((k.1,k.2.1,k.2.2.1,k.2.2.2.1,k.2.2.2.2.1,h.1,k.2.2.2.2.2.2),1,0,0,(false,[]),0)) λy=>PI y.1:=.b λ_ _=>.d (λ_=>.b λ_ _=>.s hi) λ_=>.s hi;exact .b λ_ _=>.d (λ_=>.b λ_ _=>.s hi) λ_=>.e (λ_=>.b λA v=>.s (JMS hi _ v)) λ_=>.e (λ_=>.b λB w=>.s (Nc hi _ w)) λ_=>.e (λ_=>.b λ_ _=>.e (λ_=>e) λ_=>.d (λ_=>.b λ_ _=>.s hi) λ_=>.s hi) λ_=>.e (λ_=>.b λ_ _=>.e (λ_=>e) λ_=>.d (λ_=>.b λ_ _=>.s hi) λ_=>.s hi) λ_=>.b λ_ _=>.b λg _=>.d (λ_=>.b λ_ _=>.s hi) λ_=>.i (λ_=>.b λz n=>.e (λ_=>.s hi) λ_=>.s (JLa (k:=(k.1,k.2.1,k.2.2.1,k.2.2.2.1,g.1,k.2.2.2.2.2)) hi _ n)) λ_=>.b λ_ _=>.g (λ_=>.b λx j=>.e (λ_=>.s hi) λ_=>.s (Nc (k:=(k.1,k.2.1,k.2.2.1,k.2.2.2.1,g.1,k.2.2.2.2.2)) hi _ j)) λ_=>.b λ_ _=>.s hi
theorem Lv{x:Jq}{e:aA}(hi:PI k):Par (jO (k,x,e)) λy=>PI y.1:=by unfold jO;dsimp only;refine .b λ_ _=>.n (λ_=>.s hi) λ_=>.b λ_ _=>.b λ_ _=>.d (λ_=>.b λ_ _=>.s hi) λ_=>.b λj h=>.d (λ_=>.b λ_ _=>.s hi) λ_=>?_;have g:=s9 hi _ h;exact .e (λ_=>.b λ_ _=>.n (λ_=>.b λ_ _=>.s g) λ_=>.s g) λ_=>.s g
theorem JMu{g:Int}{c:Jn}(hi:PI k):Par (oB (k,g,c)) λy=>PI y.1:=.b λ_ _=>.d (λ_=>.b λ_ _=>.s hi) λ_=>.d (λ_=>.b λ_ _=>.s hi) λ_=>.b λ_ _=>.n (λ_=>.s hi) λ_=>.b λ_ e=>.s (Lv hi _ e)
def FlP(r:fI):Prop:=r.1=5->r.2.2.2.2≠0
theorem uj{r:fI}(h:r.1≠5):FlP r:=λe=>absurd e h
theorem NI{n:Int}{r:fI}(h:Ju n=some r)(hn: ¬n=0):FlP r:=by unfold Ju at h;injection h with h;subst h;exact λ_=>hn
theorem JRR{x:Jq}{e:aA}:Par (jO (k,x,e)) λy=>FlP y.2:=by unfold jO;have d:FlP (1,x.1,0,(false,[]),0):=uj (show(1:Int)≠5 by decide);exact .b λ_ _=>.n (λ_=>.s (uj (show(3:Int)≠5 by decide))) λ_=>.b λ_ _=>.b λ_ _=>.d (λc=>.b λ_ h=>.s (NI h c)) λ_=>.b λ_ _=>.d (λc=>.b λ_ h=>.s (NI h c)) λ_=>.e (λ_=>.b λ_ _=>.n (λ_=>.b λ_ _=>.s d) λ_=>.s d) λ_=>.s d
theorem VD{o:Int}:Par (iW (k,o)) λy=>(PI k->PI y.1)/\FlP y.2:=by unfold iW;have nx: ∀x:Jq,Par ((sW (k,o)).bind λe=>if Ji e.2 then(Ju 14).bind λn=>some (k,n)else(jO (k,x,e.1)).bind λg=>some (g.1,g.2)) λy=>(PI k->PI y.1)/\FlP y.2:=λx=>.b λ_ _=>.n (λ_=>.b λ_ h=>.s ⟨id,NI h qQH⟩) λ_=>.b λ_ j=>.s ⟨λhi=>Lv hi _ j,JRR _ j⟩;exact .b λ_ _=>.d (λc=>.b λ_ h=>.s ⟨id,NI h c⟩) λ_=>.e (λ_=>.e (λ_=>.b λq v=>.d (λc=>.b λ_ h=>.s ⟨id,NI h c⟩) λr=>.b λ_ _=>.s ⟨λ_=>show PI q.1 from wZ _ v r,uj (show(1:Int)≠5 by decide)⟩) λ_=>nx _) λ_=>nx _
theorem JNH{x:JU}:Par (tA (s,k,x)) λy=>y.2=0->PI y.1.1:=.b λ_ _=>.b λ_ _=>.d (λc=>.s λh=>absurd h c) λ_=>.b λj g=>.d (λc=>.s λh=>absurd h c) λe=>.s λ_=>JJ0 _ g e
theorem JIY{id:Int}(hi:PI s.1):Par (IC (s,id)) λy=>y.2=0->PI y.1.1:=.b λ_ _=>.d (λc=>.s λh=>absurd h c) λ_=>.b λ_ _=>.b λ_ _=>.n (λ_=>.s λ_=>hi) λ_=>.b λ_ g=>.s λe=>JNH _ g e
theorem ND{id:Int}(hi:PI s.1):Par (nX (s,id)) λy=>y.2=0->PI y.1.1:=.b λ_ _=>.n (λ_=>.s nofun) λ_=>.j (λ_=>.h (λ_=>.s nofun) λ_=>.b λ_ _=>.h (λ_=>.s λ_=>hi) λ_=>.b λ_ _=>.d (λc=>.s λh=>absurd h c) λ_=>.b λ_ _=>.d (λc=>.s λh=>absurd h c) λ_=>.b λ_ _=>.b λ_ _=>.d (λc=>.s λh=>absurd h c) λ_=>.b λ_ _=>.d (λc=>.s λh=>absurd h c) λ_=>.b λj g=>.d (λc=>.s λh=>absurd h c) λe=>.s λ_=>JLP _ g e) λ_=>.s nofun
theorem JIl{n:Int}(hi:PI s.1):Par (tK (s,n)) λy=>y.2=0->PI y.1.1:=by unfold tK;refine .b λ_ _=>.n (λ_=>.s nofun) λ_=>.b λ_ _=>.l (λ_=>.s nofun) λ_=>.z (λz=>PI z.2.1.1) hi λz e=>?_;unfold pw;exact .b λ_ _=>.i (λ_=>.b λq g=>.e (λc=>.s λh=>absurd h ((VD _ g).2 c)) λ_=>.e (λ_=>.b λo k=>.d (λc=>.s λh=>absurd h c) λj=>.s (ND e _ k j)) λ_=>.s ((VD _ g).1 e)) λ_=>.s λ_=>e
theorem JRr{r:Int}{a:oD}(hi:PI s.1):Par (GY (s,r,a)) λy=>PI y.1.1:=by
 unfold GY;refine .z (λz=>PI z.2.1.1) hi λz x=>?_;unfold nh;refine .b λe A=>?_;have g:=JPT x _ A;have rb: ∀{Q:(mW)⊕(gU)->Prop},(∀y,PI y.1.1->Q (.inr y))->Par ((vR ((e.1,z.2.1.2),z.1)).bind λq=>if q then(tK ((e.1,z.2.1.2),z.1)).bind λj=>if aO j.2 0 then(Ju j.2).bind λk=>some (.inr ((e.1,z.2.1.2),k))else some (.inr (j.1,e.2))else some (.inr ((e.1,z.2.1.2),e.2))) Q:=
  λh=>.b λ_ _=>.i (λ_=>.b λB o=>.d (λ_=>.b λ_ _=>.s (h _ g)) λn=>.s (h _ (JIl (s:=(e.1,z.2.1.2)) g _ o n))) λ_=>.s (h _ g)
 exact .e (λ_=>.b λC w=>.d (λ_=>.b λ_ _=>.s g) λv=>.s (ND (s:=(e.1,z.2.1.2)) g _ w v)) λ_=>.p (λ_=>.e (λ_=>.p (λ_=>.e (λ_=>rb λ_ h=>h) λ_=>.s g) λ_=>rb λ_ h=>h) λ_=>.s g) λ_=>rb λ_ h=>h
theorem yt:Par (IF s) λy=>y.2.2=0->PI y.1.1:=.b λ_ h2=>.d (λc=>.s λh=>absurd h c) λe=>.s λ_=>JJH _ h2 e
theorem j7{g:Int}{l:Jn}(hi:PI s.1):Par (HO (s,g,l)) λy=>PI y.1.1:=by unfold HO;refine .z (λz=>PI z.2.2.1.1) hi λz e=>?_;unfold oh;exact .b λ_ k=>.e (λ_=>.s e) λ_=>.e (λ_=>.b λ_ j=>.d (λ_=>.s e) λh=>.s (ND e _ j h)) λ_=>.e (λ_=>.s e) λ_=>.s (JMu e _ k)
theorem JQA{h:Int}{a:oD}(hi:PI s.1):Par (GZ (s,h,a)) λy=>PI y.1.1:=by unfold GZ;refine .z (λz=>PI z.2.1.1) hi λz k=>?_;unfold nc;refine .b λ_ j=>?_;have g:=JRr k _ j;exact .d (λ_=>.s g) λ_=>.b λ_ _=>.n (λ_=>.s g) λ_=>.b λ_ e=>.d (λ_=>.b λ_ _=>.s (j7 g _ e)) λ_=>.e (λ_=>.s (j7 g _ e)) λ_=>.s (j7 g _ e)
theorem JPy(hi:PI s.1):Par (HR s) λy=>y.2.2=0->PI y.1.1:=by unfold HR;refine .b λ_ _=>.n (λ_=>.s nofun) λ_=>.g (λ_=>.b λ_ _=>.b λ_ o=>.s λn=>ND hi _ o n) λ_=>.b λ_ _=>.e (λ_=>.s λ_=>hi) λ_=>.z (λz=>PI z.2.1.1) hi λz g=>?_;unfold oa;exact .b λ_ _=>.b λ_ e=>.e (λc=>.s λh=>absurd h ((VD _ e).2 c)) λ_=>.d (λ_=>.s λ_=>(VD _ e).1 g) λ_=>.b λ_ k=>.d (λc=>.s λh=>absurd h c) λj=>.s (ND g _ k j)
theorem JQ7:Par (HQ k) λy=>y.2.2=0->PI y.1:=.b λ_ _=>.d (λc=>.s λh=>absurd h c) λ_=>.b λ_ _=>.g (λ_=>.s nofun) λ_=>.b λg j=>.d (λc=>.s λh=>absurd h c) λe=>.b λ_ _=>.s λ_=>show PI g.1 from wZ _ j e
theorem JAK:Par (IS s) λy=>y.2.2=0->PI y.1.1:=.b λ_ h2=>.d (λc=>.s λh=>absurd h c) λe=>.s λ_=>JQ7 _ h2 e
theorem JPo{l:JV}{a:pO}{k:Int}:Par (HZ (l,a,k)) λy=>y.2=0->PI y.1:=by unfold HZ;refine .b λ_ _=>.d (λc=>.s λh=>absurd h qQH) λ_=>.b λ_ o=>.n (λ_=>.s nofun) λn=>.z (λz=>PI z.2.2.2.2.2) (ZO o n) λz e=>?_;unfold pb;exact .l (λ_=>.b λ_ _=>.e (λ_=>.s e) λ_=>.b λ_ _=>.b λ_ j=>.d (λc=>.s λh=>absurd h c) λg=>.s (wZ _ j g)) λ_=>.s λ_=>e
theorem JRd{d:eI}{b:qQC}{n m:Int}:Par (CT (d,b,n,m)) λy=>y.2=0->PI y.1.1:=by unfold CT;dsimp only;exact .b λ_ _=>.d (λc=>.s λh=>absurd h c) λ_=>.b λ_ _=>.d (λc=>.s λh=>absurd h c) λ_=>.b λ_ g=>.d (λc=>.s λh=>absurd h c) λe=>.s λ_=>JPo _ g e
abbrev TFp:=Int×Int×Int×(List aA)×Int×Int×(List dM)×Int×(List aH)×(List aH)×(List Jq)×(List aE)×(List aE)×(List qQC)×Int×qQD×Bool×(List JS)×Bool×qQD×(List yK)
def PT(t:TFp):Prop:=1<=t.1/\t.1<=64
variable {x:rH} {t:TFp}
theorem MW{e:Int}(hi:PT t)(hs:e=0->PI s.1):Par (tM (s,e,t)) λy=>PT y.2:=.e (λc=>.b λ_ _=>.s (hs c)) λ_=>.b λ_ _=>.s hi
theorem JSe(hi:PT t):Par (KB (x,t)) λy=>PT y.2:=.j (λ_=>.k (λ_=>.b λ_ _=>.b λ_ _=>.e (λ_=>.b λ_ _=>.s hi) λ_=>.b λ_ _=>.b λ_ _=>.b λe h=>have g:PI e.1.1:=JQA (by exact hi) _ h;.e (λ_=>.s hi) λ_=>.e (λ_=>.e (λ_=>.b λ_ _=>.b λ_ _=>.s g) λ_=>.s g) λ_=>.s g) λ_=>.b λ_ _=>.s hi) λ_=>.b λ_ _=>.s hi
theorem JO8(hi:PT t):Par (IX (x,t)) λy=>PT y.2:=by
 unfold IX;refine .b λ_ _=>.b λe o=>?_;have A:e.2=0->PI e.1.1:=by unfold PZ at o;have r: ∀{d:eI} {b:qQC} {n m:Int},Par ((CT (d,b,n,m)).bind λh=>some (h.1,h.2)) λy=>y.2=0->PI y.1.1:=.b λ_ v=>.s λc=>JRd _ v c;exact r _ o
 refine .z (λz=>z.1=e.2/\z.2.2.2.2.2.2.2.2.2.2.2.2.2.2.2.2.2.2.2.2.2.2.2.2.2.2=e.1/\1<=z.2.2.1/\z.2.2.1<=64) ⟨rfl,rfl,by exact hi⟩ λz w=>?_;obtain⟨k,j,q⟩:=w;unfold wa;refine .l (λ_=>.b λ_ _=>.b λ_ _=>.s ⟨k,j,q⟩) λ_=>.map (.d (λ_=>.b λ_ _=>.s q) λc=>.b λ_ _=>.s ?_);have g:=A (by rw[<-k];exact c);rw[<-j]at g;exact g
theorem JRe(hi:PT t):Par (IV (x,t)) λy=>PT y.2:=by unfold IV;refine .e (λ_=>.b λB h2=>.e (λ_=>.b λq _=>.b λh j=>.s ?_) λ_=>.b λh j=>.s (show PT h.2 from MW hi (λc=>yt _ h2 c) _ j)) λ_=>.e (λ_=>.b λA r=>.s (JSe hi _ r)) λ_=>.e (λ_=>.b λk e=>.b λo g=>.s (MW hi (λc=>JIY (by exact hi) _ e c) _ g)) λ_=>.e (λ_=>.b λk e=>.b λo g=>.s (MW hi (λc=>JAK _ e c) _ g)) λ_=>.e (λ_=>.b λ_ _=>.b λz v=>.e (λc=>.b λ_ _=>.s hi) λ_=>.b λ_ _=>.s hi) λ_=>.e (λ_=>.b λw n=>.s (JO8 hi _ n)) λ_=>.e (λ_=>.b λk e=>.b λo g=>.s (MW hi (λc=>JPy (by exact hi) _ e c) _ g)) λ_=>.b λ_ _=>.s hi;show PT h.2;exact MW (t:=(_,_,_,_,_,_,_,_,_,_,_,_,_,_,_,_,_,_,_,q,_)) hi (λc=>yt _ h2 c) _ j
theorem JSb{l:List rH}(hi:PI s.1):Par (HG (s,l)) λy=>PI y.1.1:=by unfold HG;refine .z (λz=>1<=z.2.2.2.2.2.2.1/\z.2.2.2.2.2.2.1<=64) (by exact hi) λz e=>?_;unfold nu;exact .l (λ_=>.l (λ_=>.n (λ_=>.b λ_ _=>.b λh g=>.b λ_ _=>.s (by exact JRe (by exact e) _ g)) λ_=>.s e) λ_=>.s e) λ_=>.s e
theorem JO1{p f:Int}(h1:1<=p)(h2:p<=64)(h3:1<=f)(h4:f<=64):Par (HA (p,f)) λy=>PI y.1.1:=by
 have e:Par (HM (p,f)) λy=>y.2=0/\PI y.1:=.j (λ_=>.k (λ_=>.j (λ_=>.g (λc=>by dsimp only at c;omega) λ_=>.b λ_ _=>.b λ_ _=>.s ⟨rfl,h1,h2⟩) λc=>by dsimp only at c;omega) λc=>by dsimp only at c;omega) λc=>by dsimp only at c;omega
 have g:Par (HC p) λy=>y.2=0:=.j (λ_=>.g (λc=>by omega) λ_=>.b λ_ _=>.s rfl) λc=>by omega
 unfold HA;exact .b λ_ h2=>.d (λc=>absurd (e _ h2).1 c) λ_=>.b λ_ h3=>.d (λc=>absurd (g _ h3) c) λ_=>.s (e _ h2).2
theorem JJS{c:Jd}{n:Int}{b:Bool}(hf:Ty.fit 16384 1073741824 J5 c)(h0:0<=c.2):Par (KC (n,b,c)) λy=>PI y.1.1:=by
 unfold KC;refine .b λh h2=>.b λj r=>.b λD o=>.b λz E=>.b λA k=>.s (JSb (JO1 ?_ ?_ ?_ ?_ _ o) _ k)
 all_goals
  have e:=(Jt (B:=16384) (S:=1073741824) (X:=(4,c)) ⟨lH .i64 4,hf⟩ h0).get h2;have g:=(Jt (B:=16384) (S:=1073741824) (X:=(3,h.2)) ⟨lH .i64 3,e.1.2⟩ e.2.2.2).get r;have v:=e.2.2.1 (show(1:Int)<=4 by decide);have q:=g.2.2.1 (show(1:Int)<=3 by decide);have b2:=e.2.1;have w:=g.2.1;have x:=Jg 1 h.1;have C:=Jg 1 j.1;dsimp only at v q;omega
theorem JK5{c:Jd}{n:Int}(hf:Ty.fit 16384 1073741824 J5 c)(h0:0<=c.2):Par (CD (n,c)) λy=>1<=y.1/\y.1<=64:=by
 have e: ∀{b:Bool},Par (IZ (n,b,c)) λy=>PI y.1:=.b λ_ h2=>.s (JJS hf h0 _ h2)
 unfold CD;exact .b λ_ h2=>.b λ_ _=>.b λ_ _=>.s (e _ h2)
end
theorem JhK{x0:qQD}{X:Int}(w0:Ty.inR (.l (.i .u8)) x0)(w1:Ty.inR (.i .u8) X):RF (x0,X)=some true:=
 JMj w0 w1 λhc h=>JK5 hc.1 hc.2 _ h
def DX{α:Type}(f:FuncId):List (FuncId×α)->Option α|[]=>none|(g,a)::r=>if f=g then some a else DX f r
noncomputable def tr:List (FuncId×AFn):=[(10,aN JGX),(93,aN Jj4),(125,aN JqA),(74,aN JnB),(84,aN JCn),(122,aN Xp),(94,aN JlD),(151,aN Ym),(218,aN Jlr),(217,aN Zf),(181,aN Xf),(180,aN JAj),(179,aN Jp3),(182,aN JoE),(183,aN JoZ),(152,aN Uc),(113,aN T9),(115,aN JrH),(153,aN JrP),(117,aN T7),(92,aN JAl),(44,aN JnM),(9,aN Ur),(111,aN Z5)]
noncomputable def tm:List (FuncId×AFn):=[(60,aN Ya),(198,aN JD9),(149,aN JDz),(163,aN JrQ),(158,aN Zd),(225,aN JnD),(195,aN R9),(157,aN Tl),(123,aN Uq),(201,aN JjG),(199,aN JiR),(200,aN JkR),(165,aN Wy),(68,aN Z4),(134,aN JrN),(107,aN Ug),(164,aN Xt),(135,aN Zg),(88,aN Uo),(136,aN JnF),(91,aN Zk),(79,aN Yn),(33,aN Ts),(106,aN JrF)]
noncomputable def ud:List (FuncId×AFn):=[(56,aN Vo),(36,aN Rt),(21,aN Jqm),(25,aN pk),(24,aN Ta),(31,aN JDQ),(70,aN JAE),(69,aN Ud),(148,aN JDZ),(108,aN U6),(150,aN R3),(110,aN Yr),(109,aN JBy),(58,aN Zj),(90,aN Ry),(42,aN JBL),(57,aN Sw),(16,aN JAh),(19,aN JBM),(12,aN Yu),(133,aN Jny),(14,aN Jpx),(215,aN JkY),(169,aN JnQ)]
noncomputable def tn:List (FuncId×AFn):=[(139,aN Ji5),(205,aN Yx),(167,aN JD8),(204,aN JDg),(202,aN JEb),(203,aN JDI),(166,aN JDM),(137,aN JEm),(46,aN Ua),(47,aN Rj),(214,aN Ze),(317,aN V6),(272,aN Uu),(273,aN Rv),(242,aN Ue),(260,aN S5),(328,aN JoM),(343,aN S6),(344,aN JAg),(345,aN JAv),(302,aN So),(331,aN Vt),(330,aN JqW),(280,aN T0)]
noncomputable def tp:List (FuncId×AFn):=[(248,aN Tc),(346,aN JEa),(303,aN Vg),(304,aN Jlc),(259,aN T4),(236,aN Sq),(228,aN Sr),(206,aN V0),(293,aN X0),(294,aN JEp),(339,aN JDe),(296,aN JBK),(292,aN Q6),(336,aN Y0),(337,aN JDT),(338,aN Yw),(295,aN Ra),(249,aN Rs),(231,aN JA9),(246,aN JDk),(263,aN JCs),(255,aN JDu),(291,aN Xo),(335,aN Jqh)]
noncomputable def tf:List (FuncId×AFn):=[(290,aN Xr),(289,aN V4),(254,aN Zb),(288,aN V3),(253,aN JIh),(233,aN R1),(210,aN Jlv),(247,aN V9),(230,aN T6),(281,aN Vs),(282,aN Tg),(250,aN Yb),(284,aN JBa),(333,aN JrJ),(285,aN T1),(366,aN Wb),(332,aN U4),(283,aN Y7),(286,aN Rk),(251,aN R7),(334,aN JEh),(287,aN To),(252,aN Zv),(232,aN Sd)]
noncomputable def sk:List (FuncId×AFn):=[(209,aN Sv),(311,aN JCJ),(353,aN JCZ),(354,aN JAr),(310,aN Zp),(269,aN JrD),(268,aN Jql),(270,aN JBV),(313,aN R6),(312,aN Jqs),(316,aN JCK),(355,aN Xd),(314,aN JDi),(356,aN JHT),(315,aN Zs),(271,aN JCy),(239,aN JA3),(267,aN Yf),(238,aN JCr),(306,aN JEo),(262,aN JBB),(370,aN Ub),(349,aN Yl),(350,aN JDC)]
noncomputable def s7:List (FuncId×AFn):=[(307,aN JoX),(264,aN Sf),(309,aN JDw),(266,aN Yg),(352,aN Tx),(374,aN T8),(371,aN JAo),(351,aN Tn),(308,aN JCl),(265,aN Ro),(348,aN Rx),(347,aN Xv),(305,aN JAD),(261,aN JCj),(237,aN Vr),(213,aN JBu),(211,aN Yz),(277,aN JpQ),(329,aN JAw),(278,aN JDK),(244,aN Jq2),(361,aN Wa),(324,aN Jqi),(363,aN Z0)]
noncomputable def tj:List (FuncId×AFn):=[(364,aN n9),(326,aN Vn),(360,aN Xi),(322,aN JA1),(321,aN R0),(365,aN U9),(327,aN JDf),(362,aN JEr),(325,aN X3),(319,aN Zh),(358,aN W1),(359,aN JrE),(320,aN Us),(323,aN JD1),(357,aN X2),(318,aN JqK),(274,aN JGS),(275,aN JrL),(276,aN Jpf),(243,aN JIr),(279,aN JAn),(245,aN JCA),(229,aN JGP),(208,aN Jkd)]
noncomputable def sg:List (FuncId×AFn):=[(256,aN JBO),(298,aN S7),(297,aN JAQ),(257,aN V1),(234,aN Ve),(299,aN Rr),(373,aN Rc),(369,aN Rp),(342,aN Ss),(376,aN Y4),(377,aN Jik),(378,aN Jl1),(375,aN Yp),(372,aN Wk),(367,aN Wi),(340,aN V7),(368,aN Ti),(341,aN JCR),(300,aN JqP),(301,aN Vz),(258,aN Rw),(235,aN JBX),(212,aN JhR),(207,aN Jip)]
noncomputable def uy:List (FuncId×AFn):=[(168,aN Ji8),(138,aN JE0),(95,aN Jk4),(45,aN JkQ),(11,aN JH8),(32,aN Jpr),(105,aN Ji1),(55,aN Jf8),(54,aN JkU),(50,aN JjZ),(83,aN JlV),(129,aN JkV),(114,aN J9k),(127,aN J90),(85,aN Joo),(66,aN Jqa),(77,aN JnP),(170,aN JDD),(178,aN Jms),(146,aN JDv),(140,aN Jr3),(173,aN Jiu),(175,aN Jl3),(174,aN JkZ)]
noncomputable def ve:List (FuncId×AFn):=[(142,aN Ww),(172,aN JlK),(216,aN JbX),(171,aN Jl4),(141,aN Jqt),(98,aN Vj),(71,aN JnA),(161,aN J7E),(227,aN J8m),(197,aN J9L),(162,aN we),(126,aN J9N),(82,aN J5q),(35,aN Z1),(97,aN JjW),(143,aN JaZ),(99,aN JEu),(96,aN J9R),(49,aN JnS),(102,aN JDy),(101,aN Tw),(147,aN JDd),(103,aN Yy),(52,aN J9M)]
noncomputable def ur:List (FuncId×AFn):=[(15,aN Jps),(18,aN JoY),(20,aN Jl5),(4,aN JhT)]
noncomputable def fns:List (FuncId×AFn):=tr++(tm++(ud++(tn++(tp++(tf++(sk++(s7++(tj++(sg++(uy++(ve++(ur))))))))))))
noncomputable def fks:List (FuncId×kR):=[(128,GA J4 128),(53,GA eK 32)]
noncomputable def fps:List (FuncId×Prm):=[(145,JGJ)]
abbrev PS:=FuncId->Option (List AV->List Blk->Option Res)
noncomputable def uA(p:PS):dY:=λf=>H9 (DX f fns) (DX f fks) (DX f fps) (p f)
def AE(l:List TE):Prop:= ∀p,uB (AF (uA p)) l
theorem ae0:AE []:=λ_=>qQG
theorem dJ{i g S l f}(hf: ∀p,uA p i=some (.fn (aN f)))(A:AE l)(q: ∀x,onO (iP g x) (λy=>nB (TG.of l) f y.1 y.2 (iT g))=S x)(hs:FU g=true:=by rfl):AE (aG i g S::l):=λp=>⟨tu (hf p) (A p) hs q,A p⟩
end Go.Am
end
