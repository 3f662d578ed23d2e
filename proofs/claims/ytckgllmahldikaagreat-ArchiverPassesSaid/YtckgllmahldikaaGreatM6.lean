/-
  Parts of a proof.
-/
import Derived.Test.YtckgllmahldikaaGreatM3
import Derived.Test.YtckgllmahldikaaGreatM4
import Derived.Test.YtckgllmahldikaaGreatM5
set_option linter.unusedSimpArgs false
set_option linter.unusedVariables false
set_option linter.unusedSectionVars false
set_option maxRecDepth 20000
set_option maxHeartbeats 1000000
open Option renaming some → Z,none → Y
open Bool renaming true → O,false → J
open Go.IntKind renaming i64 → I
open Int renaming toNat → _J,eq_ofNat_of_zero_le → _W,toNat_natCast → _X
open List renaming length → _K,mem_cons_self → _L,pairwise_append → _M,pairwise_iff_getElem → _N,pairwise_cons → _O,pairwise_singleton → _R,dropLast_concat_getLast → _S,take_add_one → _U,filterMap_cons → _V,length_eq_zero_iff → _Y,mem_append_right → _Z,length_filter_le → a!,filterMap_append → b!,mem_append_left → c!,take_of_length_le → e!,not_mem_nil → g!,filter_append → i!
open Option renaming bind_some → _Q
open Nat renaming xor_lt_two_pow → j!
section
namespace Go.Am
theorem _s.go{ρ:Type}{o:Option ρ}{y:ρ}(h:o=Option.some y){Q:ρ->Prop}(k:_s o Q):Q y:=k y h
theorem _n.go{ρ:Type}{o:Option ρ}{y:ρ}(k:_n o λz=>z=y):o=Option.some y:=by obtain⟨r,e,rfl⟩:=k;exact e
section
variable {B S:Int}
def EF(e:aA):Prop:=1<=e.1/\e.1<=1099511627776/\1<=e.2.2.1/\e.2.2.1<=1073741824/\0<=e.2.2.2.1/\e.2.2.2.1<e.1/\0<=e.2.2.2.2.1/\e.2.2.2.2.1<e.1/\0<=e.2.2.2.2.2.1/\e.2.2.2.2.2.1<e.1/\e.2.2.2.2.2.2.2=[]/\iJ e.2.2.2.2.2.2.1=Z O/\((e.2.1=1/\e.2.2.2.2.2.1=0)\/(e.2.1=2/\0<e.2.2.2.1/\1<=e.2.2.2.2.2.1/\e.2.2.2.2.2.1<=e.2.2.2.1))
theorem XK{x:Jn}(e:lH x=Z O):0<=x.1/\x.1<x.2:=by
 have g:_s (lH x) λy=>y=O->0<=x.1/\x.1<x.2:=.h (λc=>.s λd=>⟨c,JI.1 d⟩) λ_=>.s nofun
 exact g _ e rfl
theorem EF.of{e:aA}(h:Jo e=Z O)(hk:e.2.1=1\/e.2.1=2):EF e:=by
 have x:_s (oJ e) λy=>y.2=O->y.1=e->1<=e.2.2.1/\e.2.2.1<=1073741824/\e.2.2.2.2.2.2.2=[]/\iJ e.2.2.2.2.2.2.1=Z O/\((e.2.1=1/\e.2.2.2.2.2.1=0)\/(e.2.1=2/\0<e.2.2.2.1/\1<=e.2.2.2.2.2.1/\e.2.2.2.2.2.1<=e.2.2.2.1)):=by
  unfold oJ;refine .e (λk=>.b λH h2=>.e (λg=>by omega) λ_=>.i (λj=>.h (λo=>.s λn L=>?_) λ_=>.s nofun) λ_=>.s nofun) λk=>.e (λg=>.b λH h2=>.e (λ_=>.i (λj=>.g (λR=>.h (λS=>.G (λQ=>.h (λo=>.s λn L=>?_) λ_=>.s nofun) λ_=>.s nofun) λ_=>.s nofun) λ_=>.s nofun) λ_=>.s nofun) λc=>absurd g c) λg=>by omega
  grind [dV];grind [dV]
 have q:_s (Jo e) λy=>y=O->EF e:=by unfold Jo;refine .b λa M=>.i (λk=>.i (λg=>.h (λo=>.G (λn=>.b λb1 v=>.i (λF=>.b λb2 r=>.i (λj=>.b λP w=>.s λC=>?_) λ_=>.s nofun) λ_=>.s nofun) λ_=>.s nofun) λ_=>.s nofun) λ_=>.s nofun) λ_=>.s nofun;subst F;subst j;subst C;obtain⟨N,_c,_e,K,_d⟩:=x _ M k (eB.1 g);obtain⟨G,D⟩:=XK v;obtain⟨z,B⟩:=XK r;obtain⟨A,E⟩:=XK w;exact⟨o,n,N,_c,G,D,z,B,A,E,_e,K,_d⟩
 exact q _ h rfl
theorem Bq{c:gP}(h:JK c=Z O):_n (JK c) λy=>y=O:=by have e:JK c=JK c:=rfl;exact⟨O,e.trans h,rfl⟩
theorem Ee{c:aR}(h:iJ c=Z O):_n (xF c) λy=>y=O:=by
 have j:_s (iJ c) λy=>y=O->0<=c.1/\c.1<64/\0<=c.2.1/\c.2.1<16/\JK c.2.2.1=Z O/\JK c.2.2.2=Z O:=by unfold iJ;refine .h (λe=>.l (λg=>.h (λn=>.l (λk=>.b λa C=>.i (λz=>.b λb hb=>.s λv=>?_) λ_=>.s nofun) λ_=>.s nofun) λ_=>.s nofun) λ_=>.s nofun) λ_=>.s nofun;simp_all
 obtain⟨e,g,n,k,o,r⟩:=j _ h rfl;unfold xF;have hp:_n (FH c.1) λy=>y=O:=.h (λ_=>.s (JI.2 g)) λc=>absurd e c
 refine .b hp λB d=>.i (λ_=>.h (λ_=>.l (λ_=>.b (Bq o) λx w=>.i (λ_=>.b (Bq r) λA q=>.s q) λc=>by simp_all) λc=>absurd k c) λc=>absurd n c) λc=>by simp_all
theorem JEZ{e:aA}(h:EF e):_n (lK e) λy=>y=O:=by
 obtain⟨M,N,K,L,B,A,v,r,C,k,g,q,E⟩:=h;have j: ∀{n:Int},0<=n->n<e.1->_n (sJ (n,e)) λy=>y=O:=fun{n} h1 h2=>by unfold sJ;exact .h (λ_=>.s (JI.2 h2)) λc=>absurd h1 c
 have _e: ∀{b:Bool} {Q:Prop},b=O->Jj b=O->Q:=fun{b Q} h1 h2=>by subst h1;cases h2
 have hb:neS e.2.2.2.2.2.2.2 []=J:=by rw[g];rfl
 have hl:J0 e.2.2.2.2.2.2.2<=8192:=by rw[g];decide
 unfold lK;refine .j (λ_=>.k (λ_=>.j (λ_=>.k (λ_=>.b (j B A) λ_d F=>.r (λ_=>.b (j v r) λH G=>.r (λ_=>.b (j C k) λz o=>.n (λc=>by simp_all) λ_=>?_) λc=>by simp_all) λc=>by simp_all) λc=>by omega) λc=>by omega) λc=>by omega) λc=>by omega
 refine .e (λc=>by omega) λ_=>.e (λc=>by omega) λ_=>.e (λc=>by omega) λ_=>.e (λc=>by omega) λ_=>.e (λc=>by omega) λ_=>.e (λc=>by omega) λ_=>.e (λx=>?_) λx=>.e (λw=>?_) λw=>by omega
 refine .j (λ_=>.g (λc=>by omega) λ_=>.e (λc=>by omega) λ_=>.i (λc=>by simp_all) λ_=>.G (λ_=>?_) λc=>absurd hl c) λc=>by omega
 have D:_n (nJ e) λy=>y=O:=.h (λ_=>.s (dV.2 oo)) λc=>by omega
 exact .b D λy d=>.i (λ_=>.b (Ee q) λz o=>.s o) λc=>by simp_all
 refine .j (λ_=>.g (λc=>by omega) λ_=>.d (λc=>by omega) λ_=>.i (λc=>by simp_all) λ_=>.G (λ_=>?_) λc=>absurd hl c) λc=>by omega
 grind [jP,Ee]
def aV(e:aA):Int:=e.2.2.2.2.2.2.1.1
def rL(r:aF):Prop:=1<=r.1/\r.1<=r.2.1/\r.2.1<=1099511627776/\0<=r.2.2.1/\r.2.2.1<=r.2.2.2.1/\r.2.2.2.1<64/\0<=r.2.2.2.2.1/\r.2.2.2.2.1<=8
def NO(r:aF)(e:aA):Prop:=Jo e=Z O/\(e.2.1=1\/e.2.1=2)/\r.1<=e.1/\e.1<=r.2.1/\r.2.2.1<=aV e/\aV e<=r.2.2.2.1
def mU(f:Int)(a b:aA):Prop:=(aV a<aV b/\b.2.2.2.2.1<f)\/(aV a=aV b/\a.1<b.1/\b.2.2.2.2.1=a.1)
def dD(r:aF):Prop:=rL r/\J0 r.2.2.2.2.2<=4096/\(∀(j:Nat) (e:aA),r.2.2.2.2.2[j]?=Z e->NO r e)/\(∀e,r.2.2.2.2.2[0]?=Z e->e.2.2.2.2.1<r.1)/\ ∀(j:Nat) (a b:aA),r.2.2.2.2.2[j]?=Z a->r.2.2.2.2.2[j+1]?=Z b->mU r.1 a b
theorem rL.of{r:aF}(h:mJ (r.1,r.2.1,r.2.2.1,r.2.2.2.1,r.2.2.2.2.1)=Z O):rL r:=by
 have e:_s (mJ (r.1,r.2.1,r.2.2.1,r.2.2.2.1,r.2.2.2.2.1)) λy=>y=O->rL r:=.h (λv=>.G (λg=>.G (λw=>.h (λq=>.G (λn=>.l (λo=>.h (λj=>.s λk=>⟨v,g,w,q,n,o,j,dV.1 k⟩) λ_=>.s nofun) λ_=>.s nofun) λ_=>.s nofun) λ_=>.s nofun) λ_=>.s nofun) λ_=>.s nofun) λ_=>.s nofun
 exact e _ h rfl
theorem JFd{e:aA}(h:Jh e=Z O):e.2.1=1\/e.2.1=2:=by
 grind [Jh,gM]
theorem Fa{e:aA}(h:e.2.1=1\/e.2.1=2):_n (Jh e) λy=>y=O:=.p (λc=>.s (gM.2 oo)) λ_=>.s rfl
theorem X4{e:aA}(h:e.2.1=1\/e.2.1=2):_n (Jh e) λy=>y=O:=Fa h
theorem Dk{a b:aA}{y:Int}(h:oX (a,b)=Z y)(c: ¬0<=y):aV a<aV b\/(aV a=aV b/\a.1<b.1):=by
 revert c
 apply _s.go h;unfold oX;exact .j (λ_=>.e (λg=>.l (λe=>.s λ_=>.inr ⟨g,e⟩) λ_=>.e (λ_=>.e (λ_=>.s λc=>absurd (bC 0) c) λ_=>.s λc=>absurd _k c) λ_=>.s λc=>absurd _k c) λ_=>.e (λ_=>.e (λ_=>.s λc=>absurd (bC 0) c) λ_=>.s λc=>absurd _k c) λ_=>.s λc=>absurd _k c) λc=>.s λ_=>.inl c
theorem JBm{a b:aA}(h:aV a<aV b\/(aV a=aV b/\a.1<b.1)):_n (oX (a,b)) λy=> ¬0<=y:=by unfold aV at h;unfold oX;exact .j (λc=>.e (λe=>.l (λg=>.s _k) λj=>by simp_all) λe=>by simp_all) λc=>.s _k
theorem dD.of{r:aF}(h:fI r=Z O):dD r:=by
 have F:_s (fI r) λy=>y=O->dD r:=by
  unfold fI;refine .b λa g=>.r (λN=>.g (λ_=>.s nofun) λ_c=>?_) λ_=>.s nofun;subst N;refine .z (λz=>z.2=r/\0<=z.1/\(∀(j:Nat) (e:aA),(j:Int)<z.1->r.2.2.2.2.2[j]?=Z e->NO r e)/\(∀e,0<z.1->r.2.2.2.2.2[0]?=Z e->e.2.2.2.2.1<r.1)/\ ∀(j:Nat) (a b:aA),(j:Int)+1<z.1->r.2.2.2.2.2[j]?=Z a->r.2.2.2.2.2[j+1]?=Z b->mU r.1 a b) ⟨rfl,bC _,λj e h=>by grind,λe h=>by simp_all,λj a b h=>by grind⟩ ?_;rintro⟨i,z⟩ ⟨rfl,P,h1,h2,_d⟩;dsimp only at P h1 h2 _d _c;unfold gj;dsimp only;have o1:=Jb i 1;have _a:=JX i 1;refine .l (λc=>?_) λc=>.s λ_=>⟨rL.of g,by omega,λj e n=>h1 j e (by have:=jH n;omega) n,λe n=>h2 e (by have:=jH n;omega) n,λj a b E C=>_d j a b (by have:=jH C;omega) E C⟩;refine .b λe n=>.b λb hb=>.r (λQ=>.b λd hd=>.r (λM=>.j (λc5=>.k (λc6=>.j (λW=>.g (λ_=>.s nofun) λV=>?_) λ_=>.s nofun) λ_=>.s nofun) λ_=>.s nofun) λ_=>.s nofun) λ_=>.s nofun;subst Q;subst M;obtain⟨_,T⟩:=bT n;have L:NO z e:=⟨hb,JFd hd,by omega,by omega,by grind [aV],by grind [aV]⟩;have nx:(i=0->e.2.2.2.2.1<z.1)->(∀a,0<i->z.2.2.2.2.2[(i-1).toNat]?=Z a->mU z.1 a e)->(z=z/\0<=J1 I i 1/\(∀(j:Nat) (e:aA),(j:Int)<J1 I i 1->z.2.2.2.2.2[j]?=Z e->NO z e)/\(∀e,0<J1 I i 1->z.2.2.2.2.2[0]?=Z e->e.2.2.2.2.1<z.1)/\ ∀(j:Nat) (a b:aA),(j:Int)+1<J1 I i 1->z.2.2.2.2.2[j]?=Z a->z.2.2.2.2.2[j+1]?=Z b->mU z.1 a b):=by
   intro n1 n2;refine⟨rfl,by omega,λj f R hf=>?_,λf hp hf=>?_,λj a b R g hb=>?_⟩;by_cases hl:(j:Int)<i;grind;have:j=i.toNat:=by omega
   grind;by_cases hi:0<i;grind;have H:i=0:=by omega
   subst H;grind;by_cases hl:(j:Int)+1<i;grind;have e1:j+1=i.toNat:=by omega
   have e2:j=(i-1).toNat:=by omega
   grind
  have x: ∀{a:aA},0<i->idx z.2.2.2.2.2 (Ji I i 1)=Z a->z.2.2.2.2.2[(i-1).toNat]?=Z a:=fun{a} hi g=>by obtain⟨_,q⟩:=bT g;rw[show(i-1).toNat=(Ji I i 1).toNat by omega];exact q
  have zero: ¬0<i-> ¬z.1<=e.2.2.2.2.1->(z=z/\0<=J1 I i 1/\(∀(j:Nat) (e:aA),(j:Int)<J1 I i 1->z.2.2.2.2.2[j]?=Z e->NO z e)/\(∀e,0<J1 I i 1->z.2.2.2.2.2[0]?=Z e->e.2.2.2.2.1<z.1)/\ ∀(j:Nat) (a b:aA),(j:Int)+1<J1 I i 1->z.2.2.2.2.2[j]?=Z a->z.2.2.2.2.2[j+1]?=Z b->mU z.1 a b):=λhi hf=>nx (λ_=>by omega) λa h=>absurd h hi;refine .g (λw=>.b λU B=>.b λ_b G=>.h (λ_=>.s nofun) λD=>.g (λ_=>.b λy9 k=>.e (λA=>.b λS o=>.d (λ_=>.s nofun) λv=>.s ?_) λA=>.h (λ_=>.s nofun) λv=>.s ?_) λc=>absurd w c) λw=>.g (λc=>absurd c w) λ_=>.h (λ_=>.s nofun) λv=>.s (zero w v);rw[B]at k o;injection k with k;injection o with o;subst k;subst o;refine nx (λh=>by omega) λa _ g=>?_;rw[x w B]at g;cases g;rcases Dk G D with q|⟨_e,K⟩;grind [aV];exact .inr ⟨A,K,v⟩;rw[B]at k;cases k;refine nx (λh=>by omega) λa _ g=>?_;rw[x w B]at g;cases g;rcases Dk G D with q|⟨_e,K⟩;exact .inl ⟨q,by omega⟩;exact absurd _e A
 exact F _ h rfl
end
section
variable {B S:Int}
theorem gH{α:Type}{l:List α}{i:Int}(h0:0<=i)(h1:i<J0 l): ∃a,idx l i=Z a/\l[i.toNat]?=Z a:=by simp_all [J0,idx]
theorem Ei{r:aF}(h:rL r):_n (mJ (r.1,r.2.1,r.2.2.1,r.2.2.2.1,r.2.2.2.2.1)) λy=>y=O:=by obtain⟨h1,h2,o,k,n,e,j,g⟩:=h;unfold mJ;exact .h (λ_=>.G (λ_=>.G (λ_=>.h (λ_=>.G (λ_=>.l (λ_=>.h (λ_=>.s (dV.2 g)) λc=>absurd j c) λc=>absurd e c) λc=>absurd n c) λc=>absurd k c) λc=>absurd o c) λc=>absurd h2 c) λc=>absurd h1 c
theorem Ux{r:aF}(h:rL r):_n (LY r) λy=>y=O:=by obtain⟨h1,h2,o,k,n,e,j,g⟩:=h;unfold LY;exact .h (λ_=>.G (λ_=>.G (λ_=>.h (λ_=>.G (λ_=>.l (λ_=>.h (λ_=>.s (dV.2 g)) λc=>absurd j c) λc=>absurd e c) λc=>absurd n c) λc=>absurd k c) λc=>absurd o c) λc=>absurd h2 c) λc=>absurd h1 c
theorem eE{α:Type}{o:Option α}{v:α}(h:o=Z v):_n o λy=>y=v:=⟨v,h,rfl⟩
theorem Cd{r:aF}(h:dD r){i:Int}(hi:0<i)(hl:i<J0 r.2.2.2.2.2){a b:aA}(ha:r.2.2.2.2.2[(i-1).toNat]?=Z a)(hb:r.2.2.2.2.2[i.toNat]?=Z b):mU r.1 a b:=
 h.2.2.2.2 (i-1).toNat a b ha (by rw[show(i-1).toNat+1=i.toNat by omega];exact hb)
theorem qe{r:aF}(h:dD r):fI r=Z O:=by
 apply _n.go;obtain⟨_d,g2,H,V,g5⟩:=id h;unfold fI;refine .b (Ei _d) λy2 _c=>.r (λ_=>.g (λc=>by omega) λ_=>?_) λc=>by grind
 refine Jl (τ:=Int) (λq=>(q,r)) (λq=>0<=q/\q<=J0 r.2.2.2.2.2) (λq=>J0 r.2.2.2.2.2-q) ?_ 0 rfl ⟨bC _,J7⟩;rintro i ⟨_e,h1⟩;unfold gj;dsimp only;have U:=Jb i 1;have S:=JX i 1;refine .l (λc=>?_) λc=>.s rfl;obtain⟨e,L,j⟩:=gH _e c;obtain⟨C,z,N,P,x,A⟩:=H _ e j;have nx: ∃c':Int,((J1 I i 1,r):Int×aF)=(c',r)/\(0<=c'/\c'<=J0 r.2.2.2.2.2)/\J0 r.2.2.2.2.2-c'<J0 r.2.2.2.2.2-i/\0<=J0 r.2.2.2.2.2-i:=⟨J1 I i 1,rfl,⟨by omega,by omega⟩,by omega,by omega⟩;unfold aV at x A;refine .b (eE L) λE G=>?_;subst G;refine .b (eE C) λT _b=>.r (λ_=>.b (Fa z) λW R=>.r (λ_=>.j (λ_=>.k (λ_=>.j (λ_=>.g (λc=>by omega) λ_=>?_) λc=>by omega) λc=>by omega) λc=>by omega) λc=>by grind) λc=>by grind
 refine .g (λg=>?_) λg=>.g (λc=>absurd c g) λ_=>.h (λc=>?_) λ_=>.s nx
 ·have K:Ji I i 1=i-1:=by omega
  rw[K];obtain⟨a,k,o⟩:=gH (l:=r.2.2.2.2.2) (i:=i-1) oo oo;have v:=Cd h g c o j;refine .b (eE k) λy B=>?_;subst B;refine .b (JBm (a:=y) (b:=E) (by rcases v with⟨q,_⟩|⟨q1,q2,_⟩;all_goals grind)) λQ F=>.h (λc=>absurd c F) λ_=>.g (λ_=>.b (eE k) λ_a D=>?_) λc=>absurd g c;subst D;unfold mU aV at v;refine .e (λn=>.b (eE k) λM w=>?_) λn=>.h (λc=>by omega) λ_=>.s nx;subst w;exact .d (λc=>by omega) λ_=>.s nx
 grind
theorem JAv{a b:aA}(h:aV a=aV b/\a.1<b.1):_n (LK (a,b)) λy=> ¬0<=y:=by
 obtain⟨h1,h2⟩:=h;unfold aV at h1;have g:oU (a.2.2.2.2.2.2.1.1,b.2.2.2.2.2.2.1.1)=Z 0:=(by grind [oU,sG,aN,aS]);have e:oU (a.1,b.1)=Z (-1):=(by grind [oU,sG,aQ,aN]);unfold LK;dsimp only;rw[g,e];show _n ((tX [0, -1]).bind _) _;have j:tX [0, -1]=Z (-1):=by unfold tX;rw[eX (s':=(0,[0, -1],J0 ([0, -1]:_E),1)) (by rfl)];exact dY (by rfl)
 rw[j];exact .s _k
theorem Hu{r:aF}(h:dD r):lI r=Z O:=by
 apply _n.go;obtain⟨M,g2,_d,W,g5⟩:=id h;unfold lI;refine .b (Ux M) λy2 R=>.r (λ_=>.g (λc=>by omega) λ_=>?_) λc=>by grind
 refine Jl (τ:=Int) (λq=>(r.2.2.2.2.2,J0 r.2.2.2.2.2,q,r)) (λq=>0<=q/\q<=J0 r.2.2.2.2.2) (λq=>J0 r.2.2.2.2.2-q) ?_ 0 rfl ⟨bC _,J7⟩;rintro i ⟨K,h1⟩;unfold sa;dsimp only;have V:=Jb i 1;have T:=JX i 1;refine .l (λc=>?_) λc=>.s rfl;obtain⟨e,_c,g⟩:=gH K c;obtain⟨C,n,x,z,k,o⟩:=_d _ e g;have nx: ∃c':Int,((r.2.2.2.2.2,J0 r.2.2.2.2.2,J1 I i 1,r):eh)=(r.2.2.2.2.2,J0 r.2.2.2.2.2,c',r)/\(0<=c'/\c'<=J0 r.2.2.2.2.2)/\J0 r.2.2.2.2.2-c'<J0 r.2.2.2.2.2-i/\0<=J0 r.2.2.2.2.2-i:=⟨J1 I i 1,rfl,⟨by omega,by omega⟩,by omega,by omega⟩;unfold aV at k o;have L:_n (LQ (r,e)) λy=>y=O:=.b (X4 n) λy d=>.i (λ_=>.h (λ_=>.G (λ_=>.h (λ_=>.s (dV.2 z)) λc=>absurd x c) λc=>absurd o c) λc=>absurd k c) λc=>by grind
 refine .b (eE _c) λF _e=>?_;subst _e;refine .b (JEZ (EF.of C n)) λU _a=>.r (λ_=>.b L λ_b S=>.n (λc=>by grind) λ_=>?_) λc=>by grind
 refine .p (λD=>?_) λD=>.h (λc=>?_) λ_=>.s nx;have hi:0<i:=by omega
 have N:Ji I i 1=i-1:=by omega
 rw[N];obtain⟨a,w,v⟩:=gH (l:=r.2.2.2.2.2) (i:=i-1) oo oo;have j:=Cd h hi c v g;refine .b (eE w) λQ A=>?_;subst A;refine .l (λH=>.h (λc=>?_) λ_=>.s nx) λH=>.b (eE w) λB G=>?_;unfold mU aV at j;omega;subst G;have P:=j;unfold mU aV at j;refine .b (JAv (a:=B) (b:=F) (by unfold aV;omega)) λy9 E=>.o (λ_=>.d (λc=>by omega) λ_=>.s nx) λc=>absurd c E;grind
end
section
variable {B S:Int}
def ent(r:aF):List aA:=r.2.2.2.2.2
theorem JJM{α:Type}{l:List α}{k j:Nat}{e:α}(h:(l.take k)[j]?=Z e):j<k/\l[j]?=Z e:=by
 grind
theorem gK{α:Type}{bytes:Nat}{l m:List α}(h:J0 l+J0 m<=34359738368)(hb:bytes<=2048):Ju bytes l m=Z (l++m):=by
 grind [Ju,WM,J0]
end
section
variable {B S:Int}
theorem JLx{l:_E}{y:Jd}(e:AB (l,400)=Z y):y.2=0/\J0 y.1<=400:=by apply _s.go e;unfold AB;dsimp only;refine .g (λc=>.b λa g=>.s ⟨rfl,?_⟩) λc=>.s ⟨rfl,by simp_all⟩;obtain⟨r,h,_,h2⟩:=yC (l:=l) (k:=400) _k oo;simp_all
end
section
variable {B S:Int}
theorem pc(x:Int×aA):_n (sJ x) λy=>y=O->0<=x.1/\x.1<x.2.1:=.h (λc=>.s λd=>⟨c,JI.1 d⟩) λ_=>.s nofun
theorem Rn(c:gP):_n (JK c) λy=>JK c=Z y:=by
 have g:_n (JK c) λ_=>True:=.i (λ_=>.t (λ_=>.s _g) λ_=>.s _g) λ_=>.s _g
 obtain⟨y,e,_⟩:=g;exact⟨y,e,e⟩
theorem JIS(n:Int):_n (FH n) λy=>y=O->0<=n/\n<64:=.h (λc=>.s λd=>⟨c,JI.1 d⟩) λ_=>.s nofun
theorem Cc(c:aR):_n (xF c) λy=>y=O->iJ c=Z O:=by
 unfold xF;refine .b (JIS c.1) λk h2=>.i (λe=>.h (λr=>.l (λn=>.b (Rn c.2.2.1) λj v=>.i (λh=>.b (Rn c.2.2.2) λo q=>.s λg=>?_) λ_=>.s nofun) λ_=>.s nofun) λ_=>.s nofun) λ_=>.s nofun;grind [iJ,kD,JI]
theorem JMe(c:aR):_n (AS c) λ_=>True:=⟨_,rfl,_g⟩
theorem M5(e:aA):_n (jP e) λ_=>True:=⟨_,rfl,_g⟩
theorem JQJ(e:aA):_n (nJ e) λy=>y=O->1<=e.2.2.2.2.2.1/\e.2.2.2.2.2.1<=e.2.2.2.1:=.h (λc=>.s λd=>⟨c,dV.1 d⟩) λ_=>.s nofun
theorem JQg(c:aR):_n (FP c) λ_=>True:=.i (λ_=>.i (λ_=>.s _g) λ_=>.s _g) λ_=>.s _g
theorem Rk{l:_j}(h:neS l []=J):l=[]:=by
 grind [neS]
theorem JN5(e:aA):_n (lK e) λy=>y=O->(e.2.1=1\/e.2.1=2)->EF e:=by
 have g: ∀{o:Option Bool},(3<=e.2.1\/e.2.1<=0)->_n o (λ_=>True)->_n o λy=>y=O->(e.2.1=1\/e.2.1=2)->EF e:=λh ht=>ht.mono λ_ _ _ hk=>by omega
 unfold lK;refine .j (λ_c=>.k (λP=>.j (λM=>.k (λN=>.b (pc _) λL h2=>.r (λA=>.b (pc _) λ_d H=>.r (λB=>.b (pc _) λK E=>.n (λ_=>.s nofun) λD=>?_) λ_=>.s nofun) λ_=>.s nofun) λ_=>.s nofun) λ_=>.s nofun) λ_=>.s nofun) λ_=>.s nofun;have b2:=h2 A;have j:=H B;have k:=E D;refine .e (λc=>g oo ?_) λ_=>.e (λc=>g oo ?_) λ_=>.e (λc=>g oo ?_) λ_=>.e (λc=>g oo ?_) λ_=>.e (λc=>g oo ?_) λ_=>.e (λc=>g oo ?_) λ_=>.e (λx=>?_) λx=>.e (λw=>?_) λw=>by omega
 case refine_7=>refine .j (λG=>.g (λ_=>.s nofun) λC=>.e (λ_=>.s nofun) λv=>.i (λ_=>.s nofun) λn=>.G (λ_=>.b (JQJ e) λy h=>.i (λd=>.b (Cc _) λz r=>.s λq _=>?_) λ_=>.s nofun) λ_=>.s nofun) λ_=>.s nofun;obtain⟨F,_e⟩:=h d;exact⟨by omega,by omega,by omega,by omega,b2.1,b2.2,j.1,j.2,k.1,k.2,Rk n,r q,.inr ⟨x,by have:=b2.1;dsimp only at this;omega,F,_e⟩⟩
 case refine_8=>refine .j (λG=>.g (λ_=>.s nofun) λC=>.d (λ_=>.s nofun) λv=>.i (λ_=>.s nofun) λn=>.G (λ_=>.b (M5 e) λy h=>.i (λd=>.b (Cc _) λz r=>.s λq _=>?_) λ_=>.s nofun) λ_=>.s nofun) λ_=>.s nofun;exact⟨by omega,by omega,by omega,by omega,b2.1,b2.2,j.1,j.2,k.1,k.2,Rk n,r q,.inl ⟨w,v⟩⟩
 all_goals repeat' first
  |exact .s _g
  |refine .i (λ_=>?_) λ_=>?_
  |refine .t (λ_=>?_) λ_=>?_
  |refine .b (M5 _) λ_ _=>?_
  |refine .b (JMe _) λ_ _=>?_
  |refine .b (JQg _) λ_ _=>?_
end
section
variable {B S:Int}
def gV(x y:Int):Int:=if x<y then -1 else if y<x then 1 else 0
def jC(a b:aA):Int:=if gV (aV a) (aV b)=0 then gV a.1 b.1 else gV (aV a) (aV b)
theorem JJ5(x:Int):aQ x x=J:=by simp[aQ]
theorem NS(x y:Int):oU (x,y)=Z (gV x y):=by
 grind [oU,sG,gV,JJ5,aN,aS]
theorem JQF(p q:Int):tX [p,q]=Z (if p=0 then q else p):=by
 unfold tX;have g: ∀p q:Int,BD (0,[p,q],J0 [p,q],0)=if aQ p 0=O then Z (.inr p)else Z (.inl (0,[p,q],J0 [p,q],1)):=λp q=>rfl
 have e: ∀p q:Int,BD (0,[p,q],J0 [p,q],1)=if aQ q 0=O then Z (.inr q)else Z (.inl (0,[p,q],J0 [p,q],2)):=λp q=>rfl
 have j: ∀p q:Int,BD (0,[p,q],J0 [p,q],2)=Z (.inr 0):=λp q=>rfl;by_cases hp:p=0;subst hp;rw[if_pos rfl,eX ((g 0 q).trans (if_neg _k))];by_cases h:q=0;subst h;rw[eX ((e 0 0).trans (if_neg _k))];grind [dY];grind [dY,fB];grind [dY,fB]
theorem JMK(a b:aA):LK (a,b)=Z (jC a b):=by
 grind [LK,jC,aV,NS,JQF]
theorem Pg(a b:aA):oX (a,b)=Z (jC a b):=by
 apply _n.go;unfold oX jC gV aV;dsimp only;refine .j (λc=>.e (λe=>.l (λg=>.s ?_) λg=>.e (λ_=>.e (λh=>.s ?_) λh=>.s ?_) λc=>absurd e c) λe=>.e (λc=>absurd c e) λ_=>.s ?_) λc=>.s ?_
 all_goals grind
def ltE(a b:aA):Prop:=aV a<aV b\/(aV a=aV b/\a.1<b.1)
theorem EH{a b:aA}:jC a b<0↔ltE a b:=by
 grind [jC,gV,ltE]
theorem XG{a b:aA}:jC a b=0↔aV a=aV b/\a.1=b.1:=by
 grind [jC,gV]
theorem JPM(r:aF):_n (LY r) λy=>y=O->rL r:=.h (λo=>.G (λe=>.G (λq=>.h (λn=>.G (λj=>.l (λk=>.h (λg=>.s λh=>⟨o,e,q,n,j,k,g,dV.1 h⟩) λ_=>.s nofun) λ_=>.s nofun) λ_=>.s nofun) λ_=>.s nofun) λ_=>.s nofun) λ_=>.s nofun) λ_=>.s nofun
theorem JOB(e:aA):_n (Jh e) λy=>y=O->e.2.1=1\/e.2.1=2:=.p (λ_=>.s λd=>.inr (gM.1 d)) λc=>.s λ_=>.inl c
theorem JPm(r:aF)(e:aA):_n (LQ (r,e)) λy=>y=O->(e.2.1=1\/e.2.1=2)/\r.1<=e.1/\e.1<=r.2.1/\r.2.2.1<=aV e/\aV e<=r.2.2.2.1:=.b (JOB e) λy h=>.i (λd=>.h (λk=>.G (λg=>.h (λn=>.s λj=>⟨h d,n,dV.1 j,k,g⟩) λ_=>.s nofun) λ_=>.s nofun) λ_=>.s nofun) λ_=>.s nofun
theorem JKO{t:Ty}(x:t.D):eqT t x x=O:=eB.2 rfl
theorem JIn{e:aA}(h:EF e)(hk:e.2.1=1\/e.2.1=2):Jo e=Z O:=by
 obtain⟨H,_e,w,Q,E,A,z,x,F,o,K,g,v⟩:=h;have j: ∀{n:Int},0<=n->n<e.1->lH (n,e.1)=Z O:=fun{n} h1 h2=>by
  grind [lH,kD,JI]
 have sh:_n (oJ e) λy=>y=(e,O):=(by unfold oJ;rcases v with⟨k,q⟩|⟨k,C,_d,D⟩;refine .e (λ_=>.b (eE g) λy d=>.e (λc=>by omega) λ_=>.i (λ_=>.h (λ_=>.s ?_) λc=>absurd w c) λc=>by simp_all) λc=>absurd k c;grind [dV];refine .e (λc=>by omega) λ_=>.e (λ_=>.b (eE g) λy d=>.e (λ_=>.i (λ_=>.g (λ_=>.h (λ_=>.G (λ_=>.h (λ_=>.s ?_) λc=>absurd w c) λc=>absurd D c) λc=>absurd _d c) λc=>absurd C c) λc=>by simp_all) λc=>absurd k c) λc=>absurd k c;grind [dV]);have r:_n (Jo e) λy=>y=O:=by unfold Jo;refine .b sh λy d=>?_;subst d;exact .i (λ_=>.i (λ_=>.h (λ_=>.G (λ_=>.b (eE (j E A)) λP L=>.i (λ_=>.b (eE (j z x)) λN M=>.i (λ_=>.b (eE (j F o)) λ_c B=>.s B) λc=>by simp_all) λc=>by simp_all) λc=>absurd _e c) λc=>absurd H c) λc=>by grind [JKO]) λc=>by cases c
 obtain⟨y,G,d⟩:=r;rw[G,d]
theorem JQ0(r:aF):_n (lI r) λy=>y=O->dD r:=by
 unfold lI;refine .b (JPM r) λ_a z=>.r (λK=>.g (λ_=>.s nofun) λc2=>?_) λ_=>.s nofun;have z:=z K;have _d:=J7 (l:=r.2.2.2.2.2);refine Jl (τ:=Int) (λq=>(r.2.2.2.2.2,J0 r.2.2.2.2.2,q,r)) (λi=>0<=i/\i<=J0 r.2.2.2.2.2/\(∀(j:Nat) (e:aA),(j:Int)<i->r.2.2.2.2.2[j]?=Z e->EF e/\(e.2.1=1\/e.2.1=2)/\r.1<=e.1/\e.1<=r.2.1/\r.2.2.1<=aV e/\aV e<=r.2.2.2.1)/\(∀e,0<i->r.2.2.2.2.2[0]?=Z e->e.2.2.2.2.1<r.1)/\ ∀(j:Nat) (a b:aA),(j:Int)+1<i->r.2.2.2.2.2[j]?=Z a->r.2.2.2.2.2[j+1]?=Z b->mU r.1 a b) (λq=>J0 r.2.2.2.2.2-q) ?_ 0 rfl ⟨bC _,_d,λj e h=>by omega,λe h=>by omega,λj a b h=>by omega⟩;rintro i ⟨Q,hn,h1,h2,T⟩;unfold sa;dsimp only;have o1:=Jb i 1;have o2:=JX i 1;refine .l (λc=>?_) λc=>.s λ_=>⟨z,by omega,λj e k=>?_,λe k=>h2 e (by have:=jH k;omega) k,λj a b D o=>T j a b (by have:=jH o;omega) D o⟩;obtain⟨e,k,V⟩:=gH Q c;refine .b (eE k) λg _c=>?_;subst _c;refine .b (JN5 g) λy5 R=>.r (λS=>.b (JPm r g) λy6 N=>.n (λ_=>.s nofun) λL=>?_) λ_=>.s nofun;have hk:=N L;have H:EF g/\(g.2.1=1\/g.2.1=2)/\r.1<=g.1/\g.1<=r.2.1/\r.2.2.1<=aV g/\aV g<=r.2.2.2.1:=⟨R S hk.1,hk⟩;have nx:(i=0->g.2.2.2.2.1<r.1)->(∀a,0<i->r.2.2.2.2.2[(i-1).toNat]?=Z a->mU r.1 a g)-> ∃c':Int,((r.2.2.2.2.2,J0 r.2.2.2.2.2,J1 I i 1,r):eh)=(r.2.2.2.2.2,J0 r.2.2.2.2.2,c',r)/\(0<=c'/\c'<=J0 r.2.2.2.2.2/\(∀(j:Nat) (e:aA),(j:Int)<c'->r.2.2.2.2.2[j]?=Z e->EF e/\(e.2.1=1\/e.2.1=2)/\r.1<=e.1/\e.1<=r.2.1/\r.2.2.1<=aV e/\aV e<=r.2.2.2.1)/\(∀e,0<c'->r.2.2.2.2.2[0]?=Z e->e.2.2.2.2.1<r.1)/\ ∀(j:Nat) (a b:aA),(j:Int)+1<c'->r.2.2.2.2.2[j]?=Z a->r.2.2.2.2.2[j+1]?=Z b->mU r.1 a b)/\J0 r.2.2.2.2.2-c'<J0 r.2.2.2.2.2-i/\0<=J0 r.2.2.2.2.2-i:=by
  intro n1 n2;refine⟨J1 I i 1,rfl,⟨by omega,by omega,λj f U hf=>?_,λf hp hf=>?_,λj a b U A hb=>?_⟩,by omega,by omega⟩;by_cases hl:(j:Int)<i;grind;have:j=i.toNat:=by omega
  grind;by_cases hi:0<i;grind;have F:i=0:=by omega
  subst F;grind;by_cases hl:(j:Int)+1<i;grind;have G:j+1=i.toNat:=by omega
  have e2:j=(i-1).toNat:=by omega
  grind
 refine .p (λv=>?_) λv=>.h (λ_=>.s nofun) λc5=>.s (nx (λ_=>by omega) λa h=>by omega);have G:Ji I i 1=i-1:=by omega
 rw[G];obtain⟨a,A,W⟩:=gH (l:=r.2.2.2.2.2) (i:=i-1) oo oo;have B:mU r.1 a g->(∀b,0<i->r.2.2.2.2.2[(i-1).toNat]?=Z b->mU r.1 b g):=λh b _ hb=>by
  grind
 refine .b (eE A) λ_b _e=>?_;subst _e;refine .l (λw=>.h (λ_=>.s nofun) λc6=>.s (nx (λh=>absurd h v) (B (.inl ⟨w,by omega⟩)))) λw=>.b (eE A) λC M=>?_;subst M;refine .b (eE (JMK C g)) λy9 P=>.o (λc9=>.d (λ_=>.s nofun) λE=>.s (nx (λh=>absurd h v) (B ?_))) λ_=>.s nofun;subst P;rcases(EH (a:=C) (b:=g)).1 oo with q|⟨x,n⟩;exact absurd q w;exact .inr ⟨x,n,E⟩;obtain⟨x,n⟩:=h1 j e (by grind [jH]) k;exact⟨JIn x n.1,n⟩
end
section
variable {B S:Int}
theorem ltE.trans{a b c:aA}(h1:ltE a b)(h2:ltE b c):ltE a c:=by
 grind [ltE]
def mrg:List aA->List aA->List aA|[],b=>b|x::a,[]=>x::a|x::a,y::b=>if jC x y<=0 then x::mrg a (y::b)else y::mrg (x::a) b
termination_by a b=>a.length+b.length
theorem PL(a:List aA):mrg a []=a:=by cases a<;>simp[mrg]
def cA:List aA->aA->List aA|[],e=>[e]|x::l,e=>if jC x e<0 then x::cA l e else if jC x e=0 then x::l else e::x::l
theorem Sc{l:List aA}{e x:aA}(h:x∈cA l e):x∈l\/x=e:=by
 induction l with
 |nil=>grind [cA]
 |cons y l ih=>
  grind [cA]
theorem Pr{y:aA}{b:List aA}(hb: ∀z∈b,ltE y z): ∀{a:List aA},(∀x∈a,jC x y≠0)->mrg a (y::b)=mrg (cA a y) b
 |[],_=>by
  cases b with
  |nil=>simp[mrg,cA]
  |cons z b=>
   have:=(EH (a:=y) (b:=z)).2 (hb z _L);grind [cA,mrg]
 |x::a,j=>by
  have n:=j x _L;by_cases h:jC x y<0;have e:mrg (x::a) (y::b)=x::mrg a (y::b):=(by grind [mrg]);have g:cA (x::a) y=x::cA a y:=(by grind [cA]);rw[e,g,Pr hb λz k=>j z (fR _ k)];cases b with
  |nil=>simp[PL]
  |cons z b=>
   have h2:=(EH (a:=x) (b:=z)).2 (((EH (a:=x) (b:=y)).1 h).trans (hb z _L));grind [mrg.eq_3]
  have e:mrg (x::a) (y::b)=y::mrg (x::a) b:=(by grind [mrg]);have g:cA (x::a) y=y::x::a:=(by grind [cA]);rw[e,g];cases b with
  |nil=>simp[PL]
  |cons z b=>
   have h2:=(EH (a:=y) (b:=z)).2 (hb z _L);grind [mrg.eq_3]
theorem m7: ∀{b a:List aA},b.Pairwise ltE->(∀x∈a,∀y∈b,jC x y≠0)->mrg a b=b.foldl cA a
 |[],a,_,_=>PL a
 |y::b,a,hs,hd=>by
  obtain⟨h1,h2⟩:=_O.1 hs;rw[Pr h1 λx e=>hd x e y _L,List.foldl_cons];refine m7 h2 λx e z g=>?_;rcases Sc e with e|rfl;grind;have:=(EH (a:=x) (b:=z)).2 (h1 z g);omega
theorem E5: ∀{l:List aA},(∀(j:Nat) (a b:aA),l[j]?=Z a->l[j+1]?=Z b->ltE a b)->l.Pairwise ltE
 |[],_=>.nil
 |[x],_=>_R _ _
 |x::y::l,h=>by
  have ih:=E5 (l:=y::l) λj a b k hb=>h (j+1) a b k hb;refine _O.2 ⟨λz g=>?_,ih⟩;have e:=h 0 x y rfl rfl;rcases cV.1 g with rfl|g;exact e;exact e.trans ((_O.1 ih).1 z g)
theorem qg{r:aF}(h:dD r):r.2.2.2.2.2.Pairwise ltE:=
 E5 λj a b e hb=>by
  rcases h.2.2.2.2 j a b e hb with⟨q,_⟩|⟨g,k,_⟩;exact .inl q;exact .inr ⟨g,k⟩
theorem JM7(a b:List aA):(mrg a b).length=a.length+b.length:=by
 induction a,b using mrg.induct with
 |case1 b=>simp[mrg]
 |case2 x a=>simp[mrg]
 |case3 x a y b h ih=>grind [mrg]
 |case4 x a y b h ih=>grind [mrg]
theorem Q6{a b:List aA}{z:aA}(h:z∈mrg a b):z∈a\/z∈b:=by
 induction a,b using mrg.induct with
 |case1 b=>grind [mrg]
 |case2 x a=>grind [PL]
 |case3 x a y b hc ih=>
  grind [mrg]
 |case4 x a y b hc ih=>
  grind [mrg]
end
section
variable {B S:Int}
def fU(r:aF):Prop:=Ty.fit 16384 9223372036854775807 dQ r
theorem vv{r:aF}(h:fU r): ∃v,lI r=Z v/\fI r=Z v/\(v=O->dD r):=by
 obtain⟨y,e,h1⟩:=JQ0 r;obtain⟨z,g,_⟩:=r8 (B:=16384) (S:=9223372036854775807) h;refine⟨y,e,?_,h1⟩;cases y with
 |true=>grind [qe]
 |false=>cases z<;>simp_all [Hu,dD.of]
theorem kj{r:aF}(h:dD r):lI r=Z O/\fI r=Z O:=⟨Hu h,qe h⟩
theorem JMU(l:List aA)(e:aA):(cA l e).length<=l.length+1:=by
 induction l with
 |nil=>simp[cA]
 |cons x l ih=>
  grind [cA]
theorem Sv{e:aA}{l m:List aA}(h: ∀y∈l,jC y e<0):cA (l++m) e=l++cA m e:=by
 induction l with
 |nil=>rfl
 |cons y l ih=>
  grind [cA]
theorem j7{l:List aA}{e:aA}(hl:J0 l<=16777216):_n (xD (l,e)) λy=>y.1=cA l e:=by
 unfold xD;have K:=J7 (l:=l);refine Jl (τ:=Int) (λq=>(l,q,e)) (λi=>0<=i/\i<=J0 l/\ ∀y∈l.take i.toNat,jC y e<0) (λi=>J0 l-i) ?_ 0 rfl ⟨bC _,K,λy S=>by simp at S⟩;rintro i ⟨A,h1,h2⟩;unfold Iy;dsimp only;have _a:=Jb i 1;have hs:cA l e=l.take i.toNat++cA (l.drop i.toNat) e:=(by grind [Sv,List.take_append_drop]);have put:(∀x,l[i.toNat]?=Z x->0<jC x e)->_n ((bA l Y (Z i)).bind λn=>(bU 128 n).bind λo=>(Ju 128 o [e]).bind λv=>(bA l (Z i) Y).bind λj=>(Ju 128 v j).bind λh=>Z (h,O)) λy=>y.1=cA l e:=by
  intro g;obtain⟨p,T,_d,q1⟩:=yC (l:=l) (k:=i) A h1;obtain⟨r,Q,G,_⟩:=DH (l:=l) (k:=i) A h1;have lp:J0 p<=16777216:=by omega
  have hlen:J0 p+J0 r=J0 l:=(by grind);have np:=J7 (l:=p);have nr:=J7 (l:=r);refine .b (eE T) λn P=>?_;subst P;have M:bU 128 n=Z n:=by unfold bU;rw[if_pos];unfold sY;unfold J0 at lp np;simp only[decide_eq_true_eq];omega
  refine .b (eE M) λo _c=>?_;subst _c;refine .b (eE (gK (l:=o) (m:=[e]) (by grind [cI]) _k)) λv F=>.b (eE Q) λj E=>?_;subst F;subst E;refine .b (eE (gK (l:=o++[e]) (m:=j) (by rw[cU,cI];omega) _k)) λh D=>.s ?_;show h=cA l e;rw[D,_d,G,hs,iO]
  congr 1
  cases hd:l.drop i.toNat<;>grind [List.head?_drop,cA]
 refine .l (λc=>?_) λc=>.inr (.l (λw=>absurd w c) λ_=>put λx g=>by have:=jH g;omega);obtain⟨x,g,C⟩:=gH A c;refine .b (eE g) λ_e H=>.b (eE (Pg _e e)) λy4 d4=>?_;subst H;refine .l (λw=>.s ⟨J1 I i 1,rfl,⟨by omega,by omega,λz R=>?_⟩,by omega,by omega⟩) λw=>.inr (.l (λ_=>?_) λB=>absurd c B);rw[show(J1 I i 1).toNat=i.toNat+1 by omega,_U,C]at R;grind;refine .b (eE g) λL N=>.b (eE (Pg L e)) λy6 _b=>?_;subst N;refine .e (λB=>.b (eE g) λV W=>.s ?_) λB=>put λx U=>by grind
 grind [cA,List.drop_eq_getElem_cons,List.take_append_drop]
theorem JKf(b a:List aA):(b.foldl cA a).length<=a.length+b.length:=by
 induction b generalizing a with
 |nil=>simp
 |cons y b ih=>
  grind [JMU]
end
section
variable {B S:Int}
theorem JLA{f t l h v:Int}{es:List aA}(q:0<=f/\f<=1099511627777/\0<=t/\t<=1099511627777/\0<=l/\l<=100/\0<=h/\h<=100/\0<=v/\v<=100)(hl:J0 es<=16384)(he: ∀e∈es,Ty.fit 16384 9223372036854775807 J3 e):fU (f,t,l,h,v,es):=
 ⟨J2.2 (show(-9223372036854775808:Int)<=f/\f<=9223372036854775807 by omega),J2.2 (show(-9223372036854775808:Int)<=t/\t<=9223372036854775807 by omega),J2.2 (show(-9223372036854775808:Int)<=l/\l<=9223372036854775807 by omega),J2.2 (show(-9223372036854775808:Int)<=h/\h<=9223372036854775807 by omega),J2.2 (show(-9223372036854775808:Int)<=v/\v<=9223372036854775807 by omega),hl,he⟩
end
section
variable {B S:Int}
def cN(l:List aA)(p:Int):Int:=l.foldl (λa e=>if(e.2.1=1\/e.2.1=2)/\aV e=p then e.1 else a) 0
theorem EM(l:List aA)(e:aA)(p:Int):cN (l++[e]) p=if(e.2.1=1\/e.2.1=2)/\aV e=p then e.1 else cN l p:=by simp[cN]
theorem ES{l:List aA}{e:aA}{p:Int}(h: ¬((e.2.1=1\/e.2.1=2)/\aV e=p)):cN (l++[e]) p=cN l p:=by
 grind [EM]
structure Rel(l:List aA)(n:Int)(fr:List aJ)(lk _f:List aD):Prop where
 rng: ∀f∈fr,0<=f.1.1/\f.1.1<n
 one:fr.Pairwise λa b=>a.1.1≠b.1.1
 apt: ∀f∈fr,∀d∈lk,d.1≠f.1.1
 hot: ∀f∈fr,f.1.2.1=cN l f.1.1/\(f.2.1=J-> ∀r,idx _f f.1.1=Z r->r.1=cN l f.1.1)
 lak: ∀d∈lk,d.2.2=cN l d.1
 row: ∀p r,idx _f p=Z r->r.1<=cN l p/\((∀f∈fr,f.1.1≠p)->(∀d∈lk,d.1≠p)->r.1=cN l p)
 pgs:(1<=n/\n<=64)/\ ∀e∈l,(e.2.1=1\/e.2.1=2)->aV e<n
def fw(m:List aA)(s:_j):Prop:= ∀c,xI s=Z (c,0)->Rel m c.1 [] c.2.2.2.1 c.2.2.2.2
def UB(m:List aA)(e:aA):Prop:=e.1=J0 m+1/\Jo e=Z O/\((e.2.1=1\/e.2.1=2)->e.2.2.2.2.1=cN m (aV e))/\(e.2.1=7->e.2.2.2.2.2.1<=cN m (aV e))/\(e.2.1=6->fw m e.2.2.2.2.2.2.2)
def dJ(l:List aA):Prop:= ∀(i:Nat) e,l[i]?=Z e->UB (l.take i) e
def lO(l:Jx):Prop:=l.1=1/\0<=l.2.2/\l.2.2<=J0 l.2.1/\J0 l.2.1<=4096
def aY(k:J6):Prop:=lO k.2.2.1/\dJ k.2.2.1.2.1/\Rel k.2.2.1.2.1 k.1 k.2.2.2.1.2.1 k.2.2.2.2.2.2.2 k.2.2.2.2.2.2.1
theorem dJ.app{l:List aA}{e:aA}(h:dJ l)(he:UB l e):dJ (l++[e]):=by
 intro i x g;by_cases hi:i<l.length;rw[BZ hi]at g;rw[List.take_append_of_le_length (Nat.le_of_lt hi)];exact h i x g;grind
theorem dJ.take{l:List aA}(h:dJ l)(n:Nat):dJ (l.take n):=by
 intro i x e;rw[dx]at e;split at e;rename_i hi;rw[List.take_take,Nat.min_eq_left (Nat.le_of_lt hi)];exact h i x e;cases e
theorem Cv{l:List aA}(h:dJ l)(p:Int):0<=cN l p/\cN l p<=J0 l:=by
 have g: ∀n:Nat,0<=cN (l.take n) p/\cN (l.take n) p<=J0 l:=by
  intro n
  induction n with
  |zero=>exact⟨bC _,J7⟩
  |succ n ih=>
   rw[_U];cases hn:l[n]? with
   |none=>simpa using ih
   |some e=>
    have hl:=jH hn;have j:=(h n e hn).1;grind [J0,EM]
 have:=g l.length;simp_all
theorem PZ{l:List aA}{n:Int}{e:aA}(h:(1<=n/\n<=64)/\ ∀e∈l,(e.2.1=1\/e.2.1=2)->aV e<n)(he:(e.2.1=1\/e.2.1=2)->aV e<n):(1<=n/\n<=64)/\ ∀x∈l++[e],(x.2.1=1\/x.2.1=2)->aV x<n:=⟨h.1,λx g=>(zQ9.1 g).elim (h.2 x) λg=>by rw[dC.1 g];exact he⟩
theorem Rel.ent{l:List aA}{n:Int}{fr:List aJ}{lk _f:List aD}(h:Rel l n fr lk _f){e:aA}(he: ¬(e.2.1=1\/e.2.1=2)):Rel (l++[e]) n fr lk _f:=by have k: ∀p,cN (l++[e]) p=cN l p:=λp=>ES λh=>he h.1;exact⟨h.rng,h.one,h.apt,by simpa only[k]using h.hot,by simpa only[k]using h.lak,by simpa only[k]using h.row,PZ h.pgs λc=>absurd c he⟩
def upw{α:Type}(P:α->Prop)(l:List α)(i:Int):Prop:=i<=9223372036854775807/\(0<=i->RX P l i)
theorem HB{α:Type}{P:α->Prop}{l:List α}:upw P l 0:=⟨by decide,λ_=>JPg⟩
theorem EG{α:Type}{P:α->Prop}{l:List α}{i:Int}{x:α}(h:upw P l i)(e:idx l i=Z x)(hx:P x):upw P l (J1 I i 1):=by have o:=Jb i 1;obtain⟨g,_⟩:=bT e;have h1:=h.1;refine⟨by omega,λh2=>JHP (h.2 g) e hx oo⟩
theorem IK{α:Type}{P:α->Prop}{l:List α}{i:Int}(h:upw P l i)(hi: ¬i<J0 l): ∀x∈l,P x:=JIC (h.2 (by have:=J7 (l:=l);omega)) hi
theorem qG{α:Type}{l:List α}{i:Int}{x:α}(e:idx l i=Z x):x∈l:=zQ5 (bT e).2
theorem A2{α:Type}{l r:List α}{k:Int}(h:bA l (Z k) Y=Z r):0<=k/\r=l.drop k.toNat:=by
 have g:0<=k:=by grind [bA,sO,vD]
 have h1:k<=J0 l:=by grind [bA,sO,vD,J0]
 obtain⟨r',e,d,_⟩:=DH g h1;simp_all
theorem N9{α:Type}{l r:List α}{k:Int}(h:bA l Y (Z k)=Z r):0<=k/\k<=J0 l/\r=l.take k.toNat:=by
 grind [bA,sO,vD,J0]
theorem PA{α:Type}{b:Nat}{l r:List α}(h:bU b l=Z r):r=l:=by grind [bU]
theorem hZ{α:Type}{b:Nat}{l m r:List α}(h:Ju b l m=Z r):r=l++m:=by grind [Ju]
theorem o9{l:Jx}{y:Bool}(e:JU l=Z y)(c:y=O):1<=l.1/\l.1<=1099511627776/\J0 l.2.1<=4096:=by
 revert c
 apply _s.go e;unfold JU;exact .j (λh=>.k (λg=>.k (λj=>.j (λ_=>.b λ_ _=>.i (λ_=>.s nofun) λ_=>λ_ _ _=>⟨by omega,by omega,by omega⟩) λ_=>.s nofun) λ_=>.s nofun) λ_=>.s nofun) λ_=>.s nofun
theorem PI{l:Jx}{n:Int}(h:gT l=Z n)(h1:1<=l.1)(h2:l.1<=1099511627776)(h3:J0 l.2.1<=4096):n=l.1+J0 l.2.1-1:=by
 grind [gT,Jb,J0,JX]
theorem JJ8{l:Jx}{e:aA}{y:CU}(h:iY (l,e)=Z y)(c:y.2.2=0)(hl:l.1=1):y.1=(l.1,l.2.1++[(J0 l.2.1+1,e.2)],l.2.2)/\y.2.1=J0 l.2.1+1/\Jo (J0 l.2.1+1,e.2)=Z O/\J0 l.2.1+1<=4096:=by
 revert c
 apply _s.go h;unfold iY;dsimp only;refine .b λz h2=>.n (λ_=>.s nofun) λg=>.p (λn=>.b λo F=>.e (λ_=>.s nofun) λ_=>.b λw B=>.b λr C=>.n (λ_=>.s nofun) λj=>.b λv x=>.b λk q=>.s λ_=>?_) λ_=>.s nofun;subst j;obtain⟨D,E,A⟩:=o9 h2 g;grind [PI,Jb,J0,hZ,PA]
theorem XT{l:Jx}{n:Int}{y:jG}(h:jM (l,n)=Z y)(c:y.2=0):y.1.2.1=l.2.1/\(lO l->lO y.1):=by
 revert c
 apply _s.go h;unfold jM;refine .b λ_ h2=>.n (λ_=>.s nofun) λe=>.b λm o=>.g (λ_=>.s nofun) λq=>.s λ_=>⟨rfl,λhi=>⟨hi.1,?_⟩⟩;obtain⟨j,k,g⟩:=o9 h2 e;have:=PI o j k g;obtain⟨i1,i2,i3,i4⟩:=hi;have:=oD l.2.2 n;grind
abbrev eZ:aA:=(0,0,0,0,0,0,(0,0,(J,[]),J,[]),[])
theorem JQz:Jo eZ=Z J:=rfl
theorem JLY{l:Jx}{n:Int}{y:yS}(h:fF (l,n)=Z y):(y.2=0/\idx l.2.1 (Ji I n l.1)=Z y.1)\/(y.2≠0/\y.1=eZ):=by apply _s.go h;unfold fF;exact .b λ_ _=>.n (λ_=>.s (.inr ⟨by decide,rfl⟩)) λ_=>.j (λ_=>.b λ_ _=>.g (λ_=>.s (.inr ⟨by decide,rfl⟩)) λ_=>.b λ_ h=>.s (.inl ⟨rfl,h⟩)) λ_=>.s (.inr ⟨by decide,rfl⟩)
theorem zW{p:JJ}{id y:Int}(h:kF (p,id)=Z y):y<=9223372036854775807/\(0<=y-> ∃f,idx p.2.1 y=Z f/\f.1.1=id)/\(y<0-> ∀f∈p.2.1,f.1.1≠id):=by
 apply _s.go h;unfold kF;refine .z (λz=>z.1=id/\z.2.2=p/\upw (λf:aJ=>f.1.1≠id) p.2.1 z.2.1) ⟨rfl,rfl,HB⟩ ?_;rintro⟨a,i,q⟩ ⟨rfl,rfl,g⟩;unfold dh;refine .l (λc=>.b λf hf=>.e (λe=>.s ⟨g.1,λ_=>⟨f,hf,e⟩,λh=>?_⟩) λe=>.s ⟨rfl,rfl,EG g hf e⟩) λc=>.s ⟨by decide,λh=>absurd h _k,λ_=>IK g c⟩;have:=(bT hf).1;grind
theorem mz{p:JJ}{id y:Int}(h:iW (p,id)=Z y):(0<=y-> ∃f,idx p.2.1 y=Z f/\f.1.1=id)/\(y<0->JW p=Z O-> ∀f∈p.2.1,f.1.1≠id):=by apply _s.go h;unfold iW;refine .b λv g=>.n (λc=>.s ⟨λh=>absurd h _k,λ_ h=>?_⟩) λ_=>.b λe h2=>.s ⟨(zW h2).2.1,λh _=>(zW h2).2.2 h⟩;simp_all
theorem DU{p:JJ}{id:Int}{y:JV×Bool}(h:oF (p,id)=Z y):(y.2=O-> ∃f∈p.2.1,f.1=y.1/\f.1.1=id)/\(y.2=J->JW p=Z O-> ∀f∈p.2.1,f.1.1≠id):=by
 apply _s.go h;unfold oF;refine .b λi hi=>.l (λc=>.s ⟨nofun,λ_=>(mz hi).2 c⟩) λc=>.b λf hf=>.s ⟨λ_=>?_,nofun⟩;obtain⟨g,h1,h2⟩:=(mz hi).1 oo;grind [qG]
end
section
variable {B S:Int} {l l':List aA} {n:Int} {fr:List aJ} {lk lk' _f rows':List aD} {f f':aJ} {i:Int}
theorem Ov(h:fr.Pairwise λa b=>a.1.1≠b.1.1){i j:Nat}{a b:aJ}(ha:fr[i]?=Z a)(hb:fr[j]?=Z b)(e:a.1.1=b.1.1):i=j:=by
 grind [_N]
theorem JJJ(hf:idx fr i=Z f)(e:f'.1.1=f.1.1)(h:fr.Pairwise λa b=>a.1.1≠b.1.1){x:aJ}(hx:x∈fr.set i.toNat f'):x=f'\/(x∈fr/\x.1.1≠f.1.1):=by
 obtain⟨g,hf⟩:=bT hf;grind [List.mem_iff_getElem?,Ov]
theorem Rel.upd(h:Rel l n fr lk _f)(hf:idx fr i=Z f)(k:f'.1.1=f.1.1)(ho: ∀q,q≠f.1.1->cN l' q=cN l q)(hr: ∀q,q≠f.1.1->idx rows' q=idx _f q)(h1:f'.1.2.1=cN l' f.1.1)
  (h2:f'.2.1=J-> ∀r,idx rows' f.1.1=Z r->r.1=cN l' f.1.1) (h3: ∀r,idx rows' f.1.1=Z r->r.1<=cN l' f.1.1) (h4:(1<=n/\n<=64)/\ ∀e∈l',(e.2.1=1\/e.2.1=2)->aV e<n):Rel l' n (fr.set i.toNat f') lk rows':=by
 have w:=qG hf;have hs: ∀{x:aJ},x∈fr.set i.toNat f'->x=f'\/(x∈fr/\x.1.1≠f.1.1):=λg=>JJJ hf k h.one g;have C:f'∈fr.set i.toNat f':=(by obtain⟨z,hf⟩:=bT hf;grind [List.mem_set]);refine⟨λx g=>?_,?_,λx g d hd=>?_,λx g=>?_,λd hd=>?_,λp r hp=>?_,h4⟩;rcases hs g with rfl|⟨g,_⟩;rw[k];exact h.rng _ w;exact h.rng _ g;have q:=h.one;obtain⟨z,hf⟩:=bT hf;grind [_N];rcases hs g with rfl|⟨g,_⟩;rw[k];exact h.apt _ w d hd;exact h.apt _ g d hd;rcases hs g with rfl|⟨g,o⟩;grind;rw[ho _ o,hr _ o];exact h.hot _ g;rw[h.lak d hd,ho];exact h.apt _ w d hd;by_cases v:p=f.1.1;grind;rw[hr _ v]at hp;obtain⟨A,B⟩:=h.row p r hp;rw[ho _ v];refine⟨A,λa b=>B (λx g e=>?_) b⟩;have y:x∈fr.set i.toNat f':=(by obtain⟨z,hf⟩:=bT hf;obtain⟨j,D⟩:=fA.1 g;refine zQ5 (i:=j) ?_;grind);exact a x y e
theorem Rel.drop(h:Rel l n fr lk _f)(hf:idx fr i=Z f)(hc:f.2.1=J):Rel l n (fr.eraseIdx i.toNat) lk _f:=by
 have j: ∀{x:aJ},x∈fr.eraseIdx i.toNat->x∈fr:=λg=>(List.eraseIdx_sublist fr i.toNat).subset g;refine⟨λx g=>h.rng x (j g),h.one.sublist (List.eraseIdx_sublist fr i.toNat),λx g=>h.apt x (j g),λx g=>h.hot x (j g),h.lak,λp r hp=>?_,h.pgs⟩;obtain⟨o,q⟩:=h.row p r hp;refine⟨o,λa b=>?_⟩;by_cases k:p=f.1.1;subst k;exact(h.hot f (qG hf)).2 hc r hp;refine q (λx g e=>?_) b;obtain⟨v,hf⟩:=bT hf;grind [List.mem_iff_getElem?,List.mem_eraseIdx_iff_getElem?]
theorem Rel.add(h:Rel l n fr lk _f)(hn: ∀x∈fr,x.1.1≠f.1.1)(hr:0<=f.1.1/\f.1.1<n)(h1:f.1.2.1=cN l f.1.1)(h2:f.2.1=J-> ∀r,idx _f f.1.1=Z r->r.1=cN l f.1.1)
  (hs: ∀d,d∈lk'↔d∈lk/\d.1≠f.1.1):Rel l n (fr++[f]) lk' _f:=by
 have g: ∀{x:aJ},x∈fr++[f]->x∈fr\/x=f:=λe=>by simpa using e
 refine⟨λx e=>?_,?_,λx e d hd=>?_,λx e=>?_,λd hd=>h.lak d ((hs d).1 hd).1,λp r hp=>?_,h.pgs⟩;rcases g e with e|rfl;exact h.rng x e;exact hr;rw[_M];exact⟨h.one,_R _ _,λa k b hb=>by grind⟩;rcases g e with e|rfl;exact h.apt x e d ((hs d).1 hd).1;simp_all;rcases g e with e|rfl;exact h.hot x e;grind;obtain⟨j,o⟩:=h.row p r hp;grind
theorem WG{p q:JJ}(h:lG (p,i,f)=Z q):q=(p.1,p.2.1.set i.toNat f,p.2.2):=by apply _s.go h;unfold lG;refine .b λe h2=>.b λ_ _=>.b λ_ _=>.s ?_;rw[PA h2];rfl
theorem Rel.use(h:Rel l n fr lk _f)(hf:idx fr i=Z f)(h1:f'.1=f.1)(h2:f'.2.1=f.2.1):Rel l n (fr.set i.toNat f') lk _f:=by have q:=h.hot f (qG hf);exact h.upd hf (by rw[h1]) (λ_ _=>rfl) (λ_ _=>rfl) (by simp_all) (by grind) (λr e=>(h.row _ r e).1) h.pgs
theorem JQk{p q:JJ}{id:Int}(e:KG (p,id)=Z q)(h:Rel l n p.2.1 lk _f):Rel l n q.2.1 lk _f:=by apply _s.go e;unfold KG;refine .b λj o=>.l (λ_=>.s h) λc=>.b λx k=>.b λy g=>.s ?_;rw[WG g];exact h.use k rfl rfl
theorem JJc{p:JJ}{y:OB}(e:BJ p=Z y)(h:Rel l n p.2.1 lk _f):y.2.2=0->Rel l n y.1.2.1 lk _f:=by apply _s.go e;unfold BJ;refine .b λ_ _=>.n (λ_=>.s nofun) λ_=>.e (λ_=>.s nofun) λ_=>.z (λz=>Rel l n z.1.2.1 lk _f) h ?_;intro z g;unfold ib;refine .b λx o=>.i (λ_=>.b λy k=>.b λq j=>.b λ_ _=>.s ?_) λ_=>.map (.b λ_ _=>.s λ_=>g);show Rel l n q.2.1 lk _f;rw[WG j];exact g.use k rfl rfl
theorem JOk{p:JJ}{id:Int}{y:jT}(e:AQ (p,id)=Z y)(c:y.2=0)(h:Rel l n p.2.1 lk _f):Rel l n y.1.2.1 lk _f:=by
 revert c
 apply _s.go e;unfold AQ;refine .b λ_ _=>.n (λ_=>.s nofun) λ_=>.b λj E=>.l (λ_=>.s nofun) λ_=>.b λx k=>.i (λ_=>.s nofun) λv=>.b λH D=>.b λ_e C=>.b λF w=>.b λz A=>?_;have B:z=p.2.1.eraseIdx j.toNat:=by obtain⟨G,r⟩:=A2 w;have o:=Jb j 1;have q:=(zW E).1;have _d:=(bT k).1;rw[hZ A,PA C,(N9 D).2.2,r,List.eraseIdx_eq_take_drop_succ,show(J1 I j 1).toNat=j.toNat+1 by omega]
 have g:=h.drop k v;rw[<-B]at g;exact .l (λ_=>.h (λ_=>.s λ_=>g) λ_=>.s λ_=>g) λ_=>.h (λ_=>.s λ_=>g) λ_=>.s λ_=>g
end
section
variable {B S:Int} {l l':List aA} {n:Int} {fr:List aJ} {lk lk' _f rows':List aD} {f f':aJ} {i:Int}
theorem IN{k:J6}{id:Int}{y:aD×Bool}(e:wU (k,id)=Z y):(y.2=O->y.1∈k.2.2.2.2.2.2.2/\y.1.1=id)/\(y.2=J-> ∀d∈k.2.2.2.2.2.2.2,d.1≠id):=by
 apply _s.go e;unfold wU;refine .z (λz=>z.1=id/\z.2.2.1=k/\upw (λd:aD=>d.1≠id) k.2.2.2.2.2.2.2 z.2.1) ⟨rfl,rfl,HB⟩ ?_;rintro⟨a,i,q,r⟩ ⟨rfl,rfl,g⟩;unfold Hc;refine .l (λc=>.b λd hd=>.e (λe=>.b λj h=>.s ⟨λ_=>?_,nofun⟩) λe=>.s ⟨rfl,rfl,EG g hd e⟩) λc=>.s ⟨nofun,λ_=>IK g c⟩;grind [qG]
theorem QR{k:J6}(e:Jv k=Z O):JW k.2.2.2.1=Z O:=by
 have h:_s (oI k) λy=>y=O->JW k.2.2.2.1=Z O:=by unfold oI;refine .h (λ_=>.G (λ_=>.h (λ_=>.G (λ_=>.b λ_ _=>.i (λ_=>.b λn o=>.i (λc=>λ_ _ _=>?_) λ_=>.s nofun) λ_=>.s nofun) λ_=>.s nofun) λ_=>.s nofun) λ_=>.s nofun) λ_=>.s nofun;simp_all
 have g:_s (Jv k) λy=>y=O->JW k.2.2.2.1=Z O:=.b λa j=>.n (λ_=>.s nofun) λc=>λ_ _ _=>h _ j c
 exact g _ e rfl
theorem jk{k:J6}{p h:Int}(e:tU (k,p)=Z h)(hv:Jv k=Z O)(hi:aY k)(h0:0<=p)(h1:p<k.1):h=cN k.2.2.1.2.1 p:=by
 apply _s.go e;obtain⟨_,_,r⟩:=hi;unfold tU;refine .b λv z=>.r (λ_=>.j (λ_=>.h (λc=>absurd h1 (by grind)) λ_=>.b λA w=>.i (λn=>.s ?_) λn=>.b λB q=>.i (λg=>.s ?_) λg=>.b λx y=>.s ?_) λc=>absurd h0 (by grind)) λc=>?_;obtain⟨f,hf,o,j⟩:=(DU w).1 n;rw[<-o,(r.hot f hf).1,j];obtain⟨o,j⟩:=(IN q).1 g;rw[r.lak _ o,j];exact(r.row p x y).2 ((DU w).2 n (QR hv)) ((IN q).2 g);simp_all
theorem Au{e:aA}{y:vO}(h:mI (_f,e)=Z y)(c:y.2=0):Jo e=Z O/\(e.2.1≠7->y.1=_f)/\(e.2.1=7->(∀q,q≠aV e->idx y.1 q=idx _f q)/\ ∀r,idx y.1 (aV e)=Z r-> ∃r0,idx _f (aV e)=Z r0/\r.1=bP r0.1 e.2.2.2.2.2.1):=by
 revert c
 apply _s.go h;unfold mI;refine .b λ_ _=>.n (λ_=>.s nofun) λ_=>.b λv x=>.n (λ_=>.s nofun) λo=>.d (λc=>.s λ_=>⟨by simp_all,λ_=>rfl,λh=>absurd h c⟩) λc=>.h (λ_=>.s nofun) λ_=>.b λr0 z=>.b λg k=>.s λ_=>⟨by simp_all,λh=>absurd c h,λ_=>?_⟩;have n:g=_f.set (aV e).toNat (bP r0.1 e.2.2.2.2.2.1,r0.2):=by
  have j:_s (KJ (_f,aV e,bP r0.1 e.2.2.2.2.2.1,r0.2)) λg=>g=_f.set (aV e).toNat (bP r0.1 e.2.2.2.2.2.1,r0.2):=by unfold KJ;refine .b λw h2=>.b λ_ _=>.b λ_ _=>.s ?_;rw[PA h2];rfl
  exact j _ k
 grind [idx,aV]
theorem JEi{l:Jx}{e:aA}{y:CU}(h:iY (l,e)=Z y)(c:y.2.2=0):1<=l.1/\l.1<=1099511627776/\J0 l.2.1<=4096:=by
 revert c
 apply _s.go h;unfold iY;exact .b λj h2=>.n (λ_=>.s nofun) λg=>λ_ _ _=>o9 h2 g
def MV(k:J6)(e:aA)(y:iT):Prop:=Jv k=Z O/\ ∃e':aA,e'.2.1=e.2.1/\e'.2.2.2.2.2=e.2.2.2.2.2/\e'.1=J0 k.2.2.1.2.1+1/\y.2.1=e'.1/\y.1.1=k.1/\y.1.2.2.1=(1,k.2.2.1.2.1++[e'],k.2.2.1.2.2)/\lO y.1.2.2.1/\y.1.2.2.2.1=k.2.2.2.1/\y.1.2.2.2.2.2.2.2=k.2.2.2.2.2.2.2/\dJ (k.2.2.1.2.1++[e'])/\(e.2.1≠7->y.1.2.2.2.2.2.2.1=k.2.2.2.2.2.2.1)/\(e.2.1=7->(∀q,q≠aV e->idx y.1.2.2.2.2.2.2.1 q=idx k.2.2.2.2.2.2.1 q)/\ ∀r,idx y.1.2.2.2.2.2.2.1 (aV e)=Z r-> ∃g,idx k.2.2.2.2.2.2.1 (aV e)=Z g/\r.1=bP g.1 e.2.2.2.2.2.1)
theorem ej{k:J6}{e0 e:aA}{z:iT}(hv:Jv k=Z O)(hi:aY k)(h1:e0.2.1=e.2.1)(h2:e0.2.2.2.2.2=e.2.2.2.2.2)(hp:(e.2.1=1\/e.2.1=2)->e0.2.2.2.2.1=cN k.2.2.1.2.1 (aV e))
  (N:e.2.1=7->e.2.2.2.2.2.1<=cN k.2.2.1.2.1 (aV e)) (S:e.2.1=6->fw k.2.2.1.2.1 e.2.2.2.2.2.2.2)
  (hz:((iY (k.2.2.1,e0)).bind λg=>
   if aQ g.2.2 0 then
    Z ((0,0,(0,[],0),(0,[],0),([],[]),[],[],[]),0,g.2.2)
   else
    (fF (g.1,g.2.1)).bind λq=>
    (fP (k.2.2.2.2.2.1,q.1)).bind λj=>
    if aQ j.2 0 then
     Z ((0,0,(0,[],0),(0,[],0),([],[]),[],[],[]),0,j.2)
    else
     (mI (k.2.2.2.2.2.2.1,q.1)).bind λn=>
     if aQ n.2 0 then
      Z ((0,0,(0,[],0),(0,[],0),([],[]),[],[],[]),0,n.2)
     else
      Z ((k.1,k.2.1,g.1,k.2.2.2.1,k.2.2.2.2.1,j.1,n.1,k.2.2.2.2.2.2.2),g.2.1,0))=Z z):z.2.2=0->MV k e z:=by
 have C:_s ((iY (k.2.2.1,e0)).bind λg=>
   if aQ g.2.2 0 then
    Z ((0,0,(0,[],0),(0,[],0),([],[]),[],[],[]),0,g.2.2)
   else
    (fF (g.1,g.2.1)).bind λq=>
    (fP (k.2.2.2.2.2.1,q.1)).bind λj=>
    if aQ j.2 0 then
     Z ((0,0,(0,[],0),(0,[],0),([],[]),[],[],[]),0,j.2)
    else
     (mI (k.2.2.2.2.2.2.1,q.1)).bind λn=>
     if aQ n.2 0 then
      Z ((0,0,(0,[],0),(0,[],0),([],[]),[],[],[]),0,n.2)
     else
      Z ((k.1,k.2.1,g.1,k.2.2.2.1,k.2.2.2.2.1,j.1,n.1,k.2.2.2.2.2.2.2),g.2.1,0)) λz=>z.2.2=0->MV k e z:=by
  obtain⟨r,H,T⟩:=hi;refine .b λg x=>.d (λc=>.s λh=>absurd h c) λw=>.b λq D=>.b λj M=>.d (λc=>.s λh=>absurd h c) λ_=>.b λn A=>.d (λc=>.s λh=>absurd h c) λy=>.s λ_=>?_;obtain⟨b1,b2,G,R⟩:=JJ8 x w r.1;have _c:=J7 (l:=k.2.2.1.2.1);obtain⟨P,B,F⟩:=Au A y;have E:q.1=(J0 k.2.2.1.2.1+1,e0.2):=(by rcases JLY D with⟨_,h⟩|⟨_,h⟩;rw[b1,b2,r.1]at h;obtain⟨_,h⟩:=bT h;have v:=(JEi x w).2.2;have o:=JX (J0 k.2.2.1.2.1+1) 1;rw[show(Ji I (J0 k.2.2.1.2.1+1) 1).toNat=k.2.2.1.2.1.length by grind [J0]]at h;simp_all;grind [JQz]);rw[E]at B F;have K:aV (J0 k.2.2.1.2.1+1,e0.2)=aV e:=congrArg (λz:Int×aR×_j=>z.2.1.1) h2;have L:e0.2.2.2.2.2.1=e.2.2.2.2.2.1:=congrArg (λz:Int×aR×_j=>z.1) h2;have _d:e0.2.2.2.2.2.2.2=e.2.2.2.2.2.2.2:=congrArg (λz:Int×aR×_j=>z.2.2) h2;refine⟨hv,(J0 k.2.2.1.2.1+1,e0.2),h1,h2,rfl,b2,rfl,?_,?_,rfl,rfl,?_,λc=>B (by simp_all),λc=>?_⟩;show g.1=_;rw[b1,r.1]
  ·show lO g.1;rw[b1,r.1];obtain⟨U,_e,V,Q⟩:=r;refine⟨rfl,_e,?_,?_⟩
   all_goals
    grind [cU,cI]
  ·refine H.app ⟨rfl,G,λc=>?_,λc=>?_,λc=>?_⟩
   all_goals grind
  grind
 exact C _ hz
theorem UN{k:J6}{e:aA}{y:iT}(h:hE (k,e)=Z y)(c:y.2.2=0)(hi:aY k)(hp:(e.2.1=1\/e.2.1=2)->0<=aV e/\aV e<k.1)
  (q:e.2.1=7->e.2.2.2.2.2.1<=cN k.2.2.1.2.1 (aV e)) (w:e.2.1=6->fw k.2.2.1.2.1 e.2.2.2.2.2.2.2):MV k e y:=by
 have B: ∀{o:aA} {b:Bool},Jh o=Z b->b=J-> ¬(o.2.1=1\/o.2.1=2):=fun{o b} hb r=>by
  grind [Jh,gM]
 revert c
 apply _s.go h;unfold hE;refine .b λv E=>.n (λ_=>.s nofun) λC=>?_;have g:Jv k=Z O:=by simp_all
 refine .g (λ_=>.b λD _=>.l (λ_=>.s nofun) λ_=>.b λA _=>.b λb hb=>.i (λr=>.b λx n=>λz j=>ej (e0:=(e.1,e.2.1,e.2.2.1,A.2.2.1,x,e.2.2.2.2.2)) g hi rfl rfl ?_ q w j) λr=>λz j=>ej (e0:=(e.1,e.2.1,e.2.2.1,A.2.2.1,0,e.2.2.2.2.2)) g hi rfl rfl ?_ q w j) λ_=>.b λb hb=>.i (λr=>.b λx n=>λz j=>ej (e0:=(e.1,e.2.1,e.2.2.1,0,x,e.2.2.2.2.2)) g hi rfl rfl ?_ q w j) λr=>λz j=>ej (e0:=(e.1,e.2.1,e.2.2.1,0,0,e.2.2.2.2.2)) g hi rfl rfl ?_ q w j
 all_goals intro hc
 exact jk n g hi (hp hc).1 (hp hc).2;grind;exact jk n g hi (hp hc).1 (hp hc).2;grind
end
section
variable {l E F:List aA} {p:Int}
theorem ltE.irr{a:aA}: ¬ltE a a:=by simp[ltE]
theorem ltE.asym{a b:aA}(h:ltE a b): ¬ltE b a:=by grind [ltE]
theorem Cu: ∀{a b:List aA},a.Pairwise ltE->b.Pairwise ltE->(∀x,x∈a↔x∈b)->a=b
 |[],[],_,_,_=>rfl
 |[],y::b,_,_,h=>absurd ((h y).2 _L) (by simp)
 |x::a,[],_,_,h=>absurd ((h x).1 _L) (by simp)
 |x::a,y::b,n,hb,h=>by
  obtain⟨k,j⟩:=_O.1 n;obtain⟨b1,b2⟩:=_O.1 hb;have e:x=y:=(by rcases cV.1 ((h x).1 _L)with q|q;exact q;rcases cV.1 ((h y).2 _L)with g|g;exact g.symm;exact absurd (b1 x q) (k y g).asym);subst e;refine congrArg (x:: ·) (Cu j b2 λz=>⟨λo=>?_,λo=>?_⟩)
  all_goals grind [ltE.irr]
theorem ni{e:aA}(hd: ∀x∈l,x.1≠e.1): ∀x,x∈cA l e↔x∈l\/x=e:=by
 induction l with
 |nil=>simp[cA]
 |cons y l ih=>
  grind [XG,cA]
theorem Dx{e:aA}(hs:l.Pairwise ltE)(hd: ∀x∈l,x.1≠e.1):(cA l e).Pairwise ltE:=by
 induction l with
 |nil=>exact _R _ _
 |cons y l ih=>
  obtain⟨h1,h2⟩:=_O.1 hs;have g:=hd y _L;have n: ¬jC y e=0:=λh=>g (XG.1 h).2;have k: ∀x∈l,x.1≠e.1:=λz j=>hd z (fR _ j);grind [cA,_O,ni,EH,ltE]
theorem Az{e:aA}(hd: ∀x∈l,x.1≠e.1):(cA l e).length=l.length+1:=by
 induction l with
 |nil=>simp[cA]
 |cons y k ih=>
  grind [XG,cA]
def srt(l:List aA):List aA:=l.foldl cA []
theorem O3(l:List aA)(e:aA):srt (l++[e])=cA (srt l) e:=by simp[srt]
def Inc(l:List aA):Prop:=l.Pairwise λa b=>a.1<b.1
theorem Oy: ∀{n:Nat} {l:List aA},l.length=n->Inc l->(srt l).Pairwise ltE/\(∀x,x∈srt l↔x∈l)/\(srt l).length=l.length
 |0,l,h,_=>by simp_all [srt]
 |n+1,l,h,hi=>by
  obtain⟨m,e,rfl⟩: ∃m e,l=m++[e]:=⟨l.dropLast,l.getLast (by grind),(_S _).symm⟩;have j:m.length=n:=by simpa using h
  obtain⟨i1,i2,i3⟩:=_M.1 hi;obtain⟨s1,g,o⟩:=Oy j i1;have hd: ∀x∈srt m,x.1≠e.1:=λx k=>by have:=i3 x ((g x).1 k) e (by simp);omega
  grind [O3,Dx,ni,Az]
theorem dJ.inc(h:dJ l):Inc l:=by
 unfold Inc;rw[_N];intro i j hi e hij;have a:=(h i _ (bF hi)).1;have b:=(h j _ (bF e)).1;grind [J0]
theorem dJ.at(h:dJ l){i:Nat}{e:aA}(he:l[i]?=Z e):e.1=(i:Int)+1:=by
 have a:=(h i e he).1;grind [J0]
theorem JBO(h:dJ l)(p:Int):(cN l p=0\/ ∃x∈l,(x.2.1=1\/x.2.1=2)/\aV x=p/\x.1=cN l p)/\ ∀x∈l,(x.2.1=1\/x.2.1=2)->aV x=p->x.1<=cN l p:=by
 have q: ∀n:Nat,n<=l.length->(cN (l.take n) p=0\/ ∃x∈l.take n,(x.2.1=1\/x.2.1=2)/\aV x=p/\x.1=cN (l.take n) p)/\ ∀x∈l.take n,(x.2.1=1\/x.2.1=2)->aV x=p->x.1<=cN (l.take n) p:=by
  intro n
  induction n with
  |zero=>intro _;exact⟨.inl rfl,by simp⟩
  |succ n ih=>
   intro r;obtain⟨h1,h2⟩:=ih oo;have o:=bF (l:=l) (i:=n) oo;have k:l.take (n+1)=l.take n++[l[n]]:=by simp[_U]
   have en:=h.at o;rw[k,EM];split;rename_i c;refine⟨.inr ⟨l[n],_Z _ (dC.2 rfl),c.1,c.2,rfl⟩,λx g a b=>?_⟩;rcases zQ9.1 g with g|g;obtain⟨j,e⟩:=fA.1 g;rw[dx]at e;split at e;have:=h.at e;omega;cases e;grind;grind
 grind [List.take_length]
theorem Af(h:dJ l){e:aA}(he:e∈l)(hc:e.2.1=1\/e.2.1=2):e.2.2.2.2.1<e.1/\(e.2.2.2.2.1=0\/ ∃x∈l,(x.2.1=1\/x.2.1=2)/\aV x=aV e/\x.1=e.2.2.2.2.1)/\ ∀x∈l,(x.2.1=1\/x.2.1=2)->aV x=aV e->x.1<e.1->x.1<=e.2.2.2.2.1:=by
 obtain⟨i,hi⟩:=fA.1 he;obtain⟨r,v,o,_⟩:=h i e hi;have q:=h.at hi;rw[o hc];obtain⟨s1,n⟩:=JBO (h.take i) (aV e);have lt: ∀x∈l.take i,x.1<e.1:=λx k=>by
  obtain⟨j,g⟩:=fA.1 k;rw[dx]at g;split at g;have:=h.at g;omega;cases g
 refine⟨?_,?_,λx k a b c=>?_⟩;grind;grind;refine n x ?_ a b;obtain⟨j,g⟩:=fA.1 k;have:=h.at g;refine zQ5 (i:=j) ?_;grind
def inB(f t lo hi:Int)(e:aA):Bool:=decide ((e.2.1=1\/e.2.1=2)/\(lo<=aV e/\aV e<=hi)/\f<=e.1/\e.1<=t)
theorem tN{f t lo hi:Int}{e:aA}:inB f t lo hi e=O↔(e.2.1=1\/e.2.1=2)/\(lo<=aV e/\aV e<=hi)/\f<=e.1/\e.1<=t:=by simp[inB]
def sel(l:List aA)(f t lo hi:Int):List aA:=srt (l.filter (inB f t lo hi))
theorem Inc.filter(h:Inc l)(q:aA->Bool):Inc (l.filter q):=h.sublist (List.filter_sublist)
theorem JP8(h:dJ l)(f t lo hi:Int):(sel l f t lo hi).Pairwise ltE/\(∀x,x∈sel l f t lo hi↔x∈l/\inB f t lo hi x=O)/\(sel l f t lo hi).length<=l.length:=by
 obtain⟨s1,g,e⟩:=Oy rfl (h.inc.filter (inB f t lo hi));grind [sel]
theorem adj(hs:E.Pairwise ltE){j:Nat}{a b x:aA}(ha:E[j]?=Z a)(hb:E[j+1]?=Z b)(hx:x∈E)(h1:ltE a x)(h2:ltE x b):False:=by
 obtain⟨i,hi⟩:=fA.1 hx;rw[_N]at hs;obtain⟨g,rfl⟩:=dT.1 ha;obtain⟨h,rfl⟩:=dT.1 hb;obtain⟨e,rfl⟩:=dT.1 hi;by_cases c:i<=j;rcases Nat.lt_or_eq_of_le c with c|c;exact h1.asym (hs i j e g c);grind [ltE.irr];by_cases k:i=j+1;grind [ltE.irr];exact h2.asym (hs (j+1) i h e oo)
theorem JMh(h:dJ l)(hl:J0 l<=4096){f t lo hi lv:Int}(hn:rL (f,t,lo,hi,lv,[])):dD (f,t,lo,hi,lv,sel l f t lo hi):=by
 obtain⟨s1,k,s3⟩:=JP8 h f t lo hi;obtain⟨R,S,M,_c,N,F,w,v⟩:=hn;dsimp only at R S M _c N F w v;have val: ∀x∈l,Jo x=Z O:=λx Q=>by obtain⟨i,hi⟩:=fA.1 Q;exact(h i x hi).2.1
 refine⟨⟨R,S,M,_c,N,F,w,v⟩,?_,λj e o=>?_,λe o=>?_,λj a b q hb=>?_⟩;grind [J0];obtain⟨n,r⟩:=(k e).1 (zQ5 o);obtain⟨b1,b2,y,E⟩:=tN.1 r;exact⟨val e n,b1,y,E,b2.1,b2.2⟩;have V:=zQ5 o;obtain⟨n,r⟩:=(k e).1 V;obtain⟨b1,b2,y,E⟩:=tN.1 r;obtain⟨T,g,P⟩:=Af h n b1;dsimp only;rcases g with g|⟨x,X,x2,x3,x4⟩;omega;rcases Int.lt_or_le e.2.2.2.2.1 f with c|c;exact c;have Q:x∈sel l f t lo hi:=(k x).2 ⟨X,tN.2 ⟨x2,by omega,by omega,by omega⟩⟩;grind [List.mem_iff_getElem?,ltE,Nat.eq_zero_or_pos,_N];dsimp only at q hb;have z:=zQ5 q;have C:=zQ5 hb;obtain⟨G,K⟩:=(k a).1 z;obtain⟨A,_e⟩:=(k b).1 C;obtain⟨L,a0,a9,aa⟩:=tN.1 K;obtain⟨H,_a,_b,W⟩:=tN.1 _e;obtain⟨T,g,P⟩:=Af h A H;have B:ltE a b:=(by grind [_N]);have D: ∀x∈l,(x.2.1=1\/x.2.1=2)->aV x=aV b->x.1=b.2.2.2.2.1->f<=x.1->ltE a x->False:=λx X x2 x3 x4 x5 U=>
  adj s1 q hb ((k x).2 ⟨X,tN.2 ⟨x2,by omega,by omega,by omega⟩⟩) U (.inr ⟨x3,by omega⟩)
 rcases B with lp|⟨lp,_d⟩;refine .inl ⟨lp,?_⟩;rcases g with g|⟨x,X,x2,x3,x4⟩;grind;show b.2.2.2.2.1<f;rcases Int.lt_or_le b.2.2.2.2.1 f with c|c;exact c;exact(D x X x2 x3 x4 oo (.inl oo)).elim;refine .inr ⟨lp,_d,?_⟩;have ge:=P a G L lp _d;rcases g with g|⟨x,X,x2,x3,x4⟩;omega;rcases Int.lt_or_eq_of_le ge with c|c;exact(D x X x2 x3 x4 oo (.inr ⟨by omega,by omega⟩)).elim;exact c.symm
end
section
variable {B S:Int} {l l':List aA} {n:Int} {fr:List aJ} {lk lk' _f rows':List aD} {f f':aJ} {i:Int} {k k':J6}
theorem Rel.note{e:aA}{p:Int}(h:Rel l n fr lk _f)(he: ¬(e.2.1=1\/e.2.1=2))(h0:e.2.2.2.2.2.1<=cN l p)(h1: ∀q,q≠p->idx rows' q=idx _f q)(h2: ∀r,idx rows' p=Z r-> ∃r0,idx _f p=Z r0/\r.1=bP r0.1 e.2.2.2.2.2.1):Rel (l++[e]) n fr lk rows':=by
 have k: ∀p,cN (l++[e]) p=cN l p:=λp=>ES λh=>he h.1;refine⟨h.rng,h.one,h.apt,λx o=>?_,by simpa only[k]using h.lak,λq r g=>?_,PZ h.pgs λc=>absurd c he⟩;rw[k];refine⟨(h.hot x o).1,λc r g=>?_⟩;by_cases j:x.1.1=p;rw[j]at g⊢;obtain⟨r0,v,w⟩:=h2 r g;have:=(h.hot x o).2 c r0 (by simp_all);rw[j]at this;have:=oD r0.1 e.2.2.2.2.2.1;omega;rw[h1 _ j]at g;exact(h.hot x o).2 c r g;rw[k];by_cases j:q=p;subst j;obtain⟨r0,v,w⟩:=h2 r g;obtain⟨y,z⟩:=h.row q r0 v;have:=oD r0.1 e.2.2.2.2.2.1;grind;rw[h1 _ j]at g;exact h.row q r g
theorem MV.inv{e:aA}{y:iT}(h:MV k e y)(hi:aY k)(he: ¬(e.2.1=1\/e.2.1=2))(A:e.2.1=7->e.2.2.2.2.2.1<=cN k.2.2.1.2.1 (aV e)):aY y.1:=by
 obtain⟨F,e',G,x,B,C,w,v,r,q,o,E,j,n⟩:=h;obtain⟨i1,i2,i3⟩:=hi;have g: ¬(e'.2.1=1\/e'.2.1=2):=by simp_all
 refine⟨r,by simp_all,?_⟩;rw[w,v,q,o];by_cases c:e.2.1=7;obtain⟨b1,b2⟩:=n c;have D:e'.2.2.2.2.2.1=e.2.2.2.2.2.1:=congrArg (λz:Int×aR×_j=>z.1) x;exact i3.note g (by simp_all) b1 (by grind);rw[j c];exact i3.ent g
theorem mq{m:Int}(e:oN (k,m)=Z k'):k'.1=k.1/\(lO k.2.2.1->lO k'.2.2.1)/\k'.2.2.1.2.1=k.2.2.1.2.1/\k'.2.2.2=k.2.2.2:=by
 apply _s.go e;unfold oN;refine .b λ_ _=>.b λg h=>.e (λc=>.s ?_) λ_=>.s ⟨rfl,id,rfl,rfl⟩;grind [XT]
theorem aY.same(h:aY k)(e1:k'.1=k.1)(e2:lO k.2.2.1->lO k'.2.2.1)(e3:k'.2.2.1.2.1=k.2.2.1.2.1)(j:k'.2.2.2.1.2.1=k.2.2.2.1.2.1)(e:k'.2.2.2.2.2.2.2=k.2.2.2.2.2.2.2)(g:k'.2.2.2.2.2.2.1=k.2.2.2.2.2.2.1):aY k':=by
 grind [aY]
theorem aY.force{m:Int}(h:aY k)(e:oN (k,m)=Z k'):aY k':=by obtain⟨j,o,n,g⟩:=mq e;exact h.same j o n (by rw[g]) (by rw[g]) (by rw[g])
theorem JIW{p:JJ}{x:JV}{y:jT}(e:LD (p,x)=Z y)(c:y.2=0): ∃i f r,idx p.2.1 i=Z f/\f.1.1=x.1/\y.1=(p.1,p.2.1.set i.toNat (x,O,r,O),p.2.2):=by
 revert c
 apply _s.go e;unfold LD;refine .b λ_ _=>.n (λ_=>.s nofun) λ_=>.b λk _=>.d (λc=>.s λh=>absurd h c) λ_=>.b λi hi=>.l (λ_=>.s nofun) λn=>.b λf hf=>.G (λ_=>.s nofun) λ_=>.n (λ_=>.b λq j=>.s λ_=>?_) λ_=>.b λq j=>.s λ_=>?_
 all_goals
  obtain⟨g,v,o⟩:=(zW hi).2.1 oo;grind [WG]
theorem xt{e:aA}{y:dH}(h:AN (k,e)=Z y)(hi:aY k)(hk:e.2.1=1\/e.2.1=2)(hf: ∃f∈k.2.2.2.1.2.1,f.1.1=aV e):aY y.1:=by
 apply _s.go h;unfold AN;dsimp only;have E:e.2.1≠7:=by omega
 have D:e.2.1≠6:=by omega
 refine .b λH h2=>.d (λ_=>.s hi) λC=>.b λj A=>.b λ_ _=>.b λ_ _=>.b λV F=>.d (λ_=>.s hi) λG=>.s ?_;obtain⟨f,hf,v⟩:=hf;have x:=hi.2.2.rng f hf;rw[v]at x;obtain⟨M,e',a1,N,_a,a4,a5,W,B,U,T,a9,Q,S⟩:=UN h2 C hi (λ_=>x) (λc=>absurd c E) (λc=>absurd c D);obtain⟨i,g,r,_d,n,_b⟩:=JIW F G;have L: ∃g∈k.2.2.2.1.2.1,g.1=j.1/\g.1.1=aV e:=by
  cases c3:j.2 with
  |true=>exact(DU A).1 c3
  |false=>exact absurd v ((DU A).2 c3 (QR M) f hf)
 obtain⟨g',_c,R,P⟩:=L;have w:j.1.1=aV e:=by simp_all
 have o:aV e'=aV e:=congrArg (λz:Int×aR×_j=>z.2.1.1) N;have hc:e'.2.1=1\/e'.2.1=2:=by simp_all
 have n:g.1.1=aV e:=n.trans w;have up:=hi.2.2.upd (l':=k.2.2.1.2.1++[e']) (rows':=k.2.2.2.2.2.2.1) (f':=((j.1.1,H.2.1,bN j.1.2.2 (_J e.2.2.2.2.2.2.1.2.1) e.2.2.2.2.2.2.1.2.2.2),O,r,O)) _d (w.trans n.symm)
  (λq _e=>ES λh=>_e (by simp_all)) (λ_ _=>rfl) (by
   grind [EM]) nofun (λr K=>by
   rw[EM,if_pos ⟨hc,by rw[o,n]⟩];have q:=(hi.2.2.row _ r K).1;have b:=Cv hi.2.1 (g.1.1);omega) (PZ hi.2.2.pgs λ_=>by rw[o];exact x.2)
 refine⟨B,by simp_all,?_⟩;simp_all
end
section
variable {B S:Int} {l l':List aA} {n:Int} {fr:List aJ} {lk lk' _f rows':List aD} {f f':aJ} {i:Int} {k k':J6}
theorem JQV{p:JJ}{x:JV}{y:Int×Int×Int×List aJ}(e:wP (p,x)=Z y)(c:y.2.2.1=0):y.2.2.2=p.2.1++[(x,J,0,O)]/\ ∀f∈p.2.1,f.1.1≠x.1:=by
 revert c
 apply _s.go e;unfold wP;refine .b λ_ _=>.n (λ_=>.s nofun) λ_=>.b λk _=>.d (λc=>.s λh=>absurd h c) λ_=>.b λi hi=>.h (λ_=>.s nofun) λn=>.e (λ_=>.s nofun) λ_=>.b λo q=>.b λg j=>.s λ_=>⟨?_,(zW hi).2.2 oo⟩;grind [hZ,PA]
theorem JLw{p:JJ}{id j:Int}{y:jT}(e:KT (p,id,j)=Z y)(c:y.2=0): ∃i f,idx p.2.1 i=Z f/\f.1.1=id/\j<=f.1.2.1/\(y.1.2.1=p.2.1\/ ∃f',f'.1=f.1/\(f'.2.1=J->f.2.1=J\/f.1.2.1=j)/\y.1.2.1=p.2.1.set i.toNat f'):=by
 revert c
 apply _s.go e;unfold KT;refine .b λ_ _=>.n (λ_=>.s nofun) λ_=>.b λi hi=>.l (λ_=>.s nofun) λw=>.b λf hf=>.g (λ_=>.s nofun) λn=>?_;obtain⟨g,r,o⟩:=(zW hi).2.1 oo;have:g=f:=by simp_all
 subst this;have n:j<=g.1.2.1:=Int.not_lt.1 n;have go: ∀{f':aJ} {q:JJ},f'.1=g.1->(f'.2.1=J->g.2.1=J\/g.1.2.1=j)->lG (p,i,f')=Z q-> ∃i f,idx p.2.1 i=Z f/\f.1.1=id/\j<=f.1.2.1/\(q.2.1=p.2.1\/ ∃f',f'.1=f.1/\(f'.2.1=J->f.2.1=J\/f.1.2.1=j)/\q.2.1=p.2.1.set i.toNat f'):=fun{f' q} h1 h2 k=>⟨i,g,r,o,n,.inr ⟨f',h1,h2,by rw[WG k]⟩⟩;refine .n (λ_=>.s λ_=>⟨i,g,r,o,n,.inl rfl⟩) λ_=>.e (λv=>.b λq k=>.s λ_=>go (f':=(g.1,J,0,g.2.2.2)) rfl (λ_=>.inr v) k) λ_=>.G (λ_=>.b λq k=>.s λ_=>go (f':=(g.1,g.2.1,J1 I j 1,g.2.2.2)) rfl (λh=>.inl h) k) λ_=>.b λq k=>.s λ_=>go (f':=(g.1,g.2)) rfl (λh=>.inl h) k
theorem JI4{p:JJ}(e:JW p=Z O):J0 p.2.1<=64:=by
 have g:_s (JW p) λy=>y=O->J0 p.2.1<=64:=.j (λ_=>.k (λ_=>.k (λ_=>λ_ _ _=>by omega) λ_=>.s nofun) λ_=>.s nofun) λ_=>.s nofun
 exact g _ e rfl
theorem JIV{x:JV}{y:dH}(e:xH (k,x)=Z y)(c:y.2=0)(hi:aY k):aY y.1:=by
 revert c
 apply _s.go e;unfold xH;dsimp only;refine .b λv U=>.n (λ_=>.s nofun) λK=>.j (λc0=>.h (λ_=>.s nofun) λc1=>.b λy3 h3=>.l (λ_=>.s nofun) λc3=>.b λy4 h4=>.g (λ_=>.s nofun) λc4=>.b λN S=>.d (λc=>.s λh=>absurd h c) λP=>.b λF Q=>?_) λ_=>.s nofun;subst K;obtain⟨i1,i2,i3⟩:=id hi;have _e:x.2.1=cN k.2.2.1.2.1 x.1:=(by grind [jk]);have G:0<=x.1/\x.1<k.1:=⟨by omega,by omega⟩;obtain⟨C,B⟩:=JQV S P;have A:=IN Q;refine .i (λD=>.b λ_ _=>.b λy8 w=>.b λ_ _=>.b λ_b j=>?_) λD=>.s λ_=>⟨i1,i2,?_⟩;have hlen: ∀z:aJ,(Ji I (J0 (k.2.2.2.1.2.1++[z])) 1).toNat=k.2.2.2.1.2.1.length:=λz=>by
  have o:=JX (J0 (k.2.2.2.1.2.1++[z])) 1;have q:=JI4 (QR U);have M:=J7 (l:=k.2.2.2.1.2.1);rw[cU,cI]at*;grind [J0]
 have st: ∀a b:aJ,(k.2.2.2.1.2.1++[a]).set k.2.2.2.1.2.1.length b=k.2.2.2.1.2.1++[b]:=λa b=>by simp
 have H: ∀a:aJ,(k.2.2.2.1.2.1++[a])[k.2.2.2.1.2.1.length]?=Z a:=λa=>by simp
 unfold bJ bM at*;rw[C,hlen,H]at w;cases w;simp only[C,hlen,st,H]at j⊢;cases j;refine .z (λz=>z.2.1=k/\z.2.2.1=x/\z.2.2.2.2.1=k.2.2.2.1.2.1++[(x,O,F.1.2.1,O)]/\z.1<=9223372036854775807/\(0<=z.1->z.2.2.2.2.2.2.2.2=(k.2.2.2.2.2.2.2.take z.1.toNat).filter λd=>d.1≠x.1)) ⟨rfl,rfl,rfl,show(0:Int)<=9223372036854775807 by decide,λ_=>rfl⟩ ?_;rintro⟨i,g,x2,k3,fr,u1,u2,u3,out⟩ ⟨rfl,rfl,n,L,E⟩;dsimp only at n L E;unfold ic;dsimp only;have o:=Jb i 1;have step: ∀{d:aD},idx g.2.2.2.2.2.2.2 i=Z d->0<=i/\(0<=J1 I i 1->g.2.2.2.2.2.2.2.take (J1 I i 1).toNat=g.2.2.2.2.2.2.2.take i.toNat++[d]):=fun{d} hd=>by obtain⟨_d,R⟩:=bT hd;exact⟨_d,λh=>by rw[show(J1 I i 1).toNat=i.toNat+1 by omega,_U,R];rfl⟩
 refine .l (λc=>.b λd hd=>.d (λ_c=>.b λd2 V=>.b λ_a W=>.s ⟨rfl,rfl,n,by grind,λh=>?_⟩) λ_c=>.s ⟨rfl,rfl,n,by grind,λh=>?_⟩) λc=>.s λ_=>⟨i1,i2,?_⟩;grind [hZ];simp_all;show Rel g.2.2.1.2.1 g.1 fr out g.2.2.2.2.2.2.1;have M:=J7 (l:=g.2.2.2.2.2.2.2);rw[n,E oo,e! (by grind [J0])];exact i3.add (f:=(x2,O,F.1.2.1,O)) B G _e nofun λd=>by simp
 show Rel _ _ N.2.2.2 _ _;rw[C];refine i3.add (f:=(x,J,0,O)) B G _e (λ_ r T=>?_) λd=>⟨λh=>⟨h,A.2 D d h⟩,λh=>h.1⟩;exact(i3.row x.1 r T).2 B (A.2 D)
end
section
variable {k k':J6}
theorem JNG{y:vx}(e:wY k=Z y)(c:y.2.2.2=0)(hi:aY k):aY y.1/\(y.2.2.1=O-> ∃f∈y.1.2.2.2.1.2.1,f.1=y.2.1):=by
 revert c
 apply _s.go e;unfold wY;refine .b λ_ _=>.n (λ_=>.s nofun) λ_=>.l (λ_=>.s λ_=>⟨hi,nofun⟩) λ_=>.b λn A=>.b λD H=>.b λf hf=>?_;have _d:n.2.2=0:=by
  have B:_s (BJ k.2.2.2.1) λy=>y.2.2=0\/y.1=(0,[],0):=by unfold BJ;refine .b λ_ _=>.n (λ_=>.s (.inr rfl)) λ_=>.e (λ_=>.s (.inr rfl)) λ_=>.z (λ_=>True) trivial λz _=>?_;unfold ib;exact .b λx S=>.i (λ_=>.b λy Q=>.b λq P=>.b λ_ _=>.s _g) λ_=>.map (.b λ_ _=>.s (.inl rfl))
  rcases B _ A with h|h
  all_goals grind [idx]
 have i3:Rel k.2.2.1.2.1 k.1 n.1.2.1 k.2.2.2.2.2.2.2 k.2.2.2.2.2.2.1:=JJc A hi.2.2 _d;refine .n (λM=>.b λw E=>.s λ_=>⟨⟨hi.1,hi.2.1,?_⟩,nofun⟩) λ_=>.b λK r=>.s λ_=>⟨aY.force (k:=(k.1,k.2.1,k.2.2.1,n.1,k.2.2.2.2)) ⟨hi.1,hi.2.1,i3⟩ r,λ_=>⟨f,?_,rfl⟩⟩;show Rel _ _ w.1.2.1 _ _;by_cases F:w.2=0;grind [JOk];refine absurd ?_ F;have G:_s (iW (n.1,n.2.1)) λi=>0<=i->JW n.1=Z O/\kF (n.1,n.2.1)=Z i:=.b λv _e=>.n (λ_=>.s λh=>absurd h _k) λL=>.b λi hi=>.s λ_=>⟨by simp_all,hi⟩
 obtain⟨o,_⟩:=bT hf;obtain⟨R,N⟩:=G _ H o;have C:_s (AQ (n.1,n.2.1)) λy=>y.2=0:=by
  unfold AQ;refine .b λv _e=>.n (λc=>?_) λ_=>.b λj T=>?_;simp_all;have:j=D:=by simp_all
  subst this;refine .l (λc=>absurd o oo) λ_=>.b λg _c=>.i (λc=>?_) λ_=>.b λ_ _=>.b λ_ _=>.b λ_ _=>.b λ_ _=>.l (λ_=>.h (λ_=>.s rfl) λ_=>.s rfl) λ_=>.h (λ_=>.s rfl) λ_=>.s rfl;simp_all
 exact C _ E;rw[(mq r).2.2.2];grind [qG]
theorem JIa{id:Int}{y:yg}(e:wQ (k,id)=Z y)(c:y.2.2=0)(hi:aY k):aY y.1/\ ∃f∈y.1.2.2.2.1.2.1,f.1=y.2.1:=by
 revert c
 apply _s.go e;unfold wQ;refine .b λ_ _=>.n (λ_=>.s nofun) λ_=>.b λo j=>.n (λ_=>.s nofun) λh=>.b λn g=>.s λ_=>⟨hi.force g,?_⟩;obtain⟨f,hf,q,_⟩:=(DU j).1 h;grind [mq]
theorem JIm{id j:Int}{y:dH}(e:xA (k,id,j)=Z y)(c:y.2=0)(hi:aY k)(hf: ∃f∈k.2.2.2.1.2.1,f.1.1=id/\f.1.2.1=j):aY y.1:=by
 revert c
 apply _s.go e;obtain⟨f,hf,D,S⟩:=hf;have hot:=(hi.2.2.hot f hf).1;rw[D,S]at hot;have _d: ∀{g:iT},hE (k,0,7,0,0,0,j,(id,0,(J,[]),J,[]),[])=Z g->g.2.2=0->aY g.1/\g.1.2.2.2.1=k.2.2.2.1/\g.1.1=k.1/\ ∀r,idx g.1.2.2.2.2.2.2.1 id=Z r->r.1=cN g.1.2.2.1.2.1 id:=by intro g x z;have q:=UN x z hi (λh=>absurd h (by simp_all)) (λ_=>Int.le_of_eq hot) (λh=>absurd h (by simp_all));refine⟨q.inv hi (by simp_all) (λ_=>Int.le_of_eq hot),?_⟩;obtain⟨T,e',a1,a2,a3,a4,R,L,_a,F,V,a9,U,C⟩:=q;refine⟨F,R,λr o=>?_⟩;obtain⟨A,b1,b2⟩:=(C rfl).2 r o;have G:=(hi.2.2.row id A b1).1;have w:=oD A.1 j;have b2:r.1=bP A.1 j:=b2;rw[L];show r.1=cN (k.2.2.1.2.1++[e']) id;rw[ES (by simp_all)];omega
 unfold xA;dsimp only;refine .b λv T=>.n (λ_=>.s nofun) λ_b=>.j (λ_=>.o (λ_=>.j (λ_=>.b λ_ _=>.g (λ_=>.s nofun) λ_=>.b λy4 P=>.h (λN=>.b λ_e Q=>.d (λc=>.s λh=>absurd h c) λK=>.b λg x=>.d (λc=>.s λh=>absurd h c) λz=>.s λ_=>?_) λN=>?_) λ_=>.s nofun) λ_=>.s nofun) λ_=>.s nofun;obtain⟨B,_c,g3,g4⟩:=_d x z;obtain⟨i,M,b1,b2,G,w⟩:=JLw Q K;refine⟨B.1,B.2.1,?_⟩;show Rel g.1.2.2.1.2.1 g.1.1 _e.1.2.1 g.1.2.2.2.2.2.2.2 g.1.2.2.2.2.2.2.1;have n:=B.2.2;rw[_c]at n;rcases w with w|⟨f',H,W,E⟩;grind;rw[E];have hh:=n.hot M (qG b1);refine n.upd b1 (by rw[H]) (λ_ _=>rfl) (λ_ _=>rfl) (by grind) (λ_ r o=>?_) (λr o=>(n.row _ r o).1) n.pgs;grind;refine absurd D ((mz P).2 oo (QR ?_) f hf);grind
theorem JGB{y:iT}(e:KU k=Z y)(c:y.2.2=0)(hi:aY k):aY y.1:=by
 revert c
 apply _s.go e;unfold KU;exact .b λ_ _=>.n (λ_=>.s nofun) λ_=>.g (λ_=>.s nofun) λ_=>.b λ_ _=>.d (λc=>.s λh=>absurd h c) λ_=>.s λ_=>hi
theorem JJw{n:Int}{a:oQ}{y:eO}(e:xJ (k,n,a)=Z y)(hi:aY k):aY y.1:=by apply _s.go e;unfold xJ;dsimp only;refine .b λw h2=>.n (λ_=>.s hi) λj=>.e (λ_=>.b λv q=>.b λ_ _=>.b λ_ _=>.s ⟨hi.1,hi.2.1,JQk q hi.2.2⟩) λ_=>.b λ_ _=>.b λr _=>?_;obtain⟨f,hf,_,h⟩:=(DU h2).1 j;exact .e (λ_=>.b λo g=>.d (λ_=>.b λ_ _=>.s hi) λ_=>.s (xt g hi (.inl rfl) ⟨f,hf,h⟩)) λ_=>.b λo g=>.d (λ_=>.b λ_ _=>.s hi) λ_=>.s (xt g hi (.inl rfl) ⟨f,hf,h⟩)
theorem VI{t m:Int}{y:iT}(e:hE (k,0,m,t,0,0,0,(0,0,(J,[]),J,[]),[])=Z y)(c:y.2.2=0)(hi:aY k)(hm:m=3\/m=4\/m=5):aY y.1:=by have q:=UN e c hi (λh=>by grind) (λh=>by simp_all) (λh=>by simp_all);exact q.inv hi (λh=>by grind) (λh=>by simp_all)
theorem JK5{n:Int}{y:eO}(e:xC (k,n)=Z y)(hi:aY k):aY y.1:=by apply _s.go e;unfold xC;exact .b λ_ _=>.b λ_ _=>.e (λ_=>.b λ_ _=>.b λ_ _=>.s hi) λ_=>.b λq g=>.d (λ_=>.b λ_ _=>.s hi) λj=>.b λo h=>.b λ_ _=>.s (show aY o from(VI g j hi (.inl rfl)).force h)
theorem O8{n st:Int}{y:eO}(e:uB (k,n,st)=Z y)(hi:aY k):aY y.1:=by apply _s.go e;unfold uB;refine .b λ_ _=>.b λ_ _=>.b λ_ _=>.e (λ_=>.b λ_ _=>.b λ_ _=>.s hi) λ_=>.b λo j=>.d (λ_=>.b λ_ _=>.s hi) λh=>.z (λz=>aY z.2.2.2.2.2.2.2) (VI (k:=(k.1,k.2.1,k.2.2.1,k.2.2.2.1,_,k.2.2.2.2.2)) j h hi (.inr (.inl rfl))) λz g=>?_;unfold gi;exact .l (λ_=>.b λ_ _=>.e (λ_=>.b λ_ _=>.b λ_ _=>.n (λ_=>.b λ_ _=>.b λ_ _=>.s g) λ_=>.s g) λ_=>.s g) λ_=>.s g
theorem JOI{v:Int}{a:oQ}{y:eO}(e:wL (k,v,a)=Z y)(hi:aY k):aY y.1:=by apply _s.go e;unfold wL;have g: ∀{o:Option (eD)},_s (o.bind λj=>if aQ j.2 0 then(Js j.2).bind λr=>Z (k,r)else Z ((k.1,k.2.1,k.2.2.1,k.2.2.2.1,k.2.2.2.2.1,j.1,k.2.2.2.2.2.2),1,0,0,(J,[]),0)) λy=>aY y.1:=.b λ_ _=>.d (λ_=>.b λ_ _=>.s hi) λ_=>.s hi;refine .b λ_ _=>.d (λ_=>.b λ_ _=>.s hi) λ_=>.e (λ_=>.b λC w=>.s (JK5 w hi)) λ_=>.e (λ_=>.b λB x=>.s (O8 x hi)) λ_=>.e (λ_=>.b λ_ _=>.e (λ_=>g) λ_=>.d (λ_=>.b λ_ _=>.s hi) λ_=>.s hi) λ_=>.e (λ_=>.b λ_ _=>.e (λ_=>g) λ_=>.d (λ_=>.b λ_ _=>.s hi) λ_=>.s hi) λ_=>.b λ_ _=>.b λh _=>.d (λ_=>.b λ_ _=>.s hi) λ_=>.i (λ_=>.b λz q=>.e (λ_=>.s hi) λ_=>.s (JJw (k:=(k.1,k.2.1,k.2.2.1,k.2.2.2.1,h.1,k.2.2.2.2.2)) q hi)) λ_=>.b λ_ _=>.g (λ_=>.b λA n=>.e (λ_=>.s hi) λ_=>.s (O8 (k:=(k.1,k.2.1,k.2.2.1,k.2.2.2.1,h.1,k.2.2.2.2.2)) n hi)) λ_=>.b λ_ _=>.s hi
theorem N3{x:Jr}{e:aA}{y:eO}(h:jL (k,x,e)=Z y)(hi:aY k):aY y.1:=by
 apply _s.go h;unfold jL;dsimp only;refine .b λw h2=>.n (λ_=>.s hi) λj=>.b λo z=>.b λ_ _=>.d (λ_=>.b λ_ _=>.s hi) λ_=>.b λv n=>.d (λ_=>.b λ_ _=>.s hi) λ_=>?_;obtain⟨f,hf,_,r⟩:=(DU h2).1 j;have q:o.1=e.2.2.2.2.2.2.1.1:=(by grind [SJ]);have g:=xt n hi (.inr rfl) ⟨f,hf,r.trans q.symm⟩;exact .e (λ_=>.b λ_ _=>.n (λ_=>.b λ_ _=>.s g) λ_=>.s g) λ_=>.s g
end
section
variable {k k':J6}
theorem JKG{g:Int}{c:Jn}{y:eO}(h:oO (k,g,c)=Z y)(hi:aY k):aY y.1:=by apply _s.go h;unfold oO;exact .b λ_ _=>.d (λ_=>.b λ_ _=>.s hi) λ_=>.d (λ_=>.b λ_ _=>.s hi) λ_=>.b λ_ _=>.n (λ_=>.s hi) λ_=>.b λj e=>.s (N3 e hi)
theorem A8{n:Int}{y:eO}(h:iI (k,n)=Z y)(hi:aY k):aY y.1:=by apply _s.go h;unfold iI;have nx: ∀x:Jr,_s ((rY (k,n)).bind λe=>if Jj e.2 then(Js 14).bind λj=>Z (k,j)else(jL (k,x,e.1)).bind λg=>Z (g.1,g.2)) λy=>aY y.1:=λx=>.b λ_ _=>.n (λ_=>.b λ_ _=>.s hi) λ_=>.b λw o=>.s (N3 o hi);exact .b λ_ _=>.d (λ_=>.b λ_ _=>.s hi) λ_=>.e (λ_=>.e (λ_=>.b λq v=>.d (λ_=>.b λ_ _=>.s hi) λr=>.b λ_ _=>.s (show aY q.1 from VI v r hi (.inr (.inr rfl)))) λ_=>nx _) λ_=>nx _
end
section
variable {k k':J6}
def Fl(r:eM):Prop:=r.1=5->r.2.2.2.2≠0
theorem xi{r:eM}(h:r.1≠5):Fl r:=λe=>absurd e h
theorem ON{n:Int}{r:eM}(h:Js n=Z r)(hn: ¬n=0):Fl r:=by unfold Js at h;cases h;exact λ_=>hn
theorem JOt{x:Jr}{e:aA}{y:eO}(h:jL (k,x,e)=Z y):Fl y.2:=by apply _s.go h;unfold jL;have d:Fl (1,x.1,0,(J,[]),0):=xi (show(1:Int)≠5 by decide);exact .b λq h2=>.n (λ_=>.s (xi (show(3:Int)≠5 by decide))) λg=>.b λo r=>.b λ_ _=>.d (λc=>.b λ_ h=>.s (ON h c)) λ_=>.b λj n=>.d (λc=>.b λ_ h=>.s (ON h c)) λ_=>.e (λ_=>.b λ_ _=>.n (λ_=>.b λ_ _=>.s d) λ_=>.s d) λ_=>.s d
theorem Aa{n:Int}{y:eO}(h:iI (k,n)=Z y):Fl y.2:=by apply _s.go h;unfold iI;have nx: ∀x:Jr,_s ((rY (k,n)).bind λe=>if Jj e.2 then(Js 14).bind λj=>Z (k,j)else(jL (k,x,e.1)).bind λg=>Z (g.1,g.2)) λy=>Fl y.2:=λx=>.b λ_ _=>.n (λ_=>.b λ_ h=>.s (ON h _k)) λ_=>.b λq o=>.s (JOt o);exact .b λ_ _=>.d (λc=>.b λ_ h=>.s (ON h c)) λ_=>.e (λ_=>.e (λ_=>.b λr w=>.d (λc=>.b λ_ h=>.s (ON h c)) λv=>.b λ_ _=>.s (xi (show(1:Int)≠5 by decide))) λ_=>nx _) λ_=>nx _
end
section
variable {s:Jw}
theorem Rp{k:J6}{x:JV}{y:eQ}(e:uE (s,k,x)=Z y)(c:y.2=0)(hi:aY k)(hf: ∃f∈k.2.2.2.1.2.1,f.1=x):aY y.1.1:=by
 revert c
 apply _s.go e;unfold uE;refine .b λ_ _=>.b λ_ _=>.d (λc=>.s λh=>absurd h c) λ_=>.b λn j=>.d (λc=>.s λh=>absurd h c) λg=>.s λ_=>JIm j g hi ?_;grind
theorem JIe{id:Int}{y:eQ}(e:KZ (s,id)=Z y)(c:y.2=0)(hi:aY s.1):aY y.1.1:=by
 revert c
 apply _s.go e;unfold KZ;refine .b λk h2=>.d (λc=>.s λh=>absurd h c) λg=>.b λ_ _=>.b λ_ _=>.n (λ_=>.s λ_=>hi) λ_=>.b λn o=>.s λj=>?_;grind [JIa,Rp]
theorem JO3{y:eQ}(e:wX s=Z y)(c:y.2=0)(hi:aY s.1):aY y.1.1:=by
 revert c
 apply _s.go e;unfold wX;refine .z (λz=>aY z.1.1) hi λz r=>?_;unfold cj;refine .b λv q=>.d (λc=>.s λh=>absurd h c) λo=>?_;obtain⟨g,k⟩:=JNG q o r;exact .n (λ_=>.s λ_=>g) λc=>.b λw n=>.d (λc=>.s λh=>absurd h c) λj=>.s (Rp n j g (k c))
theorem PU{id:Int}{y:eQ}(e:oK (s,id)=Z y)(c:y.2=0)(hi:aY s.1):aY y.1.1:=by
 revert c
 apply _s.go e;unfold oK;exact .b λ_ _=>.n (λ_=>.s nofun) λ_=>.j (λ_=>.h (λ_=>.s nofun) λ_=>.b λ_ _=>.h (λ_=>.s λ_=>hi) λ_=>.b λo n=>.d (λc=>.s λh=>absurd h c) λk=>.b λ_ _=>.d (λc=>.s λh=>absurd h c) λ_=>.b λ_ _=>.b λ_ _=>.d (λc=>.s λh=>absurd h c) λ_=>.b λ_ _=>.d (λc=>.s λh=>absurd h c) λ_=>.b λq j=>.d (λc=>.s λh=>absurd h c) λg=>.s λ_=>JIV j g (JO3 n k hi)) λ_=>.s nofun
theorem JFw{o:Int}{y:eQ}(e:uG (s,o)=Z y)(c:y.2=0)(hi:aY s.1):aY y.1.1:=by
 revert c
 apply _s.go e;unfold uG;refine .b λ_ _=>.n (λ_=>.s nofun) λ_=>.b λ_ _=>.l (λ_=>.s nofun) λ_=>.z (λz=>aY z.2.1.1) hi λz g=>?_;unfold ue;exact .b λ_ _=>.i (λ_=>.b λq j=>.e (λc=>.s λh=>absurd h (Aa (by assumption) c)) λ_=>.e (λ_=>.b λr n=>.d (λc=>.s λh=>absurd h c) λk=>.s (PU n k g)) λ_=>.s (A8 j g)) λ_=>.s λ_=>g
theorem JQ1{v:Int}{a:oQ}{y:eY}(e:KA (s,v,a)=Z y)(hi:aY s.1):aY y.1.1:=by
 apply _s.go e;unfold KA;refine .z (λz=>aY z.2.1.1) hi λz A=>?_;unfold rc;refine .b λj B=>?_;have g:=JOI B A;have rb: ∀{Q:(nN)⊕(eY)->Prop},(∀y,aY y.1.1->Q (.inr y))->_s ((xB ((j.1,z.2.1.2),z.1)).bind λr=>if r then(uG ((j.1,z.2.1.2),z.1)).bind λk=>if aQ k.2 0 then(Js k.2).bind λn=>Z (.inr ((j.1,z.2.1.2),n))else Z (.inr (k.1,j.2))else Z (.inr ((j.1,z.2.1.2),j.2))) Q:=
  λh=>.b λ_ _=>.i (λ_=>.b λC q=>.d (λ_=>.b λ_ _=>.s (h _ g)) λo=>.s (h _ (JFw (s:=(j.1,z.2.1.2)) q o g))) λ_=>.s (h _ g)
 exact .e (λ_=>.b λD x=>.d (λ_=>.b λ_ _=>.s g) λw=>.s (PU (s:=(j.1,z.2.1.2)) x w g)) λ_=>.p (λ_=>.e (λ_=>.p (λ_=>.e (λ_=>rb λ_ h=>h) λ_=>.s g) λ_=>rb λ_ h=>h) λ_=>.s g) λ_=>rb λ_ h=>h
theorem Co{y:tA}(e:LC s=Z y)(c:y.2.2=0)(hi:aY s.1):aY y.1.1:=by
 revert c
 apply _s.go e;unfold LC;exact .b λj h2=>.d (λc=>.s λh=>absurd h c) λg=>.s λ_=>JGB h2 g hi
theorem nd{h:Int}{l:Jn}{y:tA}(e:KK (s,h,l)=Z y)(hi:aY s.1):aY y.1.1:=by apply _s.go e;unfold KK;refine .z (λz=>aY z.2.2.1.1) hi λz g=>?_;unfold rz;exact .b λq n=>.e (λ_=>.s g) λ_=>.e (λ_=>.b λo k=>.d (λ_=>.s g) λj=>.s (PU k j g)) λ_=>.e (λ_=>.s g) λ_=>.s (JKG n g)
theorem jw{j:Int}{a:oQ}{y:eY}(e:IW (s,j,a)=Z y)(hi:aY s.1):aY y.1.1:=by apply _s.go e;unfold IW;refine .z (λz=>aY z.2.1.1) hi λz n=>?_;unfold qz;refine .b λo k=>?_;have g:=JQ1 k n;exact .d (λ_=>.s g) λ_=>.b λ_ _=>.n (λ_=>.s g) λ_=>.b λq h=>.d (λ_=>.b λ_ _=>.s (nd h g)) λ_=>.e (λ_=>.s (nd h g)) λ_=>.s (nd h g)
theorem JOR{y:wx}(e:KO s=Z y)(c:y.2.2=0)(hi:aY s.1):aY y.1.1:=by
 revert c
 apply _s.go e;unfold KO;refine .b λ_ _=>.n (λ_=>.s nofun) λ_=>.g (λ_=>.b λ_ _=>.b λr q=>.s λo=>PU q o hi) λ_=>.b λ_ _=>.e (λ_=>.s λ_=>hi) λ_=>.z (λz=>aY z.2.1.1) hi λz g=>?_;unfold su;exact .b λ_ _=>.b λw n=>.e (λc=>.s λh=>absurd h (Aa (by assumption) c)) λ_=>.d (λ_=>.s λ_=>A8 n g) λ_=>.b λv k=>.d (λc=>.s λh=>absurd h c) λj=>.s (PU k j g)
end
section
theorem yJ{n:Int}(h1:0<=n)(h2:n<18446744073709551616):IntKind.u64.wrap n=n:=by
 grind [IntKind.wrap,IntKind.bits,IntKind.signed]
theorem ef{n:Int}(h1: -9223372036854775808<=n)(h2:n<=9223372036854775807):IntKind.i64.wrap n=n:=by
 grind [IntKind.wrap,IntKind.bits,IntKind.signed]
theorem UO{l:_j}{k:Nat}(h:k<l.length):nR l (k:Int)=Z ((l[k]).toNat:Int):=by simp[nR,h]
theorem Oa{x b j:Nat}(hj:j<=7)(hx:x<2^(8*j))(hb:b<256):
  orI .u64 (x:Int) (IntKind.wrap .u64 (((b:Nat):Int)*2^(8*j)))=((x+b*2^(8*j):Nat):Int):=by
 have e:(2:Nat)^(8*j)*256<=2^64:=by rw[show(256:Nat)=2^8 by rfl,<-Nat.pow_add];exact GA oo oo
 have g:b*2^(8*j)+2^(8*j)<=2^64:=(by have:(b+1)*2^(8*j)<=256*2^(8*j):=zQ4 _ oo;grind);have w:IntKind.wrap .u64 (((b:Nat):Int)*2^(8*j))=((b*2^(8*j):Nat):Int):=(by grind [yJ]);rw[w];have h: ∀y:Nat,y<2^64->(BitVec.ofInt 64 (y:Int)).toNat=y:=by simp_all
 show IntKind.wrap .u64 (((BitVec.ofInt 64 (x:Int)|||BitVec.ofInt 64 ((b*2^(8*j):Nat):Int)).toNat:Nat):Int)=_;grind [Nat.mul_comm,Nat.two_pow_add_eq_or_of_lt,yJ]
theorem JE2{n i:Nat}(hn:n<2^64):J6R (n:Int) i=((n/2^(8*i)%256:Nat):Int):=by
 show((IntKind.wrap .u64 (n:Int)).fdiv (2^(8*i)))%256=_;grind [yJ]
theorem JJ2{n:Int}{k i:Nat}(h:i<k):(J0p n k)[i]?=Z (UInt8.ofNat (J6R n i).toNat):=by
 grind [J0p,_C]
theorem eA{s r:_j}{n:Int}{k:Nat}(h1:1<=k)(D:k<=8)(h:JC (s,n,(k:Int))=Z r):r=s++J0p n k:=by
 apply _s.go h;unfold JC;refine .j (λ_=>.g (λc=>by grind) λ_=>?_) λc=>by grind
 refine .z (λz=>z.2.1=n/\z.2.2.1=(k:Int)/\ ∃j:Nat,z.2.2.2=(j:Int)/\j<=k/\z.1=s++J0p n j) ⟨rfl,rfl,0,rfl,zQ2 _,by simp[J0p,_C]⟩ ?_;rintro⟨o,v,k',A⟩ ⟨rfl,rfl,j,rfl,F,e⟩;dsimp only at e;subst e;unfold ZV;dsimp only;have C:=Jb (j:Int) 1;have B:=pU 8 (j:Int);refine .l (λc=>.b λw q=>.b λE g=>.s ⟨rfl,rfl,j+1,by grind,by omega,?_⟩) λc=>.s (by grind);have y:aX .u8 w=J6R v j:=by
  have x:aX .u64 (bX I 8 (j:Int))=((8*j:Nat):Int):=(by grind [aX,yJ]);rw[x]at q;simp only[hX]at q;rw[if_neg oo]at q;injection q with q;rw[<-q];have:min (((8*j:Nat):Int)).toNat IntKind.u64.bits=8*j:=by simp only[_X];exact Nat.min_eq_left (by show 8*j<=64;omega)
  rw[this];rfl
 rw[y]at g;dsimp only;unfold cT at g;split at g;injection g with g;rw[<-g,Jul,iO];rfl;cases g
def At(s w:_j)(p:Int):Prop:= ∃pre post,s=pre++(w++post)/\(pre.length:Int)=p
theorem At.left{s a b:_j}{p:Int}(h:At s (a++b) p):At s a p:=by obtain⟨pre,post,e,h⟩:=h;exact⟨pre,b++post,by rw[e];simp,h⟩
theorem At.right{s a b:_j}{p:Int}(h:At s (a++b) p):At s b (p+a.length):=by obtain⟨pre,post,e,h⟩:=h;exact⟨pre++a,post,by rw[e];simp,by simp_all⟩
theorem At.bnd{s w:_j}{p:Int}(h:At s w p):0<=p/\p+w.length<=s.length:=by
 obtain⟨pre,post,e,h⟩:=h;grind
theorem At.slc{s w r:_j}{p q:Int}(h:At s w p)(hq:q=p+w.length)(e:bA s (Z p) (Z q)=Z r):r=w:=by
 obtain⟨pre,post,rfl,rfl⟩:=h;obtain⟨r',e',d,_⟩:=vV (l:=pre++(w++post)) (j:=pre.length) (k:=q) oo oo (by grind [J0]);rw[e']at e;cases e;rw[d,show(q-(pre.length:Int)).toNat=w.length by omega];simp
theorem At.all{s:_j}:At s s 0:=⟨[],[],by simp,rfl⟩
theorem DA{s:_j}{p:Int}{n k:Nat}(h:At s (J0p n k) p)(h1:1<=k)(E:k<=8)(hn:n<2^(8*k))(z:n<2^63)(hl:s.length<=4611686018427387904):
  JM (s,p,(k:Int))=Z ((n:Int),0):=by
 have hb:=h.bnd;rw[JO]at hb;obtain⟨pre,post,hs,rfl⟩:=h;apply _n.go;unfold JM;have o:=JX (J0 s) (pre.length:Int);have A:J0 s=(s.length:Int):=rfl;refine .j (λ_=>.k (λ_=>.l (λc=>by grind) λ_=>.k (λ_=>.l (λc=>by grind) λ_=>?_) λc=>by grind) λc=>by grind) λc=>by grind
 refine Jl (τ:=Nat) (λj=>(s,(pre.length:Int),(k:Int),((n%2^(8*j):Nat):Int),(j:Int))) (λj=>j<=k) (λj=>(k:Int)-j) ?_ 0 (by simp_all) (zQ2 _);intro j G;unfold BI;dsimp only;have C:=Jb (j:Int) 1;have B:=pU 8 (j:Int);have D:=Jb (pre.length:Int) (j:Int);refine .l (λc=>?_) λc=>.s ?_;have y:J1 I (pre.length:Int) (j:Int)=((pre.length+j:Nat):Int):=by omega
 have e:pre.length+j<s.length:=by omega
 have hb:(s[pre.length+j]'e).toNat=n/2^(8*j)%256:=(by have F:s[pre.length+j]?=Z (UInt8.ofNat (J6R (n:Int) j).toNat):=(by grind [JO,JJ2]);grind [JqV,JE2]);have q:n/2^(8*j)%256<256:=Nat.mod_lt _ oo;have v:aX .u64 (bX I 8 (j:Int))=((8*j:Nat):Int):=(by grind [aX,yJ]);have w:nP .u64 (aX .u64 (((s[pre.length+j]'e).toNat:Nat):Int)) ((8*j:Nat):Int)=Z (IntKind.wrap .u64 (((n/2^(8*j)%256:Nat):Int)*2^(8*j))):=by
  unfold aX;rw[hb,yJ oo oo];simp only[nP];rw[if_neg oo];have:min (((8*j:Nat):Int)).toNat IntKind.u64.bits=8*j:=by simp only[_X];exact Nat.min_eq_left (by show 8*j<=64;omega)
  rw[this]
 have g:=Oa (x:=n%2^(8*j)) (b:=n/2^(8*j)%256) (j:=j) oo (Nat.mod_lt _ (Nat.two_pow_pos _)) q;have r:n%2^(8*j)+n/2^(8*j)%256*2^(8*j)=n%2^(8*(j+1)):=by rw[Nat.mul_add,Nat.pow_add,Nat.mod_mul,GN (n/2^(8*j)%256)]
 rw[r]at g;rw[y,UO e,JF,v,w,JF,g];exact .s ⟨j+1,by grind,by omega,by omega,by omega⟩;grind [Nat.mod_eq_of_lt,aX,ef]
end
section
def mS(c:gP):Prop:=J0 c.2<=12/\(c.1=J->c.2=[])
def EV(e:aA):Prop:=(1<=e.1/\e.1<=1099511627776)/\(0<=e.2.2.2.1/\e.2.2.2.1<e.1)/\(0<=e.2.2.2.2.1/\e.2.2.2.2.1<e.1)/\(0<=e.2.2.2.2.2.1/\e.2.2.2.2.2.1<e.1)/\(1<=e.2.1/\e.2.1<=8)/\(0<=e.2.2.1/\e.2.2.1<=1073741824)/\(0<=aV e/\aV e<64)/\(0<=e.2.2.2.2.2.2.1.2.1/\e.2.2.2.2.2.2.1.2.1<16)/\mS e.2.2.2.2.2.2.1.2.2.1/\mS e.2.2.2.2.2.2.1.2.2.2/\J0 e.2.2.2.2.2.2.2<=8192
theorem Rz{c:gP}(h:JK c=Z O):mS c:=by
 have e:_s (JK c) λy=>y=O->mS c:=by
  unfold JK;refine .i (λj=>.t (λg=>.s ?_) λg=>.s ?_) λj=>.s ?_
  all_goals grind [mS,eqS,bD,J0]
 exact e _ h rfl
theorem EV.of{e:aA}(h:Jo e=Z O):EV e:=by
 obtain⟨G,B,A,F,E,D,⟨w,x,r,o⟩,j⟩:=e;have g: ∀{c:aR} {b:Bool},iJ c=Z b->b=O->(0<=c.1/\c.1<64)/\(0<=c.2.1/\c.2.1<16)/\mS c.2.2.1/\mS c.2.2.2:=fun{c b} hb K=>by
  have C:_s (iJ c) λy=>y=O->(0<=c.1/\c.1<64)/\(0<=c.2.1/\c.2.1<16)/\mS c.2.2.1/\mS c.2.2.2:=by unfold iJ;refine .h (λ_d=>.l (λL=>.h (λg=>.l (λN=>.b λa _c=>.i (λ_e=>.b λb hb=>.s λH=>?_) λ_=>.s nofun) λ_=>.s nofun) λ_=>.s nofun) λ_=>.s nofun) λ_=>.s nofun;subst _e;subst H;exact⟨⟨_d,L⟩,⟨g,N⟩,Rz _c,Rz hb⟩
  exact C _ hb K
 have z:mS (J,[]):=⟨show(0:Int)<=12 by decide,λ_=>rfl⟩;have V:_s (oJ (G,B,A,F,E,D,(w,x,r,o),j)) λy=>y.2=O->y.1=(G,B,A,F,E,D,(w,x,r,o),j)->(1<=B/\B<=8)/\(0<=A/\A<=1073741824)/\(0<=w/\w<64)/\(0<=x/\x<16)/\mS r/\mS o/\J0 j<=8192:=by
  unfold oJ;dsimp only
  repeat' first
   |refine .e (λ_=>?_) λ_=>?_
   |refine .h (λ_=>?_) λ_=>?_
   |refine .G (λ_=>?_) λ_=>?_
   |refine .g (λ_=>?_) λ_=>?_
   |exact .s λh=>absurd h Bool.false_ne_true
   |refine .b λv q=>.i (λk=>?_) λ_=>.s nofun
   |refine .b λv q=>.e (λ_=>.i (λk=>?_) λ_=>.s nofun) λ_=>.i (λk=>?_) λ_=>.s nofun
  all_goals refine .s λc P=>?_
  all_goals simp only[Prod.mk.injEq,true_and,and_true]at P
  all_goals simp only[dV,JI,fN]at c
  all_goals first
   |exact⟨by omega,by omega,(g q k).1,(g q k).2.1,(g q k).2.2.1,(g q k).2.2.2,by rw[<-P];exact(by decide:(0:Int)<=8192)⟩
   |exact⟨by omega,by omega,(g q k).1,(g q k).2.1,(g q k).2.2.1,(g q k).2.2.2,by rw[<-P.2];exact(by decide:(0:Int)<=8192)⟩
   |(have _b:r=(J,[]):=by grind
     have R:o=(J,[]):=by grind
     have Q:J0 j<=8192:=by
      first
       |exact c
       |(have:j=[]:=by grind
         rw[this];exact(by decide:(0:Int)<=8192))
     rw[_b,R];exact⟨by omega,by omega,by omega,by omega,z,z,Q⟩)
 have M: ∀{n l:Int} {b:Bool},lH (n,l)=Z b->b=O->0<=n/\n<l:=fun{n l b} hb K=>XK (by rw[<-K];exact hb);have C:_s (Jo (G,B,A,F,E,D,(w,x,r,o),j)) λy=>y=O->EV (G,B,A,F,E,D,(w,x,r,o),j):=.b λa _c=>.i (λ_d=>.i (λL=>.h (λg=>.G (λN=>.b λb1 T=>.i (λ_e=>.b λb2 S=>.i (λH=>.b λ_a U=>.s λW=>⟨⟨g,N⟩,M T _e,M S H,M U W,V _ _c _d (eB.1 L)⟩) λ_=>.s nofun) λ_=>.s nofun) λ_=>.s nofun) λ_=>.s nofun) λ_=>.s nofun) λ_=>.s nofun
 exact C _ h rfl
end
section
def rM(c:gP):_j:=if c.1=J then J0p 255 1 else J0p (J0 c.2) 1++c.2
def mN(e:aA):_j:=J0p e.1 8++(J0p e.2.1 1++(J0p e.2.2.1 4++(J0p e.2.2.2.1 8++(J0p e.2.2.2.2.1 8++(J0p e.2.2.2.2.2.1 8++(J0p (aV e) 4++(J0p e.2.2.2.2.2.2.1.2.1 1++(rM e.2.2.2.2.2.2.1.2.2.1++(rM e.2.2.2.2.2.2.1.2.2.2++(J0p (J0 e.2.2.2.2.2.2.2) 4++e.2.2.2.2.2.2.2))))))))))
theorem rN{a b r:_j}(h:cT a b=Z r):r=a++b:=by
 grind [cT]
theorem Od{s r:_j}{c:gP}(h:wW (s,c)=Z r):r=s++rM c:=by
 apply _s.go h;unfold wW rM;refine .n (λd=>.b λg h2=>.s ?_) λd=>.b λe n=>.b λj k=>.s ?_
 all_goals grind [eA,rN]
theorem Mx{e:aA}{y:_j×Int}(h:oR e=Z y)(hv:Jo e=Z O):y=(mN e,0):=by
 apply _s.go h;unfold oR;refine .b λv F=>.n (λc=>?_) λ_=>.b λK C=>.b λP A=>.b λM B=>.b λN x=>.b λ_d r=>.b λL w=>.b λ_c z=>.b λD n=>.b λ_e q=>.b λH o=>.b λE g=>.b λG j=>.s ?_;simp_all;rw[rN j,eA (k:=4) _k _k g,Od o,Od q,eA (k:=1) _k _k n,eA (k:=4) _k _k z,eA (k:=8) _k _k w,eA (k:=8) _k _k r,eA (k:=8) _k _k x,eA (k:=4) _k _k B,eA (k:=1) _k _k A,eA (k:=8) _k _k C];unfold mN;simp only[iO,qS];rfl
variable {s:_j} {p:Int}
theorem rF{n:Int}{k:Nat}(b:Nat)(h:At s (J0p n k) p)(hl:s.length<=1000000)(h0:0<=n)(hn:n<b)(hb:b=2^(8*k):=by rfl)(h1:1<=k:=by decide)(j:k<=8:=by decide)(q:n<9223372036854775808:=by omega):JB ((k:Int),s,p,0)=Z (n,s,p+k,0):=by have e:=h.bnd;rw[JO]at e;obtain⟨m,rfl⟩:=_W h0;have g:=DA h h1 j oo oo oo;have o:=Jb p (k:Int);unfold JB;dsimp only;rw[if_neg _k,g];dsimp only[_Q];rw[if_neg _k,show J1 I p (k:Int)=p+k by omega]
theorem M3{w:_j}(h:At s w p)(hl:s.length<=1000000):xO (J0 w,s,p,0)=Z (w,s,p+w.length,0):=by have hb:=h.bnd;have o:=Jb p (J0 w);have j:=JX (J0 s) p;have g:=JX (J1 I p (J0 w)) (J0 w);have k:J0 w=w.length:=rfl;have hs:J0 s=s.length:=rfl;apply _n.go;unfold xO;dsimp only;refine .d (λc=>absurd rfl c) λ_=>.g (λc=>by omega) λ_=>?_;rw[show Ji I (J1 I p (J0 w)) (J0 w)=p by omega,show J1 I p (J0 w)=p+w.length by omega];refine .b (vV (l:=s) hb.1 oo oo)._B λr e=>.s ?_;rw[h.slc rfl e.2]
theorem Ms{c:gP}(h:At s (rM c) p)(hc:mS c)(hl:s.length<=1000000):xM (s,p,0)=Z (c,s,p+(rM c).length,0):=by
 unfold rM at h⊢;unfold xM;obtain⟨b,d⟩:=c;obtain⟨h1,h2⟩:=hc;dsimp only at h h1 h2⊢;have e:=J7 (l:=d);cases b with
 |false=>rw[if_pos rfl]at h⊢;have g:=rF (k:=1) 256 h hl _k _k;rw[show JB (1,s,p,0)=_ from g,h2 rfl];rfl
 |true=>
  rw[if_neg _k]at h⊢;have g:=rF (k:=1) 256 h.left hl oo oo;have j:=M3 h.right hl;grind [JB,gM,fN,JO]
theorem UA{e:aA}(hv:Jo e=Z O):tZ (mN e)=Z (e,0)/\(mN e).length<=8300:=by
 obtain⟨N,_c,M,P,Q,H,_e,L,r,h,G⟩:=EV.of hv;have j: ∀{c:gP},mS c->(rM c).length<=13:=fun{c} hc=>by
  unfold rM;have:=hc.1;grind [J0,JO]
 have _d:=j r;have K:=j h;have hl:(mN e).length=46+(rM e.2.2.2.2.2.2.1.2.2.1).length+(rM e.2.2.2.2.2.2.1.2.2.2).length+e.2.2.2.2.2.2.2.length:=(by grind [mN,List.length_append,JO]);have F:J0 e.2.2.2.2.2.2.2=e.2.2.2.2.2.2.2.length:=rfl;refine⟨?_,by omega⟩;have hs:(mN e).length<=1000000:=by omega
 generalize E:mN e=s at hl hs;have g:At s (mN e) 0:=by rw[E];exact .all
 unfold mN at g;have D:=rF (k:=8) 18446744073709551616 g.left hs oo oo;replace g:=g.right;simp only[JO]at g;have C:=rF (k:=1) 256 g.left hs oo oo;replace g:=g.right;simp only[JO]at g;have B:=rF (k:=4) 4294967296 g.left hs oo oo;replace g:=g.right;simp only[JO]at g;have z:=rF (k:=8) 18446744073709551616 g.left hs oo oo;replace g:=g.right;simp only[JO]at g;have A:=rF (k:=8) 18446744073709551616 g.left hs oo oo;replace g:=g.right;simp only[JO]at g;have v:=rF (k:=8) 18446744073709551616 g.left hs oo oo;replace g:=g.right;simp only[JO]at g;have x:=rF (k:=4) 4294967296 g.left hs oo oo;replace g:=g.right;simp only[JO]at g;have y:=rF (k:=1) 256 g.left hs oo oo;replace g:=g.right;simp only[JO]at g;have w:=Ms g.left r hs;replace g:=g.right;have q:=Ms g.left h hs;replace g:=g.right;have n:=rF (k:=4) 4294967296 g.left hs oo oo;replace g:=g.right;simp only[JO]at g;have o:=M3 g hs;unfold tZ;rw[show JB (8,s,0,0)=_ from D,JF];rw[show JB (1,s,_,0)=_ from C,JF];rw[show JB (4,s,_,0)=_ from B,JF];rw[show JB (8,s,_,0)=_ from z,JF];rw[show JB (8,s,_,0)=_ from A,JF];rw[show JB (8,s,_,0)=_ from v,JF];rw[show JB (4,s,_,0)=_ from x,JF];rw[show JB (1,s,_,0)=_ from y,JF];rw[w,JF];rw[q,JF];rw[show JB (4,s,_,0)=_ from n,JF];rw[o,JF];dsimp only;rw[if_neg _k,if_neg (by grind [fB,J0])];rw[show Jo (e.1,e.2.1,e.2.2.1,e.2.2.2.1,e.2.2.2.2.1,e.2.2.2.2.2.1,(aV e,e.2.2.2.2.2.2.1.2.1,e.2.2.2.2.2.2.1.2.2.1,e.2.2.2.2.2.2.1.2.2.2),e.2.2.2.2.2.2.2)=Z O from hv];rfl
end
section
variable {s r w:_j} {p:Int}
theorem M9{c:Int}(h:oG s=Z c):0<=c/\c<4294967296:=by
 apply _s.go h;unfold oG;refine .z (λ_=>True) trivial λz _=>?_;unfold YY;refine .l (λ_=>.b λ_ _=>.z (λ_=>True) trivial λz _=>?_) λ_=>.s ?_;unfold SA;exact .l (λ_=>.e (λ_=>.b λ_ _=>.s _g) λ_=>.b λ_ _=>.s _g) λ_=>.s _g;exact⟨(qH .u32 _).1,Int.lt_of_le_of_lt (qH .u32 _).2 _k⟩
def FrB(w r:_j):Prop:=J0 w<=8392/\ ∃c,oG (J0p (J0 w) 4++w)=Z c/\r=(J0p (J0 w) 4++w)++J0p c 4
theorem TP(h:nF w=Z r)(hl:J0 w<=8392):FrB w r:=by
 apply _s.go h;unfold nF;refine .g (λc=>by omega) λ_=>.b λq h2=>.b λj e=>.b λc hc=>.b λn g=>.s ⟨hl,c,?_,?_⟩;rw[rN e,eA (k:=4) _k _k h2]at hc;exact hc;obtain⟨o,v⟩:=M9 hc;rw[eA (k:=4) _k _k g,rN e,eA (k:=4) _k _k h2];grind [aX,ef]
theorem FrB.len(h:FrB w r):(r.length:Int)=J0 w+8:=by
 obtain⟨_,c,_,rfl⟩:=h;grind [JO,J0]
theorem TT(h:FrB w r)(ha:At s r p)(hl:s.length<=4611686018427387904):jO (s,p)=Z (w,p+r.length,0):=by
 have hb:=ha.bnd;have F:=h.len;obtain⟨h1,c,hc,rfl⟩:=h;have A:=J7 (l:=w);obtain⟨m,o⟩:=_W A;obtain⟨B,L⟩:=M9 hc;obtain⟨_c,rfl⟩:=_W B;have k:=DA (n:=m) (by rw[<-o];exact ha.left.left) (by decide:1<=4) _k oo oo hl;have j:=DA ha.right (by decide:1<=4) _k oo oo hl;rw[<-o]at k;have H:J0 s=s.length:=rfl;have G:J0 w=w.length:=rfl;simp only[dZ,JO]at F j;have T:=Jb p 4;have S:=Jb (J1 I p 4) (J0 w);have U:=Jb p 8;have Q:=Jb (J1 I p 8) (J0 w);have _e:=JX (J0 s) p;have K:=Jb (J0 w) 8;simp only[dZ,JO]at hb;have z:J1 I (J1 I p 4) (J0 w)=p+((4+w.length:Nat):Int):=by omega
 have g:_n (jO (s,p)) λy=>y=(w,p+((4+w.length+4:Nat):Int),0):=by
  unfold jO;dsimp only;refine .j (λ_=>.g (λc=>by omega) λ_=>.b (eE k) λR v=>?_) λc=>by omega
  subst v;dsimp only;refine .d (λc=>absurd rfl c) λ_=>.g (λc=>by omega) λ_=>.l (λc=>by omega) λ_=>?_;rw[z];refine .b (eE j) λ_d x=>.b (vV (l:=s) hb.1 oo oo)._B λP E=>?_;subst x;rw[ha.left.slc (by simp[JO]) E.2];refine .b (eE hc) λM C=>?_;subst C;refine .d (λc=>absurd (by grind [aX,IntKind.wrap,IntKind.bits,IntKind.signed]) c) λ_=>?_;rw[show J1 I p 4=p+((4:Nat):Int) by omega];refine .b (vV (l:=s) oo oo oo)._B λN D=>.s ?_;have q:=ha.left.right;rw[JO]at q;rw[q.slc oo D.2,show J1 I (J1 I p 8) (J0 w)=p+((4+w.length+4:Nat):Int) by omega]
 obtain⟨y,e,d⟩:=g;grind [JO]
theorem JN1{m:Nat}(h:FrB w r)(ha:At s (r.take m) p)(hm:m<r.length)(he:p+m=s.length)(hl:s.length<=4611686018427387904):_s (jO (s,p)) λy=>y.2.2≠0:=by
 have hb:=ha.bnd;have B:=h.len;obtain⟨h1,c,hc,rfl⟩:=h;have o:J0 s=s.length:=rfl;have q:=JX (J0 s) p;have v:=Jb (J0 w) 8;have j:=J7 (l:=w);unfold jO;dsimp only;refine .j (λ_=>.g (λ_=>.s _k) λ_=>.b λx h2=>.d (λ_=>.s _k) λk=>.g (λ_=>.s _k) λ_=>.l (λ_=>.s _k) λA=>?_) λ_=>.s _k;exfalso;by_cases z:m<4;have g:_s (JM (s,p,4)) λy=>y.2≠0:=(by unfold JM;dsimp only;exact .j (λ_=>.k (λ_=>.l (λ_=>.s _k) λ_=>.k (λ_=>.l (λ_=>.s _k) λc=>by omega) λ_=>.s _k) λ_=>.s _k) λ_=>.s _k);exact g _ h2 k;obtain⟨n,C⟩:=_W j;have D:At s (J0p (J0 w) 4) p:=(by obtain⟨pre,post,e,hp⟩:=ha;refine⟨pre,((w++J0p c 4).take (m-4))++post,?_,hp⟩;grind [List.take_append,JO,e!]);grind [DA]
end
section
variable {s:_j} {l:Jx}
noncomputable def sP(e:aA):_j:=(wR e).getD []
noncomputable def frs(l:List aA):_j:=(l.map sP).flatten
theorem O6(a b:List aA):frs (a++b)=frs a++frs b:=by simp[frs]
theorem ma{e:aA}{r:_j}(h:wR e=Z r)(hv:Jo e=Z O):FrB (mN e) r/\sP e=r:=by
 refine⟨?_,by grind [sP]⟩;apply _s.go h;unfold wR;refine .b λj h2=>.b λg k=>.s ?_;grind [Mx,TP,UA,J0]
def hdB(h:_j):Prop:=FrB ([80,77,76,71]++J0p 1 8) h
theorem JRd{r:_j}(h:KQ 1=Z r):hdB r:=by apply _s.go h;unfold KQ;refine .b λj h2=>.b λg e=>.s ?_;rw[eA (k:=8) _k _k h2]at e;refine TP e ?_;simp[J0,JO]
def d7(l:List aA):Prop:= ∀e∈l,FrB (mN e) (sP e)/\Jo e=Z O
theorem JN9{D:Int}(h:sE (l,D)=Z s)(hi:lO l)(hc:dJ l.2.1):s=[]\/(d7 l.2.1/\s.length<=4611686018427387904/\ ∃hd rest,hdB hd/\s=hd++rest/\rest<+:frs l.2.1):=by
 apply _s.go h;obtain⟨i1,i2,i3,i4⟩:=hi;unfold sE;refine .b λ_ _=>.n (λ_=>.s (.inl rfl)) λ_=>.b λhd n=>?_;dsimp only at n;rw[i1]at n;refine .z (λz=>z.2.2.2.2=l/\ ∃i:Nat,z.2.2.2.1=(i:Int)/\i<=l.2.1.length/\d7 (l.2.1.take i)/\hd<+:z.2.1/\z.2.1++z.2.2.1=hd++frs (l.2.1.take i)/\((i:Int)<=l.2.2->z.2.2.1=[])) ⟨rfl,0,rfl,zQ2 _,λe h=>by simp at h,List.prefix_refl _,by simp[frs],λ_=>rfl⟩ ?_;rintro⟨t,a,b,T,l'⟩ ⟨C,i,B,hi,hf,hp,j,hb⟩;dsimp only at C B hi hf hp j hb;subst C;subst B;unfold tl;dsimp only;have o:=Jb (i:Int) 1;have nx: ∀{e:aA},idx l'.2.1 (i:Int)=Z e->l'.2.1.take (i+1)=l'.2.1.take i++[e]/\e.1=(i:Int)+1/\Jo e=Z O/\i+1<=l'.2.1.length:=fun{e} j=>by
  obtain⟨_,q⟩:=bT j;rw[_X]at q;have Q:=(dT.1 q).1;obtain⟨y,L,_⟩:=hc i e q;grind [_U,J0]
 have S: ∀{e:aA} {r:_j},wR e=Z r->Jo e=Z O->d7 (l'.2.1.take i++[e]):=fun{e r} U V x A=>by
  rcases zQ9.1 A with A|A;exact hf x A;simp_all [ma]
 refine .l (λc=>.b λe k=>.G (λN=>.b λ_c g=>.b λM G=>.b λv w=>.s ⟨rfl,i+1,?_⟩) λN=>.b λ_c g=>.b λM G=>.b λv w=>.s ⟨rfl,i+1,?_⟩) λc=>.map (.b λ_e F=>.b λR P=>.s (.inr ?_));rw[k]at g;cases g;obtain⟨y,L,K,E⟩:=nx k;have H:=hb oo;subst H;refine⟨by grind,E,by grind,?_,?_,λ_=>rfl⟩;show hd<+:v;rw[rN w];simp_all;show v++[]=_;rw[rN w,y,O6,<-iO,<-j];simp_all [frs,ma];rw[k]at g;cases g;obtain⟨y,L,K,E⟩:=nx k;refine⟨by grind,E,by grind,hp,?_,λh=>by exfalso;omega⟩;show a++v=_;rw[rN w,y,O6,<-iO hd,<-j];simp[frs,(ma G K).2];have _d:i=l'.2.1.length:=by grind [J0]
 rw[_d,List.take_length]at hf j;refine⟨hf,?_,hd,?_⟩;grind [cT];obtain⟨a',rfl⟩:=hp;refine⟨a'++_e,JRd n,by grind [rN],?_⟩;rw[iO]at j;have j:=List.append_cancel_left j;rw[<-j,(N9 F).2.2];simp[List.take_prefix]
theorem JPu{E:List aA}{hd rest:_j}{y:jG}(h:EW s=Z y)(hf:d7 E)(Q:dJ E)(hl:s.length<=4611686018427387904)(S:hdB hd)(hs:s=hd++rest)(hr:rest<+:frs E):y.2=0-> ∃m,y.1=(1,E.take m,(m:Int))/\m<=E.length/\m<=4096:=by
 apply _s.go h;have a0:At s hd 0:=⟨[],rest,by rw[hs];rfl,rfl⟩;have _c:=TT S a0 hl;unfold EW;refine .b λV h2=>.q (λ_=>.q (λ_=>.b λy3 h3=>.i (λ_=>.s nofun) λ_=>.b λy4 k=>.j (λ_=>.g (λ_=>.s nofun) λ_=>?_) λ_=>.s nofun) λ_=>.s nofun) λ_=>.s nofun;rw[_c]at h2;cases h2;dsimp only at h3 k⊢;have U:At ([80,77,76,71]++J0p 1 8) (J0p ((1:Nat):Int) 8) 4:=⟨[80,77,76,71],[],by simp,rfl⟩;have R:=DA U _k _k _k _k (by simp[JO]);have k:=k.symm.trans R;cases k;refine .z (λz=>z.1=s/\z.2.2.2.2.2.2.2.1=1/\ ∃m:Nat,m<=E.length/\m<=4096/\z.2.2.2.2.2.1=E.take m/\z.2.2.2.2.2.2.2.2=(m:Int)/\ ∃e,At s e z.2.1/\z.2.1+(e.length:Int)=(s.length:Int)/\e<+:frs (E.drop m)) ⟨rfl,rfl,0,zQ2 _,by decide,rfl,rfl,rest,⟨hd,[],by rw[hs];simp,by simp⟩,by simp_all,hr⟩ ?_;rintro⟨s',n,z1,z2,z3,es,z4,f,du⟩ ⟨rfl,rfl,m,hm,G,rfl,rfl,e,v,r,hp⟩;dsimp only at v r hp;unfold sw;dsimp only;have fin: ∃q,((1,E.take m,(m:Int)):Jx)=(1,E.take q,(q:Int))/\q<=E.length/\q<=4096:=⟨m,rfl,hm,G⟩;refine .l (λc=>.b λy6 B=>.d (λ_=>.s λ_=>fin) λK=>.b λy7 N=>.q (λc7=>.d (λ_=>.s λ_=>fin) λc8=>.b λy8 h8=>.s ⟨rfl,rfl,?_⟩) λ_=>.s λ_=>fin) λ_=>.s λ_=>fin;have hn:=v.bnd;by_cases j:m<E.length;have _d:E.drop m=E[m]::E.drop (m+1):=List.drop_eq_getElem_cons j;have D:E[m]∈E:=mP j;obtain⟨F,T⟩:=hf _ D;rw[_d]at hp;have _a:frs (E[m]::E.drop (m+1))=sP E[m]++frs (E.drop (m+1)):=by grind [frs]
 rw[_a]at hp;by_cases A:e.length<(sP E[m]).length;have e3:e=(sP E[m]).take e.length:=(by obtain⟨t,ht⟩:=hp;have:=congrArg (List.take e.length) ht;grind);exact absurd K (JN1 F (by grind) A r hl _ B);obtain⟨C,rfl⟩: ∃C,e=sP E[m]++C:=(by obtain⟨t,ht⟩:=hp;refine⟨e.drop (sP E[m]).length,?_⟩;have:=congrArg (List.take (sP E[m]).length) ht;grind [List.take_append_drop]);have M:=TT F v.left hl;have x:=B.symm.trans M;cases x;have w:=N.symm.trans (UA T).1;cases w;have L:J0 (E.take m)=m:=by grind [J0]
 rw[L]at c;obtain⟨_b,_⟩:=Q m _ (bF j);rw[L]at _b;have tk:E.take (m+1)=E.take m++[E[m]]:=by simp_all
 rw[dZ]at r;exact⟨m+1,j,by omega,by grind [hZ],by simp_all,C,v.right,by grind,(List.prefix_append_right_inj _).1 hp⟩;have W:E.drop m=[]:=List.drop_eq_nil_of_le oo;rw[W]at hp;have _e:e=[]:=by grind [frs]
 subst _e;exfalso;have a5:J0 s'=s'.length:=rfl;have o:=JX (J0 s') n;simp only[List.length_nil]at r hn;have H:_s (jO (s',n)) λy=>y.2.2≠0:=by
  unfold jO;dsimp only;refine .j (λ_=>.g (λ_=>.s _k) λ_=>.b λV h2=>.d (λ_=>.s _k) λP=>?_) λ_=>.s _k;have g:_s (JM (s',n,4)) λy=>y.2≠0:=by unfold JM;dsimp only;exact .j (λ_=>.k (λ_=>.l (λ_=>.s _k) λ_=>.k (λ_=>.l (λ_=>.s _k) λc=>by omega) λ_=>.s _k) λ_=>.s _k) λ_=>.s _k
  exact absurd P (g _ h2)
 exact H _ B K
end
section
variable {lk lk' _f rows' out:List aD} {e:aA} {m:List aA} {n:Int}
def Chg(e:aA):Prop:=e.2.1=1\/e.2.1=2
theorem tK{b:Bool}(h:Jh e=Z b):(b=O->Chg e)/\(b=J-> ¬Chg e):=by
 grind [Jh,Chg,gM]
def DG(lk:List aD)(e:aA)(d:aD):Prop:=(d.1=aV e->(Chg e->d.2.2=e.1)/\(¬Chg e-> ∃g∈lk,g.1=aV e/\d.2.2=g.2.2))/\(d.1≠aV e->d∈lk)
def DQ(e:aA)(out:List aD)(d:aD):Prop:=(d.1≠aV e->d∈out)/\(d.1=aV e-> ¬Chg e->e.2.2.2.2.2.1<d.2.2-> ∃g∈out,g.1=aV e)
def DI(lk:List aD)(e:aA)(i:Int)(dn:Bool)(out:List aD):Prop:=(∀d∈out,DG lk e d)/\upw (DQ e out) lk i/\(Chg e->dn=O-> ∃d∈out,d.1=aV e)
def DF(lk:List aD)(e:aA)(out:List aD):Prop:=(∀d∈out,DG lk e d)/\(∀d∈lk,DQ e out d)/\(Chg e-> ∃d∈out,d.1=aV e)
theorem DQ.app{d x:aD}(h:DQ e out d):DQ e (out++[x]) d:=by
 refine⟨λa=>by simp[h.1 a],λa b c=>?_⟩;obtain⟨g,h1,h2⟩:=h.2 a b c;grind
theorem upw.mono{α:Type}{P Q:α->Prop}{l:List α}{i:Int}(h:upw P l i)(e: ∀x,P x->Q x):upw Q l i:=⟨h.1,λa=>⟨(h.2 a).1,λx g=>e x ((h.2 a).2 x g)⟩⟩
theorem DI.app{i:Int}{dn:Bool}{x:aD}(h:DI lk e i dn out)(hx:DG lk e x):DI lk e i dn (out++[x]):=by
 refine⟨λd hd=>?_,h.2.1.mono λ_ q=>q.app,λa b=>?_⟩;rcases zQ9.1 hd with hd|hd;exact h.1 d hd;simp_all;obtain⟨d,h1,h2⟩:=h.2.2 a b;grind
theorem DI._m{i:Int}{dn:Bool}{t:Int}(h:DI lk e i dn out)(hc:Chg e):DI lk e i O (out++[(aV e,t,e.1)]):=by have q:=h.app (x:=(aV e,t,e.1)) ⟨λ_=>⟨λ_=>rfl,λh=>absurd hc h⟩,λh=>absurd rfl h⟩;exact⟨q.1,q.2.1,λ_ _=>⟨_,_Z _ (dC.2 rfl),rfl⟩⟩
theorem DI.next{i:Int}{dn g:Bool}{d:aD}(h:DI lk e i dn out)(hd:idx lk i=Z d)(hq:DQ e out d)(j:g=O->Chg e-> ∃d∈out,d.1=aV e):DI lk e (J1 I i 1) g out:=
 ⟨h.1,EG h.2.1 hd hq,λa b=>j b a⟩
theorem JNi{y:List aD}(h:nI (lk,e)=Z y):(Chg e\/e.2.1=7->DF lk e y)/\(¬(Chg e\/e.2.1=7)->y=lk):=by
 have lp:_s (J4 si (lk,J,0,e,[])) λy=>DF lk e y:=by
  refine .z (λz=>z.1=lk/\z.2.2.2.1=e/\DI lk e z.2.2.1 z.2.1 z.2.2.2.2) ⟨rfl,rfl,λd h=>by simp at h,HB,nofun⟩ ?_;rintro⟨l,dn,i,e',out⟩ ⟨h1,h2,hi⟩;dsimp only at h1 h2 hi;subst h1 h2;unfold si;dsimp only;have same: ∀{d:aD} {dn:Bool} {out:List aD},DI l e' i dn out->idx l i=Z d->
    _s (if aO d.1 e'.2.2.2.2.2.2.1.1 then
      (Jh e').bind λK=>
      if K then
       (Ju 24 out [(d.1,d.2.1,e'.1)]).bind λF=>
       Z (.inl (l,O,J1 I i 1,e',F))
      else
       if aT e'.2.2.2.2.2.1 d.2.2 then
        Z (.inl (l,O,J1 I i 1,e',out))
       else
        if aT e'.2.2.2.2.2.1 d.2.1 then
         (Ju 24 out [(d.1,J1 I e'.2.2.2.2.2.1 1,d.2.2)]).bind λk=>
         Z (.inl (l,O,J1 I i 1,e',k))
        else
         (Ju 24 out [d]).bind λD=>
         Z (.inl (l,O,J1 I i 1,e',D))
     else
      (Ju 24 out [d]).bind λw=>
      Z (.inl (l,dn,J1 I i 1,e',w))) λr:(jQ)⊕(List aD)=> ∃z,r=.inl z/\z.1=l/\z.2.2.2.1=e'/\DI l e' z.2.2.1 z.2.1 z.2.2.2.2:=by
   intro d dn out hi hd;have _d:=qG hd;have keep: ∀{t:Int} {k:List aD},d.1=aV e'-> ¬Chg e'->Ju 24 out [(d.1,t,d.2.2)]=Z k->DI l e' (J1 I i 1) O k:=fun{t k} v _e n=>by rw[hZ n];refine(hi.app (x:=(d.1,t,d.2.2)) ⟨λ_=>⟨λa=>absurd a _e,λ_=>⟨d,_d,v,rfl⟩⟩,λa=>absurd v a⟩).next hd ⟨λa=>absurd v a,λ_ _ _=>⟨(d.1,t,d.2.2),_Z _ (dC.2 rfl),v⟩⟩ λ_ a=>absurd a _e
   refine .e (λc=>.b λb hb=>.i (λg=>.b λF N=>.s ⟨_,rfl,rfl,rfl,?_⟩) λg=>.h (λH=>.s ⟨_,rfl,rfl,rfl,?_⟩) λH=>.h (λ_=>.b λk n=>.s ⟨_,rfl,rfl,rfl,keep c ((tK hb).2 g) n⟩) λ_=>.b λk n=>.s ⟨_,rfl,rfl,rfl,keep c ((tK hb).2 g) n⟩) λc=>.b λw G=>.s ⟨_,rfl,rfl,rfl,?_⟩;have hc:=(tK hb).1 g;dsimp only;rw[hZ N,show d.1=aV e' from c];have q:=hi._m (t:=d.2.1) hc;exact q.next hd ⟨λa=>absurd c a,λ_ b=>absurd hc b⟩ λ_ a=>q.2.2 a rfl;exact hi.next hd ⟨λa=>absurd c a,λ_ _ a=>absurd H oo⟩ λ_ a=>absurd a ((tK hb).2 g);dsimp only;rw[hZ G];have q:=hi.app (x:=d) ⟨λa=>absurd a c,λ_=>_d⟩;exact q.next hd ⟨λ_=>by simp,λa=>absurd a c⟩ λa b=>q.2.2 b a
  have j: ∀{d:aD} {dn:Bool} {out:List aD} {o:Option ((jQ)⊕(List aD))} {Q:((jQ)⊕(List aD))->Prop},(∀z,z.1=l/\z.2.2.2.1=e'/\DI l e' z.2.2.1 z.2.1 z.2.2.2.2->Q (.inl z))->_s o (λr=> ∃z,r=.inl z/\z.1=l/\z.2.2.2.1=e'/\DI l e' z.2.2.1 z.2.1 z.2.2.2.2)->_s o Q:=fun{d dn out o Q} h1 h2=>h2.mono λr ⟨z,_c,h⟩=>by grind
  refine .l (λ_=>.b λd hd=>.g (λ_=>.n (λ_=>.b λb hb=>.i (λg=>.b λL B=>j (d:=d) (dn:=dn) (out:=out) (λz h=>h) (same (dn:=true) ?_ hd)) λ_=>j (d:=d) (dn:=dn) (out:=out) (λz h=>h) (same hi hd)) λ_=>j (d:=d) (dn:=dn) (out:=out) (λz h=>h) (same hi hd)) λ_=>j (d:=d) (dn:=dn) (out:=out) (λz h=>h) (same hi hd)) λc=>.map ?_;rw[hZ B];exact hi._m ((tK hb).1 g);have A:=IK hi.2.1 c;refine .n (λ_=>.b λb hb=>.i (λg=>.b λL B=>.s ?_) λg=>.s ⟨hi.1,A,λa=>absurd a ((tK hb).2 g)⟩) λM=>.s ⟨hi.1,A,λa=>hi.2.2 a M⟩;dsimp only;rw[hZ B];have q:=hi._m (t:=e'.1) ((tK hb).1 g);exact⟨q.1,λd hd=>(A d hd).app,λa=>q.2.2 a rfl⟩
 apply _s.go h;unfold nI;refine .b λb hb=>.n (λg=>.d (λE=>.s ⟨λh=>?_,λ_=>rfl⟩) λE=>_s.mono (P:=λy=>DF lk e y) lp λy C=>⟨λ_=>C,λh=>absurd (.inr E) h⟩) λg=>lp.mono λy C=>⟨λ_=>C,λh=>absurd (.inl ((tK hb).1 g)) h⟩;grind [tK]
end
section
variable {lk lk' _f rows' out:List aD} {e:aA} {m:List aA} {n:Int}
theorem Rel.noted(h:Rel m n [] lk _f)(hm:dJ m)(he:UB m e)(hp:Chg e->aV e<n)(hd:(Chg e\/e.2.1=7->DF lk e lk')/\(¬(Chg e\/e.2.1=7)->lk'=lk))(hr:(e.2.1≠7->rows'=_f)/\(e.2.1=7->(∀q,q≠aV e->idx rows' q=idx _f q)/\ ∀r,idx rows' (aV e)=Z r-> ∃r0,idx _f (aV e)=Z r0/\r.1=bP r0.1 e.2.2.2.2.2.1)):Rel (m++[e]) n [] lk' rows':=by
 obtain⟨_e,_,_,y,_⟩:=he;by_cases hc:Chg e;have D:e.2.1≠7:=by rcases hc with h|h<;>omega
 obtain⟨g,k,G⟩:=hd.1 (.inl hc);rw[hr.1 D];refine⟨nofun,.nil,nofun,nofun,λd hd=>?_,λq r j=>?_,PZ h.pgs hp⟩;by_cases c:d.1=aV e;rw[EM,if_pos ⟨hc,c.symm⟩];exact((g d hd).1 c).1 hc;rw[ES λh=>c h.2.symm];exact h.lak d ((g d hd).2 c);obtain⟨v,w⟩:=h.row q r j;by_cases c:q=aV e;subst c;rw[EM,if_pos ⟨hc,rfl⟩];have:=Cv hm (aV e);grind;rw[ES λh=>c h.2.symm];exact⟨v,λa b=>w a λd hd hp=>b d ((k d hd).1 (by simp_all)) hp⟩;have z: ∀p,cN (m++[e]) p=cN m p:=λp=>ES λh=>hc h.1;by_cases o:e.2.1=7;obtain⟨g,k,_⟩:=hd.1 (.inr o);obtain⟨E,F⟩:=hr.2 o;have y:=y o;refine⟨nofun,.nil,nofun,nofun,λd hd=>?_,λq r j=>?_,PZ h.pgs hp⟩;rw[z];by_cases c:d.1=aV e;obtain⟨C,x,h1,h2⟩:=((g d hd).1 c).2 hc;rw[h2,h.lak C x,h1,c];exact h.lak d ((g d hd).2 c);rw[z];by_cases c:q=aV e;subst c;obtain⟨r0,x,h1⟩:=F r j;obtain⟨v,w⟩:=h.row _ r0 x;have mx:=oD r0.1 e.2.2.2.2.2.1;refine⟨by omega,λ_ b=>?_⟩;by_cases A: ∀d∈lk,d.1≠aV e;grind;obtain⟨d,hd,hp⟩: ∃d,d∈lk/\d.1=aV e:=by simpa using A
 have hl:=h.lak d hd;rw[hp]at hl;by_cases B:e.2.2.2.2.2.1<d.2.2;obtain⟨H,h1,h2⟩:=(k d hd).2 hp hc B;grind;omega;rw[E _ c]at j;obtain⟨v,w⟩:=h.row q r j;exact⟨v,λa b=>w a λd hd hp=>b d ((k d hd).1 (by simp_all)) hp⟩;rw[hd.2 (λh=>by simp_all),hr.1 o];exact h.ent hc
theorem JNV{a:oV}{y:yR}(h:KR (a,e)=Z y)(c:y.2=0)(hr:Rel m a.1 [] a.2.2.2.2.2.1 a.2.2.2.2.2.2)(hm:dJ m)(he:UB m e):y.1.1=a.1/\y.1.2.2.1=a.2.2.1/\Rel (m++[e]) y.1.1 [] y.1.2.2.2.2.2.1 y.1.2.2.2.2.2.2:=by
 revert c
 apply _s.go h;unfold KR;have o: ∀{t:Int} {j l2:List Jr},_s ((mI (a.2.2.2.2.2.2,e)).bind λg=>
  if aQ g.2 0 then
   Z ((a.1,t,a.2.2.1,j,a.2.2.2.2),g.2)
  else
   (Jh e).bind λv=>
   if v then
    if aT e.2.2.2.2.2.2.1.1 a.1 then
     Z ((a.1,t,a.2.2.1,j,a.2.2.2.2.1,a.2.2.2.2.2.1,g.1),1)
    else
     (nI (a.2.2.2.2.2.1,e)).bind λn=>
     Z ((a.1,t,a.2.2.1,j,a.2.2.2.2.1,n,g.1),0)
   else
    (nI (a.2.2.2.2.2.1,e)).bind λr=>
    Z ((a.1,t,a.2.2.1,j,a.2.2.2.2.1,r,g.1),0)) λy=>y.2=0->y.1.1=a.1/\y.1.2.2.1=a.2.2.1/\Rel (m++[e]) y.1.1 [] y.1.2.2.2.2.2.1 y.1.2.2.2.2.2.2:=fun{t j l2}=>by
   refine .b λg x=>.d (λc=>.s λh=>absurd h c) λw=>?_;have dn:(Chg e->aV e<a.1)->_s ((nI (a.2.2.2.2.2.1,e)).bind λn=>Z ((a.1,t,a.2.2.1,j,a.2.2.2.2.1,n,g.1),(0:Int))) λy=>y.2=0->y.1.1=a.1/\y.1.2.2.1=a.2.2.1/\Rel (m++[e]) y.1.1 [] y.1.2.2.2.2.2.1 y.1.2.2.2.2.2.2:=λhp=>.b λn q=>.s λ_=>⟨rfl,rfl,hr.noted hm he hp (JNi q) (Au x w).2⟩;exact .b λ_ hb=>.i (λ_=>.h (λ_=>.s nofun) λc=>dn λ_=>by unfold aV;omega) λc=>dn λk=>absurd k ((tK hb).2 c)
 refine .g (λ_=>.b λ_ _=>.l (λ_=>.b λ_ _=>.d (λc=>.s λh=>absurd h c) λ_=>.b λ_ _=>.d (λc=>.s λh=>absurd h c) λ_=>o (l2:=[])) λ_=>.b λ_ _=>.d (λc=>.s λh=>absurd h c) λ_=>o (l2:=[])) λ_=>.b λ_ _=>.d (λc=>.s λh=>absurd h c) λ_=>o (l2:=[])
variable {l:Jx}
theorem JJu{y:xd}(h:LN l=Z y)(hc:dJ l.2.1):y.2.2=O-> ∃(j:Nat),y.2.1=(j:Int)+1/\j+1<=l.2.1.length/\Rel (l.2.1.take (j+1)) y.1.1 [] y.1.2.2.2.1 y.1.2.2.2.2:=by
 apply _s.go h;unfold LN;refine .b λ_ _=>.n (λ_=>.s nofun) λ_=>.z (λz=>z.2.1=l) rfl ?_;rintro⟨i,l',z⟩ o;dsimp only at o;subst o;unfold H6;refine .h (λ_=>.b λE r=>.d (λ_=>.s rfl) λA=>.b λC k=>.b λx F=>.e (λG=>.b λB e=>.s λ_=>?_) λ_=>.s rfl) λ_=>.s nofun;rw[r]at k e;injection k with k;injection e with e;subst k;subst e;obtain⟨w,q⟩:=bT r;try dsimp only at w q
 obtain⟨D,_,_,_,v⟩:=hc _ _ q;have n:=(dT.1 q).1;have hl:J0 (l'.2.1.take i.toNat)=i:=by grind [J0]
 refine⟨i.toNat,by grind,n,?_⟩;have g:=v A x.1 (by grind);rw[_U,q];exact g.ent oo
theorem Pi{n:Int}{y:vO}(h:EP n=Z y): ∀r∈y.1,r.1=0:=by
 grind [EP,mkS]
theorem JLK{pages:Int}{y:yR}(hp:1<=pages/\pages<=64)(h:LB (l,pages)=Z y)(c:y.2=0)(hc:dJ l.2.1):y.1.1=pages/\ ∃j:Nat,y.1.2.2.1=(j:Int)/\j<=l.2.1.length/\Rel (l.2.1.take j) y.1.1 [] y.1.2.2.2.2.2.1 y.1.2.2.2.2.2.2:=by
 revert c
 apply _s.go h;unfold LB;refine .b λo h2=>.n (λ_=>.g (λ_=>.s nofun) λ_=>.b λn g=>.s λ_=>⟨rfl,0,rfl,zQ2 _,?_⟩) λk=>.d (λ_=>.s nofun) λcp=>.s λ_=>?_;refine⟨nofun,.nil,nofun,nofun,nofun,λp r e=>?_,hp,nofun⟩;have z:r.1=0:=Pi g r (qG e);rw[z];exact⟨bC _,λ_ _=>rfl⟩;grind [JJu]
theorem JHG{pages:Int}{y:yR}(h:LU (l,pages)=Z y)(c:y.2=0)(hc:dJ l.2.1):y.1.1=pages/\Rel l.2.1 pages [] y.1.2.2.2.2.2.1 y.1.2.2.2.2.2.2:=by
 revert c
 apply _s.go h;unfold LU;refine .b λ_ _=>.n (λ_=>.s nofun) λ_=>.j (λn=>.g (λ_=>.s nofun) λr=>.b λ_c _d=>.d (λc=>.s λh=>absurd h c) λ_e=>?_) λ_=>.s nofun;obtain⟨b1,j,b2,N,Q⟩:=JLK (by dsimp only at n r;omega) _d _e hc;refine .z (λz=>z.2.1=l/\z.2.2.2.1=pages/\z.2.2.2.2.2.1=(j:Int)/\z.1<=9223372036854775807/\(0<=z.1->Rel (l.2.1.take (max j z.1.toNat)) pages [] z.2.2.2.2.2.2.2.2.1 z.2.2.2.2.2.2.2.2.2)) ⟨rfl,b1,b2,show(0:Int)<=9223372036854775807 by decide,λ_=>by simp_all⟩ ?_;rintro⟨i,l',S,a⟩ ⟨h1,h2,v,H,C⟩;dsimp only at h1 h2 v H C;subst h1;unfold tu;dsimp only;have o:=Jb i 1;refine .l (λ_=>.b λe w=>.G (λF=>.s ⟨rfl,h2,v,by grind,λhp=>?_⟩) λF=>.b λR k=>.b λM E=>.d (λc=>.s λh=>absurd h c) λD=>.s ?_) λP=>.map (.z (λz=>z.2.2.2.1=a) rfl ?_);obtain⟨B,q⟩:=bT w;have K:=(hc _ _ q).1;have x:=(dT.1 q).1;have hl:J0 (l'.2.1.take i.toNat)=i:=by grind [J0]
 grind;rw[w]at k;cases k;obtain⟨B,q⟩:=bT w;have x:=(dT.1 q).1;have ea:=hc _ _ q;have hl:J0 (l'.2.1.take i.toNat)=i:=by grind [J0]
 have K:=ea.1;have g:=C B;rw[show max j i.toNat=i.toNat by omega]at g;obtain⟨n,r,G⟩:=JNV E D (by simp_all) (hc.take _) ea;refine⟨rfl,n.trans h2,r.trans v,by grind,λhp=>?_⟩;dsimp only at hp⊢;rw[show max j (J1 I i 1).toNat=i.toNat+1 by omega,_U,q,<-h2,<-n];exact G;rintro⟨i2,U,L,T,out⟩ A;dsimp only at A;subst A;unfold tr;refine .l (λ_=>.b λ_ _=>.g (λ_=>.b λ_ _=>.b λ_ _=>.s rfl) λ_=>.s rfl) λ_=>.map (.b λ_ _=>.d (λc=>.s λh=>absurd h c) λ_=>.s λ_=>⟨h2,?_⟩);grind [e!,J0]
theorem JM1{a:oV}{k:Int}{y:dH}(h:KW (l,a,k)=Z y)(c:y.2=0)(hl:lO l)(hc:dJ l.2.1)(hr:Rel l.2.1 a.1 [] a.2.2.2.2.2.1 a.2.2.2.2.2.2):aY y.1:=by
 revert c
 apply _s.go h;unfold KW;refine .b λq h2=>.d (λc=>.s λh=>absurd h _k) λn=>.b λ_ _=>.n (λ_=>.s nofun) λ_=>.z (λz=>aY z.2.2.2.2.2) ⟨hl,hc,?_⟩ ?_;grind [AO];intro z e;unfold se;exact .l (λ_=>.b λ_ _=>.e (λ_=>.s e) λ_=>.b λ_ _=>.b λo j=>.d (λc=>.s λh=>absurd h c) λg=>.s (VI j g e (.inr (.inl rfl)))) λ_=>.s λ_=>e
end
section
variable {s:_j} {p:Int}
theorem tC{n:Int}{k:Nat}(b:Nat)(h:At s (J0p n k) p)(hl:s.length<=4611686018427387904)(h0:0<=n)(hn:n<b)(hb:b=2^(8*k):=by rfl)(h1:1<=k:=by decide)(g:k<=8:=by decide)(e:n<9223372036854775808:=by omega):JM (s,p,(k:Int))=Z (n,0):=by
 grind [_W,DA]
def yF(r:aD):_j:=J0p r.1 8++(J0p r.2.1 8++J0p r.2.2 8)
def jV(l:List aD):_j:=(l.map yF).flatten
def RW(r:aD):Prop:=(0<=r.1/\r.1<=1099511627776)/\(0<=r.2.1/\r.2.1<=1099511627776)/\0<=r.2.2/\r.2.2<=1099511627776
def xW(r:aD):_j:=J0p r.1 1++(J0p r.2.1 8++J0p r.2.2 8)
def rJ(l:List aD):_j:=(l.map xW).flatten
def MW(r:aD):Prop:=(0<=r.1/\r.1<64)/\(0<=r.2.1/\r.2.1<=1099511627776)/\0<=r.2.2/\r.2.2<=1099511627776
theorem JNf{l:List aD}(h:iX l=Z O):J0 l<=64/\ ∀r∈l,RW r:=by
 have ls: ∀{n:Int} {b:Bool},qK n=Z b->b=O->0<=n/\n<=1099511627776:=fun{n b} hb C=>by
  have k:_s (qK n) λb=>b=O->0<=n/\n<=1099511627776:=.h (λc=>.s λd=>⟨c,dV.1 d⟩) λ_=>.s nofun
  exact k _ hb C
 have B:_s (iX l) λy=>y=O->J0 l<=64/\ ∀r∈l,RW r:=by unfold iX;refine .j (λ_=>.g (λ_=>.s nofun) λc=>.z (λz=>z.2=l/\upw RW l z.1) ⟨rfl,HB⟩ ?_) λ_=>.s nofun;rintro⟨i,l'⟩ ⟨h1,w⟩;dsimp only at h1 w;subst h1;unfold tp;have go: ∀{r:aD} {x A v:Bool},idx l' i=Z r->qK r.1=Z x->x=O->qK r.2.1=Z A->A=O->qK r.2.2=Z v->v=O->upw RW l' (J1 I i 1):=λj h1 e h2 g q o=>EG w j ⟨ls h1 e,ls h2 g,ls q o⟩;exact .l (λ_=>.b λr j=>.b λx h1=>.r (λe=>.b λA h2=>.r (λg=>.b λv q=>.r (λo=>.e (λ_=>.d (λ_=>.s nofun) λ_=>.s ⟨rfl,go j h1 e h2 g q o⟩) λ_=>.s ⟨rfl,go j h1 e h2 g q o⟩) λ_=>.s nofun) λ_=>.s nofun) λ_=>.s nofun) λD=>.s λ_=>⟨Int.not_lt.1 c,IK w D⟩
 exact B _ h rfl
theorem JQ5{l:List aD}{n:Int}(h:nK (l,n)=Z O)(hn:n<=64):J0 l<=64/\ ∀r∈l,MW r:=by
 have v:_s (nK (l,n)) λy=>y=O->J0 l<=64/\ ∀r∈l,MW r:=by
  unfold nK;refine .z (λz=>z.1=l/\z.2.1=n/\upw MW l z.2.2/\(0<=z.2.2->z.2.2<=J0 l/\z.2.2<=64/\ ∀r,idx l (z.2.2-1)=Z r->z.2.2-1<=r.1)) ⟨rfl,rfl,HB,λ_=>⟨J7,show(0:Int)<=64 by decide,λr e=>absurd (bT e).1 (show¬(0:Int)<=0-1 by decide)⟩⟩ ?_;rintro⟨l',j,i⟩ ⟨h1,h2,g,hi⟩;dsimp only at h1 h2 g hi;subst h1 h2;unfold it;dsimp only;have o:=Jb i 1;have G:=JX i 1;refine .l (λK=>.b λr e=>.j (λH=>.o (λ_e=>.j (λN=>.k (λL=>.k (λ_d=>?_) λ_=>.s nofun) λ_=>.s nofun) λ_=>.s nofun) λ_=>.s nofun) λ_=>.s nofun) λA=>.s λ_=>⟨?_,IK g A⟩;obtain⟨x,q⟩:=bT e;obtain⟨D,M,E⟩:=hi x;have w:MW r:=⟨⟨by omega,by omega⟩,⟨by omega,by omega⟩,by omega,by omega⟩;have nx:i<=r.1->(l'=l'/\j=j/\upw MW l' (J1 I i 1)/\(0<=J1 I i 1->J1 I i 1<=J0 l'/\J1 I i 1<=64/\ ∀r,idx l' (J1 I i 1-1)=Z r->J1 I i 1-1<=r.1)):=λC=>⟨rfl,rfl,EG g e w,λhp=>⟨by omega,by omega,λr' k=>by
   grind⟩⟩
  refine .g (λB=>.b λr' k=>.h (λ_=>.s nofun) λF=>.s (nx ?_)) λB=>.s (nx oo);grind;grind
 exact v _ h rfl
theorem JQQ{l:List aD}{y:_j×Int}(h:LG l=Z y)(hv:iX l=Z O):y.1=J0p (J0 l) 2++jV l:=by
 apply _s.go h;unfold LG;refine .b λv D=>.n (λc=>by simp_all) λ_=>.b λF B=>.z (λz=>z.2.2=l/\z.2.1<=9223372036854775807/\(0<=z.2.1->z.1=J0p (J0 l) 2++jV (l.take z.2.1.toNat))) ⟨rfl,show(0:Int)<=9223372036854775807 by decide,λ_=>by rw[eA (k:=2) _k _k B];simp[jV]⟩ ?_;rintro⟨o,i,l'⟩ ⟨h1,h2,hi⟩;dsimp only at h1 h2 hi;subst h1;unfold te;dsimp only;have _d:=Jb i 1;refine .l (λ_=>.b λr n=>.b λH A=>.b λK e=>.b λG x=>.b λE g=>.b λC j=>.s ⟨rfl,by grind,λhp=>?_⟩) λ_e=>.s ?_;rw[n]at e g;injection e with e;injection g with g;subst e;subst g;obtain⟨w,q⟩:=bT n;dsimp only at hp⊢;rw[eA (k:=8) _k _k j,eA (k:=8) _k _k x,eA (k:=8) _k _k A,hi w,show(J1 I i 1).toNat=i.toNat+1 by omega,_U,q];simp[jV,yF];grind [e!,J0]
theorem At._f{l:List aD}(h:At s (jV l) p): ∀{i:Nat} {r:aD},l[i]?=Z r->At s (yF r) (p+24*i):=by
 induction l generalizing p with
 |nil=>simp_all
 |cons x l ih=>
  intro i r g;have e:jV (x::l)=yF x++jV l:=by simp[jV]
  rw[e]at h;cases i with
  |zero=>simp at g;subst g;simpa using h.left
  |succ i=>
   have q:=ih h.right (i:=i) (r:=r) (by simpa using g);have j:(yF x).length=24:=by simp[yF,JO]
   grind
theorem At.dirs{l:List aD}(h:At s (rJ l) p): ∀{i:Nat} {r:aD},l[i]?=Z r->At s (xW r) (p+17*i):=by
 induction l generalizing p with
 |nil=>simp_all
 |cons x l ih=>
  intro i r g;have e:rJ (x::l)=xW x++rJ l:=by simp[rJ]
  rw[e]at h;cases i with
  |zero=>simp at g;subst g;simpa using h.left
  |succ i=>
   have q:=ih h.right (i:=i) (r:=r) (by simpa using g);have j:(xW x).length=17:=by simp[xW,JO]
   grind
theorem JQS{l:List aD}{y:vO}(h:LM (J0p (J0 l) 2++jV l)=Z y)(hl:J0 l<=64)(A: ∀r∈l,RW r)(c:y.2=0):y.1=l:=by
 have len:(jV l).length=24*l.length:=by
  clear h hl A
  induction l with
  |nil=>rfl
  |cons x l ih=>grind [jV,yF,JO]
 have F:=J7 (l:=l);have K:J0 l=l.length:=rfl
 revert c
 apply _s.go h;generalize _d:J0p (J0 l) 2++jV l=s;have C:At s (J0p (J0 l) 2++jV l) 0:=by rw[_d];exact .all
 have hs:s.length<=4611686018427387904:=by grind [JO]
 have g:=tC (k:=2) 65536 C.left hs F oo;have D:=C.right;rw[JO]at D;unfold LM;refine .b λ_b h2=>.q (λ_=>.l (λ_=>.s nofun) λ_=>.g (λ_=>.s nofun) λ_=>?_) λ_=>.s nofun;have w:=h2.symm.trans g;cases w;refine .z (λz=>z.1=s/\z.2.1=J0 l/\ ∃i:Nat,z.2.2.1=(i:Int)/\i<=l.length/\z.2.2.2.2=l.take i) ⟨rfl,rfl,0,rfl,zQ2 _,rfl⟩ ?_;rintro⟨s',n,W,z,o⟩ ⟨h1,B,i,j,v,e⟩;dsimp only at h1 B j v e;subst h1 B j e;unfold tf;dsimp only;have V:=Jb (i:Int) 1;have om:=pU 24 (i:Int);have N:=Jb 2 (bX I 24 (i:Int));have R:=Jb 10 (bX I 24 (i:Int));have T:=Jb 18 (bX I 24 (i:Int));refine .l (λS=>.b λU j=>.b λ_c v=>.b λP e=>.b λL M=>.s ⟨rfl,rfl,i+1,by grind,by omega,?_⟩) λQ=>.map (.b λ_ _=>.n (λ_=>.s nofun) λ_=>.s λ_=>by grind);have q:i<l.length:=by omega
 have _e:=bF q;obtain⟨E,G,H⟩:=A _ (mP q);have ar:=D._f _e;unfold yF at ar;have g1:=tC (k:=8) 18446744073709551616 ar.left hs E.1 oo;have ar:=ar.right;rw[JO]at ar;have g2:=tC (k:=8) 18446744073709551616 ar.left hs G.1 oo;have ar:=ar.right;rw[JO]at ar;have _a:=tC (k:=8) 18446744073709551616 ar hs H.1 oo;rw[show J1 I 2 (bX I 24 (i:Int))=0+((2:Nat):Int)+24*(i:Int) by omega]at j;rw[show J1 I 10 (bX I 24 (i:Int))=0+((2:Nat):Int)+24*(i:Int)+((8:Nat):Int) by omega]at v;rw[show J1 I 18 (bX I 24 (i:Int))=0+((2:Nat):Int)+24*(i:Int)+((8:Nat):Int)+((8:Nat):Int) by omega]at e;grind [hZ,_U]
end
section
variable {s:_j} {p:Int}
theorem Rg{c:lM}(h:sD c=Z O):(1<=c.1/\c.1<=64)/\nK (c.2.2.2.1,c.1)=Z O/\iX c.2.2.2.2=Z O:=by
 have e:_s (sD c) λy=>y=O->(1<=c.1/\c.1<=64)/\nK (c.2.2.2.1,c.1)=Z O/\iX c.2.2.2.2=Z O:=.j (λn=>.k (λj=>.j (λ_=>.k (λ_=>.b λ_ _=>.r (λ_=>.b λa o=>.r (λk=>.b λb hb=>.r (λg=>.d (λ_=>.s nofun) λ_=>λ_ _ _=>⟨⟨by omega,by omega⟩,by simp_all,by simp_all⟩) λ_=>.s nofun) λ_=>.s nofun) λ_=>.s nofun) λ_=>.s nofun) λ_=>.s nofun) λ_=>.s nofun) λ_=>.s nofun
 exact e _ h rfl
def ckB(c:lM)(t:_j):_j:=J0p c.1 2++(J0p c.2.1 4++(J0p (J0 t) 4++(t++(J0p (J0 c.2.2.2.1) 1++(rJ c.2.2.2.1++(J0p (J0 c.2.2.2.2) 2++jV c.2.2.2.2))))))
theorem JQr{c:lM}{y:_j×Int}(h:LO c=Z y):y.1=[]\/(sD c=Z O/\ ∃t,y.1=ckB c t):=by
 apply _s.go h;unfold LO;refine .b λv x=>.n (λ_=>.s (.inl rfl)) λN=>.b λw V=>.b λT H=>.b λQ _e=>.b λR E=>.b λL B=>.b λP D=>?_;have x:sD c=Z O:=by simp_all
 obtain⟨_,_,F⟩:=Rg x;refine .z (λz=>z.2.2=c/\z.2.1<=9223372036854775807/\(0<=z.2.1->z.1=J0p c.1 2++(J0p c.2.1 4++(J0p (J0 w.1) 4++(w.1++(J0p (J0 c.2.2.2.1) 1++rJ (c.2.2.2.1.take z.2.1.toNat))))))) ⟨rfl,show(0:Int)<=9223372036854775807 by decide,λ_=>?_⟩ ?_;dsimp only;rw[eA (k:=1) _k _k D,rN B,eA (k:=4) _k _k E,eA (k:=4) _k _k _e,eA (k:=2) _k _k H];simp[rJ];rintro⟨o,i,c'⟩ ⟨h1,h2,hi⟩;dsimp only at h1 h2 hi;subst h1;unfold ta;dsimp only;have U:=Jb i 1;refine .l (λ_=>.b λr A=>.b λa _d=>.b λW j=>.b λb hb=>.b λM n=>.b λd hd=>.s ⟨rfl,by grind,λhp=>?_⟩) λS=>.map (.b λe K=>.b λg G=>.s (.inr ⟨x,w.1,?_⟩));rw[A]at j n;injection j with j;injection n with n;subst j;subst n;obtain⟨C,q⟩:=bT A;dsimp only at hp⊢;rw[eA (k:=8) _k _k hd,eA (k:=8) _k _k hb,eA (k:=1) _k _k _d,hi C,show(J1 I i 1).toNat=i.toNat+1 by omega,_U,q];simp[rJ,xW];have _c:=J7 (l:=c'.2.2.2.1);show g=_;rw[rN G,JQQ K F,hi oo,e! (by grind [J0])];simp[ckB]
theorem Cp(l:List aD):(rJ l).length=17*l.length:=by
 induction l with
 |nil=>rfl
 |cons x l ih=>grind [rJ,xW,JO]
theorem JQI{c c':lM}{t:_j}(hv:sD c=Z O)(hl:(ckB c t).length<=8192)(h:xI (ckB c t)=Z (c',0)):c'.1=c.1/\c'.2.2.2.1=c.2.2.2.1/\c'.2.2.2.2=c.2.2.2.2:=by
 obtain⟨v1,v2,v3⟩:=Rg hv;obtain⟨d1,S⟩:=JQ5 v2 v1.2;obtain⟨r1,r2⟩:=JNf v3;have M:_s (xI (ckB c t)) λy=>y.2=0->y.1.1=c.1/\y.1.2.2.2.1=c.2.2.2.1/\y.1.2.2.2.2=c.2.2.2.2:=by
  generalize P:ckB c t=s at hl;have w:At s (ckB c t) 0:=by rw[P];exact .all
  have hs:s.length<=4611686018427387904:=by omega
  unfold ckB at w;have R:=tC (k:=2) 65536 w.left hs oo oo;have g:=w.right.right;simp only[JO]at g;have b1:=g.bnd;simp only[dZ,JO]at b1;have lt:J0 t=t.length:=rfl;have ld:J0 c.2.2.2.1=c.2.2.2.1.length:=rfl;have ls:J0 s=s.length:=rfl;have _c:=tC (k:=4) 4294967296 g.left hs oo oo;have x:=g.right.right;simp only[JO]at x;have V:=tC (k:=1) 256 x.left hs oo oo;have B:=x.right;simp only[JO]at B;have Q:=B.right;rw[Cp]at Q;have o1:=Jb 10 (J0 t);have o2:=Jb (J1 I 10 (J0 t)) 1;unfold xI;refine .b λy2 h2=>.b λy3 h3=>.b λy4 h4=>?_;have v:=h2.symm.trans R;have r:=h4.symm.trans _c;injection v with v;injection r with r;subst v;subst r;dsimp only;refine .q (λ_=>.g (λ_=>.s nofun) λ_=>.b λy5 h5=>.b λy6 N=>?_) λ_=>.s nofun;rw[show J1 I 10 (J0 t)=0+((2:Nat):Int)+((4:Nat):Int)+((4:Nat):Int)+(t.length:Int) by omega]at N;have q:=N.symm.trans V;cases q;refine .q (λ_=>.l (λ_=>.s nofun) λ_=>?_) λ_=>.s nofun;refine .z (λz=>z.1=s/\z.2.2.2.1=J0 c.2.2.2.1/\z.2.2.2.2.2.2.2.2.2.2.2.1=c.1/\ ∃i:Nat,z.2.2.2.2.1=(i:Int)/\i<=c.2.2.2.1.length/\z.2.2.1=11+J0 t+17*(i:Int)/\z.2.2.2.2.2.2.2.2.2.2.1=c.2.2.2.1.take i) ⟨rfl,rfl,rfl,0,rfl,zQ2 _,by grind,rfl⟩ ?_;rintro⟨s',A,ai,n,i',q2,q3,q4,q5,q6,D,pg,q7⟩ ⟨_d,H,_e,i,F,_b,L,o⟩;dsimp only at _d H _e F _b L o;subst _d H _e F L o;unfold s9;dsimp only;have p1:=Jb (i:Int) 1;have p2:=Jb (11+J0 t+17*(i:Int)) 1;have p3:=Jb (11+J0 t+17*(i:Int)) 9;have p4:=Jb (11+J0 t+17*(i:Int)) 17;refine .l (λci=>.b λy8 W=>.b λy9 h9=>.b λae G=>.b λah ak=>.s ⟨rfl,rfl,rfl,i+1,by grind,by omega,by grind,?_⟩) λcn=>.map (.b λag _=>.d (λc=>.s λh=>absurd h c) λ_=>.b λK C=>.b λaj ad=>.d (λc=>.s λh=>absurd h c) λaf=>.b λ_ _=>.n (λ_=>.s nofun) λ_=>.s λ_=>⟨rfl,?_,?_⟩);have j:i<c.2.2.2.1.length:=by omega
  have hr:=bF j;obtain⟨U,T,f3⟩:=S _ (mP j);have ar:=B.left.dirs hr;unfold xW at ar;have R:=tC (k:=1) 256 ar.left hs U.1 oo;have ar:=ar.right;rw[JO]at ar;have g2:=tC (k:=8) 18446744073709551616 ar.left hs T.1 oo;have ar:=ar.right;rw[JO]at ar;have _c:=tC (k:=8) 18446744073709551616 ar hs f3.1 oo;rw[show 11+J0 t+17*(i:Int)=0+((2:Nat):Int)+((4:Nat):Int)+((4:Nat):Int)+(t.length:Int)+((1:Nat):Int)+17*(i:Int) by omega]at W;rw[show J1 I (11+J0 t+17*(i:Int)) 1=0+((2:Nat):Int)+((4:Nat):Int)+((4:Nat):Int)+(t.length:Int)+((1:Nat):Int)+17*(i:Int)+((1:Nat):Int) by omega]at h9;rw[show J1 I (11+J0 t+17*(i:Int)) 9=0+((2:Nat):Int)+((4:Nat):Int)+((4:Nat):Int)+(t.length:Int)+((1:Nat):Int)+17*(i:Int)+((1:Nat):Int)+((8:Nat):Int) by omega]at G;grind [hZ,_U];grind;have hi:i=c.2.2.2.1.length:=by omega
  obtain⟨_,E⟩:=A2 C;have e:K=J0p (J0 c.2.2.2.2) 2++jV c.2.2.2.2:=by
   obtain⟨pre,post,A,q2⟩:=Q;have _a:(pre++((J0p (J0 c.2.2.2.2) 2++jV c.2.2.2.2)++post)).length=(J0p c.1 2++(J0p c.2.1 4++(J0p (J0 t) 4++(t++(J0p (J0 c.2.2.2.1) 1++(rJ c.2.2.2.1++(J0p (J0 c.2.2.2.2) 2++jV c.2.2.2.2))))))).length:=by rw[<-A,<-P];rfl
   simp only[dZ,JO,Cp]at _a;have hp:post=[]:=_Y.1 oo;subst hp;rw[E,A,gE,show(11+J0 t+17*(i:Int)).toNat=pre.length by omega];simp
  grind [JQS]
 exact M _ h rfl
end
section
variable {k:J6}
theorem JHl{p:JJ}{y:List aD}(h:AT p=Z y)(hv:JW p=Z O)(one:p.2.1.Pairwise λa b=>a.1.1≠b.1.1):(∀d∈y,∃f∈p.2.1,f.1.1=d.1/\d.2.2=f.1.2.1)/\ ∀f∈p.2.1,f.2.1=O->0<=f.1.1->f.1.1<64-> ∃d∈y,d.1=f.1.1:=by
 apply _s.go h;unfold AT;refine .b λv _d=>.n (λc=>by simp_all) λ_=>.z (λz=>z.2.1=p/\(0<=z.1/\z.1<=64)/\(∀d∈z.2.2,∃f∈p.2.1,f.1.1=d.1/\d.2.2=f.1.2.1)/\ ∀f∈p.2.1,f.2.1=O->0<=f.1.1->f.1.1<z.1-> ∃d∈z.2.2,d.1=f.1.1) ⟨rfl,⟨bC _,show(0:Int)<=64 by decide⟩,nofun,λf _ _ a b=>by grind⟩ ?_;rintro⟨i,F,o⟩ ⟨h1,⟨h2,H⟩,k,r⟩;dsimp only at h1 h2 H k r;subst h1;unfold tg;dsimp only;have _c:=Jb i 1;refine .l (λE=>.b λj B=>.h (λw=>.b λf hf=>?_) λw=>.s ⟨rfl,by grind,k,λg G a b c=>?_⟩) λE=>.s ⟨k,λf hf a b c=>r f hf a b oo⟩;obtain⟨g,n,P⟩:=(zW B).2.1 w;rw[hf]at n;cases n;have D: ∀x∈F.2.1,x.1.1=i->x=f:=λx q e=>by
  obtain⟨a,R⟩:=fA.1 q;obtain⟨_,hb⟩:=bT hf;grind [Ov]
 refine .i (λC=>.b λM K=>.b λN _e=>.b λL A=>.s ⟨rfl,by grind,λd hd=>?_,λx q a b c=>?_⟩) λC=>.s ⟨rfl,by grind,k,λx q a b c=>?_⟩;dsimp only at hd;rw[hZ A]at hd;grind [qG];dsimp only at c⊢;rw[hZ A];by_cases e:x.1.1=i;exact⟨_,_Z _ (dC.2 rfl),e.symm⟩;obtain⟨d,Q,S⟩:=r x q a b oo;grind;grind;dsimp only at c;by_cases e:g.1.1=i;exact absurd e ((zW B).2.2 oo g G);grind
def OfQ(k:J6)(n:Int)(D:List aD):Prop:=(∀d∈D,d.2.2=cN k.2.2.1.2.1 d.1)/\ ∀q,0<=q->q<n->((∃d∈k.2.2.2.2.2.2.2,d.1=q)\/(∃f∈k.2.2.2.1.2.1,f.2.1=O/\f.1.1=q))-> ∃d∈D,d.1=q
theorem JRF{y:vH}(h:IY k=Z y)(c:y.2=0)(hi:aY k):y.1.1=k.1/\y.1.2.2.2.2=k.2.2.2.2.2.2.1/\OfQ k k.1 y.1.2.2.2.1/\Jv k=Z O:=by
 revert c
 apply _s.go h;unfold IY;refine .b λv K=>.n (λ_=>.s nofun) λcv=>?_;have K:Jv k=Z O:=by simp_all
 have am:k.1<=64:=by
  have k1:_s (oI k) λy=>y=O->k.1<=64:=.h (λ_=>.G (λc=>λ_ _ _=>c) λ_=>.s nofun) λ_=>.s nofun
  have _c:_s (Jv k) λy=>y=O->k.1<=64:=.b λa ha=>.n (λ_=>.s nofun) λc=>λ_ _ _=>k1 _ ha c
  exact _c _ K rfl
 refine .z (λz=>z.2.1=k/\z.2.2.2.2.2.2.2.2.2.1=k.1/\z.2.2.2.2.2.2.2.2.2.2.2.2=k.2.2.2.2.2.2.1/\(0<=z.1/\z.1<=1000)/\OfQ k z.1 z.2.2.2.2.2.2.2.1) ⟨rfl,rfl,rfl,⟨bC _,show(0:Int)<=1000 by decide⟩,nofun,λq a b=>by grind⟩ ?_;rintro⟨i,k',u1,u2,u3,u4,u5,D,u6,pg,u7,u8,rw⟩ ⟨h1,h2,h3,⟨h4,E⟩,B⟩;dsimp only at h1 h2 h3 h4 E B;subst h1 h2 h3;unfold q8;have oq:=Jb i 1;have S:qw=RD:=rfl;rw[S];have lp: ∀{A w:List aD},i<k'.1->AT k'.2.2.2.1=Z w->(∀d∈A,d.2.2=cN k'.2.2.1.2.1 d.1)->(∀d∈D,d∈A)->((∃d∈k'.2.2.2.2.2.2.2,d.1=i)-> ∃d∈A,d.1=i)->
   _s (J4 RD (i,w,J0 w,0,k',u1,u2,u3,u4,u5,A,u6,k'.1,u7,u8,k'.2.2.2.2.2.2.1)) λr=> ∃z,r=.inl z/\z.2.1=k'/\z.2.2.2.2.2.2.2.2.2.1=k'.1/\z.2.2.2.2.2.2.2.2.2.2.2.2=k'.2.2.2.2.2.2.1/\(0<=z.1/\z.1<=1000)/\OfQ k' z.1 z.2.2.2.2.2.2.2.1:=by
  intro A w _e F hl ad an;obtain⟨d1,d2⟩:=JHl F (QR K) hi.2.2.one;refine .z (λz=>z.1=i/\z.2.1=w/\z.2.2.1=J0 w/\z.2.2.2.2.1=k'/\z.2.2.2.2.2.2.2.2.2.2.2.2.1=k'.1/\z.2.2.2.2.2.2.2.2.2.2.2.2.2.2.2=k'.2.2.2.2.2.2.1/\(∀d∈z.2.2.2.2.2.2.2.2.2.2.1,d.2.2=cN k'.2.2.1.2.1 d.1)/\(∀d∈A,d∈z.2.2.2.2.2.2.2.2.2.2.1)/\upw (λd=>d.1=i->d∈z.2.2.2.2.2.2.2.2.2.2.1) w z.2.2.2.1) ⟨rfl,rfl,rfl,rfl,rfl,rfl,hl,λ_ h=>h,HB⟩ ?_;rintro⟨i',ao,n,j,_c,t1,t2,t3,t4,t5,D2,t6,pg,t7,t8,rw⟩ ⟨g1,g2,g3,U,R,P,H,_b,_d⟩;dsimp only at g1 g2 g3 U R P H _b _d;subst g1 g2 g3 U R P;unfold RD;refine .l (λW=>.b λd hd=>.e (λ_a=>.b λy9 L=>.s ⟨rfl,rfl,rfl,rfl,rfl,rfl,λx g=>?_,λx g=>?_,?_⟩) λ_a=>.s ⟨rfl,rfl,rfl,rfl,rfl,rfl,H,_b,EG _d hd λh=>absurd h _a⟩) λW=>.s ⟨_,rfl,rfl,rfl,rfl,by grind,H,λq M q2 G=>?_⟩;dsimp only at g;rw[hZ L]at g;rcases zQ9.1 g with g|g;exact H x g;simp at g;subst g;obtain⟨f,T,N,f3⟩:=d1 _ (qG hd);rw[f3,(hi.2.2.hot f T).1,N];dsimp only;rw[hZ L];grind;dsimp only;rw[hZ L];exact EG (_d.mono λx h e=>c! _ (h e)) hd λ_=>_Z _ (dC.2 rfl)
  ·dsimp only at q2;have al:=IK _d W;by_cases e:q=i'
   ·subst e;rcases G with G|⟨f,T,N,f3⟩
    all_goals grind
   obtain⟨d,a,b⟩:=B.2 q M oo G;grind
 have fin: ∀{o:Option ((GI)⊕(vH))} {Q:((GI)⊕(vH))->Prop},_s o (λr=> ∃z,r=.inl z/\z.2.1=k'/\z.2.2.2.2.2.2.2.2.2.1=k'.1/\z.2.2.2.2.2.2.2.2.2.2.2.2=k'.2.2.2.2.2.2.1/\(0<=z.1/\z.1<=1000)/\OfQ k' z.1 z.2.2.2.2.2.2.2.1)->
  (∀z,z.2.1=k'/\z.2.2.2.2.2.2.2.2.2.1=k'.1/\z.2.2.2.2.2.2.2.2.2.2.2.2=k'.2.2.2.2.2.2.1/\(0<=z.1/\z.1<=1000)/\OfQ k' z.1 z.2.2.2.2.2.2.2.1->Q (.inl z))->_s o Q:=λh1 h2=>h1.mono λr ⟨z,hz,h⟩=>by grind
 refine .l (λ_e=>.b λy4 E=>.i (λV=>.b λy5 C=>.b λw F=>fin (lp _e F (λd hd=>?_) (λd hd=>?_) λ_=>?_) λz h=>h) λV=>.b λw F=>fin (lp _e F B.1 (λd hd=>hd) λg=>?_) λz h=>h) λ_e=>.s λ_=>⟨rfl,rfl,⟨B.1,λq M q2 G=>B.2 q M (by grind) G⟩,K⟩;rw[hZ C]at hd;rcases zQ9.1 hd with hd|hd;exact B.1 d hd;simp at hd;subst hd;exact hi.2.2.lak _ ((IN E).1 V).1;rw[hZ C];grind;rw[hZ C];grind [IN];grind [IN]
theorem O7{l:Jx}(hi:lO l)(hc:dJ l.2.1):_s (JU l) λy=>y=O:=by
 obtain⟨i1,i2,i3,i4⟩:=hi;have o:=JX l.1 1;unfold JU;refine .j (λ_=>.k (λ_=>.k (λ_=>.j (λ_=>.b λm r=>.g (λc=>?_) λ_=>.z (λz=>z.2=l) rfl ?_) λc=>by omega) λc=>by omega) λc=>by omega) λc=>by omega
 grind [PI];rintro⟨i,l'⟩ h;dsimp only at h;subst h;unfold BM;refine .l (λ_=>.b λe j=>.q (λ_=>.b λn g=>.b λv x=>.n (λc=>?_) λ_=>.s rfl) λc=>?_) λ_=>.s rfl;rw[j]at g;cases g;obtain⟨_,q⟩:=bT j;have:=(hc _ _ q).2.1;simp_all;obtain⟨k,q⟩:=bT j;dsimp only at k q c;have w:=(hc _ _ q).1;grind [J0,Jb]
theorem Sa{l:Jx}{n:Int}(hi:lO l)(hc:dJ l.2.1)(hn:n<=J0 l.2.1):_s (jM (l,n)) λy=>y.2=0:=by
 have v:=O7 hi hc;obtain⟨i1,i2,i3,i4⟩:=hi;unfold jM;refine .b λb hb=>.n (λc=>by rw[v _ hb]at c;cases c) λ_=>.b λm e=>.g (λc=>?_) λ_=>.s rfl;grind [PI]
theorem JOn{y:iT}(h:KM k=Z y)(c:y.2.2=0)(hi:aY k):aY y.1:=by
 revert c
 apply _s.go h;unfold KM;refine .b λ_b h2=>.d (λc=>.s λh=>absurd h c) λ_d=>.b λF R=>.g (λ_=>.s nofun) λM=>.b λV P=>.d (λc=>.s λh=>absurd h c) λ_c=>.b λn B=>.s λ_=>?_;obtain⟨_e,H,⟨K,z⟩,T⟩:=JRF h2 _d hi;have cp:fw k.2.2.1.2.1 F.1:=by
  intro c' hc';rcases JQr R with e|⟨v,t,e⟩;rw[e]at hc';exact absurd hc' (by have:xI []=Z ((0,0,[],[],[]),5):=rfl;simp_all);rw[e]at hc' M;obtain⟨G,D,E⟩:=JQI v (by grind [J0]) hc';rw[G,D,E,_e,H];refine⟨nofun,.nil,nofun,nofun,K,λp r hp=>?_,hi.2.2.pgs⟩;obtain⟨Q,U⟩:=hi.2.2.row p r hp;refine⟨Q,λ_ b=>?_⟩;have p0:=(bT hp).1;have w:p<k.1:=by
   have:=jH (bT hp).2;have C:_s (oI k) λy=>y=O->J0 k.2.2.2.2.2.2.1=k.1:=.h (λ_=>.G (λ_=>.h (λ_=>.G (λ_=>.b λ_ _=>.i (λ_=>.b λ_ _=>.i (λ_=>.b λ_ _=>.i (λ_=>.b λ_ _=>.i (λ_=>.b λ_ _=>.i (λ_=>.e (λc=>λ_ _ _=>c) λ_=>.s nofun) λ_=>.s nofun) λ_=>.s nofun) λ_=>.s nofun) λ_=>.s nofun) λ_=>.s nofun) λ_=>.s nofun) λ_=>.s nofun) λ_=>.s nofun) λ_=>.s nofun
   have N:_s (Jv k) λy=>y=O->J0 k.2.2.2.2.2.2.1=k.1:=.b λa S=>.n (λ_=>.s nofun) λc=>λ_ _ _=>C _ S c
   have:=N _ T rfl;omega
  by_cases hf: ∃f∈k.2.2.2.1.2.1,f.1.1=p;obtain⟨f,j,o⟩:=hf;cases fd:f.2.1 with
  |true=>
   obtain⟨d,a,e⟩:=z p p0 w (.inr ⟨f,j,fd,o⟩);grind
  |false=>
   have:=(hi.2.2.hot f j).2 fd r (by grind);grind
  refine U (λf A e=>hf ⟨f,A,e⟩) λd hd e=>?_;obtain⟨L,a,e'⟩:=z p p0 w (.inl ⟨d,hd,e⟩);exact b L a e'
 have q:=UN P _c hi (λh=>absurd h (by simp_all)) (λh=>absurd h (by simp_all)) λ_=>cp;have g:=q.inv hi (by simp_all) λh=>absurd h (by simp_all);by_cases x:n.2=0;obtain⟨j,o⟩:=XT B x;exact⟨o g.1,by show dJ n.1.2.1;rw[j];exact g.2.1,by show Rel n.1.2.1 _ _ _ _;rw[j];exact g.2.2⟩;obtain⟨_,e',_,_,_a,a4,_,W,_⟩:=q;exact absurd (Sa g.1 g.2.1 (by grind [cU,cI]) _ B) x
end
section
variable {s:Jw}
theorem Ut{y:tA}(e:LV s=Z y)(c:y.2.2=0)(hi:aY s.1):aY y.1.1:=by
 revert c
 apply _s.go e;unfold LV;exact .b λj h2=>.d (λc=>.s λh=>absurd h c) λg=>.s λ_=>JOn h2 g hi
end
section
variable {s:Jw}
abbrev TFl:=Int×Int×Int×(List aA)×Int×Int×(List aJ)×Int×(List aI)×(List aI)×(List Jr)×(List aD)×(List aD)×(List _j)×Int×_E×Bool×(List JT)×Bool×_E×(List wK)
def krn(t:TFl):J6:=(t.1,t.2.1,(t.2.2.1,t.2.2.2.1,t.2.2.2.2.1),(t.2.2.2.2.2.1,t.2.2.2.2.2.2.1,t.2.2.2.2.2.2.2.1),(t.2.2.2.2.2.2.2.2.1,t.2.2.2.2.2.2.2.2.2.1),t.2.2.2.2.2.2.2.2.2.2.1,t.2.2.2.2.2.2.2.2.2.2.2.1,t.2.2.2.2.2.2.2.2.2.2.2.2.1)
theorem Th{k:J6}{t n m:Int}{b:_j}{d:eK}{y:eQ}(hi:aY k)(hb:sE (k.2.2.1,t)=Z b)(h:FF (d,b,n,m)=Z y)(c:y.2=0):aY y.1.1:=by
 revert c
 apply _s.go h;unfold FF;dsimp only;refine .b λg h2=>.d (λc=>.s λh=>absurd h c) λq=>.b λC x=>.d (λc=>.s λh=>absurd h c) λw=>.b λD G=>.d (λc=>.s λh=>absurd h c) λE=>.s λ_=>?_;rcases JN9 hb hi.1 hi.2.1 with e|⟨f,hl,hd,rest,z,v,A⟩;rw[e]at h2;have:EW []=Z ((0,[],0),4):=rfl;grind;obtain⟨j,r,_d,H⟩:=JPu h2 f hi.2.1 hl z v A q;have hc:=hi.2.1.take j;have B:J0 (k.2.2.1.2.1.take j)=j:=by grind [J0]
 have hL:lO g.1:=by rw[r];exact⟨rfl,by simp_all,by simp_all,by grind⟩
 have o:dJ g.1.2.1:=by simp_all
 obtain⟨F,_e⟩:=JHG x w o;grind [JM1]
theorem JHE{t id n:Int}{y:eK×_j}(h:KV (s,t,id,n)=Z y)(hi:aY s.1): ∃k,aY k/\ ∃t,sE (k.2.2.1,t)=Z y.2:=by apply _s.go h;unfold KV;exact .b λ_ _=>.h (λ_=>.b λ_ _=>.i (λ_=>.b λ_ _=>.b λ_ _=>.b λ_ _=>.b λj o=>.b λ_ _=>.e (λ_=>.b λg e=>.s ⟨j,hi.force o,_,e⟩) λ_=>.b λg e=>.s ⟨j,hi.force o,_,e⟩) λ_=>.b λg e=>.s ⟨s.1,hi,_,e⟩) λ_=>.b λg e=>.s ⟨s.1,hi,_,e⟩
variable {x:rW} {t:TFl}
theorem OW{e:Int}{y:eM×TFl}(h:uI (s,e,t)=Z y)(hi:aY (krn t))(hs:e=0->aY s.1):aY (krn y.2):=by apply _s.go h;unfold uI;exact .e (λc=>.b λ_ _=>.s (hs c)) λ_=>.b λ_ _=>.s hi
theorem JQf{y:eM×TFl}(h:MD (x,t)=Z y)(hi:aY (krn t)):aY (krn y.2):=by apply _s.go h;unfold MD;exact .j (λ_=>.k (λ_=>.b λ_ _=>.b λ_ _=>.e (λ_=>.b λ_ _=>.s hi) λ_=>.b λ_ _=>.b λ_ _=>.b λg e=>.e (λ_=>.s hi) λ_=>.e (λ_=>.e (λ_=>.b λ_ _=>.b λ_ _=>.s (jw e hi)) λ_=>.s (jw e hi)) λ_=>.s (jw e hi)) λ_=>.b λ_ _=>.s hi) λ_=>.b λ_ _=>.s hi
theorem JLR{y:eM×TFl}(h:MB (x,t)=Z y)(hi:aY (krn t)):aY (krn y.2):=by
 apply _s.go h;unfold MB;refine .b λe h2=>.b λj o=>?_;obtain⟨k,hk,t',hb⟩:=JHE h2 hi;have C:j.2=0->aY j.1.1:=by unfold RK at o;have r:_s ((FF (e.1,e.2,t.1,t.2.2.2.2.2.1)).bind λe=>Z (e.1,e.2)) λy=>y.2=0->aY y.1.1:=.b λD w=>.s λc=>Th hk hb w c;exact r _ o
 refine .z (λz=>z.1=j.2/\z.2.2.2.2.2.2.2.2.2.2.2.2.2.2.2.2.2.2.2.2.2.2.2.2.2.2=j.1/\ ∃u v:_E,True/\aY (krn (z.2.2.1,z.2.2.2.1,z.2.2.2.2.1,z.2.2.2.2.2.1,z.2.2.2.2.2.2.1,z.2.2.2.2.2.2.2.1,z.2.2.2.2.2.2.2.2.1,z.2.2.2.2.2.2.2.2.2.1,z.2.2.2.2.2.2.2.2.2.2.1,z.2.2.2.2.2.2.2.2.2.2.2.1,z.2.2.2.2.2.2.2.2.2.2.2.2.1,z.2.2.2.2.2.2.2.2.2.2.2.2.2.1,z.2.2.2.2.2.2.2.2.2.2.2.2.2.2.1,[],0,[],J,[],J,u,[]))) ⟨rfl,rfl,[],[],_g,hi⟩ λz B=>?_;obtain⟨A,n,u,v,_,q⟩:=B;unfold yx;refine .l (λ_=>.b λ_ _=>.b λ_ _=>.s ⟨A,n,u,v,_g,q⟩) λ_=>.map (.d (λ_=>.b λ_ _=>.s q) λc=>.b λ_ _=>.s ?_);have g:=C (by simp_all);rw[<-n]at g;exact g
theorem JOb{y:eM×TFl}(h:MA (x,t)=Z y)(hi:aY (krn t)):aY (krn y.2):=by
 apply _s.go h;unfold MA;refine .e (λ_=>.b λE h2=>.e (λ_=>.b λz _=>.b λk n=>.s ?_) λ_=>.b λk n=>.s (show aY (krn k.2)from OW n hi λc=>Co h2 c hi)) λ_=>.e (λ_=>.b λD B=>.s (JQf B hi)) λ_=>.e (λ_=>.b λo e=>.b λw g=>.s (OW g hi λc=>JIe e c hi)) λ_=>.e (λ_=>.b λo e=>.b λw g=>.s (OW g hi λc=>Ut e c hi)) λ_=>.e (λ_=>.b λ_ _=>.b λj r=>.e (λc=>.b λ_ _=>.s ?_) λ_=>.b λ_ _=>.s hi) λ_=>.e (λ_=>.b λC v=>.s (JLR v hi)) λ_=>.e (λ_=>.b λo e=>.b λw g=>.s (OW g hi λc=>JOR e c hi)) λ_=>.b λ_ _=>.s hi;show aY (krn k.2);exact OW (t:=(_,_,_,_,_,_,_,_,_,_,_,_,_,_,_,_,_,_,_,z,_)) n hi λc=>Co h2 c hi;obtain⟨q,A⟩:=XT r c;exact⟨A hi.1,by show dJ j.1.2.1;rw[q];exact hi.2.1,by show Rel j.1.2.1 _ _ _ _;rw[q];exact hi.2.2⟩
theorem JQU{l:List rW}{y:Jw×(List eM)×List wK}(h:KE (s,l)=Z y)(hi:aY s.1):aY y.1.1:=by apply _s.go h;unfold KE;refine .z (λz=>aY (krn (z.2.2.2.2.2.2.1,z.2.2.2.2.2.2.2.1,z.2.2.2.2.2.2.2.2.1,z.2.2.2.2.2.2.2.2.2.1,z.2.2.2.2.2.2.2.2.2.2.1,z.2.2.2.2.2.2.2.2.2.2.2.1,z.2.2.2.2.2.2.2.2.2.2.2.2.1,z.2.2.2.2.2.2.2.2.2.2.2.2.2.1,z.2.2.2.2.2.2.2.2.2.2.2.2.2.2.1,z.2.2.2.2.2.2.2.2.2.2.2.2.2.2.2.1,z.2.2.2.2.2.2.2.2.2.2.2.2.2.2.2.2.1,z.2.2.2.2.2.2.2.2.2.2.2.2.2.2.2.2.2.1,z.2.2.2.2.2.2.2.2.2.2.2.2.2.2.2.2.2.2.1,[],0,[],J,[],J,[],[]))) (by exact hi) λz e=>?_;unfold rp;exact .l (λ_=>.l (λ_=>.n (λ_=>.b λ_ _=>.b λj g=>.b λ_ _=>.s (JOb g e)) λ_=>.s e) λ_=>.s e) λ_=>.s e
theorem JMu{p f:Int}{y:eQ}(h:AJ (p,f)=Z y)(c:y.2=0):aY y.1.1:=by
 have g:_s (AP (p,f)) λy=>y.2=0->aY y.1:=by
  unfold AP;refine .j (λv=>.k (λq=>.j (λ_=>.g (λ_=>.s nofun) λ_=>.b λj h2=>.b λk x=>.s λ_=>⟨⟨rfl,bC _,J7,show(0:Int)<=4096 by decide⟩,λi e h=>by simp at h,?_⟩) λ_=>.s nofun) λ_=>.s nofun) λ_=>.s nofun;have o:_s (AO f) λy=>y.1.2.1=[]:=.j (λ_=>.g (λ_=>.s rfl) λ_=>.s rfl) λ_=>.s rfl
  show Rel [] p j.1.2.1 [] k.1;rw[o _ h2];refine⟨nofun,.nil,nofun,nofun,nofun,λp r w=>?_,by dsimp only at v q;omega,nofun⟩;have z:r.1=0:=Pi x r (qG w);rw[z];exact⟨bC _,λ_ _=>rfl⟩
 revert c
 apply _s.go h;unfold AJ;exact .b λj h2=>.d (λc=>.s λh=>absurd h c) λn=>.b λ_ _=>.d (λc=>.s λh=>absurd h c) λ_=>.s λ_=>g _ h2 n
end
section
variable {B S:Int}
theorem JPx{p f:Int}(h1:1<=p)(h2:p<=64)(h3:1<=f)(h4:f<=64):_s (AJ (p,f)) λy=>y.2=0:=by
 have e:_s (AP (p,f)) λy=>y.2=0:=.j (λ_=>.k (λ_=>.j (λ_=>.g (λc=>by grind) λ_=>.b λj h2=>.b λg h3=>.s rfl) λc=>by grind) λc=>by grind) λc=>by grind
 have h:_s (KB p) λy=>y.2=0:=.j (λ_=>.g (λc=>by omega) λ_=>.b λ_ _=>.s rfl) λc=>by omega
 unfold AJ;exact .b λj h2=>.d (λc=>absurd (e _ h2) c) λk=>.b λg h3=>.d (λc=>absurd (h _ h3) c) λ_=>.s rfl
theorem JHe{c:Jd}{n:Int}{b:Bool}{y:Jw×Jd}(hf:Ty.fit 16384 1073741824 J5 c)(h0:0<=c.2)(h:ME (n,b,c)=Z y):aY y.1.1:=by
 apply _s.go h;unfold ME;refine .b λg h2=>.b λk q=>.b λA o=>.b λw E=>.b λx C=>.s ?_;have e:=(Jt (B:=16384) (S:=1073741824) (X:=(4,c)) ⟨kS I 4,hf⟩ h0).get h2;have j:=(Jt (B:=16384) (S:=1073741824) (X:=(3,g.2)) ⟨kS I 3,e.1.2⟩ e.2.2.2).get q;have G:=e.2.2.1 (show(1:Int)<=4 by decide);have F:=j.2.2.1 (show(1:Int)<=3 by decide);have b2:=e.2.1;have r:=j.2.1;have v:=Jb 1 g.1;have z:=Jb 1 k.1;have D:=JPx (p:=J1 I 1 g.1) (f:=J1 I 1 k.1) oo (by grind) oo (by grind) _ o;grind [JQU,JMu]
theorem Ry{c:Jd}{n:Int}{b:Bool}{y:J6×Jd}(hf:Ty.fit 16384 1073741824 J5 c)(h0:0<=c.2)(h:LZ (n,b,c)=Z y):aY y.1:=by apply _s.go h;unfold LZ;exact .b λe h2=>.s (JHe hf h0 h2)
def JRf(l:Jx):Prop:=lO l/\dJ l.2.1
theorem JHU{c:Jd}{n:Int}{y:gf}(hf:Ty.fit 16384 1073741824 J5 c)(h0:0<=c.2)(h:AA (n,c)=Z y):JRf y.2.1/\y.2.1.2.2=J0 y.2.1.2.1:=by
 apply _s.go h;unfold AA;refine .b λe h2=>.b λj z=>.b λB k=>.s ?_;have g:=Ry hf h0 h2;have D:j=J0 e.1.2.2.1.2.1:=(by have r:_s (tV e.1.2.2.1) λy=>y=J0 e.1.2.2.1.2.1:=(by unfold tV;refine .b λv A=>.n (λc=>by rw[O7 g.1 g.2.1 _ A]at c;cases c) λ_=>.b λm C=>.s ?_;obtain⟨i1,i2,i3,i4⟩:=g.1;grind [PI]);exact r _ z);have o:=Sa g.1 g.2.1 (n:=j) oo _ k;obtain⟨q,w⟩:=XT k o;refine⟨⟨w g.1,by rw[q];exact g.2.1⟩,?_⟩;have x:_s (jM (e.1.2.2.1,j)) λy=>y.2=0->y.1.2.2=bP e.1.2.2.1.2.2 j:=.b λ_ _=>.n (λ_=>.s nofun) λ_=>.b λ_ _=>.g (λ_=>.s nofun) λ_=>.s λ_=>rfl
 have:=x _ k o;have mx:=oD e.1.2.2.1.2.2 j;have i3:=g.1.2.2.1;grind
theorem JGK{c:Jd}{n:Int}{y:gf}(hf:Ty.fit 16384 1073741824 J5 c)(h0:0<=c.2)(h:AA (n,c)=Z y):(1<=y.1/\y.1<=64)/\ ∀e∈y.2.1.2.1,(e.2.1=1\/e.2.1=2)->aV e<y.1:=by
 apply _s.go h;unfold AA;refine .b λk h2=>.b λo x=>.b λv w=>.s ?_;have g:=(Ry hf h0 h2).2.2.pgs;have r:_s (jM (k.1.2.2.1,o)) λy=>y.1.2.1=[]\/y.1.2.1=k.1.2.2.1.2.1:=.b λ_ _=>.n (λ_=>.s (.inl rfl)) λ_=>.b λ_ _=>.g (λ_=>.s (.inl rfl)) λ_=>.s (.inr rfl)
 refine⟨g.1,λe j=>g.2 e ?_⟩;have j:e∈v.1.2.1:=j;rcases r _ w with q|q;rw[q]at j;cases j;rw[q]at j;exact j
end
theorem i1(c x:Bool):(if c=O then Z x else Z J)=Z (c&&x):=by cases c<;>rfl
theorem i2(c x:Bool):(if c=J then Z x else Z J)=Z (!c&&x):=by cases c<;>rfl
theorem i3(c x:Bool):(if c=O then Z J else Z x)=Z (!c&&x):=by cases c<;>rfl
theorem i4{α:Type}(c x:Bool)(E:α):(if c=O then Z (E,x)else Z (E,J))=Z (E,c&&x):=by cases c<;>rfl
theorem JLL(c:gP):JK c=JK c:=rfl
theorem Pl(c:gP): ∃b,JK c=Z b:=by unfold JK;split<;>(try split)<;>exact⟨_,rfl⟩
theorem JGZ(c:aR): ∃b,xF c=Z b/\iJ c=Z b:=by
 obtain⟨b1,e⟩:=Pl c.2.2.1;obtain⟨b2,g⟩:=Pl c.2.2.2;grind [xF,FH,iJ,JLL]
theorem JEv{x:Jn}(e:lH x=Z O):0<=x.1/\x.1<x.2:=by
 grind [lH,kD,JI]
theorem ov(x:Jn): ∃b,lH x=Z b:=by unfold lH;split<;>exact⟨_,rfl⟩
theorem JN6(c:aR): ∃z,AS c=Z z/\(z=O↔c=(0,0,(J,[]),J,[])):=⟨_,rfl,eB (t:=hI)⟩
theorem JQA(c:aR): ∃z,FP c=Z z/\(z=O↔c=(c.1,0,(J,[]),J,[])/\0<=c.1/\c.1<64):=by
 have e:_n (FP c) λz=>(z=O↔c=(c.1,0,(J,[]),J,[])/\0<=c.1/\c.1<64):=.i (λh=>.h (λg=>.s ⟨λk=>⟨(eB (t:=hI)).1 h,g,JI.1 k⟩,λk=>JI.2 k.2.2⟩) λg=>.s ⟨nofun,λk=>absurd k.2.1 g⟩) λh=>.s ⟨nofun,λk=>(Bool.false_ne_true (h.symm.trans ((eB (t:=hI)).2 k.1))).elim⟩
 exact e
theorem UV(e:aA):lK e=Jo e:=by
 obtain⟨l,k,t,n,q,o,c,bl⟩:=e;obtain⟨M,v,w⟩:=JGZ c;obtain⟨b1,r⟩:=ov (n,l);obtain⟨b2,x⟩:=ov (q,l);obtain⟨F,A⟩:=ov (o,l);have B:sJ (n,l,k,t,n,q,o,c,bl)=Z b1:=r;have C:sJ (q,l,k,t,n,q,o,c,bl)=Z b2:=x;have D:sJ (o,l,k,t,n,q,o,c,bl)=Z F:=A;have L: ∀b:Bool,Jj b= !b:=λ_=>rfl;unfold lK Jo oJ;dsimp only;rw[B,C,D,r,x,A,v,w];have N: ∀a b:aA,(eqT J3 a b=O)=(a=b):=λa b=>propext (eB (t:=J3));have K: ∀a b:aR,(eqT hI a b=O)=(a=b):=λa b=>propext (eB (t:=hI));have hb:b1=O->0<=n/\n<l:=λh=>by subst h;exact JEv r
 have hk:k=1\/k=2\/k=3\/k=4\/k=5\/k=6\/k=7\/k=8\/k<1\/8<k:=by omega
 clear r x A B C D v w;have _c:J0 ([]:_j)=0:=rfl;obtain⟨z,g,_d⟩:=JN6 c;obtain⟨y,j,_e⟩:=JQA c;rcases hk with rfl|rfl|rfl|rfl|rfl|rfl|rfl|rfl|hk|hk;simp only[show aN 1 1=J from rfl,show aS 1 8=J from rfl,show aO 1 8=J from rfl,show aO 1 7=J from rfl,show aO 1 6=J from rfl,show aO 1 5=J from rfl,show aO 1 4=J from rfl,show aO 1 3=J from rfl,show aO 1 2=J from rfl,show aO 1 1=O from rfl,if_true,if_false,fK,reduceCtorEq,JF,jP,nJ,g,j,i1,i2,i3,i4]
 congr 1
 grind [aN,aS,aT,bD,aQ,neS];simp only[show aN 2 1=J from rfl,show aS 2 8=J from rfl,show aO 2 8=J from rfl,show aO 2 7=J from rfl,show aO 2 6=J from rfl,show aO 2 5=J from rfl,show aO 2 4=J from rfl,show aO 2 3=J from rfl,show aO 2 2=O from rfl,show aO 2 1=J from rfl,if_true,if_false,fK,reduceCtorEq,JF,jP,nJ,g,j,i1,i2,i3,i4]
 congr 1
 grind [aN,aS,aT,bD,aO,neS];simp only[show aN 3 1=J from rfl,show aS 3 8=J from rfl,show aO 3 8=J from rfl,show aO 3 7=J from rfl,show aO 3 6=J from rfl,show aO 3 5=J from rfl,show aO 3 4=J from rfl,show aO 3 3=O from rfl,show aO 3 2=J from rfl,show aO 3 1=J from rfl,if_true,if_false,fK,reduceCtorEq,JF,jP,nJ,g,j,i1,i2,i3,i4]
 congr 1
 grind [aN,aS,aT,bD,aQ,aO,neS];simp only[show aN 4 1=J from rfl,show aS 4 8=J from rfl,show aO 4 8=J from rfl,show aO 4 7=J from rfl,show aO 4 6=J from rfl,show aO 4 5=J from rfl,show aO 4 4=O from rfl,show aO 4 3=J from rfl,show aO 4 2=J from rfl,show aO 4 1=J from rfl,if_true,if_false,fK,reduceCtorEq,JF,jP,nJ,g,j,i1,i2,i3,i4]
 congr 1
 grind [aN,aS,aT,bD,aQ,aO,neS];simp only[show aN 5 1=J from rfl,show aS 5 8=J from rfl,show aO 5 8=J from rfl,show aO 5 7=J from rfl,show aO 5 6=J from rfl,show aO 5 5=O from rfl,show aO 5 4=J from rfl,show aO 5 3=J from rfl,show aO 5 2=J from rfl,show aO 5 1=J from rfl,if_true,if_false,fK,reduceCtorEq,JF,jP,nJ,g,j,i1,i2,i3,i4]
 congr 1
 grind [aN,aS,aT,bD,aQ,aO,neS];simp only[show aN 6 1=J from rfl,show aS 6 8=J from rfl,show aO 6 8=J from rfl,show aO 6 7=J from rfl,show aO 6 6=O from rfl,show aO 6 5=J from rfl,show aO 6 4=J from rfl,show aO 6 3=J from rfl,show aO 6 2=J from rfl,show aO 6 1=J from rfl,if_true,if_false,fK,reduceCtorEq,JF,jP,nJ,g,j,i1,i2,i3,i4];grind [aN,aS,aT,bD,aQ,Prod.mk.injEq];simp only[show aN 7 1=J from rfl,show aS 7 8=J from rfl,show aO 7 8=J from rfl,show aO 7 7=O from rfl,show aO 7 6=J from rfl,show aO 7 5=J from rfl,show aO 7 4=J from rfl,show aO 7 3=J from rfl,show aO 7 2=J from rfl,show aO 7 1=J from rfl,if_true,if_false,fK,reduceCtorEq,JF,jP,nJ,g,j,i1,i2,i3,i4];grind [aN,aS,aT,bD,aQ,neS,Prod.mk.injEq];simp only[show aN 8 1=J from rfl,show aS 8 8=J from rfl,show aO 8 8=O from rfl,show aO 8 7=J from rfl,show aO 8 6=J from rfl,show aO 8 5=J from rfl,show aO 8 4=J from rfl,show aO 8 3=J from rfl,show aO 8 2=J from rfl,show aO 8 1=J from rfl,if_true,if_false,fK,reduceCtorEq,JF,jP,nJ,g,j,i1,i2,i3,i4];grind [aN,aS,aT,bD,aQ,Prod.mk.injEq];have G:aO k 1=J:=by grind [aO]
 have H:aO k 2=J:=by grind [aO]
 have E:aO k 3=J:=by grind [aO]
 grind [aO,aN];have G:aO k 1=J:=by grind [aO]
 have H:aO k 2=J:=by grind [aO]
 have E:aO k 3=J:=by grind [aO]
 grind [aO,aS]
theorem JGO{x0:_E}{y:Jd}(w0:Ty.inR (.l (.i .u8)) x0)(h:AB (x0,400)=Z y):Ty.fit 16384 1073741824 J5 y/\0<=y.2:=by
 have j:Ty.fit (J0 x0) 0 (.l (.i .u8)) x0:=⟨bC _,λa e=>by
  grind [UY,Ty.inR,IntKind.min,IntKind.max,IntKind.signed,IntKind.bits]⟩
 have k:0<=J0 x0:=J7;have g:=(Dh (B:=J0 x0) (S:=0) (X:=(x0,400)) ⟨j,kS I 400⟩ (show(0:Int)<=400 by decide)).get h;obtain⟨n,o⟩:=JLx h;exact⟨⟨⟨by grind,λa e=>g.1.1.2 a e⟩,g.1.2⟩,by omega⟩
theorem JHc{x0:_E}(w0:Ty.inR (.l (.i .u8)) x0):_n (AB (x0,400)) λy=>Ty.fit 16384 1073741824 J5 y/\0<=y.2:=by
 have g:Ty.fit (J0 x0) 0 (.l (.i .u8)) x0:=⟨bC _,λa j=>by
  grind [UY,Ty.inR,IntKind.min,IntKind.max,IntKind.signed,IntKind.bits]⟩
 have h:0<=J0 x0:=J7;obtain⟨y,e,_⟩:=Dh (B:=J0 x0) (S:=0) (X:=(x0,400)) ⟨g,kS I 400⟩ (show(0:Int)<=400 by decide);exact⟨y,e,JGO w0 e⟩
theorem JNL(f t lo hi lv:Int)(es:List aA): ∃b,mJ (f,t,lo,hi,lv)=Z b/\io (f,t,lo,hi,lv,es)=Z (b,es):=by
 unfold mJ io;dsimp only
 repeat' split
 all_goals simp_all
theorem JQx(f t lo hi lv:Int)(x:aA)(es:List aA):ie (f,t,lo,hi,lv,x,es)=Z (inB f t lo hi x,es):=by
 apply _n.go;unfold ie;have hc:_n (Jh x) λy=>(y=O↔x.2.1=1\/x.2.1=2):=.p (λc=>.s ⟨λd=>.inr (gM.1 d),λd=>gM.2 (d.resolve_left c)⟩) λc=>.s ⟨λ_=>.inl c,λ_=>rfl⟩
 have e: ¬((x.2.1=1\/x.2.1=2)/\(lo<=aV x/\aV x<=hi)/\f<=x.1/\x.1<=t)->(J,es)=(inB f t lo hi x,es):=λh=>by
  grind [inB]
 refine .b hc λy h=>.i (λd=>.h (λj=>.G (λk=>.h (λn=>.s ?_) λc=>.s (e λh=>c h.2.2.1)) λc=>.s (e λh=>c h.2.1.2)) λc=>.s (e λh=>c h.2.1.1)) λc=>.s (e λq=>by simp_all);show(bD x.1 t,es)=_;by_cases g:x.1<=t;rw[dV.2 g,tN.2 ⟨h.1 d,⟨j,k⟩,n,g⟩];grind [bD]
def leL(a b:aA):Bool:=decide (a.1<=b.1)
theorem JNM:HQ BF leL:=λx y=>by
 refine⟨gV x.1 y.1,?_,?_⟩
 all_goals grind [BF,NS,gV,leL,aN]
theorem JQy(a b c:aA)(h:leL a b=O)(k:leL b c=O):leL a c=O:=by grind [leL]
theorem JR5(a b:aA):leL a b=O\/leL b a=O:=by grind [leL]
theorem JJQ{l:List aA}(h: ∀x∈l,lK x=Z O)(hl:J0 l<=16384):ja l=Z J:=by
 have g:_n (iz l) λy=>y= -1:=by
  unfold iz;refine Jl (τ:=Int) (λq=>(l,J0 l,q)) (λi=>0<=i/\i<=J0 l) (λi=>J0 l-i) ?_ 0 rfl ⟨bC _,J7⟩;rintro i ⟨k,h1⟩;unfold Sq;dsimp only;refine .l (λc=>?_) λ_=>.s rfl;obtain⟨a,e,q⟩:=gH k c;refine .w e ?_;have j:cm a=Z J:=by unfold cm;rw[h a (zQ5 q)];rfl
  refine .w j (.i (λd=>by cases d) λ_=>.s ⟨J1 I i 1,rfl,?_,?_,?_⟩)
  all_goals grind [Jb]
 obtain⟨y,e,rfl⟩:=g;unfold ja;rw[e];rfl
theorem JO4{l:List aA}(hl:J0 l<=16384)(hd: ∀(j:Nat) (a b:aA),l[j]?=Z a->l[j+1]?=Z b->a.1≠b.1):iw l=Z l:=by
 apply _n.go;unfold iw;refine .l (λ_=>.s rfl) λr=>Jl (τ:=Int) (λq=>(q,l)) (λi=>1<=i/\i<=J0 l) (λi=>J0 l-i) ?_ 1 rfl ⟨bC _,by omega⟩;rintro i ⟨v,h1⟩;unfold Sk;dsimp only;refine .l (λc=>?_) λ_=>.s rfl;have k:Ji I i 1=i-1:=by grind [JX]
 rw[k];obtain⟨a,ea,h⟩:=gH (l:=l) (i:=i) oo c;obtain⟨b,n,g⟩:=gH (l:=l) (i:=i-1) oo oo;have o:((l.length:Nat):Int)=J0 l:=rfl;refine .w (w:=()) (by unfold bE;grind) (.w h (.w (w:=()) (by unfold bE;grind) (.w g (.i (λd=>?_) λ_=>.s ⟨J1 I i 1,rfl,?_,?_,?_⟩))));have e:a=b:=eB.1 d;exact absurd (by rw[e]) (hd (i-1).toNat b a g (by rw[show(i-1).toNat+1=i.toNat by omega];exact h))
 all_goals have:=Jb i 1
 all_goals omega
noncomputable def mkO(f t lo hi lv:Int)(es:List aA):Option (aF×Int):=if J0 es>4096 then Z ((0,0,0,0,0,[]),21)else(fI (f,t,lo,hi,lv,es)).bind λv=>if v=O then Z ((f,t,lo,hi,lv,es),0)else Z ((0,0,0,0,0,[]),13)
theorem UX{l:List aA}(h:l.Pairwise λx y=>x.1≠y.1):(srt l).Pairwise ltE/\(∀x,x∈srt l↔x∈l)/\(srt l).length=l.length:=by
 have g: ∀{n:Nat} {l:List aA},l.length=n->(l.Pairwise λx y=>x.1≠y.1)->(srt l).Pairwise ltE/\(∀x,x∈srt l↔x∈l)/\(srt l).length=l.length:=by
  intro n
  induction n with
  |zero=>simp[srt]
  |succ n ih=>
   intro l h hi;obtain⟨m,e,rfl⟩: ∃m e,l=m++[e]:=⟨l.dropLast,l.getLast (by grind),(_S _).symm⟩;have k:m.length=n:=by simpa using h
   obtain⟨i1,i2,i3⟩:=_M.1 hi;obtain⟨s1,j,q⟩:=ih k i1;have hd: ∀x∈srt m,x.1≠e.1:=λx o=>i3 x ((j x).1 o) e (by simp);rw[O3];refine⟨Dx s1 hd,λx=>by rw[ni hd,j];simp,?_⟩;grind [Az]
 exact g rfl h
theorem JJk{x y:aA}(hx:J9w x=O)(hy:J9w y=O):J8g x<J8g y↔ltE x y:=by
 grind [J9w,J8g,ltE,aV]
theorem Q4: ∀{l:_E},(l.Pairwise λx y=>x≠y)->EK l=O
 |[],_=>rfl
 |x::l,h=>by rw[_O]at h;simp only[EK,bB,GT,List.contains_eq_mem,decide_eq_false_iff_not];exact⟨λe=>h.1 x e rfl,Q4 h.2⟩
theorem JNo{s E:List aA}(hf: ∀x∈s,J9w x=O)(hl:J0 s<=16384)(hd:s.Pairwise λx y=>x.1≠y.1)(r:E.Pairwise ltE)(hm: ∀x,x∈E↔x∈s):SV s=Z E:=by
 have v:(s.map J8g).Pairwise λx y=>x≠y:=(by rw[List.pairwise_map];refine hd.imp_of_mem fun{x y} q o h=>?_;grind [J9w,J8g]);have hs:nX J8g s=Z (s.mergeSort (kR J8g)):=(by grind [nX,J0,Q4]);have hp:=List.mergeSort_perm s (kR J8g);have j:(s.mergeSort (kR J8g)).Pairwise ltE:=(by have h1:=List.pairwise_mergeSort (le:=kR J8g) (λa b c h k=>by grind [kR]) (λa b=>by grind [kR]) s;have h2:(s.mergeSort (kR J8g)).Pairwise λx y=>x.1≠y.1:=hp.symm.pairwise hd (λh k=>h k.symm);refine(h1.and h2).imp_of_mem fun{x y} q o h=>?_;have g:=hf x (hp.mem_iff.1 q);have n:=hf y (hp.mem_iff.1 o);rw[<-JJk g n];grind [kR,J9w,J8g]);have e:s.mergeSort (kR J8g)=E:=Cu j r λx=>by grind
 show(if s.all J9w=O then nX J8g s else Y)=Z E;simp_all
theorem JPP{s E:List aA}{f t lo hi lv:Int}(hl:J0 s<=16384)(hd: ∀(j:Nat) (a b:aA),s[j]?=Z a->s[j+1]?=Z b->a.1≠b.1)(x:J0 E=J0 s)
  (hs:SV s=Z E) (hv: ∃v,lI (f,t,lo,hi,lv,E)=Z v/\fI (f,t,lo,hi,lv,E)=Z v):
  _n (J4 rf (1,[],0,0,0,0,0,s,[],f,t,lo,hi,lv)) λy=>mkO f t lo hi lv E=Z y:=by
 refine Jl (τ:=Int) (λq=>(q,[],0,0,0,0,0,s,[],f,t,lo,hi,lv)) (λi=>1<=i/\i<=J0 s+1) (λi=>J0 s-i) ?_ 1 rfl ⟨bC _,by have:=J7 (l:=s);omega⟩;rintro i ⟨A,h1⟩;unfold rf;dsimp only;have z:((s.length:Nat):Int)=J0 s:=rfl;have n:Ji I i 1=i-1:=by grind [JX]
 refine .l (λc=>?_) λ_=>.map (P:=λy=>mkO f t lo hi lv E=Z y) (.g (λc=>.s ?_) λc=>.w hs ?_) λ_ h=>h
 ·rw[n];obtain⟨a,ea,g⟩:=gH (l:=s) (i:=i) oo c;obtain⟨b,r,e⟩:=gH (l:=s) (i:=i-1) oo oo;refine .w (w:=()) (by unfold bE;grind) (.w e (.w (w:=()) (by unfold bE;grind) (.w g (.e (λd=>?_) λ_=>.s ⟨J1 I i 1,rfl,?_,?_,?_⟩))))
  exact absurd d (hd (i-1).toNat b a e (by rw[show(i-1).toNat+1=i.toNat by omega];exact g))
  all_goals have:=Jb i 1
  all_goals omega
 grind [mkO]
 ·have o:nO (_K E) (_K s)=O:=by
   have:E.length=s.length:=by grind [J0]
   grind [Nat.beq_refl]
  obtain⟨v,k,B⟩:=hv;have C:mkO f t lo hi lv E=if v=O then Z ((f,t,lo,hi,lv,E),0)else Z ((0,0,0,0,0,[]),13):=(by grind [mkO])
  refine .i (λ_=>.w k (.n (λd=>.s ?_) λd=>.s ?_)) λd=>by grind
  all_goals grind
theorem jx{l:List aA}(hd:l.Pairwise λx y=>x.1≠y.1)(f t lo hi:Int):(sel l f t lo hi).Pairwise ltE/\(∀x,x∈sel l f t lo hi↔x∈l/\inB f t lo hi x=O)/\(sel l f t lo hi).length=(l.filter (inB f t lo hi)).length:=by
 grind [UX,sel]
theorem JJ7{l:List aA}{f t lo hi lv:Int}(hv: ∀x∈l,lK x=Z O)(hf: ∀x∈l,Ty.fit 16384 9223372036854775807 J3 x)(hl:J0 l<=8192)(hn:mJ (f,t,lo,hi,lv)=Z O)
  (hd:l.Pairwise λx y=>x.1≠y.1) (hr:fU (f,t,lo,hi,lv,[])):_n (YQ (l,f,t,lo,hi,lv)) λy=>mkO f t lo hi lv (sel l f t lo hi)=Z y:=by
 obtain⟨s1,D,L⟩:=jx hd f t lo hi;have _e:=a! (inB f t lo hi) l;unfold J0 at hl;have n: ∀x∈l,J9w x=O:=λx g=>by have h1:=(hf x g).1;have h1:IntKind.i64.min<=x.1/\x.1<=IntKind.i64.max:=h1;unfold J9w;simp only[decide_eq_true_eq];have C:IntKind.i64.min= -9223372036854775808:=rfl;have N:IntKind.i64.max=9223372036854775807:=rfl;omega
 unfold YQ;obtain⟨b,b1,b2⟩:=JNL f t lo hi lv [];rw[hn]at b1;cases b1;refine .w b2 (.i (λ_=>.n (λc=>by cases c) λ_=>.w (JJQ hv (show J0 l<=16384 by grind [J0])) (.i (λc=>by cases c) λ_=>?_)) λc=>by cases c);refine Jl (τ:=Int×List aA) (λq=>(l,J0 l,q.1,[],0,0,0,0,0,q.2,[],f,t,lo,hi,lv)) (λq=>0<=q.1/\q.1<=J0 l/\q.2=(l.take q.1.toNat).filter (inB f t lo hi)) (λq=>J0 l-q.1) ?_ (0,[]) rfl ⟨bC _,J7,rfl⟩;rintro⟨i,es⟩ ⟨B,h1,h2⟩;dsimp only at B h1 h2;unfold Fz;dsimp only;have o:=Jb i 1;have M:((l.length:Nat):Int)=J0 l:=rfl;have H:es.length<=l.length:=(by grind);have E: ∀{m:List aA},nO (_K m) (_K m)=O:=fun{m}=>Nat.beq_refl _;refine .l (λc=>?_) λc=>.map (P:=λy=>mkO f t lo hi lv (sel l f t lo hi)=Z y) ?_ λ_ h=>h;obtain⟨x,e,q⟩:=gH B c;have K:l.take (J1 I i 1).toNat=l.take i.toNat++[x]:=by rw[show(J1 I i 1).toNat=i.toNat+1 by omega,_U,q];rfl
 refine .w e (.w (JQx f t lo hi lv x es) (.i (λ_=>.i (λd=>?_) λd=>.s ⟨(J1 I i 1,es),rfl,⟨by grind,by grind,?_⟩,by grind,by grind⟩) λd=>by grind));have d:inB f t lo hi x=O:=d;refine .w (gK (bytes:=128) (l:=es) (m:=[x]) (by grind [J0]) _k) (.s ⟨(J1 I i 1,es++[x]),rfl,⟨by grind,by grind,?_⟩,by grind,by grind⟩);grind;grind;have _d:es=l.filter (inB f t lo hi):=by grind
 have hp:(ST leL es).Perm es:=zP (le:=leL) es;have w:=Og (c:=BF) (le:=leL) (X:=es) JQy JR5 JNM oo;have r:(ST leL es).Pairwise λx y=>x.1≠y.1:=hp.symm.pairwise (by grind) (λh k=>h k.symm);have A: ∀x∈ST leL es,x∈l:=λx g=>by grind
 have hlen:(ST leL es).length=es.length:=hp.length_eq;have adj: ∀(j:Nat) (a b:aA),(ST leL es)[j]?=Z a->(ST leL es)[j+1]?=Z b->a.1≠b.1:=λj a b _c hb=>by
  grind [_N]
 have hs:SV (ST leL es)=Z (sel l f t lo hi):=JNo (λx g=>n x (A x g)) (by grind [J0]) r s1 λx=>by
  grind
 have C:zc es=Z (ST leL es):=w;refine .w C (.i (λ_=>.w (JO4 (by grind [J0]) adj) (.i (λ_=>?_) λd=>by grind)) λd=>by
  grind)
 have z:fU (f,t,lo,hi,lv,sel l f t lo hi):=⟨hr.1,hr.2.1,hr.2.2.1,hr.2.2.2.1,hr.2.2.2.2.1,by
  refine⟨?_,λx g=>hf x ((D x).1 g).1⟩;show J0 (sel l f t lo hi)<=16384;grind [J0]⟩
 obtain⟨v,F,G,_⟩:=vv z;exact(JPP (by grind [J0]) adj (by grind [J0]) hs ⟨v,F,G⟩).mono λy h=>h
theorem JFu{σ ρ α:Type}{L:σ->Option (σ⊕ρ)}{z:σ}{o:Option α}{k:α->σ}(h:L z=o.bind λy=>Z (.inl (k y))):J4 L z=o.bind λy=>J4 L (k y):=by cases o<;>grind [JF1,eX]
theorem JRG(a b:Int):vat (bN (bN (Vector.replicate 2 0) 0 a) 1 b) (_J 0)=Z a:=by simp[vat,bN]
theorem JRz(a b:Int):vat (bN (bN (Vector.replicate 2 0) 0 a) 1 b) (_J 1)=Z b:=by simp[vat,bN]
theorem II{s:_j}{vs:List (Vector Int 2)}{n i:Int}{r:aF}{a b:Int}(hi:i<n)(hx:idx vs i=Z (bN (bN (Vector.replicate 2 0) 0 a) 1 b)):
  J4 KY (s,vs,n,i,r)=(fO (s,a,b)).bind λy=>J4 KY (y,vs,n,J1 I i 1,r):=by
 refine JFu ?_;unfold KY;dsimp only;rw[JI.2 hi,hx];simp only[if_true,JF,JRG,JRz];rfl
theorem JJj(r:aF):AM r=(fO ([80,77,82,78],r.1,8)).bind λa=>(fO (a,r.2.1,8)).bind λa=>(fO (a,r.2.2.1,4)).bind λa=>(fO (a,r.2.2.2.1,4)).bind λa=>
  (fO (a,r.2.2.2.2.1,1)).bind λa=>fO (a,J0 r.2.2.2.2.2,4):=by
 have e:AM r=J4 KY ([80,77,82,78],[bN (bN (Vector.replicate 2 0) 0 r.1) 1 8,bN (bN (Vector.replicate 2 0) 0 r.2.1) 1 8,bN (bN (Vector.replicate 2 0) 0 r.2.2.1) 1 4,bN (bN (Vector.replicate 2 0) 0 r.2.2.2.1) 1 4,bN (bN (Vector.replicate 2 0) 0 r.2.2.2.2.1) 1 1,bN (bN (Vector.replicate 2 0) 0 (J0 r.2.2.2.2.2)) 1 4],6,0,r):=rfl;rw[e];rw[II (show(0:Int)<6 by decide) rfl];refine congrArg (Option.bind _) (funext λa=>?_);rw[show J1 I 0 1=1 from rfl,II (show(1:Int)<6 by decide) rfl];refine congrArg (Option.bind _) (funext λa=>?_);rw[show J1 I 1 1=2 from rfl,II (show(2:Int)<6 by decide) rfl];refine congrArg (Option.bind _) (funext λa=>?_);rw[show J1 I 2 1=3 from rfl,II (show(3:Int)<6 by decide) rfl];refine congrArg (Option.bind _) (funext λa=>?_);rw[show J1 I 3 1=4 from rfl,II (show(4:Int)<6 by decide) rfl];refine congrArg (Option.bind _) (funext λa=>?_);rw[show J1 I 4 1=5 from rfl,II (show(5:Int)<6 by decide) rfl];cases fO (a,J0 r.2.2.2.2.2,4)with
 |none=>rfl
 |some y=>refine dY ?_;unfold KY;rfl
section
theorem _n.step{σ ρ:Type}{L:σ->Option (σ⊕ρ)}{Q:ρ->Prop}{s:σ}(h:_n (L s) λr=>match r with| .inl z=>_n (J4 L z) Q| .inr y=>Q y):_n (J4 L s) Q:=by
 obtain⟨r,e,h⟩:=h;cases r with
 |inl z=>grind [eX]
 |inr y=>rw[dY e];exact⟨y,rfl,h⟩
abbrev RV{σ ρ:Type}(Q:ρ->Prop):σ⊕ρ->Prop
 | .inl _=>False
 | .inr y=>Q y
abbrev JQY{σ ρ β:Type}(e:β->σ)(P:β->Prop)(Q:ρ->Prop):σ⊕ρ->Prop
 | .inl z=> ∃g,z=e g/\P g
 | .inr y=>Q y
theorem _n.endq{σ ρ:Type}{Q:ρ->Prop}{o:Option ρ}(h:_n o Q):_n (Option.map (Sum.inr:ρ->σ⊕ρ) o) (RV Q):=h.map λ_ h=>h
theorem _n.stq{σ ρ:Type}{L:σ->Option (σ⊕ρ)}{Q:ρ->Prop}{o:Option ρ}(h:_n o Q):_n (Option.map (Sum.inr:ρ->σ⊕ρ) o) λr=>match r with| .inl z=>_n (J4 L z) Q| .inr y=>Q y:=h.map λ_ h=>h
theorem gQ{σ ρ α β:Type}{L:σ->Option (σ⊕ρ)}{Q:ρ->Prop}{l:List α}(e:Int->β->σ)(P:List α->β->Prop)
  (hs: ∀(pre:List α) (x:α) (t:List α) (b:β),l=pre++x::t->P pre b->_n (L (e (J0 pre) b)) (JQY (e (J0 (pre++[x]))) (P (pre++[x])) Q))
  (he: ∀b,P l b->_n (L (e (J0 l) b)) (RV Q)):
  ∀(t pre:List α) (b:β) (s:σ),l=pre++t->s=e (J0 pre) b->P pre b->_n (J4 L s) Q
 |[],pre,b,s,hl,g,hp=>by
  rw[gE]at hl;subst hl g;refine .step ((he b hp).mono λr h=>?_);grind
 |x::t,pre,b,s,hl,g,hp=>by
  subst g;refine .step ((hs pre x t b hl hp).mono λr h=>?_);cases r with
  |inl z=>obtain⟨j,k,h1⟩:=h;exact gQ e P hs he t (pre++[x]) j z (by rw[hl];simp) k h1
  |inr y=>exact h
section
variable {α:Type} {l pre t:List α} {x:α}
theorem gO(h:l=pre++x::t):idx l (J0 pre)=Z x:=by
 grind [idx,J0]
theorem eJ(h:l=pre++x::t):J0 pre<J0 l:=by
 grind [J0]
theorem km(h:l=pre++x::t)(hl:J0 l<=4611686018427387904):J1 I (J0 pre) 1=J0 (pre++[x]):=by have h1:=eJ h;have h2:=J7 (l:=pre);have e:=Jb (J0 pre) 1;rw[cU,cI];omega
theorem DW{β:Type}(f:α->β)(h:l=pre++x::t):idx (l.map f) (J0 pre)=Z (f x):=by
 grind [idx,J0]
theorem JNp(h:l=pre++x::t):bE (_K l) (J0 pre)=Z ():=by
 grind [bE,J0]
theorem JNc(h:l=pre++x::t):bM l (_J (J0 pre))=Z x:=by
 grind [bM,J0]
end
end
section
theorem Nb{α:Type}{lt:α->α->Prop}(hi: ∀a,¬lt a a)(ha: ∀a b,lt a b-> ¬lt b a): ∀{a b:List α},a.Pairwise lt->b.Pairwise lt->(∀x,x∈a↔x∈b)->a=b
 |[],[],_,_,_=>rfl
 |[],y::b,_,_,h=>absurd ((h y).2 _L) (by simp)
 |x::a,[],_,_,h=>absurd ((h x).1 _L) (by simp)
 |x::a,y::b,g,j,h=>by
  obtain⟨o,k⟩:=_O.1 g;obtain⟨b1,b2⟩:=_O.1 j;have e:x=y:=(by grind [_L]);subst e;refine congrArg _ (Nb hi ha k b2 λz=>⟨λn=>?_,λn=>?_⟩)
  all_goals grind
abbrev TX:=aF×Int×Bool
def ltN(x y:aC):Prop:=x.1.2.2.1<y.1.2.2.1\/(x.1.2.2.1=y.1.2.2.1/\(x.1.1<y.1.1\/(x.1.1=y.1.1/\x.2<y.2)))
theorem ltN.irr(a:aC): ¬ltN a a:=by simp[ltN]
theorem ltN.asym(a b:aC)(h:ltN a b): ¬ltN b a:=by grind [ltN]
theorem ltN.trans{a b c:aC}(h:ltN a b)(g:ltN b c):ltN a c:=by grind [ltN]
theorem ltN.tri(a b:aC):ltN a b\/ltN b a\/a.2=b.2:=by grind [ltN]
def abv(r:aF)(to:Int):aF:=if to<r.1 then r else(to+1,r.2.1,r.2.2.1,r.2.2.2.1,r.2.2.2.2.1,(ent r).filter λe=>decide (to<e.1))
def clp:Int->Int->List aC->List TX
 |_,_,[]=>[]
 |lo,to,x::t=>
  if x.1.2.1<=(if x.1.2.2.1=lo then to else 0)then clp x.1.2.2.1 (if x.1.2.2.1=lo then to else 0) t
  else(abv x.1 (if x.1.2.2.1=lo then to else 0),x.2,decide ((if x.1.2.2.1=lo then to else 0)<x.1.1))::clp x.1.2.2.1 x.1.2.1 t
theorem zR(lo to:Int)(x:aC)(t:List aC):clp lo to (x::t)=if x.1.2.1<=(if x.1.2.2.1=lo then to else 0)then clp x.1.2.2.1 (if x.1.2.2.1=lo then to else 0) t
 else(abv x.1 (if x.1.2.2.1=lo then to else 0),x.2,decide ((if x.1.2.2.1=lo then to else 0)<x.1.1))::clp x.1.2.2.1 x.1.2.1 t:=rfl
theorem Qk: ∀{C:List aC} {lo to:Int} {D:List aC},(∀y∈D,y.1.2.2.1≠lo/\y.1.2.2.1≠ -1/\ ∀x∈C,y.1.2.2.1≠x.1.2.2.1)->clp lo to (C++D)=clp lo to C++clp (-1) 0 D
 |[],lo,to,[],_=>rfl
 |[],lo,to,y::D,h=>by
  grind [clp]
 |x::C,lo,to,D,h=>by
  have ih:=λg=>Qk (C:=C) (lo:=x.1.2.2.1) (to:=g) (D:=D) λy e=>⟨(h y e).2.2 x _L,(h y e).2.1,λz j=>(h y e).2.2 z (fR _ j)⟩;grind [zR]
theorem mp: ∀{C:List aC} {lo to:Int} {e:TX},(∀x∈C,0<=x.1.2.1)->0<=to->e∈clp lo to C-> ∃x t,x∈C/\0<=t/\e=(abv x.1 t,x.2,decide (t<x.1.1))
 |[],_,_,_,_,_,h=>by cases h
 |x::C,lo,to,e,hc,o,h=>by
  have hc': ∀y∈C,0<=y.1.2.1:=λy g=>hc y (fR _ g);rw[zR]at h;generalize n:(if x.1.2.2.1=lo then to else 0)=T at h;have h1:0<=T:=by grind
  by_cases c:x.1.2.1<=T;rw[if_pos c]at h;obtain⟨y,t,j,k⟩:=mp hc' h1 h;grind;rw[if_neg c]at h;rcases cV.1 h with rfl|h;grind;obtain⟨y,t,j,k⟩:=mp hc' (hc x _L) h;grind
theorem VW: ∀{C:List aC} {lo to:Int},(clp lo to C).length<=C.length
 |[],_,_=>zQ0 _
 |x::C,lo,to=>by
  rw[zR];generalize (if x.1.2.2.1=lo then to else 0)=T;split;exact Nat.le_succ_of_le VW;exact Nat.succ_le_succ VW
def nQ{α β:Type}(n:Nat)(g:List α->Option β):List α->Option (β×List α)|[]=>Y|x::t=>if(x::t).length<n then Y else match g ((x::t).take n)with|some b=>Z (b,(x::t).take n)|none=>nQ n g t
theorem JET{α β:Type}{n:Nat}{g:List α->Option β}: ∀{l:List α},l.length<n->nQ n g l=Y|[],_=>rfl|x::t,h=>by grind [nQ]
theorem Bk{α β:Type}(n:Nat)(g:List α->Option β)(x:α)(t:List α):nQ n g (x::t)=if(x::t).length<n then Y else match g ((x::t).take n)with|some b=>Z (b,(x::t).take n)|none=>nQ n g t:=rfl
def RU(r s:aF):Prop:=r.2.2.1=s.2.2.1/\r.2.2.2.1=s.2.2.2.1/\s.1=r.2.1+1
end
section
def iL:List aA->List TX->List aA|acc,[]=>acc|acc,x::t=>iL (mrg acc (ent x.1)) t
def toW:Int->List TX->Int|z,[]=>z|_,x::t=>toW x.1.2.1 t
def chX(L:Int):aF->List TX->Prop|_,[]=>True|p,x::t=>RU p x.1/\x.1.2.2.2.2.1=L/\chX L x.1 t
def jn(x:TX)(t:List TX):aF:=(x.1.1,toW x.1.2.1 t,x.1.2.2.1,x.1.2.2.2.1,J1 I x.1.2.2.2.2.1 1,iL (ent x.1) t)
noncomputable def gW:List TX->Option aF|[]=>Y|x::t=> @ite _ ((∀e∈x::t,e.2.2=O)/\chX x.1.2.2.2.2.1 x.1 t/\fI (jn x t)=Z O) (Classical.propDecidable _) (Z (jn x t)) Y
theorem PQ(x:TX)(t:List TX):gW (x::t)= @ite _ ((∀e∈x::t,e.2.2=O)/\chX x.1.2.2.2.2.1 x.1 t/\fI (jn x t)=Z O) (Classical.propDecidable _) (Z (jn x t)) Y:=rfl
theorem JJy(w:List TX)(h: ∃e∈w,¬e.2.2=O):gW w=Y:=by cases w<;>grind [PQ]
theorem JJX(a b:List aA):J0 (mrg a b)=J0 a+J0 b:=by simp[J0,JM7]
end
section
theorem JLX{α:Type}{lt:α->α->Prop}(ht: ∀a b c,lt a b->lt b c->lt a c){p:List α}{z x:α}(h:(p++[z]).Pairwise lt)(hz:lt z x):(p++[z]++[x]).Pairwise lt:=by
 grind
def Asc(l:_E):Prop:=l.Pairwise (· < ·)
structure gZ(a:aB):Prop where
 pages:1<=a.2.1/\a.2.1<=64
 len:1<=J0 a.1/\J0 a.1<=16
 zero:idx a.1 0=Z 0
 asc:Asc a.1
 last: ∀z,idx a.1 (J0 a.1-1)=Z z->z<a.2.1
 next:1<=a.2.2.2.1/\a.2.2.2.1<=1099511627777
 ser:1<=a.2.2.2.2/\a.2.2.2.2<=1073741825
 few:J0 a.2.2.1<=256
 _p:a.2.2.1.Pairwise λf g=>f.2.1<g.2.1
 inr: ∀f∈a.2.2.1,0<f.2.1/\f.2.1<a.2.2.2.2
theorem zn{α:Type}{l p t:List α}{z x:α}(h:l=(p++[z])++x::t):idx l (J0 (p++[z])-1)=Z z:=by simp_all [idx,J0]
theorem C9{T:Int}{fs:List aM}{σ:Type}{L:σ->Option (σ⊕Bool)}(e:Int->Int->σ)
  (hs: ∀pre x t last,fs=pre++x::t->(last<x.2.1->x.2.1<T->L (e (J0 pre) last)=Z (.inl (e (J0 (pre++[x])) x.2.1)))/\(¬(last<x.2.1/\x.2.1<T)->L (e (J0 pre) last)=Z (.inr J)))
  (he: ∀last,L (e (J0 fs) last)=Z (.inr O)):_n (J4 L (e 0 0)) λy=>y=O↔fs.Pairwise (λf g=>f.2.1<g.2.1)/\ ∀f∈fs,0<f.2.1/\f.2.1<T:=by
 refine gQ (l:=fs) (λi (b:Int)=>e i b) (λpre last=>pre.Pairwise (λf g=>f.2.1<g.2.1)/\(∀f∈pre,0<f.2.1/\f.2.1<T/\f.2.1<=last)/\0<=last/\(last=0\/ ∃f∈pre,f.2.1=last)) (λpre x t last hl hp=>?_) (λlast hp=>?_) fs [] 0 _ rfl rfl ⟨.nil,nofun,bC _,.inl rfl⟩
 ·obtain⟨h,n,j,k⟩:=hp;by_cases c:last<x.2.1/\x.2.1<T
  ·rw[(hs pre x t last hl).1 c.1 c.2];refine .s ⟨x.2.1,rfl,_M.2 ⟨h,_R _ _,λf hf g o=>?_⟩,λf hf=>?_,by omega,.inr ⟨x,by simp,rfl⟩⟩
   all_goals grind
  rw[(hs pre x t last hl).2 c];refine .s ⟨nofun,fun⟨q,r⟩=>absurd ?_ c⟩;grind
 rw[he];exact .s ⟨λ_=>⟨hp.1,λf hf=>⟨(hp.2.1 f hf).1,(hp.2.1 f hf).2.1⟩⟩,λ_=>rfl⟩
theorem Aw{l:_E}{σ:Type}{L:σ->Option (σ⊕Bool)}{Q:Bool->Prop}(e:Int->σ)(h1:1<=J0 l)
  (hs: ∀p z x t,l=(p++[z])++x::t->(z<x->L (e (J0 (p++[z])))=Z (.inl (e (J0 (p++[z]++[x])))))/\(¬z<x->L (e (J0 (p++[z])))=Z (.inr J)))
  (hq: ¬Asc l->Q J)
  (he:Asc l->_n (L (e (J0 l))) (RV Q)):_n (J4 L (e 1)) Q:=by
 cases l with
 |nil=>grind [J0]
 |cons a l=>
  refine gQ (l:=a::l) (λi (_:Unit)=>e i) (λpre _=>pre≠[]/\Asc pre) (λpre x t _ hl hp=>?_) (λ_ hp=>he hp.2) l [a] () _ rfl rfl ⟨by simp,_R _ _⟩;obtain⟨j,k⟩:=hp;obtain⟨p,z,rfl⟩: ∃p z,pre=p++[z]:=⟨pre.dropLast,pre.getLast j,(_S j).symm⟩;by_cases c:z<x;rw[(hs p z x t hl).1 c];exact .s ⟨(),rfl,by simp,JLX (lt:=λa b:Int=>a<b) (λa b c h g=>Int.lt_trans h g) k c⟩;rw[(hs p z x t hl).2 c];refine .s (hq λh=>absurd ?_ c);rw[hl]at h;exact(_M.1 h).2.2 z (by simp) x _L
theorem iB{α:Type}{p t l:List α}{x:α}{n:Int}(h:l=p++x::t)(hl:J0 l<=n)(hn:n<=4611686018427387904:=by decide):J1 I (J0 p) 1=J0 (p++[x]):=km h oo
theorem fu(a:aB):_n (AZ a) λy=>y=O↔gZ a:=by
 have e: ∀{p:Prop},¬p->(gZ a->p)->_n (Z J) λy=>y=O↔gZ a:=λhp h=>.s ⟨nofun,λk=>absurd (h k) hp⟩;have bd:_n (FG (a.2.1,a.1)) λy=>y=O↔(1<=a.2.1/\a.2.1<=64)/\(1<=J0 a.1/\J0 a.1<=16)/\idx a.1 0=Z 0/\Asc a.1/\ ∀z,idx a.1 (J0 a.1-1)=Z z->z<a.2.1:=by
  unfold FG;dsimp only;refine .j (λA=>.k (λB=>.j (λF=>.k (λD=>?_) λc=>.s ⟨nofun,λk=>by omega⟩) λc=>.s ⟨nofun,λk=>by omega⟩) λc=>.s ⟨nofun,λk=>by omega⟩) λc=>.s ⟨nofun,λk=>by omega⟩;obtain⟨z,o,_⟩:=gH (l:=a.1) (i:=0) _k oo;refine .w o (.d (λc=>.s ⟨nofun,λk=>absurd (o.symm.trans k.2.2.1) (by simpa using c)⟩) λj=>?_);subst j;refine Aw (l:=a.1) (λi=>(a.2.1,a.1,i)) oo (λp z x t h=>?_) (λh=>⟨nofun,λk=>absurd k.2.2.2.1 h⟩) λh=>?_;unfold s8
  (try dsimp only)
  have:=J7 (l:=p);have os:=JX (J0 (p++[z])) 1;have G:J0 (p++[z])=J0 p+1:=by rw[cU,cI]
  have lt:=eJ h;rw[if_pos (JI.2 lt),show Ji I (J0 (p++[z])) 1=J0 (p++[z])-1 by omega,zn h,gO h];dsimp only[_Q];exact⟨λc=>by rw[if_neg (by grind [kD]),iB h (n:=16) oo],λc=>by grind [kD]⟩;unfold s8
  (try dsimp only)
  have os:=JX (J0 a.1) 1;rw[if_neg (by simp[JI]),show Ji I (J0 a.1) 1=J0 a.1-1 by omega];obtain⟨w,E,_⟩:=gH (l:=a.1) (i:=J0 a.1-1) oo oo;rw[E];refine .s ?_;show aN w a.2.1=O↔_;simp_all [JI]
 unfold AZ;refine .b bd λy h=>.r (λg=>?_) λg=>e (p:=y=O) (by simp[g]) λk=>h.2 ⟨k.pages,k.len,k.zero,k.asc,k.last⟩;obtain⟨b1,b2,v,C,r⟩:=h.1 g;refine .j (λA=>.k (λB=>.j (λF=>.k (λD=>.g (λc=>e (p:=J0 a.2.2.1<=256) oo λk=>k.few) λj=>?_) λc=>e (p:=a.2.2.2.2<=1073741825) oo λk=>k.ser.2) λc=>e (p:=1<=a.2.2.2.2) oo λk=>k.ser.1) λc=>e (p:=a.2.2.2.1<=1099511627777) oo λk=>k.next.2) λc=>e (p:=1<=a.2.2.2.1) oo λk=>k.next.1;refine(C9 (T:=a.2.2.2.2) (fs:=a.2.2.1) (λi l=>(l,i,a)) (λpre x t last h=>?_) λlast=>?_).mono λy h=>h.trans ⟨λk=>⟨b1,b2,v,C,r,⟨by omega,by omega⟩,⟨by omega,by omega⟩,by omega,k.1,k.2⟩,λk=>⟨k._p,k.inr⟩⟩;unfold th;dsimp only;rw[if_pos (JI.2 (eJ h)),gO h];dsimp only[_Q];refine⟨λH _e=>?_,λq=>?_⟩;rw[if_pos (show bD x.2.1 last=J by grind [dV]),if_neg (by grind [kD]),iB h (n:=256) oo];simp_all [bD,kD];simp[th,JI]
theorem ft(a:aB):_n (xK a) λy=>y=O↔gZ a:=by
 have e: ∀{p:Prop},¬p->(gZ a->p)->_n (Z J) λy=>y=O↔gZ a:=λhp h=>.s ⟨nofun,λk=>absurd (h k) hp⟩;unfold xK;refine .j (λv=>.k (λA=>.j (λC=>.k (λB=>?_) λc=>e (p:=J0 a.1<=16) oo λk=>k.len.2) λc=>e (p:=1<=J0 a.1) oo λk=>k.len.1) λc=>e (p:=a.2.1<=64) oo λk=>k.pages.2) λc=>e (p:=1<=a.2.1) oo λk=>k.pages.1;obtain⟨z,r,_⟩:=gH (l:=a.1) (i:=0) _k oo;have os:=JX (J0 a.1) 1;obtain⟨w,o,_⟩:=gH (l:=a.1) (i:=J0 a.1-1) oo oo;refine .w r (.q (λj=>?_) λc=>e (p:=idx a.1 0=Z 0) (by simp_all) λk=>k.zero);subst j;rw[show Ji I (J0 a.1) 1=J0 a.1-1 by omega];refine .w o (.h (λc=>e (p:=w<a.2.1) oo λk=>k.last w o) λD=>?_);refine Aw (l:=a.1) (λi=>(J0 a.1,i,a)) oo (λp z x t h=>?_) (λh=>⟨nofun,λk=>absurd k.asc h⟩) λh=>?_;unfold uf
 (try dsimp only)
 have:=J7 (l:=p);have os:=JX (J0 (p++[z])) 1;have E:J0 (p++[z])=J0 p+1:=by rw[cU,cI]
 have lt:=eJ h;rw[if_pos (JI.2 lt),show Ji I (J0 (p++[z])) 1=J0 (p++[z])-1 by omega,zn h,gO h];dsimp only[_Q];exact⟨λc=>by rw[if_neg (by simp_all [kD]),iB h (n:=16) oo],λc=>by simp_all [kD]⟩;unfold uf
 (try dsimp only)
 rw[if_neg (by simp[JI])];refine .endq ?_;refine .j (λv=>.k (λA=>.j (λC=>.k (λB=>.g (λc=>e (p:=J0 a.2.2.1<=256) oo λk=>k.few) λj=>?_) λc=>e (p:=a.2.2.2.2<=1073741825) oo λk=>k.ser.2) λc=>e (p:=1<=a.2.2.2.2) oo λk=>k.ser.1) λc=>e (p:=a.2.2.2.1<=1099511627777) oo λk=>k.next.2) λc=>e (p:=1<=a.2.2.2.1) oo λk=>k.next.1;refine(C9 (T:=a.2.2.2.2) (fs:=a.2.2.1) (λi l=>(l,a.2.2.1,J0 a.2.2.1,i,a)) (λpre x t last g=>?_) λlast=>?_).mono λy g=>g.trans ⟨λk=>⟨⟨by omega,by omega⟩,⟨by omega,by omega⟩,r,h,λz G=>by simp_all,⟨by omega,by omega⟩,⟨by omega,by omega⟩,by omega,k.1,k.2⟩,λk=>⟨k._p,k.inr⟩⟩;unfold ud;dsimp only;rw[if_pos (JI.2 (eJ g)),gO g];dsimp only[_Q];refine⟨λF H=>?_,λq=>?_⟩;rw[if_pos (show bD x.2.1 last=J by rw[<-Bool.not_eq_true,dV];omega),if_neg (by simp_all [kD]),iB g (n:=256) oo];simp_all [bD,kD];simp[ud,JI]
end
def P32:Nat:=2197175160
def gb(c:Nat):Nat:=if c%2=1 then c/2^^^P32 else c/2
def gN:Nat->Nat->Nat|0,c=>c|j+1,c=>gN j (gb c)
def sl(b:Nat):Nat:=if b=1 then P32 else 0
theorem OK(c:Nat):gb c=c/2^^^sl (c%2):=by
 unfold gb sl;split;rfl;rw[Nat.xor_zero]
theorem JP9(x y:Nat):gb (x^^^y)=gb x^^^gb y:=by
 have g:(x^^^y)/2=x/2^^^y/2:=by have:= @Nat.xor_div_two_pow x y 1;simpa using this
 have k:(x^^^y)%2=x%2^^^y%2:=by have:= @Nat.xor_mod_two_pow x y 1;simpa using this
 simp only[OK,g,k];have j:sl (x%2^^^y%2)=sl (x%2)^^^sl (y%2):=by rcases Nat.mod_two_eq_zero_or_one x with h|h<;>rcases Nat.mod_two_eq_zero_or_one y with e|e<;>rw[h,e]<;>decide
 rw[j]
 ac_rfl
theorem VA: ∀(j x y:Nat),gN j (x^^^y)=gN j x^^^gN j y|0,_,_=>rfl|j+1,x,y=>by simp only[gN];rw[JP9,VA j]
theorem Oj: ∀(i j x:Nat),gN (i+j) x=gN j (gN i x)|0,j,x=>by simp[gN]|i+1,j,x=>by rw[Nat.succ_add];simp only[gN];exact Oj i j _
theorem Pw(c:Nat):gN 4 c=c/16^^^(sl (c/8%2)^^^gN 1 (sl (c/4%2))^^^gN 2 (sl (c/2%2))^^^gN 3 (sl (c%2))):=by
 have s1:gN 4 c=gN 3 (c/2)^^^gN 3 (sl (c%2)):=by rw[<-VA,<-OK];rfl
 have h:gN 3 (c/2)=gN 2 (c/4)^^^gN 2 (sl (c/2%2)):=by rw[<-VA,show c/4=c/2/2 by omega,<-OK];rfl
 have e:gN 2 (c/4)=gN 1 (c/8)^^^gN 1 (sl (c/4%2)):=by rw[<-VA,show c/8=c/4/2 by omega,<-OK];rfl
 have g:gN 1 (c/8)=c/16^^^sl (c/8%2):=by rw[show c/16=c/8/2 by omega,<-OK];rfl
 rw[s1,h,e,g]
 ac_rfl
theorem JKg(c:Nat):gN 4 c=c/16^^^gN 4 (c%16):=by
 rw[Pw c,Pw (c%16)];have g:c%16/16=0:=by omega
 have h:c%16/8%2=c/8%2:=by omega
 have j:c%16/4%2=c/4%2:=by omega
 have k:c%16/2%2=c/2%2:=by omega
 have e:c%16%2=c%2:=by omega
 rw[g,h,j,k,e,Nat.zero_xor]
theorem j5:P32<2^32:=by decide
theorem OJ{c:Nat}(h:c<2^32):gb c<2^32:=by
 unfold gb;split;exact j! oo j5;omega
theorem CX: ∀{j c:Nat},c<2^32->gN j c<2^32|0,_,h=>h|j+1,_,h=>CX (j:=j) (OJ h)
theorem DZ(n:Nat)(h:n<2^32):IntKind.wrap .u32 (n:Int)=(n:Int):=by rw[show IntKind.wrap .u32 (n:Int)=(n:Int)%4294967296 from rfl];omega
theorem GX{n:Nat}(h:n<2^32):(BitVec.ofInt 32 (n:Int)).toNat=n:=by rw[BitVec.toNat_ofInt];omega
theorem QK{x y:Nat}(hx:x<2^32)(hy:y<2^32):hW .u32 (x:Int) (y:Int)=((x^^^y:Nat):Int):=by show IntKind.wrap .u32 (((BitVec.ofInt 32 (x:Int)^^^BitVec.ofInt 32 (y:Int)).toNat:Nat):Int)=_;rw[BitVec.toNat_xor,GX hx,GX hy,DZ _ (j! hx hy)]
theorem Ap{x:Nat}(hx:x<2^32)(k:Nat)(hk:k<=20):lQ .u32 (x:Int) ((2^k-1:Nat):Int)=((x%2^k:Nat):Int):=by
 show IntKind.wrap .u32 (((BitVec.ofInt 32 (x:Int)&&&BitVec.ofInt 32 ((2^k-1:Nat):Int)).toNat:Nat):Int)=_;have h2:2^k-1<2^32:=by have:(2:Nat)^k<=2^20:=GA oo hk;omega
 rw[BitVec.toNat_and,GX hx,GX h2,Nat.and_two_pow_sub_one_eq_mod,DZ _ (Nat.lt_of_le_of_lt (Nat.mod_le _ _) hx)]
theorem Li{x:Nat}(hx:x<2^32):lQ .u32 (x:Int) 1=((x%2:Nat):Int):=Ap hx 1 oo
theorem JPI{x:Nat}(hx:x<2^32):lQ .u32 (x:Int) 15=((x%16:Nat):Int):=Ap hx 4 oo
theorem ec(x:Nat):hX .u32 (x:Int) 1=Z ((x/2:Nat):Int):=by show Z ((x:Int).fdiv 2)=_;rw[Int.fdiv_eq_ediv_of_nonneg _ oo];simp
theorem Kg(x:Nat):hX .u32 (x:Int) 4=Z ((x/16:Nat):Int):=by show Z ((x:Int).fdiv 16)=_;rw[Int.fdiv_eq_ediv_of_nonneg _ oo];simp
def uY:_j->Nat->Nat|[],c=>c|b::r,c=>uY r (gN 8 (c^^^b.toNat))
theorem DX(b:UInt8):b.toNat<2^32:=by have:=UInt8.toNat_lt b;omega
theorem Qt: ∀{l:_j} {c:Nat},c<2^32->uY l c<2^32|[],_,h=>h|b::r,_,h=>Qt (l:=r) (CX (j! h (DX b)))
def crc(l:_j):Nat:=uY l 4294967295^^^4294967295
theorem JOP(l:_j):crc l<2^32:=j! (Qt _k) _k
theorem A1{x:Nat}(hx:x<2^32):NJ .u32 (x:Int)=((x^^^4294967295:Nat):Int):=by show IntKind.wrap .u32 (((BitVec.ofInt 32 4294967295^^^BitVec.ofInt 32 (x:Int)).toNat:Nat):Int)=_;rw[BitVec.toNat_xor,GX hx,show(4294967295:Int)=((4294967295:Nat):Int) by rfl,GX _k,Nat.xor_comm,DZ _ (j! hx _k)]
theorem k8(l:_j)(hl:J0 l<=1073741824):oG l=Z ((crc l:Nat):Int):=by
 have j: ∀(x c:Nat),c<2^32->_n (J4 SA (l,(c:Int),(x:Int),0)) λr=>r=.inl (l,((gN 8 c:Nat):Int),J1 I (x:Int) 1):=λx c hc=>by
  refine Jl (τ:=Nat×Nat) (λq=>(l,(q.2:Int),(x:Int),(q.1:Int))) (λq=>q.1<=8/\q.2<2^32/\gN (8-q.1) q.2=gN 8 c) (λq=>8-(q.1:Int)) ?_ (0,c) rfl ⟨by omega,hc,rfl⟩;rintro⟨k,d⟩ ⟨h1,h2,g⟩;unfold SA;dsimp only at h1 h2 g⊢;have o:=Jb (k:Int) 1;refine .l (λv=>?_) λv=>.map (P:=λr=>r=.inl (l,((gN 8 c:Nat):Int),J1 I (x:Int) 1)) (.s ?_) λ_ h=>h;have D:=Li h2;have z:gN (8-(k+1)) (gb d)=gN 8 c:=by rw[<-g,show 8-k=(8-(k+1))+1 by omega];rfl
  have w:J1 I (k:Int) 1=((k+1:Nat):Int):=by omega
  rw[D];refine .e (λhb=>.w (ec d) (.s ⟨(k+1,gb d),?_,⟨by omega,OJ h2,z⟩,by omega,by omega⟩)) λhb=>.w (ec d) (.s ⟨(k+1,gb d),?_,⟨by omega,OJ h2,z⟩,by omega,by omega⟩);have hb:d%2=1:=by omega
  have n:gb d=d/2^^^P32:=by unfold gb;rw[if_pos hb]
  rw[w,n,show(2197175160:Int)=((P32:Nat):Int)from rfl,QK oo j5];have hb: ¬d%2=1:=by omega
  have n:gb d=d/2:=by unfold gb;rw[if_neg hb]
  rw[w,n];have hk:k=8:=by omega
  subst hk;rw[<-g];rfl
 have y:_n (oG l) λr=>r=((crc l:Nat):Int):=by
  unfold oG;refine Jl (τ:=Nat×Nat) (λq=>(l,(q.2:Int),(q.1:Int))) (λq=>q.1<=l.length/\q.2<2^32/\uY (l.drop q.1) q.2=uY l 4294967295) (λq=>(l.length:Int)-(q.1:Int)) ?_ (0,4294967295) rfl ⟨by omega,by decide,rfl⟩;rintro⟨k,d⟩ ⟨h1,h2,g⟩;unfold YY;dsimp only at h1 h2 g⊢;have E:J0 l=(l.length:Int):=rfl;have o:=Jb (k:Int) 1;refine .l (λv=>?_) λv=>.s ?_;have hk:k<l.length:=by omega
  have A:=j! h2 (DX l[k]);refine .w (UO hk) ?_;have B:aX .u32 ((l[k]).toNat:Int)=((l[k]).toNat:Int):=DZ _ (DX _);rw[B,QK h2 (DX _)];obtain⟨r,C,rfl⟩:=j k _ A;rw[C];refine .s ⟨(k+1,gN 8 (d^^^(l[k]).toNat)),?_,⟨by omega,CX A,?_⟩,by omega,by omega⟩;rw[show J1 I (k:Int) 1=((k+1:Nat):Int) by omega];rw[<-g,List.drop_eq_getElem_cons hk];rfl;have hk:k=l.length:=by omega
  subst hk;rw[List.drop_length]at g;have g:d=uY l 4294967295:=g;rw[A1 h2,g];rfl
 obtain⟨r,e,rfl⟩:=y;exact e
theorem Px{n k:Nat}(h:k<n):bE n (k:Int)=Z ():=by
 have e:(0:Int)<=k/\(k:Int)<n:=by omega
 simp[bE,e]
theorem JJd:_n (ir ()) λv=> ∀(i:Nat) (h:i<16),v[i]=((gN 4 i:Nat):Int):=by
 have w: ∀(x:Nat) (n g:Vector Int 16),x<16->_n (J4 yt ((x:Int),(x:Int),(x:Int),0,n,g)) λr=>r=.inl (J1 I (x:Int) 1,n,bN g x ((gN 4 x:Nat):Int)):=λx n g C=>by
  refine Jl (τ:=Nat×Nat) (λq=>((x:Int),(q.2:Int),(x:Int),(q.1:Int),n,g)) (λq=>q.1<=4/\q.2<2^32/\gN (4-q.1) q.2=gN 4 x) (λq=>4-(q.1:Int)) ?_ (0,x) rfl ⟨by omega,by omega,rfl⟩;rintro⟨k,d⟩ ⟨h1,h2,j⟩;unfold yt;dsimp only at h1 h2 j⊢;have o:=Jb (k:Int) 1;refine .l (λz=>?_) λz=>.map (P:=λr=>r=.inl (J1 I (x:Int) 1,n,bN g x ((gN 4 x:Nat):Int))) ?_ λ_ h=>h;have F:=Li h2;have B:gN (4-(k+1)) (gb d)=gN 4 x:=by rw[<-j,show 4-k=(4-(k+1))+1 by omega];rfl
  have A:J1 I (k:Int) 1=((k+1:Nat):Int):=by omega
  rw[F];refine .e (λhb=>.w (ec d) (.s ⟨(k+1,gb d),?_,⟨by omega,OJ h2,B⟩,by omega,by omega⟩)) λhb=>.w (ec d) (.s ⟨(k+1,gb d),?_,⟨by omega,OJ h2,B⟩,by omega,by omega⟩);have hb:d%2=1:=by omega
  have y:gb d=d/2^^^P32:=by unfold gb;rw[if_pos hb]
  rw[A,y,show(2197175160:Int)=((P32:Nat):Int)from rfl,QK oo j5];have hb: ¬d%2=1:=by omega
  have y:gb d=d/2:=by unfold gb;rw[if_neg hb]
  rw[A,y];have hk:k=4:=by omega
  subst hk;have j:d=gN 4 x:=j;have G:vat g (_J (x:Int))=Z g[x]:=by simp[vat,C]
  refine .w (Px C) (.w G (.s ?_));rw[j];rfl
 unfold ir;refine Jl (τ:=Nat×Vector Int 16) (λq=>((q.1:Int),Vector.replicate 16 0,q.2)) (λq=>q.1<=16/\ ∀(i:Nat) (h:i<16),i<q.1->q.2[i]=((gN 4 i:Nat):Int)) (λq=>16-(q.1:Int)) ?_ (0,Vector.replicate 16 0) rfl ⟨by omega,λi h H=>by omega⟩;rintro⟨k,v⟩ ⟨h1,h2⟩;unfold I2;dsimp only at h1 h2⊢;have o:=Jb (k:Int) 1;refine .l (λz=>?_) λz=>.s λi h=>h2 i h oo;have hk:k<16:=by omega
 have D:aX .u32 (k:Int)=(k:Int):=DZ _ oo;rw[D];obtain⟨r,E,rfl⟩:=w k (Vector.replicate 16 0) v hk;rw[E];refine .s ⟨(k+1,bN v k ((gN 4 k:Nat):Int)),by rw[show J1 I (k:Int) 1=((k+1:Nat):Int) by omega],⟨by omega,λi h hi=>?_⟩,by omega,by omega⟩;simp only[bN,Vector.getElem_setIfInBounds];by_cases e:k=i;subst e;simp;rw[if_neg e];exact h2 i h oo
theorem Po(l:_j)(hl:J0 l<=1073741824):KI l=Z ((crc l:Nat):Int):=by
 have n:_n (KI l) λr=>r=((crc l:Nat):Int):=by
  unfold KI;refine .b JJd λv ht=>Jl (τ:=Nat×Nat) (λq=>(l,(q.2:Int),J0 l,(q.1:Int),v)) (λq=>q.1<=l.length/\q.2<2^32/\uY (l.drop q.1) q.2=uY l 4294967295) (λq=>(l.length:Int)-(q.1:Int)) ?_ (0,4294967295) rfl ⟨by omega,by decide,rfl⟩;rintro⟨k,d⟩ ⟨h1,h2,g⟩;unfold Gb;dsimp only at h1 h2 g⊢;have D:J0 l=(l.length:Int):=rfl;have o:=Jb (k:Int) 1;refine .l (λz=>?_) λz=>.s ?_;have hk:k<l.length:=by omega
  have j:=j! h2 (DX l[k]);have step: ∀x:Nat,x<2^32->bE 16 (lQ .u32 (x:Int) 15)=Z ()/\vat v (_J (lQ .u32 (x:Int) 15))=Z ((gN 4 (x%16):Nat):Int)/\hW .u32 ((x/16:Nat):Int) ((gN 4 (x%16):Nat):Int)=((gN 4 x:Nat):Int):=by
   intro x j;have h:x%16<16:=by omega
   rw[JPI j];refine⟨Px h,by rw[_X,<-ht _ h];simp[vat,h],?_⟩;rw[QK oo (CX oo),<-JKg]
  obtain⟨B,C,A⟩:=step _ j;obtain⟨b1,b2,y⟩:=step (gN 4 (d^^^(l[k]).toNat)) (CX j);have w:aX .u32 ((l[k]).toNat:Int)=((l[k]).toNat:Int):=DZ _ (DX _);refine .w (UO hk) ?_;rw[w,QK h2 (DX _)];refine .w (Kg _) (.w B (.w C ?_));rw[A];refine .w (Kg _) (.w b1 (.w b2 ?_));rw[y];refine .s ⟨(k+1,gN 4 (gN 4 (d^^^(l[k]).toNat))),by rw[show J1 I (k:Int) 1=((k+1:Nat):Int) by omega],⟨by omega,CX (CX j),?_⟩,by omega,by omega⟩;rw[<-g,List.drop_eq_getElem_cons hk,<-Oj 4 4];rfl;have hk:k=l.length:=by omega
  subst hk;rw[List.drop_length]at g;have g:d=uY l 4294967295:=g;rw[A1 h2,g];rfl
 obtain⟨r,e,rfl⟩:=n;exact e
theorem Ab{n:Int}(h1:0<=n)(h2:n<18446744073709551616):IntKind.u64.wrap n=n:=by rw[show IntKind.u64.wrap n=n%18446744073709551616 by simp[IntKind.wrap,IntKind.bits,IntKind.signed]];omega
theorem oj{σ τ ρ:Type}{f:σ->Option (σ⊕ρ)}{g:τ->Option (τ⊕ρ)}(R:σ->τ->Prop)
  (h: ∀s t,R s t->(f s=Y/\g t=Y)\/(∃r,f s=Z (.inr r)/\g t=Z (.inr r))\/ ∃s' t',f s=Z (.inl s')/\g t=Z (.inl t')/\R s' t'):
  ∀(n:Nat) s t,R s t->dK f n s=dK g n t
 |0,s,t,_=>rfl
 |n+1,s,t,hR=>by
  rcases h s t hR with⟨h1,h2⟩|⟨r,h1,h2⟩|⟨s',t',h1,h2,e⟩;simp only[dK,h1,h2];simp only[dK,h1,h2];simp only[dK,h1,h2];exact oj R h n s' t' e
theorem QO{σ τ ρ:Type}{f:σ->Option (σ⊕ρ)}{g:τ->Option (τ⊕ρ)}(R:σ->τ->Prop)
  (h: ∀s t,R s t->(f s=Y/\g t=Y)\/(∃r,f s=Z (.inr r)/\g t=Z (.inr r))\/ ∃s' t',f s=Z (.inl s')/\g t=Z (.inl t')/\R s' t') {s:σ} {t:τ} (hR:R s t):
  J4 f s=J4 g t:=by
 apply Option.ext;intro r;rw[mG,mG];constructor;rintro⟨n,e⟩;exact⟨n,by rw[<-oj R h n s t hR];exact e⟩;rintro⟨n,e⟩;exact⟨n,by rw[oj R h n s t hR];exact e⟩
theorem VH(x:_j×Jn):EQ x=JM x:=by
 obtain⟨s,a,n⟩:=x;unfold EQ JM;dsimp only;by_cases h1:aN n 1=J;rw[if_pos h1,if_pos h1];by_cases h2:aS n 8=J;rw[if_pos h2,if_pos h2];split;rfl;split;split;rfl;have L:1<=n:=by
  have: ¬n<1:=λh=>by rw[JI.2 h]at h1;cases h1
  omega
 have E:n<=8:=by
  have: ¬8<n:=λh=>by rw[fN.2 h]at h2;cases h2
  omega
 refine QO (fun(z:_j×Int×Int×Int×Int) (w:_j×Int×Int×Int×Int)=>z.1=w.1/\z.2.1=w.2.1/\z.2.2.1=w.2.2.2.1/\z.2.2.2.1=w.2.2.1/\z.2.2.2.2=w.2.2.2.2/\0<=z.2.2.2.2/\z.2.2.2.1<=8) ?_ ⟨rfl,rfl,rfl,rfl,rfl,bC _,E⟩;rintro⟨s1,G,_e,F,g⟩ ⟨H,N,M,_d,K⟩ ⟨A,v,B,k,j,C,r⟩;dsimp only at A v B k j C r;subst A v B k j;unfold Fe BI;dsimp only;by_cases hk:aN g F=O;rw[if_pos hk,if_pos hk];have hk:=JI.1 hk;have D:aX .u64 (bX I 8 g)=bX I 8 g:=by
  have o:=pU 8 g;have e:bX I 8 g=8*g:=by omega
  rw[e];exact Ab oo oo
 rw[D];cases nR s1 (J1 I G g)with
 |none=>exact .inl ⟨rfl,rfl⟩
 |some y=>
  simp only[JF];cases nP .u64 (aX .u64 y) (bX I 8 g)with
  |none=>exact .inl ⟨rfl,rfl⟩
  |some q=>have o:=Jb g 1;exact .inr (.inr ⟨_,_,rfl,rfl,rfl,rfl,rfl,rfl,rfl,by dsimp only;omega,r⟩)
 rw[if_neg hk,if_neg hk];exact .inr (.inl ⟨_,rfl,rfl⟩);rfl;rw[if_neg h2,if_neg h2];rw[if_neg h1,if_neg h1]
theorem kv{l:_j}{n:Int}{k:Nat}(h1:1<=k)(h:k<=8)(hl:J0 l<=70368744177664):fO (l,n,(k:Int))=Z (l++J0p n k):=by
 show Jod l n (k:Int)=_;have e: ¬((k:Int)<1\/8<(k:Int)):=by omega
 have g:l.length+8<=140737488355328:=by unfold J0 at hl;omega
 rw[Jod,if_neg e,if_pos g,_X]
theorem mf{s:_j}{n:Int}{k:Nat}(h1:1<=k)(y:k<=8)(hl:J0 s<=70368744177664):JC (s,n,(k:Int))=Z (s++J0p n k):=by
 have g:_n (JC (s,n,(k:Int))) λr=>r=s++J0p n k:=by
  unfold JC;refine .j (λ_=>.g (λc=>by dsimp only at c;omega) λ_=>?_) λc=>by dsimp only at c;omega
  refine Jl (τ:=Nat) (λj=>(s++J0p n j,n,(k:Int),(j:Int))) (λj=>j<=k) (λj=>(k:Int)-(j:Int)) ?_ 0 (by simp[J0p,_C]) (zQ2 _);intro j z;unfold ZV;dsimp only;have x:=Jb (j:Int) 1;have w:=pU 8 (j:Int);refine .l (λc=>?_) λc=>.s (by rw[show j=k by omega]);have o:aX .u64 (bX I 8 (j:Int))=((8*j:Nat):Int):=by unfold aX;rw[Ab oo oo];omega
  have v:hX .u64 (aX .u64 n) (aX .u64 (bX I 8 (j:Int)))=Z ((aX .u64 n).fdiv (2^(8*j))):=by
   rw[o];simp only[hX];rw[if_neg oo];have:min (((8*j:Nat):Int)).toNat IntKind.u64.bits=8*j:=by simp only[_X];exact Nat.min_eq_left (by show 8*j<=64;omega)
   rw[this]
  have q:aX .u8 ((aX .u64 n).fdiv (2^(8*j)))=J6R n j:=rfl;refine .w v ?_;rw[q];have h:cT (s++J0p n j) (_C [J6R n j])=Z (s++J0p n (j+1)):=by unfold cT;rw[if_pos (by unfold J0 at hl;simp[J0p,_C];omega)];simp[J0p,_C,List.range_succ]
  exact .w h (.s ⟨j+1,by rw[show J1 I (j:Int) 1=((j+1:Nat):Int) by omega],by omega,by omega,by omega⟩)
 obtain⟨r,e,rfl⟩:=g;exact e
theorem A6(l:_j):nG l=nF l:=by
 unfold nG nF;by_cases h:aS (J0 l) 8392=O;rw[if_pos h,if_pos h];rw[if_neg h,if_neg h];have hl:J0 l<=8392:=by have: ¬8392<J0 l:=λc=>h (fN.2 c);omega
 have j:J0 ([]:_j)<=70368744177664:=by decide
 have e:=kv (l:=[]) (n:=J0 l) (k:=4) _k _k j;have g:=mf (s:=[]) (n:=J0 l) (k:=4) _k _k j;rw[show((4:Nat):Int)=4 from rfl]at e g;rw[e,g];simp only[JF];cases hc:cT ([]++J0p (J0 l) 4) l with
 |none=>rfl
 |some y=>
  simp only[JF];have r:J0 y<=8396:=(by unfold cT at hc;split at hc;cases hc;unfold J0 at*;simp[J0p,_C];omega;cases hc);rw[Po y oo,k8 y oo];simp only[JF];have o:=kv (l:=y) (n:=aX I ((crc y:Nat):Int)) (k:=4) _k _k oo;have q:=mf (s:=y) (n:=aX I ((crc y:Nat):Int)) (k:=4) _k _k oo;rw[show((4:Nat):Int)=4 from rfl]at o q;rw[o,q]
theorem ey{s:_j}{p:Int}(hp:0<=p)(hl:J0 s<=1073741824):
  (p+4<=J0 s-> ∃v:Nat,v<2^32/\JM (s,p,4)=Z ((v:Int),0))/\(J0 s<p+4->p<=4611686018427387904->JM (s,p,4)=Z (0,5)):=by
 have o:=JX (J0 s) p;have H:J0 s=(s.length:Int):=rfl;refine⟨λh=>?_,λh G=>?_⟩;have k:_n (JM (s,p,4)) λy=> ∃v:Nat,v<2^32/\y=((v:Int),0):=by
  unfold JM;dsimp only;refine .j (λ_=>.k (λ_=>.l (λc=>by omega) λ_=>.k (λ_=>.l (λc=>by omega) λ_=>?_) λc=>by omega) λc=>by omega) λc=>by omega
  refine Jl (τ:=Nat×Nat) (λq=>(s,p,4,(q.2:Int),(q.1:Int))) (λq=>q.1<=4/\q.2<2^(8*q.1)) (λq=>4-(q.1:Int)) ?_ (0,0) rfl ⟨by omega,by decide⟩;rintro⟨j,x⟩ ⟨E,n⟩;dsimp only at E n;unfold BI;dsimp only;have K:=Jb (j:Int) 1;have _d:=pU 8 (j:Int);have L:=Jb p (j:Int);refine .l (λc=>?_) λc=>.s ?_;have D:J1 I p (j:Int)=((p.toNat+j:Nat):Int):=by omega
  have g:p.toNat+j<s.length:=by omega
  have w:(s[p.toNat+j]'g).toNat<256:=UInt8.toNat_lt _;have B:aX .u64 (bX I 8 (j:Int))=((8*j:Nat):Int):=by unfold aX;rw[yJ oo oo];omega
  have C:nP .u64 (aX .u64 (((s[p.toNat+j]'g).toNat:Nat):Int)) ((8*j:Nat):Int)=Z (IntKind.wrap .u64 ((((s[p.toNat+j]'g).toNat:Nat):Int)*2^(8*j))):=by
   unfold aX;rw[yJ oo oo];simp only[nP];rw[if_neg oo];have:min (((8*j:Nat):Int)).toNat IntKind.u64.bits=8*j:=by simp only[_X];exact Nat.min_eq_left (by show 8*j<=64;omega)
   rw[this]
  have z:=Oa (x:=x) (b:=(s[p.toNat+j]'g).toNat) (j:=j) oo n w;have A:x+(s[p.toNat+j]'g).toNat*2^(8*j)<2^(8*(j+1)):=by
   have _e:(2:Nat)^(8*(j+1))=256*2^(8*j):=by rw[Nat.mul_add,Nat.pow_add,GN]
   have:((s[p.toNat+j]'g).toNat+1)*2^(8*j)<=256*2^(8*j):=zQ4 _ oo;rw[zQ8,Nat.one_mul]at this;omega
  rw[D,UO g,JF,B,C,JF,z];exact .s ⟨(j+1,x+(s[p.toNat+j]'g).toNat*2^(8*j)),by rw[show J1 I (j:Int) 1=((j+1:Nat):Int) by omega],⟨by omega,A⟩,by omega,by omega⟩;have r:j=4:=by omega
  subst r;refine⟨x,n,?_⟩;unfold aX;rw[ef oo oo]
 obtain⟨y,e,v,F,rfl⟩:=k;exact⟨v,F,e⟩;have k:_n (JM (s,p,4)) λy=>y=(0,5):=(by unfold JM;dsimp only;exact .j (λ_=>.k (λ_=>.l (λc=>by omega) λ_=>.k (λ_=>.l (λc=>.s rfl) λc=>by omega) λc=>.s rfl) λc=>by omega) λc=>by omega);obtain⟨y,e,rfl⟩:=k;exact e
theorem C5{s:_j}{p:Int}(hl:J0 s<=1073741824):SL (s,p)=jO (s,p):=by
 unfold SL jO;dsimp only;by_cases g:aN p 0=J;rw[if_pos g,if_pos g];have hp:0<=p:=by
  have: ¬p<0:=λc=>by rw[JI.2 c]at g;cases g
  omega
 by_cases h1:aS p (J0 s)=O;rw[if_pos h1,if_pos h1];rw[if_neg h1,if_neg h1];have r:p<=J0 s:=by have: ¬J0 s<p:=λc=>h1 (fN.2 c);omega
 rw[VH];rcases Int.lt_or_le (J0 s) (p+4)with hc|hc;rw[(ey hp hl).2 hc oo];rfl;obtain⟨v,_e,e⟩:=(ey hp hl).1 hc;rw[e];simp only[JF];rw[if_neg (show¬aQ 0 0=O by decide),if_neg (show¬aQ 0 0=O by decide)];by_cases h2:aS (v:Int) 8392=O;rw[if_pos h2,if_pos h2];rw[if_neg h2,if_neg h2];have y:(v:Int)<=8392:=by have: ¬8392<(v:Int):=λc=>h2 (fN.2 c);omega
 have D:=Jb p 4;have C:=Jb (J1 I p 4) (v:Int);have E:=JX (J0 s) p;have F:=Jb (v:Int) 8;have A:=Jb p 8;have z:=Jb (J1 I p 8) (v:Int);have B:=Jb (J1 I (J1 I p 4) (v:Int)) 4;have j:0<=J1 I (J1 I p 4) (v:Int):=by omega
 rw[VH];rcases Int.lt_or_le (J0 s) (J1 I (J1 I p 4) (v:Int)+4)with hd|hd;rw[(ey j hl).2 hd oo,if_pos (JI.2 oo)];rfl;obtain⟨u,q,e'⟩:=(ey j hl).1 hd;rw[e',if_neg (λc=>by have:=JI.1 c;omega)];simp only[JF];rw[if_neg (show¬aQ 0 0=O by decide)];cases hs:bA s (Z p) (Z (J1 I (J1 I p 4) (v:Int)))with
 |none=>rfl
 |some w=>
  simp only[JF];have G:J0 w<=J0 s:=by
   have o:p<=J1 I (J1 I p 4) (v:Int):=by omega
   obtain⟨w',h,_,H⟩:=vV (l:=s) hp o oo;rw[hs]at h;cases h;omega
  rw[Po w oo,k8 w oo];simp only[JF];have x:=JOP w;have k:aX I ((crc w:Nat):Int)=((crc w:Nat):Int):=by unfold aX;rw[ef oo oo]
  have n:aX .u32 (u:Int)=(u:Int):=DZ _ q;rw[k,n,show J1 I (J1 I (J1 I p 4) (v:Int)) 4=J1 I (J1 I p 8) (v:Int) by omega]
 rw[if_neg g,if_neg g]
theorem JLJ{x:_j×Jn}{y:Jn}(h:JM x=Z y):y.2=0\/y.1=0:=by apply _s.go h;unfold JM;refine .j (λ_=>.k (λ_=>.l (λ_=>.s (.inr rfl)) λ_=>.k (λ_=>.l (λ_=>.s (.inr rfl)) λ_=>?_) λ_=>.s (.inr rfl)) λ_=>.s (.inr rfl)) λ_=>.s (.inr rfl);refine .z (λ_=>True) trivial ?_;intro z _;unfold BI;exact .l (λ_=>.b λ_ _=>.b λ_ _=>.s _g) λ_=>.s (.inl rfl)
theorem Bj(x:Int×_j×Jn):oY x=JB x:=by
 unfold oY JB;by_cases h:aQ x.2.2.2 0=O;rw[if_pos h,if_pos h];rw[if_neg h,if_neg h,VH];have j:x.2.2.2=0:=Decidable.of_not_not λc=>h (fB.2 c);cases hg:JM (x.2.1,x.2.2.1,x.1)with
 |none=>rfl
 |some y=>
  simp only[JF];by_cases g:y.2=0;rw[if_pos (gM.2 g),if_neg (λc=>fB.1 c g),g,j];rw[if_neg (λc=>g (gM.1 c)),if_pos (fB.2 g)];rcases JLJ hg with e|e;exact absurd e g;rw[e]
theorem Pa(x:Int×_j×Jn):SQ x=xO x:=by
 unfold SQ xO;by_cases e:x.2.2.2=0;rw[if_pos (gM.2 e)];have h: ¬aQ x.2.2.2 0=O:=λc=>fB.1 c e;rw[if_neg h,if_neg h];by_cases hl:Ji I (J0 x.2.1) x.2.2.1<x.1;rw[if_pos (JI.2 hl),if_pos (fN.2 hl),if_pos (show aQ 5 0=O by decide)];rw[if_neg (λc=>hl (JI.1 c)),if_neg (λc=>hl (fN.1 c))];rw[if_neg (λc=>e (gM.1 c)),if_pos (fB.2 e),if_pos (fB.2 e)]
theorem JIz(x:_j×Jn):SS x=xM x:=by unfold SS xM;simp only[Bj,Pa]
theorem JMv(hv: ∀e,lK e=Jo e)(x:_j):bz x=tZ x:=by unfold bz tZ;simp only[Bj,Pa,JIz,hv]
theorem dO{s:_j}{n:Int}{k:Nat}(h1:1<=k)(e:k<=8)(hl:J0 s<=70368744177664): ∃y,fO (s,n,(k:Int))=Z y/\JC (s,n,(k:Int))=Z y/\J0 y=J0 s+k:=
 ⟨_,kv h1 e hl,mf h1 e hl,by unfold J0;simp[J0p,_C]⟩
theorem kr{a b y:_j}(h:cT a b=Z y):J0 y=J0 a+J0 b:=by
 unfold cT at h;split at h;cases h;unfold J0;simp;cases h
theorem XB{s:_j}{c:gP}(hl:J0 s<=35184372088832)(hc:J0 c.2<=1073741824): ∃y,QW (s,c)=Z y/\wW (s,c)=Z y/\J0 y<=J0 s+J0 c.2+1:=by
 unfold QW wW;dsimp only;have q:0<=J0 c.2:=J7;by_cases h:Jj c.1=O;obtain⟨y,e,g,o⟩:=dO (s:=s) (n:=255) (k:=1) _k _k oo;rw[show((1:Nat):Int)=1 from rfl]at e g o;exact⟨y,by rw[if_pos h,e];rfl,by rw[if_pos h,g];rfl,by omega⟩;obtain⟨y,e,g,o⟩:=dO (s:=s) (n:=J0 c.2) (k:=1) _k _k oo;rw[show((1:Nat):Int)=1 from rfl]at e g o;have j:cT y c.2=Z (y++c.2):=by unfold cT;rw[if_pos (by unfold J0 at*;omega)]
 exact⟨y++c.2,by rw[if_neg h,e];simp only[JF,j],by rw[if_neg h,g];simp only[JF,j],by have:=kr j;omega⟩
theorem JMW{x:aA}(hv:lK x=Jo x)(h1:J0 x.2.2.2.2.2.2.1.2.2.1.2<=1073741824)(h2:J0 x.2.2.2.2.2.2.1.2.2.2.2<=1073741824):oS x=oR x:=by
 unfold oS oR;rw[hv];cases Jo x with
 |none=>rfl
 |some v=>
  simp only[JF];by_cases hb:Jj v=O;rw[if_pos hb,if_pos hb];rw[if_neg hb,if_neg hb];obtain⟨V,w,S,l3⟩:=dO (s:=[]) (n:=x.1) (k:=8) _k _k _k;have l0:J0 ([]:_j)=0:=rfl;obtain⟨y4,A,M,l4⟩:=dO (s:=V) (n:=x.2.1) (k:=1) _k _k oo;obtain⟨K,z,L,l5⟩:=dO (s:=y4) (n:=x.2.2.1) (k:=4) _k _k oo;obtain⟨j,D,G,l6⟩:=dO (s:=K) (n:=x.2.2.2.1) (k:=8) _k _k oo;obtain⟨h,F,C,l7⟩:=dO (s:=j) (n:=x.2.2.2.2.1) (k:=8) _k _k oo;obtain⟨g,_d,Q,l8⟩:=dO (s:=h) (n:=x.2.2.2.2.2.1) (k:=8) _k _k oo;obtain⟨y9,P,B,l9⟩:=dO (s:=g) (n:=x.2.2.2.2.2.2.1.1) (k:=4) _k _k oo;obtain⟨yA,E,_e,lA⟩:=dO (s:=y9) (n:=x.2.2.2.2.2.2.1.2.1) (k:=1) _k _k oo;obtain⟨U,T,qB,lB⟩:=XB (s:=yA) (c:=x.2.2.2.2.2.2.1.2.2.1) oo h1;obtain⟨_a,_b,qC,lC⟩:=XB (s:=U) (c:=x.2.2.2.2.2.2.1.2.2.2) oo h2;obtain⟨H,R,_c,lD⟩:=dO (s:=_a) (n:=J0 x.2.2.2.2.2.2.2) (k:=4) _k _k oo;simp only[show((8:Nat):Int)=8 from rfl,show((4:Nat):Int)=4 from rfl,show((1:Nat):Int)=1 from rfl]at w S A M z L D G F C _d Q P B E _e R _c;simp only[w,S,A,M,z,L,G,C,Q,B,_e,qB,qC,_c,JF];have st: ∀(o q:_j) (i:Nat) (n:Int),i<3->idx [x.2.2.2.1,x.2.2.2.2.1,x.2.2.2.2.2.1] (i:Int)=Z n->fO (o,n,8)=Z q->
    J4 FQ (o,[x.2.2.2.1,x.2.2.2.2.1,x.2.2.2.2.2.1],J0 [x.2.2.2.1,x.2.2.2.2.1,x.2.2.2.2.2.1],(i:Int),x)=J4 FQ (q,[x.2.2.2.1,x.2.2.2.2.1,x.2.2.2.2.2.1],J0 [x.2.2.2.1,x.2.2.2.2.1,x.2.2.2.2.2.1],((i+1:Nat):Int),x):=by
   intro o q i n hi e hp;refine eX ?_;unfold FQ;dsimp only;have hl:J0 [x.2.2.2.1,x.2.2.2.2.1,x.2.2.2.2.2.1]=3:=rfl;have o1:=Jb (i:Int) 1;rw[if_pos (JI.2 oo),e];simp only[JF];rw[hp];simp only[JF];rw[show J1 I (i:Int) 1=((i+1:Nat):Int) by omega]
  have s0:=st K j 0 _ _k rfl D;have s1:=st j h 1 _ _k rfl F;have W:=st h g 2 _ _k rfl _d;rw[show((0:Nat):Int)=0 from rfl]at s0;rw[s0,s1,W];have fin:FQ (g,[x.2.2.2.1,x.2.2.2.2.1,x.2.2.2.2.2.1],J0 [x.2.2.2.1,x.2.2.2.2.1,x.2.2.2.2.2.1],((2+1:Nat):Int),x)=Option.map .inr ((cT H x.2.2.2.2.2.2.2).bind λN=>Z (N,0)):=by unfold FQ;dsimp only;have hl:J0 [x.2.2.2.1,x.2.2.2.2.1,x.2.2.2.2.2.1]=3:=rfl;rw[if_neg (λc=>by have:=JI.1 c;omega)];simp only[P,E,T,_b,R,JF]
  cases hc:cT H x.2.2.2.2.2.2.2 with
  |some y=>rw[hc]at fin;exact dY fin
  |none=>
   rw[hc]at fin;cases hw:J4 FQ (g,[x.2.2.2.1,x.2.2.2.2.1,x.2.2.2.2.2.1],J0 [x.2.2.2.1,x.2.2.2.2.1,x.2.2.2.2.2.1],((2+1:Nat):Int),x)with
   |none=>rfl
   |some r=>
    rw[mG]at hw;obtain⟨n,e⟩:=hw;cases n with
    |zero=>cases e
    |succ n=>simp only[dK,fin]at e;cases e
theorem JN8(r:aF):AM r=tT r:=by rw[JJj];unfold tT;have M:J0 ([80,77,82,78]:_j)=4:=rfl;obtain⟨B,w,y,K⟩:=dO (s:=[80,77,82,78]) (n:=r.1) (k:=8) _k _k _k;obtain⟨F,j,A,N⟩:=dO (s:=B) (n:=r.2.1) (k:=8) _k _k oo;obtain⟨C,e,z,H⟩:=dO (s:=F) (n:=r.2.2.1) (k:=4) _k _k oo;obtain⟨E,h,x,_e⟩:=dO (s:=C) (n:=r.2.2.2.1) (k:=4) _k _k oo;obtain⟨D,g,v,G⟩:=dO (s:=E) (n:=r.2.2.2.2.1) (k:=1) _k _k oo;obtain⟨_d,o,q,L⟩:=dO (s:=D) (n:=J0 r.2.2.2.2.2) (k:=4) _k _k oo;simp only[show((8:Nat):Int)=8 from rfl,show((4:Nat):Int)=4 from rfl,show((1:Nat):Int)=1 from rfl]at w y j A e z h x g v o q;simp only[w,y,j,A,e,z,h,x,g,v,o,q,JF]
theorem JKv{x:aF}(hl:J0 (ent x)<=4096)(he: ∀e∈ent x,oS e=oR e)(hv: ∀e∈ent x,∃b,oR e=Z (b,0)/\J0 b<=8392)(hf: ∀(b:_j),J0 b<=8392-> ∃f,nF b=Z f/\J0 f=J0 b+8):
  ∀(l:List aA) (i:Nat) (out:_j),(ent x).drop i=l->i<=(ent x).length->J0 out<=8400*(i+1)->
   sL nG oS 40 l out=J4 BN (out,(i:Int),x):=by
 intro l
 induction l with
 |nil=>
  intro i out hd hi v;have w:i=(ent x).length:=by have:=congrArg _K hd;simp at this;omega
  refine(dY ?_).symm;unfold BN;dsimp only;rw[if_neg (λc=>by have:=JI.1 c;have:(i:Int)<J0 (ent x):=this;unfold J0 at this;omega)]
 |cons e l ih=>
  intro i out hd hi v;have n:i<(ent x).length:=(by rcases zQ3 i (ent x).length with h|h;exact h;rw[List.drop_of_length_le h]at hd;cases hd);have o:(ent x)[i]?=Z e:=by have:=congrArg (λl=>l[0]?) hd;simpa using this
  have q:e∈ent x:=zQ5 o;obtain⟨b,hb,r⟩:=hv e q;obtain⟨f,g,A⟩:=hf b r;have z:=Jb (i:Int) 1;have y:J0 (ent x)=((ent x).length:Int):=rfl;have j:cT out f=Z (out++f):=by unfold cT;rw[if_pos (by unfold J0 at*;omega)]
  have step:BN (out,(i:Int),x)=Z (.inl (out++f,((i+1:Nat):Int),x)):=by
   unfold BN;dsimp only;have k:idx x.2.2.2.2.2 (i:Int)=Z e:=by show idx (ent x) (i:Int)=Z e;unfold idx;rw[if_pos oo,_X];exact o
   rw[if_pos (JI.2 (by show(i:Int)<J0 (ent x);omega)),k];simp only[JF];rw[hb];simp only[JF];rw[g];simp only[JF];rw[j];simp only[JF];rw[show J1 I (i:Int) 1=((i+1:Nat):Int) by omega]
  rw[eX step];unfold sL;rw[he e q,hb];simp only[JF];rw[if_pos trivial,A6,g];simp only[JF];rw[if_pos (by unfold J0 at*;omega)];refine ih (i+1) (out++f) ?_ n (by unfold J0 at*;simp;omega);rw[<-vA,hd];rfl
theorem JGM{x:aA}(hv:Jo x=Z O)(h1:J0 x.2.2.2.2.2.2.1.2.2.1.2<=12)(h2:J0 x.2.2.2.2.2.2.1.2.2.2.2<=12)(h3:J0 x.2.2.2.2.2.2.2<=8192): ∃b,oR x=Z (b,0)/\J0 b<=8392:=by
 unfold oR;rw[hv];simp only[JF];rw[if_neg (show¬Jj O=O by decide)];obtain⟨D,V,z,_e⟩:=dO (s:=[]) (n:=x.1) (k:=8) _k _k _k;have l0:J0 ([]:_j)=0:=rfl;obtain⟨Q,_b,r,K⟩:=dO (s:=D) (n:=x.2.1) (k:=1) _k _k oo;obtain⟨H,W,q,B⟩:=dO (s:=Q) (n:=x.2.2.1) (k:=4) _k _k oo;obtain⟨L,p6,h,U⟩:=dO (s:=H) (n:=x.2.2.2.1) (k:=8) _k _k oo;obtain⟨A,p7,g,M⟩:=dO (s:=L) (n:=x.2.2.2.2.1) (k:=8) _k _k oo;obtain⟨G,p8,y,E⟩:=dO (s:=A) (n:=x.2.2.2.2.2.1) (k:=8) _k _k oo;obtain⟨N,p9,e,P⟩:=dO (s:=G) (n:=x.2.2.2.2.2.2.1.1) (k:=4) _k _k oo;obtain⟨S,pA,o,_c⟩:=dO (s:=N) (n:=x.2.2.2.2.2.2.1.2.1) (k:=1) _k _k oo;obtain⟨C,pB,T,lB⟩:=XB (s:=S) (c:=x.2.2.2.2.2.2.1.2.2.1) oo oo;obtain⟨F,pC,R,_a⟩:=XB (s:=C) (c:=x.2.2.2.2.2.2.1.2.2.2) oo oo;obtain⟨j,pD,v,_d⟩:=dO (s:=F) (n:=J0 x.2.2.2.2.2.2.2) (k:=4) _k _k oo;simp only[show((8:Nat):Int)=8 from rfl,show((4:Nat):Int)=4 from rfl,show((1:Nat):Int)=1 from rfl]at z r q h g y e o v _e K B U M E P _c _d;simp only[z,r,q,h,g,y,e,o,T,R,v,JF];have w:cT j x.2.2.2.2.2.2.2=Z (j++x.2.2.2.2.2.2.2):=by unfold cT;rw[if_pos (by unfold J0 at*;omega)]
 rw[w];exact⟨_,rfl,by have:=kr w;omega⟩
theorem B5{b:_j}(hb:J0 b<=8392): ∃f,nF b=Z f/\J0 f=J0 b+8:=by
 unfold nF;rw[if_neg (λc=>by have:=fN.1 c;omega)];have r:0<=J0 b:=J7;have v:J0 ([]:_j)=0:=rfl;obtain⟨y,p,q,l⟩:=dO (s:=[]) (n:=J0 b) (k:=4) _k _k _k;simp only[show((4:Nat):Int)=4 from rfl]at q l;rw[q];simp only[JF];have e:cT y b=Z (y++b):=by unfold cT;rw[if_pos (by unfold J0 at*;omega)]
 rw[e];simp only[JF];have j:=kr e;rw[k8 _ oo];simp only[JF];obtain⟨z,o,g,h⟩:=dO (s:=y++b) (n:=aX I ((crc (y++b):Nat):Int)) (k:=4) _k _k oo;simp only[show((4:Nat):Int)=4 from rfl]at g h;rw[g];exact⟨z,rfl,by omega⟩
theorem JKe(r:aF): ∃y,tT r=Z y/\J0 y=33:=by unfold tT;have _c:J0 ([80,77,82,78]:_j)=4:=rfl;obtain⟨v,N,j,E⟩:=dO (s:=[80,77,82,78]) (n:=r.1) (k:=8) _k _k _k;obtain⟨G,L,q,H⟩:=dO (s:=v) (n:=r.2.1) (k:=8) _k _k oo;obtain⟨x,_e,o,A⟩:=dO (s:=G) (n:=r.2.2.1) (k:=4) _k _k oo;obtain⟨D,K,h,B⟩:=dO (s:=x) (n:=r.2.2.2.1) (k:=4) _k _k oo;obtain⟨z,_d,g,w⟩:=dO (s:=D) (n:=r.2.2.2.2.1) (k:=1) _k _k oo;obtain⟨C,M,e,F⟩:=dO (s:=z) (n:=J0 r.2.2.2.2.2) (k:=4) _k _k oo;simp only[show((8:Nat):Int)=8 from rfl,show((4:Nat):Int)=4 from rfl,show((1:Nat):Int)=1 from rfl]at j q o h g e E H A B w F;simp only[j,q,o,h,g,e,JF];exact⟨C,rfl,by omega⟩
theorem JMx{x:aF}(h:fU x):FI x=kG x:=by
 obtain⟨v,D,A,hR⟩:=vv h;have e:FI x=NT lI AM nG oS (λx=>x.2.2.2.2.2) x:=rfl;rw[e];unfold NT kG;rw[D,A];simp only[JF];cases v with
 |false=>rw[if_neg (show¬J=O by decide),if_pos (show Jj J=O by decide)]
 |true=>
  rw[if_pos rfl,if_neg (show¬Jj O=O by decide),JN8];have R:=hR rfl;obtain⟨y,C,z⟩:=JKe x;obtain⟨f,hf,w⟩:=B5 (b:=y) oo;rw[C];simp only[JF];rw[A6,hf];simp only[JF];rw[if_pos (by unfold J0 at w z;omega)];have fe: ∀e∈ent x,Ty.fit 16384 9223372036854775807 J3 e:=h.2.2.2.2.2.2;have o: ∀e∈ent x,Jo e=Z O/\J0 e.2.2.2.2.2.2.1.2.2.1.2<=12/\J0 e.2.2.2.2.2.2.1.2.2.2.2<=12/\e.2.2.2.2.2.2.2=[]:=λe g=>by obtain⟨j,E⟩:=fA.1 g;obtain⟨k,n,_⟩:=R.2.2.1 j e E;obtain⟨_,_,_,_,_,_,_,_,_,_,b1,b2,_⟩:=EF.of k n;have c:=(ZD (B:=16384) (S:=9223372036854775807) (X:=e.2.2.2.2.2.2.1) (fe e g).2.2.2.2.2.2.1).get b2;exact⟨k,(c.2 rfl).2.2.2.2.1,(c.2 rfl).2.2.2.2.2,b1⟩
  refine JKv R.2.1 (λe g=>?_) (λe g=>?_) (λb hb=>B5 hb) (ent x) 0 f rfl (zQ2 _) oo;obtain⟨k,n,q,r⟩:=o e g;exact JMW (UV e) oo oo;obtain⟨k,n,q,r⟩:=o e g;exact JGM k n q (by rw[r];decide)
theorem JQE(x:Int×_j×Int):xN x=(JG (x.2.1,x.2.2,x.1)).map λv=>(v,x.2.1,J1 I x.2.2 x.1):=by
 obtain⟨n,s,a⟩:=x;unfold xN JG;dsimp only;rw[VH];cases JM (s,a,n)with
 |none=>rfl
 |some y=>rfl
theorem JO5{s:_j}(h:J0 s=33):LR s=(bA s Y (Z 4)).bind λk=>if neS k [80,77,82,78]=O then Z (0,0,0,0,0,0,J,[])else
  (JG (s,4,8)).bind λa=>(JG (s,12,8)).bind λb=>(JG (s,20,4)).bind λc=>(JG (s,24,4)).bind λd=>(JG (s,28,1)).bind λe=>(JG (s,29,4)).bind λn=>
   Z (a,b,c,d,e,n,bD n 4096,[]):=by
 unfold LR yq yz;dsimp only;have j:J0 ([80,77,82,78]:_j)=4:=rfl;rw[h,if_pos (show aQ 33 33=J by decide),j,if_pos (show aT 33 4=O by decide)];cases bA s Y (Z 4)with
 |none=>rfl
 |some y=>
  simp only[JF];by_cases g:y=[80,77,82,78];subst g;rw[if_neg (show¬Jj (eqS [80,77,82,78] [80,77,82,78])=O by decide),if_neg (show¬neS [80,77,82,78] [80,77,82,78]=O by decide)];simp only[JQE,show J1 I 4 8=12 by decide,show J1 I 12 8=20 by decide,show J1 I 20 4=24 by decide,show J1 I 24 4=28 by decide,show J1 I 28 1=29 by decide];cases JG (s,4,8)with
  |none=>rfl
  |some a=>
   simp only[dB,JF,show J1 I 4 8=12 by decide];cases JG (s,12,8)with
   |none=>rfl
   |some b=>
    simp only[dB,JF,show J1 I 12 8=20 by decide];cases JG (s,20,4)with
    |none=>rfl
    |some c=>
     simp only[dB,JF,show J1 I 20 4=24 by decide];cases JG (s,24,4)with
     |none=>rfl
     |some d=>
      simp only[dB,JF,show J1 I 24 4=28 by decide];cases JG (s,28,1)with
      |none=>rfl
      |some e=>
       simp only[dB,JF,show J1 I 28 1=29 by decide];cases JG (s,29,4)with
       |none=>rfl
       |some n=>rfl
  have o:neS y [80,77,82,78]=O:=by simp[neS,g]
  have q:Jj (eqS y [80,77,82,78])=O:=by simp[eqS,g,Jj]
  rw[if_pos o,if_pos q]
theorem JLT{s:_j}(h: ¬J0 s=33):LR s=Z (0,0,0,0,0,0,J,[]):=by unfold LR;rw[if_neg (by rw[<-Bool.not_eq_true,fB];exact λt=>t h)]
theorem JMj{x:_j×Jn}{y:Jn}(h:JM x=Z y): -9223372036854775808<=y.1/\y.1<=9223372036854775807:=by apply _s.go h;unfold JM;refine .j (λ_=>.k (λ_=>.l (λ_=>.s _k) λ_=>.k (λ_=>.l (λ_=>.s _k) λ_=>?_) λ_=>.s _k) λ_=>.s _k) λ_=>.s _k;refine .z (λ_=>True) trivial ?_;intro z _;unfold BI;exact .l (λ_=>.b λ_ _=>.b λ_ _=>.s _g) λ_=>.s (qH I _)
theorem QM{x:_j×Jn}{n:Int}(h:JG x=Z n): -9223372036854775808<=n/\n<=9223372036854775807:=by unfold JG at h;obtain⟨y,g,e⟩:=bV.1 h;cases e;exact JMj g
theorem JM8{x:_j}(hl:J0 x<=1073741824):ZW x=sK x:=by
 unfold ZW sK;rw[C5 hl];cases hu:jO (x,0)with
 |none=>rfl
 |some g=>
  dsimp only[_Q];by_cases c:aQ g.2.2 0=O;rw[if_pos c,if_pos c];rw[if_neg c,if_neg c];have T:g.2.2=0:=Decidable.of_not_not λt=>c (fB.2 t);by_cases h:J0 g.1=33;rw[JO5 h,if_pos (by rw[<-Bool.not_eq_true,fB];exact λt=>t h)];cases bA g.1 Y (Z 4)with
  |none=>rfl
  |some P=>
   dsimp only[_Q];by_cases D:neS P [80,77,82,78]=O;rw[if_pos D,if_pos D];rfl;rw[if_neg D,if_neg D];cases ha:JG (g.1,4,8)with
   |none=>rfl
   |some a=>
    cases hb:JG (g.1,12,8)with
    |none=>rfl
    |some b=>
     cases hc:JG (g.1,20,4)with
     |none=>rfl
     |some c=>
      cases hd:JG (g.1,24,4)with
      |none=>rfl
      |some d=>
       cases he:JG (g.1,28,1)with
       |none=>rfl
       |some e=>
        cases hf:JG (g.1,29,4)with
        |none=>rfl
        |some n=>
         dsimp only[_Q];by_cases K:4096<n;rw[if_pos (fN.2 K),if_pos (show Jj (bD n 4096)=O by rw[show bD n 4096=J by rw[<-Bool.not_eq_true,dV];omega];rfl)];rw[if_neg (λt=>K (fN.1 t)),if_neg (show¬Jj (bD n 4096)=O by rw[dV.2 oo];decide)];have F:=((LS (B:=0) (S:=1073741824) (X:=(x,0)) ⟨hl,kS I 0⟩).get hu).2 T;refine QO (λz w=>z=w/\z.1=x/\(0<=z.2.1/\z.2.1<=J0 x)/\z.2.2.1=n/\0<=z.2.2.2.1/\z.2.2.2.2.2.2.2.2.2.2.2=([],a,b,c,d,e)/\J0 z.2.2.2.2.2.2.2.2.2.2.1<=z.2.2.2.1/\(z.2.2.2.1<=n\/z.2.2.2.1<=0)/\ ∀q∈z.2.2.2.2.2.2.2.2.2.2.1,Ty.fit 16384 9223372036854775807 J3 q) ?_ ⟨rfl,rfl,⟨F.1,F.2.1⟩,rfl,bC _,rfl,bC _,.inr (bC _),nofun⟩;rintro⟨s,p,m,i,w1,w2,w3,_b,w5,_a,l,w7⟩ w ⟨rfl,L,V,M,Q,_e,_c,N,H⟩;dsimp only at L V M Q _e _c N H;subst L M _e;unfold Hm ig;dsimp only;by_cases j:aN i m=O;rw[if_pos j,if_pos j,C5 hl];have j:=JI.1 j;cases hU:jO (s,p)with
         |none=>exact .inl ⟨rfl,rfl⟩
         |some u=>
          dsimp only[_Q];by_cases y:aQ u.2.2 0=O;rw[if_pos y,if_pos y];exact .inr (.inl ⟨_,rfl,rfl⟩);rw[if_neg y,if_neg y,JMv UV];have E:u.2.2=0:=Decidable.of_not_not λt=>y (fB.2 t);cases hD:tZ u.1 with
          |none=>exact .inl ⟨rfl,rfl⟩
          |some v=>
           dsimp only[_Q];by_cases k:aQ v.2 0=O;rw[if_pos k];exact .inr (.inl ⟨_,rfl,rfl⟩);rw[if_neg k];cases hA:Ju 128 l [v.1]with
           |none=>exact .inl ⟨rfl,rfl⟩
           |some l'=>
            have ea:l'=l++[v.1]:=(by unfold Ju at hA;split at hA;injection hA with hA;exact hA.symm;cases hA);have G:=(LS (B:=0) (S:=1073741824) (X:=(s,p)) ⟨hl,J2.2 (show -9223372036854775808<=p/\p<=9223372036854775807 by omega)⟩).get hU;have R:=(sn (B:=0) (S:=1073741824) (X:=u.1) G.1.1).get hD;have o:=Jb i 1;refine .inr (.inr ⟨_,_,rfl,rfl,rfl,rfl,⟨(G.2 E).1,(G.2 E).2.1⟩,rfl,?_,rfl,?_,?_,?_⟩);dsimp only;omega;subst ea;dsimp only;rw[cU,cI];omega;dsimp only;omega;subst ea;intro q A;rcases zQ9.1 A with A|A;exact H q A;rw[dC.1 A];exact Ty.fit.up _k _k R.1
         rw[if_neg j,if_neg j];by_cases C:aN p (J0 s)=O;have _d:=JI.1 C;rw[if_pos C,if_pos (fB.2 oo)];exact .inr (.inl ⟨_,rfl,rfl⟩);have _d: ¬p<J0 s:=λt=>C (JI.2 t);rw[if_neg C,if_neg (λt=>fB.1 t oo)];obtain⟨v,U,W,_⟩:=vv (r:=(a,b,c,d,e,l)) ⟨J2.2 (QM ha),J2.2 (QM hb),J2.2 (QM hc),J2.2 (QM hd),J2.2 (QM he),by show J0 l<=16384;omega,H⟩;rw[U,W];dsimp only[_Q];by_cases k:Jj v=O;rw[if_pos k];exact .inr (.inl ⟨_,rfl,rfl⟩);rw[if_neg k];exact .inr (.inl ⟨_,rfl,rfl⟩)
  rw[JLT h,if_neg (by rw[<-Bool.not_eq_true,fB];exact λt=>t h)];rfl
theorem JMA(l:Jx):gx l=JU l:=by
 have g:J4 ub (l.2.1,J0 l.2.1,0,l)=J4 BM (0,l):=by
  refine QO (λs t=>s=(l.2.1,J0 l.2.1,t.1,l)/\t.2=l) ?_ ⟨rfl,rfl⟩;rintro s ⟨i,l'⟩ ⟨rfl,rfl⟩;unfold ub BM;dsimp only;by_cases h1:aN i (J0 l'.2.1)=O;rw[if_pos h1,if_pos h1];cases h2:idx l'.2.1 i with
  |none=>exact .inl ⟨rfl,rfl⟩
  |some y=>
   simp only[JF,UV];by_cases e:aQ y.1 (J1 I l'.1 i)=J;rw[if_pos e,if_pos e];cases h4:Jo y with
   |none=>exact .inl ⟨rfl,rfl⟩
   |some b=>
    cases b with
    |false=>exact .inr (.inl ⟨_,rfl,rfl⟩)
    |true=>exact .inr (.inr ⟨_,_,rfl,rfl,rfl,rfl⟩)
   rw[if_neg e,if_neg e];exact .inr (.inl ⟨_,rfl,rfl⟩)
  rw[if_neg h1,if_neg h1];exact .inr (.inl ⟨_,rfl,rfl⟩)
 unfold gx JU;rw[show gT l=gT l from rfl,g]
section
theorem zC:J0 (ent ((0,0,0,0,0,[]):aF))<=4096:=by decide
theorem WN{x:_j}(hl:J0 x<=1073741824):_n (sK x) λy=>J0 (ent y.1)<=4096/\(y.2=0->dD y.1/\fU y.1):=by
 unfold sK;refine .b ((LS (B:=0) (S:=1073741824) (X:=(x,0)) ⟨hl,kS I 0⟩)) λj h2=>.d (λc=>.s ⟨zC,λk=>absurd k c⟩) λ_e=>.q (λT=>?_) λ_=>.s ⟨zC,λk=>absurd k _k⟩;obtain⟨U,N,_⟩:=yC (l:=j.1) (k:=4) _k oo;have num: ∀a k:Int, -9223372036854775808<=a/\a<=9223372036854775807-> -9223372036854775808<=k/\k<=9223372036854775807->_n (JG (j.1,a,k)) λn=> -9223372036854775808<=n/\n<=9223372036854775807:=λa k C hk=>
  (Zf (B:=0) (S:=1073741824) (X:=(j.1,a,k)) ⟨h2.1.1,J2.2 C,J2.2 hk⟩).mono λn h=>J2.1 h
 refine .w N (.i (λ_=>.s ⟨zC,λk=>absurd k _k⟩) λ_=>.b (num 4 8 _k _k) λa C=>.b (num 12 8 _k _k) λb hb=>.b (num 20 4 _k _k) λc hc=>.b (num 24 4 _k _k) λd hd=>.b (num 28 1 _k _k) λe _c=>.b (num 29 4 _k _k) λn _a=>.g (λ_=>.s ⟨zC,λk=>absurd k _k⟩) λW=>?_);have w:=h2.2 _e;refine Jl (τ:=Int×Int×List aA) (λq=>(x,q.1,n,q.2.1,[],0,0,0,0,0,q.2.2,[],a,b,c,d,e)) (λq=>(0<=q.1/\q.1<=J0 x)/\0<=q.2.1/\(q.2.1<=n\/q.2.1<=0)/\J0 q.2.2<=q.2.1/\ ∀z∈q.2.2,Ty.fit 16384 9223372036854775807 J3 z) (λq=>n-q.2.1) ?_ (j.2.1,0,[]) rfl ⟨⟨w.1,w.2.1⟩,bC _,.inr (bC _),bC _,nofun⟩;rintro⟨p,i,l⟩ ⟨K,R,L,H,A⟩;dsimp only at K R L H A;unfold ig;dsimp only;have o:=Jb i 1;refine .l (λV=>?_) λ_=>.map (P:=λy=>J0 (ent y.1)<=4096/\(y.2=0->dD y.1/\fU y.1)) ?_ λ_ h=>h;refine .b ((LS (B:=0) (S:=1073741824) (X:=(x,p)) ⟨hl,J2.2 (show -9223372036854775808<=p/\p<=9223372036854775807 by omega)⟩)) λu F=>.d (λc=>.s ⟨zC,λk=>absurd k c⟩) λG=>.b (sn (B:=0) (S:=1073741824) (X:=u.1) F.1.1) λv Q=>.d (λc=>.s ⟨zC,λk=>absurd k c⟩) λD=>.w (gK (bytes:=128) (l:=l) (m:=[v.1]) (by rw[cI];omega) _k) (.s ?_);have r:=F.2 G;refine⟨(u.2.1,J1 I i 1,l++[v.1]),rfl,⟨⟨r.1,r.2.1⟩,?_,?_,?_,λz g=>?_⟩,?_,?_⟩;dsimp only;omega;dsimp only;omega;dsimp only;rw[cU,cI];omega;rcases zQ9.1 g with g|g;exact A z g;rw[dC.1 g];exact Ty.fit.up _k _k Q.1;dsimp only;omega;omega;refine .d (λ_=>.s ⟨zC,λk=>absurd k _k⟩) λ_=>?_;have E:fU (a,b,c,d,e,l):=⟨J2.2 C,J2.2 hb,J2.2 hc,J2.2 hd,J2.2 _c,by show J0 l<=16384;omega,A⟩;obtain⟨v,_b,M,_d⟩:=vv E;refine .w M (.n (λ_=>.s ⟨zC,λk=>absurd k _k⟩) λD=>.s ⟨?_,λ_=>⟨_d D,E⟩⟩);show J0 l<=4096;omega
end
section
theorem Q9(x:kO):FU x=eH x:=by
 unfold FU eH;split;cases idx x.1.1 x.2<;>cases idx x.1.1 (J1 I x.2 1)<;>rfl
 rfl
theorem JNd(x:xm):ii x=jN x:=by
 unfold ii jN;refine QO (λs t=>s=(J0 x.1.1,t.1,x.1,x.2)/\t.2=(x.1,x.2)) ?_ ⟨rfl,rfl⟩;rintro s ⟨i,a,r⟩ ⟨rfl,h⟩;injection h with h1 h2;subst h1 h2;unfold I4 FV;dsimp only;by_cases c:aN i (J0 x.1.1)=O;rw[if_pos c,if_pos c,Q9];cases eH (x.1,i)with
 |none=>exact .inl ⟨rfl,rfl⟩
 |some y=>
  dsimp only[_Q];by_cases d:aO y.1 x.2.2.2.1=O;rw[if_pos d,if_pos d];by_cases e:aO y.2 x.2.2.2.2.1=O;rw[if_pos e,if_pos e];exact .inr (.inl ⟨_,rfl,rfl⟩);rw[if_neg e,if_neg e];exact .inr (.inr ⟨_,_,rfl,rfl,rfl,rfl⟩);rw[if_neg d,if_neg d];exact .inr (.inr ⟨_,_,rfl,rfl,rfl,rfl⟩)
 rw[if_neg c,if_neg c];exact .inr (.inl ⟨_,rfl,rfl⟩)
theorem NI{a:aB}(h:J0 a.1<=16)(r:aF):_n (jN (a,r)) λy=>(y= -1\/(0<=y/\y<J0 a.1))/\(0<=y->idx a.1 y=Z r.2.2.1):=by
 unfold jN;refine gQ (l:=a.1) (λi (_:Unit)=>(i,a,r)) (λ_ _=>True) (λpre x t _ hl _=>?_) (λ_ _=>?_) a.1 [] () _ rfl rfl trivial;unfold FV;dsimp only;have lt:=eJ hl;have g:=J7 (l:=pre);have o:=iB hl (n:=16) h;rw[if_pos (JI.2 lt)];have j:_n (eH (a,J0 pre)) λy=>y.1=x:=by unfold eH;dsimp only;have q:=Jb (J0 pre) 1;refine .l (λc=>?_) λc=>.w (gO hl) (.s rfl);obtain⟨w,e,_⟩:=gH (l:=a.1) (i:=J1 I (J0 pre) 1) oo c;exact .w e (.w (gO hl) (.s rfl))
 refine .b j λy k=>.e (λc=>.e (λ_=>.s ⟨.inr ⟨g,lt⟩,λ_=>?_⟩) λ_=>.s ⟨(),by rw[o],_g⟩) λ_=>.s ⟨(),by rw[o],_g⟩;rw[gO hl,<-k,c];unfold FV;dsimp only;rw[if_neg (by rw[JI];omega)];exact .s ⟨.inl rfl,λh=>absurd h _k⟩
def Itc(a:aB)(f:aM)(r:aF)(p:Int):Prop:=f.1=1/\sK f.2.2=Z (r,0)/\jN (a,r)=Z p/\0<=p
theorem Itc.uniq{a:aB}{f:aM}{r r':aF}{p j:Int}(h:Itc a f r p)(g:Itc a f r' j):r=r'/\p=j:=by have e:=h.2.1.symm.trans g.2.1;injection e with e;injection e with e _;subst e;have k:=h.2.2.1.symm.trans g.2.2.1;injection k with k;exact⟨rfl,k⟩
variable {a:aB} (hb:J0 a.1<=16) {f:aM} (hs:J0 f.2.2<=1073741824)
include hb hs
theorem JRD:_n (de (a,f)) λy=>(y.2<J0 a.1/\Itc a f y.1 y.2)\/(y.2= -1/\ ∀r p,¬Itc a f r p):=by
 unfold de;dsimp only;refine .d (λc=>.s (.inr ⟨rfl,λr p h=>c h.1⟩)) λc=>.b (WN hs)._B λy h=>.d (λd=>.s (.inr ⟨rfl,λr p k=>d (by have:=h.2.symm.trans k.2.1;injection this with this;rw[this])⟩)) λd=>.b (NI hb y.1)._B λq j=>.s ?_;obtain⟨r,z⟩:=y;dsimp only at d;subst d;dsimp only at j⊢;rcases j.1.1 with k|k;subst k;exact .inr ⟨rfl,λr' n k=>by have e:=h.2.symm.trans k.2.1;injection e with e;injection e with e _;subst e;have g:=j.2.symm.trans k.2.2.1;injection g with g;have:=k.2.2.2;omega⟩;exact .inl ⟨k.2,c,h.2,j.2,k.1⟩
theorem JRr:_n (ij (a,f)) λy=>(y.2=O/\ ∃p,p<J0 a.1/\Itc a f y.1 p)\/(y.2=J/\ ∀r p,¬Itc a f r p):=by
 unfold ij;dsimp only;refine .d (λc=>.s (.inr ⟨rfl,λr p h=>c h.1⟩)) λc=>?_;rw[JM8 hs];refine .b (WN hs)._B λy h=>.e (λd=>?_) λd=>.s (.inr ⟨rfl,λr p k=>d (by have:=h.2.symm.trans k.2.1;injection this with this;rw[this])⟩);rw[JNd];refine .b (NI hb y.1)._B λq j=>.s ?_;obtain⟨r,z⟩:=y;dsimp only at d;subst d;dsimp only at j⊢;rcases j.1.1 with k|k;subst k;exact .inr ⟨rfl,λr' n k=>by have e:=h.2.symm.trans k.2.1;injection e with e;injection e with e _;subst e;have g:=j.2.symm.trans k.2.2.1;injection g with g;have:=k.2.2.2;omega⟩;exact .inl ⟨kD.2 k.1,q,k.2,c,h.2,j.2,k.1⟩
omit hb hs
noncomputable def its(a:aB)(f:aM):Option aC:= @dite _ (∃r p,Itc a f r p) (Classical.propDecidable _) (λh=>Z (h.choose,f.2.1)) λ_=>Y
theorem zS{r:aF}{p:Int}(h:Itc a f r p):its a f=Z (r,f.2.1):=by have k: ∃r p,Itc a f r p:=⟨r,p,h⟩;unfold its;rw[dif_pos k];obtain⟨q,e⟩:=k.choose_spec;rw[(e.uniq h).1]
theorem XA(h: ∀r p,¬Itc a f r p):its a f=Y:=by unfold its;rw[dif_neg];exact fun⟨r,p,k⟩=>h r p k
theorem PH{x:aC}(h:its a f=Z x):x.2=f.2.1/\ ∃p,Itc a f x.1 p:=by
 unfold its at h;split at h;rename_i k;cases h;exact⟨rfl,k.choose_spec⟩;cases h
noncomputable def cW(a:aB):List aC:=a.2.2.1.filterMap (its a)
theorem Itc.ok{r:aF}{p:Int}(h:Itc a f r p)(hs:J0 f.2.2<=1073741824):dD r/\fU r:=by exact((WN hs).get h.2.1).2 rfl
end
section
noncomputable def leN(x y:aC):Bool:= @decide (¬ltN y x) (Classical.propDecidable _)
theorem JP2(p q r:Int):tX [p,q,r]=Z (if p=0 then(if q=0 then r else q)else p):=by
 unfold tX;have j:BD (0,[p,q,r],J0 [p,q,r],0)=if aQ p 0=O then Z (.inr p)else Z (.inl (0,[p,q,r],J0 [p,q,r],1)):=rfl
 have h:BD (0,[p,q,r],J0 [p,q,r],1)=if aQ q 0=O then Z (.inr q)else Z (.inl (0,[p,q,r],J0 [p,q,r],2)):=rfl
 have n:BD (0,[p,q,r],J0 [p,q,r],2)=if aQ r 0=O then Z (.inr r)else Z (.inl (0,[p,q,r],J0 [p,q,r],3)):=rfl
 have o:BD (0,[p,q,r],J0 [p,q,r],3)=Z (.inr 0):=rfl;by_cases hp:p=0;rw[if_pos hp,eX (j.trans (if_neg (by rw[fB];exact λk=>k hp)))];by_cases e:q=0;rw[if_pos e,eX (h.trans (if_neg (by rw[fB];exact λk=>k e)))];by_cases g:r=0;rw[eX (n.trans (if_neg (by rw[fB];exact λk=>k g))),dY o,g];exact dY (n.trans (if_pos (fB.2 g)));rw[if_neg e];exact dY (h.trans (if_pos (fB.2 e)));rw[if_neg hp];exact dY (j.trans (if_pos (fB.2 hp)))
theorem Cr{x y:Int}:gV x y=0↔x=y:=by
 unfold gV;repeat' split
 all_goals first|omega|(constructor<;>intro h<;>omega)
theorem nu{x y:Int}:gV x y<0↔x<y:=by
 unfold gV;repeat' split
 all_goals first|omega|(constructor<;>intro h<;>omega)
theorem JRm:HQ FW leN:=by
 intro x y;refine⟨if gV x.1.2.2.1 y.1.2.2.1=0 then(if gV x.1.1 y.1.1=0 then gV x.2 y.2 else gV x.1.1 y.1.1)else gV x.1.2.2.1 y.1.2.2.1,?_,?_⟩;unfold FW;dsimp only;rw[NS,NS,NS];simp only[JF];rw[JP2];rfl;have e:(!leN y x)= @decide (ltN x y) (Classical.propDecidable _):=(by unfold leN;by_cases c:ltN x y<;>simp[c]);rw[e,Bool.eq_iff_iff,JI];simp only[decide_eq_true_eq];unfold ltN;have h:=Cr (x:=x.1.2.2.1) (y:=y.1.2.2.1);have j:=nu (x:=x.1.2.2.1) (y:=y.1.2.2.1);have b1:=Cr (x:=x.1.1) (y:=y.1.1);have b2:=nu (x:=x.1.1) (y:=y.1.1);have g:=nu (x:=x.2) (y:=y.2);by_cases h1:gV x.1.2.2.1 y.1.2.2.1=0;rw[if_pos h1];by_cases h2:gV x.1.1 y.1.1=0;rw[if_pos h2];omega;rw[if_neg h2];omega;rw[if_neg h1];omega
theorem DV{x y:aC}:leN x y=O↔ ¬ltN y x:=by unfold leN;simp
noncomputable def CR(a:aB):List aC:=ST leN (cW a)
noncomputable def WR(a:aB):List TX:=clp (-1) 0 (CR a)
def QL(a:aB):Prop:= ∀f∈a.2.2.1,J0 f.2.2<=1073741824
variable {a:aB} (h:gZ a) (hf:QL a)
include h hf
theorem oB{x:aC}(hx:x∈cW a): ∃f∈a.2.2.1,x.2=f.2.1/\(∃p,p<J0 a.1/\Itc a f x.1 p/\idx a.1 p=Z x.1.2.2.1)/\dD x.1/\fU x.1:=by
 obtain⟨f,h1,h2⟩:=List.mem_filterMap.1 hx;obtain⟨e,p,hp⟩:=PH h2;have k:=(NI h.len.2 x.1).get hp.2.2.1;rcases k.1 with q|q;have:=hp.2.2.2;omega;exact⟨f,h1,e,⟨p,q.2,hp,k.2 hp.2.2.2⟩,hp.ok (hf f h1)⟩
theorem Qa:(cW a).Pairwise λx y=>x.2<y.2:=by unfold cW;rw[List.pairwise_filterMap];refine h._p.imp fun{f g} k x j y e=>?_;rw[(PH j).1,(PH e).1];exact k
theorem kw:(cW a).length<=256:=by have:=h.few;unfold J0 at this;have:=List.length_filterMap_le (its a) a.2.2.1;unfold cW;omega
theorem vT{x:aC}:x∈CR a↔x∈cW a:=(zP (le:=leN) (cW a)).mem_iff
theorem Mo:(CR a).Pairwise ltN:=by
 have s:=CT (le:=leN) (λx y z h1 h2=>by rw[DV]at*;unfold ltN at*;omega) (λx y=>by rw[DV,DV];unfold ltN;omega) (cW a);have n:(CR a).Pairwise λx y=>x.2≠y.2:=by refine((zP (le:=leN) (cW a)).pairwise_iff fun{x y} k e=>k e.symm).2 ?_;exact(Qa h hf).imp λk e=>by omega
 refine(List.pairwise_and_iff.2 ⟨s,n⟩).imp fun{x y} k=>?_;rcases ltN.tri x y with q|q|q;exact q;exact absurd q (DV.1 k.1);exact absurd q k.2
theorem OA{x:aC}(hx:x∈CR a):dD x.1/\fU x.1:=by obtain⟨f,_,_,_,k⟩:=oB h hf ((vT h hf).1 hx);exact k
theorem VM:(CR a).length<=256:=by unfold CR;rw[iA];exact kw h hf
end
section
theorem Kt{α:Type}{l U V:List α}{k:Int}(h:l=U++V)(hk:k=J0 U):bA l Y (Z k)=Z U:=by subst h hk;obtain⟨r,e,d,_⟩:=yC (l:=U++V) (k:=J0 U) J7 (by rw[cU];have:=J7 (l:=V);omega);rw[e,d];simp[J0]
theorem Lm{α:Type}{l U V:List α}{k:Int}(h:l=U++V)(hk:k=J0 U):bA l (Z k) Y=Z V:=by subst h hk;obtain⟨r,e,d,_⟩:=DH (l:=U++V) (k:=J0 U) J7 (by rw[cU];have:=J7 (l:=V);omega);rw[e,d];simp[J0]
theorem DD{α:Type}{bytes:Nat}{l:List α}(h:J0 l<=34359738368)(hb:bytes<=2048):bU bytes l=Z l:=by unfold bU;rw[if_pos (WM (by unfold J0 at h;omega) hb)]
theorem eR{α β:Type}(f:α->β)(l:List α):J0 (l.map f)=J0 l:=by unfold J0;rw[eN]
theorem JEr{r:aF}{to:Int}(hl:J0 (ent r)<=4096)(h0:0<=to)(h1:to<=1099511627776):gw (r,to)=Z (abv r to):=by
 apply _n.go;unfold gw abv;dsimp only;refine .g (λc=>.s (by rw[if_pos c])) λc=>?_;rw[if_neg c];have o:=Jb to 1;rw[show J1 I to 1=to+1 by omega];refine gQ (l:=ent r) (λi (b:List aA)=>(to,i,r,[],0,0,0,0,0,b,[],to+1,r.2.1,r.2.2.1,r.2.2.2.1,r.2.2.2.2.1)) (λpre b=>b=pre.filter λe=>decide (to<e.1)) (λpre x t b g hp=>?_) (λb hp=>?_) (ent r) [] [] _ rfl rfl rfl;unfold tw;dsimp only;have g':r.2.2.2.2.2=pre++x::t:=g;rw[if_pos (JI.2 (eJ g')),iB g (n:=4096) hl];refine .w (gO g') (.g (λd=>.w (gO g') (.w (gK (l:=b) (m:=[x]) (by have:=a! (λe:aA=>decide (to<e.1)) pre;have:=eJ g;rw[hp,cI];unfold J0 at*;omega) _k) (.s ⟨_,rfl,?_⟩))) λd=>.s ⟨b,rfl,?_⟩);rw[hp,i!,List.filter_cons_of_pos (by simpa using d)];rfl;rw[hp,i!,List.filter_cons_of_neg (by simpa using d)];simp;unfold tw;dsimp only;rw[if_neg (by rw[JI];unfold ent;omega)];rw[hp];exact .s rfl
section
variable {i k:Int} {a:aB} {A:List TX} {r:aF} {f:aM} (hk:idx a.2.2.1 k=Z f)
include hk
theorem P5{U V:List aC}{β:Type}{Q:β->Prop}{c:List aF->_E->Option β}(hl:(U++V).length<=256)(h:_n (c ((U++(r,f.2.1)::V).map (·.1)) ((U++(r,f.2.1)::V).map (·.2))) Q):
  _n ((bA ((U++V).map (·.1)) Y (Z (J0 U))).bind λD=>(bU 64 D).bind λe=>(Ju 64 e [r]).bind λy=>(bA ((U++V).map (·.1)) (Z (J0 U)) Y).bind λx=>(Ju 64 y x).bind λg=>
   (bA ((U++V).map (·.2)) Y (Z (J0 U))).bind λv=>(bU 8 v).bind λj=>(idx a.2.2.1 k).bind λw=>(Ju 8 j [w.2.1]).bind λn=>(bA ((U++V).map (·.2)) (Z (J0 U)) Y).bind λo=>(Ju 8 n o).bind λq=>c g q) Q:=by
 have A:J0 U<=256:=by unfold J0;simp at hl;omega
 have C:J0 V<=256:=by unfold J0;simp at hl;omega
 have B:(U++V).map (·.1)=U.map (·.1)++V.map (·.1):=sR;have z:(U++V).map (·.2)=U.map (·.2)++V.map (·.2):=sR;have F:J0 (U.map (·.1))<=256:=by rw[eR];exact A
 have H:J0 (V.map (·.1))<=256:=by rw[eR];exact C
 have G:J0 (U.map (·.2))<=256:=by rw[eR];exact A
 have E:J0 (V.map (·.2))<=256:=by rw[eR];exact C
 refine .w (Kt B (by rw[eR])) (.w (DD oo _k) (.w (gK (by rw[cI];omega) _k) (.w (Lm B (by rw[eR])) (.w (gK (by rw[cU,cI];omega) _k) ?_))));refine .w (Kt z (by rw[eR])) (.w (DD oo _k) (.w hk (.w (gK (by rw[cI];omega) _k) (.w (Lm z (by rw[eR])) (.w (gK (by rw[cU,cI];omega) _k) ?_)))));simpa using h
theorem Bf: ∀(n:Nat) (U V:List aC),U.length=n->(U++V).length<=256->(∀v∈V,r.1<v.1.1)->
  _n (J4 g8 (i,(U++V).map (·.1),(U++V).map (·.2),k,J0 U,a,A.map (·.1),A.map (·.2.1),A.map (·.2.2),r)) λy=> ∃g j,U++V=g++j/\(∀v∈j,r.1<v.1.1)/\(∀u z,g=u++[z]->z.1.1<=r.1)/\
   y=.inl (i,(g++(r,f.2.1)::j).map (·.1),(g++(r,f.2.1)::j).map (·.2),J1 I k 1,a,A.map (·.1),A.map (·.2.1),A.map (·.2.2))
 |0,U,V,hn,hl,hv=>by have:U=[]:=_Y.1 hn;subst this;refine .step ?_;unfold g8;dsimp only;rw[if_neg (by rw[fN,qI];omega)];refine .stq ?_;exact P5 hk hl (.s ⟨[],V,rfl,hv,λu z e=>by simp at e,rfl⟩)
 |n+1,U,V,hn,hl,hv=>by
  obtain⟨u,z,rfl⟩: ∃p z,U=p++[z]:=⟨U.dropLast,U.getLast (by intro e;subst e;simp at hn),(_S _).symm⟩;have w:=J7 (l:=u);have B:J0 (u++[z])=J0 u+1:=by rw[cU,cI]
  have C:J0 u<=256:=by unfold J0;simp at hl;omega
  have os:=JX (J0 (u++[z])) 1;refine .step ?_;unfold g8;dsimp only;rw[if_pos (by rw[fN];omega),show Ji I (J0 (u++[z])) 1=J0 u by omega];refine .w (DW (·.1) (show u++[z]++V=u++z::V by simp)) (.g (λc=>.s ?_) λc=>?_);have ih:=Bf n u (z::V) (by simp at hn;omega) (by simpa using hl) (λv o=>by
   rcases cV.1 o with rfl|h;exact c;exact hv v h)
  rw[show u++[z]++V=u++z::V by simp];exact ih;refine .stq ?_;refine P5 hk hl (.s ⟨u++[z],V,rfl,hv,λx q e=>?_,rfl⟩);have:=List.append_inj_right' e rfl;injection this with this;rw[<-this];omega
end
def Nc(a:aB)(i:Int)(_c:List aC)(F:List aM):Prop:=_c.Pairwise ltN/\ ∀x,x∈_c↔x∈F.filterMap (its a)/\jN (a,x.1)=Z i
variable {a:aB} (h:gZ a) (hf:QL a)
include h hf
theorem QG{x:aC}{i:Int}(hx:x∈cW a)(hp:jN (a,x.1)=Z i):0<=i/\i<J0 a.1/\idx a.1 i=Z x.1.2.2.1:=by obtain⟨f,_,_,⟨p,j,e,g⟩,_⟩:=oB h hf hx;have:=e.2.2.1.symm.trans hp;cases this;exact⟨e.2.2.2,j,g⟩
theorem JHR{i:Int}{_c:List aC}{A:List TX}{L:Int}(hi:0<=i/\i<16)(_e:_c.length<=256)(hA:A.length<=256)(hL: ∀x∈_c,x.1.2.2.1=L/\dD x.1):
  _n (J4 gq (i,_c.map (·.1),_c.map (·.2),0,0,a,A.map (·.1),A.map (·.2.1),A.map (·.2.2))) λy=>y=.inl (i+1,a,(A++clp L 0 _c).map (·.1),(A++clp L 0 _c).map (·.2.1),(A++clp L 0 _c).map (·.2.2)):=by
 refine gQ (l:=_c) (λj (b:Int×List TX)=>(i,_c.map (·.1),_c.map (·.2),b.1,j,a,b.2.map (·.1),b.2.map (·.2.1),b.2.map (·.2.2))) (λpre b=>(0<=b.1/\b.1<=1099511627776)/\b.2.length<=A.length+pre.length/\ ∀t,A++clp L 0 (pre++t)=b.2++clp L b.1 t) (λpre x t b hl hp=>?_) (λb hp=>?_) _c [] (0,A) _ rfl rfl ⟨⟨by show(0:Int)<=0;decide,by show(0:Int)<=1099511627776;decide⟩,zQ0 _,λt=>rfl⟩;obtain⟨to,B⟩:=b;obtain⟨⟨h,e⟩,r,g⟩:=hp;dsimp only at h e r g⊢;obtain⟨q,v⟩:=hL x (by rw[hl];simp);obtain⟨w,H,E,F,C,D,G,z⟩:=v.1;have lp:pre.length<256:=by
  have:_c.length=pre.length+(t.length+1):=by rw[hl];simp
  omega
 have k:=DW (λx:aC=>x.1) hl;unfold gq;dsimp only;rw[if_pos (JI.2 (by rw[eR];exact eJ hl)),iB hl (n:=256) (by unfold J0;omega)];have _d:J0 B<=512:=by unfold J0;omega
 refine .w k (.G (λc=>.s ⟨(to,B),rfl,⟨h,e⟩,by simp;omega,λt=>?_⟩) λc=>.w k (.w (JEr v.2.1 h e) (.w (gK (l:=B.map (·.1)) (by rw[cI,eR];omega) _k) (.w (DW (λx:aC=>x.2) hl) (.w (gK (l:=B.map (·.2.1)) (by rw[cI,eR];omega) _k) (.w k (.w (gK (l:=B.map (·.2.2)) (by rw[cI,eR];omega) _k) (.w k (.s ⟨(x.1.2.1,B++[(abv x.1 to,x.2,decide (to<x.1.1))]),?_,⟨by dsimp only;omega,by dsimp only;omega⟩,by simp;omega,λt=>?_⟩)))))))));rw[iO,g];show B++clp L to (x::t)=_;rw[zR,if_pos q,if_pos c,q];dsimp only;rw[sR,sR,sR];rfl;rw[iO,g];show B++clp L to (x::t)=_;rw[zR,if_pos q,if_neg c,q];simp;unfold gq;dsimp only;have o:=Jb i 1;rw[if_neg (by rw[JI,eR];omega),show J1 I i 1=i+1 by omega];have:=hp.2.2 [];rw[gE]at this;refine .s ?_;rw[this];simp[clp,RV]
theorem JJU{i:Int}{A:List TX}(hi:0<=i/\i<J0 a.1)(hA:A.length<=256):
  _n (J4 gm (i,[],[],0,a,A.map (·.1),A.map (·.2.1),A.map (·.2.2))) λy=> ∃_c,Nc a i _c a.2.2.1/\y=.inl (i+1,a,(A++clp (-1) 0 _c).map (·.1),(A++clp (-1) 0 _c).map (·.2.1),(A++clp (-1) 0 _c).map (·.2.2)):=by
 have K:=h.len.2;refine gQ (l:=a.2.2.1) (λk (b:List aC)=>(i,b.map (·.1),b.map (·.2),k,a,A.map (·.1),A.map (·.2.1),A.map (·.2.2))) (λpre b=>b.length<=pre.length/\Nc a i b pre) (λpre f t b hl hp=>?_) (λb hp=>?_) a.2.2.1 [] [] _ rfl rfl ⟨zQ0 _,.nil,λx=>by simp⟩;obtain⟨Q,M,F⟩:=hp;have N:f∈a.2.2.1:=by rw[hl];simp
 have lp:pre.length<256:=by have e:=h.few;have:=eJ hl;unfold J0 at*;omega
 unfold gm;dsimp only;rw[if_pos (JI.2 (eJ hl))];have o:=iB hl (n:=256) h.few;refine .w (gO hl) (.b (JRD K (hf f N)) λC g=>.d (λc=>?_) λc=>?_);rw[o];refine .s ⟨b,rfl,by simp;omega,M,λx=>(F x).trans ?_⟩;rw[b!];rcases g with⟨_,g⟩|⟨_,g⟩;rw[_V,zS g];constructor;rintro⟨D,j⟩;exact⟨c! _ D,j⟩;rintro⟨D,j⟩;refine⟨?_,j⟩;rcases zQ9.1 D with q|q;exact q;rw[dC.1 q]at j;have:=j.symm.trans g.2.2.1;injection this with this;exact absurd this.symm c;rw[_V,XA g];simp;have g:Itc a f C.1 C.2:=(by rcases g with⟨_,g⟩|⟨g,_⟩;exact g;omega);have P:=Bf (i:=i) (A:=A) (r:=C.1) (gO hl) b.length b [] rfl (by simp;omega) nofun;simp only[gE]at P;rw[eR];refine P.mono λy w=>?_;obtain⟨U,V,w1,w2,w3,rfl⟩:=w;rw[o];have G: ∀x∈b,x.1.2.2.1=C.1.2.2.1/\x.2<f.2.1:=λx B=>by
  obtain⟨D,j⟩:=(F x).1 B;have qa:x∈cW a:=by unfold cW;rw[hl,b!];exact c! _ D
  have e1:=(QG h hf qa j).2.2;have H:=((NI K C.1).get g.2.2.1).2 g.2.2.2;rw[c,e1]at H;injection H with H;refine⟨H,?_⟩;obtain⟨f',T,f2⟩:=List.mem_filterMap.1 D;rw[(PH f2).1];have _p:=h._p;rw[hl]at _p;exact(_M.1 _p).2.2 f' T f _L
 subst w1;refine⟨U++(C.1,f.2.1)::V,rfl,by simp at Q⊢;omega,?_,λx=>?_⟩;obtain⟨R,W,_a⟩:=_M.1 M;refine _M.2 ⟨R,_O.2 ⟨λv E=>?_,W⟩,λu _e v E=>?_⟩;have lv:=G v (_Z _ E);have:=w2 v E;exact .inr ⟨lv.1.symm,.inl this⟩;rcases cV.1 E with rfl|E;obtain⟨_b,z,rfl⟩: ∃p z,U=p++[z]:=⟨U.dropLast,U.getLast (List.ne_nil_of_mem _e),(_S _).symm⟩;have lu:=G u (c! _ _e);have lz:=G z (by simp);have hz:=w3 _b z rfl;have a9:u.1.1<=z.1.1:=(by rcases zQ9.1 _e with q|q;have:=(_M.1 R).2.2 u q z (by simp);unfold ltN at this;omega;rw[dC.1 q];exact bC _);have:=lu.2;unfold ltN;dsimp only;omega;exact _a u _e v E;rw[b!,_V,zS g];have k:=F x;simp only[List.filterMap_nil,zQ9,cV,g!,or_false]at k⊢;constructor;rintro(q|rfl|q);exact⟨.inl (k.1 (.inl q)).1,(k.1 (.inl q)).2⟩;exact⟨.inr rfl,by rw[<-c];exact g.2.2.1⟩;exact⟨.inl (k.1 (.inr q)).1,(k.1 (.inr q)).2⟩;rintro⟨q|rfl,j⟩;rcases k.2 ⟨q,j⟩with q|q;exact .inl q;exact .inr (.inr q);exact .inr (.inl rfl);unfold gm;dsimp only;rw[if_neg (by rw[JI];omega)];have _d: ∀x∈b,x∈cW a:=λx B=>((hp.2.2 x).1 B).1;obtain⟨L,eL,_⟩:=gH (l:=a.1) hi.1 hi.2;have hL: ∀x∈b,x.1.2.2.1=L/\dD x.1:=λx B=>by have q:=((hp.2.2 x).1 B).2;have e:=(QG h hf (_d x B) q).2.2;rw[eL]at e;injection e with e;obtain⟨_,_,_,_,k,_⟩:=oB h hf (_d x B);exact⟨e.symm,k⟩
 have lb:b.length<=256:=by have e:=h.few;have:=hp.1;unfold J0 at e;omega
 have S:clp (-1) 0 b=clp L 0 b:=by
  cases b with
  |nil=>rfl
  |cons x t=>rw[zR,zR,(hL x _L).1];simp
 refine .endq ((JHR h hf ⟨hi.1,by omega⟩ lb hA hL).mono λy e=>⟨b,hp.2,by rw[e,S]⟩)
theorem JPo:ZT a=Z ((WR a).map (·.1),(WR a).map (·.2.1),(WR a).map (·.2.2)):=by
 have U:=h.len.2;apply _n.go;unfold ZT;refine .b (fu a) λy R=>.n (λc=>by rw[R.2 h]at c;cases c) λ_=>gQ (l:=a.1) (λi (b:List TX)=>(i,a,b.map (·.1),b.map (·.2.1),b.map (·.2.2))) (λpre b=> ∃C:List aC,b=clp (-1) 0 C/\C.Pairwise ltN/\C.length<=256/\ ∀x,x∈C↔x∈cW a/\ ∃p,p<J0 pre/\jN (a,x.1)=Z p) (λpre x t b hl hp=>?_) (λb hp=>?_) a.1 [] [] _ rfl rfl ⟨[],rfl,.nil,by decide,λx=>⟨nofun,fun⟨q,p,r,j⟩=>by have:=(QG h hf q j).1;rw[qI]at r;omega⟩⟩;obtain⟨C,rfl,v,G,o⟩:=hp;have N:=J7 (l:=pre);have lt:=eJ hl;unfold tm;dsimp only;rw[if_pos (JI.2 lt)];refine(JJU h hf ⟨N,lt⟩ (zQ1 VW G)).mono λy w=>?_;obtain⟨_c,⟨P,H⟩,rfl⟩:=w;have L: ∀z∈_c,z∈cW a:=λz g=>((H z).1 g).1;have B: ∀z∈_c,∀c∈C,c.1.2.2.1<z.1.2.2.1:=λz g c hc=>by have S:=(QG h hf (L z g) ((H z).1 g).2).2.2;obtain⟨q,p,r,j⟩:=(o c).1 hc;obtain⟨V,W,M⟩:=QG h hf q j;have A:=h.asc;unfold Asc at A;have _d:a.1[(J0 pre).toNat]?=Z z.1.2.2.1:=(bT S).2;have _e:a.1[p.toNat]?=Z c.1.2.2.1:=(bT M).2;obtain⟨Q,_d⟩:=dT.1 _d;obtain⟨T,_e⟩:=dT.1 _e;have:=_N.1 A p.toNat (J0 pre).toNat T Q oo;rw[_d,_e]at this;exact this
 have E: ∀z∈_c,0<=z.1.2.2.1:=λz g=>by obtain⟨_,_,_,_,k,_⟩:=oB h hf (L z g);exact k.1.2.2.2.1
 have F: ∀z,z∈C++_c↔z∈cW a/\ ∃p,p<J0 (pre++[x])/\jN (a,z.1)=Z p:=λz=>by
  rw[zQ9,o,H,cU,cI];constructor;rintro(⟨q,p,r,j⟩|⟨q,j⟩);exact⟨q,p,by omega,j⟩;exact⟨q,_,by omega,j⟩;rintro⟨q,p,r,j⟩;by_cases e:p<J0 pre;exact .inl ⟨q,p,e,j⟩;have:p=J0 pre:=by omega
  subst this;exact .inr ⟨q,j⟩
 have K:(C++_c).Pairwise ltN:=_M.2 ⟨v,P,λc hc z g=>.inl (B z g c hc)⟩;have hlen:(C++_c).length<=256:=by
  have n:(C++_c).Nodup:=K.imp fun{x y} k e=>by subst e;exact ltN.irr _ k
  have s:(C++_c)⊆cW a:=λz g=>((F z).1 g).1;exact zQ1 (n.length_le_of_subset s) (kw h hf)
 refine⟨clp (-1) 0 (C++_c),?_,C++_c,rfl,K,hlen,F⟩;rw[Qk (D:=_c) λz g=>⟨by have:=E z g;omega,by have:=E z g;omega,λc hc=>by have:=B z g c hc;omega⟩,cU,cI];obtain⟨C,rfl,v,G,o⟩:=hp;unfold tm;dsimp only;rw[if_neg (by rw[JI];omega)];refine .s ?_;have:C=CR a:=Nb ltN.irr ltN.asym v (Mo h hf) λx=>(o x).trans ⟨λq=>(vT h hf).2 q.1,λq=>by have q:=(vT h hf).1 q;obtain⟨_,_,_,⟨p,r,j,_⟩,_⟩:=oB h hf q;exact⟨q,p,r,j.2.2.1⟩⟩;rw[this];rfl
end
section
variable {a:aB} (h:gZ a) (hf:QL a)
include h hf
theorem JOD{e:TX}(he:e∈WR a): ∃f∈a.2.2.1,∃(x:aF) (t:Int),e=(abv x t,f.2.1,decide (t<x.1))/\sK f.2.2=Z (x,0)/\dD x/\fU x/\0<=t:=by
 obtain⟨x,t,h1,h2,o⟩:=mp (λx q=>by obtain⟨r,w,v,_⟩:=(OA h hf q).1.1;omega) (bC 0) he;obtain⟨f,j,n,⟨p,z,g,y⟩,k⟩:=oB h hf ((vT h hf).1 h1);exact⟨f,j,x.1,t,by rw[o,n],g.2.1,k.1,k.2,h2⟩
theorem JMH(r:aF)(t:Int):J0 (ent (abv r t))<=J0 (ent r):=by
 unfold abv;split;exact bC _;have:=a! (λe:aA=>decide (t<e.1)) (ent r);show J0 ((ent r).filter λe=>decide (t<e.1))<=_;unfold J0;omega
theorem M7{e:TX}(he:e∈WR a):J0 (ent e.1)<=4096/\(e.2.2=O->dD e.1/\fU e.1):=by
 obtain⟨f,_,x,t,rfl,_,g,j,_⟩:=JOD h hf he;refine⟨jB (JMH h hf x t) g.2.1,λc=>?_⟩;have:t<x.1:=by simpa using c
 unfold abv;rw[if_pos this];exact⟨g,j⟩
theorem JQ2:(WR a).length<=256:=zQ1 VW (VM h hf)
omit h hf
theorem JMm{r:aF}(h:4096<J0 (ent r)):fI r=Z J:=by
 have n: ∃b,mJ (r.1,r.2.1,r.2.2.1,r.2.2.2.1,r.2.2.2.2.1)=Z b:=by
  unfold mJ
  repeat' split
  all_goals exact⟨_,rfl⟩
 obtain⟨b,e⟩:=n;unfold fI;rw[e];cases b;rfl;show(if aS (J0 (ent r)) 4096 then Z J else _)=_;rw[if_pos (fN.2 h)]
def rE:aF->List TX->aF|z,[]=>z|_,x::p=>rE x.1 p
theorem zr(L:Int)(z:aF)(x:TX)(t:List TX):chX L z (x::t)=(RU z x.1/\x.1.2.2.2.2.1=L/\chX L x.1 t):=rfl
theorem mo{L:Int}: ∀{p:List TX} {z:aF} {t:List TX},chX L z (p++t)↔chX L z p/\chX L (rE z p) t|[],_,_=>⟨λh=>⟨_g,h⟩,λh=>h.2⟩|x::p,z,t=>by have ih:=mo (L:=L) (p:=p) (z:=x.1) (t:=t);rw[uR,zr,zr,ih];exact⟨fun⟨a,b,c,d⟩=>⟨⟨a,b,c⟩,d⟩,fun⟨⟨a,b,c⟩,d⟩=>⟨a,b,c,d⟩⟩
theorem qc{x q:TX}: ∀{b:List TX} {z:aF},rE z (b++[q])=q.1|[],_=>rfl|y::b,z=>qc (b:=b) (z:=y.1) (x:=x)
theorem z7{x q:TX}{b p:List TX}(h:x::b=p++[q]):rE x.1 b=q.1:=by
 cases p with
 |nil=>injection h with h1 h2;subst h1 h2;rfl
 |cons y p=>injection h with h1 h2;subst h2;exact qc (x:=x)
theorem Ai: ∀{p:List TX} {acc:List aA} {t:List TX},iL acc (p++t)=iL (iL acc p) t|[],_,_=>rfl|x::p,acc,t=>by show iL (mrg acc (ent x.1)) (p++t)=iL (iL (mrg acc (ent x.1)) p) t;exact Ai
def BU(w:List TX)(y:HG):Prop:=gW w=if y.2=O then Z y.1 else Y
theorem PJ{w:List TX}(h:gW w=Y){r:aF}:BU w (r,J):=by unfold BU;rw[h];rfl
theorem JMI{x:TX}{p t:List TX}{z:TX}{L:Int}(h: ¬(RU (rE x.1 p) z.1/\z.1.2.2.2.2.1=L))(hL:L=x.1.2.2.2.2.1):gW (x::(p++z::t))=Y:=by rw[PQ,if_neg];rintro⟨_,k,_⟩;rw[<-hL,mo]at k;exact h ⟨k.2.1,k.2.2.1⟩
theorem oh: ∀{t:List TX} {acc:List aA} {z:aA},z∈iL acc t->z∈acc\/ ∃e∈t,z∈ent e.1
 |[],_,_,h=>.inl h
 |x::t,acc,z,h=>by
  rcases oh (t:=t) (acc:=mrg acc (ent x.1)) h with k|⟨e,g,j⟩;rcases Q6 k with k|k;exact .inl k;exact .inr ⟨x,_L,k⟩;exact .inr ⟨e,fR _ g,j⟩
theorem JNQ{x:TX}{t:List TX}(h: ∀e∈x::t,dD e.1):1<=toW x.1.2.1 t/\toW x.1.2.1 t<=1099511627776:=by
 induction t generalizing x with
 |nil=>obtain⟨j,k,n,_⟩:=(h x _L).1;exact⟨by show 1<=x.1.2.1;omega,by show x.1.2.1<=_;omega⟩
 |cons y t ih=>exact ih λe g=>h e (fR _ g)
theorem N5{x:TX}{t:List TX}(h: ∀e∈x::t,dD e.1/\fU e.1)(hl:J0 (iL (ent x.1) t)<=16384):fU (jn x t):=by
 obtain⟨B,C,r,v,q,y,z,A⟩:=(h x _L).1.1;have o:=Jb x.1.2.2.2.2.1 1;have w:=JNQ λe g=>(h e g).1;refine JLA oo hl λe g=>?_;rcases oh g with k|⟨f,j,n⟩;exact(h x _L).2.2.2.2.2.2.2 e k;exact(h f (fR _ j)).2.2.2.2.2.2.2 e n
theorem JK0{x:TX}{t:List TX}(h: ∀e∈x::t,e.2.2=O)(hc:chX x.1.2.2.2.2.1 x.1 t){v:Bool}(hv:fI (jn x t)=Z v):BU (x::t) (jn x t,v):=by
 unfold BU;rw[PQ];cases v with
 |true=>rw[if_pos ⟨h,hc,hv⟩];rfl
 |false=>rw[if_neg (λk=>by rw[hv]at k;cases k.2.2)];rfl
end
section
theorem Ar{L:Int}: ∀{p:List TX} {z:aF},chX L z p->(rE z p).2.2.1=z.2.2.1/\(rE z p).2.2.2.1=z.2.2.2.1|[],_,_=>⟨rfl,rfl⟩|x::p,z,h=>by obtain⟨h1,_,e⟩:=h;have k:=Ar (p:=p) (z:=x.1) e;exact⟨k.1.trans h1.1.symm,k.2.trans h1.2.1.symm⟩
theorem Se: ∀{p:List TX} {z:aF},toW z.2.1 p=(rE z p).2.1|[],_=>rfl|x::p,z=>Se (p:=p) (z:=x.1)
theorem tG{r:aF}(h:dD r){e:aA}(he:e∈ent r):r.1<=e.1/\e.1<=r.2.1:=by obtain⟨j,g⟩:=fA.1 he;have k:=h.2.2.1 j e g;exact⟨k.2.2.1,k.2.2.2.1⟩
theorem P0{l:List aF}{g:List Bool}{i f t lo hi lv:Int}{z:aF}{acc:List aA}{r:aF}(h:idx l i=Z r)(hr:J0 (ent r)<=4096)(ha:J0 acc<=40000):
  _n (J4 SI (l,g,i,0,z,f,t,lo,hi,lv,acc)) λy=>y=.inl (l,g,J1 I i 1,z,f,t,lo,hi,lv,(ent r).foldl cA acc):=by
 refine gQ (l:=ent r) (λk (b:List aA)=>(l,g,i,k,z,f,t,lo,hi,lv,b)) (λpre b=>b=pre.foldl cA acc) (λpre x u b hl hp=>?_) (λb hp=>?_) (ent r) [] acc _ rfl rfl rfl;unfold SI;dsimp only;refine .w h ?_;have lt:J0 pre<J0 r.2.2.2.2.2:=eJ hl;rw[if_pos (JI.2 lt),iB hl (n:=4096) hr];refine .w h (.w (gO hl) (.b (j7 (l:=b) (e:=x) ?_) λy j=>.s ⟨cA b x,?_,?_⟩));have:=JKf pre acc;have:=eJ hl;rw[hp];unfold J0 at*;omega;rw[j];rw[List.foldl_append,<-hp];rfl;unfold SI;dsimp only;refine .w h ?_;have: ¬J0 (ent r)<J0 r.2.2.2.2.2:=Int.lt_irrefl _;rw[if_neg (by rw[JI];exact this),hp];exact .s rfl
theorem JNk:Hb=SI:=rfl
theorem JOH{x:TX}{t:List TX}(hw: ∀e∈x::t,J0 (ent e.1)<=4096/\(e.2.2=O->dD e.1/\fU e.1))(hn:(x::t).length<=8):_n (ZQ ((x::t).map (·.1),(x::t).map (·.2.2))) (BU (x::t)):=by
 have j:idx ((x::t).map (·.1)) 0=Z x.1:=rfl;obtain⟨F,M,el⟩: ∃p q,x::t=p++[q]:=⟨(x::t).dropLast,(x::t).getLast (by simp),(_S (by simp)).symm⟩;have ag:=J7 (l:=F);have aa:J0 (x::t)=J0 F+1:=by rw[el,cU,cI]
 have l8:J0 (x::t)<=8:=by unfold J0;omega
 have ad:=JX (J0 (x::t)) 1;have _d:idx ((x::t).map (·.1)) (Ji I (J0 ((x::t).map (·.1))) 1)=Z M.1:=by rw[eR,show Ji I (J0 (x::t)) 1=J0 F by omega];exact DW (λx:TX=>x.1) (show x::t=F++M::[]from el)
 have _b:M.1.2.1=toW x.1.2.1 t:=by rw[Se,z7 el]
 unfold ZQ;refine .w j (.w _d (.w j (.w j (.w j ?_))));dsimp only;rw[_b];have fin: ∀acc:List aA,(∀e∈x::t,e.2.2=O)->chX x.1.2.2.2.2.1 x.1 t->acc=iL (ent x.1) t->_n ((fI (x.1.1,toW x.1.2.1 t,x.1.2.2.1,x.1.2.2.2.1,J1 I x.1.2.2.2.2.1 1,acc)).bind λR=>Z ((x.1.1,toW x.1.2.1 t,x.1.2.2.1,x.1.2.2.2.1,J1 I x.1.2.2.2.2.1 1,acc),R)) (BU (x::t)):=(by intro acc h1 h2 h3;subst h3;have T: ∃v,fI (jn x t)=Z v:=(by by_cases c:J0 (iL (ent x.1) t)<=4096;obtain⟨v,_,K,_⟩:=vv (N5 (λe g=>(hw e g).2 (h1 e g)) oo);exact⟨v,K⟩;exact⟨J,JMm (show 4096<J0 (iL (ent x.1) t) by omega)⟩);obtain⟨v,K⟩:=T;exact .w K (.s (JK0 h1 h2 K)));refine gQ (l:=x::t) (λi (b:List aA)=>((x::t).map (·.1),(x::t).map (·.2.2),i,(0,0,0,0,0,[]),x.1.1,toW x.1.2.1 t,x.1.2.2.1,x.1.2.2.2.1,J1 I x.1.2.2.2.2.1 1,b)) (λpre acc=>(∀e∈pre,e.2.2=O)/\J0 acc<=4096*J0 pre/\((pre=[]/\acc=[])\/ ∃b,pre=x::b/\chX x.1.2.2.2.2.1 x.1 b/\acc=iL (ent x.1) b/\ ∀e∈acc,e.1<=(rE x.1 b).2.1)) (λpre z u acc hl hp=>?_) (λacc hp=>?_) (x::t) [] [] _ rfl rfl ⟨nofun,by rw[qI,qI];decide,.inl ⟨rfl,rfl⟩⟩;obtain⟨B,V,E⟩:=hp;have hz:=hw z (by rw[hl];simp);have r:=DW (λx:TX=>x.1) hl;have lt:=eJ hl;have np:=J7 (l:=pre);have o:=iB hl (n:=8) l8;have W:J0 (pre++[z])=J0 pre+1:=by rw[cU,cI]
 have bad: ¬z.2.2=O->gW (x::t)=Y:=λc=>JJy _ ⟨z,by rw[hl];simp,c⟩;unfold sd;dsimp only;rw[if_pos (JI.2 (by rw[eR];exact lt))];refine .w (DW (λx:TX=>x.2.2) hl) (.r (λc=>?_) λc=>.s (PJ (bad (by rw[c];decide))));obtain⟨D,zf⟩:=hz.2 c;have _a:J0 (ent z.1)<=4096:=hz.1;refine .w r (.w j ?_);rcases E with⟨rfl,rfl⟩|⟨b,rfl,A,rfl,C⟩;injection hl with h1 h2;subst h1 h2;have _c: ∀y:Int,aQ y y=J:=λy=>by simp[aQ]
 rw[if_pos (_c _)];refine .w r (.w j ?_);rw[if_pos (_c _)];refine .w r (.w j ?_);rw[if_pos (_c _),if_neg (by rw[fN,qI];omega),JNk];refine(P0 r _a (by rw[qI];decide)).mono λy P=>?_;rw[P,o];have L:(ent x.1).foldl cA []=ent x.1:=(m7 (b:=ent x.1) (a:=[]) (qg D) λ_ h=>absurd h g!).symm.trans (by rw[mrg]);rw[L];refine⟨_,rfl,λe g=>by rw[dC.1 g];exact c,by rw[W,qI];omega,.inr ⟨[],rfl,_g,rfl,λe g=>?_⟩⟩;exact(tG D g).2;have hq:J0 (x::b)=J0 b+1:=(by rw[show x::b=[x]++b from rfl,cU,cI];omega);have nb:=J7 (l:=b);have et:t=b++z::u:=by simpa using hl
 have G: ¬(RU (rE x.1 b) z.1/\z.1.2.2.2.2.1=x.1.2.2.2.2.1)->gW (x::t)=Y:=λk=>by rw[et];exact JMI k rfl
 have H:=Ar A;obtain⟨p,q,_e⟩: ∃p q,x::b=p++[q]:=⟨(x::b).dropLast,(x::b).getLast (by simp),(_S (by simp)).symm⟩;have U:=z7 _e;have S:q∈x::b:=by rw[_e];simp
 obtain⟨qo,_⟩:=(hw q (by rw[hl];exact c! _ S)).2 (B q S);have ab:=J7 (l:=p);have lp:J0 (x::b)=J0 p+1:=by rw[_e,cU,cI]
 have os:=JX (J0 (x::b)) 1;have iq:=DW (λx:TX=>x.1) (show x::t=p++q::(z::u) by rw[hl,_e];simp);obtain⟨ac,a9,af,_⟩:=qo.1;have oq:=Jb q.1.2.1 1;refine .q (λc1=>.w r (.w j (.q (λc2=>.w r (.w j (.q (λc3=>?_) λk=>.s (PJ (G λw=>k w.2))))) λk=>.s (PJ (G λw=>k (w.1.2.1.symm.trans H.2)))))) λk=>.s (PJ (G λw=>k (w.1.1.symm.trans H.1)));rw[if_pos (by rw[fN];omega),show Ji I (J0 (x::b)) 1=J0 p by omega];refine .w r (.w iq (.d (λk=>.s (PJ (G λw=>k (by have:=w.1.2.2;rw[U]at this;omega)))) λc4=>?_));have N:RU (rE x.1 b) z.1:=⟨H.1.trans c1.symm,H.2.trans c2.symm,by rw[U];omega⟩;refine(P0 (acc:=iL (ent x.1) b) r _a oo).mono λy P=>?_;rw[P,o];have L:(ent z.1).foldl cA (iL (ent x.1) b)=mrg (iL (ent x.1) b) (ent z.1):=(m7 (qg D) λe g f Q k=>by have k1:=(XG.1 k).2;have w:=C e g;have k3:=(tG D Q).1;have k4:=N.2.2;omega).symm;rw[L];refine⟨_,rfl,λe g=>?_,?_,.inr ⟨b++[z],by simp,mo.2 ⟨A,N,c3,_g⟩,by rw[Ai];rfl,λe g=>?_⟩⟩;rcases zQ9.1 g with k|k;exact B e k;rw[dC.1 k];exact c;rw[JJX,W];omega;rw[qc (x:=x)];obtain⟨ae,ah,_⟩:=D.1;have k4:=N.2.2;rcases Q6 g with k|k;have:=C e k;omega;exact(tG D k).2;obtain⟨B,V,E⟩:=hp;unfold sd;dsimp only;rw[if_neg (by rw[JI,eR];omega)];rcases E with⟨e,_⟩|⟨b,e,A,C,_⟩;cases e;injection e with _ e;subst e;exact .endq (fin acc B A C)
end
section
noncomputable def mR(_p:_E)(F:List aM):List aM:=F.filter λf=> !decide (f.2.1∈_p)
noncomputable def wb(a:aB)(s:_j)(w:List TX):aB:=(a.1,a.2.1,mR (w.map (·.2.1)) a.2.2.1++[(1,a.2.2.2.2,s)],a.2.2.2.1,J1 I a.2.2.2.2 1)
def vX(a:aB)(fan:Int)(y:vG):Prop:=(¬gZ a/\y=(([],0,[],0,0),J,54))\/(gZ a/\ ¬(2<=fan/\fan<=8)/\y=(([],0,[],0,0),J,1))\/(gZ a/\(2<=fan/\fan<=8)/\((nQ fan.toNat gW (WR a)=Y/\y=(a,J,0))\/ ∃r w,nQ fan.toNat gW (WR a)=Z (r,w)/\((1073741824<a.2.2.2.2/\y=(([],0,[],0,0),J,21))\/(a.2.2.2.2<=1073741824/\ ∃s,kG r=Z (s,0)/\J0 s<=167968836/\y=(wb a s w,O,0)))))
theorem jg{r:aF}(h:dD r)(hf:fU r): ∃s,kG r=Z (s,0)/\J0 s<=167968836:=by
 have n:=(kj h).2;obtain⟨y,e,k⟩:=Zc (B:=4096) (S:=9223372036854775807) (X:=r) ⟨hf.1,hf.2.1,hf.2.2.1,hf.2.2.2.1,hf.2.2.2.2.1,h.2.1,λe j=>Ty.fit.up (B:=0) _k _k (show Ty.fit 0 9223372036854775807 J3 e from hf.2.2.2.2.2.2 e j)⟩;have z:_s (kG r) λy=>y.2=0:=by unfold kG;rw[n];refine .b λy g=>?_;cases g;refine .n (λc=>by cases c) λ_=>.b λ_ _=>.b λ_ _=>.z (λ_=>True) trivial λz _=>?_;unfold BN;exact .i (λ_=>.b λ_ _=>.b λ_ _=>.b λ_ _=>.b λ_ _=>.s _g) λ_=>.s rfl
 obtain⟨s,f⟩:=y;have:=z _ e;dsimp only at this;subst this;exact⟨s,e,k.1⟩
theorem Ak{α σ ρ β:Type}{L:σ->Option (σ⊕ρ)}{Q:ρ->Prop}{n:Nat}{g:List α->Option β}{l:List α}(hn:0<n)(e:Int->σ)
  (hs: ∀pre w post,l=pre++w++post->w.length=n->_n (L (e (J0 pre))) λr=>match g w with|none=>r=.inl (e (J0 pre+1))|some b=>match r with| .inl _=>False| .inr y=>nQ n g l=Z (b,w)->Q y)
  (he: ∀i,0<=i->i<=J0 l->J0 l<i+n->_n (L (e i)) (RV λy=>nQ n g l=Y->Q y)):
  ∀(t pre:List α),l=pre++t->nQ n g l=nQ n g t->_n (J4 L (e (J0 pre))) Q
 |[],pre,hl,hf=>by
  refine .step ((he (J0 pre) J7 (by rw[hl,cU];have:=J7 (l:=([]:List α));omega) (by rw[hl,gE];omega)).mono λr h=>?_);cases r with
  |inl z=>exact h.elim
  |inr y=>exact h hf
 |x::t,pre,hl,hf=>by
  by_cases c:(x::t).length<n;refine .step ((he (J0 pre) J7 (by rw[hl,cU];have:=J7 (l:=x::t);omega) (by rw[hl,cU];unfold J0;omega)).mono λr h=>?_);cases r with
  |inl z=>exact h.elim
  |inr y=>exact h (hf.trans (JET c))
  have j:((x::t).take n).length=n:=by rw[yK];omega
  have st:=hs pre ((x::t).take n) ((x::t).drop n) (by rw[iO,nV];exact hl) j;rw[Bk,if_neg c]at hf;refine .step (st.mono λr h=>?_);cases hg:g ((x::t).take n)with
  |none=>rw[hg]at h hf;subst h;have:=Ak hn e hs he t (pre++[x]) (by rw[hl];simp) hf;rw[cU,cI]at this;exact this
  |some b=>
   rw[hg]at h hf;cases r with
   |inl z=>exact h.elim
   |inr y=>exact h hf
end
section
theorem Mu{w:List TX}{r:aF}(h:gW w=Z r)(hw: ∀e∈w,J0 (ent e.1)<=4096/\(e.2.2=O->dD e.1/\fU e.1)):dD r/\fU r:=by
 cases w with
 |nil=>cases h
 |cons x t=>
  rw[PQ]at h;by_cases c:(∀e∈x::t,e.2.2=O)/\chX x.1.2.2.2.2.1 x.1 t/\fI (jn x t)=Z O;rw[if_pos c]at h;cases h;have k:=dD.of c.2.2;have j:J0 (iL (ent x.1) t)<=4096:=k.2.1;exact⟨k,N5 (λe g=>(hw e g).2 (c.1 e g)) oo⟩;rw[if_neg c]at h;cases h
theorem Pq{α:Type}{l pre w post:List α}{j k:Int}(h:l=pre++w++post)(hj:j=J0 pre)(hk:k=J0 pre+J0 w):bA l (Z j) (Z k)=Z w:=by
 have g:=J7 (l:=pre);have o:=J7 (l:=w);have q:=J7 (l:=post);have n:J0 l=J0 pre+J0 w+J0 post:=by rw[h,cU,cU]
 obtain⟨r,e,d,_⟩:=vV (l:=l) (j:=j) (k:=k) oo oo oo;rw[e,d,h,hj,show k-J0 pre=J0 w by omega];unfold J0;simp
variable {a:aB} (hf:QL a) {fan:Int}
include hf
theorem JIR{win pre post _p:_E}{k:Int}{f:aM}{r:aF}{acc:List aM}(g:_p=pre++win++post)(hn:J0 _p<=256)(hw:J0 win=fan)(hk:idx a.2.2.1 k=Z f)(z:J0 acc<=256):
  _n (J4 di (fan,_p,J0 pre,k,J,J0 pre,a,[],[],0,0,0,r,[],a.1,a.2.1,a.2.2.2.1,a.2.2.2.2,acc)) λy=>y=.inl (fan,_p,J0 pre,J1 I k 1,a,[],[],0,0,0,r,[],a.1,a.2.1,a.2.2.2.1,a.2.2.2.2,if f.2.1∈win then acc else acc++[f]):=by
 have A:=J7 (l:=pre);have C:=J7 (l:=win);have w:=J7 (l:=post);have B:J0 _p=J0 pre+J0 win+J0 post:=by rw[g,cU,cU]
 have o:=Jb (J0 pre) fan;have v:J0 (pre++win)=J0 pre+J0 win:=cU;refine gQ (l:=pre++win) (λn (m:Bool)=>(fan,_p,J0 pre,k,m,n,a,[],[],0,0,0,r,[],a.1,a.2.1,a.2.2.2.1,a.2.2.2.2,acc)) (λp m=> ∃q,p=pre++q/\(m=O↔f.2.1∈q)) (λp x t m hl hp=>?_) (λm hp=>?_) win pre J _ rfl rfl ⟨[],by simp,by simp⟩;obtain⟨q,rfl,h⟩:=hp;have j:_p=(pre++q)++x::(t++post):=by rw[g,hl];simp
 have lt:=eJ hl;unfold di;dsimp only;rw[if_pos (JI.2 oo),iB hl (n:=256) oo];refine .t (λc=>.w (gO j) (.w hk (.s ⟨_,rfl,q++[x],by simp,?_⟩))) λc=>.s ⟨O,by subst c;rfl,q++[x],by simp,?_⟩;rw[gM];have: ¬f.2.1∈q:=λk=>by rw[h.2 k]at c;cases c
 simp only[zQ9,dC,this,false_or];exact eq_comm;exact⟨λ_=>c! _ (h.1 c),λ_=>rfl⟩;obtain⟨q,e,h⟩:=hp;have e:=List.append_cancel_left e;subst e;unfold di;dsimp only;rw[if_neg (by rw[JI];omega)];refine .endq (.n (λc=>.w hk (.w (gK (by rw[cI];omega) _k) (.s ?_))) λc=>.s ?_);rw[if_neg (λk=>by rw[h.2 k]at c;cases c)];rw[if_pos (h.1 c)]
theorem JQD:_n (YZ (a,fan)) (vX a fan):=by
 unfold YZ;refine .b (fu a) λV h2=>.n (λc=>.s (.inl ⟨λk=>(by rw[h2.2 k]at c;cases c),rfl⟩)) λc=>?_;have h:=h2.1 c;refine .j (λC=>.g (λD=>.s (.inr (.inl ⟨h,λk=>by omega,rfl⟩))) λD=>.w (JPo h hf) ?_) λC=>.s (.inr (.inl ⟨h,λk=>by omega,rfl⟩));dsimp only at C D;have C: ¬fan<2:=C;have D: ¬8<fan:=D;have len:=JQ2 h hf;have _e: ∀e∈WR a,J0 (ent e.1)<=4096/\(e.2.2=O->dD e.1/\fU e.1):=λe z=>M7 h hf z;refine Ak (L:=ZM) (Q:=vX a fan) (l:=(WR a)) (n:=fan.toNat) (g:=gW) oo (λi=>(fan,(WR a).map (·.1),(WR a).map (·.2.1),(WR a).map (·.2.2),i,a,[],[],0,0,0)) (λpre w post hl W=>?_) (λi S i1 hi=>?_) (WR a) [] rfl rfl;have T:=J7 (l:=pre);have U:J0 (WR a)=J0 pre+J0 w+J0 post:=by rw[hl,cU,cU]
 have P:=J7 (l:=post);have K:J0 w=fan:=by unfold J0;omega
 have M:J0 (WR a)<=256:=by unfold J0;omega
 have o:=Jb (J0 pre) fan;have R:=Jb (J0 pre) 1;have wm: ∀e∈w,e∈(WR a):=λe z=>by rw[hl];simp[z]
 unfold ZM;dsimp only;rw[if_pos (dV.2 (by rw[eR];omega))];refine .w (Pq (pre:=pre.map (·.1)) (w:=w.map (·.1)) (post:=post.map (·.1)) (by rw[hl];simp) (by rw[eR]) (by rw[eR,eR];omega)) (.w (Pq (pre:=pre.map (·.2.2)) (w:=w.map (·.2.2)) (post:=post.map (·.2.2)) (by rw[hl];simp) (by rw[eR]) (by rw[eR,eR];omega)) ?_);cases w with
 |nil=>rw[qI]at K;omega
 |cons x t=>
  refine .b (JOH (x:=x) (t:=t) (λe z=>_e e (wm e z)) oo) λy j=>?_;obtain⟨r,v⟩:=y;unfold BU at j;cases v with
  |false=>rw[j];exact .s (by show _=_;rw[show J1 I (J0 pre) 1=J0 pre+1 by omega])
  |true=>
   have j:gW (x::t)=Z r:=j;rw[j];obtain⟨N,_c⟩:=Mu j λe z=>_e e (wm e z);obtain⟨s,es,ls⟩:=jg N _c;rw[if_neg (show¬Jj O=O by decide)];refine .g (λE=>.s λB=>.inr (.inr ⟨h,⟨by omega,by omega⟩,.inr ⟨r,x::t,B,.inl ⟨E,rfl⟩⟩⟩)) λE=>?_;have G:=h.few;have F:(WR a).map (·.2.1)=pre.map (·.2.1)++(x::t).map (·.2.1)++post.map (·.2.1):=by rw[hl];simp
   have go:_n (J4 ZL (fan,(WR a).map (·.2.1),J0 pre,0,a,[],[],0,0,0,r,[],a.1,a.2.1,a.2.2.2.1,a.2.2.2.2,[])) λy=>y=.inr (wb a s (x::t),O,0):=(by refine gQ (l:=a.2.2.1) (λk (acc:List aM)=>(fan,(WR a).map (·.2.1),J0 pre,k,a,[],[],0,0,0,r,[],a.1,a.2.1,a.2.2.2.1,a.2.2.2.2,acc)) (λp acc=>acc=mR ((x::t).map (·.2.1)) p) (λp f q acc A hp=>?_) (λacc hp=>?_) a.2.2.1 [] [] _ rfl rfl rfl;have lt:=eJ A;have _d:=a! (λf:aM=> !decide (f.2.1∈(x::t).map (·.2.1))) p;unfold ZL;dsimp only;rw[if_pos (JI.2 lt)];have H:=JIR hf (fan:=fan) (win:=(x::t).map (·.2.1)) (pre:=pre.map (·.2.1)) (post:=post.map (·.2.1)) (r:=r) (acc:=acc) F (by rw[eR];omega) (by rw[eR];exact K) (gO A) (by rw[hp];unfold mR J0 at*;omega);rw[eR]at H;refine H.mono λy j=>?_;rw[j,iB A (n:=256) G];refine⟨_,rfl,?_⟩;unfold mR at hp⊢;rw[i!,<-hp];by_cases c:f.2.1∈(x::t).map (·.2.1);rw[if_pos c,List.filter_cons_of_neg (by rw[decide_eq_true c];decide),List.filter_nil,gE];rw[if_neg c,List.filter_cons_of_pos (by rw[decide_eq_false c];rfl)];rfl;have _d:=a! (λf:aM=> !decide (f.2.1∈(x::t).map (·.2.1))) a.2.2.1;unfold ZL;dsimp only;rw[if_neg (by rw[JI];omega)];refine .endq (.w es (.w (gK (by rw[hp,cI];unfold mR J0 at*;omega) _k) (.s ?_)));rw[hp];rfl);refine go.mono λy j=>?_;rw[j];exact λB=>.inr (.inr ⟨h,⟨by omega,by omega⟩,.inr ⟨r,x::t,B,.inr ⟨by show a.2.2.2.2<=1073741824;have E: ¬1073741824<a.2.2.2.2:=E;omega,s,es,ls,rfl⟩⟩⟩)
 have M:J0 (WR a)<=256:=by unfold J0;omega
 have o:=Jb i fan;unfold ZM;dsimp only;rw[if_neg (by rw[dV,eR];omega)];exact .s λB=>.inr (.inr ⟨h,⟨by omega,by omega⟩,.inl ⟨B,rfl⟩⟩)
omit hf
theorem vX.uniq{y z:vG}(h:vX a fan y)(g:vX a fan z):y=z:=by
 rcases h with⟨h1,h2⟩|⟨h1,h2,B⟩|⟨h1,h2,B⟩;rcases g with⟨j,k⟩|⟨j,_⟩|⟨j,_⟩;rw[h2,k];exact absurd j h1;exact absurd j h1;rcases g with⟨j,k⟩|⟨j,k,o⟩|⟨j,k,_⟩;exact absurd h1 j;rw[B,o];exact absurd k h2;rcases g with⟨j,k⟩|⟨j,k,o⟩|⟨j,k,o⟩;exact absurd h1 j;exact absurd h2 k;rcases B with⟨e,x⟩|⟨r,w,e,x⟩;rcases o with⟨e',n⟩|⟨r',w',e',n⟩;rw[x,n];rw[e]at e';cases e';rcases o with⟨e',n⟩|⟨r',w',e',n⟩;rw[e]at e';cases e';rw[e]at e';injection e' with e';injection e' with e1 e2;subst e1 e2;rcases x with⟨q,A⟩|⟨q,s,es,_,A⟩;rcases n with⟨q',v⟩|⟨q',_⟩;rw[A,v];omega;rcases n with⟨q',v⟩|⟨q',s',C,_,v⟩;omega;have:=es.symm.trans C;injection this with this;injection this with this _;rw[A,v,this]
end
section
def xZ(K:Int)(a:aB):Prop:=(∀f∈a.2.2.1,J0 f.2.2<=K)/\J0 a.2.2.1<=257/\J0 a.1<=16
theorem xZ.zero{K:Int}:xZ K ([],0,[],0,0):=⟨nofun,by decide,by decide⟩
theorem xZ.up{K e:Int}{a:aB}(h:xZ K a)(hk:K<=e):xZ e a:=⟨λf hf=>jB (h.1 f hf) hk,h.2⟩
theorem vX.af{K:Int}{a:aB}{fan:Int}{y:vG}(e:167968836<=K)(h:xZ K a)(o:vX a fan y):xZ K y.1/\(y.2.2=0->y.2.1=J->y.1=a)/\(y.2.2=0->y.2.1=O->y.1.2.2.2.2=a.2.2.2.2+1/\a.2.2.2.2<=1073741824):=by
 rcases o with⟨_,rfl⟩|⟨_,_,rfl⟩|⟨ok,_,⟨_,rfl⟩|⟨r,w,_,⟨_,rfl⟩|⟨hs,s,_,ls,rfl⟩⟩⟩;exact⟨.zero,λc=>absurd c _k,λc=>absurd c _k⟩;exact⟨.zero,λc=>absurd c _k,λc=>absurd c _k⟩;exact⟨h,λ_ _=>rfl,λ_ c=>(by cases c)⟩;exact⟨.zero,λc=>absurd c _k,λc=>absurd c _k⟩;have o:=Jb a.2.2.2.2 1;have:=ok.ser;refine⟨⟨λf hf=>?_,?_,h.2.2⟩,λ_ c=>(by cases c),λ_ _=>⟨by show J1 I a.2.2.2.2 1=_;omega,hs⟩⟩;rcases zQ9.1 hf with k|k;exact h.1 f (List.mem_filter.1 k).1;rw[dC.1 k];show J0 s<=K;omega;have g:=a! (λf:aM=> !decide (f.2.1∈w.map (·.2.1))) a.2.2.1;have:=ok.few;show J0 (mR _ _++_)<=257;rw[cU,cI];unfold mR J0 at*;omega
theorem VL{a:aB}(h:gZ a){i b:Int}(e:idx a.1 i=Z b):0<=b/\b<64:=by
 obtain⟨B,e⟩:=bT e;obtain⟨n,k⟩:=dT.1 e;obtain⟨_,z⟩:=bT h.zero;obtain⟨x,o⟩:=dT.1 z;have hl:=h.len;obtain⟨w,j,_⟩:=gH (l:=a.1) (i:=J0 a.1-1) oo oo;have C:=h.last w j;obtain⟨_,j⟩:=bT j;obtain⟨v,r⟩:=dT.1 j;have g:=h.asc;unfold Asc at g;have p:=_N.1 g;have y:=h.pages;have A:(J0 a.1-1).toNat+1=a.1.length:=by unfold J0 at*;omega
 constructor;rcases e9 i.toNat with c|c;have q:(0:Int)=b:=by rw[<-k,<-o];congr 1;exact c.symm
 omega;have:=p (0:Int).toNat i.toNat x n c;rw[k,o]at this;omega;rcases zQ3 i.toNat (J0 a.1-1).toNat with c|c;have:=p i.toNat (J0 a.1-1).toNat n v c;rw[k,r]at this;omega;have q:w=b:=by rw[<-k,<-r];congr 1;omega
 omega
theorem pe{a:aB}(h:gZ a){i:Int}(h0:0<=i)(h1:i<J0 a.1):_n (eH (a,i)) λy=>Ty.fit 0 0 (.i I) y.1/\Ty.fit 0 0 (.i I) y.2:=by unfold eH;dsimp only;have k:=Jb i 1;have:=h.len.2;obtain⟨w,e,_⟩:=gH (l:=a.1) h0 h1;have b:=VL h e;have g:Ty.fit 0 0 (.i I) w:=J2.2 (show -9223372036854775808<=w/\w<=9223372036854775807 by omega);refine .l (λc=>?_) λc=>.w e (.s ⟨g,fH⟩);obtain⟨n,j,_⟩:=gH (l:=a.1) (i:=J1 I i 1) oo c;exact .w j (.w e (.s ⟨g,fH⟩))
theorem JIQ{x:aF}(h:fU x):_n (kG x) λy=>J0 y.1<=167968836:=by
 obtain⟨v,j,g,hR⟩:=vv h;cases v with
 |false=>unfold kG;rw[g];exact .s _k
 |true=>obtain⟨s,e,l⟩:=jg (hR rfl) h;exact⟨_,e,l⟩
end
theorem nf{n:Int}(h0:0<=n)(h1:n<=9223372036854775807){B S:Int}:Ty.fit B S (.i I) n:=J2.2 ⟨by omega,h1⟩
theorem nx{c:Jd}{n:Int}(hn: -9223372036854775808<=n/\n<=9223372036854775807)(h:Ty.fit 16384 1073741824 J5 c)(h0:0<=c.2):_n (Jk (n,c)) λy=>(0<=y.1/\y.1<=9223372036854775807/\(1<=n->y.1<n))/\Ty.fit 16384 1073741824 J5 y.2/\0<=y.2.2:=
 (Jt (B:=16384) (S:=1073741824) (X:=(n,c)) ⟨J2.2 hn,h⟩ h0).mono λy h=>⟨⟨h.2.1,(J2.1 h.1.1).2,h.2.2.1⟩,h.1.2,h.2.2.2⟩
section
abbrev yH(c:Jd):Prop:=Ty.fit 16384 1073741824 J5 c/\0<=c.2
end
end Go.Am
end
