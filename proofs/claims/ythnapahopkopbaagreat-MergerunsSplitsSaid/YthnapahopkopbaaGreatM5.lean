/-
  Parts of a proof.
-/
import Derived.Test.YthnapahopkopbaaGreatM4
set_option linter.unusedSimpArgs false
set_option linter.unusedVariables false
section
namespace Go.Am
set_option linter.unusedVariables false
set_option maxRecDepth 20000
set_option maxHeartbeats 4000000
theorem Jgt{B S x1:Int}(h:Ty.fit B S (.i .i64) x1)(g:BS B S 0 0:=by omega):Tot (J6w x1) λy=>Ty.fit 0 0 .b y:=by
 unfold J6w;refine .ge (λe=>?_) λe=>?_
 ·exact .some trivial
 ·exact .some trivial
theorem J4Y{B S:Int}{x1:List T_api_Row}(h:Ty.fit B S (.l Jb) x1)(E:BS B S 0 0:=by omega)(L:B<=9223372036854775807:=by omega):Tot (J1u x1) λy=>Ty.fit 0 0 .b y:=by
 unfold J1u;have:J0 x1=_:=Jj h;refine .ltf (λw=>?_) λw=>?_
 ·refine .gt (λx=>?_) λx=>?_
  ·exact .some trivial
  ·refine Jd (τ:=Int) (λq=>(q,x1)) (λq=>(Ty.fit 0 0 (.i .i64) q/\0<=q/\(q<=J0 x1\/q<=0))) (λq=>J0 x1-q) ?_ 0 rfl ?_
   ·rintro e ⟨z,F,K⟩;unfold Jer
    try dsimp only
    have:=J2.1 z;refine .lt (λv=>?_) λv=>?_
    ·refine .bind (Ji h) λG g=>.bind (Jgt g.1.1) λJ C=>.nof (λn=>?_) λn=>?_
     ·refine .bind (Jgt g.1.2.1) λH A=>.nof (λk=>?_) λk=>?_
      ·refine .bind (Jgt g.1.c) λI D=>.nof (λj=>?_) λj=>?_
       ·have:=J2.1 g.1.2.1;refine .eq (λo=>?_) λo=>?_
        ·have:=J2.1 g.1.c;refine .ne (λr=>?_) λr=>?_
         ·exact .some trivial
         ·have:=Jh e 1;exact .some ⟨J1 .i64 e 1,rfl,⟨J5,om,om⟩,om,om⟩
        ·have:=Jh e 1;exact .some ⟨J1 .i64 e 1,rfl,⟨J5,om,om⟩,om,om⟩
       ·exact .some trivial
      ·exact .some trivial
     ·exact .some trivial
    ·exact .some trivial
   ·try dsimp only
    exact⟨fk0,oo,oo⟩
 ·exact .some trivial
theorem JbC{B S:Int}{x1:JoL}(h:Ty.fit B S JHi x1)(A:BS B S 0 0:=by omega)(G:B<=9223372036854775807:=by omega):Tot (J1B x1) λy=>Ty.fit 0 0 .b y:=by
 unfold J1B;have:J0 x1.1<=B:=h.1.1;have:=J3 (l:=x1.1);have:J0 x1.1=_:=Jj h.1;refine Jd (τ:=Int) (λq=>(x1.1,x1.2,q)) (λq=>(Ty.fit 0 0 (.i .i64) q/\0<=q/\(q<=J0 x1.1\/q<=0))) (λq=>J0 x1.1-q) ?_ 0 rfl ?_
 ·rintro e ⟨z,H,E⟩;unfold J69
  try dsimp only
  have:=J2.1 z;refine .lt (λx=>?_) λx=>?_
  ·refine .bind (Ji h.1) λD g=>.ltf (λr=>?_) λr=>?_
   ·have:=J2.1 h.2;refine .gef (λn=>?_) λn=>?_
    ·have:=J2.1 g.1.2.1;refine .ltf (λk=>?_) λk=>?_
     ·have:=J2.1 g.1.c;refine .gtf (λo=>?_) λo=>?_
      ·refine .gtf (λv=>?_) λv=>?_
       ·refine .gt (λw=>?_) λw=>?_
        ·have:=J0E e 1;refine .bind (Ji h.1) λF C=>.ge (λj=>?_) λj=>?_
         ·exact .some trivial
         ·have:=Jh e 1;exact .some ⟨J1 .i64 e 1,rfl,⟨J5,om,om⟩,om,om⟩
        ·have:=Jh e 1;exact .some ⟨J1 .i64 e 1,rfl,⟨J5,om,om⟩,om,om⟩
       ·exact .some trivial
      ·exact .some trivial
     ·exact .some trivial
    ·exact .some trivial
   ·exact .some trivial
  ·exact .some trivial
 ·try dsimp only
  exact⟨fk0,oo,oo⟩
theorem Jyw{B S:Int}{x1:J9}(h:Ty.fit B S J7 x1)(J:BC B S 0 0:=by omega):Tot (J4a x1) λy=>Ty.fit 0 0 .b y:=by
 unfold J4a;refine .ge (λC=>?_) λC=>?_
 ·refine .le (λD=>?_) λD=>?_
  ·have:=J2.1 h.2.1;refine .ge (λF=>?_) λF=>?_
   ·refine .le (λE=>?_) λE=>?_
    ·refine .bind ((J25 h.c.1).eqn) λT A=>.ite (λq=>?_) λq=>?_
     ·have N:=J1I h.c.1 A.2 q;refine .bind ((J3l h.d.1).eqn) λO r=>.ite (λo=>?_) λo=>?_
      ·have I:=J2p h.d.1 r.2 o;refine .bind ((J41 h.e.1).eqn) λR w=>.ite (λk=>?_) λk=>?_
       ·have K:=J3p h.e.1 w.2 k;refine .bind ((J3m h.g.1).eqn) λP z=>.ite (λn=>?_) λn=>?_
        ·have L:=J2m h.g.1 z.2 n;refine .bind ((J4Y h.h.1).eqn) λQ x=>.ite (λj=>?_) λj=>?_
         ·have G:=J46 h.h.1 x.2 j;refine .eq (λv=>?_) λv=>?_
          ·refine .bind (JbC (B:=B) (S:=S) (⟨h.i,h.1⟩)) λM H=>.some trivial
          ·exact .some trivial
         ·exact .some trivial
        ·exact .some trivial
       ·exact .some trivial
      ·exact .some trivial
     ·exact .some trivial
    ·exact .some trivial
   ·exact .some trivial
  ·exact .some trivial
 ·exact .some trivial
theorem J18{B S:Int}{x1:J9}(h:Ty.fit B S J7 x1)(T:BC B S 0 0:=by omega):Tot (JJ x1) λy=>Ty.fit 0 0 .b y:=by
 unfold JJ;refine .bind (Jyw h) λy2 h1=>.not (λK=>?_) λK=>?_
 ·exact .some trivial
 ·have:J0 x1.2.2.2.2.2.1<=B:=h.g.1.1;have:=J3 (l:=x1.2.2.2.2.2.1);have:J0 x1.2.2.2.2.2.1=_:=Jj h.g.1;refine Jd (τ:=Int) (λq=>(q,x1)) (λq=>(Ty.fit 0 0 (.i .i64) q/\0<=q/\(q<=J0 x1.2.2.2.2.2.1\/q<=0))) (λq=>J0 x1.2.2.2.2.2.1-q) ?_ 0 rfl ?_
  ·rintro o ⟨L,w7,z8⟩;unfold Jfq
   try dsimp only
   have:=J2.1 L;refine .lt (λJ=>?_) λJ=>?_
   ·refine .bind (Ji h.g.1) λy4 N=>.ge (λF=>?_) λF=>?_
    ·exact .some trivial
    ·have:=Jh o 1;exact .some ⟨J1 .i64 o 1,rfl,⟨J5,om,om⟩,om,om⟩
   ·refine .inr ?_;have:J0 x1.2.2.2.1.2.1<=B:=h.d.1.2.1.1;have:=J3 (l:=x1.2.2.2.1.2.1);have:J0 x1.2.2.2.1.2.1=_:=Jj h.d.1.2.1;refine Jd (τ:=Int) (λq=>(q,x1)) (λq=>(Ty.fit 0 0 (.i .i64) q/\0<=q/\(q<=J0 x1.2.2.2.1.2.1\/q<=0))) (λq=>J0 x1.2.2.2.1.2.1-q) ?_ 0 rfl ?_
    ·rintro k ⟨A,P,Z⟩;unfold JfR
     try dsimp only
     have:=J2.1 A;refine .lt (λv=>?_) λv=>?_
     ·refine .bind (Ji h.d.1.2.1) λy6 D=>.ge (λw=>?_) λw=>?_
      ·exact .some trivial
      ·refine .bind (J8D (B:=B) (S:=S) (⟨h,D.1.z.1.1⟩)) λy7 V=>.ite (λx=>?_) λx=>?_
       ·exact .some trivial
       ·have:=Jh k 1;exact .some ⟨J1 .i64 k 1,rfl,⟨J5,om,om⟩,om,om⟩
     ·refine .inr ?_;have:J0 x1.2.2.2.2.1.1<=B:=h.e.1.1.1;have:=J3 (l:=x1.2.2.2.2.1.1);have:J0 x1.2.2.2.2.1.1=_:=Jj h.e.1.1;refine Jd (τ:=Int) (λq=>(q,x1)) (λq=>(Ty.fit 0 0 (.i .i64) q/\0<=q/\(q<=J0 x1.2.2.2.2.1.1\/q<=0))) (λq=>J0 x1.2.2.2.2.1.1-q) ?_ 0 rfl ?_
      ·rintro n ⟨E,U,R⟩;unfold Jfa
       try dsimp only
       have:=J2.1 E;refine .lt (λH=>?_) λH=>?_
       ·refine .bind (Ji h.e.1.1) λy9 O=>.ge (λr=>?_) λr=>?_
        ·exact .some trivial
        ·have:=Jh n 1;exact .some ⟨J1 .i64 n 1,rfl,⟨J5,om,om⟩,om,om⟩
       ·refine .inr ?_;have:J0 x1.2.2.2.2.1.2<=B:=h.e.1.2.1;have:=J3 (l:=x1.2.2.2.2.1.2);have:J0 x1.2.2.2.2.1.2=_:=Jj h.e.1.2;refine Jd (τ:=Int) (λq=>(q,x1)) (λq=>(Ty.fit 0 0 (.i .i64) q/\0<=q/\(q<=J0 x1.2.2.2.2.1.2\/q<=0))) (λq=>J0 x1.2.2.2.2.1.2-q) ?_ 0 rfl ?_
        ·rintro j ⟨I,Q,M⟩;unfold Jex
         try dsimp only
         have:=J2.1 I;refine .lt (λG=>?_) λG=>?_
         ·refine .bind (Ji h.e.1.2) λY W=>.ge (λC=>?_) λC=>?_
          ·exact .some trivial
          ·have:=Jh j 1;exact .some ⟨J1 .i64 j 1,rfl,⟨J5,om,om⟩,om,om⟩
         ·exact .some trivial
        ·try dsimp only
         exact⟨fk0,oo,oo⟩
      ·try dsimp only
       exact⟨fk0,oo,oo⟩
    ·try dsimp only
     exact⟨fk0,oo,oo⟩
  ·try dsimp only
   exact⟨fk0,oo,oo⟩
section
variable {B S:Int}
def KOk(x:J9):Prop:=J0f x.2.2.1=some true/\J0g x.2.2.2.1=some true/\J1i x.2.2.2.2.1=some true/\J0W x.2.2.2.2.2.1=some true/\J1u x.2.2.2.2.2.2.1=some true/\J1B (x.2.2.2.2.2.2.2,x.1)=some true/\1<=x.1/\x.1<=64/\1<=x.2.1/\x.2.1<=1073741825/\J0 x.2.2.2.2.2.2.1=x.1
theorem JxJ{x:J9}(e:J4a x=some true):KOk x:=by
 have h:Par (J4a x) λy=>y=true->KOk x:=by unfold J4a;refine .ge (λr=>.le (λv=>.ge (λw=>.le (λC=>.bind λa ha=>.ite (λo=>.bind λb hb=>.ite (λj=>.bind λc hc=>.ite (λk=>.bind λd hd=>.ite (λB=>.bind λf hf=>.ite (λz=>.eq (λA=>.bind λg n=>.some λq=>?_) λ_=>.some nofun) λ_=>.some nofun) λ_=>.some nofun) λ_=>.some nofun) λ_=>.some nofun) λ_=>.some nofun) λ_=>.some nofun) λ_=>.some nofun) λ_=>.some nofun) λ_=>.some nofun;subst o j k B z q;exact⟨ha,hb,hc,hd,hf,n,r,v,w,C,A⟩
 exact h _ e rfl
theorem J43{x:J9}(e:JJ x=some true):KOk x:=by
 have g:Par (JJ x) λy=>y=true->KOk x:=by unfold JJ;refine .bind λa ha=>.not (λ_=>.some nofun) λc=>?_;subst c;exact λ_ _ _=>JxJ ha
 exact g _ e rfl
theorem KOk.fit{x:J9}(k:KOk x)(h:Ty.fit B S J7 x)(A:BC B S 0 0:=by omega):Ty.fit 4096 8192 J7 x:=by obtain⟨h1,h2,h3,h4,h5,w,n,r⟩:=h;obtain⟨g,y,j,z,o,v,e⟩:=k;refine⟨h1,h2,(J1I h3 g rfl).2,(J2p h4 y rfl).2.u,(J3p h5 j rfl).2.u,(J2m w z rfl).2.u,(J46 n o rfl).2.u,?_,λa ha=>r.2 a ha⟩;have q:=(JnS v e.1 e.2.1).1;show J0 x.2.2.2.2.2.2.2<=4096;omega
theorem J1h{x:J9}{y:Bool}(h:Ty.fit B S J7 x)(e:JJ x=some y)(c:y=true)(E:BC B S 0 0:=by omega):(1<=x.1/\x.1<=64/\J0 x.2.2.2.2.2.2.1=x.1/\1<=x.2.1/\x.2.1<=1073741825/\1<=x.2.2.1.1/\x.2.2.1.1<=1099511627776/\J0 x.2.2.1.2.1<=4096/\x.2.2.1.1-1<=x.2.2.1.2.2/\x.2.2.1.2.2<=x.2.2.1.1+J0 x.2.2.1.2.1-1/\1<=x.2.2.2.1.1/\x.2.2.2.1.1<=64/\J0 x.2.2.2.1.2.1<=x.2.2.2.1.1/\0<=x.2.2.2.1.2.2/\(x.2.2.2.1.2.2<J0 x.2.2.2.1.2.1\/x.2.2.2.1.2.2=0))/\Ty.fit 4096 8192 J7 x:=by subst c;have k:=J43 e;obtain⟨n,D,F,I,G,H,v,q,w,g,j⟩:=id k;obtain⟨a1,a2,a3,A,z⟩:=(J1I h.c.1 n rfl).1;obtain⟨b1,b2,r,C,o⟩:=(J2p h.d.1 D rfl).1;exact⟨⟨v,q,j,w,g,a1,a2,a3,A,z,b1,b2,r,C,o⟩,k.fit h⟩
end
theorem Jy2{B S:Int}{x1:J9}(h:Ty.fit B S J7 x1)(v:BG B S:=by omega):Tot (J8P x1) λy=>Ty.fit 8193 8192 Jr7 y:=by
 unfold J8P;refine .bind ((J18 h).eqn) λx h1=>.not (λn=>?_) λn=>?_
 ·exact .some (⟨fzr,fk0,fkn 15⟩)
 ·have v3:=J1h h h1.2 n;have j:Ty.fit 4096 8192 J7 x1:=v3.2;refine .gt (λo=>?_) λo=>?_
  ·exact .some (⟨fzr,fk0,fkn 21⟩)
  ·have q:Ty.fit 16384 1073741824 tq2 (x1.2.2.2.2.2.1,x1.2.1):=⟨j.g.1.u,j.2.1⟩;refine .bind (Jk2 q) λw k=>.ne (λr=>?_) λr=>?_
   ·exact .some (⟨fzr,fk0,k.2⟩)
   ·exact .some (⟨⟨j.1,J5,j.c.1.u,j.d.1.u,j.e.1.u,k.1.u,j.h.u⟩,J1O,fk0⟩)
theorem Jxw{B S:Int}{x1:Ju}(h:Ty.fit B S Jk x1)(g:BG B S:=by omega):Tot (J8v x1) λy=>Ty.fit B S JGa y:=by
 unfold J8v;refine .bind (Jy2 h.1) λj h1=>.ne (λe=>?_) λe=>?_
 ·exact .some (⟨⟨fzr,Ja,fk0,Ja,trivial,Ja⟩,fk0,h1.c⟩)
 ·exact .some (⟨⟨h1.1.u,h.2⟩,h1.2.1,fk0⟩)
theorem J1y{B S:Int}{x1:T_api_Entry}(h:Ty.fit B S J4 x1)(g:BS B S 0 0:=by omega):Tot (JM x1) λy=>Ty.fit 0 0 .b y:=by
 unfold JM;refine .eqf (λe=>?_) λe=>?_
 ·exact .some trivial
 ·exact .some trivial
theorem J7N{B S:Int}{x1:J04×T_api_Entry}(h:Ty.fit B S JAd x1)(F:BG B S:=by omega):Tot (J1e x1) λy=>Ty.fit 4097 8192 (.pr JQ J07) y/\(y.2.2=0->J0 y.1.2.1=J0 x1.1.2.1+1/\J0 x1.1.2.1<=4095/\0<=x1.2.2.2.2.2.2.2.1.1/\x1.2.2.2.2.2.2.2.1.1<64/\0<=x1.2.2.2.2.2.2.2.1.2.1/\x1.2.2.2.2.2.2.2.1.2.1<16):=by
 unfold J1e;refine .bind ((J25 h.1).eqn) λI h1=>.not (λr=>?_) λr=>?_
 ·have:J0 x1.1.2.1<=B:=h.1.2.1.1;exact .some ⟨(⟨fzr,fk0,fkn 26⟩),om⟩
 ·have D:=J1I h.1 h1.2 r;have:=J3 (l:=x1.1.2.1);have:J0 x1.1.2.1=_:=Jj h.1.2.1;have e:Ty.fit 4096 8192 JQ x1.1:=D.2;refine .eqf (λw=>?_) λw=>?_
  ·refine .bind (J5L e om om om) λG q=>?_;have:=J2.1 q.1;refine .eq (λA=>?_) λA=>?_
   ·have:=J2.1 h.2.z.2.2.2.2.2.2.1.1;exact .some ⟨(⟨fzr,fk0,fkn 21⟩),om⟩
   ·refine .bind (J5L e om om om) λg E=>.bind ((J2n (B:=0) (S:=S) (x1:=(J1 .i64 g 1,x1.2.2)) (⟨J5,h.2.z.2⟩)).eqn) λH v=>.not (λo=>?_) λo=>?_
    ·have:=J2.1 h.2.z.2.2.2.2.2.2.1.1;exact .some ⟨(⟨fzr,fk0,fkn 12⟩),om⟩
    ·have k:=J22 (x:=(J1 .i64 g 1,x1.2.2)) (⟨J5,h.2.z.2⟩) v.2 o;have:=Jh g 1;have:=J2.1 h.2.z.2.2.2.2.2.2.1.1;have:=J2.1 h.2.z.2.2.2.2.2.2.1.2.1;have:1<=(J1 .i64 g 1)/\(J1 .i64 g 1)<=1099511627776/\0<=x1.2.2.2.1/\x1.2.2.2.1<=1073741824/\0<=x1.2.2.2.2.1/\x1.2.2.2.2.1<(J1 .i64 g 1)/\0<=x1.2.2.2.2.2.1/\x1.2.2.2.2.2.1<(J1 .i64 g 1)/\0<=x1.2.2.2.2.2.2.1/\x1.2.2.2.2.2.2.1<(J1 .i64 g 1)/\0<=x1.2.2.2.2.2.2.2.1.1/\x1.2.2.2.2.2.2.2.1.1<64/\0<=x1.2.2.2.2.2.2.2.1.2.1/\x1.2.2.2.2.2.2.2.1.2.1<16/\J0 x1.2.2.2.2.2.2.2.1.2.2.1.2<=12/\J0 x1.2.2.2.2.2.2.2.1.2.2.2.2<=12/\J0 x1.2.2.2.2.2.2.2.2<=8192:=k.1;have j:Ty.fit 0 8192 J4 (J1 .i64 g 1,x1.2.2):=k.2;refine .clo e.2.1 oo (by decide) ?_;refine .bind (J0n (B:=4097) (Bl:=4096) (Bm:=1) (S:=8192) (J0 x1.1.2.1) 1 e.2.1 (J0d (B:=1) (S:=8192) (t:=J4) oo (j.u))) λC n=>?_;have:J0 C=_:=Jj n.1;exact .some ⟨(⟨⟨e.1,n.1,e.c⟩,j.1,fk0⟩),om⟩
  ·have:=J2.1 h.2.z.2.2.2.2.2.2.1.1;exact .some ⟨(⟨fzr,fk0,fkn 21⟩),om⟩
theorem J3E{B S:Int}{x1:J6M}(h:Ty.fit B S tq8 x1)(q:BC B S 0 0:=by omega):Tot (J0I x1) λy=>Ty.fit 0 8192 JMx y:=by
 unfold J0I;refine .bind ((J25 h.1).eqn) λv h1=>.not (λg=>?_) λg=>?_
 ·exact .some (⟨⟨fk0,fk0,fk0,fk0,fk0,fk0,⟨fk0,fk0,⟨trivial,Jc⟩,trivial,Jc⟩,Jc⟩,fkn 26⟩)
 ·have v3:=J1I h.1 h1.2 g;have:=J3 (l:=x1.1.2.1);have:J0 x1.1.2.1=_:=Jj h.1.2.1;have e:Ty.fit 4096 8192 JQ x1.1:=v3.2;refine .ltf (λj=>?_) λj=>?_
  ·refine .bind (J5L e om om om) λr o=>.gt (λk=>?_) λk=>?_
   ·exact .some (⟨⟨fk0,fk0,fk0,fk0,fk0,fk0,⟨fk0,fk0,⟨trivial,Jc⟩,trivial,Jc⟩,Jc⟩,fkn 14⟩)
   ·have:=J0E x1.2 x1.1.1;refine .bind (Ji e.2.1) λw n=>.some (⟨n.1.z,fk0⟩)
  ·exact .some (⟨⟨fk0,fk0,fk0,fk0,fk0,fk0,⟨fk0,fk0,⟨trivial,Jc⟩,trivial,Jc⟩,Jc⟩,fkn 14⟩)
theorem JEe{B S:Int}{x1:(List T_api_Row)×Int×T_api_Row}(h:Ty.fit B S (.pr (.l Jb) (.pr (.i .i64) Jb)) x1)(p0:0<=x1.2.1)(g:x1.2.1<J0 x1.1)(e:BS B S 0 0:=by omega)(k:B<=34359738368:=by omega):Tot (Jb5 x1) λy=>Ty.fit B S (.l Jb) y/\(J0 y=J0 x1.1):=by unfold Jb5;have:J0 x1.1=_:=Jj h.1;refine .clo h.1 oo (by decide) ?_;refine .bind (J5j (l:=x1.1)) λ_ _=>.bind (Jcm h.1) λn j=>?_;have:J0 (J0t x1.1 (Int.toNat x1.2.1) x1.2.2)=J0 x1.1:=J5z;exact .some ⟨(J3W (t:=Jb) (i:=Int.toNat x1.2.1) (x:=x1.2.2) h.1 h.c),om⟩
theorem J4x{B S:Int}{x1:JHA}(h:Ty.fit B S Jve x1)(E:BG B S:=by omega):Tot (J2I x1) λy=>Ty.fit 64 0 JHi y:=by
 unfold J2I;refine .bind ((J4Y h.1).eqn) λH h1=>.not (λr=>?_) λr=>?_
 ·exact .some (⟨Ja,fkn 28⟩)
 ·have v3:=J46 h.1 h1.2 r;have:J0 x1.1=_:=Jj h.1;have n:Ty.fit 64 0 (.l Jb) x1.1:=v3.2;refine .bind ((J2n (B:=0) (S:=S) (x1:=x1.2) h.2.z).eqn) λF D=>.not (λj=>?_) λj=>?_
  ·exact .some (⟨Ja,fkn 12⟩)
  ·have A:=J22 (x:=x1.2) h.2.z D.2 j;have k:Ty.fit 0 8192 J4 x1.2:=A.2;refine .ne (λv=>?_) λv=>?_
   ·exact .some (⟨n,fk0⟩)
   ·refine .ge (λo=>?_) λo=>?_
    ·exact .some (⟨Ja,fkn 1⟩)
    ·refine .bind (Ji n) λG e=>.bind (JEe (B:=64) (S:=0) (⟨n,k.h.1.1,J3Q e.1.1 k.g.1,e.1.2⟩) om om) λC w=>?_;have q:Ty.fit 64 0 (.l Jb) C:=w.1.u;exact .some (⟨q,fk0⟩)
theorem J2F{B S:Int}{x1:J2g}(h:Ty.fit B S tq2 x1)(g:BS B S 0 0:=by omega)(j:B<=9223372036854775807:=by omega):Tot (J0L x1) λy=>Ty.fit 0 0 (.i .i64) y/\(-1<=y/\y<J0 x1.1):=by unfold J0L;refine .bind (J9t (B:=B) (S:=S) (h)) λe h1=>?_;have: -1<=e/\e<J0 x1.1:=h1.2;exact .some ⟨h1.1,om⟩
theorem JaI{B S:Int}{x1:J2g}(h:Ty.fit B S tq2 x1)(A:BH B S:=by omega)(H:B<=34359738368:=by omega):Tot (J4t x1) λy=>Ty.fit B S (.l Jl) y:=by
 unfold J4t;have:J0 x1.1<=B:=h.1.1;have:=J3 (l:=x1.1);have:J0 x1.1=_:=Jj h.1;refine Jd (τ:=Int×(List Js)) (λq=>(x1.1,x1.2,q.1,q.2)) (λq=>(Ty.fit 0 0 (.i .i64) q.1/\0<=q.1/\(q.1<=J0 x1.1\/q.1<=0))/\(Ty.fit B S (.l Jl) q.2/\J0 q.2<=1*q.1+0)) (λq=>J0 x1.1-q.1) ?_ (0,[]) rfl ?_
 ·rintro⟨g,e⟩ n;dsimp only at n;obtain⟨⟨x,C,G⟩,j,D⟩:=n;unfold JdO
  try dsimp only
  have:=J2.1 x;refine .lt (λw=>?_) λw=>?_
  ·refine .bind (Ji h.1) λE z=>.ne (λo=>?_) λo=>?_
   ·refine .bind (Ji h.1) λF v=>?_;have:J0 e<=B:=j.1;have:J0 e=_:=Jj j;refine .bind (J0n (B:=B) (Bl:=B) (Bm:=B) (S:=S) (J0 e) 1 j (J0d (B:=B) (S:=S) (t:=Jl) oo v.1)) λr k=>?_;have:=Jh g 1;have:J0 r=_:=Jj k.1;exact .some ⟨(J1 .i64 g 1,r),rfl,⟨⟨J5,om,om⟩,k.1,om⟩,om,om⟩
   ·have:=Jh g 1;have:J0 e=_:=Jj j;exact .some ⟨(J1 .i64 g 1,e),rfl,⟨⟨J5,om,om⟩,j,om⟩,om,om⟩
  ·exact .some j
 ·have:J0 ([]:List Js)=0:=rfl
  try dsimp only
  exact⟨⟨fk0,oo,oo⟩,Ja,oo⟩
theorem J8p{B S:Int}{x1:(List Js)×Int×Js}(h:Ty.fit B S (.pr (.l Jl) (.pr (.i .i64) Jl)) x1)(p0:0<=x1.2.1)(g:x1.2.1<J0 x1.1)(e:BS B S 0 0:=by omega)(k:B<=34359738368:=by omega):Tot (J2G x1) λy=>Ty.fit B S (.l Jl) y/\(J0 y=J0 x1.1):=by unfold J2G;have:J0 x1.1=_:=Jj h.1;refine .clo h.1 oo (by decide) ?_;refine .bind (J5j (l:=x1.1)) λ_ _=>.bind (Jcm h.1) λn j=>?_;have:J0 (J0t x1.1 (Int.toNat x1.2.1) x1.2.2)=J0 x1.1:=J5z;exact .some ⟨(J3W (t:=Jl) (i:=Int.toNat x1.2.1) (x:=x1.2.2) h.1 h.c),om⟩
theorem J7J{B S:Int}{x1:Js}(h:Ty.fit B S Jl x1)(n:BS B S 0 0:=by omega)(q:B<=9223372036854775807:=by omega):Tot (J2a x1) λy=>Ty.fit B S Jl y:=by
 unfold J2a;refine .eq (λk=>?_) λk=>?_
 ·have:J0 x1.2.2.2.2.1<=B:=h.e.1.1;have:=J3 (l:=x1.2.2.2.2.1);refine .eqf (λg=>?_) λg=>?_
  ·have:=J0E (J0 x1.2.2.2.2.1) 1;refine .bind (Ji h.e.1) λr o=>.le (λj=>?_) λj=>?_
   ·exact .some (⟨h.1,fkn 1,h.c.1,fk0,h.e⟩)
   ·exact .some h
  ·exact .some (⟨h.1,fkn 1,h.c.1,fk0,h.e⟩)
 ·exact .some h
theorem J4K{B S:Int}{x1:(List Js)×T_api_Entry}(h:Ty.fit B S Jv8 x1)(aq:BG B S:=by omega):Tot (J0A x1) λy=>Ty.fit 16384 1073741824 tq2 y:=by
 unfold J0A;refine .bind ((J3m h.1).eqn) λy2 h1=>.not (λV=>?_) λV=>?_
 ·exact .some (⟨Ja,fkn 15⟩)
 ·have v3:=J2m h.1 h1.2 V;have:J0 x1.1=_:=Jj h.1;have w:Ty.fit 4096 0 (.l Jl) x1.1:=v3.2;refine .bind ((J2n (B:=0) (S:=S) (x1:=x1.2) h.2.z).eqn) λy3 h9=>.not (λC=>?_) λC=>?_
  ·exact .some (⟨Ja,fkn 12⟩)
  ·have aa:=J22 (x:=x1.2) h.2.z h9.2 C;have o:Ty.fit 0 8192 J4 x1.2:=aa.2;refine .eq (λa6=>?_) λa6=>?_
   ·exact .some (⟨w.u,fk0⟩)
   ·refine .bind (J9t (B:=4096) (S:=0) (⟨w,o.c.1⟩)) λF v=>?_;have:=J2.1 v.1;have: -1<=F/\F<J0 x1.1:=v.2;refine .lt (λI=>?_) λI=>?_
    ·exact .some (⟨Ja,fkn 16⟩)
    ·refine .bind (Ji w) λr j=>.ne (λa2=>?_) λa2=>?_
     ·exact .some (⟨Ja,fkn 13⟩)
     ·have:=J2.1 o.2.1;refine .eq (λK=>?_) λK=>?_
      ·refine .clo j.1.e.1 oo (by decide) ?_;have:J0 r.2.2.2.2.1<=4096:=j.1.e.1.1;have:=J3 (l:=r.2.2.2.2.1);refine .bind (J0n (B:=4097) (Bl:=4096) (Bm:=1) (S:=0) (J0 r.2.2.2.2.1) 1 j.1.e.1 (J0d (B:=1) (S:=0) (t:=(.i .i64)) oo o.1)) λy7 af=>.bind (J7J (B:=4097) (S:=0) (⟨j.1.1,j.1.2.1,o.1,j.1.d.1,af.1,j.1.g.u⟩)) λy8 Z=>?_;have a4:Ty.fit 4097 0 Jl y8:=Z.u;refine .bind (J8p (B:=4097) (S:=0) (⟨w.u,v.1,a4⟩) om om) λy9 a8=>?_;have G:Ty.fit 4097 0 (.l Jl) y9:=a8.1.u;exact .some (⟨G.u,fk0⟩)
      ·refine .eq (λY=>?_) λY=>?_
       ·have:J0 r.2.2.2.2.1<=4096:=j.1.e.1.1;have:=J3 (l:=r.2.2.2.2.1);refine Jd (τ:=JyY) (λq=>(x1.1,F,q.1,x1.2,(r.1,r.2.1,x1.2.1,r.2.2.2),q.2)) (λq=>(Ty.fit 0 0 (.i .i64) q.1/\0<=q.1/\(q.1<=J0 r.2.2.2.2.1\/q.1<=0))/\(Ty.fit 4096 0 (.l (.i .i64)) q.2/\J0 q.2<=1*q.1+0)) (λq=>J0 r.2.2.2.2.1-q.1) ?_ (0,[]) rfl ?_
        ·rintro⟨k,n⟩ D;dsimp only at D;obtain⟨⟨U,al,ap⟩,A,ak⟩:=D;unfold Jip
         try dsimp only
         have:=J2.1 U;refine .lt (λW=>?_) λW=>?_
         ·refine .bind (Ji j.1.e.1) λao an=>.ne (λab=>?_) λab=>?_
          ·refine .bind (Ji j.1.e.1) λam ac=>?_;have:J0 n<=4096:=A.1;have:=J3 (l:=n);refine .bind (J0n (B:=4096) (Bl:=4096) (Bm:=1) (S:=0) (J0 n) 1 A (J0d (B:=1) (S:=0) (t:=(.i .i64)) oo ac.1)) λO a9=>?_;have:=Jh k 1;exact .some ⟨(J1 .i64 k 1,O),rfl,⟨⟨J5,om,om⟩,a9.1,om⟩,om,om⟩
          ·have:=Jh k 1;exact .some ⟨(J1 .i64 k 1,n),rfl,⟨⟨J5,om,om⟩,A,om⟩,om,om⟩
         ·refine .inr ?_;refine .eq (λL=>?_) λL=>?_
          ·exact .some (⟨Ja,fkn 13⟩)
          ·refine .bind (J7J (B:=4096) (S:=0) (⟨j.1.1,j.1.2.1,o.1,j.1.d.1,A,j.1.g⟩)) λa3 a0=>?_;have H:Ty.fit 4096 0 Jl a3:=a0.u;refine .bind (J8p (B:=4096) (S:=0) (⟨w,v.1,H⟩) om om) λP ae=>?_;have ad:Ty.fit 4096 0 (.l Jl) P:=ae.1.u;exact .some (⟨ad.u,fk0⟩)
        ·have:J0 ([]:List Int)=0:=rfl
         try dsimp only
         exact⟨⟨fk0,oo,oo⟩,Ja,oo⟩
       ·refine .eq (λQ=>?_) λQ=>?_
        ·refine .bind (J7J (B:=4096) (S:=0) (⟨j.1.1,fkn 3,o.1,fk0,j.1.e.1,Ja⟩)) λa5 a7=>?_;have J:Ty.fit 4096 0 Jl a5:=a7.u;refine .bind (J8p (B:=4096) (S:=0) (⟨w,v.1,J⟩) om om) λR M=>?_;have N:Ty.fit 4096 0 (.l Jl) R:=M.1.u;exact .some (⟨N.u,fk0⟩)
        ·have ag:Ty.fit 16384 1073741824 tq2 (x1.1,x1.2.2.2.1):=⟨w.u,o.c.1⟩;refine .bind (JaI ag) λT a1=>?_;have E:Ty.fit 16384 1073741824 (.l Jl) T:=a1.u;exact .some (⟨E,fk0⟩)
theorem J4H{B S:Int}{x1:J6K}(h:Ty.fit B S tq7 x1)(o:BS B S 0 0:=by omega)(w:B<=9223372036854775807:=by omega):Tot (J1A x1) λy=>Ty.fit 0 0 (.i .i64) y/\(-1<=y/\y<J0 x1.1.2.1):=by
 unfold J1A;have:J0 x1.1.2.1<=B:=h.1.2.1.1;have:=J3 (l:=x1.1.2.1);have:J0 x1.1.2.1=_:=Jj h.1.2.1;refine Jd (τ:=Int) (λq=>(x1.2,q,x1.1)) (λq=>(Ty.fit 0 0 (.i .i64) q/\0<=q/\(q<=J0 x1.1.2.1\/q<=0))) (λq=>J0 x1.1.2.1-q) ?_ 0 rfl ?_
 ·rintro e ⟨g,x,v⟩;unfold J7r
  try dsimp only
  have:=J2.1 g;refine .lt (λk=>?_) λk=>?_
  ·refine .bind (Ji h.1.2.1) λr n=>.eq (λj=>?_) λj=>?_
   ·exact .some ⟨g,om⟩
   ·have:=Jh e 1;exact .some ⟨J1 .i64 e 1,rfl,⟨J5,om,om⟩,om,om⟩
  ·exact .some ⟨(fkn (-1)),om⟩
 ·try dsimp only
  exact⟨fk0,oo,oo⟩
theorem J4C{B S:Int}{x1:J6K}(h:Ty.fit B S tq7 x1)(o:BC B S 0 0:=by omega):Tot (J1k x1) λy=>Ty.fit 0 0 (.i .i64) y/\(-1<=y/\y<J0 x1.1.2.1):=by
 unfold J1k;refine .bind ((J3l h.1).eqn) λq h1=>.not (λg=>?_) λg=>?_
 ·have:J0 x1.1.2.1<=B:=h.1.2.1.1;have:=J3 (l:=x1.1.2.1);have:J0 x1.1.2.1=_:=Jj h.1.2.1;exact .some ⟨(fkn (-1)),om⟩
 ·have n:=J2p h.1 h1.2 g;have j:Ty.fit 64 12 JI x1.1:=n.2;refine .bind (J4H (B:=64) (S:=12) (⟨j,h.2⟩)) λk e=>?_;have: -1<=k/\k<J0 x1.1.2.1:=e.2;exact .some ⟨e.1,om⟩
theorem J8q{B S:Int}{x1:J6K}(h:Ty.fit B S tq7 x1)(k:BC B S 0 0:=by omega):Tot (J2J x1) λy=>Ty.fit 0 S (.pr Jr .b) y:=by
 unfold J2J;refine .bind ((J4C (B:=B) (S:=S) (x1:=(x1.1,x1.2)) (h)).eqn) λe h1=>?_;have:=J2.1 h1.1.1;have:J0 x1.1.2.1=_:=Jj h.1.2.1;have: -1<=e/\e<J0 x1.1.2.1:=h1.1.2;refine .lt (λj=>?_) λj=>?_
 ·exact .some (⟨⟨fk0,fk0,J0c oo oo (.ar 16 JE)⟩,trivial⟩)
 ·refine .bind (Ji h.1.2.1) λn g=>.some (⟨g.1.z.1,trivial⟩)
theorem J72{B S:Int}{x1:J1F}(h:Ty.fit B S tq1 x1)(z:BG B S:=by omega):Tot (J3J x1) λy=>Ty.fit 0 0 (.i .i64) y:=by
 unfold J3J;refine .bind ((J18 h.1).eqn) λD h1=>.nof (λn=>?_) λn=>?_
 ·have v3:=J1h h.1 h1.2 n;have:J0 x1.1.2.2.2.2.2.2.1=_:=Jj h.1.h.1;have e:Ty.fit 4096 8192 J7 x1.1:=v3.2;have:=J2.1 h.2;refine .ltf (λw=>?_) λw=>?_
  ·refine .ge (λv=>?_) λv=>?_
   ·exact .some fk0
   ·refine .bind (J8q (B:=4096) (S:=8192) (⟨e.d.1,h.2⟩)) λx r=>?_;have j:Ty.fit 0 8192 (.pr Jr .b) x:=r.u;refine .ite (λg=>?_) λg=>?_
    ·exact .some j.1.2.1
    ·refine .bind (J8D (B:=4096) (S:=8192) (⟨e,h.2⟩)) λC k=>.ite (λq=>?_) λq=>?_
     ·exact .some k.1.c
     ·refine .bind (Ji e.h.1) λA o=>.some o.1.1
  ·exact .some fk0
 ·exact .some fk0
theorem J4p{B S:Int}{x1:JtI}(h:Ty.fit B S JBT x1)(b1:BG B S:=by omega):Tot (J1b x1) λy=>Ty.fit 16384 1073741824 Jr7 y/\(y.2.2=0->J0 y.1.2.2.1.2.1=J0 x1.1.2.2.1.2.1+1/\J0 x1.1.2.2.1.2.1<=4095/\0<=x1.2.2.2.2.2.2.2.1.1/\x1.2.2.2.2.2.2.2.1.1<64/\0<=x1.2.2.2.2.2.2.2.1.2.1/\x1.2.2.2.2.2.2.2.1.2.1<16):=by
 unfold J1b;refine .bind ((J18 h.1).eqn) λy2 h1=>.not (λc2=>?_) λc2=>?_
 ·have:J0 x1.1.2.2.1.2.1<=B:=h.1.c.1.2.1.1;exact .some ⟨(⟨fzr,fk0,fkn 15⟩),om⟩
 ·have v8:=J1h h.1 h1.2 c2;have:=J3 (l:=x1.1.2.2.1.2.1);have:J0 x1.1.2.2.1.2.1=_:=Jj h.1.c.1.2.1;have j:Ty.fit 4096 8192 J7 x1.1:=v8.2;refine .gt (λao=>?_) λao=>?_
  ·refine .bind ((J2F (B:=4096) (S:=8192) (x1:=(x1.1.2.2.2.2.2.1,x1.2.2.2.1)) (⟨j.g.1,h.2.z.2.2.1⟩)).eqn) λy3 K=>?_;have:=J2.1 K.1.1;have:J0 x1.1.2.2.2.2.2.1=_:=Jj j.g.1;have: -1<=y3/\y3<J0 x1.1.2.2.2.2.2.1:=K.1.2;refine .lt (λap=>?_) λap=>?_
   ·have:=J2.1 h.2.z.2.2.2.2.2.2.1.1;exact .some ⟨(⟨fzr,fk0,fkn 16⟩),om⟩
   ·refine .bind (Ji j.g.1) λy4 w=>.bind (J1y (B:=0) (S:=S) (⟨h.2.z.1,h.2.z.2.1,h.2.z.2.2.1,w.1.c.1,fk0,h.2.z.2.2.2.2.2⟩)) λy5 b2=>.ite (λag=>?_) λag=>?_
    ·have ad:Ty.fit 16384 1073741824 tq1 (x1.1,x1.2.2.2.2.2.2.2.1.1):=⟨j.u,h.2.z.2.2.2.2.2.2.1.1⟩;refine .bind (J72 ad) λy6 aq=>?_;have a5:Ty.fit 16384 S JAd (x1.1.2.2.1,x1.2.1,x1.2.2.1,x1.2.2.2.1,y4.2.2.1,y6,x1.2.2.2.2.2.2):=⟨j.c.1.u,h.2.z.1,h.2.z.2.1,h.2.z.2.2.1,w.1.c.1,aq,h.2.z.2.2.2.2.2.u⟩;refine .bind (J7N a5) λZ q=>?_;have:J0 Z.1.2.1=_:=Jj q.1.1.2.1;have:=J2.1 h.2.z.2.2.2.2.2.2.1.1;have:=J2.1 h.2.z.2.2.2.2.2.2.1.2.1;have:Z.2.2=0->J0 Z.1.2.1=J0 x1.1.2.2.1.2.1+1/\J0 x1.1.2.2.1.2.1<=4095/\0<=x1.2.2.2.2.2.2.2.1.1/\x1.2.2.2.2.2.2.2.1.1<64/\0<=x1.2.2.2.2.2.2.2.1.2.1/\x1.2.2.2.2.2.2.2.1.2.1<16:=q.2;refine .ne (λa9=>?_) λa9=>?_
     ·exact .some ⟨(⟨fzr,fk0,q.1.c⟩),om⟩
     ·refine .bind (J3E (B:=4097) (S:=8192) (⟨q.1.1,q.1.2.1⟩)) λy8 L=>?_;have a8:Ty.fit 16384 1073741824 Jv8 (x1.1.2.2.2.2.2.1,y8.1):=⟨j.g.1.u,L.1.u⟩;refine .bind (J4K a8) λy9 N=>.ne (λan=>?_) λan=>?_
      ·exact .some ⟨(⟨fzr,fk0,N.2⟩),om⟩
      ·have ae:Ty.fit 16384 1073741824 Jve (x1.1.2.2.2.2.2.2.1,y8.1):=⟨j.h.1.u,L.1.u⟩;refine .bind (J4x ae) λb0 G=>.ne (λak=>?_) λak=>?_
       ·exact .some ⟨(⟨fzr,fk0,G.2⟩),om⟩
       ·exact .some ⟨(⟨⟨j.1,j.2.1,q.1.1.u,j.d.1.u,j.e.1.u,N.1,G.1.u,j.i.u⟩,q.1.2.1,fk0⟩),om⟩
    ·have a6:Ty.fit 16384 S JAd (x1.1.2.2.1,x1.2.1,x1.2.2.1,x1.2.2.2.1,y4.2.2.1,0,x1.2.2.2.2.2.2):=⟨j.c.1.u,h.2.z.1,h.2.z.2.1,h.2.z.2.2.1,w.1.c.1,fk0,h.2.z.2.2.2.2.2.u⟩;refine .bind (J7N a6) λr n=>?_;have:J0 r.1.2.1=_:=Jj n.1.1.2.1;have:=J2.1 h.2.z.2.2.2.2.2.2.1.1;have:=J2.1 h.2.z.2.2.2.2.2.2.1.2.1;have:r.2.2=0->J0 r.1.2.1=J0 x1.1.2.2.1.2.1+1/\J0 x1.1.2.2.1.2.1<=4095/\0<=x1.2.2.2.2.2.2.2.1.1/\x1.2.2.2.2.2.2.2.1.1<64/\0<=x1.2.2.2.2.2.2.2.1.2.1/\x1.2.2.2.2.2.2.2.1.2.1<16:=n.2;refine .ne (λa7=>?_) λa7=>?_
     ·exact .some ⟨(⟨fzr,fk0,n.1.c⟩),om⟩
     ·refine .bind (J3E (B:=4097) (S:=8192) (⟨n.1.1,n.1.2.1⟩)) λF I=>?_;have av:Ty.fit 16384 1073741824 Jv8 (x1.1.2.2.2.2.2.1,F.1):=⟨j.g.1.u,I.1.u⟩;refine .bind (J4K av) λb8 P=>.ne (λah=>?_) λah=>?_
      ·exact .some ⟨(⟨fzr,fk0,P.2⟩),om⟩
      ·have ac:Ty.fit 16384 1073741824 Jve (x1.1.2.2.2.2.2.2.1,F.1):=⟨j.h.1.u,I.1.u⟩;refine .bind (J4x ac) λb4 M=>.ne (λab=>?_) λab=>?_
       ·exact .some ⟨(⟨fzr,fk0,M.2⟩),om⟩
       ·exact .some ⟨(⟨⟨j.1,j.2.1,n.1.1.u,j.d.1.u,j.e.1.u,P.1,M.1.u,j.i.u⟩,n.1.2.1,fk0⟩),om⟩
  ·refine .bind (J1y (B:=0) (S:=S) (⟨h.2.z.1,h.2.z.2.1,h.2.z.2.2.1,fk0,fk0,h.2.z.2.2.2.2.2⟩)) λb6 b5=>.ite (λai=>?_) λai=>?_
   ·have aj:Ty.fit 16384 1073741824 tq1 (x1.1,x1.2.2.2.2.2.2.2.1.1):=⟨j.u,h.2.z.2.2.2.2.2.2.1.1⟩;refine .bind (J72 aj) λaw am=>?_;have au:Ty.fit 16384 S JAd (x1.1.2.2.1,x1.2.1,x1.2.2.1,x1.2.2.2.1,0,aw,x1.2.2.2.2.2.2):=⟨j.c.1.u,h.2.z.1,h.2.z.2.1,h.2.z.2.2.1,fk0,am,h.2.z.2.2.2.2.2.u⟩;refine .bind (J7N au) λA o=>?_;have:J0 A.1.2.1=_:=Jj o.1.1.2.1;have:=J2.1 h.2.z.2.2.2.2.2.2.1.1;have:=J2.1 h.2.z.2.2.2.2.2.2.1.2.1;have:A.2.2=0->J0 A.1.2.1=J0 x1.1.2.2.1.2.1+1/\J0 x1.1.2.2.1.2.1<=4095/\0<=x1.2.2.2.2.2.2.2.1.1/\x1.2.2.2.2.2.2.2.1.1<64/\0<=x1.2.2.2.2.2.2.2.1.2.1/\x1.2.2.2.2.2.2.2.1.2.1<16:=o.2;refine .ne (λaa=>?_) λaa=>?_
    ·exact .some ⟨(⟨fzr,fk0,o.1.c⟩),om⟩
    ·refine .bind (J3E (B:=4097) (S:=8192) (⟨o.1.1,o.1.2.1⟩)) λH E=>?_;have af:Ty.fit 16384 1073741824 Jv8 (x1.1.2.2.2.2.2.1,H.1):=⟨j.g.1.u,E.1.u⟩;refine .bind (J4K af) λb7 O=>.ne (λal=>?_) λal=>?_
     ·exact .some ⟨(⟨fzr,fk0,O.2⟩),om⟩
     ·have U:Ty.fit 16384 1073741824 Jve (x1.1.2.2.2.2.2.2.1,H.1):=⟨j.h.1.u,E.1.u⟩;refine .bind (J4x U) λba Q=>.ne (λR=>?_) λR=>?_
      ·exact .some ⟨(⟨fzr,fk0,Q.2⟩),om⟩
      ·exact .some ⟨(⟨⟨j.1,j.2.1,o.1.1.u,j.d.1.u,j.e.1.u,O.1,Q.1.u,j.i.u⟩,o.1.2.1,fk0⟩),om⟩
   ·have a1:Ty.fit 16384 S JAd (x1.1.2.2.1,x1.2.1,x1.2.2.1,x1.2.2.2.1,0,0,x1.2.2.2.2.2.2):=⟨j.c.1.u,h.2.z.1,h.2.z.2.1,h.2.z.2.2.1,fk0,fk0,h.2.z.2.2.2.2.2.u⟩;refine .bind (J7N a1) λC k=>?_;have:J0 C.1.2.1=_:=Jj k.1.1.2.1;have:=J2.1 h.2.z.2.2.2.2.2.2.1.1;have:=J2.1 h.2.z.2.2.2.2.2.2.1.2.1;have:C.2.2=0->J0 C.1.2.1=J0 x1.1.2.2.1.2.1+1/\J0 x1.1.2.2.1.2.1<=4095/\0<=x1.2.2.2.2.2.2.2.1.1/\x1.2.2.2.2.2.2.2.1.1<64/\0<=x1.2.2.2.2.2.2.2.1.2.1/\x1.2.2.2.2.2.2.2.1.2.1<16:=k.2;refine .ne (λV=>?_) λV=>?_
    ·exact .some ⟨(⟨fzr,fk0,k.1.c⟩),om⟩
    ·refine .bind (J3E (B:=4097) (S:=8192) (⟨k.1.1,k.1.2.1⟩)) λJ D=>?_;have W:Ty.fit 16384 1073741824 Jv8 (x1.1.2.2.2.2.2.1,J.1):=⟨j.g.1.u,D.1.u⟩;refine .bind (J4K W) λb9 x=>.ne (λa0=>?_) λa0=>?_
     ·exact .some ⟨(⟨fzr,fk0,x.2⟩),om⟩
     ·have Y:Ty.fit 16384 1073741824 Jve (x1.1.2.2.2.2.2.2.1,J.1):=⟨j.h.1.u,D.1.u⟩;refine .bind (J4x Y) λb3 v=>.ne (λT=>?_) λT=>?_
      ·exact .some ⟨(⟨fzr,fk0,v.2⟩),om⟩
      ·exact .some ⟨(⟨⟨j.1,j.2.1,k.1.1.u,j.d.1.u,j.e.1.u,x.1,v.1.u,j.i.u⟩,k.1.2.1,fk0⟩),om⟩
section
variable {B S:Int}
theorem JHF{l:List Js}{i:Int}{x y:Js}(hi:idx l i=some y)(hx:x.1=y.1)(id:Int):J0L (J0t l i.toNat x,id)=J0L (l,id):=by
 have e: ∀z:JtV,z.1=l-> ∀n r,J1R J1L n z=some r↔J1R J1L n (J0t l i.toNat x,z.2)=some r:=by
  intro z hz n
  induction n generalizing z with
  |zero=>intro r;simp[J1R]
  |succ n ih=>
   intro r;obtain⟨g,id,k⟩:=z;dsimp only at hz;subst hz;obtain⟨C,j⟩:=J3L hi;have B:i.toNat<g.length:=(J6y.1 j).1;have step:J1L (J0t g i.toNat x,id,k)=(match J1L (g,id,k)with|none=>none|some (.inl z)=>some (.inl (J0t g i.toNat x,z.2))|some (.inr y)=>some (.inr y))/\(∀z,J1L (g,id,k)=some (.inl z)->z.1=g):=by
    unfold J1L;dsimp only;rw[show J0 (J0t g i.toNat x)=J0 g from J5z];by_cases hk:ltI k (J0 g)=true
    ·rw[if_pos hk,if_pos hk];have e1:(idx (J0t g i.toNat x) k).bind (λv=>if eqI v.1 id=true then(some (.inr k):Option ((JtV)⊕Int))else some (.inl (J0t g i.toNat x,id,J1 .i64 k 1)))=(idx g k).bind (λv=>if eqI v.1 id=true then some (.inr k)else some (.inl (J0t g i.toNat x,id,J1 .i64 k 1))):=by
      unfold idx J0t;by_cases h:0<=k
      ·rw[if_pos h,if_pos h,List.getElem?_set];by_cases A:i.toNat=k.toNat
       ·rw[if_pos A,if_pos oo,<-A,j];show(if eqI x.1 id=true then _ else _)=(if eqI y.1 id=true then _ else _);rw[hx]
       ·rw[if_neg A]
      ·rw[if_neg h,if_neg h]
     rw[e1];cases hidx:idx g k with
     |none=>exact⟨rfl,λz h=>by cases h⟩
     |some w=>
      show((if eqI w.1 id=true then _ else _)=_)/\_;by_cases hw:eqI w.1 id=true
      ·refine⟨by rw[if_pos hw,JK,if_pos hw],λz h=>?_⟩;rw[JK,if_pos hw]at h;injection h with h;cases h
      ·refine⟨by rw[if_neg hw,JK,if_neg hw],λz h=>?_⟩;rw[JK,if_neg hw]at h;injection h with h;injection h with h;subst h;rfl
    ·rw[if_neg hk,if_neg hk];exact⟨rfl,λz h=>by cases h⟩
   show J1R J1L (n+1) (g,id,k)=some r↔J1R J1L (n+1) (J0t g i.toNat x,id,k)=some r;simp only[J1R];rw[step.1];cases hL:J1L (g,id,k)with
   |none=>exact Iff.rfl
   |some o=>
    cases o with
    |inl z=>exact ih z (step.2 z hL) r
    |inr y=>exact Iff.rfl
 have q: ∀r,J1l (J0t l i.toNat x,id)=some r↔J1l (l,id)=some r:=by intro r;unfold J1l;rw[J2e,J2e];exact⟨fun⟨n,h⟩=>⟨n,(e (l,id,0) rfl n r).2 h⟩,fun⟨n,h⟩=>⟨n,(e (l,id,0) rfl n r).1 h⟩⟩
 have e2:J1l (J0t l i.toNat x,id)=J1l (l,id):=by
  cases h:J1l (l,id)with
  |some r=>exact(q r).2 h
  |none=>
   cases h2:J1l (J0t l i.toNat x,id)with
   |none=>rfl
   |some r=>rw[(q r).1 h2]at h;cases h
 unfold J0L
 try dsimp only
 rw[e2]
theorem Jun{x y:Js}(e:J2a x=some y):y.1=x.1:=by
 have g:Par (J2a x) λy=>y.1=x.1:=by unfold J2a;exact .eq (λ_=>.eqf (λ_=>.bind λ_ _=>.le (λ_=>.some rfl) λ_=>.some rfl) λ_=>.some rfl) λ_=>.some rfl
 exact g _ e
theorem JDm{l r:List Js}{i:Int}{x:Js}(e:J2G (l,i,x)=some r):r=J0t l i.toNat x:=by
 have g:Par (J2G (l,i,x)) λr=>r=J0t l i.toNat x:=by
  unfold J2G;refine .bind λa ha=>.bind λ_ _=>.bind λ_ _=>.some ?_;dsimp only at ha;unfold J1T at ha;split at ha
  ·injection ha with ha;subst ha;rfl
  ·cases ha
 exact g _ e
theorem JD0{l:List Js}{x:T_api_Entry}{y:J2g}(e:J0A (l,x)=some y)(h4:x.2.1=4)(j: ¬x.2.2.1=0)(c:y.2=0):Has y.1 x.2.2.1:=by
 have h:Par (J0A (l,x)) λy=>y.2=0->Has y.1 x.2.2.1:=by
  unfold J0A;dsimp only;refine .bind λ_ _=>.not (λ_=>.some nofun) λ_=>.bind λ_ _=>.not (λ_=>.some nofun) λ_=>.eq (λc=>absurd c j) λ_=>.bind λi hi=>.lt (λ_=>.some nofun) λk=>.bind λt g=>.ne (λ_=>.some nofun) λ_=>.eq (λc=>by omega) λ_=>.eq (λc=>by omega) λ_=>.eq (λ_=>.bind λs hs=>.bind λr hr=>.some λ_=>?_) λc=>absurd h4 c;rw[JDm hr];have hf:J0L (l,x.2.2.1)=some i:=by unfold J0L;rw[show J1l ((l,x.2.2.1).1,(l,x.2.2.1).2)=some i from hi];rfl
  exact⟨i,(JHF g (Jun (x:=(t.1,3,x.1,0,t.2.2.2.2.1,[])) hs) _).trans hf,oo⟩
 exact h _ e c
theorem Jgv{l:J04}(e:J0f l=some true):1<=l.1/\l.1<=1099511627776/\J0 l.2.1<=4096:=by
 have g:Par (J0f l) λy=>y=true->1<=l.1/\l.1<=1099511627776/\J0 l.2.1<=4096:=by unfold J0f;exact .ltf (λ_=>.gtf (λ_=>.gtf (λ_=>λ_ _ _=>by omega) λ_=>.some nofun) λ_=>.some nofun) λ_=>.some nofun
 exact g _ e rfl
theorem Jb4{l:J04}{x:T_api_Entry}{y:Jss}(e:J1e (l,x)=some y)(c:y.2.2=0):J0f l=some true/\J0 l.2.1<=4095/\y=((l.1,l.2.1++[(l.1+J0 l.2.1,x.2)],l.2.2),l.1+J0 l.2.1,0)/\J09 (l.1+J0 l.2.1,x.2)=some true:=by
 have j:Par (J1e (l,x)) λy=>y.2.2=0->J0f l=some true/\J0 l.2.1<=4095/\y=((l.1,l.2.1++[(l.1+J0 l.2.1,x.2)],l.2.2),l.1+J0 l.2.1,0)/\J09 (l.1+J0 l.2.1,x.2)=some true:=by
  unfold J1e;dsimp only;refine .bind λa ha=>.not (λ_=>.some nofun) λw=>.eqf (λD=>.bind λC h3=>.eq (λ_=>.some nofun) λ_=>.bind λk h4=>.bind λb hb=>.not (λ_=>.some nofun) λA=>.bind λz h=>.bind λn g=>.some λ_=>?_) λ_=>.some nofun;subst w;subst A;have q:=Jgv ha;have:=J3 (l:=l.2.1);have:=Jh l.1 (J0 l.2.1);have:=J0E (J1 .i64 l.1 (J0 l.2.1)) 1;have:=Jh (JF .i64 (J1 .i64 l.1 (J0 l.2.1)) 1) 1;have B:k=JF .i64 (J1 .i64 l.1 (J0 l.2.1)) 1:=by unfold J29 at h4;injection h4 with h4;exact h4.symm
  have o:J1 .i64 k 1=l.1+J0 l.2.1:=by rw[B];omega
  rw[o]at hb g⊢;have v:z=l.2.1:=by
   unfold J1T at h;split at h
   ·injection h with h;exact h.symm
   ·cases h
  subst v;have r:n=l.2.1++[(l.1+J0 l.2.1,x.2)]:=by
   unfold Jz at g;split at g
   ·injection g with g;exact g.symm
   ·cases g
  subst r;exact⟨ha,oo,rfl,hb⟩
 exact j _ e c
theorem Jpq{l:J04}{n:Int}{y:JjJ}(e:J0I (l,n)=some y):(y.2=0/\J0f l=some true/\l.1<=n/\n<l.1+J0 l.2.1/\l.2.1[(n-l.1).toNat]?=some y.1)\/(y.1.1=0/\ ¬y.2=0):=by
 have g:Par (J0I (l,n)) λy=>(y.2=0/\J0f l=some true/\l.1<=n/\n<l.1+J0 l.2.1/\l.2.1[(n-l.1).toNat]?=some y.1)\/(y.1.1=0/\ ¬y.2=0):=by
  unfold J0I;dsimp only;refine .bind λa ha=>.not (λ_=>.some (.inr ⟨rfl,by decide⟩)) λo=>.ltf (λv=>.bind λk h3=>.gt (λ_=>.some (.inr ⟨rfl,by decide⟩)) λw=>.bind λz hz=>.some ?_) λ_=>.some (.inr ⟨rfl,by decide⟩);subst o;have q:=Jgv ha;have:=J3 (l:=l.2.1);have:=Jh l.1 (J0 l.2.1);have:=J0E (J1 .i64 l.1 (J0 l.2.1)) 1;have:=J0E n l.1;have x:k=JF .i64 (J1 .i64 l.1 (J0 l.2.1)) 1:=by unfold J29 at h3;injection h3 with h3;exact h3.symm
  obtain⟨r,h⟩:=J3L hz;have j:JF .i64 n l.1=n-l.1:=by omega
  rw[j]at h;exact .inl ⟨rfl,ha,oo,oo,h⟩
 exact g _ e
theorem Jki{x:T_api_Entry}(e:J09 x=some true):1<=x.1/\(x.2.1=4->1<=x.2.2.1):=by
 have j:Par (J3q x) λy=>y.2=true->x.2.1=4->1<=x.2.2.1:=by unfold J3q;refine .eq (λc _ _ _ _=>by omega) λ_=>.eq (λc _ _ _ _=>by omega) λ_=>.eq (λc _ _ _ _=>by omega) λ_=>.eq (λ_=>.ge (λc _ _ _ _=>c) λ_=>.some nofun) λc _ _ _ d=>absurd d c
 have g:Par (J09 x) λy=>y=true->1<=x.1/\(x.2.1=4->1<=x.2.2.1):=by unfold J09;exact .bind λa ha=>.ite (λk=>.ite (λ_=>.ge (λh _ _ _=>⟨h,j _ ha k⟩) λ_=>.some nofun) λ_=>.some nofun) λ_=>.some nofun
 exact g _ e rfl
theorem JrT{l:List Js}{x:T_api_Entry}{y:J2g}(e:J0A (l,x)=some y)(c:y.2=0):J09 x=some true:=by
 have g:Par (J0A (l,x)) λy=>y.2=0->J09 x=some true:=by unfold J0A;dsimp only;refine .bind λ_ _=>.not (λ_=>.some nofun) λ_=>.bind λa ha=>.not (λ_=>.some nofun) λc=>?_;subst c;exact λ_ _ _=>ha
 exact g _ e c
theorem JFr{l:J04}{x:T_api_Entry}{e:Jss}{h:JjJ}{k:List Js}{j:J2g}(w:J1e (l,x)=some e)(r:e.2.2=0)(q:J0I (e.1,e.2.1)=some h)(o:J0A (k,h.1)=some j)(n:j.2=0):h.1=(l.1+J0 l.2.1,x.2):=by
 obtain⟨a1,a2,a3,y⟩:=Jb4 w r;subst a3;have v:=Jki (JrT o n);rcases Jpq q with⟨_,_,_,_,g⟩|⟨g,_⟩
 ·dsimp only at g;rw[show(l.1+J0 l.2.1-l.1).toNat=l.2.1.length by unfold J0;omega,J7Z (zQ0 _)]at g;simp at g;exact g.symm
 ·omega
theorem Jpl{x:JtI}{y:Jdc}(h:Ty.fit B S JBT x)(e:J1b x=some y)(c:y.2.2=0)(h4:x.2.2.1=4:=by rfl):Has y.1.2.2.2.2.2.1 x.2.2.2.1:=by
 have I:Par (J1b x) λy=>y.2.2=0->Has y.1.2.2.2.2.2.1 x.2.2.2.1:=by
  obtain⟨k,n,L,H,Q,O,r⟩:=x;dsimp only at h4;subst h4;unfold J1b;dsimp only;have E: ∀{a b:Int} {g:Jss} {C:JjJ} {o:J2g},J1e (k.2.2.1,(n,4,H,a,b,r))=some g->g.2.2=0->J0I (g.1,g.2.1)=some C->J0A (k.2.2.2.2.2.1,C.1)=some o->o.2=0->Has o.1 H:=fun{a b g C o} A z F D q=>by have G:=JFr A z F D q;have v:=Jki (Jb4 A z).2.2.2;have v2:=v.2 rfl;have w:=JD0 D (by rw[G]) (by rw[G];show¬H=0;dsimp only at v2;omega) q;rw[G]at w;exact w
  refine .bind λ_ _=>.not (λ_=>.some nofun) λ_=>.gt (λ_=>.bind λj hj=>.lt (λ_=>.some nofun) λ_=>.bind λt P=>.bind λJ _=>.ite (λ_=>.bind λK _=>?_) λ_=>?_) λ_=>.bind λJ _=>.ite (λ_=>.bind λK _=>?_) λ_=>?_
  all_goals
   refine .bind λg A=>.ne (λc=>.some λd=>absurd d c) λz=>.bind λC F=>.bind λo D=>.ne (λc=>.some λd=>absurd d c) λq=>.bind λM _=>.ne (λc=>.some λd=>absurd d c) λN=>.some λ_=>E A z F D q
 exact I _ e c
end
theorem JT{B S:Int}{x1:J0x}(h:Ty.fit B S Jx x1)(F:BS B S 0 0:=by omega)(I:S<=4611686018427387895:=by omega):Tot (JO x1) λy=>Ty.fit 0 (S+8) .s y/\(J0 y<=J0 x1.1+8/\(1<=x1.2.2->x1.2.2<=8->J0 y=J0 x1.1+x1.2.2)):=by
 unfold JO;have s0:Ty.fit 0 S Jx x1:=h;have:=J2.1 s0.2.2;refine .ltf (λx=>?_) λx=>?_
 ·refine .gt (λz=>?_) λz=>?_
  ·have:J0 x1.1<=S:=s0.1;exact .some ⟨(s0.1.u),om⟩
  ·refine Jd (τ:=J3G) (λq=>(q.1,x1.2.1,x1.2.2,q.2)) (λq=>Ty.fit 0 (S+8) .s q.1/\Ty.fit 0 0 (.i .i64) q.2/\(0<=q.2)/\(q.2<=x1.2.2)/\(J0 q.1=J0 x1.1+q.2)) (λq=>x1.2.2-q.2) ?_ (x1.1,0) rfl ?_
   ·rintro⟨n,e⟩ j;dsimp only at j;obtain⟨r,w,H,G,C⟩:=j;unfold JjV
    try dsimp only
    have:=J2.1 w;have:J0 n<=(S+8):=r;have:J0 x1.1<=S:=s0.1;have:=J3 (l:=x1.1);refine .lt (λv=>?_) λv=>?_
    ·have:=cvu .u64 (J32 .i64 8 e);refine .bind (JBp (B:=0) (S:=0) (JbJ) oo) λk D=>?_;have:J0 (toStr [cvI .u8 k])=J0 [cvI .u8 k]:=J7l;have:J0 [cvI .u8 k]=1:=rfl;refine .bind (J66) λg A=>?_;have E:Ty.fit 0 (S+9) .s g:=(by omega:J0 g<=(S+9));have o:Ty.fit 0 (S+8) .s g:=(by omega:J0 g<=(S+8));have:=Jh e 1;exact .some ⟨(g,J1 .i64 e 1),rfl,⟨o,J5,om,om,om⟩,om,om⟩
    ·exact .some ⟨r,om⟩
   ·have:J0 x1.1<=S:=s0.1
    try dsimp only
    exact⟨s0.1.u,fk0,om,om,om⟩
 ·have:J0 x1.1<=S:=s0.1;exact .some ⟨(s0.1.u),om⟩
theorem JtR{B S:Int}{x1:List T_api_Row}(h:Ty.fit B S (.l Jb) x1)(U:BC B S 0 0:=by omega):Tot (J7O x1) λy=>Ty.fit 0 1544 JbL y:=by
 unfold J7O;refine .bind ((J4Y h).eqn) λZ h1=>.not (λI=>?_) λI=>?_
 ·exact .some (⟨Jc,fkn 28⟩)
 ·have v3:=J46 h h1.2 I;have:J0 x1=_:=Jj h;have v:Ty.fit 64 0 (.l Jb) x1:=v3.2;refine .bind (JT (B:=0) (S:=0) (⟨Jc,J3N v.1 oo,fkn 2⟩)) λn P=>?_;have z:Ty.fit 0 8 .s n:=P.1.u;have:J0 n<=8:=z;have:=J3 (l:=n);refine Jd (τ:=J3G) (λq=>(q.1,q.2,x1)) (λq=>(Ty.fit 0 0 (.i .i64) q.2/\0<=q.2/\(q.2<=J0 x1\/q.2<=0))/\(Ty.fit 0 1544 .s q.1/\J0 q.1<=24*q.2+J0 n)) (λq=>J0 x1-q.2) ?_ (n,0) rfl ?_
  ·rintro⟨k,r⟩ x;dsimp only at x;obtain⟨⟨E,T,R⟩,o,Q⟩:=x;unfold Jd8
   try dsimp only
   have:=J2.1 E;refine .lt (λK=>?_) λK=>?_
   ·refine .bind (Ji v) λW H=>.bind (JT (B:=0) (S:=1544) (⟨o,H.1.1,fkn 8⟩)) λj w=>?_;have O:Ty.fit 0 1552 .s j:=w.1.u;have:J0 j<=1552:=O;have:=J3 (l:=j);have:J0 k<=1544:=o;have:=J3 (l:=k);have:J0 j<=J0 k+8/\(1<=(8:Int)->(8:Int)<=8->J0 j=J0 k+(8:Int)):=w.2;have J:Ty.fit 0 1544 .s j:=(by omega:J0 j<=1544);refine .bind (Ji v) λV G=>.bind (JT (B:=0) (S:=1544) (⟨J,G.1.2.1,fkn 8⟩)) λg A=>?_;have F:Ty.fit 0 1552 .s g:=A.1.u;have:J0 g<=1552:=F;have:=J3 (l:=g);have:J0 g<=J0 j+8/\(1<=(8:Int)->(8:Int)<=8->J0 g=J0 j+(8:Int)):=A.2;have D:Ty.fit 0 1544 .s g:=(by omega:J0 g<=1544);refine .bind (Ji v) λY N=>.bind (JT (B:=0) (S:=1544) (⟨D,N.1.c,fkn 8⟩)) λe C=>?_;have L:Ty.fit 0 1552 .s e:=C.1.u;have:J0 e<=1552:=L;have:=J3 (l:=e);have:J0 e<=J0 g+8/\(1<=(8:Int)->(8:Int)<=8->J0 e=J0 g+(8:Int)):=C.2;have M:Ty.fit 0 1544 .s e:=(by omega:J0 e<=1544);have:=Jh r 1;exact .some ⟨(e,J1 .i64 r 1),rfl,⟨⟨J5,om,om⟩,M,om⟩,om,om⟩
   ·exact .some (⟨o,fk0⟩)
  ·try dsimp only
   exact⟨⟨fk0,oo,oo⟩,z.u,oo⟩
theorem JfV{B S:Int}{x1:(List UInt8)×(List Int)}(h:Ty.fit B S (.pr .s (.l (.i .i64))) x1)(C:BS B S 0 0:=by omega)(H:B<=288230376151711743:=by omega)(G:S<=2305843009213693947:=by omega):Tot (J5h x1) λy=>Ty.fit 0 (8*B+S) .s y/\(J0 y<=J0 x1.1+8*J0 x1.2):=by
 unfold J5h;have:J0 x1.2<=B:=h.2.1;have:=J3 (l:=x1.2);have:J0 x1.1<=S:=h.1.z;refine Jd (τ:=J3G) (λq=>(q.1,x1.2,q.2)) (λq=>(Ty.fit 0 0 (.i .i64) q.2/\0<=q.2/\(q.2<=J0 x1.2\/q.2<=0))/\(Ty.fit 0 (8*B+S) .s q.1/\J0 q.1<=8*q.2+J0 x1.1)) (λq=>J0 x1.2-q.2) ?_ (x1.1,0) rfl ?_
 ·rintro⟨g,j⟩ n;dsimp only at n;obtain⟨⟨A,E,D⟩,o,I⟩:=n;unfold Jc1
  try dsimp only
  have:=J2.1 A;refine .lt (λx=>?_) λx=>?_
  ·refine .bind (Ji h.2) λF v=>.bind (JT (B:=0) (S:=(8*B+S)) (⟨o,v.1,fkn 8⟩)) λe k=>?_;have r:Ty.fit 0 (8*B+S+8) .s e:=k.1.u;have:J0 e<=(8*B+S+8):=r;have:J0 e<=J0 g+8/\(1<=(8:Int)->(8:Int)<=8->J0 e=J0 g+(8:Int)):=k.2;have w:Ty.fit 0 (8*B+S) .s e:=(by omega:J0 e<=(8*B+S));have:=Jh j 1;exact .some ⟨(e,J1 .i64 j 1),rfl,⟨⟨J5,om,om⟩,w,om⟩,om,om⟩
  ·have:J0 g<=(8*B+S):=o;exact .some ⟨o,om⟩
 ·try dsimp only
  exact⟨⟨fk0,oo,oo⟩,h.1.z.u,oo⟩
theorem JtY{B S:Int}{x1:List Js}(h:Ty.fit B S (.l Jl) x1)(ag:BC B S 0 0:=by omega):Tot (J7u x1) λy=>Ty.fit 0 268632072 JbL y:=by
 unfold J7u;refine .bind ((J3m h).eqn) λy2 h1=>.not (λY=>?_) λY=>?_
 ·exact .some (⟨Jc,fkn 15⟩)
 ·have v3:=J2m h h1.2 Y;have:=J3 (l:=x1);have:J0 x1=_:=Jj h;have h8:Ty.fit 4096 0 (.l Jl) x1:=v3.2;refine .bind (JT (B:=0) (S:=0) (⟨Jc,J3N h8.1 oo,fkn 2⟩)) λD h9=>?_;have J:Ty.fit 0 8 .s D:=h9.1.u;have:J0 D<=8:=J;have:=J3 (l:=D);refine Jd (τ:=J3G) (λq=>(x1,q.1,q.2)) (λq=>(Ty.fit 0 0 (.i .i64) q.2/\0<=q.2/\(q.2<=J0 x1\/q.2<=0))/\(Ty.fit 0 268632072 .s q.1/\J0 q.1<=65584*q.2+J0 D)) (λq=>J0 x1-q.2) ?_ (D,0) rfl ?_
  ·rintro⟨A,E⟩ M;dsimp only at M;obtain⟨⟨T,af,ae⟩,F,ad⟩:=M;unfold JdK
   try dsimp only
   have:=J2.1 T;refine .lt (λa2=>?_) λa2=>?_
   ·refine .bind (Ji h8) λC j=>.bind (JT (B:=0) (S:=268632072) (⟨F,j.1.1,fkn 4⟩)) λx H=>?_;have ab:Ty.fit 0 268632080 .s x:=H.1.u;have:J0 x<=268632080:=ab;have:=J3 (l:=x);have:J0 A<=268632072:=F;have:=J3 (l:=A);have:J0 x<=J0 A+8/\(1<=(4:Int)->(4:Int)<=8->J0 x=J0 A+(4:Int)):=H.2;have Z:Ty.fit 0 268632072 .s x:=(by omega:J0 x<=268632072);refine .bind (JT (B:=0) (S:=268632072) (⟨Z,j.1.2.1,fkn 1⟩)) λv K=>?_;have a7:Ty.fit 0 268632080 .s v:=K.1.u;have:J0 v<=268632080:=a7;have:=J3 (l:=v);have:J0 v<=J0 x+8/\(1<=(1:Int)->(1:Int)<=8->J0 v=J0 x+(1:Int)):=K.2;have Q:Ty.fit 0 268632072 .s v:=(by omega:J0 v<=268632072);refine .bind (JT (B:=0) (S:=268632072) (⟨Q,j.1.c.1,fkn 8⟩)) λw G=>?_;have a8:Ty.fit 0 268632080 .s w:=G.1.u;have:J0 w<=268632080:=a8;have:=J3 (l:=w);have:J0 w<=J0 v+8/\(1<=(8:Int)->(8:Int)<=8->J0 w=J0 v+(8:Int)):=G.2;have a6:Ty.fit 0 268632072 .s w:=(by omega:J0 w<=268632072);refine .bind (JT (B:=0) (S:=268632072) (⟨a6,j.1.d.1,fkn 8⟩)) λz L=>?_;have a4:Ty.fit 0 268632080 .s z:=L.1.u;have:J0 z<=268632080:=a4;have:=J3 (l:=z);have:J0 z<=J0 w+8/\(1<=(8:Int)->(8:Int)<=8->J0 z=J0 w+(8:Int)):=L.2;have a5:Ty.fit 0 268632072 .s z:=(by omega:J0 z<=268632072);refine .bind (JT (B:=0) (S:=268632072) (⟨a5,J3N j.1.e.1.1 oo,fkn 2⟩)) λk I=>?_;have a9:Ty.fit 0 268632080 .s k:=I.1.u;have:J0 k<=268632080:=a9;have:=J3 (l:=k);have:J0 k<=J0 z+8/\(1<=(2:Int)->(2:Int)<=8->J0 k=J0 z+(2:Int)):=I.2;have a3:Ty.fit 0 268632072 .s k:=(by omega:J0 k<=268632072);refine .bind (JfV (B:=4096) (S:=268632072) (⟨a3.u,j.1.e.1.u⟩)) λo P=>?_;have a0:Ty.fit 0 268664840 .s o:=P.1.u;have:J0 o<=268664840:=a0;have:=J3 (l:=o);have:J0 C.2.2.2.2.1<=4096:=j.1.e.1.1;have:=J3 (l:=C.2.2.2.2.1);have:J0 o<=J0 k+8*J0 C.2.2.2.2.1:=P.2;have U:Ty.fit 0 268632072 .s o:=(by omega:J0 o<=268632072);refine .bind (JT (B:=0) (S:=268632072) (⟨U,J3N j.1.g.1 oo,fkn 1⟩)) λn O=>?_;have W:Ty.fit 0 268632080 .s n:=O.1.u;have:J0 n<=268632080:=W;have:=J3 (l:=n);have:J0 n<=J0 o+8/\(1<=(1:Int)->(1:Int)<=8->J0 n=J0 o+(1:Int)):=O.2;have V:Ty.fit 0 268632072 .s n:=(by omega:J0 n<=268632072);refine .bind (JfV (B:=4096) (S:=268632072) (⟨V.u,j.1.g.u⟩)) λr N=>?_;have aa:Ty.fit 0 268664840 .s r:=N.1.u;have:J0 r<=268664840:=aa;have:=J3 (l:=r);have:J0 C.2.2.2.2.2<=4096:=j.1.g.1;have:=J3 (l:=C.2.2.2.2.2);have:J0 r<=J0 n+8*J0 C.2.2.2.2.2:=N.2;have R:Ty.fit 0 268632072 .s r:=(by omega:J0 r<=268632072);have:=Jh E 1;exact .some ⟨(r,J1 .i64 E 1),rfl,⟨⟨J5,om,om⟩,R,om⟩,om,om⟩
   ·exact .some (⟨F,fk0⟩)
  ·try dsimp only
   exact⟨⟨fk0,oo,oo⟩,J.u,oo⟩
theorem JlT{B S:Int}{x1:J10}(h:Ty.fit B S J11 x1)(M:BG B S:=by omega):Tot (J6j x1) λy=>Ty.fit 0 0 .b y:=by
 unfold J6j;refine .ltf (λD=>?_) λD=>?_
 ·refine .gtf (λE=>?_) λE=>?_
  ·have:=J2.1 h.2.1;refine .ltf (λG=>?_) λG=>?_
   ·refine .gtf (λF=>?_) λF=>?_
    ·refine .bind ((J3m h.c.1).eqn) λQ C=>.nof (λr=>?_) λr=>?_
     ·have A:=J2m h.c.1 C.2 r;have:=J3 (l:=x1.2.2.1);have:J0 x1.2.2.1=_:=Jj h.c.1;have n:Ty.fit 4096 0 (.l Jl) x1.2.2.1:=A.2;refine .bind (JbC (B:=B) (S:=S) (⟨h.d.1,h.1⟩)) λN I=>.nof (λz=>?_) λz=>?_
      ·refine .bind ((J4Y h.e).eqn) λP w=>.nof (λj=>?_) λj=>?_
       ·have J:=J46 h.e w.2 j;refine .ne (λo=>?_) λo=>?_
        ·exact .some trivial
        ·refine Jd (τ:=Int) (λq=>(q,x1)) (λq=>(Ty.fit 0 0 (.i .i64) q/\0<=q/\(q<=J0 x1.2.2.1\/q<=0))) (λq=>J0 x1.2.2.1-q) ?_ 0 rfl ?_
         ·rintro g ⟨x,H,K⟩;unfold Jfd
          try dsimp only
          have:=J2.1 x;refine .lt (λk=>?_) λk=>?_
          ·refine .bind (Ji n) λO L=>.ge (λv=>?_) λv=>?_
           ·exact .some trivial
           ·have:=Jh g 1;exact .some ⟨J1 .i64 g 1,rfl,⟨J5,om,om⟩,om,om⟩
          ·exact .some trivial
         ·try dsimp only
          exact⟨fk0,oo,oo⟩
       ·exact .some trivial
      ·exact .some trivial
     ·exact .some trivial
    ·exact .some trivial
   ·exact .some trivial
  ·exact .some trivial
 ·exact .some trivial
theorem JuU{B S:Int}{x1:J10}(h:Ty.fit B S J11 x1)(ae:BH B S:=by omega)(hB:B<=192153584089948094:=by omega):Tot (J7n x1) λy=>Ty.fit 0 (24*B+268633648) JbL y:=by
 unfold J7n;refine .bind (JlT h) λy2 h1=>.not (λc2=>?_) λc2=>?_
 ·exact .some (⟨Jc,fkn 24⟩)
 ·refine .bind (JtY h.c.1) λL h3=>.bind (JT (B:=0) (S:=0) (⟨Jc,h.1,fkn 2⟩)) λy4 h4=>?_;have h5:Ty.fit 0 8 .s y4:=h4.1.u;refine .bind (JT (B:=0) (S:=8) (⟨h5,h.2.1,fkn 4⟩)) λy5 h9=>?_;have M:Ty.fit 0 16 .s y5:=h9.1.u;refine .bind (JT (B:=0) (S:=16) (⟨M,J3N h3.1 oo,fkn 4⟩)) λF J=>?_;have N:Ty.fit 0 24 .s F:=J.1.u;have:J0 F<=24:=N;have:=J3 (l:=F);have:J0 L.1<=268632072:=h3.1;have:=J3 (l:=L.1);refine .bind (J66) λG a6=>?_;have H:Ty.fit 0 268632096 .s G:=(by omega:J0 G<=268632096);refine .bind (JT (B:=0) (S:=268632096) (⟨H,J3N h.d.1.1 oo,fkn 1⟩)) λo Q=>?_;have v:Ty.fit 0 268632104 .s o:=Q.1.u;have:J0 o<=268632104:=v;have:=J3 (l:=o);have:J0 x1.2.2.2.1<=B:=h.d.1.1;have:=J3 (l:=x1.2.2.2.1);have:J0 x1.2.2.2.1=_:=Jj h.d.1;refine Jd (τ:=J3G) (λq=>(q.1,q.2,x1)) (λq=>(Ty.fit 0 0 (.i .i64) q.2/\0<=q.2/\(q.2<=J0 x1.2.2.2.1\/q.2<=0))/\(Ty.fit 0 (24*B+268632104) .s q.1/\J0 q.1<=24*q.2+J0 o)) (λq=>J0 x1.2.2.2.1-q.2) ?_ (o,0) rfl ?_
  ·rintro⟨n,r⟩ C;dsimp only at C;obtain⟨⟨a1,aa,a8⟩,w,a9⟩:=C;unfold Jdr
   try dsimp only
   have:=J2.1 a1;refine .lt (λZ=>?_) λZ=>?_
   ·refine .bind (Ji h.d.1) λa7 T=>.bind (JT (B:=0) (S:=(24*B+268632104)) (⟨w,T.1.1,fkn 1⟩)) λj z=>?_;have R:Ty.fit 0 (24*B+268632112) .s j:=z.1.u;have:J0 j<=(24*B+268632112):=R;have:J0 j<=J0 n+8/\(1<=(1:Int)->(1:Int)<=8->J0 j=J0 n+(1:Int)):=z.2;have W:Ty.fit 0 (24*B+268632104) .s j:=(by omega:J0 j<=(24*B+268632104));refine .bind (Ji h.d.1) λac V=>.bind (JT (B:=0) (S:=(24*B+268632104)) (⟨W,V.1.2.1,fkn 8⟩)) λg A=>?_;have a0:Ty.fit 0 (24*B+268632112) .s g:=A.1.u;have:J0 g<=(24*B+268632112):=a0;have:J0 g<=J0 j+8/\(1<=(8:Int)->(8:Int)<=8->J0 g=J0 j+(8:Int)):=A.2;have P:Ty.fit 0 (24*B+268632104) .s g:=(by omega:J0 g<=(24*B+268632104));refine .bind (Ji h.d.1) λab I=>.bind (JT (B:=0) (S:=(24*B+268632104)) (⟨P,I.1.c,fkn 8⟩)) λk E=>?_;have K:Ty.fit 0 (24*B+268632112) .s k:=E.1.u;have:J0 k<=(24*B+268632112):=K;have:J0 k<=J0 g+8/\(1<=(8:Int)->(8:Int)<=8->J0 k=J0 g+(8:Int)):=E.2;have O:Ty.fit 0 (24*B+268632104) .s k:=(by omega:J0 k<=(24*B+268632104));have:=Jh r 1;exact .some ⟨(k,J1 .i64 r 1),rfl,⟨⟨J5,om,om⟩,O,om⟩,om,om⟩
   ·refine .inr ?_;refine .bind (JtR h.e) λD Y=>?_;have:J0 n<=(24*B+268632104):=w;have:=J3 (l:=n);have:J0 D.1<=1544:=Y.1;have:=J3 (l:=D.1);refine .bind (J66) λx ad=>?_;have U:Ty.fit 0 (24*B+268633648) .s x:=(by omega:J0 x<=(24*B+268633648));exact .some (⟨U,fk0⟩)
  ·try dsimp only
   exact⟨⟨fk0,oo,oo⟩,v.u,oo⟩
end Go.Am
end
section
namespace Go.Am
set_option linter.unusedVariables false
set_option maxRecDepth 20000
set_option maxHeartbeats 4000000
theorem JjZ{B S:Int}{x1:JY}(h:Ty.fit B S JI x1)(L:BC B S 0 0:=by omega):Tot (J6m x1) λy=>Ty.fit 64 0 (.l Jb) y:=by
 unfold J6m;refine .bind ((J3l h).eqn) λP h1=>.not (λA=>?_) λA=>?_
 ·exact .some Ja
 ·have v3:=J2p h h1.2 A;have:J0 x1.2.1=_:=Jj h.2.1;have k:Ty.fit 64 12 JI x1:=v3.2;refine Jd (τ:=Jey) (λq=>(q.1,x1,q.2)) (λq=>(Ty.fit 0 0 (.i .i64) q.1/\0<=q.1/\(q.1<=64\/q.1<=0))/\(Ty.fit 64 0 (.l Jb) q.2/\J0 q.2<=1*q.1+0)) (λq=>64-q.1) ?_ (0,[]) rfl ?_
  ·rintro⟨g,e⟩ o;dsimp only at o;obtain⟨⟨n,J,I⟩,j,K⟩:=o;unfold Jf7
   try dsimp only
   have:=J2.1 n;refine .lt (λw=>?_) λw=>?_
   ·refine .bind (J4H (B:=64) (S:=12) (⟨k,n⟩)) λE G=>?_;have: -1<=E/\E<J0 x1.2.1:=G.2;refine .ge (λF=>?_) λF=>?_
    ·refine .bind (Ji k.2.1) λN H=>.ite (λD=>?_) λD=>?_
     ·refine .bind (Ji k.2.1) λO C=>.bind (Ji k.2.1) λM v=>?_;have:J0 e<=64:=j.1;have:=J3 (l:=e);have:J0 e=_:=Jj j;refine .bind (J0n (B:=64) (Bl:=64) (Bm:=1) (S:=0) (J0 e) 1 j (J0d (B:=1) (S:=0) (t:=Jb) oo (⟨n,C.1.z.2.2.1,v.1.z.1.2.1⟩))) λx r=>?_;have:=Jh g 1;have:J0 x=_:=Jj r.1;exact .some ⟨(J1 .i64 g 1,x),rfl,⟨⟨J5,om,om⟩,r.1,om⟩,om,om⟩
     ·have:=Jh g 1;have:J0 e=_:=Jj j;exact .some ⟨(J1 .i64 g 1,e),rfl,⟨⟨J5,om,om⟩,j,om⟩,om,om⟩
    ·have:=Jh g 1;have:J0 e=_:=Jj j;exact .some ⟨(J1 .i64 g 1,e),rfl,⟨⟨J5,om,om⟩,j,om⟩,om,om⟩
   ·exact .some j
  ·have:J0 ([]:List T_api_Row)=0:=rfl
   try dsimp only
   exact⟨⟨fk0,oo,oo⟩,Ja,oo⟩
theorem JGo{B S:Int}{x1:J9}(h:Ty.fit B S J7 x1)(ac:BG B S:=by omega):Tot (JcA x1) λy=>Ty.fit 4160 8192 (.pr J11 (.i .i64)) y:=by
 unfold JcA;refine .bind ((J18 h).eqn) λy2 h1=>.not (λY=>?_) λY=>?_
 ·exact .some (⟨fzr,fkn 15⟩)
 ·have v3:=J1h h h1.2 Y;have:J0 x1.2.2.2.2.2.2.1=_:=Jj h.h.1;have x:Ty.fit 4096 8192 J7 x1:=v3.2;refine Jd (τ:=Jey) (λq=>(q.1,x1,[],0,0,[],[],q.2,[],x1.1,x1.2.1,x1.2.2.2.2.2.1,x1.2.2.2.2.2.2.1)) (λq=>(Ty.fit 0 0 (.i .i64) q.1/\0<=q.1/\(q.1<=x1.1\/q.1<=0))/\(Ty.fit 4160 0 (.l Jb) q.2/\J0 q.2<=65*q.1+0)) (λq=>x1.1-q.1) ?_ (0,[]) rfl ?_
  ·rintro⟨n,k⟩ F;dsimp only at F;obtain⟨⟨J,a4,a9⟩,z,a3⟩:=F;unfold JmG
   try dsimp only
   have:=J2.1 J;refine .lt (λQ=>?_) λQ=>?_
   ·refine .bind (J8D (B:=4096) (S:=8192) (⟨x,J⟩)) λy4 V=>.ite (λO=>?_) λO=>?_
    ·have:J0 k<=4160:=z.1;have:=J3 (l:=k);have:J0 k=_:=Jj z;refine .bind (J0n (B:=4160) (Bl:=4160) (Bm:=1) (S:=0) (J0 k) 1 z (J0d (B:=1) (S:=0) (t:=Jb) oo V.1)) λN I=>.bind (JjZ x.d.1) λC E=>?_;have:J0 C<=64:=E.1;have:=J3 (l:=C);have:J0 C=_:=Jj E;have:J0 N=_:=Jj I.1;refine Jd (τ:=Jey) (λq=>(n,C,J0 C,q.1,x1,[],0,0,[],[],q.2,[],x1.1,x1.2.1,x1.2.2.2.2.2.1,x1.2.2.2.2.2.2.1)) (λq=>(Ty.fit 0 0 (.i .i64) q.1/\0<=q.1/\(q.1<=J0 C\/q.1<=0))/\(Ty.fit 4160 0 (.l Jb) q.2/\J0 q.2<=1*q.1+J0 N)) (λq=>J0 C-q.1) ?_ (0,N) rfl ?_
     ·rintro⟨A,j⟩ L;dsimp only at L;obtain⟨⟨W,a7,a5⟩,w,aa⟩:=L;unfold Jnz
      try dsimp only
      have:=J2.1 W;refine .lt (λR=>?_) λR=>?_
      ·refine .bind (Ji E) λy8 a1=>.eq (λZ=>?_) λZ=>?_
       ·have:J0 j<=4160:=w.1;have:=J3 (l:=j);have:J0 j=_:=Jj w;refine .bind (J0n (B:=4160) (Bl:=4160) (Bm:=1) (S:=0) (J0 j) 1 w (J0d (B:=1) (S:=0) (t:=Jb) oo a1.1)) λy9 M=>?_;have:=Jh A 1;have:J0 y9=_:=Jj M.1;exact .some ⟨(J1 .i64 A 1,y9),rfl,⟨⟨J5,om,om⟩,M.1,om⟩,om,om⟩
       ·have:=Jh A 1;have:J0 j=_:=Jj w;exact .some ⟨(J1 .i64 A 1,j),rfl,⟨⟨J5,om,om⟩,w,om⟩,om,om⟩
      ·have:=Jh n 1;have:J0 j=_:=Jj w;exact .some ⟨(J1 .i64 n 1,j),rfl,⟨⟨J5,om,om⟩,w,om⟩,om,om⟩
     ·try dsimp only
      exact⟨⟨fk0,oo,oo⟩,I.1,oo⟩
    ·refine .bind (JjZ x.d.1) λr D=>?_;have:J0 r<=64:=D.1;have:=J3 (l:=r);have:J0 r=_:=Jj D;have:J0 k=_:=Jj z;refine Jd (τ:=Jey) (λq=>(n,r,J0 r,q.1,x1,[],0,0,[],[],q.2,[],x1.1,x1.2.1,x1.2.2.2.2.2.1,x1.2.2.2.2.2.2.1)) (λq=>(Ty.fit 0 0 (.i .i64) q.1/\0<=q.1/\(q.1<=J0 r\/q.1<=0))/\(Ty.fit 4160 0 (.l Jb) q.2/\J0 q.2<=1*q.1+J0 k)) (λq=>J0 r-q.1) ?_ (0,k) rfl ?_
     ·rintro⟨o,e⟩ G;dsimp only at G;obtain⟨⟨a2,ad,a8⟩,v,ab⟩:=G;unfold Jn0
      try dsimp only
      have:=J2.1 a2;refine .lt (λP=>?_) λP=>?_
      ·refine .bind (Ji D) λa6 U=>.eq (λT=>?_) λT=>?_
       ·have:J0 e<=4160:=v.1;have:=J3 (l:=e);have:J0 e=_:=Jj v;refine .bind (J0n (B:=4160) (Bl:=4160) (Bm:=1) (S:=0) (J0 e) 1 v (J0d (B:=1) (S:=0) (t:=Jb) oo U.1)) λH K=>?_;have:=Jh o 1;have:J0 H=_:=Jj K.1;exact .some ⟨(J1 .i64 o 1,H),rfl,⟨⟨J5,om,om⟩,K.1,om⟩,om,om⟩
       ·have:=Jh o 1;have:J0 e=_:=Jj v;exact .some ⟨(J1 .i64 o 1,e),rfl,⟨⟨J5,om,om⟩,v,om⟩,om,om⟩
      ·have:=Jh n 1;have:J0 e=_:=Jj v;exact .some ⟨(J1 .i64 n 1,e),rfl,⟨⟨J5,om,om⟩,v,om⟩,om,om⟩
     ·try dsimp only
      exact⟨⟨fk0,oo,oo⟩,z,oo⟩
   ·exact .some (⟨⟨x.1,x.2.1,x.g.1.u,z.u,x.h.1.u⟩,fk0⟩)
  ·have:J0 ([]:List T_api_Row)=0:=rfl
   try dsimp only
   exact⟨⟨fk0,oo,oo⟩,Ja,oo⟩
theorem JA4{B S:Int}{x1:J9}(h:Ty.fit B S J7 x1)(v:BG B S:=by omega):Tot (Ja7 x1) λy=>Ty.fit 16384 1073741824 Jr7 y:=by
 unfold Ja7;refine .bind (JGo h) λr h1=>.ne (λo=>?_) λo=>?_
 ·exact .some (⟨fzr,fk0,h1.2⟩)
 ·have h5:Ty.fit 16384 1073741824 J11 r.1:=h1.1.u;refine .bind (JuU h5) λg h4=>?_;have q:Ty.fit 0 269026864 JbL g:=h4.u;refine .gt (λn=>?_) λn=>?_
  ·exact .some (⟨fzr,fk0,fkn 21⟩)
  ·refine .bind ((J4p (B:=B) (S:=S) (x1:=(x1,0,6,0,0,0,0,(0,0,(false,[]),false,[]),g.1)) (⟨h,fk0,fkn 6,fk0,fk0,fk0,fk0,⟨fk0,fk0,⟨trivial,Jc⟩,trivial,Jc⟩,q.1.u⟩)).eqn) λx e=>.ne (λk=>?_) λk=>?_
   ·exact .some (⟨fzr,fk0,e.1.1.c⟩)
   ·refine .bind (J8H (B:=16384) (S:=1073741824) (⟨e.1.1.1.c.1,e.1.1.2.1⟩)) λw j=>.some (⟨⟨e.1.1.1.1,e.1.1.1.2.1,j.1.1.u,e.1.1.1.d⟩,e.1.1.2.1,fk0⟩)
theorem Jop{B S:Int}{x1:Ju}(h:Ty.fit B S Jk x1)(g:BG B S:=by omega):Tot (J5e x1) λy=>Ty.fit B S JGa y:=by
 unfold J5e;refine .bind (JA4 h.1) λj h1=>.ne (λe=>?_) λe=>?_
 ·exact .some (⟨⟨fzr,Ja,fk0,Ja,trivial,Ja⟩,fk0,h1.c⟩)
 ·exact .some (⟨⟨h1.1.u,h.2⟩,h1.2.1,fk0⟩)
theorem J8K{B S:Int}{x1:J1F}(h:Ty.fit B S tq1 x1)(j:BG B S:=by omega):Tot (J2o x1) λy=>Ty.fit B S J7 y/\(J0 y.2.2.1.2.1=J0 x1.1.2.2.1.2.1):=by
 unfold J2o;refine .bind (J7m h.1.c.1) λk h1=>.bind (J8H (B:=B) (S:=S) (⟨h.1.c.1,JLt h.2 h1⟩)) λe h2=>?_;have:J0 e.1.2.1=_:=Jj h2.1.1.2.1;have:J0 x1.1.2.2.1.2.1=_:=Jj h.1.c.1.2.1;have:e.2=0->J0 e.1.2.1=J0 x1.1.2.2.1.2.1:=h2.2;refine .eq (λg=>?_) λg=>?_
 ·exact .some ⟨(⟨h.1.1,h.1.2.1,h2.1.1.u,h.1.d⟩),om⟩
 ·exact .some ⟨h.1,om⟩
theorem JyJ{B S:Int}{x1:J1F}(h:Ty.fit B S tq1 x1)(z:BG B S:=by omega):Tot (J48 x1) λy=>Ty.fit 16384 1073741824 (.pr J7 tq5) y/\(y.2.2=0->J0 y.1.2.2.1.2.1=J0 x1.1.2.2.1.2.1):=by
 unfold J48;refine .bind ((J18 h.1).eqn) λA h1=>.not (λv=>?_) λv=>?_
 ·have:J0 x1.1.2.2.1.2.1<=B:=h.1.c.1.2.1.1;exact .some ⟨(⟨fzr,⟨fk0,fk0,J0c oo oo (.ar 16 JE)⟩,fkn 15⟩),om⟩
 ·have x:=J1h h.1 h1.2 v;have:J0 x1.1.2.2.1.2.1=_:=Jj h.1.c.1.2.1;have k:Ty.fit 4096 8192 J7 x1.1:=x.2;refine .bind (J8q (B:=4096) (S:=8192) (⟨k.d.1,h.2⟩)) λq w=>?_;have e:Ty.fit 0 8192 (.pr Jr .b) q:=w.u;refine .not (λo=>?_) λo=>?_
  ·exact .some ⟨(⟨fzr,⟨fk0,fk0,J0c oo oo (.ar 16 JE)⟩,fkn 18⟩),om⟩
  ·have r:Ty.fit 16384 1073741824 tq1 (x1.1,q.1.2.1):=⟨k.u,e.1.2.1⟩;refine .bind (J8K r) λn g=>?_;have j:Ty.fit 16384 1073741824 J7 n:=g.1.u;have:J0 n.2.2.1.2.1=_:=Jj j.c.1.2.1;have:J0 n.2.2.1.2.1=J0 x1.1.2.2.1.2.1:=g.2;exact .some ⟨(⟨j,e.1.u,fk0⟩),om⟩
section
variable {B S:Int}
theorem JFW{x:J1F}{y:J9×JU×Int}(h:Ty.fit B S tq1 x)(e:J48 x=some y)(c:y.2.2=0):InP x.1.2.2.2.1 x.2:=by
 have g:Par (J48 x) λy=>y.2.2=0->InP x.1.2.2.2.1 x.2:=by unfold J48;refine .bind λa ha=>.not (λ_=>.some nofun) λ_=>.bind λb hb=>.not (λ_=>.some nofun) λc=>.bind λd hd=>.some λ_=>(Jgi hb).1 c
 exact g _ e c
end
theorem Jbe{B S:Int}{x1:List UInt8}(h:Ty.fit B S .s x1)(L:BS B S 0 0:=by omega)(P:S<=9223372036854775807:=by omega):Tot (J5y x1) λy=>Ty.fit 0 0 (.i .u32) y:=by
 unfold J5y;have:J0 x1<=S:=h.z;have:=J3 (l:=x1);refine Jd (τ:=Int×Int) (λq=>(x1,q.1,q.2)) (λq=>(Ty.fit 0 0 (.i .i64) q.2/\0<=q.2/\(q.2<=J0 x1\/q.2<=0))/\Ty.fit 0 0 (.i .u32) q.1) (λq=>J0 x1-q.2) ?_ (4294967295,0) rfl ?_
 ·rintro⟨r,g⟩ n;dsimp only at n;obtain⟨⟨G,N,M⟩,O⟩:=n;unfold JlM
  try dsimp only
  have:=J2.1 G;refine .lt (λC=>?_) λC=>?_
  ·refine .bind (JGz (l:=x1)) λD J=>Jd (τ:=Int×Int) (λq=>(x1,q.1,g,q.2)) (λq=>(Ty.fit 0 0 (.i .i64) q.2/\0<=q.2/\(q.2<=8\/q.2<=0))/\Ty.fit 0 0 (.i .u32) q.1) (λq=>8-q.2) ?_ (Jgo .u32 r (cvI .u32 D),0) rfl ?_
   ·rintro⟨o,e⟩ k;dsimp only at k;obtain⟨⟨v,K,I⟩,j⟩:=k;unfold JkT
    try dsimp only
    have:=J2.1 v;refine .lt (λx=>?_) λx=>?_
    ·refine .eq (λA=>?_) λA=>?_
     ·refine .bind (JBp j oo) λE H=>?_;have:=Jh e 1;exact .some ⟨(Jgo .u32 E 2197175160,J1 .i64 e 1),rfl,⟨⟨J5,om,om⟩,JEW⟩,om,om⟩
     ·refine .bind (JBp j oo) λF w=>?_;have:=Jh e 1;exact .some ⟨(F,J1 .i64 e 1),rfl,⟨⟨J5,om,om⟩,w⟩,om,om⟩
    ·have:=Jh g 1;exact .some ⟨(o,J1 .i64 g 1),rfl,⟨⟨J5,om,om⟩,j⟩,om,om⟩
   ·try dsimp only
    exact⟨⟨fk0,oo,oo⟩,JEW⟩
  ·exact .some JMa
 ·try dsimp only
  exact⟨⟨fk0,oo,oo⟩,JfF .u32 4294967295⟩
theorem J6f{B S:Int}{x1:JU}(h:Ty.fit B S Jr x1)(j:BS B S 0 0:=by omega):Tot (J24 x1) λy=>Ty.fit 0 0 (.i .i64) y:=by
 unfold J24;have s0:Ty.fit 0 S Jr x1:=h;refine .bind (JfN (B:=0) (S:=S) s0) λn h1=>.not (λe=>?_) λe=>?_
 ·exact .some (fkn 1)
 ·refine .bind (Jl4 (B:=0) (S:=S) s0) λk h3=>.not (λg=>?_) λg=>?_
  ·exact .some (fkn 22)
  ·exact .some fk0
theorem J8E{B S x1:Int}(h:Ty.fit B S (.i .i64) x1)(p0:0<=x1)(j:x1<=1000000)(g:BS B S 0 0:=by omega):Tot (J49 x1) λy=>Ty.fit 0 1000000 .s y/\(J0 y=x1):=by unfold J49;refine .bind (JAh (t:=(.i .u8)) (B:=1000000) (S:=0) (JfF .u8 0)) λe h2=>?_;have:J0 (toStr e)=J0 e:=J7l;exact .some ⟨(Jgb (B:=0) h2.1.1),om⟩
theorem JaT{B S:Int}{x1:JU}(h:Ty.fit B S Jr x1)(al:BS B S 0 0:=by omega):Tot (J4q x1) λy=>Ty.fit 0 1000416 JbL y:=by
 unfold J4q;have s0:Ty.fit 0 S Jr x1:=h;refine .bind ((J6f (B:=0) (S:=S) (x1:=x1) s0).eqn) λy2 h1=>.ne (λW=>?_) λW=>?_
 ·exact .some (⟨Jc,h1.1⟩)
 ·have v4:=J6o (x:=x1) s0 h1.2 W;have F:Ty.fit 0 12 Jr x1:=v4.2;refine .bind (JT (B:=0) (S:=0) (⟨Jc,F.2.1,fkn 8⟩)) λv h9=>?_;have I:Ty.fit 0 8 .s v:=h9.1.u;have:J0 v<=8:=I;have:=J3 (l:=v);have:J0 v<=0+8/\(1<=(8:Int)->(8:Int)<=8->J0 v=0+(8:Int)):=h9.2;refine .bind (JT (B:=0) (S:=8) (⟨I,F.1,fkn 4⟩)) λC G=>?_;have J:Ty.fit 0 16 .s C:=G.1.u;have:J0 C<=16:=J;have:=J3 (l:=C);have:J0 C<=J0 v+8/\(1<=(4:Int)->(4:Int)<=8->J0 C=J0 v+(4:Int)):=G.2;refine Jd (τ:=J3G) (λq=>(q.1,q.2,x1)) (λq=>Ty.fit 0 400 .s q.1/\Ty.fit 0 0 (.i .i64) q.2/\(0<=q.2)/\(q.2<=16)/\(J0 q.1=12+13*q.2)) (λq=>16-q.2) ?_ (C,0) rfl ?_
  ·rintro⟨e,n⟩ D;dsimp only at D;obtain⟨E,af,aj,ad,ag⟩:=D;unfold Je8
   try dsimp only
   have:J0 e<=400:=E;have:=J3 (l:=e);refine .lt (λa5=>?_) λa5=>?_
   ·refine .bind (J6b) λ_ _=>.bind ((Jco F.c).eqn) λA g=>.ite (λV=>?_) λV=>?_
    ·refine .bind (J6b) λ_ _=>.same g.2 ?_;refine .bind (JT (B:=0) (S:=400) (⟨E,J3N g.1.2 oo,fkn 1⟩)) λo N=>?_;have a7:Ty.fit 0 408 .s o:=N.1.u;have:J0 o<=408:=a7;have:=J3 (l:=o);have:J0 o<=J0 e+8/\(1<=(1:Int)->(1:Int)<=8->J0 o=J0 e+(1:Int)):=N.2;refine .bind (J6b) λ_ _=>.same g.2 ?_;refine .bind (J6b) λ_ _=>.same g.2 ?_;have:J0 A.2<=12:=g.1.2;have:=J3 (l:=A.2);have:=JtT 12 (J0 A.2);refine .bind (J8E J1O om om) λK Z=>?_;have:J0 K<=1000000:=Z.1;have:=J3 (l:=K);refine .bind (J66) λz am=>?_;have a9:Ty.fit 0 1000012 .s z:=(by omega:J0 z<=1000012);have:J0 z<=1000012:=a9;have:=J3 (l:=z);refine .bind (J66) λk an=>?_;have Y:Ty.fit 0 1000420 .s k:=(by omega:J0 k<=1000420);have:J0 k<=1000420:=Y;have:=J3 (l:=k);have U:Ty.fit 0 400 .s k:=(by omega:J0 k<=400);have:=Jed n 1;exact .some ⟨(k,J1 .i64 n 1),rfl,⟨U,J5,om,om,om⟩,om,om⟩
    ·refine .bind (JT (B:=0) (S:=400) (⟨E,fkn 255,fkn 1⟩)) λr H=>?_;have aa:Ty.fit 0 408 .s r:=H.1.u;have:J0 r<=408:=aa;have:=J3 (l:=r);have:J0 r<=J0 e+8/\(1<=(1:Int)->(1:Int)<=8->J0 r=J0 e+(1:Int)):=H.2;refine .bind (J6b) λ_ _=>.same g.2 ?_;refine .bind (J6b) λ_ _=>.same g.2 ?_;have:J0 A.2<=12:=g.1.2;have:=J3 (l:=A.2);have:=JtT 12 (J0 A.2);refine .bind (J8E J1O om om) λL T=>?_;have:J0 L<=1000000:=T.1;have:=J3 (l:=L);refine .bind (J66) λw ak=>?_;have a2:Ty.fit 0 1000012 .s w:=(by omega:J0 w<=1000012);have:J0 w<=1000012:=a2;have:=J3 (l:=w);refine .bind (J66) λj ae=>?_;have a3:Ty.fit 0 1000420 .s j:=(by omega:J0 j<=1000420);have:J0 j<=1000420:=a3;have:=J3 (l:=j);have a4:Ty.fit 0 400 .s j:=(by omega:J0 j<=400);have:=Jed n 1;exact .some ⟨(j,J1 .i64 n 1),rfl,⟨a4,J5,om,om,om⟩,om,om⟩
   ·refine .inr ?_;have:=JtT 244 (J0 e);refine .bind (J8E J1O om om) λM a1=>?_;have:J0 M<=1000000:=a1.1;have:=J3 (l:=M);refine .bind (J66) λP ai=>?_;have O:Ty.fit 0 1000400 .s P:=(by omega:J0 P<=1000400);refine .bind (Jbe O) λao ah=>.bind (JT (B:=0) (S:=1000400) (⟨O,JbJ,fkn 4⟩)) λab a0=>?_;have ac:Ty.fit 0 1000408 .s ab:=a0.1.u;refine .bind (JT (B:=0) (S:=1000408) (⟨ac,F.2.1,fkn 8⟩)) λa6 R=>?_;have Q:Ty.fit 0 1000416 .s a6:=R.1.u;exact .some (⟨Q,fk0⟩)
  ·try dsimp only
   exact⟨J.u,fk0,om,om,om⟩
theorem Jsb{B S:Int}{x1:J8T}(h:Ty.fit B S JJq x1)(A:BS B S 0 0:=by omega)(G:B<=34359738367:=by omega):Tot (J55 x1) λy=>Ty.fit (B+1) 0 (.l (.i .i64)) y:=by
 unfold J55;have:J0 x1.1<=B:=h.1.1;have:=J3 (l:=x1.1);refine Jd (τ:=JyY) (λq=>(x1.1,x1.2,q.1,q.2)) (λq=>(Ty.fit 0 0 (.i .i64) q.1/\0<=q.1/\(q.1<=J0 x1.1\/q.1<=0))/\(Ty.fit (B+1) 0 (.l (.i .i64)) q.2/\J0 q.2<=1*q.1+0)) (λq=>J0 x1.1-q.1) ?_ (0,[]) rfl ?_
 ·rintro⟨e,g⟩ k;dsimp only at k;obtain⟨⟨x,H,C⟩,j,D⟩:=k;unfold Jc4
  try dsimp only
  have:=J2.1 x;refine .lt (λv=>?_) λv=>?_
  ·refine .bind (Ji h.1) λE z=>.ne (λr=>?_) λr=>?_
   ·refine .bind (Ji h.1) λF o=>?_;have:J0 g<=(B+1):=j.1;refine .bind (J0n (B:=(B+1)) (Bl:=(B+1)) (Bm:=1) (S:=0) (J0 g) 1 j (J0d (B:=1) (S:=0) (t:=(.i .i64)) oo o.1)) λw n=>?_;have:=Jh e 1;exact .some ⟨(J1 .i64 e 1,w),rfl,⟨⟨J5,om,om⟩,n.1,om⟩,om,om⟩
   ·have:=Jh e 1;exact .some ⟨(J1 .i64 e 1,g),rfl,⟨⟨J5,om,om⟩,j,om⟩,om,om⟩
  ·exact .some j
 ·have:J0 ([]:List Int)=0:=rfl
  try dsimp only
  exact⟨⟨fk0,oo,oo⟩,Ja,oo⟩
theorem Jy4{B S:Int}{x1:J0i×JN}(h:Ty.fit B S (.pr JS JL) x1)(G:BS B S 0 0:=by omega):Tot (J2N x1) λy=>Ty.fit 0 0 .b y:=by
 unfold J2N;refine .lef (λD=>?_) λD=>?_
 ·refine .gtf (λF=>?_) λF=>?_
  ·have:=J2.1 h.d.1;refine .ltf (λE=>?_) λE=>?_
   ·have:J0 x1.1.1<=B:=h.1.1.1;refine .gef (λC=>?_) λC=>?_
    ·have:=J2.1 h.e.1;refine .ltf (λo=>?_) λo=>?_
     ·refine .gef (λr=>?_) λr=>?_
      ·have:=J2.1 h.g.1;refine .ltf (λn=>?_) λn=>?_
       ·refine .ge (λz=>?_) λz=>?_
        ·exact .some trivial
        ·have:=J2.1 h.2.1;refine .eq (λk=>?_) λk=>?_
         ·exact .some trivial
         ·refine .eq (λq=>?_) λq=>?_
          ·exact .some trivial
          ·refine .eq (λA=>?_) λA=>?_
           ·exact .some trivial
           ·refine .eq (λw=>?_) λw=>?_
            ·exact .some trivial
            ·refine .eq (λx=>?_) λx=>?_
             ·have:=JBE.1 h.h;refine .eq (λv=>?_) λv=>?_
              ·exact .some trivial
              ·exact .some trivial
             ·refine .eq (λj=>?_) λj=>?_
              ·exact .some trivial
              ·exact .some trivial
       ·exact .some trivial
      ·exact .some trivial
     ·exact .some trivial
    ·exact .some trivial
   ·exact .some trivial
  ·exact .some trivial
 ·exact .some trivial
theorem JwI{B S:Int}{x1:J0i}(h:Ty.fit B S JS x1)(Z:BS B S 0 0:=by omega)(hB:B<=9223372036854775807:=by omega):Tot (J2O x1) λy=>Ty.fit 0 0 .b y:=by
 unfold J2O;refine .ltf (λJ=>?_) λJ=>?_
 ·refine .gtf (λK=>?_) λK=>?_
  ·have:=J2.1 h.2.1;refine .ltf (λL=>?_) λL=>?_
   ·refine .gtf (λH=>?_) λH=>?_
    ·have:J0 x1.2.2.2.2<=B:=h.e.1;have:=J3 (l:=x1.2.2.2.2);have:J0 x1.2.2.2.2=_:=Jj h.e;refine .gt (λI=>?_) λI=>?_
     ·exact .some trivial
     ·refine Jd (τ:=Int) (λq=>(J0 x1.1,q,x1)) (λq=>(Ty.fit 0 0 (.i .i64) q/\0<=q/\(q<=J0 x1.1\/q<=0))) (λq=>J0 x1.1-q) ?_ 0 rfl ?_
      ·rintro k ⟨x,Y,R⟩;unfold J9r
       try dsimp only
       have:=J2.1 x;refine .lt (λw=>?_) λw=>?_
       ·refine .bind (Ji h.1) λy3 a1=>.ne (λC=>?_) λC=>?_
        ·exact .some trivial
        ·have:=Jh k 1;exact .some ⟨J1 .i64 k 1,rfl,⟨J5,om,om⟩,om,om⟩
       ·refine .inr ?_;have:J0 x1.2.2.1<=B:=h.c.1.1;have:=J3 (l:=x1.2.2.1);refine Jd (τ:=Int) (λq=>(J0 x1.1,q,x1)) (λq=>(Ty.fit 0 0 (.i .i64) q/\0<=q/\(q<=J0 x1.2.2.1\/q<=0))) (λq=>J0 x1.2.2.1-q) ?_ 0 rfl ?_
        ·rintro g ⟨r,U,P⟩;unfold J9X
         try dsimp only
         have:=J2.1 r;refine .lt (λA=>?_) λA=>?_
         ·refine .bind (Ji h.c.1) λy5 T=>.ltf (λD=>?_) λD=>?_
          ·refine .bind (Ji h.c.1) λy6 M=>.gef (λo=>?_) λo=>?_
           ·refine .gt (λE=>?_) λE=>?_
            ·have:=J0E g 1;refine .bind (Ji h.c.1) λy7 W=>.bind (Ji h.c.1) λy8 a0=>.ge (λF=>?_) λF=>?_
             ·exact .some trivial
             ·have:=Jh g 1;exact .some ⟨J1 .i64 g 1,rfl,⟨J5,om,om⟩,om,om⟩
            ·have:=Jh g 1;exact .some ⟨J1 .i64 g 1,rfl,⟨J5,om,om⟩,om,om⟩
           ·exact .some trivial
          ·exact .some trivial
         ·refine .inr ?_;refine Jd (τ:=Int) (λq=>(q,x1)) (λq=>(Ty.fit 0 0 (.i .i64) q/\0<=q/\(q<=J0 x1.2.2.2.2\/q<=0))) (λq=>J0 x1.2.2.2.2-q) ?_ 0 rfl ?_
          ·rintro j ⟨n,N,Q⟩;unfold J9B
           try dsimp only
           have:=J2.1 n;refine .lt (λz=>?_) λz=>?_
           ·refine .bind (Ji h.e) λO G=>.bind (Jy4 (B:=B) (S:=S) (⟨h,G.1⟩)) λa2 V=>.not (λv=>?_) λv=>?_
            ·exact .some trivial
            ·have:=Jh j 1;exact .some ⟨J1 .i64 j 1,rfl,⟨J5,om,om⟩,om,om⟩
           ·exact .some trivial
          ·try dsimp only
           exact⟨fk0,oo,oo⟩
        ·try dsimp only
         exact⟨fk0,oo,oo⟩
      ·try dsimp only
       exact⟨fk0,oo,oo⟩
    ·exact .some trivial
   ·exact .some trivial
  ·exact .some trivial
 ·exact .some trivial
theorem JaL{B S:Int}{x1:J5E}(h:Ty.fit B S JqZ x1)(n:BS B S 0 0:=by omega)(o:B<=9223372036854775807:=by omega):Tot (J2c x1) λy=>Ty.fit 0 0 (.i .i64) y:=by
 unfold J2c;refine .bind (JwI h.1) λq h1=>.not (λe=>?_) λe=>?_
 ·exact .some (fkn 15)
 ·refine .ite (λg=>?_) λg=>?_
  ·exact .some (fkn 10)
  ·have:=J2.1 h.2;refine .ltf (λk=>?_) λk=>?_
   ·have:J0 x1.1.1<=B:=h.1.1.1;refine .ge (λj=>?_) λj=>?_
    ·exact .some (fkn 1)
    ·exact .some fk0
   ·exact .some (fkn 1)
section
variable {B S:Int}
def DOk(x:J0i):Prop:=1<=J0 x.1/\J0 x.1<=64/\0<=x.2.1/\x.2.1<=1099511627776/\J0 x.2.2.2.2<=64/\(∀(j:Nat) (s:List UInt8),x.1[j]?=some s->J0 s=256)/\J0 x.2.2.1<=64/\ ∀(j:Nat) (f:JN),x.2.2.2.2[j]?=some f->J2N (x,f)=some true
theorem JyF{d:J0i}{f:JN}(e:J2N (d,f)=some true):0<=f.2.2.1/\f.2.2.1<J0 d.1/\0<=f.2.2.2.1/\f.2.2.2.1<J0 d.1/\0<=f.2.2.2.2.1/\f.2.2.2.2.1<256:=by
 have g:Par (J2N (d,f)) λy=>y=true->0<=f.2.2.1/\f.2.2.1<J0 d.1/\0<=f.2.2.2.1/\f.2.2.2.1<J0 d.1/\0<=f.2.2.2.2.1/\f.2.2.2.2.1<256:=by unfold J2N;dsimp only;refine .lef (λ_=>.gtf (λ_=>.ltf (λ_=>.gef (λ_=>.ltf (λ_=>.gef (λ_=>.ltf (λ_=>.ge (λ_=>.some nofun) λ_=>?_) λ_=>.some nofun) λ_=>.some nofun) λ_=>.some nofun) λ_=>.some nofun) λ_=>.some nofun) λ_=>.some nofun) λ_=>.some nofun;intro _ _ _;omega
 exact g _ e rfl
theorem JbP{x:J0i}(e:J2O x=some true):DOk x:=by
 have w:Par (J2O x) λy=>y=true->DOk x:=by
  unfold J2O;refine .ltf (λr=>.gtf (λv=>.ltf (λB=>.gtf (λD=>.gt (λ_=>.some nofun) λC=>?_) λ_=>.some nofun) λ_=>.some nofun) λ_=>.some nofun) λ_=>.some nofun;refine .while (λz=>z.1=J0 x.1/\z.2.2=x/\0<=z.2.1/\ ∀(j:Nat) (s:List UInt8),(j:Int)<z.2.1->x.1[j]?=some s->J0 s=256) ⟨rfl,rfl,J0G _,λj e h1=>by dsimp only at h1;omega⟩ ?_;rintro⟨n,i,z⟩ ⟨hn,hz,k,h⟩;dsimp only at hn hz;subst hz;subst hn;dsimp only at k h r v B D C;unfold J9r;dsimp only;refine .lt (λc=>?_) λc=>.map ?_
  ·have A:=Jh i 1;refine .bind λs hs=>.ne (λ_=>.some nofun) λo=>.some ⟨rfl,rfl,?_,λj t hj he=>?_⟩
   ·show 0<=J1 .i64 i 1;omega
   have hj:(j:Int)<J1 .i64 i 1:=hj;by_cases hl:(j:Int)<i
   ·exact h j t hl he
   ·have:j=i.toNat:=by omega
    subst this;rw[(J3L hs).2]at he;injection he with he;subst he
    exact o
  have hp: ∀(j:Nat) (s:List UInt8),z.1[j]?=some s->J0 s=256:=λj s he=>h j s (by have:=J8t he;omega) he;refine .while (λy=>y.1=J0 z.1/\y.2.2=z/\0<=y.2.1/\y.2.1<=J0 z.1/\ ∀(j:Nat) (f:Int),(j:Int)<y.2.1->z.2.2.1[j]?=some f->(j:Int)<=f/\f<J0 z.1) ⟨rfl,rfl,J0G _,by dsimp only;omega,λj e h1=>by dsimp only at h1;omega⟩ ?_;rintro⟨n,i,z⟩ ⟨hn,hz,k,q,h⟩;dsimp only at hn hz;subst hz;subst hn;dsimp only at k h q;unfold J9X;dsimp only;have A:=Jh i 1;have:=J0E i 1;refine .lt (λc=>?_) λc=>.map ?_
  ·refine .bind λs hs=>.ltf (λo=>.bind λs' hs'=>.gef (λI=>?_) λ_=>.some nofun) λ_=>.some nofun;rw[hs]at hs';injection hs' with hs';subst hs'
   have E:i<=s->(J0 z.1=J0 z.1/\z=z/\0<=J1 .i64 i 1/\J1 .i64 i 1<=J0 z.1/\ ∀(j:Nat) (f:Int),(j:Int)<J1 .i64 i 1->z.2.2.1[j]?=some f->(j:Int)<=f/\f<J0 z.1):=by
    intro H;refine⟨rfl,rfl,oo,oo,λj g hj he=>?_⟩;by_cases hl:(j:Int)<i
    ·exact h j g hl he
    ·have:j=i.toNat:=by omega
     subst this;rw[(J3L hs).2]at he;injection he with he;subst he
     omega
   refine .gt (λJ=>.bind λF h4=>.bind λK h5=>.ge (λ_=>.some nofun) λL=>.some (E ?_)) λ_=>.some (E oo);obtain⟨_,G⟩:=J3L h4;rw[hs]at h5;injection h5 with h5;subst h5
   have:=h _ F oo G;omega
  have hu:J0 z.2.2.1<=64:=by omega
  refine .while (λy=>y.2=z/\0<=y.1/\ ∀(j:Nat) (f:JN),(j:Int)<y.1->z.2.2.2.2[j]?=some f->J2N (z,f)=some true) ⟨rfl,J0G _,λj e h1=>by dsimp only at h1;omega⟩ ?_;rintro⟨i,z⟩ ⟨rfl,k,h⟩;dsimp only at k h r v B D C hu hp;unfold J9B;dsimp only;refine .lt (λc=>?_) λc=>.some λ_=>⟨oo,oo,oo,oo,oo,hp,hu,λj f he=>h j f (by have:=J8t he;omega) he⟩;have A:=Jh i 1;refine .bind λs hs=>.bind λb hb=>.not (λ_=>.some nofun) λo=>.some ⟨rfl,?_,λj t hj he=>?_⟩
  ·show 0<=J1 .i64 i 1;omega
  subst o;have hj:(j:Int)<J1 .i64 i 1:=hj;by_cases hl:(j:Int)<i
  ·exact h j t hl he
  ·have:j=i.toNat:=by omega
   subst this;rw[(J3L hs).2]at he;injection he with he;subst he
   exact hb
 exact w _ e rfl
theorem DOk.fit{x:J0i}(k:DOk x)(h:Ty.fit B S JS x):Ty.fit 64 256 JS x:=by
 obtain⟨h1,h2,h3,h4,h5⟩:=h;obtain⟨g,v,q,w,r,e,o,n⟩:=k;refine⟨⟨?_,λs hs=>?_⟩,h2,⟨?_,h3.2⟩,trivial,?_,λf hf=>h5.2 f hf⟩
 ·show J0 x.1<=64;omega
 ·obtain⟨j,hj⟩:=JbU.1 hs;show J0 s<=256;have:=e j s hj;omega
 ·show J0 x.2.2.1<=64;omega
 ·show J0 x.2.2.2.2<=64;omega
theorem JaM{x:J5E}(e:J2c x=some 0):J2O x.1=some true/\0<=x.2/\x.2<J0 x.1.1:=by
 have g:Par (J2c x) λy=>y=0->J2O x.1=some true/\0<=x.2/\x.2<J0 x.1.1:=by unfold J2c;refine .bind λb hb=>.not (λ_=>.some nofun) λc=>.ite (λ_=>.some nofun) λ_=>.ltf (λ_=>.ge (λ_=>.some nofun) λ_=>.some λ_=>⟨c▸hb,oo,oo⟩) λ_=>.some nofun
 exact g _ e rfl
theorem JtN{x:J5E}{y:Int}(h:Ty.fit B S JqZ x)(e:J2c x=some y)(c:y=0):(0<=x.2/\x.2<J0 x.1.1/\J0 x.1.1<=64)/\Ty.fit 64 256 JS x.1:=by subst c;obtain⟨h1,h2,h3⟩:=JaM e;have k:=JbP h1;exact⟨⟨h2,h3,k.2.1⟩,k.fit h.1⟩
theorem JEY{w:Int}{un:List Int}{dead:Bool}{e k:Int}{s:List UInt8}{ps:List (List UInt8)}{fs:List JN}(hu:Ty.fit B 0 (.l (.i .i64)) un)(hw:Ty.fit 0 0 (.i .i64) e)(C:0<=e)(h1:e<J0 ps)(hk:0<=k)(z:k<=256)(hs:J0 s=256)(hp: ∀x∈ps,J0 x=256)(G:B<=1000)(A:0<=B):Tot (J1s (w,un,dead,e,s,k,ps,fs)) λy=> ∃n g,y=(w,n,dead,g,fs)/\Ty.fit (B+1) 0 (.l (.i .i64)) n/\J0 g=J0 ps/\ ∀x∈g,J0 x=256:=by
 unfold J1s;dsimp only;have j:e.toNat<ps.length:=by unfold J0 at h1;omega
 have o:=hp _ (JdZ j);refine .bind (JB8 oo oo) λH h2=>.bind (J5j (l:=ps)) λ_ _=>?_;have v:lat ps e.toNat=some ps[e.toNat]:=by unfold lat;rw[JD j]
 rw[v];show Tot ((J0B ps[e.toNat] (some k) none).bind _) _;refine .bind (JrK oo oo) λD h5=>.bind (J66) λE F=>.bind (J5j (l:=ps)) λ_ _=>?_;show Tot ((J55 (un,e)).bind _) _;refine .bind (Jsb (B:=B) (S:=0) ⟨hu,hw.u⟩) λq r=>.some ⟨q,_,rfl,r,J5z,λx hx=>?_⟩;rcases JuC hx with h|rfl
 ·exact hp x h
 ·have:=h2.2;have:=h5.2;omega
theorem JIK{b n:Int}{un:List Int}(h:Ty.fit b 0 (.l (.i .i64)) un)(hn:Ty.fit 0 0 (.i .i64) n)(hb:b<=17179869183:=by omega):Tot (J4I (un,n)) λy=>Ty.fit (b+1) 0 (.l (.i .i64)) y:=by
 unfold J4I;have hl:J0 un<=b:=h.1;have C:=J3 (l:=un);refine Jd (τ:=Bool×Int×List Int) (λq=>(un,n,q.1,q.2.1,q.2.2)) (λq=>0<=q.2.1/\q.2.1<=J0 un/\Ty.fit (b+1) 0 (.l (.i .i64)) q.2.2/\J0 q.2.2<=q.2.1+1/\(q.1=false->J0 q.2.2<=q.2.1)) (λq=>J0 un-q.2.1) ?_ (false,0,[]) rfl ⟨J0G _,C,Ja,by show(0:Int)<=0+1;omega,λ_=>J0G _⟩;rintro⟨done,i,out⟩ ⟨z,h1,h2,h3,h4⟩;dsimp only at z h1 h2 h3 h4;unfold Ji8;dsimp only;have:=Jh i 1;have app: ∀{x:Int} {l:List Int},Ty.fit (b+1) 0 (.l (.i .i64)) l->Ty.fit (b+1) 0 (.i .i64) x->J0 l+1<=b+1->Tot (Jz 8 l [x]) λr=>Ty.fit (b+1) 0 (.l (.i .i64)) r/\J0 r=J0 l+1:=λhl hx D=>
  (J0n (B:=b+1) (Bl:=b+1) (Bm:=b+1) (S:=0) _ 1 hl (J0d oo hx) rfl rfl (J0G _) (J0G _) D oo (by decide)).mono λ_ h=>⟨h.1,h.2.1⟩
 have w:Ty.fit (b+1) 0 (.i .i64) n:=hn;refine .lt (λc=>?_) λc=>Tot.map (P:=λy=>Ty.fit (b+1) 0 (.l (.i .i64)) y) ?_ λ_ h=>h
 ·have j:Tot (idx un i) λr=>Ty.fit (b+1) 0 (.i .i64) r:=(Ji h z c).mono λ_ h=>h.1;refine .not (λd=>?_) λd=>?_
  ·have h4:=h4 d;refine .bind j λE I=>.ge (λ_=>.bind (app h2 w oo) λH v=>.bind j λF G=>.ne (λ_=>.bind j λA o=>.bind (app v.1 o oo) λk g=>?_) λ_=>?_) λ_=>.bind j λF G=>.ne (λ_=>.bind j λA o=>.bind (app h2 o oo) λk g=>?_) λ_=>?_
   ·have:=g.2;have:=v.2;exact .some ⟨(_,_,_),rfl,⟨by show 0<=J1 .i64 i 1;omega,by show J1 .i64 i 1<=_;omega,g.1,by show J0 k<=J1 .i64 i 1+1;omega,nofun⟩,by show J0 un-J1 .i64 i 1<J0 un-i;omega,by show 0<=J0 un-i;omega⟩
   ·have:=v.2;exact .some ⟨(_,_,_),rfl,⟨by show 0<=J1 .i64 i 1;omega,by show J1 .i64 i 1<=_;omega,v.1,by show J0 H<=J1 .i64 i 1+1;omega,nofun⟩,by show J0 un-J1 .i64 i 1<J0 un-i;omega,by show 0<=J0 un-i;omega⟩
   ·have:=g.2;exact .some ⟨(_,_,_),rfl,⟨by show 0<=J1 .i64 i 1;omega,by show J1 .i64 i 1<=_;omega,g.1,by show J0 k<=J1 .i64 i 1+1;omega,λ_=>by show J0 k<=J1 .i64 i 1;omega⟩,by show J0 un-J1 .i64 i 1<J0 un-i;omega,by show 0<=J0 un-i;omega⟩
   ·exact .some ⟨(_,_,_),rfl,⟨by show 0<=J1 .i64 i 1;omega,by show J1 .i64 i 1<=_;omega,h2,by show J0 out<=J1 .i64 i 1+1;omega,λ_=>by show J0 out<=J1 .i64 i 1;omega⟩,by show J0 un-J1 .i64 i 1<J0 un-i;omega,by show 0<=J0 un-i;omega⟩
  ·refine .bind j λE I=>.ne (λ_=>.bind j λA o=>.bind (app h2 o oo) λk g=>?_) λ_=>?_
   ·have:=g.2;exact .some ⟨(_,_,_),rfl,⟨by show 0<=J1 .i64 i 1;omega,by show J1 .i64 i 1<=_;omega,g.1,by show J0 k<=J1 .i64 i 1+1;omega,λe=>by rw[d]at e;cases e⟩,by show J0 un-J1 .i64 i 1<J0 un-i;omega,by show 0<=J0 un-i;omega⟩
   ·exact .some ⟨(_,_,_),rfl,⟨by show 0<=J1 .i64 i 1;omega,by show J1 .i64 i 1<=_;omega,h2,by show J0 out<=J1 .i64 i 1+1;omega,λe=>by rw[d]at e;cases e⟩,by show J0 un-J1 .i64 i 1<J0 un-i;omega,by show 0<=J0 un-i;omega⟩
 ·exact .not (λd=>.bind (app h2 w (by have:=h4 d;omega)) λy f=>.some f.1) λ_=>.some h2
def FOk(n:Int)(f:JN):Prop:=0<=f.2.2.1/\f.2.2.1<n/\0<=f.2.2.2.1/\f.2.2.2.1<n/\0<=f.2.2.2.2.1/\f.2.2.2.2.1<256/\Ty.fit 0 0 JL f
def JAp(n:Int)(ps:List (List UInt8)):Prop:=J0 ps=n/\ ∀x∈ps,J0 x=256
def WOk(n:Int)(y:J5E):Prop:=Ty.fit 256 256 JqZ y
theorem Jf6{n:Int}(d:J0i)(A:List JN)(I:List (List UInt8))(C:Int)(E:List Int)(z:Bool){ps:List (List UInt8)}(D J:List JN){w:Int}{un:List Int}{dead:Bool}{e rest:List JN}
  (hn:n<=64) (hp:JAp n ps) (hw:Ty.fit 0 0 (.i .i64) w) (hu:Ty.fit 65 0 (.l (.i .i64)) un) (N:J0 e<=64) (hf: ∀f∈e,FOk n f) (hr:Ty.fit 64 0 (.l JL) rest):
  Tot (Jf J5m (0,d,A,I,C,E,z,ps,D,J,w,un,dead,e,rest)) (WOk n):=by
 refine Jd (τ:=Int×List (List UInt8)×List Int×Bool) (λq=>(q.1,d,A,I,C,E,z,q.2.1,D,J,w,q.2.2.1,q.2.2.2,e,rest)) (λq=>0<=q.1/\q.1<=J0 e/\JAp n q.2.1/\ ∃b:Int,b<=65+2*q.1/\Ty.fit b 0 (.l (.i .i64)) q.2.2.1) (λq=>J0 e-q.1) ?_ (0,ps,un,dead) rfl ⟨J0G _,J3,hp,65,oo,hu⟩;rintro⟨i,ps,un,dead⟩ ⟨B,h1,⟨j,g⟩,b,hb,hu⟩;dsimp only at B h1 j g hb hu;unfold J5m;dsimp only;have:=Jh i 1;refine .lt (λc=>?_) λc=>.some ?_
 ·have k:i.toNat<e.length:=by unfold J0 at c;omega
  refine .bind (J5j (l:=e) B c) λ_ _=>?_;have V:lat e i.toNat=some e[i.toNat]:=by unfold lat;rw[JD k]
  rw[V];show Tot (if eqI e[i.toNat].1 4=true then _ else _) _;obtain⟨v,S,U,T,y,R,F⟩:=hf _ (JdZ k);generalize e[i.toNat]=f at v S U T y R F;refine .eq (λO=>?_) λO=>.eq (λP=>?_) λP=>.eq (λQ=>?_) λQ=>?_
  ·have o:f.2.2.1.toNat<ps.length:=by unfold J0 at j;omega
   have r:=g _ (JdZ o);refine .bind (J5j (l:=ps) v oo) λ_ _=>?_;have L:lat ps f.2.2.1.toNat=some ps[f.2.2.1.toNat]:=by unfold lat;rw[JD o]
   rw[L];show Tot ((inb (toByt ps[f.2.2.1.toNat]).length f.2.2.2.2.1).bind _) _;have G:J0 (toByt ps[f.2.2.1.toNat])=256:=by rw[JHW];exact r
   have K:f.2.2.2.2.1.toNat<(toByt ps[f.2.2.1.toNat]).length:=by unfold J0 at G;omega
   refine .bind (J5j (l:=toByt ps[f.2.2.1.toNat]) y oo) λ_ _=>?_;have M:lat (toByt ps[f.2.2.1.toNat]) f.2.2.2.2.1.toNat=some (toByt ps[f.2.2.1.toNat])[f.2.2.2.2.1.toNat]:=by unfold lat;rw[JD K]
   rw[M];show Tot ((inb (toByt ps[f.2.2.1.toNat]).length f.2.2.2.2.1).bind _) _;refine .bind (J5j (l:=toByt ps[f.2.2.1.toNat]) y oo) λ_ _=>?_;show Tot ((inb ps.length f.2.2.1).bind _) _;refine .bind (J5j (l:=ps) v oo) λ_ _=>.some ⟨(_,_,_,_),rfl,⟨?_,?_,⟨?_,λx hx=>?_⟩,b,?_,hu⟩,?_,?_⟩
   ·show 0<=J1 .i64 i 1;omega
   ·show J1 .i64 i 1<=J0 e;omega
   ·exact J5z.trans j
   ·rcases JuC hx with h|rfl
    ·exact g x h
    ·rw[J7l,J5z];exact G
   ·show b<=65+2*J1 .i64 i 1;omega
   ·show J0 e-J1 .i64 i 1<J0 e-i;omega
   ·show 0<=J0 e-i;omega
  ·refine .bind (JIK hu F.2.2.1) λW H=>.some ⟨(_,_,_,_),rfl,⟨?_,?_,⟨j,g⟩,b+2,?_,H.u⟩,?_,?_⟩
   ·show 0<=J1 .i64 i 1;omega
   ·show J1 .i64 i 1<=J0 e;omega
   ·show b+2<=65+2*J1 .i64 i 1;omega
   ·show J0 e-J1 .i64 i 1<J0 e-i;omega
   ·show 0<=J0 e-i;omega
  all_goals
   refine .some ⟨(_,_,_,_),rfl,⟨?_,?_,⟨j,g⟩,b,?_,hu⟩,?_,?_⟩
   ·show 0<=J1 .i64 i 1;omega
   ·show J1 .i64 i 1<=J0 e;omega
   ·show b<=65+2*J1 .i64 i 1;omega
   ·show J0 e-J1 .i64 i 1<J0 e-i;omega
   ·show 0<=J0 e-i;omega
 ·refine⟨⟨⟨?_,λx hx=>?_⟩,hw.u,hu.u,trivial,hr.u⟩,fk0⟩
  ·show J0 ps<=256;omega
  ·show J0 x<=256;have:=g x hx;omega
end
section
variable {B S:Int}
theorem JsG{n h:Int}{s:List UInt8}(d:J0i)(C:List JN)(G:List (List UInt8))(D:Int)(F:List Int)(B:Bool){ps:List (List UInt8)}(E H:List JN){w:Int}{un:List Int}{dead:Bool}{g rest:List JN}
  (hn:n<=64) (hp:JAp n ps) (hw:Ty.fit 0 0 (.i .i64) w) (hu:Ty.fit 64 0 (.l (.i .i64)) un) (z:J0 g<=64) (hf: ∀f∈g,FOk n f) (hr:Ty.fit 64 0 (.l JL) rest)
  (hs:J0 s=256) (N:0<=h) (g1:h<n) (J:Ty.fit 0 0 (.i .i64) h):
  Tot (Jf J9M (h,s,false,0,d,C,G,D,F,B,ps,E,H,w,un,dead,g,rest)) (WOk n):=by
 refine Jd (τ:=Bool×Int×List (List UInt8)×List Int) (λq=>(h,s,q.1,q.2.1,d,C,G,D,F,B,q.2.2.1,E,H,w,q.2.2.2,dead,g,rest)) (λq=>0<=q.2.1/\q.2.1<=J0 g/\JAp n q.2.2.1/\Ty.fit 65 0 (.l (.i .i64)) q.2.2.2/\(q.1=false->Ty.fit 64 0 (.l (.i .i64)) q.2.2.2)) (λq=>J0 g-q.2.1) ?_ (false,0,ps,un) rfl ⟨J0G _,J3,hp,hu.u,λ_=>hu⟩;rintro⟨done,i,ps,un⟩ ⟨K,h1,⟨r,v⟩,hu,hd⟩;dsimp only at K h1 r v hu hd;unfold J9M;dsimp only;have:=Jh i 1;have A: ∀{h k:Int},done=false->0<=h->h<n->Ty.fit 0 0 (.i .i64) h->0<=k->k<=256->Tot (J1s (w,un,dead,h,s,k,ps,rest)) λy=> ∃j o,y=(w,j,dead,o,rest)/\Ty.fit 65 0 (.l (.i .i64)) j/\JAp n o:=λe a1 a2 a3 U S=>
  (JEY (hd e) a3 a1 oo U S hs v oo oo).mono λy ⟨j,o,h1,h2,h3,h4⟩=>⟨j,o,h1,h2,h3.trans r,h4⟩
 have fin:Tot (if Jo done=true then(J1s (w,un,dead,h,s,256,ps,rest)).bind λx=>Jf J5m (0,d,C,G,D,F,B,x.2.2.2.1,E,H,x.1,x.2.1,x.2.2.1,g,x.2.2.2.2)else Jf J5m (0,d,C,G,D,F,B,ps,E,H,w,un,dead,g,rest)) (WOk n):=by refine .not (λe=>.bind (A e N g1 J oo oo) λy ⟨j,o,hy,h2,h3⟩=>?_) λ_=>Jf6 _ _ _ _ _ _ _ _ hn ⟨r,v⟩ hw hu z hf hr;subst hy;exact Jf6 _ _ _ _ _ _ _ _ hn h3 hw h2 z hf hr
 refine .lt (λc=>.not (λe=>?_) λe=>.inr fin) λc=>.inr fin;have I:i.toNat<g.length:=by unfold J0 at c;omega
 refine .bind (J5j (l:=g) K c) λ_ _=>?_;have e4:lat g i.toNat=some g[i.toNat]:=by unfold lat;rw[JD I]
 have L:inb g.length i=some ():=by unfold inb;rw[if_pos ⟨K,by unfold J0 at c;exact c⟩]
 rw[e4];obtain⟨R,Z,Q,P,O,Y,M⟩:=hf _ (JdZ I);generalize g[i.toNat]=f at R Z Q P O Y M;show Tot (if eqI f.1 1=true then _ else _) _;refine .eq (λT=>?_) λT=>.eq (λV=>?_) λV=>.eq (λW=>?_) λW=>?_
 ·exact .some ⟨(_,_,_,_),rfl,⟨by show 0<=J1 .i64 i 1;omega,by show J1 .i64 i 1<=J0 g;omega,⟨r,v⟩,hu,nofun⟩,by show J0 g-J1 .i64 i 1<J0 g-i;omega,by show 0<=J0 g-i;omega⟩
 ·rw[L];show Tot ((J1s _).bind _) _;refine .bind (A e Q P M.2.2.2.1 oo oo) λy ⟨j,o,hy,h2,h3⟩=>?_;subst hy;exact .some ⟨(_,_,_,_),rfl,⟨by show 0<=J1 .i64 i 1;omega,by show J1 .i64 i 1<=J0 g;omega,h3,h2,nofun⟩,by show J0 g-J1 .i64 i 1<J0 g-i;omega,by show 0<=J0 g-i;omega⟩
 ·rw[L];show Tot ((J1s _).bind _) _;refine .bind (A e N g1 J O oo) λy ⟨j,o,hy,h2,h3⟩=>?_;subst hy;exact .some ⟨(_,_,_,_),rfl,⟨by show 0<=J1 .i64 i 1;omega,by show J1 .i64 i 1<=J0 g;omega,h3,h2,nofun⟩,by show J0 g-J1 .i64 i 1<J0 g-i;omega,by show 0<=J0 g-i;omega⟩
 ·exact .some ⟨(_,_,_,_),rfl,⟨by show 0<=J1 .i64 i 1;omega,by show J1 .i64 i 1<=J0 g;omega,⟨r,v⟩,hu,hd⟩,by show J0 g-J1 .i64 i 1<J0 g-i;omega,by show 0<=J0 g-i;omega⟩
theorem JHJ{x:J0i}(g:Ty.fit 64 256 JS x):J6V x=some (x.2.1,x.2.2.1,x.2.2.2.1,x.1,x.2.2.2.2):=by obtain⟨r,hr,e⟩:=(Jt6 (bytes:=16) g.1 oo (by decide));obtain⟨n,j,e2⟩:=(Jt6 (bytes:=8) g.2.2.1 oo (by decide));obtain⟨o,h,k⟩:=(Jt6 (bytes:=48) g.2.2.2.2 oo (by decide));subst e e2 k;unfold J6V;have q3:J1T (α:=JN) 48 x.2.2.2.2=some x.2.2.2.2:=h;rw[hr,j,q3];rfl
theorem Jy3{x1:J0i×Int×List UInt8}(h:Ty.fit B S (.pr JS (.pr (.i .i64) .s)) x1)(W:BC B S 0 0:=by omega):Tot (J8N x1) λy=>Ty.fit 256 256 JqZ y:=by
 obtain⟨x,g,s⟩:=x1;obtain⟨hx,z,hs⟩:=h;unfold J8N;dsimp only;have D:Ty.fit 256 256 JS ([],0,[],false,[]):=⟨Ja,fk0,Ja,trivial,Ja⟩;refine .bind ((JaL (x1:=(x,g)) ⟨hx,z⟩).eqn) λy2 h2=>.ne (λ_=>.some ⟨D,h2.1⟩) λT=>.ne (λ_=>.some ⟨D,fkn 2⟩) λY=>.eq (λ_=>.some ⟨D,fkn 21⟩) λZ=>?_;subst T;obtain⟨k,J,g1⟩:=JaM h2.2;have k:=JbP k;have e:Ty.fit 64 256 JS x:=k.fit hx;obtain⟨P,N,Q,V,R,L,I,H⟩:=k;dsimp only at P N Q V R L I H J g1;rw[JHJ e];show Tot (Jf J9P _) _;dsimp only;have hw:Ty.fit 0 0 (.i .i64) (J1 .i64 x.2.1 1):=J5;have M: ∀{i:Int} {f:JN},idx x.2.2.2.2 i=some f->FOk (J0 x.1) f:=fun{i f} hf=>by obtain⟨a1,a2⟩:=J3L hf;have w:=JyF (H _ _ a2);exact⟨w.1,w.2.1,w.2.2.1,w.2.2.2.1,w.2.2.2.2.1,w.2.2.2.2.2,e.2.2.2.2.2 f (zQ9 a2)⟩
 refine Jd (τ:=Int×List JN×List JN) (λq=>(g,s,q.1,x,[],[],0,[],false,x.1,x.2.2.2.2,[],J1 .i64 x.2.1 1,x.2.2.1,x.2.2.2.1,q.2.1,q.2.2)) (λq=>0<=q.1/\q.1<=J0 x.2.2.2.2/\J0 q.2.1<=q.1/\J0 q.2.2<=q.1/\Ty.fit 64 0 (.l JL) q.2.1/\Ty.fit 64 0 (.l JL) q.2.2/\ ∀f∈q.2.1,FOk (J0 x.1) f) (λq=>J0 x.2.2.2.2-q.1) ?_ (0,[],[]) rfl ⟨J0G _,J3,J0G _,J0G _,Ja,Ja,nofun⟩;rintro⟨i,A,rest⟩ ⟨G,h1,h3,h4,h5,v,o⟩;dsimp only at G h1 h3 h4 h5 v o;unfold J9P;dsimp only;have:=Jh i 1;have app: ∀{f:JN} {l:List JN},Ty.fit 64 0 (.l JL) l->FOk (J0 x.1) f->J0 l+1<=64->Tot (Jz 48 l [f]) λr=>Ty.fit 64 0 (.l JL) r/\J0 r=J0 l+1/\r=l++[f]:=λhl hx O=>
  (J0n (B:=64) (Bl:=64) (Bm:=64) (S:=0) _ 1 hl (J0d oo hx.2.2.2.2.2.2.u) rfl rfl (J0G _) (J0G _) O oo (by decide))
 refine .lt (λc=>?_) λc=>.inr (JsG _ _ _ _ _ _ _ _ N ⟨rfl,λs hs=>by obtain⟨j,hj⟩:=JbU.1 hs;exact L j s hj⟩ hw ⟨I,e.2.2.1.2⟩ oo o v oo J g1 z);have E:i.toNat<x.2.2.2.2.length:=by unfold J0 at c;omega
 have K:idx x.2.2.2.2 i=some x.2.2.2.2[i.toNat]:=by unfold idx;rw[if_pos G,JD E]
 have n:=M K;rw[K];show Tot (if eqI _ _=true then _ else _) _;refine .eq (λ_=>?_) λ_=>?_
 ·show Tot ((Jz 48 A [_]).bind _) _;refine .bind (app h5 n oo) λr ⟨C,U,F⟩=>.some ⟨(_,_,_),rfl,⟨by show 0<=J1 .i64 i 1;omega,by show J1 .i64 i 1<=_;omega,by show J0 r<=J1 .i64 i 1;omega,by show J0 rest<=J1 .i64 i 1;omega,C,v,λf hf=>?_⟩,by show _-J1 .i64 i 1<_-i;omega,by show 0<=_-i;omega⟩;subst F;rcases J1U.1 hf with hf|hf
  ·exact o f hf
  ·simp at hf;subst hf;exact n
 ·show Tot ((Jz 48 rest [_]).bind _) _;exact .bind (app v n oo) λr ⟨C,U,F⟩=>.some ⟨(_,_,_),rfl,⟨by show 0<=J1 .i64 i 1;omega,by show J1 .i64 i 1<=_;omega,by show J0 A<=J1 .i64 i 1;omega,by show J0 r<=J1 .i64 i 1;omega,h5,C,o⟩,by show _-J1 .i64 i 1<_-i;omega,by show 0<=_-i;omega⟩
theorem JC6{x1:J0i×Int×List UInt8×Int}(h:Ty.fit B S (.pr JS (.pr (.i .i64) JbL)) x1)(K:BC B S 0 0:=by omega):Tot (J9H x1) λy=>Ty.fit 256 256 JqZ y:=by
 obtain⟨x,o,s,L⟩:=x1;obtain⟨hx,n,hs,G⟩:=h;unfold J9H;dsimp only;have g:Ty.fit 256 256 JS ([],0,[],false,[]):=⟨Ja,fk0,Ja,trivial,Ja⟩;refine .bind ((JaL (x1:=(x,o)) ⟨hx,n⟩).eqn) λO h2=>.ne (λ_=>.some ⟨g,h2.1⟩) λE=>.ltf (λM=>.gt (λ_=>.some ⟨g,fkn 1⟩) λN=>.ne (λ_=>.some ⟨g,fkn 2⟩) λF=>?_) λ_=>.some ⟨g,fkn 1⟩;subst E;obtain⟨k,r,g1⟩:=JaM h2.2;have k:=JbP k;have e:Ty.fit 64 256 JS x:=k.fit hx;obtain⟨z,H,C,I,D,v,q,A⟩:=k;dsimp only at z H C I D v q A r g1;rw[JHJ e];show Tot ((J1s _).bind _) _;dsimp only;refine .bind (JEY (B:=64) ⟨q,e.2.2.1.2⟩ n r g1 oo oo F (λs hs=>by obtain⟨j,hj⟩:=JbU.1 hs;exact v j s hj) oo oo) λy ⟨J,w,hy,h2,h3,h4⟩=>?_;subst hy;refine .some ⟨⟨⟨?_,λx hx=>?_⟩,hx.2.1,h2.u,trivial,e.2.2.2.2.u⟩,fk0⟩
 ·show J0 w<=256;omega
 ·show J0 x<=256;have:=h4 x hx;omega
end
theorem J6u{B S:Int}{x1:JY×Int×J06}(h:Ty.fit B S (.pr JI (.pr (.i .i64) J02)) x1)(p0:0<=x1.2.1)(g:x1.2.1<J0 x1.1.2.1)(e:BS B S 0 0:=by omega)(k:B<=34359738368:=by omega):Tot (J2d x1) λy=>Ty.fit B S JI y/\(J0 y.2.1=J0 x1.1.2.1/\y.2.2=x1.1.2.2):=by unfold J2d;have:J0 x1.1.2.1=_:=Jj h.1.2.1;refine .clo h.1.2.1 oo (by decide) ?_;refine .bind (J5j (l:=x1.1.2.1)) λ_ _=>.bind (Jcm h.1.2.1) λn j=>?_;have:J0 (J0t x1.1.2.1 (Int.toNat x1.2.1) x1.2.2)=_:=Jj (J3W (t:=J02) (i:=Int.toNat x1.2.1) (x:=x1.2.2) h.1.2.1 (h.2.z.2.u));have:J0 (J0t x1.1.2.1 (Int.toNat x1.2.1) x1.2.2)=J0 x1.1.2.1:=J5z;exact .some ⟨(⟨h.1.1,J3W (t:=J02) (i:=Int.toNat x1.2.1) (x:=x1.2.2) h.1.2.1 (h.2.z.2.u),h.1.c⟩),om⟩
theorem Jx8{B S:Int}{x1:Jz4}(h:Ty.fit B S JJ1 x1)(J:BG B S:=by omega):Tot (J8W x1) λy=>Ty.fit 64 12 tq7 y:=by
 unfold J8W;refine .bind ((J3l h.1).eqn) λL h1=>.not (λv=>?_) λv=>?_
 ·exact .some (⟨fzr,fkn 15⟩)
 ·have v3:=J2p h.1 h1.2 v;have:J0 x1.1.2.1=_:=Jj h.1.2.1;have e:Ty.fit 64 12 JI x1.1:=v3.2;refine .bind (J4H (B:=64) (S:=12) (⟨e,h.2.1⟩)) λo g=>?_;have:=J2.1 g.1;have: -1<=o/\o<J0 x1.1.2.1:=g.2;refine .lt (λn=>?_) λn=>?_
  ·exact .some (⟨fzr,fkn 18⟩)
  ·refine .bind (Ji e.2.1) λK j=>.gt (λE=>?_) λE=>?_
   ·exact .some (⟨fzr,fkn 9⟩)
   ·refine .not (λx=>?_) λx=>?_
    ·exact .some (⟨e,fk0⟩)
    ·refine .eq (λF=>?_) λF=>?_
     ·refine .bind (J6u (B:=64) (S:=12) (⟨e,g.1,j.1.z.1.u,trivial,fk0,trivial⟩) om om) λH r=>?_;have k:Ty.fit 64 12 JI H:=r.1.u;exact .some (⟨k,fk0⟩)
     ·have:=J2.1 j.1.z.2.2.1;refine .le (λw=>?_) λw=>?_
      ·refine .bind (J6u (B:=64) (S:=12) (⟨e,g.1,j.1.z.1.u,trivial,J5,trivial⟩) om om) λI q=>?_;have A:Ty.fit 64 12 JI I:=q.1.u;exact .some (⟨A,fk0⟩)
      ·refine .bind (J6u (B:=64) (S:=12) (⟨e,g.1,j.1.z.u⟩) om om) λG C=>?_;have D:Ty.fit 64 12 JI G:=C.1.u;exact .some (⟨D,fk0⟩)
theorem JsU{B S:Int}{x1:Jdc}(h:Ty.fit B S Jr7 x1)(L:BG B S:=by omega):Tot (J38 x1) λy=>Ty.fit 16384 1073741824 tq1 y/\(y.2=0->J0 y.1.2.2.1.2.1=J0 x1.1.2.2.1.2.1+1):=by
 unfold J38;refine .bind ((J18 h.1).eqn) λP h1=>.not (λz=>?_) λz=>?_
 ·have:J0 x1.1.2.2.1.2.1<=B:=h.1.c.1.2.1.1;exact .some ⟨(⟨fzr,fkn 15⟩),om⟩
 ·have I:=J1h h.1 h1.2 z;have:J0 x1.1.2.2.1.2.1=_:=Jj h.1.c.1.2.1;have k:Ty.fit 4096 8192 J7 x1.1:=I.2;refine .ltf (λC=>?_) λC=>?_
  ·refine .gef (λr=>?_) λr=>?_
   ·have:=J2.1 h.c;refine .ltf (λA=>?_) λA=>?_
    ·refine .bind (J7m k.c.1) λM K=>.gt (λx=>?_) λx=>?_
     ·exact .some ⟨(⟨fzr,fkn 1⟩),om⟩
     ·refine .bind ((J4C (B:=4096) (S:=8192) (x1:=(x1.1.2.2.2.1,x1.2.1)) (⟨k.d.1,h.2.1⟩)).eqn) λO J=>.ge (λv=>?_) λv=>?_
      ·have E:Ty.fit 16384 1073741824 JJ1 (x1.1.2.2.2.1,x1.2.1,x1.2.2):=⟨k.d.1.u,h.2⟩;refine .bind (Jx8 E) λN n=>.ne (λG=>?_) λG=>?_
       ·exact .some ⟨(⟨fzr,n.2⟩),om⟩
       ·have D:Ty.fit 16384 1073741824 JBT (x1.1,0,7,0,0,0,x1.2.2,(x1.2.1,0,(false,[]),false,[]),[]):=⟨k.u,fk0,fkn 7,fk0,fk0,fk0,h.c,⟨h.2.1,fk0,⟨trivial,Jc⟩,trivial,Jc⟩,Jc⟩;refine .bind ((J4p D).eqn) λq j=>?_;have:J0 q.1.2.2.1.2.1=_:=Jj j.1.1.1.c.1.2.1;have:q.2.2=0->J0 q.1.2.2.1.2.1=J0 x1.1.2.2.1.2.1+1/\J0 x1.1.2.2.1.2.1<=4095/\0<=x1.2.1/\x1.2.1<64/\0<=(0:Int)/\(0:Int)<16:=j.1.2;refine .ne (λw=>?_) λw=>?_
        ·exact .some ⟨(⟨fzr,j.1.1.c⟩),om⟩
        ·exact .some ⟨(⟨⟨j.1.1.1.1,j.1.1.1.2.1,j.1.1.1.c.1,n.1.u,j.1.1.1.e⟩,fk0⟩),om⟩
      ·have F:Ty.fit 16384 1073741824 JBT (x1.1,0,7,0,0,0,x1.2.2,(x1.2.1,0,(false,[]),false,[]),[]):=⟨k.u,fk0,fkn 7,fk0,fk0,fk0,h.c,⟨h.2.1,fk0,⟨trivial,Jc⟩,trivial,Jc⟩,Jc⟩;refine .bind ((J4p F).eqn) λo g=>?_;have:J0 o.1.2.2.1.2.1=_:=Jj g.1.1.1.c.1.2.1;have:o.2.2=0->J0 o.1.2.2.1.2.1=J0 x1.1.2.2.1.2.1+1/\J0 x1.1.2.2.1.2.1<=4095/\0<=x1.2.1/\x1.2.1<64/\0<=(0:Int)/\(0:Int)<16:=g.1.2;refine .ne (λH=>?_) λH=>?_
       ·exact .some ⟨(⟨fzr,g.1.1.c⟩),om⟩
       ·exact .some ⟨(⟨⟨g.1.1.1.1,g.1.1.1.2.1,g.1.1.1.c.1,k.d.1.u,g.1.1.1.e⟩,fk0⟩),om⟩
    ·exact .some ⟨(⟨fzr,fkn 1⟩),om⟩
   ·exact .some ⟨(⟨fzr,fkn 1⟩),om⟩
  ·exact .some ⟨(⟨fzr,fkn 1⟩),om⟩
theorem Jku{B S:Int}{x1:JJK}(h:Ty.fit B S (.pr Jk (.pr J7 Jr)) x1)(n:BG B S:=by omega):Tot (J3k x1) λy=>Ty.fit 16384 1073741824 tq3 y/\(y.2=0->J0 y.1.1.2.2.1.2.1=J0 x1.2.1.2.2.1.2.1+1):=by
 unfold J3k;refine .bind (JaT (B:=0) (S:=S) h.c.z) λq h1=>.bind (Jy3 (B:=B) (S:=S) (⟨h.1.2,h.c.z.1,h1.1.u⟩)) λo h2=>.ne (λk=>?_) λk=>?_
 ·have:J0 x1.2.1.2.2.1.2.1<=B:=h.2.1.c.1.2.1.1;exact .some ⟨(⟨⟨fzr,Ja,fk0,Ja,trivial,Ja⟩,h2.2⟩),om⟩
 ·refine .bind (JsU (B:=B) (S:=S) (⟨h.2.1,h.c.z.1,h.c.z.2.1⟩)) λg e=>?_;have:J0 g.1.2.2.1.2.1=_:=Jj e.1.1.c.1.2.1;have:J0 x1.2.1.2.2.1.2.1=_:=Jj h.2.1.c.1.2.1;have:g.2=0->J0 g.1.2.2.1.2.1=J0 x1.2.1.2.2.1.2.1+1:=e.2;refine .ne (λj=>?_) λj=>?_
  ·exact .some ⟨(⟨⟨fzr,Ja,fk0,Ja,trivial,Ja⟩,e.1.2⟩),om⟩
  ·exact .some ⟨(⟨⟨e.1.1,h2.1.u⟩,fk0⟩),om⟩
theorem JwJ{B S:Int}{x1:J3r}(h:Ty.fit B S tq3 x1)(r:BG B S:=by omega):Tot (J8A x1) λy=>Ty.fit B S tq3 y:=by
 unfold J8A;refine .bind ((JyJ (B:=B) (S:=S) (x1:=(x1.1.1,x1.2)) (⟨h.1.1,h.2⟩)).eqn) λv h1=>.ne (λe=>?_) λe=>?_
 ·exact .some (⟨⟨fzr,Ja,fk0,Ja,trivial,Ja⟩,h1.1.1.2.z.2⟩)
 ·have o:InP x1.1.1.2.2.2.1 x1.2:=JFW (⟨h.1.1,h.2⟩) h1.2 e;refine .bind ((J4C (B:=B) (S:=S) (x1:=(x1.1.1.2.2.2.1,x1.2)) (⟨h.1.1.d.1,h.2⟩)).eqn) λj g=>?_;have:0<=j:=JqC o g.2;have:J0 x1.1.1.2.2.2.1.2.1=_:=Jj h.1.1.d.1.2.1;have: -1<=j/\j<J0 x1.1.1.2.2.2.1.2.1:=g.1.2;refine .bind (Ji h.1.1.d.1.2.1) λw q=>.not (λn=>?_) λn=>?_
  ·exact .some (⟨h.1,fk0⟩)
  ·refine .bind (Jku (B:=B) (S:=S) (⟨h.1,h1.1.1.1.u,h1.1.1.2.z.1.u⟩)) λx k=>.some (k.1.u)
theorem Jah{B S:Int}{x1:JNi}(h:Ty.fit B S (.pr (.l J8) (.pr (.i .i64) (.pr .b J07))) x1)(I:BS B S 0 0:=by omega)(Q:B<=34359738367:=by omega):Tot (J4O x1) λy=>Ty.fit (B+1) 0 (.l J8) y:=by
 unfold J4O;have:J0 x1.1<=B:=h.1.1;have:=J3 (l:=x1.1);have:J0 x1.1=_:=Jj h.1;refine Jd (τ:=Int×(List T_api_Grant)) (λq=>(x1.1,x1.2.1,x1.2.2.1,q.1,x1.2.2.2,q.2)) (λq=>(Ty.fit 0 0 (.i .i64) q.1/\0<=q.1/\(q.1<=J0 x1.1\/q.1<=0))/\(Ty.fit (B+1) 0 (.l J8) q.2/\J0 q.2<=1*q.1+0)) (λq=>J0 x1.1-q.1) ?_ (0,[]) rfl ?_
 ·rintro⟨g,e⟩ o;dsimp only at o;obtain⟨⟨E,K,P⟩,j,L⟩:=o;unfold Jir
  try dsimp only
  have:=J2.1 E;refine .lt (λD=>?_) λD=>?_
  ·refine .bind (Ji h.1) λM G=>.nef (λx=>?_) λx=>?_
   ·refine .ite (λC=>?_) λC=>?_
    ·refine .bind (Ji h.1) λO F=>.not (λr=>?_) λr=>?_
     ·refine .bind (Ji h.1) λN z=>?_;have:J0 e<=(B+1):=j.1;have:J0 e=_:=Jj j;refine .bind (J0n (B:=(B+1)) (Bl:=(B+1)) (Bm:=1) (S:=0) (J0 e) 1 j (J0d (B:=1) (S:=0) (t:=J8) oo z.1)) λA k=>?_;have:=Jh g 1;have:J0 A=_:=Jj k.1;exact .some ⟨(J1 .i64 g 1,A),rfl,⟨⟨J5,om,om⟩,k.1,om⟩,om,om⟩
     ·have H:=J1D.1 r;have:=Jh g 1;have:J0 e=_:=Jj j;exact .some ⟨(J1 .i64 g 1,e),rfl,⟨⟨J5,om,om⟩,j,om⟩,om,om⟩
    ·have:=Jh g 1;have:J0 e=_:=Jj j;exact .some ⟨(J1 .i64 g 1,e),rfl,⟨⟨J5,om,om⟩,j,om⟩,om,om⟩
   ·refine .bind (Ji h.1) λJ v=>?_;have:J0 e<=(B+1):=j.1;have:J0 e=_:=Jj j;refine .bind (J0n (B:=(B+1)) (Bl:=(B+1)) (Bm:=1) (S:=0) (J0 e) 1 j (J0d (B:=1) (S:=0) (t:=J8) oo v.1)) λw n=>?_;have:=Jh g 1;have:J0 w=_:=Jj n.1;exact .some ⟨(J1 .i64 g 1,w),rfl,⟨⟨J5,om,om⟩,n.1,om⟩,om,om⟩
  ·exact .some j
 ·have:J0 ([]:List T_api_Grant)=0:=rfl
  try dsimp only
  exact⟨⟨fk0,oo,oo⟩,Ja,oo⟩
theorem JAQ{B S:Int}{x1:J8J}(h:Ty.fit B S JtZ x1)(p0:0<=x1.2)(M:x1.2<J0 x1.1.2)(F:BS B S 0 0:=by omega)(Q:B<=9223372036854775807:=by omega):Tot (J9v x1) λy=>Ty.fit 0 0 .b y:=by
 unfold J9v;have:=J2.1 h.2;have:J0 x1.1.2<=B:=h.1.2.1;have:J0 x1.1.2=_:=Jj h.1.2;have:J0 x1.1.1<=B:=h.1.1.1;have:=J3 (l:=x1.1.1);have:J0 x1.1.1=_:=Jj h.1.1;refine Jd (τ:=Int) (λq=>(x1.2,q,x1.1)) (λq=>(Ty.fit 0 0 (.i .i64) q/\0<=q/\(q<=J0 x1.1.1\/q<=0))) (λq=>J0 x1.1.1-q) ?_ 0 rfl ?_
 ·rintro g ⟨A,P,C⟩;unfold JiP
  try dsimp only
  have:=J2.1 A;refine .lt (λn=>?_) λn=>?_
  ·refine .bind (Ji h.1.1) λJ v=>.bind (Ji h.1.2) λO k=>.bind (J3D (B:=0) (S:=0) (⟨v.1,k.1⟩)) λL H=>.ite (λw=>?_) λw=>?_
   ·exact .some trivial
   ·have:=Jh g 1;exact .some ⟨J1 .i64 g 1,rfl,⟨J5,om,om⟩,om,om⟩
  ·refine .inr ?_;refine Jd (τ:=Int) (λq=>(x1.2,q,x1.1)) (λq=>(Ty.fit 0 0 (.i .i64) q/\0<=q/\(q<=x1.2\/q<=0))) (λq=>x1.2-q) ?_ 0 rfl ?_
   ·rintro e ⟨r,G,E⟩;unfold JiB
    try dsimp only
    have:=J2.1 r;refine .lt (λx=>?_) λx=>?_
    ·refine .bind (Ji h.1.2) λI z=>.bind (Ji h.1.2) λK o=>.bind (J3D (B:=0) (S:=0) (⟨z.1,o.1⟩)) λN D=>.ite (λj=>?_) λj=>?_
     ·exact .some trivial
     ·have:=Jh e 1;exact .some ⟨J1 .i64 e 1,rfl,⟨J5,om,om⟩,om,om⟩
    ·exact .some trivial
   ·try dsimp only
    exact⟨fk0,oo,oo⟩
 ·try dsimp only
  exact⟨fk0,oo,oo⟩
section
variable {B S:Int}
theorem JCm{x1:JHD}(h:Ty.fit B S (.pr (.l J8) J8) x1)(T:BS B S 0 0:=by omega)(Z:B<=17179869183:=by omega):Tot (Jag x1) λy=>Ty.fit (B+1) S (.l J8) y/\J0 y<=J0 x1.1+1:=by
 obtain⟨un,n⟩:=x1;obtain⟨h,hn⟩:=h;unfold Jag;dsimp only;dsimp only at h hn;have hl:J0 un<=B:=h.1;have K:=J3 (l:=un);refine Jd (τ:=Bool×Int×List T_api_Grant) (λq=>(un,q.1,q.2.1,n,q.2.2)) (λq=>0<=q.2.1/\q.2.1<=J0 un/\Ty.fit (B+1) S (.l J8) q.2.2/\J0 q.2.2<=q.2.1+1/\(q.1=false->J0 q.2.2<=q.2.1)) (λq=>J0 un-q.2.1) ?_ (false,0,[]) rfl ⟨J0G _,K,Ja,by show(0:Int)<=0+1;omega,λ_=>J0G _⟩;rintro⟨done,i,out⟩ ⟨H,h1,h2,h3,h4⟩;dsimp only at H h1 h2 h3 h4;unfold Jhz;dsimp only;have:=Jh i 1;have app: ∀{x:T_api_Grant} {l:List T_api_Grant},Ty.fit (B+1) S (.l J8) l->Ty.fit (B+1) S J8 x->J0 l+1<=B+1->Tot (Jz 32 l [x]) λr=>Ty.fit (B+1) S (.l J8) r/\J0 r=J0 l+1:=λhl hx M=>
  (J0n (B:=B+1) (Bl:=B+1) (Bm:=B+1) (S:=S) _ 1 hl (J0d oo hx) rfl rfl (J0G _) (J0G _) M oo (by decide)).mono λ_ h=>⟨h.1,h.2.1⟩
 have j:Ty.fit (B+1) S J8 n:=hn.u;have G: ∀{d:Bool} {l:List T_api_Grant},i<J0 un->Ty.fit (B+1) S (.l J8) l->J0 l<=i+2->(d=false->J0 l<=i+1)->(∃c':Bool×Int×List T_api_Grant,(un,d,J1 .i64 i 1,n,l)=(un,c'.1,c'.2.1,n,c'.2.2)/\(0<=c'.2.1/\c'.2.1<=J0 un/\Ty.fit (B+1) S (.l J8) c'.2.2/\J0 c'.2.2<=c'.2.1+1/\(c'.1=false->J0 c'.2.2<=c'.2.1))/\J0 un-c'.2.1<J0 un-i/\0<=J0 un-i):=fun{d l} a1 a2 a3 O=>
  ⟨(d,J1 .i64 i 1,l),rfl,⟨by show 0<=J1 .i64 i 1;omega,by show J1 .i64 i 1<=_;omega,a2,by show J0 l<=J1 .i64 i 1+1;omega,λe=>by show J0 l<=J1 .i64 i 1;have:=O e;omega⟩,by show J0 un-J1 .i64 i 1<J0 un-i;omega,oo⟩
 refine .lt (λc=>?_) λc=>Tot.map (P:=λy:List T_api_Grant=>Ty.fit (B+1) S (.l J8) y/\J0 y<=J0 un+1) ?_ λ_ h=>h
 ·have o:Tot (idx un i) λr=>Ty.fit (B+1) S J8 r:=(Ji h H c).mono λ_ h=>h.1.u
  have body: ∀{d:Bool} {l:List T_api_Grant},Ty.fit (B+1) S (.l J8) l->J0 l<=i+1->(d=false->J0 l<=i)->Tot (ρ:=(JJ6)⊕(List T_api_Grant)) ((idx un i).bind λE=>
    if neI E.1 n.1=false then
     (idx un i).bind λv=>
     if Jo (eqT J07 v.2.1 n.2.1)then
      (idx un i).bind λC=>
      (Jz 32 l [C]).bind λw=>
      some (.inl (un,d,J1 .i64 i 1,n,w))
     else
      some (.inl (un,d,J1 .i64 i 1,n,l))
    else
     (idx un i).bind λD=>
     (Jz 32 l [D]).bind λA=>
     some (.inl (un,d,J1 .i64 i 1,n,A))) λr=>match r with
      | .inl z=> ∃c':Bool×Int×List T_api_Grant,z=(un,c'.1,c'.2.1,n,c'.2.2)/\(0<=c'.2.1/\c'.2.1<=J0 un/\Ty.fit (B+1) S (.l J8) c'.2.2/\J0 c'.2.2<=c'.2.1+1/\(c'.1=false->J0 c'.2.2<=c'.2.1))/\J0 un-c'.2.1<J0 un-i/\0<=J0 un-i
      | .inr y=>Ty.fit (B+1) S (.l J8) y/\J0 y<=J0 un+1:=fun{d l} b1 b2 F=>
   .bind o λE R=>.nef (λ_=>.bind o λv U=>.ite (λ_=>.bind o λC I=>.bind (app b1 I oo) λw g=>.some (G c g.1 (by have:=g.2;omega) λe=>by have:=F e;have:=g.2;omega)) λ_=>.some (G c b1 oo λe=>by have:=F e;omega)) λ_=>.bind o λD J=>.bind (app b1 J oo) λA k=>.some (G c k.1 (by have:=k.2;omega) λe=>by have:=F e;have:=k.2;omega)
  refine .not (λd=>?_) λd=>(body h2 h3 h4).mono λr h=>by cases r<;>exact h
  have h4:=h4 d;refine .bind o λN Q=>.bind (JnX (x1:=(N,n)) ⟨Q,j⟩) λW Y=>.not (λ_=>.bind (app h2 j oo) λV L=>?_) λ_=>(body h2 h3 λ_=>h4).mono λr h=>by cases r<;>exact h
  exact(body (d:=true) L.1 (by have:=L.2;omega) λe=>by cases e).mono λr h=>by cases r<;>exact h
 ·exact .not (λd=>.bind (app h2 j (by have:=h4 d;omega)) λy f=>.some ⟨f.1,by have:=f.2;have:=h4 d;omega⟩) λ_=>.some ⟨h2,oo⟩
theorem J5R{x1:JZ}(h:Ty.fit B S Jy x1)(E:BS B S 0 0:=by omega)(I:B<=1000000:=by omega):Tot (J2U x1) λy=>Ty.fit (2*B) S Jy y/\J0 y.1+J0 y.2<=J0 x1.1+J0 x1.2:=by
 unfold J2U;obtain⟨ha,hb⟩:=h;have:J0 x1.1<=B:=ha.1;have:J0 x1.2<=B:=hb.1;refine Jd (τ:=Jfu) (λq=>(q.1,q.2,[],[])) (λq=>0<=q.1/\q.1<=J0 q.2.2/\Ty.fit (2*B) S Jy q.2/\J0 q.2.1+J0 q.2.2<=J0 x1.1+J0 x1.2) (λq=>3000000*J0 q.2.2+(J0 q.2.2-q.1)) ?_ (0,x1) rfl ⟨J0G _,J3,⟨ha.u,hb.u⟩,J0G _⟩;rintro⟨i,z⟩ ⟨g,h1,h2,h3⟩;dsimp only at g h1 h2 h3;unfold JdM;dsimp only;have a1:=Jh i 1;have a2:=Jh (-1) 1;have:=J3 (l:=z.1);have:=J3 (l:=z.2);refine .lt (λc=>?_) λc=>.some ⟨h2,h3⟩;refine .bind (JAQ (x1:=(z,i)) ⟨h2,by rw[J2];omega⟩ g c) λG _=>.ite (λ_=>?_) λ_=>?_
 ·refine .bind (Ji h2.2 g c) λC D=>.bind (JCm (x1:=(z.1,C)) ⟨h2.1,D.1⟩) λk r=>.bind (J5p h2.2 g (by show i<=J0 z.2;omega)) λA n=>.clo n.1 oo (by decide) (.bind (J35 h2.2 oo (by show _<=J0 z.2;omega)) λj o=>?_);have x:J0 A=i:=n.2;have H:J0 j=J0 z.2-J1 .i64 i 1:=o.2;refine .bind (J0n (B:=2*B) (Bl:=2*B) (Bm:=2*B) (S:=S) i (J0 j) n.1 o.1 x rfl oo oo oo oo (by decide)) λe v=>?_;have F:J0 e=i+J0 j:=v.2.1;have w:=r.2;dsimp only at w;refine .some ⟨(J1 .i64 (-1) 1,(k,e)),rfl,⟨by show 0<=J1 .i64 (-1) 1;omega,by show J1 .i64 (-1) 1<=J0 e;omega,⟨⟨by show J0 k<=2*B;omega,r.1.2⟩,v.1⟩,by show J0 k+J0 e<=_;omega⟩,?_,?_⟩
  ·show 3000000*J0 e+(J0 e-J1 .i64 (-1) 1)<3000000*J0 z.2+(J0 z.2-i);omega
  ·show 0<=3000000*J0 z.2+(J0 z.2-i);omega
 ·refine .some ⟨(J1 .i64 i 1,z),rfl,⟨by show 0<=J1 .i64 i 1;omega,by show J1 .i64 i 1<=J0 z.2;omega,h2,h3⟩,?_,?_⟩
  ·show 3000000*J0 z.2+(J0 z.2-J1 .i64 i 1)<3000000*J0 z.2+(J0 z.2-i);omega
  ·show 0<=3000000*J0 z.2+(J0 z.2-i);omega
end
theorem J6L{B S:Int}{x1:J8J}(h:Ty.fit B S JtZ x1)(z:BG B S:=by omega):Tot (J3e x1) λy=>Ty.fit B S Jy y:=by
 unfold J3e;refine .bind ((J41 h.1).eqn) λA h1=>.not (λr=>?_) λr=>?_
 ·exact .some h.1
 ·have v3:=J3p h.1 h1.2 r;have e:Ty.fit 1024 0 Jy x1.1:=v3.2;refine .bind (Jah (B:=1024) (S:=0) (⟨e.1,h.2,trivial,fzr⟩)) λv n=>?_;have g:Ty.fit 1025 0 (.l J8) v:=n.u;refine .bind (Jah (B:=1024) (S:=0) (⟨e.2,h.2,trivial,fzr⟩)) λx j=>?_;have o:Ty.fit 1025 0 (.l J8) x:=j.u;refine .bind (J5R (B:=1025) (S:=0) (⟨g,o⟩)) λw q=>?_;have k:Ty.fit 2050 0 Jy w:=q.1.u;exact .some k.u
theorem J6G{B S:Int}{x1:J1F}(h:Ty.fit B S tq1 x1)(w:BG B S:=by omega):Tot (J16 x1) λy=>Ty.fit 4096 8192 (.pr Jl (.i .i64)) y:=by
 unfold J16;refine .bind ((J18 h.1).eqn) λA h1=>.not (λo=>?_) λo=>?_
 ·exact .some (⟨fzr,fkn 15⟩)
 ·have v3:=J1h h.1 h1.2 o;have e:Ty.fit 4096 8192 J7 x1.1:=v3.2;refine .bind ((J2F (B:=4096) (S:=8192) (x1:=(x1.1.2.2.2.2.2.1,x1.2)) (⟨e.g.1,h.2⟩)).eqn) λn j=>?_;have:=J2.1 j.1.1;have:J0 x1.1.2.2.2.2.2.1=_:=Jj e.g.1;have: -1<=n/\n<J0 x1.1.2.2.2.2.2.1:=j.1.2;refine .lt (λq=>?_) λq=>?_
  ·exact .some (⟨fzr,fkn 16⟩)
  ·refine .bind (Ji e.g.1) λz v=>.eq (λk=>?_) λk=>?_
   ·exact .some (⟨fzr,fkn 15⟩)
   ·refine .bind (Ji e.g.1) λx r=>.some (⟨r.1,fk0⟩)
theorem Jmz{B S:Int}{x1:J1F}(h:Ty.fit B S tq1 x1)(r:BG B S:=by omega):Tot (J3a x1) λy=>Ty.fit 0 8192 JGi y:=by
 unfold J3a;refine .bind (J6G (B:=B) (S:=S) (h)) λg h1=>.nef (λn=>?_) λn=>?_
 ·have:J0 g.1.2.2.2.2.1<=4096:=h1.1.e.1.1;have:=J3 (l:=g.1.2.2.2.2.1);refine .eqf (λq=>?_) λq=>?_
  ·have:=J0E (J0 g.1.2.2.2.2.1) 1;refine .bind (Ji h1.1.e.1) λv w=>.le (λo=>?_) λo=>?_
   ·exact .some (⟨⟨fk0,fk0,fk0,fk0,fk0,fk0,⟨fk0,fk0,⟨trivial,Jc⟩,trivial,Jc⟩,Jc⟩,trivial⟩)
   ·refine .bind (Ji h1.1.e.1) λx k=>.bind (J3E (B:=B) (S:=S) (⟨h.1.c.1,k.1⟩)) λz j=>.some (⟨j.1,trivial⟩)
  ·exact .some (⟨⟨fk0,fk0,fk0,fk0,fk0,fk0,⟨fk0,fk0,⟨trivial,Jc⟩,trivial,Jc⟩,Jc⟩,trivial⟩)
 ·exact .some (⟨⟨fk0,fk0,fk0,fk0,fk0,fk0,⟨fk0,fk0,⟨trivial,Jc⟩,trivial,Jc⟩,Jc⟩,trivial⟩)
end Go.Am
end
section
namespace Go.Am
set_option linter.unusedVariables false
set_option maxRecDepth 20000
set_option maxHeartbeats 4000000
theorem Jkv{B S:Int}{x1:JU×J1M}(h:Ty.fit B S (.pr Jr J0R) x1)(o:BS B S 0 0:=by omega):Tot (J3n x1) λy=>Ty.fit 0 S tq5 y:=by
 unfold J3n;have s0:Ty.fit 0 S (.pr Jr J0R) x1:=h;refine .bind (JbW (B:=0) (S:=S) s0.2) λv h1=>.not (λg=>?_) λg=>?_
 ·exact .some (⟨⟨fk0,fk0,J0c oo oo (.ar 16 JE)⟩,fkn 22⟩)
 ·have:=J2.1 s0.2.1;have:=J2.1 s0.2.2.1;have:0<=x1.2.1/\x1.2.1<64/\0<=x1.2.2.1/\x1.2.2.1<16/\J0 x1.2.2.2.1.2<=12/\J0 x1.2.2.2.2.2<=12:=h1.2 g;refine .ne (λj=>?_) λj=>?_
  ·exact .some (⟨⟨fk0,fk0,J0c oo oo (.ar 16 JE)⟩,fkn 6⟩)
  ·refine .bind (J6b) λ_ _=>.bind (Jco s0.1.2.2) λw k=>.not (λe=>?_) λe=>?_
   ·exact .some (⟨⟨fk0,fk0,J0c oo oo (.ar 16 JE)⟩,fkn 20⟩)
   ·have n:=J1D.1 e;refine .bind (J6b) λ_ _=>.bind (Jco s0.1.2.2) λr q=>.some (⟨⟨s0.1.1,s0.1.2.1,JqM s0.1.2.2 s0.2.2.2.2⟩,fk0⟩)
theorem Js0{B S:Int}{x1:J1M}(h:Ty.fit B S J0R x1)(e:BS B S 0 0:=by omega):Tot (J6E x1) λy=>Ty.fit 0 S J0R y:=by unfold J6E;have s0:Ty.fit 0 S J0R x1:=h;exact .some (⟨s0.1,s0.2.1,s0.2.2.2,s0.2.2.1⟩)
theorem Jmj{B S:Int}{x1:JyZ}(h:Ty.fit B S (.pr Jy Jb) x1)(v:BG B S:=by omega):Tot (J79 x1) λy=>Ty.fit B S Jy y:=by
 unfold J79;refine .bind ((J41 h.1).eqn) λw h1=>.not (λg=>?_) λg=>?_
 ·exact .some h.1
 ·have v3:=J3p h.1 h1.2 g;have e:Ty.fit 1024 0 Jy x1.1:=v3.2;refine .bind (Jah (B:=1024) (S:=0) (⟨e.1,h.2.1,trivial,h.c⟩)) λq k=>?_;have j:Ty.fit 1025 0 (.l J8) q:=k.u;refine .bind (J5R (B:=1025) (S:=0) (⟨j,e.2.u⟩)) λr n=>?_;have o:Ty.fit 2050 0 Jy r:=n.1.u;exact .some o.u
theorem Jti{B S:Int}{x1:Jz2}(h:Ty.fit B S JJC x1)(J:BG B S:=by omega):Tot (J7Q x1) λy=>Ty.fit 64 12 tq7 y:=by
 unfold J7Q;refine .bind ((J3l h.1).eqn) λM h1=>.not (λw=>?_) λw=>?_
 ·exact .some (⟨fzr,fkn 15⟩)
 ·have v3:=J2p h.1 h1.2 w;have:J0 x1.1.2.1=_:=Jj h.1.2.1;have g:Ty.fit 64 12 JI x1.1:=v3.2;refine .bind ((J6f (B:=0) (S:=S) (x1:=x1.2) h.2.z).eqn) λK n=>.ne (λk=>?_) λk=>?_
  ·exact .some (⟨fzr,n.1⟩)
  ·have E:=J6o (x:=x1.2) h.2.z n.2 k;have j:Ty.fit 0 12 Jr x1.2:=E.2;refine .bind (J4H (B:=64) (S:=12) (⟨g,j.1⟩)) λC e=>?_;have:=J2.1 e.1;have: -1<=C/\C<J0 x1.1.2.1:=e.2;refine .lt (λA=>?_) λA=>?_
   ·exact .some (⟨fzr,fkn 18⟩)
   ·refine .bind (Ji g.2.1) λL G=>.le (λD=>?_) λD=>?_
    ·exact .some (⟨fzr,fkn 8⟩)
    ·refine .not (λq=>?_) λq=>?_
     ·refine .bind (J6u (B:=64) (S:=12) (⟨g,e.1,j.u,trivial,j.2.1,trivial⟩) om om) λI r=>?_;have v:Ty.fit 64 12 JI I:=r.1.u;exact .some (⟨v,fk0⟩)
     ·refine .bind (J6u (B:=64) (S:=12) (⟨g,e.1,j.u,trivial,G.1.z.2.2.1,trivial⟩) om om) λH F=>?_;have o:Ty.fit 64 12 JI H:=F.1.u;exact .some (⟨o,fk0⟩)
theorem Jgl{B S:Int}{x1:JtI}(h:Ty.fit B S JBT x1)(r:BG B S:=by omega):Tot (J6r x1) λy=>Ty.fit B S tq1 y/\(y.2=0->J0 y.1.2.2.1.2.1=J0 x1.1.2.2.1.2.1+1):=by
 unfold J6r;refine .bind ((J4p (B:=B) (S:=S) (x1:=(x1.1,x1.2)) (⟨h.1,h.2.z.u⟩)).eqn) λk h1=>?_;have:J0 k.1.2.2.1.2.1=_:=Jj h1.1.1.1.c.1.2.1;have:J0 x1.1.2.2.1.2.1=_:=Jj h.1.c.1.2.1;have:=J2.1 h.2.z.2.2.2.2.2.2.1.2.1;have:k.2.2=0->J0 k.1.2.2.1.2.1=J0 x1.1.2.2.1.2.1+1/\J0 x1.1.2.2.1.2.1<=4095/\0<=x1.2.2.2.2.2.2.2.1.1/\x1.2.2.2.2.2.2.2.1.1<64/\0<=x1.2.2.2.2.2.2.2.1.2.1/\x1.2.2.2.2.2.2.2.1.2.1<16:=h1.1.2;refine .ne (λn=>?_) λn=>?_
 ·exact .some ⟨(⟨h.1,h1.1.1.c⟩),om⟩
 ·refine .bind (J8q (B:=B) (S:=S) (⟨h.1.d.1,h.2.z.2.2.2.2.2.2.1.1⟩)) λw g=>.bind (J6b) λ_ _=>.bind (Jco g.1.c) λx q=>.bind (Jti (B:=B) (S:=S) (⟨h.1.d.1,g.1.1,h1.1.1.2.1,(JqM g.1.c h.2.z.2.2.2.2.2.2.1.2.2.2).u⟩)) λv j=>.ne (λo=>?_) λo=>?_
  ·exact .some ⟨(⟨h.1,j.2⟩),om⟩
  ·exact .some ⟨(⟨⟨h1.1.1.1.1,h1.1.1.1.2.1,h1.1.1.1.c.1.u,j.1.u,h1.1.1.1.e.u⟩,fk0⟩),om⟩
theorem JFR{B S:Int}{x1:JNH}(h:Ty.fit B S (.pr J7 (.pr Jl (.pr J07 (.i .i64)))) x1)(p0:x1.2.2.2<=J0 x1.2.1.2.2.2.2.1)(C:0<=x1.2.2.2)(x:BC B S 0 0:=by omega):Tot (J64 x1) λy=>Ty.fit 0 8192 JGi y:=by
 unfold J64;have:=J2.1 h.d;have:J0 x1.2.1.2.2.2.2.1<=B:=h.2.1.e.1.1;have:=J0E x1.2.2.2 1;refine Jd (τ:=Int) (λq=>(q,x1.1,x1.2.1,x1.2.2.1,0,0,0,0,0,0,(0,0,(false,[]),false,[]),[])) (λq=>(Ty.fit 0 0 (.i .i64) q/\q<=JF .i64 x1.2.2.2 1)) (λq=>q-0) ?_ (JF .i64 x1.2.2.2 1) rfl ?_
 ·rintro g ⟨w,z⟩;unfold JcT
  try dsimp only
  have:=J2.1 w;refine .ge (λv=>?_) λv=>?_
  ·refine .bind (Ji h.2.1.e.1) λA r=>.bind (J3E (B:=B) (S:=S) (⟨h.1.c.1,r.1⟩)) λD j=>.eq (λk=>?_) λk=>?_
   ·have:=J2.1 j.1.h.1.1;refine .eq (λo=>?_) λo=>?_
    ·have:=J2.1 j.1.h.1.2.1;refine .eq (λn=>?_) λn=>?_
     ·exact .some (⟨j.1,trivial⟩)
     ·have:=J0E g 1;exact .some ⟨JF .i64 g 1,rfl,⟨J1O,om⟩,om,om⟩
    ·have:=J0E g 1;exact .some ⟨JF .i64 g 1,rfl,⟨J1O,om⟩,om,om⟩
   ·have:=J0E g 1;exact .some ⟨JF .i64 g 1,rfl,⟨J1O,om⟩,om,om⟩
  ·exact .some (⟨⟨fk0,fk0,fk0,fk0,fk0,fk0,⟨fk0,fk0,⟨trivial,Jc⟩,trivial,Jc⟩,Jc⟩,trivial⟩)
 ·try dsimp only
  exact⟨J1O,oo⟩
theorem JgN{B S:Int}{x1:Jvj}(h:Ty.fit B S JKl x1)(o:BG B S:=by omega):Tot (J2w x1) λy=>Ty.fit 0 8192 JGi y:=by
 unfold J2w;refine .bind (J6G (B:=B) (S:=S) (⟨h.1,h.2.1⟩)) λg h1=>.nef (λj=>?_) λj=>?_
 ·have:=J2.1 h1.1.2.1;refine .ne (λn=>?_) λn=>?_
  ·exact .some (⟨⟨fk0,fk0,fk0,fk0,fk0,fk0,⟨fk0,fk0,⟨trivial,Jc⟩,trivial,Jc⟩,Jc⟩,trivial⟩)
  ·have:J0 g.1.2.2.2.2.1<=4096:=h1.1.e.1.1;have:=J3 (l:=g.1.2.2.2.2.1);refine .bind (JFR (B:=B) (S:=S) (⟨h.1,h1.1.u,h.c,J3N h1.1.e.1.1 oo⟩) om om) λq k=>.some (⟨k.1,trivial⟩)
 ·exact .some (⟨⟨fk0,fk0,fk0,fk0,fk0,fk0,⟨fk0,fk0,⟨trivial,Jc⟩,trivial,Jc⟩,Jc⟩,trivial⟩)
theorem Jd2{B S:Int}{x1:JG4}(h:Ty.fit B S (.pr J7 (.pr Jl J4)) x1)(F:BG B S:=by omega):Tot (J23 x1) λy=>Ty.fit B S tq4 y/\((y.2.1=1/\J0 y.1.2.2.1.2.1=J0 x1.1.2.2.1.2.1+1)\/y.2.1=3\/y.2.1=5):=by
 unfold J23;refine .bind (J8q (B:=B) (S:=S) (⟨h.1.d.1,h.c.z.2.2.2.2.2.2.1.1⟩)) λM h1=>.not (λD=>?_) λD=>?_
 ·have:J0 x1.1.2.2.1.2.1<=B:=h.1.c.1.2.1.1;exact .some ⟨(⟨h.1,fkn 3,fk0,h.c.z.2.2.2.2.2.2.1.1,⟨trivial,Jc⟩,fk0⟩),om⟩
 ·refine .bind (Js0 (B:=0) (S:=S) h.c.z.2.2.2.2.2.2.1) λH k=>.bind (Jkv (B:=0) (S:=S) (⟨h1.1,k⟩)) λL C=>.ne (λA=>?_) λA=>?_
  ·refine .bind (J03 C.2) λJ v=>.some ⟨(⟨h.1,v.1.u⟩),om⟩
  ·refine .bind (Jgl (B:=B) (S:=S) (⟨h.1,fk0,fkn 2,h.2.1.1,fk0,fk0,h.c.z.1,k.u,Jc⟩)) λn j=>?_;have:J0 n.1.2.2.1.2.1=_:=Jj j.1.1.c.1.2.1;have:J0 x1.1.2.2.1.2.1=_:=Jj h.1.c.1.2.1;have:n.2=0->J0 n.1.2.2.1.2.1=J0 x1.1.2.2.1.2.1+1:=j.2;refine .ne (λq=>?_) λq=>?_
   ·refine .bind (J03 j.1.2) λG x=>.some ⟨(⟨h.1,x.1.u⟩),om⟩
   ·have:=J2.1 h.2.1.2.1;refine .eq (λo=>?_) λo=>?_
    ·refine .bind (JgN (B:=B) (S:=S) (⟨j.1.1,h.2.1.1,k.1,k.2.1⟩)) λI E=>.not (λr=>?_) λr=>?_
     ·refine .bind (Jmj (B:=B) (S:=S) (⟨j.1.1.e.1,h.2.1.1,k.1,k.2.1⟩)) λK w=>.some ⟨(⟨⟨j.1.1.1,j.1.1.2.1,j.1.1.c.1,j.1.1.d.1,w,j.1.1.g⟩,fkn 1,h.2.1.1,fk0,⟨trivial,Jc⟩,fk0⟩),om⟩
     ·exact .some ⟨(⟨j.1.1,fkn 1,h.2.1.1,fk0,⟨trivial,Jc⟩,fk0⟩),om⟩
    ·exact .some ⟨(⟨j.1.1,fkn 1,h.2.1.1,fk0,⟨trivial,Jc⟩,fk0⟩),om⟩
theorem JmF{B S:Int}{x1:J1F}(h:Ty.fit B S tq1 x1)(P:BG B S:=by omega):Tot (J1a x1) λy=>Ty.fit B S tq4 y/\((y.2.1=1/\J0 y.1.2.2.1.2.1=J0 x1.1.2.2.1.2.1+1)\/y.2.1=3\/y.2.1=5):=by
 unfold J1a;refine .bind (J6G (B:=B) (S:=S) (h)) λM h1=>.ne (λK=>?_) λK=>?_
 ·refine .bind (J03 h1.2) λR h4=>.some ⟨(⟨h.1,h4.1.u⟩),om⟩
 ·have:=J2.1 h1.1.2.1;refine .eq (λF=>?_) λF=>?_
  ·have:J0 M.1.2.2.2.2.1<=4096:=h1.1.e.1.1;refine .eq (λv=>?_) λv=>?_
   ·refine .bind ((J4p (B:=B) (S:=S) (x1:=(x1.1,0,5,x1.2,0,0,0,(0,0,(false,[]),false,[]),[])) (⟨h.1,fk0,fkn 5,h.2,fk0,fk0,fk0,⟨fk0,fk0,⟨trivial,Jc⟩,trivial,Jc⟩,Jc⟩)).eqn) λr j=>?_;have:J0 r.1.2.2.1.2.1=_:=Jj j.1.1.1.c.1.2.1;have:J0 x1.1.2.2.1.2.1=_:=Jj h.1.c.1.2.1;have:r.2.2=0->J0 r.1.2.2.1.2.1=J0 x1.1.2.2.1.2.1+1/\J0 x1.1.2.2.1.2.1<=4095/\0<=(0:Int)/\(0:Int)<64/\0<=(0:Int)/\(0:Int)<16:=j.1.2;refine .ne (λH=>?_) λH=>?_
    ·refine .bind (J03 j.1.1.c) λU x=>.some ⟨(⟨h.1,x.1.u⟩),om⟩
    ·refine .bind (J6L (B:=16384) (S:=1073741824) (⟨j.1.1.1.e.1,h.2⟩)) λL A=>?_;have E:Ty.fit 16384 1073741824 Jy L:=A.u;exact .some ⟨(⟨⟨j.1.1.1.1,j.1.1.1.2.1,j.1.1.1.c.1.u,j.1.1.1.d.1.u,E.u,j.1.1.1.g.u⟩,fkn 1,fk0,fk0,⟨trivial,Jc⟩,fk0⟩),om⟩
   ·refine .bind (Jmz (B:=B) (S:=S) (h)) λQ D=>.not (λw=>?_) λw=>?_
    ·refine .bind (J03 (B:=0) (S:=0) (fkn 14)) λT C=>.some ⟨(⟨h.1,C.1.u⟩),om⟩
    ·refine .bind (Jd2 (B:=B) (S:=S) (⟨h.1,h1.1.u,D.1.u⟩)) λq o=>?_;have:(q.2.1=1/\J0 q.1.2.2.1.2.1=J0 x1.1.2.2.1.2.1+1)\/q.2.1=3\/q.2.1=5:=o.2;exact .some ⟨(⟨o.1.1,o.1.2.z.u⟩),om⟩
  ·refine .bind (Jmz (B:=B) (S:=S) (h)) λN G=>.not (λI=>?_) λI=>?_
   ·refine .bind (J03 (B:=0) (S:=0) (fkn 14)) λO J=>.some ⟨(⟨h.1,J.1.u⟩),om⟩
   ·refine .bind (Jd2 (B:=B) (S:=S) (⟨h.1,h1.1.u,G.1.u⟩)) λk n=>?_;have:(k.2.1=1/\J0 k.1.2.2.1.2.1=J0 x1.1.2.2.1.2.1+1)\/k.2.1=3\/k.2.1=5:=n.2;exact .some ⟨(⟨n.1.1,n.1.2.z.u⟩),om⟩
theorem JgA{B S:Int}{x1:J1F}(h:Ty.fit B S tq1 x1)(w:BG B S:=by omega):Tot (J5J x1) λy=>Ty.fit 4096 8192 (.pr Jl .b) y:=by
 unfold J5J;refine .bind ((J18 h.1).eqn) λA h1=>.ite (λo=>?_) λo=>?_
 ·have v3:=J1h h.1 h1.2 o;have e:Ty.fit 4096 8192 J7 x1.1:=v3.2;refine .bind ((J2F (B:=4096) (S:=8192) (x1:=(x1.1.2.2.2.2.2.1,x1.2)) (⟨e.g.1,h.2⟩)).eqn) λk n=>?_;have:J0 x1.1.2.2.2.2.2.1=_:=Jj e.g.1;have: -1<=k/\k<J0 x1.1.2.2.2.2.2.1:=n.1.2;refine .ge (λq=>?_) λq=>?_
  ·refine .bind (Ji e.g.1) λz v=>.eq (λj=>?_) λj=>?_
   ·refine .bind (Ji e.g.1) λx r=>.some (⟨r.1,trivial⟩)
   ·exact .some (⟨fzr,trivial⟩)
  ·exact .some (⟨fzr,trivial⟩)
 ·exact .some (⟨fzr,trivial⟩)
theorem JzM{B S:Int}{x1:J9}(h:Ty.fit B S J7 x1)(D:BH B S:=by omega)(K:B<=34359738368:=by omega):Tot (J9Y x1) λy=>Ty.fit B 0 (.l (.i .i64)) y:=by
 unfold J9Y;have:J0 x1.2.2.2.2.2.1<=B:=h.g.1.1;have:=J3 (l:=x1.2.2.2.2.2.1);have:J0 x1.2.2.2.2.2.1=_:=Jj h.g.1;refine Jd (τ:=JyY) (λq=>(q.1,x1,q.2)) (λq=>(Ty.fit 0 0 (.i .i64) q.1/\0<=q.1/\(q.1<=J0 x1.2.2.2.2.2.1\/q.1<=0))/\(Ty.fit B 0 (.l (.i .i64)) q.2/\J0 q.2<=1*q.1+0)) (λq=>J0 x1.2.2.2.2.2.1-q.1) ?_ (0,[]) rfl ?_
 ·rintro⟨e,j⟩ n;dsimp only at n;obtain⟨⟨A,E,J⟩,k,F⟩:=n;unfold JiI
  try dsimp only
  have:=J2.1 A;refine .lt (λx=>?_) λx=>?_
  ·refine .bind (Ji h.g.1) λG o=>.bind (JgA (B:=B) (S:=S) (⟨h,o.1.1⟩)) λI C=>.ite (λw=>?_) λw=>?_
   ·refine .bind (Ji h.g.1) λH r=>?_;have:J0 j<=B:=k.1;refine .bind (J0n (B:=B) (Bl:=B) (Bm:=1) (S:=0) (J0 j) 1 k (J0d (B:=1) (S:=0) (t:=(.i .i64)) oo r.1.1)) λz v=>?_;have:=Jh e 1;exact .some ⟨(J1 .i64 e 1,z),rfl,⟨⟨J5,om,om⟩,v.1,om⟩,om,om⟩
   ·have:=Jh e 1;exact .some ⟨(J1 .i64 e 1,j),rfl,⟨⟨J5,om,om⟩,k,om⟩,om,om⟩
  ·exact .some k
 ·have:J0 ([]:List Int)=0:=rfl
  try dsimp only
  exact⟨⟨fk0,oo,oo⟩,Ja,oo⟩
theorem JDt{B S:Int}{x1:J8T}(h:Ty.fit B S JJq x1)(o:BS B S 0 0:=by omega)(x:B<=9223372036854775807:=by omega):Tot (Jb9 x1) λy=>Ty.fit 0 0 .b y:=by
 unfold Jb9;have:J0 x1.1<=B:=h.1.1;have:=J3 (l:=x1.1);refine Jd (τ:=Int) (λq=>(x1.1,x1.2,q)) (λq=>(Ty.fit 0 0 (.i .i64) q/\0<=q/\(q<=J0 x1.1\/q<=0))) (λq=>J0 x1.1-q) ?_ 0 rfl ?_
 ·rintro e ⟨j,r,w⟩;unfold Jkg
  try dsimp only
  have:=J2.1 j;refine .lt (λk=>?_) λk=>?_
  ·refine .bind (Ji h.1) λv n=>.eq (λg=>?_) λg=>?_
   ·exact .some trivial
   ·have:=Jh e 1;exact .some ⟨J1 .i64 e 1,rfl,⟨J5,om,om⟩,om,om⟩
  ·exact .some trivial
 ·try dsimp only
  exact⟨fk0,oo,oo⟩
theorem JAR{B S:Int}{x1:J5E}(h:Ty.fit B S JqZ x1)(n:BC B S 0 0:=by omega):Tot (Jac x1) λy=>Ty.fit 0 256 JbL y:=by
 unfold Jac;refine .bind ((JaL (B:=B) (S:=S) (x1:=(x1.1,x1.2)) (h)).eqn) λr h1=>.ne (λg=>?_) λg=>?_
 ·exact .some (⟨Jc,h1.1⟩)
 ·have v4:=JtN (x:=(x1.1,x1.2)) (h) h1.2 g;have:=J2.1 h.2;have:0<=x1.2/\x1.2<J0 x1.1.1/\J0 x1.1.1<=64:=v4.1;have e:Ty.fit 64 256 JS x1.1:=v4.2;refine .bind (JDt (B:=64) (S:=256) (⟨e.c.1,h.2⟩)) λq o=>.ite (λk=>?_) λk=>?_
  ·exact .some (⟨Jc,fkn 11⟩)
  ·refine .bind (Ji e.1) λv j=>.some (⟨j.1.z,fk0⟩)
theorem J15{B S:Int}{x1:J0x}(h:Ty.fit B S Jx x1)(E:BS B S 0 0:=by omega)(I:S<=9223372036854775807:=by omega):Tot (J0u x1) λy=>Ty.fit 0 0 J07 y:=by
 unfold J0u;have s0:Ty.fit 0 S Jx x1:=h;have:=J2.1 s0.2.2;refine .ltf (λr=>?_) λr=>?_
 ·refine .gtf (λv=>?_) λv=>?_
  ·have:=J2.1 s0.2.1;refine .lt (λz=>?_) λz=>?_
   ·exact .some (⟨fk0,fkn 1⟩)
   ·have:J0 x1.1<=S:=s0.1;have:=J3 (l:=x1.1);refine .gtf (λx=>?_) λx=>?_
    ·have:=J0E (J0 x1.1) x1.2.1;refine .lt (λo=>?_) λo=>?_
     ·exact .some (⟨fk0,fkn 5⟩)
     ·refine Jd (τ:=Int×Int) (λq=>(x1.1,x1.2.1,x1.2.2,q.1,q.2)) (λq=>(Ty.fit 0 0 (.i .i64) q.2/\0<=q.2/\(q.2<=x1.2.2\/q.2<=0))/\Ty.fit 0 0 (.i .u64) q.1) (λq=>x1.2.2-q.2) ?_ (0,0) rfl ?_
      ·rintro⟨j,e⟩ g;dsimp only at g;obtain⟨⟨k,D,A⟩,G⟩:=g;unfold JbK
       try dsimp only
       have:=J2.1 k;refine .lt (λn=>?_) λn=>?_
       ·have:=Jh x1.2.1 e;refine .bind (JGz (l:=x1.1)) λH F=>?_;have:=cvu .u64 (J32 .i64 8 e);refine .bind (JNA (B:=0) (S:=0) oo) λw C=>?_;have:=Jh e 1;exact .some ⟨(orI .u64 j w,J1 .i64 e 1),rfl,⟨⟨J5,om,om⟩,JMt⟩,om,om⟩
       ·exact .some (⟨JbJ,fk0⟩)
      ·try dsimp only
       exact⟨⟨fk0,oo,oo⟩,JfF .u64 0⟩
    ·exact .some (⟨fk0,fkn 5⟩)
  ·exact .some (⟨fk0,fkn 1⟩)
 ·exact .some (⟨fk0,fkn 1⟩)
section
variable {B S:Int}
theorem JoQ(n:Nat)(h:n<2^64):IntKind.wrap .u64 (n:Int)=(n:Int):=by
 have:(n:Int)<18446744073709551616:=by omega
 simp[IntKind.wrap,IntKind.bits,IntKind.signed];omega
theorem JNt{x y:Int}{k:Nat}(hk:k<=64)(hx:0<=x)(g:x<2^k)(hy:0<=y)(h:y<2^k):0<=orI .u64 x y/\orI .u64 x y<2^k:=by
 obtain⟨m,rfl⟩:=Int.eq_ofNat_of_zero_le hx;obtain⟨n,rfl⟩:=Int.eq_ofNat_of_zero_le hy;have e:((2:Int)^k)=((2^k:Nat):Int):=by simp
 rw[e]at g h⊢;have hm:m<2^k:=by omega
 have hn:n<2^k:=by omega
 have r:2^k<=2^64:=JzU (by decide) hk;have q: ∀z:Nat,z<2^k->(BitVec.ofInt 64 (z:Int)).toNat=z:=λz hz=>by rw[BitVec.toNat_ofInt];omega
 show 0<=IntKind.wrap .u64 (((BitVec.ofInt 64 (m:Int)|||BitVec.ofInt 64 (n:Int)).toNat:Nat):Int)/\_;have o:=Nat.or_lt_two_pow hm hn;have e2:orI .u64 (m:Int) (n:Int)=((m|||n:Nat):Int):=by show IntKind.wrap .u64 (((BitVec.ofInt 64 (m:Int)|||BitVec.ofInt 64 (n:Int)).toNat:Nat):Int)=_;rw[BitVec.toNat_or,q m hm,q n hn,JoQ _ oo]
 have j:IntKind.wrap .u64 (((BitVec.ofInt 64 (m:Int)|||BitVec.ofInt 64 (n:Int)).toNat:Nat):Int)=((m|||n:Nat):Int):=e2;rw[e2,j];omega
theorem JEh{s:List UInt8}{g size:Int}{y:JG}(e:J0u (s,g,size)=some y)(c:y.2=0):0<=g/\g<=J0 s/\size<=J0 s-g/\1<=size/\size<=8/\(size<=4->0<=y.1/\y.1<2^(8*size.toNat)):=by
 have q:Par (J0u (s,g,size)) λy=>y.2=0->(-9223372036854775808<=J0 s-g->J0 s-g<=9223372036854775807->size<=J0 s-g)/\0<=g/\g<=J0 s/\1<=size/\size<=8/\(size<=4->0<=y.1/\y.1<2^(8*size.toNat)):=by
  unfold J0u;dsimp only;refine .ltf (λK=>.gtf (λM=>.lt (λ_=>.some nofun) λN=>.gtf (λL=>.lt (λ_=>.some nofun) λO=>?_) λ_=>.some nofun) λ_=>.some nofun) λ_=>.some nofun;have o:=J0E (J0 s) g;refine .while (λz=>z.1=s/\z.2.1=g/\z.2.2.1=size/\0<=z.2.2.2.2/\z.2.2.2.2<=size/\0<=z.2.2.2.1/\z.2.2.2.1<2^(8*z.2.2.2.2.toNat)) ⟨rfl,rfl,rfl,J0G _,by dsimp only;omega,J0G _,by show(0:Int)<2^(8*0);decide⟩ ?_;rintro⟨s,g,size,n,i⟩ ⟨h1,h2,h3,w,h4,h5,j⟩;dsimp only at h1 h2 h3;subst h1;subst h2;subst h3;dsimp only at w h4 h5 j;unfold JbK;dsimp only;have:=Jh i 1;refine .lt (λc=>?_) λc=>.some λ_=>⟨λ_ _=>by omega,oo,oo,oo,oo,λh=>?_⟩
  ·refine .bind λb hb=>.bind λk hy=>.some ⟨rfl,rfl,rfl,?_,?_,?_⟩
   ·show 0<=J1 .i64 i 1;omega
   ·show J1 .i64 i 1<=size;omega
   have I:0<=b/\b<=255:=by
    unfold Jo5 at hb;split at hb
    ·cases hx:s[(J1 .i64 g i).toNat]? with
     |none=>rw[hx]at hb;cases hb
     |some u=>
      rw[hx]at hb;injection hb with hb;subst hb
      have:=u.toNat_lt;omega
    ·cases hb
   have hi:(J1 .i64 i 1).toNat=i.toNat+1:=by omega
   show 0<=orI .u64 n k/\orI .u64 n k<2^(8*(J1 .i64 i 1).toNat);rw[hi];have:=JKS 8 i;have D:cvI .u64 (J32 .i64 8 i)=8*i:=by rw[show J32 .i64 8 i=((8*i.toNat:Nat):Int) by omega];show IntKind.wrap .u64 _=_;rw[JoQ _ oo];omega
   have B:cvI .u64 b=b:=by rw[show b=((b.toNat:Nat):Int) by omega];exact JoQ _ oo
   rw[D,B]at hy;unfold Jr8 at hy;rw[if_neg oo]at hy;injection hy with hy;have hm:min (8*i).toNat IntKind.u64.bits=8*i.toNat:=by show min (8*i).toNat 64=_;omega
   rw[hm]at hy;have hp:((2:Int)^(8*i.toNat))=((2^(8*i.toNat):Nat):Int):=by simp
   have G:b.toNat*2^(8*i.toNat)<2^(8*(i.toNat+1)):=by rw[show 8*(i.toNat+1)=8+8*i.toNat by omega,Nat.pow_add];exact Nat.mul_lt_mul_of_pos_right oo (Nat.pow_pos (by decide))
   have J:2^(8*(i.toNat+1))<=2^64:=JzU (by decide) oo;have r:k=((b.toNat*2^(8*i.toNat):Nat):Int):=by rw[<-hy,hp,show b*((2^(8*i.toNat):Nat):Int)=((b.toNat*2^(8*i.toNat):Nat):Int) by rw[Int.natCast_mul];congr 1;omega];exact JoQ _ oo
   have hn:n<2^(8*(i.toNat+1)):=Int.lt_of_lt_of_le j (by have:(2:Nat)^(8*i.toNat)<=2^(8*(i.toNat+1)):=JzU (by decide) oo;rw[hp,show((2:Int)^(8*(i.toNat+1)))=((2^(8*(i.toNat+1)):Nat):Int) by simp];omega)
   refine JNt oo h5 hn (by rw[r];omega) ?_;rw[r,show((2:Int)^(8*(i.toNat+1)))=((2^(8*(i.toNat+1)):Nat):Int) by simp];omega
  ·have hi:i.toNat=size.toNat:=by omega
   rw[hi]at j;have H:(2:Nat)^(8*size.toNat)<=2^32:=JzU (by decide) oo;have hp:((2:Int)^(8*size.toNat))=((2^(8*size.toNat):Nat):Int):=by simp
   rw[hp]at j;have:=JFO n;show 0<=cvI .i64 n/\cvI .i64 n<2^(8*size.toNat);rw[hp];omega
 obtain⟨v,E,x,F,A,C⟩:=q _ e c;have:=J3 (l:=s);exact⟨E,x,by
  by_cases h:J0 s-g<=9223372036854775807
  ·exact v oo h
  ·omega,F,A,C⟩
theorem J6s{x:J0x}{y:JG}(h:Ty.fit B S Jx x)(e:J0u x=some y)(c:y.2=0):(1<=x.2.2/\x.2.2<=8/\0<=x.2.1/\x.2.1<=J0 x.1/\x.2.2<=J0 x.1-x.2.1/\(x.2.2<=4->0<=y.1/\y.1<=4294967295)/\(x.2.2=1->y.1<=255)/\(x.2.2=2->y.1<=65535))/\True:=by
 obtain⟨s,j,size⟩:=x;obtain⟨h1,h2,h3,h4,h5,g⟩:=JEh e c;dsimp only;refine⟨⟨h4,h5,h1,h2,h3,λh=>?_,λh=>?_,λh=>?_⟩,trivial⟩
 ·obtain⟨a,b⟩:=g h;refine⟨a,?_⟩;have k:(2:Nat)^(8*size.toNat)<=2^32:=JzU (by decide) oo;rw[show((2:Int)^(8*size.toNat))=((2^(8*size.toNat):Nat):Int) by simp]at b;omega
 ·subst h;obtain⟨a,b⟩:=g (by decide);have:y.1<256:=b;omega
 ·subst h;obtain⟨a,b⟩:=g (by decide);have:y.1<65536:=b;omega
end
theorem JxS{B S:Int}{x1:Unit}(h:Ty.fit B S .u x1)(e:BS B S 0 0:=by omega):Tot (J8R x1) λy=>Ty.fit 0 1000000 .s y:=by unfold J8R;refine .bind (J8E (B:=0) (S:=0) (fkn 256) om om) λg h1=>.some h1.1
theorem JvC{B S:Int}{x1:List UInt8}(h:Ty.fit B S .s x1)(Y:BS B S 0 0:=by omega)(hS:S<=9223372036854775807:=by omega):Tot (J7v x1) λy=>Ty.fit 0 S tq5 y:=by
 unfold J7v;have s0:Ty.fit 0 S .s x1:=h;have:=J3 (l:=x1);refine .ne (λL=>?_) λL=>?_
 ·exact .some (⟨⟨fk0,fk0,J0c oo oo (.ar 16 JE)⟩,fkn 2⟩)
 ·refine .bind (JxS trivial) λy2 h4=>.ite (λN=>?_) λN=>?_
  ·exact .some (⟨⟨fk0,fk0,J0c oo oo (.ar 16 JE)⟩,fkn 7⟩)
  ·refine .bind (Jd3 s0) λy3 h6=>.bind (JCw s0) λy4 h9=>.ite (λr=>?_) λr=>?_
   ·exact .some (⟨⟨fk0,fk0,J0c oo oo (.ar 16 JE)⟩,fkn 27⟩)
   ·refine .bind ((J15 (B:=0) (S:=S) (x1:=(x1,244,4)) (⟨s0,fkn 244,fkn 4⟩)).eqn) λy5 P=>.bind (Jd3 s0) λM w=>?_;have A:Ty.fit 0 S .s M:=w.1;refine .bind (Jbe A) λy7 R=>.ne (λI=>?_) λI=>?_
    ·exact .some (⟨⟨fk0,fk0,J0c oo oo (.ar 16 JE)⟩,fkn 3⟩)
    ·refine .bind ((J15 (B:=0) (S:=S) (x1:=(x1,0,8)) (⟨s0,fk0,fkn 8⟩)).eqn) λK D=>.bind ((J15 (B:=0) (S:=S) (x1:=(x1,8,4)) (⟨s0,fkn 8,fkn 4⟩)).eqn) λO C=>Jd (τ:=Jz6) (λq=>(x1,q.1,(0,0,Vector.replicate 16 (false,[])),q.2)) (λq=>(Ty.fit 0 0 (.i .i64) q.1/\0<=q.1/\(q.1<=16\/q.1<=0))/\Ty.fit 0 S Jr q.2) (λq=>16-q.1) ?_ (0,(O.1,K.1,Vector.replicate 16 (false,[]))) rfl ?_
     ·rintro⟨e,g⟩ n;dsimp only at n;obtain⟨⟨z,Q,a0⟩,j⟩:=n;unfold Je3
      try dsimp only
      have:=J2.1 z;refine .lt (λG=>?_) λG=>?_
      ·have:=JK2 e 13;have:=Jed 12 (J32 .i64 e 13);refine .bind (JGz (l:=x1)) λo U=>?_;have:=JFO o;refine .eq (λF=>?_) λF=>?_
       ·have:=Jed e 1;exact .some ⟨(J1 .i64 e 1,g),rfl,⟨⟨J5,om,om⟩,j⟩,om,om⟩
       ·refine .gt (λE=>?_) λE=>?_
        ·exact .some (⟨⟨fk0,fk0,J0c oo oo (.ar 16 JE)⟩,fkn 4⟩)
        ·have:=Jed (J1 .i64 12 (J32 .i64 e 13)) 1;have:=Jed (J1 .i64 (J1 .i64 12 (J32 .i64 e 13)) 1) (cvI .i64 o);refine .bind (Jdb s0) λk J=>?_;have H:Ty.fit 0 S .s k:=J.1;refine .bind (J6b) λ_ _=>.bind (Jco j.2.2) λW Z=>?_;have:=Jed e 1;exact .some ⟨(J1 .i64 e 1,(g.1,g.2.1,Jom g.2.2 (Int.toNat e) (true,k))),rfl,⟨⟨J5,om,om⟩,j.1,j.2.1,JqM j.2.2 (⟨trivial,H⟩)⟩,om,om⟩
      ·refine .inr ?_;refine .bind (JaT j) λT V=>.nef (λx=>?_) λx=>?_
       ·refine .ite (λv=>?_) λv=>?_
        ·exact .some (⟨⟨fk0,fk0,J0c oo oo (.ar 16 JE)⟩,fkn 4⟩)
        ·exact .some (⟨j,fk0⟩)
       ·exact .some (⟨⟨fk0,fk0,J0c oo oo (.ar 16 JE)⟩,fkn 4⟩)
     ·try dsimp only
      exact⟨⟨fk0,oo,oo⟩,C.1.1,D.1.1,J0c oo oo (.ar 16 JE)⟩
theorem JEi{B S x1:Int}(h:Ty.fit B S (.i .i64) x1)(e:BS B S 0 0:=by omega):Tot (J8k x1) λy=>Ty.fit 0 0 Jr y:=by unfold J8k;exact .some (⟨h,fk0,J0c oo oo (.ar 16 JE)⟩)
theorem Jqt{B S:Int}{x1:J3G}(h:Ty.fit B S JbL x1)(q:BS B S 0 0:=by omega)(v:S<=9223372036854775807:=by omega):Tot (J2R x1) λy=>Ty.fit 0 S tq5 y:=by
 unfold J2R;have s0:Ty.fit 0 S JbL x1:=h;refine .ltf (λo=>?_) λo=>?_
 ·refine .ge (λg=>?_) λg=>?_
  ·exact .some (⟨⟨fk0,fk0,J0c oo oo (.ar 16 JE)⟩,fkn 1⟩)
  ·refine .bind (JvC (B:=0) (S:=S) s0.1) λw h4=>.eq (λn=>?_) λn=>?_
   ·refine .bind (JEi (B:=0) (S:=0) s0.2) λr j=>.some (⟨j.u,fk0⟩)
   ·refine .eq (λk=>?_) λk=>?_
    ·have:=J2.1 h4.1.1;refine .ne (λe=>?_) λe=>?_
     ·exact .some (⟨⟨fk0,fk0,J0c oo oo (.ar 16 JE)⟩,fkn 6⟩)
     ·exact .some (h4)
    ·exact .some (h4)
 ·exact .some (⟨⟨fk0,fk0,J0c oo oo (.ar 16 JE)⟩,fkn 1⟩)
theorem Jy0{B S:Int}{x1:JND}(h:Ty.fit B S (.pr (.l Jb) (.pr (.i .i64) (.pr (.i .i64) .s))) x1)(E:BC B S 0 0:=by omega)(J:S<=9223372036854775807:=by omega):Tot (J3Y x1) λy=>Ty.fit 0 S tq5 y:=by
 unfold J3Y;refine .bind ((J4Y h.1).eqn) λK h1=>.not (λr=>?_) λr=>?_
 ·exact .some (⟨⟨fk0,fk0,J0c oo oo (.ar 16 JE)⟩,fkn 28⟩)
 ·have v3:=J46 h.1 h1.2 r;have:J0 x1.1=_:=Jj h.1;have g:Ty.fit 64 0 (.l Jb) x1.1:=v3.2;have:=J2.1 h.2.z.1;refine .ltf (λx=>?_) λx=>?_
  ·refine .gef (λo=>?_) λo=>?_
   ·have:=J2.1 h.2.z.2.1;refine .lt (λj=>?_) λj=>?_
    ·exact .some (⟨⟨fk0,fk0,J0c oo oo (.ar 16 JE)⟩,fkn 1⟩)
    ·refine .bind (Jqt (B:=0) (S:=S) (⟨h.2.z.2.2,h.2.z.1⟩)) λF e=>.ne (λq=>?_) λq=>?_
     ·exact .some (⟨⟨fk0,fk0,J0c oo oo (.ar 16 JE)⟩,e.2⟩)
     ·have:=J2.1 e.1.2.1;refine .gt (λk=>?_) λk=>?_
      ·refine .bind (Ji g) λI C=>.gt (λw=>?_) λw=>?_
       ·exact .some (⟨⟨fk0,fk0,J0c oo oo (.ar 16 JE)⟩,fkn 9⟩)
       ·refine .bind (Ji g) λG A=>.lt (λv=>?_) λv=>?_
        ·exact .some (⟨⟨fk0,fk0,J0c oo oo (.ar 16 JE)⟩,fkn 8⟩)
        ·exact .some (⟨e.1,fk0⟩)
      ·refine .bind (Ji g) λH D=>.lt (λn=>?_) λn=>?_
       ·exact .some (⟨⟨fk0,fk0,J0c oo oo (.ar 16 JE)⟩,fkn 8⟩)
       ·exact .some (⟨e.1,fk0⟩)
   ·exact .some (⟨⟨fk0,fk0,J0c oo oo (.ar 16 JE)⟩,fkn 1⟩)
  ·exact .some (⟨⟨fk0,fk0,J0c oo oo (.ar 16 JE)⟩,fkn 1⟩)
theorem JDO{B S:Int}{x1:Jz2}(h:Ty.fit B S JJC x1)(D:BG B S:=by omega):Tot (J5u x1) λy=>Ty.fit 65 12 (.pr (.i .i64) (.pr (.i .i64) (.pr (.i .i64) (.l J02)))) y/\(y.2.2.1=0->J0 y.2.2.2=J0 x1.1.2.1+1):=by
 unfold J5u;refine .bind ((J3l h.1).eqn) λG h1=>.not (λr=>?_) λr=>?_
 ·have:J0 x1.1.2.1<=B:=h.1.2.1.1;exact .some ⟨(⟨fk0,fk0,fkn 15,Ja⟩),om⟩
 ·have w:=J2p h.1 h1.2 r;have:J0 x1.1.2.1<=B:=h.1.2.1.1;have:J0 x1.1.2.1=_:=Jj h.1.2.1;have e:Ty.fit 64 12 JI x1.1:=w.2;refine .bind ((J6f (B:=0) (S:=S) (x1:=x1.2) h.2.z).eqn) λE g=>.ne (λk=>?_) λk=>?_
  ·exact .some ⟨(⟨fk0,fk0,g.1,Ja⟩),om⟩
  ·have v:=J6o (x:=x1.2) h.2.z g.2 k;have n:Ty.fit 0 12 Jr x1.2:=v.2;refine .bind (J4H (B:=64) (S:=12) (⟨e,n.1⟩)) λF C=>.ge (λo=>?_) λo=>?_
   ·exact .some ⟨(⟨fk0,fk0,fkn 25,Ja⟩),om⟩
   ·refine .eq (λq=>?_) λq=>?_
    ·exact .some ⟨(⟨fk0,fk0,fkn 21,Ja⟩),om⟩
    ·refine .clo e.2.1 oo (by decide) ?_;refine .bind (J0n (B:=65) (Bl:=64) (Bm:=1) (S:=12) (J0 x1.1.2.1) 1 e.2.1 (J0d (B:=1) (S:=12) (t:=J02) oo (⟨n.u,trivial,fk0,trivial⟩))) λA j=>?_;have:J0 A=_:=Jj j.1;exact .some ⟨(⟨e.1,e.c,fk0,j.1⟩),om⟩
theorem JtU{B S:Int}{x1:JJ2}(h:Ty.fit B S (.pr J7 Jr) x1)(a8:BG B S:=by omega):Tot (J3A x1) λy=>Ty.fit 4096 8192 tq1 y/\(y.2=0->J0 y.1.2.2.1.2.1=J0 x1.1.2.2.1.2.1):=by
 unfold J3A;refine .bind ((J18 h.1).eqn) λy2 h1=>.not (λM=>?_) λM=>?_
 ·have:J0 x1.1.2.2.1.2.1<=B:=h.1.c.1.2.1.1;exact .some ⟨(⟨fzr,fkn 15⟩),om⟩
 ·have Z:=J1h h.1 h1.2 M;have:=J3 (l:=x1.1.2.2.2.1.2.1);have:J0 x1.1.2.2.2.1.2.1=_:=Jj h.1.d.1.2.1;have k:Ty.fit 4096 8192 J7 x1.1:=Z.2;refine .ltf (λP=>?_) λP=>?_
  ·refine .ge (λI=>?_) λI=>?_
   ·exact .some ⟨(⟨fzr,fkn 1⟩),om⟩
   ·have K:Ty.fit 16384 1073741824 tq1 (x1.1,x1.2.1):=⟨k.u,h.2.z.1⟩;refine .bind (J72 K) λy3 a3=>.lt (λH=>?_) λH=>?_
    ·exact .some ⟨(⟨fzr,fkn 8⟩),om⟩
    ·have L:Ty.fit 16384 1073741824 tq1 (x1.1,x1.2.1):=⟨k.u,h.2.z.1⟩;refine .bind (J72 L) λy4 a4=>.gt (λJ=>?_) λJ=>?_
     ·exact .some ⟨(⟨fzr,fkn 9⟩),om⟩
     ·have R:Ty.fit 16384 S JJC (x1.1.2.2.2.1,x1.2):=⟨k.d.1.u,h.2.z.u⟩;refine .bind (JDO R) λj o=>?_;have:J0 j.2.2.2<=65:=o.1.d.1;have:=J3 (l:=j.2.2.2);have:J0 j.2.2.2=_:=Jj o.1.d;have:j.2.2.1=0->J0 j.2.2.2=J0 x1.1.2.2.2.1.2.1+1:=o.2;refine .ne (λT=>?_) λT=>?_
      ·exact .some ⟨(⟨fzr,o.1.c.1⟩),om⟩
      ·refine .bind (J8D (B:=4096) (S:=8192) (⟨k,h.2.z.1⟩)) λG U=>.ite (λQ=>?_) λQ=>?_
       ·have:=J0E (J0 j.2.2.2) 1;refine .bind (J5j (l:=j.2.2.2)) λ_ _=>.bind (Jcm o.1.d) λn v=>?_;have:J0 (J0t j.2.2.2 (Int.toNat (JF .i64 (J0 j.2.2.2) 1)) (n.1,true,n.2.2))<=65:=(J3W (t:=J02) (i:=Int.toNat (JF .i64 (J0 j.2.2.2) 1)) (x:=(n.1,true,n.2.2)) o.1.d (⟨v.1.z.1.u,trivial,v.1.z.2.2⟩)).1;have:=J3 (l:=J0t j.2.2.2 (Int.toNat (JF .i64 (J0 j.2.2.2) 1)) (n.1,true,n.2.2));have:J0 (J0t j.2.2.2 (Int.toNat (JF .i64 (J0 j.2.2.2) 1)) (n.1,true,n.2.2))=_:=Jj (J3W (t:=J02) (i:=Int.toNat (JF .i64 (J0 j.2.2.2) 1)) (x:=(n.1,true,n.2.2)) o.1.d (⟨v.1.z.1.u,trivial,v.1.z.2.2⟩));have:J0 (J0t j.2.2.2 (Int.toNat (JF .i64 (J0 j.2.2.2) 1)) (n.1,true,n.2.2))=J0 j.2.2.2:=J5z;have:=J0E (J0 (J0t j.2.2.2 (Int.toNat (JF .i64 (J0 j.2.2.2) 1)) (n.1,true,n.2.2))) 1;refine .bind (J5j (l:=J0t j.2.2.2 (Int.toNat (JF .i64 (J0 j.2.2.2) 1)) (n.1,true,n.2.2))) λ_ _=>.bind (Jcm (J3W (t:=J02) (i:=Int.toNat (JF .i64 (J0 j.2.2.2) 1)) (x:=(n.1,true,n.2.2)) o.1.d (⟨v.1.z.1.u,trivial,v.1.z.2.2⟩))) λA N=>?_;have:J0 x1.1.2.2.2.2.2.2.2<=4096:=k.i.1;have:=J3 (l:=x1.1.2.2.2.2.2.2.2);have:J0 x1.1.2.2.2.2.2.2.2=_:=Jj k.i;refine Jd (τ:=Jey) (λq=>(q.1,x1.1,x1.2,(0,0,(0,[],0),(0,[],0),([],[]),[],[],[]),J0t (J0t j.2.2.2 (Int.toNat (JF .i64 (J0 j.2.2.2) 1)) (n.1,true,n.2.2)) (Int.toNat (JF .i64 (J0 (J0t j.2.2.2 (Int.toNat (JF .i64 (J0 j.2.2.2) 1)) (n.1,true,n.2.2))) 1)) (A.1,A.2.1,G.1.2.1,A.2.2.2),j.1,j.2.1,G.1,q.2)) (λq=>(Ty.fit 0 0 (.i .i64) q.1/\0<=q.1/\(q.1<=J0 x1.1.2.2.2.2.2.2.2\/q.1<=0))/\(Ty.fit 4096 0 (.l Jb) q.2/\J0 q.2<=1*q.1+0)) (λq=>J0 x1.1.2.2.2.2.2.2.2-q.1) ?_ (0,[]) rfl ?_
        ·rintro⟨w,r⟩ F;dsimp only at F;obtain⟨⟨W,a1,a2⟩,C,a7⟩:=F;unfold J94
         try dsimp only
         have:=J2.1 W;refine .lt (λO=>?_) λO=>?_
         ·refine .bind (Ji k.i) λa5 a6=>.ne (λV=>?_) λV=>?_
          ·refine .bind (Ji k.i) λa0 Y=>?_;have:J0 r<=4096:=C.1;have:=J3 (l:=r);have:J0 r=_:=Jj C;refine .bind (J0n (B:=4096) (Bl:=4096) (Bm:=1) (S:=0) (J0 r) 1 C (J0d (B:=1) (S:=0) (t:=Jb) oo Y.1)) λE D=>?_;have:=Jh w 1;have:J0 E=_:=Jj D.1;exact .some ⟨(J1 .i64 w 1,E),rfl,⟨⟨J5,om,om⟩,D.1,om⟩,om,om⟩
          ·have:=Jh w 1;have:J0 r=_:=Jj C;exact .some ⟨(J1 .i64 w 1,r),rfl,⟨⟨J5,om,om⟩,C,om⟩,om,om⟩
         ·exact .some ⟨(⟨⟨k.1,k.2.1,k.c.1,⟨o.1.1,(J3W (t:=J02) (i:=Int.toNat (JF .i64 (J0 (J0t j.2.2.2 (Int.toNat (JF .i64 (J0 j.2.2.2) 1)) (n.1,true,n.2.2))) 1)) (x:=(A.1,A.2.1,G.1.2.1,A.2.2.2)) (J3W (t:=J02) (i:=Int.toNat (JF .i64 (J0 j.2.2.2) 1)) (x:=(n.1,true,n.2.2)) o.1.d (⟨v.1.z.1.u,trivial,v.1.z.2.2⟩)) (⟨N.1.z.1.u,trivial,U.1.2.1,trivial⟩)).u,o.1.2.1⟩,k.e.1,k.g.1,k.h.1,C.u⟩,fk0⟩),om⟩
        ·have:J0 ([]:List T_api_Row)=0:=rfl
         try dsimp only
         exact⟨⟨fk0,oo,oo⟩,Ja,oo⟩
       ·exact .some ⟨(⟨⟨k.1,k.2.1,k.c.1,⟨o.1.1,o.1.d.u,o.1.2.1⟩,k.e⟩,fk0⟩),om⟩
  ·exact .some ⟨(⟨fzr,fkn 1⟩),om⟩
theorem Jyi{B S:Int}{x1:JKk}(h:Ty.fit B S (.pr Jr J4) x1)(E:BS B S 0 0:=by omega):Tot (J3X x1) λy=>Ty.fit 0 8192 tq5 y:=by
 unfold J3X;have s0:Ty.fit 0 S (.pr Jr J4) x1:=h;refine .bind ((J2n (B:=0) (S:=S) (x1:=x1.2) s0.2).eqn) λH h1=>.nof (λr=>?_) λr=>?_
 ·have v3:=J22 (x:=x1.2) s0.2 h1.2 r;have g:Ty.fit 0 8192 J4 x1.2:=v3.2;refine .bind (J1y g) λF D=>.not (λA=>?_) λA=>?_
  ·exact .some (⟨⟨fk0,fk0,J0c oo oo (.ar 16 JE)⟩,fkn 12⟩)
  ·refine .bind ((J6f (B:=0) (S:=S) (x1:=x1.1) s0.1).eqn) λG j=>.ne (λk=>?_) λk=>?_
   ·exact .some (⟨⟨fk0,fk0,J0c oo oo (.ar 16 JE)⟩,j.1⟩)
   ·have v:=J6o (x:=x1.1) s0.1 j.2 k;have q:Ty.fit 0 12 Jr x1.1:=v.2;refine .ne (λn=>?_) λn=>?_
    ·exact .some (⟨⟨fk0,fk0,J0c oo oo (.ar 16 JE)⟩,fkn 6⟩)
    ·refine .ne (λo=>?_) λo=>?_
     ·exact .some (⟨⟨fk0,fk0,J0c oo oo (.ar 16 JE)⟩,fkn 13⟩)
     ·refine .bind (Jkv (B:=0) (S:=8192) (⟨q.u,g.h.1⟩)) λC z=>?_;have e:Ty.fit 0 8192 tq5 C:=z.u;refine .ne (λw=>?_) λw=>?_
      ·exact .some (⟨⟨fk0,fk0,J0c oo oo (.ar 16 JE)⟩,e.2⟩)
      ·exact .some (⟨⟨e.1.1,g.1,e.1.c⟩,fk0⟩)
 ·exact .some (⟨⟨fk0,fk0,J0c oo oo (.ar 16 JE)⟩,fkn 12⟩)
section
variable {B S:Int}
theorem JAG{x1:J04×T_api_Row}(h:Ty.fit B S (.pr JQ Jb) x1)(F:BC B S 0 0:=by omega):Tot (J9N x1) λy=>Ty.fit 4096 8192 JJX y:=by
 obtain⟨l,v,last,n⟩:=x1;obtain⟨hl,hp,r,z⟩:=h;unfold J9N;dsimp only;dsimp only at hl hp r z;have e: ∀k:Int,Ty.fit 0 0 (.i .i64) k->Ty.fit 4096 8192 JJX (([]:List T_api_Entry),k):=λk hk=>⟨Ja,hk⟩;refine .bind ((J25 hl).eqn) λM h2=>.not (λ_=>.some (e _ (fkn 26))) λc=>.ltf (λH=>.gef (λJ=>.ltf (λL=>.lt (λ_=>.some (e _ (fkn 1))) λD=>?_) λ_=>.some (e _ (fkn 1))) λ_=>.some (e _ (fkn 1))) λ_=>.some (e _ (fkn 1));subst c;obtain⟨q,w⟩:=Jkd hl h2.2;have A:=(J1I hl h2.2 rfl).2;refine Jd (τ:=JCJ) (λq=>(v,n,q.1,q.2,l)) (λq=>Ty.fit 4096 8192 (.l J4) q.1/\Ty.fit 0 0 (.i .i64) q.2/\(J0 q.1=0\/J0 q.1+q.2<=l.1+J0 l.2.1-1)) (λq=>q.2) ?_ ([],last) rfl ⟨Ja,r,.inl rfl⟩;rintro⟨out,g⟩ ⟨g1,g2,E⟩;dsimp only at g1 g2 E;unfold JhQ;dsimp only;refine .gt (λc=>?_) λc=>.inr (.lt (λ_=>.some (e _ (fkn 13))) λ_=>.some ⟨g1,fk0⟩);refine .bind ((J3E (x1:=(l,g)) ⟨A,g2⟩).eqn) λx j=>.ne (λ_=>.some (e _ (fkn 14))) λD=>.bind (J1y j.1.1) λI K=>.nof (λ_=>.ne (λ_=>.some (e _ (fkn 13))) λ_=>?_) λ_=>.some (e _ (fkn 13));rcases Jpq j.2 with⟨_,_,a1,a2,a3⟩|⟨_,b⟩
 ·obtain⟨e1,e2⟩:=w _ _ a3;have N:=(J22 j.1.1 e2 rfl).1;have:=J3 (l:=out);have O:J0 out+1<=4096:=by omega
  unfold JbQ;dsimp only;refine .bind (.bind (J0n (B:=4096) (Bl:=4096) (Bm:=4096) (S:=8192) (t:=J4) 1 (J0 out) (J0d (B:=4096) (S:=8192) oo j.1.1) g1 rfl rfl (J0G _) (J0G _) oo oo (by decide)) λy h=>.some h) λo C=>.some ⟨(o,x.1.2.2.2.2.1),rfl,⟨C.1,j.1.1.2.2.2.2.1,?_⟩,?_,?_⟩
  ·have G:J0 o=1+J0 out:=C.2.1;show J0 o=0\/J0 o+x.1.2.2.2.2.1<=l.1+J0 l.2.1-1;omega
  ·show x.1.2.2.2.2.1<g;omega
  ·show 0<=g;omega
 ·exact absurd D b
end
theorem JwP{B S:Int}{x1:Jr0}(h:Ty.fit B S (.pr JQ tq5) x1)(w:BC B S 0 0:=by omega):Tot (J8C x1) λy=>Ty.fit 4096 8192 JJX y:=by
 unfold J8C;refine .bind ((J25 h.1).eqn) λD h1=>.not (λo=>?_) λo=>?_
 ·exact .some (⟨Ja,fkn 26⟩)
 ·have v3:=J1I h.1 h1.2 o;have n:Ty.fit 4096 8192 JQ x1.1:=v3.2;refine .bind ((J6f (B:=0) (S:=S) (x1:=x1.2.1) h.2.z.1).eqn) λA g=>.ne (λe=>?_) λe=>?_
  ·exact .some (⟨Ja,g.1⟩)
  ·have v:=J6o (x:=x1.2.1) h.2.z.1 g.2 e;have j:Ty.fit 0 12 Jr x1.2.1:=v.2;refine .lt (λq=>?_) λq=>?_
   ·exact .some (⟨Ja,fkn 1⟩)
   ·refine .ge (λr=>?_) λr=>?_
    ·exact .some (fzr)
    ·refine .bind (JAG (B:=4096) (S:=8192) (⟨n,j.1,h.2.z.2,j.2.1⟩)) λC k=>.some (k)
theorem JBz{B S:Int}{x1:Jr0}(h:Ty.fit B S (.pr JQ tq5) x1)(D:BC B S 0 0:=by omega):Tot (J4M x1) λy=>Ty.fit 0 (S+8192) (.pr Jr J07) y:=by
 unfold J4M;refine .bind (JwP (B:=B) (S:=S) (⟨h.1,h.2.z.1.u,h.2.z.2⟩)) λe h1=>.ne (λC=>?_) λC=>?_
 ·exact .some (⟨⟨fk0,fk0,J0c oo oo (.ar 16 JE)⟩,fk0,h1.2⟩)
 ·have:J0 e.1<=4096:=h1.1.1;have:=J3 (l:=e.1);have:J0 e.1=_:=Jj h1.1;refine Jd (τ:=Jz6) (λq=>(e.1,q.1,x1.1,q.2,0,0,Vector.replicate 16 (false,[]))) (λq=>(Ty.fit 0 0 (.i .i64) q.1/\0<=q.1/\(q.1<=J0 e.1\/q.1<=0))/\Ty.fit 0 (S+8192) Jr q.2) (λq=>J0 e.1-q.1) ?_ (0,x1.2.1) rfl ?_
  ·rintro⟨g,w⟩ j;dsimp only at j;obtain⟨⟨x,G,E⟩,o⟩:=j;unfold JaZ
   try dsimp only
   have:=J2.1 x;refine .lt (λn=>?_) λn=>?_
   ·refine .bind (Ji h1.1) λF r=>.bind (Jyi (B:=0) (S:=(S+8192)) (⟨o,r.1.z.u⟩)) λA k=>.ne (λv=>?_) λv=>?_
    ·exact .some (⟨⟨fk0,fk0,J0c oo oo (.ar 16 JE)⟩,fk0,k.2⟩)
    ·have:=Jh g 1;exact .some ⟨(J1 .i64 g 1,A.1),rfl,⟨⟨J5,om,om⟩,k.1.u⟩,om,om⟩
   ·exact .some (⟨o,J3N h1.1.1 oo,fk0⟩)
  ·try dsimp only
   exact⟨⟨fk0,oo,oo⟩,h.2.z.1.u⟩
theorem JCM{B S:Int}{x1:Jr0}(h:Ty.fit B S (.pr JQ tq5) x1)(e:BC B S 0 0:=by omega):Tot (J4G x1) λy=>Ty.fit 0 (S+8192) tq5 y:=by unfold J4G;refine .bind (JBz (B:=B) (S:=S) (⟨h.1,h.2.z.1.u,h.2.z.2⟩)) λg h1=>.some (⟨h1.1,h1.c⟩)
theorem JzK{B S:Int}{x1:J6K}(h:Ty.fit B S tq7 x1)(F:BG B S:=by omega):Tot (J9V x1) λy=>Ty.fit 128 12 tq7 y:=by
 unfold J9V;refine .bind ((J3l h.1).eqn) λH h1=>.not (λz=>?_) λz=>?_
 ·exact .some (⟨fzr,fkn 15⟩)
 ·have v3:=J2p h.1 h1.2 z;have:J0 x1.1.2.1<=B:=h.1.2.1.1;have:=J3 (l:=x1.1.2.1);have:J0 x1.1.2.1=_:=Jj h.1.2.1;have e:Ty.fit 64 12 JI x1.1:=v3.2;refine .bind (J4H (B:=64) (S:=12) (⟨e,h.2⟩)) λq o=>?_;have:=J2.1 o.1;have: -1<=q/\q<J0 x1.1.2.1:=o.2;refine .lt (λw=>?_) λw=>?_
  ·exact .some (⟨fzr,fkn 18⟩)
  ·refine .bind (Ji e.2.1) λG E=>.ite (λC=>?_) λC=>?_
   ·exact .some (⟨fzr,fkn 23⟩)
   ·refine .bind (J5p e.2.1) λx j=>.clo j.1 oo (by decide) ?_;have:=Jh q 1;refine .bind (J35 e.2.1) λn k=>?_;have:J0 x=_:=Jj j.1;have:J0 n<=64:=k.1.1;have:=J3 (l:=n);have:J0 n=_:=Jj k.1;refine .bind (J0n (B:=128) (Bl:=64) (Bm:=64) (S:=12) (J0 x) (J0 n) j.1 k.1) λD g=>.lt (λr=>?_) λr=>?_
    ·have:=J0E x1.1.2.2 1;refine .ge (λv=>?_) λv=>?_
     ·exact .some (⟨⟨e.1,g.1,fk0⟩,fk0⟩)
     ·exact .some (⟨⟨e.1,g.1,J1O⟩,fk0⟩)
    ·have:J0 D<=128:=g.1.1;refine .ge (λA=>?_) λA=>?_
     ·exact .some (⟨⟨e.1,g.1,fk0⟩,fk0⟩)
     ·exact .some (⟨⟨e.1,g.1,e.c⟩,fk0⟩)
section
variable {B S:Int}
def JHd{σ τ ρ:Type}(R:σ->τ->Prop)(o:Option (σ⊕ρ))(e:Option (τ⊕ρ)):Prop:=(o=none/\e=none)\/(∃y,o=some (.inr y)/\e=some (.inr y))\/ ∃a b,o=some (.inl a)/\e=some (.inl b)/\R a b
theorem JvQ{σ τ ρ:Type}{R:σ->τ->Prop}{L:σ->Option (σ⊕ρ)}{L':τ->Option (τ⊕ρ)}(h: ∀z g,R z g->JHd R (L z) (L' g)){z:σ}{g:τ}(hz:R z g):Jf L z=Jf L' g:=by
 have j: ∀n z g,R z g->J1R L n z=J1R L' n g:=by
  intro n
  induction n with
  |zero=>intros;rfl
  |succ n ih=>
   intro z g hz;rcases h z g hz with⟨h1,h2⟩|⟨y,h1,h2⟩|⟨a,b,h1,h2,h3⟩
   ·simp only[J1R,h1,h2]
   ·simp only[J1R,h1,h2]
   ·simp only[J1R,h1,h2];exact ih a b h3
 cases e:Jf L z with
 |some r=>
  obtain⟨n,hn⟩:=J2e.1 e;exact(J2e.2 ⟨n,(j n z g hz)▸hn⟩).symm
 |none=>
  cases e':Jf L' g with
  |none=>rfl
  |some r=>
   obtain⟨n,hn⟩:=J2e.1 e';rw[J2e.2 ⟨n,(j n z g hz).symm▸hn⟩]at e;cases e
def FrE(f g:J06):Prop:=f.1=g.1/\f.2.1=g.2.1/\f.2.2.1=g.2.2.1
def Jdl(l m:List J06):Prop:=l.length=m.length/\ ∀(j:Nat) (f g:J06),l[j]?=some f->m[j]?=some g->FrE f g
theorem Jdl.idx{l m:List J06}(h:Jdl l m)(i:Int):(idx l i=none/\idx m i=none)\/ ∃f g,idx l i=some f/\idx m i=some g/\FrE f g:=by
 unfold Am.idx;by_cases e:0<=i
 ·rw[if_pos e,if_pos e];by_cases hl:i.toNat<l.length
  ·exact .inr ⟨_,_,JD hl,JD (h.1▸hl),h.2 _ _ _ (JD hl) (JD (h.1▸hl))⟩
  ·exact .inl ⟨zQ3 oo,zQ3 (by have:=h.1;omega)⟩
 ·rw[if_neg e,if_neg e];exact .inl ⟨rfl,rfl⟩
theorem Jdl.refl(l:List J06):Jdl l l:=⟨rfl,λj f g h1 h2=>by rw[h1]at h2;injection h2 with h2;subst h2;exact⟨rfl,rfl,rfl⟩⟩
theorem Jdl.put{l m:List J06}(h:Jdl l m){i:Int}{f g:J06}(hi:Am.idx m i=some f)(e:FrE g f):Jdl l (J0t m i.toNat g):=by
 refine⟨by unfold J0t;rw[List.length_set];exact h.1,λj a b ha hb=>?_⟩;unfold J0t at hb;rw[List.getElem?_set]at hb;split at hb
 ·rename_i hj;split at hb
  ·injection hb with hb;subst hb;obtain⟨_,h2⟩:=J3L hi;rw[hj]at h2;obtain⟨q1,q2,q3⟩:=h.2 j a f ha h2;exact⟨q1.trans e.1.symm,q2.trans e.2.1.symm,q3.trans e.2.2.symm⟩
  ·cases hb
 ·exact h.2 j a b ha hb
theorem JMq(n i:Int)(p q:JY)(f g:J06)(hp:Jdl p.2.1 q.2.1)(hf:FrE f g):(Jf J05 (n,i,0,p,f)=some (.inr false)/\Jf J05 (n,i,0,q,g)=some (.inr false))\/(Jf J05 (n,i,0,p,f)=some (.inl (n,J1 .i64 i 1,p))/\Jf J05 (n,i,0,q,g)=some (.inl (n,J1 .i64 i 1,q)))\/(Jf J05 (n,i,0,p,f)=none/\Jf J05 (n,i,0,q,g)=none):=by
 let w:JY->((TQ106)⊕Bool)->Bool:=λ_ r=>match r with| .inl _=>true| .inr b=>b
 have j: ∀m k,(J1R J05 m (n,i,k,p,f)=none/\J1R J05 m (n,i,k,q,g)=none)\/(J1R J05 m (n,i,k,p,f)=some (.inr false)/\J1R J05 m (n,i,k,q,g)=some (.inr false))\/(J1R J05 m (n,i,k,p,f)=some (.inl (n,J1 .i64 i 1,p))/\J1R J05 m (n,i,k,q,g)=some (.inl (n,J1 .i64 i 1,q))):=by
  intro m
  induction m with
  |zero=>intro k;exact .inl ⟨rfl,rfl⟩
  |succ m ih=>
   intro k;simp only[J1R];unfold J05;dsimp only;by_cases hk:ltI k i=true
   ·rw[if_pos hk,if_pos hk];rcases hp.idx k with⟨e1,e2⟩|⟨a,b,e1,e2,v⟩
    ·rw[e1,e2];exact .inl ⟨rfl,rfl⟩
    ·rw[e1,e2,JK,JK,<-v.1,<-hf.1];by_cases hc:eqI a.1.1 f.1.1=true
     ·rw[if_pos hc,if_pos hc];exact .inr (.inl ⟨rfl,rfl⟩)
     ·rw[if_neg hc,if_neg hc];exact ih _
   ·rw[if_neg hk,if_neg hk];exact .inr (.inr ⟨rfl,rfl⟩)
 by_cases hx: ∃m r,J1R J05 m (n,i,0,p,f)=some r
 ·obtain⟨m,r,hm⟩:=hx;rcases j m 0 with⟨h1,_⟩|⟨h1,h2⟩|⟨h1,h2⟩
  ·rw[h1]at hm;cases hm
  ·exact .inl ⟨J2e.2 ⟨m,h1⟩,J2e.2 ⟨m,h2⟩⟩
  ·exact .inr (.inl ⟨J2e.2 ⟨m,h1⟩,J2e.2 ⟨m,h2⟩⟩)
 ·have o:Jf J05 (n,i,0,p,f)=none:=by
   cases e:Jf J05 (n,i,0,p,f)with
   |none=>rfl
   |some r=>obtain⟨m,hm⟩:=J2e.1 e;exact absurd ⟨m,r,hm⟩ hx
  have h:Jf J05 (n,i,0,q,g)=none:=by
   cases e:Jf J05 (n,i,0,q,g)with
   |none=>rfl
   |some r=>
    obtain⟨m,hm⟩:=J2e.1 e;rcases j m 0 with⟨_,h2⟩|⟨h1,_⟩|⟨h1,_⟩
    ·rw[h2]at hm;cases hm
    ·exact absurd ⟨m,_,h1⟩ hx
    ·exact absurd ⟨m,_,h1⟩ hx
  exact .inr (.inr ⟨o,h⟩)
theorem Jrp{p q:JY}(hs:p.1=q.1)(hf:Jdl p.2.1 q.2.1)(e:J0g p=some true)(G:0<=q.2.2)(h1:q.2.2<J0 q.2.1\/q.2.2=0):J0g q=some true:=by
 obtain⟨⟨F,N,E,H,I⟩,_⟩:=Jc0 e;have el:J0 p.2.1=J0 q.2.1:=by unfold J0;rw[hf.1]
 have K:=JoI 0 (JF .i64 (J0 q.2.1) 1);have J:=J0E (J0 q.2.1) 1;have L:=J3 (l:=q.2.1);have C: ∀x:JY,1<=x.1->x.1<=64->J0 x.2.1<=x.1->0<=x.2.2->(x.2.2<J0 x.2.1\/x.2.2=0)->J0g x=Jf J58 (J0 x.2.1,0,x):=by
  intro x a1 a2 a3 B A;have K:=JoI 0 (JF .i64 (J0 x.2.1) 1);have J:=J0E (J0 x.2.1) 1;have L:=J3 (l:=x.2.1);unfold J0g;have v:ltI x.1 1=false:=by simp only[ltI,decide_eq_false_iff_not];omega
  have w:gtI x.1 64=false:=by simp only[gtI,decide_eq_false_iff_not];omega
  have k:gtI (J0 x.2.1) x.1=false:=by simp only[gtI,decide_eq_false_iff_not];omega
  have o:ltI x.2.2 0=false:=by simp only[ltI,decide_eq_false_iff_not];omega
  have M: ¬gtI x.2.2 (J31 0 (JF .i64 (J0 x.2.1) 1))=true:=by simp only[gtI,decide_eq_true_eq];omega
  rw[if_pos v,if_pos w,if_pos k,if_pos o,if_neg M]
 rw[C p F N E H I]at e;rw[C q oo oo oo G h1,<-e]
 symm
 refine JvQ (R:=λz h=>z.1=J0 p.2.1/\h.1=J0 q.2.1/\z.2.1=h.2.1/\z.2.2=p/\h.2.2=q) ?_ ⟨rfl,rfl,rfl,rfl,rfl⟩;rintro⟨n,i,z⟩ ⟨O,P,h⟩ ⟨a1,a2,a3,B,A⟩;dsimp only at a1 a2 a3 B A;subst B;subst A;subst a3;subst a1;subst a2;unfold J58;dsimp only;rw[el];have j: ∀{f g:J06},FrE f g->JHd (fun(a b:TQ106)=>a.1=J0 h.2.1/\b.1=J0 h.2.1/\a.2.1=b.2.1/\a.2.2=z/\b.2.2=h) (Jf J05 (J0 h.2.1,i,0,z,f)) (Jf J05 (J0 h.2.1,i,0,h,g)):=fun{f g} D=>by
  rcases JMq (J0 h.2.1) i z h f g hf D with⟨b1,b2⟩|⟨b1,b2⟩|⟨b1,b2⟩
  ·exact .inr (.inl ⟨_,b1,b2⟩)
  ·exact .inr (.inr ⟨_,_,b1,b2,rfl,rfl,rfl,rfl,rfl⟩)
  ·exact .inl ⟨b1,b2⟩
 have y:JHd (fun(a b:TQ106)=>a.1=J0 h.2.1/\b.1=J0 h.2.1/\a.2.1=b.2.1/\a.2.2=z/\b.2.2=h) (some (.inr false:(TQ106)⊕Bool)) (some (.inr false)):=.inr (.inl ⟨_,rfl,rfl⟩);by_cases hk:ltI i (J0 h.2.1)=true
 ·rw[if_pos hk,if_pos hk];rcases hf.idx i with⟨e1,e2⟩|⟨f,g,e1,e2,r⟩
  ·rw[e1,e2];exact .inl ⟨rfl,rfl⟩
  ·rw[e1,e2,JK,JK,<-r.1,<-r.2.1,<-r.2.2];cases hv:J1q f.1 with
   |none=>exact .inl ⟨rfl,rfl⟩
   |some b=>
    rw[JK,JK];by_cases hb:Jo b=false
    ·rw[if_pos hb,if_pos hb];by_cases hd:f.2.1=true
     ·rw[if_pos hd,if_pos hd];by_cases v:ltI f.2.2.1 1=false
      ·rw[if_pos v,if_pos v];by_cases w:gtI f.2.2.1 f.1.2.1=false
       ·rw[if_pos w,if_pos w];by_cases k:Jo f.2.1=true
        ·rw[if_pos k,if_pos k];by_cases o:neI f.2.2.1 0=true
         ·rw[if_pos o,if_pos o];exact y
         ·rw[if_neg o,if_neg o];exact j r
        ·rw[if_neg k,if_neg k];exact j r
       ·rw[if_neg w,if_neg w];exact y
      ·rw[if_neg v,if_neg v];exact y
     ·rw[if_neg hd,if_neg hd];by_cases k:Jo f.2.1=true
      ·rw[if_pos k,if_pos k];by_cases o:neI f.2.2.1 0=true
       ·rw[if_pos o,if_pos o];exact y
       ·rw[if_neg o,if_neg o];exact j r
      ·rw[if_neg k,if_neg k];exact j r
    ·rw[if_neg hb,if_neg hb];exact y
 ·rw[if_neg hk,if_neg hk];exact .inr (.inl ⟨_,rfl,rfl⟩)
theorem JIx{p:JY}{id:Int}(hp:J0 p.2.1<=64){k:Int}{f:J06}(hk:idx p.2.1 k=some f)(hf:f.1.1=id): ∀{j:Int},J1A (p,id)=some j->0<=j:=by
 intro j hj;have n:Par (J1A (p,id)) λj=>0<=j:=by
  unfold J1A;dsimp only;obtain⟨r,o⟩:=J3L hk;have w:=J8t o;refine .while (λz=>z.1=id/\z.2.2=p/\0<=z.2.1/\z.2.1<=k) ⟨rfl,rfl,J0G _,r⟩ ?_;rintro⟨a,i,q⟩ ⟨h1,h2,h3,h4⟩;dsimp only at h1 h2 h3 h4;subst h1;subst h2;unfold J7r;dsimp only;have:=Jh i 1;refine .lt (λc=>.bind λg h=>.eq (λ_=>.some h3) λv=>.some ⟨rfl,rfl,?_,?_⟩) λc=>?_
  ·show 0<=J1 .i64 i 1;omega
  ·show J1 .i64 i 1<=k;by_cases e:i=k
   ·subst e;rw[hk]at h;injection h with h;subst h;exact absurd hf v
   ·omega
  ·exfalso;omega
 exact n _ hj
theorem InP.of{p:JY}{id:Int}(hv:J0g p=some true){k:Int}{f:J06}(hk:idx p.2.1 k=some f)(hf:f.1.1=id)(e:Ty.fit B S JI p)(hi:Ty.fit 0 0 (.i .i64) id)(g:BS B S 0 0:=by omega)(o:B<=9223372036854775807:=by omega):InP p id:=by obtain⟨⟨_,h,n,_⟩,_⟩:=Jc0 hv;obtain⟨j,hj,_⟩:=J4H (B:=B) (S:=S) (x1:=(p,id)) ⟨e,hi⟩;refine⟨j,?_,JIx oo hk hf hj⟩;unfold J1k;dsimp only;rw[hv,JK,if_neg (by simp[Jo]),hj];rfl
def JsP(l:List J06):Int:=(l.countP λf=>f.2.2.2:Nat)
theorem Jvs{x1:JY}(h:Ty.fit B S JI x1)(L:BC B S 0 0:=by omega):Tot (J7L x1) λy=>Ty.fit 64 12 JJ1 y/\(J0g x1=some true->1<=J0 x1.2.1->J0g y.1=some true/\InP y.1 y.2.1/\y.1.1=x1.1/\J0 y.1.2.1=J0 x1.2.1):=by
 unfold J7L;refine .bind ((J3l h).eqn) λR h2=>.not (λc=>.some ⟨⟨fzr,fk0,fkn 15⟩,λe=>by rw[e]at h2;have q:=h2.2;injection q with q;subst q;cases c⟩) λc=>.eq (λJ=>.some ⟨⟨fzr,fk0,fkn 18⟩,λ_ _=>by omega⟩) λJ=>?_;subst c;have hv:=h2.2;obtain⟨⟨N,Q,M,G,O⟩,hd⟩:=J2p h hv rfl;have:=J3 (l:=x1.2.1);have hl:1<=J0 x1.2.1:=by omega
 refine Jd (τ:=JY) (λq=>(q,0,[],0)) (λq=>q.1=x1.1/\Jdl x1.2.1 q.2.1/\0<=q.2.2/\q.2.2<J0 x1.2.1/\Ty.fit 64 12 JI q) (λq=>JsP q.2.1) ?_ x1 rfl ⟨rfl,Jdl.refl _,G,oo,hd⟩;rintro p ⟨g1,g2,D,P,o⟩;have el:J0 x1.2.1=J0 p.2.1:=by unfold J0;rw[g2.1]
 unfold Jea;dsimp only;have n:p.2.2.toNat<p.2.1.length:=by unfold J0 at*;omega
 have v:idx p.2.1 p.2.2=some p.2.1[p.2.2.toNat]:=by unfold idx;rw[if_pos D,JD n]
 have g:=o.2.1.2 _ (JdZ n);have j:p.2.1[p.2.2.toNat]?=some p.2.1[p.2.2.toNat]:=JD n;generalize p.2.1[p.2.2.toNat]=f at v g j;rw[v];show Tot (if f.2.2.2=true then _ else _) _;refine .ite (λC=>?_) λC=>.inr ?_
 ·show Tot ((J2d (p,p.2.2,f.1,f.2.1,f.2.2.1,false)).bind _) _;have es:J2d (p,p.2.2,f.1,f.2.1,f.2.2.1,false)=some (p.1,J0t p.2.1 p.2.2.toNat (f.1,f.2.1,f.2.2.1,false),p.2.2):=by
   unfold J2d;obtain⟨r,hr,e⟩:=(Jt6 (bytes:=424) o.2.1 oo (by decide));subst e;have q3:J1T (α:=J06) 424 p.2.1=some p.2.1:=hr;dsimp only;rw[q3,JK];have K:inb p.2.1.length p.2.2=some ():=by unfold inb;rw[if_pos ⟨D,oo⟩]
   have I:lat p.2.1 p.2.2.toNat=some f:=by unfold lat;exact j
   rw[K,JK,I,JK]
  rw[es,JK];dsimp only;have E:J0 (J0t p.2.1 p.2.2.toNat (f.1,f.2.1,f.2.2.1,false))=J0 p.2.1:=J5z;rw[E];have:=Jh p.2.2 1;refine .bind (JrA (k:=.i64) (B:=0) (S:=0) (x:=J1 .i64 p.2.2 1) (y:=J0 p.2.1) J5 oo) λz A=>.some ⟨(p.1,J0t p.2.1 p.2.2.toNat (f.1,f.2.1,f.2.2.1,false),z),rfl,⟨g1,g2.put v ⟨rfl,rfl,rfl⟩,?_,?_,o.1,J3W o.2.1 ⟨g.1,g.2.1,g.2.2.1,trivial⟩,A.1⟩,?_,?_⟩
  ·show 0<=z;exact A.2.1 oo
  ·show z<J0 x1.2.1;have:=A.c oo;omega
  ·show JsP (J0t p.2.1 p.2.2.toNat (f.1,f.2.1,f.2.2.1,false))<JsP p.2.1;unfold JsP J0t;rw[List.countP_set n];have F:p.2.1[p.2.2.toNat]=f:=by have:=JD n;rw[j]at this;injection this with this;exact this.symm
   rw[F];have H:0<p.2.1.countP (λf=>f.2.2.2):=List.countP_pos_iff.2 ⟨f,zQ9 j,C⟩;rw[if_pos C,if_neg (by simp)];omega
  ·show 0<=JsP p.2.1;exact Int.natCast_nonneg _
 ·show Tot ((some f).bind _) _;rw[JK];have w:J0g p=some true:=Jrp g1.symm g2 hv D (.inl oo);refine .some ⟨⟨o,g.1.1,fk0⟩,λ_ _=>⟨w,InP.of (B:=64) (S:=12) w v rfl o g.1.1,g1,el.symm⟩⟩
theorem JBf{x1:J9}(h:Ty.fit B S J7 x1)(w:BG B S:=by omega):Tot (J4B x1) λy=>Ty.fit 16384 1073741824 (.pr J7 (.pr Jr (.pr .b (.i .i64)))) y/\(y.2.2.2=0->J0 y.1.2.2.1.2.1=J0 x1.2.2.1.2.1/\J0 x1.2.2.1.2.1<=4096):=by
 unfold J4B;have g:Ty.fit 16384 1073741824 Jr (0,0,Vector.replicate 16 (false,[])):=⟨fk0,fk0,J0c oo oo (.ar 16 JE)⟩;have v:Ty.fit 16384 1073741824 J7 (0,0,(0,[],0),(0,[],0),([],[]),[],[],[]):=J0c oo oo J7;refine .bind ((J18 h).eqn) λD h2=>.not (λc=>.some ⟨⟨v,g,trivial,fkn 15⟩,λc=>by cases c⟩) λc=>?_;subst c;obtain⟨q,hk⟩:=J1h h h2.2 rfl;have o:=J43 h2.2;refine .lt (λc=>.some ⟨⟨hk.u,g,trivial,fk0⟩,λ_=>⟨rfl,q.2.2.2.2.2.2.2.1⟩⟩) λc=>.bind (Jvs hk.2.2.2.1) λe h3=>?_;obtain⟨a1,a2,a3,z⟩:=h3.2 o.2.1 oo;refine .bind ((J4C (B:=64) (S:=12) (x1:=(e.1,e.2.1)) ⟨h3.1.1,h3.1.2.1⟩).eqn) λC h4=>?_;have k:=JqC a2 h4.2;refine .bind (Ji h3.1.1.2.1 k h4.1.c) λn h5=>.not (λ_=>?_) λ_=>?_
 ·exact .bind (JzK (B:=16384) (S:=1073741824) (x1:=(e.1,e.2.1)) ⟨h3.1.1.u,h3.1.2.1⟩) λA r=>.some ⟨⟨⟨hk.1,hk.2.1,hk.2.2.1.u,r.1.u,hk.2.2.2.2.u⟩,g,trivial,fk0⟩,λ_=>⟨rfl,q.2.2.2.2.2.2.2.1⟩⟩
 ·exact .bind (J8K (B:=16384) (S:=1073741824) (x1:=((x1.1,x1.2.1,x1.2.2.1,e.1,x1.2.2.2.2),n.1.2.1)) ⟨⟨hk.1,hk.2.1,hk.2.2.1.u,h3.1.1.u,hk.2.2.2.2.u⟩,h5.1.1.2.1⟩) λx j=>.some ⟨⟨j.1,h5.1.1.u,trivial,fk0⟩,λ_=>⟨j.2,q.2.2.2.2.2.2.2.1⟩⟩
end
end Go.Am
end
section
namespace Go.Am
set_option linter.unusedVariables false
set_option maxRecDepth 20000
set_option maxHeartbeats 4000000
theorem JBh{B S:Int}{x1:Ju}(h:Ty.fit B S Jk x1)(x:BG B S:=by omega):Tot (J4E x1) λy=>Ty.fit B S tq3 y/\(y.2=0->J0 x1.1.2.2.1.2.1<=J0 y.1.1.2.2.1.2.1):=by
 unfold J4E;refine Jd (τ:=Ju) (λq=>(q,(0,0,(0,[],0),(0,[],0),([],[]),[],[],[]),[],0,[],false,[])) (λq=>Ty.fit B S Jk q/\(J0 x1.1.2.2.1.2.1<=J0 q.1.2.2.1.2.1)) (λq=>4097-J0 q.1.2.2.1.2.1) ?_ x1 rfl ?_
 ·rintro j ⟨o,z2⟩;unfold JaW
  try dsimp only
  have:J0 x1.1.2.2.1.2.1=_:=Jj h.1.c.1.2.1;have:J0 j.1.2.2.1.2.1=_:=Jj o.1.2.2.1.2.1;refine .bind (JBf o.1) λk g=>?_;have:J0 k.1.2.2.1.2.1<=16384:=g.1.1.c.1.2.1.1;have:=J3 (l:=k.1.2.2.1.2.1);have:J0 k.1.2.2.1.2.1=_:=Jj g.1.1.c.1.2.1;have:k.2.2.2=0->J0 k.1.2.2.1.2.1=J0 j.1.2.2.1.2.1/\J0 j.1.2.2.1.2.1<=4096:=g.2;refine .ne (λv=>?_) λv=>?_
  ·exact .some ⟨(⟨⟨fzr,Ja,fk0,Ja,trivial,Ja⟩,g.1.2.z.2.2⟩),om⟩
  ·refine .not (λw=>?_) λw=>?_
   ·exact .some ⟨(⟨⟨g.1.1.u,o.2⟩,fk0⟩),om⟩
   ·refine .bind (Jku (B:=B) (S:=S) (⟨o,g.1.1.u,g.1.2.z.1.u⟩)) λn e=>?_;have:J0 n.1.1.2.2.1.2.1<=16384:=e.1.1.1.c.1.2.1.1;have:=J3 (l:=n.1.1.2.2.1.2.1);have:J0 n.1.1.2.2.1.2.1=_:=Jj e.1.1.1.c.1.2.1;have:n.2=0->J0 n.1.1.2.2.1.2.1=J0 k.1.2.2.1.2.1+1:=e.2;refine .ne (λr=>?_) λr=>?_
    ·exact .some ⟨(⟨⟨fzr,Ja,fk0,Ja,trivial,Ja⟩,e.1.2⟩),om⟩
    ·exact .some ⟨n.1,rfl,⟨e.1.1.u,om⟩,om,om⟩
 ·have:J0 x1.1.2.2.1.2.1<=B:=h.1.c.1.2.1.1
  try dsimp only
  exact⟨h,om⟩
theorem J6g{B S:Int}{x1:J3r}(h:Ty.fit B S tq3 x1)(J:BG B S:=by omega)(P:S<=9223372036854775807:=by omega):Tot (J27 x1) λy=>Ty.fit B S tq3 y/\(y.2=0->J0 x1.1.1.2.2.1.2.1<=J0 y.1.1.2.2.1.2.1):=by
 unfold J27;refine .bind ((J18 h.1.1).eqn) λQ h1=>.not (λA=>?_) λA=>?_
 ·have:J0 x1.1.1.2.2.1.2.1<=B:=h.1.1.c.1.2.1.1;exact .some ⟨(⟨⟨fzr,Ja,fk0,Ja,trivial,Ja⟩,fkn 15⟩),om⟩
 ·have H:=J1h h.1.1 h1.2 A;have:J0 x1.1.1.2.2.1.2.1=_:=Jj h.1.1.c.1.2.1;have G:Ty.fit 4096 8192 J7 x1.1.1:=H.2;refine .ltf (λD=>?_) λD=>?_
  ·refine .ge (λw=>?_) λw=>?_
   ·exact .some ⟨(⟨⟨fzr,Ja,fk0,Ja,trivial,Ja⟩,fkn 1⟩),om⟩
   ·refine .bind ((J4C (B:=4096) (S:=8192) (x1:=(x1.1.1.2.2.2.1,x1.2)) (⟨G.d.1,h.2⟩)).eqn) λL I=>.ge (λz=>?_) λz=>?_
    ·exact .some ⟨(⟨h.1,fk0⟩),om⟩
    ·refine .bind (JBh h.1) λj e=>?_;have:J0 j.1.1.2.2.1.2.1=_:=Jj e.1.1.1.c.1.2.1;have:j.2=0->J0 x1.1.1.2.2.1.2.1<=J0 j.1.1.2.2.1.2.1:=e.2;refine .ne (λC=>?_) λC=>?_
     ·exact .some ⟨(⟨⟨fzr,Ja,fk0,Ja,trivial,Ja⟩,e.1.2⟩),om⟩
     ·refine .bind (JAR (B:=B) (S:=S) (⟨e.1.1.2,h.2⟩)) λN q=>.ne (λF=>?_) λF=>?_
      ·exact .some ⟨(⟨⟨fzr,Ja,fk0,Ja,trivial,Ja⟩,q.2⟩),om⟩
      ·refine .bind (J72 (B:=B) (S:=S) (⟨e.1.1.1,h.2⟩)) λO o=>.bind (Jy0 (B:=B) (S:=S) (⟨e.1.1.1.h.1,h.2,o,q.1.u⟩)) λK n=>.ne (λE=>?_) λE=>?_
       ·exact .some ⟨(⟨⟨fzr,Ja,fk0,Ja,trivial,Ja⟩,n.2⟩),om⟩
       ·refine .bind (JCM (B:=B) (S:=S) (⟨e.1.1.1.c.1,n.1.u,o⟩)) λM k=>.ne (λv=>?_) λv=>?_
        ·exact .some ⟨(⟨⟨fzr,Ja,fk0,Ja,trivial,Ja⟩,k.2⟩),om⟩
        ·refine .bind (JtU (B:=B) (S:=(S+8192)) (⟨e.1.1.1.u,k.1.u⟩)) λr g=>?_;have:J0 r.1.2.2.1.2.1=_:=Jj g.1.1.c.1.2.1;have:r.2=0->J0 r.1.2.2.1.2.1=J0 j.1.1.2.2.1.2.1:=g.2;refine .ne (λx=>?_) λx=>?_
         ·exact .some ⟨(⟨⟨fzr,Ja,fk0,Ja,trivial,Ja⟩,g.1.2⟩),om⟩
         ·exact .some ⟨(⟨⟨g.1.1.u,e.1.1.2⟩,fk0⟩),om⟩
  ·exact .some ⟨(⟨⟨fzr,Ja,fk0,Ja,trivial,Ja⟩,fkn 1⟩),om⟩
section
variable {B S:Int}
def J33(k y:J9):Prop:=y.2.2.2.2.2.1=k.2.2.2.2.2.1/\y.2.2.1.1=k.2.2.1.1/\ ∃m,y.2.2.1.2.1=k.2.2.1.2.1++m
theorem J33.refl(k:J9):J33 k k:=⟨rfl,rfl,[],(J45 _).symm⟩
theorem J33.trans{a b c:J9}(h:J33 a b)(g:J33 b c):J33 a c:=by obtain⟨h1,h2,m,h3⟩:=h;obtain⟨g1,g2,n,e⟩:=g;exact⟨g1.trans h1,g2.trans h2,m++n,by rw[e,h3,Ja2]⟩
def JbY(p:JY)(id:Int):Prop:= ∃f∈p.2.1,f.1.1=id
theorem JbY.inP{p:JY}{id:Int}(h:JbY p id)(hv:J0g p=some true)(n:Ty.fit B S JI p)(o:BS B S 0 0:=by omega)(q:B<=9223372036854775807:=by omega):InP p id:=by obtain⟨f,hf,e⟩:=h;obtain⟨j,hj⟩:=JbU.1 hf;have g:=n.2.1.2 f hf;refine InP.of hv (k:=j) (f:=f) ?_ e n (e▸g.1.1);unfold idx;rw[if_pos (Int.natCast_nonneg j)];simpa using hj
theorem JkK{l:J04}{n:Int}{y:J6M}(e:J2q (l,n)=some y)(c:y.2=0):y.1.1=l.1/\y.1.2.1=l.2.1:=by
 have g:Par (J2q (l,n)) λy=>y.2=0->y.1.1=l.1/\y.1.2.1=l.2.1:=by unfold J2q;exact .bind λ_ _=>.not (λ_=>.some nofun) λ_=>.bind λ_ _=>.gt (λ_=>.some nofun) λ_=>.some λ_=>⟨rfl,rfl⟩
 exact g _ e c
theorem Jyk{k:J9}{n:Int}{y:J9}(e:J2o (k,n)=some y):J33 k y/\y.2.2.2.1=k.2.2.2.1:=by
 have g:Par (J2o (k,n)) λy=>J33 k y/\y.2.2.2.1=k.2.2.2.1:=by
  unfold J2o;refine .bind λa ha=>.bind λb hb=>.eq (λc=>.some ⟨⟨rfl,?_,[],?_⟩,rfl⟩) λ_=>.some ⟨J33.refl k,rfl⟩
  ·exact(JkK hb c).1
  ·rw[J45];exact(JkK hb c).2
 exact g _ e
theorem Jxx{l:List Js}{x:T_api_Entry}{y:J2g}(e:J0A (l,x)=some y)(h:x.2.2.1=0)(c:y.2=0):y.1=l:=by
 have g:Par (J0A (l,x)) λy=>y.2=0->y.1=l:=by unfold J0A;exact .bind λ_ _=>.not (λ_=>.some nofun) λ_=>.bind λ_ _=>.not (λ_=>.some nofun) λ_=>.eq (λ_=>.some λ_=>rfl) λc=>absurd h c
 exact g _ e c
theorem JzO{x:JtI}{y:Jdc}(e:J1b x=some y)(c:y.2.2=0)(C:x.2.2.2.1=0):J33 x.1 y.1:=by
 have D:Par (J1b x) λy=>y.2.2=0->J33 x.1 y.1:=by
  obtain⟨k,n,B,M,L,I,r⟩:=x;dsimp only at C;subst C;unfold J1b;dsimp only;have z: ∀{a b:Int} {g:Jss} {v:JjJ} {h:J2g} {E:List T_api_Row},J1e (k.2.2.1,(n,B,0,a,b,r))=some g->g.2.2=0->J0I (g.1,g.2.1)=some v->J0A (k.2.2.2.2.2.1,v.1)=some h->h.2=0->J33 k (k.1,k.2.1,g.1,k.2.2.2.1,k.2.2.2.2.1,h.1,E,k.2.2.2.2.2.2.2):=fun{a b g v h E} q o A w j=>by have F:=JFr q o A w j;obtain⟨_,_,a3,_⟩:=Jb4 q o;subst a3;exact⟨Jxx w (by rw[F]) j,rfl,_,rfl⟩
  refine .bind λ_ _=>.not (λ_=>.some nofun) λ_=>.gt (λc=>absurd c (by decide)) λ_=>.bind λJ _=>.ite (λ_=>.bind λK _=>?_) λ_=>?_
  all_goals
   refine .bind λg q=>.ne (λc=>.some λd=>absurd d c) λo=>.bind λv A=>.bind λh w=>.ne (λc=>.some λd=>absurd d c) λj=>.bind λG _=>.ne (λc=>.some λd=>absurd d c) λH=>.some λ_=>z q o A w j
 exact D _ e c
theorem JsS{x:Jdc}{y:J1F}(e:J38 x=some y)(c:y.2=0):J33 x.1 y.1:=by
 have g:Par (J38 x) λy=>y.2=0->J33 x.1 y.1:=by
  unfold J38;refine .bind λ_ _=>.not (λ_=>.some nofun) λ_=>.ltf (λ_=>.gef (λ_=>.ltf (λ_=>.bind λ_ _=>.gt (λ_=>.some nofun) λ_=>.bind λj hj=>.ge (λ_=>.bind λp hp=>.ne (λc=>.some λd=>absurd d c) λ_=>?_) λ_=>?_) λ_=>.some nofun) λ_=>.some nofun) λ_=>.some nofun
  all_goals
   refine .bind λn h=>.ne (λc=>.some λd=>absurd d c) λk=>.some λ_=>JzO h k rfl
 exact g _ e c
theorem Jxl{x:JJK}{y:J3r}(e:J3k x=some y)(c:y.2=0):J33 x.2.1 y.1.1:=by
 have g:Par (J3k x) λy=>y.2=0->J33 x.2.1 y.1.1:=by unfold J3k;exact .bind λ_ _=>.bind λ_ _=>.ne (λc=>.some λd=>absurd d c) λ_=>.bind λj h4=>.ne (λc=>.some λd=>absurd d c) λh=>.some λ_=>JsS h4 h
 exact g _ e c
theorem Jo7{x:J9}{y:J9×JU×Bool×Int}(e:J4B x=some y)(c:y.2.2.2=0):J33 x y.1:=by
 have g:Par (J4B x) λy=>y.2.2.2=0->J33 x y.1:=by
  unfold J4B;refine .bind λ_ _=>.not (λ_=>.some nofun) λ_=>.lt (λ_=>.some λ_=>J33.refl _) λ_=>.bind λv _=>.bind λ_ _=>.bind λ_ _=>.not (λ_=>.bind λd _=>.some λ_=>?_) λ_=>.bind λj h=>.some λ_=>?_
  ·exact⟨rfl,rfl,[],(J45 _).symm⟩
  ·obtain⟨⟨a1,a2,m,a3⟩,_⟩:=Jyk h;exact⟨a1,a2,m,a3⟩
 exact g _ e c
theorem JBY{x:Ju}{y:J3r}(e:J4E x=some y)(c:y.2=0):J33 x.1 y.1.1:=by
 have g:Par (J4E x) λy=>y.2=0->J33 x.1 y.1.1:=by unfold J4E;refine .while (λz=>J33 x.1 z.1.1) (J33.refl _) ?_;rintro⟨s,z⟩ hz;dsimp only at hz;unfold JaW;dsimp only;exact .bind λk h3=>.ne (λc=>.some λd=>absurd d c) λh=>.not (λ_=>.some λ_=>hz.trans (Jo7 h3 h)) λ_=>.bind λn h4=>.ne (λc=>.some λd=>absurd d c) λj=>.some ((hz.trans (Jo7 h3 h)).trans (Jxl h4 j))
 exact g _ e c
theorem Jpt{p:JY}{x:JU}{y:Int×Int×Int×List J06}(e:J5u (p,x)=some y)(c:y.2.2.1=0):y.2.2.2=p.2.1++[(x,false,0,true)]:=by
 have h:Par (J5u (p,x)) λy=>y.2.2.1=0->y.2.2.2=p.2.1++[(x,false,0,true)]:=by
  unfold J5u;refine .bind λ_ _=>.not (λ_=>.some nofun) λ_=>.bind λ_ _=>.ne (λc=>.some λd=>absurd d c) λ_=>.bind λ_ _=>.ge (λ_=>.some nofun) λ_=>.eq (λ_=>.some nofun) λ_=>.bind λk h5=>.bind λn g=>.some λ_=>?_;have j:k=p.2.1:=by
   unfold J1T at h5;split at h5
   ·injection h5 with h5;exact h5.symm
   ·cases h5
  subst j;unfold Jz at g;split at g
  ·injection g with g;exact g.symm
  ·cases g
 exact h _ e c
theorem JzT{l:List J06}{i:Nat}{f g:J06}{id:Int}(hi:lat l i=some f)(o:g.1=f.1)(h: ∃a∈l,a.1.1=id): ∃a∈J0t l i g,a.1.1=id:=by
 obtain⟨a,ha,e⟩:=h;obtain⟨j,hj⟩:=JbU.1 ha;unfold lat at hi;have n:=(J6y.1 hi).1;by_cases k:i=j
 ·subst k;rw[hi]at hj;injection hj with hj;subst hj
  exact⟨g,JbU.2 ⟨i,by unfold J0t;rw[JmY n]⟩,by rw[o];exact e⟩
 ·exact⟨a,JbU.2 ⟨j,by unfold J0t;rw[Jje k];exact hj⟩,e⟩
theorem JuY{x:JJ2}{y:J1F}(e:J3A x=some y)(c:y.2=0):J33 x.1 y.1/\JbY y.1.2.2.2.1 x.2.1:=by
 have q:Par (J3A x) λy=>y.2=0->J33 x.1 y.1/\JbY y.1.2.2.2.1 x.2.1:=by
  unfold J3A;refine .bind λ_ _=>.not (λ_=>.some nofun) λ_=>.ltf (λ_=>.ge (λ_=>.some nofun) λ_=>.bind λ_ _=>.lt (λ_=>.some nofun) λ_=>.bind λ_ _=>.gt (λ_=>.some nofun) λ_=>.bind λo h5=>.ne (λc=>.some λd=>absurd d c) λv=>.bind λw _=>.ite (λ_=>.bind λ_ _=>.bind λn A=>.bind λ_ _=>.bind λh j=>?_) λ_=>.some λ_=>?_) λ_=>.some nofun
  ·have ep:=Jpt h5 v;have B: ∃a∈o.2.2.2,a.1.1=x.2.1:=by rw[ep];exact⟨_,List.mem_append_right _ (Jql.2 rfl),rfl⟩
   have h2:=JzT (g:=(n.1,true,n.2.2)) A rfl B;have h3:=JzT (g:=(h.1,h.2.1,w.1.2.1,h.2.2.2)) j rfl h2;refine .while (λz=>z.2.1=x.1/\ ∃a∈z.2.2.2.2.1,a.1.1=x.2.1) ⟨rfl,h3⟩ ?_;rintro⟨i,k,p,C,D,a,b,r,rest⟩ ⟨hk,hz⟩;dsimp only at hk hz;subst hk;unfold J94;dsimp only;exact .lt (λ_=>.bind λ_ _=>.ne (λ_=>.bind λ_ _=>.bind λ_ _=>.some ⟨rfl,hz⟩) λ_=>.some ⟨rfl,hz⟩) λ_=>.some λ_=>⟨⟨rfl,rfl,[],(J45 _).symm⟩,hz⟩
  ·have ep:=Jpt h5 v;refine⟨⟨rfl,rfl,[],(J45 _).symm⟩,?_⟩;show∃a∈o.2.2.2,a.1.1=x.2.1;rw[ep];exact⟨_,List.mem_append_right _ (Jql.2 rfl),rfl⟩
 exact q _ e c
theorem JdY{x:J3G}{y:J8U}(e:J2R x=some y)(c:y.2=0):y.1.1=x.2:=by
 have g:Par (J2R x) λy=>y.2=0->y.1.1=x.2:=by unfold J2R;refine .ltf (λ_=>.ge (λ_=>.some nofun) λ_=>.bind λj _=>.eq (λ_=>.bind λh h3=>.some λ_=>?_) λ_=>.eq (λ_=>.ne (λ_=>.some nofun) λc=>.some λ_=>c) λc=>.some λd=>absurd d c) λ_=>.some nofun;unfold J8k at h3;injection h3 with h3;subst h3;rfl
 exact g _ e c
theorem Jxa{x:(List T_api_Row)×Int×Int×List UInt8}{y:J8U}(e:J3Y x=some y)(c:y.2=0):y.1.1=x.2.1:=by
 have g:Par (J3Y x) λy=>y.2=0->y.1.1=x.2.1:=by unfold J3Y;exact .bind λ_ _=>.not (λ_=>.some nofun) λ_=>.ltf (λ_=>.gef (λ_=>.lt (λ_=>.some nofun) λ_=>.bind λj h3=>.ne (λc=>.some λd=>absurd d c) λh=>.gt (λ_=>.bind λ_ _=>.gt (λ_=>.some nofun) λ_=>.bind λ_ _=>.lt (λ_=>.some nofun) λ_=>.some λ_=>JdY h3 h) λ_=>.bind λ_ _=>.lt (λ_=>.some nofun) λ_=>.some λ_=>JdY h3 h) λ_=>.some nofun) λ_=>.some nofun
 exact g _ e c
theorem Jyo{x:JKk}{y:J8U}(e:J3X x=some y)(c:y.2=0):y.1.1=x.1.1:=by
 have h: ∀{p:JU} {d:J1M} {y:J8U},J3n (p,d)=some y->y.2=0->y.1.1=p.1:=fun{p d y} e c=>by
  have g:Par (J3n (p,d)) λy=>y.2=0->y.1.1=p.1:=by unfold J3n;exact .bind λ_ _=>.not (λ_=>.some nofun) λ_=>.ne (λ_=>.some nofun) λ_=>.bind λ_ _=>.bind λ_ _=>.not (λ_=>.some nofun) λ_=>.bind λ_ _=>.bind λ_ _=>.some λ_=>rfl
  exact g _ e c
 have g:Par (J3X x) λy=>y.2=0->y.1.1=x.1.1:=by unfold J3X;exact .bind λ_ _=>.nof (λ_=>.bind λ_ _=>.not (λ_=>.some nofun) λ_=>.bind λ_ _=>.ne (λc=>.some λd=>absurd d c) λ_=>.ne (λ_=>.some nofun) λ_=>.ne (λ_=>.some nofun) λ_=>.bind λk h5=>.ne (λc=>.some λd=>absurd d c) λj=>.some λ_=>by have q:=h h5 j;exact q) λ_=>.some nofun
 exact g _ e c
theorem JD7{x:Jr0}{y:J8U}(e:J4G x=some y)(c:y.2=0):y.1.1=x.2.1.1:=by
 have j: ∀{y:JFB},J4M (x.1,x.2.1,x.2.2)=some y->y.2.2=0->y.1.1=x.2.1.1:=fun{y} e c=>by
  have g:Par (J4M (x.1,x.2.1,x.2.2)) λy=>y.2.2=0->y.1.1=x.2.1.1:=by unfold J4M;refine .bind λ_ _=>.ne (λc=>.some λd=>absurd d c) λ_=>.while (λz=>z.2.2.2.1.1=x.2.1.1) rfl ?_;rintro⟨l,i,k,p,o⟩ hz;dsimp only at hz;unfold JaZ;dsimp only;exact .lt (λ_=>.bind λ_ _=>.bind λn h5=>.ne (λc=>.some λd=>absurd d c) λh=>.some ((Jyo h5 h).trans hz)) λ_=>.some λ_=>hz
  exact g _ e c
 have g:Par (J4G x) λy=>y.2=0->y.1.1=x.2.1.1:=by unfold J4G;exact .bind λa ha=>.some λc=>j ha c
 exact g _ e c
theorem J8M{x y:J3r}(hx:Ty.fit B S JI x.1.1.2.2.2.1)(e:J27 x=some y)(c:y.2=0):J33 x.1.1 y.1.1/\JbY y.1.1.2.2.2.1 x.2:=by
 have o:Par (J27 x) λy=>y.2=0->J33 x.1.1 y.1.1/\JbY y.1.1.2.2.2.1 x.2:=by
  unfold J27;refine .bind λ_ _=>.not (λ_=>.some nofun) λ_=>.ltf (λ_=>.ge (λ_=>.some nofun) λ_=>.bind λj hj=>.ge (λc=>.some λ_=>⟨J33.refl _,?_⟩) λ_=>.bind λJ h4=>.ne (λc=>.some λd=>absurd d c) λF=>.bind λ_ _=>.ne (λc=>.some λd=>absurd d c) λ_=>.bind λ_ _=>.bind λG C=>.ne (λc=>.some λd=>absurd d c) λA=>.bind λH D=>.ne (λc=>.some λd=>absurd d c) λv=>.bind λI E=>.ne (λc=>.some λd=>absurd d c) λw=>.some λ_=>?_) λ_=>.some nofun
  ·have k:Par (J1k (x.1.1.2.2.2.1,x.2)) λj=>0<=j->JbY x.1.1.2.2.2.1 x.2:=by
    unfold J1k;refine .bind λ_ _=>.not (λ_=>.some λh=>absurd h (by decide)) λ_=>.bind λj hj=>.some ?_;have g:Par (J1A (x.1.1.2.2.2.1,x.2)) λj=>0<=j->JbY x.1.1.2.2.2.1 x.2:=by unfold J1A;refine .while (λz=>z.1=x.2/\z.2.2=x.1.1.2.2.2.1) ⟨rfl,rfl⟩ ?_;rintro⟨a,i,q⟩ ⟨h1,h2⟩;dsimp only at h1 h2;subst h1;subst h2;unfold J7r;dsimp only;exact .lt (λ_=>.bind λf hf=>.eq (λc=>.some λ_=>⟨f,zQ9 (J3L hf).2,c⟩) λ_=>.some ⟨rfl,rfl⟩) λ_=>.some λh=>absurd h (by decide)
    exact g _ hj
   exact k _ hj oo
  ·obtain⟨a1,a2⟩:=JuY E w;refine⟨(JBY h4 F).trans a1,?_⟩;have r:=JD7 D v;have n:=Jxa C A;dsimp only at a2 r n;rw[r,n]at a2;exact a2
 exact o _ e c
end
theorem J4v{B S x1:Int}(h:Ty.fit B S (.i .i64) x1)(g:BS B S 0 0:=by omega):Tot (J2v x1) λy=>Ty.fit 0 0 JX y:=by
 unfold J2v;refine .ne (λe=>?_) λe=>?_
 ·refine .bind (J03 h) λj h3=>.some h3.1
 ·exact .some (⟨fkn 1,fk0,fk0,⟨trivial,Jc⟩,fk0⟩)
theorem J6I{B S:Int}{x1:J8J}(h:Ty.fit B S JtZ x1)(z:BC B S 0 0:=by omega):Tot (J3b x1) λy=>Ty.fit 0 0 (.pr J8 .b) y:=by
 unfold J3b;refine .bind ((J41 h.1).eqn) λD h1=>.ite (λn=>?_) λn=>?_
 ·have v3:=J3p h.1 h1.2 n;have:=J3 (l:=x1.1.1);have:J0 x1.1.1=_:=Jj h.1.1;have:=J3 (l:=x1.1.2);have:J0 x1.1.2=_:=Jj h.1.2;have g:Ty.fit 1024 0 Jy x1.1:=v3.2;refine Jd (τ:=Int) (λq=>(x1.2,q,x1.1,0,(0,0),0)) (λq=>(Ty.fit 0 0 (.i .i64) q/\0<=q/\(q<=J0 x1.1.2\/q<=0))) (λq=>J0 x1.1.2-q) ?_ 0 rfl ?_
  ·rintro e ⟨r,x,w⟩;unfold Jcg
   try dsimp only
   have:=J2.1 r;refine .lt (λj=>?_) λj=>?_
   ·refine .bind (Ji g.2) λC v=>.eq (λo=>?_) λo=>?_
    ·refine .bind (Ji g.2) λA k=>.some (⟨k.1,trivial⟩)
    ·have:=Jh e 1;exact .some ⟨J1 .i64 e 1,rfl,⟨J5,om,om⟩,om,om⟩
   ·exact .some (⟨fzr,trivial⟩)
  ·try dsimp only
   exact⟨fk0,oo,oo⟩
 ·exact .some (⟨fzr,trivial⟩)
section
variable {B S:Int}
theorem JdJ{x1:J8T}(h:Ty.fit B S JJq x1)(e:BS B S 0 0:=by omega)(g:B<=17179869183:=by omega):Tot (J5Q x1) λy=>Ty.fit (B+1) S (.l (.i .i64)) y/\J0 y<=J0 x1.1+1:=by obtain⟨un,n⟩:=x1;obtain⟨h,hn⟩:=h;have o:J0 un<=B:=h.1;have q:Tot (J5Q (un,n)) λy=>Ty.fit (J0 un+1) 0 (.l (.i .i64)) y:=JIK (b:=J0 un) (un:=un) ⟨J0G _,h.2⟩ hn oo;exact q.mono λy hy=>⟨hy.u,hy.1⟩
end
theorem Jgf{B S:Int}{x1:J8J}(h:Ty.fit B S JtZ x1)(a2:BS B S 0 0:=by omega)(hB:B<=8589934591:=by omega):Tot (J6q x1) λy=>Ty.fit (2*B) 0 (.l (.i .i64)) y:=by
 unfold J6q;refine .bind (J6I (B:=B) (S:=S) (h)) λQ h1=>.not (λU=>?_) λU=>?_
 ·exact .some Ja
 ·have:J0 x1.1.1<=B:=h.1.1.1;have:=J3 (l:=x1.1.1);have:J0 x1.1.1=_:=Jj h.1.1;refine Jd (τ:=J8T) (λq=>(x1.2,q.1,q.2,x1.1,Q.1)) (λq=>(Ty.fit 0 0 (.i .i64) q.2/\0<=q.2/\(q.2<=J0 x1.1.1\/q.2<=0))/\(Ty.fit B 0 (.l (.i .i64)) q.1/\J0 q.1<=1*q.2+0)) (λq=>J0 x1.1.1-q.2) ?_ ([],0) rfl ?_
  ·rintro⟨e,j⟩ C;dsimp only at C;obtain⟨⟨T,w9,V⟩,v,w8⟩:=C;unfold Jk6
   try dsimp only
   have:=J2.1 T;refine .lt (λI=>?_) λI=>?_
   ·refine .bind (Ji h.1.1) λy4 K=>.bind (J3D (B:=0) (S:=0) (⟨K.1,h1.1⟩)) λy5 Z=>.ite (λP=>?_) λP=>?_
    ·refine .bind (Ji h.1.1) λy6 F=>.bind (JdJ (B:=B) (S:=0) (⟨v,F.1.1⟩)) λo z=>?_;have w:Ty.fit (B+1) 0 (.l (.i .i64)) o:=z.1.u;have:J0 o<=(B+1):=w.1;have:J0 e<=B:=v.1;have:J0 o<=J0 e+1:=z.2;have J:Ty.fit B 0 (.l (.i .i64)) o:=⟨(by omega:J0 o<=B),λx hx=>w.2 x hx⟩;have:=Jh j 1;exact .some ⟨(o,J1 .i64 j 1),rfl,⟨⟨J5,om,om⟩,J,om⟩,om,om⟩
    ·have:=Jh j 1;exact .some ⟨(e,J1 .i64 j 1),rfl,⟨⟨J5,om,om⟩,v,om⟩,om,om⟩
   ·refine .inr ?_;have:J0 x1.1.2<=B:=h.1.2.1;have:=J3 (l:=x1.1.2);have:J0 x1.1.2=_:=Jj h.1.2;have:J0 e<=B:=v.1;refine Jd (τ:=J8T) (λq=>(x1.2,q.1,q.2,x1.1,Q.1)) (λq=>(Ty.fit 0 0 (.i .i64) q.2/\0<=q.2/\(q.2<=J0 x1.1.2\/q.2<=0))/\(Ty.fit (2*B) 0 (.l (.i .i64)) q.1/\J0 q.1<=1*q.2+J0 e)) (λq=>J0 x1.1.2-q.2) ?_ (e,0) rfl ?_
    ·rintro⟨r,k⟩ D;dsimp only at D;obtain⟨⟨M,Y,a0⟩,n,a1⟩:=D;unfold Jll
     try dsimp only
     have:=J2.1 M;refine .lt (λR=>?_) λR=>?_
     ·refine .bind (Ji h.1.2) λy9 a5=>.ne (λO=>?_) λO=>?_
      ·refine .bind (Ji h.1.2) λW G=>.bind (J3D (B:=0) (S:=0) (⟨G.1,h1.1⟩)) λa6 a4=>.ite (λL=>?_) λL=>?_
       ·refine .bind (Ji h.1.2) λa3 N=>.bind (JdJ (B:=(2*B)) (S:=0) (⟨n,N.1.1⟩)) λg E=>?_;have A:Ty.fit (2*B+1) 0 (.l (.i .i64)) g:=E.1.u;have:J0 g<=(2*B+1):=A.1;have:J0 g<=J0 r+1:=E.2;have H:Ty.fit (2*B) 0 (.l (.i .i64)) g:=⟨(by omega:J0 g<=(2*B)),λx hx=>A.2 x hx⟩;have:=Jh k 1;exact .some ⟨(g,J1 .i64 k 1),rfl,⟨⟨J5,om,om⟩,H,om⟩,om,om⟩
       ·have:=Jh k 1;exact .some ⟨(r,J1 .i64 k 1),rfl,⟨⟨J5,om,om⟩,n,om⟩,om,om⟩
      ·exact .some n
     ·exact .some n
    ·try dsimp only
     exact⟨⟨fk0,oo,oo⟩,v.u,oo⟩
  ·have:J0 ([]:List Int)=0:=rfl
   try dsimp only
   exact⟨⟨fk0,oo,oo⟩,Ja,oo⟩
theorem Jsc{B S:Int}{x1:J1F}(h:Ty.fit B S tq1 x1)(z:BH B S:=by omega)(F:B<=8589934591:=by omega):Tot (J6H x1) λy=>Ty.fit 0 0 (.pr (.i .i64) (.pr J07 .b)) y:=by
 unfold J6H;refine .bind (J6I (B:=B) (S:=S) (⟨h.1.e.1,h.2⟩)) λw h1=>.not (λr=>?_) λr=>?_
 ·exact .some (⟨fk0,fzr,trivial⟩)
 ·refine .bind (Jgf (B:=B) (S:=S) (⟨h.1.e.1,h.2⟩)) λg h3=>?_;have:J0 g<=(2*B):=h3.1;have:=J3 (l:=g);refine Jd (τ:=Int) (λq=>(g,J0 g,q,x1.1,(0,0),w.1)) (λq=>(Ty.fit 0 0 (.i .i64) q/\0<=q/\(q<=J0 g\/q<=0))) (λq=>J0 g-q) ?_ 0 rfl ?_
  ·rintro j ⟨v,A,E⟩;unfold Jce
   try dsimp only
   have:=J2.1 v;refine .lt (λo=>?_) λo=>?_
   ·refine .bind (Ji h3) λC k=>.bind (JgA (B:=B) (S:=S) (⟨h.1,k.1⟩)) λD x=>.ite (λn=>?_) λn=>?_
    ·exact .some (⟨k.1,h1.1.2.1,trivial⟩)
    ·have:=Jh j 1;exact .some ⟨J1 .i64 j 1,rfl,⟨J5,om,om⟩,om,om⟩
   ·exact .some (⟨fk0,fzr,trivial⟩)
  ·try dsimp only
   exact⟨fk0,oo,oo⟩
theorem JlL{B S:Int}{x1:JFz}(h:Ty.fit B S JKJ x1)(z:BS B S 0 0:=by omega)(E:B<=9223372036854775807:=by omega):Tot (J6l x1) λy=>Ty.fit 0 0 (.i .i64) y/\(0<=y/\y<=J0 x1.1.2):=by
 unfold J6l;refine .bind (J4L (B:=B) (S:=S) (⟨h.1,h.2.1,h.c.1⟩)) λF h1=>.eq (λr=>?_) λr=>?_
 ·have:J0 x1.1.2<=B:=h.1.2.1;have:=J3 (l:=x1.1.2);have:J0 x1.1.2=_:=Jj h.1.2;exact .some ⟨(J3N h.1.2.1 oo),om⟩
 ·have:J0 x1.1.2<=B:=h.1.2.1;have:=J3 (l:=x1.1.2);have:J0 x1.1.2=_:=Jj h.1.2;refine Jd (τ:=Int) (λq=>(q,x1.1,x1.2)) (λq=>(Ty.fit 0 0 (.i .i64) q/\0<=q/\(q<=J0 x1.1.2\/q<=0))) (λq=>J0 x1.1.2-q) ?_ 0 rfl ?_
  ·rintro e ⟨g,v,x⟩;unfold Jg0
   try dsimp only
   have:=J2.1 g;refine .lt (λo=>?_) λo=>?_
   ·refine .bind (Ji h.1.2) λD k=>.ite (λj=>?_) λj=>?_
    ·have A:=J1D.1 j;refine .bind (J4L (B:=B) (S:=S) (⟨h.1,k.1.1,k.1.2.1⟩)) λC w=>.eq (λn=>?_) λn=>?_
     ·exact .some ⟨g,om⟩
     ·have:=Jh e 1;exact .some ⟨J1 .i64 e 1,rfl,⟨J5,om,om⟩,om,om⟩
    ·have:=Jh e 1;exact .some ⟨J1 .i64 e 1,rfl,⟨J5,om,om⟩,om,om⟩
   ·exact .some ⟨(J3N h.1.2.1 oo),om⟩
  ·try dsimp only
   exact⟨fk0,oo,oo⟩
theorem Jtb{B S:Int}{x1:JFz}(h:Ty.fit B S JKJ x1)(ab:BG B S:=by omega):Tot (J6B x1) λy=>Ty.fit 4098 0 (.pr Jy (.pr .b (.i .i64))) y:=by
 unfold J6B;refine .bind ((J41 h.1).eqn) λy2 h1=>.not (λM=>?_) λM=>?_
 ·exact .some (⟨fzr,trivial,fkn 17⟩)
 ·have v3:=J3p h.1 h1.2 M;have:J0 x1.1.1<=B:=h.1.1.1;have:=J3 (l:=x1.1.1);have:J0 x1.1.1=_:=Jj h.1.1;have:J0 x1.1.2<=B:=h.1.2.1;have:J0 x1.1.2=_:=Jj h.1.2;have e:Ty.fit 1024 0 Jy x1.1:=v3.2;refine .bind (JbX h.2) λy3 a4=>.not (λQ=>?_) λQ=>?_
  ·exact .some (⟨fzr,trivial,fkn 1⟩)
  ·refine .bind (J6I (B:=1024) (S:=0) (⟨e,h.2.1⟩)) λy4 a2=>.ite (λL=>?_) λL=>?_
   ·refine .not (λG=>?_) λG=>?_
    ·exact .some (⟨fzr,trivial,fkn 15⟩)
    ·have a8:=J1D.1 G;refine .ite (λH=>?_) λH=>?_
     ·exact .some (⟨e.u,trivial,fk0⟩)
     ·refine .bind (J4L (B:=1024) (S:=0) (⟨e,h.2.1,h.c.1⟩)) λy5 a1=>.ge (λJ=>?_) λJ=>?_
      ·exact .some (⟨e.u,trivial,fk0⟩)
      ·have:=Jh (J0 x1.1.1) (J0 x1.1.2);refine .eq (λW=>?_) λW=>?_
       ·exact .some (⟨fzr,trivial,fkn 21⟩)
       ·refine .bind (JlL (B:=1024) (S:=0) (⟨e,h.2⟩)) λN r=>?_;have:=J2.1 r.1;have:0<=N/\N<=J0 x1.1.2:=r.2;refine .bind (J5p e.2) λn g=>.clo g.1 oo (by decide) ?_;have:J0 n<=1024:=g.1.1;have:=J3 (l:=n);have:J0 n=_:=Jj g.1;refine .bind (J0n (B:=1025) (Bl:=1024) (Bm:=1) (S:=0) (J0 n) 1 g.1 (J0d (B:=1) (S:=0) (t:=J8) oo h.2)) λU D=>.bind (J35 e.2) λq o=>?_;have:J0 U=_:=Jj D.1;have:J0 q=_:=Jj o.1;refine .bind (J0n (B:=2049) (Bl:=1025) (Bm:=1024) (S:=0) (J0 U) (J0 q) D.1 o.1) λaa Z=>.bind (J5R (B:=2049) (S:=0) (⟨e.1.u,Z.1⟩)) λT P=>?_;have A:Ty.fit 4098 0 Jy T:=P.1.u;refine .bind (J4L (B:=4098) (S:=0) (⟨A,h.2.1,h.c.1⟩)) λa3 a7=>.some (⟨A,trivial,fk0⟩)
   ·refine .ite (λY=>?_) λY=>?_
    ·exact .some (⟨e.u,trivial,fk0⟩)
    ·refine .bind (J4L (B:=1024) (S:=0) (⟨e,h.2.1,h.c.1⟩)) λa6 a0=>.ge (λK=>?_) λK=>?_
     ·exact .some (⟨e.u,trivial,fk0⟩)
     ·have:=Jh (J0 x1.1.1) (J0 x1.1.2);refine .eq (λR=>?_) λR=>?_
      ·exact .some (⟨fzr,trivial,fkn 21⟩)
      ·refine .bind (JlL (B:=1024) (S:=0) (⟨e,h.2⟩)) λv E=>?_;have:=J2.1 E.1;have:0<=v/\v<=J0 x1.1.2:=E.2;refine .bind (J5p e.2) λj k=>.clo k.1 oo (by decide) ?_;have:J0 j<=1024:=k.1.1;have:=J3 (l:=j);have:J0 j=_:=Jj k.1;refine .bind (J0n (B:=1025) (Bl:=1024) (Bm:=1) (S:=0) (J0 j) 1 k.1 (J0d (B:=1) (S:=0) (t:=J8) oo h.2)) λw F=>.bind (J35 e.2) λx z=>?_;have:J0 w=_:=Jj F.1;have:J0 x=_:=Jj z.1;refine .bind (J0n (B:=2049) (Bl:=1025) (Bm:=1024) (S:=0) (J0 w) (J0 x) F.1 z.1) λa5 O=>.bind (J5R (B:=2049) (S:=0) (⟨e.1.u,O.1⟩)) λI V=>?_;have C:Ty.fit 4098 0 Jy I:=V.1.u;refine .bind (J4L (B:=4098) (S:=0) (⟨C,h.2.1,h.c.1⟩)) λa9 ac=>.some (⟨C,trivial,fk0⟩)
theorem Jrw{B S:Int}{x1:JZ}(h:Ty.fit B S Jy x1)(G:BC B S 0 0:=by omega):Tot (J6P x1) λy=>Ty.fit 1024 0 (.l (.i .i64)) y:=by
 unfold J6P;refine .bind ((J41 h).eqn) λJ h1=>.ite (λD=>?_) λD=>?_
 ·have v3:=J3p h h1.2 D;have:=J3 (l:=x1.1);have:J0 x1.1=_:=Jj h.1;have:=J3 (l:=x1.2);have:J0 x1.2=_:=Jj h.2;have C:Ty.fit 1024 0 Jy x1:=v3.2;refine Jd (τ:=J8T) (λq=>(q.1,q.2,x1)) (λq=>(Ty.fit 0 0 (.i .i64) q.2/\0<=q.2/\(q.2<=J0 x1.2\/q.2<=0))/\(Ty.fit 1024 0 (.l (.i .i64)) q.1/\J0 q.1<=1*q.2+0)) (λq=>J0 x1.2-q.2) ?_ ([],0) rfl ?_
  ·rintro⟨g,j⟩ r;dsimp only at r;obtain⟨⟨A,E,H⟩,k,F⟩:=r;unfold Jc5
   try dsimp only
   have:=J2.1 A;refine .lt (λw=>?_) λw=>?_
   ·refine .bind (Ji C.2) λI v=>.bind (JdJ (B:=1024) (S:=0) (⟨k,v.1.1⟩)) λe o=>?_;have n:Ty.fit 1025 0 (.l (.i .i64)) e:=o.1.u;have:J0 e<=1025:=n.1;have:=J3 (l:=e);have:J0 g<=1024:=k.1;have:=J3 (l:=g);have:J0 e<=J0 g+1:=o.2;have z:Ty.fit 1024 0 (.l (.i .i64)) e:=⟨(by omega:J0 e<=1024),λx hx=>n.2 x hx⟩;have:=Jh j 1;exact .some ⟨(e,J1 .i64 j 1),rfl,⟨⟨J5,om,om⟩,z,om⟩,om,om⟩
   ·exact .some k
  ·have:J0 ([]:List Int)=0:=rfl
   try dsimp only
   exact⟨⟨fk0,oo,oo⟩,Ja,oo⟩
 ·exact .some Ja
section
variable {B S:Int}
theorem JJN(k:Nat): ∀{t:JZ} {e:List Int} {n:Int},Ty.fit B S Jy t->Ty.fit 1024 0 (.l (.i .i64)) e->1<=J0 e->J0 e<=n->n<=1024->n-J0 e<k->0<=B->0<=S->B<=8589934591->Tot (Jgh J4u k (t,e,n)) λy=>Ty.fit 1024 0 (.l (.i .i64)) y:=by
 induction k with
 |zero=>intro t e n h1 h2 h3 h4 h5 J;omega
 |succ k ih=>
  intro t e n h1 h2 h3 h4 h5 J z w K;show Tot (J4u (Jgh J4u k) (t,e,n)) _;unfold J4u;dsimp only;have Q:=J0E (J0 e) 1;refine .bind (Ji h2 oo (by show _<J0 e;omega)) λL I=>.bind (Jgf (B:=B) (S:=S) (x1:=(t,L)) ⟨h1,I.1⟩) λg h=>.eq (λc=>?_) λc=>?_
  ·have G:J0 g<=2*B:=JcS h.1 oo;refine Jd (τ:=Int) (λq=>(e,g,J0 g,q,t)) (λq=>0<=q/\q<=J0 g) (λq=>J0 g-q) ?_ 0 rfl ⟨J0G _,J3⟩;rintro i ⟨o,g1⟩;unfold Jdj;dsimp only;have F:=Jh i 1;refine .lt (λc=>.bind (Ji h o c) λ_ _=>.bind (Ji h2 (J0G _) (by show 0<J0 e;omega)) λ_ _=>.eq (λ_=>.some h2) λ_=>.some ⟨J1 .i64 i 1,rfl,⟨oo,oo⟩,oo,oo⟩) λ_=>.some (Ja oo)
  ·have G:J0 g<=2*B:=JcS h.1 oo;refine Jd (τ:=Int) (λq=>(e,n,g,J0 g,q,t)) (λq=>0<=q/\q<=J0 g) (λq=>J0 g-q) ?_ 0 rfl ⟨J0G _,J3⟩;rintro i ⟨o,g1⟩;unfold Jec;dsimp only;have F:=Jh i 1;refine .lt (λH=>.bind (Ji h o H) λr D=>?_) λ_=>.some (Ja oo);refine Jd (τ:=Bool×Int) (λq=>(e,n,r,q.1,g,J0 g,i,e,J0 e,q.2,t)) (λq=>0<=q.2/\q.2<=J0 e) (λq=>J0 e-q.2) ?_ (false,0) rfl ⟨J0G _,by show 0<=J0 e;omega⟩;rintro⟨E,j⟩ ⟨g2,M⟩;dsimp only at g2 M;unfold Jdf;dsimp only;have R:=Jh j 1;have go: ∀b:Bool,j<J0 e-> ∃c':Bool×Int,((e,n,r,b,g,J0 g,i,e,J0 e,J1 .i64 j 1,t):JJi)=(e,n,r,c'.1,g,J0 g,i,e,J0 e,c'.2,t)/\(0<=c'.2/\c'.2<=J0 e)/\J0 e-c'.2<J0 e-j/\0<=J0 e-j:=λb hj=>⟨(b,J1 .i64 j 1),rfl,⟨by show 0<=J1 .i64 j 1;omega,by show J1 .i64 j 1<=_;omega⟩,by show J0 e-J1 .i64 j 1<_;omega,oo⟩;refine .lt (λv=>.bind (Ji h2 g2 v) λN _=>.itf (λ_=>.some (go _ v)) λ_=>.some (go _ v)) λ_=>.inr ?_;have C: ∃c':Int,((e,n,g,J0 g,J1 .i64 i 1,t):JHt)=(e,n,g,J0 g,c',t)/\(0<=c'/\c'<=J0 g)/\J0 g-c'<J0 g-i/\0<=J0 g-i:=⟨J1 .i64 i 1,rfl,⟨oo,oo⟩,oo,oo⟩;refine .ite (λ_=>.some C) λ_=>.clo h2 oo (by decide) ?_;refine .bind (J0n (B:=1024) (Bl:=1024) (Bm:=1024) (S:=0) (J0 e) 1 h2 (J0d (B:=1024) (S:=0) (t:=.i .i64) oo D.1) rfl rfl (J0G _) (J0G _) oo oo (by decide)) λP x=>.bind (ih h1 x.1 oo oo h5 oo z w K) λO A=>.gt (λ_=>.some A) λ_=>.some C
theorem Jyf{x1:J8J}(h:Ty.fit B S JtZ x1)(k:0<=B:=by omega)(j:0<=S:=by omega)(w:B<=8589934591:=by omega):Tot (J8I x1) λy=>Ty.fit 1024 0 (.l (.i .i64)) y:=by obtain⟨t,x⟩:=x1;obtain⟨e,g⟩:=h;unfold J8I;dsimp only;refine Jd (τ:=Int) (λq=>(x,q,t)) (λq=>1<=q/\q<=1025) (λq=>1025-q) ?_ 1 rfl ⟨J0G _,by decide⟩;rintro n ⟨z,g1⟩;unfold Jez;dsimp only;have C:=Jh n 1;refine .bind (Jrw e) λo v=>.le (λc=>?_) λ_=>.some (Ja oo);have A:J0 o<=1024:=v.1;refine .bind (JJN (B:=B) (S:=S) 1100 e (J0d (B:=1024) (S:=0) (t:=.i .i64) oo g) (J0G _) (by show(1:Int)<=n;omega) oo (by show n-1<1100;omega) k j w) λD r=>.gt (λ_=>.some r) λ_=>.some ⟨J1 .i64 n 1,rfl,⟨oo,oo⟩,oo,oo⟩
end
theorem JiF{B S:Int}{x1:J2g}(h:Ty.fit B S tq2 x1)(r:BC B S 0 0:=by omega):Tot (J2W x1) λy=>Ty.fit 0 0 J07 y/\(y.2=0->0<=y.1/\y.1<J0 x1.1):=by
 unfold J2W;refine .bind ((J3m h.1).eqn) λw h1=>.not (λj=>?_) λj=>?_
 ·have:J0 x1.1<=B:=h.1.1;exact .some ⟨(⟨fk0,fkn 15⟩),om⟩
 ·have q:=J2m h.1 h1.2 j;have:J0 x1.1=_:=Jj h.1;have g:Ty.fit 4096 0 (.l Jl) x1.1:=q.2;refine .bind (J9t (B:=4096) (S:=0) (⟨g,h.2⟩)) λk e=>?_;have:=J2.1 e.1;have: -1<=k/\k<J0 x1.1:=e.2;refine .lt (λo=>?_) λo=>?_
  ·exact .some ⟨(⟨fk0,fkn 16⟩),om⟩
  ·refine .bind (Ji g) λx v=>.ne (λn=>?_) λn=>?_
   ·exact .some ⟨(⟨fk0,fkn 15⟩),om⟩
   ·exact .some ⟨(⟨e.1,fk0⟩),om⟩
section
variable {B S:Int}
theorem JiR{x:J2g}{y:JG}(h:Ty.fit B S tq2 x)(e:J2W x=some y)(c:y.2=0):(J0 x.1<=64)/\Ty.fit 4096 0 (.l Jl) x.1:=by
 have g:Par (J2W x) λy=>y.2=0->J0W x.1=some true:=by unfold J2W;refine .bind λa ha=>.not (λ_=>.some nofun) λc=>?_;subst c;exact λ_ _ _=>ha
 exact J2m h.1 (g _ e c) rfl
end
theorem JmH{B S:Int}{x1:JtV}(h:Ty.fit B S JKn x1)(J:BG B S:=by omega):Tot (J7g x1) λy=>Ty.fit 4096 0 tq2 y:=by
 unfold J7g;refine .bind ((JiF (B:=B) (S:=S) (x1:=(x1.1,x1.2.1)) (⟨h.1,h.2.1⟩)).eqn) λq h1=>?_;have:=J2.1 h1.1.1.1;have:J0 x1.1=_:=Jj h.1;have:q.2=0->0<=q.1/\q.1<J0 x1.1:=h1.1.2;refine .ne (λr=>?_) λr=>?_
 ·exact .some (⟨Ja,h1.1.1.2⟩)
 ·have G:=JiR (x:=(x1.1,x1.2.1)) (⟨h.1,h.2.1⟩) h1.2 r;have n:Ty.fit 4096 0 (.l Jl) x1.1:=G.2;refine .bind (Ji n) λw j=>?_;have:=J2.1 h.c;refine .ltf (λE=>?_) λE=>?_
  ·have:J0 w.2.2.2.2.2<=4096:=j.1.g.1;have:=J3 (l:=w.2.2.2.2.2);refine .ge (λC=>?_) λC=>?_
   ·exact .some (⟨Ja,fkn 19⟩)
   ·have:=Jh x1.2.2 1;refine .bind (J5p j.1.g) λo k=>.clo k.1 oo (by decide) ?_;have:J0 o<=4096:=k.1.1;have:=J3 (l:=o);refine .bind (J5j (l:=o)) λ_ _=>.bind (Jcm k.1) λK v=>.bind (J7J (B:=4096) (S:=0) (⟨j.1.1,fkn 2,j.1.c.1,v.1,j.1.e.1,k.1⟩)) λH F=>?_;have z:Ty.fit 4096 0 Jl H:=F.u;refine .bind (J8p (B:=4096) (S:=0) (⟨n,h1.1.1.1,z⟩) om om) λI A=>?_;have D:Ty.fit 4096 0 (.l Jl) I:=A.1.u;exact .some (⟨D,fk0⟩)
  ·exact .some (⟨Ja,fkn 19⟩)
theorem Jme{B S:Int}{x1:J2g}(h:Ty.fit B S tq2 x1)(D:BG B S:=by omega):Tot (J7b x1) λy=>Ty.fit 4097 0 tq2 y:=by
 unfold J7b;refine .bind ((JiF (B:=B) (S:=S) (x1:=(x1.1,x1.2)) (h)).eqn) λo h1=>?_;have:=J2.1 h1.1.1.1;have:J0 x1.1=_:=Jj h.1;have:o.2=0->0<=o.1/\o.1<J0 x1.1:=h1.1.2;refine .ne (λr=>?_) λr=>?_
 ·exact .some (⟨Ja,h1.1.1.2⟩)
 ·have A:=JiR (x:=(x1.1,x1.2)) (h) h1.2 r;have k:Ty.fit 4096 0 (.l Jl) x1.1:=A.2;refine .bind (Ji k) λn j=>?_;have:J0 n.2.2.2.2.2<=4096:=j.1.g.1;have:=J3 (l:=n.2.2.2.2.2);refine .eq (λz=>?_) λz=>?_
  ·exact .some (⟨Ja,fkn 21⟩)
  ·refine .clo j.1.g oo (by decide) ?_;refine .bind (J0n (B:=4097) (Bl:=4096) (Bm:=1) (S:=0) (J0 n.2.2.2.2.2) 1 j.1.g (J0d (B:=1) (S:=0) (t:=(.i .i64)) oo j.1.c.1)) λE v=>.bind (J8p (B:=4097) (S:=0) (⟨k.u,h1.1.1.1,j.1.1,j.1.2.1,j.1.c.1,j.1.d.1,j.1.e.1.u,v.1⟩) om om) λC q=>?_;have w:Ty.fit 4097 0 (.l Jl) C:=q.1.u;exact .some (⟨w,fk0⟩)
theorem JwE{B S:Int}{x1:List Int}(h:Ty.fit B S (.l (.i .i64)) x1)(g:BS B S 0 0:=by omega):Tot (J8z x1) λy=>Ty.fit 0 0 (.i .i64) y:=by
 unfold J8z;have:=J3 (l:=x1);refine .eq (λe=>?_) λe=>?_
 ·exact .some fk0
 ·refine .bind (Ji h) λj h4=>.some h4.1
theorem JEn{B S:Int}{x1:J1F}(h:Ty.fit B S tq1 x1)(g:BS B S 0 0:=by omega)(k:B<=8589934591:=by omega):Tot (Jbm x1) λy=>Ty.fit 0 0 (.i .i64) y:=by unfold Jbm;refine .bind (Jgf (B:=B) (S:=S) (⟨h.1.e.1,h.2⟩)) λn h1=>.bind (JwE h1) λj h2=>.some h2
theorem JE5{B S:Int}{x1:J6K}(h:Ty.fit B S tq7 x1)(n:BH B S:=by omega)(q:B<=34359738368:=by omega):Tot (Jbb x1) λy=>Ty.fit B S JI y:=by
 unfold Jbb;refine .bind ((J4C (B:=B) (S:=S) (x1:=(x1.1,x1.2)) (h)).eqn) λg h1=>?_;have:=J2.1 h1.1.1;have:J0 x1.1.2.1=_:=Jj h.1.2.1;have: -1<=g/\g<J0 x1.1.2.1:=h1.1.2;refine .lt (λk=>?_) λk=>?_
 ·exact .some h.1
 ·refine .bind (Ji h.1.2.1) λo e=>.bind (J6u (B:=B) (S:=S) (⟨h.1,h1.1.1,e.1.z.1.u,trivial,e.1.z.2.2.1,trivial⟩) om om) λr j=>.some j.1
theorem Jut{B S:Int}{x1:Je2}(h:Ty.fit B S Jtx x1)(p0:0<=x1.2.2.2.2.1)(L:x1.2.2.2.2.1<16)(I:J0 x1.2.2.2.2.2<=12)(G:BH B S:=by omega)(N:B<=34359738368:=by omega):Tot (J3y x1) λy=>Ty.fit B S tq4 y/\(J0 x1.1.2.2.1.2.1<=J0 y.1.2.2.1.2.1):=by
 unfold J3y;refine .bind (J8q (B:=B) (S:=S) (⟨h.1.d.1,h.2.z.2.2.1⟩)) λO h4=>.not (λE=>?_) λE=>?_
 ·have:J0 x1.1.2.2.1.2.1<=B:=h.1.c.1.2.1.1;exact .some ⟨(⟨h.1,fkn 3,fk0,h.2.z.2.2.1,⟨trivial,Jc⟩,fk0⟩),om⟩
 ·have:=J2.1 h.2.z.2.1;refine .eq (λD=>?_) λD=>?_
  ·refine .bind (JE5 (B:=B) (S:=S) (⟨h.1.d.1,h.2.z.2.2.1⟩)) λJ w=>.bind (J6b) λ_ _=>.bind (Jco h4.1.c) λK q=>.some ⟨(⟨⟨h.1.1,h.1.2.1,h.1.c.1,w,h.1.e⟩,fkn 1,fk0,fk0,q.u,fk0⟩),om⟩
  ·refine .bind (J6b) λ_ _=>.bind (Jco h4.1.c) λH n=>.eq (λx=>?_) λx=>?_
   ·refine .bind (Jgl (B:=B) (S:=S) (⟨h.1,fk0,fkn 1,h.2.z.1,fk0,fk0,fk0,⟨h.2.z.2.2.1,h.2.z.2.2.2.1,n.u,trivial,h.2.z.2.2.2.2.u⟩,Jc⟩)) λo j=>?_;have:J0 o.1.2.2.1.2.1=_:=Jj j.1.1.c.1.2.1;have:J0 x1.1.2.2.1.2.1=_:=Jj h.1.c.1.2.1;have:o.2=0->J0 o.1.2.2.1.2.1=J0 x1.1.2.2.1.2.1+1:=j.2;refine .ne (λr=>?_) λr=>?_
    ·refine .bind (J03 j.1.2) λM v=>.some ⟨(⟨h.1,v.1.u⟩),om⟩
    ·exact .some ⟨(⟨j.1.1,fkn 1,fk0,fk0,⟨trivial,Jc⟩,fk0⟩),om⟩
   ·refine .bind (Jgl (B:=B) (S:=S) (⟨h.1,fk0,fkn 1,h.2.z.1,fk0,fk0,fk0,⟨h.2.z.2.2.1,h.2.z.2.2.2.1,n.u,trivial,Jc⟩,Jc⟩)) λk g=>?_;have:J0 k.1.2.2.1.2.1=_:=Jj g.1.1.c.1.2.1;have:J0 x1.1.2.2.1.2.1=_:=Jj h.1.c.1.2.1;have:k.2=0->J0 k.1.2.2.1.2.1=J0 x1.1.2.2.1.2.1+1:=g.2;refine .ne (λC=>?_) λC=>?_
    ·refine .bind (J03 g.1.2) λF A=>.some ⟨(⟨h.1,A.1.u⟩),om⟩
    ·exact .some ⟨(⟨g.1.1,fkn 1,fk0,fk0,⟨trivial,Jc⟩,fk0⟩),om⟩
theorem JuT{B S:Int}{x1:J1F}(h:Ty.fit B S tq1 x1)(D:Has x1.1.2.2.2.2.2.1 x1.2)(G:BH B S:=by omega)(M:B<=34359738368:=by omega):Tot (J3C x1) λy=>Ty.fit B S tq4 y/\(J0 x1.1.2.2.1.2.1<=J0 y.1.2.2.1.2.1):=by
 unfold J3C;refine .bind ((J2F (B:=B) (S:=S) (x1:=(x1.1.2.2.2.2.2.1,x1.2)) (⟨h.1.g.1,h.2⟩)).eqn) λr h1=>?_;have:0<=r:=Jqq D h1.2;have:J0 x1.1.2.2.2.2.2.1=_:=Jj h.1.g.1;have: -1<=r/\r<J0 x1.1.2.2.2.2.2.1:=h1.1.2;refine .bind (Ji h.1.g.1) λI K=>.eq (λE=>?_) λE=>?_
 ·refine .bind (JaI (B:=B) (S:=S) (⟨h.1.g.1,h.2⟩)) λL A=>.bind (J6L (B:=B) (S:=S) (⟨h.1.e.1,h.2⟩)) λJ z=>.some ⟨(⟨⟨h.1.1,h.1.2.1,h.1.c.1,h.1.d.1,z,A,h.1.h⟩,fkn 1,fk0,fk0,⟨trivial,Jc⟩,fk0⟩),om⟩
 ·refine .bind ((J4p (B:=B) (S:=S) (x1:=(x1.1,0,3,x1.2,0,0,0,(0,0,(false,[]),false,[]),[])) (⟨h.1,fk0,fkn 3,h.2,fk0,fk0,fk0,⟨fk0,fk0,⟨trivial,Jc⟩,trivial,Jc⟩,Jc⟩)).eqn) λn k=>?_;have:J0 n.1.2.2.1.2.1=_:=Jj k.1.1.1.c.1.2.1;have:J0 x1.1.2.2.1.2.1=_:=Jj h.1.c.1.2.1;have:n.2.2=0->J0 n.1.2.2.1.2.1=J0 x1.1.2.2.1.2.1+1/\J0 x1.1.2.2.1.2.1<=4095/\0<=(0:Int)/\(0:Int)<64/\0<=(0:Int)/\(0:Int)<16:=k.1.2;refine .ne (λx=>?_) λx=>?_
  ·refine .bind (J03 k.1.1.c) λH C=>.some ⟨(⟨h.1,C.1.u⟩),om⟩
  ·refine .bind (J8K (B:=16384) (S:=1073741824) (⟨k.1.1.1,k.1.1.2.1⟩)) λq o=>?_;have j:Ty.fit 16384 1073741824 J7 q:=o.1.u;have:J0 q.2.2.1.2.1=_:=Jj j.c.1.2.1;have:J0 q.2.2.1.2.1=J0 n.1.2.2.1.2.1:=o.2;refine .bind (J6L (B:=16384) (S:=1073741824) (⟨j.e.1,h.2⟩)) λF w=>?_;have v:Ty.fit 16384 1073741824 Jy F:=w.u;exact .some ⟨(⟨⟨j.1,j.2.1,j.c.1.u,j.d.1.u,v.u,j.g.u⟩,fkn 1,fk0,fk0,⟨trivial,Jc⟩,fk0⟩),om⟩
theorem JvE{B S:Int}{x1:J8J}(h:Ty.fit B S JtZ x1)(v:BG B S:=by omega):Tot (J7M x1) λy=>Ty.fit B S Jy y:=by
 unfold J7M;refine .bind ((J41 h.1).eqn) λw h1=>.not (λg=>?_) λg=>?_
 ·exact .some h.1
 ·have v3:=J3p h.1 h1.2 g;have e:Ty.fit 1024 0 Jy x1.1:=v3.2;refine .bind (Jah (B:=1024) (S:=0) (⟨e.2,h.2,trivial,fzr⟩)) λq k=>?_;have j:Ty.fit 1025 0 (.l J8) q:=k.u;refine .bind (J5R (B:=1025) (S:=0) (⟨e.1.u,j⟩)) λr n=>?_;have o:Ty.fit 2050 0 Jy r:=n.1.u;exact .some o.u
theorem Jrn{B S:Int}{x1:Jvj}(h:Ty.fit B S JKl x1)(D:Has x1.1.2.2.2.2.2.1 x1.2.1)(F:BC B S 0 0:=by omega):Tot (J6F x1) λy=>Ty.fit 0 0 .b y:=by
 unfold J6F;refine .bind ((J2F (B:=B) (S:=S) (x1:=(x1.1.2.2.2.2.2.1,x1.2.1)) (⟨h.1.g.1,h.2.1⟩)).eqn) λo h1=>?_;have:0<=o:=Jqq D h1.2;have:J0 x1.1.2.2.2.2.2.1=_:=Jj h.1.g.1;have: -1<=o/\o<J0 x1.1.2.2.2.2.2.1:=h1.1.2;refine .bind (Ji h.1.g.1) λk w=>?_;have:J0 k.2.2.2.2.1<=B:=w.1.e.1.1;have:=J3 (l:=k.2.2.2.2.1);refine Jd (τ:=Int) (λq=>(q,x1.1,x1.2.2,k)) (λq=>(Ty.fit 0 0 (.i .i64) q/\0<=q/\(q<=J0 k.2.2.2.2.1\/q<=0))) (λq=>J0 k.2.2.2.2.1-q) ?_ 0 rfl ?_
 ·rintro j ⟨A,G,E⟩;unfold Jcb
  try dsimp only
  have:=J2.1 A;refine .lt (λv=>?_) λv=>?_
  ·refine .bind (Ji w.1.e.1) λH z=>.bind (J3E (B:=B) (S:=S) (⟨h.1.c.1,z.1⟩)) λI n=>.eq (λC=>?_) λC=>?_
   ·have:=J2.1 n.1.h.1.1;refine .eq (λx=>?_) λx=>?_
    ·have:=J2.1 n.1.h.1.2.1;refine .eq (λr=>?_) λr=>?_
     ·exact .some trivial
     ·have:=Jh j 1;exact .some ⟨J1 .i64 j 1,rfl,⟨J5,om,om⟩,om,om⟩
    ·have:=Jh j 1;exact .some ⟨J1 .i64 j 1,rfl,⟨J5,om,om⟩,om,om⟩
   ·have:=Jh j 1;exact .some ⟨J1 .i64 j 1,rfl,⟨J5,om,om⟩,om,om⟩
  ·exact .some trivial
 ·try dsimp only
  exact⟨fk0,oo,oo⟩
theorem JlI{B S:Int}{x1:Jdc}(h:Ty.fit B S Jr7 x1)(P:Has x1.1.2.2.2.2.2.1 x1.2.1)(a2:BH B S:=by omega)(hB:B<=34359738368:=by omega):Tot (J3o x1) λy=>Ty.fit B S tq4 y/\(J0 x1.1.2.2.1.2.1<=J0 y.1.2.2.1.2.1):=by
 unfold J3o;refine .bind (JvE (B:=B) (S:=S) (⟨h.1.e.1,h.2.1⟩)) λQ h1=>.bind ((J2F (B:=B) (S:=S) (x1:=(x1.1.2.2.2.2.2.1,x1.2.1)) (⟨h.1.g.1,h.2.1⟩)).eqn) λA h2=>?_;have:0<=A:=Jqq P h2.2;have:J0 x1.1.2.2.2.2.2.1=_:=Jj h.1.g.1;have: -1<=A/\A<J0 x1.1.2.2.2.2.2.1:=h2.1.2;refine .bind (Ji h.1.g.1) λy4 h9=>.eq (λI=>?_) λI=>?_
 ·refine .bind (JaI (B:=B) (S:=S) (⟨h.1.g.1,h.2.1⟩)) λy5 F=>.bind (J6L (B:=B) (S:=S) (⟨h1,h.2.1⟩)) λy6 D=>.some ⟨(⟨⟨h.1.1,h.1.2.1,h.1.c.1,h.1.d.1,D,F,h.1.h⟩,h.c,fk0,fk0,⟨trivial,Jc⟩,fk0⟩),om⟩
 ·refine .bind ((J4p (B:=B) (S:=S) (x1:=((x1.1.1,x1.1.2.1,x1.1.2.2.1,x1.1.2.2.2.1,Q,x1.1.2.2.2.2.2),0,4,x1.2.1,0,0,0,(0,0,(false,[]),false,[]),[])) (⟨⟨h.1.1,h.1.2.1,h.1.c.1,h.1.d.1,h1,h.1.g⟩,fk0,fkn 4,h.2.1,fk0,fk0,fk0,⟨fk0,fk0,⟨trivial,Jc⟩,trivial,Jc⟩,Jc⟩)).eqn) λo j=>?_;have:J0 o.1.2.2.1.2.1=_:=Jj j.1.1.1.c.1.2.1;have:J0 x1.1.2.2.1.2.1=_:=Jj h.1.c.1.2.1;have:o.2.2=0->J0 o.1.2.2.1.2.1=J0 x1.1.2.2.1.2.1+1/\J0 x1.1.2.2.1.2.1<=4095/\0<=(0:Int)/\(0:Int)<64/\0<=(0:Int)/\(0:Int)<16:=j.1.2;refine .ne (λw=>?_) λw=>?_
  ·refine .bind (J03 j.1.1.c) λy8 G=>.some ⟨(⟨h.1,G.1.u⟩),om⟩
  ·have K:Has o.1.2.2.2.2.2.1 x1.2.1:=Jpl (⟨⟨h.1.1,h.1.2.1,h.1.c.1,h.1.d.1,h1,h.1.g⟩,fk0,fkn 4,h.2.1,fk0,fk0,fk0,⟨fk0,fk0,⟨trivial,Jc⟩,trivial,Jc⟩,Jc⟩) j.2 w;refine Jd (τ:=Jbc) (λq=>(x1.2.1,x1.2.2,o.1.2.2.2.2.1.1,q.1,x1.1,(0,0,(0,[],0),(0,[],0),([],[]),[],[],[]),(0,0,0,(false,[]),0),q.2)) (λq=>Ty.fit 0 0 (.i .i64) q.1/\Ty.fit 16384 1073741824 J7 q.2/\(0<=q.1)/\(q.1<=J0 o.1.2.2.2.2.1.1)/\(J0 x1.1.2.2.1.2.1<=J0 q.2.2.2.1.2.1)/\(Has q.2.2.2.2.2.2.1 x1.2.1)) (λq=>J0 o.1.2.2.2.2.1.1-q.1) ?_ (0,o.1) rfl ?_
   ·rintro⟨r,n⟩ x;dsimp only at x;obtain⟨C,k,W,V,Y,v⟩:=x;unfold Jal
    try dsimp only
    have:=J2.1 C;have:J0 o.1.2.2.2.2.1.1<=16384:=j.1.1.1.e.1.1.1;have:=J3 (l:=o.1.2.2.2.2.1.1);have:J0 o.1.2.2.2.2.1.1=_:=Jj j.1.1.1.e.1.1;refine .lt (λH=>?_) λH=>?_
    ·refine .bind (Ji j.1.1.1.e.1.1) λT R=>.eq (λE=>?_) λE=>?_
     ·refine .bind (Ji j.1.1.1.e.1.1) λa1 L=>.bind (Jrn (B:=16384) (S:=1073741824) (⟨k,h.2.1,L.1.2.1⟩) v) λZ a0=>.not (λN=>?_) λN=>?_
      ·refine .bind (Ji j.1.1.1.e.1.1) λU O=>.bind (Jmj (B:=16384) (S:=1073741824) (⟨k.2.2.2.2.1,h.2.1,O.1.2.1⟩)) λz J=>?_;have M:Ty.fit 16384 1073741824 Jy z:=J.u;have:=Jh r 1;exact .some ⟨(J1 .i64 r 1,(n.1,n.2.1,n.2.2.1,n.2.2.2.1,z,n.2.2.2.2.2)),rfl,⟨J5,⟨k.1,k.2.1,k.2.2.1,k.2.2.2.1,M,k.2.2.2.2.2⟩,om,om,om,v⟩,om,om⟩
      ·have:=Jh r 1;exact .some ⟨(J1 .i64 r 1,n),rfl,⟨J5,k,om,om,om,v⟩,om,om⟩
     ·have:=Jh r 1;exact .some ⟨(J1 .i64 r 1,n),rfl,⟨J5,k,om,om,om,v⟩,om,om⟩
    ·exact .some ⟨(⟨k.u,h.c,fk0,fk0,⟨trivial,Jc⟩,fk0⟩),om⟩
   ·have:J0 o.1.2.2.2.2.1.1<=16384:=j.1.1.1.e.1.1.1;have:=J3 (l:=o.1.2.2.2.2.1.1)
    try dsimp only
    exact⟨fk0,j.1.1.1,om,om,om,K⟩
theorem JmO{B S:Int}{x1:Int×J36}(h:Ty.fit B S tq6 x1)(k:BS B S 0 0:=by omega):Tot (J6Z x1) λy=>Ty.fit 0 0 (.pr J8 .b) y:=by
 unfold J6Z;have s0:Ty.fit 0 S tq6 x1:=h;refine .eq (λj=>?_) λj=>?_
 ·exact .some (⟨⟨s0.1,⟨s0.2.2.1,s0.2.2.2.1⟩,fkn 1⟩,trivial⟩)
 ·refine .eq (λe=>?_) λe=>?_
  ·exact .some (⟨⟨s0.1,⟨s0.2.2.1,s0.2.2.2.1⟩,fkn 2⟩,trivial⟩)
  ·refine .eq (λg=>?_) λg=>?_
   ·exact .some (⟨⟨s0.1,⟨s0.2.2.1,s0.2.2.2.1⟩,fkn 2⟩,trivial⟩)
   ·exact .some (⟨fzr,trivial⟩)
theorem JiV{B S:Int}{x1:J9×J36}(h:Ty.fit B S (.pr J7 J0m) x1)(ai:BS B S 0 0:=by omega):Tot (J4s x1) λy=>Ty.fit 0 0 (.i .i64) y/\(y=0->1<=x1.2.1/\x1.2.1<=7/\J0 x1.2.2.2.2<=12/\(x1.2.1<=3->0<=x1.2.2.1/\x1.2.2.1<x1.1.1/\0<=x1.2.2.2.1/\x1.2.2.2.1<16)):=by
 unfold J4s;refine .eq (λc1=>?_) λc1=>?_
 ·have:=J2.1 h.2.z.2.1;refine .ltf (λc3=>?_) λc3=>?_
  ·have:=J2.1 h.1.1;refine .gef (λc5=>?_) λc5=>?_
   ·have:=J2.1 h.2.z.2.2.1;refine .ltf (λc7=>?_) λc7=>?_
    ·refine .ge (λc9=>?_) λc9=>?_
     ·have:J0 x1.2.2.2.2<=S:=h.2.z.2.2.2;exact .some ⟨(fkn 1),om⟩
     ·refine .eq (λK=>?_) λK=>?_
      ·refine .not (λv=>?_) λv=>?_
       ·have:J0 x1.2.2.2.2<=S:=h.2.z.2.2.2;exact .some ⟨(fkn 1),om⟩
       ·have ah:=J1D.1 v;refine .gt (λM=>?_) λM=>?_
        ·exact .some ⟨(fkn 22),om⟩
        ·exact .some ⟨fk0,om⟩
      ·refine .not (λr=>?_) λr=>?_
       ·have:J0 x1.2.2.2.2<=S:=h.2.z.2.2.2;exact .some ⟨(fkn 1),om⟩
       ·have aj:=J1D.1 r;have:=J3 (l:=x1.2.2.2.2);refine .gt (λY=>?_) λY=>?_
        ·exact .some ⟨(fkn 22),om⟩
        ·exact .some ⟨fk0,om⟩
    ·have:J0 x1.2.2.2.2<=S:=h.2.z.2.2.2;exact .some ⟨(fkn 1),om⟩
   ·have:J0 x1.2.2.2.2<=S:=h.2.z.2.2.2;exact .some ⟨(fkn 1),om⟩
  ·have:J0 x1.2.2.2.2<=S:=h.2.z.2.2.2;exact .some ⟨(fkn 1),om⟩
 ·refine .eq (λL=>?_) λL=>?_
  ·have:=J2.1 h.2.z.2.1;refine .ltf (λV=>?_) λV=>?_
   ·have:=J2.1 h.1.1;refine .gef (λa2=>?_) λa2=>?_
    ·have:=J2.1 h.2.z.2.2.1;refine .ltf (λW=>?_) λW=>?_
     ·refine .ge (λa0=>?_) λa0=>?_
      ·have:J0 x1.2.2.2.2<=S:=h.2.z.2.2.2;exact .some ⟨(fkn 1),om⟩
      ·refine .eq (λN=>?_) λN=>?_
       ·refine .not (λn=>?_) λn=>?_
        ·have:J0 x1.2.2.2.2<=S:=h.2.z.2.2.2;exact .some ⟨(fkn 1),om⟩
        ·have ak:=J1D.1 n;have:=J3 (l:=x1.2.2.2.2);refine .gt (λa3=>?_) λa3=>?_
         ·exact .some ⟨(fkn 22),om⟩
         ·exact .some ⟨fk0,om⟩
       ·refine .not (λq=>?_) λq=>?_
        ·have:J0 x1.2.2.2.2<=S:=h.2.z.2.2.2;exact .some ⟨(fkn 1),om⟩
        ·have af:=J1D.1 q;have:=J3 (l:=x1.2.2.2.2);refine .gt (λT=>?_) λT=>?_
         ·exact .some ⟨(fkn 22),om⟩
         ·exact .some ⟨fk0,om⟩
     ·have:J0 x1.2.2.2.2<=S:=h.2.z.2.2.2;exact .some ⟨(fkn 1),om⟩
    ·have:J0 x1.2.2.2.2<=S:=h.2.z.2.2.2;exact .some ⟨(fkn 1),om⟩
   ·have:J0 x1.2.2.2.2<=S:=h.2.z.2.2.2;exact .some ⟨(fkn 1),om⟩
  ·refine .eq (λa1=>?_) λa1=>?_
   ·have:=J2.1 h.2.z.2.1;refine .ltf (λR=>?_) λR=>?_
    ·have:=J2.1 h.1.1;refine .gef (λa4=>?_) λa4=>?_
     ·have:=J2.1 h.2.z.2.2.1;refine .ltf (λQ=>?_) λQ=>?_
      ·refine .ge (λO=>?_) λO=>?_
       ·have:J0 x1.2.2.2.2<=S:=h.2.z.2.2.2;exact .some ⟨(fkn 1),om⟩
       ·refine .eq (λU=>?_) λU=>?_
        ·refine .not (λw=>?_) λw=>?_
         ·have:J0 x1.2.2.2.2<=S:=h.2.z.2.2.2;exact .some ⟨(fkn 1),om⟩
         ·have ae:=J1D.1 w;refine .gt (λP=>?_) λP=>?_
          ·exact .some ⟨(fkn 22),om⟩
          ·exact .some ⟨fk0,om⟩
        ·refine .not (λo=>?_) λo=>?_
         ·have:J0 x1.2.2.2.2<=S:=h.2.z.2.2.2;exact .some ⟨(fkn 1),om⟩
         ·have ag:=J1D.1 o;have:=J3 (l:=x1.2.2.2.2);refine .gt (λZ=>?_) λZ=>?_
          ·exact .some ⟨(fkn 22),om⟩
          ·exact .some ⟨fk0,om⟩
      ·have:J0 x1.2.2.2.2<=S:=h.2.z.2.2.2;exact .some ⟨(fkn 1),om⟩
     ·have:J0 x1.2.2.2.2<=S:=h.2.z.2.2.2;exact .some ⟨(fkn 1),om⟩
    ·have:J0 x1.2.2.2.2<=S:=h.2.z.2.2.2;exact .some ⟨(fkn 1),om⟩
   ·refine .eq (λx=>?_) λx=>?_
    ·have:=J2.1 h.2.z.2.2.1;refine .ltf (λG=>?_) λG=>?_
     ·refine .ge (λA=>?_) λA=>?_
      ·have:J0 x1.2.2.2.2<=S:=h.2.z.2.2.2;exact .some ⟨(fkn 1),om⟩
      ·refine .not (λk=>?_) λk=>?_
       ·have:J0 x1.2.2.2.2<=S:=h.2.z.2.2.2;exact .some ⟨(fkn 1),om⟩
       ·have a9:=J1D.1 k;have:=J3 (l:=x1.2.2.2.2);refine .gt (λF=>?_) λF=>?_
        ·have:=J2.1 h.2.z.2.1;exact .some ⟨(fkn 22),om⟩
        ·have:=J2.1 h.2.z.2.1;exact .some ⟨fk0,om⟩
     ·have:J0 x1.2.2.2.2<=S:=h.2.z.2.2.2;exact .some ⟨(fkn 1),om⟩
    ·refine .eq (λD=>?_) λD=>?_
     ·refine .not (λg=>?_) λg=>?_
      ·have:J0 x1.2.2.2.2<=S:=h.2.z.2.2.2;exact .some ⟨(fkn 1),om⟩
      ·have a5:=J1D.1 g;have:=J3 (l:=x1.2.2.2.2);refine .gt (λC=>?_) λC=>?_
       ·have:=J2.1 h.2.z.2.1;exact .some ⟨(fkn 22),om⟩
       ·have:=J2.1 h.2.z.2.1;exact .some ⟨fk0,om⟩
     ·refine .eq (λH=>?_) λH=>?_
      ·refine .not (λe=>?_) λe=>?_
       ·have:J0 x1.2.2.2.2<=S:=h.2.z.2.2.2;exact .some ⟨(fkn 1),om⟩
       ·have ab:=J1D.1 e;have:=J3 (l:=x1.2.2.2.2);refine .gt (λI=>?_) λI=>?_
        ·have:=J2.1 h.2.z.2.1;exact .some ⟨(fkn 22),om⟩
        ·have:=J2.1 h.2.z.2.1;exact .some ⟨fk0,om⟩
      ·refine .eq (λE=>?_) λE=>?_
       ·refine .not (λj=>?_) λj=>?_
        ·have:J0 x1.2.2.2.2<=S:=h.2.z.2.2.2;exact .some ⟨(fkn 1),om⟩
        ·have a7:=J1D.1 j;have:=J3 (l:=x1.2.2.2.2);refine .gt (λJ=>?_) λJ=>?_
         ·have:=J2.1 h.2.z.2.1;exact .some ⟨(fkn 22),om⟩
         ·have:=J2.1 h.2.z.2.1;exact .some ⟨fk0,om⟩
       ·have:J0 x1.2.2.2.2<=S:=h.2.z.2.2.2;exact .some ⟨(fkn 1),om⟩
theorem JrS{B S:Int}{x1:Je2}(h:Ty.fit B S Jtx x1)(I:BG B S:=by omega):Tot (J2h x1) λy=>Ty.fit 0 0 (.i .i64) y:=by
 unfold J2h;refine .bind ((J18 h.1).eqn) λN h1=>.not (λv=>?_) λv=>?_
 ·exact .some (fkn 15)
 ·have v3:=J1h h.1 h1.2 v;have j:Ty.fit 4096 8192 J7 x1.1:=v3.2;refine .bind ((J2F (B:=4096) (S:=8192) (x1:=(x1.1.2.2.2.2.2.1,x1.2.1)) (⟨j.g.1,h.2.z.1⟩)).eqn) λq k=>?_;have:=J2.1 k.1.1;have:J0 x1.1.2.2.2.2.2.1=_:=Jj j.g.1;have: -1<=q/\q<J0 x1.1.2.2.2.2.2.1:=k.1.2;refine .lt (λw=>?_) λw=>?_
  ·exact .some (fkn 16)
  ·refine .bind (Ji j.g.1) λM F=>.ne (λo=>?_) λo=>?_
   ·exact .some (fkn 15)
   ·refine .bind (JiV (B:=4096) (S:=S) (⟨j.u,h.2.z.2.u⟩)) λK x=>.ne (λC=>?_) λC=>?_
    ·exact .some x.1
    ·refine .bind (J6I (B:=4096) (S:=8192) (⟨j.e.1,h.2.z.1⟩)) λL E=>.bind (JmO (B:=0) (S:=S) (⟨h.2.z.1,h.2.z.2⟩)) λJ H=>.ite (λD=>?_) λD=>?_
     ·refine .ne (λA=>?_) λA=>?_
      ·refine .nof (λr=>?_) λr=>?_
       ·refine .not (λn=>?_) λn=>?_
        ·exact .some (fkn 15)
        ·have G:=J1D.1 n;exact .some fk0
       ·exact .some (fkn 15)
      ·exact .some fk0
     ·exact .some fk0
section
variable {B S:Int}
theorem J9L{x:Je2}(e:J2h x=some 0):JJ x.1=some true/\Has x.1.2.2.2.2.2.1 x.2.1/\J4s (x.1,x.2.2)=some 0:=by
 have h:Par (J2h x) λy=>y=0->JJ x.1=some true/\Has x.1.2.2.2.2.2.1 x.2.1/\J4s (x.1,x.2.2)=some 0:=by unfold J2h;refine .bind λa ha=>.not (λ_=>.some nofun) λn=>.bind λj hj=>.lt (λ_=>.some nofun) λo=>.bind λt r=>.ne (λ_=>.some nofun) λq=>.bind λb hb=>.ne (λg=>.some λk=>absurd k g) λg=>?_;subst n;subst g;exact λ_ _ _=>⟨ha,⟨j,hj,oo⟩,hb⟩
 exact h _ e rfl
theorem JsZ{x:Je2}{y:Int}(h:Ty.fit B S Jtx x)(e:J2h x=some y)(c:y=0)(g:BC B S 0 0:=by omega):(1<=x.1.1/\x.1.1<=64/\J0 x.1.2.2.2.2.2.2.1=x.1.1/\1<=x.1.2.1/\x.1.2.1<=1073741825/\1<=x.1.2.2.1.1/\x.1.2.2.1.1<=1099511627776/\J0 x.1.2.2.1.2.1<=4096/\x.1.2.2.1.1-1<=x.1.2.2.1.2.2/\x.1.2.2.1.2.2<=x.1.2.2.1.1+J0 x.1.2.2.1.2.1-1/\1<=x.1.2.2.2.1.1/\x.1.2.2.2.1.1<=64/\J0 x.1.2.2.2.1.2.1<=x.1.2.2.2.1.1/\0<=x.1.2.2.2.1.2.2/\(x.1.2.2.2.1.2.2<J0 x.1.2.2.2.1.2.1\/x.1.2.2.2.1.2.2=0)/\1<=x.2.2.1/\x.2.2.1<=7/\J0 x.2.2.2.2.2<=12/\(x.2.2.1<=3->0<=x.2.2.2.1/\x.2.2.2.1<x.1.1/\0<=x.2.2.2.2.1/\x.2.2.2.2.1<16))/\Ty.fit 4096 8192 J7 x.1:=by subst c;obtain⟨h1,h2,h3⟩:=J9L e;obtain⟨q1,q2⟩:=J1h h.1 h1 rfl;have q3:=((JiV (x1:=(x.1,x.2.2)) ⟨h.1,h.c⟩).get h3).2 rfl;exact⟨⟨q1.1,q1.2.1,q1.2.2.1,q1.2.2.2.1,q1.2.2.2.2.1,q1.2.2.2.2.2.1,q1.2.2.2.2.2.2.1,q1.2.2.2.2.2.2.2.1,q1.2.2.2.2.2.2.2.2.1,q1.2.2.2.2.2.2.2.2.2.1,q1.2.2.2.2.2.2.2.2.2.2.1,q1.2.2.2.2.2.2.2.2.2.2.2.1,q1.2.2.2.2.2.2.2.2.2.2.2.2.1,q1.2.2.2.2.2.2.2.2.2.2.2.2.2.1,q1.2.2.2.2.2.2.2.2.2.2.2.2.2.2,q3⟩,q2⟩
theorem JxM{x:Je2}{y:Int}(h:Ty.fit B S Jtx x)(e:J2h x=some y)(c:y=0):Has x.1.2.2.2.2.2.1 x.2.1:=by subst c;exact(J9L e).2.1
end
theorem JHx{B S:Int}{x1:Je2}(h:Ty.fit B S Jtx x1)(ay:BG B S:=by omega):Tot (J65 x1) λy=>Ty.fit B S tq4 y/\(J0 x1.1.2.2.1.2.1<=J0 y.1.2.2.1.2.1):=by
 unfold J65;refine .bind ((JrS (B:=B) (S:=S) (x1:=(x1.1,x1.2.1,x1.2.2)) (⟨h.1,h.2.z.1,h.2.z.2.u⟩)).eqn) λy2 h1=>.ne (λN=>?_) λN=>?_
 ·refine .bind (J03 h1.1) λy3 h4=>.some ⟨(⟨h.1,h4.1.u⟩),om⟩
 ·have q:Has x1.1.2.2.2.2.2.1 x1.2.1:=JxM (⟨h.1,h.2.z.1,h.2.z.2.u⟩) h1.2 N;have L:=JsZ (x:=(x1.1,x1.2.1,x1.2.2)) (⟨h.1,h.2.z.1,h.2.z.2.u⟩) h1.2 N;have:=J2.1 h.2.z.2.1;have:=J3 (l:=x1.2.2.2.2.2);have:=J2.1 h.2.z.2.2.2.1;have:1<=x1.1.1/\x1.1.1<=64/\J0 x1.1.2.2.2.2.2.2.1=x1.1.1/\1<=x1.1.2.1/\x1.1.2.1<=1073741825/\1<=x1.1.2.2.1.1/\x1.1.2.2.1.1<=1099511627776/\J0 x1.1.2.2.1.2.1<=4096/\x1.1.2.2.1.1-1<=x1.1.2.2.1.2.2/\x1.1.2.2.1.2.2<=x1.1.2.2.1.1+J0 x1.1.2.2.1.2.1-1/\1<=x1.1.2.2.2.1.1/\x1.1.2.2.2.1.1<=64/\J0 x1.1.2.2.2.1.2.1<=x1.1.2.2.2.1.1/\0<=x1.1.2.2.2.1.2.2/\(x1.1.2.2.2.1.2.2<J0 x1.1.2.2.2.1.2.1\/x1.1.2.2.2.1.2.2=0)/\1<=x1.2.2.1/\x1.2.2.1<=7/\J0 x1.2.2.2.2.2<=12/\(x1.2.2.1<=3->0<=x1.2.2.2.1/\x1.2.2.2.1<x1.1.1/\0<=x1.2.2.2.2.1/\x1.2.2.2.2.1<16):=L.1;have j:Ty.fit 4096 8192 J7 x1.1:=L.2;refine .eq (λY=>?_) λY=>?_
  ·have U:Ty.fit 16384 1073741824 tq1 (x1.1,x1.2.1):=⟨j.u,h.2.z.1⟩;refine .bind (JuT U q) λy4 C=>?_;have J:Ty.fit 16384 1073741824 tq4 y4:=C.1.u;have:J0 x1.1.2.2.1.2.1<=J0 y4.1.2.2.1.2.1:=C.2;exact .some ⟨(⟨J.1.u,J.2.z.u⟩),om⟩
  ·refine .eq (λal=>?_) λal=>?_
   ·have ai:Ty.fit 16384 1073741824 Jr7 (x1.1,x1.2.1,1):=⟨j.u,h.2.z.1,fkn 1⟩;refine .bind (JlI ai q) λy5 I=>?_;have D:Ty.fit 16384 1073741824 tq4 y5:=I.1.u;have:J0 x1.1.2.2.1.2.1<=J0 y5.1.2.2.1.2.1:=I.2;exact .some ⟨(⟨D.1.u,D.2.z.u⟩),om⟩
   ·refine .eq (λa7=>?_) λa7=>?_
    ·have am:Ty.fit 16384 1073741824 tq2 (x1.1.2.2.2.2.2.1,x1.2.1):=⟨j.g.1.u,h.2.z.1⟩;refine .bind (Jme am) λy6 v=>.eq (λa9=>?_) λa9=>?_
     ·have a6:Ty.fit 16384 1073741824 JKn (x1.1.2.2.2.2.2.1,x1.2.1,x1.2.2.2.2.1):=⟨j.g.1.u,h.2.z.1,h.2.z.2.2.2.1⟩;refine .bind (JmH a6) λy7 K=>.ne (λae=>?_) λae=>?_
      ·refine .bind (J03 K.2) λy8 ag=>.some ⟨(⟨j.u,ag.1.u⟩),om⟩
      ·exact .some ⟨(⟨⟨j.1,j.2.1,j.c.1.u,j.d.1.u,j.e.1.u,K.1.u,j.h.u⟩,fkn 1,fk0,fk0,⟨trivial,Jc⟩,fk0⟩),om⟩
     ·have:=J2.1 v.2;refine .ne (λa3=>?_) λa3=>?_
      ·refine .bind (J03 v.2) λy9 a4=>.some ⟨(⟨j.u,a4.1.u⟩),om⟩
      ·exact .some ⟨(⟨⟨j.1,j.2.1,j.c.1.u,j.d.1.u,j.e.1.u,v.1.u,j.h.u⟩,fkn 1,fk0,fk0,⟨trivial,Jc⟩,fk0⟩),om⟩
    ·refine .eq (λaf=>?_) λaf=>?_
     ·have aa:Ty.fit 16384 1073741824 tq2 (x1.1.2.2.2.2.2.1,x1.2.1):=⟨j.g.1.u,h.2.z.1⟩;refine .bind (Jme aa) λao r=>.eq (λak=>?_) λak=>?_
      ·have ah:Ty.fit 16384 1073741824 JKn (x1.1.2.2.2.2.2.1,x1.2.1,x1.2.2.2.2.1):=⟨j.g.1.u,h.2.z.1,h.2.z.2.2.2.1⟩;refine .bind (JmH ah) λax A=>.ne (λZ=>?_) λZ=>?_
       ·refine .bind (J03 A.2) λaw T=>.some ⟨(⟨j.u,T.1.u⟩),om⟩
       ·exact .some ⟨(⟨⟨j.1,j.2.1,j.c.1.u,j.d.1.u,j.e.1.u,A.1.u,j.h.u⟩,fkn 1,fk0,fk0,⟨trivial,Jc⟩,fk0⟩),om⟩
      ·have:=J2.1 r.2;refine .ne (λW=>?_) λW=>?_
       ·refine .bind (J03 r.2) λap a8=>.some ⟨(⟨j.u,a8.1.u⟩),om⟩
       ·exact .some ⟨(⟨⟨j.1,j.2.1,j.c.1.u,j.d.1.u,j.e.1.u,r.1.u,j.h.u⟩,fkn 1,fk0,fk0,⟨trivial,Jc⟩,fk0⟩),om⟩
     ·refine .bind (JmO (B:=0) (S:=S) (⟨h.2.z.1,h.2.z.2⟩)) λab aj=>?_;have a1:Ty.fit 16384 1073741824 JKJ (x1.1.2.2.2.2.1,ab.1):=⟨j.e.1.u,aj.1⟩;refine .bind (Jtb a1) λF k=>.ne (λa0=>?_) λa0=>?_
      ·refine .bind (J03 k.c) λav ac=>.some ⟨(⟨j.u,ac.1.u⟩),om⟩
      ·refine .ite (λa2=>?_) λa2=>?_
       ·have V:Ty.fit 16384 S Jtx ((x1.1.1,x1.1.2.1,x1.1.2.2.1,x1.1.2.2.2.1,F.1,x1.1.2.2.2.2.2),x1.2.1,x1.2.2):=⟨⟨j.1,j.2.1,j.c.1.u,j.d.1.u,k.1.u,j.g.u⟩,h.2.z.1,h.2.z.2.u⟩;refine .bind (Jut V om om om) λG E=>?_;have o:Ty.fit 16384 S tq4 G:=E.1.u;have:J0 x1.1.2.2.1.2.1<=J0 G.1.2.2.1.2.1:=E.2;refine .eq (λR=>?_) λR=>?_
        ·exact .some ⟨(⟨j.u,o.2.z.u⟩),om⟩
        ·exact .some ⟨(⟨o.1.u,o.2.z.u⟩),om⟩
       ·refine .bind (Jyf (B:=4098) (S:=0) (⟨k.1,h.2.z.1⟩)) λaq an=>.gt (λM=>?_) λM=>?_
        ·have P:Ty.fit 16384 1073741824 Jr7 ((x1.1.1,x1.1.2.1,x1.1.2.2.1,x1.1.2.2.2.1,F.1,x1.1.2.2.2.2.2),x1.2.1,4):=⟨⟨j.1,j.2.1,j.c.1.u,j.d.1.u,k.1.u,j.g.u⟩,h.2.z.1,fkn 4⟩;refine .bind (JlI P q) λH w=>?_;have n:Ty.fit 16384 1073741824 tq4 H:=w.1.u;have:J0 x1.1.2.2.1.2.1<=J0 H.1.2.2.1.2.1:=w.2;refine .eq (λQ=>?_) λQ=>?_
         ·exact .some ⟨(⟨j.u,n.2.z.u⟩),om⟩
         ·exact .some ⟨(⟨n.1.u,n.2.z.u⟩),om⟩
        ·refine .bind (JEn (B:=4098) (S:=8192) (⟨⟨j.1,j.2.1,j.c.1.u,j.d.1.u,k.1.u,j.g.u⟩,h.2.z.1⟩)) λau O=>.some ⟨(⟨⟨j.1,j.2.1,j.c.1.u,j.d.1.u,k.1.u,j.g.u⟩,fkn 2,O,fk0,⟨trivial,Jc⟩,fk0⟩),om⟩
theorem JfC{B S:Int}{x1:J3r}(h:Ty.fit B S tq3 x1)(k:BC B S 0 0:=by omega):Tot (J2C x1) λy=>Ty.fit 0 0 .b y:=by
 unfold J2C;refine .bind ((J2F (B:=B) (S:=S) (x1:=(x1.1.1.2.2.2.2.2.1,x1.2)) (⟨h.1.1.g.1,h.2⟩)).eqn) λe h1=>?_;have:J0 x1.1.1.2.2.2.2.2.1=_:=Jj h.1.1.g.1;have: -1<=e/\e<J0 x1.1.1.2.2.2.2.2.1:=h1.1.2;refine .ge (λj=>?_) λj=>?_
 ·refine .bind (Ji h.1.1.g.1) λn o=>.some trivial
 ·exact .some trivial
end Go.Am
end
