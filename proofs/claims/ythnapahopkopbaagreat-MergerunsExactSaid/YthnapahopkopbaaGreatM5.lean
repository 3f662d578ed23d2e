/-
  Parts of a proof.
-/
import Derived.Test.YthnapahopkopbaaGreatM4
set_option linter.unusedSimpArgs false
set_option linter.unusedVariables false
section
namespace Go.Am
set_option linter.unusedVariables false
set_option maxRecDepth 20000
set_option maxHeartbeats 4000000
theorem JxN{B S:Int}{x1:JW}(h:Ty.fit B S Jt x1)(g:BS B S 0 0:=by omega):Tot (J1y x1) λy=>Ty.fit 0 0 .b y:=by
 unfold J1y;have s0:Ty.fit 0 S Jt x1:=h;refine .bind (Jg4 (B:=0) (S:=S) s0) λk h1=>.ite (λe=>?_) λe=>?_
 ·refine .bind (Jlt (B:=0) (S:=S) s0) λj h3=>.some trivial
 ·exact .some trivial
theorem J3u{B S:Int}{x1:J00}(h:Ty.fit B S JK x1)(ac:BS B S 0 0:=by omega)(hB:B<=9223372036854775807:=by omega):Tot (J0j x1) λy=>Ty.fit 0 0 .b y:=by
 unfold J0j;have:=J2.1 h.1;refine .ltf (λZ=>?_) λZ=>?_
 ·refine .gtf (λc3=>?_) λc3=>?_
  ·have:J0 x1.2.1<=B:=h.2.1.1;have:=J3 (l:=x1.2.1);have:J0 x1.2.1=_:=Jj h.2.1;refine .gtf (λc4=>?_) λc4=>?_
   ·have:=J2.1 h.c;refine .ltf (λY=>?_) λY=>?_
    ·have:=J0H (J0 x1.2.1) 1;refine .gt (λO=>?_) λO=>?_
     ·exact .some trivial
     ·refine Jb (τ:=Int) (λq=>(J0 x1.2.1,q,x1)) (λq=>(Ty.fit 0 0 (.i .i64) q/\0<=q/\(q<=J0 x1.2.1\/q<=0))) (λq=>J0 x1.2.1-q) ?_ 0 rfl ?_
      ·rintro e ⟨L,ab,a7⟩;unfold J5v
       try dsimp only
       have:=J2.1 L;refine .lt (λK=>?_) λK=>?_
       ·refine .bind (Jh h.2.1) λk j=>.bind ((JxN (B:=0) (S:=S) (x1:=k.1) j.1.z.1).eqn) λy4 D=>.nof (λv=>?_) λv=>?_
        ·have a3:=Jlg (x:=k.1) j.1.z.1 D.2 v;refine .ite (λG=>?_) λG=>?_
         ·have:=J2.1 j.1.z.2.2.1;refine .ltf (λQ=>?_) λQ=>?_
          ·refine .gtf (λC=>?_) λC=>?_
           ·refine .not (λJ=>?_) λJ=>?_
            ·refine .ne (λF=>?_) λF=>?_
             ·exact .some trivial
             ·refine Jb (τ:=Int) (λq=>(J0 x1.2.1,e,q,x1,k)) (λq=>(Ty.fit 0 0 (.i .i64) q/\0<=q/\(q<=e\/q<=0))) (λq=>e-q) ?_ 0 rfl ?_
              ·rintro r ⟨ak,af,a6⟩;unfold J08
               try dsimp only
               refine .lt (λH=>?_) λH=>?_
               ·refine .bind (Jh h.2.1) λy6 ai=>.eq (λR=>?_) λR=>?_
                ·refine .inr ?_;exact .some trivial
                ·have:=Jg r 1;exact .some ⟨J1 .i64 r 1,rfl,⟨J5,om,om⟩,om,om⟩
               ·have:=Jg e 1;exact .some ⟨J1 .i64 e 1,rfl,⟨J5,om,om⟩,om,om⟩
              ·try dsimp only
               exact⟨fk0,oo,oo⟩
            ·refine Jb (τ:=Int) (λq=>(J0 x1.2.1,e,q,x1,k)) (λq=>(Ty.fit 0 0 (.i .i64) q/\0<=q/\(q<=e\/q<=0))) (λq=>e-q) ?_ 0 rfl ?_
             ·rintro o ⟨V,aj,a8⟩;unfold JfO
              try dsimp only
              have:=J2.1 V;refine .lt (λE=>?_) λE=>?_
              ·refine .bind (Jh h.2.1) λy8 a4=>.eq (λw=>?_) λw=>?_
               ·refine .inr ?_;exact .some trivial
               ·have:=Jg o 1;exact .some ⟨J1 .i64 o 1,rfl,⟨J5,om,om⟩,om,om⟩
              ·have:=Jg e 1;exact .some ⟨J1 .i64 e 1,rfl,⟨J5,om,om⟩,om,om⟩
             ·try dsimp only
              exact⟨fk0,oo,oo⟩
           ·exact .some trivial
          ·exact .some trivial
         ·refine .not (λI=>?_) λI=>?_
          ·have:=J2.1 j.1.z.2.2.1;refine .ne (λW=>?_) λW=>?_
           ·exact .some trivial
           ·refine Jb (τ:=Int) (λq=>(J0 x1.2.1,e,q,x1,k)) (λq=>(Ty.fit 0 0 (.i .i64) q/\0<=q/\(q<=e\/q<=0))) (λq=>e-q) ?_ 0 rfl ?_
            ·rintro n ⟨N,a9,a2⟩;unfold Jft
             try dsimp only
             have:=J2.1 N;refine .lt (λU=>?_) λU=>?_
             ·refine .bind (Jh h.2.1) λa5 ah=>.eq (λT=>?_) λT=>?_
              ·refine .inr ?_;exact .some trivial
              ·have:=Jg n 1;exact .some ⟨J1 .i64 n 1,rfl,⟨J5,om,om⟩,om,om⟩
             ·have:=Jg e 1;exact .some ⟨J1 .i64 e 1,rfl,⟨J5,om,om⟩,om,om⟩
            ·try dsimp only
             exact⟨fk0,oo,oo⟩
          ·refine Jb (τ:=Int) (λq=>(J0 x1.2.1,e,q,x1,k)) (λq=>(Ty.fit 0 0 (.i .i64) q/\0<=q/\(q<=e\/q<=0))) (λq=>e-q) ?_ 0 rfl ?_
           ·rintro g ⟨P,ag,ae⟩;unfold JeZ
            try dsimp only
            have:=J2.1 P;refine .lt (λM=>?_) λM=>?_
            ·refine .bind (Jh h.2.1) λad aa=>.eq (λA=>?_) λA=>?_
             ·refine .inr ?_;exact .some trivial
             ·have:=Jg g 1;exact .some ⟨J1 .i64 g 1,rfl,⟨J5,om,om⟩,om,om⟩
            ·have:=Jg e 1;exact .some ⟨J1 .i64 e 1,rfl,⟨J5,om,om⟩,om,om⟩
           ·try dsimp only
            exact⟨fk0,oo,oo⟩
        ·exact .some trivial
       ·exact .some trivial
      ·try dsimp only
       exact⟨fk0,oo,oo⟩
    ·exact .some trivial
   ·exact .some trivial
  ·exact .some trivial
 ·exact .some trivial
theorem JgQ{B S x1:Int}(h:Ty.fit B S (.i .i64) x1)(g:BS B S 0 0:=by omega):Tot (J6V x1) λy=>Ty.fit 0 0 .b y:=by
 unfold J6V;refine .ge (λe=>?_) λe=>?_
 ·exact .some trivial
 ·exact .some trivial
theorem J5k{B S:Int}{x1:List T_api_Row}(h:Ty.fit B S (.l Jc) x1)(E:BS B S 0 0:=by omega)(L:B<=9223372036854775807:=by omega):Tot (J1D x1) λy=>Ty.fit 0 0 .b y:=by
 unfold J1D;have:J0 x1=_:=Jj h;refine .ltf (λw=>?_) λw=>?_
 ·refine .gt (λx=>?_) λx=>?_
  ·exact .some trivial
  ·refine Jb (τ:=Int) (λq=>(q,x1)) (λq=>(Ty.fit 0 0 (.i .i64) q/\0<=q/\(q<=J0 x1\/q<=0))) (λq=>J0 x1-q) ?_ 0 rfl ?_
   ·rintro e ⟨z,F,K⟩;unfold JeJ
    try dsimp only
    have:=J2.1 z;refine .lt (λv=>?_) λv=>?_
    ·refine .bind (Jh h) λG g=>.bind (JgQ g.1.1) λJ C=>.nof (λn=>?_) λn=>?_
     ·refine .bind (JgQ g.1.2.1) λH A=>.nof (λk=>?_) λk=>?_
      ·refine .bind (JgQ g.1.c) λI D=>.nof (λj=>?_) λj=>?_
       ·have:=J2.1 g.1.2.1;refine .eq (λo=>?_) λo=>?_
        ·have:=J2.1 g.1.c;refine .ne (λr=>?_) λr=>?_
         ·exact .some trivial
         ·have:=Jg e 1;exact .some ⟨J1 .i64 e 1,rfl,⟨J5,om,om⟩,om,om⟩
        ·have:=Jg e 1;exact .some ⟨J1 .i64 e 1,rfl,⟨J5,om,om⟩,om,om⟩
       ·exact .some trivial
      ·exact .some trivial
     ·exact .some trivial
    ·exact .some trivial
   ·try dsimp only
    exact⟨fk0,oo,oo⟩
 ·exact .some trivial
theorem Jc0{B S:Int}{x1:JpA}(h:Ty.fit B S JI6 x1)(A:BS B S 0 0:=by omega)(G:B<=9223372036854775807:=by omega):Tot (J1L x1) λy=>Ty.fit 0 0 .b y:=by
 unfold J1L;have:J0 x1.1<=B:=h.1.1;have:=J3 (l:=x1.1);have:J0 x1.1=_:=Jj h.1;refine Jb (τ:=Int) (λq=>(x1.1,x1.2,q)) (λq=>(Ty.fit 0 0 (.i .i64) q/\0<=q/\(q<=J0 x1.1\/q<=0))) (λq=>J0 x1.1-q) ?_ 0 rfl ?_
 ·rintro e ⟨z,H,E⟩;unfold J6w
  try dsimp only
  have:=J2.1 z;refine .lt (λx=>?_) λx=>?_
  ·refine .bind (Jh h.1) λD g=>.ltf (λr=>?_) λr=>?_
   ·have:=J2.1 h.2;refine .gef (λn=>?_) λn=>?_
    ·have:=J2.1 g.1.2.1;refine .ltf (λk=>?_) λk=>?_
     ·have:=J2.1 g.1.c;refine .gtf (λo=>?_) λo=>?_
      ·refine .gtf (λv=>?_) λv=>?_
       ·refine .gt (λw=>?_) λw=>?_
        ·have:=J0H e 1;refine .bind (Jh h.1) λF C=>.ge (λj=>?_) λj=>?_
         ·exact .some trivial
         ·have:=Jg e 1;exact .some ⟨J1 .i64 e 1,rfl,⟨J5,om,om⟩,om,om⟩
        ·have:=Jg e 1;exact .some ⟨J1 .i64 e 1,rfl,⟨J5,om,om⟩,om,om⟩
       ·exact .some trivial
      ·exact .some trivial
     ·exact .some trivial
    ·exact .some trivial
   ·exact .some trivial
  ·exact .some trivial
 ·try dsimp only
  exact⟨fk0,oo,oo⟩
theorem Jzc{B S:Int}{x1:J9}(h:Ty.fit B S J7 x1)(J:BC B S 0 0:=by omega):Tot (J4q x1) λy=>Ty.fit 0 0 .b y:=by
 unfold J4q;refine .ge (λC=>?_) λC=>?_
 ·refine .le (λD=>?_) λD=>?_
  ·have:=J2.1 h.2.1;refine .ge (λF=>?_) λF=>?_
   ·refine .le (λE=>?_) λE=>?_
    ·refine .bind ((J2j h.c.1).eqn) λR A=>.ite (λq=>?_) λq=>?_
     ·have v9:=J1V h.c.1 A.2 q;refine .bind ((J3u h.d.1).eqn) λN r=>.ite (λo=>?_) λo=>?_
      ·have I:=J2F h.d.1 r.2 o;refine .bind ((J4j h.e.1).eqn) λQ w=>.ite (λk=>?_) λk=>?_
       ·have K:=J3y h.e.1 w.2 k;refine .bind ((J3v h.g.1).eqn) λO z=>.ite (λn=>?_) λn=>?_
        ·have L:=J2C h.g.1 z.2 n;refine .bind ((J5k h.h.1).eqn) λP x=>.ite (λj=>?_) λj=>?_
         ·have G:=J4m h.h.1 x.2 j;refine .eq (λv=>?_) λv=>?_
          ·refine .bind (Jc0 (B:=B) (S:=S) (⟨h.i,h.1⟩)) λM H=>.some trivial
          ·exact .some trivial
         ·exact .some trivial
        ·exact .some trivial
       ·exact .some trivial
      ·exact .some trivial
     ·exact .some trivial
    ·exact .some trivial
   ·exact .some trivial
  ·exact .some trivial
 ·exact .some trivial
theorem J1c{B S:Int}{x1:J9}(h:Ty.fit B S J7 x1)(T:BC B S 0 0:=by omega):Tot (JL x1) λy=>Ty.fit 0 0 .b y:=by
 unfold JL;refine .bind (Jzc h) λy2 h1=>.not (λK=>?_) λK=>?_
 ·exact .some trivial
 ·have:J0 x1.2.2.2.2.2.1<=B:=h.g.1.1;have:=J3 (l:=x1.2.2.2.2.2.1);have:J0 x1.2.2.2.2.2.1=_:=Jj h.g.1;refine Jb (τ:=Int) (λq=>(q,x1)) (λq=>(Ty.fit 0 0 (.i .i64) q/\0<=q/\(q<=J0 x1.2.2.2.2.2.1\/q<=0))) (λq=>J0 x1.2.2.2.2.2.1-q) ?_ 0 rfl ?_
  ·rintro o ⟨L,w7,z8⟩;unfold JfI
   try dsimp only
   have:=J2.1 L;refine .lt (λJ=>?_) λJ=>?_
   ·refine .bind (Jh h.g.1) λy4 N=>.ge (λF=>?_) λF=>?_
    ·exact .some trivial
    ·have:=Jg o 1;exact .some ⟨J1 .i64 o 1,rfl,⟨J5,om,om⟩,om,om⟩
   ·refine .inr ?_;have:J0 x1.2.2.2.1.2.1<=B:=h.d.1.2.1.1;have:=J3 (l:=x1.2.2.2.1.2.1);have:J0 x1.2.2.2.1.2.1=_:=Jj h.d.1.2.1;refine Jb (τ:=Int) (λq=>(q,x1)) (λq=>(Ty.fit 0 0 (.i .i64) q/\0<=q/\(q<=J0 x1.2.2.2.1.2.1\/q<=0))) (λq=>J0 x1.2.2.2.1.2.1-q) ?_ 0 rfl ?_
    ·rintro k ⟨A,P,Z⟩;unfold Jg8
     try dsimp only
     have:=J2.1 A;refine .lt (λv=>?_) λv=>?_
     ·refine .bind (Jh h.d.1.2.1) λy6 D=>.ge (λw=>?_) λw=>?_
      ·exact .some trivial
      ·refine .bind (J92 (B:=B) (S:=S) (⟨h,D.1.z.1.1⟩)) λy7 V=>.ite (λx=>?_) λx=>?_
       ·exact .some trivial
       ·have:=Jg k 1;exact .some ⟨J1 .i64 k 1,rfl,⟨J5,om,om⟩,om,om⟩
     ·refine .inr ?_;have:J0 x1.2.2.2.2.1.1<=B:=h.e.1.1.1;have:=J3 (l:=x1.2.2.2.2.1.1);have:J0 x1.2.2.2.2.1.1=_:=Jj h.e.1.1;refine Jb (τ:=Int) (λq=>(q,x1)) (λq=>(Ty.fit 0 0 (.i .i64) q/\0<=q/\(q<=J0 x1.2.2.2.2.1.1\/q<=0))) (λq=>J0 x1.2.2.2.2.1.1-q) ?_ 0 rfl ?_
      ·rintro n ⟨E,U,R⟩;unfold Jfs
       try dsimp only
       have:=J2.1 E;refine .lt (λH=>?_) λH=>?_
       ·refine .bind (Jh h.e.1.1) λy9 O=>.ge (λr=>?_) λr=>?_
        ·exact .some trivial
        ·have:=Jg n 1;exact .some ⟨J1 .i64 n 1,rfl,⟨J5,om,om⟩,om,om⟩
       ·refine .inr ?_;have:J0 x1.2.2.2.2.1.2<=B:=h.e.1.2.1;have:=J3 (l:=x1.2.2.2.2.1.2);have:J0 x1.2.2.2.2.1.2=_:=Jj h.e.1.2;refine Jb (τ:=Int) (λq=>(q,x1)) (λq=>(Ty.fit 0 0 (.i .i64) q/\0<=q/\(q<=J0 x1.2.2.2.2.1.2\/q<=0))) (λq=>J0 x1.2.2.2.2.1.2-q) ?_ 0 rfl ?_
        ·rintro j ⟨I,Q,M⟩;unfold JeN
         try dsimp only
         have:=J2.1 I;refine .lt (λG=>?_) λG=>?_
         ·refine .bind (Jh h.e.1.2) λY W=>.ge (λC=>?_) λC=>?_
          ·exact .some trivial
          ·have:=Jg j 1;exact .some ⟨J1 .i64 j 1,rfl,⟨J5,om,om⟩,om,om⟩
         ·exact .some trivial
        ·try dsimp only
         exact⟨fk0,oo,oo⟩
      ·try dsimp only
       exact⟨fk0,oo,oo⟩
    ·try dsimp only
     exact⟨fk0,oo,oo⟩
  ·try dsimp only
   exact⟨fk0,oo,oo⟩
section
variable {B S:Int}
def KOk(x:J9):Prop:=J0i x.2.2.1=some true/\J0j x.2.2.2.1=some true/\J1n x.2.2.2.2.1=some true/\J0Z x.2.2.2.2.2.1=some true/\J1D x.2.2.2.2.2.2.1=some true/\J1L (x.2.2.2.2.2.2.2,x.1)=some true/\1<=x.1/\x.1<=64/\1<=x.2.1/\x.2.1<=1073741825/\J0 x.2.2.2.2.2.2.1=x.1
theorem Jyp{x:J9}(e:J4q x=some true):KOk x:=by
 have h:Par (J4q x) λy=>y=true->KOk x:=by unfold J4q;refine .ge (λr=>.le (λv=>.ge (λw=>.le (λC=>.bind λa ha=>.ite (λo=>.bind λb hb=>.ite (λj=>.bind λc hc=>.ite (λk=>.bind λd hd=>.ite (λB=>.bind λf hf=>.ite (λz=>.eq (λA=>.bind λg n=>.some λq=>?_) λ_=>.some nofun) λ_=>.some nofun) λ_=>.some nofun) λ_=>.some nofun) λ_=>.some nofun) λ_=>.some nofun) λ_=>.some nofun) λ_=>.some nofun) λ_=>.some nofun) λ_=>.some nofun;subst o j k B z q;exact⟨ha,hb,hc,hd,hf,n,r,v,w,C,A⟩
 exact h _ e rfl
theorem J4l{x:J9}(e:JL x=some true):KOk x:=by
 have g:Par (JL x) λy=>y=true->KOk x:=by unfold JL;refine .bind λa ha=>.not (λ_=>.some nofun) λc=>?_;subst c;exact λ_ _ _=>Jyp ha
 exact g _ e rfl
theorem KOk.fit{x:J9}(k:KOk x)(h:Ty.fit B S J7 x)(y:BC B S 0 0:=by omega):Ty.fit 4096 8192 J7 x:=by obtain⟨h1,h2,h3,h4,h5,v,j,o⟩:=h;obtain⟨k1,k2,g,w,n,r,e⟩:=k;refine⟨h1,h2,(J1V h3 k1 rfl).2,(J2F h4 k2 rfl).2.u,(J3y h5 g rfl).2.u,(J2C v w rfl).2.u,(J4m j n rfl).2.u,?_,λa ha=>o.2 a ha⟩;have q:=(Joh r e.1 e.2.1).1;show J0 x.2.2.2.2.2.2.2<=4096;omega
theorem J1m{x:J9}{y:Bool}(h:Ty.fit B S J7 x)(e:JL x=some y)(c:y=true)(A:BC B S 0 0:=by omega):(1<=x.1/\x.1<=64/\J0 x.2.2.2.2.2.2.1=x.1/\1<=x.2.1/\x.2.1<=1073741825/\1<=x.2.2.1.1/\x.2.2.1.1<=1099511627776/\J0 x.2.2.1.2.1<=4096/\x.2.2.1.1-1<=x.2.2.1.2.2/\x.2.2.1.2.2<=x.2.2.1.1+J0 x.2.2.1.2.1-1/\1<=x.2.2.2.1.1/\x.2.2.2.1.1<=64/\J0 x.2.2.2.1.2.1<=x.2.2.2.1.1/\0<=x.2.2.2.1.2.2/\(x.2.2.2.1.2.2<J0 x.2.2.2.1.2.1\/x.2.2.2.1.2.2=0))/\Ty.fit 4096 8192 J7 x:=by subst c;have k:=J4l e;obtain⟨k1,k2,C,F,D,E,r,o,v,g,j⟩:=id k;obtain⟨a1,a2,a3,a4,w⟩:=(J1V h.c.1 k1 rfl).1;obtain⟨b1,b2,q,z,n⟩:=(J2F h.d.1 k2 rfl).1;exact⟨⟨r,o,j,v,g,a1,a2,a3,a4,w,b1,b2,q,z,n⟩,k.fit h⟩
end
theorem JyH{B S:Int}{x1:J9}(h:Ty.fit B S J7 x1)(v:BG B S:=by omega):Tot (J9d x1) λy=>Ty.fit 8193 8192 JrL y:=by
 unfold J9d;refine .bind ((J1c h).eqn) λx h1=>.not (λn=>?_) λn=>?_
 ·exact .some (⟨fzr,fk0,fkn 15⟩)
 ·have v3:=J1m h h1.2 n;have j:Ty.fit 4096 8192 J7 x1:=v3.2;refine .gt (λo=>?_) λo=>?_
  ·exact .some (⟨fzr,fk0,fkn 21⟩)
  ·have q:Ty.fit 16384 1073741824 tq2 (x1.2.2.2.2.2.1,x1.2.1):=⟨j.g.1.u,j.2.1⟩;refine .bind (Jkq q) λw k=>.ne (λr=>?_) λr=>?_
   ·exact .some (⟨fzr,fk0,k.2⟩)
   ·exact .some (⟨⟨j.1,J5,j.c.1.u,j.d.1.u,j.e.1.u,k.1.u,j.h.u⟩,J22,fk0⟩)
theorem Jyb{B S:Int}{x1:Jw}(h:Ty.fit B S Jk x1)(g:BG B S:=by omega):Tot (J8T x1) λy=>Ty.fit B S JGU y:=by
 unfold J8T;refine .bind (JyH h.1) λj h1=>.ne (λe=>?_) λe=>?_
 ·exact .some (⟨⟨fzr,Ja,fk0,Ja,trivial,Ja⟩,fk0,h1.c⟩)
 ·exact .some (⟨⟨h1.1.u,h.2⟩,h1.2.1,fk0⟩)
theorem J1I{B S:Int}{x1:T_api_Entry}(h:Ty.fit B S J4 x1)(g:BS B S 0 0:=by omega):Tot (JN x1) λy=>Ty.fit 0 0 .b y:=by
 unfold JN;refine .eqf (λe=>?_) λe=>?_
 ·exact .some trivial
 ·exact .some trivial
theorem J8f{B S:Int}{x1:J07×T_api_Entry}(h:Ty.fit B S JAs x1)(F:BG B S:=by omega):Tot (J1k x1) λy=>Ty.fit 4097 8192 (.pr JR J0a) y/\(y.2.2=0->J0 y.1.2.1=J0 x1.1.2.1+1/\J0 x1.1.2.1<=4095/\0<=x1.2.2.2.2.2.2.2.1.1/\x1.2.2.2.2.2.2.2.1.1<64/\0<=x1.2.2.2.2.2.2.2.1.2.1/\x1.2.2.2.2.2.2.2.1.2.1<16):=by
 unfold J1k;refine .bind ((J2j h.1).eqn) λI h1=>.not (λr=>?_) λr=>?_
 ·have:J0 x1.1.2.1<=B:=h.1.2.1.1;exact .some ⟨(⟨fzr,fk0,fkn 26⟩),om⟩
 ·have D:=J1V h.1 h1.2 r;have:=J3 (l:=x1.1.2.1);have:J0 x1.1.2.1=_:=Jj h.1.2.1;have e:Ty.fit 4096 8192 JR x1.1:=D.2;refine .eqf (λw=>?_) λw=>?_
  ·refine .bind (J67 e om om om) λG q=>?_;have:=J2.1 q.1;refine .eq (λA=>?_) λA=>?_
   ·have:=J2.1 h.2.z.2.2.2.2.2.2.1.1;exact .some ⟨(⟨fzr,fk0,fkn 21⟩),om⟩
   ·refine .bind (J67 e om om om) λg E=>.bind ((J2D (B:=0) (S:=S) (x1:=(J1 .i64 g 1,x1.2.2)) (⟨J5,h.2.z.2⟩)).eqn) λH v=>.not (λo=>?_) λo=>?_
    ·have:=J2.1 h.2.z.2.2.2.2.2.2.1.1;exact .some ⟨(⟨fzr,fk0,fkn 12⟩),om⟩
    ·have k:=J2g (x:=(J1 .i64 g 1,x1.2.2)) (⟨J5,h.2.z.2⟩) v.2 o;have:=Jg g 1;have:=J2.1 h.2.z.2.2.2.2.2.2.1.1;have:=J2.1 h.2.z.2.2.2.2.2.2.1.2.1;have:1<=(J1 .i64 g 1)/\(J1 .i64 g 1)<=1099511627776/\0<=x1.2.2.2.1/\x1.2.2.2.1<=1073741824/\0<=x1.2.2.2.2.1/\x1.2.2.2.2.1<(J1 .i64 g 1)/\0<=x1.2.2.2.2.2.1/\x1.2.2.2.2.2.1<(J1 .i64 g 1)/\0<=x1.2.2.2.2.2.2.1/\x1.2.2.2.2.2.2.1<(J1 .i64 g 1)/\0<=x1.2.2.2.2.2.2.2.1.1/\x1.2.2.2.2.2.2.2.1.1<64/\0<=x1.2.2.2.2.2.2.2.1.2.1/\x1.2.2.2.2.2.2.2.1.2.1<16/\J0 x1.2.2.2.2.2.2.2.1.2.2.1.2<=12/\J0 x1.2.2.2.2.2.2.2.1.2.2.2.2<=12/\J0 x1.2.2.2.2.2.2.2.2<=8192:=k.1;have j:Ty.fit 0 8192 J4 (J1 .i64 g 1,x1.2.2):=k.2;refine .clo e.2.1 oo (by decide) ?_;refine .bind (J0q (B:=4097) (Bl:=4096) (Bm:=1) (S:=8192) (J0 x1.1.2.1) 1 e.2.1 (J0f (B:=1) (S:=8192) (t:=J4) oo (j.u))) λC n=>?_;have:J0 C=_:=Jj n.1;exact .some ⟨(⟨⟨e.1,n.1,e.c⟩,j.1,fk0⟩),om⟩
  ·have:=J2.1 h.2.z.2.2.2.2.2.2.1.1;exact .some ⟨(⟨fzr,fk0,fkn 21⟩),om⟩
theorem J3T{B S:Int}{x1:J73}(h:Ty.fit B S tq8 x1)(q:BC B S 0 0:=by omega):Tot (J0M x1) λy=>Ty.fit 0 8192 JNN y:=by
 unfold J0M;refine .bind ((J2j h.1).eqn) λv h1=>.not (λg=>?_) λg=>?_
 ·exact .some (⟨⟨fk0,fk0,fk0,fk0,fk0,fk0,⟨fk0,fk0,⟨trivial,Jd⟩,trivial,Jd⟩,Jd⟩,fkn 26⟩)
 ·have v3:=J1V h.1 h1.2 g;have:=J3 (l:=x1.1.2.1);have:J0 x1.1.2.1=_:=Jj h.1.2.1;have e:Ty.fit 4096 8192 JR x1.1:=v3.2;refine .ltf (λj=>?_) λj=>?_
  ·refine .bind (J67 e om om om) λr o=>.gt (λk=>?_) λk=>?_
   ·exact .some (⟨⟨fk0,fk0,fk0,fk0,fk0,fk0,⟨fk0,fk0,⟨trivial,Jd⟩,trivial,Jd⟩,Jd⟩,fkn 14⟩)
   ·have:=J0H x1.2 x1.1.1;refine .bind (Jh e.2.1) λw n=>.some (⟨n.1.z,fk0⟩)
  ·exact .some (⟨⟨fk0,fk0,fk0,fk0,fk0,fk0,⟨fk0,fk0,⟨trivial,Jd⟩,trivial,Jd⟩,Jd⟩,fkn 14⟩)
theorem JF1{B S:Int}{x1:(List T_api_Row)×Int×T_api_Row}(h:Ty.fit B S (.pr (.l Jc) (.pr (.i .i64) Jc)) x1)(p0:0<=x1.2.1)(g:x1.2.1<J0 x1.1)(e:BS B S 0 0:=by omega)(k:B<=34359738368:=by omega):Tot (Jbs x1) λy=>Ty.fit B S (.l Jc) y/\(J0 y=J0 x1.1):=by unfold Jbs;have:J0 x1.1=_:=Jj h.1;refine .clo h.1 oo (by decide) ?_;refine .bind (J5G (l:=x1.1)) λ_ _=>.bind (JcI h.1) λn j=>?_;have:J0 (J0w x1.1 (Int.toNat x1.2.1) x1.2.2)=J0 x1.1:=J5X;exact .some ⟨(J4e (t:=Jc) (i:=Int.toNat x1.2.1) (x:=x1.2.2) h.1 h.c),om⟩
theorem J4O{B S:Int}{x1:JHU}(h:Ty.fit B S JvV x1)(E:BG B S:=by omega):Tot (J2V x1) λy=>Ty.fit 64 0 JI6 y:=by
 unfold J2V;refine .bind ((J5k h.1).eqn) λH h1=>.not (λr=>?_) λr=>?_
 ·exact .some (⟨Ja,fkn 28⟩)
 ·have v3:=J4m h.1 h1.2 r;have:J0 x1.1=_:=Jj h.1;have n:Ty.fit 64 0 (.l Jc) x1.1:=v3.2;refine .bind ((J2D (B:=0) (S:=S) (x1:=x1.2) h.2.z).eqn) λF D=>.not (λj=>?_) λj=>?_
  ·exact .some (⟨Ja,fkn 12⟩)
  ·have A:=J2g (x:=x1.2) h.2.z D.2 j;have k:Ty.fit 0 8192 J4 x1.2:=A.2;refine .ne (λv=>?_) λv=>?_
   ·exact .some (⟨n,fk0⟩)
   ·refine .ge (λo=>?_) λo=>?_
    ·exact .some (⟨Ja,fkn 1⟩)
    ·refine .bind (Jh n) λG e=>.bind (JF1 (B:=64) (S:=0) (⟨n,k.h.1.1,J45 e.1.1 k.g.1,e.1.2⟩) om om) λC w=>?_;have q:Ty.fit 64 0 (.l Jc) C:=w.1.u;exact .some (⟨q,fk0⟩)
theorem J2S{B S:Int}{x1:J2t}(h:Ty.fit B S tq2 x1)(g:BS B S 0 0:=by omega)(j:B<=9223372036854775807:=by omega):Tot (J0P x1) λy=>Ty.fit 0 0 (.i .i64) y/\(-1<=y/\y<J0 x1.1):=by unfold J0P;refine .bind (J9R (B:=B) (S:=S) (h)) λe h1=>?_;have: -1<=e/\e<J0 x1.1:=h1.2;exact .some ⟨h1.1,om⟩
theorem Jb3{B S:Int}{x1:J2t}(h:Ty.fit B S tq2 x1)(A:BH B S:=by omega)(H:B<=34359738368:=by omega):Tot (J4L x1) λy=>Ty.fit B S (.l Jl) y:=by
 unfold J4L;have:J0 x1.1<=B:=h.1.1;have:=J3 (l:=x1.1);have:J0 x1.1=_:=Jj h.1;refine Jb (τ:=Int×(List Ju)) (λq=>(x1.1,x1.2,q.1,q.2)) (λq=>(Ty.fit 0 0 (.i .i64) q.1/\0<=q.1/\(q.1<=J0 x1.1\/q.1<=0))/\(Ty.fit B S (.l Jl) q.2/\J0 q.2<=1*q.1+0)) (λq=>J0 x1.1-q.1) ?_ (0,[]) rfl ?_
 ·rintro⟨g,e⟩ n;dsimp only at n;obtain⟨⟨x,C,G⟩,j,D⟩:=n;unfold Je9
  try dsimp only
  have:=J2.1 x;refine .lt (λw=>?_) λw=>?_
  ·refine .bind (Jh h.1) λE z=>.ne (λo=>?_) λo=>?_
   ·refine .bind (Jh h.1) λF v=>?_;have:J0 e<=B:=j.1;have:J0 e=_:=Jj j;refine .bind (J0q (B:=B) (Bl:=B) (Bm:=B) (S:=S) (J0 e) 1 j (J0f (B:=B) (S:=S) (t:=Jl) oo v.1)) λr k=>?_;have:=Jg g 1;have:J0 r=_:=Jj k.1;exact .some ⟨(J1 .i64 g 1,r),rfl,⟨⟨J5,om,om⟩,k.1,om⟩,om,om⟩
   ·have:=Jg g 1;have:J0 e=_:=Jj j;exact .some ⟨(J1 .i64 g 1,e),rfl,⟨⟨J5,om,om⟩,j,om⟩,om,om⟩
  ·exact .some j
 ·have:J0 ([]:List Ju)=0:=rfl
  try dsimp only
  exact⟨⟨fk0,oo,oo⟩,Ja,oo⟩
theorem J8N{B S:Int}{x1:(List Ju)×Int×Ju}(h:Ty.fit B S (.pr (.l Jl) (.pr (.i .i64) Jl)) x1)(p0:0<=x1.2.1)(g:x1.2.1<J0 x1.1)(e:BS B S 0 0:=by omega)(k:B<=34359738368:=by omega):Tot (J2T x1) λy=>Ty.fit B S (.l Jl) y/\(J0 y=J0 x1.1):=by unfold J2T;have:J0 x1.1=_:=Jj h.1;refine .clo h.1 oo (by decide) ?_;refine .bind (J5G (l:=x1.1)) λ_ _=>.bind (JcI h.1) λn j=>?_;have:J0 (J0w x1.1 (Int.toNat x1.2.1) x1.2.2)=J0 x1.1:=J5X;exact .some ⟨(J4e (t:=Jl) (i:=Int.toNat x1.2.1) (x:=x1.2.2) h.1 h.c),om⟩
theorem J8c{B S:Int}{x1:Ju}(h:Ty.fit B S Jl x1)(n:BS B S 0 0:=by omega)(q:B<=9223372036854775807:=by omega):Tot (J2n x1) λy=>Ty.fit B S Jl y:=by
 unfold J2n;refine .eq (λk=>?_) λk=>?_
 ·have:J0 x1.2.2.2.2.1<=B:=h.e.1.1;have:=J3 (l:=x1.2.2.2.2.1);refine .eqf (λg=>?_) λg=>?_
  ·have:=J0H (J0 x1.2.2.2.2.1) 1;refine .bind (Jh h.e.1) λr o=>.le (λj=>?_) λj=>?_
   ·exact .some (⟨h.1,fkn 1,h.c.1,fk0,h.e⟩)
   ·exact .some h
  ·exact .some (⟨h.1,fkn 1,h.c.1,fk0,h.e⟩)
 ·exact .some h
theorem J54{B S:Int}{x1:(List Ju)×T_api_Entry}(h:Ty.fit B S JvO x1)(aq:BG B S:=by omega):Tot (J0G x1) λy=>Ty.fit 16384 1073741824 tq2 y:=by
 unfold J0G;refine .bind ((J3v h.1).eqn) λy2 h1=>.not (λV=>?_) λV=>?_
 ·exact .some (⟨Ja,fkn 15⟩)
 ·have v3:=J2C h.1 h1.2 V;have:J0 x1.1=_:=Jj h.1;have w:Ty.fit 4096 0 (.l Jl) x1.1:=v3.2;refine .bind ((J2D (B:=0) (S:=S) (x1:=x1.2) h.2.z).eqn) λy3 h9=>.not (λC=>?_) λC=>?_
  ·exact .some (⟨Ja,fkn 12⟩)
  ·have aa:=J2g (x:=x1.2) h.2.z h9.2 C;have o:Ty.fit 0 8192 J4 x1.2:=aa.2;refine .eq (λa6=>?_) λa6=>?_
   ·exact .some (⟨w.u,fk0⟩)
   ·refine .bind (J9R (B:=4096) (S:=0) (⟨w,o.c.1⟩)) λF v=>?_;have:=J2.1 v.1;have: -1<=F/\F<J0 x1.1:=v.2;refine .lt (λI=>?_) λI=>?_
    ·exact .some (⟨Ja,fkn 16⟩)
    ·refine .bind (Jh w) λr j=>.ne (λa2=>?_) λa2=>?_
     ·exact .some (⟨Ja,fkn 13⟩)
     ·have:=J2.1 o.2.1;refine .eq (λK=>?_) λK=>?_
      ·refine .clo j.1.e.1 oo (by decide) ?_;have:J0 r.2.2.2.2.1<=4096:=j.1.e.1.1;have:=J3 (l:=r.2.2.2.2.1);refine .bind (J0q (B:=4097) (Bl:=4096) (Bm:=1) (S:=0) (J0 r.2.2.2.2.1) 1 j.1.e.1 (J0f (B:=1) (S:=0) (t:=(.i .i64)) oo o.1)) λy7 af=>.bind (J8c (B:=4097) (S:=0) (⟨j.1.1,j.1.2.1,o.1,j.1.d.1,af.1,j.1.g.u⟩)) λy8 Z=>?_;have a4:Ty.fit 4097 0 Jl y8:=Z.u;refine .bind (J8N (B:=4097) (S:=0) (⟨w.u,v.1,a4⟩) om om) λy9 a8=>?_;have G:Ty.fit 4097 0 (.l Jl) y9:=a8.1.u;exact .some (⟨G.u,fk0⟩)
      ·refine .eq (λY=>?_) λY=>?_
       ·have:J0 r.2.2.2.2.1<=4096:=j.1.e.1.1;have:=J3 (l:=r.2.2.2.2.1);refine Jb (τ:=Jzz) (λq=>(x1.1,F,q.1,x1.2,(r.1,r.2.1,x1.2.1,r.2.2.2),q.2)) (λq=>(Ty.fit 0 0 (.i .i64) q.1/\0<=q.1/\(q.1<=J0 r.2.2.2.2.1\/q.1<=0))/\(Ty.fit 4096 0 (.l (.i .i64)) q.2/\J0 q.2<=1*q.1+0)) (λq=>J0 r.2.2.2.2.1-q.1) ?_ (0,[]) rfl ?_
        ·rintro⟨k,n⟩ D;dsimp only at D;obtain⟨⟨U,al,ap⟩,A,ak⟩:=D;unfold JiO
         try dsimp only
         have:=J2.1 U;refine .lt (λW=>?_) λW=>?_
         ·refine .bind (Jh j.1.e.1) λao an=>.ne (λab=>?_) λab=>?_
          ·refine .bind (Jh j.1.e.1) λam ac=>?_;have:J0 n<=4096:=A.1;have:=J3 (l:=n);refine .bind (J0q (B:=4096) (Bl:=4096) (Bm:=1) (S:=0) (J0 n) 1 A (J0f (B:=1) (S:=0) (t:=(.i .i64)) oo ac.1)) λO a9=>?_;have:=Jg k 1;exact .some ⟨(J1 .i64 k 1,O),rfl,⟨⟨J5,om,om⟩,a9.1,om⟩,om,om⟩
          ·have:=Jg k 1;exact .some ⟨(J1 .i64 k 1,n),rfl,⟨⟨J5,om,om⟩,A,om⟩,om,om⟩
         ·refine .inr ?_;refine .eq (λL=>?_) λL=>?_
          ·exact .some (⟨Ja,fkn 13⟩)
          ·refine .bind (J8c (B:=4096) (S:=0) (⟨j.1.1,j.1.2.1,o.1,j.1.d.1,A,j.1.g⟩)) λa3 a0=>?_;have H:Ty.fit 4096 0 Jl a3:=a0.u;refine .bind (J8N (B:=4096) (S:=0) (⟨w,v.1,H⟩) om om) λP ae=>?_;have ad:Ty.fit 4096 0 (.l Jl) P:=ae.1.u;exact .some (⟨ad.u,fk0⟩)
        ·have:J0 ([]:List Int)=0:=rfl
         try dsimp only
         exact⟨⟨fk0,oo,oo⟩,Ja,oo⟩
       ·refine .eq (λQ=>?_) λQ=>?_
        ·refine .bind (J8c (B:=4096) (S:=0) (⟨j.1.1,fkn 3,o.1,fk0,j.1.e.1,Ja⟩)) λa5 a7=>?_;have J:Ty.fit 4096 0 Jl a5:=a7.u;refine .bind (J8N (B:=4096) (S:=0) (⟨w,v.1,J⟩) om om) λR M=>?_;have N:Ty.fit 4096 0 (.l Jl) R:=M.1.u;exact .some (⟨N.u,fk0⟩)
        ·have ag:Ty.fit 16384 1073741824 tq2 (x1.1,x1.2.2.2.1):=⟨w.u,o.c.1⟩;refine .bind (Jb3 ag) λT a1=>?_;have E:Ty.fit 16384 1073741824 (.l Jl) T:=a1.u;exact .some (⟨E,fk0⟩)
theorem J50{B S:Int}{x1:J7c}(h:Ty.fit B S tq7 x1)(o:BS B S 0 0:=by omega)(w:B<=9223372036854775807:=by omega):Tot (J1K x1) λy=>Ty.fit 0 0 (.i .i64) y/\(-1<=y/\y<J0 x1.1.2.1):=by
 unfold J1K;have:J0 x1.1.2.1<=B:=h.1.2.1.1;have:=J3 (l:=x1.1.2.1);have:J0 x1.1.2.1=_:=Jj h.1.2.1;refine Jb (τ:=Int) (λq=>(x1.2,q,x1.1)) (λq=>(Ty.fit 0 0 (.i .i64) q/\0<=q/\(q<=J0 x1.1.2.1\/q<=0))) (λq=>J0 x1.1.2.1-q) ?_ 0 rfl ?_
 ·rintro e ⟨g,x,v⟩;unfold J7S
  try dsimp only
  have:=J2.1 g;refine .lt (λk=>?_) λk=>?_
  ·refine .bind (Jh h.1.2.1) λr n=>.eq (λj=>?_) λj=>?_
   ·exact .some ⟨g,om⟩
   ·have:=Jg e 1;exact .some ⟨J1 .i64 e 1,rfl,⟨J5,om,om⟩,om,om⟩
  ·exact .some ⟨(fkn (-1)),om⟩
 ·try dsimp only
  exact⟨fk0,oo,oo⟩
theorem J4V{B S:Int}{x1:J7c}(h:Ty.fit B S tq7 x1)(o:BC B S 0 0:=by omega):Tot (J1p x1) λy=>Ty.fit 0 0 (.i .i64) y/\(-1<=y/\y<J0 x1.1.2.1):=by
 unfold J1p;refine .bind ((J3u h.1).eqn) λq h1=>.not (λg=>?_) λg=>?_
 ·have:J0 x1.1.2.1<=B:=h.1.2.1.1;have:=J3 (l:=x1.1.2.1);have:J0 x1.1.2.1=_:=Jj h.1.2.1;exact .some ⟨(fkn (-1)),om⟩
 ·have n:=J2F h.1 h1.2 g;have j:Ty.fit 64 12 JK x1.1:=n.2;refine .bind (J50 (B:=64) (S:=12) (⟨j,h.2⟩)) λk e=>?_;have: -1<=k/\k<J0 x1.1.2.1:=e.2;exact .some ⟨e.1,om⟩
theorem J8O{B S:Int}{x1:J7c}(h:Ty.fit B S tq7 x1)(k:BC B S 0 0:=by omega):Tot (J2W x1) λy=>Ty.fit 0 S (.pr Jt .b) y:=by
 unfold J2W;refine .bind ((J4V (B:=B) (S:=S) (x1:=(x1.1,x1.2)) (h)).eqn) λe h1=>?_;have:=J2.1 h1.1.1;have:J0 x1.1.2.1=_:=Jj h.1.2.1;have: -1<=e/\e<J0 x1.1.2.1:=h1.1.2;refine .lt (λj=>?_) λj=>?_
 ·exact .some (⟨⟨fk0,fk0,J0e oo oo (.ar 16 JC)⟩,trivial⟩)
 ·refine .bind (Jh h.1.2.1) λn g=>.some (⟨g.1.z.1,trivial⟩)
theorem J7r{B S:Int}{x1:J1R}(h:Ty.fit B S tq1 x1)(z:BG B S:=by omega):Tot (J3Y x1) λy=>Ty.fit 0 0 (.i .i64) y:=by
 unfold J3Y;refine .bind ((J1c h.1).eqn) λD h1=>.nof (λn=>?_) λn=>?_
 ·have v3:=J1m h.1 h1.2 n;have:J0 x1.1.2.2.2.2.2.2.1=_:=Jj h.1.h.1;have e:Ty.fit 4096 8192 J7 x1.1:=v3.2;have:=J2.1 h.2;refine .ltf (λw=>?_) λw=>?_
  ·refine .ge (λv=>?_) λv=>?_
   ·exact .some fk0
   ·refine .bind (J8O (B:=4096) (S:=8192) (⟨e.d.1,h.2⟩)) λx r=>?_;have j:Ty.fit 0 8192 (.pr Jt .b) x:=r.u;refine .ite (λg=>?_) λg=>?_
    ·exact .some j.1.2.1
    ·refine .bind (J92 (B:=4096) (S:=8192) (⟨e,h.2⟩)) λC k=>.ite (λq=>?_) λq=>?_
     ·exact .some k.1.c
     ·refine .bind (Jh e.h.1) λA o=>.some o.1.1
  ·exact .some fk0
 ·exact .some fk0
theorem J4F{B S:Int}{x1:Jw9}(h:Ty.fit B S JAf x1)(b1:BG B S:=by omega):Tot (J1h x1) λy=>Ty.fit 16384 1073741824 JrL y/\(y.2.2=0->J0 y.1.2.2.1.2.1=J0 x1.1.2.2.1.2.1+1/\J0 x1.1.2.2.1.2.1<=4095/\0<=x1.2.2.2.2.2.2.2.1.1/\x1.2.2.2.2.2.2.2.1.1<64/\0<=x1.2.2.2.2.2.2.2.1.2.1/\x1.2.2.2.2.2.2.2.1.2.1<16):=by
 unfold J1h;refine .bind ((J1c h.1).eqn) λy2 h1=>.not (λc2=>?_) λc2=>?_
 ·have:J0 x1.1.2.2.1.2.1<=B:=h.1.c.1.2.1.1;exact .some ⟨(⟨fzr,fk0,fkn 15⟩),om⟩
 ·have v8:=J1m h.1 h1.2 c2;have:=J3 (l:=x1.1.2.2.1.2.1);have:J0 x1.1.2.2.1.2.1=_:=Jj h.1.c.1.2.1;have j:Ty.fit 4096 8192 J7 x1.1:=v8.2;refine .gt (λao=>?_) λao=>?_
  ·refine .bind ((J2S (B:=4096) (S:=8192) (x1:=(x1.1.2.2.2.2.2.1,x1.2.2.2.1)) (⟨j.g.1,h.2.z.2.2.1⟩)).eqn) λy3 K=>?_;have:=J2.1 K.1.1;have:J0 x1.1.2.2.2.2.2.1=_:=Jj j.g.1;have: -1<=y3/\y3<J0 x1.1.2.2.2.2.2.1:=K.1.2;refine .lt (λap=>?_) λap=>?_
   ·have:=J2.1 h.2.z.2.2.2.2.2.2.1.1;exact .some ⟨(⟨fzr,fk0,fkn 16⟩),om⟩
   ·refine .bind (Jh j.g.1) λy4 w=>.bind (J1I (B:=0) (S:=S) (⟨h.2.z.1,h.2.z.2.1,h.2.z.2.2.1,w.1.c.1,fk0,h.2.z.2.2.2.2.2⟩)) λy5 b2=>.ite (λag=>?_) λag=>?_
    ·have ad:Ty.fit 16384 1073741824 tq1 (x1.1,x1.2.2.2.2.2.2.2.1.1):=⟨j.u,h.2.z.2.2.2.2.2.2.1.1⟩;refine .bind (J7r ad) λy6 aq=>?_;have a5:Ty.fit 16384 S JAs (x1.1.2.2.1,x1.2.1,x1.2.2.1,x1.2.2.2.1,y4.2.2.1,y6,x1.2.2.2.2.2.2):=⟨j.c.1.u,h.2.z.1,h.2.z.2.1,h.2.z.2.2.1,w.1.c.1,aq,h.2.z.2.2.2.2.2.u⟩;refine .bind (J8f a5) λZ q=>?_;have:J0 Z.1.2.1=_:=Jj q.1.1.2.1;have:=J2.1 h.2.z.2.2.2.2.2.2.1.1;have:=J2.1 h.2.z.2.2.2.2.2.2.1.2.1;have:Z.2.2=0->J0 Z.1.2.1=J0 x1.1.2.2.1.2.1+1/\J0 x1.1.2.2.1.2.1<=4095/\0<=x1.2.2.2.2.2.2.2.1.1/\x1.2.2.2.2.2.2.2.1.1<64/\0<=x1.2.2.2.2.2.2.2.1.2.1/\x1.2.2.2.2.2.2.2.1.2.1<16:=q.2;refine .ne (λa9=>?_) λa9=>?_
     ·exact .some ⟨(⟨fzr,fk0,q.1.c⟩),om⟩
     ·refine .bind (J3T (B:=4097) (S:=8192) (⟨q.1.1,q.1.2.1⟩)) λy8 L=>?_;have a8:Ty.fit 16384 1073741824 JvO (x1.1.2.2.2.2.2.1,y8.1):=⟨j.g.1.u,L.1.u⟩;refine .bind (J54 a8) λy9 N=>.ne (λan=>?_) λan=>?_
      ·exact .some ⟨(⟨fzr,fk0,N.2⟩),om⟩
      ·have ae:Ty.fit 16384 1073741824 JvV (x1.1.2.2.2.2.2.2.1,y8.1):=⟨j.h.1.u,L.1.u⟩;refine .bind (J4O ae) λb0 G=>.ne (λak=>?_) λak=>?_
       ·exact .some ⟨(⟨fzr,fk0,G.2⟩),om⟩
       ·exact .some ⟨(⟨⟨j.1,j.2.1,q.1.1.u,j.d.1.u,j.e.1.u,N.1,G.1.u,j.i.u⟩,q.1.2.1,fk0⟩),om⟩
    ·have a6:Ty.fit 16384 S JAs (x1.1.2.2.1,x1.2.1,x1.2.2.1,x1.2.2.2.1,y4.2.2.1,0,x1.2.2.2.2.2.2):=⟨j.c.1.u,h.2.z.1,h.2.z.2.1,h.2.z.2.2.1,w.1.c.1,fk0,h.2.z.2.2.2.2.2.u⟩;refine .bind (J8f a6) λr n=>?_;have:J0 r.1.2.1=_:=Jj n.1.1.2.1;have:=J2.1 h.2.z.2.2.2.2.2.2.1.1;have:=J2.1 h.2.z.2.2.2.2.2.2.1.2.1;have:r.2.2=0->J0 r.1.2.1=J0 x1.1.2.2.1.2.1+1/\J0 x1.1.2.2.1.2.1<=4095/\0<=x1.2.2.2.2.2.2.2.1.1/\x1.2.2.2.2.2.2.2.1.1<64/\0<=x1.2.2.2.2.2.2.2.1.2.1/\x1.2.2.2.2.2.2.2.1.2.1<16:=n.2;refine .ne (λa7=>?_) λa7=>?_
     ·exact .some ⟨(⟨fzr,fk0,n.1.c⟩),om⟩
     ·refine .bind (J3T (B:=4097) (S:=8192) (⟨n.1.1,n.1.2.1⟩)) λF I=>?_;have av:Ty.fit 16384 1073741824 JvO (x1.1.2.2.2.2.2.1,F.1):=⟨j.g.1.u,I.1.u⟩;refine .bind (J54 av) λb8 P=>.ne (λah=>?_) λah=>?_
      ·exact .some ⟨(⟨fzr,fk0,P.2⟩),om⟩
      ·have ac:Ty.fit 16384 1073741824 JvV (x1.1.2.2.2.2.2.2.1,F.1):=⟨j.h.1.u,I.1.u⟩;refine .bind (J4O ac) λb4 M=>.ne (λab=>?_) λab=>?_
       ·exact .some ⟨(⟨fzr,fk0,M.2⟩),om⟩
       ·exact .some ⟨(⟨⟨j.1,j.2.1,n.1.1.u,j.d.1.u,j.e.1.u,P.1,M.1.u,j.i.u⟩,n.1.2.1,fk0⟩),om⟩
  ·refine .bind (J1I (B:=0) (S:=S) (⟨h.2.z.1,h.2.z.2.1,h.2.z.2.2.1,fk0,fk0,h.2.z.2.2.2.2.2⟩)) λb6 b5=>.ite (λai=>?_) λai=>?_
   ·have aj:Ty.fit 16384 1073741824 tq1 (x1.1,x1.2.2.2.2.2.2.2.1.1):=⟨j.u,h.2.z.2.2.2.2.2.2.1.1⟩;refine .bind (J7r aj) λaw am=>?_;have au:Ty.fit 16384 S JAs (x1.1.2.2.1,x1.2.1,x1.2.2.1,x1.2.2.2.1,0,aw,x1.2.2.2.2.2.2):=⟨j.c.1.u,h.2.z.1,h.2.z.2.1,h.2.z.2.2.1,fk0,am,h.2.z.2.2.2.2.2.u⟩;refine .bind (J8f au) λA o=>?_;have:J0 A.1.2.1=_:=Jj o.1.1.2.1;have:=J2.1 h.2.z.2.2.2.2.2.2.1.1;have:=J2.1 h.2.z.2.2.2.2.2.2.1.2.1;have:A.2.2=0->J0 A.1.2.1=J0 x1.1.2.2.1.2.1+1/\J0 x1.1.2.2.1.2.1<=4095/\0<=x1.2.2.2.2.2.2.2.1.1/\x1.2.2.2.2.2.2.2.1.1<64/\0<=x1.2.2.2.2.2.2.2.1.2.1/\x1.2.2.2.2.2.2.2.1.2.1<16:=o.2;refine .ne (λaa=>?_) λaa=>?_
    ·exact .some ⟨(⟨fzr,fk0,o.1.c⟩),om⟩
    ·refine .bind (J3T (B:=4097) (S:=8192) (⟨o.1.1,o.1.2.1⟩)) λH E=>?_;have af:Ty.fit 16384 1073741824 JvO (x1.1.2.2.2.2.2.1,H.1):=⟨j.g.1.u,E.1.u⟩;refine .bind (J54 af) λb7 O=>.ne (λal=>?_) λal=>?_
     ·exact .some ⟨(⟨fzr,fk0,O.2⟩),om⟩
     ·have U:Ty.fit 16384 1073741824 JvV (x1.1.2.2.2.2.2.2.1,H.1):=⟨j.h.1.u,E.1.u⟩;refine .bind (J4O U) λba Q=>.ne (λR=>?_) λR=>?_
      ·exact .some ⟨(⟨fzr,fk0,Q.2⟩),om⟩
      ·exact .some ⟨(⟨⟨j.1,j.2.1,o.1.1.u,j.d.1.u,j.e.1.u,O.1,Q.1.u,j.i.u⟩,o.1.2.1,fk0⟩),om⟩
   ·have a1:Ty.fit 16384 S JAs (x1.1.2.2.1,x1.2.1,x1.2.2.1,x1.2.2.2.1,0,0,x1.2.2.2.2.2.2):=⟨j.c.1.u,h.2.z.1,h.2.z.2.1,h.2.z.2.2.1,fk0,fk0,h.2.z.2.2.2.2.2.u⟩;refine .bind (J8f a1) λC k=>?_;have:J0 C.1.2.1=_:=Jj k.1.1.2.1;have:=J2.1 h.2.z.2.2.2.2.2.2.1.1;have:=J2.1 h.2.z.2.2.2.2.2.2.1.2.1;have:C.2.2=0->J0 C.1.2.1=J0 x1.1.2.2.1.2.1+1/\J0 x1.1.2.2.1.2.1<=4095/\0<=x1.2.2.2.2.2.2.2.1.1/\x1.2.2.2.2.2.2.2.1.1<64/\0<=x1.2.2.2.2.2.2.2.1.2.1/\x1.2.2.2.2.2.2.2.1.2.1<16:=k.2;refine .ne (λV=>?_) λV=>?_
    ·exact .some ⟨(⟨fzr,fk0,k.1.c⟩),om⟩
    ·refine .bind (J3T (B:=4097) (S:=8192) (⟨k.1.1,k.1.2.1⟩)) λJ D=>?_;have W:Ty.fit 16384 1073741824 JvO (x1.1.2.2.2.2.2.1,J.1):=⟨j.g.1.u,D.1.u⟩;refine .bind (J54 W) λb9 x=>.ne (λa0=>?_) λa0=>?_
     ·exact .some ⟨(⟨fzr,fk0,x.2⟩),om⟩
     ·have Y:Ty.fit 16384 1073741824 JvV (x1.1.2.2.2.2.2.2.1,J.1):=⟨j.h.1.u,D.1.u⟩;refine .bind (J4O Y) λb3 v=>.ne (λT=>?_) λT=>?_
      ·exact .some ⟨(⟨fzr,fk0,v.2⟩),om⟩
      ·exact .some ⟨(⟨⟨j.1,j.2.1,k.1.1.u,j.d.1.u,j.e.1.u,x.1,v.1.u,j.i.u⟩,k.1.2.1,fk0⟩),om⟩
section
variable {B S:Int}
theorem JIt{l:List Ju}{i:Int}{x y:Ju}(hi:idx l i=some y)(hx:x.1=y.1)(id:Int):J0P (J0w l i.toNat x,id)=J0P (l,id):=by
 have e: ∀z:JvN,z.1=l-> ∀n r,J26 J1Y n z=some r↔J26 J1Y n (J0w l i.toNat x,z.2)=some r:=by
  intro z hz n
  induction n generalizing z with
  |zero=>intro r;simp[J26]
  |succ n ih=>
   intro r;obtain⟨g,id,k⟩:=z;dsimp only at hz;subst hz;obtain⟨C,j⟩:=J40 hi;have B:i.toNat<g.length:=(J5f.1 j).1;have step:J1Y (J0w g i.toNat x,id,k)=(match J1Y (g,id,k)with|none=>none|some (.inl z)=>some (.inl (J0w g i.toNat x,z.2))|some (.inr y)=>some (.inr y))/\(∀z,J1Y (g,id,k)=some (.inl z)->z.1=g):=by
    unfold J1Y;dsimp only;rw[show J0 (J0w g i.toNat x)=J0 g from J5X];by_cases hk:ltI k (J0 g)=true
    ·rw[if_pos hk,if_pos hk];have e1:(idx (J0w g i.toNat x) k).bind (λv=>if eqI v.1 id=true then(some (.inr k):Option ((JvN)⊕Int))else some (.inl (J0w g i.toNat x,id,J1 .i64 k 1)))=(idx g k).bind (λv=>if eqI v.1 id=true then some (.inr k)else some (.inl (J0w g i.toNat x,id,J1 .i64 k 1))):=by
      unfold idx J0w;by_cases h:0<=k
      ·rw[if_pos h,if_pos h,List.getElem?_set];by_cases A:i.toNat=k.toNat
       ·rw[if_pos A,if_pos oo,<-A,j];show(if eqI x.1 id=true then _ else _)=(if eqI y.1 id=true then _ else _);rw[hx]
       ·rw[if_neg A]
      ·rw[if_neg h,if_neg h]
     rw[e1];cases hidx:idx g k with
     |none=>exact⟨rfl,λz h=>by cases h⟩
     |some w=>
      show((if eqI w.1 id=true then _ else _)=_)/\_;by_cases hw:eqI w.1 id=true
      ·refine⟨by rw[if_pos hw,JJ,if_pos hw],λz h=>?_⟩;rw[JJ,if_pos hw]at h;injection h with h;cases h
      ·refine⟨by rw[if_neg hw,JJ,if_neg hw],λz h=>?_⟩;rw[JJ,if_neg hw]at h;injection h with h;injection h with h;subst h;rfl
    ·rw[if_neg hk,if_neg hk];exact⟨rfl,λz h=>by cases h⟩
   show J26 J1Y (n+1) (g,id,k)=some r↔J26 J1Y (n+1) (J0w g i.toNat x,id,k)=some r;simp only[J26];rw[step.1];cases hL:J1Y (g,id,k)with
   |none=>exact Iff.rfl
   |some o=>
    cases o with
    |inl z=>exact ih z (step.2 z hL) r
    |inr y=>exact Iff.rfl
 have q: ∀r,J1q (J0w l i.toNat x,id)=some r↔J1q (l,id)=some r:=by intro r;unfold J1q;rw[J2r,J2r];exact⟨fun⟨n,h⟩=>⟨n,(e (l,id,0) rfl n r).2 h⟩,fun⟨n,h⟩=>⟨n,(e (l,id,0) rfl n r).1 h⟩⟩
 have e2:J1q (J0w l i.toNat x,id)=J1q (l,id):=by
  cases h:J1q (l,id)with
  |some r=>exact(q r).2 h
  |none=>
   cases h2:J1q (J0w l i.toNat x,id)with
   |none=>rfl
   |some r=>rw[(q r).1 h2]at h;cases h
 unfold J0P
 try dsimp only
 rw[e2]
theorem Jv0{x y:Ju}(e:J2n x=some y):y.1=x.1:=by
 have g:Par (J2n x) λy=>y.1=x.1:=by unfold J2n;exact .eq (λ_=>.eqf (λ_=>.bind λ_ _=>.le (λ_=>.some rfl) λ_=>.some rfl) λ_=>.some rfl) λ_=>.some rfl
 exact g _ e
theorem JE9{l r:List Ju}{i:Int}{x:Ju}(e:J2T (l,i,x)=some r):r=J0w l i.toNat x:=by
 have g:Par (J2T (l,i,x)) λr=>r=J0w l i.toNat x:=by
  unfold J2T;refine .bind λa ha=>.bind λ_ _=>.bind λ_ _=>.some ?_;dsimp only at ha;unfold J1g at ha;split at ha
  ·injection ha with ha;subst ha;rfl
  ·cases ha
 exact g _ e
theorem JDO{l:List Ju}{x:T_api_Entry}{y:J2t}(e:J0G (l,x)=some y)(h4:x.2.1=4)(j: ¬x.2.2.1=0)(c:y.2=0):Has y.1 x.2.2.1:=by
 have h:Par (J0G (l,x)) λy=>y.2=0->Has y.1 x.2.2.1:=by
  unfold J0G;dsimp only;refine .bind λ_ _=>.not (λ_=>.some nofun) λ_=>.bind λ_ _=>.not (λ_=>.some nofun) λ_=>.eq (λc=>absurd c j) λ_=>.bind λi hi=>.lt (λ_=>.some nofun) λk=>.bind λt g=>.ne (λ_=>.some nofun) λ_=>.eq (λc=>by omega) λ_=>.eq (λc=>by omega) λ_=>.eq (λ_=>.bind λs hs=>.bind λr hr=>.some λ_=>?_) λc=>absurd h4 c;rw[JE9 hr];have hf:J0P (l,x.2.2.1)=some i:=by unfold J0P;rw[show J1q ((l,x.2.2.1).1,(l,x.2.2.1).2)=some i from hi];rfl
  exact⟨i,(JIt g (Jv0 (x:=(t.1,3,x.1,0,t.2.2.2.2.1,[])) hs) _).trans hf,oo⟩
 exact h _ e c
theorem JgS{l:J07}(e:J0i l=some true):1<=l.1/\l.1<=1099511627776/\J0 l.2.1<=4096:=by
 have g:Par (J0i l) λy=>y=true->1<=l.1/\l.1<=1099511627776/\J0 l.2.1<=4096:=by unfold J0i;exact .ltf (λ_=>.gtf (λ_=>.gtf (λ_=>λ_ _ _=>by omega) λ_=>.some nofun) λ_=>.some nofun) λ_=>.some nofun
 exact g _ e rfl
theorem Jbr{l:J07}{x:T_api_Entry}{y:Jt0}(e:J1k (l,x)=some y)(c:y.2.2=0):J0i l=some true/\J0 l.2.1<=4095/\y=((l.1,l.2.1++[(l.1+J0 l.2.1,x.2)],l.2.2),l.1+J0 l.2.1,0)/\J02 (l.1+J0 l.2.1,x.2)=some true:=by
 have j:Par (J1k (l,x)) λy=>y.2.2=0->J0i l=some true/\J0 l.2.1<=4095/\y=((l.1,l.2.1++[(l.1+J0 l.2.1,x.2)],l.2.2),l.1+J0 l.2.1,0)/\J02 (l.1+J0 l.2.1,x.2)=some true:=by
  unfold J1k;dsimp only;refine .bind λa ha=>.not (λ_=>.some nofun) λw=>.eqf (λD=>.bind λC h3=>.eq (λ_=>.some nofun) λ_=>.bind λk h4=>.bind λb hb=>.not (λ_=>.some nofun) λA=>.bind λz h=>.bind λn g=>.some λ_=>?_) λ_=>.some nofun;subst w;subst A;have q:=JgS ha;have:=J3 (l:=l.2.1);have:=Jg l.1 (J0 l.2.1);have:=J0H (J1 .i64 l.1 (J0 l.2.1)) 1;have:=Jg (JG .i64 (J1 .i64 l.1 (J0 l.2.1)) 1) 1;have B:k=JG .i64 (J1 .i64 l.1 (J0 l.2.1)) 1:=by unfold J2m at h4;injection h4 with h4;exact h4.symm
  have o:J1 .i64 k 1=l.1+J0 l.2.1:=by rw[B];omega
  rw[o]at hb g⊢;have v:z=l.2.1:=by
   unfold J1g at h;split at h
   ·injection h with h;exact h.symm
   ·cases h
  subst v;have r:n=l.2.1++[(l.1+J0 l.2.1,x.2)]:=by
   unfold Jy at g;split at g
   ·injection g with g;exact g.symm
   ·cases g
  subst r;exact⟨ha,oo,rfl,hb⟩
 exact j _ e c
theorem JpZ{l:J07}{n:Int}{y:JjS}(e:J0M (l,n)=some y):(y.2=0/\J0i l=some true/\l.1<=n/\n<l.1+J0 l.2.1/\l.2.1[(n-l.1).toNat]?=some y.1)\/(y.1.1=0/\ ¬y.2=0):=by
 have g:Par (J0M (l,n)) λy=>(y.2=0/\J0i l=some true/\l.1<=n/\n<l.1+J0 l.2.1/\l.2.1[(n-l.1).toNat]?=some y.1)\/(y.1.1=0/\ ¬y.2=0):=by
  unfold J0M;dsimp only;refine .bind λa ha=>.not (λ_=>.some (.inr ⟨rfl,by decide⟩)) λo=>.ltf (λv=>.bind λk h3=>.gt (λ_=>.some (.inr ⟨rfl,by decide⟩)) λw=>.bind λz hz=>.some ?_) λ_=>.some (.inr ⟨rfl,by decide⟩);subst o;have q:=JgS ha;have:=J3 (l:=l.2.1);have:=Jg l.1 (J0 l.2.1);have:=J0H (J1 .i64 l.1 (J0 l.2.1)) 1;have:=J0H n l.1;have x:k=JG .i64 (J1 .i64 l.1 (J0 l.2.1)) 1:=by unfold J2m at h3;injection h3 with h3;exact h3.symm
  obtain⟨r,h⟩:=J40 hz;have j:JG .i64 n l.1=n-l.1:=by omega
  rw[j]at h;exact .inl ⟨rfl,ha,oo,oo,h⟩
 exact g _ e
theorem JkH{x:T_api_Entry}(e:J02 x=some true):1<=x.1/\(x.2.1=4->1<=x.2.2.1):=by
 have k1:Par (J2H x) λy=>y.2=true->x.2.1=4->1<=x.2.2.1:=by unfold J2H;refine .eq (λc _ _ _ _=>by omega) λ_=>.eq (λc _ _ _ _=>by omega) λ_=>.eq (λc _ _ _ _=>by omega) λ_=>.eq (λ_=>.ge (λc _ _ _ _=>c) λ_=>.some nofun) λc _ _ _ d=>absurd d c
 have g:Par (J02 x) λy=>y=true->1<=x.1/\(x.2.1=4->1<=x.2.2.1):=by unfold J02;exact .bind λa ha=>.ite (λj=>.ite (λ_=>.ge (λh _ _ _=>⟨h,k1 _ ha j⟩) λ_=>.some nofun) λ_=>.some nofun) λ_=>.some nofun
 exact g _ e rfl
theorem Jsy{l:List Ju}{x:T_api_Entry}{y:J2t}(e:J0G (l,x)=some y)(c:y.2=0):J02 x=some true:=by
 have g:Par (J0G (l,x)) λy=>y.2=0->J02 x=some true:=by unfold J0G;dsimp only;refine .bind λ_ _=>.not (λ_=>.some nofun) λ_=>.bind λa ha=>.not (λ_=>.some nofun) λc=>?_;subst c;exact λ_ _ _=>ha
 exact g _ e c
theorem JGh{l:J07}{x:T_api_Entry}{e:Jt0}{h:JjS}{k:List Ju}{j:J2t}(w:J1k (l,x)=some e)(r:e.2.2=0)(q:J0M (e.1,e.2.1)=some h)(o:J0G (k,h.1)=some j)(n:j.2=0):h.1=(l.1+J0 l.2.1,x.2):=by
 obtain⟨a1,a2,a3,a4⟩:=Jbr w r;subst a3;have v:=JkH (Jsy o n);rcases JpZ q with⟨_,_,_,_,g⟩|⟨g,_⟩
 ·dsimp only at g;rw[show(l.1+J0 l.2.1-l.1).toNat=l.2.1.length by unfold J0;omega,J6Y (zQ0 _)]at g;simp at g;exact g.symm
 ·omega
theorem JpU{x:Jw9}{y:Jdl}(h:Ty.fit B S JAf x)(e:J1h x=some y)(c:y.2.2=0)(h4:x.2.2.1=4:=by rfl):Has y.1.2.2.2.2.2.1 x.2.2.2.1:=by
 have I:Par (J1h x) λy=>y.2.2=0->Has y.1.2.2.2.2.2.1 x.2.2.2.1:=by
  obtain⟨k,n,L,H,Q,O,r⟩:=x;dsimp only at h4;subst h4;unfold J1h;dsimp only;have E: ∀{a b:Int} {g:Jt0} {C:JjS} {o:J2t},J1k (k.2.2.1,(n,4,H,a,b,r))=some g->g.2.2=0->J0M (g.1,g.2.1)=some C->J0G (k.2.2.2.2.2.1,C.1)=some o->o.2=0->Has o.1 H:=fun{a b g C o} A z F D q=>by have G:=JGh A z F D q;have v:=JkH (Jbr A z).2.2.2;have v2:=v.2 rfl;have w:=JDO D (by rw[G]) (by rw[G];show¬H=0;dsimp only at v2;omega) q;rw[G]at w;exact w
  refine .bind λ_ _=>.not (λ_=>.some nofun) λ_=>.gt (λ_=>.bind λj hj=>.lt (λ_=>.some nofun) λ_=>.bind λt P=>.bind λJ _=>.ite (λ_=>.bind λK _=>?_) λ_=>?_) λ_=>.bind λJ _=>.ite (λ_=>.bind λK _=>?_) λ_=>?_
  all_goals
   refine .bind λg A=>.ne (λc=>.some λd=>absurd d c) λz=>.bind λC F=>.bind λo D=>.ne (λc=>.some λd=>absurd d c) λq=>.bind λM _=>.ne (λc=>.some λd=>absurd d c) λN=>.some λ_=>E A z F D q
 exact I _ e c
end
theorem JV{B S:Int}{x1:J0C}(h:Ty.fit B S JA x1)(F:BS B S 0 0:=by omega)(H:S<=4611686018427387895:=by omega):Tot (JP x1) λy=>Ty.fit 0 (S+8) .s y/\(J0 y<=J0 x1.1+8/\(1<=x1.2.2->x1.2.2<=8->J0 y=J0 x1.1+x1.2.2)):=by
 unfold JP;have s0:Ty.fit 0 S JA x1:=h;have:=J2.1 s0.2.2;refine .ltf (λx=>?_) λx=>?_
 ·refine .gt (λz=>?_) λz=>?_
  ·have:J0 x1.1<=S:=s0.1;exact .some ⟨(s0.1.u),om⟩
  ·refine Jb (τ:=J3S) (λq=>(q.1,x1.2.1,x1.2.2,q.2)) (λq=>Ty.fit 0 (S+8) .s q.1/\Ty.fit 0 0 (.i .i64) q.2/\(0<=q.2)/\(q.2<=x1.2.2)/\(J0 q.1=J0 x1.1+q.2)) (λq=>x1.2.2-q.2) ?_ (x1.1,0) rfl ?_
   ·rintro⟨n,e⟩ j;dsimp only at j;obtain⟨r,w,G,z9,C⟩:=j;unfold Jki
    try dsimp only
    have:=J2.1 w;have:J0 n<=(S+8):=r;have:J0 x1.1<=S:=s0.1;have:=J3 (l:=x1.1);refine .lt (λv=>?_) λv=>?_
    ·have:=cvu .u64 (J3f .i64 8 e);refine .bind (JC9 (B:=0) (S:=0) (Jex) oo) λk D=>?_;have:J0 (toStr [cvI .u8 k])=J0 [cvI .u8 k]:=J7L;have:J0 [cvI .u8 k]=1:=rfl;refine .bind (J6r) λg A=>?_;have E:Ty.fit 0 (S+9) .s g:=(by omega:J0 g<=(S+9));have o:Ty.fit 0 (S+8) .s g:=(by omega:J0 g<=(S+8));have:=Jg e 1;exact .some ⟨(g,J1 .i64 e 1),rfl,⟨o,J5,om,om,om⟩,om,om⟩
    ·exact .some ⟨r,om⟩
   ·have:J0 x1.1<=S:=s0.1
    try dsimp only
    exact⟨s0.1.u,fk0,om,om,om⟩
 ·have:J0 x1.1<=S:=s0.1;exact .some ⟨(s0.1.u),om⟩
theorem Jux{B S:Int}{x1:List T_api_Row}(h:Ty.fit B S (.l Jc) x1)(U:BC B S 0 0:=by omega):Tot (J8g x1) λy=>Ty.fit 0 1544 Jc9 y:=by
 unfold J8g;refine .bind ((J5k h).eqn) λZ h1=>.not (λI=>?_) λI=>?_
 ·exact .some (⟨Jd,fkn 28⟩)
 ·have v3:=J4m h h1.2 I;have:J0 x1=_:=Jj h;have v:Ty.fit 64 0 (.l Jc) x1:=v3.2;refine .bind (JV (B:=0) (S:=0) (⟨Jd,J42 v.1 oo,fkn 2⟩)) λn P=>?_;have z:Ty.fit 0 8 .s n:=P.1.u;have:J0 n<=8:=z;have:=J3 (l:=n);refine Jb (τ:=J3S) (λq=>(q.1,q.2,x1)) (λq=>(Ty.fit 0 0 (.i .i64) q.2/\0<=q.2/\(q.2<=J0 x1\/q.2<=0))/\(Ty.fit 0 1544 .s q.1/\J0 q.1<=24*q.2+J0 n)) (λq=>J0 x1-q.2) ?_ (n,0) rfl ?_
  ·rintro⟨k,r⟩ x;dsimp only at x;obtain⟨⟨E,T,R⟩,o,Q⟩:=x;unfold Jdv
   try dsimp only
   have:=J2.1 E;refine .lt (λK=>?_) λK=>?_
   ·refine .bind (Jh v) λW H=>.bind (JV (B:=0) (S:=1544) (⟨o,H.1.1,fkn 8⟩)) λj w=>?_;have O:Ty.fit 0 1552 .s j:=w.1.u;have:J0 j<=1552:=O;have:=J3 (l:=j);have:J0 k<=1544:=o;have:=J3 (l:=k);have:J0 j<=J0 k+8/\(1<=(8:Int)->(8:Int)<=8->J0 j=J0 k+(8:Int)):=w.2;have J:Ty.fit 0 1544 .s j:=(by omega:J0 j<=1544);refine .bind (Jh v) λV G=>.bind (JV (B:=0) (S:=1544) (⟨J,G.1.2.1,fkn 8⟩)) λg A=>?_;have F:Ty.fit 0 1552 .s g:=A.1.u;have:J0 g<=1552:=F;have:=J3 (l:=g);have:J0 g<=J0 j+8/\(1<=(8:Int)->(8:Int)<=8->J0 g=J0 j+(8:Int)):=A.2;have D:Ty.fit 0 1544 .s g:=(by omega:J0 g<=1544);refine .bind (Jh v) λY N=>.bind (JV (B:=0) (S:=1544) (⟨D,N.1.c,fkn 8⟩)) λe C=>?_;have L:Ty.fit 0 1552 .s e:=C.1.u;have:J0 e<=1552:=L;have:=J3 (l:=e);have:J0 e<=J0 g+8/\(1<=(8:Int)->(8:Int)<=8->J0 e=J0 g+(8:Int)):=C.2;have M:Ty.fit 0 1544 .s e:=(by omega:J0 e<=1544);have:=Jg r 1;exact .some ⟨(e,J1 .i64 r 1),rfl,⟨⟨J5,om,om⟩,M,om⟩,om,om⟩
   ·exact .some (⟨o,fk0⟩)
  ·try dsimp only
   exact⟨⟨fk0,oo,oo⟩,z.u,oo⟩
theorem Jgd{B S:Int}{x1:(List UInt8)×(List Int)}(h:Ty.fit B S (.pr .s (.l (.i .i64))) x1)(C:BS B S 0 0:=by omega)(H:B<=288230376151711743:=by omega)(G:S<=2305843009213693947:=by omega):Tot (J5E x1) λy=>Ty.fit 0 (8*B+S) .s y/\(J0 y<=J0 x1.1+8*J0 x1.2):=by
 unfold J5E;have:J0 x1.2<=B:=h.2.1;have:=J3 (l:=x1.2);have:J0 x1.1<=S:=h.1.z;refine Jb (τ:=J3S) (λq=>(q.1,x1.2,q.2)) (λq=>(Ty.fit 0 0 (.i .i64) q.2/\0<=q.2/\(q.2<=J0 x1.2\/q.2<=0))/\(Ty.fit 0 (8*B+S) .s q.1/\J0 q.1<=8*q.2+J0 x1.1)) (λq=>J0 x1.2-q.2) ?_ (x1.1,0) rfl ?_
 ·rintro⟨g,j⟩ n;dsimp only at n;obtain⟨⟨A,E,D⟩,o,I⟩:=n;unfold Jcm
  try dsimp only
  have:=J2.1 A;refine .lt (λx=>?_) λx=>?_
  ·refine .bind (Jh h.2) λF v=>.bind (JV (B:=0) (S:=(8*B+S)) (⟨o,v.1,fkn 8⟩)) λe k=>?_;have r:Ty.fit 0 (8*B+S+8) .s e:=k.1.u;have:J0 e<=(8*B+S+8):=r;have:J0 e<=J0 g+8/\(1<=(8:Int)->(8:Int)<=8->J0 e=J0 g+(8:Int)):=k.2;have w:Ty.fit 0 (8*B+S) .s e:=(by omega:J0 e<=(8*B+S));have:=Jg j 1;exact .some ⟨(e,J1 .i64 j 1),rfl,⟨⟨J5,om,om⟩,w,om⟩,om,om⟩
  ·have:J0 g<=(8*B+S):=o;exact .some ⟨o,om⟩
 ·try dsimp only
  exact⟨⟨fk0,oo,oo⟩,h.1.z.u,oo⟩
theorem JuF{B S:Int}{x1:List Ju}(h:Ty.fit B S (.l Jl) x1)(ag:BC B S 0 0:=by omega):Tot (J7V x1) λy=>Ty.fit 0 268632072 Jc9 y:=by
 unfold J7V;refine .bind ((J3v h).eqn) λy2 h1=>.not (λY=>?_) λY=>?_
 ·exact .some (⟨Jd,fkn 15⟩)
 ·have v3:=J2C h h1.2 Y;have:=J3 (l:=x1);have:J0 x1=_:=Jj h;have h8:Ty.fit 4096 0 (.l Jl) x1:=v3.2;refine .bind (JV (B:=0) (S:=0) (⟨Jd,J42 h8.1 oo,fkn 2⟩)) λD h9=>?_;have J:Ty.fit 0 8 .s D:=h9.1.u;have:J0 D<=8:=J;have:=J3 (l:=D);refine Jb (τ:=J3S) (λq=>(x1,q.1,q.2)) (λq=>(Ty.fit 0 0 (.i .i64) q.2/\0<=q.2/\(q.2<=J0 x1\/q.2<=0))/\(Ty.fit 0 268632072 .s q.1/\J0 q.1<=65584*q.2+J0 D)) (λq=>J0 x1-q.2) ?_ (D,0) rfl ?_
  ·rintro⟨A,E⟩ M;dsimp only at M;obtain⟨⟨T,af,ae⟩,F,ad⟩:=M;unfold Je5
   try dsimp only
   have:=J2.1 T;refine .lt (λa2=>?_) λa2=>?_
   ·refine .bind (Jh h8) λC j=>.bind (JV (B:=0) (S:=268632072) (⟨F,j.1.1,fkn 4⟩)) λx H=>?_;have ab:Ty.fit 0 268632080 .s x:=H.1.u;have:J0 x<=268632080:=ab;have:=J3 (l:=x);have:J0 A<=268632072:=F;have:=J3 (l:=A);have:J0 x<=J0 A+8/\(1<=(4:Int)->(4:Int)<=8->J0 x=J0 A+(4:Int)):=H.2;have Z:Ty.fit 0 268632072 .s x:=(by omega:J0 x<=268632072);refine .bind (JV (B:=0) (S:=268632072) (⟨Z,j.1.2.1,fkn 1⟩)) λv K=>?_;have a7:Ty.fit 0 268632080 .s v:=K.1.u;have:J0 v<=268632080:=a7;have:=J3 (l:=v);have:J0 v<=J0 x+8/\(1<=(1:Int)->(1:Int)<=8->J0 v=J0 x+(1:Int)):=K.2;have Q:Ty.fit 0 268632072 .s v:=(by omega:J0 v<=268632072);refine .bind (JV (B:=0) (S:=268632072) (⟨Q,j.1.c.1,fkn 8⟩)) λw G=>?_;have a8:Ty.fit 0 268632080 .s w:=G.1.u;have:J0 w<=268632080:=a8;have:=J3 (l:=w);have:J0 w<=J0 v+8/\(1<=(8:Int)->(8:Int)<=8->J0 w=J0 v+(8:Int)):=G.2;have a6:Ty.fit 0 268632072 .s w:=(by omega:J0 w<=268632072);refine .bind (JV (B:=0) (S:=268632072) (⟨a6,j.1.d.1,fkn 8⟩)) λz L=>?_;have a4:Ty.fit 0 268632080 .s z:=L.1.u;have:J0 z<=268632080:=a4;have:=J3 (l:=z);have:J0 z<=J0 w+8/\(1<=(8:Int)->(8:Int)<=8->J0 z=J0 w+(8:Int)):=L.2;have a5:Ty.fit 0 268632072 .s z:=(by omega:J0 z<=268632072);refine .bind (JV (B:=0) (S:=268632072) (⟨a5,J42 j.1.e.1.1 oo,fkn 2⟩)) λk I=>?_;have a9:Ty.fit 0 268632080 .s k:=I.1.u;have:J0 k<=268632080:=a9;have:=J3 (l:=k);have:J0 k<=J0 z+8/\(1<=(2:Int)->(2:Int)<=8->J0 k=J0 z+(2:Int)):=I.2;have a3:Ty.fit 0 268632072 .s k:=(by omega:J0 k<=268632072);refine .bind (Jgd (B:=4096) (S:=268632072) (⟨a3.u,j.1.e.1.u⟩)) λo P=>?_;have a0:Ty.fit 0 268664840 .s o:=P.1.u;have:J0 o<=268664840:=a0;have:=J3 (l:=o);have:J0 C.2.2.2.2.1<=4096:=j.1.e.1.1;have:=J3 (l:=C.2.2.2.2.1);have:J0 o<=J0 k+8*J0 C.2.2.2.2.1:=P.2;have U:Ty.fit 0 268632072 .s o:=(by omega:J0 o<=268632072);refine .bind (JV (B:=0) (S:=268632072) (⟨U,J42 j.1.g.1 oo,fkn 1⟩)) λn O=>?_;have W:Ty.fit 0 268632080 .s n:=O.1.u;have:J0 n<=268632080:=W;have:=J3 (l:=n);have:J0 n<=J0 o+8/\(1<=(1:Int)->(1:Int)<=8->J0 n=J0 o+(1:Int)):=O.2;have V:Ty.fit 0 268632072 .s n:=(by omega:J0 n<=268632072);refine .bind (Jgd (B:=4096) (S:=268632072) (⟨V.u,j.1.g.u⟩)) λr N=>?_;have aa:Ty.fit 0 268664840 .s r:=N.1.u;have:J0 r<=268664840:=aa;have:=J3 (l:=r);have:J0 C.2.2.2.2.2<=4096:=j.1.g.1;have:=J3 (l:=C.2.2.2.2.2);have:J0 r<=J0 n+8*J0 C.2.2.2.2.2:=N.2;have R:Ty.fit 0 268632072 .s r:=(by omega:J0 r<=268632072);have:=Jg E 1;exact .some ⟨(r,J1 .i64 E 1),rfl,⟨⟨J5,om,om⟩,R,om⟩,om,om⟩
   ·exact .some (⟨F,fk0⟩)
  ·try dsimp only
   exact⟨⟨fk0,oo,oo⟩,J.u,oo⟩
end Go.Am
end
section
namespace Go.Am
set_option linter.unusedVariables false
set_option maxRecDepth 20000
set_option maxHeartbeats 4000000
theorem Jmi{B S:Int}{x1:J14}(h:Ty.fit B S J15 x1)(L:BG B S:=by omega):Tot (J6H x1) λy=>Ty.fit 0 0 .b y:=by
 unfold J6H;refine .ltf (λC=>?_) λC=>?_
 ·refine .gtf (λD=>?_) λD=>?_
  ·have:=J2.1 h.2.1;refine .ltf (λF=>?_) λF=>?_
   ·refine .gtf (λE=>?_) λE=>?_
    ·refine .bind ((J3v h.c.1).eqn) λP A=>.nof (λr=>?_) λr=>?_
     ·have v9:=J2C h.c.1 A.2 r;have:=J3 (l:=x1.2.2.1);have:J0 x1.2.2.1=_:=Jj h.c.1;have n:Ty.fit 4096 0 (.l Jl) x1.2.2.1:=v9.2;refine .bind (Jc0 (B:=B) (S:=S) (⟨h.d.1,h.1⟩)) λM H=>.nof (λz=>?_) λz=>?_
      ·refine .bind ((J5k h.e).eqn) λO w=>.nof (λj=>?_) λj=>?_
       ·have I:=J4m h.e w.2 j;refine .ne (λo=>?_) λo=>?_
        ·exact .some trivial
        ·refine Jb (τ:=Int) (λq=>(q,x1)) (λq=>(Ty.fit 0 0 (.i .i64) q/\0<=q/\(q<=J0 x1.2.2.1\/q<=0))) (λq=>J0 x1.2.2.1-q) ?_ 0 rfl ?_
         ·rintro g ⟨x,G,J⟩;unfold Jfv
          try dsimp only
          have:=J2.1 x;refine .lt (λk=>?_) λk=>?_
          ·refine .bind (Jh n) λN K=>.ge (λv=>?_) λv=>?_
           ·exact .some trivial
           ·have:=Jg g 1;exact .some ⟨J1 .i64 g 1,rfl,⟨J5,om,om⟩,om,om⟩
          ·exact .some trivial
         ·try dsimp only
          exact⟨fk0,oo,oo⟩
       ·exact .some trivial
      ·exact .some trivial
     ·exact .some trivial
    ·exact .some trivial
   ·exact .some trivial
  ·exact .some trivial
 ·exact .some trivial
theorem Jvy{B S:Int}{x1:J14}(h:Ty.fit B S J15 x1)(ae:BH B S:=by omega)(hB:B<=192153584089948094:=by omega):Tot (J7N x1) λy=>Ty.fit 0 (24*B+268633648) Jc9 y:=by
 unfold J7N;refine .bind (Jmi h) λy2 h1=>.not (λc2=>?_) λc2=>?_
 ·exact .some (⟨Jd,fkn 24⟩)
 ·refine .bind (JuF h.c.1) λL h3=>.bind (JV (B:=0) (S:=0) (⟨Jd,h.1,fkn 2⟩)) λy4 h4=>?_;have h5:Ty.fit 0 8 .s y4:=h4.1.u;refine .bind (JV (B:=0) (S:=8) (⟨h5,h.2.1,fkn 4⟩)) λy5 h9=>?_;have M:Ty.fit 0 16 .s y5:=h9.1.u;refine .bind (JV (B:=0) (S:=16) (⟨M,J42 h3.1 oo,fkn 4⟩)) λF J=>?_;have N:Ty.fit 0 24 .s F:=J.1.u;have:J0 F<=24:=N;have:=J3 (l:=F);have:J0 L.1<=268632072:=h3.1;have:=J3 (l:=L.1);refine .bind (J6r) λG a6=>?_;have H:Ty.fit 0 268632096 .s G:=(by omega:J0 G<=268632096);refine .bind (JV (B:=0) (S:=268632096) (⟨H,J42 h.d.1.1 oo,fkn 1⟩)) λo Q=>?_;have v:Ty.fit 0 268632104 .s o:=Q.1.u;have:J0 o<=268632104:=v;have:=J3 (l:=o);have:J0 x1.2.2.2.1<=B:=h.d.1.1;have:=J3 (l:=x1.2.2.2.1);have:J0 x1.2.2.2.1=_:=Jj h.d.1;refine Jb (τ:=J3S) (λq=>(q.1,q.2,x1)) (λq=>(Ty.fit 0 0 (.i .i64) q.2/\0<=q.2/\(q.2<=J0 x1.2.2.2.1\/q.2<=0))/\(Ty.fit 0 (24*B+268632104) .s q.1/\J0 q.1<=24*q.2+J0 o)) (λq=>J0 x1.2.2.2.1-q.2) ?_ (o,0) rfl ?_
  ·rintro⟨n,r⟩ C;dsimp only at C;obtain⟨⟨a1,aa,a8⟩,w,a9⟩:=C;unfold JdP
   try dsimp only
   have:=J2.1 a1;refine .lt (λZ=>?_) λZ=>?_
   ·refine .bind (Jh h.d.1) λa7 T=>.bind (JV (B:=0) (S:=(24*B+268632104)) (⟨w,T.1.1,fkn 1⟩)) λj z=>?_;have R:Ty.fit 0 (24*B+268632112) .s j:=z.1.u;have:J0 j<=(24*B+268632112):=R;have:J0 j<=J0 n+8/\(1<=(1:Int)->(1:Int)<=8->J0 j=J0 n+(1:Int)):=z.2;have W:Ty.fit 0 (24*B+268632104) .s j:=(by omega:J0 j<=(24*B+268632104));refine .bind (Jh h.d.1) λac V=>.bind (JV (B:=0) (S:=(24*B+268632104)) (⟨W,V.1.2.1,fkn 8⟩)) λg A=>?_;have a0:Ty.fit 0 (24*B+268632112) .s g:=A.1.u;have:J0 g<=(24*B+268632112):=a0;have:J0 g<=J0 j+8/\(1<=(8:Int)->(8:Int)<=8->J0 g=J0 j+(8:Int)):=A.2;have P:Ty.fit 0 (24*B+268632104) .s g:=(by omega:J0 g<=(24*B+268632104));refine .bind (Jh h.d.1) λab I=>.bind (JV (B:=0) (S:=(24*B+268632104)) (⟨P,I.1.c,fkn 8⟩)) λk E=>?_;have K:Ty.fit 0 (24*B+268632112) .s k:=E.1.u;have:J0 k<=(24*B+268632112):=K;have:J0 k<=J0 g+8/\(1<=(8:Int)->(8:Int)<=8->J0 k=J0 g+(8:Int)):=E.2;have O:Ty.fit 0 (24*B+268632104) .s k:=(by omega:J0 k<=(24*B+268632104));have:=Jg r 1;exact .some ⟨(k,J1 .i64 r 1),rfl,⟨⟨J5,om,om⟩,O,om⟩,om,om⟩
   ·refine .inr ?_;refine .bind (Jux h.e) λD Y=>?_;have:J0 n<=(24*B+268632104):=w;have:=J3 (l:=n);have:J0 D.1<=1544:=Y.1;have:=J3 (l:=D.1);refine .bind (J6r) λx ad=>?_;have U:Ty.fit 0 (24*B+268633648) .s x:=(by omega:J0 x<=(24*B+268633648));exact .some (⟨U,fk0⟩)
  ·try dsimp only
   exact⟨⟨fk0,oo,oo⟩,v.u,oo⟩
theorem Jkn{B S:Int}{x1:J00}(h:Ty.fit B S JK x1)(L:BC B S 0 0:=by omega):Tot (J6K x1) λy=>Ty.fit 64 0 (.l Jc) y:=by
 unfold J6K;refine .bind ((J3u h).eqn) λP h1=>.not (λA=>?_) λA=>?_
 ·exact .some Ja
 ·have v3:=J2F h h1.2 A;have:J0 x1.2.1=_:=Jj h.2.1;have k:Ty.fit 64 12 JK x1:=v3.2;refine Jb (τ:=JfL) (λq=>(q.1,x1,q.2)) (λq=>(Ty.fit 0 0 (.i .i64) q.1/\0<=q.1/\(q.1<=64\/q.1<=0))/\(Ty.fit 64 0 (.l Jc) q.2/\J0 q.2<=1*q.1+0)) (λq=>64-q.1) ?_ (0,[]) rfl ?_
  ·rintro⟨g,e⟩ o;dsimp only at o;obtain⟨⟨n,J,I⟩,j,K⟩:=o;unfold Jfo
   try dsimp only
   have:=J2.1 n;refine .lt (λw=>?_) λw=>?_
   ·refine .bind (J50 (B:=64) (S:=12) (⟨k,n⟩)) λE G=>?_;have: -1<=E/\E<J0 x1.2.1:=G.2;refine .ge (λF=>?_) λF=>?_
    ·refine .bind (Jh k.2.1) λN H=>.ite (λD=>?_) λD=>?_
     ·refine .bind (Jh k.2.1) λO C=>.bind (Jh k.2.1) λM v=>?_;have:J0 e<=64:=j.1;have:=J3 (l:=e);have:J0 e=_:=Jj j;refine .bind (J0q (B:=64) (Bl:=64) (Bm:=1) (S:=0) (J0 e) 1 j (J0f (B:=1) (S:=0) (t:=Jc) oo (⟨n,C.1.z.2.2.1,v.1.z.1.2.1⟩))) λx r=>?_;have:=Jg g 1;have:J0 x=_:=Jj r.1;exact .some ⟨(J1 .i64 g 1,x),rfl,⟨⟨J5,om,om⟩,r.1,om⟩,om,om⟩
     ·have:=Jg g 1;have:J0 e=_:=Jj j;exact .some ⟨(J1 .i64 g 1,e),rfl,⟨⟨J5,om,om⟩,j,om⟩,om,om⟩
    ·have:=Jg g 1;have:J0 e=_:=Jj j;exact .some ⟨(J1 .i64 g 1,e),rfl,⟨⟨J5,om,om⟩,j,om⟩,om,om⟩
   ·exact .some j
  ·have:J0 ([]:List T_api_Row)=0:=rfl
   try dsimp only
   exact⟨⟨fk0,oo,oo⟩,Ja,oo⟩
theorem JH8{B S:Int}{x1:J9}(h:Ty.fit B S J7 x1)(ac:BG B S:=by omega):Tot (JcV x1) λy=>Ty.fit 4160 8192 (.pr J15 (.i .i64)) y:=by
 unfold JcV;refine .bind ((J1c h).eqn) λy2 h1=>.not (λY=>?_) λY=>?_
 ·exact .some (⟨fzr,fkn 15⟩)
 ·have v3:=J1m h h1.2 Y;have:J0 x1.2.2.2.2.2.2.1=_:=Jj h.h.1;have x:Ty.fit 4096 8192 J7 x1:=v3.2;refine Jb (τ:=JfL) (λq=>(q.1,x1,[],0,0,[],[],q.2,[],x1.1,x1.2.1,x1.2.2.2.2.2.1,x1.2.2.2.2.2.2.1)) (λq=>(Ty.fit 0 0 (.i .i64) q.1/\0<=q.1/\(q.1<=x1.1\/q.1<=0))/\(Ty.fit 4160 0 (.l Jc) q.2/\J0 q.2<=65*q.1+0)) (λq=>x1.1-q.1) ?_ (0,[]) rfl ?_
  ·rintro⟨n,k⟩ F;dsimp only at F;obtain⟨⟨J,a4,a9⟩,z,a3⟩:=F;unfold Jn6
   try dsimp only
   have:=J2.1 J;refine .lt (λQ=>?_) λQ=>?_
   ·refine .bind (J92 (B:=4096) (S:=8192) (⟨x,J⟩)) λy4 V=>.ite (λO=>?_) λO=>?_
    ·have:J0 k<=4160:=z.1;have:=J3 (l:=k);have:J0 k=_:=Jj z;refine .bind (J0q (B:=4160) (Bl:=4160) (Bm:=1) (S:=0) (J0 k) 1 z (J0f (B:=1) (S:=0) (t:=Jc) oo V.1)) λN I=>.bind (Jkn x.d.1) λC E=>?_;have:J0 C<=64:=E.1;have:=J3 (l:=C);have:J0 C=_:=Jj E;have:J0 N=_:=Jj I.1;refine Jb (τ:=JfL) (λq=>(n,C,J0 C,q.1,x1,[],0,0,[],[],q.2,[],x1.1,x1.2.1,x1.2.2.2.2.2.1,x1.2.2.2.2.2.2.1)) (λq=>(Ty.fit 0 0 (.i .i64) q.1/\0<=q.1/\(q.1<=J0 C\/q.1<=0))/\(Ty.fit 4160 0 (.l Jc) q.2/\J0 q.2<=1*q.1+J0 N)) (λq=>J0 C-q.1) ?_ (0,N) rfl ?_
     ·rintro⟨A,j⟩ L;dsimp only at L;obtain⟨⟨W,a7,a5⟩,w,aa⟩:=L;unfold Jo0
      try dsimp only
      have:=J2.1 W;refine .lt (λR=>?_) λR=>?_
      ·refine .bind (Jh E) λy8 a1=>.eq (λZ=>?_) λZ=>?_
       ·have:J0 j<=4160:=w.1;have:=J3 (l:=j);have:J0 j=_:=Jj w;refine .bind (J0q (B:=4160) (Bl:=4160) (Bm:=1) (S:=0) (J0 j) 1 w (J0f (B:=1) (S:=0) (t:=Jc) oo a1.1)) λy9 M=>?_;have:=Jg A 1;have:J0 y9=_:=Jj M.1;exact .some ⟨(J1 .i64 A 1,y9),rfl,⟨⟨J5,om,om⟩,M.1,om⟩,om,om⟩
       ·have:=Jg A 1;have:J0 j=_:=Jj w;exact .some ⟨(J1 .i64 A 1,j),rfl,⟨⟨J5,om,om⟩,w,om⟩,om,om⟩
      ·have:=Jg n 1;have:J0 j=_:=Jj w;exact .some ⟨(J1 .i64 n 1,j),rfl,⟨⟨J5,om,om⟩,w,om⟩,om,om⟩
     ·try dsimp only
      exact⟨⟨fk0,oo,oo⟩,I.1,oo⟩
    ·refine .bind (Jkn x.d.1) λr D=>?_;have:J0 r<=64:=D.1;have:=J3 (l:=r);have:J0 r=_:=Jj D;have:J0 k=_:=Jj z;refine Jb (τ:=JfL) (λq=>(n,r,J0 r,q.1,x1,[],0,0,[],[],q.2,[],x1.1,x1.2.1,x1.2.2.2.2.2.1,x1.2.2.2.2.2.2.1)) (λq=>(Ty.fit 0 0 (.i .i64) q.1/\0<=q.1/\(q.1<=J0 r\/q.1<=0))/\(Ty.fit 4160 0 (.l Jc) q.2/\J0 q.2<=1*q.1+J0 k)) (λq=>J0 r-q.1) ?_ (0,k) rfl ?_
     ·rintro⟨o,e⟩ G;dsimp only at G;obtain⟨⟨a2,ad,a8⟩,v,ab⟩:=G;unfold Jnr
      try dsimp only
      have:=J2.1 a2;refine .lt (λP=>?_) λP=>?_
      ·refine .bind (Jh D) λa6 U=>.eq (λT=>?_) λT=>?_
       ·have:J0 e<=4160:=v.1;have:=J3 (l:=e);have:J0 e=_:=Jj v;refine .bind (J0q (B:=4160) (Bl:=4160) (Bm:=1) (S:=0) (J0 e) 1 v (J0f (B:=1) (S:=0) (t:=Jc) oo U.1)) λH K=>?_;have:=Jg o 1;have:J0 H=_:=Jj K.1;exact .some ⟨(J1 .i64 o 1,H),rfl,⟨⟨J5,om,om⟩,K.1,om⟩,om,om⟩
       ·have:=Jg o 1;have:J0 e=_:=Jj v;exact .some ⟨(J1 .i64 o 1,e),rfl,⟨⟨J5,om,om⟩,v,om⟩,om,om⟩
      ·have:=Jg n 1;have:J0 e=_:=Jj v;exact .some ⟨(J1 .i64 n 1,e),rfl,⟨⟨J5,om,om⟩,v,om⟩,om,om⟩
     ·try dsimp only
      exact⟨⟨fk0,oo,oo⟩,z,oo⟩
   ·exact .some (⟨⟨x.1,x.2.1,x.g.1.u,z.u,x.h.1.u⟩,fk0⟩)
  ·have:J0 ([]:List T_api_Row)=0:=rfl
   try dsimp only
   exact⟨⟨fk0,oo,oo⟩,Ja,oo⟩
theorem JAN{B S:Int}{x1:J9}(h:Ty.fit B S J7 x1)(v:BG B S:=by omega):Tot (Jau x1) λy=>Ty.fit 16384 1073741824 JrL y:=by
 unfold Jau;refine .bind (JH8 h) λr h1=>.ne (λo=>?_) λo=>?_
 ·exact .some (⟨fzr,fk0,h1.2⟩)
 ·have h5:Ty.fit 16384 1073741824 J15 r.1:=h1.1.u;refine .bind (Jvy h5) λg h4=>?_;have q:Ty.fit 0 269026864 Jc9 g:=h4.u;refine .gt (λn=>?_) λn=>?_
  ·exact .some (⟨fzr,fk0,fkn 21⟩)
  ·refine .bind ((J4F (B:=B) (S:=S) (x1:=(x1,0,6,0,0,0,0,(0,0,(false,[]),false,[]),g.1)) (⟨h,fk0,fkn 6,fk0,fk0,fk0,fk0,⟨fk0,fk0,⟨trivial,Jd⟩,trivial,Jd⟩,q.1.u⟩)).eqn) λx e=>.ne (λk=>?_) λk=>?_
   ·exact .some (⟨fzr,fk0,e.1.1.c⟩)
   ·refine .bind (J96 (B:=16384) (S:=1073741824) (⟨e.1.1.1.c.1,e.1.1.2.1⟩)) λw j=>.some (⟨⟨e.1.1.1.1,e.1.1.1.2.1,j.1.1.u,e.1.1.1.d⟩,e.1.1.2.1,fk0⟩)
theorem JoS{B S:Int}{x1:Jw}(h:Ty.fit B S Jk x1)(g:BG B S:=by omega):Tot (J5C x1) λy=>Ty.fit B S JGU y:=by
 unfold J5C;refine .bind (JAN h.1) λj h1=>.ne (λe=>?_) λe=>?_
 ·exact .some (⟨⟨fzr,Ja,fk0,Ja,trivial,Ja⟩,fk0,h1.c⟩)
 ·exact .some (⟨⟨h1.1.u,h.2⟩,h1.2.1,fk0⟩)
theorem J98{B S:Int}{x1:J1R}(h:Ty.fit B S tq1 x1)(j:BG B S:=by omega):Tot (J2E x1) λy=>Ty.fit B S J7 y/\(J0 y.2.2.1.2.1=J0 x1.1.2.2.1.2.1):=by
 unfold J2E;refine .bind (J7M h.1.c.1) λk h1=>.bind (J96 (B:=B) (S:=S) (⟨h.1.c.1,JMA h.2 h1⟩)) λe h2=>?_;have:J0 e.1.2.1=_:=Jj h2.1.1.2.1;have:J0 x1.1.2.2.1.2.1=_:=Jj h.1.c.1.2.1;have:e.2=0->J0 e.1.2.1=J0 x1.1.2.2.1.2.1:=h2.2;refine .eq (λg=>?_) λg=>?_
 ·exact .some ⟨(⟨h.1.1,h.1.2.1,h2.1.1.u,h.1.d⟩),om⟩
 ·exact .some ⟨h.1,om⟩
theorem Jzp{B S:Int}{x1:J1R}(h:Ty.fit B S tq1 x1)(z:BG B S:=by omega):Tot (J4o x1) λy=>Ty.fit 16384 1073741824 (.pr J7 tq5) y/\(y.2.2=0->J0 y.1.2.2.1.2.1=J0 x1.1.2.2.1.2.1):=by
 unfold J4o;refine .bind ((J1c h.1).eqn) λA h1=>.not (λv=>?_) λv=>?_
 ·have:J0 x1.1.2.2.1.2.1<=B:=h.1.c.1.2.1.1;exact .some ⟨(⟨fzr,⟨fk0,fk0,J0e oo oo (.ar 16 JC)⟩,fkn 15⟩),om⟩
 ·have x:=J1m h.1 h1.2 v;have:J0 x1.1.2.2.1.2.1=_:=Jj h.1.c.1.2.1;have k:Ty.fit 4096 8192 J7 x1.1:=x.2;refine .bind (J8O (B:=4096) (S:=8192) (⟨k.d.1,h.2⟩)) λq w=>?_;have e:Ty.fit 0 8192 (.pr Jt .b) q:=w.u;refine .not (λo=>?_) λo=>?_
  ·exact .some ⟨(⟨fzr,⟨fk0,fk0,J0e oo oo (.ar 16 JC)⟩,fkn 18⟩),om⟩
  ·have r:Ty.fit 16384 1073741824 tq1 (x1.1,q.1.2.1):=⟨k.u,e.1.2.1⟩;refine .bind (J98 r) λn g=>?_;have j:Ty.fit 16384 1073741824 J7 n:=g.1.u;have:J0 n.2.2.1.2.1=_:=Jj j.c.1.2.1;have:J0 n.2.2.1.2.1=J0 x1.1.2.2.1.2.1:=g.2;exact .some ⟨(⟨j,e.1.u,fk0⟩),om⟩
section
variable {B S:Int}
theorem JGG{x:J1R}{y:J9×JW×Int}(h:Ty.fit B S tq1 x)(e:J4o x=some y)(c:y.2.2=0):InP x.1.2.2.2.1 x.2:=by
 have g:Par (J4o x) λy=>y.2.2=0->InP x.1.2.2.2.1 x.2:=by unfold J4o;refine .bind λa ha=>.not (λ_=>.some nofun) λ_=>.bind λb hb=>.not (λ_=>.some nofun) λc=>.bind λd hd=>.some λ_=>(JgB hb).1 c
 exact g _ e c
end
theorem Jbz{B S:Int}{x1:List UInt8}(h:Ty.fit B S .s x1)(K:BS B S 0 0:=by omega)(P:S<=9223372036854775807:=by omega):Tot (J5W x1) λy=>Ty.fit 0 0 (.i .u32) y:=by
 unfold J5W;have:J0 x1<=S:=h.z;have:=J3 (l:=x1);refine Jb (τ:=Int×Int) (λq=>(x1,q.1,q.2)) (λq=>(Ty.fit 0 0 (.i .i64) q.2/\0<=q.2/\(q.2<=J0 x1\/q.2<=0))/\Ty.fit 0 0 (.i .u32) q.1) (λq=>J0 x1-q.2) ?_ (4294967295,0) rfl ?_
 ·rintro⟨r,g⟩ o;dsimp only at o;obtain⟨⟨G,N,M⟩,O⟩:=o;unfold Jmb
  try dsimp only
  have:=J2.1 G;refine .lt (λC=>?_) λC=>?_
  ·refine .bind (JHk (l:=x1)) λD I=>Jb (τ:=Int×Int) (λq=>(x1,q.1,g,q.2)) (λq=>(Ty.fit 0 0 (.i .i64) q.2/\0<=q.2/\(q.2<=8\/q.2<=0))/\Ty.fit 0 0 (.i .u32) q.1) (λq=>8-q.2) ?_ (JgH .u32 r (cvI .u32 D),0) rfl ?_
   ·rintro⟨k,e⟩ n;dsimp only at n;obtain⟨⟨v,J,H⟩,j⟩:=n;unfold Jli
    try dsimp only
    have:=J2.1 v;refine .lt (λx=>?_) λx=>?_
    ·have:=JPV k 1;refine .eq (λA=>?_) λA=>?_
     ·refine .bind (JC9 j oo) λE L=>?_;have:=Jg e 1;exact .some ⟨(JgH .u32 E 2197175160,J1 .i64 e 1),rfl,⟨⟨J5,om,om⟩,JFL⟩,om,om⟩
     ·refine .bind (JC9 j oo) λF w=>?_;have:=Jg e 1;exact .some ⟨(F,J1 .i64 e 1),rfl,⟨⟨J5,om,om⟩,w⟩,om,om⟩
    ·have:=Jg g 1;exact .some ⟨(k,J1 .i64 g 1),rfl,⟨⟨J5,om,om⟩,j⟩,om,om⟩
   ·try dsimp only
    exact⟨⟨fk0,oo,oo⟩,JFL⟩
  ·exact .some JNm
 ·try dsimp only
  exact⟨⟨fk0,oo,oo⟩,JcZ .u32 4294967295⟩
theorem J6D{B S:Int}{x1:JW}(h:Ty.fit B S Jt x1)(j:BS B S 0 0:=by omega):Tot (J2i x1) λy=>Ty.fit 0 0 (.i .i64) y:=by
 unfold J2i;have s0:Ty.fit 0 S Jt x1:=h;refine .bind (Jg4 (B:=0) (S:=S) s0) λn h1=>.not (λe=>?_) λe=>?_
 ·exact .some (fkn 1)
 ·refine .bind (Jlt (B:=0) (S:=S) s0) λk h3=>.not (λg=>?_) λg=>?_
  ·exact .some (fkn 22)
  ·exact .some fk0
theorem J93{B S x1:Int}(h:Ty.fit B S (.i .i64) x1)(p0:0<=x1)(j:x1<=1000000)(g:BS B S 0 0:=by omega):Tot (J4p x1) λy=>Ty.fit 0 1000000 .s y/\(J0 y=x1):=by unfold J4p;refine .bind (JB1 (t:=(.i .u8)) (B:=1000000) (S:=0) (JcZ .u8 0)) λe h2=>?_;have:J0 (toStr e)=J0 e:=J7L;exact .some ⟨(Jgu (B:=0) (S:=1000000) h2.1.1),om⟩
theorem Jbh{B S:Int}{x1:JW}(h:Ty.fit B S Jt x1)(ak:BS B S 0 0:=by omega):Tot (J4G x1) λy=>Ty.fit 0 1000416 Jc9 y:=by
 unfold J4G;have s0:Ty.fit 0 S Jt x1:=h;refine .bind ((J6D (B:=0) (S:=S) (x1:=x1) s0).eqn) λy2 h1=>.ne (λW=>?_) λW=>?_
 ·exact .some (⟨Jd,h1.1⟩)
 ·have v4:=J6N (x:=x1) s0 h1.2 W;have F:Ty.fit 0 12 Jt x1:=v4.2;refine .bind (JV (B:=0) (S:=0) (⟨Jd,F.2.1,fkn 8⟩)) λv h9=>?_;have I:Ty.fit 0 8 .s v:=h9.1.u;have:J0 v<=8:=I;have:=J3 (l:=v);have:J0 v<=0+8/\(1<=(8:Int)->(8:Int)<=8->J0 v=0+(8:Int)):=h9.2;refine .bind (JV (B:=0) (S:=8) (⟨I,F.1,fkn 4⟩)) λC G=>?_;have J:Ty.fit 0 16 .s C:=G.1.u;have:J0 C<=16:=J;have:=J3 (l:=C);have:J0 C<=J0 v+8/\(1<=(4:Int)->(4:Int)<=8->J0 C=J0 v+(4:Int)):=G.2;refine Jb (τ:=J3S) (λq=>(q.1,q.2,x1)) (λq=>Ty.fit 0 400 .s q.1/\Ty.fit 0 0 (.i .i64) q.2/\(0<=q.2)/\(q.2<=16)/\(J0 q.1=12+13*q.2)) (λq=>16-q.2) ?_ (C,0) rfl ?_
  ·rintro⟨e,n⟩ D;dsimp only at D;obtain⟨E,ae,ai,z22,af⟩:=D;unfold Jes
   try dsimp only
   have:J0 e<=400:=E;have:=J3 (l:=e);refine .lt (λa5=>?_) λa5=>?_
   ·refine .bind (J6z) λ_ _=>.bind ((JcK F.c).eqn) λA g=>.ite (λV=>?_) λV=>?_
    ·refine .bind (J6z) λ_ _=>.same g.2 ?_;refine .bind (JV (B:=0) (S:=400) (⟨E,J42 g.1.2 oo,fkn 1⟩)) λo N=>?_;have a7:Ty.fit 0 408 .s o:=N.1.u;have:J0 o<=408:=a7;have:=J3 (l:=o);have:J0 o<=J0 e+8/\(1<=(1:Int)->(1:Int)<=8->J0 o=J0 e+(1:Int)):=N.2;refine .bind (J6z) λ_ _=>.same g.2 ?_;refine .bind (J6z) λ_ _=>.same g.2 ?_;have:J0 A.2<=12:=g.1.2;have:=J3 (l:=A.2);have:=Juz 12 (J0 A.2);refine .bind (J93 J22 om om) λK Z=>?_;have:J0 K<=1000000:=Z.1;have:=J3 (l:=K);refine .bind (J6r) λz al=>?_;have a9:Ty.fit 0 1000012 .s z:=(by omega:J0 z<=1000012);have:J0 z<=1000012:=a9;have:=J3 (l:=z);refine .bind (J6r) λk am=>?_;have Y:Ty.fit 0 1000420 .s k:=(by omega:J0 k<=1000420);have:J0 k<=1000420:=Y;have:=J3 (l:=k);have U:Ty.fit 0 400 .s k:=(by omega:J0 k<=400);have:=JeA n 1;exact .some ⟨(k,J1 .i64 n 1),rfl,⟨U,J5,om,om,om⟩,om,om⟩
    ·refine .bind (JV (B:=0) (S:=400) (⟨E,fkn 255,fkn 1⟩)) λr H=>?_;have aa:Ty.fit 0 408 .s r:=H.1.u;have:J0 r<=408:=aa;have:=J3 (l:=r);have:J0 r<=J0 e+8/\(1<=(1:Int)->(1:Int)<=8->J0 r=J0 e+(1:Int)):=H.2;refine .bind (J6z) λ_ _=>.same g.2 ?_;refine .bind (J6z) λ_ _=>.same g.2 ?_;have:J0 A.2<=12:=g.1.2;have:=J3 (l:=A.2);have:=Juz 12 (J0 A.2);refine .bind (J93 J22 om om) λL T=>?_;have:J0 L<=1000000:=T.1;have:=J3 (l:=L);refine .bind (J6r) λw aj=>?_;have a2:Ty.fit 0 1000012 .s w:=(by omega:J0 w<=1000012);have:J0 w<=1000012:=a2;have:=J3 (l:=w);refine .bind (J6r) λj ad=>?_;have a3:Ty.fit 0 1000420 .s j:=(by omega:J0 j<=1000420);have:J0 j<=1000420:=a3;have:=J3 (l:=j);have a4:Ty.fit 0 400 .s j:=(by omega:J0 j<=400);have:=JeA n 1;exact .some ⟨(j,J1 .i64 n 1),rfl,⟨a4,J5,om,om,om⟩,om,om⟩
   ·refine .inr ?_;have:=Juz 244 (J0 e);refine .bind (J93 J22 om om) λM a1=>?_;have:J0 M<=1000000:=a1.1;have:=J3 (l:=M);refine .bind (J6r) λP ah=>?_;have O:Ty.fit 0 1000400 .s P:=(by omega:J0 P<=1000400);refine .bind (Jbz O) λan ag=>.bind (JV (B:=0) (S:=1000400) (⟨O,Jex,fkn 4⟩)) λab a0=>?_;have ac:Ty.fit 0 1000408 .s ab:=a0.1.u;refine .bind (JV (B:=0) (S:=1000408) (⟨ac,F.2.1,fkn 8⟩)) λa6 R=>?_;have Q:Ty.fit 0 1000416 .s a6:=R.1.u;exact .some (⟨Q,fk0⟩)
  ·try dsimp only
   exact⟨J.u,fk0,om,om,om⟩
theorem JsR{B S:Int}{x1:JbG}(h:Ty.fit B S JKk x1)(A:BS B S 0 0:=by omega)(G:B<=34359738367:=by omega):Tot (J5r x1) λy=>Ty.fit (B+1) 0 (.l (.i .i64)) y:=by
 unfold J5r;have:J0 x1.1<=B:=h.1.1;have:=J3 (l:=x1.1);refine Jb (τ:=Jzz) (λq=>(x1.1,x1.2,q.1,q.2)) (λq=>(Ty.fit 0 0 (.i .i64) q.1/\0<=q.1/\(q.1<=J0 x1.1\/q.1<=0))/\(Ty.fit (B+1) 0 (.l (.i .i64)) q.2/\J0 q.2<=1*q.1+0)) (λq=>J0 x1.1-q.1) ?_ (0,[]) rfl ?_
 ·rintro⟨e,g⟩ k;dsimp only at k;obtain⟨⟨x,H,C⟩,j,D⟩:=k;unfold Jcp
  try dsimp only
  have:=J2.1 x;refine .lt (λv=>?_) λv=>?_
  ·refine .bind (Jh h.1) λE z=>.ne (λr=>?_) λr=>?_
   ·refine .bind (Jh h.1) λF o=>?_;have:J0 g<=(B+1):=j.1;refine .bind (J0q (B:=(B+1)) (Bl:=(B+1)) (Bm:=1) (S:=0) (J0 g) 1 j (J0f (B:=1) (S:=0) (t:=(.i .i64)) oo o.1)) λw n=>?_;have:=Jg e 1;exact .some ⟨(J1 .i64 e 1,w),rfl,⟨⟨J5,om,om⟩,n.1,om⟩,om,om⟩
   ·have:=Jg e 1;exact .some ⟨(J1 .i64 e 1,g),rfl,⟨⟨J5,om,om⟩,j,om⟩,om,om⟩
  ·exact .some j
 ·have:J0 ([]:List Int)=0:=rfl
  try dsimp only
  exact⟨⟨fk0,oo,oo⟩,Ja,oo⟩
theorem JyJ{B S:Int}{x1:J0l×JO}(h:Ty.fit B S (.pr JT JM) x1)(G:BS B S 0 0:=by omega):Tot (J2Z x1) λy=>Ty.fit 0 0 .b y:=by
 unfold J2Z;refine .lef (λD=>?_) λD=>?_
 ·refine .gtf (λF=>?_) λF=>?_
  ·have:=J2.1 h.d.1;refine .ltf (λE=>?_) λE=>?_
   ·have:J0 x1.1.1<=B:=h.1.1.1;refine .gef (λC=>?_) λC=>?_
    ·have:=J2.1 h.e.1;refine .ltf (λo=>?_) λo=>?_
     ·refine .gef (λr=>?_) λr=>?_
      ·have:=J2.1 h.g.1;refine .ltf (λn=>?_) λn=>?_
       ·refine .ge (λz=>?_) λz=>?_
        ·exact .some trivial
        ·have:=J2.1 h.2.1;refine .eq (λk=>?_) λk=>?_
         ·exact .some trivial
         ·refine .eq (λq=>?_) λq=>?_
          ·exact .some trivial
          ·refine .eq (λA=>?_) λA=>?_
           ·exact .some trivial
           ·refine .eq (λw=>?_) λw=>?_
            ·exact .some trivial
            ·refine .eq (λx=>?_) λx=>?_
             ·have:=JCo.1 h.h;refine .eq (λv=>?_) λv=>?_
              ·exact .some trivial
              ·exact .some trivial
             ·refine .eq (λj=>?_) λj=>?_
              ·exact .some trivial
              ·exact .some trivial
       ·exact .some trivial
      ·exact .some trivial
     ·exact .some trivial
    ·exact .some trivial
   ·exact .some trivial
  ·exact .some trivial
 ·exact .some trivial
theorem Jxo{B S:Int}{x1:J0l}(h:Ty.fit B S JT x1)(Z:BS B S 0 0:=by omega)(hB:B<=9223372036854775807:=by omega):Tot (J30 x1) λy=>Ty.fit 0 0 .b y:=by
 unfold J30;refine .ltf (λJ=>?_) λJ=>?_
 ·refine .gtf (λK=>?_) λK=>?_
  ·have:=J2.1 h.2.1;refine .ltf (λL=>?_) λL=>?_
   ·refine .gtf (λH=>?_) λH=>?_
    ·have:J0 x1.2.2.2.2<=B:=h.e.1;have:=J3 (l:=x1.2.2.2.2);have:J0 x1.2.2.2.2=_:=Jj h.e;refine .gt (λI=>?_) λI=>?_
     ·exact .some trivial
     ·refine Jb (τ:=Int) (λq=>(J0 x1.1,q,x1)) (λq=>(Ty.fit 0 0 (.i .i64) q/\0<=q/\(q<=J0 x1.1\/q<=0))) (λq=>J0 x1.1-q) ?_ 0 rfl ?_
      ·rintro k ⟨x,Y,R⟩;unfold J9P
       try dsimp only
       have:=J2.1 x;refine .lt (λw=>?_) λw=>?_
       ·refine .bind (Jh h.1) λy3 a1=>.ne (λC=>?_) λC=>?_
        ·exact .some trivial
        ·have:=Jg k 1;exact .some ⟨J1 .i64 k 1,rfl,⟨J5,om,om⟩,om,om⟩
       ·refine .inr ?_;have:J0 x1.2.2.1<=B:=h.c.1.1;have:=J3 (l:=x1.2.2.1);refine Jb (τ:=Int) (λq=>(J0 x1.1,q,x1)) (λq=>(Ty.fit 0 0 (.i .i64) q/\0<=q/\(q<=J0 x1.2.2.1\/q<=0))) (λq=>J0 x1.2.2.1-q) ?_ 0 rfl ?_
        ·rintro g ⟨r,U,P⟩;unfold Jak
         try dsimp only
         have:=J2.1 r;refine .lt (λA=>?_) λA=>?_
         ·refine .bind (Jh h.c.1) λy5 T=>.ltf (λD=>?_) λD=>?_
          ·refine .bind (Jh h.c.1) λy6 M=>.gef (λo=>?_) λo=>?_
           ·refine .gt (λE=>?_) λE=>?_
            ·have:=J0H g 1;refine .bind (Jh h.c.1) λy7 W=>.bind (Jh h.c.1) λy8 a0=>.ge (λF=>?_) λF=>?_
             ·exact .some trivial
             ·have:=Jg g 1;exact .some ⟨J1 .i64 g 1,rfl,⟨J5,om,om⟩,om,om⟩
            ·have:=Jg g 1;exact .some ⟨J1 .i64 g 1,rfl,⟨J5,om,om⟩,om,om⟩
           ·exact .some trivial
          ·exact .some trivial
         ·refine .inr ?_;refine Jb (τ:=Int) (λq=>(q,x1)) (λq=>(Ty.fit 0 0 (.i .i64) q/\0<=q/\(q<=J0 x1.2.2.2.2\/q<=0))) (λq=>J0 x1.2.2.2.2-q) ?_ 0 rfl ?_
          ·rintro j ⟨n,N,Q⟩;unfold J9Z
           try dsimp only
           have:=J2.1 n;refine .lt (λz=>?_) λz=>?_
           ·refine .bind (Jh h.e) λO G=>.bind (JyJ (B:=B) (S:=S) (⟨h,G.1⟩)) λa2 V=>.not (λv=>?_) λv=>?_
            ·exact .some trivial
            ·have:=Jg j 1;exact .some ⟨J1 .i64 j 1,rfl,⟨J5,om,om⟩,om,om⟩
           ·exact .some trivial
          ·try dsimp only
           exact⟨fk0,oo,oo⟩
        ·try dsimp only
         exact⟨fk0,oo,oo⟩
      ·try dsimp only
       exact⟨fk0,oo,oo⟩
    ·exact .some trivial
   ·exact .some trivial
  ·exact .some trivial
 ·exact .some trivial
theorem Jb7{B S:Int}{x1:J5Z}(h:Ty.fit B S JrE x1)(n:BS B S 0 0:=by omega)(o:B<=9223372036854775807:=by omega):Tot (J2p x1) λy=>Ty.fit 0 0 (.i .i64) y:=by
 unfold J2p;refine .bind (Jxo h.1) λq h1=>.not (λe=>?_) λe=>?_
 ·exact .some (fkn 15)
 ·refine .ite (λg=>?_) λg=>?_
  ·exact .some (fkn 10)
  ·have:=J2.1 h.2;refine .ltf (λk=>?_) λk=>?_
   ·have:J0 x1.1.1<=B:=h.1.1.1;refine .ge (λj=>?_) λj=>?_
    ·exact .some (fkn 1)
    ·exact .some fk0
   ·exact .some (fkn 1)
section
variable {B S:Int}
def DOk(x:J0l):Prop:=1<=J0 x.1/\J0 x.1<=64/\0<=x.2.1/\x.2.1<=1099511627776/\J0 x.2.2.2.2<=64/\(∀(j:Nat) (s:List UInt8),x.1[j]?=some s->J0 s=256)/\J0 x.2.2.1<=64/\ ∀(j:Nat) (f:JO),x.2.2.2.2[j]?=some f->J2Z (x,f)=some true
theorem Jzl{d:J0l}{f:JO}(e:J2Z (d,f)=some true):0<=f.2.2.1/\f.2.2.1<J0 d.1/\0<=f.2.2.2.1/\f.2.2.2.1<J0 d.1/\0<=f.2.2.2.2.1/\f.2.2.2.2.1<256:=by
 have g:Par (J2Z (d,f)) λy=>y=true->0<=f.2.2.1/\f.2.2.1<J0 d.1/\0<=f.2.2.2.1/\f.2.2.2.1<J0 d.1/\0<=f.2.2.2.2.1/\f.2.2.2.2.1<256:=by unfold J2Z;dsimp only;refine .lef (λ_=>.gtf (λ_=>.ltf (λ_=>.gef (λ_=>.ltf (λ_=>.gef (λ_=>.ltf (λ_=>.ge (λ_=>.some nofun) λ_=>?_) λ_=>.some nofun) λ_=>.some nofun) λ_=>.some nofun) λ_=>.some nofun) λ_=>.some nofun) λ_=>.some nofun) λ_=>.some nofun;intro _ _ _;omega
 exact g _ e rfl
theorem Jcc{x:J0l}(e:J30 x=some true):DOk x:=by
 have w:Par (J30 x) λy=>y=true->DOk x:=by
  unfold J30;refine .ltf (λr=>.gtf (λv=>.ltf (λB=>.gtf (λD=>.gt (λ_=>.some nofun) λC=>?_) λ_=>.some nofun) λ_=>.some nofun) λ_=>.some nofun) λ_=>.some nofun;refine .while (λz=>z.1=J0 x.1/\z.2.2=x/\0<=z.2.1/\ ∀(j:Nat) (s:List UInt8),(j:Int)<z.2.1->x.1[j]?=some s->J0 s=256) ⟨rfl,rfl,J0D _,λj e h1=>by dsimp only at h1;omega⟩ ?_;rintro⟨n,i,z⟩ ⟨hn,hz,k,h⟩;dsimp only at hn hz;subst hz;subst hn;dsimp only at k h r v B D C;unfold J9P;dsimp only;refine .lt (λc=>?_) λc=>.map ?_
  ·have A:=Jg i 1;refine .bind λs hs=>.ne (λ_=>.some nofun) λo=>.some ⟨rfl,rfl,?_,λj t hj he=>?_⟩
   ·show 0<=J1 .i64 i 1;omega
   have hj:(j:Int)<J1 .i64 i 1:=hj;by_cases hl:(j:Int)<i
   ·exact h j t hl he
   ·have:j=i.toNat:=by omega
    subst this;rw[(J40 hs).2]at he;injection he with he;subst he
    exact o
  have hp: ∀(j:Nat) (s:List UInt8),z.1[j]?=some s->J0 s=256:=λj s he=>h j s (by have:=J5P he;omega) he;refine .while (λy=>y.1=J0 z.1/\y.2.2=z/\0<=y.2.1/\y.2.1<=J0 z.1/\ ∀(j:Nat) (f:Int),(j:Int)<y.2.1->z.2.2.1[j]?=some f->(j:Int)<=f/\f<J0 z.1) ⟨rfl,rfl,J0D _,by dsimp only;omega,λj e h1=>by dsimp only at h1;omega⟩ ?_;rintro⟨n,i,z⟩ ⟨hn,hz,k,q,h⟩;dsimp only at hn hz;subst hz;subst hn;dsimp only at k h q;unfold Jak;dsimp only;have A:=Jg i 1;have:=J0H i 1;refine .lt (λc=>?_) λc=>.map ?_
  ·refine .bind λs hs=>.ltf (λo=>.bind λs' hs'=>.gef (λI=>?_) λ_=>.some nofun) λ_=>.some nofun;rw[hs]at hs';injection hs' with hs';subst hs'
   have E:i<=s->(J0 z.1=J0 z.1/\z=z/\0<=J1 .i64 i 1/\J1 .i64 i 1<=J0 z.1/\ ∀(j:Nat) (f:Int),(j:Int)<J1 .i64 i 1->z.2.2.1[j]?=some f->(j:Int)<=f/\f<J0 z.1):=by
    intro H;refine⟨rfl,rfl,oo,oo,λj g hj he=>?_⟩;by_cases hl:(j:Int)<i
    ·exact h j g hl he
    ·have:j=i.toNat:=by omega
     subst this;rw[(J40 hs).2]at he;injection he with he;subst he
     omega
   refine .gt (λJ=>.bind λF h4=>.bind λK h5=>.ge (λ_=>.some nofun) λL=>.some (E ?_)) λ_=>.some (E oo);obtain⟨_,G⟩:=J40 h4;rw[hs]at h5;injection h5 with h5;subst h5
   have:=h _ F oo G;omega
  have hu:J0 z.2.2.1<=64:=by omega
  refine .while (λy=>y.2=z/\0<=y.1/\ ∀(j:Nat) (f:JO),(j:Int)<y.1->z.2.2.2.2[j]?=some f->J2Z (z,f)=some true) ⟨rfl,J0D _,λj e h1=>by dsimp only at h1;omega⟩ ?_;rintro⟨i,z⟩ ⟨rfl,k,h⟩;dsimp only at k h r v B D C hu hp;unfold J9Z;dsimp only;refine .lt (λc=>?_) λc=>.some λ_=>⟨oo,oo,oo,oo,oo,hp,hu,λj f he=>h j f (by have:=J5P he;omega) he⟩;have A:=Jg i 1;refine .bind λs hs=>.bind λb hb=>.not (λ_=>.some nofun) λo=>.some ⟨rfl,?_,λj t hj he=>?_⟩
  ·show 0<=J1 .i64 i 1;omega
  subst o;have hj:(j:Int)<J1 .i64 i 1:=hj;by_cases hl:(j:Int)<i
  ·exact h j t hl he
  ·have:j=i.toNat:=by omega
   subst this;rw[(J40 hs).2]at he;injection he with he;subst he
   exact hb
 exact w _ e rfl
theorem DOk.fit{x:J0l}(k:DOk x)(h:Ty.fit B S JT x):Ty.fit 64 256 JT x:=by
 obtain⟨h1,h2,h3,h4,h5⟩:=h;obtain⟨k1,k2,o,r,q,e,n,g⟩:=k;refine⟨⟨?_,λs hs=>?_⟩,h2,⟨?_,h3.2⟩,trivial,?_,λf hf=>h5.2 f hf⟩
 ·show J0 x.1<=64;omega
 ·obtain⟨j,hj⟩:=JgI.1 hs;show J0 s<=256;have:=e j s hj;omega
 ·show J0 x.2.2.1<=64;omega
 ·show J0 x.2.2.2.2<=64;omega
theorem Jb8{x:J5Z}(e:J2p x=some 0):J30 x.1=some true/\0<=x.2/\x.2<J0 x.1.1:=by
 have g:Par (J2p x) λy=>y=0->J30 x.1=some true/\0<=x.2/\x.2<J0 x.1.1:=by unfold J2p;refine .bind λb hb=>.not (λ_=>.some nofun) λc=>.ite (λ_=>.some nofun) λ_=>.ltf (λ_=>.ge (λ_=>.some nofun) λ_=>.some λ_=>⟨c▸hb,oo,oo⟩) λ_=>.some nofun
 exact g _ e rfl
theorem Jut{x:J5Z}{y:Int}(h:Ty.fit B S JrE x)(e:J2p x=some y)(c:y=0):(0<=x.2/\x.2<J0 x.1.1/\J0 x.1.1<=64)/\Ty.fit 64 256 JT x.1:=by subst c;obtain⟨h1,h2,h3⟩:=Jb8 e;have k:=Jcc h1;exact⟨⟨h2,h3,k.2.1⟩,k.fit h.1⟩
theorem JFN{w:Int}{un:List Int}{dead:Bool}{e k:Int}{s:List UInt8}{ps:List (List UInt8)}{fs:List JO}(hu:Ty.fit B 0 (.l (.i .i64)) un)(hw:Ty.fit 0 0 (.i .i64) e)(C:0<=e)(h1:e<J0 ps)(hk:0<=k)(z:k<=256)(hs:J0 s=256)(hp: ∀x∈ps,J0 x=256)(G:B<=1000)(A:0<=B):Tot (J1B (w,un,dead,e,s,k,ps,fs)) λy=> ∃n g,y=(w,n,dead,g,fs)/\Ty.fit (B+1) 0 (.l (.i .i64)) n/\J0 g=J0 ps/\ ∀x∈g,J0 x=256:=by
 unfold J1B;dsimp only;have j:e.toNat<ps.length:=by unfold J0 at h1;omega
 have o:=hp _ (Jej j);refine .bind (Jv7 oo oo) λH h2=>.bind (J5G (l:=ps)) λ_ _=>?_;have v:lat ps e.toNat=some ps[e.toNat]:=by unfold lat;rw[JF j]
 rw[v];show Tot ((J0z ps[e.toNat] (some k) none).bind _) _;refine .bind (JdB oo oo) λD h5=>.bind (J6r) λE F=>.bind (J5G (l:=ps)) λ_ _=>?_;show Tot ((J5r (un,e)).bind _) _;refine .bind (JsR (B:=B) (S:=0) ⟨hu,hw.u⟩) λq r=>.some ⟨q,_,rfl,r,J5X,λx hx=>?_⟩;rcases Jvh hx with h|rfl
 ·exact hp x h
 ·have:=h2.2;have:=h5.2;omega
theorem JJB{b n:Int}{un:List Int}(h:Ty.fit b 0 (.l (.i .i64)) un)(hn:Ty.fit 0 0 (.i .i64) n)(hb:b<=17179869183:=by omega):Tot (J51 (un,n)) λy=>Ty.fit (b+1) 0 (.l (.i .i64)) y:=by
 unfold J51;have hl:J0 un<=b:=h.1;have A:=J3 (l:=un);refine Jb (τ:=Bool×Int×List Int) (λq=>(un,n,q.1,q.2.1,q.2.2)) (λq=>0<=q.2.1/\q.2.1<=J0 un/\Ty.fit (b+1) 0 (.l (.i .i64)) q.2.2/\J0 q.2.2<=q.2.1+1/\(q.1=false->J0 q.2.2<=q.2.1)) (λq=>J0 un-q.2.1) ?_ (false,0,[]) rfl ⟨J0D _,A,Ja,by show(0:Int)<=0+1;omega,λ_=>J0D _⟩;rintro⟨done,i,out⟩ ⟨w,h1,h2,h3,h4⟩;dsimp only at w h1 h2 h3 h4;unfold Jiw;dsimp only;have:=Jg i 1;have app: ∀{x:Int} {l:List Int},Ty.fit (b+1) 0 (.l (.i .i64)) l->Ty.fit (b+1) 0 (.i .i64) x->J0 l+1<=b+1->Tot (Jy 8 l [x]) λr=>Ty.fit (b+1) 0 (.l (.i .i64)) r/\J0 r=J0 l+1:=λhl hx C=>
  (J0q (B:=b+1) (Bl:=b+1) (Bm:=b+1) (S:=0) _ 1 hl (J0f oo hx) rfl rfl (J0D _) (J0D _) C oo (by decide)).mono λ_ h=>⟨h.1,h.2.1⟩
 have v:Ty.fit (b+1) 0 (.i .i64) n:=hn;refine .lt (λc=>?_) λc=>Tot.map (P:=λy=>Ty.fit (b+1) 0 (.l (.i .i64)) y) ?_ λ_ h=>h
 ·have j:Tot (idx un i) λr=>Ty.fit (b+1) 0 (.i .i64) r:=(Jh h w c).mono λ_ h=>h.1;refine .not (λd=>?_) λd=>?_
  ·have h4:=h4 d;refine .bind j λD H=>.ge (λ_=>.bind (app h2 v oo) λG f4=>.bind j λE F=>.ne (λ_=>.bind j λz o=>.bind (app f4.1 o oo) λk g=>?_) λ_=>?_) λ_=>.bind j λE F=>.ne (λ_=>.bind j λz o=>.bind (app h2 o oo) λk g=>?_) λ_=>?_
   ·have:=g.2;have:=f4.2;exact .some ⟨(_,_,_),rfl,⟨by show 0<=J1 .i64 i 1;omega,by show J1 .i64 i 1<=_;omega,g.1,by show J0 k<=J1 .i64 i 1+1;omega,nofun⟩,by show J0 un-J1 .i64 i 1<J0 un-i;omega,by show 0<=J0 un-i;omega⟩
   ·have:=f4.2;exact .some ⟨(_,_,_),rfl,⟨by show 0<=J1 .i64 i 1;omega,by show J1 .i64 i 1<=_;omega,f4.1,by show J0 G<=J1 .i64 i 1+1;omega,nofun⟩,by show J0 un-J1 .i64 i 1<J0 un-i;omega,by show 0<=J0 un-i;omega⟩
   ·have:=g.2;exact .some ⟨(_,_,_),rfl,⟨by show 0<=J1 .i64 i 1;omega,by show J1 .i64 i 1<=_;omega,g.1,by show J0 k<=J1 .i64 i 1+1;omega,λ_=>by show J0 k<=J1 .i64 i 1;omega⟩,by show J0 un-J1 .i64 i 1<J0 un-i;omega,by show 0<=J0 un-i;omega⟩
   ·exact .some ⟨(_,_,_),rfl,⟨by show 0<=J1 .i64 i 1;omega,by show J1 .i64 i 1<=_;omega,h2,by show J0 out<=J1 .i64 i 1+1;omega,λ_=>by show J0 out<=J1 .i64 i 1;omega⟩,by show J0 un-J1 .i64 i 1<J0 un-i;omega,by show 0<=J0 un-i;omega⟩
  ·refine .bind j λD H=>.ne (λ_=>.bind j λz o=>.bind (app h2 o oo) λk g=>?_) λ_=>?_
   ·have:=g.2;exact .some ⟨(_,_,_),rfl,⟨by show 0<=J1 .i64 i 1;omega,by show J1 .i64 i 1<=_;omega,g.1,by show J0 k<=J1 .i64 i 1+1;omega,λe=>by rw[d]at e;cases e⟩,by show J0 un-J1 .i64 i 1<J0 un-i;omega,by show 0<=J0 un-i;omega⟩
   ·exact .some ⟨(_,_,_),rfl,⟨by show 0<=J1 .i64 i 1;omega,by show J1 .i64 i 1<=_;omega,h2,by show J0 out<=J1 .i64 i 1+1;omega,λe=>by rw[d]at e;cases e⟩,by show J0 un-J1 .i64 i 1<J0 un-i;omega,by show 0<=J0 un-i;omega⟩
 ·exact .not (λd=>.bind (app h2 v (by have:=h4 d;omega)) λy f=>.some f.1) λ_=>.some h2
def FOk(n:Int)(f:JO):Prop:=0<=f.2.2.1/\f.2.2.1<n/\0<=f.2.2.2.1/\f.2.2.2.1<n/\0<=f.2.2.2.2.1/\f.2.2.2.2.1<256/\Ty.fit 0 0 JM f
def JBb(n:Int)(ps:List (List UInt8)):Prop:=J0 ps=n/\ ∀x∈ps,J0 x=256
def WOk(n:Int)(y:J5Z):Prop:=Ty.fit 256 256 JrE y
theorem Jfn{n:Int}(d:J0l)(A:List JO)(I:List (List UInt8))(C:Int)(E:List Int)(z:Bool){ps:List (List UInt8)}(D J:List JO){w:Int}{un:List Int}{dead:Bool}{e rest:List JO}
  (hn:n<=64) (hp:JBb n ps) (hw:Ty.fit 0 0 (.i .i64) w) (hu:Ty.fit 65 0 (.l (.i .i64)) un) (N:J0 e<=64) (hf: ∀f∈e,FOk n f) (hr:Ty.fit 64 0 (.l JM) rest):
  Tot (Jf J5I (0,d,A,I,C,E,z,ps,D,J,w,un,dead,e,rest)) (WOk n):=by
 refine Jb (τ:=Int×List (List UInt8)×List Int×Bool) (λq=>(q.1,d,A,I,C,E,z,q.2.1,D,J,w,q.2.2.1,q.2.2.2,e,rest)) (λq=>0<=q.1/\q.1<=J0 e/\JBb n q.2.1/\ ∃b:Int,b<=65+2*q.1/\Ty.fit b 0 (.l (.i .i64)) q.2.2.1) (λq=>J0 e-q.1) ?_ (0,ps,un,dead) rfl ⟨J0D _,J3,hp,65,oo,hu⟩;rintro⟨i,ps,un,dead⟩ ⟨B,h1,⟨j,g⟩,b,hb,hu⟩;dsimp only at B h1 j g hb hu;unfold J5I;dsimp only;have:=Jg i 1;refine .lt (λc=>?_) λc=>.some ?_
 ·have k:i.toNat<e.length:=by unfold J0 at c;omega
  refine .bind (J5G (l:=e) B c) λ_ _=>?_;have U:lat e i.toNat=some e[i.toNat]:=by unfold lat;rw[JF k]
  rw[U];show Tot (if eqI e[i.toNat].1 4=true then _ else _) _;obtain⟨v,S,T,f4,y,R,F⟩:=hf _ (Jej k);generalize e[i.toNat]=f at v S T f4 y R F;refine .eq (λO=>?_) λO=>.eq (λP=>?_) λP=>.eq (λQ=>?_) λQ=>?_
  ·have o:f.2.2.1.toNat<ps.length:=by unfold J0 at j;omega
   have r:=g _ (Jej o);refine .bind (J5G (l:=ps) v oo) λ_ _=>?_;have L:lat ps f.2.2.1.toNat=some ps[f.2.2.1.toNat]:=by unfold lat;rw[JF o]
   rw[L];show Tot ((inb (toByt ps[f.2.2.1.toNat]).length f.2.2.2.2.1).bind _) _;have G:J0 (toByt ps[f.2.2.1.toNat])=256:=by rw[JIK];exact r
   have K:f.2.2.2.2.1.toNat<(toByt ps[f.2.2.1.toNat]).length:=by unfold J0 at G;omega
   refine .bind (J5G (l:=toByt ps[f.2.2.1.toNat]) y oo) λ_ _=>?_;have M:lat (toByt ps[f.2.2.1.toNat]) f.2.2.2.2.1.toNat=some (toByt ps[f.2.2.1.toNat])[f.2.2.2.2.1.toNat]:=by unfold lat;rw[JF K]
   rw[M];show Tot ((inb (toByt ps[f.2.2.1.toNat]).length f.2.2.2.2.1).bind _) _;refine .bind (J5G (l:=toByt ps[f.2.2.1.toNat]) y oo) λ_ _=>?_;show Tot ((inb ps.length f.2.2.1).bind _) _;refine .bind (J5G (l:=ps) v oo) λ_ _=>.some ⟨(_,_,_,_),rfl,⟨?_,?_,⟨?_,λx hx=>?_⟩,b,?_,hu⟩,?_,?_⟩
   ·show 0<=J1 .i64 i 1;omega
   ·show J1 .i64 i 1<=J0 e;omega
   ·exact J5X.trans j
   ·rcases Jvh hx with h|rfl
    ·exact g x h
    ·rw[J7L,J5X];exact G
   ·show b<=65+2*J1 .i64 i 1;omega
   ·show J0 e-J1 .i64 i 1<J0 e-i;omega
   ·show 0<=J0 e-i;omega
  ·refine .bind (JJB hu F.2.2.1) λV H=>.some ⟨(_,_,_,_),rfl,⟨?_,?_,⟨j,g⟩,b+2,?_,H.u⟩,?_,?_⟩
   ·show 0<=J1 .i64 i 1;omega
   ·show J1 .i64 i 1<=J0 e;omega
   ·show b+2<=65+2*J1 .i64 i 1;omega
   ·show J0 e-J1 .i64 i 1<J0 e-i;omega
   ·show 0<=J0 e-i;omega
  all_goals
   refine .some ⟨(_,_,_,_),rfl,⟨?_,?_,⟨j,g⟩,b,?_,hu⟩,?_,?_⟩
   ·show 0<=J1 .i64 i 1;omega
   ·show J1 .i64 i 1<=J0 e;omega
   ·show b<=65+2*J1 .i64 i 1;omega
   ·show J0 e-J1 .i64 i 1<J0 e-i;omega
   ·show 0<=J0 e-i;omega
 ·refine⟨⟨⟨?_,λx hx=>?_⟩,hw.u,hu.u,trivial,hr.u⟩,fk0⟩
  ·show J0 ps<=256;omega
  ·show J0 x<=256;have:=g x hx;omega
end
section
variable {B S:Int}
theorem Jtn{n h:Int}{s:List UInt8}(d:J0l)(C:List JO)(G:List (List UInt8))(D:Int)(F:List Int)(B:Bool){ps:List (List UInt8)}(E H:List JO){w:Int}{un:List Int}{dead:Bool}{g rest:List JO}
  (hn:n<=64) (hp:JBb n ps) (hw:Ty.fit 0 0 (.i .i64) w) (hu:Ty.fit 64 0 (.l (.i .i64)) un) (z:J0 g<=64) (hf: ∀f∈g,FOk n f) (hr:Ty.fit 64 0 (.l JM) rest)
  (hs:J0 s=256) (N:0<=h) (g1:h<n) (J:Ty.fit 0 0 (.i .i64) h):
  Tot (Jf Jaa (h,s,false,0,d,C,G,D,F,B,ps,E,H,w,un,dead,g,rest)) (WOk n):=by
 refine Jb (τ:=Bool×Int×List (List UInt8)×List Int) (λq=>(h,s,q.1,q.2.1,d,C,G,D,F,B,q.2.2.1,E,H,w,q.2.2.2,dead,g,rest)) (λq=>0<=q.2.1/\q.2.1<=J0 g/\JBb n q.2.2.1/\Ty.fit 65 0 (.l (.i .i64)) q.2.2.2/\(q.1=false->Ty.fit 64 0 (.l (.i .i64)) q.2.2.2)) (λq=>J0 g-q.2.1) ?_ (false,0,ps,un) rfl ⟨J0D _,J3,hp,hu.u,λ_=>hu⟩;rintro⟨done,i,ps,un⟩ ⟨K,h1,⟨r,v⟩,hu,hd⟩;dsimp only at K h1 r v hu hd;unfold Jaa;dsimp only;have:=Jg i 1;have A: ∀{h k:Int},done=false->0<=h->h<n->Ty.fit 0 0 (.i .i64) h->0<=k->k<=256->Tot (J1B (w,un,dead,h,s,k,ps,rest)) λy=> ∃j o,y=(w,j,dead,o,rest)/\Ty.fit 65 0 (.l (.i .i64)) j/\JBb n o:=λe a1 a2 a3 a4 R=>
  (JFN (hd e) a3 a1 oo a4 R hs v oo oo).mono λy ⟨j,o,h1,h2,h3,h4⟩=>⟨j,o,h1,h2,h3.trans r,h4⟩
 have fin:Tot (if Jq done=true then(J1B (w,un,dead,h,s,256,ps,rest)).bind λx=>Jf J5I (0,d,C,G,D,F,B,x.2.2.2.1,E,H,x.1,x.2.1,x.2.2.1,g,x.2.2.2.2)else Jf J5I (0,d,C,G,D,F,B,ps,E,H,w,un,dead,g,rest)) (WOk n):=by refine .not (λe=>.bind (A e N g1 J oo oo) λy ⟨j,o,hy,h2,h3⟩=>?_) λ_=>Jfn _ _ _ _ _ _ _ _ hn ⟨r,v⟩ hw hu z hf hr;subst hy;exact Jfn _ _ _ _ _ _ _ _ hn h3 hw h2 z hf hr
 refine .lt (λc=>.not (λe=>?_) λe=>.inr fin) λc=>.inr fin;have I:i.toNat<g.length:=by unfold J0 at c;omega
 refine .bind (J5G (l:=g) K c) λ_ _=>?_;have Y:lat g i.toNat=some g[i.toNat]:=by unfold lat;rw[JF I]
 have L:inb g.length i=some ():=by unfold inb;rw[if_pos ⟨K,by unfold J0 at c;exact c⟩]
 rw[Y];obtain⟨Q,W,P,f4,O,V,M⟩:=hf _ (Jej I);generalize g[i.toNat]=f at Q W P f4 O V M;show Tot (if eqI f.1 1=true then _ else _) _;refine .eq (λS=>?_) λS=>.eq (λT=>?_) λT=>.eq (λU=>?_) λU=>?_
 ·exact .some ⟨(_,_,_,_),rfl,⟨by show 0<=J1 .i64 i 1;omega,by show J1 .i64 i 1<=J0 g;omega,⟨r,v⟩,hu,nofun⟩,by show J0 g-J1 .i64 i 1<J0 g-i;omega,by show 0<=J0 g-i;omega⟩
 ·rw[L];show Tot ((J1B _).bind _) _;refine .bind (A e P f4 M.2.2.2.1 oo oo) λy ⟨j,o,hy,h2,h3⟩=>?_;subst hy;exact .some ⟨(_,_,_,_),rfl,⟨by show 0<=J1 .i64 i 1;omega,by show J1 .i64 i 1<=J0 g;omega,h3,h2,nofun⟩,by show J0 g-J1 .i64 i 1<J0 g-i;omega,by show 0<=J0 g-i;omega⟩
 ·rw[L];show Tot ((J1B _).bind _) _;refine .bind (A e N g1 J O oo) λy ⟨j,o,hy,h2,h3⟩=>?_;subst hy;exact .some ⟨(_,_,_,_),rfl,⟨by show 0<=J1 .i64 i 1;omega,by show J1 .i64 i 1<=J0 g;omega,h3,h2,nofun⟩,by show J0 g-J1 .i64 i 1<J0 g-i;omega,by show 0<=J0 g-i;omega⟩
 ·exact .some ⟨(_,_,_,_),rfl,⟨by show 0<=J1 .i64 i 1;omega,by show J1 .i64 i 1<=J0 g;omega,⟨r,v⟩,hu,hd⟩,by show J0 g-J1 .i64 i 1<J0 g-i;omega,by show 0<=J0 g-i;omega⟩
theorem JIx{x:J0l}(g:Ty.fit 64 256 JT x):J7k x=some (x.2.1,x.2.2.1,x.2.2.2.1,x.1,x.2.2.2.2):=by obtain⟨r,hr,e⟩:=(JtN (bytes:=16) g.1 oo (by decide));obtain⟨n,j,e2⟩:=(JtN (bytes:=8) g.2.2.1 oo (by decide));obtain⟨o,h,k⟩:=(JtN (bytes:=48) g.2.2.2.2 oo (by decide));subst e e2 k;unfold J7k;have q3:J1g (α:=JO) 48 x.2.2.2.2=some x.2.2.2.2:=h;rw[hr,j,q3];rfl
theorem JyI{x1:J0l×Int×List UInt8}(h:Ty.fit B S (.pr JT (.pr (.i .i64) .s)) x1)(T:BC B S 0 0:=by omega):Tot (J9b x1) λy=>Ty.fit 256 256 JrE y:=by
 obtain⟨x,g,s⟩:=x1;obtain⟨hx,z,hs⟩:=h;unfold J9b;dsimp only;have z0:Ty.fit 256 256 JT ([],0,[],false,[]):=⟨Ja,fk0,Ja,trivial,Ja⟩;refine .bind ((Jb7 (x1:=(x,g)) ⟨hx,z⟩).eqn) λW h2=>.ne (λ_=>.some ⟨z0,h2.1⟩) λP=>.ne (λ_=>.some ⟨z0,fkn 2⟩) λU=>.eq (λ_=>.some ⟨z0,fkn 21⟩) λV=>?_;subst P;obtain⟨k,I,g1⟩:=Jb8 h2.2;have k:=Jcc k;have e:Ty.fit 64 256 JT x:=k.fit hx;obtain⟨k1,k2,N,R,O,K,H,G⟩:=k;dsimp only at k1 k2 N R O K H G I g1;rw[JIx e];show Tot (Jf Jad _) _;dsimp only;have hw:Ty.fit 0 0 (.i .i64) (J1 .i64 x.2.1 1):=J5;have L: ∀{i:Int} {f:JO},idx x.2.2.2.2 i=some f->FOk (J0 x.1) f:=fun{i f} hf=>by obtain⟨a1,a2⟩:=J40 hf;have w:=Jzl (G _ _ a2);exact⟨w.1,w.2.1,w.2.2.1,w.2.2.2.1,w.2.2.2.2.1,w.2.2.2.2.2,e.2.2.2.2.2 f (zQ9 a2)⟩
 refine Jb (τ:=Int×List JO×List JO) (λq=>(g,s,q.1,x,[],[],0,[],false,x.1,x.2.2.2.2,[],J1 .i64 x.2.1 1,x.2.2.1,x.2.2.2.1,q.2.1,q.2.2)) (λq=>0<=q.1/\q.1<=J0 x.2.2.2.2/\J0 q.2.1<=q.1/\J0 q.2.2<=q.1/\Ty.fit 64 0 (.l JM) q.2.1/\Ty.fit 64 0 (.l JM) q.2.2/\ ∀f∈q.2.1,FOk (J0 x.1) f) (λq=>J0 x.2.2.2.2-q.1) ?_ (0,[],[]) rfl ⟨J0D _,J3,J0D _,J0D _,Ja,Ja,nofun⟩;rintro⟨i,A,rest⟩ ⟨F,h1,h3,h4,h5,v,o⟩;dsimp only at F h1 h3 h4 h5 v o;unfold Jad;dsimp only;have:=Jg i 1;have app: ∀{f:JO} {l:List JO},Ty.fit 64 0 (.l JM) l->FOk (J0 x.1) f->J0 l+1<=64->Tot (Jy 48 l [f]) λr=>Ty.fit 64 0 (.l JM) r/\J0 r=J0 l+1/\r=l++[f]:=λhl hx M=>
  (J0q (B:=64) (Bl:=64) (Bm:=64) (S:=0) _ 1 hl (J0f oo hx.2.2.2.2.2.2.u) rfl rfl (J0D _) (J0D _) M oo (by decide))
 refine .lt (λc=>?_) λc=>.inr (Jtn _ _ _ _ _ _ _ _ k2 ⟨rfl,λs hs=>by obtain⟨j,hj⟩:=JgI.1 hs;exact K j s hj⟩ hw ⟨H,e.2.2.1.2⟩ oo o v oo I g1 z);have D:i.toNat<x.2.2.2.2.length:=by unfold J0 at c;omega
 have J:idx x.2.2.2.2 i=some x.2.2.2.2[i.toNat]:=by unfold idx;rw[if_pos F,JF D]
 have n:=L J;rw[J];show Tot (if eqI _ _=true then _ else _) _;refine .eq (λ_=>?_) λ_=>?_
 ·show Tot ((Jy 48 A [_]).bind _) _;refine .bind (app h5 n oo) λr ⟨C,Q,E⟩=>.some ⟨(_,_,_),rfl,⟨by show 0<=J1 .i64 i 1;omega,by show J1 .i64 i 1<=_;omega,by show J0 r<=J1 .i64 i 1;omega,by show J0 rest<=J1 .i64 i 1;omega,C,v,λf hf=>?_⟩,by show _-J1 .i64 i 1<_-i;omega,by show 0<=_-i;omega⟩;subst E;rcases J1Q.1 hf with hf|hf
  ·exact o f hf
  ·simp at hf;subst hf;exact n
 ·show Tot ((Jy 48 rest [_]).bind _) _;exact .bind (app v n oo) λr ⟨C,Q,E⟩=>.some ⟨(_,_,_),rfl,⟨by show 0<=J1 .i64 i 1;omega,by show J1 .i64 i 1<=_;omega,by show J0 A<=J1 .i64 i 1;omega,by show J0 r<=J1 .i64 i 1;omega,h5,C,o⟩,by show _-J1 .i64 i 1<_-i;omega,by show 0<=_-i;omega⟩
theorem JCT{x1:J0l×Int×List UInt8×Int}(h:Ty.fit B S (.pr JT (.pr (.i .i64) Jc9)) x1)(H:BC B S 0 0:=by omega):Tot (Ja5 x1) λy=>Ty.fit 256 256 JrE y:=by
 obtain⟨x,n,s,I⟩:=x1;obtain⟨hx,g,hs,E⟩:=h;unfold Ja5;dsimp only;have z0:Ty.fit 256 256 JT ([],0,[],false,[]):=⟨Ja,fk0,Ja,trivial,Ja⟩;refine .bind ((Jb7 (x1:=(x,n)) ⟨hx,g⟩).eqn) λL h2=>.ne (λ_=>.some ⟨z0,h2.1⟩) λC=>.ltf (λJ=>.gt (λ_=>.some ⟨z0,fkn 1⟩) λK=>.ne (λ_=>.some ⟨z0,fkn 2⟩) λD=>?_) λ_=>.some ⟨z0,fkn 1⟩;subst C;obtain⟨k,q,g1⟩:=Jb8 h2.2;have k:=Jcc k;have e:Ty.fit 64 256 JT x:=k.fit hx;obtain⟨k1,k2,z,F,A,r,o,w⟩:=k;dsimp only at k1 k2 z F A r o w q g1;rw[JIx e];show Tot ((J1B _).bind _) _;dsimp only;refine .bind (JFN (B:=64) ⟨o,e.2.2.1.2⟩ g q g1 oo oo D (λs hs=>by obtain⟨j,hj⟩:=JgI.1 hs;exact r j s hj) oo oo) λy ⟨G,v,hy,h2,h3,h4⟩=>?_;subst hy;refine .some ⟨⟨⟨?_,λx hx=>?_⟩,hx.2.1,h2.u,trivial,e.2.2.2.2.u⟩,fk0⟩
 ·show J0 v<=256;omega
 ·show J0 x<=256;have:=h4 x hx;omega
end
theorem J6T{B S:Int}{x1:J00×Int×J09}(h:Ty.fit B S (.pr JK (.pr (.i .i64) J05)) x1)(p0:0<=x1.2.1)(g:x1.2.1<J0 x1.1.2.1)(e:BS B S 0 0:=by omega)(k:B<=34359738368:=by omega):Tot (J2q x1) λy=>Ty.fit B S JK y/\(J0 y.2.1=J0 x1.1.2.1/\y.2.2=x1.1.2.2):=by unfold J2q;have:J0 x1.1.2.1=_:=Jj h.1.2.1;refine .clo h.1.2.1 oo (by decide) ?_;refine .bind (J5G (l:=x1.1.2.1)) λ_ _=>.bind (JcI h.1.2.1) λn j=>?_;have:J0 (J0w x1.1.2.1 (Int.toNat x1.2.1) x1.2.2)=_:=Jj (J4e (t:=J05) (i:=Int.toNat x1.2.1) (x:=x1.2.2) h.1.2.1 (h.2.z.2.u));have:J0 (J0w x1.1.2.1 (Int.toNat x1.2.1) x1.2.2)=J0 x1.1.2.1:=J5X;exact .some ⟨(⟨h.1.1,J4e (t:=J05) (i:=Int.toNat x1.2.1) (x:=x1.2.2) h.1.2.1 (h.2.z.2.u),h.1.c⟩),om⟩
theorem JxO{B S:Int}{x1:JzH}(h:Ty.fit B S JJX x1)(J:BG B S:=by omega):Tot (J9i x1) λy=>Ty.fit 64 12 tq7 y:=by
 unfold J9i;refine .bind ((J3u h.1).eqn) λL h1=>.not (λv=>?_) λv=>?_
 ·exact .some (⟨fzr,fkn 15⟩)
 ·have v3:=J2F h.1 h1.2 v;have:J0 x1.1.2.1=_:=Jj h.1.2.1;have e:Ty.fit 64 12 JK x1.1:=v3.2;refine .bind (J50 (B:=64) (S:=12) (⟨e,h.2.1⟩)) λo g=>?_;have:=J2.1 g.1;have: -1<=o/\o<J0 x1.1.2.1:=g.2;refine .lt (λn=>?_) λn=>?_
  ·exact .some (⟨fzr,fkn 18⟩)
  ·refine .bind (Jh e.2.1) λK j=>.gt (λE=>?_) λE=>?_
   ·exact .some (⟨fzr,fkn 9⟩)
   ·refine .not (λx=>?_) λx=>?_
    ·exact .some (⟨e,fk0⟩)
    ·refine .eq (λF=>?_) λF=>?_
     ·refine .bind (J6T (B:=64) (S:=12) (⟨e,g.1,j.1.z.1.u,trivial,fk0,trivial⟩) om om) λH r=>?_;have k:Ty.fit 64 12 JK H:=r.1.u;exact .some (⟨k,fk0⟩)
     ·have:=J2.1 j.1.z.2.2.1;refine .le (λw=>?_) λw=>?_
      ·refine .bind (J6T (B:=64) (S:=12) (⟨e,g.1,j.1.z.1.u,trivial,J5,trivial⟩) om om) λI q=>?_;have A:Ty.fit 64 12 JK I:=q.1.u;exact .some (⟨A,fk0⟩)
      ·refine .bind (J6T (B:=64) (S:=12) (⟨e,g.1,j.1.z.u⟩) om om) λG C=>?_;have D:Ty.fit 64 12 JK G:=C.1.u;exact .some (⟨D,fk0⟩)
theorem JtB{B S:Int}{x1:Jdl}(h:Ty.fit B S JrL x1)(L:BG B S:=by omega):Tot (J3l x1) λy=>Ty.fit 16384 1073741824 tq1 y/\(y.2=0->J0 y.1.2.2.1.2.1=J0 x1.1.2.2.1.2.1+1):=by
 unfold J3l;refine .bind ((J1c h.1).eqn) λP h1=>.not (λz=>?_) λz=>?_
 ·have:J0 x1.1.2.2.1.2.1<=B:=h.1.c.1.2.1.1;exact .some ⟨(⟨fzr,fkn 15⟩),om⟩
 ·have I:=J1m h.1 h1.2 z;have:J0 x1.1.2.2.1.2.1=_:=Jj h.1.c.1.2.1;have k:Ty.fit 4096 8192 J7 x1.1:=I.2;refine .ltf (λC=>?_) λC=>?_
  ·refine .gef (λr=>?_) λr=>?_
   ·have:=J2.1 h.c;refine .ltf (λA=>?_) λA=>?_
    ·refine .bind (J7M k.c.1) λM K=>.gt (λx=>?_) λx=>?_
     ·exact .some ⟨(⟨fzr,fkn 1⟩),om⟩
     ·refine .bind ((J4V (B:=4096) (S:=8192) (x1:=(x1.1.2.2.2.1,x1.2.1)) (⟨k.d.1,h.2.1⟩)).eqn) λO J=>.ge (λv=>?_) λv=>?_
      ·have E:Ty.fit 16384 1073741824 JJX (x1.1.2.2.2.1,x1.2.1,x1.2.2):=⟨k.d.1.u,h.2⟩;refine .bind (JxO E) λN n=>.ne (λG=>?_) λG=>?_
       ·exact .some ⟨(⟨fzr,n.2⟩),om⟩
       ·have D:Ty.fit 16384 1073741824 JAf (x1.1,0,7,0,0,0,x1.2.2,(x1.2.1,0,(false,[]),false,[]),[]):=⟨k.u,fk0,fkn 7,fk0,fk0,fk0,h.c,⟨h.2.1,fk0,⟨trivial,Jd⟩,trivial,Jd⟩,Jd⟩;refine .bind ((J4F D).eqn) λq j=>?_;have:J0 q.1.2.2.1.2.1=_:=Jj j.1.1.1.c.1.2.1;have:q.2.2=0->J0 q.1.2.2.1.2.1=J0 x1.1.2.2.1.2.1+1/\J0 x1.1.2.2.1.2.1<=4095/\0<=x1.2.1/\x1.2.1<64/\0<=(0:Int)/\(0:Int)<16:=j.1.2;refine .ne (λw=>?_) λw=>?_
        ·exact .some ⟨(⟨fzr,j.1.1.c⟩),om⟩
        ·exact .some ⟨(⟨⟨j.1.1.1.1,j.1.1.1.2.1,j.1.1.1.c.1,n.1.u,j.1.1.1.e⟩,fk0⟩),om⟩
      ·have F:Ty.fit 16384 1073741824 JAf (x1.1,0,7,0,0,0,x1.2.2,(x1.2.1,0,(false,[]),false,[]),[]):=⟨k.u,fk0,fkn 7,fk0,fk0,fk0,h.c,⟨h.2.1,fk0,⟨trivial,Jd⟩,trivial,Jd⟩,Jd⟩;refine .bind ((J4F F).eqn) λo g=>?_;have:J0 o.1.2.2.1.2.1=_:=Jj g.1.1.1.c.1.2.1;have:o.2.2=0->J0 o.1.2.2.1.2.1=J0 x1.1.2.2.1.2.1+1/\J0 x1.1.2.2.1.2.1<=4095/\0<=x1.2.1/\x1.2.1<64/\0<=(0:Int)/\(0:Int)<16:=g.1.2;refine .ne (λH=>?_) λH=>?_
       ·exact .some ⟨(⟨fzr,g.1.1.c⟩),om⟩
       ·exact .some ⟨(⟨⟨g.1.1.1.1,g.1.1.1.2.1,g.1.1.1.c.1,k.d.1.u,g.1.1.1.e⟩,fk0⟩),om⟩
    ·exact .some ⟨(⟨fzr,fkn 1⟩),om⟩
   ·exact .some ⟨(⟨fzr,fkn 1⟩),om⟩
  ·exact .some ⟨(⟨fzr,fkn 1⟩),om⟩
theorem JkT{B S:Int}{x1:JKl}(h:Ty.fit B S (.pr Jk (.pr J7 Jt)) x1)(n:BG B S:=by omega):Tot (J3t x1) λy=>Ty.fit 16384 1073741824 tq3 y/\(y.2=0->J0 y.1.1.2.2.1.2.1=J0 x1.2.1.2.2.1.2.1+1):=by
 unfold J3t;refine .bind (Jbh (B:=0) (S:=S) h.c.z) λq h1=>.bind (JyI (B:=B) (S:=S) (⟨h.1.2,h.c.z.1,h1.1.u⟩)) λo h2=>.ne (λk=>?_) λk=>?_
 ·have:J0 x1.2.1.2.2.1.2.1<=B:=h.2.1.c.1.2.1.1;exact .some ⟨(⟨⟨fzr,Ja,fk0,Ja,trivial,Ja⟩,h2.2⟩),om⟩
 ·refine .bind (JtB (B:=B) (S:=S) (⟨h.2.1,h.c.z.1,h.c.z.2.1⟩)) λg e=>?_;have:J0 g.1.2.2.1.2.1=_:=Jj e.1.1.c.1.2.1;have:J0 x1.2.1.2.2.1.2.1=_:=Jj h.2.1.c.1.2.1;have:g.2=0->J0 g.1.2.2.1.2.1=J0 x1.2.1.2.2.1.2.1+1:=e.2;refine .ne (λj=>?_) λj=>?_
  ·exact .some ⟨(⟨⟨fzr,Ja,fk0,Ja,trivial,Ja⟩,e.1.2⟩),om⟩
  ·exact .some ⟨(⟨⟨e.1.1,h2.1.u⟩,fk0⟩),om⟩
theorem Jxp{B S:Int}{x1:J3z}(h:Ty.fit B S tq3 x1)(r:BG B S:=by omega):Tot (J8Y x1) λy=>Ty.fit B S tq3 y:=by
 unfold J8Y;refine .bind ((Jzp (B:=B) (S:=S) (x1:=(x1.1.1,x1.2)) (⟨h.1.1,h.2⟩)).eqn) λv h1=>.ne (λe=>?_) λe=>?_
 ·exact .some (⟨⟨fzr,Ja,fk0,Ja,trivial,Ja⟩,h1.1.1.2.z.2⟩)
 ·have o:InP x1.1.1.2.2.2.1 x1.2:=JGG (⟨h.1.1,h.2⟩) h1.2 e;refine .bind ((J4V (B:=B) (S:=S) (x1:=(x1.1.1.2.2.2.1,x1.2)) (⟨h.1.1.d.1,h.2⟩)).eqn) λj g=>?_;have:0<=j:=Jrd o g.2;have:J0 x1.1.1.2.2.2.1.2.1=_:=Jj h.1.1.d.1.2.1;have: -1<=j/\j<J0 x1.1.1.2.2.2.1.2.1:=g.1.2;refine .bind (Jh h.1.1.d.1.2.1) λw q=>.not (λn=>?_) λn=>?_
  ·exact .some (⟨h.1,fk0⟩)
  ·refine .bind (JkT (B:=B) (S:=S) (⟨h.1,h1.1.1.1.u,h1.1.1.2.z.1.u⟩)) λx k=>.some (k.1.u)
theorem JaE{B S:Int}{x1:JOY}(h:Ty.fit B S (.pr (.l J8) (.pr (.i .i64) (.pr .b J0a))) x1)(I:BS B S 0 0:=by omega)(Q:B<=34359738367:=by omega):Tot (J58 x1) λy=>Ty.fit (B+1) 0 (.l J8) y:=by
 unfold J58;have:J0 x1.1<=B:=h.1.1;have:=J3 (l:=x1.1);have:J0 x1.1=_:=Jj h.1;refine Jb (τ:=Int×(List T_api_Grant)) (λq=>(x1.1,x1.2.1,x1.2.2.1,q.1,x1.2.2.2,q.2)) (λq=>(Ty.fit 0 0 (.i .i64) q.1/\0<=q.1/\(q.1<=J0 x1.1\/q.1<=0))/\(Ty.fit (B+1) 0 (.l J8) q.2/\J0 q.2<=1*q.1+0)) (λq=>J0 x1.1-q.1) ?_ (0,[]) rfl ?_
 ·rintro⟨g,e⟩ o;dsimp only at o;obtain⟨⟨E,K,P⟩,j,L⟩:=o;unfold JiQ
  try dsimp only
  have:=J2.1 E;refine .lt (λD=>?_) λD=>?_
  ·refine .bind (Jh h.1) λM G=>.nef (λx=>?_) λx=>?_
   ·refine .ite (λC=>?_) λC=>?_
    ·refine .bind (Jh h.1) λO F=>.not (λr=>?_) λr=>?_
     ·refine .bind (Jh h.1) λN z=>?_;have:J0 e<=(B+1):=j.1;have:J0 e=_:=Jj j;refine .bind (J0q (B:=(B+1)) (Bl:=(B+1)) (Bm:=1) (S:=0) (J0 e) 1 j (J0f (B:=1) (S:=0) (t:=J8) oo z.1)) λA k=>?_;have:=Jg g 1;have:J0 A=_:=Jj k.1;exact .some ⟨(J1 .i64 g 1,A),rfl,⟨⟨J5,om,om⟩,k.1,om⟩,om,om⟩
     ·have H:=J1A.1 r;have:=Jg g 1;have:J0 e=_:=Jj j;exact .some ⟨(J1 .i64 g 1,e),rfl,⟨⟨J5,om,om⟩,j,om⟩,om,om⟩
    ·have:=Jg g 1;have:J0 e=_:=Jj j;exact .some ⟨(J1 .i64 g 1,e),rfl,⟨⟨J5,om,om⟩,j,om⟩,om,om⟩
   ·refine .bind (Jh h.1) λJ v=>?_;have:J0 e<=(B+1):=j.1;have:J0 e=_:=Jj j;refine .bind (J0q (B:=(B+1)) (Bl:=(B+1)) (Bm:=1) (S:=0) (J0 e) 1 j (J0f (B:=1) (S:=0) (t:=J8) oo v.1)) λw n=>?_;have:=Jg g 1;have:J0 w=_:=Jj n.1;exact .some ⟨(J1 .i64 g 1,w),rfl,⟨⟨J5,om,om⟩,n.1,om⟩,om,om⟩
  ·exact .some j
 ·have:J0 ([]:List T_api_Grant)=0:=rfl
  try dsimp only
  exact⟨⟨fk0,oo,oo⟩,Ja,oo⟩
theorem JBB{B S:Int}{x1:J9g}(h:Ty.fit B S JuG x1)(p0:0<=x1.2)(M:x1.2<J0 x1.1.2)(F:BS B S 0 0:=by omega)(Q:B<=9223372036854775807:=by omega):Tot (J9T x1) λy=>Ty.fit 0 0 .b y:=by
 unfold J9T;have:=J2.1 h.2;have:J0 x1.1.2<=B:=h.1.2.1;have:J0 x1.1.2=_:=Jj h.1.2;have:J0 x1.1.1<=B:=h.1.1.1;have:=J3 (l:=x1.1.1);have:J0 x1.1.1=_:=Jj h.1.1;refine Jb (τ:=Int) (λq=>(x1.2,q,x1.1)) (λq=>(Ty.fit 0 0 (.i .i64) q/\0<=q/\(q<=J0 x1.1.1\/q<=0))) (λq=>J0 x1.1.1-q) ?_ 0 rfl ?_
 ·rintro g ⟨A,P,C⟩;unfold Jjg
  try dsimp only
  have:=J2.1 A;refine .lt (λn=>?_) λn=>?_
  ·refine .bind (Jh h.1.1) λJ v=>.bind (Jh h.1.2) λO k=>.bind (J3Q (B:=0) (S:=0) (⟨v.1,k.1⟩)) λL H=>.ite (λw=>?_) λw=>?_
   ·exact .some trivial
   ·have:=Jg g 1;exact .some ⟨J1 .i64 g 1,rfl,⟨J5,om,om⟩,om,om⟩
  ·refine .inr ?_;refine Jb (τ:=Int) (λq=>(x1.2,q,x1.1)) (λq=>(Ty.fit 0 0 (.i .i64) q/\0<=q/\(q<=x1.2\/q<=0))) (λq=>x1.2-q) ?_ 0 rfl ?_
   ·rintro e ⟨r,G,E⟩;unfold Jj1
    try dsimp only
    have:=J2.1 r;refine .lt (λx=>?_) λx=>?_
    ·refine .bind (Jh h.1.2) λI z=>.bind (Jh h.1.2) λK o=>.bind (J3Q (B:=0) (S:=0) (⟨z.1,o.1⟩)) λN D=>.ite (λj=>?_) λj=>?_
     ·exact .some trivial
     ·have:=Jg e 1;exact .some ⟨J1 .i64 e 1,rfl,⟨J5,om,om⟩,om,om⟩
    ·exact .some trivial
   ·try dsimp only
    exact⟨fk0,oo,oo⟩
 ·try dsimp only
  exact⟨fk0,oo,oo⟩
section
variable {B S:Int}
theorem JD8{x1:JIo}(h:Ty.fit B S (.pr (.l J8) J8) x1)(R:BS B S 0 0:=by omega)(W:B<=17179869183:=by omega):Tot (JaD x1) λy=>Ty.fit (B+1) S (.l J8) y/\J0 y<=J0 x1.1+1:=by
 obtain⟨un,n⟩:=x1;obtain⟨h,hn⟩:=h;unfold JaD;dsimp only;dsimp only at h hn;have hl:J0 un<=B:=h.1;have K:=J3 (l:=un);refine Jb (τ:=Bool×Int×List T_api_Grant) (λq=>(un,q.1,q.2.1,n,q.2.2)) (λq=>0<=q.2.1/\q.2.1<=J0 un/\Ty.fit (B+1) S (.l J8) q.2.2/\J0 q.2.2<=q.2.1+1/\(q.1=false->J0 q.2.2<=q.2.1)) (λq=>J0 un-q.2.1) ?_ (false,0,[]) rfl ⟨J0D _,K,Ja,by show(0:Int)<=0+1;omega,λ_=>J0D _⟩;rintro⟨done,i,out⟩ ⟨H,h1,h2,h3,h4⟩;dsimp only at H h1 h2 h3 h4;unfold JhY;dsimp only;have:=Jg i 1;have app: ∀{x:T_api_Grant} {l:List T_api_Grant},Ty.fit (B+1) S (.l J8) l->Ty.fit (B+1) S J8 x->J0 l+1<=B+1->Tot (Jy 32 l [x]) λr=>Ty.fit (B+1) S (.l J8) r/\J0 r=J0 l+1:=λhl hx M=>
  (J0q (B:=B+1) (Bl:=B+1) (Bm:=B+1) (S:=S) _ 1 hl (J0f oo hx) rfl rfl (J0D _) (J0D _) M oo (by decide)).mono λ_ h=>⟨h.1,h.2.1⟩
 have j:Ty.fit (B+1) S J8 n:=hn.u;have G: ∀{d:Bool} {l:List T_api_Grant},i<J0 un->Ty.fit (B+1) S (.l J8) l->J0 l<=i+2->(d=false->J0 l<=i+1)->(∃c':Bool×Int×List T_api_Grant,(un,d,J1 .i64 i 1,n,l)=(un,c'.1,c'.2.1,n,c'.2.2)/\(0<=c'.2.1/\c'.2.1<=J0 un/\Ty.fit (B+1) S (.l J8) c'.2.2/\J0 c'.2.2<=c'.2.1+1/\(c'.1=false->J0 c'.2.2<=c'.2.1))/\J0 un-c'.2.1<J0 un-i/\0<=J0 un-i):=fun{d l} a1 a2 a3 a4=>
  ⟨(d,J1 .i64 i 1,l),rfl,⟨by show 0<=J1 .i64 i 1;omega,by show J1 .i64 i 1<=_;omega,a2,by show J0 l<=J1 .i64 i 1+1;omega,λe=>by show J0 l<=J1 .i64 i 1;have:=a4 e;omega⟩,by show J0 un-J1 .i64 i 1<J0 un-i;omega,oo⟩
 refine .lt (λc=>?_) λc=>Tot.map (P:=λy:List T_api_Grant=>Ty.fit (B+1) S (.l J8) y/\J0 y<=J0 un+1) ?_ λ_ h=>h
 ·have o:Tot (idx un i) λr=>Ty.fit (B+1) S J8 r:=(Jh h H c).mono λ_ h=>h.1.u
  have body: ∀{d:Bool} {l:List T_api_Grant},Ty.fit (B+1) S (.l J8) l->J0 l<=i+1->(d=false->J0 l<=i)->Tot (ρ:=(JLf)⊕(List T_api_Grant)) ((idx un i).bind λE=>
    if neI E.1 n.1=false then
     (idx un i).bind λv=>
     if Jq (eqT J0a v.2.1 n.2.1)then
      (idx un i).bind λC=>
      (Jy 32 l [C]).bind λw=>
      some (.inl (un,d,J1 .i64 i 1,n,w))
     else
      some (.inl (un,d,J1 .i64 i 1,n,l))
    else
     (idx un i).bind λD=>
     (Jy 32 l [D]).bind λA=>
     some (.inl (un,d,J1 .i64 i 1,n,A))) λr=>match r with
      | .inl z=> ∃c':Bool×Int×List T_api_Grant,z=(un,c'.1,c'.2.1,n,c'.2.2)/\(0<=c'.2.1/\c'.2.1<=J0 un/\Ty.fit (B+1) S (.l J8) c'.2.2/\J0 c'.2.2<=c'.2.1+1/\(c'.1=false->J0 c'.2.2<=c'.2.1))/\J0 un-c'.2.1<J0 un-i/\0<=J0 un-i
      | .inr y=>Ty.fit (B+1) S (.l J8) y/\J0 y<=J0 un+1:=fun{d l} b1 b2 F=>
   .bind o λE Q=>.nef (λ_=>.bind o λv T=>.ite (λ_=>.bind o λC I=>.bind (app b1 I oo) λw g=>.some (G c g.1 (by have:=g.2;omega) λe=>by have:=F e;have:=g.2;omega)) λ_=>.some (G c b1 oo λe=>by have:=F e;omega)) λ_=>.bind o λD J=>.bind (app b1 J oo) λA k=>.some (G c k.1 (by have:=k.2;omega) λe=>by have:=F e;have:=k.2;omega)
  refine .not (λd=>?_) λd=>(body h2 h3 h4).mono λr h=>by cases r<;>exact h
  have h4:=h4 d;refine .bind o λN O=>.bind (Jon (x1:=(N,n)) ⟨O,j⟩) λV f4=>.not (λ_=>.bind (app h2 j oo) λU L=>?_) λ_=>(body h2 h3 λ_=>h4).mono λr h=>by cases r<;>exact h
  exact(body (d:=true) L.1 (by have:=L.2;omega) λe=>by cases e).mono λr h=>by cases r<;>exact h
 ·exact .not (λd=>.bind (app h2 j (by have:=h4 d;omega)) λy f=>.some ⟨f.1,by have:=f.2;have:=h4 d;omega⟩) λ_=>.some ⟨h2,oo⟩
theorem J6b{x1:J01}(h:Ty.fit B S JB x1)(D:BS B S 0 0:=by omega)(H:B<=1000000:=by omega):Tot (J35 x1) λy=>Ty.fit (2*B) S JB y/\J0 y.1+J0 y.2<=J0 x1.1+J0 x1.2:=by
 unfold J35;obtain⟨ha,hb⟩:=h;have:J0 x1.1<=B:=ha.1;have:J0 x1.2<=B:=hb.1;refine Jb (τ:=Jgk) (λq=>(q.1,q.2,[],[])) (λq=>0<=q.1/\q.1<=J0 q.2.2/\Ty.fit (2*B) S JB q.2/\J0 q.2.1+J0 q.2.2<=J0 x1.1+J0 x1.2) (λq=>3000000*J0 q.2.2+(J0 q.2.2-q.1)) ?_ (0,x1) rfl ⟨J0D _,J3,⟨ha.u,hb.u⟩,J0D _⟩;rintro⟨i,z⟩ ⟨g,h1,h2,h3⟩;dsimp only at g h1 h2 h3;unfold Je7;dsimp only;have a1:=Jg i 1;have a2:=Jg (-1) 1;have:=J3 (l:=z.1);have:=J3 (l:=z.2);refine .lt (λc=>?_) λc=>.some ⟨h2,h3⟩;refine .bind (JBB (x1:=(z,i)) ⟨h2,by rw[J2];omega⟩ g c) λF _=>.ite (λ_=>?_) λ_=>?_
 ·refine .bind (Jh h2.2 g c) λC f4=>.bind (JD8 (x1:=(z.1,C)) ⟨h2.1,f4.1⟩) λk r=>.bind (J5M h2.2 g (by show i<=J0 z.2;omega)) λA n=>.clo n.1 oo (by decide) (.bind (J3i h2.2 oo (by show _<=J0 z.2;omega)) λj o=>?_);have x:J0 A=i:=n.2;have G:J0 j=J0 z.2-J1 .i64 i 1:=o.2;refine .bind (J0q (B:=2*B) (Bl:=2*B) (Bm:=2*B) (S:=S) i (J0 j) n.1 o.1 x rfl oo oo oo oo (by decide)) λe v=>?_;have E:J0 e=i+J0 j:=v.2.1;have w:=r.2;dsimp only at w;refine .some ⟨(J1 .i64 (-1) 1,(k,e)),rfl,⟨by show 0<=J1 .i64 (-1) 1;omega,by show J1 .i64 (-1) 1<=J0 e;omega,⟨⟨by show J0 k<=2*B;omega,r.1.2⟩,v.1⟩,by show J0 k+J0 e<=_;omega⟩,?_,?_⟩
  ·show 3000000*J0 e+(J0 e-J1 .i64 (-1) 1)<3000000*J0 z.2+(J0 z.2-i);omega
  ·show 0<=3000000*J0 z.2+(J0 z.2-i);omega
 ·refine .some ⟨(J1 .i64 i 1,z),rfl,⟨by show 0<=J1 .i64 i 1;omega,by show J1 .i64 i 1<=J0 z.2;omega,h2,h3⟩,?_,?_⟩
  ·show 3000000*J0 z.2+(J0 z.2-J1 .i64 i 1)<3000000*J0 z.2+(J0 z.2-i);omega
  ·show 0<=3000000*J0 z.2+(J0 z.2-i);omega
end
theorem J7d{B S:Int}{x1:J9g}(h:Ty.fit B S JuG x1)(z:BG B S:=by omega):Tot (J3p x1) λy=>Ty.fit B S JB y:=by
 unfold J3p;refine .bind ((J4j h.1).eqn) λA h1=>.not (λr=>?_) λr=>?_
 ·exact .some h.1
 ·have v3:=J3y h.1 h1.2 r;have e:Ty.fit 1024 0 JB x1.1:=v3.2;refine .bind (JaE (B:=1024) (S:=0) (⟨e.1,h.2,trivial,fzr⟩)) λv n=>?_;have g:Ty.fit 1025 0 (.l J8) v:=n.u;refine .bind (JaE (B:=1024) (S:=0) (⟨e.2,h.2,trivial,fzr⟩)) λx j=>?_;have o:Ty.fit 1025 0 (.l J8) x:=j.u;refine .bind (J6b (B:=1025) (S:=0) (⟨g,o⟩)) λw q=>?_;have k:Ty.fit 2050 0 JB w:=q.1.u;exact .some k.u
end Go.Am
end
section
namespace Go.Am
set_option linter.unusedVariables false
set_option maxRecDepth 20000
set_option maxHeartbeats 4000000
theorem J79{B S:Int}{x1:J1R}(h:Ty.fit B S tq1 x1)(w:BG B S:=by omega):Tot (J1a x1) λy=>Ty.fit 4096 8192 (.pr Jl (.i .i64)) y:=by
 unfold J1a;refine .bind ((J1c h.1).eqn) λA h1=>.not (λo=>?_) λo=>?_
 ·exact .some (⟨fzr,fkn 15⟩)
 ·have v3:=J1m h.1 h1.2 o;have e:Ty.fit 4096 8192 J7 x1.1:=v3.2;refine .bind ((J2S (B:=4096) (S:=8192) (x1:=(x1.1.2.2.2.2.2.1,x1.2)) (⟨e.g.1,h.2⟩)).eqn) λn j=>?_;have:=J2.1 j.1.1;have:J0 x1.1.2.2.2.2.2.1=_:=Jj e.g.1;have: -1<=n/\n<J0 x1.1.2.2.2.2.2.1:=j.1.2;refine .lt (λq=>?_) λq=>?_
  ·exact .some (⟨fzr,fkn 16⟩)
  ·refine .bind (Jh e.g.1) λz v=>.eq (λk=>?_) λk=>?_
   ·exact .some (⟨fzr,fkn 15⟩)
   ·refine .bind (Jh e.g.1) λx r=>.some (⟨r.1,fk0⟩)
theorem JmZ{B S:Int}{x1:J1R}(h:Ty.fit B S tq1 x1)(r:BG B S:=by omega):Tot (J3n x1) λy=>Ty.fit 0 8192 JH3 y:=by
 unfold J3n;refine .bind (J79 (B:=B) (S:=S) (h)) λg h1=>.nef (λn=>?_) λn=>?_
 ·have:J0 g.1.2.2.2.2.1<=4096:=h1.1.e.1.1;have:=J3 (l:=g.1.2.2.2.2.1);refine .eqf (λq=>?_) λq=>?_
  ·have:=J0H (J0 g.1.2.2.2.2.1) 1;refine .bind (Jh h1.1.e.1) λv w=>.le (λo=>?_) λo=>?_
   ·exact .some (⟨⟨fk0,fk0,fk0,fk0,fk0,fk0,⟨fk0,fk0,⟨trivial,Jd⟩,trivial,Jd⟩,Jd⟩,trivial⟩)
   ·refine .bind (Jh h1.1.e.1) λx k=>.bind (J3T (B:=B) (S:=S) (⟨h.1.c.1,k.1⟩)) λz j=>.some (⟨j.1,trivial⟩)
  ·exact .some (⟨⟨fk0,fk0,fk0,fk0,fk0,fk0,⟨fk0,fk0,⟨trivial,Jd⟩,trivial,Jd⟩,Jd⟩,trivial⟩)
 ·exact .some (⟨⟨fk0,fk0,fk0,fk0,fk0,fk0,⟨fk0,fk0,⟨trivial,Jd⟩,trivial,Jd⟩,Jd⟩,trivial⟩)
theorem JkU{B S:Int}{x1:JW×J1e}(h:Ty.fit B S (.pr Jt J0W) x1)(o:BS B S 0 0:=by omega):Tot (J3w x1) λy=>Ty.fit 0 S tq5 y:=by
 unfold J3w;have s0:Ty.fit 0 S (.pr Jt J0W) x1:=h;refine .bind (Jch (B:=0) (S:=S) s0.2) λv h1=>.not (λg=>?_) λg=>?_
 ·exact .some (⟨⟨fk0,fk0,J0e oo oo (.ar 16 JC)⟩,fkn 22⟩)
 ·have:=J2.1 s0.2.1;have:=J2.1 s0.2.2.1;have:0<=x1.2.1/\x1.2.1<64/\0<=x1.2.2.1/\x1.2.2.1<16/\J0 x1.2.2.2.1.2<=12/\J0 x1.2.2.2.2.2<=12:=h1.2 g;refine .ne (λj=>?_) λj=>?_
  ·exact .some (⟨⟨fk0,fk0,J0e oo oo (.ar 16 JC)⟩,fkn 6⟩)
  ·refine .bind (J6z) λ_ _=>.bind (JcK s0.1.2.2) λw k=>.not (λe=>?_) λe=>?_
   ·exact .some (⟨⟨fk0,fk0,J0e oo oo (.ar 16 JC)⟩,fkn 20⟩)
   ·have n:=J1A.1 e;refine .bind (J6z) λ_ _=>.bind (JcK s0.1.2.2) λr q=>.some (⟨⟨s0.1.1,s0.1.2.1,Jro s0.1.2.2 s0.2.2.2.2⟩,fk0⟩)
theorem JsG{B S:Int}{x1:J1e}(h:Ty.fit B S J0W x1)(e:BS B S 0 0:=by omega):Tot (J77 x1) λy=>Ty.fit 0 S J0W y:=by unfold J77;have s0:Ty.fit 0 S J0W x1:=h;exact .some (⟨s0.1,s0.2.1,s0.2.2.2,s0.2.2.1⟩)
theorem JmJ{B S:Int}{x1:JzI}(h:Ty.fit B S (.pr JB Jc) x1)(v:BG B S:=by omega):Tot (J7y x1) λy=>Ty.fit B S JB y:=by
 unfold J7y;refine .bind ((J4j h.1).eqn) λw h1=>.not (λg=>?_) λg=>?_
 ·exact .some h.1
 ·have v3:=J3y h.1 h1.2 g;have e:Ty.fit 1024 0 JB x1.1:=v3.2;refine .bind (JaE (B:=1024) (S:=0) (⟨e.1,h.2.1,trivial,h.c⟩)) λq k=>?_;have j:Ty.fit 1025 0 (.l J8) q:=k.u;refine .bind (J6b (B:=1025) (S:=0) (⟨j,e.2.u⟩)) λr n=>?_;have o:Ty.fit 2050 0 JB r:=n.1.u;exact .some o.u
theorem JtZ{B S:Int}{x1:Jzx}(h:Ty.fit B S JKy x1)(J:BG B S:=by omega):Tot (J8i x1) λy=>Ty.fit 64 12 tq7 y:=by
 unfold J8i;refine .bind ((J3u h.1).eqn) λM h1=>.not (λw=>?_) λw=>?_
 ·exact .some (⟨fzr,fkn 15⟩)
 ·have v3:=J2F h.1 h1.2 w;have:J0 x1.1.2.1=_:=Jj h.1.2.1;have g:Ty.fit 64 12 JK x1.1:=v3.2;refine .bind ((J6D (B:=0) (S:=S) (x1:=x1.2) h.2.z).eqn) λK n=>.ne (λk=>?_) λk=>?_
  ·exact .some (⟨fzr,n.1⟩)
  ·have E:=J6N (x:=x1.2) h.2.z n.2 k;have j:Ty.fit 0 12 Jt x1.2:=E.2;refine .bind (J50 (B:=64) (S:=12) (⟨g,j.1⟩)) λC e=>?_;have:=J2.1 e.1;have: -1<=C/\C<J0 x1.1.2.1:=e.2;refine .lt (λA=>?_) λA=>?_
   ·exact .some (⟨fzr,fkn 18⟩)
   ·refine .bind (Jh g.2.1) λL G=>.le (λD=>?_) λD=>?_
    ·exact .some (⟨fzr,fkn 8⟩)
    ·refine .not (λq=>?_) λq=>?_
     ·refine .bind (J6T (B:=64) (S:=12) (⟨g,e.1,j.u,trivial,j.2.1,trivial⟩) om om) λI r=>?_;have v:Ty.fit 64 12 JK I:=r.1.u;exact .some (⟨v,fk0⟩)
     ·refine .bind (J6T (B:=64) (S:=12) (⟨g,e.1,j.u,trivial,G.1.z.2.2.1,trivial⟩) om om) λH F=>?_;have o:Ty.fit 64 12 JK H:=F.1.u;exact .some (⟨o,fk0⟩)
theorem JgF{B S:Int}{x1:Jw9}(h:Ty.fit B S JAf x1)(r:BG B S:=by omega):Tot (J6Q x1) λy=>Ty.fit B S tq1 y/\(y.2=0->J0 y.1.2.2.1.2.1=J0 x1.1.2.2.1.2.1+1):=by
 unfold J6Q;refine .bind ((J4F (B:=B) (S:=S) (x1:=(x1.1,x1.2)) (⟨h.1,h.2.z.u⟩)).eqn) λk h1=>?_;have:J0 k.1.2.2.1.2.1=_:=Jj h1.1.1.1.c.1.2.1;have:J0 x1.1.2.2.1.2.1=_:=Jj h.1.c.1.2.1;have:=J2.1 h.2.z.2.2.2.2.2.2.1.2.1;have:k.2.2=0->J0 k.1.2.2.1.2.1=J0 x1.1.2.2.1.2.1+1/\J0 x1.1.2.2.1.2.1<=4095/\0<=x1.2.2.2.2.2.2.2.1.1/\x1.2.2.2.2.2.2.2.1.1<64/\0<=x1.2.2.2.2.2.2.2.1.2.1/\x1.2.2.2.2.2.2.2.1.2.1<16:=h1.1.2;refine .ne (λn=>?_) λn=>?_
 ·exact .some ⟨(⟨h.1,h1.1.1.c⟩),om⟩
 ·refine .bind (J8O (B:=B) (S:=S) (⟨h.1.d.1,h.2.z.2.2.2.2.2.2.1.1⟩)) λw g=>.bind (J6z) λ_ _=>.bind (JcK g.1.c) λx q=>.bind (JtZ (B:=B) (S:=S) (⟨h.1.d.1,g.1.1,h1.1.1.2.1,(Jro g.1.c h.2.z.2.2.2.2.2.2.1.2.2.2).u⟩)) λv j=>.ne (λo=>?_) λo=>?_
  ·exact .some ⟨(⟨h.1,j.2⟩),om⟩
  ·exact .some ⟨(⟨⟨h1.1.1.1.1,h1.1.1.1.2.1,h1.1.1.1.c.1.u,j.1.u,h1.1.1.1.e.u⟩,fk0⟩),om⟩
theorem JGB{B S:Int}{x1:JOd}(h:Ty.fit B S (.pr J7 (.pr Jl (.pr J0a (.i .i64)))) x1)(p0:x1.2.2.2<=J0 x1.2.1.2.2.2.2.1)(C:0<=x1.2.2.2)(x:BC B S 0 0:=by omega):Tot (J6p x1) λy=>Ty.fit 0 8192 JH3 y:=by
 unfold J6p;have:=J2.1 h.d;have:J0 x1.2.1.2.2.2.2.1<=B:=h.2.1.e.1.1;have:=J0H x1.2.2.2 1;refine Jb (τ:=Int) (λq=>(q,x1.1,x1.2.1,x1.2.2.1,0,0,0,0,0,0,(0,0,(false,[]),false,[]),[])) (λq=>(Ty.fit 0 0 (.i .i64) q/\q<=JG .i64 x1.2.2.2 1)) (λq=>q-0) ?_ (JG .i64 x1.2.2.2 1) rfl ?_
 ·rintro g ⟨w,z⟩;unfold Jdf
  try dsimp only
  have:=J2.1 w;refine .ge (λv=>?_) λv=>?_
  ·refine .bind (Jh h.2.1.e.1) λA r=>.bind (J3T (B:=B) (S:=S) (⟨h.1.c.1,r.1⟩)) λD j=>.eq (λk=>?_) λk=>?_
   ·have:=J2.1 j.1.h.1.1;refine .eq (λo=>?_) λo=>?_
    ·have:=J2.1 j.1.h.1.2.1;refine .eq (λn=>?_) λn=>?_
     ·exact .some (⟨j.1,trivial⟩)
     ·have:=J0H g 1;exact .some ⟨JG .i64 g 1,rfl,⟨J22,om⟩,om,om⟩
    ·have:=J0H g 1;exact .some ⟨JG .i64 g 1,rfl,⟨J22,om⟩,om,om⟩
   ·have:=J0H g 1;exact .some ⟨JG .i64 g 1,rfl,⟨J22,om⟩,om,om⟩
  ·exact .some (⟨⟨fk0,fk0,fk0,fk0,fk0,fk0,⟨fk0,fk0,⟨trivial,Jd⟩,trivial,Jd⟩,Jd⟩,trivial⟩)
 ·try dsimp only
  exact⟨J22,oo⟩
theorem Jha{B S:Int}{x1:JvR}(h:Ty.fit B S JLg x1)(o:BG B S:=by omega):Tot (J2N x1) λy=>Ty.fit 0 8192 JH3 y:=by
 unfold J2N;refine .bind (J79 (B:=B) (S:=S) (⟨h.1,h.2.1⟩)) λg h1=>.nef (λj=>?_) λj=>?_
 ·have:=J2.1 h1.1.2.1;refine .ne (λn=>?_) λn=>?_
  ·exact .some (⟨⟨fk0,fk0,fk0,fk0,fk0,fk0,⟨fk0,fk0,⟨trivial,Jd⟩,trivial,Jd⟩,Jd⟩,trivial⟩)
  ·have:J0 g.1.2.2.2.2.1<=4096:=h1.1.e.1.1;have:=J3 (l:=g.1.2.2.2.2.1);refine .bind (JGB (B:=B) (S:=S) (⟨h.1,h1.1.u,h.c,J42 h1.1.e.1.1 oo⟩) om om) λq k=>.some (⟨k.1,trivial⟩)
 ·exact .some (⟨⟨fk0,fk0,fk0,fk0,fk0,fk0,⟨fk0,fk0,⟨trivial,Jd⟩,trivial,Jd⟩,Jd⟩,trivial⟩)
theorem Jdp{B S:Int}{x1:JH2}(h:Ty.fit B S (.pr J7 (.pr Jl J4)) x1)(F:BG B S:=by omega):Tot (J2h x1) λy=>Ty.fit B S tq4 y/\((y.2.1=1/\J0 y.1.2.2.1.2.1=J0 x1.1.2.2.1.2.1+1)\/y.2.1=3\/y.2.1=5):=by
 unfold J2h;refine .bind (J8O (B:=B) (S:=S) (⟨h.1.d.1,h.c.z.2.2.2.2.2.2.1.1⟩)) λM h1=>.not (λD=>?_) λD=>?_
 ·have:J0 x1.1.2.2.1.2.1<=B:=h.1.c.1.2.1.1;exact .some ⟨(⟨h.1,fkn 3,fk0,h.c.z.2.2.2.2.2.2.1.1,⟨trivial,Jd⟩,fk0⟩),om⟩
 ·refine .bind (JsG (B:=0) (S:=S) h.c.z.2.2.2.2.2.2.1) λH k=>.bind (JkU (B:=0) (S:=S) (⟨h1.1,k⟩)) λL C=>.ne (λA=>?_) λA=>?_
  ·refine .bind (J06 C.2) λJ v=>.some ⟨(⟨h.1,v.1.u⟩),om⟩
  ·refine .bind (JgF (B:=B) (S:=S) (⟨h.1,fk0,fkn 2,h.2.1.1,fk0,fk0,h.c.z.1,k.u,Jd⟩)) λn j=>?_;have:J0 n.1.2.2.1.2.1=_:=Jj j.1.1.c.1.2.1;have:J0 x1.1.2.2.1.2.1=_:=Jj h.1.c.1.2.1;have:n.2=0->J0 n.1.2.2.1.2.1=J0 x1.1.2.2.1.2.1+1:=j.2;refine .ne (λq=>?_) λq=>?_
   ·refine .bind (J06 j.1.2) λG x=>.some ⟨(⟨h.1,x.1.u⟩),om⟩
   ·have:=J2.1 h.2.1.2.1;refine .eq (λo=>?_) λo=>?_
    ·refine .bind (Jha (B:=B) (S:=S) (⟨j.1.1,h.2.1.1,k.1,k.2.1⟩)) λI E=>.not (λr=>?_) λr=>?_
     ·refine .bind (JmJ (B:=B) (S:=S) (⟨j.1.1.e.1,h.2.1.1,k.1,k.2.1⟩)) λK w=>.some ⟨(⟨⟨j.1.1.1,j.1.1.2.1,j.1.1.c.1,j.1.1.d.1,w,j.1.1.g⟩,fkn 1,h.2.1.1,fk0,⟨trivial,Jd⟩,fk0⟩),om⟩
     ·exact .some ⟨(⟨j.1.1,fkn 1,h.2.1.1,fk0,⟨trivial,Jd⟩,fk0⟩),om⟩
    ·exact .some ⟨(⟨j.1.1,fkn 1,h.2.1.1,fk0,⟨trivial,Jd⟩,fk0⟩),om⟩
theorem Jn5{B S:Int}{x1:J1R}(h:Ty.fit B S tq1 x1)(P:BG B S:=by omega):Tot (J1f x1) λy=>Ty.fit B S tq4 y/\((y.2.1=1/\J0 y.1.2.2.1.2.1=J0 x1.1.2.2.1.2.1+1)\/y.2.1=3\/y.2.1=5):=by
 unfold J1f;refine .bind (J79 (B:=B) (S:=S) (h)) λM h1=>.ne (λK=>?_) λK=>?_
 ·refine .bind (J06 h1.2) λR h4=>.some ⟨(⟨h.1,h4.1.u⟩),om⟩
 ·have:=J2.1 h1.1.2.1;refine .eq (λF=>?_) λF=>?_
  ·have:J0 M.1.2.2.2.2.1<=4096:=h1.1.e.1.1;refine .eq (λv=>?_) λv=>?_
   ·refine .bind ((J4F (B:=B) (S:=S) (x1:=(x1.1,0,5,x1.2,0,0,0,(0,0,(false,[]),false,[]),[])) (⟨h.1,fk0,fkn 5,h.2,fk0,fk0,fk0,⟨fk0,fk0,⟨trivial,Jd⟩,trivial,Jd⟩,Jd⟩)).eqn) λr j=>?_;have:J0 r.1.2.2.1.2.1=_:=Jj j.1.1.1.c.1.2.1;have:J0 x1.1.2.2.1.2.1=_:=Jj h.1.c.1.2.1;have:r.2.2=0->J0 r.1.2.2.1.2.1=J0 x1.1.2.2.1.2.1+1/\J0 x1.1.2.2.1.2.1<=4095/\0<=(0:Int)/\(0:Int)<64/\0<=(0:Int)/\(0:Int)<16:=j.1.2;refine .ne (λH=>?_) λH=>?_
    ·refine .bind (J06 j.1.1.c) λU x=>.some ⟨(⟨h.1,x.1.u⟩),om⟩
    ·refine .bind (J7d (B:=16384) (S:=1073741824) (⟨j.1.1.1.e.1,h.2⟩)) λL A=>?_;have E:Ty.fit 16384 1073741824 JB L:=A.u;exact .some ⟨(⟨⟨j.1.1.1.1,j.1.1.1.2.1,j.1.1.1.c.1.u,j.1.1.1.d.1.u,E.u,j.1.1.1.g.u⟩,fkn 1,fk0,fk0,⟨trivial,Jd⟩,fk0⟩),om⟩
   ·refine .bind (JmZ (B:=B) (S:=S) (h)) λQ D=>.not (λw=>?_) λw=>?_
    ·refine .bind (J06 (B:=0) (S:=0) (fkn 14)) λT C=>.some ⟨(⟨h.1,C.1.u⟩),om⟩
    ·refine .bind (Jdp (B:=B) (S:=S) (⟨h.1,h1.1.u,D.1.u⟩)) λq o=>?_;have:(q.2.1=1/\J0 q.1.2.2.1.2.1=J0 x1.1.2.2.1.2.1+1)\/q.2.1=3\/q.2.1=5:=o.2;exact .some ⟨(⟨o.1.1,o.1.2.z.u⟩),om⟩
  ·refine .bind (JmZ (B:=B) (S:=S) (h)) λN G=>.not (λI=>?_) λI=>?_
   ·refine .bind (J06 (B:=0) (S:=0) (fkn 14)) λO J=>.some ⟨(⟨h.1,J.1.u⟩),om⟩
   ·refine .bind (Jdp (B:=B) (S:=S) (⟨h.1,h1.1.u,G.1.u⟩)) λk n=>?_;have:(k.2.1=1/\J0 k.1.2.2.1.2.1=J0 x1.1.2.2.1.2.1+1)\/k.2.1=3\/k.2.1=5:=n.2;exact .some ⟨(⟨n.1.1,n.1.2.z.u⟩),om⟩
theorem JgX{B S:Int}{x1:J1R}(h:Ty.fit B S tq1 x1)(w:BG B S:=by omega):Tot (J66 x1) λy=>Ty.fit 4096 8192 (.pr Jl .b) y:=by
 unfold J66;refine .bind ((J1c h.1).eqn) λA h1=>.ite (λo=>?_) λo=>?_
 ·have v3:=J1m h.1 h1.2 o;have e:Ty.fit 4096 8192 J7 x1.1:=v3.2;refine .bind ((J2S (B:=4096) (S:=8192) (x1:=(x1.1.2.2.2.2.2.1,x1.2)) (⟨e.g.1,h.2⟩)).eqn) λk n=>?_;have:J0 x1.1.2.2.2.2.2.1=_:=Jj e.g.1;have: -1<=k/\k<J0 x1.1.2.2.2.2.2.1:=n.1.2;refine .ge (λq=>?_) λq=>?_
  ·refine .bind (Jh e.g.1) λz v=>.eq (λj=>?_) λj=>?_
   ·refine .bind (Jh e.g.1) λx r=>.some (⟨r.1,trivial⟩)
   ·exact .some (⟨fzr,trivial⟩)
  ·exact .some (⟨fzr,trivial⟩)
 ·exact .some (⟨fzr,trivial⟩)
theorem JAt{B S:Int}{x1:J9}(h:Ty.fit B S J7 x1)(D:BH B S:=by omega)(K:B<=34359738368:=by omega):Tot (Jal x1) λy=>Ty.fit B 0 (.l (.i .i64)) y:=by
 unfold Jal;have:J0 x1.2.2.2.2.2.1<=B:=h.g.1.1;have:=J3 (l:=x1.2.2.2.2.2.1);have:J0 x1.2.2.2.2.2.1=_:=Jj h.g.1;refine Jb (τ:=Jzz) (λq=>(q.1,x1,q.2)) (λq=>(Ty.fit 0 0 (.i .i64) q.1/\0<=q.1/\(q.1<=J0 x1.2.2.2.2.2.1\/q.1<=0))/\(Ty.fit B 0 (.l (.i .i64)) q.2/\J0 q.2<=1*q.1+0)) (λq=>J0 x1.2.2.2.2.2.1-q.1) ?_ (0,[]) rfl ?_
 ·rintro⟨e,j⟩ n;dsimp only at n;obtain⟨⟨A,E,J⟩,k,F⟩:=n;unfold Jj8
  try dsimp only
  have:=J2.1 A;refine .lt (λx=>?_) λx=>?_
  ·refine .bind (Jh h.g.1) λG o=>.bind (JgX (B:=B) (S:=S) (⟨h,o.1.1⟩)) λI C=>.ite (λw=>?_) λw=>?_
   ·refine .bind (Jh h.g.1) λH r=>?_;have:J0 j<=B:=k.1;refine .bind (J0q (B:=B) (Bl:=B) (Bm:=1) (S:=0) (J0 j) 1 k (J0f (B:=1) (S:=0) (t:=(.i .i64)) oo r.1.1)) λz v=>?_;have:=Jg e 1;exact .some ⟨(J1 .i64 e 1,z),rfl,⟨⟨J5,om,om⟩,v.1,om⟩,om,om⟩
   ·have:=Jg e 1;exact .some ⟨(J1 .i64 e 1,j),rfl,⟨⟨J5,om,om⟩,k,om⟩,om,om⟩
  ·exact .some k
 ·have:J0 ([]:List Int)=0:=rfl
  try dsimp only
  exact⟨⟨fk0,oo,oo⟩,Ja,oo⟩
theorem JEg{B S:Int}{x1:JbG}(h:Ty.fit B S JKk x1)(o:BS B S 0 0:=by omega)(x:B<=9223372036854775807:=by omega):Tot (Jbw x1) λy=>Ty.fit 0 0 .b y:=by
 unfold Jbw;have:J0 x1.1<=B:=h.1.1;have:=J3 (l:=x1.1);refine Jb (τ:=Int) (λq=>(x1.1,x1.2,q)) (λq=>(Ty.fit 0 0 (.i .i64) q/\0<=q/\(q<=J0 x1.1\/q<=0))) (λq=>J0 x1.1-q) ?_ 0 rfl ?_
 ·rintro e ⟨j,r,w⟩;unfold JkE
  try dsimp only
  have:=J2.1 j;refine .lt (λk=>?_) λk=>?_
  ·refine .bind (Jh h.1) λv n=>.eq (λg=>?_) λg=>?_
   ·exact .some trivial
   ·have:=Jg e 1;exact .some ⟨J1 .i64 e 1,rfl,⟨J5,om,om⟩,om,om⟩
  ·exact .some trivial
 ·try dsimp only
  exact⟨fk0,oo,oo⟩
theorem JBC{B S:Int}{x1:J5Z}(h:Ty.fit B S JrE x1)(n:BC B S 0 0:=by omega):Tot (Jaz x1) λy=>Ty.fit 0 256 Jc9 y:=by
 unfold Jaz;refine .bind ((Jb7 (B:=B) (S:=S) (x1:=(x1.1,x1.2)) (h)).eqn) λr h1=>.ne (λg=>?_) λg=>?_
 ·exact .some (⟨Jd,h1.1⟩)
 ·have v4:=Jut (x:=(x1.1,x1.2)) (h) h1.2 g;have:=J2.1 h.2;have:0<=x1.2/\x1.2<J0 x1.1.1/\J0 x1.1.1<=64:=v4.1;have e:Ty.fit 64 256 JT x1.1:=v4.2;refine .bind (JEg (B:=64) (S:=256) (⟨e.c.1,h.2⟩)) λq o=>.ite (λk=>?_) λk=>?_
  ·exact .some (⟨Jd,fkn 11⟩)
  ·refine .bind (Jh e.1) λv j=>.some (⟨j.1.z,fk0⟩)
theorem J19{B S:Int}{x1:J0C}(h:Ty.fit B S JA x1)(E:BS B S 0 0:=by omega)(I:S<=9223372036854775807:=by omega):Tot (J0x x1) λy=>Ty.fit 0 0 J0a y:=by
 unfold J0x;have s0:Ty.fit 0 S JA x1:=h;have:=J2.1 s0.2.2;refine .ltf (λr=>?_) λr=>?_
 ·refine .gtf (λv=>?_) λv=>?_
  ·have:=J2.1 s0.2.1;refine .lt (λz=>?_) λz=>?_
   ·exact .some (⟨fk0,fkn 1⟩)
   ·have:J0 x1.1<=S:=s0.1;have:=J3 (l:=x1.1);refine .gtf (λx=>?_) λx=>?_
    ·have:=J0H (J0 x1.1) x1.2.1;refine .lt (λo=>?_) λo=>?_
     ·exact .some (⟨fk0,fkn 5⟩)
     ·refine Jb (τ:=Int×Int) (λq=>(x1.1,x1.2.1,x1.2.2,q.1,q.2)) (λq=>(Ty.fit 0 0 (.i .i64) q.2/\0<=q.2/\(q.2<=x1.2.2\/q.2<=0))/\Ty.fit 0 0 (.i .u64) q.1) (λq=>x1.2.2-q.2) ?_ (0,0) rfl ?_
      ·rintro⟨j,e⟩ g;dsimp only at g;obtain⟨⟨k,D,A⟩,G⟩:=g;unfold Jc7
       try dsimp only
       have:=J2.1 k;refine .lt (λn=>?_) λn=>?_
       ·have:=Jg x1.2.1 e;refine .bind (JHk (l:=x1.1)) λH F=>?_;have:=cvu .u64 (J3f .i64 8 e);refine .bind (JOT (B:=0) (S:=0) oo) λw C=>?_;have:=Jg e 1;exact .some ⟨(orI .u64 j w,J1 .i64 e 1),rfl,⟨⟨J5,om,om⟩,JNH⟩,om,om⟩
       ·exact .some (⟨Jex,fk0⟩)
      ·try dsimp only
       exact⟨⟨fk0,oo,oo⟩,JcZ .u64 0⟩
    ·exact .some (⟨fk0,fkn 5⟩)
  ·exact .some (⟨fk0,fkn 1⟩)
 ·exact .some (⟨fk0,fkn 1⟩)
theorem Jyy{B S:Int}{x1:Unit}(h:Ty.fit B S .u x1)(e:BS B S 0 0:=by omega):Tot (J9f x1) λy=>Ty.fit 0 1000000 .s y:=by unfold J9f;refine .bind (J93 (B:=0) (S:=0) (fkn 256) om om) λg h1=>.some h1.1
theorem Jwj{B S:Int}{x1:List UInt8}(h:Ty.fit B S .s x1)(Y:BS B S 0 0:=by omega)(hS:S<=9223372036854775807:=by omega):Tot (J7W x1) λy=>Ty.fit 0 S tq5 y:=by
 unfold J7W;have s0:Ty.fit 0 S .s x1:=h;have:=J3 (l:=x1);refine .ne (λL=>?_) λL=>?_
 ·exact .some (⟨⟨fk0,fk0,J0e oo oo (.ar 16 JC)⟩,fkn 2⟩)
 ·refine .bind (Jyy trivial) λy2 h4=>.ite (λN=>?_) λN=>?_
  ·exact .some (⟨⟨fk0,fk0,J0e oo oo (.ar 16 JC)⟩,fkn 7⟩)
  ·refine .bind (Jdq s0) λy3 h6=>.bind (JDi s0) λy4 h9=>.ite (λr=>?_) λr=>?_
   ·exact .some (⟨⟨fk0,fk0,J0e oo oo (.ar 16 JC)⟩,fkn 27⟩)
   ·refine .bind ((J19 (B:=0) (S:=S) (x1:=(x1,244,4)) (⟨s0,fkn 244,fkn 4⟩)).eqn) λy5 P=>.bind (Jdq s0) λM w=>?_;have A:Ty.fit 0 S .s M:=w.1;refine .bind (Jbz A) λy7 R=>.ne (λI=>?_) λI=>?_
    ·exact .some (⟨⟨fk0,fk0,J0e oo oo (.ar 16 JC)⟩,fkn 3⟩)
    ·refine .bind ((J19 (B:=0) (S:=S) (x1:=(x1,0,8)) (⟨s0,fk0,fkn 8⟩)).eqn) λK D=>.bind ((J19 (B:=0) (S:=S) (x1:=(x1,8,4)) (⟨s0,fkn 8,fkn 4⟩)).eqn) λO C=>Jb (τ:=JzL) (λq=>(x1,q.1,(0,0,Vector.replicate 16 (false,[])),q.2)) (λq=>(Ty.fit 0 0 (.i .i64) q.1/\0<=q.1/\(q.1<=16\/q.1<=0))/\Ty.fit 0 S Jt q.2) (λq=>16-q.1) ?_ (0,(O.1,K.1,Vector.replicate 16 (false,[]))) rfl ?_
     ·rintro⟨e,g⟩ n;dsimp only at n;obtain⟨⟨z,Q,a0⟩,j⟩:=n;unfold Jem
      try dsimp only
      have:=J2.1 z;refine .lt (λG=>?_) λG=>?_
      ·have:=JKX e 13;have:=JeA 12 (J3f .i64 e 13);refine .bind (JHk (l:=x1)) λo U=>?_;have:=JK1 o;refine .eq (λF=>?_) λF=>?_
       ·have:=JeA e 1;exact .some ⟨(J1 .i64 e 1,g),rfl,⟨⟨J5,om,om⟩,j⟩,om,om⟩
       ·refine .gt (λE=>?_) λE=>?_
        ·exact .some (⟨⟨fk0,fk0,J0e oo oo (.ar 16 JC)⟩,fkn 4⟩)
        ·have:=JeA (J1 .i64 12 (J3f .i64 e 13)) 1;have:=JeA (J1 .i64 (J1 .i64 12 (J3f .i64 e 13)) 1) (cvI .i64 o);refine .bind (Jdy s0) λk J=>?_;have H:Ty.fit 0 S .s k:=J.1;refine .bind (J6z) λ_ _=>.bind (JcK j.2.2) λW Z=>?_;have:=JeA e 1;exact .some ⟨(J1 .i64 e 1,(g.1,g.2.1,JoO g.2.2 (Int.toNat e) (true,k))),rfl,⟨⟨J5,om,om⟩,j.1,j.2.1,Jro j.2.2 (⟨trivial,H⟩)⟩,om,om⟩
      ·refine .inr ?_;refine .bind (Jbh j) λT V=>.nef (λx=>?_) λx=>?_
       ·refine .ite (λv=>?_) λv=>?_
        ·exact .some (⟨⟨fk0,fk0,J0e oo oo (.ar 16 JC)⟩,fkn 4⟩)
        ·exact .some (⟨j,fk0⟩)
       ·exact .some (⟨⟨fk0,fk0,J0e oo oo (.ar 16 JC)⟩,fkn 4⟩)
     ·try dsimp only
      exact⟨⟨fk0,oo,oo⟩,C.1.1,D.1.1,J0e oo oo (.ar 16 JC)⟩
theorem JF5{B S x1:Int}(h:Ty.fit B S (.i .i64) x1)(e:BS B S 0 0:=by omega):Tot (J8J x1) λy=>Ty.fit 0 0 Jt y:=by unfold J8J;exact .some (⟨h,fk0,J0e oo oo (.ar 16 JC)⟩)
theorem Jr2{B S:Int}{x1:J3S}(h:Ty.fit B S Jc9 x1)(q:BS B S 0 0:=by omega)(v:S<=9223372036854775807:=by omega):Tot (J33 x1) λy=>Ty.fit 0 S tq5 y:=by
 unfold J33;have s0:Ty.fit 0 S Jc9 x1:=h;refine .ltf (λo=>?_) λo=>?_
 ·refine .ge (λg=>?_) λg=>?_
  ·exact .some (⟨⟨fk0,fk0,J0e oo oo (.ar 16 JC)⟩,fkn 1⟩)
  ·refine .bind (Jwj (B:=0) (S:=S) s0.1) λw h4=>.eq (λn=>?_) λn=>?_
   ·refine .bind (JF5 (B:=0) (S:=0) s0.2) λr j=>.some (⟨j.u,fk0⟩)
   ·refine .eq (λk=>?_) λk=>?_
    ·have:=J2.1 h4.1.1;refine .ne (λe=>?_) λe=>?_
     ·exact .some (⟨⟨fk0,fk0,J0e oo oo (.ar 16 JC)⟩,fkn 6⟩)
     ·exact .some (h4)
    ·exact .some (h4)
 ·exact .some (⟨⟨fk0,fk0,J0e oo oo (.ar 16 JC)⟩,fkn 1⟩)
theorem JyF{B S:Int}{x1:JOz}(h:Ty.fit B S (.pr (.l Jc) (.pr (.i .i64) (.pr (.i .i64) .s))) x1)(E:BC B S 0 0:=by omega)(J:S<=9223372036854775807:=by omega):Tot (J4g x1) λy=>Ty.fit 0 S tq5 y:=by
 unfold J4g;refine .bind ((J5k h.1).eqn) λK h1=>.not (λr=>?_) λr=>?_
 ·exact .some (⟨⟨fk0,fk0,J0e oo oo (.ar 16 JC)⟩,fkn 28⟩)
 ·have v3:=J4m h.1 h1.2 r;have:J0 x1.1=_:=Jj h.1;have g:Ty.fit 64 0 (.l Jc) x1.1:=v3.2;have:=J2.1 h.2.z.1;refine .ltf (λx=>?_) λx=>?_
  ·refine .gef (λo=>?_) λo=>?_
   ·have:=J2.1 h.2.z.2.1;refine .lt (λj=>?_) λj=>?_
    ·exact .some (⟨⟨fk0,fk0,J0e oo oo (.ar 16 JC)⟩,fkn 1⟩)
    ·refine .bind (Jr2 (B:=0) (S:=S) (⟨h.2.z.2.2,h.2.z.1⟩)) λF e=>.ne (λq=>?_) λq=>?_
     ·exact .some (⟨⟨fk0,fk0,J0e oo oo (.ar 16 JC)⟩,e.2⟩)
     ·have:=J2.1 e.1.2.1;refine .gt (λk=>?_) λk=>?_
      ·refine .bind (Jh g) λI C=>.gt (λw=>?_) λw=>?_
       ·exact .some (⟨⟨fk0,fk0,J0e oo oo (.ar 16 JC)⟩,fkn 9⟩)
       ·refine .bind (Jh g) λG A=>.lt (λv=>?_) λv=>?_
        ·exact .some (⟨⟨fk0,fk0,J0e oo oo (.ar 16 JC)⟩,fkn 8⟩)
        ·exact .some (⟨e.1,fk0⟩)
      ·refine .bind (Jh g) λH D=>.lt (λn=>?_) λn=>?_
       ·exact .some (⟨⟨fk0,fk0,J0e oo oo (.ar 16 JC)⟩,fkn 8⟩)
       ·exact .some (⟨e.1,fk0⟩)
   ·exact .some (⟨⟨fk0,fk0,J0e oo oo (.ar 16 JC)⟩,fkn 1⟩)
  ·exact .some (⟨⟨fk0,fk0,J0e oo oo (.ar 16 JC)⟩,fkn 1⟩)
theorem JEB{B S:Int}{x1:Jzx}(h:Ty.fit B S JKy x1)(D:BG B S:=by omega):Tot (J5S x1) λy=>Ty.fit 65 12 (.pr (.i .i64) (.pr (.i .i64) (.pr (.i .i64) (.l J05)))) y/\(y.2.2.1=0->J0 y.2.2.2=J0 x1.1.2.1+1):=by
 unfold J5S;refine .bind ((J3u h.1).eqn) λG h1=>.not (λr=>?_) λr=>?_
 ·have:J0 x1.1.2.1<=B:=h.1.2.1.1;exact .some ⟨(⟨fk0,fk0,fkn 15,Ja⟩),om⟩
 ·have w:=J2F h.1 h1.2 r;have:J0 x1.1.2.1<=B:=h.1.2.1.1;have:J0 x1.1.2.1=_:=Jj h.1.2.1;have e:Ty.fit 64 12 JK x1.1:=w.2;refine .bind ((J6D (B:=0) (S:=S) (x1:=x1.2) h.2.z).eqn) λE g=>.ne (λk=>?_) λk=>?_
  ·exact .some ⟨(⟨fk0,fk0,g.1,Ja⟩),om⟩
  ·have v:=J6N (x:=x1.2) h.2.z g.2 k;have n:Ty.fit 0 12 Jt x1.2:=v.2;refine .bind (J50 (B:=64) (S:=12) (⟨e,n.1⟩)) λF C=>.ge (λo=>?_) λo=>?_
   ·exact .some ⟨(⟨fk0,fk0,fkn 25,Ja⟩),om⟩
   ·refine .eq (λq=>?_) λq=>?_
    ·exact .some ⟨(⟨fk0,fk0,fkn 21,Ja⟩),om⟩
    ·refine .clo e.2.1 oo (by decide) ?_;refine .bind (J0q (B:=65) (Bl:=64) (Bm:=1) (S:=12) (J0 x1.1.2.1) 1 e.2.1 (J0f (B:=1) (S:=12) (t:=J05) oo (⟨n.u,trivial,fk0,trivial⟩))) λA j=>?_;have:J0 A=_:=Jj j.1;exact .some ⟨(⟨e.1,e.c,fk0,j.1⟩),om⟩
theorem JuA{B S:Int}{x1:JJO}(h:Ty.fit B S (.pr J7 Jt) x1)(a8:BG B S:=by omega):Tot (J3K x1) λy=>Ty.fit 4096 8192 tq1 y/\(y.2=0->J0 y.1.2.2.1.2.1=J0 x1.1.2.2.1.2.1):=by
 unfold J3K;refine .bind ((J1c h.1).eqn) λy2 h1=>.not (λM=>?_) λM=>?_
 ·have:J0 x1.1.2.2.1.2.1<=B:=h.1.c.1.2.1.1;exact .some ⟨(⟨fzr,fkn 15⟩),om⟩
 ·have Z:=J1m h.1 h1.2 M;have:=J3 (l:=x1.1.2.2.2.1.2.1);have:J0 x1.1.2.2.2.1.2.1=_:=Jj h.1.d.1.2.1;have k:Ty.fit 4096 8192 J7 x1.1:=Z.2;refine .ltf (λP=>?_) λP=>?_
  ·refine .ge (λI=>?_) λI=>?_
   ·exact .some ⟨(⟨fzr,fkn 1⟩),om⟩
   ·have K:Ty.fit 16384 1073741824 tq1 (x1.1,x1.2.1):=⟨k.u,h.2.z.1⟩;refine .bind (J7r K) λy3 a3=>.lt (λH=>?_) λH=>?_
    ·exact .some ⟨(⟨fzr,fkn 8⟩),om⟩
    ·have L:Ty.fit 16384 1073741824 tq1 (x1.1,x1.2.1):=⟨k.u,h.2.z.1⟩;refine .bind (J7r L) λy4 a4=>.gt (λJ=>?_) λJ=>?_
     ·exact .some ⟨(⟨fzr,fkn 9⟩),om⟩
     ·have R:Ty.fit 16384 S JKy (x1.1.2.2.2.1,x1.2):=⟨k.d.1.u,h.2.z.u⟩;refine .bind (JEB R) λj o=>?_;have:J0 j.2.2.2<=65:=o.1.d.1;have:=J3 (l:=j.2.2.2);have:J0 j.2.2.2=_:=Jj o.1.d;have:j.2.2.1=0->J0 j.2.2.2=J0 x1.1.2.2.2.1.2.1+1:=o.2;refine .ne (λT=>?_) λT=>?_
      ·exact .some ⟨(⟨fzr,o.1.c.1⟩),om⟩
      ·refine .bind (J92 (B:=4096) (S:=8192) (⟨k,h.2.z.1⟩)) λG U=>.ite (λQ=>?_) λQ=>?_
       ·have:=J0H (J0 j.2.2.2) 1;refine .bind (J5G (l:=j.2.2.2)) λ_ _=>.bind (JcI o.1.d) λn v=>?_;have:J0 (J0w j.2.2.2 (Int.toNat (JG .i64 (J0 j.2.2.2) 1)) (n.1,true,n.2.2))<=65:=(J4e (t:=J05) (i:=Int.toNat (JG .i64 (J0 j.2.2.2) 1)) (x:=(n.1,true,n.2.2)) o.1.d (⟨v.1.z.1.u,trivial,v.1.z.2.2⟩)).1;have:=J3 (l:=J0w j.2.2.2 (Int.toNat (JG .i64 (J0 j.2.2.2) 1)) (n.1,true,n.2.2));have:J0 (J0w j.2.2.2 (Int.toNat (JG .i64 (J0 j.2.2.2) 1)) (n.1,true,n.2.2))=_:=Jj (J4e (t:=J05) (i:=Int.toNat (JG .i64 (J0 j.2.2.2) 1)) (x:=(n.1,true,n.2.2)) o.1.d (⟨v.1.z.1.u,trivial,v.1.z.2.2⟩));have:J0 (J0w j.2.2.2 (Int.toNat (JG .i64 (J0 j.2.2.2) 1)) (n.1,true,n.2.2))=J0 j.2.2.2:=J5X;have:=J0H (J0 (J0w j.2.2.2 (Int.toNat (JG .i64 (J0 j.2.2.2) 1)) (n.1,true,n.2.2))) 1;refine .bind (J5G (l:=J0w j.2.2.2 (Int.toNat (JG .i64 (J0 j.2.2.2) 1)) (n.1,true,n.2.2))) λ_ _=>.bind (JcI (J4e (t:=J05) (i:=Int.toNat (JG .i64 (J0 j.2.2.2) 1)) (x:=(n.1,true,n.2.2)) o.1.d (⟨v.1.z.1.u,trivial,v.1.z.2.2⟩))) λA N=>?_;have:J0 x1.1.2.2.2.2.2.2.2<=4096:=k.i.1;have:=J3 (l:=x1.1.2.2.2.2.2.2.2);have:J0 x1.1.2.2.2.2.2.2.2=_:=Jj k.i;refine Jb (τ:=JfL) (λq=>(q.1,x1.1,x1.2,(0,0,(0,[],0),(0,[],0),([],[]),[],[],[]),J0w (J0w j.2.2.2 (Int.toNat (JG .i64 (J0 j.2.2.2) 1)) (n.1,true,n.2.2)) (Int.toNat (JG .i64 (J0 (J0w j.2.2.2 (Int.toNat (JG .i64 (J0 j.2.2.2) 1)) (n.1,true,n.2.2))) 1)) (A.1,A.2.1,G.1.2.1,A.2.2.2),j.1,j.2.1,G.1,q.2)) (λq=>(Ty.fit 0 0 (.i .i64) q.1/\0<=q.1/\(q.1<=J0 x1.1.2.2.2.2.2.2.2\/q.1<=0))/\(Ty.fit 4096 0 (.l Jc) q.2/\J0 q.2<=1*q.1+0)) (λq=>J0 x1.1.2.2.2.2.2.2.2-q.1) ?_ (0,[]) rfl ?_
        ·rintro⟨w,r⟩ F;dsimp only at F;obtain⟨⟨W,a1,a2⟩,C,a7⟩:=F;unfold J9s
         try dsimp only
         have:=J2.1 W;refine .lt (λO=>?_) λO=>?_
         ·refine .bind (Jh k.i) λa5 a6=>.ne (λV=>?_) λV=>?_
          ·refine .bind (Jh k.i) λa0 Y=>?_;have:J0 r<=4096:=C.1;have:=J3 (l:=r);have:J0 r=_:=Jj C;refine .bind (J0q (B:=4096) (Bl:=4096) (Bm:=1) (S:=0) (J0 r) 1 C (J0f (B:=1) (S:=0) (t:=Jc) oo Y.1)) λE D=>?_;have:=Jg w 1;have:J0 E=_:=Jj D.1;exact .some ⟨(J1 .i64 w 1,E),rfl,⟨⟨J5,om,om⟩,D.1,om⟩,om,om⟩
          ·have:=Jg w 1;have:J0 r=_:=Jj C;exact .some ⟨(J1 .i64 w 1,r),rfl,⟨⟨J5,om,om⟩,C,om⟩,om,om⟩
         ·exact .some ⟨(⟨⟨k.1,k.2.1,k.c.1,⟨o.1.1,(J4e (t:=J05) (i:=Int.toNat (JG .i64 (J0 (J0w j.2.2.2 (Int.toNat (JG .i64 (J0 j.2.2.2) 1)) (n.1,true,n.2.2))) 1)) (x:=(A.1,A.2.1,G.1.2.1,A.2.2.2)) (J4e (t:=J05) (i:=Int.toNat (JG .i64 (J0 j.2.2.2) 1)) (x:=(n.1,true,n.2.2)) o.1.d (⟨v.1.z.1.u,trivial,v.1.z.2.2⟩)) (⟨N.1.z.1.u,trivial,U.1.2.1,trivial⟩)).u,o.1.2.1⟩,k.e.1,k.g.1,k.h.1,C.u⟩,fk0⟩),om⟩
        ·have:J0 ([]:List T_api_Row)=0:=rfl
         try dsimp only
         exact⟨⟨fk0,oo,oo⟩,Ja,oo⟩
       ·exact .some ⟨(⟨⟨k.1,k.2.1,k.c.1,⟨o.1.1,o.1.d.u,o.1.2.1⟩,k.e⟩,fk0⟩),om⟩
  ·exact .some ⟨(⟨fzr,fkn 1⟩),om⟩
theorem JyY{B S:Int}{x1:JLw}(h:Ty.fit B S (.pr Jt J4) x1)(E:BS B S 0 0:=by omega):Tot (J4f x1) λy=>Ty.fit 0 8192 tq5 y:=by
 unfold J4f;have s0:Ty.fit 0 S (.pr Jt J4) x1:=h;refine .bind ((J2D (B:=0) (S:=S) (x1:=x1.2) s0.2).eqn) λH h1=>.nof (λr=>?_) λr=>?_
 ·have v3:=J2g (x:=x1.2) s0.2 h1.2 r;have g:Ty.fit 0 8192 J4 x1.2:=v3.2;refine .bind (J1I g) λF D=>.not (λA=>?_) λA=>?_
  ·exact .some (⟨⟨fk0,fk0,J0e oo oo (.ar 16 JC)⟩,fkn 12⟩)
  ·refine .bind ((J6D (B:=0) (S:=S) (x1:=x1.1) s0.1).eqn) λG j=>.ne (λk=>?_) λk=>?_
   ·exact .some (⟨⟨fk0,fk0,J0e oo oo (.ar 16 JC)⟩,j.1⟩)
   ·have v:=J6N (x:=x1.1) s0.1 j.2 k;have q:Ty.fit 0 12 Jt x1.1:=v.2;refine .ne (λn=>?_) λn=>?_
    ·exact .some (⟨⟨fk0,fk0,J0e oo oo (.ar 16 JC)⟩,fkn 6⟩)
    ·refine .ne (λo=>?_) λo=>?_
     ·exact .some (⟨⟨fk0,fk0,J0e oo oo (.ar 16 JC)⟩,fkn 13⟩)
     ·refine .bind (JkU (B:=0) (S:=8192) (⟨q.u,g.h.1⟩)) λC z=>?_;have e:Ty.fit 0 8192 tq5 C:=z.u;refine .ne (λw=>?_) λw=>?_
      ·exact .some (⟨⟨fk0,fk0,J0e oo oo (.ar 16 JC)⟩,e.2⟩)
      ·exact .some (⟨⟨e.1.1,g.1,e.1.c⟩,fk0⟩)
 ·exact .some (⟨⟨fk0,fk0,J0e oo oo (.ar 16 JC)⟩,fkn 12⟩)
section
variable {B S:Int}
theorem JBs{x1:J07×T_api_Row}(h:Ty.fit B S (.pr JR Jc) x1)(C:BC B S 0 0:=by omega):Tot (Jab x1) λy=>Ty.fit 4096 8192 JKu y:=by
 obtain⟨l,n,last,e⟩:=x1;obtain⟨hl,hp,j,r⟩:=h;unfold Jab;dsimp only;dsimp only at hl hp j r;have z0: ∀k:Int,Ty.fit 0 0 (.i .i64) k->Ty.fit 4096 8192 JKu (([]:List T_api_Entry),k):=λk hk=>⟨Ja,hk⟩;refine .bind ((J2j hl).eqn) λJ h2=>.not (λ_=>.some (z0 _ (fkn 26))) λc=>.ltf (λE=>.gef (λG=>.ltf (λI=>.lt (λ_=>.some (z0 _ (fkn 1))) λz=>?_) λ_=>.some (z0 _ (fkn 1))) λ_=>.some (z0 _ (fkn 1))) λ_=>.some (z0 _ (fkn 1));subst c;obtain⟨q,w⟩:=JkB hl h2.2;have v:=(J1V hl h2.2 rfl).2;refine Jb (τ:=Jvl) (λq=>(n,e,q.1,q.2,l)) (λq=>Ty.fit 4096 8192 (.l J4) q.1/\Ty.fit 0 0 (.i .i64) q.2/\(J0 q.1=0\/J0 q.1+q.2<=l.1+J0 l.2.1-1)) (λq=>q.2) ?_ ([],last) rfl ⟨Ja,j,.inl rfl⟩;rintro⟨out,at_⟩ ⟨g1,g2,A⟩;dsimp only at g1 g2 A;unfold Jif;dsimp only;refine .gt (λc=>?_) λc=>.inr (.lt (λ_=>.some (z0 _ (fkn 13))) λ_=>.some ⟨g1,fk0⟩);refine .bind ((J3T (x1:=(l,at_)) ⟨v,g2⟩).eqn) λo f4=>.ne (λ_=>.some (z0 _ (fkn 14))) λz=>.bind (J1I f4.1.1) λF H=>.nof (λ_=>.ne (λ_=>.some (z0 _ (fkn 13))) λ_=>?_) λ_=>.some (z0 _ (fkn 13));rcases JpZ f4.2 with⟨_,_,a1,a2,a3⟩|⟨_,b⟩
 ·obtain⟨e1,e2⟩:=w _ _ a3;have K:=(J2g f4.1.1 e2 rfl).1;have:=J3 (l:=out);have L:J0 out+1<=4096:=by omega
  unfold Jcd;dsimp only;refine .bind (.bind (J0q (B:=4096) (Bl:=4096) (Bm:=4096) (S:=8192) (t:=J4) 1 (J0 out) (J0f (B:=4096) (S:=8192) oo f4.1.1) g1 rfl rfl (J0D _) (J0D _) oo oo (by decide)) λy h=>.some h) λg x=>.some ⟨(g,o.1.2.2.2.2.1),rfl,⟨x.1,f4.1.1.2.2.2.2.1,?_⟩,?_,?_⟩
  ·have D:J0 g=1+J0 out:=x.2.1;show J0 g=0\/J0 g+o.1.2.2.2.2.1<=l.1+J0 l.2.1-1;omega
  ·show o.1.2.2.2.2.1<at_;omega
  ·show 0<=at_;omega
 ·exact absurd z b
end
theorem Jxv{B S:Int}{x1:Jrt}(h:Ty.fit B S (.pr JR tq5) x1)(w:BC B S 0 0:=by omega):Tot (J90 x1) λy=>Ty.fit 4096 8192 JKu y:=by
 unfold J90;refine .bind ((J2j h.1).eqn) λD h1=>.not (λo=>?_) λo=>?_
 ·exact .some (⟨Ja,fkn 26⟩)
 ·have v3:=J1V h.1 h1.2 o;have n:Ty.fit 4096 8192 JR x1.1:=v3.2;refine .bind ((J6D (B:=0) (S:=S) (x1:=x1.2.1) h.2.z.1).eqn) λA g=>.ne (λe=>?_) λe=>?_
  ·exact .some (⟨Ja,g.1⟩)
  ·have v:=J6N (x:=x1.2.1) h.2.z.1 g.2 e;have j:Ty.fit 0 12 Jt x1.2.1:=v.2;refine .lt (λq=>?_) λq=>?_
   ·exact .some (⟨Ja,fkn 1⟩)
   ·refine .ge (λr=>?_) λr=>?_
    ·exact .some (fzr)
    ·refine .bind (JBs (B:=4096) (S:=8192) (⟨n,j.1,h.2.z.2,j.2.1⟩)) λC k=>.some (k)
theorem JCj{B S:Int}{x1:Jrt}(h:Ty.fit B S (.pr JR tq5) x1)(D:BC B S 0 0:=by omega):Tot (J56 x1) λy=>Ty.fit 0 (S+8192) (.pr Jt J0a) y:=by
 unfold J56;refine .bind (Jxv (B:=B) (S:=S) (⟨h.1,h.2.z.1.u,h.2.z.2⟩)) λe h1=>.ne (λC=>?_) λC=>?_
 ·exact .some (⟨⟨fk0,fk0,J0e oo oo (.ar 16 JC)⟩,fk0,h1.2⟩)
 ·have:J0 e.1<=4096:=h1.1.1;have:=J3 (l:=e.1);have:J0 e.1=_:=Jj h1.1;refine Jb (τ:=JzL) (λq=>(e.1,q.1,x1.1,q.2,0,0,Vector.replicate 16 (false,[]))) (λq=>(Ty.fit 0 0 (.i .i64) q.1/\0<=q.1/\(q.1<=J0 e.1\/q.1<=0))/\Ty.fit 0 (S+8192) Jt q.2) (λq=>J0 e.1-q.1) ?_ (0,x1.2.1) rfl ?_
  ·rintro⟨g,w⟩ j;dsimp only at j;obtain⟨⟨x,G,E⟩,o⟩:=j;unfold Jbm
   try dsimp only
   have:=J2.1 x;refine .lt (λn=>?_) λn=>?_
   ·refine .bind (Jh h1.1) λF r=>.bind (JyY (B:=0) (S:=(S+8192)) (⟨o,r.1.z.u⟩)) λA k=>.ne (λv=>?_) λv=>?_
    ·exact .some (⟨⟨fk0,fk0,J0e oo oo (.ar 16 JC)⟩,fk0,k.2⟩)
    ·have:=Jg g 1;exact .some ⟨(J1 .i64 g 1,A.1),rfl,⟨⟨J5,om,om⟩,k.1.u⟩,om,om⟩
   ·exact .some (⟨o,J42 h1.1.1 oo,fk0⟩)
  ·try dsimp only
   exact⟨⟨fk0,oo,oo⟩,h.2.z.1.u⟩
theorem JDA{B S:Int}{x1:Jrt}(h:Ty.fit B S (.pr JR tq5) x1)(e:BC B S 0 0:=by omega):Tot (J4Z x1) λy=>Ty.fit 0 (S+8192) tq5 y:=by unfold J4Z;refine .bind (JCj (B:=B) (S:=S) (⟨h.1,h.2.z.1.u,h.2.z.2⟩)) λg h1=>.some (⟨h1.1,h1.c⟩)
theorem JAr{B S:Int}{x1:J7c}(h:Ty.fit B S tq7 x1)(F:BG B S:=by omega):Tot (Jaj x1) λy=>Ty.fit 128 12 tq7 y:=by
 unfold Jaj;refine .bind ((J3u h.1).eqn) λH h1=>.not (λz=>?_) λz=>?_
 ·exact .some (⟨fzr,fkn 15⟩)
 ·have v3:=J2F h.1 h1.2 z;have:J0 x1.1.2.1<=B:=h.1.2.1.1;have:=J3 (l:=x1.1.2.1);have:J0 x1.1.2.1=_:=Jj h.1.2.1;have e:Ty.fit 64 12 JK x1.1:=v3.2;refine .bind (J50 (B:=64) (S:=12) (⟨e,h.2⟩)) λq o=>?_;have:=J2.1 o.1;have: -1<=q/\q<J0 x1.1.2.1:=o.2;refine .lt (λw=>?_) λw=>?_
  ·exact .some (⟨fzr,fkn 18⟩)
  ·refine .bind (Jh e.2.1) λG E=>.ite (λC=>?_) λC=>?_
   ·exact .some (⟨fzr,fkn 23⟩)
   ·refine .bind (J5M e.2.1) λx j=>.clo j.1 oo (by decide) ?_;have:=Jg q 1;refine .bind (J3i e.2.1) λn k=>?_;have:J0 x=_:=Jj j.1;have:J0 n<=64:=k.1.1;have:=J3 (l:=n);have:J0 n=_:=Jj k.1;refine .bind (J0q (B:=128) (Bl:=64) (Bm:=64) (S:=12) (J0 x) (J0 n) j.1 k.1) λD g=>.lt (λr=>?_) λr=>?_
    ·have:=J0H x1.1.2.2 1;refine .ge (λv=>?_) λv=>?_
     ·exact .some (⟨⟨e.1,g.1,fk0⟩,fk0⟩)
     ·exact .some (⟨⟨e.1,g.1,J22⟩,fk0⟩)
    ·have:J0 D<=128:=g.1.1;refine .ge (λA=>?_) λA=>?_
     ·exact .some (⟨⟨e.1,g.1,fk0⟩,fk0⟩)
     ·exact .some (⟨⟨e.1,g.1,e.c⟩,fk0⟩)
end Go.Am
end
section
namespace Go.Am
set_option linter.unusedVariables false
set_option maxRecDepth 20000
set_option maxHeartbeats 4000000
section
variable {B S:Int}
def JI1{σ τ ρ:Type}(R:σ->τ->Prop)(o:Option (σ⊕ρ))(e:Option (τ⊕ρ)):Prop:=(o=none/\e=none)\/(∃y,o=some (.inr y)/\e=some (.inr y))\/ ∃a b,o=some (.inl a)/\e=some (.inl b)/\R a b
theorem Jwx{σ τ ρ:Type}{R:σ->τ->Prop}{L:σ->Option (σ⊕ρ)}{L':τ->Option (τ⊕ρ)}(h: ∀z g,R z g->JI1 R (L z) (L' g)){z:σ}{g:τ}(hz:R z g):Jf L z=Jf L' g:=by
 have j: ∀n z g,R z g->J26 L n z=J26 L' n g:=by
  intro n
  induction n with
  |zero=>intros;rfl
  |succ n ih=>
   intro z g hz;rcases h z g hz with⟨h1,h2⟩|⟨y,h1,h2⟩|⟨a,b,h1,h2,h3⟩
   ·simp only[J26,h1,h2]
   ·simp only[J26,h1,h2]
   ·simp only[J26,h1,h2];exact ih a b h3
 cases e:Jf L z with
 |some r=>
  obtain⟨n,hn⟩:=J2r.1 e;exact(J2r.2 ⟨n,(j n z g hz)▸hn⟩).symm
 |none=>
  cases e':Jf L' g with
  |none=>rfl
  |some r=>
   obtain⟨n,hn⟩:=J2r.1 e';rw[J2r.2 ⟨n,(j n z g hz).symm▸hn⟩]at e;cases e
def FrE(f g:J09):Prop:=f.1=g.1/\f.2.1=g.2.1/\f.2.2.1=g.2.2.1
def JdI(l m:List J09):Prop:=l.length=m.length/\ ∀(j:Nat) (f g:J09),l[j]?=some f->m[j]?=some g->FrE f g
theorem JdI.idx{l m:List J09}(h:JdI l m)(i:Int):(idx l i=none/\idx m i=none)\/ ∃f g,idx l i=some f/\idx m i=some g/\FrE f g:=by
 unfold Am.idx;by_cases e:0<=i
 ·rw[if_pos e,if_pos e];by_cases hl:i.toNat<l.length
  ·exact .inr ⟨_,_,JF hl,JF (h.1▸hl),h.2 _ _ _ (JF hl) (JF (h.1▸hl))⟩
  ·exact .inl ⟨zQ3 oo,zQ3 (by have:=h.1;omega)⟩
 ·rw[if_neg e,if_neg e];exact .inl ⟨rfl,rfl⟩
theorem JdI.refl(l:List J09):JdI l l:=⟨rfl,λj f g h1 h2=>by rw[h1]at h2;injection h2 with h2;subst h2;exact⟨rfl,rfl,rfl⟩⟩
theorem JdI.put{l m:List J09}(h:JdI l m){i:Int}{f g:J09}(hi:Am.idx m i=some f)(e:FrE g f):JdI l (J0w m i.toNat g):=by
 refine⟨by unfold J0w;rw[List.length_set];exact h.1,λj a b ha hb=>?_⟩;unfold J0w at hb;rw[List.getElem?_set]at hb;split at hb
 ·rename_i hj;split at hb
  ·injection hb with hb;subst hb;obtain⟨_,h2⟩:=J40 hi;rw[hj]at h2;obtain⟨q1,q2,q3⟩:=h.2 j a f ha h2;exact⟨q1.trans e.1.symm,q2.trans e.2.1.symm,q3.trans e.2.2.symm⟩
  ·cases hb
 ·exact h.2 j a b ha hb
theorem JNE(n i:Int)(p q:J00)(f g:J09)(hp:JdI p.2.1 q.2.1)(hf:FrE f g):(Jf J08 (n,i,0,p,f)=some (.inr false)/\Jf J08 (n,i,0,q,g)=some (.inr false))\/(Jf J08 (n,i,0,p,f)=some (.inl (n,J1 .i64 i 1,p))/\Jf J08 (n,i,0,q,g)=some (.inl (n,J1 .i64 i 1,q)))\/(Jf J08 (n,i,0,p,f)=none/\Jf J08 (n,i,0,q,g)=none):=by
 let w:J00->((TQ107)⊕Bool)->Bool:=λ_ r=>match r with| .inl _=>true| .inr b=>b
 have j: ∀m k,(J26 J08 m (n,i,k,p,f)=none/\J26 J08 m (n,i,k,q,g)=none)\/(J26 J08 m (n,i,k,p,f)=some (.inr false)/\J26 J08 m (n,i,k,q,g)=some (.inr false))\/(J26 J08 m (n,i,k,p,f)=some (.inl (n,J1 .i64 i 1,p))/\J26 J08 m (n,i,k,q,g)=some (.inl (n,J1 .i64 i 1,q))):=by
  intro m
  induction m with
  |zero=>intro k;exact .inl ⟨rfl,rfl⟩
  |succ m ih=>
   intro k;simp only[J26];unfold J08;dsimp only;by_cases hk:ltI k i=true
   ·rw[if_pos hk,if_pos hk];rcases hp.idx k with⟨e1,e2⟩|⟨a,b,e1,e2,v⟩
    ·rw[e1,e2];exact .inl ⟨rfl,rfl⟩
    ·rw[e1,e2,JJ,JJ,<-v.1,<-hf.1];by_cases hc:eqI a.1.1 f.1.1=true
     ·rw[if_pos hc,if_pos hc];exact .inr (.inl ⟨rfl,rfl⟩)
     ·rw[if_neg hc,if_neg hc];exact ih _
   ·rw[if_neg hk,if_neg hk];exact .inr (.inr ⟨rfl,rfl⟩)
 by_cases hx: ∃m r,J26 J08 m (n,i,0,p,f)=some r
 ·obtain⟨m,r,hm⟩:=hx;rcases j m 0 with⟨h1,_⟩|⟨h1,h2⟩|⟨h1,h2⟩
  ·rw[h1]at hm;cases hm
  ·exact .inl ⟨J2r.2 ⟨m,h1⟩,J2r.2 ⟨m,h2⟩⟩
  ·exact .inr (.inl ⟨J2r.2 ⟨m,h1⟩,J2r.2 ⟨m,h2⟩⟩)
 ·have o:Jf J08 (n,i,0,p,f)=none:=by
   cases e:Jf J08 (n,i,0,p,f)with
   |none=>rfl
   |some r=>obtain⟨m,hm⟩:=J2r.1 e;exact absurd ⟨m,r,hm⟩ hx
  have h:Jf J08 (n,i,0,q,g)=none:=by
   cases e:Jf J08 (n,i,0,q,g)with
   |none=>rfl
   |some r=>
    obtain⟨m,hm⟩:=J2r.1 e;rcases j m 0 with⟨_,h2⟩|⟨h1,_⟩|⟨h1,_⟩
    ·rw[h2]at hm;cases hm
    ·exact absurd ⟨m,_,h1⟩ hx
    ·exact absurd ⟨m,_,h1⟩ hx
  exact .inr (.inr ⟨o,h⟩)
theorem Js5{p q:J00}(hs:p.1=q.1)(hf:JdI p.2.1 q.2.1)(e:J0j p=some true)(F:0<=q.2.2)(h1:q.2.2<J0 q.2.1\/q.2.2=0):J0j q=some true:=by
 obtain⟨⟨E,M,D,G,H⟩,_⟩:=Jcl e;have el:J0 p.2.1=J0 q.2.1:=by unfold J0;rw[hf.1]
 have J:=Jhw 0 (JG .i64 (J0 q.2.1) 1);have I:=J0H (J0 q.2.1) 1;have K:=J3 (l:=q.2.1);have B: ∀x:J00,1<=x.1->x.1<=64->J0 x.2.1<=x.1->0<=x.2.2->(x.2.2<J0 x.2.1\/x.2.2=0)->J0j x=Jf J5v (J0 x.2.1,0,x):=by
  intro x a1 a2 a3 a4 A;have J:=Jhw 0 (JG .i64 (J0 x.2.1) 1);have I:=J0H (J0 x.2.1) 1;have K:=J3 (l:=x.2.1);unfold J0j;have v:ltI x.1 1=false:=by simp only[ltI,decide_eq_false_iff_not];omega
  have w:gtI x.1 64=false:=by simp only[gtI,decide_eq_false_iff_not];omega
  have k:gtI (J0 x.2.1) x.1=false:=by simp only[gtI,decide_eq_false_iff_not];omega
  have o:ltI x.2.2 0=false:=by simp only[ltI,decide_eq_false_iff_not];omega
  have L: ¬gtI x.2.2 (J1P 0 (JG .i64 (J0 x.2.1) 1))=true:=by simp only[gtI,decide_eq_true_eq];omega
  rw[if_pos v,if_pos w,if_pos k,if_pos o,if_neg L]
 rw[B p E M D G H]at e;rw[B q oo oo oo F h1,<-e]
 symm
 refine Jwx (R:=λz h=>z.1=J0 p.2.1/\h.1=J0 q.2.1/\z.2.1=h.2.1/\z.2.2=p/\h.2.2=q) ?_ ⟨rfl,rfl,rfl,rfl,rfl⟩;rintro⟨n,i,z⟩ ⟨N,O,h⟩ ⟨a1,a2,a3,a4,A⟩;dsimp only at a1 a2 a3 a4 A;subst a4;subst A;subst a3;subst a1;subst a2;unfold J5v;dsimp only;rw[el];have j: ∀{f g:J09},FrE f g->JI1 (fun(a b:TQ107)=>a.1=J0 h.2.1/\b.1=J0 h.2.1/\a.2.1=b.2.1/\a.2.2=z/\b.2.2=h) (Jf J08 (J0 h.2.1,i,0,z,f)) (Jf J08 (J0 h.2.1,i,0,h,g)):=fun{f g} C=>by
  rcases JNE (J0 h.2.1) i z h f g hf C with⟨b1,b2⟩|⟨b1,b2⟩|⟨b1,b2⟩
  ·exact .inr (.inl ⟨_,b1,b2⟩)
  ·exact .inr (.inr ⟨_,_,b1,b2,rfl,rfl,rfl,rfl,rfl⟩)
  ·exact .inl ⟨b1,b2⟩
 have y:JI1 (fun(a b:TQ107)=>a.1=J0 h.2.1/\b.1=J0 h.2.1/\a.2.1=b.2.1/\a.2.2=z/\b.2.2=h) (some (.inr false:(TQ107)⊕Bool)) (some (.inr false)):=.inr (.inl ⟨_,rfl,rfl⟩);by_cases hk:ltI i (J0 h.2.1)=true
 ·rw[if_pos hk,if_pos hk];rcases hf.idx i with⟨e1,e2⟩|⟨f,g,e1,e2,r⟩
  ·rw[e1,e2];exact .inl ⟨rfl,rfl⟩
  ·rw[e1,e2,JJ,JJ,<-r.1,<-r.2.1,<-r.2.2];cases hv:J1y f.1 with
   |none=>exact .inl ⟨rfl,rfl⟩
   |some b=>
    rw[JJ,JJ];by_cases hb:Jq b=false
    ·rw[if_pos hb,if_pos hb];by_cases hd:f.2.1=true
     ·rw[if_pos hd,if_pos hd];by_cases v:ltI f.2.2.1 1=false
      ·rw[if_pos v,if_pos v];by_cases w:gtI f.2.2.1 f.1.2.1=false
       ·rw[if_pos w,if_pos w];by_cases k:Jq f.2.1=true
        ·rw[if_pos k,if_pos k];by_cases o:neI f.2.2.1 0=true
         ·rw[if_pos o,if_pos o];exact y
         ·rw[if_neg o,if_neg o];exact j r
        ·rw[if_neg k,if_neg k];exact j r
       ·rw[if_neg w,if_neg w];exact y
      ·rw[if_neg v,if_neg v];exact y
     ·rw[if_neg hd,if_neg hd];by_cases k:Jq f.2.1=true
      ·rw[if_pos k,if_pos k];by_cases o:neI f.2.2.1 0=true
       ·rw[if_pos o,if_pos o];exact y
       ·rw[if_neg o,if_neg o];exact j r
      ·rw[if_neg k,if_neg k];exact j r
    ·rw[if_neg hb,if_neg hb];exact y
 ·rw[if_neg hk,if_neg hk];exact .inr (.inl ⟨_,rfl,rfl⟩)
theorem JJn{p:J00}{id:Int}(hp:J0 p.2.1<=64){k:Int}{f:J09}(hk:idx p.2.1 k=some f)(hf:f.1.1=id): ∀{j:Int},J1K (p,id)=some j->0<=j:=by
 intro j hj;have n:Par (J1K (p,id)) λj=>0<=j:=by
  unfold J1K;dsimp only;obtain⟨o,k1⟩:=J40 hk;have v:=J5P k1;refine .while (λz=>z.1=id/\z.2.2=p/\0<=z.2.1/\z.2.1<=k) ⟨rfl,rfl,J0D _,o⟩ ?_;rintro⟨a,i,q⟩ ⟨h1,h2,h3,h4⟩;dsimp only at h1 h2 h3 h4;subst h1;subst h2;unfold J7S;dsimp only;have:=Jg i 1;refine .lt (λc=>.bind λg h=>.eq (λ_=>.some h3) λr=>.some ⟨rfl,rfl,?_,?_⟩) λc=>?_
  ·show 0<=J1 .i64 i 1;omega
  ·show J1 .i64 i 1<=k;by_cases e:i=k
   ·subst e;rw[hk]at h;injection h with h;subst h;exact absurd hf r
   ·omega
  ·exfalso;omega
 exact n _ hj
theorem InP.of{p:J00}{id:Int}(hv:J0j p=some true){k:Int}{f:J09}(hk:idx p.2.1 k=some f)(hf:f.1.1=id)(e:Ty.fit B S JK p)(hi:Ty.fit 0 0 (.i .i64) id)(g:BS B S 0 0:=by omega)(o:B<=9223372036854775807:=by omega):InP p id:=by obtain⟨⟨_,h,n,_⟩,_⟩:=Jcl hv;obtain⟨j,hj,_⟩:=J50 (B:=B) (S:=S) (x1:=(p,id)) ⟨e,hi⟩;refine⟨j,?_,JJn oo hk hf hj⟩;unfold J1p;dsimp only;rw[hv,JJ,if_neg (by simp[Jq]),hj];rfl
def Jtw(l:List J09):Int:=(l.countP λf=>f.2.2.2:Nat)
theorem Jwa{x1:J00}(h:Ty.fit B S JK x1)(L:BC B S 0 0:=by omega):Tot (J8d x1) λy=>Ty.fit 64 12 JJX y/\(J0j x1=some true->1<=J0 x1.2.1->J0j y.1=some true/\InP y.1 y.2.1/\y.1.1=x1.1/\J0 y.1.2.1=J0 x1.2.1):=by
 unfold J8d;refine .bind ((J3u h).eqn) λR h2=>.not (λc=>.some ⟨⟨fzr,fk0,fkn 15⟩,λe=>by rw[e]at h2;have q:=h2.2;injection q with q;subst q;cases c⟩) λc=>.eq (λJ=>.some ⟨⟨fzr,fk0,fkn 18⟩,λ_ _=>by omega⟩) λJ=>?_;subst c;have hv:=h2.2;obtain⟨⟨N,Q,M,G,O⟩,hd⟩:=J2F h hv rfl;have:=J3 (l:=x1.2.1);have hl:1<=J0 x1.2.1:=by omega
 refine Jb (τ:=J00) (λq=>(q,0,[],0)) (λq=>q.1=x1.1/\JdI x1.2.1 q.2.1/\0<=q.2.2/\q.2.2<J0 x1.2.1/\Ty.fit 64 12 JK q) (λq=>Jtw q.2.1) ?_ x1 rfl ⟨rfl,JdI.refl _,G,oo,hd⟩;rintro p ⟨g1,g2,D,P,o⟩;have el:J0 x1.2.1=J0 p.2.1:=by unfold J0;rw[g2.1]
 unfold Jeu;dsimp only;have n:p.2.2.toNat<p.2.1.length:=by unfold J0 at*;omega
 have v:idx p.2.1 p.2.2=some p.2.1[p.2.2.toNat]:=by unfold idx;rw[if_pos D,JF n]
 have g:=o.2.1.2 _ (Jej n);have j:p.2.1[p.2.2.toNat]?=some p.2.1[p.2.2.toNat]:=JF n;generalize p.2.1[p.2.2.toNat]=f at v g j;rw[v];show Tot (if f.2.2.2=true then _ else _) _;refine .ite (λC=>?_) λC=>.inr ?_
 ·show Tot ((J2q (p,p.2.2,f.1,f.2.1,f.2.2.1,false)).bind _) _;have es:J2q (p,p.2.2,f.1,f.2.1,f.2.2.1,false)=some (p.1,J0w p.2.1 p.2.2.toNat (f.1,f.2.1,f.2.2.1,false),p.2.2):=by
   unfold J2q;obtain⟨r,hr,e⟩:=(JtN (bytes:=424) o.2.1 oo (by decide));subst e;have q3:J1g (α:=J09) 424 p.2.1=some p.2.1:=hr;dsimp only;rw[q3,JJ];have K:inb p.2.1.length p.2.2=some ():=by unfold inb;rw[if_pos ⟨D,oo⟩]
   have I:lat p.2.1 p.2.2.toNat=some f:=by unfold lat;exact j
   rw[K,JJ,I,JJ]
  rw[es,JJ];dsimp only;have E:J0 (J0w p.2.1 p.2.2.toNat (f.1,f.2.1,f.2.2.1,false))=J0 p.2.1:=J5X;rw[E];have:=Jg p.2.2 1;refine .bind (JAy (k:=.i64) (B:=0) (S:=0) (x:=J1 .i64 p.2.2 1) (y:=J0 p.2.1) J5 oo) λz A=>.some ⟨(p.1,J0w p.2.1 p.2.2.toNat (f.1,f.2.1,f.2.2.1,false),z),rfl,⟨g1,g2.put v ⟨rfl,rfl,rfl⟩,?_,?_,o.1,J4e o.2.1 ⟨g.1,g.2.1,g.2.2.1,trivial⟩,A.1⟩,?_,?_⟩
  ·show 0<=z;exact A.2.1 oo
  ·show z<J0 x1.2.1;have:=A.c oo;omega
  ·show Jtw (J0w p.2.1 p.2.2.toNat (f.1,f.2.1,f.2.2.1,false))<Jtw p.2.1;unfold Jtw J0w;rw[List.countP_set n];have F:p.2.1[p.2.2.toNat]=f:=by have:=JF n;rw[j]at this;injection this with this;exact this.symm
   rw[F];have H:0<p.2.1.countP (λf=>f.2.2.2):=List.countP_pos_iff.2 ⟨f,zQ9 j,C⟩;rw[if_pos C,if_neg (by simp)];omega
  ·show 0<=Jtw p.2.1;exact Int.natCast_nonneg _
 ·show Tot ((some f).bind _) _;rw[JJ];have w:J0j p=some true:=Js5 g1.symm g2 hv D (.inl oo);refine .some ⟨⟨o,g.1.1,fk0⟩,λ_ _=>⟨w,InP.of (B:=64) (S:=12) w v rfl o g.1.1,g1,el.symm⟩⟩
theorem JBY{x1:J9}(h:Ty.fit B S J7 x1)(w:BG B S:=by omega):Tot (J4U x1) λy=>Ty.fit 16384 1073741824 (.pr J7 (.pr Jt (.pr .b (.i .i64)))) y/\(y.2.2.2=0->J0 y.1.2.2.1.2.1=J0 x1.2.2.1.2.1/\J0 x1.2.2.1.2.1<=4096):=by
 unfold J4U;have g:Ty.fit 16384 1073741824 Jt (0,0,Vector.replicate 16 (false,[])):=⟨fk0,fk0,J0e oo oo (.ar 16 JC)⟩;have v:Ty.fit 16384 1073741824 J7 (0,0,(0,[],0),(0,[],0),([],[]),[],[],[]):=J0e oo oo J7;refine .bind ((J1c h).eqn) λC h2=>.not (λc=>.some ⟨⟨v,g,trivial,fkn 15⟩,λc=>by cases c⟩) λc=>?_;subst c;obtain⟨q,hk⟩:=J1m h h2.2 rfl;have o:=J4l h2.2;refine .lt (λc=>.some ⟨⟨hk.u,g,trivial,fk0⟩,λ_=>⟨rfl,q.2.2.2.2.2.2.2.1⟩⟩) λc=>.bind (Jwa hk.2.2.2.1) λe h3=>?_;obtain⟨a1,a2,a3,a4⟩:=h3.2 o.2.1 oo;refine .bind ((J4V (B:=64) (S:=12) (x1:=(e.1,e.2.1)) ⟨h3.1.1,h3.1.2.1⟩).eqn) λA h4=>?_;have k:=Jrd a2 h4.2;refine .bind (Jh h3.1.1.2.1 k h4.1.c) λn h5=>.not (λ_=>?_) λ_=>?_
 ·exact .bind (JAr (B:=16384) (S:=1073741824) (x1:=(e.1,e.2.1)) ⟨h3.1.1.u,h3.1.2.1⟩) λz r=>.some ⟨⟨⟨hk.1,hk.2.1,hk.2.2.1.u,r.1.u,hk.2.2.2.2.u⟩,g,trivial,fk0⟩,λ_=>⟨rfl,q.2.2.2.2.2.2.2.1⟩⟩
 ·exact .bind (J98 (B:=16384) (S:=1073741824) (x1:=((x1.1,x1.2.1,x1.2.2.1,e.1,x1.2.2.2.2),n.1.2.1)) ⟨⟨hk.1,hk.2.1,hk.2.2.1.u,h3.1.1.u,hk.2.2.2.2.u⟩,h5.1.1.2.1⟩) λx j=>.some ⟨⟨j.1,h5.1.1.u,trivial,fk0⟩,λ_=>⟨j.2,q.2.2.2.2.2.2.2.1⟩⟩
end
theorem JC0{B S:Int}{x1:Jw}(h:Ty.fit B S Jk x1)(x:BG B S:=by omega):Tot (J4X x1) λy=>Ty.fit B S tq3 y/\(y.2=0->J0 x1.1.2.2.1.2.1<=J0 y.1.1.2.2.1.2.1):=by
 unfold J4X;refine Jb (τ:=Jw) (λq=>(q,(0,0,(0,[],0),(0,[],0),([],[]),[],[],[]),[],0,[],false,[])) (λq=>Ty.fit B S Jk q/\(J0 x1.1.2.2.1.2.1<=J0 q.1.2.2.1.2.1)) (λq=>4097-J0 q.1.2.2.1.2.1) ?_ x1 rfl ?_
 ·rintro j ⟨o,z2⟩;unfold Jbk
  try dsimp only
  have:J0 x1.1.2.2.1.2.1=_:=Jj h.1.c.1.2.1;have:J0 j.1.2.2.1.2.1=_:=Jj o.1.2.2.1.2.1;refine .bind (JBY o.1) λk g=>?_;have:J0 k.1.2.2.1.2.1<=16384:=g.1.1.c.1.2.1.1;have:=J3 (l:=k.1.2.2.1.2.1);have:J0 k.1.2.2.1.2.1=_:=Jj g.1.1.c.1.2.1;have:k.2.2.2=0->J0 k.1.2.2.1.2.1=J0 j.1.2.2.1.2.1/\J0 j.1.2.2.1.2.1<=4096:=g.2;refine .ne (λv=>?_) λv=>?_
  ·exact .some ⟨(⟨⟨fzr,Ja,fk0,Ja,trivial,Ja⟩,g.1.2.z.2.2⟩),om⟩
  ·refine .not (λw=>?_) λw=>?_
   ·exact .some ⟨(⟨⟨g.1.1.u,o.2⟩,fk0⟩),om⟩
   ·refine .bind (JkT (B:=B) (S:=S) (⟨o,g.1.1.u,g.1.2.z.1.u⟩)) λn e=>?_;have:J0 n.1.1.2.2.1.2.1<=16384:=e.1.1.1.c.1.2.1.1;have:=J3 (l:=n.1.1.2.2.1.2.1);have:J0 n.1.1.2.2.1.2.1=_:=Jj e.1.1.1.c.1.2.1;have:n.2=0->J0 n.1.1.2.2.1.2.1=J0 k.1.2.2.1.2.1+1:=e.2;refine .ne (λr=>?_) λr=>?_
    ·exact .some ⟨(⟨⟨fzr,Ja,fk0,Ja,trivial,Ja⟩,e.1.2⟩),om⟩
    ·exact .some ⟨n.1,rfl,⟨e.1.1.u,om⟩,om,om⟩
 ·have:J0 x1.1.2.2.1.2.1<=B:=h.1.c.1.2.1.1
  try dsimp only
  exact⟨h,om⟩
theorem J6E{B S:Int}{x1:J3z}(h:Ty.fit B S tq3 x1)(J:BG B S:=by omega)(P:S<=9223372036854775807:=by omega):Tot (J2k x1) λy=>Ty.fit B S tq3 y/\(y.2=0->J0 x1.1.1.2.2.1.2.1<=J0 y.1.1.2.2.1.2.1):=by
 unfold J2k;refine .bind ((J1c h.1.1).eqn) λQ h1=>.not (λA=>?_) λA=>?_
 ·have:J0 x1.1.1.2.2.1.2.1<=B:=h.1.1.c.1.2.1.1;exact .some ⟨(⟨⟨fzr,Ja,fk0,Ja,trivial,Ja⟩,fkn 15⟩),om⟩
 ·have H:=J1m h.1.1 h1.2 A;have:J0 x1.1.1.2.2.1.2.1=_:=Jj h.1.1.c.1.2.1;have G:Ty.fit 4096 8192 J7 x1.1.1:=H.2;refine .ltf (λD=>?_) λD=>?_
  ·refine .ge (λw=>?_) λw=>?_
   ·exact .some ⟨(⟨⟨fzr,Ja,fk0,Ja,trivial,Ja⟩,fkn 1⟩),om⟩
   ·refine .bind ((J4V (B:=4096) (S:=8192) (x1:=(x1.1.1.2.2.2.1,x1.2)) (⟨G.d.1,h.2⟩)).eqn) λL I=>.ge (λz=>?_) λz=>?_
    ·exact .some ⟨(⟨h.1,fk0⟩),om⟩
    ·refine .bind (JC0 h.1) λj e=>?_;have:J0 j.1.1.2.2.1.2.1=_:=Jj e.1.1.1.c.1.2.1;have:j.2=0->J0 x1.1.1.2.2.1.2.1<=J0 j.1.1.2.2.1.2.1:=e.2;refine .ne (λC=>?_) λC=>?_
     ·exact .some ⟨(⟨⟨fzr,Ja,fk0,Ja,trivial,Ja⟩,e.1.2⟩),om⟩
     ·refine .bind (JBC (B:=B) (S:=S) (⟨e.1.1.2,h.2⟩)) λN q=>.ne (λF=>?_) λF=>?_
      ·exact .some ⟨(⟨⟨fzr,Ja,fk0,Ja,trivial,Ja⟩,q.2⟩),om⟩
      ·refine .bind (J7r (B:=B) (S:=S) (⟨e.1.1.1,h.2⟩)) λO o=>.bind (JyF (B:=B) (S:=S) (⟨e.1.1.1.h.1,h.2,o,q.1.u⟩)) λK n=>.ne (λE=>?_) λE=>?_
       ·exact .some ⟨(⟨⟨fzr,Ja,fk0,Ja,trivial,Ja⟩,n.2⟩),om⟩
       ·refine .bind (JDA (B:=B) (S:=S) (⟨e.1.1.1.c.1,n.1.u,o⟩)) λM k=>.ne (λv=>?_) λv=>?_
        ·exact .some ⟨(⟨⟨fzr,Ja,fk0,Ja,trivial,Ja⟩,k.2⟩),om⟩
        ·refine .bind (JuA (B:=B) (S:=(S+8192)) (⟨e.1.1.1.u,k.1.u⟩)) λr g=>?_;have:J0 r.1.2.2.1.2.1=_:=Jj g.1.1.c.1.2.1;have:r.2=0->J0 r.1.2.2.1.2.1=J0 j.1.1.2.2.1.2.1:=g.2;refine .ne (λx=>?_) λx=>?_
         ·exact .some ⟨(⟨⟨fzr,Ja,fk0,Ja,trivial,Ja⟩,g.1.2⟩),om⟩
         ·exact .some ⟨(⟨⟨g.1.1.u,e.1.1.2⟩,fk0⟩),om⟩
  ·exact .some ⟨(⟨⟨fzr,Ja,fk0,Ja,trivial,Ja⟩,fkn 1⟩),om⟩
section
variable {B S:Int}
def J3g(k y:J9):Prop:=y.2.2.2.2.2.1=k.2.2.2.2.2.1/\y.2.2.1.1=k.2.2.1.1/\ ∃m,y.2.2.1.2.1=k.2.2.1.2.1++m
theorem J3g.refl(k:J9):J3g k k:=⟨rfl,rfl,[],(J52 _).symm⟩
theorem J3g.trans{a b c:J9}(h:J3g a b)(g:J3g b c):J3g a c:=by obtain⟨h1,h2,m,h3⟩:=h;obtain⟨g1,g2,n,e⟩:=g;exact⟨g1.trans h1,g2.trans h2,m++n,by rw[e,h3,J7D]⟩
def Jcj(p:J00)(id:Int):Prop:= ∃f∈p.2.1,f.1.1=id
theorem Jcj.inP{p:J00}{id:Int}(h:Jcj p id)(hv:J0j p=some true)(n:Ty.fit B S JK p)(o:BS B S 0 0:=by omega)(q:B<=9223372036854775807:=by omega):InP p id:=by obtain⟨f,hf,e⟩:=h;obtain⟨j,hj⟩:=JgI.1 hf;have g:=n.2.1.2 f hf;refine InP.of hv (k:=j) (f:=f) ?_ e n (e▸g.1.1);unfold idx;rw[if_pos (Int.natCast_nonneg j)];simpa using hj
theorem Jl9{l:J07}{n:Int}{y:J73}(e:J2G (l,n)=some y)(c:y.2=0):y.1.1=l.1/\y.1.2.1=l.2.1:=by
 have g:Par (J2G (l,n)) λy=>y.2=0->y.1.1=l.1/\y.1.2.1=l.2.1:=by unfold J2G;exact .bind λ_ _=>.not (λ_=>.some nofun) λ_=>.bind λ_ _=>.gt (λ_=>.some nofun) λ_=>.some λ_=>⟨rfl,rfl⟩
 exact g _ e c
theorem Jz0{k:J9}{n:Int}{y:J9}(e:J2E (k,n)=some y):J3g k y/\y.2.2.2.1=k.2.2.2.1:=by
 have g:Par (J2E (k,n)) λy=>J3g k y/\y.2.2.2.1=k.2.2.2.1:=by
  unfold J2E;refine .bind λa ha=>.bind λb hb=>.eq (λc=>.some ⟨⟨rfl,?_,[],?_⟩,rfl⟩) λ_=>.some ⟨J3g.refl k,rfl⟩
  ·exact(Jl9 hb c).1
  ·rw[J52];exact(Jl9 hb c).2
 exact g _ e
theorem Jyc{l:List Ju}{x:T_api_Entry}{y:J2t}(e:J0G (l,x)=some y)(h:x.2.2.1=0)(c:y.2=0):y.1=l:=by
 have g:Par (J0G (l,x)) λy=>y.2=0->y.1=l:=by unfold J0G;exact .bind λ_ _=>.not (λ_=>.some nofun) λ_=>.bind λ_ _=>.not (λ_=>.some nofun) λ_=>.eq (λ_=>.some λ_=>rfl) λc=>absurd h c
 exact g _ e c
theorem JAv{x:Jw9}{y:Jdl}(e:J1h x=some y)(c:y.2.2=0)(C:x.2.2.2.1=0):J3g x.1 y.1:=by
 have D:Par (J1h x) λy=>y.2.2=0->J3g x.1 y.1:=by
  obtain⟨k,n,B,M,L,I,r⟩:=x;dsimp only at C;subst C;unfold J1h;dsimp only;have z: ∀{a b:Int} {g:Jt0} {v:JjS} {h:J2t} {E:List T_api_Row},J1k (k.2.2.1,(n,B,0,a,b,r))=some g->g.2.2=0->J0M (g.1,g.2.1)=some v->J0G (k.2.2.2.2.2.1,v.1)=some h->h.2=0->J3g k (k.1,k.2.1,g.1,k.2.2.2.1,k.2.2.2.2.1,h.1,E,k.2.2.2.2.2.2.2):=fun{a b g v h E} q o A w j=>by have F:=JGh q o A w j;obtain⟨_,_,a3,_⟩:=Jbr q o;subst a3;exact⟨Jyc w (by rw[F]) j,rfl,_,rfl⟩
  refine .bind λ_ _=>.not (λ_=>.some nofun) λ_=>.gt (λc=>absurd c (by decide)) λ_=>.bind λJ _=>.ite (λ_=>.bind λK _=>?_) λ_=>?_
  all_goals
   refine .bind λg q=>.ne (λc=>.some λd=>absurd d c) λo=>.bind λv A=>.bind λh w=>.ne (λc=>.some λd=>absurd d c) λj=>.bind λG _=>.ne (λc=>.some λd=>absurd d c) λH=>.some λ_=>z q o A w j
 exact D _ e c
theorem Jtz{x:Jdl}{y:J1R}(e:J3l x=some y)(c:y.2=0):J3g x.1 y.1:=by
 have g:Par (J3l x) λy=>y.2=0->J3g x.1 y.1:=by
  unfold J3l;refine .bind λ_ _=>.not (λ_=>.some nofun) λ_=>.ltf (λ_=>.gef (λ_=>.ltf (λ_=>.bind λ_ _=>.gt (λ_=>.some nofun) λ_=>.bind λj hj=>.ge (λ_=>.bind λp hp=>.ne (λc=>.some λd=>absurd d c) λ_=>?_) λ_=>?_) λ_=>.some nofun) λ_=>.some nofun) λ_=>.some nofun
  all_goals
   refine .bind λn h=>.ne (λc=>.some λd=>absurd d c) λk=>.some λ_=>JAv h k rfl
 exact g _ e c
theorem Jy0{x:JKl}{y:J3z}(e:J3t x=some y)(c:y.2=0):J3g x.2.1 y.1.1:=by
 have g:Par (J3t x) λy=>y.2=0->J3g x.2.1 y.1.1:=by unfold J3t;exact .bind λ_ _=>.bind λ_ _=>.ne (λc=>.some λd=>absurd d c) λ_=>.bind λj h4=>.ne (λc=>.some λd=>absurd d c) λh=>.some λ_=>Jtz h4 h
 exact g _ e c
theorem Joy{x:J9}{y:J9×JW×Bool×Int}(e:J4U x=some y)(c:y.2.2.2=0):J3g x y.1:=by
 have g:Par (J4U x) λy=>y.2.2.2=0->J3g x y.1:=by
  unfold J4U;refine .bind λ_ _=>.not (λ_=>.some nofun) λ_=>.lt (λ_=>.some λ_=>J3g.refl _) λ_=>.bind λv _=>.bind λ_ _=>.bind λ_ _=>.not (λ_=>.bind λd _=>.some λ_=>?_) λ_=>.bind λj h=>.some λ_=>?_
  ·exact⟨rfl,rfl,[],(J52 _).symm⟩
  ·obtain⟨⟨a1,a2,m,a3⟩,_⟩:=Jz0 h;exact⟨a1,a2,m,a3⟩
 exact g _ e c
theorem JCJ{x:Jw}{y:J3z}(e:J4X x=some y)(c:y.2=0):J3g x.1 y.1.1:=by
 have g:Par (J4X x) λy=>y.2=0->J3g x.1 y.1.1:=by unfold J4X;refine .while (λz=>J3g x.1 z.1.1) (J3g.refl _) ?_;rintro⟨s,z⟩ hz;dsimp only at hz;unfold Jbk;dsimp only;exact .bind λk h3=>.ne (λc=>.some λd=>absurd d c) λh=>.not (λ_=>.some λ_=>hz.trans (Joy h3 h)) λ_=>.bind λn h4=>.ne (λc=>.some λd=>absurd d c) λj=>.some ((hz.trans (Joy h3 h)).trans (Jy0 h4 j))
 exact g _ e c
theorem Jq2{p:J00}{x:JW}{y:Int×Int×Int×List J09}(e:J5S (p,x)=some y)(c:y.2.2.1=0):y.2.2.2=p.2.1++[(x,false,0,true)]:=by
 have h:Par (J5S (p,x)) λy=>y.2.2.1=0->y.2.2.2=p.2.1++[(x,false,0,true)]:=by
  unfold J5S;refine .bind λ_ _=>.not (λ_=>.some nofun) λ_=>.bind λ_ _=>.ne (λc=>.some λd=>absurd d c) λ_=>.bind λ_ _=>.ge (λ_=>.some nofun) λ_=>.eq (λ_=>.some nofun) λ_=>.bind λk h5=>.bind λn g=>.some λ_=>?_;have j:k=p.2.1:=by
   unfold J1g at h5;split at h5
   ·injection h5 with h5;exact h5.symm
   ·cases h5
  subst j;unfold Jy at g;split at g
  ·injection g with g;exact g.symm
  ·cases g
 exact h _ e c
theorem JAB{l:List J09}{i:Nat}{f g:J09}{id:Int}(hi:lat l i=some f)(o:g.1=f.1)(h: ∃a∈l,a.1.1=id): ∃a∈J0w l i g,a.1.1=id:=by
 obtain⟨a,ha,e⟩:=h;obtain⟨j,hj⟩:=JgI.1 ha;unfold lat at hi;have n:=(J5f.1 hi).1;by_cases k:i=j
 ·subst k;rw[hi]at hj;injection hj with hj;subst hj
  exact⟨g,JgI.2 ⟨i,by unfold J0w;rw[Jnp n]⟩,by rw[o];exact e⟩
 ·exact⟨a,JgI.2 ⟨j,by unfold J0w;rw[JjD k];exact hj⟩,e⟩
theorem JvD{x:JJO}{y:J1R}(e:J3K x=some y)(c:y.2=0):J3g x.1 y.1/\Jcj y.1.2.2.2.1 x.2.1:=by
 have q:Par (J3K x) λy=>y.2=0->J3g x.1 y.1/\Jcj y.1.2.2.2.1 x.2.1:=by
  unfold J3K;refine .bind λ_ _=>.not (λ_=>.some nofun) λ_=>.ltf (λ_=>.ge (λ_=>.some nofun) λ_=>.bind λ_ _=>.lt (λ_=>.some nofun) λ_=>.bind λ_ _=>.gt (λ_=>.some nofun) λ_=>.bind λo h5=>.ne (λc=>.some λd=>absurd d c) λv=>.bind λw _=>.ite (λ_=>.bind λ_ _=>.bind λn A=>.bind λ_ _=>.bind λh j=>?_) λ_=>.some λ_=>?_) λ_=>.some nofun
  ·have ep:=Jq2 h5 v;have B: ∃a∈o.2.2.2,a.1.1=x.2.1:=by rw[ep];exact⟨_,List.mem_append_right _ (JqU.2 rfl),rfl⟩
   have h2:=JAB (g:=(n.1,true,n.2.2)) A rfl B;have h3:=JAB (g:=(h.1,h.2.1,w.1.2.1,h.2.2.2)) j rfl h2;refine .while (λz=>z.2.1=x.1/\ ∃a∈z.2.2.2.2.1,a.1.1=x.2.1) ⟨rfl,h3⟩ ?_;rintro⟨i,k,p,C,D,a,b,r,rest⟩ ⟨hk,hz⟩;dsimp only at hk hz;subst hk;unfold J9s;dsimp only;exact .lt (λ_=>.bind λ_ _=>.ne (λ_=>.bind λ_ _=>.bind λ_ _=>.some ⟨rfl,hz⟩) λ_=>.some ⟨rfl,hz⟩) λ_=>.some λ_=>⟨⟨rfl,rfl,[],(J52 _).symm⟩,hz⟩
  ·have ep:=Jq2 h5 v;refine⟨⟨rfl,rfl,[],(J52 _).symm⟩,?_⟩;show∃a∈o.2.2.2,a.1.1=x.2.1;rw[ep];exact⟨_,List.mem_append_right _ (JqU.2 rfl),rfl⟩
 exact q _ e c
theorem Jei{x:J3S}{y:J91}(e:J33 x=some y)(c:y.2=0):y.1.1=x.2:=by
 have g:Par (J33 x) λy=>y.2=0->y.1.1=x.2:=by unfold J33;refine .ltf (λ_=>.ge (λ_=>.some nofun) λ_=>.bind λj _=>.eq (λ_=>.bind λh h3=>.some λ_=>?_) λ_=>.eq (λ_=>.ne (λ_=>.some nofun) λc=>.some λ_=>c) λc=>.some λd=>absurd d c) λ_=>.some nofun;unfold J8J at h3;injection h3 with h3;subst h3;rfl
 exact g _ e c
theorem JxQ{x:(List T_api_Row)×Int×Int×List UInt8}{y:J91}(e:J4g x=some y)(c:y.2=0):y.1.1=x.2.1:=by
 have g:Par (J4g x) λy=>y.2=0->y.1.1=x.2.1:=by unfold J4g;exact .bind λ_ _=>.not (λ_=>.some nofun) λ_=>.ltf (λ_=>.gef (λ_=>.lt (λ_=>.some nofun) λ_=>.bind λj h3=>.ne (λc=>.some λd=>absurd d c) λh=>.gt (λ_=>.bind λ_ _=>.gt (λ_=>.some nofun) λ_=>.bind λ_ _=>.lt (λ_=>.some nofun) λ_=>.some λ_=>Jei h3 h) λ_=>.bind λ_ _=>.lt (λ_=>.some nofun) λ_=>.some λ_=>Jei h3 h) λ_=>.some nofun) λ_=>.some nofun
 exact g _ e c
theorem Jz4{x:JLw}{y:J91}(e:J4f x=some y)(c:y.2=0):y.1.1=x.1.1:=by
 have h: ∀{p:JW} {d:J1e} {y:J91},J3w (p,d)=some y->y.2=0->y.1.1=p.1:=fun{p d y} e c=>by
  have g:Par (J3w (p,d)) λy=>y.2=0->y.1.1=p.1:=by unfold J3w;exact .bind λ_ _=>.not (λ_=>.some nofun) λ_=>.ne (λ_=>.some nofun) λ_=>.bind λ_ _=>.bind λ_ _=>.not (λ_=>.some nofun) λ_=>.bind λ_ _=>.bind λ_ _=>.some λ_=>rfl
  exact g _ e c
 have g:Par (J4f x) λy=>y.2=0->y.1.1=x.1.1:=by unfold J4f;exact .bind λ_ _=>.nof (λ_=>.bind λ_ _=>.not (λ_=>.some nofun) λ_=>.bind λ_ _=>.ne (λc=>.some λd=>absurd d c) λ_=>.ne (λ_=>.some nofun) λ_=>.ne (λ_=>.some nofun) λ_=>.bind λk h5=>.ne (λc=>.some λd=>absurd d c) λj=>.some λ_=>by have q:=h h5 j;exact q) λ_=>.some nofun
 exact g _ e c
theorem JDV{x:Jrt}{y:J91}(e:J4Z x=some y)(c:y.2=0):y.1.1=x.2.1.1:=by
 have j: ∀{y:JH1},J56 (x.1,x.2.1,x.2.2)=some y->y.2.2=0->y.1.1=x.2.1.1:=fun{y} e c=>by
  have g:Par (J56 (x.1,x.2.1,x.2.2)) λy=>y.2.2=0->y.1.1=x.2.1.1:=by unfold J56;refine .bind λ_ _=>.ne (λc=>.some λd=>absurd d c) λ_=>.while (λz=>z.2.2.2.1.1=x.2.1.1) rfl ?_;rintro⟨l,i,k,p,o⟩ hz;dsimp only at hz;unfold Jbm;dsimp only;exact .lt (λ_=>.bind λ_ _=>.bind λn h5=>.ne (λc=>.some λd=>absurd d c) λh=>.some ((Jz4 h5 h).trans hz)) λ_=>.some λ_=>hz
  exact g _ e c
 have g:Par (J4Z x) λy=>y.2=0->y.1.1=x.2.1.1:=by unfold J4Z;exact .bind λa ha=>.some λc=>j ha c
 exact g _ e c
theorem J9a{x y:J3z}(hx:Ty.fit B S JK x.1.1.2.2.2.1)(e:J2k x=some y)(c:y.2=0):J3g x.1.1 y.1.1/\Jcj y.1.1.2.2.2.1 x.2:=by
 have o:Par (J2k x) λy=>y.2=0->J3g x.1.1 y.1.1/\Jcj y.1.1.2.2.2.1 x.2:=by
  unfold J2k;refine .bind λ_ _=>.not (λ_=>.some nofun) λ_=>.ltf (λ_=>.ge (λ_=>.some nofun) λ_=>.bind λj hj=>.ge (λc=>.some λ_=>⟨J3g.refl _,?_⟩) λ_=>.bind λJ h4=>.ne (λc=>.some λd=>absurd d c) λF=>.bind λ_ _=>.ne (λc=>.some λd=>absurd d c) λ_=>.bind λ_ _=>.bind λG C=>.ne (λc=>.some λd=>absurd d c) λA=>.bind λH D=>.ne (λc=>.some λd=>absurd d c) λv=>.bind λI E=>.ne (λc=>.some λd=>absurd d c) λw=>.some λ_=>?_) λ_=>.some nofun
  ·have k:Par (J1p (x.1.1.2.2.2.1,x.2)) λj=>0<=j->Jcj x.1.1.2.2.2.1 x.2:=by
    unfold J1p;refine .bind λ_ _=>.not (λ_=>.some λh=>absurd h (by decide)) λ_=>.bind λj hj=>.some ?_;have g:Par (J1K (x.1.1.2.2.2.1,x.2)) λj=>0<=j->Jcj x.1.1.2.2.2.1 x.2:=by unfold J1K;refine .while (λz=>z.1=x.2/\z.2.2=x.1.1.2.2.2.1) ⟨rfl,rfl⟩ ?_;rintro⟨a,i,q⟩ ⟨h1,h2⟩;dsimp only at h1 h2;subst h1;subst h2;unfold J7S;dsimp only;exact .lt (λ_=>.bind λf hf=>.eq (λc=>.some λ_=>⟨f,zQ9 (J40 hf).2,c⟩) λ_=>.some ⟨rfl,rfl⟩) λ_=>.some λh=>absurd h (by decide)
    exact g _ hj
   exact k _ hj oo
  ·obtain⟨a1,a2⟩:=JvD E w;refine⟨(JCJ h4 F).trans a1,?_⟩;have r:=JDV D v;have n:=JxQ C A;dsimp only at a2 r n;rw[r,n]at a2;exact a2
 exact o _ e c
end
theorem J4N{B S x1:Int}(h:Ty.fit B S (.i .i64) x1)(g:BS B S 0 0:=by omega):Tot (J2L x1) λy=>Ty.fit 0 0 JZ y:=by
 unfold J2L;refine .ne (λe=>?_) λe=>?_
 ·refine .bind (J06 h) λj h3=>.some h3.1
 ·exact .some (⟨fkn 1,fk0,fk0,⟨trivial,Jd⟩,fk0⟩)
theorem J7b{B S:Int}{x1:J9g}(h:Ty.fit B S JuG x1)(z:BC B S 0 0:=by omega):Tot (J3o x1) λy=>Ty.fit 0 0 (.pr J8 .b) y:=by
 unfold J3o;refine .bind ((J4j h.1).eqn) λD h1=>.ite (λn=>?_) λn=>?_
 ·have v3:=J3y h.1 h1.2 n;have:=J3 (l:=x1.1.1);have:J0 x1.1.1=_:=Jj h.1.1;have:=J3 (l:=x1.1.2);have:J0 x1.1.2=_:=Jj h.1.2;have g:Ty.fit 1024 0 JB x1.1:=v3.2;refine Jb (τ:=Int) (λq=>(x1.2,q,x1.1,0,(0,0),0)) (λq=>(Ty.fit 0 0 (.i .i64) q/\0<=q/\(q<=J0 x1.1.2\/q<=0))) (λq=>J0 x1.1.2-q) ?_ 0 rfl ?_
  ·rintro e ⟨r,x,w⟩;unfold JcC
   try dsimp only
   have:=J2.1 r;refine .lt (λj=>?_) λj=>?_
   ·refine .bind (Jh g.2) λC v=>.eq (λo=>?_) λo=>?_
    ·refine .bind (Jh g.2) λA k=>.some (⟨k.1,trivial⟩)
    ·have:=Jg e 1;exact .some ⟨J1 .i64 e 1,rfl,⟨J5,om,om⟩,om,om⟩
   ·exact .some (⟨fzr,trivial⟩)
  ·try dsimp only
   exact⟨fk0,oo,oo⟩
 ·exact .some (⟨fzr,trivial⟩)
section
variable {B S:Int}
theorem Je4{x1:JbG}(h:Ty.fit B S JKk x1)(e:BS B S 0 0:=by omega)(g:B<=17179869183:=by omega):Tot (J6a x1) λy=>Ty.fit (B+1) S (.l (.i .i64)) y/\J0 y<=J0 x1.1+1:=by obtain⟨un,n⟩:=x1;obtain⟨h,hn⟩:=h;have o:J0 un<=B:=h.1;have q:Tot (J6a (un,n)) λy=>Ty.fit (J0 un+1) 0 (.l (.i .i64)) y:=JJB (b:=J0 un) (un:=un) ⟨J0D _,h.2⟩ hn oo;exact q.mono λy hy=>⟨hy.u,hy.1⟩
end
theorem Jgy{B S:Int}{x1:J9g}(h:Ty.fit B S JuG x1)(a2:BS B S 0 0:=by omega)(hB:B<=8589934591:=by omega):Tot (J6P x1) λy=>Ty.fit (2*B) 0 (.l (.i .i64)) y:=by
 unfold J6P;refine .bind (J7b (B:=B) (S:=S) (h)) λQ h1=>.not (λU=>?_) λU=>?_
 ·exact .some Ja
 ·have:J0 x1.1.1<=B:=h.1.1.1;have:=J3 (l:=x1.1.1);have:J0 x1.1.1=_:=Jj h.1.1;refine Jb (τ:=JbG) (λq=>(x1.2,q.1,q.2,x1.1,Q.1)) (λq=>(Ty.fit 0 0 (.i .i64) q.2/\0<=q.2/\(q.2<=J0 x1.1.1\/q.2<=0))/\(Ty.fit B 0 (.l (.i .i64)) q.1/\J0 q.1<=1*q.2+0)) (λq=>J0 x1.1.1-q.2) ?_ ([],0) rfl ?_
  ·rintro⟨e,j⟩ C;dsimp only at C;obtain⟨⟨T,w9,V⟩,v,w8⟩:=C;unfold Jku
   try dsimp only
   have:=J2.1 T;refine .lt (λI=>?_) λI=>?_
   ·refine .bind (Jh h.1.1) λy4 K=>.bind (J3Q (B:=0) (S:=0) (⟨K.1,h1.1⟩)) λy5 Z=>.ite (λP=>?_) λP=>?_
    ·refine .bind (Jh h.1.1) λy6 F=>.bind (Je4 (B:=B) (S:=0) (⟨v,F.1.1⟩)) λo z=>?_;have w:Ty.fit (B+1) 0 (.l (.i .i64)) o:=z.1.u;have:J0 o<=(B+1):=w.1;have:J0 e<=B:=v.1;have:J0 o<=J0 e+1:=z.2;have J:Ty.fit B 0 (.l (.i .i64)) o:=⟨(by omega:J0 o<=B),λx hx=>w.2 x hx⟩;have:=Jg j 1;exact .some ⟨(o,J1 .i64 j 1),rfl,⟨⟨J5,om,om⟩,J,om⟩,om,om⟩
    ·have:=Jg j 1;exact .some ⟨(e,J1 .i64 j 1),rfl,⟨⟨J5,om,om⟩,v,om⟩,om,om⟩
   ·refine .inr ?_;have:J0 x1.1.2<=B:=h.1.2.1;have:=J3 (l:=x1.1.2);have:J0 x1.1.2=_:=Jj h.1.2;have:J0 e<=B:=v.1;refine Jb (τ:=JbG) (λq=>(x1.2,q.1,q.2,x1.1,Q.1)) (λq=>(Ty.fit 0 0 (.i .i64) q.2/\0<=q.2/\(q.2<=J0 x1.1.2\/q.2<=0))/\(Ty.fit (2*B) 0 (.l (.i .i64)) q.1/\J0 q.1<=1*q.2+J0 e)) (λq=>J0 x1.1.2-q.2) ?_ (e,0) rfl ?_
    ·rintro⟨r,k⟩ D;dsimp only at D;obtain⟨⟨M,Y,a0⟩,n,a1⟩:=D;unfold JlK
     try dsimp only
     have:=J2.1 M;refine .lt (λR=>?_) λR=>?_
     ·refine .bind (Jh h.1.2) λy9 a5=>.ne (λO=>?_) λO=>?_
      ·refine .bind (Jh h.1.2) λW G=>.bind (J3Q (B:=0) (S:=0) (⟨G.1,h1.1⟩)) λa6 a4=>.ite (λL=>?_) λL=>?_
       ·refine .bind (Jh h.1.2) λa3 N=>.bind (Je4 (B:=(2*B)) (S:=0) (⟨n,N.1.1⟩)) λg E=>?_;have A:Ty.fit (2*B+1) 0 (.l (.i .i64)) g:=E.1.u;have:J0 g<=(2*B+1):=A.1;have:J0 g<=J0 r+1:=E.2;have H:Ty.fit (2*B) 0 (.l (.i .i64)) g:=⟨(by omega:J0 g<=(2*B)),λx hx=>A.2 x hx⟩;have:=Jg k 1;exact .some ⟨(g,J1 .i64 k 1),rfl,⟨⟨J5,om,om⟩,H,om⟩,om,om⟩
       ·have:=Jg k 1;exact .some ⟨(r,J1 .i64 k 1),rfl,⟨⟨J5,om,om⟩,n,om⟩,om,om⟩
      ·exact .some n
     ·exact .some n
    ·try dsimp only
     exact⟨⟨fk0,oo,oo⟩,v.u,oo⟩
  ·have:J0 ([]:List Int)=0:=rfl
   try dsimp only
   exact⟨⟨fk0,oo,oo⟩,Ja,oo⟩
theorem JsS{B S:Int}{x1:J1R}(h:Ty.fit B S tq1 x1)(z:BH B S:=by omega)(F:B<=8589934591:=by omega):Tot (J7a x1) λy=>Ty.fit 0 0 (.pr (.i .i64) (.pr J0a .b)) y:=by
 unfold J7a;refine .bind (J7b (B:=B) (S:=S) (⟨h.1.e.1,h.2⟩)) λw h1=>.not (λr=>?_) λr=>?_
 ·exact .some (⟨fk0,fzr,trivial⟩)
 ·refine .bind (Jgy (B:=B) (S:=S) (⟨h.1.e.1,h.2⟩)) λg h3=>?_;have:J0 g<=(2*B):=h3.1;have:=J3 (l:=g);refine Jb (τ:=Int) (λq=>(g,J0 g,q,x1.1,(0,0),w.1)) (λq=>(Ty.fit 0 0 (.i .i64) q/\0<=q/\(q<=J0 g\/q<=0))) (λq=>J0 g-q) ?_ 0 rfl ?_
  ·rintro j ⟨v,A,E⟩;unfold JcA
   try dsimp only
   have:=J2.1 v;refine .lt (λo=>?_) λo=>?_
   ·refine .bind (Jh h3) λC k=>.bind (JgX (B:=B) (S:=S) (⟨h.1,k.1⟩)) λD x=>.ite (λn=>?_) λn=>?_
    ·exact .some (⟨k.1,h1.1.2.1,trivial⟩)
    ·have:=Jg j 1;exact .some ⟨J1 .i64 j 1,rfl,⟨J5,om,om⟩,om,om⟩
   ·exact .some (⟨fk0,fzr,trivial⟩)
  ·try dsimp only
   exact⟨fk0,oo,oo⟩
theorem Jma{B S:Int}{x1:JHe}(h:Ty.fit B S JLH x1)(z:BS B S 0 0:=by omega)(E:B<=9223372036854775807:=by omega):Tot (J6J x1) λy=>Ty.fit 0 0 (.i .i64) y/\(0<=y/\y<=J0 x1.1.2):=by
 unfold J6J;refine .bind (J55 (B:=B) (S:=S) (⟨h.1,h.2.1,h.c.1⟩)) λF h1=>.eq (λr=>?_) λr=>?_
 ·have:J0 x1.1.2<=B:=h.1.2.1;have:=J3 (l:=x1.1.2);have:J0 x1.1.2=_:=Jj h.1.2;exact .some ⟨(J42 h.1.2.1 oo),om⟩
 ·have:J0 x1.1.2<=B:=h.1.2.1;have:=J3 (l:=x1.1.2);have:J0 x1.1.2=_:=Jj h.1.2;refine Jb (τ:=Int) (λq=>(q,x1.1,x1.2)) (λq=>(Ty.fit 0 0 (.i .i64) q/\0<=q/\(q<=J0 x1.1.2\/q<=0))) (λq=>J0 x1.1.2-q) ?_ 0 rfl ?_
  ·rintro e ⟨g,v,x⟩;unfold Jgi
   try dsimp only
   have:=J2.1 g;refine .lt (λo=>?_) λo=>?_
   ·refine .bind (Jh h.1.2) λD k=>.ite (λj=>?_) λj=>?_
    ·have A:=J1A.1 j;refine .bind (J55 (B:=B) (S:=S) (⟨h.1,k.1.1,k.1.2.1⟩)) λC w=>.eq (λn=>?_) λn=>?_
     ·exact .some ⟨g,om⟩
     ·have:=Jg e 1;exact .some ⟨J1 .i64 e 1,rfl,⟨J5,om,om⟩,om,om⟩
    ·have:=Jg e 1;exact .some ⟨J1 .i64 e 1,rfl,⟨J5,om,om⟩,om,om⟩
   ·exact .some ⟨(J42 h.1.2.1 oo),om⟩
  ·try dsimp only
   exact⟨fk0,oo,oo⟩
theorem JtS{B S:Int}{x1:JHe}(h:Ty.fit B S JLH x1)(ab:BG B S:=by omega):Tot (J74 x1) λy=>Ty.fit 4098 0 (.pr JB (.pr .b (.i .i64))) y:=by
 unfold J74;refine .bind ((J4j h.1).eqn) λy2 h1=>.not (λM=>?_) λM=>?_
 ·exact .some (⟨fzr,trivial,fkn 17⟩)
 ·have v3:=J3y h.1 h1.2 M;have:J0 x1.1.1<=B:=h.1.1.1;have:=J3 (l:=x1.1.1);have:J0 x1.1.1=_:=Jj h.1.1;have:J0 x1.1.2<=B:=h.1.2.1;have:J0 x1.1.2=_:=Jj h.1.2;have e:Ty.fit 1024 0 JB x1.1:=v3.2;refine .bind (Jci h.2) λy3 a4=>.not (λQ=>?_) λQ=>?_
  ·exact .some (⟨fzr,trivial,fkn 1⟩)
  ·refine .bind (J7b (B:=1024) (S:=0) (⟨e,h.2.1⟩)) λy4 a2=>.ite (λL=>?_) λL=>?_
   ·refine .not (λG=>?_) λG=>?_
    ·exact .some (⟨fzr,trivial,fkn 15⟩)
    ·have a8:=J1A.1 G;refine .ite (λH=>?_) λH=>?_
     ·exact .some (⟨e.u,trivial,fk0⟩)
     ·refine .bind (J55 (B:=1024) (S:=0) (⟨e,h.2.1,h.c.1⟩)) λy5 a1=>.ge (λJ=>?_) λJ=>?_
      ·exact .some (⟨e.u,trivial,fk0⟩)
      ·have:=Jg (J0 x1.1.1) (J0 x1.1.2);refine .eq (λW=>?_) λW=>?_
       ·exact .some (⟨fzr,trivial,fkn 21⟩)
       ·refine .bind (Jma (B:=1024) (S:=0) (⟨e,h.2⟩)) λN r=>?_;have:=J2.1 r.1;have:0<=N/\N<=J0 x1.1.2:=r.2;refine .bind (J5M e.2) λn g=>.clo g.1 oo (by decide) ?_;have:J0 n<=1024:=g.1.1;have:=J3 (l:=n);have:J0 n=_:=Jj g.1;refine .bind (J0q (B:=1025) (Bl:=1024) (Bm:=1) (S:=0) (J0 n) 1 g.1 (J0f (B:=1) (S:=0) (t:=J8) oo h.2)) λU D=>.bind (J3i e.2) λq o=>?_;have:J0 U=_:=Jj D.1;have:J0 q=_:=Jj o.1;refine .bind (J0q (B:=2049) (Bl:=1025) (Bm:=1024) (S:=0) (J0 U) (J0 q) D.1 o.1) λaa Z=>.bind (J6b (B:=2049) (S:=0) (⟨e.1.u,Z.1⟩)) λT P=>?_;have A:Ty.fit 4098 0 JB T:=P.1.u;refine .bind (J55 (B:=4098) (S:=0) (⟨A,h.2.1,h.c.1⟩)) λa3 a7=>.some (⟨A,trivial,fk0⟩)
   ·refine .ite (λY=>?_) λY=>?_
    ·exact .some (⟨e.u,trivial,fk0⟩)
    ·refine .bind (J55 (B:=1024) (S:=0) (⟨e,h.2.1,h.c.1⟩)) λa6 a0=>.ge (λK=>?_) λK=>?_
     ·exact .some (⟨e.u,trivial,fk0⟩)
     ·have:=Jg (J0 x1.1.1) (J0 x1.1.2);refine .eq (λR=>?_) λR=>?_
      ·exact .some (⟨fzr,trivial,fkn 21⟩)
      ·refine .bind (Jma (B:=1024) (S:=0) (⟨e,h.2⟩)) λv E=>?_;have:=J2.1 E.1;have:0<=v/\v<=J0 x1.1.2:=E.2;refine .bind (J5M e.2) λj k=>.clo k.1 oo (by decide) ?_;have:J0 j<=1024:=k.1.1;have:=J3 (l:=j);have:J0 j=_:=Jj k.1;refine .bind (J0q (B:=1025) (Bl:=1024) (Bm:=1) (S:=0) (J0 j) 1 k.1 (J0f (B:=1) (S:=0) (t:=J8) oo h.2)) λw F=>.bind (J3i e.2) λx z=>?_;have:J0 w=_:=Jj F.1;have:J0 x=_:=Jj z.1;refine .bind (J0q (B:=2049) (Bl:=1025) (Bm:=1024) (S:=0) (J0 w) (J0 x) F.1 z.1) λa5 O=>.bind (J6b (B:=2049) (S:=0) (⟨e.1.u,O.1⟩)) λI V=>?_;have C:Ty.fit 4098 0 JB I:=V.1.u;refine .bind (J55 (B:=4098) (S:=0) (⟨C,h.2.1,h.c.1⟩)) λa9 ac=>.some (⟨C,trivial,fk0⟩)
theorem Jsd{B S:Int}{x1:J01}(h:Ty.fit B S JB x1)(G:BC B S 0 0:=by omega):Tot (J7f x1) λy=>Ty.fit 1024 0 (.l (.i .i64)) y:=by
 unfold J7f;refine .bind ((J4j h).eqn) λJ h1=>.ite (λD=>?_) λD=>?_
 ·have v3:=J3y h h1.2 D;have:=J3 (l:=x1.1);have:J0 x1.1=_:=Jj h.1;have:=J3 (l:=x1.2);have:J0 x1.2=_:=Jj h.2;have C:Ty.fit 1024 0 JB x1:=v3.2;refine Jb (τ:=JbG) (λq=>(q.1,q.2,x1)) (λq=>(Ty.fit 0 0 (.i .i64) q.2/\0<=q.2/\(q.2<=J0 x1.2\/q.2<=0))/\(Ty.fit 1024 0 (.l (.i .i64)) q.1/\J0 q.1<=1*q.2+0)) (λq=>J0 x1.2-q.2) ?_ ([],0) rfl ?_
  ·rintro⟨g,j⟩ r;dsimp only at r;obtain⟨⟨A,E,H⟩,k,F⟩:=r;unfold Jcq
   try dsimp only
   have:=J2.1 A;refine .lt (λw=>?_) λw=>?_
   ·refine .bind (Jh C.2) λI v=>.bind (Je4 (B:=1024) (S:=0) (⟨k,v.1.1⟩)) λe o=>?_;have n:Ty.fit 1025 0 (.l (.i .i64)) e:=o.1.u;have:J0 e<=1025:=n.1;have:=J3 (l:=e);have:J0 g<=1024:=k.1;have:=J3 (l:=g);have:J0 e<=J0 g+1:=o.2;have z:Ty.fit 1024 0 (.l (.i .i64)) e:=⟨(by omega:J0 e<=1024),λx hx=>n.2 x hx⟩;have:=Jg j 1;exact .some ⟨(e,J1 .i64 j 1),rfl,⟨⟨J5,om,om⟩,z,om⟩,om,om⟩
   ·exact .some k
  ·have:J0 ([]:List Int)=0:=rfl
   try dsimp only
   exact⟨⟨fk0,oo,oo⟩,Ja,oo⟩
 ·exact .some Ja
section
variable {B S:Int}
theorem JKI(k:Nat): ∀{t:J01} {e:List Int} {n:Int},Ty.fit B S JB t->Ty.fit 1024 0 (.l (.i .i64)) e->1<=J0 e->J0 e<=n->n<=1024->n-J0 e<k->0<=B->0<=S->B<=8589934591->Tot (JgA J4M k (t,e,n)) λy=>Ty.fit 1024 0 (.l (.i .i64)) y:=by
 induction k with
 |zero=>intro t e n h1 h2 h3 h4 h5 J;omega
 |succ k ih=>
  intro t e n h1 h2 h3 h4 h5 J z w K;show Tot (J4M (JgA J4M k) (t,e,n)) _;unfold J4M;dsimp only;have Q:=J0H (J0 e) 1;refine .bind (Jh h2 oo (by show _<J0 e;omega)) λL I=>.bind (Jgy (B:=B) (S:=S) (x1:=(t,L)) ⟨h1,I.1⟩) λg h=>.eq (λc=>?_) λc=>?_
  ·have G:J0 g<=2*B:=Jde h.1 oo;refine Jb (τ:=Int) (λq=>(e,g,J0 g,q,t)) (λq=>0<=q/\q<=J0 g) (λq=>J0 g-q) ?_ 0 rfl ⟨J0D _,J3⟩;rintro i ⟨o,g1⟩;unfold JdG;dsimp only;have F:=Jg i 1;refine .lt (λc=>.bind (Jh h o c) λ_ _=>.bind (Jh h2 (J0D _) (by show 0<J0 e;omega)) λ_ _=>.eq (λ_=>.some h2) λ_=>.some ⟨J1 .i64 i 1,rfl,⟨oo,oo⟩,oo,oo⟩) λ_=>.some (Ja oo)
  ·have G:J0 g<=2*B:=Jde h.1 oo;refine Jb (τ:=Int) (λq=>(e,n,g,J0 g,q,t)) (λq=>0<=q/\q<=J0 g) (λq=>J0 g-q) ?_ 0 rfl ⟨J0D _,J3⟩;rintro i ⟨o,g1⟩;unfold Jew;dsimp only;have F:=Jg i 1;refine .lt (λH=>.bind (Jh h o H) λr D=>?_) λ_=>.some (Ja oo);refine Jb (τ:=Bool×Int) (λq=>(e,n,r,q.1,g,J0 g,i,e,J0 e,q.2,t)) (λq=>0<=q.2/\q.2<=J0 e) (λq=>J0 e-q.2) ?_ (false,0) rfl ⟨J0D _,by show 0<=J0 e;omega⟩;rintro⟨E,j⟩ ⟨g2,M⟩;dsimp only at g2 M;unfold JdC;dsimp only;have R:=Jg j 1;have go: ∀b:Bool,j<J0 e-> ∃c':Bool×Int,((e,n,r,b,g,J0 g,i,e,J0 e,J1 .i64 j 1,t):JKQ)=(e,n,r,c'.1,g,J0 g,i,e,J0 e,c'.2,t)/\(0<=c'.2/\c'.2<=J0 e)/\J0 e-c'.2<J0 e-j/\0<=J0 e-j:=λb hj=>⟨(b,J1 .i64 j 1),rfl,⟨by show 0<=J1 .i64 j 1;omega,by show J1 .i64 j 1<=_;omega⟩,by show J0 e-J1 .i64 j 1<_;omega,oo⟩;refine .lt (λv=>.bind (Jh h2 g2 v) λN _=>.itf (λ_=>.some (go _ v)) λ_=>.some (go _ v)) λ_=>.inr ?_;have C: ∃c':Int,((e,n,g,J0 g,J1 .i64 i 1,t):JHj)=(e,n,g,J0 g,c',t)/\(0<=c'/\c'<=J0 g)/\J0 g-c'<J0 g-i/\0<=J0 g-i:=⟨J1 .i64 i 1,rfl,⟨oo,oo⟩,oo,oo⟩;refine .ite (λ_=>.some C) λ_=>.clo h2 oo (by decide) ?_;refine .bind (J0q (B:=1024) (Bl:=1024) (Bm:=1024) (S:=0) (J0 e) 1 h2 (J0f (B:=1024) (S:=0) (t:=.i .i64) oo D.1) rfl rfl (J0D _) (J0D _) oo oo (by decide)) λP x=>.bind (ih h1 x.1 oo oo h5 oo z w K) λO A=>.gt (λ_=>.some A) λ_=>.some C
theorem JyV{x1:J9g}(h:Ty.fit B S JuG x1)(k:0<=B:=by omega)(j:0<=S:=by omega)(v:B<=8589934591:=by omega):Tot (J97 x1) λy=>Ty.fit 1024 0 (.l (.i .i64)) y:=by obtain⟨t,w⟩:=x1;obtain⟨e,g⟩:=h;unfold J97;dsimp only;refine Jb (τ:=Int) (λq=>(w,q,t)) (λq=>1<=q/\q<=1025) (λq=>1025-q) ?_ 1 rfl ⟨J0D _,by decide⟩;rintro n ⟨x,g1⟩;unfold JeO;dsimp only;have A:=Jg n 1;refine .bind (Jsd e) λo r=>.le (λc=>?_) λ_=>.some (Ja oo);have z:J0 o<=1024:=r.1;refine .bind (JKI (B:=B) (S:=S) 1100 e (J0f (B:=1024) (S:=0) (t:=.i .i64) oo g) (J0D _) (by show(1:Int)<=n;omega) oo (by show n-1<1100;omega) k j v) λC f4=>.gt (λ_=>.some f4) λ_=>.some ⟨J1 .i64 n 1,rfl,⟨oo,oo⟩,oo,oo⟩
end
theorem Jj5{B S:Int}{x1:J2t}(h:Ty.fit B S tq2 x1)(r:BC B S 0 0:=by omega):Tot (J38 x1) λy=>Ty.fit 0 0 J0a y/\(y.2=0->0<=y.1/\y.1<J0 x1.1):=by
 unfold J38;refine .bind ((J3v h.1).eqn) λw h1=>.not (λj=>?_) λj=>?_
 ·have:J0 x1.1<=B:=h.1.1;exact .some ⟨(⟨fk0,fkn 15⟩),om⟩
 ·have q:=J2C h.1 h1.2 j;have:J0 x1.1=_:=Jj h.1;have g:Ty.fit 4096 0 (.l Jl) x1.1:=q.2;refine .bind (J9R (B:=4096) (S:=0) (⟨g,h.2⟩)) λk e=>?_;have:=J2.1 e.1;have: -1<=k/\k<J0 x1.1:=e.2;refine .lt (λo=>?_) λo=>?_
  ·exact .some ⟨(⟨fk0,fkn 16⟩),om⟩
  ·refine .bind (Jh g) λx v=>.ne (λn=>?_) λn=>?_
   ·exact .some ⟨(⟨fk0,fkn 15⟩),om⟩
   ·exact .some ⟨(⟨e.1,fk0⟩),om⟩
section
variable {B S:Int}
theorem Jji{x:J2t}{y:JI}(h:Ty.fit B S tq2 x)(e:J38 x=some y)(c:y.2=0):(J0 x.1<=64)/\Ty.fit 4096 0 (.l Jl) x.1:=by
 have g:Par (J38 x) λy=>y.2=0->J0Z x.1=some true:=by unfold J38;refine .bind λa ha=>.not (λ_=>.some nofun) λc=>?_;subst c;exact λ_ _ _=>ha
 exact J2C h.1 (g _ e c) rfl
end
theorem Jn7{B S:Int}{x1:JvN}(h:Ty.fit B S JLi x1)(I:BG B S:=by omega):Tot (J7H x1) λy=>Ty.fit 4096 0 tq2 y:=by
 unfold J7H;refine .bind ((Jj5 (B:=B) (S:=S) (x1:=(x1.1,x1.2.1)) (⟨h.1,h.2.1⟩)).eqn) λq h1=>?_;have:=J2.1 h1.1.1.1;have:J0 x1.1=_:=Jj h.1;have:q.2=0->0<=q.1/\q.1<J0 x1.1:=h1.1.2;refine .ne (λr=>?_) λr=>?_
 ·exact .some (⟨Ja,h1.1.1.2⟩)
 ·have v9:=Jji (x:=(x1.1,x1.2.1)) (⟨h.1,h.2.1⟩) h1.2 r;have n:Ty.fit 4096 0 (.l Jl) x1.1:=v9.2;refine .bind (Jh n) λw j=>?_;have:=J2.1 h.c;refine .ltf (λE=>?_) λE=>?_
  ·have:J0 w.2.2.2.2.2<=4096:=j.1.g.1;have:=J3 (l:=w.2.2.2.2.2);refine .ge (λC=>?_) λC=>?_
   ·exact .some (⟨Ja,fkn 19⟩)
   ·have:=Jg x1.2.2 1;refine .bind (J5M j.1.g) λo k=>.clo k.1 oo (by decide) ?_;have:J0 o<=4096:=k.1.1;have:=J3 (l:=o);refine .bind (J5G (l:=o)) λ_ _=>.bind (JcI k.1) λJ v=>.bind (J8c (B:=4096) (S:=0) (⟨j.1.1,fkn 2,j.1.c.1,v.1,j.1.e.1,k.1⟩)) λG F=>?_;have z:Ty.fit 4096 0 Jl G:=F.u;refine .bind (J8N (B:=4096) (S:=0) (⟨n,h1.1.1.1,z⟩) om om) λH A=>?_;have D:Ty.fit 4096 0 (.l Jl) H:=A.1.u;exact .some (⟨D,fk0⟩)
  ·exact .some (⟨Ja,fkn 19⟩)
theorem JmD{B S:Int}{x1:J2t}(h:Ty.fit B S tq2 x1)(C:BG B S:=by omega):Tot (J7B x1) λy=>Ty.fit 4097 0 tq2 y:=by
 unfold J7B;refine .bind ((Jj5 (B:=B) (S:=S) (x1:=(x1.1,x1.2)) (h)).eqn) λo h1=>?_;have:=J2.1 h1.1.1.1;have:J0 x1.1=_:=Jj h.1;have:o.2=0->0<=o.1/\o.1<J0 x1.1:=h1.1.2;refine .ne (λr=>?_) λr=>?_
 ·exact .some (⟨Ja,h1.1.1.2⟩)
 ·have v9:=Jji (x:=(x1.1,x1.2)) (h) h1.2 r;have k:Ty.fit 4096 0 (.l Jl) x1.1:=v9.2;refine .bind (Jh k) λn j=>?_;have:J0 n.2.2.2.2.2<=4096:=j.1.g.1;have:=J3 (l:=n.2.2.2.2.2);refine .eq (λz=>?_) λz=>?_
  ·exact .some (⟨Ja,fkn 21⟩)
  ·refine .clo j.1.g oo (by decide) ?_;refine .bind (J0q (B:=4097) (Bl:=4096) (Bm:=1) (S:=0) (J0 n.2.2.2.2.2) 1 j.1.g (J0f (B:=1) (S:=0) (t:=(.i .i64)) oo j.1.c.1)) λD v=>.bind (J8N (B:=4097) (S:=0) (⟨k.u,h1.1.1.1,j.1.1,j.1.2.1,j.1.c.1,j.1.d.1,j.1.e.1.u,v.1⟩) om om) λA q=>?_;have w:Ty.fit 4097 0 (.l Jl) A:=q.1.u;exact .some (⟨w,fk0⟩)
theorem Jxj{B S:Int}{x1:List Int}(h:Ty.fit B S (.l (.i .i64)) x1)(g:BS B S 0 0:=by omega):Tot (J8W x1) λy=>Ty.fit 0 0 (.i .i64) y:=by
 unfold J8W;have:=J3 (l:=x1);refine .eq (λe=>?_) λe=>?_
 ·exact .some fk0
 ·refine .bind (Jh h) λj h4=>.some h4.1
theorem JFa{B S:Int}{x1:J1R}(h:Ty.fit B S tq1 x1)(g:BS B S 0 0:=by omega)(k:B<=8589934591:=by omega):Tot (JbJ x1) λy=>Ty.fit 0 0 (.i .i64) y:=by unfold JbJ;refine .bind (Jgy (B:=B) (S:=S) (⟨h.1.e.1,h.2⟩)) λn h1=>.bind (Jxj h1) λj h2=>.some h2
theorem JES{B S:Int}{x1:J7c}(h:Ty.fit B S tq7 x1)(n:BH B S:=by omega)(q:B<=34359738368:=by omega):Tot (Jby x1) λy=>Ty.fit B S JK y:=by
 unfold Jby;refine .bind ((J4V (B:=B) (S:=S) (x1:=(x1.1,x1.2)) (h)).eqn) λg h1=>?_;have:=J2.1 h1.1.1;have:J0 x1.1.2.1=_:=Jj h.1.2.1;have: -1<=g/\g<J0 x1.1.2.1:=h1.1.2;refine .lt (λk=>?_) λk=>?_
 ·exact .some h.1
 ·refine .bind (Jh h.1.2.1) λo e=>.bind (J6T (B:=B) (S:=S) (⟨h.1,h1.1.1,e.1.z.1.u,trivial,e.1.z.2.2.1,trivial⟩) om om) λr j=>.some j.1
theorem Jv6{B S:Int}{x1:JdQ}(h:Ty.fit B S JuC x1)(p0:0<=x1.2.2.2.2.1)(L:x1.2.2.2.2.1<16)(I:J0 x1.2.2.2.2.2<=12)(G:BH B S:=by omega)(N:B<=34359738368:=by omega):Tot (J3G x1) λy=>Ty.fit B S tq4 y/\(J0 x1.1.2.2.1.2.1<=J0 y.1.2.2.1.2.1):=by
 unfold J3G;refine .bind (J8O (B:=B) (S:=S) (⟨h.1.d.1,h.2.z.2.2.1⟩)) λO h4=>.not (λE=>?_) λE=>?_
 ·have:J0 x1.1.2.2.1.2.1<=B:=h.1.c.1.2.1.1;exact .some ⟨(⟨h.1,fkn 3,fk0,h.2.z.2.2.1,⟨trivial,Jd⟩,fk0⟩),om⟩
 ·have:=J2.1 h.2.z.2.1;refine .eq (λD=>?_) λD=>?_
  ·refine .bind (JES (B:=B) (S:=S) (⟨h.1.d.1,h.2.z.2.2.1⟩)) λJ w=>.bind (J6z) λ_ _=>.bind (JcK h4.1.c) λK q=>.some ⟨(⟨⟨h.1.1,h.1.2.1,h.1.c.1,w,h.1.e⟩,fkn 1,fk0,fk0,q.u,fk0⟩),om⟩
  ·refine .bind (J6z) λ_ _=>.bind (JcK h4.1.c) λH n=>.eq (λx=>?_) λx=>?_
   ·refine .bind (JgF (B:=B) (S:=S) (⟨h.1,fk0,fkn 1,h.2.z.1,fk0,fk0,fk0,⟨h.2.z.2.2.1,h.2.z.2.2.2.1,n.u,trivial,h.2.z.2.2.2.2.u⟩,Jd⟩)) λo j=>?_;have:J0 o.1.2.2.1.2.1=_:=Jj j.1.1.c.1.2.1;have:J0 x1.1.2.2.1.2.1=_:=Jj h.1.c.1.2.1;have:o.2=0->J0 o.1.2.2.1.2.1=J0 x1.1.2.2.1.2.1+1:=j.2;refine .ne (λr=>?_) λr=>?_
    ·refine .bind (J06 j.1.2) λM v=>.some ⟨(⟨h.1,v.1.u⟩),om⟩
    ·exact .some ⟨(⟨j.1.1,fkn 1,fk0,fk0,⟨trivial,Jd⟩,fk0⟩),om⟩
   ·refine .bind (JgF (B:=B) (S:=S) (⟨h.1,fk0,fkn 1,h.2.z.1,fk0,fk0,fk0,⟨h.2.z.2.2.1,h.2.z.2.2.2.1,n.u,trivial,Jd⟩,Jd⟩)) λk g=>?_;have:J0 k.1.2.2.1.2.1=_:=Jj g.1.1.c.1.2.1;have:J0 x1.1.2.2.1.2.1=_:=Jj h.1.c.1.2.1;have:k.2=0->J0 k.1.2.2.1.2.1=J0 x1.1.2.2.1.2.1+1:=g.2;refine .ne (λC=>?_) λC=>?_
    ·refine .bind (J06 g.1.2) λF A=>.some ⟨(⟨h.1,A.1.u⟩),om⟩
    ·exact .some ⟨(⟨g.1.1,fkn 1,fk0,fk0,⟨trivial,Jd⟩,fk0⟩),om⟩
theorem Jvx{B S:Int}{x1:J1R}(h:Ty.fit B S tq1 x1)(D:Has x1.1.2.2.2.2.2.1 x1.2)(G:BH B S:=by omega)(M:B<=34359738368:=by omega):Tot (J3P x1) λy=>Ty.fit B S tq4 y/\(J0 x1.1.2.2.1.2.1<=J0 y.1.2.2.1.2.1):=by
 unfold J3P;refine .bind ((J2S (B:=B) (S:=S) (x1:=(x1.1.2.2.2.2.2.1,x1.2)) (⟨h.1.g.1,h.2⟩)).eqn) λr h1=>?_;have:0<=r:=JqZ D h1.2;have:J0 x1.1.2.2.2.2.2.1=_:=Jj h.1.g.1;have: -1<=r/\r<J0 x1.1.2.2.2.2.2.1:=h1.1.2;refine .bind (Jh h.1.g.1) λI K=>.eq (λE=>?_) λE=>?_
 ·refine .bind (Jb3 (B:=B) (S:=S) (⟨h.1.g.1,h.2⟩)) λL A=>.bind (J7d (B:=B) (S:=S) (⟨h.1.e.1,h.2⟩)) λJ z=>.some ⟨(⟨⟨h.1.1,h.1.2.1,h.1.c.1,h.1.d.1,z,A,h.1.h⟩,fkn 1,fk0,fk0,⟨trivial,Jd⟩,fk0⟩),om⟩
 ·refine .bind ((J4F (B:=B) (S:=S) (x1:=(x1.1,0,3,x1.2,0,0,0,(0,0,(false,[]),false,[]),[])) (⟨h.1,fk0,fkn 3,h.2,fk0,fk0,fk0,⟨fk0,fk0,⟨trivial,Jd⟩,trivial,Jd⟩,Jd⟩)).eqn) λn k=>?_;have:J0 n.1.2.2.1.2.1=_:=Jj k.1.1.1.c.1.2.1;have:J0 x1.1.2.2.1.2.1=_:=Jj h.1.c.1.2.1;have:n.2.2=0->J0 n.1.2.2.1.2.1=J0 x1.1.2.2.1.2.1+1/\J0 x1.1.2.2.1.2.1<=4095/\0<=(0:Int)/\(0:Int)<64/\0<=(0:Int)/\(0:Int)<16:=k.1.2;refine .ne (λx=>?_) λx=>?_
  ·refine .bind (J06 k.1.1.c) λH C=>.some ⟨(⟨h.1,C.1.u⟩),om⟩
  ·refine .bind (J98 (B:=16384) (S:=1073741824) (⟨k.1.1.1,k.1.1.2.1⟩)) λq o=>?_;have j:Ty.fit 16384 1073741824 J7 q:=o.1.u;have:J0 q.2.2.1.2.1=_:=Jj j.c.1.2.1;have:J0 q.2.2.1.2.1=J0 n.1.2.2.1.2.1:=o.2;refine .bind (J7d (B:=16384) (S:=1073741824) (⟨j.e.1,h.2⟩)) λF w=>?_;have v:Ty.fit 16384 1073741824 JB F:=w.u;exact .some ⟨(⟨⟨j.1,j.2.1,j.c.1.u,j.d.1.u,v.u,j.g.u⟩,fkn 1,fk0,fk0,⟨trivial,Jd⟩,fk0⟩),om⟩
theorem Jwl{B S:Int}{x1:J9g}(h:Ty.fit B S JuG x1)(v:BG B S:=by omega):Tot (J8e x1) λy=>Ty.fit B S JB y:=by
 unfold J8e;refine .bind ((J4j h.1).eqn) λw h1=>.not (λg=>?_) λg=>?_
 ·exact .some h.1
 ·have v3:=J3y h.1 h1.2 g;have e:Ty.fit 1024 0 JB x1.1:=v3.2;refine .bind (JaE (B:=1024) (S:=0) (⟨e.2,h.2,trivial,fzr⟩)) λq k=>?_;have j:Ty.fit 1025 0 (.l J8) q:=k.u;refine .bind (J6b (B:=1025) (S:=0) (⟨e.1.u,j⟩)) λr n=>?_;have o:Ty.fit 2050 0 JB r:=n.1.u;exact .some o.u
theorem Js4{B S:Int}{x1:JvR}(h:Ty.fit B S JLg x1)(D:Has x1.1.2.2.2.2.2.1 x1.2.1)(F:BC B S 0 0:=by omega):Tot (J78 x1) λy=>Ty.fit 0 0 .b y:=by
 unfold J78;refine .bind ((J2S (B:=B) (S:=S) (x1:=(x1.1.2.2.2.2.2.1,x1.2.1)) (⟨h.1.g.1,h.2.1⟩)).eqn) λo h1=>?_;have:0<=o:=JqZ D h1.2;have:J0 x1.1.2.2.2.2.2.1=_:=Jj h.1.g.1;have: -1<=o/\o<J0 x1.1.2.2.2.2.2.1:=h1.1.2;refine .bind (Jh h.1.g.1) λk w=>?_;have:J0 k.2.2.2.2.1<=B:=w.1.e.1.1;have:=J3 (l:=k.2.2.2.2.1);refine Jb (τ:=Int) (λq=>(q,x1.1,x1.2.2,k)) (λq=>(Ty.fit 0 0 (.i .i64) q/\0<=q/\(q<=J0 k.2.2.2.2.1\/q<=0))) (λq=>J0 k.2.2.2.2.1-q) ?_ 0 rfl ?_
 ·rintro j ⟨A,G,E⟩;unfold Jcx
  try dsimp only
  have:=J2.1 A;refine .lt (λv=>?_) λv=>?_
  ·refine .bind (Jh w.1.e.1) λH z=>.bind (J3T (B:=B) (S:=S) (⟨h.1.c.1,z.1⟩)) λI n=>.eq (λC=>?_) λC=>?_
   ·have:=J2.1 n.1.h.1.1;refine .eq (λx=>?_) λx=>?_
    ·have:=J2.1 n.1.h.1.2.1;refine .eq (λr=>?_) λr=>?_
     ·exact .some trivial
     ·have:=Jg j 1;exact .some ⟨J1 .i64 j 1,rfl,⟨J5,om,om⟩,om,om⟩
    ·have:=Jg j 1;exact .some ⟨J1 .i64 j 1,rfl,⟨J5,om,om⟩,om,om⟩
   ·have:=Jg j 1;exact .some ⟨J1 .i64 j 1,rfl,⟨J5,om,om⟩,om,om⟩
  ·exact .some trivial
 ·try dsimp only
  exact⟨fk0,oo,oo⟩
theorem Jm6{B S:Int}{x1:Jdl}(h:Ty.fit B S JrL x1)(P:Has x1.1.2.2.2.2.2.1 x1.2.1)(a2:BH B S:=by omega)(hB:B<=34359738368:=by omega):Tot (J3x x1) λy=>Ty.fit B S tq4 y/\(J0 x1.1.2.2.1.2.1<=J0 y.1.2.2.1.2.1):=by
 unfold J3x;refine .bind (Jwl (B:=B) (S:=S) (⟨h.1.e.1,h.2.1⟩)) λQ h1=>.bind ((J2S (B:=B) (S:=S) (x1:=(x1.1.2.2.2.2.2.1,x1.2.1)) (⟨h.1.g.1,h.2.1⟩)).eqn) λA h2=>?_;have:0<=A:=JqZ P h2.2;have:J0 x1.1.2.2.2.2.2.1=_:=Jj h.1.g.1;have: -1<=A/\A<J0 x1.1.2.2.2.2.2.1:=h2.1.2;refine .bind (Jh h.1.g.1) λy4 h9=>.eq (λI=>?_) λI=>?_
 ·refine .bind (Jb3 (B:=B) (S:=S) (⟨h.1.g.1,h.2.1⟩)) λy5 F=>.bind (J7d (B:=B) (S:=S) (⟨h1,h.2.1⟩)) λy6 D=>.some ⟨(⟨⟨h.1.1,h.1.2.1,h.1.c.1,h.1.d.1,D,F,h.1.h⟩,h.c,fk0,fk0,⟨trivial,Jd⟩,fk0⟩),om⟩
 ·refine .bind ((J4F (B:=B) (S:=S) (x1:=((x1.1.1,x1.1.2.1,x1.1.2.2.1,x1.1.2.2.2.1,Q,x1.1.2.2.2.2.2),0,4,x1.2.1,0,0,0,(0,0,(false,[]),false,[]),[])) (⟨⟨h.1.1,h.1.2.1,h.1.c.1,h.1.d.1,h1,h.1.g⟩,fk0,fkn 4,h.2.1,fk0,fk0,fk0,⟨fk0,fk0,⟨trivial,Jd⟩,trivial,Jd⟩,Jd⟩)).eqn) λo j=>?_;have:J0 o.1.2.2.1.2.1=_:=Jj j.1.1.1.c.1.2.1;have:J0 x1.1.2.2.1.2.1=_:=Jj h.1.c.1.2.1;have:o.2.2=0->J0 o.1.2.2.1.2.1=J0 x1.1.2.2.1.2.1+1/\J0 x1.1.2.2.1.2.1<=4095/\0<=(0:Int)/\(0:Int)<64/\0<=(0:Int)/\(0:Int)<16:=j.1.2;refine .ne (λw=>?_) λw=>?_
  ·refine .bind (J06 j.1.1.c) λy8 G=>.some ⟨(⟨h.1,G.1.u⟩),om⟩
  ·have K:Has o.1.2.2.2.2.2.1 x1.2.1:=JpU (⟨⟨h.1.1,h.1.2.1,h.1.c.1,h.1.d.1,h1,h.1.g⟩,fk0,fkn 4,h.2.1,fk0,fk0,fk0,⟨fk0,fk0,⟨trivial,Jd⟩,trivial,Jd⟩,Jd⟩) j.2 w;refine Jb (τ:=JbK) (λq=>(x1.2.1,x1.2.2,o.1.2.2.2.2.1.1,q.1,x1.1,(0,0,(0,[],0),(0,[],0),([],[]),[],[],[]),(0,0,0,(false,[]),0),q.2)) (λq=>Ty.fit 0 0 (.i .i64) q.1/\Ty.fit 16384 1073741824 J7 q.2/\(0<=q.1)/\(q.1<=J0 o.1.2.2.2.2.1.1)/\(J0 x1.1.2.2.1.2.1<=J0 q.2.2.2.1.2.1)/\(Has q.2.2.2.2.2.2.1 x1.2.1)) (λq=>J0 o.1.2.2.2.2.1.1-q.1) ?_ (0,o.1) rfl ?_
   ·rintro⟨r,n⟩ x;dsimp only at x;obtain⟨C,k,W,V,Y,v⟩:=x;unfold JaI
    try dsimp only
    have:=J2.1 C;have:J0 o.1.2.2.2.2.1.1<=16384:=j.1.1.1.e.1.1.1;have:=J3 (l:=o.1.2.2.2.2.1.1);have:J0 o.1.2.2.2.2.1.1=_:=Jj j.1.1.1.e.1.1;refine .lt (λH=>?_) λH=>?_
    ·refine .bind (Jh j.1.1.1.e.1.1) λT R=>.eq (λE=>?_) λE=>?_
     ·refine .bind (Jh j.1.1.1.e.1.1) λa1 L=>.bind (Js4 (B:=16384) (S:=1073741824) (⟨k,h.2.1,L.1.2.1⟩) v) λZ a0=>.not (λN=>?_) λN=>?_
      ·refine .bind (Jh j.1.1.1.e.1.1) λU O=>.bind (JmJ (B:=16384) (S:=1073741824) (⟨k.2.2.2.2.1,h.2.1,O.1.2.1⟩)) λz J=>?_;have M:Ty.fit 16384 1073741824 JB z:=J.u;have:=Jg r 1;exact .some ⟨(J1 .i64 r 1,(n.1,n.2.1,n.2.2.1,n.2.2.2.1,z,n.2.2.2.2.2)),rfl,⟨J5,⟨k.1,k.2.1,k.2.2.1,k.2.2.2.1,M,k.2.2.2.2.2⟩,om,om,om,v⟩,om,om⟩
      ·have:=Jg r 1;exact .some ⟨(J1 .i64 r 1,n),rfl,⟨J5,k,om,om,om,v⟩,om,om⟩
     ·have:=Jg r 1;exact .some ⟨(J1 .i64 r 1,n),rfl,⟨J5,k,om,om,om,v⟩,om,om⟩
    ·exact .some ⟨(⟨k.u,h.c,fk0,fk0,⟨trivial,Jd⟩,fk0⟩),om⟩
   ·have:J0 o.1.2.2.2.2.1.1<=16384:=j.1.1.1.e.1.1.1;have:=J3 (l:=o.1.2.2.2.2.1.1)
    try dsimp only
    exact⟨fk0,j.1.1.1,om,om,om,K⟩
theorem Jne{B S:Int}{x1:Int×J3j}(h:Ty.fit B S tq6 x1)(k:BS B S 0 0:=by omega):Tot (J7o x1) λy=>Ty.fit 0 0 (.pr J8 .b) y:=by
 unfold J7o;have s0:Ty.fit 0 S tq6 x1:=h;refine .eq (λj=>?_) λj=>?_
 ·exact .some (⟨⟨s0.1,⟨s0.2.2.1,s0.2.2.2.1⟩,fkn 1⟩,trivial⟩)
 ·refine .eq (λe=>?_) λe=>?_
  ·exact .some (⟨⟨s0.1,⟨s0.2.2.1,s0.2.2.2.1⟩,fkn 2⟩,trivial⟩)
  ·refine .eq (λg=>?_) λg=>?_
   ·exact .some (⟨⟨s0.1,⟨s0.2.2.1,s0.2.2.2.1⟩,fkn 2⟩,trivial⟩)
   ·exact .some (⟨fzr,trivial⟩)
theorem Jjm{B S:Int}{x1:J9×J3j}(h:Ty.fit B S (.pr J7 J0o) x1)(ai:BS B S 0 0:=by omega):Tot (J4K x1) λy=>Ty.fit 0 0 (.i .i64) y/\(y=0->1<=x1.2.1/\x1.2.1<=7/\J0 x1.2.2.2.2<=12/\(x1.2.1<=3->0<=x1.2.2.1/\x1.2.2.1<x1.1.1/\0<=x1.2.2.2.1/\x1.2.2.2.1<16)):=by
 unfold J4K;refine .eq (λc1=>?_) λc1=>?_
 ·have:=J2.1 h.2.z.2.1;refine .ltf (λc3=>?_) λc3=>?_
  ·have:=J2.1 h.1.1;refine .gef (λc5=>?_) λc5=>?_
   ·have:=J2.1 h.2.z.2.2.1;refine .ltf (λc7=>?_) λc7=>?_
    ·refine .ge (λc9=>?_) λc9=>?_
     ·have:J0 x1.2.2.2.2<=S:=h.2.z.2.2.2;exact .some ⟨(fkn 1),om⟩
     ·refine .eq (λK=>?_) λK=>?_
      ·refine .not (λv=>?_) λv=>?_
       ·have:J0 x1.2.2.2.2<=S:=h.2.z.2.2.2;exact .some ⟨(fkn 1),om⟩
       ·have ah:=J1A.1 v;refine .gt (λM=>?_) λM=>?_
        ·exact .some ⟨(fkn 22),om⟩
        ·exact .some ⟨fk0,om⟩
      ·refine .not (λr=>?_) λr=>?_
       ·have:J0 x1.2.2.2.2<=S:=h.2.z.2.2.2;exact .some ⟨(fkn 1),om⟩
       ·have aj:=J1A.1 r;have:=J3 (l:=x1.2.2.2.2);refine .gt (λY=>?_) λY=>?_
        ·exact .some ⟨(fkn 22),om⟩
        ·exact .some ⟨fk0,om⟩
    ·have:J0 x1.2.2.2.2<=S:=h.2.z.2.2.2;exact .some ⟨(fkn 1),om⟩
   ·have:J0 x1.2.2.2.2<=S:=h.2.z.2.2.2;exact .some ⟨(fkn 1),om⟩
  ·have:J0 x1.2.2.2.2<=S:=h.2.z.2.2.2;exact .some ⟨(fkn 1),om⟩
 ·refine .eq (λL=>?_) λL=>?_
  ·have:=J2.1 h.2.z.2.1;refine .ltf (λV=>?_) λV=>?_
   ·have:=J2.1 h.1.1;refine .gef (λa2=>?_) λa2=>?_
    ·have:=J2.1 h.2.z.2.2.1;refine .ltf (λW=>?_) λW=>?_
     ·refine .ge (λa0=>?_) λa0=>?_
      ·have:J0 x1.2.2.2.2<=S:=h.2.z.2.2.2;exact .some ⟨(fkn 1),om⟩
      ·refine .eq (λN=>?_) λN=>?_
       ·refine .not (λn=>?_) λn=>?_
        ·have:J0 x1.2.2.2.2<=S:=h.2.z.2.2.2;exact .some ⟨(fkn 1),om⟩
        ·have ak:=J1A.1 n;have:=J3 (l:=x1.2.2.2.2);refine .gt (λa3=>?_) λa3=>?_
         ·exact .some ⟨(fkn 22),om⟩
         ·exact .some ⟨fk0,om⟩
       ·refine .not (λq=>?_) λq=>?_
        ·have:J0 x1.2.2.2.2<=S:=h.2.z.2.2.2;exact .some ⟨(fkn 1),om⟩
        ·have af:=J1A.1 q;have:=J3 (l:=x1.2.2.2.2);refine .gt (λT=>?_) λT=>?_
         ·exact .some ⟨(fkn 22),om⟩
         ·exact .some ⟨fk0,om⟩
     ·have:J0 x1.2.2.2.2<=S:=h.2.z.2.2.2;exact .some ⟨(fkn 1),om⟩
    ·have:J0 x1.2.2.2.2<=S:=h.2.z.2.2.2;exact .some ⟨(fkn 1),om⟩
   ·have:J0 x1.2.2.2.2<=S:=h.2.z.2.2.2;exact .some ⟨(fkn 1),om⟩
  ·refine .eq (λa1=>?_) λa1=>?_
   ·have:=J2.1 h.2.z.2.1;refine .ltf (λR=>?_) λR=>?_
    ·have:=J2.1 h.1.1;refine .gef (λa4=>?_) λa4=>?_
     ·have:=J2.1 h.2.z.2.2.1;refine .ltf (λQ=>?_) λQ=>?_
      ·refine .ge (λO=>?_) λO=>?_
       ·have:J0 x1.2.2.2.2<=S:=h.2.z.2.2.2;exact .some ⟨(fkn 1),om⟩
       ·refine .eq (λU=>?_) λU=>?_
        ·refine .not (λw=>?_) λw=>?_
         ·have:J0 x1.2.2.2.2<=S:=h.2.z.2.2.2;exact .some ⟨(fkn 1),om⟩
         ·have ae:=J1A.1 w;refine .gt (λP=>?_) λP=>?_
          ·exact .some ⟨(fkn 22),om⟩
          ·exact .some ⟨fk0,om⟩
        ·refine .not (λo=>?_) λo=>?_
         ·have:J0 x1.2.2.2.2<=S:=h.2.z.2.2.2;exact .some ⟨(fkn 1),om⟩
         ·have ag:=J1A.1 o;have:=J3 (l:=x1.2.2.2.2);refine .gt (λZ=>?_) λZ=>?_
          ·exact .some ⟨(fkn 22),om⟩
          ·exact .some ⟨fk0,om⟩
      ·have:J0 x1.2.2.2.2<=S:=h.2.z.2.2.2;exact .some ⟨(fkn 1),om⟩
     ·have:J0 x1.2.2.2.2<=S:=h.2.z.2.2.2;exact .some ⟨(fkn 1),om⟩
    ·have:J0 x1.2.2.2.2<=S:=h.2.z.2.2.2;exact .some ⟨(fkn 1),om⟩
   ·refine .eq (λx=>?_) λx=>?_
    ·have:=J2.1 h.2.z.2.2.1;refine .ltf (λG=>?_) λG=>?_
     ·refine .ge (λA=>?_) λA=>?_
      ·have:J0 x1.2.2.2.2<=S:=h.2.z.2.2.2;exact .some ⟨(fkn 1),om⟩
      ·refine .not (λk=>?_) λk=>?_
       ·have:J0 x1.2.2.2.2<=S:=h.2.z.2.2.2;exact .some ⟨(fkn 1),om⟩
       ·have a9:=J1A.1 k;have:=J3 (l:=x1.2.2.2.2);refine .gt (λF=>?_) λF=>?_
        ·have:=J2.1 h.2.z.2.1;exact .some ⟨(fkn 22),om⟩
        ·have:=J2.1 h.2.z.2.1;exact .some ⟨fk0,om⟩
     ·have:J0 x1.2.2.2.2<=S:=h.2.z.2.2.2;exact .some ⟨(fkn 1),om⟩
    ·refine .eq (λD=>?_) λD=>?_
     ·refine .not (λg=>?_) λg=>?_
      ·have:J0 x1.2.2.2.2<=S:=h.2.z.2.2.2;exact .some ⟨(fkn 1),om⟩
      ·have a5:=J1A.1 g;have:=J3 (l:=x1.2.2.2.2);refine .gt (λC=>?_) λC=>?_
       ·have:=J2.1 h.2.z.2.1;exact .some ⟨(fkn 22),om⟩
       ·have:=J2.1 h.2.z.2.1;exact .some ⟨fk0,om⟩
     ·refine .eq (λH=>?_) λH=>?_
      ·refine .not (λe=>?_) λe=>?_
       ·have:J0 x1.2.2.2.2<=S:=h.2.z.2.2.2;exact .some ⟨(fkn 1),om⟩
       ·have ab:=J1A.1 e;have:=J3 (l:=x1.2.2.2.2);refine .gt (λI=>?_) λI=>?_
        ·have:=J2.1 h.2.z.2.1;exact .some ⟨(fkn 22),om⟩
        ·have:=J2.1 h.2.z.2.1;exact .some ⟨fk0,om⟩
      ·refine .eq (λE=>?_) λE=>?_
       ·refine .not (λj=>?_) λj=>?_
        ·have:J0 x1.2.2.2.2<=S:=h.2.z.2.2.2;exact .some ⟨(fkn 1),om⟩
        ·have a7:=J1A.1 j;have:=J3 (l:=x1.2.2.2.2);refine .gt (λJ=>?_) λJ=>?_
         ·have:=J2.1 h.2.z.2.1;exact .some ⟨(fkn 22),om⟩
         ·have:=J2.1 h.2.z.2.1;exact .some ⟨fk0,om⟩
       ·have:J0 x1.2.2.2.2<=S:=h.2.z.2.2.2;exact .some ⟨(fkn 1),om⟩
theorem Jsx{B S:Int}{x1:JdQ}(h:Ty.fit B S JuC x1)(I:BG B S:=by omega):Tot (J2v x1) λy=>Ty.fit 0 0 (.i .i64) y:=by
 unfold J2v;refine .bind ((J1c h.1).eqn) λN h1=>.not (λv=>?_) λv=>?_
 ·exact .some (fkn 15)
 ·have v3:=J1m h.1 h1.2 v;have j:Ty.fit 4096 8192 J7 x1.1:=v3.2;refine .bind ((J2S (B:=4096) (S:=8192) (x1:=(x1.1.2.2.2.2.2.1,x1.2.1)) (⟨j.g.1,h.2.z.1⟩)).eqn) λq k=>?_;have:=J2.1 k.1.1;have:J0 x1.1.2.2.2.2.2.1=_:=Jj j.g.1;have: -1<=q/\q<J0 x1.1.2.2.2.2.2.1:=k.1.2;refine .lt (λw=>?_) λw=>?_
  ·exact .some (fkn 16)
  ·refine .bind (Jh j.g.1) λM F=>.ne (λo=>?_) λo=>?_
   ·exact .some (fkn 15)
   ·refine .bind (Jjm (B:=4096) (S:=S) (⟨j.u,h.2.z.2.u⟩)) λK x=>.ne (λC=>?_) λC=>?_
    ·exact .some x.1
    ·refine .bind (J7b (B:=4096) (S:=8192) (⟨j.e.1,h.2.z.1⟩)) λL E=>.bind (Jne (B:=0) (S:=S) (⟨h.2.z.1,h.2.z.2⟩)) λJ H=>.ite (λD=>?_) λD=>?_
     ·refine .ne (λA=>?_) λA=>?_
      ·refine .nof (λr=>?_) λr=>?_
       ·refine .not (λn=>?_) λn=>?_
        ·exact .some (fkn 15)
        ·have G:=J1A.1 n;exact .some fk0
       ·exact .some (fkn 15)
      ·exact .some fk0
     ·exact .some fk0
section
variable {B S:Int}
theorem Ja9{x:JdQ}(e:J2v x=some 0):JL x.1=some true/\Has x.1.2.2.2.2.2.1 x.2.1/\J4K (x.1,x.2.2)=some 0:=by
 have h:Par (J2v x) λy=>y=0->JL x.1=some true/\Has x.1.2.2.2.2.2.1 x.2.1/\J4K (x.1,x.2.2)=some 0:=by unfold J2v;refine .bind λa ha=>.not (λ_=>.some nofun) λn=>.bind λj hj=>.lt (λ_=>.some nofun) λo=>.bind λt r=>.ne (λ_=>.some nofun) λq=>.bind λb hb=>.ne (λg=>.some λk=>absurd k g) λg=>?_;subst n;subst g;exact λ_ _ _=>⟨ha,⟨j,hj,oo⟩,hb⟩
 exact h _ e rfl
theorem JtG{x:JdQ}{y:Int}(h:Ty.fit B S JuC x)(e:J2v x=some y)(c:y=0)(g:BC B S 0 0:=by omega):(1<=x.1.1/\x.1.1<=64/\J0 x.1.2.2.2.2.2.2.1=x.1.1/\1<=x.1.2.1/\x.1.2.1<=1073741825/\1<=x.1.2.2.1.1/\x.1.2.2.1.1<=1099511627776/\J0 x.1.2.2.1.2.1<=4096/\x.1.2.2.1.1-1<=x.1.2.2.1.2.2/\x.1.2.2.1.2.2<=x.1.2.2.1.1+J0 x.1.2.2.1.2.1-1/\1<=x.1.2.2.2.1.1/\x.1.2.2.2.1.1<=64/\J0 x.1.2.2.2.1.2.1<=x.1.2.2.2.1.1/\0<=x.1.2.2.2.1.2.2/\(x.1.2.2.2.1.2.2<J0 x.1.2.2.2.1.2.1\/x.1.2.2.2.1.2.2=0)/\1<=x.2.2.1/\x.2.2.1<=7/\J0 x.2.2.2.2.2<=12/\(x.2.2.1<=3->0<=x.2.2.2.1/\x.2.2.2.1<x.1.1/\0<=x.2.2.2.2.1/\x.2.2.2.2.1<16))/\Ty.fit 4096 8192 J7 x.1:=by subst c;obtain⟨h1,h2,h3⟩:=Ja9 e;obtain⟨q1,q2⟩:=J1m h.1 h1 rfl;have q3:=((Jjm (x1:=(x.1,x.2.2)) ⟨h.1,h.c⟩).get h3).2 rfl;exact⟨⟨q1.1,q1.2.1,q1.2.2.1,q1.2.2.2.1,q1.2.2.2.2.1,q1.2.2.2.2.2.1,q1.2.2.2.2.2.2.1,q1.2.2.2.2.2.2.2.1,q1.2.2.2.2.2.2.2.2.1,q1.2.2.2.2.2.2.2.2.2.1,q1.2.2.2.2.2.2.2.2.2.2.1,q1.2.2.2.2.2.2.2.2.2.2.2.1,q1.2.2.2.2.2.2.2.2.2.2.2.2.1,q1.2.2.2.2.2.2.2.2.2.2.2.2.2.1,q1.2.2.2.2.2.2.2.2.2.2.2.2.2.2,q3⟩,q2⟩
theorem Jys{x:JdQ}{y:Int}(h:Ty.fit B S JuC x)(e:J2v x=some y)(c:y=0):Has x.1.2.2.2.2.2.1 x.2.1:=by subst c;exact(Ja9 e).2.1
end
theorem JIk{B S:Int}{x1:JdQ}(h:Ty.fit B S JuC x1)(ay:BG B S:=by omega):Tot (J6q x1) λy=>Ty.fit B S tq4 y/\(J0 x1.1.2.2.1.2.1<=J0 y.1.2.2.1.2.1):=by
 unfold J6q;refine .bind ((Jsx (B:=B) (S:=S) (x1:=(x1.1,x1.2.1,x1.2.2)) (⟨h.1,h.2.z.1,h.2.z.2.u⟩)).eqn) λy2 h1=>.ne (λN=>?_) λN=>?_
 ·refine .bind (J06 h1.1) λy3 h4=>.some ⟨(⟨h.1,h4.1.u⟩),om⟩
 ·have q:Has x1.1.2.2.2.2.2.1 x1.2.1:=Jys (⟨h.1,h.2.z.1,h.2.z.2.u⟩) h1.2 N;have L:=JtG (x:=(x1.1,x1.2.1,x1.2.2)) (⟨h.1,h.2.z.1,h.2.z.2.u⟩) h1.2 N;have:=J2.1 h.2.z.2.1;have:=J3 (l:=x1.2.2.2.2.2);have:=J2.1 h.2.z.2.2.2.1;have:1<=x1.1.1/\x1.1.1<=64/\J0 x1.1.2.2.2.2.2.2.1=x1.1.1/\1<=x1.1.2.1/\x1.1.2.1<=1073741825/\1<=x1.1.2.2.1.1/\x1.1.2.2.1.1<=1099511627776/\J0 x1.1.2.2.1.2.1<=4096/\x1.1.2.2.1.1-1<=x1.1.2.2.1.2.2/\x1.1.2.2.1.2.2<=x1.1.2.2.1.1+J0 x1.1.2.2.1.2.1-1/\1<=x1.1.2.2.2.1.1/\x1.1.2.2.2.1.1<=64/\J0 x1.1.2.2.2.1.2.1<=x1.1.2.2.2.1.1/\0<=x1.1.2.2.2.1.2.2/\(x1.1.2.2.2.1.2.2<J0 x1.1.2.2.2.1.2.1\/x1.1.2.2.2.1.2.2=0)/\1<=x1.2.2.1/\x1.2.2.1<=7/\J0 x1.2.2.2.2.2<=12/\(x1.2.2.1<=3->0<=x1.2.2.2.1/\x1.2.2.2.1<x1.1.1/\0<=x1.2.2.2.2.1/\x1.2.2.2.2.1<16):=L.1;have j:Ty.fit 4096 8192 J7 x1.1:=L.2;refine .eq (λY=>?_) λY=>?_
  ·have U:Ty.fit 16384 1073741824 tq1 (x1.1,x1.2.1):=⟨j.u,h.2.z.1⟩;refine .bind (Jvx U q) λy4 C=>?_;have J:Ty.fit 16384 1073741824 tq4 y4:=C.1.u;have:J0 x1.1.2.2.1.2.1<=J0 y4.1.2.2.1.2.1:=C.2;exact .some ⟨(⟨J.1.u,J.2.z.u⟩),om⟩
  ·refine .eq (λal=>?_) λal=>?_
   ·have ai:Ty.fit 16384 1073741824 JrL (x1.1,x1.2.1,1):=⟨j.u,h.2.z.1,fkn 1⟩;refine .bind (Jm6 ai q) λy5 I=>?_;have D:Ty.fit 16384 1073741824 tq4 y5:=I.1.u;have:J0 x1.1.2.2.1.2.1<=J0 y5.1.2.2.1.2.1:=I.2;exact .some ⟨(⟨D.1.u,D.2.z.u⟩),om⟩
   ·refine .eq (λa7=>?_) λa7=>?_
    ·have am:Ty.fit 16384 1073741824 tq2 (x1.1.2.2.2.2.2.1,x1.2.1):=⟨j.g.1.u,h.2.z.1⟩;refine .bind (JmD am) λy6 v=>.eq (λa9=>?_) λa9=>?_
     ·have a6:Ty.fit 16384 1073741824 JLi (x1.1.2.2.2.2.2.1,x1.2.1,x1.2.2.2.2.1):=⟨j.g.1.u,h.2.z.1,h.2.z.2.2.2.1⟩;refine .bind (Jn7 a6) λy7 K=>.ne (λae=>?_) λae=>?_
      ·refine .bind (J06 K.2) λy8 ag=>.some ⟨(⟨j.u,ag.1.u⟩),om⟩
      ·exact .some ⟨(⟨⟨j.1,j.2.1,j.c.1.u,j.d.1.u,j.e.1.u,K.1.u,j.h.u⟩,fkn 1,fk0,fk0,⟨trivial,Jd⟩,fk0⟩),om⟩
     ·have:=J2.1 v.2;refine .ne (λa3=>?_) λa3=>?_
      ·refine .bind (J06 v.2) λy9 a4=>.some ⟨(⟨j.u,a4.1.u⟩),om⟩
      ·exact .some ⟨(⟨⟨j.1,j.2.1,j.c.1.u,j.d.1.u,j.e.1.u,v.1.u,j.h.u⟩,fkn 1,fk0,fk0,⟨trivial,Jd⟩,fk0⟩),om⟩
    ·refine .eq (λaf=>?_) λaf=>?_
     ·have aa:Ty.fit 16384 1073741824 tq2 (x1.1.2.2.2.2.2.1,x1.2.1):=⟨j.g.1.u,h.2.z.1⟩;refine .bind (JmD aa) λao r=>.eq (λak=>?_) λak=>?_
      ·have ah:Ty.fit 16384 1073741824 JLi (x1.1.2.2.2.2.2.1,x1.2.1,x1.2.2.2.2.1):=⟨j.g.1.u,h.2.z.1,h.2.z.2.2.2.1⟩;refine .bind (Jn7 ah) λax A=>.ne (λZ=>?_) λZ=>?_
       ·refine .bind (J06 A.2) λaw T=>.some ⟨(⟨j.u,T.1.u⟩),om⟩
       ·exact .some ⟨(⟨⟨j.1,j.2.1,j.c.1.u,j.d.1.u,j.e.1.u,A.1.u,j.h.u⟩,fkn 1,fk0,fk0,⟨trivial,Jd⟩,fk0⟩),om⟩
      ·have:=J2.1 r.2;refine .ne (λW=>?_) λW=>?_
       ·refine .bind (J06 r.2) λap a8=>.some ⟨(⟨j.u,a8.1.u⟩),om⟩
       ·exact .some ⟨(⟨⟨j.1,j.2.1,j.c.1.u,j.d.1.u,j.e.1.u,r.1.u,j.h.u⟩,fkn 1,fk0,fk0,⟨trivial,Jd⟩,fk0⟩),om⟩
     ·refine .bind (Jne (B:=0) (S:=S) (⟨h.2.z.1,h.2.z.2⟩)) λab aj=>?_;have a1:Ty.fit 16384 1073741824 JLH (x1.1.2.2.2.2.1,ab.1):=⟨j.e.1.u,aj.1⟩;refine .bind (JtS a1) λF k=>.ne (λa0=>?_) λa0=>?_
      ·refine .bind (J06 k.c) λav ac=>.some ⟨(⟨j.u,ac.1.u⟩),om⟩
      ·refine .ite (λa2=>?_) λa2=>?_
       ·have V:Ty.fit 16384 S JuC ((x1.1.1,x1.1.2.1,x1.1.2.2.1,x1.1.2.2.2.1,F.1,x1.1.2.2.2.2.2),x1.2.1,x1.2.2):=⟨⟨j.1,j.2.1,j.c.1.u,j.d.1.u,k.1.u,j.g.u⟩,h.2.z.1,h.2.z.2.u⟩;refine .bind (Jv6 V om om om) λG E=>?_;have o:Ty.fit 16384 S tq4 G:=E.1.u;have:J0 x1.1.2.2.1.2.1<=J0 G.1.2.2.1.2.1:=E.2;refine .eq (λR=>?_) λR=>?_
        ·exact .some ⟨(⟨j.u,o.2.z.u⟩),om⟩
        ·exact .some ⟨(⟨o.1.u,o.2.z.u⟩),om⟩
       ·refine .bind (JyV (B:=4098) (S:=0) (⟨k.1,h.2.z.1⟩)) λaq an=>.gt (λM=>?_) λM=>?_
        ·have P:Ty.fit 16384 1073741824 JrL ((x1.1.1,x1.1.2.1,x1.1.2.2.1,x1.1.2.2.2.1,F.1,x1.1.2.2.2.2.2),x1.2.1,4):=⟨⟨j.1,j.2.1,j.c.1.u,j.d.1.u,k.1.u,j.g.u⟩,h.2.z.1,fkn 4⟩;refine .bind (Jm6 P q) λH w=>?_;have n:Ty.fit 16384 1073741824 tq4 H:=w.1.u;have:J0 x1.1.2.2.1.2.1<=J0 H.1.2.2.1.2.1:=w.2;refine .eq (λQ=>?_) λQ=>?_
         ·exact .some ⟨(⟨j.u,n.2.z.u⟩),om⟩
         ·exact .some ⟨(⟨n.1.u,n.2.z.u⟩),om⟩
        ·refine .bind (JFa (B:=4098) (S:=8192) (⟨⟨j.1,j.2.1,j.c.1.u,j.d.1.u,k.1.u,j.g.u⟩,h.2.z.1⟩)) λau O=>.some ⟨(⟨⟨j.1,j.2.1,j.c.1.u,j.d.1.u,k.1.u,j.g.u⟩,fkn 2,O,fk0,⟨trivial,Jd⟩,fk0⟩),om⟩
end Go.Am
end
