/-
  Parts of a proof.
-/
import Derived.Test.YtjbppmdhfbbchaaGreatM4
set_option linter.unusedSimpArgs false
set_option linter.unusedVariables false
section
namespace Go.Am
set_option linter.unusedVariables false
set_option maxRecDepth 20000
set_option maxHeartbeats 4000000
theorem JAT{B S:Int}{x1:J1l}(h:Ty.fit B S tq1 x1)(g:BS B S 0 0:=by omega)(j:B<=9223372036854775807:=by omega):Tot (J6a x1) λy=>Ty.fit 0 0 (.i .i64) y/\(y<J0 x1.1.2.2.2.2.2.2.2):=by unfold J6a;refine .bind (J7m (B:=B) (S:=S) (⟨h.1.i,h.2⟩)) λe h1=>?_;have:e.1<J0 x1.1.2.2.2.2.2.2.2:=h1.2;exact .some ⟨h1.1.1,om⟩
theorem JKW{B S:Int}{x1:J4A}(h:Ty.fit B S tq6 x1)(k:BS B S 0 0:=by omega)(o:B<=9223372036854775807:=by omega):Tot (J9C x1) λy=>Ty.fit 0 S JEa y:=by
 unfold J9C;refine .bind (JiI (B:=B) (S:=S) (h)) λj h1=>?_;have:J0 x1.1.2.1=_:=Jm h.1.2.1;have:j<J0 x1.1.2.1:=h1.2;refine .ge (λg=>?_) λg=>?_
 ·refine .bind (Jg h.1.2.1) λn e=>.some (⟨e.1.z.1,trivial⟩)
 ·exact .some (⟨⟨fk0,fk0,JC oo oo (.ar 16 Jj)⟩,trivial⟩)
theorem Jw6{B S:Int}{x1:J1l}(h:Ty.fit B S tq1 x1)(p0:J0 x1.1.2.2.2.2.2.2.1=x1.1.1)(v:BS B S 0 0:=by omega)(A:B<=9223372036854775807:=by omega):Tot (J4x x1) λy=>Ty.fit 0 0 (.i .i64) y:=by
 unfold J4x;have:=J4 (l:=x1.1.2.2.2.2.2.2.1);have:J0 x1.1.2.2.2.2.2.2.1=_:=Jm h.1.h.1;have:=J1.1 h.1.1;refine .bind (JKW (B:=B) (S:=S) (⟨h.1.d.1,h.2⟩)) λC h5=>.ite (λr=>?_) λr=>?_
 ·exact .some h5.1.2.1
 ·refine .bind (JAT (B:=B) (S:=S) (h)) λo q=>?_;have:J0 x1.1.2.2.2.2.2.2.2=_:=Jm h.1.i;have:o<J0 x1.1.2.2.2.2.2.2.2:=q.2;refine .ge (λn=>?_) λn=>?_
  ·refine .bind (Jg h.1.i) λz g=>.some g.1.c
  ·refine .bind (J6v (B:=0) (S:=0) (⟨h.2,fk0,J0Y⟩)) λw j=>.ite (λe=>?_) λe=>?_
   ·have:=J1.1 h.2;have:=J0y x1.1.1 1;have:(0:Int)<=x1.2/\x1.2<=(JI .i64 x1.1.1 1):=j.2 e;refine .bind (Jg h.1.h.1) λx k=>.some k.1.1
   ·exact .some fk0
theorem JB1{B S:Int}{x1:J1l}(h:Ty.fit B S tq1 x1)(k:BC B S 0 0:=by omega):Tot (J5X x1) λy=>Ty.fit 0 0 (.i .i64) y:=by
 unfold J5X;refine .bind (Jjs h.1) λq h1=>.nof (λe=>?_) λe=>?_
 ·have:J0 x1.1.2.2.2.2.2.2.1<=B:=h.1.h.1.1;have:J0 x1.1.2.2.2.2.2.2.1=x1.1.1:=h1.2 e;refine .bind (J6v (B:=0) (S:=0) (⟨h.2,fk0,J0Y⟩)) λn o=>.not (λj=>?_) λj=>?_
  ·exact .some fk0
  ·have:=J1.1 h.2;refine .bind (Jw6 (B:=B) (S:=S) (h) om) λr g=>.some g
 ·exact .some fk0
theorem JpY{B S:Int}{x1:Unit}(h:Ty.fit B S .u x1)(K:BS B S 0 0:=by omega):Tot (J6q x1) λy=>Ty.fit 0 0 (.ar 16 (.i .u32)) y:=by
 unfold J6q;refine Ja (τ:=Int×(Vector Int 16)) (λq=>(q.1,Vector.replicate 16 0,q.2)) (λq=>(Ty.fit 0 0 (.i .i64) q.1/\0<=q.1/\(q.1<=16\/q.1<=0))/\Ty.fit 0 0 (.ar 16 (.i .u32)) q.2) (λq=>16-q.1) ?_ (0,Vector.replicate 16 0) rfl ?_
 ·rintro⟨e,j⟩ n;dsimp only at n;obtain⟨⟨E,w3,z5⟩,r⟩:=n;unfold Jc7
  try dsimp only
  have:=J1.1 E;refine .lt (λF=>?_) λF=>?_
  ·refine Ja (τ:=Jat) (λq=>(e,q.1,e,q.2,Vector.replicate 16 0,j)) (λq=>(Ty.fit 0 0 (.i .i64) q.2/\0<=q.2/\(q.2<=4\/q.2<=0))/\Ty.fit 0 0 (.i .u32) q.1) (λq=>4-q.2) ?_ (cvI .u32 e,0) rfl ?_
   ·rintro⟨k,g⟩ o;dsimp only at o;obtain⟨⟨C,H,J⟩,v⟩:=o;unfold JbM
    try dsimp only
    have:=J1.1 C;refine .lt (λz=>?_) λz=>?_
    ·have:=JKQ k 1;refine .eq (λx=>?_) λx=>?_
     ·refine .bind (JfV v oo) λD I=>?_;have:=Jf g 1;exact .some ⟨(J4f .u32 D 2197175160,J2 .i64 g 1),rfl,⟨⟨J7,om,om⟩,Jfb⟩,om,om⟩
     ·refine .bind (JfV v oo) λA w=>?_;have:=Jf g 1;exact .some ⟨(A,J2 .i64 g 1),rfl,⟨⟨J7,om,om⟩,w⟩,om,om⟩
    ·refine .inr ?_;refine .bind (J4n) λ_ _=>.bind (J7u r) λL G=>?_;have:=Jf e 1;exact .some ⟨(J2 .i64 e 1,J9U j (Int.toNat e) k),rfl,⟨⟨J7,om,om⟩,JaZ r v⟩,om,om⟩
   ·try dsimp only
    exact⟨⟨fk0,oo,oo⟩,Jal⟩
  ·exact .some r
 ·try dsimp only
  exact⟨⟨fk0,oo,oo⟩,JC oo oo (.ar 16 (.i .u32))⟩
theorem JtL{B S:Int}{x1:List UInt8}(h:Ty.fit B S .s x1)(G:BS B S 0 0:=by omega)(L:S<=9223372036854775807:=by omega):Tot (Ja2 x1) λy=>Ty.fit 0 0 (.i .u32) y:=by
 unfold Ja2;refine .bind (JpY trivial) λA h1=>?_;have:J0 x1<=S:=h.z;have:=J4 (l:=x1);refine Ja (τ:=Jat) (λq=>(x1,q.1,J0 x1,q.2,A)) (λq=>(Ty.fit 0 0 (.i .i64) q.2/\0<=q.2/\(q.2<=J0 x1\/q.2<=0))/\Ty.fit 0 0 (.i .u32) q.1) (λq=>J0 x1-q.2) ?_ (4294967295,0) rfl ?_
 ·rintro⟨j,e⟩ g;dsimp only at g;obtain⟨⟨r,I,K⟩,J⟩:=g;unfold Jnz
  try dsimp only
  have:=J1.1 r;refine .lt (λo=>?_) λo=>?_
  ·refine .bind (JrY (l:=x1)) λx C=>.bind (JfV (B:=0) (S:=0) (Jfb) oo) λw F=>?_;have:=JKQ (J4f .u32 j (cvI .u32 x)) 15;refine .bind (J4n) λ_ _=>.bind (J7u h1) λn H=>.bind (JfV (B:=0) (S:=0) (Jfb) oo) λv E=>?_;have:=JKQ (J4f .u32 w n) 15;refine .bind (J4n) λ_ _=>.bind (J7u h1) λk D=>?_;have:=Jf e 1;exact .some ⟨(J4f .u32 v k,J2 .i64 e 1),rfl,⟨⟨J7,om,om⟩,Jfb⟩,om,om⟩
  ·exact .some JKq
 ·try dsimp only
  exact⟨⟨fk0,oo,oo⟩,JaN .u32 4294967295⟩
section
variable {B S:Int}
theorem J7M{x1:J2A}(h:Ty.fit B S tq7 x1)(p0:J0 x1.1=1)(g:0<=x1.2)(j:x1.2<=1000)(k:BS B S 0 0:=by omega):Tot (J4h x1) λy=>Ty.fit 0 1000 .s y/\(J0 y=x1.2):=by
 obtain⟨l,n⟩:=x1;dsimp only at p0 g j;have hl:l.length=1:=by have:(l.length:Int)=1:=p0;omega
 show Tot (Jv6 l n) _;unfold Jv6;rw[hl,if_pos oo];have e:J0 (List.replicate n.toNat l).flatten=n:=by show((List.replicate n.toNat l).flatten.length:Int)=n;rw[JGJ,JqJ,List.sum_replicate_nat,hl];omega
 refine .some ⟨?_,e⟩;show J0 _<=1000;omega
end
theorem JHi{B S:Int}{x1:Unit}(h:Ty.fit B S .u x1)(e:BS B S 0 0:=by omega):Tot (Jc8 x1) λy=>Ty.fit 0 1000 .s y:=by unfold Jc8;refine .bind (J7M (B:=0) (S:=1) (⟨Jqp 1 rfl oo,fkn 256⟩) om om om) λg h1=>.some h1.1
section
variable {B S:Int}
theorem J8a{x1:JDp}(h:Ty.fit B S (.pr .s (.pr (.i .i64) (.i .i64))) x1)(g:BS B S 0 0:=by omega)(j:S<=140737488355320:=by omega):Tot (J5f x1) λy=>Ty.fit 0 (S+8) .s y/\(J0 y<=J0 x1.1+8/\(1<=x1.2.2->x1.2.2<=8->J0 y=J0 x1.1+x1.2.2)):=by
 obtain⟨l,n,k⟩:=x1;have hl:J0 l<=S:=h.1;show Tot (JtT l n k) _;unfold JtT;dsimp only;split
 ·refine .some ⟨?_,oo,λ_ _=>by omega⟩;show J0 l<=S+8;omega
 ·have hk:J0 l=(l.length:Int):=rfl;rw[if_pos oo];have e:J0 (l++J9T n k.toNat)=J0 l+k:=by show((l++J9T n k.toNat).length:Int)=(l.length:Int)+k;rw[JbN,Jth];omega
  refine .some ⟨?_,oo,λ_ _=>e⟩;show J0 _<=S+8;omega
end
theorem JoN{B S:Int}{x1:J1y×(List UInt8)}(h:Ty.fit B S (.pr Jj .s) x1)(p0:J0 x1.1.2<=12)(H:BS B S 0 0:=by omega)(K:S<=140737488355320:=by omega):Tot (J5N x1) λy=>Ty.fit 0 (2*S+1008) .s y/\(J0 y=J0 x1.2+13):=by
 unfold J5N;have s0:Ty.fit 0 S (.pr Jj .s) x1:=h;have:J0 x1.1.2<=S:=s0.1.2;have:=J4 (l:=x1.1.2);refine .ite (λE=>?_) λE=>?_
 ·refine .bind (J8a (B:=0) (S:=S) (⟨s0.2,J3M s0.1.2 oo,fkn 1⟩)) λn h4=>?_;have:J0 n<=(S+8):=h4.1;have:J0 x1.2<=S:=s0.2;have:J0 n<=J0 x1.2+8/\(1<=(1:Int)->(1:Int)<=8->J0 n=J0 x1.2+(1:Int)):=h4.2;refine .bind (J3u) λg F=>?_;have v:Ty.fit 0 (2*S+8) .s g:=(by omega:J0 g<=(2*S+8));have:=J0y 12 (J0 x1.1.2);refine .bind (J7M (B:=0) (S:=1) (⟨Jqp 1 rfl oo,J0Y⟩) om om om) λC o=>?_;have:J0 C<=1000:=o.1;have:=J4 (l:=C);have:J0 g<=(2*S+8):=v;have:=J4 (l:=g);refine .bind (J3u) λw J=>?_;have x:Ty.fit 0 (2*S+1008) .s w:=(by omega:J0 w<=(2*S+1008));exact .some ⟨x,om⟩
 ·refine .bind (J8a (B:=0) (S:=S) (⟨s0.2,fkn 255,fkn 1⟩)) λk j=>?_;have:J0 k<=(S+8):=j.1;have:J0 x1.2<=S:=s0.2;have:J0 k<=J0 x1.2+8/\(1<=(1:Int)->(1:Int)<=8->J0 k=J0 x1.2+(1:Int)):=j.2;refine .bind (J3u) λe I=>?_;have q:Ty.fit 0 (2*S+8) .s e:=(by omega:J0 e<=(2*S+8));have:=J0y 12 (J0 x1.1.2);refine .bind (J7M (B:=0) (S:=1) (⟨Jqp 1 rfl oo,J0Y⟩) om om om) λr D=>?_;have:J0 r<=1000:=D.1;have:=J4 (l:=r);have:J0 e<=(2*S+8):=q;have:=J4 (l:=e);refine .bind (J3u) λA G=>?_;have z:Ty.fit 0 (2*S+1008) .s A:=(by omega:J0 A<=(2*S+1008));exact .some ⟨z,om⟩
theorem JBU{B S:Int}{x1:Jy}(h:Ty.fit B S Jk x1)(a1:BS B S 0 0:=by omega):Tot (JaJ x1) λy=>Ty.fit 0 1416 tq7 y:=by
 unfold JaJ;have s0:Ty.fit 0 S Jk x1:=h;refine .bind (JmW (B:=0) (S:=S) s0) λy2 h1=>.not (λV=>?_) λV=>?_
 ·exact .some (⟨Jd,fkn 1⟩)
 ·refine .bind ((Jr8 (B:=0) (S:=S) (x1:=x1) s0).eqn) λy3 h3=>.not (λH=>?_) λH=>?_
  ·exact .some (⟨Jd,fkn 22⟩)
  ·have v5:=JF2 (x:=x1) s0 h3.2 H;have o:Ty.fit 0 12 Jk x1:=v5.2;refine .bind (J8a (B:=0) (S:=0) (⟨Jd,o.2.1,fkn 8⟩)) λg I=>?_;have Q:Ty.fit 0 8 .s g:=I.1.u;have:J0 g<=8:=Q;have:=J4 (l:=g);have:J0 g<=0+8/\(1<=(8:Int)->(8:Int)<=8->J0 g=0+(8:Int)):=I.2;refine .bind (J8a (B:=0) (S:=8) (⟨Q,o.1,fkn 4⟩)) λj r=>?_;have v:Ty.fit 0 16 .s j:=r.1.u;have:J0 j<=16:=v;have:=J4 (l:=j);have:J0 j<=J0 g+8/\(1<=(4:Int)->(4:Int)<=8->J0 j=J0 g+(4:Int)):=r.2;refine Ja (τ:=Int×(List UInt8)) (λq=>(x1.2.2,q.1,x1,q.2)) (λq=>Ty.fit 0 0 (.i .i64) q.1/\Ty.fit 0 400 .s q.2/\(0<=q.1)/\(q.1<=16)/\(J0 q.2=12+13*q.1)) (λq=>16-q.1) ?_ (0,j) rfl ?_
   ·rintro⟨k,n⟩ D;dsimp only at D;obtain⟨a2,T,z20,a0,W⟩:=D;unfold Jhy
    try dsimp only
    refine .lt (λF=>?_) λF=>?_
    ·refine .bind (JME o.c) λU z=>?_;have:J0 U.2<=12:=z.2;refine .bind (JoN (B:=0) (S:=400) (⟨z.u,T⟩) om) λe A=>?_;have O:Ty.fit 0 1808 .s e:=A.1.u;have:J0 e<=1808:=O;have:=J4 (l:=e);have:J0 e=J0 n+13:=A.2;have E:Ty.fit 0 400 .s e:=(by omega:J0 e<=400);have:=J99 k 1;exact .some ⟨(J2 .i64 k 1,e),rfl,⟨J7,E,om,om,om⟩,om,om⟩
    ·refine .inr ?_;have:=Ju5 244 (J0 n);refine .bind (J7M (B:=0) (S:=1) (⟨Jqp 1 rfl oo,J0Y⟩) om om om) λM P=>?_;have:J0 M<=1000:=P.1;have:=J4 (l:=M);refine .bind (J3u) λw Z=>?_;have C:Ty.fit 0 1400 .s w:=(by omega:J0 w<=1400);refine .bind (JtL C) λa3 Y=>.bind (J8a (B:=0) (S:=1400) (⟨C,Jal,fkn 4⟩)) λL K=>?_;have N:Ty.fit 0 1408 .s L:=K.1.u;refine .bind (J8a (B:=0) (S:=1408) (⟨N,o.2.1,fkn 8⟩)) λG J=>?_;have R:Ty.fit 0 1416 .s G:=J.1.u;exact .some (⟨R,fk0⟩)
   ·try dsimp only
    exact⟨fk0,v.u,om,om,om⟩
theorem JIa{B S:Int}{x1:JZ}(h:Ty.fit B S Jv x1)(E:BS B S 0 0:=by omega)(I:S<=9223372036854775807:=by omega):Tot (J8c x1) λy=>Ty.fit 0 0 JY y:=by
 unfold J8c;have s0:Ty.fit 0 S Jv x1:=h;have:=J1.1 s0.2.2;refine .ltf (λr=>?_) λr=>?_
 ·refine .gtf (λv=>?_) λv=>?_
  ·have:=J1.1 s0.2.1;refine .lt (λz=>?_) λz=>?_
   ·exact .some (⟨fk0,fkn 1⟩)
   ·have:J0 x1.1<=S:=s0.1;have:=J4 (l:=x1.1);refine .gtf (λx=>?_) λx=>?_
    ·have:=J0y (J0 x1.1) x1.2.1;refine .lt (λo=>?_) λo=>?_
     ·exact .some (⟨fk0,fkn 5⟩)
     ·refine Ja (τ:=Jat) (λq=>(x1.1,x1.2.1,q.1,x1.2.2,q.2)) (λq=>(Ty.fit 0 0 (.i .i64) q.2/\0<=q.2/\(q.2<=x1.2.2\/q.2<=0))/\Ty.fit 0 0 (.i .u64) q.1) (λq=>x1.2.2-q.2) ?_ (0,0) rfl ?_
      ·rintro⟨j,e⟩ g;dsimp only at g;obtain⟨⟨k,D,A⟩,G⟩:=g;unfold Jeh
       try dsimp only
       have:=J1.1 k;refine .lt (λn=>?_) λn=>?_
       ·have:=Jf x1.2.1 e;refine .bind (JrY (l:=x1.1)) λH F=>?_;have:=JGa 8 e;refine .bind (JNJ (B:=0) (S:=0) oo) λw C=>?_;have:=Jf e 1;exact .some ⟨(orI .u64 j w,J2 .i64 e 1),rfl,⟨⟨J7,om,om⟩,JMP⟩,om,om⟩
       ·exact .some (⟨Jal,fk0⟩)
      ·try dsimp only
       exact⟨⟨fk0,oo,oo⟩,JaN .u64 0⟩
    ·exact .some (⟨fk0,fkn 5⟩)
  ·exact .some (⟨fk0,fkn 1⟩)
 ·exact .some (⟨fk0,fkn 1⟩)
section
variable {B S:Int}
theorem JHg(x:JZ):Fw (J8c x) (J0e x):=by
 obtain⟨s,p,k⟩:=x;unfold J8c J0e;refine .ite (λ_=>.ite (λc=>.ite (λ_=>.rfl) λ_=>.ite (λ_=>.ite (λ_=>.rfl) λ_=>?_) λ_=>.rfl) λ_=>.rfl) λ_=>.rfl;have hk:k<=8:=by
  have: ¬8<k:=λh=>by rw[J9b.2 h]at c;cases c
  omega
 refine .while (λa b=> ∃n i:Int,0<=i/\a=(s,p,n,k,i)/\b=(s,p,k,n,i)) ?_ ⟨0,0,J0U _,rfl,rfl⟩;rintro _ _ ⟨n,i,j,rfl,rfl⟩;unfold Jeh J7R;intro r hr;dsimp only at hr⊢;by_cases e:ltI i k=true
 ·rw[if_pos e]at hr⊢;obtain⟨b,hb,hr⟩:=J25.1 hr;obtain⟨q,hq,hr⟩:=J25.1 hr;injection hr with hr;subst hr;have hi:=Jbo.1 e;have:=JKH 8 i;have:=Jf i 1;have g:cvI .u64 (J20 .i64 8 i)=J20 .i64 8 i:=by have:cvI .u64 (J20 .i64 8 i)=J20 .i64 8 i%18446744073709551616:=_root_.rfl;omega
  refine⟨(s,p,k,orI .u64 n q,J2 .i64 i 1),?_,orI .u64 n q,J2 .i64 i 1,oo,_root_.rfl,_root_.rfl⟩;rw[hb,JJ,g,hq];rfl
 ·rw[if_neg e]at hr⊢;injection hr with hr;subst hr;rfl
theorem JJn{x:JZ}{y:JA}(e:J0e x=some y):y.2=0\/y.1=0:=by
 have g:Par (J0e x) λy=>y.2=0\/y.1=0:=by unfold J0e;refine .ltf (λo=>.gtf (λh=>.lt (λ_=>.some (.inr rfl)) λj=>.gtf (λn=>.lt (λ_=>.some (.inr rfl)) λk=>?_) λ_=>.some (.inr rfl)) λ_=>.some (.inr rfl)) λ_=>.some (.inr rfl);refine .while (λ_=>True) trivial ?_;intro z _;unfold J7R;exact .lt (λ_=>.bind λ_ _=>.bind λ_ _=>.some trivial) λ_=>.some (.inl rfl)
 exact g _ e
theorem Jaw{x1:JZ}(h:Ty.fit B S Jv x1)(g:BS B S 0 0:=by omega)(j:S<=9223372036854775807:=by omega):Tot (J4P x1) λy=>Ty.fit 0 0 (.i .i64) y/\(True/\(x1.2.2<=4->0<=y)):=by
 unfold J4P;refine .bind ((JIa (x1:=(x1.1,x1.2.1,x1.2.2)) h).eqn) λk h2=>.some ⟨h2.1.1,trivial,λc=>?_⟩;have e:=JHg _ _ h2.2;rcases JJn e with d|d
 ·exact((J6H h e d).1.2.2.2.2.2.1 c).1
 ·omega
end
theorem JIn{B S:Int}{x1:List UInt8}(h:Ty.fit B S .s x1)(p0:J0 x1=256)(J:BS B S 0 0:=by omega)(L:S<=9223372036854775807:=by omega):Tot (Jdv x1) λy=>Ty.fit 0 S JEa y:=by
 unfold Jdv;have s0:Ty.fit 0 S .s x1:=h;refine .bind (Jaw (B:=0) (S:=S) (⟨s0,fkn 8,fkn 4⟩)) λF h3=>.bind (Jaw (B:=0) (S:=S) (⟨s0,fk0,fkn 8⟩)) λC E=>Ja (τ:=Jwy) (λq=>(x1,q.1,(0,0,Vector.replicate 16 (false,[])),q.2)) (λq=>(Ty.fit 0 0 (.i .i64) q.1/\0<=q.1/\(q.1<=16\/q.1<=0))/\Ty.fit 0 S Jk q.2) (λq=>16-q.1) ?_ (0,(F,C,Vector.replicate 16 (false,[]))) rfl ?_
 ·rintro⟨e,j⟩ k;dsimp only at k;obtain⟨⟨D,G,H⟩,g⟩:=k;unfold Jo4
  try dsimp only
  have:=J1.1 D;refine .lt (λr=>?_) λr=>?_
  ·refine .bind (Jaw (B:=0) (S:=S) (⟨s0,J7,fkn 1⟩)) λw n=>?_;have:=J1.1 n.1;have:0<=w:=n.c (show(1:Int)<=4 by decide);refine .eq (λz=>?_) λz=>?_
   ·have:=J99 e 1;exact .some ⟨(J2 .i64 e 1,j),rfl,⟨⟨J7,om,om⟩,g⟩,om,om⟩
   ·refine .gt (λA=>?_) λA=>?_
    ·exact .some (⟨⟨fk0,fk0,JC oo oo (.ar 16 Jj)⟩,trivial⟩)
    ·have:=JGa e 13;have:=J99 12 (J20 .i64 e 13);have:=J99 (J2 .i64 12 (J20 .i64 e 13)) 1;have:=J99 (J2 .i64 (J2 .i64 12 (J20 .i64 e 13)) 1) w;refine .bind (JcQ s0) λx o=>?_;have v:Ty.fit 0 S .s x:=o.1;refine .bind (J4n) λ_ _=>.bind (J7u g.2.2) λK I=>?_;have:=J99 e 1;exact .some ⟨(J2 .i64 e 1,(j.1,j.2.1,J9U j.2.2 (Int.toNat e) (true,x))),rfl,⟨⟨J7,om,om⟩,g.1,g.2.1,JaZ g.2.2 (⟨trivial,v⟩)⟩,om,om⟩
  ·exact .some (⟨g,trivial⟩)
 ·try dsimp only
  exact⟨⟨fk0,oo,oo⟩,h3.1,E.1,JC oo oo (.ar 16 Jj)⟩
theorem JCV{B S:Int}{x1:List UInt8}(h:Ty.fit B S .s x1)(D:BS B S 0 0:=by omega)(M:S<=9223372036854775807:=by omega):Tot (JaS x1) λy=>Ty.fit 0 S tq3 y:=by
 unfold JaS;have s0:Ty.fit 0 S .s x1:=h;have:=J4 (l:=x1);refine .ne (λw=>?_) λw=>?_
 ·exact .some (⟨⟨fk0,fk0,JC oo oo (.ar 16 Jj)⟩,fkn 2⟩)
 ·refine .bind (JHi trivial) λN h4=>.ite (λz=>?_) λz=>?_
  ·exact .some (⟨⟨fk0,fk0,JC oo oo (.ar 16 Jj)⟩,fkn 7⟩)
  ·refine .bind (J7T s0) λF K=>.bind (Jgn s0) λJ L=>.ite (λg=>?_) λg=>?_
   ·exact .some (⟨⟨fk0,fk0,JC oo oo (.ar 16 Jj)⟩,fkn 27⟩)
   ·refine .bind (Jaw (B:=0) (S:=S) (⟨s0,fkn 244,fkn 4⟩)) λH A=>.bind (J7T s0) λx o=>?_;have k:Ty.fit 0 S .s x:=o.1;refine .bind (JtL k) λE C=>.ne (λn=>?_) λn=>?_
    ·exact .some (⟨⟨fk0,fk0,JC oo oo (.ar 16 Jj)⟩,fkn 3⟩)
    ·refine .bind (JIn (B:=0) (S:=S) s0 om) λG e=>.bind (JBU e.1) λI v=>.nof (λq=>?_) λq=>?_
     ·have:=J1.1 v.2;refine .nef (λj=>?_) λj=>?_
      ·refine .ite (λr=>?_) λr=>?_
       ·exact .some (⟨⟨fk0,fk0,JC oo oo (.ar 16 Jj)⟩,fkn 4⟩)
       ·exact .some (⟨e.1,fk0⟩)
      ·exact .some (⟨⟨fk0,fk0,JC oo oo (.ar 16 Jj)⟩,fkn 4⟩)
     ·exact .some (⟨⟨fk0,fk0,JC oo oo (.ar 16 Jj)⟩,fkn 4⟩)
theorem JLR{B S x1:Int}(h:Ty.fit B S (.i .i64) x1)(e:BS B S 0 0:=by omega):Tot (Jbw x1) λy=>Ty.fit 0 0 Jk y:=by unfold Jbw;exact .some (⟨h,fk0,JC oo oo (.ar 16 Jj)⟩)
theorem Jwr{B S:Int}{x1:J2A}(h:Ty.fit B S tq7 x1)(o:BS B S 0 0:=by omega)(r:S<=9223372036854775807:=by omega):Tot (J2S x1) λy=>Ty.fit 0 S tq3 y:=by
 unfold J2S;have s0:Ty.fit 0 S tq7 x1:=h;refine .bind (Jpm (B:=0) (S:=0) s0.2) λv h1=>.not (λe=>?_) λe=>?_
 ·exact .some (⟨⟨fk0,fk0,JC oo oo (.ar 16 Jj)⟩,fkn 1⟩)
 ·refine .bind (JCV (B:=0) (S:=S) s0.1) λq h3=>.eq (λn=>?_) λn=>?_
  ·refine .bind (JLR (B:=0) (S:=0) s0.2) λw g=>.some (⟨g.u,fk0⟩)
  ·refine .ne (λj=>?_) λj=>?_
   ·exact .some (⟨⟨fk0,fk0,JC oo oo (.ar 16 Jj)⟩,h3.2⟩)
   ·have:=J1.1 h3.1.1;refine .ne (λk=>?_) λk=>?_
    ·exact .some (⟨⟨fk0,fk0,JC oo oo (.ar 16 Jj)⟩,fkn 6⟩)
    ·exact .some (⟨h3.1,fk0⟩)
theorem JsD{B S:Int}{x1:Jdx}(h:Ty.fit B S JxW x1)(g:BS B S 0 0:=by omega):Tot (J6V x1) λy=>Ty.fit 0 0 .b y/\(y=true->0<=x1.2/\x1.2<J0 x1.1):=by
 unfold J6V;have:=J1.1 h.2;refine .ge (λe=>?_) λe=>?_
 ·have:J0 x1.1<=B:=h.1.1;have:J0 x1.1=_:=Jm h.1;exact .some ⟨trivial,λc=>omc (Jbo.1 c)⟩
 ·exact .some ⟨trivial,nofun⟩
theorem Jsp{B S:Int}{x1:JHv}(h:Ty.fit B S JS1 x1)(x:BS B S 0 0:=by omega)(F:B<=9223372036854775807:=by omega)(E:S<=9223372036854775807:=by omega):Tot (J1W x1) λy=>Ty.fit 0 S tq3 y:=by
 unfold J1W;refine .bind (JeB h.1) λG h1=>.not (λw=>?_) λw=>?_
 ·exact .some (⟨⟨fk0,fk0,JC oo oo (.ar 16 Jj)⟩,fkn 28⟩)
 ·refine .bind (JsD (B:=B) (S:=S) (⟨h.1,h.2.z.1⟩)) λA h3=>.nof (λo=>?_) λo=>?_
  ·have:=J1.1 h.2.z.1;have:J0 x1.1=_:=Jm h.1;have:0<=x1.2.1/\x1.2.1<J0 x1.1:=h3.2 o;refine .lt (λk=>?_) λk=>?_
   ·exact .some (⟨⟨fk0,fk0,JC oo oo (.ar 16 Jj)⟩,fkn 1⟩)
   ·refine .bind (Jwr (B:=0) (S:=S) (⟨h.2.z.2.2,h.2.z.1⟩)) λD e=>.bind (Jg h.1) λC g=>.ne (λj=>?_) λj=>?_
    ·exact .some (⟨⟨fk0,fk0,JC oo oo (.ar 16 Jj)⟩,e.2⟩)
    ·have:=J1.1 e.1.2.1;refine .gt (λr=>?_) λr=>?_
     ·have:=J1.1 g.1.1;refine .gt (λq=>?_) λq=>?_
      ·exact .some (⟨⟨fk0,fk0,JC oo oo (.ar 16 Jj)⟩,fkn 9⟩)
      ·refine .lt (λv=>?_) λv=>?_
       ·exact .some (⟨⟨fk0,fk0,JC oo oo (.ar 16 Jj)⟩,fkn 8⟩)
       ·exact .some (⟨e.1,fk0⟩)
     ·have:=J1.1 g.1.1;refine .lt (λn=>?_) λn=>?_
      ·exact .some (⟨⟨fk0,fk0,JC oo oo (.ar 16 Jj)⟩,fkn 8⟩)
      ·exact .some (⟨e.1,fk0⟩)
  ·exact .some (⟨⟨fk0,fk0,JC oo oo (.ar 16 Jj)⟩,fkn 1⟩)
theorem JBq{B S:Int}{x1:JPG}(h:Ty.fit B S (.pr J3 (.pr (.i .i64) tq7)) x1)(v:BC B S 0 0:=by omega)(A:S<=9223372036854775807:=by omega):Tot (J2E x1) λy=>Ty.fit 0 S tq3 y:=by
 unfold J2E;refine .bind (Jjs h.1) λC h1=>.not (λr=>?_) λr=>?_
 ·exact .some (⟨⟨fk0,fk0,JC oo oo (.ar 16 Jj)⟩,fkn 15⟩)
 ·have:J0 x1.1.2.2.2.2.2.2.1<=B:=h.1.h.1.1;refine .ltf (λq=>?_) λq=>?_
  ·refine .ge (λo=>?_) λo=>?_
   ·exact .some (⟨⟨fk0,fk0,JC oo oo (.ar 16 Jj)⟩,fkn 1⟩)
   ·have:=J1.1 h.2.z.2.2;refine .ne (λk=>?_) λk=>?_
    ·exact .some (⟨⟨fk0,fk0,JC oo oo (.ar 16 Jj)⟩,h.2.z.2.2⟩)
    ·refine .bind (JB1 (B:=B) (S:=S) (⟨h.1,h.2.z.1⟩)) λw g=>.bind (Jsp (B:=B) (S:=S) (⟨h.1.h.1,h.2.z.1,g,h.2.z.2.1.u⟩)) λx e=>.ne (λn=>?_) λn=>?_
     ·exact .some (⟨⟨fk0,fk0,JC oo oo (.ar 16 Jj)⟩,e.2⟩)
     ·have:=J1.1 e.1.2.1;refine .gt (λj=>?_) λj=>?_
      ·exact .some (⟨⟨fk0,fk0,JC oo oo (.ar 16 Jj)⟩,fkn 9⟩)
      ·exact .some (⟨e.1,fk0⟩)
  ·exact .some (⟨⟨fk0,fk0,JC oo oo (.ar 16 Jj)⟩,fkn 1⟩)
section
variable {B S:Int}
theorem JSk(k:Nat): ∀{n e:Int} {l:List Int},Ty.fit B S (.l (.i .u8)) l->Ty.fit 0 0 (.i .i64) n->0<=e->Ty.fit 0 0 (.i .i64) e->B<=4611686018427387903->(n<=256->1<=k)->(¬n<=256->2<=k)->Tot (JiD J3N k (n,l,e)) λy=>Ty.fit B S JxF y/\(0<=y.1/\(1<=n->y.1<n)/\0<=y.2.2):=by
 induction k with
 |zero=>intro n e l h1 h2 h3 h4 h5 D v;omega
 |succ k ih=>
  intro n e l h1 h2 h3 h4 h5 D v;show Tot (J3N (JiD J3N k) (n,l,e)) _;unfold J3N;dsimp only;have:=Jf e 1;have:J0 l<=B:=h1.1;refine .gef (λc=>.lt (λw=>.some ⟨⟨fk0,h1,h4⟩,J0U _,λc=>by omega,h3⟩) λw=>.bind (Jg h1 h3 (by show e<J0 l;omega)) λh C=>?_) λc=>.some ⟨⟨fk0,h1,h4⟩,J0U _,λc=>c,h3⟩;have q2:=(JGh (B:=B) (S:=S)).1 C.1;have:=JKG h;have j:Ty.fit 0 0 (.i .i64) (J2 .i64 e 1):=J7;refine .gt (λz=>.bind (ih (n:=256) h1 (fkn 256) oo j h5 (λ_=>by omega) λc=>by omega) λq o=>?_) λz=>?_
  ·have r:=o.2.2.1 (by decide);have:=JKH 256 (cvI .i64 h);have:=Jf (J20 .i64 256 (cvI .i64 h)) q.1;exact .bind (JEl (k:=.i64) (B:=B) (S:=S) (x:=J2 .i64 (J20 .i64 256 (cvI .i64 h)) q.1) (y:=n) J7 oo) λA g=>.some ⟨⟨g.1,o.1.2⟩,g.2.1 oo,λ_=>g.2.2 oo,o.2.2.2⟩
  ·exact .bind (JEl (k:=.i64) (B:=B) (S:=S) (x:=cvI .i64 h) (y:=n) Jal oo) λA g=>.some ⟨⟨g.1,h1,j⟩,g.2.1 oo,λ_=>g.2.2 oo,by show 0<=J2 .i64 e 1;omega⟩
theorem Jo{x1:JcP}(h:Ty.fit B S JxF x1)(p0:0<=x1.2.2)(g:BS B S 0 0:=by omega)(e:B<=4611686018427387903:=by omega):Tot (Jn x1) λy=>Ty.fit B S JxF y/\(0<=y.1/\(1<=x1.1->y.1<x1.1)/\0<=y.2.2):=by obtain⟨n,l,a⟩:=x1;exact JSk (B:=B) (S:=S) 100 h.2.1 h.1 p0 h.c e (λ_=>by decide) λ_=>by decide
end
theorem J6S{B S:Int}{x1:JB}(h:Ty.fit B S J8 x1)(p0:0<=x1.2)(a8:BG B S:=by omega):Tot (J2P x1) λy=>Ty.fit B S JPh y/\(0<=y.2.2/\J0 y.1<=13):=by
 unfold J2P;refine .bind (Jo (B:=B) (S:=S) (⟨fkn 5,h⟩) om) λv h2=>?_;have:=J1.1 h2.1.1;have:=J1.1 h2.1.c;have:0<=v.1/\v.1<5/\0<=v.2.2:=⟨h2.2.1,h2.c.1 (show(1:Int)<=5 by decide),h2.d⟩;refine .bind (Jo (B:=B) (S:=S) (⟨fkn 6,h2.1.2⟩) om) λy3 K=>?_;have:=J1.1 K.1.c;refine .eq (λU=>?_) λU=>?_
 ·refine .bind (Jo (B:=B) (S:=S) (⟨fkn 14,K.1.2⟩) om) λk j=>?_;have:=J1.1 j.1.1;have:=J1.1 j.1.c;have:0<=k.1/\k.1<14/\0<=k.2.2:=⟨j.2.1,j.c.1 (show(1:Int)<=14 by decide),j.d⟩;refine .bind (JEQ (t:=(.i .u8)) (B:=0) (S:=0) (JaN .u8 0)) λP G=>Ja (τ:=JSL) (λq=>(k.1,q.1,q.2.1,q.2.2)) (λq=>Ty.fit 0 0 (.i .i64) q.1/\Ty.fit B S J8 q.2.1/\Ty.fit 13 0 (.l (.i .u8)) q.2.2/\(0<=q.1)/\(q.1<=k.1)/\(0<=q.2.1.2)/\(J0 q.2.2<=q.1)) (λq=>k.1-q.1) ?_ (0,k.2,P) rfl ?_
  ·rintro⟨w,a1,g⟩ I;dsimp only at I;obtain⟨M,A,r,z20,a6,a3,a4⟩:=I;unfold JcJ
   try dsimp only
   have:=J1.1 M;have:=J1.1 A.2;have:J0 g<=13:=r.1;have:=J4 (l:=g);refine .lt (λT=>?_) λT=>?_
   ·refine .bind (Jo (B:=B) (S:=S) (⟨fkn 3,A⟩) om) λy7 H=>?_;have:=J1.1 H.1.c;refine .bind (J0K (B:=14) (Bl:=13) (Bm:=1) (S:=0) (J0 g) 1 r (J0n (B:=1) (S:=0) (t:=(.i .u8)) oo Jal)) λJ Q=>?_;have W:Ty.fit 13 0 (.l (.i .u8)) J:=⟨(by omega:J0 J<=13),λx hx=>Q.1.2 x hx⟩;have:=Jf w 1;exact .some ⟨(J2 .i64 w 1,y7.2,J),rfl,⟨J7,H.1.2,W,om,om,om,om⟩,om,om⟩
   ·have:J0 (toStr g)<=13:=(J4s▸r.1);have:=J4 (l:=toStr g);exact .some ⟨(⟨(Je1 (B:=0) (S:=13) r.1).u,A⟩),om⟩
  ·have:J0 P<=0:=G.1.1
   try dsimp only
   exact⟨fk0,j.1.2,G.1.u,om,om,om,om⟩
 ·refine .bind (JEQ (t:=(.i .u8)) (B:=0) (S:=0) (JaN .u8 0)) λV E=>Ja (τ:=JSL) (λq=>(v.1,q.1,q.2.1,q.2.2)) (λq=>Ty.fit 0 0 (.i .i64) q.1/\Ty.fit B S J8 q.2.1/\Ty.fit 13 0 (.l (.i .u8)) q.2.2/\(0<=q.1)/\(q.1<=v.1)/\(0<=q.2.1.2)/\(J0 q.2.2<=q.1)) (λq=>v.1-q.1) ?_ (0,y3.2,V) rfl ?_
  ·rintro⟨o,Z,e⟩ D;dsimp only at D;obtain⟨L,C,n,a7,z51,a5,z53⟩:=D;unfold JcO
   try dsimp only
   have:=J1.1 L;have:=J1.1 C.2;have:J0 e<=13:=n.1;have:=J4 (l:=e);refine .lt (λR=>?_) λR=>?_
   ·refine .bind (Jo (B:=B) (S:=S) (⟨fkn 3,C⟩) om) λY F=>?_;have:=J1.1 F.1.c;refine .bind (J0K (B:=14) (Bl:=13) (Bm:=1) (S:=0) (J0 e) 1 n (J0n (B:=1) (S:=0) (t:=(.i .u8)) oo Jal)) λz O=>?_;have N:Ty.fit 13 0 (.l (.i .u8)) z:=⟨(by omega:J0 z<=13),λx hx=>O.1.2 x hx⟩;have:=Jf o 1;exact .some ⟨(J2 .i64 o 1,Y.2,z),rfl,⟨J7,F.1.2,N,om,om,om,om⟩,om,om⟩
   ·have:J0 (toStr e)<=13:=(J4s▸n.1);have:J0 (toStr e)=J0 e:=J4s;exact .some ⟨(⟨(Je1 (B:=0) (S:=13) n.1).u,C⟩),om⟩
  ·have:J0 V<=0:=E.1.1
   try dsimp only
   exact⟨fk0,K.1.2,E.1.u,om,om,om,om⟩
theorem JeC{B S:Int}{x1:JB}(h:Ty.fit B S J8 x1)(p0:0<=x1.2)(q:BG B S:=by omega):Tot (J4X x1) λy=>Ty.fit B S (.pr Jj J8) y/\(0<=y.2.2):=by
 unfold J4X;refine .bind (Jo (B:=B) (S:=S) (⟨fkn 3,h⟩) om) λr h2=>?_;have:=J1.1 h2.1.c;refine .eq (λn=>?_) λn=>?_
 ·exact .some ⟨(⟨⟨trivial,Jd⟩,h2.1.2⟩),om⟩
 ·refine .bind (J6S h2.1.2 om) λg e=>?_;have:=J1.1 e.1.c;have:=J4 (l:=g.1);have:=Jz6 (J0 g.1) 12;refine .bind (J7T e.1.1.z) λo j=>?_;have k:Ty.fit 0 S .s o:=j.1;exact .some ⟨(⟨⟨trivial,k.u⟩,e.1.2⟩),om⟩
theorem JsE{B S:Int}{x1:JcP}(h:Ty.fit B S JxF x1)(p0:0<=x1.2.2)(a9:BG B S:=by omega):Tot (J6R x1) λy=>Ty.fit B S (.pr Jk J8) y/\(0<=y.2.2):=by
 unfold J6R;refine .bind (Jo (B:=B) (S:=S) (⟨fkn 50,h.2⟩) om) λy2 h2=>?_;have:=J1.1 h2.1.c;refine .bind (Jo (B:=B) (S:=S) (⟨fkn 10,h2.1.2⟩) om) λy3 K=>?_;have:=J1.1 K.1.c;refine .eq (λW=>?_) λW=>?_
 ·refine .bind (Jo (B:=B) (S:=S) (⟨fkn 2,K.1.2⟩) om) λI g=>?_;have:=J1.1 g.1.1;have:=J1.1 g.1.c;have:0<=I.1/\I.1<2/\0<=I.2.2:=⟨g.2.1,g.c.1 (show(1:Int)<=2 by decide),g.d⟩;have:=J0y 1099511627776 I.1;refine .gt (λU=>?_) λU=>?_
  ·refine .bind (Jo (B:=B) (S:=S) (⟨fkn 6,g.1.2⟩) om) λF e=>?_;have:=J1.1 e.1.1;have:=J1.1 e.1.c;have:0<=F.1/\F.1<6/\0<=F.2.2:=⟨e.2.1,e.c.1 (show(1:Int)<=6 by decide),e.d⟩;refine Ja (τ:=JSa) (λq=>(q.1,q.2.1,(0,0,Vector.replicate 16 (false,[])),q.2.2)) (λq=>Ty.fit 0 0 (.i .i64) q.1/\Ty.fit B S J8 q.2.1/\Ty.fit 0 S Jk q.2.2/\(0<=q.2.1.2)/\(0<=q.1)) (λq=>q.1) ?_ (F.1,F.2,(x1.1,JI .i64 1099511627776 I.1,Vector.replicate 16 (false,[]))) rfl ?_
   ·rintro⟨E,a0,x⟩ O;dsimp only at O;obtain⟨T,L,v,aa,a8⟩:=O;unfold JcE
    try dsimp only
    have:=J1.1 T;refine .gt (λV=>?_) λV=>?_
    ·refine .bind (Jo (B:=B) (S:=S) (⟨fkn 16,L⟩) om) λJ k=>?_;have:=J1.1 k.1.1;have:=J1.1 k.1.c;have:0<=J.1/\J.1<16/\0<=J.2.2:=⟨k.2.1,k.c.1 (show(1:Int)<=16 by decide),k.d⟩;refine .bind (JeC k.1.2 om) λP G=>?_;have:0<=P.2.2:=G.2;refine .bind (J4n) λ_ _=>.bind (J7u v.2.2) λa2 a7=>?_;have:=J0y E 1;exact .some ⟨(JI .i64 E 1,P.2,(x.1,x.2.1,J9U x.2.2 (Int.toNat J.1) P.1)),rfl,⟨J0Y,G.1.2,⟨v.1,v.2.1,JaZ v.2.2 G.1.1.z⟩,om,om⟩,om,om⟩
    ·exact .some ⟨(⟨v.u,L⟩),om⟩
   ·try dsimp only
    exact⟨e.1.1,e.1.2,⟨h.1,J0Y,JC oo oo (.ar 16 Jj)⟩,om,om⟩
  ·exact .some ⟨(⟨⟨h.1,J0Y,JC oo oo (.ar 16 Jj)⟩,g.1.2⟩),om⟩
 ·refine .gt (λQ=>?_) λQ=>?_
  ·refine .bind (Jo (B:=B) (S:=S) (⟨fkn 6,K.1.2⟩) om) λw j=>?_;have:=J1.1 j.1.1;have:=J1.1 j.1.c;have:0<=w.1/\w.1<6/\0<=w.2.2:=⟨j.2.1,j.c.1 (show(1:Int)<=6 by decide),j.d⟩;refine Ja (τ:=JSa) (λq=>(q.1,q.2.1,(0,0,Vector.replicate 16 (false,[])),q.2.2)) (λq=>Ty.fit 0 0 (.i .i64) q.1/\Ty.fit B S J8 q.2.1/\Ty.fit 0 S Jk q.2.2/\(0<=q.2.1.2)/\(0<=q.1)) (λq=>q.1) ?_ (w.1,w.2,(x1.1,y2.1,Vector.replicate 16 (false,[]))) rfl ?_
   ·rintro⟨C,Z,o⟩ N;dsimp only at N;obtain⟨Y,M,r,a6,a4⟩:=N;unfold JcH
    try dsimp only
    have:=J1.1 Y;refine .gt (λR=>?_) λR=>?_
    ·refine .bind (Jo (B:=B) (S:=S) (⟨fkn 16,M⟩) om) λA n=>?_;have:=J1.1 n.1.1;have:=J1.1 n.1.c;have:0<=A.1/\A.1<16/\0<=A.2.2:=⟨n.2.1,n.c.1 (show(1:Int)<=16 by decide),n.d⟩;refine .bind (JeC n.1.2 om) λH D=>?_;have:0<=H.2.2:=D.2;refine .bind (J4n) λ_ _=>.bind (J7u r.2.2) λa5 a3=>?_;have:=J0y C 1;exact .some ⟨(JI .i64 C 1,H.2,(o.1,o.2.1,J9U o.2.2 (Int.toNat A.1) H.1)),rfl,⟨J0Y,D.1.2,⟨r.1,r.2.1,JaZ r.2.2 D.1.1.z⟩,om,om⟩,om,om⟩
    ·exact .some ⟨(⟨r.u,M⟩),om⟩
   ·try dsimp only
    exact⟨j.1.1,j.1.2,⟨h.1,h2.1.1,JC oo oo (.ar 16 Jj)⟩,om,om⟩
  ·exact .some ⟨(⟨⟨h.1,h2.1.1,JC oo oo (.ar 16 Jj)⟩,K.1.2⟩),om⟩
theorem J0J{B S:Int}{x1:JB}(h:Ty.fit B S J8 x1)(p0:0<=x1.2)(v:BG B S:=by omega):Tot (J0l x1) λy=>Ty.fit B S JxF y/\(0<=y.2.2):=by
 unfold J0l;refine .bind (Jo (B:=B) (S:=S) (⟨fkn 10,h⟩) om) λA h2=>?_;have:=J1.1 h2.1.c;refine .eq (λr=>?_) λr=>?_
 ·refine .bind (Jo (B:=B) (S:=S) (⟨fkn 3,h2.1.2⟩) om) λw n=>?_;have:=J1.1 n.1.c;exact .some ⟨(⟨J0Y,n.1.2⟩),om⟩
 ·refine .eq (λk=>?_) λk=>?_
  ·refine .bind (Jo (B:=B) (S:=S) (⟨fkn 16,h2.1.2⟩) om) λj e=>?_;have:=J1.1 e.1.1;have:=J1.1 e.1.c;have:0<=j.1/\j.1<16/\0<=j.2.2:=⟨e.2.1,e.c.1 (show(1:Int)<=16 by decide),e.d⟩;refine .bind (Jg (J0H (B:=16) (S:=0) (t:=(.i .i64)) (by have q:((16:Nat):Int)<=16:=oo;exact q) (fkn 9223372036854775807) (J0H (B:=16) (S:=0) (t:=(.i .i64)) (by have q:((15:Nat):Int)<=16:=oo;exact q) (fkn (-9223372036854775808)) (J0H (B:=16) (S:=0) (t:=(.i .i64)) (by have q:((14:Nat):Int)<=16:=oo;exact q) (fkn 1099511627776) (J0H (B:=16) (S:=0) (t:=(.i .i64)) (by have q:((13:Nat):Int)<=16:=oo;exact q) (fkn 1099511627777) (J0H (B:=16) (S:=0) (t:=(.i .i64)) (by have q:((12:Nat):Int)<=16:=oo;exact q) (fkn 1073741824) (J0H (B:=16) (S:=0) (t:=(.i .i64)) (by have q:((11:Nat):Int)<=16:=oo;exact q) (fkn 1073741825) (J0H (B:=16) (S:=0) (t:=(.i .i64)) (by have q:((10:Nat):Int)<=16:=oo;exact q) (fkn 64) (J0H (B:=16) (S:=0) (t:=(.i .i64)) (by have q:((9:Nat):Int)<=16:=oo;exact q) (fkn 63) (J0H (B:=16) (S:=0) (t:=(.i .i64)) (by have q:((8:Nat):Int)<=16:=oo;exact q) (fkn 16) (J0H (B:=16) (S:=0) (t:=(.i .i64)) (by have q:((7:Nat):Int)<=16:=oo;exact q) (fkn 15) (J0H (B:=16) (S:=0) (t:=(.i .i64)) (by have q:((6:Nat):Int)<=16:=oo;exact q) (fkn 256) (J0H (B:=16) (S:=0) (t:=(.i .i64)) (by have q:((5:Nat):Int)<=16:=oo;exact q) (fkn 255) (J0H (B:=16) (S:=0) (t:=(.i .i64)) (by have q:((4:Nat):Int)<=16:=oo;exact q) (fkn 4294967296) (J0H (B:=16) (S:=0) (t:=(.i .i64)) (by have q:((3:Nat):Int)<=16:=oo;exact q) (fkn 65536) (J0H (B:=16) (S:=0) (t:=(.i .i64)) (by have q:((2:Nat):Int)<=16:=oo;exact q) (fkn 256) (J0H (B:=16) (S:=0) (t:=(.i .i64)) (by have q:((1:Nat):Int)<=16:=oo;exact q) (fkn 255) Jb)))))))))))))))) oo (show _<((16:Nat):Int) by omega)) λx o=>.some ⟨(⟨o.1,e.1.2⟩),om⟩
  ·refine .bind (Jo (B:=B) (S:=S) (⟨fkn 20,h2.1.2⟩) om) λz g=>?_;have:=J1.1 g.1.c;exact .some ⟨(g.1),om⟩
theorem JcM{B S:Int}{x1:JcP}(h:Ty.fit B S JxF x1)(p0:0<=x1.2.2)(be:BG B S:=by omega):Tot (J45 x1) λy=>Ty.fit B S (.pr J0o J8) y/\(0<=y.2.2):=by
 unfold J45;refine .bind (Jo (B:=B) (S:=S) (⟨fkn 12,h.2⟩) om) λy2 h2=>?_;have:=J1.1 h2.1.1;have:=J1.1 h2.1.c;have:0<=y2.1/\y2.1<12/\0<=y2.2.2:=⟨h2.2.1,h2.c.1 (show(1:Int)<=12 by decide),h2.d⟩;refine .bind (Jg (J0H (B:=12) (S:=0) (t:=(.i .i64)) (by have q:((12:Nat):Int)<=12:=oo;exact q) (fkn 1) (J0H (B:=12) (S:=0) (t:=(.i .i64)) (by have q:((11:Nat):Int)<=12:=oo;exact q) (fkn 1) (J0H (B:=12) (S:=0) (t:=(.i .i64)) (by have q:((10:Nat):Int)<=12:=oo;exact q) (fkn 2) (J0H (B:=12) (S:=0) (t:=(.i .i64)) (by have q:((9:Nat):Int)<=12:=oo;exact q) (fkn 2) (J0H (B:=12) (S:=0) (t:=(.i .i64)) (by have q:((8:Nat):Int)<=12:=oo;exact q) (fkn 2) (J0H (B:=12) (S:=0) (t:=(.i .i64)) (by have q:((7:Nat):Int)<=12:=oo;exact q) (fkn 3) (J0H (B:=12) (S:=0) (t:=(.i .i64)) (by have q:((6:Nat):Int)<=12:=oo;exact q) (fkn 4) (J0H (B:=12) (S:=0) (t:=(.i .i64)) (by have q:((5:Nat):Int)<=12:=oo;exact q) (fkn 5) (J0H (B:=12) (S:=0) (t:=(.i .i64)) (by have q:((4:Nat):Int)<=12:=oo;exact q) (fkn 6) (J0H (B:=12) (S:=0) (t:=(.i .i64)) (by have q:((3:Nat):Int)<=12:=oo;exact q) (fkn 7) (J0H (B:=12) (S:=0) (t:=(.i .i64)) (by have q:((2:Nat):Int)<=12:=oo;exact q) (fkn 2) (J0H (B:=12) (S:=0) (t:=(.i .i64)) (by have q:((1:Nat):Int)<=12:=oo;exact q) (fkn 4) Jb)))))))))))) oo (show _<((12:Nat):Int) by omega)) λy3 e=>.eq (λc7=>?_) λc7=>?_
 ·refine .bind (Jo (B:=B) (S:=S) (⟨h.1,h2.1.2⟩) om) λy4 h9=>?_;have:=J1.1 h9.1.c;refine .bind (Jo (B:=B) (S:=S) (⟨fkn 2,h9.1.2⟩) om) λy5 j=>?_;have:=J1.1 j.1.c;refine .eq (λal=>?_) λal=>?_
  ·refine .bind (J6S j.1.2 om) λy6 a4=>.bind (J7T a4.1.1.z) λy7 ao=>?_;have a3:Ty.fit 0 S .s y7:=ao.1;refine .bind (Jo (B:=B) (S:=S) (⟨fkn 40,a4.1.2⟩) om) λy8 a5=>.eq (λb1=>?_) λb1=>?_
   ·refine .bind (J0J a5.1.2 om) λy9 V=>?_;have:0<=y9.2.2:=V.2;refine .bind (J0J V.1.2 om) λaf K=>?_;have:0<=af.2.2:=K.2;exact .some ⟨(⟨⟨e.1,V.1.1,K.1.1,a3.u⟩,K.1.2⟩),om⟩
   ·exact .some ⟨(⟨⟨e.1,h9.1.1,j.1.1,a3.u⟩,a5.1.2⟩),om⟩
  ·refine .bind (Jo (B:=B) (S:=S) (⟨fkn 40,j.1.2⟩) om) λbd R=>?_;have:=J1.1 R.1.c;refine .eq (λai=>?_) λai=>?_
   ·refine .bind (J0J R.1.2 om) λah P=>?_;have:0<=ah.2.2:=P.2;refine .bind (J0J P.1.2 om) λb2 N=>?_;have:0<=b2.2.2:=N.2;exact .some ⟨(⟨⟨e.1,P.1.1,N.1.1,Jd⟩,N.1.2⟩),om⟩
   ·exact .some ⟨(⟨⟨e.1,h9.1.1,j.1.1,Jd⟩,R.1.2⟩),om⟩
 ·refine .eq (λb6=>?_) λb6=>?_
  ·refine .bind (Jo (B:=B) (S:=S) (⟨h.1,h2.1.2⟩) om) λbm I=>?_;have:=J1.1 I.1.c;refine .bind (Jo (B:=B) (S:=S) (⟨fkn 2,I.1.2⟩) om) λbp k=>?_;have:=J1.1 k.1.c;refine .eq (λak=>?_) λak=>?_
   ·refine .bind (J6S k.1.2 om) λa6 Y=>?_;have:=J1.1 Y.1.c;have:=J4 (l:=a6.1);have:=Jz6 (J0 a6.1) 12;refine .bind (J7T Y.1.1.z) λay au=>?_;have a2:Ty.fit 0 S .s ay:=au.1;refine .bind (Jo (B:=B) (S:=S) (⟨fkn 40,Y.1.2⟩) om) λbi W=>?_;have:=J1.1 W.1.c;refine .eq (λax=>?_) λax=>?_
    ·refine .bind (J0J W.1.2 om) λaz U=>?_;have:0<=az.2.2:=U.2;refine .bind (J0J U.1.2 om) λb5 a0=>?_;have:0<=b5.2.2:=a0.2;exact .some ⟨(⟨⟨e.1,U.1.1,a0.1.1,a2.u⟩,a0.1.2⟩),om⟩
    ·exact .some ⟨(⟨⟨e.1,I.1.1,k.1.1,a2.u⟩,W.1.2⟩),om⟩
   ·refine .bind (Jo (B:=B) (S:=S) (⟨fkn 40,k.1.2⟩) om) λZ g=>?_;have:=J1.1 g.1.1;have:=J1.1 g.1.c;have:0<=Z.1/\Z.1<40/\0<=Z.2.2:=⟨g.2.1,g.c.1 (show(1:Int)<=40 by decide),g.d⟩;refine .eq (λan=>?_) λan=>?_
    ·refine .bind (J0J g.1.2 om) λav T=>?_;have:0<=av.2.2:=T.2;refine .bind (J0J T.1.2 om) λb4 M=>?_;have:0<=b4.2.2:=M.2;exact .some ⟨(⟨⟨e.1,T.1.1,M.1.1,Jd⟩,M.1.2⟩),om⟩
    ·exact .some ⟨(⟨⟨e.1,I.1.1,k.1.1,Jd⟩,g.1.2⟩),om⟩
  ·refine .eq (λb7=>?_) λb7=>?_
   ·refine .bind (Jo (B:=B) (S:=S) (⟨h.1,h2.1.2⟩) om) λbh J=>?_;have:=J1.1 J.1.c;refine .bind (Jo (B:=B) (S:=S) (⟨fkn 2,J.1.2⟩) om) λbo n=>?_;have:=J1.1 n.1.c;refine .eq (λad=>?_) λad=>?_
    ·refine .bind (J6S n.1.2 om) λbc Q=>.bind (J7T Q.1.1.z) λaj a7=>?_;have O:Ty.fit 0 S .s aj:=a7.1;refine .bind (Jo (B:=B) (S:=S) (⟨fkn 40,Q.1.2⟩) om) λbq L=>.eq (λab=>?_) λab=>?_
     ·refine .bind (J0J L.1.2 om) λaw o=>?_;have:0<=aw.2.2:=o.2;refine .bind (J0J o.1.2 om) λaq D=>?_;have:0<=aq.2.2:=D.2;exact .some ⟨(⟨⟨e.1,o.1.1,D.1.1,O.u⟩,D.1.2⟩),om⟩
     ·exact .some ⟨(⟨⟨e.1,J.1.1,n.1.1,O.u⟩,L.1.2⟩),om⟩
    ·refine .bind (Jo (B:=B) (S:=S) (⟨fkn 40,n.1.2⟩) om) λbg A=>?_;have:=J1.1 A.1.c;refine .eq (λa9=>?_) λa9=>?_
     ·refine .bind (J0J A.1.2 om) λam C=>?_;have:0<=am.2.2:=C.2;refine .bind (J0J C.1.2 om) λb0 x=>?_;have:0<=b0.2.2:=x.2;exact .some ⟨(⟨⟨e.1,C.1.1,x.1.1,Jd⟩,x.1.2⟩),om⟩
     ·exact .some ⟨(⟨⟨e.1,J.1.1,n.1.1,Jd⟩,A.1.2⟩),om⟩
   ·refine .eq (λaa=>?_) λaa=>?_
    ·refine .bind (Jo (B:=B) (S:=S) (⟨fkn 2,h2.1.2⟩) om) λbn G=>?_;have:=J1.1 G.1.c;refine .bind (Jo (B:=B) (S:=S) (⟨fkn 40,G.1.2⟩) om) λbf r=>?_;have:=J1.1 r.1.c;refine .eq (λa8=>?_) λa8=>?_
     ·refine .bind (J0J r.1.2 om) λb3 E=>?_;have:0<=b3.2.2:=E.2;refine .bind (J0J E.1.2 om) λb8 H=>?_;have:0<=b8.2.2:=H.2;exact .some ⟨(⟨⟨e.1,E.1.1,H.1.1,Jd⟩,H.1.2⟩),om⟩
     ·exact .some ⟨(⟨⟨e.1,fk0,G.1.1,Jd⟩,r.1.2⟩),om⟩
    ·refine .bind (Jo (B:=B) (S:=S) (⟨fkn 40,h2.1.2⟩) om) λbj v=>?_;have:=J1.1 v.1.c;refine .eq (λac=>?_) λac=>?_
     ·refine .bind (J0J v.1.2 om) λag w=>?_;have:0<=ag.2.2:=w.2;refine .bind (J0J w.1.2 om) λap F=>?_;have:0<=ap.2.2:=F.2;exact .some ⟨(⟨⟨e.1,w.1.1,F.1.1,Jd⟩,F.1.2⟩),om⟩
     ·exact .some ⟨(⟨⟨e.1,fzr⟩,v.1.2⟩),om⟩
theorem Jsl{B S:Int}{x1:JL6}(h:Ty.fit B S (.pr (.i .i64) JPo) x1)(p0:0<=x1.2.2.2.2)(K:BG B S:=by omega):Tot (J6W x1) λy=>Ty.fit B S (.pr J0T J8) y/\(0<=y.2.2):=by
 unfold J6W;refine .bind (Jo (B:=B) (S:=S) (⟨fkn 16,h.d⟩) om) λR h2=>?_;have:=J1.1 h2.1.c;refine .eq (λI=>?_) λI=>?_
 ·exact .some ⟨(⟨⟨fkn 1,fzr⟩,h2.1.2⟩),om⟩
 ·refine .eq (λG=>?_) λG=>?_
  ·exact .some ⟨(⟨⟨fkn 1,fzr⟩,h2.1.2⟩),om⟩
  ·refine .eq (λF=>?_) λF=>?_
   ·refine .bind (Jo (B:=B) (S:=S) (⟨h.1,h2.1.2⟩) om) λM v=>?_;have:=J1.1 v.1.c;exact .some ⟨(⟨⟨fkn 3,fk0,v.1.1,fzr⟩,v.1.2⟩),om⟩
   ·refine .eq (λx=>?_) λx=>?_
    ·exact .some ⟨(⟨⟨fkn 4,fzr⟩,h2.1.2⟩),om⟩
    ·refine .eq (λC=>?_) λC=>?_
     ·exact .some ⟨(⟨⟨fkn 5,fzr⟩,h2.1.2⟩),om⟩
     ·refine .eq (λE=>?_) λE=>?_
      ·refine .ite (λw=>?_) λw=>?_
       ·refine .bind (Jo (B:=B) (S:=S) (⟨fkn 4,h2.1.2⟩) om) λQ r=>?_;have:=J1.1 r.1.c;refine .bind (Jo (B:=B) (S:=S) (⟨fkn 90,r.1.2⟩) om) λO n=>?_;have:=J1.1 n.1.c;refine .bind (Jo (B:=B) (S:=S) (⟨J7,n.1.2⟩) om) λP q=>?_;have:=J1.1 q.1.c;refine .bind (Jo (B:=B) (S:=S) (⟨fkn 257,q.1.2⟩) om) λL e=>?_;have:=J1.1 e.1.c;exact .some ⟨(⟨⟨fkn 6,fk0,J0Y,JQk,e.1.1,fzr⟩,e.1.2⟩),om⟩
       ·refine .bind (Jo (B:=B) (S:=S) (⟨h.2.1,h2.1.2⟩) om) λN k=>?_;have:=J1.1 k.1.c;refine .bind (JcM (B:=B) (S:=S) (⟨h.1,k.1.2⟩) om) λH g=>?_;have:0<=H.2.2:=g.2;exact .some ⟨(⟨⟨fkn 2,J7,fk0,fk0,fk0,g.1.1.z.u⟩,g.1.2⟩),om⟩
      ·refine .eq (λA=>?_) λA=>?_
       ·exact .some ⟨(⟨⟨fkn 7,fzr⟩,h2.1.2⟩),om⟩
       ·refine .bind (Jo (B:=B) (S:=S) (⟨h.2.1,h2.1.2⟩) om) λJ o=>?_;have:=J1.1 o.1.c;refine .bind (JcM (B:=B) (S:=S) (⟨h.1,o.1.2⟩) om) λD j=>?_;have:0<=D.2.2:=j.2;exact .some ⟨(⟨⟨fkn 2,J7,fk0,fk0,fk0,j.1.1.z.u⟩,j.1.2⟩),om⟩
theorem Jk0{B S:Int}{x1:JL6}(h:Ty.fit B S (.pr (.i .i64) JPo) x1)(p0:0<=x1.2.2.2.2)(L:0<=x1.2.1)(K:x1.2.1<=1000)(J:BG B S:=by omega):Tot (J4B x1) λy=>Ty.fit B S (.pr (.l J0T) J8) y/\(0<=y.2.2):=by
 unfold J4B;refine .bind (Jo (B:=B) (S:=S) (⟨J7,h.d⟩) om) λj h3=>?_;have:=J1.1 h3.1.1;have:=Jf x1.2.1 1;have:=J1.1 h3.1.c;have:0<=j.1/\(1<=(J2 .i64 x1.2.1 1)->j.1<(J2 .i64 x1.2.1 1))/\0<=j.2.2:=h3.2;refine Ja (τ:=Int×JB×(List J57)) (λq=>(x1.1,x1.2.2.1,q.1,q.2.1,q.2.2)) (λq=>Ty.fit 0 0 (.i .i64) q.1/\Ty.fit B S J8 q.2.1/\Ty.fit 1003 S (.l J0T) q.2.2/\(0<=q.1)/\(0<=q.2.1.2)/\(J0 q.2.2+q.1<=1003)) (λq=>q.1) ?_ (j.1,j.2,[(1,0,0,0,0,0,0,0,[]),(1,0,0,0,0,0,0,0,[])]) rfl ?_
 ·rintro⟨k,F,e⟩ r;dsimp only at r;obtain⟨E,A,g,I,H,G⟩:=r;unfold J9J
  try dsimp only
  have:=J1.1 E;have:J0 e<=1003:=g.1;have:=J4 (l:=e);have:J0 e=_:=Jm g;refine .gt (λC=>?_) λC=>?_
  ·refine .bind (Jsl (B:=B) (S:=S) (⟨h.1,fkn 5,trivial,A⟩) om) λD n=>?_;have:0<=D.2.2:=n.2;refine .bind (J0K (B:=1004) (Bl:=1003) (Bm:=1) (S:=S) (J0 e) 1 g (J0n (B:=1) (S:=S) (t:=J0T) oo (n.1.1.z.u))) λo v=>?_;have:J0 o=_:=Jm v.1;have w:Ty.fit 1003 S (.l J0T) o:=⟨(by omega:J0 o<=1003),λx hx=>v.1.2 x hx⟩;have:=J0y k 1;exact .some ⟨(JI .i64 k 1,D.2,o),rfl,⟨J0Y,n.1.2,w,om,om,om⟩,om,om⟩
  ·exact .some ⟨(⟨g.u,A⟩),om⟩
 ·try dsimp only
  exact⟨h3.1.1,h3.1.2,(J0H (B:=2) (S:=0) (t:=J0T) (by have q:((2:Nat):Int)<=2:=oo;exact q) (⟨fkn 1,fzr⟩) (J0H (B:=2) (S:=0) (t:=J0T) (by have q:((1:Nat):Int)<=2:=oo;exact q) (⟨fkn 1,fzr⟩) Jb)).u,om,om,by show((2:Nat):Int)+j.1<=1003;omega⟩
theorem JxI{B S x1:Int}(h:Ty.fit B S (.i .i64) x1)(p0:x1<=64)(x:BS B S 0 0:=by omega):Tot (J9n x1) λy=>Ty.fit 64 256 (.l .s) y:=by
 unfold J9n;have:=J1.1 h;refine Ja (τ:=Int×(List (List UInt8))) (λq=>(x1,q.1,q.2)) (λq=>(Ty.fit 0 0 (.i .i64) q.1/\0<=q.1/\(q.1<=x1\/q.1<=0))/\(Ty.fit 64 256 (.l .s) q.2/\J0 q.2<=1*q.1+0)) (λq=>x1-q.1) ?_ (0,[]) rfl ?_
 ·rintro⟨g,e⟩ j;dsimp only at j;obtain⟨⟨o,z,C⟩,k,D⟩:=j;unfold Jgu
  try dsimp only
  have:=J1.1 o;refine .lt (λr=>?_) λr=>?_
  ·refine .bind (JEQ (t:=(.i .u8)) (B:=256) (S:=0) (JaN .u8 0)) λA w=>?_;have:J0 e<=64:=k.1;have:=J4 (l:=e);refine .bind (J0K (B:=64) (Bl:=64) (Bm:=1) (S:=256) (J0 e) 1 k (J0n (B:=1) (S:=256) (t:=.s) oo ((Je1 (B:=0) (S:=256) w.1.1).u))) λv n=>?_;have:=Jf g 1;exact .some ⟨(J2 .i64 g 1,v),rfl,⟨⟨J7,om,om⟩,n.1,om⟩,om,om⟩
  ·exact .some k
 ·have:J0 ([]:List (List UInt8))=0:=rfl
  try dsimp only
  exact⟨⟨fk0,oo,oo⟩,Jb,oo⟩
theorem JJp{B S x1:Int}(h:Ty.fit B S (.i .i64) x1)(j:BS B S 0 0:=by omega):Tot (Jdy x1) λy=>Ty.fit 64 256 JuW y:=by
 unfold Jdy;have:=J1.1 h;refine .ltf (λg=>?_) λg=>?_
 ·refine .gt (λe=>?_) λe=>?_
  ·exact .some (⟨⟨Jb,fk0,Jb,trivial,Jb⟩,fkn 1⟩)
  ·refine .bind (JxI h om) λk h4=>.some (⟨⟨h4,fk0,Jb,trivial,Jb⟩,fk0⟩)
 ·exact .some (⟨⟨Jb,fk0,Jb,trivial,Jb⟩,fkn 1⟩)
end Go.Am
end
section
namespace Go.Am
set_option linter.unusedVariables false
set_option maxRecDepth 20000
set_option maxHeartbeats 4000000
theorem Jtc{B S x1:Int}(h:Ty.fit B S (.i .i64) x1)(j:BS B S 0 0:=by omega):Tot (Ja0 x1) λy=>Ty.fit 0 0 tq6 y:=by
 unfold Ja0;refine .ltf (λg=>?_) λg=>?_
 ·refine .gt (λe=>?_) λe=>?_
  ·exact .some (⟨fzr,fkn 1⟩)
  ·exact .some (⟨⟨h,fzr⟩,fk0⟩)
 ·exact .some (⟨fzr,fkn 1⟩)
theorem JsZ{B S x1:Int}(h:Ty.fit B S (.i .i64) x1)(j:BS B S 0 0:=by omega):Tot (Ja5 x1) λy=>Ty.fit 64 0 JxW y:=by
 unfold Ja5;have:=J1.1 h;refine .ltf (λg=>?_) λg=>?_
 ·refine .gt (λe=>?_) λe=>?_
  ·exact .some (⟨Jb,fkn 1⟩)
  ·refine .bind (JEQ (t:=J9) (B:=64) (S:=0) (fzr)) λk h4=>.some (⟨h4.1,fk0⟩)
 ·exact .some (⟨Jb,fkn 1⟩)
theorem JI3{B S:Int}{x1:JA}(h:Ty.fit B S JY x1)(q:BS B S 0 0:=by omega):Tot (J87 x1) λy=>Ty.fit 64 0 tq1 y:=by
 unfold J87;refine .ltf (λo=>?_) λo=>?_
 ·refine .gtf (λg=>?_) λg=>?_
  ·have:=J1.1 h.2;refine .ltf (λn=>?_) λn=>?_
   ·refine .gt (λk=>?_) λk=>?_
    ·exact .some (⟨fzr,fkn 1⟩)
    ·refine .bind (Jtc h.2) λv j=>.bind (JsZ h.1) λr e=>.some (⟨⟨h.1,fkn 1,⟨fkn 1,fzr⟩,j.1.u,fzr,Jb,e.1,Jb⟩,fk0⟩)
   ·exact .some (⟨fzr,fkn 1⟩)
  ·exact .some (⟨fzr,fkn 1⟩)
 ·exact .some (⟨fzr,fkn 1⟩)
theorem JI2{B S:Int}{x1:JA}(h:Ty.fit B S JY x1)(j:BS B S 0 0:=by omega):Tot (Jdz x1) λy=>Ty.fit 64 256 tq4 y:=by
 unfold Jdz;refine .bind (JI3 (B:=0) (S:=0) (h)) λn h1=>.ne (λe=>?_) λe=>?_
 ·exact .some (⟨⟨fzr,Jb,fk0,Jb,trivial,Jb⟩,h1.2⟩)
 ·refine .bind (JJp h.1) λk h4=>.ne (λg=>?_) λg=>?_
  ·exact .some (⟨⟨fzr,Jb,fk0,Jb,trivial,Jb⟩,h4.2⟩)
  ·exact .some (⟨⟨h1.1.u,h4.1⟩,fk0⟩)
theorem Jdd{B S:Int}{x1:JA}(h:Ty.fit B S JY x1)(g:BS B S 0 0:=by omega):Tot (J5j x1) λy=>Ty.fit 0 0 .b y/\(y=true->0<=x1.1/\x1.1<x1.2):=by
 unfold J5j;have:=J1.1 h.1;refine .ge (λe=>?_) λe=>?_
 ·have:=J1.1 h.2;exact .some ⟨trivial,λc=>omc (Jbo.1 c)⟩
 ·exact .some ⟨trivial,nofun⟩
theorem J9S{B S:Int}{x1:J1y}(h:Ty.fit B S Jj x1)(j:BS B S 0 0:=by omega):Tot (J1V x1) λy=>Ty.fit 0 0 .b y/\(y=true->J0 x1.2<=12):=by
 unfold J1V;refine .le (λg=>?_) λg=>?_
 ·refine .itf (λe=>?_) λe=>?_
  ·exact .some ⟨trivial,λ_=>om⟩
  ·exact .some ⟨trivial,λ_=>om⟩
 ·exact .some ⟨trivial,nofun⟩
theorem Jec{B S:Int}{x1:J1u}(h:Ty.fit B S J0A x1)(r:BS B S 0 0:=by omega):Tot (J64 x1) λy=>Ty.fit 0 0 .b y/\(y=true->0<=x1.1/\x1.1<64/\0<=x1.2.1/\x1.2.1<16/\J0 x1.2.2.1.2<=12/\J0 x1.2.2.2.2<=12):=by
 unfold J64;have s0:Ty.fit 0 S J0A x1:=h;have:=J1.1 s0.1;refine .ge (λq=>?_) λq=>?_
 ·refine .lt (λj=>?_) λj=>?_
  ·have:=J1.1 s0.2.1;refine .ge (λo=>?_) λo=>?_
   ·refine .lt (λn=>?_) λn=>?_
    ·refine .bind (J9S (B:=0) (S:=S) s0.2.2.1) λw k=>.ite (λg=>?_) λg=>?_
     ·have:J0 x1.2.2.1.2<=S:=s0.2.2.1.2;have:=J4 (l:=x1.2.2.1.2);have:J0 x1.2.2.1.2<=12:=k.2 g;refine .bind (J9S (B:=0) (S:=S) s0.2.2.2) λv e=>?_;have:=J4 (l:=x1.2.2.2.2);exact .some ⟨trivial,λc=>by have:J0 x1.2.2.2.2<=12:=e.2 c;first|omega|(dsimp only;omega)|(simp only[J98,JfP]<;>omega)⟩
     ·exact .some ⟨trivial,nofun⟩
    ·exact .some ⟨trivial,nofun⟩
   ·exact .some ⟨trivial,nofun⟩
  ·exact .some ⟨trivial,nofun⟩
 ·exact .some ⟨trivial,nofun⟩
theorem JBP{B S:Int}{x1:Js}(h:Ty.fit B S Jh x1)(W:BS B S 0 0:=by omega):Tot (J66 x1) λy=>Ty.fit 0 S JL7 y/\(y.2=true->0<=y.1.2.2.1/\y.1.2.2.1<=1073741824/\0<=y.1.2.2.2.2.2.2.1.1/\y.1.2.2.2.2.2.2.1.1<64/\0<=y.1.2.2.2.2.2.2.1.2.1/\y.1.2.2.2.2.2.2.1.2.1<16/\J0 y.1.2.2.2.2.2.2.1.2.2.1.2<=12/\J0 y.1.2.2.2.2.2.2.1.2.2.2.2<=12/\J0 y.1.2.2.2.2.2.2.2<=8192):=by
 unfold J66;have s0:Ty.fit 0 S Jh x1:=h;refine .eq (λT=>?_) λT=>?_
 ·refine .bind (Jec (B:=0) (S:=S) s0.2.2.2.2.2.2.1) λZ h3=>.eq (λV=>?_) λV=>?_
  ·refine .ite (λU=>?_) λU=>?_
   ·have:=J1.1 s0.2.2.2.2.2.2.1.1;refine .gt (λE=>?_) λE=>?_
    ·have:=J1.1 s0.2.2.2.2.2.1;refine .ge (λx=>?_) λx=>?_
     ·refine .le (λj=>?_) λj=>?_
      ·have:=J1.1 s0.2.2.1;refine .ge (λo=>?_) λo=>?_
       ·exact .some ⟨(⟨⟨s0.1,s0.2.1,s0.2.2.1,s0.2.2.2.1,s0.2.2.2.2.1,s0.2.2.2.2.2.1,s0.2.2.2.2.2.2.1,Jd⟩,trivial⟩),λc=>omc (J65.1 c)⟩
       ·exact .some ⟨(⟨⟨s0.1,s0.2.1,s0.2.2.1,s0.2.2.2.1,s0.2.2.2.2.1,s0.2.2.2.2.2.1,s0.2.2.2.2.2.2.1,Jd⟩,trivial⟩),nofun⟩
      ·exact .some ⟨(⟨⟨s0.1,s0.2.1,s0.2.2.1,s0.2.2.2.1,s0.2.2.2.2.1,s0.2.2.2.2.2.1,s0.2.2.2.2.2.2.1,Jd⟩,trivial⟩),nofun⟩
     ·exact .some ⟨(⟨⟨s0.1,s0.2.1,s0.2.2.1,s0.2.2.2.1,s0.2.2.2.2.1,s0.2.2.2.2.2.1,s0.2.2.2.2.2.2.1,Jd⟩,trivial⟩),nofun⟩
    ·exact .some ⟨(⟨⟨s0.1,s0.2.1,s0.2.2.1,s0.2.2.2.1,s0.2.2.2.2.1,s0.2.2.2.2.2.1,s0.2.2.2.2.2.2.1,Jd⟩,trivial⟩),nofun⟩
   ·exact .some ⟨(⟨⟨s0.1,s0.2.1,s0.2.2.1,s0.2.2.2.1,s0.2.2.2.2.1,s0.2.2.2.2.2.1,s0.2.2.2.2.2.2.1,Jd⟩,trivial⟩),nofun⟩
  ·refine .ite (λe=>?_) λe=>?_
   ·have:=J1.1 s0.2.2.2.2.2.2.1.1;have:=J1.1 s0.2.2.2.2.2.2.1.2.1;have:=J4 (l:=x1.2.2.2.2.2.2.1.2.2.1.2);have:=J4 (l:=x1.2.2.2.2.2.2.1.2.2.2.2);have:0<=x1.2.2.2.2.2.2.1.1/\x1.2.2.2.2.2.2.1.1<64/\0<=x1.2.2.2.2.2.2.1.2.1/\x1.2.2.2.2.2.2.1.2.1<16/\J0 x1.2.2.2.2.2.2.1.2.2.1.2<=12/\J0 x1.2.2.2.2.2.2.1.2.2.2.2<=12:=h3.2 e;have:=J1.1 s0.2.2.1;refine .ge (λA=>?_) λA=>?_
    ·exact .some ⟨(⟨⟨s0.1,s0.2.1,s0.2.2.1,s0.2.2.2.1,s0.2.2.2.2.1,fk0,s0.2.2.2.2.2.2.1,Jd⟩,trivial⟩),λc=>omc (J65.1 c)⟩
    ·exact .some ⟨(⟨⟨s0.1,s0.2.1,s0.2.2.1,s0.2.2.2.1,s0.2.2.2.2.1,fk0,s0.2.2.2.2.2.2.1,Jd⟩,trivial⟩),nofun⟩
   ·exact .some ⟨(⟨⟨s0.1,s0.2.1,s0.2.2.1,s0.2.2.2.1,s0.2.2.2.2.1,fk0,s0.2.2.2.2.2.2.1,Jd⟩,trivial⟩),nofun⟩
 ·refine .eq (λr=>?_) λr=>?_
  ·refine .bind (Jec (B:=0) (S:=S) s0.2.2.2.2.2.2.1) λY K=>.eq (λn=>?_) λn=>?_
   ·refine .ite (λg=>?_) λg=>?_
    ·have:=J1.1 s0.2.2.2.2.2.2.1.1;have:=J1.1 s0.2.2.2.2.2.2.1.2.1;have:=J4 (l:=x1.2.2.2.2.2.2.1.2.2.1.2);have:=J4 (l:=x1.2.2.2.2.2.2.1.2.2.2.2);have:0<=x1.2.2.2.2.2.2.1.1/\x1.2.2.2.2.2.2.1.1<64/\0<=x1.2.2.2.2.2.2.1.2.1/\x1.2.2.2.2.2.2.1.2.1<16/\J0 x1.2.2.2.2.2.2.1.2.2.1.2<=12/\J0 x1.2.2.2.2.2.2.1.2.2.2.2<=12:=K.2 g;refine .gt (λD=>?_) λD=>?_
     ·have:=J1.1 s0.2.2.2.2.2.1;refine .ge (λM=>?_) λM=>?_
      ·refine .le (λL=>?_) λL=>?_
       ·have:=J1.1 s0.2.2.1;refine .ge (λk=>?_) λk=>?_
        ·exact .some ⟨(⟨⟨s0.1,s0.2.1,s0.2.2.1,s0.2.2.2.1,s0.2.2.2.2.1,s0.2.2.2.2.2.1,s0.2.2.2.2.2.2.1,Jd⟩,trivial⟩),λc=>omc (J65.1 c)⟩
        ·exact .some ⟨(⟨⟨s0.1,s0.2.1,s0.2.2.1,s0.2.2.2.1,s0.2.2.2.2.1,s0.2.2.2.2.2.1,s0.2.2.2.2.2.2.1,Jd⟩,trivial⟩),nofun⟩
       ·exact .some ⟨(⟨⟨s0.1,s0.2.1,s0.2.2.1,s0.2.2.2.1,s0.2.2.2.2.1,s0.2.2.2.2.2.1,s0.2.2.2.2.2.2.1,Jd⟩,trivial⟩),nofun⟩
      ·exact .some ⟨(⟨⟨s0.1,s0.2.1,s0.2.2.1,s0.2.2.2.1,s0.2.2.2.2.1,s0.2.2.2.2.2.1,s0.2.2.2.2.2.2.1,Jd⟩,trivial⟩),nofun⟩
     ·exact .some ⟨(⟨⟨s0.1,s0.2.1,s0.2.2.1,s0.2.2.2.1,s0.2.2.2.2.1,s0.2.2.2.2.2.1,s0.2.2.2.2.2.2.1,Jd⟩,trivial⟩),nofun⟩
    ·exact .some ⟨(⟨⟨s0.1,s0.2.1,s0.2.2.1,s0.2.2.2.1,s0.2.2.2.2.1,s0.2.2.2.2.2.1,s0.2.2.2.2.2.2.1,Jd⟩,trivial⟩),nofun⟩
   ·refine .ite (λJ=>?_) λJ=>?_
    ·have:=J1.1 s0.2.2.2.2.2.2.1.1;refine .ge (λG=>?_) λG=>?_
     ·exact .some ⟨(⟨⟨s0.1,s0.2.1,s0.2.2.1,s0.2.2.2.1,s0.2.2.2.2.1,fk0,s0.2.2.2.2.2.2.1,Jd⟩,trivial⟩),λc=>omc (J65.1 c)⟩
     ·exact .some ⟨(⟨⟨s0.1,s0.2.1,s0.2.2.1,s0.2.2.2.1,s0.2.2.2.2.1,fk0,s0.2.2.2.2.2.2.1,Jd⟩,trivial⟩),nofun⟩
    ·exact .some ⟨(⟨⟨s0.1,s0.2.1,s0.2.2.1,s0.2.2.2.1,s0.2.2.2.2.1,fk0,s0.2.2.2.2.2.2.1,Jd⟩,trivial⟩),nofun⟩
  ·refine .eq (λz=>?_) λz=>?_
   ·have:=J1.1 s0.2.2.1;refine .ge (λI=>?_) λI=>?_
    ·refine .le (λw=>?_) λw=>?_
     ·have:=J1.1 s0.2.2.2.1;exact .some ⟨(⟨⟨s0.1,s0.2.1,s0.2.2.1,s0.2.2.2.1,fk0,fk0,⟨fk0,fk0,⟨trivial,Jd⟩,trivial,Jd⟩,Jd⟩,trivial⟩),λc=>omc (J9b.1 c)⟩
     ·exact .some ⟨(⟨⟨s0.1,s0.2.1,s0.2.2.1,s0.2.2.2.1,fk0,fk0,⟨fk0,fk0,⟨trivial,Jd⟩,trivial,Jd⟩,Jd⟩,trivial⟩),nofun⟩
    ·exact .some ⟨(⟨⟨s0.1,s0.2.1,s0.2.2.1,s0.2.2.2.1,fk0,fk0,⟨fk0,fk0,⟨trivial,Jd⟩,trivial,Jd⟩,Jd⟩,trivial⟩),nofun⟩
   ·refine .eq (λN=>?_) λN=>?_
    ·have:=J1.1 s0.2.2.1;refine .ge (λF=>?_) λF=>?_
     ·refine .le (λH=>?_) λH=>?_
      ·have:=J1.1 s0.2.2.2.1;exact .some ⟨(⟨⟨s0.1,s0.2.1,s0.2.2.1,s0.2.2.2.1,fk0,fk0,⟨fk0,fk0,⟨trivial,Jd⟩,trivial,Jd⟩,Jd⟩,trivial⟩),λc=>omc (J9b.1 c)⟩
      ·exact .some ⟨(⟨⟨s0.1,s0.2.1,s0.2.2.1,s0.2.2.2.1,fk0,fk0,⟨fk0,fk0,⟨trivial,Jd⟩,trivial,Jd⟩,Jd⟩,trivial⟩),nofun⟩
     ·exact .some ⟨(⟨⟨s0.1,s0.2.1,s0.2.2.1,s0.2.2.2.1,fk0,fk0,⟨fk0,fk0,⟨trivial,Jd⟩,trivial,Jd⟩,Jd⟩,trivial⟩),nofun⟩
    ·refine .eq (λq=>?_) λq=>?_
     ·have:=J1.1 s0.2.2.1;refine .ge (λQ=>?_) λQ=>?_
      ·refine .le (λv=>?_) λv=>?_
       ·have:=J1.1 s0.2.2.2.1;exact .some ⟨(⟨⟨s0.1,s0.2.1,s0.2.2.1,s0.2.2.2.1,fk0,fk0,⟨fk0,fk0,⟨trivial,Jd⟩,trivial,Jd⟩,Jd⟩,trivial⟩),λc=>omc (J9b.1 c)⟩
       ·exact .some ⟨(⟨⟨s0.1,s0.2.1,s0.2.2.1,s0.2.2.2.1,fk0,fk0,⟨fk0,fk0,⟨trivial,Jd⟩,trivial,Jd⟩,Jd⟩,trivial⟩),nofun⟩
      ·exact .some ⟨(⟨⟨s0.1,s0.2.1,s0.2.2.1,s0.2.2.2.1,fk0,fk0,⟨fk0,fk0,⟨trivial,Jd⟩,trivial,Jd⟩,Jd⟩,trivial⟩),nofun⟩
     ·refine .eq (λR=>?_) λR=>?_
      ·have:J0 x1.2.2.2.2.2.2.2<=S:=s0.2.2.2.2.2.2.2;have:=J4 (l:=x1.2.2.2.2.2.2.2);exact .some ⟨(⟨⟨s0.1,s0.2.1,fk0,fk0,fk0,fk0,⟨fk0,fk0,⟨trivial,Jd⟩,trivial,Jd⟩,s0.2.2.2.2.2.2.2⟩,trivial⟩),λc=>omc (J65.1 c)⟩
      ·refine .eq (λP=>?_) λP=>?_
       ·have:J0 x1.2.2.2.2.2.2.2<=S:=s0.2.2.2.2.2.2.2;have:=J4 (l:=x1.2.2.2.2.2.2.2);exact .some ⟨(⟨⟨s0.1,s0.2.1,fk0,fk0,fk0,fk0,⟨fk0,fk0,⟨trivial,Jd⟩,trivial,Jd⟩,s0.2.2.2.2.2.2.2⟩,trivial⟩),λc=>omc (J65.1 c)⟩
       ·refine .eq (λO=>?_) λO=>?_
        ·have:=J1.1 s0.2.2.2.2.2.2.1.1;refine .ge (λC=>?_) λC=>?_
         ·exact .some ⟨(⟨⟨s0.1,s0.2.1,fk0,fk0,fk0,s0.2.2.2.2.2.1,⟨s0.2.2.2.2.2.2.1.1,fk0,⟨trivial,Jd⟩,trivial,Jd⟩,Jd⟩,trivial⟩),λc=>omc (Jbo.1 c)⟩
         ·exact .some ⟨(⟨⟨s0.1,s0.2.1,fk0,fk0,fk0,s0.2.2.2.2.2.1,⟨s0.2.2.2.2.2.2.1.1,fk0,⟨trivial,Jd⟩,trivial,Jd⟩,Jd⟩,trivial⟩),nofun⟩
        ·exact .some ⟨(⟨⟨s0.1,s0.2.1,fk0,fk0,fk0,fk0,⟨fk0,fk0,⟨trivial,Jd⟩,trivial,Jd⟩,Jd⟩,trivial⟩),nofun⟩
theorem J3R{B S:Int}{x1:Js}(h:Ty.fit B S Jh x1)(C:BS B S 0 0:=by omega):Tot (J0D x1) λy=>Ty.fit 0 0 .b y/\(y=true->1<=x1.1/\x1.1<=1099511627776/\0<=x1.2.2.1/\x1.2.2.1<=1073741824/\0<=x1.2.2.2.1/\x1.2.2.2.1<x1.1/\0<=x1.2.2.2.2.1/\x1.2.2.2.2.1<x1.1/\0<=x1.2.2.2.2.2.1/\x1.2.2.2.2.2.1<x1.1/\0<=x1.2.2.2.2.2.2.1.1/\x1.2.2.2.2.2.2.1.1<64/\0<=x1.2.2.2.2.2.2.1.2.1/\x1.2.2.2.2.2.2.1.2.1<16/\J0 x1.2.2.2.2.2.2.1.2.2.1.2<=12/\J0 x1.2.2.2.2.2.2.1.2.2.2.2<=12/\J0 x1.2.2.2.2.2.2.2<=8192):=by
 unfold J0D;have s0:Ty.fit 0 S Jh x1:=h;refine .bind (JBP (B:=0) (S:=S) s0) λe h1=>.ite (λx=>?_) λx=>?_
 ·have:=J1.1 h1.1.1.c.1;have n:0<=e.1.2.2.1/\e.1.2.2.1<=1073741824/\0<=e.1.2.2.2.2.2.2.1.1/\e.1.2.2.2.2.2.2.1.1<64/\0<=e.1.2.2.2.2.2.2.1.2.1/\e.1.2.2.2.2.2.2.1.2.1<16/\J0 e.1.2.2.2.2.2.2.1.2.2.1.2<=12/\J0 e.1.2.2.2.2.2.2.1.2.2.2.2<=12/\J0 e.1.2.2.2.2.2.2.2<=8192:=h1.2 x;refine .ite (λg=>?_) λg=>?_
  ·have r:=J1S.1 g;have:0<=x1.2.2.1/\x1.2.2.1<=1073741824/\0<=x1.2.2.2.2.2.2.1.1/\x1.2.2.2.2.2.2.1.1<64/\0<=x1.2.2.2.2.2.2.1.2.1/\x1.2.2.2.2.2.2.1.2.1<16/\J0 x1.2.2.2.2.2.2.1.2.2.1.2<=12/\J0 x1.2.2.2.2.2.2.1.2.2.2.2<=12/\J0 x1.2.2.2.2.2.2.2<=8192:=by have q:=n;rw[r]at q;exact q
   have:=J1.1 s0.1;refine .ge (λA=>?_) λA=>?_
   ·refine .le (λz=>?_) λz=>?_
    ·refine .bind (Jdd (B:=0) (S:=0) (⟨s0.2.2.2.1,s0.1⟩)) λD o=>.ite (λk=>?_) λk=>?_
     ·have:=J1.1 s0.2.2.2.1;have:0<=x1.2.2.2.1/\x1.2.2.2.1<x1.1:=o.2 k;refine .bind (Jdd (B:=0) (S:=0) (⟨s0.2.2.2.2.1,s0.1⟩)) λF w=>.ite (λj=>?_) λj=>?_
      ·have:=J1.1 s0.2.2.2.2.1;have:0<=x1.2.2.2.2.1/\x1.2.2.2.2.1<x1.1:=w.2 j;refine .bind (Jdd (B:=0) (S:=0) (⟨s0.2.2.2.2.2.1,s0.1⟩)) λE v=>?_;have:=J1.1 s0.2.2.2.2.2.1;have:=J4 (l:=x1.2.2.2.2.2.2.1.2.2.1.2);have:=J4 (l:=x1.2.2.2.2.2.2.1.2.2.2.2);have:=J4 (l:=x1.2.2.2.2.2.2.2);exact .some ⟨trivial,λc=>by have:0<=x1.2.2.2.2.2.1/\x1.2.2.2.2.2.1<x1.1:=v.2 c;first|omega|(dsimp only;omega)|(simp only[J98,JfP]<;>omega)⟩
      ·exact .some ⟨trivial,nofun⟩
     ·exact .some ⟨trivial,nofun⟩
    ·exact .some ⟨trivial,nofun⟩
   ·exact .some ⟨trivial,nofun⟩
  ·exact .some ⟨trivial,nofun⟩
 ·exact .some ⟨trivial,nofun⟩
section
variable {B S:Int}
theorem J35{x:Js}{y:Bool}(h:Ty.fit B S Jh x)(e:J0D x=some y)(c:y=true)(n:BS B S 0 0:=by omega):(1<=x.1/\x.1<=1099511627776/\0<=x.2.2.1/\x.2.2.1<=1073741824/\0<=x.2.2.2.1/\x.2.2.2.1<x.1/\0<=x.2.2.2.2.1/\x.2.2.2.2.1<x.1/\0<=x.2.2.2.2.2.1/\x.2.2.2.2.2.1<x.1/\0<=x.2.2.2.2.2.2.1.1/\x.2.2.2.2.2.2.1.1<64/\0<=x.2.2.2.2.2.2.1.2.1/\x.2.2.2.2.2.2.1.2.1<16/\J0 x.2.2.2.2.2.2.1.2.2.1.2<=12/\J0 x.2.2.2.2.2.2.1.2.2.2.2<=12/\J0 x.2.2.2.2.2.2.2<=8192)/\Ty.fit 0 8192 Jh x:=by
 have q:=((J3R h).get e).2 c;obtain⟨h1,h2,h3,h4,h5,g,⟨k,j,_,_⟩,o⟩:=h;refine⟨q,h1,h2,h3,h4,h5,g,⟨k,j,⟨trivial,?_⟩,trivial,?_⟩,?_⟩
 ·show J0 _<=8192;omega
 ·show J0 _<=8192;omega
 ·show J0 _<=8192;omega
end
theorem J72{B S:Int}{x1:J04}(h:Ty.fit B S JS x1)(p0:1<=x1.1)(g:x1.1<=1099511627776)(j:J0 x1.2.1<=4096)(e:BS B S 0 0:=by omega)(k:B<=9223372036854775807:=by omega):Tot (J2n x1) λy=>Ty.fit 0 0 (.i .i64) y/\(y=x1.1+J0 x1.2.1-1):=by unfold J2n;have:=J4 (l:=x1.2.1);have:J0 x1.2.1=_:=Jm h.2.1;have:=Jf x1.1 (J0 x1.2.1);have:=J0y (J2 .i64 x1.1 (J0 x1.2.1)) 1;exact .some ⟨J0Y,om⟩
theorem J2k{B S:Int}{x1:J04}(h:Ty.fit B S JS x1)(K:BS B S 0 0:=by omega)(N:B<=9223372036854775807:=by omega):Tot (J0f x1) λy=>Ty.fit 0 0 .b y/\(y=true->1<=x1.1/\x1.1<=1099511627776/\J0 x1.2.1<=4096/\x1.1-1<=x1.2.2/\x1.2.2<=x1.1+J0 x1.2.1-1):=by
 unfold J0f;have:=J1.1 h.1;refine .ltf (λC=>?_) λC=>?_
 ·refine .gtf (λD=>?_) λD=>?_
  ·have:J0 x1.2.1<=B:=h.2.1.1;have:=J4 (l:=x1.2.1);have:J0 x1.2.1=_:=Jm h.2.1;refine .gtf (λE=>?_) λE=>?_
   ·have:=J1.1 h.c;have:=J0y x1.1 1;refine .ltf (λA=>?_) λA=>?_
    ·refine .bind (J72 h om om om) λO H=>.gt (λo=>?_) λo=>?_
     ·exact .some ⟨trivial,nofun⟩
     ·refine Ja (τ:=Int) (λq=>(q,x1)) (λq=>(Ty.fit 0 0 (.i .i64) q/\0<=q/\(q<=J0 x1.2.1\/q<=0))) (λq=>J0 x1.2.1-q) ?_ 0 rfl ?_
      ·rintro e ⟨k,F,G⟩;unfold Jc1
       try dsimp only
       have:=J1.1 k;refine .lt (λw=>?_) λw=>?_
       ·refine .bind (Jg h.2.1) λM J=>?_;have:=Jf x1.1 e;refine .nef (λv=>?_) λv=>?_
        ·refine .bind (Jg h.2.1) λr j=>.bind ((J3R (B:=0) (S:=S) (x1:=r) j.1.z).eqn) λL n=>.not (λg=>?_) λg=>?_
         ·exact .some ⟨trivial,nofun⟩
         ·have I:=J35 (x:=r) j.1.z n.2 g;have:=Jf e 1;exact .some ⟨J2 .i64 e 1,rfl,⟨J7,om,om⟩,om,om⟩
        ·exact .some ⟨trivial,nofun⟩
       ·exact .some ⟨trivial,λ_=>om⟩
      ·try dsimp only
       exact⟨fk0,oo,oo⟩
    ·exact .some ⟨trivial,nofun⟩
   ·exact .some ⟨trivial,nofun⟩
  ·exact .some ⟨trivial,nofun⟩
 ·exact .some ⟨trivial,nofun⟩
section
variable {B S:Int}
theorem JmS{x:J04}(h:Ty.fit B S JS x)(e:J0f x=some true)(w:BC B S 0 0:=by omega):(1<=x.1/\x.1<=1099511627776/\J0 x.2.1<=4096/\x.1-1<=x.2.2/\x.2.2<=x.1+J0 x.2.1-1)/\ ∀(j:Nat) (e:Js),x.2.1[j]?=some e->e.1=x.1+j/\J0D e=some true:=by
 have q:=((J2k h).get e).2 rfl;refine⟨q,?_⟩;have n:Par (J0f x) λy=>y=true-> ∀(j:Nat) (e:Js),x.2.1[j]?=some e->e.1=x.1+j/\J0D e=some true:=by
  unfold J0f
  repeat' first|exact Par.some nofun|refine Par.ltf (λ_=>?_) (λ_=>?_)|refine Par.gtf (λ_=>?_) (λ_=>?_)|refine Par.gt (λ_=>?_) (λ_=>?_)|refine Par.bind λ_ _=>?_
  refine .while (λz=>z.2=x/\0<=z.1/\ ∀(j:Nat) (e:Js),(j:Int)<z.1->x.2.1[j]?=some e->e.1=x.1+j/\J0D e=some true) ⟨rfl,J0U _,λj e h1=>by dsimp only at h1;omega⟩ ?_;rintro⟨i,z⟩ ⟨rfl,r,g⟩;dsimp only at r g q;unfold Jc1;dsimp only;refine .lt (λc=>?_) λc=>.some λ_ j e he=>g j e (by have:=JgE he;omega) he;refine .bind λC h4=>.nef (λD=>.bind λA h5=>.bind λb hb=>.not (λ_=>.some nofun) λo=>.some ?_) λ_=>.some nofun;subst o;have:=Jf i 1;have:=Jf z.1 i;rw[h4]at h5;injection h5 with h5;subst h5
  refine⟨rfl,?_,λj e hj he=>?_⟩
  ·show 0<=J2 .i64 i 1;omega
  ·have hj:(j:Int)<J2 .i64 i 1:=hj;by_cases k:(j:Int)<i
   ·exact g j e k he
   ·have:j=i.toNat:=by omega
    subst this;have v:=(J5G h4).2;rw[v]at he;injection he with he;subst he
    exact⟨oo,hb⟩
 exact n _ e rfl
theorem J1Y{x:J04}{y:Bool}(h:Ty.fit B S JS x)(e:J0f x=some y)(c:y=true)(g:BC B S 0 0:=by omega):(1<=x.1/\x.1<=1099511627776/\J0 x.2.1<=4096/\x.1-1<=x.2.2/\x.2.2<=x.1+J0 x.2.1-1)/\Ty.fit 4096 8192 JS x:=by subst c;obtain⟨q,k⟩:=JmS h e;refine⟨q,h.1,⟨q.2.2.1,λa ha=>?_⟩,h.c⟩;obtain⟨j,hj⟩:=JiL.1 ha;exact(J35 (h.2.1.2 a ha) (k j a hj).2 rfl).2.u
end
theorem Jeb{B S:Int}{x1:J8w}(h:Ty.fit B S tq9 x1)(o:BG B S:=by omega):Tot (J38 x1) λy=>Ty.fit 4096 8192 tq9 y/\(y.2=0->J0 y.1.2.1=J0 x1.1.2.1):=by
 unfold J38;refine .bind ((J2k h.1).eqn) λr h1=>.not (λg=>?_) λg=>?_
 ·have:J0 x1.1.2.1<=B:=h.1.2.1.1;exact .some ⟨(⟨fzr,fkn 26⟩),om⟩
 ·have k:=J1Y h.1 h1.2 g;have:=J4 (l:=x1.1.2.1);have:J0 x1.1.2.1=_:=Jm h.1.2.1;have e:Ty.fit 4096 8192 JS x1.1:=k.2;refine .bind (J72 e om om om) λq n=>.gt (λj=>?_) λj=>?_
  ·exact .some ⟨(⟨fzr,fkn 14⟩),om⟩
  ·exact .some ⟨(⟨⟨e.1,e.2.1,J4w e.c h.2⟩,fk0⟩),om⟩
theorem Jco{B S:Int}{x1:J04}(h:Ty.fit B S JS x1)(k:BC B S 0 0:=by omega):Tot (J5C x1) λy=>Ty.fit 0 0 (.i .i64) y:=by
 unfold J5C;refine .bind ((J2k h).eqn) λo h1=>.not (λe=>?_) λe=>?_
 ·exact .some fk0
 ·have v3:=J1Y h h1.2 e;have:=J4 (l:=x1.2.1);have:J0 x1.2.1=_:=Jm h.2.1;have g:Ty.fit 4096 8192 JS x1:=v3.2;refine .bind (J72 g om om om) λn j=>.some j.1
theorem J08{B S x1:Int}(h:Ty.fit B S (.i .i64) x1)(e:BS B S 0 0:=by omega):Tot (Jz x1) λy=>Ty.fit 0 0 J03 y/\(y.1=5):=by unfold Jz;exact .some ⟨(⟨fkn 5,fk0,fk0,⟨trivial,Jd⟩,h⟩),om⟩
theorem JCC{B S:Int}{x1:Jq}(h:Ty.fit B S Jl x1)(az:BS B S 0 0:=by omega)(hB:B<=9223372036854775807:=by omega):Tot (J2m x1) λy=>Ty.fit 0 0 .b y:=by
 unfold J2m;refine .ltf (λc1=>?_) λc1=>?_
 ·refine .gtf (λc3=>?_) λc3=>?_
  ·have:=J1.1 h.2.1;refine .ltf (λc4=>?_) λc4=>?_
   ·refine .gtf (λc6=>?_) λc6=>?_
    ·have:=J1.1 h.c.1;refine .ltf (λc7=>?_) λc7=>?_
     ·refine .gtf (λc9=>?_) λc9=>?_
      ·have:J0 x1.2.2.2.2.1<=B:=h.e.1.1;have:=J4 (l:=x1.2.2.2.2.1);refine .gtf (λx=>?_) λx=>?_
       ·have:J0 x1.2.2.2.2.2<=B:=h.g.1;have:=J4 (l:=x1.2.2.2.2.2);refine .gt (λY=>?_) λY=>?_
        ·exact .some trivial
        ·have:=J1.1 h.d.1;refine .ltf (λE=>?_) λE=>?_
         ·refine .gtf (λC=>?_) λC=>?_
          ·refine .ne (λT=>?_) λT=>?_
           ·refine .ne (λa1=>?_) λa1=>?_
            ·exact .some trivial
            ·refine Ja (τ:=Int) (λq=>(q,x1)) (λq=>(Ty.fit 0 0 (.i .i64) q/\0<=q/\(q<=J0 x1.2.2.2.2.1\/q<=0))) (λq=>J0 x1.2.2.2.2.1-q) ?_ 0 rfl ?_
             ·rintro o ⟨R,ac,au⟩;unfold Jhq
              try dsimp only
              have:=J1.1 R;refine .lt (λZ=>?_) λZ=>?_
              ·refine .bind (Jg h.e.1) λy3 ao=>.ltf (λA=>?_) λA=>?_
               ·refine .bind (Jg h.e.1) λy4 aj=>.gtf (λr=>?_) λr=>?_
                ·refine .gt (λV=>?_) λV=>?_
                 ·have:=J0y o 1;refine .bind (Jg h.e.1) λy5 aw=>.bind (Jg h.e.1) λy6 b1=>.ge (λG=>?_) λG=>?_
                  ·exact .some trivial
                  ·have:=Jf o 1;exact .some ⟨J2 .i64 o 1,rfl,⟨J7,om,om⟩,om,om⟩
                 ·have:=Jf o 1;exact .some ⟨J2 .i64 o 1,rfl,⟨J7,om,om⟩,om,om⟩
                ·exact .some trivial
               ·exact .some trivial
              ·refine .inr ?_;refine Ja (τ:=Int) (λq=>(q,x1)) (λq=>(Ty.fit 0 0 (.i .i64) q/\0<=q/\(q<=J0 x1.2.2.2.2.2\/q<=0))) (λq=>J0 x1.2.2.2.2.2-q) ?_ 0 rfl ?_
               ·rintro n ⟨M,b9,ah⟩;unfold JhI
                try dsimp only
                have:=J1.1 M;refine .lt (λw=>?_) λw=>?_
                ·refine .bind (Jg h.g) λy8 ak=>.ltf (λQ=>?_) λQ=>?_
                 ·refine .bind (Jg h.g) λy9 b0=>.gtf (λW=>?_) λW=>?_
                  ·refine .gt (λJ=>?_) λJ=>?_
                   ·have:=J0y n 1;refine .bind (Jg h.g) λa9 b6=>.bind (Jg h.g) λae ai=>.gt (λz=>?_) λz=>?_
                    ·exact .some trivial
                    ·have:=Jf n 1;exact .some ⟨J2 .i64 n 1,rfl,⟨J7,om,om⟩,om,om⟩
                   ·have:=Jf n 1;exact .some ⟨J2 .i64 n 1,rfl,⟨J7,om,om⟩,om,om⟩
                  ·exact .some trivial
                 ·exact .some trivial
                ·exact .some trivial
               ·try dsimp only
                exact⟨fk0,oo,oo⟩
             ·try dsimp only
              exact⟨fk0,oo,oo⟩
           ·refine Ja (τ:=Int) (λq=>(q,x1)) (λq=>(Ty.fit 0 0 (.i .i64) q/\0<=q/\(q<=J0 x1.2.2.2.2.1\/q<=0))) (λq=>J0 x1.2.2.2.2.1-q) ?_ 0 rfl ?_
            ·rintro k ⟨F,a8,ad⟩;unfold Jiu
             try dsimp only
             have:=J1.1 F;refine .lt (λL=>?_) λL=>?_
             ·refine .bind (Jg h.e.1) λb2 aa=>.ltf (λD=>?_) λD=>?_
              ·refine .bind (Jg h.e.1) λam an=>.gtf (λI=>?_) λI=>?_
               ·refine .gt (λN=>?_) λN=>?_
                ·have:=J0y k 1;refine .bind (Jg h.e.1) λaq ap=>.bind (Jg h.e.1) λb8 al=>.ge (λK=>?_) λK=>?_
                 ·exact .some trivial
                 ·have:=Jf k 1;exact .some ⟨J2 .i64 k 1,rfl,⟨J7,om,om⟩,om,om⟩
                ·have:=Jf k 1;exact .some ⟨J2 .i64 k 1,rfl,⟨J7,om,om⟩,om,om⟩
               ·exact .some trivial
              ·exact .some trivial
             ·refine .inr ?_;refine Ja (τ:=Int) (λq=>(q,x1)) (λq=>(Ty.fit 0 0 (.i .i64) q/\0<=q/\(q<=J0 x1.2.2.2.2.2\/q<=0))) (λq=>J0 x1.2.2.2.2.2-q) ?_ 0 rfl ?_
              ·rintro j ⟨U,b3,av⟩;unfold Jie
               try dsimp only
               have:=J1.1 U;refine .lt (λH=>?_) λH=>?_
               ·refine .bind (Jg h.g) λag ab=>.ltf (λv=>?_) λv=>?_
                ·refine .bind (Jg h.g) λay af=>.gtf (λa0=>?_) λa0=>?_
                 ·refine .gt (λP=>?_) λP=>?_
                  ·have:=J0y j 1;refine .bind (Jg h.g) λb5 b7=>.bind (Jg h.g) λb4 ax=>.gt (λO=>?_) λO=>?_
                   ·exact .some trivial
                   ·have:=Jf j 1;exact .some ⟨J2 .i64 j 1,rfl,⟨J7,om,om⟩,om,om⟩
                  ·have:=Jf j 1;exact .some ⟨J2 .i64 j 1,rfl,⟨J7,om,om⟩,om,om⟩
                 ·exact .some trivial
                ·exact .some trivial
               ·exact .some trivial
              ·try dsimp only
               exact⟨fk0,oo,oo⟩
            ·try dsimp only
             exact⟨fk0,oo,oo⟩
          ·exact .some trivial
         ·exact .some trivial
       ·exact .some trivial
      ·exact .some trivial
     ·exact .some trivial
    ·exact .some trivial
   ·exact .some trivial
  ·exact .some trivial
 ·exact .some trivial
theorem J3U{B S:Int}{x1:List Jq}(h:Ty.fit B S (.l Jl) x1)(A:BS B S 0 0:=by omega)(I:B<=9223372036854775807:=by omega):Tot (J12 x1) λy=>Ty.fit 0 0 .b y:=by
 unfold J12;have:=J4 (l:=x1);have:J0 x1=_:=Jm h;refine .gt (λv=>?_) λv=>?_
 ·exact .some trivial
 ·refine Ja (τ:=Int) (λq=>(x1,q)) (λq=>(Ty.fit 0 0 (.i .i64) q/\0<=q/\(q<=J0 x1\/q<=0))) (λq=>J0 x1-q) ?_ 0 rfl ?_
  ·rintro e ⟨r,D,C⟩;unfold Jby
   try dsimp only
   have:=J1.1 r;refine .lt (λo=>?_) λo=>?_
   ·refine .bind (Jg h) λE k=>.bind (JCC k.1) λH x=>.nof (λg=>?_) λg=>?_
    ·refine .gt (λn=>?_) λn=>?_
     ·have:=J0y e 1;refine .bind (Jg h) λF w=>.bind (Jg h) λG z=>.ge (λj=>?_) λj=>?_
      ·exact .some trivial
      ·have:=Jf e 1;exact .some ⟨J2 .i64 e 1,rfl,⟨J7,om,om⟩,om,om⟩
     ·have:=Jf e 1;exact .some ⟨J2 .i64 e 1,rfl,⟨J7,om,om⟩,om,om⟩
    ·exact .some trivial
   ·exact .some trivial
  ·try dsimp only
   exact⟨fk0,oo,oo⟩
theorem Jbs{B S:Int}{x1:J2x}(h:Ty.fit B S tq2 x1)(o:BS B S 0 0:=by omega)(w:B<=9223372036854775807:=by omega):Tot (J1w x1) λy=>Ty.fit 0 0 (.i .i64) y/\(-1<=y/\y<J0 x1.1):=by
 unfold J1w;have:J0 x1.1<=B:=h.1.1;have:=J4 (l:=x1.1);have:J0 x1.1=_:=Jm h.1;refine Ja (τ:=Int) (λq=>(x1.1,x1.2,q)) (λq=>(Ty.fit 0 0 (.i .i64) q/\0<=q/\(q<=J0 x1.1\/q<=0))) (λq=>J0 x1.1-q) ?_ 0 rfl ?_
 ·rintro e ⟨g,x,v⟩;unfold J22
  try dsimp only
  have:=J1.1 g;refine .lt (λk=>?_) λk=>?_
  ·refine .bind (Jg h.1) λr n=>.eq (λj=>?_) λj=>?_
   ·exact .some ⟨g,om⟩
   ·have:=Jf e 1;exact .some ⟨J2 .i64 e 1,rfl,⟨J7,om,om⟩,om,om⟩
  ·exact .some ⟨(fkn (-1)),om⟩
 ·try dsimp only
  exact⟨fk0,oo,oo⟩
theorem JmD{B S:Int}{x1:J2x}(h:Ty.fit B S tq2 x1)(Z:BG B S:=by omega):Tot (J7V x1) λy=>Ty.fit 8193 0 tq2 y:=by
 unfold J7V;refine .bind ((J3U h.1).eqn) λy2 h1=>.not (λK=>?_) λK=>?_
 ·exact .some (⟨Jb,fkn 15⟩)
 ·have v3:=J2F h.1 h1.2 K;have:=J4 (l:=x1.1);have:J0 x1.1=_:=Jm h.1;have k:Ty.fit 4096 0 (.l Jl) x1.1:=v3.2;refine .ltf (λP=>?_) λP=>?_
  ·refine .gt (λG=>?_) λG=>?_
   ·exact .some (⟨Jb,fkn 1⟩)
   ·refine .bind (Jbs (B:=4096) (S:=0) (⟨k,h.2⟩)) λy3 T=>.ge (λJ=>?_) λJ=>?_
    ·exact .some (⟨Jb,fkn 25⟩)
    ·refine .eq (λO=>?_) λO=>?_
     ·exact .some (⟨Jb,fkn 21⟩)
     ·refine Ja (τ:=Int×(List Jq)) (λq=>(x1.1,x1.2,q.1,q.2)) (λq=>(Ty.fit 0 0 (.i .i64) q.1/\0<=q.1/\(q.1<=J0 x1.1\/q.1<=0))/\(Ty.fit 4096 0 (.l Jl) q.2/\J0 q.2<=1*q.1+0)) (λq=>J0 x1.1-q.1) ?_ (0,[]) rfl ?_
      ·rintro⟨j,e⟩ r;dsimp only at r;obtain⟨⟨E,Y,V⟩,g,U⟩:=r;unfold Jh7
       try dsimp only
       have:=J1.1 E;refine .lt (λL=>?_) λL=>?_
       ·refine .bind (Jg k) λy5 W=>.lt (λD=>?_) λD=>?_
        ·refine .bind (Jg k) λy6 H=>?_;have:J0 e<=4096:=g.1;have:=J4 (l:=e);have:J0 e=_:=Jm g;refine .bind (J0K (B:=4096) (Bl:=4096) (Bm:=4096) (S:=0) (J0 e) 1 g (J0n (B:=4096) (S:=0) (t:=Jl) oo H.1)) λC o=>?_;have:=Jf j 1;have:J0 C=_:=Jm o.1;exact .some ⟨(J2 .i64 j 1,C),rfl,⟨⟨J7,om,om⟩,o.1,om⟩,om,om⟩
        ·refine .inr ?_;have:J0 e<=4096:=g.1;have:=J4 (l:=e);have:J0 e=_:=Jm g;refine .bind (J0K (B:=4097) (Bl:=4096) (Bm:=1) (S:=0) (J0 e) 1 g (J0n (B:=1) (S:=0) (t:=Jl) oo (⟨h.2,fkn 1,fzr⟩))) λI x=>.bind (J6A k) λM v=>?_;have:J0 I=_:=Jm x.1;have:J0 M=_:=Jm v.1;refine .bind (J0K (B:=8193) (Bl:=4097) (Bm:=4096) (S:=0) (J0 I) (J0 M) x.1 v.1) λQ N=>.some (⟨N.1,fk0⟩)
       ·refine .inr ?_;have:J0 e<=4096:=g.1;have:=J4 (l:=e);have:J0 e=_:=Jm g;refine .bind (J0K (B:=4097) (Bl:=4096) (Bm:=1) (S:=0) (J0 e) 1 g (J0n (B:=1) (S:=0) (t:=Jl) oo (⟨h.2,fkn 1,fzr⟩))) λz A=>.bind (J6A k) λw n=>?_;have:J0 z=_:=Jm A.1;have:J0 w=_:=Jm n.1;refine .bind (J0K (B:=8193) (Bl:=4097) (Bm:=4096) (S:=0) (J0 z) (J0 w) A.1 n.1) λR F=>.some (⟨F.1,fk0⟩)
      ·have:J0 ([]:List Jq)=0:=rfl
       try dsimp only
       exact⟨⟨fk0,oo,oo⟩,Jb,oo⟩
  ·exact .some (⟨Jb,fkn 1⟩)
theorem Jax{B S:Int}{x1:J1l}(h:Ty.fit B S tq1 x1)(r:BS B S 0 0:=by omega)(x:B<=9223372036854775807:=by omega):Tot (J4L x1) λy=>Ty.fit 0 0 (.pr J9 .b) y:=by
 unfold J4L;have:J0 x1.1.2.2.2.2.2.2.2<=B:=h.1.i.1;have:=J4 (l:=x1.1.2.2.2.2.2.2.2);have:J0 x1.1.2.2.2.2.2.2.2=_:=Jm h.1.i;refine Ja (τ:=Int) (λq=>(x1.2,q,x1.1,0,0,0)) (λq=>(Ty.fit 0 0 (.i .i64) q/\0<=q/\(q<=J0 x1.1.2.2.2.2.2.2.2\/q<=0))) (λq=>J0 x1.1.2.2.2.2.2.2.2-q) ?_ 0 rfl ?_
 ·rintro e ⟨k,z,w⟩;unfold JhQ
  try dsimp only
  have:=J1.1 k;refine .lt (λn=>?_) λn=>?_
  ·refine .bind (Jg h.1.i) λv o=>.eq (λg=>?_) λg=>?_
   ·refine .bind (Jg h.1.i) λA j=>.some (⟨j.1,trivial⟩)
   ·have:=Jf e 1;exact .some ⟨J2 .i64 e 1,rfl,⟨J7,om,om⟩,om,om⟩
  ·exact .some (⟨fzr,trivial⟩)
 ·try dsimp only
  exact⟨fk0,oo,oo⟩
theorem J4j{B S:Int}{x1:Jef}(h:Ty.fit B S JxZ x1)(k:BS B S 0 0:=by omega):Tot (J2g x1) λy=>Ty.fit 0 0 .b y:=by
 unfold J2g;refine .ne (λj=>?_) λj=>?_
 ·refine .ite (λe=>?_) λe=>?_
  ·have n:=J1S.1 e;refine .eqf (λg=>?_) λg=>?_
   ·exact .some trivial
   ·exact .some trivial
  ·exact .some trivial
 ·exact .some trivial
theorem Jed{B S:Int}{x1:T_api_Grant}(h:Ty.fit B S J5 x1)(r:BS B S 0 0:=by omega):Tot (J60 x1) λy=>Ty.fit 0 0 .b y:=by
 unfold J60;refine .ge (λq=>?_) λq=>?_
 ·refine .le (λj=>?_) λj=>?_
  ·have:=J1.1 h.2.1.1;refine .ge (λo=>?_) λo=>?_
   ·refine .lt (λn=>?_) λn=>?_
    ·have:=J1.1 h.2.1.2;refine .ge (λk=>?_) λk=>?_
     ·refine .lt (λg=>?_) λg=>?_
      ·have:=J1.1 h.c;refine .eqf (λe=>?_) λe=>?_
       ·exact .some trivial
       ·exact .some trivial
      ·exact .some trivial
     ·exact .some trivial
    ·exact .some trivial
   ·exact .some trivial
  ·exact .some trivial
 ·exact .some trivial
theorem JqX{B S:Int}{x1:Jef}(h:Ty.fit B S JxZ x1)(j:BS B S 0 0:=by omega):Tot (J92 x1) λy=>Ty.fit 0 0 .b y:=by
 unfold J92;refine .ne (λg=>?_) λg=>?_
 ·exact .some trivial
 ·have:=J1.1 h.1.2.1.2;refine .ne (λe=>?_) λe=>?_
  ·exact .some trivial
  ·exact .some trivial
theorem J5H{B S:Int}{x1:Js0}(h:Ty.fit B S JPi x1)(x:BS B S 0 0:=by omega)(E:B<=9223372036854775807:=by omega):Tot (J33 x1) λy=>Ty.fit 0 0 (.i .i64) y:=by
 unfold J33;have:J0 x1.1.1<=B:=h.1.1.1;have:=J4 (l:=x1.1.1);have:J0 x1.1.1=_:=Jm h.1.1;refine Ja (τ:=Int) (λq=>(x1.2.1,q,x1.1,x1.2.2)) (λq=>(Ty.fit 0 0 (.i .i64) q/\0<=q/\(q<=J0 x1.1.1\/q<=0))) (λq=>J0 x1.1.1-q) ?_ 0 rfl ?_
 ·rintro e ⟨o,F,C⟩;unfold Jl3
  try dsimp only
  have:=J1.1 o;refine .lt (λn=>?_) λn=>?_
  ·refine .bind (Jg h.1.1) λz v=>.eq (λk=>?_) λk=>?_
   ·refine .bind (Jg h.1.1) λD w=>.ite (λg=>?_) λg=>?_
    ·have r:=J1S.1 g;refine .bind (Jg h.1.1) λA j=>.some j.1.c
    ·have:=Jf e 1;exact .some ⟨J2 .i64 e 1,rfl,⟨J7,om,om⟩,om,om⟩
   ·have:=Jf e 1;exact .some ⟨J2 .i64 e 1,rfl,⟨J7,om,om⟩,om,om⟩
  ·exact .some fk0
 ·try dsimp only
  exact⟨fk0,oo,oo⟩
theorem J4K{B S:Int}{x1:JX}(h:Ty.fit B S JD x1)(aq:BS B S 0 0:=by omega)(hB:B<=9223372036854775807:=by omega):Tot (J1s x1) λy=>Ty.fit 0 0 .b y:=by
 unfold J1s;have:J0 x1.1<=B:=h.1.1;have:=J4 (l:=x1.1);have:J0 x1.1=_:=Jm h.1;have:J0 x1.2<=B:=h.2.1;have:=J4 (l:=x1.2);have:J0 x1.2=_:=Jm h.2;have:=Jf (J0 x1.1) (J0 x1.2);refine .gt (λZ=>?_) λZ=>?_
 ·exact .some trivial
 ·refine Ja (τ:=Int) (λq=>(q,x1)) (λq=>(Ty.fit 0 0 (.i .i64) q/\0<=q/\(q<=J0 x1.1\/q<=0))) (λq=>J0 x1.1-q) ?_ 0 rfl ?_
  ·rintro e ⟨i9,au,b0⟩;unfold Jic
   try dsimp only
   have:=J1.1 i9;refine .lt (λK=>?_) λK=>?_
   ·refine .bind (Jg h.1) λy3 w=>.bind (Jed w.1) λy4 a2=>.nof (λE=>?_) λE=>?_
    ·refine .gt (λM=>?_) λM=>?_
     ·have:=J0y e 1;refine .bind (Jg h.1) λy5 P=>.bind (Jg h.1) λy6 G=>.bind (JqX (B:=0) (S:=0) (⟨P.1,G.1⟩)) λy7 an=>.not (λD=>?_) λD=>?_
      ·exact .some trivial
      ·refine Ja (τ:=Int) (λq=>(e,q,x1)) (λq=>(Ty.fit 0 0 (.i .i64) q/\q<=JI .i64 e 1)) (λq=>q-0) ?_ (JI .i64 e 1) rfl ?_
       ·rintro o ⟨C,a6⟩;unfold JhK
        try dsimp only
        have:=J1.1 C;refine .ge (λR=>?_) λR=>?_
        ·refine .bind (Jg h.1) λy9 aj=>.bind (Jg h.1) λa1 ab=>.ite (λr=>?_) λr=>?_
         ·have ai:=J1S.1 r;refine .bind (Jg h.1) λa8 N=>.bind (Jg h.1) λa4 O=>.bind (J4j (B:=0) (S:=0) (⟨N.1,O.1⟩)) λaw a5=>.ite (λT=>?_) λT=>?_
          ·refine .inr ?_;exact .some trivial
          ·have:=J0y o 1;exact .some ⟨JI .i64 o 1,rfl,⟨J0Y,om⟩,om,om⟩
         ·have:=Jf e 1;exact .some ⟨J2 .i64 e 1,rfl,⟨J7,om,om⟩,om,om⟩
        ·have:=Jf e 1;exact .some ⟨J2 .i64 e 1,rfl,⟨J7,om,om⟩,om,om⟩
       ·try dsimp only
        exact⟨J0Y,oo⟩
     ·have:=J0y e 1;refine Ja (τ:=Int) (λq=>(e,q,x1)) (λq=>(Ty.fit 0 0 (.i .i64) q/\q<=JI .i64 e 1)) (λq=>q-0) ?_ (JI .i64 e 1) rfl ?_
      ·rintro j ⟨I,aa⟩;unfold Jix
       try dsimp only
       have:=J1.1 I;refine .ge (λx=>?_) λx=>?_
       ·refine .bind (Jg h.1) λak ac=>.bind (Jg h.1) λay a3=>.ite (λv=>?_) λv=>?_
        ·have ap:=J1S.1 v;refine .bind (Jg h.1) λal Y=>.bind (Jg h.1) λa9 A=>.bind (J4j (B:=0) (S:=0) (⟨Y.1,A.1⟩)) λao av=>.ite (λH=>?_) λH=>?_
         ·refine .inr ?_;exact .some trivial
         ·have:=J0y j 1;exact .some ⟨JI .i64 j 1,rfl,⟨J0Y,om⟩,om,om⟩
        ·have:=Jf e 1;exact .some ⟨J2 .i64 e 1,rfl,⟨J7,om,om⟩,om,om⟩
       ·have:=Jf e 1;exact .some ⟨J2 .i64 e 1,rfl,⟨J7,om,om⟩,om,om⟩
      ·try dsimp only
       exact⟨J0Y,oo⟩
    ·exact .some trivial
   ·refine .inr ?_;refine Ja (τ:=Int) (λq=>(q,x1)) (λq=>(Ty.fit 0 0 (.i .i64) q/\0<=q/\(q<=J0 x1.2\/q<=0))) (λq=>J0 x1.2-q) ?_ 0 rfl ?_
    ·rintro g ⟨F,az,a7⟩;unfold Ji7
     try dsimp only
     have:=J1.1 F;refine .lt (λW=>?_) λW=>?_
     ·refine .bind (Jg h.2) λV n=>.bind (Jed n.1) λae af=>.nof (λz=>?_) λz=>?_
      ·refine .bind (J5H (B:=B) (S:=S) (⟨h,n.1.1,n.1.2.1⟩)) λax ad=>.ge (λU=>?_) λU=>?_
       ·exact .some trivial
       ·refine Ja (τ:=Int) (λq=>(g,q,x1,V)) (λq=>(Ty.fit 0 0 (.i .i64) q/\0<=q/\(q<=g\/q<=0))) (λq=>g-q) ?_ 0 rfl ?_
        ·rintro k ⟨L,am,z72⟩;unfold JhX
         try dsimp only
         have:=J1.1 L;refine .lt (λQ=>?_) λQ=>?_
         ·refine .bind (Jg h.2) λah ag=>.eq (λJ=>?_) λJ=>?_
          ·refine .inr ?_;exact .some trivial
          ·have:=Jf k 1;exact .some ⟨J2 .i64 k 1,rfl,⟨J7,om,om⟩,om,om⟩
         ·have:=Jf g 1;exact .some ⟨J2 .i64 g 1,rfl,⟨J7,om,om⟩,om,om⟩
        ·try dsimp only
         exact⟨fk0,oo,oo⟩
      ·exact .some trivial
     ·exact .some trivial
    ·try dsimp only
     exact⟨fk0,oo,oo⟩
  ·try dsimp only
   exact⟨fk0,oo,oo⟩
theorem JnM{B S:Int}{x1:Jy}(h:Ty.fit B S Jk x1)(x:BS B S 0 0:=by omega):Tot (J1X x1) λy=>Ty.fit 0 0 .b y:=by
 unfold J1X;have s0:Ty.fit 0 S Jk x1:=h;refine Ja (τ:=Int) (λq=>(q,x1)) (λq=>(Ty.fit 0 0 (.i .i64) q/\0<=q/\(q<=16\/q<=0))) (λq=>16-q) ?_ 0 rfl ?_
 ·rintro e ⟨r,w2,z3⟩;unfold JbW
  try dsimp only
  have:=J1.1 r;refine .lt (λv=>?_) λv=>?_
  ·refine .bind (J4n) λ_ _=>.bind (J7u s0.2.2) λo j=>.bind (J9S j) λA C=>.nof (λn=>?_) λn=>?_
   ·have:J0 o.2<=S:=j.2;refine .eq (λk=>?_) λk=>?_
    ·refine .bind (J4n) λ_ _=>.bind (J7u s0.2.2) λz w=>.ite (λg=>?_) λg=>?_
     ·exact .some trivial
     ·have:=Jf e 1;exact .some ⟨J2 .i64 e 1,rfl,⟨J7,om,om⟩,om,om⟩
    ·have:=Jf e 1;exact .some ⟨J2 .i64 e 1,rfl,⟨J7,om,om⟩,om,om⟩
   ·exact .some trivial
  ·exact .some trivial
 ·try dsimp only
  exact⟨fk0,oo,oo⟩
theorem Ji9{B S:Int}{x1:Jy}(h:Ty.fit B S Jk x1)(k:BS B S 0 0:=by omega):Tot (J1K x1) λy=>Ty.fit 0 0 .b y:=by
 unfold J1K;refine .ge (λj=>?_) λj=>?_
 ·refine .lt (λe=>?_) λe=>?_
  ·have:=J1.1 h.z.2.1;refine .ge (λg=>?_) λg=>?_
   ·exact .some trivial
   ·exact .some trivial
  ·exact .some trivial
 ·exact .some trivial
theorem JBf{B S:Int}{x1:Jy}(h:Ty.fit B S Jk x1)(g:BS B S 0 0:=by omega):Tot (J1D x1) λy=>Ty.fit 0 0 .b y:=by
 unfold J1D;have s0:Ty.fit 0 S Jk x1:=h;refine .bind (Ji9 (B:=0) (S:=S) s0) λk h1=>.ite (λe=>?_) λe=>?_
 ·refine .bind (JnM (B:=0) (S:=S) s0) λj h3=>.some trivial
 ·exact .some trivial
end Go.Am
end
section
namespace Go.Am
set_option linter.unusedVariables false
set_option maxRecDepth 20000
set_option maxHeartbeats 4000000
theorem J3S{B S:Int}{x1:J00}(h:Ty.fit B S JE x1)(ac:BS B S 0 0:=by omega)(hB:B<=9223372036854775807:=by omega):Tot (J0g x1) λy=>Ty.fit 0 0 .b y:=by
 unfold J0g;have:=J1.1 h.1;refine .ltf (λZ=>?_) λZ=>?_
 ·refine .gtf (λc3=>?_) λc3=>?_
  ·have:J0 x1.2.1<=B:=h.2.1.1;have:=J4 (l:=x1.2.1);have:J0 x1.2.1=_:=Jm h.2.1;refine .gtf (λc4=>?_) λc4=>?_
   ·have:=J1.1 h.c;refine .ltf (λY=>?_) λY=>?_
    ·have:=J0y (J0 x1.2.1) 1;refine .gt (λO=>?_) λO=>?_
     ·exact .some trivial
     ·refine Ja (τ:=Int) (λq=>(J0 x1.2.1,q,x1)) (λq=>(Ty.fit 0 0 (.i .i64) q/\0<=q/\(q<=J0 x1.2.1\/q<=0))) (λq=>J0 x1.2.1-q) ?_ 0 rfl ?_
      ·rintro e ⟨L,ab,a7⟩;unfold J6e
       try dsimp only
       have:=J1.1 L;refine .lt (λK=>?_) λK=>?_
       ·refine .bind (Jg h.2.1) λk j=>.bind ((JBf (B:=0) (S:=S) (x1:=k.1) j.1.z.1).eqn) λy4 D=>.nof (λv=>?_) λv=>?_
        ·have a3:=Jnw (x:=k.1) j.1.z.1 D.2 v;refine .ite (λG=>?_) λG=>?_
         ·have:=J1.1 j.1.z.2.2.1;refine .ltf (λQ=>?_) λQ=>?_
          ·refine .gtf (λC=>?_) λC=>?_
           ·refine .not (λJ=>?_) λJ=>?_
            ·refine .ne (λF=>?_) λF=>?_
             ·exact .some trivial
             ·refine Ja (τ:=Int) (λq=>(J0 x1.2.1,e,q,x1,k)) (λq=>(Ty.fit 0 0 (.i .i64) q/\0<=q/\(q<=e\/q<=0))) (λq=>e-q) ?_ 0 rfl ?_
              ·rintro r ⟨aj,ae,a6⟩;unfold J09
               try dsimp only
               refine .lt (λH=>?_) λH=>?_
               ·refine .bind (Jg h.2.1) λy6 ah=>.eq (λR=>?_) λR=>?_
                ·refine .inr ?_;exact .some trivial
                ·have:=Jf r 1;exact .some ⟨J2 .i64 r 1,rfl,⟨J7,om,om⟩,om,om⟩
               ·have:=Jf e 1;exact .some ⟨J2 .i64 e 1,rfl,⟨J7,om,om⟩,om,om⟩
              ·try dsimp only
               exact⟨fk0,oo,oo⟩
            ·refine Ja (τ:=Int) (λq=>(J0 x1.2.1,e,q,x1,k)) (λq=>(Ty.fit 0 0 (.i .i64) q/\0<=q/\(q<=e\/q<=0))) (λq=>e-q) ?_ 0 rfl ?_
             ·rintro o ⟨V,ai,a8⟩;unfold JhS
              try dsimp only
              have:=J1.1 V;refine .lt (λE=>?_) λE=>?_
              ·refine .bind (Jg h.2.1) λy8 a4=>.eq (λw=>?_) λw=>?_
               ·refine .inr ?_;exact .some trivial
               ·have:=Jf o 1;exact .some ⟨J2 .i64 o 1,rfl,⟨J7,om,om⟩,om,om⟩
              ·have:=Jf e 1;exact .some ⟨J2 .i64 e 1,rfl,⟨J7,om,om⟩,om,om⟩
             ·try dsimp only
              exact⟨fk0,oo,oo⟩
           ·exact .some trivial
          ·exact .some trivial
         ·refine .not (λI=>?_) λI=>?_
          ·have:=J1.1 j.1.z.2.2.1;refine .ne (λW=>?_) λW=>?_
           ·exact .some trivial
           ·refine Ja (τ:=Int) (λq=>(J0 x1.2.1,e,q,x1,k)) (λq=>(Ty.fit 0 0 (.i .i64) q/\0<=q/\(q<=e\/q<=0))) (λq=>e-q) ?_ 0 rfl ?_
            ·rintro n ⟨N,a9,a2⟩;unfold Jhw
             try dsimp only
             have:=J1.1 N;refine .lt (λU=>?_) λU=>?_
             ·refine .bind (Jg h.2.1) λa5 ag=>.eq (λT=>?_) λT=>?_
              ·refine .inr ?_;exact .some trivial
              ·have:=Jf n 1;exact .some ⟨J2 .i64 n 1,rfl,⟨J7,om,om⟩,om,om⟩
             ·have:=Jf e 1;exact .some ⟨J2 .i64 e 1,rfl,⟨J7,om,om⟩,om,om⟩
            ·try dsimp only
             exact⟨fk0,oo,oo⟩
          ·refine Ja (τ:=Int) (λq=>(J0 x1.2.1,e,q,x1,k)) (λq=>(Ty.fit 0 0 (.i .i64) q/\0<=q/\(q<=e\/q<=0))) (λq=>e-q) ?_ 0 rfl ?_
           ·rintro g ⟨P,af,z70⟩;unfold Jh6
            try dsimp only
            have:=J1.1 P;refine .lt (λM=>?_) λM=>?_
            ·refine .bind (Jg h.2.1) λad aa=>.eq (λA=>?_) λA=>?_
             ·refine .inr ?_;exact .some trivial
             ·have:=Jf g 1;exact .some ⟨J2 .i64 g 1,rfl,⟨J7,om,om⟩,om,om⟩
            ·have:=Jf e 1;exact .some ⟨J2 .i64 e 1,rfl,⟨J7,om,om⟩,om,om⟩
           ·try dsimp only
            exact⟨fk0,oo,oo⟩
        ·exact .some trivial
       ·exact .some trivial
      ·try dsimp only
       exact⟨fk0,oo,oo⟩
    ·exact .some trivial
   ·exact .some trivial
  ·exact .some trivial
 ·exact .some trivial
theorem JiR{B S x1:Int}(h:Ty.fit B S (.i .i64) x1)(g:BS B S 0 0:=by omega):Tot (J8g x1) λy=>Ty.fit 0 0 .b y:=by
 unfold J8g;refine .ge (λe=>?_) λe=>?_
 ·exact .some trivial
 ·exact .some trivial
theorem J5Y{B S:Int}{x1:List T_api_Row}(h:Ty.fit B S (.l J9) x1)(E:BS B S 0 0:=by omega)(L:B<=9223372036854775807:=by omega):Tot (J1H x1) λy=>Ty.fit 0 0 .b y:=by
 unfold J1H;have:J0 x1=_:=Jm h;refine .ltf (λw=>?_) λw=>?_
 ·refine .gt (λx=>?_) λx=>?_
  ·exact .some trivial
  ·refine Ja (τ:=Int) (λq=>(q,x1)) (λq=>(Ty.fit 0 0 (.i .i64) q/\0<=q/\(q<=J0 x1\/q<=0))) (λq=>J0 x1-q) ?_ 0 rfl ?_
   ·rintro e ⟨z,F,K⟩;unfold JgM
    try dsimp only
    have:=J1.1 z;refine .lt (λv=>?_) λv=>?_
    ·refine .bind (Jg h) λG g=>.bind (JiR g.1.1) λJ C=>.nof (λn=>?_) λn=>?_
     ·refine .bind (JiR g.1.2.1) λH A=>.nof (λk=>?_) λk=>?_
      ·refine .bind (JiR g.1.c) λI D=>.nof (λj=>?_) λj=>?_
       ·have:=J1.1 g.1.2.1;refine .eq (λo=>?_) λo=>?_
        ·have:=J1.1 g.1.c;refine .ne (λr=>?_) λr=>?_
         ·exact .some trivial
         ·have:=Jf e 1;exact .some ⟨J2 .i64 e 1,rfl,⟨J7,om,om⟩,om,om⟩
        ·have:=Jf e 1;exact .some ⟨J2 .i64 e 1,rfl,⟨J7,om,om⟩,om,om⟩
       ·exact .some trivial
      ·exact .some trivial
     ·exact .some trivial
    ·exact .some trivial
   ·try dsimp only
    exact⟨fk0,oo,oo⟩
 ·exact .some trivial
theorem JdU{B S:Int}{x1:Jdx}(h:Ty.fit B S JxW x1)(A:BS B S 0 0:=by omega)(G:B<=9223372036854775807:=by omega):Tot (J1N x1) λy=>Ty.fit 0 0 .b y:=by
 unfold J1N;have:J0 x1.1<=B:=h.1.1;have:=J4 (l:=x1.1);have:J0 x1.1=_:=Jm h.1;refine Ja (τ:=Int) (λq=>(x1.1,x1.2,q)) (λq=>(Ty.fit 0 0 (.i .i64) q/\0<=q/\(q<=J0 x1.1\/q<=0))) (λq=>J0 x1.1-q) ?_ 0 rfl ?_
 ·rintro e ⟨z,H,E⟩;unfold J7K
  try dsimp only
  have:=J1.1 z;refine .lt (λx=>?_) λx=>?_
  ·refine .bind (Jg h.1) λD g=>.ltf (λr=>?_) λr=>?_
   ·have:=J1.1 h.2;refine .gef (λn=>?_) λn=>?_
    ·have:=J1.1 g.1.2.1;refine .ltf (λk=>?_) λk=>?_
     ·have:=J1.1 g.1.c;refine .gtf (λo=>?_) λo=>?_
      ·refine .gtf (λv=>?_) λv=>?_
       ·refine .gt (λw=>?_) λw=>?_
        ·have:=J0y e 1;refine .bind (Jg h.1) λF C=>.ge (λj=>?_) λj=>?_
         ·exact .some trivial
         ·have:=Jf e 1;exact .some ⟨J2 .i64 e 1,rfl,⟨J7,om,om⟩,om,om⟩
        ·have:=Jf e 1;exact .some ⟨J2 .i64 e 1,rfl,⟨J7,om,om⟩,om,om⟩
       ·exact .some trivial
      ·exact .some trivial
     ·exact .some trivial
    ·exact .some trivial
   ·exact .some trivial
  ·exact .some trivial
 ·try dsimp only
  exact⟨fk0,oo,oo⟩
theorem JCO{B S:Int}{x1:J6}(h:Ty.fit B S J3 x1)(J:BC B S 0 0:=by omega):Tot (J4S x1) λy=>Ty.fit 0 0 .b y:=by
 unfold J4S;refine .ge (λC=>?_) λC=>?_
 ·refine .le (λD=>?_) λD=>?_
  ·have:=J1.1 h.2.1;refine .ge (λF=>?_) λF=>?_
   ·refine .le (λE=>?_) λE=>?_
    ·refine .bind ((J2k h.c.1).eqn) λR A=>.ite (λq=>?_) λq=>?_
     ·have v9:=J1Y h.c.1 A.2 q;refine .bind ((J3S h.d.1).eqn) λN r=>.ite (λo=>?_) λo=>?_
      ·have I:=J2H h.d.1 r.2 o;refine .bind ((J4K h.e.1).eqn) λQ w=>.ite (λk=>?_) λk=>?_
       ·have K:=J3X h.e.1 w.2 k;refine .bind ((J3U h.g.1).eqn) λO z=>.ite (λn=>?_) λn=>?_
        ·have L:=J2F h.g.1 z.2 n;refine .bind ((J5Y h.h.1).eqn) λP x=>.ite (λj=>?_) λj=>?_
         ·have G:=J4N h.h.1 x.2 j;refine .eq (λv=>?_) λv=>?_
          ·refine .bind (JdU (B:=B) (S:=S) (⟨h.i,h.1⟩)) λM H=>.some trivial
          ·exact .some trivial
         ·exact .some trivial
        ·exact .some trivial
       ·exact .some trivial
      ·exact .some trivial
     ·exact .some trivial
    ·exact .some trivial
   ·exact .some trivial
  ·exact .some trivial
 ·exact .some trivial
theorem J1i{B S:Int}{x1:J6}(h:Ty.fit B S J3 x1)(T:BC B S 0 0:=by omega):Tot (JM x1) λy=>Ty.fit 0 0 .b y:=by
 unfold JM;refine .bind (JCO h) λy2 h1=>.not (λK=>?_) λK=>?_
 ·exact .some trivial
 ·have:J0 x1.2.2.2.2.2.1<=B:=h.g.1.1;have:=J4 (l:=x1.2.2.2.2.2.1);have:J0 x1.2.2.2.2.2.1=_:=Jm h.g.1;refine Ja (τ:=Int) (λq=>(q,x1)) (λq=>(Ty.fit 0 0 (.i .i64) q/\0<=q/\(q<=J0 x1.2.2.2.2.2.1\/q<=0))) (λq=>J0 x1.2.2.2.2.2.1-q) ?_ 0 rfl ?_
  ·rintro o ⟨L,w7,z8⟩;unfold JhM
   try dsimp only
   have:=J1.1 L;refine .lt (λJ=>?_) λJ=>?_
   ·refine .bind (Jg h.g.1) λy4 N=>.ge (λF=>?_) λF=>?_
    ·exact .some trivial
    ·have:=Jf o 1;exact .some ⟨J2 .i64 o 1,rfl,⟨J7,om,om⟩,om,om⟩
   ·refine .inr ?_;have:J0 x1.2.2.2.1.2.1<=B:=h.d.1.2.1.1;have:=J4 (l:=x1.2.2.2.1.2.1);have:J0 x1.2.2.2.1.2.1=_:=Jm h.d.1.2.1;refine Ja (τ:=Int) (λq=>(q,x1)) (λq=>(Ty.fit 0 0 (.i .i64) q/\0<=q/\(q<=J0 x1.2.2.2.1.2.1\/q<=0))) (λq=>J0 x1.2.2.2.1.2.1-q) ?_ 0 rfl ?_
    ·rintro k ⟨A,P,Z⟩;unfold Jid
     try dsimp only
     have:=J1.1 A;refine .lt (λv=>?_) λv=>?_
     ·refine .bind (Jg h.d.1.2.1) λy6 D=>.ge (λw=>?_) λw=>?_
      ·exact .some trivial
      ·refine .bind (Jax (B:=B) (S:=S) (⟨h,D.1.z.1.1⟩)) λy7 V=>.ite (λx=>?_) λx=>?_
       ·exact .some trivial
       ·have:=Jf k 1;exact .some ⟨J2 .i64 k 1,rfl,⟨J7,om,om⟩,om,om⟩
     ·refine .inr ?_;have:J0 x1.2.2.2.2.1.1<=B:=h.e.1.1.1;have:=J4 (l:=x1.2.2.2.2.1.1);have:J0 x1.2.2.2.2.1.1=_:=Jm h.e.1.1;refine Ja (τ:=Int) (λq=>(q,x1)) (λq=>(Ty.fit 0 0 (.i .i64) q/\0<=q/\(q<=J0 x1.2.2.2.2.1.1\/q<=0))) (λq=>J0 x1.2.2.2.2.1.1-q) ?_ 0 rfl ?_
      ·rintro n ⟨E,U,R⟩;unfold Jhv
       try dsimp only
       have:=J1.1 E;refine .lt (λH=>?_) λH=>?_
       ·refine .bind (Jg h.e.1.1) λy9 O=>.ge (λr=>?_) λr=>?_
        ·exact .some trivial
        ·have:=Jf n 1;exact .some ⟨J2 .i64 n 1,rfl,⟨J7,om,om⟩,om,om⟩
       ·refine .inr ?_;have:J0 x1.2.2.2.2.1.2<=B:=h.e.1.2.1;have:=J4 (l:=x1.2.2.2.2.1.2);have:J0 x1.2.2.2.2.1.2=_:=Jm h.e.1.2;refine Ja (τ:=Int) (λq=>(q,x1)) (λq=>(Ty.fit 0 0 (.i .i64) q/\0<=q/\(q<=J0 x1.2.2.2.2.1.2\/q<=0))) (λq=>J0 x1.2.2.2.2.1.2-q) ?_ 0 rfl ?_
        ·rintro j ⟨I,Q,M⟩;unfold JgS
         try dsimp only
         have:=J1.1 I;refine .lt (λG=>?_) λG=>?_
         ·refine .bind (Jg h.e.1.2) λY W=>.ge (λC=>?_) λC=>?_
          ·exact .some trivial
          ·have:=Jf j 1;exact .some ⟨J2 .i64 j 1,rfl,⟨J7,om,om⟩,om,om⟩
         ·exact .some trivial
        ·try dsimp only
         exact⟨fk0,oo,oo⟩
      ·try dsimp only
       exact⟨fk0,oo,oo⟩
    ·try dsimp only
     exact⟨fk0,oo,oo⟩
  ·try dsimp only
   exact⟨fk0,oo,oo⟩
section
variable {B S:Int}
def KOk(x:J6):Prop:=J0f x.2.2.1=some true/\J0g x.2.2.2.1=some true/\J1s x.2.2.2.2.1=some true/\J12 x.2.2.2.2.2.1=some true/\J1H x.2.2.2.2.2.2.1=some true/\J1N (x.2.2.2.2.2.2.2,x.1)=some true/\1<=x.1/\x.1<=64/\1<=x.2.1/\x.2.1<=1073741825/\J0 x.2.2.2.2.2.2.1=x.1
theorem JBW{x:J6}(e:J4S x=some true):KOk x:=by
 have h:Par (J4S x) λy=>y=true->KOk x:=by unfold J4S;refine .ge (λr=>.le (λv=>.ge (λw=>.le (λC=>.bind λa ha=>.ite (λo=>.bind λb hb=>.ite (λj=>.bind λc hc=>.ite (λk=>.bind λd hd=>.ite (λB=>.bind λf hf=>.ite (λz=>.eq (λA=>.bind λg n=>.some λq=>?_) λ_=>.some nofun) λ_=>.some nofun) λ_=>.some nofun) λ_=>.some nofun) λ_=>.some nofun) λ_=>.some nofun) λ_=>.some nofun) λ_=>.some nofun) λ_=>.some nofun) λ_=>.some nofun;subst o j k B z q;exact⟨ha,hb,hc,hd,hf,n,r,v,w,C,A⟩
 exact h _ e rfl
theorem J4M{x:J6}(e:JM x=some true):KOk x:=by
 have g:Par (JM x) λy=>y=true->KOk x:=by unfold JM;refine .bind λa ha=>.not (λ_=>.some nofun) λc=>?_;subst c;exact λ_ _ _=>JBW ha
 exact g _ e rfl
theorem KOk.fit{x:J6}(k:KOk x)(h:Ty.fit B S J3 x)(A:BC B S 0 0:=by omega):Ty.fit 4096 8192 J3 x:=by obtain⟨h1,h2,h3,h4,h5,w,n,r⟩:=h;obtain⟨g,y,j,z,o,v,e⟩:=k;refine⟨h1,h2,(J1Y h3 g rfl).2,(J2H h4 y rfl).2.u,(J3X h5 j rfl).2.u,(J2F w z rfl).2.u,(J4N n o rfl).2.u,?_,λa ha=>r.2 a ha⟩;have q:=(JqR v e.1 e.2.1).1;show J0 x.2.2.2.2.2.2.2<=4096;omega
theorem J1r{x:J6}{y:Bool}(h:Ty.fit B S J3 x)(e:JM x=some y)(c:y=true)(C:BC B S 0 0:=by omega):(1<=x.1/\x.1<=64/\J0 x.2.2.2.2.2.2.1=x.1/\1<=x.2.1/\x.2.1<=1073741825/\1<=x.2.2.1.1/\x.2.2.1.1<=1099511627776/\J0 x.2.2.1.2.1<=4096/\x.2.2.1.1-1<=x.2.2.1.2.2/\x.2.2.1.2.2<=x.2.2.1.1+J0 x.2.2.1.2.1-1/\1<=x.2.2.2.1.1/\x.2.2.2.1.1<=64/\J0 x.2.2.2.1.2.1<=x.2.2.2.1.1/\0<=x.2.2.2.1.2.2/\(x.2.2.2.1.2.2<J0 x.2.2.2.1.2.1\/x.2.2.2.1.2.2=0))/\Ty.fit 4096 8192 J3 x:=by subst c;have k:=J4M e;obtain⟨n,A,D,G,E,F,v,q,w,g,j⟩:=id k;obtain⟨a1,a2,a3,a4,a5⟩:=(J1Y h.c.1 n rfl).1;obtain⟨b1,b2,r,z,o⟩:=(J2H h.d.1 A rfl).1;exact⟨⟨v,q,j,w,g,a1,a2,a3,a4,a5,b1,b2,r,z,o⟩,k.fit h⟩
end
theorem JCh{B S:Int}{x1:J6}(h:Ty.fit B S J3 x1)(v:BG B S:=by omega):Tot (JaH x1) λy=>Ty.fit 8193 8192 Jv8 y:=by
 unfold JaH;refine .bind ((J1i h).eqn) λx h1=>.not (λn=>?_) λn=>?_
 ·exact .some (⟨fzr,fk0,fkn 15⟩)
 ·have v3:=J1r h h1.2 n;have j:Ty.fit 4096 8192 J3 x1:=v3.2;refine .gt (λo=>?_) λo=>?_
  ·exact .some (⟨fzr,fk0,fkn 21⟩)
  ·have q:Ty.fit 16384 1073741824 tq2 (x1.2.2.2.2.2.1,x1.2.1):=⟨j.g.1.u,j.2.1⟩;refine .bind (JmD q) λw k=>.ne (λr=>?_) λr=>?_
   ·exact .some (⟨fzr,fk0,k.2⟩)
   ·exact .some (⟨⟨j.1,J7,j.c.1.u,j.d.1.u,j.e.1.u,k.1.u,j.h.u⟩,J0Y,fk0⟩)
theorem JBI{B S:Int}{x1:Jx}(h:Ty.fit B S Jp x1)(g:BG B S:=by omega):Tot (Jan x1) λy=>Ty.fit B S JL3 y:=by
 unfold Jan;refine .bind (JCh h.1) λj h1=>.ne (λe=>?_) λe=>?_
 ·exact .some (⟨⟨fzr,Jb,fk0,Jb,trivial,Jb⟩,fk0,h1.c⟩)
 ·exact .some (⟨⟨h1.1.u,h.2⟩,h1.2.1,fk0⟩)
theorem J2w{B S:Int}{x1:Js}(h:Ty.fit B S Jh x1)(g:BS B S 0 0:=by omega):Tot (J07 x1) λy=>Ty.fit 0 0 .b y:=by
 unfold J07;refine .eqf (λe=>?_) λe=>?_
 ·exact .some trivial
 ·exact .some trivial
theorem J9F{B S:Int}{x1:J04×Js}(h:Ty.fit B S JE2 x1)(F:BG B S:=by omega):Tot (J1p x1) λy=>Ty.fit 4097 8192 (.pr JS JY) y/\(y.2.2=0->J0 y.1.2.1=J0 x1.1.2.1+1/\J0 x1.1.2.1<=4095/\0<=x1.2.2.2.2.2.2.2.1.1/\x1.2.2.2.2.2.2.2.1.1<64/\0<=x1.2.2.2.2.2.2.2.1.2.1/\x1.2.2.2.2.2.2.2.1.2.1<16):=by
 unfold J1p;refine .bind ((J2k h.1).eqn) λI h1=>.not (λr=>?_) λr=>?_
 ·have:J0 x1.1.2.1<=B:=h.1.2.1.1;exact .some ⟨(⟨fzr,fk0,fkn 26⟩),om⟩
 ·have D:=J1Y h.1 h1.2 r;have:=J4 (l:=x1.1.2.1);have:J0 x1.1.2.1=_:=Jm h.1.2.1;have e:Ty.fit 4096 8192 JS x1.1:=D.2;refine .eqf (λw=>?_) λw=>?_
  ·refine .bind (J72 e om om om) λG q=>?_;have:=J1.1 q.1;refine .eq (λA=>?_) λA=>?_
   ·have:=J1.1 h.2.z.2.2.2.2.2.2.1.1;exact .some ⟨(⟨fzr,fk0,fkn 21⟩),om⟩
   ·refine .bind (J72 e om om om) λg E=>.bind ((J3R (B:=0) (S:=S) (x1:=(J2 .i64 g 1,x1.2.2)) (⟨J7,h.2.z.2⟩)).eqn) λH v=>.not (λo=>?_) λo=>?_
    ·have:=J1.1 h.2.z.2.2.2.2.2.2.1.1;exact .some ⟨(⟨fzr,fk0,fkn 12⟩),om⟩
    ·have k:=J35 (x:=(J2 .i64 g 1,x1.2.2)) (⟨J7,h.2.z.2⟩) v.2 o;have:=Jf g 1;have:=J1.1 h.2.z.2.2.2.2.2.2.1.1;have:=J1.1 h.2.z.2.2.2.2.2.2.1.2.1;have:1<=(J2 .i64 g 1)/\(J2 .i64 g 1)<=1099511627776/\0<=x1.2.2.2.1/\x1.2.2.2.1<=1073741824/\0<=x1.2.2.2.2.1/\x1.2.2.2.2.1<(J2 .i64 g 1)/\0<=x1.2.2.2.2.2.1/\x1.2.2.2.2.2.1<(J2 .i64 g 1)/\0<=x1.2.2.2.2.2.2.1/\x1.2.2.2.2.2.2.1<(J2 .i64 g 1)/\0<=x1.2.2.2.2.2.2.2.1.1/\x1.2.2.2.2.2.2.2.1.1<64/\0<=x1.2.2.2.2.2.2.2.1.2.1/\x1.2.2.2.2.2.2.2.1.2.1<16/\J0 x1.2.2.2.2.2.2.2.1.2.2.1.2<=12/\J0 x1.2.2.2.2.2.2.2.1.2.2.2.2<=12/\J0 x1.2.2.2.2.2.2.2.2<=8192:=k.1;have j:Ty.fit 0 8192 Jh (J2 .i64 g 1,x1.2.2):=k.2;refine .clo e.2.1 oo (by decide) ?_;refine .bind (J0K (B:=4097) (Bl:=4096) (Bm:=1) (S:=8192) (J0 x1.1.2.1) 1 e.2.1 (J0n (B:=1) (S:=8192) (t:=Jh) oo (j.u))) λC n=>?_;have:J0 C=_:=Jm n.1;exact .some ⟨(⟨⟨e.1,n.1,e.c⟩,j.1,fk0⟩),om⟩
  ·have:=J1.1 h.2.z.2.2.2.2.2.2.1.1;exact .some ⟨(⟨fzr,fk0,fkn 21⟩),om⟩
theorem J4l{B S:Int}{x1:J8w}(h:Ty.fit B S tq9 x1)(q:BC B S 0 0:=by omega):Tot (J0N x1) λy=>Ty.fit 0 8192 (.pr Jh (.i .i64)) y:=by
 unfold J0N;refine .bind ((J2k h.1).eqn) λv h1=>.not (λg=>?_) λg=>?_
 ·exact .some (⟨⟨fk0,fk0,fk0,fk0,fk0,fk0,⟨fk0,fk0,⟨trivial,Jd⟩,trivial,Jd⟩,Jd⟩,fkn 26⟩)
 ·have v3:=J1Y h.1 h1.2 g;have:=J4 (l:=x1.1.2.1);have:J0 x1.1.2.1=_:=Jm h.1.2.1;have e:Ty.fit 4096 8192 JS x1.1:=v3.2;refine .ltf (λj=>?_) λj=>?_
  ·refine .bind (J72 e om om om) λr o=>.gt (λk=>?_) λk=>?_
   ·exact .some (⟨⟨fk0,fk0,fk0,fk0,fk0,fk0,⟨fk0,fk0,⟨trivial,Jd⟩,trivial,Jd⟩,Jd⟩,fkn 14⟩)
   ·have:=J0y x1.2 x1.1.1;refine .bind (Jg e.2.1) λw n=>.some (⟨n.1.z,fk0⟩)
  ·exact .some (⟨⟨fk0,fk0,fk0,fk0,fk0,fk0,⟨fk0,fk0,⟨trivial,Jd⟩,trivial,Jd⟩,Jd⟩,fkn 14⟩)
theorem JJ3{B S:Int}{x1:(List T_api_Row)×Int×T_api_Row}(h:Ty.fit B S (.pr (.l J9) (.pr (.i .i64) J9)) x1)(p0:0<=x1.2.1)(g:x1.2.1<J0 x1.1)(e:BS B S 0 0:=by omega)(k:B<=34359738368:=by omega):Tot (Jdf x1) λy=>Ty.fit B S (.l J9) y/\(J0 y=J0 x1.1):=by unfold Jdf;have:J0 x1.1=_:=Jm h.1;refine .clo h.1 oo (by decide) ?_;refine .bind (J6p (l:=x1.1)) λ_ _=>.bind (JeQ h.1) λn j=>?_;have:J0 (J0w x1.1 (Int.toNat x1.2.1) x1.2.2)=J0 x1.1:=J6L;exact .some ⟨(J4E (t:=J9) (i:=Int.toNat x1.2.1) (x:=x1.2.2) h.1 h.c),om⟩
theorem J5o{B S:Int}{x1:JKu}(h:Ty.fit B S Jzg x1)(E:BG B S:=by omega):Tot (J31 x1) λy=>Ty.fit 64 0 JxW y:=by
 unfold J31;refine .bind ((J5Y h.1).eqn) λH h1=>.not (λr=>?_) λr=>?_
 ·exact .some (⟨Jb,fkn 28⟩)
 ·have v3:=J4N h.1 h1.2 r;have:J0 x1.1=_:=Jm h.1;have n:Ty.fit 64 0 (.l J9) x1.1:=v3.2;refine .bind ((J3R (B:=0) (S:=S) (x1:=x1.2) h.2.z).eqn) λF D=>.not (λj=>?_) λj=>?_
  ·exact .some (⟨Jb,fkn 12⟩)
  ·have A:=J35 (x:=x1.2) h.2.z D.2 j;have k:Ty.fit 0 8192 Jh x1.2:=A.2;refine .ne (λv=>?_) λv=>?_
   ·exact .some (⟨n,fk0⟩)
   ·refine .ge (λo=>?_) λo=>?_
    ·exact .some (⟨Jb,fkn 1⟩)
    ·refine .bind (Jg n) λG e=>.bind (JJ3 (B:=64) (S:=0) (⟨n,k.h.1.1,J4w e.1.1 k.g.1,e.1.2⟩) om om) λC w=>?_;have q:Ty.fit 64 0 (.l J9) C:=w.1.u;exact .some (⟨q,fk0⟩)
theorem J2X{B S:Int}{x1:J2x}(h:Ty.fit B S tq2 x1)(g:BS B S 0 0:=by omega)(j:B<=9223372036854775807:=by omega):Tot (J0R x1) λy=>Ty.fit 0 0 (.i .i64) y/\(-1<=y/\y<J0 x1.1):=by unfold J0R;refine .bind (Jbs (B:=B) (S:=S) (h)) λe h1=>?_;have: -1<=e/\e<J0 x1.1:=h1.2;exact .some ⟨h1.1,om⟩
theorem JcS{B S:Int}{x1:J2x}(h:Ty.fit B S tq2 x1)(A:BH B S:=by omega)(H:B<=34359738368:=by omega):Tot (J5k x1) λy=>Ty.fit B S (.l Jl) y:=by
 unfold J5k;have:J0 x1.1<=B:=h.1.1;have:=J4 (l:=x1.1);have:J0 x1.1=_:=Jm h.1;refine Ja (τ:=Int×(List Jq)) (λq=>(x1.1,x1.2,q.1,q.2)) (λq=>(Ty.fit 0 0 (.i .i64) q.1/\0<=q.1/\(q.1<=J0 x1.1\/q.1<=0))/\(Ty.fit B S (.l Jl) q.2/\J0 q.2<=1*q.1+0)) (λq=>J0 x1.1-q.1) ?_ (0,[]) rfl ?_
 ·rintro⟨g,e⟩ n;dsimp only at n;obtain⟨⟨x,C,G⟩,j,D⟩:=n;unfold Jgc
  try dsimp only
  have:=J1.1 x;refine .lt (λw=>?_) λw=>?_
  ·refine .bind (Jg h.1) λE z=>.ne (λo=>?_) λo=>?_
   ·refine .bind (Jg h.1) λF v=>?_;have:J0 e<=B:=j.1;have:J0 e=_:=Jm j;refine .bind (J0K (B:=B) (Bl:=B) (Bm:=B) (S:=S) (J0 e) 1 j (J0n (B:=B) (S:=S) (t:=Jl) oo v.1)) λr k=>?_;have:=Jf g 1;have:J0 r=_:=Jm k.1;exact .some ⟨(J2 .i64 g 1,r),rfl,⟨⟨J7,om,om⟩,k.1,om⟩,om,om⟩
   ·have:=Jf g 1;have:J0 e=_:=Jm j;exact .some ⟨(J2 .i64 g 1,e),rfl,⟨⟨J7,om,om⟩,j,om⟩,om,om⟩
  ·exact .some j
 ·have:J0 ([]:List Jq)=0:=rfl
  try dsimp only
  exact⟨⟨fk0,oo,oo⟩,Jb,oo⟩
theorem Jaf{B S:Int}{x1:(List Jq)×Int×Jq}(h:Ty.fit B S (.pr (.l Jl) (.pr (.i .i64) Jl)) x1)(p0:0<=x1.2.1)(g:x1.2.1<J0 x1.1)(e:BS B S 0 0:=by omega)(k:B<=34359738368:=by omega):Tot (J2Z x1) λy=>Ty.fit B S (.l Jl) y/\(J0 y=J0 x1.1):=by unfold J2Z;have:J0 x1.1=_:=Jm h.1;refine .clo h.1 oo (by decide) ?_;refine .bind (J6p (l:=x1.1)) λ_ _=>.bind (JeQ h.1) λn j=>?_;have:J0 (J0w x1.1 (Int.toNat x1.2.1) x1.2.2)=J0 x1.1:=J6L;exact .some ⟨(J4E (t:=Jl) (i:=Int.toNat x1.2.1) (x:=x1.2.2) h.1 h.c),om⟩
theorem J9z{B S:Int}{x1:Jq}(h:Ty.fit B S Jl x1)(n:BS B S 0 0:=by omega)(q:B<=9223372036854775807:=by omega):Tot (J2o x1) λy=>Ty.fit B S Jl y:=by
 unfold J2o;refine .eq (λk=>?_) λk=>?_
 ·have:J0 x1.2.2.2.2.1<=B:=h.e.1.1;have:=J4 (l:=x1.2.2.2.2.1);refine .eqf (λg=>?_) λg=>?_
  ·have:=J0y (J0 x1.2.2.2.2.1) 1;refine .bind (Jg h.e.1) λr o=>.le (λj=>?_) λj=>?_
   ·exact .some (⟨h.1,fkn 1,h.c.1,fk0,h.e⟩)
   ·exact .some h
  ·exact .some (⟨h.1,fkn 1,h.c.1,fk0,h.e⟩)
 ·exact .some h
theorem J5F{B S:Int}{x1:(List Jq)×Js}(h:Ty.fit B S Jz7 x1)(aq:BG B S:=by omega):Tot (J0G x1) λy=>Ty.fit 16384 1073741824 tq2 y:=by
 unfold J0G;refine .bind ((J3U h.1).eqn) λy2 h1=>.not (λV=>?_) λV=>?_
 ·exact .some (⟨Jb,fkn 15⟩)
 ·have v3:=J2F h.1 h1.2 V;have:J0 x1.1=_:=Jm h.1;have w:Ty.fit 4096 0 (.l Jl) x1.1:=v3.2;refine .bind ((J3R (B:=0) (S:=S) (x1:=x1.2) h.2.z).eqn) λy3 h9=>.not (λC=>?_) λC=>?_
  ·exact .some (⟨Jb,fkn 12⟩)
  ·have aa:=J35 (x:=x1.2) h.2.z h9.2 C;have o:Ty.fit 0 8192 Jh x1.2:=aa.2;refine .eq (λa6=>?_) λa6=>?_
   ·exact .some (⟨w.u,fk0⟩)
   ·refine .bind (Jbs (B:=4096) (S:=0) (⟨w,o.c.1⟩)) λF v=>?_;have:=J1.1 v.1;have: -1<=F/\F<J0 x1.1:=v.2;refine .lt (λI=>?_) λI=>?_
    ·exact .some (⟨Jb,fkn 16⟩)
    ·refine .bind (Jg w) λr j=>.ne (λa2=>?_) λa2=>?_
     ·exact .some (⟨Jb,fkn 13⟩)
     ·have:=J1.1 o.2.1;refine .eq (λK=>?_) λK=>?_
      ·refine .clo j.1.e.1 oo (by decide) ?_;have:J0 r.2.2.2.2.1<=4096:=j.1.e.1.1;have:=J4 (l:=r.2.2.2.2.1);refine .bind (J0K (B:=4097) (Bl:=4096) (Bm:=1) (S:=0) (J0 r.2.2.2.2.1) 1 j.1.e.1 (J0n (B:=1) (S:=0) (t:=(.i .i64)) oo o.1)) λy7 af=>.bind (J9z (B:=4097) (S:=0) (⟨j.1.1,j.1.2.1,o.1,j.1.d.1,af.1,j.1.g.u⟩)) λy8 Z=>?_;have a4:Ty.fit 4097 0 Jl y8:=Z.u;refine .bind (Jaf (B:=4097) (S:=0) (⟨w.u,v.1,a4⟩) om om) λy9 a8=>?_;have G:Ty.fit 4097 0 (.l Jl) y9:=a8.1.u;exact .some (⟨G.u,fk0⟩)
      ·refine .eq (λY=>?_) λY=>?_
       ·have:J0 r.2.2.2.2.1<=4096:=j.1.e.1.1;have:=J4 (l:=r.2.2.2.2.1);refine Ja (τ:=JDi) (λq=>(x1.1,F,q.1,x1.2,(r.1,r.2.1,x1.2.1,r.2.2.2),q.2)) (λq=>(Ty.fit 0 0 (.i .i64) q.1/\0<=q.1/\(q.1<=J0 r.2.2.2.2.1\/q.1<=0))/\(Ty.fit 4096 0 (.l (.i .i64)) q.2/\J0 q.2<=1*q.1+0)) (λq=>J0 r.2.2.2.2.1-q.1) ?_ (0,[]) rfl ?_
        ·rintro⟨k,n⟩ D;dsimp only at D;obtain⟨⟨U,al,ap⟩,A,ak⟩:=D;unfold JkR
         try dsimp only
         have:=J1.1 U;refine .lt (λW=>?_) λW=>?_
         ·refine .bind (Jg j.1.e.1) λao an=>.ne (λab=>?_) λab=>?_
          ·refine .bind (Jg j.1.e.1) λam ac=>?_;have:J0 n<=4096:=A.1;have:=J4 (l:=n);refine .bind (J0K (B:=4096) (Bl:=4096) (Bm:=1) (S:=0) (J0 n) 1 A (J0n (B:=1) (S:=0) (t:=(.i .i64)) oo ac.1)) λO a9=>?_;have:=Jf k 1;exact .some ⟨(J2 .i64 k 1,O),rfl,⟨⟨J7,om,om⟩,a9.1,om⟩,om,om⟩
          ·have:=Jf k 1;exact .some ⟨(J2 .i64 k 1,n),rfl,⟨⟨J7,om,om⟩,A,om⟩,om,om⟩
         ·refine .inr ?_;refine .eq (λL=>?_) λL=>?_
          ·exact .some (⟨Jb,fkn 13⟩)
          ·refine .bind (J9z (B:=4096) (S:=0) (⟨j.1.1,j.1.2.1,o.1,j.1.d.1,A,j.1.g⟩)) λa3 a0=>?_;have H:Ty.fit 4096 0 Jl a3:=a0.u;refine .bind (Jaf (B:=4096) (S:=0) (⟨w,v.1,H⟩) om om) λP ae=>?_;have ad:Ty.fit 4096 0 (.l Jl) P:=ae.1.u;exact .some (⟨ad.u,fk0⟩)
        ·have:J0 ([]:List Int)=0:=rfl
         try dsimp only
         exact⟨⟨fk0,oo,oo⟩,Jb,oo⟩
       ·refine .eq (λQ=>?_) λQ=>?_
        ·refine .bind (J9z (B:=4096) (S:=0) (⟨j.1.1,fkn 3,o.1,fk0,j.1.e.1,Jb⟩)) λa5 a7=>?_;have J:Ty.fit 4096 0 Jl a5:=a7.u;refine .bind (Jaf (B:=4096) (S:=0) (⟨w,v.1,J⟩) om om) λR M=>?_;have N:Ty.fit 4096 0 (.l Jl) R:=M.1.u;exact .some (⟨N.u,fk0⟩)
        ·have ag:Ty.fit 16384 1073741824 tq2 (x1.1,x1.2.2.2.1):=⟨w.u,o.c.1⟩;refine .bind (JcS ag) λT a1=>?_;have E:Ty.fit 16384 1073741824 (.l Jl) T:=a1.u;exact .some (⟨E,fk0⟩)
theorem J5B{B S:Int}{x1:J4A}(h:Ty.fit B S tq6 x1)(o:BS B S 0 0:=by omega)(w:B<=9223372036854775807:=by omega):Tot (J1M x1) λy=>Ty.fit 0 0 (.i .i64) y/\(-1<=y/\y<J0 x1.1.2.1):=by
 unfold J1M;have:J0 x1.1.2.1<=B:=h.1.2.1.1;have:=J4 (l:=x1.1.2.1);have:J0 x1.1.2.1=_:=Jm h.1.2.1;refine Ja (τ:=Int) (λq=>(x1.2,q,x1.1)) (λq=>(Ty.fit 0 0 (.i .i64) q/\0<=q/\(q<=J0 x1.1.2.1\/q<=0))) (λq=>J0 x1.1.2.1-q) ?_ 0 rfl ?_
 ·rintro e ⟨g,x,v⟩;unfold J9g
  try dsimp only
  have:=J1.1 g;refine .lt (λk=>?_) λk=>?_
  ·refine .bind (Jg h.1.2.1) λr n=>.eq (λj=>?_) λj=>?_
   ·exact .some ⟨g,om⟩
   ·have:=Jf e 1;exact .some ⟨J2 .i64 e 1,rfl,⟨J7,om,om⟩,om,om⟩
  ·exact .some ⟨(fkn (-1)),om⟩
 ·try dsimp only
  exact⟨fk0,oo,oo⟩
theorem J5v{B S:Int}{x1:J4A}(h:Ty.fit B S tq6 x1)(o:BC B S 0 0:=by omega):Tot (J1v x1) λy=>Ty.fit 0 0 (.i .i64) y/\(-1<=y/\y<J0 x1.1.2.1):=by
 unfold J1v;refine .bind ((J3S h.1).eqn) λq h1=>.not (λg=>?_) λg=>?_
 ·have:J0 x1.1.2.1<=B:=h.1.2.1.1;have:=J4 (l:=x1.1.2.1);have:J0 x1.1.2.1=_:=Jm h.1.2.1;exact .some ⟨(fkn (-1)),om⟩
 ·have n:=J2H h.1 h1.2 g;have j:Ty.fit 64 12 JE x1.1:=n.2;refine .bind (J5B (B:=64) (S:=12) (⟨j,h.2⟩)) λk e=>?_;have: -1<=k/\k<J0 x1.1.2.1:=e.2;exact .some ⟨e.1,om⟩
theorem Jai{B S:Int}{x1:J4A}(h:Ty.fit B S tq6 x1)(k:BC B S 0 0:=by omega):Tot (J32 x1) λy=>Ty.fit 0 S JEa y:=by
 unfold J32;refine .bind ((J5v (B:=B) (S:=S) (x1:=(x1.1,x1.2)) (h)).eqn) λe h1=>?_;have:=J1.1 h1.1.1;have:J0 x1.1.2.1=_:=Jm h.1.2.1;have: -1<=e/\e<J0 x1.1.2.1:=h1.1.2;refine .lt (λj=>?_) λj=>?_
 ·exact .some (⟨⟨fk0,fk0,JC oo oo (.ar 16 Jj)⟩,trivial⟩)
 ·refine .bind (Jg h.1.2.1) λn g=>.some (⟨g.1.z.1,trivial⟩)
theorem J8N{B S:Int}{x1:J1l}(h:Ty.fit B S tq1 x1)(z:BG B S:=by omega):Tot (J4q x1) λy=>Ty.fit 0 0 (.i .i64) y:=by
 unfold J4q;refine .bind ((J1i h.1).eqn) λD h1=>.nof (λn=>?_) λn=>?_
 ·have v3:=J1r h.1 h1.2 n;have:J0 x1.1.2.2.2.2.2.2.1=_:=Jm h.1.h.1;have e:Ty.fit 4096 8192 J3 x1.1:=v3.2;have:=J1.1 h.2;refine .ltf (λw=>?_) λw=>?_
  ·refine .ge (λv=>?_) λv=>?_
   ·exact .some fk0
   ·refine .bind (Jai (B:=4096) (S:=8192) (⟨e.d.1,h.2⟩)) λx r=>?_;have j:Ty.fit 0 8192 JEa x:=r.u;refine .ite (λg=>?_) λg=>?_
    ·exact .some j.1.2.1
    ·refine .bind (Jax (B:=4096) (S:=8192) (⟨e,h.2⟩)) λC k=>.ite (λq=>?_) λq=>?_
     ·exact .some k.1.c
     ·refine .bind (Jg e.h.1) λA o=>.some o.1.1
  ·exact .some fk0
 ·exact .some fk0
theorem J5g{B S:Int}{x1:Jza}(h:Ty.fit B S JEe x1)(b1:BG B S:=by omega):Tot (J1m x1) λy=>Ty.fit 16384 1073741824 Jv8 y/\(y.2.2=0->J0 y.1.2.2.1.2.1=J0 x1.1.2.2.1.2.1+1/\J0 x1.1.2.2.1.2.1<=4095/\0<=x1.2.2.2.2.2.2.2.1.1/\x1.2.2.2.2.2.2.2.1.1<64/\0<=x1.2.2.2.2.2.2.2.1.2.1/\x1.2.2.2.2.2.2.2.1.2.1<16):=by
 unfold J1m;refine .bind ((J1i h.1).eqn) λy2 h1=>.not (λc2=>?_) λc2=>?_
 ·have:J0 x1.1.2.2.1.2.1<=B:=h.1.c.1.2.1.1;exact .some ⟨(⟨fzr,fk0,fkn 15⟩),om⟩
 ·have v8:=J1r h.1 h1.2 c2;have:=J4 (l:=x1.1.2.2.1.2.1);have:J0 x1.1.2.2.1.2.1=_:=Jm h.1.c.1.2.1;have j:Ty.fit 4096 8192 J3 x1.1:=v8.2;refine .gt (λao=>?_) λao=>?_
  ·refine .bind ((J2X (B:=4096) (S:=8192) (x1:=(x1.1.2.2.2.2.2.1,x1.2.2.2.1)) (⟨j.g.1,h.2.z.2.2.1⟩)).eqn) λy3 K=>?_;have:=J1.1 K.1.1;have:J0 x1.1.2.2.2.2.2.1=_:=Jm j.g.1;have: -1<=y3/\y3<J0 x1.1.2.2.2.2.2.1:=K.1.2;refine .lt (λap=>?_) λap=>?_
   ·have:=J1.1 h.2.z.2.2.2.2.2.2.1.1;exact .some ⟨(⟨fzr,fk0,fkn 16⟩),om⟩
   ·refine .bind (Jg j.g.1) λy4 w=>.bind (J2w (B:=0) (S:=S) (⟨h.2.z.1,h.2.z.2.1,h.2.z.2.2.1,w.1.c.1,fk0,h.2.z.2.2.2.2.2⟩)) λy5 b2=>.ite (λag=>?_) λag=>?_
    ·have ad:Ty.fit 16384 1073741824 tq1 (x1.1,x1.2.2.2.2.2.2.2.1.1):=⟨j.u,h.2.z.2.2.2.2.2.2.1.1⟩;refine .bind (J8N ad) λy6 aq=>?_;have a5:Ty.fit 16384 S JE2 (x1.1.2.2.1,x1.2.1,x1.2.2.1,x1.2.2.2.1,y4.2.2.1,y6,x1.2.2.2.2.2.2):=⟨j.c.1.u,h.2.z.1,h.2.z.2.1,h.2.z.2.2.1,w.1.c.1,aq,h.2.z.2.2.2.2.2.u⟩;refine .bind (J9F a5) λZ q=>?_;have:J0 Z.1.2.1=_:=Jm q.1.1.2.1;have:=J1.1 h.2.z.2.2.2.2.2.2.1.1;have:=J1.1 h.2.z.2.2.2.2.2.2.1.2.1;have:Z.2.2=0->J0 Z.1.2.1=J0 x1.1.2.2.1.2.1+1/\J0 x1.1.2.2.1.2.1<=4095/\0<=x1.2.2.2.2.2.2.2.1.1/\x1.2.2.2.2.2.2.2.1.1<64/\0<=x1.2.2.2.2.2.2.2.1.2.1/\x1.2.2.2.2.2.2.2.1.2.1<16:=q.2;refine .ne (λa9=>?_) λa9=>?_
     ·exact .some ⟨(⟨fzr,fk0,q.1.c⟩),om⟩
     ·refine .bind (J4l (B:=4097) (S:=8192) (⟨q.1.1,q.1.2.1⟩)) λy8 L=>?_;have a8:Ty.fit 16384 1073741824 Jz7 (x1.1.2.2.2.2.2.1,y8.1):=⟨j.g.1.u,L.1.u⟩;refine .bind (J5F a8) λy9 N=>.ne (λan=>?_) λan=>?_
      ·exact .some ⟨(⟨fzr,fk0,N.2⟩),om⟩
      ·have ae:Ty.fit 16384 1073741824 Jzg (x1.1.2.2.2.2.2.2.1,y8.1):=⟨j.h.1.u,L.1.u⟩;refine .bind (J5o ae) λb0 G=>.ne (λak=>?_) λak=>?_
       ·exact .some ⟨(⟨fzr,fk0,G.2⟩),om⟩
       ·exact .some ⟨(⟨⟨j.1,j.2.1,q.1.1.u,j.d.1.u,j.e.1.u,N.1,G.1.u,j.i.u⟩,q.1.2.1,fk0⟩),om⟩
    ·have a6:Ty.fit 16384 S JE2 (x1.1.2.2.1,x1.2.1,x1.2.2.1,x1.2.2.2.1,y4.2.2.1,0,x1.2.2.2.2.2.2):=⟨j.c.1.u,h.2.z.1,h.2.z.2.1,h.2.z.2.2.1,w.1.c.1,fk0,h.2.z.2.2.2.2.2.u⟩;refine .bind (J9F a6) λr n=>?_;have:J0 r.1.2.1=_:=Jm n.1.1.2.1;have:=J1.1 h.2.z.2.2.2.2.2.2.1.1;have:=J1.1 h.2.z.2.2.2.2.2.2.1.2.1;have:r.2.2=0->J0 r.1.2.1=J0 x1.1.2.2.1.2.1+1/\J0 x1.1.2.2.1.2.1<=4095/\0<=x1.2.2.2.2.2.2.2.1.1/\x1.2.2.2.2.2.2.2.1.1<64/\0<=x1.2.2.2.2.2.2.2.1.2.1/\x1.2.2.2.2.2.2.2.1.2.1<16:=n.2;refine .ne (λa7=>?_) λa7=>?_
     ·exact .some ⟨(⟨fzr,fk0,n.1.c⟩),om⟩
     ·refine .bind (J4l (B:=4097) (S:=8192) (⟨n.1.1,n.1.2.1⟩)) λF I=>?_;have av:Ty.fit 16384 1073741824 Jz7 (x1.1.2.2.2.2.2.1,F.1):=⟨j.g.1.u,I.1.u⟩;refine .bind (J5F av) λb8 P=>.ne (λah=>?_) λah=>?_
      ·exact .some ⟨(⟨fzr,fk0,P.2⟩),om⟩
      ·have ac:Ty.fit 16384 1073741824 Jzg (x1.1.2.2.2.2.2.2.1,F.1):=⟨j.h.1.u,I.1.u⟩;refine .bind (J5o ac) λb4 M=>.ne (λab=>?_) λab=>?_
       ·exact .some ⟨(⟨fzr,fk0,M.2⟩),om⟩
       ·exact .some ⟨(⟨⟨j.1,j.2.1,n.1.1.u,j.d.1.u,j.e.1.u,P.1,M.1.u,j.i.u⟩,n.1.2.1,fk0⟩),om⟩
  ·refine .bind (J2w (B:=0) (S:=S) (⟨h.2.z.1,h.2.z.2.1,h.2.z.2.2.1,fk0,fk0,h.2.z.2.2.2.2.2⟩)) λb6 b5=>.ite (λai=>?_) λai=>?_
   ·have aj:Ty.fit 16384 1073741824 tq1 (x1.1,x1.2.2.2.2.2.2.2.1.1):=⟨j.u,h.2.z.2.2.2.2.2.2.1.1⟩;refine .bind (J8N aj) λaw am=>?_;have au:Ty.fit 16384 S JE2 (x1.1.2.2.1,x1.2.1,x1.2.2.1,x1.2.2.2.1,0,aw,x1.2.2.2.2.2.2):=⟨j.c.1.u,h.2.z.1,h.2.z.2.1,h.2.z.2.2.1,fk0,am,h.2.z.2.2.2.2.2.u⟩;refine .bind (J9F au) λA o=>?_;have:J0 A.1.2.1=_:=Jm o.1.1.2.1;have:=J1.1 h.2.z.2.2.2.2.2.2.1.1;have:=J1.1 h.2.z.2.2.2.2.2.2.1.2.1;have:A.2.2=0->J0 A.1.2.1=J0 x1.1.2.2.1.2.1+1/\J0 x1.1.2.2.1.2.1<=4095/\0<=x1.2.2.2.2.2.2.2.1.1/\x1.2.2.2.2.2.2.2.1.1<64/\0<=x1.2.2.2.2.2.2.2.1.2.1/\x1.2.2.2.2.2.2.2.1.2.1<16:=o.2;refine .ne (λaa=>?_) λaa=>?_
    ·exact .some ⟨(⟨fzr,fk0,o.1.c⟩),om⟩
    ·refine .bind (J4l (B:=4097) (S:=8192) (⟨o.1.1,o.1.2.1⟩)) λH E=>?_;have af:Ty.fit 16384 1073741824 Jz7 (x1.1.2.2.2.2.2.1,H.1):=⟨j.g.1.u,E.1.u⟩;refine .bind (J5F af) λb7 O=>.ne (λal=>?_) λal=>?_
     ·exact .some ⟨(⟨fzr,fk0,O.2⟩),om⟩
     ·have U:Ty.fit 16384 1073741824 Jzg (x1.1.2.2.2.2.2.2.1,H.1):=⟨j.h.1.u,E.1.u⟩;refine .bind (J5o U) λba Q=>.ne (λR=>?_) λR=>?_
      ·exact .some ⟨(⟨fzr,fk0,Q.2⟩),om⟩
      ·exact .some ⟨(⟨⟨j.1,j.2.1,o.1.1.u,j.d.1.u,j.e.1.u,O.1,Q.1.u,j.i.u⟩,o.1.2.1,fk0⟩),om⟩
   ·have a1:Ty.fit 16384 S JE2 (x1.1.2.2.1,x1.2.1,x1.2.2.1,x1.2.2.2.1,0,0,x1.2.2.2.2.2.2):=⟨j.c.1.u,h.2.z.1,h.2.z.2.1,h.2.z.2.2.1,fk0,fk0,h.2.z.2.2.2.2.2.u⟩;refine .bind (J9F a1) λC k=>?_;have:J0 C.1.2.1=_:=Jm k.1.1.2.1;have:=J1.1 h.2.z.2.2.2.2.2.2.1.1;have:=J1.1 h.2.z.2.2.2.2.2.2.1.2.1;have:C.2.2=0->J0 C.1.2.1=J0 x1.1.2.2.1.2.1+1/\J0 x1.1.2.2.1.2.1<=4095/\0<=x1.2.2.2.2.2.2.2.1.1/\x1.2.2.2.2.2.2.2.1.1<64/\0<=x1.2.2.2.2.2.2.2.1.2.1/\x1.2.2.2.2.2.2.2.1.2.1<16:=k.2;refine .ne (λV=>?_) λV=>?_
    ·exact .some ⟨(⟨fzr,fk0,k.1.c⟩),om⟩
    ·refine .bind (J4l (B:=4097) (S:=8192) (⟨k.1.1,k.1.2.1⟩)) λJ D=>?_;have W:Ty.fit 16384 1073741824 Jz7 (x1.1.2.2.2.2.2.1,J.1):=⟨j.g.1.u,D.1.u⟩;refine .bind (J5F W) λb9 x=>.ne (λa0=>?_) λa0=>?_
     ·exact .some ⟨(⟨fzr,fk0,x.2⟩),om⟩
     ·have Y:Ty.fit 16384 1073741824 Jzg (x1.1.2.2.2.2.2.2.1,J.1):=⟨j.h.1.u,D.1.u⟩;refine .bind (J5o Y) λb3 v=>.ne (λT=>?_) λT=>?_
      ·exact .some ⟨(⟨fzr,fk0,v.2⟩),om⟩
      ·exact .some ⟨(⟨⟨j.1,j.2.1,k.1.1.u,j.d.1.u,j.e.1.u,x.1,v.1.u,j.i.u⟩,k.1.2.1,fk0⟩),om⟩
section
variable {B S:Int}
theorem JMC{l:List Jq}{i:Int}{x y:Jq}(hi:idx l i=some y)(hx:x.1=y.1)(id:Int):J0R (J0w l i.toNat x,id)=J0R (l,id):=by
 have e: ∀z:JyI,z.1=l-> ∀n r,J27 J22 n z=some r↔J27 J22 n (J0w l i.toNat x,z.2)=some r:=by
  intro z hz n
  induction n generalizing z with
  |zero=>intro r;simp[J27]
  |succ n ih=>
   intro r;obtain⟨g,id,k⟩:=z;dsimp only at hz;subst hz;obtain⟨C,j⟩:=J5G hi;have B:i.toNat<g.length:=(J9N.1 j).1;have step:J22 (J0w g i.toNat x,id,k)=(match J22 (g,id,k)with|none=>none|some (.inl z)=>some (.inl (J0w g i.toNat x,z.2))|some (.inr y)=>some (.inr y))/\(∀z,J22 (g,id,k)=some (.inl z)->z.1=g):=by
    unfold J22;dsimp only;rw[show J0 (J0w g i.toNat x)=J0 g from J6L];by_cases hk:ltI k (J0 g)=true
    ·rw[if_pos hk,if_pos hk];have e1:(idx (J0w g i.toNat x) k).bind (λv=>if eqI v.1 id=true then(some (.inr k):Option ((JyI)⊕Int))else some (.inl (J0w g i.toNat x,id,J2 .i64 k 1)))=(idx g k).bind (λv=>if eqI v.1 id=true then some (.inr k)else some (.inl (J0w g i.toNat x,id,J2 .i64 k 1))):=by
      unfold idx J0w;by_cases h:0<=k
      ·rw[if_pos h,if_pos h,List.getElem?_set];by_cases A:i.toNat=k.toNat
       ·rw[if_pos A,if_pos oo,<-A,j];show(if eqI x.1 id=true then _ else _)=(if eqI y.1 id=true then _ else _);rw[hx]
       ·rw[if_neg A]
      ·rw[if_neg h,if_neg h]
     rw[e1];cases hidx:idx g k with
     |none=>exact⟨rfl,λz h=>by cases h⟩
     |some w=>
      show((if eqI w.1 id=true then _ else _)=_)/\_;by_cases hw:eqI w.1 id=true
      ·refine⟨by rw[if_pos hw,JJ,if_pos hw],λz h=>?_⟩;rw[JJ,if_pos hw]at h;injection h with h;cases h
      ·refine⟨by rw[if_neg hw,JJ,if_neg hw],λz h=>?_⟩;rw[JJ,if_neg hw]at h;injection h with h;injection h with h;subst h;rfl
    ·rw[if_neg hk,if_neg hk];exact⟨rfl,λz h=>by cases h⟩
   show J27 J22 (n+1) (g,id,k)=some r↔J27 J22 (n+1) (J0w g i.toNat x,id,k)=some r;simp only[J27];rw[step.1];cases hL:J22 (g,id,k)with
   |none=>exact Iff.rfl
   |some o=>
    cases o with
    |inl z=>exact ih z (step.2 z hL) r
    |inr y=>exact Iff.rfl
 have q: ∀r,J1w (J0w l i.toNat x,id)=some r↔J1w (l,id)=some r:=by intro r;unfold J1w;rw[J2t,J2t];exact⟨fun⟨n,h⟩=>⟨n,(e (l,id,0) rfl n r).2 h⟩,fun⟨n,h⟩=>⟨n,(e (l,id,0) rfl n r).1 h⟩⟩
 have e2:J1w (J0w l i.toNat x,id)=J1w (l,id):=by
  cases h:J1w (l,id)with
  |some r=>exact(q r).2 h
  |none=>
   cases h2:J1w (J0w l i.toNat x,id)with
   |none=>rfl
   |some r=>rw[(q r).1 h2]at h;cases h
 unfold J0R
 try dsimp only
 rw[e2]
theorem Jym{x y:Jq}(e:J2o x=some y):y.1=x.1:=by
 have g:Par (J2o x) λy=>y.1=x.1:=by unfold J2o;exact .eq (λ_=>.eqf (λ_=>.bind λ_ _=>.le (λ_=>.some rfl) λ_=>.some rfl) λ_=>.some rfl) λ_=>.some rfl
 exact g _ e
theorem JI6{l r:List Jq}{i:Int}{x:Jq}(e:J2Z (l,i,x)=some r):r=J0w l i.toNat x:=by
 have g:Par (J2Z (l,i,x)) λr=>r=J0w l i.toNat x:=by
  unfold J2Z;refine .bind λa ha=>.bind λ_ _=>.bind λ_ _=>.some ?_;dsimp only at ha;unfold J3g at ha;split at ha
  ·injection ha with ha;subst ha;rfl
  ·cases ha
 exact g _ e
theorem JHH{l:List Jq}{x:Js}{y:J2x}(e:J0G (l,x)=some y)(h4:x.2.1=4)(j: ¬x.2.2.1=0)(c:y.2=0):Has y.1 x.2.2.1:=by
 have h:Par (J0G (l,x)) λy=>y.2=0->Has y.1 x.2.2.1:=by
  unfold J0G;dsimp only;refine .bind λ_ _=>.not (λ_=>.some nofun) λ_=>.bind λ_ _=>.not (λ_=>.some nofun) λ_=>.eq (λc=>absurd c j) λ_=>.bind λi hi=>.lt (λ_=>.some nofun) λk=>.bind λt g=>.ne (λ_=>.some nofun) λ_=>.eq (λc=>by omega) λ_=>.eq (λc=>by omega) λ_=>.eq (λ_=>.bind λs hs=>.bind λr hr=>.some λ_=>?_) λc=>absurd h4 c;rw[JI6 hr];have hf:J0R (l,x.2.2.1)=some i:=by unfold J0R;rw[show J1w ((l,x.2.2.1).1,(l,x.2.2.1).2)=some i from hi];rfl
  exact⟨i,(JMC g (Jym (x:=(t.1,3,x.1,0,t.2.2.2.2.1,[])) hs) _).trans hf,oo⟩
 exact h _ e c
theorem JiT{l:J04}(e:J0f l=some true):1<=l.1/\l.1<=1099511627776/\J0 l.2.1<=4096:=by
 have g:Par (J0f l) λy=>y=true->1<=l.1/\l.1<=1099511627776/\J0 l.2.1<=4096:=by unfold J0f;exact .ltf (λ_=>.gtf (λ_=>.gtf (λ_=>λ_ _ _=>by omega) λ_=>.some nofun) λ_=>.some nofun) λ_=>.some nofun
 exact g _ e rfl
theorem Jde{l:J04}{x:Js}{y:Jwh}(e:J1p (l,x)=some y)(c:y.2.2=0):J0f l=some true/\J0 l.2.1<=4095/\y=((l.1,l.2.1++[(l.1+J0 l.2.1,x.2)],l.2.2),l.1+J0 l.2.1,0)/\J0D (l.1+J0 l.2.1,x.2)=some true:=by
 have j:Par (J1p (l,x)) λy=>y.2.2=0->J0f l=some true/\J0 l.2.1<=4095/\y=((l.1,l.2.1++[(l.1+J0 l.2.1,x.2)],l.2.2),l.1+J0 l.2.1,0)/\J0D (l.1+J0 l.2.1,x.2)=some true:=by
  unfold J1p;dsimp only;refine .bind λa ha=>.not (λ_=>.some nofun) λw=>.eqf (λD=>.bind λC h3=>.eq (λ_=>.some nofun) λ_=>.bind λk h4=>.bind λb hb=>.not (λ_=>.some nofun) λA=>.bind λz h=>.bind λn g=>.some λ_=>?_) λ_=>.some nofun;subst w;subst A;have q:=JiT ha;have:=J4 (l:=l.2.1);have:=Jf l.1 (J0 l.2.1);have:=J0y (J2 .i64 l.1 (J0 l.2.1)) 1;have:=Jf (JI .i64 (J2 .i64 l.1 (J0 l.2.1)) 1) 1;have B:k=JI .i64 (J2 .i64 l.1 (J0 l.2.1)) 1:=by unfold J2n at h4;injection h4 with h4;exact h4.symm
  have o:J2 .i64 k 1=l.1+J0 l.2.1:=by rw[B];omega
  rw[o]at hb g⊢;have v:z=l.2.1:=by
   unfold J3g at h;split at h
   ·injection h with h;exact h.symm
   ·cases h
  subst v;have r:n=l.2.1++[(l.1+J0 l.2.1,x.2)]:=by
   unfold JN at g;split at g
   ·injection g with g;exact g.symm
   ·cases g
  subst r;exact⟨ha,oo,rfl,hb⟩
 exact j _ e c
theorem Jt0{l:J04}{n:Int}{y:JrU}(e:J0N (l,n)=some y):(y.2=0/\J0f l=some true/\l.1<=n/\n<l.1+J0 l.2.1/\l.2.1[(n-l.1).toNat]?=some y.1)\/(y.1.1=0/\ ¬y.2=0):=by
 have g:Par (J0N (l,n)) λy=>(y.2=0/\J0f l=some true/\l.1<=n/\n<l.1+J0 l.2.1/\l.2.1[(n-l.1).toNat]?=some y.1)\/(y.1.1=0/\ ¬y.2=0):=by
  unfold J0N;dsimp only;refine .bind λa ha=>.not (λ_=>.some (.inr ⟨rfl,by decide⟩)) λo=>.ltf (λv=>.bind λk h3=>.gt (λ_=>.some (.inr ⟨rfl,by decide⟩)) λw=>.bind λz hz=>.some ?_) λ_=>.some (.inr ⟨rfl,by decide⟩);subst o;have q:=JiT ha;have:=J4 (l:=l.2.1);have:=Jf l.1 (J0 l.2.1);have:=J0y (J2 .i64 l.1 (J0 l.2.1)) 1;have:=J0y n l.1;have x:k=JI .i64 (J2 .i64 l.1 (J0 l.2.1)) 1:=by unfold J2n at h3;injection h3 with h3;exact h3.symm
  obtain⟨r,h⟩:=J5G hz;have j:JI .i64 n l.1=n-l.1:=by omega
  rw[j]at h;exact .inl ⟨rfl,ha,oo,oo,h⟩
 exact g _ e
theorem JmY{x:Js}(e:J0D x=some true):1<=x.1/\(x.2.1=4->1<=x.2.2.1):=by
 have j:Par (J66 x) λy=>y.2=true->x.2.1=4->1<=x.2.2.1:=by unfold J66;refine .eq (λc _ _ _ _=>by omega) λ_=>.eq (λc _ _ _ _=>by omega) λ_=>.eq (λc _ _ _ _=>by omega) λ_=>.eq (λ_=>.ge (λc _ _ _ _=>c) λ_=>.some nofun) λc _ _ _ d=>absurd d c
 have g:Par (J0D x) λy=>y=true->1<=x.1/\(x.2.1=4->1<=x.2.2.1):=by unfold J0D;exact .bind λa ha=>.ite (λk=>.ite (λ_=>.ge (λh _ _ _=>⟨h,j _ ha k⟩) λ_=>.some nofun) λ_=>.some nofun) λ_=>.some nofun
 exact g _ e rfl
theorem JvS{l:List Jq}{x:Js}{y:J2x}(e:J0G (l,x)=some y)(c:y.2=0):J0D x=some true:=by
 have g:Par (J0G (l,x)) λy=>y.2=0->J0D x=some true:=by unfold J0G;dsimp only;refine .bind λ_ _=>.not (λ_=>.some nofun) λ_=>.bind λa ha=>.not (λ_=>.some nofun) λc=>?_;subst c;exact λ_ _ _=>ha
 exact g _ e c
theorem JKj{l:J04}{x:Js}{e:Jwh}{h:JrU}{k:List Jq}{j:J2x}(w:J1p (l,x)=some e)(r:e.2.2=0)(q:J0N (e.1,e.2.1)=some h)(o:J0G (k,h.1)=some j)(n:j.2=0):h.1=(l.1+J0 l.2.1,x.2):=by
 obtain⟨a1,a2,a3,a4⟩:=Jde w r;subst a3;have v:=JmY (JvS o n);rcases Jt0 q with⟨_,_,_,_,g⟩|⟨g,_⟩
 ·dsimp only at g;rw[show(l.1+J0 l.2.1-l.1).toNat=l.2.1.length by unfold J0;omega,J9O (zQ0 _)]at g;simp at g;exact g.symm
 ·omega
theorem JsU{x:Jza}{y:Jg1}(h:Ty.fit B S JEe x)(e:J1m x=some y)(c:y.2.2=0)(h4:x.2.2.1=4:=by rfl):Has y.1.2.2.2.2.2.1 x.2.2.2.1:=by
 have I:Par (J1m x) λy=>y.2.2=0->Has y.1.2.2.2.2.2.1 x.2.2.2.1:=by
  obtain⟨k,n,L,H,Q,O,r⟩:=x;dsimp only at h4;subst h4;unfold J1m;dsimp only;have E: ∀{a b:Int} {g:Jwh} {C:JrU} {o:J2x},J1p (k.2.2.1,(n,4,H,a,b,r))=some g->g.2.2=0->J0N (g.1,g.2.1)=some C->J0G (k.2.2.2.2.2.1,C.1)=some o->o.2=0->Has o.1 H:=fun{a b g C o} A z F D q=>by have G:=JKj A z F D q;have v:=JmY (Jde A z).2.2.2;have v2:=v.2 rfl;have w:=JHH D (by rw[G]) (by rw[G];show¬H=0;dsimp only at v2;omega) q;rw[G]at w;exact w
  refine .bind λ_ _=>.not (λ_=>.some nofun) λ_=>.gt (λ_=>.bind λj hj=>.lt (λ_=>.some nofun) λ_=>.bind λt P=>.bind λJ _=>.ite (λ_=>.bind λK _=>?_) λ_=>?_) λ_=>.bind λJ _=>.ite (λ_=>.bind λK _=>?_) λ_=>?_
  all_goals
   refine .bind λg A=>.ne (λc=>.some λd=>absurd d c) λz=>.bind λC F=>.bind λo D=>.ne (λc=>.some λd=>absurd d c) λq=>.bind λM _=>.ne (λc=>.some λd=>absurd d c) λN=>.some λ_=>E A z F D q
 exact I _ e c
end
theorem JW{B S:Int}{x1:JZ}(h:Ty.fit B S Jv x1)(F:BS B S 0 0:=by omega)(H:S<=4611686018427387895:=by omega):Tot (JR x1) λy=>Ty.fit 0 (S+8) .s y/\(J0 y<=J0 x1.1+8/\(1<=x1.2.2->x1.2.2<=8->J0 y=J0 x1.1+x1.2.2)):=by
 unfold JR;have s0:Ty.fit 0 S Jv x1:=h;have:=J1.1 s0.2.2;refine .ltf (λx=>?_) λx=>?_
 ·refine .gt (λz=>?_) λz=>?_
  ·have:J0 x1.1<=S:=s0.1;exact .some ⟨(s0.1.u),om⟩
  ·refine Ja (τ:=J2A) (λq=>(q.1,x1.2.1,x1.2.2,q.2)) (λq=>Ty.fit 0 (S+8) .s q.1/\Ty.fit 0 0 (.i .i64) q.2/\(0<=q.2)/\(q.2<=x1.2.2)/\(J0 q.1=J0 x1.1+q.2)) (λq=>x1.2.2-q.2) ?_ (x1.1,0) rfl ?_
   ·rintro⟨n,e⟩ j;dsimp only at j;obtain⟨r,w,G,z9,C⟩:=j;unfold Jmt
    try dsimp only
    have:=J1.1 w;have:J0 n<=(S+8):=r;have:J0 x1.1<=S:=s0.1;have:=J4 (l:=x1.1);refine .lt (λv=>?_) λv=>?_
    ·have:=cvu .u64 (J20 .i64 8 e);refine .bind (JfV (B:=0) (S:=0) (Jal) oo) λk D=>?_;have:J0 (toStr [cvI .u8 k])=J0 [cvI .u8 k]:=J4s;have:J0 [cvI .u8 k]=1:=rfl;refine .bind (J3u) λg A=>?_;have E:Ty.fit 0 (S+9) .s g:=(by omega:J0 g<=(S+9));have o:Ty.fit 0 (S+8) .s g:=(by omega:J0 g<=(S+8));have:=Jf e 1;exact .some ⟨(g,J2 .i64 e 1),rfl,⟨o,J7,om,om,om⟩,om,om⟩
    ·exact .some ⟨r,om⟩
   ·have:J0 x1.1<=S:=s0.1
    try dsimp only
    exact⟨s0.1.u,fk0,om,om,om⟩
 ·have:J0 x1.1<=S:=s0.1;exact .some ⟨(s0.1.u),om⟩
theorem JxQ{B S:Int}{x1:List T_api_Row}(h:Ty.fit B S (.l J9) x1)(U:BC B S 0 0:=by omega):Tot (J9G x1) λy=>Ty.fit 0 1544 tq7 y:=by
 unfold J9G;refine .bind ((J5Y h).eqn) λZ h1=>.not (λI=>?_) λI=>?_
 ·exact .some (⟨Jd,fkn 28⟩)
 ·have v3:=J4N h h1.2 I;have:J0 x1=_:=Jm h;have v:Ty.fit 64 0 (.l J9) x1:=v3.2;refine .bind (JW (B:=0) (S:=0) (⟨Jd,J3M v.1 oo,fkn 2⟩)) λn P=>?_;have z:Ty.fit 0 8 .s n:=P.1.u;have:J0 n<=8:=z;have:=J4 (l:=n);refine Ja (τ:=J2A) (λq=>(q.1,q.2,x1)) (λq=>(Ty.fit 0 0 (.i .i64) q.2/\0<=q.2/\(q.2<=J0 x1\/q.2<=0))/\(Ty.fit 0 1544 .s q.1/\J0 q.1<=24*q.2+J0 n)) (λq=>J0 x1-q.2) ?_ (n,0) rfl ?_
  ·rintro⟨k,r⟩ x;dsimp only at x;obtain⟨⟨E,T,R⟩,o,Q⟩:=x;unfold Jfu
   try dsimp only
   have:=J1.1 E;refine .lt (λK=>?_) λK=>?_
   ·refine .bind (Jg v) λW H=>.bind (JW (B:=0) (S:=1544) (⟨o,H.1.1,fkn 8⟩)) λj w=>?_;have O:Ty.fit 0 1552 .s j:=w.1.u;have:J0 j<=1552:=O;have:=J4 (l:=j);have:J0 k<=1544:=o;have:=J4 (l:=k);have:J0 j<=J0 k+8/\(1<=(8:Int)->(8:Int)<=8->J0 j=J0 k+(8:Int)):=w.2;have J:Ty.fit 0 1544 .s j:=(by omega:J0 j<=1544);refine .bind (Jg v) λV G=>.bind (JW (B:=0) (S:=1544) (⟨J,G.1.2.1,fkn 8⟩)) λg A=>?_;have F:Ty.fit 0 1552 .s g:=A.1.u;have:J0 g<=1552:=F;have:=J4 (l:=g);have:J0 g<=J0 j+8/\(1<=(8:Int)->(8:Int)<=8->J0 g=J0 j+(8:Int)):=A.2;have D:Ty.fit 0 1544 .s g:=(by omega:J0 g<=1544);refine .bind (Jg v) λY N=>.bind (JW (B:=0) (S:=1544) (⟨D,N.1.c,fkn 8⟩)) λe C=>?_;have L:Ty.fit 0 1552 .s e:=C.1.u;have:J0 e<=1552:=L;have:=J4 (l:=e);have:J0 e<=J0 g+8/\(1<=(8:Int)->(8:Int)<=8->J0 e=J0 g+(8:Int)):=C.2;have M:Ty.fit 0 1544 .s e:=(by omega:J0 e<=1544);have:=Jf r 1;exact .some ⟨(e,J2 .i64 r 1),rfl,⟨⟨J7,om,om⟩,M,om⟩,om,om⟩
   ·exact .some (⟨o,fk0⟩)
  ·try dsimp only
   exact⟨⟨fk0,oo,oo⟩,z.u,oo⟩
theorem Jig{B S:Int}{x1:(List UInt8)×(List Int)}(h:Ty.fit B S (.pr .s (.l (.i .i64))) x1)(C:BS B S 0 0:=by omega)(H:B<=288230376151711743:=by omega)(G:S<=2305843009213693947:=by omega):Tot (J6n x1) λy=>Ty.fit 0 (8*B+S) .s y/\(J0 y<=J0 x1.1+8*J0 x1.2):=by
 unfold J6n;have:J0 x1.2<=B:=h.2.1;have:=J4 (l:=x1.2);have:J0 x1.1<=S:=h.1.z;refine Ja (τ:=J2A) (λq=>(q.1,x1.2,q.2)) (λq=>(Ty.fit 0 0 (.i .i64) q.2/\0<=q.2/\(q.2<=J0 x1.2\/q.2<=0))/\(Ty.fit 0 (8*B+S) .s q.1/\J0 q.1<=8*q.2+J0 x1.1)) (λq=>J0 x1.2-q.2) ?_ (x1.1,0) rfl ?_
 ·rintro⟨g,j⟩ n;dsimp only at n;obtain⟨⟨A,E,D⟩,o,I⟩:=n;unfold Jei
  try dsimp only
  have:=J1.1 A;refine .lt (λx=>?_) λx=>?_
  ·refine .bind (Jg h.2) λF v=>.bind (JW (B:=0) (S:=(8*B+S)) (⟨o,v.1,fkn 8⟩)) λe k=>?_;have r:Ty.fit 0 (8*B+S+8) .s e:=k.1.u;have:J0 e<=(8*B+S+8):=r;have:J0 e<=J0 g+8/\(1<=(8:Int)->(8:Int)<=8->J0 e=J0 g+(8:Int)):=k.2;have w:Ty.fit 0 (8*B+S) .s e:=(by omega:J0 e<=(8*B+S));have:=Jf j 1;exact .some ⟨(e,J2 .i64 j 1),rfl,⟨⟨J7,om,om⟩,w,om⟩,om,om⟩
  ·have:J0 g<=(8*B+S):=o;exact .some ⟨o,om⟩
 ·try dsimp only
  exact⟨⟨fk0,oo,oo⟩,h.1.z.u,oo⟩
theorem JxY{B S:Int}{x1:List Jq}(h:Ty.fit B S (.l Jl) x1)(ag:BC B S 0 0:=by omega):Tot (J9j x1) λy=>Ty.fit 0 268632072 tq7 y:=by
 unfold J9j;refine .bind ((J3U h).eqn) λy2 h1=>.not (λY=>?_) λY=>?_
 ·exact .some (⟨Jd,fkn 15⟩)
 ·have v3:=J2F h h1.2 Y;have:=J4 (l:=x1);have:J0 x1=_:=Jm h;have h8:Ty.fit 4096 0 (.l Jl) x1:=v3.2;refine .bind (JW (B:=0) (S:=0) (⟨Jd,J3M h8.1 oo,fkn 2⟩)) λD h9=>?_;have J:Ty.fit 0 8 .s D:=h9.1.u;have:J0 D<=8:=J;have:=J4 (l:=D);refine Ja (τ:=J2A) (λq=>(x1,q.1,q.2)) (λq=>(Ty.fit 0 0 (.i .i64) q.2/\0<=q.2/\(q.2<=J0 x1\/q.2<=0))/\(Ty.fit 0 268632072 .s q.1/\J0 q.1<=65584*q.2+J0 D)) (λq=>J0 x1-q.2) ?_ (D,0) rfl ?_
  ·rintro⟨A,E⟩ M;dsimp only at M;obtain⟨⟨T,af,ae⟩,F,ad⟩:=M;unfold Jg7
   try dsimp only
   have:=J1.1 T;refine .lt (λa2=>?_) λa2=>?_
   ·refine .bind (Jg h8) λC j=>.bind (JW (B:=0) (S:=268632072) (⟨F,j.1.1,fkn 4⟩)) λx H=>?_;have ab:Ty.fit 0 268632080 .s x:=H.1.u;have:J0 x<=268632080:=ab;have:=J4 (l:=x);have:J0 A<=268632072:=F;have:=J4 (l:=A);have:J0 x<=J0 A+8/\(1<=(4:Int)->(4:Int)<=8->J0 x=J0 A+(4:Int)):=H.2;have Z:Ty.fit 0 268632072 .s x:=(by omega:J0 x<=268632072);refine .bind (JW (B:=0) (S:=268632072) (⟨Z,j.1.2.1,fkn 1⟩)) λv K=>?_;have a7:Ty.fit 0 268632080 .s v:=K.1.u;have:J0 v<=268632080:=a7;have:=J4 (l:=v);have:J0 v<=J0 x+8/\(1<=(1:Int)->(1:Int)<=8->J0 v=J0 x+(1:Int)):=K.2;have Q:Ty.fit 0 268632072 .s v:=(by omega:J0 v<=268632072);refine .bind (JW (B:=0) (S:=268632072) (⟨Q,j.1.c.1,fkn 8⟩)) λw G=>?_;have a8:Ty.fit 0 268632080 .s w:=G.1.u;have:J0 w<=268632080:=a8;have:=J4 (l:=w);have:J0 w<=J0 v+8/\(1<=(8:Int)->(8:Int)<=8->J0 w=J0 v+(8:Int)):=G.2;have a6:Ty.fit 0 268632072 .s w:=(by omega:J0 w<=268632072);refine .bind (JW (B:=0) (S:=268632072) (⟨a6,j.1.d.1,fkn 8⟩)) λz L=>?_;have a4:Ty.fit 0 268632080 .s z:=L.1.u;have:J0 z<=268632080:=a4;have:=J4 (l:=z);have:J0 z<=J0 w+8/\(1<=(8:Int)->(8:Int)<=8->J0 z=J0 w+(8:Int)):=L.2;have a5:Ty.fit 0 268632072 .s z:=(by omega:J0 z<=268632072);refine .bind (JW (B:=0) (S:=268632072) (⟨a5,J3M j.1.e.1.1 oo,fkn 2⟩)) λk I=>?_;have a9:Ty.fit 0 268632080 .s k:=I.1.u;have:J0 k<=268632080:=a9;have:=J4 (l:=k);have:J0 k<=J0 z+8/\(1<=(2:Int)->(2:Int)<=8->J0 k=J0 z+(2:Int)):=I.2;have a3:Ty.fit 0 268632072 .s k:=(by omega:J0 k<=268632072);refine .bind (Jig (B:=4096) (S:=268632072) (⟨a3.u,j.1.e.1.u⟩)) λo P=>?_;have a0:Ty.fit 0 268664840 .s o:=P.1.u;have:J0 o<=268664840:=a0;have:=J4 (l:=o);have:J0 C.2.2.2.2.1<=4096:=j.1.e.1.1;have:=J4 (l:=C.2.2.2.2.1);have:J0 o<=J0 k+8*J0 C.2.2.2.2.1:=P.2;have U:Ty.fit 0 268632072 .s o:=(by omega:J0 o<=268632072);refine .bind (JW (B:=0) (S:=268632072) (⟨U,J3M j.1.g.1 oo,fkn 1⟩)) λn O=>?_;have W:Ty.fit 0 268632080 .s n:=O.1.u;have:J0 n<=268632080:=W;have:=J4 (l:=n);have:J0 n<=J0 o+8/\(1<=(1:Int)->(1:Int)<=8->J0 n=J0 o+(1:Int)):=O.2;have V:Ty.fit 0 268632072 .s n:=(by omega:J0 n<=268632072);refine .bind (Jig (B:=4096) (S:=268632072) (⟨V.u,j.1.g.u⟩)) λr N=>?_;have aa:Ty.fit 0 268664840 .s r:=N.1.u;have:J0 r<=268664840:=aa;have:=J4 (l:=r);have:J0 C.2.2.2.2.2<=4096:=j.1.g.1;have:=J4 (l:=C.2.2.2.2.2);have:J0 r<=J0 n+8*J0 C.2.2.2.2.2:=N.2;have R:Ty.fit 0 268632072 .s r:=(by omega:J0 r<=268632072);have:=Jf E 1;exact .some ⟨(r,J2 .i64 E 1),rfl,⟨⟨J7,om,om⟩,R,om⟩,om,om⟩
   ·exact .some (⟨F,fk0⟩)
  ·try dsimp only
   exact⟨⟨fk0,oo,oo⟩,J.u,oo⟩
theorem JoE{B S:Int}{x1:J18}(h:Ty.fit B S J19 x1)(L:BG B S:=by omega):Tot (J7Z x1) λy=>Ty.fit 0 0 .b y:=by
 unfold J7Z;refine .ltf (λC=>?_) λC=>?_
 ·refine .gtf (λD=>?_) λD=>?_
  ·have:=J1.1 h.2.1;refine .ltf (λF=>?_) λF=>?_
   ·refine .gtf (λE=>?_) λE=>?_
    ·refine .bind ((J3U h.c.1).eqn) λP A=>.nof (λr=>?_) λr=>?_
     ·have v9:=J2F h.c.1 A.2 r;have:=J4 (l:=x1.2.2.1);have:J0 x1.2.2.1=_:=Jm h.c.1;have n:Ty.fit 4096 0 (.l Jl) x1.2.2.1:=v9.2;refine .bind (JdU (B:=B) (S:=S) (⟨h.d.1,h.1⟩)) λM H=>.nof (λz=>?_) λz=>?_
      ·refine .bind ((J5Y h.e).eqn) λO w=>.nof (λj=>?_) λj=>?_
       ·have I:=J4N h.e w.2 j;refine .ne (λo=>?_) λo=>?_
        ·exact .some trivial
        ·refine Ja (τ:=Int) (λq=>(q,x1)) (λq=>(Ty.fit 0 0 (.i .i64) q/\0<=q/\(q<=J0 x1.2.2.1\/q<=0))) (λq=>J0 x1.2.2.1-q) ?_ 0 rfl ?_
         ·rintro g ⟨x,G,J⟩;unfold Jhz
          try dsimp only
          have:=J1.1 x;refine .lt (λk=>?_) λk=>?_
          ·refine .bind (Jg n) λN K=>.ge (λv=>?_) λv=>?_
           ·exact .some trivial
           ·have:=Jf g 1;exact .some ⟨J2 .i64 g 1,rfl,⟨J7,om,om⟩,om,om⟩
          ·exact .some trivial
         ·try dsimp only
          exact⟨fk0,oo,oo⟩
       ·exact .some trivial
      ·exact .some trivial
     ·exact .some trivial
    ·exact .some trivial
   ·exact .some trivial
  ·exact .some trivial
 ·exact .some trivial
end Go.Am
end
section
namespace Go.Am
set_option linter.unusedVariables false
set_option maxRecDepth 20000
set_option maxHeartbeats 4000000
theorem JyQ{B S:Int}{x1:J18}(h:Ty.fit B S J19 x1)(ae:BH B S:=by omega)(hB:B<=192153584089948094:=by omega):Tot (J9c x1) λy=>Ty.fit 0 (24*B+268633648) tq7 y:=by
 unfold J9c;refine .bind (JoE h) λy2 h1=>.not (λc2=>?_) λc2=>?_
 ·exact .some (⟨Jd,fkn 24⟩)
 ·refine .bind (JxY h.c.1) λL h3=>.bind (JW (B:=0) (S:=0) (⟨Jd,h.1,fkn 2⟩)) λy4 h4=>?_;have h5:Ty.fit 0 8 .s y4:=h4.1.u;refine .bind (JW (B:=0) (S:=8) (⟨h5,h.2.1,fkn 4⟩)) λy5 h9=>?_;have M:Ty.fit 0 16 .s y5:=h9.1.u;refine .bind (JW (B:=0) (S:=16) (⟨M,J3M h3.1 oo,fkn 4⟩)) λF J=>?_;have N:Ty.fit 0 24 .s F:=J.1.u;have:J0 F<=24:=N;have:=J4 (l:=F);have:J0 L.1<=268632072:=h3.1;have:=J4 (l:=L.1);refine .bind (J3u) λG a6=>?_;have H:Ty.fit 0 268632096 .s G:=(by omega:J0 G<=268632096);refine .bind (JW (B:=0) (S:=268632096) (⟨H,J3M h.d.1.1 oo,fkn 1⟩)) λo Q=>?_;have v:Ty.fit 0 268632104 .s o:=Q.1.u;have:J0 o<=268632104:=v;have:=J4 (l:=o);have:J0 x1.2.2.2.1<=B:=h.d.1.1;have:=J4 (l:=x1.2.2.2.1);have:J0 x1.2.2.2.1=_:=Jm h.d.1;refine Ja (τ:=J2A) (λq=>(q.1,q.2,x1)) (λq=>(Ty.fit 0 0 (.i .i64) q.2/\0<=q.2/\(q.2<=J0 x1.2.2.2.1\/q.2<=0))/\(Ty.fit 0 (24*B+268632104) .s q.1/\J0 q.1<=24*q.2+J0 o)) (λq=>J0 x1.2.2.2.1-q.2) ?_ (o,0) rfl ?_
  ·rintro⟨n,r⟩ C;dsimp only at C;obtain⟨⟨a1,aa,a8⟩,w,a9⟩:=C;unfold JfM
   try dsimp only
   have:=J1.1 a1;refine .lt (λZ=>?_) λZ=>?_
   ·refine .bind (Jg h.d.1) λa7 T=>.bind (JW (B:=0) (S:=(24*B+268632104)) (⟨w,T.1.1,fkn 1⟩)) λj z=>?_;have R:Ty.fit 0 (24*B+268632112) .s j:=z.1.u;have:J0 j<=(24*B+268632112):=R;have:J0 j<=J0 n+8/\(1<=(1:Int)->(1:Int)<=8->J0 j=J0 n+(1:Int)):=z.2;have W:Ty.fit 0 (24*B+268632104) .s j:=(by omega:J0 j<=(24*B+268632104));refine .bind (Jg h.d.1) λac V=>.bind (JW (B:=0) (S:=(24*B+268632104)) (⟨W,V.1.2.1,fkn 8⟩)) λg A=>?_;have a0:Ty.fit 0 (24*B+268632112) .s g:=A.1.u;have:J0 g<=(24*B+268632112):=a0;have:J0 g<=J0 j+8/\(1<=(8:Int)->(8:Int)<=8->J0 g=J0 j+(8:Int)):=A.2;have P:Ty.fit 0 (24*B+268632104) .s g:=(by omega:J0 g<=(24*B+268632104));refine .bind (Jg h.d.1) λab I=>.bind (JW (B:=0) (S:=(24*B+268632104)) (⟨P,I.1.c,fkn 8⟩)) λk E=>?_;have K:Ty.fit 0 (24*B+268632112) .s k:=E.1.u;have:J0 k<=(24*B+268632112):=K;have:J0 k<=J0 g+8/\(1<=(8:Int)->(8:Int)<=8->J0 k=J0 g+(8:Int)):=E.2;have O:Ty.fit 0 (24*B+268632104) .s k:=(by omega:J0 k<=(24*B+268632104));have:=Jf r 1;exact .some ⟨(k,J2 .i64 r 1),rfl,⟨⟨J7,om,om⟩,O,om⟩,om,om⟩
   ·refine .inr ?_;refine .bind (JxQ h.e) λD Y=>?_;have:J0 n<=(24*B+268632104):=w;have:=J4 (l:=n);have:J0 D.1<=1544:=Y.1;have:=J4 (l:=D.1);refine .bind (J3u) λx ad=>?_;have U:Ty.fit 0 (24*B+268633648) .s x:=(by omega:J0 x<=(24*B+268633648));exact .some (⟨U,fk0⟩)
  ·try dsimp only
   exact⟨⟨fk0,oo,oo⟩,v.u,oo⟩
theorem JmA{B S:Int}{x1:J00}(h:Ty.fit B S JE x1)(L:BC B S 0 0:=by omega):Tot (J83 x1) λy=>Ty.fit 64 0 (.l J9) y:=by
 unfold J83;refine .bind ((J3S h).eqn) λP h1=>.not (λA=>?_) λA=>?_
 ·exact .some Jb
 ·have v3:=J2H h h1.2 A;have:J0 x1.2.1=_:=Jm h.2.1;have k:Ty.fit 64 12 JE x1:=v3.2;refine Ja (τ:=JgY) (λq=>(q.1,x1,q.2)) (λq=>(Ty.fit 0 0 (.i .i64) q.1/\0<=q.1/\(q.1<=64\/q.1<=0))/\(Ty.fit 64 0 (.l J9) q.2/\J0 q.2<=1*q.1+0)) (λq=>64-q.1) ?_ (0,[]) rfl ?_
  ·rintro⟨g,e⟩ o;dsimp only at o;obtain⟨⟨n,J,I⟩,j,K⟩:=o;unfold Jhs
   try dsimp only
   have:=J1.1 n;refine .lt (λw=>?_) λw=>?_
   ·refine .bind (J5B (B:=64) (S:=12) (⟨k,n⟩)) λE G=>?_;have: -1<=E/\E<J0 x1.2.1:=G.2;refine .ge (λF=>?_) λF=>?_
    ·refine .bind (Jg k.2.1) λN H=>.ite (λD=>?_) λD=>?_
     ·refine .bind (Jg k.2.1) λO C=>.bind (Jg k.2.1) λM v=>?_;have:J0 e<=64:=j.1;have:=J4 (l:=e);have:J0 e=_:=Jm j;refine .bind (J0K (B:=64) (Bl:=64) (Bm:=1) (S:=0) (J0 e) 1 j (J0n (B:=1) (S:=0) (t:=J9) oo (⟨n,C.1.z.2.2.1,v.1.z.1.2.1⟩))) λx r=>?_;have:=Jf g 1;have:J0 x=_:=Jm r.1;exact .some ⟨(J2 .i64 g 1,x),rfl,⟨⟨J7,om,om⟩,r.1,om⟩,om,om⟩
     ·have:=Jf g 1;have:J0 e=_:=Jm j;exact .some ⟨(J2 .i64 g 1,e),rfl,⟨⟨J7,om,om⟩,j,om⟩,om,om⟩
    ·have:=Jf g 1;have:J0 e=_:=Jm j;exact .some ⟨(J2 .i64 g 1,e),rfl,⟨⟨J7,om,om⟩,j,om⟩,om,om⟩
   ·exact .some j
  ·have:J0 ([]:List T_api_Row)=0:=rfl
   try dsimp only
   exact⟨⟨fk0,oo,oo⟩,Jb,oo⟩
theorem JLc{B S:Int}{x1:J6}(h:Ty.fit B S J3 x1)(ac:BG B S:=by omega):Tot (Jf0 x1) λy=>Ty.fit 4160 8192 (.pr J19 (.i .i64)) y:=by
 unfold Jf0;refine .bind ((J1i h).eqn) λy2 h1=>.not (λY=>?_) λY=>?_
 ·exact .some (⟨fzr,fkn 15⟩)
 ·have v3:=J1r h h1.2 Y;have:J0 x1.2.2.2.2.2.2.1=_:=Jm h.h.1;have x:Ty.fit 4096 8192 J3 x1:=v3.2;refine Ja (τ:=JgY) (λq=>(q.1,x1,[],0,0,[],[],q.2,[],x1.1,x1.2.1,x1.2.2.2.2.2.1,x1.2.2.2.2.2.2.1)) (λq=>(Ty.fit 0 0 (.i .i64) q.1/\0<=q.1/\(q.1<=x1.1\/q.1<=0))/\(Ty.fit 4160 0 (.l J9) q.2/\J0 q.2<=65*q.1+0)) (λq=>x1.1-q.1) ?_ (0,[]) rfl ?_
  ·rintro⟨n,k⟩ F;dsimp only at F;obtain⟨⟨J,a4,a9⟩,z,a3⟩:=F;unfold Jpu
   try dsimp only
   have:=J1.1 J;refine .lt (λQ=>?_) λQ=>?_
   ·refine .bind (Jax (B:=4096) (S:=8192) (⟨x,J⟩)) λy4 V=>.ite (λO=>?_) λO=>?_
    ·have:J0 k<=4160:=z.1;have:=J4 (l:=k);have:J0 k=_:=Jm z;refine .bind (J0K (B:=4160) (Bl:=4160) (Bm:=1) (S:=0) (J0 k) 1 z (J0n (B:=1) (S:=0) (t:=J9) oo V.1)) λN I=>.bind (JmA x.d.1) λC E=>?_;have:J0 C<=64:=E.1;have:=J4 (l:=C);have:J0 C=_:=Jm E;have:J0 N=_:=Jm I.1;refine Ja (τ:=JgY) (λq=>(n,C,J0 C,q.1,x1,[],0,0,[],[],q.2,[],x1.1,x1.2.1,x1.2.2.2.2.2.1,x1.2.2.2.2.2.2.1)) (λq=>(Ty.fit 0 0 (.i .i64) q.1/\0<=q.1/\(q.1<=J0 C\/q.1<=0))/\(Ty.fit 4160 0 (.l J9) q.2/\J0 q.2<=1*q.1+J0 N)) (λq=>J0 C-q.1) ?_ (0,N) rfl ?_
     ·rintro⟨A,j⟩ L;dsimp only at L;obtain⟨⟨W,a7,a5⟩,w,aa⟩:=L;unfold Jqy
      try dsimp only
      have:=J1.1 W;refine .lt (λR=>?_) λR=>?_
      ·refine .bind (Jg E) λy8 a1=>.eq (λZ=>?_) λZ=>?_
       ·have:J0 j<=4160:=w.1;have:=J4 (l:=j);have:J0 j=_:=Jm w;refine .bind (J0K (B:=4160) (Bl:=4160) (Bm:=1) (S:=0) (J0 j) 1 w (J0n (B:=1) (S:=0) (t:=J9) oo a1.1)) λy9 M=>?_;have:=Jf A 1;have:J0 y9=_:=Jm M.1;exact .some ⟨(J2 .i64 A 1,y9),rfl,⟨⟨J7,om,om⟩,M.1,om⟩,om,om⟩
       ·have:=Jf A 1;have:J0 j=_:=Jm w;exact .some ⟨(J2 .i64 A 1,j),rfl,⟨⟨J7,om,om⟩,w,om⟩,om,om⟩
      ·have:=Jf n 1;have:J0 j=_:=Jm w;exact .some ⟨(J2 .i64 n 1,j),rfl,⟨⟨J7,om,om⟩,w,om⟩,om,om⟩
     ·try dsimp only
      exact⟨⟨fk0,oo,oo⟩,I.1,oo⟩
    ·refine .bind (JmA x.d.1) λr D=>?_;have:J0 r<=64:=D.1;have:=J4 (l:=r);have:J0 r=_:=Jm D;have:J0 k=_:=Jm z;refine Ja (τ:=JgY) (λq=>(n,r,J0 r,q.1,x1,[],0,0,[],[],q.2,[],x1.1,x1.2.1,x1.2.2.2.2.2.1,x1.2.2.2.2.2.2.1)) (λq=>(Ty.fit 0 0 (.i .i64) q.1/\0<=q.1/\(q.1<=J0 r\/q.1<=0))/\(Ty.fit 4160 0 (.l J9) q.2/\J0 q.2<=1*q.1+J0 k)) (λq=>J0 r-q.1) ?_ (0,k) rfl ?_
     ·rintro⟨o,e⟩ G;dsimp only at G;obtain⟨⟨a2,ad,a8⟩,v,ab⟩:=G;unfold JpQ
      try dsimp only
      have:=J1.1 a2;refine .lt (λP=>?_) λP=>?_
      ·refine .bind (Jg D) λa6 U=>.eq (λT=>?_) λT=>?_
       ·have:J0 e<=4160:=v.1;have:=J4 (l:=e);have:J0 e=_:=Jm v;refine .bind (J0K (B:=4160) (Bl:=4160) (Bm:=1) (S:=0) (J0 e) 1 v (J0n (B:=1) (S:=0) (t:=J9) oo U.1)) λH K=>?_;have:=Jf o 1;have:J0 H=_:=Jm K.1;exact .some ⟨(J2 .i64 o 1,H),rfl,⟨⟨J7,om,om⟩,K.1,om⟩,om,om⟩
       ·have:=Jf o 1;have:J0 e=_:=Jm v;exact .some ⟨(J2 .i64 o 1,e),rfl,⟨⟨J7,om,om⟩,v,om⟩,om,om⟩
      ·have:=Jf n 1;have:J0 e=_:=Jm v;exact .some ⟨(J2 .i64 n 1,e),rfl,⟨⟨J7,om,om⟩,v,om⟩,om,om⟩
     ·try dsimp only
      exact⟨⟨fk0,oo,oo⟩,z,oo⟩
   ·exact .some (⟨⟨x.1,x.2.1,x.g.1.u,z.u,x.h.1.u⟩,fk0⟩)
  ·have:J0 ([]:List T_api_Row)=0:=rfl
   try dsimp only
   exact⟨⟨fk0,oo,oo⟩,Jb,oo⟩
theorem JEz{B S:Int}{x1:J6}(h:Ty.fit B S J3 x1)(v:BG B S:=by omega):Tot (Jcd x1) λy=>Ty.fit 16384 1073741824 Jv8 y:=by
 unfold Jcd;refine .bind (JLc h) λr h1=>.ne (λo=>?_) λo=>?_
 ·exact .some (⟨fzr,fk0,h1.2⟩)
 ·have h5:Ty.fit 16384 1073741824 J19 r.1:=h1.1.u;refine .bind (JyQ h5) λg h4=>?_;have q:Ty.fit 0 269026864 tq7 g:=h4.u;refine .gt (λn=>?_) λn=>?_
  ·exact .some (⟨fzr,fk0,fkn 21⟩)
  ·refine .bind ((J5g (B:=B) (S:=S) (x1:=(x1,0,6,0,0,0,0,(0,0,(false,[]),false,[]),g.1)) (⟨h,fk0,fkn 6,fk0,fk0,fk0,fk0,⟨fk0,fk0,⟨trivial,Jd⟩,trivial,Jd⟩,q.1.u⟩)).eqn) λx e=>.ne (λk=>?_) λk=>?_
   ·exact .some (⟨fzr,fk0,e.1.1.c⟩)
   ·refine .bind (Jeb (B:=16384) (S:=1073741824) (⟨e.1.1.1.c.1,e.1.1.2.1⟩)) λw j=>.some (⟨⟨e.1.1.1.1,e.1.1.1.2.1,j.1.1.u,e.1.1.1.d⟩,e.1.1.2.1,fk0⟩)
theorem Jrs{B S:Int}{x1:Jx}(h:Ty.fit B S Jp x1)(g:BG B S:=by omega):Tot (J6l x1) λy=>Ty.fit B S JL3 y:=by
 unfold J6l;refine .bind (JEz h.1) λj h1=>.ne (λe=>?_) λe=>?_
 ·exact .some (⟨⟨fzr,Jb,fk0,Jb,trivial,Jb⟩,fk0,h1.c⟩)
 ·exact .some (⟨⟨h1.1.u,h.2⟩,h1.2.1,fk0⟩)
theorem JaC{B S:Int}{x1:J1l}(h:Ty.fit B S tq1 x1)(j:BG B S:=by omega):Tot (J2G x1) λy=>Ty.fit B S J3 y/\(J0 y.2.2.1.2.1=J0 x1.1.2.2.1.2.1):=by
 unfold J2G;refine .bind (Jco h.1.c.1) λk h1=>.bind (Jeb (B:=B) (S:=S) (⟨h.1.c.1,JQv h.2 h1⟩)) λe h2=>?_;have:J0 e.1.2.1=_:=Jm h2.1.1.2.1;have:J0 x1.1.2.2.1.2.1=_:=Jm h.1.c.1.2.1;have:e.2=0->J0 e.1.2.1=J0 x1.1.2.2.1.2.1:=h2.2;refine .eq (λg=>?_) λg=>?_
 ·exact .some ⟨(⟨h.1.1,h.1.2.1,h2.1.1.u,h.1.d⟩),om⟩
 ·exact .some ⟨h.1,om⟩
theorem JD2{B S:Int}{x1:J1l}(h:Ty.fit B S tq1 x1)(z:BG B S:=by omega):Tot (J4Q x1) λy=>Ty.fit 16384 1073741824 (.pr J3 tq3) y/\(y.2.2=0->J0 y.1.2.2.1.2.1=J0 x1.1.2.2.1.2.1):=by
 unfold J4Q;refine .bind ((J1i h.1).eqn) λA h1=>.not (λv=>?_) λv=>?_
 ·have:J0 x1.1.2.2.1.2.1<=B:=h.1.c.1.2.1.1;exact .some ⟨(⟨fzr,⟨fk0,fk0,JC oo oo (.ar 16 Jj)⟩,fkn 15⟩),om⟩
 ·have x:=J1r h.1 h1.2 v;have:J0 x1.1.2.2.1.2.1=_:=Jm h.1.c.1.2.1;have k:Ty.fit 4096 8192 J3 x1.1:=x.2;refine .bind (Jai (B:=4096) (S:=8192) (⟨k.d.1,h.2⟩)) λq w=>?_;have e:Ty.fit 0 8192 JEa q:=w.u;refine .not (λo=>?_) λo=>?_
  ·exact .some ⟨(⟨fzr,⟨fk0,fk0,JC oo oo (.ar 16 Jj)⟩,fkn 18⟩),om⟩
  ·have r:Ty.fit 16384 1073741824 tq1 (x1.1,q.1.2.1):=⟨k.u,e.1.2.1⟩;refine .bind (JaC r) λn g=>?_;have j:Ty.fit 16384 1073741824 J3 n:=g.1.u;have:J0 n.2.2.1.2.1=_:=Jm j.c.1.2.1;have:J0 n.2.2.1.2.1=J0 x1.1.2.2.1.2.1:=g.2;exact .some ⟨(⟨j,e.1.u,fk0⟩),om⟩
section
variable {B S:Int}
theorem JKR{x:J1l}{y:J6×Jy×Int}(h:Ty.fit B S tq1 x)(e:J4Q x=some y)(c:y.2.2=0):InP x.1.2.2.2.1 x.2:=by
 have g:Par (J4Q x) λy=>y.2.2=0->InP x.1.2.2.2.1 x.2:=by unfold J4Q;refine .bind λa ha=>.not (λ_=>.some nofun) λ_=>.bind λb hb=>.not (λ_=>.some nofun) λc=>.bind λd hd=>.some λ_=>(JiE hb).1 c
 exact g _ e c
end
theorem Jdo{B S:Int}{x1:List UInt8}(h:Ty.fit B S .s x1)(K:BS B S 0 0:=by omega)(P:S<=9223372036854775807:=by omega):Tot (J6J x1) λy=>Ty.fit 0 0 (.i .u32) y:=by
 unfold J6J;have:J0 x1<=S:=h.z;have:=J4 (l:=x1);refine Ja (τ:=Jat) (λq=>(x1,q.1,q.2)) (λq=>(Ty.fit 0 0 (.i .i64) q.2/\0<=q.2/\(q.2<=J0 x1\/q.2<=0))/\Ty.fit 0 0 (.i .u32) q.1) (λq=>J0 x1-q.2) ?_ (4294967295,0) rfl ?_
 ·rintro⟨r,g⟩ o;dsimp only at o;obtain⟨⟨G,N,M⟩,O⟩:=o;unfold Jox
  try dsimp only
  have:=J1.1 G;refine .lt (λC=>?_) λC=>?_
  ·refine .bind (JrY (l:=x1)) λD I=>Ja (τ:=Jat) (λq=>(x1,q.1,g,q.2)) (λq=>(Ty.fit 0 0 (.i .i64) q.2/\0<=q.2/\(q.2<=8\/q.2<=0))/\Ty.fit 0 0 (.i .u32) q.1) (λq=>8-q.2) ?_ (J4f .u32 r (cvI .u32 D),0) rfl ?_
   ·rintro⟨k,e⟩ n;dsimp only at n;obtain⟨⟨v,J,H⟩,j⟩:=n;unfold Jny
    try dsimp only
    have:=J1.1 v;refine .lt (λx=>?_) λx=>?_
    ·have:=JKQ k 1;refine .eq (λA=>?_) λA=>?_
     ·refine .bind (JfV j oo) λE L=>?_;have:=Jf e 1;exact .some ⟨(J4f .u32 E 2197175160,J2 .i64 e 1),rfl,⟨⟨J7,om,om⟩,Jfb⟩,om,om⟩
     ·refine .bind (JfV j oo) λF w=>?_;have:=Jf e 1;exact .some ⟨(F,J2 .i64 e 1),rfl,⟨⟨J7,om,om⟩,w⟩,om,om⟩
    ·have:=Jf g 1;exact .some ⟨(k,J2 .i64 g 1),rfl,⟨⟨J7,om,om⟩,j⟩,om,om⟩
   ·try dsimp only
    exact⟨⟨fk0,oo,oo⟩,Jfb⟩
  ·exact .some JKq
 ·try dsimp only
  exact⟨⟨fk0,oo,oo⟩,JaN .u32 4294967295⟩
theorem J7S{B S:Int}{x1:Jy}(h:Ty.fit B S Jk x1)(j:BS B S 0 0:=by omega):Tot (J2j x1) λy=>Ty.fit 0 0 (.i .i64) y:=by
 unfold J2j;have s0:Ty.fit 0 S Jk x1:=h;refine .bind (Ji9 (B:=0) (S:=S) s0) λn h1=>.not (λe=>?_) λe=>?_
 ·exact .some (fkn 1)
 ·refine .bind (JnM (B:=0) (S:=S) s0) λk h3=>.not (λg=>?_) λg=>?_
  ·exact .some (fkn 22)
  ·exact .some fk0
theorem Jay{B S x1:Int}(h:Ty.fit B S (.i .i64) x1)(p0:0<=x1)(j:x1<=1000000)(g:BS B S 0 0:=by omega):Tot (J4R x1) λy=>Ty.fit 0 1000000 .s y/\(J0 y=x1):=by unfold J4R;refine .bind (JEQ (t:=(.i .u8)) (B:=1000000) (S:=0) (JaN .u8 0)) λe h2=>?_;have:J0 (toStr e)=J0 e:=J4s;exact .some ⟨(Je1 (B:=0) (S:=1000000) h2.1.1),om⟩
theorem J9B{B S:Int}{x1:Jy}(h:Ty.fit B S Jk x1)(al:BS B S 0 0:=by omega):Tot (J4b x1) λy=>Ty.fit 0 1000416 tq7 y:=by
 unfold J4b;have s0:Ty.fit 0 S Jk x1:=h;refine .bind ((J7S (B:=0) (S:=S) (x1:=x1) s0).eqn) λy2 h1=>.ne (λW=>?_) λW=>?_
 ·exact .some (⟨Jd,h1.1⟩)
 ·have v4:=J86 (x:=x1) s0 h1.2 W;have F:Ty.fit 0 12 Jk x1:=v4.2;refine .bind (JW (B:=0) (S:=0) (⟨Jd,F.2.1,fkn 8⟩)) λv h9=>?_;have I:Ty.fit 0 8 .s v:=h9.1.u;have:J0 v<=8:=I;have:=J4 (l:=v);have:J0 v<=0+8/\(1<=(8:Int)->(8:Int)<=8->J0 v=0+(8:Int)):=h9.2;refine .bind (JW (B:=0) (S:=8) (⟨I,F.1,fkn 4⟩)) λC G=>?_;have J:Ty.fit 0 16 .s C:=G.1.u;have:J0 C<=16:=J;have:=J4 (l:=C);have:J0 C<=J0 v+8/\(1<=(4:Int)->(4:Int)<=8->J0 C=J0 v+(4:Int)):=G.2;refine Ja (τ:=J2A) (λq=>(q.1,q.2,x1)) (λq=>Ty.fit 0 400 .s q.1/\Ty.fit 0 0 (.i .i64) q.2/\(0<=q.2)/\(q.2<=16)/\(J0 q.1=12+13*q.2)) (λq=>16-q.2) ?_ (C,0) rfl ?_
  ·rintro⟨e,n⟩ D;dsimp only at D;obtain⟨E,af,aj,ad,ag⟩:=D;unfold Jgz
   try dsimp only
   have:J0 e<=400:=E;have:=J4 (l:=e);refine .lt (λa5=>?_) λa5=>?_
   ·refine .bind (J4n) λ_ _=>.bind ((J7u F.c).eqn) λA g=>.ite (λV=>?_) λV=>?_
    ·refine .bind (J4n) λ_ _=>.same g.2 ?_;refine .bind (JW (B:=0) (S:=400) (⟨E,J3M g.1.2 oo,fkn 1⟩)) λo N=>?_;have a7:Ty.fit 0 408 .s o:=N.1.u;have:J0 o<=408:=a7;have:=J4 (l:=o);have:J0 o<=J0 e+8/\(1<=(1:Int)->(1:Int)<=8->J0 o=J0 e+(1:Int)):=N.2;refine .bind (J4n) λ_ _=>.same g.2 ?_;refine .bind (J4n) λ_ _=>.same g.2 ?_;have:J0 A.2<=12:=g.1.2;have:=J4 (l:=A.2);have:=Ju5 12 (J0 A.2);refine .bind (Jay J0Y om om) λK Z=>?_;have:J0 K<=1000000:=Z.1;have:=J4 (l:=K);refine .bind (J3u) λz am=>?_;have a9:Ty.fit 0 1000012 .s z:=(by omega:J0 z<=1000012);have:J0 z<=1000012:=a9;have:=J4 (l:=z);refine .bind (J3u) λk an=>?_;have Y:Ty.fit 0 1000420 .s k:=(by omega:J0 k<=1000420);have:J0 k<=1000420:=Y;have:=J4 (l:=k);have U:Ty.fit 0 400 .s k:=(by omega:J0 k<=400);have:=J99 n 1;exact .some ⟨(k,J2 .i64 n 1),rfl,⟨U,J7,om,om,om⟩,om,om⟩
    ·refine .bind (JW (B:=0) (S:=400) (⟨E,fkn 255,fkn 1⟩)) λr H=>?_;have aa:Ty.fit 0 408 .s r:=H.1.u;have:J0 r<=408:=aa;have:=J4 (l:=r);have:J0 r<=J0 e+8/\(1<=(1:Int)->(1:Int)<=8->J0 r=J0 e+(1:Int)):=H.2;refine .bind (J4n) λ_ _=>.same g.2 ?_;refine .bind (J4n) λ_ _=>.same g.2 ?_;have:J0 A.2<=12:=g.1.2;have:=J4 (l:=A.2);have:=Ju5 12 (J0 A.2);refine .bind (Jay J0Y om om) λL T=>?_;have:J0 L<=1000000:=T.1;have:=J4 (l:=L);refine .bind (J3u) λw ak=>?_;have a2:Ty.fit 0 1000012 .s w:=(by omega:J0 w<=1000012);have:J0 w<=1000012:=a2;have:=J4 (l:=w);refine .bind (J3u) λj ae=>?_;have a3:Ty.fit 0 1000420 .s j:=(by omega:J0 j<=1000420);have:J0 j<=1000420:=a3;have:=J4 (l:=j);have a4:Ty.fit 0 400 .s j:=(by omega:J0 j<=400);have:=J99 n 1;exact .some ⟨(j,J2 .i64 n 1),rfl,⟨a4,J7,om,om,om⟩,om,om⟩
   ·refine .inr ?_;have:=Ju5 244 (J0 e);refine .bind (Jay J0Y om om) λM a1=>?_;have:J0 M<=1000000:=a1.1;have:=J4 (l:=M);refine .bind (J3u) λP ai=>?_;have O:Ty.fit 0 1000400 .s P:=(by omega:J0 P<=1000400);refine .bind (Jdo O) λao ah=>.bind (JW (B:=0) (S:=1000400) (⟨O,Jal,fkn 4⟩)) λab a0=>?_;have ac:Ty.fit 0 1000408 .s ab:=a0.1.u;refine .bind (JW (B:=0) (S:=1000408) (⟨ac,F.2.1,fkn 8⟩)) λa6 R=>?_;have Q:Ty.fit 0 1000416 .s a6:=R.1.u;exact .some (⟨Q,fk0⟩)
  ·try dsimp only
   exact⟨J.u,fk0,om,om,om⟩
theorem Jwa{B S:Int}{x1:Jdn}(h:Ty.fit B S JOs x1)(A:BS B S 0 0:=by omega)(G:B<=34359738367:=by omega):Tot (J6b x1) λy=>Ty.fit (B+1) 0 (.l (.i .i64)) y:=by
 unfold J6b;have:J0 x1.1<=B:=h.1.1;have:=J4 (l:=x1.1);refine Ja (τ:=JDi) (λq=>(x1.1,x1.2,q.1,q.2)) (λq=>(Ty.fit 0 0 (.i .i64) q.1/\0<=q.1/\(q.1<=J0 x1.1\/q.1<=0))/\(Ty.fit (B+1) 0 (.l (.i .i64)) q.2/\J0 q.2<=1*q.1+0)) (λq=>J0 x1.1-q.1) ?_ (0,[]) rfl ?_
 ·rintro⟨e,g⟩ k;dsimp only at k;obtain⟨⟨x,H,C⟩,j,D⟩:=k;unfold Jek
  try dsimp only
  have:=J1.1 x;refine .lt (λv=>?_) λv=>?_
  ·refine .bind (Jg h.1) λE z=>.ne (λr=>?_) λr=>?_
   ·refine .bind (Jg h.1) λF o=>?_;have:J0 g<=(B+1):=j.1;refine .bind (J0K (B:=(B+1)) (Bl:=(B+1)) (Bm:=1) (S:=0) (J0 g) 1 j (J0n (B:=1) (S:=0) (t:=(.i .i64)) oo o.1)) λw n=>?_;have:=Jf e 1;exact .some ⟨(J2 .i64 e 1,w),rfl,⟨⟨J7,om,om⟩,n.1,om⟩,om,om⟩
   ·have:=Jf e 1;exact .some ⟨(J2 .i64 e 1,g),rfl,⟨⟨J7,om,om⟩,j,om⟩,om,om⟩
  ·exact .some j
 ·have:J0 ([]:List Int)=0:=rfl
  try dsimp only
  exact⟨⟨fk0,oo,oo⟩,Jb,oo⟩
theorem JCk{B S:Int}{x1:J0i×JQ}(h:Ty.fit B S (.pr JV JO) x1)(G:BS B S 0 0:=by omega):Tot (J36 x1) λy=>Ty.fit 0 0 .b y:=by
 unfold J36;refine .lef (λD=>?_) λD=>?_
 ·refine .gtf (λF=>?_) λF=>?_
  ·have:=J1.1 h.d.1;refine .ltf (λE=>?_) λE=>?_
   ·have:J0 x1.1.1<=B:=h.1.1.1;refine .gef (λC=>?_) λC=>?_
    ·have:=J1.1 h.e.1;refine .ltf (λo=>?_) λo=>?_
     ·refine .gef (λr=>?_) λr=>?_
      ·have:=J1.1 h.g.1;refine .ltf (λn=>?_) λn=>?_
       ·refine .ge (λz=>?_) λz=>?_
        ·exact .some trivial
        ·have:=J1.1 h.2.1;refine .eq (λk=>?_) λk=>?_
         ·exact .some trivial
         ·refine .eq (λq=>?_) λq=>?_
          ·exact .some trivial
          ·refine .eq (λA=>?_) λA=>?_
           ·exact .some trivial
           ·refine .eq (λw=>?_) λw=>?_
            ·exact .some trivial
            ·refine .eq (λx=>?_) λx=>?_
             ·have:=JGh.1 h.h;refine .eq (λv=>?_) λv=>?_
              ·exact .some trivial
              ·exact .some trivial
             ·refine .eq (λj=>?_) λj=>?_
              ·exact .some trivial
              ·exact .some trivial
       ·exact .some trivial
      ·exact .some trivial
     ·exact .some trivial
    ·exact .some trivial
   ·exact .some trivial
  ·exact .some trivial
 ·exact .some trivial
theorem JAM{B S:Int}{x1:J0i}(h:Ty.fit B S JV x1)(Z:BS B S 0 0:=by omega)(hB:B<=9223372036854775807:=by omega):Tot (J37 x1) λy=>Ty.fit 0 0 .b y:=by
 unfold J37;refine .ltf (λJ=>?_) λJ=>?_
 ·refine .gtf (λK=>?_) λK=>?_
  ·have:=J1.1 h.2.1;refine .ltf (λL=>?_) λL=>?_
   ·refine .gtf (λH=>?_) λH=>?_
    ·have:J0 x1.2.2.2.2<=B:=h.e.1;have:=J4 (l:=x1.2.2.2.2);have:J0 x1.2.2.2.2=_:=Jm h.e;refine .gt (λI=>?_) λI=>?_
     ·exact .some trivial
     ·refine Ja (τ:=Int) (λq=>(J0 x1.1,q,x1)) (λq=>(Ty.fit 0 0 (.i .i64) q/\0<=q/\(q<=J0 x1.1\/q<=0))) (λq=>J0 x1.1-q) ?_ 0 rfl ?_
      ·rintro k ⟨x,Y,R⟩;unfold Jbr
       try dsimp only
       have:=J1.1 x;refine .lt (λw=>?_) λw=>?_
       ·refine .bind (Jg h.1) λy3 a1=>.ne (λC=>?_) λC=>?_
        ·exact .some trivial
        ·have:=Jf k 1;exact .some ⟨J2 .i64 k 1,rfl,⟨J7,om,om⟩,om,om⟩
       ·refine .inr ?_;have:J0 x1.2.2.1<=B:=h.c.1.1;have:=J4 (l:=x1.2.2.1);refine Ja (τ:=Int) (λq=>(J0 x1.1,q,x1)) (λq=>(Ty.fit 0 0 (.i .i64) q/\0<=q/\(q<=J0 x1.2.2.1\/q<=0))) (λq=>J0 x1.2.2.1-q) ?_ 0 rfl ?_
        ·rintro g ⟨r,U,P⟩;unfold Jc3
         try dsimp only
         have:=J1.1 r;refine .lt (λA=>?_) λA=>?_
         ·refine .bind (Jg h.c.1) λy5 T=>.ltf (λD=>?_) λD=>?_
          ·refine .bind (Jg h.c.1) λy6 M=>.gef (λo=>?_) λo=>?_
           ·refine .gt (λE=>?_) λE=>?_
            ·have:=J0y g 1;refine .bind (Jg h.c.1) λy7 W=>.bind (Jg h.c.1) λy8 a0=>.ge (λF=>?_) λF=>?_
             ·exact .some trivial
             ·have:=Jf g 1;exact .some ⟨J2 .i64 g 1,rfl,⟨J7,om,om⟩,om,om⟩
            ·have:=Jf g 1;exact .some ⟨J2 .i64 g 1,rfl,⟨J7,om,om⟩,om,om⟩
           ·exact .some trivial
          ·exact .some trivial
         ·refine .inr ?_;refine Ja (τ:=Int) (λq=>(q,x1)) (λq=>(Ty.fit 0 0 (.i .i64) q/\0<=q/\(q<=J0 x1.2.2.2.2\/q<=0))) (λq=>J0 x1.2.2.2.2-q) ?_ 0 rfl ?_
          ·rintro j ⟨n,N,Q⟩;unfold JbC
           try dsimp only
           have:=J1.1 n;refine .lt (λz=>?_) λz=>?_
           ·refine .bind (Jg h.e) λO G=>.bind (JCk (B:=B) (S:=S) (⟨h,G.1⟩)) λa2 V=>.not (λv=>?_) λv=>?_
            ·exact .some trivial
            ·have:=Jf j 1;exact .some ⟨J2 .i64 j 1,rfl,⟨J7,om,om⟩,om,om⟩
           ·exact .some trivial
          ·try dsimp only
           exact⟨fk0,oo,oo⟩
        ·try dsimp only
         exact⟨fk0,oo,oo⟩
      ·try dsimp only
       exact⟨fk0,oo,oo⟩
    ·exact .some trivial
   ·exact .some trivial
  ·exact .some trivial
 ·exact .some trivial
theorem JcV{B S:Int}{x1:J6X}(h:Ty.fit B S JuW x1)(n:BS B S 0 0:=by omega)(o:B<=9223372036854775807:=by omega):Tot (J2q x1) λy=>Ty.fit 0 0 (.i .i64) y:=by
 unfold J2q;refine .bind (JAM h.1) λq h1=>.not (λe=>?_) λe=>?_
 ·exact .some (fkn 15)
 ·refine .ite (λg=>?_) λg=>?_
  ·exact .some (fkn 10)
  ·have:=J1.1 h.2;refine .ltf (λk=>?_) λk=>?_
   ·have:J0 x1.1.1<=B:=h.1.1.1;refine .ge (λj=>?_) λj=>?_
    ·exact .some (fkn 1)
    ·exact .some fk0
   ·exact .some (fkn 1)
section
variable {B S:Int}
def DOk(x:J0i):Prop:=1<=J0 x.1/\J0 x.1<=64/\0<=x.2.1/\x.2.1<=1099511627776/\J0 x.2.2.2.2<=64/\(∀(j:Nat) (s:List UInt8),x.1[j]?=some s->J0 s=256)/\J0 x.2.2.1<=64/\ ∀(j:Nat) (f:JQ),x.2.2.2.2[j]?=some f->J36 (x,f)=some true
theorem JCY{d:J0i}{f:JQ}(e:J36 (d,f)=some true):0<=f.2.2.1/\f.2.2.1<J0 d.1/\0<=f.2.2.2.1/\f.2.2.2.1<J0 d.1/\0<=f.2.2.2.2.1/\f.2.2.2.2.1<256:=by
 have g:Par (J36 (d,f)) λy=>y=true->0<=f.2.2.1/\f.2.2.1<J0 d.1/\0<=f.2.2.2.1/\f.2.2.2.1<J0 d.1/\0<=f.2.2.2.2.1/\f.2.2.2.2.1<256:=by unfold J36;dsimp only;refine .lef (λ_=>.gtf (λ_=>.ltf (λ_=>.gef (λ_=>.ltf (λ_=>.gef (λ_=>.ltf (λ_=>.ge (λ_=>.some nofun) λ_=>?_) λ_=>.some nofun) λ_=>.some nofun) λ_=>.some nofun) λ_=>.some nofun) λ_=>.some nofun) λ_=>.some nofun) λ_=>.some nofun;intro _ _ _;omega
 exact g _ e rfl
theorem Je6{x:J0i}(e:J37 x=some true):DOk x:=by
 have w:Par (J37 x) λy=>y=true->DOk x:=by
  unfold J37;refine .ltf (λr=>.gtf (λv=>.ltf (λB=>.gtf (λD=>.gt (λ_=>.some nofun) λC=>?_) λ_=>.some nofun) λ_=>.some nofun) λ_=>.some nofun) λ_=>.some nofun;refine .while (λz=>z.1=J0 x.1/\z.2.2=x/\0<=z.2.1/\ ∀(j:Nat) (s:List UInt8),(j:Int)<z.2.1->x.1[j]?=some s->J0 s=256) ⟨rfl,rfl,J0U _,λj e h1=>by dsimp only at h1;omega⟩ ?_;rintro⟨n,i,z⟩ ⟨hn,hz,k,h⟩;dsimp only at hn hz;subst hz;subst hn;dsimp only at k h r v B D C;unfold Jbr;dsimp only;refine .lt (λc=>?_) λc=>.map ?_
  ·have A:=Jf i 1;refine .bind λs hs=>.ne (λ_=>.some nofun) λo=>.some ⟨rfl,rfl,?_,λj t hj he=>?_⟩
   ·show 0<=J2 .i64 i 1;omega
   have hj:(j:Int)<J2 .i64 i 1:=hj;by_cases hl:(j:Int)<i
   ·exact h j t hl he
   ·have:j=i.toNat:=by omega
    subst this;rw[(J5G hs).2]at he;injection he with he;subst he
    exact o
  have hp: ∀(j:Nat) (s:List UInt8),z.1[j]?=some s->J0 s=256:=λj s he=>h j s (by have:=JgE he;omega) he;refine .while (λy=>y.1=J0 z.1/\y.2.2=z/\0<=y.2.1/\y.2.1<=J0 z.1/\ ∀(j:Nat) (f:Int),(j:Int)<y.2.1->z.2.2.1[j]?=some f->(j:Int)<=f/\f<J0 z.1) ⟨rfl,rfl,J0U _,by dsimp only;omega,λj e h1=>by dsimp only at h1;omega⟩ ?_;rintro⟨n,i,z⟩ ⟨hn,hz,k,q,h⟩;dsimp only at hn hz;subst hz;subst hn;dsimp only at k h q;unfold Jc3;dsimp only;have A:=Jf i 1;have:=J0y i 1;refine .lt (λc=>?_) λc=>.map ?_
  ·refine .bind λs hs=>.ltf (λo=>.bind λs' hs'=>.gef (λI=>?_) λ_=>.some nofun) λ_=>.some nofun;rw[hs]at hs';injection hs' with hs';subst hs'
   have E:i<=s->(J0 z.1=J0 z.1/\z=z/\0<=J2 .i64 i 1/\J2 .i64 i 1<=J0 z.1/\ ∀(j:Nat) (f:Int),(j:Int)<J2 .i64 i 1->z.2.2.1[j]?=some f->(j:Int)<=f/\f<J0 z.1):=by
    intro H;refine⟨rfl,rfl,oo,oo,λj g hj he=>?_⟩;by_cases hl:(j:Int)<i
    ·exact h j g hl he
    ·have:j=i.toNat:=by omega
     subst this;rw[(J5G hs).2]at he;injection he with he;subst he
     omega
   refine .gt (λJ=>.bind λF h4=>.bind λK h5=>.ge (λ_=>.some nofun) λL=>.some (E ?_)) λ_=>.some (E oo);obtain⟨_,G⟩:=J5G h4;rw[hs]at h5;injection h5 with h5;subst h5
   have:=h _ F oo G;omega
  have hu:J0 z.2.2.1<=64:=by omega
  refine .while (λy=>y.2=z/\0<=y.1/\ ∀(j:Nat) (f:JQ),(j:Int)<y.1->z.2.2.2.2[j]?=some f->J36 (z,f)=some true) ⟨rfl,J0U _,λj e h1=>by dsimp only at h1;omega⟩ ?_;rintro⟨i,z⟩ ⟨rfl,k,h⟩;dsimp only at k h r v B D C hu hp;unfold JbC;dsimp only;refine .lt (λc=>?_) λc=>.some λ_=>⟨oo,oo,oo,oo,oo,hp,hu,λj f he=>h j f (by have:=JgE he;omega) he⟩;have A:=Jf i 1;refine .bind λs hs=>.bind λb hb=>.not (λ_=>.some nofun) λo=>.some ⟨rfl,?_,λj t hj he=>?_⟩
  ·show 0<=J2 .i64 i 1;omega
  subst o;have hj:(j:Int)<J2 .i64 i 1:=hj;by_cases hl:(j:Int)<i
  ·exact h j t hl he
  ·have:j=i.toNat:=by omega
   subst this;rw[(J5G hs).2]at he;injection he with he;subst he
   exact hb
 exact w _ e rfl
theorem DOk.fit{x:J0i}(k:DOk x)(h:Ty.fit B S JV x):Ty.fit 64 256 JV x:=by
 obtain⟨h1,h2,h3,h4,h5⟩:=h;obtain⟨g,v,q,w,r,e,o,n⟩:=k;refine⟨⟨?_,λs hs=>?_⟩,h2,⟨?_,h3.2⟩,trivial,?_,λf hf=>h5.2 f hf⟩
 ·show J0 x.1<=64;omega
 ·obtain⟨j,hj⟩:=JiL.1 hs;show J0 s<=256;have:=e j s hj;omega
 ·show J0 x.2.2.1<=64;omega
 ·show J0 x.2.2.2.2<=64;omega
theorem JcW{x:J6X}(e:J2q x=some 0):J37 x.1=some true/\0<=x.2/\x.2<J0 x.1.1:=by
 have g:Par (J2q x) λy=>y=0->J37 x.1=some true/\0<=x.2/\x.2<J0 x.1.1:=by unfold J2q;refine .bind λb hb=>.not (λ_=>.some nofun) λc=>.ite (λ_=>.some nofun) λ_=>.ltf (λ_=>.ge (λ_=>.some nofun) λ_=>.some λ_=>⟨c▸hb,oo,oo⟩) λ_=>.some nofun
 exact g _ e rfl
theorem JxM{x:J6X}{y:Int}(h:Ty.fit B S JuW x)(e:J2q x=some y)(c:y=0):(0<=x.2/\x.2<J0 x.1.1/\J0 x.1.1<=64)/\Ty.fit 64 256 JV x.1:=by subst c;obtain⟨h1,h2,h3⟩:=JcW e;have k:=Je6 h1;exact⟨⟨h2,h3,k.2.1⟩,k.fit h.1⟩
theorem JJQ{w:Int}{un:List Int}{dead:Bool}{e k:Int}{s:List UInt8}{ps:List (List UInt8)}{fs:List JQ}(hu:Ty.fit B 0 (.l (.i .i64)) un)(hw:Ty.fit 0 0 (.i .i64) e)(C:0<=e)(h1:e<J0 ps)(hk:0<=k)(z:k<=256)(hs:J0 s=256)(hp: ∀x∈ps,J0 x=256)(G:B<=1000)(A:0<=B):Tot (J1F (w,un,dead,e,s,k,ps,fs)) λy=> ∃n g,y=(w,n,dead,g,fs)/\Ty.fit (B+1) 0 (.l (.i .i64)) n/\J0 g=J0 ps/\ ∀x∈g,J0 x=256:=by
 unfold J1F;dsimp only;have j:e.toNat<ps.length:=by unfold J0 at h1;omega
 have o:=hp _ (Jgq j);refine .bind (JLn oo oo) λH h2=>.bind (J6p (l:=ps)) λ_ _=>?_;have v:lat ps e.toNat=some ps[e.toNat]:=by unfold lat;rw[JK j]
 rw[v];show Tot ((J0Q ps[e.toNat] (some k) none).bind _) _;refine .bind (JEN oo oo) λD h5=>.bind (J3u) λE F=>.bind (J6p (l:=ps)) λ_ _=>?_;show Tot ((J6b (un,e)).bind _) _;refine .bind (Jwa (B:=B) (S:=0) ⟨hu,hw.u⟩) λq r=>.some ⟨q,_,rfl,r,J6L,λx hx=>?_⟩;rcases Jyy hx with h|rfl
 ·exact hp x h
 ·have:=h2.2;have:=h5.2;omega
theorem JNL{b n:Int}{un:List Int}(h:Ty.fit b 0 (.l (.i .i64)) un)(hn:Ty.fit 0 0 (.i .i64) n)(hb:b<=17179869183:=by omega):Tot (J5D (un,n)) λy=>Ty.fit (b+1) 0 (.l (.i .i64)) y:=by
 unfold J5D;have hl:J0 un<=b:=h.1;have C:=J4 (l:=un);refine Ja (τ:=Bool×Int×List Int) (λq=>(un,n,q.1,q.2.1,q.2.2)) (λq=>0<=q.2.1/\q.2.1<=J0 un/\Ty.fit (b+1) 0 (.l (.i .i64)) q.2.2/\J0 q.2.2<=q.2.1+1/\(q.1=false->J0 q.2.2<=q.2.1)) (λq=>J0 un-q.2.1) ?_ (false,0,[]) rfl ⟨J0U _,C,Jb,by show(0:Int)<=0+1;omega,λ_=>J0U _⟩;rintro⟨done,i,out⟩ ⟨z,h1,h2,h3,h4⟩;dsimp only at z h1 h2 h3 h4;unfold JkA;dsimp only;have:=Jf i 1;have app: ∀{x:Int} {l:List Int},Ty.fit (b+1) 0 (.l (.i .i64)) l->Ty.fit (b+1) 0 (.i .i64) x->J0 l+1<=b+1->Tot (JN 8 l [x]) λr=>Ty.fit (b+1) 0 (.l (.i .i64)) r/\J0 r=J0 l+1:=λhl hx D=>
  (J0K (B:=b+1) (Bl:=b+1) (Bm:=b+1) (S:=0) _ 1 hl (J0n oo hx) rfl rfl (J0U _) (J0U _) D oo (by decide)).mono λ_ h=>⟨h.1,h.2.1⟩
 have w:Ty.fit (b+1) 0 (.i .i64) n:=hn;refine .lt (λc=>?_) λc=>Tot.map (P:=λy=>Ty.fit (b+1) 0 (.l (.i .i64)) y) ?_ λ_ h=>h
 ·have j:Tot (idx un i) λr=>Ty.fit (b+1) 0 (.i .i64) r:=(Jg h z c).mono λ_ h=>h.1;refine .not (λd=>?_) λd=>?_
  ·have h4:=h4 d;refine .bind j λE I=>.ge (λ_=>.bind (app h2 w oo) λH v=>.bind j λF G=>.ne (λ_=>.bind j λA o=>.bind (app v.1 o oo) λk g=>?_) λ_=>?_) λ_=>.bind j λF G=>.ne (λ_=>.bind j λA o=>.bind (app h2 o oo) λk g=>?_) λ_=>?_
   ·have:=g.2;have:=v.2;exact .some ⟨(_,_,_),rfl,⟨by show 0<=J2 .i64 i 1;omega,by show J2 .i64 i 1<=_;omega,g.1,by show J0 k<=J2 .i64 i 1+1;omega,nofun⟩,by show J0 un-J2 .i64 i 1<J0 un-i;omega,by show 0<=J0 un-i;omega⟩
   ·have:=v.2;exact .some ⟨(_,_,_),rfl,⟨by show 0<=J2 .i64 i 1;omega,by show J2 .i64 i 1<=_;omega,v.1,by show J0 H<=J2 .i64 i 1+1;omega,nofun⟩,by show J0 un-J2 .i64 i 1<J0 un-i;omega,by show 0<=J0 un-i;omega⟩
   ·have:=g.2;exact .some ⟨(_,_,_),rfl,⟨by show 0<=J2 .i64 i 1;omega,by show J2 .i64 i 1<=_;omega,g.1,by show J0 k<=J2 .i64 i 1+1;omega,λ_=>by show J0 k<=J2 .i64 i 1;omega⟩,by show J0 un-J2 .i64 i 1<J0 un-i;omega,by show 0<=J0 un-i;omega⟩
   ·exact .some ⟨(_,_,_),rfl,⟨by show 0<=J2 .i64 i 1;omega,by show J2 .i64 i 1<=_;omega,h2,by show J0 out<=J2 .i64 i 1+1;omega,λ_=>by show J0 out<=J2 .i64 i 1;omega⟩,by show J0 un-J2 .i64 i 1<J0 un-i;omega,by show 0<=J0 un-i;omega⟩
  ·refine .bind j λE I=>.ne (λ_=>.bind j λA o=>.bind (app h2 o oo) λk g=>?_) λ_=>?_
   ·have:=g.2;exact .some ⟨(_,_,_),rfl,⟨by show 0<=J2 .i64 i 1;omega,by show J2 .i64 i 1<=_;omega,g.1,by show J0 k<=J2 .i64 i 1+1;omega,λe=>by rw[d]at e;cases e⟩,by show J0 un-J2 .i64 i 1<J0 un-i;omega,by show 0<=J0 un-i;omega⟩
   ·exact .some ⟨(_,_,_),rfl,⟨by show 0<=J2 .i64 i 1;omega,by show J2 .i64 i 1<=_;omega,h2,by show J0 out<=J2 .i64 i 1+1;omega,λe=>by rw[d]at e;cases e⟩,by show J0 un-J2 .i64 i 1<J0 un-i;omega,by show 0<=J0 un-i;omega⟩
 ·exact .not (λd=>.bind (app h2 w (by have:=h4 d;omega)) λy f=>.some f.1) λ_=>.some h2
def FOk(n:Int)(f:JQ):Prop:=0<=f.2.2.1/\f.2.2.1<n/\0<=f.2.2.2.1/\f.2.2.2.1<n/\0<=f.2.2.2.2.1/\f.2.2.2.2.1<256/\Ty.fit 0 0 JO f
def JEW(n:Int)(ps:List (List UInt8)):Prop:=J0 ps=n/\ ∀x∈ps,J0 x=256
def WOk(n:Int)(y:J6X):Prop:=Ty.fit 256 256 JuW y
theorem Jhr{n:Int}(d:J0i)(A:List JQ)(I:List (List UInt8))(C:Int)(E:List Int)(z:Bool){ps:List (List UInt8)}(D J:List JQ){w:Int}{un:List Int}{dead:Bool}{e rest:List JQ}
  (hn:n<=64) (hp:JEW n ps) (hw:Ty.fit 0 0 (.i .i64) w) (hu:Ty.fit 65 0 (.l (.i .i64)) un) (N:J0 e<=64) (hf: ∀f∈e,FOk n f) (hr:Ty.fit 64 0 (.l JO) rest):
  Tot (Jc J6s (0,d,A,I,C,E,z,ps,D,J,w,un,dead,e,rest)) (WOk n):=by
 refine Ja (τ:=Int×List (List UInt8)×List Int×Bool) (λq=>(q.1,d,A,I,C,E,z,q.2.1,D,J,w,q.2.2.1,q.2.2.2,e,rest)) (λq=>0<=q.1/\q.1<=J0 e/\JEW n q.2.1/\ ∃b:Int,b<=65+2*q.1/\Ty.fit b 0 (.l (.i .i64)) q.2.2.1) (λq=>J0 e-q.1) ?_ (0,ps,un,dead) rfl ⟨J0U _,J4,hp,65,oo,hu⟩;rintro⟨i,ps,un,dead⟩ ⟨B,h1,⟨j,g⟩,b,hb,hu⟩;dsimp only at B h1 j g hb hu;unfold J6s;dsimp only;have:=Jf i 1;refine .lt (λc=>?_) λc=>.some ?_
 ·have k:i.toNat<e.length:=by unfold J0 at c;omega
  refine .bind (J6p (l:=e) B c) λ_ _=>?_;have V:lat e i.toNat=some e[i.toNat]:=by unfold lat;rw[JK k]
  rw[V];show Tot (if eqI e[i.toNat].1 4=true then _ else _) _;obtain⟨v,S,U,T,y,R,F⟩:=hf _ (Jgq k);generalize e[i.toNat]=f at v S U T y R F;refine .eq (λO=>?_) λO=>.eq (λP=>?_) λP=>.eq (λQ=>?_) λQ=>?_
  ·have o:f.2.2.1.toNat<ps.length:=by unfold J0 at j;omega
   have r:=g _ (Jgq o);refine .bind (J6p (l:=ps) v oo) λ_ _=>?_;have L:lat ps f.2.2.1.toNat=some ps[f.2.2.1.toNat]:=by unfold lat;rw[JK o]
   rw[L];show Tot ((inb (toByt ps[f.2.2.1.toNat]).length f.2.2.2.2.1).bind _) _;have G:J0 (toByt ps[f.2.2.1.toNat])=256:=by rw[JMU];exact r
   have K:f.2.2.2.2.1.toNat<(toByt ps[f.2.2.1.toNat]).length:=by unfold J0 at G;omega
   refine .bind (J6p (l:=toByt ps[f.2.2.1.toNat]) y oo) λ_ _=>?_;have M:lat (toByt ps[f.2.2.1.toNat]) f.2.2.2.2.1.toNat=some (toByt ps[f.2.2.1.toNat])[f.2.2.2.2.1.toNat]:=by unfold lat;rw[JK K]
   rw[M];show Tot ((inb (toByt ps[f.2.2.1.toNat]).length f.2.2.2.2.1).bind _) _;refine .bind (J6p (l:=toByt ps[f.2.2.1.toNat]) y oo) λ_ _=>?_;show Tot ((inb ps.length f.2.2.1).bind _) _;refine .bind (J6p (l:=ps) v oo) λ_ _=>.some ⟨(_,_,_,_),rfl,⟨?_,?_,⟨?_,λx hx=>?_⟩,b,?_,hu⟩,?_,?_⟩
   ·show 0<=J2 .i64 i 1;omega
   ·show J2 .i64 i 1<=J0 e;omega
   ·exact J6L.trans j
   ·rcases Jyy hx with h|rfl
    ·exact g x h
    ·rw[J4s,J6L];exact G
   ·show b<=65+2*J2 .i64 i 1;omega
   ·show J0 e-J2 .i64 i 1<J0 e-i;omega
   ·show 0<=J0 e-i;omega
  ·refine .bind (JNL hu F.2.2.1) λW H=>.some ⟨(_,_,_,_),rfl,⟨?_,?_,⟨j,g⟩,b+2,?_,H.u⟩,?_,?_⟩
   ·show 0<=J2 .i64 i 1;omega
   ·show J2 .i64 i 1<=J0 e;omega
   ·show b+2<=65+2*J2 .i64 i 1;omega
   ·show J0 e-J2 .i64 i 1<J0 e-i;omega
   ·show 0<=J0 e-i;omega
  all_goals
   refine .some ⟨(_,_,_,_),rfl,⟨?_,?_,⟨j,g⟩,b,?_,hu⟩,?_,?_⟩
   ·show 0<=J2 .i64 i 1;omega
   ·show J2 .i64 i 1<=J0 e;omega
   ·show b<=65+2*J2 .i64 i 1;omega
   ·show J0 e-J2 .i64 i 1<J0 e-i;omega
   ·show 0<=J0 e-i;omega
 ·refine⟨⟨⟨?_,λx hx=>?_⟩,hw.u,hu.u,trivial,hr.u⟩,fk0⟩
  ·show J0 ps<=256;omega
  ·show J0 x<=256;have:=g x hx;omega
end
section
variable {B S:Int}
theorem JwE{n h:Int}{s:List UInt8}(d:J0i)(C:List JQ)(G:List (List UInt8))(D:Int)(F:List Int)(B:Bool){ps:List (List UInt8)}(E H:List JQ){w:Int}{un:List Int}{dead:Bool}{g rest:List JQ}
  (hn:n<=64) (hp:JEW n ps) (hw:Ty.fit 0 0 (.i .i64) w) (hu:Ty.fit 64 0 (.l (.i .i64)) un) (z:J0 g<=64) (hf: ∀f∈g,FOk n f) (hr:Ty.fit 64 0 (.l JO) rest)
  (hs:J0 s=256) (N:0<=h) (g1:h<n) (J:Ty.fit 0 0 (.i .i64) h):
  Tot (Jc JbT (h,s,false,0,d,C,G,D,F,B,ps,E,H,w,un,dead,g,rest)) (WOk n):=by
 refine Ja (τ:=Bool×Int×List (List UInt8)×List Int) (λq=>(h,s,q.1,q.2.1,d,C,G,D,F,B,q.2.2.1,E,H,w,q.2.2.2,dead,g,rest)) (λq=>0<=q.2.1/\q.2.1<=J0 g/\JEW n q.2.2.1/\Ty.fit 65 0 (.l (.i .i64)) q.2.2.2/\(q.1=false->Ty.fit 64 0 (.l (.i .i64)) q.2.2.2)) (λq=>J0 g-q.2.1) ?_ (false,0,ps,un) rfl ⟨J0U _,J4,hp,hu.u,λ_=>hu⟩;rintro⟨done,i,ps,un⟩ ⟨K,h1,⟨r,v⟩,hu,hd⟩;dsimp only at K h1 r v hu hd;unfold JbT;dsimp only;have:=Jf i 1;have A: ∀{h k:Int},done=false->0<=h->h<n->Ty.fit 0 0 (.i .i64) h->0<=k->k<=256->Tot (J1F (w,un,dead,h,s,k,ps,rest)) λy=> ∃j o,y=(w,j,dead,o,rest)/\Ty.fit 65 0 (.l (.i .i64)) j/\JEW n o:=λe a1 a2 a3 a4 a5=>
  (JJQ (hd e) a3 a1 oo a4 a5 hs v oo oo).mono λy ⟨j,o,h1,h2,h3,h4⟩=>⟨j,o,h1,h2,h3.trans r,h4⟩
 have fin:Tot (if Jr done=true then(J1F (w,un,dead,h,s,256,ps,rest)).bind λx=>Jc J6s (0,d,C,G,D,F,B,x.2.2.2.1,E,H,x.1,x.2.1,x.2.2.1,g,x.2.2.2.2)else Jc J6s (0,d,C,G,D,F,B,ps,E,H,w,un,dead,g,rest)) (WOk n):=by refine .not (λe=>.bind (A e N g1 J oo oo) λy ⟨j,o,hy,h2,h3⟩=>?_) λ_=>Jhr _ _ _ _ _ _ _ _ hn ⟨r,v⟩ hw hu z hf hr;subst hy;exact Jhr _ _ _ _ _ _ _ _ hn h3 hw h2 z hf hr
 refine .lt (λc=>.not (λe=>?_) λe=>.inr fin) λc=>.inr fin;have I:i.toNat<g.length:=by unfold J0 at c;omega
 refine .bind (J6p (l:=g) K c) λ_ _=>?_;have Y:lat g i.toNat=some g[i.toNat]:=by unfold lat;rw[JK I]
 have L:inb g.length i=some ():=by unfold inb;rw[if_pos ⟨K,by unfold J0 at c;exact c⟩]
 rw[Y];obtain⟨R,W,Q,P,O,V,M⟩:=hf _ (Jgq I);generalize g[i.toNat]=f at R W Q P O V M;show Tot (if eqI f.1 1=true then _ else _) _;refine .eq (λS=>?_) λS=>.eq (λT=>?_) λT=>.eq (λU=>?_) λU=>?_
 ·exact .some ⟨(_,_,_,_),rfl,⟨by show 0<=J2 .i64 i 1;omega,by show J2 .i64 i 1<=J0 g;omega,⟨r,v⟩,hu,nofun⟩,by show J0 g-J2 .i64 i 1<J0 g-i;omega,by show 0<=J0 g-i;omega⟩
 ·rw[L];show Tot ((J1F _).bind _) _;refine .bind (A e Q P M.2.2.2.1 oo oo) λy ⟨j,o,hy,h2,h3⟩=>?_;subst hy;exact .some ⟨(_,_,_,_),rfl,⟨by show 0<=J2 .i64 i 1;omega,by show J2 .i64 i 1<=J0 g;omega,h3,h2,nofun⟩,by show J0 g-J2 .i64 i 1<J0 g-i;omega,by show 0<=J0 g-i;omega⟩
 ·rw[L];show Tot ((J1F _).bind _) _;refine .bind (A e N g1 J O oo) λy ⟨j,o,hy,h2,h3⟩=>?_;subst hy;exact .some ⟨(_,_,_,_),rfl,⟨by show 0<=J2 .i64 i 1;omega,by show J2 .i64 i 1<=J0 g;omega,h3,h2,nofun⟩,by show J0 g-J2 .i64 i 1<J0 g-i;omega,by show 0<=J0 g-i;omega⟩
 ·exact .some ⟨(_,_,_,_),rfl,⟨by show 0<=J2 .i64 i 1;omega,by show J2 .i64 i 1<=J0 g;omega,⟨r,v⟩,hu,hd⟩,by show J0 g-J2 .i64 i 1<J0 g-i;omega,by show 0<=J0 g-i;omega⟩
theorem JMH{x:J0i}(g:Ty.fit 64 256 JV x):J8F x=some (x.2.1,x.2.2.1,x.2.2.2.1,x.1,x.2.2.2.2):=by obtain⟨r,hr,e⟩:=(Jxa (bytes:=16) g.1 oo (by decide));obtain⟨n,j,e2⟩:=(Jxa (bytes:=8) g.2.2.1 oo (by decide));obtain⟨o,h,k⟩:=(Jxa (bytes:=48) g.2.2.2.2 oo (by decide));subst e e2 k;unfold J8F;have q3:J3g (α:=JQ) 48 x.2.2.2.2=some x.2.2.2.2:=h;rw[hr,j,q3];rfl
theorem JCi{x1:J0i×Int×List UInt8}(h:Ty.fit B S (.pr JV (.pr (.i .i64) .s)) x1)(V:BC B S 0 0:=by omega):Tot (JaF x1) λy=>Ty.fit 256 256 JuW y:=by
 obtain⟨x,g,s⟩:=x1;obtain⟨hx,z,hs⟩:=h;unfold JaF;dsimp only;have z0:Ty.fit 256 256 JV ([],0,[],false,[]):=⟨Jb,fk0,Jb,trivial,Jb⟩;refine .bind ((JcV (x1:=(x,g)) ⟨hx,z⟩).eqn) λZ h2=>.ne (λ_=>.some ⟨z0,h2.1⟩) λR=>.ne (λ_=>.some ⟨z0,fkn 2⟩) λW=>.eq (λ_=>.some ⟨z0,fkn 21⟩) λY=>?_;subst R;obtain⟨k,I,g1⟩:=JcW h2.2;have k:=Je6 k;have e:Ty.fit 64 256 JV x:=k.fit hx;obtain⟨O,M,P,U,Q,K,H,G⟩:=k;dsimp only at O M P U Q K H G I g1;rw[JMH e];show Tot (Jc JbV _) _;dsimp only;have hw:Ty.fit 0 0 (.i .i64) (J2 .i64 x.2.1 1):=J7;have L: ∀{i:Int} {f:JQ},idx x.2.2.2.2 i=some f->FOk (J0 x.1) f:=fun{i f} hf=>by obtain⟨a1,a2⟩:=J5G hf;have w:=JCY (G _ _ a2);exact⟨w.1,w.2.1,w.2.2.1,w.2.2.2.1,w.2.2.2.2.1,w.2.2.2.2.2,e.2.2.2.2.2 f (zQ9 a2)⟩
 refine Ja (τ:=Int×List JQ×List JQ) (λq=>(g,s,q.1,x,[],[],0,[],false,x.1,x.2.2.2.2,[],J2 .i64 x.2.1 1,x.2.2.1,x.2.2.2.1,q.2.1,q.2.2)) (λq=>0<=q.1/\q.1<=J0 x.2.2.2.2/\J0 q.2.1<=q.1/\J0 q.2.2<=q.1/\Ty.fit 64 0 (.l JO) q.2.1/\Ty.fit 64 0 (.l JO) q.2.2/\ ∀f∈q.2.1,FOk (J0 x.1) f) (λq=>J0 x.2.2.2.2-q.1) ?_ (0,[],[]) rfl ⟨J0U _,J4,J0U _,J0U _,Jb,Jb,nofun⟩;rintro⟨i,A,rest⟩ ⟨F,h1,h3,h4,h5,v,o⟩;dsimp only at F h1 h3 h4 h5 v o;unfold JbV;dsimp only;have:=Jf i 1;have app: ∀{f:JQ} {l:List JQ},Ty.fit 64 0 (.l JO) l->FOk (J0 x.1) f->J0 l+1<=64->Tot (JN 48 l [f]) λr=>Ty.fit 64 0 (.l JO) r/\J0 r=J0 l+1/\r=l++[f]:=λhl hx N=>
  (J0K (B:=64) (Bl:=64) (Bm:=64) (S:=0) _ 1 hl (J0n oo hx.2.2.2.2.2.2.u) rfl rfl (J0U _) (J0U _) N oo (by decide))
 refine .lt (λc=>?_) λc=>.inr (JwE _ _ _ _ _ _ _ _ M ⟨rfl,λs hs=>by obtain⟨j,hj⟩:=JiL.1 hs;exact K j s hj⟩ hw ⟨H,e.2.2.1.2⟩ oo o v oo I g1 z);have D:i.toNat<x.2.2.2.2.length:=by unfold J0 at c;omega
 have J:idx x.2.2.2.2 i=some x.2.2.2.2[i.toNat]:=by unfold idx;rw[if_pos F,JK D]
 have n:=L J;rw[J];show Tot (if eqI _ _=true then _ else _) _;refine .eq (λ_=>?_) λ_=>?_
 ·show Tot ((JN 48 A [_]).bind _) _;refine .bind (app h5 n oo) λr ⟨C,T,E⟩=>.some ⟨(_,_,_),rfl,⟨by show 0<=J2 .i64 i 1;omega,by show J2 .i64 i 1<=_;omega,by show J0 r<=J2 .i64 i 1;omega,by show J0 rest<=J2 .i64 i 1;omega,C,v,λf hf=>?_⟩,by show _-J2 .i64 i 1<_-i;omega,by show 0<=_-i;omega⟩;subst E;rcases J2a.1 hf with hf|hf
  ·exact o f hf
  ·simp at hf;subst hf;exact n
 ·show Tot ((JN 48 rest [_]).bind _) _;exact .bind (app v n oo) λr ⟨C,T,E⟩=>.some ⟨(_,_,_),rfl,⟨by show 0<=J2 .i64 i 1;omega,by show J2 .i64 i 1<=_;omega,by show J0 A<=J2 .i64 i 1;omega,by show J0 r<=J2 .i64 i 1;omega,h5,C,o⟩,by show _-J2 .i64 i 1<_-i;omega,by show 0<=_-i;omega⟩
theorem JGI{x1:J0i×Int×List UInt8×Int}(h:Ty.fit B S (.pr JV (.pr (.i .i64) tq7)) x1)(J:BC B S 0 0:=by omega):Tot (JbK x1) λy=>Ty.fit 256 256 JuW y:=by
 obtain⟨x,n,s,K⟩:=x1;obtain⟨hx,g,hs,F⟩:=h;unfold JbK;dsimp only;have z0:Ty.fit 256 256 JV ([],0,[],false,[]):=⟨Jb,fk0,Jb,trivial,Jb⟩;refine .bind ((JcV (x1:=(x,n)) ⟨hx,g⟩).eqn) λN h2=>.ne (λ_=>.some ⟨z0,h2.1⟩) λD=>.ltf (λL=>.gt (λ_=>.some ⟨z0,fkn 1⟩) λM=>.ne (λ_=>.some ⟨z0,fkn 2⟩) λE=>?_) λ_=>.some ⟨z0,fkn 1⟩;subst D;obtain⟨k,q,g1⟩:=JcW h2.2;have k:=Je6 k;have e:Ty.fit 64 256 JV x:=k.fit hx;obtain⟨w,G,A,H,C,r,o,z⟩:=k;dsimp only at w G A H C r o z q g1;rw[JMH e];show Tot ((J1F _).bind _) _;dsimp only;refine .bind (JJQ (B:=64) ⟨o,e.2.2.1.2⟩ g q g1 oo oo E (λs hs=>by obtain⟨j,hj⟩:=JiL.1 hs;exact r j s hj) oo oo) λy ⟨I,v,hy,h2,h3,h4⟩=>?_;subst hy;refine .some ⟨⟨⟨?_,λx hx=>?_⟩,hx.2.1,h2.u,trivial,e.2.2.2.2.u⟩,fk0⟩
 ·show J0 v<=256;omega
 ·show J0 x<=256;have:=h4 x hx;omega
end
theorem J8e{B S:Int}{x1:J00×Int×JP}(h:Ty.fit B S (.pr JE (.pr (.i .i64) JF)) x1)(p0:0<=x1.2.1)(g:x1.2.1<J0 x1.1.2.1)(e:BS B S 0 0:=by omega)(k:B<=34359738368:=by omega):Tot (J2r x1) λy=>Ty.fit B S JE y/\(J0 y.2.1=J0 x1.1.2.1/\y.2.2=x1.1.2.2):=by unfold J2r;have:J0 x1.1.2.1=_:=Jm h.1.2.1;refine .clo h.1.2.1 oo (by decide) ?_;refine .bind (J6p (l:=x1.1.2.1)) λ_ _=>.bind (JeQ h.1.2.1) λn j=>?_;have:J0 (J0w x1.1.2.1 (Int.toNat x1.2.1) x1.2.2)=_:=Jm (J4E (t:=JF) (i:=Int.toNat x1.2.1) (x:=x1.2.2) h.1.2.1 (h.2.z.2.u));have:J0 (J0w x1.1.2.1 (Int.toNat x1.2.1) x1.2.2)=J0 x1.1.2.1:=J6L;exact .some ⟨(⟨h.1.1,J4E (t:=JF) (i:=Int.toNat x1.2.1) (x:=x1.2.2) h.1.2.1 (h.2.z.2.u),h.1.c⟩),om⟩
theorem JBg{B S:Int}{x1:JDm}(h:Ty.fit B S JOq x1)(J:BG B S:=by omega):Tot (JaQ x1) λy=>Ty.fit 64 12 tq6 y:=by
 unfold JaQ;refine .bind ((J3S h.1).eqn) λL h1=>.not (λv=>?_) λv=>?_
 ·exact .some (⟨fzr,fkn 15⟩)
 ·have v3:=J2H h.1 h1.2 v;have:J0 x1.1.2.1=_:=Jm h.1.2.1;have e:Ty.fit 64 12 JE x1.1:=v3.2;refine .bind (J5B (B:=64) (S:=12) (⟨e,h.2.1⟩)) λo g=>?_;have:=J1.1 g.1;have: -1<=o/\o<J0 x1.1.2.1:=g.2;refine .lt (λn=>?_) λn=>?_
  ·exact .some (⟨fzr,fkn 18⟩)
  ·refine .bind (Jg e.2.1) λK j=>.gt (λE=>?_) λE=>?_
   ·exact .some (⟨fzr,fkn 9⟩)
   ·refine .not (λx=>?_) λx=>?_
    ·exact .some (⟨e,fk0⟩)
    ·refine .eq (λF=>?_) λF=>?_
     ·refine .bind (J8e (B:=64) (S:=12) (⟨e,g.1,j.1.z.1.u,trivial,fk0,trivial⟩) om om) λH r=>?_;have k:Ty.fit 64 12 JE H:=r.1.u;exact .some (⟨k,fk0⟩)
     ·have:=J1.1 j.1.z.2.2.1;refine .le (λw=>?_) λw=>?_
      ·refine .bind (J8e (B:=64) (S:=12) (⟨e,g.1,j.1.z.1.u,trivial,J7,trivial⟩) om om) λI q=>?_;have A:Ty.fit 64 12 JE I:=q.1.u;exact .some (⟨A,fk0⟩)
      ·refine .bind (J8e (B:=64) (S:=12) (⟨e,g.1,j.1.z.u⟩) om om) λG C=>?_;have D:Ty.fit 64 12 JE G:=C.1.u;exact .some (⟨D,fk0⟩)
theorem JwT{B S:Int}{x1:Jg1}(h:Ty.fit B S Jv8 x1)(L:BG B S:=by omega):Tot (J3C x1) λy=>Ty.fit 16384 1073741824 tq1 y/\(y.2=0->J0 y.1.2.2.1.2.1=J0 x1.1.2.2.1.2.1+1):=by
 unfold J3C;refine .bind ((J1i h.1).eqn) λP h1=>.not (λz=>?_) λz=>?_
 ·have:J0 x1.1.2.2.1.2.1<=B:=h.1.c.1.2.1.1;exact .some ⟨(⟨fzr,fkn 15⟩),om⟩
 ·have I:=J1r h.1 h1.2 z;have:J0 x1.1.2.2.1.2.1=_:=Jm h.1.c.1.2.1;have k:Ty.fit 4096 8192 J3 x1.1:=I.2;refine .ltf (λC=>?_) λC=>?_
  ·refine .gef (λr=>?_) λr=>?_
   ·have:=J1.1 h.c;refine .ltf (λA=>?_) λA=>?_
    ·refine .bind (Jco k.c.1) λM K=>.gt (λx=>?_) λx=>?_
     ·exact .some ⟨(⟨fzr,fkn 1⟩),om⟩
     ·refine .bind ((J5v (B:=4096) (S:=8192) (x1:=(x1.1.2.2.2.1,x1.2.1)) (⟨k.d.1,h.2.1⟩)).eqn) λO J=>.ge (λv=>?_) λv=>?_
      ·have E:Ty.fit 16384 1073741824 JOq (x1.1.2.2.2.1,x1.2.1,x1.2.2):=⟨k.d.1.u,h.2⟩;refine .bind (JBg E) λN n=>.ne (λG=>?_) λG=>?_
       ·exact .some ⟨(⟨fzr,n.2⟩),om⟩
       ·have D:Ty.fit 16384 1073741824 JEe (x1.1,0,7,0,0,0,x1.2.2,(x1.2.1,0,(false,[]),false,[]),[]):=⟨k.u,fk0,fkn 7,fk0,fk0,fk0,h.c,⟨h.2.1,fk0,⟨trivial,Jd⟩,trivial,Jd⟩,Jd⟩;refine .bind ((J5g D).eqn) λq j=>?_;have:J0 q.1.2.2.1.2.1=_:=Jm j.1.1.1.c.1.2.1;have:q.2.2=0->J0 q.1.2.2.1.2.1=J0 x1.1.2.2.1.2.1+1/\J0 x1.1.2.2.1.2.1<=4095/\0<=x1.2.1/\x1.2.1<64/\0<=(0:Int)/\(0:Int)<16:=j.1.2;refine .ne (λw=>?_) λw=>?_
        ·exact .some ⟨(⟨fzr,j.1.1.c⟩),om⟩
        ·exact .some ⟨(⟨⟨j.1.1.1.1,j.1.1.1.2.1,j.1.1.1.c.1,n.1.u,j.1.1.1.e⟩,fk0⟩),om⟩
      ·have F:Ty.fit 16384 1073741824 JEe (x1.1,0,7,0,0,0,x1.2.2,(x1.2.1,0,(false,[]),false,[]),[]):=⟨k.u,fk0,fkn 7,fk0,fk0,fk0,h.c,⟨h.2.1,fk0,⟨trivial,Jd⟩,trivial,Jd⟩,Jd⟩;refine .bind ((J5g F).eqn) λo g=>?_;have:J0 o.1.2.2.1.2.1=_:=Jm g.1.1.1.c.1.2.1;have:o.2.2=0->J0 o.1.2.2.1.2.1=J0 x1.1.2.2.1.2.1+1/\J0 x1.1.2.2.1.2.1<=4095/\0<=x1.2.1/\x1.2.1<64/\0<=(0:Int)/\(0:Int)<16:=g.1.2;refine .ne (λH=>?_) λH=>?_
       ·exact .some ⟨(⟨fzr,g.1.1.c⟩),om⟩
       ·exact .some ⟨(⟨⟨g.1.1.1.1,g.1.1.1.2.1,g.1.1.1.c.1,k.d.1.u,g.1.1.1.e⟩,fk0⟩),om⟩
    ·exact .some ⟨(⟨fzr,fkn 1⟩),om⟩
   ·exact .some ⟨(⟨fzr,fkn 1⟩),om⟩
  ·exact .some ⟨(⟨fzr,fkn 1⟩),om⟩
theorem Jn8{B S:Int}{x1:JOI}(h:Ty.fit B S (.pr Jp (.pr J3 Jk)) x1)(n:BG B S:=by omega):Tot (J3Q x1) λy=>Ty.fit 16384 1073741824 tq4 y/\(y.2=0->J0 y.1.1.2.2.1.2.1=J0 x1.2.1.2.2.1.2.1+1):=by
 unfold J3Q;refine .bind (J9B (B:=0) (S:=S) h.c.z) λq h1=>.bind (JCi (B:=B) (S:=S) (⟨h.1.2,h.c.z.1,h1.1.u⟩)) λo h2=>.ne (λk=>?_) λk=>?_
 ·have:J0 x1.2.1.2.2.1.2.1<=B:=h.2.1.c.1.2.1.1;exact .some ⟨(⟨⟨fzr,Jb,fk0,Jb,trivial,Jb⟩,h2.2⟩),om⟩
 ·refine .bind (JwT (B:=B) (S:=S) (⟨h.2.1,h.c.z.1,h.c.z.2.1⟩)) λg e=>?_;have:J0 g.1.2.2.1.2.1=_:=Jm e.1.1.c.1.2.1;have:J0 x1.2.1.2.2.1.2.1=_:=Jm h.2.1.c.1.2.1;have:g.2=0->J0 g.1.2.2.1.2.1=J0 x1.2.1.2.2.1.2.1+1:=e.2;refine .ne (λj=>?_) λj=>?_
  ·exact .some ⟨(⟨⟨fzr,Jb,fk0,Jb,trivial,Jb⟩,e.1.2⟩),om⟩
  ·exact .some ⟨(⟨⟨e.1.1,h2.1.u⟩,fk0⟩),om⟩
theorem JAN{B S:Int}{x1:J42}(h:Ty.fit B S tq4 x1)(r:BG B S:=by omega):Tot (Jas x1) λy=>Ty.fit B S tq4 y:=by
 unfold Jas;refine .bind ((JD2 (B:=B) (S:=S) (x1:=(x1.1.1,x1.2)) (⟨h.1.1,h.2⟩)).eqn) λv h1=>.ne (λe=>?_) λe=>?_
 ·exact .some (⟨⟨fzr,Jb,fk0,Jb,trivial,Jb⟩,h1.1.1.2.z.2⟩)
 ·have o:InP x1.1.1.2.2.2.1 x1.2:=JKR (⟨h.1.1,h.2⟩) h1.2 e;refine .bind ((J5v (B:=B) (S:=S) (x1:=(x1.1.1.2.2.2.1,x1.2)) (⟨h.1.1.d.1,h.2⟩)).eqn) λj g=>?_;have:0<=j:=Juy o g.2;have:J0 x1.1.1.2.2.2.1.2.1=_:=Jm h.1.1.d.1.2.1;have: -1<=j/\j<J0 x1.1.1.2.2.2.1.2.1:=g.1.2;refine .bind (Jg h.1.1.d.1.2.1) λw q=>.not (λn=>?_) λn=>?_
  ·exact .some (⟨h.1,fk0⟩)
  ·refine .bind (Jn8 (B:=B) (S:=S) (⟨h.1,h1.1.1.1.u,h1.1.1.2.z.1.u⟩)) λx k=>.some (k.1.u)
theorem Jct{B S:Int}{x1:JSu}(h:Ty.fit B S (.pr (.l J5) (.pr (.i .i64) (.pr .b JY))) x1)(I:BS B S 0 0:=by omega)(Q:B<=34359738367:=by omega):Tot (J5K x1) λy=>Ty.fit (B+1) 0 (.l J5) y:=by
 unfold J5K;have:J0 x1.1<=B:=h.1.1;have:=J4 (l:=x1.1);have:J0 x1.1=_:=Jm h.1;refine Ja (τ:=Int×(List T_api_Grant)) (λq=>(x1.1,x1.2.1,x1.2.2.1,q.1,x1.2.2.2,q.2)) (λq=>(Ty.fit 0 0 (.i .i64) q.1/\0<=q.1/\(q.1<=J0 x1.1\/q.1<=0))/\(Ty.fit (B+1) 0 (.l J5) q.2/\J0 q.2<=1*q.1+0)) (λq=>J0 x1.1-q.1) ?_ (0,[]) rfl ?_
 ·rintro⟨g,e⟩ o;dsimp only at o;obtain⟨⟨E,K,P⟩,j,L⟩:=o;unfold JkT
  try dsimp only
  have:=J1.1 E;refine .lt (λD=>?_) λD=>?_
  ·refine .bind (Jg h.1) λM G=>.nef (λx=>?_) λx=>?_
   ·refine .ite (λC=>?_) λC=>?_
    ·refine .bind (Jg h.1) λO F=>.not (λr=>?_) λr=>?_
     ·refine .bind (Jg h.1) λN z=>?_;have:J0 e<=(B+1):=j.1;have:J0 e=_:=Jm j;refine .bind (J0K (B:=(B+1)) (Bl:=(B+1)) (Bm:=1) (S:=0) (J0 e) 1 j (J0n (B:=1) (S:=0) (t:=J5) oo z.1)) λA k=>?_;have:=Jf g 1;have:J0 A=_:=Jm k.1;exact .some ⟨(J2 .i64 g 1,A),rfl,⟨⟨J7,om,om⟩,k.1,om⟩,om,om⟩
     ·have H:=J1S.1 r;have:=Jf g 1;have:J0 e=_:=Jm j;exact .some ⟨(J2 .i64 g 1,e),rfl,⟨⟨J7,om,om⟩,j,om⟩,om,om⟩
    ·have:=Jf g 1;have:J0 e=_:=Jm j;exact .some ⟨(J2 .i64 g 1,e),rfl,⟨⟨J7,om,om⟩,j,om⟩,om,om⟩
   ·refine .bind (Jg h.1) λJ v=>?_;have:J0 e<=(B+1):=j.1;have:J0 e=_:=Jm j;refine .bind (J0K (B:=(B+1)) (Bl:=(B+1)) (Bm:=1) (S:=0) (J0 e) 1 j (J0n (B:=1) (S:=0) (t:=J5) oo v.1)) λw n=>?_;have:=Jf g 1;have:J0 w=_:=Jm n.1;exact .some ⟨(J2 .i64 g 1,w),rfl,⟨⟨J7,om,om⟩,n.1,om⟩,om,om⟩
  ·exact .some j
 ·have:J0 ([]:List T_api_Grant)=0:=rfl
  try dsimp only
  exact⟨⟨fk0,oo,oo⟩,Jb,oo⟩
theorem JFr{B S:Int}{x1:JaK}(h:Ty.fit B S JyG x1)(p0:0<=x1.2)(M:x1.2<J0 x1.1.2)(F:BS B S 0 0:=by omega)(Q:B<=9223372036854775807:=by omega):Tot (Jbv x1) λy=>Ty.fit 0 0 .b y:=by
 unfold Jbv;have:=J1.1 h.2;have:J0 x1.1.2<=B:=h.1.2.1;have:J0 x1.1.2=_:=Jm h.1.2;have:J0 x1.1.1<=B:=h.1.1.1;have:=J4 (l:=x1.1.1);have:J0 x1.1.1=_:=Jm h.1.1;refine Ja (τ:=Int) (λq=>(x1.2,q,x1.1)) (λq=>(Ty.fit 0 0 (.i .i64) q/\0<=q/\(q<=J0 x1.1.1\/q<=0))) (λq=>J0 x1.1.1-q) ?_ 0 rfl ?_
 ·rintro g ⟨A,P,C⟩;unfold Jlj
  try dsimp only
  have:=J1.1 A;refine .lt (λn=>?_) λn=>?_
  ·refine .bind (Jg h.1.1) λJ v=>.bind (Jg h.1.2) λO k=>.bind (J4j (B:=0) (S:=0) (⟨v.1,k.1⟩)) λL H=>.ite (λw=>?_) λw=>?_
   ·exact .some trivial
   ·have:=Jf g 1;exact .some ⟨J2 .i64 g 1,rfl,⟨J7,om,om⟩,om,om⟩
  ·refine .inr ?_;refine Ja (τ:=Int) (λq=>(x1.2,q,x1.1)) (λq=>(Ty.fit 0 0 (.i .i64) q/\0<=q/\(q<=x1.2\/q<=0))) (λq=>x1.2-q) ?_ 0 rfl ?_
   ·rintro e ⟨r,G,E⟩;unfold Jl4
    try dsimp only
    have:=J1.1 r;refine .lt (λx=>?_) λx=>?_
    ·refine .bind (Jg h.1.2) λI z=>.bind (Jg h.1.2) λK o=>.bind (J4j (B:=0) (S:=0) (⟨z.1,o.1⟩)) λN D=>.ite (λj=>?_) λj=>?_
     ·exact .some trivial
     ·have:=Jf e 1;exact .some ⟨J2 .i64 e 1,rfl,⟨J7,om,om⟩,om,om⟩
    ·exact .some trivial
   ·try dsimp only
    exact⟨fk0,oo,oo⟩
 ·try dsimp only
  exact⟨fk0,oo,oo⟩
section
variable {B S:Int}
theorem JGY{x1:JiN}(h:Ty.fit B S JDY x1)(R:BS B S 0 0:=by omega)(Y:B<=17179869183:=by omega):Tot (Jcs x1) λy=>Ty.fit (B+1) S (.l J5) y/\J0 y<=J0 x1.1+1:=by
 obtain⟨un,n⟩:=x1;obtain⟨h,hn⟩:=h;unfold Jcs;dsimp only;dsimp only at h hn;have hl:J0 un<=B:=h.1;have K:=J4 (l:=un);refine Ja (τ:=Bool×Int×List T_api_Grant) (λq=>(un,q.1,q.2.1,n,q.2.2)) (λq=>0<=q.2.1/\q.2.1<=J0 un/\Ty.fit (B+1) S (.l J5) q.2.2/\J0 q.2.2<=q.2.1+1/\(q.1=false->J0 q.2.2<=q.2.1)) (λq=>J0 un-q.2.1) ?_ (false,0,[]) rfl ⟨J0U _,K,Jb,by show(0:Int)<=0+1;omega,λ_=>J0U _⟩;rintro⟨done,i,out⟩ ⟨H,h1,h2,h3,h4⟩;dsimp only at H h1 h2 h3 h4;unfold Jk2;dsimp only;have:=Jf i 1;have app: ∀{x:T_api_Grant} {l:List T_api_Grant},Ty.fit (B+1) S (.l J5) l->Ty.fit (B+1) S J5 x->J0 l+1<=B+1->Tot (JN 32 l [x]) λr=>Ty.fit (B+1) S (.l J5) r/\J0 r=J0 l+1:=λhl hx M=>
  (J0K (B:=B+1) (Bl:=B+1) (Bm:=B+1) (S:=S) _ 1 hl (J0n oo hx) rfl rfl (J0U _) (J0U _) M oo (by decide)).mono λ_ h=>⟨h.1,h.2.1⟩
 have j:Ty.fit (B+1) S J5 n:=hn.u;have G: ∀{d:Bool} {l:List T_api_Grant},i<J0 un->Ty.fit (B+1) S (.l J5) l->J0 l<=i+2->(d=false->J0 l<=i+1)->(∃c':Bool×Int×List T_api_Grant,(un,d,J2 .i64 i 1,n,l)=(un,c'.1,c'.2.1,n,c'.2.2)/\(0<=c'.2.1/\c'.2.1<=J0 un/\Ty.fit (B+1) S (.l J5) c'.2.2/\J0 c'.2.2<=c'.2.1+1/\(c'.1=false->J0 c'.2.2<=c'.2.1))/\J0 un-c'.2.1<J0 un-i/\0<=J0 un-i):=fun{d l} a1 a2 a3 a4=>
  ⟨(d,J2 .i64 i 1,l),rfl,⟨by show 0<=J2 .i64 i 1;omega,by show J2 .i64 i 1<=_;omega,a2,by show J0 l<=J2 .i64 i 1+1;omega,λe=>by show J0 l<=J2 .i64 i 1;have:=a4 e;omega⟩,by show J0 un-J2 .i64 i 1<J0 un-i;omega,oo⟩
 refine .lt (λc=>?_) λc=>Tot.map (P:=λy:List T_api_Grant=>Ty.fit (B+1) S (.l J5) y/\J0 y<=J0 un+1) ?_ λ_ h=>h
 ·have o:Tot (idx un i) λr=>Ty.fit (B+1) S J5 r:=(Jg h H c).mono λ_ h=>h.1.u
  have body: ∀{d:Bool} {l:List T_api_Grant},Ty.fit (B+1) S (.l J5) l->J0 l<=i+1->(d=false->J0 l<=i)->Tot (ρ:=(JP3)⊕(List T_api_Grant)) ((idx un i).bind λE=>
    if neI E.1 n.1=false then
     (idx un i).bind λv=>
     if Jr (eqT JY v.2.1 n.2.1)then
      (idx un i).bind λC=>
      (JN 32 l [C]).bind λw=>
      some (.inl (un,d,J2 .i64 i 1,n,w))
     else
      some (.inl (un,d,J2 .i64 i 1,n,l))
    else
     (idx un i).bind λD=>
     (JN 32 l [D]).bind λA=>
     some (.inl (un,d,J2 .i64 i 1,n,A))) λr=>match r with
      | .inl z=> ∃c':Bool×Int×List T_api_Grant,z=(un,c'.1,c'.2.1,n,c'.2.2)/\(0<=c'.2.1/\c'.2.1<=J0 un/\Ty.fit (B+1) S (.l J5) c'.2.2/\J0 c'.2.2<=c'.2.1+1/\(c'.1=false->J0 c'.2.2<=c'.2.1))/\J0 un-c'.2.1<J0 un-i/\0<=J0 un-i
      | .inr y=>Ty.fit (B+1) S (.l J5) y/\J0 y<=J0 un+1:=fun{d l} b1 b2 F=>
   .bind o λE Q=>.nef (λ_=>.bind o λv T=>.ite (λ_=>.bind o λC I=>.bind (app b1 I oo) λw g=>.some (G c g.1 (by have:=g.2;omega) λe=>by have:=F e;have:=g.2;omega)) λ_=>.some (G c b1 oo λe=>by have:=F e;omega)) λ_=>.bind o λD J=>.bind (app b1 J oo) λA k=>.some (G c k.1 (by have:=k.2;omega) λe=>by have:=F e;have:=k.2;omega)
  refine .not (λd=>?_) λd=>(body h2 h3 h4).mono λr h=>by cases r<;>exact h
  have h4:=h4 d;refine .bind o λN O=>.bind (JqX (x1:=(N,n)) ⟨O,j⟩) λV W=>.not (λ_=>.bind (app h2 j oo) λU L=>?_) λ_=>(body h2 h3 λ_=>h4).mono λr h=>by cases r<;>exact h
  exact(body (d:=true) L.1 (by have:=L.2;omega) λe=>by cases e).mono λr h=>by cases r<;>exact h
 ·exact .not (λd=>.bind (app h2 j (by have:=h4 d;omega)) λy f=>.some ⟨f.1,by have:=f.2;have:=h4 d;omega⟩) λ_=>.some ⟨h2,oo⟩
theorem J78{x1:JX}(h:Ty.fit B S JD x1)(E:BS B S 0 0:=by omega)(I:B<=1000000:=by omega):Tot (J3n x1) λy=>Ty.fit (2*B) S JD y/\J0 y.1+J0 y.2<=J0 x1.1+J0 x1.2:=by
 unfold J3n;obtain⟨ha,hb⟩:=h;have:J0 x1.1<=B:=ha.1;have:J0 x1.2<=B:=hb.1;refine Ja (τ:=JgR) (λq=>(q.1,q.2,[],[])) (λq=>0<=q.1/\q.1<=J0 q.2.2/\Ty.fit (2*B) S JD q.2/\J0 q.2.1+J0 q.2.2<=J0 x1.1+J0 x1.2) (λq=>3000000*J0 q.2.2+(J0 q.2.2-q.1)) ?_ (0,x1) rfl ⟨J0U _,J4,⟨ha.u,hb.u⟩,J0U _⟩;rintro⟨i,z⟩ ⟨g,h1,h2,h3⟩;dsimp only at g h1 h2 h3;unfold Jga;dsimp only;have a1:=Jf i 1;have a2:=Jf (-1) 1;have:=J4 (l:=z.1);have:=J4 (l:=z.2);refine .lt (λc=>?_) λc=>.some ⟨h2,h3⟩;refine .bind (JFr (x1:=(z,i)) ⟨h2,by rw[J1];omega⟩ g c) λG _=>.ite (λ_=>?_) λ_=>?_
 ·refine .bind (Jg h2.2 g c) λC D=>.bind (JGY (x1:=(z.1,C)) ⟨h2.1,D.1⟩) λk r=>.bind (J97 h2.2 g (by show i<=J0 z.2;omega)) λA n=>.clo n.1 oo (by decide) (.bind (J6A h2.2 oo (by show _<=J0 z.2;omega)) λj o=>?_);have x:J0 A=i:=n.2;have H:J0 j=J0 z.2-J2 .i64 i 1:=o.2;refine .bind (J0K (B:=2*B) (Bl:=2*B) (Bm:=2*B) (S:=S) i (J0 j) n.1 o.1 x rfl oo oo oo oo (by decide)) λe v=>?_;have F:J0 e=i+J0 j:=v.2.1;have w:=r.2;dsimp only at w;refine .some ⟨(J2 .i64 (-1) 1,(k,e)),rfl,⟨by show 0<=J2 .i64 (-1) 1;omega,by show J2 .i64 (-1) 1<=J0 e;omega,⟨⟨by show J0 k<=2*B;omega,r.1.2⟩,v.1⟩,by show J0 k+J0 e<=_;omega⟩,?_,?_⟩
  ·show 3000000*J0 e+(J0 e-J2 .i64 (-1) 1)<3000000*J0 z.2+(J0 z.2-i);omega
  ·show 0<=3000000*J0 z.2+(J0 z.2-i);omega
 ·refine .some ⟨(J2 .i64 i 1,z),rfl,⟨by show 0<=J2 .i64 i 1;omega,by show J2 .i64 i 1<=J0 z.2;omega,h2,h3⟩,?_,?_⟩
  ·show 3000000*J0 z.2+(J0 z.2-J2 .i64 i 1)<3000000*J0 z.2+(J0 z.2-i);omega
  ·show 0<=3000000*J0 z.2+(J0 z.2-i);omega
end
theorem J8y{B S:Int}{x1:JaK}(h:Ty.fit B S JyG x1)(z:BG B S:=by omega):Tot (J3J x1) λy=>Ty.fit B S JD y:=by
 unfold J3J;refine .bind ((J4K h.1).eqn) λA h1=>.not (λr=>?_) λr=>?_
 ·exact .some h.1
 ·have v3:=J3X h.1 h1.2 r;have e:Ty.fit 1024 0 JD x1.1:=v3.2;refine .bind (Jct (B:=1024) (S:=0) (⟨e.1,h.2,trivial,fzr⟩)) λv n=>?_;have g:Ty.fit 1025 0 (.l J5) v:=n.u;refine .bind (Jct (B:=1024) (S:=0) (⟨e.2,h.2,trivial,fzr⟩)) λx j=>?_;have o:Ty.fit 1025 0 (.l J5) x:=j.u;refine .bind (J78 (B:=1025) (S:=0) (⟨g,o⟩)) λw q=>?_;have k:Ty.fit 2050 0 JD w:=q.1.u;exact .some k.u
theorem J8t{B S:Int}{x1:J1l}(h:Ty.fit B S tq1 x1)(w:BG B S:=by omega):Tot (J1g x1) λy=>Ty.fit 4096 8192 (.pr Jl (.i .i64)) y:=by
 unfold J1g;refine .bind ((J1i h.1).eqn) λA h1=>.not (λo=>?_) λo=>?_
 ·exact .some (⟨fzr,fkn 15⟩)
 ·have v3:=J1r h.1 h1.2 o;have e:Ty.fit 4096 8192 J3 x1.1:=v3.2;refine .bind ((J2X (B:=4096) (S:=8192) (x1:=(x1.1.2.2.2.2.2.1,x1.2)) (⟨e.g.1,h.2⟩)).eqn) λn j=>?_;have:=J1.1 j.1.1;have:J0 x1.1.2.2.2.2.2.1=_:=Jm e.g.1;have: -1<=n/\n<J0 x1.1.2.2.2.2.2.1:=j.1.2;refine .lt (λq=>?_) λq=>?_
  ·exact .some (⟨fzr,fkn 16⟩)
  ·refine .bind (Jg e.g.1) λz v=>.eq (λk=>?_) λk=>?_
   ·exact .some (⟨fzr,fkn 15⟩)
   ·refine .bind (Jg e.g.1) λx r=>.some (⟨r.1,fk0⟩)
end Go.Am
end
section
namespace Go.Am
set_option linter.unusedVariables false
set_option maxRecDepth 20000
set_option maxHeartbeats 4000000
theorem Jpo{B S:Int}{x1:J1l}(h:Ty.fit B S tq1 x1)(r:BG B S:=by omega):Tot (J3F x1) λy=>Ty.fit 0 8192 JL7 y:=by
 unfold J3F;refine .bind (J8t (B:=B) (S:=S) (h)) λg h1=>.nef (λn=>?_) λn=>?_
 ·have:J0 g.1.2.2.2.2.1<=4096:=h1.1.e.1.1;have:=J4 (l:=g.1.2.2.2.2.1);refine .eqf (λq=>?_) λq=>?_
  ·have:=J0y (J0 g.1.2.2.2.2.1) 1;refine .bind (Jg h1.1.e.1) λv w=>.le (λo=>?_) λo=>?_
   ·exact .some (⟨⟨fk0,fk0,fk0,fk0,fk0,fk0,⟨fk0,fk0,⟨trivial,Jd⟩,trivial,Jd⟩,Jd⟩,trivial⟩)
   ·refine .bind (Jg h1.1.e.1) λx k=>.bind (J4l (B:=B) (S:=S) (⟨h.1.c.1,k.1⟩)) λz j=>.some (⟨j.1,trivial⟩)
  ·exact .some (⟨⟨fk0,fk0,fk0,fk0,fk0,fk0,⟨fk0,fk0,⟨trivial,Jd⟩,trivial,Jd⟩,Jd⟩,trivial⟩)
 ·exact .some (⟨⟨fk0,fk0,fk0,fk0,fk0,fk0,⟨fk0,fk0,⟨trivial,Jd⟩,trivial,Jd⟩,Jd⟩,trivial⟩)
theorem Jn9{B S:Int}{x1:Jy×J1u}(h:Ty.fit B S (.pr Jk J0A) x1)(o:BS B S 0 0:=by omega):Tot (J3V x1) λy=>Ty.fit 0 S tq3 y:=by
 unfold J3V;have s0:Ty.fit 0 S (.pr Jk J0A) x1:=h;refine .bind (Jec (B:=0) (S:=S) s0.2) λv h1=>.not (λg=>?_) λg=>?_
 ·exact .some (⟨⟨fk0,fk0,JC oo oo (.ar 16 Jj)⟩,fkn 22⟩)
 ·have:=J1.1 s0.2.1;have:=J1.1 s0.2.2.1;have:0<=x1.2.1/\x1.2.1<64/\0<=x1.2.2.1/\x1.2.2.1<16/\J0 x1.2.2.2.1.2<=12/\J0 x1.2.2.2.2.2<=12:=h1.2 g;refine .ne (λj=>?_) λj=>?_
  ·exact .some (⟨⟨fk0,fk0,JC oo oo (.ar 16 Jj)⟩,fkn 6⟩)
  ·refine .bind (J4n) λ_ _=>.bind (J7u s0.1.2.2) λw k=>.not (λe=>?_) λe=>?_
   ·exact .some (⟨⟨fk0,fk0,JC oo oo (.ar 16 Jj)⟩,fkn 20⟩)
   ·have n:=J1S.1 e;refine .bind (J4n) λ_ _=>.bind (J7u s0.1.2.2) λr q=>.some (⟨⟨s0.1.1,s0.1.2.1,JaZ s0.1.2.2 s0.2.2.2.2⟩,fk0⟩)
theorem JvX{B S:Int}{x1:J1u}(h:Ty.fit B S J0A x1)(e:BS B S 0 0:=by omega):Tot (J8r x1) λy=>Ty.fit 0 S J0A y:=by unfold J8r;have s0:Ty.fit 0 S J0A x1:=h;exact .some (⟨s0.1,s0.2.1,s0.2.2.2,s0.2.2.1⟩)
theorem Jp8{B S:Int}{x1:Js0}(h:Ty.fit B S JPi x1)(v:BG B S:=by omega):Tot (J8T x1) λy=>Ty.fit B S JD y:=by
 unfold J8T;refine .bind ((J4K h.1).eqn) λw h1=>.not (λg=>?_) λg=>?_
 ·exact .some h.1
 ·have v3:=J3X h.1 h1.2 g;have e:Ty.fit 1024 0 JD x1.1:=v3.2;refine .bind (Jct (B:=1024) (S:=0) (⟨e.1,h.2.1,trivial,h.c⟩)) λq k=>?_;have j:Ty.fit 1025 0 (.l J5) q:=k.u;refine .bind (J78 (B:=1025) (S:=0) (⟨j,e.2.u⟩)) λr n=>?_;have o:Ty.fit 2050 0 JD r:=n.1.u;exact .some o.u
theorem Jxj{B S:Int}{x1:JDf}(h:Ty.fit B S JPM x1)(J:BG B S:=by omega):Tot (J9H x1) λy=>Ty.fit 64 12 tq6 y:=by
 unfold J9H;refine .bind ((J3S h.1).eqn) λM h1=>.not (λw=>?_) λw=>?_
 ·exact .some (⟨fzr,fkn 15⟩)
 ·have v3:=J2H h.1 h1.2 w;have:J0 x1.1.2.1=_:=Jm h.1.2.1;have g:Ty.fit 64 12 JE x1.1:=v3.2;refine .bind ((J7S (B:=0) (S:=S) (x1:=x1.2) h.2.z).eqn) λK n=>.ne (λk=>?_) λk=>?_
  ·exact .some (⟨fzr,n.1⟩)
  ·have E:=J86 (x:=x1.2) h.2.z n.2 k;have j:Ty.fit 0 12 Jk x1.2:=E.2;refine .bind (J5B (B:=64) (S:=12) (⟨g,j.1⟩)) λC e=>?_;have:=J1.1 e.1;have: -1<=C/\C<J0 x1.1.2.1:=e.2;refine .lt (λA=>?_) λA=>?_
   ·exact .some (⟨fzr,fkn 18⟩)
   ·refine .bind (Jg g.2.1) λL G=>.le (λD=>?_) λD=>?_
    ·exact .some (⟨fzr,fkn 8⟩)
    ·refine .not (λq=>?_) λq=>?_
     ·refine .bind (J8e (B:=64) (S:=12) (⟨g,e.1,j.u,trivial,j.2.1,trivial⟩) om om) λI r=>?_;have v:Ty.fit 64 12 JE I:=r.1.u;exact .some (⟨v,fk0⟩)
     ·refine .bind (J8e (B:=64) (S:=12) (⟨g,e.1,j.u,trivial,G.1.z.2.2.1,trivial⟩) om om) λH F=>?_;have o:Ty.fit 64 12 JE H:=F.1.u;exact .some (⟨o,fk0⟩)
theorem JiH{B S:Int}{x1:Jza}(h:Ty.fit B S JEe x1)(r:BG B S:=by omega):Tot (J8d x1) λy=>Ty.fit B S tq1 y/\(y.2=0->J0 y.1.2.2.1.2.1=J0 x1.1.2.2.1.2.1+1):=by
 unfold J8d;refine .bind ((J5g (B:=B) (S:=S) (x1:=(x1.1,x1.2)) (⟨h.1,h.2.z.u⟩)).eqn) λk h1=>?_;have:J0 k.1.2.2.1.2.1=_:=Jm h1.1.1.1.c.1.2.1;have:J0 x1.1.2.2.1.2.1=_:=Jm h.1.c.1.2.1;have:=J1.1 h.2.z.2.2.2.2.2.2.1.2.1;have:k.2.2=0->J0 k.1.2.2.1.2.1=J0 x1.1.2.2.1.2.1+1/\J0 x1.1.2.2.1.2.1<=4095/\0<=x1.2.2.2.2.2.2.2.1.1/\x1.2.2.2.2.2.2.2.1.1<64/\0<=x1.2.2.2.2.2.2.2.1.2.1/\x1.2.2.2.2.2.2.2.1.2.1<16:=h1.1.2;refine .ne (λn=>?_) λn=>?_
 ·exact .some ⟨(⟨h.1,h1.1.1.c⟩),om⟩
 ·refine .bind (Jai (B:=B) (S:=S) (⟨h.1.d.1,h.2.z.2.2.2.2.2.2.1.1⟩)) λw g=>.bind (J4n) λ_ _=>.bind (J7u g.1.c) λx q=>.bind (Jxj (B:=B) (S:=S) (⟨h.1.d.1,g.1.1,h1.1.1.2.1,(JaZ g.1.c h.2.z.2.2.2.2.2.2.1.2.2.2).u⟩)) λv j=>.ne (λo=>?_) λo=>?_
  ·exact .some ⟨(⟨h.1,j.2⟩),om⟩
  ·exact .some ⟨(⟨⟨h1.1.1.1.1,h1.1.1.1.2.1,h1.1.1.1.c.1.u,j.1.u,h1.1.1.1.e.u⟩,fk0⟩),om⟩
theorem JKL{B S:Int}{x1:JRT}(h:Ty.fit B S (.pr J3 (.pr Jl (.pr JY (.i .i64)))) x1)(p0:x1.2.2.2<=J0 x1.2.1.2.2.2.2.1)(C:0<=x1.2.2.2)(x:BC B S 0 0:=by omega):Tot (J7C x1) λy=>Ty.fit 0 8192 JL7 y:=by
 unfold J7C;have:=J1.1 h.d;have:J0 x1.2.1.2.2.2.2.1<=B:=h.2.1.e.1.1;have:=J0y x1.2.2.2 1;refine Ja (τ:=Int) (λq=>(q,x1.1,x1.2.1,x1.2.2.1,0,0,0,0,0,0,(0,0,(false,[]),false,[]),[])) (λq=>(Ty.fit 0 0 (.i .i64) q/\q<=JI .i64 x1.2.2.2 1)) (λq=>q-0) ?_ (JI .i64 x1.2.2.2 1) rfl ?_
 ·rintro g ⟨w,z⟩;unfold Jfj
  try dsimp only
  have:=J1.1 w;refine .ge (λv=>?_) λv=>?_
  ·refine .bind (Jg h.2.1.e.1) λA r=>.bind (J4l (B:=B) (S:=S) (⟨h.1.c.1,r.1⟩)) λD j=>.eq (λk=>?_) λk=>?_
   ·have:=J1.1 j.1.h.1.1;refine .eq (λo=>?_) λo=>?_
    ·have:=J1.1 j.1.h.1.2.1;refine .eq (λn=>?_) λn=>?_
     ·exact .some (⟨j.1,trivial⟩)
     ·have:=J0y g 1;exact .some ⟨JI .i64 g 1,rfl,⟨J0Y,om⟩,om,om⟩
    ·have:=J0y g 1;exact .some ⟨JI .i64 g 1,rfl,⟨J0Y,om⟩,om,om⟩
   ·have:=J0y g 1;exact .some ⟨JI .i64 g 1,rfl,⟨J0Y,om⟩,om,om⟩
  ·exact .some (⟨⟨fk0,fk0,fk0,fk0,fk0,fk0,⟨fk0,fk0,⟨trivial,Jd⟩,trivial,Jd⟩,Jd⟩,trivial⟩)
 ·try dsimp only
  exact⟨J0Y,oo⟩
theorem Jj9{B S:Int}{x1:JrT}(h:Ty.fit B S JOL x1)(o:BG B S:=by omega):Tot (J2N x1) λy=>Ty.fit 0 8192 JL7 y:=by
 unfold J2N;refine .bind (J8t (B:=B) (S:=S) (⟨h.1,h.2.1⟩)) λg h1=>.nef (λj=>?_) λj=>?_
 ·have:=J1.1 h1.1.2.1;refine .ne (λn=>?_) λn=>?_
  ·exact .some (⟨⟨fk0,fk0,fk0,fk0,fk0,fk0,⟨fk0,fk0,⟨trivial,Jd⟩,trivial,Jd⟩,Jd⟩,trivial⟩)
  ·have:J0 g.1.2.2.2.2.1<=4096:=h1.1.e.1.1;have:=J4 (l:=g.1.2.2.2.2.1);refine .bind (JKL (B:=B) (S:=S) (⟨h.1,h1.1.u,h.c,J3M h1.1.e.1.1 oo⟩) om om) λq k=>.some (⟨k.1,trivial⟩)
 ·exact .some (⟨⟨fk0,fk0,fk0,fk0,fk0,fk0,⟨fk0,fk0,⟨trivial,Jd⟩,trivial,Jd⟩,Jd⟩,trivial⟩)
theorem Jfr{B S:Int}{x1:JMy}(h:Ty.fit B S (.pr J3 (.pr Jl Jh)) x1)(F:BG B S:=by omega):Tot (J2i x1) λy=>Ty.fit B S tq5 y/\((y.2.1=1/\J0 y.1.2.2.1.2.1=J0 x1.1.2.2.1.2.1+1)\/y.2.1=3\/y.2.1=5):=by
 unfold J2i;refine .bind (Jai (B:=B) (S:=S) (⟨h.1.d.1,h.c.z.2.2.2.2.2.2.1.1⟩)) λM h1=>.not (λD=>?_) λD=>?_
 ·have:J0 x1.1.2.2.1.2.1<=B:=h.1.c.1.2.1.1;exact .some ⟨(⟨h.1,fkn 3,fk0,h.c.z.2.2.2.2.2.2.1.1,⟨trivial,Jd⟩,fk0⟩),om⟩
 ·refine .bind (JvX (B:=0) (S:=S) h.c.z.2.2.2.2.2.2.1) λH k=>.bind (Jn9 (B:=0) (S:=S) (⟨h1.1,k⟩)) λL C=>.ne (λA=>?_) λA=>?_
  ·refine .bind (J08 C.2) λJ v=>.some ⟨(⟨h.1,v.1.u⟩),om⟩
  ·refine .bind (JiH (B:=B) (S:=S) (⟨h.1,fk0,fkn 2,h.2.1.1,fk0,fk0,h.c.z.1,k.u,Jd⟩)) λn j=>?_;have:J0 n.1.2.2.1.2.1=_:=Jm j.1.1.c.1.2.1;have:J0 x1.1.2.2.1.2.1=_:=Jm h.1.c.1.2.1;have:n.2=0->J0 n.1.2.2.1.2.1=J0 x1.1.2.2.1.2.1+1:=j.2;refine .ne (λq=>?_) λq=>?_
   ·refine .bind (J08 j.1.2) λG x=>.some ⟨(⟨h.1,x.1.u⟩),om⟩
   ·have:=J1.1 h.2.1.2.1;refine .eq (λo=>?_) λo=>?_
    ·refine .bind (Jj9 (B:=B) (S:=S) (⟨j.1.1,h.2.1.1,k.1,k.2.1⟩)) λI E=>.not (λr=>?_) λr=>?_
     ·refine .bind (Jp8 (B:=B) (S:=S) (⟨j.1.1.e.1,h.2.1.1,k.1,k.2.1⟩)) λK w=>.some ⟨(⟨⟨j.1.1.1,j.1.1.2.1,j.1.1.c.1,j.1.1.d.1,w,j.1.1.g⟩,fkn 1,h.2.1.1,fk0,⟨trivial,Jd⟩,fk0⟩),om⟩
     ·exact .some ⟨(⟨j.1.1,fkn 1,h.2.1.1,fk0,⟨trivial,Jd⟩,fk0⟩),om⟩
    ·exact .some ⟨(⟨j.1.1,fkn 1,h.2.1.1,fk0,⟨trivial,Jd⟩,fk0⟩),om⟩
theorem Jpt{B S:Int}{x1:J1l}(h:Ty.fit B S tq1 x1)(P:BG B S:=by omega):Tot (J1k x1) λy=>Ty.fit B S tq5 y/\((y.2.1=1/\J0 y.1.2.2.1.2.1=J0 x1.1.2.2.1.2.1+1)\/y.2.1=3\/y.2.1=5):=by
 unfold J1k;refine .bind (J8t (B:=B) (S:=S) (h)) λM h1=>.ne (λK=>?_) λK=>?_
 ·refine .bind (J08 h1.2) λR h4=>.some ⟨(⟨h.1,h4.1.u⟩),om⟩
 ·have:=J1.1 h1.1.2.1;refine .eq (λF=>?_) λF=>?_
  ·have:J0 M.1.2.2.2.2.1<=4096:=h1.1.e.1.1;refine .eq (λv=>?_) λv=>?_
   ·refine .bind ((J5g (B:=B) (S:=S) (x1:=(x1.1,0,5,x1.2,0,0,0,(0,0,(false,[]),false,[]),[])) (⟨h.1,fk0,fkn 5,h.2,fk0,fk0,fk0,⟨fk0,fk0,⟨trivial,Jd⟩,trivial,Jd⟩,Jd⟩)).eqn) λr j=>?_;have:J0 r.1.2.2.1.2.1=_:=Jm j.1.1.1.c.1.2.1;have:J0 x1.1.2.2.1.2.1=_:=Jm h.1.c.1.2.1;have:r.2.2=0->J0 r.1.2.2.1.2.1=J0 x1.1.2.2.1.2.1+1/\J0 x1.1.2.2.1.2.1<=4095/\0<=(0:Int)/\(0:Int)<64/\0<=(0:Int)/\(0:Int)<16:=j.1.2;refine .ne (λH=>?_) λH=>?_
    ·refine .bind (J08 j.1.1.c) λU x=>.some ⟨(⟨h.1,x.1.u⟩),om⟩
    ·refine .bind (J8y (B:=16384) (S:=1073741824) (⟨j.1.1.1.e.1,h.2⟩)) λL A=>?_;have E:Ty.fit 16384 1073741824 JD L:=A.u;exact .some ⟨(⟨⟨j.1.1.1.1,j.1.1.1.2.1,j.1.1.1.c.1.u,j.1.1.1.d.1.u,E.u,j.1.1.1.g.u⟩,fkn 1,fk0,fk0,⟨trivial,Jd⟩,fk0⟩),om⟩
   ·refine .bind (Jpo (B:=B) (S:=S) (h)) λQ D=>.not (λw=>?_) λw=>?_
    ·refine .bind (J08 (B:=0) (S:=0) (fkn 14)) λT C=>.some ⟨(⟨h.1,C.1.u⟩),om⟩
    ·refine .bind (Jfr (B:=B) (S:=S) (⟨h.1,h1.1.u,D.1.u⟩)) λq o=>?_;have:(q.2.1=1/\J0 q.1.2.2.1.2.1=J0 x1.1.2.2.1.2.1+1)\/q.2.1=3\/q.2.1=5:=o.2;exact .some ⟨(⟨o.1.1,o.1.2.z.u⟩),om⟩
  ·refine .bind (Jpo (B:=B) (S:=S) (h)) λN G=>.not (λI=>?_) λI=>?_
   ·refine .bind (J08 (B:=0) (S:=0) (fkn 14)) λO J=>.some ⟨(⟨h.1,J.1.u⟩),om⟩
   ·refine .bind (Jfr (B:=B) (S:=S) (⟨h.1,h1.1.u,G.1.u⟩)) λk n=>?_;have:(k.2.1=1/\J0 k.1.2.2.1.2.1=J0 x1.1.2.2.1.2.1+1)\/k.2.1=3\/k.2.1=5:=n.2;exact .some ⟨(⟨n.1.1,n.1.2.z.u⟩),om⟩
theorem JiY{B S:Int}{x1:J1l}(h:Ty.fit B S tq1 x1)(w:BG B S:=by omega):Tot (J71 x1) λy=>Ty.fit 4096 8192 (.pr Jl .b) y:=by
 unfold J71;refine .bind ((J1i h.1).eqn) λA h1=>.ite (λo=>?_) λo=>?_
 ·have v3:=J1r h.1 h1.2 o;have e:Ty.fit 4096 8192 J3 x1.1:=v3.2;refine .bind ((J2X (B:=4096) (S:=8192) (x1:=(x1.1.2.2.2.2.2.1,x1.2)) (⟨e.g.1,h.2⟩)).eqn) λk n=>?_;have:J0 x1.1.2.2.2.2.2.1=_:=Jm e.g.1;have: -1<=k/\k<J0 x1.1.2.2.2.2.2.1:=n.1.2;refine .ge (λq=>?_) λq=>?_
  ·refine .bind (Jg e.g.1) λz v=>.eq (λj=>?_) λj=>?_
   ·refine .bind (Jg e.g.1) λx r=>.some (⟨r.1,trivial⟩)
   ·exact .some (⟨fzr,trivial⟩)
  ·exact .some (⟨fzr,trivial⟩)
 ·exact .some (⟨fzr,trivial⟩)
theorem JEf{B S:Int}{x1:J6}(h:Ty.fit B S J3 x1)(D:BH B S:=by omega)(K:B<=34359738368:=by omega):Tot (Jc4 x1) λy=>Ty.fit B 0 (.l (.i .i64)) y:=by
 unfold Jc4;have:J0 x1.2.2.2.2.2.1<=B:=h.g.1.1;have:=J4 (l:=x1.2.2.2.2.2.1);have:J0 x1.2.2.2.2.2.1=_:=Jm h.g.1;refine Ja (τ:=JDi) (λq=>(q.1,x1,q.2)) (λq=>(Ty.fit 0 0 (.i .i64) q.1/\0<=q.1/\(q.1<=J0 x1.2.2.2.2.2.1\/q.1<=0))/\(Ty.fit B 0 (.l (.i .i64)) q.2/\J0 q.2<=1*q.1+0)) (λq=>J0 x1.2.2.2.2.2.1-q.1) ?_ (0,[]) rfl ?_
 ·rintro⟨e,j⟩ n;dsimp only at n;obtain⟨⟨A,E,J⟩,k,F⟩:=n;unfold Jld
  try dsimp only
  have:=J1.1 A;refine .lt (λx=>?_) λx=>?_
  ·refine .bind (Jg h.g.1) λG o=>.bind (JiY (B:=B) (S:=S) (⟨h,o.1.1⟩)) λI C=>.ite (λw=>?_) λw=>?_
   ·refine .bind (Jg h.g.1) λH r=>?_;have:J0 j<=B:=k.1;refine .bind (J0K (B:=B) (Bl:=B) (Bm:=1) (S:=0) (J0 j) 1 k (J0n (B:=1) (S:=0) (t:=(.i .i64)) oo r.1.1)) λz v=>?_;have:=Jf e 1;exact .some ⟨(J2 .i64 e 1,z),rfl,⟨⟨J7,om,om⟩,v.1,om⟩,om,om⟩
   ·have:=Jf e 1;exact .some ⟨(J2 .i64 e 1,j),rfl,⟨⟨J7,om,om⟩,k,om⟩,om,om⟩
  ·exact .some k
 ·have:J0 ([]:List Int)=0:=rfl
  try dsimp only
  exact⟨⟨fk0,oo,oo⟩,Jb,oo⟩
theorem JId{B S:Int}{x1:Jdn}(h:Ty.fit B S JOs x1)(o:BS B S 0 0:=by omega)(w:B<=9223372036854775807:=by omega):Tot (Jdj x1) λy=>Ty.fit 0 0 .b y:=by
 unfold Jdj;have:J0 x1.1<=B:=h.1.1;have:=J4 (l:=x1.1);refine Ja (τ:=Int) (λq=>(x1.1,x1.2,q)) (λq=>(Ty.fit 0 0 (.i .i64) q/\0<=q/\(q<=J0 x1.1\/q<=0))) (λq=>J0 x1.1-q) ?_ 0 rfl ?_
 ·rintro e ⟨j,r,z5⟩;unfold JmV
  try dsimp only
  have:=J1.1 j;refine .lt (λk=>?_) λk=>?_
  ·refine .bind (Jg h.1) λv n=>.eq (λg=>?_) λg=>?_
   ·exact .some trivial
   ·have:=Jf e 1;exact .some ⟨J2 .i64 e 1,rfl,⟨J7,om,om⟩,om,om⟩
  ·exact .some trivial
 ·try dsimp only
  exact⟨fk0,oo,oo⟩
theorem Jq8{B S:Int}{x1:J6X}(h:Ty.fit B S JuW x1)(n:BC B S 0 0:=by omega):Tot (J95 x1) λy=>Ty.fit 0 256 tq7 y:=by
 unfold J95;refine .bind ((JcV (B:=B) (S:=S) (x1:=(x1.1,x1.2)) (h)).eqn) λr h1=>.ne (λg=>?_) λg=>?_
 ·exact .some (⟨Jd,h1.1⟩)
 ·have v4:=JxM (x:=(x1.1,x1.2)) (h) h1.2 g;have:=J1.1 h.2;have:0<=x1.2/\x1.2<J0 x1.1.1/\J0 x1.1.1<=64:=v4.1;have e:Ty.fit 64 256 JV x1.1:=v4.2;refine .bind (JId (B:=64) (S:=256) (⟨e.c.1,h.2⟩)) λq o=>.ite (λk=>?_) λk=>?_
  ·exact .some (⟨Jd,fkn 11⟩)
  ·refine .bind (Jg e.1) λv j=>.some (⟨j.1.z,fk0⟩)
theorem J1e{B S:Int}{x1:JZ}(h:Ty.fit B S Jv x1)(E:BS B S 0 0:=by omega)(I:S<=9223372036854775807:=by omega):Tot (J0e x1) λy=>Ty.fit 0 0 JY y:=by
 unfold J0e;have s0:Ty.fit 0 S Jv x1:=h;have:=J1.1 s0.2.2;refine .ltf (λr=>?_) λr=>?_
 ·refine .gtf (λv=>?_) λv=>?_
  ·have:=J1.1 s0.2.1;refine .lt (λz=>?_) λz=>?_
   ·exact .some (⟨fk0,fkn 1⟩)
   ·have:J0 x1.1<=S:=s0.1;have:=J4 (l:=x1.1);refine .gtf (λx=>?_) λx=>?_
    ·have:=J0y (J0 x1.1) x1.2.1;refine .lt (λo=>?_) λo=>?_
     ·exact .some (⟨fk0,fkn 5⟩)
     ·refine Ja (τ:=Jat) (λq=>(x1.1,x1.2.1,x1.2.2,q.1,q.2)) (λq=>(Ty.fit 0 0 (.i .i64) q.2/\0<=q.2/\(q.2<=x1.2.2\/q.2<=0))/\Ty.fit 0 0 (.i .u64) q.1) (λq=>x1.2.2-q.2) ?_ (0,0) rfl ?_
      ·rintro⟨j,e⟩ g;dsimp only at g;obtain⟨⟨k,D,A⟩,G⟩:=g;unfold J7R
       try dsimp only
       have:=J1.1 k;refine .lt (λn=>?_) λn=>?_
       ·have:=Jf x1.2.1 e;refine .bind (JrY (l:=x1.1)) λH F=>?_;have:=cvu .u64 (J20 .i64 8 e);refine .bind (JNJ (B:=0) (S:=0) oo) λw C=>?_;have:=Jf e 1;exact .some ⟨(orI .u64 j w,J2 .i64 e 1),rfl,⟨⟨J7,om,om⟩,JMP⟩,om,om⟩
       ·exact .some (⟨Jal,fk0⟩)
      ·try dsimp only
       exact⟨⟨fk0,oo,oo⟩,JaN .u64 0⟩
    ·exact .some (⟨fk0,fkn 5⟩)
  ·exact .some (⟨fk0,fkn 1⟩)
 ·exact .some (⟨fk0,fkn 1⟩)
theorem JC5{B S:Int}{x1:Unit}(h:Ty.fit B S .u x1)(e:BS B S 0 0:=by omega):Tot (J62 x1) λy=>Ty.fit 0 1000000 .s y:=by unfold J62;refine .bind (Jay (B:=0) (S:=0) (fkn 256) om om) λg h1=>.some h1.1
theorem JzF{B S:Int}{x1:List UInt8}(h:Ty.fit B S .s x1)(Y:BS B S 0 0:=by omega)(hS:S<=9223372036854775807:=by omega):Tot (J9l x1) λy=>Ty.fit 0 S tq3 y:=by
 unfold J9l;have s0:Ty.fit 0 S .s x1:=h;have:=J4 (l:=x1);refine .ne (λL=>?_) λL=>?_
 ·exact .some (⟨⟨fk0,fk0,JC oo oo (.ar 16 Jj)⟩,fkn 2⟩)
 ·refine .bind (JC5 trivial) λy2 h4=>.ite (λN=>?_) λN=>?_
  ·exact .some (⟨⟨fk0,fk0,JC oo oo (.ar 16 Jj)⟩,fkn 7⟩)
  ·refine .bind (J7T s0) λy3 h6=>.bind (Jgn s0) λy4 h9=>.ite (λr=>?_) λr=>?_
   ·exact .some (⟨⟨fk0,fk0,JC oo oo (.ar 16 Jj)⟩,fkn 27⟩)
   ·refine .bind ((J1e (B:=0) (S:=S) (x1:=(x1,244,4)) (⟨s0,fkn 244,fkn 4⟩)).eqn) λy5 P=>.bind (J7T s0) λM w=>?_;have A:Ty.fit 0 S .s M:=w.1;refine .bind (Jdo A) λy7 R=>.ne (λI=>?_) λI=>?_
    ·exact .some (⟨⟨fk0,fk0,JC oo oo (.ar 16 Jj)⟩,fkn 3⟩)
    ·refine .bind ((J1e (B:=0) (S:=S) (x1:=(x1,0,8)) (⟨s0,fk0,fkn 8⟩)).eqn) λK D=>.bind ((J1e (B:=0) (S:=S) (x1:=(x1,8,4)) (⟨s0,fkn 8,fkn 4⟩)).eqn) λO C=>Ja (τ:=Jwy) (λq=>(x1,q.1,(0,0,Vector.replicate 16 (false,[])),q.2)) (λq=>(Ty.fit 0 0 (.i .i64) q.1/\0<=q.1/\(q.1<=16\/q.1<=0))/\Ty.fit 0 S Jk q.2) (λq=>16-q.1) ?_ (0,(O.1,K.1,Vector.replicate 16 (false,[]))) rfl ?_
     ·rintro⟨e,g⟩ n;dsimp only at n;obtain⟨⟨z,Q,a0⟩,j⟩:=n;unfold Jgt
      try dsimp only
      have:=J1.1 z;refine .lt (λG=>?_) λG=>?_
      ·have:=JGa e 13;have:=J99 12 (J20 .i64 e 13);refine .bind (JrY (l:=x1)) λo U=>?_;have:=JKG o;refine .eq (λF=>?_) λF=>?_
       ·have:=J99 e 1;exact .some ⟨(J2 .i64 e 1,g),rfl,⟨⟨J7,om,om⟩,j⟩,om,om⟩
       ·refine .gt (λE=>?_) λE=>?_
        ·exact .some (⟨⟨fk0,fk0,JC oo oo (.ar 16 Jj)⟩,fkn 4⟩)
        ·have:=J99 (J2 .i64 12 (J20 .i64 e 13)) 1;have:=J99 (J2 .i64 (J2 .i64 12 (J20 .i64 e 13)) 1) (cvI .i64 o);refine .bind (JcQ s0) λk J=>?_;have H:Ty.fit 0 S .s k:=J.1;refine .bind (J4n) λ_ _=>.bind (J7u j.2.2) λW Z=>?_;have:=J99 e 1;exact .some ⟨(J2 .i64 e 1,(g.1,g.2.1,J9U g.2.2 (Int.toNat e) (true,k))),rfl,⟨⟨J7,om,om⟩,j.1,j.2.1,JaZ j.2.2 (⟨trivial,H⟩)⟩,om,om⟩
      ·refine .inr ?_;refine .bind (J9B j) λT V=>.nef (λx=>?_) λx=>?_
       ·refine .ite (λv=>?_) λv=>?_
        ·exact .some (⟨⟨fk0,fk0,JC oo oo (.ar 16 Jj)⟩,fkn 4⟩)
        ·exact .some (⟨j,fk0⟩)
       ·exact .some (⟨⟨fk0,fk0,JC oo oo (.ar 16 Jj)⟩,fkn 4⟩)
     ·try dsimp only
      exact⟨⟨fk0,oo,oo⟩,C.1.1,D.1.1,JC oo oo (.ar 16 Jj)⟩
theorem JJ7{B S x1:Int}(h:Ty.fit B S (.i .i64) x1)(e:BS B S 0 0:=by omega):Tot (Ja9 x1) λy=>Ty.fit 0 0 Jk y:=by unfold Ja9;exact .some (⟨h,fk0,JC oo oo (.ar 16 Jj)⟩)
theorem Juk{B S:Int}{x1:J2A}(h:Ty.fit B S tq7 x1)(q:BS B S 0 0:=by omega)(v:S<=9223372036854775807:=by omega):Tot (J3f x1) λy=>Ty.fit 0 S tq3 y:=by
 unfold J3f;have s0:Ty.fit 0 S tq7 x1:=h;refine .ltf (λo=>?_) λo=>?_
 ·refine .ge (λg=>?_) λg=>?_
  ·exact .some (⟨⟨fk0,fk0,JC oo oo (.ar 16 Jj)⟩,fkn 1⟩)
  ·refine .bind (JzF (B:=0) (S:=S) s0.1) λw h4=>.eq (λn=>?_) λn=>?_
   ·refine .bind (JJ7 (B:=0) (S:=0) s0.2) λr j=>.some (⟨j.u,fk0⟩)
   ·refine .eq (λk=>?_) λk=>?_
    ·have:=J1.1 h4.1.1;refine .ne (λe=>?_) λe=>?_
     ·exact .some (⟨⟨fk0,fk0,JC oo oo (.ar 16 Jj)⟩,fkn 6⟩)
     ·exact .some (h4)
    ·exact .some (h4)
 ·exact .some (⟨⟨fk0,fk0,JC oo oo (.ar 16 Jj)⟩,fkn 1⟩)
theorem JCf{B S:Int}{x1:JHv}(h:Ty.fit B S JS1 x1)(E:BC B S 0 0:=by omega)(J:S<=9223372036854775807:=by omega):Tot (J4H x1) λy=>Ty.fit 0 S tq3 y:=by
 unfold J4H;refine .bind ((J5Y h.1).eqn) λK h1=>.not (λr=>?_) λr=>?_
 ·exact .some (⟨⟨fk0,fk0,JC oo oo (.ar 16 Jj)⟩,fkn 28⟩)
 ·have v3:=J4N h.1 h1.2 r;have:J0 x1.1=_:=Jm h.1;have g:Ty.fit 64 0 (.l J9) x1.1:=v3.2;have:=J1.1 h.2.z.1;refine .ltf (λx=>?_) λx=>?_
  ·refine .gef (λo=>?_) λo=>?_
   ·have:=J1.1 h.2.z.2.1;refine .lt (λj=>?_) λj=>?_
    ·exact .some (⟨⟨fk0,fk0,JC oo oo (.ar 16 Jj)⟩,fkn 1⟩)
    ·refine .bind (Juk (B:=0) (S:=S) (⟨h.2.z.2.2,h.2.z.1⟩)) λF e=>.ne (λq=>?_) λq=>?_
     ·exact .some (⟨⟨fk0,fk0,JC oo oo (.ar 16 Jj)⟩,e.2⟩)
     ·have:=J1.1 e.1.2.1;refine .gt (λk=>?_) λk=>?_
      ·refine .bind (Jg g) λI C=>.gt (λw=>?_) λw=>?_
       ·exact .some (⟨⟨fk0,fk0,JC oo oo (.ar 16 Jj)⟩,fkn 9⟩)
       ·refine .bind (Jg g) λG A=>.lt (λv=>?_) λv=>?_
        ·exact .some (⟨⟨fk0,fk0,JC oo oo (.ar 16 Jj)⟩,fkn 8⟩)
        ·exact .some (⟨e.1,fk0⟩)
      ·refine .bind (Jg g) λH D=>.lt (λn=>?_) λn=>?_
       ·exact .some (⟨⟨fk0,fk0,JC oo oo (.ar 16 Jj)⟩,fkn 8⟩)
       ·exact .some (⟨e.1,fk0⟩)
   ·exact .some (⟨⟨fk0,fk0,JC oo oo (.ar 16 Jj)⟩,fkn 1⟩)
  ·exact .some (⟨⟨fk0,fk0,JC oo oo (.ar 16 Jj)⟩,fkn 1⟩)
theorem JIy{B S:Int}{x1:JDf}(h:Ty.fit B S JPM x1)(D:BG B S:=by omega):Tot (J6z x1) λy=>Ty.fit 65 12 (.pr (.i .i64) (.pr (.i .i64) (.pr (.i .i64) (.l JF)))) y/\(y.2.2.1=0->J0 y.2.2.2=J0 x1.1.2.1+1):=by
 unfold J6z;refine .bind ((J3S h.1).eqn) λG h1=>.not (λr=>?_) λr=>?_
 ·have:J0 x1.1.2.1<=B:=h.1.2.1.1;exact .some ⟨(⟨fk0,fk0,fkn 15,Jb⟩),om⟩
 ·have w:=J2H h.1 h1.2 r;have:J0 x1.1.2.1<=B:=h.1.2.1.1;have:J0 x1.1.2.1=_:=Jm h.1.2.1;have e:Ty.fit 64 12 JE x1.1:=w.2;refine .bind ((J7S (B:=0) (S:=S) (x1:=x1.2) h.2.z).eqn) λE g=>.ne (λk=>?_) λk=>?_
  ·exact .some ⟨(⟨fk0,fk0,g.1,Jb⟩),om⟩
  ·have v:=J86 (x:=x1.2) h.2.z g.2 k;have n:Ty.fit 0 12 Jk x1.2:=v.2;refine .bind (J5B (B:=64) (S:=12) (⟨e,n.1⟩)) λF C=>.ge (λo=>?_) λo=>?_
   ·exact .some ⟨(⟨fk0,fk0,fkn 25,Jb⟩),om⟩
   ·refine .eq (λq=>?_) λq=>?_
    ·exact .some ⟨(⟨fk0,fk0,fkn 21,Jb⟩),om⟩
    ·refine .clo e.2.1 oo (by decide) ?_;refine .bind (J0K (B:=65) (Bl:=64) (Bm:=1) (S:=12) (J0 x1.1.2.1) 1 e.2.1 (J0n (B:=1) (S:=12) (t:=JF) oo (⟨n.u,trivial,fk0,trivial⟩))) λA j=>?_;have:J0 A=_:=Jm j.1;exact .some ⟨(⟨e.1,e.c,fk0,j.1⟩),om⟩
theorem JxT{B S:Int}{x1:JLu}(h:Ty.fit B S (.pr J3 Jk) x1)(a8:BG B S:=by omega):Tot (J4e x1) λy=>Ty.fit 4096 8192 tq1 y/\(y.2=0->J0 y.1.2.2.1.2.1=J0 x1.1.2.2.1.2.1):=by
 unfold J4e;refine .bind ((J1i h.1).eqn) λy2 h1=>.not (λM=>?_) λM=>?_
 ·have:J0 x1.1.2.2.1.2.1<=B:=h.1.c.1.2.1.1;exact .some ⟨(⟨fzr,fkn 15⟩),om⟩
 ·have Z:=J1r h.1 h1.2 M;have:=J4 (l:=x1.1.2.2.2.1.2.1);have:J0 x1.1.2.2.2.1.2.1=_:=Jm h.1.d.1.2.1;have k:Ty.fit 4096 8192 J3 x1.1:=Z.2;refine .ltf (λP=>?_) λP=>?_
  ·refine .ge (λI=>?_) λI=>?_
   ·exact .some ⟨(⟨fzr,fkn 1⟩),om⟩
   ·have K:Ty.fit 16384 1073741824 tq1 (x1.1,x1.2.1):=⟨k.u,h.2.z.1⟩;refine .bind (J8N K) λy3 a3=>.lt (λH=>?_) λH=>?_
    ·exact .some ⟨(⟨fzr,fkn 8⟩),om⟩
    ·have L:Ty.fit 16384 1073741824 tq1 (x1.1,x1.2.1):=⟨k.u,h.2.z.1⟩;refine .bind (J8N L) λy4 a4=>.gt (λJ=>?_) λJ=>?_
     ·exact .some ⟨(⟨fzr,fkn 9⟩),om⟩
     ·have R:Ty.fit 16384 S JPM (x1.1.2.2.2.1,x1.2):=⟨k.d.1.u,h.2.z.u⟩;refine .bind (JIy R) λj o=>?_;have:J0 j.2.2.2<=65:=o.1.d.1;have:=J4 (l:=j.2.2.2);have:J0 j.2.2.2=_:=Jm o.1.d;have:j.2.2.1=0->J0 j.2.2.2=J0 x1.1.2.2.2.1.2.1+1:=o.2;refine .ne (λT=>?_) λT=>?_
      ·exact .some ⟨(⟨fzr,o.1.c.1⟩),om⟩
      ·refine .bind (Jax (B:=4096) (S:=8192) (⟨k,h.2.z.1⟩)) λG U=>.ite (λQ=>?_) λQ=>?_
       ·have:=J0y (J0 j.2.2.2) 1;refine .bind (J6p (l:=j.2.2.2)) λ_ _=>.bind (JeQ o.1.d) λn v=>?_;have:J0 (J0w j.2.2.2 (Int.toNat (JI .i64 (J0 j.2.2.2) 1)) (n.1,true,n.2.2))<=65:=(J4E (t:=JF) (i:=Int.toNat (JI .i64 (J0 j.2.2.2) 1)) (x:=(n.1,true,n.2.2)) o.1.d (⟨v.1.z.1.u,trivial,v.1.z.2.2⟩)).1;have:=J4 (l:=J0w j.2.2.2 (Int.toNat (JI .i64 (J0 j.2.2.2) 1)) (n.1,true,n.2.2));have:J0 (J0w j.2.2.2 (Int.toNat (JI .i64 (J0 j.2.2.2) 1)) (n.1,true,n.2.2))=_:=Jm (J4E (t:=JF) (i:=Int.toNat (JI .i64 (J0 j.2.2.2) 1)) (x:=(n.1,true,n.2.2)) o.1.d (⟨v.1.z.1.u,trivial,v.1.z.2.2⟩));have:J0 (J0w j.2.2.2 (Int.toNat (JI .i64 (J0 j.2.2.2) 1)) (n.1,true,n.2.2))=J0 j.2.2.2:=J6L;have:=J0y (J0 (J0w j.2.2.2 (Int.toNat (JI .i64 (J0 j.2.2.2) 1)) (n.1,true,n.2.2))) 1;refine .bind (J6p (l:=J0w j.2.2.2 (Int.toNat (JI .i64 (J0 j.2.2.2) 1)) (n.1,true,n.2.2))) λ_ _=>.bind (JeQ (J4E (t:=JF) (i:=Int.toNat (JI .i64 (J0 j.2.2.2) 1)) (x:=(n.1,true,n.2.2)) o.1.d (⟨v.1.z.1.u,trivial,v.1.z.2.2⟩))) λA N=>?_;have:J0 x1.1.2.2.2.2.2.2.2<=4096:=k.i.1;have:=J4 (l:=x1.1.2.2.2.2.2.2.2);have:J0 x1.1.2.2.2.2.2.2.2=_:=Jm k.i;refine Ja (τ:=JgY) (λq=>(q.1,x1.1,x1.2,(0,0,(0,[],0),(0,[],0),([],[]),[],[],[]),J0w (J0w j.2.2.2 (Int.toNat (JI .i64 (J0 j.2.2.2) 1)) (n.1,true,n.2.2)) (Int.toNat (JI .i64 (J0 (J0w j.2.2.2 (Int.toNat (JI .i64 (J0 j.2.2.2) 1)) (n.1,true,n.2.2))) 1)) (A.1,A.2.1,G.1.2.1,A.2.2.2),j.1,j.2.1,G.1,q.2)) (λq=>(Ty.fit 0 0 (.i .i64) q.1/\0<=q.1/\(q.1<=J0 x1.1.2.2.2.2.2.2.2\/q.1<=0))/\(Ty.fit 4096 0 (.l J9) q.2/\J0 q.2<=1*q.1+0)) (λq=>J0 x1.1.2.2.2.2.2.2.2-q.1) ?_ (0,[]) rfl ?_
        ·rintro⟨w,r⟩ F;dsimp only at F;obtain⟨⟨W,a1,a2⟩,C,a7⟩:=F;unfold Jb2
         try dsimp only
         have:=J1.1 W;refine .lt (λO=>?_) λO=>?_
         ·refine .bind (Jg k.i) λa5 a6=>.ne (λV=>?_) λV=>?_
          ·refine .bind (Jg k.i) λa0 Y=>?_;have:J0 r<=4096:=C.1;have:=J4 (l:=r);have:J0 r=_:=Jm C;refine .bind (J0K (B:=4096) (Bl:=4096) (Bm:=1) (S:=0) (J0 r) 1 C (J0n (B:=1) (S:=0) (t:=J9) oo Y.1)) λE D=>?_;have:=Jf w 1;have:J0 E=_:=Jm D.1;exact .some ⟨(J2 .i64 w 1,E),rfl,⟨⟨J7,om,om⟩,D.1,om⟩,om,om⟩
          ·have:=Jf w 1;have:J0 r=_:=Jm C;exact .some ⟨(J2 .i64 w 1,r),rfl,⟨⟨J7,om,om⟩,C,om⟩,om,om⟩
         ·exact .some ⟨(⟨⟨k.1,k.2.1,k.c.1,⟨o.1.1,(J4E (t:=JF) (i:=Int.toNat (JI .i64 (J0 (J0w j.2.2.2 (Int.toNat (JI .i64 (J0 j.2.2.2) 1)) (n.1,true,n.2.2))) 1)) (x:=(A.1,A.2.1,G.1.2.1,A.2.2.2)) (J4E (t:=JF) (i:=Int.toNat (JI .i64 (J0 j.2.2.2) 1)) (x:=(n.1,true,n.2.2)) o.1.d (⟨v.1.z.1.u,trivial,v.1.z.2.2⟩)) (⟨N.1.z.1.u,trivial,U.1.2.1,trivial⟩)).u,o.1.2.1⟩,k.e.1,k.g.1,k.h.1,C.u⟩,fk0⟩),om⟩
        ·have:J0 ([]:List T_api_Row)=0:=rfl
         try dsimp only
         exact⟨⟨fk0,oo,oo⟩,Jb,oo⟩
       ·exact .some ⟨(⟨⟨k.1,k.2.1,k.c.1,⟨o.1.1,o.1.d.u,o.1.2.1⟩,k.e⟩,fk0⟩),om⟩
  ·exact .some ⟨(⟨fzr,fkn 1⟩),om⟩
theorem JCB{B S:Int}{x1:JMw}(h:Ty.fit B S (.pr Jk Jh) x1)(E:BS B S 0 0:=by omega):Tot (J4F x1) λy=>Ty.fit 0 8192 tq3 y:=by
 unfold J4F;have s0:Ty.fit 0 S (.pr Jk Jh) x1:=h;refine .bind ((J3R (B:=0) (S:=S) (x1:=x1.2) s0.2).eqn) λH h1=>.nof (λr=>?_) λr=>?_
 ·have v3:=J35 (x:=x1.2) s0.2 h1.2 r;have g:Ty.fit 0 8192 Jh x1.2:=v3.2;refine .bind (J2w g) λF D=>.not (λA=>?_) λA=>?_
  ·exact .some (⟨⟨fk0,fk0,JC oo oo (.ar 16 Jj)⟩,fkn 12⟩)
  ·refine .bind ((J7S (B:=0) (S:=S) (x1:=x1.1) s0.1).eqn) λG j=>.ne (λk=>?_) λk=>?_
   ·exact .some (⟨⟨fk0,fk0,JC oo oo (.ar 16 Jj)⟩,j.1⟩)
   ·have v:=J86 (x:=x1.1) s0.1 j.2 k;have q:Ty.fit 0 12 Jk x1.1:=v.2;refine .ne (λn=>?_) λn=>?_
    ·exact .some (⟨⟨fk0,fk0,JC oo oo (.ar 16 Jj)⟩,fkn 6⟩)
    ·refine .ne (λo=>?_) λo=>?_
     ·exact .some (⟨⟨fk0,fk0,JC oo oo (.ar 16 Jj)⟩,fkn 13⟩)
     ·refine .bind (Jn9 (B:=0) (S:=8192) (⟨q.u,g.h.1⟩)) λC z=>?_;have e:Ty.fit 0 8192 tq3 C:=z.u;refine .ne (λw=>?_) λw=>?_
      ·exact .some (⟨⟨fk0,fk0,JC oo oo (.ar 16 Jj)⟩,e.2⟩)
      ·exact .some (⟨⟨e.1.1,g.1,e.1.c⟩,fk0⟩)
 ·exact .some (⟨⟨fk0,fk0,JC oo oo (.ar 16 Jj)⟩,fkn 12⟩)
section
variable {B S:Int}
theorem JFg{x1:J04×T_api_Row}(h:Ty.fit B S (.pr JS J9) x1)(E:BC B S 0 0:=by omega):Tot (JbU x1) λy=>Ty.fit 4096 8192 JPk y:=by
 obtain⟨l,r,last,j⟩:=x1;obtain⟨hl,hp,o,x⟩:=h;unfold JbU;dsimp only;dsimp only at hl hp o x;have z0: ∀k:Int,Ty.fit 0 0 (.i .i64) k->Ty.fit 4096 8192 JPk (([]:List Js),k):=λk hk=>⟨Jb,hk⟩;refine .bind ((J2k hl).eqn) λL h2=>.not (λ_=>.some (z0 _ (fkn 26))) λc=>.ltf (λG=>.gef (λI=>.ltf (λK=>.lt (λ_=>.some (z0 _ (fkn 1))) λC=>?_) λ_=>.some (z0 _ (fkn 1))) λ_=>.some (z0 _ (fkn 1))) λ_=>.some (z0 _ (fkn 1));subst c;obtain⟨q,w⟩:=JmS hl h2.2;have z:=(J1Y hl h2.2 rfl).2;refine Ja (τ:=JDd) (λq=>(r,j,q.1,q.2,l)) (λq=>Ty.fit 4096 8192 (.l Jh) q.1/\Ty.fit 0 0 (.i .i64) q.2/\(J0 q.1=0\/J0 q.1+q.2<=l.1+J0 l.2.1-1)) (λq=>q.2) ?_ ([],last) rfl ⟨Jb,o,.inl rfl⟩;rintro⟨out,e⟩ ⟨g1,g2,D⟩;dsimp only at g1 g2 D;unfold Jkj;dsimp only;refine .gt (λc=>?_) λc=>.inr (.lt (λ_=>.some (z0 _ (fkn 13))) λ_=>.some ⟨g1,fk0⟩);refine .bind ((J4l (x1:=(l,e)) ⟨z,g2⟩).eqn) λv g=>.ne (λ_=>.some (z0 _ (fkn 14))) λC=>.bind (J2w g.1.1) λH J=>.nof (λ_=>.ne (λ_=>.some (z0 _ (fkn 13))) λ_=>?_) λ_=>.some (z0 _ (fkn 13));rcases Jt0 g.2 with⟨_,_,a1,a2,a3⟩|⟨_,b⟩
 ·obtain⟨e1,e2⟩:=w _ _ a3;have M:=(J35 g.1.1 e2 rfl).1;have:=J4 (l:=out);have N:J0 out+1<=4096:=by omega
  unfold Je7;dsimp only;refine .bind (.bind (J0K (B:=4096) (Bl:=4096) (Bm:=4096) (S:=8192) (t:=Jh) 1 (J0 out) (J0n (B:=4096) (S:=8192) oo g.1.1) g1 rfl rfl (J0U _) (J0U _) oo oo (by decide)) λy h=>.some h) λn A=>.some ⟨(n,v.1.2.2.2.2.1),rfl,⟨A.1,g.1.1.2.2.2.2.1,?_⟩,?_,?_⟩
  ·have F:J0 n=1+J0 out:=A.2.1;show J0 n=0\/J0 n+v.1.2.2.2.2.1<=l.1+J0 l.2.1-1;omega
  ·show v.1.2.2.2.2.1<e;omega
  ·show 0<=e;omega
 ·exact absurd C b
end
theorem JAV{B S:Int}{x1:Ju6}(h:Ty.fit B S (.pr JS tq3) x1)(w:BC B S 0 0:=by omega):Tot (Jav x1) λy=>Ty.fit 4096 8192 JPk y:=by
 unfold Jav;refine .bind ((J2k h.1).eqn) λD h1=>.not (λo=>?_) λo=>?_
 ·exact .some (⟨Jb,fkn 26⟩)
 ·have v3:=J1Y h.1 h1.2 o;have n:Ty.fit 4096 8192 JS x1.1:=v3.2;refine .bind ((J7S (B:=0) (S:=S) (x1:=x1.2.1) h.2.z.1).eqn) λA g=>.ne (λe=>?_) λe=>?_
  ·exact .some (⟨Jb,g.1⟩)
  ·have v:=J86 (x:=x1.2.1) h.2.z.1 g.2 e;have j:Ty.fit 0 12 Jk x1.2.1:=v.2;refine .lt (λq=>?_) λq=>?_
   ·exact .some (⟨Jb,fkn 1⟩)
   ·refine .ge (λr=>?_) λr=>?_
    ·exact .some (fzr)
    ·refine .bind (JFg (B:=4096) (S:=8192) (⟨n,j.1,h.2.z.2,j.2.1⟩)) λC k=>.some (k)
theorem JGd{B S:Int}{x1:Ju6}(h:Ty.fit B S (.pr JS tq3) x1)(D:BC B S 0 0:=by omega):Tot (J5I x1) λy=>Ty.fit 0 (S+8192) (.pr Jk JY) y:=by
 unfold J5I;refine .bind (JAV (B:=B) (S:=S) (⟨h.1,h.2.z.1.u,h.2.z.2⟩)) λe h1=>.ne (λC=>?_) λC=>?_
 ·exact .some (⟨⟨fk0,fk0,JC oo oo (.ar 16 Jj)⟩,fk0,h1.2⟩)
 ·have:J0 e.1<=4096:=h1.1.1;have:=J4 (l:=e.1);have:J0 e.1=_:=Jm h1.1;refine Ja (τ:=Jwy) (λq=>(e.1,q.1,x1.1,q.2,0,0,Vector.replicate 16 (false,[]))) (λq=>(Ty.fit 0 0 (.i .i64) q.1/\0<=q.1/\(q.1<=J0 e.1\/q.1<=0))/\Ty.fit 0 (S+8192) Jk q.2) (λq=>J0 e.1-q.1) ?_ (0,x1.2.1) rfl ?_
  ·rintro⟨g,w⟩ j;dsimp only at j;obtain⟨⟨x,G,E⟩,o⟩:=j;unfold Jd7
   try dsimp only
   have:=J1.1 x;refine .lt (λn=>?_) λn=>?_
   ·refine .bind (Jg h1.1) λF r=>.bind (JCB (B:=0) (S:=(S+8192)) (⟨o,r.1.z.u⟩)) λA k=>.ne (λv=>?_) λv=>?_
    ·exact .some (⟨⟨fk0,fk0,JC oo oo (.ar 16 Jj)⟩,fk0,k.2⟩)
    ·have:=Jf g 1;exact .some ⟨(J2 .i64 g 1,A.1),rfl,⟨⟨J7,om,om⟩,k.1.u⟩,om,om⟩
   ·exact .some (⟨o,J3M h1.1.1 oo,fk0⟩)
  ·try dsimp only
   exact⟨⟨fk0,oo,oo⟩,h.2.z.1.u⟩
theorem JHs{B S:Int}{x1:Ju6}(h:Ty.fit B S (.pr JS tq3) x1)(e:BC B S 0 0:=by omega):Tot (J5A x1) λy=>Ty.fit 0 (S+8192) tq3 y:=by unfold J5A;refine .bind (JGd (B:=B) (S:=S) (⟨h.1,h.2.z.1.u,h.2.z.2⟩)) λg h1=>.some (⟨h1.1,h1.c⟩)
theorem JEc{B S:Int}{x1:J4A}(h:Ty.fit B S tq6 x1)(F:BG B S:=by omega):Tot (Jc2 x1) λy=>Ty.fit 128 12 tq6 y:=by
 unfold Jc2;refine .bind ((J3S h.1).eqn) λH h1=>.not (λz=>?_) λz=>?_
 ·exact .some (⟨fzr,fkn 15⟩)
 ·have v3:=J2H h.1 h1.2 z;have:J0 x1.1.2.1<=B:=h.1.2.1.1;have:=J4 (l:=x1.1.2.1);have:J0 x1.1.2.1=_:=Jm h.1.2.1;have e:Ty.fit 64 12 JE x1.1:=v3.2;refine .bind (J5B (B:=64) (S:=12) (⟨e,h.2⟩)) λq o=>?_;have:=J1.1 o.1;have: -1<=q/\q<J0 x1.1.2.1:=o.2;refine .lt (λw=>?_) λw=>?_
  ·exact .some (⟨fzr,fkn 18⟩)
  ·refine .bind (Jg e.2.1) λG E=>.ite (λC=>?_) λC=>?_
   ·exact .some (⟨fzr,fkn 23⟩)
   ·refine .bind (J97 e.2.1) λx j=>.clo j.1 oo (by decide) ?_;have:=Jf q 1;refine .bind (J6A e.2.1) λn k=>?_;have:J0 x=_:=Jm j.1;have:J0 n<=64:=k.1.1;have:=J4 (l:=n);have:J0 n=_:=Jm k.1;refine .bind (J0K (B:=128) (Bl:=64) (Bm:=64) (S:=12) (J0 x) (J0 n) j.1 k.1) λD g=>.lt (λr=>?_) λr=>?_
    ·have:=J0y x1.1.2.2 1;refine .ge (λv=>?_) λv=>?_
     ·exact .some (⟨⟨e.1,g.1,fk0⟩,fk0⟩)
     ·exact .some (⟨⟨e.1,g.1,J0Y⟩,fk0⟩)
    ·have:J0 D<=128:=g.1.1;refine .ge (λA=>?_) λA=>?_
     ·exact .some (⟨⟨e.1,g.1,fk0⟩,fk0⟩)
     ·exact .some (⟨⟨e.1,g.1,e.c⟩,fk0⟩)
section
variable {B S:Int}
def JM9{σ τ ρ:Type}(R:σ->τ->Prop)(o:Option (σ⊕ρ))(e:Option (τ⊕ρ)):Prop:=(o=none/\e=none)\/(∃y,o=some (.inr y)/\e=some (.inr y))\/ ∃a b,o=some (.inl a)/\e=some (.inl b)/\R a b
theorem JzV{σ τ ρ:Type}{R:σ->τ->Prop}{L:σ->Option (σ⊕ρ)}{L':τ->Option (τ⊕ρ)}(h: ∀z g,R z g->JM9 R (L z) (L' g)){z:σ}{g:τ}(hz:R z g):Jc L z=Jc L' g:=by
 have j: ∀n z g,R z g->J27 L n z=J27 L' n g:=by
  intro n
  induction n with
  |zero=>intros;rfl
  |succ n ih=>
   intro z g hz;rcases h z g hz with⟨h1,h2⟩|⟨y,h1,h2⟩|⟨a,b,h1,h2,h3⟩
   ·simp only[J27,h1,h2]
   ·simp only[J27,h1,h2]
   ·simp only[J27,h1,h2];exact ih a b h3
 cases e:Jc L z with
 |some r=>
  obtain⟨n,hn⟩:=J2t.1 e;exact(J2t.2 ⟨n,(j n z g hz)▸hn⟩).symm
 |none=>
  cases e':Jc L' g with
  |none=>rfl
  |some r=>
   obtain⟨n,hn⟩:=J2t.1 e';rw[J2t.2 ⟨n,(j n z g hz).symm▸hn⟩]at e;cases e
def FrE(f g:JP):Prop:=f.1=g.1/\f.2.1=g.2.1/\f.2.2.1=g.2.2.1
def JfH(l m:List JP):Prop:=l.length=m.length/\ ∀(j:Nat) (f g:JP),l[j]?=some f->m[j]?=some g->FrE f g
theorem JfH.idx{l m:List JP}(h:JfH l m)(i:Int):(idx l i=none/\idx m i=none)\/ ∃f g,idx l i=some f/\idx m i=some g/\FrE f g:=by
 unfold Am.idx;by_cases e:0<=i
 ·rw[if_pos e,if_pos e];by_cases hl:i.toNat<l.length
  ·exact .inr ⟨_,_,JK hl,JK (h.1▸hl),h.2 _ _ _ (JK hl) (JK (h.1▸hl))⟩
  ·exact .inl ⟨zQ3 oo,zQ3 (by have:=h.1;omega)⟩
 ·rw[if_neg e,if_neg e];exact .inl ⟨rfl,rfl⟩
theorem JfH.refl(l:List JP):JfH l l:=⟨rfl,λj f g h1 h2=>by rw[h1]at h2;injection h2 with h2;subst h2;exact⟨rfl,rfl,rfl⟩⟩
theorem JfH.put{l m:List JP}(h:JfH l m){i:Int}{f g:JP}(hi:Am.idx m i=some f)(e:FrE g f):JfH l (J0w m i.toNat g):=by
 refine⟨by unfold J0w;rw[List.length_set];exact h.1,λj a b ha hb=>?_⟩;unfold J0w at hb;rw[List.getElem?_set]at hb;split at hb
 ·rename_i hj;split at hb
  ·injection hb with hb;subst hb;obtain⟨_,h2⟩:=J5G hi;rw[hj]at h2;obtain⟨q1,q2,q3⟩:=h.2 j a f ha h2;exact⟨q1.trans e.1.symm,q2.trans e.2.1.symm,q3.trans e.2.2.symm⟩
  ·cases hb
 ·exact h.2 j a b ha hb
theorem JRA(n i:Int)(p q:J00)(f g:JP)(hp:JfH p.2.1 q.2.1)(hf:FrE f g):(Jc J09 (n,i,0,p,f)=some (.inr false)/\Jc J09 (n,i,0,q,g)=some (.inr false))\/(Jc J09 (n,i,0,p,f)=some (.inl (n,J2 .i64 i 1,p))/\Jc J09 (n,i,0,q,g)=some (.inl (n,J2 .i64 i 1,q)))\/(Jc J09 (n,i,0,p,f)=none/\Jc J09 (n,i,0,q,g)=none):=by
 let w:J00->((TQ115)⊕Bool)->Bool:=λ_ r=>match r with| .inl _=>true| .inr b=>b
 have j: ∀m k,(J27 J09 m (n,i,k,p,f)=none/\J27 J09 m (n,i,k,q,g)=none)\/(J27 J09 m (n,i,k,p,f)=some (.inr false)/\J27 J09 m (n,i,k,q,g)=some (.inr false))\/(J27 J09 m (n,i,k,p,f)=some (.inl (n,J2 .i64 i 1,p))/\J27 J09 m (n,i,k,q,g)=some (.inl (n,J2 .i64 i 1,q))):=by
  intro m
  induction m with
  |zero=>intro k;exact .inl ⟨rfl,rfl⟩
  |succ m ih=>
   intro k;simp only[J27];unfold J09;dsimp only;by_cases hk:ltI k i=true
   ·rw[if_pos hk,if_pos hk];rcases hp.idx k with⟨e1,e2⟩|⟨a,b,e1,e2,v⟩
    ·rw[e1,e2];exact .inl ⟨rfl,rfl⟩
    ·rw[e1,e2,JJ,JJ,<-v.1,<-hf.1];by_cases hc:eqI a.1.1 f.1.1=true
     ·rw[if_pos hc,if_pos hc];exact .inr (.inl ⟨rfl,rfl⟩)
     ·rw[if_neg hc,if_neg hc];exact ih _
   ·rw[if_neg hk,if_neg hk];exact .inr (.inr ⟨rfl,rfl⟩)
 by_cases hx: ∃m r,J27 J09 m (n,i,0,p,f)=some r
 ·obtain⟨m,r,hm⟩:=hx;rcases j m 0 with⟨h1,_⟩|⟨h1,h2⟩|⟨h1,h2⟩
  ·rw[h1]at hm;cases hm
  ·exact .inl ⟨J2t.2 ⟨m,h1⟩,J2t.2 ⟨m,h2⟩⟩
  ·exact .inr (.inl ⟨J2t.2 ⟨m,h1⟩,J2t.2 ⟨m,h2⟩⟩)
 ·have o:Jc J09 (n,i,0,p,f)=none:=by
   cases e:Jc J09 (n,i,0,p,f)with
   |none=>rfl
   |some r=>obtain⟨m,hm⟩:=J2t.1 e;exact absurd ⟨m,r,hm⟩ hx
  have h:Jc J09 (n,i,0,q,g)=none:=by
   cases e:Jc J09 (n,i,0,q,g)with
   |none=>rfl
   |some r=>
    obtain⟨m,hm⟩:=J2t.1 e;rcases j m 0 with⟨_,h2⟩|⟨h1,_⟩|⟨h1,_⟩
    ·rw[h2]at hm;cases hm
    ·exact absurd ⟨m,_,h1⟩ hx
    ·exact absurd ⟨m,_,h1⟩ hx
  exact .inr (.inr ⟨o,h⟩)
theorem Jvo{p q:J00}(hs:p.1=q.1)(hf:JfH p.2.1 q.2.1)(e:J0g p=some true)(E:0<=q.2.2)(h1:q.2.2<J0 q.2.1\/q.2.2=0):J0g q=some true:=by
 obtain⟨⟨D,L,C,F,G⟩,_⟩:=Jeg e;have el:J0 p.2.1=J0 q.2.1:=by unfold J0;rw[hf.1]
 have I:=Jjv 0 (JI .i64 (J0 q.2.1) 1);have H:=J0y (J0 q.2.1) 1;have J:=J4 (l:=q.2.1);have A: ∀x:J00,1<=x.1->x.1<=64->J0 x.2.1<=x.1->0<=x.2.2->(x.2.2<J0 x.2.1\/x.2.2=0)->J0g x=Jc J6e (J0 x.2.1,0,x):=by
  intro x a1 a2 a3 a4 a5;have I:=Jjv 0 (JI .i64 (J0 x.2.1) 1);have H:=J0y (J0 x.2.1) 1;have J:=J4 (l:=x.2.1);unfold J0g;have v:ltI x.1 1=false:=by simp only[ltI,decide_eq_false_iff_not];omega
  have w:gtI x.1 64=false:=by simp only[gtI,decide_eq_false_iff_not];omega
  have k:gtI (J0 x.2.1) x.1=false:=by simp only[gtI,decide_eq_false_iff_not];omega
  have o:ltI x.2.2 0=false:=by simp only[ltI,decide_eq_false_iff_not];omega
  have K: ¬gtI x.2.2 (J4a 0 (JI .i64 (J0 x.2.1) 1))=true:=by simp only[gtI,decide_eq_true_eq];omega
  rw[if_pos v,if_pos w,if_pos k,if_pos o,if_neg K]
 rw[A p D L C F G]at e;rw[A q oo oo oo E h1,<-e]
 symm
 refine JzV (R:=λz h=>z.1=J0 p.2.1/\h.1=J0 q.2.1/\z.2.1=h.2.1/\z.2.2=p/\h.2.2=q) ?_ ⟨rfl,rfl,rfl,rfl,rfl⟩;rintro⟨n,i,z⟩ ⟨M,N,h⟩ ⟨a1,a2,a3,a4,a5⟩;dsimp only at a1 a2 a3 a4 a5;subst a4;subst a5;subst a3;subst a1;subst a2;unfold J6e;dsimp only;rw[el];have j: ∀{f g:JP},FrE f g->JM9 (fun(a b:TQ115)=>a.1=J0 h.2.1/\b.1=J0 h.2.1/\a.2.1=b.2.1/\a.2.2=z/\b.2.2=h) (Jc J09 (J0 h.2.1,i,0,z,f)) (Jc J09 (J0 h.2.1,i,0,h,g)):=fun{f g} B=>by
  rcases JRA (J0 h.2.1) i z h f g hf B with⟨b1,b2⟩|⟨b1,b2⟩|⟨b1,b2⟩
  ·exact .inr (.inl ⟨_,b1,b2⟩)
  ·exact .inr (.inr ⟨_,_,b1,b2,rfl,rfl,rfl,rfl,rfl⟩)
  ·exact .inl ⟨b1,b2⟩
 have y:JM9 (fun(a b:TQ115)=>a.1=J0 h.2.1/\b.1=J0 h.2.1/\a.2.1=b.2.1/\a.2.2=z/\b.2.2=h) (some (.inr false:(TQ115)⊕Bool)) (some (.inr false)):=.inr (.inl ⟨_,rfl,rfl⟩);by_cases hk:ltI i (J0 h.2.1)=true
 ·rw[if_pos hk,if_pos hk];rcases hf.idx i with⟨e1,e2⟩|⟨f,g,e1,e2,r⟩
  ·rw[e1,e2];exact .inl ⟨rfl,rfl⟩
  ·rw[e1,e2,JJ,JJ,<-r.1,<-r.2.1,<-r.2.2];cases hv:J1D f.1 with
   |none=>exact .inl ⟨rfl,rfl⟩
   |some b=>
    rw[JJ,JJ];by_cases hb:Jr b=false
    ·rw[if_pos hb,if_pos hb];by_cases hd:f.2.1=true
     ·rw[if_pos hd,if_pos hd];by_cases v:ltI f.2.2.1 1=false
      ·rw[if_pos v,if_pos v];by_cases w:gtI f.2.2.1 f.1.2.1=false
       ·rw[if_pos w,if_pos w];by_cases k:Jr f.2.1=true
        ·rw[if_pos k,if_pos k];by_cases o:neI f.2.2.1 0=true
         ·rw[if_pos o,if_pos o];exact y
         ·rw[if_neg o,if_neg o];exact j r
        ·rw[if_neg k,if_neg k];exact j r
       ·rw[if_neg w,if_neg w];exact y
      ·rw[if_neg v,if_neg v];exact y
     ·rw[if_neg hd,if_neg hd];by_cases k:Jr f.2.1=true
      ·rw[if_pos k,if_pos k];by_cases o:neI f.2.2.1 0=true
       ·rw[if_pos o,if_pos o];exact y
       ·rw[if_neg o,if_neg o];exact j r
      ·rw[if_neg k,if_neg k];exact j r
    ·rw[if_neg hb,if_neg hb];exact y
 ·rw[if_neg hk,if_neg hk];exact .inr (.inl ⟨_,rfl,rfl⟩)
theorem JNv{p:J00}{id:Int}(hp:J0 p.2.1<=64){k:Int}{f:JP}(hk:idx p.2.1 k=some f)(hf:f.1.1=id): ∀{j:Int},J1M (p,id)=some j->0<=j:=by
 intro j hj;have n:Par (J1M (p,id)) λj=>0<=j:=by
  unfold J1M;dsimp only;obtain⟨r,o⟩:=J5G hk;have w:=JgE o;refine .while (λz=>z.1=id/\z.2.2=p/\0<=z.2.1/\z.2.1<=k) ⟨rfl,rfl,J0U _,r⟩ ?_;rintro⟨a,i,q⟩ ⟨h1,h2,h3,h4⟩;dsimp only at h1 h2 h3 h4;subst h1;subst h2;unfold J9g;dsimp only;have:=Jf i 1;refine .lt (λc=>.bind λg h=>.eq (λ_=>.some h3) λv=>.some ⟨rfl,rfl,?_,?_⟩) λc=>?_
  ·show 0<=J2 .i64 i 1;omega
  ·show J2 .i64 i 1<=k;by_cases e:i=k
   ·subst e;rw[hk]at h;injection h with h;subst h;exact absurd hf v
   ·omega
  ·exfalso;omega
 exact n _ hj
theorem InP.of{p:J00}{id:Int}(hv:J0g p=some true){k:Int}{f:JP}(hk:idx p.2.1 k=some f)(hf:f.1.1=id)(e:Ty.fit B S JE p)(hi:Ty.fit 0 0 (.i .i64) id)(g:BS B S 0 0:=by omega)(o:B<=9223372036854775807:=by omega):InP p id:=by obtain⟨⟨_,h,n,_⟩,_⟩:=Jeg hv;obtain⟨j,hj,_⟩:=J5B (B:=B) (S:=S) (x1:=(p,id)) ⟨e,hi⟩;refine⟨j,?_,JNv oo hk hf hj⟩;unfold J1v;dsimp only;rw[hv,JJ,if_neg (by simp[Jr]),hj];rfl
def JwP(l:List JP):Int:=(l.countP λf=>f.2.2.2:Nat)
theorem Jzv{x1:J00}(h:Ty.fit B S JE x1)(L:BC B S 0 0:=by omega):Tot (J9A x1) λy=>Ty.fit 64 12 JOq y/\(J0g x1=some true->1<=J0 x1.2.1->J0g y.1=some true/\InP y.1 y.2.1/\y.1.1=x1.1/\J0 y.1.2.1=J0 x1.2.1):=by
 unfold J9A;refine .bind ((J3S h).eqn) λR h2=>.not (λc=>.some ⟨⟨fzr,fk0,fkn 15⟩,λe=>by rw[e]at h2;have q:=h2.2;injection q with q;subst q;cases c⟩) λc=>.eq (λJ=>.some ⟨⟨fzr,fk0,fkn 18⟩,λ_ _=>by omega⟩) λJ=>?_;subst c;have hv:=h2.2;obtain⟨⟨N,Q,M,G,O⟩,hd⟩:=J2H h hv rfl;have:=J4 (l:=x1.2.1);have hl:1<=J0 x1.2.1:=by omega
 refine Ja (τ:=J00) (λq=>(q,0,[],0)) (λq=>q.1=x1.1/\JfH x1.2.1 q.2.1/\0<=q.2.2/\q.2.2<J0 x1.2.1/\Ty.fit 64 12 JE q) (λq=>JwP q.2.1) ?_ x1 rfl ⟨rfl,JfH.refl _,G,oo,hd⟩;rintro p ⟨g1,g2,D,P,o⟩;have el:J0 x1.2.1=J0 p.2.1:=by unfold J0;rw[g2.1]
 unfold JgB;dsimp only;have n:p.2.2.toNat<p.2.1.length:=by unfold J0 at*;omega
 have v:idx p.2.1 p.2.2=some p.2.1[p.2.2.toNat]:=by unfold idx;rw[if_pos D,JK n]
 have g:=o.2.1.2 _ (Jgq n);have j:p.2.1[p.2.2.toNat]?=some p.2.1[p.2.2.toNat]:=JK n;generalize p.2.1[p.2.2.toNat]=f at v g j;rw[v];show Tot (if f.2.2.2=true then _ else _) _;refine .ite (λC=>?_) λC=>.inr ?_
 ·show Tot ((J2r (p,p.2.2,f.1,f.2.1,f.2.2.1,false)).bind _) _;have es:J2r (p,p.2.2,f.1,f.2.1,f.2.2.1,false)=some (p.1,J0w p.2.1 p.2.2.toNat (f.1,f.2.1,f.2.2.1,false),p.2.2):=by
   unfold J2r;obtain⟨r,hr,e⟩:=(Jxa (bytes:=424) o.2.1 oo (by decide));subst e;have q3:J3g (α:=JP) 424 p.2.1=some p.2.1:=hr;dsimp only;rw[q3,JJ];have K:inb p.2.1.length p.2.2=some ():=by unfold inb;rw[if_pos ⟨D,oo⟩]
   have I:lat p.2.1 p.2.2.toNat=some f:=by unfold lat;exact j
   rw[K,JJ,I,JJ]
  rw[es,JJ];dsimp only;have E:J0 (J0w p.2.1 p.2.2.toNat (f.1,f.2.1,f.2.2.1,false))=J0 p.2.1:=J6L;rw[E];have:=Jf p.2.2 1;refine .bind (JEl (k:=.i64) (B:=0) (S:=0) (x:=J2 .i64 p.2.2 1) (y:=J0 p.2.1) J7 oo) λz A=>.some ⟨(p.1,J0w p.2.1 p.2.2.toNat (f.1,f.2.1,f.2.2.1,false),z),rfl,⟨g1,g2.put v ⟨rfl,rfl,rfl⟩,?_,?_,o.1,J4E o.2.1 ⟨g.1,g.2.1,g.2.2.1,trivial⟩,A.1⟩,?_,?_⟩
  ·show 0<=z;exact A.2.1 oo
  ·show z<J0 x1.2.1;have:=A.c oo;omega
  ·show JwP (J0w p.2.1 p.2.2.toNat (f.1,f.2.1,f.2.2.1,false))<JwP p.2.1;unfold JwP J0w;rw[List.countP_set n];have F:p.2.1[p.2.2.toNat]=f:=by have:=JK n;rw[j]at this;injection this with this;exact this.symm
   rw[F];have H:0<p.2.1.countP (λf=>f.2.2.2):=List.countP_pos_iff.2 ⟨f,zQ9 j,C⟩;rw[if_pos C,if_neg (by simp)];omega
  ·show 0<=JwP p.2.1;exact Int.natCast_nonneg _
 ·show Tot ((some f).bind _) _;rw[JJ];have w:J0g p=some true:=Jvo g1.symm g2 hv D (.inl oo);refine .some ⟨⟨o,g.1.1,fk0⟩,λ_ _=>⟨w,InP.of (B:=64) (S:=12) w v rfl o g.1.1,g1,el.symm⟩⟩
theorem JFQ{x1:J6}(h:Ty.fit B S J3 x1)(w:BG B S:=by omega):Tot (J5u x1) λy=>Ty.fit 16384 1073741824 (.pr J3 (.pr Jk JGy)) y/\(y.2.2.2=0->J0 y.1.2.2.1.2.1=J0 x1.2.2.1.2.1/\J0 x1.2.2.1.2.1<=4096):=by
 unfold J5u;have g:Ty.fit 16384 1073741824 Jk (0,0,Vector.replicate 16 (false,[])):=⟨fk0,fk0,JC oo oo (.ar 16 Jj)⟩;have v:Ty.fit 16384 1073741824 J3 (0,0,(0,[],0),(0,[],0),([],[]),[],[],[]):=JC oo oo J3;refine .bind ((J1i h).eqn) λC h2=>.not (λc=>.some ⟨⟨v,g,trivial,fkn 15⟩,λc=>by cases c⟩) λc=>?_;subst c;obtain⟨q,hk⟩:=J1r h h2.2 rfl;have o:=J4M h2.2;refine .lt (λc=>.some ⟨⟨hk.u,g,trivial,fk0⟩,λ_=>⟨rfl,q.2.2.2.2.2.2.2.1⟩⟩) λc=>.bind (Jzv hk.2.2.2.1) λe h3=>?_;obtain⟨a1,a2,a3,a4⟩:=h3.2 o.2.1 oo;refine .bind ((J5v (B:=64) (S:=12) (x1:=(e.1,e.2.1)) ⟨h3.1.1,h3.1.2.1⟩).eqn) λA h4=>?_;have k:=Juy a2 h4.2;refine .bind (Jg h3.1.1.2.1 k h4.1.c) λn h5=>.not (λ_=>?_) λ_=>?_
 ·exact .bind (JEc (B:=16384) (S:=1073741824) (x1:=(e.1,e.2.1)) ⟨h3.1.1.u,h3.1.2.1⟩) λz r=>.some ⟨⟨⟨hk.1,hk.2.1,hk.2.2.1.u,r.1.u,hk.2.2.2.2.u⟩,g,trivial,fk0⟩,λ_=>⟨rfl,q.2.2.2.2.2.2.2.1⟩⟩
 ·exact .bind (JaC (B:=16384) (S:=1073741824) (x1:=((x1.1,x1.2.1,x1.2.2.1,e.1,x1.2.2.2.2),n.1.2.1)) ⟨⟨hk.1,hk.2.1,hk.2.2.1.u,h3.1.1.u,hk.2.2.2.2.u⟩,h5.1.1.2.1⟩) λx j=>.some ⟨⟨j.1,h5.1.1.u,trivial,fk0⟩,λ_=>⟨j.2,q.2.2.2.2.2.2.2.1⟩⟩
end
end Go.Am
end
