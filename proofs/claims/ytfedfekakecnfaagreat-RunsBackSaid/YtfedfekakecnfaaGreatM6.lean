/-
  Parts of a proof.
-/
import Derived.ChangeArms
import Derived.OpenShut
import Derived.ChangeBears
import Derived.ChangeStays
import Derived.Handed
import Derived.RowKit3
import Derived.WalkKit
import Derived.ProofKit
import Derived.Test.YtfedfekakecnfaaGreatM2
import Derived.Test.YtfedfekakecnfaaGreatM3
import Derived.Test.YtfedfekakecnfaaGreatM4
import Derived.Test.YtfedfekakecnfaaGreatM5
set_option linter.unusedSimpArgs false
set_option linter.unusedVariables false
section
namespace Go.Am
set_option linter.unusedVariables false
set_option maxRecDepth 20000
set_option maxHeartbeats 4000000
theorem Ux{B S:Int}{X:List UInt8}(h:aB B S .s X)(a3:BS B S 0 0:=by omega)(hS:S<=9223372036854775807:=by omega):Tot (VN X) λy=>aB 4096 0 iJ y:=by unfold VN;exact have:=Jd (l:=X);.bind (AQ (B:=0) (S:=S) ⟨aG 2,h.z,aD,trivial⟩ om om) λk h1=>have:=J2.1 h1.1.c.1;have:=J2.1 h1.1.1;have:0<=k.2.2.1/\k.2.2.1<=J0 k.2.1/\0<=k.1/\k.1<=65535:=⟨h1.2.1,h1.c.1,(h1.d.1 (show(2:Int)<=4 by decide)).1,h1.g rfl⟩;Jm (τ:=Int×EX×(List Jt)) (λq=>(X,q.1,q.2.1,q.2.2)) (λq=>aB 0 0 zI q.1/\aB 0 S mV q.2.1/\aB 65535 S (.l Jk) q.2.2/\(J0 q.2.2+q.1<=65535)/\(J0 q.2.2<=65535)/\(0<=q.2.1.2.1)/\(q.2.1.2.1<=J0 q.2.1.1)/\(0<=q.1)) (λq=>q.1) (by rintro⟨n,V,e⟩ E;dsimp only at E;obtain⟨W,K,j,a1,Z,a2,a0,a5⟩:=E;unfold xx;(try dsimp only);exact have:=Jd (l:=e);have:J0 e=_:=Jw j;have:=J2.1 W;.gt (λN=>.not (λI=>.bind (AQ (B:=0) (S:=S) ⟨aG 4,K⟩ om om) λy4 v=>have:=J2.1 v.1.c.1;.bind (AQ (B:=0) (S:=S) ⟨aG 1,v.1.2⟩ om om) λy5 w=>have:=J2.1 w.1.c.1;.bind (AQ (B:=0) (S:=S) ⟨aG 8,w.1.2⟩ om om) λy6 x=>have:=J2.1 x.1.c.1;.bind (AQ (B:=0) (S:=S) ⟨aG 8,x.1.2⟩ om om) λy7 o=>have:=J2.1 o.1.c.1;.bind (yn (B:=0) (S:=S) ⟨aG 2,o.1.2⟩ om om om om) λy8 r=>have:=J2.1 r.1.2.z.2.1;.bind (yn (B:=0) (S:=S) ⟨aG 1,r.1.2.z⟩ om om om om) λY A=>have:=J2.1 A.1.2.z.2.1;.bind (bI (B:=65535) (Bl:=65535) (Bm:=65535) (S:=S) (J0 e) 1 j (bY (B:=65535) (S:=S) (t:=Jk) oo ⟨v.1.1,w.1.1,x.1.1,o.1.1,r.1.1,A.1.1⟩)) λD C=>have:J0 D=_/\_:=lF C.1;have:=bE n 1;.some ⟨(JL .i64 n 1,Y.2,D),rfl,⟨eG,A.1.2.z,C.1,om,om,om,om,om⟩,om,om⟩) λI=>.inr (.ite (λR=>.some ⟨J8,aG 5⟩) λR=>.ne (λM=>.some ⟨J8,aG 4⟩) λM=>.bind ((wV j).eqn) λa6 T=>.not (λF=>.some ⟨J8,aG 15⟩) λF=>have O:=sA j T.2 F;have Q:aB 4096 0 (.l Jk) e:=O.2;.some ⟨Q,aD⟩)) λN=>.inr (.ite (λP=>.some ⟨J8,aG 5⟩) λP=>.ne (λJ=>.some ⟨J8,aG 4⟩) λJ=>.bind ((wV j).eqn) λa4 U=>.not (λG=>.some ⟨J8,aG 15⟩) λG=>have L:=sA j U.2 G;have H:aB 4096 0 (.l Jk) e:=L.2;.some ⟨H,aD⟩)) (k.1,k.2,[]) rfl ⟨h1.1.1,h1.1.2,J8,om,om,om,om,om⟩
theorem R2{B S:Int}{X:List UInt8}(h:aB B S .s X)(af:BH B S:=by omega)(hS:S<=9223372036854775807:=by omega):Tot (VT X) λy=>aB 4096 0 (.pr mM zI) y:=by unfold VT;exact have s0:aB 0 S .s X:=h;.bind ((gM (B:=0) (S:=S) (X:=(X,0,2)) ⟨s0,aD,aG 2⟩).eqn) λy2 h1=>.bind ((gM (B:=0) (S:=S) (X:=(X,2,4)) ⟨s0,aG 2,aG 4⟩).eqn) λJ h2=>.bind ((gM (B:=0) (S:=S) (X:=(X,6,4)) ⟨s0,aG 6,aG 4⟩).eqn) λe h3=>.nef (λN=>have v6:=DR (x:=(X,6,4)) ⟨s0,aG 6,aG 4⟩ h3.2 N;have:J0 X<=S:=s0;have:=J2.1 h3.1.1;have:1<=(4:Int)/\(4:Int)<=8/\0<=(6:Int)/\(6:Int)<=J0 X/\(4:Int)<=J0 X-(6:Int)/\((4:Int)<=4->0<=e.1/\e.1<=4294967295)/\((4:Int)=1->e.1<=255)/\((4:Int)=2->e.1<=65535):=v6.1;have:=BJ (J0 X) 10;.gt (λK=>.some ⟨aO,aG 5⟩) λK=>have:=oH 10 e.1;.bind (KE s0) λM F=>have L:aB 0 S .s M:=F.1;.bind ((gM (B:=0) (S:=S) (X:=(X,J1 .i64 10 e.1,1)) ⟨s0,Jj,aG 1⟩).eqn) λk A=>.nef (λz=>have a4:=DR (x:=(X,J1 .i64 10 e.1,1)) ⟨s0,Jj,aG 1⟩ A.2 z;have:=J2.1 A.1.1;have:1<=(1:Int)/\(1:Int)<=8/\0<=(J1 .i64 10 e.1)/\(J1 .i64 10 e.1)<=J0 X/\(1:Int)<=J0 X-(J1 .i64 10 e.1)/\((1:Int)<=4->0<=k.1/\k.1<=4294967295)/\((1:Int)=1->k.1<=255)/\((1:Int)=2->k.1<=65535):=a4.1;have:=BJ (J0 X) (J1 .i64 10 e.1);have:=BJ (JL .i64 (J0 X) (J1 .i64 10 e.1)) 1;have:=jd 17 k.1;.lt (λW=>.some ⟨aO,aG 5⟩) λW=>Jm (τ:=Int×Int×(List aC)) (λq=>(X,M,q.1,k.1,q.2.1,[],0,0,[],[],q.2.2,y2.1,J.1,[],[])) (λq=>aB 0 0 zI q.1/\aB 0 0 zI q.2.1/\aB 255 0 (.l Jb) q.2.2/\(0<=q.2.1)/\(q.2.1<=k.1)/\(q.1+17*(k.1-q.2.1)<=J0 X)/\(0<=q.1)/\(J0 q.2.2<=q.2.1)) (λq=>k.1-q.2.1) (by rintro⟨g,r,j⟩ E;dsimp only at E;obtain⟨C,H,n,ab,ag,ae,ad,aa⟩:=E;unfold xa;(try dsimp only);exact have:=J2.1 H;have:=J2.1 C;have:J0 j=_/\_:=lF n;.lt (λG=>.bind ((gM (B:=0) (S:=S) (X:=(X,g,1)) ⟨s0,C,aG 1⟩).eqn) λy8 Y=>.bind ((gM (B:=0) (S:=S) (X:=(X,J1 .i64 g 1,8)) ⟨s0,Jj,aG 8⟩).eqn) λy9 Q=>.bind ((gM (B:=0) (S:=S) (X:=(X,J1 .i64 g 9,8)) ⟨s0,Jj,aG 8⟩).eqn) λa8 U=>.bind (bI (B:=256) (Bl:=255) (Bm:=1) (S:=0) (J0 j) 1 n (bY (B:=1) (S:=0) (t:=Jb) oo ⟨Y.1.1,Q.1.1,U.1.1⟩)) λo D=>have:J0 o=_:=Jw D.1;have a1:aB 255 0 (.l Jb) o:=⟨(by omega:J0 o<=255),λx hx=>D.1.2 x hx⟩;have:=oH r 1;have:=oH g 17;.some ⟨(J1 .i64 g 17,J1 .i64 r 1,o),rfl,⟨Jj,Jj,a1,om,om,om,om,om⟩,om,om⟩) λG=>.inr (.bind (Ux L) λV w=>.ne (λR=>.some ⟨aO,w.2⟩) λR=>.bind (m7 s0) λI O=>have P:aB 0 S .s I:=O.1;.bind (Sf P) λT v=>.ne (λZ=>.some ⟨aO,v.2⟩) λZ=>have a0:aB 16384 1073741824 mM (y2.1,J.1,V.1,j,T.1):=⟨h1.1.1,h2.1.1,w.1.u,n.u,v.1.u⟩;.bind (tm a0) λac a9=>.not (λa2=>.some ⟨aO,aG 24⟩) λa2=>.some ⟨⟨h1.1.1,h2.1.1,w.1,n.u,v.1.u⟩,aD⟩)) (J1 .i64 (J1 .i64 10 e.1) 1,0,[]) rfl (have:=oH (J1 .i64 10 e.1) 1;⟨Jj,aD,J8,om,om,om,om,om⟩)) λz=>.some ⟨aO,aG 5⟩) λN=>.some ⟨aO,aG 5⟩
theorem Rw{B S:Int}{X:cA}(h:aB B S JT X)(G:BG B S:=by omega):Tot (WB X) λy=>aB 4096 0 (.pr mM (.pr zI .b)) y:=by unfold WB;exact .bind ((pV h).eqn) λK h1=>.not (λr=>.some ⟨aO,aD,trivial⟩) λr=>have D:=nX h h1.2 r;have:=Jd (l:=X.2.1);have:J0 X.2.1=_:=Jw h.2.1;have g:aB 4096 8192 JT X:=D.2;have:=bE (J0 X.2.1) 1;Jm (τ:=Int) (λq=>(q,X,0,0,[],[],[])) (λq=>(aB 0 0 zI q/\q<=JL .i64 (J0 X.2.1) 1)) (λq=>q-0) (by rintro e ⟨x,F⟩;exact have:=J2.1 x;.ge (λn=>.bind (Jf g.2.1) λJ E=>.ne (λk=>have:=bE e 1;.some ⟨JL .i64 e 1,rfl,⟨eG,om⟩,om,om⟩) λk=>.bind (Jf g.2.1) λC o=>have A:aB 16384 1073741824 .s C.2.2.2.2.2.2.2:=o.1.z.2.2.2.2.2.2.2.u;.bind (R2 A) λI j=>.eq (λv=>.bind (Jf g.2.1) λH w=>.some ⟨j.1,w.1.z.1,trivial⟩) λv=>have:=bE e 1;.some ⟨JL .i64 e 1,rfl,⟨eG,om⟩,om,om⟩) λn=>.some ⟨aO,aD,trivial⟩) (JL .i64 (J0 X.2.1) 1) rfl ⟨eG,om⟩
theorem Qk{B S:Int}{X:jI}(h:aB B S sH X)(n:BG B S:=by omega):Tot (VX X) λy=>aB 4096 0 FH y:=by unfold VX;exact .bind (Rw h.1) λq h1=>.not (λe=>have:=J2.1 h.1.1;.gt (λg=>.some ⟨aO,aG 24⟩) λg=>.bind (sd h.2) λo k=>.some ⟨⟨h.2,aG 1,aD,J8,J8,J8,k.1.u⟩,aD⟩) λe=>have:=J2.1 h1.1.1;.ne (λj=>.some ⟨aO,aG 24⟩) λj=>.some ⟨⟨h.2,h1.1.2.1,h1.2.1,h1.1.c.1,J8,h1.1.d⟩,aD⟩
section
variable {B S:Int}
theorem xm{un:List aC}{n:aA}(h:aB B S (.l Jb) un)(hn:aB B S J3 n)(T:BS B S 0 0:=by omega)(W:B<=17179869183:=by omega):Tot (J9 gm (un,false,0,n,[])) λy=>aB (B+1) S (.l Jb) y/\J0 y<=J0 un+1:=by
 have hl:J0 un<=B:=h.1;have H:=Jd (l:=un);refine Jm (τ:=Bool×Int×List aC) (λq=>(un,q.1,q.2.1,n,q.2.2)) (λq=>0<=q.2.1/\q.2.1<=J0 un/\aB (B+1) S (.l Jb) q.2.2/\J0 q.2.2<=q.2.1+1/\(q.1=false->J0 q.2.2<=q.2.1)) (λq=>J0 un-q.2.1) ?_ (false,0,[]) rfl ⟨aY _,H,J8,by show(0:Int)<=0+1;omega,λ_=>aY _⟩;rintro⟨done,i,out⟩ ⟨F,h1,h2,L,o⟩;dsimp only at F h1 h2 L o;unfold gm;dsimp only;have:=Jh i 1;have app: ∀{x:aC} {l:List aC},aB (B+1) S (.l Jb) l->aB (B+1) S Jb x->J0 l+1<=B+1->Tot (JI 24 l [x]) λr=>aB (B+1) S (.l Jb) r/\J0 r=J0 l+1:=λhl Q J=>
  (bI (B:=B+1) (Bl:=B+1) (Bm:=B+1) (S:=S) _ 1 hl (bY oo Q) rfl rfl (aY _) (aY _) J oo (by decide)).mono λ_ h=>⟨h.1,h.2.1⟩
 have v:aB (B+1) S Jb (n.2.2.2.2.2.2.1.1,n.1,n.1):=⟨hn.2.2.2.2.2.2.1.1,hn.1,hn.1⟩;have A:Tot (JR n) λ_=>True:=(qJ hn).mono λ_ _=>trivial;have nx: ∀{d:Bool} {l:List aC},i<J0 un->aB (B+1) S (.l Jb) l->J0 l<=i+2->(d=false->J0 l<=i+1)->(∃c':Bool×Int×List aC,(un,d,J1 .i64 i 1,n,l)=(un,c'.1,c'.2.1,n,c'.2.2)/\(0<=c'.2.1/\c'.2.1<=J0 un/\aB (B+1) S (.l Jb) c'.2.2/\J0 c'.2.2<=c'.2.1+1/\(c'.1=false->J0 c'.2.2<=c'.2.1))/\J0 un-c'.2.1<J0 un-i/\0<=J0 un-i):=fun{d l} Z R Y O=>
  ⟨(d,J1 .i64 i 1,l),rfl,⟨by show 0<=J1 .i64 i 1;omega,by show J1 .i64 i 1<=_;omega,R,by show J0 l<=J1 .i64 i 1+1;omega,λe=>by show J0 l<=J1 .i64 i 1;have:=O e;omega⟩,by show J0 un-J1 .i64 i 1<J0 un-i;omega,oo⟩
 refine .lt (λc=>?_) λc=>Tot.map (P:=λy:List aC=>aB (B+1) S (.l Jb) y/\J0 y<=J0 un+1) ?_ λ_ h=>h
 ·have N:Tot (idx un i) λr=>aB (B+1) S Jb r:=(Jf h F c).mono λ_ h=>h.1.u;refine .bind N λg k=>?_
  have body: ∀{d:Bool} {l:List aC},aB (B+1) S (.l Jb) l->J0 l<=i+1->(d=false->J0 l<=i)->Tot (ρ:=(FV)⊕(List aC)) (if aJ g.1 n.2.2.2.2.2.2.1.1 then
     (JR n).bind λC=>
     if C then
      (JI 24 l [(g.1,g.2.1,n.1)]).bind λG=>
      some (.inl (un,true,J1 .i64 i 1,n,G))
     else
      if aP n.2.2.2.2.2.1 g.2.2 then
       some (.inl (un,true,J1 .i64 i 1,n,l))
      else
       if aP n.2.2.2.2.2.1 g.2.1 then
        (JI 24 l [(g.1,J1 .i64 n.2.2.2.2.2.1 1,g.2.2)]).bind λw=>
        some (.inl (un,true,J1 .i64 i 1,n,w))
       else
        (JI 24 l [g]).bind λE=>
        some (.inl (un,true,J1 .i64 i 1,n,E))
    else
     (JI 24 l [g]).bind λK=>
     some (.inl (un,d,J1 .i64 i 1,n,K))) λr=>match r with| .inl z=> ∃c':Bool×Int×List aC,z=(un,c'.1,c'.2.1,n,c'.2.2)/\(0<=c'.2.1/\c'.2.1<=J0 un/\aB (B+1) S (.l Jb) c'.2.2/\J0 c'.2.2<=c'.2.1+1/\(c'.1=false->J0 c'.2.2<=c'.2.1))/\J0 un-c'.2.1<J0 un-i/\0<=J0 un-i| .inr y=>aB (B+1) S (.l Jb) y/\J0 y<=J0 un+1:=fun{d l} b1 b2 M=>
   .eq (λ_=>.bind A λC _=>.ite (λ_=>.bind (app b1 ⟨k.1,k.2.1,hn.1⟩ oo) λG D=>.some (nx c D.1 (by have:=D.2;omega) λe=>by cases e)) λ_=>.ge (λ_=>.some (nx c b1 oo λe=>by cases e)) λ_=>.ge (λ_=>.bind (app b1 ⟨k.1,Jj,k.2.2⟩ oo) λw j=>.some (nx c j.1 (by have:=j.2;omega) λe=>by cases e)) λ_=>.bind (app b1 k oo) λw j=>.some (nx c j.1 (by have:=j.2;omega) λe=>by cases e)) λ_=>.bind (app b1 k oo) λw j=>.some (nx c j.1 (by have:=j.2;omega) λe=>by have:=j.2;have:=M e;omega)
  refine .gt (λ_=>.not (λd=>.bind A λU _=>.ite (λ_=>.bind (app h2 v (by have:=o d;omega)) λV I=>?_) λ_=>?_) λd=>?_) λ_=>?_;exact(body (d:=true) I.1 (by have:=I.2;have:=o d;omega) λe=>by cases e).mono λr h=>by cases r<;>exact h
  all_goals
   exact(body (d:=done) h2 L o).mono λr h=>by cases r<;>exact h
 exact .not (λd=>.bind A λy _=>.ite (λ_=>.bind (app h2 v (by have:=o d;omega)) λy f=>.some ⟨f.1,by have:=f.2;have:=o d;omega⟩) λ_=>.some ⟨h2,oo⟩) λ_=>.some ⟨h2,oo⟩
theorem EI{X:TU}(h:aB B S BA X)(e:BS B S 0 0:=by omega)(g:B<=17179869183:=by omega):Tot (tQ X) λy=>aB (B+1) S (.l Jb) y/\J0 y<=J0 X.1+1:=by unfold tQ;exact .bind (qJ h.2) λj _=>.not (λ_=>.ne (λ_=>.some ⟨h.1.u,oo⟩) λ_=>xm h.1 h.2) λ_=>xm h.1 h.2
end
theorem Lv{B S:Int}{X:qA×aA}(h:aB B S (.pr tZ J3) X)(p0:J0 X.1.2.2.2.2.2.1<=16000)(al:BG B S:=by omega):Tot (UT X) λy=>aB B S FH y/\(J0 y.1.2.2.2.2.2.1<=J0 X.1.2.2.2.2.2.1+1):=by unfold UT;exact have j:aB 16000 S (.l Jb) X.1.2.2.2.2.2.1:=⟨(by omega:J0 X.1.2.2.2.2.2.1<=16000),λx hx=>h.1.g.1.2 x hx⟩;.gt (λc5=>.bind ((rV (B:=B) (S:=S) (X:=(X.1.2.2.2.1,X.2.2.2.1)) ⟨h.1.d.1,h.2.z.2.2.1⟩).eqn) λy2 h7=>.lt (λa4=>.bind (uk (B:=B) (S:=S) ⟨h.1.d.1,h.2.z.2.2.1⟩) λy3 w=>.ne (λa0=>.some ⟨⟨h.1,w.2⟩,om⟩) λa0=>have a7:aB 16384 S BB (y3.1,X.2):=⟨w.1.u,h.2.z.u⟩;.bind (zE a7) λy4 k=>.ne (λa2=>.some ⟨⟨⟨h.1.1,h.1.2.1,h.1.c.1,w.1.u,h.1.e⟩,k.2⟩,om⟩) λa2=>.bind (zO (B:=B) (S:=S) ⟨h.1.h,h.2.z.u⟩) λy5 r=>.ne (λa1=>.some ⟨⟨⟨h.1.1,kR h.1.2.1 Jj,h.1.c.1,k.1.u,h.1.e⟩,r.2⟩,om⟩) λa1=>.bind (qJ (B:=0) (S:=S) h.2.z) λy6 ag=>.ite (λP=>have:=J2.1 h.2.z.2.2.2.2.2.2.1.1;.ge (λQ=>.some ⟨⟨⟨h.1.1,kR h.1.2.1 Jj,h.1.c.1,k.1.u,h.1.e.1,j.u,r.1.u⟩,aG 1⟩,om⟩) λQ=>.bind (EI (B:=16000) (S:=S) ⟨j,h.2.z.u⟩) λM G=>have Y:aB 16001 S (.l Jb) M:=G.1.u;have:J0 M<=J0 X.1.2.2.2.2.2.1+1:=G.2;.some ⟨⟨⟨h.1.1,kR h.1.2.1 Jj,h.1.c.1,k.1.u,h.1.e.1,Y.u,r.1.u⟩,aD⟩,om⟩) λP=>.bind (EI (B:=16000) (S:=S) ⟨j,h.2.z.u⟩) λZ A=>have N:aB 16001 S (.l Jb) Z:=A.1.u;have:J0 Z<=J0 X.1.2.2.2.2.2.1+1:=A.2;.some ⟨⟨⟨h.1.1,kR h.1.2.1 Jj,h.1.c.1,k.1.u,h.1.e.1,N.u,r.1.u⟩,aD⟩,om⟩) λa4=>.bind (zE (B:=B) (S:=S) ⟨h.1.d.1,h.2.z.u⟩) λy9 n=>.ne (λa9=>.some ⟨⟨h.1,n.2⟩,om⟩) λa9=>.bind (zO (B:=B) (S:=S) ⟨h.1.h,h.2.z.u⟩) λae v=>.ne (λa6=>.some ⟨⟨⟨h.1.1,kR h.1.2.1 Jj,h.1.c.1,n.1.u,h.1.e⟩,v.2⟩,om⟩) λa6=>.bind (qJ (B:=0) (S:=S) h.2.z) λak aj=>.ite (λa5=>have:=J2.1 h.2.z.2.2.2.2.2.2.1.1;.ge (λL=>.some ⟨⟨⟨h.1.1,kR h.1.2.1 Jj,h.1.c.1,n.1.u,h.1.e.1,j.u,v.1.u⟩,aG 1⟩,om⟩) λL=>.bind (EI (B:=16000) (S:=S) ⟨j,h.2.z.u⟩) λH K=>have a3:aB 16001 S (.l Jb) H:=K.1.u;have:J0 H<=J0 X.1.2.2.2.2.2.1+1:=K.2;.some ⟨⟨⟨h.1.1,kR h.1.2.1 Jj,h.1.c.1,n.1.u,h.1.e.1,a3.u,v.1.u⟩,aD⟩,om⟩) λa5=>.bind (EI (B:=16000) (S:=S) ⟨j,h.2.z.u⟩) λD I=>have T:aB 16001 S (.l Jb) D:=I.1.u;have:J0 D<=J0 X.1.2.2.2.2.2.1+1:=I.2;.some ⟨⟨⟨h.1.1,kR h.1.2.1 Jj,h.1.c.1,n.1.u,h.1.e.1,T.u,v.1.u⟩,aD⟩,om⟩) λc5=>.bind (zE (B:=B) (S:=S) ⟨h.1.d.1,h.2.z.u⟩) λah o=>.ne (λV=>.some ⟨⟨h.1,o.2⟩,om⟩) λV=>.bind (zO (B:=B) (S:=S) ⟨h.1.h,h.2.z.u⟩) λaf q=>.ne (λU=>.some ⟨⟨⟨h.1.1,kR h.1.2.1 Jj,h.1.c.1,o.1.u,h.1.e⟩,q.2⟩,om⟩) λU=>.bind (qJ (B:=0) (S:=S) h.2.z) λai ad=>.ite (λW=>have:=J2.1 h.2.z.2.2.2.2.2.2.1.1;.ge (λR=>.some ⟨⟨⟨h.1.1,kR h.1.2.1 Jj,h.1.c.1,o.1.u,h.1.e.1,j.u,q.1.u⟩,aG 1⟩,om⟩) λR=>.bind (EI (B:=16000) (S:=S) ⟨j,h.2.z.u⟩) λE C=>have O:aB 16001 S (.l Jb) E:=C.1.u;have:J0 E<=J0 X.1.2.2.2.2.2.1+1:=C.2;.some ⟨⟨⟨h.1.1,kR h.1.2.1 Jj,h.1.c.1,o.1.u,h.1.e.1,O.u,q.1.u⟩,aD⟩,om⟩) λW=>.bind (EI (B:=16000) (S:=S) ⟨j,h.2.z.u⟩) λF J=>have a8:aB 16001 S (.l Jb) F:=J.1.u;have:J0 F<=J0 X.1.2.2.2.2.2.1+1:=J.2;.some ⟨⟨⟨h.1.1,kR h.1.2.1 Jj,h.1.c.1,o.1.u,h.1.e.1,a8.u,q.1.u⟩,aD⟩,om⟩
theorem Wv{B S:Int}{X:jI}(h:aB B S sH X)(ad:BG B S:=by omega):Tot (WJ X) λy=>aB 400000001 1073741824 FH y:=by unfold WJ;exact .bind ((pV h.1).eqn) λy2 h1=>.not (λQ=>.some ⟨aO,aG 26⟩) λQ=>have v3:=nX h.1 h1.2 Q;have:=Jd (l:=X.1.2.1);have:J0 X.1.2.1=_:=Jw h.1.2.1;have A:aB 4096 8192 JT X.1:=v3.2;.ltf (λO=>.gt (λU=>.some ⟨aO,aG 1⟩) λU=>have P:aB 16384 1073741824 sH (X.1,X.2):=⟨A.u,h.2⟩;.bind (Qk P) λD w=>.ne (λa1=>.some ⟨aO,w.2⟩) λa1=>Jm (τ:=Int×qA) (λq=>(q.1,X.1,(0,0,0,[],[],[],[]),q.2)) (λq=>aB 0 0 zI q.1/\aB 16384 1073741824 tZ q.2/\(0<=q.1)/\(q.1<=J0 X.1.2.1)/\(J0 q.2.2.2.2.2.2.1<=4096+q.1)) (λq=>J0 X.1.2.1-q.1) (by rintro⟨r,e⟩ H;dsimp only at H;obtain⟨W,j,af,a9,a3⟩:=H;unfold yc;(try dsimp only);exact have:=J2.1 W;have:J0 e.2.2.2.2.2.1=_/\_:=lF j.2.2.2.2.2.1;.lt (λV=>.bind (Jf A.2.1) λy5 a6=>.le (λL=>have a7:aB 8192 1073741824 (.l Jb) e.2.2.2.2.2.1:=⟨(by omega:J0 e.2.2.2.2.2.1<=8192),λx K=>j.2.2.2.2.2.1.2 x K⟩;have:=Jh r 1;.some ⟨(J1 .i64 r 1,e),rfl,⟨Jj,j,om,om,om⟩,om,om⟩) λL=>.bind (Jf A.2.1) λy6 Z=>.bind (Lv (B:=16384) (S:=1073741824) ⟨j,Z.1.z.u⟩ om) λC E=>have v:aB 16384 1073741824 FH C:=E.1.u;have:J0 C.1.2.2.2.2.2.1=_/\_:=lF v.1.g.1;have:J0 C.1.2.2.2.2.2.1<=J0 e.2.2.2.2.2.1+1:=E.2;.ne (λT=>.some ⟨aO,v.2⟩) λT=>have aa:aB 8192 1073741824 (.l Jb) C.1.2.2.2.2.2.1:=⟨(by omega:J0 C.1.2.2.2.2.2.1<=8192),λx K=>v.1.g.1.2 x K⟩;have:=Jh r 1;.some ⟨(J1 .i64 r 1,C.1),rfl,⟨Jj,v.1,om,om,om⟩,om,om⟩) λV=>.inr (have:J0 e.2.2.2.1=_/\_:=lF j.2.2.2.1;Jm (τ:=Int×(List Jt)) (λq=>(q.1,X.1,(0,0,0,[],[],[],[]),e,q.2)) (λq=>(aB 0 0 zI q.1/\0<=q.1/\(q.1<=J0 e.2.2.2.1\/q.1<=0))/\(aB 16384 1073741824 (.l Jk) q.2/\J0 q.2<=1*q.1+0)) (λq=>J0 e.2.2.2.1-q.1) (by rintro⟨n,o⟩ G;dsimp only at G;obtain⟨⟨a0,a4,a8⟩,k,ae⟩:=G;unfold x9;(try dsimp only);exact have:=J2.1 a0;.lt (λR=>.bind (Jf j.2.2.2.1) λy9 ac=>.gt (λY=>.bind (Jf j.2.2.2.1) λa5 N=>have:J0 o=_/\_:=lF k;.bind (bI (B:=16384) (Bl:=16384) (Bm:=16384) (S:=1073741824) (J0 o) 1 k (bY (B:=16384) (S:=1073741824) (t:=Jk) oo N.1)) λJ I=>have:=Jh n 1;have:J0 J=_:=Jw I.1;.some ⟨(J1 .i64 n 1,J),rfl,⟨⟨Jj,om,om⟩,I.1,om⟩,om,om⟩) λY=>have:=Jh n 1;have:J0 o=_:=Jw k;.some ⟨(J1 .i64 n 1,o),rfl,⟨⟨Jj,om,om⟩,k,om⟩,om,om⟩) λR=>.inr (.bind (Og (B:=16384) (S:=1073741824) ⟨A.u,k⟩) λab F=>.ne (λM=>.some ⟨aO,F.2⟩) λM=>.some ⟨⟨j.1,j.2.1,j.2.2.1,k.u,F.1.u,j.2.2.2.2.2.u⟩,aD⟩)) (0,[]) rfl (have:J0 ([]:List Jt)=0:=rfl;⟨⟨aD,om,om⟩,J8,om⟩))) (0,D.1) rfl (have:J0 D.1.2.2.2.2.2.1<=4096:=w.1.g.1.1;have:=Jd (l:=D.1.2.2.2.2.2.1);have:J0 D.1.2.2.2.2.2.1=_:=Jw w.1.g.1;⟨aD,w.1.u,om,om,om⟩)) λO=>.some ⟨aO,aG 1⟩
theorem Q6{B S:Int}{X:cA×qA×Int}(h:aB B S (.pr JT FH) X)(O:BG B S:=by omega):Tot (UZ X) λy=>aB 16384 1073741824 eW y:=by unfold UZ;exact .bind (r7 h.c) λv h1=>.ne (λJ=>.some ⟨aO,aG 1⟩) λJ=>.bind ((jX (B:=B) (S:=S) (X:=(X.2.1.1,X.2.1.2.1,X.1,v.1,(X.2.1.2.2.2.2.1,[]),X.2.1.2.2.2.1,X.2.1.2.2.2.2.2.2,X.2.1.2.2.2.2.2.1)) ⟨h.2.1.1,h.2.1.2.1,h.1,h1.1.u,⟨h.2.1.e.1,J8⟩,h.2.1.d.1,h.2.1.h,h.2.1.g.1⟩).eqn) λQ K=>.not (λG=>.some ⟨aO,aG 15⟩) λG=>have I:=lH (x:=(X.2.1.1,X.2.1.2.1,X.1,v.1,(X.2.1.2.2.2.2.1,[]),X.2.1.2.2.2.1,X.2.1.2.2.2.2.2.2,X.2.1.2.2.2.2.2.1)) ⟨h.2.1.1,h.2.1.2.1,h.1,h1.1.u,⟨h.2.1.e.1,J8⟩,h.2.1.d.1,h.2.1.h,h.2.1.g.1⟩ K.2 G;have j:aB 4096 8192 J5 (X.2.1.1,X.2.1.2.1,X.1,v.1,(X.2.1.2.2.2.2.1,[]),X.2.1.2.2.2.1,X.2.1.2.2.2.2.2.2,X.2.1.2.2.2.2.2.1):=I.2;have:J0 X.2.1.2.2.2.1=_/\_:=lF j.g.1;Jm (τ:=qU) (λq=>(q.1,X.1,X.2.1,(0,0,(0,[],0),(0,[],0),([],[]),[],[],[]),v.1,q.2)) (λq=>(aB 0 0 zI q.1/\0<=q.1/\(q.1<=J0 X.2.1.2.2.2.1\/q.1<=0))/\aB 16384 1073741824 J5 q.2) (λq=>J0 X.2.1.2.2.2.1-q.1) (by rintro⟨k,o⟩ z;dsimp only at z;obtain⟨⟨F,M,P⟩,n⟩:=z;unfold wj;(try dsimp only);exact have:=J2.1 F;.lt (λD=>.bind (Jf j.g.1) λR N=>.eq (λH=>have:=Jh k 1;.some ⟨(J1 .i64 k 1,o),rfl,⟨⟨Jj,om,om⟩,n⟩,om,om⟩) λH=>.bind (Jf j.g.1) λE w=>.bind ((wJ (B:=16384) (S:=1073741824) (X:=(o,0,4,E.1,0,0,0,(0,0,(false,[]),false,[]),[])) ⟨n,aD,aG 4,w.1.1,aD,aD,aD,⟨aD,aD,⟨trivial,Ja⟩,trivial,Ja⟩,Ja⟩).eqn) λC r=>.ne (λA=>.some ⟨aO,r.1.1.c⟩) λA=>have L:Has C.1.2.2.2.2.2.1 E.1:=sg ⟨n,aD,aG 4,w.1.1,aD,aD,aD,⟨aD,aD,⟨trivial,Ja⟩,trivial,Ja⟩,Ja⟩ r.2 A;have:=Jh k 1;.some ⟨(J1 .i64 k 1,C.1),rfl,⟨⟨Jj,om,om⟩,r.1.1.1⟩,om,om⟩) λD=>.some ⟨n,aD⟩) (0,(X.2.1.1,X.2.1.2.1,X.1,v.1,(X.2.1.2.2.2.2.1,[]),X.2.1.2.2.2.1,X.2.1.2.2.2.2.2.2,X.2.1.2.2.2.2.2.1)) rfl ⟨⟨aD,om,om⟩,j.1,j.2.1,j.c.1.u,j.d.1.u,⟨j.e.1.1.u,J8⟩,j.g.u⟩
theorem Iz{B S:Int}{X:TD}(h:aB B S (.pr JY Jg) X)(r:BH B S:=by omega)(w:S<=9223372036854775807:=by omega):Tot (US X) λy=>aB B S mW y:=by unfold US;exact .bind (Md (B:=0) (S:=S) h.2.z.1) λo h1=>.ne (λj=>.some ⟨⟨aO,J8,aD,J8,trivial,J8⟩,h1.2⟩) λj=>have q:aB 16384 1073741824 sH (o.1,X.2.2.1):=⟨h1.1.u,h.2.z.2.1⟩;.bind (Wv q) λv g=>.ne (λn=>.some ⟨⟨aO,J8,aD,J8,trivial,J8⟩,g.2⟩) λn=>.bind (Q6 (B:=400000001) (S:=1073741824) ⟨h1.1.u,g.1,h.2.z.2.2⟩) λx e=>.ne (λk=>.some ⟨⟨aO,J8,aD,J8,trivial,J8⟩,e.2⟩) λk=>.some ⟨⟨e.1.u,h.1⟩,aD⟩
theorem Ha{B S:Int}{X:TD}(h:aB B S (.pr JY Jg) X)(e:BH B S:=by omega)(g:S<=9223372036854775807:=by omega):Tot (UU X) λy=>aB B S mW y:=by unfold UU;exact .bind (Iz (B:=B) (S:=S) ⟨h.1,h.2.z.1.u,h.2.z.2.1,h.2.z.2.2⟩) λj h1=>.some (h1)
theorem JeE{B S:Int}{X:AU}(h:aB B S (.pr eT EZ) X)(p0:J0 X.2.2.2.2.2.2.2.2.2.2.2.2.2.2.2.2.2.2.2.2.1<=16000)(V:J0 X.2.2.2.2.2.2.2.2.2.2.2.2.2.2.2.2.2.2.2.2.2<=16000)(Q:BG B S:=by omega)(W:S<=9223372036854775807:=by omega):Tot (WZ X) λy=>aB B S TI y/\(J0 y.2.2.2.2.2.2.2.2.2.2.2.2.2.2.2.2.2.2.2.2.1<=J0 X.2.2.2.2.2.2.2.2.2.2.2.2.2.2.2.2.2.2.2.2.1+1/\J0 y.2.2.2.2.2.2.2.2.2.2.2.2.2.2.2.2.2.2.2.2.2<=J0 X.2.2.2.2.2.2.2.2.2.2.2.2.2.2.2.2.2.2.2.2.2+1):=by unfold WZ;exact have:=Jd (l:=X.2.2.2.2.2.2.2.2.2.2.2.2.2.2.2.2.2.2.2.2.1);have K:aB 16000 S (.l zI) X.2.2.2.2.2.2.2.2.2.2.2.2.2.2.2.2.2.2.2.2.1:=⟨(by omega:J0 X.2.2.2.2.2.2.2.2.2.2.2.2.2.2.2.2.2.2.2.2.1<=16000),λx A=>h.k.k.c.1.2 x A⟩;have H:aB 16000 S (.l dU) X.2.2.2.2.2.2.2.2.2.2.2.2.2.2.2.2.2.2.2.2.2:=⟨(by omega:J0 X.2.2.2.2.2.2.2.2.2.2.2.2.2.2.2.2.2.2.2.2.2<=16000),λx A=>h.k.k.e x A⟩;.bind (Pt (B:=B) (S:=S) ⟨⟨⟨h.2.1,h.c.1,⟨h.d.1,h.e.1,h.g.1⟩,⟨h.h.1,h.i.1,h.j.1⟩,⟨h.k.1,h.k.2.1⟩,h.k.c.1,h.k.d.1,h.k.e.1⟩,h.k.g.1,h.k.h.1,h.k.i.1,trivial,h.k.k.1⟩,h.1.z.2.2.2.1,h.1.z.2.2.1,h.1.z.2.2.2.2.1⟩) λL J=>.bind (Ha (B:=B) (S:=S) ⟨J.1,J.2.z.u,h.2.1,h.h.1⟩) λE n=>Jm (τ:=MV) (λq=>(E.2,q.1,X.2.1,X.2.2.1,X.2.2.2.1,X.2.2.2.2.1,X.2.2.2.2.2.1,X.2.2.2.2.2.2.1,X.2.2.2.2.2.2.2.1,X.2.2.2.2.2.2.2.2.1,X.2.2.2.2.2.2.2.2.2.1,X.2.2.2.2.2.2.2.2.2.2.1,X.2.2.2.2.2.2.2.2.2.2.2.1,X.2.2.2.2.2.2.2.2.2.2.2.2.1,X.2.2.2.2.2.2.2.2.2.2.2.2.2.1,X.2.2.2.2.2.2.2.2.2.2.2.2.2.2.1,X.2.2.2.2.2.2.2.2.2.2.2.2.2.2.2.1,X.2.2.2.2.2.2.2.2.2.2.2.2.2.2.2.2.1,X.2.2.2.2.2.2.2.2.2.2.2.2.2.2.2.2.2.1,X.2.2.2.2.2.2.2.2.2.2.2.2.2.2.2.2.2.2.1,X.2.2.2.2.2.2.2.2.2.2.2.2.2.2.2.2.2.2.2.1,q.2,X.2.2.2.2.2.2.2.2.2.2.2.2.2.2.2.2.2.2.2.2.2,X.1,(0,0,0,(false,[]),0),L.1,E.1)) (λq=>aB 0 0 zI q.1/\aB 16000 S (.l zI) q.2/\(0<=q.1)/\(q.1<=J0 q.2)/\(J0 q.2=J0 X.2.2.2.2.2.2.2.2.2.2.2.2.2.2.2.2.2.2.2.2.1)) (λq=>J0 q.2-q.1) (by rintro⟨o,r⟩ w;dsimp only at w;obtain⟨I,v,O,M,P⟩:=w;unfold E6;(try dsimp only);exact have:=J2.1 I;.lt (λD=>.bind (gT (l:=r)) λ_ _=>.bind (pH v) λU N=>have:=Jh o 1;have:J0 (bA r (Int.toNat o) 0)<=16000:=(nV (t:=zI) (i:=Int.toNat o) (x:=0) v aD).1;have:=Jd (l:=bA r (Int.toNat o) 0);have:J0 (bA r (Int.toNat o) 0)=J0 r:=rK;.some ⟨(J1 .i64 o 1,bA r (Int.toNat o) 0),rfl,⟨Jj,nV (t:=zI) (i:=Int.toNat o) (x:=0) v aD,om,om,om⟩,om,om⟩) λD=>.inr (.ne (λC=>.bind (EC n.2) λR F=>.some ⟨⟨F.u,h.2.1,h.c.1,h.d.1,h.e.1,h.g.1,h.h.1,h.i.1,h.j.1,h.k.1,h.k.2.1,h.k.c.1,h.k.d.1,h.k.e.1,h.k.g.1,h.k.h.1,h.k.i.1,trivial,h.k.k.1,trivial,v.u,H.u⟩,om⟩) λC=>.bind (EC (B:=0) (S:=0) aD) λT G=>.some ⟨⟨G.u,n.1.1.1,n.1.1.2.1,n.1.1.c.1.1,n.1.1.c.1.2.1,n.1.1.c.1.c,n.1.1.d.1.1,n.1.1.d.1.2.1,n.1.1.d.1.c,n.1.1.e.1.1,n.1.1.e.1.2,n.1.1.g.1,n.1.1.h.1,n.1.1.i,n.1.2.1,n.1.c.1,n.1.d.1,trivial,n.1.g,trivial,v.u,H.u⟩,om⟩)) (0,X.2.2.2.2.2.2.2.2.2.2.2.2.2.2.2.2.2.2.2.2.1) rfl ⟨aD,K,om,om,om⟩
theorem MC{B S:Int}{X:mi}(h:aB B S (.pr Ji (.pr zI EZ)) X)(r:BH B S:=by omega):Tot (wZ X) λy=>aB B S TI y/\(J0 y.2.2.2.2.2.2.2.2.2.2.2.2.2.2.2.2.2.2.2.2.1=J0 X.2.2.2.2.2.2.2.2.2.2.2.2.2.2.2.2.2.2.2.2.2.1/\J0 y.2.2.2.2.2.2.2.2.2.2.2.2.2.2.2.2.2.2.2.2.2=J0 X.2.2.2.2.2.2.2.2.2.2.2.2.2.2.2.2.2.2.2.2.2.2):=by unfold wZ;exact .eq (λo=>.bind (EC h.2.1) λw q=>.some ⟨⟨q.u,h.1.1.1,h.1.1.2.1,h.1.1.c.1.1,h.1.1.c.1.2.1,h.1.1.c.1.c,h.1.1.d.1.1,h.1.1.d.1.2.1,h.1.1.d.1.c,h.1.1.e.1.1,h.1.1.e.1.2,h.1.1.g.1,h.1.1.h.1,h.1.1.i,h.1.2.1,h.1.c.1,h.1.d.1,trivial,h.1.g,trivial,h.k.k.d⟩,om⟩) λo=>.bind (EC h.2.1) λv n=>.some ⟨⟨n.u,h.c.1,h.d.1,h.e.1,h.g.1,h.h.1,h.i.1,h.j.1,h.k.1,h.k.2.1,h.k.c.1,h.k.d.1,h.k.e.1,h.k.g.1,h.k.h.1,h.k.i.1,h.k.j.1,trivial,h.k.k.2.1,trivial,h.k.k.d⟩,om⟩
theorem Zu{B S:Int}{X:AU}(h:aB B S (.pr eT EZ) X)(p0:J0 X.2.2.2.2.2.2.2.2.2.2.2.2.2.2.2.2.2.2.2.2.1<=16000)(p1:J0 X.2.2.2.2.2.2.2.2.2.2.2.2.2.2.2.2.2.2.2.2.2<=16000)(ae:BH B S:=by omega)(hB:B<=1000000:=by omega)(hS:S<=1000000000000:=by omega):Tot (XD X) λy=>aB B S TI y/\(J0 y.2.2.2.2.2.2.2.2.2.2.2.2.2.2.2.2.2.2.2.2.1<=J0 X.2.2.2.2.2.2.2.2.2.2.2.2.2.2.2.2.2.2.2.2.1+1/\J0 y.2.2.2.2.2.2.2.2.2.2.2.2.2.2.2.2.2.2.2.2.2<=J0 X.2.2.2.2.2.2.2.2.2.2.2.2.2.2.2.2.2.2.2.2.2+1):=by unfold XD;exact have:=Jd (l:=X.2.2.2.2.2.2.2.2.2.2.2.2.2.2.2.2.2.2.2.2.1);have:J0 X.2.2.2.2.2.2.2.2.2.2.2.2.2.2.2.2.2.2.2.2.2=_:=Jw h.k.k.d;have E:aB 16000 S (.l zI) X.2.2.2.2.2.2.2.2.2.2.2.2.2.2.2.2.2.2.2.2.1:=⟨(by omega:J0 X.2.2.2.2.2.2.2.2.2.2.2.2.2.2.2.2.2.2.2.2.1<=16000),λx P=>h.k.k.c.1.2 x P⟩;have D:aB 16000 S (.l dU) X.2.2.2.2.2.2.2.2.2.2.2.2.2.2.2.2.2.2.2.2.2:=⟨(by omega:J0 X.2.2.2.2.2.2.2.2.2.2.2.2.2.2.2.2.2.2.2.2.2<=16000),λx P=>h.k.k.e x P⟩;.eq (λc8=>.bind (Ol (B:=B) (S:=S) ⟨⟨h.2.1,h.c.1,⟨h.d.1,h.e.1,h.g.1⟩,⟨h.h.1,h.i.1,h.j.1⟩,⟨h.k.1,h.k.2.1⟩,h.k.c.1,h.k.d.1,h.k.e.1⟩,h.k.g.1,h.k.h.1,h.k.i.1,trivial,h.k.k.1⟩) λy2 C=>.eq (λV=>.bind (bI (B:=16001) (Bl:=16000) (Bm:=1) (S:=S) (J0 X.2.2.2.2.2.2.2.2.2.2.2.2.2.2.2.2.2.2.2.2.1) 1 E ((bY (B:=1) (S:=0) (t:=zI) oo C.2.1).u)) λy3 Q=>.bind (MC (B:=B) (S:=S) ⟨C.1,C.c,h.2.1,h.c.1,h.d.1,h.e.1,h.g.1,h.h.1,h.i.1,h.j.1,h.k.1,h.k.2.1,h.k.c.1,h.k.d.1,h.k.e.1,h.k.g.1,h.k.h.1,h.k.i.1,trivial,h.k.k.1,trivial,Q.1.u,D.u⟩) λO n=>have:J0 O.2.2.2.2.2.2.2.2.2.2.2.2.2.2.2.2.2.2.2.2.2=_:=Jw n.1.k.k.d;have:J0 O.2.2.2.2.2.2.2.2.2.2.2.2.2.2.2.2.2.2.2.2.1=J0 y3/\J0 O.2.2.2.2.2.2.2.2.2.2.2.2.2.2.2.2.2.2.2.2.2=J0 X.2.2.2.2.2.2.2.2.2.2.2.2.2.2.2.2.2.2.2.2.2:=n.2;.some ⟨⟨⟨n.1.1.z.1,C.2.1,n.1.1.z.2.2.u⟩,n.1.2.1,n.1.c.1,n.1.d.1,n.1.e.1,n.1.g.1,n.1.h.1,n.1.i.1,n.1.j.1,n.1.k.1,n.1.k.2.1,n.1.k.c.1,n.1.k.d.1,n.1.k.e.1,n.1.k.g.1,n.1.k.h.1,n.1.k.i.1,trivial,n.1.k.k.1,trivial,n.1.k.k.c⟩,om⟩) λV=>.bind (MC (B:=B) (S:=S) ⟨C.1,C.c,h.2.1,h.c.1,h.d.1,h.e.1,h.g.1,h.h.1,h.i.1,h.j.1,h.k.1,h.k.2.1,h.k.c.1,h.k.d.1,h.k.e.1,h.k.g.1,h.k.h.1,h.k.i.1,trivial,h.k.k.1,trivial,E.u,D.u⟩) λN o=>have:J0 N.2.2.2.2.2.2.2.2.2.2.2.2.2.2.2.2.2.2.2.2.2=_:=Jw o.1.k.k.d;have:J0 N.2.2.2.2.2.2.2.2.2.2.2.2.2.2.2.2.2.2.2.2.1=J0 X.2.2.2.2.2.2.2.2.2.2.2.2.2.2.2.2.2.2.2.2.1/\J0 N.2.2.2.2.2.2.2.2.2.2.2.2.2.2.2.2.2.2.2.2.2=J0 X.2.2.2.2.2.2.2.2.2.2.2.2.2.2.2.2.2.2.2.2.2:=o.2;.some ⟨⟨⟨o.1.1.z.1,C.2.1,o.1.1.z.2.2.u⟩,o.1.2.1,o.1.c.1,o.1.d.1,o.1.e.1,o.1.g.1,o.1.h.1,o.1.i.1,o.1.j.1,o.1.k.1,o.1.k.2.1,o.1.k.c.1,o.1.k.d.1,o.1.k.e.1,o.1.k.g.1,o.1.k.h.1,o.1.k.i.1,trivial,o.1.k.k.1,trivial,o.1.k.k.c⟩,om⟩) λc8=>.eq (λT=>.bind (Zo (B:=B) (S:=S) ⟨h.1.z.u,h.2.1,h.c.1,h.d.1,h.e.1,h.g.1,h.h.1,h.i.1,h.j.1,h.k.1,h.k.2.1,h.k.c.1,h.k.d.1,h.k.e.1,h.k.g.1,h.k.h.1,h.k.i.1,trivial,h.k.k.1,trivial,E.u,D.u⟩ om om) λZ w=>have:J0 Z.2.2.2.2.2.2.2.2.2.2.2.2.2.2.2.2.2.2.2.2.1<=J0 X.2.2.2.2.2.2.2.2.2.2.2.2.2.2.2.2.2.2.2.2.1+1/\J0 Z.2.2.2.2.2.2.2.2.2.2.2.2.2.2.2.2.2.2.2.2.2<=J0 X.2.2.2.2.2.2.2.2.2.2.2.2.2.2.2.2.2.2.2.2.2+1:=w.2;.some ⟨⟨w.1.1.z.u,w.1.2.1,w.1.c.1,w.1.d.1,w.1.e.1,w.1.g.1,w.1.h.1,w.1.i.1,w.1.j.1,w.1.k.1,w.1.k.2.1,w.1.k.c.1,w.1.k.d.1,w.1.k.e.1,w.1.k.g.1,w.1.k.h.1,w.1.k.i.1,trivial,w.1.k.k.1,trivial,w.1.k.k.c⟩,om⟩) λT=>.eq (λa5=>.bind (Q4 (B:=B) (S:=S) ⟨⟨⟨h.2.1,h.c.1,⟨h.d.1,h.e.1,h.g.1⟩,⟨h.h.1,h.i.1,h.j.1⟩,⟨h.k.1,h.k.2.1⟩,h.k.c.1,h.k.d.1,h.k.e.1⟩,h.k.g.1,h.k.h.1,h.k.i.1,trivial,h.k.k.1⟩,h.1.z.2.2.1⟩) λy7 J=>.bind (MC (B:=B) (S:=S) ⟨J.1,J.2,h.2.1,h.c.1,h.d.1,h.e.1,h.g.1,h.h.1,h.i.1,h.j.1,h.k.1,h.k.2.1,h.k.c.1,h.k.d.1,h.k.e.1,h.k.g.1,h.k.h.1,h.k.i.1,trivial,h.k.k.1,trivial,E.u,D.u⟩) λM q=>have:J0 M.2.2.2.2.2.2.2.2.2.2.2.2.2.2.2.2.2.2.2.2.2=_:=Jw q.1.k.k.d;have:J0 M.2.2.2.2.2.2.2.2.2.2.2.2.2.2.2.2.2.2.2.2.1=J0 X.2.2.2.2.2.2.2.2.2.2.2.2.2.2.2.2.2.2.2.2.1/\J0 M.2.2.2.2.2.2.2.2.2.2.2.2.2.2.2.2.2.2.2.2.2=J0 X.2.2.2.2.2.2.2.2.2.2.2.2.2.2.2.2.2.2.2.2.2:=q.2;.some ⟨⟨q.1.1.z.u,q.1.2.1,q.1.c.1,q.1.d.1,q.1.e.1,q.1.g.1,q.1.h.1,q.1.i.1,q.1.j.1,q.1.k.1,q.1.k.2.1,q.1.k.c.1,q.1.k.d.1,q.1.k.e.1,q.1.k.g.1,q.1.k.h.1,q.1.k.i.1,trivial,q.1.k.k.1,trivial,q.1.k.k.c⟩,om⟩) λa5=>.eq (λa1=>.bind (Yo (B:=B) (S:=S) ⟨⟨h.2.1,h.c.1,⟨h.d.1,h.e.1,h.g.1⟩,⟨h.h.1,h.i.1,h.j.1⟩,⟨h.k.1,h.k.2.1⟩,h.k.c.1,h.k.d.1,h.k.e.1⟩,h.k.g.1,h.k.h.1,h.k.i.1,trivial,h.k.k.1⟩) λy9 L=>.bind (MC (B:=B) (S:=S) ⟨L.1,L.c,h.2.1,h.c.1,h.d.1,h.e.1,h.g.1,h.h.1,h.i.1,h.j.1,h.k.1,h.k.2.1,h.k.c.1,h.k.d.1,h.k.e.1,h.k.g.1,h.k.h.1,h.k.i.1,trivial,h.k.k.1,trivial,E.u,D.u⟩) λG r=>have:J0 G.2.2.2.2.2.2.2.2.2.2.2.2.2.2.2.2.2.2.2.2.2=_:=Jw r.1.k.k.d;have:J0 G.2.2.2.2.2.2.2.2.2.2.2.2.2.2.2.2.2.2.2.2.1=J0 X.2.2.2.2.2.2.2.2.2.2.2.2.2.2.2.2.2.2.2.2.1/\J0 G.2.2.2.2.2.2.2.2.2.2.2.2.2.2.2.2.2.2.2.2.2=J0 X.2.2.2.2.2.2.2.2.2.2.2.2.2.2.2.2.2.2.2.2.2:=r.2;.some ⟨⟨r.1.1.z.u,r.1.2.1,r.1.c.1,r.1.d.1,r.1.e.1,r.1.g.1,r.1.h.1,r.1.i.1,r.1.j.1,r.1.k.1,r.1.k.2.1,r.1.k.c.1,r.1.k.d.1,r.1.k.e.1,r.1.k.g.1,r.1.k.h.1,r.1.k.i.1,trivial,r.1.k.k.1,trivial,r.1.k.k.c⟩,om⟩) λa1=>.eq (λU=>.bind (KX (B:=B) (S:=S) ⟨h.d.1,h.e.1,h.g.1⟩) λad a2=>.bind (UY (B:=B) (S:=S) ⟨⟨h.d.1,h.e.1,h.g.1⟩,a2⟩) λac F=>.eq (λW=>.bind (EC F.1.2) λa8 a3=>.some ⟨⟨a3.u,h.2.1,h.c.1,F.1.1.1,F.1.1.2.1.u,F.1.1.c,h.h.1,h.i.1,h.j.1,h.k.1,h.k.2.1,h.k.c.1,h.k.d.1,h.k.e.1,h.k.g.1,h.k.h.1,h.k.i.1,trivial,h.k.k.1,trivial,E.u,D.u⟩,om⟩) λW=>.bind (EC F.1.2) λaa R=>.some ⟨⟨R.u,h.2.1,h.c.1,h.d.1,h.e.1,h.g.1,h.h.1,h.i.1,h.j.1,h.k.1,h.k.2.1,h.k.c.1,h.k.d.1,h.k.e.1,h.k.g.1,h.k.h.1,h.k.i.1,trivial,h.k.k.1,trivial,E.u,D.u⟩,om⟩) λU=>.eq (λY=>.bind (JeE (B:=B) (S:=S) ⟨h.1.z.u,h.2.1,h.c.1,h.d.1,h.e.1,h.g.1,h.h.1,h.i.1,h.j.1,h.k.1,h.k.2.1,h.k.c.1,h.k.d.1,h.k.e.1,h.k.g.1,h.k.h.1,h.k.i.1,trivial,h.k.k.1,trivial,E.u,D.u⟩ om om) λK A=>have:J0 K.2.2.2.2.2.2.2.2.2.2.2.2.2.2.2.2.2.2.2.2.1<=J0 X.2.2.2.2.2.2.2.2.2.2.2.2.2.2.2.2.2.2.2.2.1+1/\J0 K.2.2.2.2.2.2.2.2.2.2.2.2.2.2.2.2.2.2.2.2.2<=J0 X.2.2.2.2.2.2.2.2.2.2.2.2.2.2.2.2.2.2.2.2.2+1:=A.2;.some ⟨⟨A.1.1.z.u,A.1.2.1,A.1.c.1,A.1.d.1,A.1.e.1,A.1.g.1,A.1.h.1,A.1.i.1,A.1.j.1,A.1.k.1,A.1.k.2.1,A.1.k.c.1,A.1.k.d.1,A.1.k.e.1,A.1.k.g.1,A.1.k.h.1,A.1.k.i.1,trivial,A.1.k.k.1,trivial,A.1.k.k.c⟩,om⟩) λY=>.eq (λa4=>.bind (Iu (B:=B) (S:=S) ⟨⟨h.2.1,h.c.1,⟨h.d.1,h.e.1,h.g.1⟩,⟨h.h.1,h.i.1,h.j.1⟩,⟨h.k.1,h.k.2.1⟩,h.k.c.1,h.k.d.1,h.k.e.1⟩,h.k.g.1,h.k.h.1,h.k.i.1,trivial,h.k.k.1⟩) λab I=>.bind (MC (B:=B) (S:=S) ⟨I.1,I.c,h.2.1,h.c.1,h.d.1,h.e.1,h.g.1,h.h.1,h.i.1,h.j.1,h.k.1,h.k.2.1,h.k.c.1,h.k.d.1,h.k.e.1,h.k.g.1,h.k.h.1,h.k.i.1,trivial,h.k.k.1,trivial,E.u,D.u⟩) λH v=>have:J0 H.2.2.2.2.2.2.2.2.2.2.2.2.2.2.2.2.2.2.2.2.2=_:=Jw v.1.k.k.d;have:J0 H.2.2.2.2.2.2.2.2.2.2.2.2.2.2.2.2.2.2.2.2.1=J0 X.2.2.2.2.2.2.2.2.2.2.2.2.2.2.2.2.2.2.2.2.1/\J0 H.2.2.2.2.2.2.2.2.2.2.2.2.2.2.2.2.2.2.2.2.2=J0 X.2.2.2.2.2.2.2.2.2.2.2.2.2.2.2.2.2.2.2.2.2:=v.2;.some ⟨⟨v.1.1.z.u,v.1.2.1,v.1.c.1,v.1.d.1,v.1.e.1,v.1.g.1,v.1.h.1,v.1.i.1,v.1.j.1,v.1.k.1,v.1.k.2.1,v.1.k.c.1,v.1.k.d.1,v.1.k.e.1,v.1.k.g.1,v.1.k.h.1,v.1.k.i.1,trivial,v.1.k.k.1,trivial,v.1.k.k.c⟩,om⟩) λa4=>.bind (eH (B:=0) (S:=0) (aG 1)) λa9 a0=>.some ⟨⟨a0.1.u,h.2.1,h.c.1,h.d.1,h.e.1,h.g.1,h.h.1,h.i.1,h.j.1,h.k.1,h.k.2.1,h.k.c.1,h.k.d.1,h.k.e.1,h.k.g.1,h.k.h.1,h.k.i.1,trivial,h.k.k.1,trivial,E.u,D.u⟩,om⟩
theorem Fq{B S:Int}{X:Jz×(List tL)}(h:aB B S (.pr Ji (.l eT)) X)(aq:BH B S:=by omega)(hB:B<=1000000:=by omega)(hS:S<=1000000000000:=by omega):Tot (QZ X) λy=>aB B S (.pr Ji (.pr (.l cV) (.l dU))) y:=by unfold QZ;exact Jm (τ:=Int×(List Int)×(List yZ)×Int×Int×Int×(List aA)×Int×Int×(List cZ)×Int×(List aE)×(List aE)×(List Jt)×(List aC)×(List aC)×(List (List UInt8))×Int×(List Int)×Bool×(List JU)×Bool×(List fY)) (λq=>(X.2,q.1,X.1,((0,0,(0,[],0),(0,[],0),([],[]),[],[],[]),[],0,[],false,[]),q.2.1,q.2.2.1,q.2.2.2.1,q.2.2.2.2.1,q.2.2.2.2.2.1,q.2.2.2.2.2.2.1,q.2.2.2.2.2.2.2.1,q.2.2.2.2.2.2.2.2.1,q.2.2.2.2.2.2.2.2.2.1,q.2.2.2.2.2.2.2.2.2.2.1,q.2.2.2.2.2.2.2.2.2.2.2.1,q.2.2.2.2.2.2.2.2.2.2.2.2.1,q.2.2.2.2.2.2.2.2.2.2.2.2.2.1,q.2.2.2.2.2.2.2.2.2.2.2.2.2.2.1,q.2.2.2.2.2.2.2.2.2.2.2.2.2.2.2.1,q.2.2.2.2.2.2.2.2.2.2.2.2.2.2.2.2.1,q.2.2.2.2.2.2.2.2.2.2.2.2.2.2.2.2.2.1,q.2.2.2.2.2.2.2.2.2.2.2.2.2.2.2.2.2.2.1,q.2.2.2.2.2.2.2.2.2.2.2.2.2.2.2.2.2.2.2.1,q.2.2.2.2.2.2.2.2.2.2.2.2.2.2.2.2.2.2.2.2.1,q.2.2.2.2.2.2.2.2.2.2.2.2.2.2.2.2.2.2.2.2.2.1,q.2.2.2.2.2.2.2.2.2.2.2.2.2.2.2.2.2.2.2.2.2.2)) (λq=>aB 0 0 zI q.1/\aB 1000 S (.l zI) q.2.1/\aB 1000 S (.l dU) q.2.2.1/\aB 0 0 zI q.2.2.2.1/\aB 0 0 zI q.2.2.2.2.1/\aB 0 0 zI q.2.2.2.2.2.1/\aB B S (.l J3) q.2.2.2.2.2.2.1/\aB 0 0 zI q.2.2.2.2.2.2.2.1/\aB 0 0 zI q.2.2.2.2.2.2.2.2.1/\aB B S (.l dA) q.2.2.2.2.2.2.2.2.2.1/\aB 0 0 zI q.2.2.2.2.2.2.2.2.2.2.1/\aB B S (.l J6) q.2.2.2.2.2.2.2.2.2.2.2.1/\aB B S (.l J6) q.2.2.2.2.2.2.2.2.2.2.2.2.1/\aB B S (.l Jk) q.2.2.2.2.2.2.2.2.2.2.2.2.2.1/\aB B S (.l Jb) q.2.2.2.2.2.2.2.2.2.2.2.2.2.2.1/\aB B S (.l Jb) q.2.2.2.2.2.2.2.2.2.2.2.2.2.2.2.1/\aB B S (.l .s) q.2.2.2.2.2.2.2.2.2.2.2.2.2.2.2.2.1/\aB 0 0 zI q.2.2.2.2.2.2.2.2.2.2.2.2.2.2.2.2.2.1/\aB B S (.l zI) q.2.2.2.2.2.2.2.2.2.2.2.2.2.2.2.2.2.2.1/\aB B S (.l JQ) q.2.2.2.2.2.2.2.2.2.2.2.2.2.2.2.2.2.2.2.2.1/\aB 1000 S (.l cV) q.2.2.2.2.2.2.2.2.2.2.2.2.2.2.2.2.2.2.2.2.2.2/\(0<=q.1)/\(q.1<=1000)/\(J0 q.2.1<=q.1)/\(J0 q.2.2.1<=q.1)/\(J0 q.2.2.2.2.2.2.2.2.2.2.2.2.2.2.2.2.2.2.2.2.2.2<=q.1)) (λq=>1001-q.1) (by rintro⟨N,v,M,al,am,an,ao,aa,ac,ai,ak,ad,af,ag,a6,a8,aj,ah,ae,a7,a9,ab,J⟩ W;dsimp only at W;obtain⟨i1,i2,i3,i4,Q,V,R,P,U,E,K,L,D,G,w,A,C,H,I,F,r,ax,av,aw,ap,au⟩:=W;unfold uc;(try dsimp only);exact have:J0 v<=1000:=i2.1;have:=Jd (l:=v);have:J0 M=_/\_:=lF i3;have:J0 J=_/\_:=lF r;have:J0 X.2=_:=Jw h.2;.lt (λa3=>.lt (λa1=>.not (λa2=>.bind (Jf h.2) λy3 a4=>.bind (Zu (B:=B) (S:=S) ⟨a4.1.z.u,i4,Q,V,R,P,U,E,K,L,D,G,w,A,C,H,I,trivial,F,trivial,i2.u,i3.u⟩ om om) λo n=>have:J0 o.2.2.2.2.2.2.2.2.2.2.2.2.2.2.2.2.2.2.2.2.2=_:=Jw n.1.k.k.d;have:J0 o.2.2.2.2.2.2.2.2.2.2.2.2.2.2.2.2.2.2.2.2.1<=J0 v+1/\J0 o.2.2.2.2.2.2.2.2.2.2.2.2.2.2.2.2.2.2.2.2.2<=J0 M+1:=n.2;.bind (bI (B:=1001) (Bl:=1000) (Bm:=1) (S:=S) (J0 J) 1 r (bY (B:=1) (S:=S) (t:=cV) oo (n.1.1.z.u))) λT Y=>have a5:aB 1000 S (.l zI) o.2.2.2.2.2.2.2.2.2.2.2.2.2.2.2.2.2.2.2.2.1:=⟨(by omega:J0 o.2.2.2.2.2.2.2.2.2.2.2.2.2.2.2.2.2.2.2.2.1<=1000),λx O=>n.1.k.k.c.1.2 x O⟩;have a0:aB 1000 S (.l dU) o.2.2.2.2.2.2.2.2.2.2.2.2.2.2.2.2.2.2.2.2.2:=⟨(by omega:J0 o.2.2.2.2.2.2.2.2.2.2.2.2.2.2.2.2.2.2.2.2.2<=1000),λx O=>n.1.k.k.e x O⟩;have:J0 T=_:=Jw Y.1;have Z:aB 1000 S (.l cV) T:=⟨(by omega:J0 T<=1000),λx O=>Y.1.2 x O⟩;have:=Jh N 1;.some ⟨(J1 .i64 N 1,o.2.2.2.2.2.2.2.2.2.2.2.2.2.2.2.2.2.2.2.2.1,o.2.2.2.2.2.2.2.2.2.2.2.2.2.2.2.2.2.2.2.2.2,o.2.1,o.2.2.1,o.2.2.2.1,o.2.2.2.2.1,o.2.2.2.2.2.1,o.2.2.2.2.2.2.1,o.2.2.2.2.2.2.2.1,o.2.2.2.2.2.2.2.2.1,o.2.2.2.2.2.2.2.2.2.1,o.2.2.2.2.2.2.2.2.2.2.1,o.2.2.2.2.2.2.2.2.2.2.2.1,o.2.2.2.2.2.2.2.2.2.2.2.2.1,o.2.2.2.2.2.2.2.2.2.2.2.2.2.1,o.2.2.2.2.2.2.2.2.2.2.2.2.2.2.1,o.2.2.2.2.2.2.2.2.2.2.2.2.2.2.2.1,o.2.2.2.2.2.2.2.2.2.2.2.2.2.2.2.2.1,o.2.2.2.2.2.2.2.2.2.2.2.2.2.2.2.2.2.1,o.2.2.2.2.2.2.2.2.2.2.2.2.2.2.2.2.2.2.1,o.2.2.2.2.2.2.2.2.2.2.2.2.2.2.2.2.2.2.2.1,T),rfl,⟨Jj,a5,a0,n.1.2.1,n.1.c.1,n.1.d.1,n.1.e.1,n.1.g.1,n.1.h.1,n.1.i.1,n.1.j.1,n.1.k.1,n.1.k.2.1,n.1.k.c.1,n.1.k.d.1,n.1.k.e.1,n.1.k.g.1,n.1.k.h.1,n.1.k.i.1,n.1.k.k.1,Z,om,om,om,om,om⟩,om,om⟩) λa2=>.some ⟨⟨⟨i4,Q,⟨V,R,P⟩,⟨U,E,K⟩,⟨L,D⟩,G,w,A⟩,C,H,I,trivial,F⟩,r.u,i3.u⟩) λa1=>.some ⟨⟨⟨i4,Q,⟨V,R,P⟩,⟨U,E,K⟩,⟨L,D⟩,G,w,A⟩,C,H,I,trivial,F⟩,r.u,i3.u⟩) λa3=>.some ⟨⟨⟨i4,Q,⟨V,R,P⟩,⟨U,E,K⟩,⟨L,D⟩,G,w,A⟩,C,H,I,trivial,F⟩,r.u,i3.u⟩) (0,[],[],X.1.1.1,X.1.1.2.1,X.1.1.2.2.1.1,X.1.1.2.2.1.2.1,X.1.1.2.2.1.2.2,X.1.1.2.2.2.1.1,X.1.1.2.2.2.1.2.1,X.1.1.2.2.2.1.2.2,X.1.1.2.2.2.2.1.1,X.1.1.2.2.2.2.1.2,X.1.1.2.2.2.2.2.1,X.1.1.2.2.2.2.2.2.1,X.1.1.2.2.2.2.2.2.2,X.1.2.1,X.1.2.2.1,X.1.2.2.2.1,X.1.2.2.2.2.1,X.1.2.2.2.2.2,false,[]) rfl ⟨aD,J8,J8,h.1.1.1,h.1.1.2.1,h.1.1.c.1.1,h.1.1.c.1.2.1,h.1.1.c.1.c,h.1.1.d.1.1,h.1.1.d.1.2.1,h.1.1.d.1.c,h.1.1.e.1.1,h.1.1.e.1.2,h.1.1.g.1,h.1.1.h.1,h.1.1.i,h.1.2.1,h.1.c.1,h.1.d.1,h.1.g,J8,om,om,om,om,om⟩
theorem Zm{B S:Int}{X:SQ}(h:aB B S TM X)(p0:0<=X.2.2.2)(x:0<=X.1)(r:X.1<=1000)(q:BH B S:=by omega)(C:B<=1000000:=by omega)(A:S<=1000000000000:=by omega):Tot (WY X) λy=>aB B S (.pr Ji J4) y/\(0<=y.2.2):=by unfold WY;exact .bind (Jn (B:=B) (S:=S) ⟨aG 4,h.c⟩ om) λD n=>have:=J2.1 n.1.c;.bind (Jn (B:=B) (S:=S) ⟨aG 3,n.1.2⟩ om) λv j=>have:=J2.1 j.1.c;.bind (Hn (B:=0) (S:=0) ⟨Jj,Jj⟩) λz k=>.bind (Zt (B:=B) (S:=S) ⟨Jj,h.1,trivial,j.1.2⟩ om om om) λo e=>have:0<=o.2.2:=e.2;.bind (Fq (B:=B) (S:=S) ⟨k.1.u,e.1.1⟩) λw g=>.some ⟨⟨g.1,e.1.2⟩,om⟩
theorem Y6{B S:Int}{X:SQ}(h:aB B S TM X)(p0:0<=X.2.2.2)(k:0<=X.1)(o:X.1<=1000)(j:BH B S:=by omega)(q:B<=1000000:=by omega)(n:S<=1000000000000:=by omega):Tot (WW X) λy=>aB B S (.pr J5 J4) y/\(0<=y.2.2):=by unfold WW;exact .bind (Zm (B:=B) (S:=S) ⟨h.1,trivial,h.c⟩ om om om) λg e=>have:0<=g.2.2:=e.2;.some ⟨⟨e.1.1.1,e.1.2⟩,om⟩
theorem JDC{B S:Int}{X:lX}(h:aB B S BO X)(p0:0<=X.2.2)(o:0<=X.1)(v:X.1<=1000)(n:BH B S:=by omega)(w:B<=1000000:=by omega)(r:S<=1000000000000:=by omega):Tot (wF X) λy=>aB B S (.pr zI (.pr JT J4)) y/\(0<=y.2.2.2):=by unfold wF;exact .bind (Y6 (B:=B) (S:=S) ⟨h.1,trivial,h.2⟩ om om om) λk e=>have:0<=k.2.2:=e.2;.bind (KX e.1.1.c.1) λq g=>.bind (UY (B:=B) (S:=S) ⟨e.1.1.c.1,g⟩) λx j=>.some ⟨⟨e.1.1.1,j.1.1.u,e.1.2⟩,om⟩
theorem Z8{B S:Int}{X:il}(h:aB B S (.pr dK J4) X)(p0:0<=X.2.2)(D:BG B S:=by omega):Tot (XA X) λy=>aB B S (.pr dK J4) y/\(0<=y.2.2):=by unfold XA;exact .bind (Jn (B:=B) (S:=S) ⟨aG 4,h.2⟩ om) λq h2=>have:=J2.1 h2.1.1;have:=J2.1 h2.1.c;have:0<=q.1/\q.1<4/\0<=q.2.2:=⟨h2.2.1,h2.c.1 (show(1:Int)<=4 by decide),h2.d⟩;.eq (λC=>.bind (eV h2.1.2 om) λx o=>have:0<=x.2.2:=o.2;.some ⟨⟨⟨o.1.1,h.1.z.2.u⟩,o.1.2⟩,om⟩) λC=>.eq (λv=>.bind (eV h2.1.2 om) λA g=>have:0<=A.2.2:=g.2;.some ⟨⟨⟨h.1.z.1,g.1.1,h.1.z.2.2.u⟩,g.1.2⟩,om⟩) λv=>.eq (λr=>.bind (Jn (B:=B) (S:=S) ⟨aG 2,h2.1.2⟩ om) λG n=>have:=J2.1 n.1.c;.bind (EW n.1.2 om) λH e=>have:=J2.1 e.1.c;.some ⟨⟨⟨h.1.z.1,h.1.z.2.1,⟨trivial,e.1.1.z.u⟩,h.1.z.2.2.2.u⟩,e.1.2⟩,om⟩) λr=>.eq (λw=>.bind (Jn (B:=B) (S:=S) ⟨aG 2,h2.1.2⟩ om) λE k=>have:=J2.1 k.1.c;.bind (EW k.1.2 om) λF j=>have:=J2.1 j.1.c;.some ⟨⟨⟨h.1.z.1,h.1.z.2.1,h.1.z.2.2.1.u,trivial,j.1.1.z.u⟩,j.1.2⟩,om⟩) λw=>.some ⟨⟨h.1.z.u,h2.1.2⟩,om⟩
theorem Zy{B S:Int}{X:ij}(h:aB B S (.pr J3 J4) X)(p0:0<=X.2.2)(U:BG B S:=by omega):Tot (XC X) λy=>aB B S (.pr J3 J4) y/\(0<=y.2.2):=by unfold XC;exact .bind (Jn (B:=B) (S:=S) ⟨aG 9,h.2⟩ om) λx h2=>have:=J2.1 h2.1.1;have:=J2.1 h2.1.c;have:0<=x.1/\x.1<9/\0<=x.2.2:=⟨h2.2.1,h2.c.1 (show(1:Int)<=9 by decide),h2.d⟩;.eq (λQ=>.bind (eV h2.1.2 om) λL w=>have:0<=L.2.2:=w.2;.some ⟨⟨⟨w.1.1,h.1.z.2.u⟩,w.1.2⟩,om⟩) λQ=>.eq (λE=>.bind (Jn (B:=B) (S:=S) ⟨aG 11,h2.1.2⟩ om) λV v=>have:=J2.1 v.1.c;.some ⟨⟨⟨h.1.z.1,eG,h.1.z.2.2.u⟩,v.1.2⟩,om⟩) λE=>.eq (λD=>.bind (eV h2.1.2 om) λN o=>have:0<=N.2.2:=o.2;.some ⟨⟨⟨h.1.z.1,h.1.z.2.1,o.1.1,h.1.z.2.2.2.u⟩,o.1.2⟩,om⟩) λD=>.eq (λF=>.bind (eV h2.1.2 om) λO q=>have:0<=O.2.2:=q.2;.some ⟨⟨⟨h.1.z.1,h.1.z.2.1,h.1.z.2.2.1,q.1.1,h.1.z.2.2.2.2.u⟩,q.1.2⟩,om⟩) λF=>.eq (λI=>.bind (eV h2.1.2 om) λK r=>have:0<=K.2.2:=r.2;.some ⟨⟨⟨h.1.z.1,h.1.z.2.1,h.1.z.2.2.1,h.1.z.2.2.2.1,r.1.1,h.1.z.2.2.2.2.2.u⟩,r.1.2⟩,om⟩) λI=>.eq (λJ=>.bind (eV h2.1.2 om) λM k=>have:0<=M.2.2:=k.2;.some ⟨⟨⟨h.1.z.1,h.1.z.2.1,h.1.z.2.2.1,h.1.z.2.2.2.1,h.1.z.2.2.2.2.1,k.1.1,h.1.z.2.2.2.2.2.2.u⟩,k.1.2⟩,om⟩) λJ=>.eq (λA=>.bind (Z8 (B:=B) (S:=S) ⟨h.1.z.2.2.2.2.2.2.1.u,h2.1.2⟩ om) λP n=>have:0<=P.2.2:=n.2;.some ⟨⟨⟨h.1.z.1,h.1.z.2.1,h.1.z.2.2.1,h.1.z.2.2.2.1,h.1.z.2.2.2.2.1,h.1.z.2.2.2.2.2.1,n.1.1.z.u,h.1.z.2.2.2.2.2.2.2.u⟩,n.1.2⟩,om⟩) λA=>.eq (λC=>.bind (EW h2.1.2 om) λR j=>have:=J2.1 j.1.c;.some ⟨⟨⟨h.1.z.1,h.1.z.2.1,h.1.z.2.2.1,h.1.z.2.2.2.1,h.1.z.2.2.2.2.1,h.1.z.2.2.2.2.2.1,h.1.z.2.2.2.2.2.2.1.u,j.1.1.z.u⟩,j.1.2⟩,om⟩) λC=>.eq (λG=>.bind (Jn (B:=B) (S:=S) ⟨aG 2,h2.1.2⟩ om) λg e=>have:=J2.1 e.1.1;have:=J2.1 e.1.c;have:0<=g.1/\g.1<2/\0<=g.2.2:=⟨e.2.1,e.c.1 (show(1:Int)<=2 by decide),e.d⟩;have:=Jh 8192 g.1;.bind (BV (t:=(.i .u8)) (B:=8194) (S:=0) (gH .u8 0)) λT H=>.some ⟨⟨⟨h.1.z.1,h.1.z.2.1,h.1.z.2.2.1,h.1.z.2.2.2.1,h.1.z.2.2.2.2.1,h.1.z.2.2.2.2.2.1,h.1.z.2.2.2.2.2.2.1.u,(KK (B:=0) (S:=8194) H.1.1).u⟩,e.1.2⟩,om⟩) λG=>.some ⟨⟨h.1.z.u,h2.1.2⟩,om⟩
theorem WG{B S:Int}{X:jj}(h:aB B S y0 X)(r:BS B S 0 0:=by omega):Tot (oB X) λy=>aB 0 0 zI y:=by unfold oB;exact have s0:aB 0 S y0 X:=h;.ltf (λq=>.eq (λo=>have:=J2.1 s0.1.1;.lt (λn=>.some (aG (-1))) λn=>.eq (λk=>.eq (λj=>.some aD) λj=>.some (aG 1)) λk=>.some (aG 1)) λo=>.eq (λe=>have:=J2.1 s0.1.1;.eq (λg=>.some aD) λg=>.some (aG 1)) λe=>.some (aG 1)) λq=>.some (aG (-1))
theorem Si{B S:Int}{X:(List aA)×aA}(h:aB B S (.pr (.l J3) J3) X)(ah:BS B S 0 0:=by omega)(hB:B<=17179869183:=by omega):Tot (VL X) λy=>aB (2*B+1) S (.pr (.l J3) .b) y/\(J0 y.1<=J0 X.1+1):=by unfold VL;exact have:J0 X.1=_/\_:=lF h.1;cG (J0 X.1) (λq=>(X.1,q,X.2)) λa6 i4 w5 z6=>.lt (λQ=>.bind (Jf h.1) λy3 N=>.bind (WG (B:=0) (S:=S) ⟨N.1.z,h.2.z⟩) λy4 a7=>.lt (λK=>.some ⟨Q,rfl⟩) λK=>.inr (.lt (λI=>.bind (Jf h.1) λy5 a3=>.bind (WG (B:=0) (S:=S) ⟨a3.1.z,h.2.z⟩) λy6 aa=>.eq (λU=>.bind (Jf h.1) λy7 a9=>.some ⟨⟨h.1.u,trivial⟩,om⟩) λU=>.bind (kM h.1) λG g=>.clo g.1 oo (by decide) (have:J0 G<=B:=g.1.1;have:J0 G=_:=Jw g.1;.bind (bI (B:=(B+1)) (Bl:=B) (Bm:=1) (S:=S) (J0 G) 1 g.1 (bY (B:=1) (S:=S) (t:=J3) oo (h.2.z.u))) λw D=>.bind (kS h.1) λr o=>have:J0 w=_:=Jw D.1;have:J0 r<=B:=o.1.1;have:J0 r=_:=Jw o.1;.bind (bI (B:=(2*B+1)) (Bl:=(B+1)) (Bm:=B) (S:=S) (J0 w) (J0 r) D.1 o.1) λZ x=>have:J0 Z=_:=Jw x.1;.some ⟨⟨x.1,trivial⟩,om⟩)) λI=>.bind (kM h.1) λJ E=>.clo E.1 oo (by decide) (.bind (bI (B:=(B+1)) (Bl:=B) (Bm:=1) (S:=S) (J0 J) 1 E.1 (bY (B:=1) (S:=S) (t:=J3) oo (h.2.z.u))) λP Y=>.bind (kS h.1) λW a5=>.bind (bI (B:=(2*B+1)) (Bl:=(B+1)) (Bm:=B) (S:=S) (J0 P) (J0 W) Y.1 a5.1) λad a1=>.some ⟨⟨a1.1,trivial⟩,om⟩))) λQ=>.inr (.lt (λT=>.bind (Jf h.1) λae a2=>.bind (WG (B:=0) (S:=S) ⟨a2.1.z,h.2.z⟩) λag ac=>.eq (λO=>.bind (Jf h.1) λaf a8=>.some ⟨⟨h.1.u,trivial⟩,om⟩) λO=>.bind (kM h.1) λL C=>.clo C.1 oo (by decide) (.bind (bI (B:=(B+1)) (Bl:=B) (Bm:=1) (S:=S) (J0 L) 1 C.1 (bY (B:=1) (S:=S) (t:=J3) oo (h.2.z.u))) λR H=>.bind (kS h.1) λM V=>.bind (bI (B:=(2*B+1)) (Bl:=(B+1)) (Bm:=B) (S:=S) (J0 R) (J0 M) H.1 V.1) λab a4=>.some ⟨⟨a4.1,trivial⟩,om⟩)) λT=>.bind (kM h.1) λj e=>.clo e.1 oo (by decide) (have:J0 j<=B:=e.1.1;have:J0 j=_:=Jw e.1;.bind (bI (B:=(B+1)) (Bl:=B) (Bm:=1) (S:=S) (J0 j) 1 e.1 (bY (B:=1) (S:=S) (t:=J3) oo (h.2.z.u))) λF A=>.bind (kS h.1) λv k=>have:J0 F=_:=Jw A.1;have:=Jd (l:=v);have:J0 v=_:=Jw k.1;.bind (bI (B:=(2*B+1)) (Bl:=(B+1)) (Bm:=B) (S:=S) (J0 F) (J0 v) A.1 k.1) λa0 n=>have:J0 a0=_:=Jw n.1;.some ⟨⟨n.1,trivial⟩,om⟩))
theorem ww{B S:Int}{X:Int×Int×aC}(h:aB B S (.pr zI (.pr zI Jb)) X)(v:BS B S 0 0:=by omega):Tot (rW X) λy=>aB 0 0 .b y:=by unfold rW;exact .ge (λr=>have:=J2.1 h.2.1;.le (λk=>.le (λq=>have:=J2.1 h.c.1;.ge (λo=>have:=J2.1 h.d.1;.le (λn=>.lt (λg=>have:=J2.1 h.e;.ge (λj=>.some trivial) λj=>.some trivial) λg=>.some trivial) λn=>.some trivial) λo=>.some trivial) λq=>.some trivial) λk=>.some trivial) λr=>.some trivial
theorem gg{B S:Int}{X:aH}(h:aB B S dE X)(a2:BS B S 0 0:=by omega)(hB:B<=9223372036854775807:=by omega):Tot (lE X) λy=>aB 0 0 .b y:=by unfold lE;exact .bind (ww (B:=0) (S:=0) ⟨h.1,h.2.1,h.c.1,h.d.1,h.e.1⟩) λy2 h1=>.nof (λV=>have:J0 X.2.2.2.2.2=_/\_:=lF h.g;.gt (λW=>.some trivial) λW=>cG (J0 X.2.2.2.2.2) (λq=>(q,X)) λk i7 w8 z9=>by unfold WK;dsimp only;exact .lt (λj=>.bind (Jf h.g) λv o=>.bind ((rZ (B:=0) (S:=S) (X:=v) o.1.z).eqn) λy5 A=>.nof (λn=>have F:=pX (x:=v) o.1.z A.2 n;have r:aB 0 8192 J3 v:=F.2;.bind (qJ r) λy6 a4=>.nof (λC=>have:=J2.1 h.1;.ltf (λO=>have:=J2.1 h.2.1;.gtf (λD=>have:=J2.1 h.c.1;.ltf (λM=>have:=J2.1 h.d.1;.gt (λT=>.some trivial) λT=>.gt (λN=>have:=bE k 1;.bind (Jf h.g) λy7 L=>.bind (WG (B:=0) (S:=(S+8192)) ⟨L.1.z.u,r.u⟩) λy8 a5=>.ge (λQ=>.some trivial) λQ=>.gt (λE=>.bind (Jf h.g) λy9 Z=>.eq (λw=>.bind (Jf h.g) λa0 a1=>.ne (λH=>.some trivial) λH=>.some ⟨j,rfl⟩) λw=>.ge (λU=>.some trivial) λU=>.some ⟨j,rfl⟩) λE=>.ge (λI=>.some trivial) λI=>.some ⟨j,rfl⟩) λN=>.gt (λP=>have:=bE k 1;.bind (Jf h.g) λa7 Y=>.eq (λG=>.bind (Jf h.g) λa3 a6=>.ne (λK=>.some trivial) λK=>.some ⟨j,rfl⟩) λG=>.ge (λJ=>.some trivial) λJ=>.some ⟨j,rfl⟩) λP=>.ge (λR=>.some trivial) λR=>.some ⟨j,rfl⟩) λM=>.some trivial) λD=>.some trivial) λO=>.some trivial) λC=>.some trivial) λn=>.some trivial) λj=>.some trivial) λV=>.some trivial
theorem Lb{B S:Int}{X:zl}(h:aB B S (.pr (.l J3) (.pr zI (.pr zI Jb))) X)(af:BS B S 0 0:=by omega)(hB:B<=17179869183:=by omega):Tot (RP X) λy=>aB B S (.pr dE zI) y:=by unfold RP;exact .bind (ww (B:=0) (S:=0) (h.2)) λy2 h1=>.not (λc2=>.some ⟨aO,aG 1⟩) λc2=>have:J0 X.1=_/\_:=lF h.1;cG (J0 X.1) (λq=>(X.1,X.2.1,X.2.2.1,X.2.2.2.1,X.2.2.2.2.1,X.2.2.2.2.2,q,0,0,0,0,0,[])) λa5 i6 w7 z8=>have:=Jd (l:=X.1);.lt (λM=>.bind (Jf h.1) λU D=>.bind ((rZ (B:=0) (S:=S) (X:=U) D.1.z).eqn) λy5 O=>.not (λE=>.some ⟨aO,aG 12⟩) λE=>have ak:=pX (x:=U) D.1.z O.2 E;.some ⟨M,rfl⟩) λM=>.inr (Jm (τ:=Bool×Int×aH) (λq=>(X.1,X.2.1,X.2.2.1,X.2.2.2.1,X.2.2.2.2.1,q.1,q.2.1,(0,0,0,0,0,[]),q.2.2)) (λq=>aB 0 0 zI q.2.1/\aB B S dE q.2.2/\(0<=q.2.1)/\(q.2.1<=J0 X.1)/\(J0 q.2.2.2.2.2.2.2<=q.2.1)) (λq=>J0 X.1-q.2.1) (by rintro⟨o,n,j⟩ F;dsimp only at F;obtain⟨a3,k,an,a9,ab⟩:=F;unfold vc;(try dsimp only);exact have:=J2.1 a3;have:J0 j.2.2.2.2.2=_/\_:=lF k.2.2.2.2.2;.lt (λP=>.bind (Jf h.1) λI A=>.bind (qJ (B:=0) (S:=S) A.1.z) λy8 ac=>.nof (λL=>have:=J2.1 A.1.z.2.2.2.2.2.2.1.1;.ltf (λW=>have:=J2.1 h.e.1;.gtf (λa2=>have:=J2.1 A.1.z.1;.ltf (λR=>have:=J2.1 h.c.1;.gt (λV=>have al:aB B S (.l J3) j.2.2.2.2.2:=⟨(by omega:J0 j.2.2.2.2.2<=B),λx v=>k.2.2.2.2.2.2 x v⟩;have:=Jh n 1;.some ⟨(o,J1 .i64 n 1,j),rfl,⟨Jj,k,om,om,om⟩,om,om⟩) λV=>Jm (τ:=Bool×Int) (λq=>(X.1,X.2.1,X.2.2.1,X.2.2.2.1,X.2.2.2.2.1,q.1,n,q.2,(0,0,0,0,0,[]),j,I)) (λq=>(aB 0 0 zI q.2/\0<=q.2/\(q.2<=J0 j.2.2.2.2.2\/q.2<=0))) (λq=>J0 j.2.2.2.2.2-q.2) (by rintro⟨H,r⟩ G;dsimp only at G;obtain⟨T,am,aj⟩:=G;unfold wa;(try dsimp only);exact have:=J2.1 T;.lt (λQ=>.itf (λN=>.bind (Jf k.2.2.2.2.2) λa6 ad=>.eq (λa1=>.bind (Jf k.2.2.2.2.2) λa0 ai=>have:=Jh r 1;.some ⟨(Jl (eqT J3 a0 I),J1 .i64 r 1),rfl,⟨Jj,om,om⟩,om,om⟩) λa1=>have:=Jh r 1;.some ⟨(false,J1 .i64 r 1),rfl,⟨Jj,om,om⟩,om,om⟩) λN=>have:=Jh r 1;.some ⟨(true,J1 .i64 r 1),rfl,⟨Jj,om,om⟩,om,om⟩) λQ=>.inr (.bind (Si (B:=B) (S:=S) ⟨k.2.2.2.2.2,A.1.z.u⟩) λw C=>have:J0 w.1=_:=Jw C.1.1;have:J0 w.1<=J0 j.2.2.2.2.2+1:=C.2;have K:aB B S (.l J3) w.1:=⟨(by omega:J0 w.1<=B),λx v=>C.1.1.2 x v⟩;have:=Jh n 1;.some ⟨(H,J1 .i64 n 1,(j.1,j.2.1,j.2.2.1,j.2.2.2.1,j.2.2.2.2.1,w.1)),rfl,⟨Jj,⟨k.1,k.2.1,k.2.2.1,k.2.2.2.1,k.2.2.2.2.1,K⟩,om,om,om⟩,om,om⟩)) (o,0) rfl ⟨aD,om,om⟩) λR=>have ag:aB B S (.l J3) j.2.2.2.2.2:=⟨(by omega:J0 j.2.2.2.2.2<=B),λx v=>k.2.2.2.2.2.2 x v⟩;have:=Jh n 1;.some ⟨(o,J1 .i64 n 1,j),rfl,⟨Jj,k,om,om,om⟩,om,om⟩) λa2=>have aa:aB B S (.l J3) j.2.2.2.2.2:=⟨(by omega:J0 j.2.2.2.2.2<=B),λx v=>k.2.2.2.2.2.2 x v⟩;have:=Jh n 1;.some ⟨(o,J1 .i64 n 1,j),rfl,⟨Jj,k,om,om,om⟩,om,om⟩) λW=>have ah:aB B S (.l J3) j.2.2.2.2.2:=⟨(by omega:J0 j.2.2.2.2.2<=B),λx v=>k.2.2.2.2.2.2 x v⟩;have:=Jh n 1;.some ⟨(o,J1 .i64 n 1,j),rfl,⟨Jj,k,om,om,om⟩,om,om⟩) λL=>have ae:aB B S (.l J3) j.2.2.2.2.2:=⟨(by omega:J0 j.2.2.2.2.2<=B),λx v=>k.2.2.2.2.2.2 x v⟩;have:=Jh n 1;.some ⟨(o,J1 .i64 n 1,j),rfl,⟨Jj,k,om,om,om⟩,om,om⟩) λP=>.inr (.ite (λZ=>.some ⟨aO,aG 41⟩) λZ=>.gt (λY=>.some ⟨aO,aG 21⟩) λY=>.bind (gg k) λa8 a7=>.not (λJ=>.some ⟨aO,aG 13⟩) λJ=>.some ⟨k,aD⟩)) (false,0,(X.2.1,X.2.2.1,X.2.2.2.1,X.2.2.2.2.1,X.2.2.2.2.2,[])) rfl ⟨aD,⟨h.2.1,h.c.1,h.d.1,h.e.1,h.g,J8⟩,om,om,om⟩)
theorem To{B S:Int}{X:JE}(h:aB B S Jg X)(e:BS B S 0 0:=by omega)(g:S<=9223372036854775807:=by omega):Tot (JD X) λy=>aB 0 0 zI y:=by unfold JD;exact have s0:aB 0 S Jg X:=h;.bind ((gM (B:=0) (S:=S) (X:=(X.1,X.2.1,X.2.2)) (s0)).eqn) λj h1=>.some h1.1.1
theorem G7{B S:Int}{X:aH}(h:aB B S dE X)(H:BS B S 0 0:=by omega)(I:B<=9223372036854775807:=by omega):Tot (qE X) λy=>aB 0 52 .s y:=by unfold qE;exact .bind (JO (B:=0) (S:=4) ⟨Ch 4 rfl oo,h.1,aG 8⟩) λG h1=>have h2:aB 0 12 .s G:=h1.1.u;.bind (JO (B:=0) (S:=12) ⟨h2,h.2.1,aG 8⟩) λz F=>have A:aB 0 20 .s z:=F.1.u;.bind (JO (B:=0) (S:=20) ⟨A,h.c.1,aG 4⟩) λE q=>have n:aB 0 28 .s E:=q.1.u;.bind (JO (B:=0) (S:=28) ⟨n,h.d.1,aG 4⟩) λC r=>have k:aB 0 36 .s C:=r.1.u;.bind (JO (B:=0) (S:=36) ⟨k,h.e.1,aG 1⟩) λD v=>have j:aB 0 44 .s D:=v.1.u;.bind (JO (B:=0) (S:=44) ⟨j,jT h.g.1 oo,aG 4⟩) λx w=>have o:aB 0 52 .s x:=w.1.u;.some o
theorem Tk{B S:Int}{X:aH}(h:aB B S dE X)(N:BS B S 0 0:=by omega)(T:B<=112458203726770:=by omega):Tot (kY X) λy=>aB 0 (41008*B+68) lK y:=by unfold kY;exact .bind (gg h) λU h1=>.not (λH=>.some ⟨Ja,aG 40⟩) λH=>.bind (G7 h) λQ J=>.bind (VE J) λj I=>have G:aB 0 68 .s j:=I.u;have:J0 X.2.2.2.2.2=_/\_:=lF h.g;have:=sF (z:=j) G;Jm (τ:=dW) (λq=>(q.1,q.2,X)) (λq=>(aB 0 0 zI q.2/\0<=q.2/\(q.2<=J0 X.2.2.2.2.2\/q.2<=0))/\(aB 0 (41008*B+68) .s q.1/\J0 q.1<=41008*q.2+J0 j)) (λq=>J0 X.2.2.2.2.2-q.2) (by rintro⟨n,e⟩ k;dsimp only at k;obtain⟨⟨w,O,M⟩,D,L⟩:=k;unfold AI;(try dsimp only);exact have:=J2.1 w;.lt (λF=>.bind (Jf h.g) λR E=>.bind (u3 (B:=0) (S:=S) E.1.z) λP r=>.bind (VE r.1) λx C=>have A:aB 0 41008 .s x:=C.u;have:=sF (z:=n) D;have:=sF (z:=x) A;.bind (iR) λo K=>have v:aB 0 (41008*B+68) .s o:=(by omega:J0 o<=(41008*B+68));have:=Jh e 1;.some ⟨(o,J1 .i64 e 1),rfl,⟨⟨Jj,om,om⟩,v,om⟩,om,om⟩) λF=>.some ⟨D,aD⟩) (j,0) rfl ⟨⟨aD,om,om⟩,G.u,om⟩
end Go.Am
end
section
namespace Go.Am
section
variable (P:Program)
def tA:Nat->TypeId->Bool|0,_=>false|n+1,t=>match P.underlying t with|some .bool=>true|some (.int _)=>true|some .string=>true|some (.slice e)=>tA n e&&decide (t<P.types.size/\0<P.cellsOf e)|some (.struct fs)=>fs.toList.all (λf=>tA n f.type)&&decide (t<P.types.size)|some (.array _ e)=>tA n e&&decide (t<P.types.size)|_=>false
def fH:Nat->TypeId->List PV->Prop|0,_,_=>False|n+1,t,pvs=>match P.underlying t with|some .bool=> ∃b,pvs=[.b b]|some (.int k)=> ∃z,pvs=[.i k z]/\(Lit.int k z).wf=true|some .string=> ∃l,pvs=[.s l]/\l.length<=maxLen|some (.slice e)=> ∃rows,pvs=[.sl (P.cellsOf e) rows]/\rows.length<=maxLen/\ ∀row∈rows,row.length=P.cellsOf e/\fH n e row|some (.struct fs)=>pvs.length=P.cellsOf t/\ ∀f∈fs.toList,fH n f.type ((pvs.drop f.offset).take (P.cellsOf f.type))|some (.array m e)=>pvs.length=P.cellsOf t/\ ∀i,i<m->fH n e ((pvs.drop (i*P.cellsOf e)).take (P.cellsOf e))|_=>False
end
section
variable {H:Type} {enc:TypeId×Value->H} {P:Program} {w:World} {base:Nat} {sp:Nat->Bool} {held:Bool}
def k9(w:World)(pvs:List PV)(cs:List Value):Prop:=pvs.length=cs.length/\ ∀(i:Nat) p v,pvs[i]?=some p->cs[i]?=some v->J0i w (λr _=>r<w.heap.size) p v
theorem ow{a:Addr}{v:Value}(h:w.cell? a=some v):a.spot=none/\cellAt w a.block a.off=some v/\a.block<w.heap.size:=by
 unfold World.cell? at h;unfold cellAt;split at h;rename_i c t fz e;split at h;cases h;rename_i g;refine⟨by simpa using g,by rw[e];exact h,?_⟩;have:=Ad.1 e;exact this.1;cases h
theorem JGv{a:Addr}{n:Nat}{cs:List Value}(h:w.cells? base a n=some cs):cs.length=n/\ ∀i v,cs[i]?=some v->w.cell? (a.add i)=some v:=by
 unfold World.cells? at h;split at h;have hl:=mapM_some_length h;refine⟨by simpa using hl,λi v e=>?_⟩;have hi:i<n:=by have:=(hE.1 e).1;simp at hl;omega
 have:=mapM_some_get h i i (by simp[hi]);rw[this,e];cases h
theorem NN{α:Type}(Q:Nat->α->Prop): ∀(m:Nat),(∀i,i<m-> ∃x,Q i x)-> ∃xs:List α,xs.length=m/\ ∀i x,xs[i]?=some x->Q i x
 |0,_=>⟨[],rfl,λi x h=>by simp at h⟩
 |m+1,h=>by
  obtain⟨xs,hl,k⟩:=NN Q m (λi hi=>h i (by omega));obtain⟨y,j⟩:=h m (by omega);refine⟨xs++[y],by simp[hl],λi x hi=>?_⟩;rcases zQ3 i xs.length with g|e;rw[qK g]at hi;exact k i x hi;rw[mX e]at hi;have:i-xs.length=0:=by have:=(hE.1 hi).1;simp at this;omega
  rw[this]at hi;simp at hi;subst hi;obtain rfl:i=m:=by omega
  exact j
theorem ed{α:Type}: ∀(xs:List (List α)) (j:Nat) (y:List α),xs[j]?=some y->(xs.flatten.drop ((xs.take j).map List.length).sum).take y.length=y|[],j,y,h=>by simp at h|x::xs,0,y,h=>by simp at h;subst h;simp|x::xs,j+1,y,h=>by simp at h;have:=ed xs j y h;simp only[je,bT,List.sum_cons,qO,List.drop_length_add_append];exact this
theorem JIK(hl:laidOutB P=true)(hm:mapsRowed P=true): ∀(n:Nat) (t:TypeId) (cs:List Value) (x:DataW H×List MemPlace) (W:Nat),tA P n t=true->DataW.trod enc P w base sp held W t cs=some x->
  ∃pvs,fH P n t pvs/\k9 w pvs cs:=by
 have K:=kids_rows hl hm;intro n
 induction n with
 |zero=>intro t cs x W E;simp[tA]at E
 |succ n ih=>
  intro t cs x W E h;unfold tA at E;unfold fH;split at E;rename_i ht;obtain⟨b,rfl,_⟩:=DataW.trod_bool ht h;refine⟨[.b b],by simp,rfl,λi p v h1 h2=>?_⟩
  match i with
  |0=>simp at h1 h2;subst h1 h2;exact .b _
  |i+1=>simp at h1
  rename_i k ht;obtain⟨z,rfl,_,ay⟩:=DataW.trod_int ht h;refine⟨[.i k z],by simpa using ay,rfl,λi p v h1 h2=>?_⟩
  match i with
  |0=>simp at h1 h2;subst h1 h2;exact .i _ _
  |i+1=>simp at h1
  rename_i ht;obtain⟨s,rfl,_,av⟩:=DataW.trod_string ht h;refine⟨[.s s.data.toList],⟨_,rfl,by rw[Array.length_toList];exact av⟩,rfl,λi p v h1 h2=>?_⟩
  match i with
  |0=>simp at h1 h2;subst h1 h2;exact .s _
  |i+1=>simp at h1
  rename_i e ht;simp only[JX,decide_eq_true_eq]at E;rcases DataW.trod_slice ht h with⟨rfl,_⟩|⟨a,len,cap,ae,rest,n0,_,rfl,_,_,be,hcm,bf,T,_⟩;refine⟨[.sl (P.cellsOf e) []],⟨[],rfl,zQ2 _,by simp⟩,rfl,λi p v h1 h2=>?_⟩
  match i with
  |0=>simp at h1 h2;subst h1 h2;exact .sl0 _ _ _
  |i+1=>simp at h1
  
  have am: ∀i,i<len-> ∃row:List PV,(row.length=P.cellsOf e/\fH P n e row)/\ ∀j p,row[j]?=some p-> ∃v,w.cell? (a.add (i*P.cellsOf e)|>.add j)=some v/\J0i w (λr _=>r<w.heap.size) p v:=by
   intro i hi;have h1:=T i hi;have h2: ∃y,ae[i]?=some y:=⟨_,aS (by omega)⟩;obtain⟨y,C⟩:=h2;rw[C,aU]at h1;obtain⟨cs',hc,au⟩:=h1;obtain⟨row,q1,q2,q3⟩:=ih e cs' y n0 E.1 au;obtain⟨c1,c2⟩:=JGv hc;refine⟨row,⟨by omega,q1⟩,λj p A=>?_⟩;have R:j<cs'.length:=by have:=(hE.1 A).1;omega
   have hv:=aS R;exact⟨_,c2 j _ hv,q3 j p _ A hv⟩
  obtain⟨rows,ax,D⟩:=NN _ len am;refine⟨[.sl (P.cellsOf e) rows],⟨rows,rfl,by omega,λrow hr=>?_⟩,rfl,λi p v h1 h2=>?_⟩;obtain⟨i,hi⟩:=lZ hr;exact(D i row hi).1
  match i with
  |i+1=>simp at h1
  |0=>
   simp at h1 h2;subst h1 h2;by_cases h0: ∃(i j:Nat) (row:List PV) (p:PV),rows[i]?=some row/\row[j]?=some p;obtain⟨i0,j0,aj,p0,ah,b2⟩:=h0;have a7:a.spot=none\/P.cellsOf e=0:=by
    rcases yt (P.cellsOf e)with hz|ak;exact .inr hz;have hlen:0<len:=by have:=(hE.1 ah).1;omega
    have M:=aS (l:=rows) (i:=0) (by omega);have q:=D 0 _ M;have aw:=aS (l:=rows[0]'(by omega)) (i:=0) (by omega);obtain⟨v,hv,_⟩:=q.2 0 _ aw;rw[Nat.zero_mul]at hv;exact .inl (by simpa[Addr.add]using(ow hv).1)
   rcases a7 with a7|hz;have cell: ∀(i j:Nat) (row:List PV) (p:PV),rows[i]?=some row->row[j]?=some p-> ∃v,(a.block<w.heap.size/\cellAt w a.block (a.off+i*P.cellsOf e+j)=some v)/\J0i w (λr _=>r<w.heap.size) p v:=by
    intro i j row p hi A;obtain⟨v,hv,hr⟩:=(D i row hi).2 j p A;obtain⟨s1,s2,s3⟩:=ow hv;refine⟨v,?_,hr⟩;have e1:((a.add (i*P.cellsOf e)).add j).block=a.block:=by unfold Addr.add;split<;>split<;>rfl
    have e2:((a.add (i*P.cellsOf e)).add j).off=a.off+i*P.cellsOf e+j:=by unfold Addr.add;split<;>split<;>simp_all
    rw[e1]at s3;rw[e1,e2]at s2;exact⟨s3,s2⟩
   have ea:a=⟨a.block,a.off,none⟩:=by cases a;simp_all
   rw[ea,<-ax];refine .sl _ rows a.block a.off cap (λi j=>((cellAt w a.block (a.off+i*P.cellsOf e+j)).getD default)) (by omega) (λrow hr=>?_) (λi j row p hi A=>?_) (λi j row p hi A=>?_);obtain⟨i,hi⟩:=lZ hr;exact(D i row hi).1.1;obtain⟨v,⟨h3,h4⟩,_⟩:=cell i j row p hi A;exact⟨h3,by rw[h4];rfl⟩;obtain⟨v,⟨h3,h4⟩,h5⟩:=cell i j row p hi A;rw[h4];exact h5;have:=(D i0 aj ah).1.1;have:=(hE.1 b2).1;omega
   
   rcases yt len with hz|ak;have:rows=[]:=by cases rows<;>simp_all
   subst this;subst hz;exact .sl0 _ _ _;exfalso;have M:=aS (l:=rows) (i:=0) (by omega);have q:=(D 0 _ M).1.1;exact h0 ⟨0,0,_,_,M,aS (by omega)⟩
  rename_i fs ht;simp only[JX,decide_eq_true_eq,SH]at E;obtain⟨xs,n0,_,_,U,ag,T⟩:=DataW.trod_struct ht h;obtain⟨_,V,ab⟩:=K.struct E.2 ht;have hf: ∀i,i<fs.toList.length-> ∃g:List PV,∀f,fs.toList[i]?=some f->fH P n f.type g/\k9 w g ((cs.drop f.offset).take (P.cellsOf f.type)):=by
   intro i hi;have hfi:=aS hi;have al:=zQ5 hfi;have aq:fs[i]?=some (fs.toList[i]):=by rw[<-FE];exact hfi
   have h1:=T i _ aq;have h2: ∃y,xs[i]?=some y:=⟨_,aS (by simpa[ag]using hi)⟩;obtain⟨y,C⟩:=h2;rw[C]at h1;obtain⟨g,q1,q2⟩:=ih _ _ _ _ (E.1 _ al) h1;refine⟨g,λf a4=>?_⟩;rw[hfi]at a4;injection a4 with a4;subst a4;exact⟨q1,q2⟩
  obtain⟨B,a5,I⟩:=NN _ _ hf;have hlen: ∀(j:Nat) (f:Field),fs.toList[j]?=some f-> ∀g:List PV,B[j]?=some g->g.length=P.cellsOf f.type:=by
   intro j f A g C;have q:=(I j g C f A).2.1;have o:=ab j f A;rw[q,lW,lU,U,V,o];have:((fs.toList.take j).map λf=>P.cellsOf f.type).sum+P.cellsOf f.type<=(fs.toList.map λf=>P.cellsOf f.type).sum:=by
    have e1:fs.toList=fs.toList.take j++(f::fs.toList.drop (j+1)):=by have Q:=(hE.1 A);obtain⟨Q,he⟩:=Q;rw[<-he,<-List.drop_eq_getElem_cons Q,BZ]
    conv=>rhs;rw[e1]
    simp only[xE,bT,List.sum_append,List.sum_cons];omega
   omega
  have N:B.map List.length=fs.toList.map λf=>P.cellsOf f.type:=by
   apply zQ6;intro j;rw[gE,gE];cases C:B[j]? with
   |none=>
    have:fs.toList[j]?=none:=by rw[List.getElem?_eq_none_iff]at C⊢;omega
    rw[this];rfl
   |some g=>
    have A:j<fs.toList.length:=by have:=(hE.1 C).1;omega
    have L:=aS A;rw[L];simp only[cH];rw[hlen j _ L g C]
  have G: ∀(j:Nat) (f:Field),fs.toList[j]?=some f->((B.take j).map List.length).sum=f.offset:=by intro j f A;rw[ab j f A,iu,N,<-iu]
  refine⟨B.flatten,⟨?_,λf hf=>?_⟩,?_,λi p v h1 h2=>?_⟩;rw[SE,N,V];obtain⟨j,A⟩:=lZ hf;have Q:j<B.length:=by have:=(hE.1 A).1;omega
  have F:=aS Q;have:=ed B j _ F;rw[G j f A,hlen j f A _ F]at this;rw[this];exact(I j _ F f A).1;rw[SE,N,U,V]
  
  have aa: ∀(l:List (List PV)) (i:Nat) p,l.flatten[i]?=some p-> ∃j g k,l[j]?=some g/\g[k]?=some p/\i=((l.take j).map List.length).sum+k:=by
   intro l
   induction l with
   |nil=>intro i p h;simp at h
   |cons y l S=>
    intro i p h;rw[qO]at h;rcases zQ3 i y.length with R|a8;rw[qK R]at h;exact⟨0,y,i,rfl,h,by simp⟩;rw[mX a8]at h;obtain⟨j,g,k,J,O,a3⟩:=S _ _ h;exact⟨j+1,g,k,by simpa using J,O,by simp only[je,bT,List.sum_cons];omega⟩
  obtain⟨j,g,k,J,O,a3⟩:=aa _ _ _ h1;have A:j<fs.toList.length:=by have:=(hE.1 J).1;omega
  have L:=aS A;have q:=(I j g J _ L).2;refine q.2 k p v O ?_;have hk:k<P.cellsOf (fs.toList[j]).type:=by have:=(hE.1 O).1;rw[hlen j _ L g J]at this;exact this
  rw[List.getElem?_take_of_lt hk,FY,<-G j _ L,<-a3];exact h2;rename_i m e ht;simp only[JX,decide_eq_true_eq]at E;obtain⟨xs,n0,_,_,U,ag,T⟩:=DataW.trod_array ht h;obtain⟨_,a9⟩:=K.array E.2 ht;have hf: ∀i,i<m-> ∃g:List PV,fH P n e g/\k9 w g ((cs.drop (i*P.cellsOf e)).take (P.cellsOf e)):=by intro i hi;have h1:=T i hi;have h2: ∃y,xs[i]?=some y:=⟨_,aS (by omega)⟩;obtain⟨y,C⟩:=h2;rw[C]at h1;exact ih _ _ _ _ E.1 h1
  obtain⟨B,a5,I⟩:=NN _ _ hf;have hlen: ∀(j:Nat) g,B[j]?=some g->g.length=P.cellsOf e:=by
   intro j g C;have q:=(I j g C).2.1;have A:j<m:=by have:=(hE.1 C).1;omega
   rw[q,lW,lU,U,a9];have:j*P.cellsOf e+P.cellsOf e<=m*P.cellsOf e:=by rw[<-ig];exact zQ4 _ A
   omega
  have Y: ∀y∈B,y.length=P.cellsOf e:=λy C=>by obtain⟨j,A⟩:=lZ C;exact hlen j y A
  have Z: ∀l:List (List PV),(∀y∈l,y.length=P.cellsOf e)->(l.map List.length).sum=l.length*P.cellsOf e:=by
   intro l
   induction l with
   |nil=>intro _;simp
   |cons y l S=>intro hh;simp[hh y (by simp),S (λz hz=>hh z (by simp[hz])),ig,Nat.add_comm]
  have G: ∀j,j<=m->((B.take j).map List.length).sum=j*P.cellsOf e:=by intro j A;rw[Z _ (λy C=>Y y (FB C)),lW,a5,Nat.min_eq_left A]
  refine⟨B.flatten,⟨?_,λj A=>?_⟩,?_,λi p v h1 h2=>?_⟩;rw[SE,Z _ Y,a5,a9];have F:=aS (l:=B) (i:=j) (by omega);have:=ed B j _ F;rw[G j (by omega),hlen j _ F]at this;rw[this];exact(I j _ F).1;rw[SE,Z _ Y,U,a5,a9];have aa: ∀(l:List (List PV)) (i:Nat) p,l.flatten[i]?=some p-> ∃j g k,l[j]?=some g/\g[k]?=some p/\i=((l.take j).map List.length).sum+k:=by
   intro l
   induction l with
   |nil=>intro i p h;simp at h
   |cons y l S=>
    intro i p h;rw[qO]at h;rcases zQ3 i y.length with R|a8;rw[qK R]at h;exact⟨0,y,i,rfl,h,by simp⟩;rw[mX a8]at h;obtain⟨j,g,k,J,O,a3⟩:=S _ _ h;exact⟨j+1,g,k,by simpa using J,O,by simp only[je,bT,List.sum_cons];omega⟩
  obtain⟨j,g,k,J,O,a3⟩:=aa _ _ _ h1;have A:j<m:=by have:=(hE.1 J).1;omega
  have q:=(I j g J).2;refine q.2 k p v O ?_;have hk:k<P.cellsOf e:=by have:=(hE.1 O).1;rw[hlen j g J]at this;exact this
  rw[List.getElem?_take_of_lt hk,FY,<-G j (by omega),<-a3];exact h2;cases E
end
end Go.Am
end
section
namespace Go.Am
open Go.ChangeShapes Go.WideShapes Go.ChangeAt Go.RowKit
def gh0(w:World):Gh:=⟨λ_=>none,λr _=>r<w.heap.size⟩
theorem ZK(g:Gh)(w:World)(b r o:Nat): ¬Wr1 ⟨[],g,w⟩ b r o:=by simp[Wr1]
theorem JMz(w:World):Inv ⟨[],gh0 w,w⟩ where
 box:=λb cs h=>by simp at h
 arr:=λb wm esz rows h=>by simp at h
 apart:=λb1 b2 r o h=>absurd h (ZK _ _ _ _ _)
 const:=λr o h=>⟨h,λb=>ZK _ _ _ _ _⟩
def uY(w w':World):Prop:=oS (λ_ _=>False) w w'
theorem uY.kept{w w':World}(h:uY w w')(e:MemPlace->Prop):w.keptBut w' e:=by
 obtain⟨h1,h2,k,g,j⟩:=h;refine⟨g,j,λi hi=>?_⟩;grind
theorem uY.same{w w':World}(h:uY w w'){p:MemPlace}(hp:p.block<w.heap.size):w.sameAt w' p:=by
 obtain⟨h1,h2,n,q,r⟩:=h;cases p with
 |cell b off=>
  have g:b<w.heap.size:=hp;have j:=BD g;show w'.cell? ⟨b,off,none⟩=w.cell? ⟨b,off,none⟩;grind [pQ,cellAt]
 |map b=>
  have g:b<w.heap.size:=hp;have j:=BD g;show w'.heap[b]?=w.heap[b]?;cases hw:w.heap[b]? with
  |none=>simp_all
  |some x=>
   cases x with
   |cells c e fz=>
    obtain⟨c',k,y,v⟩:=h2 b c e fz hw;rw[k];have:c'=c:=by apply Array.ext_getElem?;simp_all
    rw[this]
   |_=>exact n b _ hw (λc e fz o=>by cases o)
theorem uY.frozen{w w':World}(h:uY w w'){a:Addr}(hp:a.block<w.heap.size):w'.frozen? a=w.frozen? a:=by
 obtain⟨h1,h2,j,e,g⟩:=h;grind [World.frozen?]
theorem JFl{P:Program}{F:Orc}(k:iV P F){f:FuncId}{args:List AV}{vals:Array Value}{w:World}(hl:args.length=vals.size)
  (hr: ∀(i:Nat) x v,args[i]?=some x->vals[i]?=some v->JJ ⟨[],gh0 w,w⟩ x v) (h:F f args []=some (.p (.b true),[])):
  Calls P f vals w λe w'=>e=.returned (.bool true)/\uY w w':=by
 refine((k _ _ _ _ h).2 (gh0 w) w vals (JMz w) hl hr).mono λe w' ⟨v,g',B,_,ht,hrel⟩=>?_;cases hrel with
 |p _ _ hrel=>
  cases hrel with
  |b=>refine⟨B,?_⟩;obtain⟨g,n,j,q⟩:=ht.keep;refine⟨g,λr c e fz hr=>?_,j,q⟩;obtain⟨c',z,C,A⟩:=n r c e fz hr;exact⟨c',z,C,λo _=>A o (fun⟨b,y⟩=>ZK _ _ _ _ _ y)⟩
section
variable {H:Type} {enc:TypeId×Value->H} {P:Program}
theorem tr(hl:laidOutB P=true)(hm:mapsRowed P=true)(j: ∀{t e:TypeId},t<P.types.size->P.underlying t=some (.slice e)->0<P.cellsOf e){W W':World}{sp:Nat->Bool}:
  ∀{ts:List TypeId} {vs:List Value} {k:List (DataW H)} {ps:List MemPlace},(∀t∈ts,t<P.types.size)->DataW.TrodAll enc P W 0 (λ_=>true) true ts vs k ps->
   (∀p∈ps,W.sameAt W' p)->(∀p∈ps,sp p.block=true)->DataW.TrodAll enc P W' 0 sp true ts vs k ps
 |[],[],[],_,_,h,_,_=>h
 |[],_::_,_,_,_,h,_,_=>h.elim
 |[],[],_::_,_,_,h,_,_=>h.elim
 |_::_,[],_,_,_,h,_,_=>h.elim
 |_::_,_::_,[],_,_,h,_,_=>h.elim
 |t::ts,v::vs,d::k,_,o,⟨p,q,⟨n,h1⟩,h2,rfl⟩,w,r=>by refine⟨p,q,⟨n,DataW.trod_stays (kids_rows hl hm) j (λh=>by cases h) (o t (by simp)) h1 (λx g=>w x (by simp[g])) (λx g=>r x (by simp[g]))⟩,?_,rfl⟩;exact tr hl hm j (λx g=>o x (by simp[g])) h2 (λx g=>w x (by simp[g])) (λx g=>r x (by simp[g]))
def RA(P:Program):Bool:=(List.range P.types.size).all λt=>match P.underlying t with|some (.slice e)=>decide (0<P.cellsOf e)|_=>true
theorem L0(h:RA P=true){t e:TypeId}(ht:t<P.types.size)(he:P.underlying t=some (.slice e)):0<P.cellsOf e:=by
 grind [RA]
theorem JHa{fn:Func}{s:ChangeSpec}{tb:TypeId}(hl:laidOutB P=true)(hm:mapsRowed P=true)(E:RA P=true)(z: ∀t∈fn.params.toList,t<P.types.size)
  (o:fn.resultTypes= #[tb]) (y:P.underlying tb=some .bool) (e:s.vars=[]) {apart fresh g again:Bool} {W W':World} {args:Array Value} {k B:List (DataW H)} {n:List MemPlace}
  (F:B=[]->s.fn H (k++B)={results:=[.lit (.bool true)],args:=k})
  (A:DataW.Whole enc P fn.params.toList s.vars apart W args.toList k B n) (j:uY W W'):s.post enc P fn apart fresh g again W args (.bool true) W':=by
 have w:=A;have h:=A.lt;obtain⟨p,q,h1,h2,rfl,I,K⟩:=A;rw[e]at h2;obtain⟨rfl,rfl⟩:=trodVars_none h2;rw[gR]at w h I K;have hf:=F rfl;have r: ∀sp:Nat->Bool,(∀x∈p,sp x.block=true)->DataW.TrodAll enc P W' 0 sp true fn.params.toList args.toList k p:=λsp C=>
  tr hl hm (λht L=>L0 E ht L) z h1 (λx D=>j.same (h x D)) C
 have J: ∀(b:Nat) (sp:Nat->Bool) (G:Bool),DataW.TrodAll enc P W' b sp G fn.resultTypes.toList ((Value.bool true).resultList fn.resultTypes.size) [.lit (.bool true)] []:=by intro b sp G;rw[o];exact trodAll_cons_mk (shut_bool y _) trodAll_mk0
 refine⟨k,[],p,[],p,[],w,?_,?_,?_,j.kept _,λ_=>⟨?_,?_⟩⟩;grind;simp_all;rw[hf,e];rfl;exact ok_one o rfl (okWide_bool_mk y _);refine⟨_,[],[]++p,⟨[]++p,[],trodAll_append (r _ (λ_ _=>rfl)) (J _ _ _),by rw[e];rfl,by simp,λb off C=>?_,λM=>by simp_all⟩,λx D _=>by simpa using D⟩;have v:MemPlace.cell b off∈p:=by simpa using C
 rw[j.frozen (a:=⟨b,off,none⟩) (h _ v)];exact I b off v
def UA(P:Program)(t:TypeId)(pvs:List PV):AV:=match P.underlying t with|some (.struct _)=>.data pvs|some (.array _ _)=>.data pvs|_=>match pvs with|[c]=>.p c|_=>.unk
theorem YY(hl:laidOutB P=true)(hm:mapsRowed P=true){n:Nat}{t:TypeId}{w:World}{r:Reach}{base:Nat}{sp:Nat->Bool}{v:Value}{d:DataW H}{ps:List MemPlace}(hp:tA P n t=true)
  (hv:Value.okWide P w r base t v) (h:DataW.Trod enc P w 0 sp true t v d ps): ∃pvs,fH P n t pvs/\JJ ⟨[],gh0 w,w⟩ (UA P t pvs) v:=by
 obtain⟨j,h⟩:=h;obtain⟨pvs,g,B,o⟩:=JIK hl hm n t _ _ j hp h;refine⟨pvs,g,?_⟩;cases n with
 |zero=>grind [tA]
 |succ n=>
  unfold tA at hp;unfold Value.okWide at hv;unfold UA;have one: ∀{c:PV},pvs=[c]->(∀cs,v≠.agg cs)->JJ ⟨[],gh0 w,w⟩ (.p c) v:=by intro c y A;subst y;refine .p _ _ (o 0 c v rfl ?_);cases v<;>first|rfl|simp_all
  unfold fH at g;split at hp;rename_i ht;rw[ht]at g hv⊢;obtain⟨b,rfl⟩:=g;exact one rfl (λcs q=>by simp_all [Cell.okWide,Cell.ok]);rename_i k ht;rw[ht]at g hv⊢;obtain⟨z,rfl,_⟩:=g;exact one rfl (λcs q=>by simp_all [Cell.okWide,Cell.ok]);rename_i ht;rw[ht]at g hv⊢;obtain⟨z,rfl,_⟩:=g;exact one rfl (λcs q=>by simp_all [Cell.okWide,Cell.ok]);rename_i e ht;rw[ht]at g hv⊢;obtain⟨rows,rfl,_⟩:=g;exact one rfl (λcs q=>by simp_all [Cell.okWide,Cell.ok]);rename_i fs ht;rw[ht]at hv⊢;obtain⟨cs,rfl,_⟩:=hv;exact .data _ _ (by simp_all) (λi x v h1 h2=>o i x v h1 (by grind [Value.cells]));rename_i m e ht;rw[ht]at hv⊢;obtain⟨cs,rfl,_⟩:=hv;exact .data _ _ (by simp_all) (λi x v h1 h2=>o i x v h1 (by grind [Value.cells]));cases hp
end
end Go.Am
end
section
namespace Go.Am
section
variable (P:Program) {α β:Type}
def Rd(n:Nat)(t:TypeId)(r:α->List PV)(Q:α->Prop):Prop:= ∀pvs,fH P n t pvs-> ∃x,pvs=r x/\Q x
def fieldsOf(t:TypeId):Option (List (TypeId×Nat)):=match P.underlying t with|some (.struct fs)=>some (fs.toList.map λf=>(f.type,f.offset))|_=>none
variable {P}
theorem JJT{n:Nat}{t:TypeId}{k:IntKind}(ht:P.underlying t=some (.int k)):Rd P (n+1) t (r_i k) λz=>k.min<=z/\z<=k.max:=by
 intro pvs h;unfold fH at h;rw[ht]at h;obtain⟨z,rfl,e⟩:=h;refine⟨z,rfl,?_⟩;grind [Lit.wf]
theorem Rd.mono{n:Nat}{t:TypeId}{r:α->List PV}{Q g:α->Prop}(h:Rd P n t r Q)(hq: ∀x,Q x->g x):Rd P n t r g:=λpvs j=>by
 obtain⟨x,e,q⟩:=h pvs j;grind
theorem JJz{n:Nat}{t:TypeId}(ht:P.underlying t=some .bool):Rd P (n+1) t r_b λ_=>True:=by intro pvs h;unfold fH at h;rw[ht]at h;obtain⟨z,rfl⟩:=h;exact⟨z,rfl,trivial⟩
theorem JKt{n:Nat}{t:TypeId}(ht:P.underlying t=some .string):Rd P (n+1) t r_s λl=>l.length<=maxLen:=by intro pvs h;unfold fH at h;rw[ht]at h;obtain⟨z,rfl,e⟩:=h;exact⟨z,rfl,e⟩
theorem JHV{n:Nat}{t e:TypeId}{r:α->List PV}{Q:α->Prop}{k:Nat}(ht:P.underlying t=some (.slice e))(hk:P.cellsOf e=k)(he:Rd P n e r Q):
  Rd P (n+1) t (JMM k r) λl=>l.length<=maxLen/\ ∀x∈l,Q x:=by
 intro pvs h;unfold fH at h;rw[ht]at h;obtain⟨rows,rfl,hl,g⟩:=h;have j: ∀rows:List (List PV),(∀row∈rows,row.length=P.cellsOf e/\fH P n e row)-> ∃l:List α,rows=l.map r/\ ∀x∈l,Q x:=by
  intro rows
  induction rows with
  |nil=>simp_all
  |cons row rows ih=>
   intro o;obtain⟨l,rfl,hl⟩:=ih (λr g=>o r (by simp[g]));obtain⟨x,rfl,w⟩:=he row (o row (by simp)).2;refine⟨x::l,rfl,λy v=>?_⟩;grind
 obtain⟨l,rfl,q⟩:=j rows g;exact⟨l,by rw[hk];rfl,by simpa using hl,q⟩
theorem JG4{n m:Nat}{t e:TypeId}{r:α->List PV}{Q:α->Prop}{k:Nat}(ht:P.underlying t=some (.array m e))(hk:P.cellsOf e=k)(hm:P.cellsOf t=m*k)(he:Rd P n e r Q):
  Rd P (n+1) t (oP (n:=m) r) λv=> ∀(i:Nat) (h:i<m),Q v[i]:=by
 intro pvs h;unfold fH at h;rw[ht]at h;obtain⟨hl,w⟩:=h;rw[hm]at hl;have g: ∀(m:Nat) (pvs:List PV),pvs.length=m*k->(∀i,i<m->fH P n e ((pvs.drop (i*k)).take k))-> ∃l:List α,l.length=m/\pvs=(l.map r).flatten/\ ∀(i:Nat) (h:i<l.length),Q l[i]:=by
  intro m
  induction m with
  |zero=>simp_all
  |succ m ih=>
   intro pvs h j;rw[ig]at h;obtain⟨l,h1,h2,o⟩:=ih (pvs.drop k) (by simp_all) (λi hi=>by
    grind [List.drop_drop,Nat.succ_mul])
   obtain⟨x,q,y⟩:=he _ (j 0 (by omega));rw[Nat.zero_mul,xL]at q;refine⟨x::l,by simp[h1],?_,λi hi=>?_⟩
   all_goals grind [List.take_append_drop]
 obtain⟨l,h1,h2,o⟩:=g m pvs hl (λi hi=>by simp_all);refine⟨⟨l.toArray,by simpa using h1⟩,?_,λi hi=>?_⟩;rw[h2];rfl;simp_all
theorem JFe{m n:Nat}{t:TypeId}{e:List (TypeId×Nat)}{pvs:List PV}(hm:m=n+1)(ht:fieldsOf P t=some e)(h:fH P m t pvs):
  pvs.length=P.cellsOf t/\ ∀x∈e,fH P n x.1 ((pvs.drop x.2).take (P.cellsOf x.1)):=by
 grind [fH,fieldsOf]
end
end Go.Am
end
section
namespace Go.Am
section
variable (P:Program)
def yL(p:Ty->TypeId->Bool):Nat->List (TypeId×Nat)->Ty->Bool|_,[],.u=>true|_,[],_=>false|o,[f],a=>decide (f.2=o)&&p a f.1&&decide (P.cellsOf f.1=a.sz)|o,f::g::r,.pr a c=>decide (f.2=o)&&p a f.1&&decide (P.cellsOf f.1=a.sz)&&yL p (o+a.sz) (g::r) c|_,_::_::_,_=>false
def xR:Nat->Ty->TypeId->Bool|0,_,_=>false|n+1,ty,t=>match fieldsOf P t with|some fs=>yL P (xR n) 0 fs ty&&decide (P.cellsOf t=ty.sz)|none=>match P.underlying t,ty with|some .bool,.b=>true|some (.int k),.i g=>decide (k=g)|some .string,.s=>true|some (.slice e),.l a=>xR n a e&&decide (P.cellsOf e=a.sz)|some (.array m e),.ar h a=>decide (m=h)&&xR n a e&&decide (P.cellsOf e=a.sz)&&decide (P.cellsOf t=m*a.sz)|_,_=>false
def Ty.inR:(t:Ty)->t.D->Prop| .b,_=>True| .i k,z=>k.min<=z/\z<=k.max| .s,z=>List.length z<=maxLen| .l t,z=>List.length z<=maxLen/\ ∀x∈(z:List t.D),t.inR x| .pr a c,x=>a.inR x.1/\c.inR x.2| .ar n t,v=> ∀(i:Nat) (h:i<n),t.inR ((v:Vector t.D n)[i])| .u,_=>True| .f,_=>True
end
section
variable {P:Program}
theorem C5{n:Nat}(ih: ∀ty t,xR P n ty t=true->Rd P n t (cel ty) ty.inR): ∀(o:Nat) (fs:List (TypeId×Nat)) (ty:Ty) (pvs:List PV),yL P (xR P n) o fs ty=true->
  (∀x∈fs,fH P n x.1 ((pvs.drop x.2).take (P.cellsOf x.1)))-> ∃x:ty.D,(pvs.drop o).take ty.sz=cel ty x/\ty.inR x
 |o,[],ty,pvs,h,_=>by
  cases ty with
  |u=>exact⟨(),by simp[Ty.sz,cel],trivial⟩
  |_=>grind [yL]
 |o,[f],ty,pvs,h,hf=>by
  simp only[yL,JX,decide_eq_true_eq]at h;obtain⟨⟨h1,h2⟩,j⟩:=h;have:=hf f (by simp);rw[h1,j]at this;obtain⟨x,e,q⟩:=ih ty f.1 h2 _ this;grind
 |o,f::g::r,ty,pvs,h,hf=>by
  cases ty with
  |pr a c=>
   simp only[yL,JX,decide_eq_true_eq]at h;obtain⟨⟨⟨h1,h2⟩,j⟩,k⟩:=h;have:=hf f (by simp);rw[h1,j]at this;obtain⟨x,e,q⟩:=ih a f.1 h2 _ this;obtain⟨y,e',q'⟩:=C5 ih (o+a.sz) (g::r) c pvs k (λz v=>hf z (by simp_all));refine⟨(x,y),?_,q,q'⟩;grind [cel,Ty.sz,List.drop_drop]
  |_=>grind [yL]
theorem rdT: ∀(n:Nat) (ty:Ty) (t:TypeId),xR P n ty t=true->Rd P n t (cel ty) ty.inR
 |0,_,_,h=>by cases h
 |n+1,ty,t,h=>by
  unfold xR at h;split at h;rename_i fs g;simp only[JX,decide_eq_true_eq]at h;intro pvs o;obtain⟨hl,hf⟩:=JFe rfl g o;obtain⟨x,e,q⟩:=C5 (rdT n) 0 fs ty pvs h.1 hf;grind;split at h;rename_i ht;exact JJz ht;rename_i k v ht;simp only[decide_eq_true_eq]at h;subst h;exact JJT ht;rename_i ht;exact JKt ht;rename_i e a ht;simp only[JX,decide_eq_true_eq]at h;exact JHV ht h.2 (rdT n a e h.1);rename_i m e w a ht;simp only[JX,decide_eq_true_eq]at h;obtain⟨⟨⟨h1,h2⟩,r⟩,j⟩:=h;subst h1;exact JG4 ht r j (rdT n a e h2);cases h
def Cn(P:Program)(t:TypeId):Bool:=match P.underlying t with|some (.struct _)=>true|some (.array _ _)=>true|_=>false
def TJ(agg:Bool)(t:Ty)(x:t.D):TA:=if agg=true then .dt t x else .c (.d t x)
theorem YE(L:Nat->Nat){t:TypeId}{ty:Ty}{agg:Bool}(ha:Cn P t=agg)(h1:agg=false->ty.sz=1)(x:ty.D):UA P t (cel ty x)=bS L (TJ agg ty x):=by
 unfold UA Cn at*;generalize P.underlying t=u at ha⊢;rcases u with _|d;subst ha;dsimp only;rw[FZ (h1 rfl) x];rfl;cases d<;>first
 |(subst ha;rfl)
 |(subst ha;dsimp only;rw[FZ (h1 rfl) x];rfl)
theorem JKD{F:Orc}{f:FuncId}{g:Sig}{S:(tyL g.ti).D->Option (tyL g.to).D}{xs:List TA}{x:(tyL g.ti).D}{y:(tyL g.to).D}(he:EOk F (aF f g S))(hx:sL g xs []=some x)(j:S x=some y)
  (hv:CD g y=some (.a (.c (.d .b true)),[])):F f (xs.map (bS (lns []))) []=some (.p (.b true),[]):=by
 have h:(aF f g S).go xs [] (λv out=>some (v,out))=some (TV.a (.c (.d .b true)),([]:List (Bool×TB))):=by simp only[aF,hx,j,Jv,hv];cases g.same<;>rfl
 obtain⟨v,out,h1,_,e⟩:=he.ok h;injection e with e;injection e with h4 h5;subst h4 h5;exact h1
end
end Go.Am
end
section
namespace Go.Am
set_option linter.unusedVariables false
set_option maxRecDepth 20000
set_option maxHeartbeats 1000000
section
variable {B S:Int}
def EF(e:aA):Prop:=1<=e.1/\e.1<=1099511627776/\1<=e.2.2.1/\e.2.2.1<=1073741824/\0<=e.2.2.2.1/\e.2.2.2.1<e.1/\0<=e.2.2.2.2.1/\e.2.2.2.2.1<e.1/\0<=e.2.2.2.2.2.1/\e.2.2.2.2.2.1<e.1/\e.2.2.2.2.2.2.2=[]/\hW e.2.2.2.2.2.2.1=some true/\((e.2.1=1/\e.2.2.2.2.2.1=0)\/(e.2.1=2/\0<e.2.2.2.1/\1<=e.2.2.2.2.2.1/\e.2.2.2.2.2.1<=e.2.2.2.1))
theorem QF{x:JG}(e:jD x=some true):0<=x.1/\x.1<x.2:=by
 have g:Par (jD x) λy=>y=true->0<=x.1/\x.1<x.2:=by unfold jD;exact .ge (λc=>.some λd=>⟨c,cO.1 d⟩) λ_=>.some nofun
 exact g _ e rfl
theorem EF.of{e:aA}(h:Ju e=some true)(hk:e.2.1=1\/e.2.1=2):EF e:=by
 have B:Par (mJ e) λy=>y.2=true->y.1=e->1<=e.2.2.1/\e.2.2.1<=1073741824/\e.2.2.2.2.2.2.2=[]/\hW e.2.2.2.2.2.2.1=some true/\((e.2.1=1/\e.2.2.2.2.2.1=0)\/(e.2.1=2/\0<e.2.2.2.1/\1<=e.2.2.2.2.2.1/\e.2.2.2.2.2.1<=e.2.2.2.1)):=by
  unfold mJ;refine .eq (λo=>.bind λN h2=>.eq (λg=>by omega) λ_=>.ite (λj=>.ge (λk=>.some λn q=>?_) λ_=>.some nofun) λ_=>.some nofun) λo=>.eq (λg=>.bind λN h2=>.eq (λ_=>.ite (λj=>.gt (λL=>.ge (λM=>.le (λI=>.ge (λk=>.some λn q=>?_) λ_=>.some nofun) λ_=>.some nofun) λ_=>.some nofun) λ_=>.some nofun) λ_=>.some nofun) λc=>absurd g c) λg=>by omega
  subst j;have R:(0:Int)=e.2.2.2.2.2.1:=congrArg (λz:aA=>z.2.2.2.2.2.1) q;have r:([]:List UInt8)=e.2.2.2.2.2.2.2:=congrArg (λz:aA=>z.2.2.2.2.2.2.2) q;exact⟨k,eF.1 n,r.symm,h2,.inl ⟨o,R.symm⟩⟩;subst j;have r:([]:List UInt8)=e.2.2.2.2.2.2.2:=congrArg (λz:aA=>z.2.2.2.2.2.2.2) q;exact⟨k,eF.1 n,r.symm,h2,.inr ⟨g,L,M,I⟩⟩
 have v:Par (Ju e) λy=>y=true->EF e:=by unfold Ju;refine .bind λa S=>.ite (λo=>.ite (λg=>.ge (λk=>.le (λn=>.bind λb1 x=>.ite (λJ=>.bind λb2 w=>.ite (λj=>.bind λV A=>.some λF=>?_) λ_=>.some nofun) λ_=>.some nofun) λ_=>.some nofun) λ_=>.some nofun) λ_=>.some nofun) λ_=>.some nofun;subst J;subst j;subst F;obtain⟨T,U,O,Q,P⟩:=B _ S o (dJ.1 g);obtain⟨K,G⟩:=QF x;obtain⟨C,E⟩:=QF w;obtain⟨D,H⟩:=QF A;exact⟨k,n,T,U,K,G,C,E,D,H,O,Q,P⟩
 exact v _ h rfl
theorem o6{c:fM}(h:fQ c=some true):Tot (AR c) λy=>y=true:=by have e:AR c=fQ c:=rfl;exact⟨true,e.trans h,rfl⟩
theorem sf{c:fO}(h:hW c=some true):Tot (tX c) λy=>y=true:=by
 have n:Par (hW c) λy=>y=true->0<=c.1/\c.1<64/\0<=c.2.1/\c.2.1<16/\fQ c.2.2.1=some true/\fQ c.2.2.2=some true:=by unfold hW;refine .ge (λe=>.lt (λg=>.ge (λj=>.lt (λk=>.bind λa B=>.ite (λr=>.bind λb z=>.some λo=>?_) λ_=>.some nofun) λ_=>.some nofun) λ_=>.some nofun) λ_=>.some nofun) λ_=>.some nofun;subst r;subst o;exact⟨e,g,j,k,B,z⟩
 obtain⟨e,g,j,k,v,x⟩:=n _ h rfl;unfold tX;have A:Tot (AC c.1) λy=>y=true:=by unfold AC;exact .ge (λ_=>.some (cO.2 g)) λc=>absurd e c
 refine .bind A λE d=>.ite (λ_=>.ge (λ_=>.lt (λ_=>.bind (o6 v) λC q=>.ite (λ_=>.bind (o6 x) λD w=>.some w) λc=>by rw[q]at c;cases c) λc=>absurd k c) λc=>absurd j c) λc=>by rw[d]at c;cases c
theorem JCH{e:aA}(h:EF e):Tot (nZ e) λy=>y=true:=by
 obtain⟨N,O,L,M,F,E,B,x,G,r,j,k,H⟩:=h;have o: ∀{n:Int},0<=n->n<e.1->Tot (pY (n,e)) λy=>y=true:=fun{n} h1 h2=>by unfold pY;exact .ge (λ_=>.some (cO.2 h2)) λc=>absurd h1 c
 have J: ∀{b:Bool} {Q:Prop},b=true->Jl b=true->Q:=fun{b Q} h1 h2=>by subst h1;cases h2
 have w:neS e.2.2.2.2.2.2.2 []=false:=by rw[j];rfl
 have hl:J0 e.2.2.2.2.2.2.2<=8192:=by rw[j];decide
 unfold nZ;refine .ltf (λ_=>.gtf (λ_=>.ltf (λ_=>.gtf (λ_=>.bind (o F E) λK z=>.nof (λ_=>.bind (o B x) λI A=>.nof (λ_=>.bind (o G r) λv g=>.not (λc=>by rw[g]at c;cases c) λ_=>?_) λc=>by rw[A]at c;cases c) λc=>by rw[z]at c;cases c) λc=>by omega) λc=>by omega) λc=>by omega) λc=>by omega
 refine .eq (λc=>by omega) λ_=>.eq (λc=>by omega) λ_=>.eq (λc=>by omega) λ_=>.eq (λc=>by omega) λ_=>.eq (λc=>by omega) λ_=>.eq (λc=>by omega) λ_=>.eq (λD=>?_) λD=>.eq (λC=>?_) λC=>by omega
 refine .ltf (λ_=>.gt (λc=>by omega) λ_=>.eq (λc=>by omega) λ_=>.ite (λc=>by rw[w]at c;cases c) λ_=>.le (λ_=>?_) λc=>absurd hl c) λc=>by omega
 have q:Tot (lI e) λy=>y=true:=by unfold lI;exact .ge (λ_=>.some (eF.2 (by omega))) λc=>by omega
 exact .bind q λy d=>.ite (λ_=>.bind (sf k) λv g=>.some g) λc=>by rw[d]at c;cases c
 refine .ltf (λ_=>.gt (λc=>by omega) λ_=>.ne (λc=>by omega) λ_=>.ite (λc=>by rw[w]at c;cases c) λ_=>.le (λ_=>?_) λc=>absurd hl c) λc=>by omega
 have q:Tot (hY e) λy=>y=true:=⟨true,rfl,rfl⟩;exact .bind q λy d=>.ite (λ_=>.bind (sf k) λv g=>.some g) λc=>by rw[d]at c;cases c
def bR(e:aA):Int:=e.2.2.2.2.2.2.1.1
def vH(r:aH):Prop:=1<=r.1/\r.1<=r.2.1/\r.2.1<=1099511627776/\0<=r.2.2.1/\r.2.2.1<=r.2.2.2.1/\r.2.2.2.1<64/\0<=r.2.2.2.2.1/\r.2.2.2.2.1<=8
def GT(r:aH)(e:aA):Prop:=Ju e=some true/\(e.2.1=1\/e.2.1=2)/\r.1<=e.1/\e.1<=r.2.1/\r.2.2.1<=bR e/\bR e<=r.2.2.2.1
def kO(f:Int)(a b:aA):Prop:=(bR a<bR b/\b.2.2.2.2.1<f)\/(bR a=bR b/\a.1<b.1/\b.2.2.2.2.1=a.1)
def kK(r:aH):Prop:=vH r/\J0 r.2.2.2.2.2<=4096/\(∀(j:Nat) (e:aA),r.2.2.2.2.2[j]?=some e->GT r e)/\(∀e,r.2.2.2.2.2[0]?=some e->e.2.2.2.2.1<r.1)/\ ∀(j:Nat) (a b:aA),r.2.2.2.2.2[j]?=some a->r.2.2.2.2.2[j+1]?=some b->kO r.1 a b
theorem vH.of{r:aH}(h:rW (r.1,r.2.1,r.2.2.1,r.2.2.2.1,r.2.2.2.2.1)=some true):vH r:=by
 have e:Par (rW (r.1,r.2.1,r.2.2.1,r.2.2.2.1,r.2.2.2.2.1)) λy=>y=true->vH r:=by unfold rW;exact .ge (λw=>.le (λg=>.le (λj=>.ge (λv=>.le (λo=>.lt (λq=>.ge (λk=>.some λn=>⟨w,g,j,v,o,q,k,eF.1 n⟩) λ_=>.some nofun) λ_=>.some nofun) λ_=>.some nofun) λ_=>.some nofun) λ_=>.some nofun) λ_=>.some nofun) λ_=>.some nofun
 exact e _ h rfl
theorem JCX{e:aA}(h:JR e=some true):e.2.1=1\/e.2.1=2:=by
 have g:Par (JR e) λy=>y=true->e.2.1=1\/e.2.1=2:=by unfold JR;exact .eqf (λ_=>.some λd=>.inr (nS.1 d)) λc=>.some λ_=>.inl c
 exact g _ h rfl
theorem sx{e:aA}(h:e.2.1=1\/e.2.1=2):Tot (JR e) λy=>y=true:=by unfold JR;exact .eqf (λc=>.some (nS.2 (by omega))) λ_=>.some rfl
theorem Qo{e:aA}(h:e.2.1=1\/e.2.1=2):Tot (LZ e) λy=>y=true:=sx h
theorem qv{a b:aA}{y:Int}(h:oB (a,b)=some y)(c: ¬0<=y):bR a<bR b\/(bR a=bR b/\a.1<b.1):=by
 have e:Par (oB (a,b)) λy=> ¬0<=y->bR a<bR b\/(bR a=bR b/\a.1<b.1):=by unfold oB;exact .ltf (λ_=>.eq (λj=>.lt (λg=>.some λ_=>.inr ⟨j,g⟩) λ_=>.eq (λ_=>.eq (λ_=>.some λc=>absurd (aY 0) c) λ_=>.some λc=>absurd (by decide) c) λ_=>.some λc=>absurd (by decide) c) λ_=>.eq (λ_=>.eq (λ_=>.some λc=>absurd (aY 0) c) λ_=>.some λc=>absurd (by decide) c) λ_=>.some λc=>absurd (by decide) c) λc=>.some λ_=>.inl c
 exact e _ h c
theorem F3{a b:aA}(h:bR a<bR b\/(bR a=bR b/\a.1<b.1)):Tot (oB (a,b)) λy=> ¬0<=y:=by unfold bR at h;unfold oB;exact .ltf (λc=>.eq (λe=>.lt (λj=>.some (by decide)) λg=>by(try dsimp only at c e g);omega) λe=>by(try dsimp only at c e);omega) λc=>.some (by decide)
theorem kK.of{r:aH}(h:lE r=some true):kK r:=by
 have J:Par (lE r) λy=>y=true->kK r:=by
  unfold lE;refine .bind λa g=>.nof (λQ=>.gt (λ_=>.some nofun) λR=>?_) λ_=>.some nofun;subst Q;refine .while (λz=>z.2=r/\0<=z.1/\(∀(j:Nat) (e:aA),(j:Int)<z.1->r.2.2.2.2.2[j]?=some e->GT r e)/\(∀e,0<z.1->r.2.2.2.2.2[0]?=some e->e.2.2.2.2.1<r.1)/\ ∀(j:Nat) (a b:aA),(j:Int)+1<z.1->r.2.2.2.2.2[j]?=some a->r.2.2.2.2.2[j+1]?=some b->kO r.1 a b) ⟨rfl,aY _,λj e h=>by(try dsimp only at h);omega,λe h=>by(try dsimp only at h);omega,λj a b h=>by(try dsimp only at h);omega⟩ ?_;rintro⟨i,z⟩ ⟨rfl,O,h1,h2,G⟩
  (try dsimp only at O h1 h2 G R)
  unfold WK;dsimp only;have o1:=Jh i 1;have o2:=bE i 1;refine .lt (λc=>?_) λc=>.some λ_=>⟨vH.of g,by omega,λj e o=>h1 j e (by have:=mB o;omega) o,λe o=>h2 e (by have:=mB o;omega) o,λj a b I E=>G j a b (by have:=mB E;omega) I E⟩;refine .bind λe o=>.bind λb n=>.nof (λS=>.bind λd V=>.nof (λP=>.ltf (λc5=>.gtf (λc6=>.ltf (λc7=>.gt (λ_=>.some nofun) λc8=>?_) λ_=>.some nofun) λ_=>.some nofun) λ_=>.some nofun) λ_=>.some nofun) λ_=>.some nofun;subst S;subst P;obtain⟨_,x⟩:=hO o;have F:GT z e:=⟨n,JCX V,by omega,by omega,by unfold bR;omega,by unfold bR;omega⟩;have nx:(i=0->e.2.2.2.2.1<z.1)->(∀a,0<i->z.2.2.2.2.2[(i-1).toNat]?=some a->kO z.1 a e)->(z=z/\0<=J1 .i64 i 1/\(∀(j:Nat) (e:aA),(j:Int)<J1 .i64 i 1->z.2.2.2.2.2[j]?=some e->GT z e)/\(∀e,0<J1 .i64 i 1->z.2.2.2.2.2[0]?=some e->e.2.2.2.2.1<z.1)/\ ∀(j:Nat) (a b:aA),(j:Int)+1<J1 .i64 i 1->z.2.2.2.2.2[j]?=some a->z.2.2.2.2.2[j+1]?=some b->kO z.1 a b):=by
   intro T U;refine⟨rfl,by omega,λj f Z hf=>?_,λf hp hf=>?_,λj a b Z g n=>?_⟩;by_cases hl:(j:Int)<i;exact h1 j f hl hf;have:j=i.toNat:=by omega
   subst this;rw[x]at hf;injection hf with hf;subst hf;exact F;by_cases hi:0<i;exact h2 f hi hf;have L:i=0:=by omega
   subst L;rw[show(0:Int).toNat=0 from rfl]at x;rw[x]at hf;injection hf with hf;subst hf;exact T rfl;by_cases hl:(j:Int)+1<i;exact G j a b hl g n;have Y:j+1=i.toNat:=by omega
   have W:j=(i-1).toNat:=by omega
   rw[Y,x]at n;injection n with n;subst n;rw[W]at g;exact U a (by omega) g
  have B: ∀{a:aA},0<i->idx z.2.2.2.2.2 (JL .i64 i 1)=some a->z.2.2.2.2.2[(i-1).toNat]?=some a:=fun{a} hi g=>by obtain⟨_,q⟩:=hO g;rw[show(i-1).toNat=(JL .i64 i 1).toNat by omega];exact q
  have zero: ¬0<i-> ¬z.1<=e.2.2.2.2.1->(z=z/\0<=J1 .i64 i 1/\(∀(j:Nat) (e:aA),(j:Int)<J1 .i64 i 1->z.2.2.2.2.2[j]?=some e->GT z e)/\(∀e,0<J1 .i64 i 1->z.2.2.2.2.2[0]?=some e->e.2.2.2.2.1<z.1)/\ ∀(j:Nat) (a b:aA),(j:Int)+1<J1 .i64 i 1->z.2.2.2.2.2[j]?=some a->z.2.2.2.2.2[j+1]?=some b->kO z.1 a b):=λhi hf=>nx (λ_=>by omega) λa h=>absurd h hi;refine .gt (λA=>.bind λy7 D=>.bind λy8 K=>.ge (λ_=>.some nofun) λH=>.gt (λ_=>.bind λy9 k=>.eq (λC=>.bind λa0 v=>.ne (λ_=>.some nofun) λw=>.some ?_) λC=>.ge (λ_=>.some nofun) λw=>.some ?_) λc=>absurd A c) λA=>.gt (λc=>absurd c A) λ_=>.ge (λ_=>.some nofun) λw=>.some (zero A w);rw[D]at k v;injection k with k;injection v with v;subst k;subst v;refine nx (λh=>by omega) λa _ g=>?_;rw[B A D]at g;injection g with g;subst g;rcases qv K H with q|⟨M,N⟩;unfold bR at q;omega;exact .inr ⟨C,N,w⟩;rw[D]at k;injection k with k;subst k;refine nx (λh=>by omega) λa _ g=>?_;rw[B A D]at g;injection g with g;subst g;rcases qv K H with q|⟨M,N⟩;exact .inl ⟨q,by omega⟩;exact absurd M C
 exact J _ h rfl
end
section
variable {B S:Int}
theorem yJ{α:Type}{l:List α}{i:Int}(g:0<=i)(h1:i<J0 l): ∃a,idx l i=some a/\l[i.toNat]?=some a:=by
 have e:i.toNat<l.length:=by unfold J0 at h1;omega
 exact⟨l[i.toNat],by unfold idx;rw[if_pos g,aS e],aS e⟩
theorem I4{r:aH}(h:vH r):Tot (rW (r.1,r.2.1,r.2.2.1,r.2.2.2.1,r.2.2.2.2.1)) λy=>y=true:=by obtain⟨h1,h2,o,k,n,e,j,g⟩:=h;unfold rW;exact .ge (λ_=>.le (λ_=>.le (λ_=>.ge (λ_=>.le (λ_=>.lt (λ_=>.ge (λ_=>.some (eF.2 g)) λc=>absurd j c) λc=>absurd e c) λc=>absurd n c) λc=>absurd k c) λc=>absurd o c) λc=>absurd h2 c) λc=>absurd h1 c
theorem Nn{r:aH}(h:vH r):Tot (ES r) λy=>y=true:=by obtain⟨h1,h2,o,k,n,e,j,g⟩:=h;unfold ES;exact .ge (λ_=>.le (λ_=>.le (λ_=>.ge (λ_=>.le (λ_=>.lt (λ_=>.ge (λ_=>.some (eF.2 g)) λc=>absurd j c) λc=>absurd e c) λc=>absurd n c) λc=>absurd k c) λc=>absurd o c) λc=>absurd h2 c) λc=>absurd h1 c
theorem fK{α:Type}{o:Option α}{v:α}(h:o=some v):Tot o λy=>y=v:=⟨v,h,rfl⟩
theorem pv{r:aH}(h:kK r){i:Int}(hi:0<i)(hl:i<J0 r.2.2.2.2.2){a b:aA}(ha:r.2.2.2.2.2[(i-1).toNat]?=some a)(hb:r.2.2.2.2.2[i.toNat]?=some b):kO r.1 a b:=
 h.2.2.2.2 (i-1).toNat a b ha (by rw[show(i-1).toNat+1=i.toNat by omega];exact hb)
theorem rj{r:aH}(h:kK r):lE r=some true:=by
 have n:Tot (lE r) λy=>y=true:=by
  obtain⟨R,g2,H,K,g5⟩:=id h;unfold lE;refine .bind (I4 R) λy2 D=>.nof (λ_=>.gt (λc=>by omega) λ_=>?_) λc=>by rw[D]at c;cases c
  refine Jm (τ:=Int) (λq=>(q,r)) (λq=>0<=q/\q<=J0 r.2.2.2.2.2) (λq=>J0 r.2.2.2.2.2-q) ?_ 0 rfl ⟨aY _,Jd⟩;rintro i ⟨G,h1⟩;unfold WK;dsimp only;have o1:=Jh i 1;have o2:=bE i 1;refine .lt (λc=>?_) λc=>.some rfl;obtain⟨e,T,g⟩:=yJ G c;obtain⟨L,E,W,Y,B,F⟩:=H _ e g;have nx: ∃c':Int,((J1 .i64 i 1,r):Int×aH)=(c',r)/\(0<=c'/\c'<=J0 r.2.2.2.2.2)/\J0 r.2.2.2.2.2-c'<J0 r.2.2.2.2.2-i/\0<=J0 r.2.2.2.2.2-i:=⟨J1 .i64 i 1,rfl,⟨by omega,by omega⟩,by omega,by omega⟩;unfold bR at B F;refine .bind (fK T) λw P=>?_;subst P;refine .bind (fK L) λy5 M=>.nof (λ_=>.bind (sx E) λy6 J=>.nof (λ_=>.ltf (λ_=>.gtf (λ_=>.ltf (λ_=>.gt (λc=>by omega) λ_=>?_) λc=>by omega) λc=>by omega) λc=>by omega) λc=>by rw[J]at c;cases c) λc=>by rw[M]at c;cases c
  refine .gt (λj=>?_) λj=>.gt (λc=>absurd c j) λ_=>.ge (λc=>?_) λ_=>.some nx;have S:JL .i64 i 1=i-1:=by omega
  rw[S];obtain⟨a,k,v⟩:=yJ (l:=r.2.2.2.2.2) (i:=i-1) (by omega) (by omega);have x:=pv h j c v g;refine .bind (fK k) λC I=>?_;subst I;refine .bind (F3 (a:=C) (b:=w) (by rcases x with⟨q,_⟩|⟨Q,U,_⟩;exact .inl q;exact .inr ⟨Q,U⟩)) λZ O=>.ge (λc=>absurd c O) λ_=>.gt (λ_=>.bind (fK k) λy9 N=>?_) λc=>absurd j c;subst N;unfold kO bR at x;refine .eq (λo=>.bind (fK k) λV z=>?_) λo=>.ge (λc=>by omega) λ_=>.some nx;subst z;exact .ne (λc=>by omega) λ_=>.some nx;have A:i=0:=by omega
  subst A;have:=K w g;omega
 obtain⟨y,e,d⟩:=n;rw[e,d]
theorem H9{a b:aA}(h:bR a=bR b/\a.1<b.1):Tot (EH (a,b)) λy=> ¬0<=y:=by
 obtain⟨h1,h2⟩:=h;unfold bR at h1;have j:tU (a.2.2.2.2.2.2.1.1,b.2.2.2.2.2.2.1.1)=some 0:=by unfold tU EN;dsimp only;rw[h1];simp[aM,aK,aN]
 have e:tU (a.1,b.1)=some (-1):=by unfold tU EN;dsimp only;simp[aM,aK,aN,h2]
 unfold EH;dsimp only;rw[j,e];show Tot ((zN [0, -1]).bind _) _;have g:zN [0, -1]=some (-1):=by unfold zN;rw[wD (s':=(0,[0, -1],J0 ([0, -1]:List Int),1)) (by rfl)];exact rN (by rfl)
 rw[g];exact .some (by decide)
theorem vt{r:aH}(h:kK r):iG r=some true:=by
 have v:Tot (iG r) λy=>y=true:=by
  obtain⟨R,g2,P,I,g5⟩:=id h;unfold iG;refine .bind (Nn R) λy2 C=>.nof (λ_=>.gt (λc=>by omega) λ_=>?_) λc=>by rw[C]at c;cases c
  refine Jm (τ:=Int) (λq=>(r.2.2.2.2.2,J0 r.2.2.2.2.2,q,r)) (λq=>0<=q/\q<=J0 r.2.2.2.2.2) (λq=>J0 r.2.2.2.2.2-q) ?_ 0 rfl ⟨aY _,Jd⟩;rintro i ⟨E,h1⟩;unfold gp;dsimp only;have Z:=Jh i 1;have W:=bE i 1;refine .lt (λc=>?_) λc=>.some rfl;obtain⟨e,T,g⟩:=yJ E c;obtain⟨J,n,B,D,k,o⟩:=P _ e g;have nx: ∃c':Int,((r.2.2.2.2.2,J0 r.2.2.2.2.2,J1 .i64 i 1,r):TH)=(r.2.2.2.2.2,J0 r.2.2.2.2.2,c',r)/\(0<=c'/\c'<=J0 r.2.2.2.2.2)/\J0 r.2.2.2.2.2-c'<J0 r.2.2.2.2.2-i/\0<=J0 r.2.2.2.2.2-i:=⟨J1 .i64 i 1,rfl,⟨by omega,by omega⟩,by omega,by omega⟩;unfold bR at k o;have Q:Tot (ER (r,e)) λy=>y=true:=by unfold ER;exact .bind (Qo n) λy d=>.ite (λ_=>.ge (λ_=>.le (λ_=>.ge (λ_=>.some (eF.2 D)) λc=>absurd B c) λc=>absurd o c) λc=>absurd k c) λc=>by rw[d]at c;cases c
  refine .bind (fK T) λz O=>?_;subst O;refine .bind (JCH (EF.of J n)) λY K=>.nof (λ_=>.bind Q λy6 G=>.not (λc=>by rw[G]at c;cases c) λ_=>?_) λc=>by rw[K]at c;cases c
  refine .eqf (λw=>?_) λw=>.ge (λc=>?_) λ_=>.some nx;have hi:0<i:=by omega
  have S:JL .i64 i 1=i-1:=by omega
  rw[S];obtain⟨a,A,x⟩:=yJ (l:=r.2.2.2.2.2) (i:=i-1) (by omega) (by omega);have j:=pv h hi c x g;refine .bind (fK A) λV F=>?_;subst F;refine .lt (λN=>.ge (λc=>?_) λ_=>.some nx) λN=>.bind (fK A) λH M=>?_;unfold kO bR at j;omega;subst M;have U:=j;unfold kO bR at j;refine .bind (H9 (a:=H) (b:=z) (by unfold bR;omega)) λy9 L=>.gef (λ_=>.ne (λc=>by omega) λ_=>.some nx) λc=>absurd c L;subst w;have:=I z g;omega
 obtain⟨y,e,d⟩:=v;rw[e,d]
end
section
variable {B S:Int}
def ent(r:aH):List aA:=r.2.2.2.2.2
theorem IB{α:Type}{bytes:Nat}{l m:List α}(h:J0 l+J0 m<=34359738368)(hb:bytes<=2048):JI bytes l m=some (l++m):=by unfold JI;rw[if_pos (PB (by unfold J0 at h;omega) hb)]
end
section
variable {B S:Int}
theorem dy(x:Int×aA):Tot (pY x) λy=>y=true->0<=x.1/\x.1<x.2.1:=by unfold pY;exact .ge (λc=>.some λd=>⟨c,cO.1 d⟩) λ_=>.some nofun
theorem Em(c:fM):Tot (AR c) λy=>fQ c=some y:=by
 have g:Tot (fQ c) λ_=>True:=by unfold fQ;exact .ite (λ_=>.itf (λ_=>.some trivial) λ_=>.some trivial) λ_=>.some trivial
 obtain⟨y,e,_⟩:=g;exact⟨y,e,e⟩
theorem JG0(n:Int):Tot (AC n) λy=>y=true->0<=n/\n<64:=by unfold AC;exact .ge (λc=>.some λd=>⟨c,cO.1 d⟩) λ_=>.some nofun
theorem pt(c:fO):Tot (tX c) λy=>y=true->hW c=some true:=by unfold tX;refine .bind (JG0 c.1) λw h2=>.ite (λe=>.ge (λj=>.lt (λk=>.bind (Em c.2.2.1) λv r=>.ite (λh=>.bind (Em c.2.2.2) λx o=>.some λg=>?_) λ_=>.some nofun) λ_=>.some nofun) λ_=>.some nofun) λ_=>.some nofun;obtain⟨n,q⟩:=h2 e;subst h;subst g;unfold hW;rw[if_pos (vU.2 n),if_pos (cO.2 q),if_pos (vU.2 j),if_pos (cO.2 k),r,o];rfl
theorem JIO(c:fO):Tot (wO c) λ_=>True:=⟨_,rfl,trivial⟩
theorem Bc(e:aA):Tot (hY e) λ_=>True:=⟨_,rfl,trivial⟩
theorem JMb(e:aA):Tot (lI e) λy=>y=true->1<=e.2.2.2.2.2.1/\e.2.2.2.2.2.1<=e.2.2.2.1:=by unfold lI;exact .ge (λc=>.some λd=>⟨c,eF.1 d⟩) λ_=>.some nofun
theorem JLP(c:fO):Tot (AJ c) λ_=>True:=by unfold AJ;exact .ite (λ_=>.ite (λ_=>.some trivial) λ_=>.some trivial) λ_=>.some trivial
theorem Ej{l:List UInt8}(h:neS l []=false):l=[]:=by unfold neS at h;simpa using h
theorem JJx(e:aA):Tot (nZ e) λy=>y=true->(e.2.1=1\/e.2.1=2)->EF e:=by
 have g: ∀{o:Option Bool},(3<=e.2.1\/e.2.1<=0)->Tot o (λ_=>True)->Tot o λy=>y=true->(e.2.1=1\/e.2.1=2)->EF e:=λh ht=>ht.mono λ_ _ _ M=>by omega
 unfold nZ;refine .ltf (λP=>.gtf (λQ=>.ltf (λN=>.gtf (λO=>.bind (dy _) λL h2=>.nof (λA=>.bind (dy _) λJ H=>.nof (λB=>.bind (dy _) λK E=>.not (λ_=>.some nofun) λD=>?_) λ_=>.some nofun) λ_=>.some nofun) λ_=>.some nofun) λ_=>.some nofun) λ_=>.some nofun) λ_=>.some nofun;have b2:=h2 A;have j:=H B;have k:=E D;refine .eq (λc=>g (by omega) ?_) λ_=>.eq (λc=>g (by omega) ?_) λ_=>.eq (λc=>g (by omega) ?_) λ_=>.eq (λc=>g (by omega) ?_) λ_=>.eq (λc=>g (by omega) ?_) λ_=>.eq (λc=>g (by omega) ?_) λ_=>.eq (λx=>?_) λx=>.eq (λw=>?_) λw=>by omega
 case refine_7=>refine .ltf (λG=>.gt (λ_=>.some nofun) λC=>.eq (λ_=>.some nofun) λv=>.ite (λ_=>.some nofun) λn=>.le (λ_=>.bind (JMb e) λy h=>.ite (λd=>.bind (pt _) λz r=>.some λq _=>?_) λ_=>.some nofun) λ_=>.some nofun) λ_=>.some nofun;obtain⟨F,I⟩:=h d;exact⟨by omega,by omega,by omega,by omega,b2.1,b2.2,j.1,j.2,k.1,k.2,Ej n,r q,.inr ⟨x,by have:=b2.1;(try dsimp only at this);omega,F,I⟩⟩
 case refine_8=>refine .ltf (λG=>.gt (λ_=>.some nofun) λC=>.ne (λ_=>.some nofun) λv=>.ite (λ_=>.some nofun) λn=>.le (λ_=>.bind (Bc e) λy h=>.ite (λd=>.bind (pt _) λz r=>.some λq _=>?_) λ_=>.some nofun) λ_=>.some nofun) λ_=>.some nofun;exact⟨by omega,by omega,by omega,by omega,b2.1,b2.2,j.1,j.2,k.1,k.2,Ej n,r q,.inl ⟨w,v⟩⟩
 all_goals repeat' first
  |exact .some trivial
  |refine .ite (λ_=>?_) λ_=>?_
  |refine .itf (λ_=>?_) λ_=>?_
  |refine .bind (Bc _) λ_ _=>?_
  |refine .bind (JIO _) λ_ _=>?_
  |refine .bind (JLP _) λ_ _=>?_
end
section
variable {B S:Int}
def BW(x y:Int):Int:=if x<y then -1 else if y<x then 1 else 0
def SZ(a b:aA):Int:=if BW (bR a) (bR b)=0 then BW a.1 b.1 else BW (bR a) (bR b)
theorem oa(x:Int):aM x x=false:=by simp[aM]
theorem Bb(x y:Int):tU (x,y)=some (BW x y):=by
 unfold tU EN BW;dsimp only;rw[oa,oa];by_cases h:x<y;simp[aK,h];by_cases h2:y<x;simp[aK,aN,h,h2];simp[aK,aN,h,h2]
theorem JM9(p q:Int):zN [p,q]=some (if p=0 then q else p):=by
 unfold zN;have h: ∀p q:Int,VO (0,[p,q],J0 [p,q],0)=if aM p 0=true then some (.inr p)else some (.inl (0,[p,q],J0 [p,q],1)):=λp q=>rfl
 have g: ∀p q:Int,VO (0,[p,q],J0 [p,q],1)=if aM q 0=true then some (.inr q)else some (.inl (0,[p,q],J0 [p,q],2)):=λp q=>rfl
 have k: ∀p q:Int,VO (0,[p,q],J0 [p,q],2)=some (.inr 0):=λp q=>rfl;by_cases e:p=0;subst e;rw[if_pos rfl,wD ((h 0 q).trans (if_neg (by decide)))];by_cases j:q=0;subst j;rw[wD ((g 0 0).trans (if_neg (by decide)))];exact rN (k 0 0);exact rN ((g 0 q).trans (if_pos (cU.2 j)));rw[if_neg e];exact rN ((h p q).trans (if_pos (cU.2 e)))
theorem JJd(a b:aA):EH (a,b)=some (SZ a b):=by unfold EH SZ bR;dsimp only;rw[Bb,Bb];simp only[Jv];rw[JM9];rfl
def ltE(a b:aA):Prop:=bR a<bR b\/(bR a=bR b/\a.1<b.1)
theorem JGz{a b:aA}:SZ a b<0↔ltE a b:=by
 unfold SZ BW ltE
 repeat' split
 all_goals first|omega|(constructor<;>intro h<;>omega)
theorem JLp(r:aH):Tot (ES r) λy=>y=true->vH r:=by unfold ES;exact .ge (λq=>.le (λe=>.le (λg=>.ge (λo=>.le (λk=>.lt (λn=>.ge (λh=>.some λj=>⟨q,e,g,o,k,n,h,eF.1 j⟩) λ_=>.some nofun) λ_=>.some nofun) λ_=>.some nofun) λ_=>.some nofun) λ_=>.some nofun) λ_=>.some nofun) λ_=>.some nofun
theorem JKv(e:aA):Tot (LZ e) λy=>y=true->e.2.1=1\/e.2.1=2:=by unfold LZ;exact .eqf (λ_=>.some λd=>.inr (nS.1 d)) λc=>.some λ_=>.inl c
theorem JL7(r:aH)(e:aA):Tot (ER (r,e)) λy=>y=true->(e.2.1=1\/e.2.1=2)/\r.1<=e.1/\e.1<=r.2.1/\r.2.2.1<=bR e/\bR e<=r.2.2.2.1:=by unfold ER;exact .bind (JKv e) λy h=>.ite (λd=>.ge (λn=>.le (λg=>.ge (λj=>.some λk=>⟨h d,j,eF.1 k,n,g⟩) λ_=>.some nofun) λ_=>.some nofun) λ_=>.some nofun) λ_=>.some nofun
theorem JHJ{t:Ty}(x:t.D):eqT t x x=true:=dJ.2 rfl
theorem JFx{e:aA}(h:EF e)(hk:e.2.1=1\/e.2.1=2):Ju e=some true:=by
 obtain⟨S,T,A,j,O,J,F,B,Q,w,g,o,z⟩:=h;have r: ∀{n:Int},0<=n->n<e.1->jD (n,e.1)=some true:=fun{n} h1 h2=>by unfold jD;rw[if_pos (vU.2 h1)];exact congrArg some (cO.2 h2)
 have sh:Tot (mJ e) λy=>y=(e,true):=by
  unfold mJ;rcases z with⟨k,q⟩|⟨k,M,U,N⟩;refine .eq (λ_=>.bind (fK o) λy d=>.eq (λc=>by omega) λ_=>.ite (λ_=>.ge (λ_=>.some ?_) λc=>absurd A c) λc=>by rw[d]at c;cases c) λc=>absurd k c;obtain⟨v,P,R,L,D,H,G,I⟩:=e
  (try dsimp only at k q g j)
  subst q;subst g;exact congrArg (Prod.mk _) (eF.2 j);refine .eq (λc=>by omega) λ_=>.eq (λ_=>.bind (fK o) λy d=>.eq (λ_=>.ite (λ_=>.gt (λ_=>.ge (λ_=>.le (λ_=>.ge (λ_=>.some ?_) λc=>absurd A c) λc=>absurd N c) λc=>absurd U c) λc=>absurd M c) λc=>by rw[d]at c;cases c) λc=>absurd k c) λc=>absurd k c;obtain⟨v,P,R,L,D,H,G,I⟩:=e
  (try dsimp only at g j)
  subst g;exact congrArg (Prod.mk _) (eF.2 j)
 have x:Tot (Ju e) λy=>y=true:=by unfold Ju;refine .bind sh λy d=>?_;subst d;exact .ite (λ_=>.ite (λ_=>.ge (λ_=>.le (λ_=>.bind (fK (r O J)) λY C=>.ite (λ_=>.bind (fK (r F B)) λV E=>.ite (λ_=>.bind (fK (r Q w)) λW K=>.some K) λc=>by rw[E]at c;cases c) λc=>by rw[C]at c;cases c) λc=>absurd T c) λc=>absurd S c) λc=>by have q:=JHJ (t:=J3) e;cases q.symm.trans c) λc=>by cases c
 obtain⟨y,v,d⟩:=x;rw[v,d]
theorem JLC(r:aH):Tot (iG r) λy=>y=true->kK r:=by
 unfold iG;refine .bind (JLp r) λy1 D=>.nof (λQ=>.gt (λ_=>.some nofun) λc2=>?_) λ_=>.some nofun;have D:=D Q;have P:=Jd (l:=r.2.2.2.2.2);refine Jm (τ:=Int) (λq=>(r.2.2.2.2.2,J0 r.2.2.2.2.2,q,r)) (λi=>0<=i/\i<=J0 r.2.2.2.2.2/\(∀(j:Nat) (e:aA),(j:Int)<i->r.2.2.2.2.2[j]?=some e->EF e/\(e.2.1=1\/e.2.1=2)/\r.1<=e.1/\e.1<=r.2.1/\r.2.2.1<=bR e/\bR e<=r.2.2.2.1)/\(∀e,0<i->r.2.2.2.2.2[0]?=some e->e.2.2.2.2.1<r.1)/\ ∀(j:Nat) (a b:aA),(j:Int)+1<i->r.2.2.2.2.2[j]?=some a->r.2.2.2.2.2[j+1]?=some b->kO r.1 a b) (λq=>J0 r.2.2.2.2.2-q) ?_ 0 rfl ⟨aY _,P,λj e h=>by omega,λe h=>by omega,λj a b h=>by omega⟩;rintro i ⟨N,hn,h1,h2,M⟩;unfold gp;dsimp only;have o1:=Jh i 1;have o2:=bE i 1;refine .lt (λc=>?_) λc=>.some λ_=>⟨D,by omega,λj e n=>?_,λe n=>h2 e (by have:=mB n;omega) n,λj a b H x=>M j a b (by have:=mB x;omega) H x⟩;obtain⟨e,n,o⟩:=yJ N c;refine .bind (fK n) λg V=>?_;subst V;refine .bind (JJx g) λy5 h5=>.nof (λS=>.bind (JL7 r g) λy6 U=>.not (λ_=>.some nofun) λR=>?_) λ_=>.some nofun;have L:=U R;have z:EF g/\(g.2.1=1\/g.2.1=2)/\r.1<=g.1/\g.1<=r.2.1/\r.2.2.1<=bR g/\bR g<=r.2.2.2.1:=⟨h5 S L.1,L⟩;have nx:(i=0->g.2.2.2.2.1<r.1)->(∀a,0<i->r.2.2.2.2.2[(i-1).toNat]?=some a->kO r.1 a g)-> ∃c':Int,((r.2.2.2.2.2,J0 r.2.2.2.2.2,J1 .i64 i 1,r):TH)=(r.2.2.2.2.2,J0 r.2.2.2.2.2,c',r)/\(0<=c'/\c'<=J0 r.2.2.2.2.2/\(∀(j:Nat) (e:aA),(j:Int)<c'->r.2.2.2.2.2[j]?=some e->EF e/\(e.2.1=1\/e.2.1=2)/\r.1<=e.1/\e.1<=r.2.1/\r.2.2.1<=bR e/\bR e<=r.2.2.2.1)/\(∀e,0<c'->r.2.2.2.2.2[0]?=some e->e.2.2.2.2.1<r.1)/\ ∀(j:Nat) (a b:aA),(j:Int)+1<c'->r.2.2.2.2.2[j]?=some a->r.2.2.2.2.2[j+1]?=some b->kO r.1 a b)/\J0 r.2.2.2.2.2-c'<J0 r.2.2.2.2.2-i/\0<=J0 r.2.2.2.2.2-i:=by
  intro W Y;refine⟨J1 .i64 i 1,rfl,⟨by omega,by omega,λj f hj hf=>?_,λf hp hf=>?_,λj a b hj v k=>?_⟩,by omega,by omega⟩;by_cases hl:(j:Int)<i;exact h1 j f hl hf;have:j=i.toNat:=by omega
  subst this;rw[o]at hf;injection hf with hf;subst hf;exact z;by_cases hi:0<i;exact h2 f hi hf;have K:i=0:=by omega
  subst K;rw[show(0:Int).toNat=0 from rfl]at o;rw[o]at hf;injection hf with hf;subst hf;exact W rfl;by_cases hl:(j:Int)+1<i;exact M j a b hl v k;have E:j+1=i.toNat:=by omega
  have e2:j=(i-1).toNat:=by omega
  rw[E,o]at k;injection k with k;subst k;rw[e2]at v;exact Y a (by omega) v
 refine .eqf (λA=>?_) λA=>.ge (λ_=>.some nofun) λc5=>.some (nx (λ_=>by omega) λa h=>by omega);have E:JL .i64 i 1=i-1:=by omega
 rw[E];obtain⟨a,v,J⟩:=yJ (l:=r.2.2.2.2.2) (i:=i-1) (by omega) (by omega);have F:kO r.1 a g->(∀b,0<i->r.2.2.2.2.2[(i-1).toNat]?=some b->kO r.1 b g):=λh b _ k=>by rw[J]at k;injection k with k;subst k;exact h
 refine .bind (fK v) λy7 O=>?_;subst O;refine .lt (λB=>.ge (λ_=>.some nofun) λc6=>.some (nx (λh=>absurd h A) (F (.inl ⟨B,by omega⟩)))) λB=>.bind (fK v) λG T=>?_;subst T;refine .bind (fK (JJd G g)) λy9 Z=>.gef (λc9=>.ne (λ_=>.some nofun) λI=>.some (nx (λh=>absurd h A) (F ?_))) λ_=>.some nofun;subst Z;rcases(JGz (a:=G) (b:=g)).1 (by omega)with q|⟨C,w⟩;exact absurd q B;exact .inr ⟨C,w,I⟩;obtain⟨C,w⟩:=h1 j e (by have:=mB n;omega) n;exact⟨JFx C w.1,w⟩
end
section
variable {B S:Int}
theorem ltE.trans{a b c:aA}(h1:ltE a b)(h2:ltE b c):ltE a c:=by unfold ltE at*;omega
end
section
variable {B S:Int}
def GD(r:aH):Prop:=aB 16384 9223372036854775807 dE r
theorem vv{r:aH}(h:GD r): ∃v,iG r=some v/\lE r=some v/\(v=true->kK r):=by
 obtain⟨y,e,h1⟩:=JLC r;obtain⟨z,g,_⟩:=gg (B:=16384) (S:=9223372036854775807) h;refine⟨y,e,?_,h1⟩;cases y with
 |true=>exact rj (h1 rfl)
 |false=>
  cases z with
  |false=>exact g
  |true=>have:=vt (kK.of g);rw[this]at e;cases e
theorem OE{r:aH}(h:kK r):iG r=some true/\lE r=some true:=⟨vt h,rj h⟩
theorem JKg{l:List aA}(h:J0 l<=16384):cM 128 l=some l:=by have:=Jd (l:=l);unfold cM;rw[if_pos];unfold iO;unfold J0 at h this;simp only[decide_eq_true_eq];omega
end
section
variable {l E F:List aA} {p:Int}
def Inc(l:List aA):Prop:=l.Pairwise λa b=>a.1<b.1
theorem Inc.filter(h:Inc l)(q:aA->Bool):Inc (l.filter q):=h.sublist (List.filter_sublist)
end
theorem i1(c x:Bool):(if c=true then some x else some false)=some (c&&x):=by cases c<;>rfl
theorem i2(c x:Bool):(if c=false then some x else some false)=some (!c&&x):=by cases c<;>rfl
theorem i3(c x:Bool):(if c=true then some false else some x)=some (!c&&x):=by cases c<;>rfl
theorem i4{α:Type}(c x:Bool)(E:α):(if c=true then some (E,x)else some (E,false))=some (E,c&&x):=by cases c<;>rfl
theorem D4(c:fM):AR c=fQ c:=rfl
theorem Dp(c:fM): ∃b,fQ c=some b:=by unfold fQ;split<;>(try split)<;>exact⟨_,rfl⟩
theorem JEw(c:fO): ∃b,tX c=some b/\hW c=some b:=by obtain⟨b1,e⟩:=Dp c.2.2.1;obtain⟨b2,j⟩:=Dp c.2.2.2;unfold tX AC hW;rw[D4,D4,e,j];simp only[Jv];by_cases h1:aP c.1 0=true<;>by_cases h2:aK c.1 64=true<;>by_cases h:aP c.2.1 0=true<;>by_cases g:aK c.2.1 16=true<;>cases b1<;>simp[h1,h2,h,g]
theorem JCb{x:JG}(e:jD x=some true):0<=x.1/\x.1<x.2:=by
 unfold jD at e;split at e;injection e with e;rename_i h;exact⟨vU.1 h,cO.1 e⟩;cases e
theorem ej(x:JG): ∃b,jD x=some b:=by unfold jD;split<;>exact⟨_,rfl⟩
theorem JJy(c:fO): ∃z,wO c=some z/\(z=true↔c=(0,0,(false,[]),false,[])):=⟨_,rfl,dJ (t:=dK)⟩
theorem JM5(c:fO): ∃z,AJ c=some z/\(z=true↔c=(c.1,0,(false,[]),false,[])/\0<=c.1/\c.1<64):=by
 have e:Tot (AJ c) λz=>(z=true↔c=(c.1,0,(false,[]),false,[])/\0<=c.1/\c.1<64):=by unfold AJ;exact .ite (λh=>.ge (λg=>.some ⟨λk=>⟨(dJ (t:=dK)).1 h,g,cO.1 k⟩,λk=>cO.2 k.2.2⟩) λg=>.some ⟨nofun,λk=>absurd k.2.1 g⟩) λh=>.some ⟨nofun,λk=>(Bool.false_ne_true (h.symm.trans ((dJ (t:=dK)).2 k.1))).elim⟩
 exact e
theorem Br(e:aA):nZ e=Ju e:=by
 obtain⟨l,k,t,q,v,r,c,bl⟩:=e;obtain⟨U,x,A⟩:=JEw c;obtain⟨b1,w⟩:=ej (q,l);obtain⟨b2,L⟩:=ej (v,l);obtain⟨Q,M⟩:=ej (r,l);have N:pY (q,l,k,t,q,v,r,c,bl)=some b1:=w;have O:pY (v,l,k,t,q,v,r,c,bl)=some b2:=L;have P:pY (r,l,k,t,q,v,r,c,bl)=some Q:=M;have T: ∀b:Bool,Jl b= !b:=λ_=>rfl;unfold nZ Ju mJ;dsimp only;rw[N,O,P,w,L,M,x,A];have j: ∀a b:aA,(eqT J3 a b=true)=(a=b):=λa b=>propext (dJ (t:=J3));have g: ∀a b:fO,(eqT dK a b=true)=(a=b):=λa b=>propext (dJ (t:=dK));have V:b1=true->0<=q/\q<l:=λh=>by subst h;exact JCb w
 have K:k=1\/k=2\/k=3\/k=4\/k=5\/k=6\/k=7\/k=8\/k<1\/8<k:=by omega
 clear w L M N O P x A;have W:J0 ([]:List UInt8)=0:=rfl;obtain⟨z,n,S⟩:=JJy c;obtain⟨y,o,R⟩:=JM5 c;rcases K with rfl|rfl|rfl|rfl|rfl|rfl|rfl|rfl|K|K;simp only[show aK 1 1=false from rfl,show aN 1 8=false from rfl,show aJ 1 8=false from rfl,show aJ 1 7=false from rfl,show aJ 1 6=false from rfl,show aJ 1 5=false from rfl,show aJ 1 4=false from rfl,show aJ 1 3=false from rfl,show aJ 1 2=false from rfl,show aJ 1 1=true from rfl,if_true,if_false,eE,reduceCtorEq,Jv,hY,lI,n,o,i1,i2,i3,i4]
 congr 1
 rw[Bool.eq_iff_iff];simp only[JX,lO,j,g];simp only[aK,aN,aP,bD,aM,aJ,Jl,neS,decide_eq_true_eq,decide_eq_false_iff_not,Prod.mk.injEq,Bool.not_eq_false',Decidable.not_not,true_and,and_true];grind;simp only[show aK 2 1=false from rfl,show aN 2 8=false from rfl,show aJ 2 8=false from rfl,show aJ 2 7=false from rfl,show aJ 2 6=false from rfl,show aJ 2 5=false from rfl,show aJ 2 4=false from rfl,show aJ 2 3=false from rfl,show aJ 2 2=true from rfl,show aJ 2 1=false from rfl,if_true,if_false,eE,reduceCtorEq,Jv,hY,lI,n,o,i1,i2,i3,i4]
 congr 1
 rw[Bool.eq_iff_iff];simp only[JX,lO,j,g];simp only[aK,aN,aP,bD,aM,aJ,Jl,neS,decide_eq_true_eq,decide_eq_false_iff_not,Prod.mk.injEq,Bool.not_eq_false',Decidable.not_not,true_and,and_true];grind;simp only[show aK 3 1=false from rfl,show aN 3 8=false from rfl,show aJ 3 8=false from rfl,show aJ 3 7=false from rfl,show aJ 3 6=false from rfl,show aJ 3 5=false from rfl,show aJ 3 4=false from rfl,show aJ 3 3=true from rfl,show aJ 3 2=false from rfl,show aJ 3 1=false from rfl,if_true,if_false,eE,reduceCtorEq,Jv,hY,lI,n,o,i1,i2,i3,i4]
 congr 1
 rw[Bool.eq_iff_iff];simp only[JX,lO,j,g];simp only[aK,aN,aP,bD,aM,aJ,Jl,neS,decide_eq_true_eq,decide_eq_false_iff_not,Prod.mk.injEq,Bool.not_eq_false',Decidable.not_not,true_and,and_true];grind;simp only[show aK 4 1=false from rfl,show aN 4 8=false from rfl,show aJ 4 8=false from rfl,show aJ 4 7=false from rfl,show aJ 4 6=false from rfl,show aJ 4 5=false from rfl,show aJ 4 4=true from rfl,show aJ 4 3=false from rfl,show aJ 4 2=false from rfl,show aJ 4 1=false from rfl,if_true,if_false,eE,reduceCtorEq,Jv,hY,lI,n,o,i1,i2,i3,i4]
 congr 1
 rw[Bool.eq_iff_iff];simp only[JX,lO,j,g];simp only[aK,aN,aP,bD,aM,aJ,Jl,neS,decide_eq_true_eq,decide_eq_false_iff_not,Prod.mk.injEq,Bool.not_eq_false',Decidable.not_not,true_and,and_true];grind;simp only[show aK 5 1=false from rfl,show aN 5 8=false from rfl,show aJ 5 8=false from rfl,show aJ 5 7=false from rfl,show aJ 5 6=false from rfl,show aJ 5 5=true from rfl,show aJ 5 4=false from rfl,show aJ 5 3=false from rfl,show aJ 5 2=false from rfl,show aJ 5 1=false from rfl,if_true,if_false,eE,reduceCtorEq,Jv,hY,lI,n,o,i1,i2,i3,i4]
 congr 1
 rw[Bool.eq_iff_iff];simp only[JX,lO,j,g];simp only[aK,aN,aP,bD,aM,aJ,Jl,neS,decide_eq_true_eq,decide_eq_false_iff_not,Prod.mk.injEq,Bool.not_eq_false',Decidable.not_not,true_and,and_true];grind;simp only[show aK 6 1=false from rfl,show aN 6 8=false from rfl,show aJ 6 8=false from rfl,show aJ 6 7=false from rfl,show aJ 6 6=true from rfl,show aJ 6 5=false from rfl,show aJ 6 4=false from rfl,show aJ 6 3=false from rfl,show aJ 6 2=false from rfl,show aJ 6 1=false from rfl,if_true,if_false,eE,reduceCtorEq,Jv,hY,lI,n,o,i1,i2,i3,i4]
 congr 1
 rw[Bool.eq_iff_iff];simp only[JX,lO,j,g];simp only[aK,aN,aP,bD,aM,aJ,Jl,neS,decide_eq_true_eq,decide_eq_false_iff_not,Prod.mk.injEq,Bool.not_eq_false',Decidable.not_not,true_and,and_true];grind;simp only[show aK 7 1=false from rfl,show aN 7 8=false from rfl,show aJ 7 8=false from rfl,show aJ 7 7=true from rfl,show aJ 7 6=false from rfl,show aJ 7 5=false from rfl,show aJ 7 4=false from rfl,show aJ 7 3=false from rfl,show aJ 7 2=false from rfl,show aJ 7 1=false from rfl,if_true,if_false,eE,reduceCtorEq,Jv,hY,lI,n,o,i1,i2,i3,i4]
 congr 1
 rw[Bool.eq_iff_iff];simp only[JX,lO,j,g];simp only[aK,aN,aP,bD,aM,aJ,Jl,neS,decide_eq_true_eq,decide_eq_false_iff_not,Prod.mk.injEq,Bool.not_eq_false',Decidable.not_not,true_and,and_true];grind;simp only[show aK 8 1=false from rfl,show aN 8 8=false from rfl,show aJ 8 8=true from rfl,show aJ 8 7=false from rfl,show aJ 8 6=false from rfl,show aJ 8 5=false from rfl,show aJ 8 4=false from rfl,show aJ 8 3=false from rfl,show aJ 8 2=false from rfl,show aJ 8 1=false from rfl,if_true,if_false,eE,reduceCtorEq,Jv,hY,lI,n,o,i1,i2,i3,i4]
 congr 1
 rw[Bool.eq_iff_iff];simp only[JX,lO,j,g];simp only[aK,aN,aP,bD,aM,aJ,Jl,neS,decide_eq_true_eq,decide_eq_false_iff_not,Prod.mk.injEq,Bool.not_eq_false',Decidable.not_not,true_and,and_true];grind;have I:aJ k 1=false:=by simp[aJ];omega
 have J:aJ k 2=false:=by simp[aJ];omega
 have C:aJ k 3=false:=by simp[aJ];omega
 have D:aJ k 4=false:=by simp[aJ];omega
 have B:aJ k 5=false:=by simp[aJ];omega
 have F:aJ k 6=false:=by simp[aJ];omega
 have G:aJ k 7=false:=by simp[aJ];omega
 have H:aJ k 8=false:=by simp[aJ];omega
 have E:aK k 1=true:=by simp[aK];omega
 simp only[I,J,C,D,B,F,G,H,E,if_true,if_false,eE,reduceCtorEq,Jv,i1,i2,i3,i4];simp;have I:aJ k 1=false:=by simp[aJ];omega
 have J:aJ k 2=false:=by simp[aJ];omega
 have C:aJ k 3=false:=by simp[aJ];omega
 have D:aJ k 4=false:=by simp[aJ];omega
 have B:aJ k 5=false:=by simp[aJ];omega
 have F:aJ k 6=false:=by simp[aJ];omega
 have G:aJ k 7=false:=by simp[aJ];omega
 have H:aJ k 8=false:=by simp[aJ];omega
 have E:aN k 8=true:=by simp[aN];omega
 simp only[I,J,C,D,B,F,G,H,E,if_true,if_false,eE,reduceCtorEq,Jv,i1,i2,i3,i4];simp
end Go.Am
end
section
namespace Go.Am
set_option linter.unusedVariables false
set_option maxRecDepth 20000
set_option maxHeartbeats 1000000
theorem JHu{x:aH}(hl:J0 (ent x)<=4096)(he: ∀e∈ent x,mS e=kW e)(hv: ∀e∈ent x,∃b,kW e=some (b,0)/\J0 b<=8392)(hf: ∀(b:List UInt8),J0 b<=8392-> ∃f,jW b=some f/\J0 f=J0 b+8):
  ∀(l:List aA) (i:Nat) (out:List UInt8),(ent x).drop i=l->i<=(ent x).length->J0 out<=8400*(i+1)->
   qQ lG mS 40 l out=J9 AI (out,(i:Int),x):=by
 intro l
 induction l with
 |nil=>
  intro i out g hi w;have hi':i=(ent x).length:=by have:=congrArg List.length g;simp at this;omega
  refine(rN ?_).symm;unfold AI;dsimp only;rw[if_neg (λc=>by have:=cO.1 c;have:(i:Int)<J0 (ent x):=this;unfold J0 at this;omega)]
 |cons e l ih=>
  intro i out g hi w;have n:i<(ent x).length:=(by rcases zQ3 i (ent x).length with h|h;exact h;rw[List.drop_of_length_le h]at g;cases g);have q:(ent x)[i]?=some e:=by have:=congrArg (λl=>l[0]?) g;simpa using this
  have r:e∈ent x:=zQ5 q;obtain⟨b,o,v⟩:=hv e r;obtain⟨f,j,A⟩:=hf b v;have z:=Jh (i:Int) 1;have y:J0 (ent x)=((ent x).length:Int):=rfl;have k:bQ out f=some (out++f):=by unfold bQ;rw[if_pos (by unfold J0 at*;omega)]
  have step:AI (out,(i:Int),x)=some (.inl (out++f,((i+1:Nat):Int),x)):=by
   unfold AI;dsimp only;have hidx:idx x.2.2.2.2.2 (i:Int)=some e:=by show idx (ent x) (i:Int)=some e;unfold idx;rw[if_pos (by omega),Int.toNat_natCast];exact q
   rw[if_pos (cO.2 (by show(i:Int)<J0 (ent x);omega)),hidx];simp only[Jv];rw[o];simp only[Jv];rw[j];simp only[Jv];rw[k];simp only[Jv];rw[show J1 .i64 (i:Int) 1=((i+1:Nat):Int) by omega]
  rw[wD step];unfold qQ;rw[he e r,o];simp only[Jv];rw[if_pos trivial,n5,j];simp only[Jv];rw[if_pos (by unfold J0 at*;omega)];refine ih (i+1) (out++f) ?_ n (by unfold J0 at*;simp;omega);rw[<-qL,g];rfl
end Go.Am
end
section
namespace Go.Am
set_option linter.unusedVariables false
set_option maxRecDepth 20000
set_option maxHeartbeats 1000000
theorem JEj{x:aA}(hv:Ju x=some true)(h1:J0 x.2.2.2.2.2.2.1.2.2.1.2<=12)(h2:J0 x.2.2.2.2.2.2.1.2.2.2.2<=12)(h3:J0 x.2.2.2.2.2.2.2<=8192): ∃b,kW x=some (b,0)/\J0 b<=8392:=by
 unfold kW;rw[hv];simp only[Jv];rw[if_neg (show¬Jl true=true by decide)];obtain⟨D,V,z,I⟩:=cT (s:=[]) (n:=x.1) (k:=8) (by decide) (by decide) (by decide);have l0:J0 ([]:List UInt8)=0:=rfl;obtain⟨Q,Y,r,K⟩:=cT (s:=D) (n:=x.2.1) (k:=1) (by decide) (by decide) (by omega);obtain⟨H,W,q,B⟩:=cT (s:=Q) (n:=x.2.2.1) (k:=4) (by decide) (by decide) (by omega);obtain⟨L,p6,h,U⟩:=cT (s:=H) (n:=x.2.2.2.1) (k:=8) (by decide) (by decide) (by omega);obtain⟨A,p7,g,M⟩:=cT (s:=L) (n:=x.2.2.2.2.1) (k:=8) (by decide) (by decide) (by omega);obtain⟨G,p8,y,E⟩:=cT (s:=A) (n:=x.2.2.2.2.2.1) (k:=8) (by decide) (by decide) (by omega);obtain⟨N,p9,e,P⟩:=cT (s:=G) (n:=x.2.2.2.2.2.2.1.1) (k:=4) (by decide) (by decide) (by omega);obtain⟨S,pA,o,O⟩:=cT (s:=N) (n:=x.2.2.2.2.2.2.1.2.1) (k:=1) (by decide) (by decide) (by omega);obtain⟨C,pB,T,lB⟩:=PH (s:=S) (c:=x.2.2.2.2.2.2.1.2.2.1) (by omega) (by omega);obtain⟨F,pC,R,Z⟩:=PH (s:=C) (c:=x.2.2.2.2.2.2.1.2.2.2) (by omega) (by omega);obtain⟨j,pD,v,J⟩:=cT (s:=F) (n:=J0 x.2.2.2.2.2.2.2) (k:=4) (by decide) (by decide) (by omega);simp only[show((8:Nat):Int)=8 from rfl,show((4:Nat):Int)=4 from rfl,show((1:Nat):Int)=1 from rfl]at z r q h g y e o v I K B U M E P O J;simp only[z,r,q,h,g,y,e,o,T,R,v,Jv];have w:bQ j x.2.2.2.2.2.2.2=some (j++x.2.2.2.2.2.2.2):=by unfold bQ;rw[if_pos (by unfold J0 at*;omega)]
 rw[w];exact⟨_,rfl,by have:=YR w;omega⟩
theorem d7{b:List UInt8}(hb:J0 b<=8392): ∃f,jW b=some f/\J0 f=J0 b+8:=by
 unfold jW;rw[if_neg (λc=>by have:=eS.1 c;omega)];have r:0<=J0 b:=Jd;have v:J0 ([]:List UInt8)=0:=rfl;obtain⟨y,p,q,l⟩:=cT (s:=[]) (n:=J0 b) (k:=4) (by decide) (by decide) (by decide);simp only[show((4:Nat):Int)=4 from rfl]at q l;rw[q];simp only[Jv];have e:bQ y b=some (y++b):=by unfold bQ;rw[if_pos (by unfold J0 at*;omega)]
 rw[e];simp only[Jv];have j:=YR e;rw[IL _ (by omega)];simp only[Jv];obtain⟨z,o,g,h⟩:=cT (s:=y++b) (n:=aT .i64 ((crc (y++b):Nat):Int)) (k:=4) (by decide) (by decide) (by omega);simp only[show((4:Nat):Int)=4 from rfl]at g h;rw[g];exact⟨z,rfl,by omega⟩
end Go.Am
end
section
namespace Go.Am
set_option linter.unusedVariables false
set_option maxRecDepth 20000
set_option maxHeartbeats 1000000
theorem mz(r:aH): ∃y,qE r=some y/\J0 y=33:=by unfold qE;have O:J0 ([80,77,82,78]:List UInt8)=4:=rfl;obtain⟨v,N,j,E⟩:=cT (s:=[80,77,82,78]) (n:=r.1) (k:=8) (by decide) (by decide) (by decide);obtain⟨H,L,q,F⟩:=cT (s:=v) (n:=r.2.1) (k:=8) (by decide) (by decide) (by omega);obtain⟨x,I,o,A⟩:=cT (s:=H) (n:=r.2.2.1) (k:=4) (by decide) (by decide) (by omega);obtain⟨D,K,h,B⟩:=cT (s:=x) (n:=r.2.2.2.1) (k:=4) (by decide) (by decide) (by omega);obtain⟨z,J,g,w⟩:=cT (s:=D) (n:=r.2.2.2.2.1) (k:=1) (by decide) (by decide) (by omega);obtain⟨C,M,e,G⟩:=cT (s:=z) (n:=J0 r.2.2.2.2.2) (k:=4) (by decide) (by decide) (by omega);simp only[show((8:Nat):Int)=8 from rfl,show((4:Nat):Int)=4 from rfl,show((1:Nat):Int)=1 from rfl]at j q o h g e E F A B w G;simp only[j,q,o,h,g,e,Jv];exact⟨C,rfl,by omega⟩
theorem YW{x:aH}(h:GD x):qF x=kY x:=by
 obtain⟨v,F,D,hR⟩:=vv h;have e:qF x=HC iG wK lG mS (λx=>x.2.2.2.2.2) x:=rfl;rw[e];unfold HC kY;rw[F,D];simp only[Jv];cases v with
 |false=>rw[if_neg (show¬false=true by decide),if_pos (show Jl false=true by decide)]
 |true=>
  rw[if_pos rfl,if_neg (show¬Jl true=true by decide),JJA];have R:=hR rfl;obtain⟨y,E,A⟩:=mz x;obtain⟨f,hf,z⟩:=d7 (b:=y) (by omega);rw[E];simp only[Jv];rw[n5,hf];simp only[Jv];rw[if_pos (by unfold J0 at z A;omega)];have w: ∀e∈ent x,Ty.fit 16384 9223372036854775807 J3 e:=h.2.2.2.2.2.2;have o: ∀e∈ent x,Ju e=some true/\J0 e.2.2.2.2.2.2.1.2.2.1.2<=12/\J0 e.2.2.2.2.2.2.1.2.2.2.2<=12/\e.2.2.2.2.2.2.2=[]:=λe g=>by obtain⟨j,G⟩:=oQ.1 g;obtain⟨k,n,_⟩:=R.2.2.1 j e G;obtain⟨_,_,_,_,_,_,_,_,_,_,b1,b2,_⟩:=EF.of k n;have c:=(UI (B:=16384) (S:=9223372036854775807) (X:=e.2.2.2.2.2.2.1) (w e g).2.2.2.2.2.2.1).get b2;exact⟨k,(c.2 rfl).2.2.2.2.1,(c.2 rfl).2.2.2.2.2,b1⟩
  refine JHu R.2.1 (λe g=>?_) (λe g=>?_) (λb C=>d7 C) (ent x) 0 f rfl (zQ2 _) (by omega);obtain⟨k,n,q,r⟩:=o e g;exact JJp (Br e) (by omega) (by omega);obtain⟨k,n,q,r⟩:=o e g;exact JEj k n q (by rw[r];decide)
end Go.Am
end
section
namespace Go.Am
set_option linter.unusedVariables false
set_option maxRecDepth 20000
set_option maxHeartbeats 1000000
theorem JM8(x:Int×List UInt8×Int):uC x=(JD (x.2.1,x.2.2,x.1)).map λv=>(v,x.2.1,J1 .i64 x.2.2 x.1):=by
 obtain⟨n,s,a⟩:=x
 unfold uC JD;dsimp only;rw[NZ];cases JA (s,a,n)with
 |none=>rfl
 |some y=>rfl
theorem JK6{s:List UInt8}(h:J0 s=33):EQ s=(aW s none (some 4)).bind λk=>if neS k [80,77,82,78]=true then some (0,0,0,0,0,0,false,[])else
  (JD (s,4,8)).bind λa=>(JD (s,12,8)).bind λb=>(JD (s,20,4)).bind λc=>(JD (s,24,4)).bind λd=>(JD (s,28,1)).bind λe=>(JD (s,29,4)).bind λn=>
   some (a,b,c,d,e,n,bD n 4096,[]):=by
 unfold EQ ma me;dsimp only;have j:J0 ([80,77,82,78]:List UInt8)=4:=rfl;rw[h,if_pos (show aM 33 33=false by decide),j,if_pos (show aP 33 4=true by decide)];cases aW s none (some 4)with
 |none=>rfl
 |some y=>
  simp only[Jv];by_cases g:y=[80,77,82,78];subst g;rw[if_neg (show¬Jl (eqS [80,77,82,78] [80,77,82,78])=true by decide),if_neg (show¬neS [80,77,82,78] [80,77,82,78]=true by decide)];simp only[JM8,show J1 .i64 4 8=12 by decide,show J1 .i64 12 8=20 by decide,show J1 .i64 20 4=24 by decide,show J1 .i64 24 4=28 by decide,show J1 .i64 28 1=29 by decide];cases JD (s,4,8)with
  |none=>rfl
  |some a=>
   simp only[cH,Jv,show J1 .i64 4 8=12 by decide];cases JD (s,12,8)with
   |none=>rfl
   |some b=>
    simp only[cH,Jv,show J1 .i64 12 8=20 by decide];cases JD (s,20,4)with
    |none=>rfl
    |some c=>
     simp only[cH,Jv,show J1 .i64 20 4=24 by decide];cases JD (s,24,4)with
     |none=>rfl
     |some d=>
      simp only[cH,Jv,show J1 .i64 24 4=28 by decide];cases JD (s,28,1)with
      |none=>rfl
      |some e=>
       simp only[cH,Jv,show J1 .i64 28 1=29 by decide];cases JD (s,29,4)with
       |none=>rfl
       |some n=>rfl
  have o:neS y [80,77,82,78]=true:=by simp[neS,g]
  have q:Jl (eqS y [80,77,82,78])=true:=by simp[eqS,g,Jl]
  rw[if_pos o,if_pos q]
end Go.Am
end
section
namespace Go.Am
set_option linter.unusedVariables false
set_option maxRecDepth 20000
set_option maxHeartbeats 1000000
theorem JIy{s:List UInt8}(h: ¬J0 s=33):EQ s=some (0,0,0,0,0,0,false,[]):=by unfold EQ;rw[if_neg (by rw[<-Bool.not_eq_true,cU];exact λt=>t h)]
theorem JIS{x:List UInt8×jL}{y:jL}(h:JA x=some y): -9223372036854775808<=y.1/\y.1<=9223372036854775807:=by
 have e:Par (JA x) λy=> -9223372036854775808<=y.1/\y.1<=9223372036854775807:=by unfold JA;refine .ltf (λ_=>.gtf (λ_=>.lt (λ_=>.some (by decide)) λ_=>.gtf (λ_=>.lt (λ_=>.some (by decide)) λ_=>?_) λ_=>.some (by decide)) λ_=>.some (by decide)) λ_=>.some (by decide);refine .while (λ_=>True) trivial ?_;intro z _;unfold tR;exact .lt (λ_=>.bind λ_ _=>.bind λ_ _=>.some trivial) λ_=>.some (nT .i64 _)
 exact e _ h
theorem IZ{x:List UInt8×jL}{n:Int}(h:JD x=some n): -9223372036854775808<=n/\n<=9223372036854775807:=by unfold JD at h;obtain⟨y,g,e⟩:=aU.1 h;injection e with e;subst e;exact JIS g
theorem Ep{x:List UInt8}(hl:J0 x<=1073741824):AA x=sB x:=by
 unfold AA sB;rw[qx hl];cases hu:hX (x,0)with
 |none=>rfl
 |some g=>
  dsimp only[Option.bind_some];by_cases c:aM g.2.2 0=true;rw[if_pos c,if_pos c];rw[if_neg c,if_neg c];have P:g.2.2=0:=Decidable.of_not_not λt=>c (cU.2 t);by_cases h:J0 g.1=33;rw[JK6 h,if_pos (by rw[<-Bool.not_eq_true,cU];exact λt=>t h)];cases aW g.1 none (some 4)with
  |none=>rfl
  |some R=>
   dsimp only[Option.bind_some];by_cases D:neS R [80,77,82,78]=true;rw[if_pos D,if_pos D];rfl;rw[if_neg D,if_neg D];cases ha:JD (g.1,4,8)with
   |none=>rfl
   |some a=>
    cases hb:JD (g.1,12,8)with
    |none=>rfl
    |some b=>
     cases hc:JD (g.1,20,4)with
     |none=>rfl
     |some c=>
      cases hd:JD (g.1,24,4)with
      |none=>rfl
      |some d=>
       cases he:JD (g.1,28,1)with
       |none=>rfl
       |some e=>
        cases hf:JD (g.1,29,4)with
        |none=>rfl
        |some n=>
         dsimp only[Option.bind_some];by_cases L:4096<n;rw[if_pos (eS.2 L),if_pos (show Jl (bD n 4096)=true by rw[show bD n 4096=false by rw[<-Bool.not_eq_true,eF];omega];rfl)];rw[if_neg (λt=>L (eS.1 t)),if_neg (show¬Jl (bD n 4096)=true by rw[eF.2 (by omega)];decide)];have F:=((EO (B:=0) (S:=1073741824) (X:=(x,0)) ⟨hl,gH .i64 0⟩).get hu).2 P;refine dz (λz w=>z=w/\z.1=x/\(0<=z.2.1/\z.2.1<=J0 x)/\z.2.2.1=n/\0<=z.2.2.2.1/\z.2.2.2.2.2.2.2.2.2.2.2=([],a,b,c,d,e)/\J0 z.2.2.2.2.2.2.2.2.2.2.1<=z.2.2.2.1/\(z.2.2.2.1<=n\/z.2.2.2.1<=0)/\ ∀q∈z.2.2.2.2.2.2.2.2.2.2.1,Ty.fit 16384 9223372036854775807 J3 q) ?_ ⟨rfl,rfl,⟨F.1,F.2.1⟩,rfl,aY _,rfl,aY _,.inr (aY _),nofun⟩;rintro⟨s,p,m,i,w1,w2,w3,w4,w5,w6,l,w7⟩ w ⟨rfl,M,Y,N,U,I,Q,O,H⟩;dsimp only at M Y N U I Q O H;subst M N I;unfold xn LW;dsimp only;by_cases j:aK i m=true;rw[if_pos j,if_pos j,qx hl];have j:=cO.1 j;cases hU:hX (s,p)with
         |none=>exact .inl ⟨rfl,rfl⟩
         |some u=>
          dsimp only[Option.bind_some];by_cases y:aM u.2.2 0=true;rw[if_pos y,if_pos y];exact .inr (.inl ⟨_,rfl,rfl⟩);rw[if_neg y,if_neg y,JIY Br];have E:u.2.2=0:=Decidable.of_not_not λt=>y (cU.2 t);cases hD:kX u.1 with
          |none=>exact .inl ⟨rfl,rfl⟩
          |some v=>
           dsimp only[Option.bind_some];by_cases k:aM v.2 0=true;rw[if_pos k];exact .inr (.inl ⟨_,rfl,rfl⟩);rw[if_neg k];cases hA:JI 128 l [v.1]with
           |none=>exact .inl ⟨rfl,rfl⟩
           |some T=>
            have K:T=l++[v.1]:=(by unfold JI at hA;split at hA;injection hA with hA;exact hA.symm;cases hA);have G:=(EO (B:=0) (S:=1073741824) (X:=(s,p)) ⟨hl,J2.2 (show -9223372036854775808<=p/\p<=9223372036854775807 by omega)⟩).get hU;have V:=(gu (B:=0) (S:=1073741824) (X:=u.1) G.1.1).get hD;have o:=Jh i 1;refine .inr (.inr ⟨_,_,rfl,rfl,rfl,rfl,⟨(G.2 E).1,(G.2 E).2.1⟩,rfl,?_,rfl,?_,?_,?_⟩);dsimp only;omega;subst K;dsimp only;rw[jV,mG];omega;dsimp only;omega;subst K;intro q A;rcases zQ9.1 A with A|A;exact H q A;rw[qS.1 A];exact Ty.fit.up (by decide) (by decide) V.1
         rw[if_neg j,if_neg j];by_cases C:aK p (J0 s)=true;have J:=cO.1 C;rw[if_pos C,if_pos (cU.2 (by omega))];exact .inr (.inl ⟨_,rfl,rfl⟩);have J: ¬p<J0 s:=λt=>C (cO.2 t);rw[if_neg C,if_neg (λt=>cU.1 t (by omega))];obtain⟨v,W,Z,_⟩:=vv (r:=(a,b,c,d,e,l)) ⟨J2.2 (IZ ha),J2.2 (IZ hb),J2.2 (IZ hc),J2.2 (IZ hd),J2.2 (IZ he),by show J0 l<=16384;omega,H⟩;rw[W,Z];dsimp only[Option.bind_some];by_cases k:Jl v=true;rw[if_pos k];exact .inr (.inl ⟨_,rfl,rfl⟩);rw[if_neg k];exact .inr (.inl ⟨_,rfl,rfl⟩)
  rw[JIy h,if_neg (by rw[<-Bool.not_eq_true,cU];exact λt=>t h)];rfl
end Go.Am
end
section
namespace Go.Am
set_option linter.unusedVariables false
set_option maxRecDepth 20000
set_option maxHeartbeats 1000000
theorem vN:J0 (ent ((0,0,0,0,0,[]):aH))<=4096:=by decide
theorem mp{x:List UInt8}(hl:J0 x<=1073741824):Tot (sB x) λy=>J0 (ent y.1)<=4096:=by
 unfold sB;refine .bind ((EO (B:=0) (S:=1073741824) (X:=(x,0)) ⟨hl,gH .i64 0⟩)) λj h2=>.ne (λ_=>.some vN) λI=>.nef (λW=>?_) λ_=>.some vN;obtain⟨Y,Q,_⟩:=xV (l:=j.1) (k:=4) (by decide) (by omega);have num: ∀a k:Int, -9223372036854775808<=a/\a<=9223372036854775807-> -9223372036854775808<=k/\k<=9223372036854775807->Tot (JD (j.1,a,k)) λn=> -9223372036854775808<=n/\n<=9223372036854775807:=λa k D L=>
  (To (B:=0) (S:=1073741824) (X:=(j.1,a,k)) ⟨h2.1.1,J2.2 D,J2.2 L⟩).mono λn h=>J2.1 h
 refine .same Q (.ite (λ_=>.some vN) λ_=>.bind (num 4 8 (by decide) (by decide)) λa D=>.bind (num 12 8 (by decide) (by decide)) λb K=>.bind (num 20 4 (by decide) (by decide)) λc U=>.bind (num 24 4 (by decide) (by decide)) λd J=>.bind (num 28 1 (by decide) (by decide)) λe R=>.bind (num 29 4 (by decide) (by decide)) λn hn=>.gt (λ_=>.some vN) λhg=>?_);have A:=h2.2 I;refine Jm (τ:=Int×Int×List aA) (λq=>(x,q.1,n,q.2.1,[],0,0,0,0,0,q.2.2,[],a,b,c,d,e)) (λq=>(0<=q.1/\q.1<=J0 x)/\0<=q.2.1/\(q.2.1<=n\/q.2.1<=0)/\J0 q.2.2<=q.2.1/\ ∀z∈q.2.2,Ty.fit 16384 9223372036854775807 J3 z) (λq=>n-q.2.1) ?_ (j.2.1,0,[]) rfl ⟨⟨A.1,A.2.1⟩,aY _,.inr (aY _),aY _,nofun⟩;rintro⟨p,i,l⟩ ⟨M,V,N,H,C⟩;dsimp only at M V N H C;unfold LW;dsimp only;have o:=Jh i 1;refine .lt (λZ=>?_) λ_=>.map (P:=λy=>J0 (ent y.1)<=4096) ?_ λ_ h=>h;refine .bind ((EO (B:=0) (S:=1073741824) (X:=(x,p)) ⟨hl,J2.2 (show -9223372036854775808<=p/\p<=9223372036854775807 by omega)⟩)) λu E=>.ne (λ_=>.some vN) λG=>.bind (gu (B:=0) (S:=1073741824) (X:=u.1) E.1.1) λv T=>.ne (λ_=>.some vN) λF=>.same (IB (bytes:=128) (l:=l) (m:=[v.1]) (by rw[mG];omega) (by decide)) (.some ?_);have w:=E.2 G;refine⟨(u.2.1,J1 .i64 i 1,l++[v.1]),rfl,⟨⟨w.1,w.2.1⟩,?_,?_,?_,λz g=>?_⟩,?_,?_⟩;dsimp only;omega;dsimp only;omega;dsimp only;rw[jV,mG];omega;rcases zQ9.1 g with g|g;exact C z g;rw[qS.1 g];exact Ty.fit.up (by decide) (by decide) T.1;dsimp only;omega;omega;refine .ne (λ_=>.some vN) λ_=>?_;obtain⟨v,v1,O,v3⟩:=vv (r:=(a,b,c,d,e,l)) ⟨J2.2 D,J2.2 K,J2.2 U,J2.2 J,J2.2 R,by show J0 l<=16384;omega,C⟩;refine .same O (.not (λ_=>.some vN) λF=>.some ?_);show J0 l<=4096;omega
theorem JFH{x:aH}(h:GD x):Tot (kY x) λy=>J0 y.1<=167968836:=by
 obtain⟨v,k,j,hR⟩:=vv h;cases v with
 |false=>unfold kY;rw[j];exact .some (by decide)
 |true=>have R:=hR rfl;exact(Tk (B:=4096) (S:=9223372036854775807) (X:=x) ⟨h.1,h.2.1,h.2.2.1,h.2.2.2.1,h.2.2.2.2.1,R.2.1,λe g=>Ty.fit.up (B:=0) (by decide) (by decide) (show Ty.fit 0 9223372036854775807 J3 e from h.2.2.2.2.2.2 e g)⟩).mono λy h=>h.1
theorem JIM:LO ()=some true:=by
 have F:GD (1,1,0,0,0,[]):=⟨gH .i64 1,gH .i64 1,gH .i64 0,gH .i64 0,gH .i64 0,(show J0 ([]:List aA)<=16384 by decide),nofun⟩;have ok:kK (1,1,0,0,0,[]):=⟨⟨by decide,by decide,by decide,by decide,by decide,by decide,by decide,by decide⟩,by decide,λj e h=>by simp at h,λe h=>by simp at h,λj a b h=>by simp at h⟩;obtain⟨w,n,g⟩:=mz (1,1,0,0,0,[]);obtain⟨f,hf,k⟩:=d7 (b:=w) (by omega);have en:qF (1,1,0,0,0,[])=some (f,0):=by rw[YW F];unfold kY;rw[(OE ok).2];simp only[Jv];rw[if_neg (by decide),n];simp only[Jv];rw[hf];exact rN rfl
 unfold LO;rw[en];simp only[Jv];rw[if_pos (by rfl),if_pos (by rw[k,g];rfl),(OE ok).1];rfl
theorem nf{n:Int}(e:0<=n)(h1:n<=9223372036854775807){B S:Int}:Ty.fit B S (.i .i64) n:=J2.2 ⟨by omega,h1⟩
theorem nx{c:Jr}{n:Int}(hn: -9223372036854775808<=n/\n<=9223372036854775807)(h:Ty.fit 16384 1073741824 J4 c)(e:0<=c.2):Tot (Jc (n,c)) λy=>(0<=y.1/\y.1<=9223372036854775807/\(1<=n->y.1<n))/\Ty.fit 16384 1073741824 J4 y.2/\0<=y.2.2:=
 (Jn (B:=16384) (S:=1073741824) (X:=(n,c)) ⟨J2.2 hn,h⟩ e).mono λy h=>⟨⟨h.2.1,(J2.1 h.1.1).2,h.2.2.1⟩,h.1.2,h.2.2.2⟩
theorem nxI{c:Jr}(h:Ty.fit 16384 1073741824 J4 c)(e:0<=c.2):Tot (JP c) λy=>Ty.fit 16384 9223372036854775807 (.i .i64) y.1/\Ty.fit 16384 1073741824 J4 y.2/\0<=y.2.2:=
 (eV (B:=16384) (S:=1073741824) (X:=c) h e).mono λy h=>⟨h.1.1,h.1.2,h.2⟩
theorem JGd{l:cA}{c:Jr}(hl:J0 l.2.1<=4096)(hf:Ty.fit 16384 1073741824 JT l)(hc:Ty.fit 16384 1073741824 J4 c)(R:0<=c.2):
  Tot (KN (l,c)) λy=>GD y.1/\Ty.fit 16384 1073741824 J4 y.2/\0<=y.2.2:=by
 unfold KN;dsimp only;have nn:=Jd (l:=l.2.1);have T:Ty.fit 16384 9223372036854775807 (.i .i64) 0:=gH .i64 0;have nil:Ty.fit 16384 9223372036854775807 (.l J3) ([]:List aA):=J8 (by decide);refine .eq (λ_=>.bind (nx (by decide) hc R) λy2 h2=>.bind (nx (by decide) h2.2.1 h2.2.2) λy3 N=>.some ⟨⟨gH .i64 1,Jj,T,nf N.1.1 N.1.2.1,T,nil⟩,N.2⟩) λ_=>.bind (nx (by omega) hc R) λZ h4=>.bind (nx (J2.1 (eG (B:=0) (S:=0))) h4.2.1 h4.2.2) λy5 h5=>.bind (nx (by decide) h5.2.1 h5.2.2) λW L=>.bind (nx (by decide) L.2.1 L.2.2) λy7 U=>.bind (nx (by decide) U.2.1 U.2.2) λy8 J=>.bind (Lb (B:=4096) (S:=1073741824) (X:=(l.2.1,J1 .i64 l.1 Z.1,J1 .i64 (J1 .i64 l.1 Z.1) y5.1,W.1,J1 .i64 W.1 y7.1,y8.1)) ⟨⟨hl,λe v=>Ty.fit.up (B:=0) (by decide) (aY _) (show Ty.fit 0 1073741824 J3 e from hf.2.1.2 e v)⟩,Jj,Jj,nf L.1.1 L.1.2.1,Jj,nf J.1.1 J.1.2.1⟩) λK h9=>?_;obtain⟨⟨r,q,k,n,o,g6,M⟩,_⟩:=h9;have up: ∀{e:aA},Ty.fit 4096 1073741824 J3 e->Ty.fit 16384 9223372036854775807 J3 e:=λh=>Ty.fit.up (by decide) (by decide) h;have Q:J0 K.1.2.2.2.2.2<=4096:=g6;have G:Ty.fit 16384 9223372036854775807 (.l J3) K.1.2.2.2.2.2:=⟨by show J0 K.1.2.2.2.2.2<=16384;omega,λe v=>up (M e v)⟩;refine .bind (nx (by decide) J.2.1 J.2.2) λab E=>.gt (λ_=>.some ⟨⟨r,q,k,n,o,G⟩,E.2⟩) λ_=>.same (JKg (by omega)) (.bind (nx (by decide) E.2.1 E.2.2) λad g=>?_);generalize K.1.2.2.2.2.2=es at Q G M;have ne:=Jd (l:=es);refine .eq (λ_=>.bind (nxI g.2.1 g.2.2) λD j=>.some ⟨⟨j.1,q,k,n,o,G⟩,j.2⟩) λ_=>.eq (λ_=>.bind (nxI g.2.1 g.2.2) λD j=>.some ⟨⟨r,j.1,k,n,o,G⟩,j.2⟩) λ_=>
  .eq (λ_=>.bind (nxI g.2.1 g.2.2) λD j=>.some ⟨⟨r,q,k,j.1,o,G⟩,j.2⟩) λ_=>.eq (λ_=>.bind (nx (by decide) g.2.1 g.2.2) λD j=>.some ⟨⟨r,q,k,n,eG,G⟩,j.2⟩) λ_=>
  .eq (λ_=>.gt (λcl=>.bind (nx (by omega) g.2.1 g.2.2) λV z=>?_) λ_=>.some ⟨⟨r,q,k,n,o,G⟩,g.2⟩) λ_=>.eq (λ_=>.gt (λcl=>.bind (nx (by omega) g.2.1 g.2.2) λx A=>?_) λ_=>.some ⟨⟨r,q,k,n,o,G⟩,g.2⟩) λ_=>.some ⟨⟨r,q,k,n,o,G⟩,g.2⟩
 have F:=z.1.1;have b1:=z.1.2.2 (by omega);have hn:J0 es=es.length:=rfl;refine .bind (gT (l:=es) F b1) λ_ _=>.bind (pH (t:=J3) G F b1) λI O=>?_;have fe:Ty.fit 16384 1073741824 J3 I:=Ty.fit.up (by decide) (aY _) (M I O.2);refine .bind (Zy (B:=16384) (S:=1073741824) (X:=(I,V.2)) ⟨fe,z.2.1⟩ z.2.2) λac H=>.bind (gT (l:=es) F b1) λ_ _=>.bind (pH (t:=J3) G F b1) λ_ _=>.some ⟨⟨r,q,k,n,o,nV G (Ty.fit.up (by decide) (by decide) H.1.1)⟩,H.1.2,H.2⟩;have F:=A.1.1;have b1:=A.1.2.2 (by omega);have hn:J0 es=es.length:=rfl;have P:FD x.1 es.length=some x.1.toNat:=by unfold FD;rw[if_pos (by omega)]
 refine .same P (.bind (nx (by omega) A.2.1 A.2.2) λw C=>?_);have b2:=C.1.1;have b3:=C.1.2.2 (by omega);have Y:FN w.1 es.length=some w.1.toNat:=by unfold FN;rw[if_pos (by omega)]
 have a0:FU 128 es x.1.toNat (es.drop w.1.toNat)=some (es.take x.1.toNat++es.drop w.1.toNat):=by unfold FU;rw[if_pos ⟨by omega,PB (by rw[lU];omega) (by decide)⟩]
 refine .same Y (.same a0 (.some ⟨⟨r,q,k,n,o,?_,λe v=>?_⟩,C.2⟩));show J0 (es.take x.1.toNat++es.drop w.1.toNat)<=16384;rw[jV];unfold J0;rw[lW,lU];omega;rcases zQ9.1 v with v|v;exact G.2 e (FB v);exact G.2 e (zQ7 v)
end Go.Am
end
section
namespace Go.Am
set_option linter.unusedVariables false
set_option maxRecDepth 20000
set_option maxHeartbeats 1000000
theorem JIg{l:List Int}{y:Jr}(e:rO (l,400)=some y):y.2=0/\J0 y.1<=400:=by
 have h:Par (rO (l,400)) λy=>y.2=0/\J0 y.1<=400:=(by unfold rO;dsimp only;refine .gt (λc=>.bind λa g=>.some ⟨rfl,?_⟩) λc=>.some ⟨rfl,by show J0 l<=400;omega⟩;obtain⟨r,j,_,h2⟩:=xV (l:=l) (k:=400) (by decide) (by omega);rw[j]at g;injection g with g;subst g;show J0 r<=400;omega);exact h _ e
theorem JEl{x0:List Int}{y:Jr}(w0:Ty.inR (.l (.i .u8)) x0)(h:rO (x0,400)=some y):Ty.fit 16384 1073741824 J4 y/\0<=y.2:=by
 have j:Ty.fit (J0 x0) 0 (.l (.i .u8)) x0:=⟨aY _,λa e=>by have:=w0.2 a e;rw[NP];simpa[Ty.inR,IntKind.min,IntKind.max,IntKind.signed,IntKind.bits]using this⟩;have k:0<=J0 x0:=Jd;have g:=(rk (B:=J0 x0) (S:=0) (X:=(x0,400)) ⟨j,gH .i64 400⟩ (show(0:Int)<=400 by decide)).get h;obtain⟨n,o⟩:=JIg h;exact⟨⟨⟨by show J0 y.1<=16384;omega,λa e=>g.1.1.2 a e⟩,g.1.2⟩,by omega⟩
theorem JEF{x0:List Int}(w0:Ty.inR (.l (.i .u8)) x0):Tot (rO (x0,400)) λy=>Ty.fit 16384 1073741824 J4 y/\0<=y.2:=by
 have g:Ty.fit (J0 x0) 0 (.l (.i .u8)) x0:=⟨aY _,λa h=>by have:=w0.2 a h;rw[NP];simpa[Ty.inR,IntKind.min,IntKind.max,IntKind.signed,IntKind.bits]using this⟩;have j:0<=J0 x0:=Jd;obtain⟨y,e,_⟩:=rk (B:=J0 x0) (S:=0) (X:=(x0,400)) ⟨g,gH .i64 400⟩ (show(0:Int)<=400 by decide);exact⟨y,e,JEl w0 e⟩
theorem JKl{l:cA}(h:dX l=some true):(1<=l.1/\l.1<=1099511627776)/\J0 l.2.1<=4096/\ ∀(i:Nat) e,l.2.1[i]?=some e->e.1=l.1+i/\Ju e=some true:=by
 have A:Par (dX l) λy=>y=true->(1<=l.1/\l.1<=1099511627776)/\J0 l.2.1<=4096/\ ∀(i:Nat) e,l.2.1[i]?=some e->e.1=l.1+i/\Ju e=some true:=by
  unfold dX;refine .ltf (λE=>.gtf (λF=>.gtf (λG=>.ltf (λP=>.bind λQ _=>.gt (λ_=>.some nofun) λ_=>?_) λ_=>.some nofun) λ_=>.some nofun) λ_=>.some nofun) λ_=>.some nofun;have hL:J0 l.2.1=l.2.1.length:=rfl;refine .while (λz=>z.2=l/\0<=z.1/\z.1<=J0 l.2.1/\ ∀(i:Nat) e,(i:Int)<z.1->l.2.1[i]?=some e->e.1=l.1+i/\Ju e=some true) ⟨rfl,aY _,by show(0:Int)<=_;omega,λi e hi=>by omega⟩ ?_;rintro⟨i,g⟩ ⟨rfl,w,h1,h2⟩;have L:J0 g.2.1=g.2.1.length:=rfl;have J: ¬g.1<1:=E;have K: ¬(1099511627776:Int)<g.1:=F;have M: ¬(4096:Int)<J0 g.2.1:=G;unfold WO;refine .lt (λq=>.bind λB r=>.nef (λC=>.bind λN n=>.bind λO H=>.not (λ_=>.some nofun) λD=>.some ?_) λ_=>.some nofun) λq=>.some λ_=>⟨⟨by omega,by omega⟩,by omega,λj e o=>h2 j e (by have:j<g.2.1.length:=(hE.1 o).1;simp only at q h1⊢;omega) o⟩;simp only at w h1 h2 q C r n;have S:=Jh g.1 i;have R:=Jh i 1;rw[r]at n;injection n with n;subst n;refine⟨rfl,by show 0<=J1 .i64 i 1;omega,by show J1 .i64 i 1<=J0 g.2.1;omega,λj e I o=>?_⟩;by_cases v:(j:Int)<i;exact h2 j e v o;have x:(j:Int)=i:=(by have:(j:Int)<J1 .i64 i 1:=I;omega);have k:g.2.1[j]?=some B:=by have:idx g.2.1 i=some B:=r;unfold idx at this;rw[if_pos w]at this;rw[<-this,<-x];rfl
  rw[o]at k;injection k with k;subst k D;exact⟨by show e.1=g.1+j;omega,H⟩
 exact A _ h rfl
def HI(es:List aA):Prop:=J0 es<=4096/\ ∃F:Int,∀(i:Nat) e,es[i]?=some e->e.1=F+i/\Ju e=some true
theorem JCp{x y:jI}(h:mK x=some y):HI y.1.2.1:=by
 have g:Par (mK x) λy=>HI y.1.2.1:=by unfold mK;have z:HI ([]:List aA):=⟨by decide,0,λi e j=>by simp at j⟩;refine .bind λv k=>.not (λ_=>.some z) λc=>.bind λo _=>.gt (λ_=>.some z) λ_=>.some ?_;subst c;obtain⟨_,h2,n⟩:=JKl k;exact⟨h2,_,n⟩
 exact g _ h
theorem Km{x:lX}{y:Int×cA×Jr}(h:wF x=some y):HI y.2.1.2.1:=by
 have e:Par (wF x) λy=>HI y.2.1.2.1:=by unfold wF;exact .bind λk _=>.bind λj _=>.bind λn g=>.some (JCp g)
 exact e _ h
end Go.Am
end
section
namespace Go.Am
set_option linter.unusedVariables false
set_option maxRecDepth 20000
set_option maxHeartbeats 1000000
section
theorem QV{n i:Nat}(hn:n<2^64):J3q (n:Int) i=((n/2^(8*i)%256:Nat):Int):=by show((IntKind.wrap .u64 (n:Int)).fdiv (2^(8*i)))%256=_;rw[Int.fdiv_eq_ediv_of_nonneg _ (Int.le_of_lt (Int.pow_pos (by decide))),uP (by omega) (by omega)];simp
theorem dc{n:Int}{k i:Nat}(h:i<k):(J0v n k)[i]?=some (UInt8.ofNat (J3q n i).toNat):=by simp[J0v,toStr,h]
theorem gG{s r:List UInt8}{n:Int}{k:Nat}(h1:1<=k)(F:k<=8)(h:Jx (s,n,(k:Int))=some r):r=s++J0v n k:=by
 have v:Par (Jx (s,n,(k:Int))) λr=>r=s++J0v n k:=by
  unfold Jx;refine .ltf (λ_=>.gt (λc=>by dsimp only at c;omega) λ_=>?_) λc=>by dsimp only at c;omega
  refine .while (λz=>z.2.1=n/\z.2.2.1=(k:Int)/\ ∃j:Nat,z.2.2.2=(j:Int)/\j<=k/\z.1=s++J0v n j) ⟨rfl,rfl,0,rfl,zQ2 _,by simp[J0v,toStr]⟩ ?_;rintro⟨o,w,D,B⟩ ⟨rfl,rfl,j,rfl,H,e⟩;dsimp only at e;subst e;unfold VY;dsimp only;have E:=Jh (j:Int) 1;have C:=yG 8 (j:Int);refine .lt (λc=>.bind λx q=>.bind λG g=>.some ⟨rfl,rfl,j+1,by dsimp only;omega,by omega,?_⟩) λc=>.some (by rw[show j=k by omega]);have A:aT .u8 x=J3q w j:=by
   have y:aT .u64 (cF .i64 8 (j:Int))=((8*j:Nat):Int):=by unfold aT;rw[uP (by omega) (by omega)];omega
   rw[y]at q;simp only[iB]at q;rw[if_neg (by omega)]at q;injection q with q;rw[<-q];have:min (((8*j:Nat):Int)).toNat IntKind.u64.bits=8*j:=by simp only[Int.toNat_natCast];exact Nat.min_eq_left (by show 8*j<=64;omega)
   rw[this];rfl
  rw[A]at g;dsimp only;unfold bQ at g;split at g;injection g with g;rw[<-g,Jrc,hH];rfl;cases g
 exact v _ h
def At(s w:List UInt8)(p:Int):Prop:= ∃pre e,s=pre++(w++e)/\(pre.length:Int)=p
theorem At.left{s a b:List UInt8}{p:Int}(h:At s (a++b) p):At s a p:=by obtain⟨pre,g,e,h⟩:=h;exact⟨pre,b++g,by rw[e];simp,h⟩
theorem At.right{s a b:List UInt8}{p:Int}(h:At s (a++b) p):At s b (p+a.length):=by obtain⟨pre,g,e,h⟩:=h;exact⟨pre++a,g,by rw[e];simp,by rw[cN];omega⟩
theorem At.bnd{s w:List UInt8}{p:Int}(h:At s w p):0<=p/\p+w.length<=s.length:=by obtain⟨pre,g,e,h⟩:=h;subst e;simp only[cN];omega
theorem At.slc{s w r:List UInt8}{p q:Int}(h:At s w p)(hq:q=p+w.length)(e:aW s (some p) (some q)=some r):r=w:=by
 obtain⟨pre,g,rfl,rfl⟩:=h;obtain⟨r',e',d,_⟩:=rD (l:=pre++(w++g)) (j:=pre.length) (k:=q) (by omega) (by omega) (by unfold J0;simp only[cN];omega);rw[e']at e;injection e with e;subst e;rw[d,show(q-(pre.length:Int)).toNat=w.length by omega];simp
theorem At.all{s:List UInt8}:At s s 0:=⟨[],[],by simp,rfl⟩
theorem GZ{s:List UInt8}{p:Int}{n k:Nat}(h:At s (J0v n k) p)(h1:1<=k)(M:k<=8)(hn:n<2^(8*k))(H:n<2^63)(hl:s.length<=4611686018427387904):
  JA (s,p,(k:Int))=some ((n:Int),0):=by
 have r:=h.bnd;rw[JC]at r;obtain⟨pre,D,G,rfl⟩:=h;have w:Tot (JA (s,(pre.length:Int),(k:Int))) λy=>y=((n:Int),0):=by
  unfold JA;have o:=bE (J0 s) (pre.length:Int);have I:J0 s=(s.length:Int):=rfl;refine .ltf (λ_=>.gtf (λ_=>.lt (λc=>by dsimp only at c;omega) λ_=>.gtf (λ_=>.lt (λc=>by dsimp only at c;omega) λ_=>?_) λc=>by dsimp only at c;omega) λc=>by dsimp only at c;omega) λc=>by dsimp only at c;omega
  refine Jm (τ:=Nat) (λj=>(s,(pre.length:Int),(k:Int),((n%2^(8*j):Nat):Int),(j:Int))) (λj=>j<=k) (λj=>(k:Int)-j) ?_ 0 (by simp[Nat.mod_one]) (zQ2 _);intro j N;unfold tR;dsimp only;have K:=Jh (j:Int) 1;have J:=yG 8 (j:Int);have L:=Jh (pre.length:Int) (j:Int);refine .lt (λc=>?_) λc=>.some ?_;have F:J1 .i64 (pre.length:Int) (j:Int)=((pre.length+j:Nat):Int):=by omega
  have g:pre.length+j<s.length:=by omega
  have r:(s[pre.length+j]'g).toNat=n/2^(8*j)%256:=by
   have q:s[pre.length+j]?=some (UInt8.ofNat (J3q (n:Int) j).toNat):=by rw[G,mX (by omega),Nat.add_sub_cancel_left,qK (by rw[JC];omega),dc (by omega)]
   rw[aS g]at q;injection q with q;have C:=Jgt (n:Int) j;rw[<-q,QV (by omega)]at C;omega
  have z:n/2^(8*j)%256<256:=Nat.mod_lt _ (by omega);have B:aT .u64 (cF .i64 8 (j:Int))=((8*j:Nat):Int):=by unfold aT;rw[uP (by omega) (by omega)];omega
  have E:kD .u64 (aT .u64 (((s[pre.length+j]'g).toNat:Nat):Int)) ((8*j:Nat):Int)=some (IntKind.wrap .u64 (((n/2^(8*j)%256:Nat):Int)*2^(8*j))):=by
   unfold aT;rw[r,uP (by omega) (by omega)];simp only[kD];rw[if_neg (by omega)];have:min (((8*j:Nat):Int)).toNat IntKind.u64.bits=8*j:=by simp only[Int.toNat_natCast];exact Nat.min_eq_left (by show 8*j<=64;omega)
   rw[this]
  have v:=B3 (x:=n%2^(8*j)) (b:=n/2^(8*j)%256) (j:=j) (by omega) (Nat.mod_lt _ (Nat.two_pow_pos _)) z;have A:n%2^(8*j)+n/2^(8*j)%256*2^(8*j)=n%2^(8*(j+1)):=by rw[Nat.mul_add,Nat.pow_add,Nat.mod_mul,SI (n/2^(8*j)%256)]
  rw[A]at v;rw[F,GJ g,Jv,B,E,Jv,v];exact .some ⟨j+1,by rw[show J1 .i64 (j:Int) 1=((j+1:Nat):Int) by omega],by omega,by omega,by omega⟩;rw[show j=k by omega,Nat.mod_eq_of_lt hn];unfold aT;rw[TR (by omega) (by omega)]
 obtain⟨y,e,d⟩:=w;rw[e,d]
end
theorem Bg{x y:Nat}(h:x^^^y=0):x=y:=by
 have e:x=(x^^^y)^^^y:=by rw[Nat.xor_assoc,Nat.xor_self,Nat.xor_zero]
 rw[e,h,Nat.zero_xor]
theorem ku{a b c:Nat}(h:a^^^b=a^^^c):b=c:=by
 have e: ∀z,z=a^^^(a^^^z):=λz=>by rw[<-Nat.xor_assoc,Nat.xor_self,Nat.zero_xor]
 rw[e b,h,<-e c]
theorem Cb{a b c:Nat}(h:b^^^a=c^^^a):b=c:=ku (a:=a) (by rw[Nat.xor_comm a b,h,Nat.xor_comm])
theorem JJc{z:Nat}(h:z<2^32)(e:gb z=0):z=0:=by
 unfold gb at e;split at e;have h1:z/2=P32:=Bg e;have h2:P32=2197175160:=rfl;omega;omega
theorem JL6{x y:Nat}(hx:x<2^32)(hy:y<2^32)(h:gb x=gb y):x=y:=by
 have h1:gb (x^^^y)=0:=by rw[B6,h,Nat.xor_self]
 exact Bg (JJc (Nat.xor_lt_two_pow hx hy) h1)
theorem YF: ∀{j x y:Nat},x<2^32->y<2^32->gN j x=gN j y->x=y|0,_,_,_,_,h=>h|j+1,_,_,hx,hy,h=>JL6 hx hy (YF (j:=j) (yF hx) (yF hy) h)
theorem nm: ∀{l:List UInt8} {x y:Nat},x<2^32->y<2^32->lS l x=lS l y->x=y|[],_,_,_,_,h=>h|b::r,x,y,g,e,h=>by have h1:=nm (l:=r) (nI (Nat.xor_lt_two_pow g (iZ b))) (nI (Nat.xor_lt_two_pow e (iZ b))) h;have h2:=YF (Nat.xor_lt_two_pow g (iZ b)) (Nat.xor_lt_two_pow e (iZ b)) h1;exact Cb h2
theorem ms: ∀{l:List UInt8} {k:Nat} {c:UInt8} {x:Nat} (h:k<l.length),x<2^32->l[k]≠c->lS (l.set k c) x≠lS l x|[],_,_,_,h,_,_=>by simp at h|b::r,0,c,x,_,e,g=>by intro h;have h1:=nm (l:=r) (nI (Nat.xor_lt_two_pow e (iZ c))) (nI (Nat.xor_lt_two_pow e (iZ b))) h;have h2:=YF (Nat.xor_lt_two_pow e (iZ c)) (Nat.xor_lt_two_pow e (iZ b)) h1;have j:=ku h2;exact g (UInt8.toNat_inj.1 j).symm|b::r,k+1,c,x,h,e,g=>by intro h1;exact ms (l:=r) (k:=k) (by simpa using h) (nI (Nat.xor_lt_two_pow e (iZ b))) (by simpa using g) h1
theorem JJ5{l:List UInt8}{k:Nat}{c:UInt8}(h:k<l.length)(hc:l[k]≠c):crc (l.set k c)≠crc l:=by intro h1;exact ms h (by decide) hc (Cb h1)
theorem JLM(l:List UInt8)(h:l.length=4): ∃n:Nat,n<2^32/\J0v (n:Int) 4=l:=by
 match l,h with
 |[a,b,c,d],_=>
  have w:=UInt8.toNat_lt a;have x:=UInt8.toNat_lt b;have y:=UInt8.toNat_lt c;have v:=UInt8.toNat_lt d;refine⟨a.toNat+256*b.toNat+65536*c.toNat+16777216*d.toNat,by omega,?_⟩;generalize z:a.toNat+256*b.toNat+65536*c.toNat+16777216*d.toNat=n;have g:n<2^64:=by omega
  have e: ∀(i:Nat) (u:UInt8),n/2^(8*i)%256=u.toNat->UInt8.ofNat (J3q (n:Int) i).toNat=u:=by intro i u r;rw[QV g,Int.toNat_natCast,r,UInt8.ofNat_toNat]
  have q:=e 0 a (by simp only[Nat.mul_zero,Nat.pow_zero,Nat.div_one];omega);have j:=e 1 b (by simp only[Nat.reduceMul,Nat.reducePow];omega);have k:=e 2 c (by simp only[Nat.reduceMul,Nat.reducePow];omega);have o:=e 3 d (by simp only[Nat.reduceMul,Nat.reducePow];omega);show [UInt8.ofNat (J3q (n:Int) 0).toNat,UInt8.ofNat (J3q (n:Int) 1).toNat,UInt8.ofNat (J3q (n:Int) 2).toNat,UInt8.ofNat (J3q (n:Int) 3).toNat]=_;rw[q,j,k,o]
theorem qg{a b:Nat}(ha:a<2^32)(hb:b<2^32)(h:J0v (a:Int) 4=J0v (b:Int) 4):a=b:=by
 have e: ∀i:Nat,i<4->a/2^(8*i)%256=b/2^(8*i)%256:=by
  intro i hi;have h2:(J0v (a:Int) 4)[i]?=(J0v (b:Int) 4)[i]?:=by rw[h]
  rw[dc hi,dc hi]at h2;injection h2 with h2;have g:=congrArg (λu:UInt8=>(u.toNat:Int)) h2;simp only[Jgt]at g;rw[QV (by omega),QV (by omega)]at g;omega
 have o:=e 0 (by omega);have j:=e 1 (by omega);have k:=e 2 (by omega);have n:=e 3 (by omega);simp only[Nat.mul_zero,Nat.pow_zero,Nat.div_one,Nat.reduceMul,Nat.reducePow]at o j k n;omega
end Go.Am
end
section
namespace Go.Am
set_option linter.unusedVariables false
set_option maxRecDepth 20000
set_option maxHeartbeats 1000000
section
def kG(c:fM):Prop:=J0 c.2<=12/\(c.1=false->c.2=[])
def EV(e:aA):Prop:=(1<=e.1/\e.1<=1099511627776)/\(0<=e.2.2.2.1/\e.2.2.2.1<e.1)/\(0<=e.2.2.2.2.1/\e.2.2.2.2.1<e.1)/\(0<=e.2.2.2.2.2.1/\e.2.2.2.2.2.1<e.1)/\(1<=e.2.1/\e.2.1<=8)/\(0<=e.2.2.1/\e.2.2.1<=1073741824)/\(0<=bR e/\bR e<64)/\(0<=e.2.2.2.2.2.2.1.2.1/\e.2.2.2.2.2.2.1.2.1<16)/\kG e.2.2.2.2.2.2.1.2.2.1/\kG e.2.2.2.2.2.2.1.2.2.2/\J0 e.2.2.2.2.2.2.2<=8192
theorem mw{c:fM}(h:fQ c=some true):kG c:=by
 have e:Par (fQ c) λy=>y=true->kG c:=by
  unfold fQ;refine .ite (λj=>.itf (λg=>.some ?_) λg=>.some ?_) λj=>.some ?_
  all_goals grind [kG,eqS,bD,J0]
 exact e _ h rfl
theorem EV.of{e:aA}(h:Ju e=some true):EV e:=by
 obtain⟨H,B,A,G,F,E,⟨w,x,r,o⟩,j⟩:=e;have g: ∀{c:fO} {b:Bool},hW c=some b->b=true->(0<=c.1/\c.1<64)/\(0<=c.2.1/\c.2.1<16)/\kG c.2.2.1/\kG c.2.2.2:=fun{c b} D L=>by
  have C:Par (hW c) λy=>y=true->(0<=c.1/\c.1<64)/\(0<=c.2.1/\c.2.1<16)/\kG c.2.2.1/\kG c.2.2.2:=by unfold hW;refine .ge (λK=>.lt (λM=>.ge (λg=>.lt (λO=>.bind λa P=>.ite (λJ=>.bind λb D=>.some λI=>?_) λ_=>.some nofun) λ_=>.some nofun) λ_=>.some nofun) λ_=>.some nofun) λ_=>.some nofun;subst J;subst I;exact⟨⟨K,M⟩,⟨g,O⟩,mw P,mw D⟩
  exact C _ D L
 have z:kG (false,[]):=⟨show(0:Int)<=12 by decide,λ_=>rfl⟩;have W:Par (mJ (H,B,A,G,F,E,(w,x,r,o),j)) λy=>y.2=true->y.1=(H,B,A,G,F,E,(w,x,r,o),j)->(1<=B/\B<=8)/\(0<=A/\A<=1073741824)/\(0<=w/\w<64)/\(0<=x/\x<16)/\kG r/\kG o/\J0 j<=8192:=by
  unfold mJ;dsimp only
  repeat' first
   |refine .eq (λ_=>?_) λ_=>?_
   |refine .ge (λ_=>?_) λ_=>?_
   |refine .le (λ_=>?_) λ_=>?_
   |refine .gt (λ_=>?_) λ_=>?_
   |exact .some λh=>absurd h Bool.false_ne_true
   |refine .bind λv q=>.ite (λk=>?_) λ_=>.some nofun
   |refine .bind λv q=>.eq (λ_=>.ite (λk=>?_) λ_=>.some nofun) λ_=>.ite (λk=>?_) λ_=>.some nofun
  all_goals refine .some λc Q=>?_
  all_goals simp only[Prod.mk.injEq,true_and,and_true]at Q
  all_goals simp only[eF,cO,eS]at c
  all_goals first
   |exact⟨by omega,by omega,(g q k).1,(g q k).2.1,(g q k).2.2.1,(g q k).2.2.2,by rw[<-Q];exact(by decide:(0:Int)<=8192)⟩
   |exact⟨by omega,by omega,(g q k).1,(g q k).2.1,(g q k).2.2.1,(g q k).2.2.2,by rw[<-Q.2];exact(by decide:(0:Int)<=8192)⟩
   |(have Z:r=(false,[]):=by grind
     have S:o=(false,[]):=by grind
     have R:J0 j<=8192:=by
      first
       |exact c
       |(have:j=[]:=by grind
         rw[this];exact(by decide:(0:Int)<=8192))
     rw[Z,S];exact⟨by omega,by omega,by omega,by omega,z,z,R⟩)
 have N: ∀{n l:Int} {b:Bool},jD (n,l)=some b->b=true->0<=n/\n<l:=fun{n l b} D L=>QF (by rw[<-L];exact D);have C:Par (Ju (H,B,A,G,F,E,(w,x,r,o),j)) λy=>y=true->EV (H,B,A,G,F,E,(w,x,r,o),j):=by unfold Ju;exact .bind λa P=>.ite (λK=>.ite (λM=>.ge (λg=>.le (λO=>.bind λb1 U=>.ite (λJ=>.bind λb2 T=>.ite (λI=>.bind λb3 V=>.some λY=>⟨⟨g,O⟩,N U J,N T I,N V Y,W _ P K (dJ.1 M)⟩) λ_=>.some nofun) λ_=>.some nofun) λ_=>.some nofun) λ_=>.some nofun) λ_=>.some nofun) λ_=>.some nofun
 exact C _ h rfl
end
section
def nN(c:fM):List UInt8:=if c.1=false then J0v 255 1 else J0v (J0 c.2) 1++c.2
def lT(e:aA):List UInt8:=J0v e.1 8++(J0v e.2.1 1++(J0v e.2.2.1 4++(J0v e.2.2.2.1 8++(J0v e.2.2.2.2.1 8++(J0v e.2.2.2.2.2.1 8++(J0v (bR e) 4++(J0v e.2.2.2.2.2.2.1.2.1 1++(nN e.2.2.2.2.2.2.1.2.2.1++(nN e.2.2.2.2.2.2.1.2.2.2++(J0v (J0 e.2.2.2.2.2.2.2) 4++e.2.2.2.2.2.2.2))))))))))
theorem HO{a b r:List UInt8}(h:bQ a b=some r):r=a++b:=by
 unfold bQ at h;split at h;injection h with h;exact h.symm;cases h
theorem B7{s r:List UInt8}{c:fM}(h:rT (s,c)=some r):r=s++nN c:=by
 have e:Par (rT (s,c)) λr=>r=s++nN c:=(by unfold rT nN;refine .not (λd=>.bind λo h2=>.some ?_) λd=>.bind λn j=>.bind λq g=>.some ?_;rw[gG (k:=1) (by decide) (by decide) h2,if_pos d];rw[HO g,gG (k:=1) (by decide) (by decide) j,if_neg (by rw[show c.1=true from d];decide),hH]);exact e _ h
theorem JMi{e:aA}{y:List UInt8×Int}(h:kW e=some y)(hv:Ju e=some true):y=(lT e,0):=by
 have w:Par (kW e) λy=>y=(lT e,0):=(by unfold kW;refine .bind λv g=>.not (λc=>?_) λ_=>.bind λL E=>.bind λQ C=>.bind λN D=>.bind λO A=>.bind λK x=>.bind λM z=>.bind λP B=>.bind λF o=>.bind λJ r=>.bind λI q=>.bind λG j=>.bind λH n=>.some ?_;rw[hv]at g;injection g with g;subst g;cases c;rw[HO n,gG (k:=4) (by decide) (by decide) j,B7 q,B7 r,gG (k:=1) (by decide) (by decide) o,gG (k:=4) (by decide) (by decide) B,gG (k:=8) (by decide) (by decide) z,gG (k:=8) (by decide) (by decide) x,gG (k:=8) (by decide) (by decide) A,gG (k:=4) (by decide) (by decide) D,gG (k:=1) (by decide) (by decide) C,gG (k:=8) (by decide) (by decide) E];unfold lT;simp only[hH,uM];rfl);exact w _ h
variable {s:List UInt8} {p:Int}
theorem pE{n:Int}{k:Nat}(b:Nat)(h:At s (J0v n k) p)(hl:s.length<=1000000)(q:0<=n)(hn:n<b)(hb:b=2^(8*k):=by rfl)(h1:1<=k:=by decide)(j:k<=8:=by decide)(r:n<9223372036854775808:=by omega):Jo ((k:Int),s,p,0)=some (n,s,p+k,0):=by have e:=h.bnd;rw[JC]at e;obtain⟨m,rfl⟩:=Int.eq_ofNat_of_zero_le q;have g:=GZ h h1 j (by omega) (by omega) (by omega);have o:=Jh p (k:Int);unfold Jo;dsimp only;rw[if_neg (by decide),g];dsimp only[Option.bind_some];rw[if_neg (by decide),show J1 .i64 p (k:Int)=p+k by omega]
theorem A9{w:List UInt8}(h:At s w p)(hl:s.length<=1000000):lJ (J0 w,s,p,0)=some (w,s,p+w.length,0):=by
 have k:=h.bnd;have o:=Jh p (J0 w);have q:=bE (J0 s) p;have n:=bE (J1 .i64 p (J0 w)) (J0 w);have v:J0 w=w.length:=rfl;have x:J0 s=s.length:=rfl;have g:Tot (lJ (J0 w,s,p,0)) λy=>y=(w,s,p+w.length,0):=by unfold lJ;dsimp only;refine .ne (λc=>absurd rfl c) λ_=>.gt (λc=>by omega) λ_=>?_;rw[show JL .i64 (J1 .i64 p (J0 w)) (J0 w)=p by omega,show J1 .i64 p (J0 w)=p+w.length by omega];refine .bind (rD (l:=s) k.1 (by omega) (by omega)).eqn λr j=>.some ?_;rw[h.slc rfl j.2]
 obtain⟨y,e,d⟩:=g;rw[e,d]
theorem A4{c:fM}(h:At s (nN c) p)(hc:kG c)(hl:s.length<=1000000):oC (s,p,0)=some (c,s,p+(nN c).length,0):=by
 unfold nN at h⊢;unfold oC;obtain⟨b,d⟩:=c;obtain⟨h1,h2⟩:=hc;dsimp only at h h1 h2⊢;have j:=Jd (l:=d);cases b with
 |false=>rw[if_pos rfl]at h⊢;have g:=pE (k:=1) 256 h hl (by decide) (by decide);rw[show Jo (1,s,p,0)=_ from g,h2 rfl];rfl
 |true=>rw[if_neg (by decide)]at h⊢;have g:=pE (k:=1) 256 h.left hl (by omega) (by omega);have e:=A9 h.right hl;rw[show Jo (1,s,p,0)=_ from g];dsimp only[Option.bind_some];rw[if_pos (by decide),if_neg (by rw[nS];omega),if_neg (by rw[eS];omega)];rw[JC]at e;rw[e];dsimp only[Option.bind_some];rw[cN,JC,Int.natCast_add,Int.add_assoc]
theorem GP{e:aA}(hv:Ju e=some true):kX (lT e)=some (e,0)/\(lT e).length<=8300:=by
 obtain⟨P,Q,O,R,S,J,K,N,v,j,I⟩:=EV.of hv;have n: ∀{c:fM},kG c->(nN c).length<=13:=fun{c} G=>by
  unfold nN;have:=G.1;unfold J0 at this;split;rw[JC];decide;rw[cN,JC];omega
 have L:=n v;have M:=n j;have hl:(lT e).length=46+(nN e.2.2.2.2.2.2.1.2.2.1).length+(nN e.2.2.2.2.2.2.1.2.2.2).length+e.2.2.2.2.2.2.2.length:=by unfold lT;simp only[cN,JC];omega
 have H:J0 e.2.2.2.2.2.2.2=e.2.2.2.2.2.2.2.length:=rfl;refine⟨?_,by omega⟩;have h:(lT e).length<=1000000:=by omega
 generalize F:lT e=s at hl h;have g:At s (lT e) 0:=by rw[F];exact .all
 unfold lT at g;have E:=pE (k:=8) 18446744073709551616 g.left h (by omega) (by omega);replace g:=g.right;simp only[JC]at g;have D:=pE (k:=1) 256 g.left h (by omega) (by omega);replace g:=g.right;simp only[JC]at g;have C:=pE (k:=4) 4294967296 g.left h (by omega) (by omega);replace g:=g.right;simp only[JC]at g;have A:=pE (k:=8) 18446744073709551616 g.left h (by omega) (by omega);replace g:=g.right;simp only[JC]at g;have B:=pE (k:=8) 18446744073709551616 g.left h (by omega) (by omega);replace g:=g.right;simp only[JC]at g;have w:=pE (k:=8) 18446744073709551616 g.left h (by omega) (by omega);replace g:=g.right;simp only[JC]at g;have y:=pE (k:=4) 4294967296 g.left h (by omega) (by omega);replace g:=g.right;simp only[JC]at g;have z:=pE (k:=1) 256 g.left h (by omega) (by omega);replace g:=g.right;simp only[JC]at g;have x:=A4 g.left v h;replace g:=g.right;have r:=A4 g.left j h;replace g:=g.right;have o:=pE (k:=4) 4294967296 g.left h (by omega) (by omega);replace g:=g.right;simp only[JC]at g;have q:=A9 g h;unfold kX;rw[show Jo (8,s,0,0)=_ from E,Jv];rw[show Jo (1,s,_,0)=_ from D,Jv];rw[show Jo (4,s,_,0)=_ from C,Jv];rw[show Jo (8,s,_,0)=_ from A,Jv];rw[show Jo (8,s,_,0)=_ from B,Jv];rw[show Jo (8,s,_,0)=_ from w,Jv];rw[show Jo (4,s,_,0)=_ from y,Jv];rw[show Jo (1,s,_,0)=_ from z,Jv];rw[x,Jv];rw[r,Jv];rw[show Jo (4,s,_,0)=_ from o,Jv];rw[q,Jv];dsimp only;rw[if_neg (by decide),if_neg (by rw[cU,Decidable.not_not];unfold J0;omega)];rw[show Ju (e.1,e.2.1,e.2.2.1,e.2.2.2.1,e.2.2.2.2.1,e.2.2.2.2.2.1,(bR e,e.2.2.2.2.2.2.1.2.1,e.2.2.2.2.2.2.1.2.2.1,e.2.2.2.2.2.2.1.2.2.2),e.2.2.2.2.2.2.2)=some true from hv];rfl
end
section
variable {s r w:List UInt8} {p:Int}
theorem lf{c:Int}(h:kT s=some c):0<=c/\c<4294967296:=by
 have e:Par (kT s) λc=>0<=c/\c<4294967296:=(by unfold kT;refine .while (λ_=>True) trivial λz _=>?_;unfold UG;refine .lt (λ_=>.bind λ_ _=>.while (λ_=>True) trivial λz _=>?_) λ_=>.some ?_;unfold LN;exact .lt (λ_=>.eq (λ_=>.bind λ_ _=>.some trivial) λ_=>.bind λ_ _=>.some trivial) λ_=>.some trivial;exact⟨(nT .u32 _).1,Int.lt_of_le_of_lt (nT .u32 _).2 (by decide)⟩);exact e _ h
def FrB(w r:List UInt8):Prop:=J0 w<=8392/\ ∃c,kT (J0v (J0 w) 4++w)=some c/\r=(J0v (J0 w) 4++w)++J0v c 4
theorem Bh(h:jW w=some r)(hl:J0 w<=8392):FrB w r:=by
 have g:Par (jW w) λr=>FrB w r:=(by unfold jW;refine .gt (λc=>by omega) λ_=>.bind λx h2=>.bind λo j=>.bind λc e=>.bind λq n=>.some ⟨hl,c,?_,?_⟩;rw[HO j,gG (k:=4) (by decide) (by decide) h2]at e;exact e;obtain⟨v,y⟩:=lf e;rw[gG (k:=4) (by decide) (by decide) n,HO j,gG (k:=4) (by decide) (by decide) h2];unfold aT;rw[TR (by omega) (by omega)];rfl);exact g _ h
theorem FrB.len(h:FrB w r):(r.length:Int)=J0 w+8:=by obtain⟨_,c,_,rfl⟩:=h;simp only[cN,JC];unfold J0;omega
theorem NH(h:FrB w r)(ha:At s r p)(hl:s.length<=4611686018427387904):hX (s,p)=some (w,p+r.length,0):=by
 have k:=ha.bnd;have I:=h.len;obtain⟨h1,c,z,rfl⟩:=h;have D:=Jd (l:=w);obtain⟨m,v⟩:=Int.eq_ofNat_of_zero_le D;obtain⟨E,O⟩:=lf z;obtain⟨j,rfl⟩:=Int.eq_ofNat_of_zero_le E;have q:=GZ (n:=m) (by rw[<-v];exact ha.left.left) (by decide:1<=4) (by decide) (by omega) (by omega) hl;have o:=GZ ha.right (by decide:1<=4) (by decide) (by omega) (by omega) hl;rw[<-v]at q;have K:J0 s=s.length:=rfl;have J:J0 w=w.length:=rfl;simp only[cN,JC]at I o;have V:=Jh p 4;have U:=Jh (J1 .i64 p 4) (J0 w);have W:=Jh p 8;have S:=Jh (J1 .i64 p 8) (J0 w);have L:=bE (J0 s) p;have N:=Jh (J0 w) 8;simp only[cN,JC]at k;have C:J1 .i64 (J1 .i64 p 4) (J0 w)=p+((4+w.length:Nat):Int):=by omega
 have g:Tot (hX (s,p)) λy=>y=(w,p+((4+w.length+4:Nat):Int),0):=by
  unfold hX;dsimp only;refine .ltf (λ_=>.gt (λc=>by omega) λ_=>.bind (fK q) λT A=>?_) λc=>by omega
  subst A;dsimp only;refine .ne (λc=>absurd rfl c) λ_=>.gt (λc=>by omega) λ_=>.lt (λc=>by omega) λ_=>?_;rw[C];refine .bind (fK o) λM B=>.bind (rD (l:=s) k.1 (by omega) (by omega)).eqn λR H=>?_;subst B;rw[ha.left.slc (by simp only[cN,JC]) H.2];refine .bind (fK z) λP F=>?_;subst F;refine .ne (λc=>absurd (by unfold aT;rw[show IntKind.u32.wrap (j:Int)=(j:Int) by simp[IntKind.wrap,IntKind.bits,IntKind.signed];omega]) c) λ_=>?_;rw[show J1 .i64 p 4=p+((4:Nat):Int) by omega];refine .bind (rD (l:=s) (by omega) (by omega) (by omega)).eqn λQ G=>.some ?_;have x:=ha.left.right;rw[JC]at x;rw[x.slc (by omega) G.2,show J1 .i64 (J1 .i64 p 8) (J0 w)=p+((4+w.length+4:Nat):Int) by omega]
 obtain⟨y,e,d⟩:=g;rw[e,d];simp only[cN,JC]
end
end Go.Am
end
section
namespace Go.Am
set_option linter.unusedVariables false
set_option maxRecDepth 20000
set_option maxHeartbeats 1000000
theorem At.of{s l:List UInt8}{p:Nat}(h:(s.drop p).take l.length=l)(hp:p+l.length<=s.length):At s l p:=
 ⟨s.take p,s.drop (p+l.length),by
  have e:s.drop (p+l.length)=(s.drop p).drop l.length:=by rw[qL]
  rw[e]
  conv=>lhs;rw[<-BZ p s,<-BZ l.length (s.drop p),h],by rw[lW];omega⟩
theorem At.drop{s l:List UInt8}{p:Nat}(h:At s l p): ∃g,s.drop p=l++g:=by
 obtain⟨pre,g,e,h⟩:=h;have h:pre.length=p:=by omega
 exact⟨g,by rw[e,<-h,List.drop_left]⟩
theorem Ec{s:List UInt8}{p:Nat}{n:Int}(hl:J0 s<=1073741824)(h:JA (s,(p:Int),4)=some (n,0)): ∃m:Nat,n=m/\m<2^32/\At s (J0v m 4) p:=by
 have r:J0 s=(s.length:Int):=rfl;have v:(p:Int)+4<=J0 s:=(by rcases Int.lt_or_le (J0 s) ((p:Int)+4)with c|c;have j:Par (JA (s,(p:Int),4)) λy=>y.2=0->(p:Int)+4<=J0 s:=(by have o:=bE (J0 s) p;unfold JA;dsimp only;exact .ltf (λ_=>.gtf (λ_=>.lt (λ_=>.some nofun) λ_=>.gtf (λ_=>.lt (λ_=>.some nofun) λc=>by omega) λ_=>.some nofun) λ_=>.some nofun) λ_=>.some nofun);exact j _ h rfl;exact c);obtain⟨m,k,e⟩:=JLM ((s.drop p).take 4) (by rw[lW,lU];omega);have q:At s (J0v m 4) p:=.of (by rw[JC,e]) (by rw[JC];omega);have g:=GZ q (by decide) (by decide) k (by omega) (by omega);rw[show((4:Nat):Int)=4 from rfl,h]at g;injection g with g;exact⟨m,congrArg Prod.fst g,k,q⟩
theorem Dc{s:List UInt8}{p:Int}{y:List UInt8×jL}(hl:J0 s<=1073741824)(h:hX (s,p)=some y)(he:y.2.2=0):0<=p/\ ∃f,FrB y.1 f/\At s f p/\y.2.1=p+f.length:=by
 have L:Par (hX (s,p)) λy=>y.2.2=0->0<=p/\ ∃f,FrB y.1 f/\At s f p/\y.2.1=p+f.length:=by
  unfold hX;dsimp only;refine .ltf (λc0=>.gt (λ_=>.some nofun) λK=>.bind λv S=>.ne (λ_=>.some nofun) λH=>.gt (λ_=>.some nofun) λM=>.lt (λ_=>.some nofun) λP=>.bind λu z=>.bind λw E=>.bind λq R=>.ne (λ_=>.some nofun) λD=>.bind λr F=>.some λ_=>⟨by omega,?_⟩) λ_=>.some nofun;dsimp only;obtain⟨e,rfl⟩:=Int.eq_ofNat_of_zero_le (show 0<=p by omega);obtain⟨v1,v2⟩:=v;dsimp only at H S M P z E F⊢;subst H;obtain⟨m,rfl,hm,a1⟩:=Ec hl S;have a5:J0 s=(s.length:Int):=rfl;have Z:J0 s<=1073741824:=hl;have V:(e:Int)+m+8<=J0 s/\J1 .i64 (e:Int) 4=((e+4:Nat):Int)/\J1 .i64 ((e+4:Nat):Int) (m:Int)=((e+4+m:Nat):Int)/\J1 .i64 (J1 .i64 (e:Int) 8) (m:Int)=(e:Int)+8+m:=by have o1:=bE (J0 s) (e:Int);have o2:=Jh (m:Int) 8;have o3:=Jh (e:Int) 8;have o4:=Jh (J1 .i64 (e:Int) 8) (m:Int);have o5:=Jh (e:Int) 4;have o7:=Jh ((e+4:Nat):Int) (m:Int);refine⟨by omega,by omega,by omega,by omega⟩
  obtain⟨c5,T,C,W⟩:=V;have c6:(m:Int)<=8392:=by omega
  clear M P;rw[T,C]at z E F;rw[W];have B:u.2=0:=by obtain⟨x,hx,A⟩:=(FX (p:=((e+4+m:Nat):Int)) (by omega) hl).1 (by omega);rw[z]at A;injection A with A;rw[A]
  obtain⟨u1,u2⟩:=u;dsimp only at B z D;subst B;obtain⟨un,rfl,Q,a2⟩:=Ec hl z;obtain⟨w',g,I,U⟩:=rD (l:=s) (j:=(e:Int)) (k:=((e+4+m:Nat):Int)) (by omega) (by omega) (by omega);rw[E]at g;injection g with g;subst g;obtain⟨r',o,Y,lr⟩:=rD (l:=s) (j:=((e+4:Nat):Int)) (k:=((e+4+m:Nat):Int)) (by omega) (by omega) (by omega);rw[F]at o;injection o with o;subst o;obtain⟨N,h1⟩:=a1.drop;obtain⟨G,h2⟩:=a2.drop;have o:r=N.take m:=by
   have:s.drop (e+4)=N:=by rw[<-qL,h1];exact List.drop_left' (JC _ _)
   rw[Y,Int.toNat_natCast,this];congr 1;omega
  have n:J0 r=m:=by omega
  have g:w=J0v m 4++r:=by
   rw[I,Int.toNat_natCast,h1,show(((e+4+m:Nat):Int)-(e:Int)).toNat=4+m by omega,List.take_append,JC,List.take_of_length_le (by rw[JC];omega),o]
   congr 2;omega
  have J:(un:Int)=q:=by obtain⟨q0,q1⟩:=lf R;have K:aT .u32 (un:Int)=(un:Int):=vX _ Q;rw[K]at D;exact D.symm▸rfl
  refine⟨(J0v (J0 r) 4++r)++J0v q 4,⟨by omega,q,by rw[n,<-g];exact R,rfl⟩,?_,?_⟩;rw[n,<-J];refine .of ?_ ?_;have O:(s.drop e).drop (4+m)=J0v (un:Int) 4++G:=by rw[qL,<-h2,<-AW]
  have a4:w.length=4+m:=by unfold J0 at U;omega
  have C:s.drop e=w++(J0v (un:Int) 4++G):=by rw[<-O,I,Int.toNat_natCast,show(((e+4+m:Nat):Int)-(e:Int)).toNat=4+m by omega,BZ]
  rw[C,<-g,<-hH];exact List.take_left;simp only[cN,JC];unfold J0 at n;omega;simp only[cN,JC];unfold J0 at n;omega
 exact L _ h he
theorem JFS{s:List UInt8}{p k:Nat}{c:UInt8}(h:p<=k):(s.set k c).drop p=(s.drop p).set (k-p) c:=by rw[List.drop_set,if_neg (by omega)]
theorem r5{s w f:List UInt8}{p k:Nat}{c:UInt8}{y:List UInt8×jL}(hl:J0 s<=1073741824)(hf:FrB w f)(ha:At s f p)(hk:p<=k)(O:k<p+f.length)(hc:s[k]?≠some c)
  (h:hX (s.set k c,(p:Int))=some y) (he:y.2.2=0):J0 y.1≠J0 w/\ ∃r,r≠[]/\(y.1=w++r\/w=y.1++r):=by
 obtain⟨_,f',G,R,_⟩:=Dc (by unfold J0 at hl⊢;rw[List.length_set];exact hl) h he;generalize y.1=w' at G⊢;have ac:=ha.bnd;obtain⟨h1,q,hq,rfl⟩:=hf;obtain⟨W,q',Z,rfl⟩:=G;obtain⟨U,e⟩:=ha.drop;obtain⟨E,e'⟩:=R.drop;rw[JFS hk]at e';have n1:=Jd (l:=w);have a1:=Jd (l:=w');obtain⟨v,hv⟩:=Int.eq_ofNat_of_zero_le n1;obtain⟨v',T⟩:=Int.eq_ofNat_of_zero_le a1;have lw:J0 w=w.length:=rfl;have aa:J0 w'=w'.length:=rfl;have B:(s.drop p)[k-p]?≠some c:=by rw[FY,show p+(k-p)=k by omega];exact hc
 have P:k-p<8+w.length:=by simp only[cN,JC]at O;omega
 generalize s.drop p=X at e e' B;generalize k-p=j at e' B P;have o:X=(J0v (J0 w) 4++w)++(J0v q 4++U):=by rw[e];simp
 have n:X.set j c=(J0v (J0 w') 4++w')++(J0v q' 4++E):=by rw[e'];simp
 have S:j<X.length:=by rw[o];simp only[cN,JC];omega
 have V:(X.set j c)[j]?=some c:=by rw[uH S]
 clear e e';have t4:X.take 4=J0v (J0 w) 4:=by rw[o,hH];exact List.take_left' (JC _ _)
 have I:(X.set j c).take 4=J0v (J0 w') 4:=by rw[n,hH];exact List.take_left' (JC _ _)
 by_cases hj:j<4;have J:J0 w'≠J0 w:=λhh=>by
  have g:(X.set j c).take 4=X.take 4:=by rw[t4,I,hh]
  have A:=congrArg (λl=>l[j]?) g;simp only[AZ,if_pos hj]at A;exact B (by rw[<-A,V])
 refine⟨J,?_⟩;have d4:X.drop 4=w++(J0v q 4++U):=by rw[o,hH];exact List.drop_left' (JC _ _)
 have H:(X.set j c).drop 4=w'++(J0v q' 4++E):=by rw[n,hH];exact List.drop_left' (JC _ _)
 rw[List.drop_set,if_pos hj,d4]at H;rcases List.append_eq_append_iff.1 H with⟨r,g,_⟩|⟨r,g,_⟩;exact⟨r,λK=>J (by rw[g,K,gR]),.inl g⟩;exact⟨r,λK=>J (by rw[g,K,gR]),.inr g⟩;exfalso;have g:(X.set j c).take 4=X.take 4:=List.take_set_of_le (by omega);rw[t4,I,hv,T]at g;have ab:=qg (by omega) (by omega) g;have Q:w'.length=w.length:=by omega
 have C:=IL (J0v (J0 w) 4++w) (by unfold J0;simp only[cN,JC];unfold J0 at h1;omega);have z:=IL (J0v (J0 w') 4++w') (by unfold J0;simp only[cN,JC];unfold J0 at W;omega);rw[hq]at C;injection C with C;rw[Z]at z;injection z with z;have lL:(J0v (J0 w) 4++w).length=4+w.length:=by rw[cN,JC]
 have F:(J0v (J0 w') 4++w').length=4+w.length:=by rw[cN,JC,Q]
 generalize J0v (J0 w) 4++w=L at*;generalize J0v (J0 w') 4++w'=L' at*;subst C z;have cl:=XU L;have Y:=XU L';by_cases x:j<L.length;rw[o,List.set_append_left _ _ x]at n;obtain⟨A,M⟩:=List.append_inj n (by rw[List.length_set,lL,F]);have D:=(List.append_inj M (by rw[JC,JC])).1;have N:=qg cl Y D;refine JJ5 x (λh=>B ?_) (by rw[<-A]at N;exact N.symm);rw[o,qK x,aS x,h];rw[o,List.set_append_right _ _ (by omega)]at n;obtain⟨A,M⟩:=List.append_inj n (by rw[lL,F]);subst A;have hi:j-L.length<4:=by omega
 have D:=congrArg (λl=>l[j-L.length]?) M;rw[uH (by simp only[cN,JC];omega),qK (by rw[JC];exact hi)]at D;refine B ?_;rw[o,mX (by omega),qK (by rw[JC];exact hi),D]
end Go.Am
end
section
namespace Go.Am
set_option linter.unusedVariables false
set_option maxRecDepth 20000
set_option maxHeartbeats 1000000
section
variable {s r:List UInt8}
theorem JH1{k:Int}(e:0<=k)(h:k<J0 s):gA (s++r) k=gA s k:=by
 obtain⟨n,rfl⟩:=Int.eq_ofNat_of_zero_le e;have:n<s.length:=by unfold J0 at h;omega
 rw[GJ this,GJ (by rw[cN];omega),List.getElem_append_left]
theorem JIX{a k:Int}{y:jL}(hl:J0 (s++r)<=1073741824)(h:JA (s,a,k)=some y)(he:y.2=0):JA (s++r,a,k)=some y/\0<=a/\a+k<=J0 s/\1<=k/\k<=8:=by
 have la:J0 (s++r)=J0 s+J0 r:=jV;have P:=Jd (l:=r);have O:=Jd (l:=s);have L:=bE (J0 s) a;have K:=bE (J0 (s++r)) a;have C:Par (JA (s,a,k)) λy=>y.2=0->0<=a/\a+k<=J0 s/\1<=k/\k<=8:=by unfold JA;dsimp only;refine .ltf (λe=>.gtf (λg=>.lt (λ_=>.some nofun) λj=>.gtf (λA=>.lt (λ_=>.some nofun) λv=>λy _ _=>⟨by omega,by omega,by omega,by omega⟩) λ_=>.some nofun) λ_=>.some nofun) λ_=>.some nofun
 obtain⟨I,h1,h2,N⟩:=C _ h he;refine⟨?_,I,h1,h2,N⟩;rw[<-h];have e:aK k 1=false:=by rw[<-Bool.not_eq_true,cO];omega
 have g:aN k 8=false:=by rw[<-Bool.not_eq_true,eS];omega
 have j: ¬aK a 0=true:=by rw[cO];omega
 have A:aN a (J0 s)=false:=by rw[<-Bool.not_eq_true,eS];omega
 have n:aN a (J0 (s++r))=false:=by rw[<-Bool.not_eq_true,eS];omega
 have v: ¬aK (JL .i64 (J0 s) a) k=true:=by rw[cO];omega
 have q: ¬aK (JL .i64 (J0 (s++r)) a) k=true:=by rw[cO];omega
 unfold JA;dsimp only;rw[if_pos e,if_pos e,if_pos g,if_pos g,if_neg j,if_neg j,if_pos A,if_pos n,if_neg v,if_neg q];clear e g j A n v q L K;refine dz (λz w=>z.1=s++r/\w.1=s/\z.2=w.2/\w.2.1=a/\w.2.2.1=k/\0<=w.2.2.2.2) ?_ ⟨rfl,rfl,rfl,rfl,rfl,aY _⟩;rintro⟨s1,z⟩ ⟨J,H,M,x,i⟩ ⟨F,E,G,D,B,hi⟩;dsimp only at F E G D B hi;subst F E G D B;unfold tR;dsimp only;by_cases c:aK i M=true;rw[if_pos c,if_pos c];have c:=cO.1 c;have o:=Jh H i;have Q:=Jh i 1;rw[JH1 (by omega) (by omega)];cases gA J (J1 .i64 H i)with
 |none=>exact .inl ⟨rfl,rfl⟩
 |some b=>
  dsimp only[Option.bind_some];cases kD .u64 (aT .u64 b) (aT .u64 (cF .i64 8 i))with
  |none=>exact .inl ⟨rfl,rfl⟩
  |some d=>exact .inr (.inr ⟨_,_,rfl,rfl,rfl,rfl,rfl,rfl,rfl,by dsimp only;omega⟩)
 rw[if_neg c,if_neg c];exact .inr (.inl ⟨_,rfl,rfl⟩)
def Rdr(s r:List UInt8)(c d:JE):Prop:=c.2.2≠0\/(c.1=s/\d.1=s++r/\d.2.1=c.2.1/\c.2.2=0/\d.2.2=0/\0<=c.2.1/\c.2.1<=J0 s)
theorem Cp{k:Int}{c:JE}{y:qP}(hk:k<=4)(h:Jo (k,c)=some y):0<=y.1/\y.1<=4294967295:=by
 have e:Par (Jo (k,c)) λy=>0<=y.1/\y.1<=4294967295:=by
  unfold Jo;refine .ne (λ_=>.some (by dsimp only;omega)) λ_=>.bind λg q=>.ne (λ_=>.some (by dsimp only;omega)) λj=>.some ?_;obtain⟨_,_,_,v,_,o⟩:=rn q j;obtain⟨a,b⟩:=o hk;have r:(2:Nat)^(8*k.toNat)<=2^32:=uT (by decide) (by omega);have n:((2:Int)^(8*k.toNat))=((2^(8*k.toNat):Nat):Int):=by simp
  rw[n]at b;dsimp only at a b⊢;omega
 exact e _ h
variable (hl:J0 (s++r)<=1073741824)
include hl
theorem rJ{k:Int}{c d:JE}{y z:qP}(j:Rdr s r c d)(h:Jo (k,c)=some y)(e:Jo (k,d)=some z):Rdr s r y.2 z.2/\(y.2.2.2=0->z.1=y.1):=by
 unfold Jo at h e;dsimp only at h e;rcases j with j|⟨A,x,B,w,n,E,D⟩;rw[if_pos (cU.2 j)]at h;injection h with h;subst h;exact⟨.inl j,λc=>absurd c j⟩;obtain⟨v,J,L⟩:=c;obtain⟨I,C,G⟩:=d;dsimp only at A x B w n E D h e;subst A x B w n;rw[if_neg (by decide)]at h e;obtain⟨g,F,h⟩:=aU.1 h;by_cases c:g.2=0;obtain⟨q,H,h1,h2,M⟩:=JIX hl F c;rw[q]at e;dsimp only[Option.bind_some]at e;rw[if_neg (λt=>cU.1 t c)]at h e;injection h with h;injection e with e;subst h e;have o:=Jh C k;have la:J0 (v++r)=J0 v+J0 r:=jV;have K:=Jd (l:=r);exact⟨.inr ⟨rfl,rfl,rfl,rfl,rfl,by dsimp only;omega,by dsimp only;omega⟩,λ_=>rfl⟩;rw[if_pos (cU.2 c)]at h;injection h with h;subst h;exact⟨.inl c,λt=>absurd t c⟩
theorem Cy{k:Int}{c d:JE}{y z:List UInt8×JE}(o:Rdr s r c d)(hk:c.2.2=0->0<=k/\k<=4294967295)(h:lJ (k,c)=some y)(g:lJ (k,d)=some z):Rdr s r y.2 z.2/\(y.2.2.2=0->z.1=y.1):=by
 unfold lJ at h g;dsimp only at h g;rcases o with o|⟨D,C,E,A,v,q,F⟩;rw[if_pos (cU.2 o)]at h;injection h with h;subst h;exact⟨.inl o,λc=>absurd c o⟩;obtain⟨n,Q,T⟩:=c;obtain⟨N,e,L⟩:=d;dsimp only at D C E A v q F h g hk;subst D C E A v;obtain⟨M,J⟩:=hk rfl;have la:J0 (n++r)=J0 n+J0 r:=jV;have R:=Jd (l:=r);have P:=bE (J0 n) e;have O:=bE (J0 (n++r)) e;have S:=Jh e k;have U:=bE (J1 .i64 e k) k;rw[if_neg (by decide)]at h g;by_cases c:aN k (JL .i64 (J0 n) e)=true;rw[if_pos c]at h;injection h with h;subst h;exact⟨.inl (show¬(5:Int)=0 by decide),λt=>absurd t (show¬(5:Int)=0 by decide)⟩;rw[if_neg c]at h;have c: ¬_<k:=λt=>c (eS.2 t);rw[if_neg (λt=>by have:=eS.1 t;omega)]at g;have I:JL .i64 (J1 .i64 e k) k=e:=by omega
 rw[I]at h g;obtain⟨w,G,H,_⟩:=rD (l:=n) (j:=e) (k:=J1 .i64 e k) q (by omega) (by omega);obtain⟨w',x,B,_⟩:=rD (l:=n++r) (j:=e) (k:=J1 .i64 e k) q (by omega) (by omega);rw[G]at h;rw[x]at g;injection h with h;injection g with g;subst h g;refine⟨.inr ⟨rfl,rfl,rfl,rfl,rfl,by dsimp only;omega,by dsimp only;omega⟩,λ_=>?_⟩;show w'=w;have K:J0 n=n.length:=rfl;rw[H,B,List.drop_append,List.take_append_of_le_length (by rw[lU];omega)]
theorem Ey{c d:JE}{y z:ji}(j:Rdr s r c d)(h:oC c=some y)(e:oC d=some z):Rdr s r y.2 z.2/\(y.2.2.2=0->z.1=y.1):=by
 unfold oC at h e;obtain⟨g,w,h⟩:=aU.1 h;obtain⟨g',o,e⟩:=aU.1 e;obtain⟨j,n⟩:=rJ hl j w o;by_cases c:g.2.2.2=0;have n:=n c;have x:0<=g.1:=(Cp (by decide) w).1;rcases j with j|j;exact absurd c j;have c':g'.2.2.2=0:=j.2.2.2.2.1;rw[if_pos (by rw[<-Bool.not_eq_true,cU];exact λt=>t c)]at h;rw[if_pos (by rw[<-Bool.not_eq_true,cU];exact λt=>t c')]at e;rw[n]at e;by_cases q:aJ g.1 255=true;rw[if_pos q]at h e;injection h with h;injection e with e;subst h e;exact⟨.inr j,λ_=>rfl⟩;rw[if_neg q]at h e;by_cases k:aN g.1 12=true;rw[if_pos k]at h;injection h with h;subst h;exact⟨.inl (show¬(4:Int)=0 by decide),λt=>absurd t (show¬(4:Int)=0 by decide)⟩;rw[if_neg k]at h e;have k: ¬12<g.1:=λt=>k (eS.2 t);obtain⟨b,A,h⟩:=aU.1 h;obtain⟨D,v,e⟩:=aU.1 e;injection h with h;injection e with e;subst h e;have v2:lJ (g.1,g'.2)=some D:=(by rw[<-n];exact v);obtain⟨B,C⟩:=Cy hl (.inr j) (λ_=>⟨x,by omega⟩) A v2;exact⟨B,λt=>by rw[C t]⟩;rw[if_neg (by rw[<-Bool.not_eq_true,cU];exact λt=>t c)]at h;injection h with h;subst h;exact⟨.inl c,λt=>absurd t c⟩
theorem D1{e:aA}{z:uX}(hr:r≠[])(h:kX s=some (e,0))(g:kX (s++r)=some z):z.2≠0:=by
 unfold kX at h g;have J:Rdr s r (s,0,0) (s++r,0,0):=.inr ⟨rfl,rfl,rfl,rfl,rfl,aY _,Jd⟩;obtain⟨y2,h2,h⟩:=aU.1 h;obtain⟨z2,I,g⟩:=aU.1 g;have M:=(rJ hl J h2 I).1;obtain⟨y3,h3,h⟩:=aU.1 h;obtain⟨z3,P,g⟩:=aU.1 g;have O:=(rJ hl M h3 P).1;obtain⟨y4,h4,h⟩:=aU.1 h;obtain⟨z4,U,g⟩:=aU.1 g;have S4:=(rJ hl O h4 U).1;obtain⟨y5,h5,h⟩:=aU.1 h;obtain⟨z5,Q,g⟩:=aU.1 g;have K:=(rJ hl S4 h5 Q).1;obtain⟨y6,h6,h⟩:=aU.1 h;obtain⟨z6,k6,g⟩:=aU.1 g;have H:=(rJ hl K h6 k6).1;obtain⟨y7,Z,h⟩:=aU.1 h;obtain⟨z7,L,g⟩:=aU.1 g;have S7:=(rJ hl H Z L).1;obtain⟨y8,R,h⟩:=aU.1 h;obtain⟨z8,W,g⟩:=aU.1 g;have S8:=(rJ hl S7 R W).1;obtain⟨y9,h9,h⟩:=aU.1 h;obtain⟨z9,Y,g⟩:=aU.1 g;have T:=(rJ hl S8 h9 Y).1;obtain⟨ab,y,h⟩:=aU.1 h;obtain⟨aa,C,g⟩:=aU.1 g;have B:=(Ey hl T y C).1;obtain⟨ad,F,h⟩:=aU.1 h;obtain⟨af,D,g⟩:=aU.1 g;have A:=(Ey hl B F D).1;obtain⟨ac,q,h⟩:=aU.1 h;obtain⟨ae,G,g⟩:=aU.1 g;obtain⟨j,E⟩:=rJ hl A q G;obtain⟨n,k,h⟩:=aU.1 h;obtain⟨w,v,g⟩:=aU.1 g;have o:Rdr s r n.2 w.2:=(by rcases j with j|j;unfold lJ at k;rw[if_pos (cU.2 j)]at k;injection k with k;subst k;exact .inl j;have v2:lJ (ac.1,ae.2)=some w:=(by rw[<-E j.2.2.2.1];exact v);exact(Cy hl (.inr j) (λ_=>Cp (by decide) q) k v2).1);by_cases c:aM n.2.2.2 0=true;rw[if_pos c]at h;injection h with h;exact absurd (congrArg Prod.snd h) (cU.1 c);rw[if_neg c]at h;have V:n.2.2.2=0:=Decidable.of_not_not λt=>c (cU.2 t);rcases o with o|⟨f1,f2,f3,f4,S,f6,f7⟩;exact absurd V o;rw[if_neg (by rw[cU];exact λt=>t S)]at g;by_cases x:aM n.2.2.1 (J0 s)=true;rw[if_pos x]at h;injection h with h;exact absurd (congrArg Prod.snd h) (show¬(4:Int)=0 by decide);have N:n.2.2.1=J0 s:=Decidable.of_not_not λt=>x (cU.2 t);have la:J0 (s++r)=J0 s+J0 r:=jV;have lr:0<J0 r:=by
  cases r with
  |nil=>exact absurd rfl hr
  |cons a b=>unfold J0;simp
 rw[if_pos (by rw[cU,f3,N];omega)]at g;injection g with g;subst g;decide
end
end Go.Am
end
section
namespace Go.Am
set_option linter.unusedVariables false
set_option maxRecDepth 20000
set_option maxHeartbeats 1000000
def oI:List aA->List UInt8->Prop|[],r=>r=[]|e::l,r=> ∃f t,FrB (lT e) f/\oI l t/\r=f++t
theorem oI.snoc{e:aA}{f:List UInt8}(hf:FrB (lT e) f): ∀{l:List aA} {r:List UInt8},oI l r->oI (l++[e]) (r++f)|[],r,h=>⟨f,[],hf,rfl,by rw[show r=[]from h,gR];rfl⟩|x::l,r,⟨j,g,a,b,e⟩=>⟨j,g++f,a,oI.snoc hf b,by rw[e,hH]⟩
def fB(x:aH):List UInt8:=[80,77,82,78]++(J0v x.1 8++(J0v x.2.1 8++(J0v x.2.2.1 4++(J0v x.2.2.2.1 4++(J0v x.2.2.2.2.1 1++J0v (J0 (ent x)) 4)))))
theorem DL(x:aH):(fB x).length=33:=by unfold fB;simp only[cN,JC];rfl
theorem JDw{x:aH}{w:List UInt8}(h:qE x=some w):w=fB x:=by
 have e:Par (qE x) λw=>w=fB x:=by unfold qE;refine .bind λz h2=>.bind λy q=>.bind λA n=>.bind λB o=>.bind λr g=>.bind λv j=>.some ?_;rw[gG (k:=4) (by decide) (by decide) j,gG (k:=1) (by decide) (by decide) g,gG (k:=4) (by decide) (by decide) o,gG (k:=4) (by decide) (by decide) n,gG (k:=8) (by decide) (by decide) q,gG (k:=8) (by decide) (by decide) h2];unfold fB;simp only[hH];rfl
 exact e _ h
theorem JC3{x:aH}{y:List UInt8×Int}(R:kK x)(h:kY x=some y):y.2=0/\ ∃f t,FrB (fB x) f/\oI (ent x) t/\y.1=f++t:=by
 have B:Par (kY x) λy=>y.2=0/\ ∃f t,FrB (fB x) f/\oI (ent x) t/\y.1=f++t:=(by unfold kY;refine .bind λv n=>.not (λc=>?_) λ_=>.bind λw A=>.bind λf hf=>?_;rw[(OE R).2]at n;injection n with n;rw[<-n]at c;cases c;have A:=JDw A;subst A;have hf:=Bh hf (by unfold J0;rw[DL];decide);refine .while (fun(z:List UInt8×Int×aH)=>z.2.2=x/\ ∃(j:Nat) (t:List UInt8),z.2.1=(j:Int)/\j<=(ent x).length/\oI ((ent x).take j) t/\z.1=f++t) ⟨rfl,0,[],rfl,zQ2 _,rfl,(gR _).symm⟩ ?_;rintro⟨o,i,k⟩ ⟨rfl,j,t,F,J,ht,D⟩;dsimp only at F D J ht;subst F D;unfold AI;dsimp only;have K:=Jh (j:Int) 1;refine .lt (λc=>.bind λe I=>.bind λb q=>.bind λg G=>.bind λr H=>.some ⟨rfl,j+1,t++g,?_,?_,?_,?_⟩) λc=>.some ⟨rfl,f,t,hf,?_,rfl⟩;have:J0 k.2.2.2.2.2=((ent k).length:Int):=rfl;have C:=R.2.1;have C:((ent k).length:Int)<=4096:=C;dsimp only;omega;have:J0 k.2.2.2.2.2=((ent k).length:Int):=rfl;omega;have E:(ent k)[j]?=some e:=(by have:=(hO I).2;rw[Int.toNat_natCast]at this;exact this);have n:=(R.2.2.1 j e E).1;have q:=JMi q n;subst q;rw[List.take_add_one,E];exact ht.snoc (Bh G (by have:=(GP n).2;unfold J0;omega));rw[HO H,hH];have:J0 k.2.2.2.2.2=((ent k).length:Int):=rfl;rw[show j=(ent k).length by omega,List.take_length]at ht;exact ht);exact B _ h
theorem At.set{s w:List UInt8}{p:Int}{k:Nat}{c:UInt8}(h:At s w p)(hk:p+w.length<=k):At (s.set k c) w p:=by obtain⟨pre,g,e,h⟩:=h;refine⟨pre,g.set (k-pre.length-w.length) c,?_,h⟩;rw[e,List.set_append_right _ _ (by omega),List.set_append_right _ _ (by omega)]
theorem CF{s:List UInt8}{p n:Int}{k:Nat}(b:Nat)(h:At s (J0v n k) p)(hl:s.length<=1000000)(j:0<=n)(hn:n<b)(hb:b=2^(8*k):=by rfl)(h1:1<=k:=by decide)(e:k<=8:=by decide)(o:n<9223372036854775808:=by omega):JD (s,p,(k:Int))=some n:=by obtain⟨m,rfl⟩:=Int.eq_ofNat_of_zero_le j;have g:=GZ h h1 e (by omega) (by omega) (by omega);unfold JD;rw[g];rfl
theorem pu{x:aH}(R:kK x):aW (fB x) none (some 4)=some [80,77,82,78]/\JD (fB x,4,8)=some x.1/\JD (fB x,12,8)=some x.2.1/\JD (fB x,20,4)=some x.2.2.1/\JD (fB x,24,4)=some x.2.2.2.1/\JD (fB x,28,1)=some x.2.2.2.2.1/\JD (fB x,29,4)=some (J0 (ent x)):=by
 obtain⟨⟨J,K,D,E,C,G,H,I⟩,j,_⟩:=R;have j:J0 (ent x)<=4096:=j;have F:=Jd (l:=ent x);have h:(fB x).length<=1000000:=by rw[DL];decide
 obtain⟨r,e,d,_⟩:=xV (l:=fB x) (k:=4) (by decide) (by unfold J0;rw[DL];decide);generalize n:fB x=s at h e d⊢;have g:At s (fB x) 0:=by rw[n];exact .all
 unfold fB at g;have z:r=[80,77,82,78]:=by rw[d,<-n];rfl
 replace g:=g.right;have v:(([80,77,82,78]:List UInt8).length:Int)=4:=rfl;rw[v]at g;have B:=CF (k:=8) 18446744073709551616 g.left h (by omega) (by omega);replace g:=g.right;simp only[JC]at g;have A:=CF (k:=8) 18446744073709551616 g.left h (by omega) (by omega);replace g:=g.right;simp only[JC]at g;have y:=CF (k:=4) 4294967296 g.left h (by omega) (by omega);replace g:=g.right;simp only[JC]at g;have q:=CF (k:=4) 4294967296 g.left h (by omega) (by omega);replace g:=g.right;simp only[JC]at g;have w:=CF (k:=1) 256 g.left h (by omega) (by omega);replace g:=g.right;simp only[JC]at g;have o:=CF (k:=4) 4294967296 g h (by omega) (by omega);exact⟨by rw[e,z],B,A,y,q,w,o⟩
section
variable {x:aH} {f t:List UInt8} (R:kK x) (hf:FrB (fB x) f) (ht:oI (ent x) t) (hl:J0 (f++t)<=1073741824)
include R hf ht hl
theorem JH0:Par (sB (f++t)) λy=>y=(x,0):=by
 obtain⟨B,H,A,D,F,C,E⟩:=pu R;have M:J0 (f++t)=((f++t).length:Int):=rfl;have T:J0 (ent x)<=4096:=R.2.1;have u:=NH (s:=f++t) (p:=0) hf ⟨[],t,rfl,rfl⟩ (by omega);unfold sB;rw[u];dsimp only[Option.bind_some];refine .ne (λc=>absurd rfl c) λ_=>.nef (λ_=>?_) λc=>absurd (show J0 (fB x)=33 by unfold J0;rw[DL];rfl) c;rw[B,H,A,D,F,C,E];dsimp only[Option.bind_some];rw[if_neg (by decide)];refine .gt (λc=>by omega) λ_=>.while (fun(z:lN)=>z.1=f++t/\z.2.2.1=J0 (ent x)/\z.2.2.2.2.2.2.2.2.2.2.2=([],x.1,x.2.1,x.2.2.1,x.2.2.2.1,x.2.2.2.2.1)/\ ∃rest h,ent x=z.2.2.2.2.2.2.2.2.2.2.1++rest/\z.2.2.2.1=J0 z.2.2.2.2.2.2.2.2.2.2.1/\oI rest h/\At (f++t) h z.2.1/\z.2.1+(h.length:Int)=((f++t).length:Int)) ⟨rfl,rfl,rfl,ent x,t,rfl,rfl,ht,⟨f,[],by rw[gR],(Int.zero_add _).symm⟩,by simp only[cN];omega⟩ ?_;rintro⟨s,p,m,i,Z,w2,w3,O,Y,P,l,Q⟩ ⟨v,r,w,rest,h,h1,h2,j,k,n⟩;dsimp only at v r w h1 h2 k n;subst v r w h2;have L:J0 (ent x)=J0 l+J0 rest:=by rw[h1,jV]
 have V:=Jd (l:=l);unfold LW;dsimp only;cases rest with
 |nil=>
  have j:h=[]:=j;subst j;have l0:J0 ([]:List aA)=0:=rfl;refine .lt (λc=>by omega) λ_=>.map (.ne (λc=>absurd (by simp only[List.length_nil]at n;omega) c) λ_=>?_);have q:(x.1,x.2.1,x.2.2.1,x.2.2.2.1,x.2.2.2.2.1,l)=x:=by
   have:l=ent x:=by rw[h1,gR]
   rw[this];rfl
  dsimp only;rw[q,(OE R).2];dsimp only[Option.bind_some];exact .not (λc=>by cases c) λ_=>.some rfl
 |cons e rest=>
  obtain⟨S,G,J,K,rfl⟩:=j;have I:Ju e=some true:=by
   have q:(ent x)[l.length]?=some e:=by rw[h1];simp
   exact(R.2.2.1 _ e q).1
  have N:J0 (e::rest)=1+J0 rest:=by unfold J0;simp;omega
  have U:=Jd (l:=rest);refine .lt (λ_=>?_) λc=>by omega
  rw[NH J k.left (by omega)];dsimp only[Option.bind_some];refine .ne (λc=>absurd rfl c) λ_=>?_;rw[(GP I).1];dsimp only[Option.bind_some];refine .ne (λc=>absurd rfl c) λ_=>.bind λW g=>.some ⟨rfl,rfl,rfl,rest,G,?_,?_,K,k.right,?_⟩;dsimp only;rw[IB (by rw[mG];omega) (by decide)]at g;injection g with g;subst g;rw[h1,hH];rfl;dsimp only;rw[IB (by rw[mG];omega) (by decide)]at g;injection g with g;subst g;have o:=Jh (J0 l) 1;rw[jV,mG];omega;dsimp only;rw[cN]at n;omega
theorem JA5{k:Nat}{c:UInt8}(hk:k<(f++t).length)(hc:(f++t)[k]?≠some c):Par (sB ((f++t).set k c)) λy=>y.2≠0:=by
 obtain⟨P,r2,O,U,Z,T,W⟩:=pu R;have ab:J0 (f++t)=((f++t).length:Int):=rfl;have A:J0 (fB x)=33:=by unfold J0;rw[DL];rfl
 have n9:J0 (ent x)<=4096:=R.2.1;have hA:At (f++t) f 0:=⟨[],t,rfl,rfl⟩;have S:((f++t).set k c).length=(f++t).length:=List.length_set;unfold sB;by_cases aa:k<f.length;refine .bind λy2 h2=>.ne (λc=>.some c) λY=>.nef (λH=>?_) λ_=>.some (show¬(4:Int)=0 by decide);exact absurd (H.trans A.symm) (r5 (p:=0) hl hf hA (zQ2 _) (by omega) hc h2 Y).1;rw[NH hf (hA.set (by omega)) (by omega)];dsimp only[Option.bind_some];refine .ne (λc=>absurd rfl c) λ_=>.nef (λ_=>?_) λc=>absurd A c;rw[P,r2,O,U,Z,T,W];dsimp only[Option.bind_some];rw[if_neg (by decide)];refine .gt (λc=>by omega) λ_=>.while (fun(z:lN)=>z.1=(f++t).set k c/\z.2.2.1=J0 (ent x)/\z.2.1<=(k:Int)/\ ∃rest h,ent x=z.2.2.2.2.2.2.2.2.2.2.1++rest/\z.2.2.2.1=J0 z.2.2.2.2.2.2.2.2.2.2.1/\oI rest h/\At (f++t) h z.2.1/\z.2.1+(h.length:Int)=((f++t).length:Int)) ⟨rfl,rfl,by dsimp only;omega,ent x,t,rfl,rfl,ht,⟨f,[],by rw[gR],(Int.zero_add _).symm⟩,by simp only[cN];omega⟩ ?_;rintro⟨s,p,m,i,w1,w2,w3,w4,w5,w6,l,w7⟩ ⟨M,J,e3,rest,h,h1,h2,w,q,C⟩;dsimp only at M J e3 h1 h2 q C;subst M J h2;have a8:J0 (ent x)=J0 l+J0 rest:=by rw[h1,jV]
 have nl:=Jd (l:=l);unfold LW;dsimp only;cases rest with
 |nil=>have w:h=[]:=w;subst w;simp only[List.length_nil]at C;omega
 |cons e rest=>
  obtain⟨V,t1,N,a2,rfl⟩:=w;have D:Ju e=some true:=by
   have hx:(ent x)[l.length]?=some e:=by rw[h1];simp
   exact(R.2.2.1 _ e hx).1
  have lc:J0 (e::rest)=1+J0 rest:=by unfold J0;simp;omega
  have nr:=Jd (l:=rest);refine .lt (λ_=>?_) λc=>by omega
  by_cases a9:(k:Int)<p+V.length;obtain⟨pn,rfl⟩:=Int.eq_ofNat_of_zero_le q.bnd.1;refine .bind λu L=>.ne (λc=>.some c) λF=>.bind λv n=>.ne (λc=>.some c) λE=>?_;exfalso;have B:=(GP D).1;have Q:=(GP D).2;obtain⟨_,r,K,j⟩:=r5 (p:=pn) hl N q.left (by omega) (by omega) hc L F;have G:kX u.1=some (v.1,0):=by rw[n,<-E]
  rcases j with j|j;obtain⟨_,f2,I,_⟩:=Dc (by unfold J0;rw[S];exact hl) L F;have:=I.1;rw[j]at n this;exact D1 (by omega) K B n E;rw[j]at B Q;exact D1 (by unfold J0;omega) K G B rfl;rw[NH N (q.left.set (by omega)) (by omega)];dsimp only[Option.bind_some];refine .ne (λc=>absurd rfl c) λ_=>?_;rw[(GP D).1];dsimp only[Option.bind_some];refine .ne (λc=>absurd rfl c) λ_=>.bind λl' g=>.some ⟨rfl,rfl,by dsimp only;omega,rest,t1,?_,?_,a2,q.right,?_⟩;dsimp only;rw[IB (by rw[mG];omega) (by decide)]at g;injection g with g;subst g;rw[h1,hH];rfl;dsimp only;rw[IB (by rw[mG];omega) (by decide)]at g;injection g with g;subst g;have o:=Jh (J0 l) 1;rw[jV,mG];omega;dsimp only;rw[cN]at C;omega
end
end Go.Am
end
section
namespace Go.Am
set_option linter.unusedVariables false
set_option maxRecDepth 20000
set_option maxHeartbeats 1000000
theorem JMR{a b:Nat}(ha:a<256)(hb:b<256):eP .u8 (a:Int) (b:Int)=((a^^^b:Nat):Int):=by
 show IntKind.wrap .u8 (((BitVec.ofInt 8 (a:Int)^^^BitVec.ofInt 8 (b:Int)).toNat:Nat):Int)=_;have h1:(BitVec.ofInt 8 (a:Int)).toNat=a:=by rw[BitVec.toNat_ofInt];omega
 have h2:(BitVec.ofInt 8 (b:Int)).toNat=b:=by rw[BitVec.toNat_ofInt];omega
 have e:a^^^b<2^8:=Nat.xor_lt_two_pow ha hb;rw[BitVec.toNat_xor,h1,h2];rw[show IntKind.wrap .u8 ((a^^^b:Nat):Int)=((a^^^b:Nat):Int)%256 from rfl];omega
theorem JJ1(l:List aA)(hl:J0 l<=4096):MG (l,l)=some true:=by
 have g:Tot (MG (l,l)) λy=>y=true:=by unfold MG;refine .ne (λc=>absurd rfl c) λ_=>Jm (τ:=Int) (λj=>(l,l,J0 l,j)) (λj=>0<=j/\j<=J0 l) (λj=>J0 l-j) ?_ 0 rfl ⟨aY _,Jd⟩;rintro j ⟨h,n⟩;unfold E8;dsimp only;have o:=Jh j 1;refine .lt (λk=>?_) λ_=>.some rfl;obtain⟨t,et,_⟩:=yJ h k;refine .same et (.same et (.not (λc=>absurd (c.symm.trans ((dJ (t:=J3) (x:=t) (y:=t)).2 rfl)) Bool.false_ne_true) λ_=>.some ⟨J1 .i64 j 1,rfl,by omega,by omega,by omega⟩))
 obtain⟨y,e,rfl⟩:=g;exact e
theorem JLZ{r:aH}(h:J0 (ent r)<=4096):rR (r,r)=some true:=by
 have g:Tot (rR (r,r)) λy=>y=true:=by unfold rR;exact .eq (λ_=>.eq (λ_=>.eq (λ_=>.eq (λ_=>.eq (λ_=>.bind (fK (JJ1 (ent r) h)) λy d=>.some d) λc=>absurd rfl c) λc=>absurd rfl c) λc=>absurd rfl c) λc=>absurd rfl c) λc=>absurd rfl c
 obtain⟨y,e,d⟩:=g;rw[e,d]
theorem Wx{x0:List Int}{at_ g:Int}(w0:Ty.inR (.l (.i .u8)) x0)(w1:Ty.inR (.i .u16) at_)(w2:Ty.inR (.i .u8) g):WT (x0,at_,g)=some true:=by
 have N:Tot (WT (x0,at_,g)) λy=>y=true:=by
  unfold WT;dsimp only;refine .bind (fK JIM) λy2 D=>.not (λc=>by rw[D]at c;cases c) λ_=>.bind (JEF w0) λY F=>.bind ((JDC (B:=16384) (S:=1073741824) (X:=(25,Y)) ⟨gH .i64 25,F.1⟩ F.2 (show(0:Int)<=25 by decide) (show(25:Int)<=1000 by decide)).eqn) λy4 C=>?_;obtain⟨V,I,c⟩:=y4;obtain⟨⟨⟨_,L,P⟩,w⟩,C⟩:=C;have w:0<=c.2:=w;have O:J0 I.2.1<=4096:=(Km C).1;dsimp only;refine .bind (JGd O L P w) λx j=>?_;obtain⟨x,c'⟩:=x;obtain⟨j,_⟩:=j;dsimp only at j⊢;obtain⟨v,v1,v2,hR⟩:=vv j;rw[YW j];cases v with
  |false=>
   have e:kY x=some ([],40):=by unfold kY;rw[v2];rfl
   refine .same e (.ne (λ_=>.same v1 (.not (λ_=>.some rfl) λc=>by cases c)) λc=>absurd c (show¬(40:Int)=0 by decide))
  |true=>
   have R:=hR rfl;obtain⟨y,e,hl⟩:=JFH j;obtain⟨H,f,t,hf,ht,E⟩:=JC3 R e;have n:J0 (f++t)<=1073741824:=by rw[<-E];omega
   have hd:AA y.1=some (x,0):=by rw[E,Ep n];obtain⟨z,q,_⟩:=mp n;rw[q,JH0 R hf ht n z q]
   have T:=JLZ (r:=x) R.2.1;have ad:41<=J0 y.1:=by
    have:=hf.len;have ae:J0 (fB x)=33:=by unfold J0;rw[DL];rfl
    rw[E,jV];have:=Jd (l:=t);unfold J0 at*;omega
   refine .same e (.ne (λc=>absurd H c) λ_=>.same hd ?_);dsimp only;rw[YW j];refine .same e (.nef (λ_=>.nef (λ_=>.itf (λ_=>.same T ?_) λc=>absurd c (by simp[neS])) λc=>absurd H c) λc=>absurd rfl c);refine .nof (λ_=>.eq (λ_=>.eq (λ_=>.eq (λ_=>.ite (λ_=>.same T (.some rfl)) λc=>absurd c (by simp[eqS])) λc=>absurd H c) λc=>absurd rfl c) λaf=>?_) λc=>by cases c
   have q1:0<=at_/\at_<=65535:=w1;have q2:0<=g/\g<=255:=w2;have o1:=TZ at_;obtain⟨k,Z,k0,k1⟩: ∃k:Nat,oT (aT .i64 at_) (J0 y.1)=some (k:Int)/\0<=(k:Int)/\(k:Int)<J0 y.1:=by have a1:=Int.emod_nonneg at_ (show J0 y.1≠0 by omega);have a2:=Int.emod_lt_of_pos at_ (show 0<J0 y.1 by omega);refine⟨(at_%J0 y.1).toNat,?_,by omega,by omega⟩;unfold oT;rw[if_neg (by omega),show aT .i64 at_=at_ by omega,Int.tmod_eq_emod_of_nonneg q1.1];rw[Int.toNat_of_nonneg a1]
   obtain⟨b,rfl⟩:=Int.eq_ofNat_of_zero_le q2.1;have ag:J0 y.1=(y.1.length:Int):=rfl;have A:k<y.1.length:=by omega
   obtain⟨p1,e1,K,_⟩:=xV (l:=y.1) (k:=(k:Int)) k0 (by omega);have o2:=Jh (k:Int) 1;obtain⟨p2,e2,D,_⟩:=NV (l:=y.1) (k:=J1 .i64 (k:Int) 1) (by omega) (by omega);have Q:=UInt8.toNat_lt y.1[k];have J:toStr [eP .u8 ((y.1[k].toNat:Nat):Int) (b:Int)]=[UInt8.ofNat (y.1[k].toNat^^^b)]:=by rw[JMR Q (by omega)];simp[toStr]
   have U:y.1[k]≠UInt8.ofNat (y.1[k].toNat^^^b):=by
    intro e;have h1:=congrArg UInt8.toNat e;have F:y.1[k].toNat^^^b<2^8:=Nat.xor_lt_two_pow Q (by omega);rw[UInt8.toNat_ofNat',Nat.mod_eq_of_lt F]at h1;have C:y.1[k].toNat^^^0=y.1[k].toNat^^^b:=by rw[Nat.xor_zero];exact h1
    have:=ku C;omega
   generalize UInt8.ofNat (y.1[k].toNat^^^b)=o at J U;rw[Int.toNat_natCast]at K;have M:(J1 .i64 (k:Int) 1).toNat=k+1:=by omega
   rw[M]at D;subst K D;have W:bQ (y.1.take k) [o]=some (y.1.take k++[o]):=by unfold bQ;rw[if_pos (by simp only[lW,FP,List.length_nil];omega)]
   have e8:bQ (y.1.take k++[o]) (y.1.drop (k+1))=some (y.1.set k o):=by unfold bQ;rw[if_pos (by simp only[cN,lW,FP,List.length_nil,lU];omega),List.set_eq_take_append_cons_drop,if_pos A];simp
   refine .same Z (.same e1 (.same (GJ A) ?_));rw[J];refine .same W (.same e2 (.same e8 ?_));have G:J0 (y.1.set k o)<=1073741824:=by unfold J0;rw[List.length_set];omega
   obtain⟨z,q,_⟩:=mp G;rw[Ep G];refine .same q (.some ?_);rw[E]at q A;have:=JA5 R hf ht n A (c:=o) (by
    rw[aS A];intro h;injection h with h;apply U;rw[<-h]
    congr 1) z q
   exact cU.2 this
 obtain⟨y,e,rfl⟩:=N;exact e
end Go.Am
end
section
namespace Go.Am
set_option maxRecDepth 20000
def AT{α:Type}(f:FuncId):List (FuncId×α)->Option α|[]=>none|(g,a)::r=>if f=g then some a else AT f r
noncomputable def kc:List (FuncId×AFn):=[(21,aL ly),(15,aL Zb),(10,aL JCk),(88,aL Uc),(127,aL Zh),(126,aL Uq),(107,aL Sd),(106,aL K8),(105,aL Xu),(108,aL Xm),(109,aL Xv),(89,aL O8),(52,aL O4),(93,aL V3),(59,aL Yf),(65,aL Ia),(30,aL So),(51,aL Vt),(90,aL Vo),(53,aL O2),(19,aL Ku),(39,aL Fu),(103,aL Yq),(73,aL Fz)]
noncomputable def j8:List (FuncId×AFn):=[(38,aL Oi),(74,aL Hs),(40,aL T9),(9,aL N1),(70,aL Yi),(35,aL Wy),(148,aL Y4),(125,aL X5),(100,aL JeM),(138,aL T8),(123,aL Hx),(137,aL Ho),(135,aL JA2),(136,aL Ff),(122,aL Fb),(98,aL JAe),(97,aL Un),(134,aL Yd),(121,aL Mv),(96,aL N6),(63,aL Pf),(68,aL Kg),(67,aL O9),(33,aL O5)]
noncomputable def lm:List (FuncId×AFn):=[(34,aL Mg),(147,aL Uo),(238,aL Rj),(193,aL Pl),(194,aL Mh),(163,aL Pa),(181,aL Np),(249,aL X0),(264,aL Nq),(265,aL K9),(266,aL Kn),(223,aL M9),(252,aL Q2),(251,aL Wj),(201,aL Ov),(169,aL Nw),(267,aL JA1),(224,aL P9),(225,aL Zi),(180,aL Oy),(159,aL Na),(151,aL Nb),(139,aL Q9),(24,aL Va)]
noncomputable def j9:List (FuncId×AFn):=[(214,aL Tu),(215,aL JAh),(260,aL Hr),(217,aL Ig),(213,aL Ln),(257,aL Uv),(258,aL Gn),(259,aL T7),(216,aL L6),(170,aL Lj),(154,aL Ld),(167,aL G3),(184,aL Hm),(176,aL F0),(75,aL Ge),(212,aL Sm),(256,aL Wt),(211,aL Sr),(210,aL Rh),(175,aL Ul),(209,aL Re),(174,aL JDI),(156,aL Mp),(143,aL Zg)]
noncomputable def ka:List (FuncId×AFn):=[(168,aL Qf),(153,aL O1),(76,aL Ft),(202,aL Q1),(203,aL N2),(171,aL Ti),(205,aL Kd),(254,aL Vs),(206,aL Ow),(287,aL Qj),(253,aL Pw),(204,aL Uh),(207,aL Lz),(172,aL Mt),(255,aL JA8),(208,aL Nj),(173,aL U1),(155,aL Mz),(142,aL Ng),(232,aL He),(274,aL H3),(275,aL Kq),(231,aL Uy),(190,aL Uz)]
noncomputable def lb:List (FuncId×AFn):=[(189,aL Wf),(191,aL I6),(234,aL N9),(233,aL Wa),(237,aL Hd),(276,aL Ro),(235,aL G5),(277,aL JDl),(236,aL Vf),(192,aL Hj),(162,aL Lw),(188,aL Tl),(161,aL H8),(227,aL JAg),(183,aL Ip),(84,aL Hw),(291,aL O7),(270,aL Sj),(271,aL Fo),(228,aL Xw),(185,aL M1),(230,aL Fx),(187,aL Tn),(273,aL Pe)]
noncomputable def kj:List (FuncId×AFn):=[(295,aL O3),(292,aL Ks),(272,aL N8),(229,aL Ib),(186,aL L4),(269,aL Mk),(268,aL Sx),(226,aL Kh),(182,aL Ic),(160,aL Qr),(146,aL Iv),(144,aL Uu),(198,aL Xf),(250,aL Kl),(199,aL Fe),(165,aL Xa),(282,aL Qh),(245,aL Wh),(284,aL U6),(285,aL gw),(247,aL Qw),(281,aL S5),(243,aL Lx),(242,aL Mo)]
noncomputable def kv:List (FuncId×AFn):=[(286,aL P2),(248,aL Hq),(283,aL JAj),(246,aL Tw),(240,aL Us),(279,aL R8),(280,aL Vu),(241,aL Ph),(244,aL H2),(278,aL Tv),(239,aL Wp),(195,aL JCh),(196,aL Vr),(197,aL Xk),(164,aL JDR),(200,aL Kt),(166,aL Hi),(152,aL JCe),(141,aL Zp),(177,aL If),(42,aL Py),(77,aL Ms),(44,aL T2),(219,aL Nr)]
noncomputable def lh:List (FuncId×AFn):=[(218,aL K3),(178,aL Ra),(157,aL Oq),(48,aL Vn),(87,aL Zn),(85,aL Zr),(86,aL Ze),(50,aL R6),(220,aL Lh),(294,aL L7),(290,aL L5),(263,aL Nd),(297,aL Uf),(298,aL Z4),(299,aL Y0),(296,aL Ud),(293,aL Rs),(288,aL Rp),(261,aL Qe),(289,aL N4),(262,aL G6),(221,aL Wm),(222,aL Q8),(179,aL Mi)]
noncomputable def kh:List (FuncId×AFn):=[(158,aL I5),(145,aL JeC),(140,aL Z2),(124,aL Z9),(99,aL Gd),(66,aL Zk),(32,aL Zj),(11,aL JCu),(69,aL Z6),(36,aL Zz),(31,aL Vb),(64,aL Th),(62,aL Vp),(27,aL Pc),(23,aL Ml),(12,aL JDq),(49,aL Sv),(17,aL Ur),(43,aL Is),(14,aL Tx),(28,aL Yw),(18,aL Hz),(78,aL Fm),(45,aL Vz)]
noncomputable def XN:List (FuncId×AFn):=[(81,aL Zv),(83,aL Yy),(82,aL Y3),(47,aL R4),(80,aL Ys),(104,aL J9u),(79,aL Yx),(46,aL V9),(16,aL Qt),(3,aL Yc),(54,aL J8A),(20,aL JAm),(4,aL Xl)]
noncomputable def fns:List (FuncId×AFn):=kc++(j8++(lm++(j9++(ka++(lb++(kj++(kv++(lh++(kh++(XN))))))))))
noncomputable def fks:List (FuncId×oN):=[]
noncomputable def fps:List (FuncId×Prm):=[(72,JCa)]
abbrev PS:=FuncId->Option (List AV->List Blk->Option Res)
noncomputable def uS(p:PS):dV:=λf=>zt (AT f fns) (AT f fks) (AT f fps) (p f)
def AE(l:List TE):Prop:= ∀p,uQ (AF (uS p)) l
theorem ae0:AE []:=λ_=>trivial
theorem AS{i g S l f}(hf: ∀p,uS p i=some (.fn (aL f)))(A:AE l)(q: ∀x,onO (kE g x) (λy=>qR (TG.of l) f y.1 y.2 (kJ g))=S x)(hs:CW g=true:=by rfl):AE (aF i g S::l):=λp=>⟨kg (hf p) (A p) hs q,A p⟩
end Go.Am
end
