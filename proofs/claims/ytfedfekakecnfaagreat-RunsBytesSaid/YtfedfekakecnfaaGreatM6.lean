/-
  Parts of a proof.
-/
import Derived.ChangeArms
import Derived.OpenShut
import Derived.ChangeBears
import Derived.ChangeStays
import Derived.Handed
import Derived.RowKit3
import Derived.WalkKit
import Derived.ProofKit
import Derived.Test.YtfedfekakecnfaaGreatM2
import Derived.Test.YtfedfekakecnfaaGreatM3
import Derived.Test.YtfedfekakecnfaaGreatM4
import Derived.Test.YtfedfekakecnfaaGreatM5
set_option linter.unusedSimpArgs false
set_option linter.unusedVariables false
section
namespace Go.Am
set_option linter.unusedVariables false
set_option maxRecDepth 20000
set_option maxHeartbeats 4000000
theorem Tg{B S:Int}{X:List UInt8}(h:aB B S .s X)(a3:BS B S 0 0:=by omega)(hS:S<=9223372036854775807:=by omega):Tot (UN X) λy=>aB 4096 0 hY y:=by unfold UN;exact have:=Je (l:=X);.bind (zS (B:=0) (S:=S) ⟨aG 2,h.z,aD,trivial⟩ om om) λk h1=>have:=J2.1 h1.1.c.1;have:=J2.1 h1.1.1;have:0<=k.2.2.1/\k.2.2.1<=J0 k.2.1/\0<=k.1/\k.1<=65535:=⟨h1.2.1,h1.c.1,(h1.d.1 (show(2:Int)<=4 by decide)).1,h1.g rfl⟩;Jl (τ:=Int×EB×(List Js)) (λq=>(X,q.1,q.2.1,q.2.2)) (λq=>aB 0 0 zI q.1/\aB 0 S lT q.2.1/\aB 65535 S (.l Jk) q.2.2/\(J0 q.2.2+q.1<=65535)/\(J0 q.2.2<=65535)/\(0<=q.2.1.2.1)/\(q.2.1.2.1<=J0 q.2.1.1)/\(0<=q.1)) (λq=>q.1) (by rintro⟨n,V,e⟩ E;dsimp only at E;obtain⟨W,K,j,a1,Z,a2,a0,a5⟩:=E;unfold wo;(try dsimp only);exact have:=Je (l:=e);have:J0 e=_:=Jt j;have:=J2.1 W;.gt (λN=>.not (λI=>.bind (zS (B:=0) (S:=S) ⟨aG 4,K⟩ om om) λy4 v=>have:=J2.1 v.1.c.1;.bind (zS (B:=0) (S:=S) ⟨aG 1,v.1.2⟩ om om) λy5 w=>have:=J2.1 w.1.c.1;.bind (zS (B:=0) (S:=S) ⟨aG 8,w.1.2⟩ om om) λy6 x=>have:=J2.1 x.1.c.1;.bind (zS (B:=0) (S:=S) ⟨aG 8,x.1.2⟩ om om) λy7 o=>have:=J2.1 o.1.c.1;.bind (xr (B:=0) (S:=S) ⟨aG 2,o.1.2⟩ om om om om) λy8 r=>have:=J2.1 r.1.2.z.2.1;.bind (xr (B:=0) (S:=S) ⟨aG 1,r.1.2.z⟩ om om om om) λY A=>have:=J2.1 A.1.2.z.2.1;.bind (bE (B:=65535) (Bl:=65535) (Bm:=65535) (S:=S) (J0 e) 1 j (bU (B:=65535) (S:=S) (t:=Jk) oo ⟨v.1.1,w.1.1,x.1.1,o.1.1,r.1.1,A.1.1⟩)) λD C=>have:J0 D=_/\_:=lF C.1;have:=bN n 1;.some ⟨(JG .i64 n 1,Y.2,D),rfl,⟨eC,A.1.2.z,C.1,om,om,om,om,om⟩,om,om⟩) λI=>.inr (.ite (λR=>.some ⟨J8,aG 5⟩) λR=>.ne (λM=>.some ⟨J8,aG 4⟩) λM=>.bind ((vQ j).eqn) λa6 T=>.not (λF=>.some ⟨J8,aG 15⟩) λF=>have O:=qX j T.2 F;have Q:aB 4096 0 (.l Jk) e:=O.2;.some ⟨Q,aD⟩)) λN=>.inr (.ite (λP=>.some ⟨J8,aG 5⟩) λP=>.ne (λJ=>.some ⟨J8,aG 4⟩) λJ=>.bind ((vQ j).eqn) λa4 U=>.not (λG=>.some ⟨J8,aG 15⟩) λG=>have L:=qX j U.2 G;have H:aB 4096 0 (.l Jk) e:=L.2;.some ⟨H,aD⟩)) (k.1,k.2,[]) rfl ⟨h1.1.1,h1.1.2,J8,om,om,om,om,om⟩
theorem Ru{B S:Int}{X:List UInt8}(h:aB B S .s X)(af:BH B S:=by omega)(hS:S<=9223372036854775807:=by omega):Tot (VI X) λy=>aB 4096 0 (.pr lR zI) y:=by unfold VI;exact have s0:aB 0 S .s X:=h;.bind ((gB (B:=0) (S:=S) (X:=(X,0,2)) ⟨s0,aD,aG 2⟩).eqn) λy2 h1=>.bind ((gB (B:=0) (S:=S) (X:=(X,2,4)) ⟨s0,aG 2,aG 4⟩).eqn) λJ h2=>.bind ((gB (B:=0) (S:=S) (X:=(X,6,4)) ⟨s0,aG 6,aG 4⟩).eqn) λe h3=>.nef (λN=>have v6:=CW (x:=(X,6,4)) ⟨s0,aG 6,aG 4⟩ h3.2 N;have:J0 X<=S:=s0;have:=J2.1 h3.1.1;have:1<=(4:Int)/\(4:Int)<=8/\0<=(6:Int)/\(6:Int)<=J0 X/\(4:Int)<=J0 X-(6:Int)/\((4:Int)<=4->0<=e.1/\e.1<=4294967295)/\((4:Int)=1->e.1<=255)/\((4:Int)=2->e.1<=65535):=v6.1;have:=AT (J0 X) 10;.gt (λK=>.some ⟨aN,aG 5⟩) λK=>have:=nD 10 e.1;.bind (HX s0) λM F=>have L:aB 0 S .s M:=F.1;.bind ((gB (B:=0) (S:=S) (X:=(X,J1 .i64 10 e.1,1)) ⟨s0,Jj,aG 1⟩).eqn) λk A=>.nef (λz=>have a4:=CW (x:=(X,J1 .i64 10 e.1,1)) ⟨s0,Jj,aG 1⟩ A.2 z;have:=J2.1 A.1.1;have:1<=(1:Int)/\(1:Int)<=8/\0<=(J1 .i64 10 e.1)/\(J1 .i64 10 e.1)<=J0 X/\(1:Int)<=J0 X-(J1 .i64 10 e.1)/\((1:Int)<=4->0<=k.1/\k.1<=4294967295)/\((1:Int)=1->k.1<=255)/\((1:Int)=2->k.1<=65535):=a4.1;have:=AT (J0 X) (J1 .i64 10 e.1);have:=AT (JG .i64 (J0 X) (J1 .i64 10 e.1)) 1;have:=ga 17 k.1;.lt (λW=>.some ⟨aN,aG 5⟩) λW=>Jl (τ:=Int×Int×(List aC)) (λq=>(X,M,q.1,k.1,q.2.1,[],0,0,[],[],q.2.2,y2.1,J.1,[],[])) (λq=>aB 0 0 zI q.1/\aB 0 0 zI q.2.1/\aB 255 0 (.l Jb) q.2.2/\(0<=q.2.1)/\(q.2.1<=k.1)/\(q.1+17*(k.1-q.2.1)<=J0 X)/\(0<=q.1)/\(J0 q.2.2<=q.2.1)) (λq=>k.1-q.2.1) (by rintro⟨g,r,j⟩ E;dsimp only at E;obtain⟨C,H,n,ab,ag,ae,ad,aa⟩:=E;unfold wt;(try dsimp only);exact have:=J2.1 H;have:=J2.1 C;have:J0 j=_/\_:=lF n;.lt (λG=>.bind ((gB (B:=0) (S:=S) (X:=(X,g,1)) ⟨s0,C,aG 1⟩).eqn) λy8 Y=>.bind ((gB (B:=0) (S:=S) (X:=(X,J1 .i64 g 1,8)) ⟨s0,Jj,aG 8⟩).eqn) λy9 Q=>.bind ((gB (B:=0) (S:=S) (X:=(X,J1 .i64 g 9,8)) ⟨s0,Jj,aG 8⟩).eqn) λa8 U=>.bind (bE (B:=256) (Bl:=255) (Bm:=1) (S:=0) (J0 j) 1 n (bU (B:=1) (S:=0) (t:=Jb) oo ⟨Y.1.1,Q.1.1,U.1.1⟩)) λo D=>have:J0 o=_:=Jt D.1;have a1:aB 255 0 (.l Jb) o:=⟨(by omega:J0 o<=255),λx hx=>D.1.2 x hx⟩;have:=nD r 1;have:=nD g 17;.some ⟨(J1 .i64 g 17,J1 .i64 r 1,o),rfl,⟨Jj,Jj,a1,om,om,om,om,om⟩,om,om⟩) λG=>.inr (.bind (Tg L) λV w=>.ne (λR=>.some ⟨aN,w.2⟩) λR=>.bind (OB s0) λI O=>have P:aB 0 S .s I:=O.1;.bind (R2 P) λT v=>.ne (λZ=>.some ⟨aN,v.2⟩) λZ=>have a0:aB 16384 1073741824 lR (y2.1,J.1,V.1,j,T.1):=⟨h1.1.1,h2.1.1,w.1.u,n.u,v.1.u⟩;.bind (s8 a0) λac a9=>.not (λa2=>.some ⟨aN,aG 24⟩) λa2=>.some ⟨⟨h1.1.1,h2.1.1,w.1,n.u,v.1.u⟩,aD⟩)) (J1 .i64 (J1 .i64 10 e.1) 1,0,[]) rfl (have:=nD (J1 .i64 10 e.1) 1;⟨Jj,aD,J8,om,om,om,om,om⟩)) λz=>.some ⟨aN,aG 5⟩) λN=>.some ⟨aN,aG 5⟩
theorem Ro{B S:Int}{X:bX}(h:aB B S JP X)(G:BG B S:=by omega):Tot (VK X) λy=>aB 4096 0 (.pr lR (.pr zI .b)) y:=by unfold VK;exact .bind ((oQ h).eqn) λK h1=>.not (λr=>.some ⟨aN,aD,trivial⟩) λr=>have D:=mV h h1.2 r;have:=Je (l:=X.2.1);have:J0 X.2.1=_:=Jt h.2.1;have g:aB 4096 8192 JP X:=D.2;have:=bN (J0 X.2.1) 1;Jl (τ:=Int) (λq=>(q,X,0,0,[],[],[])) (λq=>(aB 0 0 zI q/\q<=JG .i64 (J0 X.2.1) 1)) (λq=>q-0) (by rintro e ⟨x,F⟩;exact have:=J2.1 x;.ge (λn=>.bind (Jf g.2.1) λJ E=>.ne (λk=>have:=bN e 1;.some ⟨JG .i64 e 1,rfl,⟨eC,om⟩,om,om⟩) λk=>.bind (Jf g.2.1) λC o=>have A:aB 16384 1073741824 .s C.2.2.2.2.2.2.2:=o.1.z.2.2.2.2.2.2.2.u;.bind (Ru A) λI j=>.eq (λv=>.bind (Jf g.2.1) λH w=>.some ⟨j.1,w.1.z.1,trivial⟩) λv=>have:=bN e 1;.some ⟨JG .i64 e 1,rfl,⟨eC,om⟩,om,om⟩) λn=>.some ⟨aN,aD,trivial⟩) (JG .i64 (J0 X.2.1) 1) rfl ⟨eC,om⟩
theorem Qc{B S:Int}{X:jC}(h:aB B S rA X)(n:BG B S:=by omega):Tot (UI X) λy=>aB 4096 0 EV y:=by unfold UI;exact .bind (Ro h.1) λq h1=>.not (λe=>have:=J2.1 h.1.1;.gt (λg=>.some ⟨aN,aG 24⟩) λg=>.bind (qs h.2) λo k=>.some ⟨⟨h.2,aG 1,aD,J8,J8,J8,k.1.u⟩,aD⟩) λe=>have:=J2.1 h1.1.1;.ne (λj=>.some ⟨aN,aG 24⟩) λj=>.some ⟨⟨h.2,h1.1.2.1,h1.2.1,h1.1.c.1,J8,h1.1.d⟩,aD⟩
section
variable {B S:Int}
theorem va{un:List aC}{n:aA}(h:aB B S (.l Jb) un)(hn:aB B S J4 n)(U:BS B S 0 0:=by omega)(Y:B<=17179869183:=by omega):Tot (J9 kg (un,false,0,n,[])) λy=>aB (B+1) S (.l Jb) y/\J0 y<=J0 un+1:=by
 have L:J0 un<=B:=h.1;have H:=Je (l:=un);refine Jl (τ:=Bool×Int×List aC) (λq=>(un,q.1,q.2.1,n,q.2.2)) (λq=>0<=q.2.1/\q.2.1<=J0 un/\aB (B+1) S (.l Jb) q.2.2/\J0 q.2.2<=q.2.1+1/\(q.1=false->J0 q.2.2<=q.2.1)) (λq=>J0 un-q.2.1) ?_ (false,0,[]) rfl ⟨aU _,H,J8,by show(0:Int)<=0+1;omega,λ_=>aU _⟩;rintro⟨done,i,out⟩ ⟨F,h1,h2,M,o⟩;dsimp only at F h1 h2 M o;unfold kg;dsimp only;have:=Jn i 1;have app: ∀{x:aC} {l:List aC},aB (B+1) S (.l Jb) l->aB (B+1) S Jb x->J0 l+1<=B+1->Tot (JC 24 l [x]) λr=>aB (B+1) S (.l Jb) r/\J0 r=J0 l+1:=λL R J=>
  (bE (B:=B+1) (Bl:=B+1) (Bm:=B+1) (S:=S) _ 1 L (bU oo R) rfl rfl (aU _) (aU _) J oo (by decide)).mono λ_ h=>⟨h.1,h.2.1⟩
 have v:aB (B+1) S Jb (n.2.2.2.2.2.2.1.1,n.1,n.1):=⟨hn.2.2.2.2.2.2.1.1,hn.1,hn.1⟩;have A:Tot (JN n) λ_=>True:=(pG hn).mono λ_ _=>trivial;have nx: ∀{d:Bool} {l:List aC},i<J0 un->aB (B+1) S (.l Jb) l->J0 l<=i+2->(d=false->J0 l<=i+1)->(∃c':Bool×Int×List aC,(un,d,J1 .i64 i 1,n,l)=(un,c'.1,c'.2.1,n,c'.2.2)/\(0<=c'.2.1/\c'.2.1<=J0 un/\aB (B+1) S (.l Jb) c'.2.2/\J0 c'.2.2<=c'.2.1+1/\(c'.1=false->J0 c'.2.2<=c'.2.1))/\J0 un-c'.2.1<J0 un-i/\0<=J0 un-i):=fun{d l} a1 T Z Q=>
  ⟨(d,J1 .i64 i 1,l),rfl,⟨by show 0<=J1 .i64 i 1;omega,by show J1 .i64 i 1<=_;omega,T,by show J0 l<=J1 .i64 i 1+1;omega,λe=>by show J0 l<=J1 .i64 i 1;have:=Q e;omega⟩,by show J0 un-J1 .i64 i 1<J0 un-i;omega,oo⟩
 refine .lt (λc=>?_) λc=>Tot.map (P:=λy:List aC=>aB (B+1) S (.l Jb) y/\J0 y<=J0 un+1) ?_ λ_ h=>h
 ·have O:Tot (idx un i) λr=>aB (B+1) S Jb r:=(Jf h F c).mono λ_ h=>h.1.u;refine .bind O λg k=>?_
  have body: ∀{d:Bool} {l:List aC},aB (B+1) S (.l Jb) l->J0 l<=i+1->(d=false->J0 l<=i)->Tot (ρ:=(FJ)⊕(List aC)) (if aI g.1 n.2.2.2.2.2.2.1.1 then
     (JN n).bind λC=>
     if C then
      (JC 24 l [(g.1,g.2.1,n.1)]).bind λG=>
      some (.inl (un,true,J1 .i64 i 1,n,G))
     else
      if aO n.2.2.2.2.2.1 g.2.2 then
       some (.inl (un,true,J1 .i64 i 1,n,l))
      else
       if aO n.2.2.2.2.2.1 g.2.1 then
        (JC 24 l [(g.1,J1 .i64 n.2.2.2.2.2.1 1,g.2.2)]).bind λw=>
        some (.inl (un,true,J1 .i64 i 1,n,w))
       else
        (JC 24 l [g]).bind λE=>
        some (.inl (un,true,J1 .i64 i 1,n,E))
    else
     (JC 24 l [g]).bind λK=>
     some (.inl (un,d,J1 .i64 i 1,n,K))) λr=>match r with| .inl z=> ∃c':Bool×Int×List aC,z=(un,c'.1,c'.2.1,n,c'.2.2)/\(0<=c'.2.1/\c'.2.1<=J0 un/\aB (B+1) S (.l Jb) c'.2.2/\J0 c'.2.2<=c'.2.1+1/\(c'.1=false->J0 c'.2.2<=c'.2.1))/\J0 un-c'.2.1<J0 un-i/\0<=J0 un-i| .inr y=>aB (B+1) S (.l Jb) y/\J0 y<=J0 un+1:=fun{d l} b1 b2 N=>
   .eq (λ_=>.bind A λC _=>.ite (λ_=>.bind (app b1 ⟨k.1,k.2.1,hn.1⟩ oo) λG D=>.some (nx c D.1 (by have:=D.2;omega) λe=>by cases e)) λ_=>.ge (λ_=>.some (nx c b1 oo λe=>by cases e)) λ_=>.ge (λ_=>.bind (app b1 ⟨k.1,Jj,k.2.2⟩ oo) λw j=>.some (nx c j.1 (by have:=j.2;omega) λe=>by cases e)) λ_=>.bind (app b1 k oo) λw j=>.some (nx c j.1 (by have:=j.2;omega) λe=>by cases e)) λ_=>.bind (app b1 k oo) λw j=>.some (nx c j.1 (by have:=j.2;omega) λe=>by have:=j.2;have:=N e;omega)
  refine .gt (λ_=>.not (λd=>.bind A λV _=>.ite (λ_=>.bind (app h2 v (by have:=o d;omega)) λW I=>?_) λ_=>?_) λd=>?_) λ_=>?_;exact(body (d:=true) I.1 (by have:=I.2;have:=o d;omega) λe=>by cases e).mono λr h=>by cases r<;>exact h
  all_goals
   exact(body (d:=done) h2 M o).mono λr h=>by cases r<;>exact h
 exact .not (λd=>.bind A λy _=>.ite (λ_=>.bind (app h2 v (by have:=o d;omega)) λy f=>.some ⟨f.1,by have:=f.2;have:=o d;omega⟩) λ_=>.some ⟨h2,oo⟩) λ_=>.some ⟨h2,oo⟩
theorem DH{X:RI}(h:aB B S AB X)(e:BS B S 0 0:=by omega)(g:B<=17179869183:=by omega):Tot (sP X) λy=>aB (B+1) S (.l Jb) y/\J0 y<=J0 X.1+1:=by unfold sP;exact .bind (pG h.2) λj _=>.not (λ_=>.ne (λ_=>.some ⟨h.1.u,oo⟩) λ_=>va h.1 h.2) λ_=>va h.1 h.2
end
theorem I3{B S:Int}{X:oZ×aA}(h:aB B S (.pr sU J4) X)(p0:J0 X.1.2.2.2.2.2.1<=16000)(al:BG B S:=by omega):Tot (SZ X) λy=>aB B S EV y/\(J0 y.1.2.2.2.2.2.1<=J0 X.1.2.2.2.2.2.1+1):=by unfold SZ;exact have j:aB 16000 S (.l Jb) X.1.2.2.2.2.2.1:=⟨(by omega:J0 X.1.2.2.2.2.2.1<=16000),λx hx=>h.1.g.1.2 x hx⟩;.gt (λc5=>.bind ((qT (B:=B) (S:=S) (X:=(X.1.2.2.2.1,X.2.2.2.1)) ⟨h.1.d.1,h.2.z.2.2.1⟩).eqn) λy2 h7=>.lt (λa4=>.bind (sx (B:=B) (S:=S) ⟨h.1.d.1,h.2.z.2.2.1⟩) λy3 w=>.ne (λa0=>.some ⟨⟨h.1,w.2⟩,om⟩) λa0=>have a7:aB 16384 S AC (y3.1,X.2):=⟨w.1.u,h.2.z.u⟩;.bind (yI a7) λy4 k=>.ne (λa2=>.some ⟨⟨⟨h.1.1,h.1.2.1,h.1.c.1,w.1.u,h.1.e⟩,k.2⟩,om⟩) λa2=>.bind (yQ (B:=B) (S:=S) ⟨h.1.h,h.2.z.u⟩) λy5 r=>.ne (λa1=>.some ⟨⟨⟨h.1.1,kE h.1.2.1 Jj,h.1.c.1,k.1.u,h.1.e⟩,r.2⟩,om⟩) λa1=>.bind (pG (B:=0) (S:=S) h.2.z) λy6 ag=>.ite (λP=>have:=J2.1 h.2.z.2.2.2.2.2.2.1.1;.ge (λQ=>.some ⟨⟨⟨h.1.1,kE h.1.2.1 Jj,h.1.c.1,k.1.u,h.1.e.1,j.u,r.1.u⟩,aG 1⟩,om⟩) λQ=>.bind (DH (B:=16000) (S:=S) ⟨j,h.2.z.u⟩) λM G=>have Y:aB 16001 S (.l Jb) M:=G.1.u;have:J0 M<=J0 X.1.2.2.2.2.2.1+1:=G.2;.some ⟨⟨⟨h.1.1,kE h.1.2.1 Jj,h.1.c.1,k.1.u,h.1.e.1,Y.u,r.1.u⟩,aD⟩,om⟩) λP=>.bind (DH (B:=16000) (S:=S) ⟨j,h.2.z.u⟩) λZ A=>have N:aB 16001 S (.l Jb) Z:=A.1.u;have:J0 Z<=J0 X.1.2.2.2.2.2.1+1:=A.2;.some ⟨⟨⟨h.1.1,kE h.1.2.1 Jj,h.1.c.1,k.1.u,h.1.e.1,N.u,r.1.u⟩,aD⟩,om⟩) λa4=>.bind (yI (B:=B) (S:=S) ⟨h.1.d.1,h.2.z.u⟩) λy9 n=>.ne (λa9=>.some ⟨⟨h.1,n.2⟩,om⟩) λa9=>.bind (yQ (B:=B) (S:=S) ⟨h.1.h,h.2.z.u⟩) λae v=>.ne (λa6=>.some ⟨⟨⟨h.1.1,kE h.1.2.1 Jj,h.1.c.1,n.1.u,h.1.e⟩,v.2⟩,om⟩) λa6=>.bind (pG (B:=0) (S:=S) h.2.z) λak aj=>.ite (λa5=>have:=J2.1 h.2.z.2.2.2.2.2.2.1.1;.ge (λL=>.some ⟨⟨⟨h.1.1,kE h.1.2.1 Jj,h.1.c.1,n.1.u,h.1.e.1,j.u,v.1.u⟩,aG 1⟩,om⟩) λL=>.bind (DH (B:=16000) (S:=S) ⟨j,h.2.z.u⟩) λH K=>have a3:aB 16001 S (.l Jb) H:=K.1.u;have:J0 H<=J0 X.1.2.2.2.2.2.1+1:=K.2;.some ⟨⟨⟨h.1.1,kE h.1.2.1 Jj,h.1.c.1,n.1.u,h.1.e.1,a3.u,v.1.u⟩,aD⟩,om⟩) λa5=>.bind (DH (B:=16000) (S:=S) ⟨j,h.2.z.u⟩) λD I=>have T:aB 16001 S (.l Jb) D:=I.1.u;have:J0 D<=J0 X.1.2.2.2.2.2.1+1:=I.2;.some ⟨⟨⟨h.1.1,kE h.1.2.1 Jj,h.1.c.1,n.1.u,h.1.e.1,T.u,v.1.u⟩,aD⟩,om⟩) λc5=>.bind (yI (B:=B) (S:=S) ⟨h.1.d.1,h.2.z.u⟩) λah o=>.ne (λV=>.some ⟨⟨h.1,o.2⟩,om⟩) λV=>.bind (yQ (B:=B) (S:=S) ⟨h.1.h,h.2.z.u⟩) λaf q=>.ne (λU=>.some ⟨⟨⟨h.1.1,kE h.1.2.1 Jj,h.1.c.1,o.1.u,h.1.e⟩,q.2⟩,om⟩) λU=>.bind (pG (B:=0) (S:=S) h.2.z) λai ad=>.ite (λW=>have:=J2.1 h.2.z.2.2.2.2.2.2.1.1;.ge (λR=>.some ⟨⟨⟨h.1.1,kE h.1.2.1 Jj,h.1.c.1,o.1.u,h.1.e.1,j.u,q.1.u⟩,aG 1⟩,om⟩) λR=>.bind (DH (B:=16000) (S:=S) ⟨j,h.2.z.u⟩) λE C=>have O:aB 16001 S (.l Jb) E:=C.1.u;have:J0 E<=J0 X.1.2.2.2.2.2.1+1:=C.2;.some ⟨⟨⟨h.1.1,kE h.1.2.1 Jj,h.1.c.1,o.1.u,h.1.e.1,O.u,q.1.u⟩,aD⟩,om⟩) λW=>.bind (DH (B:=16000) (S:=S) ⟨j,h.2.z.u⟩) λF J=>have a8:aB 16001 S (.l Jb) F:=J.1.u;have:J0 F<=J0 X.1.2.2.2.2.2.1+1:=J.2;.some ⟨⟨⟨h.1.1,kE h.1.2.1 Jj,h.1.c.1,o.1.u,h.1.e.1,a8.u,q.1.u⟩,aD⟩,om⟩
theorem V2{B S:Int}{X:jC}(h:aB B S rA X)(ad:BG B S:=by omega):Tot (VD X) λy=>aB 400000001 1073741824 EV y:=by unfold VD;exact .bind ((oQ h.1).eqn) λy2 h1=>.not (λQ=>.some ⟨aN,aG 26⟩) λQ=>have v3:=mV h.1 h1.2 Q;have:=Je (l:=X.1.2.1);have:J0 X.1.2.1=_:=Jt h.1.2.1;have A:aB 4096 8192 JP X.1:=v3.2;.ltf (λO=>.gt (λU=>.some ⟨aN,aG 1⟩) λU=>have P:aB 16384 1073741824 rA (X.1,X.2):=⟨A.u,h.2⟩;.bind (Qc P) λD w=>.ne (λa1=>.some ⟨aN,w.2⟩) λa1=>Jl (τ:=Int×oZ) (λq=>(q.1,X.1,(0,0,0,[],[],[],[]),q.2)) (λq=>aB 0 0 zI q.1/\aB 16384 1073741824 sU q.2/\(0<=q.1)/\(q.1<=J0 X.1.2.1)/\(J0 q.2.2.2.2.2.2.1<=4096+q.1)) (λq=>J0 X.1.2.1-q.1) (by rintro⟨r,e⟩ H;dsimp only at H;obtain⟨W,j,af,a9,a3⟩:=H;unfold xh;(try dsimp only);exact have:=J2.1 W;have:J0 e.2.2.2.2.2.1=_/\_:=lF j.2.2.2.2.2.1;.lt (λV=>.bind (Jf A.2.1) λy5 a6=>.le (λL=>have a7:aB 8192 1073741824 (.l Jb) e.2.2.2.2.2.1:=⟨(by omega:J0 e.2.2.2.2.2.1<=8192),λx K=>j.2.2.2.2.2.1.2 x K⟩;have:=Jn r 1;.some ⟨(J1 .i64 r 1,e),rfl,⟨Jj,j,om,om,om⟩,om,om⟩) λL=>.bind (Jf A.2.1) λy6 Z=>.bind (I3 (B:=16384) (S:=1073741824) ⟨j,Z.1.z.u⟩ om) λC E=>have v:aB 16384 1073741824 EV C:=E.1.u;have:J0 C.1.2.2.2.2.2.1=_/\_:=lF v.1.g.1;have:J0 C.1.2.2.2.2.2.1<=J0 e.2.2.2.2.2.1+1:=E.2;.ne (λT=>.some ⟨aN,v.2⟩) λT=>have aa:aB 8192 1073741824 (.l Jb) C.1.2.2.2.2.2.1:=⟨(by omega:J0 C.1.2.2.2.2.2.1<=8192),λx K=>v.1.g.1.2 x K⟩;have:=Jn r 1;.some ⟨(J1 .i64 r 1,C.1),rfl,⟨Jj,v.1,om,om,om⟩,om,om⟩) λV=>.inr (have:J0 e.2.2.2.1=_/\_:=lF j.2.2.2.1;Jl (τ:=Int×(List Js)) (λq=>(q.1,X.1,(0,0,0,[],[],[],[]),e,q.2)) (λq=>(aB 0 0 zI q.1/\0<=q.1/\(q.1<=J0 e.2.2.2.1\/q.1<=0))/\(aB 16384 1073741824 (.l Jk) q.2/\J0 q.2<=1*q.1+0)) (λq=>J0 e.2.2.2.1-q.1) (by rintro⟨n,o⟩ G;dsimp only at G;obtain⟨⟨a0,a4,a8⟩,k,ae⟩:=G;unfold xg;(try dsimp only);exact have:=J2.1 a0;.lt (λR=>.bind (Jf j.2.2.2.1) λy9 ac=>.gt (λY=>.bind (Jf j.2.2.2.1) λa5 N=>have:J0 o=_/\_:=lF k;.bind (bE (B:=16384) (Bl:=16384) (Bm:=16384) (S:=1073741824) (J0 o) 1 k (bU (B:=16384) (S:=1073741824) (t:=Jk) oo N.1)) λJ I=>have:=Jn n 1;have:J0 J=_:=Jt I.1;.some ⟨(J1 .i64 n 1,J),rfl,⟨⟨Jj,om,om⟩,I.1,om⟩,om,om⟩) λY=>have:=Jn n 1;have:J0 o=_:=Jt k;.some ⟨(J1 .i64 n 1,o),rfl,⟨⟨Jj,om,om⟩,k,om⟩,om,om⟩) λR=>.inr (.bind (Mq (B:=16384) (S:=1073741824) ⟨A.u,k⟩) λab F=>.ne (λM=>.some ⟨aN,F.2⟩) λM=>.some ⟨⟨j.1,j.2.1,j.2.2.1,k.u,F.1.u,j.2.2.2.2.2.u⟩,aD⟩)) (0,[]) rfl (have:J0 ([]:List Js)=0:=rfl;⟨⟨aD,om,om⟩,J8,om⟩))) (0,D.1) rfl (have:J0 D.1.2.2.2.2.2.1<=4096:=w.1.g.1.1;have:=Je (l:=D.1.2.2.2.2.2.1);have:J0 D.1.2.2.2.2.2.1=_:=Jt w.1.g.1;⟨aD,w.1.u,om,om,om⟩)) λO=>.some ⟨aN,aG 1⟩
theorem O4{B S:Int}{X:bX×oZ×Int}(h:aB B S (.pr JP EV) X)(O:BG B S:=by omega):Tot (TY X) λy=>aB 16384 1073741824 eR y:=by unfold TY;exact .bind (rf h.c) λv h1=>.ne (λJ=>.some ⟨aN,aG 1⟩) λJ=>.bind ((jJ (B:=B) (S:=S) (X:=(X.2.1.1,X.2.1.2.1,X.1,v.1,(X.2.1.2.2.2.2.1,[]),X.2.1.2.2.2.1,X.2.1.2.2.2.2.2.2,X.2.1.2.2.2.2.2.1)) ⟨h.2.1.1,h.2.1.2.1,h.1,h1.1.u,⟨h.2.1.e.1,J8⟩,h.2.1.d.1,h.2.1.h,h.2.1.g.1⟩).eqn) λQ K=>.not (λG=>.some ⟨aN,aG 15⟩) λG=>have I:=kJ (x:=(X.2.1.1,X.2.1.2.1,X.1,v.1,(X.2.1.2.2.2.2.1,[]),X.2.1.2.2.2.1,X.2.1.2.2.2.2.2.2,X.2.1.2.2.2.2.2.1)) ⟨h.2.1.1,h.2.1.2.1,h.1,h1.1.u,⟨h.2.1.e.1,J8⟩,h.2.1.d.1,h.2.1.h,h.2.1.g.1⟩ K.2 G;have j:aB 4096 8192 J5 (X.2.1.1,X.2.1.2.1,X.1,v.1,(X.2.1.2.2.2.2.1,[]),X.2.1.2.2.2.1,X.2.1.2.2.2.2.2.2,X.2.1.2.2.2.2.2.1):=I.2;have:J0 X.2.1.2.2.2.1=_/\_:=lF j.g.1;Jl (τ:=pS) (λq=>(q.1,X.1,X.2.1,(0,0,(0,[],0),(0,[],0),([],[]),[],[],[]),v.1,q.2)) (λq=>(aB 0 0 zI q.1/\0<=q.1/\(q.1<=J0 X.2.1.2.2.2.1\/q.1<=0))/\aB 16384 1073741824 J5 q.2) (λq=>J0 X.2.1.2.2.2.1-q.1) (by rintro⟨k,o⟩ z;dsimp only at z;obtain⟨⟨F,M,P⟩,n⟩:=z;unfold vw;(try dsimp only);exact have:=J2.1 F;.lt (λD=>.bind (Jf j.g.1) λR N=>.eq (λH=>have:=Jn k 1;.some ⟨(J1 .i64 k 1,o),rfl,⟨⟨Jj,om,om⟩,n⟩,om,om⟩) λH=>.bind (Jf j.g.1) λE w=>.bind ((vH (B:=16384) (S:=1073741824) (X:=(o,0,4,E.1,0,0,0,(0,0,(false,[]),false,[]),[])) ⟨n,aD,aG 4,w.1.1,aD,aD,aD,⟨aD,aD,⟨trivial,Ja⟩,trivial,Ja⟩,Ja⟩).eqn) λC r=>.ne (λA=>.some ⟨aN,r.1.1.c⟩) λA=>have L:Has C.1.2.2.2.2.2.1 E.1:=qw ⟨n,aD,aG 4,w.1.1,aD,aD,aD,⟨aD,aD,⟨trivial,Ja⟩,trivial,Ja⟩,Ja⟩ r.2 A;have:=Jn k 1;.some ⟨(J1 .i64 k 1,C.1),rfl,⟨⟨Jj,om,om⟩,r.1.1.1⟩,om,om⟩) λD=>.some ⟨n,aD⟩) (0,(X.2.1.1,X.2.1.2.1,X.1,v.1,(X.2.1.2.2.2.2.1,[]),X.2.1.2.2.2.1,X.2.1.2.2.2.2.2.2,X.2.1.2.2.2.2.2.1)) rfl ⟨⟨aD,om,om⟩,j.1,j.2.1,j.c.1.u,j.d.1.u,⟨j.e.1.1.u,J8⟩,j.g.u⟩
theorem G1{B S:Int}{X:SB}(h:aB B S (.pr JX Jg) X)(r:BH B S:=by omega)(w:S<=9223372036854775807:=by omega):Tot (SY X) λy=>aB B S lV y:=by unfold SY;exact .bind (L8 (B:=0) (S:=S) h.2.z.1) λo h1=>.ne (λj=>.some ⟨⟨aN,J8,aD,J8,trivial,J8⟩,h1.2⟩) λj=>have q:aB 16384 1073741824 rA (o.1,X.2.2.1):=⟨h1.1.u,h.2.z.2.1⟩;.bind (V2 q) λv g=>.ne (λn=>.some ⟨⟨aN,J8,aD,J8,trivial,J8⟩,g.2⟩) λn=>.bind (O4 (B:=400000001) (S:=1073741824) ⟨h1.1.u,g.1,h.2.z.2.2⟩) λx e=>.ne (λk=>.some ⟨⟨aN,J8,aD,J8,trivial,J8⟩,e.2⟩) λk=>.some ⟨⟨e.1.u,h.1⟩,aD⟩
theorem Hb{B S:Int}{X:SB}(h:aB B S (.pr JX Jg) X)(e:BH B S:=by omega)(g:S<=9223372036854775807:=by omega):Tot (SQ X) λy=>aB B S lV y:=by unfold SQ;exact .bind (G1 (B:=B) (S:=S) ⟨h.1,h.2.z.1.u,h.2.z.2.1,h.2.z.2.2⟩) λj h1=>.some (h1)
theorem Yz{B S:Int}{X:zW}(h:aB B S (.pr eO ED) X)(p0:J0 X.2.2.2.2.2.2.2.2.2.2.2.2.2.2.2.2.2.2.2.2.1<=16000)(V:J0 X.2.2.2.2.2.2.2.2.2.2.2.2.2.2.2.2.2.2.2.2.2<=16000)(Q:BG B S:=by omega)(W:S<=9223372036854775807:=by omega):Tot (VY X) λy=>aB B S SF y/\(J0 y.2.2.2.2.2.2.2.2.2.2.2.2.2.2.2.2.2.2.2.2.1<=J0 X.2.2.2.2.2.2.2.2.2.2.2.2.2.2.2.2.2.2.2.2.1+1/\J0 y.2.2.2.2.2.2.2.2.2.2.2.2.2.2.2.2.2.2.2.2.2<=J0 X.2.2.2.2.2.2.2.2.2.2.2.2.2.2.2.2.2.2.2.2.2+1):=by unfold VY;exact have:=Je (l:=X.2.2.2.2.2.2.2.2.2.2.2.2.2.2.2.2.2.2.2.2.1);have K:aB 16000 S (.l zI) X.2.2.2.2.2.2.2.2.2.2.2.2.2.2.2.2.2.2.2.2.1:=⟨(by omega:J0 X.2.2.2.2.2.2.2.2.2.2.2.2.2.2.2.2.2.2.2.2.1<=16000),λx A=>h.k.k.c.1.2 x A⟩;have H:aB 16000 S (.l dN) X.2.2.2.2.2.2.2.2.2.2.2.2.2.2.2.2.2.2.2.2.2:=⟨(by omega:J0 X.2.2.2.2.2.2.2.2.2.2.2.2.2.2.2.2.2.2.2.2.2<=16000),λx A=>h.k.k.e x A⟩;.bind (M9 (B:=B) (S:=S) ⟨⟨⟨h.2.1,h.c.1,⟨h.d.1,h.e.1,h.g.1⟩,⟨h.h.1,h.i.1,h.j.1⟩,⟨h.k.1,h.k.2.1⟩,h.k.c.1,h.k.d.1,h.k.e.1⟩,h.k.g.1,h.k.h.1,h.k.i.1,trivial,h.k.k.1⟩,h.1.z.2.2.2.1,h.1.z.2.2.1,h.1.z.2.2.2.2.1⟩) λL J=>.bind (Hb (B:=B) (S:=S) ⟨J.1,J.2.z.u,h.2.1,h.h.1⟩) λE n=>Jl (τ:=LD) (λq=>(E.2,q.1,X.2.1,X.2.2.1,X.2.2.2.1,X.2.2.2.2.1,X.2.2.2.2.2.1,X.2.2.2.2.2.2.1,X.2.2.2.2.2.2.2.1,X.2.2.2.2.2.2.2.2.1,X.2.2.2.2.2.2.2.2.2.1,X.2.2.2.2.2.2.2.2.2.2.1,X.2.2.2.2.2.2.2.2.2.2.2.1,X.2.2.2.2.2.2.2.2.2.2.2.2.1,X.2.2.2.2.2.2.2.2.2.2.2.2.2.1,X.2.2.2.2.2.2.2.2.2.2.2.2.2.2.1,X.2.2.2.2.2.2.2.2.2.2.2.2.2.2.2.1,X.2.2.2.2.2.2.2.2.2.2.2.2.2.2.2.2.1,X.2.2.2.2.2.2.2.2.2.2.2.2.2.2.2.2.2.1,X.2.2.2.2.2.2.2.2.2.2.2.2.2.2.2.2.2.2.1,X.2.2.2.2.2.2.2.2.2.2.2.2.2.2.2.2.2.2.2.1,q.2,X.2.2.2.2.2.2.2.2.2.2.2.2.2.2.2.2.2.2.2.2.2,X.1,(0,0,0,(false,[]),0),L.1,E.1)) (λq=>aB 0 0 zI q.1/\aB 16000 S (.l zI) q.2/\(0<=q.1)/\(q.1<=J0 q.2)/\(J0 q.2=J0 X.2.2.2.2.2.2.2.2.2.2.2.2.2.2.2.2.2.2.2.2.1)) (λq=>J0 q.2-q.1) (by rintro⟨o,r⟩ w;dsimp only at w;obtain⟨I,v,O,M,P⟩:=w;unfold Dh;(try dsimp only);exact have:=J2.1 I;.lt (λD=>.bind (gG (l:=r)) λ_ _=>.bind (nX v) λU N=>have:=Jn o 1;have:J0 (aX r (Int.toNat o) 0)<=16000:=(mQ (t:=zI) (i:=Int.toNat o) (x:=0) v aD).1;have:=Je (l:=aX r (Int.toNat o) 0);have:J0 (aX r (Int.toNat o) 0)=J0 r:=qH;.some ⟨(J1 .i64 o 1,aX r (Int.toNat o) 0),rfl,⟨Jj,mQ (t:=zI) (i:=Int.toNat o) (x:=0) v aD,om,om,om⟩,om,om⟩) λD=>.inr (.ne (λC=>.bind (DJ n.2) λR F=>.some ⟨⟨F.u,h.2.1,h.c.1,h.d.1,h.e.1,h.g.1,h.h.1,h.i.1,h.j.1,h.k.1,h.k.2.1,h.k.c.1,h.k.d.1,h.k.e.1,h.k.g.1,h.k.h.1,h.k.i.1,trivial,h.k.k.1,trivial,v.u,H.u⟩,om⟩) λC=>.bind (DJ (B:=0) (S:=0) aD) λT G=>.some ⟨⟨G.u,n.1.1.1,n.1.1.2.1,n.1.1.c.1.1,n.1.1.c.1.2.1,n.1.1.c.1.c,n.1.1.d.1.1,n.1.1.d.1.2.1,n.1.1.d.1.c,n.1.1.e.1.1,n.1.1.e.1.2,n.1.1.g.1,n.1.1.h.1,n.1.1.i,n.1.2.1,n.1.c.1,n.1.d.1,trivial,n.1.g,trivial,v.u,H.u⟩,om⟩)) (0,X.2.2.2.2.2.2.2.2.2.2.2.2.2.2.2.2.2.2.2.2.1) rfl ⟨aD,K,om,om,om⟩
theorem KV{B S:Int}{X:kz}(h:aB B S (.pr Ji (.pr zI ED)) X)(r:BH B S:=by omega):Tot (vU X) λy=>aB B S SF y/\(J0 y.2.2.2.2.2.2.2.2.2.2.2.2.2.2.2.2.2.2.2.2.1=J0 X.2.2.2.2.2.2.2.2.2.2.2.2.2.2.2.2.2.2.2.2.2.1/\J0 y.2.2.2.2.2.2.2.2.2.2.2.2.2.2.2.2.2.2.2.2.2=J0 X.2.2.2.2.2.2.2.2.2.2.2.2.2.2.2.2.2.2.2.2.2.2):=by unfold vU;exact .eq (λo=>.bind (DJ h.2.1) λw q=>.some ⟨⟨q.u,h.1.1.1,h.1.1.2.1,h.1.1.c.1.1,h.1.1.c.1.2.1,h.1.1.c.1.c,h.1.1.d.1.1,h.1.1.d.1.2.1,h.1.1.d.1.c,h.1.1.e.1.1,h.1.1.e.1.2,h.1.1.g.1,h.1.1.h.1,h.1.1.i,h.1.2.1,h.1.c.1,h.1.d.1,trivial,h.1.g,trivial,h.k.k.d⟩,om⟩) λo=>.bind (DJ h.2.1) λv n=>.some ⟨⟨n.u,h.c.1,h.d.1,h.e.1,h.g.1,h.h.1,h.i.1,h.j.1,h.k.1,h.k.2.1,h.k.c.1,h.k.d.1,h.k.e.1,h.k.g.1,h.k.h.1,h.k.i.1,h.k.j.1,trivial,h.k.k.2.1,trivial,h.k.k.d⟩,om⟩
theorem Y4{B S:Int}{X:zW}(h:aB B S (.pr eO ED) X)(p0:J0 X.2.2.2.2.2.2.2.2.2.2.2.2.2.2.2.2.2.2.2.2.1<=16000)(p1:J0 X.2.2.2.2.2.2.2.2.2.2.2.2.2.2.2.2.2.2.2.2.2<=16000)(ae:BH B S:=by omega)(hB:B<=1000000:=by omega)(hS:S<=1000000000000:=by omega):Tot (VV X) λy=>aB B S SF y/\(J0 y.2.2.2.2.2.2.2.2.2.2.2.2.2.2.2.2.2.2.2.2.1<=J0 X.2.2.2.2.2.2.2.2.2.2.2.2.2.2.2.2.2.2.2.2.1+1/\J0 y.2.2.2.2.2.2.2.2.2.2.2.2.2.2.2.2.2.2.2.2.2<=J0 X.2.2.2.2.2.2.2.2.2.2.2.2.2.2.2.2.2.2.2.2.2+1):=by unfold VV;exact have:=Je (l:=X.2.2.2.2.2.2.2.2.2.2.2.2.2.2.2.2.2.2.2.2.1);have:J0 X.2.2.2.2.2.2.2.2.2.2.2.2.2.2.2.2.2.2.2.2.2=_:=Jt h.k.k.d;have E:aB 16000 S (.l zI) X.2.2.2.2.2.2.2.2.2.2.2.2.2.2.2.2.2.2.2.2.1:=⟨(by omega:J0 X.2.2.2.2.2.2.2.2.2.2.2.2.2.2.2.2.2.2.2.2.1<=16000),λx P=>h.k.k.c.1.2 x P⟩;have D:aB 16000 S (.l dN) X.2.2.2.2.2.2.2.2.2.2.2.2.2.2.2.2.2.2.2.2.2:=⟨(by omega:J0 X.2.2.2.2.2.2.2.2.2.2.2.2.2.2.2.2.2.2.2.2.2<=16000),λx P=>h.k.k.e x P⟩;.eq (λc8=>.bind (O6 (B:=B) (S:=S) ⟨⟨h.2.1,h.c.1,⟨h.d.1,h.e.1,h.g.1⟩,⟨h.h.1,h.i.1,h.j.1⟩,⟨h.k.1,h.k.2.1⟩,h.k.c.1,h.k.d.1,h.k.e.1⟩,h.k.g.1,h.k.h.1,h.k.i.1,trivial,h.k.k.1⟩) λy2 C=>.eq (λV=>.bind (bE (B:=16001) (Bl:=16000) (Bm:=1) (S:=S) (J0 X.2.2.2.2.2.2.2.2.2.2.2.2.2.2.2.2.2.2.2.2.1) 1 E ((bU (B:=1) (S:=0) (t:=zI) oo C.2.1).u)) λy3 Q=>.bind (KV (B:=B) (S:=S) ⟨C.1,C.c,h.2.1,h.c.1,h.d.1,h.e.1,h.g.1,h.h.1,h.i.1,h.j.1,h.k.1,h.k.2.1,h.k.c.1,h.k.d.1,h.k.e.1,h.k.g.1,h.k.h.1,h.k.i.1,trivial,h.k.k.1,trivial,Q.1.u,D.u⟩) λO n=>have:J0 O.2.2.2.2.2.2.2.2.2.2.2.2.2.2.2.2.2.2.2.2.2=_:=Jt n.1.k.k.d;have:J0 O.2.2.2.2.2.2.2.2.2.2.2.2.2.2.2.2.2.2.2.2.1=J0 y3/\J0 O.2.2.2.2.2.2.2.2.2.2.2.2.2.2.2.2.2.2.2.2.2=J0 X.2.2.2.2.2.2.2.2.2.2.2.2.2.2.2.2.2.2.2.2.2:=n.2;.some ⟨⟨⟨n.1.1.z.1,C.2.1,n.1.1.z.2.2.u⟩,n.1.2.1,n.1.c.1,n.1.d.1,n.1.e.1,n.1.g.1,n.1.h.1,n.1.i.1,n.1.j.1,n.1.k.1,n.1.k.2.1,n.1.k.c.1,n.1.k.d.1,n.1.k.e.1,n.1.k.g.1,n.1.k.h.1,n.1.k.i.1,trivial,n.1.k.k.1,trivial,n.1.k.k.c⟩,om⟩) λV=>.bind (KV (B:=B) (S:=S) ⟨C.1,C.c,h.2.1,h.c.1,h.d.1,h.e.1,h.g.1,h.h.1,h.i.1,h.j.1,h.k.1,h.k.2.1,h.k.c.1,h.k.d.1,h.k.e.1,h.k.g.1,h.k.h.1,h.k.i.1,trivial,h.k.k.1,trivial,E.u,D.u⟩) λN o=>have:J0 N.2.2.2.2.2.2.2.2.2.2.2.2.2.2.2.2.2.2.2.2.2=_:=Jt o.1.k.k.d;have:J0 N.2.2.2.2.2.2.2.2.2.2.2.2.2.2.2.2.2.2.2.2.1=J0 X.2.2.2.2.2.2.2.2.2.2.2.2.2.2.2.2.2.2.2.2.1/\J0 N.2.2.2.2.2.2.2.2.2.2.2.2.2.2.2.2.2.2.2.2.2=J0 X.2.2.2.2.2.2.2.2.2.2.2.2.2.2.2.2.2.2.2.2.2:=o.2;.some ⟨⟨⟨o.1.1.z.1,C.2.1,o.1.1.z.2.2.u⟩,o.1.2.1,o.1.c.1,o.1.d.1,o.1.e.1,o.1.g.1,o.1.h.1,o.1.i.1,o.1.j.1,o.1.k.1,o.1.k.2.1,o.1.k.c.1,o.1.k.d.1,o.1.k.e.1,o.1.k.g.1,o.1.k.h.1,o.1.k.i.1,trivial,o.1.k.k.1,trivial,o.1.k.k.c⟩,om⟩) λc8=>.eq (λT=>.bind (Ys (B:=B) (S:=S) ⟨h.1.z.u,h.2.1,h.c.1,h.d.1,h.e.1,h.g.1,h.h.1,h.i.1,h.j.1,h.k.1,h.k.2.1,h.k.c.1,h.k.d.1,h.k.e.1,h.k.g.1,h.k.h.1,h.k.i.1,trivial,h.k.k.1,trivial,E.u,D.u⟩ om om) λZ w=>have:J0 Z.2.2.2.2.2.2.2.2.2.2.2.2.2.2.2.2.2.2.2.2.1<=J0 X.2.2.2.2.2.2.2.2.2.2.2.2.2.2.2.2.2.2.2.2.1+1/\J0 Z.2.2.2.2.2.2.2.2.2.2.2.2.2.2.2.2.2.2.2.2.2<=J0 X.2.2.2.2.2.2.2.2.2.2.2.2.2.2.2.2.2.2.2.2.2+1:=w.2;.some ⟨⟨w.1.1.z.u,w.1.2.1,w.1.c.1,w.1.d.1,w.1.e.1,w.1.g.1,w.1.h.1,w.1.i.1,w.1.j.1,w.1.k.1,w.1.k.2.1,w.1.k.c.1,w.1.k.d.1,w.1.k.e.1,w.1.k.g.1,w.1.k.h.1,w.1.k.i.1,trivial,w.1.k.k.1,trivial,w.1.k.k.c⟩,om⟩) λT=>.eq (λa5=>.bind (O2 (B:=B) (S:=S) ⟨⟨⟨h.2.1,h.c.1,⟨h.d.1,h.e.1,h.g.1⟩,⟨h.h.1,h.i.1,h.j.1⟩,⟨h.k.1,h.k.2.1⟩,h.k.c.1,h.k.d.1,h.k.e.1⟩,h.k.g.1,h.k.h.1,h.k.i.1,trivial,h.k.k.1⟩,h.1.z.2.2.1⟩) λy7 J=>.bind (KV (B:=B) (S:=S) ⟨J.1,J.2,h.2.1,h.c.1,h.d.1,h.e.1,h.g.1,h.h.1,h.i.1,h.j.1,h.k.1,h.k.2.1,h.k.c.1,h.k.d.1,h.k.e.1,h.k.g.1,h.k.h.1,h.k.i.1,trivial,h.k.k.1,trivial,E.u,D.u⟩) λM q=>have:J0 M.2.2.2.2.2.2.2.2.2.2.2.2.2.2.2.2.2.2.2.2.2=_:=Jt q.1.k.k.d;have:J0 M.2.2.2.2.2.2.2.2.2.2.2.2.2.2.2.2.2.2.2.2.1=J0 X.2.2.2.2.2.2.2.2.2.2.2.2.2.2.2.2.2.2.2.2.1/\J0 M.2.2.2.2.2.2.2.2.2.2.2.2.2.2.2.2.2.2.2.2.2=J0 X.2.2.2.2.2.2.2.2.2.2.2.2.2.2.2.2.2.2.2.2.2:=q.2;.some ⟨⟨q.1.1.z.u,q.1.2.1,q.1.c.1,q.1.d.1,q.1.e.1,q.1.g.1,q.1.h.1,q.1.i.1,q.1.j.1,q.1.k.1,q.1.k.2.1,q.1.k.c.1,q.1.k.d.1,q.1.k.e.1,q.1.k.g.1,q.1.k.h.1,q.1.k.i.1,trivial,q.1.k.k.1,trivial,q.1.k.k.c⟩,om⟩) λa5=>.eq (λa1=>.bind (Xh (B:=B) (S:=S) ⟨⟨h.2.1,h.c.1,⟨h.d.1,h.e.1,h.g.1⟩,⟨h.h.1,h.i.1,h.j.1⟩,⟨h.k.1,h.k.2.1⟩,h.k.c.1,h.k.d.1,h.k.e.1⟩,h.k.g.1,h.k.h.1,h.k.i.1,trivial,h.k.k.1⟩) λy9 L=>.bind (KV (B:=B) (S:=S) ⟨L.1,L.c,h.2.1,h.c.1,h.d.1,h.e.1,h.g.1,h.h.1,h.i.1,h.j.1,h.k.1,h.k.2.1,h.k.c.1,h.k.d.1,h.k.e.1,h.k.g.1,h.k.h.1,h.k.i.1,trivial,h.k.k.1,trivial,E.u,D.u⟩) λG r=>have:J0 G.2.2.2.2.2.2.2.2.2.2.2.2.2.2.2.2.2.2.2.2.2=_:=Jt r.1.k.k.d;have:J0 G.2.2.2.2.2.2.2.2.2.2.2.2.2.2.2.2.2.2.2.2.1=J0 X.2.2.2.2.2.2.2.2.2.2.2.2.2.2.2.2.2.2.2.2.1/\J0 G.2.2.2.2.2.2.2.2.2.2.2.2.2.2.2.2.2.2.2.2.2=J0 X.2.2.2.2.2.2.2.2.2.2.2.2.2.2.2.2.2.2.2.2.2:=r.2;.some ⟨⟨r.1.1.z.u,r.1.2.1,r.1.c.1,r.1.d.1,r.1.e.1,r.1.g.1,r.1.h.1,r.1.i.1,r.1.j.1,r.1.k.1,r.1.k.2.1,r.1.k.c.1,r.1.k.d.1,r.1.k.e.1,r.1.k.g.1,r.1.k.h.1,r.1.k.i.1,trivial,r.1.k.k.1,trivial,r.1.k.k.c⟩,om⟩) λa1=>.eq (λU=>.bind (IW (B:=B) (S:=S) ⟨h.d.1,h.e.1,h.g.1⟩) λad a2=>.bind (TX (B:=B) (S:=S) ⟨⟨h.d.1,h.e.1,h.g.1⟩,a2⟩) λac F=>.eq (λW=>.bind (DJ F.1.2) λa8 a3=>.some ⟨⟨a3.u,h.2.1,h.c.1,F.1.1.1,F.1.1.2.1.u,F.1.1.c,h.h.1,h.i.1,h.j.1,h.k.1,h.k.2.1,h.k.c.1,h.k.d.1,h.k.e.1,h.k.g.1,h.k.h.1,h.k.i.1,trivial,h.k.k.1,trivial,E.u,D.u⟩,om⟩) λW=>.bind (DJ F.1.2) λaa R=>.some ⟨⟨R.u,h.2.1,h.c.1,h.d.1,h.e.1,h.g.1,h.h.1,h.i.1,h.j.1,h.k.1,h.k.2.1,h.k.c.1,h.k.d.1,h.k.e.1,h.k.g.1,h.k.h.1,h.k.i.1,trivial,h.k.k.1,trivial,E.u,D.u⟩,om⟩) λU=>.eq (λY=>.bind (Yz (B:=B) (S:=S) ⟨h.1.z.u,h.2.1,h.c.1,h.d.1,h.e.1,h.g.1,h.h.1,h.i.1,h.j.1,h.k.1,h.k.2.1,h.k.c.1,h.k.d.1,h.k.e.1,h.k.g.1,h.k.h.1,h.k.i.1,trivial,h.k.k.1,trivial,E.u,D.u⟩ om om) λK A=>have:J0 K.2.2.2.2.2.2.2.2.2.2.2.2.2.2.2.2.2.2.2.2.1<=J0 X.2.2.2.2.2.2.2.2.2.2.2.2.2.2.2.2.2.2.2.2.1+1/\J0 K.2.2.2.2.2.2.2.2.2.2.2.2.2.2.2.2.2.2.2.2.2<=J0 X.2.2.2.2.2.2.2.2.2.2.2.2.2.2.2.2.2.2.2.2.2+1:=A.2;.some ⟨⟨A.1.1.z.u,A.1.2.1,A.1.c.1,A.1.d.1,A.1.e.1,A.1.g.1,A.1.h.1,A.1.i.1,A.1.j.1,A.1.k.1,A.1.k.2.1,A.1.k.c.1,A.1.k.d.1,A.1.k.e.1,A.1.k.g.1,A.1.k.h.1,A.1.k.i.1,trivial,A.1.k.k.1,trivial,A.1.k.k.c⟩,om⟩) λY=>.eq (λa4=>.bind (Ih (B:=B) (S:=S) ⟨⟨h.2.1,h.c.1,⟨h.d.1,h.e.1,h.g.1⟩,⟨h.h.1,h.i.1,h.j.1⟩,⟨h.k.1,h.k.2.1⟩,h.k.c.1,h.k.d.1,h.k.e.1⟩,h.k.g.1,h.k.h.1,h.k.i.1,trivial,h.k.k.1⟩) λab I=>.bind (KV (B:=B) (S:=S) ⟨I.1,I.c,h.2.1,h.c.1,h.d.1,h.e.1,h.g.1,h.h.1,h.i.1,h.j.1,h.k.1,h.k.2.1,h.k.c.1,h.k.d.1,h.k.e.1,h.k.g.1,h.k.h.1,h.k.i.1,trivial,h.k.k.1,trivial,E.u,D.u⟩) λH v=>have:J0 H.2.2.2.2.2.2.2.2.2.2.2.2.2.2.2.2.2.2.2.2.2=_:=Jt v.1.k.k.d;have:J0 H.2.2.2.2.2.2.2.2.2.2.2.2.2.2.2.2.2.2.2.2.1=J0 X.2.2.2.2.2.2.2.2.2.2.2.2.2.2.2.2.2.2.2.2.1/\J0 H.2.2.2.2.2.2.2.2.2.2.2.2.2.2.2.2.2.2.2.2.2=J0 X.2.2.2.2.2.2.2.2.2.2.2.2.2.2.2.2.2.2.2.2.2:=v.2;.some ⟨⟨v.1.1.z.u,v.1.2.1,v.1.c.1,v.1.d.1,v.1.e.1,v.1.g.1,v.1.h.1,v.1.i.1,v.1.j.1,v.1.k.1,v.1.k.2.1,v.1.k.c.1,v.1.k.d.1,v.1.k.e.1,v.1.k.g.1,v.1.k.h.1,v.1.k.i.1,trivial,v.1.k.k.1,trivial,v.1.k.k.c⟩,om⟩) λa4=>.bind (eD (B:=0) (S:=0) (aG 1)) λa9 a0=>.some ⟨⟨a0.1.u,h.2.1,h.c.1,h.d.1,h.e.1,h.g.1,h.h.1,h.i.1,h.j.1,h.k.1,h.k.2.1,h.k.c.1,h.k.d.1,h.k.e.1,h.k.g.1,h.k.h.1,h.k.i.1,trivial,h.k.k.1,trivial,E.u,D.u⟩,om⟩
theorem Gb{B S:Int}{X:Jv×(List sH)}(h:aB B S (.pr Ji (.l eO)) X)(aq:BH B S:=by omega)(hB:B<=1000000:=by omega)(hS:S<=1000000000000:=by omega):Tot (PR X) λy=>aB B S (.pr Ji (.pr (.l cQ) (.l dN))) y:=by unfold PR;exact Jl (τ:=Int×(List Int)×(List xW)×Int×Int×Int×(List aA)×Int×Int×(List cS)×Int×(List aE)×(List aE)×(List Js)×(List aC)×(List aC)×(List (List UInt8))×Int×(List Int)×Bool×(List JQ)×Bool×(List fP)) (λq=>(X.2,q.1,X.1,((0,0,(0,[],0),(0,[],0),([],[]),[],[],[]),[],0,[],false,[]),q.2.1,q.2.2.1,q.2.2.2.1,q.2.2.2.2.1,q.2.2.2.2.2.1,q.2.2.2.2.2.2.1,q.2.2.2.2.2.2.2.1,q.2.2.2.2.2.2.2.2.1,q.2.2.2.2.2.2.2.2.2.1,q.2.2.2.2.2.2.2.2.2.2.1,q.2.2.2.2.2.2.2.2.2.2.2.1,q.2.2.2.2.2.2.2.2.2.2.2.2.1,q.2.2.2.2.2.2.2.2.2.2.2.2.2.1,q.2.2.2.2.2.2.2.2.2.2.2.2.2.2.1,q.2.2.2.2.2.2.2.2.2.2.2.2.2.2.2.1,q.2.2.2.2.2.2.2.2.2.2.2.2.2.2.2.2.1,q.2.2.2.2.2.2.2.2.2.2.2.2.2.2.2.2.2.1,q.2.2.2.2.2.2.2.2.2.2.2.2.2.2.2.2.2.2.1,q.2.2.2.2.2.2.2.2.2.2.2.2.2.2.2.2.2.2.2.1,q.2.2.2.2.2.2.2.2.2.2.2.2.2.2.2.2.2.2.2.2.1,q.2.2.2.2.2.2.2.2.2.2.2.2.2.2.2.2.2.2.2.2.2.1,q.2.2.2.2.2.2.2.2.2.2.2.2.2.2.2.2.2.2.2.2.2.2)) (λq=>aB 0 0 zI q.1/\aB 1000 S (.l zI) q.2.1/\aB 1000 S (.l dN) q.2.2.1/\aB 0 0 zI q.2.2.2.1/\aB 0 0 zI q.2.2.2.2.1/\aB 0 0 zI q.2.2.2.2.2.1/\aB B S (.l J4) q.2.2.2.2.2.2.1/\aB 0 0 zI q.2.2.2.2.2.2.2.1/\aB 0 0 zI q.2.2.2.2.2.2.2.2.1/\aB B S (.l cT) q.2.2.2.2.2.2.2.2.2.1/\aB 0 0 zI q.2.2.2.2.2.2.2.2.2.2.1/\aB B S (.l J6) q.2.2.2.2.2.2.2.2.2.2.2.1/\aB B S (.l J6) q.2.2.2.2.2.2.2.2.2.2.2.2.1/\aB B S (.l Jk) q.2.2.2.2.2.2.2.2.2.2.2.2.2.1/\aB B S (.l Jb) q.2.2.2.2.2.2.2.2.2.2.2.2.2.2.1/\aB B S (.l Jb) q.2.2.2.2.2.2.2.2.2.2.2.2.2.2.2.1/\aB B S (.l .s) q.2.2.2.2.2.2.2.2.2.2.2.2.2.2.2.2.1/\aB 0 0 zI q.2.2.2.2.2.2.2.2.2.2.2.2.2.2.2.2.2.1/\aB B S (.l zI) q.2.2.2.2.2.2.2.2.2.2.2.2.2.2.2.2.2.2.1/\aB B S (.l JM) q.2.2.2.2.2.2.2.2.2.2.2.2.2.2.2.2.2.2.2.2.1/\aB 1000 S (.l cQ) q.2.2.2.2.2.2.2.2.2.2.2.2.2.2.2.2.2.2.2.2.2.2/\(0<=q.1)/\(q.1<=1000)/\(J0 q.2.1<=q.1)/\(J0 q.2.2.1<=q.1)/\(J0 q.2.2.2.2.2.2.2.2.2.2.2.2.2.2.2.2.2.2.2.2.2.2<=q.1)) (λq=>1001-q.1) (by rintro⟨N,v,M,al,am,an,ao,aa,ac,ai,ak,ad,af,ag,a6,a8,aj,ah,ae,a7,a9,ab,J⟩ W;dsimp only at W;obtain⟨i1,i2,i3,i4,Q,V,R,P,U,E,K,L,D,G,w,A,C,H,I,F,r,ax,av,aw,ap,au⟩:=W;unfold sm;(try dsimp only);exact have:J0 v<=1000:=i2.1;have:=Je (l:=v);have:J0 M=_/\_:=lF i3;have:J0 J=_/\_:=lF r;have:J0 X.2=_:=Jt h.2;.lt (λa3=>.lt (λa1=>.not (λa2=>.bind (Jf h.2) λy3 a4=>.bind (Y4 (B:=B) (S:=S) ⟨a4.1.z.u,i4,Q,V,R,P,U,E,K,L,D,G,w,A,C,H,I,trivial,F,trivial,i2.u,i3.u⟩ om om) λo n=>have:J0 o.2.2.2.2.2.2.2.2.2.2.2.2.2.2.2.2.2.2.2.2.2=_:=Jt n.1.k.k.d;have:J0 o.2.2.2.2.2.2.2.2.2.2.2.2.2.2.2.2.2.2.2.2.1<=J0 v+1/\J0 o.2.2.2.2.2.2.2.2.2.2.2.2.2.2.2.2.2.2.2.2.2<=J0 M+1:=n.2;.bind (bE (B:=1001) (Bl:=1000) (Bm:=1) (S:=S) (J0 J) 1 r (bU (B:=1) (S:=S) (t:=cQ) oo (n.1.1.z.u))) λT Y=>have a5:aB 1000 S (.l zI) o.2.2.2.2.2.2.2.2.2.2.2.2.2.2.2.2.2.2.2.2.1:=⟨(by omega:J0 o.2.2.2.2.2.2.2.2.2.2.2.2.2.2.2.2.2.2.2.2.1<=1000),λx O=>n.1.k.k.c.1.2 x O⟩;have a0:aB 1000 S (.l dN) o.2.2.2.2.2.2.2.2.2.2.2.2.2.2.2.2.2.2.2.2.2:=⟨(by omega:J0 o.2.2.2.2.2.2.2.2.2.2.2.2.2.2.2.2.2.2.2.2.2<=1000),λx O=>n.1.k.k.e x O⟩;have:J0 T=_:=Jt Y.1;have Z:aB 1000 S (.l cQ) T:=⟨(by omega:J0 T<=1000),λx O=>Y.1.2 x O⟩;have:=Jn N 1;.some ⟨(J1 .i64 N 1,o.2.2.2.2.2.2.2.2.2.2.2.2.2.2.2.2.2.2.2.2.1,o.2.2.2.2.2.2.2.2.2.2.2.2.2.2.2.2.2.2.2.2.2,o.2.1,o.2.2.1,o.2.2.2.1,o.2.2.2.2.1,o.2.2.2.2.2.1,o.2.2.2.2.2.2.1,o.2.2.2.2.2.2.2.1,o.2.2.2.2.2.2.2.2.1,o.2.2.2.2.2.2.2.2.2.1,o.2.2.2.2.2.2.2.2.2.2.1,o.2.2.2.2.2.2.2.2.2.2.2.1,o.2.2.2.2.2.2.2.2.2.2.2.2.1,o.2.2.2.2.2.2.2.2.2.2.2.2.2.1,o.2.2.2.2.2.2.2.2.2.2.2.2.2.2.1,o.2.2.2.2.2.2.2.2.2.2.2.2.2.2.2.1,o.2.2.2.2.2.2.2.2.2.2.2.2.2.2.2.2.1,o.2.2.2.2.2.2.2.2.2.2.2.2.2.2.2.2.2.1,o.2.2.2.2.2.2.2.2.2.2.2.2.2.2.2.2.2.2.1,o.2.2.2.2.2.2.2.2.2.2.2.2.2.2.2.2.2.2.2.1,T),rfl,⟨Jj,a5,a0,n.1.2.1,n.1.c.1,n.1.d.1,n.1.e.1,n.1.g.1,n.1.h.1,n.1.i.1,n.1.j.1,n.1.k.1,n.1.k.2.1,n.1.k.c.1,n.1.k.d.1,n.1.k.e.1,n.1.k.g.1,n.1.k.h.1,n.1.k.i.1,n.1.k.k.1,Z,om,om,om,om,om⟩,om,om⟩) λa2=>.some ⟨⟨⟨i4,Q,⟨V,R,P⟩,⟨U,E,K⟩,⟨L,D⟩,G,w,A⟩,C,H,I,trivial,F⟩,r.u,i3.u⟩) λa1=>.some ⟨⟨⟨i4,Q,⟨V,R,P⟩,⟨U,E,K⟩,⟨L,D⟩,G,w,A⟩,C,H,I,trivial,F⟩,r.u,i3.u⟩) λa3=>.some ⟨⟨⟨i4,Q,⟨V,R,P⟩,⟨U,E,K⟩,⟨L,D⟩,G,w,A⟩,C,H,I,trivial,F⟩,r.u,i3.u⟩) (0,[],[],X.1.1.1,X.1.1.2.1,X.1.1.2.2.1.1,X.1.1.2.2.1.2.1,X.1.1.2.2.1.2.2,X.1.1.2.2.2.1.1,X.1.1.2.2.2.1.2.1,X.1.1.2.2.2.1.2.2,X.1.1.2.2.2.2.1.1,X.1.1.2.2.2.2.1.2,X.1.1.2.2.2.2.2.1,X.1.1.2.2.2.2.2.2.1,X.1.1.2.2.2.2.2.2.2,X.1.2.1,X.1.2.2.1,X.1.2.2.2.1,X.1.2.2.2.2.1,X.1.2.2.2.2.2,false,[]) rfl ⟨aD,J8,J8,h.1.1.1,h.1.1.2.1,h.1.1.c.1.1,h.1.1.c.1.2.1,h.1.1.c.1.c,h.1.1.d.1.1,h.1.1.d.1.2.1,h.1.1.d.1.c,h.1.1.e.1.1,h.1.1.e.1.2,h.1.1.g.1,h.1.1.h.1,h.1.1.i,h.1.2.1,h.1.c.1,h.1.d.1,h.1.g,J8,om,om,om,om,om⟩
theorem Yk{B S:Int}{X:RN}(h:aB B S SI X)(p0:0<=X.2.2.2)(x:0<=X.1)(r:X.1<=1000)(q:BH B S:=by omega)(C:B<=1000000:=by omega)(A:S<=1000000000000:=by omega):Tot (VX X) λy=>aB B S (.pr Ji J3) y/\(0<=y.2.2):=by unfold VX;exact .bind (Jh (B:=B) (S:=S) ⟨aG 4,h.c⟩ om) λD n=>have:=J2.1 n.1.c;.bind (Jh (B:=B) (S:=S) ⟨aG 3,n.1.2⟩ om) λv j=>have:=J2.1 j.1.c;.bind (Fc (B:=0) (S:=0) ⟨Jj,Jj⟩) λz k=>.bind (Y3 (B:=B) (S:=S) ⟨Jj,h.1,trivial,j.1.2⟩ om om om) λo e=>have:0<=o.2.2:=e.2;.bind (Gb (B:=B) (S:=S) ⟨k.1.u,e.1.1⟩) λw g=>.some ⟨⟨g.1,e.1.2⟩,om⟩
theorem Ya{B S:Int}{X:RN}(h:aB B S SI X)(p0:0<=X.2.2.2)(k:0<=X.1)(o:X.1<=1000)(j:BH B S:=by omega)(q:B<=1000000:=by omega)(n:S<=1000000000000:=by omega):Tot (VP X) λy=>aB B S (.pr J5 J3) y/\(0<=y.2.2):=by unfold VP;exact .bind (Yk (B:=B) (S:=S) ⟨h.1,trivial,h.c⟩ om om om) λg e=>have:0<=g.2.2:=e.2;.some ⟨⟨e.1.1.1,e.1.2⟩,om⟩
theorem JCM{B S:Int}{X:jQ}(h:aB B S AZ X)(p0:0<=X.2.2)(o:0<=X.1)(v:X.1<=1000)(n:BH B S:=by omega)(w:B<=1000000:=by omega)(r:S<=1000000000000:=by omega):Tot (xX X) λy=>aB B S (.pr zI (.pr JP J3)) y/\(0<=y.2.2.2):=by unfold xX;exact .bind (Ya (B:=B) (S:=S) ⟨h.1,trivial,h.2⟩ om om om) λk e=>have:0<=k.2.2:=e.2;.bind (IW e.1.1.c.1) λq g=>.bind (TX (B:=B) (S:=S) ⟨e.1.1.c.1,g⟩) λx j=>.some ⟨⟨e.1.1.1,j.1.1.u,e.1.2⟩,om⟩
theorem Za{B S:Int}{X:g9}(h:aB B S (.pr dA J3) X)(p0:0<=X.2.2)(D:BG B S:=by omega):Tot (VZ X) λy=>aB B S (.pr dA J3) y/\(0<=y.2.2):=by unfold VZ;exact .bind (Jh (B:=B) (S:=S) ⟨aG 4,h.2⟩ om) λq h2=>have:=J2.1 h2.1.1;have:=J2.1 h2.1.c;have:0<=q.1/\q.1<4/\0<=q.2.2:=⟨h2.2.1,h2.c.1 (show(1:Int)<=4 by decide),h2.d⟩;.eq (λC=>.bind (eQ h2.1.2 om) λx o=>have:0<=x.2.2:=o.2;.some ⟨⟨⟨o.1.1,h.1.z.2.u⟩,o.1.2⟩,om⟩) λC=>.eq (λv=>.bind (eQ h2.1.2 om) λA g=>have:0<=A.2.2:=g.2;.some ⟨⟨⟨h.1.z.1,g.1.1,h.1.z.2.2.u⟩,g.1.2⟩,om⟩) λv=>.eq (λr=>.bind (Jh (B:=B) (S:=S) ⟨aG 2,h2.1.2⟩ om) λG n=>have:=J2.1 n.1.c;.bind (DV n.1.2 om) λH e=>have:=J2.1 e.1.c;.some ⟨⟨⟨h.1.z.1,h.1.z.2.1,⟨trivial,e.1.1.z.u⟩,h.1.z.2.2.2.u⟩,e.1.2⟩,om⟩) λr=>.eq (λw=>.bind (Jh (B:=B) (S:=S) ⟨aG 2,h2.1.2⟩ om) λE k=>have:=J2.1 k.1.c;.bind (DV k.1.2 om) λF j=>have:=J2.1 j.1.c;.some ⟨⟨⟨h.1.z.1,h.1.z.2.1,h.1.z.2.2.1.u,trivial,j.1.1.z.u⟩,j.1.2⟩,om⟩) λw=>.some ⟨⟨h.1.z.u,h2.1.2⟩,om⟩
theorem Ym{B S:Int}{X:fl}(h:aB B S (.pr J4 J3) X)(p0:0<=X.2.2)(U:BG B S:=by omega):Tot (VU X) λy=>aB B S (.pr J4 J3) y/\(0<=y.2.2):=by unfold VU;exact .bind (Jh (B:=B) (S:=S) ⟨aG 9,h.2⟩ om) λx h2=>have:=J2.1 h2.1.1;have:=J2.1 h2.1.c;have:0<=x.1/\x.1<9/\0<=x.2.2:=⟨h2.2.1,h2.c.1 (show(1:Int)<=9 by decide),h2.d⟩;.eq (λQ=>.bind (eQ h2.1.2 om) λL w=>have:0<=L.2.2:=w.2;.some ⟨⟨⟨w.1.1,h.1.z.2.u⟩,w.1.2⟩,om⟩) λQ=>.eq (λE=>.bind (Jh (B:=B) (S:=S) ⟨aG 11,h2.1.2⟩ om) λV v=>have:=J2.1 v.1.c;.some ⟨⟨⟨h.1.z.1,eC,h.1.z.2.2.u⟩,v.1.2⟩,om⟩) λE=>.eq (λD=>.bind (eQ h2.1.2 om) λN o=>have:0<=N.2.2:=o.2;.some ⟨⟨⟨h.1.z.1,h.1.z.2.1,o.1.1,h.1.z.2.2.2.u⟩,o.1.2⟩,om⟩) λD=>.eq (λF=>.bind (eQ h2.1.2 om) λO q=>have:0<=O.2.2:=q.2;.some ⟨⟨⟨h.1.z.1,h.1.z.2.1,h.1.z.2.2.1,q.1.1,h.1.z.2.2.2.2.u⟩,q.1.2⟩,om⟩) λF=>.eq (λI=>.bind (eQ h2.1.2 om) λK r=>have:0<=K.2.2:=r.2;.some ⟨⟨⟨h.1.z.1,h.1.z.2.1,h.1.z.2.2.1,h.1.z.2.2.2.1,r.1.1,h.1.z.2.2.2.2.2.u⟩,r.1.2⟩,om⟩) λI=>.eq (λJ=>.bind (eQ h2.1.2 om) λM k=>have:0<=M.2.2:=k.2;.some ⟨⟨⟨h.1.z.1,h.1.z.2.1,h.1.z.2.2.1,h.1.z.2.2.2.1,h.1.z.2.2.2.2.1,k.1.1,h.1.z.2.2.2.2.2.2.u⟩,k.1.2⟩,om⟩) λJ=>.eq (λA=>.bind (Za (B:=B) (S:=S) ⟨h.1.z.2.2.2.2.2.2.1.u,h2.1.2⟩ om) λP n=>have:0<=P.2.2:=n.2;.some ⟨⟨⟨h.1.z.1,h.1.z.2.1,h.1.z.2.2.1,h.1.z.2.2.2.1,h.1.z.2.2.2.2.1,h.1.z.2.2.2.2.2.1,n.1.1.z.u,h.1.z.2.2.2.2.2.2.2.u⟩,n.1.2⟩,om⟩) λA=>.eq (λC=>.bind (DV h2.1.2 om) λR j=>have:=J2.1 j.1.c;.some ⟨⟨⟨h.1.z.1,h.1.z.2.1,h.1.z.2.2.1,h.1.z.2.2.2.1,h.1.z.2.2.2.2.1,h.1.z.2.2.2.2.2.1,h.1.z.2.2.2.2.2.2.1.u,j.1.1.z.u⟩,j.1.2⟩,om⟩) λC=>.eq (λG=>.bind (Jh (B:=B) (S:=S) ⟨aG 2,h2.1.2⟩ om) λg e=>have:=J2.1 e.1.1;have:=J2.1 e.1.c;have:0<=g.1/\g.1<2/\0<=g.2.2:=⟨e.2.1,e.c.1 (show(1:Int)<=2 by decide),e.d⟩;have:=Jn 8192 g.1;.bind (AO (t:=(.i .u8)) (B:=8194) (S:=0) (fU .u8 0)) λT H=>.some ⟨⟨⟨h.1.z.1,h.1.z.2.1,h.1.z.2.2.1,h.1.z.2.2.2.1,h.1.z.2.2.2.2.1,h.1.z.2.2.2.2.2.1,h.1.z.2.2.2.2.2.2.1.u,(CQ (B:=0) (S:=8194) H.1.1).u⟩,e.1.2⟩,om⟩) λG=>.some ⟨⟨h.1.z.u,h2.1.2⟩,om⟩
theorem VA{B S:Int}{X:iw}(h:aB B S xz X)(r:BS B S 0 0:=by omega):Tot (mY X) λy=>aB 0 0 zI y:=by unfold mY;exact have s0:aB 0 S xz X:=h;.ltf (λq=>.eq (λo=>have:=J2.1 s0.1.1;.lt (λn=>.some (aG (-1))) λn=>.eq (λk=>.eq (λj=>.some aD) λj=>.some (aG 1)) λk=>.some (aG 1)) λo=>.eq (λe=>have:=J2.1 s0.1.1;.eq (λg=>.some aD) λg=>.some (aG 1)) λe=>.some (aG 1)) λq=>.some (aG (-1))
theorem Sm{B S:Int}{X:(List aA)×aA}(h:aB B S (.pr (.l J4) J4) X)(ah:BS B S 0 0:=by omega)(hB:B<=17179869183:=by omega):Tot (UL X) λy=>aB (2*B+1) S (.pr (.l J4) .b) y/\(J0 y.1<=J0 X.1+1):=by unfold UL;exact have:J0 X.1=_/\_:=lF h.1;cD (J0 X.1) (λq=>(X.1,q,X.2)) λa6 i4 w5 z6=>.lt (λQ=>.bind (Jf h.1) λy3 N=>.bind (VA (B:=0) (S:=S) ⟨N.1.z,h.2.z⟩) λy4 a7=>.lt (λK=>.some ⟨Q,rfl⟩) λK=>.inr (.lt (λI=>.bind (Jf h.1) λy5 a3=>.bind (VA (B:=0) (S:=S) ⟨a3.1.z,h.2.z⟩) λy6 aa=>.eq (λU=>.bind (Jf h.1) λy7 a9=>.some ⟨⟨h.1.u,trivial⟩,om⟩) λU=>.bind (jW h.1) λG g=>.clo g.1 oo (by decide) (have:J0 G<=B:=g.1.1;have:J0 G=_:=Jt g.1;.bind (bE (B:=(B+1)) (Bl:=B) (Bm:=1) (S:=S) (J0 G) 1 g.1 (bU (B:=1) (S:=S) (t:=J4) oo (h.2.z.u))) λw D=>.bind (kF h.1) λr o=>have:J0 w=_:=Jt D.1;have:J0 r<=B:=o.1.1;have:J0 r=_:=Jt o.1;.bind (bE (B:=(2*B+1)) (Bl:=(B+1)) (Bm:=B) (S:=S) (J0 w) (J0 r) D.1 o.1) λZ x=>have:J0 Z=_:=Jt x.1;.some ⟨⟨x.1,trivial⟩,om⟩)) λI=>.bind (jW h.1) λJ E=>.clo E.1 oo (by decide) (.bind (bE (B:=(B+1)) (Bl:=B) (Bm:=1) (S:=S) (J0 J) 1 E.1 (bU (B:=1) (S:=S) (t:=J4) oo (h.2.z.u))) λP Y=>.bind (kF h.1) λW a5=>.bind (bE (B:=(2*B+1)) (Bl:=(B+1)) (Bm:=B) (S:=S) (J0 P) (J0 W) Y.1 a5.1) λad a1=>.some ⟨⟨a1.1,trivial⟩,om⟩))) λQ=>.inr (.lt (λT=>.bind (Jf h.1) λae a2=>.bind (VA (B:=0) (S:=S) ⟨a2.1.z,h.2.z⟩) λag ac=>.eq (λO=>.bind (Jf h.1) λaf a8=>.some ⟨⟨h.1.u,trivial⟩,om⟩) λO=>.bind (jW h.1) λL C=>.clo C.1 oo (by decide) (.bind (bE (B:=(B+1)) (Bl:=B) (Bm:=1) (S:=S) (J0 L) 1 C.1 (bU (B:=1) (S:=S) (t:=J4) oo (h.2.z.u))) λR H=>.bind (kF h.1) λM V=>.bind (bE (B:=(2*B+1)) (Bl:=(B+1)) (Bm:=B) (S:=S) (J0 R) (J0 M) H.1 V.1) λab a4=>.some ⟨⟨a4.1,trivial⟩,om⟩)) λT=>.bind (jW h.1) λj e=>.clo e.1 oo (by decide) (have:J0 j<=B:=e.1.1;have:J0 j=_:=Jt e.1;.bind (bE (B:=(B+1)) (Bl:=B) (Bm:=1) (S:=S) (J0 j) 1 e.1 (bU (B:=1) (S:=S) (t:=J4) oo (h.2.z.u))) λF A=>.bind (kF h.1) λv k=>have:J0 F=_:=Jt A.1;have:=Je (l:=v);have:J0 v=_:=Jt k.1;.bind (bE (B:=(2*B+1)) (Bl:=(B+1)) (Bm:=B) (S:=S) (J0 F) (J0 v) A.1 k.1) λa0 n=>have:J0 a0=_:=Jt n.1;.some ⟨⟨n.1,trivial⟩,om⟩))
theorem wg{B S:Int}{X:Int×Int×aC}(h:aB B S (.pr zI (.pr zI Jb)) X)(v:BS B S 0 0:=by omega):Tot (qQ X) λy=>aB 0 0 .b y:=by unfold qQ;exact .ge (λr=>have:=J2.1 h.2.1;.le (λk=>.le (λq=>have:=J2.1 h.c.1;.ge (λo=>have:=J2.1 h.d.1;.le (λn=>.lt (λg=>have:=J2.1 h.e;.ge (λj=>.some trivial) λj=>.some trivial) λg=>.some trivial) λn=>.some trivial) λo=>.some trivial) λq=>.some trivial) λk=>.some trivial) λr=>.some trivial
theorem ej{B S:Int}{X:JK}(h:aB B S cZ X)(a2:BS B S 0 0:=by omega)(hB:B<=9223372036854775807:=by omega):Tot (kH X) λy=>aB 0 0 .b y:=by unfold kH;exact .bind (wg (B:=0) (S:=0) ⟨h.1,h.2.1,h.c.1,h.d.1,h.e.1⟩) λy2 h1=>.nof (λV=>have:J0 X.2.2.2.2.2=_/\_:=lF h.g;.gt (λW=>.some trivial) λW=>cD (J0 X.2.2.2.2.2) (λq=>(q,X)) λk i7 w8 z9=>by unfold UP;dsimp only;exact .lt (λj=>.bind (Jf h.g) λv o=>.bind ((qW (B:=0) (S:=S) (X:=v) o.1.z).eqn) λy5 A=>.nof (λn=>have F:=oS (x:=v) o.1.z A.2 n;have r:aB 0 8192 J4 v:=F.2;.bind (pG r) λy6 a4=>.nof (λC=>have:=J2.1 h.1;.ltf (λO=>have:=J2.1 h.2.1;.gtf (λD=>have:=J2.1 h.c.1;.ltf (λM=>have:=J2.1 h.d.1;.gt (λT=>.some trivial) λT=>.gt (λN=>have:=bN k 1;.bind (Jf h.g) λy7 L=>.bind (VA (B:=0) (S:=(S+8192)) ⟨L.1.z.u,r.u⟩) λy8 a5=>.ge (λQ=>.some trivial) λQ=>.gt (λE=>.bind (Jf h.g) λy9 Z=>.eq (λw=>.bind (Jf h.g) λa0 a1=>.ne (λH=>.some trivial) λH=>.some ⟨j,rfl⟩) λw=>.ge (λU=>.some trivial) λU=>.some ⟨j,rfl⟩) λE=>.ge (λI=>.some trivial) λI=>.some ⟨j,rfl⟩) λN=>.gt (λP=>have:=bN k 1;.bind (Jf h.g) λa7 Y=>.eq (λG=>.bind (Jf h.g) λa3 a6=>.ne (λK=>.some trivial) λK=>.some ⟨j,rfl⟩) λG=>.ge (λJ=>.some trivial) λJ=>.some ⟨j,rfl⟩) λP=>.ge (λR=>.some trivial) λR=>.some ⟨j,rfl⟩) λM=>.some trivial) λD=>.some trivial) λO=>.some trivial) λC=>.some trivial) λn=>.some trivial) λj=>.some trivial) λV=>.some trivial
theorem Iw{B S:Int}{X:zg}(h:aB B S (.pr (.l J4) (.pr zI (.pr zI Jb))) X)(af:BS B S 0 0:=by omega)(hB:B<=17179869183:=by omega):Tot (QI X) λy=>aB B S (.pr cZ zI) y:=by unfold QI;exact .bind (wg (B:=0) (S:=0) (h.2)) λy2 h1=>.not (λc2=>.some ⟨aN,aG 1⟩) λc2=>have:J0 X.1=_/\_:=lF h.1;cD (J0 X.1) (λq=>(X.1,X.2.1,X.2.2.1,X.2.2.2.1,X.2.2.2.2.1,X.2.2.2.2.2,q,0,0,0,0,0,[])) λa5 i6 w7 z8=>have:=Je (l:=X.1);.lt (λM=>.bind (Jf h.1) λU D=>.bind ((qW (B:=0) (S:=S) (X:=U) D.1.z).eqn) λy5 O=>.not (λE=>.some ⟨aN,aG 12⟩) λE=>have ak:=oS (x:=U) D.1.z O.2 E;.some ⟨M,rfl⟩) λM=>.inr (Jl (τ:=Bool×Int×JK) (λq=>(X.1,X.2.1,X.2.2.1,X.2.2.2.1,X.2.2.2.2.1,q.1,q.2.1,(0,0,0,0,0,[]),q.2.2)) (λq=>aB 0 0 zI q.2.1/\aB B S cZ q.2.2/\(0<=q.2.1)/\(q.2.1<=J0 X.1)/\(J0 q.2.2.2.2.2.2.2<=q.2.1)) (λq=>J0 X.1-q.2.1) (by rintro⟨o,n,j⟩ F;dsimp only at F;obtain⟨a3,k,an,a9,ab⟩:=F;unfold tw;(try dsimp only);exact have:=J2.1 a3;have:J0 j.2.2.2.2.2=_/\_:=lF k.2.2.2.2.2;.lt (λP=>.bind (Jf h.1) λI A=>.bind (pG (B:=0) (S:=S) A.1.z) λy8 ac=>.nof (λL=>have:=J2.1 A.1.z.2.2.2.2.2.2.1.1;.ltf (λW=>have:=J2.1 h.e.1;.gtf (λa2=>have:=J2.1 A.1.z.1;.ltf (λR=>have:=J2.1 h.c.1;.gt (λV=>have al:aB B S (.l J4) j.2.2.2.2.2:=⟨(by omega:J0 j.2.2.2.2.2<=B),λx v=>k.2.2.2.2.2.2 x v⟩;have:=Jn n 1;.some ⟨(o,J1 .i64 n 1,j),rfl,⟨Jj,k,om,om,om⟩,om,om⟩) λV=>Jl (τ:=Bool×Int) (λq=>(X.1,X.2.1,X.2.2.1,X.2.2.2.1,X.2.2.2.2.1,q.1,n,q.2,(0,0,0,0,0,[]),j,I)) (λq=>(aB 0 0 zI q.2/\0<=q.2/\(q.2<=J0 j.2.2.2.2.2\/q.2<=0))) (λq=>J0 j.2.2.2.2.2-q.2) (by rintro⟨H,r⟩ G;dsimp only at G;obtain⟨T,am,aj⟩:=G;unfold uj;(try dsimp only);exact have:=J2.1 T;.lt (λQ=>.itf (λN=>.bind (Jf k.2.2.2.2.2) λa6 ad=>.eq (λa1=>.bind (Jf k.2.2.2.2.2) λa0 ai=>have:=Jn r 1;.some ⟨(Jm (eqT J4 a0 I),J1 .i64 r 1),rfl,⟨Jj,om,om⟩,om,om⟩) λa1=>have:=Jn r 1;.some ⟨(false,J1 .i64 r 1),rfl,⟨Jj,om,om⟩,om,om⟩) λN=>have:=Jn r 1;.some ⟨(true,J1 .i64 r 1),rfl,⟨Jj,om,om⟩,om,om⟩) λQ=>.inr (.bind (Sm (B:=B) (S:=S) ⟨k.2.2.2.2.2,A.1.z.u⟩) λw C=>have:J0 w.1=_:=Jt C.1.1;have:J0 w.1<=J0 j.2.2.2.2.2+1:=C.2;have K:aB B S (.l J4) w.1:=⟨(by omega:J0 w.1<=B),λx v=>C.1.1.2 x v⟩;have:=Jn n 1;.some ⟨(H,J1 .i64 n 1,(j.1,j.2.1,j.2.2.1,j.2.2.2.1,j.2.2.2.2.1,w.1)),rfl,⟨Jj,⟨k.1,k.2.1,k.2.2.1,k.2.2.2.1,k.2.2.2.2.1,K⟩,om,om,om⟩,om,om⟩)) (o,0) rfl ⟨aD,om,om⟩) λR=>have ag:aB B S (.l J4) j.2.2.2.2.2:=⟨(by omega:J0 j.2.2.2.2.2<=B),λx v=>k.2.2.2.2.2.2 x v⟩;have:=Jn n 1;.some ⟨(o,J1 .i64 n 1,j),rfl,⟨Jj,k,om,om,om⟩,om,om⟩) λa2=>have aa:aB B S (.l J4) j.2.2.2.2.2:=⟨(by omega:J0 j.2.2.2.2.2<=B),λx v=>k.2.2.2.2.2.2 x v⟩;have:=Jn n 1;.some ⟨(o,J1 .i64 n 1,j),rfl,⟨Jj,k,om,om,om⟩,om,om⟩) λW=>have ah:aB B S (.l J4) j.2.2.2.2.2:=⟨(by omega:J0 j.2.2.2.2.2<=B),λx v=>k.2.2.2.2.2.2 x v⟩;have:=Jn n 1;.some ⟨(o,J1 .i64 n 1,j),rfl,⟨Jj,k,om,om,om⟩,om,om⟩) λL=>have ae:aB B S (.l J4) j.2.2.2.2.2:=⟨(by omega:J0 j.2.2.2.2.2<=B),λx v=>k.2.2.2.2.2.2 x v⟩;have:=Jn n 1;.some ⟨(o,J1 .i64 n 1,j),rfl,⟨Jj,k,om,om,om⟩,om,om⟩) λP=>.inr (.ite (λZ=>.some ⟨aN,aG 41⟩) λZ=>.gt (λY=>.some ⟨aN,aG 21⟩) λY=>.bind (ej k) λa8 a7=>.not (λJ=>.some ⟨aN,aG 13⟩) λJ=>.some ⟨k,aD⟩)) (false,0,(X.2.1,X.2.2.1,X.2.2.2.1,X.2.2.2.2.1,X.2.2.2.2.2,[])) rfl ⟨aD,⟨h.2.1,h.c.1,h.d.1,h.e.1,h.g,J8⟩,om,om,om⟩)
theorem R0{B S:Int}{X:JU}(h:aB B S Jg X)(e:BS B S 0 0:=by omega)(g:S<=9223372036854775807:=by omega):Tot (JT X) λy=>aB 0 0 zI y:=by unfold JT;exact have s0:aB 0 S Jg X:=h;.bind ((gB (B:=0) (S:=S) (X:=(X.1,X.2.1,X.2.2)) (s0)).eqn) λj h1=>.some h1.1.1
theorem G8{B S:Int}{X:JK}(h:aB B S cZ X)(H:BS B S 0 0:=by omega)(I:B<=9223372036854775807:=by omega):Tot (vE X) λy=>aB 0 52 .s y:=by unfold vE;exact .bind (JJ (B:=0) (S:=4) ⟨A5 4 rfl oo,h.1,aG 8⟩) λG h1=>have h2:aB 0 12 .s G:=h1.1.u;.bind (JJ (B:=0) (S:=12) ⟨h2,h.2.1,aG 8⟩) λz F=>have A:aB 0 20 .s z:=F.1.u;.bind (JJ (B:=0) (S:=20) ⟨A,h.c.1,aG 4⟩) λE q=>have n:aB 0 28 .s E:=q.1.u;.bind (JJ (B:=0) (S:=28) ⟨n,h.d.1,aG 4⟩) λC r=>have k:aB 0 36 .s C:=r.1.u;.bind (JJ (B:=0) (S:=36) ⟨k,h.e.1,aG 1⟩) λD v=>have j:aB 0 44 .s D:=v.1.u;.bind (JJ (B:=0) (S:=44) ⟨j,iQ h.g.1 oo,aG 4⟩) λx w=>have o:aB 0 52 .s x:=w.1.u;.some o
theorem Rw{B S:Int}{X:JK}(h:aB B S cZ X)(N:BS B S 0 0:=by omega)(T:B<=112458203726770:=by omega):Tot (sV X) λy=>aB 0 (41008*B+68) kM y:=by unfold sV;exact .bind (ej h) λU h1=>.not (λH=>.some ⟨Ja,aG 40⟩) λH=>.bind (G8 h) λQ J=>.bind (UF J) λj I=>have G:aB 0 68 .s j:=I.u;have:J0 X.2.2.2.2.2=_/\_:=lF h.g;have:=sF (z:=j) G;Jl (τ:=dQ) (λq=>(q.1,q.2,X)) (λq=>(aB 0 0 zI q.2/\0<=q.2/\(q.2<=J0 X.2.2.2.2.2\/q.2<=0))/\(aB 0 (41008*B+68) .s q.1/\J0 q.1<=41008*q.2+J0 j)) (λq=>J0 X.2.2.2.2.2-q.2) (by rintro⟨n,e⟩ k;dsimp only at k;obtain⟨⟨w,O,M⟩,D,L⟩:=k;unfold DZ;(try dsimp only);exact have:=J2.1 w;.lt (λF=>.bind (Jf h.g) λR E=>.bind (ur (B:=0) (S:=S) E.1.z) λP r=>.bind (UF r.1) λx C=>have A:aB 0 41008 .s x:=C.u;have:=sF (z:=n) D;have:=sF (z:=x) A;.bind (fV) λo K=>have v:aB 0 (41008*B+68) .s o:=(by omega:J0 o<=(41008*B+68));have:=Jn e 1;.some ⟨(o,J1 .i64 e 1),rfl,⟨⟨Jj,om,om⟩,v,om⟩,om,om⟩) λF=>.some ⟨D,aD⟩) (j,0) rfl ⟨⟨aD,om,om⟩,G.u,om⟩
end Go.Am
end
section
namespace Go.Am
section
variable (P:Program)
def rU:Nat->TypeId->Bool|0,_=>false|n+1,t=>match P.underlying t with|some .bool=>true|some (.int _)=>true|some .string=>true|some (.slice e)=>rU n e&&decide (t<P.types.size/\0<P.cellsOf e)|some (.struct fs)=>fs.toList.all (λf=>rU n f.type)&&decide (t<P.types.size)|some (.array _ e)=>rU n e&&decide (t<P.types.size)|_=>false
def fB:Nat->TypeId->List PV->Prop|0,_,_=>False|n+1,t,pvs=>match P.underlying t with|some .bool=> ∃b,pvs=[.b b]|some (.int k)=> ∃z,pvs=[.i k z]/\(Lit.int k z).wf=true|some .string=> ∃l,pvs=[.s l]/\l.length<=maxLen|some (.slice e)=> ∃rows,pvs=[.sl (P.cellsOf e) rows]/\rows.length<=maxLen/\ ∀row∈rows,row.length=P.cellsOf e/\fB n e row|some (.struct fs)=>pvs.length=P.cellsOf t/\ ∀f∈fs.toList,fB n f.type ((pvs.drop f.offset).take (P.cellsOf f.type))|some (.array m e)=>pvs.length=P.cellsOf t/\ ∀i,i<m->fB n e ((pvs.drop (i*P.cellsOf e)).take (P.cellsOf e))|_=>False
end
section
variable {H:Type} {enc:TypeId×Value->H} {P:Program} {w:World} {base:Nat} {sp:Nat->Bool} {held:Bool}
def jw(w:World)(pvs:List PV)(cs:List Value):Prop:=pvs.length=cs.length/\ ∀(i:Nat) p v,pvs[i]?=some p->cs[i]?=some v->J0g w (λr _=>r<w.heap.size) p v
theorem o8{a:Addr}{v:Value}(h:w.cell? a=some v):a.spot=none/\cellAt w a.block a.off=some v/\a.block<w.heap.size:=by
 unfold World.cell? at h;unfold cellAt;split at h;rename_i c t fz e;split at h;cases h;rename_i g;refine⟨by simpa using g,by rw[e];exact h,?_⟩;have:=yk.1 e;exact this.1;cases h
theorem JFJ{a:Addr}{n:Nat}{cs:List Value}(h:w.cells? base a n=some cs):cs.length=n/\ ∀i v,cs[i]?=some v->w.cell? (a.add i)=some v:=by
 unfold World.cells? at h;split at h;have g:=mapM_some_length h;refine⟨by simpa using g,λi v e=>?_⟩;have hi:i<n:=by have:=(gT.1 e).1;simp at g;omega
 have:=mapM_some_get h i i (by simp[hi]);rw[this,e];cases h
theorem MP{α:Type}(Q:Nat->α->Prop): ∀(m:Nat),(∀i,i<m-> ∃x,Q i x)-> ∃xs:List α,xs.length=m/\ ∀i x,xs[i]?=some x->Q i x
 |0,_=>⟨[],rfl,λi x h=>by simp at h⟩
 |m+1,h=>by
  obtain⟨xs,j,n⟩:=MP Q m (λi hi=>h i (by omega));obtain⟨y,k⟩:=h m (by omega);refine⟨xs++[y],by simp[j],λi x hi=>?_⟩;rcases zQ3 i xs.length with g|e;rw[AR g]at hi;exact n i x hi;rw[pH e]at hi;have:i-xs.length=0:=by have:=(gT.1 hi).1;simp at this;omega
  rw[this]at hi;simp at hi;subst hi;obtain rfl:i=m:=by omega
  exact k
theorem dh{α:Type}: ∀(xs:List (List α)) (j:Nat) (y:List α),xs[j]?=some y->(xs.flatten.drop ((xs.take j).map List.length).sum).take y.length=y|[],j,y,h=>by simp at h|x::xs,0,y,h=>by simp at h;subst h;simp|x::xs,j+1,y,h=>by simp at h;have:=dh xs j y h;simp only[gm,bP,List.sum_cons,pO,List.drop_length_add_append];exact this
theorem JHY(hl:laidOutB P=true)(hm:mapsRowed P=true): ∀(n:Nat) (t:TypeId) (cs:List Value) (x:DataW H×List MemPlace) (Y:Nat),rU P n t=true->DataW.trod enc P w base sp held Y t cs=some x->
  ∃pvs,fB P n t pvs/\jw w pvs cs:=by
 have K:=kids_rows hl hm;intro n
 induction n with
 |zero=>intro t cs x Y F;simp[rU]at F
 |succ n ih=>
  intro t cs x Y F h;unfold rU at F;unfold fB;split at F;rename_i E;obtain⟨b,rfl,_⟩:=DataW.trod_bool E h;refine⟨[.b b],by simp,rfl,λi p v h1 h2=>?_⟩
  match i with
  |0=>simp at h1 h2;subst h1 h2;exact .b _
  |i+1=>simp at h1
  rename_i k E;obtain⟨z,rfl,_,b0⟩:=DataW.trod_int E h;refine⟨[.i k z],by simpa using b0,rfl,λi p v h1 h2=>?_⟩
  match i with
  |0=>simp at h1 h2;subst h1 h2;exact .i _ _
  |i+1=>simp at h1
  rename_i E;obtain⟨s,rfl,_,ax⟩:=DataW.trod_string E h;refine⟨[.s s.data.toList],⟨_,rfl,by rw[Array.length_toList];exact ax⟩,rfl,λi p v h1 h2=>?_⟩
  match i with
  |0=>simp at h1 h2;subst h1 h2;exact .s _
  |i+1=>simp at h1
  rename_i e E;simp only[JW,decide_eq_true_eq]at F;rcases DataW.trod_slice E h with⟨rfl,_⟩|⟨a,len,cap,ag,rest,n0,_,rfl,_,_,bg,hcm,bh,U,_⟩;refine⟨[.sl (P.cellsOf e) []],⟨[],rfl,zQ2 _,by simp⟩,rfl,λi p v h1 h2=>?_⟩
  match i with
  |0=>simp at h1 h2;subst h1 h2;exact .sl0 _ _ _
  |i+1=>simp at h1
  
  have ao: ∀i,i<len-> ∃row:List PV,(row.length=P.cellsOf e/\fB P n e row)/\ ∀j p,row[j]?=some p-> ∃v,w.cell? (a.add (i*P.cellsOf e)|>.add j)=some v/\J0g w (λr _=>r<w.heap.size) p v:=by
   intro i hi;have h1:=U i hi;have h2: ∃y,ag[i]?=some y:=⟨_,aQ (by omega)⟩;obtain⟨y,C⟩:=h2;rw[C,bL]at h1;obtain⟨cs',hc,aw⟩:=h1;obtain⟨row,q1,q2,q3⟩:=ih e cs' y n0 F.1 aw;obtain⟨c1,c2⟩:=JFJ hc;refine⟨row,⟨by omega,q1⟩,λj p A=>?_⟩;have S:j<cs'.length:=by have:=(gT.1 A).1;omega
   have hv:=aQ S;exact⟨_,c2 j _ hv,q3 j p _ A hv⟩
  obtain⟨rows,az,D⟩:=MP _ len ao;refine⟨[.sl (P.cellsOf e) rows],⟨rows,rfl,by omega,λrow hr=>?_⟩,rfl,λi p v h1 h2=>?_⟩;obtain⟨i,hi⟩:=kQ hr;exact(D i row hi).1
  match i with
  |i+1=>simp at h1
  |0=>
   simp at h1 h2;subst h1 h2;by_cases h0: ∃(i j:Nat) (row:List PV) (p:PV),rows[i]?=some row/\row[j]?=some p;obtain⟨i0,j0,al,p0,aj,b4⟩:=h0;have a8:a.spot=none\/P.cellsOf e=0:=by
    rcases yf (P.cellsOf e)with hz|am;exact .inr hz;have hlen:0<len:=by have:=(gT.1 aj).1;omega
    have N:=aQ (l:=rows) (i:=0) (by omega);have q:=D 0 _ N;have ay:=aQ (l:=rows[0]'(by omega)) (i:=0) (by omega);obtain⟨v,hv,_⟩:=q.2 0 _ ay;rw[Nat.zero_mul]at hv;exact .inl (by simpa[Addr.add]using(o8 hv).1)
   rcases a8 with a8|hz;have cell: ∀(i j:Nat) (row:List PV) (p:PV),rows[i]?=some row->row[j]?=some p-> ∃v,(a.block<w.heap.size/\cellAt w a.block (a.off+i*P.cellsOf e+j)=some v)/\J0g w (λr _=>r<w.heap.size) p v:=by
    intro i j row p hi A;obtain⟨v,hv,hr⟩:=(D i row hi).2 j p A;obtain⟨s1,s2,s3⟩:=o8 hv;refine⟨v,?_,hr⟩;have e1:((a.add (i*P.cellsOf e)).add j).block=a.block:=by unfold Addr.add;split<;>split<;>rfl
    have e2:((a.add (i*P.cellsOf e)).add j).off=a.off+i*P.cellsOf e+j:=by unfold Addr.add;split<;>split<;>simp_all
    rw[e1]at s3;rw[e1,e2]at s2;exact⟨s3,s2⟩
   have ea:a=⟨a.block,a.off,none⟩:=by cases a;simp_all
   rw[ea,<-az];refine .sl _ rows a.block a.off cap (λi j=>((cellAt w a.block (a.off+i*P.cellsOf e+j)).getD default)) (by omega) (λrow hr=>?_) (λi j row p hi A=>?_) (λi j row p hi A=>?_);obtain⟨i,hi⟩:=kQ hr;exact(D i row hi).1.1;obtain⟨v,⟨h3,h4⟩,_⟩:=cell i j row p hi A;exact⟨h3,by rw[h4];rfl⟩;obtain⟨v,⟨h3,h4⟩,h5⟩:=cell i j row p hi A;rw[h4];exact h5;have:=(D i0 al aj).1.1;have:=(gT.1 b4).1;omega
   
   rcases yf len with hz|am;have:rows=[]:=by cases rows<;>simp_all
   subst this;subst hz;exact .sl0 _ _ _;exfalso;have N:=aQ (l:=rows) (i:=0) (by omega);have q:=(D 0 _ N).1.1;exact h0 ⟨0,0,_,_,N,aQ (by omega)⟩
  rename_i fs E;simp only[JW,decide_eq_true_eq,QV]at F;obtain⟨xs,n0,_,_,V,ai,U⟩:=DataW.trod_struct E h;obtain⟨_,W,ac⟩:=K.struct F.2 E;have hf: ∀i,i<fs.toList.length-> ∃g:List PV,∀f,fs.toList[i]?=some f->fB P n f.type g/\jw w g ((cs.drop f.offset).take (P.cellsOf f.type)):=by
   intro i hi;have hfi:=aQ hi;have an:=zQ5 hfi;have av:fs[i]?=some (fs.toList[i]):=by rw[<-EN];exact hfi
   have h1:=U i _ av;have h2: ∃y,xs[i]?=some y:=⟨_,aQ (by simpa[ai]using hi)⟩;obtain⟨y,C⟩:=h2;rw[C]at h1;obtain⟨g,q1,q2⟩:=ih _ _ _ _ (F.1 _ an) h1;refine⟨g,λf a5=>?_⟩;rw[hfi]at a5;injection a5 with a5;subst a5;exact⟨q1,q2⟩
  obtain⟨B,a6,J⟩:=MP _ _ hf;have hlen: ∀(j:Nat) (f:Field),fs.toList[j]?=some f-> ∀g:List PV,B[j]?=some g->g.length=P.cellsOf f.type:=by
   intro j f A g C;have q:=(J j g C f A).2.1;have o:=ac j f A;rw[q,rI,pL,V,W,o];have:((fs.toList.take j).map λf=>P.cellsOf f.type).sum+P.cellsOf f.type<=(fs.toList.map λf=>P.cellsOf f.type).sum:=by
    have e1:fs.toList=fs.toList.take j++(f::fs.toList.drop (j+1)):=by have R:=(gT.1 A);obtain⟨R,he⟩:=R;rw[<-he,<-List.drop_eq_getElem_cons R,iv]
    conv=>rhs;rw[e1]
    simp only[wJ,bP,List.sum_append,List.sum_cons];omega
   omega
  have O:B.map List.length=fs.toList.map λf=>P.cellsOf f.type:=by
   apply zQ6;intro j;rw[fT,fT];cases C:B[j]? with
   |none=>
    have:fs.toList[j]?=none:=by rw[List.getElem?_eq_none_iff]at C⊢;omega
    rw[this];rfl
   |some g=>
    have A:j<fs.toList.length:=by have:=(gT.1 C).1;omega
    have M:=aQ A;rw[M];simp only[cE];rw[hlen j _ M g C]
  have I: ∀(j:Nat) (f:Field),fs.toList[j]?=some f->((B.take j).map List.length).sum=f.offset:=by intro j f A;rw[ac j f A,ig,O,<-ig]
  refine⟨B.flatten,⟨?_,λf hf=>?_⟩,?_,λi p v h1 h2=>?_⟩;rw[RJ,O,W];obtain⟨j,A⟩:=kQ hf;have R:j<B.length:=by have:=(gT.1 A).1;omega
  have G:=aQ R;have:=dh B j _ G;rw[I j f A,hlen j f A _ G]at this;rw[this];exact(J j _ G f A).1;rw[RJ,O,V,W]
  
  have ab: ∀(l:List (List PV)) (i:Nat) p,l.flatten[i]?=some p-> ∃j g k,l[j]?=some g/\g[k]?=some p/\i=((l.take j).map List.length).sum+k:=by
   intro l
   induction l with
   |nil=>intro i p h;simp at h
   |cons y l T=>
    intro i p h;rw[pO]at h;rcases zQ3 i y.length with S|a9;rw[AR S]at h;exact⟨0,y,i,rfl,h,by simp⟩;rw[pH a9]at h;obtain⟨j,g,k,L,Q,a3⟩:=T _ _ h;exact⟨j+1,g,k,by simpa using L,Q,by simp only[gm,bP,List.sum_cons];omega⟩
  obtain⟨j,g,k,L,Q,a3⟩:=ab _ _ _ h1;have A:j<fs.toList.length:=by have:=(gT.1 L).1;omega
  have M:=aQ A;have q:=(J j g L _ M).2;refine q.2 k p v Q ?_;have hk:k<P.cellsOf (fs.toList[j]).type:=by have:=(gT.1 Q).1;rw[hlen j _ M g L]at this;exact this
  rw[List.getElem?_take_of_lt hk,SA,<-I j _ M,<-a3];exact h2;rename_i m e E;simp only[JW,decide_eq_true_eq]at F;obtain⟨xs,n0,_,_,V,ai,U⟩:=DataW.trod_array E h;obtain⟨_,aa⟩:=K.array F.2 E;have hf: ∀i,i<m-> ∃g:List PV,fB P n e g/\jw w g ((cs.drop (i*P.cellsOf e)).take (P.cellsOf e)):=by intro i hi;have h1:=U i hi;have h2: ∃y,xs[i]?=some y:=⟨_,aQ (by omega)⟩;obtain⟨y,C⟩:=h2;rw[C]at h1;exact ih _ _ _ _ F.1 h1
  obtain⟨B,a6,J⟩:=MP _ _ hf;have hlen: ∀(j:Nat) g,B[j]?=some g->g.length=P.cellsOf e:=by
   intro j g C;have q:=(J j g C).2.1;have A:j<m:=by have:=(gT.1 C).1;omega
   rw[q,rI,pL,V,aa];have:j*P.cellsOf e+P.cellsOf e<=m*P.cellsOf e:=by rw[<-fq];exact zQ4 _ A
   omega
  have Z: ∀y∈B,y.length=P.cellsOf e:=λy C=>by obtain⟨j,A⟩:=kQ C;exact hlen j y A
  have a0: ∀l:List (List PV),(∀y∈l,y.length=P.cellsOf e)->(l.map List.length).sum=l.length*P.cellsOf e:=by
   intro l
   induction l with
   |nil=>intro _;simp
   |cons y l T=>intro hh;simp[hh y (by simp),T (λz hz=>hh z (by simp[hz])),fq,Nat.add_comm]
  have I: ∀j,j<=m->((B.take j).map List.length).sum=j*P.cellsOf e:=by intro j A;rw[a0 _ (λy C=>Z y (EO C)),rI,a6,Nat.min_eq_left A]
  refine⟨B.flatten,⟨?_,λj A=>?_⟩,?_,λi p v h1 h2=>?_⟩;rw[RJ,a0 _ Z,a6,aa];have G:=aQ (l:=B) (i:=j) (by omega);have:=dh B j _ G;rw[I j (by omega),hlen j _ G]at this;rw[this];exact(J j _ G).1;rw[RJ,a0 _ Z,V,a6,aa];have ab: ∀(l:List (List PV)) (i:Nat) p,l.flatten[i]?=some p-> ∃j g k,l[j]?=some g/\g[k]?=some p/\i=((l.take j).map List.length).sum+k:=by
   intro l
   induction l with
   |nil=>intro i p h;simp at h
   |cons y l T=>
    intro i p h;rw[pO]at h;rcases zQ3 i y.length with S|a9;rw[AR S]at h;exact⟨0,y,i,rfl,h,by simp⟩;rw[pH a9]at h;obtain⟨j,g,k,L,Q,a3⟩:=T _ _ h;exact⟨j+1,g,k,by simpa using L,Q,by simp only[gm,bP,List.sum_cons];omega⟩
  obtain⟨j,g,k,L,Q,a3⟩:=ab _ _ _ h1;have A:j<m:=by have:=(gT.1 L).1;omega
  have q:=(J j g L).2;refine q.2 k p v Q ?_;have hk:k<P.cellsOf e:=by have:=(gT.1 Q).1;rw[hlen j g L]at this;exact this
  rw[List.getElem?_take_of_lt hk,SA,<-I j (by omega),<-a3];exact h2;cases F
end
end Go.Am
end
section
namespace Go.Am
open Go.ChangeShapes Go.WideShapes Go.ChangeAt Go.RowKit
def gh0(w:World):Gh:=⟨λ_=>none,λr _=>r<w.heap.size⟩
theorem YK(g:Gh)(w:World)(b r o:Nat): ¬Wr1 ⟨[],g,w⟩ b r o:=by simp[Wr1]
theorem JLI(w:World):Inv ⟨[],gh0 w,w⟩ where
 box:=λb cs h=>by simp at h
 arr:=λb wm esz rows h=>by simp at h
 apart:=λb1 b2 r o h=>absurd h (YK _ _ _ _ _)
 const:=λr o h=>⟨h,λb=>YK _ _ _ _ _⟩
def tV(w w':World):Prop:=nS (λ_ _=>False) w w'
theorem tV.kept{w w':World}(h:tV w w')(e:MemPlace->Prop):w.keptBut w' e:=by
 obtain⟨h1,h2,k,g,j⟩:=h;refine⟨g,j,λi hi=>?_⟩;grind
theorem tV.same{w w':World}(h:tV w w'){p:MemPlace}(hp:p.block<w.heap.size):w.sameAt w' p:=by
 obtain⟨h1,h2,n,q,r⟩:=h;cases p with
 |cell b off=>
  have g:b<w.heap.size:=hp;have j:=AL g;show w'.cell? ⟨b,off,none⟩=w.cell? ⟨b,off,none⟩;grind [oK,cellAt]
 |map b=>
  have g:b<w.heap.size:=hp;have j:=AL g;show w'.heap[b]?=w.heap[b]?;cases hw:w.heap[b]? with
  |none=>simp_all
  |some x=>
   cases x with
   |cells c e fz=>
    obtain⟨c',k,y,v⟩:=h2 b c e fz hw;rw[k];have:c'=c:=by apply Array.ext_getElem?;simp_all
    rw[this]
   |_=>exact n b _ hw (λc e fz o=>by cases o)
theorem tV.frozen{w w':World}(h:tV w w'){a:Addr}(hp:a.block<w.heap.size):w'.frozen? a=w.frozen? a:=by
 obtain⟨h1,h2,j,e,g⟩:=h;grind [World.frozen?]
theorem JEw{P:Program}{F:Orc}(n:iL P F){f:FuncId}{args:List AV}{vals:Array Value}{w:World}(hl:args.length=vals.size)
  (hr: ∀(i:Nat) x v,args[i]?=some x->vals[i]?=some v->JD ⟨[],gh0 w,w⟩ x v) (h:F f args []=some (.p (.b true),[])):
  Calls P f vals w λe w'=>e=.returned (.bool true)/\tV w w':=by
 refine((n _ _ _ _ h).2 (gh0 w) w vals (JLI w) hl hr).mono λe w' ⟨v,g',C,_,j,hrel⟩=>?_;cases hrel with
 |p _ _ hrel=>
  cases hrel with
  |b=>refine⟨C,?_⟩;obtain⟨g,q,k,y⟩:=j.keep;refine⟨g,λr c e fz hr=>?_,k,y⟩;obtain⟨c',A,D,B⟩:=q r c e fz hr;exact⟨c',A,D,λo _=>B o (fun⟨b,z⟩=>YK _ _ _ _ _ z)⟩
section
variable {H:Type} {enc:TypeId×Value->H} {P:Program}
theorem te(hl:laidOutB P=true)(hm:mapsRowed P=true)(j: ∀{t e:TypeId},t<P.types.size->P.underlying t=some (.slice e)->0<P.cellsOf e){W W':World}{sp:Nat->Bool}:
  ∀{ts:List TypeId} {vs:List Value} {k:List (DataW H)} {ps:List MemPlace},(∀t∈ts,t<P.types.size)->DataW.TrodAll enc P W 0 (λ_=>true) true ts vs k ps->
   (∀p∈ps,W.sameAt W' p)->(∀p∈ps,sp p.block=true)->DataW.TrodAll enc P W' 0 sp true ts vs k ps
 |[],[],[],_,_,h,_,_=>h
 |[],_::_,_,_,_,h,_,_=>h.elim
 |[],[],_::_,_,_,h,_,_=>h.elim
 |_::_,[],_,_,_,h,_,_=>h.elim
 |_::_,_::_,[],_,_,h,_,_=>h.elim
 |t::ts,v::vs,d::k,_,o,⟨p,q,⟨n,h1⟩,h2,rfl⟩,w,r=>by refine⟨p,q,⟨n,DataW.trod_stays (kids_rows hl hm) j (λh=>by cases h) (o t (by simp)) h1 (λx g=>w x (by simp[g])) (λx g=>r x (by simp[g]))⟩,?_,rfl⟩;exact te hl hm j (λx g=>o x (by simp[g])) h2 (λx g=>w x (by simp[g])) (λx g=>r x (by simp[g]))
def PT(P:Program):Bool:=(List.range P.types.size).all λt=>match P.underlying t with|some (.slice e)=>decide (0<P.cellsOf e)|_=>true
theorem Kp(h:PT P=true){t e:TypeId}(g:t<P.types.size)(he:P.underlying t=some (.slice e)):0<P.cellsOf e:=by
 grind [PT]
theorem JGq{fn:Func}{s:ChangeSpec}{tb:TypeId}(hl:laidOutB P=true)(hm:mapsRowed P=true)(E:PT P=true)(z: ∀t∈fn.params.toList,t<P.types.size)
  (o:fn.resultTypes= #[tb]) (y:P.underlying tb=some .bool) (e:s.vars=[]) {apart fresh g again:Bool} {W W':World} {args:Array Value} {k B:List (DataW H)} {n:List MemPlace}
  (F:B=[]->s.fn H (k++B)={results:=[.lit (.bool true)],args:=k})
  (A:DataW.Whole enc P fn.params.toList s.vars apart W args.toList k B n) (j:tV W W'):s.post enc P fn apart fresh g again W args (.bool true) W':=by
 have w:=A;have h:=A.lt;obtain⟨p,q,h1,h2,rfl,I,M⟩:=A;rw[e]at h2;obtain⟨rfl,rfl⟩:=trodVars_none h2;rw[lZ]at w h I M;have K:=F rfl;have r: ∀sp:Nat->Bool,(∀x∈p,sp x.block=true)->DataW.TrodAll enc P W' 0 sp true fn.params.toList args.toList k p:=λsp C=>
  te hl hm (λJ N=>Kp E J N) z h1 (λx D=>j.same (h x D)) C
 have L: ∀(b:Nat) (sp:Nat->Bool) (G:Bool),DataW.TrodAll enc P W' b sp G fn.resultTypes.toList ((Value.bool true).resultList fn.resultTypes.size) [.lit (.bool true)] []:=by intro b sp G;rw[o];exact trodAll_cons_mk (shut_bool y _) trodAll_mk0
 refine⟨k,[],p,[],p,[],w,?_,?_,?_,j.kept _,λ_=>⟨?_,?_⟩⟩;grind;simp_all;rw[K,e];rfl;exact ok_one o rfl (okWide_bool_mk y _);refine⟨_,[],[]++p,⟨[]++p,[],trodAll_append (r _ (λ_ _=>rfl)) (L _ _ _),by rw[e];rfl,by simp,λb off C=>?_,λO=>by simp_all⟩,λx D _=>by simpa using D⟩;have v:MemPlace.cell b off∈p:=by simpa using C
 rw[j.frozen (a:=⟨b,off,none⟩) (h _ v)];exact I b off v
def RQ(P:Program)(t:TypeId)(pvs:List PV):AV:=match P.underlying t with|some (.struct _)=>.data pvs|some (.array _ _)=>.data pvs|_=>match pvs with|[c]=>.p c|_=>.unk
theorem B2(hl:laidOutB P=true)(hm:mapsRowed P=true){n:Nat}{t:TypeId}{w:World}{r:Reach}{base:Nat}{sp:Nat->Bool}{v:Value}{d:DataW H}{ps:List MemPlace}(hp:rU P n t=true)
  (hv:Value.okWide P w r base t v) (h:DataW.Trod enc P w 0 sp true t v d ps): ∃pvs,fB P n t pvs/\JD ⟨[],gh0 w,w⟩ (RQ P t pvs) v:=by
 obtain⟨o,h⟩:=h;obtain⟨pvs,j,C,q⟩:=JHY hl hm n t _ _ o hp h;refine⟨pvs,j,?_⟩;cases n with
 |zero=>grind [rU]
 |succ n=>
  unfold rU at hp;unfold Value.okWide at hv;unfold RQ;have one: ∀{c:PV},pvs=[c]->(∀cs,v≠.agg cs)->JD ⟨[],gh0 w,w⟩ (.p c) v:=by intro c A B;subst A;refine .p _ _ (q 0 c v rfl ?_);cases v<;>first|rfl|simp_all
  unfold fB at j;split at hp;rename_i g;rw[g]at j hv⊢;obtain⟨b,rfl⟩:=j;exact one rfl (λcs y=>by simp_all [Cell.okWide,Cell.ok]);rename_i k g;rw[g]at j hv⊢;obtain⟨z,rfl,_⟩:=j;exact one rfl (λcs y=>by simp_all [Cell.okWide,Cell.ok]);rename_i g;rw[g]at j hv⊢;obtain⟨z,rfl,_⟩:=j;exact one rfl (λcs y=>by simp_all [Cell.okWide,Cell.ok]);rename_i e g;rw[g]at j hv⊢;obtain⟨rows,rfl,_⟩:=j;exact one rfl (λcs y=>by simp_all [Cell.okWide,Cell.ok]);rename_i fs g;rw[g]at hv⊢;obtain⟨cs,rfl,_⟩:=hv;exact .data _ _ (by simp_all) (λi x v h1 h2=>q i x v h1 (by grind [Value.cells]));rename_i m e g;rw[g]at hv⊢;obtain⟨cs,rfl,_⟩:=hv;exact .data _ _ (by simp_all) (λi x v h1 h2=>q i x v h1 (by grind [Value.cells]));cases hp
end
end Go.Am
end
section
namespace Go.Am
section
variable (P:Program) {α β:Type}
def Rd(n:Nat)(t:TypeId)(r:α->List PV)(Q:α->Prop):Prop:= ∀pvs,fB P n t pvs-> ∃x,pvs=r x/\Q x
def fieldsOf(t:TypeId):Option (List (TypeId×Nat)):=match P.underlying t with|some (.struct fs)=>some (fs.toList.map λf=>(f.type,f.offset))|_=>none
variable {P}
theorem JJ3{n:Nat}{t:TypeId}{k:IntKind}(e:P.underlying t=some (.int k)):Rd P (n+1) t (r_i k) λz=>k.min<=z/\z<=k.max:=by
 intro pvs h;unfold fB at h;rw[e]at h;obtain⟨z,rfl,g⟩:=h;refine⟨z,rfl,?_⟩;grind [Lit.wf]
theorem Rd.mono{n:Nat}{t:TypeId}{r:α->List PV}{Q g:α->Prop}(h:Rd P n t r Q)(hq: ∀x,Q x->g x):Rd P n t r g:=λpvs j=>by
 obtain⟨x,e,q⟩:=h pvs j;grind
theorem JIJ{n:Nat}{t:TypeId}(e:P.underlying t=some .bool):Rd P (n+1) t r_b λ_=>True:=by intro pvs h;unfold fB at h;rw[e]at h;obtain⟨z,rfl⟩:=h;exact⟨z,rfl,trivial⟩
theorem JJD{n:Nat}{t:TypeId}(e:P.underlying t=some .string):Rd P (n+1) t r_s λl=>l.length<=maxLen:=by intro pvs h;unfold fB at h;rw[e]at h;obtain⟨z,rfl,g⟩:=h;exact⟨z,rfl,g⟩
theorem JHc{n:Nat}{t e:TypeId}{r:α->List PV}{Q:α->Prop}{k:Nat}(v:P.underlying t=some (.slice e))(hk:P.cellsOf e=k)(he:Rd P n e r Q):
  Rd P (n+1) t (Z5 k r) λl=>l.length<=maxLen/\ ∀x∈l,Q x:=by
 intro pvs h;unfold fB at h;rw[v]at h;obtain⟨rows,rfl,o,g⟩:=h;have j: ∀rows:List (List PV),(∀row∈rows,row.length=P.cellsOf e/\fB P n e row)-> ∃l:List α,rows=l.map r/\ ∀x∈l,Q x:=by
  intro rows
  induction rows with
  |nil=>simp_all
  |cons row rows ih=>
   intro q;obtain⟨l,rfl,o⟩:=ih (λr g=>q r (by simp[g]));obtain⟨x,rfl,A⟩:=he row (q row (by simp)).2;refine⟨x::l,rfl,λy z=>?_⟩;grind
 obtain⟨l,rfl,w⟩:=j rows g;exact⟨l,by rw[hk];rfl,by simpa using o,w⟩
theorem JFi{n m:Nat}{t e:TypeId}{r:α->List PV}{Q:α->Prop}{k:Nat}(o:P.underlying t=some (.array m e))(hk:P.cellsOf e=k)(hm:P.cellsOf t=m*k)(he:Rd P n e r Q):
  Rd P (n+1) t (nJ (n:=m) r) λv=> ∀(i:Nat) (h:i<m),Q v[i]:=by
 intro pvs h;unfold fB at h;rw[o]at h;obtain⟨j,z⟩:=h;rw[hm]at j;have g: ∀(m:Nat) (pvs:List PV),pvs.length=m*k->(∀i,i<m->fB P n e ((pvs.drop (i*k)).take k))-> ∃l:List α,l.length=m/\pvs=(l.map r).flatten/\ ∀(i:Nat) (h:i<l.length),Q l[i]:=by
  intro m
  induction m with
  |zero=>simp_all
  |succ m ih=>
   intro pvs h q;rw[fq]at h;obtain⟨l,h1,h2,w⟩:=ih (pvs.drop k) (by simp_all) (λi hi=>by
    grind [List.drop_drop,Nat.succ_mul])
   obtain⟨x,y,A⟩:=he _ (q 0 (by omega));rw[Nat.zero_mul,wR]at y;refine⟨x::l,by simp[h1],?_,λi hi=>?_⟩
   all_goals grind [List.take_append_drop]
 obtain⟨l,h1,h2,w⟩:=g m pvs j (λi hi=>by simp_all);refine⟨⟨l.toArray,by simpa using h1⟩,?_,λi hi=>?_⟩;rw[h2];rfl;simp_all
theorem JEp{m n:Nat}{t:TypeId}{e:List (TypeId×Nat)}{pvs:List PV}(hm:m=n+1)(g:fieldsOf P t=some e)(h:fB P m t pvs):
  pvs.length=P.cellsOf t/\ ∀x∈e,fB P n x.1 ((pvs.drop x.2).take (P.cellsOf x.1)):=by
 grind [fB,fieldsOf]
end
end Go.Am
end
section
namespace Go.Am
section
variable (P:Program)
def xG(p:Ty->TypeId->Bool):Nat->List (TypeId×Nat)->Ty->Bool|_,[],.u=>true|_,[],_=>false|o,[f],a=>decide (f.2=o)&&p a f.1&&decide (P.cellsOf f.1=a.sz)|o,f::g::r,.pr a c=>decide (f.2=o)&&p a f.1&&decide (P.cellsOf f.1=a.sz)&&xG p (o+a.sz) (g::r) c|_,_::_::_,_=>false
def vZ:Nat->Ty->TypeId->Bool|0,_,_=>false|n+1,ty,t=>match fieldsOf P t with|some fs=>xG P (vZ n) 0 fs ty&&decide (P.cellsOf t=ty.sz)|none=>match P.underlying t,ty with|some .bool,.b=>true|some (.int k),.i g=>decide (k=g)|some .string,.s=>true|some (.slice e),.l a=>vZ n a e&&decide (P.cellsOf e=a.sz)|some (.array m e),.ar h a=>decide (m=h)&&vZ n a e&&decide (P.cellsOf e=a.sz)&&decide (P.cellsOf t=m*a.sz)|_,_=>false
def Ty.inR:(t:Ty)->t.D->Prop| .b,_=>True| .i k,z=>k.min<=z/\z<=k.max| .s,z=>List.length z<=maxLen| .l t,z=>List.length z<=maxLen/\ ∀x∈(z:List t.D),t.inR x| .pr a c,x=>a.inR x.1/\c.inR x.2| .ar n t,v=> ∀(i:Nat) (h:i<n),t.inR ((v:Vector t.D n)[i])| .u,_=>True| .f,_=>True
end
section
variable {P:Program}
theorem C1{n:Nat}(ih: ∀ty t,vZ P n ty t=true->Rd P n t (cel ty) ty.inR): ∀(o:Nat) (fs:List (TypeId×Nat)) (ty:Ty) (pvs:List PV),xG P (vZ P n) o fs ty=true->
  (∀x∈fs,fB P n x.1 ((pvs.drop x.2).take (P.cellsOf x.1)))-> ∃x:ty.D,(pvs.drop o).take ty.sz=cel ty x/\ty.inR x
 |o,[],ty,pvs,h,_=>by
  cases ty with
  |u=>exact⟨(),by simp[Ty.sz,cel],trivial⟩
  |_=>grind [xG]
 |o,[f],ty,pvs,h,hf=>by
  simp only[xG,JW,decide_eq_true_eq]at h;obtain⟨⟨h1,h2⟩,j⟩:=h;have:=hf f (by simp);rw[h1,j]at this;obtain⟨x,e,q⟩:=ih ty f.1 h2 _ this;grind
 |o,f::g::r,ty,pvs,h,hf=>by
  cases ty with
  |pr a c=>
   simp only[xG,JW,decide_eq_true_eq]at h;obtain⟨⟨⟨h1,h2⟩,j⟩,k⟩:=h;have:=hf f (by simp);rw[h1,j]at this;obtain⟨x,e,q⟩:=ih a f.1 h2 _ this;obtain⟨y,e',q'⟩:=C1 ih (o+a.sz) (g::r) c pvs k (λz v=>hf z (by simp_all));refine⟨(x,y),?_,q,q'⟩;grind [cel,Ty.sz,List.drop_drop]
  |_=>grind [xG]
theorem rdT: ∀(n:Nat) (ty:Ty) (t:TypeId),vZ P n ty t=true->Rd P n t (cel ty) ty.inR
 |0,_,_,h=>by cases h
 |n+1,ty,t,h=>by
  unfold vZ at h;split at h;rename_i fs j;simp only[JW,decide_eq_true_eq]at h;intro pvs r;obtain⟨A,v⟩:=JEp rfl j r;obtain⟨x,e,q⟩:=C1 (rdT n) 0 fs ty pvs h.1 v;grind;split at h;rename_i g;exact JIJ g;rename_i k y g;simp only[decide_eq_true_eq]at h;subst h;exact JJ3 g;rename_i g;exact JJD g;rename_i e a g;simp only[JW,decide_eq_true_eq]at h;exact JHc g h.2 (rdT n a e h.1);rename_i m e z a g;simp only[JW,decide_eq_true_eq]at h;obtain⟨⟨⟨h1,h2⟩,w⟩,o⟩:=h;subst h1;exact JFi g w o (rdT n a e h2);cases h
def Bi(P:Program)(t:TypeId):Bool:=match P.underlying t with|some (.struct _)=>true|some (.array _ _)=>true|_=>false
def gv(agg:Bool)(t:Ty)(x:t.D):TA:=if agg=true then .dt t x else .c (.d t x)
theorem Ba(L:Nat->Nat){t:TypeId}{ty:Ty}{agg:Bool}(ha:Bi P t=agg)(h1:agg=false->ty.sz=1)(x:ty.D):RQ P t (cel ty x)=bO L (gv agg ty x):=by
 unfold RQ Bi at*;generalize P.underlying t=u at ha⊢;rcases u with _|d;subst ha;dsimp only;rw[EZ (h1 rfl) x];rfl;cases d<;>first
 |(subst ha;rfl)
 |(subst ha;dsimp only;rw[EZ (h1 rfl) x];rfl)
theorem JJN{F:Orc}{f:FuncId}{g:Sig}{S:(tyL g.ti).D->Option (tyL g.to).D}{xs:List TA}{x:(tyL g.ti).D}{y:(tyL g.to).D}(he:EOk F (aF f g S))(hx:rG g xs []=some x)(j:S x=some y)
  (hv:BJ g y=some (.a (.c (.d .b true)),[])):F f (xs.map (bO (lns []))) []=some (.p (.b true),[]):=by
 have h:(aF f g S).go xs [] (λv out=>some (v,out))=some (TV.a (.c (.d .b true)),([]:List (Bool×TB))):=by simp only[aF,hx,j,Jy,hv];cases g.same<;>rfl
 obtain⟨v,out,h1,_,e⟩:=he.ok h;injection e with e;injection e with h4 h5;subst h4 h5;exact h1
end
end Go.Am
end
section
namespace Go.Am
set_option linter.unusedVariables false
set_option maxRecDepth 20000
set_option maxHeartbeats 1000000
section
variable {B S:Int}
def EF(e:aA):Prop:=1<=e.1/\e.1<=1099511627776/\1<=e.2.2.1/\e.2.2.1<=1073741824/\0<=e.2.2.2.1/\e.2.2.2.1<e.1/\0<=e.2.2.2.2.1/\e.2.2.2.2.1<e.1/\0<=e.2.2.2.2.2.1/\e.2.2.2.2.2.1<e.1/\e.2.2.2.2.2.2.2=[]/\jK e.2.2.2.2.2.2.1=some true/\((e.2.1=1/\e.2.2.2.2.2.1=0)\/(e.2.1=2/\0<e.2.2.2.1/\1<=e.2.2.2.2.2.1/\e.2.2.2.2.2.1<=e.2.2.2.1))
theorem dl{x:JB}(e:jL x=some true):0<=x.1/\x.1<x.2:=by
 have g:Par (jL x) λy=>y=true->0<=x.1/\x.1<x.2:=by unfold jL;exact .ge (λc=>.some λd=>⟨c,cX.1 d⟩) λ_=>.some nofun
 exact g _ e rfl
theorem EF.of{e:aA}(h:JF e=some true)(hk:e.2.1=1\/e.2.1=2):EF e:=by
 have B:Par (oO e) λy=>y.2=true->y.1=e->1<=e.2.2.1/\e.2.2.1<=1073741824/\e.2.2.2.2.2.2.2=[]/\jK e.2.2.2.2.2.2.1=some true/\((e.2.1=1/\e.2.2.2.2.2.1=0)\/(e.2.1=2/\0<e.2.2.2.1/\1<=e.2.2.2.2.2.1/\e.2.2.2.2.2.1<=e.2.2.2.1)):=by
  unfold oO;refine .eq (λo=>.bind λN h2=>.eq (λg=>by omega) λ_=>.ite (λj=>.ge (λk=>.some λn q=>?_) λ_=>.some nofun) λ_=>.some nofun) λo=>.eq (λg=>.bind λN h2=>.eq (λ_=>.ite (λj=>.gt (λL=>.ge (λM=>.le (λI=>.ge (λk=>.some λn q=>?_) λ_=>.some nofun) λ_=>.some nofun) λ_=>.some nofun) λ_=>.some nofun) λ_=>.some nofun) λc=>absurd g c) λg=>by omega
  subst j;have R:(0:Int)=e.2.2.2.2.2.1:=congrArg (λz:aA=>z.2.2.2.2.2.1) q;have r:([]:List UInt8)=e.2.2.2.2.2.2.2:=congrArg (λz:aA=>z.2.2.2.2.2.2.2) q;exact⟨k,eI.1 n,r.symm,h2,.inl ⟨o,R.symm⟩⟩;subst j;have r:([]:List UInt8)=e.2.2.2.2.2.2.2:=congrArg (λz:aA=>z.2.2.2.2.2.2.2) q;exact⟨k,eI.1 n,r.symm,h2,.inr ⟨g,L,M,I⟩⟩
 have v:Par (JF e) λy=>y=true->EF e:=by unfold JF;refine .bind λa S=>.ite (λo=>.ite (λg=>.ge (λk=>.le (λn=>.bind λb1 x=>.ite (λJ=>.bind λb2 w=>.ite (λj=>.bind λV A=>.some λF=>?_) λ_=>.some nofun) λ_=>.some nofun) λ_=>.some nofun) λ_=>.some nofun) λ_=>.some nofun) λ_=>.some nofun;subst J;subst j;subst F;obtain⟨T,U,O,Q,P⟩:=B _ S o (dE.1 g);obtain⟨K,G⟩:=dl x;obtain⟨C,E⟩:=dl w;obtain⟨D,H⟩:=dl A;exact⟨k,n,T,U,K,G,C,E,D,H,O,Q,P⟩
 exact v _ h rfl
theorem pc{c:hW}(h:gP c=some true):Tot (zT c) λy=>y=true:=by have e:zT c=gP c:=rfl;exact⟨true,e.trans h,rfl⟩
theorem qv{c:fQ}(h:jK c=some true):Tot (sS c) λy=>y=true:=by
 have n:Par (jK c) λy=>y=true->0<=c.1/\c.1<64/\0<=c.2.1/\c.2.1<16/\gP c.2.2.1=some true/\gP c.2.2.2=some true:=by unfold jK;refine .ge (λe=>.lt (λg=>.ge (λj=>.lt (λk=>.bind λa B=>.ite (λr=>.bind λb z=>.some λo=>?_) λ_=>.some nofun) λ_=>.some nofun) λ_=>.some nofun) λ_=>.some nofun) λ_=>.some nofun;subst r;subst o;exact⟨e,g,j,k,B,z⟩
 obtain⟨e,g,j,k,v,x⟩:=n _ h rfl;unfold sS;have A:Tot (zH c.1) λy=>y=true:=by unfold zH;exact .ge (λ_=>.some (cX.2 g)) λc=>absurd e c
 refine .bind A λE d=>.ite (λ_=>.ge (λ_=>.lt (λ_=>.bind (pc v) λC q=>.ite (λ_=>.bind (pc x) λD w=>.some w) λc=>by rw[q]at c;cases c) λc=>absurd k c) λc=>absurd j c) λc=>by rw[d]at c;cases c
theorem JBW{e:aA}(h:EF e):Tot (mX e) λy=>y=true:=by
 obtain⟨O,P,M,N,G,F,C,z,H,r,j,k,I⟩:=h;have o: ∀{n:Int},0<=n->n<e.1->Tot (oT (n,e)) λy=>y=true:=fun{n} h1 h2=>by unfold oT;exact .ge (λ_=>.some (cX.2 h2)) λc=>absurd h1 c
 have K: ∀{b:Bool} {Q:Prop},b=true->Jm b=true->Q:=fun{b Q} h1 h2=>by subst h1;cases h2
 have w:neS e.2.2.2.2.2.2.2 []=false:=by rw[j];rfl
 have x:J0 e.2.2.2.2.2.2.2<=8192:=by rw[j];decide
 unfold mX;refine .ltf (λ_=>.gtf (λ_=>.ltf (λ_=>.gtf (λ_=>.bind (o G F) λL A=>.nof (λ_=>.bind (o C z) λJ B=>.nof (λ_=>.bind (o H r) λv g=>.not (λc=>by rw[g]at c;cases c) λ_=>?_) λc=>by rw[B]at c;cases c) λc=>by rw[A]at c;cases c) λc=>by omega) λc=>by omega) λc=>by omega) λc=>by omega
 refine .eq (λc=>by omega) λ_=>.eq (λc=>by omega) λ_=>.eq (λc=>by omega) λ_=>.eq (λc=>by omega) λ_=>.eq (λc=>by omega) λ_=>.eq (λc=>by omega) λ_=>.eq (λE=>?_) λE=>.eq (λD=>?_) λD=>by omega
 refine .ltf (λ_=>.gt (λc=>by omega) λ_=>.eq (λc=>by omega) λ_=>.ite (λc=>by rw[w]at c;cases c) λ_=>.le (λ_=>?_) λc=>absurd x c) λc=>by omega
 have q:Tot (kL e) λy=>y=true:=by unfold kL;exact .ge (λ_=>.some (eI.2 (by omega))) λc=>by omega
 exact .bind q λy d=>.ite (λ_=>.bind (qv k) λv g=>.some g) λc=>by rw[d]at c;cases c
 refine .ltf (λ_=>.gt (λc=>by omega) λ_=>.ne (λc=>by omega) λ_=>.ite (λc=>by rw[w]at c;cases c) λ_=>.le (λ_=>?_) λc=>absurd x c) λc=>by omega
 have q:Tot (gY e) λy=>y=true:=⟨true,rfl,rfl⟩;exact .bind q λy d=>.ite (λ_=>.bind (qv k) λv g=>.some g) λc=>by rw[d]at c;cases c
def bR(e:aA):Int:=e.2.2.2.2.2.2.1.1
def tT(r:JK):Prop:=1<=r.1/\r.1<=r.2.1/\r.2.1<=1099511627776/\0<=r.2.2.1/\r.2.2.1<=r.2.2.2.1/\r.2.2.2.1<64/\0<=r.2.2.2.2.1/\r.2.2.2.2.1<=8
def FR(r:JK)(e:aA):Prop:=JF e=some true/\(e.2.1=1\/e.2.1=2)/\r.1<=e.1/\e.1<=r.2.1/\r.2.2.1<=bR e/\bR e<=r.2.2.2.1
def jY(f:Int)(a b:aA):Prop:=(bR a<bR b/\b.2.2.2.2.1<f)\/(bR a=bR b/\a.1<b.1/\b.2.2.2.2.1=a.1)
def nW(r:JK):Prop:=tT r/\J0 r.2.2.2.2.2<=4096/\(∀(j:Nat) (e:aA),r.2.2.2.2.2[j]?=some e->FR r e)/\(∀e,r.2.2.2.2.2[0]?=some e->e.2.2.2.2.1<r.1)/\ ∀(j:Nat) (a b:aA),r.2.2.2.2.2[j]?=some a->r.2.2.2.2.2[j+1]?=some b->jY r.1 a b
theorem tT.of{r:JK}(h:qQ (r.1,r.2.1,r.2.2.1,r.2.2.2.1,r.2.2.2.2.1)=some true):tT r:=by
 have e:Par (qQ (r.1,r.2.1,r.2.2.1,r.2.2.2.1,r.2.2.2.2.1)) λy=>y=true->tT r:=by unfold qQ;exact .ge (λw=>.le (λg=>.le (λj=>.ge (λv=>.le (λo=>.lt (λq=>.ge (λk=>.some λn=>⟨w,g,j,v,o,q,k,eI.1 n⟩) λ_=>.some nofun) λ_=>.some nofun) λ_=>.some nofun) λ_=>.some nofun) λ_=>.some nofun) λ_=>.some nofun) λ_=>.some nofun
 exact e _ h rfl
theorem JC9{e:aA}(h:JN e=some true):e.2.1=1\/e.2.1=2:=by
 have g:Par (JN e) λy=>y=true->e.2.1=1\/e.2.1=2:=by unfold JN;exact .eqf (λ_=>.some λd=>.inr (oJ.1 d)) λc=>.some λ_=>.inl c
 exact g _ h rfl
theorem sj{e:aA}(h:e.2.1=1\/e.2.1=2):Tot (JN e) λy=>y=true:=by unfold JN;exact .eqf (λc=>.some (oJ.2 (by omega))) λ_=>.some rfl
theorem Qg{e:aA}(h:e.2.1=1\/e.2.1=2):Tot (KT e) λy=>y=true:=sj h
theorem qh{a b:aA}{y:Int}(h:mY (a,b)=some y)(c: ¬0<=y):bR a<bR b\/(bR a=bR b/\a.1<b.1):=by
 have e:Par (mY (a,b)) λy=> ¬0<=y->bR a<bR b\/(bR a=bR b/\a.1<b.1):=by unfold mY;exact .ltf (λ_=>.eq (λj=>.lt (λg=>.some λ_=>.inr ⟨j,g⟩) λ_=>.eq (λ_=>.eq (λ_=>.some λc=>absurd (aU 0) c) λ_=>.some λc=>absurd (by decide) c) λ_=>.some λc=>absurd (by decide) c) λ_=>.eq (λ_=>.eq (λ_=>.some λc=>absurd (aU 0) c) λ_=>.some λc=>absurd (by decide) c) λ_=>.some λc=>absurd (by decide) c) λc=>.some λ_=>.inl c
 exact e _ h c
theorem Ez{a b:aA}(h:bR a<bR b\/(bR a=bR b/\a.1<b.1)):Tot (mY (a,b)) λy=> ¬0<=y:=by unfold bR at h;unfold mY;exact .ltf (λc=>.eq (λe=>.lt (λj=>.some (by decide)) λg=>by(try dsimp only at c e g);omega) λe=>by(try dsimp only at c e);omega) λc=>.some (by decide)
theorem nW.of{r:JK}(h:kH r=some true):nW r:=by
 have L:Par (kH r) λy=>y=true->nW r:=by
  unfold kH;refine .bind λa g=>.nof (λS=>.gt (λ_=>.some nofun) λT=>?_) λ_=>.some nofun;subst S;refine .while (λz=>z.2=r/\0<=z.1/\(∀(j:Nat) (e:aA),(j:Int)<z.1->r.2.2.2.2.2[j]?=some e->FR r e)/\(∀e,0<z.1->r.2.2.2.2.2[0]?=some e->e.2.2.2.2.1<r.1)/\ ∀(j:Nat) (a b:aA),(j:Int)+1<z.1->r.2.2.2.2.2[j]?=some a->r.2.2.2.2.2[j+1]?=some b->jY r.1 a b) ⟨rfl,aU _,λj e h=>by(try dsimp only at h);omega,λe h=>by(try dsimp only at h);omega,λj a b h=>by(try dsimp only at h);omega⟩ ?_;rintro⟨i,z⟩ ⟨rfl,Q,h1,h2,I⟩
  (try dsimp only at Q h1 h2 I T)
  unfold UP;dsimp only;have o1:=Jn i 1;have o2:=bN i 1;refine .lt (λc=>?_) λc=>.some λ_=>⟨tT.of g,by omega,λj e v=>h1 j e (by have:=kW v;omega) v,λe v=>h2 e (by have:=kW v;omega) v,λj a b K F=>I j a b (by have:=kW F;omega) K F⟩;refine .bind λe v=>.bind λb o=>.nof (λU=>.bind λd Y=>.nof (λR=>.ltf (λc5=>.gtf (λc6=>.ltf (λc7=>.gt (λ_=>.some nofun) λc8=>?_) λ_=>.some nofun) λ_=>.some nofun) λ_=>.some nofun) λ_=>.some nofun) λ_=>.some nofun;subst U;subst R;obtain⟨_,A⟩:=hI v;have G:FR z e:=⟨o,JC9 Y,by omega,by omega,by unfold bR;omega,by unfold bR;omega⟩;have nx:(i=0->e.2.2.2.2.1<z.1)->(∀a,0<i->z.2.2.2.2.2[(i-1).toNat]?=some a->jY z.1 a e)->(z=z/\0<=J1 .i64 i 1/\(∀(j:Nat) (e:aA),(j:Int)<J1 .i64 i 1->z.2.2.2.2.2[j]?=some e->FR z e)/\(∀e,0<J1 .i64 i 1->z.2.2.2.2.2[0]?=some e->e.2.2.2.2.1<z.1)/\ ∀(j:Nat) (a b:aA),(j:Int)+1<J1 .i64 i 1->z.2.2.2.2.2[j]?=some a->z.2.2.2.2.2[j+1]?=some b->jY z.1 a b):=by
   intro V W;refine⟨rfl,by omega,λj f hj k=>?_,λf hp k=>?_,λj a b hj g o=>?_⟩;by_cases H:(j:Int)<i;exact h1 j f H k;have:j=i.toNat:=by omega
   subst this;rw[A]at k;injection k with k;subst k;exact G;by_cases hi:0<i;exact h2 f hi k;have N:i=0:=by omega
   subst N;rw[show(0:Int).toNat=0 from rfl]at A;rw[A]at k;injection k with k;subst k;exact V rfl;by_cases H:(j:Int)+1<i;exact I j a b H g o;have e1:j+1=i.toNat:=by omega
   have Z:j=(i-1).toNat:=by omega
   rw[e1,A]at o;injection o with o;subst o;rw[Z]at g;exact W a (by omega) g
  have C: ∀{a:aA},0<i->idx z.2.2.2.2.2 (JG .i64 i 1)=some a->z.2.2.2.2.2[(i-1).toNat]?=some a:=fun{a} hi g=>by obtain⟨_,q⟩:=hI g;rw[show(i-1).toNat=(JG .i64 i 1).toNat by omega];exact q
  have zero: ¬0<i-> ¬z.1<=e.2.2.2.2.1->(z=z/\0<=J1 .i64 i 1/\(∀(j:Nat) (e:aA),(j:Int)<J1 .i64 i 1->z.2.2.2.2.2[j]?=some e->FR z e)/\(∀e,0<J1 .i64 i 1->z.2.2.2.2.2[0]?=some e->e.2.2.2.2.1<z.1)/\ ∀(j:Nat) (a b:aA),(j:Int)+1<J1 .i64 i 1->z.2.2.2.2.2[j]?=some a->z.2.2.2.2.2[j+1]?=some b->jY z.1 a b):=λhi k=>nx (λ_=>by omega) λa h=>absurd h hi;refine .gt (λB=>.bind λy7 E=>.bind λy8 M=>.ge (λ_=>.some nofun) λJ=>.gt (λ_=>.bind λy9 n=>.eq (λD=>.bind λa2 w=>.ne (λ_=>.some nofun) λx=>.some ?_) λD=>.ge (λ_=>.some nofun) λx=>.some ?_) λc=>absurd B c) λB=>.gt (λc=>absurd c B) λ_=>.ge (λ_=>.some nofun) λx=>.some (zero B x);rw[E]at n w;injection n with n;injection w with w;subst n;subst w;refine nx (λh=>by omega) λa _ g=>?_;rw[C B E]at g;injection g with g;subst g;rcases qh M J with q|⟨O,P⟩;unfold bR at q;omega;exact .inr ⟨D,P,x⟩;rw[E]at n;injection n with n;subst n;refine nx (λh=>by omega) λa _ g=>?_;rw[C B E]at g;injection g with g;subst g;rcases qh M J with q|⟨O,P⟩;exact .inl ⟨q,by omega⟩;exact absurd O D
 exact L _ h rfl
end
section
variable {B S:Int}
theorem uK{α:Type}{l:List α}{i:Int}(g:0<=i)(h1:i<J0 l): ∃a,idx l i=some a/\l[i.toNat]?=some a:=by
 have e:i.toNat<l.length:=by unfold J0 at h1;omega
 exact⟨l[i.toNat],by unfold idx;rw[if_pos g,aQ e],aQ e⟩
theorem Hn{r:JK}(h:tT r):Tot (qQ (r.1,r.2.1,r.2.2.1,r.2.2.2.1,r.2.2.2.2.1)) λy=>y=true:=by obtain⟨h1,h2,o,k,n,e,j,g⟩:=h;unfold qQ;exact .ge (λ_=>.le (λ_=>.le (λ_=>.ge (λ_=>.le (λ_=>.lt (λ_=>.ge (λ_=>.some (eI.2 g)) λc=>absurd j c) λc=>absurd e c) λc=>absurd n c) λc=>absurd k c) λc=>absurd o c) λc=>absurd h2 c) λc=>absurd h1 c
theorem Lv{r:JK}(h:tT r):Tot (DW r) λy=>y=true:=by obtain⟨h1,h2,o,k,n,e,j,g⟩:=h;unfold DW;exact .ge (λ_=>.le (λ_=>.le (λ_=>.ge (λ_=>.le (λ_=>.lt (λ_=>.ge (λ_=>.some (eI.2 g)) λc=>absurd j c) λc=>absurd e c) λc=>absurd n c) λc=>absurd k c) λc=>absurd o c) λc=>absurd h2 c) λc=>absurd h1 c
theorem fN{α:Type}{o:Option α}{v:α}(h:o=some v):Tot o λy=>y=v:=⟨v,h,rfl⟩
theorem oh{r:JK}(h:nW r){i:Int}(hi:0<i)(hl:i<J0 r.2.2.2.2.2){a b:aA}(ha:r.2.2.2.2.2[(i-1).toNat]?=some a)(hb:r.2.2.2.2.2[i.toNat]?=some b):jY r.1 a b:=
 h.2.2.2.2 (i-1).toNat a b ha (by rw[show(i-1).toNat+1=i.toNat by omega];exact hb)
theorem qf{r:JK}(h:nW r):kH r=some true:=by
 have n:Tot (kH r) λy=>y=true:=by
  obtain⟨R,g2,H,K,g5⟩:=id h;unfold kH;refine .bind (Hn R) λy2 D=>.nof (λ_=>.gt (λc=>by omega) λ_=>?_) λc=>by rw[D]at c;cases c
  refine Jl (τ:=Int) (λq=>(q,r)) (λq=>0<=q/\q<=J0 r.2.2.2.2.2) (λq=>J0 r.2.2.2.2.2-q) ?_ 0 rfl ⟨aU _,Je⟩;rintro i ⟨G,h1⟩;unfold UP;dsimp only;have o1:=Jn i 1;have o2:=bN i 1;refine .lt (λc=>?_) λc=>.some rfl;obtain⟨e,T,g⟩:=uK G c;obtain⟨L,E,W,Y,B,F⟩:=H _ e g;have nx: ∃c':Int,((J1 .i64 i 1,r):Int×JK)=(c',r)/\(0<=c'/\c'<=J0 r.2.2.2.2.2)/\J0 r.2.2.2.2.2-c'<J0 r.2.2.2.2.2-i/\0<=J0 r.2.2.2.2.2-i:=⟨J1 .i64 i 1,rfl,⟨by omega,by omega⟩,by omega,by omega⟩;unfold bR at B F;refine .bind (fN T) λw P=>?_;subst P;refine .bind (fN L) λy5 M=>.nof (λ_=>.bind (sj E) λy6 J=>.nof (λ_=>.ltf (λ_=>.gtf (λ_=>.ltf (λ_=>.gt (λc=>by omega) λ_=>?_) λc=>by omega) λc=>by omega) λc=>by omega) λc=>by rw[J]at c;cases c) λc=>by rw[M]at c;cases c
  refine .gt (λj=>?_) λj=>.gt (λc=>absurd c j) λ_=>.ge (λc=>?_) λ_=>.some nx;have S:JG .i64 i 1=i-1:=by omega
  rw[S];obtain⟨a,k,v⟩:=uK (l:=r.2.2.2.2.2) (i:=i-1) (by omega) (by omega);have x:=oh h j c v g;refine .bind (fN k) λC I=>?_;subst I;refine .bind (Ez (a:=C) (b:=w) (by rcases x with⟨q,_⟩|⟨Q,U,_⟩;exact .inl q;exact .inr ⟨Q,U⟩)) λZ O=>.ge (λc=>absurd c O) λ_=>.gt (λ_=>.bind (fN k) λy9 N=>?_) λc=>absurd j c;subst N;unfold jY bR at x;refine .eq (λo=>.bind (fN k) λV z=>?_) λo=>.ge (λc=>by omega) λ_=>.some nx;subst z;exact .ne (λc=>by omega) λ_=>.some nx;have A:i=0:=by omega
  subst A;have:=K w g;omega
 obtain⟨y,e,d⟩:=n;rw[e,d]
theorem Gu{a b:aA}(h:bR a=bR b/\a.1<b.1):Tot (DN (a,b)) λy=> ¬0<=y:=by
 obtain⟨h1,h2⟩:=h;unfold bR at h1;have j:sX (a.2.2.2.2.2.2.1.1,b.2.2.2.2.2.2.1.1)=some 0:=by unfold sX DQ;dsimp only;rw[h1];simp[aL,aJ,aM]
 have e:sX (a.1,b.1)=some (-1):=by unfold sX DQ;dsimp only;simp[aL,aJ,aM,h2]
 unfold DN;dsimp only;rw[j,e];show Tot ((yP [0, -1]).bind _) _;have g:yP [0, -1]=some (-1):=by unfold yP;rw[uZ (s':=(0,[0, -1],J0 ([0, -1]:List Int),1)) (by rfl)];exact qK (by rfl)
 rw[g];exact .some (by decide)
theorem vk{r:JK}(h:nW r):iT r=some true:=by
 have v:Tot (iT r) λy=>y=true:=by
  obtain⟨R,g2,P,I,g5⟩:=id h;unfold iT;refine .bind (Lv R) λy2 C=>.nof (λ_=>.gt (λc=>by omega) λ_=>?_) λc=>by rw[C]at c;cases c
  refine Jl (τ:=Int) (λq=>(r.2.2.2.2.2,J0 r.2.2.2.2.2,q,r)) (λq=>0<=q/\q<=J0 r.2.2.2.2.2) (λq=>J0 r.2.2.2.2.2-q) ?_ 0 rfl ⟨aU _,Je⟩;rintro i ⟨E,h1⟩;unfold fk;dsimp only;have Z:=Jn i 1;have W:=bN i 1;refine .lt (λc=>?_) λc=>.some rfl;obtain⟨e,T,g⟩:=uK E c;obtain⟨J,n,B,D,k,o⟩:=P _ e g;have nx: ∃c':Int,((r.2.2.2.2.2,J0 r.2.2.2.2.2,J1 .i64 i 1,r):SD)=(r.2.2.2.2.2,J0 r.2.2.2.2.2,c',r)/\(0<=c'/\c'<=J0 r.2.2.2.2.2)/\J0 r.2.2.2.2.2-c'<J0 r.2.2.2.2.2-i/\0<=J0 r.2.2.2.2.2-i:=⟨J1 .i64 i 1,rfl,⟨by omega,by omega⟩,by omega,by omega⟩;unfold bR at k o;have Q:Tot (DY (r,e)) λy=>y=true:=by unfold DY;exact .bind (Qg n) λy d=>.ite (λ_=>.ge (λ_=>.le (λ_=>.ge (λ_=>.some (eI.2 D)) λc=>absurd B c) λc=>absurd o c) λc=>absurd k c) λc=>by rw[d]at c;cases c
  refine .bind (fN T) λz O=>?_;subst O;refine .bind (JBW (EF.of J n)) λY K=>.nof (λ_=>.bind Q λy6 G=>.not (λc=>by rw[G]at c;cases c) λ_=>?_) λc=>by rw[K]at c;cases c
  refine .eqf (λw=>?_) λw=>.ge (λc=>?_) λ_=>.some nx;have hi:0<i:=by omega
  have S:JG .i64 i 1=i-1:=by omega
  rw[S];obtain⟨a,A,x⟩:=uK (l:=r.2.2.2.2.2) (i:=i-1) (by omega) (by omega);have j:=oh h hi c x g;refine .bind (fN A) λV F=>?_;subst F;refine .lt (λN=>.ge (λc=>?_) λ_=>.some nx) λN=>.bind (fN A) λH M=>?_;unfold jY bR at j;omega;subst M;have U:=j;unfold jY bR at j;refine .bind (Gu (a:=H) (b:=z) (by unfold bR;omega)) λy9 L=>.gef (λ_=>.ne (λc=>by omega) λ_=>.some nx) λc=>absurd c L;subst w;have:=I z g;omega
 obtain⟨y,e,d⟩:=v;rw[e,d]
end
section
variable {B S:Int}
def ent(r:JK):List aA:=r.2.2.2.2.2
theorem JJg{α:Type}{bytes:Nat}{l m:List α}(h:J0 l+J0 m<=34359738368)(hb:bytes<=2048):JC bytes l m=some (l++m):=by unfold JC;rw[if_pos (NY (by unfold J0 at h;omega) hb)]
theorem JDI(l:List aA)(hl:J0 l<=4096):KW (l,l)=some true:=by
 have g:Tot (KW (l,l)) λy=>y=true:=by unfold KW;refine .ne (λc=>absurd rfl c) λ_=>Jl (τ:=Int) (λq=>(l,l,q)) (λq=>0<=q/\q<=J0 l) (λq=>J0 l-q) ?_ 0 rfl ⟨aU _,Je⟩;rintro i ⟨o,h1⟩;unfold Dd;dsimp only;have v:=Jn i 1;refine .lt (λc=>?_) λ_=>.some rfl;obtain⟨e,j,_⟩:=uK o c;refine .bind (fN j) λr n=>.bind (fN j) λh k=>.not (λc=>?_) λ_=>.some ⟨J1 .i64 i 1,rfl,⟨by omega,by omega⟩,by omega,by omega⟩;subst n;subst k;have q:eqT J4 h h=true:=dE.2 rfl;cases q.symm.trans c
 obtain⟨y,e,d⟩:=g;rw[e,d]
end
section
variable {B S:Int}
theorem ZY(x:Int×aA):Tot (oT x) λy=>y=true->0<=x.1/\x.1<x.2.1:=by unfold oT;exact .ge (λc=>.some λd=>⟨c,cX.1 d⟩) λ_=>.some nofun
theorem C8(c:hW):Tot (zT c) λy=>gP c=some y:=by
 have g:Tot (gP c) λ_=>True:=by unfold gP;exact .ite (λ_=>.itf (λ_=>.some trivial) λ_=>.some trivial) λ_=>.some trivial
 obtain⟨y,e,_⟩:=g;exact⟨y,e,e⟩
theorem JFe(n:Int):Tot (zH n) λy=>y=true->0<=n/\n<64:=by unfold zH;exact .ge (λc=>.some λd=>⟨c,cX.1 d⟩) λ_=>.some nofun
theorem og(c:fQ):Tot (sS c) λy=>y=true->jK c=some true:=by unfold sS;refine .bind (JFe c.1) λw h2=>.ite (λe=>.ge (λj=>.lt (λk=>.bind (C8 c.2.2.1) λv r=>.ite (λh=>.bind (C8 c.2.2.2) λx o=>.some λg=>?_) λ_=>.some nofun) λ_=>.some nofun) λ_=>.some nofun) λ_=>.some nofun;obtain⟨n,q⟩:=h2 e;subst h;subst g;unfold jK;rw[if_pos (uN.2 n),if_pos (cX.2 q),if_pos (uN.2 j),if_pos (cX.2 k),r,o];rfl
theorem JI2(c:fQ):Tot (vJ c) λ_=>True:=⟨_,rfl,trivial⟩
theorem Ad(e:aA):Tot (gY e) λ_=>True:=⟨_,rfl,trivial⟩
theorem Zr(e:aA):Tot (kL e) λy=>y=true->1<=e.2.2.2.2.2.1/\e.2.2.2.2.2.1<=e.2.2.2.1:=by unfold kL;exact .ge (λc=>.some λd=>⟨c,eI.1 d⟩) λ_=>.some nofun
theorem JKZ(c:fQ):Tot (zM c) λ_=>True:=by unfold zM;exact .ite (λ_=>.ite (λ_=>.some trivial) λ_=>.some trivial) λ_=>.some trivial
theorem C5{l:List UInt8}(h:neS l []=false):l=[]:=by unfold neS at h;simpa using h
theorem JIH(e:aA):Tot (mX e) λy=>y=true->(e.2.1=1\/e.2.1=2)->EF e:=by
 have g: ∀{o:Option Bool},(3<=e.2.1\/e.2.1<=0)->Tot o (λ_=>True)->Tot o λy=>y=true->(e.2.1=1\/e.2.1=2)->EF e:=λh C=>C.mono λ_ _ _ N=>by omega
 unfold mX;refine .ltf (λQ=>.gtf (λR=>.ltf (λO=>.gtf (λP=>.bind (ZY _) λM h2=>.nof (λA=>.bind (ZY _) λK I=>.nof (λB=>.bind (ZY _) λL F=>.not (λ_=>.some nofun) λE=>?_) λ_=>.some nofun) λ_=>.some nofun) λ_=>.some nofun) λ_=>.some nofun) λ_=>.some nofun) λ_=>.some nofun;have b2:=h2 A;have j:=I B;have k:=F E;refine .eq (λc=>g (by omega) ?_) λ_=>.eq (λc=>g (by omega) ?_) λ_=>.eq (λc=>g (by omega) ?_) λ_=>.eq (λc=>g (by omega) ?_) λ_=>.eq (λc=>g (by omega) ?_) λ_=>.eq (λc=>g (by omega) ?_) λ_=>.eq (λx=>?_) λx=>.eq (λw=>?_) λw=>by omega
 case refine_7=>refine .ltf (λH=>.gt (λ_=>.some nofun) λD=>.eq (λ_=>.some nofun) λv=>.ite (λ_=>.some nofun) λn=>.le (λ_=>.bind (Zr e) λy h=>.ite (λd=>.bind (og _) λz r=>.some λq _=>?_) λ_=>.some nofun) λ_=>.some nofun) λ_=>.some nofun;obtain⟨G,J⟩:=h d;exact⟨by omega,by omega,by omega,by omega,b2.1,b2.2,j.1,j.2,k.1,k.2,C5 n,r q,.inr ⟨x,by have:=b2.1;(try dsimp only at this);omega,G,J⟩⟩
 case refine_8=>refine .ltf (λH=>.gt (λ_=>.some nofun) λD=>.ne (λ_=>.some nofun) λv=>.ite (λ_=>.some nofun) λn=>.le (λ_=>.bind (Ad e) λy h=>.ite (λd=>.bind (og _) λz r=>.some λq _=>?_) λ_=>.some nofun) λ_=>.some nofun) λ_=>.some nofun;exact⟨by omega,by omega,by omega,by omega,b2.1,b2.2,j.1,j.2,k.1,k.2,C5 n,r q,.inl ⟨w,v⟩⟩
 all_goals repeat' first
  |exact .some trivial
  |refine .ite (λ_=>?_) λ_=>?_
  |refine .itf (λ_=>?_) λ_=>?_
  |refine .bind (Ad _) λ_ _=>?_
  |refine .bind (JI2 _) λ_ _=>?_
  |refine .bind (JKZ _) λ_ _=>?_
end
section
variable {B S:Int}
def AP(x y:Int):Int:=if x<y then -1 else if y<x then 1 else 0
def RZ(a b:aA):Int:=if AP (bR a) (bR b)=0 then AP a.1 b.1 else AP (bR a) (bR b)
theorem nd(x:Int):aL x x=false:=by simp[aL]
theorem Ac(x y:Int):sX (x,y)=some (AP x y):=by
 unfold sX DQ AP;dsimp only;rw[nd,nd];by_cases h:x<y;simp[aJ,h];by_cases h2:y<x;simp[aJ,aM,h,h2];simp[aJ,aM,h,h2]
theorem Zt(p q:Int):yP [p,q]=some (if p=0 then q else p):=by
 unfold yP;have h: ∀p q:Int,UO (0,[p,q],J0 [p,q],0)=if aL p 0=true then some (.inr p)else some (.inl (0,[p,q],J0 [p,q],1)):=λp q=>rfl
 have g: ∀p q:Int,UO (0,[p,q],J0 [p,q],1)=if aL q 0=true then some (.inr q)else some (.inl (0,[p,q],J0 [p,q],2)):=λp q=>rfl
 have k: ∀p q:Int,UO (0,[p,q],J0 [p,q],2)=some (.inr 0):=λp q=>rfl;by_cases e:p=0;subst e;rw[if_pos rfl,uZ ((h 0 q).trans (if_neg (by decide)))];by_cases j:q=0;subst j;rw[uZ ((g 0 0).trans (if_neg (by decide)))];exact qK (k 0 0);exact qK ((g 0 q).trans (if_pos (gM.2 j)));rw[if_neg e];exact qK ((h p q).trans (if_pos (gM.2 e)))
theorem JIn(a b:aA):DN (a,b)=some (RZ a b):=by unfold DN RZ bR;dsimp only;rw[Ac,Ac];simp only[Jy];rw[Zt];rfl
def ltE(a b:aA):Prop:=bR a<bR b\/(bR a=bR b/\a.1<b.1)
theorem JFN{a b:aA}:RZ a b<0↔ltE a b:=by
 unfold RZ AP ltE
 repeat' split
 all_goals first|omega|(constructor<;>intro h<;>omega)
theorem JKB(r:JK):Tot (DW r) λy=>y=true->tT r:=by unfold DW;exact .ge (λq=>.le (λe=>.le (λg=>.ge (λo=>.le (λk=>.lt (λn=>.ge (λh=>.some λj=>⟨q,e,g,o,k,n,h,eI.1 j⟩) λ_=>.some nofun) λ_=>.some nofun) λ_=>.some nofun) λ_=>.some nofun) λ_=>.some nofun) λ_=>.some nofun) λ_=>.some nofun
theorem JJF(e:aA):Tot (KT e) λy=>y=true->e.2.1=1\/e.2.1=2:=by unfold KT;exact .eqf (λ_=>.some λd=>.inr (oJ.1 d)) λc=>.some λ_=>.inl c
theorem JKi(r:JK)(e:aA):Tot (DY (r,e)) λy=>y=true->(e.2.1=1\/e.2.1=2)/\r.1<=e.1/\e.1<=r.2.1/\r.2.2.1<=bR e/\bR e<=r.2.2.2.1:=by unfold DY;exact .bind (JJF e) λy h=>.ite (λd=>.ge (λn=>.le (λg=>.ge (λj=>.some λk=>⟨h d,j,eI.1 k,n,g⟩) λ_=>.some nofun) λ_=>.some nofun) λ_=>.some nofun) λ_=>.some nofun
theorem JH0{t:Ty}(x:t.D):eqT t x x=true:=dE.2 rfl
theorem JEI{e:aA}(h:EF e)(hk:e.2.1=1\/e.2.1=2):JF e=some true:=by
 obtain⟨S,T,A,j,O,J,F,B,Q,w,g,o,z⟩:=h;have r: ∀{n:Int},0<=n->n<e.1->jL (n,e.1)=some true:=fun{n} h1 h2=>by unfold jL;rw[if_pos (uN.2 h1)];exact congrArg some (cX.2 h2)
 have sh:Tot (oO e) λy=>y=(e,true):=by
  unfold oO;rcases z with⟨k,q⟩|⟨k,M,U,N⟩;refine .eq (λ_=>.bind (fN o) λy d=>.eq (λc=>by omega) λ_=>.ite (λ_=>.ge (λ_=>.some ?_) λc=>absurd A c) λc=>by rw[d]at c;cases c) λc=>absurd k c;obtain⟨v,P,R,L,D,H,G,I⟩:=e
  (try dsimp only at k q g j)
  subst q;subst g;exact congrArg (Prod.mk _) (eI.2 j);refine .eq (λc=>by omega) λ_=>.eq (λ_=>.bind (fN o) λy d=>.eq (λ_=>.ite (λ_=>.gt (λ_=>.ge (λ_=>.le (λ_=>.ge (λ_=>.some ?_) λc=>absurd A c) λc=>absurd N c) λc=>absurd U c) λc=>absurd M c) λc=>by rw[d]at c;cases c) λc=>absurd k c) λc=>absurd k c;obtain⟨v,P,R,L,D,H,G,I⟩:=e
  (try dsimp only at g j)
  subst g;exact congrArg (Prod.mk _) (eI.2 j)
 have x:Tot (JF e) λy=>y=true:=by unfold JF;refine .bind sh λy d=>?_;subst d;exact .ite (λ_=>.ite (λ_=>.ge (λ_=>.le (λ_=>.bind (fN (r O J)) λY C=>.ite (λ_=>.bind (fN (r F B)) λV E=>.ite (λ_=>.bind (fN (r Q w)) λW K=>.some K) λc=>by rw[E]at c;cases c) λc=>by rw[C]at c;cases c) λc=>absurd T c) λc=>absurd S c) λc=>by have q:=JH0 (t:=J4) e;cases q.symm.trans c) λc=>by cases c
 obtain⟨y,v,d⟩:=x;rw[v,d]
theorem JKN(r:JK):Tot (iT r) λy=>y=true->nW r:=by
 unfold iT;refine .bind (JKB r) λy1 E=>.nof (λS=>.gt (λ_=>.some nofun) λc2=>?_) λ_=>.some nofun;have E:=E S;have R:=Je (l:=r.2.2.2.2.2);refine Jl (τ:=Int) (λq=>(r.2.2.2.2.2,J0 r.2.2.2.2.2,q,r)) (λi=>0<=i/\i<=J0 r.2.2.2.2.2/\(∀(j:Nat) (e:aA),(j:Int)<i->r.2.2.2.2.2[j]?=some e->EF e/\(e.2.1=1\/e.2.1=2)/\r.1<=e.1/\e.1<=r.2.1/\r.2.2.1<=bR e/\bR e<=r.2.2.2.1)/\(∀e,0<i->r.2.2.2.2.2[0]?=some e->e.2.2.2.2.1<r.1)/\ ∀(j:Nat) (a b:aA),(j:Int)+1<i->r.2.2.2.2.2[j]?=some a->r.2.2.2.2.2[j+1]?=some b->jY r.1 a b) (λq=>J0 r.2.2.2.2.2-q) ?_ 0 rfl ⟨aU _,R,λj e h=>by omega,λe h=>by omega,λj a b h=>by omega⟩;rintro i ⟨P,hn,h1,h2,O⟩;unfold fk;dsimp only;have o1:=Jn i 1;have o2:=bN i 1;refine .lt (λc=>?_) λc=>.some λ_=>⟨E,by omega,λj e o=>?_,λe o=>h2 e (by have:=kW o;omega) o,λj a b J z=>O j a b (by have:=kW z;omega) J z⟩;obtain⟨e,o,v⟩:=uK P c;refine .bind (fN o) λg Y=>?_;subst Y;refine .bind (JIH g) λy5 h5=>.nof (λU=>.bind (JKi r g) λy6 W=>.not (λ_=>.some nofun) λT=>?_) λ_=>.some nofun;have N:=W T;have A:EF g/\(g.2.1=1\/g.2.1=2)/\r.1<=g.1/\g.1<=r.2.1/\r.2.2.1<=bR g/\bR g<=r.2.2.2.1:=⟨h5 U N.1,N⟩;have nx:(i=0->g.2.2.2.2.1<r.1)->(∀a,0<i->r.2.2.2.2.2[(i-1).toNat]?=some a->jY r.1 a g)-> ∃c':Int,((r.2.2.2.2.2,J0 r.2.2.2.2.2,J1 .i64 i 1,r):SD)=(r.2.2.2.2.2,J0 r.2.2.2.2.2,c',r)/\(0<=c'/\c'<=J0 r.2.2.2.2.2/\(∀(j:Nat) (e:aA),(j:Int)<c'->r.2.2.2.2.2[j]?=some e->EF e/\(e.2.1=1\/e.2.1=2)/\r.1<=e.1/\e.1<=r.2.1/\r.2.2.1<=bR e/\bR e<=r.2.2.2.1)/\(∀e,0<c'->r.2.2.2.2.2[0]?=some e->e.2.2.2.2.1<r.1)/\ ∀(j:Nat) (a b:aA),(j:Int)+1<c'->r.2.2.2.2.2[j]?=some a->r.2.2.2.2.2[j+1]?=some b->jY r.1 a b)/\J0 r.2.2.2.2.2-c'<J0 r.2.2.2.2.2-i/\0<=J0 r.2.2.2.2.2-i:=by
  intro Z n2;refine⟨J1 .i64 i 1,rfl,⟨by omega,by omega,λj f hj k=>?_,λf hp k=>?_,λj a b hj w n=>?_⟩,by omega,by omega⟩;by_cases F:(j:Int)<i;exact h1 j f F k;have:j=i.toNat:=by omega
  subst this;rw[v]at k;injection k with k;subst k;exact A;by_cases hi:0<i;exact h2 f hi k;have M:i=0:=by omega
  subst M;rw[show(0:Int).toNat=0 from rfl]at v;rw[v]at k;injection k with k;subst k;exact Z rfl;by_cases F:(j:Int)+1<i;exact O j a b F w n;have G:j+1=i.toNat:=by omega
  have e2:j=(i-1).toNat:=by omega
  rw[G,v]at n;injection n with n;subst n;rw[e2]at w;exact n2 a (by omega) w
 refine .eqf (λB=>?_) λB=>.ge (λ_=>.some nofun) λc5=>.some (nx (λ_=>by omega) λa h=>by omega);have G:JG .i64 i 1=i-1:=by omega
 rw[G];obtain⟨a,w,L⟩:=uK (l:=r.2.2.2.2.2) (i:=i-1) (by omega) (by omega);have H:jY r.1 a g->(∀b,0<i->r.2.2.2.2.2[(i-1).toNat]?=some b->jY r.1 b g):=λh b _ n=>by rw[L]at n;injection n with n;subst n;exact h
 refine .bind (fN w) λy7 Q=>?_;subst Q;refine .lt (λC=>.ge (λ_=>.some nofun) λc6=>.some (nx (λh=>absurd h B) (H (.inl ⟨C,by omega⟩)))) λC=>.bind (fN w) λI V=>?_;subst V;refine .bind (fN (JIn I g)) λy9 d9=>.gef (λc9=>.ne (λ_=>.some nofun) λK=>.some (nx (λh=>absurd h B) (H ?_))) λ_=>.some nofun;subst d9;rcases(JFN (a:=I) (b:=g)).1 (by omega)with q|⟨D,x⟩;exact absurd q C;exact .inr ⟨D,x,K⟩;obtain⟨D,x⟩:=h1 j e (by have:=kW o;omega) o;exact⟨JEI D x.1,x⟩
end
section
variable {B S:Int}
theorem ltE.trans{a b c:aA}(h1:ltE a b)(h2:ltE b c):ltE a c:=by unfold ltE at*;omega
end
section
variable {B S:Int}
def FF(r:JK):Prop:=aB 16384 9223372036854775807 cZ r
theorem vv{r:JK}(h:FF r): ∃v,iT r=some v/\kH r=some v/\(v=true->nW r):=by
 obtain⟨y,e,h1⟩:=JKN r;obtain⟨z,g,_⟩:=ej (B:=16384) (S:=9223372036854775807) h;refine⟨y,e,?_,h1⟩;cases y with
 |true=>exact qf (h1 rfl)
 |false=>
  cases z with
  |false=>exact g
  |true=>have:=vk (nW.of g);rw[this]at e;cases e
theorem Cf{r:JK}(h:nW r):iT r=some true/\kH r=some true:=⟨vk h,qf h⟩
theorem JJr{l:List aA}(h:J0 l<=16384):cJ 128 l=some l:=by have:=Je (l:=l);unfold cJ;rw[if_pos];unfold iF;unfold J0 at h this;simp only[decide_eq_true_eq];omega
theorem JF8{r:JK}(h:J0 (ent r)<=4096):DB (r,r)=some true:=by
 have g:Tot (DB (r,r)) λy=>y=true:=by unfold DB;exact .eq (λ_=>.eq (λ_=>.eq (λ_=>.eq (λ_=>.eq (λ_=>.bind (fN (JDI (ent r) h)) λy d=>.some d) λc=>absurd rfl c) λc=>absurd rfl c) λc=>absurd rfl c) λc=>absurd rfl c) λc=>absurd rfl c
 obtain⟨y,e,d⟩:=g;rw[e,d]
end
section
variable {l E F:List aA} {p:Int}
def Inc(l:List aA):Prop:=l.Pairwise λa b=>a.1<b.1
theorem Inc.filter(h:Inc l)(q:aA->Bool):Inc (l.filter q):=h.sublist (List.filter_sublist)
end
theorem i1(c x:Bool):(if c=true then some x else some false)=some (c&&x):=by cases c<;>rfl
theorem i2(c x:Bool):(if c=false then some x else some false)=some (!c&&x):=by cases c<;>rfl
theorem i3(c x:Bool):(if c=true then some false else some x)=some (!c&&x):=by cases c<;>rfl
theorem i4{α:Type}(c x:Bool)(E:α):(if c=true then some (E,x)else some (E,false))=some (E,c&&x):=by cases c<;>rfl
theorem lr(c:hW):zT c=gP c:=rfl
theorem Bx(c:hW): ∃b,gP c=some b:=by unfold gP;split<;>(try split)<;>exact⟨_,rfl⟩
theorem JDH(c:fQ): ∃b,sS c=some b/\jK c=some b:=by obtain⟨b1,e⟩:=Bx c.2.2.1;obtain⟨b2,j⟩:=Bx c.2.2.2;unfold sS zH jK;rw[lr,lr,e,j];simp only[Jy];by_cases h1:aO c.1 0=true<;>by_cases h2:aJ c.1 64=true<;>by_cases h:aO c.2.1 0=true<;>by_cases g:aJ c.2.1 16=true<;>cases b1<;>simp[h1,h2,h,g]
theorem JBq{x:JB}(e:jL x=some true):0<=x.1/\x.1<x.2:=by
 unfold jL at e;split at e;injection e with e;rename_i h;exact⟨uN.1 h,cX.1 e⟩;cases e
theorem ZV(x:JB): ∃b,jL x=some b:=by unfold jL;split<;>exact⟨_,rfl⟩
theorem JII(c:fQ): ∃z,vJ c=some z/\(z=true↔c=(0,0,(false,[]),false,[])):=⟨_,rfl,dE (t:=dA)⟩
theorem Zx(c:fQ): ∃z,zM c=some z/\(z=true↔c=(c.1,0,(false,[]),false,[])/\0<=c.1/\c.1<64):=by
 have e:Tot (zM c) λz=>(z=true↔c=(c.1,0,(false,[]),false,[])/\0<=c.1/\c.1<64):=by unfold zM;exact .ite (λh=>.ge (λg=>.some ⟨λk=>⟨(dE (t:=dA)).1 h,g,cX.1 k⟩,λk=>cX.2 k.2.2⟩) λg=>.some ⟨nofun,λk=>absurd k.2.1 g⟩) λh=>.some ⟨nofun,λk=>(Bool.false_ne_true (h.symm.trans ((dE (t:=dA)).2 k.1))).elim⟩
 exact e
theorem A3(e:aA):mX e=JF e:=by
 obtain⟨l,k,t,q,v,r,c,bl⟩:=e;obtain⟨U,x,A⟩:=JDH c;obtain⟨b1,w⟩:=ZV (q,l);obtain⟨b2,L⟩:=ZV (v,l);obtain⟨Q,M⟩:=ZV (r,l);have N:oT (q,l,k,t,q,v,r,c,bl)=some b1:=w;have O:oT (v,l,k,t,q,v,r,c,bl)=some b2:=L;have P:oT (r,l,k,t,q,v,r,c,bl)=some Q:=M;have T: ∀b:Bool,Jm b= !b:=λ_=>rfl;unfold mX JF oO;dsimp only;rw[N,O,P,w,L,M,x,A];have j: ∀a b:aA,(eqT J4 a b=true)=(a=b):=λa b=>propext (dE (t:=J4));have g: ∀a b:fQ,(eqT dA a b=true)=(a=b):=λa b=>propext (dE (t:=dA));have V:b1=true->0<=q/\q<l:=λh=>by subst h;exact JBq w
 have K:k=1\/k=2\/k=3\/k=4\/k=5\/k=6\/k=7\/k=8\/k<1\/8<k:=by omega
 clear w L M N O P x A;have W:J0 ([]:List UInt8)=0:=rfl;obtain⟨z,n,S⟩:=JII c;obtain⟨y,o,R⟩:=Zx c;rcases K with rfl|rfl|rfl|rfl|rfl|rfl|rfl|rfl|K|K;simp only[show aJ 1 1=false from rfl,show aM 1 8=false from rfl,show aI 1 8=false from rfl,show aI 1 7=false from rfl,show aI 1 6=false from rfl,show aI 1 5=false from rfl,show aI 1 4=false from rfl,show aI 1 3=false from rfl,show aI 1 2=false from rfl,show aI 1 1=true from rfl,if_true,if_false,eB,reduceCtorEq,Jy,gY,kL,n,o,i1,i2,i3,i4]
 congr 1
 rw[Bool.eq_iff_iff];simp only[JW,kR,j,g];simp only[aJ,aM,aO,bA,aL,aI,Jm,neS,decide_eq_true_eq,decide_eq_false_iff_not,Prod.mk.injEq,Bool.not_eq_false',Decidable.not_not,true_and,and_true];grind;simp only[show aJ 2 1=false from rfl,show aM 2 8=false from rfl,show aI 2 8=false from rfl,show aI 2 7=false from rfl,show aI 2 6=false from rfl,show aI 2 5=false from rfl,show aI 2 4=false from rfl,show aI 2 3=false from rfl,show aI 2 2=true from rfl,show aI 2 1=false from rfl,if_true,if_false,eB,reduceCtorEq,Jy,gY,kL,n,o,i1,i2,i3,i4]
 congr 1
 rw[Bool.eq_iff_iff];simp only[JW,kR,j,g];simp only[aJ,aM,aO,bA,aL,aI,Jm,neS,decide_eq_true_eq,decide_eq_false_iff_not,Prod.mk.injEq,Bool.not_eq_false',Decidable.not_not,true_and,and_true];grind;simp only[show aJ 3 1=false from rfl,show aM 3 8=false from rfl,show aI 3 8=false from rfl,show aI 3 7=false from rfl,show aI 3 6=false from rfl,show aI 3 5=false from rfl,show aI 3 4=false from rfl,show aI 3 3=true from rfl,show aI 3 2=false from rfl,show aI 3 1=false from rfl,if_true,if_false,eB,reduceCtorEq,Jy,gY,kL,n,o,i1,i2,i3,i4]
 congr 1
 rw[Bool.eq_iff_iff];simp only[JW,kR,j,g];simp only[aJ,aM,aO,bA,aL,aI,Jm,neS,decide_eq_true_eq,decide_eq_false_iff_not,Prod.mk.injEq,Bool.not_eq_false',Decidable.not_not,true_and,and_true];grind;simp only[show aJ 4 1=false from rfl,show aM 4 8=false from rfl,show aI 4 8=false from rfl,show aI 4 7=false from rfl,show aI 4 6=false from rfl,show aI 4 5=false from rfl,show aI 4 4=true from rfl,show aI 4 3=false from rfl,show aI 4 2=false from rfl,show aI 4 1=false from rfl,if_true,if_false,eB,reduceCtorEq,Jy,gY,kL,n,o,i1,i2,i3,i4]
 congr 1
 rw[Bool.eq_iff_iff];simp only[JW,kR,j,g];simp only[aJ,aM,aO,bA,aL,aI,Jm,neS,decide_eq_true_eq,decide_eq_false_iff_not,Prod.mk.injEq,Bool.not_eq_false',Decidable.not_not,true_and,and_true];grind;simp only[show aJ 5 1=false from rfl,show aM 5 8=false from rfl,show aI 5 8=false from rfl,show aI 5 7=false from rfl,show aI 5 6=false from rfl,show aI 5 5=true from rfl,show aI 5 4=false from rfl,show aI 5 3=false from rfl,show aI 5 2=false from rfl,show aI 5 1=false from rfl,if_true,if_false,eB,reduceCtorEq,Jy,gY,kL,n,o,i1,i2,i3,i4]
 congr 1
 rw[Bool.eq_iff_iff];simp only[JW,kR,j,g];simp only[aJ,aM,aO,bA,aL,aI,Jm,neS,decide_eq_true_eq,decide_eq_false_iff_not,Prod.mk.injEq,Bool.not_eq_false',Decidable.not_not,true_and,and_true];grind;simp only[show aJ 6 1=false from rfl,show aM 6 8=false from rfl,show aI 6 8=false from rfl,show aI 6 7=false from rfl,show aI 6 6=true from rfl,show aI 6 5=false from rfl,show aI 6 4=false from rfl,show aI 6 3=false from rfl,show aI 6 2=false from rfl,show aI 6 1=false from rfl,if_true,if_false,eB,reduceCtorEq,Jy,gY,kL,n,o,i1,i2,i3,i4]
 congr 1
 rw[Bool.eq_iff_iff];simp only[JW,kR,j,g];simp only[aJ,aM,aO,bA,aL,aI,Jm,neS,decide_eq_true_eq,decide_eq_false_iff_not,Prod.mk.injEq,Bool.not_eq_false',Decidable.not_not,true_and,and_true];grind;simp only[show aJ 7 1=false from rfl,show aM 7 8=false from rfl,show aI 7 8=false from rfl,show aI 7 7=true from rfl,show aI 7 6=false from rfl,show aI 7 5=false from rfl,show aI 7 4=false from rfl,show aI 7 3=false from rfl,show aI 7 2=false from rfl,show aI 7 1=false from rfl,if_true,if_false,eB,reduceCtorEq,Jy,gY,kL,n,o,i1,i2,i3,i4]
 congr 1
 rw[Bool.eq_iff_iff];simp only[JW,kR,j,g];simp only[aJ,aM,aO,bA,aL,aI,Jm,neS,decide_eq_true_eq,decide_eq_false_iff_not,Prod.mk.injEq,Bool.not_eq_false',Decidable.not_not,true_and,and_true];grind;simp only[show aJ 8 1=false from rfl,show aM 8 8=false from rfl,show aI 8 8=true from rfl,show aI 8 7=false from rfl,show aI 8 6=false from rfl,show aI 8 5=false from rfl,show aI 8 4=false from rfl,show aI 8 3=false from rfl,show aI 8 2=false from rfl,show aI 8 1=false from rfl,if_true,if_false,eB,reduceCtorEq,Jy,gY,kL,n,o,i1,i2,i3,i4]
 congr 1
 rw[Bool.eq_iff_iff];simp only[JW,kR,j,g];simp only[aJ,aM,aO,bA,aL,aI,Jm,neS,decide_eq_true_eq,decide_eq_false_iff_not,Prod.mk.injEq,Bool.not_eq_false',Decidable.not_not,true_and,and_true];grind;have I:aI k 1=false:=by simp[aI];omega
 have J:aI k 2=false:=by simp[aI];omega
 have C:aI k 3=false:=by simp[aI];omega
 have D:aI k 4=false:=by simp[aI];omega
 have B:aI k 5=false:=by simp[aI];omega
 have F:aI k 6=false:=by simp[aI];omega
 have G:aI k 7=false:=by simp[aI];omega
 have H:aI k 8=false:=by simp[aI];omega
 have E:aJ k 1=true:=by simp[aJ];omega
 simp only[I,J,C,D,B,F,G,H,E,if_true,if_false,eB,reduceCtorEq,Jy,i1,i2,i3,i4];simp;have I:aI k 1=false:=by simp[aI];omega
 have J:aI k 2=false:=by simp[aI];omega
 have C:aI k 3=false:=by simp[aI];omega
 have D:aI k 4=false:=by simp[aI];omega
 have B:aI k 5=false:=by simp[aI];omega
 have F:aI k 6=false:=by simp[aI];omega
 have G:aI k 7=false:=by simp[aI];omega
 have H:aI k 8=false:=by simp[aI];omega
 have E:aM k 8=true:=by simp[aM];omega
 simp only[I,J,C,D,B,F,G,H,E,if_true,if_false,eB,reduceCtorEq,Jy,i1,i2,i3,i4];simp
end Go.Am
end
section
namespace Go.Am
set_option linter.unusedVariables false
set_option maxRecDepth 20000
set_option maxHeartbeats 1000000
theorem JGJ{x:JK}(hl:J0 (ent x)<=4096)(he: ∀e∈ent x,lJ e=oX e)(hv: ∀e∈ent x,∃b,oX e=some (b,0)/\J0 b<=8392)(hf: ∀(b:List UInt8),J0 b<=8392-> ∃f,mU b=some f/\J0 f=J0 b+8):
  ∀(l:List aA) (i:Nat) (out:List UInt8),(ent x).drop i=l->i<=(ent x).length->J0 out<=8400*(i+1)->
   pI kI lJ 40 l out=J9 DZ (out,(i:Int),x):=by
 intro l
 induction l with
 |nil=>
  intro i out g hi w;have hi':i=(ent x).length:=by have:=congrArg List.length g;simp at this;omega
  refine(qK ?_).symm;unfold DZ;dsimp only;rw[if_neg (λc=>by have:=cX.1 c;have:(i:Int)<J0 (ent x):=this;unfold J0 at this;omega)]
 |cons e l ih=>
  intro i out g hi w;have n:i<(ent x).length:=(by rcases zQ3 i (ent x).length with h|h;exact h;rw[List.drop_of_length_le h]at g;cases g);have q:(ent x)[i]?=some e:=by have:=congrArg (λl=>l[0]?) g;simpa using this
  have r:e∈ent x:=zQ5 q;obtain⟨b,o,v⟩:=hv e r;obtain⟨f,j,A⟩:=hf b v;have z:=Jn (i:Int) 1;have y:J0 (ent x)=((ent x).length:Int):=rfl;have k:bY out f=some (out++f):=by unfold bY;rw[if_pos (by unfold J0 at*;omega)]
  have step:DZ (out,(i:Int),x)=some (.inl (out++f,((i+1:Nat):Int),x)):=by
   unfold DZ;dsimp only;have hidx:idx x.2.2.2.2.2 (i:Int)=some e:=by show idx (ent x) (i:Int)=some e;unfold idx;rw[if_pos (by omega),Int.toNat_natCast];exact q
   rw[if_pos (cX.2 (by show(i:Int)<J0 (ent x);omega)),hidx];simp only[Jy];rw[o];simp only[Jy];rw[j];simp only[Jy];rw[k];simp only[Jy];rw[show J1 .i64 (i:Int) 1=((i+1:Nat):Int) by omega]
  rw[uZ step];unfold pI;rw[he e r,o];simp only[Jy];rw[if_pos trivial,nm,j];simp only[Jy];rw[if_pos (by unfold J0 at*;omega)];refine ih (i+1) (out++f) ?_ n (by unfold J0 at*;simp;omega);rw[<-wW,g];rfl
end Go.Am
end
section
namespace Go.Am
set_option linter.unusedVariables false
set_option maxRecDepth 20000
set_option maxHeartbeats 1000000
theorem JDv{x:aA}(hv:JF x=some true)(h1:J0 x.2.2.2.2.2.2.1.2.2.1.2<=12)(h2:J0 x.2.2.2.2.2.2.1.2.2.2.2<=12)(h3:J0 x.2.2.2.2.2.2.2<=8192): ∃b,oX x=some (b,0)/\J0 b<=8392:=by
 unfold oX;rw[hv];simp only[Jy];rw[if_neg (show¬Jm true=true by decide)];obtain⟨D,V,z,I⟩:=cP (s:=[]) (n:=x.1) (k:=8) (by decide) (by decide) (by decide);have l0:J0 ([]:List UInt8)=0:=rfl;obtain⟨Q,Y,r,K⟩:=cP (s:=D) (n:=x.2.1) (k:=1) (by decide) (by decide) (by omega);obtain⟨H,W,q,B⟩:=cP (s:=Q) (n:=x.2.2.1) (k:=4) (by decide) (by decide) (by omega);obtain⟨L,p6,h,U⟩:=cP (s:=H) (n:=x.2.2.2.1) (k:=8) (by decide) (by decide) (by omega);obtain⟨A,p7,g,M⟩:=cP (s:=L) (n:=x.2.2.2.2.1) (k:=8) (by decide) (by decide) (by omega);obtain⟨G,p8,y,E⟩:=cP (s:=A) (n:=x.2.2.2.2.2.1) (k:=8) (by decide) (by decide) (by omega);obtain⟨N,p9,e,P⟩:=cP (s:=G) (n:=x.2.2.2.2.2.2.1.1) (k:=4) (by decide) (by decide) (by omega);obtain⟨S,pA,o,O⟩:=cP (s:=N) (n:=x.2.2.2.2.2.2.1.2.1) (k:=1) (by decide) (by decide) (by omega);obtain⟨C,pB,T,lB⟩:=OF (s:=S) (c:=x.2.2.2.2.2.2.1.2.2.1) (by omega) (by omega);obtain⟨F,pC,R,Z⟩:=OF (s:=C) (c:=x.2.2.2.2.2.2.1.2.2.2) (by omega) (by omega);obtain⟨j,pD,v,J⟩:=cP (s:=F) (n:=J0 x.2.2.2.2.2.2.2) (k:=4) (by decide) (by decide) (by omega);simp only[show((8:Nat):Int)=8 from rfl,show((4:Nat):Int)=4 from rfl,show((1:Nat):Int)=1 from rfl]at z r q h g y e o v I K B U M E P O J;simp only[z,r,q,h,g,y,e,o,T,R,v,Jy];have w:bY j x.2.2.2.2.2.2.2=some (j++x.2.2.2.2.2.2.2):=by unfold bY;rw[if_pos (by unfold J0 at*;omega)]
 rw[w];exact⟨_,rfl,by have:=XQ w;omega⟩
theorem cw{b:List UInt8}(hb:J0 b<=8392): ∃f,mU b=some f/\J0 f=J0 b+8:=by
 unfold mU;rw[if_neg (λc=>by have:=hO.1 c;omega)];have r:0<=J0 b:=Je;have v:J0 ([]:List UInt8)=0:=rfl;obtain⟨y,p,q,l⟩:=cP (s:=[]) (n:=J0 b) (k:=4) (by decide) (by decide) (by decide);simp only[show((4:Nat):Int)=4 from rfl]at q l;rw[q];simp only[Jy];have e:bY y b=some (y++b):=by unfold bY;rw[if_pos (by unfold J0 at*;omega)]
 rw[e];simp only[Jy];have j:=XQ e;rw[YB _ (by omega)];simp only[Jy];obtain⟨z,o,g,h⟩:=cP (s:=y++b) (n:=aS .i64 ((crc (y++b):Nat):Int)) (k:=4) (by decide) (by decide) (by omega);simp only[show((4:Nat):Int)=4 from rfl]at g h;rw[g];exact⟨z,rfl,by omega⟩
end Go.Am
end
section
namespace Go.Am
set_option linter.unusedVariables false
set_option maxRecDepth 20000
set_option maxHeartbeats 1000000
theorem mw(r:JK): ∃y,vE r=some y/\J0 y=33:=by unfold vE;have O:J0 ([80,77,82,78]:List UInt8)=4:=rfl;obtain⟨v,N,j,E⟩:=cP (s:=[80,77,82,78]) (n:=r.1) (k:=8) (by decide) (by decide) (by decide);obtain⟨H,L,q,F⟩:=cP (s:=v) (n:=r.2.1) (k:=8) (by decide) (by decide) (by omega);obtain⟨x,I,o,A⟩:=cP (s:=H) (n:=r.2.2.1) (k:=4) (by decide) (by decide) (by omega);obtain⟨D,K,h,B⟩:=cP (s:=x) (n:=r.2.2.2.1) (k:=4) (by decide) (by decide) (by omega);obtain⟨z,J,g,w⟩:=cP (s:=D) (n:=r.2.2.2.2.1) (k:=1) (by decide) (by decide) (by omega);obtain⟨C,M,e,G⟩:=cP (s:=z) (n:=J0 r.2.2.2.2.2) (k:=4) (by decide) (by decide) (by omega);simp only[show((8:Nat):Int)=8 from rfl,show((4:Nat):Int)=4 from rfl,show((1:Nat):Int)=1 from rfl]at j q o h g e E F A B w G;simp only[j,q,o,h,g,e,Jy];exact⟨C,rfl,by omega⟩
theorem Bt{x:JK}(h:FF x):sM x=sV x:=by
 obtain⟨v,G,D,hR⟩:=vv h;have e:sM x=FU iT vI kI lJ (λx=>x.2.2.2.2.2) x:=rfl;rw[e];unfold FU sV;rw[G,D];simp only[Jy];cases v with
 |false=>rw[if_neg (show¬false=true by decide),if_pos (show Jm false=true by decide)]
 |true=>
  rw[if_pos rfl,if_neg (show¬Jm true=true by decide),JIK];have R:=hR rfl;obtain⟨y,F,A⟩:=mw x;obtain⟨f,E,z⟩:=cw (b:=y) (by omega);rw[F];simp only[Jy];rw[nm,E];simp only[Jy];rw[if_pos (by unfold J0 at z A;omega)];have w: ∀e∈ent x,Ty.fit 16384 9223372036854775807 J4 e:=h.2.2.2.2.2.2;have o: ∀e∈ent x,JF e=some true/\J0 e.2.2.2.2.2.2.1.2.2.1.2<=12/\J0 e.2.2.2.2.2.2.1.2.2.2.2<=12/\e.2.2.2.2.2.2.2=[]:=λe g=>by obtain⟨j,H⟩:=nQ.1 g;obtain⟨k,n,_⟩:=R.2.2.1 j e H;obtain⟨_,_,_,_,_,_,_,_,_,_,b1,b2,_⟩:=EF.of k n;have c:=(TF (B:=16384) (S:=9223372036854775807) (X:=e.2.2.2.2.2.2.1) (w e g).2.2.2.2.2.2.1).get b2;exact⟨k,(c.2 rfl).2.2.2.2.1,(c.2 rfl).2.2.2.2.2,b1⟩
  refine JGJ R.2.1 (λe g=>?_) (λe g=>?_) (λb C=>cw C) (ent x) 0 f rfl (zQ2 _) (by omega);obtain⟨k,n,q,r⟩:=o e g;exact JIz (A3 e) (by omega) (by omega);obtain⟨k,n,q,r⟩:=o e g;exact JDv k n q (by rw[r];decide)
end Go.Am
end
section
namespace Go.Am
set_option linter.unusedVariables false
set_option maxRecDepth 20000
set_option maxHeartbeats 1000000
theorem Zu(x:Int×List UInt8×Int):tB x=(JT (x.2.1,x.2.2,x.1)).map λv=>(v,x.2.1,J1 .i64 x.2.2 x.1):=by
 obtain⟨n,s,a⟩:=x
 unfold tB JT;dsimp only;rw[MT];cases JR (s,a,n)with
 |none=>rfl
 |some y=>rfl
theorem JJh{s:List UInt8}(h:J0 s=33):DP s=(aV s none (some 4)).bind λk=>if neS k [80,77,82,78]=true then some (0,0,0,0,0,0,false,[])else
  (JT (s,4,8)).bind λa=>(JT (s,12,8)).bind λb=>(JT (s,20,4)).bind λc=>(JT (s,24,4)).bind λd=>(JT (s,28,1)).bind λe=>(JT (s,29,4)).bind λn=>
   some (a,b,c,d,e,n,bA n 4096,[]):=by
 unfold DP kq kv;dsimp only;have j:J0 ([80,77,82,78]:List UInt8)=4:=rfl;rw[h,if_pos (show aL 33 33=false by decide),j,if_pos (show aO 33 4=true by decide)];cases aV s none (some 4)with
 |none=>rfl
 |some y=>
  simp only[Jy];by_cases g:y=[80,77,82,78];subst g;rw[if_neg (show¬Jm (eqS [80,77,82,78] [80,77,82,78])=true by decide),if_neg (show¬neS [80,77,82,78] [80,77,82,78]=true by decide)];simp only[Zu,show J1 .i64 4 8=12 by decide,show J1 .i64 12 8=20 by decide,show J1 .i64 20 4=24 by decide,show J1 .i64 24 4=28 by decide,show J1 .i64 28 1=29 by decide];cases JT (s,4,8)with
  |none=>rfl
  |some a=>
   simp only[cE,Jy,show J1 .i64 4 8=12 by decide];cases JT (s,12,8)with
   |none=>rfl
   |some b=>
    simp only[cE,Jy,show J1 .i64 12 8=20 by decide];cases JT (s,20,4)with
    |none=>rfl
    |some c=>
     simp only[cE,Jy,show J1 .i64 20 4=24 by decide];cases JT (s,24,4)with
     |none=>rfl
     |some d=>
      simp only[cE,Jy,show J1 .i64 24 4=28 by decide];cases JT (s,28,1)with
      |none=>rfl
      |some e=>
       simp only[cE,Jy,show J1 .i64 28 1=29 by decide];cases JT (s,29,4)with
       |none=>rfl
       |some n=>rfl
  have o:neS y [80,77,82,78]=true:=by simp[neS,g]
  have q:Jm (eqS y [80,77,82,78])=true:=by simp[eqS,g,Jm]
  rw[if_pos o,if_pos q]
end Go.Am
end
section
namespace Go.Am
set_option linter.unusedVariables false
set_option maxRecDepth 20000
set_option maxHeartbeats 1000000
theorem JHL{s:List UInt8}(h: ¬J0 s=33):DP s=some (0,0,0,0,0,0,false,[]):=by unfold DP;rw[if_neg (by rw[<-Bool.not_eq_true,gM];exact λt=>t h)]
theorem JI6{x:List UInt8×mI}{y:mI}(h:JR x=some y): -9223372036854775808<=y.1/\y.1<=9223372036854775807:=by
 have e:Par (JR x) λy=> -9223372036854775808<=y.1/\y.1<=9223372036854775807:=by unfold JR;refine .ltf (λ_=>.gtf (λ_=>.lt (λ_=>.some (by decide)) λ_=>.gtf (λ_=>.lt (λ_=>.some (by decide)) λ_=>?_) λ_=>.some (by decide)) λ_=>.some (by decide)) λ_=>.some (by decide);refine .while (λ_=>True) trivial ?_;intro z _;unfold yT;exact .lt (λ_=>.bind λ_ _=>.bind λ_ _=>.some trivial) λ_=>.some (qG .i64 _)
 exact e _ h
theorem HZ{x:List UInt8×mI}{n:Int}(h:JT x=some n): -9223372036854775808<=n/\n<=9223372036854775807:=by unfold JT at h;obtain⟨y,g,e⟩:=bL.1 h;injection e with e;subst e;exact JI6 g
theorem JHV{x:List UInt8}(hl:J0 x<=1073741824):KP x=zF x:=by
 unfold KP zF;rw[pq hl];cases hu:pE (x,0)with
 |none=>rfl
 |some g=>
  dsimp only[Option.bind_some];by_cases c:aL g.2.2 0=true;rw[if_pos c,if_pos c];rw[if_neg c,if_neg c];have P:g.2.2=0:=Decidable.of_not_not λt=>c (gM.2 t);by_cases h:J0 g.1=33;rw[JJh h,if_pos (by rw[<-Bool.not_eq_true,gM];exact λt=>t h)];cases aV g.1 none (some 4)with
  |none=>rfl
  |some R=>
   dsimp only[Option.bind_some];by_cases D:neS R [80,77,82,78]=true;rw[if_pos D,if_pos D];rfl;rw[if_neg D,if_neg D];cases ha:JT (g.1,4,8)with
   |none=>rfl
   |some a=>
    cases hb:JT (g.1,12,8)with
    |none=>rfl
    |some b=>
     cases hc:JT (g.1,20,4)with
     |none=>rfl
     |some c=>
      cases hd:JT (g.1,24,4)with
      |none=>rfl
      |some d=>
       cases he:JT (g.1,28,1)with
       |none=>rfl
       |some e=>
        cases hf:JT (g.1,29,4)with
        |none=>rfl
        |some n=>
         dsimp only[Option.bind_some];by_cases L:4096<n;rw[if_pos (hO.2 L),if_pos (show Jm (bA n 4096)=true by rw[show bA n 4096=false by rw[<-Bool.not_eq_true,eI];omega];rfl)];rw[if_neg (λt=>L (hO.1 t)),if_neg (show¬Jm (bA n 4096)=true by rw[eI.2 (by omega)];decide)];have F:=((DR (B:=0) (S:=1073741824) (X:=(x,0)) ⟨hl,fU .i64 0⟩).get hu).2 P;refine n6 (λz w=>z=w/\z.1=x/\(0<=z.2.1/\z.2.1<=J0 x)/\z.2.2.1=n/\0<=z.2.2.2.1/\z.2.2.2.2.2.2.2.2.2.2.2=([],a,b,c,d,e)/\J0 z.2.2.2.2.2.2.2.2.2.2.1<=z.2.2.2.1/\(z.2.2.2.1<=n\/z.2.2.2.1<=0)/\ ∀q∈z.2.2.2.2.2.2.2.2.2.2.1,Ty.fit 16384 9223372036854775807 J4 q) ?_ ⟨rfl,rfl,⟨F.1,F.2.1⟩,rfl,aU _,rfl,aU _,.inr (aU _),nofun⟩;rintro⟨s,p,m,i,w1,w2,w3,w4,w5,w6,l,w7⟩ w ⟨rfl,M,Y,N,U,I,Q,O,H⟩;dsimp only at M Y N U I Q O H;subst M N I;unfold vc kn;dsimp only;by_cases j:aJ i m=true;rw[if_pos j,if_pos j,pq hl];have j:=cX.1 j;cases hU:pE (s,p)with
         |none=>exact .inl ⟨rfl,rfl⟩
         |some u=>
          dsimp only[Option.bind_some];by_cases y:aL u.2.2 0=true;rw[if_pos y,if_pos y];exact .inr (.inl ⟨_,rfl,rfl⟩);rw[if_neg y,if_neg y,JIb A3];have E:u.2.2=0:=Decidable.of_not_not λt=>y (gM.2 t);cases hD:vL u.1 with
          |none=>exact .inl ⟨rfl,rfl⟩
          |some v=>
           dsimp only[Option.bind_some];by_cases k:aL v.2 0=true;rw[if_pos k];exact .inr (.inl ⟨_,rfl,rfl⟩);rw[if_neg k];cases hA:JC 128 l [v.1]with
           |none=>exact .inl ⟨rfl,rfl⟩
           |some T=>
            have K:T=l++[v.1]:=(by unfold JC at hA;split at hA;injection hA with hA;exact hA.symm;cases hA);have G:=(DR (B:=0) (S:=1073741824) (X:=(s,p)) ⟨hl,J2.2 (show -9223372036854775808<=p/\p<=9223372036854775807 by omega)⟩).get hU;have V:=(e8 (B:=0) (S:=1073741824) (X:=u.1) G.1.1).get hD;have o:=Jn i 1;refine .inr (.inr ⟨_,_,rfl,rfl,rfl,rfl,⟨(G.2 E).1,(G.2 E).2.1⟩,rfl,?_,rfl,?_,?_,?_⟩);dsimp only;omega;subst K;dsimp only;rw[xU,xS];omega;dsimp only;omega;subst K;intro q A;rcases zQ9.1 A with A|A;exact H q A;rw[pK.1 A];exact Ty.fit.up (by decide) (by decide) V.1
         rw[if_neg j,if_neg j];by_cases C:aJ p (J0 s)=true;have J:=cX.1 C;rw[if_pos C,if_pos (gM.2 (by omega))];exact .inr (.inl ⟨_,rfl,rfl⟩);have J: ¬p<J0 s:=λt=>C (cX.2 t);rw[if_neg C,if_neg (λt=>gM.1 t (by omega))];obtain⟨v,W,Z,_⟩:=vv (r:=(a,b,c,d,e,l)) ⟨J2.2 (HZ ha),J2.2 (HZ hb),J2.2 (HZ hc),J2.2 (HZ hd),J2.2 (HZ he),by show J0 l<=16384;omega,H⟩;rw[W,Z];dsimp only[Option.bind_some];by_cases k:Jm v=true;rw[if_pos k];exact .inr (.inl ⟨_,rfl,rfl⟩);rw[if_neg k];exact .inr (.inl ⟨_,rfl,rfl⟩)
  rw[JHL h,if_neg (by rw[<-Bool.not_eq_true,gM];exact λt=>t h)];rfl
end Go.Am
end
section
namespace Go.Am
set_option linter.unusedVariables false
set_option maxRecDepth 20000
set_option maxHeartbeats 1000000
theorem uG:J0 (ent ((0,0,0,0,0,[]):JK))<=4096:=by decide
theorem JGP{x:List UInt8}(hl:J0 x<=1073741824):Tot (zF x) λy=>J0 (ent y.1)<=4096:=by
 unfold zF;refine .bind ((DR (B:=0) (S:=1073741824) (X:=(x,0)) ⟨hl,fU .i64 0⟩)) λj h2=>.ne (λ_=>.some uG) λI=>.nef (λW=>?_) λ_=>.some uG;obtain⟨Y,Q,_⟩:=AN (l:=j.1) (k:=4) (by decide) (by omega);have num: ∀a k:Int, -9223372036854775808<=a/\a<=9223372036854775807-> -9223372036854775808<=k/\k<=9223372036854775807->Tot (JT (j.1,a,k)) λn=> -9223372036854775808<=n/\n<=9223372036854775807:=λa k D L=>
  (R0 (B:=0) (S:=1073741824) (X:=(j.1,a,k)) ⟨h2.1.1,J2.2 D,J2.2 L⟩).mono λn h=>J2.1 h
 refine .same Q (.ite (λ_=>.some uG) λ_=>.bind (num 4 8 (by decide) (by decide)) λa D=>.bind (num 12 8 (by decide) (by decide)) λb K=>.bind (num 20 4 (by decide) (by decide)) λc U=>.bind (num 24 4 (by decide) (by decide)) λd J=>.bind (num 28 1 (by decide) (by decide)) λe R=>.bind (num 29 4 (by decide) (by decide)) λn hn=>.gt (λ_=>.some uG) λhg=>?_);have A:=h2.2 I;refine Jl (τ:=Int×Int×List aA) (λq=>(x,q.1,n,q.2.1,[],0,0,0,0,0,q.2.2,[],a,b,c,d,e)) (λq=>(0<=q.1/\q.1<=J0 x)/\0<=q.2.1/\(q.2.1<=n\/q.2.1<=0)/\J0 q.2.2<=q.2.1/\ ∀z∈q.2.2,Ty.fit 16384 9223372036854775807 J4 z) (λq=>n-q.2.1) ?_ (j.2.1,0,[]) rfl ⟨⟨A.1,A.2.1⟩,aU _,.inr (aU _),aU _,nofun⟩;rintro⟨p,i,l⟩ ⟨M,V,N,H,C⟩;dsimp only at M V N H C;unfold kn;dsimp only;have o:=Jn i 1;refine .lt (λZ=>?_) λ_=>.map (P:=λy=>J0 (ent y.1)<=4096) ?_ λ_ h=>h;refine .bind ((DR (B:=0) (S:=1073741824) (X:=(x,p)) ⟨hl,J2.2 (show -9223372036854775808<=p/\p<=9223372036854775807 by omega)⟩)) λu E=>.ne (λ_=>.some uG) λG=>.bind (e8 (B:=0) (S:=1073741824) (X:=u.1) E.1.1) λv T=>.ne (λ_=>.some uG) λF=>.same (JJg (bytes:=128) (l:=l) (m:=[v.1]) (by rw[xS];omega) (by decide)) (.some ?_);have w:=E.2 G;refine⟨(u.2.1,J1 .i64 i 1,l++[v.1]),rfl,⟨⟨w.1,w.2.1⟩,?_,?_,?_,λz g=>?_⟩,?_,?_⟩;dsimp only;omega;dsimp only;omega;dsimp only;rw[xU,xS];omega;rcases zQ9.1 g with g|g;exact C z g;rw[pK.1 g];exact Ty.fit.up (by decide) (by decide) T.1;dsimp only;omega;omega;refine .ne (λ_=>.some uG) λ_=>?_;obtain⟨v,v1,O,v3⟩:=vv (r:=(a,b,c,d,e,l)) ⟨J2.2 D,J2.2 K,J2.2 U,J2.2 J,J2.2 R,by show J0 l<=16384;omega,C⟩;refine .same O (.not (λ_=>.some uG) λF=>.some ?_);show J0 l<=4096;omega
theorem JEU{x:JK}(h:FF x):Tot (sV x) λy=>J0 y.1<=167968836:=by
 obtain⟨v,k,j,hR⟩:=vv h;cases v with
 |false=>unfold sV;rw[j];exact .some (by decide)
 |true=>have R:=hR rfl;exact(Rw (B:=4096) (S:=9223372036854775807) (X:=x) ⟨h.1,h.2.1,h.2.2.1,h.2.2.2.1,h.2.2.2.2.1,R.2.1,λe g=>Ty.fit.up (B:=0) (by decide) (by decide) (show Ty.fit 0 9223372036854775807 J4 e from h.2.2.2.2.2.2 e g)⟩).mono λy h=>h.1
theorem JI0:UC ()=some true:=by
 have F:FF (1,1,0,0,0,[]):=⟨fU .i64 1,fU .i64 1,fU .i64 0,fU .i64 0,fU .i64 0,(show J0 ([]:List aA)<=16384 by decide),nofun⟩;have ok:nW (1,1,0,0,0,[]):=⟨⟨by decide,by decide,by decide,by decide,by decide,by decide,by decide,by decide⟩,by decide,λj e h=>by simp at h,λe h=>by simp at h,λj a b h=>by simp at h⟩;obtain⟨w,n,g⟩:=mw (1,1,0,0,0,[]);obtain⟨f,o,k⟩:=cw (b:=w) (by omega);have en:sM (1,1,0,0,0,[])=some (f,0):=by rw[Bt F];unfold sV;rw[(Cf ok).2];simp only[Jy];rw[if_neg (by decide),n];simp only[Jy];rw[o];exact qK rfl
 unfold UC;rw[en];simp only[Jy];rw[if_pos (by rfl),if_pos (by rw[k,g];rfl),(Cf ok).1];rfl
theorem nf{n:Int}(e:0<=n)(h1:n<=9223372036854775807){B S:Int}:Ty.fit B S (.i .i64) n:=J2.2 ⟨by omega,h1⟩
theorem nx{c:Jp}{n:Int}(hn: -9223372036854775808<=n/\n<=9223372036854775807)(h:Ty.fit 16384 1073741824 J3 c)(e:0<=c.2):Tot (Jc (n,c)) λy=>(0<=y.1/\y.1<=9223372036854775807/\(1<=n->y.1<n))/\Ty.fit 16384 1073741824 J3 y.2/\0<=y.2.2:=
 (Jh (B:=16384) (S:=1073741824) (X:=(n,c)) ⟨J2.2 hn,h⟩ e).mono λy h=>⟨⟨h.2.1,(J2.1 h.1.1).2,h.2.2.1⟩,h.1.2,h.2.2.2⟩
theorem nxI{c:Jp}(h:Ty.fit 16384 1073741824 J3 c)(e:0<=c.2):Tot (JL c) λy=>Ty.fit 16384 9223372036854775807 (.i .i64) y.1/\Ty.fit 16384 1073741824 J3 y.2/\0<=y.2.2:=
 (eQ (B:=16384) (S:=1073741824) (X:=c) h e).mono λy h=>⟨h.1.1,h.1.2,h.2⟩
theorem JFr{l:bX}{c:Jp}(hl:J0 l.2.1<=4096)(hf:Ty.fit 16384 1073741824 JP l)(hc:Ty.fit 16384 1073741824 J3 c)(R:0<=c.2):
  Tot (PN (l,c)) λy=>FF y.1/\Ty.fit 16384 1073741824 J3 y.2/\0<=y.2.2:=by
 unfold PN;dsimp only;have nn:=Je (l:=l.2.1);have T:Ty.fit 16384 9223372036854775807 (.i .i64) 0:=fU .i64 0;have nil:Ty.fit 16384 9223372036854775807 (.l J4) ([]:List aA):=J8 (by decide);refine .eq (λ_=>.bind (nx (by decide) hc R) λy2 h2=>.bind (nx (by decide) h2.2.1 h2.2.2) λy3 N=>.some ⟨⟨fU .i64 1,Jj,T,nf N.1.1 N.1.2.1,T,nil⟩,N.2⟩) λ_=>.bind (nx (by omega) hc R) λZ h4=>.bind (nx (J2.1 (eC (B:=0) (S:=0))) h4.2.1 h4.2.2) λy5 h5=>.bind (nx (by decide) h5.2.1 h5.2.2) λW L=>.bind (nx (by decide) L.2.1 L.2.2) λy7 U=>.bind (nx (by decide) U.2.1 U.2.2) λy8 J=>.bind (Iw (B:=4096) (S:=1073741824) (X:=(l.2.1,J1 .i64 l.1 Z.1,J1 .i64 (J1 .i64 l.1 Z.1) y5.1,W.1,J1 .i64 W.1 y7.1,y8.1)) ⟨⟨hl,λe v=>Ty.fit.up (B:=0) (by decide) (aU _) (show Ty.fit 0 1073741824 J4 e from hf.2.1.2 e v)⟩,Jj,Jj,nf L.1.1 L.1.2.1,Jj,nf J.1.1 J.1.2.1⟩) λK h9=>?_;obtain⟨⟨r,q,k,n,o,g6,M⟩,_⟩:=h9;have up: ∀{e:aA},Ty.fit 4096 1073741824 J4 e->Ty.fit 16384 9223372036854775807 J4 e:=λh=>Ty.fit.up (by decide) (by decide) h;have Q:J0 K.1.2.2.2.2.2<=4096:=g6;have G:Ty.fit 16384 9223372036854775807 (.l J4) K.1.2.2.2.2.2:=⟨by show J0 K.1.2.2.2.2.2<=16384;omega,λe v=>up (M e v)⟩;refine .bind (nx (by decide) J.2.1 J.2.2) λab E=>.gt (λ_=>.some ⟨⟨r,q,k,n,o,G⟩,E.2⟩) λ_=>.same (JJr (by omega)) (.bind (nx (by decide) E.2.1 E.2.2) λad g=>?_);generalize K.1.2.2.2.2.2=es at Q G M;have ne:=Je (l:=es);refine .eq (λ_=>.bind (nxI g.2.1 g.2.2) λD j=>.some ⟨⟨j.1,q,k,n,o,G⟩,j.2⟩) λ_=>.eq (λ_=>.bind (nxI g.2.1 g.2.2) λD j=>.some ⟨⟨r,j.1,k,n,o,G⟩,j.2⟩) λ_=>
  .eq (λ_=>.bind (nxI g.2.1 g.2.2) λD j=>.some ⟨⟨r,q,k,j.1,o,G⟩,j.2⟩) λ_=>.eq (λ_=>.bind (nx (by decide) g.2.1 g.2.2) λD j=>.some ⟨⟨r,q,k,n,eC,G⟩,j.2⟩) λ_=>
  .eq (λ_=>.gt (λcl=>.bind (nx (by omega) g.2.1 g.2.2) λV z=>?_) λ_=>.some ⟨⟨r,q,k,n,o,G⟩,g.2⟩) λ_=>.eq (λ_=>.gt (λcl=>.bind (nx (by omega) g.2.1 g.2.2) λx A=>?_) λ_=>.some ⟨⟨r,q,k,n,o,G⟩,g.2⟩) λ_=>.some ⟨⟨r,q,k,n,o,G⟩,g.2⟩
 have F:=z.1.1;have b1:=z.1.2.2 (by omega);have hn:J0 es=es.length:=rfl;refine .bind (gG (l:=es) F b1) λ_ _=>.bind (nX (t:=J4) G F b1) λI O=>?_;have fe:Ty.fit 16384 1073741824 J4 I:=Ty.fit.up (by decide) (aU _) (M I O.2);refine .bind (Ym (B:=16384) (S:=1073741824) (X:=(I,V.2)) ⟨fe,z.2.1⟩ z.2.2) λac H=>.bind (gG (l:=es) F b1) λ_ _=>.bind (nX (t:=J4) G F b1) λ_ _=>.some ⟨⟨r,q,k,n,o,mQ G (Ty.fit.up (by decide) (by decide) H.1.1)⟩,H.1.2,H.2⟩;have F:=A.1.1;have b1:=A.1.2.2 (by omega);have hn:J0 es=es.length:=rfl;have P:EH x.1 es.length=some x.1.toNat:=by unfold EH;rw[if_pos (by omega)]
 refine .same P (.bind (nx (by omega) A.2.1 A.2.2) λw C=>?_);have b2:=C.1.1;have b3:=C.1.2.2 (by omega);have Y:EM w.1 es.length=some w.1.toNat:=by unfold EM;rw[if_pos (by omega)]
 have a0:FI 128 es x.1.toNat (es.drop w.1.toNat)=some (es.take x.1.toNat++es.drop w.1.toNat):=by unfold FI;rw[if_pos ⟨by omega,NY (by rw[pL];omega) (by decide)⟩]
 refine .same Y (.same a0 (.some ⟨⟨r,q,k,n,o,?_,λe v=>?_⟩,C.2⟩));show J0 (es.take x.1.toNat++es.drop w.1.toNat)<=16384;rw[xU];unfold J0;rw[rI,pL];omega;rcases zQ9.1 v with v|v;exact G.2 e (EO v);exact G.2 e (zQ7 v)
end Go.Am
end
section
namespace Go.Am
set_option linter.unusedVariables false
set_option maxRecDepth 20000
set_option maxHeartbeats 1000000
theorem JHt{l:List Int}{y:Jp}(e:sI (l,400)=some y):y.2=0/\J0 y.1<=400:=by
 have h:Par (sI (l,400)) λy=>y.2=0/\J0 y.1<=400:=(by unfold sI;dsimp only;refine .gt (λc=>.bind λa g=>.some ⟨rfl,?_⟩) λc=>.some ⟨rfl,by show J0 l<=400;omega⟩;obtain⟨r,j,_,h2⟩:=AN (l:=l) (k:=400) (by decide) (by omega);rw[j]at g;injection g with g;subst g;show J0 r<=400;omega);exact h _ e
theorem JDx{x0:List Int}{y:Jp}(w0:Ty.inR (.l (.i .u8)) x0)(h:sI (x0,400)=some y):Ty.fit 16384 1073741824 J3 y/\0<=y.2:=by
 have j:Ty.fit (J0 x0) 0 (.l (.i .u8)) x0:=⟨aU _,λa e=>by have:=w0.2 a e;rw[MI];simpa[Ty.inR,IntKind.min,IntKind.max,IntKind.signed,IntKind.bits]using this⟩;have k:0<=J0 x0:=Je;have g:=(ql (B:=J0 x0) (S:=0) (X:=(x0,400)) ⟨j,fU .i64 400⟩ (show(0:Int)<=400 by decide)).get h;obtain⟨n,o⟩:=JHt h;exact⟨⟨⟨by show J0 y.1<=16384;omega,λa e=>g.1.1.2 a e⟩,g.1.2⟩,by omega⟩
theorem JDS{x0:List Int}(w0:Ty.inR (.l (.i .u8)) x0):Tot (sI (x0,400)) λy=>Ty.fit 16384 1073741824 J3 y/\0<=y.2:=by
 have g:Ty.fit (J0 x0) 0 (.l (.i .u8)) x0:=⟨aU _,λa h=>by have:=w0.2 a h;rw[MI];simpa[Ty.inR,IntKind.min,IntKind.max,IntKind.signed,IntKind.bits]using this⟩;have j:0<=J0 x0:=Je;obtain⟨y,e,_⟩:=ql (B:=J0 x0) (S:=0) (X:=(x0,400)) ⟨g,fU .i64 400⟩ (show(0:Int)<=400 by decide);exact⟨y,e,JDx w0 e⟩
theorem JJv{l:bX}(h:dS l=some true):(1<=l.1/\l.1<=1099511627776)/\J0 l.2.1<=4096/\ ∀(i:Nat) e,l.2.1[i]?=some e->e.1=l.1+i/\JF e=some true:=by
 have A:Par (dS l) λy=>y=true->(1<=l.1/\l.1<=1099511627776)/\J0 l.2.1<=4096/\ ∀(i:Nat) e,l.2.1[i]?=some e->e.1=l.1+i/\JF e=some true:=by
  unfold dS;refine .ltf (λE=>.gtf (λF=>.gtf (λG=>.ltf (λP=>.bind λQ _=>.gt (λ_=>.some nofun) λ_=>?_) λ_=>.some nofun) λ_=>.some nofun) λ_=>.some nofun) λ_=>.some nofun;have hL:J0 l.2.1=l.2.1.length:=rfl;refine .while (λz=>z.2=l/\0<=z.1/\z.1<=J0 l.2.1/\ ∀(i:Nat) e,(i:Int)<z.1->l.2.1[i]?=some e->e.1=l.1+i/\JF e=some true) ⟨rfl,aU _,by show(0:Int)<=_;omega,λi e hi=>by omega⟩ ?_;rintro⟨i,g⟩ ⟨rfl,w,h1,h2⟩;have L:J0 g.2.1=g.2.1.length:=rfl;have J: ¬g.1<1:=E;have K: ¬(1099511627776:Int)<g.1:=F;have M: ¬(4096:Int)<J0 g.2.1:=G;unfold UT;refine .lt (λq=>.bind λB r=>.nef (λC=>.bind λN n=>.bind λO H=>.not (λ_=>.some nofun) λD=>.some ?_) λ_=>.some nofun) λq=>.some λ_=>⟨⟨by omega,by omega⟩,by omega,λj e o=>h2 j e (by have:j<g.2.1.length:=(gT.1 o).1;simp only at q h1⊢;omega) o⟩;simp only at w h1 h2 q C r n;have S:=Jn g.1 i;have R:=Jn i 1;rw[r]at n;injection n with n;subst n;refine⟨rfl,by show 0<=J1 .i64 i 1;omega,by show J1 .i64 i 1<=J0 g.2.1;omega,λj e I o=>?_⟩;by_cases v:(j:Int)<i;exact h2 j e v o;have x:(j:Int)=i:=(by have:(j:Int)<J1 .i64 i 1:=I;omega);have k:g.2.1[j]?=some B:=by have:idx g.2.1 i=some B:=r;unfold idx at this;rw[if_pos w]at this;rw[<-this,<-x];rfl
  rw[o]at k;injection k with k;subst k D;exact⟨by show e.1=g.1+j;omega,H⟩
 exact A _ h rfl
def GA(es:List aA):Prop:=J0 es<=4096/\ ∃F:Int,∀(i:Nat) e,es[i]?=some e->e.1=F+i/\JF e=some true
theorem JBF{x y:jC}(h:lM x=some y):GA y.1.2.1:=by
 have g:Par (lM x) λy=>GA y.1.2.1:=by unfold lM;have z:GA ([]:List aA):=⟨by decide,0,λi e j=>by simp at j⟩;refine .bind λv k=>.not (λ_=>.some z) λc=>.bind λo _=>.gt (λ_=>.some z) λ_=>.some ?_;subst c;obtain⟨_,h2,n⟩:=JJv k;exact⟨h2,_,n⟩
 exact g _ h
theorem Kg{x:jQ}{y:Int×bX×Jp}(h:xX x=some y):GA y.2.1.2.1:=by
 have e:Par (xX x) λy=>GA y.2.1.2.1:=by unfold xX;exact .bind λk _=>.bind λj _=>.bind λn g=>.some (JBF g)
 exact e _ h
end Go.Am
end
section
namespace Go.Am
set_option linter.unusedVariables false
set_option maxRecDepth 20000
set_option maxHeartbeats 1000000
theorem JF5{x:List UInt8}(hl:J0 x<=1073741824): ∃y,KP x=some y/\zF x=some y/\DB (y.1,y.1)=some true:=by obtain⟨y,e,h⟩:=JGP hl;exact⟨y,by rw[JHV hl,e],e,JF8 h⟩
theorem W9{x0:List Int}{X:List UInt8}(w0:Ty.inR (.l (.i .u8)) x0)(w1:Ty.inR .s X):VO (x0,X)=some true:=by
 have O:Tot (VO (x0,X)) λy=>y=true:=by
  unfold VO;dsimp only;refine .bind (fN JI0) λy2 Y=>.nof (λ_=>.gt (λc=>.some (hO.2 c)) λcs=>.bind (JDS w0) λy3 V=>?_) λc=>by rw[Y]at c;cases c
  refine .bind ((JCM (B:=16384) (S:=1073741824) (X:=(20,y3)) ⟨fU .i64 20,V.1⟩ V.2 (show(0:Int)<=20 by decide) (show(20:Int)<=1000 by decide)).eqn) λy4 G=>?_;obtain⟨W,g,c⟩:=y4;obtain⟨⟨⟨_,L,Q⟩,v⟩,G⟩:=G;have v:0<=c.2:=v;have P:J0 g.2.1<=4096:=(Kg G).1;dsimp only;refine Jl (τ:=jQ) (λq=>(X,q.1,q.2,g)) (λq=>(0<=q.1/\q.1<=2)/\Ty.fit 16384 1073741824 J3 q.2/\0<=q.2.2) (λq=>2-q.1) ?_ (0,c) rfl ⟨⟨aU _,(show(0:Int)<=2 by decide)⟩,Q,v⟩;rintro⟨k,d⟩ ⟨⟨h0,h1⟩,U,E⟩;dsimp only at h0 h1 U E;unfold xt;dsimp only;refine .lt (λck=>?_) λ_=>.some rfl;refine .bind (JFr P L U E) λx C=>?_;rw[Bt C.1];obtain⟨b,M,lb⟩:=JEU C.1;refine .same M (.same M (.nef (λ_=>.ite (λc=>absurd c (by simp[neS])) λ_=>?_) λc=>absurd rfl c));have nb:=Je (l:=b.1);have K: ∀{z:Jp} {S S':Int},Ty.fit 16384 S J3 z->Ty.fit 16384 S' J3 z:=λh=>h;refine .bind (Ye (B:=16384) (S:=167968836) (X:=(b.1,x.2)) ⟨lb,K C.2.1⟩ C.2.2) λn F=>?_;have N:bY b.1 X=some (b.1++X):=by unfold bY;rw[if_pos (by unfold J0 at*;omega)]
  refine .same N ?_;obtain⟨R,H,D⟩: ∃y,FE .i64 (J0 b.1) 2=some y/\0<=y/\y<=J0 b.1:=by refine⟨J0 b.1/2,?_,by omega,by omega⟩;unfold FE;rw[if_neg (by decide),Int.tdiv_eq_ediv_of_nonneg nb,gp (by omega) (by omega)]
  obtain⟨w,T,_,ad⟩:=AN (l:=b.1) (k:=R) D.1 D.2;refine .same H (.same T ?_);have ae:J0 n.1<=2*167968836+1:=F.1.1;have A: ∀t∈[b.1,n.1,b.1++X,X,w],J0 t<=1073741824:=(by intro t J;simp only[dZ,List.not_mem_nil,or_false]at J;rcases J with rfl|rfl|rfl|rfl|rfl;omega;omega;rw[xU];omega;omega;omega);have I:J0 [b.1,n.1,b.1++X,X,w]=5:=rfl;generalize [b.1,n.1,b.1++X,X,w]=ts at A I;have hw:Tot (J9 kr (X,k,ts,J0 ts,0,n.2,g,x.1)) λr=>r=.inl (X,J1 .i64 k 1,n.2,g):=by refine Jl (τ:=Int) (λj=>(X,k,ts,J0 ts,j,n.2,g,x.1)) (λj=>0<=j/\j<=J0 ts) (λj=>J0 ts-j) ?_ 0 rfl ⟨aU _,Je⟩;rintro j ⟨j0,j1⟩;unfold kr;dsimp only;have o:=Jn j 1;refine .lt (λcj=>?_) λ_=>.some rfl;obtain⟨t,et,qt⟩:=uK j0 cj;obtain⟨y,e1,e2,e3⟩:=JF5 (A t (zQ5 qt));exact .same et (.same e1 (.same e2 (.nef (λ_=>.same e3 (.some ⟨J1 .i64 j 1,rfl,by omega,by omega,by omega⟩)) λc=>absurd rfl c)))
  obtain⟨r,Z,rfl⟩:=hw;have o:=Jn k 1;rw[Z];exact .some ⟨(J1 .i64 k 1,n.2),rfl,⟨by dsimp only;omega,K F.1.2,F.2⟩,by omega,by omega⟩
 obtain⟨y,e,rfl⟩:=O;exact e
end Go.Am
end
section
namespace Go.Am
set_option maxRecDepth 20000
def zV{α:Type}(f:FuncId):List (FuncId×α)->Option α|[]=>none|(g,a)::r=>if f=g then some a else zV f r
noncomputable def je:List (FuncId×AFn):=[(21,aK ko),(15,aK Yf),(10,aK JBz),(88,aK R9),(127,aK Xn),(126,aK S9),(107,aK Qv),(106,aK It),(105,aK V5),(108,aK Wk),(109,aK V6),(89,aK Pq),(52,aK Pm),(93,aK Vb),(59,aK W8),(65,aK Gv),(30,aK Ss),(51,aK Uc),(90,aK Ts),(53,aK Pk),(19,aK Ko),(39,aK Ge),(103,aK Xj),(73,aK Ew)]
noncomputable def ja:List (FuncId×AFn):=[(38,aK Ms),(74,aK Fi),(40,aK T7),(9,aK Mb),(70,aK Xb),(35,aK Wd),(148,aK X8),(125,aK Wp),(100,aK Yx),(138,aK T6),(123,aK Gg),(137,aK Fe),(135,aK Dx),(136,aK F0),(122,aK Fx),(98,aK Dk),(97,aK S7),(134,aK Wz),(121,aK Nc),(96,aK Mg),(63,aK Mv),(68,aK Ka),(67,aK Pr),(33,aK Pn)]
noncomputable def ka:List (FuncId×AFn):=[(34,aK K1),(147,aK S8),(238,aK P5),(193,aK M1),(194,aK K2),(163,aK Ps),(181,aK Lw),(249,aK Wb),(264,aK Lx),(265,aK Iu),(266,aK Kh),(223,aK Ns),(252,aK O0),(251,aK Uj),(201,aK Pd),(169,aK L3),(267,aK Dy),(224,aK Oh),(225,aK Xo),(180,aK Pg),(159,aK Nt),(151,aK Nu),(139,aK Px),(24,aK U0)]
noncomputable def jb:List (FuncId×AFn):=[(214,aK R6),(215,aK Eg),(260,aK Fh),(217,aK H3),(213,aK Lk),(257,aK Te),(258,aK Es),(259,aK T5),(216,aK Ln),(170,aK Lg),(154,aK Iy),(167,aK E9),(184,aK Gs),(176,aK Ex),(75,aK Ei),(212,aK Sr),(256,aK V0),(211,aK Sv),(210,aK P3),(175,aK Si),(209,aK P0),(174,aK JCT),(156,aK La),(143,aK Xm)]
noncomputable def jc:List (FuncId×AFn):=[(168,aK P7),(153,aK Pj),(76,aK Gd),(202,aK Oz),(203,aK Mc),(171,aK Ra),(205,aK Ht),(254,aK Ub),(206,aK Pe),(287,aK Qb),(253,aK N4),(204,aK Se),(207,aK I7),(172,aK Na),(255,aK Dr),(208,aK N1),(173,aK Ur),(155,aK Nh),(142,aK Ny),(232,aK Hf),(274,aK Gn),(275,aK Kk),(231,aK Th),(190,aK Ue)]
noncomputable def jx:List (FuncId×AFn):=[(189,aK Vx),(191,aK Hy),(234,aK Mj),(233,aK Vs),(237,aK He),(276,aK Rg),(235,aK Fb),(277,aK JCw),(236,aK Tk),(192,aK Gp),(162,aK I4),(188,aK Rx),(161,aK Gt),(227,aK Di),(183,aK Ib),(84,aK Gf),(291,aK Pp),(270,aK So),(271,aK F9),(228,aK V7),(185,aK Nj),(230,aK Eu),(187,aK Rz),(273,aK Mu)]
noncomputable def iz:List (FuncId×AFn):=[(295,aK Pl),(292,aK Km),(272,aK Mi),(229,aK Gw),(186,aK Kt),(269,aK K5),(268,aK S0),(226,aK Kb),(182,aK Gx),(160,aK Qj),(146,aK Ii),(144,aK Td),(198,aK Vi),(250,aK Kf),(199,aK Fz),(165,aK Vd),(282,aK P9),(245,aK Vz),(284,aK Uw),(285,aK fa),(247,aK Ou),(281,aK Qz),(243,aK I5),(242,aK K9)]
noncomputable def js:List (FuncId×AFn):=[(286,aK Oa),(248,aK Fg),(283,aK Ee),(246,aK R8),(240,aK Tb),(279,aK Qp),(280,aK Ud),(241,aK Mx),(244,aK Gm),(278,aK R7),(239,aK Uq),(195,aK JBw),(196,aK Ua),(197,aK Wi),(164,aK JD3),(200,aK Kn),(166,aK Hj),(152,aK JBu),(141,aK X4),(177,aK H2),(42,aK N6),(77,aK Lr),(44,aK T0),(219,aK Ly)]
noncomputable def j8:List (FuncId×AFn):=[(218,aK Il),(178,aK Py),(157,aK Pa),(48,aK Tr),(87,aK Yr),(85,aK Yq),(86,aK Yh),(50,aK Qn),(220,aK Ld),(294,aK Kv),(290,aK Ku),(263,aK Nw),(297,aK Sc),(298,aK Y8),(299,aK X1),(296,aK Sa),(293,aK Rk),(288,aK Rh),(261,aK P6),(289,aK Me),(262,aK G7),(221,aK Um),(222,aK Pw),(179,aK K3)]
noncomputable def ix:List (FuncId×AFn):=[(158,aK Ho),(145,aK Y0),(140,aK Y6),(124,aK Yv),(99,aK Eh),(66,aK X6),(32,aK Yi),(11,aK JBL),(69,aK Y1),(36,aK Yn),(31,aK U1),(64,aK Q9),(62,aK Tt),(27,aK Pu),(23,aK K6),(12,aK JCB),(49,aK Sy),(17,aK Ta),(43,aK If),(14,aK Tv),(28,aK Xx),(18,aK Gj),(78,aK F8),(45,aK Ug)]
noncomputable def WI:List (FuncId×AFn):=[(81,aK Y5),(83,aK Xz),(82,aK X7),(47,aK Ql),(80,aK Xs),(104,aK J9g),(79,aK Xy),(46,aK Vr),(16,aK Oo),(3,aK Wy),(54,aK J8l),(20,aK Eb),(4,aK Wj)]
noncomputable def fns:List (FuncId×AFn):=je++(ja++(ka++(jb++(jc++(jx++(iz++(js++(j8++(ix++(WI))))))))))
noncomputable def fks:List (FuncId×nO):=[]
noncomputable def fps:List (FuncId×Prm):=[(72,JBp)]
abbrev PS:=FuncId->Option (List AV->List Blk->Option Res)
noncomputable def tK(p:PS):dP:=λf=>yq (zV f fns) (zV f fks) (zV f fps) (p f)
def AE(l:List TE):Prop:= ∀p,tL (AF (tK p)) l
theorem ae0:AE []:=λ_=>trivial
theorem zU{i g S l f}(hf: ∀p,tK p i=some (.fn (aK f)))(A:AE l)(q: ∀x,onO (jP g x) (λy=>pJ (TG.of l) f y.1 y.2 (jS g))=S x)(hs:CB g=true:=by rfl):AE (aF i g S::l):=λp=>⟨jg (hf p) (A p) hs q,A p⟩
end Go.Am
end
