/-
  Parts of a proof.
-/
import Derived.ChangeArms
import Derived.OpenShut
import Derived.ChangeBears
import Derived.ChangeStays
import Derived.Handed
import Derived.RowKit3
import Derived.WalkKit
import Derived.ProofKit
import Derived.Test.YtknpcflejohnoaaGreatM2
import Derived.Test.YtknpcflejohnoaaGreatM4
set_option linter.unusedSimpArgs false
set_option linter.unusedVariables false
section
namespace Go.Am
set_option linter.unusedVariables false
set_option maxRecDepth 20000
set_option maxHeartbeats 4000000
theorem Q6{B S:Int}{X:List Int}(h:aB B S (.l zI) X)(g:BS B S 0 0:=by omega):Tot (VF X) λy=>aB 0 0 zI y:=by unfold VF;exact have:=Jh (l:=X);.eq (λc1=>.some aC) λc1=>.bind (Jl h) λj e=>.some e.1
theorem Ez{B S:Int}{X:cX}(h:aB B S fH X)(g:BS B S 0 0:=by omega)(k:B<=8589934591:=by omega):Tot (RY X) λy=>aB 0 0 zI y:=by unfold RY;exact .bind (gn (B:=B) (S:=S) ⟨h.1.e.1,h.2⟩) λn h1=>.bind (Q6 h1) λj h2=>.some h2
theorem Fs{B S:Int}{X:iQ}(h:aB B S sL X)(n:BH B S:=by omega)(q:B<=34359738368:=by omega):Tot (zN X) λy=>aB B S JS y:=by unfold zN;exact .bind ((zR (B:=B) (S:=S) (X:=(X.1,X.2)) (h)).eqn) λg h1=>have:=J2.1 h1.1.1;have:J0 X.1.2.1=_:=JE h.1.2.1;have: -1<=g/\g<J0 X.1.2.1:=h1.1.2;.lt (λk=>.some h.1) λk=>.bind (Jl h.1.2.1) λo e=>.bind (FB (B:=B) (S:=S) ⟨h.1,h1.1.1,e.1.z.1.u,trivial,e.1.z.2.2.1,trivial⟩ om om) λr j=>.some j.1
theorem Tu{B S:Int}{X:oA}(h:aB B S CR X)(p0:0<=X.2.2.2.2.1)(M:X.2.2.2.2.1<16)(J:J0 X.2.2.2.2.2<=12)(H:BH B S:=by omega)(O:B<=34359738368:=by omega):Tot (rM X) λy=>aB B S nZ y/\(J0 X.1.2.2.1.2.1<=J0 y.1.2.2.1.2.1):=by unfold rM;exact .bind (LP (B:=B) (S:=S) ⟨h.1.d.1,h.2.z.2.2.1⟩) λP D=>.not (λF=>have:J0 X.1.2.2.1.2.1<=B:=h.1.c.1.2.1.1;.some ⟨⟨h.1,aG 3,aC,h.2.z.2.2.1,⟨trivial,J9⟩,aC⟩,om⟩) λF=>have:=J2.1 h.2.z.2.1;.eq (λE=>.bind (Fs (B:=B) (S:=S) ⟨h.1.d.1,h.2.z.2.2.1⟩) λK w=>.bind (fK) λ_ _=>.bind (iS D.1.c) λL q=>.some ⟨⟨⟨h.1.1,h.1.2.1,h.1.c.1,w,h.1.e⟩,aG 1,aC,aC,q.u,aC⟩,om⟩) λE=>.bind (fK) λ_ _=>.bind (iS D.1.c) λI n=>.eq (λx=>.bind (gv (B:=B) (S:=S) ⟨h.1,aC,aG 1,h.2.z.1,aC,aC,aC,⟨h.2.z.2.2.1,h.2.z.2.2.2.1,n.u,trivial,h.2.z.2.2.2.2.u⟩,J9⟩) λo j=>have:J0 o.1.2.2.1.2.1=_:=JE j.1.1.c.1.2.1;have:J0 X.1.2.2.1.2.1=_:=JE h.1.c.1.2.1;have:o.2=0->J0 o.1.2.2.1.2.1=J0 X.1.2.2.1.2.1+1:=j.2;.ne (λr=>.bind (eS j.1.2) λN v=>.some ⟨⟨h.1,v.1.u⟩,om⟩) λr=>.some ⟨⟨j.1.1,aG 1,aC,aC,⟨trivial,J9⟩,aC⟩,om⟩) λx=>.bind (gv (B:=B) (S:=S) ⟨h.1,aC,aG 1,h.2.z.1,aC,aC,aC,⟨h.2.z.2.2.1,h.2.z.2.2.2.1,n.u,trivial,J9⟩,J9⟩) λk g=>have:J0 k.1.2.2.1.2.1=_:=JE g.1.1.c.1.2.1;have:J0 X.1.2.2.1.2.1=_:=JE h.1.c.1.2.1;have:k.2=0->J0 k.1.2.2.1.2.1=J0 X.1.2.2.1.2.1+1:=g.2;.ne (λC=>.bind (eS g.1.2) λG A=>.some ⟨⟨h.1,A.1.u⟩,om⟩) λC=>.some ⟨⟨g.1.1,aG 1,aC,aC,⟨trivial,J9⟩,aC⟩,om⟩
theorem S0{B S:Int}{X:cX}(h:aB B S fH X)(D:Has X.1.2.2.2.2.2.1 X.2)(G:BH B S:=by omega)(M:B<=34359738368:=by omega):Tot (rW X) λy=>aB B S nZ y/\(J0 X.1.2.2.1.2.1<=J0 y.1.2.2.1.2.1):=by unfold rW;exact .bind ((rJ (B:=B) (S:=S) (X:=(X.1.2.2.2.2.2.1,X.2)) ⟨h.1.g.1,h.2⟩).eqn) λr h1=>have:0<=r:=ZW D h1.2;have:J0 X.1.2.2.2.2.2.1=_:=JE h.1.g.1;have: -1<=r/\r<J0 X.1.2.2.2.2.2.1:=h1.1.2;.bind (Jl h.1.g.1) λI K=>.eq (λE=>.bind (i7 (B:=B) (S:=S) ⟨h.1.g.1,h.2⟩) λL A=>.bind (VZ (B:=B) (S:=S) ⟨h.1.e.1,h.2⟩) λJ z=>.some ⟨⟨⟨h.1.1,h.1.2.1,h.1.c.1,h.1.d.1,z,A,h.1.h⟩,aG 1,aC,aC,⟨trivial,J9⟩,aC⟩,om⟩) λE=>.bind ((wI (B:=B) (S:=S) (X:=(X.1,0,3,X.2,0,0,0,(0,0,(false,[]),false,[]),[])) ⟨h.1,aC,aG 3,h.2,aC,aC,aC,⟨aC,aC,⟨trivial,J9⟩,trivial,J9⟩,J9⟩).eqn) λn k=>have:J0 n.1.2.2.1.2.1=_:=JE k.1.1.1.c.1.2.1;have:J0 X.1.2.2.1.2.1=_:=JE h.1.c.1.2.1;have:n.2.2=0->J0 n.1.2.2.1.2.1=J0 X.1.2.2.1.2.1+1/\J0 X.1.2.2.1.2.1<=4095/\0<=(0:Int)/\(0:Int)<64/\0<=(0:Int)/\(0:Int)<16:=k.1.2;.ne (λx=>.bind (eS k.1.1.c) λH C=>.some ⟨⟨h.1,C.1.u⟩,om⟩) λx=>.bind (UX (B:=16384) (S:=1073741824) ⟨k.1.1.1,k.1.1.2.1⟩) λq o=>have j:aB 16384 1073741824 Ja q:=o.1.u;have:J0 q.2.2.1.2.1=_:=JE j.c.1.2.1;have:J0 q.2.2.1.2.1=J0 n.1.2.2.1.2.1:=o.2;.bind (VZ (B:=16384) (S:=1073741824) ⟨j.e.1,h.2⟩) λF w=>have v:aB 16384 1073741824 JH F:=w.u;.some ⟨⟨⟨j.1,j.2.1,j.c.1.u,j.d.1.u,v.u,j.g.u⟩,aG 1,aC,aC,⟨trivial,J9⟩,aC⟩,om⟩
theorem Sd{B S:Int}{X:nK}(h:aB B S CO X)(w:BG B S:=by omega):Tot (VS X) λy=>aB B S JH y:=by unfold VS;exact .bind ((AY h.1).eqn) λx h1=>.not (λg=>.some h.1) λg=>have v:=wU h.1 h1.2 g;have e:aB 1024 0 JH X.1:=v.2;.bind (SD (B:=1024) (S:=0) ⟨e.2,h.2,trivial,aP⟩) λq k=>have j:aB 1025 0 (.l Jb) q:=k.u;.bind (MX (B:=1025) (S:=0) ⟨e.1.u,j⟩) λr n=>have o:aB 2050 0 JH r:=n.1.u;.some o.u
theorem V7{B S:Int}{X:DH}(h:aB B S lc X)(A:Has X.1.2.2.2.2.2.1 X.2.1)(E:BC B S 0 0:=by omega):Tot (WD X) λy=>aB 0 0 .b y:=by unfold WD;exact .bind ((rJ (B:=B) (S:=S) (X:=(X.1.2.2.2.2.2.1,X.2.1)) ⟨h.1.g.1,h.2.1⟩).eqn) λo h1=>have:0<=o:=ZW A h1.2;have:J0 X.1.2.2.2.2.2.1=_:=JE h.1.g.1;have: -1<=o/\o<J0 X.1.2.2.2.2.2.1:=h1.1.2;.bind (Jl h.1.g.1) λk v=>have:J0 k.2.2.2.2.1<=B:=v.1.e.1.1;have:=Jh (l:=k.2.2.2.2.1);cU (J0 k.2.2.2.2.1) (λq=>(q,X.1,X.2.2,k)) λC G F D=>.lt (λj=>.bind (Jl v.1.e.1) λH x=>.bind (tR (B:=B) (S:=S) ⟨h.1.c.1,x.1⟩) λI n=>.eq (λz=>have:=J2.1 n.1.h.1.1;.eq (λw=>have:=J2.1 n.1.h.1.2.1;.eq (λr=>.some trivial) λr=>.some ⟨j,rfl⟩) λw=>.some ⟨j,rfl⟩) λz=>.some ⟨j,rfl⟩) λj=>.some trivial
theorem vh{B S:Int}{X:gU}(h:aB B S xJ X)(P:Has X.1.2.2.2.2.2.1 X.2.1)(a2:BH B S:=by omega)(hB:B<=34359738368:=by omega):Tot (pP X) λy=>aB B S nZ y/\(J0 X.1.2.2.1.2.1<=J0 y.1.2.2.1.2.1):=by unfold pP;exact .bind (Sd (B:=B) (S:=S) ⟨h.1.e.1,h.2.1⟩) λQ h1=>.bind ((rJ (B:=B) (S:=S) (X:=(X.1.2.2.2.2.2.1,X.2.1)) ⟨h.1.g.1,h.2.1⟩).eqn) λA h2=>have:0<=A:=ZW P h2.2;have:J0 X.1.2.2.2.2.2.1=_:=JE h.1.g.1;have: -1<=A/\A<J0 X.1.2.2.2.2.2.1:=h2.1.2;.bind (Jl h.1.g.1) λy4 h9=>.eq (λI=>.bind (i7 (B:=B) (S:=S) ⟨h.1.g.1,h.2.1⟩) λy5 F=>.bind (VZ (B:=B) (S:=S) ⟨h1,h.2.1⟩) λy6 D=>.some ⟨⟨⟨h.1.1,h.1.2.1,h.1.c.1,h.1.d.1,D,F,h.1.h⟩,h.c,aC,aC,⟨trivial,J9⟩,aC⟩,om⟩) λI=>.bind ((wI (B:=B) (S:=S) (X:=((X.1.1,X.1.2.1,X.1.2.2.1,X.1.2.2.2.1,Q,X.1.2.2.2.2.2),0,4,X.2.1,0,0,0,(0,0,(false,[]),false,[]),[])) ⟨⟨h.1.1,h.1.2.1,h.1.c.1,h.1.d.1,h1,h.1.g⟩,aC,aG 4,h.2.1,aC,aC,aC,⟨aC,aC,⟨trivial,J9⟩,trivial,J9⟩,J9⟩).eqn) λr j=>have:J0 r.1.2.2.1.2.1=_:=JE j.1.1.1.c.1.2.1;have:J0 X.1.2.2.1.2.1=_:=JE h.1.c.1.2.1;have:r.2.2=0->J0 r.1.2.2.1.2.1=J0 X.1.2.2.1.2.1+1/\J0 X.1.2.2.1.2.1<=4095/\0<=(0:Int)/\(0:Int)<64/\0<=(0:Int)/\(0:Int)<16:=j.1.2;.ne (λw=>.bind (eS j.1.1.c) λy8 G=>.some ⟨⟨h.1,G.1.u⟩,om⟩) λw=>have K:Has r.1.2.2.2.2.2.1 X.2.1:=ub ⟨⟨h.1.1,h.1.2.1,h.1.c.1,h.1.d.1,h1,h.1.g⟩,aC,aG 4,h.2.1,aC,aC,aC,⟨aC,aC,⟨trivial,J9⟩,trivial,J9⟩,J9⟩ j.2 w;Jq (τ:=qF) (λq=>(X.2.1,X.2.2,r.1.2.2.2.2.1.1,q.1,X.1,(0,0,(0,[],0),(0,[],0),([],[]),[],[],[]),(0,0,0,(false,[]),0),q.2)) (λq=>aB 0 0 zI q.1/\aB 16384 1073741824 Ja q.2/\(0<=q.1)/\(q.1<=J0 r.1.2.2.2.2.1.1)/\(J0 X.1.2.2.1.2.1<=J0 q.2.2.2.1.2.1)/\(Has q.2.2.2.2.2.2.1 X.2.1)) (λq=>J0 r.1.2.2.2.2.1.1-q.1) (by rintro⟨o,n⟩ x;dsimp only at x;obtain⟨C,k,W,V,Y,v⟩:=x;unfold VW;(try dsimp only);exact have:=J2.1 C;have:J0 r.1.2.2.2.2.1.1=_/\_:=lF j.1.1.1.e.1.1;.lt (λH=>.bind (Jl j.1.1.1.e.1.1) λT R=>.eq (λE=>.bind (Jl j.1.1.1.e.1.1) λa1 L=>.bind (V7 (B:=16384) (S:=1073741824) ⟨k,h.2.1,L.1.2.1⟩ v) λZ a0=>.not (λN=>.bind (Jl j.1.1.1.e.1.1) λU O=>.bind (uy (B:=16384) (S:=1073741824) ⟨k.2.2.2.2.1,h.2.1,O.1.2.1⟩) λz J=>have M:aB 16384 1073741824 JH z:=J.u;have:=Jm o 1;.some ⟨(J1 .i64 o 1,(n.1,n.2.1,n.2.2.1,n.2.2.2.1,z,n.2.2.2.2.2)),rfl,⟨Je,⟨k.1,k.2.1,k.2.2.1,k.2.2.2.1,M,k.2.2.2.2.2⟩,om,om,om,v⟩,om,om⟩) λN=>have:=Jm o 1;.some ⟨(J1 .i64 o 1,n),rfl,⟨Je,k,om,om,om,v⟩,om,om⟩) λE=>have:=Jm o 1;.some ⟨(J1 .i64 o 1,n),rfl,⟨Je,k,om,om,om,v⟩,om,om⟩) λH=>.some ⟨⟨k.u,h.c,aC,aC,⟨trivial,J9⟩,aC⟩,om⟩) (0,r.1) rfl (have:J0 r.1.2.2.2.2.1.1<=16384:=j.1.1.1.e.1.1.1;have:=Jh (l:=r.1.2.2.2.2.1.1);⟨aC,j.1.1.1,om,om,om,K⟩)
theorem uq{B S:Int}{X:Int×mF}(h:aB B S GB X)(j:BS B S 0 0:=by omega):Tot (MH X) λy=>aB 0 0 (.pr Jb .b) y:=by unfold MH;exact have s0:aB 0 S GB X:=h;.eq (λc1=>.some ⟨⟨s0.1,⟨s0.2.2.1,s0.2.2.2.1⟩,aG 1⟩,trivial⟩) λc1=>.eq (λg=>.some ⟨⟨s0.1,⟨s0.2.2.1,s0.2.2.2.1⟩,aG 2⟩,trivial⟩) λg=>.eq (λe=>.some ⟨⟨s0.1,⟨s0.2.2.1,s0.2.2.2.1⟩,aG 2⟩,trivial⟩) λe=>.some ⟨aP,trivial⟩
theorem wt{B S:Int}{X:J7×mF}(h:aB B S (.pr Ja eW) X)(ah:BS B S 0 0:=by omega):Tot (FT X) λy=>aB 0 0 zI y/\(y=0->1<=X.2.1/\X.2.1<=7/\J0 X.2.2.2.2<=12/\(X.2.1<=3->0<=X.2.2.1/\X.2.2.1<X.1.1/\0<=X.2.2.2.1/\X.2.2.2.1<16)):=by unfold FT;exact .eq (λc1=>have:=J2.1 h.2.z.2.1;.ltf (λc3=>have:=J2.1 h.1.1;.gef (λc5=>have:=J2.1 h.2.z.2.2.1;.ltf (λc7=>.ge (λc9=>have:J0 X.2.2.2.2<=S:=h.2.z.2.2.2;.some ⟨(aG 1),om⟩) λc9=>.eq (λK=>.not (λv=>have:J0 X.2.2.2.2<=S:=h.2.z.2.2.2;.some ⟨(aG 1),om⟩) λv=>have ag:=dY.1 v;.gt (λM=>.some ⟨(aG 22),om⟩) λM=>.some ⟨aC,om⟩) λK=>.not (λr=>have:J0 X.2.2.2.2<=S:=h.2.z.2.2.2;.some ⟨(aG 1),om⟩) λr=>have ai:=dY.1 r;have:=Jh (l:=X.2.2.2.2);.gt (λY=>.some ⟨(aG 22),om⟩) λY=>.some ⟨aC,om⟩) λc7=>have:J0 X.2.2.2.2<=S:=h.2.z.2.2.2;.some ⟨(aG 1),om⟩) λc5=>have:J0 X.2.2.2.2<=S:=h.2.z.2.2.2;.some ⟨(aG 1),om⟩) λc3=>have:J0 X.2.2.2.2<=S:=h.2.z.2.2.2;.some ⟨(aG 1),om⟩) λc1=>.eq (λL=>have:=J2.1 h.2.z.2.1;.ltf (λV=>have:=J2.1 h.1.1;.gef (λa2=>have:=J2.1 h.2.z.2.2.1;.ltf (λW=>.ge (λa0=>have:J0 X.2.2.2.2<=S:=h.2.z.2.2.2;.some ⟨(aG 1),om⟩) λa0=>.eq (λN=>.not (λn=>have:J0 X.2.2.2.2<=S:=h.2.z.2.2.2;.some ⟨(aG 1),om⟩) λn=>have aj:=dY.1 n;have:=Jh (l:=X.2.2.2.2);.gt (λa3=>.some ⟨(aG 22),om⟩) λa3=>.some ⟨aC,om⟩) λN=>.not (λq=>have:J0 X.2.2.2.2<=S:=h.2.z.2.2.2;.some ⟨(aG 1),om⟩) λq=>have ae:=dY.1 q;have:=Jh (l:=X.2.2.2.2);.gt (λT=>.some ⟨(aG 22),om⟩) λT=>.some ⟨aC,om⟩) λW=>have:J0 X.2.2.2.2<=S:=h.2.z.2.2.2;.some ⟨(aG 1),om⟩) λa2=>have:J0 X.2.2.2.2<=S:=h.2.z.2.2.2;.some ⟨(aG 1),om⟩) λV=>have:J0 X.2.2.2.2<=S:=h.2.z.2.2.2;.some ⟨(aG 1),om⟩) λL=>.eq (λa1=>have:=J2.1 h.2.z.2.1;.ltf (λR=>have:=J2.1 h.1.1;.gef (λa4=>have:=J2.1 h.2.z.2.2.1;.ltf (λQ=>.ge (λO=>have:J0 X.2.2.2.2<=S:=h.2.z.2.2.2;.some ⟨(aG 1),om⟩) λO=>.eq (λU=>.not (λw=>have:J0 X.2.2.2.2<=S:=h.2.z.2.2.2;.some ⟨(aG 1),om⟩) λw=>have ad:=dY.1 w;.gt (λP=>.some ⟨(aG 22),om⟩) λP=>.some ⟨aC,om⟩) λU=>.not (λo=>have:J0 X.2.2.2.2<=S:=h.2.z.2.2.2;.some ⟨(aG 1),om⟩) λo=>have af:=dY.1 o;have:=Jh (l:=X.2.2.2.2);.gt (λZ=>.some ⟨(aG 22),om⟩) λZ=>.some ⟨aC,om⟩) λQ=>have:J0 X.2.2.2.2<=S:=h.2.z.2.2.2;.some ⟨(aG 1),om⟩) λa4=>have:J0 X.2.2.2.2<=S:=h.2.z.2.2.2;.some ⟨(aG 1),om⟩) λR=>have:J0 X.2.2.2.2<=S:=h.2.z.2.2.2;.some ⟨(aG 1),om⟩) λa1=>.eq (λx=>have:=J2.1 h.2.z.2.2.1;.ltf (λG=>.ge (λA=>have:J0 X.2.2.2.2<=S:=h.2.z.2.2.2;.some ⟨(aG 1),om⟩) λA=>.not (λk=>have:J0 X.2.2.2.2<=S:=h.2.z.2.2.2;.some ⟨(aG 1),om⟩) λk=>have a9:=dY.1 k;have:=Jh (l:=X.2.2.2.2);.gt (λF=>have:=J2.1 h.2.z.2.1;.some ⟨(aG 22),om⟩) λF=>have:=J2.1 h.2.z.2.1;.some ⟨aC,om⟩) λG=>have:J0 X.2.2.2.2<=S:=h.2.z.2.2.2;.some ⟨(aG 1),om⟩) λx=>.eq (λD=>.not (λg=>have:J0 X.2.2.2.2<=S:=h.2.z.2.2.2;.some ⟨(aG 1),om⟩) λg=>have a5:=dY.1 g;have:=Jh (l:=X.2.2.2.2);.gt (λC=>have:=J2.1 h.2.z.2.1;.some ⟨(aG 22),om⟩) λC=>have:=J2.1 h.2.z.2.1;.some ⟨aC,om⟩) λD=>.eq (λH=>.not (λe=>have:J0 X.2.2.2.2<=S:=h.2.z.2.2.2;.some ⟨(aG 1),om⟩) λe=>have aa:=dY.1 e;have:=Jh (l:=X.2.2.2.2);.gt (λI=>have:=J2.1 h.2.z.2.1;.some ⟨(aG 22),om⟩) λI=>have:=J2.1 h.2.z.2.1;.some ⟨aC,om⟩) λH=>.eq (λE=>.not (λj=>have:J0 X.2.2.2.2<=S:=h.2.z.2.2.2;.some ⟨(aG 1),om⟩) λj=>have a7:=dY.1 j;have:=Jh (l:=X.2.2.2.2);.gt (λJ=>have:=J2.1 h.2.z.2.1;.some ⟨(aG 22),om⟩) λJ=>have:=J2.1 h.2.z.2.1;.some ⟨aC,om⟩) λE=>have:J0 X.2.2.2.2<=S:=h.2.z.2.2.2;.some ⟨(aG 1),om⟩
theorem Wb{B S:Int}{X:oA}(h:aB B S CR X)(J:BG B S:=by omega):Tot (uF X) λy=>aB 0 0 zI y:=by unfold uF;exact .bind ((kM h.1).eqn) λO h1=>.not (λv=>.some (aG 15)) λv=>have E:=lO h.1 h1.2 v;have j:aB 4096 8192 Ja X.1:=E.2;.bind ((rJ (B:=4096) (S:=8192) (X:=(X.1.2.2.2.2.2.1,X.2.1)) ⟨j.g.1,h.2.z.1⟩).eqn) λq k=>have:=J2.1 k.1.1;have:J0 X.1.2.2.2.2.2.1=_:=JE j.g.1;have: -1<=q/\q<J0 X.1.2.2.2.2.2.1:=k.1.2;.lt (λw=>.some (aG 16)) λw=>.bind (Jl j.g.1) λN G=>.ne (λo=>.some (aG 15)) λo=>.bind (wt (B:=4096) (S:=S) ⟨j.u,h.2.z.2.u⟩) λL x=>.ne (λC=>.some x.1) λC=>.bind (WA (B:=4096) (S:=8192) ⟨j.e.1,h.2.z.1⟩) λM F=>.bind (uq (B:=0) (S:=S) ⟨h.2.z.1,h.2.z.2⟩) λK I=>.ite (λD=>.ne (λA=>.nof (λr=>.not (λn=>.some (aG 15)) λn=>have H:=dY.1 n;.some aC) λr=>.some (aG 15)) λA=>.some aC) λD=>.some aC
section
variable {B S:Int}
theorem jd{x:oA}(e:uF x=some 0):Jv x.1=some true/\Has x.1.2.2.2.2.2.1 x.2.1/\FT (x.1,x.2.2)=some 0:=by
 have h:Par (uF x) λy=>y=0->Jv x.1=some true/\Has x.1.2.2.2.2.2.1 x.2.1/\FT (x.1,x.2.2)=some 0:=by unfold uF;refine .bind λa o=>.not (λ_=>.some nofun) λc1=>.bind λj n=>.lt (λ_=>.some nofun) λr=>.bind λt v=>.ne (λ_=>.some nofun) λw=>.bind λb q=>.ne (λg=>.some λk=>absurd k g) λg=>?_;subst c1;subst g;exact λ_ _ _=>⟨o,⟨j,n,oo⟩,q⟩
 exact h _ e rfl
theorem U6{x:oA}{y:Int}(h:aB B S CR x)(e:uF x=some y)(c:y=0)(n:BC B S 0 0:=by omega):(1<=x.1.1/\x.1.1<=64/\J0 x.1.2.2.2.2.2.2.1=x.1.1/\1<=x.1.2.1/\x.1.2.1<=1073741825/\1<=x.1.2.2.1.1/\x.1.2.2.1.1<=1099511627776/\J0 x.1.2.2.1.2.1<=4096/\x.1.2.2.1.1-1<=x.1.2.2.1.2.2/\x.1.2.2.1.2.2<=x.1.2.2.1.1+J0 x.1.2.2.1.2.1-1/\1<=x.1.2.2.2.1.1/\x.1.2.2.2.1.1<=64/\J0 x.1.2.2.2.1.2.1<=x.1.2.2.2.1.1/\0<=x.1.2.2.2.1.2.2/\(x.1.2.2.2.1.2.2<J0 x.1.2.2.2.1.2.1\/x.1.2.2.2.1.2.2=0)/\1<=x.2.2.1/\x.2.2.1<=7/\J0 x.2.2.2.2.2<=12/\(x.2.2.1<=3->0<=x.2.2.2.1/\x.2.2.2.1<x.1.1/\0<=x.2.2.2.2.1/\x.2.2.2.2.1<16))/\aB 4096 8192 Ja x.1:=by subst c;obtain⟨h1,h2,h3⟩:=jd e;obtain⟨g,k⟩:=lO h.1 h1 rfl;have j:=((wt (X:=(x.1,x.2.2)) ⟨h.1,h.c⟩).get h3).2 rfl;exact⟨⟨g.1,g.2.1,g.2.2.1,g.2.2.2.1,g.2.2.2.2.1,g.2.2.2.2.2.1,g.2.2.2.2.2.2.1,g.2.2.2.2.2.2.2.1,g.2.2.2.2.2.2.2.2.1,g.2.2.2.2.2.2.2.2.2.1,g.2.2.2.2.2.2.2.2.2.2.1,g.2.2.2.2.2.2.2.2.2.2.2.1,g.2.2.2.2.2.2.2.2.2.2.2.2.1,g.2.2.2.2.2.2.2.2.2.2.2.2.2.1,g.2.2.2.2.2.2.2.2.2.2.2.2.2.2,j⟩,k⟩
theorem O8{x:oA}{y:Int}(h:aB B S CR x)(e:uF x=some y)(c:y=0):Has x.1.2.2.2.2.2.1 x.2.1:=by subst c;exact(jd e).2.1
end
theorem JCZ{B S:Int}{X:oA}(h:aB B S CR X)(az:BG B S:=by omega):Tot (rC X) λy=>aB B S nZ y/\(J0 X.1.2.2.1.2.1<=J0 y.1.2.2.1.2.1):=by unfold rC;exact .bind ((Wb (B:=B) (S:=S) (X:=(X.1,X.2.1,X.2.2)) ⟨h.1,h.2.z.1,h.2.z.2.u⟩).eqn) λy2 h1=>.ne (λN=>.bind (eS h1.1) λy3 h4=>.some ⟨⟨h.1,h4.1.u⟩,om⟩) λN=>have q:Has X.1.2.2.2.2.2.1 X.2.1:=O8 ⟨h.1,h.2.z.1,h.2.z.2.u⟩ h1.2 N;have L:=U6 (x:=(X.1,X.2.1,X.2.2)) ⟨h.1,h.2.z.1,h.2.z.2.u⟩ h1.2 N;have:=J2.1 h.2.z.2.1;have:=Jh (l:=X.2.2.2.2.2);have:=J2.1 h.2.z.2.2.2.1;have:1<=X.1.1/\X.1.1<=64/\J0 X.1.2.2.2.2.2.2.1=X.1.1/\1<=X.1.2.1/\X.1.2.1<=1073741825/\1<=X.1.2.2.1.1/\X.1.2.2.1.1<=1099511627776/\J0 X.1.2.2.1.2.1<=4096/\X.1.2.2.1.1-1<=X.1.2.2.1.2.2/\X.1.2.2.1.2.2<=X.1.2.2.1.1+J0 X.1.2.2.1.2.1-1/\1<=X.1.2.2.2.1.1/\X.1.2.2.2.1.1<=64/\J0 X.1.2.2.2.1.2.1<=X.1.2.2.2.1.1/\0<=X.1.2.2.2.1.2.2/\(X.1.2.2.2.1.2.2<J0 X.1.2.2.2.1.2.1\/X.1.2.2.2.1.2.2=0)/\1<=X.2.2.1/\X.2.2.1<=7/\J0 X.2.2.2.2.2<=12/\(X.2.2.1<=3->0<=X.2.2.2.1/\X.2.2.2.1<X.1.1/\0<=X.2.2.2.2.1/\X.2.2.2.2.1<16):=L.1;have j:aB 4096 8192 Ja X.1:=L.2;.eq (λY=>have U:aB 16384 1073741824 fH (X.1,X.2.1):=⟨j.u,h.2.z.1⟩;.bind (S0 U q) λy4 C=>have J:aB 16384 1073741824 nZ y4:=C.1.u;have:J0 X.1.2.2.1.2.1<=J0 y4.1.2.2.1.2.1:=C.2;.some ⟨⟨J.1.u,J.2.z.u⟩,om⟩) λY=>.eq (λal=>have ai:aB 16384 1073741824 xJ (X.1,X.2.1,1):=⟨j.u,h.2.z.1,aG 1⟩;.bind (vh ai q) λy5 I=>have D:aB 16384 1073741824 nZ y5:=I.1.u;have:J0 X.1.2.2.1.2.1<=J0 y5.1.2.2.1.2.1:=I.2;.some ⟨⟨D.1.u,D.2.z.u⟩,om⟩) λal=>.eq (λa7=>have am:aB 16384 1073741824 iZ (X.1.2.2.2.2.2.1,X.2.1):=⟨j.g.1.u,h.2.z.1⟩;.bind (uz am) λy6 v=>.eq (λa9=>have a6:aB 16384 1073741824 jf (X.1.2.2.2.2.2.1,X.2.1,X.2.2.2.2.1):=⟨j.g.1.u,h.2.z.1,h.2.z.2.2.2.1⟩;.bind (ur a6) λy7 K=>.ne (λae=>.bind (eS K.2) λy8 ag=>.some ⟨⟨j.u,ag.1.u⟩,om⟩) λae=>.some ⟨⟨⟨j.1,j.2.1,j.c.1.u,j.d.1.u,j.e.1.u,K.1.u,j.h.u⟩,aG 1,aC,aC,⟨trivial,J9⟩,aC⟩,om⟩) λa9=>have:=J2.1 v.2;.ne (λa3=>.bind (eS v.2) λy9 a4=>.some ⟨⟨j.u,a4.1.u⟩,om⟩) λa3=>.some ⟨⟨⟨j.1,j.2.1,j.c.1.u,j.d.1.u,j.e.1.u,v.1.u,j.h.u⟩,aG 1,aC,aC,⟨trivial,J9⟩,aC⟩,om⟩) λa7=>.eq (λaf=>have aa:aB 16384 1073741824 iZ (X.1.2.2.2.2.2.1,X.2.1):=⟨j.g.1.u,h.2.z.1⟩;.bind (uz aa) λap r=>.eq (λak=>have ah:aB 16384 1073741824 jf (X.1.2.2.2.2.2.1,X.2.1,X.2.2.2.2.1):=⟨j.g.1.u,h.2.z.1,h.2.z.2.2.2.1⟩;.bind (ur ah) λay A=>.ne (λZ=>.bind (eS A.2) λax T=>.some ⟨⟨j.u,T.1.u⟩,om⟩) λZ=>.some ⟨⟨⟨j.1,j.2.1,j.c.1.u,j.d.1.u,j.e.1.u,A.1.u,j.h.u⟩,aG 1,aC,aC,⟨trivial,J9⟩,aC⟩,om⟩) λak=>have:=J2.1 r.2;.ne (λW=>.bind (eS r.2) λaq a8=>.some ⟨⟨j.u,a8.1.u⟩,om⟩) λW=>.some ⟨⟨⟨j.1,j.2.1,j.c.1.u,j.d.1.u,j.e.1.u,r.1.u,j.h.u⟩,aG 1,aC,aC,⟨trivial,J9⟩,aC⟩,om⟩) λaf=>.bind (uq (B:=0) (S:=S) ⟨h.2.z.1,h.2.z.2⟩) λab aj=>have a1:aB 16384 1073741824 jz (X.1.2.2.2.2.1,ab.1):=⟨j.e.1.u,aj.1⟩;.bind (Ue a1) λF k=>.ne (λa0=>.bind (eS k.c) λaw ac=>.some ⟨⟨j.u,ac.1.u⟩,om⟩) λa0=>.ite (λa2=>have V:aB 16384 S CR ((X.1.1,X.1.2.1,X.1.2.2.1,X.1.2.2.2.1,F.1,X.1.2.2.2.2.2),X.2.1,X.2.2):=⟨⟨j.1,j.2.1,j.c.1.u,j.d.1.u,k.1.u,j.g.u⟩,h.2.z.1,h.2.z.2.u⟩;.bind (Tu V om om om) λG E=>have o:aB 16384 S nZ G:=E.1.u;have:J0 X.1.2.2.1.2.1<=J0 G.1.2.2.1.2.1:=E.2;.eq (λR=>.some ⟨⟨j.u,o.2.z.u⟩,om⟩) λR=>.some ⟨⟨o.1.u,o.2.z.u⟩,om⟩) λa2=>.bind (O0 (B:=4098) (S:=0) ⟨k.1,h.2.z.1⟩) λau an=>.gt (λM=>have P:aB 16384 1073741824 xJ ((X.1.1,X.1.2.1,X.1.2.2.1,X.1.2.2.2.1,F.1,X.1.2.2.2.2.2),X.2.1,4):=⟨⟨j.1,j.2.1,j.c.1.u,j.d.1.u,k.1.u,j.g.u⟩,h.2.z.1,aG 4⟩;.bind (vh P q) λH w=>have n:aB 16384 1073741824 nZ H:=w.1.u;have:J0 X.1.2.2.1.2.1<=J0 H.1.2.2.1.2.1:=w.2;.eq (λQ=>.some ⟨⟨j.u,n.2.z.u⟩,om⟩) λQ=>.some ⟨⟨n.1.u,n.2.z.u⟩,om⟩) λM=>.bind (Ez (B:=4098) (S:=8192) ⟨⟨j.1,j.2.1,j.c.1.u,j.d.1.u,k.1.u,j.g.u⟩,h.2.z.1⟩) λav O=>.some ⟨⟨⟨j.1,j.2.1,j.c.1.u,j.d.1.u,k.1.u,j.g.u⟩,aG 2,O,aC,⟨trivial,J9⟩,aC⟩,om⟩
theorem xo{B S:Int}{X:eL}(h:aB B S mU X)(k:BC B S 0 0:=by omega):Tot (uG X) λy=>aB 0 0 .b y:=by unfold uG;exact .bind ((rJ (B:=B) (S:=S) (X:=(X.1.1.2.2.2.2.2.1,X.2)) ⟨h.1.1.g.1,h.2⟩).eqn) λe h1=>have:J0 X.1.1.2.2.2.2.2.1=_:=JE h.1.1.g.1;have: -1<=e/\e<J0 X.1.1.2.2.2.2.2.1:=h1.1.2;.ge (λj=>.bind (Jl h.1.1.g.1) λn o=>.some trivial) λj=>.some trivial
section
variable {B S:Int}
theorem tJ{e:Int}{y:eF}(h:Jw e=some y):y.1=5:=by unfold Jw at h;injection h with h;subst h;rfl
theorem Sq{x:oA}{y:eH}(e:rM x=some y)(c:y.2.1=3): ¬InP x.1.2.2.2.1 x.2.2.2.1/\y.1=x.1/\y.2.2.2.1=x.2.2.2.1:=by
 have g:Par (rM x) λy=>y.2.1=3-> ¬InP x.1.2.2.2.1 x.2.2.2.1/\y.1=x.1/\y.2.2.2.1=x.2.2.2.1:=by
  unfold rM;refine .bind λn h2=>.not (λc=>.some λ_=>⟨λh=>(by rw[(gm h2).2 h]at c;cases c),rfl,rfl⟩) λ_=>.eq (λ_=>.bind λ_ _=>.bind λ_ _=>.bind λ_ _=>.some nofun) λ_=>.bind λ_ _=>.bind λ_ _=>.eq (λ_=>?_) λ_=>?_
  all_goals
   refine .bind λo _=>.ne (λ_=>.bind λk j=>.some λc=>?_) λ_=>.some nofun;have:=tJ j;dsimp only at c;omega
 exact g _ e c
theorem Sw{x:cX}{y:eH}(e:rW x=some y): ¬y.2.1=3:=by
 have g:Par (rW x) λy=> ¬y.2.1=3:=by unfold rW;refine .bind λ_ _=>.bind λ_ _=>.eq (λ_=>.bind λ_ _=>.bind λ_ _=>.some nofun) λ_=>.bind λ_ _=>.ne (λ_=>.bind λj h=>.some λc=>?_) λ_=>.bind λ_ _=>.bind λ_ _=>.some nofun;have:=tJ h;dsimp only at c;omega
 exact g _ e
theorem wi{x:gU}{y:eH}(e:pP x=some y):y.2.1=x.2.2\/y.2.1=5:=by
 have h:Par (pP x) λy=>y.2.1=x.2.2\/y.2.1=5:=by unfold pP;refine .bind λ_ _=>.bind λ_ _=>.bind λ_ _=>.eq (λ_=>.bind λ_ _=>.bind λ_ _=>.some (.inl rfl)) λ_=>.bind λn _=>.ne (λ_=>.bind λr j=>.some (.inr (tJ j))) λ_=>.while (λz=>z.2.1=x.2.2) rfl ?_;rintro⟨a,st,v,i,k,o,q,out⟩ g;dsimp only at g;unfold VW;dsimp only;exact .lt (λ_=>.bind λ_ _=>.eq (λ_=>.bind λ_ _=>.bind λ_ _=>.not (λ_=>.bind λ_ _=>.bind λ_ _=>.some g) λ_=>.some g) λ_=>.some g) λ_=>.some (.inl g)
 exact h _ e
theorem JCG{x:oA}{y:eH}(e:rC x=some y)(c:y.2.1=3):Jv x.1=some true/\ ¬InP x.1.2.2.2.1 x.2.2.2.1/\y.1.2.2.2.1=x.1.2.2.2.1/\y.2.2.2.1=x.2.2.2.1:=by
 have o:Par (rC x) λy=>y.2.1=3->Jv x.1=some true/\ ¬InP x.1.2.2.2.1 x.2.2.2.1/\y.1.2.2.2.1=x.1.2.2.2.1/\y.2.2.2.1=x.2.2.2.1:=by
  unfold rC;have g: ∀{e:Int} {k:J7} {r:eF} {Q:Prop},Jw e=some r->(k,r).2.1=3->Q:=fun{e k r Q} h c=>by have:=tJ h;dsimp only at c;omega
  refine .bind λJ h2=>.ne (λ_=>.bind λ_ h3=>.some (g h3)) λq=>.eq (λ_=>.bind λI v=>.some λc=>absurd c (Sw v)) λ_=>.eq (λ_=>.bind λH w=>.some λc=>?_) λ_=>.eq (λ_=>?_) λ_=>.eq (λ_=>?_) λ_=>.bind λG _=>.bind λC _=>.ne (λ_=>.bind λ_ h=>.some (g h)) λ_=>.ite (λ_=>.bind λD n=>.eq (λd=>.some λc=>?_) λ_=>.some λc=>?_) λ_=>.bind λE _=>.gt (λ_=>.bind λF j=>.eq (λd=>.some λc=>?_) λ_=>.some λc=>?_) λ_=>.bind λ_ _=>.some nofun;have:=wi w;dsimp only at c this;omega;exact .bind λ_ _=>.eq (λ_=>.bind λ_ _=>.ne (λ_=>.bind λ_ h=>.some (g h)) λ_=>.some nofun) λ_=>.ne (λ_=>.bind λ_ h=>.some (g h)) λ_=>.some nofun;exact .bind λ_ _=>.eq (λ_=>.bind λ_ _=>.ne (λ_=>.bind λ_ h=>.some (g h)) λ_=>.some nofun) λ_=>.ne (λ_=>.bind λ_ h=>.some (g h)) λ_=>.some nofun;dsimp only at c;omega;subst q;obtain⟨A,B,z⟩:=Sq n c;exact⟨(jd h2).1,A,by rw[B],z⟩;dsimp only at c;omega;have:=wi j;dsimp only at c this;omega
 exact o _ e c
end
section
variable {B S:Int}
def sT(k y:J7):Prop:=Jv k=some true/\Jv y=some true/\y.2.2.2.2.2.1=k.2.2.2.2.2.1/\y.2.2.1.1=k.2.2.1.1/\y.2.2.1.2.1=k.2.2.1.2.1
theorem pf{k y:J7}(h:sT k y)(n:Int):eB (y.2.2.1,n)=eB (k.2.2.1,n):=by obtain⟨h1,h2,h3,e,g⟩:=h;have v1:=(AW h1).1;have v2:=(AW h2).1;unfold eB iV;dsimp only;rw[v1,v2,e,g]
theorem ui{k y:J7}(h:sT k y)(e:Int):mI (y,e)=mI (k,e):=by obtain⟨h1,h2,h3,g,j⟩:=h;unfold mI;dsimp only;rw[h1,h2,h3]
theorem JDn{k y:J7}(h:sT k y)(e:Int):pS (y,e)=pS (k,e):=by unfold pS;dsimp only;rw[ui h e];simp only[pf h]
theorem JI1{k y:J7}(h:sT k y)(x:Ju)(c:JP)(n:Int):zJ (y,x,c,n)=zJ (k,x,c,n):=by
 unfold zJ;dsimp only;refine sb (R:=λz g=>z.1=g.1/\z.2.1=y/\g.2.1=k/\z.2.2=g.2.2) ?_ ⟨rfl,rfl,rfl,rfl⟩;rintro⟨i,a,r⟩ ⟨E,v,r'⟩ ⟨D,C,A,B⟩;dsimp only at D C A B;subst D;subst C;subst A;subst B;unfold ux;dsimp only;by_cases hi:aQ i 0=true;rw[if_pos hi,if_pos hi];cases idx r.1.2.2.2.2.1 i with
 |none=>exact .inl ⟨rfl,rfl⟩
 |some j=>
  rw[JQ,JQ,pf h];cases eB (v.2.2.1,j)with
  |none=>exact .inl ⟨rfl,rfl⟩
  |some e=>
   rw[JQ,JQ];have w:SZ (fun(z g:sD)=>z.1=g.1/\z.2.1=a/\g.2.1=v/\z.2.2=g.2.2) (some (.inl (JJ .i64 i 1,a,r.1,r.2.1,r.2.2):(sD)⊕(DD))) (some (.inl (JJ .i64 i 1,v,r.1,r.2.1,r.2.2))):=.inr (.inr ⟨_,_,rfl,rfl,rfl,rfl,rfl,rfl⟩);by_cases c1:aH e.2 0=true;rw[if_pos c1,if_pos c1];by_cases o:aH e.1.2.2.2.2.2.2.1.1 r.2.1.1=true;rw[if_pos o,if_pos o];by_cases q:aH e.1.2.2.2.2.2.2.1.2.1 r.2.1.2=true;rw[if_pos q,if_pos q];exact .inr (.inl ⟨_,rfl,rfl⟩);rw[if_neg q,if_neg q];exact w;rw[if_neg o,if_neg o];exact w;rw[if_neg c1,if_neg c1];exact w
 rw[if_neg hi,if_neg hi];exact .inr (.inl ⟨_,rfl,rfl⟩)
theorem He{k y:J7}(h:sT k y)(e:Int)(c:JP):uA (y,e,c)=uA (k,e,c):=by unfold uA;dsimp only;rw[ui h e];simp only[JI1 h]
theorem VY{k:J7}{h:Int}{y:Ju×Int}(e:mI (k,h)=some y)(c:y.2=0):Jv k=some true:=by
 have g:Par (mI (k,h)) λy=>y.2=0->Jv k=some true:=by unfold mI;refine .bind λa j=>.not (λ_=>.some nofun) λc=>?_;subst c;exact λ_ _ _=>j
 exact g _ e c
theorem uh{x:TP}{y:eH}(e:gQ x=some y)(c:y.2.1=3): ¬InP x.1.2.2.2.1 x.2.2.2.2.2.2.2.2.1.1/\y.2.2.2.1=x.2.2.2.2.2.2.2.2.1.1:=by
 have j: ∀{e:Int} {k:J7} {r:eF} {Q:Prop},Jw e=some r->(k,r).2.1=3->Q:=fun{e k r Q} h c=>by have:=tJ h;dsimp only at c;omega
 have g:Par (gQ x) λy=>y.2.1=3-> ¬InP x.1.2.2.2.1 x.2.2.2.2.2.2.2.2.1.1/\y.2.2.2.1=x.2.2.2.2.2.2.2.2.1.1:=by unfold gQ;exact .bind λn h2=>.not (λc=>.some λ_=>⟨λh=>(by rw[(gm h2).2 h]at c;cases c),rfl⟩) λ_=>.bind λ_ _=>.bind λ_ _=>.ne (λ_=>.bind λ_ h=>.some (j h)) λ_=>.bind λ_ _=>.ne (λ_=>.bind λ_ h=>.some (j h)) λ_=>.eq (λ_=>.bind λ_ _=>.not (λ_=>.bind λ_ _=>.some nofun) λ_=>.some nofun) λ_=>.some nofun
 exact g _ e c
def HX(k:J7)(e p:Int):Prop:=Jv k=some true/\ ¬InP k.2.2.2.1 p/\ ∃y,pS (k,e)=some y/\p=y.1.2.2.2.2.2.2.1.1
theorem Kq{k:J7}{g:Int}{y:eH}(e:fY (k,g)=some y)(c:y.2.1=3):HX k g y.2.2.2.1:=by
 have j: ∀{e:Int} {k:J7} {r:eF} {Q:Prop},Jw e=some r->(k,r).2.1=3->Q:=fun{e k r Q} h c=>by have:=tJ h;dsimp only at c;omega
 have n:Par (fY (k,g)) λy=>y.2.1=3->HX k g y.2.2.2.1:=by
  unfold fY;refine .bind λB h2=>.ne (λ_=>.bind λ_ h=>.some (j h)) λw=>.eq (λ_=>.eq (λ_=>.bind λ_ _=>.ne (λ_=>.bind λ_ h=>.some (j h)) λ_=>.bind λ_ _=>.some nofun) λ_=>?_) λ_=>?_
  all_goals
   refine .bind λq v=>.not (λ_=>.bind λ_ h=>.some (j h)) λ_=>.bind λA x=>.some λc=>?_;obtain⟨z,o⟩:=uh x c;exact⟨VY h2 w,o▸z,q,v,o⟩
 exact n _ e c
def IJ(k:J7)(e:Int)(c:JP)(p:Int):Prop:=Jv k=some true/\ ¬InP k.2.2.2.1 p/\ ∃y,uA (k,e,c)=some y/\p=y.1.2.2.2.2.2.2.1.1
theorem Hz{k:J7}{g:Int}{l:JP}{y:eH}(e:lK (k,g,l)=some y)(c:y.2.1=3):IJ k g l y.2.2.2.1:=by
 have n: ∀{e:Int} {k:J7} {r:eF} {Q:Prop},Jw e=some r->(k,r).2.1=3->Q:=fun{e k r Q} h c=>by have:=tJ h;dsimp only at c;omega
 have j:Par (lK (k,g,l)) λy=>y.2.1=3->IJ k g l y.2.2.2.1:=by unfold lK;refine .bind λB h2=>.ne (λ_=>.bind λ_ h=>.some (n h)) λv=>.ne (λ_=>.bind λ_ h=>.some (n h)) λ_=>.bind λq x=>.not (λ_=>.some nofun) λ_=>.bind λA w=>.some λc=>?_;obtain⟨z,o⟩:=uh w c;exact⟨VY h2 v,o▸z,q,x,o⟩
 exact j _ e c
theorem r4{e:Int}{y:eF}(h:Jw e=some y):y.2.2.2.2=e:=by unfold Jw at h;injection h with h;subst h;rfl
theorem JBk{x:TP}{y:eH}(e:gQ x=some y)(c:y.2.1=5): ¬y.2.2.2.2.2=0:=by
 have j: ∀{e:Int} {k:J7} {r:eF},¬e=0->Jw e=some r->(k,r).2.1=5-> ¬(k,r).2.2.2.2.2=0:=fun{e k r} h0 h _=>by have:=r4 h;dsimp only;omega
 have g:Par (gQ x) λy=>y.2.1=5-> ¬y.2.2.2.2.2=0:=by unfold gQ;exact .bind λn h2=>.not (λc=>.some nofun) λ_=>.bind λ_ _=>.bind λ_ _=>.ne (λc=>.bind λ_ h=>.some (j c h)) λ_=>.bind λ_ _=>.ne (λc=>.bind λ_ h=>.some (j c h)) λ_=>.eq (λ_=>.bind λ_ _=>.not (λ_=>.bind λ_ _=>.some nofun) λ_=>.some nofun) λ_=>.some nofun
 exact g _ e c
theorem JD2{k:J7}{n:Int}{y:eH}(e:fY (k,n)=some y)(c:y.2.1=5): ¬y.2.2.2.2.2=0:=by
 have g: ∀{e:Int} {k:J7} {r:eF},¬e=0->Jw e=some r->(k,r).2.1=5-> ¬(k,r).2.2.2.2.2=0:=fun{e k r} h0 h _=>by have:=r4 h;dsimp only;omega
 have j:Par (fY (k,n)) λy=>y.2.1=5-> ¬y.2.2.2.2.2=0:=by
  unfold fY;refine .bind λz h2=>.ne (λc=>.bind λ_ h=>.some (g c h)) λq=>.eq (λ_=>.eq (λ_=>.bind λ_ _=>.ne (λc=>.bind λ_ h=>.some (g c h)) λ_=>.bind λ_ _=>.some nofun) λ_=>?_) λ_=>?_
  all_goals
   exact .bind λv x=>.not (λ_=>.bind λ_ h=>.some (g (by decide) h)) λ_=>.bind λw o=>.some λc=>JBk o c
 exact j _ e c
theorem K7{k:J7}{j:Int}{y:eH}(e:fY (k,j)=some y)(c: ¬y.2.1=5):Jv k=some true:=by
 have g:Par (fY (k,j)) λy=> ¬y.2.1=5->Jv k=some true:=by unfold fY;refine .bind λo h2=>.ne (λ_=>.bind λ_ h=>.some λc=>absurd (tJ h) c) λn=>λ_ _ _=>VY h2 n
 exact g _ e c
theorem Lc{k:J7}{j:Int}{l:JP}{y:eH}(e:lK (k,j,l)=some y)(c: ¬y.2.1=5):Jv k=some true:=by
 have g:Par (lK (k,j,l)) λy=> ¬y.2.1=5->Jv k=some true:=by unfold lK;refine .bind λo h2=>.ne (λ_=>.bind λ_ h=>.some λc=>absurd (tJ h) c) λn=>λ_ _ _=>VY h2 n
 exact g _ e c
def sS(e:Int)(k:J7)(p:Int):Prop:= ∃y,fY (k,e)=some y/\y.2.1=3/\y.2.2.2.1=p
def CY(e:Int)(l:JP)(k:J7)(p:Int):Prop:= ∃y,lK (k,e,l)=some y/\y.2.1=3/\y.2.2.2.1=p
theorem sS.want{g:Int}{k:J7}{p:Int}(h:sS g k p):HX k g p:=by obtain⟨y,e,c,d⟩:=h;exact d▸Kq e c
theorem CY.want{g:Int}{l:JP}{k:J7}{p:Int}(h:CY g l k p):IJ k g l p:=by obtain⟨y,e,c,d⟩:=h;exact d▸Hz e c
theorem fl{k y:J7}{p:Int}(W:J7->Int->Prop)(g: ∀{k p},W k p->Jv k=some true/\ ¬InP k.2.2.2.1 p)(same: ∀{p q},sT k y->W k p->W y q->q=p)(h:W k p)(r:eD k y)(hp:mX y.2.2.2.1 p)(hy:aB B S JS y.2.2.2.1)(hl:J0 y.2.2.1.2.1=J0 k.2.2.1.2.1)(z:BS B S 0 0:=by omega)(A:B<=9223372036854775807:=by omega): ∀q,¬W y q:=by
 intro q j;obtain⟨n,o⟩:=g j;obtain⟨v,w,m,e⟩:=r;have x:m=[]:=by rw[e]at hl;unfold J0 at hl;rw[eI]at hl;exact List.length_eq_zero_iff.1 oo
 subst x;rw[lV]at e;have ks:sT k y:=⟨(g h).1,n,v,w,e⟩;rw[same ks h j]at o;exact o (hp.inP (B:=B) (S:=S) (AW n).2.1 hy)
theorem Bj{n:Int}{k y:J7}{p q:Int}(ks:sT k y)(h:HX k n p)(g:HX y n q):q=p:=by obtain⟨_,_,a,o,e⟩:=h;obtain⟨_,_,b,j,f⟩:=g;rw[JDn ks,o]at j;injection j with j;subst j;rw[e,f]
theorem JLB{n:Int}{l:JP}{k y:J7}{p q:Int}(ks:sT k y)(h:IJ k n l p)(g:IJ y n l q):q=p:=by obtain⟨_,_,a,o,e⟩:=h;obtain⟨_,_,b,j,f⟩:=g;rw[He ks,o]at j;injection j with j;subst j;rw[e,f]
theorem LK{k:J7}(h:Jv k=some true):J0 k.2.2.1.2.1<=4096:=(gp (AW h).1).2.2
open Classical in
noncomputable def left(W:J7->Int->Prop)(k:J7):Int:=2*(4097-J0 k.2.2.1.2.1)+if∃p,W k p then 1 else 0
open Classical in
theorem Ed{W:J7->Int->Prop}{k y:J7}(h:J0 y.2.2.1.2.1=J0 k.2.2.1.2.1+1)(hk: ¬∃p,W k p):left W y<left W k:=by have e:(if∃p,W k p then(1:Int)else 0)=0:=if_neg hk;unfold left;rw[e];split<;>omega
open Classical in
theorem fe{W:J7->Int->Prop}{k y:J7}{p:Int}(hk:W k p)(h:J0 k.2.2.1.2.1<=J0 y.2.2.1.2.1)(hy:J0 y.2.2.1.2.1=J0 k.2.2.1.2.1-> ∀q,¬W y q):left W y<left W k:=by
 have j:(if∃p,W k p then(1:Int)else 0)=1:=if_pos ⟨p,hk⟩;unfold left;rw[j];by_cases e:J0 y.2.2.1.2.1=J0 k.2.2.1.2.1;have n:(if∃p,W y p then(1:Int)else 0)=0:=if_neg fun⟨q,g⟩=>hy e q g;rw[n];omega;split<;>omega
open Classical in
theorem KX{W:J7->Int->Prop}{k:J7}(h:J0 k.2.2.1.2.1<=4097):0<=left W k:=by unfold left;split<;>omega
theorem Zy{y:eF}(g:0<=B)(e:0<=S)(h:aB 0 0 dP y):aB B S dP y:=h.u
abbrev sZ:Jz:=((0,0,(0,[],0),(0,[],0),([],[]),[],[],[]),[],0,[],false,[])
theorem Wo{X:eL}(h:aB B S mU X)(E:0<=B:=by omega)(C:0<=S:=by omega)(P:16384<=B:=by omega)(O:1073741824<=S:=by omega)(V:B<=1000000:=by omega)(U:S<=1000000000000:=by omega):Tot (pV X) λy=>aB B S mU y/\(y.2=0->J0 X.1.1.2.2.1.2.1<=J0 y.1.1.2.2.1.2.1):=by
 obtain⟨s,k⟩:=X;obtain⟨x,o⟩:=h;dsimp only at x o⊢;have z:aB B S Jn sZ:=bZ E C Jn;unfold pV;dsimp only;refine .bind (kM x.1) λT h2=>.not (λ_=>.some ⟨⟨z,aG 15⟩,nofun⟩) λ_=>.bind (rJ (X:=(s.1.2.2.2.2.2.1,k)) ⟨x.1.2.2.2.2.2.1,o⟩) λQ _=>.lt (λ_=>.some ⟨⟨z,aG 16⟩,nofun⟩) λ_=>Jq (τ:=Jz) (λq=>(k,q,sZ)) (λq=>aB B S Jn q/\J0 s.1.2.2.1.2.1<=J0 q.1.2.2.1.2.1) (λq=>left (sS k) q.1) ?_ s rfl ⟨x,aZ _⟩;rintro q ⟨r,F⟩;unfold nc;dsimp only;refine .bind (xo (X:=(q,k)) ⟨r,o⟩) λR _=>.ite (λ_=>?_) λ_=>.some ⟨⟨r,aC⟩,λ_=>F⟩;refine .bind ((us (X:=(q.1,k)) ⟨r.1,o⟩).eqn) λn j=>.eq (λN=>.some ⟨⟨z,j.1.1.g⟩,λc=>absurd c (JD2 j.2 N)⟩) λD=>.eq (λc=>?_) λH=>?_;have w:sS k q.1 n.2.2.2.1:=⟨n,j.2,c,rfl⟩;refine .bind ((MN (X:=(q,n.2.2.2.1)) ⟨r,j.1.1.d.1⟩).eqn) λI v=>.ne (λK=>.some ⟨⟨z,v.1.1.2⟩,λc=>absurd c K⟩) λA=>?_;obtain⟨J,M⟩:=UV (B:=B) (S:=S) r.1.2.2.2.1 v.2 A;have G:=v.1.2 A;refine .some ⟨I.1,rfl,⟨v.1.1.1,oG F G⟩,fe w G λe=>fl (B:=B) (S:=S) (sS k) (λh=>⟨h.want.1,h.want.2.1⟩) (λks h g=>Bj ks h.want g.want) w J M v.1.1.1.1.d.1 e,KX ?_⟩;have:=LK w.want.1;omega;have h1:n.2.1=1/\J0 n.1.2.2.1.2.1=J0 q.1.2.2.1.2.1+1:=(by rcases j.1.2 with h|h|h;exact h;exact absurd h H;exact absurd h D);have L: ¬∃p,sS k q.1 p:=fun⟨p,y,e,c,_⟩=>by rw[j.2]at e;injection e with e;subst e;exact H c
 refine .some ⟨(n.1,q.2),rfl,⟨⟨j.1.1.1,r.2⟩,?_⟩,Ed h1.2 L,KX ?_⟩;show J0 s.1.2.2.1.2.1<=J0 n.1.2.2.1.2.1;omega;have:=LK (K7 j.2 D);omega
end
section
variable {B S:Int}
open Classical in
theorem JCv{X:TW}(h:aB B S (.pr Jn GB) X)(T:BH B S:=by omega)(Y:B<=1000000:=by omega)(W:S<=1000000000000:=by omega):Tot (zQ X) λy=>aB B S UN y/\J0 X.1.1.2.2.1.2.1<=J0 y.1.1.2.2.1.2.1:=by
 obtain⟨s,n,a⟩:=X;obtain⟨J,k,K⟩:=h;unfold zQ;dsimp only at J k K⊢;refine Jq (τ:=Jz) (λq=>(n,q,a,((0,0,(0,[],0),(0,[],0),([],[]),[],[],[]),[],0,[],false,[]),0,0,0,(false,[]),0)) (λq=>aB B S Jn q/\J0 s.1.2.2.1.2.1<=J0 q.1.2.2.1.2.1) (λq=>if mX q.1.2.2.2.1 a.2.1 then 0 else 1) ?_ s rfl ⟨J,aZ _⟩;rintro q ⟨C,N⟩;unfold g8;dsimp only;refine .bind ((JCZ (X:=(q.1,n,a)) ⟨C.1,k,K⟩).eqn) λg h3=>?_;have v:aB B S Jn (g.1,q.2):=⟨h3.1.1.1,C.2⟩;have D:J0 s.1.2.2.1.2.1<=J0 g.1.2.2.1.2.1:=oG N h3.1.2;have fin: ∀{y:eF},aB B S dP y->aB B S UN ((g.1,q.2),y)/\J0 s.1.2.2.1.2.1<=J0 ((g.1,q.2),y).1.1.2.2.1.2.1:=λQ=>⟨⟨v,Q⟩,D⟩;refine .eq (λc=>?_) λ_=>?_;obtain⟨M,R,Z,L⟩:=JCG h3.2 c;refine .bind ((MN (X:=((g.1,q.2),g.2.2.2.1)) ⟨v,h3.1.1.d.1⟩).eqn) λI x=>.ne (λ_=>.bind (eS (B:=B) (S:=S) x.1.1.2) λV O=>.some (fin O.1.u)) λF=>?_;obtain⟨U,w⟩:=UV (B:=B) (S:=S) v.1.2.2.2.1 x.2 F;rw[L]at w;have w:mX I.1.1.2.2.2.1 a.2.1:=w;have G: ¬mX q.1.2.2.2.1 a.2.1:=λP=>R (P.inP (B:=B) (S:=S) (AW M).2.1 C.1.2.2.2.1);refine .some ⟨I.1,rfl,⟨x.1.1.1,oG D (x.1.2 F)⟩,?_,?_⟩;rw[if_pos w,if_neg G];decide;rw[if_neg G];decide
 ·have rb:Tot ((uG ((g.1,q.2),n)).bind λA=>if A=true then(pV ((g.1,q.2),n)).bind λj=>if aM j.2 0=true then(Jw j.2).bind λz=>some (Sum.inr ((g.1,q.2),z))else some (Sum.inr (j.1,g.2))else some (Sum.inr ((g.1,q.2),g.2))) fun(r:(lR)⊕(iL))=> ∃y,r=.inr y/\aB B S UN y/\J0 s.1.2.2.1.2.1<=J0 y.1.1.2.2.1.2.1:=by
   refine .bind (xo (X:=((g.1,q.2),n)) ⟨v,k⟩) λA _=>.ite (λ_=>.bind (Wo (X:=((g.1,q.2),n)) ⟨v,k⟩) λj o=>.ne (λ_=>.bind (eS (B:=B) (S:=S) o.1.2) λz E=>.some ⟨_,rfl,fin E.1.u⟩) λH=>.some ⟨_,rfl,⟨o.1.1,h3.1.1.2⟩,oG D (o.2 H)⟩) λ_=>.some ⟨_,rfl,fin h3.1.1.2⟩
  refine .eqf (λ_=>.eq (λ_=>.eqf (λ_=>.eq (λ_=>?_) λ_=>.some (fin h3.1.1.2)) λ_=>?_) λ_=>.some (fin h3.1.1.2)) λ_=>?_
  all_goals
   exact rb.mono λr ⟨y,e,h⟩=>by subst e;exact h
end
theorem I9{B S:Int}{X:DH}(h:aB B S lc X)(v:BG B S:=by omega):Tot (lK X) λy=>aB B S nZ y/\((y.2.1=1/\(J0 y.1.2.2.1.2.1=J0 X.1.2.2.1.2.1+1\/y.2.2.1=0))\/y.2.1=3\/y.2.1=5):=by unfold lK;exact .bind (WC (B:=B) (S:=S) ⟨h.1,h.2.1⟩) λC h1=>.ne (λq=>.bind (eS h1.2) λw r=>.some ⟨⟨h.1,r.1.u⟩,om⟩) λq=>have:=J2.1 h1.1.2.1;.ne (λk=>.bind (eS (B:=0) (S:=0) (aG 15)) λA j=>.some ⟨⟨h.1,j.1.u⟩,om⟩) λk=>.bind (xj (B:=B) (S:=S) (h)) λx n=>.not (λo=>have:J0 X.1.2.2.1.2.1<=B:=h.1.c.1.2.1.1;.some ⟨⟨h.1,aG 1,aC,aC,⟨trivial,J9⟩,aC⟩,om⟩) λo=>.bind (g6 (B:=B) (S:=S) ⟨h.1,h1.1.u,n.1.u⟩) λg e=>have:=J2.1 e.1.2.z.1;have:J0 g.1.2.2.1.2.1=_:=JE e.1.1.c.1.2.1;have:J0 X.1.2.2.1.2.1=_:=JE h.1.c.1.2.1;have:(g.2.1=1/\J0 g.1.2.2.1.2.1=J0 X.1.2.2.1.2.1+1)\/g.2.1=3\/g.2.1=5:=e.2;.some ⟨⟨e.1.1,e.1.2.z.u⟩,om⟩
section
variable {B S:Int}
theorem Mc{X:SQ}(h:aB B S (.pr Jn Jf) X)(Q:BH B S:=by omega)(V:B<=1000000:=by omega)(T:S<=1000000000000:=by omega):Tot (zX X) λy=>aB B S TI y/\J0 X.1.1.2.2.1.2.1<=J0 y.1.1.2.2.1.2.1/\(¬y.2.1=0->J0 X.1.1.2.2.1.2.1+1<=J0 y.1.1.2.2.1.2.1/\J0 X.1.1.2.2.1.2.1<=4096):=by
 obtain⟨s,r,l⟩:=X;obtain⟨J,x,H⟩:=h;dsimp only at J x H⊢;unfold zX;dsimp only;refine Jq (τ:=Int×Jz) (λq=>(r,q.1,q.2,l,sZ)) (λq=>aB B S Jn q.2/\0<=q.1/\q.1+J0 s.1.2.2.1.2.1<=J0 q.2.1.2.2.1.2.1/\(¬q.1=0->J0 s.1.2.2.1.2.1<=4096)) (λq=>left (CY r l) q.2.1) ?_ (0,s) rfl ⟨J,aZ _,by dsimp only;omega,λc=>absurd rfl c⟩;rintro⟨n,q⟩ ⟨o,G,O,C⟩;dsimp only at o G O C;unfold ij;dsimp only;have:=Jm n 1;have:J0 q.1.2.2.1.2.1<=B:=o.1.2.2.1.2.1.1;have:=Jh (l:=s.1.2.2.1.2.1);have fn:aB B S zI n:=J2.2 oo;have fin: ∀{e:Int},aB B S zI e->aB B S TI (q,n,e)/\J0 s.1.2.2.1.2.1<=J0 ((q,n,e):qA).1.1.2.2.1.2.1/\(¬((q,n,e):qA).2.1=0->J0 s.1.2.2.1.2.1+1<=J0 ((q,n,e):qA).1.1.2.2.1.2.1/\J0 s.1.2.2.1.2.1<=4096):=fun{e} P=>⟨⟨o,fn,P⟩,by dsimp only;omega,λc=>by dsimp only at c⊢;have:=C c;omega⟩;refine .bind ((I9 (X:=(q.1,r,l)) ⟨o.1,x,H⟩).eqn) λj k=>.eq (λU=>.some (fin k.1.1.g)) λF=>.eq (λc=>?_) λI=>.eq (λc=>.some (fin aC)) λL=>?_;have w:CY r l q.1 j.2.2.2.1:=⟨j,k.2,c,rfl⟩;refine .bind ((MN (X:=(q,j.2.2.2.1)) ⟨o,k.1.1.d.1⟩).eqn) λD v=>.ne (λR=>.some (fin v.1.1.2)) λE=>?_;obtain⟨K,N⟩:=UV (B:=B) (S:=S) o.1.2.2.2.1 v.2 E;have z:=v.1.2 E;dsimp only at z;refine .some ⟨(n,D.1),rfl,⟨v.1.1.1,G,by show n+_<=J0 D.1.1.2.2.1.2.1;omega,C⟩,fe w z λe=>fl (B:=B) (S:=S) (CY r l) (λh=>⟨h.want.1,h.want.2.1⟩) (λks h g=>JLB ks h.want g.want) w K N v.1.1.1.1.d.1 e,KX ?_⟩;have:=LK w.want.1;show J0 q.1.2.2.1.2.1<=4097;omega;have h1:j.2.1=1/\J0 j.1.2.2.1.2.1=J0 q.1.2.2.1.2.1+1:=(by rcases k.1.2 with⟨h,A|A⟩|h|h;exact⟨h,A⟩;exact absurd A L;exact absurd h I;exact absurd h F);have M: ¬∃p,CY r l q.1 p:=fun⟨p,y,e,c,_⟩=>by rw[k.2]at e;injection e with e;subst e;exact I c
 have W:=LK (Lc k.2 F);refine .some ⟨(J1 .i64 n 1,(j.1,q.2)),rfl,⟨⟨k.1.1.1,o.2⟩,by show 0<=J1 .i64 n 1;omega,by show J1 .i64 n 1+_<=J0 j.1.2.2.1.2.1;omega,λ_=>by omega⟩,Ed h1.2 M,KX (by show J0 q.1.2.2.1.2.1<=4097;omega)⟩
theorem JBQ{X:TW}(h:aB B S (.pr Jn GB) X)(o:0<=B:=by omega)(n:0<=S:=by omega)(H:16384<=B:=by omega)(G:1073741824<=S:=by omega)(K:B<=1000000:=by omega)(J:S<=1000000000000:=by omega):Tot (zG X) λy=>aB B S UN y:=by obtain⟨s,j,a⟩:=X;obtain⟨w,e,x⟩:=h;dsimp only at w e x⊢;unfold zG;dsimp only;refine Jq (τ:=Jz) (λq=>(j,q,a,sZ,0,0,0,(false,[]),0)) (λq=>aB B S Jn q) (λq=>4097-J0 q.1.2.2.1.2.1) ?_ s rfl w;rintro q E;unfold g0;dsimp only;refine .bind (JCv (X:=(q,j,a)) ⟨E,e,x⟩) λk h3=>.ne (λ_=>.some h3.1) λ_=>.bind (Ve (X:=(k.1.1,j)) ⟨h3.1.1.1,e⟩) λr v=>.not (λ_=>.some h3.1) λ_=>.bind (Mc (X:=(k.1,r.1,r.2.1)) ⟨h3.1.1,v.1,v.2.1⟩) λz g=>.ne (λ_=>.bind (eS (B:=B) (S:=S) g.1.c) λI A=>.some ⟨g.1.1,Zy o n A.1⟩) λ_=>.eq (λ_=>.some ⟨g.1.1,h3.1.2⟩) λc=>?_;obtain⟨F,D⟩:=g.c c;have C:=h3.2;dsimp only at F D C;exact .some ⟨z.1,rfl,g.1.1,oo,oo⟩
theorem Kf{X:Jz}(h:aB B S Jn X)(G:0<=B:=by omega)(F:0<=S:=by omega)(R:16384<=B:=by omega)(Q:1073741824<=S:=by omega)(Z:B<=1000000:=by omega)(W:S<=1000000000000:=by omega):Tot (AB X) λy=>aB B S (.pr Jn (.pr .b zI)) y:=by
 have C:aB B S Jn sZ:=bZ G F Jn;unfold AB;refine .bind (kM h.1) λU _=>.not (λ_=>.some ⟨C,trivial,aG 15⟩) λ_=>.gt (λc=>?_) λ_=>?_;exact .bind (Jl h.1.i (aZ _) c) λK h3=>.bind (MN (X:=(X,K.1)) ⟨h,h3.1.1⟩) λV H=>.some ⟨H.1.1,trivial,H.1.2⟩;refine .bind (Lx h.1) λj O=>.eq (λ_=>.some ⟨h,trivial,aC⟩) λM=>?_;have o:=Jh (l:=j);have z:0<J0 j:=by omega
 have x:(0:Int).toNat<j.length:=by unfold J0 at z;omega
 have E:idx j 0=some j[(0:Int).toNat]:=by unfold idx;rw[if_pos (aZ _),zQ9 x]
 have I:=O.2 _ (kU x);generalize j[(0:Int).toNat]=n at E I;refine Jq (τ:=Jz) (λq=>(j,q,sZ)) (λq=>aB B S Jn q) (λq=>left (sS n) q.1) ?_ X rfl h;rintro q v;unfold ja;dsimp only;rw[E];show Tot ((fY (q.1,n)).bind _) _;refine .bind ((us (X:=(q.1,n)) ⟨v.1,I⟩).eqn) λA r=>.eq (λY=>.some ⟨C,trivial,r.1.1.g⟩) λM=>.ne (λ_=>.some ⟨⟨r.1.1.1,v.2⟩,trivial,aC⟩) λc=>?_;have w:sS n q.1 A.2.2.2.1:=⟨A,r.2,c,rfl⟩;refine .bind ((MN (X:=(q,A.2.2.2.1)) ⟨v,r.1.1.d.1⟩).eqn) λJ k=>.ne (λT=>.some ⟨C,trivial,k.1.1.2⟩) λD=>?_;obtain⟨L,N⟩:=UV (B:=B) (S:=S) v.1.2.2.2.1 k.2 D;have P:=k.1.2 D;refine .some ⟨J.1,rfl,k.1.1.1,fe w P λe=>fl (B:=B) (S:=S) (sS n) (λh=>⟨h.want.1,h.want.2.1⟩) (λks h g=>Bj ks h.want g.want) w L N k.1.1.1.1.d.1 e,KX ?_⟩;have:=LK w.want.1;show J0 q.1.2.2.1.2.1<=4097;omega
end
theorem Y1{B S:Int}{X:BW}(h:aB B S (.pr fF GC) X)(p0:J0 X.2.2.2.2.2.2.2.2.2.2.2.2.2.2.2.2.2.2.2.2.1<=16000)(V:J0 X.2.2.2.2.2.2.2.2.2.2.2.2.2.2.2.2.2.2.2.2.2<=16000)(P:BH B S:=by omega)(Z:B<=1000000:=by omega)(Y:S<=1000000000000:=by omega):Tot (BL X) λy=>aB B S UK y/\(J0 y.2.2.2.2.2.2.2.2.2.2.2.2.2.2.2.2.2.2.2.2.1<=J0 X.2.2.2.2.2.2.2.2.2.2.2.2.2.2.2.2.2.2.2.2.1+1/\J0 y.2.2.2.2.2.2.2.2.2.2.2.2.2.2.2.2.2.2.2.2.2<=J0 X.2.2.2.2.2.2.2.2.2.2.2.2.2.2.2.2.2.2.2.2.2+1):=by unfold BL;exact have:J0 X.2.2.2.2.2.2.2.2.2.2.2.2.2.2.2.2.2.2.2.2.1<=B:=h.k.k.c.1.1;have:=Jh (l:=X.2.2.2.2.2.2.2.2.2.2.2.2.2.2.2.2.2.2.2.2.1);have:=Jh (l:=X.2.2.2.2.2.2.2.2.2.2.2.2.2.2.2.2.2.2.2.2.2);have:J0 X.2.2.2.2.2.2.2.2.2.2.2.2.2.2.2.2.2.2.2.2.2=_:=JE h.k.k.d;have o:aB 16000 S (.l zI) X.2.2.2.2.2.2.2.2.2.2.2.2.2.2.2.2.2.2.2.2.1:=⟨(by omega:J0 X.2.2.2.2.2.2.2.2.2.2.2.2.2.2.2.2.2.2.2.2.1<=16000),λx w=>h.k.k.c.1.2 x w⟩;have q:aB 16000 S (.l eG) X.2.2.2.2.2.2.2.2.2.2.2.2.2.2.2.2.2.2.2.2.2:=⟨(by omega:J0 X.2.2.2.2.2.2.2.2.2.2.2.2.2.2.2.2.2.2.2.2.2<=16000),λx w=>h.k.k.e x w⟩;have:=J2.1 h.1.z.2.1;.ltf (λK=>.gtf (λH=>have:=bC X.1.2.1 1;.bind (fC (l:=X.2.2.2.2.2.2.2.2.2.2.2.2.2.2.2.2.2.2.2.2.1)) λ_ _=>.bind (jF o) λR M=>.eq (λD=>.bind (eS (B:=0) (S:=0) (aG 16)) λW F=>.some ⟨⟨F.1.u,h.2.1,h.c.1,h.d.1,h.e.1,h.g.1,h.h.1,h.i.1,h.j.1,h.k.1,h.k.2.1,h.k.c.1,h.k.d.1,h.k.e.1,h.k.g.1,h.k.h.1,h.k.i.1,trivial,h.k.k.1,trivial,o.u,q.u⟩,om⟩) λD=>.bind (fC (l:=X.2.2.2.2.2.2.2.2.2.2.2.2.2.2.2.2.2.2.2.2.1)) λ_ _=>.bind (jF o) λU v=>.bind (JBQ (B:=B) (S:=S) ⟨⟨⟨h.2.1,h.c.1,⟨h.d.1,h.e.1,h.g.1⟩,⟨h.h.1,h.i.1,h.j.1⟩,⟨h.k.1,h.k.2.1⟩,h.k.c.1,h.k.d.1,h.k.e.1⟩,h.k.g.1,h.k.h.1,h.k.i.1,trivial,h.k.k.1⟩,v.1,h.1.z.2.2.2.2.2.u⟩) λQ n=>.eq (λJ=>.some ⟨⟨n.2.z.u,h.2.1,h.c.1,h.d.1,h.e.1,h.g.1,h.h.1,h.i.1,h.j.1,h.k.1,h.k.2.1,h.k.c.1,h.k.d.1,h.k.e.1,h.k.g.1,h.k.h.1,h.k.i.1,trivial,h.k.k.1,trivial,o.u,q.u⟩,om⟩) λJ=>.eq (λI=>have:=J2.1 h.1.z.2.2.2.2.2.1;.eq (λC=>.bind (LW n.1.1.c.1) λT E=>.bind (bT (B:=16001) (Bl:=16000) (Bm:=1) (S:=S) (J0 X.2.2.2.2.2.2.2.2.2.2.2.2.2.2.2.2.2.2.2.2.2) 1 q (cF (B:=1) (S:=S) (t:=eG) oo ⟨v.1,h.1.z.2.2.2.2.2.2.1,h.1.z.2.2.2.2.2.2.2.1,E,n.2.z.2.2.2.1.u⟩)) λL r=>have:J0 L=_:=JE r.1;.some ⟨⟨n.2.z.u,n.1.1.1,n.1.1.2.1,n.1.1.c.1.1,n.1.1.c.1.2.1,n.1.1.c.1.c,n.1.1.d.1.1,n.1.1.d.1.2.1,n.1.1.d.1.c,n.1.1.e.1.1,n.1.1.e.1.2,n.1.1.g.1,n.1.1.h.1,n.1.1.i,n.1.2.1,n.1.c.1,n.1.d.1,trivial,n.1.g,trivial,o.u,r.1.u⟩,om⟩) λC=>.some ⟨⟨n.2.z.u,n.1.1.1,n.1.1.2.1,n.1.1.c.1.1,n.1.1.c.1.2.1,n.1.1.c.1.c,n.1.1.d.1.1,n.1.1.d.1.2.1,n.1.1.d.1.c,n.1.1.e.1.1,n.1.1.e.1.2,n.1.1.g.1,n.1.1.h.1,n.1.1.i,n.1.2.1,n.1.c.1,n.1.d.1,trivial,n.1.g,trivial,o.u,q.u⟩,om⟩) λI=>.some ⟨⟨n.2.z.u,n.1.1.1,n.1.1.2.1,n.1.1.c.1.1,n.1.1.c.1.2.1,n.1.1.c.1.c,n.1.1.d.1.1,n.1.1.d.1.2.1,n.1.1.d.1.c,n.1.1.e.1.1,n.1.1.e.1.2,n.1.1.g.1,n.1.1.h.1,n.1.1.i,n.1.2.1,n.1.c.1,n.1.d.1,trivial,n.1.g,trivial,o.u,q.u⟩,om⟩) λH=>.bind (eS (B:=0) (S:=0) (aG 16)) λN G=>.some ⟨⟨G.1.u,h.2.1,h.c.1,h.d.1,h.e.1,h.g.1,h.h.1,h.i.1,h.j.1,h.k.1,h.k.2.1,h.k.c.1,h.k.d.1,h.k.e.1,h.k.g.1,h.k.h.1,h.k.i.1,trivial,h.k.k.1,trivial,o.u,q.u⟩,om⟩) λK=>.bind (eS (B:=0) (S:=0) (aG 16)) λO A=>.some ⟨⟨A.1.u,h.2.1,h.c.1,h.d.1,h.e.1,h.g.1,h.h.1,h.i.1,h.j.1,h.k.1,h.k.2.1,h.k.c.1,h.k.d.1,h.k.e.1,h.k.g.1,h.k.h.1,h.k.i.1,trivial,h.k.k.1,trivial,o.u,q.u⟩,om⟩
theorem vy{B S:Int}{X:List UInt8}(h:aB B S .s X)(w:BS B S 0 0:=by omega)(C:S<=4611686018427387887:=by omega):Tot (wT X) λy=>aB 0 (S+16) .s y:=by unfold wT;exact have s0:aB 0 S .s X:=h;have:=sF (z:=X) s0;.gt (λc1=>.some J9) λc1=>.bind (cT (B:=0) (S:=0) ⟨J9,jR s0 oo,aG 4⟩) λn q=>have r:aB 0 8 .s n:=q.1.u;have:=sF (z:=n) r;.bind (gJ) λk A=>have e:aB 0 (S+8) .s k:=(by omega:J0 k<=(S+8));.bind (RU e) λx v=>.bind (cT (B:=0) (S:=(S+8)) ⟨e,sX,aG 4⟩) λo g=>have j:aB 0 (S+16) .s o:=g.1.u;.some j
theorem ud{B S:Int}{X:(List UInt8)×dG}(h:aB B S (.pr .s Jr) X)(o:BS B S 0 0:=by omega)(q:S<=2305843009213693948:=by omega):Tot (wO X) λy=>aB 0 (2*S+8) .s y:=by unfold wO;exact have s0:aB 0 S (.pr .s Jr) X:=h;.not (λc1=>.bind (cT (B:=0) (S:=S) ⟨s0.1,aG 255,aG 1⟩) λr h2=>.some h2.1.u) λc1=>.bind (cT (B:=0) (S:=S) ⟨s0.1,jR s0.2.2 oo,aG 1⟩) λj k=>have:J0 j<=(S+8):=k.1;have:J0 X.2.2<=S:=s0.2.2;.bind (gJ) λe n=>have g:aB 0 (2*S+8) .s e:=(by omega:J0 e<=(2*S+8));.some g
theorem S7{B S:Int}{X:J5}(h:aB B S J8 X)(a8:BS B S 0 0:=by omega):Tot (AL X) λy=>aB 0 40992 kQ y:=by unfold AL;exact have s0:aB 0 S J8 X:=h;.bind ((xD (B:=0) (S:=S) (X:=X) s0).eqn) λy2 h1=>.not (λH=>.some ⟨J9,aG 12⟩) λH=>have v3:=rU (x:=X) s0 h1.2 H;have:=Jh (l:=X.2.2.2.2.2.2.2);have j:aB 0 8192 J8 X:=v3.2;.bind (cT (B:=0) (S:=0) ⟨J9,j.1,aG 8⟩) λy3 r=>have J:aB 0 8 .s y3:=r.1.u;.bind (cT (B:=0) (S:=8) ⟨J,j.2.1,aG 1⟩) λy4 L=>have A:aB 0 16 .s y4:=L.1.u;.bind (cT (B:=0) (S:=16) ⟨A,j.c.1,aG 4⟩) λy5 I=>have F:aB 0 24 .s y5:=I.1.u;.bind (cT (B:=0) (S:=24) ⟨F,j.d.1,aG 8⟩) λy6 P=>have q:aB 0 32 .s y6:=P.1.u;.bind (cT (B:=0) (S:=32) ⟨q,j.e.1,aG 8⟩) λZ M=>have D:aB 0 40 .s Z:=M.1.u;.bind (cT (B:=0) (S:=40) ⟨D,j.g.1,aG 8⟩) λy8 U=>have v:aB 0 48 .s y8:=U.1.u;.bind (cT (B:=0) (S:=48) ⟨v,j.h.1.1,aG 4⟩) λy9 R=>have Q:aB 0 56 .s y9:=R.1.u;.bind (cT (B:=0) (S:=56) ⟨Q,j.h.1.2.1,aG 1⟩) λw V=>have K:aB 0 64 .s w:=V.1.u;.bind (ud (B:=0) (S:=8192) ⟨K.u,j.h.1.c.1⟩) λY E=>have o:aB 0 16392 .s Y:=E.u;.bind (ud (B:=0) (S:=16392) ⟨o,j.h.1.d.u⟩) λN C=>have T:aB 0 32792 .s N:=C.u;.bind (cT (B:=0) (S:=32792) ⟨T,jR j.i oo,aG 4⟩) λk G=>have W:aB 0 32800 .s k:=G.1.u;have:=sF (z:=k) W;.bind (gJ) λn a7=>have O:aB 0 40992 .s n:=(by omega:J0 n<=40992);.some ⟨O,aC⟩
theorem vp{B S:Int}{X:J5}(h:aB B S J8 X)(g:BS B S 0 0:=by omega):Tot (rQ X) λy=>aB 0 41008 .s y:=by unfold rQ;exact .bind (S7 (B:=0) (S:=S) h.z) λj h1=>.bind (vy h1.1) λe h2=>have h3:aB 0 41008 .s e:=h2.u;.some h3
theorem H6{B S X:Int}(h:aB B S zI X)(n:BS B S 0 0:=by omega):Tot (zS X) λy=>aB 0 28 .s y:=by unfold zS;exact .bind (cT (B:=0) (S:=4) ⟨OQ 4 rfl oo,h,aG 8⟩) λk h1=>have h2:aB 0 12 .s k:=h1.1.u;.bind (vy h2) λg e=>have j:aB 0 28 .s g:=e.u;.some j
theorem VE{B S:Int}{X:gW}(h:aB B S nY X)(a2:BC B S 0 0:=by omega):Tot (mM X) λy=>aB 0 335937564 .s y:=by unfold mM;exact .bind ((mL h.1).eqn) λy2 h1=>.not (λJ=>.some J9) λJ=>have T:=mH h.1 h1.2 J;have:=Jh (l:=X.1.2.1);have:J0 X.1.2.1=_:=JE h.1.2.1;have k:aB 4096 8192 Jy X.1:=T.2;.bind (H6 k.1) λC w=>have:=sF (z:=C) w;Jq (τ:=(List UInt8)×(List UInt8)×Int) (λq=>(X.2,q.1,q.2.1,q.2.2,X.1)) (λq=>(aB 0 0 zI q.2.2/\0<=q.2.2/\(q.2.2<=J0 X.1.2.1\/q.2.2<=0))/\(aB 0 167968796 .s q.1/\J0 q.1<=41008*q.2.2+J0 C)/\(aB 0 167968768 .s q.2.1/\J0 q.2.1<=41008*q.2.2+0)) (λq=>J0 X.1.2.1-q.2.2) (by rintro⟨j,e,g⟩ A;dsimp only at A;obtain⟨⟨L,Z,W⟩,⟨r,a1⟩,n,V⟩:=A;unfold mz;(try dsimp only);exact have:=J2.1 L;.lt (λM=>.bind (Jl k.2.1) λy5 a4=>.le (λN=>.bind (Jl k.2.1) λy6 P=>.bind (vp (B:=0) (S:=8192) P.1.z) λR G=>have:=sF (z:=j) r;have:=sF (z:=R) G;.bind (gJ) λD Y=>have I:aB 0 167968796 .s D:=(by omega:J0 D<=167968796);have:=Jm g 1;.some ⟨(D,e,J1 .i64 g 1),rfl,⟨⟨Je,om,om⟩,⟨I,om⟩,n,om⟩,om,om⟩) λN=>.bind (Jl k.2.1) λy9 F=>.bind (vp (B:=0) (S:=8192) F.1.z) λE O=>have:=sF (z:=e) n;have:=sF (z:=E) O;.bind (gJ) λo a0=>have K:aB 0 167968768 .s o:=(by omega:J0 o<=167968768);have:=Jm g 1;.some ⟨(j,o,J1 .i64 g 1),rfl,⟨⟨Je,om,om⟩,⟨r,om⟩,K,om⟩,om,om⟩) λM=>.inr (have:=tD X.2 0;have:=sF (z:=e) n;have:=YF (cP X.2 0) (J0 e);.bind (vS n) λx Q=>have U:aB 0 167968768 .s x:=Q.1;have:=sF (z:=j) r;have:=Jh (l:=x);.bind (gJ) λv a3=>have H:aB 0 335937564 .s v:=(by omega:J0 v<=335937564);.some H)) (C,[],0) rfl (have:J0 ([]:List UInt8)=0:=rfl;⟨⟨aC,om,om⟩,⟨w.u,om⟩,J9,om⟩)
theorem Pd{B S:Int}{X:SQ}(h:aB B S (.pr Jn Jf) X)(G:BG B S:=by omega):Tot (AS X) λy=>aB B S (.pr JZ .s) y:=by unfold AS;exact .bind ((zR (B:=B) (S:=S) (X:=(X.1.1.2.2.2.1,X.2.2.1)) ⟨h.1.1.d.1,h.c.1⟩).eqn) λx h1=>have:J0 X.1.1.2.2.2.1.2.1=_:=JE h.1.1.d.1.2.1;have: -1<=x/\x<J0 X.1.1.2.2.2.1.2.1:=h1.1.2;.ge (λC=>.bind (Jl h.1.1.d.1.2.1) λI M=>.ite (λA=>.bind (Jl h.1.1.d.1.2.1) λO j=>.bind (ik (B:=0) (S:=S) j.1.z.1) λK o=>.bind (Jl h.1.1.d.1.2.1) λL k=>.bind (UX (B:=B) (S:=S) ⟨h.1.1,k.1.z.1.2.1⟩) λH e=>.bind (I5 (B:=B) (S:=S) ⟨h.1.2,h.c.1,o.1.u,h.d⟩) λJ q=>.eq (λr=>.bind (VE (B:=B) (S:=S) ⟨e.1.c.1,h.2.1⟩) λN v=>.some ⟨q.1.u,v.u⟩) λr=>.bind (VE (B:=B) (S:=S) ⟨e.1.c.1,h.2.1⟩) λD g=>.some ⟨h.1.2,g.u⟩) λA=>.bind (VE (B:=B) (S:=S) ⟨h.1.1.c.1,h.2.1⟩) λF w=>.some ⟨h.1.2,w.u⟩) λC=>.bind (VE (B:=B) (S:=S) ⟨h.1.1.c.1,h.2.1⟩) λE n=>.some ⟨h.1.2,n.u⟩
theorem yc{B S:Int}{X:eU}(h:aB B S kQ X)(G:BS B S 0 0:=by omega)(J:S<=9223372036854775807:=by omega):Tot (nX X) λy=>aB 0 S JF y/\(y.2.2=0->0<=y.2.1/\y.2.1<=J0 X.1/\J0 y.1<=8392):=by unfold nX;exact have s0:aB 0 S kQ X:=h;have:=J2.1 s0.2;.ltf (λc1=>have:J0 X.1<=S:=s0.1;have:=Jh (l:=X.1);.gt (λD=>.some ⟨⟨J9,aC,aG 1⟩,om⟩) λD=>.bind ((hM (B:=0) (S:=S) (X:=(X.1,X.2,4)) ⟨s0.1,s0.2,aG 4⟩).eqn) λe z=>.ne (λn=>.some ⟨⟨J9,aC,aG 5⟩,om⟩) λn=>have C:=FC (x:=(X.1,X.2,4)) ⟨s0.1,s0.2,aG 4⟩ z.2 n;have:=J2.1 z.1.1;have:1<=(4:Int)/\(4:Int)<=8/\0<=X.2/\X.2<=J0 X.1/\(4:Int)<=J0 X.1-X.2/\((4:Int)<=4->0<=e.1/\e.1<=4294967295)/\((4:Int)=1->e.1<=255)/\((4:Int)=2->e.1<=65535):=C.1;.gt (λg=>.some ⟨⟨J9,aC,aG 2⟩,om⟩) λg=>have:=bC (J0 X.1) X.2;have:=Jm e.1 8;.lt (λr=>.some ⟨⟨J9,aC,aG 5⟩,om⟩) λr=>.bind ((hM (B:=0) (S:=S) (X:=(X.1,J1 .i64 (J1 .i64 X.2 4) e.1,4)) ⟨s0.1,Je,aG 4⟩).eqn) λH F=>have:=Jm X.2 4;have:=Jm (J1 .i64 X.2 4) e.1;.bind (LI s0.1) λA k=>have o:aB 0 S .s A:=k.1;.bind (RU o) λI E=>.ne (λv=>.some ⟨⟨J9,aC,aG 3⟩,om⟩) λv=>.bind (LI s0.1) λq j=>have w:aB 0 S .s q:=j.1;have:=Jm X.2 8;have:=Jm (J1 .i64 X.2 8) e.1;have:=Jh (l:=q);.some ⟨⟨w,Je,aC⟩,om⟩) λc1=>have:J0 X.1<=S:=s0.1;.some ⟨⟨J9,aC,aG 1⟩,om⟩
theorem El{B S:Int}{X:HJ}(h:aB B S GI X)(p0:0<=X.2.2.1)(r:X.2.2.1<=J0 X.2.1)(w:0<=X.1)(q:X.1<=4294967295)(o:BS B S 0 0:=by omega)(v:S<=9223372036854775807:=by omega):Tot (xG X) λy=>aB 0 S (.pr .s JF) y/\(0<=y.2.2.1/\y.2.2.1<=J0 y.2.1):=by unfold xG;exact have s0:aB 0 S GI X:=h;have:=J2.1 s0.2.2.1;have:J0 X.2.1<=S:=s0.2.1;have:=Jh (l:=X.2.1);.ne (λk=>.some ⟨⟨J9,s0.2⟩,om⟩) λk=>have:=bC (J0 X.2.1) X.2.2.1;.gt (λj=>.some ⟨⟨J9,s0.2.1,s0.2.2.1,aG 5⟩,om⟩) λj=>have:=Jm X.2.2.1 X.1;have:=bC (J1 .i64 X.2.2.1 X.1) X.1;.bind (LI s0.2.1) λn g=>have e:aB 0 S .s n:=g.1;.some ⟨⟨e,s0.2.1,Je,s0.2.2.2⟩,om⟩
theorem rZ{B S:Int}{X:HJ}(h:aB B S GI X)(p0:0<=X.2.2.1)(q:X.2.2.1<=J0 X.2.1)(o:BS B S 0 0:=by omega)(r:S<=9223372036854775807:=by omega):Tot (JI X) λy=>aB 0 S GI y/\(0<=y.2.2.1/\y.2.2.1<=J0 y.2.1/\(X.1<=4->0<=y.1/\y.1<=4294967295)/\(X.1=1->y.1<=255)):=by unfold JI;exact have s0:aB 0 S GI X:=h;have:=J2.1 s0.2.2.1;have:J0 X.2.1<=S:=s0.2.1;.ne (λn=>have:=J2.1 s0.1;.some ⟨⟨aC,s0.2⟩,om⟩) λn=>.bind ((hM (B:=0) (S:=S) (X:=(X.2.1,X.2.2.1,X.1)) ⟨s0.2.1,s0.2.2.1,s0.1⟩).eqn) λg e=>.ne (λk=>have:=J2.1 s0.1;.some ⟨⟨aC,s0.2.1,s0.2.2.1,e.1.2⟩,om⟩) λk=>have j:=FC (x:=(X.2.1,X.2.2.1,X.1)) ⟨s0.2.1,s0.2.2.1,s0.1⟩ e.2 k;have:=J2.1 s0.1;have:=J2.1 e.1.1;have:1<=X.1/\X.1<=8/\0<=X.2.2.1/\X.2.2.1<=J0 X.2.1/\X.1<=J0 X.2.1-X.2.2.1/\(X.1<=4->0<=g.1/\g.1<=4294967295)/\(X.1=1->g.1<=255)/\(X.1=2->g.1<=65535):=j.1;have:=Jm X.2.2.1 X.1;.some ⟨⟨e.1.1,s0.2.1,Je,s0.2.2.2⟩,om⟩
theorem za{B S:Int}{X:mS}(h:aB B S JF X)(p0:0<=X.2.1)(w:X.2.1<=J0 X.1)(v:BS B S 0 0:=by omega)(x:S<=9223372036854775807:=by omega):Tot (BQ X) λy=>aB 0 S (.pr Jr JF) y/\(0<=y.2.2.1/\y.2.2.1<=J0 y.2.1):=by unfold BQ;exact .bind (rZ (B:=0) (S:=S) ⟨aG 1,h.z⟩ om om) λk g=>have:=J2.1 g.1.c.1;have:=J2.1 g.1.1;have:0<=k.2.2.1/\k.2.2.1<=J0 k.2.1/\0<=k.1/\k.1<=255:=⟨g.2.1,g.c.1,(g.d.1 (show(1:Int)<=4 by decide)).1,g.e rfl⟩;.nef (λq=>.eq (λo=>.some ⟨⟨⟨trivial,J9⟩,g.1.2⟩,om⟩) λo=>.gt (λr=>.some ⟨⟨⟨trivial,J9⟩,g.1.2.1,g.1.c.1,aG 4⟩,om⟩) λr=>.bind (El (B:=0) (S:=S) (g.1) om om om om) λn j=>have:0<=n.2.2.1/\n.2.2.1<=J0 n.2.1:=j.2;.some ⟨⟨⟨trivial,j.1.1⟩,j.1.2⟩,om⟩) λq=>.some ⟨⟨⟨trivial,J9⟩,g.1.2⟩,om⟩
end Go.Am
end
section
namespace Go.Am
set_option linter.unusedVariables false
set_option maxRecDepth 20000
set_option maxHeartbeats 4000000
theorem S3{B S:Int}{X:List UInt8}(h:aB B S .s X)(W:BS B S 0 0:=by omega)(Y:S<=9223372036854775807:=by omega):Tot (FS X) λy=>aB 0 8192 (.pr J8 zI) y:=by unfold FS;exact have:=Jh (l:=X);.bind (rZ (B:=0) (S:=S) ⟨aG 8,h.z,aP⟩ om om) λO h1=>have:=J2.1 h1.1.c.1;.bind (rZ (B:=0) (S:=S) ⟨aG 1,h1.1.2⟩ om om) λI F=>have:=J2.1 F.1.c.1;.bind (rZ (B:=0) (S:=S) ⟨aG 4,F.1.2⟩ om om) λN k=>have:=J2.1 k.1.c.1;.bind (rZ (B:=0) (S:=S) ⟨aG 8,k.1.2⟩ om om) λK q=>have:=J2.1 q.1.c.1;.bind (rZ (B:=0) (S:=S) ⟨aG 8,q.1.2⟩ om om) λL n=>have:=J2.1 n.1.c.1;.bind (rZ (B:=0) (S:=S) ⟨aG 8,n.1.2⟩ om om) λH o=>have:=J2.1 o.1.c.1;.bind (rZ (B:=0) (S:=S) ⟨aG 4,o.1.2⟩ om om) λJ j=>have:=J2.1 j.1.c.1;.bind (rZ (B:=0) (S:=S) ⟨aG 1,j.1.2⟩ om om) λM v=>have:=J2.1 v.1.c.1;.bind (za v.1.2 om om) λA r=>have:=J2.1 r.1.c.1;.bind (za r.1.2 om om) λE w=>have:=J2.1 w.1.c.1;.bind (rZ (B:=0) (S:=S) ⟨aG 4,w.1.2⟩ om om) λg e=>have:=J2.1 e.1.c.1;have:=J2.1 e.1.1;have:0<=g.2.2.1/\g.2.2.1<=J0 g.2.1/\0<=g.1/\g.1<=4294967295:=⟨e.2.1,e.c.1,e.d.1 (show(4:Int)<=4 by decide)⟩;.bind (El (B:=0) (S:=S) (e.1) om om om om) λC D=>.ne (λP=>.some ⟨⟨aC,aC,aC,aC,aC,aC,⟨aC,aC,⟨trivial,J9⟩,trivial,J9⟩,J9⟩,D.1.d⟩) λP=>.ne (λT=>.some ⟨⟨aC,aC,aC,aC,aC,aC,⟨aC,aC,⟨trivial,J9⟩,trivial,J9⟩,J9⟩,aG 4⟩) λT=>.bind ((xD (B:=0) (S:=S) (X:=(O.1,I.1,N.1,K.1,L.1,H.1,(J.1,M.1,A.1,E.1),C.1)) ⟨h1.1.1,F.1.1,k.1.1,q.1.1,n.1.1,o.1.1,⟨j.1.1,v.1.1,r.1.1,w.1.1⟩,D.1.1⟩).eqn) λV R=>.not (λG=>.some ⟨⟨aC,aC,aC,aC,aC,aC,⟨aC,aC,⟨trivial,J9⟩,trivial,J9⟩,J9⟩,aG 12⟩) λG=>have U:=rU (x:=(O.1,I.1,N.1,K.1,L.1,H.1,(J.1,M.1,A.1,E.1),C.1)) ⟨h1.1.1,F.1.1,k.1.1,q.1.1,n.1.1,o.1.1,⟨j.1.1,v.1.1,r.1.1,w.1.1⟩,D.1.1⟩ R.2 G;have Q:aB 0 8192 J8 (O.1,I.1,N.1,K.1,L.1,H.1,(J.1,M.1,A.1,E.1),C.1):=U.2;.some ⟨Q,aC⟩
theorem M7{B S:Int}{X:List UInt8}(h:aB B S .s X)(V:BS B S 0 0:=by omega)(hS:S<=9223372036854775807:=by omega):Tot (wR X) λy=>aB 4096 8192 nY y:=by unfold wR;exact have s0:aB 0 S .s X:=h;.bind (yc (B:=0) (S:=S) ⟨s0,aC⟩) λo h1=>have:=J2.1 h1.1.2.1;have:o.2.2=0->0<=o.2.1/\o.2.1<=J0 X/\J0 o.1<=8392:=h1.2;.nef (λO=>.nef (λG=>.bind (vS h1.1.1) λZ U=>.ite (λF=>.some ⟨aP,aG 4⟩) λF=>.bind ((hM (B:=0) (S:=S) (X:=(o.1,4,8)) ⟨h1.1.1,aG 4,aG 8⟩).eqn) λH j=>.ltf (λM=>.gt (λL=>.some ⟨aP,aG 4⟩) λL=>Jq (τ:=Int×(List J5)×Int) (λq=>(X,q.1,[],0,0,q.2.1,[],H.1,q.2.2)) (λq=>aB 0 0 zI q.1/\aB 4096 8192 (.l J8) q.2.1/\aB 0 0 zI q.2.2/\(J0 q.2.1<=4096)/\(0<=q.1)/\(q.1<=J0 X)) (λq=>4096-J0 q.2.1) (by rintro⟨Q,g,P⟩ z;dsimp only at z;obtain⟨K,e,n,Y,T,W⟩:=z;unfold jb;(try dsimp only);exact have:=Jh (l:=g);have:J0 g=_:=JE e;.lt (λC=>.bind (yc (B:=0) (S:=S) ⟨s0,K⟩) λr k=>have:=J2.1 k.1.2.1;have:r.2.2=0->0<=r.2.1/\r.2.1<=J0 X/\J0 r.1<=8392:=k.2;.ne (λD=>.some ⟨⟨j.1.1,e,n⟩,aC⟩) λD=>.bind (S3 k.1.1) λN v=>.nef (λJ=>have:=J2.1 v.1.1;.ne (λE=>.some ⟨⟨j.1.1,e,n⟩,aC⟩) λE=>.bind (bT (B:=4097) (Bl:=4096) (Bm:=1) (S:=8192) (J0 g) 1 e (cF (B:=1) (S:=8192) (t:=J8) oo v.1.u)) λw A=>have:J0 w=_:=JE A.1;have I:aB 4096 8192 (.l J8) w:=⟨(by omega:J0 w<=4096),λx R=>A.1.2 x R⟩;.some ⟨(r.2.1,w,N.1.1),rfl,⟨k.1.2.1,I,v.1.1,om,om,om⟩,om,om⟩) λJ=>.some ⟨⟨j.1.1,e,n⟩,aC⟩) λC=>.some ⟨⟨j.1.1,e,n⟩,aC⟩) (o.2.1,[],JJ .i64 H.1 1) rfl ⟨h1.1.2.1,Jc,dX,om,om,om⟩) λM=>.some ⟨aP,aG 4⟩) λG=>.some ⟨aP,aG 4⟩) λO=>.some ⟨aP,aG 4⟩
theorem Ic{B S:Int}{X:CL}(h:aB B S ku X)(g:BS B S 0 0:=by omega):Tot (SA X) λy=>aB 0 0 .b y:=by unfold SA;exact .ne (λc1=>.some trivial) λc1=>have:=J2.1 h.1.2.1.2;.ne (λe=>.some trivial) λe=>.some trivial
theorem Mu{B S:Int}{X:TR}(h:aB B S (.pr (.l Jb) Jb) X)(ab:BS B S 0 0:=by omega)(hB:B<=17179869183:=by omega):Tot (SB X) λy=>aB (2*B+1) S (.l Jb) y/\(J0 y<=J0 X.1+1):=by unfold SB;exact have:J0 X.1=_/\_:=lF h.1;cU (J0 X.1) (λq=>(X.1,q,X.2)) λa3 i4 w5 z6=>.lt (λO=>.bind (Jl h.1) λy3 N=>.bind (Ic (B:=0) (S:=0) ⟨N.1,h.2⟩) λy4 a4=>.ite (λL=>.some ⟨O,rfl⟩) λL=>.inr (.lt (λa2=>.bind (Jl h.1) λy5 a5=>.ite (λD=>have a9:=dY.1 D;.some ⟨h.1.u,om⟩) λD=>.bind (qO h.1) λF e=>.clo e.1 oo (by decide) (have:J0 F<=B:=e.1.1;have:J0 F=_:=JE e.1;.bind (bT (B:=(B+1)) (Bl:=B) (Bm:=1) (S:=S) (J0 F) 1 e.1 ((cF (B:=1) (S:=0) (t:=Jb) oo h.2).u)) λR E=>.bind (pI h.1) λG k=>have:J0 R=_:=JE E.1;have:J0 G<=B:=k.1.1;have:J0 G=_:=JE k.1;.bind (bT (B:=(2*B+1)) (Bl:=(B+1)) (Bm:=B) (S:=S) (J0 R) (J0 G) E.1 k.1) λJ r=>have:J0 J=_:=JE r.1;.some ⟨r.1,om⟩)) λa2=>.bind (qO h.1) λa1 z=>.clo z.1 oo (by decide) (.bind (bT (B:=(B+1)) (Bl:=B) (Bm:=1) (S:=S) (J0 a1) 1 z.1 ((cF (B:=1) (S:=0) (t:=Jb) oo h.2).u)) λK a0=>.bind (pI h.1) λW Y=>.bind (bT (B:=(2*B+1)) (Bl:=(B+1)) (Bm:=B) (S:=S) (J0 K) (J0 W) a0.1 Y.1) λa7 V=>.some ⟨V.1,om⟩))) λO=>.inr (.lt (λM=>.bind (Jl h.1) λaa a8=>.ite (λw=>have ac:=dY.1 w;.some ⟨h.1.u,om⟩) λw=>.bind (qO h.1) λQ A=>.clo A.1 oo (by decide) (.bind (bT (B:=(B+1)) (Bl:=B) (Bm:=1) (S:=S) (J0 Q) 1 A.1 ((cF (B:=1) (S:=0) (t:=Jb) oo h.2).u)) λU Z=>.bind (pI h.1) λT H=>.bind (bT (B:=(2*B+1)) (Bl:=(B+1)) (Bm:=B) (S:=S) (J0 U) (J0 T) Z.1 H.1) λa6 I=>.some ⟨I.1,om⟩)) λM=>.bind (qO h.1) λn g=>.clo g.1 oo (by decide) (have:J0 n<=B:=g.1.1;have:J0 n=_:=JE g.1;.bind (bT (B:=(B+1)) (Bl:=B) (Bm:=1) (S:=S) (J0 n) 1 g.1 ((cF (B:=1) (S:=0) (t:=Jb) oo h.2).u)) λo C=>.bind (pI h.1) λj x=>have:J0 o=_:=JE C.1;have:=Jh (l:=j);have:J0 j=_:=JE x.1;.bind (bT (B:=(2*B+1)) (Bl:=(B+1)) (Bm:=B) (S:=S) (J0 o) (J0 j) C.1 x.1) λP v=>have:J0 P=_:=JE v.1;.some ⟨v.1,om⟩))
section
variable {B S:Int}
theorem Nz{X:Jt×List Ju}(h:aB B S (.pr Jy (.l Jo)) X)(M:BH B S:=by omega)(D:B<=20000:=by omega):Tot (VH X) λy=>aB 400000001 0 (.pr (.l Jb) zI) y:=by
 obtain⟨l,e⟩:=X;obtain⟨K,w⟩:=h;unfold VH;dsimp only;have:J0 e<=20000:=oG w.1 D;have F:=Jh (l:=e);refine Jq (τ:=IG) (λq=>(e,q.1,q.2,l)) (λq=>0<=q.2/\q.2<=J0 e/\aB 400000001 0 (.l Jb) q.1/\J0 q.1<=20000*q.2) (λq=>J0 e-q.2) ?_ ([],0) rfl ⟨aZ _,F,Jc,by show(0:Int)<=20000*0;omega⟩;rintro⟨out,i⟩ ⟨h0,h1,h2,h3⟩;dsimp only at h0 h1 h2 h3;unfold xa;dsimp only;have N:=Jm i 1;refine .lt (λc=>?_) λc=>.some ⟨h2,aC⟩;have n:i.toNat<e.length:=by unfold J0 at c;omega
 have z:idx e i=some e[i.toNat]:=by unfold idx;rw[if_pos h0,zQ9 n]
 have v:=w.2 _ (kU n);generalize e[i.toNat]=t at z v;have:J0 t.2.2.2.2.1<=20000:=oG v.2.2.2.2.1.1 D;refine Jq (τ:=IG) (λq=>(e,q.1,i,q.2,l)) (λq=>0<=q.2/\q.2<=J0 t.2.2.2.2.1/\aB 400000001 0 (.l Jb) q.1/\J0 q.1<=20000*i+q.2) (λq=>J0 t.2.2.2.2.1-q.2) ?_ (out,0) rfl ⟨aZ _,Jh,h2,by show J0 out<=20000*i+0;omega⟩;rintro⟨out,k⟩ ⟨x,J,r,I⟩;dsimp only at x J r I;unfold xt;dsimp only;rw[z];have O:=Jm k 1;show Tot (if aK k (J0 t.2.2.2.2.1)=true then _ else _) _;refine .lt (λA=>?_) λA=>.some ⟨(out,J1 .i64 i 1),rfl,⟨by show 0<=J1 .i64 i 1;omega,by show J1 .i64 i 1<=J0 e;omega,r,by show J0 out<=20000*J1 .i64 i 1;omega⟩,by show J0 e-J1 .i64 i 1<J0 e-i;omega,oo⟩;show Tot ((idx t.2.2.2.2.1 k).bind _) _;refine .bind (Jl v.2.2.2.2.1 x A) λG H=>.bind (tR (X:=(l,G)) ⟨K,H.1⟩) λg o=>.ne (λ_=>.inr (.some ⟨Jc,aG 14⟩)) λ_=>.nef (λ_=>?_) λ_=>.inr (.some ⟨Jc,aG 13⟩);show Tot (if aM g.1.2.2.1 t.1=true then _ else _) _;refine .ne (λ_=>.inr (.some ⟨Jc,aG 13⟩)) λ_=>?_;have E:aB 0 0 Jb (g.1.2.2.1,(g.1.2.2.2.2.2.2.1.1,g.1.2.2.2.2.2.2.1.2.1),2):=⟨o.1.2.2.1,⟨o.1.2.2.2.2.2.2.1.1,o.1.2.2.2.2.2.2.1.2.1⟩,aG 2⟩;have:=Jh (l:=out);refine .bind (Mu (B:=J0 out) (S:=0) (X:=(out,g.1.2.2.1,(g.1.2.2.2.2.2.2.1.1,g.1.2.2.2.2.2.2.1.2.1),2)) ⟨⟨aZ _,r.2⟩,E⟩) λj C=>?_;have L:J0 j<=J0 out+1:=C.2;exact .some ⟨(j,J1 .i64 k 1),rfl,⟨by show 0<=J1 .i64 k 1;omega,by show J1 .i64 k 1<=J0 t.2.2.2.2.1;omega,⟨by show J0 j<=400000001;omega,C.1.2⟩,by show J0 j<=20000*i+J1 .i64 k 1;omega⟩,by show J0 t.2.2.2.2.1-J1 .i64 k 1<J0 t.2.2.2.2.1-k;omega,oo⟩
end
theorem Tn{B S:Int}{X:List UInt8}(h:aB B S .s X)(O:BS B S 0 0:=by omega)(U:S<=9223372036854775807:=by omega):Tot (AM X) λy=>aB 64 0 UF y:=by unfold AM;exact have s0:aB 0 S .s X:=h;.bind ((hM (B:=0) (S:=S) (X:=(X,0,2)) ⟨s0,aC,aG 2⟩).eqn) λg h1=>.nef (λF=>have K:=FC (x:=(X,0,2)) ⟨s0,aC,aG 2⟩ h1.2 F;have:=J2.1 h1.1.1;have:1<=(2:Int)/\(2:Int)<=8/\0<=(0:Int)/\(0:Int)<=J0 X/\(2:Int)<=J0 X-(0:Int)/\((2:Int)<=4->0<=g.1/\g.1<=4294967295)/\((2:Int)=1->g.1<=255)/\((2:Int)=2->g.1<=65535):=K.1;have:=jo 24 g.1;.lt (λJ=>.some ⟨Jc,aG 5⟩) λJ=>.gt (λv=>.some ⟨Jc,aG 4⟩) λv=>Jq (τ:=vF) (λq=>(X,g.1,q.1,[],q.2)) (λq=>(aB 0 0 zI q.1/\0<=q.1/\(q.1<=g.1\/q.1<=0))/\(aB 65535 0 (.l Jf) q.2/\J0 q.2<=1*q.1+0)) (λq=>g.1-q.1) (by rintro⟨e,j⟩ n;dsimp only at n;obtain⟨⟨D,N,M⟩,k,L⟩:=n;unfold nb;(try dsimp only);exact have:=J2.1 D;.lt (λI=>.bind ((hM (B:=0) (S:=S) (X:=(X,J1 .i64 2 (cV .i64 24 e),8)) ⟨s0,Je,aG 8⟩).eqn) λT G=>.bind ((hM (B:=0) (S:=S) (X:=(X,J1 .i64 10 (cV .i64 24 e),8)) ⟨s0,Je,aG 8⟩).eqn) λQ E=>.bind ((hM (B:=0) (S:=S) (X:=(X,J1 .i64 18 (cV .i64 24 e),8)) ⟨s0,Je,aG 8⟩).eqn) λR z=>have:J0 j=_/\_:=lF k;.bind (bT (B:=65535) (Bl:=65535) (Bm:=1) (S:=0) (J0 j) 1 k (cF (B:=1) (S:=0) (t:=Jf) oo ⟨G.1.1,E.1.1,z.1.1⟩)) λw r=>have:=Jm e 1;have:J0 w=_:=JE r.1;.some ⟨(J1 .i64 e 1,w),rfl,⟨⟨Je,om,om⟩,r.1,om⟩,om,om⟩) λI=>.inr (.bind ((FV k).eqn) λP C=>.not (λo=>.some ⟨Jc,aG 28⟩) λo=>have A:=AT k C.2 o;have H:aB 64 0 (.l Jf) j:=A.2;.some ⟨H,aC⟩)) (0,[]) rfl (have:J0 ([]:List aA)=0:=rfl;⟨⟨aC,om,om⟩,Jc,om⟩)) λF=>.some ⟨Jc,aG 5⟩
theorem BN{B S:Int}{X:GE}(h:aB B S GS X)(p0:0<=X.2.2.1)(q:X.2.2.1<=J0 X.2.1)(o:BS B S 0 0:=by omega)(r:S<=9223372036854775807:=by omega):Tot (sA X) λy=>aB 0 S GS y/\(0<=y.2.2.1/\y.2.2.1<=J0 y.2.1/\(X.1<=4->0<=y.1/\y.1<=4294967295)/\(X.1=1->y.1<=255)/\(X.1=2->y.1<=65535)):=by unfold sA;exact have s0:aB 0 S GS X:=h;have:=J2.1 s0.2.2.1;have:J0 X.2.1<=S:=s0.2.1;.bind ((hM (B:=0) (S:=S) (X:=(X.2.1,X.2.2.1,X.1)) ⟨s0.2.1,s0.2.2.1,s0.1⟩).eqn) λe g=>.itf (λk=>have:=J2.1 g.1.2;.ne (λj=>have:=J2.1 s0.1;.some ⟨⟨aC,s0.2.1,s0.2.2.1,trivial⟩,om⟩) λj=>have n:=FC (x:=(X.2.1,X.2.2.1,X.1)) ⟨s0.2.1,s0.2.2.1,s0.1⟩ g.2 j;have:=J2.1 s0.1;have:=J2.1 g.1.1;have:1<=X.1/\X.1<=8/\0<=X.2.2.1/\X.2.2.1<=J0 X.2.1/\X.1<=J0 X.2.1-X.2.2.1/\(X.1<=4->0<=e.1/\e.1<=4294967295)/\(X.1=1->e.1<=255)/\(X.1=2->e.1<=65535):=n.1;have:=Jm X.2.2.1 X.1;.some ⟨⟨g.1.1,s0.2.1,Je,trivial⟩,om⟩) λk=>have:=J2.1 s0.1;.some ⟨⟨aC,s0.2.1,s0.2.2.1,trivial⟩,om⟩
theorem zd{B S:Int}{X:GE}(h:aB B S GS X)(p0:1<=X.1)(Q:X.1<=2)(P:0<=X.2.2.1)(O:X.2.2.1<=J0 X.2.1)(M:BS B S 0 0:=by omega)(R:S<=9223372036854775807:=by omega):Tot (NC X) λy=>aB 65535 S (.pr (.l zI) mT) y/\(0<=y.2.2.1/\y.2.2.1<=J0 y.2.1):=by unfold NC;exact have s0:aB 0 S GS X:=h;.bind (BN (B:=0) (S:=S) (s0) om om) λe r=>have:=J2.1 r.1.c.1;have:=J2.1 r.1.1;have:0<=e.2.2.1/\e.2.2.1<=J0 e.2.1/\(X.1<=4->0<=e.1/\e.1<=4294967295)/\(X.1=1->e.1<=255)/\(X.1=2->e.1<=65535):=r.2;Jq (τ:=kh) (λq=>(q.1,q.2.1,q.2.2)) (λq=>aB 0 0 zI q.1/\aB 0 S mT q.2.1/\aB 65535 0 (.l zI) q.2.2/\(J0 q.2.2+q.1<=65535)/\(0<=q.1)/\(J0 q.2.2<=65535)/\(0<=q.2.1.2.1)/\(q.2.1.2.1<=J0 q.2.1.1)) (λq=>q.1) (by rintro⟨o,F,n⟩ v;dsimp only at v;obtain⟨E,g,k,L,K,N,I,J⟩:=v;unfold Em;(try dsimp only);exact have:=Jh (l:=n);have:=J2.1 E;have:=J2.1 g.2.1;.gt (λA=>.not (λC=>.bind (BN (B:=0) (S:=S) ⟨aG 8,g⟩ om om) λG j=>have:=J2.1 j.1.c.1;.bind (bT (B:=65536) (Bl:=65535) (Bm:=1) (S:=0) (J0 n) 1 k (cF (B:=1) (S:=0) (t:=zI) oo j.1.1)) λw D=>have z:aB 65535 0 (.l zI) w:=⟨(by omega:J0 w<=65535),λx H=>D.1.2 x H⟩;have:=bC o 1;.some ⟨(JJ .i64 o 1,G.2,w),rfl,⟨dX,j.1.2,z,om,om,om,om,om⟩,om,om⟩) λC=>.some ⟨⟨k.u,g.u⟩,om⟩) λA=>.some ⟨⟨k.u,g.u⟩,om⟩) (e.1,e.2,[]) rfl ⟨r.1.1,r.1.2,Jc,om,om,om,om,om⟩
theorem T6{B S:Int}{X:List UInt8}(h:aB B S .s X)(a3:BS B S 0 0:=by omega)(hS:S<=9223372036854775807:=by omega):Tot (VU X) λy=>aB 4096 0 iZ y:=by unfold VU;exact have:=Jh (l:=X);.bind (BN (B:=0) (S:=S) ⟨aG 2,h.z,aC,trivial⟩ om om) λk h1=>have:=J2.1 h1.1.c.1;have:=J2.1 h1.1.1;have:0<=k.2.2.1/\k.2.2.1<=J0 k.2.1/\0<=k.1/\k.1<=65535:=⟨h1.2.1,h1.c.1,(h1.d.1 (show(2:Int)<=4 by decide)).1,h1.g rfl⟩;Jq (τ:=Int×GA×(List Ju)) (λq=>(X,q.1,q.2.1,q.2.2)) (λq=>aB 0 0 zI q.1/\aB 0 S mT q.2.1/\aB 65535 S (.l Jo) q.2.2/\(J0 q.2.2+q.1<=65535)/\(J0 q.2.2<=65535)/\(0<=q.2.1.2.1)/\(q.2.1.2.1<=J0 q.2.1.1)/\(0<=q.1)) (λq=>q.1) (by rintro⟨n,V,e⟩ E;dsimp only at E;obtain⟨W,K,j,a1,Z,a2,a0,a5⟩:=E;unfold yr;(try dsimp only);exact have:=Jh (l:=e);have:J0 e=_:=JE j;have:=J2.1 W;.gt (λN=>.not (λI=>.bind (BN (B:=0) (S:=S) ⟨aG 4,K⟩ om om) λy4 v=>have:=J2.1 v.1.c.1;.bind (BN (B:=0) (S:=S) ⟨aG 1,v.1.2⟩ om om) λy5 w=>have:=J2.1 w.1.c.1;.bind (BN (B:=0) (S:=S) ⟨aG 8,w.1.2⟩ om om) λy6 x=>have:=J2.1 x.1.c.1;.bind (BN (B:=0) (S:=S) ⟨aG 8,x.1.2⟩ om om) λy7 o=>have:=J2.1 o.1.c.1;.bind (zd (B:=0) (S:=S) ⟨aG 2,o.1.2⟩ om om om om) λy8 r=>have:=J2.1 r.1.2.z.2.1;.bind (zd (B:=0) (S:=S) ⟨aG 1,r.1.2.z⟩ om om om om) λY A=>have:=J2.1 A.1.2.z.2.1;.bind (bT (B:=65535) (Bl:=65535) (Bm:=65535) (S:=S) (J0 e) 1 j (cF (B:=65535) (S:=S) (t:=Jo) oo ⟨v.1.1,w.1.1,x.1.1,o.1.1,r.1.1,A.1.1⟩)) λD C=>have:J0 D=_/\_:=lF C.1;have:=bC n 1;.some ⟨(JJ .i64 n 1,Y.2,D),rfl,⟨dX,A.1.2.z,C.1,om,om,om,om,om⟩,om,om⟩) λI=>.inr (.ite (λR=>.some ⟨Jc,aG 5⟩) λR=>.ne (λM=>.some ⟨Jc,aG 4⟩) λM=>.bind ((xA j).eqn) λa6 T=>.not (λF=>.some ⟨Jc,aG 15⟩) λF=>have O:=rV j T.2 F;have Q:aB 4096 0 (.l Jo) e:=O.2;.some ⟨Q,aC⟩)) λN=>.inr (.ite (λP=>.some ⟨Jc,aG 5⟩) λP=>.ne (λJ=>.some ⟨Jc,aG 4⟩) λJ=>.bind ((xA j).eqn) λa4 U=>.not (λG=>.some ⟨Jc,aG 15⟩) λG=>have L:=rV j U.2 G;have H:aB 4096 0 (.l Jo) e:=L.2;.some ⟨H,aC⟩)) (k.1,k.2,[]) rfl ⟨h1.1.1,h1.1.2,Jc,om,om,om,om,om⟩
theorem R0{B S:Int}{X:List UInt8}(h:aB B S .s X)(ae:BH B S:=by omega)(hS:S<=9223372036854775807:=by omega):Tot (uE X) λy=>aB 4096 0 (.pr mJ zI) y:=by unfold uE;exact have s0:aB 0 S .s X:=h;.bind ((hM (B:=0) (S:=S) (X:=(X,0,2)) ⟨s0,aC,aG 2⟩).eqn) λy2 h1=>.bind ((hM (B:=0) (S:=S) (X:=(X,2,4)) ⟨s0,aG 2,aG 4⟩).eqn) λJ h2=>.bind ((hM (B:=0) (S:=S) (X:=(X,6,4)) ⟨s0,aG 6,aG 4⟩).eqn) λe h3=>.nef (λN=>have v6:=FC (x:=(X,6,4)) ⟨s0,aG 6,aG 4⟩ h3.2 N;have:J0 X<=S:=s0;have:=J2.1 h3.1.1;have:1<=(4:Int)/\(4:Int)<=8/\0<=(6:Int)/\(6:Int)<=J0 X/\(4:Int)<=J0 X-(6:Int)/\((4:Int)<=4->0<=e.1/\e.1<=4294967295)/\((4:Int)=1->e.1<=255)/\((4:Int)=2->e.1<=65535):=v6.1;have:=xS (J0 X) 10;.gt (λK=>.some ⟨aP,aG 5⟩) λK=>have:=mV 10 e.1;.bind (LI s0) λM F=>have L:aB 0 S .s M:=F.1;.bind ((hM (B:=0) (S:=S) (X:=(X,J1 .i64 10 e.1,1)) ⟨s0,Je,aG 1⟩).eqn) λk A=>.nef (λz=>have a4:=FC (x:=(X,J1 .i64 10 e.1,1)) ⟨s0,Je,aG 1⟩ A.2 z;have:=J2.1 A.1.1;have:1<=(1:Int)/\(1:Int)<=8/\0<=(J1 .i64 10 e.1)/\(J1 .i64 10 e.1)<=J0 X/\(1:Int)<=J0 X-(J1 .i64 10 e.1)/\((1:Int)<=4->0<=k.1/\k.1<=4294967295)/\((1:Int)=1->k.1<=255)/\((1:Int)=2->k.1<=65535):=a4.1;have:=xS (J0 X) (J1 .i64 10 e.1);have:=xS (JJ .i64 (J0 X) (J1 .i64 10 e.1)) 1;have:=jo 17 k.1;.lt (λW=>.some ⟨aP,aG 5⟩) λW=>Jq (τ:=Int×Int×(List aA)) (λq=>(X,M,q.1,k.1,q.2.1,[],0,0,[],[],q.2.2,y2.1,J.1,[],[])) (λq=>aB 0 0 zI q.1/\aB 0 0 zI q.2.1/\aB 255 0 (.l Jf) q.2.2/\(0<=q.2.1)/\(q.2.1<=k.1)/\(q.1+17*(k.1-q.2.1)<=J0 X)/\(0<=q.1)/\(J0 q.2.2<=q.2.1)) (λq=>k.1-q.2.1) (by rintro⟨g,r,j⟩ E;dsimp only at E;obtain⟨C,H,n,aa,af,ad,ac,a9⟩:=E;unfold m8;(try dsimp only);exact have:=J2.1 H;have:=J2.1 C;have:J0 j=_/\_:=lF n;.lt (λG=>.bind ((hM (B:=0) (S:=S) (X:=(X,g,1)) ⟨s0,C,aG 1⟩).eqn) λy8 Y=>.bind ((hM (B:=0) (S:=S) (X:=(X,J1 .i64 g 1,8)) ⟨s0,Je,aG 8⟩).eqn) λy9 Q=>.bind ((hM (B:=0) (S:=S) (X:=(X,J1 .i64 g 9,8)) ⟨s0,Je,aG 8⟩).eqn) λa7 U=>.bind (bT (B:=256) (Bl:=255) (Bm:=1) (S:=0) (J0 j) 1 n (cF (B:=1) (S:=0) (t:=Jf) oo ⟨Y.1.1,Q.1.1,U.1.1⟩)) λo D=>have:J0 o=_:=JE D.1;have a1:aB 255 0 (.l Jf) o:=⟨(by omega:J0 o<=255),λx hx=>D.1.2 x hx⟩;have:=mV r 1;have:=mV g 17;.some ⟨(J1 .i64 g 17,J1 .i64 r 1,o),rfl,⟨Je,Je,a1,om,om,om,om,om⟩,om,om⟩) λG=>.inr (.bind (T6 L) λV w=>.ne (λR=>.some ⟨aP,w.2⟩) λR=>.bind (pb s0) λI O=>have P:aB 0 S .s I:=O.1;.bind (Tn P) λT v=>.ne (λZ=>.some ⟨aP,v.2⟩) λZ=>have a0:aB 16384 1073741824 mJ (y2.1,J.1,V.1,j,T.1):=⟨h1.1.1,h2.1.1,w.1.u,n.u,v.1.u⟩;.bind (vd a0) λab a8=>.not (λa2=>.some ⟨aP,aG 24⟩) λa2=>.some ⟨⟨h1.1.1,h2.1.1,w.1,n.u,v.1.u⟩,aC⟩)) (J1 .i64 (J1 .i64 10 e.1) 1,0,[]) rfl (have:=mV (J1 .i64 10 e.1) 1;⟨Je,aC,Jc,om,om,om,om,om⟩)) λz=>.some ⟨aP,aG 5⟩) λN=>.some ⟨aP,aG 5⟩
theorem Ru{B S:Int}{X:Jt}(h:aB B S Jy X)(G:BG B S:=by omega):Tot (AN X) λy=>aB 4096 0 (.pr mJ (.pr zI .b)) y:=by unfold AN;exact .bind ((mL h).eqn) λK h1=>.not (λr=>.some ⟨aP,aC,trivial⟩) λr=>have D:=mH h h1.2 r;have:=Jh (l:=X.2.1);have:J0 X.2.1=_:=JE h.2.1;have g:aB 4096 8192 Jy X:=D.2;have:=bC (J0 X.2.1) 1;Jq (τ:=Int) (λq=>(q,X,0,0,[],[],[])) (λq=>(aB 0 0 zI q/\q<=JJ .i64 (J0 X.2.1) 1)) (λq=>q-0) (by rintro e ⟨x,F⟩;exact have:=J2.1 x;.ge (λn=>.bind (Jl g.2.1) λJ E=>.ne (λk=>have:=bC e 1;.some ⟨JJ .i64 e 1,rfl,⟨dX,om⟩,om,om⟩) λk=>.bind (Jl g.2.1) λC o=>have A:aB 16384 1073741824 .s C.2.2.2.2.2.2.2:=o.1.z.2.2.2.2.2.2.2.u;.bind (R0 A) λI j=>.eq (λv=>.bind (Jl g.2.1) λH w=>.some ⟨j.1,w.1.z.1,trivial⟩) λv=>have:=bC e 1;.some ⟨JJ .i64 e 1,rfl,⟨dX,om⟩,om,om⟩) λn=>.some ⟨aP,aC,trivial⟩) (JJ .i64 (J0 X.2.1) 1) rfl ⟨dX,om⟩
theorem Rl{B S:Int}{X:gW}(h:aB B S nY X)(n:BG B S:=by omega):Tot (BD X) λy=>aB 4096 0 GZ y:=by unfold BD;exact .bind (Ru h.1) λq h1=>.not (λe=>have:=J2.1 h.1.1;.gt (λj=>.some ⟨aP,aG 24⟩) λj=>.bind (tz h.2) λo k=>.some ⟨⟨h.2,aG 1,aC,Jc,Jc,Jc,k.1.u⟩,aC⟩) λe=>have:=J2.1 h1.1.1;.ne (λg=>.some ⟨aP,aG 24⟩) λg=>.some ⟨⟨h.2,h1.1.2.1,h1.2.1,h1.1.c.1,Jc,h1.1.d⟩,aC⟩
section
variable {B S:Int}
theorem yh{un:List aA}{n:J5}(h:aB B S (.l Jf) un)(hn:aB B S J8 n)(R:BS B S 0 0:=by omega)(V:B<=17179869183:=by omega):Tot (Jg ix (un,false,0,n,[])) λy=>aB (B+1) S (.l Jf) y/\J0 y<=J0 un+1:=by
 have L:J0 un<=B:=h.1;have H:=Jh (l:=un);refine Jq (τ:=Bool×Int×List aA) (λq=>(un,q.1,q.2.1,n,q.2.2)) (λq=>0<=q.2.1/\q.2.1<=J0 un/\aB (B+1) S (.l Jf) q.2.2/\J0 q.2.2<=q.2.1+1/\(q.1=false->J0 q.2.2<=q.2.1)) (λq=>J0 un-q.2.1) ?_ (false,0,[]) rfl ⟨aZ _,H,Jc,by show(0:Int)<=0+1;omega,λ_=>aZ _⟩;rintro⟨done,i,out⟩ ⟨h0,h1,h2,h3,o⟩;dsimp only at h0 h1 h2 h3 o;unfold ix;dsimp only;have:=Jm i 1;have app: ∀{x:aA} {l:List aA},aB (B+1) S (.l Jf) l->aB (B+1) S Jf x->J0 l+1<=B+1->Tot (JO 24 l [x]) λr=>aB (B+1) S (.l Jf) r/\J0 r=J0 l+1:=λL O J=>
  (bT (B:=B+1) (Bl:=B+1) (Bm:=B+1) (S:=S) _ 1 L (cF oo O) rfl rfl (aZ _) (aZ _) J oo (by decide)).mono λ_ h=>⟨h.1,h.2.1⟩
 have v:aB (B+1) S Jf (n.2.2.2.2.2.2.1.1,n.1,n.1):=⟨hn.2.2.2.2.2.2.1.1,hn.1,hn.1⟩;have C:Tot (JN n) λ_=>True:=(uH hn).mono λ_ _=>trivial;have w: ∀{d:Bool} {l:List aA},i<J0 un->aB (B+1) S (.l Jf) l->J0 l<=i+2->(d=false->J0 l<=i+1)->(∃c':Bool×Int×List aA,(un,d,J1 .i64 i 1,n,l)=(un,c'.1,c'.2.1,n,c'.2.2)/\(0<=c'.2.1/\c'.2.1<=J0 un/\aB (B+1) S (.l Jf) c'.2.2/\J0 c'.2.2<=c'.2.1+1/\(c'.1=false->J0 c'.2.2<=c'.2.1))/\J0 un-c'.2.1<J0 un-i/\0<=J0 un-i):=fun{d l} Y Q W N=>
  ⟨(d,J1 .i64 i 1,l),rfl,⟨by show 0<=J1 .i64 i 1;omega,by show J1 .i64 i 1<=_;omega,Q,by show J0 l<=J1 .i64 i 1+1;omega,λe=>by show J0 l<=J1 .i64 i 1;have:=N e;omega⟩,by show J0 un-J1 .i64 i 1<J0 un-i;omega,oo⟩
 refine .lt (λc=>?_) λc=>Tot.map (P:=λy:List aA=>aB (B+1) S (.l Jf) y/\J0 y<=J0 un+1) ?_ λ_ h=>h
 ·have M:Tot (idx un i) λr=>aB (B+1) S Jf r:=(Jl h h0 c).mono λ_ h=>h.1.u;refine .bind M λg k=>?_
  have body: ∀{d:Bool} {l:List aA},aB (B+1) S (.l Jf) l->J0 l<=i+1->(d=false->J0 l<=i)->Tot (ρ:=(iM)⊕(List aA)) (if aH g.1 n.2.2.2.2.2.2.1.1 then
     (JN n).bind λD=>
     if D then
      (JO 24 l [(g.1,g.2.1,n.1)]).bind λG=>
      some (.inl (un,true,J1 .i64 i 1,n,G))
     else
      if aQ n.2.2.2.2.2.1 g.2.2 then
       some (.inl (un,true,J1 .i64 i 1,n,l))
      else
       if aQ n.2.2.2.2.2.1 g.2.1 then
        (JO 24 l [(g.1,J1 .i64 n.2.2.2.2.2.1 1,g.2.2)]).bind λA=>
        some (.inl (un,true,J1 .i64 i 1,n,A))
       else
        (JO 24 l [g]).bind λF=>
        some (.inl (un,true,J1 .i64 i 1,n,F))
    else
     (JO 24 l [g]).bind λK=>
     some (.inl (un,d,J1 .i64 i 1,n,K))) λr=>match r with| .inl z=> ∃c':Bool×Int×List aA,z=(un,c'.1,c'.2.1,n,c'.2.2)/\(0<=c'.2.1/\c'.2.1<=J0 un/\aB (B+1) S (.l Jf) c'.2.2/\J0 c'.2.2<=c'.2.1+1/\(c'.1=false->J0 c'.2.2<=c'.2.1))/\J0 un-c'.2.1<J0 un-i/\0<=J0 un-i| .inr y=>aB (B+1) S (.l Jf) y/\J0 y<=J0 un+1:=fun{d l} b1 b2 b3=>
   .eq (λ_=>.bind C λD _=>.ite (λ_=>.bind (app b1 ⟨k.1,k.2.1,hn.1⟩ oo) λG E=>.some (w c E.1 (by have:=E.2;omega) λe=>by cases e)) λ_=>.ge (λ_=>.some (w c b1 oo λe=>by cases e)) λ_=>.ge (λ_=>.bind (app b1 ⟨k.1,Je,k.2.2⟩ oo) λA j=>.some (w c j.1 (by have:=j.2;omega) λe=>by cases e)) λ_=>.bind (app b1 k oo) λA j=>.some (w c j.1 (by have:=j.2;omega) λe=>by cases e)) λ_=>.bind (app b1 k oo) λA j=>.some (w c j.1 (by have:=j.2;omega) λe=>by have:=j.2;have:=b3 e;omega)
  refine .gt (λ_=>.not (λd=>.bind C λT _=>.ite (λ_=>.bind (app h2 v (by have:=o d;omega)) λU I=>?_) λ_=>?_) λd=>?_) λ_=>?_;exact(body (d:=true) I.1 (by have:=I.2;have:=o d;omega) λe=>by cases e).mono λr h=>by cases r<;>exact h
  all_goals
   exact(body (d:=done) h2 h3 o).mono λr h=>by cases r<;>exact h
 exact .not (λd=>.bind C λy _=>.ite (λ_=>.bind (app h2 v (by have:=o d;omega)) λy f=>.some ⟨f.1,by have:=f.2;have:=o d;omega⟩) λ_=>.some ⟨h2,oo⟩) λ_=>.some ⟨h2,oo⟩
theorem FK{X:TX}(h:aB B S BZ X)(e:BS B S 0 0:=by omega)(g:B<=17179869183:=by omega):Tot (kO X) λy=>aB (B+1) S (.l Jf) y/\J0 y<=J0 X.1+1:=by unfold kO;exact .bind (uH h.2) λj _=>.not (λ_=>.ne (λ_=>.some ⟨h.1.u,oo⟩) λ_=>yh h.1 h.2) λ_=>yh h.1 h.2
end
theorem K1{B S:Int}{X:mQ×J5}(h:aB B S (.pr uD J8) X)(p0:J0 X.1.2.2.2.2.2.1<=16000)(al:BG B S:=by omega):Tot (zU X) λy=>aB B S GZ y/\(J0 y.1.2.2.2.2.2.1<=J0 X.1.2.2.2.2.2.1+1):=by unfold zU;exact have j:aB 16000 S (.l Jf) X.1.2.2.2.2.2.1:=⟨(by omega:J0 X.1.2.2.2.2.2.1<=16000),λx hx=>h.1.g.1.2 x hx⟩;.gt (λc5=>.bind ((rJ (B:=B) (S:=S) (X:=(X.1.2.2.2.1,X.2.2.2.1)) ⟨h.1.d.1,h.2.z.2.2.1⟩).eqn) λy2 h7=>.lt (λa4=>.bind (we (B:=B) (S:=S) ⟨h.1.d.1,h.2.z.2.2.1⟩) λy3 w=>.ne (λa0=>.some ⟨⟨h.1,w.2⟩,om⟩) λa0=>have a7:aB 16384 S CA (y3.1,X.2):=⟨w.1.u,h.2.z.u⟩;.bind (AA a7) λy4 k=>.ne (λa2=>.some ⟨⟨⟨h.1.1,h.1.2.1,h.1.c.1,w.1.u,h.1.e⟩,k.2⟩,om⟩) λa2=>.bind (zV (B:=B) (S:=S) ⟨h.1.h,h.2.z.u⟩) λy5 r=>.ne (λa1=>.some ⟨⟨⟨h.1.1,kJ h.1.2.1 Je,h.1.c.1,k.1.u,h.1.e⟩,r.2⟩,om⟩) λa1=>.bind (uH (B:=0) (S:=S) h.2.z) λy6 ag=>.ite (λP=>have:=J2.1 h.2.z.2.2.2.2.2.2.1.1;.ge (λQ=>.some ⟨⟨⟨h.1.1,kJ h.1.2.1 Je,h.1.c.1,k.1.u,h.1.e.1,j.u,r.1.u⟩,aG 1⟩,om⟩) λQ=>.bind (FK (B:=16000) (S:=S) ⟨j,h.2.z.u⟩) λM G=>have Y:aB 16001 S (.l Jf) M:=G.1.u;have:J0 M<=J0 X.1.2.2.2.2.2.1+1:=G.2;.some ⟨⟨⟨h.1.1,kJ h.1.2.1 Je,h.1.c.1,k.1.u,h.1.e.1,Y.u,r.1.u⟩,aC⟩,om⟩) λP=>.bind (FK (B:=16000) (S:=S) ⟨j,h.2.z.u⟩) λZ A=>have N:aB 16001 S (.l Jf) Z:=A.1.u;have:J0 Z<=J0 X.1.2.2.2.2.2.1+1:=A.2;.some ⟨⟨⟨h.1.1,kJ h.1.2.1 Je,h.1.c.1,k.1.u,h.1.e.1,N.u,r.1.u⟩,aC⟩,om⟩) λa4=>.bind (AA (B:=B) (S:=S) ⟨h.1.d.1,h.2.z.u⟩) λy9 n=>.ne (λa9=>.some ⟨⟨h.1,n.2⟩,om⟩) λa9=>.bind (zV (B:=B) (S:=S) ⟨h.1.h,h.2.z.u⟩) λae v=>.ne (λa6=>.some ⟨⟨⟨h.1.1,kJ h.1.2.1 Je,h.1.c.1,n.1.u,h.1.e⟩,v.2⟩,om⟩) λa6=>.bind (uH (B:=0) (S:=S) h.2.z) λak aj=>.ite (λa5=>have:=J2.1 h.2.z.2.2.2.2.2.2.1.1;.ge (λL=>.some ⟨⟨⟨h.1.1,kJ h.1.2.1 Je,h.1.c.1,n.1.u,h.1.e.1,j.u,v.1.u⟩,aG 1⟩,om⟩) λL=>.bind (FK (B:=16000) (S:=S) ⟨j,h.2.z.u⟩) λH K=>have a3:aB 16001 S (.l Jf) H:=K.1.u;have:J0 H<=J0 X.1.2.2.2.2.2.1+1:=K.2;.some ⟨⟨⟨h.1.1,kJ h.1.2.1 Je,h.1.c.1,n.1.u,h.1.e.1,a3.u,v.1.u⟩,aC⟩,om⟩) λa5=>.bind (FK (B:=16000) (S:=S) ⟨j,h.2.z.u⟩) λD I=>have T:aB 16001 S (.l Jf) D:=I.1.u;have:J0 D<=J0 X.1.2.2.2.2.2.1+1:=I.2;.some ⟨⟨⟨h.1.1,kJ h.1.2.1 Je,h.1.c.1,n.1.u,h.1.e.1,T.u,v.1.u⟩,aC⟩,om⟩) λc5=>.bind (AA (B:=B) (S:=S) ⟨h.1.d.1,h.2.z.u⟩) λah o=>.ne (λV=>.some ⟨⟨h.1,o.2⟩,om⟩) λV=>.bind (zV (B:=B) (S:=S) ⟨h.1.h,h.2.z.u⟩) λaf q=>.ne (λU=>.some ⟨⟨⟨h.1.1,kJ h.1.2.1 Je,h.1.c.1,o.1.u,h.1.e⟩,q.2⟩,om⟩) λU=>.bind (uH (B:=0) (S:=S) h.2.z) λai ad=>.ite (λW=>have:=J2.1 h.2.z.2.2.2.2.2.2.1.1;.ge (λR=>.some ⟨⟨⟨h.1.1,kJ h.1.2.1 Je,h.1.c.1,o.1.u,h.1.e.1,j.u,q.1.u⟩,aG 1⟩,om⟩) λR=>.bind (FK (B:=16000) (S:=S) ⟨j,h.2.z.u⟩) λE C=>have O:aB 16001 S (.l Jf) E:=C.1.u;have:J0 E<=J0 X.1.2.2.2.2.2.1+1:=C.2;.some ⟨⟨⟨h.1.1,kJ h.1.2.1 Je,h.1.c.1,o.1.u,h.1.e.1,O.u,q.1.u⟩,aC⟩,om⟩) λW=>.bind (FK (B:=16000) (S:=S) ⟨j,h.2.z.u⟩) λF J=>have a8:aB 16001 S (.l Jf) F:=J.1.u;have:J0 F<=J0 X.1.2.2.2.2.2.1+1:=J.2;.some ⟨⟨⟨h.1.1,kJ h.1.2.1 Je,h.1.c.1,o.1.u,h.1.e.1,a8.u,q.1.u⟩,aC⟩,om⟩
theorem Wg{B S:Int}{X:gW}(h:aB B S nY X)(ac:BG B S:=by omega):Tot (BK X) λy=>aB 400000001 1073741824 GZ y:=by unfold BK;exact .bind ((mL h.1).eqn) λy2 h1=>.not (λQ=>.some ⟨aP,aG 26⟩) λQ=>have v3:=mH h.1 h1.2 Q;have:=Jh (l:=X.1.2.1);have:J0 X.1.2.1=_:=JE h.1.2.1;have A:aB 4096 8192 Jy X.1:=v3.2;.ltf (λO=>.gt (λU=>.some ⟨aP,aG 1⟩) λU=>have P:aB 16384 1073741824 nY (X.1,X.2):=⟨A.u,h.2⟩;.bind (Rl P) λD w=>.ne (λa1=>.some ⟨aP,w.2⟩) λa1=>Jq (τ:=Int×mQ) (λq=>(q.1,X.1,(0,0,0,[],[],[],[]),q.2)) (λq=>aB 0 0 zI q.1/\aB 16384 1073741824 uD q.2/\(0<=q.1)/\(q.1<=J0 X.1.2.1)/\(J0 q.2.2.2.2.2.2.1<=4096+q.1)) (λq=>J0 X.1.2.1-q.1) (by rintro⟨r,e⟩ H;dsimp only at H;obtain⟨W,j,af,a8,ae⟩:=H;unfold nh;(try dsimp only);exact have:=J2.1 W;have:J0 e.2.2.2.2.2.1=_/\_:=lF j.2.2.2.2.2.1;.lt (λV=>.bind (Jl A.2.1) λy5 a5=>.le (λL=>have a6:aB 8192 1073741824 (.l Jf) e.2.2.2.2.2.1:=⟨(by omega:J0 e.2.2.2.2.2.1<=8192),λx K=>j.2.2.2.2.2.1.2 x K⟩;have:=Jm r 1;.some ⟨(J1 .i64 r 1,e),rfl,⟨Je,j,om,om,om⟩,om,om⟩) λL=>.bind (Jl A.2.1) λy6 Z=>.bind (K1 (B:=16384) (S:=1073741824) ⟨j,Z.1.z.u⟩ om) λC E=>have v:aB 16384 1073741824 GZ C:=E.1.u;have:J0 C.1.2.2.2.2.2.1=_/\_:=lF v.1.g.1;have:J0 C.1.2.2.2.2.2.1<=J0 e.2.2.2.2.2.1+1:=E.2;.ne (λT=>.some ⟨aP,v.2⟩) λT=>have a9:aB 8192 1073741824 (.l Jf) C.1.2.2.2.2.2.1:=⟨(by omega:J0 C.1.2.2.2.2.2.1<=8192),λx K=>v.1.g.1.2 x K⟩;have:=Jm r 1;.some ⟨(J1 .i64 r 1,C.1),rfl,⟨Je,v.1,om,om,om⟩,om,om⟩) λV=>.inr (have:J0 e.2.2.2.1=_/\_:=lF j.2.2.2.1;Jq (τ:=Int×(List Ju)) (λq=>(q.1,X.1,(0,0,0,[],[],[],[]),e,q.2)) (λq=>(aB 0 0 zI q.1/\0<=q.1/\(q.1<=J0 e.2.2.2.1\/q.1<=0))/\(aB 16384 1073741824 (.l Jo) q.2/\J0 q.2<=1*q.1+0)) (λq=>J0 e.2.2.2.1-q.1) (by rintro⟨n,o⟩ G;dsimp only at G;obtain⟨⟨a0,a3,a7⟩,k,ad⟩:=G;unfold ng;(try dsimp only);exact have:=J2.1 a0;.lt (λR=>.bind (Jl j.2.2.2.1) λy9 ab=>.gt (λY=>.bind (Jl j.2.2.2.1) λa4 N=>have:J0 o=_/\_:=lF k;.bind (bT (B:=16384) (Bl:=16384) (Bm:=16384) (S:=1073741824) (J0 o) 1 k (cF (B:=16384) (S:=1073741824) (t:=Jo) oo N.1)) λJ I=>have:=Jm n 1;have:J0 J=_:=JE I.1;.some ⟨(J1 .i64 n 1,J),rfl,⟨⟨Je,om,om⟩,I.1,om⟩,om,om⟩) λY=>have:=Jm n 1;have:J0 o=_:=JE k;.some ⟨(J1 .i64 n 1,o),rfl,⟨⟨Je,om,om⟩,k,om⟩,om,om⟩) λR=>.inr (.bind (Nz (B:=16384) (S:=1073741824) ⟨A.u,k⟩) λaa F=>.ne (λM=>.some ⟨aP,F.2⟩) λM=>.some ⟨⟨j.1,j.2.1,j.2.2.1,k.u,F.1.u,j.2.2.2.2.2.u⟩,aC⟩)) (0,[]) rfl (have:J0 ([]:List Ju)=0:=rfl;⟨⟨aC,om,om⟩,Jc,om⟩))) (0,D.1) rfl (have:J0 D.1.2.2.2.2.2.1<=4096:=w.1.g.1.1;have:=Jh (l:=D.1.2.2.2.2.2.1);have:J0 D.1.2.2.2.2.2.1=_:=JE w.1.g.1;⟨aC,w.1.u,om,om,om⟩)) λO=>.some ⟨aP,aG 1⟩
theorem Q1{B S:Int}{X:Jt×mQ×Int}(h:aB B S (.pr Jy GZ) X)(O:BG B S:=by omega):Tot (AU X) λy=>aB 16384 1073741824 fH y:=by unfold AU;exact .bind (tr h.c) λv h1=>.ne (λJ=>.some ⟨aP,aG 1⟩) λJ=>.bind ((kM (B:=B) (S:=S) (X:=(X.2.1.1,X.2.1.2.1,X.1,v.1,(X.2.1.2.2.2.2.1,[]),X.2.1.2.2.2.1,X.2.1.2.2.2.2.2.2,X.2.1.2.2.2.2.2.1)) ⟨h.2.1.1,h.2.1.2.1,h.1,h1.1.u,⟨h.2.1.e.1,Jc⟩,h.2.1.d.1,h.2.1.h,h.2.1.g.1⟩).eqn) λQ K=>.not (λG=>.some ⟨aP,aG 15⟩) λG=>have I:=lO (x:=(X.2.1.1,X.2.1.2.1,X.1,v.1,(X.2.1.2.2.2.2.1,[]),X.2.1.2.2.2.1,X.2.1.2.2.2.2.2.2,X.2.1.2.2.2.2.2.1)) ⟨h.2.1.1,h.2.1.2.1,h.1,h1.1.u,⟨h.2.1.e.1,Jc⟩,h.2.1.d.1,h.2.1.h,h.2.1.g.1⟩ K.2 G;have j:aB 4096 8192 Ja (X.2.1.1,X.2.1.2.1,X.1,v.1,(X.2.1.2.2.2.2.1,[]),X.2.1.2.2.2.1,X.2.1.2.2.2.2.2.2,X.2.1.2.2.2.2.2.1):=I.2;have:J0 X.2.1.2.2.2.1=_/\_:=lF j.g.1;Jq (τ:=qF) (λq=>(q.1,X.1,X.2.1,(0,0,(0,[],0),(0,[],0),([],[]),[],[],[]),v.1,q.2)) (λq=>(aB 0 0 zI q.1/\0<=q.1/\(q.1<=J0 X.2.1.2.2.2.1\/q.1<=0))/\aB 16384 1073741824 Ja q.2) (λq=>J0 X.2.1.2.2.2.1-q.1) (by rintro⟨k,o⟩ z;dsimp only at z;obtain⟨⟨F,M,P⟩,n⟩:=z;unfold iw;(try dsimp only);exact have:=J2.1 F;.lt (λD=>.bind (Jl j.g.1) λR N=>.eq (λH=>have:=Jm k 1;.some ⟨(J1 .i64 k 1,o),rfl,⟨⟨Je,om,om⟩,n⟩,om,om⟩) λH=>.bind (Jl j.g.1) λE w=>.bind ((wI (B:=16384) (S:=1073741824) (X:=(o,0,4,E.1,0,0,0,(0,0,(false,[]),false,[]),[])) ⟨n,aC,aG 4,w.1.1,aC,aC,aC,⟨aC,aC,⟨trivial,J9⟩,trivial,J9⟩,J9⟩).eqn) λC r=>.ne (λA=>.some ⟨aP,r.1.1.c⟩) λA=>have L:Has C.1.2.2.2.2.2.1 E.1:=ub ⟨n,aC,aG 4,w.1.1,aC,aC,aC,⟨aC,aC,⟨trivial,J9⟩,trivial,J9⟩,J9⟩ r.2 A;have:=Jm k 1;.some ⟨(J1 .i64 k 1,C.1),rfl,⟨⟨Je,om,om⟩,r.1.1.1⟩,om,om⟩) λD=>.some ⟨n,aC⟩) (0,(X.2.1.1,X.2.1.2.1,X.1,v.1,(X.2.1.2.2.2.2.1,[]),X.2.1.2.2.2.1,X.2.1.2.2.2.2.2.2,X.2.1.2.2.2.2.2.1)) rfl ⟨⟨aC,om,om⟩,j.1,j.2.1,j.c.1.u,j.d.1.u,⟨j.e.1.1.u,Jc⟩,j.g.u⟩
theorem Ik{B S:Int}{X:UC}(h:aB B S (.pr JZ JF) X)(r:BH B S:=by omega)(w:S<=9223372036854775807:=by omega):Tot (wQ X) λy=>aB B S mU y:=by unfold wQ;exact .bind (M7 (B:=0) (S:=S) h.2.z.1) λo h1=>.ne (λj=>.some ⟨⟨aP,Jc,aC,Jc,trivial,Jc⟩,h1.2⟩) λj=>have q:aB 16384 1073741824 nY (o.1,X.2.2.1):=⟨h1.1.u,h.2.z.2.1⟩;.bind (Wg q) λv g=>.ne (λn=>.some ⟨⟨aP,Jc,aC,Jc,trivial,Jc⟩,g.2⟩) λn=>.bind (Q1 (B:=400000001) (S:=1073741824) ⟨h1.1.u,g.1,h.2.z.2.2⟩) λx e=>.ne (λk=>.some ⟨⟨aP,Jc,aC,Jc,trivial,Jc⟩,e.2⟩) λk=>.some ⟨⟨e.1.u,h.1⟩,aC⟩
theorem Id{B S:Int}{X:UC}(h:aB B S (.pr JZ JF) X)(e:BH B S:=by omega)(g:S<=9223372036854775807:=by omega):Tot (MS X) λy=>aB B S mU y:=by unfold MS;exact .bind (Ik (B:=B) (S:=S) ⟨h.1,h.2.z.1.u,h.2.z.2.1,h.2.z.2.2⟩) λj h1=>.some (h1)
theorem Zo{B S:Int}{X:BW}(h:aB B S (.pr fF GC) X)(p0:J0 X.2.2.2.2.2.2.2.2.2.2.2.2.2.2.2.2.2.2.2.2.1<=16000)(V:J0 X.2.2.2.2.2.2.2.2.2.2.2.2.2.2.2.2.2.2.2.2.2<=16000)(Q:BG B S:=by omega)(W:S<=9223372036854775807:=by omega):Tot (BU X) λy=>aB B S UK y/\(J0 y.2.2.2.2.2.2.2.2.2.2.2.2.2.2.2.2.2.2.2.2.1<=J0 X.2.2.2.2.2.2.2.2.2.2.2.2.2.2.2.2.2.2.2.2.1+1/\J0 y.2.2.2.2.2.2.2.2.2.2.2.2.2.2.2.2.2.2.2.2.2<=J0 X.2.2.2.2.2.2.2.2.2.2.2.2.2.2.2.2.2.2.2.2.2+1):=by unfold BU;exact have:=Jh (l:=X.2.2.2.2.2.2.2.2.2.2.2.2.2.2.2.2.2.2.2.2.1);have K:aB 16000 S (.l zI) X.2.2.2.2.2.2.2.2.2.2.2.2.2.2.2.2.2.2.2.2.1:=⟨(by omega:J0 X.2.2.2.2.2.2.2.2.2.2.2.2.2.2.2.2.2.2.2.2.1<=16000),λx A=>h.k.k.c.1.2 x A⟩;have H:aB 16000 S (.l eG) X.2.2.2.2.2.2.2.2.2.2.2.2.2.2.2.2.2.2.2.2.2:=⟨(by omega:J0 X.2.2.2.2.2.2.2.2.2.2.2.2.2.2.2.2.2.2.2.2.2<=16000),λx A=>h.k.k.e x A⟩;.bind (Pd (B:=B) (S:=S) ⟨⟨⟨h.2.1,h.c.1,⟨h.d.1,h.e.1,h.g.1⟩,⟨h.h.1,h.i.1,h.j.1⟩,⟨h.k.1,h.k.2.1⟩,h.k.c.1,h.k.d.1,h.k.e.1⟩,h.k.g.1,h.k.h.1,h.k.i.1,trivial,h.k.k.1⟩,h.1.z.2.2.2.1,h.1.z.2.2.1,h.1.z.2.2.2.2.1⟩) λL J=>.bind (Id (B:=B) (S:=S) ⟨J.1,J.2.z.u,h.2.1,h.h.1⟩) λE n=>Jq (τ:=NJ) (λq=>(E.2,q.1,X.2.1,X.2.2.1,X.2.2.2.1,X.2.2.2.2.1,X.2.2.2.2.2.1,X.2.2.2.2.2.2.1,X.2.2.2.2.2.2.2.1,X.2.2.2.2.2.2.2.2.1,X.2.2.2.2.2.2.2.2.2.1,X.2.2.2.2.2.2.2.2.2.2.1,X.2.2.2.2.2.2.2.2.2.2.2.1,X.2.2.2.2.2.2.2.2.2.2.2.2.1,X.2.2.2.2.2.2.2.2.2.2.2.2.2.1,X.2.2.2.2.2.2.2.2.2.2.2.2.2.2.1,X.2.2.2.2.2.2.2.2.2.2.2.2.2.2.2.1,X.2.2.2.2.2.2.2.2.2.2.2.2.2.2.2.2.1,X.2.2.2.2.2.2.2.2.2.2.2.2.2.2.2.2.2.1,X.2.2.2.2.2.2.2.2.2.2.2.2.2.2.2.2.2.2.1,X.2.2.2.2.2.2.2.2.2.2.2.2.2.2.2.2.2.2.2.1,q.2,X.2.2.2.2.2.2.2.2.2.2.2.2.2.2.2.2.2.2.2.2.2,X.1,(0,0,0,(false,[]),0),L.1,E.1)) (λq=>aB 0 0 zI q.1/\aB 16000 S (.l zI) q.2/\(0<=q.1)/\(q.1<=J0 q.2)/\(J0 q.2=J0 X.2.2.2.2.2.2.2.2.2.2.2.2.2.2.2.2.2.2.2.2.1)) (λq=>J0 q.2-q.1) (by rintro⟨o,r⟩ w;dsimp only at w;obtain⟨I,v,O,M,P⟩:=w;unfold nn;(try dsimp only);exact have:=J2.1 I;.lt (λD=>.bind (fC (l:=r)) λ_ _=>.bind (jF v) λU N=>have:=Jm o 1;have:J0 (aW r (Int.toNat o) 0)<=16000:=(kL (t:=zI) (i:=Int.toNat o) (x:=0) v aC).1;have:=Jh (l:=aW r (Int.toNat o) 0);have:J0 (aW r (Int.toNat o) 0)=J0 r:=pJ;.some ⟨(J1 .i64 o 1,aW r (Int.toNat o) 0),rfl,⟨Je,kL (t:=zI) (i:=Int.toNat o) (x:=0) v aC,om,om,om⟩,om,om⟩) λD=>.inr (.ne (λC=>.bind (FN n.2) λR F=>.some ⟨⟨F.u,h.2.1,h.c.1,h.d.1,h.e.1,h.g.1,h.h.1,h.i.1,h.j.1,h.k.1,h.k.2.1,h.k.c.1,h.k.d.1,h.k.e.1,h.k.g.1,h.k.h.1,h.k.i.1,trivial,h.k.k.1,trivial,v.u,H.u⟩,om⟩) λC=>.bind (FN (B:=0) (S:=0) aC) λT G=>.some ⟨⟨G.u,n.1.1.1,n.1.1.2.1,n.1.1.c.1.1,n.1.1.c.1.2.1,n.1.1.c.1.c,n.1.1.d.1.1,n.1.1.d.1.2.1,n.1.1.d.1.c,n.1.1.e.1.1,n.1.1.e.1.2,n.1.1.g.1,n.1.1.h.1,n.1.1.i,n.1.2.1,n.1.c.1,n.1.d.1,trivial,n.1.g,trivial,v.u,H.u⟩,om⟩)) (0,X.2.2.2.2.2.2.2.2.2.2.2.2.2.2.2.2.2.2.2.2.1) rfl ⟨aC,K,om,om,om⟩
theorem NG{B S:Int}{X:nu}(h:aB B S (.pr Jn (.pr zI GC)) X)(o:BH B S:=by omega):Tot (pW X) λy=>aB B S UK y/\(J0 y.2.2.2.2.2.2.2.2.2.2.2.2.2.2.2.2.2.2.2.2.1=J0 X.2.2.2.2.2.2.2.2.2.2.2.2.2.2.2.2.2.2.2.2.2.1/\J0 y.2.2.2.2.2.2.2.2.2.2.2.2.2.2.2.2.2.2.2.2.2=J0 X.2.2.2.2.2.2.2.2.2.2.2.2.2.2.2.2.2.2.2.2.2.2):=by unfold pW;exact .eq (λc1=>.bind (FN h.2.1) λr h3=>.some ⟨⟨h3.u,h.1.1.1,h.1.1.2.1,h.1.1.c.1.1,h.1.1.c.1.2.1,h.1.1.c.1.c,h.1.1.d.1.1,h.1.1.d.1.2.1,h.1.1.d.1.c,h.1.1.e.1.1,h.1.1.e.1.2,h.1.1.g.1,h.1.1.h.1,h.1.1.i,h.1.2.1,h.1.c.1,h.1.d.1,trivial,h.1.g,trivial,h.k.k.d⟩,om⟩) λc1=>.bind (FN h.2.1) λq n=>.some ⟨⟨n.u,h.c.1,h.d.1,h.e.1,h.g.1,h.h.1,h.i.1,h.j.1,h.k.1,h.k.2.1,h.k.c.1,h.k.d.1,h.k.e.1,h.k.g.1,h.k.h.1,h.k.i.1,h.k.j.1,trivial,h.k.k.2.1,trivial,h.k.k.d⟩,om⟩
theorem Y8{B S:Int}{X:BW}(h:aB B S (.pr fF GC) X)(p0:J0 X.2.2.2.2.2.2.2.2.2.2.2.2.2.2.2.2.2.2.2.2.1<=16000)(p1:J0 X.2.2.2.2.2.2.2.2.2.2.2.2.2.2.2.2.2.2.2.2.2<=16000)(ae:BH B S:=by omega)(hB:B<=1000000:=by omega)(hS:S<=1000000000000:=by omega):Tot (BO X) λy=>aB B S UK y/\(J0 y.2.2.2.2.2.2.2.2.2.2.2.2.2.2.2.2.2.2.2.2.1<=J0 X.2.2.2.2.2.2.2.2.2.2.2.2.2.2.2.2.2.2.2.2.1+1/\J0 y.2.2.2.2.2.2.2.2.2.2.2.2.2.2.2.2.2.2.2.2.2<=J0 X.2.2.2.2.2.2.2.2.2.2.2.2.2.2.2.2.2.2.2.2.2+1):=by unfold BO;exact have:=Jh (l:=X.2.2.2.2.2.2.2.2.2.2.2.2.2.2.2.2.2.2.2.2.1);have:J0 X.2.2.2.2.2.2.2.2.2.2.2.2.2.2.2.2.2.2.2.2.2=_:=JE h.k.k.d;have E:aB 16000 S (.l zI) X.2.2.2.2.2.2.2.2.2.2.2.2.2.2.2.2.2.2.2.2.1:=⟨(by omega:J0 X.2.2.2.2.2.2.2.2.2.2.2.2.2.2.2.2.2.2.2.2.1<=16000),λx P=>h.k.k.c.1.2 x P⟩;have D:aB 16000 S (.l eG) X.2.2.2.2.2.2.2.2.2.2.2.2.2.2.2.2.2.2.2.2.2:=⟨(by omega:J0 X.2.2.2.2.2.2.2.2.2.2.2.2.2.2.2.2.2.2.2.2.2<=16000),λx P=>h.k.k.e x P⟩;.eq (λc8=>.bind (Qh (B:=B) (S:=S) ⟨⟨h.2.1,h.c.1,⟨h.d.1,h.e.1,h.g.1⟩,⟨h.h.1,h.i.1,h.j.1⟩,⟨h.k.1,h.k.2.1⟩,h.k.c.1,h.k.d.1,h.k.e.1⟩,h.k.g.1,h.k.h.1,h.k.i.1,trivial,h.k.k.1⟩) λy2 C=>.eq (λV=>.bind (bT (B:=16001) (Bl:=16000) (Bm:=1) (S:=S) (J0 X.2.2.2.2.2.2.2.2.2.2.2.2.2.2.2.2.2.2.2.2.1) 1 E ((cF (B:=1) (S:=0) (t:=zI) oo C.2.1).u)) λy3 Q=>.bind (NG (B:=B) (S:=S) ⟨C.1,C.c,h.2.1,h.c.1,h.d.1,h.e.1,h.g.1,h.h.1,h.i.1,h.j.1,h.k.1,h.k.2.1,h.k.c.1,h.k.d.1,h.k.e.1,h.k.g.1,h.k.h.1,h.k.i.1,trivial,h.k.k.1,trivial,Q.1.u,D.u⟩) λO n=>have:J0 O.2.2.2.2.2.2.2.2.2.2.2.2.2.2.2.2.2.2.2.2.2=_:=JE n.1.k.k.d;have:J0 O.2.2.2.2.2.2.2.2.2.2.2.2.2.2.2.2.2.2.2.2.1=J0 y3/\J0 O.2.2.2.2.2.2.2.2.2.2.2.2.2.2.2.2.2.2.2.2.2=J0 X.2.2.2.2.2.2.2.2.2.2.2.2.2.2.2.2.2.2.2.2.2:=n.2;.some ⟨⟨⟨n.1.1.z.1,C.2.1,n.1.1.z.2.2.u⟩,n.1.2.1,n.1.c.1,n.1.d.1,n.1.e.1,n.1.g.1,n.1.h.1,n.1.i.1,n.1.j.1,n.1.k.1,n.1.k.2.1,n.1.k.c.1,n.1.k.d.1,n.1.k.e.1,n.1.k.g.1,n.1.k.h.1,n.1.k.i.1,trivial,n.1.k.k.1,trivial,n.1.k.k.c⟩,om⟩) λV=>.bind (NG (B:=B) (S:=S) ⟨C.1,C.c,h.2.1,h.c.1,h.d.1,h.e.1,h.g.1,h.h.1,h.i.1,h.j.1,h.k.1,h.k.2.1,h.k.c.1,h.k.d.1,h.k.e.1,h.k.g.1,h.k.h.1,h.k.i.1,trivial,h.k.k.1,trivial,E.u,D.u⟩) λN o=>have:J0 N.2.2.2.2.2.2.2.2.2.2.2.2.2.2.2.2.2.2.2.2.2=_:=JE o.1.k.k.d;have:J0 N.2.2.2.2.2.2.2.2.2.2.2.2.2.2.2.2.2.2.2.2.1=J0 X.2.2.2.2.2.2.2.2.2.2.2.2.2.2.2.2.2.2.2.2.1/\J0 N.2.2.2.2.2.2.2.2.2.2.2.2.2.2.2.2.2.2.2.2.2=J0 X.2.2.2.2.2.2.2.2.2.2.2.2.2.2.2.2.2.2.2.2.2:=o.2;.some ⟨⟨⟨o.1.1.z.1,C.2.1,o.1.1.z.2.2.u⟩,o.1.2.1,o.1.c.1,o.1.d.1,o.1.e.1,o.1.g.1,o.1.h.1,o.1.i.1,o.1.j.1,o.1.k.1,o.1.k.2.1,o.1.k.c.1,o.1.k.d.1,o.1.k.e.1,o.1.k.g.1,o.1.k.h.1,o.1.k.i.1,trivial,o.1.k.k.1,trivial,o.1.k.k.c⟩,om⟩) λc8=>.eq (λT=>.bind (Y1 (B:=B) (S:=S) ⟨h.1.z.u,h.2.1,h.c.1,h.d.1,h.e.1,h.g.1,h.h.1,h.i.1,h.j.1,h.k.1,h.k.2.1,h.k.c.1,h.k.d.1,h.k.e.1,h.k.g.1,h.k.h.1,h.k.i.1,trivial,h.k.k.1,trivial,E.u,D.u⟩ om om) λZ w=>have:J0 Z.2.2.2.2.2.2.2.2.2.2.2.2.2.2.2.2.2.2.2.2.1<=J0 X.2.2.2.2.2.2.2.2.2.2.2.2.2.2.2.2.2.2.2.2.1+1/\J0 Z.2.2.2.2.2.2.2.2.2.2.2.2.2.2.2.2.2.2.2.2.2<=J0 X.2.2.2.2.2.2.2.2.2.2.2.2.2.2.2.2.2.2.2.2.2+1:=w.2;.some ⟨⟨w.1.1.z.u,w.1.2.1,w.1.c.1,w.1.d.1,w.1.e.1,w.1.g.1,w.1.h.1,w.1.i.1,w.1.j.1,w.1.k.1,w.1.k.2.1,w.1.k.c.1,w.1.k.d.1,w.1.k.e.1,w.1.k.g.1,w.1.k.h.1,w.1.k.i.1,trivial,w.1.k.k.1,trivial,w.1.k.k.c⟩,om⟩) λT=>.eq (λa5=>.bind (Qz (B:=B) (S:=S) ⟨⟨⟨h.2.1,h.c.1,⟨h.d.1,h.e.1,h.g.1⟩,⟨h.h.1,h.i.1,h.j.1⟩,⟨h.k.1,h.k.2.1⟩,h.k.c.1,h.k.d.1,h.k.e.1⟩,h.k.g.1,h.k.h.1,h.k.i.1,trivial,h.k.k.1⟩,h.1.z.2.2.1⟩) λy7 J=>.bind (NG (B:=B) (S:=S) ⟨J.1,J.2,h.2.1,h.c.1,h.d.1,h.e.1,h.g.1,h.h.1,h.i.1,h.j.1,h.k.1,h.k.2.1,h.k.c.1,h.k.d.1,h.k.e.1,h.k.g.1,h.k.h.1,h.k.i.1,trivial,h.k.k.1,trivial,E.u,D.u⟩) λM q=>have:J0 M.2.2.2.2.2.2.2.2.2.2.2.2.2.2.2.2.2.2.2.2.2=_:=JE q.1.k.k.d;have:J0 M.2.2.2.2.2.2.2.2.2.2.2.2.2.2.2.2.2.2.2.2.1=J0 X.2.2.2.2.2.2.2.2.2.2.2.2.2.2.2.2.2.2.2.2.1/\J0 M.2.2.2.2.2.2.2.2.2.2.2.2.2.2.2.2.2.2.2.2.2=J0 X.2.2.2.2.2.2.2.2.2.2.2.2.2.2.2.2.2.2.2.2.2:=q.2;.some ⟨⟨q.1.1.z.u,q.1.2.1,q.1.c.1,q.1.d.1,q.1.e.1,q.1.g.1,q.1.h.1,q.1.i.1,q.1.j.1,q.1.k.1,q.1.k.2.1,q.1.k.c.1,q.1.k.d.1,q.1.k.e.1,q.1.k.g.1,q.1.k.h.1,q.1.k.i.1,trivial,q.1.k.k.1,trivial,q.1.k.k.c⟩,om⟩) λa5=>.eq (λa1=>.bind (X4 (B:=B) (S:=S) ⟨⟨h.2.1,h.c.1,⟨h.d.1,h.e.1,h.g.1⟩,⟨h.h.1,h.i.1,h.j.1⟩,⟨h.k.1,h.k.2.1⟩,h.k.c.1,h.k.d.1,h.k.e.1⟩,h.k.g.1,h.k.h.1,h.k.i.1,trivial,h.k.k.1⟩) λy9 L=>.bind (NG (B:=B) (S:=S) ⟨L.1,L.c,h.2.1,h.c.1,h.d.1,h.e.1,h.g.1,h.h.1,h.i.1,h.j.1,h.k.1,h.k.2.1,h.k.c.1,h.k.d.1,h.k.e.1,h.k.g.1,h.k.h.1,h.k.i.1,trivial,h.k.k.1,trivial,E.u,D.u⟩) λG r=>have:J0 G.2.2.2.2.2.2.2.2.2.2.2.2.2.2.2.2.2.2.2.2.2=_:=JE r.1.k.k.d;have:J0 G.2.2.2.2.2.2.2.2.2.2.2.2.2.2.2.2.2.2.2.2.1=J0 X.2.2.2.2.2.2.2.2.2.2.2.2.2.2.2.2.2.2.2.2.1/\J0 G.2.2.2.2.2.2.2.2.2.2.2.2.2.2.2.2.2.2.2.2.2=J0 X.2.2.2.2.2.2.2.2.2.2.2.2.2.2.2.2.2.2.2.2.2:=r.2;.some ⟨⟨r.1.1.z.u,r.1.2.1,r.1.c.1,r.1.d.1,r.1.e.1,r.1.g.1,r.1.h.1,r.1.i.1,r.1.j.1,r.1.k.1,r.1.k.2.1,r.1.k.c.1,r.1.k.d.1,r.1.k.e.1,r.1.k.g.1,r.1.k.h.1,r.1.k.i.1,trivial,r.1.k.k.1,trivial,r.1.k.k.c⟩,om⟩) λa1=>.eq (λU=>.bind (LW (B:=B) (S:=S) ⟨h.d.1,h.e.1,h.g.1⟩) λad a2=>.bind (UZ (B:=B) (S:=S) ⟨⟨h.d.1,h.e.1,h.g.1⟩,a2⟩) λac F=>.eq (λW=>.bind (FN F.1.2) λa8 a3=>.some ⟨⟨a3.u,h.2.1,h.c.1,F.1.1.1,F.1.1.2.1.u,F.1.1.c,h.h.1,h.i.1,h.j.1,h.k.1,h.k.2.1,h.k.c.1,h.k.d.1,h.k.e.1,h.k.g.1,h.k.h.1,h.k.i.1,trivial,h.k.k.1,trivial,E.u,D.u⟩,om⟩) λW=>.bind (FN F.1.2) λaa R=>.some ⟨⟨R.u,h.2.1,h.c.1,h.d.1,h.e.1,h.g.1,h.h.1,h.i.1,h.j.1,h.k.1,h.k.2.1,h.k.c.1,h.k.d.1,h.k.e.1,h.k.g.1,h.k.h.1,h.k.i.1,trivial,h.k.k.1,trivial,E.u,D.u⟩,om⟩) λU=>.eq (λY=>.bind (Zo (B:=B) (S:=S) ⟨h.1.z.u,h.2.1,h.c.1,h.d.1,h.e.1,h.g.1,h.h.1,h.i.1,h.j.1,h.k.1,h.k.2.1,h.k.c.1,h.k.d.1,h.k.e.1,h.k.g.1,h.k.h.1,h.k.i.1,trivial,h.k.k.1,trivial,E.u,D.u⟩ om om) λK A=>have:J0 K.2.2.2.2.2.2.2.2.2.2.2.2.2.2.2.2.2.2.2.2.1<=J0 X.2.2.2.2.2.2.2.2.2.2.2.2.2.2.2.2.2.2.2.2.1+1/\J0 K.2.2.2.2.2.2.2.2.2.2.2.2.2.2.2.2.2.2.2.2.2<=J0 X.2.2.2.2.2.2.2.2.2.2.2.2.2.2.2.2.2.2.2.2.2+1:=A.2;.some ⟨⟨A.1.1.z.u,A.1.2.1,A.1.c.1,A.1.d.1,A.1.e.1,A.1.g.1,A.1.h.1,A.1.i.1,A.1.j.1,A.1.k.1,A.1.k.2.1,A.1.k.c.1,A.1.k.d.1,A.1.k.e.1,A.1.k.g.1,A.1.k.h.1,A.1.k.i.1,trivial,A.1.k.k.1,trivial,A.1.k.k.c⟩,om⟩) λY=>.eq (λa4=>.bind (Kf (B:=B) (S:=S) ⟨⟨h.2.1,h.c.1,⟨h.d.1,h.e.1,h.g.1⟩,⟨h.h.1,h.i.1,h.j.1⟩,⟨h.k.1,h.k.2.1⟩,h.k.c.1,h.k.d.1,h.k.e.1⟩,h.k.g.1,h.k.h.1,h.k.i.1,trivial,h.k.k.1⟩) λab I=>.bind (NG (B:=B) (S:=S) ⟨I.1,I.c,h.2.1,h.c.1,h.d.1,h.e.1,h.g.1,h.h.1,h.i.1,h.j.1,h.k.1,h.k.2.1,h.k.c.1,h.k.d.1,h.k.e.1,h.k.g.1,h.k.h.1,h.k.i.1,trivial,h.k.k.1,trivial,E.u,D.u⟩) λH v=>have:J0 H.2.2.2.2.2.2.2.2.2.2.2.2.2.2.2.2.2.2.2.2.2=_:=JE v.1.k.k.d;have:J0 H.2.2.2.2.2.2.2.2.2.2.2.2.2.2.2.2.2.2.2.2.1=J0 X.2.2.2.2.2.2.2.2.2.2.2.2.2.2.2.2.2.2.2.2.1/\J0 H.2.2.2.2.2.2.2.2.2.2.2.2.2.2.2.2.2.2.2.2.2=J0 X.2.2.2.2.2.2.2.2.2.2.2.2.2.2.2.2.2.2.2.2.2:=v.2;.some ⟨⟨v.1.1.z.u,v.1.2.1,v.1.c.1,v.1.d.1,v.1.e.1,v.1.g.1,v.1.h.1,v.1.i.1,v.1.j.1,v.1.k.1,v.1.k.2.1,v.1.k.c.1,v.1.k.d.1,v.1.k.e.1,v.1.k.g.1,v.1.k.h.1,v.1.k.i.1,trivial,v.1.k.k.1,trivial,v.1.k.k.c⟩,om⟩) λa4=>.bind (eS (B:=0) (S:=0) (aG 1)) λa9 a0=>.some ⟨⟨a0.1.u,h.2.1,h.c.1,h.d.1,h.e.1,h.g.1,h.h.1,h.i.1,h.j.1,h.k.1,h.k.2.1,h.k.c.1,h.k.d.1,h.k.e.1,h.k.g.1,h.k.h.1,h.k.i.1,trivial,h.k.k.1,trivial,E.u,D.u⟩,om⟩
theorem Fy{B S:Int}{X:Jz×(List pM)}(h:aB B S (.pr Jn (.l fF)) X)(aq:BH B S:=by omega)(hB:B<=1000000:=by omega)(hS:S<=1000000000000:=by omega):Tot (zM X) λy=>aB B S (.pr Jn (.pr (.l dP) (.l eG))) y:=by unfold zM;exact Jq (τ:=Int×(List Int)×(List tO)×Int×Int×Int×(List J5)×Int×Int×(List aF)×Int×(List aD)×(List aD)×(List Ju)×(List aA)×(List aA)×(List (List UInt8))×Int×(List Int)×Bool×(List JW)×Bool×(List eF)) (λq=>(X.2,q.1,X.1,((0,0,(0,[],0),(0,[],0),([],[]),[],[],[]),[],0,[],false,[]),q.2.1,q.2.2.1,q.2.2.2.1,q.2.2.2.2.1,q.2.2.2.2.2.1,q.2.2.2.2.2.2.1,q.2.2.2.2.2.2.2.1,q.2.2.2.2.2.2.2.2.1,q.2.2.2.2.2.2.2.2.2.1,q.2.2.2.2.2.2.2.2.2.2.1,q.2.2.2.2.2.2.2.2.2.2.2.1,q.2.2.2.2.2.2.2.2.2.2.2.2.1,q.2.2.2.2.2.2.2.2.2.2.2.2.2.1,q.2.2.2.2.2.2.2.2.2.2.2.2.2.2.1,q.2.2.2.2.2.2.2.2.2.2.2.2.2.2.2.1,q.2.2.2.2.2.2.2.2.2.2.2.2.2.2.2.2.1,q.2.2.2.2.2.2.2.2.2.2.2.2.2.2.2.2.2.1,q.2.2.2.2.2.2.2.2.2.2.2.2.2.2.2.2.2.2.1,q.2.2.2.2.2.2.2.2.2.2.2.2.2.2.2.2.2.2.2.1,q.2.2.2.2.2.2.2.2.2.2.2.2.2.2.2.2.2.2.2.2.1,q.2.2.2.2.2.2.2.2.2.2.2.2.2.2.2.2.2.2.2.2.2.1,q.2.2.2.2.2.2.2.2.2.2.2.2.2.2.2.2.2.2.2.2.2.2)) (λq=>aB 0 0 zI q.1/\aB 1000 S (.l zI) q.2.1/\aB 1000 S (.l eG) q.2.2.1/\aB 0 0 zI q.2.2.2.1/\aB 0 0 zI q.2.2.2.2.1/\aB 0 0 zI q.2.2.2.2.2.1/\aB B S (.l J8) q.2.2.2.2.2.2.1/\aB 0 0 zI q.2.2.2.2.2.2.2.1/\aB 0 0 zI q.2.2.2.2.2.2.2.2.1/\aB B S (.l dU) q.2.2.2.2.2.2.2.2.2.1/\aB 0 0 zI q.2.2.2.2.2.2.2.2.2.2.1/\aB B S (.l Jb) q.2.2.2.2.2.2.2.2.2.2.2.1/\aB B S (.l Jb) q.2.2.2.2.2.2.2.2.2.2.2.2.1/\aB B S (.l Jo) q.2.2.2.2.2.2.2.2.2.2.2.2.2.1/\aB B S (.l Jf) q.2.2.2.2.2.2.2.2.2.2.2.2.2.2.1/\aB B S (.l Jf) q.2.2.2.2.2.2.2.2.2.2.2.2.2.2.2.1/\aB B S (.l .s) q.2.2.2.2.2.2.2.2.2.2.2.2.2.2.2.2.1/\aB 0 0 zI q.2.2.2.2.2.2.2.2.2.2.2.2.2.2.2.2.2.1/\aB B S (.l zI) q.2.2.2.2.2.2.2.2.2.2.2.2.2.2.2.2.2.2.1/\aB B S (.l JV) q.2.2.2.2.2.2.2.2.2.2.2.2.2.2.2.2.2.2.2.2.1/\aB 1000 S (.l dP) q.2.2.2.2.2.2.2.2.2.2.2.2.2.2.2.2.2.2.2.2.2.2/\(0<=q.1)/\(q.1<=1000)/\(J0 q.2.1<=q.1)/\(J0 q.2.2.1<=q.1)/\(J0 q.2.2.2.2.2.2.2.2.2.2.2.2.2.2.2.2.2.2.2.2.2.2<=q.1)) (λq=>1001-q.1) (by rintro⟨N,v,M,al,am,an,ao,aa,ac,ai,ak,ad,af,ag,a6,a8,aj,ah,ae,a7,a9,ab,J⟩ W;dsimp only at W;obtain⟨i1,i2,i3,i4,Q,V,R,P,U,E,K,L,D,G,w,A,C,H,I,F,r,ax,av,aw,ap,au⟩:=W;unfold iq;(try dsimp only);exact have:J0 v<=1000:=i2.1;have:=Jh (l:=v);have:J0 M=_/\_:=lF i3;have:J0 J=_/\_:=lF r;have:J0 X.2=_:=JE h.2;.lt (λa3=>.lt (λa1=>.not (λa2=>.bind (Jl h.2) λy3 a4=>.bind (Y8 (B:=B) (S:=S) ⟨a4.1.z.u,i4,Q,V,R,P,U,E,K,L,D,G,w,A,C,H,I,trivial,F,trivial,i2.u,i3.u⟩ om om) λo n=>have:J0 o.2.2.2.2.2.2.2.2.2.2.2.2.2.2.2.2.2.2.2.2.2=_:=JE n.1.k.k.d;have:J0 o.2.2.2.2.2.2.2.2.2.2.2.2.2.2.2.2.2.2.2.2.1<=J0 v+1/\J0 o.2.2.2.2.2.2.2.2.2.2.2.2.2.2.2.2.2.2.2.2.2<=J0 M+1:=n.2;.bind (bT (B:=1001) (Bl:=1000) (Bm:=1) (S:=S) (J0 J) 1 r (cF (B:=1) (S:=S) (t:=dP) oo (n.1.1.z.u))) λT Y=>have a5:aB 1000 S (.l zI) o.2.2.2.2.2.2.2.2.2.2.2.2.2.2.2.2.2.2.2.2.1:=⟨(by omega:J0 o.2.2.2.2.2.2.2.2.2.2.2.2.2.2.2.2.2.2.2.2.1<=1000),λx O=>n.1.k.k.c.1.2 x O⟩;have a0:aB 1000 S (.l eG) o.2.2.2.2.2.2.2.2.2.2.2.2.2.2.2.2.2.2.2.2.2:=⟨(by omega:J0 o.2.2.2.2.2.2.2.2.2.2.2.2.2.2.2.2.2.2.2.2.2<=1000),λx O=>n.1.k.k.e x O⟩;have:J0 T=_:=JE Y.1;have Z:aB 1000 S (.l dP) T:=⟨(by omega:J0 T<=1000),λx O=>Y.1.2 x O⟩;have:=Jm N 1;.some ⟨(J1 .i64 N 1,o.2.2.2.2.2.2.2.2.2.2.2.2.2.2.2.2.2.2.2.2.1,o.2.2.2.2.2.2.2.2.2.2.2.2.2.2.2.2.2.2.2.2.2,o.2.1,o.2.2.1,o.2.2.2.1,o.2.2.2.2.1,o.2.2.2.2.2.1,o.2.2.2.2.2.2.1,o.2.2.2.2.2.2.2.1,o.2.2.2.2.2.2.2.2.1,o.2.2.2.2.2.2.2.2.2.1,o.2.2.2.2.2.2.2.2.2.2.1,o.2.2.2.2.2.2.2.2.2.2.2.1,o.2.2.2.2.2.2.2.2.2.2.2.2.1,o.2.2.2.2.2.2.2.2.2.2.2.2.2.1,o.2.2.2.2.2.2.2.2.2.2.2.2.2.2.1,o.2.2.2.2.2.2.2.2.2.2.2.2.2.2.2.1,o.2.2.2.2.2.2.2.2.2.2.2.2.2.2.2.2.1,o.2.2.2.2.2.2.2.2.2.2.2.2.2.2.2.2.2.1,o.2.2.2.2.2.2.2.2.2.2.2.2.2.2.2.2.2.2.1,o.2.2.2.2.2.2.2.2.2.2.2.2.2.2.2.2.2.2.2.1,T),rfl,⟨Je,a5,a0,n.1.2.1,n.1.c.1,n.1.d.1,n.1.e.1,n.1.g.1,n.1.h.1,n.1.i.1,n.1.j.1,n.1.k.1,n.1.k.2.1,n.1.k.c.1,n.1.k.d.1,n.1.k.e.1,n.1.k.g.1,n.1.k.h.1,n.1.k.i.1,n.1.k.k.1,Z,om,om,om,om,om⟩,om,om⟩) λa2=>.some ⟨⟨⟨i4,Q,⟨V,R,P⟩,⟨U,E,K⟩,⟨L,D⟩,G,w,A⟩,C,H,I,trivial,F⟩,r.u,i3.u⟩) λa1=>.some ⟨⟨⟨i4,Q,⟨V,R,P⟩,⟨U,E,K⟩,⟨L,D⟩,G,w,A⟩,C,H,I,trivial,F⟩,r.u,i3.u⟩) λa3=>.some ⟨⟨⟨i4,Q,⟨V,R,P⟩,⟨U,E,K⟩,⟨L,D⟩,G,w,A⟩,C,H,I,trivial,F⟩,r.u,i3.u⟩) (0,[],[],X.1.1.1,X.1.1.2.1,X.1.1.2.2.1.1,X.1.1.2.2.1.2.1,X.1.1.2.2.1.2.2,X.1.1.2.2.2.1.1,X.1.1.2.2.2.1.2.1,X.1.1.2.2.2.1.2.2,X.1.1.2.2.2.2.1.1,X.1.1.2.2.2.2.1.2,X.1.1.2.2.2.2.2.1,X.1.1.2.2.2.2.2.2.1,X.1.1.2.2.2.2.2.2.2,X.1.2.1,X.1.2.2.1,X.1.2.2.2.1,X.1.2.2.2.2.1,X.1.2.2.2.2.2,false,[]) rfl ⟨aC,Jc,Jc,h.1.1.1,h.1.1.2.1,h.1.1.c.1.1,h.1.1.c.1.2.1,h.1.1.c.1.c,h.1.1.d.1.1,h.1.1.d.1.2.1,h.1.1.d.1.c,h.1.1.e.1.1,h.1.1.e.1.2,h.1.1.g.1,h.1.1.h.1,h.1.1.i,h.1.2.1,h.1.c.1,h.1.d.1,h.1.g,Jc,om,om,om,om,om⟩
theorem Yy{B S:Int}{X:SL}(h:aB B S TM X)(p0:0<=X.2.2.2)(w:0<=X.1)(q:X.1<=1000)(o:BH B S:=by omega)(A:B<=1000000:=by omega)(z:S<=1000000000000:=by omega):Tot (BM X) λy=>aB B S (.pr Jn J3) y/\(0<=y.2.2):=by unfold BM;exact .bind (J4 (B:=B) (S:=S) ⟨aG 4,h.c⟩ om) λC h3=>have:=J2.1 h3.1.c;.bind (J4 (B:=B) (S:=S) ⟨aG 3,h3.1.2⟩ om) λr j=>have:=J2.1 j.1.c;.bind (Gk (B:=0) (S:=0) ⟨Je,Je⟩) λx k=>.bind (Y7 (B:=B) (S:=S) ⟨Je,h.1,trivial,j.1.2⟩ om om om) λn e=>have:0<=n.2.2:=e.2;.bind (Fy (B:=B) (S:=S) ⟨k.1.u,e.1.1⟩) λv g=>.some ⟨⟨g.1,e.1.2⟩,om⟩
theorem zf{B S:Int}{X:SL}(h:aB B S TM X)(p0:0<=X.2.2.2)(j:0<=X.1)(n:X.1<=1000)(g:BH B S:=by omega)(o:B<=1000000:=by omega)(k:S<=1000000000000:=by omega):Tot (BR X) λy=>aB B S (.pr Ja J3) y/\(0<=y.2.2):=by unfold BR;exact .bind (Yy (B:=B) (S:=S) ⟨h.1,trivial,h.c⟩ om om om) λe h3=>have:0<=e.2.2:=h3.2;.some ⟨⟨h3.1.1.1,h3.1.2⟩,om⟩
theorem tu{B S:Int}{X:gW}(h:aB B S nY X)(x:BC B S 0 0:=by omega):Tot (wK X) λy=>aB 4096 8192 nY y:=by unfold wK;exact .bind ((mL h.1).eqn) λA h1=>.not (λk=>.some ⟨aP,aG 26⟩) λk=>have v:=mH h.1 h1.2 k;have:=Jh (l:=X.1.2.1);have:J0 X.1.2.1=_:=JE h.1.2.1;have:=J2.1 h.1.c;have e:aB 4096 8192 Jy X.1:=v.2;have:=J2.1 h.2;.ltf (λj=>.bind (AH e om om om) λr w=>have:=Jm r 1;.gtf (λq=>.gt (λo=>.some ⟨aP,aG 1⟩) λo=>have:=Jm X.1.2.2 1;.gt (λn=>.some ⟨aP,aG 15⟩) λn=>have:=bC X.2 X.1.1;.bind (pI e.2.1) λz g=>.clo g.1 oo (by decide) (.some ⟨⟨h.2,g.1,e.c⟩,aC⟩)) λq=>.some ⟨aP,aG 1⟩) λj=>.some ⟨aP,aG 1⟩
theorem Wm{B S:Int}{X:iO}(h:aB B S xH X)(p0:0<=X.2.2)(N:0<=X.1)(I:X.1<=1000)(G:BH B S:=by omega)(R:B<=1000000:=by omega)(Q:S<=1000000000000:=by omega):Tot (FW X) λy=>aB B S k0 y/\(0<=y.2.2):=by unfold FW;exact .bind (zf (B:=B) (S:=S) ⟨h.1,trivial,h.2⟩ om om om) λD h3=>have:0<=D.2.2:=h3.2;.bind (J4 (B:=B) (S:=S) ⟨aG 2,h3.1.2⟩ om) λJ o=>have:=J2.1 o.1.c;.eq (λz=>.bind (LW h3.1.1.c.1) λP x=>.bind (UZ (B:=B) (S:=S) ⟨h3.1.1.c.1,x⟩) λL g=>.bind (J4 (B:=B) (S:=S) ⟨aG 5,o.1.2⟩ om) λM j=>have:=J2.1 j.1.c;.eq (λv=>have:=J2.1 g.1.1.c;.ge (λw=>.bind (J4 (B:=B) (S:=S) ⟨Je,j.1.2⟩ om) λH k=>have:=J2.1 k.1.c;.bind (tu (B:=4096) (S:=8192) ⟨g.1.1,Je⟩) λK q=>.some ⟨⟨q.1.u,k.1.2⟩,om⟩) λw=>.some ⟨⟨g.1.1.u,j.1.2⟩,om⟩) λv=>.some ⟨⟨g.1.1.u,j.1.2⟩,om⟩) λz=>.bind (J4 (B:=B) (S:=S) ⟨aG 5,o.1.2⟩ om) λO e=>have:=J2.1 e.1.c;.eq (λr=>have:=J2.1 h3.1.1.c.1.c;.ge (λA=>.bind (J4 (B:=B) (S:=S) ⟨Je,e.1.2⟩ om) λE n=>have:=J2.1 n.1.c;.bind (tu (B:=B) (S:=S) ⟨h3.1.1.c.1,Je⟩) λF C=>.some ⟨⟨C.1.u,n.1.2⟩,om⟩) λA=>.some ⟨⟨h3.1.1.c.1,e.1.2⟩,om⟩) λr=>.some ⟨⟨h3.1.1.c.1,e.1.2⟩,om⟩
theorem Zi{B S:Int}{X:UE}(h:aB B S ju X)(p0:0<=X.2.2)(D:BG B S:=by omega):Tot (WR X) λy=>aB B S ju y/\(0<=y.2.2):=by unfold WR;exact .bind (J4 (B:=B) (S:=S) ⟨aG 4,h.2⟩ om) λq h2=>have:=J2.1 h2.1.1;have:=J2.1 h2.1.c;have:0<=q.1/\q.1<4/\0<=q.2.2:=⟨h2.2.1,h2.c.1 (show(1:Int)<=4 by decide),h2.d⟩;.eq (λC=>.bind (JU h2.1.2 om) λx o=>have:0<=x.2.2:=o.2;.some ⟨⟨⟨o.1.1,h.1.z.2.u⟩,o.1.2⟩,om⟩) λC=>.eq (λv=>.bind (JU h2.1.2 om) λA g=>have:0<=A.2.2:=g.2;.some ⟨⟨⟨h.1.z.1,g.1.1,h.1.z.2.2.u⟩,g.1.2⟩,om⟩) λv=>.eq (λr=>.bind (J4 (B:=B) (S:=S) ⟨aG 2,h2.1.2⟩ om) λG n=>have:=J2.1 n.1.c;.bind (sB n.1.2 om) λH e=>have:=J2.1 e.1.c;.some ⟨⟨⟨h.1.z.1,h.1.z.2.1,⟨trivial,e.1.1.z.u⟩,h.1.z.2.2.2.u⟩,e.1.2⟩,om⟩) λr=>.eq (λw=>.bind (J4 (B:=B) (S:=S) ⟨aG 2,h2.1.2⟩ om) λE k=>have:=J2.1 k.1.c;.bind (sB k.1.2 om) λF j=>have:=J2.1 j.1.c;.some ⟨⟨⟨h.1.z.1,h.1.z.2.1,h.1.z.2.2.1.u,trivial,j.1.1.z.u⟩,j.1.2⟩,om⟩) λw=>.some ⟨⟨h.1.z.u,h2.1.2⟩,om⟩
theorem Zd{B S:Int}{X:SX}(h:aB B S ka X)(p0:0<=X.2.2)(U:BG B S:=by omega):Tot (WT X) λy=>aB B S ka y/\(0<=y.2.2):=by unfold WT;exact .bind (J4 (B:=B) (S:=S) ⟨aG 9,h.2⟩ om) λx h2=>have:=J2.1 h2.1.1;have:=J2.1 h2.1.c;have:0<=x.1/\x.1<9/\0<=x.2.2:=⟨h2.2.1,h2.c.1 (show(1:Int)<=9 by decide),h2.d⟩;.eq (λQ=>.bind (JU h2.1.2 om) λL w=>have:0<=L.2.2:=w.2;.some ⟨⟨⟨w.1.1,h.1.z.2.u⟩,w.1.2⟩,om⟩) λQ=>.eq (λE=>.bind (J4 (B:=B) (S:=S) ⟨aG 11,h2.1.2⟩ om) λV v=>have:=J2.1 v.1.c;.some ⟨⟨⟨h.1.z.1,dX,h.1.z.2.2.u⟩,v.1.2⟩,om⟩) λE=>.eq (λD=>.bind (JU h2.1.2 om) λN o=>have:0<=N.2.2:=o.2;.some ⟨⟨⟨h.1.z.1,h.1.z.2.1,o.1.1,h.1.z.2.2.2.u⟩,o.1.2⟩,om⟩) λD=>.eq (λF=>.bind (JU h2.1.2 om) λO q=>have:0<=O.2.2:=q.2;.some ⟨⟨⟨h.1.z.1,h.1.z.2.1,h.1.z.2.2.1,q.1.1,h.1.z.2.2.2.2.u⟩,q.1.2⟩,om⟩) λF=>.eq (λI=>.bind (JU h2.1.2 om) λK r=>have:0<=K.2.2:=r.2;.some ⟨⟨⟨h.1.z.1,h.1.z.2.1,h.1.z.2.2.1,h.1.z.2.2.2.1,r.1.1,h.1.z.2.2.2.2.2.u⟩,r.1.2⟩,om⟩) λI=>.eq (λJ=>.bind (JU h2.1.2 om) λM k=>have:0<=M.2.2:=k.2;.some ⟨⟨⟨h.1.z.1,h.1.z.2.1,h.1.z.2.2.1,h.1.z.2.2.2.1,h.1.z.2.2.2.2.1,k.1.1,h.1.z.2.2.2.2.2.2.u⟩,k.1.2⟩,om⟩) λJ=>.eq (λA=>.bind (Zi (B:=B) (S:=S) ⟨h.1.z.2.2.2.2.2.2.1.u,h2.1.2⟩ om) λP n=>have:0<=P.2.2:=n.2;.some ⟨⟨⟨h.1.z.1,h.1.z.2.1,h.1.z.2.2.1,h.1.z.2.2.2.1,h.1.z.2.2.2.2.1,h.1.z.2.2.2.2.2.1,n.1.1.z.u,h.1.z.2.2.2.2.2.2.2.u⟩,n.1.2⟩,om⟩) λA=>.eq (λC=>.bind (sB h2.1.2 om) λR j=>have:=J2.1 j.1.c;.some ⟨⟨⟨h.1.z.1,h.1.z.2.1,h.1.z.2.2.1,h.1.z.2.2.2.1,h.1.z.2.2.2.2.1,h.1.z.2.2.2.2.2.1,h.1.z.2.2.2.2.2.2.1.u,j.1.1.z.u⟩,j.1.2⟩,om⟩) λC=>.eq (λG=>.bind (J4 (B:=B) (S:=S) ⟨aG 2,h2.1.2⟩ om) λg e=>have:=J2.1 e.1.1;have:=J2.1 e.1.c;have:0<=g.1/\g.1<2/\0<=g.2.2:=⟨e.2.1,e.c.1 (show(1:Int)<=2 by decide),e.d⟩;have:=Jm 8192 g.1;.bind (xR (t:=(.i .u8)) (B:=8194) (S:=0) (cS .u8 0)) λT H=>.some ⟨⟨⟨h.1.z.1,h.1.z.2.1,h.1.z.2.2.1,h.1.z.2.2.2.1,h.1.z.2.2.2.2.1,h.1.z.2.2.2.2.2.1,h.1.z.2.2.2.2.2.2.1.u,(LJ (B:=0) (S:=8194) H.1.1).u⟩,e.1.2⟩,om⟩) λG=>.some ⟨⟨h.1.z.u,h2.1.2⟩,om⟩
theorem Yn{B S:Int}{X:TD}(h:aB B S k0 X)(p0:0<=X.2.2)(a7:BH B S:=by omega)(hB:B<=34359738368:=by omega):Tot (WN X) λy=>aB B S k0 y/\(0<=y.2.2):=by unfold WN;exact .clo h.1.2.1 oo (by decide) (have:=Jh (l:=X.1.2.1);have:J0 X.1.2.1=_:=JE h.1.2.1;.eqf (λc3=>.bind (J4 (B:=B) (S:=S) ⟨aG 8,h.2⟩ om) λP o=>have:=J2.1 o.1.1;have:=J2.1 o.1.c;have:0<=P.1/\P.1<8/\0<=P.2.2:=⟨o.2.1,o.c.1 (show(1:Int)<=8 by decide),o.d⟩;.eq (λV=>.bind (JU o.1.2 om) λy4 E=>have:0<=y4.2.2:=E.2;.bind (JU E.1.2 om) λy5 F=>have:0<=y5.2.2:=F.2;.some ⟨⟨⟨E.1.1,h.1.2.1,F.1.1⟩,F.1.2⟩,om⟩) λV=>.bind (J4 (B:=B) (S:=S) ⟨jR h.1.2.1.1 oo,o.1.2⟩ om) λC w=>have:=J2.1 w.1.1;have:=J2.1 w.1.c;have:0<=C.1/\(1<=(J0 X.1.2.1)->C.1<(J0 X.1.2.1))/\0<=C.2.2:=w.2;.bind (J4 (B:=B) (S:=S) ⟨aG 4,w.1.2⟩ om) λO e=>have:=J2.1 e.1.1;have:=J2.1 e.1.c;have:0<=O.1/\O.1<4/\0<=O.2.2:=⟨e.2.1,e.c.1 (show(1:Int)<=4 by decide),e.d⟩;.eq (λT=>.bind (JU e.1.2 om) λy8 G=>have:0<=y8.2.2:=G.2;.some ⟨⟨⟨h.1.1,h.1.2.1,G.1.1⟩,G.1.2⟩,om⟩) λT=>.eq (λW=>.bind (fC (l:=X.1.2.1)) λ_ _=>.bind (jF h.1.2.1) λJ M=>.bind (J4 (B:=B) (S:=S) ⟨M.1.z.1,e.1.2⟩ om) λA j=>have:=J2.1 j.1.1;have:=J2.1 M.1.z.1;have:=J2.1 j.1.c;have:0<=A.1/\(1<=J.1->A.1<J.1)/\0<=A.2.2:=j.2;.bind (fC (l:=X.1.2.1)) λ_ _=>.bind (jF h.1.2.1) λq r=>.some ⟨⟨⟨h.1.1,kL (t:=J8) (i:=Int.toNat C.1) (x:=(q.1,q.2.1,q.2.2.1,A.1,q.2.2.2.2)) h.1.2.1 ⟨r.1.z.1,r.1.z.2.1,r.1.z.2.2.1,j.1.1,r.1.z.2.2.2.2.u⟩,h.1.c⟩,j.1.2⟩,om⟩) λW=>.eq (λR=>.bind (fC (l:=X.1.2.1)) λ_ _=>.bind (jF h.1.2.1) λL N=>.bind (J4 (B:=B) (S:=S) ⟨N.1.z.1,e.1.2⟩ om) λv k=>have:=J2.1 k.1.1;have:=J2.1 N.1.z.1;have:=J2.1 k.1.c;have:0<=v.1/\(1<=L.1->v.1<L.1)/\0<=v.2.2:=k.2;.bind (fC (l:=X.1.2.1)) λ_ _=>.bind (jF h.1.2.1) λg n=>.some ⟨⟨⟨h.1.1,kL (t:=J8) (i:=Int.toNat C.1) (x:=(g.1,g.2.1,g.2.2.1,g.2.2.2.1,v.1,g.2.2.2.2.2)) h.1.2.1 ⟨n.1.z.1,n.1.z.2.1,n.1.z.2.2.1,n.1.z.2.2.2.1,k.1.1,n.1.z.2.2.2.2.2.u⟩,h.1.c⟩,k.1.2⟩,om⟩) λR=>.eq (λY=>.bind (fC (l:=X.1.2.1)) λ_ _=>.bind (jF h.1.2.1) λa6 Z=>.bind (Zd (B:=B) (S:=S) ⟨Z.1.z.u,e.1.2⟩ om) λK H=>have:0<=K.2.2:=H.2;.bind (fC (l:=X.1.2.1)) λ_ _=>.bind (jF h.1.2.1) λa5 a4=>.some ⟨⟨⟨h.1.1,kL (t:=J8) (i:=Int.toNat C.1) (x:=K.1) h.1.2.1 (H.1.1.z.u),h.1.c⟩,H.1.2⟩,om⟩) λY=>.some ⟨⟨h.1,e.1.2⟩,om⟩) λc3=>.bind (JU h.2 om) λU I=>have:0<=U.2.2:=I.2;.bind (JU I.1.2 om) λQ D=>have:0<=Q.2.2:=D.2;.some ⟨⟨⟨I.1.1,h.1.2.1,D.1.1⟩,D.1.2⟩,om⟩)
theorem Y9{B S:Int}{X:CG}(h:aB B S j9 X)(p0:0<=X.2.2)(K:BG B S:=by omega):Tot (WQ X) λy=>aB B S j9 y/\(0<=y.2.2):=by unfold WQ;exact .bind (J4 (B:=B) (S:=S) ⟨aG 4,h.2⟩ om) λw h2=>have:=J2.1 h2.1.1;have:=J2.1 h2.1.c;have:0<=w.1/\w.1<4/\0<=w.2.2:=⟨h2.2.1,h2.c.1 (show(1:Int)<=4 by decide),h2.d⟩;.eq (λG=>.bind (JU h2.1.2 om) λE r=>have:0<=E.2.2:=r.2;.some ⟨⟨⟨r.1.1,h.1.z.2.u⟩,r.1.2⟩,om⟩) λG=>.eq (λC=>.bind (JU h2.1.2 om) λF n=>have:0<=F.2.2:=n.2;.some ⟨⟨⟨h.1.z.1,n.1.1,h.1.z.2.2.u⟩,n.1.2⟩,om⟩) λC=>.eq (λx=>.bind (J4 (B:=B) (S:=S) ⟨aG 16,h2.1.2⟩ om) λv e=>have:=J2.1 e.1.1;have:=J2.1 e.1.c;have:0<=v.1/\v.1<16/\0<=v.2.2:=⟨e.2.1,e.c.1 (show(1:Int)<=16 by decide),e.d⟩;.bind (J4 (B:=B) (S:=S) ⟨aG 2,e.1.2⟩ om) λM q=>have:=J2.1 q.1.c;.bind (sB q.1.2 om) λL o=>have:=J2.1 o.1.c;.bind (fK) λ_ _=>.bind (iS h.1.z.2.2) λN I=>.some ⟨⟨⟨h.1.z.1,h.1.z.2.1,(vY h.1.z.2.2 ⟨trivial,o.1.1.z⟩).u⟩,o.1.2⟩,om⟩) λx=>.eq (λA=>.bind (J4 (B:=B) (S:=S) ⟨aG 16,h2.1.2⟩ om) λk g=>have:=J2.1 g.1.1;have:=J2.1 g.1.c;have:0<=k.1/\k.1<16/\0<=k.2.2:=⟨g.2.1,g.c.1 (show(1:Int)<=16 by decide),g.d⟩;.bind (ND g.1.2 om) λD j=>have:0<=D.2.2:=j.2;.bind (fK) λ_ _=>.bind (iS h.1.z.2.2) λH J=>.some ⟨⟨⟨h.1.z.1,h.1.z.2.1,(vY h.1.z.2.2 j.1.1.z).u⟩,j.1.2⟩,om⟩) λA=>.some ⟨⟨h.1.z.u,h2.1.2⟩,om⟩
end Go.Am
end
section
namespace Go.Am
set_option linter.unusedVariables false
set_option maxRecDepth 20000
set_option maxHeartbeats 4000000
theorem Xx{B S:Int}{X:iO}(h:aB B S xH X)(p0:0<=X.2.2)(a9:BG B S:=by omega):Tot (FZ X) λy=>aB B S j9 y/\(0<=y.2.2):=by unfold FZ;exact .bind (J4 (B:=B) (S:=S) ⟨aG 50,h.2⟩ om) λy2 h2=>have:=J2.1 h2.1.c;.bind (J4 (B:=B) (S:=S) ⟨aG 10,h2.1.2⟩ om) λy3 K=>have:=J2.1 K.1.c;.eq (λW=>.bind (J4 (B:=B) (S:=S) ⟨aG 2,K.1.2⟩ om) λI g=>have:=J2.1 g.1.1;have:=J2.1 g.1.c;have:0<=I.1/\I.1<2/\0<=I.2.2:=⟨g.2.1,g.c.1 (show(1:Int)<=2 by decide),g.d⟩;have:=bC 1099511627776 I.1;.gt (λU=>.bind (J4 (B:=B) (S:=S) ⟨aG 6,g.1.2⟩ om) λF e=>have:=J2.1 e.1.1;have:=J2.1 e.1.c;have:0<=F.1/\F.1<6/\0<=F.2.2:=⟨e.2.1,e.c.1 (show(1:Int)<=6 by decide),e.d⟩;Jq (τ:=Bc) (λq=>(q.1,q.2.1,(0,0,Vector.replicate 16 (false,[])),q.2.2)) (λq=>aB 0 0 zI q.1/\aB B S J3 q.2.1/\aB 0 S Jd q.2.2/\(0<=q.2.1.2)/\(0<=q.1)) (λq=>q.1) (by rintro⟨E,a0,x⟩ O;dsimp only at O;obtain⟨T,L,v,aa,a8⟩:=O;unfold nm;(try dsimp only);exact have:=J2.1 T;.gt (λV=>.bind (J4 (B:=B) (S:=S) ⟨aG 16,L⟩ om) λJ k=>have:=J2.1 k.1.1;have:=J2.1 k.1.c;have:0<=J.1/\J.1<16/\0<=J.2.2:=⟨k.2.1,k.c.1 (show(1:Int)<=16 by decide),k.d⟩;.bind (ND k.1.2 om) λP G=>have:0<=P.2.2:=G.2;.bind (fK) λ_ _=>.bind (iS v.2.2) λa2 a7=>have:=bC E 1;.some ⟨(JJ .i64 E 1,P.2,(x.1,x.2.1,hU x.2.2 (Int.toNat J.1) P.1)),rfl,⟨dX,G.1.2,⟨v.1,v.2.1,vY v.2.2 G.1.1.z⟩,om,om⟩,om,om⟩) λV=>.some ⟨⟨v.u,L⟩,om⟩) (F.1,F.2,(X.1,JJ .i64 1099511627776 I.1,Vector.replicate 16 (false,[]))) rfl ⟨e.1.1,e.1.2,⟨h.1,dX,bZ om om (.ar 16 Jr)⟩,om,om⟩) λU=>.some ⟨⟨⟨h.1,dX,bZ oo oo (.ar 16 Jr)⟩,g.1.2⟩,om⟩) λW=>.gt (λQ=>.bind (J4 (B:=B) (S:=S) ⟨aG 6,K.1.2⟩ om) λw j=>have:=J2.1 j.1.1;have:=J2.1 j.1.c;have:0<=w.1/\w.1<6/\0<=w.2.2:=⟨j.2.1,j.c.1 (show(1:Int)<=6 by decide),j.d⟩;Jq (τ:=Bc) (λq=>(q.1,q.2.1,(0,0,Vector.replicate 16 (false,[])),q.2.2)) (λq=>aB 0 0 zI q.1/\aB B S J3 q.2.1/\aB 0 S Jd q.2.2/\(0<=q.2.1.2)/\(0<=q.1)) (λq=>q.1) (by rintro⟨C,Z,o⟩ N;dsimp only at N;obtain⟨Y,M,r,a6,a4⟩:=N;unfold nk;(try dsimp only);exact have:=J2.1 Y;.gt (λR=>.bind (J4 (B:=B) (S:=S) ⟨aG 16,M⟩ om) λA n=>have:=J2.1 n.1.1;have:=J2.1 n.1.c;have:0<=A.1/\A.1<16/\0<=A.2.2:=⟨n.2.1,n.c.1 (show(1:Int)<=16 by decide),n.d⟩;.bind (ND n.1.2 om) λH D=>have:0<=H.2.2:=D.2;.bind (fK) λ_ _=>.bind (iS r.2.2) λa5 a3=>have:=bC C 1;.some ⟨(JJ .i64 C 1,H.2,(o.1,o.2.1,hU o.2.2 (Int.toNat A.1) H.1)),rfl,⟨dX,D.1.2,⟨r.1,r.2.1,vY r.2.2 D.1.1.z⟩,om,om⟩,om,om⟩) λR=>.some ⟨⟨r.u,M⟩,om⟩) (w.1,w.2,(X.1,y2.1,Vector.replicate 16 (false,[]))) rfl ⟨j.1.1,j.1.2,⟨h.1,h2.1.1,bZ om om (.ar 16 Jr)⟩,om,om⟩) λQ=>.some ⟨⟨⟨h.1,h2.1.1,bZ oo oo (.ar 16 Jr)⟩,K.1.2⟩,om⟩
theorem JAY{B S:Int}{X:Jk}(h:aB B S J3 X)(p0:0<=X.2)(j:BS B S 0 0:=by omega):Tot (zL X) λy=>aB B S J3 y/\(y.2=0):=by unfold zL;exact .gt (λe=>.bind (qO h.1) λk g=>.some ⟨⟨g.1,aC⟩,om⟩) λe=>.some ⟨⟨h.1,aC⟩,om⟩
section
variable {B S:Int}
theorem FD{X:NO}(h:aB B S (.pr .s (.pr zI zI)) X)(g:BS B S 0 0:=by omega)(j:S<=140737488355320:=by omega):Tot (wJ X) λy=>aB 0 (S+8) .s y/\(J0 y<=J0 X.1+8/\(1<=X.2.2->X.2.2<=8->J0 y=J0 X.1+X.2.2)):=by
 obtain⟨l,n,k⟩:=X;have q:J0 l<=S:=h.1;show Tot (Jk7 l n k) _;unfold Jk7;dsimp only;split;refine .some ⟨?_,oo,λ_ _=>by omega⟩;show J0 l<=S+8;omega;have o:J0 l=(l.length:Int):=rfl;rw[if_pos oo];have e:J0 (l++J0E n k.toNat)=J0 l+k:=by show((l++J0E n k.toNat).length:Int)=(l.length:Int)+k;rw[eI,JX];omega
 refine .some ⟨?_,oo,λ_ _=>e⟩;show J0 _<=S+8;omega
end
theorem Yi{B S:Int}{X:Unit}(h:aB B S .u X)(I:BS B S 0 0:=by omega):Tot (WK X) λy=>aB 0 0 (.ar 16 (.i .u32)) y:=by unfold WK;exact Jq (τ:=Int×(Vector Int 16)) (λq=>(q.1,Vector.replicate 16 0,q.2)) (λq=>(aB 0 0 zI q.1/\0<=q.1/\(q.1<=16\/q.1<=0))/\aB 0 0 (.ar 16 (.i .u32)) q.2) (λq=>16-q.1) (by rintro⟨e,j⟩ n;dsimp only at n;obtain⟨⟨i1,K,L⟩,i2⟩:=n;unfold yy;(try dsimp only);exact have:=J2.1 i1;.lt (λD=>Jq (τ:=Int×Int) (λq=>(e,q.1,e,q.2,Vector.replicate 16 0,j)) (λq=>(aB 0 0 zI q.2/\0<=q.2/\(q.2<=4\/q.2<=0))/\aB 0 0 (.i .u32) q.1) (λq=>4-q.2) (by rintro⟨k,g⟩ o;dsimp only at o;obtain⟨⟨A,F,H⟩,r⟩:=o;unfold zi;(try dsimp only);exact have:=J2.1 A;.lt (λx=>have:=TT k 1;.eq (λw=>.bind (yO r oo) λC G=>have:=Jm g 1;.some ⟨(fT .u32 C 2197175160,J1 .i64 g 1),rfl,⟨⟨Je,om,om⟩,EG⟩,om,om⟩) λw=>.bind (yO r oo) λz v=>have:=Jm g 1;.some ⟨(z,J1 .i64 g 1),rfl,⟨⟨Je,om,om⟩,v⟩,om,om⟩) λx=>.inr (.bind (fK) λ_ _=>.bind (iS i2) λJ E=>have:=Jm e 1;.some ⟨(J1 .i64 e 1,hU j (Int.toNat e) k),rfl,⟨⟨Je,om,om⟩,vY i2 r⟩,om,om⟩)) (bS .u32 e,0) rfl ⟨⟨aC,om,om⟩,sX⟩) λD=>.some i2) (0,Vector.replicate 16 0) rfl ⟨⟨aC,om,om⟩,bZ om om (.ar 16 (.i .u32))⟩
theorem Fh{B S:Int}{X:List UInt8}(h:aB B S .s X)(G:BS B S 0 0:=by omega)(K:S<=9223372036854775807:=by omega):Tot (RX X) λy=>aB 0 0 (.i .u32) y:=by unfold RX;exact .bind (Yi trivial) λA h1=>have:=sF (z:=X) h.z;Jq (τ:=Int×Int) (λq=>(X,q.1,J0 X,q.2,A)) (λq=>(aB 0 0 zI q.2/\0<=q.2/\(q.2<=J0 X\/q.2<=0))/\aB 0 0 (.i .u32) q.1) (λq=>J0 X-q.2) (by rintro⟨j,e⟩ g;dsimp only at g;obtain⟨⟨r,I,J⟩,i4⟩:=g;unfold vt;(try dsimp only);exact have:=J2.1 r;.lt (λo=>.bind (NP (l:=X)) λx C=>.bind (yO (B:=0) (S:=0) (EG) oo) λw F=>have:=TT (fT .u32 j (bS .u32 x)) 15;.bind (fK) λ_ _=>.bind (iS h1) λn H=>.bind (yO (B:=0) (S:=0) (EG) oo) λv E=>have:=TT (fT .u32 w n) 15;.bind (fK) λ_ _=>.bind (iS h1) λk D=>have:=Jm e 1;.some ⟨(fT .u32 v k,J1 .i64 e 1),rfl,⟨⟨Je,om,om⟩,EG⟩,om,om⟩) λo=>.some Ds) (4294967295,0) rfl ⟨⟨aC,om,om⟩,cS .u32 4294967295⟩
section
variable {B S:Int}
theorem m7{X:eU}(h:aB B S kQ X)(p0:J0 X.1=1)(j:0<=X.2)(k:X.2<=1000)(o:BS B S 0 0:=by omega):Tot (NA X) λy=>aB 0 1000 .s y/\(J0 y=X.2):=by
 obtain⟨l,n⟩:=X;dsimp only at p0 j k;have g:l.length=1:=by have:(l.length:Int)=1:=p0;omega
 show Tot (Jlc l n) _;unfold Jlc;rw[g,if_pos oo];have e:J0 (List.replicate n.toNat l).flatten=n:=by show((List.replicate n.toNat l).flatten.length:Int)=n;rw[GK,GF,List.sum_replicate_nat,g];omega
 refine .some ⟨?_,e⟩;show J0 _<=1000;omega
end
theorem Yr{B S:Int}{X:dG×(List UInt8)}(h:aB B S (.pr Jr .s) X)(p0:J0 X.1.2<=12)(J:BS B S 0 0:=by omega)(M:S<=140737488355320:=by omega):Tot (WO X) λy=>aB 0 (2*S+1008) .s y/\(J0 y=J0 X.2+13):=by unfold WO;exact have s0:aB 0 S (.pr Jr .s) X:=h;have:=sF (z:=X.1.2) s0.1.2;.ite (λG=>.bind (FD (B:=0) (S:=S) ⟨s0.2,jR s0.1.2 oo,aG 1⟩) λn F=>have:J0 n<=(S+8):=F.1;have:J0 X.2<=S:=s0.2;have:J0 n<=J0 X.2+8/\(1<=(1:Int)->(1:Int)<=8->J0 n=J0 X.2+(1:Int)):=F.2;.bind (gJ) λj H=>have v:aB 0 (2*S+8) .s j:=(by omega:J0 j<=(2*S+8));have:=bC 12 (J0 X.1.2);.bind (m7 (B:=0) (S:=1) ⟨OQ 1 rfl oo,dX⟩ om om om) λD o=>have:J0 D<=1000:=o.1;have:=Jh (l:=D);have:=sF (z:=j) v;.bind (gJ) λw L=>have x:aB 0 (2*S+1008) .s w:=(by omega:J0 w<=(2*S+1008));.some ⟨x,om⟩) λG=>.bind (FD (B:=0) (S:=S) ⟨s0.2,aG 255,aG 1⟩) λk e=>have:J0 k<=(S+8):=e.1;have:J0 X.2<=S:=s0.2;have:J0 k<=J0 X.2+8/\(1<=(1:Int)->(1:Int)<=8->J0 k=J0 X.2+(1:Int)):=e.2;.bind (gJ) λg K=>have q:aB 0 (2*S+8) .s g:=(by omega:J0 g<=(2*S+8));have:=bC 12 (J0 X.1.2);.bind (m7 (B:=0) (S:=1) ⟨OQ 1 rfl oo,dX⟩ om om om) λr E=>have:J0 r<=1000:=E.1;have:=Jh (l:=r);have:=sF (z:=g) q;.bind (gJ) λC I=>have A:aB 0 (2*S+1008) .s C:=(by omega:J0 C<=(2*S+1008));.some ⟨A,om⟩
theorem Hx{B S:Int}{X:Ji}(h:aB B S Jd X)(x:BS B S 0 0:=by omega):Tot (rF X) λy=>aB 0 0 .b y:=by unfold rF;exact have s0:aB 0 S Jd X:=h;cU 16 (λq=>(X.2.2,q,X)) λw i1 D C=>.lt (λe=>.bind (Cr s0.2.2) λz A=>.gtf (λv=>.not (λn=>.itf (λk=>.ite (λg=>have:=J2.1 s0.2.1;.eq (λo=>.some trivial) λo=>.some ⟨e,rfl⟩) λg=>.some ⟨e,rfl⟩) λk=>.some trivial) λn=>.ite (λj=>have:=J2.1 s0.2.1;.eq (λr=>.some trivial) λr=>.some ⟨e,rfl⟩) λj=>.some ⟨e,rfl⟩) λv=>.some trivial) λe=>.some trivial
section
variable {B S:Int}
theorem Ly{x:Ji}(e:rF x=some true): ∀(j:Nat) (hj:j<16),J0 (x.2.2[j]).2<=12:=by
 have n:Par (rF x) λy=>y=true-> ∀(j:Nat) (hj:j<16),J0 (x.2.2[j]).2<=12:=by
  unfold rF;refine .while (λz=>z.1=x.2.2/\0<=z.2.1/\z.2.1<=16/\ ∀(j:Nat) (hj:j<16),(j:Int)<z.2.1->J0 (x.2.2[j]).2<=12) ⟨rfl,aZ _,by dsimp only;omega,λj e h1=>by dsimp only at h1;omega⟩ ?_;rintro⟨v,i,z⟩ ⟨h1,h0,k,h⟩;dsimp only at h1 h0 h k;subst h1;unfold ii;dsimp only;refine .lt (λc=>?_) λc=>.some λ_ j hj=>h j hj oo;refine .bind λw h3=>.gtf (λA=>?_) λ_=>.some nofun;have:=Jm i 1;have g:x.2.2=x.2.2/\(0<=J1 .i64 i 1/\J1 .i64 i 1<=16/\ ∀(j:Nat) (hj:j<16),(j:Int)<J1 .i64 i 1->J0 (x.2.2[j]).2<=12):=by
   refine⟨rfl,oo,oo,λj hj r=>?_⟩;by_cases q:(j:Int)<i;exact h j hj q;have o:i.toNat=j:=by omega
   unfold qB at h3;split at h3;rw[o,Vector.getElem?_eq_getElem hj]at h3;injection h3 with h3;rw[h3];omega;cases h3
  exact .not (λ_=>.itf (λ_=>.ite (λ_=>.eq (λ_=>.some nofun) λ_=>.some g) λ_=>.some g) λ_=>.some nofun) λ_=>.ite (λ_=>.eq (λ_=>.some nofun) λ_=>.some g) λ_=>.some g
 exact n _ e rfl
theorem K2{x:Ji}{y:Bool}(h:aB B S Jd x)(e:rF x=some y)(c:y=true):True/\aB 0 12 Jd x:=by subst c;exact⟨trivial,h.1,h.2.1,λi hi=>⟨trivial,Ly e i hi⟩⟩
end
theorem L1{B S X:Int}(h:aB B S zI X)(e:BS B S 0 0:=by omega):Tot (MQ X) λy=>aB 0 0 .b y:=by unfold MQ;exact .ge (λc1=>.some trivial) λc1=>.some trivial
theorem P3{B S:Int}{X:Ji}(h:aB B S Jd X)(j:BS B S 0 0:=by omega):Tot (FM X) λy=>aB 0 0 .b y:=by unfold FM;exact have s0:aB 0 S Jd X:=h;.bind (L1 (B:=0) (S:=0) s0.1) λk h1=>.ite (λe=>have:=J2.1 s0.2.1;.ge (λg=>.some trivial) λg=>.some trivial) λe=>.some trivial
theorem Pc{B S:Int}{X:Ji}(h:aB B S Jd X)(a2:BS B S 0 0:=by omega):Tot (tV X) λy=>aB 0 1416 kQ y:=by unfold tV;exact have s0:aB 0 S Jd X:=h;.bind (P3 (B:=0) (S:=S) s0) λy2 h1=>.not (λW=>.some ⟨J9,aG 1⟩) λW=>.bind ((Hx (B:=0) (S:=S) (X:=X) s0).eqn) λy3 h3=>.not (λI=>.some ⟨J9,aG 22⟩) λI=>have Y:=K2 (x:=X) s0 h3.2 I;have o:aB 0 12 Jd X:=Y.2;.bind (FD (B:=0) (S:=0) ⟨J9,o.2.1,aG 8⟩) λg J=>have R:aB 0 8 .s g:=J.1.u;have:=sF (z:=g) R;have:J0 g<=0+8/\(1<=(8:Int)->(8:Int)<=8->J0 g=0+(8:Int)):=J.2;.bind (FD (B:=0) (S:=8) ⟨R,o.1,aG 4⟩) λk r=>have v:aB 0 16 .s k:=r.1.u;have:=sF (z:=k) v;have:J0 k<=J0 g+8/\(1<=(4:Int)->(4:Int)<=8->J0 k=J0 g+(4:Int)):=r.2;Jq (τ:=Int×(List UInt8)) (λq=>(X.2.2,q.1,X,q.2)) (λq=>aB 0 0 zI q.1/\aB 0 400 .s q.2/\(0<=q.1)/\(q.1<=16)/\(J0 q.2=12+13*q.1)) (λq=>16-q.1) (by rintro⟨j,n⟩ E;dsimp only at E;obtain⟨a3,U,a6,a1,a5⟩:=E;unfold i5;(try dsimp only);exact .lt (λG=>.bind (Cr o.c) λV A=>have:J0 V.2<=12:=A.2;.bind (Yr (B:=0) (S:=400) ⟨A.u,U⟩ om) λe C=>have P:aB 0 1808 .s e:=C.1.u;have:=sF (z:=e) P;have:J0 e=J0 n+13:=C.2;have F:aB 0 400 .s e:=(by omega:J0 e<=400);have:=mV j 1;.some ⟨(J1 .i64 j 1,e),rfl,⟨Je,F,om,om,om⟩,om,om⟩) λG=>.inr (have:=xS 244 (J0 n);.bind (m7 (B:=0) (S:=1) ⟨OQ 1 rfl oo,dX⟩ om om om) λN Q=>have:J0 N<=1000:=Q.1;have:=Jh (l:=N);.bind (gJ) λw a0=>have D:aB 0 1400 .s w:=(by omega:J0 w<=1400);.bind (Fh D) λa4 Z=>.bind (FD (B:=0) (S:=1400) ⟨D,sX,aG 4⟩) λM L=>have O:aB 0 1408 .s M:=L.1.u;.bind (FD (B:=0) (S:=1408) ⟨O,o.2.1,aG 8⟩) λH K=>have T:aB 0 1416 .s H:=K.1.u;.some ⟨T,aC⟩)) (0,k) rfl ⟨aC,v.u,om,om,om⟩
theorem Rq{B S:Int}{X:kS}(h:aB B S GX X)(e:BC B S 0 0:=by omega):Tot (BB X) λy=>aB 0 0 cY y:=by unfold BB;exact .bind (uo (B:=B) (S:=S) ⟨h.1,h.2.z.1.u,h.2.z.2⟩) λg h1=>.some (h1.2)
end Go.Am
end
section
namespace Go.Am
set_option linter.unusedVariables false
set_option maxRecDepth 20000
set_option maxHeartbeats 1000000
theorem pk(p:Ji)(h: ∀(i:Nat) (hi:i<16),iY p.2.2[i]=some true)(hl: ¬p.2.1=0\/ ∀(i:Nat) (hi:i<16),(p.2.2[i]).1=false):iI p=some true:=by
 have j:Tot (iI p) λy=>y=true:=by
  unfold iI;refine Jq (τ:=Int) (λi=>(i,p)) (λi=>0<=i/\i<=16) (λi=>16-i) ?_ 0 rfl ⟨aZ _,by decide⟩;rintro i ⟨h0,h1⟩;unfold MU;refine .lt (λhi=>?_) λ_=>.some rfl;have k:i<16:=hi;have g:i.toNat<16:=by omega
  have e:=Jm i 1;have o:vat p.2.2 (Int.toNat i)=some p.2.2[i.toNat]:=Vector.getElem?_eq_getElem g;have n:aV 16 i=some ():=by unfold aV;rw[if_pos ⟨h0,k⟩]
  dsimp only;rw[n,o];simp only[JQ];rw[h _ g];simp only[JQ];rw[if_pos (show Jp true=false from rfl)];refine .eq (λq=>?_) λ_=>⟨_,rfl,J1 .i64 i 1,rfl,⟨by omega,by omega⟩,by omega,by omega⟩;rcases hl with hl|hl;exact absurd q hl;rw[hl _ g];exact⟨_,rfl,J1 .i64 i 1,rfl,⟨by omega,by omega⟩,by omega,by omega⟩
 obtain⟨y,e,d⟩:=j;rw[e,d]
theorem NV{B S:Int}{p:Ji}(h:Ty.fit B S Jd p)(j:0<=B)(g:0<=S):PF p:=by obtain⟨y,e,_⟩:=Pc h;exact⟨y,e⟩
theorem JI6:VD ()=some true:=by
 have e:Ty.fit 0 8192 Jd noP:=⟨cS .i64 0,cS .i64 0,bZ (by decide) (by decide) (.ar 16 Jr)⟩;have c0:iJ noP=some 0:=by unfold iJ;rw[show jW noP=some true from rfl];simp only[JQ];rw[if_neg (by decide),pk noP (λi hi=>by simp[noP];rfl) (.inr λi hi=>by simp[noP])];rfl
 have g:iK (noP,4,1,1,0,0,0,(0,2,(false,[]),true,[120]),[])=some ((0,4,(Vector.replicate 16 ((false,[]):dG)).set 2 (true,[120])),0):=by unfold iK;rw[show Js (4,1,1,0,0,0,(0,2,(false,[]),true,[120]),[])=some true from rfl];simp only[JQ];rw[if_pos (by decide),EW];simp only[JQ];rw[if_neg (by decide),c0];rfl
 obtain⟨y,h1,h2⟩:=US (B:=0) (S:=8192) (X:=(noP,4,1,1,0,0,0,(0,2,(false,[]),true,[120]),[])) ⟨e,cS .i64 4,cS .i64 1,cS .i64 1,cS .i64 0,cS .i64 0,cS .i64 0,⟨cS .i64 0,cS .i64 2,⟨trivial,(show J0 ([]:List UInt8)<=8192 by decide)⟩,trivial,(show J0 ([120]:List UInt8)<=8192 by decide)⟩,(show J0 ([]:List UInt8)<=8192 by decide)⟩;rw[g]at h1;injection h1 with h1;subst h1;have j:PF (0,4,(Vector.replicate 16 ((false,[]):dG)).set 2 (true,[120])):=NV (B:=0) (S:=8192) h2.1 (by decide) (by decide);have c1:iJ (0,4,(Vector.replicate 16 ((false,[]):dG)).set 2 (true,[120]))=some 0:=by
  unfold iJ;rw[show jW (0,4,(Vector.replicate 16 ((false,[]):dG)).set 2 (true,[120]))=some true from rfl];simp only[JQ];rw[if_neg (by decide),pk _ (λi hi=>by
   by_cases h:i=2;subst h;rfl;simp only[Vector.getElem_set,Ne.symm h,if_false,Vector.getElem_replicate];rfl) (.inl (by decide))]
  rfl
 have k:iK ((0,4,(Vector.replicate 16 ((false,[]):dG)).set 2 (true,[120])),4,1,1,0,0,0,(0,2,(false,[]),true,[120]),[])=some (noP,13):=by unfold iK;rw[show Js (4,1,1,0,0,0,(0,2,(false,[]),true,[120]),[])=some true from rfl];simp only[JQ];rw[if_pos (by decide),EW];simp only[JQ];rw[if_neg (by decide),c1];rfl
 unfold VD;rw[QG _ (NV (B:=0) (S:=8192) e (by decide) (by decide)),g];simp only[JQ];rw[QG _ j,k];rfl
end Go.Am
end
section
namespace Go.Am
section
variable (P:Program)
def tA:Nat->TypeId->Bool|0,_=>false|n+1,t=>match P.underlying t with|some .bool=>true|some (.int _)=>true|some .string=>true|some (.slice e)=>tA n e&&decide (t<P.types.size/\0<P.cellsOf e)|some (.struct fs)=>fs.toList.all (λf=>tA n f.type)&&decide (t<P.types.size)|some (.array _ e)=>tA n e&&decide (t<P.types.size)|_=>false
def fU:Nat->TypeId->List PV->Prop|0,_,_=>False|n+1,t,pvs=>match P.underlying t with|some .bool=> ∃b,pvs=[.b b]|some (.int k)=> ∃z,pvs=[.i k z]/\(Lit.int k z).wf=true|some .string=> ∃l,pvs=[.s l]/\l.length<=maxLen|some (.slice e)=> ∃rows,pvs=[.sl (P.cellsOf e) rows]/\rows.length<=maxLen/\ ∀row∈rows,row.length=P.cellsOf e/\fU n e row|some (.struct fs)=>pvs.length=P.cellsOf t/\ ∀f∈fs.toList,fU n f.type ((pvs.drop f.offset).take (P.cellsOf f.type))|some (.array m e)=>pvs.length=P.cellsOf t/\ ∀i,i<m->fU n e ((pvs.drop (i*P.cellsOf e)).take (P.cellsOf e))|_=>False
end
section
variable {H:Type} {enc:TypeId×Value->H} {P:Program} {w:World} {base:Nat} {sp:Nat->Bool} {held:Bool}
def mo(w:World)(pvs:List PV)(cs:List Value):Prop:=pvs.length=cs.length/\ ∀(i:Nat) p v,pvs[i]?=some p->cs[i]?=some v->J0g w (λr _=>r<w.heap.size) p v
theorem r7{a:Addr}{v:Value}(h:w.cell? a=some v):a.spot=none/\cellAt w a.block a.off=some v/\a.block<w.heap.size:=by
 unfold World.cell? at h;unfold cellAt;split at h;rename_i c t fz e;split at h;cases h;rename_i g;refine⟨by simpa using g,by rw[e];exact h,?_⟩;have:=oI.1 e;exact this.1;cases h
theorem JFN{a:Addr}{n:Nat}{cs:List Value}(h:w.cells? base a n=some cs):cs.length=n/\ ∀i v,cs[i]?=some v->w.cell? (a.add i)=some v:=by
 unfold World.cells? at h;split at h;have g:=mapM_some_length h;refine⟨by simpa using g,λi v e=>?_⟩;have hi:i<n:=by have:=(eP.1 e).1;simp at g;omega
 have:=mapM_some_get h i i (by simp[hi]);rw[this,e];cases h
theorem OV{α:Type}(Q:Nat->α->Prop): ∀(m:Nat),(∀i,i<m-> ∃x,Q i x)-> ∃xs:List α,xs.length=m/\ ∀i x,xs[i]?=some x->Q i x
 |0,_=>⟨[],rfl,λi x h=>by simp at h⟩
 |m+1,h=>by
  obtain⟨xs,j,n⟩:=OV Q m (λi hi=>h i (by omega));obtain⟨y,k⟩:=h m (by omega);refine⟨xs++[y],by simp[j],λi x hi=>?_⟩;rcases zQ3 i xs.length with g|e;rw[uR g]at hi;exact n i x hi;rw[oB e]at hi;have:i-xs.length=0:=by have:=(eP.1 hi).1;simp at this;omega
  rw[this]at hi;simp at hi;subst hi;obtain rfl:i=m:=by omega
  exact k
theorem fu{α:Type}: ∀(xs:List (List α)) (j:Nat) (y:List α),xs[j]?=some y->(xs.flatten.drop ((xs.take j).map List.length).sum).take y.length=y|[],j,y,h=>by simp at h|x::xs,0,y,h=>by simp at h;subst h;simp|x::xs,j+1,y,h=>by simp at h;have:=fu xs j y h;simp only[ky,bU,List.sum_cons,nF,List.drop_length_add_append];exact this
theorem JI3(hl:laidOutB P=true)(hm:mapsRowed P=true): ∀(n:Nat) (t:TypeId) (cs:List Value) (x:DataW H×List MemPlace) (Y:Nat),tA P n t=true->DataW.trod enc P w base sp held Y t cs=some x->
  ∃pvs,fU P n t pvs/\mo w pvs cs:=by
 have K:=kids_rows hl hm;intro n
 induction n with
 |zero=>intro t cs x Y F;simp[tA]at F
 |succ n ih=>
  intro t cs x Y F h;unfold tA at F;unfold fU;split at F;rename_i E;obtain⟨b,rfl,_⟩:=DataW.trod_bool E h;refine⟨[.b b],by simp,rfl,λi p v h1 h2=>?_⟩
  match i with
  |0=>simp at h1 h2;subst h1 h2;exact .b _
  |i+1=>simp at h1
  rename_i k E;obtain⟨z,rfl,_,b1⟩:=DataW.trod_int E h;refine⟨[.i k z],by simpa using b1,rfl,λi p v h1 h2=>?_⟩
  match i with
  |0=>simp at h1 h2;subst h1 h2;exact .i _ _
  |i+1=>simp at h1
  rename_i E;obtain⟨s,rfl,_,ax⟩:=DataW.trod_string E h;refine⟨[.s s.data.toList],⟨_,rfl,by rw[Array.length_toList];exact ax⟩,rfl,λi p v h1 h2=>?_⟩
  match i with
  |0=>simp at h1 h2;subst h1 h2;exact .s _
  |i+1=>simp at h1
  rename_i e E;simp only[aS,decide_eq_true_eq]at F;rcases DataW.trod_slice E h with⟨rfl,_⟩|⟨a,len,cap,ag,rest,n0,_,rfl,_,_,be,hcm,bf,U,_⟩;refine⟨[.sl (P.cellsOf e) []],⟨[],rfl,zQ2 _,by simp⟩,rfl,λi p v h1 h2=>?_⟩
  match i with
  |0=>simp at h1 h2;subst h1 h2;exact .sl0 _ _ _
  |i+1=>simp at h1
  
  have ao: ∀i,i<len-> ∃row:List PV,(row.length=P.cellsOf e/\fU P n e row)/\ ∀j p,row[j]?=some p-> ∃v,w.cell? (a.add (i*P.cellsOf e)|>.add j)=some v/\J0g w (λr _=>r<w.heap.size) p v:=by
   intro i hi;have h1:=U i hi;have h2: ∃y,ag[i]?=some y:=⟨_,zQ9 (by omega)⟩;obtain⟨y,C⟩:=h2;rw[C,cK]at h1;obtain⟨cs',hc,aw⟩:=h1;obtain⟨row,q1,q2,q3⟩:=ih e cs' y n0 F.1 aw;obtain⟨c1,c2⟩:=JFN hc;refine⟨row,⟨by omega,q1⟩,λj p A=>?_⟩;have S:j<cs'.length:=by have:=(eP.1 A).1;omega
   have hv:=zQ9 S;exact⟨_,c2 j _ hv,q3 j p _ A hv⟩
  obtain⟨rows,b0,D⟩:=OV _ len ao;refine⟨[.sl (P.cellsOf e) rows],⟨rows,rfl,by omega,λrow hr=>?_⟩,rfl,λi p v h1 h2=>?_⟩;obtain⟨i,hi⟩:=mA hr;exact(D i row hi).1
  match i with
  |i+1=>simp at h1
  |0=>
   simp at h1 h2;subst h1 h2;by_cases h0: ∃(i j:Nat) (row:List PV) (p:PV),rows[i]?=some row/\row[j]?=some p;obtain⟨i0,j0,al,p0,aj,b4⟩:=h0;have a8:a.spot=none\/P.cellsOf e=0:=by
    rcases Nat.eq_zero_or_pos (P.cellsOf e)with hz|am;exact .inr hz;have hlen:0<len:=by have:=(eP.1 aj).1;omega
    have N:=zQ9 (l:=rows) (i:=0) (by omega);have q:=D 0 _ N;have ay:=zQ9 (l:=rows[0]'(by omega)) (i:=0) (by omega);obtain⟨v,hv,_⟩:=q.2 0 _ ay;rw[Nat.zero_mul]at hv;exact .inl (by simpa[Addr.add]using(r7 hv).1)
   rcases a8 with a8|hz;have cell: ∀(i j:Nat) (row:List PV) (p:PV),rows[i]?=some row->row[j]?=some p-> ∃v,(a.block<w.heap.size/\cellAt w a.block (a.off+i*P.cellsOf e+j)=some v)/\J0g w (λr _=>r<w.heap.size) p v:=by
    intro i j row p hi A;obtain⟨v,hv,hr⟩:=(D i row hi).2 j p A;obtain⟨s1,s2,s3⟩:=r7 hv;refine⟨v,?_,hr⟩;have e1:((a.add (i*P.cellsOf e)).add j).block=a.block:=by unfold Addr.add;split<;>split<;>rfl
    have e2:((a.add (i*P.cellsOf e)).add j).off=a.off+i*P.cellsOf e+j:=by unfold Addr.add;split<;>split<;>simp_all
    rw[e1]at s3;rw[e1,e2]at s2;exact⟨s3,s2⟩
   have ea:a=⟨a.block,a.off,none⟩:=by cases a;simp_all
   rw[ea,<-b0];refine .sl _ rows a.block a.off cap (λi j=>((cellAt w a.block (a.off+i*P.cellsOf e+j)).getD default)) (by omega) (λrow hr=>?_) (λi j row p hi A=>?_) (λi j row p hi A=>?_);obtain⟨i,hi⟩:=mA hr;exact(D i row hi).1.1;obtain⟨v,⟨h3,h4⟩,_⟩:=cell i j row p hi A;exact⟨h3,by rw[h4];rfl⟩;obtain⟨v,⟨h3,h4⟩,h5⟩:=cell i j row p hi A;rw[h4];exact h5;have:=(D i0 al aj).1.1;have:=(eP.1 b4).1;omega
   
   rcases Nat.eq_zero_or_pos len with hz|am;have:rows=[]:=by cases rows<;>simp_all
   subst this;subst hz;exact .sl0 _ _ _;exfalso;have N:=zQ9 (l:=rows) (i:=0) (by omega);have q:=(D 0 _ N).1.1;exact h0 ⟨0,0,_,_,N,zQ9 (by omega)⟩
  rename_i fs E;simp only[aS,decide_eq_true_eq,ST]at F;obtain⟨xs,n0,_,_,V,ai,U⟩:=DataW.trod_struct E h;obtain⟨_,W,ac⟩:=K.struct F.2 E;have hf: ∀i,i<fs.toList.length-> ∃g:List PV,∀f,fs.toList[i]?=some f->fU P n f.type g/\mo w g ((cs.drop f.offset).take (P.cellsOf f.type)):=by
   intro i hi;have hfi:=zQ9 hi;have an:=zQ5 hfi;have av:fs[i]?=some (fs.toList[i]):=by rw[<-SH];exact hfi
   have h1:=U i _ av;have h2: ∃y,xs[i]?=some y:=⟨_,zQ9 (by simpa[ai]using hi)⟩;obtain⟨y,C⟩:=h2;rw[C]at h1;obtain⟨g,q1,q2⟩:=ih _ _ _ _ (F.1 _ an) h1;refine⟨g,λf a5=>?_⟩;rw[hfi]at a5;injection a5 with a5;subst a5;exact⟨q1,q2⟩
  obtain⟨B,a6,J⟩:=OV _ _ hf;have hlen: ∀(j:Nat) (f:Field),fs.toList[j]?=some f-> ∀g:List PV,B[j]?=some g->g.length=P.cellsOf f.type:=by
   intro j f A g C;have q:=(J j g C f A).2.1;have o:=ac j f A;rw[q,sK,yC,V,W,o];have:((fs.toList.take j).map λf=>P.cellsOf f.type).sum+P.cellsOf f.type<=(fs.toList.map λf=>P.cellsOf f.type).sum:=by
    have e1:fs.toList=fs.toList.take j++(f::fs.toList.drop (j+1)):=by have R:=(eP.1 A);obtain⟨R,he⟩:=R;rw[<-he,<-List.drop_eq_getElem_cons R,SO]
    conv=>rhs;rw[e1]
    simp only[CI,bU,List.sum_append,List.sum_cons];omega
   omega
  have O:B.map List.length=fs.toList.map λf=>P.cellsOf f.type:=by
   apply zQ6;intro j;rw[fS,fS];cases C:B[j]? with
   |none=>
    have:fs.toList[j]?=none:=by rw[List.getElem?_eq_none_iff]at C⊢;omega
    rw[this];rfl
   |some g=>
    have A:j<fs.toList.length:=by have:=(eP.1 C).1;omega
    have M:=zQ9 A;rw[M];simp only[dJ];rw[hlen j _ M g C]
  have I: ∀(j:Nat) (f:Field),fs.toList[j]?=some f->((B.take j).map List.length).sum=f.offset:=by intro j f A;rw[ac j f A,Aq,O,<-Aq]
  refine⟨B.flatten,⟨?_,λf hf=>?_⟩,?_,λi p v h1 h2=>?_⟩;rw[GK,O,W];obtain⟨j,A⟩:=mA hf;have R:j<B.length:=by have:=(eP.1 A).1;omega
  have G:=zQ9 R;have:=fu B j _ G;rw[I j f A,hlen j f A _ G]at this;rw[this];exact(J j _ G f A).1;rw[GK,O,V,W]
  
  have ab: ∀(l:List (List PV)) (i:Nat) p,l.flatten[i]?=some p-> ∃j g k,l[j]?=some g/\g[k]?=some p/\i=((l.take j).map List.length).sum+k:=by
   intro l
   induction l with
   |nil=>intro i p h;simp at h
   |cons y l T=>
    intro i p h;rw[nF]at h;rcases zQ3 i y.length with S|a9;rw[uR S]at h;exact⟨0,y,i,rfl,h,by simp⟩;rw[oB a9]at h;obtain⟨j,g,k,L,Q,a3⟩:=T _ _ h;exact⟨j+1,g,k,by simpa using L,Q,by simp only[ky,bU,List.sum_cons];omega⟩
  obtain⟨j,g,k,L,Q,a3⟩:=ab _ _ _ h1;have A:j<fs.toList.length:=by have:=(eP.1 L).1;omega
  have M:=zQ9 A;have q:=(J j g L _ M).2;refine q.2 k p v Q ?_;have hk:k<P.cellsOf (fs.toList[j]).type:=by have:=(eP.1 Q).1;rw[hlen j _ M g L]at this;exact this
  rw[List.getElem?_take_of_lt hk,UJ,<-I j _ M,<-a3];exact h2;rename_i m e E;simp only[aS,decide_eq_true_eq]at F;obtain⟨xs,n0,_,_,V,ai,U⟩:=DataW.trod_array E h;obtain⟨_,aa⟩:=K.array F.2 E;have hf: ∀i,i<m-> ∃g:List PV,fU P n e g/\mo w g ((cs.drop (i*P.cellsOf e)).take (P.cellsOf e)):=by intro i hi;have h1:=U i hi;have h2: ∃y,xs[i]?=some y:=⟨_,zQ9 (by omega)⟩;obtain⟨y,C⟩:=h2;rw[C]at h1;exact ih _ _ _ _ F.1 h1
  obtain⟨B,a6,J⟩:=OV _ _ hf;have hlen: ∀(j:Nat) g,B[j]?=some g->g.length=P.cellsOf e:=by
   intro j g C;have q:=(J j g C).2.1;have A:j<m:=by have:=(eP.1 C).1;omega
   rw[q,sK,yC,V,aa];have:j*P.cellsOf e+P.cellsOf e<=m*P.cellsOf e:=by rw[<-Nat.succ_mul];exact zQ4 _ A
   omega
  have Z: ∀y∈B,y.length=P.cellsOf e:=λy C=>by obtain⟨j,A⟩:=mA C;exact hlen j y A
  have a0: ∀l:List (List PV),(∀y∈l,y.length=P.cellsOf e)->(l.map List.length).sum=l.length*P.cellsOf e:=by
   intro l
   induction l with
   |nil=>intro _;simp
   |cons y l T=>intro hh;simp[hh y (by simp),T (λz hz=>hh z (by simp[hz])),Nat.succ_mul,Nat.add_comm]
  have I: ∀j,j<=m->((B.take j).map List.length).sum=j*P.cellsOf e:=by intro j A;rw[a0 _ (λy C=>Z y (jg C)),sK,a6,Nat.min_eq_left A]
  refine⟨B.flatten,⟨?_,λj A=>?_⟩,?_,λi p v h1 h2=>?_⟩;rw[GK,a0 _ Z,a6,aa];have G:=zQ9 (l:=B) (i:=j) (by omega);have:=fu B j _ G;rw[I j (by omega),hlen j _ G]at this;rw[this];exact(J j _ G).1;rw[GK,a0 _ Z,V,a6,aa];have ab: ∀(l:List (List PV)) (i:Nat) p,l.flatten[i]?=some p-> ∃j g k,l[j]?=some g/\g[k]?=some p/\i=((l.take j).map List.length).sum+k:=by
   intro l
   induction l with
   |nil=>intro i p h;simp at h
   |cons y l T=>
    intro i p h;rw[nF]at h;rcases zQ3 i y.length with S|a9;rw[uR S]at h;exact⟨0,y,i,rfl,h,by simp⟩;rw[oB a9]at h;obtain⟨j,g,k,L,Q,a3⟩:=T _ _ h;exact⟨j+1,g,k,by simpa using L,Q,by simp only[ky,bU,List.sum_cons];omega⟩
  obtain⟨j,g,k,L,Q,a3⟩:=ab _ _ _ h1;have A:j<m:=by have:=(eP.1 L).1;omega
  have q:=(J j g L).2;refine q.2 k p v Q ?_;have hk:k<P.cellsOf e:=by have:=(eP.1 Q).1;rw[hlen j g L]at this;exact this
  rw[List.getElem?_take_of_lt hk,UJ,<-I j (by omega),<-a3];exact h2;cases F
end
end Go.Am
end
section
namespace Go.Am
open Go.ChangeShapes Go.WideShapes Go.ChangeAt Go.RowKit
def gh0(w:World):Gh:=⟨λ_=>none,λr _=>r<w.heap.size⟩
theorem ZH(g:Gh)(w:World)(b r o:Nat): ¬Wr1 ⟨[],g,w⟩ b r o:=by simp[Wr1]
theorem JLX(w:World):Inv ⟨[],gh0 w,w⟩ where
 box:=λb cs h=>by simp at h
 arr:=λb wm esz rows h=>by simp at h
 apart:=λb1 b2 r o h=>absurd h (ZH _ _ _ _ _)
 const:=λr o h=>⟨h,λb=>ZH _ _ _ _ _⟩
def vK(w w':World):Prop:=oF (λ_ _=>False) w w'
theorem vK.kept{w w':World}(h:vK w w')(e:MemPlace->Prop):w.keptBut w' e:=by
 obtain⟨h1,h2,h3,g,j⟩:=h;refine⟨g,j,λi hi=>?_⟩;grind
theorem vK.same{w w':World}(h:vK w w'){p:MemPlace}(hp:p.block<w.heap.size):w.sameAt w' p:=by
 obtain⟨h1,h2,h3,o,q⟩:=h;cases p with
 |cell b off=>
  have g:b<w.heap.size:=hp;have j:=CV g;show w'.cell? ⟨b,off,none⟩=w.cell? ⟨b,off,none⟩;grind [qW,cellAt]
 |map b=>
  have g:b<w.heap.size:=hp;have j:=CV g;show w'.heap[b]?=w.heap[b]?;cases hw:w.heap[b]? with
  |none=>simp_all
  |some x=>
   cases x with
   |cells c e fz=>
    obtain⟨c',k,v,r⟩:=h2 b c e fz hw;rw[k];have:c'=c:=by apply Array.ext_getElem?;simp_all
    rw[this]
   |_=>exact h3 b _ hw (λc e fz n=>by cases n)
theorem vK.frozen{w w':World}(h:vK w w'){a:Addr}(hp:a.block<w.heap.size):w'.frozen? a=w.frozen? a:=by
 obtain⟨h1,h2,h3,e,g⟩:=h;grind [World.frozen?]
theorem JEt{P:Program}{F:Orc}(n:jN P F){f:FuncId}{args:List AV}{vals:Array Value}{w:World}(hl:args.length=vals.size)
  (hr: ∀(i:Nat) x v,args[i]?=some x->vals[i]?=some v->JL ⟨[],gh0 w,w⟩ x v) (h:F f args []=some (.p (.b true),[])):
  Calls P f vals w λe w'=>e=.returned (.bool true)/\vK w w':=by
 refine((n _ _ _ _ h).2 (gh0 w) w vals (JLX w) hl hr).mono λe w' ⟨v,g',C,_,j,hrel⟩=>?_;cases hrel with
 |p _ _ hrel=>
  cases hrel with
  |b=>refine⟨C,?_⟩;obtain⟨g,q,k,y⟩:=j.keep;refine⟨g,λr c e fz hr=>?_,k,y⟩;obtain⟨c',A,D,B⟩:=q r c e fz hr;exact⟨c',A,D,λo _=>B o (fun⟨b,z⟩=>ZH _ _ _ _ _ z)⟩
section
variable {H:Type} {enc:TypeId×Value->H} {P:Program}
theorem vk(hl:laidOutB P=true)(hm:mapsRowed P=true)(j: ∀{t e:TypeId},t<P.types.size->P.underlying t=some (.slice e)->0<P.cellsOf e){W W':World}{sp:Nat->Bool}:
  ∀{ts:List TypeId} {vs:List Value} {k:List (DataW H)} {ps:List MemPlace},(∀t∈ts,t<P.types.size)->DataW.TrodAll enc P W 0 (λ_=>true) true ts vs k ps->
   (∀p∈ps,W.sameAt W' p)->(∀p∈ps,sp p.block=true)->DataW.TrodAll enc P W' 0 sp true ts vs k ps
 |[],[],[],_,_,h,_,_=>h
 |[],_::_,_,_,_,h,_,_=>h.elim
 |[],[],_::_,_,_,h,_,_=>h.elim
 |_::_,[],_,_,_,h,_,_=>h.elim
 |_::_,_::_,[],_,_,h,_,_=>h.elim
 |t::ts,v::vs,d::k,_,o,⟨p,q,⟨n,h1⟩,h2,rfl⟩,w,r=>by refine⟨p,q,⟨n,DataW.trod_stays (kids_rows hl hm) j (λh=>by cases h) (o t (by simp)) h1 (λx g=>w x (by simp[g])) (λx g=>r x (by simp[g]))⟩,?_,rfl⟩;exact vk hl hm j (λx g=>o x (by simp[g])) h2 (λx g=>w x (by simp[g])) (λx g=>r x (by simp[g]))
def RS(P:Program):Bool:=(List.range P.types.size).all λt=>match P.underlying t with|some (.slice e)=>decide (0<P.cellsOf e)|_=>true
theorem Lo(h:RS P=true){t e:TypeId}(g:t<P.types.size)(he:P.underlying t=some (.slice e)):0<P.cellsOf e:=by
 grind [RS]
theorem JGt{fn:Func}{s:ChangeSpec}{tb:TypeId}(hl:laidOutB P=true)(hm:mapsRowed P=true)(E:RS P=true)(z: ∀t∈fn.params.toList,t<P.types.size)
  (o:fn.resultTypes= #[tb]) (y:P.underlying tb=some .bool) (e:s.vars=[]) {apart fresh g again:Bool} {W W':World} {args:Array Value} {k B:List (DataW H)} {n:List MemPlace}
  (F:B=[]->s.fn H (k++B)={results:=[.lit (.bool true)],args:=k})
  (A:DataW.Whole enc P fn.params.toList s.vars apart W args.toList k B n) (j:vK W W'):s.post enc P fn apart fresh g again W args (.bool true) W':=by
 have w:=A;have h:=A.lt;obtain⟨p,q,h1,h2,rfl,I,M⟩:=A;rw[e]at h2;obtain⟨rfl,rfl⟩:=trodVars_none h2;rw[lV]at w h I M;have K:=F rfl;have r: ∀sp:Nat->Bool,(∀x∈p,sp x.block=true)->DataW.TrodAll enc P W' 0 sp true fn.params.toList args.toList k p:=λsp C=>
  vk hl hm (λJ N=>Lo E J N) z h1 (λx D=>j.same (h x D)) C
 have L: ∀(b:Nat) (sp:Nat->Bool) (G:Bool),DataW.TrodAll enc P W' b sp G fn.resultTypes.toList ((Value.bool true).resultList fn.resultTypes.size) [.lit (.bool true)] []:=by intro b sp G;rw[o];exact trodAll_cons_mk (shut_bool y _) trodAll_mk0
 refine⟨k,[],p,[],p,[],w,?_,?_,?_,j.kept _,λ_=>⟨?_,?_⟩⟩;grind;simp_all;rw[K,e];rfl;exact ok_one o rfl (okWide_bool_mk y _);refine⟨_,[],[]++p,⟨[]++p,[],trodAll_append (r _ (λ_ _=>rfl)) (L _ _ _),by rw[e];rfl,by simp,λb off C=>?_,λO=>by simp_all⟩,λx D _=>by simpa using D⟩;have v:MemPlace.cell b off∈p:=by simpa using C
 rw[j.frozen (a:=⟨b,off,none⟩) (h _ v)];exact I b off v
def UL(P:Program)(t:TypeId)(pvs:List PV):AV:=match P.underlying t with|some (.struct _)=>.data pvs|some (.array _ _)=>.data pvs|_=>match pvs with|[c]=>.p c|_=>.unk
theorem PP(hl:laidOutB P=true)(hm:mapsRowed P=true){n:Nat}{t:TypeId}{w:World}{r:Reach}{base:Nat}{sp:Nat->Bool}{v:Value}{d:DataW H}{ps:List MemPlace}(hp:tA P n t=true)
  (hv:Value.okWide P w r base t v) (h:DataW.Trod enc P w 0 sp true t v d ps): ∃pvs,fU P n t pvs/\JL ⟨[],gh0 w,w⟩ (UL P t pvs) v:=by
 obtain⟨o,h⟩:=h;obtain⟨pvs,j,C,q⟩:=JI3 hl hm n t _ _ o hp h;refine⟨pvs,j,?_⟩;cases n with
 |zero=>grind [tA]
 |succ n=>
  unfold tA at hp;unfold Value.okWide at hv;unfold UL;have one: ∀{c:PV},pvs=[c]->(∀cs,v≠.agg cs)->JL ⟨[],gh0 w,w⟩ (.p c) v:=by intro c A B;subst A;refine .p _ _ (q 0 c v rfl ?_);cases v<;>first|rfl|simp_all
  unfold fU at j;split at hp;rename_i g;rw[g]at j hv⊢;obtain⟨b,rfl⟩:=j;exact one rfl (λcs y=>by simp_all [Cell.okWide,Cell.ok]);rename_i k g;rw[g]at j hv⊢;obtain⟨z,rfl,_⟩:=j;exact one rfl (λcs y=>by simp_all [Cell.okWide,Cell.ok]);rename_i g;rw[g]at j hv⊢;obtain⟨z,rfl,_⟩:=j;exact one rfl (λcs y=>by simp_all [Cell.okWide,Cell.ok]);rename_i e g;rw[g]at j hv⊢;obtain⟨rows,rfl,_⟩:=j;exact one rfl (λcs y=>by simp_all [Cell.okWide,Cell.ok]);rename_i fs g;rw[g]at hv⊢;obtain⟨cs,rfl,_⟩:=hv;exact .data _ _ (by simp_all) (λi x v h1 h2=>q i x v h1 (by grind [Value.cells]));rename_i m e g;rw[g]at hv⊢;obtain⟨cs,rfl,_⟩:=hv;exact .data _ _ (by simp_all) (λi x v h1 h2=>q i x v h1 (by grind [Value.cells]));cases hp
end
end Go.Am
end
section
namespace Go.Am
section
variable (P:Program) {α β:Type}
def Rd(n:Nat)(t:TypeId)(r:α->List PV)(Q:α->Prop):Prop:= ∀pvs,fU P n t pvs-> ∃x,pvs=r x/\Q x
def fieldsOf(t:TypeId):Option (List (TypeId×Nat)):=match P.underlying t with|some (.struct fs)=>some (fs.toList.map λf=>(f.type,f.offset))|_=>none
variable {P}
theorem JJa{n:Nat}{t:TypeId}{k:IntKind}(e:P.underlying t=some (.int k)):Rd P (n+1) t (r_i k) λz=>k.min<=z/\z<=k.max:=by
 intro pvs h;unfold fU at h;rw[e]at h;obtain⟨z,rfl,g⟩:=h;refine⟨z,rfl,?_⟩;grind [Lit.wf]
theorem Rd.mono{n:Nat}{t:TypeId}{r:α->List PV}{Q g:α->Prop}(h:Rd P n t r Q)(hq: ∀x,Q x->g x):Rd P n t r g:=λpvs j=>by
 obtain⟨x,e,q⟩:=h pvs j;grind
theorem JIM{n:Nat}{t:TypeId}(e:P.underlying t=some .bool):Rd P (n+1) t r_b λ_=>True:=by intro pvs h;unfold fU at h;rw[e]at h;obtain⟨z,rfl⟩:=h;exact⟨z,rfl,trivial⟩
theorem JJN{n:Nat}{t:TypeId}(e:P.underlying t=some .string):Rd P (n+1) t r_s λl=>l.length<=maxLen:=by intro pvs h;unfold fU at h;rw[e]at h;obtain⟨z,rfl,g⟩:=h;exact⟨z,rfl,g⟩
theorem JHd{n:Nat}{t e:TypeId}{r:α->List PV}{Q:α->Prop}{k:Nat}(v:P.underlying t=some (.slice e))(hk:P.cellsOf e=k)(he:Rd P n e r Q):
  Rd P (n+1) t (Zv k r) λl=>l.length<=maxLen/\ ∀x∈l,Q x:=by
 intro pvs h;unfold fU at h;rw[v]at h;obtain⟨rows,rfl,q,g⟩:=h;have j: ∀rows:List (List PV),(∀row∈rows,row.length=P.cellsOf e/\fU P n e row)-> ∃l:List α,rows=l.map r/\ ∀x∈l,Q x:=by
  intro rows
  induction rows with
  |nil=>simp_all
  |cons row rows ih=>
   intro o;obtain⟨l,rfl,q⟩:=ih (λr g=>o r (by simp[g]));obtain⟨x,rfl,A⟩:=he row (o row (by simp)).2;refine⟨x::l,rfl,λy z=>?_⟩;grind
 obtain⟨l,rfl,w⟩:=j rows g;exact⟨l,by rw[hk];rfl,by simpa using q,w⟩
theorem JFy{n m:Nat}{t e:TypeId}{r:α->List PV}{Q:α->Prop}{k:Nat}(o:P.underlying t=some (.array m e))(hk:P.cellsOf e=k)(hm:P.cellsOf t=m*k)(he:Rd P n e r Q):
  Rd P (n+1) t (oL (n:=m) r) λv=> ∀(i:Nat) (h:i<m),Q v[i]:=by
 intro pvs h;unfold fU at h;rw[o]at h;obtain⟨j,y⟩:=h;rw[hm]at j;have g: ∀(m:Nat) (pvs:List PV),pvs.length=m*k->(∀i,i<m->fU P n e ((pvs.drop (i*k)).take k))-> ∃l:List α,l.length=m/\pvs=(l.map r).flatten/\ ∀(i:Nat) (h:i<l.length),Q l[i]:=by
  intro m
  induction m with
  |zero=>simp_all
  |succ m ih=>
   intro pvs h q;rw[Nat.succ_mul]at h;obtain⟨l,h1,h2,h3⟩:=ih (pvs.drop k) (by simp_all) (λi hi=>by
    grind [List.drop_drop,Nat.succ_mul])
   obtain⟨x,w,z⟩:=he _ (q 0 (by omega));rw[Nat.zero_mul,GT]at w;refine⟨x::l,by simp[h1],?_,λi hi=>?_⟩
   all_goals grind [List.take_append_drop]
 obtain⟨l,h1,h2,h3⟩:=g m pvs j (λi hi=>by simp_all);refine⟨⟨l.toArray,by simpa using h1⟩,?_,λi hi=>?_⟩;rw[h2];rfl;simp_all
theorem JEm{m n:Nat}{t:TypeId}{e:List (TypeId×Nat)}{pvs:List PV}(hm:m=n+1)(g:fieldsOf P t=some e)(h:fU P m t pvs):
  pvs.length=P.cellsOf t/\ ∀x∈e,fU P n x.1 ((pvs.drop x.2).take (P.cellsOf x.1)):=by
 grind [fU,fieldsOf]
end
end Go.Am
end
section
namespace Go.Am
section
variable (P:Program)
def yR(p:Ty->TypeId->Bool):Nat->List (TypeId×Nat)->Ty->Bool|_,[],.u=>true|_,[],_=>false|o,[f],a=>decide (f.2=o)&&p a f.1&&decide (P.cellsOf f.1=a.sz)|o,f::g::r,.pr a c=>decide (f.2=o)&&p a f.1&&decide (P.cellsOf f.1=a.sz)&&yR p (o+a.sz) (g::r) c|_,_::_::_,_=>false
def xY:Nat->Ty->TypeId->Bool|0,_,_=>false|n+1,ty,t=>match fieldsOf P t with|some fs=>yR P (xY n) 0 fs ty&&decide (P.cellsOf t=ty.sz)|none=>match P.underlying t,ty with|some .bool,.b=>true|some (.int k),.i k'=>decide (k=k')|some .string,.s=>true|some (.slice e),.l a=>xY n a e&&decide (P.cellsOf e=a.sz)|some (.array m e),.ar g a=>decide (m=g)&&xY n a e&&decide (P.cellsOf e=a.sz)&&decide (P.cellsOf t=m*a.sz)|_,_=>false
def Ty.inR:(t:Ty)->t.D->Prop| .b,_=>True| .i k,z=>k.min<=z/\z<=k.max| .s,z=>List.length z<=maxLen| .l t,z=>List.length z<=maxLen/\ ∀x∈(z:List t.D),t.inR x| .pr a c,x=>a.inR x.1/\c.inR x.2| .ar n t,v=> ∀(i:Nat) (h:i<n),t.inR ((v:Vector t.D n)[i])| .u,_=>True| .f,_=>True
end
section
variable {P:Program}
theorem C6{n:Nat}(ih: ∀ty t,xY P n ty t=true->Rd P n t (cel ty) ty.inR): ∀(o:Nat) (fs:List (TypeId×Nat)) (ty:Ty) (pvs:List PV),yR P (xY P n) o fs ty=true->
  (∀x∈fs,fU P n x.1 ((pvs.drop x.2).take (P.cellsOf x.1)))-> ∃x:ty.D,(pvs.drop o).take ty.sz=cel ty x/\ty.inR x
 |o,[],ty,pvs,h,_=>by
  cases ty with
  |u=>exact⟨(),by simp[Ty.sz,cel],trivial⟩
  |_=>grind [yR]
 |o,[f],ty,pvs,h,hf=>by
  simp only[yR,aS,decide_eq_true_eq]at h;obtain⟨⟨h1,h2⟩,h3⟩:=h;have:=hf f (by simp);rw[h1,h3]at this;obtain⟨x,e,q⟩:=ih ty f.1 h2 _ this;grind
 |o,f::g::r,ty,pvs,h,hf=>by
  cases ty with
  |pr a c=>
   simp only[yR,aS,decide_eq_true_eq]at h;obtain⟨⟨⟨h1,h2⟩,h3⟩,j⟩:=h;have:=hf f (by simp);rw[h1,h3]at this;obtain⟨x,e,q⟩:=ih a f.1 h2 _ this;obtain⟨y,e',q'⟩:=C6 ih (o+a.sz) (g::r) c pvs j (λz k=>hf z (by simp_all));refine⟨(x,y),?_,q,q'⟩;grind [cel,Ty.sz,List.drop_drop]
  |_=>grind [yR]
theorem rdT: ∀(n:Nat) (ty:Ty) (t:TypeId),xY P n ty t=true->Rd P n t (cel ty) ty.inR
 |0,_,_,h=>by cases h
 |n+1,ty,t,h=>by
  unfold xY at h;split at h;rename_i fs j;simp only[aS,decide_eq_true_eq]at h;intro pvs r;obtain⟨y,v⟩:=JEm rfl j r;obtain⟨x,e,q⟩:=C6 (rdT n) 0 fs ty pvs h.1 v;grind;split at h;rename_i g;exact JIM g;rename_i k k' g;simp only[decide_eq_true_eq]at h;subst h;exact JJa g;rename_i g;exact JJN g;rename_i e a g;simp only[aS,decide_eq_true_eq]at h;exact JHd g h.2 (rdT n a e h.1);rename_i m e w a g;simp only[aS,decide_eq_true_eq]at h;obtain⟨⟨⟨h1,h2⟩,h3⟩,o⟩:=h;subst h1;exact JFy g h3 o (rdT n a e h2);cases h
def Cy(P:Program)(t:TypeId):Bool:=match P.underlying t with|some (.struct _)=>true|some (.array _ _)=>true|_=>false
def HH(agg:Bool)(t:Ty)(x:t.D):TA:=if agg=true then .dt t x else .c (.d t x)
theorem PB(L:Nat->Nat){t:TypeId}{ty:Ty}{agg:Bool}(ha:Cy P t=agg)(h1:agg=false->ty.sz=1)(x:ty.D):UL P t (cel ty x)=bV L (HH agg ty x):=by
 unfold UL Cy at*;generalize P.underlying t=u at ha⊢;rcases u with _|d;subst ha;dsimp only;rw[HF (h1 rfl) x];rfl;cases d<;>first
 |(subst ha;rfl)
 |(subst ha;dsimp only;rw[HF (h1 rfl) x];rfl)
theorem JJX{F:Orc}{f:FuncId}{g:Sig}{S:(tyL g.ti).D->Option (tyL g.to).D}{xs:List TA}{x:(tyL g.ti).D}{y:(tyL g.to).D}(he:EOk F (aE f g S))(hx:xP g xs []=some x)(e:S x=some y)
  (hv:HS g y=some (.a (.c (.d .b true)),[])):F f (xs.map (bV (lns []))) []=some (.p (.b true),[]):=by
 have h:(aE f g S).go xs [] (λv out=>some (v,out))=some (TV.a (.c (.d .b true)),([]:List (Bool×TB))):=by simp only[aE,hx,e,JQ,hv];cases g.same<;>rfl
 obtain⟨v,out,h1,_,h3⟩:=he.ok h;injection h3 with h3;injection h3 with h4 h5;subst h4 h5;exact h1
end
end Go.Am
end
section
namespace Go.Am
set_option linter.unusedVariables false
set_option maxRecDepth 20000
set_option maxHeartbeats 1000000
section
variable {B S:Int}
def EF(e:J5):Prop:=1<=e.1/\e.1<=1099511627776/\1<=e.2.2.1/\e.2.2.1<=1073741824/\0<=e.2.2.2.1/\e.2.2.2.1<e.1/\0<=e.2.2.2.2.1/\e.2.2.2.2.1<e.1/\0<=e.2.2.2.2.2.1/\e.2.2.2.2.2.1<e.1/\e.2.2.2.2.2.2.2=[]/\mK e.2.2.2.2.2.2.1=some true/\((e.2.1=1/\e.2.2.2.2.2.1=0)\/(e.2.1=2/\0<e.2.2.2.1/\1<=e.2.2.2.2.2.1/\e.2.2.2.2.2.1<=e.2.2.2.1))
theorem RB{x:JP}(e:lL x=some true):0<=x.1/\x.1<x.2:=by
 have g:Par (lL x) λy=>y=true->0<=x.1/\x.1<x.2:=by unfold lL;exact .ge (λc=>.some λd=>⟨c,hE.1 d⟩) λ_=>.some nofun
 exact g _ e rfl
theorem EF.of{e:J5}(h:Js e=some true)(hk:e.2.1=1\/e.2.1=2):EF e:=by
 have w:Par (pO e) λy=>y.2=true->y.1=e->1<=e.2.2.1/\e.2.2.1<=1073741824/\e.2.2.2.2.2.2.2=[]/\mK e.2.2.2.2.2.2.1=some true/\((e.2.1=1/\e.2.2.2.2.2.1=0)\/(e.2.1=2/\0<e.2.2.2.1/\1<=e.2.2.2.2.2.1/\e.2.2.2.2.2.1<=e.2.2.2.1)):=by
  unfold pO;refine .eq (λc1=>.bind λG h2=>.eq (λg=>by omega) λ_=>.ite (λj=>.ge (λn=>.some λk K=>?_) λ_=>.some nofun) λ_=>.some nofun) λc1=>.eq (λg=>.bind λG h2=>.eq (λ_=>.ite (λj=>.gt (λP=>.ge (λQ=>.le (λO=>.ge (λn=>.some λk K=>?_) λ_=>.some nofun) λ_=>.some nofun) λ_=>.some nofun) λ_=>.some nofun) λ_=>.some nofun) λc=>absurd g c) λg=>by omega
  grind [jQ];grind [jQ]
 have o:Par (Js e) λy=>y=true->EF e:=by unfold Js;refine .bind λa L=>.ite (λc1=>.ite (λg=>.ge (λn=>.le (λk=>.bind λb1 r=>.ite (λE=>.bind λb2 q=>.ite (λj=>.bind λb3 v=>.some λB=>?_) λ_=>.some nofun) λ_=>.some nofun) λ_=>.some nofun) λ_=>.some nofun) λ_=>.some nofun) λ_=>.some nofun;subst E;subst j;subst B;obtain⟨M,N,H,J,I⟩:=w _ L c1 (dY.1 g);obtain⟨F,C⟩:=RB r;obtain⟨x,A⟩:=RB q;obtain⟨z,D⟩:=RB v;exact⟨n,k,M,N,F,C,x,A,z,D,H,J,I⟩
 exact o _ h rfl
def bD(e:J5):Int:=e.2.2.2.2.2.2.1.1
end
section
variable {B S:Int}
theorem KH{α:Type}{l:List α}{i:Int}(h0:0<=i)(h1:i<J0 l): ∃a,idx l i=some a/\l[i.toNat]?=some a:=by simp_all [J0,idx]
theorem hC{α:Type}{o:Option α}{v:α}(h:o=some v):Tot o λy=>y=v:=⟨v,h,rfl⟩
end
section
variable {B S:Int}
def ltE(a b:J5):Prop:=bD a<bD b\/(bD a=bD b/\a.1<b.1)
end
section
variable {B S:Int}
theorem ltE.trans{a b c:J5}(h1:ltE a b)(h2:ltE b c):ltE a c:=by
 grind [ltE]
end
end Go.Am
end
section
namespace Go.Am
set_option linter.unusedVariables false
set_option maxRecDepth 20000
set_option maxHeartbeats 1000000
section
variable {B S:Int}
def cI(l:List J5)(p:Int):Int:=l.foldl (λa e=>if(e.2.1=1\/e.2.1=2)/\bD e=p then e.1 else a) 0
theorem EY(l:List J5)(e:J5)(p:Int):cI (l++[e]) p=if(e.2.1=1\/e.2.1=2)/\bD e=p then e.1 else cI l p:=by simp[cI]
theorem zP{l:List J5}{e:J5}{p:Int}(h: ¬((e.2.1=1\/e.2.1=2)/\bD e=p)):cI (l++[e]) p=cI l p:=by
 grind [EY]
structure Rel(l:List J5)(n:Int)(fr:List aF)(lk rows:List aA):Prop where
 rng: ∀f∈fr,0<=f.1.1/\f.1.1<n
 one:fr.Pairwise λa b=>a.1.1≠b.1.1
 apt: ∀f∈fr,∀d∈lk,d.1≠f.1.1
 hot: ∀f∈fr,f.1.2.1=cI l f.1.1/\(f.2.1=false-> ∀r,idx rows f.1.1=some r->r.1=cI l f.1.1)
 lak: ∀d∈lk,d.2.2=cI l d.1
 row: ∀p r,idx rows p=some r->r.1<=cI l p/\((∀f∈fr,f.1.1≠p)->(∀d∈lk,d.1≠p)->r.1=cI l p)
def TN(m:List J5)(s:List UInt8):Prop:= ∀c,uE s=some (c,0)->Rel m c.1 [] c.2.2.2.1 c.2.2.2.2
def OC(m:List J5)(e:J5):Prop:=e.1=J0 m+1/\Js e=some true/\((e.2.1=1\/e.2.1=2)->e.2.2.2.2.1=cI m (bD e))/\(e.2.1=7->e.2.2.2.2.2.1<=cI m (bD e))/\(e.2.1=6->TN m e.2.2.2.2.2.2.2)
def eY(l:List J5):Prop:= ∀(i:Nat) e,l[i]?=some e->OC (l.take i) e
def gT(l:Jt):Prop:=l.1=1/\0<=l.2.2/\l.2.2<=J0 l.2.1/\J0 l.2.1<=4096
def JG(k:J7):Prop:=gT k.2.2.1/\eY k.2.2.1.2.1/\Rel k.2.2.1.2.1 k.1 k.2.2.2.1.2.1 k.2.2.2.2.2.2.2 k.2.2.2.2.2.2.1
theorem eY.app{l:List J5}{e:J5}(h:eY l)(he:OC l e):eY (l++[e]):=by
 intro i x g;by_cases hi:i<l.length;rw[uR hi]at g;rw[List.take_append_of_le_length (Nat.le_of_lt hi)];exact h i x g;grind
theorem eY.take{l:List J5}(h:eY l)(n:Nat):eY (l.take n):=by
 intro i x e;rw[List.getElem?_take]at e;split at e;rename_i hi;rw[List.take_take,Nat.min_eq_left (Nat.le_of_lt hi)];exact h i x e;cases e
theorem sj{l:List J5}(h:eY l)(p:Int):0<=cI l p/\cI l p<=J0 l:=by
 have g: ∀n:Nat,0<=cI (l.take n) p/\cI (l.take n) p<=J0 l:=by
  intro n
  induction n with
  |zero=>exact⟨aZ _,Jh⟩
  |succ n ih=>
   rw[List.take_add_one];cases hn:l[n]? with
   |none=>simpa using ih
   |some e=>
    have k:=sY hn;have j:=(h n e hn).1;grind [J0,EY]
 have:=g l.length;simp_all
theorem Rel.ent{l:List J5}{n:Int}{fr:List aF}{lk rows:List aA}(h:Rel l n fr lk rows){e:J5}(he: ¬(e.2.1=1\/e.2.1=2)):Rel (l++[e]) n fr lk rows:=by have k: ∀p,cI (l++[e]) p=cI l p:=λp=>zP λh=>he h.1;exact⟨h.rng,h.one,h.apt,by simpa only[k]using h.hot,by simpa only[k]using h.lak,by simpa only[k]using h.row⟩
def upw{α:Type}(P:α->Prop)(l:List α)(i:Int):Prop:=i<=9223372036854775807/\(0<=i->GQ P l i)
theorem CZ{α:Type}{P:α->Prop}{l:List α}:upw P l 0:=⟨by decide,λ_=>JKl⟩
theorem zE{α:Type}{P:α->Prop}{l:List α}{i:Int}{x:α}(h:upw P l i)(e:idx l i=some x)(hx:P x):upw P l (J1 .i64 i 1):=by have o:=Jm i 1;obtain⟨h0,_⟩:=cL e;have h1:=h.1;refine⟨by omega,λh2=>JEf (h.2 h0) e hx (by omega)⟩
theorem EB{α:Type}{P:α->Prop}{l:List α}{i:Int}(h:upw P l i)(hi: ¬i<J0 l): ∀x∈l,P x:=JEZ (h.2 (by have:=Jh (l:=l);omega)) hi
theorem nS{α:Type}{l:List α}{i:Int}{x:α}(e:idx l i=some x):x∈l:=zQ5 (cL e).2
theorem qh{α:Type}{l r:List α}{k:Int}(h:bG l (some k) none=some r):0<=k/\r=l.drop k.toNat:=by
 have h0:0<=k:=by grind [bG,qD,sJ]
 have h1:k<=J0 l:=by grind [bG,qD,sJ,J0]
 obtain⟨r',e,d,_⟩:=KK h0 h1;simp_all
theorem B8{α:Type}{l r:List α}{k:Int}(h:bG l none (some k)=some r):0<=k/\k<=J0 l/\r=l.take k.toNat:=by
 grind [bG,qD,sJ,J0]
theorem KB{α:Type}{b:Nat}{l r:List α}(h:cZ b l=some r):r=l:=by grind [cZ]
theorem gL{α:Type}{b:Nat}{l m r:List α}(h:JO b l m=some r):r=l++m:=by grind [JO]
theorem fi{l:Jt}{y:Bool}(e:JB l=some y)(c:y=true):1<=l.1/\l.1<=1099511627776/\J0 l.2.1<=4096:=by
 have g:Par (JB l) λy=>y=true->1<=l.1/\l.1<=1099511627776/\J0 l.2.1<=4096:=by unfold JB;exact .ltf (λc1=>.gtf (λh=>.gtf (λj=>.ltf (λ_=>.bind λ_ _=>.ite (λ_=>.some nofun) λ_=>λ_ _ _=>⟨by omega,by omega,by omega⟩) λ_=>.some nofun) λ_=>.some nofun) λ_=>.some nofun) λ_=>.some nofun
 exact g _ e c
theorem yP{l:Jt}{n:Int}(h:iV l=some n)(h1:1<=l.1)(h2:l.1<=1099511627776)(h3:J0 l.2.1<=4096):n=l.1+J0 l.2.1-1:=by
 grind [iV,Jm,J0,bC]
theorem JFs{l:Jt}{e:J5}{y:yI}(h:gF (l,e)=some y)(c:y.2.2=0)(hl:l.1=1):y.1=(l.1,l.2.1++[(J0 l.2.1+1,e.2)],l.2.2)/\y.2.1=J0 l.2.1+1/\Js (J0 l.2.1+1,e.2)=some true/\J0 l.2.1+1<=4096:=by
 have g:Par (gF (l,e)) λy=>y.2.2=0->y.1=(l.1,l.2.1++[(J0 l.2.1+1,e.2)],l.2.2)/\y.2.1=J0 l.2.1+1/\Js (J0 l.2.1+1,e.2)=some true/\J0 l.2.1+1<=4096:=(by unfold gF;dsimp only;refine .bind λA h2=>.not (λ_=>.some nofun) λj=>.eqf (λo=>.bind λq h3=>.eq (λ_=>.some nofun) λ_=>.bind λx C=>.bind λv D=>.not (λ_=>.some nofun) λk=>.bind λw z=>.bind λn r=>.some λ_=>?_) λ_=>.some nofun;subst k;obtain⟨v1,v2,B⟩:=fi h2 j;grind [yP,Jm,J0,gL,KB]);exact g _ h c
theorem QX{l:Jt}{n:Int}{y:gW}(h:kN (l,n)=some y)(c:y.2=0):y.1.2.1=l.2.1/\(gT l->gT y.1):=by
 have e:Par (kN (l,n)) λy=>y.2=0->y.1.2.1=l.2.1/\(gT l->gT y.1):=(by unfold kN;refine .bind λ_ h2=>.not (λ_=>.some nofun) λg=>.bind λm k=>.gt (λ_=>.some nofun) λo=>.some λ_=>⟨rfl,λhi=>⟨hi.1,?_⟩⟩;obtain⟨v1,v2,j⟩:=fi h2 g;have:=yP k v1 v2 j;obtain⟨i1,i2,i3,i4⟩:=hi;have:=tD l.2.2 n;grind);exact e _ h c
abbrev eZ:J5:=(0,0,0,0,0,0,(0,0,(false,[]),false,[]),[])
theorem JLp:Js eZ=some false:=rfl
theorem JHV{l:Jt}{n:Int}{y:yM}(h:eB (l,n)=some y):(y.2=0/\idx l.2.1 (JJ .i64 n l.1)=some y.1)\/(y.2≠0/\y.1=eZ):=by
 have e:Par (eB (l,n)) λy=>(y.2=0/\idx l.2.1 (JJ .i64 n l.1)=some y.1)\/(y.2≠0/\y.1=eZ):=by unfold eB;exact .bind λ_ _=>.not (λ_=>.some (.inr ⟨by decide,rfl⟩)) λ_=>.ltf (λ_=>.bind λ_ _=>.gt (λ_=>.some (.inr ⟨by decide,rfl⟩)) λ_=>.bind λ_ h=>.some (.inl ⟨rfl,h⟩)) λ_=>.some (.inr ⟨by decide,rfl⟩)
 exact e _ h
theorem wC{p:JK}{id y:Int}(h:iG (p,id)=some y):y<=9223372036854775807/\(0<=y-> ∃f,idx p.2.1 y=some f/\f.1.1=id)/\(y<0-> ∀f∈p.2.1,f.1.1≠id):=by
 have k:Par (iG (p,id)) λy=>y<=9223372036854775807/\(0<=y-> ∃f,idx p.2.1 y=some f/\f.1.1=id)/\(y<0-> ∀f∈p.2.1,f.1.1≠id):=(by unfold iG;refine .while (λz=>z.1=id/\z.2.2=p/\upw (λf:aF=>f.1.1≠id) p.2.1 z.2.1) ⟨rfl,rfl,CZ⟩ ?_;rintro⟨a,i,q⟩ ⟨rfl,rfl,j⟩;unfold VO;refine .lt (λc=>.bind λf g=>.eq (λe=>.some ⟨j.1,λ_=>⟨f,g,e⟩,λh=>?_⟩) λe=>.some ⟨rfl,rfl,zE j g e⟩) λc=>.some ⟨by decide,λh=>absurd h (by decide),λ_=>EB j c⟩;have:=(cL g).1;grind);exact k _ h
theorem ZM{p:JK}{id y:Int}(h:gR (p,id)=some y):(0<=y-> ∃f,idx p.2.1 y=some f/\f.1.1=id)/\(y<0->JY p=some true-> ∀f∈p.2.1,f.1.1≠id):=by
 have e:Par (gR (p,id)) λy=>(0<=y-> ∃f,idx p.2.1 y=some f/\f.1.1=id)/\(y<0->JY p=some true-> ∀f∈p.2.1,f.1.1≠id):=by unfold gR;refine .bind λv j=>.not (λc=>.some ⟨λh=>absurd h (by decide),λ_ h=>?_⟩) λ_=>.bind λg h2=>.some ⟨(wC h2).2.1,λh _=>(wC h2).2.2 h⟩;simp_all
 exact e _ h
theorem yV{p:JK}{id:Int}{y:Ji×Bool}(h:lJ (p,id)=some y):(y.2=true-> ∃f∈p.2.1,f.1=y.1/\f.1.1=id)/\(y.2=false->JY p=some true-> ∀f∈p.2.1,f.1.1≠id):=by
 have e:Par (lJ (p,id)) λy=>(y.2=true-> ∃f∈p.2.1,f.1=y.1/\f.1.1=id)/\(y.2=false->JY p=some true-> ∀f∈p.2.1,f.1.1≠id):=(by unfold lJ;refine .bind λi hi=>.lt (λc=>.some ⟨nofun,λ_=>(ZM hi).2 c⟩) λc=>.bind λf j=>.some ⟨λ_=>?_,nofun⟩;obtain⟨g,h1,h2⟩:=(ZM hi).1 (by omega);grind [nS]);exact e _ h
end
end Go.Am
end
section
namespace Go.Am
set_option linter.unusedVariables false
set_option maxRecDepth 20000
set_option maxHeartbeats 1000000
section
variable {B S:Int} {l l':List J5} {n:Int} {fr:List aF} {lk lk' rows rows':List aA} {f f':aF} {i:Int}
theorem Co(h:fr.Pairwise λa b=>a.1.1≠b.1.1){i j:Nat}{a b:aF}(ha:fr[i]?=some a)(hb:fr[j]?=some b)(e:a.1.1=b.1.1):i=j:=by
 have:=List.pairwise_iff_getElem.1 h;obtain⟨h1,rfl⟩:=eP.1 ha;obtain⟨h2,rfl⟩:=eP.1 hb;grind
theorem JG4(hf:idx fr i=some f)(n:f'.1.1=f.1.1)(h:fr.Pairwise λa b=>a.1.1≠b.1.1){x:aF}(hx:x∈fr.set i.toNat f'):x=f'\/(x∈fr/\x.1.1≠f.1.1):=by
 obtain⟨h0,hf⟩:=cL hf;obtain⟨j,g⟩:=kR.1 hx;rw[List.getElem?_set]at g;split at g;split at g;injection g with g;exact .inl g.symm;cases g;rename_i k;exact .inr ⟨zQ5 g,λe=>k (Co h hf g e.symm)⟩
theorem Rel.upd(h:Rel l n fr lk rows)(hf:idx fr i=some f)(k:f'.1.1=f.1.1)(ho: ∀q,q≠f.1.1->cI l' q=cI l q)(hr: ∀q,q≠f.1.1->idx rows' q=idx rows q)(h1:f'.1.2.1=cI l' f.1.1)
  (h2:f'.2.1=false-> ∀r,idx rows' f.1.1=some r->r.1=cI l' f.1.1) (h3: ∀r,idx rows' f.1.1=some r->r.1<=cI l' f.1.1):Rel l' n (fr.set i.toNat f') lk rows':=by
 have B:=nS hf;have A: ∀{x:aF},x∈fr.set i.toNat f'->x=f'\/(x∈fr/\x.1.1≠f.1.1):=λg=>JG4 hf k h.one g;have E:f'∈fr.set i.toNat f':=by obtain⟨h0,hf⟩:=cL hf;exact List.mem_set (eP.1 hf).1 _
 refine⟨λx g=>?_,?_,λx g d v=>?_,λx g=>?_,λd v=>?_,λp r z=>?_⟩;rcases A g with rfl|⟨g,_⟩;rw[k];exact h.rng _ B;exact h.rng _ g;have q:=h.one;obtain⟨h0,hf⟩:=cL hf;rw[List.pairwise_iff_getElem]at q⊢;intro a b H F D;obtain⟨K,rfl⟩:=eP.1 hf;simp only[List.getElem_set];simp only[List.length_set]at H F;have G:=q a b H F D;grind;rcases A g with rfl|⟨g,_⟩;rw[k];exact h.apt _ B d v;exact h.apt _ g d v;rcases A g with rfl|⟨g,y⟩;rw[k];exact⟨h1,h2⟩;rw[ho _ y,hr _ y];exact h.hot _ g;rw[h.lak d v,ho];exact h.apt _ B d v;by_cases o:p=f.1.1;subst o;exact⟨h3 r z,λI=>absurd k (I _ E)⟩;rw[hr _ o]at z;obtain⟨G,J⟩:=h.row p r z;rw[ho _ o];refine⟨G,λa b=>J (λx g e=>?_) b⟩;have C:x∈fr.set i.toNat f':=(by obtain⟨h0,hf⟩:=cL hf;obtain⟨j,w⟩:=kR.1 g;refine zQ5 (i:=j) ?_;rw[List.getElem?_set,if_neg];exact w;rintro rfl;rw[hf]at w;injection w with w;subst w;exact o e.symm);exact a x C e
theorem Rel.drop(h:Rel l n fr lk rows)(hf:idx fr i=some f)(hc:f.2.1=false):Rel l n (fr.eraseIdx i.toNat) lk rows:=by
 have q: ∀{x:aF},x∈fr.eraseIdx i.toNat->x∈fr:=λg=>(List.eraseIdx_sublist fr i.toNat).subset g;refine⟨λx g=>h.rng x (q g),h.one.sublist (List.eraseIdx_sublist fr i.toNat),λx g=>h.apt x (q g),λx g=>h.hot x (q g),h.lak,λp r w=>?_⟩;obtain⟨y,z⟩:=h.row p r w;refine⟨y,λa b=>?_⟩;by_cases o:p=f.1.1;subst o;exact(h.hot f (nS hf)).2 hc r w;refine z (λx g e=>?_) b;obtain⟨h0,hf⟩:=cL hf;obtain⟨j,k⟩:=kR.1 g;have v:j≠i.toNat:=by rintro rfl;rw[hf]at k;injection k with k;subst k;exact o e.symm
 exact a x (List.mem_eraseIdx_iff_getElem?.2 ⟨j,v,k⟩) e
theorem Rel.add(h:Rel l n fr lk rows)(hn: ∀x∈fr,x.1.1≠f.1.1)(hr:0<=f.1.1/\f.1.1<n)(h1:f.1.2.1=cI l f.1.1)(h2:f.2.1=false-> ∀r,idx rows f.1.1=some r->r.1=cI l f.1.1)
  (hs: ∀d,d∈lk'↔d∈lk/\d.1≠f.1.1):Rel l n (fr++[f]) lk' rows:=by
 have k: ∀{x:aF},x∈fr++[f]->x∈fr\/x=f:=λg=>by simpa using g
 refine⟨λx g=>?_,?_,λx g d j=>?_,λx g=>?_,λd j=>h.lak d ((hs d).1 j).1,λp r v=>?_⟩;rcases k g with g|rfl;exact h.rng x g;exact hr;rw[List.pairwise_append];exact⟨h.one,List.pairwise_singleton _ _,λa y b o=>by simp at o;subst o;exact hn a y⟩;rcases k g with g|rfl;exact h.apt x g d ((hs d).1 j).1;exact((hs d).1 j).2;rcases k g with g|rfl;exact h.hot x g;exact⟨h1,h2⟩;obtain⟨q,z⟩:=h.row p r v;refine⟨q,λa b=>?_⟩;have w:f.1.1≠p:=a f (by simp);exact z (λx g=>a x (by simp[g])) λd j e=>b d ((hs d).2 ⟨j,by rw[e];exact w.symm⟩) e
theorem PX{p q:JK}(h:iX (p,i,f)=some q):q=(p.1,p.2.1.set i.toNat f,p.2.2):=by
 have e:Par (iX (p,i,f)) λq=>q=(p.1,p.2.1.set i.toNat f,p.2.2):=by unfold iX;refine .bind λg h2=>.bind λ_ _=>.bind λ_ _=>.some ?_;rw[KB h2];rfl
 exact e _ h
theorem Rel.use(h:Rel l n fr lk rows)(hf:idx fr i=some f)(h1:f'.1=f.1)(h2:f'.2.1=f.2.1):Rel l n (fr.set i.toNat f') lk rows:=by have q:=h.hot f (nS hf);exact h.upd hf (by rw[h1]) (λ_ _=>rfl) (λ_ _=>rfl) (by rw[h1];exact q.1) (by rw[h2];exact q.2) λr e=>(h.row _ r e).1
theorem JLb{p q:JK}{id:Int}(e:zN (p,id)=some q)(h:Rel l n p.2.1 lk rows):Rel l n q.2.1 lk rows:=by
 have g:Par (zN (p,id)) λq=>Rel l n q.2.1 lk rows:=by unfold zN;refine .bind λj r=>.lt (λ_=>.some h) λc=>.bind λx o=>.bind λy k=>.some ?_;rw[PX k];exact h.use o rfl rfl
 exact g _ e
theorem JFw{p:JK}{y:HV}(e:tZ p=some y)(h:Rel l n p.2.1 lk rows):y.2.2=0->Rel l n y.1.2.1 lk rows:=by
 have g:Par (tZ p) λy=>y.2.2=0->Rel l n y.1.2.1 lk rows:=by unfold tZ;refine .bind λ_ _=>.not (λ_=>.some nofun) λ_=>.eq (λ_=>.some nofun) λ_=>.while (λz=>Rel l n z.1.2.1 lk rows) h ?_;intro z j;unfold WG;refine .bind λx r=>.ite (λ_=>.bind λy o=>.bind λq k=>.bind λ_ _=>.some ?_) λ_=>.map (.bind λ_ _=>.some λ_=>j);show Rel l n q.2.1 lk rows;rw[PX k];exact j.use o rfl rfl
 exact g _ e
theorem JJC{p:JK}{id:Int}{y:iQ}(e:tY (p,id)=some y)(c:y.2=0)(h:Rel l n p.2.1 lk rows):Rel l n y.1.2.1 lk rows:=by
 have k:Par (tY (p,id)) λy=>y.2=0->Rel l n y.1.2.1 lk rows:=by
  unfold tY;refine .bind λ_ _=>.not (λ_=>.some nofun) λ_=>.bind λj F=>.lt (λ_=>.some nofun) λ_=>.bind λx r=>.ite (λ_=>.some nofun) λw=>.bind λI E=>.bind λJ D=>.bind λG z=>.bind λA B=>?_;have C:A=p.2.1.eraseIdx j.toNat:=by obtain⟨H,v⟩:=qh z;have o:=Jm j 1;have q:=(wC F).1;have h0:=(cL r).1;rw[gL B,KB D,(B8 E).2.2,v,List.eraseIdx_eq_take_drop_succ,show(J1 .i64 j 1).toNat=j.toNat+1 by omega]
  have g:=h.drop r w;rw[<-C]at g;exact .lt (λ_=>.ge (λ_=>.some λ_=>g) λ_=>.some λ_=>g) λ_=>.ge (λ_=>.some λ_=>g) λ_=>.some λ_=>g
 exact k _ e c
end
end Go.Am
end
section
namespace Go.Am
set_option linter.unusedVariables false
set_option maxRecDepth 20000
set_option maxHeartbeats 1000000
section
variable {B S:Int} {l l':List J5} {n:Int} {fr:List aF} {lk lk' rows rows':List aA} {f f':aF} {i:Int}
theorem EH{k:J7}{id:Int}{y:aA×Bool}(e:rT (k,id)=some y):(y.2=true->y.1∈k.2.2.2.2.2.2.2/\y.1.1=id)/\(y.2=false-> ∀d∈k.2.2.2.2.2.2.2,d.1≠id):=by
 have g:Par (rT (k,id)) λy=>(y.2=true->y.1∈k.2.2.2.2.2.2.2/\y.1.1=id)/\(y.2=false-> ∀d∈k.2.2.2.2.2.2.2,d.1≠id):=(by unfold rT;refine .while (λz=>z.1=id/\z.2.2.1=k/\upw (λd:aA=>d.1≠id) k.2.2.2.2.2.2.2 z.2.1) ⟨rfl,rfl,CZ⟩ ?_;rintro⟨a,i,q,r⟩ ⟨rfl,rfl,h⟩;unfold xp;refine .lt (λc=>.bind λd j=>.eq (λe=>.bind λo n=>.some ⟨λ_=>?_,nofun⟩) λe=>.some ⟨rfl,rfl,zE h j e⟩) λc=>.some ⟨nofun,λ_=>EB h c⟩;grind [nS]);exact g _ e
theorem LM{k:J7}(e:Jv k=some true):JY k.2.2.2.1=some true:=by
 have h:Par (mG k) λy=>y=true->JY k.2.2.2.1=some true:=by unfold mG;refine .ge (λ_=>.le (λ_=>.ge (λ_=>.le (λ_=>.bind λ_ _=>.ite (λ_=>.bind λn h3=>.ite (λc=>λ_ _ _=>?_) λ_=>.some nofun) λ_=>.some nofun) λ_=>.some nofun) λ_=>.some nofun) λ_=>.some nofun) λ_=>.some nofun;simp_all
 have g:Par (Jv k) λy=>y=true->JY k.2.2.2.1=some true:=by unfold Jv;exact .bind λa j=>.not (λ_=>.some nofun) λc=>λ_ _ _=>h _ j c
 exact g _ e rfl
theorem OT{k:J7}{p h:Int}(e:pT (k,p)=some h)(hv:Jv k=some true)(hi:JG k)(h0:0<=p)(h1:p<k.1):h=cI k.2.2.1.2.1 p:=by
 have q:Par (pT (k,p)) λh=>h=cI k.2.2.1.2.1 p:=(by obtain⟨_,_,r⟩:=hi;unfold pT;refine .bind λv A=>.nof (λ_=>.ltf (λ_=>.ge (λc=>absurd h1 (by grind)) λ_=>.bind λB h3=>.ite (λn=>.some ?_) λn=>.bind λC w=>.ite (λg=>.some ?_) λg=>.bind λx y=>.some ?_) λc=>absurd h0 (by grind)) λc=>?_;obtain⟨f,z,o,j⟩:=(yV h3).1 n;rw[<-o,(r.hot f z).1,j];obtain⟨o,j⟩:=(EH w).1 g;rw[r.lak _ o,j];exact(r.row p x y).2 ((yV h3).2 n (LM hv)) ((EH w).2 g);simp_all);exact q _ e
theorem qf{e:J5}{y:sQ}(h:jU (rows,e)=some y)(c:y.2=0):Js e=some true/\(e.2.1≠7->y.1=rows)/\(e.2.1=7->(∀q,q≠bD e->idx y.1 q=idx rows q)/\ ∀r,idx y.1 (bD e)=some r-> ∃r0,idx rows (bD e)=some r0/\r.1=cP r0.1 e.2.2.2.2.2.1):=by
 have j:Par (jU (rows,e)) λy=>y.2=0->Js e=some true/\(e.2.1≠7->y.1=rows)/\(e.2.1=7->(∀q,q≠bD e->idx y.1 q=idx rows q)/\ ∀r,idx y.1 (bD e)=some r-> ∃r0,idx rows (bD e)=some r0/\r.1=cP r0.1 e.2.2.2.2.2.1):=by
  unfold jU;refine .bind λ_ _=>.not (λ_=>.some nofun) λ_=>.bind λv z=>.not (λ_=>.some nofun) λw=>.ne (λc=>.some λ_=>⟨by simp_all,λ_=>rfl,λh=>absurd h c⟩) λc=>.ge (λ_=>.some nofun) λ_=>.bind λr0 h0=>.bind λg n=>.some λ_=>⟨by simp_all,λh=>absurd c h,λ_=>?_⟩;have o:g=rows.set (bD e).toNat (cP r0.1 e.2.2.2.2.2.1,r0.2):=by
   have k:Par (FG (rows,bD e,cP r0.1 e.2.2.2.2.2.1,r0.2)) λg=>g=rows.set (bD e).toNat (cP r0.1 e.2.2.2.2.2.1,r0.2):=by unfold FG;refine .bind λx h2=>.bind λ_ _=>.bind λ_ _=>.some ?_;rw[KB h2];rfl
   exact k _ n
  grind [idx,bD]
 exact j _ h c
theorem JBb{l:Jt}{e:J5}{y:yI}(h:gF (l,e)=some y)(c:y.2.2=0):1<=l.1/\l.1<=1099511627776/\J0 l.2.1<=4096:=by
 have g:Par (gF (l,e)) λy=>y.2.2=0->1<=l.1/\l.1<=1099511627776/\J0 l.2.1<=4096:=by unfold gF;exact .bind λk h2=>.not (λ_=>.some nofun) λj=>λ_ _ _=>fi h2 j
 exact g _ h c
def CH(k:J7)(e:J5)(y:gU):Prop:=Jv k=some true/\ ∃e':J5,e'.2.1=e.2.1/\e'.2.2.2.2.2=e.2.2.2.2.2/\e'.1=J0 k.2.2.1.2.1+1/\y.2.1=e'.1/\y.1.1=k.1/\y.1.2.2.1=(1,k.2.2.1.2.1++[e'],k.2.2.1.2.2)/\gT y.1.2.2.1/\y.1.2.2.2.1=k.2.2.2.1/\y.1.2.2.2.2.2.2.2=k.2.2.2.2.2.2.2/\eY (k.2.2.1.2.1++[e'])/\(e.2.1≠7->y.1.2.2.2.2.2.2.1=k.2.2.2.2.2.2.1)/\(e.2.1=7->(∀q,q≠bD e->idx y.1.2.2.2.2.2.2.1 q=idx k.2.2.2.2.2.2.1 q)/\ ∀r,idx y.1.2.2.2.2.2.2.1 (bD e)=some r-> ∃g,idx k.2.2.2.2.2.2.1 (bD e)=some g/\r.1=cP g.1 e.2.2.2.2.2.1)
theorem SP{k:J7}{e0 e:J5}{z:gU}(hv:Jv k=some true)(hi:JG k)(h1:e0.2.1=e.2.1)(h2:e0.2.2.2.2.2=e.2.2.2.2.2)(hp:(e.2.1=1\/e.2.1=2)->e0.2.2.2.2.1=cI k.2.2.1.2.1 (bD e))
  (M:e.2.1=7->e.2.2.2.2.2.1<=cI k.2.2.1.2.1 (bD e)) (R:e.2.1=6->TN k.2.2.1.2.1 e.2.2.2.2.2.2.2)
  (hz:((gF (k.2.2.1,e0)).bind λg=>
   if aM g.2.2 0 then
    some ((0,0,(0,[],0),(0,[],0),([],[]),[],[],[]),0,g.2.2)
   else
    (eB (g.1,g.2.1)).bind λq=>
    (fG (k.2.2.2.2.2.1,q.1)).bind λj=>
    if aM j.2 0 then
     some ((0,0,(0,[],0),(0,[],0),([],[]),[],[],[]),0,j.2)
    else
     (jU (k.2.2.2.2.2.2.1,q.1)).bind λn=>
     if aM n.2 0 then
      some ((0,0,(0,[],0),(0,[],0),([],[]),[],[],[]),0,n.2)
     else
      some ((k.1,k.2.1,g.1,k.2.2.2.1,k.2.2.2.2.1,j.1,n.1,k.2.2.2.2.2.2.2),g.2.1,0))=some z):z.2.2=0->CH k e z:=by
 have C:Par ((gF (k.2.2.1,e0)).bind λg=>
   if aM g.2.2 0 then
    some ((0,0,(0,[],0),(0,[],0),([],[]),[],[],[]),0,g.2.2)
   else
    (eB (g.1,g.2.1)).bind λq=>
    (fG (k.2.2.2.2.2.1,q.1)).bind λj=>
    if aM j.2 0 then
     some ((0,0,(0,[],0),(0,[],0),([],[]),[],[],[]),0,j.2)
    else
     (jU (k.2.2.2.2.2.2.1,q.1)).bind λn=>
     if aM n.2 0 then
      some ((0,0,(0,[],0),(0,[],0),([],[]),[],[],[]),0,n.2)
     else
      some ((k.1,k.2.1,g.1,k.2.2.2.1,k.2.2.2.2.1,j.1,n.1,k.2.2.2.2.2.2.2),g.2.1,0)) λz=>z.2.2=0->CH k e z:=by
  obtain⟨r,G,S⟩:=hi;refine .bind λg x=>.ne (λc=>.some λh=>absurd h c) λw=>.bind λq D=>.bind λj L=>.ne (λc=>.some λh=>absurd h c) λ_=>.bind λn A=>.ne (λc=>.some λh=>absurd h c) λy=>.some λ_=>?_;obtain⟨b1,b2,b3,Q⟩:=JFs x w r.1;have N:=Jh (l:=k.2.2.1.2.1);obtain⟨O,B,F⟩:=qf A y;have E:q.1=(J0 k.2.2.1.2.1+1,e0.2):=(by rcases JHV D with⟨_,h⟩|⟨_,h⟩;rw[b1,b2,r.1]at h;obtain⟨_,h⟩:=cL h;have v:=(JBb x w).2.2;have o:=bC (J0 k.2.2.1.2.1+1) 1;rw[show(JJ .i64 (J0 k.2.2.1.2.1+1) 1).toNat=k.2.2.1.2.1.length by grind [J0]]at h;simp_all;grind [JLp]);rw[E]at B F;have J:bD (J0 k.2.2.1.2.1+1,e0.2)=bD e:=congrArg (λz:Int×aN×List UInt8=>z.2.1.1) h2;have K:e0.2.2.2.2.2.1=e.2.2.2.2.2.1:=congrArg (λz:Int×aN×List UInt8=>z.1) h2;have I:e0.2.2.2.2.2.2.2=e.2.2.2.2.2.2.2:=congrArg (λz:Int×aN×List UInt8=>z.2.2) h2;refine⟨hv,(J0 k.2.2.1.2.1+1,e0.2),h1,h2,rfl,b2,rfl,?_,?_,rfl,rfl,?_,λc=>B (by simp_all),λc=>?_⟩;show g.1=_;rw[b1,r.1]
  ·show gT g.1;rw[b1,r.1];obtain⟨T,H,U,P⟩:=r;refine⟨rfl,H,?_,?_⟩
   all_goals
    grind [ES,zC]
  ·refine G.app ⟨rfl,b3,λc=>?_,λc=>?_,λc=>?_⟩
   all_goals grind
  grind
 exact C _ hz
theorem ON{k:J7}{e:J5}{y:gU}(h:fX (k,e)=some y)(c:y.2.2=0)(hi:JG k)(hp:(e.2.1=1\/e.2.1=2)->0<=bD e/\bD e<k.1)
  (q:e.2.1=7->e.2.2.2.2.2.1<=cI k.2.2.1.2.1 (bD e)) (w:e.2.1=6->TN k.2.2.1.2.1 e.2.2.2.2.2.2.2):CH k e y:=by
 have E: ∀{o:J5} {b:Bool},JN o=some b->b=false-> ¬(o.2.1=1\/o.2.1=2):=fun{o b} D r=>by
  grind [JN,qV]
 have B:Par (fX (k,e)) λy=>y.2.2=0->CH k e y:=by
  unfold fX;refine .bind λv H=>.not (λ_=>.some nofun) λF=>?_;have g:Jv k=some true:=by simp_all
  refine .gt (λ_=>.bind λG _=>.lt (λ_=>.some nofun) λ_=>.bind λC _=>.bind λb D=>.ite (λr=>.bind λA n=>λz j=>SP (e0:=(e.1,e.2.1,e.2.2.1,C.2.2.1,A,e.2.2.2.2.2)) g hi rfl rfl ?_ q w j) λr=>λz j=>SP (e0:=(e.1,e.2.1,e.2.2.1,C.2.2.1,0,e.2.2.2.2.2)) g hi rfl rfl ?_ q w j) λ_=>.bind λb D=>.ite (λr=>.bind λA n=>λz j=>SP (e0:=(e.1,e.2.1,e.2.2.1,0,A,e.2.2.2.2.2)) g hi rfl rfl ?_ q w j) λr=>λz j=>SP (e0:=(e.1,e.2.1,e.2.2.1,0,0,e.2.2.2.2.2)) g hi rfl rfl ?_ q w j
  all_goals intro x
  exact OT n g hi (hp x).1 (hp x).2;grind;exact OT n g hi (hp x).1 (hp x).2;grind
 exact B _ h c
end
end Go.Am
end
section
namespace Go.Am
set_option linter.unusedVariables false
set_option maxRecDepth 20000
set_option maxHeartbeats 1000000
section
variable {B S:Int} {l l':List J5} {n:Int} {fr:List aF} {lk lk' rows rows':List aA} {f f':aF} {i:Int} {k k':J7}
theorem Rel.note{e:J5}{p:Int}(h:Rel l n fr lk rows)(he: ¬(e.2.1=1\/e.2.1=2))(h0:e.2.2.2.2.2.1<=cI l p)(h1: ∀q,q≠p->idx rows' q=idx rows q)(h2: ∀r,idx rows' p=some r-> ∃r0,idx rows p=some r0/\r.1=cP r0.1 e.2.2.2.2.2.1):Rel (l++[e]) n fr lk rows':=by
 have k: ∀p,cI (l++[e]) p=cI l p:=λp=>zP λh=>he h.1;refine⟨h.rng,h.one,h.apt,λx v=>?_,by simpa only[k]using h.lak,λq r g=>?_⟩;rw[k];refine⟨(h.hot x v).1,λc r g=>?_⟩;by_cases j:x.1.1=p;rw[j]at g⊢;obtain⟨r0,o,w⟩:=h2 r g;have:=(h.hot x v).2 c r0 (by rw[j];exact o);rw[j]at this;have:=tD r0.1 e.2.2.2.2.2.1;omega;rw[h1 _ j]at g;exact(h.hot x v).2 c r g;rw[k];by_cases j:q=p;subst j;obtain⟨r0,o,w⟩:=h2 r g;obtain⟨z,y⟩:=h.row q r0 o;have:=tD r0.1 e.2.2.2.2.2.1;exact⟨by omega,λa b=>by have:=y a b;omega⟩;rw[h1 _ j]at g;exact h.row q r g
theorem CH.inv{e:J5}{y:gU}(h:CH k e y)(hi:JG k)(he: ¬(e.2.1=1\/e.2.1=2))(w:e.2.1=7->e.2.2.2.2.2.1<=cI k.2.2.1.2.1 (bD e)):JG y.1:=by
 obtain⟨F,e',C,B,D,E,x,o,b0,v,r,A,j,n⟩:=h;obtain⟨i1,i2,i3⟩:=hi;have g: ¬(e'.2.1=1\/e'.2.1=2):=by rw[C];exact he
 refine⟨b0,by rw[o];exact A,?_⟩;rw[x,o,v,r];by_cases c:e.2.1=7;obtain⟨b1,b2⟩:=n c;have q:e'.2.2.2.2.2.1=e.2.2.2.2.2.1:=congrArg (λz:Int×aN×List UInt8=>z.1) B;exact i3.note g (by rw[q];exact w c) b1 (by rw[q];exact b2);rw[j c];exact i3.ent g
theorem ZF{m:Int}(e:lP (k,m)=some k'):k'.1=k.1/\(gT k.2.2.1->gT k'.2.2.1)/\k'.2.2.1.2.1=k.2.2.1.2.1/\k'.2.2.2=k.2.2.2:=by
 have g:Par (lP (k,m)) λk'=>k'.1=k.1/\(gT k.2.2.1->gT k'.2.2.1)/\k'.2.2.1.2.1=k.2.2.1.2.1/\k'.2.2.2=k.2.2.2:=by unfold lP;refine .bind λ_ _=>.bind λn h3=>.eq (λc=>.some ?_) λ_=>.some ⟨rfl,id,rfl,rfl⟩;obtain⟨h,j⟩:=QX h3 c;exact⟨rfl,j,h,rfl⟩
 exact g _ e
theorem JG.same(h:JG k)(e1:k'.1=k.1)(e2:gT k.2.2.1->gT k'.2.2.1)(g:k'.2.2.1.2.1=k.2.2.1.2.1)(n:k'.2.2.2.1.2.1=k.2.2.2.1.2.1)(e:k'.2.2.2.2.2.2.2=k.2.2.2.2.2.2.2)(j:k'.2.2.2.2.2.2.1=k.2.2.2.2.2.2.1):JG k':=by unfold JG;rw[e1,g,n,e,j];exact⟨e2 h.1,h.2⟩
theorem JG.force{m:Int}(h:JG k)(e:lP (k,m)=some k'):JG k':=by obtain⟨n,o,j,g⟩:=ZF e;exact h.same n o j (by rw[g]) (by rw[g]) (by rw[g])
theorem JFi{p:JK}{x:Ji}{y:iQ}(e:AI (p,x)=some y)(c:y.2=0): ∃i f r,idx p.2.1 i=some f/\f.1.1=x.1/\y.1=(p.1,p.2.1.set i.toNat (x,true,r,true),p.2.2):=by
 have k:Par (AI (p,x)) λy=>y.2=0-> ∃i f r,idx p.2.1 i=some f/\f.1.1=x.1/\y.1=(p.1,p.2.1.set i.toNat (x,true,r,true),p.2.2):=by
  unfold AI;refine .bind λ_ _=>.not (λ_=>.some nofun) λ_=>.bind λw _=>.ne (λc=>.some λh=>absurd h c) λ_=>.bind λi hi=>.lt (λ_=>.some nofun) λz=>.bind λf v=>.le (λ_=>.some nofun) λ_=>.not (λ_=>.bind λq n=>.some λ_=>?_) λ_=>.bind λq n=>.some λ_=>?_
  all_goals
   obtain⟨g,j,o⟩:=(wC hi).2.1 (by omega);have:g=f:=by rw[show idx p.2.1 i=some f from v]at j;injection j with j;exact j.symm
   subst this;exact⟨i,g,_,j,o,PX n⟩
 exact k _ e c
theorem ln{e:J5}{y:cX}(h:tS (k,e)=some y)(hi:JG k)(hk:e.2.1=1\/e.2.1=2)(hf: ∃f∈k.2.2.2.1.2.1,f.1.1=bD e):JG y.1:=by
 have D:Par (tS (k,e)) λy=>JG y.1:=by
  unfold tS;dsimp only;have L:e.2.1≠7:=by omega
  have K:e.2.1≠6:=by omega
  refine .bind λj h2=>.ne (λ_=>.some hi) λI=>.bind λv h3=>.bind λ_ _=>.bind λ_ _=>.bind λJ M=>.ne (λ_=>.some hi) λN=>.some ?_;obtain⟨f,hf,w⟩:=hf;have E:=hi.2.2.rng f hf;rw[w]at E;obtain⟨W,e',Y,Z,a3,R,Q,F,b0,a7,H,U,B,aa⟩:=ON h2 I hi (λ_=>E) (λc=>absurd c L) (λc=>absurd c K);obtain⟨i,g,r,S,n,O⟩:=JFi M N;have V: ∃g∈k.2.2.2.1.2.1,g.1=v.1/\g.1.1=bD e:=by
   cases c3:v.2 with
   |true=>exact(yV h3).1 c3
   |false=>exact absurd w ((yV h3).2 c3 (LM W) f hf)
  obtain⟨g',a0,C,A⟩:=V;have x:v.1.1=bD e:=by rw[<-C];exact A
  have o:bD e'=bD e:=congrArg (λz:Int×aN×List UInt8=>z.2.1.1) Z;have G:e'.2.1=1\/e'.2.1=2:=by rw[Y];exact hk
  have n:g.1.1=bD e:=n.trans x;have up:=hi.2.2.upd (l':=k.2.2.1.2.1++[e']) (rows':=k.2.2.2.2.2.2.1) (f':=((v.1.1,j.2.1,hU v.1.2.2 (Int.toNat e.2.2.2.2.2.2.1.2.1) e.2.2.2.2.2.2.1.2.2.2),true,r,true)) S (x.trans n.symm)
   (λq P=>zP λh=>P (by rw[<-h.2,o,n])) (λ_ _=>rfl) (by
    rw[EY,if_pos ⟨G,by rw[o,n]⟩];exact R) nofun (λr T=>by
    rw[EY,if_pos ⟨G,by rw[o,n]⟩];have q:=(hi.2.2.row _ r T).1;have b:=sj hi.2.1 (g.1.1);omega)
  refine⟨b0,by show eY j.1.2.2.1.2.1;rw[F];exact U,?_⟩;show Rel j.1.2.2.1.2.1 j.1.1 J.1.2.1 j.1.2.2.2.2.2.2.2 j.1.2.2.2.2.2.2.1;rw[F,Q,O,H,B (by omega)];exact up
 exact D _ h
end
end Go.Am
end
section
namespace Go.Am
set_option linter.unusedVariables false
set_option maxRecDepth 20000
set_option maxHeartbeats 1000000
section
variable {B S:Int} {l l':List J5} {n:Int} {fr:List aF} {lk lk' rows rows':List aA} {f f':aF} {i:Int} {k k':J7}
theorem JLJ{p:JK}{x:Ji}{y:Int×Int×Int×List aF}(e:rK (p,x)=some y)(c:y.2.2.1=0):y.2.2.2=p.2.1++[(x,false,0,true)]/\ ∀f∈p.2.1,f.1.1≠x.1:=by
 have g:Par (rK (p,x)) λy=>y.2.2.1=0->y.2.2.2=p.2.1++[(x,false,0,true)]/\ ∀f∈p.2.1,f.1.1≠x.1:=by unfold rK;refine .bind λ_ _=>.not (λ_=>.some nofun) λ_=>.bind λo _=>.ne (λc=>.some λh=>absurd h c) λ_=>.bind λi hi=>.ge (λ_=>.some nofun) λq=>.eq (λ_=>.some nofun) λ_=>.bind λr k=>.bind λn j=>.some λ_=>⟨?_,(wC hi).2.2 (by omega)⟩;rw[gL j,KB k]
 exact g _ e c
theorem JHz{p:JK}{id j:Int}{y:iQ}(e:AQ (p,id,j)=some y)(c:y.2=0): ∃i f,idx p.2.1 i=some f/\f.1.1=id/\j<=f.1.2.1/\(y.1.2.1=p.2.1\/ ∃f',f'.1=f.1/\(f'.2.1=false->f.2.1=false\/f.1.2.1=j)/\y.1.2.1=p.2.1.set i.toNat f'):=by
 have r:Par (AQ (p,id,j)) λy=>y.2=0-> ∃i f,idx p.2.1 i=some f/\f.1.1=id/\j<=f.1.2.1/\(y.1.2.1=p.2.1\/ ∃f',f'.1=f.1/\(f'.2.1=false->f.2.1=false\/f.1.2.1=j)/\y.1.2.1=p.2.1.set i.toNat f'):=by
  unfold AQ;refine .bind λ_ _=>.not (λ_=>.some nofun) λ_=>.bind λi hi=>.lt (λ_=>.some nofun) λz=>.bind λf x=>.gt (λ_=>.some nofun) λo=>?_;obtain⟨g,n,v⟩:=(wC hi).2.1 (by omega);have:g=f:=by rw[show idx p.2.1 i=some f from x]at n;injection n with n;exact n.symm
  subst this;have o:j<=g.1.2.1:=Int.not_lt.1 o;have go: ∀{f':aF} {q:JK},f'.1=g.1->(f'.2.1=false->g.2.1=false\/g.1.2.1=j)->iX (p,i,f')=some q-> ∃i f,idx p.2.1 i=some f/\f.1.1=id/\j<=f.1.2.1/\(q.2.1=p.2.1\/ ∃f',f'.1=f.1/\(f'.2.1=false->f.2.1=false\/f.1.2.1=j)/\q.2.1=p.2.1.set i.toNat f'):=fun{f' q} h1 h2 k=>⟨i,g,n,v,o,.inr ⟨f',h1,h2,by rw[PX k]⟩⟩;refine .not (λ_=>.some λ_=>⟨i,g,n,v,o,.inl rfl⟩) λ_=>.eq (λw=>.bind λq k=>.some λ_=>go (f':=(g.1,false,0,g.2.2.2)) rfl (λ_=>.inr w) k) λ_=>.le (λ_=>.bind λq k=>.some λ_=>go (f':=(g.1,g.2.1,J1 .i64 j 1,g.2.2.2)) rfl (λh=>.inl h) k) λ_=>.bind λq k=>.some λ_=>go (f':=(g.1,g.2)) rfl (λh=>.inl h) k
 exact r _ e c
theorem JEp{p:JK}(e:JY p=some true):J0 p.2.1<=64:=by
 have g:Par (JY p) λy=>y=true->J0 p.2.1<=64:=by unfold JY;exact .ltf (λ_=>.gtf (λ_=>.gtf (λ_=>λ_ _ _=>by omega) λ_=>.some nofun) λ_=>.some nofun) λ_=>.some nofun
 exact g _ e rfl
theorem JFh{x:Ji}{y:cX}(e:rL (k,x)=some y)(c:y.2=0)(hi:JG k):JG y.1:=by
 have M:Par (rL (k,x)) λy=>y.2=0->JG y.1:=by
  unfold rL;dsimp only;refine .bind λv J=>.not (λ_=>.some nofun) λR=>.ltf (λc0=>.ge (λ_=>.some nofun) λc1=>.bind λy3 h3=>.lt (λ_=>.some nofun) λc3=>.bind λy4 Z=>.gt (λ_=>.some nofun) λc4=>.bind λU h5=>.ne (λc=>.some λh=>absurd h c) λV=>.bind λL Y=>?_) λ_=>.some nofun;subst R;obtain⟨i1,i2,i3⟩:=id hi;have Q:x.2.1=cI k.2.2.1.2.1 x.1:=by have w:=OT h3 J hi (by omega) (by omega);have q2:=OT Z J hi (by omega) (by omega);omega
  have N:0<=x.1/\x.1<k.1:=⟨by omega,by omega⟩;obtain⟨H,G⟩:=JLJ h5 V;have F:=EH Y;refine .ite (λI=>.bind λ_ _=>.bind λy8 E=>.bind λ_ _=>.bind λa2 n=>?_) λI=>.some λ_=>⟨i1,i2,?_⟩;have hlen: ∀z:aF,(JJ .i64 (J0 (k.2.2.2.1.2.1++[z])) 1).toNat=k.2.2.2.1.2.1.length:=λz=>by
   have o:=bC (J0 (k.2.2.2.1.2.1++[z])) 1;have q:=JEp (LM J);have T:=Jh (l:=k.2.2.2.1.2.1);rw[ES,zC]at*;unfold J0 at*;omega
  have st: ∀a b:aF,(k.2.2.2.1.2.1++[a]).set k.2.2.2.1.2.1.length b=k.2.2.2.1.2.1++[b]:=λa b=>by simp
  have P: ∀a:aF,(k.2.2.2.1.2.1++[a])[k.2.2.2.1.2.1.length]?=some a:=λa=>by simp
  unfold aW bF at*;rw[H,hlen,P]at E;injection E with E;subst E;simp only[H,hlen,st,P]at n⊢;injection n with n;subst n;refine .while (λz=>z.2.1=k/\z.2.2.1=x/\z.2.2.2.2.1=k.2.2.2.1.2.1++[(x,true,L.1.2.1,true)]/\z.1<=9223372036854775807/\(0<=z.1->z.2.2.2.2.2.2.2.2=(k.2.2.2.2.2.2.2.take z.1.toNat).filter λd=>d.1≠x.1)) ⟨rfl,rfl,rfl,show(0:Int)<=9223372036854775807 by decide,λ_=>rfl⟩ ?_;rintro⟨i,g,W,k3,fr,u1,u2,u3,out⟩ ⟨rfl,rfl,C,S,D⟩
  (try dsimp only at C S D)
  unfold WH;dsimp only;have o:=Jm i 1;have step: ∀{d:aA},idx g.2.2.2.2.2.2.2 i=some d->0<=i/\(0<=J1 .i64 i 1->g.2.2.2.2.2.2.2.take (J1 .i64 i 1).toNat=g.2.2.2.2.2.2.2.take i.toNat++[d]):=fun{d} B=>by obtain⟨A,w⟩:=cL B;exact⟨A,λh=>by rw[show(J1 .i64 i 1).toNat=i.toNat+1 by omega,List.take_add_one,w];rfl⟩
  refine .lt (λc=>.bind λd B=>.ne (λcd=>.bind λd2 j=>.bind λO K=>.some ⟨rfl,rfl,C,by dsimp only;omega,λh=>?_⟩) λcd=>.some ⟨rfl,rfl,C,by dsimp only;omega,λh=>?_⟩) λc=>.some λ_=>⟨i1,i2,?_⟩;obtain⟨A,w⟩:=step B;rw[B]at j;injection j with j;subst j;show O=_;rw[gL K,D A,w h,List.filter_append];simp[cd];obtain⟨A,w⟩:=step B;show out=_;rw[D A,w h,List.filter_append];simp[cd];show Rel g.2.2.1.2.1 g.1 fr out g.2.2.2.2.2.2.1;have T:=Jh (l:=g.2.2.2.2.2.2.2);rw[C,D (by omega),List.take_of_length_le (by unfold J0 at*;omega)];exact i3.add (f:=(W,true,L.1.2.1,true)) G N Q nofun λd=>by simp
  show Rel _ _ U.2.2.2 _ _;rw[H];refine i3.add (f:=(x,false,0,true)) G N Q (λ_ r hr=>?_) λd=>⟨λh=>⟨h,F.2 I d h⟩,λh=>h.1⟩;exact(i3.row x.1 r hr).2 G (F.2 I)
 exact M _ e c
end
end Go.Am
end
section
namespace Go.Am
set_option linter.unusedVariables false
set_option maxRecDepth 20000
set_option maxHeartbeats 1000000
section
variable {k k':J7}
theorem JJd{y:kp}(e:rI k=some y)(c:y.2.2.2=0)(hi:JG k):JG y.1/\(y.2.2.1=true-> ∃f∈y.1.2.2.2.1.2.1,f.1=y.2.1):=by
 have w:Par (rI k) λy=>y.2.2.2=0->JG y.1/\(y.2.2.1=true-> ∃f∈y.1.2.2.2.1.2.1,f.1=y.2.1):=by
  unfold rI;refine .bind λ_ _=>.not (λ_=>.some nofun) λ_=>.lt (λ_=>.some λ_=>⟨hi,nofun⟩) λ_=>.bind λn h3=>.bind λD H=>.bind λf I=>?_;have v0:n.2.2=0:=by
   have B:Par (tZ k.2.2.2.1) λy=>y.2.2=0\/y.1=(0,[],0):=by unfold tZ;refine .bind λ_ _=>.not (λ_=>.some (.inr rfl)) λ_=>.eq (λ_=>.some (.inr rfl)) λ_=>.while (λ_=>True) trivial λz _=>?_;unfold WG;exact .bind λx R=>.ite (λ_=>.bind λy P=>.bind λq O=>.bind λ_ _=>.some trivial) λ_=>.map (.bind λ_ _=>.some (.inl rfl))
   rcases B _ h3 with h|h
   all_goals grind [idx]
  have i3:Rel k.2.2.1.2.1 k.1 n.1.2.1 k.2.2.2.2.2.2.2 k.2.2.2.2.2.2.1:=JFw h3 hi.2.2 v0;refine .not (λcd=>.bind λA E=>.some λ_=>⟨⟨hi.1,hi.2.1,?_⟩,nofun⟩) λ_=>.bind λK r=>.some λ_=>⟨JG.force (k:=(k.1,k.2.1,k.2.2.1,n.1,k.2.2.2.2)) ⟨hi.1,hi.2.1,i3⟩ r,λ_=>⟨f,?_,rfl⟩⟩;show Rel _ _ A.1.2.1 _ _;by_cases F:A.2=0;grind [JJC];refine absurd ?_ F;have G:Par (gR (n.1,n.2.1)) λi=>0<=i->JY n.1=some true/\iG (n.1,n.2.1)=some i:=by unfold gR;exact .bind λv J=>.not (λ_=>.some λh=>absurd h (by decide)) λM=>.bind λi hi=>.some λ_=>⟨by simp_all,hi⟩
  obtain⟨o,_⟩:=cL I;obtain⟨Q,N⟩:=G _ H o;have C:Par (tY (n.1,n.2.1)) λy=>y.2=0:=by
   unfold tY;refine .bind λv J=>.not (λc=>?_) λ_=>.bind λj S=>?_;simp_all;have:j=D:=by simp_all
   subst this;refine .lt (λc=>absurd o (by omega)) λ_=>.bind λg L=>.ite (λc=>?_) λ_=>.bind λ_ _=>.bind λ_ _=>.bind λ_ _=>.bind λ_ _=>.lt (λ_=>.ge (λ_=>.some rfl) λ_=>.some rfl) λ_=>.ge (λ_=>.some rfl) λ_=>.some rfl;simp_all
  exact C _ E;rw[(ZF r).2.2.2];grind [nS]
 exact w _ e c
theorem JEv{id:Int}{y:jl}(e:rP (k,id)=some y)(c:y.2.2=0)(hi:JG k):JG y.1/\ ∃f∈y.1.2.2.2.1.2.1,f.1=y.2.1:=by
 have g:Par (rP (k,id)) λy=>y.2.2=0->JG y.1/\ ∃f∈y.1.2.2.2.1.2.1,f.1=y.2.1:=(by unfold rP;refine .bind λ_ _=>.not (λ_=>.some nofun) λ_=>.bind λo h3=>.not (λ_=>.some nofun) λj=>.bind λn h=>.some λ_=>⟨hi.force h,?_⟩;obtain⟨f,q,r,_⟩:=(yV h3).1 j;grind [ZF]);exact g _ e c
theorem JEL{id j:Int}{y:cX}(e:rO (k,id,j)=some y)(c:y.2=0)(hi:JG k)(hf: ∃f∈k.2.2.2.1.2.1,f.1.1=id/\f.1.2.1=j):JG y.1:=by
 have D:Par (rO (k,id,j)) λy=>y.2=0->JG y.1:=by
  obtain⟨f,hf,E,S⟩:=hf;have hot:=(hi.2.2.hot f hf).1;rw[E,S]at hot;have J: ∀{g:gU},fX (k,0,7,0,0,0,j,(id,0,(false,[]),false,[]),[])=some g->g.2.2=0->JG g.1/\g.1.2.2.2.1=k.2.2.2.1/\g.1.1=k.1/\ ∀r,idx g.1.2.2.2.2.2.2.1 id=some r->r.1=cI g.1.2.2.1.2.1 id:=by intro g x z;have q:=ON x z hi (λh=>absurd h (by simp_all)) (λ_=>Int.le_of_eq hot) (λh=>absurd h (by simp_all));refine⟨q.inv hi (by simp_all) (λ_=>Int.le_of_eq hot),?_⟩;obtain⟨T,e',a1,a2,a3,a4,R,L,b0,G,V,a9,U,C⟩:=q;refine⟨G,R,λr o=>?_⟩;obtain⟨A,b1,b2⟩:=(C rfl).2 r o;have b3:=(hi.2.2.row id A b1).1;have w:=tD A.1 j;have b2:r.1=cP A.1 j:=b2;rw[L];show r.1=cI (k.2.2.1.2.1++[e']) id;rw[zP (by simp_all)];omega
  unfold rO;dsimp only;refine .bind λv T=>.not (λ_=>.some nofun) λY=>.ltf (λ_=>.gef (λ_=>.ltf (λ_=>.bind λ_ _=>.gt (λ_=>.some nofun) λ_=>.bind λy4 P=>.ge (λN=>.bind λI Q=>.ne (λc=>.some λh=>absurd h c) λK=>.bind λg x=>.ne (λc=>.some λh=>absurd h c) λz=>.some λ_=>?_) λN=>?_) λ_=>.some nofun) λ_=>.some nofun) λ_=>.some nofun;obtain⟨B,O,g3,Z⟩:=J x z;obtain⟨i,M,b1,b2,b3,w⟩:=JHz Q K;refine⟨B.1,B.2.1,?_⟩;show Rel g.1.2.2.1.2.1 g.1.1 I.1.2.1 g.1.2.2.2.2.2.2.2 g.1.2.2.2.2.2.2.1;have n:=B.2.2;rw[O]at n;rcases w with w|⟨f',H,W,F⟩;grind;rw[F];have hh:=n.hot M (nS b1);refine n.upd b1 (by rw[H]) (λ_ _=>rfl) (λ_ _=>rfl) (by grind) (λ_ r o=>?_) λr o=>(n.row _ r o).1;grind;refine absurd E ((ZM P).2 (by omega) (LM ?_) f hf);grind
 exact D _ e c
theorem JDh{y:gU}(e:AR k=some y)(c:y.2.2=0)(hi:JG k):JG y.1:=by
 have g:Par (AR k) λy=>y.2.2=0->JG y.1:=by unfold AR;exact .bind λ_ _=>.not (λ_=>.some nofun) λ_=>.gt (λ_=>.some nofun) λ_=>.bind λ_ _=>.ne (λc=>.some λh=>absurd h c) λ_=>.some λ_=>hi
 exact g _ e c
theorem JFR{j:Int}{a:mF}{y:eH}(e:rM (k,j,a)=some y)(hi:JG k):JG y.1:=by
 have h:Par (rM (k,j,a)) λy=>JG y.1:=by unfold rM;dsimp only;refine .bind λx h2=>.not (λ_=>.some hi) λq=>.eq (λ_=>.bind λw h3=>.bind λ_ _=>.bind λ_ _=>.some ⟨hi.1,hi.2.1,JLb h3 hi.2.2⟩) λ_=>.bind λ_ _=>.bind λv _=>?_;obtain⟨f,n,_,o⟩:=(yV h2).1 q;exact .eq (λ_=>.bind λr g=>.ne (λ_=>.bind λ_ _=>.some hi) λ_=>.some (ln g hi (.inl rfl) ⟨f,n,o⟩)) λ_=>.bind λr g=>.ne (λ_=>.bind λ_ _=>.some hi) λ_=>.some (ln g hi (.inl rfl) ⟨f,n,o⟩)
 exact h _ e
theorem PC{t m:Int}{y:gU}(e:fX (k,0,m,t,0,0,0,(0,0,(false,[]),false,[]),[])=some y)(c:y.2.2=0)(hi:JG k)(hm:m=3\/m=4\/m=5):JG y.1:=by have q:=ON e c hi (λh=>by grind) (λh=>by simp_all) (λh=>by simp_all);exact q.inv hi (λh=>by grind) (λh=>by simp_all)
theorem JGo{h:Int}{y:eH}(e:rW (k,h)=some y)(hi:JG k):JG y.1:=by
 have g:Par (rW (k,h)) λy=>JG y.1:=by unfold rW;exact .bind λ_ _=>.bind λ_ _=>.eq (λ_=>.bind λ_ _=>.bind λ_ _=>.some hi) λ_=>.bind λr j=>.ne (λ_=>.bind λ_ _=>.some hi) λo=>.bind λq n=>.bind λ_ _=>.some (show JG q from(PC j o hi (.inl rfl)).force n)
 exact g _ e
theorem C5{j st:Int}{y:eH}(e:pP (k,j,st)=some y)(hi:JG k):JG y.1:=by
 have h:Par (pP (k,j,st)) λy=>JG y.1:=by unfold pP;refine .bind λ_ _=>.bind λ_ _=>.bind λ_ _=>.eq (λ_=>.bind λ_ _=>.bind λ_ _=>.some hi) λ_=>.bind λq o=>.ne (λ_=>.bind λ_ _=>.some hi) λn=>.while (λz=>JG z.2.2.2.2.2.2.2) (PC (k:=(k.1,k.2.1,k.2.2.1,k.2.2.2.1,_,k.2.2.2.2.2)) o n hi (.inr (.inl rfl))) λz g=>?_;unfold VW;exact .lt (λ_=>.bind λ_ _=>.eq (λ_=>.bind λ_ _=>.bind λ_ _=>.not (λ_=>.bind λ_ _=>.bind λ_ _=>.some g) λ_=>.some g) λ_=>.some g) λ_=>.some g
 exact h _ e
theorem JJT{v:Int}{a:mF}{y:eH}(e:rC (k,v,a)=some y)(hi:JG k):JG y.1:=by
 have r:Par (rC (k,v,a)) λy=>JG y.1:=by unfold rC;have g: ∀{o:Option (eA)},Par (o.bind λj=>if aM j.2 0 then(Jw j.2).bind λw=>some (k,w)else some ((k.1,k.2.1,k.2.2.1,k.2.2.2.1,k.2.2.2.2.1,j.1,k.2.2.2.2.2.2),1,0,0,(false,[]),0)) λy=>JG y.1:=.bind λ_ _=>.ne (λ_=>.bind λ_ _=>.some hi) λ_=>.some hi;refine .bind λ_ _=>.ne (λ_=>.bind λ_ _=>.some hi) λ_=>.eq (λ_=>.bind λD x=>.some (JGo x hi)) λ_=>.eq (λ_=>.bind λC z=>.some (C5 z hi)) λ_=>.eq (λ_=>.bind λ_ _=>.eq (λ_=>g) λ_=>.ne (λ_=>.bind λ_ _=>.some hi) λ_=>.some hi) λ_=>.eq (λ_=>.bind λ_ _=>.eq (λ_=>g) λ_=>.ne (λ_=>.bind λ_ _=>.some hi) λ_=>.some hi) λ_=>.bind λ_ _=>.bind λh _=>.ne (λ_=>.bind λ_ _=>.some hi) λ_=>.ite (λ_=>.bind λA q=>.eq (λ_=>.some hi) λ_=>.some (JFR (k:=(k.1,k.2.1,k.2.2.1,k.2.2.2.1,h.1,k.2.2.2.2.2)) q hi)) λ_=>.bind λ_ _=>.gt (λ_=>.bind λB n=>.eq (λ_=>.some hi) λ_=>.some (C5 (k:=(k.1,k.2.1,k.2.2.1,k.2.2.2.1,h.1,k.2.2.2.2.2)) n hi)) λ_=>.bind λ_ _=>.some hi
 exact r _ e
theorem Cx{x:Ju}{e:J5}{y:eH}(h:gQ (k,x,e)=some y)(hi:JG k):JG y.1:=by
 have j:Par (gQ (k,x,e)) λy=>JG y.1:=(by unfold gQ;dsimp only;refine .bind λA h2=>.not (λ_=>.some hi) λo=>.bind λn h3=>.bind λ_ _=>.ne (λ_=>.bind λ_ _=>.some hi) λ_=>.bind λz q=>.ne (λ_=>.bind λ_ _=>.some hi) λ_=>?_;obtain⟨f,w,_,v⟩:=(yV h2).1 o;have r:n.1=e.2.2.2.2.2.2.1.1:=(by grind [MW]);have g:=ln q hi (.inr rfl) ⟨f,w,v.trans r.symm⟩;exact .eq (λ_=>.bind λ_ _=>.not (λ_=>.bind λ_ _=>.some g) λ_=>.some g) λ_=>.some g);exact j _ h
end
section
variable {k k':J7}
theorem JGW{g:Int}{c:JP}{y:eH}(h:lK (k,g,c)=some y)(hi:JG k):JG y.1:=by
 have e:Par (lK (k,g,c)) λy=>JG y.1:=by unfold lK;exact .bind λ_ _=>.ne (λ_=>.bind λ_ _=>.some hi) λ_=>.ne (λ_=>.bind λ_ _=>.some hi) λ_=>.bind λ_ _=>.not (λ_=>.some hi) λ_=>.bind λn j=>.some (Cx j hi)
 exact e _ h
theorem qe{j:Int}{y:eH}(h:fY (k,j)=some y)(hi:JG k):JG y.1:=by
 have n:Par (fY (k,j)) λy=>JG y.1:=by unfold fY;have q: ∀x:Ju,Par ((pS (k,j)).bind λe=>if Jp e.2 then(Jw 14).bind λo=>some (k,o)else(gQ (k,x,e.1)).bind λg=>some (g.1,g.2)) λy=>JG y.1:=λx=>.bind λ_ _=>.not (λ_=>.bind λ_ _=>.some hi) λ_=>.bind λA r=>.some (Cx r hi);exact .bind λ_ _=>.ne (λ_=>.bind λ_ _=>.some hi) λ_=>.eq (λ_=>.eq (λ_=>.bind λv z=>.ne (λ_=>.bind λ_ _=>.some hi) λw=>.bind λ_ _=>.some (show JG v.1 from PC z w hi (.inr (.inr rfl)))) λ_=>q _) λ_=>q _
 exact n _ h
end
section
variable {k k':J7}
def Fl(r:eF):Prop:=r.1=5->r.2.2.2.2≠0
theorem mb{r:eF}(h:r.1≠5):Fl r:=λe=>absurd e h
theorem IX{n:Int}{r:eF}(h:Jw n=some r)(hn: ¬n=0):Fl r:=by unfold Jw at h;injection h with h;subst h;exact λ_=>hn
theorem JJJ{x:Ju}{e:J5}{y:eH}(h:gQ (k,x,e)=some y):Fl y.2:=by
 have g:Par (gQ (k,x,e)) λy=>Fl y.2:=by unfold gQ;have d:Fl (1,x.1,0,(false,[]),0):=mb (show(1:Int)≠5 by decide);exact .bind λr h2=>.not (λ_=>.some (mb (show(3:Int)≠5 by decide))) λj=>.bind λq h3=>.bind λ_ _=>.ne (λc=>.bind λ_ h=>.some (IX h c)) λ_=>.bind λn o=>.ne (λc=>.bind λ_ h=>.some (IX h c)) λ_=>.eq (λ_=>.bind λ_ _=>.not (λ_=>.bind λ_ _=>.some d) λ_=>.some d) λ_=>.some d
 exact g _ h
theorem p8{j:Int}{y:eH}(h:fY (k,j)=some y):Fl y.2:=by
 have n:Par (fY (k,j)) λy=>Fl y.2:=by unfold fY;have q: ∀x:Ju,Par ((pS (k,j)).bind λe=>if Jp e.2 then(Jw 14).bind λo=>some (k,o)else(gQ (k,x,e.1)).bind λg=>some (g.1,g.2)) λy=>Fl y.2:=λx=>.bind λ_ _=>.not (λ_=>.bind λ_ h=>.some (IX h (by decide))) λ_=>.bind λv r=>.some (JJJ r);exact .bind λ_ _=>.ne (λc=>.bind λ_ h=>.some (IX h c)) λ_=>.eq (λ_=>.eq (λ_=>.bind λw A=>.ne (λc=>.bind λ_ h=>.some (IX h c)) λz=>.bind λ_ _=>.some (mb (show(1:Int)≠5 by decide))) λ_=>q _) λ_=>q _
 exact n _ h
end
end Go.Am
end
section
namespace Go.Am
set_option linter.unusedVariables false
set_option maxRecDepth 20000
set_option maxHeartbeats 1000000
section
variable {s:Jz}
theorem Ei{k:J7}{x:Ji}{y:eL}(e:pQ (s,k,x)=some y)(c:y.2=0)(hi:JG k)(hf: ∃f∈k.2.2.2.1.2.1,f.1=x):JG y.1.1:=by
 have g:Par (pQ (s,k,x)) λy=>y.2=0->JG y.1.1:=by unfold pQ;refine .bind λ_ _=>.bind λ_ _=>.ne (λc=>.some λh=>absurd h c) λ_=>.bind λq o=>.ne (λc=>.some λh=>absurd h c) λn=>.some λ_=>JEL o n hi ?_;obtain⟨f,hf,j⟩:=hf;exact⟨f,hf,by rw[j],by rw[j]⟩
 exact g _ e c
theorem JEB{id:Int}{y:eL}(e:BA (s,id)=some y)(c:y.2=0)(hi:JG s.1):JG y.1.1:=by
 have g:Par (BA (s,id)) λy=>y.2=0->JG y.1.1:=by unfold BA;refine .bind λr h2=>.ne (λc=>.some λh=>absurd h c) λj=>.bind λ_ _=>.bind λ_ _=>.not (λ_=>.some λ_=>hi) λ_=>.bind λv q=>.some λk=>?_;obtain⟨o,n⟩:=JEv h2 j hi;exact Ei q k o n
 exact g _ e c
theorem JJo{y:eL}(e:rH s=some y)(c:y.2=0)(hi:JG s.1):JG y.1.1:=by
 have g:Par (rH s) λy=>y.2=0->JG y.1.1:=by unfold rH;refine .while (λz=>JG z.1.1) hi λz r=>?_;unfold VR;refine .bind λv h3=>.ne (λc=>.some λh=>absurd h c) λq=>?_;obtain⟨j,n⟩:=JJd h3 q r;exact .not (λ_=>.some λ_=>j) λc=>.bind λw o=>.ne (λc=>.some λh=>absurd h c) λk=>.some (Ei o k j (n c))
 exact g _ e c
theorem KV{id:Int}{y:eL}(e:lN (s,id)=some y)(c:y.2=0)(hi:JG s.1):JG y.1.1:=by
 have g:Par (lN (s,id)) λy=>y.2=0->JG y.1.1:=by unfold lN;exact .bind λ_ _=>.not (λ_=>.some nofun) λ_=>.ltf (λ_=>.ge (λ_=>.some nofun) λ_=>.bind λ_ _=>.ge (λ_=>.some λ_=>hi) λ_=>.bind λq o=>.ne (λc=>.some λh=>absurd h c) λn=>.bind λ_ _=>.ne (λc=>.some λh=>absurd h c) λ_=>.bind λ_ _=>.bind λ_ _=>.ne (λc=>.some λh=>absurd h c) λ_=>.bind λ_ _=>.ne (λc=>.some λh=>absurd h c) λ_=>.bind λr k=>.ne (λc=>.some λh=>absurd h c) λj=>.some λ_=>JFh k j (JJo o n hi)) λ_=>.some nofun
 exact g _ e c
theorem JCf{k:Int}{y:eL}(e:pV (s,k)=some y)(c:y.2=0)(hi:JG s.1):JG y.1.1:=by
 have j:Par (pV (s,k)) λy=>y.2=0->JG y.1.1:=by unfold pV;refine .bind λ_ _=>.not (λ_=>.some nofun) λ_=>.bind λ_ _=>.lt (λ_=>.some nofun) λ_=>.while (λz=>JG z.2.1.1) hi λz g=>?_;unfold nc;exact .bind λ_ _=>.ite (λ_=>.bind λr n=>.eq (λc=>.some λh=>absurd h (p8 (by assumption) c)) λ_=>.eq (λ_=>.bind λv q=>.ne (λc=>.some λh=>absurd h c) λo=>.some (KV q o g)) λ_=>.some (qe n g)) λ_=>.some λ_=>g
 exact j _ e c
theorem JKV{q:Int}{a:mF}{y:iL}(e:zQ (s,q,a)=some y)(hi:JG s.1):JG y.1.1:=by
 have n:Par (zQ (s,q,a)) λy=>JG y.1.1:=by
  unfold zQ;refine .while (λz=>JG z.2.1.1) hi λz B=>?_;unfold g8;refine .bind λj h3=>?_;have g:=JJT h3 B;have rb: ∀{Q:(lR)⊕(iL)->Prop},(∀y,JG y.1.1->Q (.inr y))->Par ((uG ((j.1,z.2.1.2),z.1)).bind λw=>if w then(pV ((j.1,z.2.1.2),z.1)).bind λk=>if aM k.2 0 then(Jw k.2).bind λo=>some (.inr ((j.1,z.2.1.2),o))else some (.inr (k.1,j.2))else some (.inr ((j.1,z.2.1.2),j.2))) Q:=
   λh=>.bind λ_ _=>.ite (λ_=>.bind λC v=>.ne (λ_=>.bind λ_ _=>.some (h _ g)) λr=>.some (h _ (JCf (s:=(j.1,z.2.1.2)) v r g))) λ_=>.some (h _ g)
  exact .eq (λ_=>.bind λD A=>.ne (λ_=>.bind λ_ _=>.some g) λx=>.some (KV (s:=(j.1,z.2.1.2)) A x g)) λ_=>.eqf (λ_=>.eq (λ_=>.eqf (λ_=>.eq (λ_=>rb λ_ h=>h) λ_=>.some g) λ_=>rb λ_ h=>h) λ_=>.some g) λ_=>rb λ_ h=>h
 exact n _ e
theorem se{y:qA}(e:BE s=some y)(c:y.2.2=0)(hi:JG s.1):JG y.1.1:=by
 have g:Par (BE s) λy=>y.2.2=0->JG y.1.1:=by unfold BE;exact .bind λk h2=>.ne (λc=>.some λh=>absurd h c) λj=>.some λ_=>JDh h2 j hi
 exact g _ e c
theorem ZZ{j:Int}{l:JP}{y:qA}(e:zX (s,j,l)=some y)(hi:JG s.1):JG y.1.1:=by
 have h:Par (zX (s,j,l)) λy=>JG y.1.1:=by unfold zX;refine .while (λz=>JG z.2.2.1.1) hi λz g=>?_;unfold ij;exact .bind λq h3=>.eq (λ_=>.some g) λ_=>.eq (λ_=>.bind λo n=>.ne (λ_=>.some g) λk=>.some (KV n k g)) λ_=>.eq (λ_=>.some g) λ_=>.some (JGW h3 g)
 exact h _ e
theorem XQ{k:Int}{a:mF}{y:iL}(e:zG (s,k,a)=some y)(hi:JG s.1):JG y.1.1:=by
 have j:Par (zG (s,k,a)) λy=>JG y.1.1:=by unfold zG;refine .while (λz=>JG z.2.1.1) hi λz n=>?_;unfold g0;refine .bind λo h3=>?_;have g:=JKV h3 n;exact .ne (λ_=>.some g) λ_=>.bind λ_ _=>.not (λ_=>.some g) λ_=>.bind λq h=>.ne (λ_=>.bind λ_ _=>.some (ZZ h g)) λ_=>.eq (λ_=>.some (ZZ h g)) λ_=>.some (ZZ h g)
 exact j _ e
theorem JK1{y:km}(e:AB s=some y)(c:y.2.2=0)(hi:JG s.1):JG y.1.1:=by
 have g:Par (AB s) λy=>y.2.2=0->JG y.1.1:=by unfold AB;refine .bind λ_ _=>.not (λ_=>.some nofun) λ_=>.gt (λ_=>.bind λ_ _=>.bind λv r=>.some λq=>KV r q hi) λ_=>.bind λ_ _=>.eq (λ_=>.some λ_=>hi) λ_=>.while (λz=>JG z.2.1.1) hi λz j=>?_;unfold ja;exact .bind λ_ _=>.bind λx o=>.eq (λc=>.some λh=>absurd h (p8 (by assumption) c)) λ_=>.ne (λ_=>.some λ_=>qe o j) λ_=>.bind λw n=>.ne (λc=>.some λh=>absurd h c) λk=>.some (KV n k j)
 exact g _ e c
end
end Go.Am
end
section
namespace Go.Am
set_option linter.unusedVariables false
set_option maxRecDepth 20000
set_option maxHeartbeats 1000000
section
theorem CQ{n:Int}(h1:0<=n)(h2:n<18446744073709551616):IntKind.u64.wrap n=n:=by simp[IntKind.wrap,IntKind.bits,IntKind.signed];omega
theorem Av{n:Int}(h1: -9223372036854775808<=n)(h2:n<=9223372036854775807):IntKind.i64.wrap n=n:=by simp[IntKind.wrap,IntKind.bits,IntKind.signed];omega
theorem Z2{l:List UInt8}{k:Nat}(h:k<l.length):oD l (k:Int)=some ((l[k]).toNat:Int):=by simp[oD,h]
theorem JKi{x b j:Nat}(hj:j<=7)(hx:x<2^(8*j))(hb:b<256):
  orI .u64 (x:Int) (IntKind.wrap .u64 (((b:Nat):Int)*2^(8*j)))=((x+b*2^(8*j):Nat):Int):=by
 have k:(2:Nat)^(8*j)*256<=2^64:=by rw[show(256:Nat)=2^8 by rfl,<-Nat.pow_add];exact CE (by omega) (by omega)
 have n:b*2^(8*j)+2^(8*j)<=2^64:=by have:(b+1)*2^(8*j)<=256*2^(8*j):=zQ4 _ (by omega);rw[zQ8,Nat.one_mul]at this;omega
 have w:IntKind.wrap .u64 (((b:Nat):Int)*2^(8*j))=((b*2^(8*j):Nat):Int):=by
  have e:(((b:Nat):Int)*2^(8*j))=((b*2^(8*j):Nat):Int):=by simp
  rw[e,CQ (by omega) (by omega)]
 rw[w];have g: ∀y:Nat,y<2^64->(BitVec.ofInt 64 (y:Int)).toNat=y:=by intro y o;rw[BitVec.toNat_ofInt];omega
 show IntKind.wrap .u64 (((BitVec.ofInt 64 (x:Int)|||BitVec.ofInt 64 ((b*2^(8*j):Nat):Int)).toNat:Nat):Int)=_;rw[BitVec.toNat_or,g x (by omega),g _ (by omega)];have h:x|||b*2^(8*j)=x+b*2^(8*j):=by rw[Nat.or_comm,Nat.mul_comm b,<-Nat.two_pow_add_eq_or_of_lt hx,Nat.add_comm]
 rw[h,CQ (by omega) (by omega)]
theorem JAW{n i:Nat}(hn:n<2^64):J6N (n:Int) i=((n/2^(8*i)%256:Nat):Int):=by show((IntKind.wrap .u64 (n:Int)).fdiv (2^(8*i)))%256=_;rw[Int.fdiv_eq_ediv_of_nonneg _ (Int.le_of_lt (Int.pow_pos (by decide))),CQ (by omega) (by omega)];simp
theorem JFo{n:Int}{k i:Nat}(h:i<k):(J0E n k)[i]?=some (UInt8.ofNat (J6N n i).toNat):=by simp[J0E,toStr,h]
theorem eQ{s r:List UInt8}{n:Int}{k:Nat}(h1:1<=k)(D:k<=8)(h:JT (s,n,(k:Int))=some r):r=s++J0E n k:=by
 have q:Par (JT (s,n,(k:Int))) λr=>r=s++J0E n k:=by
  unfold JT;refine .ltf (λ_=>.gt (λc=>by(try dsimp only at c);omega) λ_=>?_) λc=>by(try dsimp only at c);omega
  refine .while (λz=>z.2.1=n/\z.2.2.1=(k:Int)/\ ∃j:Nat,z.2.2.2=(j:Int)/\j<=k/\z.1=s++J0E n j) ⟨rfl,rfl,0,rfl,zQ2 _,by simp[J0E,toStr]⟩ ?_;rintro⟨o,v,k',A⟩ ⟨rfl,rfl,j,rfl,F,e⟩
  (try dsimp only at e)
  subst e;unfold ir;dsimp only;have C:=Jm (j:Int) 1;have B:=IL 8 (j:Int);refine .lt (λc=>.bind λw h3=>.bind λE g=>.some ⟨rfl,rfl,j+1,by dsimp only;omega,by omega,?_⟩) λc=>.some (by rw[show j=k by omega]);have y:bS .u8 w=J6N v j:=by
   have x:bS .u64 (cV .i64 8 (j:Int))=((8*j:Nat):Int):=by unfold bS;rw[CQ (by omega) (by omega)];omega
   rw[x]at h3;simp only[lY]at h3;rw[if_neg (by omega)]at h3;injection h3 with h3;rw[<-h3];have:min (((8*j:Nat):Int)).toNat IntKind.u64.bits=8*j:=by simp only[Int.toNat_natCast];exact Nat.min_eq_left (by show 8*j<=64;omega)
   rw[this];rfl
  rw[y]at g;dsimp only;unfold eJ at g;split at g;injection g with g;rw[<-g,Jqw,iB];rfl;cases g
 exact q _ h
def At(s w:List UInt8)(p:Int):Prop:= ∃pre e,s=pre++(w++e)/\(pre.length:Int)=p
theorem At.left{s a b:List UInt8}{p:Int}(h:At s (a++b) p):At s a p:=by obtain⟨pre,g,e,h⟩:=h;exact⟨pre,b++g,by rw[e];simp,h⟩
theorem At.right{s a b:List UInt8}{p:Int}(h:At s (a++b) p):At s b (p+a.length):=by obtain⟨pre,g,e,h⟩:=h;exact⟨pre++a,g,by rw[e];simp,by rw[eI];omega⟩
theorem At.bnd{s w:List UInt8}{p:Int}(h:At s w p):0<=p/\p+w.length<=s.length:=by obtain⟨pre,g,e,h⟩:=h;subst e;simp only[eI];omega
theorem At.slc{s w r:List UInt8}{p q:Int}(h:At s w p)(hq:q=p+w.length)(e:bG s (some p) (some q)=some r):r=w:=by
 obtain⟨pre,g,rfl,rfl⟩:=h;obtain⟨r',e',d,_⟩:=KI (l:=pre++(w++g)) (j:=pre.length) (k:=q) (by omega) (by omega) (by unfold J0;simp only[eI];omega);rw[e']at e;injection e with e;subst e;rw[d,show(q-(pre.length:Int)).toNat=w.length by omega];simp
theorem At.all{s:List UInt8}:At s s 0:=⟨[],[],by simp,rfl⟩
theorem DJ{s:List UInt8}{p:Int}{n k:Nat}(h:At s (J0E n k) p)(h1:1<=k)(M:k<=8)(hn:n<2^(8*k))(H:n<2^63)(hl:s.length<=4611686018427387904):
  dN (s,p,(k:Int))=some ((n:Int),0):=by
 have r:=h.bnd;rw[JX]at r;obtain⟨pre,D,G,rfl⟩:=h;have w:Tot (dN (s,(pre.length:Int),(k:Int))) λy=>y=((n:Int),0):=by
  unfold dN;have o:=bC (J0 s) (pre.length:Int);have I:J0 s=(s.length:Int):=rfl;refine .ltf (λ_=>.gtf (λ_=>.lt (λc=>by(try dsimp only at c);omega) λ_=>.gtf (λ_=>.lt (λc=>by(try dsimp only at c);omega) λ_=>?_) λc=>by(try dsimp only at c);omega) λc=>by(try dsimp only at c);omega) λc=>by(try dsimp only at c);omega
  refine Jq (τ:=Nat) (λj=>(s,(pre.length:Int),(k:Int),((n%2^(8*j):Nat):Int),(j:Int))) (λj=>j<=k) (λj=>(k:Int)-j) ?_ 0 (by simp[Nat.mod_one]) (zQ2 _);intro j N;unfold VG;dsimp only;have K:=Jm (j:Int) 1;have J:=IL 8 (j:Int);have L:=Jm (pre.length:Int) (j:Int);refine .lt (λc=>?_) λc=>.some ?_;have F:J1 .i64 (pre.length:Int) (j:Int)=((pre.length+j:Nat):Int):=by omega
  have g:pre.length+j<s.length:=by omega
  have r:(s[pre.length+j]'g).toNat=n/2^(8*j)%256:=by
   have q:s[pre.length+j]?=some (UInt8.ofNat (J6N (n:Int) j).toNat):=by rw[G,oB (by omega),Nat.add_sub_cancel_left,uR (by rw[JX];omega),JFo (by omega)]
   rw[zQ9 g]at q;injection q with q;have C:=Jn2 (n:Int) j;rw[<-q,JAW (by omega)]at C;omega
  have z:n/2^(8*j)%256<256:=Nat.mod_lt _ (by omega);have B:bS .u64 (cV .i64 8 (j:Int))=((8*j:Nat):Int):=by unfold bS;rw[CQ (by omega) (by omega)];omega
  have E:sE .u64 (bS .u64 (((s[pre.length+j]'g).toNat:Nat):Int)) ((8*j:Nat):Int)=some (IntKind.wrap .u64 (((n/2^(8*j)%256:Nat):Int)*2^(8*j))):=by
   unfold bS;rw[r,CQ (by omega) (by omega)];simp only[sE];rw[if_neg (by omega)];have:min (((8*j:Nat):Int)).toNat IntKind.u64.bits=8*j:=by simp only[Int.toNat_natCast];exact Nat.min_eq_left (by show 8*j<=64;omega)
   rw[this]
  have v:=JKi (x:=n%2^(8*j)) (b:=n/2^(8*j)%256) (j:=j) (by omega) (Nat.mod_lt _ (Nat.two_pow_pos _)) z;have A:n%2^(8*j)+n/2^(8*j)%256*2^(8*j)=n%2^(8*(j+1)):=by rw[Nat.mul_add,Nat.pow_add,Nat.mod_mul,Nat.mul_comm (n/2^(8*j)%256)]
  rw[A]at v;rw[F,Z2 g,JQ,B,E,JQ,v];exact .some ⟨j+1,by rw[show J1 .i64 (j:Int) 1=((j+1:Nat):Int) by omega],by omega,by omega,by omega⟩;rw[show j=k by omega,Nat.mod_eq_of_lt hn];unfold bS;rw[Av (by omega) (by omega)]
 obtain⟨y,e,d⟩:=w;rw[e,d]
end
end Go.Am
end
section
namespace Go.Am
set_option linter.unusedVariables false
set_option maxRecDepth 20000
set_option maxHeartbeats 1000000
section
def lB(c:dG):Prop:=J0 c.2<=12/\(c.1=false->c.2=[])
def EV(e:J5):Prop:=(1<=e.1/\e.1<=1099511627776)/\(0<=e.2.2.2.1/\e.2.2.2.1<e.1)/\(0<=e.2.2.2.2.1/\e.2.2.2.2.1<e.1)/\(0<=e.2.2.2.2.2.1/\e.2.2.2.2.2.1<e.1)/\(1<=e.2.1/\e.2.1<=8)/\(0<=e.2.2.1/\e.2.2.1<=1073741824)/\(0<=bD e/\bD e<64)/\(0<=e.2.2.2.2.2.2.1.2.1/\e.2.2.2.2.2.2.1.2.1<16)/\lB e.2.2.2.2.2.2.1.2.2.1/\lB e.2.2.2.2.2.2.1.2.2.2/\J0 e.2.2.2.2.2.2.2<=8192
theorem pa{c:dG}(h:iY c=some true):lB c:=by
 have e:Par (iY c) λy=>y=true->lB c:=by
  unfold iY;refine .ite (λc1=>.itf (λg=>.some ?_) λg=>.some ?_) λc1=>.some ?_
  all_goals grind [lB,eqS,bJ,J0]
 exact e _ h rfl
theorem EV.of{e:J5}(h:Js e=some true):EV e:=by
 obtain⟨H,B,A,G,F,E,⟨w,x,r,o⟩,j⟩:=e;have g: ∀{c:aN} {b:Bool},mK c=some b->b=true->(0<=c.1/\c.1<64)/\(0<=c.2.1/\c.2.1<16)/\lB c.2.2.1/\lB c.2.2.2:=fun{c b} D K=>by
  have C:Par (mK c) λy=>y=true->(0<=c.1/\c.1<64)/\(0<=c.2.1/\c.2.1<16)/\lB c.2.2.1/\lB c.2.2.2:=by unfold mK;refine .ge (λc1=>.lt (λL=>.ge (λg=>.lt (λN=>.bind λa O=>.ite (λJ=>.bind λb D=>.some λI=>?_) λ_=>.some nofun) λ_=>.some nofun) λ_=>.some nofun) λ_=>.some nofun) λ_=>.some nofun;subst J;subst I;exact⟨⟨c1,L⟩,⟨g,N⟩,pa O,pa D⟩
  exact C _ D K
 have z:lB (false,[]):=⟨show(0:Int)<=12 by decide,λ_=>rfl⟩;have V:Par (pO (H,B,A,G,F,E,(w,x,r,o),j)) λy=>y.2=true->y.1=(H,B,A,G,F,E,(w,x,r,o),j)->(1<=B/\B<=8)/\(0<=A/\A<=1073741824)/\(0<=w/\w<64)/\(0<=x/\x<16)/\lB r/\lB o/\J0 j<=8192:=by
  unfold pO;dsimp only
  repeat' first
   |refine .eq (λ_=>?_) λ_=>?_
   |refine .ge (λ_=>?_) λ_=>?_
   |refine .le (λ_=>?_) λ_=>?_
   |refine .gt (λ_=>?_) λ_=>?_
   |exact .some λh=>absurd h Bool.false_ne_true
   |refine .bind λv q=>.ite (λk=>?_) λ_=>.some nofun
   |refine .bind λv q=>.eq (λ_=>.ite (λk=>?_) λ_=>.some nofun) λ_=>.ite (λk=>?_) λ_=>.some nofun
  all_goals refine .some λc P=>?_
  all_goals simp only[Prod.mk.injEq,true_and,and_true]at P
  all_goals simp only[jQ,hE,jS]at c
  all_goals first
   |exact⟨by omega,by omega,(g q k).1,(g q k).2.1,(g q k).2.2.1,(g q k).2.2.2,by rw[<-P];exact(by decide:(0:Int)<=8192)⟩
   |exact⟨by omega,by omega,(g q k).1,(g q k).2.1,(g q k).2.2.1,(g q k).2.2.2,by rw[<-P.2];exact(by decide:(0:Int)<=8192)⟩
   |(have Y:r=(false,[]):=by grind
     have R:o=(false,[]):=by grind
     have Q:J0 j<=8192:=by
      first
       |exact c
       |(have:j=[]:=by grind
         rw[this];exact(by decide:(0:Int)<=8192))
     rw[Y,R];exact⟨by omega,by omega,by omega,by omega,z,z,Q⟩)
 have M: ∀{n l:Int} {b:Bool},lL (n,l)=some b->b=true->0<=n/\n<l:=fun{n l b} D K=>RB (by rw[<-K];exact D);have C:Par (Js (H,B,A,G,F,E,(w,x,r,o),j)) λy=>y=true->EV (H,B,A,G,F,E,(w,x,r,o),j):=by unfold Js;exact .bind λa O=>.ite (λc1=>.ite (λL=>.ge (λg=>.le (λN=>.bind λb1 T=>.ite (λJ=>.bind λb2 S=>.ite (λI=>.bind λb3 U=>.some λW=>⟨⟨g,N⟩,M T J,M S I,M U W,V _ O c1 (dY.1 L)⟩) λ_=>.some nofun) λ_=>.some nofun) λ_=>.some nofun) λ_=>.some nofun) λ_=>.some nofun) λ_=>.some nofun
 exact C _ h rfl
end
end Go.Am
end
section
namespace Go.Am
set_option linter.unusedVariables false
set_option maxRecDepth 20000
set_option maxHeartbeats 1000000
section
def nL(c:dG):List UInt8:=if c.1=false then J0E 255 1 else J0E (J0 c.2) 1++c.2
def kT(e:J5):List UInt8:=J0E e.1 8++(J0E e.2.1 1++(J0E e.2.2.1 4++(J0E e.2.2.2.1 8++(J0E e.2.2.2.2.1 8++(J0E e.2.2.2.2.2.1 8++(J0E (bD e) 4++(J0E e.2.2.2.2.2.2.1.2.1 1++(nL e.2.2.2.2.2.2.1.2.2.1++(nL e.2.2.2.2.2.2.1.2.2.2++(J0E (J0 e.2.2.2.2.2.2.2) 4++e.2.2.2.2.2.2.2))))))))))
theorem qM{a b r:List UInt8}(h:eJ a b=some r):r=a++b:=by
 unfold eJ at h;split at h;injection h with h;exact h.symm;cases h
theorem Ci{s r:List UInt8}{c:dG}(h:wO (s,c)=some r):r=s++nL c:=by
 have e:Par (wO (s,c)) λr=>r=s++nL c:=(by unfold wO nL;refine .not (λd=>.bind λn h2=>.some ?_) λd=>.bind λj h3=>.bind λo g=>.some ?_;rw[eQ (k:=1) (by decide) (by decide) h2,if_pos d];rw[qM g,eQ (k:=1) (by decide) (by decide) h3,if_neg (by rw[show c.1=true from d];decide),iB]);exact e _ h
theorem JLD{e:J5}{y:List UInt8×Int}(h:AL e=some y)(hv:Js e=some true):y=(kT e,0):=by
 have w:Par (AL e) λy=>y=(kT e,0):=(by unfold AL;refine .bind λv g=>.not (λc=>?_) λ_=>.bind λK h3=>.bind λP C=>.bind λM D=>.bind λN A=>.bind λJ x=>.bind λL z=>.bind λO B=>.bind λE o=>.bind λI r=>.bind λH q=>.bind λF j=>.bind λG n=>.some ?_;rw[hv]at g;injection g with g;subst g;cases c;rw[qM n,eQ (k:=4) (by decide) (by decide) j,Ci q,Ci r,eQ (k:=1) (by decide) (by decide) o,eQ (k:=4) (by decide) (by decide) B,eQ (k:=8) (by decide) (by decide) z,eQ (k:=8) (by decide) (by decide) x,eQ (k:=8) (by decide) (by decide) A,eQ (k:=4) (by decide) (by decide) D,eQ (k:=1) (by decide) (by decide) C,eQ (k:=8) (by decide) (by decide) h3];unfold kT;simp only[iB,nC];rfl);exact w _ h
variable {s:List UInt8} {p:Int}
theorem oS{n:Int}{k:Nat}(b:Nat)(h:At s (J0E n k) p)(hl:s.length<=1000000)(h0:0<=n)(hn:n<b)(hb:b=2^(8*k):=by rfl)(h1:1<=k:=by decide)(j:k<=8:=by decide)(q:n<9223372036854775808:=by omega):JI ((k:Int),s,p,0)=some (n,s,p+k,0):=by have e:=h.bnd;rw[JX]at e;obtain⟨m,rfl⟩:=Int.eq_ofNat_of_zero_le h0;have g:=DJ h h1 j (by omega) (by omega) (by omega);have o:=Jm p (k:Int);unfold JI;dsimp only;rw[if_neg (by decide),g];dsimp only[Option.bind_some];rw[if_neg (by decide),show J1 .i64 p (k:Int)=p+k by omega]
theorem Bq{w:List UInt8}(h:At s w p)(hl:s.length<=1000000):xG (J0 w,s,p,0)=some (w,s,p+w.length,0):=by
 have k:=h.bnd;have o:=Jm p (J0 w);have q:=bC (J0 s) p;have n:=bC (J1 .i64 p (J0 w)) (J0 w);have v:J0 w=w.length:=rfl;have x:J0 s=s.length:=rfl;have g:Tot (xG (J0 w,s,p,0)) λy=>y=(w,s,p+w.length,0):=by unfold xG;dsimp only;refine .ne (λc=>absurd rfl c) λ_=>.gt (λc=>by omega) λ_=>?_;rw[show JJ .i64 (J1 .i64 p (J0 w)) (J0 w)=p by omega,show J1 .i64 p (J0 w)=p+w.length by omega];refine .bind (KI (l:=s) k.1 (by omega) (by omega)).eqn λr j=>.some ?_;rw[h.slc rfl j.2]
 obtain⟨y,e,d⟩:=g;rw[e,d]
theorem Bi{c:dG}(h:At s (nL c) p)(hc:lB c)(hl:s.length<=1000000):BQ (s,p,0)=some (c,s,p+(nL c).length,0):=by
 unfold nL at h⊢;unfold BQ;obtain⟨b,d⟩:=c;obtain⟨h1,h2⟩:=hc
 (try dsimp only at h h1 h2⊢)
 have j:=Jh (l:=d);cases b with
 |false=>rw[if_pos rfl]at h⊢;have g:=oS (k:=1) 256 h hl (by decide) (by decide);rw[show JI (1,s,p,0)=_ from g,h2 rfl];rfl
 |true=>rw[if_neg (by decide)]at h⊢;have g:=oS (k:=1) 256 h.left hl (by omega) (by omega);have e:=Bq h.right hl;rw[show JI (1,s,p,0)=_ from g];dsimp only[Option.bind_some];rw[if_pos (by decide),if_neg (by rw[qV];omega),if_neg (by rw[jS];omega)];rw[JX]at e;rw[e];dsimp only[Option.bind_some];rw[eI,JX,Int.natCast_add,Int.add_assoc]
theorem Bg{e:J5}(hv:Js e=some true):FS (kT e)=some (e,0)/\(kT e).length<=8300:=by
 obtain⟨v1,v2,O,P,Q,K,L,N,v,j,J⟩:=EV.of hv;have n: ∀{c:dG},lB c->(nL c).length<=13:=fun{c} H=>by
  unfold nL;have:=H.1;unfold J0 at this;split;rw[JX];decide;rw[eI,JX];omega
 have c1:=n v;have M:=n j;have F:(kT e).length=46+(nL e.2.2.2.2.2.2.1.2.2.1).length+(nL e.2.2.2.2.2.2.1.2.2.2).length+e.2.2.2.2.2.2.2.length:=by unfold kT;simp only[eI,JX];omega
 have I:J0 e.2.2.2.2.2.2.2=e.2.2.2.2.2.2.2.length:=rfl;refine⟨?_,by omega⟩;have h:(kT e).length<=1000000:=by omega
 generalize G:kT e=s at F h;have g:At s (kT e) 0:=by rw[G];exact .all
 unfold kT at g;have E:=oS (k:=8) 18446744073709551616 g.left h (by omega) (by omega);replace g:=g.right;simp only[JX]at g;have D:=oS (k:=1) 256 g.left h (by omega) (by omega);replace g:=g.right;simp only[JX]at g;have C:=oS (k:=4) 4294967296 g.left h (by omega) (by omega);replace g:=g.right;simp only[JX]at g;have A:=oS (k:=8) 18446744073709551616 g.left h (by omega) (by omega);replace g:=g.right;simp only[JX]at g;have B:=oS (k:=8) 18446744073709551616 g.left h (by omega) (by omega);replace g:=g.right;simp only[JX]at g;have w:=oS (k:=8) 18446744073709551616 g.left h (by omega) (by omega);replace g:=g.right;simp only[JX]at g;have y:=oS (k:=4) 4294967296 g.left h (by omega) (by omega);replace g:=g.right;simp only[JX]at g;have z:=oS (k:=1) 256 g.left h (by omega) (by omega);replace g:=g.right;simp only[JX]at g;have x:=Bi g.left v h;replace g:=g.right;have r:=Bi g.left j h;replace g:=g.right;have o:=oS (k:=4) 4294967296 g.left h (by omega) (by omega);replace g:=g.right;simp only[JX]at g;have q:=Bq g h;unfold FS;rw[show JI (8,s,0,0)=_ from E,JQ];rw[show JI (1,s,_,0)=_ from D,JQ];rw[show JI (4,s,_,0)=_ from C,JQ];rw[show JI (8,s,_,0)=_ from A,JQ];rw[show JI (8,s,_,0)=_ from B,JQ];rw[show JI (8,s,_,0)=_ from w,JQ];rw[show JI (4,s,_,0)=_ from y,JQ];rw[show JI (1,s,_,0)=_ from z,JQ];rw[x,JQ];rw[r,JQ];rw[show JI (4,s,_,0)=_ from o,JQ];rw[q,JQ];dsimp only;rw[if_neg (by decide),if_neg (by rw[KO,Decidable.not_not];unfold J0;omega)];rw[show Js (e.1,e.2.1,e.2.2.1,e.2.2.2.1,e.2.2.2.2.1,e.2.2.2.2.2.1,(bD e,e.2.2.2.2.2.2.1.2.1,e.2.2.2.2.2.2.1.2.2.1,e.2.2.2.2.2.2.1.2.2.2),e.2.2.2.2.2.2.2)=some true from hv];rfl
end
end Go.Am
end
section
namespace Go.Am
set_option linter.unusedVariables false
set_option maxRecDepth 20000
set_option maxHeartbeats 1000000
section
variable {s r w:List UInt8} {p:Int}
theorem Bu{c:Int}(h:pK s=some c):0<=c/\c<4294967296:=by
 have e:Par (pK s) λc=>0<=c/\c<4294967296:=(by unfold pK;refine .while (λ_=>True) trivial λz _=>?_;unfold ib;refine .lt (λ_=>.bind λ_ _=>.while (λ_=>True) trivial λz _=>?_) λ_=>.some ?_;unfold io;exact .lt (λ_=>.eq (λ_=>.bind λ_ _=>.some trivial) λ_=>.bind λ_ _=>.some trivial) λ_=>.some trivial;exact⟨(pH .u32 _).1,Int.lt_of_le_of_lt (pH .u32 _).2 (by decide)⟩);exact e _ h
def FrB(w r:List UInt8):Prop:=J0 w<=8392/\ ∃c,pK (J0E (J0 w) 4++w)=some c/\r=(J0E (J0 w) 4++w)++J0E c 4
theorem Bw(h:wT w=some r)(hl:J0 w<=8392):FrB w r:=by
 have g:Par (wT w) λr=>FrB w r:=(by unfold wT;refine .gt (λc=>by omega) λ_=>.bind λq h2=>.bind λn h3=>.bind λc e=>.bind λo j=>.some ⟨hl,c,?_,?_⟩;rw[qM h3,eQ (k:=4) (by decide) (by decide) h2]at e;exact e;obtain⟨c0,c1⟩:=Bu e;rw[eQ (k:=4) (by decide) (by decide) j,qM h3,eQ (k:=4) (by decide) (by decide) h2];unfold bS;rw[Av (by omega) (by omega)];rfl);exact g _ h
theorem FrB.len(h:FrB w r):(r.length:Int)=J0 w+8:=by obtain⟨_,c,_,rfl⟩:=h;simp only[eI,JX];unfold J0;omega
theorem Bx(h:FrB w r)(ha:At s r p)(hl:s.length<=4611686018427387904):nX (s,p)=some (w,p+r.length,0):=by
 have k:=ha.bnd;have H:=h.len;obtain⟨h1,c,z,rfl⟩:=h;have D:=Jh (l:=w);obtain⟨m,v⟩:=Int.eq_ofNat_of_zero_le D;obtain⟨c0,c1⟩:=Bu z;obtain⟨j,rfl⟩:=Int.eq_ofNat_of_zero_le c0;have q:=DJ (n:=m) (by rw[<-v];exact ha.left.left) (by decide:1<=4) (by decide) (by omega) (by omega) hl;have o:=DJ ha.right (by decide:1<=4) (by decide) (by omega) (by omega) hl;rw[<-v]at q;have J:J0 s=s.length:=rfl;have I:J0 w=w.length:=rfl;simp only[eI,JX]at H o;have U:=Jm p 4;have T:=Jm (J1 .i64 p 4) (J0 w);have Q:=Jm p 8;have R:=Jm (J1 .i64 p 8) (J0 w);have K:=bC (J0 s) p;have M:=Jm (J0 w) 8;simp only[eI,JX]at k;have C:J1 .i64 (J1 .i64 p 4) (J0 w)=p+((4+w.length:Nat):Int):=by omega
 have g:Tot (nX (s,p)) λy=>y=(w,p+((4+w.length+4:Nat):Int),0):=by
  unfold nX;dsimp only;refine .ltf (λ_=>.gt (λc=>by omega) λ_=>.bind (hC q) λS A=>?_) λc=>by omega
  subst A;dsimp only;refine .ne (λc=>absurd rfl c) λ_=>.gt (λc=>by omega) λ_=>.lt (λc=>by omega) λ_=>?_;rw[C];refine .bind (hC o) λL B=>.bind (KI (l:=s) k.1 (by omega) (by omega)).eqn λP G=>?_;subst B;rw[ha.left.slc (by simp only[eI,JX]) G.2];refine .bind (hC z) λN E=>?_;subst E;refine .ne (λc=>absurd (by unfold bS;rw[show IntKind.u32.wrap (j:Int)=(j:Int) by simp[IntKind.wrap,IntKind.bits,IntKind.signed];omega]) c) λ_=>?_;rw[show J1 .i64 p 4=p+((4:Nat):Int) by omega];refine .bind (KI (l:=s) (by omega) (by omega) (by omega)).eqn λO F=>.some ?_;have x:=ha.left.right;rw[JX]at x;rw[x.slc (by omega) F.2,show J1 .i64 (J1 .i64 p 8) (J0 w)=p+((4+w.length+4:Nat):Int) by omega]
 obtain⟨y,e,d⟩:=g;rw[e,d];simp only[eI,JX]
theorem JIF{m:Nat}(h:FrB w r)(ha:At s (r.take m) p)(hm:m<r.length)(he:p+m=s.length)(hl:s.length<=4611686018427387904):Par (nX (s,p)) λy=>y.2.2≠0:=by
 have F:=ha.bnd;have H:=h.len;obtain⟨h1,c,I,rfl⟩:=h;have B:J0 s=s.length:=rfl;have C:=bC (J0 s) p;have D:=Jm (J0 w) 8;have v:=Jh (l:=w);unfold nX;dsimp only;refine .ltf (λ_=>.gt (λ_=>.some (by decide)) λ_=>.bind λE h2=>.ne (λ_=>.some (by decide)) λx=>.gt (λ_=>.some (by decide)) λ_=>.lt (λ_=>.some (by decide)) λo=>?_) λ_=>.some (by decide);exfalso;by_cases G:m<4;have g:Par (dN (s,p,4)) λy=>y.2≠0:=(by unfold dN;dsimp only;exact .ltf (λ_=>.gtf (λ_=>.lt (λ_=>.some (by decide)) λ_=>.gtf (λ_=>.lt (λ_=>.some (by decide)) λc=>by omega) λ_=>.some (by decide)) λ_=>.some (by decide)) λ_=>.some (by decide));exact g _ h2 x;obtain⟨n,q⟩:=Int.eq_ofNat_of_zero_le v;have A:At s (J0E (J0 w) 4) p:=by obtain⟨pre,k,e,z⟩:=ha;refine⟨pre,((w++J0E c 4).take (m-4))++k,?_,z⟩;rw[e,iB,List.take_append,JX,List.take_of_length_le (by rw[JX];omega),iB]
 have j:=DJ (n:=n) (by rw[<-q];exact A) (by decide:1<=4) (by decide) (by omega) (by omega) hl;have j:=h2.symm.trans j;injection j with j;rw[j]at o
 (try dsimp only at o)
 have:(m:Int)<J0 w+8:=by omega
 rw[<-q]at o;omega
end
end Go.Am
end
section
namespace Go.Am
set_option linter.unusedVariables false
set_option maxRecDepth 20000
set_option maxHeartbeats 1000000
section
variable {s:List UInt8} {l:Jt}
noncomputable def oJ(e:J5):List UInt8:=(rQ e).getD []
noncomputable def frs(l:List J5):List UInt8:=(l.map oJ).flatten
theorem C4(a b:List J5):frs (a++b)=frs a++frs b:=by simp[frs]
theorem YY{e:J5}{r:List UInt8}(h:rQ e=some r)(hv:Js e=some true):FrB (kT e) r/\oJ e=r:=by
 refine⟨?_,by unfold oJ;rw[h];rfl⟩;have g:Par (rQ e) λr=>FrB (kT e) r:=by unfold rQ;refine .bind λk h2=>.bind λj h3=>.some ?_;rw[JLD h2 hv]at h3;refine Bw h3 ?_;have:=(Bg hv).2;unfold J0;omega
 exact g _ h
def hdB(h:List UInt8):Prop:=FrB ([80,77,76,71]++J0E 1 8) h
theorem JLV{r:List UInt8}(h:zS 1=some r):hdB r:=by
 have e:Par (zS 1) λr=>hdB r:=by unfold zS;refine .bind λj h2=>.bind λg h3=>.some ?_;rw[eQ (k:=8) (by decide) (by decide) h2]at h3;refine Bw h3 ?_;unfold J0;rw[eI,JX];decide
 exact e _ h
def GV(l:List J5):Prop:= ∀e∈l,FrB (kT e) (oJ e)/\Js e=some true
theorem JIN{A:Int}(h:mM (l,A)=some s)(hi:gT l)(hc:eY l.2.1):s=[]\/(GV l.2.1/\s.length<=4611686018427387904/\ ∃hd rest,hdB hd/\s=hd++rest/\rest<+:frs l.2.1):=by
 have P:Par (mM (l,A)) λs=>s=[]\/(GV l.2.1/\s.length<=4611686018427387904/\ ∃hd rest,hdB hd/\s=hd++rest/\rest<+:frs l.2.1):=by
  obtain⟨i1,i2,i3,i4⟩:=hi;unfold mM;refine .bind λ_ _=>.not (λ_=>.some (.inl rfl)) λ_=>.bind λhd B=>?_
  (try dsimp only at B)
  rw[i1]at B;refine .while (λz=>z.2.2.2.2=l/\ ∃i:Nat,z.2.2.2.1=(i:Int)/\i<=l.2.1.length/\GV (l.2.1.take i)/\hd<+:z.2.1/\z.2.1++z.2.2.1=hd++frs (l.2.1.take i)/\((i:Int)<=l.2.2->z.2.2.1=[])) ⟨rfl,0,rfl,zQ2 _,λe h=>by simp at h,List.prefix_refl _,by simp[frs],λ_=>rfl⟩ ?_;rintro⟨t,a,b,i',l'⟩ ⟨J,i,I,hi,H,G,k,U⟩
  (try dsimp only at J I hi H G k U)
  subst J;subst I;unfold mz;dsimp only;have o:=Jm (i:Int) 1;have T: ∀{e:J5},idx l'.2.1 (i:Int)=some e->l'.2.1.take (i+1)=l'.2.1.take i++[e]/\e.1=(i:Int)+1/\Js e=some true/\i+1<=l'.2.1.length:=fun{e} k=>by obtain⟨_,q⟩:=cL k;rw[Int.toNat_natCast]at q;have L:=(eP.1 q).1;obtain⟨n,D,_⟩:=hc i e q;refine⟨by rw[List.take_add_one,q];rfl,?_,D,L⟩;rw[n];unfold J0;rw[sK];omega
  have O: ∀{e:J5} {r:List UInt8},rQ e=some r->Js e=some true->GV (l'.2.1.take i++[e]):=fun{e r} Z V x w=>by
   rcases cN.1 w with w|w;exact H x w;simp at w;subst w;obtain⟨n,D⟩:=YY Z V;exact⟨by rw[D];exact n,V⟩
  refine .lt (λc=>.bind λe v=>.le (λcd=>.bind λY g=>.bind λW y=>.bind λE F=>.some ⟨rfl,i+1,?_⟩) λcd=>.bind λY g=>.bind λW y=>.bind λE F=>.some ⟨rfl,i+1,?_⟩) λc=>.map (.bind λR M=>.bind λa0 j=>.some (.inr ?_));rw[v]at g;injection g with g;subst g;obtain⟨n,D,C,K⟩:=T v;have Q:=U (by omega);subst Q;refine⟨by dsimp only;omega,K,by rw[n];exact O y C,?_,?_,λ_=>rfl⟩;show hd<+:E;rw[qM F];exact G.trans (List.prefix_append _ _);show E++[]=_;rw[qM F,n,C4,<-iB,<-k];simp[frs,(YY y C).2];rw[v]at g;injection g with g;subst g;obtain⟨n,D,C,K⟩:=T v;refine⟨by dsimp only;omega,K,by rw[n];exact O y C,G,?_,λh=>by exfalso;omega⟩;show a++E=_;rw[qM F,n,C4,<-iB (as:=hd),<-k];simp[frs,(YY y C).2];have S:i=l'.2.1.length:=by unfold J0 at c;omega
  rw[S,List.take_length]at H k;refine⟨H,?_,hd,?_⟩;unfold eJ at j;split at j;injection j with j;rw[<-j,eI];omega;cases j;obtain⟨N,rfl⟩:=G;refine⟨N++R,JLV B,by rw[qM j,iB],?_⟩;rw[iB]at k;have k:=List.append_cancel_left k;rw[<-k,(B8 M).2.2];exact List.prefix_append_right_inj N|>.2 (List.take_prefix _ _)
 exact P _ h
theorem JKw{E:List J5}{hd rest:List UInt8}{y:gW}(h:wR s=some y)(hf:GV E)(S:eY E)(hl:s.length<=4611686018427387904)(T:hdB hd)(hs:s=hd++rest)(hr:rest<+:frs E):y.2=0-> ∃m,y.1=(1,E.take m,(m:Int))/\m<=E.length/\m<=4096:=by
 have v:Par (wR s) λy=>y.2=0-> ∃m,y.1=(1,E.take m,(m:Int))/\m<=E.length/\m<=4096:=by
  have a0:At s hd 0:=⟨[],rest,by rw[hs];rfl,rfl⟩;have Z:=Bx T a0 hl;unfold wR;refine .bind λy2 h2=>.nef (λ_=>.nef (λ_=>.bind λy3 h3=>.ite (λ_=>.some nofun) λ_=>.bind λy4 n=>.ltf (λ_=>.gt (λ_=>.some nofun) λ_=>?_) λ_=>.some nofun) λ_=>.some nofun) λ_=>.some nofun;rw[Z]at h2;injection h2 with h2;subst h2
  (try dsimp only at h3 n⊢)
  have W:At ([80,77,76,71]++J0E 1 8) (J0E ((1:Nat):Int) 8) 4:=⟨[80,77,76,71],[],by simp,rfl⟩;have U:=DJ W (by decide) (by decide) (by decide) (by decide) (by rw[eI,JX];decide);have n:=n.symm.trans U;injection n with n;subst n;refine .while (λz=>z.1=s/\z.2.2.2.2.2.2.2.1=1/\ ∃m:Nat,m<=E.length/\m<=4096/\z.2.2.2.2.2.1=E.take m/\z.2.2.2.2.2.2.2.2=(m:Int)/\ ∃e,At s e z.2.1/\z.2.1+(e.length:Int)=(s.length:Int)/\e<+:frs (E.drop m)) ⟨rfl,rfl,0,zQ2 _,by decide,rfl,rfl,rest,⟨hd,[],by rw[hs];simp,by simp⟩,by rw[hs,eI];show(0:Int)+hd.length+rest.length=((hd.length+rest.length:Nat):Int);omega,hr⟩ ?_;rintro⟨s',q,z1,z2,z3,es,z4,f,du⟩ ⟨rfl,rfl,m,hm,J,rfl,rfl,e,w,A,k⟩
  (try dsimp only at w A k)
  unfold jb;dsimp only;have fin: ∃x,((1,E.take m,(m:Int)):Jt)=(1,E.take x,(x:Int))/\x<=E.length/\x<=4096:=⟨m,rfl,hm,J⟩;refine .lt (λc=>.bind λy6 G=>.ne (λ_=>.some λ_=>fin) λK=>.bind λy7 Y=>.nef (λc7=>.ne (λ_=>.some λ_=>fin) λc8=>.bind λy8 V=>.some ⟨rfl,rfl,?_⟩) λ_=>.some λ_=>fin) λ_=>.some λ_=>fin;have hn:=w.bnd;by_cases j:m<E.length;have N:E.drop m=E[m]::E.drop (m+1):=List.drop_eq_getElem_cons j;have H:E[m]∈E:=kU j;obtain⟨L,Q⟩:=hf _ H;rw[N]at k;have e2:frs (E[m]::E.drop (m+1))=oJ E[m]++frs (E.drop (m+1)):=by unfold frs;rw[bU,nF]
  rw[e2]at k;by_cases r:e.length<(oJ E[m]).length;have e3:e=(oJ E[m]).take e.length:=(by obtain⟨t,B⟩:=k;have:=congrArg (List.take e.length) B;rw[List.take_left',List.take_append_of_le_length (Nat.le_of_lt r)]at this;exact this;rfl);exact absurd K (JIF L (by rw[<-e3];exact w) r A hl _ G);obtain⟨F,rfl⟩: ∃F,e=oJ E[m]++F:=by
   obtain⟨t,B⟩:=k;refine⟨e.drop (oJ E[m]).length,?_⟩;have:=congrArg (List.take (oJ E[m]).length) B;rw[List.take_append_of_le_length (by omega),List.take_left']at this
   conv=>lhs;rw[<-SO (oJ E[m]).length e,this]
   rfl
  have R:=Bx L w.left hl;have D:=G.symm.trans R;injection D with D;subst D;have C:=Y.symm.trans (Bg Q).1;injection C with C;subst C;have I:J0 (E.take m)=m:=by unfold J0;rw[sK];omega
  rw[I]at c;obtain⟨q1,_⟩:=S m _ (zQ9 j);rw[I]at q1;have O:E.take (m+1)=E.take m++[E[m]]:=by rw[List.take_add_one,zQ9 j];rfl
  rw[eI]at A;exact⟨m+1,j,by omega,by rw[O];exact gL V,by dsimp only;omega,F,w.right,by dsimp only;omega,(List.prefix_append_right_inj _).1 k⟩;have e0:E.drop m=[]:=List.drop_eq_nil_of_le (by omega);rw[e0]at k;have M:e=[]:=by simpa[frs]using k
  subst M;exfalso;have a9:J0 s'=s'.length:=rfl;have o:=bC (J0 s') q;simp only[List.length_nil]at A hn;have v:Par (nX (s',q)) λy=>y.2.2≠0:=by
   unfold nX;dsimp only;refine .ltf (λ_=>.gt (λ_=>.some (by decide)) λ_=>.bind λy2 h2=>.ne (λ_=>.some (by decide)) λP=>?_) λ_=>.some (by decide);have g:Par (dN (s',q,4)) λy=>y.2≠0:=by unfold dN;dsimp only;exact .ltf (λ_=>.gtf (λ_=>.lt (λ_=>.some (by decide)) λ_=>.gtf (λ_=>.lt (λ_=>.some (by decide)) λc=>by omega) λ_=>.some (by decide)) λ_=>.some (by decide)) λ_=>.some (by decide)
   exact absurd P (g _ h2)
  exact v _ G K
 exact v _ h
end
end Go.Am
end
section
namespace Go.Am
set_option linter.unusedVariables false
set_option maxRecDepth 20000
set_option maxHeartbeats 1000000
section
variable {lk lk' rows rows' out:List aA} {e:J5} {m:List J5} {n:Int}
def Chg(e:J5):Prop:=e.2.1=1\/e.2.1=2
theorem tB{b:Bool}(h:JN e=some b):(b=true->Chg e)/\(b=false-> ¬Chg e):=by
 have g:Par (JN e) λb=>(b=true->Chg e)/\(b=false-> ¬Chg e):=by unfold JN;exact .eqf (λc1=>.some ⟨λd=>.inr (qV.1 d),λd h=>by rcases h with h|h;exact c1 h;rw[qV.2 h]at d;cases d⟩) λc=>.some ⟨λ_=>.inl c,nofun⟩
 exact g _ h
def DG(lk:List aA)(e:J5)(d:aA):Prop:=(d.1=bD e->(Chg e->d.2.2=e.1)/\(¬Chg e-> ∃g∈lk,g.1=bD e/\d.2.2=g.2.2))/\(d.1≠bD e->d∈lk)
def DQ(e:J5)(out:List aA)(d:aA):Prop:=(d.1≠bD e->d∈out)/\(d.1=bD e-> ¬Chg e->e.2.2.2.2.2.1<d.2.2-> ∃g∈out,g.1=bD e)
def DI(lk:List aA)(e:J5)(i:Int)(dn:Bool)(out:List aA):Prop:=(∀d∈out,DG lk e d)/\upw (DQ e out) lk i/\(Chg e->dn=true-> ∃d∈out,d.1=bD e)
def DF(lk:List aA)(e:J5)(out:List aA):Prop:=(∀d∈out,DG lk e d)/\(∀d∈lk,DQ e out d)/\(Chg e-> ∃d∈out,d.1=bD e)
theorem DQ.app{d x:aA}(h:DQ e out d):DQ e (out++[x]) d:=by refine⟨λa=>by simp[h.1 a],λa b c=>?_⟩;obtain⟨g,h1,h2⟩:=h.2 a b c;exact⟨g,by simp[h1],h2⟩
theorem upw.mono{α:Type}{P Q:α->Prop}{l:List α}{i:Int}(h:upw P l i)(e: ∀x,P x->Q x):upw Q l i:=⟨h.1,λa=>⟨(h.2 a).1,λx g=>e x ((h.2 a).2 x g)⟩⟩
theorem DI.app{i:Int}{dn:Bool}{x:aA}(h:DI lk e i dn out)(hx:DG lk e x):DI lk e i dn (out++[x]):=by
 refine⟨λd g=>?_,h.2.1.mono λ_ q=>q.app,λa b=>?_⟩;rcases cN.1 g with g|g;exact h.1 d g;simp at g;subst g;exact hx;obtain⟨d,h1,h2⟩:=h.2.2 a b;exact⟨d,by simp[h1],h2⟩
theorem DI.new{i:Int}{dn:Bool}{t:Int}(h:DI lk e i dn out)(hc:Chg e):DI lk e i true (out++[(bD e,t,e.1)]):=by have q:=h.app (x:=(bD e,t,e.1)) ⟨λ_=>⟨λ_=>rfl,λh=>absurd hc h⟩,λh=>absurd rfl h⟩;exact⟨q.1,q.2.1,λ_ _=>⟨_,List.mem_append_right _ (lZ.2 rfl),rfl⟩⟩
theorem DI.next{i:Int}{dn g:Bool}{d:aA}(h:DI lk e i dn out)(hd:idx lk i=some d)(hq:DQ e out d)(j:g=true->Chg e-> ∃d∈out,d.1=bD e):DI lk e (J1 .i64 i 1) g out:=
 ⟨h.1,zE h.2.1 hd hq,λa b=>j b a⟩
theorem JIV{y:List aA}(h:kO (lk,e)=some y):(Chg e\/e.2.1=7->DF lk e y)/\(¬(Chg e\/e.2.1=7)->y=lk):=by
 have lp:Par (Jg iy (lk,false,0,e,[])) λy=>DF lk e y:=by
  refine .while (λz=>z.1=lk/\z.2.2.2.1=e/\DI lk e z.2.2.1 z.2.1 z.2.2.2.2) ⟨rfl,rfl,λd h=>by simp at h,CZ,nofun⟩ ?_;rintro⟨l,dn,i,e',out⟩ ⟨h1,h2,hi⟩
  (try dsimp only at h1 h2 hi)
  subst h1 h2;unfold iy;dsimp only;have same: ∀{d:aA} {dn:Bool} {out:List aA},DI l e' i dn out->idx l i=some d->
    Par (if aH d.1 e'.2.2.2.2.2.2.1.1 then
      (JN e').bind λN=>
      if N then
       (JO 24 out [(d.1,d.2.1,e'.1)]).bind λG=>
       some (.inl (l,true,J1 .i64 i 1,e',G))
      else
       if aQ e'.2.2.2.2.2.1 d.2.2 then
        some (.inl (l,true,J1 .i64 i 1,e',out))
       else
        if aQ e'.2.2.2.2.2.1 d.2.1 then
         (JO 24 out [(d.1,J1 .i64 e'.2.2.2.2.2.1 1,d.2.2)]).bind λv=>
         some (.inl (l,true,J1 .i64 i 1,e',v))
        else
         (JO 24 out [d]).bind λF=>
         some (.inl (l,true,J1 .i64 i 1,e',F))
     else
      (JO 24 out [d]).bind λA=>
      some (.inl (l,dn,J1 .i64 i 1,e',A))) λr:(iM)⊕(List aA)=> ∃z,r=.inl z/\z.1=l/\z.2.2.2.1=e'/\DI l e' z.2.2.1 z.2.1 z.2.2.2.2:=by
   intro d dn out hi j;have L:=nS j;have keep: ∀{t:Int} {v:List aA},d.1=bD e'-> ¬Chg e'->JO 24 out [(d.1,t,d.2.2)]=some v->DI l e' (J1 .i64 i 1) true v:=fun{t v} c1 J w=>by rw[gL w];refine(hi.app (x:=(d.1,t,d.2.2)) ⟨λ_=>⟨λa=>absurd a J,λ_=>⟨d,L,c1,rfl⟩⟩,λa=>absurd c1 a⟩).next j ⟨λa=>absurd c1 a,λ_ _ _=>⟨(d.1,t,d.2.2),List.mem_append_right _ (lZ.2 rfl),c1⟩⟩ λ_ a=>absurd a J
   refine .eq (λc=>.bind λb k=>.ite (λg=>.bind λG R=>.some ⟨_,rfl,rfl,rfl,?_⟩) λg=>.ge (λI=>.some ⟨_,rfl,rfl,rfl,?_⟩) λI=>.ge (λ_=>.bind λv w=>.some ⟨_,rfl,rfl,rfl,keep c ((tB k).2 g) w⟩) λ_=>.bind λv w=>.some ⟨_,rfl,rfl,rfl,keep c ((tB k).2 g) w⟩) λc=>.bind λA H=>.some ⟨_,rfl,rfl,rfl,?_⟩;have M:=(tB k).1 g;dsimp only;rw[gL R,show d.1=bD e' from c];have q:=hi.new (t:=d.2.1) M;exact q.next j ⟨λa=>absurd c a,λ_ b=>absurd M b⟩ λ_ a=>q.2.2 a rfl;exact hi.next j ⟨λa=>absurd c a,λ_ _ a=>absurd I (by omega)⟩ λ_ a=>absurd a ((tB k).2 g);dsimp only;rw[gL H];have q:=hi.app (x:=d) ⟨λa=>absurd a c,λ_=>L⟩;exact q.next j ⟨λ_=>by simp,λa=>absurd a c⟩ λa b=>q.2.2 b a
  have n: ∀{d:aA} {dn:Bool} {out:List aA} {o:Option ((iM)⊕(List aA))} {Q:((iM)⊕(List aA))->Prop},(∀z,z.1=l/\z.2.2.2.1=e'/\DI l e' z.2.2.1 z.2.1 z.2.2.2.2->Q (.inl z))->Par o (λr=> ∃z,r=.inl z/\z.1=l/\z.2.2.2.1=e'/\DI l e' z.2.2.1 z.2.1 z.2.2.2.2)->Par o Q:=fun{d dn out o Q} h1 h2=>h2.mono λr ⟨z,S,h⟩=>by rw[S];exact h1 z h
  refine .lt (λ_=>.bind λd j=>.gt (λ_=>.not (λ_=>.bind λb k=>.ite (λg=>.bind λO D=>n (d:=d) (dn:=dn) (out:=out) (λz h=>h) (same (dn:=true) ?_ j)) λ_=>n (d:=d) (dn:=dn) (out:=out) (λz h=>h) (same hi j)) λ_=>n (d:=d) (dn:=dn) (out:=out) (λz h=>h) (same hi j)) λ_=>n (d:=d) (dn:=dn) (out:=out) (λz h=>h) (same hi j)) λc=>.map ?_;rw[gL D];exact hi.new ((tB k).1 g);have C:=EB hi.2.1 c;refine .not (λ_=>.bind λb k=>.ite (λg=>.bind λO D=>.some ?_) λg=>.some ⟨hi.1,C,λa=>absurd a ((tB k).2 g)⟩) λcd=>.some ⟨hi.1,C,λa=>hi.2.2 a cd⟩;dsimp only;rw[gL D];have q:=hi.new (t:=e'.1) ((tB k).1 g);exact⟨q.1,λd j=>(C d j).app,λa=>q.2.2 a rfl⟩
 have K:Par (kO (lk,e)) λy=>(Chg e\/e.2.1=7->DF lk e y)/\(¬(Chg e\/e.2.1=7)->y=lk):=(by unfold kO;refine .bind λb k=>.not (λg=>.ne (λB=>.some ⟨λh=>?_,λ_=>rfl⟩) λB=>Par.mono (P:=λy=>DF lk e y) lp λy E=>⟨λ_=>E,λh=>absurd (.inr B) h⟩) λg=>lp.mono λy E=>⟨λ_=>E,λh=>absurd (.inl ((tB k).1 g)) h⟩;rcases h with h|h;exact absurd h ((tB k).2 g);exact absurd h B);exact K _ h
end
end Go.Am
end
section
namespace Go.Am
set_option linter.unusedVariables false
set_option maxRecDepth 20000
set_option maxHeartbeats 1000000
section
variable {lk lk' rows rows' out:List aA} {e:J5} {m:List J5} {n:Int}
theorem Rel.noted(h:Rel m n [] lk rows)(hm:eY m)(he:OC m e)(hd:(Chg e\/e.2.1=7->DF lk e lk')/\(¬(Chg e\/e.2.1=7)->lk'=lk))(hr:(e.2.1≠7->rows'=rows)/\(e.2.1=7->(∀q,q≠bD e->idx rows' q=idx rows q)/\ ∀r,idx rows' (bD e)=some r-> ∃r0,idx rows (bD e)=some r0/\r.1=cP r0.1 e.2.2.2.2.2.1)):Rel (m++[e]) n [] lk' rows':=by
 obtain⟨J,_,_,z,_⟩:=he;by_cases g:Chg e;have E:e.2.1≠7:=by rcases g with h|h<;>omega
 obtain⟨k,v,H⟩:=hd.1 (.inl g);rw[hr.1 E];refine⟨nofun,.nil,nofun,nofun,λd hd=>?_,λq r o=>?_⟩;by_cases c:d.1=bD e;rw[EY,if_pos ⟨g,c.symm⟩];exact((k d hd).1 c).1 g;rw[zP λh=>c h.2.symm];exact h.lak d ((k d hd).2 c);obtain⟨x,y⟩:=h.row q r o;by_cases c:q=bD e;subst c;rw[EY,if_pos ⟨g,rfl⟩];have:=sj hm (bD e);grind;rw[zP λh=>c h.2.symm];exact⟨x,λa b=>y a λd hd j=>b d ((v d hd).1 (by simp_all)) j⟩;have A: ∀p,cI (m++[e]) p=cI m p:=λp=>zP λh=>g h.1;by_cases w:e.2.1=7;obtain⟨k,v,_⟩:=hd.1 (.inr w);obtain⟨B,F⟩:=hr.2 w;have z:=z w;refine⟨nofun,.nil,nofun,nofun,λd hd=>?_,λq r o=>?_⟩;rw[A];by_cases c:d.1=bD e;obtain⟨D,h0,h1,h2⟩:=((k d hd).1 c).2 g;rw[h2,h.lak D h0,h1,c];exact h.lak d ((k d hd).2 c);rw[A];by_cases c:q=bD e;subst c;obtain⟨r0,h0,h1⟩:=F r o;obtain⟨x,y⟩:=h.row _ r0 h0;have mx:=tD r0.1 e.2.2.2.2.2.1;refine⟨by omega,λ_ b=>?_⟩;by_cases ab: ∀d∈lk,d.1≠bD e;grind;obtain⟨d,hd,j⟩: ∃d,d∈lk/\d.1=bD e:=by simpa using ab
 have G:=h.lak d hd;rw[j]at G;by_cases C:e.2.2.2.2.2.1<d.2.2;obtain⟨I,h1,h2⟩:=(v d hd).2 j g C;grind;omega;rw[B _ c]at o;obtain⟨x,y⟩:=h.row q r o;exact⟨x,λa b=>y a λd hd j=>b d ((v d hd).1 (by simp_all)) j⟩;rw[hd.2 (λh=>by simp_all),hr.1 w];exact h.ent g
theorem JJk{a:mQ}{y:vB}(h:zU (a,e)=some y)(c:y.2=0)(hr:Rel m a.1 [] a.2.2.2.2.2.1 a.2.2.2.2.2.2)(hm:eY m)(he:OC m e):y.1.1=a.1/\y.1.2.2.1=a.2.2.1/\Rel (m++[e]) y.1.1 [] y.1.2.2.2.2.2.1 y.1.2.2.2.2.2.2:=by
 have o:Par (zU (a,e)) λy=>y.2=0->y.1.1=a.1/\y.1.2.2.1=a.2.2.1/\Rel (m++[e]) y.1.1 [] y.1.2.2.2.2.2.1 y.1.2.2.2.2.2.2:=by
  unfold zU;have n: ∀{t:Int} {j l2:List Ju},Par ((jU (a.2.2.2.2.2.2,e)).bind λg=>
   if aM g.2 0 then
    some ((a.1,t,a.2.2.1,j,a.2.2.2.2),g.2)
   else
    (JN e).bind λv=>
    if v then
     if aQ e.2.2.2.2.2.2.1.1 a.1 then
      some ((a.1,t,a.2.2.1,j,a.2.2.2.2.1,a.2.2.2.2.2.1,g.1),1)
     else
      (kO (a.2.2.2.2.2.1,e)).bind λk=>
      some ((a.1,t,a.2.2.1,j,a.2.2.2.2.1,k,g.1),0)
    else
     (kO (a.2.2.2.2.2.1,e)).bind λr=>
     some ((a.1,t,a.2.2.1,j,a.2.2.2.2.1,r,g.1),0)) λy=>y.2=0->y.1.1=a.1/\y.1.2.2.1=a.2.2.1/\Rel (m++[e]) y.1.1 [] y.1.2.2.2.2.2.1 y.1.2.2.2.2.2.2:=fun{t j l2}=>by
    refine .bind λg x=>.ne (λc=>.some λh=>absurd h c) λw=>?_;have dn:Par ((kO (a.2.2.2.2.2.1,e)).bind λk=>some ((a.1,t,a.2.2.1,j,a.2.2.2.2.1,k,g.1),(0:Int))) λy=>y.2=0->y.1.1=a.1/\y.1.2.2.1=a.2.2.1/\Rel (m++[e]) y.1.1 [] y.1.2.2.2.2.2.1 y.1.2.2.2.2.2.2:=.bind λk q=>.some λ_=>⟨rfl,rfl,hr.noted hm he (JIV q) (qf x w).2⟩;exact .bind λ_ _=>.ite (λ_=>.ge (λ_=>.some nofun) λ_=>dn) λ_=>dn
  refine .gt (λ_=>.bind λ_ _=>.lt (λ_=>.bind λ_ _=>.ne (λc=>.some λh=>absurd h c) λ_=>.bind λ_ _=>.ne (λc=>.some λh=>absurd h c) λ_=>n (l2:=[])) λ_=>.bind λ_ _=>.ne (λc=>.some λh=>absurd h c) λ_=>n (l2:=[])) λ_=>.bind λ_ _=>.ne (λc=>.some λh=>absurd h c) λ_=>n (l2:=[])
 exact o _ h c
variable {l:Jt}
theorem JFP{y:jp}(h:AN l=some y)(hc:eY l.2.1):y.2.2=true-> ∃(j:Nat),y.2.1=(j:Int)+1/\j+1<=l.2.1.length/\Rel (l.2.1.take (j+1)) y.1.1 [] y.1.2.2.2.1 y.1.2.2.2.2:=by
 have r:Par (AN l) λy=>y.2.2=true-> ∃(j:Nat),y.2.1=(j:Int)+1/\j+1<=l.2.1.length/\Rel (l.2.1.take (j+1)) y.1.1 [] y.1.2.2.2.1 y.1.2.2.2.2:=by
  unfold AN;refine .bind λ_ _=>.not (λ_=>.some nofun) λ_=>.while (λz=>z.2.1=l) rfl ?_;rintro⟨i,l',z⟩ o
  (try dsimp only at o)
  subst o;unfold x6;refine .ge (λ_=>.bind λF v=>.ne (λ_=>.some rfl) λB=>.bind λD k=>.bind λA G=>.eq (λH=>.bind λC e=>.some λ_=>?_) λ_=>.some rfl) λ_=>.some nofun;rw[v]at k e;injection k with k;injection e with e;subst k;subst e;obtain⟨x,q⟩:=cL v
  (try dsimp only at x q)
  obtain⟨E,_,_,_,w⟩:=hc _ _ q;have n:=(eP.1 q).1;have I:J0 (l'.2.1.take i.toNat)=i:=by grind [J0]
  refine⟨i.toNat,by grind,n,?_⟩;have g:=w B A.1 (by grind);rw[List.take_add_one,q];exact g.ent (by omega)
 exact r _ h
theorem Dc{n:Int}{y:sQ}(h:zO n=some y): ∀r∈y.1,r.1=0:=by
 grind [zO,mkS]
theorem JHJ{e:Int}{y:vB}(h:BD (l,e)=some y)(c:y.2=0)(hc:eY l.2.1):y.1.1=e/\ ∃j:Nat,y.1.2.2.1=(j:Int)/\j<=l.2.1.length/\Rel (l.2.1.take j) y.1.1 [] y.1.2.2.2.2.2.1 y.1.2.2.2.2.2.2:=by
 have g:Par (BD (l,e)) λy=>y.2=0->y.1.1=e/\ ∃j:Nat,y.1.2.2.1=(j:Int)/\j<=l.2.1.length/\Rel (l.2.1.take j) y.1.1 [] y.1.2.2.2.2.2.1 y.1.2.2.2.2.2.2:=(by unfold BD;refine .bind λq h2=>.not (λ_=>.gt (λ_=>.some nofun) λ_=>.bind λo h3=>.some λ_=>⟨rfl,0,rfl,zQ2 _,?_⟩) λn=>.ne (λ_=>.some nofun) λcp=>.some λ_=>?_;refine⟨nofun,.nil,nofun,nofun,nofun,λp r k=>?_⟩;have z:r.1=0:=Dc h3 r (nS k);rw[z];exact⟨aZ _,λ_ _=>rfl⟩;grind [JFP]);exact g _ h c
theorem JE6{k:Int}{y:vB}(h:BK (l,k)=some y)(c:y.2=0)(hc:eY l.2.1):y.1.1=k/\Rel l.2.1 k [] y.1.2.2.2.2.2.1 y.1.2.2.2.2.2.2:=by
 have B:Par (BK (l,k)) λy=>y.2=0->y.1.1=k/\Rel l.2.1 k [] y.1.2.2.2.2.2.1 y.1.2.2.2.2.2.2:=by
  unfold BK;refine .bind λ_ _=>.not (λ_=>.some nofun) λ_=>.ltf (λ_=>.gt (λ_=>.some nofun) λ_=>.bind λR h3=>.ne (λc=>.some λh=>absurd h c) λN=>?_) λ_=>.some nofun;obtain⟨b1,j,b2,b3,T⟩:=JHJ h3 N hc;refine .while (λz=>z.2.1=l/\z.2.2.2.1=k/\z.2.2.2.2.2.1=(j:Int)/\z.1<=9223372036854775807/\(0<=z.1->Rel (l.2.1.take (max j z.1.toNat)) k [] z.2.2.2.2.2.2.2.2.1 z.2.2.2.2.2.2.2.2.2)) ⟨rfl,b1,b2,show(0:Int)<=9223372036854775807 by decide,λ_=>by simp_all⟩ ?_;rintro⟨i,l',V,a⟩ ⟨h1,h2,r,L,C⟩
  (try dsimp only at h1 h2 r L C)
  subst h1;unfold nh;dsimp only;have o:=Jm i 1;refine .lt (λ_=>.bind λe v=>.le (λI=>.some ⟨rfl,h2,r,by grind,λE=>?_⟩) λI=>.bind λU n=>.bind λQ H=>.ne (λc=>.some λh=>absurd h c) λG=>.some ?_) λS=>.map (.while (λz=>z.2.2.2.1=a) rfl ?_);obtain⟨A,q⟩:=cL v;have O:=(hc _ _ q).1;have w:=(eP.1 q).1;have M:J0 (l'.2.1.take i.toNat)=i:=by grind [J0]
  grind;rw[v]at n;injection n with n;subst n;obtain⟨A,q⟩:=cL v;have w:=(eP.1 q).1;have D:=hc _ _ q;have M:J0 (l'.2.1.take i.toNat)=i:=by grind [J0]
  have O:=D.1;have g:=C A;rw[show max j i.toNat=i.toNat by omega]at g;obtain⟨F,K,J⟩:=JJk H G (by simp_all) (hc.take _) D;refine⟨rfl,F.trans h2,K.trans r,by grind,λE=>?_⟩
  (try dsimp only at E⊢)
  rw[show max j (J1 .i64 i 1).toNat=i.toNat+1 by omega,List.take_add_one,q,<-h2,<-F];exact J;rintro⟨i2,Y,P,W,out⟩ x
  (try dsimp only at x)
  subst x;unfold ng;refine .lt (λ_=>.bind λ_ _=>.gt (λ_=>.bind λ_ _=>.bind λ_ _=>.some rfl) λ_=>.some rfl) λ_=>.map (.bind λ_ _=>.ne (λc=>.some λh=>absurd h c) λ_=>.some λ_=>⟨h2,?_⟩);grind [List.take_of_length_le,J0]
 exact B _ h c
theorem JHW{a:mQ}{j:Int}{y:cX}(h:AU (l,a,j)=some y)(c:y.2=0)(hl:gT l)(hc:eY l.2.1)(hr:Rel l.2.1 a.1 [] a.2.2.2.2.2.1 a.2.2.2.2.2.2):JG y.1:=by
 have g:Par (AU (l,a,j)) λy=>y.2=0->JG y.1:=(by unfold AU;refine .bind λr h2=>.ne (λc=>.some λh=>absurd h (by decide)) λo=>.bind λ_ _=>.not (λ_=>.some nofun) λ_=>.while (λz=>JG z.2.2.2.2.2) ⟨hl,hc,?_⟩ ?_;grind [wL];intro z e;unfold iw;exact .lt (λ_=>.bind λ_ _=>.eq (λ_=>.some e) λ_=>.bind λ_ _=>.bind λq n=>.ne (λc=>.some λh=>absurd h c) λk=>.some (PC n k e (.inr (.inl rfl)))) λ_=>.some λ_=>e);exact g _ h c
end
end Go.Am
end
section
namespace Go.Am
set_option linter.unusedVariables false
set_option maxRecDepth 20000
set_option maxHeartbeats 1000000
section
variable {s:List UInt8} {p:Int}
theorem qS{n:Int}{k:Nat}(b:Nat)(h:At s (J0E n k) p)(hl:s.length<=4611686018427387904)(h0:0<=n)(hn:n<b)(hb:b=2^(8*k):=by rfl)(h1:1<=k:=by decide)(g:k<=8:=by decide)(e:n<9223372036854775808:=by omega):dN (s,p,(k:Int))=some (n,0):=by
 grind [Int.eq_ofNat_of_zero_le,DJ]
def uW(r:aA):List UInt8:=J0E r.1 8++(J0E r.2.1 8++J0E r.2.2 8)
def gX(l:List aA):List UInt8:=(l.map uW).flatten
def GP(r:aA):Prop:=(0<=r.1/\r.1<=1099511627776)/\(0<=r.2.1/\r.2.1<=1099511627776)/\0<=r.2.2/\r.2.2<=1099511627776
def uS(r:aA):List UInt8:=J0E r.1 1++(J0E r.2.1 8++J0E r.2.2 8)
def oV(l:List aA):List UInt8:=(l.map uS).flatten
def HC(r:aA):Prop:=(0<=r.1/\r.1<64)/\(0<=r.2.1/\r.2.1<=1099511627776)/\0<=r.2.2/\r.2.2<=1099511627776
theorem JIS{l:List aA}(h:hO l=some true):J0 l<=64/\ ∀r∈l,GP r:=by
 have o: ∀{n:Int} {b:Bool},nV n=some b->b=true->0<=n/\n<=1099511627776:=fun{n b} D B=>by
  have k:Par (nV n) λb=>b=true->0<=n/\n<=1099511627776:=by unfold nV;exact .ge (λc=>.some λd=>⟨c,jQ.1 d⟩) λ_=>.some nofun
  exact k _ D B
 have A:Par (hO l) λy=>y=true->J0 l<=64/\ ∀r∈l,GP r:=by
  unfold hO;refine .ltf (λ_=>.gt (λ_=>.some nofun) λc=>.while (λz=>z.2=l/\upw GP l z.1) ⟨rfl,CZ⟩ ?_) λ_=>.some nofun;rintro⟨i,l'⟩ ⟨h1,v⟩
  (try dsimp only at h1 v)
  subst h1;unfold m6;have go: ∀{r:aA} {w x q:Bool},idx l' i=some r->nV r.1=some w->w=true->nV r.2.1=some x->x=true->nV r.2.2=some q->q=true->upw GP l' (J1 .i64 i 1):=λg h1 c1 h2 e h3 j=>zE v g ⟨o h1 c1,o h2 e,o h3 j⟩;exact .lt (λ_=>.bind λr g=>.bind λw h1=>.nof (λc1=>.bind λx h2=>.nof (λe=>.bind λq h3=>.nof (λj=>.eq (λ_=>.ne (λ_=>.some nofun) λ_=>.some ⟨rfl,go g h1 c1 h2 e h3 j⟩) λ_=>.some ⟨rfl,go g h1 c1 h2 e h3 j⟩) λ_=>.some nofun) λ_=>.some nofun) λ_=>.some nofun) λC=>.some λ_=>⟨Int.not_lt.1 c,EB v C⟩
 exact A _ h rfl
theorem JKY{l:List aA}{n:Int}(h:lQ (l,n)=some true)(hn:n<=64):J0 l<=64/\ ∀r∈l,HC r:=by
 have v:Par (lQ (l,n)) λy=>y=true->J0 l<=64/\ ∀r∈l,HC r:=by
  unfold lQ;refine .while (λz=>z.1=l/\z.2.1=n/\upw HC l z.2.2/\(0<=z.2.2->z.2.2<=J0 l/\z.2.2<=64/\ ∀r,idx l (z.2.2-1)=some r->z.2.2-1<=r.1)) ⟨rfl,rfl,CZ,λ_=>⟨Jh,show(0:Int)<=64 by decide,λr e=>absurd (cL e).1 (show¬(0:Int)<=0-1 by decide)⟩⟩ ?_;rintro⟨l',j,i⟩ ⟨h1,h2,g,hi⟩
  (try dsimp only at h1 h2 g hi)
  subst h1 h2;unfold WP;dsimp only;have o:=Jm i 1;have H:=bC i 1;refine .lt (λK=>.bind λr e=>.ltf (λc1=>.gef (λI=>.ltf (λO=>.gtf (λL=>.gtf (λJ=>?_) λ_=>.some nofun) λ_=>.some nofun) λ_=>.some nofun) λ_=>.some nofun) λ_=>.some nofun) λB=>.some λ_=>⟨?_,EB g B⟩;obtain⟨A,q⟩:=cL e;obtain⟨E,M,F⟩:=hi A;have x:HC r:=⟨⟨by omega,by omega⟩,⟨by omega,by omega⟩,by omega,by omega⟩;have w:i<=r.1->(l'=l'/\j=j/\upw HC l' (J1 .i64 i 1)/\(0<=J1 .i64 i 1->J1 .i64 i 1<=J0 l'/\J1 .i64 i 1<=64/\ ∀r,idx l' (J1 .i64 i 1-1)=some r->J1 .i64 i 1-1<=r.1)):=λD=>⟨rfl,rfl,zE g e x,λN=>⟨by omega,by omega,λr' k=>by
   grind⟩⟩
  refine .gt (λC=>.bind λr' k=>.ge (λ_=>.some nofun) λG=>.some (w ?_)) λC=>.some (w (by omega));grind;grind
 exact v _ h rfl
theorem JLE{l:List aA}{y:List UInt8×Int}(h:AK l=some y)(hv:hO l=some true):y.1=J0E (J0 l) 2++gX l:=by
 have n:Par (AK l) λy=>y.1=J0E (J0 l) 2++gX l:=by
  unfold AK;refine .bind λv E=>.not (λc=>by simp_all) λ_=>.bind λG h3=>.while (λz=>z.2.2=l/\z.2.1<=9223372036854775807/\(0<=z.2.1->z.1=J0E (J0 l) 2++gX (l.take z.2.1.toNat))) ⟨rfl,show(0:Int)<=9223372036854775807 by decide,λ_=>by rw[eQ (k:=2) (by decide) (by decide) h3];simp[gX]⟩ ?_;rintro⟨o,i,l'⟩ ⟨h1,h2,hi⟩
  (try dsimp only at h1 h2 hi)
  subst h1;unfold na;dsimp only;have oo:=Jm i 1;refine .lt (λ_=>.bind λr w=>.bind λI B=>.bind λK e=>.bind λH A=>.bind λF g=>.bind λD j=>.some ⟨rfl,by grind,λC=>?_⟩) λJ=>.some ?_;rw[w]at e g;injection e with e;injection g with g;subst e;subst g;obtain⟨x,q⟩:=cL w
  (try dsimp only at C⊢)
  rw[eQ (k:=8) (by decide) (by decide) j,eQ (k:=8) (by decide) (by decide) A,eQ (k:=8) (by decide) (by decide) B,hi x,show(J1 .i64 i 1).toNat=i.toNat+1 by omega,List.take_add_one,q];simp[gX,uW];grind [List.take_of_length_le,J0]
 exact n _ h
theorem At.rows{l:List aA}(h:At s (gX l) p): ∀{i:Nat} {r:aA},l[i]?=some r->At s (uW r) (p+24*i):=by
 induction l generalizing p with
 |nil=>simp_all
 |cons x l ih=>
  intro i r g;have e:gX (x::l)=uW x++gX l:=by simp[gX]
  rw[e]at h;cases i with
  |zero=>simp at g;subst g;simpa using h.left
  |succ i=>
   have q:=ih h.right (i:=i) (r:=r) (by simpa using g);have j:(uW x).length=24:=by simp[uW,JX]
   grind
theorem At.dirs{l:List aA}(h:At s (oV l) p): ∀{i:Nat} {r:aA},l[i]?=some r->At s (uS r) (p+17*i):=by
 induction l generalizing p with
 |nil=>simp_all
 |cons x l ih=>
  intro i r g;have e:oV (x::l)=uS x++oV l:=by simp[oV]
  rw[e]at h;cases i with
  |zero=>simp at g;subst g;simpa using h.left
  |succ i=>
   have q:=ih h.right (i:=i) (r:=r) (by simpa using g);have j:(uS x).length=17:=by simp[uS,JX]
   grind
theorem JLG{l:List aA}{y:sQ}(h:AM (J0E (J0 l) 2++gX l)=some y)(hl:J0 l<=64)(B: ∀r∈l,GP r)(c:y.2=0):y.1=l:=by
 have len:(gX l).length=24*l.length:=by
  clear h hl B
  induction l with
  |nil=>rfl
  |cons x l ih=>grind [gX,uW,JX]
 have G:=Jh (l:=l);have L:J0 l=l.length:=rfl;have C:Par (AM (J0E (J0 l) 2++gX l)) λy=>y.2=0->y.1=l:=by
  generalize K:J0E (J0 l) 2++gX l=s;have D:At s (J0E (J0 l) 2++gX l) 0:=by rw[K];exact .all
  have q:s.length<=4611686018427387904:=by grind [JX]
  have g:=qS (k:=2) 65536 D.left q G (by omega);have E:=D.right;rw[JX]at E;unfold AM;refine .bind λY h2=>.nef (λ_=>.lt (λ_=>.some nofun) λ_=>.gt (λ_=>.some nofun) λ_=>?_) λ_=>.some nofun;have A:=h2.symm.trans g;injection A with A;subst A;refine .while (λz=>z.1=s/\z.2.1=J0 l/\ ∃i:Nat,z.2.2.1=(i:Int)/\i<=l.length/\z.2.2.2.2=l.take i) ⟨rfl,rfl,0,rfl,zQ2 _,rfl⟩ ?_;rintro⟨s',n,W,z,o⟩ ⟨h1,h3,i,j,w,e⟩
  (try dsimp only at h1 h3 j w e)
  subst h1 h3 j e;unfold nb;dsimp only;have oo:=Jm (i:Int) 1;have om:=IL 24 (i:Int);have O:=Jm 2 (cV .i64 24 (i:Int));have S:=Jm 10 (cV .i64 24 (i:Int));have U:=Jm 18 (cV .i64 24 (i:Int));refine .lt (λT=>.bind λV j=>.bind λP w=>.bind λQ e=>.bind λM N=>.some ⟨rfl,rfl,i+1,by grind,by omega,?_⟩) λR=>.map (.bind λ_ _=>.not (λ_=>.some nofun) λ_=>.some λ_=>by grind);have v:i<l.length:=by omega
  have J:=zQ9 v;obtain⟨F,H,I⟩:=B _ (kU v);have ar:=E.rows J;unfold uW at ar;have g1:=qS (k:=8) 18446744073709551616 ar.left q F.1 (by omega);have ar:=ar.right;rw[JX]at ar;have g2:=qS (k:=8) 18446744073709551616 ar.left q H.1 (by omega);have ar:=ar.right;rw[JX]at ar;have Z:=qS (k:=8) 18446744073709551616 ar q I.1 (by omega);rw[show J1 .i64 2 (cV .i64 24 (i:Int))=0+((2:Nat):Int)+24*(i:Int) by omega]at j;rw[show J1 .i64 10 (cV .i64 24 (i:Int))=0+((2:Nat):Int)+24*(i:Int)+((8:Nat):Int) by omega]at w;rw[show J1 .i64 18 (cV .i64 24 (i:Int))=0+((2:Nat):Int)+24*(i:Int)+((8:Nat):Int)+((8:Nat):Int) by omega]at e;grind [gL,List.take_add_one]
 exact C _ h c
end
end Go.Am
end
section
namespace Go.Am
set_option linter.unusedVariables false
set_option maxRecDepth 20000
set_option maxHeartbeats 1000000
section
variable {s:List UInt8} {p:Int}
theorem Ee{c:jY}(h:nW c=some true):(1<=c.1/\c.1<=64)/\lQ (c.2.2.2.1,c.1)=some true/\hO c.2.2.2.2=some true:=by
 have e:Par (nW c) λy=>y=true->(1<=c.1/\c.1<=64)/\lQ (c.2.2.2.1,c.1)=some true/\hO c.2.2.2.2=some true:=by unfold nW;exact .ltf (λc1=>.gtf (λo=>.ltf (λ_=>.gtf (λ_=>.bind λ_ _=>.nof (λ_=>.bind λa k=>.nof (λj=>.bind λb n=>.nof (λg=>.ne (λ_=>.some nofun) λ_=>λ_ _ _=>⟨⟨by omega,by omega⟩,by rw[<-j];exact k,by rw[<-g];exact n⟩) λ_=>.some nofun) λ_=>.some nofun) λ_=>.some nofun) λ_=>.some nofun) λ_=>.some nofun) λ_=>.some nofun) λ_=>.some nofun
 exact e _ h rfl
def ckB(c:jY)(t:List UInt8):List UInt8:=J0E c.1 2++(J0E c.2.1 4++(J0E (J0 t) 4++(t++(J0E (J0 c.2.2.2.1) 1++(oV c.2.2.2.1++(J0E (J0 c.2.2.2.2) 2++gX c.2.2.2.2))))))
theorem JLj{c:jY}{y:List UInt8×Int}(h:AO c=some y):y.1=[]\/(nW c=some true/\ ∃t,y.1=ckB c t):=by
 have A:Par (AO c) λy=>y.1=[]\/(nW c=some true/\ ∃t,y.1=ckB c t):=by
  unfold AO;refine .bind λv w=>.not (λ_=>.some (.inl rfl)) λD=>.bind λx h3=>.bind λY L=>.bind λU M=>.bind λV H=>.bind λQ E=>.bind λT G=>?_;have w:nW c=some true:=by rw[<-D];exact w
  obtain⟨_,_,J⟩:=Ee w;refine .while (λz=>z.2.2=c/\z.2.1<=9223372036854775807/\(0<=z.2.1->z.1=J0E c.1 2++(J0E c.2.1 4++(J0E (J0 x.1) 4++(x.1++(J0E (J0 c.2.2.2.1) 1++oV (c.2.2.2.1.take z.2.1.toNat))))))) ⟨rfl,show(0:Int)<=9223372036854775807 by decide,λ_=>?_⟩ ?_;dsimp only;rw[eQ (k:=1) (by decide) (by decide) G,qM E,eQ (k:=4) (by decide) (by decide) H,eQ (k:=4) (by decide) (by decide) M,eQ (k:=2) (by decide) (by decide) L];simp[oV];rintro⟨o,i,c'⟩ ⟨h1,h2,hi⟩
  (try dsimp only at h1 h2 hi)
  subst h1;unfold m9;dsimp only;have oo:=Jm i 1;refine .lt (λ_=>.bind λr B=>.bind λa O=>.bind λZ j=>.bind λb K=>.bind λR n=>.bind λd I=>.some ⟨rfl,by dsimp only;omega,λN=>?_⟩) λW=>.map (.bind λe P=>.bind λg C=>.some (.inr ⟨w,x.1,?_⟩));rw[B]at j n;injection j with j;injection n with n;subst j;subst n;obtain⟨F,q⟩:=cL B
  (try dsimp only at N⊢)
  rw[eQ (k:=8) (by decide) (by decide) I,eQ (k:=8) (by decide) (by decide) K,eQ (k:=1) (by decide) (by decide) O,hi F,show(J1 .i64 i 1).toNat=i.toNat+1 by omega,List.take_add_one,q];simp[oV,uS];have S:=Jh (l:=c'.2.2.2.1);show g=_;rw[qM C,JLE P J,hi (by omega),List.take_of_length_le (by unfold J0 at*;omega)];unfold ckB;simp only[iB]
 exact A _ h
theorem sf(l:List aA):(oV l).length=17*l.length:=by
 induction l with
 |nil=>rfl
 |cons x l ih=>simp[oV,uS,JX]at ih⊢;omega
theorem Z6{c c':jY}{t:List UInt8}(hv:nW c=some true)(hl:(ckB c t).length<=8192)(h:uE (ckB c t)=some (c',0)):c'.1=c.1/\c'.2.2.2.1=c.2.2.2.1/\c'.2.2.2.2=c.2.2.2.2:=by
 obtain⟨v1,v2,v3⟩:=Ee hv;obtain⟨d1,d2⟩:=JKY v2 v1.2;obtain⟨r1,r2⟩:=JIS v3;have Z:Par (uE (ckB c t)) λy=>y.2=0->y.1.1=c.1/\y.1.2.2.2.1=c.2.2.2.1/\y.1.2.2.2.2=c.2.2.2.2:=by
  generalize hx:ckB c t=s at hl;have H:At s (ckB c t) 0:=by rw[hx];exact .all
  have g:s.length<=4611686018427387904:=by omega
  unfold ckB at H;have L:=qS (k:=2) 65536 H.left g (by omega) (by omega);have q:=H.right.right;simp only[JX]at q;have b1:=q.bnd;simp only[eI,JX]at b1;have lt:J0 t=t.length:=rfl;have ld:J0 c.2.2.2.1=c.2.2.2.1.length:=rfl;have ls:J0 s=s.length:=rfl;have F:=qS (k:=4) 4294967296 q.left g (by omega) (by omega);have I:=q.right.right;simp only[JX]at I;have g4:=qS (k:=1) 256 I.left g (by omega) (by omega);have K:=I.right;simp only[JX]at K;have a4:=K.right;rw[sf]at a4;have o1:=Jm 10 (J0 t);have o2:=Jm (J1 .i64 10 (J0 t)) 1;unfold uE;refine .bind λy2 h2=>.bind λy3 h3=>.bind λy4 h4=>?_;have G:=h2.symm.trans L;have C:=h4.symm.trans F;injection G with G;injection C with C;subst G;subst C;dsimp only;refine .nef (λ_=>.gt (λ_=>.some nofun) λ_=>.bind λy5 h5=>.bind λy6 h6=>?_) λ_=>.some nofun;rw[show J1 .i64 10 (J0 t)=0+((2:Nat):Int)+((4:Nat):Int)+((4:Nat):Int)+(t.length:Int) by omega]at h6;have A:=h6.symm.trans g4;injection A with A;subst A;refine .nef (λ_=>.lt (λ_=>.some nofun) λ_=>?_) λ_=>.some nofun;refine .while (λz=>z.1=s/\z.2.2.2.1=J0 c.2.2.2.1/\z.2.2.2.2.2.2.2.2.2.2.2.1=c.1/\ ∃i:Nat,z.2.2.2.2.1=(i:Int)/\i<=c.2.2.2.1.length/\z.2.2.1=11+J0 t+17*(i:Int)/\z.2.2.2.2.2.2.2.2.2.2.1=c.2.2.2.1.take i) ⟨rfl,rfl,rfl,0,rfl,zQ2 _,by dsimp only;omega,rfl⟩ ?_;rintro⟨s',J,aq,n,i',q2,q3,q4,q5,q6,D,pg,q7⟩ ⟨U,R,T,i,Q,k8,W,x⟩
  (try dsimp only at U R T Q k8 W x)
  subst U R T Q W x;unfold m8;dsimp only;have p1:=Jm (i:Int) 1;have p2:=Jm (11+J0 t+17*(i:Int)) 1;have p3:=Jm (11+J0 t+17*(i:Int)) 9;have p4:=Jm (11+J0 t+17*(i:Int)) 17;refine .lt (λci=>.bind λy8 S=>.bind λy9 h9=>.bind λao w=>.bind λP Y=>.some ⟨rfl,rfl,rfl,i+1,by dsimp only;omega,by omega,by dsimp only;omega,?_⟩) λcn=>.map (.bind λap _=>.ne (λc=>.some λh=>absurd h c) λ_=>.bind λV M=>.bind λau r=>.ne (λc=>.some λh=>absurd h c) λN=>.bind λ_ _=>.not (λ_=>.some nofun) λ_=>.some λ_=>⟨rfl,?_,?_⟩);have v:i<c.2.2.2.1.length:=by omega
  have hr:=zQ9 v;obtain⟨f1,f2,f3⟩:=d2 _ (kU v);have ar:=K.left.dirs hr;unfold uS at ar;have L:=qS (k:=1) 256 ar.left g f1.1 (by omega);have ar:=ar.right;rw[JX]at ar;have g2:=qS (k:=8) 18446744073709551616 ar.left g f2.1 (by omega);have ar:=ar.right;rw[JX]at ar;have F:=qS (k:=8) 18446744073709551616 ar g f3.1 (by omega);rw[show 11+J0 t+17*(i:Int)=0+((2:Nat):Int)+((4:Nat):Int)+((4:Nat):Int)+(t.length:Int)+((1:Nat):Int)+17*(i:Int) by omega]at S;rw[show J1 .i64 (11+J0 t+17*(i:Int)) 1=0+((2:Nat):Int)+((4:Nat):Int)+((4:Nat):Int)+(t.length:Int)+((1:Nat):Int)+17*(i:Int)+((1:Nat):Int) by omega]at h9;rw[show J1 .i64 (11+J0 t+17*(i:Int)) 9=0+((2:Nat):Int)+((4:Nat):Int)+((4:Nat):Int)+(t.length:Int)+((1:Nat):Int)+17*(i:Int)+((1:Nat):Int)+((8:Nat):Int) by omega]at w;have E:=S.symm.trans L;have B:=h9.symm.trans g2;have j:=w.symm.trans F;injection E with E;injection B with B;injection j with j;subst E;subst B;subst j;show P=_;rw[gL Y,List.take_add_one,hr];rfl;show c.2.2.2.1.take i=_;rw[List.take_of_length_le (by omega)];have hi:i=c.2.2.2.1.length:=by omega
  obtain⟨_,O⟩:=qh M;have e:V=J0E (J0 c.2.2.2.2) 2++gX c.2.2.2.2:=by
   obtain⟨pre,o,J,q2⟩:=a4;have b4:(pre++((J0E (J0 c.2.2.2.2) 2++gX c.2.2.2.2)++o)).length=(J0E c.1 2++(J0E c.2.1 4++(J0E (J0 t) 4++(t++(J0E (J0 c.2.2.2.1) 1++(oV c.2.2.2.1++(J0E (J0 c.2.2.2.2) 2++gX c.2.2.2.2))))))).length:=by rw[<-J,<-hx];rfl
   simp only[eI,JX,sf]at b4;have hp:o=[]:=List.length_eq_zero_iff.1 (by omega);subst hp;rw[O,J,lV,show(11+J0 t+17*(i:Int)).toNat=pre.length by omega];simp
  rw[e]at r;exact JLG r r1 r2 N
 exact Z _ h rfl
end
end Go.Am
end
section
namespace Go.Am
set_option linter.unusedVariables false
set_option maxRecDepth 20000
set_option maxHeartbeats 1000000
section
variable {k:J7}
theorem JDQ{p:JK}{y:List aA}(h:tT p=some y)(hv:JY p=some true)(one:p.2.1.Pairwise λa b=>a.1.1≠b.1.1):(∀d∈y,∃f∈p.2.1,f.1.1=d.1/\d.2.2=f.1.2.1)/\ ∀f∈p.2.1,f.2.1=true->0<=f.1.1->f.1.1<64-> ∃d∈y,d.1=f.1.1:=by
 have B:Par (tT p) λy=>(∀d∈y,∃f∈p.2.1,f.1.1=d.1/\d.2.2=f.1.2.1)/\ ∀f∈p.2.1,f.2.1=true->0<=f.1.1->f.1.1<64-> ∃d∈y,d.1=f.1.1:=by
  unfold tT;refine .bind λv K=>.not (λc=>by simp_all) λ_=>.while (λz=>z.2.1=p/\(0<=z.1/\z.1<=64)/\(∀d∈z.2.2,∃f∈p.2.1,f.1.1=d.1/\d.2.2=f.1.2.1)/\ ∀f∈p.2.1,f.2.1=true->0<=f.1.1->f.1.1<z.1-> ∃d∈z.2.2,d.1=f.1.1) ⟨rfl,⟨aZ _,show(0:Int)<=64 by decide⟩,nofun,λf _ _ a b=>by grind⟩ ?_;rintro⟨i,I,o⟩ ⟨h1,⟨h2,h3⟩,k,w⟩
  (try dsimp only at h1 h2 h3 k w)
  subst h1;unfold je;dsimp only;have oo:=Jm i 1;refine .lt (λH=>.bind λj E=>.ge (λA=>.bind λf n=>?_) λA=>.some ⟨rfl,by grind,k,λg F a b c=>?_⟩) λH=>.some ⟨k,λf n a b c=>w f n a b (by omega)⟩;obtain⟨g,q,Q⟩:=(wC E).2.1 A;rw[n]at q;injection q with q;subst q;have G: ∀x∈I.2.1,x.1.1=i->x=f:=λx r e=>by
   obtain⟨a,S⟩:=kR.1 r;obtain⟨_,P⟩:=cL n;grind [Co]
  refine .ite (λcd=>.bind λN L=>.bind λO J=>.bind λM C=>.some ⟨rfl,by grind,λd D=>?_,λx r a b c=>?_⟩) λcd=>.some ⟨rfl,by grind,k,λx r a b c=>?_⟩
  (try dsimp only at D)
  rw[gL C]at D;grind [nS]
  (try dsimp only at c⊢)
  rw[gL C];by_cases e:x.1.1=i;exact⟨_,List.mem_append_right _ (lZ.2 rfl),e.symm⟩;obtain⟨d,R,T⟩:=w x r a b (by omega);grind;grind
  (try dsimp only at c)
  by_cases e:g.1.1=i;exact absurd e ((wC E).2.2 (by omega) g F);grind
 exact B _ h
def OfQ(k:J7)(n:Int)(D:List aA):Prop:=(∀d∈D,d.2.2=cI k.2.2.1.2.1 d.1)/\ ∀q,0<=q->q<n->((∃d∈k.2.2.2.2.2.2.2,d.1=q)\/(∃f∈k.2.2.2.1.2.1,f.2.1=true/\f.1.1=q))-> ∃d∈D,d.1=q
theorem Zq{y:sR}(h:zH k=some y)(c:y.2=0)(hi:JG k):y.1.1=k.1/\y.1.2.2.2.2=k.2.2.2.2.2.2.1/\OfQ k k.1 y.1.2.2.2.1/\Jv k=some true:=by
 have a0:Par (zH k) λy=>y.2=0->y.1.1=k.1/\y.1.2.2.2.2=k.2.2.2.2.2.2.1/\OfQ k k.1 y.1.2.2.2.1/\Jv k=some true:=by
  unfold zH;refine .bind λv L=>.not (λ_=>.some nofun) λcv=>?_;have L:Jv k=some true:=by simp_all
  have an:k.1<=64:=by
   have k1:Par (mG k) λy=>y=true->k.1<=64:=by unfold mG;exact .ge (λ_=>.le (λc=>λ_ _ _=>c) λ_=>.some nofun) λ_=>.some nofun
   have P:Par (Jv k) λy=>y=true->k.1<=64:=by unfold Jv;exact .bind λa ha=>.not (λ_=>.some nofun) λc=>λ_ _ _=>k1 _ ha c
   exact P _ L rfl
  refine .while (λz=>z.2.1=k/\z.2.2.2.2.2.2.2.2.2.1=k.1/\z.2.2.2.2.2.2.2.2.2.2.2.2=k.2.2.2.2.2.2.1/\(0<=z.1/\z.1<=1000)/\OfQ k z.1 z.2.2.2.2.2.2.2.1) ⟨rfl,rfl,rfl,⟨aZ _,show(0:Int)<=1000 by decide⟩,nofun,λq a b=>by grind⟩ ?_;rintro⟨i,k',u1,u2,u3,u4,u5,D,u6,pg,u7,u8,rw⟩ ⟨h1,h2,h3,⟨h4,F⟩,C⟩
  (try dsimp only at h1 h2 h3 h4 F C)
  subst h1 h2 h3;unfold g5;have oo:=Jm i 1;have T:gy=MB:=rfl;rw[T];have lp: ∀{B A:List aA},i<k'.1->tT k'.2.2.2.1=some A->(∀d∈B,d.2.2=cI k'.2.2.1.2.1 d.1)->(∀d∈D,d∈B)->((∃d∈k'.2.2.2.2.2.2.2,d.1=i)-> ∃d∈B,d.1=i)->
    Par (Jg MB (i,A,J0 A,0,k',u1,u2,u3,u4,u5,B,u6,k'.1,u7,u8,k'.2.2.2.2.2.2.1)) λr=> ∃z,r=.inl z/\z.2.1=k'/\z.2.2.2.2.2.2.2.2.2.1=k'.1/\z.2.2.2.2.2.2.2.2.2.2.2.2=k'.2.2.2.2.2.2.1/\(0<=z.1/\z.1<=1000)/\OfQ k' z.1 z.2.2.2.2.2.2.2.1:=by
   intro B A J G hl ad ao;obtain⟨d1,d2⟩:=JDQ G (LM L) hi.2.2.one;refine .while (λz=>z.1=i/\z.2.1=A/\z.2.2.1=J0 A/\z.2.2.2.2.1=k'/\z.2.2.2.2.2.2.2.2.2.2.2.2.1=k'.1/\z.2.2.2.2.2.2.2.2.2.2.2.2.2.2.2=k'.2.2.2.2.2.2.1/\(∀d∈z.2.2.2.2.2.2.2.2.2.2.1,d.2.2=cI k'.2.2.1.2.1 d.1)/\(∀d∈B,d∈z.2.2.2.2.2.2.2.2.2.2.1)/\upw (λd=>d.1=i->d∈z.2.2.2.2.2.2.2.2.2.2.1) A z.2.2.2.1) ⟨rfl,rfl,rfl,rfl,rfl,rfl,hl,λ_ h=>h,CZ⟩ ?_;rintro⟨i',ap,n,j,P,t1,t2,t3,t4,t5,D2,t6,pg,t7,t8,rw⟩ ⟨g1,g2,g3,V,S,R,I,Z,K⟩
   (try dsimp only at g1 g2 g3 V S R I Z K)
   subst g1 g2 g3 V S R;unfold MB;refine .lt (λY=>.bind λd g=>.eq (λcd=>.bind λy9 M=>.some ⟨rfl,rfl,rfl,rfl,rfl,rfl,λx w=>?_,λx w=>?_,?_⟩) λcd=>.some ⟨rfl,rfl,rfl,rfl,rfl,rfl,I,Z,zE K g λh=>absurd h cd⟩) λY=>.some ⟨_,rfl,rfl,rfl,rfl,by grind,I,λq N q2 H=>?_⟩
   (try dsimp only at w)
   rw[gL M]at w;rcases cN.1 w with w|w;exact I x w;simp at w;subst w;obtain⟨f,U,O,f3⟩:=d1 _ (nS g);rw[f3,(hi.2.2.hot f U).1,O];dsimp only;rw[gL M];grind;dsimp only;rw[gL M];exact zE (K.mono λx h e=>List.mem_append_left _ (h e)) g λ_=>List.mem_append_right _ (lZ.2 rfl)
   ·(try dsimp only at q2)
    have al:=EB K Y;by_cases e:q=i'
    ·subst e;rcases H with H|⟨f,U,O,f3⟩
     all_goals grind
    obtain⟨d,a,b⟩:=C.2 q N (by omega) H;grind
  have fin: ∀{o:Option ((CP)⊕(sR))} {Q:((CP)⊕(sR))->Prop},Par o (λr=> ∃z,r=.inl z/\z.2.1=k'/\z.2.2.2.2.2.2.2.2.2.1=k'.1/\z.2.2.2.2.2.2.2.2.2.2.2.2=k'.2.2.2.2.2.2.1/\(0<=z.1/\z.1<=1000)/\OfQ k' z.1 z.2.2.2.2.2.2.2.1)->
   (∀z,z.2.1=k'/\z.2.2.2.2.2.2.2.2.2.1=k'.1/\z.2.2.2.2.2.2.2.2.2.2.2.2=k'.2.2.2.2.2.2.1/\(0<=z.1/\z.1<=1000)/\OfQ k' z.1 z.2.2.2.2.2.2.2.1->Q (.inl z))->Par o Q:=λh1 h2=>h1.mono λr ⟨z,hz,h⟩=>by grind
  refine .lt (λJ=>.bind λy4 F=>.ite (λW=>.bind λy5 E=>.bind λA G=>fin (lp J G (λd g=>?_) (λd g=>?_) λ_=>?_) λz h=>h) λW=>.bind λA G=>fin (lp J G C.1 (λd g=>g) λw=>?_) λz h=>h) λJ=>.some λ_=>⟨rfl,rfl,⟨C.1,λq N q2 H=>C.2 q N (by grind) H⟩,L⟩;rw[gL E]at g;rcases cN.1 g with g|g;exact C.1 d g;simp at g;subst g;exact hi.2.2.lak _ ((EH F).1 W).1;rw[gL E];grind;rw[gL E];grind [EH];grind [EH]
 exact a0 _ h c
theorem YT{l:Jt}(hi:gT l)(hc:eY l.2.1):Par (JB l) λy=>y=true:=by
 obtain⟨i1,i2,i3,i4⟩:=hi;have o:=bC l.1 1;unfold JB;refine .ltf (λ_=>.gtf (λ_=>.gtf (λ_=>.ltf (λ_=>.bind λm r=>.gt (λc=>?_) λ_=>.while (λz=>z.2=l) rfl ?_) λc=>by omega) λc=>by omega) λc=>by omega) λc=>by omega
 grind [yP];rintro⟨i,l'⟩ h
 (try dsimp only at h)
 subst h;unfold wZ;refine .lt (λ_=>.bind λe j=>.nef (λ_=>.bind λn g=>.bind λv x=>.not (λc=>?_) λ_=>.some rfl) λc=>?_) λ_=>.some rfl;rw[j]at g;injection g with g;subst g;obtain⟨_,q⟩:=cL j;have:=(hc _ _ q).2.1;simp_all;obtain⟨k,q⟩:=cL j
 (try dsimp only at k q c)
 have w:=(hc _ _ q).1;grind [J0,Jm]
theorem ph{l:Jt}{n:Int}(hi:gT l)(hc:eY l.2.1)(hn:n<=J0 l.2.1):Par (kN (l,n)) λy=>y.2=0:=by
 have v:=YT hi hc;obtain⟨i1,i2,i3,i4⟩:=hi;unfold kN;refine .bind λb e=>.not (λc=>by rw[v _ e]at c;cases c) λ_=>.bind λm g=>.gt (λc=>?_) λ_=>.some rfl;grind [yP]
theorem JJF{y:gU}(h:zZ k=some y)(c:y.2.2=0)(hi:JG k):JG y.1:=by
 have x:Par (zZ k) λy=>y.2.2=0->JG y.1:=by
  unfold zZ;refine .bind λy2 h2=>.ne (λc=>.some λh=>absurd h c) λM=>.bind λI h3=>.gt (λ_=>.some nofun) λP=>.bind λZ T=>.ne (λc=>.some λh=>absurd h c) λR=>.bind λn D=>.some λ_=>?_;obtain⟨L,K,⟨N,B⟩,W⟩:=Zq h2 M hi;have cp:TN k.2.2.1.2.1 I.1:=by
   intro c' hc';rcases JLj h3 with e|⟨v,t,e⟩;rw[e]at hc';exact absurd hc' (by have:uE []=some ((0,0,[],[],[]),5):=rfl;simp_all);rw[e]at hc' P;obtain⟨J,G,H⟩:=Z6 v (by grind [J0]) hc';rw[J,G,H,L,K];refine⟨nofun,.nil,nofun,nofun,N,λp r w=>?_⟩;obtain⟨U,Y⟩:=hi.2.2.row p r w;refine⟨U,λ_ b=>?_⟩;have p0:=(cL w).1;have z:p<k.1:=by
    have:=sY (cL w).2;have F:Par (mG k) λy=>y=true->J0 k.2.2.2.2.2.2.1=k.1:=by unfold mG;exact .ge (λ_=>.le (λ_=>.ge (λ_=>.le (λ_=>.bind λ_ _=>.ite (λ_=>.bind λ_ _=>.ite (λ_=>.bind λ_ _=>.ite (λ_=>.bind λ_ _=>.ite (λ_=>.bind λ_ _=>.ite (λ_=>.eq (λc=>λ_ _ _=>c) λ_=>.some nofun) λ_=>.some nofun) λ_=>.some nofun) λ_=>.some nofun) λ_=>.some nofun) λ_=>.some nofun) λ_=>.some nofun) λ_=>.some nofun) λ_=>.some nofun) λ_=>.some nofun
    have Q:Par (Jv k) λy=>y=true->J0 k.2.2.2.2.2.2.1=k.1:=by unfold Jv;exact .bind λa V=>.not (λ_=>.some nofun) λc=>λ_ _ _=>F _ V c
    have:=Q _ W rfl;omega
   by_cases E: ∃f∈k.2.2.2.1.2.1,f.1.1=p;obtain⟨f,j,o⟩:=E;cases fd:f.2.1 with
   |true=>
    obtain⟨d,a,e⟩:=B p p0 z (.inr ⟨f,j,fd,o⟩);grind
   |false=>
    have:=(hi.2.2.hot f j).2 fd r (by grind);grind
   refine Y (λf C e=>E ⟨f,C,e⟩) λd S e=>?_;obtain⟨O,a,e'⟩:=B p p0 z (.inl ⟨d,S,e⟩);exact b O a e'
  have q:=ON T R hi (λh=>absurd h (by simp_all)) (λh=>absurd h (by simp_all)) λ_=>cp;have g:=q.inv hi (by simp_all) λh=>absurd h (by simp_all);by_cases A:n.2=0;obtain⟨j,o⟩:=QX D A;exact⟨o g.1,by show eY n.1.2.1;rw[j];exact g.2.1,by show Rel n.1.2.1 _ _ _ _;rw[j];exact g.2.2⟩;obtain⟨_,e',_,_,a3,a4,_,a6,_⟩:=q;exact absurd (ph g.1 g.2.1 (by grind [ES,zC]) _ D) A
 exact x _ h c
end
section
variable {s:Jz}
theorem Ls{y:qA}(e:BP s=some y)(c:y.2.2=0)(hi:JG s.1):JG y.1.1:=by
 have g:Par (BP s) λy=>y.2.2=0->JG y.1.1:=by unfold BP;exact .bind λk h2=>.ne (λc=>.some λh=>absurd h c) λj=>.some λ_=>JJF h2 j hi
 exact g _ e c
end
end Go.Am
end
section
namespace Go.Am
set_option linter.unusedVariables false
set_option maxRecDepth 20000
set_option maxHeartbeats 1000000
section
variable {s:Jz}
abbrev TFl:=Int×Int×Int×(List J5)×Int×Int×(List aF)×Int×(List aD)×(List aD)×(List Ju)×(List aA)×(List aA)×(List (List UInt8))×Int×(List Int)×Bool×(List JW)×Bool×(List Int)×(List tO)
def krn(t:TFl):J7:=(t.1,t.2.1,(t.2.2.1,t.2.2.2.1,t.2.2.2.2.1),(t.2.2.2.2.2.1,t.2.2.2.2.2.2.1,t.2.2.2.2.2.2.2.1),(t.2.2.2.2.2.2.2.2.1,t.2.2.2.2.2.2.2.2.2.1),t.2.2.2.2.2.2.2.2.2.2.1,t.2.2.2.2.2.2.2.2.2.2.2.1,t.2.2.2.2.2.2.2.2.2.2.2.2.1)
theorem K4{k:J7}{t n m:Int}{b:List UInt8}{d:eE}{y:eL}(hi:JG k)(hb:mM (k.2.2.1,t)=some b)(h:wQ (d,b,n,m)=some y)(c:y.2=0):JG y.1.1:=by
 have o:Par (wQ (d,b,n,m)) λy=>y.2=0->JG y.1.1:=by
  unfold wQ;dsimp only;refine .bind λr h2=>.ne (λc=>.some λh=>absurd h c) λq=>.bind λI h3=>.ne (λc=>.some λh=>absurd h c) λE=>.bind λJ B=>.ne (λc=>.some λh=>absurd h c) λA=>.some λ_=>?_;rcases JIN hb hi.1 hi.2.1 with e|⟨f,D,K,rest,F,C,z⟩;rw[e]at h2;have:wR []=some ((0,[],0),4):=rfl;rw[this]at h2;injection h2 with h2;subst h2;exact absurd q (by decide);obtain⟨j,v,M,L⟩:=JKw h2 f hi.2.1 D F C z q;have G:=hi.2.1.take j;have H:J0 (k.2.2.1.2.1.take j)=j:=by unfold J0;rw[sK];omega
  have hL:gT r.1:=by rw[v];exact⟨rfl,by dsimp only;omega,by dsimp only;omega,by dsimp only;omega⟩
  have g:eY r.1.2.1:=by rw[v];exact G
  obtain⟨w,x⟩:=JE6 h3 E g;exact JHW B A hL g (by rw[w];exact x)
 exact o _ h c
theorem JE5{t id g:Int}{y:eE×List UInt8}(h:AS (s,t,id,g)=some y)(hi:JG s.1): ∃k,JG k/\ ∃t,mM (k.2.2.1,t)=some y.2:=by
 have n:Par (AS (s,t,id,g)) λy=> ∃k,JG k/\ ∃t,mM (k.2.2.1,t)=some y.2:=by unfold AS;exact .bind λ_ _=>.ge (λ_=>.bind λ_ _=>.ite (λ_=>.bind λ_ _=>.bind λ_ _=>.bind λ_ _=>.bind λo q=>.bind λ_ _=>.eq (λ_=>.bind λj e=>.some ⟨o,hi.force q,_,e⟩) λ_=>.bind λj e=>.some ⟨o,hi.force q,_,e⟩) λ_=>.bind λj e=>.some ⟨s.1,hi,_,e⟩) λ_=>.bind λj e=>.some ⟨s.1,hi,_,e⟩
 exact n _ h
variable {x:pM} {t:TFl}
theorem IW{e:Int}{y:eF×TFl}(h:pW (s,e,t)=some y)(hi:JG (krn t))(hs:e=0->JG s.1):JG (krn y.2):=by
 have g:Par (pW (s,e,t)) λy=>JG (krn y.2):=by unfold pW;exact .eq (λc=>.bind λ_ _=>.some (hs c)) λ_=>.bind λ_ _=>.some hi
 exact g _ h
theorem JL7{y:eF×TFl}(h:BL (x,t)=some y)(hi:JG (krn t)):JG (krn y.2):=by
 have g:Par (BL (x,t)) λy=>JG (krn y.2):=by unfold BL;exact .ltf (λ_=>.gtf (λ_=>.bind λ_ _=>.bind λ_ _=>.eq (λ_=>.bind λ_ _=>.some hi) λ_=>.bind λ_ _=>.bind λ_ _=>.bind λj e=>.eq (λ_=>.some hi) λ_=>.eq (λ_=>.eq (λ_=>.bind λ_ _=>.bind λ_ _=>.some (XQ e hi)) λ_=>.some (XQ e hi)) λ_=>.some (XQ e hi)) λ_=>.bind λ_ _=>.some hi) λ_=>.bind λ_ _=>.some hi
 exact g _ h
theorem JHQ{y:eF×TFl}(h:BU (x,t)=some y)(hi:JG (krn t)):JG (krn y.2):=by
 have n:Par (BU (x,t)) λy=>JG (krn y.2):=by
  unfold BU;refine .bind λe h2=>.bind λj h3=>?_;obtain⟨k,B,t',A⟩:=JE5 h2 hi;have E:j.2=0->JG j.1.1:=by unfold MS at h3;have w:Par ((wQ (e.1,e.2,t.1,t.2.2.2.2.2.1)).bind λe=>some (e.1,e.2)) λy=>y.2=0->JG y.1.1:=.bind λF C=>.some λc=>K4 B A C c;exact w _ h3
  refine .while (λz=>z.1=j.2/\z.2.2.2.2.2.2.2.2.2.2.2.2.2.2.2.2.2.2.2.2.2.2.2.2.2.2=j.1/\ ∃u v:List Int,True/\JG (krn (z.2.2.1,z.2.2.2.1,z.2.2.2.2.1,z.2.2.2.2.2.1,z.2.2.2.2.2.2.1,z.2.2.2.2.2.2.2.1,z.2.2.2.2.2.2.2.2.1,z.2.2.2.2.2.2.2.2.2.1,z.2.2.2.2.2.2.2.2.2.2.1,z.2.2.2.2.2.2.2.2.2.2.2.1,z.2.2.2.2.2.2.2.2.2.2.2.2.1,z.2.2.2.2.2.2.2.2.2.2.2.2.2.1,z.2.2.2.2.2.2.2.2.2.2.2.2.2.2.1,[],0,[],false,[],false,u,[]))) ⟨rfl,rfl,[],[],trivial,hi⟩ λz D=>?_;obtain⟨q,o,u,v,_,r⟩:=D;unfold nn;refine .lt (λ_=>.bind λ_ _=>.bind λ_ _=>.some ⟨q,o,u,v,trivial,r⟩) λ_=>.map (.ne (λ_=>.bind λ_ _=>.some r) λc=>.bind λ_ _=>.some ?_);have g:=E (by rw[<-q];exact c);rw[<-o]at g;exact g
 exact n _ h
theorem JJv{y:eF×TFl}(h:BO (x,t)=some y)(hi:JG (krn t)):JG (krn y.2):=by
 have z:Par (BO (x,t)) λy=>JG (krn y.2):=(by unfold BO;refine .eq (λ_=>.bind λF h2=>.eq (λ_=>.bind λA _=>.bind λk n=>.some ?_) λ_=>.bind λk n=>.some (show JG (krn k.2)from IW n hi λc=>se h2 c hi)) λ_=>.eq (λ_=>.bind λE C=>.some (JL7 C hi)) λ_=>.eq (λ_=>.bind λo e=>.bind λw g=>.some (IW g hi λc=>JEB e c hi)) λ_=>.eq (λ_=>.bind λo e=>.bind λw g=>.some (IW g hi λc=>Ls e c hi)) λ_=>.eq (λ_=>.bind λ_ _=>.bind λj r=>.eq (λc=>.bind λ_ _=>.some ?_) λ_=>.bind λ_ _=>.some hi) λ_=>.eq (λ_=>.bind λD v=>.some (JHQ v hi)) λ_=>.eq (λ_=>.bind λo e=>.bind λw g=>.some (IW g hi λc=>JK1 e c hi)) λ_=>.bind λ_ _=>.some hi;show JG (krn k.2);exact IW (t:=(_,_,_,_,_,_,_,_,_,_,_,_,_,_,_,_,_,_,_,A,_)) n hi λc=>se h2 c hi;obtain⟨q,B⟩:=QX r c;exact⟨B hi.1,by show eY j.1.2.1;rw[q];exact hi.2.1,by show Rel j.1.2.1 _ _ _ _;rw[q];exact hi.2.2⟩);exact z _ h
theorem JLI{l:List pM}{y:Jz×(List eF)×List tO}(h:zM (s,l)=some y)(hi:JG s.1):JG y.1.1:=by
 have g:Par (zM (s,l)) λy=>JG y.1.1:=by unfold zM;refine .while (λz=>JG (krn (z.2.2.2.2.2.2.1,z.2.2.2.2.2.2.2.1,z.2.2.2.2.2.2.2.2.1,z.2.2.2.2.2.2.2.2.2.1,z.2.2.2.2.2.2.2.2.2.2.1,z.2.2.2.2.2.2.2.2.2.2.2.1,z.2.2.2.2.2.2.2.2.2.2.2.2.1,z.2.2.2.2.2.2.2.2.2.2.2.2.2.1,z.2.2.2.2.2.2.2.2.2.2.2.2.2.2.1,z.2.2.2.2.2.2.2.2.2.2.2.2.2.2.2.1,z.2.2.2.2.2.2.2.2.2.2.2.2.2.2.2.2.1,z.2.2.2.2.2.2.2.2.2.2.2.2.2.2.2.2.2.1,z.2.2.2.2.2.2.2.2.2.2.2.2.2.2.2.2.2.2.1,[],0,[],false,[],false,[],[]))) (by exact hi) λz e=>?_;unfold iq;exact .lt (λ_=>.lt (λ_=>.not (λ_=>.bind λ_ _=>.bind λk j=>.bind λ_ _=>.some (JJv j e)) λ_=>.some e) λ_=>.some e) λ_=>.some e
 exact g _ h
theorem JIh{p f:Int}{y:eL}(h:tQ (p,f)=some y)(c:y.2=0):JG y.1.1:=by
 have j:Par (wM (p,f)) λy=>y.2=0->JG y.1:=by
  unfold wM;refine .ltf (λ_=>.gtf (λ_=>.ltf (λ_=>.gt (λ_=>.some nofun) λ_=>.bind λk h2=>.bind λn h3=>.some λ_=>⟨⟨rfl,aZ _,Jh,show(0:Int)<=4096 by decide⟩,λi e h=>by simp at h,?_⟩) λ_=>.some nofun) λ_=>.some nofun) λ_=>.some nofun;have q:Par (wL f) λy=>y.1.2.1=[]:=by unfold wL;exact .ltf (λ_=>.gt (λ_=>.some rfl) λ_=>.some rfl) λ_=>.some rfl
  show Rel [] p k.1.2.1 [] n.1;rw[q _ h2];refine⟨nofun,.nil,nofun,nofun,nofun,λp r v=>?_⟩;have z:r.1=0:=Dc h3 r (nS v);rw[z];exact⟨aZ _,λ_ _=>rfl⟩
 have g:Par (tQ (p,f)) λy=>y.2=0->JG y.1.1:=by unfold tQ;exact .bind λk h2=>.ne (λc=>.some λh=>absurd h c) λo=>.bind λ_ _=>.ne (λc=>.some λh=>absurd h c) λ_=>.some λ_=>j _ h2 o
 exact g _ h c
end
end Go.Am
end
section
namespace Go.Am
set_option linter.unusedVariables false
set_option maxRecDepth 20000
set_option maxHeartbeats 1000000
section
variable {B S:Int}
theorem JKz{p f:Int}(h1:1<=p)(h2:p<=64)(h3:1<=f)(h4:f<=64):Par (tQ (p,f)) λy=>y.2=0:=by
 have e:Par (wM (p,f)) λy=>y.2=0:=by unfold wM;exact .ltf (λ_=>.gtf (λ_=>.ltf (λ_=>.gt (λc=>by(try dsimp only at c);omega) λ_=>.bind λj h2=>.bind λg h3=>.some rfl) λc=>by(try dsimp only at c);omega) λc=>by(try dsimp only at c);omega) λc=>by(try dsimp only at c);omega
 have h:Par (FA p) λy=>y.2=0:=by unfold FA;exact .ltf (λ_=>.gt (λc=>by omega) λ_=>.bind λ_ _=>.some rfl) λc=>by omega
 unfold tQ;exact .bind λj h2=>.ne (λc=>absurd (e _ h2) c) λk=>.bind λg h3=>.ne (λc=>absurd (h _ h3) c) λ_=>.some rfl
theorem JDJ{c:Jk}{n:Int}{b:Bool}{y:Jz×Jk}(hf:aB 16384 1073741824 J3 c)(h0:0<=c.2)(h:BM (n,b,c)=some y):JG y.1.1:=by
 have o:Par (BM (n,b,c)) λy=>JG y.1.1:=by unfold BM;refine .bind λg h2=>.bind λk h3=>.bind λE q=>.bind λA F=>.bind λC r=>.some ?_;have e:=(J4 (B:=16384) (S:=1073741824) (X:=(4,c)) ⟨cS .i64 4,hf⟩ h0).get h2;have j:=(J4 (B:=16384) (S:=1073741824) (X:=(3,g.2)) ⟨cS .i64 3,e.1.2⟩ e.2.2.2).get h3;have x:=e.2.2.1 (show(1:Int)<=4 by decide);have w:=j.2.2.1 (show(1:Int)<=3 by decide);have b2:=e.2.1;have b3:=j.2.1;have z:=Jm 1 g.1;have D:=Jm 1 k.1;have v:=JKz (p:=J1 .i64 1 g.1) (f:=J1 .i64 1 k.1) (by omega) (by(try dsimp only at x);omega) (by omega) (by(try dsimp only at w);omega) _ q;exact JLI r (JIh q v)
 exact o _ h
theorem JGM{c:Jk}{n:Int}{b:Bool}{y:J7×Jk}(hf:aB 16384 1073741824 J3 c)(h0:0<=c.2)(h:BR (n,b,c)=some y):JG y.1:=by
 have e:Par (BR (n,b,c)) λy=>JG y.1:=by unfold BR;exact .bind λg h2=>.some (JDJ hf h0 h2)
 exact e _ h
end
end Go.Am
end
