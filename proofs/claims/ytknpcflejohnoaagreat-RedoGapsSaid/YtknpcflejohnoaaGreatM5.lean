/-
  Parts of a proof.
-/
import Derived.ChangeArms
import Derived.OpenShut
import Derived.ChangeBears
import Derived.ChangeStays
import Derived.Handed
import Derived.RowKit3
import Derived.WalkKit
import Derived.ProofKit
import Derived.Test.YtknpcflejohnoaaGreatM2
import Derived.Test.YtknpcflejohnoaaGreatM3
import Derived.Test.YtknpcflejohnoaaGreatM4
set_option linter.unusedSimpArgs false
set_option linter.unusedVariables false
section
namespace Go.Am
set_option linter.unusedVariables false
set_option maxRecDepth 20000
set_option maxHeartbeats 4000000
theorem T2{B S:Int}{X:J2}(h:aB B S J7 X)(a8:BS B S 0 0:=by omega):Tot (CB X) λy=>aB 0 40992 lJ y:=by unfold CB;exact have s0:aB 0 S J7 X:=h;.bind ((yA (B:=0) (S:=S) (X:=X) s0).eqn) λy2 h1=>.not (λH=>.some ⟨J9,aH 12⟩) λH=>have v3:=sR (x:=X) s0 h1.2 H;have:=Jc (l:=X.2.2.2.2.2.2.2);have j:aB 0 8192 J7 X:=v3.2;.bind (JW (B:=0) (S:=0) ⟨J9,j.1,aH 8⟩) λy3 r=>have J:aB 0 8 .s y3:=r.1.u;.bind (JW (B:=0) (S:=8) ⟨J,j.2.1,aH 1⟩) λy4 L=>have A:aB 0 16 .s y4:=L.1.u;.bind (JW (B:=0) (S:=16) ⟨A,j.c.1,aH 4⟩) λy5 I=>have F:aB 0 24 .s y5:=I.1.u;.bind (JW (B:=0) (S:=24) ⟨F,j.d.1,aH 8⟩) λy6 P=>have q:aB 0 32 .s y6:=P.1.u;.bind (JW (B:=0) (S:=32) ⟨q,j.e.1,aH 8⟩) λZ M=>have D:aB 0 40 .s Z:=M.1.u;.bind (JW (B:=0) (S:=40) ⟨D,j.g.1,aH 8⟩) λy8 U=>have v:aB 0 48 .s y8:=U.1.u;.bind (JW (B:=0) (S:=48) ⟨v,j.h.1.1,aH 4⟩) λy9 R=>have Q:aB 0 56 .s y9:=R.1.u;.bind (JW (B:=0) (S:=56) ⟨Q,j.h.1.2.1,aH 1⟩) λw V=>have K:aB 0 64 .s w:=V.1.u;.bind (wu (B:=0) (S:=8192) ⟨K.u,j.h.1.c.1⟩) λY E=>have o:aB 0 16392 .s Y:=E.u;.bind (wu (B:=0) (S:=16392) ⟨o,j.h.1.d.u⟩) λN C=>have T:aB 0 32792 .s N:=C.u;.bind (JW (B:=0) (S:=32792) ⟨T,lB j.i oo,aH 4⟩) λk G=>have W:aB 0 32800 .s k:=G.1.u;have:=sF (z:=k) W;.bind (gW) λn a7=>have O:aB 0 40992 .s n:=(by omega:J0 n<=40992);.some ⟨O,aC⟩
theorem xt{B S:Int}{X:J2}(h:aB B S J7 X)(g:BS B S 0 0:=by omega):Tot (sN X) λy=>aB 0 41008 .s y:=by unfold sN;exact .bind (T2 (B:=0) (S:=S) h.z) λj h1=>.bind (x5 h1.1) λe h2=>have h3:aB 0 41008 .s e:=h2.u;.some h3
theorem Hl{B S X:Int}(h:aB B S zI X)(n:BS B S 0 0:=by omega):Tot (BM X) λy=>aB 0 28 .s y:=by unfold BM;exact .bind (JW (B:=0) (S:=4) ⟨PH 4 rfl oo,h,aH 8⟩) λk h1=>have h2:aB 0 12 .s k:=h1.1.u;.bind (x5 h2) λg e=>have j:aB 0 28 .s g:=e.u;.some j
theorem VW{B S:Int}{X:gV}(h:aB B S oW X)(a2:BC B S 0 0:=by omega):Tot (nI X) λy=>aB 0 335937564 .s y:=by unfold nI;exact .bind ((nE h.1).eqn) λy2 h1=>.not (λJ=>.some J9) λJ=>have T:=nC h.1 h1.2 J;have:=Jc (l:=X.1.2.1);have:J0 X.1.2.1=_:=JD h.1.2.1;have k:aB 4096 8192 JE X.1:=T.2;.bind (Hl k.1) λC w=>have:=sF (z:=C) w;Ju (τ:=(List UInt8)×(List UInt8)×Int) (λq=>(X.2,q.1,q.2.1,q.2.2,X.1)) (λq=>(aB 0 0 zI q.2.2/\0<=q.2.2/\(q.2.2<=J0 X.1.2.1\/q.2.2<=0))/\(aB 0 167968796 .s q.1/\J0 q.1<=41008*q.2.2+J0 C)/\(aB 0 167968768 .s q.2.1/\J0 q.2.1<=41008*q.2.2+0)) (λq=>J0 X.1.2.1-q.2.2) (by rintro⟨j,e,g⟩ A;dsimp only at A;obtain⟨⟨L,Z,W⟩,⟨r,a1⟩,n,V⟩:=A;unfold j7;(try dsimp only);exact have:=J3.1 L;.lt (λM=>.bind (Jh k.2.1) λy5 a4=>.le (λN=>.bind (Jh k.2.1) λy6 P=>.bind (xt (B:=0) (S:=8192) P.1.z) λR G=>have:=sF (z:=j) r;have:=sF (z:=R) G;.bind (gW) λD Y=>have I:aB 0 167968796 .s D:=(by omega:J0 D<=167968796);have:=Ji g 1;.some ⟨(D,e,J1 .i64 g 1),rfl,⟨⟨Jl,om,om⟩,⟨I,om⟩,n,om⟩,om,om⟩) λN=>.bind (Jh k.2.1) λy9 F=>.bind (xt (B:=0) (S:=8192) F.1.z) λE O=>have:=sF (z:=e) n;have:=sF (z:=E) O;.bind (gW) λo a0=>have K:aB 0 167968768 .s o:=(by omega:J0 o<=167968768);have:=Ji g 1;.some ⟨(j,o,J1 .i64 g 1),rfl,⟨⟨Jl,om,om⟩,⟨r,om⟩,K,om⟩,om,om⟩) λM=>.inr (have:=rZ X.2 0;have:=sF (z:=e) n;have:=Eu (dG X.2 0) (J0 e);.bind (zW n) λx Q=>have U:aB 0 167968768 .s x:=Q.1;have:=sF (z:=j) r;have:=Jc (l:=x);.bind (gW) λv a3=>have H:aB 0 335937564 .s v:=(by omega:J0 v<=335937564);.some H)) (C,[],0) rfl (have:J0 ([]:List UInt8)=0:=rfl;⟨⟨aC,om,om⟩,⟨w.u,om⟩,J9,om⟩)
theorem Qh{B S:Int}{X:TN}(h:aB B S (.pr Jj Jb) X)(G:BG B S:=by omega):Tot (BW X) λy=>aB B S (.pr JV .s) y:=by unfold BW;exact .bind ((BK (B:=B) (S:=S) (X:=(X.1.1.2.2.2.1,X.2.2.1)) ⟨h.1.1.d.1,h.c.1⟩).eqn) λx h1=>have:J0 X.1.1.2.2.2.1.2.1=_:=JD h.1.1.d.1.2.1;have: -1<=x/\x<J0 X.1.1.2.2.2.1.2.1:=h1.1.2;.ge (λC=>.bind (Jh h.1.1.d.1.2.1) λI M=>.ite (λA=>.bind (Jh h.1.1.d.1.2.1) λO j=>.bind (jk (B:=0) (S:=S) j.1.z.1) λK o=>.bind (Jh h.1.1.d.1.2.1) λL k=>.bind (VQ (B:=B) (S:=S) ⟨h.1.1,k.1.z.1.2.1⟩) λH e=>.bind (I3 (B:=B) (S:=S) ⟨h.1.2,h.c.1,o.1.u,h.d⟩) λJ q=>.eq (λr=>.bind (VW (B:=B) (S:=S) ⟨e.1.c.1,h.2.1⟩) λN v=>.some ⟨q.1.u,v.u⟩) λr=>.bind (VW (B:=B) (S:=S) ⟨e.1.c.1,h.2.1⟩) λD g=>.some ⟨h.1.2,g.u⟩) λA=>.bind (VW (B:=B) (S:=S) ⟨h.1.1.c.1,h.2.1⟩) λF w=>.some ⟨h.1.2,w.u⟩) λC=>.bind (VW (B:=B) (S:=S) ⟨h.1.1.c.1,h.2.1⟩) λE n=>.some ⟨h.1.2,n.u⟩
theorem Ad{B S:Int}{X:eY}(h:aB B S lJ X)(G:BS B S 0 0:=by omega)(J:S<=9223372036854775807:=by omega):Tot (nF X) λy=>aB 0 S JF y/\(y.2.2=0->0<=y.2.1/\y.2.1<=J0 X.1/\J0 y.1<=8392):=by unfold nF;exact have s0:aB 0 S lJ X:=h;have:=J3.1 s0.2;.ltf (λc1=>have:J0 X.1<=S:=s0.1;have:=Jc (l:=X.1);.gt (λD=>.some ⟨⟨J9,aC,aH 1⟩,om⟩) λD=>.bind ((iG (B:=0) (S:=S) (X:=(X.1,X.2,4)) ⟨s0.1,s0.2,aH 4⟩).eqn) λe z=>.ne (λn=>.some ⟨⟨J9,aC,aH 5⟩,om⟩) λn=>have C:=GF (x:=(X.1,X.2,4)) ⟨s0.1,s0.2,aH 4⟩ z.2 n;have:=J3.1 z.1.1;have:1<=(4:Int)/\(4:Int)<=8/\0<=X.2/\X.2<=J0 X.1/\(4:Int)<=J0 X.1-X.2/\((4:Int)<=4->0<=e.1/\e.1<=4294967295)/\((4:Int)=1->e.1<=255)/\((4:Int)=2->e.1<=65535):=C.1;.gt (λg=>.some ⟨⟨J9,aC,aH 2⟩,om⟩) λg=>have:=bC (J0 X.1) X.2;have:=Ji e.1 8;.lt (λr=>.some ⟨⟨J9,aC,aH 5⟩,om⟩) λr=>.bind ((iG (B:=0) (S:=S) (X:=(X.1,J1 .i64 (J1 .i64 X.2 4) e.1,4)) ⟨s0.1,Jl,aH 4⟩).eqn) λH F=>have:=Ji X.2 4;have:=Ji (J1 .i64 X.2 4) e.1;.bind (MF s0.1) λA k=>have o:aB 0 S .s A:=k.1;.bind (SP o) λI E=>.ne (λv=>.some ⟨⟨J9,aC,aH 3⟩,om⟩) λv=>.bind (MF s0.1) λq j=>have w:aB 0 S .s q:=j.1;have:=Ji X.2 8;have:=Ji (J1 .i64 X.2 8) e.1;have:=Jc (l:=q);.some ⟨⟨w,Jl,aC⟩,om⟩) λc1=>have:J0 X.1<=S:=s0.1;.some ⟨⟨J9,aC,aH 1⟩,om⟩
theorem A6{B S:Int}{X:HM}(h:aB B S HQ X)(p0:0<=X.2.2.1)(r:X.2.2.1<=J0 X.2.1)(w:0<=X.1)(q:X.1<=4294967295)(o:BS B S 0 0:=by omega)(v:S<=9223372036854775807:=by omega):Tot (yG X) λy=>aB 0 S (.pr .s JF) y/\(0<=y.2.2.1/\y.2.2.1<=J0 y.2.1):=by unfold yG;exact have s0:aB 0 S HQ X:=h;have:=J3.1 s0.2.2.1;have:J0 X.2.1<=S:=s0.2.1;have:=Jc (l:=X.2.1);.ne (λk=>.some ⟨⟨J9,s0.2⟩,om⟩) λk=>have:=bC (J0 X.2.1) X.2.2.1;.gt (λj=>.some ⟨⟨J9,s0.2.1,s0.2.2.1,aH 5⟩,om⟩) λj=>have:=Ji X.2.2.1 X.1;have:=bC (J1 .i64 X.2.2.1 X.1) X.1;.bind (MF s0.2.1) λn g=>have e:aB 0 S .s n:=g.1;.some ⟨⟨e,s0.2.1,Jl,s0.2.2.2⟩,om⟩
theorem tD{B S:Int}{X:HM}(h:aB B S HQ X)(p0:0<=X.2.2.1)(q:X.2.2.1<=J0 X.2.1)(o:BS B S 0 0:=by omega)(r:S<=9223372036854775807:=by omega):Tot (JH X) λy=>aB 0 S HQ y/\(0<=y.2.2.1/\y.2.2.1<=J0 y.2.1/\(X.1<=4->0<=y.1/\y.1<=4294967295)/\(X.1=1->y.1<=255)):=by unfold JH;exact have s0:aB 0 S HQ X:=h;have:=J3.1 s0.2.2.1;have:J0 X.2.1<=S:=s0.2.1;.ne (λn=>have:=J3.1 s0.1;.some ⟨⟨aC,s0.2⟩,om⟩) λn=>.bind ((iG (B:=0) (S:=S) (X:=(X.2.1,X.2.2.1,X.1)) ⟨s0.2.1,s0.2.2.1,s0.1⟩).eqn) λg e=>.ne (λk=>have:=J3.1 s0.1;.some ⟨⟨aC,s0.2.1,s0.2.2.1,e.1.2⟩,om⟩) λk=>have j:=GF (x:=(X.2.1,X.2.2.1,X.1)) ⟨s0.2.1,s0.2.2.1,s0.1⟩ e.2 k;have:=J3.1 s0.1;have:=J3.1 e.1.1;have:1<=X.1/\X.1<=8/\0<=X.2.2.1/\X.2.2.1<=J0 X.2.1/\X.1<=J0 X.2.1-X.2.2.1/\(X.1<=4->0<=g.1/\g.1<=4294967295)/\(X.1=1->g.1<=255)/\(X.1=2->g.1<=65535):=j.1;have:=Ji X.2.2.1 X.1;.some ⟨⟨e.1.1,s0.2.1,Jl,s0.2.2.2⟩,om⟩
theorem A3{B S:Int}{X:nM}(h:aB B S JF X)(p0:0<=X.2.1)(w:X.2.1<=J0 X.1)(v:BS B S 0 0:=by omega)(x:S<=9223372036854775807:=by omega):Tot (CX X) λy=>aB 0 S (.pr Jz JF) y/\(0<=y.2.2.1/\y.2.2.1<=J0 y.2.1):=by unfold CX;exact .bind (tD (B:=0) (S:=S) ⟨aH 1,h.z⟩ om om) λk g=>have:=J3.1 g.1.c.1;have:=J3.1 g.1.1;have:0<=k.2.2.1/\k.2.2.1<=J0 k.2.1/\0<=k.1/\k.1<=255:=⟨g.2.1,g.c.1,(g.d.1 (show(1:Int)<=4 by decide)).1,g.e rfl⟩;.nef (λq=>.eq (λo=>.some ⟨⟨⟨trivial,J9⟩,g.1.2⟩,om⟩) λo=>.gt (λr=>.some ⟨⟨⟨trivial,J9⟩,g.1.2.1,g.1.c.1,aH 4⟩,om⟩) λr=>.bind (A6 (B:=0) (S:=S) (g.1) om om om om) λn j=>have:0<=n.2.2.1/\n.2.2.1<=J0 n.2.1:=j.2;.some ⟨⟨⟨trivial,j.1.1⟩,j.1.2⟩,om⟩) λq=>.some ⟨⟨⟨trivial,J9⟩,g.1.2⟩,om⟩
theorem Tg{B S:Int}{X:List UInt8}(h:aB B S .s X)(W:BS B S 0 0:=by omega)(Y:S<=9223372036854775807:=by omega):Tot (CC X) λy=>aB 0 8192 (.pr J7 zI) y:=by unfold CC;exact have:=Jc (l:=X);.bind (tD (B:=0) (S:=S) ⟨aH 8,h.z,aQ⟩ om om) λO h1=>have:=J3.1 h1.1.c.1;.bind (tD (B:=0) (S:=S) ⟨aH 1,h1.1.2⟩ om om) λI F=>have:=J3.1 F.1.c.1;.bind (tD (B:=0) (S:=S) ⟨aH 4,F.1.2⟩ om om) λN k=>have:=J3.1 k.1.c.1;.bind (tD (B:=0) (S:=S) ⟨aH 8,k.1.2⟩ om om) λK q=>have:=J3.1 q.1.c.1;.bind (tD (B:=0) (S:=S) ⟨aH 8,q.1.2⟩ om om) λL n=>have:=J3.1 n.1.c.1;.bind (tD (B:=0) (S:=S) ⟨aH 8,n.1.2⟩ om om) λH o=>have:=J3.1 o.1.c.1;.bind (tD (B:=0) (S:=S) ⟨aH 4,o.1.2⟩ om om) λJ j=>have:=J3.1 j.1.c.1;.bind (tD (B:=0) (S:=S) ⟨aH 1,j.1.2⟩ om om) λM v=>have:=J3.1 v.1.c.1;.bind (A3 v.1.2 om om) λA r=>have:=J3.1 r.1.c.1;.bind (A3 r.1.2 om om) λE w=>have:=J3.1 w.1.c.1;.bind (tD (B:=0) (S:=S) ⟨aH 4,w.1.2⟩ om om) λg e=>have:=J3.1 e.1.c.1;have:=J3.1 e.1.1;have:0<=g.2.2.1/\g.2.2.1<=J0 g.2.1/\0<=g.1/\g.1<=4294967295:=⟨e.2.1,e.c.1,e.d.1 (show(4:Int)<=4 by decide)⟩;.bind (A6 (B:=0) (S:=S) (e.1) om om om om) λC D=>.ne (λP=>.some ⟨⟨aC,aC,aC,aC,aC,aC,⟨aC,aC,⟨trivial,J9⟩,trivial,J9⟩,J9⟩,D.1.d⟩) λP=>.ne (λT=>.some ⟨⟨aC,aC,aC,aC,aC,aC,⟨aC,aC,⟨trivial,J9⟩,trivial,J9⟩,J9⟩,aH 4⟩) λT=>.bind ((yA (B:=0) (S:=S) (X:=(O.1,I.1,N.1,K.1,L.1,H.1,(J.1,M.1,A.1,E.1),C.1)) ⟨h1.1.1,F.1.1,k.1.1,q.1.1,n.1.1,o.1.1,⟨j.1.1,v.1.1,r.1.1,w.1.1⟩,D.1.1⟩).eqn) λV R=>.not (λG=>.some ⟨⟨aC,aC,aC,aC,aC,aC,⟨aC,aC,⟨trivial,J9⟩,trivial,J9⟩,J9⟩,aH 12⟩) λG=>have U:=sR (x:=(O.1,I.1,N.1,K.1,L.1,H.1,(J.1,M.1,A.1,E.1),C.1)) ⟨h1.1.1,F.1.1,k.1.1,q.1.1,n.1.1,o.1.1,⟨j.1.1,v.1.1,r.1.1,w.1.1⟩,D.1.1⟩ R.2 G;have Q:aB 0 8192 J7 (O.1,I.1,N.1,K.1,L.1,H.1,(J.1,M.1,A.1,E.1),C.1):=U.2;.some ⟨Q,aC⟩
theorem My{B S:Int}{X:List UInt8}(h:aB B S .s X)(V:BS B S 0 0:=by omega)(hS:S<=9223372036854775807:=by omega):Tot (xS X) λy=>aB 4096 8192 oW y:=by unfold xS;exact have s0:aB 0 S .s X:=h;.bind (Ad (B:=0) (S:=S) ⟨s0,aC⟩) λo h1=>have:=J3.1 h1.1.2.1;have:o.2.2=0->0<=o.2.1/\o.2.1<=J0 X/\J0 o.1<=8392:=h1.2;.nef (λO=>.nef (λG=>.bind (zW h1.1.1) λZ U=>.ite (λF=>.some ⟨aQ,aH 4⟩) λF=>.bind ((iG (B:=0) (S:=S) (X:=(o.1,4,8)) ⟨h1.1.1,aH 4,aH 8⟩).eqn) λH j=>.ltf (λM=>.gt (λL=>.some ⟨aQ,aH 4⟩) λL=>Ju (τ:=Int×(List J2)×Int) (λq=>(X,q.1,[],0,0,q.2.1,[],H.1,q.2.2)) (λq=>aB 0 0 zI q.1/\aB 4096 8192 (.l J7) q.2.1/\aB 0 0 zI q.2.2/\(J0 q.2.1<=4096)/\(0<=q.1)/\(q.1<=J0 X)) (λq=>4096-J0 q.2.1) (by rintro⟨Q,g,P⟩ z;dsimp only at z;obtain⟨K,e,n,Y,T,W⟩:=z;unfold jz;(try dsimp only);exact have:=Jc (l:=g);have:J0 g=_:=JD e;.lt (λC=>.bind (Ad (B:=0) (S:=S) ⟨s0,K⟩) λr k=>have:=J3.1 k.1.2.1;have:r.2.2=0->0<=r.2.1/\r.2.1<=J0 X/\J0 r.1<=8392:=k.2;.ne (λD=>.some ⟨⟨j.1.1,e,n⟩,aC⟩) λD=>.bind (Tg k.1.1) λN v=>.nef (λJ=>have:=J3.1 v.1.1;.ne (λE=>.some ⟨⟨j.1.1,e,n⟩,aC⟩) λE=>.bind (bV (B:=4097) (Bl:=4096) (Bm:=1) (S:=8192) (J0 g) 1 e (cJ (B:=1) (S:=8192) (t:=J7) oo v.1.u)) λw A=>have:J0 w=_:=JD A.1;have I:aB 4096 8192 (.l J7) w:=⟨(by omega:J0 w<=4096),λx R=>A.1.2 x R⟩;.some ⟨(r.2.1,w,N.1.1),rfl,⟨k.1.2.1,I,v.1.1,om,om,om⟩,om,om⟩) λJ=>.some ⟨⟨j.1.1,e,n⟩,aC⟩) λC=>.some ⟨⟨j.1.1,e,n⟩,aC⟩) (o.2.1,[],JL .i64 H.1 1) rfl ⟨h1.1.2.1,J8,eT,om,om,om⟩) λM=>.some ⟨aQ,aH 4⟩) λG=>.some ⟨aQ,aH 4⟩) λO=>.some ⟨aQ,aH 4⟩
theorem Hq{B S:Int}{X:DP}(h:aB B S l3 X)(g:BS B S 0 0:=by omega):Tot (ST X) λy=>aB 0 0 .b y:=by unfold ST;exact .ne (λc1=>.some trivial) λc1=>have:=J3.1 h.1.2.1.2;.ne (λe=>.some trivial) λe=>.some trivial
theorem Mv{B S:Int}{X:UY}(h:aB B S (.pr (.l J6) J6) X)(ab:BS B S 0 0:=by omega)(hB:B<=17179869183:=by omega):Tot (SU X) λy=>aB (2*B+1) S (.l J6) y/\(J0 y<=J0 X.1+1):=by unfold SU;exact have:J0 X.1=_/\_:=lF h.1;cU (J0 X.1) (λq=>(X.1,q,X.2)) λa3 i4 w5 z6=>.lt (λO=>.bind (Jh h.1) λy3 N=>.bind (Hq (B:=0) (S:=0) ⟨N.1,h.2⟩) λy4 a4=>.ite (λL=>.some ⟨O,rfl⟩) λL=>.inr (.lt (λa2=>.bind (Jh h.1) λy5 a5=>.ite (λD=>have a9:=eB.1 D;.some ⟨h.1.u,om⟩) λD=>.bind (rP h.1) λF e=>.clo e.1 oo (by decide) (have:J0 F<=B:=e.1.1;have:J0 F=_:=JD e.1;.bind (bV (B:=(B+1)) (Bl:=B) (Bm:=1) (S:=S) (J0 F) 1 e.1 ((cJ (B:=1) (S:=0) (t:=J6) oo h.2).u)) λR E=>.bind (qI h.1) λG k=>have:J0 R=_:=JD E.1;have:J0 G<=B:=k.1.1;have:J0 G=_:=JD k.1;.bind (bV (B:=(2*B+1)) (Bl:=(B+1)) (Bm:=B) (S:=S) (J0 R) (J0 G) E.1 k.1) λJ r=>have:J0 J=_:=JD r.1;.some ⟨r.1,om⟩)) λa2=>.bind (rP h.1) λa1 z=>.clo z.1 oo (by decide) (.bind (bV (B:=(B+1)) (Bl:=B) (Bm:=1) (S:=S) (J0 a1) 1 z.1 ((cJ (B:=1) (S:=0) (t:=J6) oo h.2).u)) λK a0=>.bind (qI h.1) λW Y=>.bind (bV (B:=(2*B+1)) (Bl:=(B+1)) (Bm:=B) (S:=S) (J0 K) (J0 W) a0.1 Y.1) λa7 V=>.some ⟨V.1,om⟩))) λO=>.inr (.lt (λM=>.bind (Jh h.1) λaa a8=>.ite (λw=>have ac:=eB.1 w;.some ⟨h.1.u,om⟩) λw=>.bind (rP h.1) λQ A=>.clo A.1 oo (by decide) (.bind (bV (B:=(B+1)) (Bl:=B) (Bm:=1) (S:=S) (J0 Q) 1 A.1 ((cJ (B:=1) (S:=0) (t:=J6) oo h.2).u)) λU Z=>.bind (qI h.1) λT H=>.bind (bV (B:=(2*B+1)) (Bl:=(B+1)) (Bm:=B) (S:=S) (J0 U) (J0 T) Z.1 H.1) λa6 I=>.some ⟨I.1,om⟩)) λM=>.bind (rP h.1) λn g=>.clo g.1 oo (by decide) (have:J0 n<=B:=g.1.1;have:J0 n=_:=JD g.1;.bind (bV (B:=(B+1)) (Bl:=B) (Bm:=1) (S:=S) (J0 n) 1 g.1 ((cJ (B:=1) (S:=0) (t:=J6) oo h.2).u)) λo C=>.bind (qI h.1) λj x=>have:J0 o=_:=JD C.1;have:=Jc (l:=j);have:J0 j=_:=JD x.1;.bind (bV (B:=(2*B+1)) (Bl:=(B+1)) (Bm:=B) (S:=S) (J0 o) (J0 j) C.1 x.1) λP v=>have:J0 P=_:=JD v.1;.some ⟨v.1,om⟩))
section
variable {B S:Int}
theorem Py{X:aD×List Jo}(h:aB B S (.pr JE (.l Jk)) X)(M:BH B S:=by omega)(D:B<=20000:=by omega):Tot (WB X) λy=>aB 400000001 0 (.pr (.l J6) zI) y:=by
 obtain⟨l,e⟩:=X;obtain⟨K,w⟩:=h;unfold WB;dsimp only;have:J0 e<=20000:=pC w.1 D;have F:=Jc (l:=e);refine Ju (τ:=II) (λq=>(e,q.1,q.2,l)) (λq=>0<=q.2/\q.2<=J0 e/\aB 400000001 0 (.l J6) q.1/\J0 q.1<=20000*q.2) (λq=>J0 e-q.2) ?_ ([],0) rfl ⟨aU _,F,J8,by show(0:Int)<=20000*0;omega⟩;rintro⟨out,i⟩ ⟨h0,h1,h2,h3⟩;dsimp only at h0 h1 h2 h3;unfold yw;dsimp only;have N:=Ji i 1;refine .lt (λc=>?_) λc=>.some ⟨h2,aC⟩;have n:i.toNat<e.length:=by unfold J0 at c;omega
 have z:idx e i=some e[i.toNat]:=by unfold idx;rw[if_pos h0,zQ9 n]
 have v:=w.2 _ (lK n);generalize e[i.toNat]=t at z v;have:J0 t.2.2.2.2.1<=20000:=pC v.2.2.2.2.1.1 D;refine Ju (τ:=II) (λq=>(e,q.1,i,q.2,l)) (λq=>0<=q.2/\q.2<=J0 t.2.2.2.2.1/\aB 400000001 0 (.l J6) q.1/\J0 q.1<=20000*i+q.2) (λq=>J0 t.2.2.2.2.1-q.2) ?_ (out,0) rfl ⟨aU _,Jc,h2,by show J0 out<=20000*i+0;omega⟩;rintro⟨out,k⟩ ⟨x,J,r,I⟩;dsimp only at x J r I;unfold zo;dsimp only;rw[z];have O:=Ji k 1;show Tot (if aM k (J0 t.2.2.2.2.1)=true then _ else _) _;refine .lt (λA=>?_) λA=>.some ⟨(out,J1 .i64 i 1),rfl,⟨by show 0<=J1 .i64 i 1;omega,by show J1 .i64 i 1<=J0 e;omega,r,by show J0 out<=20000*J1 .i64 i 1;omega⟩,by show J0 e-J1 .i64 i 1<J0 e-i;omega,oo⟩;show Tot ((idx t.2.2.2.2.1 k).bind _) _;refine .bind (Jh v.2.2.2.2.1 x A) λG H=>.bind (uQ (X:=(l,G)) ⟨K,H.1⟩) λg o=>.ne (λ_=>.inr (.some ⟨J8,aH 14⟩)) λ_=>.nef (λ_=>?_) λ_=>.inr (.some ⟨J8,aH 13⟩);show Tot (if aO g.1.2.2.1 t.1=true then _ else _) _;refine .ne (λ_=>.inr (.some ⟨J8,aH 13⟩)) λ_=>?_;have E:aB 0 0 J6 (g.1.2.2.1,(g.1.2.2.2.2.2.2.1.1,g.1.2.2.2.2.2.2.1.2.1),2):=⟨o.1.2.2.1,⟨o.1.2.2.2.2.2.2.1.1,o.1.2.2.2.2.2.2.1.2.1⟩,aH 2⟩;have:=Jc (l:=out);refine .bind (Mv (B:=J0 out) (S:=0) (X:=(out,g.1.2.2.1,(g.1.2.2.2.2.2.2.1.1,g.1.2.2.2.2.2.2.1.2.1),2)) ⟨⟨aU _,r.2⟩,E⟩) λj C=>?_;have L:J0 j<=J0 out+1:=C.2;exact .some ⟨(j,J1 .i64 k 1),rfl,⟨by show 0<=J1 .i64 k 1;omega,by show J1 .i64 k 1<=J0 t.2.2.2.2.1;omega,⟨by show J0 j<=400000001;omega,C.1.2⟩,by show J0 j<=20000*i+J1 .i64 k 1;omega⟩,by show J0 t.2.2.2.2.1-J1 .i64 k 1<J0 t.2.2.2.2.1-k;omega,oo⟩
end
theorem S4{B S:Int}{X:List UInt8}(h:aB B S .s X)(O:BS B S 0 0:=by omega)(U:S<=9223372036854775807:=by omega):Tot (CD X) λy=>aB 64 0 UI y:=by unfold CD;exact have s0:aB 0 S .s X:=h;.bind ((iG (B:=0) (S:=S) (X:=(X,0,2)) ⟨s0,aC,aH 2⟩).eqn) λg h1=>.nef (λF=>have K:=GF (x:=(X,0,2)) ⟨s0,aC,aH 2⟩ h1.2 F;have:=J3.1 h1.1.1;have:1<=(2:Int)/\(2:Int)<=8/\0<=(0:Int)/\(0:Int)<=J0 X/\(2:Int)<=J0 X-(0:Int)/\((2:Int)<=4->0<=g.1/\g.1<=4294967295)/\((2:Int)=1->g.1<=255)/\((2:Int)=2->g.1<=65535):=K.1;have:=ll 24 g.1;.lt (λJ=>.some ⟨J8,aH 5⟩) λJ=>.gt (λv=>.some ⟨J8,aH 4⟩) λv=>Ju (τ:=wF) (λq=>(X,g.1,q.1,[],q.2)) (λq=>(aB 0 0 zI q.1/\0<=q.1/\(q.1<=g.1\/q.1<=0))/\(aB 65535 0 (.l Jb) q.2/\J0 q.2<=1*q.1+0)) (λq=>g.1-q.1) (by rintro⟨e,j⟩ n;dsimp only at n;obtain⟨⟨D,N,M⟩,k,L⟩:=n;unfold nx;(try dsimp only);exact have:=J3.1 D;.lt (λI=>.bind ((iG (B:=0) (S:=S) (X:=(X,J1 .i64 2 (cV .i64 24 e),8)) ⟨s0,Jl,aH 8⟩).eqn) λT G=>.bind ((iG (B:=0) (S:=S) (X:=(X,J1 .i64 10 (cV .i64 24 e),8)) ⟨s0,Jl,aH 8⟩).eqn) λQ E=>.bind ((iG (B:=0) (S:=S) (X:=(X,J1 .i64 18 (cV .i64 24 e),8)) ⟨s0,Jl,aH 8⟩).eqn) λR z=>have:J0 j=_/\_:=lF k;.bind (bV (B:=65535) (Bl:=65535) (Bm:=1) (S:=0) (J0 j) 1 k (cJ (B:=1) (S:=0) (t:=Jb) oo ⟨G.1.1,E.1.1,z.1.1⟩)) λw r=>have:=Ji e 1;have:J0 w=_:=JD r.1;.some ⟨(J1 .i64 e 1,w),rfl,⟨⟨Jl,om,om⟩,r.1,om⟩,om,om⟩) λI=>.inr (.bind ((GM k).eqn) λP C=>.not (λo=>.some ⟨J8,aH 28⟩) λo=>have A:=BX k C.2 o;have H:aB 64 0 (.l Jb) j:=A.2;.some ⟨H,aC⟩)) (0,[]) rfl (have:J0 ([]:List aA)=0:=rfl;⟨⟨aC,om,om⟩,J8,om⟩)) λF=>.some ⟨J8,aH 5⟩
theorem CT{B S:Int}{X:IH}(h:aB B S HP X)(p0:0<=X.2.2.1)(q:X.2.2.1<=J0 X.2.1)(o:BS B S 0 0:=by omega)(r:S<=9223372036854775807:=by omega):Tot (tE X) λy=>aB 0 S HP y/\(0<=y.2.2.1/\y.2.2.1<=J0 y.2.1/\(X.1<=4->0<=y.1/\y.1<=4294967295)/\(X.1=1->y.1<=255)/\(X.1=2->y.1<=65535)):=by unfold tE;exact have s0:aB 0 S HP X:=h;have:=J3.1 s0.2.2.1;have:J0 X.2.1<=S:=s0.2.1;.bind ((iG (B:=0) (S:=S) (X:=(X.2.1,X.2.2.1,X.1)) ⟨s0.2.1,s0.2.2.1,s0.1⟩).eqn) λe g=>.itf (λk=>have:=J3.1 g.1.2;.ne (λj=>have:=J3.1 s0.1;.some ⟨⟨aC,s0.2.1,s0.2.2.1,trivial⟩,om⟩) λj=>have n:=GF (x:=(X.2.1,X.2.2.1,X.1)) ⟨s0.2.1,s0.2.2.1,s0.1⟩ g.2 j;have:=J3.1 s0.1;have:=J3.1 g.1.1;have:1<=X.1/\X.1<=8/\0<=X.2.2.1/\X.2.2.1<=J0 X.2.1/\X.1<=J0 X.2.1-X.2.2.1/\(X.1<=4->0<=e.1/\e.1<=4294967295)/\(X.1=1->e.1<=255)/\(X.1=2->e.1<=65535):=n.1;have:=Ji X.2.2.1 X.1;.some ⟨⟨g.1.1,s0.2.1,Jl,trivial⟩,om⟩) λk=>have:=J3.1 s0.1;.some ⟨⟨aC,s0.2.1,s0.2.2.1,trivial⟩,om⟩
theorem A5{B S:Int}{X:IH}(h:aB B S HP X)(p0:1<=X.1)(Q:X.1<=2)(P:0<=X.2.2.1)(O:X.2.2.1<=J0 X.2.1)(M:BS B S 0 0:=by omega)(R:S<=9223372036854775807:=by omega):Tot (NS X) λy=>aB 65535 S (.pr (.l zI) nN) y/\(0<=y.2.2.1/\y.2.2.1<=J0 y.2.1):=by unfold NS;exact have s0:aB 0 S HP X:=h;.bind (CT (B:=0) (S:=S) (s0) om om) λe r=>have:=J3.1 r.1.c.1;have:=J3.1 r.1.1;have:0<=e.2.2.1/\e.2.2.1<=J0 e.2.1/\(X.1<=4->0<=e.1/\e.1<=4294967295)/\(X.1=1->e.1<=255)/\(X.1=2->e.1<=65535):=r.2;Ju (τ:=li) (λq=>(q.1,q.2.1,q.2.2)) (λq=>aB 0 0 zI q.1/\aB 0 S nN q.2.1/\aB 65535 0 (.l zI) q.2.2/\(J0 q.2.2+q.1<=65535)/\(0<=q.1)/\(J0 q.2.2<=65535)/\(0<=q.2.1.2.1)/\(q.2.1.2.1<=J0 q.2.1.1)) (λq=>q.1) (by rintro⟨o,F,n⟩ v;dsimp only at v;obtain⟨E,g,k,L,K,N,I,J⟩:=v;unfold E7;(try dsimp only);exact have:=Jc (l:=n);have:=J3.1 E;have:=J3.1 g.2.1;.gt (λA=>.not (λC=>.bind (CT (B:=0) (S:=S) ⟨aH 8,g⟩ om om) λG j=>have:=J3.1 j.1.c.1;.bind (bV (B:=65536) (Bl:=65535) (Bm:=1) (S:=0) (J0 n) 1 k (cJ (B:=1) (S:=0) (t:=zI) oo j.1.1)) λw D=>have z:aB 65535 0 (.l zI) w:=⟨(by omega:J0 w<=65535),λx H=>D.1.2 x H⟩;have:=bC o 1;.some ⟨(JL .i64 o 1,G.2,w),rfl,⟨eT,j.1.2,z,om,om,om,om,om⟩,om,om⟩) λC=>.some ⟨⟨k.u,g.u⟩,om⟩) λA=>.some ⟨⟨k.u,g.u⟩,om⟩) (e.1,e.2,[]) rfl ⟨r.1.1,r.1.2,J8,om,om,om,om,om⟩
theorem U3{B S:Int}{X:List UInt8}(h:aB B S .s X)(a3:BS B S 0 0:=by omega)(hS:S<=9223372036854775807:=by omega):Tot (WK X) λy=>aB 4096 0 jI y:=by unfold WK;exact have:=Jc (l:=X);.bind (CT (B:=0) (S:=S) ⟨aH 2,h.z,aC,trivial⟩ om om) λk h1=>have:=J3.1 h1.1.c.1;have:=J3.1 h1.1.1;have:0<=k.2.2.1/\k.2.2.1<=J0 k.2.1/\0<=k.1/\k.1<=65535:=⟨h1.2.1,h1.c.1,(h1.d.1 (show(2:Int)<=4 by decide)).1,h1.g rfl⟩;Ju (τ:=Int×GZ×(List Jo)) (λq=>(X,q.1,q.2.1,q.2.2)) (λq=>aB 0 0 zI q.1/\aB 0 S nN q.2.1/\aB 65535 S (.l Jk) q.2.2/\(J0 q.2.2+q.1<=65535)/\(J0 q.2.2<=65535)/\(0<=q.2.1.2.1)/\(q.2.1.2.1<=J0 q.2.1.1)/\(0<=q.1)) (λq=>q.1) (by rintro⟨n,V,e⟩ E;dsimp only at E;obtain⟨W,K,j,a1,Z,a2,a0,a5⟩:=E;unfold Ar;(try dsimp only);exact have:=Jc (l:=e);have:J0 e=_:=JD j;have:=J3.1 W;.gt (λN=>.not (λI=>.bind (CT (B:=0) (S:=S) ⟨aH 4,K⟩ om om) λy4 v=>have:=J3.1 v.1.c.1;.bind (CT (B:=0) (S:=S) ⟨aH 1,v.1.2⟩ om om) λy5 w=>have:=J3.1 w.1.c.1;.bind (CT (B:=0) (S:=S) ⟨aH 8,w.1.2⟩ om om) λy6 x=>have:=J3.1 x.1.c.1;.bind (CT (B:=0) (S:=S) ⟨aH 8,x.1.2⟩ om om) λy7 o=>have:=J3.1 o.1.c.1;.bind (A5 (B:=0) (S:=S) ⟨aH 2,o.1.2⟩ om om om om) λy8 r=>have:=J3.1 r.1.2.z.2.1;.bind (A5 (B:=0) (S:=S) ⟨aH 1,r.1.2.z⟩ om om om om) λY A=>have:=J3.1 A.1.2.z.2.1;.bind (bV (B:=65535) (Bl:=65535) (Bm:=65535) (S:=S) (J0 e) 1 j (cJ (B:=65535) (S:=S) (t:=Jk) oo ⟨v.1.1,w.1.1,x.1.1,o.1.1,r.1.1,A.1.1⟩)) λD C=>have:J0 D=_/\_:=lF C.1;have:=bC n 1;.some ⟨(JL .i64 n 1,Y.2,D),rfl,⟨eT,A.1.2.z,C.1,om,om,om,om,om⟩,om,om⟩) λI=>.inr (.ite (λR=>.some ⟨J8,aH 5⟩) λR=>.ne (λM=>.some ⟨J8,aH 4⟩) λM=>.bind ((xY j).eqn) λa6 T=>.not (λF=>.some ⟨J8,aH 15⟩) λF=>have O:=sS j T.2 F;have Q:aB 4096 0 (.l Jk) e:=O.2;.some ⟨Q,aC⟩)) λN=>.inr (.ite (λP=>.some ⟨J8,aH 5⟩) λP=>.ne (λJ=>.some ⟨J8,aH 4⟩) λJ=>.bind ((xY j).eqn) λa4 U=>.not (λG=>.some ⟨J8,aH 15⟩) λG=>have L:=sS j U.2 G;have H:aB 4096 0 (.l Jk) e:=L.2;.some ⟨H,aC⟩)) (k.1,k.2,[]) rfl ⟨h1.1.1,h1.1.2,J8,om,om,om,om,om⟩
theorem Sz{B S:Int}{X:List UInt8}(h:aB B S .s X)(ae:BH B S:=by omega)(hS:S<=9223372036854775807:=by omega):Tot (vH X) λy=>aB 4096 0 (.pr nH zI) y:=by unfold vH;exact have s0:aB 0 S .s X:=h;.bind ((iG (B:=0) (S:=S) (X:=(X,0,2)) ⟨s0,aC,aH 2⟩).eqn) λy2 h1=>.bind ((iG (B:=0) (S:=S) (X:=(X,2,4)) ⟨s0,aH 2,aH 4⟩).eqn) λJ h2=>.bind ((iG (B:=0) (S:=S) (X:=(X,6,4)) ⟨s0,aH 6,aH 4⟩).eqn) λe h3=>.nef (λN=>have v6:=GF (x:=(X,6,4)) ⟨s0,aH 6,aH 4⟩ h3.2 N;have:J0 X<=S:=s0;have:=J3.1 h3.1.1;have:1<=(4:Int)/\(4:Int)<=8/\0<=(6:Int)/\(6:Int)<=J0 X/\(4:Int)<=J0 X-(6:Int)/\((4:Int)<=4->0<=e.1/\e.1<=4294967295)/\((4:Int)=1->e.1<=255)/\((4:Int)=2->e.1<=65535):=v6.1;have:=zA (J0 X) 10;.gt (λK=>.some ⟨aQ,aH 5⟩) λK=>have:=nP 10 e.1;.bind (MF s0) λM F=>have L:aB 0 S .s M:=F.1;.bind ((iG (B:=0) (S:=S) (X:=(X,J1 .i64 10 e.1,1)) ⟨s0,Jl,aH 1⟩).eqn) λk A=>.nef (λz=>have a4:=GF (x:=(X,J1 .i64 10 e.1,1)) ⟨s0,Jl,aH 1⟩ A.2 z;have:=J3.1 A.1.1;have:1<=(1:Int)/\(1:Int)<=8/\0<=(J1 .i64 10 e.1)/\(J1 .i64 10 e.1)<=J0 X/\(1:Int)<=J0 X-(J1 .i64 10 e.1)/\((1:Int)<=4->0<=k.1/\k.1<=4294967295)/\((1:Int)=1->k.1<=255)/\((1:Int)=2->k.1<=65535):=a4.1;have:=zA (J0 X) (J1 .i64 10 e.1);have:=zA (JL .i64 (J0 X) (J1 .i64 10 e.1)) 1;have:=ll 17 k.1;.lt (λW=>.some ⟨aQ,aH 5⟩) λW=>Ju (τ:=Int×Int×(List aA)) (λq=>(X,M,q.1,k.1,q.2.1,[],0,0,[],[],q.2.2,y2.1,J.1,[],[])) (λq=>aB 0 0 zI q.1/\aB 0 0 zI q.2.1/\aB 255 0 (.l Jb) q.2.2/\(0<=q.2.1)/\(q.2.1<=k.1)/\(q.1+17*(k.1-q.2.1)<=J0 X)/\(0<=q.1)/\(J0 q.2.2<=q.2.1)) (λq=>k.1-q.2.1) (by rintro⟨g,r,j⟩ E;dsimp only at E;obtain⟨C,H,n,aa,af,ad,ac,a9⟩:=E;unfold nr;(try dsimp only);exact have:=J3.1 H;have:=J3.1 C;have:J0 j=_/\_:=lF n;.lt (λG=>.bind ((iG (B:=0) (S:=S) (X:=(X,g,1)) ⟨s0,C,aH 1⟩).eqn) λy8 Y=>.bind ((iG (B:=0) (S:=S) (X:=(X,J1 .i64 g 1,8)) ⟨s0,Jl,aH 8⟩).eqn) λy9 Q=>.bind ((iG (B:=0) (S:=S) (X:=(X,J1 .i64 g 9,8)) ⟨s0,Jl,aH 8⟩).eqn) λa7 U=>.bind (bV (B:=256) (Bl:=255) (Bm:=1) (S:=0) (J0 j) 1 n (cJ (B:=1) (S:=0) (t:=Jb) oo ⟨Y.1.1,Q.1.1,U.1.1⟩)) λo D=>have:J0 o=_:=JD D.1;have a1:aB 255 0 (.l Jb) o:=⟨(by omega:J0 o<=255),λx hx=>D.1.2 x hx⟩;have:=nP r 1;have:=nP g 17;.some ⟨(J1 .i64 g 17,J1 .i64 r 1,o),rfl,⟨Jl,Jl,a1,om,om,om,om,om⟩,om,om⟩) λG=>.inr (.bind (U3 L) λV w=>.ne (λR=>.some ⟨aQ,w.2⟩) λR=>.bind (rf s0) λI O=>have P:aB 0 S .s I:=O.1;.bind (S4 P) λT v=>.ne (λZ=>.some ⟨aQ,v.2⟩) λZ=>have a0:aB 16384 1073741824 nH (y2.1,J.1,V.1,j,T.1):=⟨h1.1.1,h2.1.1,w.1.u,n.u,v.1.u⟩;.bind (xm a0) λab a8=>.not (λa2=>.some ⟨aQ,aH 24⟩) λa2=>.some ⟨⟨h1.1.1,h2.1.1,w.1,n.u,v.1.u⟩,aC⟩)) (J1 .i64 (J1 .i64 10 e.1) 1,0,[]) rfl (have:=nP (J1 .i64 10 e.1) 1;⟨Jl,aC,J8,om,om,om,om,om⟩)) λz=>.some ⟨aQ,aH 5⟩) λN=>.some ⟨aQ,aH 5⟩
theorem Sq{B S:Int}{X:aD}(h:aB B S JE X)(G:BG B S:=by omega):Tot (CF X) λy=>aB 4096 0 (.pr nH (.pr zI .b)) y:=by unfold CF;exact .bind ((nE h).eqn) λK h1=>.not (λr=>.some ⟨aQ,aC,trivial⟩) λr=>have D:=nC h h1.2 r;have:=Jc (l:=X.2.1);have:J0 X.2.1=_:=JD h.2.1;have g:aB 4096 8192 JE X:=D.2;have:=bC (J0 X.2.1) 1;Ju (τ:=Int) (λq=>(q,X,0,0,[],[],[])) (λq=>(aB 0 0 zI q/\q<=JL .i64 (J0 X.2.1) 1)) (λq=>q-0) (by rintro e ⟨x,F⟩;exact have:=J3.1 x;.ge (λn=>.bind (Jh g.2.1) λJ E=>.ne (λk=>have:=bC e 1;.some ⟨JL .i64 e 1,rfl,⟨eT,om⟩,om,om⟩) λk=>.bind (Jh g.2.1) λC o=>have A:aB 16384 1073741824 .s C.2.2.2.2.2.2.2:=o.1.z.2.2.2.2.2.2.2.u;.bind (Sz A) λI j=>.eq (λv=>.bind (Jh g.2.1) λH w=>.some ⟨j.1,w.1.z.1,trivial⟩) λv=>have:=bC e 1;.some ⟨JL .i64 e 1,rfl,⟨eT,om⟩,om,om⟩) λn=>.some ⟨aQ,aC,trivial⟩) (JL .i64 (J0 X.2.1) 1) rfl ⟨eT,om⟩
theorem Q5{B S:Int}{X:gV}(h:aB B S oW X)(n:BG B S:=by omega):Tot (CN X) λy=>aB 4096 0 HY y:=by unfold CN;exact .bind (Sq h.1) λq h1=>.not (λe=>have:=J3.1 h.1.1;.gt (λj=>.some ⟨aQ,aH 24⟩) λj=>.bind (wd h.2) λo k=>.some ⟨⟨h.2,aH 1,aC,J8,J8,J8,k.1.u⟩,aC⟩) λe=>have:=J3.1 h1.1.1;.ne (λg=>.some ⟨aQ,aH 24⟩) λg=>.some ⟨⟨h.2,h1.1.2.1,h1.2.1,h1.1.c.1,J8,h1.1.d⟩,aC⟩
section
variable {B S:Int}
theorem Ai{un:List aA}{n:J2}(h:aB B S (.l Jb) un)(hn:aB B S J7 n)(R:BS B S 0 0:=by omega)(V:B<=17179869183:=by omega):Tot (Jd jp (un,false,0,n,[])) λy=>aB (B+1) S (.l Jb) y/\J0 y<=J0 un+1:=by
 have L:J0 un<=B:=h.1;have H:=Jc (l:=un);refine Ju (τ:=Bool×Int×List aA) (λq=>(un,q.1,q.2.1,n,q.2.2)) (λq=>0<=q.2.1/\q.2.1<=J0 un/\aB (B+1) S (.l Jb) q.2.2/\J0 q.2.2<=q.2.1+1/\(q.1=false->J0 q.2.2<=q.2.1)) (λq=>J0 un-q.2.1) ?_ (false,0,[]) rfl ⟨aU _,H,J8,by show(0:Int)<=0+1;omega,λ_=>aU _⟩;rintro⟨done,i,out⟩ ⟨h0,h1,h2,h3,o⟩;dsimp only at h0 h1 h2 h3 o;unfold jp;dsimp only;have:=Ji i 1;have app: ∀{x:aA} {l:List aA},aB (B+1) S (.l Jb) l->aB (B+1) S Jb x->J0 l+1<=B+1->Tot (JM 24 l [x]) λr=>aB (B+1) S (.l Jb) r/\J0 r=J0 l+1:=λL O J=>
  (bV (B:=B+1) (Bl:=B+1) (Bm:=B+1) (S:=S) _ 1 L (cJ oo O) rfl rfl (aU _) (aU _) J oo (by decide)).mono λ_ h=>⟨h.1,h.2.1⟩
 have v:aB (B+1) S Jb (n.2.2.2.2.2.2.1.1,n.1,n.1):=⟨hn.2.2.2.2.2.2.1.1,hn.1,hn.1⟩;have C:Tot (JC n) λ_=>True:=(vL hn).mono λ_ _=>trivial;have w: ∀{d:Bool} {l:List aA},i<J0 un->aB (B+1) S (.l Jb) l->J0 l<=i+2->(d=false->J0 l<=i+1)->(∃c':Bool×Int×List aA,(un,d,J1 .i64 i 1,n,l)=(un,c'.1,c'.2.1,n,c'.2.2)/\(0<=c'.2.1/\c'.2.1<=J0 un/\aB (B+1) S (.l Jb) c'.2.2/\J0 c'.2.2<=c'.2.1+1/\(c'.1=false->J0 c'.2.2<=c'.2.1))/\J0 un-c'.2.1<J0 un-i/\0<=J0 un-i):=fun{d l} Y Q W N=>
  ⟨(d,J1 .i64 i 1,l),rfl,⟨by show 0<=J1 .i64 i 1;omega,by show J1 .i64 i 1<=_;omega,Q,by show J0 l<=J1 .i64 i 1+1;omega,λe=>by show J0 l<=J1 .i64 i 1;have:=N e;omega⟩,by show J0 un-J1 .i64 i 1<J0 un-i;omega,oo⟩
 refine .lt (λc=>?_) λc=>Tot.map (P:=λy:List aA=>aB (B+1) S (.l Jb) y/\J0 y<=J0 un+1) ?_ λ_ h=>h
 ·have M:Tot (idx un i) λr=>aB (B+1) S Jb r:=(Jh h h0 c).mono λ_ h=>h.1.u;refine .bind M λg k=>?_
  have body: ∀{d:Bool} {l:List aA},aB (B+1) S (.l Jb) l->J0 l<=i+1->(d=false->J0 l<=i)->Tot (ρ:=(iW)⊕(List aA)) (if aK g.1 n.2.2.2.2.2.2.1.1 then
     (JC n).bind λD=>
     if D then
      (JM 24 l [(g.1,g.2.1,n.1)]).bind λG=>
      some (.inl (un,true,J1 .i64 i 1,n,G))
     else
      if aR n.2.2.2.2.2.1 g.2.2 then
       some (.inl (un,true,J1 .i64 i 1,n,l))
      else
       if aR n.2.2.2.2.2.1 g.2.1 then
        (JM 24 l [(g.1,J1 .i64 n.2.2.2.2.2.1 1,g.2.2)]).bind λA=>
        some (.inl (un,true,J1 .i64 i 1,n,A))
       else
        (JM 24 l [g]).bind λF=>
        some (.inl (un,true,J1 .i64 i 1,n,F))
    else
     (JM 24 l [g]).bind λK=>
     some (.inl (un,d,J1 .i64 i 1,n,K))) λr=>match r with| .inl z=> ∃c':Bool×Int×List aA,z=(un,c'.1,c'.2.1,n,c'.2.2)/\(0<=c'.2.1/\c'.2.1<=J0 un/\aB (B+1) S (.l Jb) c'.2.2/\J0 c'.2.2<=c'.2.1+1/\(c'.1=false->J0 c'.2.2<=c'.2.1))/\J0 un-c'.2.1<J0 un-i/\0<=J0 un-i| .inr y=>aB (B+1) S (.l Jb) y/\J0 y<=J0 un+1:=fun{d l} b1 b2 b3=>
   .eq (λ_=>.bind C λD _=>.ite (λ_=>.bind (app b1 ⟨k.1,k.2.1,hn.1⟩ oo) λG E=>.some (w c E.1 (by have:=E.2;omega) λe=>by cases e)) λ_=>.ge (λ_=>.some (w c b1 oo λe=>by cases e)) λ_=>.ge (λ_=>.bind (app b1 ⟨k.1,Jl,k.2.2⟩ oo) λA j=>.some (w c j.1 (by have:=j.2;omega) λe=>by cases e)) λ_=>.bind (app b1 k oo) λA j=>.some (w c j.1 (by have:=j.2;omega) λe=>by cases e)) λ_=>.bind (app b1 k oo) λA j=>.some (w c j.1 (by have:=j.2;omega) λe=>by have:=j.2;have:=b3 e;omega)
  refine .gt (λ_=>.not (λd=>.bind C λT _=>.ite (λ_=>.bind (app h2 v (by have:=o d;omega)) λU I=>?_) λ_=>?_) λd=>?_) λ_=>?_;exact(body (d:=true) I.1 (by have:=I.2;have:=o d;omega) λe=>by cases e).mono λr h=>by cases r<;>exact h
  all_goals
   exact(body (d:=done) h2 h3 o).mono λr h=>by cases r<;>exact h
 exact .not (λd=>.bind C λy _=>.ite (λ_=>.bind (app h2 v (by have:=o d;omega)) λy f=>.some ⟨f.1,by have:=f.2;have:=o d;omega⟩) λ_=>.some ⟨h2,oo⟩) λ_=>.some ⟨h2,oo⟩
theorem GJ{X:TR}(h:aB B S DO X)(e:BS B S 0 0:=by omega)(g:B<=17179869183:=by omega):Tot (lE X) λy=>aB (B+1) S (.l Jb) y/\J0 y<=J0 X.1+1:=by unfold lE;exact .bind (vL h.2) λj _=>.not (λ_=>.ne (λ_=>.some ⟨h.1.u,oo⟩) λ_=>Ai h.1 h.2) λ_=>Ai h.1 h.2
end
theorem Mk{B S:Int}{X:nL×J2}(h:aB B S (.pr vC J7) X)(p0:J0 X.1.2.2.2.2.2.1<=16000)(al:BG B S:=by omega):Tot (BO X) λy=>aB B S HY y/\(J0 y.1.2.2.2.2.2.1<=J0 X.1.2.2.2.2.2.1+1):=by unfold BO;exact have j:aB 16000 S (.l Jb) X.1.2.2.2.2.2.1:=⟨(by omega:J0 X.1.2.2.2.2.2.1<=16000),λx hx=>h.1.g.1.2 x hx⟩;.gt (λc5=>.bind ((sK (B:=B) (S:=S) (X:=(X.1.2.2.2.1,X.2.2.2.1)) ⟨h.1.d.1,h.2.z.2.2.1⟩).eqn) λy2 h7=>.lt (λa4=>.bind (yc (B:=B) (S:=S) ⟨h.1.d.1,h.2.z.2.2.1⟩) λy3 w=>.ne (λa0=>.some ⟨⟨h.1,w.2⟩,om⟩) λa0=>have a7:aB 16384 S DU (y3.1,X.2):=⟨w.1.u,h.2.z.u⟩;.bind (BD a7) λy4 k=>.ne (λa2=>.some ⟨⟨⟨h.1.1,h.1.2.1,h.1.c.1,w.1.u,h.1.e⟩,k.2⟩,om⟩) λa2=>.bind (BP (B:=B) (S:=S) ⟨h.1.h,h.2.z.u⟩) λy5 r=>.ne (λa1=>.some ⟨⟨⟨h.1.1,lY h.1.2.1 Jl,h.1.c.1,k.1.u,h.1.e⟩,r.2⟩,om⟩) λa1=>.bind (vL (B:=0) (S:=S) h.2.z) λy6 ag=>.ite (λP=>have:=J3.1 h.2.z.2.2.2.2.2.2.1.1;.ge (λQ=>.some ⟨⟨⟨h.1.1,lY h.1.2.1 Jl,h.1.c.1,k.1.u,h.1.e.1,j.u,r.1.u⟩,aH 1⟩,om⟩) λQ=>.bind (GJ (B:=16000) (S:=S) ⟨j,h.2.z.u⟩) λM G=>have Y:aB 16001 S (.l Jb) M:=G.1.u;have:J0 M<=J0 X.1.2.2.2.2.2.1+1:=G.2;.some ⟨⟨⟨h.1.1,lY h.1.2.1 Jl,h.1.c.1,k.1.u,h.1.e.1,Y.u,r.1.u⟩,aC⟩,om⟩) λP=>.bind (GJ (B:=16000) (S:=S) ⟨j,h.2.z.u⟩) λZ A=>have N:aB 16001 S (.l Jb) Z:=A.1.u;have:J0 Z<=J0 X.1.2.2.2.2.2.1+1:=A.2;.some ⟨⟨⟨h.1.1,lY h.1.2.1 Jl,h.1.c.1,k.1.u,h.1.e.1,N.u,r.1.u⟩,aC⟩,om⟩) λa4=>.bind (BD (B:=B) (S:=S) ⟨h.1.d.1,h.2.z.u⟩) λy9 n=>.ne (λa9=>.some ⟨⟨h.1,n.2⟩,om⟩) λa9=>.bind (BP (B:=B) (S:=S) ⟨h.1.h,h.2.z.u⟩) λae v=>.ne (λa6=>.some ⟨⟨⟨h.1.1,lY h.1.2.1 Jl,h.1.c.1,n.1.u,h.1.e⟩,v.2⟩,om⟩) λa6=>.bind (vL (B:=0) (S:=S) h.2.z) λak aj=>.ite (λa5=>have:=J3.1 h.2.z.2.2.2.2.2.2.1.1;.ge (λL=>.some ⟨⟨⟨h.1.1,lY h.1.2.1 Jl,h.1.c.1,n.1.u,h.1.e.1,j.u,v.1.u⟩,aH 1⟩,om⟩) λL=>.bind (GJ (B:=16000) (S:=S) ⟨j,h.2.z.u⟩) λH K=>have a3:aB 16001 S (.l Jb) H:=K.1.u;have:J0 H<=J0 X.1.2.2.2.2.2.1+1:=K.2;.some ⟨⟨⟨h.1.1,lY h.1.2.1 Jl,h.1.c.1,n.1.u,h.1.e.1,a3.u,v.1.u⟩,aC⟩,om⟩) λa5=>.bind (GJ (B:=16000) (S:=S) ⟨j,h.2.z.u⟩) λD I=>have T:aB 16001 S (.l Jb) D:=I.1.u;have:J0 D<=J0 X.1.2.2.2.2.2.1+1:=I.2;.some ⟨⟨⟨h.1.1,lY h.1.2.1 Jl,h.1.c.1,n.1.u,h.1.e.1,T.u,v.1.u⟩,aC⟩,om⟩) λc5=>.bind (BD (B:=B) (S:=S) ⟨h.1.d.1,h.2.z.u⟩) λah o=>.ne (λV=>.some ⟨⟨h.1,o.2⟩,om⟩) λV=>.bind (BP (B:=B) (S:=S) ⟨h.1.h,h.2.z.u⟩) λaf q=>.ne (λU=>.some ⟨⟨⟨h.1.1,lY h.1.2.1 Jl,h.1.c.1,o.1.u,h.1.e⟩,q.2⟩,om⟩) λU=>.bind (vL (B:=0) (S:=S) h.2.z) λai ad=>.ite (λW=>have:=J3.1 h.2.z.2.2.2.2.2.2.1.1;.ge (λR=>.some ⟨⟨⟨h.1.1,lY h.1.2.1 Jl,h.1.c.1,o.1.u,h.1.e.1,j.u,q.1.u⟩,aH 1⟩,om⟩) λR=>.bind (GJ (B:=16000) (S:=S) ⟨j,h.2.z.u⟩) λE C=>have O:aB 16001 S (.l Jb) E:=C.1.u;have:J0 E<=J0 X.1.2.2.2.2.2.1+1:=C.2;.some ⟨⟨⟨h.1.1,lY h.1.2.1 Jl,h.1.c.1,o.1.u,h.1.e.1,O.u,q.1.u⟩,aC⟩,om⟩) λW=>.bind (GJ (B:=16000) (S:=S) ⟨j,h.2.z.u⟩) λF J=>have a8:aB 16001 S (.l Jb) F:=J.1.u;have:J0 F<=J0 X.1.2.2.2.2.2.1+1:=J.2;.some ⟨⟨⟨h.1.1,lY h.1.2.1 Jl,h.1.c.1,o.1.u,h.1.e.1,a8.u,q.1.u⟩,aC⟩,om⟩
theorem Wz{B S:Int}{X:gV}(h:aB B S oW X)(ac:BG B S:=by omega):Tot (CR X) λy=>aB 400000001 1073741824 HY y:=by unfold CR;exact .bind ((nE h.1).eqn) λy2 h1=>.not (λQ=>.some ⟨aQ,aH 26⟩) λQ=>have v3:=nC h.1 h1.2 Q;have:=Jc (l:=X.1.2.1);have:J0 X.1.2.1=_:=JD h.1.2.1;have A:aB 4096 8192 JE X.1:=v3.2;.ltf (λO=>.gt (λU=>.some ⟨aQ,aH 1⟩) λU=>have P:aB 16384 1073741824 oW (X.1,X.2):=⟨A.u,h.2⟩;.bind (Q5 P) λD w=>.ne (λa1=>.some ⟨aQ,w.2⟩) λa1=>Ju (τ:=Int×nL) (λq=>(q.1,X.1,(0,0,0,[],[],[],[]),q.2)) (λq=>aB 0 0 zI q.1/\aB 16384 1073741824 vC q.2/\(0<=q.1)/\(q.1<=J0 X.1.2.1)/\(J0 q.2.2.2.2.2.2.1<=4096+q.1)) (λq=>J0 X.1.2.1-q.1) (by rintro⟨r,e⟩ H;dsimp only at H;obtain⟨W,j,af,a8,ae⟩:=H;unfold ob;(try dsimp only);exact have:=J3.1 W;have:J0 e.2.2.2.2.2.1=_/\_:=lF j.2.2.2.2.2.1;.lt (λV=>.bind (Jh A.2.1) λy5 a5=>.le (λL=>have a6:aB 8192 1073741824 (.l Jb) e.2.2.2.2.2.1:=⟨(by omega:J0 e.2.2.2.2.2.1<=8192),λx K=>j.2.2.2.2.2.1.2 x K⟩;have:=Ji r 1;.some ⟨(J1 .i64 r 1,e),rfl,⟨Jl,j,om,om,om⟩,om,om⟩) λL=>.bind (Jh A.2.1) λy6 Z=>.bind (Mk (B:=16384) (S:=1073741824) ⟨j,Z.1.z.u⟩ om) λC E=>have v:aB 16384 1073741824 HY C:=E.1.u;have:J0 C.1.2.2.2.2.2.1=_/\_:=lF v.1.g.1;have:J0 C.1.2.2.2.2.2.1<=J0 e.2.2.2.2.2.1+1:=E.2;.ne (λT=>.some ⟨aQ,v.2⟩) λT=>have a9:aB 8192 1073741824 (.l Jb) C.1.2.2.2.2.2.1:=⟨(by omega:J0 C.1.2.2.2.2.2.1<=8192),λx K=>v.1.g.1.2 x K⟩;have:=Ji r 1;.some ⟨(J1 .i64 r 1,C.1),rfl,⟨Jl,v.1,om,om,om⟩,om,om⟩) λV=>.inr (have:J0 e.2.2.2.1=_/\_:=lF j.2.2.2.1;Ju (τ:=Int×(List Jo)) (λq=>(q.1,X.1,(0,0,0,[],[],[],[]),e,q.2)) (λq=>(aB 0 0 zI q.1/\0<=q.1/\(q.1<=J0 e.2.2.2.1\/q.1<=0))/\(aB 16384 1073741824 (.l Jk) q.2/\J0 q.2<=1*q.1+0)) (λq=>J0 e.2.2.2.1-q.1) (by rintro⟨n,o⟩ G;dsimp only at G;obtain⟨⟨a0,a3,a7⟩,k,ad⟩:=G;unfold nz;(try dsimp only);exact have:=J3.1 a0;.lt (λR=>.bind (Jh j.2.2.2.1) λy9 ab=>.gt (λY=>.bind (Jh j.2.2.2.1) λa4 N=>have:J0 o=_/\_:=lF k;.bind (bV (B:=16384) (Bl:=16384) (Bm:=16384) (S:=1073741824) (J0 o) 1 k (cJ (B:=16384) (S:=1073741824) (t:=Jk) oo N.1)) λJ I=>have:=Ji n 1;have:J0 J=_:=JD I.1;.some ⟨(J1 .i64 n 1,J),rfl,⟨⟨Jl,om,om⟩,I.1,om⟩,om,om⟩) λY=>have:=Ji n 1;have:J0 o=_:=JD k;.some ⟨(J1 .i64 n 1,o),rfl,⟨⟨Jl,om,om⟩,k,om⟩,om,om⟩) λR=>.inr (.bind (Py (B:=16384) (S:=1073741824) ⟨A.u,k⟩) λaa F=>.ne (λM=>.some ⟨aQ,F.2⟩) λM=>.some ⟨⟨j.1,j.2.1,j.2.2.1,k.u,F.1.u,j.2.2.2.2.2.u⟩,aC⟩)) (0,[]) rfl (have:J0 ([]:List Jo)=0:=rfl;⟨⟨aC,om,om⟩,J8,om⟩))) (0,D.1) rfl (have:J0 D.1.2.2.2.2.2.1<=4096:=w.1.g.1.1;have:=Jc (l:=D.1.2.2.2.2.2.1);have:J0 D.1.2.2.2.2.2.1=_:=JD w.1.g.1;⟨aC,w.1.u,om,om,om⟩)) λO=>.some ⟨aQ,aH 1⟩
theorem Rx{B S:Int}{X:aD×nL×Int}(h:aB B S (.pr JE HY) X)(O:BG B S:=by omega):Tot (CH X) λy=>aB 16384 1073741824 fL y:=by unfold CH;exact .bind (vy h.c) λv h1=>.ne (λJ=>.some ⟨aQ,aH 1⟩) λJ=>.bind ((lH (B:=B) (S:=S) (X:=(X.2.1.1,X.2.1.2.1,X.1,v.1,(X.2.1.2.2.2.2.1,[]),X.2.1.2.2.2.1,X.2.1.2.2.2.2.2.2,X.2.1.2.2.2.2.2.1)) ⟨h.2.1.1,h.2.1.2.1,h.1,h1.1.u,⟨h.2.1.e.1,J8⟩,h.2.1.d.1,h.2.1.h,h.2.1.g.1⟩).eqn) λQ K=>.not (λG=>.some ⟨aQ,aH 15⟩) λG=>have I:=mJ (x:=(X.2.1.1,X.2.1.2.1,X.1,v.1,(X.2.1.2.2.2.2.1,[]),X.2.1.2.2.2.1,X.2.1.2.2.2.2.2.2,X.2.1.2.2.2.2.2.1)) ⟨h.2.1.1,h.2.1.2.1,h.1,h1.1.u,⟨h.2.1.e.1,J8⟩,h.2.1.d.1,h.2.1.h,h.2.1.g.1⟩ K.2 G;have j:aB 4096 8192 J5 (X.2.1.1,X.2.1.2.1,X.1,v.1,(X.2.1.2.2.2.2.1,[]),X.2.1.2.2.2.1,X.2.1.2.2.2.2.2.2,X.2.1.2.2.2.2.2.1):=I.2;have:J0 X.2.1.2.2.2.1=_/\_:=lF j.g.1;Ju (τ:=rM) (λq=>(q.1,X.1,X.2.1,(0,0,(0,[],0),(0,[],0),([],[]),[],[],[]),v.1,q.2)) (λq=>(aB 0 0 zI q.1/\0<=q.1/\(q.1<=J0 X.2.1.2.2.2.1\/q.1<=0))/\aB 16384 1073741824 J5 q.2) (λq=>J0 X.2.1.2.2.2.1-q.1) (by rintro⟨k,o⟩ z;dsimp only at z;obtain⟨⟨F,M,P⟩,n⟩:=z;unfold j5;(try dsimp only);exact have:=J3.1 F;.lt (λD=>.bind (Jh j.g.1) λR N=>.eq (λH=>have:=Ji k 1;.some ⟨(J1 .i64 k 1,o),rfl,⟨⟨Jl,om,om⟩,n⟩,om,om⟩) λH=>.bind (Jh j.g.1) λE w=>.bind ((xN (B:=16384) (S:=1073741824) (X:=(o,0,4,E.1,0,0,0,(0,0,(false,[]),false,[]),[])) ⟨n,aC,aH 4,w.1.1,aC,aC,aC,⟨aC,aC,⟨trivial,J9⟩,trivial,J9⟩,J9⟩).eqn) λC r=>.ne (λA=>.some ⟨aQ,r.1.1.c⟩) λA=>have L:Has C.1.2.2.2.2.2.1 E.1:=wg ⟨n,aC,aH 4,w.1.1,aC,aC,aC,⟨aC,aC,⟨trivial,J9⟩,trivial,J9⟩,J9⟩ r.2 A;have:=Ji k 1;.some ⟨(J1 .i64 k 1,C.1),rfl,⟨⟨Jl,om,om⟩,r.1.1.1⟩,om,om⟩) λD=>.some ⟨n,aC⟩) (0,(X.2.1.1,X.2.1.2.1,X.1,v.1,(X.2.1.2.2.2.2.1,[]),X.2.1.2.2.2.1,X.2.1.2.2.2.2.2.2,X.2.1.2.2.2.2.2.1)) rfl ⟨⟨aC,om,om⟩,j.1,j.2.1,j.c.1.u,j.d.1.u,⟨j.e.1.1.u,J8⟩,j.g.u⟩
theorem Kk{B S:Int}{X:TD}(h:aB B S (.pr JV JF) X)(r:BH B S:=by omega)(w:S<=9223372036854775807:=by omega):Tot (xV X) λy=>aB B S nO y:=by unfold xV;exact .bind (My (B:=0) (S:=S) h.2.z.1) λo h1=>.ne (λj=>.some ⟨⟨aQ,J8,aC,J8,trivial,J8⟩,h1.2⟩) λj=>have q:aB 16384 1073741824 oW (o.1,X.2.2.1):=⟨h1.1.u,h.2.z.2.1⟩;.bind (Wz q) λv g=>.ne (λn=>.some ⟨⟨aQ,J8,aC,J8,trivial,J8⟩,g.2⟩) λn=>.bind (Rx (B:=400000001) (S:=1073741824) ⟨h1.1.u,g.1,h.2.z.2.2⟩) λx e=>.ne (λk=>.some ⟨⟨aQ,J8,aC,J8,trivial,J8⟩,e.2⟩) λk=>.some ⟨⟨e.1.u,h.1⟩,aC⟩
theorem Hr{B S:Int}{X:TD}(h:aB B S (.pr JV JF) X)(e:BH B S:=by omega)(g:S<=9223372036854775807:=by omega):Tot (ND X) λy=>aB B S nO y:=by unfold ND;exact .bind (Kk (B:=B) (S:=S) ⟨h.1,h.2.z.1.u,h.2.z.2.1,h.2.z.2.2⟩) λj h1=>.some (h1)
theorem Zf{B S:Int}{X:DB}(h:aB B S (.pr fJ HC) X)(p0:J0 X.2.2.2.2.2.2.2.2.2.2.2.2.2.2.2.2.2.2.2.2.1<=16000)(V:J0 X.2.2.2.2.2.2.2.2.2.2.2.2.2.2.2.2.2.2.2.2.2<=16000)(Q:BG B S:=by omega)(W:S<=9223372036854775807:=by omega):Tot (CV X) λy=>aB B S UK y/\(J0 y.2.2.2.2.2.2.2.2.2.2.2.2.2.2.2.2.2.2.2.2.1<=J0 X.2.2.2.2.2.2.2.2.2.2.2.2.2.2.2.2.2.2.2.2.1+1/\J0 y.2.2.2.2.2.2.2.2.2.2.2.2.2.2.2.2.2.2.2.2.2<=J0 X.2.2.2.2.2.2.2.2.2.2.2.2.2.2.2.2.2.2.2.2.2+1):=by unfold CV;exact have:=Jc (l:=X.2.2.2.2.2.2.2.2.2.2.2.2.2.2.2.2.2.2.2.2.1);have K:aB 16000 S (.l zI) X.2.2.2.2.2.2.2.2.2.2.2.2.2.2.2.2.2.2.2.2.1:=⟨(by omega:J0 X.2.2.2.2.2.2.2.2.2.2.2.2.2.2.2.2.2.2.2.2.1<=16000),λx A=>h.k.k.c.1.2 x A⟩;have H:aB 16000 S (.l eI) X.2.2.2.2.2.2.2.2.2.2.2.2.2.2.2.2.2.2.2.2.2:=⟨(by omega:J0 X.2.2.2.2.2.2.2.2.2.2.2.2.2.2.2.2.2.2.2.2.2<=16000),λx A=>h.k.k.e x A⟩;.bind (Qh (B:=B) (S:=S) ⟨⟨⟨h.2.1,h.c.1,⟨h.d.1,h.e.1,h.g.1⟩,⟨h.h.1,h.i.1,h.j.1⟩,⟨h.k.1,h.k.2.1⟩,h.k.c.1,h.k.d.1,h.k.e.1⟩,h.k.g.1,h.k.h.1,h.k.i.1,trivial,h.k.k.1⟩,h.1.z.2.2.2.1,h.1.z.2.2.1,h.1.z.2.2.2.2.1⟩) λL J=>.bind (Hr (B:=B) (S:=S) ⟨J.1,J.2.z.u,h.2.1,h.h.1⟩) λE n=>Ju (τ:=OK) (λq=>(E.2,q.1,X.2.1,X.2.2.1,X.2.2.2.1,X.2.2.2.2.1,X.2.2.2.2.2.1,X.2.2.2.2.2.2.1,X.2.2.2.2.2.2.2.1,X.2.2.2.2.2.2.2.2.1,X.2.2.2.2.2.2.2.2.2.1,X.2.2.2.2.2.2.2.2.2.2.1,X.2.2.2.2.2.2.2.2.2.2.2.1,X.2.2.2.2.2.2.2.2.2.2.2.2.1,X.2.2.2.2.2.2.2.2.2.2.2.2.2.1,X.2.2.2.2.2.2.2.2.2.2.2.2.2.2.1,X.2.2.2.2.2.2.2.2.2.2.2.2.2.2.2.1,X.2.2.2.2.2.2.2.2.2.2.2.2.2.2.2.2.1,X.2.2.2.2.2.2.2.2.2.2.2.2.2.2.2.2.2.1,X.2.2.2.2.2.2.2.2.2.2.2.2.2.2.2.2.2.2.1,X.2.2.2.2.2.2.2.2.2.2.2.2.2.2.2.2.2.2.2.1,q.2,X.2.2.2.2.2.2.2.2.2.2.2.2.2.2.2.2.2.2.2.2.2,X.1,(0,0,0,(false,[]),0),L.1,E.1)) (λq=>aB 0 0 zI q.1/\aB 16000 S (.l zI) q.2/\(0<=q.1)/\(q.1<=J0 q.2)/\(J0 q.2=J0 X.2.2.2.2.2.2.2.2.2.2.2.2.2.2.2.2.2.2.2.2.1)) (λq=>J0 q.2-q.1) (by rintro⟨o,r⟩ w;dsimp only at w;obtain⟨I,v,O,M,P⟩:=w;unfold og;(try dsimp only);exact have:=J3.1 I;.lt (λD=>.bind (iP (l:=r)) λ_ _=>.bind (rN v) λU N=>have:=Ji o 1;have:J0 (aZ r (Int.toNat o) 0)<=16000:=(oS (t:=zI) (i:=Int.toNat o) (x:=0) v aC).1;have:=Jc (l:=aZ r (Int.toNat o) 0);have:J0 (aZ r (Int.toNat o) 0)=J0 r:=qH;.some ⟨(J1 .i64 o 1,aZ r (Int.toNat o) 0),rfl,⟨Jl,oS (t:=zI) (i:=Int.toNat o) (x:=0) v aC,om,om,om⟩,om,om⟩) λD=>.inr (.ne (λC=>.bind (GP n.2) λR F=>.some ⟨⟨F.u,h.2.1,h.c.1,h.d.1,h.e.1,h.g.1,h.h.1,h.i.1,h.j.1,h.k.1,h.k.2.1,h.k.c.1,h.k.d.1,h.k.e.1,h.k.g.1,h.k.h.1,h.k.i.1,trivial,h.k.k.1,trivial,v.u,H.u⟩,om⟩) λC=>.bind (GP (B:=0) (S:=0) aC) λT G=>.some ⟨⟨G.u,n.1.1.1,n.1.1.2.1,n.1.1.c.1.1,n.1.1.c.1.2.1,n.1.1.c.1.c,n.1.1.d.1.1,n.1.1.d.1.2.1,n.1.1.d.1.c,n.1.1.e.1.1,n.1.1.e.1.2,n.1.1.g.1,n.1.1.h.1,n.1.1.i,n.1.2.1,n.1.c.1,n.1.d.1,trivial,n.1.g,trivial,v.u,H.u⟩,om⟩)) (0,X.2.2.2.2.2.2.2.2.2.2.2.2.2.2.2.2.2.2.2.2.1) rfl ⟨aC,K,om,om,om⟩
theorem NU{B S:Int}{X:ou}(h:aB B S (.pr Jj (.pr zI HC)) X)(o:BH B S:=by omega):Tot (qU X) λy=>aB B S UK y/\(J0 y.2.2.2.2.2.2.2.2.2.2.2.2.2.2.2.2.2.2.2.2.1=J0 X.2.2.2.2.2.2.2.2.2.2.2.2.2.2.2.2.2.2.2.2.2.1/\J0 y.2.2.2.2.2.2.2.2.2.2.2.2.2.2.2.2.2.2.2.2.2=J0 X.2.2.2.2.2.2.2.2.2.2.2.2.2.2.2.2.2.2.2.2.2.2):=by unfold qU;exact .eq (λc1=>.bind (GP h.2.1) λr h3=>.some ⟨⟨h3.u,h.1.1.1,h.1.1.2.1,h.1.1.c.1.1,h.1.1.c.1.2.1,h.1.1.c.1.c,h.1.1.d.1.1,h.1.1.d.1.2.1,h.1.1.d.1.c,h.1.1.e.1.1,h.1.1.e.1.2,h.1.1.g.1,h.1.1.h.1,h.1.1.i,h.1.2.1,h.1.c.1,h.1.d.1,trivial,h.1.g,trivial,h.k.k.d⟩,om⟩) λc1=>.bind (GP h.2.1) λq n=>.some ⟨⟨n.u,h.c.1,h.d.1,h.e.1,h.g.1,h.h.1,h.i.1,h.j.1,h.k.1,h.k.2.1,h.k.c.1,h.k.d.1,h.k.e.1,h.k.g.1,h.k.h.1,h.k.i.1,h.k.j.1,trivial,h.k.k.2.1,trivial,h.k.k.d⟩,om⟩
theorem Y6{B S:Int}{X:DB}(h:aB B S (.pr fJ HC) X)(p0:J0 X.2.2.2.2.2.2.2.2.2.2.2.2.2.2.2.2.2.2.2.2.1<=16000)(p1:J0 X.2.2.2.2.2.2.2.2.2.2.2.2.2.2.2.2.2.2.2.2.2<=16000)(ae:BH B S:=by omega)(hB:B<=1000000:=by omega)(hS:S<=1000000000000:=by omega):Tot (CU X) λy=>aB B S UK y/\(J0 y.2.2.2.2.2.2.2.2.2.2.2.2.2.2.2.2.2.2.2.2.1<=J0 X.2.2.2.2.2.2.2.2.2.2.2.2.2.2.2.2.2.2.2.2.1+1/\J0 y.2.2.2.2.2.2.2.2.2.2.2.2.2.2.2.2.2.2.2.2.2<=J0 X.2.2.2.2.2.2.2.2.2.2.2.2.2.2.2.2.2.2.2.2.2+1):=by unfold CU;exact have:=Jc (l:=X.2.2.2.2.2.2.2.2.2.2.2.2.2.2.2.2.2.2.2.2.1);have:J0 X.2.2.2.2.2.2.2.2.2.2.2.2.2.2.2.2.2.2.2.2.2=_:=JD h.k.k.d;have E:aB 16000 S (.l zI) X.2.2.2.2.2.2.2.2.2.2.2.2.2.2.2.2.2.2.2.2.1:=⟨(by omega:J0 X.2.2.2.2.2.2.2.2.2.2.2.2.2.2.2.2.2.2.2.2.1<=16000),λx P=>h.k.k.c.1.2 x P⟩;have D:aB 16000 S (.l eI) X.2.2.2.2.2.2.2.2.2.2.2.2.2.2.2.2.2.2.2.2.2:=⟨(by omega:J0 X.2.2.2.2.2.2.2.2.2.2.2.2.2.2.2.2.2.2.2.2.2<=16000),λx P=>h.k.k.e x P⟩;.eq (λc8=>.bind (Pf (B:=B) (S:=S) ⟨⟨h.2.1,h.c.1,⟨h.d.1,h.e.1,h.g.1⟩,⟨h.h.1,h.i.1,h.j.1⟩,⟨h.k.1,h.k.2.1⟩,h.k.c.1,h.k.d.1,h.k.e.1⟩,h.k.g.1,h.k.h.1,h.k.i.1,trivial,h.k.k.1⟩) λy2 C=>.eq (λV=>.bind (bV (B:=16001) (Bl:=16000) (Bm:=1) (S:=S) (J0 X.2.2.2.2.2.2.2.2.2.2.2.2.2.2.2.2.2.2.2.2.1) 1 E ((cJ (B:=1) (S:=0) (t:=zI) oo C.2.1).u)) λy3 Q=>.bind (NU (B:=B) (S:=S) ⟨C.1,C.c,h.2.1,h.c.1,h.d.1,h.e.1,h.g.1,h.h.1,h.i.1,h.j.1,h.k.1,h.k.2.1,h.k.c.1,h.k.d.1,h.k.e.1,h.k.g.1,h.k.h.1,h.k.i.1,trivial,h.k.k.1,trivial,Q.1.u,D.u⟩) λO n=>have:J0 O.2.2.2.2.2.2.2.2.2.2.2.2.2.2.2.2.2.2.2.2.2=_:=JD n.1.k.k.d;have:J0 O.2.2.2.2.2.2.2.2.2.2.2.2.2.2.2.2.2.2.2.2.1=J0 y3/\J0 O.2.2.2.2.2.2.2.2.2.2.2.2.2.2.2.2.2.2.2.2.2=J0 X.2.2.2.2.2.2.2.2.2.2.2.2.2.2.2.2.2.2.2.2.2:=n.2;.some ⟨⟨⟨n.1.1.z.1,C.2.1,n.1.1.z.2.2.u⟩,n.1.2.1,n.1.c.1,n.1.d.1,n.1.e.1,n.1.g.1,n.1.h.1,n.1.i.1,n.1.j.1,n.1.k.1,n.1.k.2.1,n.1.k.c.1,n.1.k.d.1,n.1.k.e.1,n.1.k.g.1,n.1.k.h.1,n.1.k.i.1,trivial,n.1.k.k.1,trivial,n.1.k.k.c⟩,om⟩) λV=>.bind (NU (B:=B) (S:=S) ⟨C.1,C.c,h.2.1,h.c.1,h.d.1,h.e.1,h.g.1,h.h.1,h.i.1,h.j.1,h.k.1,h.k.2.1,h.k.c.1,h.k.d.1,h.k.e.1,h.k.g.1,h.k.h.1,h.k.i.1,trivial,h.k.k.1,trivial,E.u,D.u⟩) λN o=>have:J0 N.2.2.2.2.2.2.2.2.2.2.2.2.2.2.2.2.2.2.2.2.2=_:=JD o.1.k.k.d;have:J0 N.2.2.2.2.2.2.2.2.2.2.2.2.2.2.2.2.2.2.2.2.1=J0 X.2.2.2.2.2.2.2.2.2.2.2.2.2.2.2.2.2.2.2.2.1/\J0 N.2.2.2.2.2.2.2.2.2.2.2.2.2.2.2.2.2.2.2.2.2=J0 X.2.2.2.2.2.2.2.2.2.2.2.2.2.2.2.2.2.2.2.2.2:=o.2;.some ⟨⟨⟨o.1.1.z.1,C.2.1,o.1.1.z.2.2.u⟩,o.1.2.1,o.1.c.1,o.1.d.1,o.1.e.1,o.1.g.1,o.1.h.1,o.1.i.1,o.1.j.1,o.1.k.1,o.1.k.2.1,o.1.k.c.1,o.1.k.d.1,o.1.k.e.1,o.1.k.g.1,o.1.k.h.1,o.1.k.i.1,trivial,o.1.k.k.1,trivial,o.1.k.k.c⟩,om⟩) λc8=>.eq (λT=>.bind (Y0 (B:=B) (S:=S) ⟨h.1.z.u,h.2.1,h.c.1,h.d.1,h.e.1,h.g.1,h.h.1,h.i.1,h.j.1,h.k.1,h.k.2.1,h.k.c.1,h.k.d.1,h.k.e.1,h.k.g.1,h.k.h.1,h.k.i.1,trivial,h.k.k.1,trivial,E.u,D.u⟩ om om) λZ w=>have:J0 Z.2.2.2.2.2.2.2.2.2.2.2.2.2.2.2.2.2.2.2.2.1<=J0 X.2.2.2.2.2.2.2.2.2.2.2.2.2.2.2.2.2.2.2.2.1+1/\J0 Z.2.2.2.2.2.2.2.2.2.2.2.2.2.2.2.2.2.2.2.2.2<=J0 X.2.2.2.2.2.2.2.2.2.2.2.2.2.2.2.2.2.2.2.2.2+1:=w.2;.some ⟨⟨w.1.1.z.u,w.1.2.1,w.1.c.1,w.1.d.1,w.1.e.1,w.1.g.1,w.1.h.1,w.1.i.1,w.1.j.1,w.1.k.1,w.1.k.2.1,w.1.k.c.1,w.1.k.d.1,w.1.k.e.1,w.1.k.g.1,w.1.k.h.1,w.1.k.i.1,trivial,w.1.k.k.1,trivial,w.1.k.k.c⟩,om⟩) λT=>.eq (λa5=>.bind (Rv (B:=B) (S:=S) ⟨⟨⟨h.2.1,h.c.1,⟨h.d.1,h.e.1,h.g.1⟩,⟨h.h.1,h.i.1,h.j.1⟩,⟨h.k.1,h.k.2.1⟩,h.k.c.1,h.k.d.1,h.k.e.1⟩,h.k.g.1,h.k.h.1,h.k.i.1,trivial,h.k.k.1⟩,h.1.z.2.2.1⟩) λy7 J=>.bind (NU (B:=B) (S:=S) ⟨J.1,J.2,h.2.1,h.c.1,h.d.1,h.e.1,h.g.1,h.h.1,h.i.1,h.j.1,h.k.1,h.k.2.1,h.k.c.1,h.k.d.1,h.k.e.1,h.k.g.1,h.k.h.1,h.k.i.1,trivial,h.k.k.1,trivial,E.u,D.u⟩) λM q=>have:J0 M.2.2.2.2.2.2.2.2.2.2.2.2.2.2.2.2.2.2.2.2.2=_:=JD q.1.k.k.d;have:J0 M.2.2.2.2.2.2.2.2.2.2.2.2.2.2.2.2.2.2.2.2.1=J0 X.2.2.2.2.2.2.2.2.2.2.2.2.2.2.2.2.2.2.2.2.1/\J0 M.2.2.2.2.2.2.2.2.2.2.2.2.2.2.2.2.2.2.2.2.2=J0 X.2.2.2.2.2.2.2.2.2.2.2.2.2.2.2.2.2.2.2.2.2:=q.2;.some ⟨⟨q.1.1.z.u,q.1.2.1,q.1.c.1,q.1.d.1,q.1.e.1,q.1.g.1,q.1.h.1,q.1.i.1,q.1.j.1,q.1.k.1,q.1.k.2.1,q.1.k.c.1,q.1.k.d.1,q.1.k.e.1,q.1.k.g.1,q.1.k.h.1,q.1.k.i.1,trivial,q.1.k.k.1,trivial,q.1.k.k.c⟩,om⟩) λa5=>.eq (λa1=>.bind (X6 (B:=B) (S:=S) ⟨⟨h.2.1,h.c.1,⟨h.d.1,h.e.1,h.g.1⟩,⟨h.h.1,h.i.1,h.j.1⟩,⟨h.k.1,h.k.2.1⟩,h.k.c.1,h.k.d.1,h.k.e.1⟩,h.k.g.1,h.k.h.1,h.k.i.1,trivial,h.k.k.1⟩) λy9 L=>.bind (NU (B:=B) (S:=S) ⟨L.1,L.c,h.2.1,h.c.1,h.d.1,h.e.1,h.g.1,h.h.1,h.i.1,h.j.1,h.k.1,h.k.2.1,h.k.c.1,h.k.d.1,h.k.e.1,h.k.g.1,h.k.h.1,h.k.i.1,trivial,h.k.k.1,trivial,E.u,D.u⟩) λG r=>have:J0 G.2.2.2.2.2.2.2.2.2.2.2.2.2.2.2.2.2.2.2.2.2=_:=JD r.1.k.k.d;have:J0 G.2.2.2.2.2.2.2.2.2.2.2.2.2.2.2.2.2.2.2.2.1=J0 X.2.2.2.2.2.2.2.2.2.2.2.2.2.2.2.2.2.2.2.2.1/\J0 G.2.2.2.2.2.2.2.2.2.2.2.2.2.2.2.2.2.2.2.2.2=J0 X.2.2.2.2.2.2.2.2.2.2.2.2.2.2.2.2.2.2.2.2.2:=r.2;.some ⟨⟨r.1.1.z.u,r.1.2.1,r.1.c.1,r.1.d.1,r.1.e.1,r.1.g.1,r.1.h.1,r.1.i.1,r.1.j.1,r.1.k.1,r.1.k.2.1,r.1.k.c.1,r.1.k.d.1,r.1.k.e.1,r.1.k.g.1,r.1.k.h.1,r.1.k.i.1,trivial,r.1.k.k.1,trivial,r.1.k.k.c⟩,om⟩) λa1=>.eq (λU=>.bind (MR (B:=B) (S:=S) ⟨h.d.1,h.e.1,h.g.1⟩) λad a2=>.bind (VS (B:=B) (S:=S) ⟨⟨h.d.1,h.e.1,h.g.1⟩,a2⟩) λac F=>.eq (λW=>.bind (GP F.1.2) λa8 a3=>.some ⟨⟨a3.u,h.2.1,h.c.1,F.1.1.1,F.1.1.2.1.u,F.1.1.c,h.h.1,h.i.1,h.j.1,h.k.1,h.k.2.1,h.k.c.1,h.k.d.1,h.k.e.1,h.k.g.1,h.k.h.1,h.k.i.1,trivial,h.k.k.1,trivial,E.u,D.u⟩,om⟩) λW=>.bind (GP F.1.2) λaa R=>.some ⟨⟨R.u,h.2.1,h.c.1,h.d.1,h.e.1,h.g.1,h.h.1,h.i.1,h.j.1,h.k.1,h.k.2.1,h.k.c.1,h.k.d.1,h.k.e.1,h.k.g.1,h.k.h.1,h.k.i.1,trivial,h.k.k.1,trivial,E.u,D.u⟩,om⟩) λU=>.eq (λY=>.bind (Zf (B:=B) (S:=S) ⟨h.1.z.u,h.2.1,h.c.1,h.d.1,h.e.1,h.g.1,h.h.1,h.i.1,h.j.1,h.k.1,h.k.2.1,h.k.c.1,h.k.d.1,h.k.e.1,h.k.g.1,h.k.h.1,h.k.i.1,trivial,h.k.k.1,trivial,E.u,D.u⟩ om om) λK A=>have:J0 K.2.2.2.2.2.2.2.2.2.2.2.2.2.2.2.2.2.2.2.2.1<=J0 X.2.2.2.2.2.2.2.2.2.2.2.2.2.2.2.2.2.2.2.2.1+1/\J0 K.2.2.2.2.2.2.2.2.2.2.2.2.2.2.2.2.2.2.2.2.2<=J0 X.2.2.2.2.2.2.2.2.2.2.2.2.2.2.2.2.2.2.2.2.2+1:=A.2;.some ⟨⟨A.1.1.z.u,A.1.2.1,A.1.c.1,A.1.d.1,A.1.e.1,A.1.g.1,A.1.h.1,A.1.i.1,A.1.j.1,A.1.k.1,A.1.k.2.1,A.1.k.c.1,A.1.k.d.1,A.1.k.e.1,A.1.k.g.1,A.1.k.h.1,A.1.k.i.1,trivial,A.1.k.k.1,trivial,A.1.k.k.c⟩,om⟩) λY=>.eq (λa4=>.bind (Kq (B:=B) (S:=S) ⟨⟨h.2.1,h.c.1,⟨h.d.1,h.e.1,h.g.1⟩,⟨h.h.1,h.i.1,h.j.1⟩,⟨h.k.1,h.k.2.1⟩,h.k.c.1,h.k.d.1,h.k.e.1⟩,h.k.g.1,h.k.h.1,h.k.i.1,trivial,h.k.k.1⟩) λab I=>.bind (NU (B:=B) (S:=S) ⟨I.1,I.c,h.2.1,h.c.1,h.d.1,h.e.1,h.g.1,h.h.1,h.i.1,h.j.1,h.k.1,h.k.2.1,h.k.c.1,h.k.d.1,h.k.e.1,h.k.g.1,h.k.h.1,h.k.i.1,trivial,h.k.k.1,trivial,E.u,D.u⟩) λH v=>have:J0 H.2.2.2.2.2.2.2.2.2.2.2.2.2.2.2.2.2.2.2.2.2=_:=JD v.1.k.k.d;have:J0 H.2.2.2.2.2.2.2.2.2.2.2.2.2.2.2.2.2.2.2.2.1=J0 X.2.2.2.2.2.2.2.2.2.2.2.2.2.2.2.2.2.2.2.2.1/\J0 H.2.2.2.2.2.2.2.2.2.2.2.2.2.2.2.2.2.2.2.2.2=J0 X.2.2.2.2.2.2.2.2.2.2.2.2.2.2.2.2.2.2.2.2.2:=v.2;.some ⟨⟨v.1.1.z.u,v.1.2.1,v.1.c.1,v.1.d.1,v.1.e.1,v.1.g.1,v.1.h.1,v.1.i.1,v.1.j.1,v.1.k.1,v.1.k.2.1,v.1.k.c.1,v.1.k.d.1,v.1.k.e.1,v.1.k.g.1,v.1.k.h.1,v.1.k.i.1,trivial,v.1.k.k.1,trivial,v.1.k.k.c⟩,om⟩) λa4=>.bind (eW (B:=0) (S:=0) (aH 1)) λa9 a0=>.some ⟨⟨a0.1.u,h.2.1,h.c.1,h.d.1,h.e.1,h.g.1,h.h.1,h.i.1,h.j.1,h.k.1,h.k.2.1,h.k.c.1,h.k.d.1,h.k.e.1,h.k.g.1,h.k.h.1,h.k.i.1,trivial,h.k.k.1,trivial,E.u,D.u⟩,om⟩
end Go.Am
end
section
namespace Go.Am
set_option linter.unusedVariables false
set_option maxRecDepth 20000
set_option maxHeartbeats 4000000
theorem Hb{B S:Int}{X:Jp×(List qL)}(h:aB B S (.pr Jj (.l fJ)) X)(aq:BH B S:=by omega)(hB:B<=1000000:=by omega)(hS:S<=1000000000000:=by omega):Tot (AT X) λy=>aB B S (.pr Jj (.pr (.l dQ) (.l eI))) y:=by unfold AT;exact Ju (τ:=Int×(List Int)×(List uN)×Int×Int×Int×(List J2)×Int×Int×(List aF)×Int×(List aE)×(List aE)×(List Jo)×(List aA)×(List aA)×(List (List UInt8))×Int×(List Int)×Bool×(List JS)×Bool×(List eH)) (λq=>(X.2,q.1,X.1,((0,0,(0,[],0),(0,[],0),([],[]),[],[],[]),[],0,[],false,[]),q.2.1,q.2.2.1,q.2.2.2.1,q.2.2.2.2.1,q.2.2.2.2.2.1,q.2.2.2.2.2.2.1,q.2.2.2.2.2.2.2.1,q.2.2.2.2.2.2.2.2.1,q.2.2.2.2.2.2.2.2.2.1,q.2.2.2.2.2.2.2.2.2.2.1,q.2.2.2.2.2.2.2.2.2.2.2.1,q.2.2.2.2.2.2.2.2.2.2.2.2.1,q.2.2.2.2.2.2.2.2.2.2.2.2.2.1,q.2.2.2.2.2.2.2.2.2.2.2.2.2.2.1,q.2.2.2.2.2.2.2.2.2.2.2.2.2.2.2.1,q.2.2.2.2.2.2.2.2.2.2.2.2.2.2.2.2.1,q.2.2.2.2.2.2.2.2.2.2.2.2.2.2.2.2.2.1,q.2.2.2.2.2.2.2.2.2.2.2.2.2.2.2.2.2.2.1,q.2.2.2.2.2.2.2.2.2.2.2.2.2.2.2.2.2.2.2.1,q.2.2.2.2.2.2.2.2.2.2.2.2.2.2.2.2.2.2.2.2.1,q.2.2.2.2.2.2.2.2.2.2.2.2.2.2.2.2.2.2.2.2.2.1,q.2.2.2.2.2.2.2.2.2.2.2.2.2.2.2.2.2.2.2.2.2.2)) (λq=>aB 0 0 zI q.1/\aB 1000 S (.l zI) q.2.1/\aB 1000 S (.l eI) q.2.2.1/\aB 0 0 zI q.2.2.2.1/\aB 0 0 zI q.2.2.2.2.1/\aB 0 0 zI q.2.2.2.2.2.1/\aB B S (.l J7) q.2.2.2.2.2.2.1/\aB 0 0 zI q.2.2.2.2.2.2.2.1/\aB 0 0 zI q.2.2.2.2.2.2.2.2.1/\aB B S (.l dW) q.2.2.2.2.2.2.2.2.2.1/\aB 0 0 zI q.2.2.2.2.2.2.2.2.2.2.1/\aB B S (.l J6) q.2.2.2.2.2.2.2.2.2.2.2.1/\aB B S (.l J6) q.2.2.2.2.2.2.2.2.2.2.2.2.1/\aB B S (.l Jk) q.2.2.2.2.2.2.2.2.2.2.2.2.2.1/\aB B S (.l Jb) q.2.2.2.2.2.2.2.2.2.2.2.2.2.2.1/\aB B S (.l Jb) q.2.2.2.2.2.2.2.2.2.2.2.2.2.2.2.1/\aB B S (.l .s) q.2.2.2.2.2.2.2.2.2.2.2.2.2.2.2.2.1/\aB 0 0 zI q.2.2.2.2.2.2.2.2.2.2.2.2.2.2.2.2.2.1/\aB B S (.l zI) q.2.2.2.2.2.2.2.2.2.2.2.2.2.2.2.2.2.2.1/\aB B S (.l JU) q.2.2.2.2.2.2.2.2.2.2.2.2.2.2.2.2.2.2.2.2.1/\aB 1000 S (.l dQ) q.2.2.2.2.2.2.2.2.2.2.2.2.2.2.2.2.2.2.2.2.2.2/\(0<=q.1)/\(q.1<=1000)/\(J0 q.2.1<=q.1)/\(J0 q.2.2.1<=q.1)/\(J0 q.2.2.2.2.2.2.2.2.2.2.2.2.2.2.2.2.2.2.2.2.2.2<=q.1)) (λq=>1001-q.1) (by rintro⟨N,v,M,al,am,an,ao,aa,ac,ai,ak,ad,af,ag,a6,a8,aj,ah,ae,a7,a9,ab,J⟩ W;dsimp only at W;obtain⟨i1,i2,i3,i4,Q,V,R,P,U,E,K,L,D,G,w,A,C,H,I,F,r,ax,av,aw,ap,au⟩:=W;unfold ji;(try dsimp only);exact have:J0 v<=1000:=i2.1;have:=Jc (l:=v);have:J0 M=_/\_:=lF i3;have:J0 J=_/\_:=lF r;have:J0 X.2=_:=JD h.2;.lt (λa3=>.lt (λa1=>.not (λa2=>.bind (Jh h.2) λy3 a4=>.bind (Y6 (B:=B) (S:=S) ⟨a4.1.z.u,i4,Q,V,R,P,U,E,K,L,D,G,w,A,C,H,I,trivial,F,trivial,i2.u,i3.u⟩ om om) λo n=>have:J0 o.2.2.2.2.2.2.2.2.2.2.2.2.2.2.2.2.2.2.2.2.2=_:=JD n.1.k.k.d;have:J0 o.2.2.2.2.2.2.2.2.2.2.2.2.2.2.2.2.2.2.2.2.1<=J0 v+1/\J0 o.2.2.2.2.2.2.2.2.2.2.2.2.2.2.2.2.2.2.2.2.2<=J0 M+1:=n.2;.bind (bV (B:=1001) (Bl:=1000) (Bm:=1) (S:=S) (J0 J) 1 r (cJ (B:=1) (S:=S) (t:=dQ) oo (n.1.1.z.u))) λT Y=>have a5:aB 1000 S (.l zI) o.2.2.2.2.2.2.2.2.2.2.2.2.2.2.2.2.2.2.2.2.1:=⟨(by omega:J0 o.2.2.2.2.2.2.2.2.2.2.2.2.2.2.2.2.2.2.2.2.1<=1000),λx O=>n.1.k.k.c.1.2 x O⟩;have a0:aB 1000 S (.l eI) o.2.2.2.2.2.2.2.2.2.2.2.2.2.2.2.2.2.2.2.2.2:=⟨(by omega:J0 o.2.2.2.2.2.2.2.2.2.2.2.2.2.2.2.2.2.2.2.2.2<=1000),λx O=>n.1.k.k.e x O⟩;have:J0 T=_:=JD Y.1;have Z:aB 1000 S (.l dQ) T:=⟨(by omega:J0 T<=1000),λx O=>Y.1.2 x O⟩;have:=Ji N 1;.some ⟨(J1 .i64 N 1,o.2.2.2.2.2.2.2.2.2.2.2.2.2.2.2.2.2.2.2.2.1,o.2.2.2.2.2.2.2.2.2.2.2.2.2.2.2.2.2.2.2.2.2,o.2.1,o.2.2.1,o.2.2.2.1,o.2.2.2.2.1,o.2.2.2.2.2.1,o.2.2.2.2.2.2.1,o.2.2.2.2.2.2.2.1,o.2.2.2.2.2.2.2.2.1,o.2.2.2.2.2.2.2.2.2.1,o.2.2.2.2.2.2.2.2.2.2.1,o.2.2.2.2.2.2.2.2.2.2.2.1,o.2.2.2.2.2.2.2.2.2.2.2.2.1,o.2.2.2.2.2.2.2.2.2.2.2.2.2.1,o.2.2.2.2.2.2.2.2.2.2.2.2.2.2.1,o.2.2.2.2.2.2.2.2.2.2.2.2.2.2.2.1,o.2.2.2.2.2.2.2.2.2.2.2.2.2.2.2.2.1,o.2.2.2.2.2.2.2.2.2.2.2.2.2.2.2.2.2.1,o.2.2.2.2.2.2.2.2.2.2.2.2.2.2.2.2.2.2.1,o.2.2.2.2.2.2.2.2.2.2.2.2.2.2.2.2.2.2.2.1,T),rfl,⟨Jl,a5,a0,n.1.2.1,n.1.c.1,n.1.d.1,n.1.e.1,n.1.g.1,n.1.h.1,n.1.i.1,n.1.j.1,n.1.k.1,n.1.k.2.1,n.1.k.c.1,n.1.k.d.1,n.1.k.e.1,n.1.k.g.1,n.1.k.h.1,n.1.k.i.1,n.1.k.k.1,Z,om,om,om,om,om⟩,om,om⟩) λa2=>.some ⟨⟨⟨i4,Q,⟨V,R,P⟩,⟨U,E,K⟩,⟨L,D⟩,G,w,A⟩,C,H,I,trivial,F⟩,r.u,i3.u⟩) λa1=>.some ⟨⟨⟨i4,Q,⟨V,R,P⟩,⟨U,E,K⟩,⟨L,D⟩,G,w,A⟩,C,H,I,trivial,F⟩,r.u,i3.u⟩) λa3=>.some ⟨⟨⟨i4,Q,⟨V,R,P⟩,⟨U,E,K⟩,⟨L,D⟩,G,w,A⟩,C,H,I,trivial,F⟩,r.u,i3.u⟩) (0,[],[],X.1.1.1,X.1.1.2.1,X.1.1.2.2.1.1,X.1.1.2.2.1.2.1,X.1.1.2.2.1.2.2,X.1.1.2.2.2.1.1,X.1.1.2.2.2.1.2.1,X.1.1.2.2.2.1.2.2,X.1.1.2.2.2.2.1.1,X.1.1.2.2.2.2.1.2,X.1.1.2.2.2.2.2.1,X.1.1.2.2.2.2.2.2.1,X.1.1.2.2.2.2.2.2.2,X.1.2.1,X.1.2.2.1,X.1.2.2.2.1,X.1.2.2.2.2.1,X.1.2.2.2.2.2,false,[]) rfl ⟨aC,J8,J8,h.1.1.1,h.1.1.2.1,h.1.1.c.1.1,h.1.1.c.1.2.1,h.1.1.c.1.c,h.1.1.d.1.1,h.1.1.d.1.2.1,h.1.1.d.1.c,h.1.1.e.1.1,h.1.1.e.1.2,h.1.1.g.1,h.1.1.h.1,h.1.1.i,h.1.2.1,h.1.c.1,h.1.d.1,h.1.g,J8,om,om,om,om,om⟩
theorem Yy{B S:Int}{X:UE}(h:aB B S UN X)(p0:0<=X.2.2.2)(w:0<=X.1)(q:X.1<=1000)(o:BH B S:=by omega)(A:B<=1000000:=by omega)(z:S<=1000000000000:=by omega):Tot (CS X) λy=>aB B S (.pr Jj Ja) y/\(0<=y.2.2):=by unfold CS;exact .bind (Js (B:=B) (S:=S) ⟨aH 4,h.c⟩ om) λC h3=>have:=J3.1 h3.1.c;.bind (Js (B:=B) (S:=S) ⟨aH 3,h3.1.2⟩ om) λr j=>have:=J3.1 j.1.c;.bind (Ie (B:=0) (S:=0) ⟨Jl,Jl⟩) λx k=>.bind (Y5 (B:=B) (S:=S) ⟨Jl,h.1,trivial,j.1.2⟩ om om om) λn e=>have:0<=n.2.2:=e.2;.bind (Hb (B:=B) (S:=S) ⟨k.1.u,e.1.1⟩) λv g=>.some ⟨⟨g.1,e.1.2⟩,om⟩
theorem Yn{B S:Int}{X:UE}(h:aB B S UN X)(p0:0<=X.2.2.2)(j:0<=X.1)(n:X.1<=1000)(g:BH B S:=by omega)(o:B<=1000000:=by omega)(k:S<=1000000000000:=by omega):Tot (CY X) λy=>aB B S (.pr J5 Ja) y/\(0<=y.2.2):=by unfold CY;exact .bind (Yy (B:=B) (S:=S) ⟨h.1,trivial,h.c⟩ om om om) λe h3=>have:0<=e.2.2:=h3.2;.some ⟨⟨h3.1.1.1,h3.1.2⟩,om⟩
theorem JAC{B S:Int}{X:JO}(h:aB B S Ja X)(p0:0<=X.2)(j:BS B S 0 0:=by omega):Tot (AR X) λy=>aB B S Ja y/\(y.2=0):=by unfold AR;exact .gt (λe=>.bind (rP h.1) λk g=>.some ⟨⟨g.1,aC⟩,om⟩) λe=>.some ⟨⟨h.1,aC⟩,om⟩
section
variable {B S:Int}
theorem GI{X:VG}(h:aB B S (.pr .s (.pr zI zI)) X)(g:BS B S 0 0:=by omega)(j:S<=140737488355320:=by omega):Tot (xO X) λy=>aB 0 (S+8) .s y/\(J0 y<=J0 X.1+8/\(1<=X.2.2->X.2.2<=8->J0 y=J0 X.1+X.2.2)):=by
 obtain⟨l,n,k⟩:=X;have q:J0 l<=S:=h.1;show Tot (JjN l n k) _;unfold JjN;dsimp only;split;refine .some ⟨?_,oo,λ_ _=>by omega⟩;show J0 l<=S+8;omega;have o:J0 l=(l.length:Int):=rfl;rw[if_pos oo];have e:J0 (l++J06 n k.toNat)=J0 l+k:=by show((l++J06 n k.toNat).length:Int)=(l.length:Int)+k;rw[dS,Jv];omega
 refine .some ⟨?_,oo,λ_ _=>e⟩;show J0 _<=S+8;omega
end
theorem Yg{B S:Int}{X:Unit}(h:aB B S .u X)(I:BS B S 0 0:=by omega):Tot (XD X) λy=>aB 0 0 (.ar 16 (.i .u32)) y:=by unfold XD;exact Ju (τ:=Int×(Vector Int 16)) (λq=>(q.1,Vector.replicate 16 0,q.2)) (λq=>(aB 0 0 zI q.1/\0<=q.1/\(q.1<=16\/q.1<=0))/\aB 0 0 (.ar 16 (.i .u32)) q.2) (λq=>16-q.1) (by rintro⟨e,j⟩ n;dsimp only at n;obtain⟨⟨i1,K,L⟩,i2⟩:=n;unfold Az;(try dsimp only);exact have:=J3.1 i1;.lt (λD=>Ju (τ:=Int×Int) (λq=>(e,q.1,e,q.2,Vector.replicate 16 0,j)) (λq=>(aB 0 0 zI q.2/\0<=q.2/\(q.2<=4\/q.2<=0))/\aB 0 0 (.i .u32) q.1) (λq=>4-q.2) (by rintro⟨k,g⟩ o;dsimp only at o;obtain⟨⟨A,F,H⟩,r⟩:=o;unfold A0;(try dsimp only);exact have:=J3.1 A;.lt (λx=>have:=VE k 1;.eq (λw=>.bind (zS r oo) λC G=>have:=Ji g 1;.some ⟨(gB .u32 C 2197175160,J1 .i64 g 1),rfl,⟨⟨Jl,om,om⟩,FF⟩,om,om⟩) λw=>.bind (zS r oo) λz v=>have:=Ji g 1;.some ⟨(z,J1 .i64 g 1),rfl,⟨⟨Jl,om,om⟩,v⟩,om,om⟩) λx=>.inr (.bind (iO) λ_ _=>.bind (oF i2) λJ E=>have:=Ji e 1;.some ⟨(J1 .i64 e 1,fY j (Int.toNat e) k),rfl,⟨⟨Jl,om,om⟩,QX i2 r⟩,om,om⟩)) (bN .u32 e,0) rfl ⟨⟨aC,om,om⟩,uA⟩) λD=>.some i2) (0,Vector.replicate 16 0) rfl ⟨⟨aC,om,om⟩,cI om om (.ar 16 (.i .u32))⟩
theorem Fc{B S:Int}{X:List UInt8}(h:aB B S .s X)(G:BS B S 0 0:=by omega)(K:S<=9223372036854775807:=by omega):Tot (SS X) λy=>aB 0 0 (.i .u32) y:=by unfold SS;exact .bind (Yg trivial) λA h1=>have:=sF (z:=X) h.z;Ju (τ:=Int×Int) (λq=>(X,q.1,J0 X,q.2,A)) (λq=>(aB 0 0 zI q.2/\0<=q.2/\(q.2<=J0 X\/q.2<=0))/\aB 0 0 (.i .u32) q.1) (λq=>J0 X-q.2) (by rintro⟨j,e⟩ g;dsimp only at g;obtain⟨⟨r,I,J⟩,i4⟩:=g;unfold xw;(try dsimp only);exact have:=J3.1 r;.lt (λo=>.bind (OO (l:=X)) λx C=>.bind (zS (B:=0) (S:=0) (FF) oo) λw F=>have:=VE (gB .u32 j (bN .u32 x)) 15;.bind (iO) λ_ _=>.bind (oF h1) λn H=>.bind (zS (B:=0) (S:=0) (FF) oo) λv E=>have:=VE (gB .u32 w n) 15;.bind (iO) λ_ _=>.bind (oF h1) λk D=>have:=Ji e 1;.some ⟨(gB .u32 v k,J1 .i64 e 1),rfl,⟨⟨Jl,om,om⟩,FF⟩,om,om⟩) λo=>.some Ed) (4294967295,0) rfl ⟨⟨aC,om,om⟩,fA .u32 4294967295⟩
section
variable {B S:Int}
theorem nq{X:eY}(h:aB B S lJ X)(p0:J0 X.1=1)(j:0<=X.2)(k:X.2<=1000)(o:BS B S 0 0:=by omega):Tot (NQ X) λy=>aB 0 1000 .s y/\(J0 y=X.2):=by
 obtain⟨l,n⟩:=X;dsimp only at p0 j k;have g:l.length=1:=by have:(l.length:Int)=1:=p0;omega
 show Tot (JkV l n) _;unfold JkV;rw[g,if_pos oo];have e:J0 (List.replicate n.toNat l).flatten=n:=by show((List.replicate n.toNat l).flatten.length:Int)=n;rw[IN,zE,List.sum_replicate_nat,g];omega
 refine .some ⟨?_,e⟩;show J0 _<=1000;omega
end
theorem Yr{B S:Int}{X:JY×(List UInt8)}(h:aB B S (.pr Jz .s) X)(p0:J0 X.1.2<=12)(J:BS B S 0 0:=by omega)(M:S<=140737488355320:=by omega):Tot (XG X) λy=>aB 0 (2*S+1008) .s y/\(J0 y=J0 X.2+13):=by unfold XG;exact have s0:aB 0 S (.pr Jz .s) X:=h;have:=sF (z:=X.1.2) s0.1.2;.ite (λG=>.bind (GI (B:=0) (S:=S) ⟨s0.2,lB s0.1.2 oo,aH 1⟩) λn F=>have:J0 n<=(S+8):=F.1;have:J0 X.2<=S:=s0.2;have:J0 n<=J0 X.2+8/\(1<=(1:Int)->(1:Int)<=8->J0 n=J0 X.2+(1:Int)):=F.2;.bind (gW) λj H=>have v:aB 0 (2*S+8) .s j:=(by omega:J0 j<=(2*S+8));have:=bC 12 (J0 X.1.2);.bind (nq (B:=0) (S:=1) ⟨PH 1 rfl oo,eT⟩ om om om) λD o=>have:J0 D<=1000:=o.1;have:=Jc (l:=D);have:=sF (z:=j) v;.bind (gW) λw L=>have x:aB 0 (2*S+1008) .s w:=(by omega:J0 w<=(2*S+1008));.some ⟨x,om⟩) λG=>.bind (GI (B:=0) (S:=S) ⟨s0.2,aH 255,aH 1⟩) λk e=>have:J0 k<=(S+8):=e.1;have:J0 X.2<=S:=s0.2;have:J0 k<=J0 X.2+8/\(1<=(1:Int)->(1:Int)<=8->J0 k=J0 X.2+(1:Int)):=e.2;.bind (gW) λg K=>have q:aB 0 (2*S+8) .s g:=(by omega:J0 g<=(2*S+8));have:=bC 12 (J0 X.1.2);.bind (nq (B:=0) (S:=1) ⟨PH 1 rfl oo,eT⟩ om om om) λr E=>have:J0 r<=1000:=E.1;have:=Jc (l:=r);have:=sF (z:=g) q;.bind (gW) λC I=>have A:aB 0 (2*S+1008) .s C:=(by omega:J0 C<=(2*S+1008));.some ⟨A,om⟩
theorem Kg{B S:Int}{X:Je}(h:aB B S Jf X)(x:BS B S 0 0:=by omega):Tot (sI X) λy=>aB 0 0 .b y:=by unfold sI;exact have s0:aB 0 S Jf X:=h;cU 16 (λq=>(X.2.2,q,X)) λw i1 D C=>.lt (λe=>.bind (Eb s0.2.2) λz A=>.gtf (λv=>.not (λn=>.itf (λk=>.ite (λg=>have:=J3.1 s0.2.1;.eq (λo=>.some trivial) λo=>.some ⟨e,rfl⟩) λg=>.some ⟨e,rfl⟩) λk=>.some trivial) λn=>.ite (λj=>have:=J3.1 s0.2.1;.eq (λr=>.some trivial) λr=>.some ⟨e,rfl⟩) λj=>.some ⟨e,rfl⟩) λv=>.some trivial) λe=>.some trivial
section
variable {B S:Int}
theorem M3{x:Je}(e:sI x=some true): ∀(j:Nat) (hj:j<16),J0 (x.2.2[j]).2<=12:=by
 have n:Par (sI x) λy=>y=true-> ∀(j:Nat) (hj:j<16),J0 (x.2.2[j]).2<=12:=by
  unfold sI;refine .while (λz=>z.1=x.2.2/\0<=z.2.1/\z.2.1<=16/\ ∀(j:Nat) (hj:j<16),(j:Int)<z.2.1->J0 (x.2.2[j]).2<=12) ⟨rfl,aU _,by dsimp only;omega,λj e h1=>by dsimp only at h1;omega⟩ ?_;rintro⟨v,i,z⟩ ⟨h1,h0,k,h⟩;dsimp only at h1 h0 h k;subst h1;unfold jb;dsimp only;refine .lt (λc=>?_) λc=>.some λ_ j hj=>h j hj oo;refine .bind λw h3=>.gtf (λA=>?_) λ_=>.some nofun;have:=Ji i 1;have g:x.2.2=x.2.2/\(0<=J1 .i64 i 1/\J1 .i64 i 1<=16/\ ∀(j:Nat) (hj:j<16),(j:Int)<J1 .i64 i 1->J0 (x.2.2[j]).2<=12):=by
   refine⟨rfl,oo,oo,λj hj r=>?_⟩;by_cases q:(j:Int)<i;exact h j hj q;have o:i.toNat=j:=by omega
   unfold qY at h3;split at h3;rw[o,Vector.getElem?_eq_getElem hj]at h3;injection h3 with h3;rw[h3];omega;cases h3
  exact .not (λ_=>.itf (λ_=>.ite (λ_=>.eq (λ_=>.some nofun) λ_=>.some g) λ_=>.some g) λ_=>.some nofun) λ_=>.ite (λ_=>.eq (λ_=>.some nofun) λ_=>.some g) λ_=>.some g
 exact n _ e rfl
theorem Ml{x:Je}{y:Bool}(h:aB B S Jf x)(e:sI x=some y)(c:y=true):True/\aB 0 12 Jf x:=by subst c;exact⟨trivial,h.1,h.2.1,λi hi=>⟨trivial,M3 e i hi⟩⟩
end
theorem M6{B S X:Int}(h:aB B S zI X)(e:BS B S 0 0:=by omega):Tot (NC X) λy=>aB 0 0 .b y:=by unfold NC;exact .ge (λc1=>.some trivial) λc1=>.some trivial
theorem Rp{B S:Int}{X:Je}(h:aB B S Jf X)(j:BS B S 0 0:=by omega):Tot (GL X) λy=>aB 0 0 .b y:=by unfold GL;exact have s0:aB 0 S Jf X:=h;.bind (M6 (B:=0) (S:=0) s0.1) λk h1=>.ite (λe=>have:=J3.1 s0.2.1;.ge (λg=>.some trivial) λg=>.some trivial) λe=>.some trivial
theorem Qg{B S:Int}{X:Je}(h:aB B S Jf X)(a2:BS B S 0 0:=by omega):Tot (uW X) λy=>aB 0 1416 lJ y:=by unfold uW;exact have s0:aB 0 S Jf X:=h;.bind (Rp (B:=0) (S:=S) s0) λy2 h1=>.not (λW=>.some ⟨J9,aH 1⟩) λW=>.bind ((Kg (B:=0) (S:=S) (X:=X) s0).eqn) λy3 h3=>.not (λI=>.some ⟨J9,aH 22⟩) λI=>have Y:=Ml (x:=X) s0 h3.2 I;have o:aB 0 12 Jf X:=Y.2;.bind (GI (B:=0) (S:=0) ⟨J9,o.2.1,aH 8⟩) λg J=>have R:aB 0 8 .s g:=J.1.u;have:=sF (z:=g) R;have:J0 g<=0+8/\(1<=(8:Int)->(8:Int)<=8->J0 g=0+(8:Int)):=J.2;.bind (GI (B:=0) (S:=8) ⟨R,o.1,aH 4⟩) λk r=>have v:aB 0 16 .s k:=r.1.u;have:=sF (z:=k) v;have:J0 k<=J0 g+8/\(1<=(4:Int)->(4:Int)<=8->J0 k=J0 g+(4:Int)):=r.2;Ju (τ:=Int×(List UInt8)) (λq=>(X.2.2,q.1,X,q.2)) (λq=>aB 0 0 zI q.1/\aB 0 400 .s q.2/\(0<=q.1)/\(q.1<=16)/\(J0 q.2=12+13*q.1)) (λq=>16-q.1) (by rintro⟨j,n⟩ E;dsimp only at E;obtain⟨a3,U,a6,a1,a5⟩:=E;unfold jr;(try dsimp only);exact .lt (λG=>.bind (Eb o.c) λV A=>have:J0 V.2<=12:=A.2;.bind (Yr (B:=0) (S:=400) ⟨A.u,U⟩ om) λe C=>have P:aB 0 1808 .s e:=C.1.u;have:=sF (z:=e) P;have:J0 e=J0 n+13:=C.2;have F:aB 0 400 .s e:=(by omega:J0 e<=400);have:=nP j 1;.some ⟨(J1 .i64 j 1,e),rfl,⟨Jl,F,om,om,om⟩,om,om⟩) λG=>.inr (have:=zA 244 (J0 n);.bind (nq (B:=0) (S:=1) ⟨PH 1 rfl oo,eT⟩ om om om) λN Q=>have:J0 N<=1000:=Q.1;have:=Jc (l:=N);.bind (gW) λw a0=>have D:aB 0 1400 .s w:=(by omega:J0 w<=1400);.bind (Fc D) λa4 Z=>.bind (GI (B:=0) (S:=1400) ⟨D,uA,aH 4⟩) λM L=>have O:aB 0 1408 .s M:=L.1.u;.bind (GI (B:=0) (S:=1408) ⟨O,o.2.1,aH 8⟩) λH K=>have T:aB 0 1416 .s H:=K.1.u;.some ⟨T,aC⟩)) (0,k) rfl ⟨aC,v.u,om,om,om⟩
theorem H5{B S:Int}{X:gV}(h:aB B S oW X)(x:BC B S 0 0:=by omega):Tot (sL X) λy=>aB 4096 8192 oW y:=by unfold sL;exact .bind ((nE h.1).eqn) λA h1=>.not (λk=>.some ⟨aQ,aH 26⟩) λk=>have v:=nC h.1 h1.2 k;have:=Jc (l:=X.1.2.1);have:J0 X.1.2.1=_:=JD h.1.2.1;have:=J3.1 h.1.c;have e:aB 4096 8192 JE X.1:=v.2;have:=J3.1 h.2;.ltf (λj=>.bind (BJ e om om om) λr w=>have:=Ji r 1;.gtf (λq=>.gt (λo=>.some ⟨aQ,aH 1⟩) λo=>have:=Ji X.1.2.2 1;.gt (λn=>.some ⟨aQ,aH 15⟩) λn=>have:=bC X.2 X.1.1;.bind (qI e.2.1) λz g=>.clo g.1 oo (by decide) (.some ⟨⟨h.2,g.1,e.c⟩,aC⟩)) λq=>.some ⟨aQ,aH 1⟩) λj=>.some ⟨aQ,aH 1⟩
end Go.Am
end
section
namespace Go.Am
section
variable (P:Program)
def tZ:Nat->TypeId->Bool|0,_=>false|n+1,t=>match P.underlying t with|some .bool=>true|some (.int _)=>true|some .string=>true|some (.slice e)=>tZ n e&&decide (t<P.types.size/\0<P.cellsOf e)|some (.struct fs)=>fs.toList.all (λf=>tZ n f.type)&&decide (t<P.types.size)|some (.array _ e)=>tZ n e&&decide (t<P.types.size)|_=>false
def gF:Nat->TypeId->List PV->Prop|0,_,_=>False|n+1,t,pvs=>match P.underlying t with|some .bool=> ∃b,pvs=[.b b]|some (.int k)=> ∃z,pvs=[.i k z]/\(Lit.int k z).wf=true|some .string=> ∃l,pvs=[.s l]/\l.length<=maxLen|some (.slice e)=> ∃rows,pvs=[.sl (P.cellsOf e) rows]/\rows.length<=maxLen/\ ∀row∈rows,row.length=P.cellsOf e/\gF n e row|some (.struct fs)=>pvs.length=P.cellsOf t/\ ∀f∈fs.toList,gF n f.type ((pvs.drop f.offset).take (P.cellsOf f.type))|some (.array m e)=>pvs.length=P.cellsOf t/\ ∀i,i<m->gF n e ((pvs.drop (i*P.cellsOf e)).take (P.cellsOf e))|_=>False
end
section
variable {H:Type} {enc:TypeId×Value->H} {P:Program} {w:World} {base:Nat} {sp:Nat->Bool} {held:Bool}
def nh(w:World)(pvs:List PV)(cs:List Value):Prop:=pvs.length=cs.length/\ ∀(i:Nat) p v,pvs[i]?=some p->cs[i]?=some v->J0e w (λr _=>r<w.heap.size) p v
theorem s4{a:Addr}{v:Value}(h:w.cell? a=some v):a.spot=none/\cellAt w a.block a.off=some v/\a.block<w.heap.size:=by
 unfold World.cell? at h;unfold cellAt;split at h;rename_i c t fz e;split at h;cases h;rename_i g;refine⟨by simpa using g,by rw[e];exact h,?_⟩;have:=pI.1 e;exact this.1;cases h
theorem JFs{a:Addr}{n:Nat}{cs:List Value}(h:w.cells? base a n=some cs):cs.length=n/\ ∀i v,cs[i]?=some v->w.cell? (a.add i)=some v:=by
 unfold World.cells? at h;split at h;have g:=mapM_some_length h;refine⟨by simpa using g,λi v e=>?_⟩;have hi:i<n:=by have:=(dK.1 e).1;simp at g;omega
 have:=mapM_some_get h i i (by simp[hi]);rw[this,e];cases h
theorem PC{α:Type}(Q:Nat->α->Prop): ∀(m:Nat),(∀i,i<m-> ∃x,Q i x)-> ∃xs:List α,xs.length=m/\ ∀i x,xs[i]?=some x->Q i x
 |0,_=>⟨[],rfl,λi x h=>by simp at h⟩
 |m+1,h=>by
  obtain⟨xs,j,n⟩:=PC Q m (λi hi=>h i (by omega));obtain⟨y,k⟩:=h m (by omega);refine⟨xs++[y],by simp[j],λi x hi=>?_⟩;rcases zQ3 i xs.length with g|e;rw[rD g]at hi;exact n i x hi;rw[mM e]at hi;have:i-xs.length=0:=by have:=(dK.1 hi).1;simp at this;omega
  rw[this]at hi;simp at hi;subst hi;obtain rfl:i=m:=by omega
  exact k
theorem gr{α:Type}: ∀(xs:List (List α)) (j:Nat) (y:List α),xs[j]?=some y->(xs.flatten.drop ((xs.take j).map List.length).sum).take y.length=y|[],j,y,h=>by simp at h|x::xs,0,y,h=>by simp at h;subst h;simp|x::xs,j+1,y,h=>by simp at h;have:=gr xs j y h;simp only[kx,bP,List.sum_cons,kR,List.drop_length_add_append];exact this
theorem JHM(hl:laidOutB P=true)(hm:mapsRowed P=true): ∀(n:Nat) (t:TypeId) (cs:List Value) (x:DataW H×List MemPlace) (Y:Nat),tZ P n t=true->DataW.trod enc P w base sp held Y t cs=some x->
  ∃pvs,gF P n t pvs/\nh w pvs cs:=by
 have K:=kids_rows hl hm;intro n
 induction n with
 |zero=>intro t cs x Y F;simp[tZ]at F
 |succ n ih=>
  intro t cs x Y F h;unfold tZ at F;unfold gF;split at F;rename_i E;obtain⟨b,rfl,_⟩:=DataW.trod_bool E h;refine⟨[.b b],by simp,rfl,λi p v h1 h2=>?_⟩
  match i with
  |0=>simp at h1 h2;subst h1 h2;exact .b _
  |i+1=>simp at h1
  rename_i k E;obtain⟨z,rfl,_,b1⟩:=DataW.trod_int E h;refine⟨[.i k z],by simpa using b1,rfl,λi p v h1 h2=>?_⟩
  match i with
  |0=>simp at h1 h2;subst h1 h2;exact .i _ _
  |i+1=>simp at h1
  rename_i E;obtain⟨s,rfl,_,ax⟩:=DataW.trod_string E h;refine⟨[.s s.data.toList],⟨_,rfl,by rw[Array.length_toList];exact ax⟩,rfl,λi p v h1 h2=>?_⟩
  match i with
  |0=>simp at h1 h2;subst h1 h2;exact .s _
  |i+1=>simp at h1
  rename_i e E;simp only[JZ,decide_eq_true_eq]at F;rcases DataW.trod_slice E h with⟨rfl,_⟩|⟨a,len,cap,ag,rest,n0,_,rfl,_,_,be,hcm,bf,U,_⟩;refine⟨[.sl (P.cellsOf e) []],⟨[],rfl,zQ2 _,by simp⟩,rfl,λi p v h1 h2=>?_⟩
  match i with
  |0=>simp at h1 h2;subst h1 h2;exact .sl0 _ _ _
  |i+1=>simp at h1
  
  have ao: ∀i,i<len-> ∃row:List PV,(row.length=P.cellsOf e/\gF P n e row)/\ ∀j p,row[j]?=some p-> ∃v,w.cell? (a.add (i*P.cellsOf e)|>.add j)=some v/\J0e w (λr _=>r<w.heap.size) p v:=by
   intro i hi;have h1:=U i hi;have h2: ∃y,ag[i]?=some y:=⟨_,zQ9 (by omega)⟩;obtain⟨y,C⟩:=h2;rw[C,cR]at h1;obtain⟨cs',hc,aw⟩:=h1;obtain⟨row,q1,q2,q3⟩:=ih e cs' y n0 F.1 aw;obtain⟨c1,c2⟩:=JFs hc;refine⟨row,⟨by omega,q1⟩,λj p A=>?_⟩;have S:j<cs'.length:=by have:=(dK.1 A).1;omega
   have hv:=zQ9 S;exact⟨_,c2 j _ hv,q3 j p _ A hv⟩
  obtain⟨rows,b0,D⟩:=PC _ len ao;refine⟨[.sl (P.cellsOf e) rows],⟨rows,rfl,by omega,λrow hr=>?_⟩,rfl,λi p v h1 h2=>?_⟩;obtain⟨i,hi⟩:=mT hr;exact(D i row hi).1
  match i with
  |i+1=>simp at h1
  |0=>
   simp at h1 h2;subst h1 h2;by_cases h0: ∃(i j:Nat) (row:List PV) (p:PV),rows[i]?=some row/\row[j]?=some p;obtain⟨i0,j0,al,p0,aj,b4⟩:=h0;have a8:a.spot=none\/P.cellsOf e=0:=by
    rcases Nat.eq_zero_or_pos (P.cellsOf e)with hz|am;exact .inr hz;have hlen:0<len:=by have:=(dK.1 aj).1;omega
    have N:=zQ9 (l:=rows) (i:=0) (by omega);have q:=D 0 _ N;have ay:=zQ9 (l:=rows[0]'(by omega)) (i:=0) (by omega);obtain⟨v,hv,_⟩:=q.2 0 _ ay;rw[Nat.zero_mul]at hv;exact .inl (by simpa[Addr.add]using(s4 hv).1)
   rcases a8 with a8|hz;have cell: ∀(i j:Nat) (row:List PV) (p:PV),rows[i]?=some row->row[j]?=some p-> ∃v,(a.block<w.heap.size/\cellAt w a.block (a.off+i*P.cellsOf e+j)=some v)/\J0e w (λr _=>r<w.heap.size) p v:=by
    intro i j row p hi A;obtain⟨v,hv,hr⟩:=(D i row hi).2 j p A;obtain⟨s1,s2,s3⟩:=s4 hv;refine⟨v,?_,hr⟩;have e1:((a.add (i*P.cellsOf e)).add j).block=a.block:=by unfold Addr.add;split<;>split<;>rfl
    have e2:((a.add (i*P.cellsOf e)).add j).off=a.off+i*P.cellsOf e+j:=by unfold Addr.add;split<;>split<;>simp_all
    rw[e1]at s3;rw[e1,e2]at s2;exact⟨s3,s2⟩
   have ea:a=⟨a.block,a.off,none⟩:=by cases a;simp_all
   rw[ea,<-b0];refine .sl _ rows a.block a.off cap (λi j=>((cellAt w a.block (a.off+i*P.cellsOf e+j)).getD default)) (by omega) (λrow hr=>?_) (λi j row p hi A=>?_) (λi j row p hi A=>?_);obtain⟨i,hi⟩:=mT hr;exact(D i row hi).1.1;obtain⟨v,⟨h3,h4⟩,_⟩:=cell i j row p hi A;exact⟨h3,by rw[h4];rfl⟩;obtain⟨v,⟨h3,h4⟩,h5⟩:=cell i j row p hi A;rw[h4];exact h5;have:=(D i0 al aj).1.1;have:=(dK.1 b4).1;omega
   
   rcases Nat.eq_zero_or_pos len with hz|am;have:rows=[]:=by cases rows<;>simp_all
   subst this;subst hz;exact .sl0 _ _ _;exfalso;have N:=zQ9 (l:=rows) (i:=0) (by omega);have q:=(D 0 _ N).1.1;exact h0 ⟨0,0,_,_,N,zQ9 (by omega)⟩
  rename_i fs E;simp only[JZ,decide_eq_true_eq,TW]at F;obtain⟨xs,n0,_,_,V,ai,U⟩:=DataW.trod_struct E h;obtain⟨_,W,ac⟩:=K.struct F.2 E;have hf: ∀i,i<fs.toList.length-> ∃g:List PV,∀f,fs.toList[i]?=some f->gF P n f.type g/\nh w g ((cs.drop f.offset).take (P.cellsOf f.type)):=by
   intro i hi;have hfi:=zQ9 hi;have an:=zQ5 hfi;have av:fs[i]?=some (fs.toList[i]):=by rw[<-TP];exact hfi
   have h1:=U i _ av;have h2: ∃y,xs[i]?=some y:=⟨_,zQ9 (by simpa[ai]using hi)⟩;obtain⟨y,C⟩:=h2;rw[C]at h1;obtain⟨g,q1,q2⟩:=ih _ _ _ _ (F.1 _ an) h1;refine⟨g,λf a5=>?_⟩;rw[hfi]at a5;injection a5 with a5;subst a5;exact⟨q1,q2⟩
  obtain⟨B,a6,J⟩:=PC _ _ hf;have hlen: ∀(j:Nat) (f:Field),fs.toList[j]?=some f-> ∀g:List PV,B[j]?=some g->g.length=P.cellsOf f.type:=by
   intro j f A g C;have q:=(J j g C f A).2.1;have o:=ac j f A;rw[q,eD,rA,V,W,o];have:((fs.toList.take j).map λf=>P.cellsOf f.type).sum+P.cellsOf f.type<=(fs.toList.map λf=>P.cellsOf f.type).sum:=by
    have e1:fs.toList=fs.toList.take j++(f::fs.toList.drop (j+1)):=by have R:=(dK.1 A);obtain⟨R,he⟩:=R;rw[<-he,<-List.drop_eq_getElem_cons R,tM]
    conv=>rhs;rw[e1]
    simp only[yI,bP,List.sum_append,List.sum_cons];omega
   omega
  have O:B.map List.length=fs.toList.map λf=>P.cellsOf f.type:=by
   apply zQ6;intro j;rw[gA,gA];cases C:B[j]? with
   |none=>
    have:fs.toList[j]?=none:=by rw[List.getElem?_eq_none_iff]at C⊢;omega
    rw[this];rfl
   |some g=>
    have A:j<fs.toList.length:=by have:=(dK.1 C).1;omega
    have M:=zQ9 A;rw[M];simp only[dU];rw[hlen j _ M g C]
  have I: ∀(j:Nat) (f:Field),fs.toList[j]?=some f->((B.take j).map List.length).sum=f.offset:=by intro j f A;rw[ac j f A,Ci,O,<-Ci]
  refine⟨B.flatten,⟨?_,λf hf=>?_⟩,?_,λi p v h1 h2=>?_⟩;rw[IN,O,W];obtain⟨j,A⟩:=mT hf;have R:j<B.length:=by have:=(dK.1 A).1;omega
  have G:=zQ9 R;have:=gr B j _ G;rw[I j f A,hlen j f A _ G]at this;rw[this];exact(J j _ G f A).1;rw[IN,O,V,W]
  
  have ab: ∀(l:List (List PV)) (i:Nat) p,l.flatten[i]?=some p-> ∃j g k,l[j]?=some g/\g[k]?=some p/\i=((l.take j).map List.length).sum+k:=by
   intro l
   induction l with
   |nil=>intro i p h;simp at h
   |cons y l T=>
    intro i p h;rw[kR]at h;rcases zQ3 i y.length with S|a9;rw[rD S]at h;exact⟨0,y,i,rfl,h,by simp⟩;rw[mM a9]at h;obtain⟨j,g,k,L,Q,a3⟩:=T _ _ h;exact⟨j+1,g,k,by simpa using L,Q,by simp only[kx,bP,List.sum_cons];omega⟩
  obtain⟨j,g,k,L,Q,a3⟩:=ab _ _ _ h1;have A:j<fs.toList.length:=by have:=(dK.1 L).1;omega
  have M:=zQ9 A;have q:=(J j g L _ M).2;refine q.2 k p v Q ?_;have hk:k<P.cellsOf (fs.toList[j]).type:=by have:=(dK.1 Q).1;rw[hlen j _ M g L]at this;exact this
  rw[List.getElem?_take_of_lt hk,EC,<-I j _ M,<-a3];exact h2;rename_i m e E;simp only[JZ,decide_eq_true_eq]at F;obtain⟨xs,n0,_,_,V,ai,U⟩:=DataW.trod_array E h;obtain⟨_,aa⟩:=K.array F.2 E;have hf: ∀i,i<m-> ∃g:List PV,gF P n e g/\nh w g ((cs.drop (i*P.cellsOf e)).take (P.cellsOf e)):=by intro i hi;have h1:=U i hi;have h2: ∃y,xs[i]?=some y:=⟨_,zQ9 (by omega)⟩;obtain⟨y,C⟩:=h2;rw[C]at h1;exact ih _ _ _ _ F.1 h1
  obtain⟨B,a6,J⟩:=PC _ _ hf;have hlen: ∀(j:Nat) g,B[j]?=some g->g.length=P.cellsOf e:=by
   intro j g C;have q:=(J j g C).2.1;have A:j<m:=by have:=(dK.1 C).1;omega
   rw[q,eD,rA,V,aa];have:j*P.cellsOf e+P.cellsOf e<=m*P.cellsOf e:=by rw[<-Nat.succ_mul];exact zQ4 _ A
   omega
  have Z: ∀y∈B,y.length=P.cellsOf e:=λy C=>by obtain⟨j,A⟩:=mT C;exact hlen j y A
  have a0: ∀l:List (List PV),(∀y∈l,y.length=P.cellsOf e)->(l.map List.length).sum=l.length*P.cellsOf e:=by
   intro l
   induction l with
   |nil=>intro _;simp
   |cons y l T=>intro hh;simp[hh y (by simp),T (λz hz=>hh z (by simp[hz])),Nat.succ_mul,Nat.add_comm]
  have I: ∀j,j<=m->((B.take j).map List.length).sum=j*P.cellsOf e:=by intro j A;rw[a0 _ (λy C=>Z y (kr C)),eD,a6,Nat.min_eq_left A]
  refine⟨B.flatten,⟨?_,λj A=>?_⟩,?_,λi p v h1 h2=>?_⟩;rw[IN,a0 _ Z,a6,aa];have G:=zQ9 (l:=B) (i:=j) (by omega);have:=gr B j _ G;rw[I j (by omega),hlen j _ G]at this;rw[this];exact(J j _ G).1;rw[IN,a0 _ Z,V,a6,aa];have ab: ∀(l:List (List PV)) (i:Nat) p,l.flatten[i]?=some p-> ∃j g k,l[j]?=some g/\g[k]?=some p/\i=((l.take j).map List.length).sum+k:=by
   intro l
   induction l with
   |nil=>intro i p h;simp at h
   |cons y l T=>
    intro i p h;rw[kR]at h;rcases zQ3 i y.length with S|a9;rw[rD S]at h;exact⟨0,y,i,rfl,h,by simp⟩;rw[mM a9]at h;obtain⟨j,g,k,L,Q,a3⟩:=T _ _ h;exact⟨j+1,g,k,by simpa using L,Q,by simp only[kx,bP,List.sum_cons];omega⟩
  obtain⟨j,g,k,L,Q,a3⟩:=ab _ _ _ h1;have A:j<m:=by have:=(dK.1 L).1;omega
  have q:=(J j g L).2;refine q.2 k p v Q ?_;have hk:k<P.cellsOf e:=by have:=(dK.1 Q).1;rw[hlen j g L]at this;exact this
  rw[List.getElem?_take_of_lt hk,EC,<-I j (by omega),<-a3];exact h2;cases F
end
end Go.Am
end
section
namespace Go.Am
open Go.ChangeShapes Go.WideShapes Go.ChangeAt Go.RowKit
def gh0(w:World):Gh:=⟨λ_=>none,λr _=>r<w.heap.size⟩
theorem ZR(g:Gh)(w:World)(b r o:Nat): ¬Wr1 ⟨[],g,w⟩ b r o:=by simp[Wr1]
theorem JLY(w:World):Inv ⟨[],gh0 w,w⟩ where
 box:=λb cs h=>by simp at h
 arr:=λb wm esz rows h=>by simp at h
 apart:=λb1 b2 r o h=>absurd h (ZR _ _ _ _ _)
 const:=λr o h=>⟨h,λb=>ZR _ _ _ _ _⟩
def wQ(w w':World):Prop:=pB (λ_ _=>False) w w'
theorem wQ.kept{w w':World}(h:wQ w w')(e:MemPlace->Prop):w.keptBut w' e:=by
 obtain⟨h1,h2,h3,g,j⟩:=h;refine⟨g,j,λi hi=>?_⟩;grind
theorem wQ.same{w w':World}(h:wQ w w'){p:MemPlace}(hp:p.block<w.heap.size):w.sameAt w' p:=by
 obtain⟨h1,h2,h3,o,q⟩:=h;cases p with
 |cell b off=>
  have g:b<w.heap.size:=hp;have j:=DW g;show w'.cell? ⟨b,off,none⟩=w.cell? ⟨b,off,none⟩;grind [rY,cellAt]
 |map b=>
  have g:b<w.heap.size:=hp;have j:=DW g;show w'.heap[b]?=w.heap[b]?;cases hw:w.heap[b]? with
  |none=>simp_all
  |some x=>
   cases x with
   |cells c e fz=>
    obtain⟨c',k,v,r⟩:=h2 b c e fz hw;rw[k];have:c'=c:=by apply Array.ext_getElem?;simp_all
    rw[this]
   |_=>exact h3 b _ hw (λc e fz n=>by cases n)
theorem wQ.frozen{w w':World}(h:wQ w w'){a:Addr}(hp:a.block<w.heap.size):w'.frozen? a=w.frozen? a:=by
 obtain⟨h1,h2,h3,e,g⟩:=h;grind [World.frozen?]
theorem JEf{P:Program}{F:Orc}(n:jX P F){f:FuncId}{args:List AV}{vals:Array Value}{w:World}(hl:args.length=vals.size)
  (hr: ∀(i:Nat) x v,args[i]?=some x->vals[i]?=some v->JK ⟨[],gh0 w,w⟩ x v) (h:F f args []=some (.p (.b true),[])):
  Calls P f vals w λe w'=>e=.returned (.bool true)/\wQ w w':=by
 refine((n _ _ _ _ h).2 (gh0 w) w vals (JLY w) hl hr).mono λe w' ⟨v,g',C,_,j,hrel⟩=>?_;cases hrel with
 |p _ _ hrel=>
  cases hrel with
  |b=>refine⟨C,?_⟩;obtain⟨g,q,k,y⟩:=j.keep;refine⟨g,λr c e fz hr=>?_,k,y⟩;obtain⟨c',A,D,B⟩:=q r c e fz hr;exact⟨c',A,D,λo _=>B o (fun⟨b,z⟩=>ZR _ _ _ _ _ z)⟩
section
variable {H:Type} {enc:TypeId×Value->H} {P:Program}
theorem xp(hl:laidOutB P=true)(hm:mapsRowed P=true)(j: ∀{t e:TypeId},t<P.types.size->P.underlying t=some (.slice e)->0<P.cellsOf e){W W':World}{sp:Nat->Bool}:
  ∀{ts:List TypeId} {vs:List Value} {k:List (DataW H)} {ps:List MemPlace},(∀t∈ts,t<P.types.size)->DataW.TrodAll enc P W 0 (λ_=>true) true ts vs k ps->
   (∀p∈ps,W.sameAt W' p)->(∀p∈ps,sp p.block=true)->DataW.TrodAll enc P W' 0 sp true ts vs k ps
 |[],[],[],_,_,h,_,_=>h
 |[],_::_,_,_,_,h,_,_=>h.elim
 |[],[],_::_,_,_,h,_,_=>h.elim
 |_::_,[],_,_,_,h,_,_=>h.elim
 |_::_,_::_,[],_,_,h,_,_=>h.elim
 |t::ts,v::vs,d::k,_,o,⟨p,q,⟨n,h1⟩,h2,rfl⟩,w,r=>by refine⟨p,q,⟨n,DataW.trod_stays (kids_rows hl hm) j (λh=>by cases h) (o t (by simp)) h1 (λx g=>w x (by simp[g])) (λx g=>r x (by simp[g]))⟩,?_,rfl⟩;exact xp hl hm j (λx g=>o x (by simp[g])) h2 (λx g=>w x (by simp[g])) (λx g=>r x (by simp[g]))
def SN(P:Program):Bool:=(List.range P.types.size).all λt=>match P.underlying t with|some (.slice e)=>decide (0<P.cellsOf e)|_=>true
theorem Lv(h:SN P=true){t e:TypeId}(g:t<P.types.size)(he:P.underlying t=some (.slice e)):0<P.cellsOf e:=by
 grind [SN]
theorem JG9{fn:Func}{s:ChangeSpec}{tb:TypeId}(hl:laidOutB P=true)(hm:mapsRowed P=true)(E:SN P=true)(z: ∀t∈fn.params.toList,t<P.types.size)
  (o:fn.resultTypes= #[tb]) (y:P.underlying tb=some .bool) (e:s.vars=[]) {apart fresh g again:Bool} {W W':World} {args:Array Value} {k B:List (DataW H)} {n:List MemPlace}
  (F:B=[]->s.fn H (k++B)={results:=[.lit (.bool true)],args:=k})
  (A:DataW.Whole enc P fn.params.toList s.vars apart W args.toList k B n) (j:wQ W W'):s.post enc P fn apart fresh g again W args (.bool true) W':=by
 have w:=A;have h:=A.lt;obtain⟨p,q,h1,h2,rfl,I,M⟩:=A;rw[e]at h2;obtain⟨rfl,rfl⟩:=trodVars_none h2;rw[kO]at w h I M;have K:=F rfl;have r: ∀sp:Nat->Bool,(∀x∈p,sp x.block=true)->DataW.TrodAll enc P W' 0 sp true fn.params.toList args.toList k p:=λsp C=>
  xp hl hm (λJ N=>Lv E J N) z h1 (λx D=>j.same (h x D)) C
 have L: ∀(b:Nat) (sp:Nat->Bool) (G:Bool),DataW.TrodAll enc P W' b sp G fn.resultTypes.toList ((Value.bool true).resultList fn.resultTypes.size) [.lit (.bool true)] []:=by intro b sp G;rw[o];exact trodAll_cons_mk (shut_bool y _) trodAll_mk0
 refine⟨k,[],p,[],p,[],w,?_,?_,?_,j.kept _,λ_=>⟨?_,?_⟩⟩;grind;simp_all;rw[K,e];rfl;exact ok_one o rfl (okWide_bool_mk y _);refine⟨_,[],[]++p,⟨[]++p,[],trodAll_append (r _ (λ_ _=>rfl)) (L _ _ _),by rw[e];rfl,by simp,λb off C=>?_,λO=>by simp_all⟩,λx D _=>by simpa using D⟩;have v:MemPlace.cell b off∈p:=by simpa using C
 rw[j.frozen (a:=⟨b,off,none⟩) (h _ v)];exact I b off v
def VH(P:Program)(t:TypeId)(pvs:List PV):AV:=match P.underlying t with|some (.struct _)=>.data pvs|some (.array _ _)=>.data pvs|_=>match pvs with|[c]=>.p c|_=>.unk
theorem p9(hl:laidOutB P=true)(hm:mapsRowed P=true){n:Nat}{t:TypeId}{w:World}{r:Reach}{base:Nat}{sp:Nat->Bool}{v:Value}{d:DataW H}{ps:List MemPlace}(hp:tZ P n t=true)
  (hv:Value.okWide P w r base t v) (h:DataW.Trod enc P w 0 sp true t v d ps): ∃pvs,gF P n t pvs/\JK ⟨[],gh0 w,w⟩ (VH P t pvs) v:=by
 obtain⟨o,h⟩:=h;obtain⟨pvs,j,C,q⟩:=JHM hl hm n t _ _ o hp h;refine⟨pvs,j,?_⟩;cases n with
 |zero=>grind [tZ]
 |succ n=>
  unfold tZ at hp;unfold Value.okWide at hv;unfold VH;have one: ∀{c:PV},pvs=[c]->(∀cs,v≠.agg cs)->JK ⟨[],gh0 w,w⟩ (.p c) v:=by intro c A B;subst A;refine .p _ _ (q 0 c v rfl ?_);cases v<;>first|rfl|simp_all
  unfold gF at j;split at hp;rename_i g;rw[g]at j hv⊢;obtain⟨b,rfl⟩:=j;exact one rfl (λcs y=>by simp_all [Cell.okWide,Cell.ok]);rename_i k g;rw[g]at j hv⊢;obtain⟨z,rfl,_⟩:=j;exact one rfl (λcs y=>by simp_all [Cell.okWide,Cell.ok]);rename_i g;rw[g]at j hv⊢;obtain⟨z,rfl,_⟩:=j;exact one rfl (λcs y=>by simp_all [Cell.okWide,Cell.ok]);rename_i e g;rw[g]at j hv⊢;obtain⟨rows,rfl,_⟩:=j;exact one rfl (λcs y=>by simp_all [Cell.okWide,Cell.ok]);rename_i fs g;rw[g]at hv⊢;obtain⟨cs,rfl,_⟩:=hv;exact .data _ _ (by simp_all) (λi x v h1 h2=>q i x v h1 (by grind [Value.cells]));rename_i m e g;rw[g]at hv⊢;obtain⟨cs,rfl,_⟩:=hv;exact .data _ _ (by simp_all) (λi x v h1 h2=>q i x v h1 (by grind [Value.cells]));cases hp
end
end Go.Am
end
section
namespace Go.Am
section
variable (P:Program) {α β:Type}
def Rd(n:Nat)(t:TypeId)(r:α->List PV)(Q:α->Prop):Prop:= ∀pvs,gF P n t pvs-> ∃x,pvs=r x/\Q x
def fieldsOf(t:TypeId):Option (List (TypeId×Nat)):=match P.underlying t with|some (.struct fs)=>some (fs.toList.map λf=>(f.type,f.offset))|_=>none
variable {P}
theorem JIZ{n:Nat}{t:TypeId}{k:IntKind}(e:P.underlying t=some (.int k)):Rd P (n+1) t (r_i k) λz=>k.min<=z/\z<=k.max:=by
 intro pvs h;unfold gF at h;rw[e]at h;obtain⟨z,rfl,g⟩:=h;refine⟨z,rfl,?_⟩;grind [Lit.wf]
theorem Rd.mono{n:Nat}{t:TypeId}{r:α->List PV}{Q g:α->Prop}(h:Rd P n t r Q)(hq: ∀x,Q x->g x):Rd P n t r g:=λpvs j=>by
 obtain⟨x,e,q⟩:=h pvs j;grind
theorem JIx{n:Nat}{t:TypeId}(e:P.underlying t=some .bool):Rd P (n+1) t r_b λ_=>True:=by intro pvs h;unfold gF at h;rw[e]at h;obtain⟨z,rfl⟩:=h;exact⟨z,rfl,trivial⟩
theorem JJF{n:Nat}{t:TypeId}(e:P.underlying t=some .string):Rd P (n+1) t r_s λl=>l.length<=maxLen:=by intro pvs h;unfold gF at h;rw[e]at h;obtain⟨z,rfl,g⟩:=h;exact⟨z,rfl,g⟩
theorem JGS{n:Nat}{t e:TypeId}{r:α->List PV}{Q:α->Prop}{k:Nat}(v:P.underlying t=some (.slice e))(hk:P.cellsOf e=k)(he:Rd P n e r Q):
  Rd P (n+1) t (Zm k r) λl=>l.length<=maxLen/\ ∀x∈l,Q x:=by
 intro pvs h;unfold gF at h;rw[v]at h;obtain⟨rows,rfl,q,g⟩:=h;have j: ∀rows:List (List PV),(∀row∈rows,row.length=P.cellsOf e/\gF P n e row)-> ∃l:List α,rows=l.map r/\ ∀x∈l,Q x:=by
  intro rows
  induction rows with
  |nil=>simp_all
  |cons row rows ih=>
   intro o;obtain⟨l,rfl,q⟩:=ih (λr g=>o r (by simp[g]));obtain⟨x,rfl,A⟩:=he row (o row (by simp)).2;refine⟨x::l,rfl,λy z=>?_⟩;grind
 obtain⟨l,rfl,w⟩:=j rows g;exact⟨l,by rw[hk];rfl,by simpa using q,w⟩
theorem JFe{n m:Nat}{t e:TypeId}{r:α->List PV}{Q:α->Prop}{k:Nat}(o:P.underlying t=some (.array m e))(hk:P.cellsOf e=k)(hm:P.cellsOf t=m*k)(he:Rd P n e r Q):
  Rd P (n+1) t (pK (n:=m) r) λv=> ∀(i:Nat) (h:i<m),Q v[i]:=by
 intro pvs h;unfold gF at h;rw[o]at h;obtain⟨j,y⟩:=h;rw[hm]at j;have g: ∀(m:Nat) (pvs:List PV),pvs.length=m*k->(∀i,i<m->gF P n e ((pvs.drop (i*k)).take k))-> ∃l:List α,l.length=m/\pvs=(l.map r).flatten/\ ∀(i:Nat) (h:i<l.length),Q l[i]:=by
  intro m
  induction m with
  |zero=>simp_all
  |succ m ih=>
   intro pvs h q;rw[Nat.succ_mul]at h;obtain⟨l,h1,h2,h3⟩:=ih (pvs.drop k) (by simp_all) (λi hi=>by
    grind [List.drop_drop,Nat.succ_mul])
   obtain⟨x,w,z⟩:=he _ (q 0 (by omega));rw[Nat.zero_mul,HZ]at w;refine⟨x::l,by simp[h1],?_,λi hi=>?_⟩
   all_goals grind [List.take_append_drop]
 obtain⟨l,h1,h2,h3⟩:=g m pvs j (λi hi=>by simp_all);refine⟨⟨l.toArray,by simpa using h1⟩,?_,λi hi=>?_⟩;rw[h2];rfl;simp_all
theorem JE8{m n:Nat}{t:TypeId}{e:List (TypeId×Nat)}{pvs:List PV}(hm:m=n+1)(g:fieldsOf P t=some e)(h:gF P m t pvs):
  pvs.length=P.cellsOf t/\ ∀x∈e,gF P n x.1 ((pvs.drop x.2).take (P.cellsOf x.1)):=by
 grind [gF,fieldsOf]
end
end Go.Am
end
section
namespace Go.Am
section
variable (P:Program)
def zU(p:Ty->TypeId->Bool):Nat->List (TypeId×Nat)->Ty->Bool|_,[],.u=>true|_,[],_=>false|o,[f],a=>decide (f.2=o)&&p a f.1&&decide (P.cellsOf f.1=a.sz)|o,f::g::r,.pr a c=>decide (f.2=o)&&p a f.1&&decide (P.cellsOf f.1=a.sz)&&zU p (o+a.sz) (g::r) c|_,_::_::_,_=>false
def yJ:Nat->Ty->TypeId->Bool|0,_,_=>false|n+1,ty,t=>match fieldsOf P t with|some fs=>zU P (yJ n) 0 fs ty&&decide (P.cellsOf t=ty.sz)|none=>match P.underlying t,ty with|some .bool,.b=>true|some (.int k),.i k'=>decide (k=k')|some .string,.s=>true|some (.slice e),.l a=>yJ n a e&&decide (P.cellsOf e=a.sz)|some (.array m e),.ar g a=>decide (m=g)&&yJ n a e&&decide (P.cellsOf e=a.sz)&&decide (P.cellsOf t=m*a.sz)|_,_=>false
def Ty.inR:(t:Ty)->t.D->Prop| .b,_=>True| .i k,z=>k.min<=z/\z<=k.max| .s,z=>List.length z<=maxLen| .l t,z=>List.length z<=maxLen/\ ∀x∈(z:List t.D),t.inR x| .pr a c,x=>a.inR x.1/\c.inR x.2| .ar n t,v=> ∀(i:Nat) (h:i<n),t.inR ((v:Vector t.D n)[i])| .u,_=>True| .f,_=>True
end
section
variable {P:Program}
theorem E0{n:Nat}(ih: ∀ty t,yJ P n ty t=true->Rd P n t (cel ty) ty.inR): ∀(o:Nat) (fs:List (TypeId×Nat)) (ty:Ty) (pvs:List PV),zU P (yJ P n) o fs ty=true->
  (∀x∈fs,gF P n x.1 ((pvs.drop x.2).take (P.cellsOf x.1)))-> ∃x:ty.D,(pvs.drop o).take ty.sz=cel ty x/\ty.inR x
 |o,[],ty,pvs,h,_=>by
  cases ty with
  |u=>exact⟨(),by simp[Ty.sz,cel],trivial⟩
  |_=>grind [zU]
 |o,[f],ty,pvs,h,hf=>by
  simp only[zU,JZ,decide_eq_true_eq]at h;obtain⟨⟨h1,h2⟩,h3⟩:=h;have:=hf f (by simp);rw[h1,h3]at this;obtain⟨x,e,q⟩:=ih ty f.1 h2 _ this;grind
 |o,f::g::r,ty,pvs,h,hf=>by
  cases ty with
  |pr a c=>
   simp only[zU,JZ,decide_eq_true_eq]at h;obtain⟨⟨⟨h1,h2⟩,h3⟩,j⟩:=h;have:=hf f (by simp);rw[h1,h3]at this;obtain⟨x,e,q⟩:=ih a f.1 h2 _ this;obtain⟨y,e',q'⟩:=E0 ih (o+a.sz) (g::r) c pvs j (λz k=>hf z (by simp_all));refine⟨(x,y),?_,q,q'⟩;grind [cel,Ty.sz,List.drop_drop]
  |_=>grind [zU]
theorem rdT: ∀(n:Nat) (ty:Ty) (t:TypeId),yJ P n ty t=true->Rd P n t (cel ty) ty.inR
 |0,_,_,h=>by cases h
 |n+1,ty,t,h=>by
  unfold yJ at h;split at h;rename_i fs j;simp only[JZ,decide_eq_true_eq]at h;intro pvs r;obtain⟨y,v⟩:=JE8 rfl j r;obtain⟨x,e,q⟩:=E0 (rdT n) 0 fs ty pvs h.1 v;grind;split at h;rename_i g;exact JIx g;rename_i k k' g;simp only[decide_eq_true_eq]at h;subst h;exact JIZ g;rename_i g;exact JJF g;rename_i e a g;simp only[JZ,decide_eq_true_eq]at h;exact JGS g h.2 (rdT n a e h.1);rename_i m e w a g;simp only[JZ,decide_eq_true_eq]at h;obtain⟨⟨⟨h1,h2⟩,h3⟩,o⟩:=h;subst h1;exact JFe g h3 o (rdT n a e h2);cases h
def Dr(P:Program)(t:TypeId):Bool:=match P.underlying t with|some (.struct _)=>true|some (.array _ _)=>true|_=>false
def lh(agg:Bool)(t:Ty)(x:t.D):TA:=if agg=true then .dt t x else .c (.d t x)
theorem D5(L:Nat->Nat){t:TypeId}{ty:Ty}{agg:Bool}(ha:Dr P t=agg)(h1:agg=false->ty.sz=1)(x:ty.D):VH P t (cel ty x)=bY L (lh agg ty x):=by
 unfold VH Dr at*;generalize P.underlying t=u at ha⊢;rcases u with _|d;subst ha;dsimp only;rw[IL (h1 rfl) x];rfl;cases d<;>first
 |(subst ha;rfl)
 |(subst ha;dsimp only;rw[IL (h1 rfl) x];rfl)
theorem JJO{F:Orc}{f:FuncId}{g:Sig}{S:(tyL g.ti).D->Option (tyL g.to).D}{xs:List TA}{x:(tyL g.ti).D}{y:(tyL g.to).D}(he:EOk F (aG f g S))(hx:yX g xs []=some x)(e:S x=some y)
  (hv:IZ g y=some (.a (.c (.d .b true)),[])):F f (xs.map (bY (lns []))) []=some (.p (.b true),[]):=by
 have h:(aG f g S).go xs [] (λv out=>some (v,out))=some (TV.a (.c (.d .b true)),([]:List (Bool×TB))):=by simp only[aG,hx,e,JI,hv];cases g.same<;>rfl
 obtain⟨v,out,h1,_,h3⟩:=he.ok h;injection h3 with h3;injection h3 with h4 h5;subst h4 h5;exact h1
end
end Go.Am
end
section
namespace Go.Am
set_option linter.unusedVariables false
set_option maxRecDepth 20000
set_option maxHeartbeats 1000000
section
variable {B S:Int}
def EF(e:J2):Prop:=1<=e.1/\e.1<=1099511627776/\1<=e.2.2.1/\e.2.2.1<=1073741824/\0<=e.2.2.2.1/\e.2.2.2.1<e.1/\0<=e.2.2.2.2.1/\e.2.2.2.2.1<e.1/\0<=e.2.2.2.2.2.1/\e.2.2.2.2.2.1<e.1/\e.2.2.2.2.2.2.2=[]/\kG e.2.2.2.2.2.2.1=some true/\((e.2.1=1/\e.2.2.2.2.2.1=0)\/(e.2.1=2/\0<e.2.2.2.1/\1<=e.2.2.2.2.2.1/\e.2.2.2.2.2.1<=e.2.2.2.1))
theorem RV{x:JQ}(e:mG x=some true):0<=x.1/\x.1<x.2:=by
 have g:Par (mG x) λy=>y=true->0<=x.1/\x.1<x.2:=by unfold mG;exact .ge (λc=>.some λd=>⟨c,fU.1 d⟩) λ_=>.some nofun
 exact g _ e rfl
theorem EF.of{e:J2}(h:Jm e=some true)(hk:e.2.1=1\/e.2.1=2):EF e:=by
 have w:Par (qQ e) λy=>y.2=true->y.1=e->1<=e.2.2.1/\e.2.2.1<=1073741824/\e.2.2.2.2.2.2.2=[]/\kG e.2.2.2.2.2.2.1=some true/\((e.2.1=1/\e.2.2.2.2.2.1=0)\/(e.2.1=2/\0<e.2.2.2.1/\1<=e.2.2.2.2.2.1/\e.2.2.2.2.2.1<=e.2.2.2.1)):=by
  unfold qQ;refine .eq (λc1=>.bind λG h2=>.eq (λg=>by omega) λ_=>.ite (λj=>.ge (λn=>.some λk K=>?_) λ_=>.some nofun) λ_=>.some nofun) λc1=>.eq (λg=>.bind λG h2=>.eq (λ_=>.ite (λj=>.gt (λP=>.ge (λQ=>.le (λO=>.ge (λn=>.some λk K=>?_) λ_=>.some nofun) λ_=>.some nofun) λ_=>.some nofun) λ_=>.some nofun) λ_=>.some nofun) λc=>absurd g c) λg=>by omega
  grind [iC];grind [iC]
 have o:Par (Jm e) λy=>y=true->EF e:=by unfold Jm;refine .bind λa L=>.ite (λc1=>.ite (λg=>.ge (λn=>.le (λk=>.bind λb1 r=>.ite (λE=>.bind λb2 q=>.ite (λj=>.bind λb3 v=>.some λB=>?_) λ_=>.some nofun) λ_=>.some nofun) λ_=>.some nofun) λ_=>.some nofun) λ_=>.some nofun) λ_=>.some nofun;subst E;subst j;subst B;obtain⟨M,N,H,J,I⟩:=w _ L c1 (eB.1 g);obtain⟨F,C⟩:=RV r;obtain⟨x,A⟩:=RV q;obtain⟨z,D⟩:=RV v;exact⟨n,k,M,N,F,C,x,A,z,D,H,J,I⟩
 exact o _ h rfl
def aV(e:J2):Int:=e.2.2.2.2.2.2.1.1
end
section
variable {B S:Int}
theorem Dp{α:Type}{l:List α}{i:Int}(h0:0<=i)(h1:i<J0 l): ∃a,idx l i=some a/\l[i.toNat]?=some a:=by simp_all [J0,idx]
theorem oK{α:Type}{o:Option α}{v:α}(h:o=some v):Tot o λy=>y=v:=⟨v,h,rfl⟩
end
section
variable {B S:Int}
def ltE(a b:J2):Prop:=aV a<aV b\/(aV a=aV b/\a.1<b.1)
end
section
variable {B S:Int}
theorem ltE.trans{a b c:J2}(h1:ltE a b)(h2:ltE b c):ltE a c:=by
 grind [ltE]
end
end Go.Am
end
section
namespace Go.Am
set_option linter.unusedVariables false
set_option maxRecDepth 20000
set_option maxHeartbeats 1000000
section
variable {mE:List J2} {dE:Int} {pE:Int->Prop} {B S:Int}
def bW(l:List J2)(p:Int):Int:=l.foldl (λa e=>if(e.2.1=1\/e.2.1=2)/\aV e=p then e.1 else a) 0
theorem uO(l:List J2)(e:J2)(p:Int):bW (l++[e]) p=if(e.2.1=1\/e.2.1=2)/\aV e=p then e.1 else bW l p:=by simp[bW,List.foldl_append]
theorem uS{l:List J2}{e:J2}{p:Int}(h: ¬((e.2.1=1\/e.2.1=2)/\aV e=p)):bW (l++[e]) p=bW l p:=by rw[uO,if_neg h]
abbrev slE(e:J2):Int:=e.2.2.2.2.2.2.1.2.1
abbrev bfE(e:J2):JY:=e.2.2.2.2.2.2.1.2.2.1
abbrev afE(e:J2):JY:=e.2.2.2.2.2.2.1.2.2.2
def cC(l:List J2)(p:Int):Vector JY 16:=l.foldl (λa e=>if(e.2.1=1\/e.2.1=2)/\aV e=p then fY a (slE e).toNat (afE e)else a) (Vector.replicate 16 (false,[]))
theorem FS(l:List J2)(e:J2)(p:Int):cC (l++[e]) p=if(e.2.1=1\/e.2.1=2)/\aV e=p then fY (cC l p) (slE e).toNat (afE e)else cC l p:=by simp[cC,List.foldl_append]
theorem SA{l:List J2}{e:J2}{p:Int}(h: ¬((e.2.1=1\/e.2.1=2)/\aV e=p)):cC (l++[e]) p=cC l p:=by rw[FS,if_neg h]
structure Rel(mE:List J2)(pE:Int->Prop)(l:List J2)(n:Int)(fr:List aF)(lk rows:List aA):Prop where
 pre:mE<+:l
 sub: ∀f∈fr,pE f.1.1
 con: ∀f∈fr,f.1.2.2=cC l f.1.1
 rng: ∀f∈fr,0<=f.1.1/\f.1.1<n
 one:fr.Pairwise λa b=>a.1.1≠b.1.1
 apt: ∀f∈fr,∀d∈lk,d.1≠f.1.1
 hot: ∀f∈fr,f.1.2.1=bW l f.1.1/\(f.2.1=false-> ∀r,idx rows f.1.1=some r->r.1=bW l f.1.1)
 lak: ∀d∈lk,d.2.2=bW l d.1
 row: ∀p r,idx rows p=some r->r.1<=bW l p/\((∀f∈fr,f.1.1≠p)->(∀d∈lk,d.1≠p)->r.1=bW l p)
def UO(m:List J2)(s:List UInt8):Prop:= ∀c,vH s=some (c,0)->Rel [] (λ_=>True) m c.1 [] c.2.2.2.1 c.2.2.2.2
def NX(m:List J2)(e:J2):Prop:=e.1=J0 m+1/\Jm e=some true/\((e.2.1=1\/e.2.1=2)->e.2.2.2.2.1=bW m (aV e)/\vat (cC m (aV e)) (slE e).toNat=some (bfE e))/\(e.2.1=7->e.2.2.2.2.2.1<=bW m (aV e))/\(e.2.1=6->UO m e.2.2.2.2.2.2.2)
def cQ(l:List J2):Prop:= ∀(i:Nat) e,l[i]?=some e->NX (l.take i) e
def gE(dE:Int)(l:aD):Prop:=l.1=1/\(0<=l.2.2/\dE<=l.2.2)/\l.2.2<=J0 l.2.1/\J0 l.2.1<=4096
def aW(mE:List J2)(dE:Int)(pE:Int->Prop)(k:J4):Prop:=gE dE k.2.2.1/\cQ k.2.2.1.2.1/\Rel mE pE k.2.2.1.2.1 k.1 k.2.2.2.1.2.1 k.2.2.2.2.2.2.2 k.2.2.2.2.2.2.1
theorem cQ.app{l:List J2}{e:J2}(h:cQ l)(he:NX l e):cQ (l++[e]):=by
 intro i x g;by_cases hi:i<l.length;rw[rD hi]at g;rw[List.take_append_of_le_length (Nat.le_of_lt hi)];exact h i x g;rw[mM (by omega)]at g;have h0:i=l.length:=by have:=(dK.1 g).1;simp at this;omega
 subst h0;simp at g;subst g;simpa using he
theorem cQ.take{l:List J2}(h:cQ l)(n:Nat):cQ (l.take n):=by
 intro i x e;rw[UM]at e;split at e;rename_i hi;rw[List.take_take,Nat.min_eq_left (Nat.le_of_lt hi)];exact h i x e;cases e
theorem AN{l:List J2}(h:cQ l)(p:Int):0<=bW l p/\bW l p<=J0 l:=by
 have g: ∀n:Nat,0<=bW (l.take n) p/\bW (l.take n) p<=J0 l:=by
  intro n
  induction n with
  |zero=>exact⟨aU _,Jc⟩
  |succ n ih=>
   rw[List.take_add_one];cases hn:l[n]? with
   |none=>simpa using ih
   |some e=>
    have o:=uB hn;have k:=(h n e hn).1;have j:J0 (l.take n)<=n:=by unfold J0;rw[eD];omega
    have h0:=Jc (l:=l.take n);show 0<=bW (l.take n++[e]) p/\bW (l.take n++[e]) p<=J0 l;rw[uO];split;omega;exact ih
 have:=g l.length;rwa[List.take_length]at this
theorem MG{l:List J2}(h:cQ l)(p:Int):cC (l.take (bW l p).toNat) p=cC l p:=by
 have e: ∀n:Nat,n<=l.length->cC (l.take (bW (l.take n) p).toNat) p=cC (l.take n) p:=by
  intro n
  induction n with
  |zero=>intro _;simp[bW]
  |succ n ih=>
   intro q;have o:n<l.length:=by omega
   have g:=zQ9 o;have j:l.take (n+1)=l.take n++[l[n]]:=by rw[List.take_add_one,g];rfl
   have k:=(h n _ g).1;rw[j,uO,FS];split;rename_i c;have:(l[n]).1.toNat=n+1:=by rw[k];unfold J0;rw[eD];omega
   rw[this,j,FS,if_pos c];exact ih (by omega)
 have:=e l.length (zQ0 _);rwa[List.take_length]at this
theorem tc{l:List J2}(h:cQ l){i:Nat}{e:J2}(he:l[i]?=some e)(hk:e.2.1=1\/e.2.1=2):cC (l.take e.1.toNat) (aV e)=fY (cC (l.take e.2.2.2.2.1.toNat) (aV e)) (slE e).toNat (afE e):=by
 have n:=(dK.1 he).1;obtain⟨k,_,g,_⟩:=h i e he;have g:=(g hk).1;have j:=h.take i;have b:=AN j (aV e);have le:J0 (l.take i)=i:=by unfold J0;rw[eD];omega
 have q:=MG j (aV e);rw[List.take_take,Nat.min_eq_left (by omega)]at q;rw[g,q,show e.1.toNat=i+1 by omega,List.take_add_one,he];show cC (l.take i++[e]) (aV e)=_;rw[FS,if_pos ⟨hk,rfl⟩]
theorem Rel.ent{l:List J2}{n:Int}{fr:List aF}{lk rows:List aA}(h:Rel mE pE l n fr lk rows){e:J2}(he: ¬(e.2.1=1\/e.2.1=2)):Rel mE pE (l++[e]) n fr lk rows:=by have k: ∀p,bW (l++[e]) p=bW l p:=λp=>uS λh=>he h.1;have g: ∀p,cC (l++[e]) p=cC l p:=λp=>SA λh=>he h.1;exact⟨h.pre.trans (List.prefix_append _ _),h.sub,by simpa only[g]using h.con,h.rng,h.one,h.apt,by simpa only[k]using h.hot,by simpa only[k]using h.lak,by simpa only[k]using h.row⟩
def upw{α:Type}(P:α->Prop)(l:List α)(i:Int):Prop:=i<=9223372036854775807/\(0<=i->HX P l i)
theorem EI{α:Type}{P:α->Prop}{l:List α}:upw P l 0:=⟨by decide,λ_=>JKb⟩
theorem AK{α:Type}{P:α->Prop}{l:List α}{i:Int}{x:α}(h:upw P l i)(e:idx l i=some x)(hx:P x):upw P l (J1 .i64 i 1):=by have o:=Ji i 1;obtain⟨h0,_⟩:=cB e;have h1:=h.1;refine⟨by omega,λh2=>JE1 (h.2 h0) e hx (by omega)⟩
theorem FN{α:Type}{P:α->Prop}{l:List α}{i:Int}(h:upw P l i)(hi: ¬i<J0 l): ∀x∈l,P x:=JEK (h.2 (by have:=Jc (l:=l);omega)) hi
theorem jC{α:Type}{l:List α}{i:Int}{x:α}(e:idx l i=some x):x∈l:=zQ5 (cB e).2
theorem RE{α:Type}{l r:List α}{k:Int}(h:bG l (some k) none=some r):0<=k/\r=l.drop k.toNat:=by
 have h0:0<=k:=by grind [bG,pH,rF]
 have h1:k<=J0 l:=by grind [bG,pH,rF,J0]
 obtain⟨r',e,d,_⟩:=LJ h0 h1;simp_all
theorem PA{α:Type}{l r:List α}{k:Int}(h:bG l none (some k)=some r):0<=k/\k<=J0 l/\r=l.take k.toNat:=by
 have h0:0<=k:=by grind [bG,pH,rF]
 have h1:k<=J0 l:=by grind [bG,pH,rF,J0]
 obtain⟨r',e,d,_⟩:=IB h0 h1;simp_all
theorem wX{α:Type}{b:Nat}{l r:List α}(h:dA b l=some r):r=l:=by unfold dA at h;split at h<;>simp_all
theorem fW{α:Type}{b:Nat}{l m r:List α}(h:JM b l m=some r):r=l++m:=by unfold JM at h;split at h<;>simp_all
theorem RR{l:aD}{y:Bool}(e:Jw l=some y)(c:y=true):1<=l.1/\l.1<=1099511627776/\J0 l.2.1<=4096:=by
 have g:Par (Jw l) λy=>y=true->1<=l.1/\l.1<=1099511627776/\J0 l.2.1<=4096:=by unfold Jw;exact .ltf (λc1=>.gtf (λh=>.gtf (λj=>.ltf (λ_=>.bind λ_ _=>.ite (λ_=>.some nofun) λ_=>λ_ _ _=>⟨by omega,by omega,by omega⟩) λ_=>.some nofun) λ_=>.some nofun) λ_=>.some nofun) λ_=>.some nofun
 exact g _ e c
theorem rR{l:aD}{n:Int}(h:jD l=some n)(h1:1<=l.1)(h2:l.1<=1099511627776)(h3:J0 l.2.1<=4096):n=l.1+J0 l.2.1-1:=by unfold jD at h;injection h with h;have:=Jc (l:=l.2.1);have:=Ji l.1 (J0 l.2.1);have:=bC (J1 .i64 l.1 (J0 l.2.1)) 1;omega
theorem JF9{l:aD}{e:J2}{y:zP}(h:gR (l,e)=some y)(c:y.2.2=0)(hl:l.1=1):y.1=(l.1,l.2.1++[(J0 l.2.1+1,e.2)],l.2.2)/\y.2.1=J0 l.2.1+1/\Jm (J0 l.2.1+1,e.2)=some true/\J0 l.2.1+1<=4096:=by
 have j:Par (gR (l,e)) λy=>y.2.2=0->y.1=(l.1,l.2.1++[(J0 l.2.1+1,e.2)],l.2.2)/\y.2.1=J0 l.2.1+1/\Jm (J0 l.2.1+1,e.2)=some true/\J0 l.2.1+1<=4096:=by
  unfold gR;dsimp only;refine .bind λH h2=>.not (λ_=>.some nofun) λr=>.eqf (λB=>.bind λC h3=>.eq (λ_=>.some nofun) λ_=>.bind λk z=>.bind λE n=>.not (λ_=>.some nofun) λv=>.bind λF w=>.bind λA g=>.some λ_=>?_) λ_=>.some nofun;subst v;obtain⟨v1,v2,x⟩:=RR h2 r;have G:=rR z v1 v2 x;have D:=Jc (l:=l.2.1);have o:=Ji k 1;have q:J1 .i64 k 1=J0 l.2.1+1:=by omega
  rw[q]at n g⊢;rw[fW g,wX w];exact⟨rfl,rfl,n,by omega⟩
 exact j _ h c
theorem RP{l:aD}{n:Int}{y:gV}(h:iJ (l,n)=some y)(c:y.2=0):y.1.2.1=l.2.1/\(gE dE l->gE dE y.1):=by
 have e:Par (iJ (l,n)) λy=>y.2=0->y.1.2.1=l.2.1/\(gE dE l->gE dE y.1):=by unfold iJ;refine .bind λ_ h2=>.not (λ_=>.some nofun) λg=>.bind λm k=>.gt (λ_=>.some nofun) λo=>.some λ_=>⟨rfl,λhi=>⟨hi.1,?_⟩⟩;obtain⟨v1,v2,j⟩:=RR h2 g;have:=rR k v1 v2 j;obtain⟨i1,i2,i3,i4⟩:=hi;have:=rZ l.2.2 n;dsimp only at*;refine⟨by omega,by omega,i4⟩
 exact e _ h c
abbrev eZ:J2:=(0,0,0,0,0,0,(0,0,(false,[]),false,[]),[])
theorem JLl:Jm eZ=some false:=rfl
theorem o7{l:aD}{n:Int}{y:zO}(h:eC (l,n)=some y):(y.2=0/\idx l.2.1 (JL .i64 n l.1)=some y.1)\/(y.2≠0/\y.1=eZ):=by
 have e:Par (eC (l,n)) λy=>(y.2=0/\idx l.2.1 (JL .i64 n l.1)=some y.1)\/(y.2≠0/\y.1=eZ):=by unfold eC;exact .bind λ_ _=>.not (λ_=>.some (.inr ⟨by decide,rfl⟩)) λ_=>.ltf (λ_=>.bind λ_ _=>.gt (λ_=>.some (.inr ⟨by decide,rfl⟩)) λ_=>.bind λ_ h=>.some (.inl ⟨rfl,h⟩)) λ_=>.some (.inr ⟨by decide,rfl⟩)
 exact e _ h
theorem xH{p:JJ}{id y:Int}(h:iH (p,id)=some y):y<=9223372036854775807/\(0<=y-> ∃f,idx p.2.1 y=some f/\f.1.1=id)/\(y<0-> ∀f∈p.2.1,f.1.1≠id):=by
 have k:Par (iH (p,id)) λy=>y<=9223372036854775807/\(0<=y-> ∃f,idx p.2.1 y=some f/\f.1.1=id)/\(y<0-> ∀f∈p.2.1,f.1.1≠id):=by unfold iH;refine .while (λz=>z.1=id/\z.2.2=p/\upw (λf:aF=>f.1.1≠id) p.2.1 z.2.1) ⟨rfl,rfl,EI⟩ ?_;rintro⟨a,i,q⟩ ⟨rfl,rfl,j⟩;unfold WE;refine .lt (λc=>.bind λf g=>.eq (λe=>.some ⟨j.1,λ_=>⟨f,g,e⟩,λh=>?_⟩) λe=>.some ⟨rfl,rfl,AK j g e⟩) λc=>.some ⟨by decide,λh=>absurd h (by decide),λ_=>FN j c⟩;have:=(cB g).1;(try dsimp only at h this);omega
 exact k _ h
theorem QO{p:JJ}{id y:Int}(h:hO (p,id)=some y):(0<=y-> ∃f,idx p.2.1 y=some f/\f.1.1=id)/\(y<0->JP p=some true-> ∀f∈p.2.1,f.1.1≠id):=by
 have e:Par (hO (p,id)) λy=>(0<=y-> ∃f,idx p.2.1 y=some f/\f.1.1=id)/\(y<0->JP p=some true-> ∀f∈p.2.1,f.1.1≠id):=by unfold hO;refine .bind λv g=>.not (λc=>.some ⟨λh=>absurd h (by decide),λ_ h=>?_⟩) λ_=>.bind λj h2=>.some ⟨(xH h2).2.1,λh _=>(xH h2).2.2 h⟩;rw[show JP p=some v from g,c]at h;cases h
 exact e _ h
theorem zZ{p:JJ}{id:Int}{y:Je×Bool}(h:mA (p,id)=some y):(y.2=true-> ∃f∈p.2.1,f.1=y.1/\f.1.1=id)/\(y.2=false->JP p=some true-> ∀f∈p.2.1,f.1.1≠id):=by
 have j:Par (mA (p,id)) λy=>(y.2=true-> ∃f∈p.2.1,f.1=y.1/\f.1.1=id)/\(y.2=false->JP p=some true-> ∀f∈p.2.1,f.1.1≠id):=by
  unfold mA;refine .bind λi hi=>.lt (λc=>.some ⟨nofun,λ_=>(QO hi).2 c⟩) λc=>.bind λf k=>.some ⟨λ_=>?_,nofun⟩;obtain⟨g,h1,h2⟩:=(QO hi).1 (by omega);have e:g=f:=by rw[show idx p.2.1 i=some f from k]at h1;injection h1 with h1;exact h1.symm
  subst e;exact⟨g,jC h1,rfl,h2⟩
 exact j _ h
end
end Go.Am
end
section
namespace Go.Am
set_option linter.unusedVariables false
set_option maxRecDepth 20000
set_option maxHeartbeats 1000000
section
variable {mE:List J2} {dE:Int} {pE:Int->Prop} {B S:Int} {l l':List J2} {n:Int} {fr:List aF} {lk lk' rows rows':List aA} {f f':aF} {i:Int}
theorem D8(h:fr.Pairwise λa b=>a.1.1≠b.1.1){i j:Nat}{a b:aF}(ha:fr[i]?=some a)(hb:fr[j]?=some b)(e:a.1.1=b.1.1):i=j:=by
 have:=List.pairwise_iff_getElem.1 h;obtain⟨h1,rfl⟩:=dK.1 ha;obtain⟨h2,rfl⟩:=dK.1 hb;grind
theorem JFG(hf:idx fr i=some f)(n:f'.1.1=f.1.1)(h:fr.Pairwise λa b=>a.1.1≠b.1.1){x:aF}(hx:x∈fr.set i.toNat f'):x=f'\/(x∈fr/\x.1.1≠f.1.1):=by
 obtain⟨h0,hf⟩:=cB hf;obtain⟨j,g⟩:=kN.1 hx;rw[List.getElem?_set]at g;split at g;split at g;injection g with g;exact .inl g.symm;cases g;rename_i k;exact .inr ⟨zQ5 g,λe=>k (D8 h hf g e.symm)⟩
theorem Rel.upd(h:Rel mE pE l n fr lk rows)(hf:idx fr i=some f)(k:f'.1.1=f.1.1)(ho: ∀q,q≠f.1.1->bW l' q=bW l q)(hr: ∀q,q≠f.1.1->idx rows' q=idx rows q)(h1:f'.1.2.1=bW l' f.1.1)
  (h2:f'.2.1=false-> ∀r,idx rows' f.1.1=some r->r.1=bW l' f.1.1) (h3: ∀r,idx rows' f.1.1=some r->r.1<=bW l' f.1.1) (hp:l<+:l') (h4:f'.1.2.2=cC l' f.1.1) (hq: ∀q,q≠f.1.1->cC l' q=cC l q):Rel mE pE l' n (fr.set i.toNat f') lk rows':=by
 have A:=jC hf;have y: ∀{x:aF},x∈fr.set i.toNat f'->x=f'\/(x∈fr/\x.1.1≠f.1.1):=λg=>JFG hf k h.one g;have D:f'∈fr.set i.toNat f':=by obtain⟨h0,hf⟩:=cB hf;exact List.mem_set (dK.1 hf).1 _
 refine⟨h.pre.trans hp,λx g=>?_,λx g=>?_,λx g=>?_,?_,λx g d w=>?_,λx g=>?_,λd w=>?_,λp r hp=>?_⟩;rcases y g with rfl|⟨g,_⟩;rw[k];exact h.sub _ A;exact h.sub _ g;rcases y g with rfl|⟨g,o⟩;rw[k];exact h4;rw[hq _ o];exact h.con _ g;rcases y g with rfl|⟨g,_⟩;rw[k];exact h.rng _ A;exact h.rng _ g;have q:=h.one;obtain⟨h0,hf⟩:=cB hf;rw[List.pairwise_iff_getElem]at q⊢;intro a b G E C;obtain⟨I,rfl⟩:=dK.1 hf;simp only[List.getElem_set];simp only[List.length_set]at G E;have F:=q a b G E C;grind;rcases y g with rfl|⟨g,_⟩;rw[k];exact h.apt _ A d w;exact h.apt _ g d w;rcases y g with rfl|⟨g,o⟩;rw[k];exact⟨h1,h2⟩;rw[ho _ o,hr _ o];exact h.hot _ g;rw[h.lak d w,ho];exact h.apt _ A d w;by_cases v:p=f.1.1;subst v;exact⟨h3 r hp,λhq=>absurd k (hq _ D)⟩;rw[hr _ v]at hp;obtain⟨F,H⟩:=h.row p r hp;rw[ho _ v];refine⟨F,λa b=>H (λx g e=>?_) b⟩;have B:x∈fr.set i.toNat f':=(by obtain⟨h0,hf⟩:=cB hf;obtain⟨j,z⟩:=kN.1 g;refine zQ5 (i:=j) ?_;rw[List.getElem?_set,if_neg];exact z;rintro rfl;rw[hf]at z;injection z with z;subst z;exact v e.symm);exact a x B e
theorem Rel.drop(h:Rel mE pE l n fr lk rows)(hf:idx fr i=some f)(hc:f.2.1=false):Rel mE pE l n (fr.eraseIdx i.toNat) lk rows:=by
 have k: ∀{x:aF},x∈fr.eraseIdx i.toNat->x∈fr:=λg=>(List.eraseIdx_sublist fr i.toNat).subset g;refine⟨h.pre,λx g=>h.sub x (k g),λx g=>h.con x (k g),λx g=>h.rng x (k g),h.one.sublist (List.eraseIdx_sublist fr i.toNat),λx g=>h.apt x (k g),λx g=>h.hot x (k g),h.lak,λp r w=>?_⟩;obtain⟨y,z⟩:=h.row p r w;refine⟨y,λa b=>?_⟩;by_cases q:p=f.1.1;subst q;exact(h.hot f (jC hf)).2 hc r w;refine z (λx g e=>?_) b;obtain⟨h0,hf⟩:=cB hf;obtain⟨j,o⟩:=kN.1 g;have v:j≠i.toNat:=by rintro rfl;rw[hf]at o;injection o with o;subst o;exact q e.symm
 exact a x (List.mem_eraseIdx_iff_getElem?.2 ⟨j,v,o⟩) e
theorem Rel.add(h:Rel mE pE l n fr lk rows)(hn: ∀x∈fr,x.1.1≠f.1.1)(hr:0<=f.1.1/\f.1.1<n)(h1:f.1.2.1=bW l f.1.1)(h2:f.2.1=false-> ∀r,idx rows f.1.1=some r->r.1=bW l f.1.1)
  (hs: ∀d,d∈lk'↔d∈lk/\d.1≠f.1.1) (h4:f.1.2.2=cC l f.1.1) (h5:pE f.1.1):Rel mE pE l n (fr++[f]) lk' rows:=by
 have k: ∀{x:aF},x∈fr++[f]->x∈fr\/x=f:=λg=>by simpa using g
 refine⟨h.pre,λx g=>?_,λx g=>?_,λx g=>?_,?_,λx g d j=>?_,λx g=>?_,λd j=>h.lak d ((hs d).1 j).1,λp r v=>?_⟩;rcases k g with g|rfl;exact h.sub x g;exact h5;rcases k g with g|rfl;exact h.con x g;exact h4;rcases k g with g|rfl;exact h.rng x g;exact hr;rw[List.pairwise_append];exact⟨h.one,List.pairwise_singleton _ _,λa y b o=>by simp at o;subst o;exact hn a y⟩;rcases k g with g|rfl;exact h.apt x g d ((hs d).1 j).1;exact((hs d).1 j).2;rcases k g with g|rfl;exact h.hot x g;exact⟨h1,h2⟩;obtain⟨q,z⟩:=h.row p r v;refine⟨q,λa b=>?_⟩;have w:f.1.1≠p:=a f (by simp);exact z (λx g=>a x (by simp[g])) λd j e=>b d ((hs d).2 ⟨j,by rw[e];exact w.symm⟩) e
theorem QJ{p q:JJ}(h:jH (p,i,f)=some q):q=(p.1,p.2.1.set i.toNat f,p.2.2):=by
 have e:Par (jH (p,i,f)) λq=>q=(p.1,p.2.1.set i.toNat f,p.2.2):=by unfold jH;refine .bind λg h2=>.bind λ_ _=>.bind λ_ _=>.some ?_;rw[wX h2];rfl
 exact e _ h
theorem Rel.use(h:Rel mE pE l n fr lk rows)(hf:idx fr i=some f)(h1:f'.1=f.1)(h2:f'.2.1=f.2.1):Rel mE pE l n (fr.set i.toNat f') lk rows:=by have q:=h.hot f (jC hf);exact h.upd hf (by rw[h1]) (λ_ _=>rfl) (λ_ _=>rfl) (by rw[h1];exact q.1) (by rw[h2];exact q.2) (λr e=>(h.row _ r e).1) (List.prefix_refl _) (by rw[h1];exact h.con _ (jC hf)) λ_ _=>rfl
theorem JL0{p q:JJ}{id:Int}(e:AU (p,id)=some q)(h:Rel mE pE l n p.2.1 lk rows):Rel mE pE l n q.2.1 lk rows:=by
 have g:Par (AU (p,id)) λq=>Rel mE pE l n q.2.1 lk rows:=by unfold AU;refine .bind λj r=>.lt (λ_=>.some h) λc=>.bind λx o=>.bind λy k=>.some ?_;rw[QJ k];exact h.use o rfl rfl
 exact g _ e
theorem JFc{p:JJ}{y:HJ}(e:uZ p=some y)(h:Rel mE pE l n p.2.1 lk rows):y.2.2=0->Rel mE pE l n y.1.2.1 lk rows:=by
 have g:Par (uZ p) λy=>y.2.2=0->Rel mE pE l n y.1.2.1 lk rows:=by unfold uZ;refine .bind λ_ _=>.not (λ_=>.some nofun) λ_=>.eq (λ_=>.some nofun) λ_=>.while (λz=>Rel mE pE l n z.1.2.1 lk rows) h ?_;intro z j;unfold WO;refine .bind λx r=>.ite (λ_=>.bind λy o=>.bind λq k=>.bind λ_ _=>.some ?_) λ_=>.map (.bind λ_ _=>.some λ_=>j);show Rel mE pE l n q.2.1 lk rows;rw[QJ k];exact j.use o rfl rfl
 exact g _ e
theorem JJw{p:JJ}{id:Int}{y:iY}(e:vD (p,id)=some y)(c:y.2=0)(h:Rel mE pE l n p.2.1 lk rows):Rel mE pE l n y.1.2.1 lk rows:=by
 have k:Par (vD (p,id)) λy=>y.2=0->Rel mE pE l n y.1.2.1 lk rows:=by
  unfold vD;refine .bind λ_ _=>.not (λ_=>.some nofun) λ_=>.bind λj F=>.lt (λ_=>.some nofun) λ_=>.bind λx r=>.ite (λ_=>.some nofun) λw=>.bind λI E=>.bind λJ D=>.bind λG z=>.bind λA B=>?_;have C:A=p.2.1.eraseIdx j.toNat:=by obtain⟨H,v⟩:=RE z;have o:=Ji j 1;have q:=(xH F).1;have h0:=(cB r).1;rw[fW B,wX D,(PA E).2.2,v,List.eraseIdx_eq_take_drop_succ,show(J1 .i64 j 1).toNat=j.toNat+1 by omega]
  have g:=h.drop r w;rw[<-C]at g;exact .lt (λ_=>.ge (λ_=>.some λ_=>g) λ_=>.some λ_=>g) λ_=>.ge (λ_=>.some λ_=>g) λ_=>.some λ_=>g
 exact k _ e c
end
end Go.Am
end
section
namespace Go.Am
set_option linter.unusedVariables false
set_option maxRecDepth 20000
set_option maxHeartbeats 1000000
section
variable {mE:List J2} {dE:Int} {pE:Int->Prop} {B S:Int} {l l':List J2} {n:Int} {fr:List aF} {lk lk' rows rows':List aA} {f f':aF} {i:Int}
theorem FG{k:J4}{id:Int}{y:aA×Bool}(e:sQ (k,id)=some y):(y.2=true->y.1∈k.2.2.2.2.2.2.2/\y.1.1=id)/\(y.2=false-> ∀d∈k.2.2.2.2.2.2.2,d.1≠id):=by
 have j:Par (sQ (k,id)) λy=>(y.2=true->y.1∈k.2.2.2.2.2.2.2/\y.1.1=id)/\(y.2=false-> ∀d∈k.2.2.2.2.2.2.2,d.1≠id):=(by unfold sQ;refine .while (λz=>z.1=id/\z.2.2.1=k/\upw (λd:aA=>d.1≠id) k.2.2.2.2.2.2.2 z.2.1) ⟨rfl,rfl,EI⟩ ?_;rintro⟨a,i,q,r⟩ ⟨rfl,rfl,n⟩;unfold zj;refine .lt (λc=>.bind λd h=>.eq (λe=>.bind λo g=>.some ⟨λ_=>?_,nofun⟩) λe=>.some ⟨rfl,rfl,AK n h e⟩) λc=>.some ⟨nofun,λ_=>FN n c⟩;rw[h]at g;injection g with g;subst g;exact⟨jC h,e⟩);exact j _ e
theorem MJ{k:J4}(e:Jq k=some true):JP k.2.2.2.1=some true:=by
 have h:Par (nB k) λy=>y=true->JP k.2.2.2.1=some true:=by unfold nB;refine .ge (λ_=>.le (λ_=>.ge (λ_=>.le (λ_=>.bind λ_ _=>.ite (λ_=>.bind λn h3=>.ite (λc=>λ_ _ _=>?_) λ_=>.some nofun) λ_=>.some nofun) λ_=>.some nofun) λ_=>.some nofun) λ_=>.some nofun) λ_=>.some nofun;rw[<-c];exact h3
 have g:Par (Jq k) λy=>y=true->JP k.2.2.2.1=some true:=by unfold Jq;exact .bind λa j=>.not (λ_=>.some nofun) λc=>λ_ _ _=>h _ j c
 exact g _ e rfl
theorem OZ{k:J4}{p h:Int}(e:qN (k,p)=some h)(hv:Jq k=some true)(hi:aW mE dE pE k)(h0:0<=p)(h1:p<k.1):h=bW k.2.2.1.2.1 p:=by
 have w:Par (qN (k,p)) λh=>h=bW k.2.2.1.2.1 p:=(by obtain⟨_,_,r⟩:=hi;unfold qN;refine .bind λv g=>.nof (λ_=>.ltf (λ_=>.ge (λc=>absurd h1 (by dsimp only at c;omega)) λ_=>.bind λB h3=>.ite (λo=>.some ?_) λo=>.bind λC x=>.ite (λj=>.some ?_) λj=>.bind λy z=>.some ?_) λc=>absurd h0 (by dsimp only at c;omega)) λc=>?_;obtain⟨f,A,q,n⟩:=(zZ h3).1 o;rw[<-q,(r.hot f A).1,n];obtain⟨q,n⟩:=(FG x).1 j;rw[r.lak _ q,n];exact(r.row p y z).2 ((zZ h3).2 o (MJ hv)) ((FG x).2 j);rw[hv]at g;injection g with g;subst g;cases c);exact w _ e
theorem sv{e:J2}{y:tP}(h:kI (rows,e)=some y)(c:y.2=0):Jm e=some true/\(e.2.1≠7->y.1=rows)/\(e.2.1=7->(∀q,q≠aV e->idx y.1 q=idx rows q)/\ ∀r,idx y.1 (aV e)=some r-> ∃r0,idx rows (aV e)=some r0/\r.1=dG r0.1 e.2.2.2.2.2.1):=by
 have n:Par (kI (rows,e)) λy=>y.2=0->Jm e=some true/\(e.2.1≠7->y.1=rows)/\(e.2.1=7->(∀q,q≠aV e->idx y.1 q=idx rows q)/\ ∀r,idx y.1 (aV e)=some r-> ∃r0,idx rows (aV e)=some r0/\r.1=dG r0.1 e.2.2.2.2.2.1):=by
  unfold kI;refine .bind λ_ _=>.not (λ_=>.some nofun) λ_=>.bind λv o=>.not (λ_=>.some nofun) λk=>.ne (λc=>.some λ_=>⟨by rw[<-k];exact o,λ_=>rfl,λh=>absurd h c⟩) λc=>.ge (λ_=>.some nofun) λ_=>.bind λr0 h0=>.bind λj A=>.some λ_=>⟨by rw[<-k];exact o,λh=>absurd c h,λ_=>?_⟩;have w:j=rows.set (aV e).toNat (dG r0.1 e.2.2.2.2.2.1,r0.2):=by
   have z:Par (GD (rows,aV e,dG r0.1 e.2.2.2.2.2.1,r0.2)) λj=>j=rows.set (aV e).toNat (dG r0.1 e.2.2.2.2.2.1,r0.2):=by unfold GD;refine .bind λB h2=>.bind λ_ _=>.bind λ_ _=>.some ?_;rw[wX h2];rfl
   exact z _ A
  subst w;obtain⟨x,D⟩:=cB h0;refine⟨λq C=>?_,λr g=>⟨r0,h0,?_⟩⟩;unfold idx;split;rw[List.getElem?_set,if_neg (by have:((rows,e).2.2.2.2.2.2.2.1.1)=aV e:=rfl;rw[this]at x;omega)];rfl;obtain⟨_,g⟩:=cB g;rw[List.getElem?_set]at g;simp at g;rw[<-g.2]
 exact n _ h c
theorem JAS{l:aD}{e:J2}{y:zP}(h:gR (l,e)=some y)(c:y.2.2=0):1<=l.1/\l.1<=1099511627776/\J0 l.2.1<=4096:=by
 have g:Par (gR (l,e)) λy=>y.2.2=0->1<=l.1/\l.1<=1099511627776/\J0 l.2.1<=4096:=by unfold gR;exact .bind λk h2=>.not (λ_=>.some nofun) λj=>λ_ _ _=>RR h2 j
 exact g _ h c
def DN(dE:Int)(k:J4)(e:J2)(y:hQ):Prop:=Jq k=some true/\ ∃e':J2,e'.2.1=e.2.1/\e'.2.2.2.2.2=e.2.2.2.2.2/\e'.1=J0 k.2.2.1.2.1+1/\y.2.1=e'.1/\y.1.1=k.1/\y.1.2.2.1=(1,k.2.2.1.2.1++[e'],k.2.2.1.2.2)/\gE dE y.1.2.2.1/\y.1.2.2.2.1=k.2.2.2.1/\y.1.2.2.2.2.2.2.2=k.2.2.2.2.2.2.2/\cQ (k.2.2.1.2.1++[e'])/\(e.2.1≠7->y.1.2.2.2.2.2.2.1=k.2.2.2.2.2.2.1)/\(e.2.1=7->(∀q,q≠aV e->idx y.1.2.2.2.2.2.2.1 q=idx k.2.2.2.2.2.2.1 q)/\ ∀r,idx y.1.2.2.2.2.2.2.1 (aV e)=some r-> ∃g,idx k.2.2.2.2.2.2.1 (aV e)=some g/\r.1=dG g.1 e.2.2.2.2.2.1)
theorem TX{k:J4}{e0 e:J2}{z:hQ}(hv:Jq k=some true)(hi:aW mE dE pE k)(h1:e0.2.1=e.2.1)(h2:e0.2.2.2.2.2=e.2.2.2.2.2)(hp:(e.2.1=1\/e.2.1=2)->e0.2.2.2.2.1=bW k.2.2.1.2.1 (aV e))
  (L:(e.2.1=1\/e.2.1=2)->vat (cC k.2.2.1.2.1 (aV e)) (slE e).toNat=some (bfE e)) (O:e.2.1=7->e.2.2.2.2.2.1<=bW k.2.2.1.2.1 (aV e)) (P:e.2.1=6->UO k.2.2.1.2.1 e.2.2.2.2.2.2.2)
  (hz:((gR (k.2.2.1,e0)).bind λg=>
   if aO g.2.2 0 then
    some ((0,0,(0,[],0),(0,[],0),([],[]),[],[],[]),0,g.2.2)
   else
    (eC (g.1,g.2.1)).bind λr=>
    (fK (k.2.2.2.2.2.1,r.1)).bind λj=>
    if aO j.2 0 then
     some ((0,0,(0,[],0),(0,[],0),([],[]),[],[],[]),0,j.2)
    else
     (kI (k.2.2.2.2.2.2.1,r.1)).bind λn=>
     if aO n.2 0 then
      some ((0,0,(0,[],0),(0,[],0),([],[]),[],[],[]),0,n.2)
     else
      some ((k.1,k.2.1,g.1,k.2.2.2.1,k.2.2.2.2.1,j.1,n.1,k.2.2.2.2.2.2.2),g.2.1,0))=some z):z.2.2=0->DN dE k e z:=by
 have J:Par ((gR (k.2.2.1,e0)).bind λg=>
   if aO g.2.2 0 then
    some ((0,0,(0,[],0),(0,[],0),([],[]),[],[],[]),0,g.2.2)
   else
    (eC (g.1,g.2.1)).bind λr=>
    (fK (k.2.2.2.2.2.1,r.1)).bind λj=>
    if aO j.2 0 then
     some ((0,0,(0,[],0),(0,[],0),([],[]),[],[],[]),0,j.2)
    else
     (kI (k.2.2.2.2.2.2.1,r.1)).bind λn=>
     if aO n.2 0 then
      some ((0,0,(0,[],0),(0,[],0),([],[]),[],[],[]),0,n.2)
     else
      some ((k.1,k.2.1,g.1,k.2.2.2.1,k.2.2.2.2.1,j.1,n.1,k.2.2.2.2.2.2.2),g.2.1,0)) λz=>z.2.2=0->DN dE k e z:=by
  obtain⟨x,Q,W⟩:=hi;refine .bind λg B=>.ne (λc=>.some λh=>absurd h c) λy=>.bind λr M=>.bind λj S=>.ne (λc=>.some λh=>absurd h c) λ_=>.bind λn G=>.ne (λc=>.some λh=>absurd h c) λF=>.some λ_=>?_;obtain⟨b1,b2,b3,V⟩:=JF9 B y x.1;have T:=Jc (l:=k.2.2.1.2.1);obtain⟨K,I,C⟩:=sv G F;have N:r.1=(J0 k.2.2.1.2.1+1,e0.2):=(by rcases o7 M with⟨_,h⟩|⟨_,h⟩;rw[b1,b2,x.1]at h;obtain⟨_,h⟩:=cB h;have v:=(JAS B y).2.2;have o:=bC (J0 k.2.2.1.2.1+1) 1;rw[show(JL .i64 (J0 k.2.2.1.2.1+1) 1).toNat=k.2.2.1.2.1.length by unfold J0 at*;omega]at h;simp at h;exact h.symm;rw[h,JLl]at K;cases K);rw[N]at I C;have w:aV (J0 k.2.2.1.2.1+1,e0.2)=aV e:=congrArg (λz:Int×aL×List UInt8=>z.2.1.1) h2;have A:e0.2.2.2.2.2.1=e.2.2.2.2.2.1:=congrArg (λz:Int×aL×List UInt8=>z.1) h2;have E:e0.2.2.2.2.2.2.2=e.2.2.2.2.2.2.2:=congrArg (λz:Int×aL×List UInt8=>z.2.2) h2;refine⟨hv,(J0 k.2.2.1.2.1+1,e0.2),h1,h2,rfl,b2,rfl,?_,?_,rfl,rfl,?_,λc=>I (by rw[<-h1]at c;exact c),λc=>?_⟩;show g.1=_;rw[b1,x.1]
  ·show gE dE g.1;rw[b1,x.1];obtain⟨Y,R,Z,U⟩:=x;refine⟨rfl,R,?_,?_⟩
   all_goals
    show _<=_;dsimp only;rw[FT,AI];omega
  refine Q.app ⟨rfl,b3,λc=>?_,λc=>?_,λc=>?_⟩;have H:slE (J0 k.2.2.1.2.1+1,e0.2)=slE e:=congrArg (λz:Int×aL×List UInt8=>z.2.1.2.1) h2;have D:bfE (J0 k.2.2.1.2.1+1,e0.2)=bfE e:=congrArg (λz:Int×aL×List UInt8=>z.2.1.2.2.1) h2;rw[w,H,D];exact⟨hp (by rw[<-h1];exact c),L (by rw[<-h1];exact c)⟩;rw[w];exact A▸O (h1▸c);exact E▸P (h1▸c);have q:=C (h1.trans c);rw[w]at q;exact A▸q
 exact J _ hz
theorem OJ{k:J4}{e:J2}{y:hQ}(h:gJ (k,e)=some y)(c:y.2.2=0)(hi:aW mE dE pE k)(hp:(e.2.1=1\/e.2.1=2)->(0<=aV e/\aV e<k.1)/\vat (cC k.2.2.1.2.1 (aV e)) (slE e).toNat=some (bfE e))
  (x:e.2.1=7->e.2.2.2.2.2.1<=bW k.2.2.1.2.1 (aV e)) (A:e.2.1=6->UO k.2.2.1.2.1 e.2.2.2.2.2.2.2):DN dE k e y:=by
 have C: ∀{o:J2} {b:Bool},JC o=some b->b=false-> ¬(o.2.1=1\/o.2.1=2):=fun{o b} w j=>by
  have F:Par (JC o) λb=>b=false-> ¬(o.2.1=1\/o.2.1=2):=by unfold JC;exact .eqf (λc1=>.some λd=>λh=>by rcases h with h|h;exact c1 h;rw[qE.2 h]at d;cases d) λ_=>.some nofun
  exact F _ w j
 have D:Par (gJ (k,e)) λy=>y.2.2=0->DN dE k e y:=by
  unfold gJ;refine .bind λv H=>.not (λ_=>.some nofun) λG=>?_;have g:Jq k=some true:=by rw[<-G];exact H
  refine .gt (λ_=>.bind λI _=>.lt (λ_=>.some nofun) λ_=>.bind λE _=>.bind λb w=>.ite (λj=>.bind λB r=>λz n=>TX (e0:=(e.1,e.2.1,e.2.2.1,E.2.2.1,B,e.2.2.2.2.2)) g hi rfl rfl ?_ (λc=>(hp c).2) x A n) λj=>λz n=>TX (e0:=(e.1,e.2.1,e.2.2.1,E.2.2.1,0,e.2.2.2.2.2)) g hi rfl rfl ?_ (λc=>(hp c).2) x A n) λ_=>.bind λb w=>.ite (λj=>.bind λB r=>λz n=>TX (e0:=(e.1,e.2.1,e.2.2.1,0,B,e.2.2.2.2.2)) g hi rfl rfl ?_ (λc=>(hp c).2) x A n) λj=>λz n=>TX (e0:=(e.1,e.2.1,e.2.2.1,0,0,e.2.2.2.2.2)) g hi rfl rfl ?_ (λc=>(hp c).2) x A n
  all_goals intro q
  exact OZ r g hi (hp q).1.1 (hp q).1.2;exact absurd q (C w j);exact OZ r g hi (hp q).1.1 (hp q).1.2;exact absurd q (C w j)
 exact D _ h c
end
end Go.Am
end
section
namespace Go.Am
set_option linter.unusedVariables false
set_option maxRecDepth 20000
set_option maxHeartbeats 1000000
section
variable {mE:List J2} {dE:Int} {pE:Int->Prop} {B S:Int} {l l':List J2} {n:Int} {fr:List aF} {lk lk' rows rows':List aA} {f f':aF} {i:Int} {k k':J4}
theorem Rel.note{e:J2}{p:Int}(h:Rel mE pE l n fr lk rows)(he: ¬(e.2.1=1\/e.2.1=2))(h0:e.2.2.2.2.2.1<=bW l p)(h1: ∀q,q≠p->idx rows' q=idx rows q)(h2: ∀r,idx rows' p=some r-> ∃r0,idx rows p=some r0/\r.1=dG r0.1 e.2.2.2.2.2.1):Rel mE pE (l++[e]) n fr lk rows':=by
 have k: ∀p,bW (l++[e]) p=bW l p:=λp=>uS λh=>he h.1;have w: ∀p,cC (l++[e]) p=cC l p:=λp=>SA λh=>he h.1;refine⟨h.pre.trans (List.prefix_append _ _),h.sub,by simpa only[w]using h.con,h.rng,h.one,h.apt,λx v=>?_,by simpa only[k]using h.lak,λq r g=>?_⟩;rw[k];refine⟨(h.hot x v).1,λc r g=>?_⟩;by_cases j:x.1.1=p;rw[j]at g⊢;obtain⟨r0,o,y⟩:=h2 r g;have:=(h.hot x v).2 c r0 (by rw[j];exact o);rw[j]at this;have:=rZ r0.1 e.2.2.2.2.2.1;omega;rw[h1 _ j]at g;exact(h.hot x v).2 c r g;rw[k];by_cases j:q=p;subst j;obtain⟨r0,o,y⟩:=h2 r g;obtain⟨A,z⟩:=h.row q r0 o;have:=rZ r0.1 e.2.2.2.2.2.1;exact⟨by omega,λa b=>by have:=z a b;omega⟩;rw[h1 _ j]at g;exact h.row q r g
theorem DN.inv{e:J2}{y:hQ}(h:DN dE k e y)(hi:aW mE dE pE k)(he: ¬(e.2.1=1\/e.2.1=2))(w:e.2.1=7->e.2.2.2.2.2.1<=bW k.2.2.1.2.1 (aV e)):aW mE dE pE y.1:=by
 obtain⟨F,e',C,B,D,E,x,o,b0,v,r,A,j,n⟩:=h;obtain⟨i1,i2,i3⟩:=hi;have g: ¬(e'.2.1=1\/e'.2.1=2):=by rw[C];exact he
 refine⟨b0,by rw[o];exact A,?_⟩;rw[x,o,v,r];by_cases c:e.2.1=7;obtain⟨b1,b2⟩:=n c;have q:e'.2.2.2.2.2.1=e.2.2.2.2.2.1:=congrArg (λz:Int×aL×List UInt8=>z.1) B;exact i3.note g (by rw[q];exact w c) b1 (by rw[q];exact b2);rw[j c];exact i3.ent g
theorem FH{m:Int}(e:jG (k,m)=some k'):k'.1=k.1/\(gE dE k.2.2.1->gE dE k'.2.2.1)/\k'.2.2.1.2.1=k.2.2.1.2.1/\k'.2.2.2=k.2.2.2:=by
 have g:Par (jG (k,m)) λk'=>k'.1=k.1/\(gE dE k.2.2.1->gE dE k'.2.2.1)/\k'.2.2.1.2.1=k.2.2.1.2.1/\k'.2.2.2=k.2.2.2:=by unfold jG;refine .bind λ_ _=>.bind λn h3=>.eq (λc=>.some ?_) λ_=>.some ⟨rfl,id,rfl,rfl⟩;obtain⟨h,j⟩:=RP h3 c;exact⟨rfl,j,h,rfl⟩
 exact g _ e
theorem aW.same(h:aW mE dE pE k)(e1:k'.1=k.1)(e2:gE dE k.2.2.1->gE dE k'.2.2.1)(g:k'.2.2.1.2.1=k.2.2.1.2.1)(n:k'.2.2.2.1.2.1=k.2.2.2.1.2.1)(e:k'.2.2.2.2.2.2.2=k.2.2.2.2.2.2.2)(j:k'.2.2.2.2.2.2.1=k.2.2.2.2.2.2.1):aW mE dE pE k':=by unfold aW;rw[e1,g,n,e,j];exact⟨e2 h.1,h.2⟩
theorem aW.force{m:Int}(h:aW mE dE pE k)(e:jG (k,m)=some k'):aW mE dE pE k':=by obtain⟨n,o,j,g⟩:=FH e;exact h.same n o j (by rw[g]) (by rw[g]) (by rw[g])
theorem JF0{p:JJ}{x:Je}{y:iY}(e:BY (p,x)=some y)(c:y.2=0): ∃i f r,idx p.2.1 i=some f/\f.1.1=x.1/\y.1=(p.1,p.2.1.set i.toNat (x,true,r,true),p.2.2):=by
 have k:Par (BY (p,x)) λy=>y.2=0-> ∃i f r,idx p.2.1 i=some f/\f.1.1=x.1/\y.1=(p.1,p.2.1.set i.toNat (x,true,r,true),p.2.2):=by
  unfold BY;refine .bind λ_ _=>.not (λ_=>.some nofun) λ_=>.bind λw _=>.ne (λc=>.some λh=>absurd h c) λ_=>.bind λi hi=>.lt (λ_=>.some nofun) λz=>.bind λf v=>.le (λ_=>.some nofun) λ_=>.not (λ_=>.bind λq n=>.some λ_=>?_) λ_=>.bind λq n=>.some λ_=>?_
  all_goals
   obtain⟨g,j,o⟩:=(xH hi).2.1 (by omega);have:g=f:=by rw[show idx p.2.1 i=some f from v]at j;injection j with j;exact j.symm
   subst this;exact⟨i,g,_,j,o,QJ n⟩
 exact k _ e c
theorem mh{e:J2}{y:cX}(h:uR (k,e)=some y)(hi:aW mE dE pE k)(hk:e.2.1=1\/e.2.1=2)(hf: ∃f∈k.2.2.2.1.2.1,f.1.1=aV e/\vat f.1.2.2 (slE e).toNat=some (bfE e)):aW mE dE pE y.1:=by
 have K:Par (uR (k,e)) λy=>aW mE dE pE y.1:=by
  unfold uR;dsimp only;have T:e.2.1≠7:=by omega
  have S:e.2.1≠6:=by omega
  refine .bind λv h2=>.ne (λ_=>.some hi) λQ=>.bind λo h3=>.bind λ_ _=>.bind λ_ _=>.bind λR U=>.ne (λ_=>.some hi) λV=>.some ?_;obtain⟨f,hf,w,x⟩:=hf;have L:=hi.2.2.rng f hf;have M:=hi.2.2.con f hf;rw[M,w]at x;rw[w]at L M;obtain⟨hv,e',a1,E,a3,Z,Y,N,b0,a7,O,a9,J,af⟩:=OJ h2 Q hi (λ_=>⟨L,x⟩) (λc=>absurd c T) (λc=>absurd c S);obtain⟨i,g,r,g1,j,W⟩:=JF0 U V;have hx: ∃g∈k.2.2.2.1.2.1,g.1=o.1/\g.1.1=aV e:=by
   cases c3:o.2 with
   |true=>exact(zZ h3).1 c3
   |false=>exact absurd w ((zZ h3).2 c3 (MJ hv) f hf)
  obtain⟨g',H,B,A⟩:=hx;have C:o.1.1=aV e:=by rw[<-B];exact A
  have n:aV e'=aV e:=congrArg (λz:Int×aL×List UInt8=>z.2.1.1) E;have F:e'.2.1=1\/e'.2.1=2:=by rw[a1];exact hk
  have j:g.1.1=aV e:=j.trans C;have up:=hi.2.2.upd (l':=k.2.2.1.2.1++[e']) (rows':=k.2.2.2.2.2.2.1) (f':=((o.1.1,v.2.1,fY o.1.2.2 (Int.toNat e.2.2.2.2.2.2.1.2.1) e.2.2.2.2.2.2.1.2.2.2),true,r,true)) g1 (C.trans j.symm)
   (λq D=>uS λh=>D (by rw[<-h.2,n,j])) (λ_ _=>rfl) (by
    rw[uO,if_pos ⟨F,by rw[n,j]⟩];exact Z) nofun (λr hr=>by
    rw[uO,if_pos ⟨F,by rw[n,j]⟩];have q:=(hi.2.2.row _ r hr).1;have b:=AN hi.2.1 (g.1.1);omega)
  refine⟨b0,by show cQ v.1.2.2.1.2.1;rw[N];exact a9,?_⟩;show Rel mE pE v.1.2.2.1.2.1 v.1.1 R.1.2.1 v.1.2.2.2.2.2.2.2 v.1.2.2.2.2.2.2.1;rw[N,Y,W,O,J (by omega)];have P:o.1.2.2=cC k.2.2.1.2.1 (aV e):=by rw[<-B,hi.2.2.con g' H,A]
  have I:slE e'=slE e:=congrArg (λz:Int×aL×List UInt8=>z.2.1.2.1) E;have G:afE e'=afE e:=congrArg (λz:Int×aL×List UInt8=>z.2.1.2.2.2) E;exact up (List.prefix_append _ _) (by rw[FS,if_pos ⟨F,by rw[n,j]⟩,I,G,j,<-P]) λq D=>SA λh=>D (by rw[<-h.2,n,j])
 exact K _ h
end
end Go.Am
end
section
namespace Go.Am
set_option linter.unusedVariables false
set_option maxRecDepth 20000
set_option maxHeartbeats 1000000
section
variable {mE:List J2} {dE:Int} {pE:Int->Prop} {B S:Int} {l l':List J2} {n:Int} {fr:List aF} {lk lk' rows rows':List aA} {f f':aF} {i:Int} {k k':J4}
theorem JLK{p:JJ}{x:Je}{y:Int×Int×Int×List aF}(e:sM (p,x)=some y)(c:y.2.2.1=0):y.2.2.2=p.2.1++[(x,false,0,true)]/\ ∀f∈p.2.1,f.1.1≠x.1:=by
 have g:Par (sM (p,x)) λy=>y.2.2.1=0->y.2.2.2=p.2.1++[(x,false,0,true)]/\ ∀f∈p.2.1,f.1.1≠x.1:=by unfold sM;refine .bind λ_ _=>.not (λ_=>.some nofun) λ_=>.bind λo _=>.ne (λc=>.some λh=>absurd h c) λ_=>.bind λi hi=>.ge (λ_=>.some nofun) λq=>.eq (λ_=>.some nofun) λ_=>.bind λr k=>.bind λn j=>.some λ_=>⟨?_,(xH hi).2.2 (by omega)⟩;rw[fW j,wX k]
 exact g _ e c
theorem JHg{p:JJ}{id lsn:Int}{y:iY}(e:BQ (p,id,lsn)=some y)(c:y.2=0): ∃i f,idx p.2.1 i=some f/\f.1.1=id/\lsn<=f.1.2.1/\(y.1.2.1=p.2.1\/ ∃f',f'.1=f.1/\(f'.2.1=false->f.2.1=false\/f.1.2.1=lsn)/\y.1.2.1=p.2.1.set i.toNat f'):=by
 have o:Par (BQ (p,id,lsn)) λy=>y.2=0-> ∃i f,idx p.2.1 i=some f/\f.1.1=id/\lsn<=f.1.2.1/\(y.1.2.1=p.2.1\/ ∃f',f'.1=f.1/\(f'.2.1=false->f.2.1=false\/f.1.2.1=lsn)/\y.1.2.1=p.2.1.set i.toNat f'):=by
  unfold BQ;refine .bind λ_ _=>.not (λ_=>.some nofun) λ_=>.bind λi hi=>.lt (λ_=>.some nofun) λx=>.bind λf w=>.gt (λ_=>.some nofun) λn=>?_;obtain⟨g,k,r⟩:=(xH hi).2.1 (by omega);have:g=f:=by rw[show idx p.2.1 i=some f from w]at k;injection k with k;exact k.symm
  subst this;have n:lsn<=g.1.2.1:=Int.not_lt.1 n;have go: ∀{f':aF} {q:JJ},f'.1=g.1->(f'.2.1=false->g.2.1=false\/g.1.2.1=lsn)->jH (p,i,f')=some q-> ∃i f,idx p.2.1 i=some f/\f.1.1=id/\lsn<=f.1.2.1/\(q.2.1=p.2.1\/ ∃f',f'.1=f.1/\(f'.2.1=false->f.2.1=false\/f.1.2.1=lsn)/\q.2.1=p.2.1.set i.toNat f'):=fun{f' q} h1 h2 j=>⟨i,g,k,r,n,.inr ⟨f',h1,h2,by rw[QJ j]⟩⟩;refine .not (λ_=>.some λ_=>⟨i,g,k,r,n,.inl rfl⟩) λ_=>.eq (λv=>.bind λq j=>.some λ_=>go (f':=(g.1,false,0,g.2.2.2)) rfl (λ_=>.inr v) j) λ_=>.le (λ_=>.bind λq j=>.some λ_=>go (f':=(g.1,g.2.1,J1 .i64 lsn 1,g.2.2.2)) rfl (λh=>.inl h) j) λ_=>.bind λq j=>.some λ_=>go (f':=(g.1,g.2)) rfl (λh=>.inl h) j
 exact o _ e c
theorem JEb{p:JJ}(e:JP p=some true):J0 p.2.1<=64:=by
 have g:Par (JP p) λy=>y=true->J0 p.2.1<=64:=by unfold JP;exact .ltf (λ_=>.gtf (λ_=>.gtf (λ_=>λ_ _ _=>by omega) λ_=>.some nofun) λ_=>.some nofun) λ_=>.some nofun
 exact g _ e rfl
theorem JEZ{x:Je}{y:cX}(e:sX (k,x)=some y)(c:y.2=0)(hi:aW mE dE pE k)(hc:x.2.2=cC (k.2.2.1.2.1.take x.2.1.toNat) x.1)(hs:pE x.1):aW mE dE pE y.1:=by
 have N:Par (sX (k,x)) λy=>y.2=0->aW mE dE pE y.1:=by
  unfold sX;dsimp only;refine .bind λv K=>.not (λ_=>.some nofun) λR=>.ltf (λc0=>.ge (λ_=>.some nofun) λc1=>.bind λy3 h3=>.lt (λ_=>.some nofun) λc3=>.bind λy4 Z=>.gt (λ_=>.some nofun) λc4=>.bind λU h5=>.ne (λc=>.some λh=>absurd h c) λV=>.bind λM Y=>?_) λ_=>.some nofun;subst R;obtain⟨i1,i2,i3⟩:=id hi;have J:x.2.1=bW k.2.2.1.2.1 x.1:=by have w:=OZ h3 K hi (by omega) (by omega);have q2:=OZ Z K hi (by omega) (by omega);omega
  rw[J,MG i2]at hc;have O:0<=x.1/\x.1<k.1:=⟨by omega,by omega⟩;obtain⟨H,G⟩:=JLK h5 V;have F:=FG Y;refine .ite (λI=>.bind λ_ _=>.bind λy8 E=>.bind λ_ _=>.bind λa2 n=>?_) λI=>.some λ_=>⟨i1,i2,?_⟩;have hlen: ∀z:aF,(JL .i64 (J0 (k.2.2.2.1.2.1++[z])) 1).toNat=k.2.2.2.1.2.1.length:=λz=>by
   have o:=bC (J0 (k.2.2.2.1.2.1++[z])) 1;have q:=JEb (MJ K);have T:=Jc (l:=k.2.2.2.1.2.1);rw[FT,AI]at*;unfold J0 at*;omega
  have st: ∀a b:aF,(k.2.2.2.1.2.1++[a]).set k.2.2.2.1.2.1.length b=k.2.2.2.1.2.1++[b]:=λa b=>by simp
  have Q: ∀a:aF,(k.2.2.2.1.2.1++[a])[k.2.2.2.1.2.1.length]?=some a:=λa=>by simp
  unfold aZ bQ at*;rw[H,hlen,Q]at E;injection E with E;subst E;simp only[H,hlen,st,Q]at n⊢;injection n with n;subst n;refine .while (λz=>z.2.1=k/\z.2.2.1=x/\z.2.2.2.2.1=k.2.2.2.1.2.1++[(x,true,M.1.2.1,true)]/\z.1<=9223372036854775807/\(0<=z.1->z.2.2.2.2.2.2.2.2=(k.2.2.2.2.2.2.2.take z.1.toNat).filter λd=>d.1≠x.1)) ⟨rfl,rfl,rfl,show(0:Int)<=9223372036854775807 by decide,λ_=>rfl⟩ ?_;rintro⟨i,g,W,k3,fr,u1,u2,u3,out⟩ ⟨rfl,rfl,C,S,D⟩;dsimp only at C S D;unfold WR;dsimp only;have o:=Ji i 1;have step: ∀{d:aA},idx g.2.2.2.2.2.2.2 i=some d->0<=i/\(0<=J1 .i64 i 1->g.2.2.2.2.2.2.2.take (J1 .i64 i 1).toNat=g.2.2.2.2.2.2.2.take i.toNat++[d]):=fun{d} B=>by obtain⟨A,w⟩:=cB B;exact⟨A,λh=>by rw[show(J1 .i64 i 1).toNat=i.toNat+1 by omega,List.take_add_one,w];rfl⟩
  refine .lt (λc=>.bind λd B=>.ne (λcd=>.bind λd2 j=>.bind λP L=>.some ⟨rfl,rfl,C,by dsimp only;omega,λh=>?_⟩) λcd=>.some ⟨rfl,rfl,C,by dsimp only;omega,λh=>?_⟩) λc=>.some λ_=>⟨i1,i2,?_⟩;obtain⟨A,w⟩:=step B;rw[B]at j;injection j with j;subst j;show P=_;rw[fW L,D A,w h,List.filter_append];simp[cd];obtain⟨A,w⟩:=step B;show out=_;rw[D A,w h,List.filter_append];simp[cd];show Rel mE pE g.2.2.1.2.1 g.1 fr out g.2.2.2.2.2.2.1;have T:=Jc (l:=g.2.2.2.2.2.2.2);rw[C,D (by omega),List.take_of_length_le (by unfold J0 at*;omega)];exact i3.add (f:=(W,true,M.1.2.1,true)) G O J nofun (λd=>by simp) hc hs;show Rel mE pE _ _ U.2.2.2 _ _;rw[H];refine i3.add (f:=(x,false,0,true)) G O J (λ_ r hr=>?_) (λd=>⟨λh=>⟨h,F.2 I d h⟩,λh=>h.1⟩) hc hs;exact(i3.row x.1 r hr).2 G (F.2 I)
 exact N _ e c
end
end Go.Am
end
section
namespace Go.Am
set_option linter.unusedVariables false
set_option maxRecDepth 20000
set_option maxHeartbeats 1000000
section
variable {mE:List J2} {dE:Int} {pE:Int->Prop} {k k':J4}
theorem D6{y:TZ}(e:nA k=some y)(c:y.2.2.2=0)(hi:aW mE dE pE k):aW mE dE pE y.1/\(y.2.2.1=true-> ∃f∈y.1.2.2.2.1.2.1,f.1=y.2.1):=by
 have C:Par (nA k) λy=>y.2.2.2=0->aW mE dE pE y.1/\(y.2.2.1=true-> ∃f∈y.1.2.2.2.1.2.1,f.1=y.2.1):=by
  unfold nA;refine .bind λ_ _=>.not (λ_=>.some nofun) λ_=>.lt (λ_=>.some λ_=>⟨hi,nofun⟩) λ_=>.bind λn h3=>.bind λL N=>.bind λf o=>?_;have v0:n.2.2=0:=by
   have J:Par (uZ k.2.2.2.1) λy=>y.2.2=0\/y.1=(0,[],0):=by unfold uZ;refine .bind λ_ _=>.not (λ_=>.some (.inr rfl)) λ_=>.eq (λ_=>.some (.inr rfl)) λ_=>.while (λ_=>True) trivial λz _=>?_;unfold WO;exact .bind λx S=>.ite (λ_=>.bind λy R=>.bind λq Q=>.bind λ_ _=>.some trivial) λ_=>.map (.bind λ_ _=>.some (.inl rfl))
   rcases J _ h3 with h|h;exact h;rw[h]at o;simp[idx]at o
  have i3:Rel mE pE k.2.2.1.2.1 k.1 n.1.2.1 k.2.2.2.2.2.2.2 k.2.2.2.2.2.2.1:=JFc h3 hi.2.2 v0;refine .not (λcd=>.bind λD E=>.some λ_=>⟨⟨hi.1,hi.2.1,?_⟩,nofun⟩) λ_=>.bind λP B=>.some λ_=>⟨aW.force (k:=(k.1,k.2.1,k.2.2.1,n.1,k.2.2.2.2)) ⟨hi.1,hi.2.1,i3⟩ B,λ_=>⟨f,?_,rfl⟩⟩;show Rel mE pE _ _ D.1.2.1 _ _;by_cases G:D.2=0;exact JJw E G i3;refine absurd ?_ G;have M:Par (hO (n.1,n.2.1)) λi=>0<=i->JP n.1=some true/\iH (n.1,n.2.1)=some i:=by unfold hO;exact .bind λv w=>.not (λ_=>.some λh=>absurd h (by decide)) λI=>.bind λi hi=>.some λ_=>⟨by rw[<-I];exact w,hi⟩
  obtain⟨A,_⟩:=cB o;obtain⟨r,F⟩:=M _ N A;have K:Par (vD (n.1,n.2.1)) λy=>y.2=0:=by
   unfold vD;refine .bind λv w=>.not (λc=>?_) λ_=>.bind λj O=>?_;rw[show JP n.1=some v from w]at r;injection r with r;subst r;cases c;have:j=L:=by rw[show iH (n.1,n.2.1)=some j from O]at F;injection F
   subst this;refine .lt (λc=>absurd A (by omega)) λ_=>.bind λg H=>.ite (λc=>?_) λ_=>.bind λ_ _=>.bind λ_ _=>.bind λ_ _=>.bind λ_ _=>.lt (λ_=>.ge (λ_=>.some rfl) λ_=>.some rfl) λ_=>.ge (λ_=>.some rfl) λ_=>.some rfl;rw[show idx n.1.2.1 j=some g from H]at o;injection o with o;subst o;exact absurd (c.symm.trans cd) (by decide)
  exact K _ E;rw[(FH (dE:=dE) B).2.2.2];exact jC o
 exact C _ e c
theorem s6{id:Int}{y:UG}(e:nD (k,id)=some y)(c:y.2.2=0)(hi:aW mE dE pE k):aW mE dE pE y.1/\ ∃f∈y.1.2.2.2.1.2.1,f.1=y.2.1:=by
 have g:Par (nD (k,id)) λy=>y.2.2=0->aW mE dE pE y.1/\ ∃f∈y.1.2.2.2.1.2.1,f.1=y.2.1:=by unfold nD;refine .bind λ_ _=>.not (λ_=>.some nofun) λ_=>.bind λr h3=>.not (λ_=>.some nofun) λo=>.bind λq h=>.some λ_=>⟨hi.force h,?_⟩;obtain⟨f,j,n,_⟩:=(zZ h3).1 o;exact⟨f,by rw[(FH (dE:=dE) h).2.2.2];exact j,n⟩
 exact g _ e c
theorem JEv{id lsn:Int}{y:cX}(e:sT (k,id,lsn)=some y)(c:y.2=0)(hi:aW mE dE pE k)(hf: ∃f∈k.2.2.2.1.2.1,f.1.1=id/\f.1.2.1=lsn):aW mE dE pE y.1:=by
 have D:Par (sT (k,id,lsn)) λy=>y.2=0->aW mE dE pE y.1:=by
  obtain⟨f,hf,E,V⟩:=hf;have hot:=(hi.2.2.hot f hf).1;rw[E,V]at hot;have K: ∀{g:hQ},gJ (k,0,7,0,0,0,lsn,(id,0,(false,[]),false,[]),[])=some g->g.2.2=0->aW mE dE pE g.1/\g.1.2.2.2.1=k.2.2.2.1/\g.1.1=k.1/\ ∀r,idx g.1.2.2.2.2.2.2.1 id=some r->r.1=bW g.1.2.2.1.2.1 id:=by intro g x z;have q:=OJ x z hi (λh=>absurd h (by show¬((7:Int)=1\/(7:Int)=2);decide)) (λ_=>Int.le_of_eq hot) (λh=>absurd h (by show¬(7:Int)=6;decide));refine⟨q.inv hi (by show¬((7:Int)=1\/(7:Int)=2);decide) (λ_=>Int.le_of_eq hot),?_⟩;obtain⟨F,e',W,a2,a3,a4,U,O,b0,H,Z,a9,Y,C⟩:=q;refine⟨H,U,λr n=>?_⟩;obtain⟨A,b1,b2⟩:=(C rfl).2 r n;have b3:=(hi.2.2.row id A b1).1;have o:=rZ A.1 lsn;have b2:r.1=dG A.1 lsn:=b2;rw[O];show r.1=bW (k.2.2.1.2.1++[e']) id;rw[uS (by rw[W];show¬(((7:Int)=1\/(7:Int)=2)/\_);omega)];omega
  unfold sT;dsimp only;refine .bind λv F=>.not (λ_=>.some nofun) λI=>.ltf (λ_=>.gef (λ_=>.ltf (λ_=>.bind λ_ _=>.gt (λ_=>.some nofun) λ_=>.bind λy4 S=>.ge (λQ=>.bind λJ T=>.ne (λc=>.some λh=>absurd h c) λN=>.bind λg x=>.ne (λc=>.some λh=>absurd h c) λz=>.some λ_=>?_) λQ=>?_) λ_=>.some nofun) λ_=>.some nofun) λ_=>.some nofun;obtain⟨B,R,g3,L⟩:=K x z;obtain⟨i,P,b1,b2,b3,o⟩:=JHg T N;refine⟨B.1,B.2.1,?_⟩;show Rel mE pE g.1.2.2.1.2.1 g.1.1 J.1.2.1 g.1.2.2.2.2.2.2.2 g.1.2.2.2.2.2.2.1;have j:=B.2.2;rw[R]at j;rcases o with o|⟨f',w,d2,G⟩;rw[o];exact j;rw[G];have M:=j.hot P (jC b1);refine j.upd b1 (by rw[w]) (λ_ _=>rfl) (λ_ _=>rfl) (by rw[w];exact M.1) (λ_ r n=>?_) (λr n=>(j.row _ r n).1) (List.prefix_refl _) (by rw[w];exact j.con _ (jC b1)) λ_ _=>rfl;rw[b2]at n⊢;exact L r n;refine absurd E ((QO S).2 (by omega) (MJ ?_) f hf);rw[<-I];exact F
 exact D _ e c
theorem JD0{y:hQ}(e:BU k=some y)(c:y.2.2=0)(hi:aW mE dE pE k):aW mE dE pE y.1:=by
 have g:Par (BU k) λy=>y.2.2=0->aW mE dE pE y.1:=by unfold BU;exact .bind λ_ _=>.not (λ_=>.some nofun) λ_=>.gt (λ_=>.some nofun) λ_=>.bind λ_ _=>.ne (λc=>.some λh=>absurd h c) λ_=>.some λ_=>hi
 exact g _ e c
theorem JFw{n:Int}{a:mZ}{y:eJ}(e:tA (k,n,a)=some y)(hi:aW mE dE pE k):aW mE dE pE y.1:=by
 have j:Par (tA (k,n,a)) λy=>aW mE dE pE y.1:=by unfold tA;dsimp only;refine .bind λA h2=>.not (λ_=>.some hi) λv=>.eq (λ_=>.bind λz h3=>.bind λ_ _=>.bind λ_ _=>.some ⟨hi.1,hi.2.1,JL0 h3 hi.2.2⟩) λ_=>.bind λ_ _=>.bind λx g=>?_;obtain⟨f,q,w,o⟩:=(zZ h2).1 v;rw[<-w]at g;exact .eq (λ_=>.bind λr h=>.ne (λ_=>.bind λ_ _=>.some hi) λ_=>.some (mh h hi (.inl rfl) ⟨f,q,o,g⟩)) λ_=>.bind λr h=>.ne (λ_=>.bind λ_ _=>.some hi) λ_=>.some (mh h hi (.inl rfl) ⟨f,q,o,g⟩)
 exact j _ e
theorem PL{t m:Int}{y:hQ}(e:gJ (k,0,m,t,0,0,0,(0,0,(false,[]),false,[]),[])=some y)(c:y.2.2=0)(hi:aW mE dE pE k)(hm:m=3\/m=4\/m=5):aW mE dE pE y.1:=by have q:=OJ e c hi (λh=>by dsimp only at h;omega) (λh=>by dsimp only at h;omega) (λh=>by dsimp only at h;omega);exact q.inv hi (λh=>by dsimp only at h;omega) (λh=>by dsimp only at h;omega)
theorem JG0{h:Int}{y:eJ}(e:sU (k,h)=some y)(hi:aW mE dE pE k):aW mE dE pE y.1:=by
 have g:Par (sU (k,h)) λy=>aW mE dE pE y.1:=by unfold sU;exact .bind λ_ _=>.bind λ_ _=>.eq (λ_=>.bind λ_ _=>.bind λ_ _=>.some hi) λ_=>.bind λr j=>.ne (λ_=>.bind λ_ _=>.some hi) λo=>.bind λq n=>.bind λ_ _=>.some (show aW mE dE pE q from(PL j o hi (.inl rfl)).force n)
 exact g _ e
theorem Ez{j st:Int}{y:eJ}(e:qR (k,j,st)=some y)(hi:aW mE dE pE k):aW mE dE pE y.1:=by
 have h:Par (qR (k,j,st)) λy=>aW mE dE pE y.1:=by unfold qR;refine .bind λ_ _=>.bind λ_ _=>.bind λ_ _=>.eq (λ_=>.bind λ_ _=>.bind λ_ _=>.some hi) λ_=>.bind λq o=>.ne (λ_=>.bind λ_ _=>.some hi) λn=>.while (λz=>aW mE dE pE z.2.2.2.2.2.2.2) (PL (k:=(k.1,k.2.1,k.2.2.1,k.2.2.2.1,_,k.2.2.2.2.2)) o n hi (.inr (.inl rfl))) λz g=>?_;unfold WL;exact .lt (λ_=>.bind λ_ _=>.eq (λ_=>.bind λ_ _=>.bind λ_ _=>.not (λ_=>.bind λ_ _=>.bind λ_ _=>.some g) λ_=>.some g) λ_=>.some g) λ_=>.some g
 exact h _ e
theorem JJK{v:Int}{a:mZ}{y:eJ}(e:sE (k,v,a)=some y)(hi:aW mE dE pE k):aW mE dE pE y.1:=by
 have r:Par (sE (k,v,a)) λy=>aW mE dE pE y.1:=by unfold sE;have g: ∀{o:Option (eE)},Par (o.bind λj=>if aO j.2 0 then(Jr j.2).bind λw=>some (k,w)else some ((k.1,k.2.1,k.2.2.1,k.2.2.2.1,k.2.2.2.2.1,j.1,k.2.2.2.2.2.2),1,0,0,(false,[]),0)) λy=>aW mE dE pE y.1:=.bind λ_ _=>.ne (λ_=>.bind λ_ _=>.some hi) λ_=>.some hi;refine .bind λ_ _=>.ne (λ_=>.bind λ_ _=>.some hi) λ_=>.eq (λ_=>.bind λD x=>.some (JG0 x hi)) λ_=>.eq (λ_=>.bind λC z=>.some (Ez z hi)) λ_=>.eq (λ_=>.bind λ_ _=>.eq (λ_=>g) λ_=>.ne (λ_=>.bind λ_ _=>.some hi) λ_=>.some hi) λ_=>.eq (λ_=>.bind λ_ _=>.eq (λ_=>g) λ_=>.ne (λ_=>.bind λ_ _=>.some hi) λ_=>.some hi) λ_=>.bind λ_ _=>.bind λh _=>.ne (λ_=>.bind λ_ _=>.some hi) λ_=>.ite (λ_=>.bind λA q=>.eq (λ_=>.some hi) λ_=>.some (JFw (k:=(k.1,k.2.1,k.2.2.1,k.2.2.2.1,h.1,k.2.2.2.2.2)) q hi)) λ_=>.bind λ_ _=>.gt (λ_=>.bind λB n=>.eq (λ_=>.some hi) λ_=>.some (Ez (k:=(k.1,k.2.1,k.2.2.1,k.2.2.2.1,h.1,k.2.2.2.2.2)) n hi)) λ_=>.bind λ_ _=>.some hi
 exact r _ e
theorem s9{p:Je}{c:aL}{y:fS}(h:lI (p,c)=some y)(c0:y.2=0):c.1=p.1/\vat p.2.2 c.2.1.toNat=some c.2.2.1/\y.1=(p.1,p.2.1,fY p.2.2 c.2.1.toNat c.2.2.2):=by
 have e:Par (lI (p,c)) λy=>y.2=0->c.1=p.1/\vat p.2.2 c.2.1.toNat=some c.2.2.1/\y.1=(p.1,p.2.1,fY p.2.2 c.2.1.toNat c.2.2.2):=by unfold lI;refine .bind λ_ _=>.not (λ_=>.some nofun) λ_=>.ne (λ_=>.some nofun) λg=>.bind λ_ _=>.bind λn k=>.not (λ_=>.some nofun) λj=>.bind λ_ _=>.bind λ_ _=>.some λ_=>⟨g,?_,rfl⟩;rw[<-eB.1 j];exact k
 exact e _ h c0
theorem Dq{x:Jo}{e:J2}{y:eJ}(h:hH (k,x,e)=some y)(hi:aW mE dE pE k):aW mE dE pE y.1:=by
 have n:Par (hH (k,x,e)) λy=>aW mE dE pE y.1:=by
  unfold hH;dsimp only;refine .bind λE h2=>.not (λ_=>.some hi) λq=>.bind λo h3=>.bind λD j=>.ne (λ_=>.bind λ_ _=>.some hi) λw=>.bind λC r=>.ne (λ_=>.bind λ_ _=>.some hi) λ_=>?_;obtain⟨f,A,B,z⟩:=(zZ h2).1 q;have j:=(s9 j w).2.1;rw[<-B]at j;have v:o.1=e.2.2.2.2.2.2.1.1:=by unfold NM at h3;injection h3 with h3;subst h3;rfl
  have g:=mh r hi (.inr rfl) ⟨f,A,z.trans v.symm,j⟩;exact .eq (λ_=>.bind λ_ _=>.not (λ_=>.bind λ_ _=>.some g) λ_=>.some g) λ_=>.some g
 exact n _ h
end
section
variable {mE:List J2} {dE:Int} {pE:Int->Prop} {k k':J4}
theorem JGA{g:Int}{c:JQ}{y:eJ}(h:mD (k,g,c)=some y)(hi:aW mE dE pE k):aW mE dE pE y.1:=by
 have e:Par (mD (k,g,c)) λy=>aW mE dE pE y.1:=by unfold mD;exact .bind λ_ _=>.ne (λ_=>.bind λ_ _=>.some hi) λ_=>.ne (λ_=>.bind λ_ _=>.some hi) λ_=>.bind λ_ _=>.not (λ_=>.some hi) λ_=>.bind λn j=>.some (Dq j hi)
 exact e _ h
theorem sj{j:Int}{y:eJ}(h:gK (k,j)=some y)(hi:aW mE dE pE k):aW mE dE pE y.1:=by
 have n:Par (gK (k,j)) λy=>aW mE dE pE y.1:=by unfold gK;have q: ∀x:Jo,Par ((qM (k,j)).bind λe=>if Jn e.2 then(Jr 14).bind λo=>some (k,o)else(hH (k,x,e.1)).bind λg=>some (g.1,g.2)) λy=>aW mE dE pE y.1:=λx=>.bind λ_ _=>.not (λ_=>.bind λ_ _=>.some hi) λ_=>.bind λA r=>.some (Dq r hi);exact .bind λ_ _=>.ne (λ_=>.bind λ_ _=>.some hi) λ_=>.eq (λ_=>.eq (λ_=>.bind λv z=>.ne (λ_=>.bind λ_ _=>.some hi) λw=>.bind λ_ _=>.some (show aW mE dE pE v.1 from PL z w hi (.inr (.inr rfl)))) λ_=>q _) λ_=>q _
 exact n _ h
end
section
variable {mE:List J2} {dE:Int} {pE:Int->Prop} {k k':J4}
def Fl(r:eH):Prop:=r.1=5->r.2.2.2.2≠0
theorem ma{r:eH}(h:r.1≠5):Fl r:=λe=>absurd e h
theorem KR{n:Int}{r:eH}(h:Jr n=some r)(hn: ¬n=0):Fl r:=by unfold Jr at h;injection h with h;subst h;exact λ_=>hn
theorem JJD{x:Jo}{e:J2}{y:eJ}(h:hH (k,x,e)=some y):Fl y.2:=by
 have g:Par (hH (k,x,e)) λy=>Fl y.2:=by unfold hH;have d:Fl (1,x.1,0,(false,[]),0):=ma (show(1:Int)≠5 by decide);exact .bind λr h2=>.not (λ_=>.some (ma (show(3:Int)≠5 by decide))) λj=>.bind λq h3=>.bind λ_ _=>.ne (λc=>.bind λ_ h=>.some (KR h c)) λ_=>.bind λn o=>.ne (λc=>.bind λ_ h=>.some (KR h c)) λ_=>.eq (λ_=>.bind λ_ _=>.not (λ_=>.bind λ_ _=>.some d) λ_=>.some d) λ_=>.some d
 exact g _ h
theorem rm{j:Int}{y:eJ}(h:gK (k,j)=some y):Fl y.2:=by
 have n:Par (gK (k,j)) λy=>Fl y.2:=by unfold gK;have q: ∀x:Jo,Par ((qM (k,j)).bind λe=>if Jn e.2 then(Jr 14).bind λo=>some (k,o)else(hH (k,x,e.1)).bind λg=>some (g.1,g.2)) λy=>Fl y.2:=λx=>.bind λ_ _=>.not (λ_=>.bind λ_ h=>.some (KR h (by decide))) λ_=>.bind λv r=>.some (JJD r);exact .bind λ_ _=>.ne (λc=>.bind λ_ h=>.some (KR h c)) λ_=>.eq (λ_=>.eq (λ_=>.bind λw A=>.ne (λc=>.bind λ_ h=>.some (KR h c)) λz=>.bind λ_ _=>.some (ma (show(1:Int)≠5 by decide))) λ_=>q _) λ_=>q _
 exact n _ h
end
end Go.Am
end
section
namespace Go.Am
set_option linter.unusedVariables false
set_option maxRecDepth 20000
set_option maxHeartbeats 1000000
section
variable {mE:List J2} {dE:Int} {pE:Int->Prop}
theorem EA{n:Int}(h1:0<=n)(h2:n<18446744073709551616):IntKind.u64.wrap n=n:=by simp[IntKind.wrap,IntKind.bits,IntKind.signed];omega
theorem B5{n:Int}(h1: -9223372036854775808<=n)(h2:n<=9223372036854775807):IntKind.i64.wrap n=n:=by simp[IntKind.wrap,IntKind.bits,IntKind.signed];omega
theorem Zx{l:List UInt8}{k:Nat}(h:k<l.length):oZ l (k:Int)=some ((l[k]).toNat:Int):=by simp[oZ,h]
theorem JK9{x b j:Nat}(hj:j<=7)(hx:x<2^(8*j))(hb:b<256):
  orI .u64 (x:Int) (IntKind.wrap .u64 (((b:Nat):Int)*2^(8*j)))=((x+b*2^(8*j):Nat):Int):=by
 have k:(2:Nat)^(8*j)*256<=2^64:=by rw[show(256:Nat)=2^8 by rfl,<-Nat.pow_add];exact DD (by omega) (by omega)
 have n:b*2^(8*j)+2^(8*j)<=2^64:=by have:(b+1)*2^(8*j)<=256*2^(8*j):=zQ4 _ (by omega);rw[zQ8,Nat.one_mul]at this;omega
 have w:IntKind.wrap .u64 (((b:Nat):Int)*2^(8*j))=((b*2^(8*j):Nat):Int):=by
  have e:(((b:Nat):Int)*2^(8*j))=((b*2^(8*j):Nat):Int):=by simp
  rw[e,EA (by omega) (by omega)]
 rw[w];have g: ∀y:Nat,y<2^64->(BitVec.ofInt 64 (y:Int)).toNat=y:=by intro y o;rw[BitVec.toNat_ofInt];omega
 show IntKind.wrap .u64 (((BitVec.ofInt 64 (x:Int)|||BitVec.ofInt 64 ((b*2^(8*j):Nat):Int)).toNat:Nat):Int)=_;rw[BitVec.toNat_or,g x (by omega),g _ (by omega)];have h:x|||b*2^(8*j)=x+b*2^(8*j):=by rw[Nat.or_comm,Nat.mul_comm b,<-Nat.two_pow_add_eq_or_of_lt hx,Nat.add_comm]
 rw[h,EA (by omega) (by omega)]
theorem JAA{n i:Nat}(hn:n<2^64):J6V (n:Int) i=((n/2^(8*i)%256:Nat):Int):=by show((IntKind.wrap .u64 (n:Int)).fdiv (2^(8*i)))%256=_;rw[Int.fdiv_eq_ediv_of_nonneg _ (Int.le_of_lt (Int.pow_pos (by decide))),EA (by omega) (by omega)];simp
theorem JF6{n:Int}{k i:Nat}(h:i<k):(J06 n k)[i]?=some (UInt8.ofNat (J6V n i).toNat):=by simp[J06,toStr,h]
theorem dZ{s r:List UInt8}{n:Int}{k:Nat}(h1:1<=k)(D:k<=8)(h:JT (s,n,(k:Int))=some r):r=s++J06 n k:=by
 have q:Par (JT (s,n,(k:Int))) λr=>r=s++J06 n k:=by
  unfold JT;refine .ltf (λ_=>.gt (λc=>by dsimp only at c;omega) λ_=>?_) λc=>by dsimp only at c;omega
  refine .while (λz=>z.2.1=n/\z.2.2.1=(k:Int)/\ ∃j:Nat,z.2.2.2=(j:Int)/\j<=k/\z.1=s++J06 n j) ⟨rfl,rfl,0,rfl,zQ2 _,by simp[J06,toStr]⟩ ?_;rintro⟨o,v,k',A⟩ ⟨rfl,rfl,j,rfl,F,e⟩;dsimp only at e;subst e;unfold jj;dsimp only;have C:=Ji (j:Int) 1;have B:=KG 8 (j:Int);refine .lt (λc=>.bind λw h3=>.bind λE g=>.some ⟨rfl,rfl,j+1,by dsimp only;omega,by omega,?_⟩) λc=>.some (by rw[show j=k by omega]);have y:bN .u8 w=J6V v j:=by
   have x:bN .u64 (cV .i64 8 (j:Int))=((8*j:Nat):Int):=by unfold bN;rw[EA (by omega) (by omega)];omega
   rw[x]at h3;simp only[mS]at h3;rw[if_neg (by omega)]at h3;injection h3 with h3;rw[<-h3];have:min (((8*j:Nat):Int)).toNat IntKind.u64.bits=8*j:=by simp only[Int.toNat_natCast];exact Nat.min_eq_left (by show 8*j<=64;omega)
   rw[this];rfl
  rw[y]at g;dsimp only;unfold eK at g;split at g;injection g with g;rw[<-g,Jqa,fM];rfl;cases g
 exact q _ h
def At(s w:List UInt8)(p:Int):Prop:= ∃pre e,s=pre++(w++e)/\(pre.length:Int)=p
theorem At.left{s a b:List UInt8}{p:Int}(h:At s (a++b) p):At s a p:=by obtain⟨pre,g,e,h⟩:=h;exact⟨pre,b++g,by rw[e];simp,h⟩
theorem At.right{s a b:List UInt8}{p:Int}(h:At s (a++b) p):At s b (p+a.length):=by obtain⟨pre,g,e,h⟩:=h;exact⟨pre++a,g,by rw[e];simp,by rw[dS];omega⟩
theorem At.bnd{s w:List UInt8}{p:Int}(h:At s w p):0<=p/\p+w.length<=s.length:=by obtain⟨pre,g,e,h⟩:=h;subst e;simp only[dS];omega
theorem At.slc{s w r:List UInt8}{p q:Int}(h:At s w p)(hq:q=p+w.length)(e:bG s (some p) (some q)=some r):r=w:=by
 obtain⟨pre,g,rfl,rfl⟩:=h;obtain⟨r',e',d,_⟩:=LH (l:=pre++(w++g)) (j:=pre.length) (k:=q) (by omega) (by omega) (by unfold J0;simp only[dS];omega);rw[e']at e;injection e with e;subst e;rw[d,show(q-(pre.length:Int)).toNat=w.length by omega];simp
theorem At.all{s:List UInt8}:At s s 0:=⟨[],[],by simp,rfl⟩
theorem wK{s:List UInt8}{p:Int}{n k:Nat}(h:At s (J06 n k) p)(h1:1<=k)(M:k<=8)(hn:n<2^(8*k))(H:n<2^63)(hl:s.length<=4611686018427387904):
  dP (s,p,(k:Int))=some ((n:Int),0):=by
 have r:=h.bnd;rw[Jv]at r;obtain⟨pre,D,G,rfl⟩:=h;have w:Tot (dP (s,(pre.length:Int),(k:Int))) λy=>y=((n:Int),0):=by
  unfold dP;have o:=bC (J0 s) (pre.length:Int);have I:J0 s=(s.length:Int):=rfl;refine .ltf (λ_=>.gtf (λ_=>.lt (λc=>by dsimp only at c;omega) λ_=>.gtf (λ_=>.lt (λc=>by dsimp only at c;omega) λ_=>?_) λc=>by dsimp only at c;omega) λc=>by dsimp only at c;omega) λc=>by dsimp only at c;omega
  refine Ju (τ:=Nat) (λj=>(s,(pre.length:Int),(k:Int),((n%2^(8*j):Nat):Int),(j:Int))) (λj=>j<=k) (λj=>(k:Int)-j) ?_ 0 (by simp[Nat.mod_one]) (zQ2 _);intro j N;unfold WA;dsimp only;have K:=Ji (j:Int) 1;have J:=KG 8 (j:Int);have L:=Ji (pre.length:Int) (j:Int);refine .lt (λc=>?_) λc=>.some ?_;have F:J1 .i64 (pre.length:Int) (j:Int)=((pre.length+j:Nat):Int):=by omega
  have g:pre.length+j<s.length:=by omega
  have r:(s[pre.length+j]'g).toNat=n/2^(8*j)%256:=by
   have q:s[pre.length+j]?=some (UInt8.ofNat (J6V (n:Int) j).toNat):=by rw[G,mM (by omega),Nat.add_sub_cancel_left,rD (by rw[Jv];omega),JF6 (by omega)]
   rw[zQ9 g]at q;injection q with q;have C:=JmH (n:Int) j;rw[<-q,JAA (by omega)]at C;omega
  have z:n/2^(8*j)%256<256:=Nat.mod_lt _ (by omega);have B:bN .u64 (cV .i64 8 (j:Int))=((8*j:Nat):Int):=by unfold bN;rw[EA (by omega) (by omega)];omega
  have E:tI .u64 (bN .u64 (((s[pre.length+j]'g).toNat:Nat):Int)) ((8*j:Nat):Int)=some (IntKind.wrap .u64 (((n/2^(8*j)%256:Nat):Int)*2^(8*j))):=by
   unfold bN;rw[r,EA (by omega) (by omega)];simp only[tI];rw[if_neg (by omega)];have:min (((8*j:Nat):Int)).toNat IntKind.u64.bits=8*j:=by simp only[Int.toNat_natCast];exact Nat.min_eq_left (by show 8*j<=64;omega)
   rw[this]
  have v:=JK9 (x:=n%2^(8*j)) (b:=n/2^(8*j)%256) (j:=j) (by omega) (Nat.mod_lt _ (Nat.two_pow_pos _)) z;have A:n%2^(8*j)+n/2^(8*j)%256*2^(8*j)=n%2^(8*(j+1)):=by rw[Nat.mul_add,Nat.pow_add,Nat.mod_mul,Nat.mul_comm (n/2^(8*j)%256)]
  rw[A]at v;rw[F,Zx g,JI,B,E,JI,v];exact .some ⟨j+1,by rw[show J1 .i64 (j:Int) 1=((j+1:Nat):Int) by omega],by omega,by omega,by omega⟩;rw[show j=k by omega,Nat.mod_eq_of_lt hn];unfold bN;rw[B5 (by omega) (by omega)]
 obtain⟨y,e,d⟩:=w;rw[e,d]
end
end Go.Am
end
section
namespace Go.Am
set_option linter.unusedVariables false
set_option maxRecDepth 20000
set_option maxHeartbeats 1000000
section
variable {mE:List J2} {dE:Int} {pE:Int->Prop}
def eS(c:JY):Prop:=J0 c.2<=12/\(c.1=false->c.2=[])
def EV(e:J2):Prop:=(1<=e.1/\e.1<=1099511627776)/\(0<=e.2.2.2.1/\e.2.2.2.1<e.1)/\(0<=e.2.2.2.2.1/\e.2.2.2.2.1<e.1)/\(0<=e.2.2.2.2.2.1/\e.2.2.2.2.2.1<e.1)/\(1<=e.2.1/\e.2.1<=8)/\(0<=e.2.2.1/\e.2.2.1<=1073741824)/\(0<=aV e/\aV e<64)/\(0<=e.2.2.2.2.2.2.1.2.1/\e.2.2.2.2.2.2.1.2.1<16)/\eS e.2.2.2.2.2.2.1.2.2.1/\eS e.2.2.2.2.2.2.1.2.2.2/\J0 e.2.2.2.2.2.2.2<=8192
theorem QS{c:JY}(h:hM c=some true):eS c:=by
 have e:Par (hM c) λy=>y=true->eS c:=by
  unfold hM;refine .ite (λc1=>.itf (λg=>.some ?_) λg=>.some ?_) λc1=>.some ?_
  all_goals grind [eS,eqS,bJ,J0]
 exact e _ h rfl
theorem EV.of{e:J2}(h:Jm e=some true):EV e:=by
 obtain⟨H,B,A,G,F,E,⟨w,x,r,o⟩,j⟩:=e;have g: ∀{c:aL} {b:Bool},kG c=some b->b=true->(0<=c.1/\c.1<64)/\(0<=c.2.1/\c.2.1<16)/\eS c.2.2.1/\eS c.2.2.2:=fun{c b} D K=>by
  have C:Par (kG c) λy=>y=true->(0<=c.1/\c.1<64)/\(0<=c.2.1/\c.2.1<16)/\eS c.2.2.1/\eS c.2.2.2:=by unfold kG;refine .ge (λc1=>.lt (λL=>.ge (λg=>.lt (λN=>.bind λa O=>.ite (λJ=>.bind λb D=>.some λI=>?_) λ_=>.some nofun) λ_=>.some nofun) λ_=>.some nofun) λ_=>.some nofun) λ_=>.some nofun;subst J;subst I;exact⟨⟨c1,L⟩,⟨g,N⟩,QS O,QS D⟩
  exact C _ D K
 have z:eS (false,[]):=⟨show(0:Int)<=12 by decide,λ_=>rfl⟩;have V:Par (qQ (H,B,A,G,F,E,(w,x,r,o),j)) λy=>y.2=true->y.1=(H,B,A,G,F,E,(w,x,r,o),j)->(1<=B/\B<=8)/\(0<=A/\A<=1073741824)/\(0<=w/\w<64)/\(0<=x/\x<16)/\eS r/\eS o/\J0 j<=8192:=by
  unfold qQ;dsimp only
  repeat' first
   |refine .eq (λ_=>?_) λ_=>?_
   |refine .ge (λ_=>?_) λ_=>?_
   |refine .le (λ_=>?_) λ_=>?_
   |refine .gt (λ_=>?_) λ_=>?_
   |exact .some λh=>absurd h Bool.false_ne_true
   |refine .bind λv q=>.ite (λk=>?_) λ_=>.some nofun
   |refine .bind λv q=>.eq (λ_=>.ite (λk=>?_) λ_=>.some nofun) λ_=>.ite (λk=>?_) λ_=>.some nofun
  all_goals refine .some λc P=>?_
  all_goals simp only[Prod.mk.injEq,true_and,and_true]at P
  all_goals simp only[iC,fU,kE]at c
  all_goals first
   |exact⟨by omega,by omega,(g q k).1,(g q k).2.1,(g q k).2.2.1,(g q k).2.2.2,by rw[<-P];exact(by decide:(0:Int)<=8192)⟩
   |exact⟨by omega,by omega,(g q k).1,(g q k).2.1,(g q k).2.2.1,(g q k).2.2.2,by rw[<-P.2];exact(by decide:(0:Int)<=8192)⟩
   |(have Y:r=(false,[]):=by grind
     have R:o=(false,[]):=by grind
     have Q:J0 j<=8192:=by
      first
       |exact c
       |(have:j=[]:=by grind
         rw[this];exact(by decide:(0:Int)<=8192))
     rw[Y,R];exact⟨by omega,by omega,by omega,by omega,z,z,Q⟩)
 have M: ∀{n l:Int} {b:Bool},mG (n,l)=some b->b=true->0<=n/\n<l:=fun{n l b} D K=>RV (by rw[<-K];exact D);have C:Par (Jm (H,B,A,G,F,E,(w,x,r,o),j)) λy=>y=true->EV (H,B,A,G,F,E,(w,x,r,o),j):=by unfold Jm;exact .bind λa O=>.ite (λc1=>.ite (λL=>.ge (λg=>.le (λN=>.bind λb1 T=>.ite (λJ=>.bind λb2 S=>.ite (λI=>.bind λb3 U=>.some λW=>⟨⟨g,N⟩,M T J,M S I,M U W,V _ O c1 (eB.1 L)⟩) λ_=>.some nofun) λ_=>.some nofun) λ_=>.some nofun) λ_=>.some nofun) λ_=>.some nofun) λ_=>.some nofun
 exact C _ h rfl
end
end Go.Am
end
section
namespace Go.Am
set_option linter.unusedVariables false
set_option maxRecDepth 20000
set_option maxHeartbeats 1000000
section
variable {mE:List J2} {dE:Int} {pE:Int->Prop}
def oG(c:JY):List UInt8:=if c.1=false then J06 255 1 else J06 (J0 c.2) 1++c.2
def jL(e:J2):List UInt8:=J06 e.1 8++(J06 e.2.1 1++(J06 e.2.2.1 4++(J06 e.2.2.2.1 8++(J06 e.2.2.2.2.1 8++(J06 e.2.2.2.2.2.1 8++(J06 (aV e) 4++(J06 e.2.2.2.2.2.2.1.2.1 1++(oG e.2.2.2.2.2.2.1.2.2.1++(oG e.2.2.2.2.2.2.1.2.2.2++(J06 (J0 e.2.2.2.2.2.2.2) 4++e.2.2.2.2.2.2.2))))))))))
theorem jV{a b r:List UInt8}(h:eK a b=some r):r=a++b:=by
 unfold eK at h;split at h;injection h with h;exact h.symm;cases h
theorem Dy{s r:List UInt8}{c:JY}(h:xT (s,c)=some r):r=s++oG c:=by
 have e:Par (xT (s,c)) λr=>r=s++oG c:=(by unfold xT oG;refine .not (λd=>.bind λn h2=>.some ?_) λd=>.bind λj h3=>.bind λo g=>.some ?_;rw[dZ (k:=1) (by decide) (by decide) h2,if_pos d];rw[jV g,dZ (k:=1) (by decide) (by decide) h3,if_neg (by rw[show c.1=true from d];decide),fM]);exact e _ h
theorem JLD{e:J2}{y:List UInt8×Int}(h:CB e=some y)(hv:Jm e=some true):y=(jL e,0):=by
 have w:Par (CB e) λy=>y=(jL e,0):=(by unfold CB;refine .bind λv g=>.not (λc=>?_) λ_=>.bind λK h3=>.bind λP C=>.bind λM D=>.bind λN A=>.bind λJ x=>.bind λL z=>.bind λO B=>.bind λE o=>.bind λI r=>.bind λH q=>.bind λF j=>.bind λG n=>.some ?_;rw[hv]at g;injection g with g;subst g;cases c;rw[jV n,dZ (k:=4) (by decide) (by decide) j,Dy q,Dy r,dZ (k:=1) (by decide) (by decide) o,dZ (k:=4) (by decide) (by decide) B,dZ (k:=8) (by decide) (by decide) z,dZ (k:=8) (by decide) (by decide) x,dZ (k:=8) (by decide) (by decide) A,dZ (k:=4) (by decide) (by decide) D,dZ (k:=1) (by decide) (by decide) C,dZ (k:=8) (by decide) (by decide) h3];unfold jL;simp only[fM,lP];rfl);exact w _ h
variable {s:List UInt8} {p:Int}
theorem pN{n:Int}{k:Nat}(b:Nat)(h:At s (J06 n k) p)(hl:s.length<=1000000)(h0:0<=n)(hn:n<b)(hb:b=2^(8*k):=by rfl)(h1:1<=k:=by decide)(j:k<=8:=by decide)(q:n<9223372036854775808:=by omega):JH ((k:Int),s,p,0)=some (n,s,p+k,0):=by have e:=h.bnd;rw[Jv]at e;obtain⟨m,rfl⟩:=Int.eq_ofNat_of_zero_le h0;have g:=wK h h1 j (by omega) (by omega) (by omega);have o:=Ji p (k:Int);unfold JH;dsimp only;rw[if_neg (by decide),g];dsimp only[Option.bind_some];rw[if_neg (by decide),show J1 .i64 p (k:Int)=p+k by omega]
theorem Cx{w:List UInt8}(h:At s w p)(hl:s.length<=1000000):yG (J0 w,s,p,0)=some (w,s,p+w.length,0):=by
 have k:=h.bnd;have o:=Ji p (J0 w);have q:=bC (J0 s) p;have n:=bC (J1 .i64 p (J0 w)) (J0 w);have v:J0 w=w.length:=rfl;have x:J0 s=s.length:=rfl;have g:Tot (yG (J0 w,s,p,0)) λy=>y=(w,s,p+w.length,0):=by unfold yG;dsimp only;refine .ne (λc=>absurd rfl c) λ_=>.gt (λc=>by omega) λ_=>?_;rw[show JL .i64 (J1 .i64 p (J0 w)) (J0 w)=p by omega,show J1 .i64 p (J0 w)=p+w.length by omega];refine .bind (LH (l:=s) k.1 (by omega) (by omega)).eqn λr j=>.some ?_;rw[h.slc rfl j.2]
 obtain⟨y,e,d⟩:=g;rw[e,d]
theorem Cq{c:JY}(h:At s (oG c) p)(hc:eS c)(hl:s.length<=1000000):CX (s,p,0)=some (c,s,p+(oG c).length,0):=by
 unfold oG at h⊢;unfold CX;obtain⟨b,d⟩:=c;obtain⟨h1,h2⟩:=hc;dsimp only at h h1 h2⊢;have j:=Jc (l:=d);cases b with
 |false=>rw[if_pos rfl]at h⊢;have g:=pN (k:=1) 256 h hl (by decide) (by decide);rw[show JH (1,s,p,0)=_ from g,h2 rfl];rfl
 |true=>rw[if_neg (by decide)]at h⊢;have g:=pN (k:=1) 256 h.left hl (by omega) (by omega);have e:=Cx h.right hl;rw[show JH (1,s,p,0)=_ from g];dsimp only[Option.bind_some];rw[if_pos (by decide),if_neg (by rw[qE];omega),if_neg (by rw[kE];omega)];rw[Jv]at e;rw[e];dsimp only[Option.bind_some];rw[dS,Jv,Int.natCast_add,Int.add_assoc]
theorem mj{e:J2}(hv:Jm e=some true):CC (jL e)=some (e,0)/\(jL e).length<=8300:=by
 obtain⟨v1,v2,O,P,Q,K,L,N,v,j,J⟩:=EV.of hv;have n: ∀{c:JY},eS c->(oG c).length<=13:=fun{c} H=>by
  unfold oG;have:=H.1;unfold J0 at this;split;rw[Jv];decide;rw[dS,Jv];omega
 have c1:=n v;have M:=n j;have F:(jL e).length=46+(oG e.2.2.2.2.2.2.1.2.2.1).length+(oG e.2.2.2.2.2.2.1.2.2.2).length+e.2.2.2.2.2.2.2.length:=by unfold jL;simp only[dS,Jv];omega
 have I:J0 e.2.2.2.2.2.2.2=e.2.2.2.2.2.2.2.length:=rfl;refine⟨?_,by omega⟩;have h:(jL e).length<=1000000:=by omega
 generalize G:jL e=s at F h;have g:At s (jL e) 0:=by rw[G];exact .all
 unfold jL at g;have E:=pN (k:=8) 18446744073709551616 g.left h (by omega) (by omega);replace g:=g.right;simp only[Jv]at g;have D:=pN (k:=1) 256 g.left h (by omega) (by omega);replace g:=g.right;simp only[Jv]at g;have C:=pN (k:=4) 4294967296 g.left h (by omega) (by omega);replace g:=g.right;simp only[Jv]at g;have A:=pN (k:=8) 18446744073709551616 g.left h (by omega) (by omega);replace g:=g.right;simp only[Jv]at g;have B:=pN (k:=8) 18446744073709551616 g.left h (by omega) (by omega);replace g:=g.right;simp only[Jv]at g;have w:=pN (k:=8) 18446744073709551616 g.left h (by omega) (by omega);replace g:=g.right;simp only[Jv]at g;have y:=pN (k:=4) 4294967296 g.left h (by omega) (by omega);replace g:=g.right;simp only[Jv]at g;have z:=pN (k:=1) 256 g.left h (by omega) (by omega);replace g:=g.right;simp only[Jv]at g;have x:=Cq g.left v h;replace g:=g.right;have r:=Cq g.left j h;replace g:=g.right;have o:=pN (k:=4) 4294967296 g.left h (by omega) (by omega);replace g:=g.right;simp only[Jv]at g;have q:=Cx g h;unfold CC;rw[show JH (8,s,0,0)=_ from E,JI];rw[show JH (1,s,_,0)=_ from D,JI];rw[show JH (4,s,_,0)=_ from C,JI];rw[show JH (8,s,_,0)=_ from A,JI];rw[show JH (8,s,_,0)=_ from B,JI];rw[show JH (8,s,_,0)=_ from w,JI];rw[show JH (4,s,_,0)=_ from y,JI];rw[show JH (1,s,_,0)=_ from z,JI];rw[x,JI];rw[r,JI];rw[show JH (4,s,_,0)=_ from o,JI];rw[q,JI];dsimp only;rw[if_neg (by decide),if_neg (by rw[LK,Decidable.not_not];unfold J0;omega)];rw[show Jm (e.1,e.2.1,e.2.2.1,e.2.2.2.1,e.2.2.2.2.1,e.2.2.2.2.2.1,(aV e,e.2.2.2.2.2.2.1.2.1,e.2.2.2.2.2.2.1.2.2.1,e.2.2.2.2.2.2.1.2.2.2),e.2.2.2.2.2.2.2)=some true from hv];rfl
end
end Go.Am
end
section
namespace Go.Am
set_option linter.unusedVariables false
set_option maxRecDepth 20000
set_option maxHeartbeats 1000000
section
variable {mE:List J2} {dE:Int} {pE:Int->Prop} {s r w:List UInt8} {p:Int}
theorem C2{c:Int}(h:qJ s=some c):0<=c/\c<4294967296:=by
 have e:Par (qJ s) λc=>0<=c/\c<4294967296:=(by unfold qJ;refine .while (λ_=>True) trivial λz _=>?_;unfold i5;refine .lt (λ_=>.bind λ_ _=>.while (λ_=>True) trivial λz _=>?_) λ_=>.some ?_;unfold jg;exact .lt (λ_=>.eq (λ_=>.bind λ_ _=>.some trivial) λ_=>.bind λ_ _=>.some trivial) λ_=>.some trivial;exact⟨(qG .u32 _).1,Int.lt_of_le_of_lt (qG .u32 _).2 (by decide)⟩);exact e _ h
def FrB(w r:List UInt8):Prop:=J0 w<=8392/\ ∃c,qJ (J06 (J0 w) 4++w)=some c/\r=(J06 (J0 w) 4++w)++J06 c 4
theorem C4(h:xW w=some r)(hl:J0 w<=8392):FrB w r:=by
 have g:Par (xW w) λr=>FrB w r:=(by unfold xW;refine .gt (λc=>by omega) λ_=>.bind λq h2=>.bind λn h3=>.bind λc e=>.bind λo j=>.some ⟨hl,c,?_,?_⟩;rw[jV h3,dZ (k:=4) (by decide) (by decide) h2]at e;exact e;obtain⟨c0,c1⟩:=C2 e;rw[dZ (k:=4) (by decide) (by decide) j,jV h3,dZ (k:=4) (by decide) (by decide) h2];unfold bN;rw[B5 (by omega) (by omega)];rfl);exact g _ h
theorem FrB.len(h:FrB w r):(r.length:Int)=J0 w+8:=by obtain⟨_,c,_,rfl⟩:=h;simp only[dS,Jv];unfold J0;omega
theorem no(h:FrB w r)(ha:At s r p)(hl:s.length<=4611686018427387904):nF (s,p)=some (w,p+r.length,0):=by
 have k:=ha.bnd;have H:=h.len;obtain⟨h1,c,z,rfl⟩:=h;have D:=Jc (l:=w);obtain⟨m,v⟩:=Int.eq_ofNat_of_zero_le D;obtain⟨c0,c1⟩:=C2 z;obtain⟨j,rfl⟩:=Int.eq_ofNat_of_zero_le c0;have q:=wK (n:=m) (by rw[<-v];exact ha.left.left) (by decide:1<=4) (by decide) (by omega) (by omega) hl;have o:=wK ha.right (by decide:1<=4) (by decide) (by omega) (by omega) hl;rw[<-v]at q;have J:J0 s=s.length:=rfl;have I:J0 w=w.length:=rfl;simp only[dS,Jv]at H o;have U:=Ji p 4;have T:=Ji (J1 .i64 p 4) (J0 w);have Q:=Ji p 8;have R:=Ji (J1 .i64 p 8) (J0 w);have K:=bC (J0 s) p;have M:=Ji (J0 w) 8;simp only[dS,Jv]at k;have C:J1 .i64 (J1 .i64 p 4) (J0 w)=p+((4+w.length:Nat):Int):=by omega
 have g:Tot (nF (s,p)) λy=>y=(w,p+((4+w.length+4:Nat):Int),0):=by
  unfold nF;dsimp only;refine .ltf (λ_=>.gt (λc=>by omega) λ_=>.bind (oK q) λS A=>?_) λc=>by omega
  subst A;dsimp only;refine .ne (λc=>absurd rfl c) λ_=>.gt (λc=>by omega) λ_=>.lt (λc=>by omega) λ_=>?_;rw[C];refine .bind (oK o) λL B=>.bind (LH (l:=s) k.1 (by omega) (by omega)).eqn λP G=>?_;subst B;rw[ha.left.slc (by simp only[dS,Jv]) G.2];refine .bind (oK z) λN E=>?_;subst E;refine .ne (λc=>absurd (by unfold bN;rw[show IntKind.u32.wrap (j:Int)=(j:Int) by simp[IntKind.wrap,IntKind.bits,IntKind.signed];omega]) c) λ_=>?_;rw[show J1 .i64 p 4=p+((4:Nat):Int) by omega];refine .bind (LH (l:=s) (by omega) (by omega) (by omega)).eqn λO F=>.some ?_;have x:=ha.left.right;rw[Jv]at x;rw[x.slc (by omega) F.2,show J1 .i64 (J1 .i64 p 8) (J0 w)=p+((4+w.length+4:Nat):Int) by omega]
 obtain⟨y,e,d⟩:=g;rw[e,d];simp only[dS,Jv]
theorem JIs{m:Nat}(h:FrB w r)(ha:At s (r.take m) p)(hm:m<r.length)(he:p+m=s.length)(hl:s.length<=4611686018427387904):Par (nF (s,p)) λy=>y.2.2≠0:=by
 have F:=ha.bnd;have H:=h.len;obtain⟨h1,c,I,rfl⟩:=h;have B:J0 s=s.length:=rfl;have C:=bC (J0 s) p;have D:=Ji (J0 w) 8;have v:=Jc (l:=w);unfold nF;dsimp only;refine .ltf (λ_=>.gt (λ_=>.some (by decide)) λ_=>.bind λE h2=>.ne (λ_=>.some (by decide)) λx=>.gt (λ_=>.some (by decide)) λ_=>.lt (λ_=>.some (by decide)) λo=>?_) λ_=>.some (by decide);exfalso;by_cases G:m<4;have g:Par (dP (s,p,4)) λy=>y.2≠0:=(by unfold dP;dsimp only;exact .ltf (λ_=>.gtf (λ_=>.lt (λ_=>.some (by decide)) λ_=>.gtf (λ_=>.lt (λ_=>.some (by decide)) λc=>by omega) λ_=>.some (by decide)) λ_=>.some (by decide)) λ_=>.some (by decide));exact g _ h2 x;obtain⟨n,q⟩:=Int.eq_ofNat_of_zero_le v;have A:At s (J06 (J0 w) 4) p:=by obtain⟨pre,k,e,z⟩:=ha;refine⟨pre,((w++J06 c 4).take (m-4))++k,?_,z⟩;rw[e,fM,List.take_append,Jv,List.take_of_length_le (by rw[Jv];omega),fM]
 have j:=wK (n:=n) (by rw[<-q];exact A) (by decide:1<=4) (by decide) (by omega) (by omega) hl;have j:=h2.symm.trans j;injection j with j;rw[j]at o;dsimp only at o;have:(m:Int)<J0 w+8:=by omega
 rw[<-q]at o;omega
end
end Go.Am
end
section
namespace Go.Am
set_option linter.unusedVariables false
set_option maxRecDepth 20000
set_option maxHeartbeats 1000000
section
theorem OR{n:Int}{r:List UInt8}(h:vE n=some r):r=List.replicate n.toNat 0:=by
 unfold vE mkS at h;split at h;injection h with h;rw[<-h,toStr,zE];rfl;cases h
def rI(c:JY):List UInt8:=(if c.1=true then J06 (J0 c.2) 1 else J06 255 1)++(c.2++List.replicate (12-c.2.length) 0)
def nZ(x:Je):List UInt8:=J06 x.2.1 8++J06 x.1 4
def jY(x:Je)(n:Nat):List UInt8:=((x.2.2.toList.take n).map rI).flatten
theorem dc{v:Vector JY 16}{i:Nat}:vat v i=v.toList[i]?:=by unfold vat;simp
theorem JLF{c:JY}:(JL .i64 12 (J0 c.2)).toNat=12-c.2.length\/12<c.2.length:=by
 by_cases h:12<c.2.length;exact .inr h;have:=bC 12 (J0 c.2);unfold J0 at*;left;omega
structure PgF(x:Je):Prop where
 id:0<=x.1/\x.1<64
 lsn:0<=x.2.1/\x.2.1<=1099511627776
 cel: ∀(i:Nat) c,x.2.2.toList[i]?=some c->eS c/\(x.2.1=0->c.1=false)
theorem JL9{x:Je}(h:fC x=some 0):PgF x:=by
 have F:Par (gL x) λy=>y=true-> ∀(i:Nat) c,x.2.2.toList[i]?=some c->eS c/\(x.2.1=0->c.1=false):=by
  unfold gL;refine .while (λz=>z.2=x/\0<=z.1/\z.1<=16/\ ∀(i:Nat) c,(i:Int)<z.1->x.2.2.toList[i]?=some c->eS c/\(x.2.1=0->c.1=false)) ⟨rfl,aU _,show(0:Int)<=16 by decide,λi c h=>by dsimp only at h;omega⟩ ?_;rintro⟨i,r⟩ ⟨rfl,h0,h1,h2⟩;dsimp only at h0 h1 h2;have o:=Ji i 1;have B: ∀{c:JY},i<16->vat r.2.2 i.toNat=some c->eS c/\(r.2.1=0->c.1=false)-> ∀(j:Nat) c,(j:Int)<J1 .i64 i 1->r.2.2.toList[j]?=some c->eS c/\(r.2.1=0->c.1=false):=fun{c} hi w G j d N q=>by
   by_cases A:(j:Int)<i;exact h2 j d A q;rw[dc,show i.toNat=j by omega,q]at w;injection w with w;subst w;exact G
  unfold GW;refine .lt (λc=>.bind λ_ _=>.bind λL v=>.bind λK C=>.nof (λd=>.eq (λe=>.bind λ_ _=>.bind λI g=>.ite (λ_=>.some nofun) λk=>.some ⟨rfl,by dsimp only;omega,by dsimp only at*;omega,B c v ⟨QS (by rw[<-d];exact C),λ_=>?_⟩⟩) λe=>.some ⟨rfl,by dsimp only;omega,by dsimp only at*;omega,B c v ⟨QS (by rw[<-d];exact C),λz=>absurd z e⟩⟩) λ_=>.some nofun) λc=>.some λ_ j d q=>h2 j d ?_ q;dsimp only at v g;rw[v]at g;injection g with g;subst g;exact k;have:=(dK.1 q).1;simp at this;dsimp only at c;omega
 have D:Par (fC x) λy=>y=0->PgF x:=by unfold fC;refine .bind λM h2=>.not (λ_=>.some nofun) λE=>.bind λJ h3=>.not (λ_=>.some nofun) λH=>.some λ_=>?_;subst E H;have n:=ju h2;exact⟨⟨n.1,n.2.1⟩,⟨n.2.2.1,n.2.2.2⟩,F _ h3 rfl⟩
 exact D _ h rfl
theorem JDq{c:JY}(h:eS c):(rI c).length=13:=by have:=h.1;unfold J0 at this;unfold rI;split<;>simp[Jv]<;>omega
theorem FW{x:Je}(h:PgF x)(n:Nat)(hn:n<=16):(jY x n).length=13*n:=by
 unfold jY
 induction n with
 |zero=>rfl
 |succ n ih=>
  rw[List.take_add_one];cases hc:x.2.2.toList[n]? with
  |none=>have:=List.getElem?_eq_none_iff.1 hc;simp at this;omega
  |some c=>simp only[Option.toList_some,yI,List.flatten_append,dS,ih (by omega)];simp only[bP,List.map_nil,kR,List.flatten_nil,kO];rw[JDq (h.cel n c hc).1];omega
def yZ(x:Je)(b:List UInt8):Prop:=PgF x/\ ∃s,s.length=4/\b=nZ x++(jY x 16++(List.replicate 24 0++(s++J06 x.2.1 8)))
theorem tO{x:Je}{y:List UInt8×Int}(h:eV x=some y)(c:y.2=0):yZ x y.1:=by
 have N:Par (eV x) λy=>y.2=0->yZ x y.1:=by
  unfold eV;refine .bind λy2 h2=>.ne (λc=>.some λh=>absurd h c) λZ=>.bind λy3 h3=>.bind λy4 h4=>?_;subst Z;have C:=JL9 h2;have e3:=dZ (k:=8) (by decide) (by decide) h3;have e4:=dZ (k:=4) (by decide) (by decide) h4;refine .while (λz=>z.2.2=x/\0<=z.2.1/\z.2.1<=16/\z.1=nZ x++jY x z.2.1.toNat) ⟨rfl,aU _,show(0:Int)<=16 by decide,by rw[e4,e3];simp[nZ,jY]⟩ ?_;rintro⟨s,i,A⟩ ⟨rfl,h0,h1,e⟩;dsimp only at h0 h1 e;have o:=Ji i 1;have V: ∀{g:JY},i<16->vat A.2.2 i.toNat=some g->nZ A++jY A (J1 .i64 i 1).toNat=s++rI g:=fun{g} hi w=>by rw[show(J1 .i64 i 1).toNat=i.toNat+1 by omega,e];rw[dc]at w;unfold jY;rw[List.take_add_one,w];simp
  have Q: ∀{g:JY},vat A.2.2 i.toNat=some g->(JL .i64 12 (J0 g.2)).toNat=12-g.2.length:=fun{g} w=>by
   rw[dc]at w;have:=(C.cel _ _ w).1.1;rcases JLF (c:=g)with h|h;exact h;unfold J0 at this;omega
  unfold WP;dsimp only;refine .lt (λD=>.bind λ_ _=>.bind λy7 v=>.ite (λd=>.bind λ_ _=>.bind λy9 B=>.bind λa4 H=>.bind λ_ _=>.bind λag q=>.bind λ_ _=>.bind λae n=>.bind λa6 I=>.bind λaf L=>.bind λaa G=>.some ⟨rfl,by dsimp only;omega,by dsimp only;omega,?_⟩) λd=>.bind λab T=>.bind λ_ _=>.bind λac r=>.bind λ_ _=>.bind λai j=>.bind λa7 W=>.bind λa5 P=>.bind λa3 E=>.some ⟨rfl,by dsimp only;omega,by dsimp only;omega,?_⟩) λD=>.map (.bind λa8 S=>.bind λah J=>.bind λY a9=>.bind λad M=>.bind λR K=>.some λ_=>?_);rw[v]at B q n;injection B with B;injection q with q;injection n with n;subst B q n;have:=dZ (k:=1) (by decide) (by decide) H;dsimp only;rw[V D v,jV G,jV L,this,OR I,Q v];unfold rI;rw[if_pos d];simp;rw[v]at r j;injection r with r;injection j with j;subst r j;have:=dZ (k:=1) (by decide) (by decide) T;dsimp only;rw[V D v,jV E,jV P,this,OR W,Q v];unfold rI;rw[if_neg (by rw[d];decide)];simp;have F:i.toNat=16:=by omega
  rw[F]at e;have hl:J0 s=220:=by unfold J0;rw[e,dS,FW C 16 (zQ0 _)];simp[nZ,Jv]
  have o2:=bC 244 (J0 s);have O:=dZ (k:=4) (by decide) (by decide) M;have U:=dZ (k:=8) (by decide) (by decide) K;refine⟨C,J06 (bN .i64 Y) 4,by rw[Jv],?_⟩;show R=_;rw[U,O,jV J,OR S,show(JL .i64 244 (J0 s)).toNat=24 by omega,e];simp
 exact N _ h c
theorem JEG{n m k:Nat}(h1:1<=k)(h:k<=8)(hn:n<2^(8*k))(g:n<2^63)(hm:m<2^(8*k))(j:m<2^63)(e:J06 (n:Int) k=J06 (m:Int) k):n=m:=by have a:=wK (s:=J06 (n:Int) k) At.all h1 h hn g (by rw[Jv];omega);have b:=wK (s:=J06 (n:Int) k) (n:=m) (by rw[e];exact At.all) h1 h hm j (by rw[Jv];omega);rw[a]at b;injection b with b;injection b with b;omega
theorem FV{n m:Int}{k:Nat}(h1:1<=k)(q:k<=8)(h:0<=n)(j:0<=m)(hn:n<2^(8*k))(g:n<2^63)(hm:m<2^(8*k))(o:m<2^63)(e:J06 n k=J06 m k):n=m:=by obtain⟨a,rfl⟩:=Int.eq_ofNat_of_zero_le h;obtain⟨b,rfl⟩:=Int.eq_ofNat_of_zero_le j;have:=JEG h1 q (by exact_mod_cast hn) (by exact_mod_cast g) (by exact_mod_cast hm) (by exact_mod_cast o) e;omega
theorem JE2{c d:JY}(hc:eS c)(hd:eS d)(e:rI c=rI d):c=d:=by
 obtain⟨c1,n⟩:=c;obtain⟨w,g⟩:=d;have r:=hc.1;have x:=hd.1;have o:=Jc (l:=n);have j:=Jc (l:=g);unfold rI at e;dsimp only at e r x;have sp: ∀{p q:Int} {u v:List UInt8},J06 p 1++u=J06 q 1++v->J06 p 1=J06 q 1/\u=v:=fun{p q u v} h=>List.append_inj h (by rw[Jv,Jv]);cases c1<;>cases w<;>simp only[if_true,if_false,eL]at e
 have y:n=[]:=hc.2 rfl;have z:g=[]:=hd.2 rfl;rw[y,z];have:=FV (k:=1) (by decide) (by decide) (by decide) j (by decide) (by decide) (by omega) (by omega) (sp e).1;omega;have:=FV (k:=1) (by decide) (by decide) o (by decide) (by omega) (by omega) (by decide) (by decide) (sp e).1;omega;have h1:=FV (k:=1) (by decide) (by decide) o j (by omega) (by omega) (by omega) (by omega) (sp e).1;have h2:=(List.append_inj (sp e).2 (by unfold J0 at h1;omega)).1;rw[h2]
theorem JAZ{x y:Je}(hx:PgF x)(hy:PgF y)(e:jY x 16=jY y 16):x.2.2=y.2.2:=by
 have k: ∀n,n<=16->(jY x n=jY y n-> ∀i,i<n->x.2.2.toList[i]?=y.2.2.toList[i]?):=by
  intro n
  induction n with
  |zero=>intro _ _ i hi;omega
  |succ n ih=>
   intro A e i hi;have o:n<x.2.2.toList.length:=by simp;omega
   have r:n<y.2.2.toList.length:=by simp;omega
   have g:=zQ9 o;have j:=zQ9 r;have st: ∀(z:Je) c,z.2.2.toList[n]?=some c->jY z (n+1)=jY z n++rI c:=λz c h=>by unfold jY;rw[List.take_add_one,h];simp
   rw[st x _ g,st y _ j]at e;obtain⟨w,v⟩:=List.append_inj e (by rw[FW hx n (by omega),FW hy n (by omega)]);have q:=JE2 (hx.cel _ _ g).1 (hy.cel _ _ j).1 v;rcases Nat.lt_succ_iff_lt_or_eq.1 hi with h|h;exact ih (by omega) w i h;subst h;rw[g,j,q]
 apply Vector.toList_inj.1;apply zQ6;intro i;by_cases hi:i<16;exact k 16 (zQ0 _) e i hi;rw[kS (by simp;omega),kS (by simp;omega)]
theorem yZ.split{x:Je}{b:List UInt8}(h:yZ x b):b.length=256/\b.take 8=J06 x.2.1 8/\b.drop 248=J06 x.2.1 8:=by
 obtain⟨k,s,j,rfl⟩:=h;have g:=FW k 16 (zQ0 _);refine⟨by simp[nZ,Jv,g,j],?_,?_⟩;rw[nZ,fM,List.take_append_of_le_length (by rw[Jv];exact zQ0 _),List.take_of_length_le (by rw[Jv];exact zQ0 _)];have e:nZ x++(jY x 16++(List.replicate 24 0++(s++J06 x.2.1 8)))=(nZ x++(jY x 16++(List.replicate 24 0++s)))++J06 x.2.1 8:=by simp
 rw[e,List.drop_append_of_le_length (by simp[nZ,Jv,g,j]),List.drop_of_length_le (by simp[nZ,Jv,g,j])];rfl
theorem yZ.inj{x y:Je}{b:List UInt8}(h:yZ x b)(h2:yZ y b):x=y:=by obtain⟨j,s,H,e⟩:=h;obtain⟨o,t,F,g⟩:=h2;rw[e]at g;unfold nZ at g;have w:=j.id;have r:=o.id;have z:=j.lsn;have q:=o.lsn;simp only[fM]at g;obtain⟨B,g⟩:=List.append_inj g (by rw[Jv,Jv]);obtain⟨C,g⟩:=List.append_inj g (by rw[Jv,Jv]);obtain⟨A,_⟩:=List.append_inj g (by rw[FW j 16 (zQ0 _),FW o 16 (zQ0 _)]);have b1:=FV (k:=8) (by decide) (by decide) z.1 q.1 (by omega) (by omega) (by omega) (by omega) B;have b2:=FV (k:=4) (by decide) (by decide) w.1 r.1 (by omega) (by omega) (by omega) (by omega) C;have b3:=JAZ j o A;obtain⟨i,n,v⟩:=x;obtain⟨G,D,E⟩:=y;simp only at b1 b2 b3;rw[b1,b2,b3]
theorem C6{u:Unit}{y:List UInt8}(h:BR u=some y):y=List.replicate 256 0:=by
 have e:Par (BR u) λy=>y=List.replicate 256 0:=by unfold BR;exact .bind λg h2=>.some (OR h2)
 exact e _ h
theorem Z4{b:List UInt8}{y:fS}(h:sY b=some y)(c:y.2=0):eV y.1=some (b,0)/\b≠List.replicate 256 0:=by
 have r:Par (sY b) λy=>y.2=0->eV y.1=some (b,0)/\b≠List.replicate 256 0:=(by unfold sY;refine .ne (λ_=>.some nofun) λ_=>.bind λB x=>.ite (λ_=>.some nofun) λo=>.bind λC h3=>.bind λD E=>.ite (λ_=>.some nofun) λ_=>.bind λ_ _=>.bind λ_ _=>.bind λ_ _=>.ne (λ_=>.some nofun) λ_=>.bind λ_ _=>.bind λ_ _=>.while (λz=>z.1=b) rfl ?_;rintro⟨j,i,u,v⟩ rfl;unfold WQ;dsimp only;refine .lt (λ_=>.bind λ_ _=>.eq (λ_=>.some rfl) λ_=>.gt (λ_=>.some nofun) λ_=>.bind λ_ _=>.bind λ_ _=>.bind λ_ _=>.some rfl) λ_=>.map (.bind λg k=>.nef (λn=>.ite (λ_=>.some nofun) λw=>.some λ_=>?_) λ_=>.some nofun);have e:g.1=j:=(by by_cases q:g.1=j;exact q;simp[neS,q]at w);refine⟨by rw[k];exact congrArg some (Prod.ext e n),λq=>?_⟩;have A:=C6 x;rw[A,q]at o;simp[eqS]at o);exact r _ h c
theorem Zv{b:List UInt8}{y:fS}(h:sY b=some y)(c:y.2=7):b=List.replicate 256 0:=by
 have e:Par (sY b) λy=>y.2=7->b=List.replicate 256 0:=(by unfold sY;refine .ne (λ_=>.some nofun) λ_=>.bind λg j=>.ite (λc=>.some λ_=>?_) λ_=>.bind λ_ _=>.bind λ_ _=>.ite (λ_=>.some nofun) λ_=>.bind λ_ _=>.bind λ_ _=>.bind λ_ _=>.ne (λ_=>.some nofun) λ_=>.bind λ_ _=>.bind λ_ _=>.while (λz=>z.1=b) rfl ?_;have k:=C6 j;rw[<-k];by_cases q:b=g;exact q;simp[eqS,q]at c;rintro⟨x,i,u,v⟩ rfl;unfold WQ;dsimp only;exact .lt (λ_=>.bind λ_ _=>.eq (λ_=>.some rfl) λ_=>.gt (λ_=>.some nofun) λ_=>.bind λ_ _=>.bind λ_ _=>.bind λ_ _=>.some rfl) λ_=>.map (.bind λo n=>.nef (λr=>.ite (λ_=>.some nofun) λw=>.some nofun) λ_=>.some nofun));exact e _ h c
end
end Go.Am
end
section
namespace Go.Am
set_option linter.unusedVariables false
set_option maxRecDepth 20000
set_option maxHeartbeats 1000000
section
variable {E E':List J2} {d d' dE id:Int} {b:List UInt8}
theorem LM{l:aD}(hi:gE dE l)(hc:cQ l.2.1):Par (Jw l) λy=>y=true:=by
 obtain⟨i1,i2,i3,i4⟩:=hi;have o:=bC l.1 1;unfold Jw;refine .ltf (λ_=>.gtf (λ_=>.gtf (λ_=>.ltf (λ_=>.bind λm r=>.gt (λc=>?_) λ_=>.while (λz=>z.2=l) rfl ?_) λc=>by omega) λc=>by omega) λc=>by omega) λc=>by omega
 have:=rR r (by omega) (by omega) i4;omega;rintro⟨i,l'⟩ h;dsimp only at h;subst h;unfold yB;refine .lt (λ_=>.bind λe k=>.nef (λ_=>.bind λA g=>.bind λv j=>.not (λc=>?_) λ_=>.some rfl) λc=>?_) λ_=>.some rfl;rw[k]at g;injection g with g;subst g;obtain⟨_,q⟩:=cB k;have:=(hc _ _ q).2.1;rw[this]at j;injection j with j;subst j;cases c;obtain⟨n,q⟩:=cB k;dsimp only at n q c;have C:=(hc _ _ q).1;have w:=(dK.1 q).1;have B:J0 (l'.2.1.take i.toNat)=i:=by unfold J0;rw[eD];omega
 have x:=Ji l'.1 i;unfold J0 at i4;omega
theorem cw{l:aD}{n:Int}(hi:gE dE l)(hc:cQ l.2.1)(hn:n<=J0 l.2.1):Par (iJ (l,n)) λy=>y.2=0:=by have v:=LM hi hc;obtain⟨i1,i2,i3,i4⟩:=hi;unfold iJ;refine .bind λb g=>.not (λc=>by rw[v _ g]at c;cases c) λ_=>.bind λm e=>.gt (λc=>?_) λ_=>.some rfl;have:=rR e (by dsimp only;omega) (by dsimp only;omega) i4;dsimp only at this c;omega
theorem Cs{l:aD}{n:Int}{y:gV}(h:iJ (l,n)=some y)(c:y.2=0):n<=y.1.2.2:=by
 have e:Par (iJ (l,n)) λy=>y.2=0->n<=y.1.2.2:=by unfold iJ;refine .bind λ_ h2=>.not (λ_=>.some nofun) λg=>.bind λm k=>.gt (λ_=>.some nofun) λj=>.some λ_=>?_;have:=rZ l.2.2 n;dsimp only;omega
 exact e _ h c
theorem YG{k k':J4}{m:Int}(e:jG (k,m)=some k')(hi:gE dE k.2.2.1)(hc:cQ k.2.2.1.2.1)(hm:m<=J0 k.2.2.1.2.1):m<=k'.2.2.1.2.2:=by
 have g:Par (jG (k,m)) λk'=>m<=k'.2.2.1.2.2:=by
  unfold jG;have v:=LM hi hc;refine .bind λj h2=>.bind λx h3=>?_;have r:j=J0 k.2.2.1.2.1:=by
   have o:Par (mY k.2.2.1) λy=>y=J0 k.2.2.1.2.1:=by unfold mY;refine .bind λb q=>.not (λc=>by rw[v _ q]at c;cases c) λ_=>.bind λy w=>.some ?_;have i1:=hi.1;have:=rR w (by omega) (by omega) hi.2.2.2;omega
   exact o _ h2
  have n:kQ m j=m:=by rw[r];unfold kQ;split<;>omega
  dsimp only at h3;rw[n]at h3;have c:=cw hi hc hm _ h3;exact .eq (λ_=>.some (Cs h3 c)) λh=>absurd c h
 exact g _ e
def Goo(E:List J2)(d id:Int)(b:List UInt8):Prop:=b=List.replicate 256 0\/ ∃x,eV x=some (b,0)/\x.1=id/\x.2.1<=d/\x.2.2=cC (E.take x.2.1.toNat) id
def Bad(id:Int)(b:List UInt8):Prop:=b≠List.replicate 256 0/\ ∀y,eV y=some (b,0)->y.1≠id
theorem Goo.ext(h:Goo E d id b)(hd:d<=d')(he: ∀n:Nat,(n:Int)<=d->E'.take n=E.take n):Goo E' d' id b:=by
 rcases h with h|⟨x,h1,h2,h3,e⟩;exact .inl h;have p:=(tO h1 rfl).1.lsn;exact .inr ⟨x,h1,h2,by omega,by rw[he _ (by omega)];exact e⟩
theorem Goo.len(h:Goo E d id b):b.length=256:=by
 rcases h with rfl|⟨x,h1,_⟩;simp;exact(tO h1 rfl).split.1
theorem JHU{x y:Je}(h:eV x=some (b,0))(h2:eV y=some (b,0)):x=y:=(tO h rfl).inj (tO h2 rfl)
theorem JI2{x:Je}(h:PgF x)(h0:x.2.1=0):x.2.2=Vector.replicate 16 (false,[]):=by
 apply Vector.toList_inj.1;apply zQ6;intro i;by_cases hi:i<16;have o:i<x.2.2.toList.length:=by simp;omega
 have g:=zQ9 o;obtain⟨c1,k⟩:=h.cel i _ g;have j:=k h0;have n:=c1.2 j;have e:x.2.2.toList[i]=(false,[]):=Prod.ext j n;rw[g,e,Vector.toList_replicate,List.getElem?_replicate,if_pos hi];rw[kS (by simp;omega),kS (by simp;omega)]
theorem JGn{y:Je}(h:eV y=some (b,0))(hi:y.1=id)(h0:y.2.1=0)(hd:0<=d):Goo E d id b:=.inr ⟨y,h,hi,by omega,by rw[JI2 (tO h rfl).1 h0,h0];rfl⟩
theorem Z1{y:fS}(h:oV (b,id)=some y)(c:y.2=0)(g:Goo E d id b\/Bad id b)(hd:0<=d):Goo E d id b/\y.1.1=id/\0<=y.1.2.1/\y.1.2.1<=d/\y.1.2.2=cC (E.take y.1.2.1.toNat) id:=by
 have n:Par (oV (b,id)) λy=>y.2=0->Goo E d id b/\y.1.1=id/\0<=y.1.2.1/\y.1.2.1<=d/\y.1.2.2=cC (E.take y.1.2.1.toNat) id:=(by unfold oV;refine .ltf (λ_=>.ge (λ_=>.some nofun) λ_=>.bind λA h2=>.eq (λj=>.bind λz h3=>.some λ_=>?_) λ_=>.eq (λj=>.ne (λ_=>.some nofun) λo=>.some λ_=>?_) λc=>.some λh=>absurd h c) λ_=>.some nofun;have e:=Zv h2 j;unfold GH at h3;injection h3 with h3;subst h3;exact⟨.inl e,rfl,aU _,hd,rfl⟩;obtain⟨k,w⟩:=Z4 h2 j;have p:=(tO k rfl).1.lsn;rcases g with g|g;have q:=g;rcases q with g'|⟨x,h1,h3,r,v⟩;exact absurd g' w;have:=JHU h1 k;subst this;exact⟨g,h3,p.1,r,v⟩;exact absurd o (g.2 _ k));exact n _ h c
theorem torn{x:Je}{j h:List UInt8}(g:Nat)(hn:eV x=some (j,0))(hi:x.1=id)(hl:x.2.1<=d)(hc:x.2.2=cC (E.take x.2.1.toNat) id)(ho:Goo E d id h)(hd:0<=d):Goo E d id (j.take g++h.drop g)\/Bad id (j.take g++h.drop g):=by
 obtain⟨b,w⟩: ∃b,b=j.take g++h.drop g:=⟨_,rfl⟩;rw[<-w];have R:Goo E d id j:=.inr ⟨x,hn,hi,hl,hc⟩;by_cases h0:b=List.replicate 256 0;exact .inl (.inl h0);by_cases U: ∃y,eV y=some (b,0)/\y.1=id;obtain⟨y,L,Y⟩:=U;by_cases Q:y.2.1=0;exact .inl (JGn L Y Q hd);left;have K:=tO hn rfl;have T:=tO L rfl;obtain⟨D,H,P⟩:=K.split;obtain⟨W,B,C⟩:=T.split;dsimp only at D H P W B C;have A:=K.1.lsn;have v:=T.1.lsn;have z: ∀{n m:Int},0<=n->0<=m->n<=1099511627776->m<=1099511627776->J06 n 8=J06 m 8->n=m:=fun{n m} a1 a2 a3 a4 e=>FV (k:=8) (by decide) (by decide) a1 a2 (by omega) (by omega) (by omega) (by omega) e;obtain⟨o,S,N,V,M,oo⟩: ∃o:Int,0<=o/\o<=1099511627776/\h.take 8=J06 o 8/\h.drop 248=J06 o 8/\(o=0\/ ∃q,eV q=some (h,0)/\q.1=id/\q.2.1=o/\q.2.2=cC (E.take o.toNat) id):=(by rcases ho with rfl|⟨q,r,J,Z,F⟩;exact⟨0,by decide,by decide,by decide,by decide,.inl rfl⟩;have e:=tO r rfl;exact⟨q.2.1,e.1.lsn.1,e.1.lsn.2,e.split.2.1,e.split.2.2,.inr ⟨q,r,J,rfl,F⟩⟩);have lo:h.length=256:=ho.len;by_cases k1:248<=g;have G:b.take 8=j.take 8:=(by rw[w,List.take_append_of_le_length (by rw[eD];omega),List.take_take,Nat.min_eq_left (by omega)]);have I:b.take 248=j.take 248:=by rw[w,List.take_append_of_le_length (by rw[eD];omega),List.take_take,Nat.min_eq_left (by omega)]
 have en:=z v.1 A.1 v.2 A.2 (by rw[<-B,G,H]);have:b=j:=by rw[<-tM 248 b,<-tM 248 j,I,C,P,en]
 rw[this];exact R;by_cases k2:g<=8;have O: ∀k,8<=k->b.drop k=h.drop k:=λk hk=>by
  rw[w,List.drop_append];rw[List.drop_of_length_le (by rw[eD];omega),eD,D,wA,Nat.min_eq_left (by omega),lP,show g+(k-g)=k by omega]
 have en:=z v.1 S v.2 N (by rw[<-C,O 248 (by omega),M]);have:b=h:=by rw[<-tM 8 b,<-tM 8 h,O 8 (by omega),B,V,en]
 rw[this];exact ho;have G:b.take 8=j.take 8:=(by rw[w,List.take_append_of_le_length (by rw[eD];omega),List.take_take,Nat.min_eq_left (by omega)]);have I:b.drop 248=h.drop 248:=by rw[w,List.drop_append];rw[List.drop_of_length_le (by rw[eD];omega),eD,D,wA,Nat.min_eq_left (by omega),lP,show g+(248-g)=248 by omega]
 have e1:=z v.1 A.1 v.2 A.2 (by rw[<-B,G,H]);have e2:=z v.1 S v.2 N (by rw[<-C,I,M]);rcases oo with oo|⟨q,r,J,Z,F⟩;exact absurd (e2.trans oo) Q;have:x=q:=Prod.ext (hi.trans J.symm) (Prod.ext (by omega) (by rw[hc,F,show x.2.1=o by omega]));rw[<-this,hn]at r;injection r with r;injection r with r;rw[w,<-r,tM];exact R;exact .inr ⟨h0,λy h1 h2=>U ⟨y,h1,h2⟩⟩
end
end Go.Am
end
section
namespace Go.Am
set_option linter.unusedVariables false
set_option maxRecDepth 20000
set_option maxHeartbeats 1000000
section
variable {E E':List J2} {d d' dE:Int} {pE:Int->Prop} {id:Int} {b:List UInt8} {dv dv':dX}
theorem Cy{y:UV}(h:xU dv=some y):y.2.2.2.1=dv.1/\y.2.2.2.2=dv.2.2.2.2:=by
 have e:Par (xU dv) λy=>y.2.2.2.1=dv.1/\y.2.2.2.2=dv.2.2.2.2:=by unfold xU;exact .bind λk h2=>.bind λj h3=>.bind λn g=>.some ⟨wX h2,wX g⟩
 exact e _ h
theorem Cw{w e:Int}{lo:List Int}{n:Bool}{g:List (List UInt8)}{k:List JS}{y:UV}(h:kH (w,lo,n,id,b,e,g,k)=some y):
  0<=id/\0<=e/\ ∃j,g[id.toNat]?=some j/\y.2.2.2.1=g.set id.toNat (b.take e.toNat++j.drop e.toNat)/\y.2.2.2.2=k:=by
 have o:Par (kH (w,lo,n,id,b,e,g,k)) λy=>0<=id/\0<=e/\ ∃j,g[id.toNat]?=some j/\y.2.2.2.1=g.set id.toNat (b.take e.toNat++j.drop e.toNat)/\y.2.2.2.2=k:=by unfold kH;refine .bind λC h2=>.bind λ_ h3=>.bind λq v=>.bind λz x=>.bind λA r=>.bind λ_ _=>.bind λ_ _=>.bind λB _=>.some ⟨(PT h3).1,(PA h2).1,q,v,?_,rfl⟩;rw[jV r,(PA h2).2.2,(RE x).2];rfl
 exact o _ h
theorem Zs{y:List UInt8×Int}(h:BA (dv,id)=some y)(c:y.2=0):idx dv.1 id=some y.1:=by
 have e:Par (BA (dv,id)) λy=>y.2=0->idx dv.1 id=some y.1:=by unfold BA;exact .bind λ_ _=>.ne (λc=>.some λh=>absurd h c) λ_=>.bind λ_ _=>.ite (λ_=>.some nofun) λ_=>.bind λj g=>.some λ_=>g
 exact e _ h c
theorem Zr{y:iB}(h:BV (dv,id,b)=some y)(c:y.2=0)(hf:dv.2.2.2.2=[]):0<=id/\J0 b=256/\y.1.2.2.2.2=[]/\ ∃e,dv.1[id.toNat]?=some e/\y.1.1=dv.1.set id.toNat (b.take 256++e.drop 256):=by
 have A:Par (BV (dv,id,b)) λy=>y.2=0->0<=id/\J0 b=256/\y.1.2.2.2.2=[]/\ ∃e,dv.1[id.toNat]?=some e/\y.1.1=dv.1.set id.toNat (b.take 256++e.drop 256):=(by unfold BV;refine .bind λy2 h2=>.ne (λc=>.some λh=>absurd h c) λc2=>.ne (λ_=>.some nofun) λM=>.eq (λ_=>.some nofun) λ_=>.bind λy3 h3=>?_;obtain⟨I,p2⟩:=Cy h3;refine .while (λz=>z.1=id/\z.2.1=b/\z.2.2.2.1=dv/\z.2.2.2.2.2.2.2.2.2.1=dv.1/\z.2.2.2.2.2.2.2.2.2.2.2.2.2.2.2.1=[]/\z.2.2.2.2.2.2.2.2.2.2.2.2.2.2.2.2=[]/\0<=z.2.2.1) ⟨rfl,rfl,rfl,I,rfl,rfl,aU _⟩ ?_;rintro⟨i1,b1,j,v,u1,u2,u3,u4,u5,pg,u7,u8,w,lo,cr,du,re⟩ ⟨k,n,g,r,q,o,D⟩;dsimp only at k n g r q o D;subst k n g r q o;unfold WW;refine .lt (λc=>?_) λ_=>.map (.while (λz=>z.1=i1/\z.2.1=b1/\z.2.2.1=false/\0<=z.2.2.2.1/\z.2.2.2.2.1=v/\z.2.2.2.2.2.2.2.2.2.2.1=v.1/\z.2.2.2.2.2.2.2.2.2.2.2.2.2.2.2.2.1=[]/\z.2.2.2.2.2.2.2.2.2.2.2.2.2.2.2.2.2=[]) ⟨rfl,rfl,rfl,aU _,rfl,rfl,rfl,rfl⟩ ?_);(try dsimp only at c);rw[hf]at c;exact absurd c (by show¬j<0;omega);rintro⟨i2,b2,f2,E,x,v1,v2,v3,v4,v5,T,v7,v8,O,R,Q,S,Y⟩ ⟨k,n,g,H,r,q,o,B⟩;dsimp only at k n g H r q o B;subst k n g r q o B;unfold WY;refine .lt (λc=>absurd c (by show¬E<0;omega)) λ_=>.map (.not (λ_=>.bind λy6 K=>?_) λc=>by cases c);obtain⟨N,q2,e,L,J,G⟩:=Cw K;refine .while (λz=>0<=z.1/\z.2.2.2.2.2.2.2.1=x.1.set i2.toNat (b2.take 256++e.drop 256)/\z.2.2.2.2.2.2.2.2.2.2.2.2.2.1=[]/\z.2.2.2.2.2.2.2.2.2.2.2.2.2.2=[]) ⟨aU _,J,rfl,G⟩ ?_;rintro⟨C,W,w1,O,w3,w4,w5,U,w6,w7,w8,w9,V,P,Z⟩ ⟨F,k,n,g⟩;dsimp only at F k n g;subst k n g;unfold zi;exact .lt (λc=>absurd c (by show¬C<0;omega)) λ_=>.some λ_=>⟨N,M,rfl,e,L,rfl⟩);exact A _ h c
theorem Zn{e:Int}{y:iB}(h:BL (dv,id,b,e)=some y)(c:y.2=0):0<=id/\0<=e/\J0 b=256/\y.1.2.2.2.2=dv.2.2.2.2/\ ∃g,dv.1[id.toNat]?=some g/\y.1.1=dv.1.set id.toNat (b.take e.toNat++g.drop e.toNat):=by
 have k:Par (BL (dv,id,b,e)) λy=>y.2=0->0<=id/\0<=e/\J0 b=256/\y.1.2.2.2.2=dv.2.2.2.2/\ ∃g,dv.1[id.toNat]?=some g/\y.1.1=dv.1.set id.toNat (b.take e.toNat++g.drop e.toNat):=by unfold BL;refine .bind λD h2=>.ne (λc=>.some λh=>absurd h c) λB=>.ltf (λ_=>.gt (λ_=>.some nofun) λ_=>.ne (λ_=>.some nofun) λx=>.bind λA h3=>.bind λC v=>.some λ_=>?_) λ_=>.some nofun;obtain⟨n,j⟩:=Cy h3;obtain⟨w,z,g,q,o,r⟩:=Cw v;dsimp only at n j;rw[n]at q o;exact⟨w,z,x,r.trans j,g,q,o⟩
 exact k _ h c
theorem JLf{n:Int}{y:iB}(h:uV n=some y)(c:y.2=0):y.1.2.2.2.2=[]/\ ∀(i:Nat) b,y.1.1[i]?=some b->b=List.replicate 256 0:=by
 have k:Par (GU n) λy=> ∀b∈y,b=List.replicate 256 0:=(by unfold GU;refine .while (λz=> ∀b∈z.2.2,b=List.replicate 256 0) nofun λz j=>?_;unfold ns;refine .lt (λ_=>.bind λr h3=>.bind λq o=>.some λb e=>?_) λ_=>.some j;dsimp only at e;rw[fW o]at e;rcases cK.1 e with e|e;exact j b e;rw[jK]at e;subst e;unfold mkS at h3;split at h3;injection h3 with h3;rw[<-h3,toStr,zE];rfl;cases h3);have g:Par (uV n) λy=>y.2=0->y.1.2.2.2.2=[]/\ ∀(i:Nat) b,y.1.1[i]?=some b->b=List.replicate 256 0:=by unfold uV;exact .ltf (λ_=>.gt (λ_=>.some nofun) λ_=>.bind λv h2=>.some λ_=>⟨rfl,λi b e=>k _ h2 b (zQ5 e)⟩) λ_=>.some nofun
 exact g _ h c
def DvC(E:List J2)(d:Int)(dv:dX):Prop:=dv.2.2.2.2=[]/\ ∀(i:Nat) b,dv.1[i]?=some b->b.length=256/\(Goo E d i b\/Bad i b)
def GG(E:List J2)(d:Int)(dv:dX)(p:Int):Prop:=0<=p/\ ∃b,dv.1[p.toNat]?=some b/\Goo E d p b
theorem DvC.ext(h:DvC E d dv)(hd:d<=d')(he: ∀n:Nat,(n:Int)<=d->E'.take n=E.take n):DvC E' d' dv:=⟨h.1,λi b e=>⟨(h.2 i b e).1,(h.2 i b e).2.imp (λg=>g.ext hd he) λg=>g⟩⟩
theorem GG.ext{p:Int}(h:GG E d dv p)(hd:d<=d')(he: ∀n:Nat,(n:Int)<=d->E'.take n=E.take n):GG E' d' dv p:=by obtain⟨h0,b,h1,h2⟩:=h;exact⟨h0,b,h1,h2.ext hd he⟩
theorem DvC.set(h:DvC E d dv)(h0:0<=id)(hl:b.length=256)(hb:Goo E d id b\/Bad id b)(h1:dv'.1=dv.1.set id.toNat b)(h2:dv'.2.2.2.2=[]):DvC E d dv':=by
 refine⟨h2,λi c e=>?_⟩;rw[h1,List.getElem?_set]at e;split at e;split at e;injection e with e;subst e;rw[show(i:Int)=id by omega];exact⟨hl,hb⟩;cases e;exact h.2 i c e
theorem GG.set{p:Int}(h:GG E d dv p)(h0:0<=id)(hb:Goo E d id b)(h1:dv'.1=dv.1.set id.toNat b):GG E d dv' p:=by
 obtain⟨p0,c,j,g⟩:=h;refine⟨p0,?_⟩;rw[h1,List.getElem?_set];split;have e:id=p:=by omega
 subst e;rw[if_pos (dK.1 j).1];exact⟨b,rfl,hb⟩;exact⟨c,j,g⟩
abbrev eOf(k:J4):List J2:=k.2.2.1.2.1
abbrev dOf(k:J4):Int:=k.2.2.1.2.2
structure aX(s:Jp):Prop where
 kin:aW (eOf s.1) (dOf s.1) (GG (eOf s.1) (dOf s.1) s.2) s.1
 dev:DvC (eOf s.1) (dOf s.1) s.2
theorem rc{E E':List J2}{d:Int}(h:E<+:E')(hd:d<=J0 E): ∀n:Nat,(n:Int)<=d->E'.take n=E.take n:=λn e=>by obtain⟨t,rfl⟩:=h;rw[List.take_append_of_le_length];unfold J0 at hd;omega
theorem aX.step{s:Jp}{k:J4}(h:aX s)(hk:aW (eOf s.1) (dOf s.1) (GG (eOf s.1) (dOf s.1) s.2) k):aX (k,s.2):=by obtain⟨h1,h2⟩:=h;obtain⟨g,o,e⟩:=hk;have j:=rc e.pre h1.1.2.2.1;refine⟨⟨⟨g.1,⟨g.2.1.1,aU _⟩,g.2.2⟩,o,?_⟩,h2.ext g.2.1.2 j⟩;exact⟨List.prefix_refl _,λf n=>(e.sub f n).ext g.2.1.2 j,e.con,e.rng,e.one,e.apt,e.hot,e.lak,e.row⟩
theorem rd{x:Je}{y:List UInt8×Int}(h:eV x=some y):y.2=0\/y.1=[]:=by
 have e:Par (eV x) λy=>y.2=0\/y.1=[]:=by unfold eV;refine .bind λy2 h2=>.ne (λc=>.some (.inr rfl)) λc2=>.bind λy3 h3=>.bind λy4 h4=>.while (λ_=>True) trivial λz _=>?_;unfold WP;exact .lt (λg=>.bind λ_ _=>.bind λy7 h7=>.ite (λd=>.bind λ_ _=>.bind λy9 h9=>.bind λo v=>.bind λ_ _=>.bind λR A=>.bind λ_ _=>.bind λP n=>.bind λC B=>.bind λQ L=>.bind λH r=>.some trivial) λd=>.bind λI V=>.bind λ_ _=>.bind λK M=>.bind λ_ _=>.bind λW j=>.bind λE Z=>.bind λw O=>.bind λk q=>.some trivial) λg=>.map (.bind λF T=>.bind λU D=>.bind λa0 G=>.bind λY N=>.bind λS J=>.some (.inl rfl))
 exact e _ h
end
end Go.Am
end
section
namespace Go.Am
set_option linter.unusedVariables false
set_option maxRecDepth 20000
set_option maxHeartbeats 1000000
section
variable {s:Jp}
theorem aW.imp{mE:List J2}{dE:Int}{pE e:Int->Prop}{k:J4}(h:aW mE dE pE k)(hp: ∀p,pE p->e p):aW mE dE e k:=by obtain⟨h1,h2,h3⟩:=h;exact⟨h1,h2,h3.pre,λf g=>hp _ (h3.sub f g),h3.con,h3.rng,h3.one,h3.apt,h3.hot,h3.lak,h3.row⟩
theorem JJX{k:J4}{mE:List J2}{dE:Int}{pE:Int->Prop}{y:TZ}(e:nA k=some y)(c:y.2.2.2=0)(hi:aW mE dE pE k)(n:y.2.2.1=true):y.2.1.2.1<=dOf y.1:=by
 have j:Par (nA k) λy=>y.2.2.1=true->eOf y.1=eOf k/\(y.2.1.2.1<=J0 (eOf k)->y.2.1.2.1<=dOf y.1):=by unfold nA;refine .bind λ_ _=>.not (λ_=>.some nofun) λ_=>.lt (λ_=>.some nofun) λ_=>.bind λv h3=>.bind λC E=>.bind λf o=>.not (λcd=>.bind λB D=>.some nofun) λ_=>.bind λA g=>.some λ_=>⟨(FH (dE:=dE) g).2.2.1,λh=>YG (k:=(k.1,k.2.1,k.2.2.1,v.1,k.2.2.2.2)) g hi.1 hi.2.1 h⟩
 obtain⟨z,x⟩:=j _ e n;obtain⟨q,w⟩:=D6 e c hi;obtain⟨f,o,r⟩:=w n;refine x ?_;rw[<-r,(q.2.2.hot f o).1,<-z];exact(AN q.2.1 _).2
theorem JIy{k:J4}{mE:List J2}{dE:Int}{pE:Int->Prop}{id:Int}{y:UG}(e:nD (k,id)=some y)(c:y.2.2=0)(hi:aW mE dE pE k):y.2.1.2.1<=dOf y.1:=by
 have g:Par (nD (k,id)) λy=>y.2.2=0->eOf y.1=eOf k/\(y.2.1.2.1<=J0 (eOf k)->y.2.1.2.1<=dOf y.1):=by unfold nD;refine .bind λ_ _=>.not (λ_=>.some nofun) λ_=>.bind λw h3=>.not (λ_=>.some nofun) λz=>.bind λx j=>.some λ_=>⟨(FH (dE:=dE) j).2.2.1,λh=>YG j hi.1 hi.2.1 h⟩
 obtain⟨v,q⟩:=g _ e c;obtain⟨n,f,r,o⟩:=s6 e c hi;refine q ?_;rw[<-o,(n.2.2.hot f r).1,<-v];exact(AN n.2.1 _).2
theorem qs{k:J4}{x:Je}{y:eM}(e:qS (s,k,x)=some y)(c:y.2=0)(hs:aX (k,s.2))(hf: ∃f∈k.2.2.2.1.2.1,f.1=x)(hl:x.2.1<=dOf k):aX y.1:=by
 have r:Par (qS (s,k,x)) λy=>y.2=0->aX y.1:=by
  unfold qS;refine .bind λg h2=>.bind λo h3=>.ne (λc=>.some λh=>absurd h c) λG=>.bind λJ D=>.ne (λc=>.some λh=>absurd h c) λC=>.some λ_=>?_;obtain⟨f,hf,rfl⟩:=hf;obtain⟨v,w,E,I,B,z⟩:=Zr h3 G hs.2.1;have A:g.2=0:=(rd h2).resolve_right λe=>by rw[e]at w;cases w
  have en:eV f.1=some (g.1,0):=by rw[show eV f.1=some g from h2];exact congrArg some (Prod.ext rfl A)
  have j:Goo (eOf k) (dOf k) f.1.1 g.1:=.inr ⟨f.1,en,rfl,hl,by rw[(hs.1.2.2.hot f hf).1,MG hs.1.2.1];exact hs.1.2.2.con f hf⟩;have H:=j.len;have n:o.1.1=s.2.1.set f.1.1.toNat g.1:=by rw[z,List.take_of_length_le (by omega),List.drop_of_length_le (by rw[(hs.2.2 _ _ B).1];exact zQ0 _),kO]
  have q:aX (k,o.1):=⟨hs.1.imp λp F=>F.set v j n,hs.2.set v H (.inl j) n E⟩;exact q.step (JEv D C q.1 ⟨f,hf,rfl,rfl⟩)
 exact r _ e c
theorem JEn{id:Int}{y:eM}(e:CM (s,id)=some y)(c:y.2=0)(hi:aX s):aX y.1:=by
 have g:Par (CM (s,id)) λy=>y.2=0->aX y.1:=by unfold CM;refine .bind λr h2=>.ne (λc=>.some λh=>absurd h c) λj=>.bind λ_ _=>.bind λ_ _=>.not (λ_=>.some λ_=>hi) λ_=>.bind λv q=>.some λk=>?_;obtain⟨o,n⟩:=s6 h2 j hi.1;exact qs q k (hi.step o) n (JIy h2 j hi.1)
 exact g _ e c
theorem JJe{y:eM}(e:sJ s=some y)(c:y.2=0)(hi:aX s):aX y.1:=by
 have j:Par (sJ s) λy=>y.2=0->aX y.1:=by unfold sJ;refine .while (λz=>aX z.1) hi λz g=>?_;unfold WH;refine .bind λv h3=>.ne (λc=>.some λh=>absurd h c) λn=>?_;obtain⟨k,q⟩:=D6 h3 n g.1;exact .not (λ_=>.some λ_=>g.step k) λc=>.bind λw r=>.ne (λc=>.some λh=>absurd h c) λo=>.some (qs r o (g.step k) (q c) (JJX h3 n g.1 c))
 exact j _ e c
def PgC(E:List J2)(id:Int)(x:Je):Prop:=x.1=id/\x.2.2=cC (E.take x.2.1.toNat) id
theorem lS{α:Type}{P:α->Prop}: ∀e∈([]:List α),P e:=λ_ h=>absurd h List.not_mem_nil
theorem Z6{l:aD}{r:aA}{y:List J2×Int}(h:mF (l,r)=some y): ∀e∈y.1,e∈l.2.1:=by
 have j:Par (mF (l,r)) λy=> ∀e∈y.1,e∈l.2.1:=by
  unfold mF;refine .bind λ_ _=>.not (λ_=>.some lS) λ_=>.ltf (λ_=>.gef (λ_=>.ltf (λ_=>.lt (λ_=>.some lS) λ_=>.while (λz=>z.2.2.2.2=l/\ ∀e∈z.2.2.1,e∈l.2.1) ⟨rfl,lS⟩ ?_) λ_=>.some lS) λ_=>.some lS) λ_=>.some lS;rintro⟨p,a,o,n,l'⟩ ⟨h1,h2⟩;dsimp only at h1 h2;subst h1;unfold sW;refine .gt (λ_=>.bind λk A=>.ne (λ_=>.some lS) λx=>.bind λ_ _=>.nof (λ_=>.ne (λ_=>.some lS) λ_=>.bind λB w=>.some ⟨rfl,λe g=>?_⟩) λ_=>.some lS) λ_=>.map (.lt (λ_=>.some lS) λ_=>.some h2);have v:Par (sP (k.1,o)) λy=>y=[k.1]++o:=by unfold sP;exact .bind λy h=>.some (fW h)
  dsimp only at g;rw[v _ w]at g;rcases cK.1 g with g|g;rw[jK]at g;subst g;rcases o7 A with⟨_,q⟩|⟨q,_⟩;exact jC q;exact absurd x q;exact h2 e g
 exact j _ h
theorem JLd{E:List J2}{id:Int}{x:Je}{e:J2}{y:fS}(h:gQ (x,e)=some y)(c:y.2=0)(r:cQ E)(he:e∈E)(hx:PgC E id x):PgC E id y.1:=by
 have j:Par (gQ (x,e)) λy=>y.2=0->PgC E id y.1:=by
  unfold gQ;refine .bind λ_ _=>.nof (λ_=>.bind λB h3=>.not (λ_=>.some nofun) λA=>.bind λ_ _=>.ne (λc=>.some λh=>absurd h c) λ_=>.ne (λ_=>.some nofun) λg=>.ne (λ_=>.some nofun) λcp=>.bind λo z=>.ne (λc=>.some λh=>absurd h c) λv=>.some λ_=>?_) λ_=>.some nofun;have w:e.2.1=1\/e.2.1=2:=by
   have n:Par (JC e) λy=>y=true->e.2.1=1\/e.2.1=2:=by unfold JC;exact .eqf (λ_=>.some λh=>.inr (qE.1 h)) λh=>.some λ_=>.inl h
   exact n _ h3 A
  obtain⟨i,hi⟩:=kN.1 he;have q:=tc r hi w;obtain⟨C,D,k⟩:=s9 z v;have g:aV e=x.1:=g;have cp:e.2.2.2.2.1=x.2.1:=cp;refine⟨by rw[k];exact hx.1,?_⟩;rw[g,hx.1,cp,<-hx.2]at q;show o.1.2.2=_;rw[k];exact q.symm
 exact j _ h c
theorem JKj{l:aD}{n id:Int}{x:Je}{y:fS}(h:jE (l,x,n)=some y)(c:y.2=0)(q:cQ l.2.1)(hx:PgC l.2.1 id x):PgC l.2.1 id y.1:=by
 have w:Par (mC (l,x,n)) λy=>y.2.2=0->PgC l.2.1 id y.1:=by
  unfold mC;refine .bind λg h2=>.ne (λc=>.some λh=>absurd h c) λD=>?_;have A: ∀e∈g.1,e∈l.2.1:=by
   have o:Par (lD (l,x,n)) λy=> ∀e∈y.1,e∈l.2.1:=by unfold lD;exact .bind λ_ _=>.not (λ_=>.some lS) λ_=>.bind λ_ _=>.ne (λ_=>.some lS) λ_=>.lt (λ_=>.some lS) λ_=>.ge (λ_=>.some lS) λ_=>.bind λv j=>.some (Z6 j)
   exact o _ h2
  refine .while (λz=>z.1=g.1/\PgC l.2.1 id z.2.2.2.1) ⟨rfl,hx⟩ ?_;rintro⟨L,i,l',p,u⟩ ⟨h1,h2⟩;dsimp only at h1 h2;subst h1;unfold yD;exact .lt (λ_=>.bind λv j=>.bind λC B=>.ne (λc=>.some λh=>absurd h c) λr=>.some ⟨rfl,JLd B r q (A _ (jC j)) h2⟩) λ_=>.some λ_=>h2
 have k:Par (jE (l,x,n)) λy=>y.2=0->PgC l.2.1 id y.1:=by unfold jE;exact .bind λg h2=>.some λc=>w _ h2 c
 exact k _ h c
theorem LQ{id:Int}{y:eM}(e:mI (s,id)=some y)(c:y.2=0)(hi:aX s):aX y.1:=by
 have v:Par (mI (s,id)) λy=>y.2=0->aX y.1:=by
  unfold mI;refine .bind λ_ _=>.not (λ_=>.some nofun) λ_=>.ltf (λc0=>.ge (λ_=>.some nofun) λ_=>.bind λ_ _=>.ge (λ_=>.some λ_=>hi) λ_=>.bind λI N=>.ne (λc=>.some λh=>absurd h c) λL=>.bind λq O=>.ne (λc=>.some λh=>absurd h c) λH=>.bind λ_ _=>.bind λr E=>.ne (λc=>.some λh=>absurd h c) λD=>.bind λS G=>.ne (λc=>.some λh=>absurd h c) λz=>.bind λT J=>.ne (λc=>.some λh=>absurd h c) λC=>.some λ_=>?_) λ_=>.some nofun;have g:=JJe N L hi;obtain⟨x,n⟩:=cB (Zs O H);dsimp only at c0 x n;have F:((id.toNat:Nat):Int)=id:=by omega
  have w:=(g.2.2 _ _ n).2;rw[F]at w;have M: ∃j,oV (q.1,id)=some j/\j.2=0/\r.1=j.1:=by
   have A: ∀{a:List aA} {b:Int},Par (uY (a,id,b,q.1)) λy=>y.2=0-> ∃j,oV (q.1,id)=some j/\j.2=0/\y.1=j.1:=fun{a b}=>by unfold uY;exact .bind λ_ _=>.not (λ_=>.some nofun) λ_=>.ltf (λ_=>.gef (λ_=>.lt (λ_=>.some nofun) λ_=>.bind λj h3=>.ne (λc=>.some λh=>absurd h c) λk=>.gt (λ_=>.bind λ_ _=>.gt (λ_=>.some nofun) λ_=>.bind λ_ _=>.lt (λ_=>.some nofun) λ_=>.some λ_=>⟨j,h3,k,rfl⟩) λ_=>.bind λ_ _=>.lt (λ_=>.some nofun) λ_=>.some λ_=>⟨j,h3,k,rfl⟩) λ_=>.some nofun) λ_=>.some nofun
   exact A _ E D
  obtain⟨j,h3,k,K⟩:=M;obtain⟨Q,R,U,V,P⟩:=Z1 h3 k w g.1.1.2.1.1;have B:PgC (eOf I.1.1) id r.1:=by rw[K];exact⟨R,P⟩
  have o:=JKj G z g.1.2.1 B;refine g.step (JEZ J C g.1 (by rw[o.1];exact o.2) ?_);rw[o.1];exact⟨x,_,n,Q⟩
 exact v _ e c
theorem JC1{k:Int}{y:eM}(e:qT (s,k)=some y)(c:y.2=0)(hi:aX s):aX y.1:=by
 have j:Par (qT (s,k)) λy=>y.2=0->aX y.1:=by unfold qT;refine .bind λ_ _=>.not (λ_=>.some nofun) λ_=>.bind λ_ _=>.lt (λ_=>.some nofun) λ_=>.while (λz=>aX z.2.1) hi λz g=>?_;unfold n9;exact .bind λ_ _=>.ite (λ_=>.bind λr n=>.eq (λc=>.some λh=>absurd h (rm (by assumption) c)) λ_=>.eq (λ_=>.bind λv q=>.ne (λc=>.some λh=>absurd h c) λo=>.some (LQ q o g)) λ_=>.some (g.step (sj n g.1))) λ_=>.some λ_=>g
 exact j _ e c
theorem JKK{q:Int}{a:mZ}{y:iV}(e:AS (s,q,a)=some y)(hi:aX s):aX y.1:=by
 have n:Par (AS (s,q,a)) λy=>aX y.1:=by
  unfold AS;refine .while (λz=>aX z.2.1) hi λz r=>?_;unfold ix;refine .bind λj h3=>?_;have g:aX (j.1,z.2.1.2):=r.step (JJK h3 r.1);have rb: ∀{Q:(mL)⊕(iV)->Prop},(∀y,aX y.1->Q (.inr y))->Par ((vK ((j.1,z.2.1.2),z.1)).bind λx=>if x then(qT ((j.1,z.2.1.2),z.1)).bind λk=>if aO k.2 0 then(Jr k.2).bind λo=>some (.inr ((j.1,z.2.1.2),o))else some (.inr (k.1,j.2))else some (.inr ((j.1,z.2.1.2),j.2))) Q:=
   λh=>.bind λ_ _=>.ite (λ_=>.bind λC w=>.ne (λ_=>.bind λ_ _=>.some (h _ g)) λv=>.some (h _ (JC1 (s:=(j.1,z.2.1.2)) w v g))) λ_=>.some (h _ g)
  exact .eq (λ_=>.bind λD B=>.ne (λ_=>.bind λ_ _=>.some g) λA=>.some (LQ (s:=(j.1,z.2.1.2)) B A g)) λ_=>.eqf (λ_=>.eq (λ_=>.eqf (λ_=>.eq (λ_=>rb λ_ h=>h) λ_=>.some g) λ_=>rb λ_ h=>h) λ_=>.some g) λ_=>rb λ_ h=>h
 exact n _ e
theorem uj{y:rE}(e:CO s=some y)(c:y.2.2=0)(hi:aX s):aX y.1:=by
 have g:Par (CO s) λy=>y.2.2=0->aX y.1:=by unfold CO;exact .bind λk h2=>.ne (λc=>.some λh=>absurd h c) λj=>.some λ_=>hi.step (JD0 h2 j hi.1)
 exact g _ e c
theorem fc{j:Int}{l:JQ}{y:rE}(e:AY (s,j,l)=some y)(hi:aX s):aX y.1:=by
 have h:Par (AY (s,j,l)) λy=>aX y.1:=by unfold AY;refine .while (λz=>aX z.2.2.1) hi λz g=>?_;unfold jc;exact .bind λq h3=>.eq (λ_=>.some g) λ_=>.eq (λ_=>.bind λo n=>.ne (λ_=>.some g) λk=>.some (LQ n k g)) λ_=>.eq (λ_=>.some g) λ_=>.some (g.step (JGA h3 g.1))
 exact h _ e
theorem YC{k:Int}{a:mZ}{y:iV}(e:AO (s,k,a)=some y)(hi:aX s):aX y.1:=by
 have j:Par (AO (s,k,a)) λy=>aX y.1:=by unfold AO;refine .while (λz=>aX z.2.1) hi λz n=>?_;unfold it;refine .bind λo h3=>?_;have g:=JKK h3 n;exact .ne (λ_=>.some g) λ_=>.bind λ_ _=>.not (λ_=>.some g) λ_=>.bind λq h=>.ne (λ_=>.bind λ_ _=>.some (fc h g)) λ_=>.eq (λ_=>.some (fc h g)) λ_=>.some (fc h g)
 exact j _ e
theorem JJS{y:lm}(e:BE s=some y)(c:y.2.2=0)(hi:aX s):aX y.1:=by
 have j:Par (BE s) λy=>y.2.2=0->aX y.1:=by unfold BE;refine .bind λ_ _=>.not (λ_=>.some nofun) λ_=>.gt (λ_=>.bind λ_ _=>.bind λv r=>.some λq=>LQ r q hi) λ_=>.bind λ_ _=>.eq (λ_=>.some λ_=>hi) λ_=>.while (λz=>aX z.2.1) hi λz g=>?_;unfold jy;exact .bind λ_ _=>.bind λx o=>.eq (λc=>.some λh=>absurd h (rm (by assumption) c)) λ_=>.ne (λ_=>.some λ_=>g.step (sj o g.1)) λ_=>.bind λw n=>.ne (λc=>.some λh=>absurd h c) λk=>.some (LQ n k g)
 exact j _ e c
end
end Go.Am
end
section
namespace Go.Am
set_option linter.unusedVariables false
set_option maxRecDepth 20000
set_option maxHeartbeats 1000000
section
variable {mE:List J2} {dE:Int} {pE:Int->Prop} {s:List UInt8} {l:aD}
noncomputable def lN(e:J2):List UInt8:=(sN e).getD []
noncomputable def frs(l:List J2):List UInt8:=(l.map lN).flatten
theorem ZI(a b:List J2):frs (a++b)=frs a++frs b:=by simp[frs]
theorem QI{e:J2}{r:List UInt8}(h:sN e=some r)(hv:Jm e=some true):FrB (jL e) r/\lN e=r:=by
 refine⟨?_,by unfold lN;rw[h];rfl⟩;have g:Par (sN e) λr=>FrB (jL e) r:=by unfold sN;refine .bind λk h2=>.bind λj h3=>.some ?_;rw[JLD h2 hv]at h3;refine C4 h3 ?_;have:=(mj hv).2;unfold J0;omega
 exact g _ h
def hdB(h:List UInt8):Prop:=FrB ([80,77,76,71]++J06 1 8) h
theorem JLW{r:List UInt8}(h:BM 1=some r):hdB r:=by
 have e:Par (BM 1) λr=>hdB r:=by unfold BM;refine .bind λj h2=>.bind λg h3=>.some ?_;rw[dZ (k:=8) (by decide) (by decide) h2]at h3;refine C4 h3 ?_;unfold J0;rw[dS,Jv];decide
 exact e _ h
def IC(l:List J2):Prop:= ∀e∈l,FrB (jL e) (lN e)/\Jm e=some true
theorem JIz{torn:Int}(h:nI (l,torn)=some s)(hi:gE dE l)(hc:cQ l.2.1):s=[]\/(IC l.2.1/\s.length<=4611686018427387904/\ ∃hd rest,hdB hd/\s=hd++rest/\rest<+:frs l.2.1/\frs (l.2.1.take l.2.2.toNat)<+:rest):=by
 have P:Par (nI (l,torn)) λs=>s=[]\/(IC l.2.1/\s.length<=4611686018427387904/\ ∃hd rest,hdB hd/\s=hd++rest/\rest<+:frs l.2.1/\frs (l.2.1.take l.2.2.toNat)<+:rest):=by
  obtain⟨i1,i2,i3,i4⟩:=hi;unfold nI;refine .bind λ_ _=>.not (λ_=>.some (.inl rfl)) λ_=>.bind λhd B=>?_;dsimp only at B;rw[i1]at B;refine .while (λz=>z.2.2.2.2=l/\ ∃i:Nat,z.2.2.2.1=(i:Int)/\i<=l.2.1.length/\IC (l.2.1.take i)/\hd++frs (l.2.1.take (min i l.2.2.toNat))<+:z.2.1/\z.2.1++z.2.2.1=hd++frs (l.2.1.take i)/\((i:Int)<=l.2.2->z.2.2.1=[])) ⟨rfl,0,rfl,zQ2 _,λe h=>by simp at h,by simp[frs],by simp[frs],λ_=>rfl⟩ ?_;rintro⟨t,a,b,i',l'⟩ ⟨I,i,H,hi,G,C,k,T⟩;dsimp only at I H hi G C k T;subst I;subst H;unfold j7;dsimp only;have o:=Ji (i:Int) 1;have S: ∀{e:J2},idx l'.2.1 (i:Int)=some e->l'.2.1.take (i+1)=l'.2.1.take i++[e]/\e.1=(i:Int)+1/\Jm e=some true/\i+1<=l'.2.1.length:=fun{e} k=>by obtain⟨_,q⟩:=cB k;rw[Int.toNat_natCast]at q;have L:=(dK.1 q).1;obtain⟨n,D,_⟩:=hc i e q;refine⟨by rw[List.take_add_one,q];rfl,?_,D,L⟩;rw[n];unfold J0;rw[eD];omega
  have O: ∀{e:J2} {r:List UInt8},sN e=some r->Jm e=some true->IC (l'.2.1.take i++[e]):=fun{e r} Y U x A=>by
   rcases cK.1 A with A|A;exact G x A;simp at A;subst A;obtain⟨n,D⟩:=QI Y U;exact⟨by rw[D];exact n,U⟩
  refine .lt (λc=>.bind λe v=>.le (λcd=>.bind λW g=>.bind λV w=>.bind λE F=>.some ⟨rfl,i+1,?_⟩) λcd=>.bind λW g=>.bind λV w=>.bind λE F=>.some ⟨rfl,i+1,?_⟩) λc=>.map (.bind λR M=>.bind λZ j=>.some (.inr ?_));rw[v]at g;injection g with g;subst g;obtain⟨n,D,y,K⟩:=S v;have Q:=T (by omega);subst Q;refine⟨by dsimp only;omega,K,by rw[n];exact O w y,?_,?_,λ_=>rfl⟩;show hd++frs (l'.2.1.take (min (i+1) l'.2.2.toNat))<+:E;rw[Nat.min_eq_left (by omega),jV F,n,ZI,<-fM,<-k];simp[frs,(QI w y).2];show E++[]=_;rw[jV F,n,ZI,<-fM,<-k];simp[frs,(QI w y).2];rw[v]at g;injection g with g;subst g;obtain⟨n,D,y,K⟩:=S v;refine⟨by dsimp only;omega,K,by rw[n];exact O w y,by rw[Nat.min_eq_right (by omega)]at C⊢;exact C,?_,λh=>by exfalso;omega⟩;show a++E=_;rw[jV F,n,ZI,<-fM (as:=hd),<-k];simp[frs,(QI w y).2];have J:i=l'.2.1.length:=by unfold J0 at c;omega
  rw[J,List.take_length]at G k;unfold J0 at i3;rw[J,Nat.min_eq_right (by omega)]at C;refine⟨G,?_,hd,?_⟩;unfold eK at j;split at j;injection j with j;rw[<-j,dS];omega;cases j;obtain⟨N,rfl⟩:=C;refine⟨frs (l'.2.1.take l'.2.2.toNat)++(N++R),JLW B,by rw[jV j];simp only[fM],?_,List.prefix_append _ _⟩;rw[fM,fM]at k;have k:=List.append_cancel_left k;rw[<-k,(PA M).2.2];exact(List.prefix_append_right_inj _).2 ((List.prefix_append_right_inj N).2 (List.take_prefix _ _))
 exact P _ h
theorem JKm{E:List J2}{hd rest:List UInt8}{y:gV}(h:xS s=some y)(hf:IC E)(hE:cQ E)(hl:s.length<=4611686018427387904)(hh:hdB hd)(hs:s=hd++rest){d:Nat}(hr:rest<+:frs E)(ap:d<=E.length)(ao:d<=4096)(Z:frs (E.take d)<+:rest):y.2=0-> ∃m,y.1=(1,E.take m,(m:Int))/\m<=E.length/\m<=4096/\d<=m:=by
 have I:Par (xS s) λy=>y.2=0-> ∃m,y.1=(1,E.take m,(m:Int))/\m<=E.length/\m<=4096/\d<=m:=by
  have a0:At s hd 0:=⟨[],rest,by rw[hs];rfl,rfl⟩;have u0:=no hh a0 hl;unfold xS;refine .bind λy2 h2=>.nef (λ_=>.nef (λ_=>.bind λy3 h3=>.ite (λ_=>.some nofun) λ_=>.bind λy4 D=>.ltf (λ_=>.gt (λ_=>.some nofun) λ_=>?_) λ_=>.some nofun) λ_=>.some nofun) λ_=>.some nofun;rw[u0]at h2;injection h2 with h2;subst h2;dsimp only at h3 D⊢;have w8:At ([80,77,76,71]++J06 1 8) (J06 ((1:Nat):Int) 8) 4:=⟨[80,77,76,71],[],by simp,rfl⟩;have g4:=wK w8 (by decide) (by decide) (by decide) (by decide) (by rw[dS,Jv];decide);have D:=D.symm.trans g4;injection D with D;subst D;refine .while (λz=>z.1=s/\z.2.2.2.2.2.2.2.1=1/\ ∃m:Nat,m<=E.length/\m<=4096/\z.2.2.2.2.2.1=E.take m/\z.2.2.2.2.2.2.2.2=(m:Int)/\ ∃j,At s j z.2.1/\z.2.1+(j.length:Int)=(s.length:Int)/\j<+:frs (E.drop m)/\(m<d->frs ((E.take d).drop m)<+:j)) ⟨rfl,rfl,0,zQ2 _,by decide,rfl,rfl,rest,⟨hd,[],by rw[hs];simp,by simp⟩,by rw[hs,dS];show(0:Int)+hd.length+rest.length=((hd.length+rest.length:Nat):Int);omega,hr,λ_=>Z⟩ ?_;rintro⟨s',A,z1,z2,z3,es,z4,f,du⟩ ⟨rfl,rfl,m,hm,a3,rfl,rfl,j,x,O,v,W⟩;dsimp only at x O v W;unfold jz;dsimp only;have gd:m<d-> ∃e B,E[m]?=some e/\j=lN e++B/\(E.take d).drop m=e::(E.take d).drop (m+1):=λq=>by
   have a6:m<(E.take d).length:=by rw[eD];omega
   have K:=List.drop_eq_getElem_cons a6;obtain⟨t,w⟩:=W q;rw[K]at w;have L: ∀(a:J2) r,frs (a::r)=lN a++frs r:=λa r=>by unfold frs;rw[bP,kR]
   rw[L,fM]at w;refine⟨(E.take d)[m],frs ((E.take d).drop (m+1))++t,?_,w.symm,K⟩;rw[List.getElem_take,zQ9]
  have ok:m<d-> ∃e,∃q:Int,nF (s',A)=some (jL e,q,0)/\CC (jL e)=some (e,0)/\e.1=m+1:=λq=>by obtain⟨e,B,K,L,_⟩:=gd q;obtain⟨N,Q⟩:=hf _ (zQ5 K);refine⟨e,_,no N (by rw[L]at x;exact x.left) hl,(mj Q).1,?_⟩;rw[(hE m _ K).1];unfold J0;rw[eD];omega
  have fin:(m<d->False)-> ∃J,((1,E.take m,(m:Int)):aD)=(1,E.take J,(J:Int))/\J<=E.length/\J<=4096/\d<=J:=λq=>⟨m,rfl,hm,a3,Nat.not_lt.1 q⟩;have R:J0 (E.take m)=m:=by unfold J0;rw[eD];omega
  refine .lt (λc=>.bind λy6 C=>.ne (λk=>.some λ_=>fin λq=>?_) λc6=>.bind λy7 H=>.nef (λc7=>.ne (λk=>.some λ_=>fin λq=>?_) λc8=>.bind λy8 h8=>.some ⟨rfl,rfl,?_⟩) λk=>.some λ_=>fin λq=>?_) λk=>.some λ_=>fin λq=>by rw[R]at k;omega
  obtain⟨e,q,F,M,o3⟩:=ok q;have h:=C.symm.trans F;injection h with h;exact k (by rw[h]);obtain⟨e,q,F,M,o3⟩:=ok q;have h:=C.symm.trans F;injection h with h;rw[h]at H;have h:=H.symm.trans M;injection h with h;rw[h]at k;have o:=Ji (m:Int) 1;dsimp only at k;omega
  rotate_left
  obtain⟨e,q,F,M,o3⟩:=ok q;have h:=C.symm.trans F;injection h with h;rw[h]at H;have h:=H.symm.trans M;injection h with h;rw[h]at k;exact k rfl;have hn:=x.bnd;by_cases n:m<E.length;have a8:E.drop m=E[m]::E.drop (m+1):=List.drop_eq_getElem_cons n;have Y:E[m]∈E:=lK n;obtain⟨N,Q⟩:=hf _ Y;rw[a8]at v;have L:frs (E[m]::E.drop (m+1))=lN E[m]++frs (E.drop (m+1)):=by unfold frs;rw[bP,kR]
  rw[L]at v;by_cases G:j.length<(lN E[m]).length;have U:j=(lN E[m]).take j.length:=(by obtain⟨t,w⟩:=v;have:=congrArg (List.take j.length) w;rw[List.take_left',List.take_append_of_le_length (Nat.le_of_lt G)]at this;exact this;rfl);exact absurd c6 (JIs N (by rw[<-U];exact x) G O hl _ C);obtain⟨B,rfl⟩: ∃B,j=lN E[m]++B:=by
   obtain⟨t,w⟩:=v;refine⟨j.drop (lN E[m]).length,?_⟩;have:=congrArg (List.take (lN E[m]).length) w;rw[List.take_append_of_le_length (by omega),List.take_left']at this
   conv=>lhs;rw[<-tM (lN E[m]).length j,this]
   rfl
  have g6:=no N x.left hl;have T:=C.symm.trans g6;injection T with T;subst T;have S:=H.symm.trans (mj Q).1;injection S with S;subst S;rw[R]at c;obtain⟨q1,_⟩:=hE m _ (zQ9 n);rw[R]at q1;have tk:E.take (m+1)=E.take m++[E[m]]:=by rw[List.take_add_one,zQ9 n];rfl
  rw[dS]at O;refine⟨m+1,n,by omega,by rw[tk];exact fW h8,by dsimp only;omega,B,x.right,by dsimp only;omega,(List.prefix_append_right_inj _).1 v,λq=>?_⟩;obtain⟨e,r3,P,g2,g3⟩:=gd (by omega);have V:=W (by omega);rw[zQ9 n]at P;injection P with P;rw[g3,<-P]at V;have U: ∀(a:J2) r,frs (a::r)=lN a++frs r:=λa r=>by unfold frs;rw[bP,kR]
  rw[U]at V;exact(List.prefix_append_right_inj _).1 V;have e0:E.drop m=[]:=List.drop_eq_nil_of_le (by omega);rw[e0]at v;have a7:j=[]:=by simpa[frs]using v
  subst a7;exfalso;have aq:J0 s'=s'.length:=rfl;have o:=bC (J0 s') A;simp only[List.length_nil]at O hn;have I:Par (nF (s',A)) λy=>y.2.2≠0:=by
   unfold nF;dsimp only;refine .ltf (λ_=>.gt (λ_=>.some (by decide)) λ_=>.bind λy2 h2=>.ne (λ_=>.some (by decide)) λc2=>?_) λ_=>.some (by decide);have g:Par (dP (s',A,4)) λy=>y.2≠0:=by unfold dP;dsimp only;exact .ltf (λ_=>.gtf (λ_=>.lt (λ_=>.some (by decide)) λ_=>.gtf (λ_=>.lt (λ_=>.some (by decide)) λc=>by omega) λ_=>.some (by decide)) λ_=>.some (by decide)) λ_=>.some (by decide)
   exact absurd c2 (g _ h2)
  exact I _ C c6
 exact I _ h
end
end Go.Am
end
section
namespace Go.Am
set_option linter.unusedVariables false
set_option maxRecDepth 20000
set_option maxHeartbeats 1000000
section
variable {mE:List J2} {dE:Int} {pE:Int->Prop} {lk lk' rows rows' out:List aA} {e:J2} {m:List J2} {n:Int}
def Chg(e:J2):Prop:=e.2.1=1\/e.2.1=2
theorem oJ{b:Bool}(h:JC e=some b):(b=true->Chg e)/\(b=false-> ¬Chg e):=by
 have g:Par (JC e) λb=>(b=true->Chg e)/\(b=false-> ¬Chg e):=by unfold JC;exact .eqf (λc1=>.some ⟨λd=>.inr (qE.1 d),λd h=>by rcases h with h|h;exact c1 h;rw[qE.2 h]at d;cases d⟩) λc=>.some ⟨λ_=>.inl c,nofun⟩
 exact g _ h
def DG(lk:List aA)(e:J2)(d:aA):Prop:=(d.1=aV e->(Chg e->d.2.2=e.1)/\(¬Chg e-> ∃g∈lk,g.1=aV e/\d.2.2=g.2.2))/\(d.1≠aV e->d∈lk)
def DQ(e:J2)(out:List aA)(d:aA):Prop:=(d.1≠aV e->d∈out)/\(d.1=aV e-> ¬Chg e->e.2.2.2.2.2.1<d.2.2-> ∃d'∈out,d'.1=aV e)
def DI(lk:List aA)(e:J2)(i:Int)(dn:Bool)(out:List aA):Prop:=(∀d∈out,DG lk e d)/\upw (DQ e out) lk i/\(Chg e->dn=true-> ∃d∈out,d.1=aV e)
def DF(lk:List aA)(e:J2)(out:List aA):Prop:=(∀d∈out,DG lk e d)/\(∀d∈lk,DQ e out d)/\(Chg e-> ∃d∈out,d.1=aV e)
theorem DQ.app{d x:aA}(h:DQ e out d):DQ e (out++[x]) d:=by refine⟨λa=>by simp[h.1 a],λa b c=>?_⟩;obtain⟨d',h1,h2⟩:=h.2 a b c;exact⟨d',by simp[h1],h2⟩
theorem upw.mono{α:Type}{P Q:α->Prop}{l:List α}{i:Int}(h:upw P l i)(e: ∀x,P x->Q x):upw Q l i:=⟨h.1,λa=>⟨(h.2 a).1,λx g=>e x ((h.2 a).2 x g)⟩⟩
theorem DI.app{i:Int}{dn:Bool}{x:aA}(h:DI lk e i dn out)(hx:DG lk e x):DI lk e i dn (out++[x]):=by
 refine⟨λd g=>?_,h.2.1.mono λ_ q=>q.app,λa b=>?_⟩;rcases cK.1 g with g|g;exact h.1 d g;simp at g;subst g;exact hx;obtain⟨d,h1,h2⟩:=h.2.2 a b;exact⟨d,by simp[h1],h2⟩
theorem DI.new{i:Int}{dn:Bool}{t:Int}(h:DI lk e i dn out)(hc:Chg e):DI lk e i true (out++[(aV e,t,e.1)]):=by have q:=h.app (x:=(aV e,t,e.1)) ⟨λ_=>⟨λ_=>rfl,λh=>absurd hc h⟩,λh=>absurd rfl h⟩;exact⟨q.1,q.2.1,λ_ _=>⟨_,List.mem_append_right _ (jK.2 rfl),rfl⟩⟩
theorem DI.next{i:Int}{dn g:Bool}{d:aA}(h:DI lk e i dn out)(hd:idx lk i=some d)(hq:DQ e out d)(j:g=true->Chg e-> ∃d∈out,d.1=aV e):DI lk e (J1 .i64 i 1) g out:=
 ⟨h.1,AK h.2.1 hd hq,λa b=>j b a⟩
theorem JIH{y:List aA}(h:lE (lk,e)=some y):(Chg e\/e.2.1=7->DF lk e y)/\(¬(Chg e\/e.2.1=7)->y=lk):=by
 have lp:Par (Jd jq (lk,false,0,e,[])) λy=>DF lk e y:=by
  refine .while (λz=>z.1=lk/\z.2.2.2.1=e/\DI lk e z.2.2.1 z.2.1 z.2.2.2.2) ⟨rfl,rfl,λd h=>by simp at h,EI,nofun⟩ ?_;rintro⟨l,dn,i,e',out⟩ ⟨h1,h2,hi⟩;dsimp only at h1 h2 hi;subst h1 h2;unfold jq;dsimp only;have same: ∀{d:aA} {dn:Bool} {out:List aA},DI l e' i dn out->idx l i=some d->
    Par (if aK d.1 e'.2.2.2.2.2.2.1.1 then
      (JC e').bind λN=>
      if N then
       (JM 24 out [(d.1,d.2.1,e'.1)]).bind λG=>
       some (.inl (l,true,J1 .i64 i 1,e',G))
      else
       if aR e'.2.2.2.2.2.1 d.2.2 then
        some (.inl (l,true,J1 .i64 i 1,e',out))
       else
        if aR e'.2.2.2.2.2.1 d.2.1 then
         (JM 24 out [(d.1,J1 .i64 e'.2.2.2.2.2.1 1,d.2.2)]).bind λv=>
         some (.inl (l,true,J1 .i64 i 1,e',v))
        else
         (JM 24 out [d]).bind λF=>
         some (.inl (l,true,J1 .i64 i 1,e',F))
     else
      (JM 24 out [d]).bind λA=>
      some (.inl (l,dn,J1 .i64 i 1,e',A))) λr:(iW)⊕(List aA)=> ∃z,r=.inl z/\z.1=l/\z.2.2.2.1=e'/\DI l e' z.2.2.1 z.2.1 z.2.2.2.2:=by
   intro d dn out hi j;have L:=jC j;have keep: ∀{t:Int} {v:List aA},d.1=aV e'-> ¬Chg e'->JM 24 out [(d.1,t,d.2.2)]=some v->DI l e' (J1 .i64 i 1) true v:=fun{t v} c1 J w=>by rw[fW w];refine(hi.app (x:=(d.1,t,d.2.2)) ⟨λ_=>⟨λa=>absurd a J,λ_=>⟨d,L,c1,rfl⟩⟩,λa=>absurd c1 a⟩).next j ⟨λa=>absurd c1 a,λ_ _ _=>⟨(d.1,t,d.2.2),List.mem_append_right _ (jK.2 rfl),c1⟩⟩ λ_ a=>absurd a J
   refine .eq (λc=>.bind λb k=>.ite (λg=>.bind λG R=>.some ⟨_,rfl,rfl,rfl,?_⟩) λg=>.ge (λI=>.some ⟨_,rfl,rfl,rfl,?_⟩) λI=>.ge (λ_=>.bind λv w=>.some ⟨_,rfl,rfl,rfl,keep c ((oJ k).2 g) w⟩) λ_=>.bind λv w=>.some ⟨_,rfl,rfl,rfl,keep c ((oJ k).2 g) w⟩) λc=>.bind λA H=>.some ⟨_,rfl,rfl,rfl,?_⟩;have M:=(oJ k).1 g;dsimp only;rw[fW R,show d.1=aV e' from c];have q:=hi.new (t:=d.2.1) M;exact q.next j ⟨λa=>absurd c a,λ_ b=>absurd M b⟩ λ_ a=>q.2.2 a rfl;exact hi.next j ⟨λa=>absurd c a,λ_ _ a=>absurd I (by omega)⟩ λ_ a=>absurd a ((oJ k).2 g);dsimp only;rw[fW H];have q:=hi.app (x:=d) ⟨λa=>absurd a c,λ_=>L⟩;exact q.next j ⟨λ_=>by simp,λa=>absurd a c⟩ λa b=>q.2.2 b a
  have n: ∀{d:aA} {dn:Bool} {out:List aA} {o:Option ((iW)⊕(List aA))} {Q:((iW)⊕(List aA))->Prop},(∀z,z.1=l/\z.2.2.2.1=e'/\DI l e' z.2.2.1 z.2.1 z.2.2.2.2->Q (.inl z))->Par o (λr=> ∃z,r=.inl z/\z.1=l/\z.2.2.2.1=e'/\DI l e' z.2.2.1 z.2.1 z.2.2.2.2)->Par o Q:=fun{d dn out o Q} h1 h2=>h2.mono λr ⟨z,S,h⟩=>by rw[S];exact h1 z h
  refine .lt (λ_=>.bind λd j=>.gt (λ_=>.not (λ_=>.bind λb k=>.ite (λg=>.bind λO D=>n (d:=d) (dn:=dn) (out:=out) (λz h=>h) (same (dn:=true) ?_ j)) λ_=>n (d:=d) (dn:=dn) (out:=out) (λz h=>h) (same hi j)) λ_=>n (d:=d) (dn:=dn) (out:=out) (λz h=>h) (same hi j)) λ_=>n (d:=d) (dn:=dn) (out:=out) (λz h=>h) (same hi j)) λc=>.map ?_;rw[fW D];exact hi.new ((oJ k).1 g);have C:=FN hi.2.1 c;refine .not (λ_=>.bind λb k=>.ite (λg=>.bind λO D=>.some ?_) λg=>.some ⟨hi.1,C,λa=>absurd a ((oJ k).2 g)⟩) λcd=>.some ⟨hi.1,C,λa=>hi.2.2 a cd⟩;dsimp only;rw[fW D];have q:=hi.new (t:=e'.1) ((oJ k).1 g);exact⟨q.1,λd j=>(C d j).app,λa=>q.2.2 a rfl⟩
 have K:Par (lE (lk,e)) λy=>(Chg e\/e.2.1=7->DF lk e y)/\(¬(Chg e\/e.2.1=7)->y=lk):=(by unfold lE;refine .bind λb k=>.not (λg=>.ne (λB=>.some ⟨λh=>?_,λ_=>rfl⟩) λB=>Par.mono (P:=λy=>DF lk e y) lp λy E=>⟨λ_=>E,λh=>absurd (.inr B) h⟩) λg=>lp.mono λy E=>⟨λ_=>E,λh=>absurd (.inl ((oJ k).1 g)) h⟩;rcases h with h|h;exact absurd h ((oJ k).2 g);exact absurd h B);exact K _ h
end
end Go.Am
end
section
namespace Go.Am
set_option linter.unusedVariables false
set_option maxRecDepth 20000
set_option maxHeartbeats 1000000
section
variable {mE:List J2} {dE:Int} {pE:Int->Prop} {lk lk' rows rows' out:List aA} {e:J2} {m:List J2} {n:Int}
theorem Rel.noted(h:Rel [] (λ_=>True) m n [] lk rows)(hm:cQ m)(he:NX m e)(hd:(Chg e\/e.2.1=7->DF lk e lk')/\(¬(Chg e\/e.2.1=7)->lk'=lk))(hr:(e.2.1≠7->rows'=rows)/\(e.2.1=7->(∀q,q≠aV e->idx rows' q=idx rows q)/\ ∀r,idx rows' (aV e)=some r-> ∃r0,idx rows (aV e)=some r0/\r.1=dG r0.1 e.2.2.2.2.2.1)):Rel [] (λ_=>True) (m++[e]) n [] lk' rows':=by
 obtain⟨I,_,_,z,_⟩:=he;by_cases g:Chg e;have F:e.2.1≠7:=by rcases g with h|h<;>omega
 obtain⟨k,x,B⟩:=hd.1 (.inl g);rw[hr.1 F];refine⟨List.nil_prefix,nofun,nofun,nofun,.nil,nofun,nofun,λd hd=>?_,λq r v=>?_⟩;by_cases c:d.1=aV e;rw[uO,if_pos ⟨g,c.symm⟩];exact((k d hd).1 c).1 g;rw[uS λh=>c h.2.symm];exact h.lak d ((k d hd).2 c);obtain⟨y,w⟩:=h.row q r v;by_cases c:q=aV e;subst c;rw[uO,if_pos ⟨g,rfl⟩];have:=AN hm (aV e);refine⟨by omega,λ_ b=>?_⟩;obtain⟨d,hd,j⟩:=B g;exact absurd j (b d hd);rw[uS λh=>c h.2.symm];exact⟨y,λa b=>w a λd hd j=>b d ((x d hd).1 (by rw[j];exact c)) j⟩;have A: ∀p,bW (m++[e]) p=bW m p:=λp=>uS λh=>g h.1;by_cases o:e.2.1=7;obtain⟨k,x,_⟩:=hd.1 (.inr o);obtain⟨C,G⟩:=hr.2 o;have z:=z o;refine⟨List.nil_prefix,nofun,nofun,nofun,.nil,nofun,nofun,λd hd=>?_,λq r v=>?_⟩;rw[A];by_cases c:d.1=aV e;obtain⟨E,h0,h1,h2⟩:=((k d hd).1 c).2 g;rw[h2,h.lak E h0,h1,c];exact h.lak d ((k d hd).2 c);rw[A];by_cases c:q=aV e;subst c;obtain⟨r0,h0,h1⟩:=G r v;obtain⟨y,w⟩:=h.row _ r0 h0;have mx:=rZ r0.1 e.2.2.2.2.2.1;refine⟨by omega,λ_ b=>?_⟩;by_cases ab: ∀d∈lk,d.1≠aV e;have:=w nofun ab;omega;obtain⟨d,hd,j⟩: ∃d,d∈lk/\d.1=aV e:=by simpa using ab
 have H:=h.lak d hd;rw[j]at H;by_cases D:e.2.2.2.2.2.1<d.2.2;obtain⟨d',h1,h2⟩:=(x d hd).2 j g D;exact absurd h2 (b d' h1);omega;rw[C _ c]at v;obtain⟨y,w⟩:=h.row q r v;exact⟨y,λa b=>w a λd hd j=>b d ((x d hd).1 (by rw[j];exact c)) j⟩;rw[hd.2 (λh=>by rcases h with h|h;exact g h;exact o h),hr.1 o];exact h.ent g
theorem JJ9{a:nL}{y:wG}(h:BO (a,e)=some y)(c:y.2=0)(hr:Rel [] (λ_=>True) m a.1 [] a.2.2.2.2.2.1 a.2.2.2.2.2.2)(hm:cQ m)(he:NX m e):y.1.1=a.1/\y.1.2.2.1=a.2.2.1/\Rel [] (λ_=>True) (m++[e]) y.1.1 [] y.1.2.2.2.2.2.1 y.1.2.2.2.2.2.2:=by
 have o:Par (BO (a,e)) λy=>y.2=0->y.1.1=a.1/\y.1.2.2.1=a.2.2.1/\Rel [] (λ_=>True) (m++[e]) y.1.1 [] y.1.2.2.2.2.2.1 y.1.2.2.2.2.2.2:=by
  unfold BO;have n: ∀{t:Int} {j l2:List Jo},Par ((kI (a.2.2.2.2.2.2,e)).bind λg=>
   if aO g.2 0 then
    some ((a.1,t,a.2.2.1,j,a.2.2.2.2),g.2)
   else
    (JC e).bind λv=>
    if v then
     if aR e.2.2.2.2.2.2.1.1 a.1 then
      some ((a.1,t,a.2.2.1,j,a.2.2.2.2.1,a.2.2.2.2.2.1,g.1),1)
     else
      (lE (a.2.2.2.2.2.1,e)).bind λk=>
      some ((a.1,t,a.2.2.1,j,a.2.2.2.2.1,k,g.1),0)
    else
     (lE (a.2.2.2.2.2.1,e)).bind λr=>
     some ((a.1,t,a.2.2.1,j,a.2.2.2.2.1,r,g.1),0)) λy=>y.2=0->y.1.1=a.1/\y.1.2.2.1=a.2.2.1/\Rel [] (λ_=>True) (m++[e]) y.1.1 [] y.1.2.2.2.2.2.1 y.1.2.2.2.2.2.2:=fun{t j l2}=>by
    refine .bind λg x=>.ne (λc=>.some λh=>absurd h c) λw=>?_;have dn:Par ((lE (a.2.2.2.2.2.1,e)).bind λk=>some ((a.1,t,a.2.2.1,j,a.2.2.2.2.1,k,g.1),(0:Int))) λy=>y.2=0->y.1.1=a.1/\y.1.2.2.1=a.2.2.1/\Rel [] (λ_=>True) (m++[e]) y.1.1 [] y.1.2.2.2.2.2.1 y.1.2.2.2.2.2.2:=.bind λk q=>.some λ_=>⟨rfl,rfl,hr.noted hm he (JIH q) (sv x w).2⟩;exact .bind λ_ _=>.ite (λ_=>.ge (λ_=>.some nofun) λ_=>dn) λ_=>dn
  refine .gt (λ_=>.bind λ_ _=>.lt (λ_=>.bind λ_ _=>.ne (λc=>.some λh=>absurd h c) λ_=>.bind λ_ _=>.ne (λc=>.some λh=>absurd h c) λ_=>n (l2:=[])) λ_=>.bind λ_ _=>.ne (λc=>.some λh=>absurd h c) λ_=>n (l2:=[])) λ_=>.bind λ_ _=>.ne (λc=>.some λh=>absurd h c) λ_=>n (l2:=[])
 exact o _ h c
variable {l:aD}
theorem JFu{y:ke}(h:CF l=some y)(hc:cQ l.2.1):y.2.2=true-> ∃(j:Nat),y.2.1=(j:Int)+1/\j+1<=l.2.1.length/\Rel [] (λ_=>True) (l.2.1.take (j+1)) y.1.1 [] y.1.2.2.2.1 y.1.2.2.2.2:=by
 have r:Par (CF l) λy=>y.2.2=true-> ∃(j:Nat),y.2.1=(j:Int)+1/\j+1<=l.2.1.length/\Rel [] (λ_=>True) (l.2.1.take (j+1)) y.1.1 [] y.1.2.2.2.1 y.1.2.2.2.2:=by
  unfold CF;refine .bind λ_ _=>.not (λ_=>.some nofun) λ_=>.while (λz=>z.2.1=l) rfl ?_;rintro⟨i,l',z⟩ o;dsimp only at o;subst o;unfold zv;refine .ge (λ_=>.bind λH v=>.ne (λ_=>.some rfl) λD=>.bind λF k=>.bind λA B=>.eq (λC=>.bind λE e=>.some λ_=>?_) λ_=>.some rfl) λ_=>.some nofun;rw[v]at k e;injection k with k;injection e with e;subst k;subst e;obtain⟨x,q⟩:=cB v;(try dsimp only at x q);obtain⟨G,_,_,_,w⟩:=hc _ _ q;have n:=(dK.1 q).1;have I:J0 (l'.2.1.take i.toNat)=i:=by unfold J0;rw[eD];omega
  refine⟨i.toNat,by dsimp only;omega,n,?_⟩;have g:=w D A.1 (by rw[<-C];exact B);rw[List.take_add_one,q];exact g.ent (by omega)
 exact r _ h
theorem E6{n:Int}{y:tP}(h:xP n=some y): ∀r∈y.1,r.1=0:=by
 have e:Par (xP n) λy=> ∀r∈y.1,r.1=0:=(by unfold xP;refine .ltf (λ_=>.gt (λ_=>.some nofun) λ_=>.bind λy h=>.some λr g=>?_) λ_=>.some nofun;unfold mkS at h;split at h;injection h with h;subst h;rw[(List.mem_replicate.1 g).2];cases h);exact e _ h
theorem JHr{e:Int}{y:wG}(h:CN (l,e)=some y)(c:y.2=0)(hc:cQ l.2.1):y.1.1=e/\ ∃j:Nat,y.1.2.2.1=(j:Int)/\j<=l.2.1.length/\Rel [] (λ_=>True) (l.2.1.take j) y.1.1 [] y.1.2.2.2.2.2.1 y.1.2.2.2.2.2.2:=by
 have g:Par (CN (l,e)) λy=>y.2=0->y.1.1=e/\ ∃j:Nat,y.1.2.2.1=(j:Int)/\j<=l.2.1.length/\Rel [] (λ_=>True) (l.2.1.take j) y.1.1 [] y.1.2.2.2.2.2.1 y.1.2.2.2.2.2.2:=(by unfold CN;refine .bind λn h2=>.not (λ_=>.gt (λ_=>.some nofun) λ_=>.bind λv h3=>.some λ_=>⟨rfl,0,rfl,zQ2 _,?_⟩) λk=>.ne (λ_=>.some nofun) λcp=>.some λ_=>?_;refine⟨List.nil_prefix,nofun,nofun,nofun,.nil,nofun,nofun,nofun,λp r q=>?_⟩;have z:r.1=0:=E6 h3 r (jC q);rw[z];exact⟨aU _,λ_ _=>rfl⟩;obtain⟨j,h1,h3,o⟩:=JFu h2 hc k;refine⟨rfl,j+1,by dsimp only;omega,h3,?_⟩;exact(show n.1.1=e from cp)▸o);exact g _ h c
theorem JDT{k:Int}{y:wG}(h:CR (l,k)=some y)(c:y.2=0)(hc:cQ l.2.1):y.1.1=k/\Rel [] (λ_=>True) l.2.1 k [] y.1.2.2.2.2.2.1 y.1.2.2.2.2.2.2:=by
 have C:Par (CR (l,k)) λy=>y.2=0->y.1.1=k/\Rel [] (λ_=>True) l.2.1 k [] y.1.2.2.2.2.2.1 y.1.2.2.2.2.2.2:=by
  unfold CR;refine .bind λ_ _=>.not (λ_=>.some nofun) λ_=>.ltf (λ_=>.gt (λ_=>.some nofun) λ_=>.bind λS h3=>.ne (λc=>.some λh=>absurd h c) λO=>?_) λ_=>.some nofun;obtain⟨b1,j,b2,b3,D⟩:=JHr h3 O hc;refine .while (λz=>z.2.1=l/\z.2.2.2.1=k/\z.2.2.2.2.2.1=(j:Int)/\z.1<=9223372036854775807/\(0<=z.1->Rel [] (λ_=>True) (l.2.1.take (max j z.1.toNat)) k [] z.2.2.2.2.2.2.2.2.1 z.2.2.2.2.2.2.2.2.2)) ⟨rfl,b1,b2,show(0:Int)<=9223372036854775807 by decide,λ_=>by rw[b1]at D;simpa using D⟩ ?_;rintro⟨i,l',W,a⟩ ⟨h1,h2,w,M,r⟩;dsimp only at h1 h2 w M r;subst h1;unfold ob;dsimp only;have o:=Ji i 1;refine .lt (λ_=>.bind λe x=>.le (λJ=>.some ⟨rfl,h2,w,by dsimp only;omega,λF=>?_⟩) λJ=>.bind λV n=>.bind λR I=>.ne (λc=>.some λh=>absurd h c) λH=>.some ?_) λU=>.map (.while (λz=>z.2.2.2.1=a) rfl ?_);obtain⟨v,q⟩:=cB x;have P:=(hc _ _ q).1;have A:=(dK.1 q).1;have N:J0 (l'.2.1.take i.toNat)=i:=by unfold J0;rw[eD];omega
  have g:=r v;show Rel [] (λ_=>True) _ _ _ _ _;rw[show max j (J1 .i64 i 1).toNat=max j i.toNat by omega];exact g;rw[x]at n;injection n with n;subst n;obtain⟨v,q⟩:=cB x;have A:=(dK.1 q).1;have E:=hc _ _ q;have N:J0 (l'.2.1.take i.toNat)=i:=by unfold J0;rw[eD];omega
  have P:=E.1;have g:=r v;rw[show max j i.toNat=i.toNat by omega]at g;obtain⟨G,L,K⟩:=JJ9 I H (by rw[h2];exact g) (hc.take _) E;refine⟨rfl,G.trans h2,L.trans w,by dsimp only;omega,λF=>?_⟩;dsimp only at F⊢;rw[show max j (J1 .i64 i 1).toNat=i.toNat+1 by omega,List.take_add_one,q,<-h2,<-G];exact K;rintro⟨i2,Z,Q,Y,out⟩ B;dsimp only at B;subst B;unfold nz;refine .lt (λ_=>.bind λ_ _=>.gt (λ_=>.bind λ_ _=>.bind λ_ _=>.some rfl) λ_=>.some rfl) λ_=>.map (.bind λ_ _=>.ne (λc=>.some λh=>absurd h c) λ_=>.some λ_=>⟨h2,?_⟩);have T:=Jc (l:=l'.2.1);have g:=r (by omega);rw[List.take_of_length_le (by unfold J0 at*;omega)]at g;exact g
 exact C _ h c
theorem JHE{a:nL}{e:Int}{y:cX}(h:CH (l,a,e)=some y)(c:y.2=0)(hl:gE dE l)(hc:cQ l.2.1)(hr:Rel [] (λ_=>True) l.2.1 a.1 [] a.2.2.2.2.2.1 a.2.2.2.2.2.2):aW l.2.1 l.2.2 (λ_=>False) y.1:=by
 have j:Par (CH (l,a,e)) λy=>y.2=0->aW l.2.1 l.2.2 (λ_=>False) y.1:=(by unfold CH;refine .bind λq h2=>.ne (λc=>.some λh=>absurd h (by decide)) λv=>.bind λ_ _=>.not (λ_=>.some nofun) λ_=>.while (λz=>aW l.2.1 l.2.2 (λ_=>False) z.2.2.2.2.2) ⟨⟨hl.1,⟨hl.2.1.1,aU _⟩,hl.2.2⟩,hc,?_⟩ ?_;have o:Par (uT e) λy=>y.1.2.1=[]:=(by unfold uT;exact .ltf (λ_=>.gt (λ_=>.some rfl) λ_=>.some rfl) λ_=>.some rfl);show Rel l.2.1 (λ_=>False) _ _ q.1.2.1 _ _;rw[o _ h2];exact⟨List.prefix_refl _,nofun,nofun,hr.rng,hr.one,hr.apt,hr.hot,hr.lak,hr.row⟩;intro z g;unfold j5;exact .lt (λ_=>.bind λ_ _=>.eq (λ_=>.some g) λ_=>.bind λ_ _=>.bind λr n=>.ne (λc=>.some λh=>absurd h c) λk=>.some (PL n k g (.inr (.inl rfl)))) λ_=>.some λ_=>g);exact j _ h c
end
end Go.Am
end
section
namespace Go.Am
set_option linter.unusedVariables false
set_option maxRecDepth 20000
set_option maxHeartbeats 1000000
section
variable {mE:List J2} {dE:Int} {pE:Int->Prop} {s:List UInt8} {p:Int}
theorem rU{n:Int}{k:Nat}(b:Nat)(h:At s (J06 n k) p)(hl:s.length<=4611686018427387904)(h0:0<=n)(hn:n<b)(hb:b=2^(8*k):=by rfl)(h1:1<=k:=by decide)(e:k<=8:=by decide)(g:n<9223372036854775808:=by omega):dP (s,p,(k:Int))=some (n,0):=by obtain⟨m,rfl⟩:=Int.eq_ofNat_of_zero_le h0;exact wK h h1 e (by omega) (by omega) hl
def vZ(r:aA):List UInt8:=J06 r.1 8++(J06 r.2.1 8++J06 r.2.2 8)
def hU(l:List aA):List UInt8:=(l.map vZ).flatten
def HW(r:aA):Prop:=(0<=r.1/\r.1<=1099511627776)/\(0<=r.2.1/\r.2.1<=1099511627776)/\0<=r.2.2/\r.2.2<=1099511627776
def vW(r:aA):List UInt8:=J06 r.1 1++(J06 r.2.1 8++J06 r.2.2 8)
def pQ(l:List aA):List UInt8:=(l.map vW).flatten
def IF(r:aA):Prop:=(0<=r.1/\r.1<64)/\(0<=r.2.1/\r.2.1<=1099511627776)/\0<=r.2.2/\r.2.2<=1099511627776
theorem JIE{l:List aA}(h:iK l=some true):J0 l<=64/\ ∀r∈l,HW r:=by
 have o: ∀{n:Int} {b:Bool},oT n=some b->b=true->0<=n/\n<=1099511627776:=fun{n b} D B=>by
  have k:Par (oT n) λb=>b=true->0<=n/\n<=1099511627776:=by unfold oT;exact .ge (λc=>.some λd=>⟨c,iC.1 d⟩) λ_=>.some nofun
  exact k _ D B
 have A:Par (iK l) λy=>y=true->J0 l<=64/\ ∀r∈l,HW r:=by unfold iK;refine .ltf (λ_=>.gt (λ_=>.some nofun) λc=>.while (λz=>z.2=l/\upw HW l z.1) ⟨rfl,EI⟩ ?_) λ_=>.some nofun;rintro⟨i,l'⟩ ⟨h1,v⟩;dsimp only at h1 v;subst h1;unfold j9;have go: ∀{r:aA} {w x q:Bool},idx l' i=some r->oT r.1=some w->w=true->oT r.2.1=some x->x=true->oT r.2.2=some q->q=true->upw HW l' (J1 .i64 i 1):=λg h1 c1 h2 e h3 j=>AK v g ⟨o h1 c1,o h2 e,o h3 j⟩;exact .lt (λ_=>.bind λr g=>.bind λw h1=>.nof (λc1=>.bind λx h2=>.nof (λe=>.bind λq h3=>.nof (λj=>.eq (λ_=>.ne (λ_=>.some nofun) λ_=>.some ⟨rfl,go g h1 c1 h2 e h3 j⟩) λ_=>.some ⟨rfl,go g h1 c1 h2 e h3 j⟩) λ_=>.some nofun) λ_=>.some nofun) λ_=>.some nofun) λC=>.some λ_=>⟨Int.not_lt.1 c,FN v C⟩
 exact A _ h rfl
theorem JKN{l:List aA}{n:Int}(h:mK (l,n)=some true)(hn:n<=64):J0 l<=64/\ ∀r∈l,IF r:=by
 have v:Par (mK (l,n)) λy=>y=true->J0 l<=64/\ ∀r∈l,IF r:=(by unfold mK;refine .while (λz=>z.1=l/\z.2.1=n/\upw IF l z.2.2/\(0<=z.2.2->z.2.2<=J0 l/\z.2.2<=64/\ ∀r,idx l (z.2.2-1)=some r->z.2.2-1<=r.1)) ⟨rfl,rfl,EI,λ_=>⟨Jc,show(0:Int)<=64 by decide,λr g=>absurd (cB g).1 (show¬(0:Int)<=0-1 by decide)⟩⟩ ?_;rintro⟨l',k,i⟩ ⟨h1,h2,j,hi⟩;dsimp only at h1 h2 j hi;subst h1 h2;unfold XH;dsimp only;have o:=Ji i 1;have I:=bC i 1;refine .lt (λL=>.bind λr g=>.ltf (λc1=>.gef (λJ=>.ltf (λP=>.gtf (λM=>.gtf (λK=>?_) λ_=>.some nofun) λ_=>.some nofun) λ_=>.some nofun) λ_=>.some nofun) λ_=>.some nofun) λD=>.some λ_=>⟨?_,FN j D⟩;obtain⟨C,q⟩:=cB g;obtain⟨F,N,A⟩:=hi C;have B:IF r:=⟨⟨by omega,by omega⟩,⟨by omega,by omega⟩,by omega,by omega⟩;have w:i<=r.1->(l'=l'/\k=k/\upw IF l' (J1 .i64 i 1)/\(0<=J1 .i64 i 1->J1 .i64 i 1<=J0 l'/\J1 .i64 i 1<=64/\ ∀r,idx l' (J1 .i64 i 1-1)=some r->J1 .i64 i 1-1<=r.1)):=λx=>⟨rfl,rfl,AK j g B,λO=>⟨by omega,by omega,λr' e=>by rw[show J1 .i64 i 1-1=i by omega]at e⊢;rw[g]at e;injection e with e;subst e;exact x⟩⟩;refine .gt (λE=>.bind λr' e=>.ge (λ_=>.some nofun) λG=>.some (w ?_)) λE=>.some (w (by omega));rw[show JL .i64 i 1=i-1 by omega]at e;have:=A r' e;omega;have H:=Jc (l:=l');have:=(hi (by omega)).2.1;omega);exact v _ h rfl
theorem JLE{l:List aA}{y:List UInt8×Int}(h:CA l=some y)(hv:iK l=some true):y.1=J06 (J0 l) 2++hU l:=by
 have w:Par (CA l) λy=>y.1=J06 (J0 l) 2++hU l:=(by unfold CA;refine .bind λv g=>.not (λc=>by rw[hv]at g;injection g with g;subst g;cases c) λ_=>.bind λG h3=>.while (λz=>z.2.2=l/\z.2.1<=9223372036854775807/\(0<=z.2.1->z.1=J06 (J0 l) 2++hU (l.take z.2.1.toNat))) ⟨rfl,show(0:Int)<=9223372036854775807 by decide,λ_=>by rw[dZ (k:=2) (by decide) (by decide) h3];simp[hU]⟩ ?_;rintro⟨o,i,l'⟩ ⟨h1,h2,hi⟩;dsimp only at h1 h2 hi;subst h1;unfold nw;dsimp only;have oo:=Ji i 1;refine .lt (λ_=>.bind λr x=>.bind λJ C=>.bind λL e=>.bind λI B=>.bind λF j=>.bind λE n=>.some ⟨rfl,by dsimp only;omega,λD=>?_⟩) λK=>.some ?_;rw[x]at e j;injection e with e;injection j with j;subst e;subst j;obtain⟨A,q⟩:=cB x;dsimp only at D⊢;rw[dZ (k:=8) (by decide) (by decide) n,dZ (k:=8) (by decide) (by decide) B,dZ (k:=8) (by decide) (by decide) C,hi A,show(J1 .i64 i 1).toNat=i.toNat+1 by omega,List.take_add_one,q];simp[hU,vZ];have H:=Jc (l:=l');show o=_;rw[hi (by omega),List.take_of_length_le (by unfold J0 at*;omega)]);exact w _ h
theorem At.rows{l:List aA}(h:At s (hU l) p): ∀{i:Nat} {r:aA},l[i]?=some r->At s (vZ r) (p+24*i):=by
 induction l generalizing p with
 |nil=>intro i r h;simp at h
 |cons x l ih=>
  intro i r g;have e:hU (x::l)=vZ x++hU l:=by simp[hU]
  rw[e]at h;cases i with
  |zero=>simp at g;subst g;simpa using h.left
  |succ i=>
   have q:=ih h.right (i:=i) (r:=r) (by simpa using g);have j:(vZ x).length=24:=by simp[vZ,Jv]
   rw[j]at q;rw[show p+24*((i+1:Nat):Int)=p+((24:Nat):Int)+24*(i:Int) by omega];exact q
theorem At.dirs{l:List aA}(h:At s (pQ l) p): ∀{i:Nat} {r:aA},l[i]?=some r->At s (vW r) (p+17*i):=by
 induction l generalizing p with
 |nil=>intro i r h;simp at h
 |cons x l ih=>
  intro i r g;have e:pQ (x::l)=vW x++pQ l:=by simp[pQ]
  rw[e]at h;cases i with
  |zero=>simp at g;subst g;simpa using h.left
  |succ i=>
   have q:=ih h.right (i:=i) (r:=r) (by simpa using g);have j:(vW x).length=17:=by simp[vW,Jv]
   rw[j]at q;rw[show p+17*((i+1:Nat):Int)=p+((17:Nat):Int)+17*(i:Int) by omega];exact q
theorem JLH{l:List aA}{y:tP}(h:CD (J06 (J0 l) 2++hU l)=some y)(hl:J0 l<=64)(E: ∀r∈l,HW r)(c:y.2=0):y.1=l:=by
 have len:(hU l).length=24*l.length:=by
  clear h hl E
  induction l with
  |nil=>rfl
  |cons x l ih=>simp[hU,vZ,Jv]at ih⊢;omega
 have N:=Jc (l:=l);have T:J0 l=l.length:=rfl;have F:Par (CD (J06 (J0 l) 2++hU l)) λy=>y.2=0->y.1=l:=by
  generalize H:J06 (J0 l) 2++hU l=s;have I:At s (J06 (J0 l) 2++hU l) 0:=by rw[H];exact .all
  have v:s.length<=4611686018427387904:=by rw[<-H,dS,Jv,len];omega
  have g:=rU (k:=2) 65536 I.left v N (by omega);have J:=I.right;rw[Jv]at J;unfold CD;refine .bind λy2 h2=>.nef (λ_=>.lt (λ_=>.some nofun) λ_=>.gt (λ_=>.some nofun) λ_=>?_) λ_=>.some nofun;have D:=h2.symm.trans g;injection D with D;subst D;refine .while (λz=>z.1=s/\z.2.1=J0 l/\ ∃i:Nat,z.2.2.1=(i:Int)/\i<=l.length/\z.2.2.2.2=l.take i) ⟨rfl,rfl,0,rfl,zQ2 _,rfl⟩ ?_;rintro⟨s',n,i',z,o⟩ ⟨h1,h3,i,j,q,e⟩;dsimp only at h1 h3 j q e;subst h1 h3 j e;unfold nx;dsimp only;have oo:=Ji (i:Int) 1;have om:=KG 24 (i:Int);have U:=Ji 2 (cV .i64 24 (i:Int));have Z:=Ji 10 (cV .i64 24 (i:Int));have o4:=Ji 18 (cV .i64 24 (i:Int));refine .lt (λci=>.bind λy4 j=>.bind λV q=>.bind λW e=>.bind λK M=>.some ⟨rfl,rfl,i+1,by dsimp only;omega,by omega,?_⟩) λY=>.map (.bind λ_ _=>.not (λ_=>.some nofun) λ_=>.some λ_=>by dsimp only;rw[List.take_of_length_le (by omega)]);have w:i<l.length:=by omega
  have G:=zQ9 w;obtain⟨L,O,P⟩:=E _ (lK w);have ar:=J.rows G;unfold vZ at ar;have S:=rU (k:=8) 18446744073709551616 ar.left v L.1 (by omega);have ar:=ar.right;rw[Jv]at ar;have R:=rU (k:=8) 18446744073709551616 ar.left v O.1 (by omega);have ar:=ar.right;rw[Jv]at ar;have Q:=rU (k:=8) 18446744073709551616 ar v P.1 (by omega);rw[show J1 .i64 2 (cV .i64 24 (i:Int))=0+((2:Nat):Int)+24*(i:Int) by omega]at j;rw[show J1 .i64 10 (cV .i64 24 (i:Int))=0+((2:Nat):Int)+24*(i:Int)+((8:Nat):Int) by omega]at q;rw[show J1 .i64 18 (cV .i64 24 (i:Int))=0+((2:Nat):Int)+24*(i:Int)+((8:Nat):Int)+((8:Nat):Int) by omega]at e;have C:=j.symm.trans S;have A:=q.symm.trans R;have B:=e.symm.trans Q;injection C with C;injection A with A;injection B with B;subst C;subst A;subst B;show K=_;rw[fW M,List.take_add_one,G];rfl
 exact F _ h c
end
end Go.Am
end
section
namespace Go.Am
set_option linter.unusedVariables false
set_option maxRecDepth 20000
set_option maxHeartbeats 1000000
section
variable {mE:List J2} {dE:Int} {pE:Int->Prop} {s:List UInt8} {p:Int}
theorem qn{c:kM}(h:oU c=some true):(1<=c.1/\c.1<=64)/\mK (c.2.2.2.1,c.1)=some true/\iK c.2.2.2.2=some true:=by
 have e:Par (oU c) λy=>y=true->(1<=c.1/\c.1<=64)/\mK (c.2.2.2.1,c.1)=some true/\iK c.2.2.2.2=some true:=by unfold oU;exact .ltf (λc1=>.gtf (λo=>.ltf (λ_=>.gtf (λ_=>.bind λ_ _=>.nof (λ_=>.bind λa k=>.nof (λj=>.bind λb n=>.nof (λg=>.ne (λ_=>.some nofun) λ_=>λ_ _ _=>⟨⟨by omega,by omega⟩,by rw[<-j];exact k,by rw[<-g];exact n⟩) λ_=>.some nofun) λ_=>.some nofun) λ_=>.some nofun) λ_=>.some nofun) λ_=>.some nofun) λ_=>.some nofun) λ_=>.some nofun
 exact e _ h rfl
def ckB(c:kM)(t:List UInt8):List UInt8:=J06 c.1 2++(J06 c.2.1 4++(J06 (J0 t) 4++(t++(J06 (J0 c.2.2.2.1) 1++(pQ c.2.2.2.1++(J06 (J0 c.2.2.2.2) 2++hU c.2.2.2.2))))))
theorem JLe{c:kM}{y:List UInt8×Int}(h:CG c=some y):y.1=[]\/(oU c=some true/\ ∃t,y.1=ckB c t):=by
 have A:Par (CG c) λy=>y.1=[]\/(oU c=some true/\ ∃t,y.1=ckB c t):=by
  unfold CG;refine .bind λv w=>.not (λ_=>.some (.inl rfl)) λD=>.bind λx h3=>.bind λY L=>.bind λU M=>.bind λV H=>.bind λQ E=>.bind λT G=>?_;have w:oU c=some true:=by rw[<-D];exact w
  obtain⟨_,_,J⟩:=qn w;refine .while (λz=>z.2.2=c/\z.2.1<=9223372036854775807/\(0<=z.2.1->z.1=J06 c.1 2++(J06 c.2.1 4++(J06 (J0 x.1) 4++(x.1++(J06 (J0 c.2.2.2.1) 1++pQ (c.2.2.2.1.take z.2.1.toNat))))))) ⟨rfl,show(0:Int)<=9223372036854775807 by decide,λ_=>?_⟩ ?_;dsimp only;rw[dZ (k:=1) (by decide) (by decide) G,jV E,dZ (k:=4) (by decide) (by decide) H,dZ (k:=4) (by decide) (by decide) M,dZ (k:=2) (by decide) (by decide) L];simp[pQ];rintro⟨o,i,c'⟩ ⟨h1,h2,hi⟩;dsimp only at h1 h2 hi;subst h1;unfold nu;dsimp only;have oo:=Ji i 1;refine .lt (λ_=>.bind λr B=>.bind λa O=>.bind λZ j=>.bind λb K=>.bind λR n=>.bind λd I=>.some ⟨rfl,by dsimp only;omega,λN=>?_⟩) λW=>.map (.bind λe P=>.bind λg C=>.some (.inr ⟨w,x.1,?_⟩));rw[B]at j n;injection j with j;injection n with n;subst j;subst n;obtain⟨F,q⟩:=cB B;dsimp only at N⊢;rw[dZ (k:=8) (by decide) (by decide) I,dZ (k:=8) (by decide) (by decide) K,dZ (k:=1) (by decide) (by decide) O,hi F,show(J1 .i64 i 1).toNat=i.toNat+1 by omega,List.take_add_one,q];simp[pQ,vW];have S:=Jc (l:=c'.2.2.2.1);show g=_;rw[jV C,JLE P J,hi (by omega),List.take_of_length_le (by unfold J0 at*;omega)];unfold ckB;simp only[fM]
 exact A _ h
theorem uk(l:List aA):(pQ l).length=17*l.length:=by
 induction l with
 |nil=>rfl
 |cons x l ih=>simp[pQ,vW,Jv]at ih⊢;omega
theorem Z3{c c':kM}{t:List UInt8}(hv:oU c=some true)(hl:(ckB c t).length<=8192)(h:vH (ckB c t)=some (c',0)):c'.1=c.1/\c'.2.2.2.1=c.2.2.2.1/\c'.2.2.2.2=c.2.2.2.2:=by
 obtain⟨v1,v2,v3⟩:=qn hv;obtain⟨d1,d2⟩:=JKN v2 v1.2;obtain⟨r1,r2⟩:=JIE v3;have Z:Par (vH (ckB c t)) λy=>y.2=0->y.1.1=c.1/\y.1.2.2.2.1=c.2.2.2.1/\y.1.2.2.2.2=c.2.2.2.2:=by
  generalize hx:ckB c t=s at hl;have H:At s (ckB c t) 0:=by rw[hx];exact .all
  have g:s.length<=4611686018427387904:=by omega
  unfold ckB at H;have L:=rU (k:=2) 65536 H.left g (by omega) (by omega);have q:=H.right.right;simp only[Jv]at q;have b1:=q.bnd;simp only[dS,Jv]at b1;have lt:J0 t=t.length:=rfl;have ld:J0 c.2.2.2.1=c.2.2.2.1.length:=rfl;have ls:J0 s=s.length:=rfl;have F:=rU (k:=4) 4294967296 q.left g (by omega) (by omega);have I:=q.right.right;simp only[Jv]at I;have g4:=rU (k:=1) 256 I.left g (by omega) (by omega);have K:=I.right;simp only[Jv]at K;have a4:=K.right;rw[uk]at a4;have o1:=Ji 10 (J0 t);have o2:=Ji (J1 .i64 10 (J0 t)) 1;unfold vH;refine .bind λy2 h2=>.bind λy3 h3=>.bind λy4 h4=>?_;have G:=h2.symm.trans L;have C:=h4.symm.trans F;injection G with G;injection C with C;subst G;subst C;dsimp only;refine .nef (λ_=>.gt (λ_=>.some nofun) λ_=>.bind λy5 h5=>.bind λy6 h6=>?_) λ_=>.some nofun;rw[show J1 .i64 10 (J0 t)=0+((2:Nat):Int)+((4:Nat):Int)+((4:Nat):Int)+(t.length:Int) by omega]at h6;have A:=h6.symm.trans g4;injection A with A;subst A;refine .nef (λ_=>.lt (λ_=>.some nofun) λ_=>?_) λ_=>.some nofun;refine .while (λz=>z.1=s/\z.2.2.2.1=J0 c.2.2.2.1/\z.2.2.2.2.2.2.2.2.2.2.2.1=c.1/\ ∃i:Nat,z.2.2.2.2.1=(i:Int)/\i<=c.2.2.2.1.length/\z.2.2.1=11+J0 t+17*(i:Int)/\z.2.2.2.2.2.2.2.2.2.2.1=c.2.2.2.1.take i) ⟨rfl,rfl,rfl,0,rfl,zQ2 _,by dsimp only;omega,rfl⟩ ?_;rintro⟨s',J,aq,n,i',q2,q3,q4,q5,q6,D,pg,q7⟩ ⟨U,R,T,i,Q,k8,W,x⟩;dsimp only at U R T Q k8 W x;subst U R T Q W x;unfold nr;dsimp only;have p1:=Ji (i:Int) 1;have p2:=Ji (11+J0 t+17*(i:Int)) 1;have p3:=Ji (11+J0 t+17*(i:Int)) 9;have p4:=Ji (11+J0 t+17*(i:Int)) 17;refine .lt (λci=>.bind λy8 S=>.bind λy9 h9=>.bind λao w=>.bind λP Y=>.some ⟨rfl,rfl,rfl,i+1,by dsimp only;omega,by omega,by dsimp only;omega,?_⟩) λcn=>.map (.bind λap _=>.ne (λc=>.some λh=>absurd h c) λ_=>.bind λV M=>.bind λau r=>.ne (λc=>.some λh=>absurd h c) λN=>.bind λ_ _=>.not (λ_=>.some nofun) λ_=>.some λ_=>⟨rfl,?_,?_⟩);have v:i<c.2.2.2.1.length:=by omega
  have hr:=zQ9 v;obtain⟨f1,f2,f3⟩:=d2 _ (lK v);have ar:=K.left.dirs hr;unfold vW at ar;have L:=rU (k:=1) 256 ar.left g f1.1 (by omega);have ar:=ar.right;rw[Jv]at ar;have g2:=rU (k:=8) 18446744073709551616 ar.left g f2.1 (by omega);have ar:=ar.right;rw[Jv]at ar;have F:=rU (k:=8) 18446744073709551616 ar g f3.1 (by omega);rw[show 11+J0 t+17*(i:Int)=0+((2:Nat):Int)+((4:Nat):Int)+((4:Nat):Int)+(t.length:Int)+((1:Nat):Int)+17*(i:Int) by omega]at S;rw[show J1 .i64 (11+J0 t+17*(i:Int)) 1=0+((2:Nat):Int)+((4:Nat):Int)+((4:Nat):Int)+(t.length:Int)+((1:Nat):Int)+17*(i:Int)+((1:Nat):Int) by omega]at h9;rw[show J1 .i64 (11+J0 t+17*(i:Int)) 9=0+((2:Nat):Int)+((4:Nat):Int)+((4:Nat):Int)+(t.length:Int)+((1:Nat):Int)+17*(i:Int)+((1:Nat):Int)+((8:Nat):Int) by omega]at w;have E:=S.symm.trans L;have B:=h9.symm.trans g2;have j:=w.symm.trans F;injection E with E;injection B with B;injection j with j;subst E;subst B;subst j;show P=_;rw[fW Y,List.take_add_one,hr];rfl;show c.2.2.2.1.take i=_;rw[List.take_of_length_le (by omega)];have hi:i=c.2.2.2.1.length:=by omega
  obtain⟨_,O⟩:=RE M;have e:V=J06 (J0 c.2.2.2.2) 2++hU c.2.2.2.2:=by
   obtain⟨pre,o,J,q2⟩:=a4;have b4:(pre++((J06 (J0 c.2.2.2.2) 2++hU c.2.2.2.2)++o)).length=(J06 c.1 2++(J06 c.2.1 4++(J06 (J0 t) 4++(t++(J06 (J0 c.2.2.2.1) 1++(pQ c.2.2.2.1++(J06 (J0 c.2.2.2.2) 2++hU c.2.2.2.2))))))).length:=by rw[<-J,<-hx];rfl
   simp only[dS,Jv,uk]at b4;have hp:o=[]:=List.length_eq_zero_iff.1 (by omega);subst hp;rw[O,J,kO,show(11+J0 t+17*(i:Int)).toNat=pre.length by omega];simp
  rw[e]at r;exact JLH r r1 r2 N
 exact Z _ h rfl
end
end Go.Am
end
section
namespace Go.Am
set_option linter.unusedVariables false
set_option maxRecDepth 20000
set_option maxHeartbeats 1000000
section
variable {mE:List J2} {dE:Int} {pE:Int->Prop} {k:J4}
theorem JDD{p:JJ}{y:List aA}(h:vF p=some y)(hv:JP p=some true)(one:p.2.1.Pairwise λa b=>a.1.1≠b.1.1):(∀d∈y,∃f∈p.2.1,f.1.1=d.1/\d.2.2=f.1.2.1)/\ ∀f∈p.2.1,f.2.1=true->0<=f.1.1->f.1.1<64-> ∃d∈y,d.1=f.1.1:=by
 have H:Par (vF p) λy=>(∀d∈y,∃f∈p.2.1,f.1.1=d.1/\d.2.2=f.1.2.1)/\ ∀f∈p.2.1,f.2.1=true->0<=f.1.1->f.1.1<64-> ∃d∈y,d.1=f.1.1:=by
  unfold vF;refine .bind λv q=>.not (λc=>by rw[hv]at q;injection q with q;subst q;cases c) λ_=>.while (λz=>z.2.1=p/\(0<=z.1/\z.1<=64)/\(∀d∈z.2.2,∃f∈p.2.1,f.1.1=d.1/\d.2.2=f.1.2.1)/\ ∀f∈p.2.1,f.2.1=true->0<=f.1.1->f.1.1<z.1-> ∃d∈z.2.2,d.1=f.1.1) ⟨rfl,⟨aU _,show(0:Int)<=64 by decide⟩,nofun,λf _ _ a b=>by dsimp only at b;omega⟩ ?_;rintro⟨i,N,o⟩ ⟨h1,⟨h2,h3⟩,A,B⟩;dsimp only at h1 h2 h3 A B;subst h1;unfold jt;dsimp only;have oo:=Ji i 1;refine .lt (λM=>.bind λj K=>.ge (λG=>.bind λf r=>?_) λG=>.some ⟨rfl,by dsimp only;omega,A,λg F a b c=>?_⟩) λM=>.some ⟨A,λf r a b c=>B f r a b (by omega)⟩;obtain⟨g,C,J⟩:=(xH K).2.1 G;rw[r]at C;injection C with C;subst C;have D: ∀x∈N.2.1,x.1.1=i->x=f:=λx w e=>by obtain⟨a,L⟩:=kN.1 w;obtain⟨_,E⟩:=cB r;have:=D8 one L E (e.trans J.symm);subst this;rw[L]at E;injection E
  refine .ite (λcd=>.bind λS Q=>.bind λT n=>.bind λR I=>.some ⟨rfl,by dsimp only;omega,λd k=>?_,λx w a b c=>?_⟩) λcd=>.some ⟨rfl,by dsimp only;omega,A,λx w a b c=>?_⟩;dsimp only at k;rw[fW I]at k;rcases cK.1 k with k|k;exact A d k;simp at k;subst k;rw[r]at n;injection n with n;subst n;exact⟨f,jC r,J,rfl⟩;dsimp only at c⊢;rw[fW I];by_cases e:x.1.1=i;exact⟨_,List.mem_append_right _ (jK.2 rfl),e.symm⟩;obtain⟨d,O,P⟩:=B x w a b (by omega);exact⟨d,List.mem_append_left _ O,P⟩;dsimp only at c;by_cases e:x.1.1=i;rw[D x w e,cd]at a;cases a;exact B x w a b (by omega);dsimp only at c;by_cases e:g.1.1=i;exact absurd e ((xH K).2.2 (by omega) g F);exact B g F a b (by omega)
 exact H _ h
def OfQ(k:J4)(n:Int)(D:List aA):Prop:=(∀d∈D,d.2.2=bW k.2.2.1.2.1 d.1)/\ ∀q,0<=q->q<n->((∃d∈k.2.2.2.2.2.2.2,d.1=q)\/(∃f∈k.2.2.2.1.2.1,f.2.1=true/\f.1.1=q))-> ∃d∈D,d.1=q
theorem Zh{y:tT}(h:AP k=some y)(c:y.2=0)(hi:aW mE dE pE k):y.1.1=k.1/\y.1.2.2.2.2=k.2.2.2.2.2.2.1/\OfQ k k.1 y.1.2.2.2.1/\Jq k=some true:=by
 have a3:Par (AP k) λy=>y.2=0->y.1.1=k.1/\y.1.2.2.2.2=k.2.2.2.2.2.2.1/\OfQ k k.1 y.1.2.2.2.1/\Jq k=some true:=by
  unfold AP;refine .bind λv K=>.not (λ_=>.some nofun) λcv=>?_;have K:Jq k=some true:=by rw[<-cv];exact K
  have ax:k.1<=64:=by
   have k1:Par (nB k) λy=>y=true->k.1<=64:=by unfold nB;exact .ge (λ_=>.le (λc=>λ_ _ _=>c) λ_=>.some nofun) λ_=>.some nofun
   have W:Par (Jq k) λy=>y=true->k.1<=64:=by unfold Jq;exact .bind λa ha=>.not (λ_=>.some nofun) λc=>λ_ _ _=>k1 _ ha c
   exact W _ K rfl
  refine .while (λz=>z.2.1=k/\z.2.2.2.2.2.2.2.2.2.1=k.1/\z.2.2.2.2.2.2.2.2.2.2.2.2=k.2.2.2.2.2.2.1/\(0<=z.1/\z.1<=1000)/\OfQ k z.1 z.2.2.2.2.2.2.2.1) ⟨rfl,rfl,rfl,⟨aU _,show(0:Int)<=1000 by decide⟩,nofun,λq a b=>by dsimp only at b;omega⟩ ?_;rintro⟨i,k',u1,u2,u3,u4,u5,D,u6,pg,u7,u8,rw⟩ ⟨h1,h2,h3,⟨h4,B⟩,F⟩;dsimp only at h1 h2 h3 h4 B F;subst h1 h2 h3;unfold iu;have oo:=Ji i 1;have a0:iq=MW:=rfl;rw[a0];have lp: ∀{C A:List aA},i<k'.1->vF k'.2.2.2.1=some A->(∀d∈C,d.2.2=bW k'.2.2.1.2.1 d.1)->(∀d∈D,d∈C)->((∃d∈k'.2.2.2.2.2.2.2,d.1=i)-> ∃d∈C,d.1=i)->
    Par (Jd MW (i,A,J0 A,0,k',u1,u2,u3,u4,u5,C,u6,k'.1,u7,u8,k'.2.2.2.2.2.2.1)) λr=> ∃z,r=.inl z/\z.2.1=k'/\z.2.2.2.2.2.2.2.2.2.1=k'.1/\z.2.2.2.2.2.2.2.2.2.2.2.2=k'.2.2.2.2.2.2.1/\(0<=z.1/\z.1<=1000)/\OfQ k' z.1 z.2.2.2.2.2.2.2.1:=by
   intro C A G J hl S V;obtain⟨d1,d2⟩:=JDD J (MJ K) hi.2.2.one;refine .while (λz=>z.1=i/\z.2.1=A/\z.2.2.1=J0 A/\z.2.2.2.2.1=k'/\z.2.2.2.2.2.2.2.2.2.2.2.2.1=k'.1/\z.2.2.2.2.2.2.2.2.2.2.2.2.2.2.2=k'.2.2.2.2.2.2.1/\(∀d∈z.2.2.2.2.2.2.2.2.2.2.1,d.2.2=bW k'.2.2.1.2.1 d.1)/\(∀d∈C,d∈z.2.2.2.2.2.2.2.2.2.2.1)/\upw (λd=>d.1=i->d∈z.2.2.2.2.2.2.2.2.2.2.1) A z.2.2.2.1) ⟨rfl,rfl,rfl,rfl,rfl,rfl,hl,λ_ h=>h,EI⟩ ?_;rintro⟨i',ay,n,j,W,t1,t2,t3,t4,t5,D2,t6,pg,t7,t8,rw⟩ ⟨g1,g2,g3,g4,Z,Y,L,I,M⟩;dsimp only at g1 g2 g3 g4 Z Y L I M;subst g1 g2 g3 g4 Z Y;unfold MW;refine .lt (λcj=>.bind λd g=>.eq (λcd=>.bind λy9 T=>.some ⟨rfl,rfl,rfl,rfl,rfl,rfl,λx w=>?_,λx w=>?_,?_⟩) λcd=>.some ⟨rfl,rfl,rfl,rfl,rfl,rfl,L,I,AK M g λh=>absurd h cd⟩) λcj=>.some ⟨_,rfl,rfl,rfl,rfl,by dsimp only;omega,L,λq U q2 E=>?_⟩;dsimp only at w;rw[fW T]at w;rcases cK.1 w with w|w;exact L x w;simp at w;subst w;obtain⟨f,N,R,P⟩:=d1 _ (jC g);rw[P,(hi.2.2.hot f N).1,R];dsimp only;rw[fW T];exact List.mem_append_left _ (I x w);dsimp only;rw[fW T];exact AK (M.mono λx h e=>List.mem_append_left _ (h e)) g λ_=>List.mem_append_right _ (jK.2 rfl);dsimp only at q2;have al:=FN M cj;by_cases e:q=i';subst e;rcases E with E|⟨f,N,R,P⟩;obtain⟨d,a,b⟩:=V E;exact⟨d,I d a,b⟩;have rg:=hi.2.2.rng f N;obtain⟨d,a,b⟩:=d2 f N R rg.1 (by omega);exact⟨d,al d a (b.trans P),b.trans P⟩;obtain⟨d,a,b⟩:=F.2 q U (by omega) E;exact⟨d,I d (S d a),b⟩
  have fin: ∀{o:Option ((DH)⊕(tT))} {Q:((DH)⊕(tT))->Prop},Par o (λr=> ∃z,r=.inl z/\z.2.1=k'/\z.2.2.2.2.2.2.2.2.2.1=k'.1/\z.2.2.2.2.2.2.2.2.2.2.2.2=k'.2.2.2.2.2.2.1/\(0<=z.1/\z.1<=1000)/\OfQ k' z.1 z.2.2.2.2.2.2.2.1)->
   (∀z,z.2.1=k'/\z.2.2.2.2.2.2.2.2.2.1=k'.1/\z.2.2.2.2.2.2.2.2.2.2.2.2=k'.2.2.2.2.2.2.1/\(0<=z.1/\z.1<=1000)/\OfQ k' z.1 z.2.2.2.2.2.2.2.1->Q (.inl z))->Par o Q:=λh1 h2=>h1.mono λr ⟨z,hz,h⟩=>by rw[hz];exact h2 z h
  refine .lt (λG=>.bind λy4 B=>.ite (λO=>.bind λy5 H=>.bind λA J=>fin (lp G J (λd g=>?_) (λd g=>?_) λ_=>?_) λz h=>h) λO=>.bind λA J=>fin (lp G J F.1 (λd g=>g) λw=>?_) λz h=>h) λG=>.some λ_=>⟨rfl,rfl,⟨F.1,λq U q2 E=>F.2 q U (by(try dsimp only at G);omega) E⟩,K⟩;rw[fW H]at g;rcases cK.1 g with g|g;exact F.1 d g;simp at g;subst g;exact hi.2.2.lak _ ((FG B).1 O).1;rw[fW H];exact List.mem_append_left _ g;rw[fW H];exact⟨y4.1,List.mem_append_right _ (jK.2 rfl),((FG B).1 O).2⟩;obtain⟨d,a,b⟩:=w;exact absurd b ((FG B).2 O d a)
 exact a3 _ h c
theorem JJA{y:hQ}(h:BB k=some y)(c:y.2.2=0)(hi:aW mE dE pE k):aW mE dE pE y.1:=by
 have x:Par (BB k) λy=>y.2.2=0->aW mE dE pE y.1:=by
  unfold BB;refine .bind λy2 h2=>.ne (λc=>.some λh=>absurd h c) λN=>.bind λJ h3=>.gt (λ_=>.some nofun) λC=>.bind λy4 T=>.ne (λc=>.some λh=>absurd h c) λR=>.bind λw E=>.some λ_=>?_;obtain⟨M,L,⟨O,B⟩,Z⟩:=Zh h2 N hi;have cp:UO k.2.2.1.2.1 J.1:=by
   intro c' hc';rcases JLe h3 with e|⟨v,t,e⟩;rw[e]at hc';exact absurd hc' (by have:vH []=some ((0,0,[],[],[]),5):=rfl;rw[this];intro h;injection h with h;cases h);rw[e]at hc' C;obtain⟨K,H,I⟩:=Z3 v (by unfold J0 at C;omega) hc';rw[K,H,I,M,L];refine⟨List.nil_prefix,nofun,nofun,nofun,.nil,nofun,nofun,O,λp r o=>?_⟩;obtain⟨U,q2⟩:=hi.2.2.row p r o;refine⟨U,λ_ b=>?_⟩;have p0:=(cB o).1;have z:p<k.1:=by
    have:=uB (cB o).2;have G:Par (nB k) λy=>y=true->J0 k.2.2.2.2.2.2.1=k.1:=by unfold nB;exact .ge (λ_=>.le (λ_=>.ge (λ_=>.le (λ_=>.bind λ_ _=>.ite (λ_=>.bind λ_ _=>.ite (λ_=>.bind λ_ _=>.ite (λ_=>.bind λ_ _=>.ite (λ_=>.bind λ_ _=>.ite (λ_=>.eq (λc=>λ_ _ _=>c) λ_=>.some nofun) λ_=>.some nofun) λ_=>.some nofun) λ_=>.some nofun) λ_=>.some nofun) λ_=>.some nofun) λ_=>.some nofun) λ_=>.some nofun) λ_=>.some nofun) λ_=>.some nofun
    have Q:Par (Jq k) λy=>y=true->J0 k.2.2.2.2.2.2.1=k.1:=by unfold Jq;exact .bind λa Y=>.not (λ_=>.some nofun) λc=>λ_ _ _=>G _ Y c
    have:=Q _ Z rfl;omega
   by_cases F: ∃f∈k.2.2.2.1.2.1,f.1.1=p;obtain⟨f,j,n⟩:=F;cases fd:f.2.1 with
   |true=>obtain⟨d,a,e⟩:=B p p0 z (.inr ⟨f,j,fd,n⟩);exact absurd e (b d a)
   |false=>have:=(hi.2.2.hot f j).2 fd r (by rw[n];exact o);rw[n]at this;exact this
   refine q2 (λf D e=>F ⟨f,D,e⟩) λd S e=>?_;obtain⟨d',a,e'⟩:=B p p0 z (.inl ⟨d,S,e⟩);exact b d' a e'
  have q:=OJ T R hi (λh=>absurd h (by show¬((6:Int)=1\/(6:Int)=2);decide)) (λh=>absurd h (by show¬(6:Int)=7;decide)) λ_=>cp;have g:=q.inv hi (by show¬((6:Int)=1\/(6:Int)=2);decide) λh=>absurd h (by show¬(6:Int)=7;decide);by_cases A:w.2=0;obtain⟨j,n⟩:=RP E A;exact⟨n g.1,by show cQ w.1.2.1;rw[j];exact g.2.1,by show Rel mE pE w.1.2.1 _ _ _ _;rw[j];exact g.2.2⟩;obtain⟨_,e',_,_,V,W,_,P,_⟩:=q;exact absurd (cw g.1 g.2.1 (by rw[P,W,V,FT,AI];exact aU _) _ E) A
 exact x _ h c
end
section
variable {mE:List J2} {dE:Int} {pE:Int->Prop} {s:Jp}
theorem Mr{y:rE}(e:CW s=some y)(c:y.2.2=0)(hi:aX s):aX y.1:=by
 have g:Par (CW s) λy=>y.2.2=0->aX y.1:=by unfold CW;exact .bind λk h2=>.ne (λc=>.some λh=>absurd h c) λj=>.some λ_=>hi.step (JJA h2 j hi.1)
 exact g _ e c
end
end Go.Am
end
section
namespace Go.Am
set_option linter.unusedVariables false
set_option maxRecDepth 20000
set_option maxHeartbeats 1000000
section
variable {s:Jp}
abbrev TFl:=Int×Int×Int×(List J2)×Int×Int×(List aF)×Int×(List aE)×(List aE)×(List Jo)×(List aA)×(List aA)×(List (List UInt8))×Int×(List Int)×Bool×(List JS)×Bool×(List Int)×(List uN)
def krn(t:TFl):J4:=(t.1,t.2.1,(t.2.2.1,t.2.2.2.1,t.2.2.2.2.1),(t.2.2.2.2.2.1,t.2.2.2.2.2.2.1,t.2.2.2.2.2.2.2.1),(t.2.2.2.2.2.2.2.2.1,t.2.2.2.2.2.2.2.2.2.1),t.2.2.2.2.2.2.2.2.2.2.1,t.2.2.2.2.2.2.2.2.2.2.2.1,t.2.2.2.2.2.2.2.2.2.2.2.2.1)
def srv(t:TFl):Jp:=(krn t,t.2.2.2.2.2.2.2.2.2.2.2.2.2.1,t.2.2.2.2.2.2.2.2.2.2.2.2.2.2.1,t.2.2.2.2.2.2.2.2.2.2.2.2.2.2.2.1,t.2.2.2.2.2.2.2.2.2.2.2.2.2.2.2.2.1,t.2.2.2.2.2.2.2.2.2.2.2.2.2.2.2.2.2.1)
theorem aX.start{g:List J2}{e:Int}{k:J4}{dv:dX}(h:aW g e (λ_=>False) k)(hd:DvC g e dv)(hl:e<=J0 g):aX (k,dv):=by have j:=rc h.2.2.pre hl;obtain⟨h1,h2,h3⟩:=h;exact⟨⟨⟨h1.1,⟨h1.2.1.1,aU _⟩,h1.2.2⟩,h2,List.prefix_refl _,λf n=>(h3.sub f n).elim,h3.con,h3.rng,h3.one,h3.apt,h3.hot,h3.lak,h3.row⟩,hd.ext h1.2.1.2 j⟩
theorem Ku{mE:List J2}{dE:Int}{pE:Int->Prop}{k:J4}{t n m:Int}{b:List UInt8}{d:dX}{y:eM}(hi:aW mE dE pE k)(hd:DvC (eOf k) (dOf k) d)(hb:nI (k.2.2.1,t)=some b)(h:xV (d,b,n,m)=some y)(c:y.2=0):aX y.1:=by
 have r:Par (xV (d,b,n,m)) λy=>y.2=0->aX y.1:=by
  unfold xV;dsimp only;refine .bind λw h2=>.ne (λc=>.some λh=>absurd h c) λv=>.bind λL h3=>.ne (λc=>.some λh=>absurd h c) λH=>.bind λO E=>.ne (λc=>.some λh=>absurd h c) λD=>.some λ_=>?_;rcases JIz hb hi.1 hi.2.1 with e|⟨f,G,N,rest,I,F,B,C⟩;rw[e]at h2;have:xS []=some ((0,[],0),4):=rfl;rw[this]at h2;injection h2 with h2;subst h2;exact absurd v (by decide);obtain⟨i1,i2,i3,i4⟩:=hi.1;have P:(k.2.2.1.2.1.length:Int)=J0 k.2.2.1.2.1:=rfl;obtain⟨j,o,R,Q,M⟩:=JKm h2 f hi.2.1 G I F B (by omega) (by omega) C v;have J:=hi.2.1.take j;have K:J0 (k.2.2.1.2.1.take j)=j:=by unfold J0;rw[eD];omega
  have hL:gE 0 w.1:=by rw[o];exact⟨rfl,by dsimp only;omega,by dsimp only;omega,by dsimp only;omega⟩
  have q:cQ w.1.2.1:=by rw[o];exact J
  obtain⟨z,A⟩:=JDT h3 H q;have g:=JHE E D hL q (by rw[z];exact A);rw[o]at g;refine aX.start g (hd.ext (by show k.2.2.1.2.2<=(j:Int);omega) λn x=>?_) (by show(j:Int)<=J0 (k.2.2.1.2.1.take j);omega);have x:(n:Int)<=k.2.2.1.2.2:=x;rw[List.take_take,Nat.min_eq_left (by omega)]
 exact r _ h c
theorem JDS{t id w:Int}{y:dX×List UInt8}(h:BW (s,t,id,w)=some y)(hs:aX s): ∃k,aW (eOf s.1) (dOf s.1) (GG (eOf s.1) (dOf s.1) s.2) k/\DvC (eOf k) (dOf k) y.1/\ ∃t,nI (k.2.2.1,t)=some y.2:=by
 have I:Par (BW (s,t,id,w)) λy=> ∃k,aW (eOf s.1) (dOf s.1) (GG (eOf s.1) (dOf s.1) s.2) k/\DvC (eOf k) (dOf k) y.1/\ ∃t,nI (k.2.2.1,t)=some y.2:=by
  unfold BW;refine .bind λY h2=>.ge (λ_=>.bind λ_ _=>.ite (λ_=>.bind λV A=>.bind λx K=>.bind λg z=>.bind λo q=>.bind λy8 S=>.eq (λO=>.bind λB n=>.some ⟨o,hs.1.force q,?_,_,n⟩) λ_=>.bind λB n=>.some ⟨o,hs.1.force q,(hs.step (hs.1.force q)).2,_,n⟩) λ_=>.bind λB n=>.some ⟨s.1,hs.1,hs.2,_,n⟩) λ_=>.bind λB n=>.some ⟨s.1,hs.1,hs.2,_,n⟩;have j:=hs.step (hs.1.force q);have N:g=V:=by rw[A]at z;injection z with z;exact z.symm
  subst N;have L:=jC A;obtain⟨f0,G⟩:=(QO h2).1 (cB A).1;have v:g.1.1=id:=by have:=G.1;rw[show idx s.1.2.2.2.1.2.1 Y=some g from A]at this;injection this with this;rw[this];exact G.2
  have hot:=(hs.1.2.2.hot g L).1;obtain⟨w1,w2,w3,M⟩:=FH (dE:=dOf s.1) q;have J:g.1.2.1<=dOf o:=YG q hs.1.1 hs.1.2.1 (by rw[hot];exact(AN hs.1.2.1 _).2);obtain⟨R,t2,C,Z,H,t5,P⟩:=Zn S O;have U:x.2=0:=(rd K).resolve_right λe=>by rw[e]at C;cases C
  have en:eV g.1=some (x.1,0):=by rw[show eV g.1=some x from K];exact congrArg some (Prod.ext rfl U)
  have r:g∈o.2.2.2.1.2.1:=by rw[M];exact L
  have con:=j.1.2.2.con g r;have lst:=(j.1.2.2.hot g r).1;obtain⟨Q,b0,F,D⟩:=j.1.2.2.sub g r;rw[v]at Q F D;have T:H=b0:=by rw[show s.2.1[id.toNat]?=some H from t5]at F;injection F
  subst T;have W:=torn (E:=eOf o) (d:=dOf o) w.toNat en v J (by rw[lst,<-v,MG j.1.2.1];exact con) D j.1.1.2.1.1;exact j.2.set R (by rw[dS,eD,rA,D.len,show x.1.length=256 by unfold J0 at C;omega];omega) W P (Z.trans j.2.1)
 exact I _ h
variable {x:qL} {t:TFl}
theorem KQ{e:Int}{y:eH×TFl}(h:qU (s,e,t)=some y)(hi:aX (srv t))(hs:e=0->aX s):aX (srv y.2):=by
 have g:Par (qU (s,e,t)) λy=>aX (srv y.2):=by unfold qU;exact .eq (λc=>.bind λ_ _=>.some (hs c)) λ_=>.bind λ_ _=>.some hi
 exact g _ h
theorem JKW{y:eH×TFl}(h:CZ (x,t)=some y)(hi:aX (srv t)):aX (srv y.2):=by
 have g:Par (CZ (x,t)) λy=>aX (srv y.2):=by unfold CZ;exact .ltf (λ_=>.gtf (λ_=>.bind λ_ _=>.bind λ_ _=>.eq (λ_=>.bind λ_ _=>.some hi) λ_=>.bind λ_ _=>.bind λ_ _=>.bind λj e=>.eq (λ_=>.some hi) λ_=>.eq (λ_=>.eq (λ_=>.bind λ_ _=>.bind λ_ _=>.some (YC e hi)) λ_=>.some (YC e hi)) λ_=>.some (YC e hi)) λ_=>.bind λ_ _=>.some hi) λ_=>.bind λ_ _=>.some hi
 exact g _ h
theorem JHz{y:eH×TFl}(h:CV (x,t)=some y)(hi:aX (srv t)):aX (srv y.2):=by
 have n:Par (CV (x,t)) λy=>aX (srv y.2):=by
  unfold CV;refine .bind λe h2=>.bind λj h3=>?_;obtain⟨k,B,w,t',A⟩:=JDS h2 hi;have E:j.2=0->aX j.1:=by unfold ND at h3;have v:Par ((xV (e.1,e.2,t.1,t.2.2.2.2.2.1)).bind λe=>some (e.1,e.2)) λy=>y.2=0->aX y.1:=.bind λF C=>.some λc=>Ku B w A C c;exact v _ h3
  refine .while (λz=>z.1=j.2/\z.2.2.2.2.2.2.2.2.2.2.2.2.2.2.2.2.2.2.2.2.2.2.2.2.2.2=j.1/\aX ((z.2.2.1,z.2.2.2.1,(z.2.2.2.2.1,z.2.2.2.2.2.1,z.2.2.2.2.2.2.1),(z.2.2.2.2.2.2.2.1,z.2.2.2.2.2.2.2.2.1,z.2.2.2.2.2.2.2.2.2.1),(z.2.2.2.2.2.2.2.2.2.2.1,z.2.2.2.2.2.2.2.2.2.2.2.1),z.2.2.2.2.2.2.2.2.2.2.2.2.1,z.2.2.2.2.2.2.2.2.2.2.2.2.2.1,z.2.2.2.2.2.2.2.2.2.2.2.2.2.2.1),z.2.2.2.2.2.2.2.2.2.2.2.2.2.2.2.1,z.2.2.2.2.2.2.2.2.2.2.2.2.2.2.2.2.1,z.2.2.2.2.2.2.2.2.2.2.2.2.2.2.2.2.2.1,z.2.2.2.2.2.2.2.2.2.2.2.2.2.2.2.2.2.2.1,z.2.2.2.2.2.2.2.2.2.2.2.2.2.2.2.2.2.2.2.1)) ⟨rfl,rfl,hi⟩ λz D=>?_;obtain⟨q,o,r⟩:=D;unfold og;refine .lt (λ_=>.bind λ_ _=>.bind λ_ _=>.some ⟨q,o,r⟩) λ_=>.map (.ne (λ_=>.bind λ_ _=>.some r) λc=>.bind λ_ _=>.some ?_);have g:=E (by rw[<-q];exact c);rw[<-o]at g;exact g
 exact n _ h
theorem JJn{y:eH×TFl}(h:CU (x,t)=some y)(hi:aX (srv t)):aX (srv y.2):=by
 have A:Par (CU (x,t)) λy=>aX (srv y.2):=(by unfold CU;refine .eq (λ_=>.bind λH h2=>.eq (λ_=>.bind λB _=>.bind λn o=>.some ?_) λ_=>.bind λn o=>.some (show aX (srv n.2)from KQ o hi λc=>uj h2 c hi)) λ_=>.eq (λ_=>.bind λG D=>.some (JKW D hi)) λ_=>.eq (λ_=>.bind λq e=>.bind λz j=>.some (KQ j hi λc=>JEn e c hi)) λ_=>.eq (λ_=>.bind λq e=>.bind λz j=>.some (KQ j hi λc=>Mr e c hi)) λ_=>.eq (λ_=>.bind λ_ _=>.bind λk v=>.eq (λc=>.bind λ_ _=>.some ?_) λ_=>.bind λ_ _=>.some hi) λ_=>.eq (λ_=>.bind λF w=>.some (JHz w hi)) λ_=>.eq (λ_=>.bind λq e=>.bind λz j=>.some (KQ j hi λc=>JJS e c hi)) λ_=>.bind λ_ _=>.some hi;show aX (srv n.2);exact KQ (t:=(_,_,_,_,_,_,_,_,_,_,_,_,_,_,_,_,_,_,_,B,_)) o hi λc=>uj h2 c hi;obtain⟨r,C⟩:=RP v c;have g:=hi.1;have E:aW (eOf (krn t)) (dOf (krn t)) (GG (eOf (krn t)) (dOf (krn t)) (srv t).2) (t.1,t.2.1,k.1,(krn t).2.2.2):=⟨C g.1,by show cQ k.1.2.1;rw[r];exact g.2.1,by show Rel _ _ k.1.2.1 _ _ _ _;rw[r];exact g.2.2⟩;exact hi.step E);exact A _ h
theorem JLJ{l:List qL}{y:Jp×(List eH)×List uN}(h:AT (s,l)=some y)(hi:aX s):aX y.1:=by
 have g:Par (AT (s,l)) λy=>aX y.1:=by unfold AT;refine .while (λz=>aX ((z.2.2.2.2.2.2.1,z.2.2.2.2.2.2.2.1,(z.2.2.2.2.2.2.2.2.1,z.2.2.2.2.2.2.2.2.2.1,z.2.2.2.2.2.2.2.2.2.2.1),(z.2.2.2.2.2.2.2.2.2.2.2.1,z.2.2.2.2.2.2.2.2.2.2.2.2.1,z.2.2.2.2.2.2.2.2.2.2.2.2.2.1),(z.2.2.2.2.2.2.2.2.2.2.2.2.2.2.1,z.2.2.2.2.2.2.2.2.2.2.2.2.2.2.2.1),z.2.2.2.2.2.2.2.2.2.2.2.2.2.2.2.2.1,z.2.2.2.2.2.2.2.2.2.2.2.2.2.2.2.2.2.1,z.2.2.2.2.2.2.2.2.2.2.2.2.2.2.2.2.2.2.1),z.2.2.2.2.2.2.2.2.2.2.2.2.2.2.2.2.2.2.2.1,z.2.2.2.2.2.2.2.2.2.2.2.2.2.2.2.2.2.2.2.2.1,z.2.2.2.2.2.2.2.2.2.2.2.2.2.2.2.2.2.2.2.2.2.1,z.2.2.2.2.2.2.2.2.2.2.2.2.2.2.2.2.2.2.2.2.2.2.1,z.2.2.2.2.2.2.2.2.2.2.2.2.2.2.2.2.2.2.2.2.2.2.2.1)) (by exact hi) λz e=>?_;unfold ji;exact .lt (λ_=>.lt (λ_=>.not (λ_=>.bind λ_ _=>.bind λk j=>.bind λ_ _=>.some (JJn j e)) λ_=>.some e) λ_=>.some e) λ_=>.some e
 exact g _ h
theorem JI3{p f:Int}{y:eM}(h:uU (p,f)=some y)(c:y.2=0):aX y.1:=by
 have k:Par (xQ (p,f)) λy=>y.2=0->aW [] 0 (λ_=>False) y.1:=by
  unfold xQ;refine .ltf (λ_=>.gtf (λ_=>.ltf (λ_=>.gt (λ_=>.some nofun) λ_=>.bind λn h2=>.bind λg h3=>.some λ_=>⟨⟨rfl,⟨aU _,aU _⟩,Jc,show(0:Int)<=4096 by decide⟩,λi e h=>by simp at h,?_⟩) λ_=>.some nofun) λ_=>.some nofun) λ_=>.some nofun;have w:Par (uT f) λy=>y.1.2.1=[]:=by unfold uT;exact .ltf (λ_=>.gt (λ_=>.some rfl) λ_=>.some rfl) λ_=>.some rfl
  show Rel [] (λ_=>False) [] p n.1.2.1 [] g.1;rw[w _ h2];refine⟨List.nil_prefix,nofun,nofun,nofun,.nil,nofun,nofun,nofun,λp r A=>?_⟩;have z:r.1=0:=E6 h3 r (jC A);rw[z];exact⟨aU _,λ_ _=>rfl⟩
 have j:Par (uU (p,f)) λy=>y.2=0->aX y.1:=by unfold uU;refine .bind λn h2=>.ne (λc=>.some λh=>absurd h c) λv=>.bind λg h3=>.ne (λc=>.some λh=>absurd h c) λB=>.some λ_=>?_;obtain⟨q,o⟩:=JLf h3 B;exact aX.start (k _ h2 v) ⟨q,λi b x=>by rw[o i b x];exact⟨zD,.inl (.inl rfl)⟩⟩ Jc
 exact j _ h c
end
end Go.Am
end
section
namespace Go.Am
set_option linter.unusedVariables false
set_option maxRecDepth 20000
set_option maxHeartbeats 1000000
section
variable {mE:List J2} {dE:Int} {pE:Int->Prop} {B S:Int}
theorem JKp{p f:Int}(h1:1<=p)(h2:p<=64)(h3:1<=f)(h4:f<=64):Par (uU (p,f)) λy=>y.2=0:=by
 have e:Par (xQ (p,f)) λy=>y.2=0:=by unfold xQ;exact .ltf (λ_=>.gtf (λ_=>.ltf (λ_=>.gt (λc=>by dsimp only at c;omega) λ_=>.bind λj h2=>.bind λg h3=>.some rfl) λc=>by dsimp only at c;omega) λc=>by dsimp only at c;omega) λc=>by dsimp only at c;omega
 have h:Par (uV p) λy=>y.2=0:=by unfold uV;exact .ltf (λ_=>.gt (λc=>by omega) λ_=>.bind λ_ _=>.some rfl) λc=>by omega
 unfold uU;exact .bind λj h2=>.ne (λc=>absurd (e _ h2) c) λk=>.bind λg h3=>.ne (λc=>absurd (h _ h3) c) λ_=>.some rfl
theorem JDv{c:JO}{n:Int}{b:Bool}{y:Jp×JO}(hf:Ty.fit 16384 1073741824 Ja c)(h0:0<=c.2)(h:CS (n,b,c)=some y):aX y.1:=by
 have o:Par (CS (n,b,c)) λy=>aX y.1:=by unfold CS;refine .bind λg h2=>.bind λk h3=>.bind λE q=>.bind λA F=>.bind λC r=>.some ?_;have e:=(Js (B:=16384) (S:=1073741824) (X:=(4,c)) ⟨fA .i64 4,hf⟩ h0).get h2;have j:=(Js (B:=16384) (S:=1073741824) (X:=(3,g.2)) ⟨fA .i64 3,e.1.2⟩ e.2.2.2).get h3;have x:=e.2.2.1 (show(1:Int)<=4 by decide);have w:=j.2.2.1 (show(1:Int)<=3 by decide);have b2:=e.2.1;have b3:=j.2.1;have z:=Ji 1 g.1;have D:=Ji 1 k.1;have v:=JKp (p:=J1 .i64 1 g.1) (f:=J1 .i64 1 k.1) (by omega) (by dsimp only at x;omega) (by omega) (by dsimp only at w;omega) _ q;exact JLJ r (JI3 q v)
 exact o _ h
theorem JGr{c:JO}{n:Int}{b:Bool}{y:J4×JO}(hf:Ty.fit 16384 1073741824 Ja c)(h0:0<=c.2)(h:CY (n,b,c)=some y):aW [] 0 (λ_=>True) y.1:=by
 have j:Par (CY (n,b,c)) λy=>aW [] 0 (λ_=>True) y.1:=by unfold CY;refine .bind λo h2=>.some ?_;obtain⟨g,k,e⟩:=(JDv hf h0 h2).1;exact⟨⟨g.1,⟨g.2.1.1,g.2.1.1⟩,g.2.2⟩,k,List.nil_prefix,λ_ _=>trivial,e.con,e.rng,e.one,e.apt,e.hot,e.lak,e.row⟩
 exact j _ h
end
end Go.Am
end
section
namespace Go.Am
theorem sf{α:Type}{n:Nat}: ∀{l m:List (List α)},(∀x∈l,x.length=n)->(∀x∈m,x.length=n)->l.length=m.length->l.flatten=m.flatten->l=m|[],[],_,_,_,_=>rfl|[],_::_,_,_,h,_=>by simp at h|_::_,[],_,_,h,_=>by simp at h|x::l,y::m,k,j,h,e=>by simp only[kR]at e;have h1:=k x List.mem_cons_self;have h2:=j y List.mem_cons_self;obtain⟨o,q⟩:=List.append_inj e (by omega);subst o;rw[sf (λz g=>k z (yQ _ g)) (λz g=>j z (yQ _ g)) (by simpa using h) q]
theorem ey{α β:Type}{f:α->β}(hf: ∀x y,f x=f y->x=y): ∀{l m:List α},l.map f=m.map f->l=m|[],[],_=>rfl|[],_::_,h=>by simp at h|_::_,[],h=>by simp at h|x::l,y::m,h=>by simp only[bP,List.cons.injEq]at h;rw[hf _ _ h.1,ey hf h.2]
theorem LX: ∀(t:Ty) (x y:t.D),cel t x=cel t y->x=y| .b,x,y,h=>by grind [cel]| .i k,x,y,h=>by grind [cel]| .s,x,y,h=>by grind [cel]| .l t,x,y,h=>by simp only[cel,List.cons.injEq,PV.sl.injEq,and_true,true_and]at h;exact ey (LX t) h| .pr a c,x,y,h=>by simp only[cel]at h;obtain⟨e,g⟩:=List.append_inj h (by simp[eP]);exact Prod.ext (LX a _ _ e) (LX c _ _ g)| .ar n t,x,y,h=>by have h2:(x.toList.map (cel t)).flatten=(y.toList.map (cel t)).flatten:=h;have h3:=sf (n:=t.sz) (λz j=>by grind [eP]) (λz j=>by grind [eP]) (by simp) h2;exact Vector.toList_inj.1 (ey (LX t) h3)| .u,_,_,_=>rfl| .f,_,_,_=>rfl
open Classical in
noncomputable def unc(t:Ty)(cs:List PV):Option t.D:=if h: ∃x:t.D,cel t x=cs then some (Classical.choose h)else none
theorem JJP(t:Ty)(x:t.D):unc t (cel t x)=some x:=by
 unfold unc;have h: ∃z:t.D,cel t z=cel t x:=⟨x,rfl⟩;grind [LX]
theorem JEX{t:Ty}{cs:List PV}{x:t.D}(h:unc t cs=some x):cel t x=cs:=by
 unfold unc at h;split at h
 all_goals grind
end Go.Am
end
section
namespace Go.Am
noncomputable def pgP(g e:Ty)(S:g.D×Int×Int×Int->Option (List e.D×Int)):Prm|[.data cs,.p (.i .i64 a),.p (.i .i64 b),.p (.i .i64 c)],blks=>(unc g cs).bind λx=>(S (x,a,b,c)).map λy=>(.tup [.p (.sl e.sz (y.1.map (cel e))),.p (.i .i64 y.2)],blks)|_,_=>none
theorem JIL{e g:Ty}{S:e.D×Int×Int×Int->Option (List g.D×Int)}(x:e.D)(a b c:Int)(blks:List Blk):
  pgP e g S [.data (cel e x),.p (.i .i64 a),.p (.i .i64 b),.p (.i .i64 c)] blks=(S (x,a,b,c)).map λy=>(.tup [.p (.sl g.sz (y.1.map (cel g))),.p (.i .i64 y.2)],blks):=by
 show(unc e (cel e x)).bind _=_;simp[JJP]
theorem JJq{P:Program}{f:FuncId}{g e:Ty}{S:g.D×Int×Int×Int->Option (List e.D×Int)}
  (hw: ∀x a b c y blks,S (x,a,b,c)=some y->J61 P f [.data (cel g x),.p (.i .i64 a),.p (.i .i64 b),.p (.i .i64 c)] blks (.tup [.p (.sl e.sz (y.1.map (cel e))),.p (.i .i64 y.2)],blks)) (args:List AV) (blks:List Blk) (r:Res)
  (h:pgP g e S args blks=some r):J61 P f args blks r:=by
 unfold pgP at h;split at h;obtain⟨x,k,h⟩:=cR.1 h;obtain⟨y,j,rfl⟩:=gM.1 h;rw[<-JEX k];exact hw x _ _ _ y _ j;cases h
def gPg(g e:Ty):Sig:=⟨[.dt g,.c (.d (.i .i64)),.c (.d (.i .i64)),.c (.d (.i .i64))],[],[g,.i .i64,.i .i64,.i .i64],.tup [.c (.d (.l e)),.c (.d (.i .i64))],[],[],[.l e,.i .i64]⟩
theorem Z2(e g:Ty)(x:e.D×Int×Int×Int):nT (gPg e g) x=some ([.dt e x.1,.c (.d (.i .i64) x.2.1),.c (.d (.i .i64) x.2.2.1),.c (.d (.i .i64) x.2.2.2)],[]):=by
 have h: ∀r,lf1 e (⟨e,x.1⟩::r)=some (x.1,r):=JGg e x.1;show(match mkL mkA [.dt e,.c (.d (.i .i64)),.c (.d (.i .i64)),.c (.d (.i .i64))] [(⟨e,x.1⟩:Lf),⟨.i .i64,x.2.1⟩,⟨.i .i64,x.2.2.1⟩,⟨.i .i64,x.2.2.2⟩]with
  |some (xs,l)=>match mkL mkB (gPg e g).blks l with|some (bl,[])=>some (xs,bl)|_=>none
  |none=>none)=_
 simp only[mkL,mkA,mkC,h];rfl
theorem JIO{T:eO}{f:FuncId}{g e:Ty}{S:g.D×Int×Int×Int->Option (List e.D×Int)}(hf:T f=some (.prim (pgP g e S))):EOk (AF T) (aG f (gPg g e) S):=by
 refine LB rfl λx xs bl y h j=>?_;rw[Z2 g e x]at h;injection h with h;injection h with h1 h2;subst h1 h2;refine⟨.tup [.c (.d (.l e) y.1),.c (.d (.i .i64) y.2)],[],?_,?_⟩;rw[YU hf];refine(JIL x.1 x.2.1 x.2.2.1 x.2.2.2 []).trans ?_;rw[show S (x.1,x.2.1,x.2.2.1,x.2.2.2)=some y from j];rfl;show(if(ShV.tup [.c (.d (.l e)),.c (.d (.i .i64))]=(gPg g e).res/\([]:List ShB)=(gPg g e).out)then asL [.l e,.i .i64] [⟨.l e,y.1⟩,⟨.i .i64,y.2⟩]else none)=some y;rw[if_pos ⟨rfl,rfl⟩];simp[asL,DV];rfl
end Go.Am
end
section
namespace Go.Am
set_option linter.unusedVariables false
set_option maxRecDepth 20000
set_option maxHeartbeats 1000000
theorem i1(c x:Bool):(if c=true then some x else some false)=some (c&&x):=by cases c<;>rfl
theorem i2(c x:Bool):(if c=false then some x else some false)=some (!c&&x):=by cases c<;>rfl
theorem i3(c x:Bool):(if c=true then some false else some x)=some (!c&&x):=by cases c<;>rfl
theorem i4{α:Type}(c x:Bool)(E:α):(if c=true then some (E,x)else some (E,false))=some (E,c&&x):=by cases c<;>rfl
theorem pl(c:JY):XF c=hM c:=rfl
theorem px(c:JY): ∃b,hM c=some b:=by unfold hM;split<;>(try split)<;>exact⟨_,rfl⟩
theorem ue(c:aL): ∃b,GS c=some b/\kG c=some b:=by obtain⟨b1,e⟩:=px c.2.2.1;obtain⟨b2,h⟩:=px c.2.2.2;unfold GS jm kG;rw[pl,pl,e,h];simp only[JI];by_cases h1:aR c.1 0=true<;>by_cases h2:aM c.1 64=true<;>by_cases h3:aR c.2.1 0=true<;>by_cases g:aM c.2.1 16=true<;>cases b1<;>simp[h1,h2,h3,g]
theorem ve{x:JQ}(e:mG x=some true):0<=x.1/\x.1<x.2:=by
 unfold mG at e;split at e;injection e with e;rename_i h;exact⟨oO.1 h,fU.1 e⟩;cases e
theorem ga(x:JQ): ∃b,mG x=some b:=by unfold mG;split<;>exact⟨_,rfl⟩
theorem JIh(c:aL): ∃z,BN c=some z/\(z=true↔c=(0,0,(false,[]),false,[])):=⟨_,rfl,eB (t:=eQ)⟩
theorem Z9(c:aL): ∃z,NR c=some z/\(z=true↔c=(c.1,0,(false,[]),false,[])/\0<=c.1/\c.1<64):=by
 have e:Tot (NR c) λz=>(z=true↔c=(c.1,0,(false,[]),false,[])/\0<=c.1/\c.1<64):=by unfold NR;exact .ite (λh=>.ge (λg=>.some ⟨λk=>⟨(eB (t:=eQ)).1 h,g,fU.1 k⟩,λk=>fU.2 k.2.2⟩) λg=>.some ⟨nofun,λk=>absurd k.2.1 g⟩) λh=>.some ⟨nofun,λk=>(Bool.false_ne_true (h.symm.trans ((eB (t:=eQ)).2 k.1))).elim⟩
 exact e
theorem De(e:J2):NJ e=Jm e:=by
 obtain⟨l,k,t,q,v,r,c,bl⟩:=e;obtain⟨T,x,A⟩:=ue c;obtain⟨b1,w⟩:=ga (q,l);obtain⟨b2,M⟩:=ga (v,l);obtain⟨b3,I⟩:=ga (r,l);have N:BZ (q,l,k,t,q,v,r,c,bl)=some b1:=w;have O:BZ (v,l,k,t,q,v,r,c,bl)=some b2:=M;have P:BZ (r,l,k,t,q,v,r,c,bl)=some b3:=I;have S: ∀b:Bool,Jn b= !b:=λ_=>rfl;unfold NJ Jm qQ;dsimp only;rw[N,O,P,w,M,I,x,A];have j: ∀a b:J2,(eqT J7 a b=true)=(a=b):=λa b=>propext (eB (t:=J7));have g: ∀a b:aL,(eqT eQ a b=true)=(a=b):=λa b=>propext (eB (t:=eQ));have U:b1=true->0<=q/\q<l:=λh=>by subst h;exact ve w
 have L:k=1\/k=2\/k=3\/k=4\/k=5\/k=6\/k=7\/k=8\/k<1\/8<k:=by omega
 clear w M I N O P x A;have V:J0 ([]:List UInt8)=0:=rfl;obtain⟨z,n,R⟩:=JIh c;obtain⟨y,o,Q⟩:=Z9 c;rcases L with rfl|rfl|rfl|rfl|rfl|rfl|rfl|rfl|L|L;simp only[show aM 1 1=false from rfl,show aP 1 8=false from rfl,show aK 1 8=false from rfl,show aK 1 7=false from rfl,show aK 1 6=false from rfl,show aK 1 5=false from rfl,show aK 1 4=false from rfl,show aK 1 3=false from rfl,show aK 1 2=false from rfl,show aK 1 1=true from rfl,if_true,if_false,eL,reduceCtorEq,JI,kL,tC,n,o,i1,i2,i3,i4]
 congr 1
 rw[Bool.eq_iff_iff];simp only[JZ,mR,j,g];simp only[aM,aP,aR,bJ,aO,aK,Jn,neS,decide_eq_true_eq,decide_eq_false_iff_not,Prod.mk.injEq,Bool.not_eq_false',Decidable.not_not,true_and,and_true];grind;simp only[show aM 2 1=false from rfl,show aP 2 8=false from rfl,show aK 2 8=false from rfl,show aK 2 7=false from rfl,show aK 2 6=false from rfl,show aK 2 5=false from rfl,show aK 2 4=false from rfl,show aK 2 3=false from rfl,show aK 2 2=true from rfl,show aK 2 1=false from rfl,if_true,if_false,eL,reduceCtorEq,JI,kL,tC,n,o,i1,i2,i3,i4]
 congr 1
 rw[Bool.eq_iff_iff];simp only[JZ,mR,j,g];simp only[aM,aP,aR,bJ,aO,aK,Jn,neS,decide_eq_true_eq,decide_eq_false_iff_not,Prod.mk.injEq,Bool.not_eq_false',Decidable.not_not,true_and,and_true];grind;simp only[show aM 3 1=false from rfl,show aP 3 8=false from rfl,show aK 3 8=false from rfl,show aK 3 7=false from rfl,show aK 3 6=false from rfl,show aK 3 5=false from rfl,show aK 3 4=false from rfl,show aK 3 3=true from rfl,show aK 3 2=false from rfl,show aK 3 1=false from rfl,if_true,if_false,eL,reduceCtorEq,JI,kL,tC,n,o,i1,i2,i3,i4]
 congr 1
 rw[Bool.eq_iff_iff];simp only[JZ,mR,j,g];simp only[aM,aP,aR,bJ,aO,aK,Jn,neS,decide_eq_true_eq,decide_eq_false_iff_not,Prod.mk.injEq,Bool.not_eq_false',Decidable.not_not,true_and,and_true];grind;simp only[show aM 4 1=false from rfl,show aP 4 8=false from rfl,show aK 4 8=false from rfl,show aK 4 7=false from rfl,show aK 4 6=false from rfl,show aK 4 5=false from rfl,show aK 4 4=true from rfl,show aK 4 3=false from rfl,show aK 4 2=false from rfl,show aK 4 1=false from rfl,if_true,if_false,eL,reduceCtorEq,JI,kL,tC,n,o,i1,i2,i3,i4]
 congr 1
 rw[Bool.eq_iff_iff];simp only[JZ,mR,j,g];simp only[aM,aP,aR,bJ,aO,aK,Jn,neS,decide_eq_true_eq,decide_eq_false_iff_not,Prod.mk.injEq,Bool.not_eq_false',Decidable.not_not,true_and,and_true];grind;simp only[show aM 5 1=false from rfl,show aP 5 8=false from rfl,show aK 5 8=false from rfl,show aK 5 7=false from rfl,show aK 5 6=false from rfl,show aK 5 5=true from rfl,show aK 5 4=false from rfl,show aK 5 3=false from rfl,show aK 5 2=false from rfl,show aK 5 1=false from rfl,if_true,if_false,eL,reduceCtorEq,JI,kL,tC,n,o,i1,i2,i3,i4]
 congr 1
 rw[Bool.eq_iff_iff];simp only[JZ,mR,j,g];simp only[aM,aP,aR,bJ,aO,aK,Jn,neS,decide_eq_true_eq,decide_eq_false_iff_not,Prod.mk.injEq,Bool.not_eq_false',Decidable.not_not,true_and,and_true];grind;simp only[show aM 6 1=false from rfl,show aP 6 8=false from rfl,show aK 6 8=false from rfl,show aK 6 7=false from rfl,show aK 6 6=true from rfl,show aK 6 5=false from rfl,show aK 6 4=false from rfl,show aK 6 3=false from rfl,show aK 6 2=false from rfl,show aK 6 1=false from rfl,if_true,if_false,eL,reduceCtorEq,JI,kL,tC,n,o,i1,i2,i3,i4]
 congr 1
 rw[Bool.eq_iff_iff];simp only[JZ,mR,j,g];simp only[aM,aP,aR,bJ,aO,aK,Jn,neS,decide_eq_true_eq,decide_eq_false_iff_not,Prod.mk.injEq,Bool.not_eq_false',Decidable.not_not,true_and,and_true];grind;simp only[show aM 7 1=false from rfl,show aP 7 8=false from rfl,show aK 7 8=false from rfl,show aK 7 7=true from rfl,show aK 7 6=false from rfl,show aK 7 5=false from rfl,show aK 7 4=false from rfl,show aK 7 3=false from rfl,show aK 7 2=false from rfl,show aK 7 1=false from rfl,if_true,if_false,eL,reduceCtorEq,JI,kL,tC,n,o,i1,i2,i3,i4]
 congr 1
 rw[Bool.eq_iff_iff];simp only[JZ,mR,j,g];simp only[aM,aP,aR,bJ,aO,aK,Jn,neS,decide_eq_true_eq,decide_eq_false_iff_not,Prod.mk.injEq,Bool.not_eq_false',Decidable.not_not,true_and,and_true];grind;simp only[show aM 8 1=false from rfl,show aP 8 8=false from rfl,show aK 8 8=true from rfl,show aK 8 7=false from rfl,show aK 8 6=false from rfl,show aK 8 5=false from rfl,show aK 8 4=false from rfl,show aK 8 3=false from rfl,show aK 8 2=false from rfl,show aK 8 1=false from rfl,if_true,if_false,eL,reduceCtorEq,JI,kL,tC,n,o,i1,i2,i3,i4]
 congr 1
 rw[Bool.eq_iff_iff];simp only[JZ,mR,j,g];simp only[aM,aP,aR,bJ,aO,aK,Jn,neS,decide_eq_true_eq,decide_eq_false_iff_not,Prod.mk.injEq,Bool.not_eq_false',Decidable.not_not,true_and,and_true];grind;have J:aK k 1=false:=by simp[aK];omega
 have K:aK k 2=false:=by simp[aK];omega
 have C:aK k 3=false:=by simp[aK];omega
 have D:aK k 4=false:=by simp[aK];omega
 have B:aK k 5=false:=by simp[aK];omega
 have F:aK k 6=false:=by simp[aK];omega
 have G:aK k 7=false:=by simp[aK];omega
 have H:aK k 8=false:=by simp[aK];omega
 have E:aM k 1=true:=by simp[aM];omega
 simp only[J,K,C,D,B,F,G,H,E,if_true,if_false,eL,reduceCtorEq,JI,i1,i2,i3,i4];simp;have J:aK k 1=false:=by simp[aK];omega
 have K:aK k 2=false:=by simp[aK];omega
 have C:aK k 3=false:=by simp[aK];omega
 have D:aK k 4=false:=by simp[aK];omega
 have B:aK k 5=false:=by simp[aK];omega
 have F:aK k 6=false:=by simp[aK];omega
 have G:aK k 7=false:=by simp[aK];omega
 have H:aK k 8=false:=by simp[aK];omega
 have E:aP k 8=true:=by simp[aP];omega
 simp only[J,K,C,D,B,F,G,H,E,if_true,if_false,eL,reduceCtorEq,JI,i1,i2,i3,i4];simp
end Go.Am
end
section
namespace Go.Am
set_option linter.unusedVariables false
set_option maxRecDepth 20000
set_option maxHeartbeats 1000000
theorem fu{σ τ ρ:Type}{f:σ->Option (σ⊕ρ)}{g:τ->Option (τ⊕ρ)}(R:σ->τ->Prop)
  (h: ∀s t,R s t->(f s=none/\g t=none)\/(∃r,f s=some (.inr r)/\g t=some (.inr r))\/ ∃s' t',f s=some (.inl s')/\g t=some (.inl t')/\R s' t'):
  ∀(n:Nat) s t,R s t->cN f n s=cN g n t
 |0,s,t,_=>rfl
 |n+1,s,t,hR=>by
  rcases h s t hR with⟨h1,h2⟩|⟨r,h1,h2⟩|⟨s',t',h1,h2,h3⟩;simp only[cN,h1,h2];simp only[cN,h1,h2];simp only[cN,h1,h2];exact fu R h n s' t' h3
theorem tj{σ τ ρ:Type}{f:σ->Option (σ⊕ρ)}{g:τ->Option (τ⊕ρ)}(R:σ->τ->Prop)
  (h: ∀s t,R s t->(f s=none/\g t=none)\/(∃r,f s=some (.inr r)/\g t=some (.inr r))\/ ∃s' t',f s=some (.inl s')/\g t=some (.inl t')/\R s' t') {s:σ} {t:τ} (hR:R s t):
  Jd f s=Jd g t:=by
 apply Option.ext;intro r;rw[gP,gP];constructor;rintro⟨n,e⟩;exact⟨n,by rw[<-fu R h n s t hR];exact e⟩;rintro⟨n,e⟩;exact⟨n,by rw[fu R h n s t hR];exact e⟩
theorem E5(l:aD):yC l=Jw l:=by
 have e:Jd od (l.2.1,J0 l.2.1,0,l)=Jd yB (0,l):=by
  refine tj (λs t=>s=(l.2.1,J0 l.2.1,t.1,l)/\t.2=l) ?_ ⟨rfl,rfl⟩;rintro s ⟨i,l'⟩ ⟨rfl,rfl⟩;unfold od yB;dsimp only;by_cases h1:aM i (J0 l'.2.1)=true;rw[if_pos h1,if_pos h1];cases h2:idx l'.2.1 i with
  |none=>exact .inl ⟨rfl,rfl⟩
  |some y=>
   simp only[JI,De];by_cases h3:aO y.1 (J1 .i64 l'.1 i)=false;rw[if_pos h3,if_pos h3];cases h4:Jm y with
   |none=>exact .inl ⟨rfl,rfl⟩
   |some b=>
    cases b with
    |false=>exact .inr (.inl ⟨_,rfl,rfl⟩)
    |true=>exact .inr (.inr ⟨_,_,rfl,rfl,rfl,rfl⟩)
   rw[if_neg h3,if_neg h3];exact .inr (.inl ⟨_,rfl,rfl⟩)
  rw[if_neg h1,if_neg h1];exact .inr (.inl ⟨_,rfl,rfl⟩)
 unfold yC Jw;rw[show jd l=jD l from rfl,e]
theorem JIB(x:VB):WF x=lI x:=by obtain⟨b,h1,h2⟩:=ue x.2;unfold WF lI;rw[h1,h2]
theorem JFl(p:Je):sI p=gL p:=by
 unfold sI gL;refine tj (λs t=>s=(p.2.2,t.1,p)/\t.2=p/\0<=t.1) ?_ ⟨rfl,rfl,aU _⟩;rintro s ⟨i,j⟩ ⟨rfl,rfl,h0⟩;unfold jb GW
 (try dsimp only at h0⊢)
 by_cases h1:aM i 16=true;rw[if_pos h1,if_pos h1];have hi:=fU.1 h1;have r:i.toNat<16:=by omega
 have A:qY j.2.2 i=some j.2.2[i.toNat]:=by unfold qY;rw[if_pos ⟨h0,hi⟩];exact Vector.getElem?_eq_getElem r
 have y:vat j.2.2 i.toNat=some j.2.2[i.toNat]:=Vector.getElem?_eq_getElem r;have w:bA 16 i=some ():=by unfold bA;rw[if_pos ⟨h0,hi⟩]
 rw[A,y,w];obtain⟨b,d⟩:JY:=j.2.2[i.toNat];have ep: ∀{n:Int},J1 .i64 i 1=n->n=J1 .i64 i 1:=λh=>h.symm;have k:0<=J1 .i64 i 1:=by have:=Ji i 1;omega
 simp only[JI,hM];by_cases z:J0 d<=12;have e:aP (J0 d) 12=false:=by simp[aP];omega
 have g:bJ (J0 d) 12=true:=iC.2 z;cases b;by_cases o:d=[];subst o;simp[e,g,Jn,neS,eqS,k];have v:neS d []=true:=by simp[neS,o]
 have x:eqS d []=false:=by simp[eqS,o]
 simp[e,g,v,x,Jn];by_cases q:aK j.2.1 0=true;simp[e,g,Jn,q];simp[e,g,Jn,q,k];have e:aP (J0 d) 12=true:=by simp[aP];omega
 have g:bJ (J0 d) 12=false:=by simp[bJ];omega
 simp[e,g,Jn];rw[if_neg h1,if_neg h1];exact .inr (.inl ⟨_,rfl,rfl⟩)
end Go.Am
end
section
namespace Go.Am
set_option linter.unusedVariables false
set_option maxRecDepth 20000
set_option maxHeartbeats 1000000
theorem JCV(p:Je):GL p=hI p:=by unfold GL NC hI;by_cases h1:aR p.1 0=true<;>by_cases h2:aM p.1 64=true<;>simp[h1,h2]
theorem JHZ(p:Je):Par (uW p) λy=>fC p=some y.2:=by
 unfold uW fC;rw[JCV,JFl];refine .bind λh h2=>.not (λd=>.some (by rw[h2];subst d;rfl)) λd=>.bind λg h3=>.not (λe=>.some (by rw[h2,h3];subst d;simp[e,Jn])) λe=>.bind λB _=>.bind λz _=>?_;have j:((hI p).bind λh=>if Jn h=true then some (1:Int)else(gL p).bind λg=>if Jn g=true then some 22 else some 0)=some 0:=by rw[h2,h3];subst d e;rfl
 refine .while (λ_=>True) trivial ?_;rintro⟨v,i,q,s⟩ _;unfold jr;exact .lt (λ_=>.bind λw _=>.bind λx _=>.some trivial) λ_=>.map (.bind λA _=>.bind λk _=>.bind λr _=>.bind λo _=>.bind λn _=>.some j)
theorem JJI{l:aD}(hv:Jw l=some true)(hf:1<=l.1/\l.1<=1099511627776)(hl:J0 l.2.1<=4096){n:Int}(h0:0<=n)(hn:n<9223372036854775808):
  (n<l.1\/n-l.1>=l.2.1.length)/\(∃e,eC (l,n)=some e/\e.2=14)\/(¬(n<l.1\/n-l.1>=l.2.1.length))/\ ∃e,l.2.1[(n-l.1).toNat]?=some e/\eC (l,n)=some (e,0):=by
 have hL:J0 l.2.1=l.2.1.length:=rfl;have o:=Ji l.1 (J0 l.2.1);have q:=bC (J1 .i64 l.1 (J0 l.2.1)) 1;have k:=bC n l.1;unfold eC;rw[hv];simp only[JI];rw[if_neg (by decide)];by_cases h1:n<l.1;rw[if_neg (by rw[fU.2 h1];decide)];exact .inl ⟨.inl h1,_,rfl,rfl⟩;have j:aM n l.1=false:=by simp[aM];omega
 rw[if_pos j,show jD l=some (JL .i64 (J1 .i64 l.1 (J0 l.2.1)) 1)from rfl];simp only[JI];by_cases h2:n-l.1>=l.2.1.length;rw[if_pos (kE.2 (by omega))];exact .inl ⟨.inr h2,_,rfl,rfl⟩;rw[if_neg (λh=>by have:=kE.1 h;omega)];have g:(n-l.1).toNat<l.2.1.length:=by omega
 refine .inr ⟨λh=>h.elim h1 h2,l.2.1[(n-l.1).toNat],zQ9 g,?_⟩;have:idx l.2.1 (JL .i64 n l.1)=some l.2.1[(n-l.1).toNat]:=by rw[show JL .i64 n l.1=n-l.1 by omega];unfold idx;rw[if_pos (by omega)];exact zQ9 g
 rw[this];rfl
end Go.Am
end
