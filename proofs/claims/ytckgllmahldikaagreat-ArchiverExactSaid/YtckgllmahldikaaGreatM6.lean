/-
  Parts of a proof.
-/
import Derived.Test.YtckgllmahldikaaGreatM3
import Derived.Test.YtckgllmahldikaaGreatM5
set_option linter.unusedSimpArgs false
set_option linter.unusedVariables false
set_option linter.unusedSectionVars false
set_option maxRecDepth 20000
set_option maxHeartbeats 4000000
open Option renaming some → Z,none → Y
open Bool renaming true → O,false → J
open Go.IntKind renaming i64 → I
open Int renaming toNat → _G,toNat_natCast → _U
open List renaming length → _H,mem_cons_self → _I,replicate → _J,pairwise_cons → _K,pairwise_append → _L,filter_append → _M,length_filter_le → _N,pairwise_iff_getElem → _O,dropLast_concat_getLast → _P,not_mem_nil → _S,length_eq_zero_iff → _T,mem_filter → _V,pairwise_singleton → _X,take_add_one → _Y,filterMap_append → a!,mem_append_left → b!,filterMap_cons → c!
open Option renaming bind_some → _Q
open Bool renaming not_eq_true → _W
open Nat renaming xor_lt_two_pow → _Z
section
namespace Go.Am
theorem Eg{B S:Int}{X:Jb×wK}(h:aC B S (.pr Je gT) X)(ai:BS B S 0 0:=by omega):_n (KP X) λy=>aC 0 0 zI y/\(y=0->1<=X.2.1/\X.2.1<=7/\J0 X.2.2.2.2<=12/\(X.2.1<=3->0<=X.2.2.1/\X.2.2.1<X.1.1/\0<=X.2.2.2.1/\X.2.2.2.1<16)):=.e (λc1=>have:=J2.1 h.2.z.2.1;.j (λc3=>have:=J2.1 h.1.1;.o (λc5=>have:=J2.1 h.2.z.2.2.1;.j (λc7=>.h (λc9=>have:J0 X.2.2.2.2<=S:=h.2.z.2.2.2;.s ⟨(aJ 1),om⟩) λc9=>.e (λK=>.n (λv=>have:J0 X.2.2.2.2<=S:=h.2.z.2.2.2;.s ⟨(aJ 1),om⟩) λv=>have ah:=eB.1 v;.g (λM=>.s ⟨(aJ 22),om⟩) λM=>.s ⟨aG,om⟩) λK=>.n (λr=>have:J0 X.2.2.2.2<=S:=h.2.z.2.2.2;.s ⟨(aJ 1),om⟩) λr=>have aj:=eB.1 r;have:=Ja (l:=X.2.2.2.2);.g (λ_b=>.s ⟨(aJ 22),om⟩) λ_b=>.s ⟨aG,om⟩) λc7=>have:J0 X.2.2.2.2<=S:=h.2.z.2.2.2;.s ⟨(aJ 1),om⟩) λc5=>have:J0 X.2.2.2.2<=S:=h.2.z.2.2.2;.s ⟨(aJ 1),om⟩) λc3=>have:J0 X.2.2.2.2<=S:=h.2.z.2.2.2;.s ⟨(aJ 1),om⟩) λc1=>.e (λL=>have:=J2.1 h.2.z.2.1;.j (λV=>have:=J2.1 h.1.1;.o (λa2=>have:=J2.1 h.2.z.2.2.1;.j (λW=>.h (λa0=>have:J0 X.2.2.2.2<=S:=h.2.z.2.2.2;.s ⟨(aJ 1),om⟩) λa0=>.e (λN=>.n (λn=>have:J0 X.2.2.2.2<=S:=h.2.z.2.2.2;.s ⟨(aJ 1),om⟩) λn=>have ak:=eB.1 n;have:=Ja (l:=X.2.2.2.2);.g (λa3=>.s ⟨(aJ 22),om⟩) λa3=>.s ⟨aG,om⟩) λN=>.n (λq=>have:J0 X.2.2.2.2<=S:=h.2.z.2.2.2;.s ⟨(aJ 1),om⟩) λq=>have af:=eB.1 q;have:=Ja (l:=X.2.2.2.2);.g (λT=>.s ⟨(aJ 22),om⟩) λT=>.s ⟨aG,om⟩) λW=>have:J0 X.2.2.2.2<=S:=h.2.z.2.2.2;.s ⟨(aJ 1),om⟩) λa2=>have:J0 X.2.2.2.2<=S:=h.2.z.2.2.2;.s ⟨(aJ 1),om⟩) λV=>have:J0 X.2.2.2.2<=S:=h.2.z.2.2.2;.s ⟨(aJ 1),om⟩) λL=>.e (λa1=>have:=J2.1 h.2.z.2.1;.j (λR=>have:=J2.1 h.1.1;.o (λa4=>have:=J2.1 h.2.z.2.2.1;.j (λQ=>.h (λ_c=>have:J0 X.2.2.2.2<=S:=h.2.z.2.2.2;.s ⟨(aJ 1),om⟩) λ_c=>.e (λU=>.n (λw=>have:J0 X.2.2.2.2<=S:=h.2.z.2.2.2;.s ⟨(aJ 1),om⟩) λw=>have ae:=eB.1 w;.g (λP=>.s ⟨(aJ 22),om⟩) λP=>.s ⟨aG,om⟩) λU=>.n (λo=>have:J0 X.2.2.2.2<=S:=h.2.z.2.2.2;.s ⟨(aJ 1),om⟩) λo=>have ag:=eB.1 o;have:=Ja (l:=X.2.2.2.2);.g (λ_a=>.s ⟨(aJ 22),om⟩) λ_a=>.s ⟨aG,om⟩) λQ=>have:J0 X.2.2.2.2<=S:=h.2.z.2.2.2;.s ⟨(aJ 1),om⟩) λa4=>have:J0 X.2.2.2.2<=S:=h.2.z.2.2.2;.s ⟨(aJ 1),om⟩) λR=>have:J0 X.2.2.2.2<=S:=h.2.z.2.2.2;.s ⟨(aJ 1),om⟩) λa1=>.e (λx=>have:=J2.1 h.2.z.2.2.1;.j (λG=>.h (λA=>have:J0 X.2.2.2.2<=S:=h.2.z.2.2.2;.s ⟨(aJ 1),om⟩) λA=>.n (λk=>have:J0 X.2.2.2.2<=S:=h.2.z.2.2.2;.s ⟨(aJ 1),om⟩) λk=>have a9:=eB.1 k;have:=Ja (l:=X.2.2.2.2);.g (λF=>have:=J2.1 h.2.z.2.1;.s ⟨(aJ 22),om⟩) λF=>have:=J2.1 h.2.z.2.1;.s ⟨aG,om⟩) λG=>have:J0 X.2.2.2.2<=S:=h.2.z.2.2.2;.s ⟨(aJ 1),om⟩) λx=>.e (λD=>.n (λg=>have:J0 X.2.2.2.2<=S:=h.2.z.2.2.2;.s ⟨(aJ 1),om⟩) λg=>have a5:=eB.1 g;have:=Ja (l:=X.2.2.2.2);.g (λC=>have:=J2.1 h.2.z.2.1;.s ⟨(aJ 22),om⟩) λC=>have:=J2.1 h.2.z.2.1;.s ⟨aG,om⟩) λD=>.e (λH=>.n (λe=>have:J0 X.2.2.2.2<=S:=h.2.z.2.2.2;.s ⟨(aJ 1),om⟩) λe=>have ab:=eB.1 e;have:=Ja (l:=X.2.2.2.2);.g (λ_e=>have:=J2.1 h.2.z.2.1;.s ⟨(aJ 22),om⟩) λ_e=>have:=J2.1 h.2.z.2.1;.s ⟨aG,om⟩) λH=>.e (λE=>.n (λj=>have:J0 X.2.2.2.2<=S:=h.2.z.2.2.2;.s ⟨(aJ 1),om⟩) λj=>have a7:=eB.1 j;have:=Ja (l:=X.2.2.2.2);.g (λ_d=>have:=J2.1 h.2.z.2.1;.s ⟨(aJ 22),om⟩) λ_d=>have:=J2.1 h.2.z.2.1;.s ⟨aG,om⟩) λE=>have:J0 X.2.2.2.2<=S:=h.2.z.2.2.2;.s ⟨(aJ 1),om⟩
theorem JsZ{B S:Int}{X:rR}(h:aC B S GL X)(_d:BG B S:=by omega):_n (wX X) λy=>aC 0 0 zI y:=.b ((mF h.1)._C) λ_c h1=>.n (λv=>.s (aJ 15)) λv=>have E:=nI h.1 h1.2 v;have j:aC 4096 8192 Je X.1:=E.2;.b ((tY (B:=4096) (S:=8192) (X:=(X.1.2.2.2.2.2.1,X.2.1)) ⟨j.g.1,h.2.z.1⟩)._C) λq k=>have:=J2.1 k.1.1;have:J0 X.1.2.2.2.2.2.1=_:=Jz j.g.1;have: -1<=q/\q<J0 X.1.2.2.2.2.2.1:=k.1.2;.l (λw=>.s (aJ 16)) λw=>.b (Ji j.g.1) λN G=>.d (λo=>.s (aJ 15)) λo=>.b (Eg (B:=4096) (S:=S) ⟨j.u,h.2.z.2.u⟩) λL x=>.d (λC=>.s x.1) λC=>.b (ZU (B:=4096) (S:=8192) ⟨j.e.1,h.2.z.1⟩) λM F=>.b (C0 (B:=0) (S:=S) ⟨h.2.z.1,h.2.z.2⟩) λK _e=>.i (λD=>.d (λA=>.r (λr=>.n (λn=>.s (aJ 15)) λn=>have H:=eB.1 n;.s aG) λr=>.s (aJ 15)) λA=>.s aG) λD=>.s aG
section
variable {B S:Int}
theorem ra{x:rR}(e:wX x=Z 0):JO x.1=Z O/\Has x.1.2.2.2.2.2.1 x.2.1/\KP (x.1,x.2.2)=Z 0:=by
 have h:_t (wX x) λy=>y=0->JO x.1=Z O/\Has x.1.2.2.2.2.2.1 x.2.1/\KP (x.1,x.2.2)=Z 0:=by unfold wX;refine .b λa q=>.n (λ_=>.s nofun) λn=>.b λj o=>.l (λ_=>.s nofun) λr=>.b λt ht=>.d (λ_=>.s nofun) λv=>.b λb hb=>.d (λg=>.s λk=>absurd k g) λg=>?_;subst n;subst g;exact λ_ _ _=>⟨q,⟨j,o,oo⟩,hb⟩
 exact h _ e rfl
theorem Z9{x:rR}{y:Int}(h:aC B S GL x)(e:wX x=Z y)(c:y=0)(j:BC B S 0 0:=by omega):(1<=x.1.1/\x.1.1<=64/\J0 x.1.2.2.2.2.2.2.1=x.1.1/\1<=x.1.2.1/\x.1.2.1<=1073741825/\1<=x.1.2.2.1.1/\x.1.2.2.1.1<=1099511627776/\J0 x.1.2.2.1.2.1<=4096/\x.1.2.2.1.1-1<=x.1.2.2.1.2.2/\x.1.2.2.1.2.2<=x.1.2.2.1.1+J0 x.1.2.2.1.2.1-1/\1<=x.1.2.2.2.1.1/\x.1.2.2.2.1.1<=64/\J0 x.1.2.2.2.1.2.1<=x.1.2.2.2.1.1/\0<=x.1.2.2.2.1.2.2/\(x.1.2.2.2.1.2.2<J0 x.1.2.2.2.1.2.1\/x.1.2.2.2.1.2.2=0)/\1<=x.2.2.1/\x.2.2.1<=7/\J0 x.2.2.2.2.2<=12/\(x.2.2.1<=3->0<=x.2.2.2.1/\x.2.2.2.1<x.1.1/\0<=x.2.2.2.2.1/\x.2.2.2.2.1<16))/\aC 4096 8192 Je x.1:=by subst c;obtain⟨h1,h2,g⟩:=ra e;obtain⟨k,o⟩:=nI h.1 h1 rfl;have n:=((Eg (X:=(x.1,x.2.2)) ⟨h.1,h.c⟩).get g).2 rfl;simp_all
theorem U8{x:rR}{y:Int}(h:aC B S GL x)(e:wX x=Z y)(c:y=0):Has x.1.2.2.2.2.2.1 x.2.1:=by
 grind [ra]
end
theorem JLi{B S:Int}{X:rR}(h:aC B S GL X)(az:BG B S:=by omega):_n (DJ X) λy=>aC B S qS y/\(J0 X.1.2.2.1.2.1<=J0 y.1.2.2.1.2.1):=.b ((JsZ (B:=B) (S:=S) (X:=(X.1,X.2.1,X.2.2)) ⟨h.1,h.2.z.1,h.2.z.2.u⟩)._C) λy2 h1=>.d (λN=>.b (fB h1.1) λy3 h4=>.s ⟨⟨h.1,h4.1.u⟩,om⟩) λN=>have q:Has X.1.2.2.2.2.2.1 X.2.1:=U8 ⟨h.1,h.2.z.1,h.2.z.2.u⟩ h1.2 N;have L:=Z9 (x:=(X.1,X.2.1,X.2.2)) ⟨h.1,h.2.z.1,h.2.z.2.u⟩ h1.2 N;have:=J2.1 h.2.z.2.1;have:=Ja (l:=X.2.2.2.2.2);have:=J2.1 h.2.z.2.2.2.1;have:1<=X.1.1/\X.1.1<=64/\J0 X.1.2.2.2.2.2.2.1=X.1.1/\1<=X.1.2.1/\X.1.2.1<=1073741825/\1<=X.1.2.2.1.1/\X.1.2.2.1.1<=1099511627776/\J0 X.1.2.2.1.2.1<=4096/\X.1.2.2.1.1-1<=X.1.2.2.1.2.2/\X.1.2.2.1.2.2<=X.1.2.2.1.1+J0 X.1.2.2.1.2.1-1/\1<=X.1.2.2.2.1.1/\X.1.2.2.2.1.1<=64/\J0 X.1.2.2.2.1.2.1<=X.1.2.2.2.1.1/\0<=X.1.2.2.2.1.2.2/\(X.1.2.2.2.1.2.2<J0 X.1.2.2.2.1.2.1\/X.1.2.2.2.1.2.2=0)/\1<=X.2.2.1/\X.2.2.1<=7/\J0 X.2.2.2.2.2<=12/\(X.2.2.1<=3->0<=X.2.2.2.1/\X.2.2.2.1<X.1.1/\0<=X.2.2.2.2.1/\X.2.2.2.2.1<16):=L.1;have j:aC 4096 8192 Je X.1:=L.2;.e (λ_b=>have U:aC 16384 1073741824 fQ (X.1,X.2.1):=⟨j.u,h.2.z.1⟩;.b (Yk U q) λy4 C=>have _d:aC 16384 1073741824 qS y4:=C.1.u;have:J0 X.1.2.2.1.2.1<=J0 y4.1.2.2.1.2.1:=C.2;.s ⟨⟨_d.1.u,_d.2.z.u⟩,om⟩) λ_b=>.e (λal=>have ai:aC 16384 1073741824 AP (X.1,X.2.1,1):=⟨j.u,h.2.z.1,aJ 1⟩;.b (De ai q) λy5 _e=>have D:aC 16384 1073741824 qS y5:=_e.1.u;have:J0 X.1.2.2.1.2.1<=J0 y5.1.2.2.1.2.1:=_e.2;.s ⟨⟨D.1.u,D.2.z.u⟩,om⟩) λal=>.e (λa7=>have am:aC 16384 1073741824 kG (X.1.2.2.2.2.2.1,X.2.1):=⟨j.g.1.u,h.2.z.1⟩;.b (Cy am) λy6 v=>.e (λa9=>have a6:aC 16384 1073741824 sg (X.1.2.2.2.2.2.1,X.2.1,X.2.2.2.2.1):=⟨j.g.1.u,h.2.z.1,h.2.z.2.2.2.1⟩;.b (C3 a6) λy7 K=>.d (λae=>.b (fB K.2) λy8 ag=>.s ⟨⟨j.u,ag.1.u⟩,om⟩) λae=>.s ⟨⟨⟨j.1,j.2.1,j.c.1.u,j.d.1.u,j.e.1.u,K.1.u,j.h.u⟩,aJ 1,aG,aG,⟨_g,Jf⟩,aG⟩,om⟩) λa9=>have:=J2.1 v.2;.d (λa3=>.b (fB v.2) λy9 a4=>.s ⟨⟨j.u,a4.1.u⟩,om⟩) λa3=>.s ⟨⟨⟨j.1,j.2.1,j.c.1.u,j.d.1.u,j.e.1.u,v.1.u,j.h.u⟩,aJ 1,aG,aG,⟨_g,Jf⟩,aG⟩,om⟩) λa7=>.e (λaf=>have aa:aC 16384 1073741824 kG (X.1.2.2.2.2.2.1,X.2.1):=⟨j.g.1.u,h.2.z.1⟩;.b (Cy aa) λap r=>.e (λak=>have ah:aC 16384 1073741824 sg (X.1.2.2.2.2.2.1,X.2.1,X.2.2.2.2.1):=⟨j.g.1.u,h.2.z.1,h.2.z.2.2.2.1⟩;.b (C3 ah) λay A=>.d (λ_a=>.b (fB A.2) λax T=>.s ⟨⟨j.u,T.1.u⟩,om⟩) λ_a=>.s ⟨⟨⟨j.1,j.2.1,j.c.1.u,j.d.1.u,j.e.1.u,A.1.u,j.h.u⟩,aJ 1,aG,aG,⟨_g,Jf⟩,aG⟩,om⟩) λak=>have:=J2.1 r.2;.d (λW=>.b (fB r.2) λaq a8=>.s ⟨⟨j.u,a8.1.u⟩,om⟩) λW=>.s ⟨⟨⟨j.1,j.2.1,j.c.1.u,j.d.1.u,j.e.1.u,r.1.u,j.h.u⟩,aJ 1,aG,aG,⟨_g,Jf⟩,aG⟩,om⟩) λaf=>.b (C0 (B:=0) (S:=S) ⟨h.2.z.1,h.2.z.2⟩) λab aj=>have a1:aC 16384 1073741824 sk (X.1.2.2.2.2.1,ab.1):=⟨j.e.1.u,aj.1⟩;.b (JuB a1) λF k=>.d (λa0=>.b (fB k.c) λaw ac=>.s ⟨⟨j.u,ac.1.u⟩,om⟩) λa0=>.i (λa2=>have V:aC 16384 S GL ((X.1.1,X.1.2.1,X.1.2.2.1,X.1.2.2.2.1,F.1,X.1.2.2.2.2.2),X.2.1,X.2.2):=⟨⟨j.1,j.2.1,j.c.1.u,j.d.1.u,k.1.u,j.g.u⟩,h.2.z.1,h.2.z.2.u⟩;.b (Yp V om om om) λG E=>have o:aC 16384 S qS G:=E.1.u;have:J0 X.1.2.2.1.2.1<=J0 G.1.2.2.1.2.1:=E.2;.e (λR=>.s ⟨⟨j.u,o.2.z.u⟩,om⟩) λR=>.s ⟨⟨o.1.u,o.2.z.u⟩,om⟩) λa2=>.b (JA4 (B:=4098) (S:=0) ⟨k.1,h.2.z.1⟩) λau an=>.g (λM=>have P:aC 16384 1073741824 AP ((X.1.1,X.1.2.1,X.1.2.2.1,X.1.2.2.2.1,F.1,X.1.2.2.2.2.2),X.2.1,4):=⟨⟨j.1,j.2.1,j.c.1.u,j.d.1.u,k.1.u,j.g.u⟩,h.2.z.1,aJ 4⟩;.b (De P q) λH w=>have n:aC 16384 1073741824 qS H:=w.1.u;have:J0 X.1.2.2.1.2.1<=J0 H.1.2.2.1.2.1:=w.2;.e (λQ=>.s ⟨⟨j.u,n.2.z.u⟩,om⟩) λQ=>.s ⟨⟨n.1.u,n.2.z.u⟩,om⟩) λM=>.b (JHm (B:=4098) (S:=8192) ⟨⟨j.1,j.2.1,j.c.1.u,j.d.1.u,k.1.u,j.g.u⟩,h.2.z.1⟩) λav _c=>.s ⟨⟨⟨j.1,j.2.1,j.c.1.u,j.d.1.u,k.1.u,j.g.u⟩,aJ 2,_c,aG,⟨_g,Jf⟩,aG⟩,om⟩
theorem Ft{B S:Int}{X:gZ}(h:aC B S pH X)(k:BC B S 0 0:=by omega):_n (AH X) λy=>aC 0 0 .b y:=.b ((tY (B:=B) (S:=S) (X:=(X.1.1.2.2.2.2.2.1,X.2)) ⟨h.1.1.g.1,h.2⟩)._C) λe h1=>have:J0 X.1.1.2.2.2.2.2.1=_:=Jz h.1.1.g.1;have: -1<=e/\e<J0 X.1.1.2.2.2.2.2.1:=h1.1.2;.h (λj=>.b (Ji h.1.1.g.1) λn o=>.s _g) λj=>.s _g
section
variable {B S:Int}
theorem wA{e:Int}{y:hO}(h:JC e=Z y):y.1=5:=by
 grind [JC]
theorem Xf{x:rR}{y:iP}(e:ER x=Z y)(c:y.2.1=3): ¬InP x.1.2.2.2.1 x.2.2.2.1/\y.1=x.1/\y.2.2.2.1=x.2.2.2.1:=by
 have g:_t (ER x) λy=>y.2.1=3-> ¬InP x.1.2.2.2.1 x.2.2.2.1/\y.1=x.1/\y.2.2.2.1=x.2.2.2.1:=by
  unfold ER;refine .b λn h2=>.n (λc=>.s λ_=>⟨λh=>(by grind [ow]),rfl,rfl⟩) λ_=>.e (λ_=>.b λ_ _=>.b λ_ _=>.b λ_ _=>.s nofun) λ_=>.b λ_ _=>.b λ_ _=>.e (λ_=>?_) λ_=>?_
  all_goals
   refine .b λo _=>.d (λ_=>.b λk j=>.s λc=>?_) λ_=>.s nofun;grind [wA]
 exact g _ e c
theorem Yf{x:dP}{y:iP}(e:EU x=Z y): ¬y.2.1=3:=by
 have g:_t (EU x) λy=> ¬y.2.1=3:=(by unfold EU;refine .b λ_ _=>.b λ_ _=>.e (λ_=>.b λ_ _=>.b λ_ _=>.s nofun) λ_=>.b λ_ _=>.d (λ_=>.b λh j=>.s λc=>?_) λ_=>.b λ_ _=>.b λ_ _=>.s nofun;grind [wA]);exact g _ e
theorem Dn{x:rO}{y:iP}(e:zL x=Z y):y.2.1=x.2.2\/y.2.1=5:=by
 have h:_t (zL x) λy=>y.2.1=x.2.2\/y.2.1=5:=by unfold zL;refine .b λ_ _=>.b λ_ _=>.b λ_ _=>.e (λ_=>.b λ_ _=>.b λ_ _=>.s (.inl rfl)) λ_=>.b λn _=>.d (λ_=>.b λr j=>.s (.inr (wA j))) λ_=>.z (λz=>z.2.1=x.2.2) rfl ?_;rintro⟨a,st,v,i,k,o,q,_s⟩ g;dsimp only at g;unfold qc;dsimp only;exact .l (λ_=>.b λ_ _=>.e (λ_=>.b λ_ _=>.b λ_ _=>.n (λ_=>.b λ_ _=>.b λ_ _=>.s g) λ_=>.s g) λ_=>.s g) λ_=>.s (.inl g)
 exact h _ e
theorem JKY{x:rR}{y:iP}(e:DJ x=Z y)(c:y.2.1=3):JO x.1=Z O/\ ¬InP x.1.2.2.2.1 x.2.2.2.1/\y.1.2.2.2.1=x.1.2.2.2.1/\y.2.2.2.1=x.2.2.2.1:=by
 have o:_t (DJ x) λy=>y.2.1=3->JO x.1=Z O/\ ¬InP x.1.2.2.2.1 x.2.2.2.1/\y.1.2.2.2.1=x.1.2.2.2.1/\y.2.2.2.1=x.2.2.2.1:=by
  unfold DJ;have g: ∀{e:Int} {k:Jb} {r:hO} {Q:Prop},JC e=Z r->(k,r).2.1=3->Q:=fun{e k r Q} h c=>by
   grind [wA]
  refine .b λH h2=>.d (λ_=>.b λ_ z=>.s (g z)) λq=>.e (λ_=>.b λG v=>.s λc=>absurd c (Yf v)) λ_=>.e (λ_=>.b λF w=>.s λc=>?_) λ_=>.e (λ_=>?_) λ_=>.e (λ_=>?_) λ_=>.b λE _=>.b λA _=>.d (λ_=>.b λ_ h=>.s (g h)) λ_=>.i (λ_=>.b λB n=>.e (λd=>.s λc=>?_) λ_=>.s λc=>?_) λ_=>.b λC _=>.g (λ_=>.b λD j=>.e (λd=>.s λc=>?_) λ_=>.s λc=>?_) λ_=>.b λ_ _=>.s nofun;have:=Dn w;simp_all;exact .b λ_ _=>.e (λ_=>.b λ_ _=>.d (λ_=>.b λ_ h=>.s (g h)) λ_=>.s nofun) λ_=>.d (λ_=>.b λ_ h=>.s (g h)) λ_=>.s nofun;exact .b λ_ _=>.e (λ_=>.b λ_ _=>.d (λ_=>.b λ_ h=>.s (g h)) λ_=>.s nofun) λ_=>.d (λ_=>.b λ_ h=>.s (g h)) λ_=>.s nofun;simp_all;subst q;obtain⟨_d,K,_e⟩:=Xf n c;grind [ra];simp_all;have:=Dn j;simp_all
 exact o _ e c
end
section
variable {B S:Int}
def vH(k y:Jb):Prop:=JO k=Z O/\JO y=Z O/\y.2.2.2.2.2.1=k.2.2.2.2.2.1/\y.2.2.1.1=k.2.2.1.1/\y.2.2.1.2.1=k.2.2.1.2.1
theorem Rc{k y:Jb}(h:vH k y)(n:Int):gQ (y.2.2.1,n)=gQ (k.2.2.1,n):=by
 obtain⟨h1,h2,q,e,j⟩:=h;have o:=(EJ h1).1;have g:=(EJ h2).1;grind [gQ,lE]
theorem Ce{k y:Jb}(h:vH k y)(e:Int):pE (y,e)=pE (k,e):=by
 obtain⟨h1,h2,n,g,j⟩:=h;grind [pE]
theorem JLH{k y:Jb}(h:vH k y)(e:Int):wJ (y,e)=wJ (k,e):=by
 grind [wJ,Ce,Rc]
theorem JQQ{k y:Jb}(h:vH k y)(x:Jw)(c:Jq)(n:Int):DK (y,x,c,n)=DK (k,x,c,n):=by
 unfold DK;dsimp only;refine Ag (R:=λz g=>z.1=g.1/\z.2.1=y/\g.2.1=k/\z.2.2=g.2.2) ?_ ⟨rfl,rfl,rfl,rfl⟩;rintro⟨i,a,r⟩ ⟨E,o,r'⟩ ⟨C,B,D,A⟩;dsimp only at C B D A;subst C;subst B;subst D;subst A;unfold C9;dsimp only;by_cases hi:aP i 0=O;rw[if_pos hi,if_pos hi];cases idx r.1.2.2.2.2.1 i with
 |none=>exact .inl ⟨rfl,rfl⟩
 |some j=>
  rw[JF,JF,Rc h];cases gQ (o.2.2.1,j)with
  |none=>exact .inl ⟨rfl,rfl⟩
  |some e=>
   rw[JF,JF];have nx:ds (fun(z g:uL)=>z.1=g.1/\z.2.1=a/\g.2.1=o/\z.2.2=g.2.2) (Z (.inl (Jm I i 1,a,r.1,r.2.1,r.2.2):(uL)⊕(GV))) (Z (.inl (Jm I i 1,o,r.1,r.2.1,r.2.2))):=.inr (.inr ⟨_,_,rfl,rfl,rfl,rfl,rfl,rfl⟩);by_cases q:aL e.2 0=O;rw[if_pos q,if_pos q];by_cases v:aL e.1.2.2.2.2.2.2.1.1 r.2.1.1=O;rw[if_pos v,if_pos v];by_cases w:aL e.1.2.2.2.2.2.2.1.2.1 r.2.1.2=O;rw[if_pos w,if_pos w];exact .inr (.inl ⟨_,rfl,rfl⟩);simp_all;simp_all;simp_all
 rw[if_neg hi,if_neg hi];exact .inr (.inl ⟨_,rfl,rfl⟩)
theorem JGF{k y:Jb}(h:vH k y)(e:Int)(c:Jq):wT (y,e,c)=wT (k,e,c):=by
 grind [wT,Ce,JQQ]
theorem ZQ{k:Jb}{h:Int}{y:Jw×Int}(e:pE (k,h)=Z y)(c:y.2=0):JO k=Z O:=by
 have g:_t (pE (k,h)) λy=>y.2=0->JO k=Z O:=by unfold pE;refine .b λa j=>.n (λ_=>.s nofun) λc=>?_;subst c;exact λ_ _ _=>j
 exact g _ e c
theorem Cb{x:gj}{y:iP}(e:qK x=Z y)(c:y.2.1=3): ¬InP x.1.2.2.2.1 x.2.2.2.2.2.2.2.2.1.1/\y.2.2.2.1=x.2.2.2.2.2.2.2.2.1.1:=by
 have j: ∀{e:Int} {k:Jb} {r:hO} {Q:Prop},JC e=Z r->(k,r).2.1=3->Q:=fun{e k r Q} h c=>by
  grind [wA]
 have g:_t (qK x) λy=>y.2.1=3-> ¬InP x.1.2.2.2.1 x.2.2.2.2.2.2.2.2.1.1/\y.2.2.2.1=x.2.2.2.2.2.2.2.2.1.1:=.b λn h2=>.n (λc=>.s λ_=>⟨λh=>(by grind [ow]),rfl⟩) λ_=>.b λ_ _=>.b λ_ _=>.d (λ_=>.b λ_ h=>.s (j h)) λ_=>.b λ_ _=>.d (λ_=>.b λ_ h=>.s (j h)) λ_=>.e (λ_=>.b λ_ _=>.n (λ_=>.b λ_ _=>.s nofun) λ_=>.s nofun) λ_=>.s nofun
 exact g _ e c
def LV(k:Jb)(e p:Int):Prop:=JO k=Z O/\ ¬InP k.2.2.2.1 p/\ ∃y,wJ (k,e)=Z y/\p=y.1.2.2.2.2.2.2.1.1
theorem JDk{k:Jb}{g:Int}{y:iP}(e:kZ (k,g)=Z y)(c:y.2.1=3):LV k g y.2.2.2.1:=by
 have j: ∀{e:Int} {k:Jb} {r:hO} {Q:Prop},JC e=Z r->(k,r).2.1=3->Q:=fun{e k r Q} h c=>by
  grind [wA]
 have n:_t (kZ (k,g)) λy=>y.2.1=3->LV k g y.2.2.2.1:=by
  unfold kZ;refine .b λB h2=>.d (λ_=>.b λ_ h=>.s (j h)) λw=>.e (λ_=>.e (λ_=>.b λ_ _=>.d (λ_=>.b λ_ h=>.s (j h)) λ_=>.b λ_ _=>.s nofun) λ_=>?_) λ_=>?_
  all_goals
   refine .b λq v=>.n (λ_=>.b λ_ h=>.s (j h)) λ_=>.b λA x=>.s λc=>?_;obtain⟨z,o⟩:=Cb x c;exact⟨ZQ h2 w,o▸z,q,v,o⟩
 exact n _ e c
def MK(k:Jb)(e:Int)(c:Jq)(p:Int):Prop:=JO k=Z O/\ ¬InP k.2.2.2.1 p/\ ∃y,wT (k,e,c)=Z y/\p=y.1.2.2.2.2.2.2.1.1
theorem JFc{k:Jb}{g:Int}{l:Jq}{y:iP}(e:sJ (k,g,l)=Z y)(c:y.2.1=3):MK k g l y.2.2.2.1:=by
 have n: ∀{e:Int} {k:Jb} {r:hO} {Q:Prop},JC e=Z r->(k,r).2.1=3->Q:=fun{e k r Q} h c=>by
  grind [wA]
 have j:_t (sJ (k,g,l)) λy=>y.2.1=3->MK k g l y.2.2.2.1:=by unfold sJ;refine .b λB h2=>.d (λ_=>.b λ_ h=>.s (n h)) λv=>.d (λ_=>.b λ_ h=>.s (n h)) λ_=>.b λq x=>.n (λ_=>.s nofun) λ_=>.b λA w=>.s λc=>?_;obtain⟨z,o⟩:=Cb w c;exact⟨ZQ h2 v,o▸z,q,x,o⟩
 exact j _ e c
theorem Ad{e:Int}{y:hO}(h:JC e=Z y):y.2.2.2.2=e:=by
 grind [JC]
theorem JJz{x:gj}{y:iP}(e:qK x=Z y)(c:y.2.1=5): ¬y.2.2.2.2.2=0:=by
 have j: ∀{e:Int} {k:Jb} {r:hO},¬e=0->JC e=Z r->(k,r).2.1=5-> ¬(k,r).2.2.2.2.2=0:=fun{e k r} o h _=>by
  grind [Ad]
 have g:_t (qK x) λy=>y.2.1=5-> ¬y.2.2.2.2.2=0:=.b λn h2=>.n (λc=>.s nofun) λ_=>.b λ_ _=>.b λ_ _=>.d (λc=>.b λ_ h=>.s (j c h)) λ_=>.b λ_ _=>.d (λc=>.b λ_ h=>.s (j c h)) λ_=>.e (λ_=>.b λ_ _=>.n (λ_=>.b λ_ _=>.s nofun) λ_=>.s nofun) λ_=>.s nofun
 exact g _ e c
theorem JLm{k:Jb}{n:Int}{y:iP}(e:kZ (k,n)=Z y)(c:y.2.1=5): ¬y.2.2.2.2.2=0:=by
 have g: ∀{e:Int} {k:Jb} {r:hO},¬e=0->JC e=Z r->(k,r).2.1=5-> ¬(k,r).2.2.2.2.2=0:=fun{e k r} A h _=>by
  grind [Ad]
 have j:_t (kZ (k,n)) λy=>y.2.1=5-> ¬y.2.2.2.2.2=0:=by
  unfold kZ;refine .b λz h2=>.d (λc=>.b λ_ h=>.s (g c h)) λq=>.e (λ_=>.e (λ_=>.b λ_ _=>.d (λc=>.b λ_ h=>.s (g c h)) λ_=>.b λ_ _=>.s nofun) λ_=>?_) λ_=>?_
  all_goals
   exact .b λv x=>.n (λ_=>.b λ_ h=>.s (g _k h)) λ_=>.b λw o=>.s λc=>JJz o c
 exact j _ e c
theorem JDN{k:Jb}{j:Int}{y:iP}(e:kZ (k,j)=Z y)(c: ¬y.2.1=5):JO k=Z O:=by
 have g:_t (kZ (k,j)) λy=> ¬y.2.1=5->JO k=Z O:=by unfold kZ;refine .b λo h2=>.d (λ_=>.b λ_ h=>.s λc=>absurd (wA h) c) λn=>λ_ _ _=>ZQ h2 n
 exact g _ e c
theorem JDD{k:Jb}{j:Int}{l:Jq}{y:iP}(e:sJ (k,j,l)=Z y)(c: ¬y.2.1=5):JO k=Z O:=by
 have g:_t (sJ (k,j,l)) λy=> ¬y.2.1=5->JO k=Z O:=by unfold sJ;refine .b λo h2=>.d (λ_=>.b λ_ h=>.s λc=>absurd (wA h) c) λn=>λ_ _ _=>ZQ h2 n
 exact g _ e c
def vD(e:Int)(k:Jb)(p:Int):Prop:= ∃y,kZ (k,e)=Z y/\y.2.1=3/\y.2.2.2.1=p
def GS(e:Int)(l:Jq)(k:Jb)(p:Int):Prop:= ∃y,sJ (k,e,l)=Z y/\y.2.1=3/\y.2.2.2.1=p
theorem vD.want{g:Int}{k:Jb}{p:Int}(h:vD g k p):LV k g p:=by
 obtain⟨y,e,c,d⟩:=h;grind [JDk]
theorem GS.want{g:Int}{l:Jq}{k:Jb}{p:Int}(h:GS g l k p):MK k g l p:=by
 obtain⟨y,e,c,d⟩:=h;grind [JFc]
theorem n3{k y:Jb}{p:Int}(W:Jb->Int->Prop)(g: ∀{k p},W k p->JO k=Z O/\ ¬InP k.2.2.2.1 p)(same: ∀{p q},vH k y->W k p->W y q->q=p)(h:W k p)(r:eI k y)(hp:pM y.2.2.2.1 p)(hy:aC B S JQ y.2.2.2.1)(hl:J0 y.2.2.1.2.1=J0 k.2.2.1.2.1)(z:BS B S 0 0:=by omega)(A:B<=9223372036854775807:=by omega): ∀q,¬W y q:=by
 intro q j;obtain⟨n,o⟩:=g j;obtain⟨v,w,m,e⟩:=r;have x:m=[]:=(by grind [J0,_T]);subst x;rw[gH]at e;have ks:vH k y:=⟨(g h).1,n,v,w,e⟩;rw[same ks h j]at o;exact o (hp.inP (B:=B) (S:=S) (EJ n).2.1 hy)
theorem L9{j:Int}{k y:Jb}{p q:Int}(ks:vH k y)(h:LV k j p)(g:LV y j q):q=p:=by
 obtain⟨_,_,a,n,e⟩:=h;obtain⟨_,_,b,hb,f⟩:=g;grind [JLH]
theorem JVB{j:Int}{l:Jq}{k y:Jb}{p q:Int}(ks:vH k y)(h:MK k j l p)(g:MK y j l q):q=p:=by
 obtain⟨_,_,a,n,e⟩:=h;obtain⟨_,_,b,hb,f⟩:=g;grind [JGF]
theorem OL{k:Jb}(h:JO k=Z O):J0 k.2.2.1.2.1<=4096:=(og (EJ h).1).2.2
open Classical in
noncomputable def left(W:Jb->Int->Prop)(k:Jb):Int:=2*(4097-J0 k.2.2.1.2.1)+if∃p,W k p then 1 else 0
open Classical in
theorem P8{W:Jb->Int->Prop}{k y:Jb}(h:J0 y.2.2.1.2.1=J0 k.2.2.1.2.1+1)(hk: ¬∃p,W k p):left W y<left W k:=by have e:(if∃p,W k p then(1:Int)else 0)=0:=if_neg hk;unfold left;omega
open Classical in
theorem ns{W:Jb->Int->Prop}{k y:Jb}{p:Int}(hk:W k p)(h:J0 k.2.2.1.2.1<=J0 y.2.2.1.2.1)(hy:J0 y.2.2.1.2.1=J0 k.2.2.1.2.1-> ∀q,¬W y q):left W y<left W k:=by
 have g:(if∃p,W k p then(1:Int)else 0)=1:=if_pos ⟨p,hk⟩;unfold left;rw[g];by_cases e:J0 y.2.2.1.2.1=J0 k.2.2.1.2.1;grind;omega
open Classical in
theorem NN{W:Jb->Int->Prop}{k:Jb}(h:J0 k.2.2.1.2.1<=4097):0<=left W k:=by unfold left;split<;>omega
theorem JWa{y:hO}(g:0<=B)(e:0<=S)(h:aC 0 0 fC y):aC B S fC y:=h.u
abbrev sZ:JB:=((0,0,(0,[],0),(0,[],0),([],[]),[],[],[]),[],0,[],J,[])
theorem JrP{X:gZ}(h:aC B S pH X)(C:0<=B:=by omega)(A:0<=S:=by omega)(N:16384<=B:=by omega)(M:1073741824<=S:=by omega)(U:B<=1000000:=by omega)(T:S<=1000000000000:=by omega):_n (FD X) λy=>aC B S pH y/\(y.2=0->J0 X.1.1.2.2.1.2.1<=J0 y.1.1.2.2.1.2.1):=by
 obtain⟨s,j⟩:=X;obtain⟨hs,k⟩:=h;dsimp only at hs k⊢;have x:aC B S Jt sZ:=cS C A Jt;unfold FD;dsimp only;refine .b (mF hs.1) λR h2=>.n (λ_=>.s ⟨⟨x,aJ 15⟩,nofun⟩) λ_=>.b (tY (X:=(s.1.2.2.2.2.2.1,j)) ⟨hs.1.2.2.2.2.2.1,k⟩) λ_c _=>.l (λ_=>.s ⟨⟨x,aJ 16⟩,nofun⟩) λ_=>Jn (τ:=JB) (λq=>(j,q,sZ)) (λq=>aC B S Jt q/\J0 s.1.2.2.1.2.1<=J0 q.1.2.2.1.2.1) (λq=>left (vD j) q.1) ?_ s rfl ⟨hs,bA _⟩;rintro q ⟨r,D⟩;unfold Hw;dsimp only;refine .b (Ft (X:=(q,j)) ⟨r,k⟩) λP _=>.i (λ_=>?_) λ_=>.s ⟨⟨r,aG⟩,λ_=>D⟩;refine .b ((C5 (X:=(q.1,j)) ⟨r.1,k⟩)._C) λn o=>.e (λL=>.s ⟨⟨x,o.1.1.g⟩,λc=>absurd c (JLm o.2 L)⟩) λ_d=>.e (λc=>?_) λQ=>?_;have w:vD j q.1 n.2.2.2.1:=⟨n,o.2,c,rfl⟩;refine .b ((RA (X:=(q,n.2.2.2.1)) ⟨r,o.1.1.d.1⟩)._C) λF v=>.d (λH=>.s ⟨⟨x,v.1.1.2⟩,λc=>absurd c H⟩) λz=>?_;obtain⟨G,K⟩:=YC (B:=B) (S:=S) r.1.2.2.2.1 v.2 z;have E:=v.1.2 z;refine .s ⟨F.1,rfl,⟨v.1.1.1,iZ D E⟩,ns w E λe=>n3 (B:=B) (S:=S) (vD j) (λh=>⟨h.want.1,h.want.2.1⟩) (λks h g=>L9 ks h.want g.want) w G K v.1.1.1.1.d.1 e,NN ?_⟩;have:=OL w.want.1;omega;have h1:n.2.1=1/\J0 n.1.2.2.1.2.1=J0 q.1.2.2.1.2.1+1:=(by simp_all);have _e: ¬∃p,vD j q.1 p:=fun⟨p,y,e,c,_⟩=>by simp_all
 refine .s ⟨(n.1,q.2),rfl,⟨⟨o.1.1.1,r.2⟩,?_⟩,P8 h1.2 _e,NN ?_⟩;grind;have:=OL (JDN o.2 _d);omega
end
section
variable {B S:Int}
open Classical in
theorem JKT{X:fg}(h:aC B S (.pr Jt LH) X)(R:BH B S:=by omega)(_b:B<=1000000:=by omega)(W:S<=1000000000000:=by omega):_n (VZ X) λy=>aC B S dk y/\J0 X.1.1.2.2.1.2.1<=J0 y.1.1.2.2.1.2.1:=by
 obtain⟨s,o,a⟩:=X;obtain⟨hs,n,_d⟩:=h;unfold VZ;dsimp only at hs n _d⊢;refine Jn (τ:=JB) (λq=>(o,q,a,((0,0,(0,[],0),(0,[],0),([],[]),[],[],[]),[],0,[],J,[]),0,0,0,(J,[]),0)) (λq=>aC B S Jt q/\J0 s.1.2.2.1.2.1<=J0 q.1.2.2.1.2.1) (λq=>if pM q.1.2.2.2.1 a.2.1 then 0 else 1) ?_ s rfl ⟨hs,bA _⟩;rintro q ⟨D,M⟩;unfold C7;dsimp only;refine .b ((JLi (X:=(q.1,o,a)) ⟨D.1,n,_d⟩)._C) λg j=>?_;have w:aC B S Jt (g.1,q.2):=⟨j.1.1.1,D.2⟩;have E:J0 s.1.2.2.1.2.1<=J0 g.1.2.2.1.2.1:=iZ M j.1.2;have fin: ∀{y:hO},aC B S fC y->aC B S dk ((g.1,q.2),y)/\J0 s.1.2.2.1.2.1<=J0 ((g.1,q.2),y).1.1.2.2.1.2.1:=λP=>⟨⟨w,P⟩,E⟩;refine .e (λc=>?_) λ_=>?_
 ·obtain⟨L,Q,_a,K⟩:=JKY j.2 c;refine .b ((RA (X:=((g.1,q.2),g.2.2.2.1)) ⟨w,j.1.1.d.1⟩)._C) λ_e x=>.d (λ_=>.b (fB (B:=B) (S:=S) x.1.1.2) λU N=>.s (fin N.1.u)) λG=>?_;obtain⟨T,C⟩:=YC (B:=B) (S:=S) w.1.2.2.2.1 x.2 G;rw[K]at C;have C:pM _e.1.1.2.2.2.1 a.2.1:=C;have V: ¬pM q.1.2.2.2.1 a.2.1:=λ_c=>Q (_c.inP (B:=B) (S:=S) (EJ L).2.1 D.1.2.2.2.1);refine .s ⟨_e.1,rfl,⟨x.1.1.1,iZ E (x.1.2 G)⟩,?_,?_⟩
  all_goals simp_all
 ·have rb:_n ((AH ((g.1,q.2),o)).bind λA=>if A=O then(FD ((g.1,q.2),o)).bind λk=>if aN k.2 0=O then(JC k.2).bind λz=>Z (Sum.inr ((g.1,q.2),z))else Z (Sum.inr (k.1,g.2))else Z (Sum.inr ((g.1,q.2),g.2))) fun(r:(qT)⊕(jH))=> ∃y,r=.inr y/\aC B S dk y/\J0 s.1.2.2.1.2.1<=J0 y.1.1.2.2.1.2.1:=by
   refine .b (Ft (X:=((g.1,q.2),o)) ⟨w,n⟩) λA _=>.i (λ_=>.b (JrP (X:=((g.1,q.2),o)) ⟨w,n⟩) λk v=>.d (λ_=>.b (fB (B:=B) (S:=S) v.1.2) λz F=>.s ⟨_,rfl,fin F.1.u⟩) λH=>.s ⟨_,rfl,⟨v.1.1,j.1.1.2⟩,iZ E (v.2 H)⟩) λ_=>.s ⟨_,rfl,fin j.1.1.2⟩
  refine .p (λ_=>.e (λ_=>.p (λ_=>.e (λ_=>?_) λ_=>.s (fin j.1.1.2)) λ_=>?_) λ_=>.s (fin j.1.1.2)) λ_=>?_
  all_goals
   exact rb.mono λr ⟨y,e,h⟩=>by grind
end
theorem JED{B S:Int}{X:HB}(h:aC B S si X)(v:BG B S:=by omega):_n (sJ X) λy=>aC B S qS y/\((y.2.1=1/\(J0 y.1.2.2.1.2.1=J0 X.1.2.2.1.2.1+1\/y.2.2.1=0))\/y.2.1=3\/y.2.1=5):=.b (ZW (B:=B) (S:=S) ⟨h.1,h.2.1⟩) λC h1=>.d (λq=>.b (fB h1.2) λw r=>.s ⟨⟨h.1,r.1.u⟩,om⟩) λq=>have:=J2.1 h1.1.2.1;.d (λk=>.b (fB (B:=0) (S:=0) (aJ 15)) λA j=>.s ⟨⟨h.1,j.1.u⟩,om⟩) λk=>.b (E0 (B:=B) (S:=S) (h)) λx n=>.n (λo=>have:J0 X.1.2.2.1.2.1<=B:=h.1.c.1.2.1.1;.s ⟨⟨h.1,aJ 1,aG,aG,⟨_g,Jf⟩,aG⟩,om⟩) λo=>.b (o7 (B:=B) (S:=S) ⟨h.1,h1.1.u,n.1.u⟩) λg e=>have:=J2.1 e.1.2.z.1;have:J0 g.1.2.2.1.2.1=_:=Jz e.1.1.c.1.2.1;have:J0 X.1.2.2.1.2.1=_:=Jz h.1.c.1.2.1;have:(g.2.1=1/\J0 g.1.2.2.1.2.1=J0 X.1.2.2.1.2.1+1)\/g.2.1=3\/g.2.1=5:=e.2;.s ⟨⟨e.1.1,e.1.2.z.u⟩,om⟩
section
variable {B S:Int}
theorem JCE{X:fv}(h:aC B S (.pr Jt Jh) X)(M:BH B S:=by omega)(T:B<=1000000:=by omega)(Q:S<=1000000000000:=by omega):_n (WY X) λy=>aC B S de y/\J0 X.1.1.2.2.1.2.1<=J0 y.1.1.2.2.1.2.1/\(¬y.2.1=0->J0 X.1.1.2.2.1.2.1+1<=J0 y.1.1.2.2.1.2.1/\J0 X.1.1.2.2.1.2.1<=4096):=by
 obtain⟨s,o,l⟩:=X;obtain⟨hs,x,E⟩:=h;dsimp only at hs x E⊢;unfold WY;dsimp only;refine Jn (τ:=Int×JB) (λq=>(o,q.1,q.2,l,sZ)) (λq=>aC B S Jt q.2/\0<=q.1/\q.1+J0 s.1.2.2.1.2.1<=J0 q.2.1.2.2.1.2.1/\(¬q.1=0->J0 s.1.2.2.1.2.1<=4096)) (λq=>left (GS o l) q.2.1) ?_ (0,s) rfl ⟨hs,bA _,by simp_all,λc=>absurd rfl c⟩;rintro⟨n,q⟩ ⟨j,D,K,C⟩;dsimp only at j D K C;unfold Ej;dsimp only;have:=Jl n 1;have:J0 q.1.2.2.1.2.1<=B:=j.1.2.2.1.2.1.1;have:=Ja (l:=s.1.2.2.1.2.1);have fn:aC B S zI n:=J2.2 oo;have fin: ∀{e:Int},aC B S zI e->aC B S de (q,n,e)/\J0 s.1.2.2.1.2.1<=J0 ((q,n,e):BZ).1.1.2.2.1.2.1/\(¬((q,n,e):BZ).2.1=0->J0 s.1.2.2.1.2.1+1<=J0 ((q,n,e):BZ).1.1.2.2.1.2.1/\J0 s.1.2.2.1.2.1<=4096):=fun{e} L=>⟨⟨j,fn,L⟩,by grind,λc=>by grind⟩;refine .b ((JED (X:=(q.1,o,l)) ⟨j.1,x,E⟩)._C) λk v=>.e (λR=>.s (fin v.1.1.g)) λ_e=>.e (λc=>?_) λP=>.e (λc=>.s (fin aG)) λN=>?_;have w:GS o l q.1 k.2.2.2.1:=⟨k,v.2,c,rfl⟩;refine .b ((RA (X:=(q,k.2.2.2.1)) ⟨j,v.1.1.d.1⟩)._C) λF r=>.d (λ_c=>.s (fin r.1.1.2)) λA=>?_;obtain⟨G,_d⟩:=YC (B:=B) (S:=S) j.1.2.2.2.1 r.2 A;have z:=r.1.2 A;dsimp only at z;refine .s ⟨(n,F.1),rfl,⟨r.1.1.1,D,by grind,C⟩,ns w z λe=>n3 (B:=B) (S:=S) (GS o l) (λh=>⟨h.want.1,h.want.2.1⟩) (λks h g=>JVB ks h.want g.want) w G _d r.1.1.1.1.d.1 e,NN ?_⟩;have:=OL w.want.1;grind;have h1:k.2.1=1/\J0 k.1.2.2.1.2.1=J0 q.1.2.2.1.2.1+1:=(by simp_all);have H: ¬∃p,GS o l q.1 p:=fun⟨p,y,e,c,_⟩=>by simp_all
 have U:=OL (JDD v.2 _e);refine .s ⟨(J1 I n 1,(k.1,q.2)),rfl,⟨⟨v.1.1.1,j.2⟩,by grind,by grind,λ_=>by omega⟩,P8 h1.2 H,NN (by grind)⟩
theorem JK9{X:fg}(h:aC B S (.pr Jt LH) X)(r:0<=B:=by omega)(o:0<=S:=by omega)(H:16384<=B:=by omega)(G:1073741824<=S:=by omega)(K:B<=1000000:=by omega)(_d:S<=1000000000000:=by omega):_n (WC X) λy=>aC B S dk y:=by obtain⟨s,k,a⟩:=X;obtain⟨hs,g,x⟩:=h;dsimp only at hs g x⊢;unfold WC;dsimp only;refine Jn (τ:=JB) (λq=>(k,q,a,sZ,0,0,0,(J,[]),0)) (λq=>aC B S Jt q) (λq=>4097-J0 q.1.2.2.1.2.1) ?_ s rfl hs;rintro q D;unfold C1;dsimp only;refine .b (JKT (X:=(q,k,a)) ⟨D,g,x⟩) λn e=>.d (λ_=>.s e.1) λ_=>.b (Jtg (X:=(n.1.1,k)) ⟨e.1.1.1,g⟩) λv w=>.n (λ_=>.s e.1) λ_=>.b (JCE (X:=(n.1,v.1,v.2.1)) ⟨e.1.1,w.1,w.2.1⟩) λz j=>.d (λ_=>.b (fB (B:=B) (S:=S) j.1.c) λ_e A=>.s ⟨j.1.1,JWa r o A.1⟩) λ_=>.e (λ_=>.s ⟨j.1.1,e.1.2⟩) λc=>?_;obtain⟨E,C⟩:=j.c c;have F:=e.2;dsimp only at E C F;exact .s ⟨z.1,rfl,j.1.1,oo,oo⟩
theorem JEw{X:JB}(h:aC B S Jt X)(F:0<=B:=by omega)(E:0<=S:=by omega)(R:16384<=B:=by omega)(Q:1073741824<=S:=by omega)(_a:B<=1000000:=by omega)(W:S<=1000000000000:=by omega):_n (XD X) λy=>aC B S (.pr Jt (.pr .b zI)) y:=by
 have z:aC B S Jt sZ:=cS F E Jt;unfold XD;refine .b (mF h.1) λU _=>.n (λ_=>.s ⟨z,_g,aJ 15⟩) λ_=>.g (λc=>?_) λ_=>?_;exact .b (Ji h.1.i (bA _) c) λ_d P=>.b (RA (X:=(X,_d.1)) ⟨h,P.1.1⟩) λV G=>.s ⟨G.1.1,_g,G.1.2⟩;refine .b (JC6 h.1) λj N=>.e (λ_=>.s ⟨h,_g,aG⟩) λL=>?_;have o:=Ja (l:=j);have A:(0:Int).toNat<j.length:=by grind [J0]
 have D:idx j 0=Z j[(0:Int).toNat]:=by simp[idx]
 have H:=N.2 _ (rA A);generalize j[(0:Int).toNat]=n at D H;refine Jn (τ:=JB) (λq=>(j,q,sZ)) (λq=>aC B S Jt q) (λq=>left (vD n) q.1) ?_ X rfl h;rintro q v;unfold Ex;dsimp only;rw[D];show _n ((kZ (q.1,n)).bind _) _;refine .b ((C5 (X:=(q.1,n)) ⟨v.1,H⟩)._C) λx r=>.e (λ_b=>.s ⟨z,_g,r.1.1.g⟩) λL=>.d (λ_=>.s ⟨⟨r.1.1.1,v.2⟩,_g,aG⟩) λc=>?_;have w:vD n q.1 x.2.2.2.1:=⟨x,r.2,c,rfl⟩;refine .b ((RA (X:=(q,x.2.2.2.1)) ⟨v,r.1.1.d.1⟩)._C) λ_e k=>.d (λT=>.s ⟨z,_g,k.1.1.2⟩) λC=>?_;obtain⟨K,M⟩:=YC (B:=B) (S:=S) v.1.2.2.2.1 k.2 C;have _c:=k.1.2 C;refine .s ⟨_e.1,rfl,k.1.1.1,ns w _c λe=>n3 (B:=B) (S:=S) (vD n) (λh=>⟨h.want.1,h.want.2.1⟩) (λks h g=>L9 ks h.want g.want) w K M k.1.1.1.1.d.1 e,NN ?_⟩;have:=OL w.want.1;grind
end
theorem JlR{B S:Int}{X:FN}(h:aC B S (.pr iI LI) X)(p0:J0 X.2.2.2.2.2.2.2.2.2.2.2.2.2.2.2.2.2.2.2.2.1<=16000)(V:J0 X.2.2.2.2.2.2.2.2.2.2.2.2.2.2.2.2.2.2.2.2.2<=16000)(P:BH B S:=by omega)(_a:B<=1000000:=by omega)(_b:S<=1000000000000:=by omega):_n (iv X) λy=>aC B S dw y/\(J0 y.2.2.2.2.2.2.2.2.2.2.2.2.2.2.2.2.2.2.2.2.1<=J0 X.2.2.2.2.2.2.2.2.2.2.2.2.2.2.2.2.2.2.2.2.1+1/\J0 y.2.2.2.2.2.2.2.2.2.2.2.2.2.2.2.2.2.2.2.2.2<=J0 X.2.2.2.2.2.2.2.2.2.2.2.2.2.2.2.2.2.2.2.2.2+1):=have:J0 X.2.2.2.2.2.2.2.2.2.2.2.2.2.2.2.2.2.2.2.2.1<=B:=h.k.k.c.1.1;have:=Ja (l:=X.2.2.2.2.2.2.2.2.2.2.2.2.2.2.2.2.2.2.2.2.1);have:=Ja (l:=X.2.2.2.2.2.2.2.2.2.2.2.2.2.2.2.2.2.2.2.2.2);have:J0 X.2.2.2.2.2.2.2.2.2.2.2.2.2.2.2.2.2.2.2.2.2=_:=Jz h.k.k.d;have o:aC 16000 S (.l zI) X.2.2.2.2.2.2.2.2.2.2.2.2.2.2.2.2.2.2.2.2.1:=⟨(by omega:J0 X.2.2.2.2.2.2.2.2.2.2.2.2.2.2.2.2.2.2.2.2.1<=16000),λx w=>h.k.k.c.1.2 x w⟩;have q:aC 16000 S (.l iH) X.2.2.2.2.2.2.2.2.2.2.2.2.2.2.2.2.2.2.2.2.2:=⟨(by omega:J0 X.2.2.2.2.2.2.2.2.2.2.2.2.2.2.2.2.2.2.2.2.2<=16000),λx w=>h.k.k.e x w⟩;have:=J2.1 h.1.z.2.1;.j (λK=>.k (λH=>have:=bF X.1.2.1 1;.b (fX (l:=X.2.2.2.2.2.2.2.2.2.2.2.2.2.2.2.2.2.2.2.2.1)) λ_ _=>.b (lT o) λR M=>.e (λD=>.b (fB (B:=0) (S:=0) (aJ 16)) λW F=>.s ⟨⟨F.1.u,h.2.1,h.c.1,h.d.1,h.e.1,h.g.1,h.h.1,h.i.1,h.j.1,h.k.1,h.k.2.1,h.k.c.1,h.k.d.1,h.k.e.1,h.k.g.1,h.k.h.1,h.k.i.1,_g,h.k.k.1,_g,o.u,q.u⟩,om⟩) λD=>.b (fX (l:=X.2.2.2.2.2.2.2.2.2.2.2.2.2.2.2.2.2.2.2.2.1)) λ_ _=>.b (lT o) λU v=>.b (JK9 (B:=B) (S:=S) ⟨⟨⟨h.2.1,h.c.1,⟨h.d.1,h.e.1,h.g.1⟩,⟨h.h.1,h.i.1,h.j.1⟩,⟨h.k.1,h.k.2.1⟩,h.k.c.1,h.k.d.1,h.k.e.1⟩,h.k.g.1,h.k.h.1,h.k.i.1,_g,h.k.k.1⟩,v.1,h.1.z.2.2.2.2.2.u⟩) λQ n=>.e (λ_d=>.s ⟨⟨n.2.z.u,h.2.1,h.c.1,h.d.1,h.e.1,h.g.1,h.h.1,h.i.1,h.j.1,h.k.1,h.k.2.1,h.k.c.1,h.k.d.1,h.k.e.1,h.k.g.1,h.k.h.1,h.k.i.1,_g,h.k.k.1,_g,o.u,q.u⟩,om⟩) λ_d=>.e (λ_e=>have:=J2.1 h.1.z.2.2.2.2.2.1;.e (λC=>.b (OZ n.1.1.c.1) λT E=>.b (bM (B:=16001) (Bl:=16000) (Bm:=1) (S:=S) (J0 X.2.2.2.2.2.2.2.2.2.2.2.2.2.2.2.2.2.2.2.2.2) 1 q (bY (B:=1) (S:=S) (t:=iH) oo ⟨v.1,h.1.z.2.2.2.2.2.2.1,h.1.z.2.2.2.2.2.2.2.1,E,n.2.z.2.2.2.1.u⟩)) λL r=>have:J0 L=_:=Jz r.1;.s ⟨⟨n.2.z.u,n.1.1.1,n.1.1.2.1,n.1.1.c.1.1,n.1.1.c.1.2.1,n.1.1.c.1.c,n.1.1.d.1.1,n.1.1.d.1.2.1,n.1.1.d.1.c,n.1.1.e.1.1,n.1.1.e.1.2,n.1.1.g.1,n.1.1.h.1,n.1.1.i,n.1.2.1,n.1.c.1,n.1.d.1,_g,n.1.g,_g,o.u,r.1.u⟩,om⟩) λC=>.s ⟨⟨n.2.z.u,n.1.1.1,n.1.1.2.1,n.1.1.c.1.1,n.1.1.c.1.2.1,n.1.1.c.1.c,n.1.1.d.1.1,n.1.1.d.1.2.1,n.1.1.d.1.c,n.1.1.e.1.1,n.1.1.e.1.2,n.1.1.g.1,n.1.1.h.1,n.1.1.i,n.1.2.1,n.1.c.1,n.1.d.1,_g,n.1.g,_g,o.u,q.u⟩,om⟩) λ_e=>.s ⟨⟨n.2.z.u,n.1.1.1,n.1.1.2.1,n.1.1.c.1.1,n.1.1.c.1.2.1,n.1.1.c.1.c,n.1.1.d.1.1,n.1.1.d.1.2.1,n.1.1.d.1.c,n.1.1.e.1.1,n.1.1.e.1.2,n.1.1.g.1,n.1.1.h.1,n.1.1.i,n.1.2.1,n.1.c.1,n.1.d.1,_g,n.1.g,_g,o.u,q.u⟩,om⟩) λH=>.b (fB (B:=0) (S:=0) (aJ 16)) λN G=>.s ⟨⟨G.1.u,h.2.1,h.c.1,h.d.1,h.e.1,h.g.1,h.h.1,h.i.1,h.j.1,h.k.1,h.k.2.1,h.k.c.1,h.k.d.1,h.k.e.1,h.k.g.1,h.k.h.1,h.k.i.1,_g,h.k.k.1,_g,o.u,q.u⟩,om⟩) λK=>.b (fB (B:=0) (S:=0) (aJ 16)) λ_c A=>.s ⟨⟨A.1.u,h.2.1,h.c.1,h.d.1,h.e.1,h.g.1,h.h.1,h.i.1,h.j.1,h.k.1,h.k.2.1,h.k.c.1,h.k.d.1,h.k.e.1,h.k.g.1,h.k.h.1,h.k.i.1,_g,h.k.k.1,_g,o.u,q.u⟩,om⟩
theorem Dt{B S:Int}{X:aA}(h:aC B S J3 X)(j:BS B S 0 0:=by omega):_n (QX X) λy=>aC 0 41008 .s y:=.b (Ff (B:=0) (S:=S) h.z) λk h1=>.b (YO h1.1) λe h2=>have g:aC 0 41008 .s e:=h2.u;.s g
theorem JFT{B S X:Int}(h:aC B S zI X)(n:BS B S 0 0:=by omega):_n (XN X) λy=>aC 0 28 .s y:=.b (JP (B:=0) (S:=4) ⟨M8 4 rfl oo,h,aJ 8⟩) λk h1=>have h2:aC 0 12 .s k:=h1.1.u;.b (YO h2) λg e=>have j:aC 0 28 .s g:=e.u;.s j
theorem YN{B S:Int}{X:mP}(h:aC B S uJ X)(a2:BC B S 0 0:=by omega):_n (EH X) λy=>aC 0 335937564 .s y:=.b ((oR h.1)._C) λy2 h1=>.n (λ_d=>.s Jf) λ_d=>have T:=qM h.1 h1.2 _d;have:=Ja (l:=X.1.2.1);have:J0 X.1.2.1=_:=Jz h.1.2.1;have n:aC 4096 8192 JG X.1:=T.2;.b (JFT n.1) λC w=>have:=sF (z:=C) w;Jn (τ:=_j×_j×Int) (λq=>(X.2,q.1,q.2.1,q.2.2,X.1)) (λq=>(aC 0 0 zI q.2.2/\0<=q.2.2/\(q.2.2<=J0 X.1.2.1\/q.2.2<=0))/\(aC 0 167968796 .s q.1/\J0 q.1<=41008*q.2.2+J0 C)/\(aC 0 167968768 .s q.2.1/\J0 q.2.1<=41008*q.2.2+0)) (λq=>J0 X.1.2.1-q.2.2) (by rintro⟨j,e,g⟩ A;dsimp only at A;obtain⟨⟨L,_a,W⟩,⟨r,a1⟩,k,V⟩:=A;unfold Ga;(try dsimp only);exact have:=J2.1 L;.l (λM=>.b (Ji n.2.1) λy5 a4=>.G (λN=>.b (Ji n.2.1) λy6 P=>.b (Dt (B:=0) (S:=8192) P.1.z) λR G=>have:=sF (z:=j) r;have:=sF (z:=R) G;.b (iC) λD _b=>have _e:aC 0 167968796 .s D:=(by omega:J0 D<=167968796);have:=Jl g 1;.s ⟨(D,e,J1 I g 1),rfl,⟨⟨Jo,om,om⟩,⟨_e,om⟩,k,om⟩,om,om⟩) λN=>.b (Ji n.2.1) λy9 F=>.b (Dt (B:=0) (S:=8192) F.1.z) λE _c=>have:=sF (z:=e) k;have:=sF (z:=E) _c;.b (iC) λo a0=>have K:aC 0 167968768 .s o:=(by omega:J0 o<=167968768);have:=Jl g 1;.s ⟨(j,o,J1 I g 1),rfl,⟨⟨Jo,om,om⟩,⟨r,om⟩,K,om⟩,om,om⟩) λM=>.inr (have:=vW X.2 0;have:=sF (z:=e) k;have:=IG (bJ X.2 0) (J0 e);.b (vS k) λx Q=>have U:aC 0 167968768 .s x:=Q.1;have:=sF (z:=j) r;have:=Ja (l:=x);.b (iC) λv a3=>have H:aC 0 335937564 .s v:=(by omega:J0 v<=335937564);.s H)) (C,[],0) rfl (have:J0 ([]:_j)=0:=rfl;⟨⟨aG,om,om⟩,⟨w.u,om⟩,Jf,om⟩)
theorem Tv{B S:Int}{X:fv}(h:aC B S (.pr Jt Jh) X)(G:BG B S:=by omega):_n (YD X) λy=>aC B S (.pr dJ .s) y:=.b ((DZ (B:=B) (S:=S) (X:=(X.1.1.2.2.2.1,X.2.2.1)) ⟨h.1.1.d.1,h.c.1⟩)._C) λw h1=>have:J0 X.1.1.2.2.2.1.2.1=_:=Jz h.1.1.d.1.2.1;have: -1<=w/\w<J0 X.1.1.2.2.2.1.2.1:=h1.1.2;.h (λC=>.b (Ji h.1.1.d.1.2.1) λ_e M=>.i (λA=>.b (Ji h.1.1.d.1.2.1) λ_c x=>.b (pz (B:=0) (S:=S) x.1.z.1) λK n=>.b (Ji h.1.1.d.1.2.1) λL j=>.b (YE (B:=B) (S:=S) ⟨h.1.1,j.1.z.1.2.1⟩) λH e=>.b (JEJ (B:=B) (S:=S) ⟨h.1.2,h.c.1,n.1.u,h.d⟩) λ_d o=>.e (λq=>.b (YN (B:=B) (S:=S) ⟨e.1.c.1,h.2.1⟩) λN r=>.s ⟨o.1.u,r.u⟩) λq=>.b (YN (B:=B) (S:=S) ⟨e.1.c.1,h.2.1⟩) λD g=>.s ⟨h.1.2,g.u⟩) λA=>.b (YN (B:=B) (S:=S) ⟨h.1.1.c.1,h.2.1⟩) λF v=>.s ⟨h.1.2,v.u⟩) λC=>.b (YN (B:=B) (S:=S) ⟨h.1.1.c.1,h.2.1⟩) λE k=>.s ⟨h.1.2,k.u⟩
theorem JBs{B S:Int}{X:_j}(h:aC B S .s X)(V:BS B S 0 0:=by omega)(hS:S<=9223372036854775807:=by omega):_n (WV X) λy=>aC 4096 8192 uJ y:=by unfold WV;exact have s0:aC 0 S .s X:=h;.b (KT (B:=0) (S:=S) ⟨s0,aG⟩) λo h1=>have:=J2.1 h1.1.2.1;have:o.2.2=0->0<=o.2.1/\o.2.1<=J0 X/\J0 o.1<=8392:=h1.2;.q (λ_c=>.q (λG=>.b (vS h1.1.1) λ_a U=>.i (λF=>.s ⟨aQ,aJ 4⟩) λF=>.b ((iG (B:=0) (S:=S) (X:=(o.1,4,8)) ⟨h1.1.1,aJ 4,aJ 8⟩)._C) λH j=>.j (λM=>.g (λL=>.s ⟨aQ,aJ 4⟩) λL=>Jn (τ:=Int×(List aA)×Int) (λq=>(X,q.1,[],0,0,q.2.1,[],H.1,q.2.2)) (λq=>aC 0 0 zI q.1/\aC 4096 8192 (.l J3) q.2.1/\aC 0 0 zI q.2.2/\(J0 q.2.1<=4096)/\(0<=q.1)/\(q.1<=J0 X)) (λq=>4096-J0 q.2.1) (by rintro⟨Q,g,P⟩ z;dsimp only at z;obtain⟨K,e,n,_b,T,W⟩:=z;unfold E3;(try dsimp only);exact have:=Ja (l:=g);have:J0 g=_:=Jz e;.l (λC=>.b (KT (B:=0) (S:=S) ⟨s0,K⟩) λr k=>have:=J2.1 k.1.2.1;have:r.2.2=0->0<=r.2.1/\r.2.1<=J0 X/\J0 r.1<=8392:=k.2;.d (λD=>.s ⟨⟨j.1.1,e,n⟩,aG⟩) λD=>.b (qk k.1.1) λN v=>.q (λ_d=>have:=J2.1 v.1.1;.d (λE=>.s ⟨⟨j.1.1,e,n⟩,aG⟩) λE=>.b (bM (B:=4097) (Bl:=4096) (Bm:=1) (S:=8192) (J0 g) 1 e (bY (B:=1) (S:=8192) (t:=J3) oo v.1.u)) λw A=>have:J0 w=_:=Jz A.1;have _e:aC 4096 8192 (.l J3) w:=⟨(by omega:J0 w<=4096),λx R=>A.1.2 x R⟩;.s ⟨(r.2.1,w,N.1.1),rfl,⟨k.1.2.1,_e,v.1.1,om,om,om⟩,om,om⟩) λ_d=>.s ⟨⟨j.1.1,e,n⟩,aG⟩) λC=>.s ⟨⟨j.1.1,e,n⟩,aG⟩) (o.2.1,[],Jm I H.1 1) rfl ⟨h1.1.2.1,Jd,eZ,om,om,om⟩) λM=>.s ⟨aQ,aJ 4⟩) λG=>.s ⟨aQ,aJ 4⟩) λ_c=>.s ⟨aQ,aJ 4⟩
theorem JBF{B S:Int}{X:ff}(h:aC B S (.pr (.l Jj) Jj) X)(ab:BS B S 0 0:=by omega)(hB:B<=17179869183:=by omega):_n (XC X) λy=>aC (2*B+1) S (.l Jj) y/\(J0 y<=J0 X.1+1):=have:J0 X.1=_/\_:=lF h.1;cU (J0 X.1) (λq=>(X.1,q,X.2)) λa3 i4 w5 z6=>.l (λ_c=>.b (Ji h.1) λy3 N=>.b (o9 (B:=0) (S:=0) ⟨N.1,h.2⟩) λy4 a4=>.i (λL=>.s ⟨_c,rfl⟩) λL=>.inr (.l (λa2=>.b (Ji h.1) λy5 a5=>.i (λD=>have a9:=eB.1 D;.s ⟨h.1.u,om⟩) λD=>.b (mR h.1) λF e=>.C e.1 oo _k (have:J0 F<=B:=e.1.1;have:J0 F=_:=Jz e.1;.b (bM (B:=(B+1)) (Bl:=B) (Bm:=1) (S:=S) (J0 F) 1 e.1 ((bY (B:=1) (S:=0) (t:=Jj) oo h.2).u)) λR E=>.b (nB h.1) λG k=>have:J0 R=_:=Jz E.1;have:J0 G<=B:=k.1.1;have:J0 G=_:=Jz k.1;.b (bM (B:=(2*B+1)) (Bl:=(B+1)) (Bm:=B) (S:=S) (J0 R) (J0 G) E.1 k.1) λ_d r=>have:J0 _d=_:=Jz r.1;.s ⟨r.1,om⟩)) λa2=>.b (mR h.1) λa1 z=>.C z.1 oo _k (.b (bM (B:=(B+1)) (Bl:=B) (Bm:=1) (S:=S) (J0 a1) 1 z.1 ((bY (B:=1) (S:=0) (t:=Jj) oo h.2).u)) λK a0=>.b (nB h.1) λW _b=>.b (bM (B:=(2*B+1)) (Bl:=(B+1)) (Bm:=B) (S:=S) (J0 K) (J0 W) a0.1 _b.1) λa7 V=>.s ⟨V.1,om⟩))) λ_c=>.inr (.l (λM=>.b (Ji h.1) λaa a8=>.i (λw=>have ac:=eB.1 w;.s ⟨h.1.u,om⟩) λw=>.b (mR h.1) λQ A=>.C A.1 oo _k (.b (bM (B:=(B+1)) (Bl:=B) (Bm:=1) (S:=S) (J0 Q) 1 A.1 ((bY (B:=1) (S:=0) (t:=Jj) oo h.2).u)) λU _a=>.b (nB h.1) λT H=>.b (bM (B:=(2*B+1)) (Bl:=(B+1)) (Bm:=B) (S:=S) (J0 U) (J0 T) _a.1 H.1) λa6 _e=>.s ⟨_e.1,om⟩)) λM=>.b (mR h.1) λn g=>.C g.1 oo _k (have:J0 n<=B:=g.1.1;have:J0 n=_:=Jz g.1;.b (bM (B:=(B+1)) (Bl:=B) (Bm:=1) (S:=S) (J0 n) 1 g.1 ((bY (B:=1) (S:=0) (t:=Jj) oo h.2).u)) λo C=>.b (nB h.1) λj x=>have:J0 o=_:=Jz C.1;have:=Ja (l:=j);have:J0 j=_:=Jz x.1;.b (bM (B:=(2*B+1)) (Bl:=(B+1)) (Bm:=B) (S:=S) (J0 o) (J0 j) C.1 x.1) λP v=>have:J0 P=_:=Jz v.1;.s ⟨v.1,om⟩))
section
variable {B S:Int}
theorem Uy{X:Jy×List Jw}(h:aC B S (.pr JG (.l Js)) X)(N:BH B S:=by omega)(C:B<=20000:=by omega):_n (XV X) λy=>aC 400000001 0 (.pr (.l Jj) zI) y:=by
 obtain⟨l,e⟩:=X;obtain⟨_d,ht⟩:=h;unfold XV;dsimp only;have:J0 e<=20000:=iZ ht.1 C;have D:=Ja (l:=e);refine Jn (τ:=LP) (λq=>(e,q.1,q.2,l)) (λq=>0<=q.2/\q.2<=J0 e/\aC 400000001 0 (.l Jj) q.1/\J0 q.1<=20000*q.2) (λq=>J0 e-q.2) ?_ ([],0) rfl ⟨bA _,D,Jd,by show(0:Int)<=20000*0;omega⟩;rintro⟨_s,i⟩ ⟨G,h1,h2,K⟩;dsimp only at G h1 h2 K;unfold Fy;dsimp only;have _c:=Jl i 1;refine .l (λc=>?_) λc=>.s ⟨h2,aG⟩;have v:i.toNat<e.length:=by grind [J0]
 have x:idx e i=Z e[i.toNat]:=by grind [idx]
 have r:=ht.2 _ (rA v);generalize e[i.toNat]=t at x r;have:J0 t.2.2.2.2.1<=20000:=iZ r.2.2.2.2.1.1 C;refine Jn (τ:=LP) (λq=>(e,q.1,i,q.2,l)) (λq=>0<=q.2/\q.2<=J0 t.2.2.2.2.1/\aC 400000001 0 (.l Jj) q.1/\J0 q.1<=20000*i+q.2) (λq=>J0 t.2.2.2.2.1-q.2) ?_ (_s,0) rfl ⟨bA _,Ja,h2,by simp_all⟩;rintro⟨_s,k⟩ ⟨w,_e,o,F⟩;dsimp only at w _e o F;unfold Gd;dsimp only;rw[x];have P:=Jl k 1;show _n (if aK k (J0 t.2.2.2.2.1)=O then _ else _) _;refine .l (λz=>?_) λz=>.s ⟨(_s,J1 I i 1),rfl,⟨by grind,by grind,o,by grind⟩,by grind,oo⟩;show _n ((idx t.2.2.2.2.1 k).bind _) _;refine .b (Ji r.2.2.2.2.1 w z) λE L=>.b (wI (X:=(l,E)) ⟨_d,L.1⟩) λg j=>.d (λ_=>.inr (.s ⟨Jd,aJ 14⟩)) λ_=>.q (λ_=>?_) λ_=>.inr (.s ⟨Jd,aJ 13⟩);show _n (if aN g.1.2.2.1 t.1=O then _ else _) _;refine .d (λ_=>.inr (.s ⟨Jd,aJ 13⟩)) λ_=>?_;have H:aC 0 0 Jj (g.1.2.2.1,(g.1.2.2.2.2.2.2.1.1,g.1.2.2.2.2.2.2.1.2.1),2):=⟨j.1.2.2.1,⟨j.1.2.2.2.2.2.2.1.1,j.1.2.2.2.2.2.2.1.2.1⟩,aJ 2⟩;have:=Ja (l:=_s);refine .b (JBF (B:=J0 _s) (S:=0) (X:=(_s,g.1.2.2.1,(g.1.2.2.2.2.2.2.1.1,g.1.2.2.2.2.2.2.1.2.1),2)) ⟨⟨bA _,o.2⟩,H⟩) λn A=>?_;have M:J0 n<=J0 _s+1:=A.2;exact .s ⟨(n,J1 I k 1),rfl,⟨by grind,by grind,⟨by show J0 n<=400000001;omega,A.1.2⟩,by grind⟩,by grind,oo⟩
end
theorem Xw{B S:Int}{X:_j}(h:aC B S .s X)(_c:BS B S 0 0:=by omega)(U:S<=9223372036854775807:=by omega):_n (YW X) λy=>aC 64 0 dc y:=by unfold YW;exact have s0:aC 0 S .s X:=h;.b ((iG (B:=0) (S:=S) (X:=(X,0,2)) ⟨s0,aG,aJ 2⟩)._C) λg h1=>.q (λF=>have K:=KA (x:=(X,0,2)) ⟨s0,aG,aJ 2⟩ h1.2 F;have:=J2.1 h1.1.1;have:1<=(2:Int)/\(2:Int)<=8/\0<=(0:Int)/\(0:Int)<=J0 X/\(2:Int)<=J0 X-(0:Int)/\((2:Int)<=4->0<=g.1/\g.1<=4294967295)/\((2:Int)=1->g.1<=255)/\((2:Int)=2->g.1<=65535):=K.1;have:=tk 24 g.1;.l (λ_d=>.s ⟨Jd,aJ 5⟩) λ_d=>.g (λv=>.s ⟨Jd,aJ 4⟩) λv=>Jn (τ:=xZ) (λq=>(X,g.1,q.1,[],q.2)) (λq=>(aC 0 0 zI q.1/\0<=q.1/\(q.1<=g.1\/q.1<=0))/\(aC 65535 0 (.l Jh) q.2/\J0 q.2<=1*q.1+0)) (λq=>g.1-q.1) (by rintro⟨e,j⟩ n;dsimp only at n;obtain⟨⟨D,N,M⟩,k,L⟩:=n;unfold Hj;(try dsimp only);exact have:=J2.1 D;.l (λ_e=>.b ((iG (B:=0) (S:=S) (X:=(X,J1 I 2 (cI I 24 e),8)) ⟨s0,Jo,aJ 8⟩)._C) λT G=>.b ((iG (B:=0) (S:=S) (X:=(X,J1 I 10 (cI I 24 e),8)) ⟨s0,Jo,aJ 8⟩)._C) λQ E=>.b ((iG (B:=0) (S:=S) (X:=(X,J1 I 18 (cI I 24 e),8)) ⟨s0,Jo,aJ 8⟩)._C) λR z=>have:J0 j=_/\_:=lF k;.b (bM (B:=65535) (Bl:=65535) (Bm:=1) (S:=0) (J0 j) 1 k (bY (B:=1) (S:=0) (t:=Jh) oo ⟨G.1.1,E.1.1,z.1.1⟩)) λw r=>have:=Jl e 1;have:J0 w=_:=Jz r.1;.s ⟨(J1 I e 1,w),rfl,⟨⟨Jo,om,om⟩,r.1,om⟩,om,om⟩) λ_e=>.inr (.b ((KL k)._C) λP C=>.n (λo=>.s ⟨Jd,aJ 28⟩) λo=>have A:=EI k C.2 o;have H:aC 64 0 (.l Jh) j:=A.2;.s ⟨H,aG⟩)) (0,[]) rfl (have:J0 ([]:List aE)=0:=rfl;⟨⟨aG,om,om⟩,Jd,om⟩)) λF=>.s ⟨Jd,aJ 5⟩
theorem FJ{B S:Int}{X:LZ}(h:aC B S PP X)(p0:0<=X.2.2.1)(q:X.2.2.1<=J0 X.2.1)(o:BS B S 0 0:=by omega)(r:S<=9223372036854775807:=by omega):_n (uI X) λy=>aC 0 S PP y/\(0<=y.2.2.1/\y.2.2.1<=J0 y.2.1/\(X.1<=4->0<=y.1/\y.1<=4294967295)/\(X.1=1->y.1<=255)/\(X.1=2->y.1<=65535)):=by unfold uI;exact have s0:aC 0 S PP X:=h;have:=J2.1 s0.2.2.1;have:J0 X.2.1<=S:=s0.2.1;.b ((iG (B:=0) (S:=S) (X:=(X.2.1,X.2.2.1,X.1)) ⟨s0.2.1,s0.2.2.1,s0.1⟩)._C) λe g=>.t (λk=>have:=J2.1 g.1.2;.d (λj=>have:=J2.1 s0.1;.s ⟨⟨aG,s0.2.1,s0.2.2.1,_g⟩,om⟩) λj=>have n:=KA (x:=(X.2.1,X.2.2.1,X.1)) ⟨s0.2.1,s0.2.2.1,s0.1⟩ g.2 j;have:=J2.1 s0.1;have:=J2.1 g.1.1;have:1<=X.1/\X.1<=8/\0<=X.2.2.1/\X.2.2.1<=J0 X.2.1/\X.1<=J0 X.2.1-X.2.2.1/\(X.1<=4->0<=e.1/\e.1<=4294967295)/\(X.1=1->e.1<=255)/\(X.1=2->e.1<=65535):=n.1;have:=Jl X.2.2.1 X.1;.s ⟨⟨g.1.1,s0.2.1,Jo,_g⟩,om⟩) λk=>have:=J2.1 s0.1;.s ⟨⟨aG,s0.2.1,s0.2.2.1,_g⟩,om⟩
theorem H1{B S:Int}{X:LZ}(h:aC B S PP X)(p0:1<=X.1)(Q:X.1<=2)(P:0<=X.2.2.1)(_c:X.2.2.1<=J0 X.2.1)(M:BS B S 0 0:=by omega)(R:S<=9223372036854775807:=by omega):_n (RR X) λy=>aC 65535 S (.pr (.l zI) nM) y/\(0<=y.2.2.1/\y.2.2.1<=J0 y.2.1):=by unfold RR;exact have s0:aC 0 S PP X:=h;.b (FJ (B:=0) (S:=S) (s0) om om) λe r=>have:=J2.1 r.1.c.1;have:=J2.1 r.1.1;have:0<=e.2.2.1/\e.2.2.1<=J0 e.2.1/\(X.1<=4->0<=e.1/\e.1<=4294967295)/\(X.1=1->e.1<=255)/\(X.1=2->e.1<=65535):=r.2;Jn (τ:=r8) (λq=>(q.1,q.2.1,q.2.2)) (λq=>aC 0 0 zI q.1/\aC 0 S nM q.2.1/\aC 65535 0 (.l zI) q.2.2/\(J0 q.2.2+q.1<=65535)/\(0<=q.1)/\(J0 q.2.2<=65535)/\(0<=q.2.1.2.1)/\(q.2.1.2.1<=J0 q.2.1.1)) (λq=>q.1) (by rintro⟨o,F,n⟩ v;dsimp only at v;obtain⟨E,g,k,L,K,N,_e,_d⟩:=v;unfold Ic;(try dsimp only);exact have:=Ja (l:=n);have:=J2.1 E;have:=J2.1 g.2.1;.g (λA=>.n (λC=>.b (FJ (B:=0) (S:=S) ⟨aJ 8,g⟩ om om) λG j=>have:=J2.1 j.1.c.1;.b (bM (B:=65536) (Bl:=65535) (Bm:=1) (S:=0) (J0 n) 1 k (bY (B:=1) (S:=0) (t:=zI) oo j.1.1)) λw D=>have z:aC 65535 0 (.l zI) w:=⟨(by omega:J0 w<=65535),λx H=>D.1.2 x H⟩;have:=bF o 1;.s ⟨(Jm I o 1,G.2,w),rfl,⟨eZ,j.1.2,z,om,om,om,om,om⟩,om,om⟩) λC=>.s ⟨⟨k.u,g.u⟩,om⟩) λA=>.s ⟨⟨k.u,g.u⟩,om⟩) (e.1,e.2,[]) rfl ⟨r.1.1,r.1.2,Jd,om,om,om,om,om⟩
theorem JuM{B S:Int}{X:_j}(h:aC B S .s X)(a3:BS B S 0 0:=by omega)(hS:S<=9223372036854775807:=by omega):_n (YP X) λy=>aC 4096 0 kG y:=have:=Ja (l:=X);.b (FJ (B:=0) (S:=S) ⟨aJ 2,h.z,aG,_g⟩ om om) λk h1=>have:=J2.1 h1.1.c.1;have:=J2.1 h1.1.1;have:0<=k.2.2.1/\k.2.2.1<=J0 k.2.1/\0<=k.1/\k.1<=65535:=⟨h1.2.1,h1.c.1,(h1.d.1 (show(2:Int)<=4 by decide)).1,h1.g rfl⟩;Jn (τ:=Int×LF×(List Jw)) (λq=>(X,q.1,q.2.1,q.2.2)) (λq=>aC 0 0 zI q.1/\aC 0 S nM q.2.1/\aC 65535 S (.l Js) q.2.2/\(J0 q.2.2+q.1<=65535)/\(J0 q.2.2<=65535)/\(0<=q.2.1.2.1)/\(q.2.1.2.1<=J0 q.2.1.1)/\(0<=q.1)) (λq=>q.1) (by rintro⟨n,V,e⟩ E;dsimp only at E;obtain⟨W,K,j,a1,_a,a2,a0,a5⟩:=E;unfold Hk;(try dsimp only);exact have:=Ja (l:=e);have:J0 e=_:=Jz j;have:=J2.1 W;.g (λN=>.n (λ_e=>.b (FJ (B:=0) (S:=S) ⟨aJ 4,K⟩ om om) λy4 v=>have:=J2.1 v.1.c.1;.b (FJ (B:=0) (S:=S) ⟨aJ 1,v.1.2⟩ om om) λy5 w=>have:=J2.1 w.1.c.1;.b (FJ (B:=0) (S:=S) ⟨aJ 8,w.1.2⟩ om om) λy6 x=>have:=J2.1 x.1.c.1;.b (FJ (B:=0) (S:=S) ⟨aJ 8,x.1.2⟩ om om) λy7 o=>have:=J2.1 o.1.c.1;.b (H1 (B:=0) (S:=S) ⟨aJ 2,o.1.2⟩ om om om om) λy8 r=>have:=J2.1 r.1.2.z.2.1;.b (H1 (B:=0) (S:=S) ⟨aJ 1,r.1.2.z⟩ om om om om) λ_b A=>have:=J2.1 A.1.2.z.2.1;.b (bM (B:=65535) (Bl:=65535) (Bm:=65535) (S:=S) (J0 e) 1 j (bY (B:=65535) (S:=S) (t:=Js) oo ⟨v.1.1,w.1.1,x.1.1,o.1.1,r.1.1,A.1.1⟩)) λD C=>have:J0 D=_/\_:=lF C.1;have:=bF n 1;.s ⟨(Jm I n 1,_b.2,D),rfl,⟨eZ,A.1.2.z,C.1,om,om,om,om,om⟩,om,om⟩) λ_e=>.inr (.i (λR=>.s ⟨Jd,aJ 5⟩) λR=>.d (λM=>.s ⟨Jd,aJ 4⟩) λM=>.b ((zN j)._C) λa6 T=>.n (λF=>.s ⟨Jd,aJ 15⟩) λF=>have _c:=uG j T.2 F;have Q:aC 4096 0 (.l Js) e:=_c.2;.s ⟨Q,aG⟩)) λN=>.inr (.i (λP=>.s ⟨Jd,aJ 5⟩) λP=>.d (λ_d=>.s ⟨Jd,aJ 4⟩) λ_d=>.b ((zN j)._C) λa4 U=>.n (λG=>.s ⟨Jd,aJ 15⟩) λG=>have L:=uG j U.2 G;have H:aC 4096 0 (.l Js) e:=L.2;.s ⟨H,aG⟩)) (k.1,k.2,[]) rfl ⟨h1.1.1,h1.1.2,Jd,om,om,om,om,om⟩
theorem Xp{B S:Int}{X:_j}(h:aC B S .s X)(af:BH B S:=by omega)(hS:S<=9223372036854775807:=by omega):_n (YU X) λy=>aC 4096 0 (.pr oY zI) y:=by unfold YU;exact have s0:aC 0 S .s X:=h;.b ((iG (B:=0) (S:=S) (X:=(X,0,2)) ⟨s0,aG,aJ 2⟩)._C) λy2 h1=>.b ((iG (B:=0) (S:=S) (X:=(X,2,4)) ⟨s0,aJ 2,aJ 4⟩)._C) λ_d h2=>.b ((iG (B:=0) (S:=S) (X:=(X,6,4)) ⟨s0,aJ 6,aJ 4⟩)._C) λe h3=>.q (λN=>have v6:=KA (x:=(X,6,4)) ⟨s0,aJ 6,aJ 4⟩ h3.2 N;have:J0 X<=S:=s0;have:=J2.1 h3.1.1;have:1<=(4:Int)/\(4:Int)<=8/\0<=(6:Int)/\(6:Int)<=J0 X/\(4:Int)<=J0 X-(6:Int)/\((4:Int)<=4->0<=e.1/\e.1<=4294967295)/\((4:Int)=1->e.1<=255)/\((4:Int)=2->e.1<=65535):=v6.1;have:=GI (J0 X) 10;.g (λK=>.s ⟨aQ,aJ 5⟩) λK=>have:=qU 10 e.1;.b (OE s0) λM F=>have L:aC 0 S .s M:=F.1;.b ((iG (B:=0) (S:=S) (X:=(X,J1 I 10 e.1,1)) ⟨s0,Jo,aJ 1⟩)._C) λk A=>.q (λz=>have a4:=KA (x:=(X,J1 I 10 e.1,1)) ⟨s0,Jo,aJ 1⟩ A.2 z;have:=J2.1 A.1.1;have:1<=(1:Int)/\(1:Int)<=8/\0<=(J1 I 10 e.1)/\(J1 I 10 e.1)<=J0 X/\(1:Int)<=J0 X-(J1 I 10 e.1)/\((1:Int)<=4->0<=k.1/\k.1<=4294967295)/\((1:Int)=1->k.1<=255)/\((1:Int)=2->k.1<=65535):=a4.1;have:=GI (J0 X) (J1 I 10 e.1);have:=GI (Jm I (J0 X) (J1 I 10 e.1)) 1;have:=tk 17 k.1;.l (λW=>.s ⟨aQ,aJ 5⟩) λW=>Jn (τ:=Int×Int×(List aE)) (λq=>(X,M,q.1,k.1,q.2.1,[],0,0,[],[],q.2.2,y2.1,_d.1,[],[])) (λq=>aC 0 0 zI q.1/\aC 0 0 zI q.2.1/\aC 255 0 (.l Jh) q.2.2/\(0<=q.2.1)/\(q.2.1<=k.1)/\(q.1+17*(k.1-q.2.1)<=J0 X)/\(0<=q.1)/\(J0 q.2.2<=q.2.1)) (λq=>k.1-q.2.1) (by rintro⟨g,r,j⟩ E;dsimp only at E;obtain⟨C,H,n,ab,ag,ae,ad,aa⟩:=E;unfold G4;(try dsimp only);exact have:=J2.1 H;have:=J2.1 C;have:J0 j=_/\_:=lF n;.l (λG=>.b ((iG (B:=0) (S:=S) (X:=(X,g,1)) ⟨s0,C,aJ 1⟩)._C) λy8 _b=>.b ((iG (B:=0) (S:=S) (X:=(X,J1 I g 1,8)) ⟨s0,Jo,aJ 8⟩)._C) λy9 Q=>.b ((iG (B:=0) (S:=S) (X:=(X,J1 I g 9,8)) ⟨s0,Jo,aJ 8⟩)._C) λa8 U=>.b (bM (B:=256) (Bl:=255) (Bm:=1) (S:=0) (J0 j) 1 n (bY (B:=1) (S:=0) (t:=Jh) oo ⟨_b.1.1,Q.1.1,U.1.1⟩)) λo D=>have:J0 o=_:=Jz D.1;have a1:aC 255 0 (.l Jh) o:=⟨(by omega:J0 o<=255),λx hx=>D.1.2 x hx⟩;have:=qU r 1;have:=qU g 17;.s ⟨(J1 I g 17,J1 I r 1,o),rfl,⟨Jo,Jo,a1,om,om,om,om,om⟩,om,om⟩) λG=>.inr (.b (JuM L) λV w=>.d (λR=>.s ⟨aQ,w.2⟩) λR=>.b (UO s0) λ_e _c=>have P:aC 0 S .s _e:=_c.1;.b (Xw P) λT v=>.d (λ_a=>.s ⟨aQ,v.2⟩) λ_a=>have a0:aC 16384 1073741824 oY (y2.1,_d.1,V.1,j,T.1):=⟨h1.1.1,h2.1.1,w.1.u,n.u,v.1.u⟩;.b (Db a0) λac a9=>.n (λa2=>.s ⟨aQ,aJ 24⟩) λa2=>.s ⟨⟨h1.1.1,h2.1.1,w.1,n.u,v.1.u⟩,aG⟩)) (J1 I (J1 I 10 e.1) 1,0,[]) rfl (have:=qU (J1 I 10 e.1) 1;⟨Jo,aG,Jd,om,om,om,om,om⟩)) λz=>.s ⟨aQ,aJ 5⟩) λN=>.s ⟨aQ,aJ 5⟩
theorem Xi{B S:Int}{X:Jy}(h:aC B S JG X)(G:BG B S:=by omega):_n (YX X) λy=>aC 4096 0 (.pr oY (.pr zI .b)) y:=.b ((oR h)._C) λK h1=>.n (λr=>.s ⟨aQ,aG,_g⟩) λr=>have D:=qM h h1.2 r;have:=Ja (l:=X.2.1);have:J0 X.2.1=_:=Jz h.2.1;have g:aC 4096 8192 JG X:=D.2;have:=bF (J0 X.2.1) 1;Jn (τ:=Int) (λq=>(q,X,0,0,[],[],[])) (λq=>(aC 0 0 zI q/\q<=Jm I (J0 X.2.1) 1)) (λq=>q-0) (by rintro e ⟨x,F⟩;exact have:=J2.1 x;.h (λn=>.b (Ji g.2.1) λ_d E=>.d (λk=>have:=bF e 1;.s ⟨Jm I e 1,rfl,⟨eZ,om⟩,om,om⟩) λk=>.b (Ji g.2.1) λC o=>have A:aC 16384 1073741824 .s C.2.2.2.2.2.2.2:=o.1.z.2.2.2.2.2.2.2.u;.b (Xp A) λ_e j=>.e (λv=>.b (Ji g.2.1) λH w=>.s ⟨j.1,w.1.z.1,_g⟩) λv=>have:=bF e 1;.s ⟨Jm I e 1,rfl,⟨eZ,om⟩,om,om⟩) λn=>.s ⟨aQ,aG,_g⟩) (Jm I (J0 X.2.1) 1) rfl ⟨eZ,om⟩
theorem Vx{B S:Int}{X:mP}(h:aC B S uJ X)(n:BG B S:=by omega):_n (XS X) λy=>aC 4096 0 QK y:=.b (Xi h.1) λq h1=>.n (λe=>have:=J2.1 h.1.1;.g (λg=>.s ⟨aQ,aJ 24⟩) λg=>.b (Bq h.2) λo k=>.s ⟨⟨h.2,aJ 1,aG,Jd,Jd,Jd,k.1.u⟩,aG⟩) λe=>have:=J2.1 h1.1.1;.d (λj=>.s ⟨aQ,aJ 24⟩) λj=>.s ⟨⟨h.2,h1.1.2.1,h1.2.1,h1.1.c.1,Jd,h1.1.d⟩,aG⟩
section
variable {B S:Int}
theorem Gr{un:List aE}{n:aA}(h:aC B S (.l Jh) un)(hn:aC B S J3 n)(R:BS B S 0 0:=by omega)(W:B<=17179869183:=by omega):_n (J5 qv (un,J,0,n,[])) λy=>aC (B+1) S (.l Jh) y/\J0 y<=J0 un+1:=by
 have _d:J0 un<=B:=h.1;have E:=Ja (l:=un);refine Jn (τ:=Bool×Int×List aE) (λq=>(un,q.1,q.2.1,n,q.2.2)) (λq=>0<=q.2.1/\q.2.1<=J0 un/\aC (B+1) S (.l Jh) q.2.2/\J0 q.2.2<=q.2.1+1/\(q.1=J->J0 q.2.2<=q.2.1)) (λq=>J0 un-q.2.1) ?_ (J,0,[]) rfl ⟨bA _,E,Jd,by show(0:Int)<=0+1;omega,λ_=>bA _⟩;rintro⟨done,i,_s⟩ ⟨H,h1,h2,K,_e⟩;dsimp only at H h1 h2 K _e;unfold qv;dsimp only;have:=Jl i 1;have app: ∀{x:aE} {l:List aE},aC (B+1) S (.l Jh) l->aC (B+1) S Jh x->J0 l+1<=B+1->_n (Jr 24 l [x]) λr=>aC (B+1) S (.l Jh) r/\J0 r=J0 l+1:=λ_d _c F=>
  (bM (B:=B+1) (Bl:=B+1) (Bm:=B+1) (S:=S) _ 1 _d (bY oo _c) rfl rfl (bA _) (bA _) F oo _k).mono λ_ h=>⟨h.1,h.2.1⟩
 have k:aC (B+1) S Jh (n.2.2.2.2.2.2.1.1,n.1,n.1):=⟨hn.2.2.2.2.2.2.1.1,hn.1,hn.1⟩;have w:_n (Ju n) λ_=>True:=(sN hn).mono λ_ _=>_g;have nx: ∀{d:Bool} {l:List aE},i<J0 un->aC (B+1) S (.l Jh) l->J0 l<=i+2->(d=J->J0 l<=i+1)->(∃c':Bool×Int×List aE,(un,d,J1 I i 1,n,l)=(un,c'.1,c'.2.1,n,c'.2.2)/\(0<=c'.2.1/\c'.2.1<=J0 un/\aC (B+1) S (.l Jh) c'.2.2/\J0 c'.2.2<=c'.2.1+1/\(c'.1=J->J0 c'.2.2<=c'.2.1))/\J0 un-c'.2.1<J0 un-i/\0<=J0 un-i):=fun{d l} a1 Q _b _a=>
  ⟨(d,J1 I i 1,l),rfl,⟨by grind,by grind,Q,by grind,λe=>by grind⟩,by grind,oo⟩
 refine .l (λc=>?_) λc=>_n.map (P:=λy:List aE=>aC (B+1) S (.l Jh) y/\J0 y<=J0 un+1) ?_ λ_ h=>h
 ·have M:_n (idx un i) λr=>aC (B+1) S Jh r:=(Ji h H c).mono λ_ h=>h.1.u;refine .b M λg j=>?_
  have body: ∀{d:Bool} {l:List aE},aC (B+1) S (.l Jh) l->J0 l<=i+1->(d=J->J0 l<=i)->_n (ρ:=(PN)⊕(List aE)) (if aL g.1 n.2.2.2.2.2.2.1.1 then
     (Ju n).bind λA=>
     if A then
      (Jr 24 l [(g.1,g.2.1,n.1)]).bind λD=>
      Z (.inl (un,O,J1 I i 1,n,D))
     else
      if aP n.2.2.2.2.2.1 g.2.2 then
       Z (.inl (un,O,J1 I i 1,n,l))
      else
       if aP n.2.2.2.2.2.1 g.2.1 then
        (Jr 24 l [(g.1,J1 I n.2.2.2.2.2.1 1,g.2.2)]).bind λv=>
        Z (.inl (un,O,J1 I i 1,n,v))
       else
        (Jr 24 l [g]).bind λC=>
        Z (.inl (un,O,J1 I i 1,n,C))
    else
     (Jr 24 l [g]).bind λG=>
     Z (.inl (un,d,J1 I i 1,n,G))) λr=>match r with| .inl z=> ∃c':Bool×Int×List aE,z=(un,c'.1,c'.2.1,n,c'.2.2)/\(0<=c'.2.1/\c'.2.1<=J0 un/\aC (B+1) S (.l Jh) c'.2.2/\J0 c'.2.2<=c'.2.1+1/\(c'.1=J->J0 c'.2.2<=c'.2.1))/\J0 un-c'.2.1<J0 un-i/\0<=J0 un-i| .inr y=>aC (B+1) S (.l Jh) y/\J0 y<=J0 un+1:=fun{d l} b1 b2 T=>
   .e (λ_=>.b w λA _=>.i (λ_=>.b (app b1 ⟨j.1,j.2.1,hn.1⟩ oo) λD L=>.s (nx c L.1 (by grind) λe=>by cases e)) λ_=>.h (λ_=>.s (nx c b1 oo λe=>by cases e)) λ_=>.h (λ_=>.b (app b1 ⟨j.1,Jo,j.2.2⟩ oo) λv o=>.s (nx c o.1 (by grind) λe=>by cases e)) λ_=>.b (app b1 j oo) λv o=>.s (nx c o.1 (by grind) λe=>by cases e)) λ_=>.b (app b1 j oo) λv o=>.s (nx c o.1 (by grind) λe=>by simp_all)
  refine .g (λ_=>.n (λd=>.b w λU _=>.i (λ_=>.b (app h2 k (by grind)) λV N=>?_) λ_=>?_) λd=>?_) λ_=>?_;exact(body (d:=true) N.1 (by grind) λe=>by cases e).mono λr h=>by grind
  all_goals
   exact(body (d:=done) h2 K _e).mono λr h=>by grind
 exact .n (λd=>.b w λy _=>.i (λ_=>.b (app h2 k (by grind)) λy f=>.s ⟨f.1,by grind⟩) λ_=>.s ⟨h2,oo⟩) λ_=>.s ⟨h2,oo⟩
theorem KI{X:gd}(h:aC B S FS X)(e:BS B S 0 0:=by omega)(g:B<=17179869183:=by omega):_n (wO X) λy=>aC (B+1) S (.l Jh) y/\J0 y<=J0 X.1+1:=.b (sN h.2) λj _=>.n (λ_=>.d (λ_=>.s ⟨h.1.u,oo⟩) λ_=>Gr h.1 h.2) λ_=>Gr h.1 h.2
end
theorem JD1{B S:Int}{X:sM×aA}(h:aC B S (.pr zZ J3) X)(p0:J0 X.1.2.2.2.2.2.1<=16000)(al:BG B S:=by omega):_n (XP X) λy=>aC B S QK y/\(J0 y.1.2.2.2.2.2.1<=J0 X.1.2.2.2.2.2.1+1):=by unfold XP;exact have j:aC 16000 S (.l Jh) X.1.2.2.2.2.2.1:=⟨(by omega:J0 X.1.2.2.2.2.2.1<=16000),λx hx=>h.1.g.1.2 x hx⟩;.g (λc5=>.b ((tY (B:=B) (S:=S) (X:=(X.1.2.2.2.1,X.2.2.2.1)) ⟨h.1.d.1,h.2.z.2.2.1⟩)._C) λy2 h7=>.l (λa4=>.b (Ed (B:=B) (S:=S) ⟨h.1.d.1,h.2.z.2.2.1⟩) λy3 w=>.d (λa0=>.s ⟨⟨h.1,w.2⟩,om⟩) λa0=>have a7:aC 16384 S FT (y3.1,X.2):=⟨w.1.u,h.2.z.u⟩;.b (DV a7) λy4 k=>.d (λa2=>.s ⟨⟨⟨h.1.1,h.1.2.1,h.1.c.1,w.1.u,h.1.e⟩,k.2⟩,om⟩) λa2=>.b (EC (B:=B) (S:=S) ⟨h.1.h,h.2.z.u⟩) λy5 r=>.d (λa1=>.s ⟨⟨⟨h.1.1,nA h.1.2.1 Jo,h.1.c.1,k.1.u,h.1.e⟩,r.2⟩,om⟩) λa1=>.b (sN (B:=0) (S:=S) h.2.z) λy6 ag=>.i (λP=>have:=J2.1 h.2.z.2.2.2.2.2.2.1.1;.h (λQ=>.s ⟨⟨⟨h.1.1,nA h.1.2.1 Jo,h.1.c.1,k.1.u,h.1.e.1,j.u,r.1.u⟩,aJ 1⟩,om⟩) λQ=>.b (KI (B:=16000) (S:=S) ⟨j,h.2.z.u⟩) λM G=>have _b:aC 16001 S (.l Jh) M:=G.1.u;have:J0 M<=J0 X.1.2.2.2.2.2.1+1:=G.2;.s ⟨⟨⟨h.1.1,nA h.1.2.1 Jo,h.1.c.1,k.1.u,h.1.e.1,_b.u,r.1.u⟩,aG⟩,om⟩) λP=>.b (KI (B:=16000) (S:=S) ⟨j,h.2.z.u⟩) λ_a A=>have N:aC 16001 S (.l Jh) _a:=A.1.u;have:J0 _a<=J0 X.1.2.2.2.2.2.1+1:=A.2;.s ⟨⟨⟨h.1.1,nA h.1.2.1 Jo,h.1.c.1,k.1.u,h.1.e.1,N.u,r.1.u⟩,aG⟩,om⟩) λa4=>.b (DV (B:=B) (S:=S) ⟨h.1.d.1,h.2.z.u⟩) λy9 n=>.d (λa9=>.s ⟨⟨h.1,n.2⟩,om⟩) λa9=>.b (EC (B:=B) (S:=S) ⟨h.1.h,h.2.z.u⟩) λae v=>.d (λa6=>.s ⟨⟨⟨h.1.1,nA h.1.2.1 Jo,h.1.c.1,n.1.u,h.1.e⟩,v.2⟩,om⟩) λa6=>.b (sN (B:=0) (S:=S) h.2.z) λak aj=>.i (λa5=>have:=J2.1 h.2.z.2.2.2.2.2.2.1.1;.h (λL=>.s ⟨⟨⟨h.1.1,nA h.1.2.1 Jo,h.1.c.1,n.1.u,h.1.e.1,j.u,v.1.u⟩,aJ 1⟩,om⟩) λL=>.b (KI (B:=16000) (S:=S) ⟨j,h.2.z.u⟩) λH K=>have a3:aC 16001 S (.l Jh) H:=K.1.u;have:J0 H<=J0 X.1.2.2.2.2.2.1+1:=K.2;.s ⟨⟨⟨h.1.1,nA h.1.2.1 Jo,h.1.c.1,n.1.u,h.1.e.1,a3.u,v.1.u⟩,aG⟩,om⟩) λa5=>.b (KI (B:=16000) (S:=S) ⟨j,h.2.z.u⟩) λD _e=>have T:aC 16001 S (.l Jh) D:=_e.1.u;have:J0 D<=J0 X.1.2.2.2.2.2.1+1:=_e.2;.s ⟨⟨⟨h.1.1,nA h.1.2.1 Jo,h.1.c.1,n.1.u,h.1.e.1,T.u,v.1.u⟩,aG⟩,om⟩) λc5=>.b (DV (B:=B) (S:=S) ⟨h.1.d.1,h.2.z.u⟩) λah o=>.d (λV=>.s ⟨⟨h.1,o.2⟩,om⟩) λV=>.b (EC (B:=B) (S:=S) ⟨h.1.h,h.2.z.u⟩) λaf q=>.d (λU=>.s ⟨⟨⟨h.1.1,nA h.1.2.1 Jo,h.1.c.1,o.1.u,h.1.e⟩,q.2⟩,om⟩) λU=>.b (sN (B:=0) (S:=S) h.2.z) λai ad=>.i (λW=>have:=J2.1 h.2.z.2.2.2.2.2.2.1.1;.h (λR=>.s ⟨⟨⟨h.1.1,nA h.1.2.1 Jo,h.1.c.1,o.1.u,h.1.e.1,j.u,q.1.u⟩,aJ 1⟩,om⟩) λR=>.b (KI (B:=16000) (S:=S) ⟨j,h.2.z.u⟩) λE C=>have _c:aC 16001 S (.l Jh) E:=C.1.u;have:J0 E<=J0 X.1.2.2.2.2.2.1+1:=C.2;.s ⟨⟨⟨h.1.1,nA h.1.2.1 Jo,h.1.c.1,o.1.u,h.1.e.1,_c.u,q.1.u⟩,aG⟩,om⟩) λW=>.b (KI (B:=16000) (S:=S) ⟨j,h.2.z.u⟩) λF _d=>have a8:aC 16001 S (.l Jh) F:=_d.1.u;have:J0 F<=J0 X.1.2.2.2.2.2.1+1:=_d.2;.s ⟨⟨⟨h.1.1,nA h.1.2.1 Jo,h.1.c.1,o.1.u,h.1.e.1,a8.u,q.1.u⟩,aG⟩,om⟩
theorem JsO{B S:Int}{X:mP}(h:aC B S uJ X)(ac:BG B S:=by omega):_n (ct X) λy=>aC 400000001 1073741824 QK y:=.b ((oR h.1)._C) λy2 h1=>.n (λQ=>.s ⟨aQ,aJ 26⟩) λQ=>have v3:=qM h.1 h1.2 Q;have:=Ja (l:=X.1.2.1);have:J0 X.1.2.1=_:=Jz h.1.2.1;have A:aC 4096 8192 JG X.1:=v3.2;.j (λ_c=>.g (λU=>.s ⟨aQ,aJ 1⟩) λU=>have P:aC 16384 1073741824 uJ (X.1,X.2):=⟨A.u,h.2⟩;.b (Vx P) λD w=>.d (λa1=>.s ⟨aQ,w.2⟩) λa1=>Jn (τ:=Int×sM) (λq=>(q.1,X.1,(0,0,0,[],[],[],[]),q.2)) (λq=>aC 0 0 zI q.1/\aC 16384 1073741824 zZ q.2/\(0<=q.1)/\(q.1<=J0 X.1.2.1)/\(J0 q.2.2.2.2.2.2.1<=4096+q.1)) (λq=>J0 X.1.2.1-q.1) (by rintro⟨r,e⟩ H;dsimp only at H;obtain⟨W,j,af,a8,ae⟩:=H;unfold Hn;(try dsimp only);exact have:=J2.1 W;have:J0 e.2.2.2.2.2.1=_/\_:=lF j.2.2.2.2.2.1;.l (λV=>.b (Ji A.2.1) λy5 a5=>.G (λL=>have a6:aC 8192 1073741824 (.l Jh) e.2.2.2.2.2.1:=⟨(by omega:J0 e.2.2.2.2.2.1<=8192),λx K=>j.2.2.2.2.2.1.2 x K⟩;have:=Jl r 1;.s ⟨(J1 I r 1,e),rfl,⟨Jo,j,om,om,om⟩,om,om⟩) λL=>.b (Ji A.2.1) λy6 _a=>.b (JD1 (B:=16384) (S:=1073741824) ⟨j,_a.1.z.u⟩ om) λC E=>have v:aC 16384 1073741824 QK C:=E.1.u;have:J0 C.1.2.2.2.2.2.1=_/\_:=lF v.1.g.1;have:J0 C.1.2.2.2.2.2.1<=J0 e.2.2.2.2.2.1+1:=E.2;.d (λT=>.s ⟨aQ,v.2⟩) λT=>have a9:aC 8192 1073741824 (.l Jh) C.1.2.2.2.2.2.1:=⟨(by omega:J0 C.1.2.2.2.2.2.1<=8192),λx K=>v.1.g.1.2 x K⟩;have:=Jl r 1;.s ⟨(J1 I r 1,C.1),rfl,⟨Jo,v.1,om,om,om⟩,om,om⟩) λV=>.inr (have:J0 e.2.2.2.1=_/\_:=lF j.2.2.2.1;Jn (τ:=Int×(List Jw)) (λq=>(q.1,X.1,(0,0,0,[],[],[],[]),e,q.2)) (λq=>(aC 0 0 zI q.1/\0<=q.1/\(q.1<=J0 e.2.2.2.1\/q.1<=0))/\(aC 16384 1073741824 (.l Js) q.2/\J0 q.2<=1*q.1+0)) (λq=>J0 e.2.2.2.1-q.1) (by rintro⟨n,o⟩ G;dsimp only at G;obtain⟨⟨a0,a3,a7⟩,k,ad⟩:=G;unfold Hm;(try dsimp only);exact have:=J2.1 a0;.l (λR=>.b (Ji j.2.2.2.1) λy9 ab=>.g (λ_b=>.b (Ji j.2.2.2.1) λa4 N=>have:J0 o=_/\_:=lF k;.b (bM (B:=16384) (Bl:=16384) (Bm:=16384) (S:=1073741824) (J0 o) 1 k (bY (B:=16384) (S:=1073741824) (t:=Js) oo N.1)) λ_d _e=>have:=Jl n 1;have:J0 _d=_:=Jz _e.1;.s ⟨(J1 I n 1,_d),rfl,⟨⟨Jo,om,om⟩,_e.1,om⟩,om,om⟩) λ_b=>have:=Jl n 1;have:J0 o=_:=Jz k;.s ⟨(J1 I n 1,o),rfl,⟨⟨Jo,om,om⟩,k,om⟩,om,om⟩) λR=>.inr (.b (Uy (B:=16384) (S:=1073741824) ⟨A.u,k⟩) λaa F=>.d (λM=>.s ⟨aQ,F.2⟩) λM=>.s ⟨⟨j.1,j.2.1,j.2.2.1,k.u,F.1.u,j.2.2.2.2.2.u⟩,aG⟩)) (0,[]) rfl (have:J0 ([]:List Jw)=0:=rfl;⟨⟨aG,om,om⟩,Jd,om⟩))) (0,D.1) rfl (have:J0 D.1.2.2.2.2.2.1<=4096:=w.1.g.1.1;have:=Ja (l:=D.1.2.2.2.2.2.1);have:J0 D.1.2.2.2.2.2.1=_:=Jz w.1.g.1;⟨aG,w.1.u,om,om,om⟩)) λ_c=>.s ⟨aQ,aJ 1⟩
theorem U1{B S:Int}{X:Jy×sM×Int}(h:aC B S (.pr JG QK) X)(_c:BG B S:=by omega):_n (YH X) λy=>aC 16384 1073741824 fQ y:=.b (B9 h.c) λv h1=>.d (λ_d=>.s ⟨aQ,aJ 1⟩) λ_d=>.b ((mF (B:=B) (S:=S) (X:=(X.2.1.1,X.2.1.2.1,X.1,v.1,(X.2.1.2.2.2.2.1,[]),X.2.1.2.2.2.1,X.2.1.2.2.2.2.2.2,X.2.1.2.2.2.2.2.1)) ⟨h.2.1.1,h.2.1.2.1,h.1,h1.1.u,⟨h.2.1.e.1,Jd⟩,h.2.1.d.1,h.2.1.h,h.2.1.g.1⟩)._C) λQ K=>.n (λG=>.s ⟨aQ,aJ 15⟩) λG=>have _e:=nI (x:=(X.2.1.1,X.2.1.2.1,X.1,v.1,(X.2.1.2.2.2.2.1,[]),X.2.1.2.2.2.1,X.2.1.2.2.2.2.2.2,X.2.1.2.2.2.2.2.1)) ⟨h.2.1.1,h.2.1.2.1,h.1,h1.1.u,⟨h.2.1.e.1,Jd⟩,h.2.1.d.1,h.2.1.h,h.2.1.g.1⟩ K.2 G;have j:aC 4096 8192 Je (X.2.1.1,X.2.1.2.1,X.1,v.1,(X.2.1.2.2.2.2.1,[]),X.2.1.2.2.2.1,X.2.1.2.2.2.2.2.2,X.2.1.2.2.2.2.2.1):=_e.2;have:J0 X.2.1.2.2.2.1=_/\_:=lF j.g.1;Jn (τ:=tD) (λq=>(q.1,X.1,X.2.1,(0,0,(0,[],0),(0,[],0),([],[]),[],[],[]),v.1,q.2)) (λq=>(aC 0 0 zI q.1/\0<=q.1/\(q.1<=J0 X.2.1.2.2.2.1\/q.1<=0))/\aC 16384 1073741824 Je q.2) (λq=>J0 X.2.1.2.2.2.1-q.1) (by rintro⟨k,o⟩ z;dsimp only at z;obtain⟨⟨F,M,P⟩,n⟩:=z;unfold Fp;(try dsimp only);exact have:=J2.1 F;.l (λD=>.b (Ji j.g.1) λR N=>.e (λH=>have:=Jl k 1;.s ⟨(J1 I k 1,o),rfl,⟨⟨Jo,om,om⟩,n⟩,om,om⟩) λH=>.b (Ji j.g.1) λE w=>.b ((zF (B:=16384) (S:=1073741824) (X:=(o,0,4,E.1,0,0,0,(0,0,(J,[]),J,[]),[])) ⟨n,aG,aJ 4,w.1.1,aG,aG,aG,⟨aG,aG,⟨_g,Jf⟩,_g,Jf⟩,Jf⟩)._C) λC r=>.d (λA=>.s ⟨aQ,r.1.1.c⟩) λA=>have L:Has C.1.2.2.2.2.2.1 E.1:=Bt ⟨n,aG,aJ 4,w.1.1,aG,aG,aG,⟨aG,aG,⟨_g,Jf⟩,_g,Jf⟩,Jf⟩ r.2 A;have:=Jl k 1;.s ⟨(J1 I k 1,C.1),rfl,⟨⟨Jo,om,om⟩,r.1.1.1⟩,om,om⟩) λD=>.s ⟨n,aG⟩) (0,(X.2.1.1,X.2.1.2.1,X.1,v.1,(X.2.1.2.2.2.2.1,[]),X.2.1.2.2.2.1,X.2.1.2.2.2.2.2.2,X.2.1.2.2.2.2.2.1)) rfl ⟨⟨aG,om,om⟩,j.1,j.2.1,j.c.1.u,j.d.1.u,⟨j.e.1.1.u,Jd⟩,j.g.u⟩
theorem JF6{B S:Int}{X:fw}(h:aC B S (.pr dJ eH) X)(r:BH B S:=by omega)(w:S<=9223372036854775807:=by omega):_n (XO X) λy=>aC B S pH y:=.b (JBs (B:=0) (S:=S) h.2.z.1) λo h1=>.d (λj=>.s ⟨⟨aQ,Jd,aG,Jd,_g,Jd⟩,h1.2⟩) λj=>have q:aC 16384 1073741824 uJ (o.1,X.2.2.1):=⟨h1.1.u,h.2.z.2.1⟩;.b (JsO q) λv g=>.d (λn=>.s ⟨⟨aQ,Jd,aG,Jd,_g,Jd⟩,g.2⟩) λn=>.b (U1 (B:=400000001) (S:=1073741824) ⟨h1.1.u,g.1,h.2.z.2.2⟩) λx e=>.d (λk=>.s ⟨⟨aQ,Jd,aG,Jd,_g,Jd⟩,e.2⟩) λk=>.s ⟨⟨e.1.u,h.1⟩,aG⟩
theorem JFL{B S:Int}{X:fw}(h:aC B S (.pr dJ eH) X)(e:BH B S:=by omega)(g:S<=9223372036854775807:=by omega):_n (XF X) λy=>aC B S pH y:=.b (JF6 (B:=B) (S:=S) ⟨h.1,h.2.z.1.u,h.2.z.2.1,h.2.z.2.2⟩) λj h1=>.s (h1)
theorem Jk5{B S:Int}{X:FN}(h:aC B S (.pr iI LI) X)(p0:J0 X.2.2.2.2.2.2.2.2.2.2.2.2.2.2.2.2.2.2.2.2.1<=16000)(V:J0 X.2.2.2.2.2.2.2.2.2.2.2.2.2.2.2.2.2.2.2.2.2<=16000)(Q:BG B S:=by omega)(W:S<=9223372036854775807:=by omega):_n (iz X) λy=>aC B S dw y/\(J0 y.2.2.2.2.2.2.2.2.2.2.2.2.2.2.2.2.2.2.2.2.1<=J0 X.2.2.2.2.2.2.2.2.2.2.2.2.2.2.2.2.2.2.2.2.1+1/\J0 y.2.2.2.2.2.2.2.2.2.2.2.2.2.2.2.2.2.2.2.2.2<=J0 X.2.2.2.2.2.2.2.2.2.2.2.2.2.2.2.2.2.2.2.2.2+1):=have:=Ja (l:=X.2.2.2.2.2.2.2.2.2.2.2.2.2.2.2.2.2.2.2.2.1);have K:aC 16000 S (.l zI) X.2.2.2.2.2.2.2.2.2.2.2.2.2.2.2.2.2.2.2.2.1:=⟨(by omega:J0 X.2.2.2.2.2.2.2.2.2.2.2.2.2.2.2.2.2.2.2.2.1<=16000),λx A=>h.k.k.c.1.2 x A⟩;have H:aC 16000 S (.l iH) X.2.2.2.2.2.2.2.2.2.2.2.2.2.2.2.2.2.2.2.2.2:=⟨(by omega:J0 X.2.2.2.2.2.2.2.2.2.2.2.2.2.2.2.2.2.2.2.2.2<=16000),λx A=>h.k.k.e x A⟩;.b (Tv (B:=B) (S:=S) ⟨⟨⟨h.2.1,h.c.1,⟨h.d.1,h.e.1,h.g.1⟩,⟨h.h.1,h.i.1,h.j.1⟩,⟨h.k.1,h.k.2.1⟩,h.k.c.1,h.k.d.1,h.k.e.1⟩,h.k.g.1,h.k.h.1,h.k.i.1,_g,h.k.k.1⟩,h.1.z.2.2.2.1,h.1.z.2.2.1,h.1.z.2.2.2.2.1⟩) λL _d=>.b (JFL (B:=B) (S:=S) ⟨_d.1,_d.2.z.u,h.2.1,h.h.1⟩) λE n=>Jn (τ:=CG) (λq=>(E.2,q.1,X.2.1,X.2.2.1,X.2.2.2.1,X.2.2.2.2.1,X.2.2.2.2.2.1,X.2.2.2.2.2.2.1,X.2.2.2.2.2.2.2.1,X.2.2.2.2.2.2.2.2.1,X.2.2.2.2.2.2.2.2.2.1,X.2.2.2.2.2.2.2.2.2.2.1,X.2.2.2.2.2.2.2.2.2.2.2.1,X.2.2.2.2.2.2.2.2.2.2.2.2.1,X.2.2.2.2.2.2.2.2.2.2.2.2.2.1,X.2.2.2.2.2.2.2.2.2.2.2.2.2.2.1,X.2.2.2.2.2.2.2.2.2.2.2.2.2.2.2.1,X.2.2.2.2.2.2.2.2.2.2.2.2.2.2.2.2.1,X.2.2.2.2.2.2.2.2.2.2.2.2.2.2.2.2.2.1,X.2.2.2.2.2.2.2.2.2.2.2.2.2.2.2.2.2.2.1,X.2.2.2.2.2.2.2.2.2.2.2.2.2.2.2.2.2.2.2.1,q.2,X.2.2.2.2.2.2.2.2.2.2.2.2.2.2.2.2.2.2.2.2.2,X.1,(0,0,0,(J,[]),0),L.1,E.1)) (λq=>aC 0 0 zI q.1/\aC 16000 S (.l zI) q.2/\(0<=q.1)/\(q.1<=J0 q.2)/\(J0 q.2=J0 X.2.2.2.2.2.2.2.2.2.2.2.2.2.2.2.2.2.2.2.2.1)) (λq=>J0 q.2-q.1) (by rintro⟨o,r⟩ w;dsimp only at w;obtain⟨_e,v,_c,M,P⟩:=w;unfold Im;(try dsimp only);exact have:=J2.1 _e;.l (λD=>.b (fX (l:=r)) λ_ _=>.b (lT v) λU N=>have:=Jl o 1;have:J0 (aY r (_G o) 0)<=16000:=(nD (t:=zI) (i:=_G o) (x:=0) v aG).1;have:=Ja (l:=aY r (_G o) 0);have:J0 (aY r (_G o) 0)=J0 r:=qI;.s ⟨(J1 I o 1,aY r (_G o) 0),rfl,⟨Jo,nD (t:=zI) (i:=_G o) (x:=0) v aG,om,om,om⟩,om,om⟩) λD=>.inr (.d (λC=>.b (KM n.2) λR F=>.s ⟨⟨F.u,h.2.1,h.c.1,h.d.1,h.e.1,h.g.1,h.h.1,h.i.1,h.j.1,h.k.1,h.k.2.1,h.k.c.1,h.k.d.1,h.k.e.1,h.k.g.1,h.k.h.1,h.k.i.1,_g,h.k.k.1,_g,v.u,H.u⟩,om⟩) λC=>.b (KM (B:=0) (S:=0) aG) λT G=>.s ⟨⟨G.u,n.1.1.1,n.1.1.2.1,n.1.1.c.1.1,n.1.1.c.1.2.1,n.1.1.c.1.c,n.1.1.d.1.1,n.1.1.d.1.2.1,n.1.1.d.1.c,n.1.1.e.1.1,n.1.1.e.1.2,n.1.1.g.1,n.1.1.h.1,n.1.1.i,n.1.2.1,n.1.c.1,n.1.d.1,_g,n.1.g,_g,v.u,H.u⟩,om⟩)) (0,X.2.2.2.2.2.2.2.2.2.2.2.2.2.2.2.2.2.2.2.2.1) rfl ⟨aG,K,om,om,om⟩
theorem RY{B S:Int}{X:yr}(h:aC B S (.pr Jt (.pr zI LI)) X)(r:BH B S:=by omega):_n (AJ X) λy=>aC B S dw y/\(J0 y.2.2.2.2.2.2.2.2.2.2.2.2.2.2.2.2.2.2.2.2.1=J0 X.2.2.2.2.2.2.2.2.2.2.2.2.2.2.2.2.2.2.2.2.2.1/\J0 y.2.2.2.2.2.2.2.2.2.2.2.2.2.2.2.2.2.2.2.2.2=J0 X.2.2.2.2.2.2.2.2.2.2.2.2.2.2.2.2.2.2.2.2.2.2):=.e (λo=>.b (KM h.2.1) λw q=>.s ⟨⟨q.u,h.1.1.1,h.1.1.2.1,h.1.1.c.1.1,h.1.1.c.1.2.1,h.1.1.c.1.c,h.1.1.d.1.1,h.1.1.d.1.2.1,h.1.1.d.1.c,h.1.1.e.1.1,h.1.1.e.1.2,h.1.1.g.1,h.1.1.h.1,h.1.1.i,h.1.2.1,h.1.c.1,h.1.d.1,_g,h.1.g,_g,h.k.k.d⟩,om⟩) λo=>.b (KM h.2.1) λv n=>.s ⟨⟨n.u,h.c.1,h.d.1,h.e.1,h.g.1,h.h.1,h.i.1,h.j.1,h.k.1,h.k.2.1,h.k.c.1,h.k.d.1,h.k.e.1,h.k.g.1,h.k.h.1,h.k.i.1,h.k.j.1,_g,h.k.k.2.1,_g,h.k.k.d⟩,om⟩
theorem JkH{B S:Int}{X:FN}(h:aC B S (.pr iI LI) X)(p0:J0 X.2.2.2.2.2.2.2.2.2.2.2.2.2.2.2.2.2.2.2.2.1<=16000)(p1:J0 X.2.2.2.2.2.2.2.2.2.2.2.2.2.2.2.2.2.2.2.2.2<=16000)(ae:BH B S:=by omega)(hB:B<=1000000:=by omega)(hS:S<=1000000000000:=by omega):_n (it X) λy=>aC B S dw y/\(J0 y.2.2.2.2.2.2.2.2.2.2.2.2.2.2.2.2.2.2.2.2.1<=J0 X.2.2.2.2.2.2.2.2.2.2.2.2.2.2.2.2.2.2.2.2.1+1/\J0 y.2.2.2.2.2.2.2.2.2.2.2.2.2.2.2.2.2.2.2.2.2<=J0 X.2.2.2.2.2.2.2.2.2.2.2.2.2.2.2.2.2.2.2.2.2+1):=have:=Ja (l:=X.2.2.2.2.2.2.2.2.2.2.2.2.2.2.2.2.2.2.2.2.1);have:J0 X.2.2.2.2.2.2.2.2.2.2.2.2.2.2.2.2.2.2.2.2.2=_:=Jz h.k.k.d;have E:aC 16000 S (.l zI) X.2.2.2.2.2.2.2.2.2.2.2.2.2.2.2.2.2.2.2.2.1:=⟨(by omega:J0 X.2.2.2.2.2.2.2.2.2.2.2.2.2.2.2.2.2.2.2.2.1<=16000),λx P=>h.k.k.c.1.2 x P⟩;have D:aC 16000 S (.l iH) X.2.2.2.2.2.2.2.2.2.2.2.2.2.2.2.2.2.2.2.2.2:=⟨(by omega:J0 X.2.2.2.2.2.2.2.2.2.2.2.2.2.2.2.2.2.2.2.2.2<=16000),λx P=>h.k.k.e x P⟩;.e (λc8=>.b (T8 (B:=B) (S:=S) ⟨⟨h.2.1,h.c.1,⟨h.d.1,h.e.1,h.g.1⟩,⟨h.h.1,h.i.1,h.j.1⟩,⟨h.k.1,h.k.2.1⟩,h.k.c.1,h.k.d.1,h.k.e.1⟩,h.k.g.1,h.k.h.1,h.k.i.1,_g,h.k.k.1⟩) λy2 C=>.e (λV=>.b (bM (B:=16001) (Bl:=16000) (Bm:=1) (S:=S) (J0 X.2.2.2.2.2.2.2.2.2.2.2.2.2.2.2.2.2.2.2.2.1) 1 E ((bY (B:=1) (S:=0) (t:=zI) oo C.2.1).u)) λy3 Q=>.b (RY (B:=B) (S:=S) ⟨C.1,C.c,h.2.1,h.c.1,h.d.1,h.e.1,h.g.1,h.h.1,h.i.1,h.j.1,h.k.1,h.k.2.1,h.k.c.1,h.k.d.1,h.k.e.1,h.k.g.1,h.k.h.1,h.k.i.1,_g,h.k.k.1,_g,Q.1.u,D.u⟩) λ_c n=>have:J0 _c.2.2.2.2.2.2.2.2.2.2.2.2.2.2.2.2.2.2.2.2.2=_:=Jz n.1.k.k.d;have:J0 _c.2.2.2.2.2.2.2.2.2.2.2.2.2.2.2.2.2.2.2.2.1=J0 y3/\J0 _c.2.2.2.2.2.2.2.2.2.2.2.2.2.2.2.2.2.2.2.2.2=J0 X.2.2.2.2.2.2.2.2.2.2.2.2.2.2.2.2.2.2.2.2.2:=n.2;.s ⟨⟨⟨n.1.1.z.1,C.2.1,n.1.1.z.2.2.u⟩,n.1.2.1,n.1.c.1,n.1.d.1,n.1.e.1,n.1.g.1,n.1.h.1,n.1.i.1,n.1.j.1,n.1.k.1,n.1.k.2.1,n.1.k.c.1,n.1.k.d.1,n.1.k.e.1,n.1.k.g.1,n.1.k.h.1,n.1.k.i.1,_g,n.1.k.k.1,_g,n.1.k.k.c⟩,om⟩) λV=>.b (RY (B:=B) (S:=S) ⟨C.1,C.c,h.2.1,h.c.1,h.d.1,h.e.1,h.g.1,h.h.1,h.i.1,h.j.1,h.k.1,h.k.2.1,h.k.c.1,h.k.d.1,h.k.e.1,h.k.g.1,h.k.h.1,h.k.i.1,_g,h.k.k.1,_g,E.u,D.u⟩) λN o=>have:J0 N.2.2.2.2.2.2.2.2.2.2.2.2.2.2.2.2.2.2.2.2.2=_:=Jz o.1.k.k.d;have:J0 N.2.2.2.2.2.2.2.2.2.2.2.2.2.2.2.2.2.2.2.2.1=J0 X.2.2.2.2.2.2.2.2.2.2.2.2.2.2.2.2.2.2.2.2.1/\J0 N.2.2.2.2.2.2.2.2.2.2.2.2.2.2.2.2.2.2.2.2.2=J0 X.2.2.2.2.2.2.2.2.2.2.2.2.2.2.2.2.2.2.2.2.2:=o.2;.s ⟨⟨⟨o.1.1.z.1,C.2.1,o.1.1.z.2.2.u⟩,o.1.2.1,o.1.c.1,o.1.d.1,o.1.e.1,o.1.g.1,o.1.h.1,o.1.i.1,o.1.j.1,o.1.k.1,o.1.k.2.1,o.1.k.c.1,o.1.k.d.1,o.1.k.e.1,o.1.k.g.1,o.1.k.h.1,o.1.k.i.1,_g,o.1.k.k.1,_g,o.1.k.k.c⟩,om⟩) λc8=>.e (λT=>.b (JlR (B:=B) (S:=S) ⟨h.1.z.u,h.2.1,h.c.1,h.d.1,h.e.1,h.g.1,h.h.1,h.i.1,h.j.1,h.k.1,h.k.2.1,h.k.c.1,h.k.d.1,h.k.e.1,h.k.g.1,h.k.h.1,h.k.i.1,_g,h.k.k.1,_g,E.u,D.u⟩ om om) λ_a w=>have:J0 _a.2.2.2.2.2.2.2.2.2.2.2.2.2.2.2.2.2.2.2.2.1<=J0 X.2.2.2.2.2.2.2.2.2.2.2.2.2.2.2.2.2.2.2.2.1+1/\J0 _a.2.2.2.2.2.2.2.2.2.2.2.2.2.2.2.2.2.2.2.2.2<=J0 X.2.2.2.2.2.2.2.2.2.2.2.2.2.2.2.2.2.2.2.2.2+1:=w.2;.s ⟨⟨w.1.1.z.u,w.1.2.1,w.1.c.1,w.1.d.1,w.1.e.1,w.1.g.1,w.1.h.1,w.1.i.1,w.1.j.1,w.1.k.1,w.1.k.2.1,w.1.k.c.1,w.1.k.d.1,w.1.k.e.1,w.1.k.g.1,w.1.k.h.1,w.1.k.i.1,_g,w.1.k.k.1,_g,w.1.k.k.c⟩,om⟩) λT=>.e (λa5=>.b (Wp (B:=B) (S:=S) ⟨⟨⟨h.2.1,h.c.1,⟨h.d.1,h.e.1,h.g.1⟩,⟨h.h.1,h.i.1,h.j.1⟩,⟨h.k.1,h.k.2.1⟩,h.k.c.1,h.k.d.1,h.k.e.1⟩,h.k.g.1,h.k.h.1,h.k.i.1,_g,h.k.k.1⟩,h.1.z.2.2.1⟩) λy7 _d=>.b (RY (B:=B) (S:=S) ⟨_d.1,_d.2,h.2.1,h.c.1,h.d.1,h.e.1,h.g.1,h.h.1,h.i.1,h.j.1,h.k.1,h.k.2.1,h.k.c.1,h.k.d.1,h.k.e.1,h.k.g.1,h.k.h.1,h.k.i.1,_g,h.k.k.1,_g,E.u,D.u⟩) λM q=>have:J0 M.2.2.2.2.2.2.2.2.2.2.2.2.2.2.2.2.2.2.2.2.2=_:=Jz q.1.k.k.d;have:J0 M.2.2.2.2.2.2.2.2.2.2.2.2.2.2.2.2.2.2.2.2.1=J0 X.2.2.2.2.2.2.2.2.2.2.2.2.2.2.2.2.2.2.2.2.1/\J0 M.2.2.2.2.2.2.2.2.2.2.2.2.2.2.2.2.2.2.2.2.2=J0 X.2.2.2.2.2.2.2.2.2.2.2.2.2.2.2.2.2.2.2.2.2:=q.2;.s ⟨⟨q.1.1.z.u,q.1.2.1,q.1.c.1,q.1.d.1,q.1.e.1,q.1.g.1,q.1.h.1,q.1.i.1,q.1.j.1,q.1.k.1,q.1.k.2.1,q.1.k.c.1,q.1.k.d.1,q.1.k.e.1,q.1.k.g.1,q.1.k.h.1,q.1.k.i.1,_g,q.1.k.k.1,_g,q.1.k.k.c⟩,om⟩) λa5=>.e (λa1=>.b (Jpa (B:=B) (S:=S) ⟨⟨h.2.1,h.c.1,⟨h.d.1,h.e.1,h.g.1⟩,⟨h.h.1,h.i.1,h.j.1⟩,⟨h.k.1,h.k.2.1⟩,h.k.c.1,h.k.d.1,h.k.e.1⟩,h.k.g.1,h.k.h.1,h.k.i.1,_g,h.k.k.1⟩) λy9 L=>.b (RY (B:=B) (S:=S) ⟨L.1,L.c,h.2.1,h.c.1,h.d.1,h.e.1,h.g.1,h.h.1,h.i.1,h.j.1,h.k.1,h.k.2.1,h.k.c.1,h.k.d.1,h.k.e.1,h.k.g.1,h.k.h.1,h.k.i.1,_g,h.k.k.1,_g,E.u,D.u⟩) λG r=>have:J0 G.2.2.2.2.2.2.2.2.2.2.2.2.2.2.2.2.2.2.2.2.2=_:=Jz r.1.k.k.d;have:J0 G.2.2.2.2.2.2.2.2.2.2.2.2.2.2.2.2.2.2.2.2.1=J0 X.2.2.2.2.2.2.2.2.2.2.2.2.2.2.2.2.2.2.2.2.1/\J0 G.2.2.2.2.2.2.2.2.2.2.2.2.2.2.2.2.2.2.2.2.2=J0 X.2.2.2.2.2.2.2.2.2.2.2.2.2.2.2.2.2.2.2.2.2:=r.2;.s ⟨⟨r.1.1.z.u,r.1.2.1,r.1.c.1,r.1.d.1,r.1.e.1,r.1.g.1,r.1.h.1,r.1.i.1,r.1.j.1,r.1.k.1,r.1.k.2.1,r.1.k.c.1,r.1.k.d.1,r.1.k.e.1,r.1.k.g.1,r.1.k.h.1,r.1.k.i.1,_g,r.1.k.k.1,_g,r.1.k.k.c⟩,om⟩) λa1=>.e (λU=>.b (OZ (B:=B) (S:=S) ⟨h.d.1,h.e.1,h.g.1⟩) λad a2=>.b (YG (B:=B) (S:=S) ⟨⟨h.d.1,h.e.1,h.g.1⟩,a2⟩) λac F=>.e (λW=>.b (KM F.1.2) λa8 a3=>.s ⟨⟨a3.u,h.2.1,h.c.1,F.1.1.1,F.1.1.2.1.u,F.1.1.c,h.h.1,h.i.1,h.j.1,h.k.1,h.k.2.1,h.k.c.1,h.k.d.1,h.k.e.1,h.k.g.1,h.k.h.1,h.k.i.1,_g,h.k.k.1,_g,E.u,D.u⟩,om⟩) λW=>.b (KM F.1.2) λaa R=>.s ⟨⟨R.u,h.2.1,h.c.1,h.d.1,h.e.1,h.g.1,h.h.1,h.i.1,h.j.1,h.k.1,h.k.2.1,h.k.c.1,h.k.d.1,h.k.e.1,h.k.g.1,h.k.h.1,h.k.i.1,_g,h.k.k.1,_g,E.u,D.u⟩,om⟩) λU=>.e (λ_b=>.b (Jk5 (B:=B) (S:=S) ⟨h.1.z.u,h.2.1,h.c.1,h.d.1,h.e.1,h.g.1,h.h.1,h.i.1,h.j.1,h.k.1,h.k.2.1,h.k.c.1,h.k.d.1,h.k.e.1,h.k.g.1,h.k.h.1,h.k.i.1,_g,h.k.k.1,_g,E.u,D.u⟩ om om) λK A=>have:J0 K.2.2.2.2.2.2.2.2.2.2.2.2.2.2.2.2.2.2.2.2.1<=J0 X.2.2.2.2.2.2.2.2.2.2.2.2.2.2.2.2.2.2.2.2.1+1/\J0 K.2.2.2.2.2.2.2.2.2.2.2.2.2.2.2.2.2.2.2.2.2<=J0 X.2.2.2.2.2.2.2.2.2.2.2.2.2.2.2.2.2.2.2.2.2+1:=A.2;.s ⟨⟨A.1.1.z.u,A.1.2.1,A.1.c.1,A.1.d.1,A.1.e.1,A.1.g.1,A.1.h.1,A.1.i.1,A.1.j.1,A.1.k.1,A.1.k.2.1,A.1.k.c.1,A.1.k.d.1,A.1.k.e.1,A.1.k.g.1,A.1.k.h.1,A.1.k.i.1,_g,A.1.k.k.1,_g,A.1.k.k.c⟩,om⟩) λ_b=>.e (λa4=>.b (JEw (B:=B) (S:=S) ⟨⟨h.2.1,h.c.1,⟨h.d.1,h.e.1,h.g.1⟩,⟨h.h.1,h.i.1,h.j.1⟩,⟨h.k.1,h.k.2.1⟩,h.k.c.1,h.k.d.1,h.k.e.1⟩,h.k.g.1,h.k.h.1,h.k.i.1,_g,h.k.k.1⟩) λab _e=>.b (RY (B:=B) (S:=S) ⟨_e.1,_e.c,h.2.1,h.c.1,h.d.1,h.e.1,h.g.1,h.h.1,h.i.1,h.j.1,h.k.1,h.k.2.1,h.k.c.1,h.k.d.1,h.k.e.1,h.k.g.1,h.k.h.1,h.k.i.1,_g,h.k.k.1,_g,E.u,D.u⟩) λH v=>have:J0 H.2.2.2.2.2.2.2.2.2.2.2.2.2.2.2.2.2.2.2.2.2=_:=Jz v.1.k.k.d;have:J0 H.2.2.2.2.2.2.2.2.2.2.2.2.2.2.2.2.2.2.2.2.1=J0 X.2.2.2.2.2.2.2.2.2.2.2.2.2.2.2.2.2.2.2.2.1/\J0 H.2.2.2.2.2.2.2.2.2.2.2.2.2.2.2.2.2.2.2.2.2=J0 X.2.2.2.2.2.2.2.2.2.2.2.2.2.2.2.2.2.2.2.2.2:=v.2;.s ⟨⟨v.1.1.z.u,v.1.2.1,v.1.c.1,v.1.d.1,v.1.e.1,v.1.g.1,v.1.h.1,v.1.i.1,v.1.j.1,v.1.k.1,v.1.k.2.1,v.1.k.c.1,v.1.k.d.1,v.1.k.e.1,v.1.k.g.1,v.1.k.h.1,v.1.k.i.1,_g,v.1.k.k.1,_g,v.1.k.k.c⟩,om⟩) λa4=>.b (fB (B:=0) (S:=0) (aJ 1)) λa9 a0=>.s ⟨⟨a0.1.u,h.2.1,h.c.1,h.d.1,h.e.1,h.g.1,h.h.1,h.i.1,h.j.1,h.k.1,h.k.2.1,h.k.c.1,h.k.d.1,h.k.e.1,h.k.g.1,h.k.h.1,h.k.i.1,_g,h.k.k.1,_g,E.u,D.u⟩,om⟩
theorem JGz{B S:Int}{X:JB×(List wF)}(h:aC B S (.pr Jt (.l iI)) X)(aq:BH B S:=by omega)(hB:B<=1000000:=by omega)(hS:S<=1000000000000:=by omega):_n (WI X) λy=>aC B S (.pr Jt (.pr (.l fC) (.l iH))) y:=by unfold WI;exact Jn (τ:=Int×_F×(List DI)×Int×Int×Int×(List aA)×Int×Int×(List dS)×Int×(List aH)×(List aH)×(List Jw)×(List aE)×(List aE)×(List _j)×Int×_F×Bool×(List JS)×Bool×(List hO)) (λq=>(X.2,q.1,X.1,((0,0,(0,[],0),(0,[],0),([],[]),[],[],[]),[],0,[],J,[]),q.2.1,q.2.2.1,q.2.2.2.1,q.2.2.2.2.1,q.2.2.2.2.2.1,q.2.2.2.2.2.2.1,q.2.2.2.2.2.2.2.1,q.2.2.2.2.2.2.2.2.1,q.2.2.2.2.2.2.2.2.2.1,q.2.2.2.2.2.2.2.2.2.2.1,q.2.2.2.2.2.2.2.2.2.2.2.1,q.2.2.2.2.2.2.2.2.2.2.2.2.1,q.2.2.2.2.2.2.2.2.2.2.2.2.2.1,q.2.2.2.2.2.2.2.2.2.2.2.2.2.2.1,q.2.2.2.2.2.2.2.2.2.2.2.2.2.2.2.1,q.2.2.2.2.2.2.2.2.2.2.2.2.2.2.2.2.1,q.2.2.2.2.2.2.2.2.2.2.2.2.2.2.2.2.2.1,q.2.2.2.2.2.2.2.2.2.2.2.2.2.2.2.2.2.2.1,q.2.2.2.2.2.2.2.2.2.2.2.2.2.2.2.2.2.2.2.1,q.2.2.2.2.2.2.2.2.2.2.2.2.2.2.2.2.2.2.2.2.1,q.2.2.2.2.2.2.2.2.2.2.2.2.2.2.2.2.2.2.2.2.2.1,q.2.2.2.2.2.2.2.2.2.2.2.2.2.2.2.2.2.2.2.2.2.2)) (λq=>aC 0 0 zI q.1/\aC 1000 S (.l zI) q.2.1/\aC 1000 S (.l iH) q.2.2.1/\aC 0 0 zI q.2.2.2.1/\aC 0 0 zI q.2.2.2.2.1/\aC 0 0 zI q.2.2.2.2.2.1/\aC B S (.l J3) q.2.2.2.2.2.2.1/\aC 0 0 zI q.2.2.2.2.2.2.2.1/\aC 0 0 zI q.2.2.2.2.2.2.2.2.1/\aC B S (.l fH) q.2.2.2.2.2.2.2.2.2.1/\aC 0 0 zI q.2.2.2.2.2.2.2.2.2.2.1/\aC B S (.l Jj) q.2.2.2.2.2.2.2.2.2.2.2.1/\aC B S (.l Jj) q.2.2.2.2.2.2.2.2.2.2.2.2.1/\aC B S (.l Js) q.2.2.2.2.2.2.2.2.2.2.2.2.2.1/\aC B S (.l Jh) q.2.2.2.2.2.2.2.2.2.2.2.2.2.2.1/\aC B S (.l Jh) q.2.2.2.2.2.2.2.2.2.2.2.2.2.2.2.1/\aC B S (.l .s) q.2.2.2.2.2.2.2.2.2.2.2.2.2.2.2.2.1/\aC 0 0 zI q.2.2.2.2.2.2.2.2.2.2.2.2.2.2.2.2.2.1/\aC B S (.l zI) q.2.2.2.2.2.2.2.2.2.2.2.2.2.2.2.2.2.2.1/\aC B S (.l dO) q.2.2.2.2.2.2.2.2.2.2.2.2.2.2.2.2.2.2.2.2.1/\aC 1000 S (.l fC) q.2.2.2.2.2.2.2.2.2.2.2.2.2.2.2.2.2.2.2.2.2.2/\(0<=q.1)/\(q.1<=1000)/\(J0 q.2.1<=q.1)/\(J0 q.2.2.1<=q.1)/\(J0 q.2.2.2.2.2.2.2.2.2.2.2.2.2.2.2.2.2.2.2.2.2.2<=q.1)) (λq=>1001-q.1) (by rintro⟨N,v,M,al,am,an,ao,aa,ac,ai,ak,ad,af,ag,a6,a8,aj,ah,ae,a7,a9,ab,_d⟩ W;dsimp only at W;obtain⟨i1,i2,i3,i4,Q,V,R,P,U,E,K,L,D,G,w,A,C,H,_e,F,r,aw,ax,av,ap,au⟩:=W;unfold D2;(try dsimp only);exact have:J0 v<=1000:=i2.1;have:=Ja (l:=v);have:J0 M=_/\_:=lF i3;have:J0 _d=_/\_:=lF r;have:J0 X.2=_:=Jz h.2;.l (λa3=>.l (λa1=>.n (λa2=>.b (Ji h.2) λy3 a4=>.b (JkH (B:=B) (S:=S) ⟨a4.1.z.u,i4,Q,V,R,P,U,E,K,L,D,G,w,A,C,H,_e,_g,F,_g,i2.u,i3.u⟩ om om) λo n=>have:J0 o.2.2.2.2.2.2.2.2.2.2.2.2.2.2.2.2.2.2.2.2.2=_:=Jz n.1.k.k.d;have:J0 o.2.2.2.2.2.2.2.2.2.2.2.2.2.2.2.2.2.2.2.2.1<=J0 v+1/\J0 o.2.2.2.2.2.2.2.2.2.2.2.2.2.2.2.2.2.2.2.2.2<=J0 M+1:=n.2;.b (bM (B:=1001) (Bl:=1000) (Bm:=1) (S:=S) (J0 _d) 1 r (bY (B:=1) (S:=S) (t:=fC) oo (n.1.1.z.u))) λT _b=>have a5:aC 1000 S (.l zI) o.2.2.2.2.2.2.2.2.2.2.2.2.2.2.2.2.2.2.2.2.1:=⟨(by omega:J0 o.2.2.2.2.2.2.2.2.2.2.2.2.2.2.2.2.2.2.2.2.1<=1000),λx _c=>n.1.k.k.c.1.2 x _c⟩;have a0:aC 1000 S (.l iH) o.2.2.2.2.2.2.2.2.2.2.2.2.2.2.2.2.2.2.2.2.2:=⟨(by omega:J0 o.2.2.2.2.2.2.2.2.2.2.2.2.2.2.2.2.2.2.2.2.2<=1000),λx _c=>n.1.k.k.e x _c⟩;have:J0 T=_:=Jz _b.1;have _a:aC 1000 S (.l fC) T:=⟨(by omega:J0 T<=1000),λx _c=>_b.1.2 x _c⟩;have:=Jl N 1;.s ⟨(J1 I N 1,o.2.2.2.2.2.2.2.2.2.2.2.2.2.2.2.2.2.2.2.2.1,o.2.2.2.2.2.2.2.2.2.2.2.2.2.2.2.2.2.2.2.2.2,o.2.1,o.2.2.1,o.2.2.2.1,o.2.2.2.2.1,o.2.2.2.2.2.1,o.2.2.2.2.2.2.1,o.2.2.2.2.2.2.2.1,o.2.2.2.2.2.2.2.2.1,o.2.2.2.2.2.2.2.2.2.1,o.2.2.2.2.2.2.2.2.2.2.1,o.2.2.2.2.2.2.2.2.2.2.2.1,o.2.2.2.2.2.2.2.2.2.2.2.2.1,o.2.2.2.2.2.2.2.2.2.2.2.2.2.1,o.2.2.2.2.2.2.2.2.2.2.2.2.2.2.1,o.2.2.2.2.2.2.2.2.2.2.2.2.2.2.2.1,o.2.2.2.2.2.2.2.2.2.2.2.2.2.2.2.2.1,o.2.2.2.2.2.2.2.2.2.2.2.2.2.2.2.2.2.1,o.2.2.2.2.2.2.2.2.2.2.2.2.2.2.2.2.2.2.1,o.2.2.2.2.2.2.2.2.2.2.2.2.2.2.2.2.2.2.2.1,T),rfl,⟨Jo,a5,a0,n.1.2.1,n.1.c.1,n.1.d.1,n.1.e.1,n.1.g.1,n.1.h.1,n.1.i.1,n.1.j.1,n.1.k.1,n.1.k.2.1,n.1.k.c.1,n.1.k.d.1,n.1.k.e.1,n.1.k.g.1,n.1.k.h.1,n.1.k.i.1,n.1.k.k.1,_a,om,om,om,om,om⟩,om,om⟩) λa2=>.s ⟨⟨⟨i4,Q,⟨V,R,P⟩,⟨U,E,K⟩,⟨L,D⟩,G,w,A⟩,C,H,_e,_g,F⟩,r.u,i3.u⟩) λa1=>.s ⟨⟨⟨i4,Q,⟨V,R,P⟩,⟨U,E,K⟩,⟨L,D⟩,G,w,A⟩,C,H,_e,_g,F⟩,r.u,i3.u⟩) λa3=>.s ⟨⟨⟨i4,Q,⟨V,R,P⟩,⟨U,E,K⟩,⟨L,D⟩,G,w,A⟩,C,H,_e,_g,F⟩,r.u,i3.u⟩) (0,[],[],X.1.1.1,X.1.1.2.1,X.1.1.2.2.1.1,X.1.1.2.2.1.2.1,X.1.1.2.2.1.2.2,X.1.1.2.2.2.1.1,X.1.1.2.2.2.1.2.1,X.1.1.2.2.2.1.2.2,X.1.1.2.2.2.2.1.1,X.1.1.2.2.2.2.1.2,X.1.1.2.2.2.2.2.1,X.1.1.2.2.2.2.2.2.1,X.1.1.2.2.2.2.2.2.2,X.1.2.1,X.1.2.2.1,X.1.2.2.2.1,X.1.2.2.2.2.1,X.1.2.2.2.2.2,J,[]) rfl ⟨aG,Jd,Jd,h.1.1.1,h.1.1.2.1,h.1.1.c.1.1,h.1.1.c.1.2.1,h.1.1.c.1.c,h.1.1.d.1.1,h.1.1.d.1.2.1,h.1.1.d.1.c,h.1.1.e.1.1,h.1.1.e.1.2,h.1.1.g.1,h.1.1.h.1,h.1.1.i,h.1.2.1,h.1.c.1,h.1.d.1,h.1.g,Jd,om,om,om,om,om⟩
theorem Jma{B S:Int}{X:gy}(h:aC B S ey X)(p0:0<=X.2.2.2)(x:0<=X.1)(r:X.1<=1000)(q:BH B S:=by omega)(C:B<=1000000:=by omega)(A:S<=1000000000000:=by omega):_n (iw X) λy=>aC B S (.pr Jt J6) y/\(0<=y.2.2):=.b (Jk (B:=B) (S:=S) ⟨aJ 4,h.c⟩ om) λD n=>have:=J2.1 n.1.c;.b (Jk (B:=B) (S:=S) ⟨aJ 3,n.1.2⟩ om) λv j=>have:=J2.1 j.1.c;.b (JGf (B:=0) (S:=0) ⟨Jo,Jo⟩) λz k=>.b (JkI (B:=B) (S:=S) ⟨Jo,h.1,_g,j.1.2⟩ om om om) λo e=>have:0<=o.2.2:=e.2;.b (JGz (B:=B) (S:=S) ⟨k.1.u,e.1.1⟩) λw g=>.s ⟨⟨g.1,e.1.2⟩,om⟩
theorem Jni{B S:Int}{X:gy}(h:aC B S ey X)(p0:0<=X.2.2.2)(k:0<=X.1)(o:X.1<=1000)(j:BH B S:=by omega)(q:B<=1000000:=by omega)(n:S<=1000000000000:=by omega):_n (ii X) λy=>aC B S (.pr Je J6) y/\(0<=y.2.2):=.b (Jma (B:=B) (S:=S) ⟨h.1,_g,h.c⟩ om om om) λg e=>have:0<=g.2.2:=e.2;.s ⟨⟨e.1.1.1,e.1.2⟩,om⟩
theorem JKV{B S:Int}{X:oD}(h:aC B S GO X)(p0:0<=X.2.2)(o:0<=X.1)(v:X.1<=1000)(n:BH B S:=by omega)(w:B<=1000000:=by omega)(r:S<=1000000000000:=by omega):_n (WG X) λy=>aC B S (.pr zI uc) y/\(0<=y.2.2.2):=.b (Jni (B:=B) (S:=S) ⟨h.1,_g,h.2⟩ om om om) λk e=>have:0<=k.2.2:=e.2;.b (OZ e.1.1.c.1) λq g=>.b (YG (B:=B) (S:=S) ⟨e.1.1.c.1,g⟩) λx j=>.s ⟨⟨e.1.1.1,j.1.1.u,e.1.2⟩,om⟩
section
theorem _n.step{σ ρ:Type}{L:σ->Option (σ⊕ρ)}{Q:ρ->Prop}{s:σ}(h:_n (L s) λr=>match r with| .inl z=>_n (J5 L z) Q| .inr y=>Q y):_n (J5 L s) Q:=by
 obtain⟨r,e,h⟩:=h;cases r with
 |inl z=>rw[eX e];exact h
 |inr y=>rw[dN e];exact⟨y,rfl,h⟩
abbrev xF{σ ρ:Type}(Q:ρ->Prop):σ⊕ρ->Prop
 | .inl _=>False
 | .inr y=>Q y
abbrev uo{σ ρ β:Type}(e:β->σ)(P:β->Prop)(Q:ρ->Prop):σ⊕ρ->Prop
 | .inl z=> ∃g,z=e g/\P g
 | .inr y=>Q y
theorem _n.endq{σ ρ:Type}{Q:ρ->Prop}{o:Option ρ}(h:_n o Q):_n (Option.map (Sum.inr:ρ->σ⊕ρ) o) (xF Q):=h.map λ_ h=>h
theorem _n.stq{σ ρ:Type}{L:σ->Option (σ⊕ρ)}{Q:ρ->Prop}{o:Option ρ}(h:_n o Q):_n (Option.map (Sum.inr:ρ->σ⊕ρ) o) λr=>match r with| .inl z=>_n (J5 L z) Q| .inr y=>Q y:=h.map λ_ h=>h
theorem dZ{σ ρ α β:Type}{L:σ->Option (σ⊕ρ)}{Q:ρ->Prop}{l:List α}(e:Int->β->σ)(P:List α->β->Prop)
  (hs: ∀(pre:List α) (x:α) (t:List α) (b:β),l=pre++x::t->P pre b->_n (L (e (J0 pre) b)) (uo (e (J0 (pre++[x]))) (P (pre++[x])) Q))
  (he: ∀b,P l b->_n (L (e (J0 l) b)) (xF Q)):
  ∀(t pre:List α) (b:β) (s:σ),l=pre++t->s=e (J0 pre) b->P pre b->_n (J5 L s) Q
 |[],pre,b,s,g,j,k=>by
  rw[gH]at g;subst g j;refine .step ((he b k).mono λr h=>?_);cases r with
  |inl z=>exact h.elim
  |inr y=>exact h
 |x::t,pre,b,s,g,j,k=>by
  subst j;refine .step ((hs pre x t b g k).mono λr h=>?_);cases r with
  |inl z=>obtain⟨n,o,h1⟩:=h;exact dZ e P hs he t (pre++[x]) n z (by rw[g];simp) o h1
  |inr y=>exact h
section
variable {α:Type} {l pre t:List α} {x:α}
theorem cW(h:l=pre++x::t):idx l (J0 pre)=Z x:=by subst h;unfold idx J0;simp
theorem cL(h:l=pre++x::t):J0 pre<J0 l:=by subst h;unfold J0;simp;omega
theorem JRZ(h:l=pre++x::t)(hl:J0 l<=4611686018427387904):J1 I (J0 pre) 1=J0 (pre++[x]):=by have h1:=cL h;have h2:=Ja (l:=pre);have e:=Jl (J0 pre) 1;rw[cQ,cA];omega
theorem CW{β:Type}(f:α->β)(h:l=pre++x::t):idx (l.map f) (J0 pre)=Z (f x):=by subst h;unfold idx J0;simp
theorem TD(h:l=pre++x::t):aR (_H l) (J0 pre)=Z ():=by subst h;unfold aR J0;simp;omega
theorem TJ(h:l=pre++x::t):aV l (_G (J0 pre))=Z x:=by subst h;unfold aV J0;simp
end
end
section
variable {B S:Int}
def EF(e:aA):Prop:=1<=e.1/\e.1<=1099511627776/\1<=e.2.2.1/\e.2.2.1<=1073741824/\0<=e.2.2.2.1/\e.2.2.2.1<e.1/\0<=e.2.2.2.2.1/\e.2.2.2.2.1<e.1/\0<=e.2.2.2.2.2.1/\e.2.2.2.2.2.1<e.1/\e.2.2.2.2.2.2.2=[]/\mG e.2.2.2.2.2.2.1=Z O/\((e.2.1=1/\e.2.2.2.2.2.1=0)\/(e.2.1=2/\0<e.2.2.2.1/\1<=e.2.2.2.2.2.1/\e.2.2.2.2.2.1<=e.2.2.2.1))
theorem ny{x:Jq}(e:mH x=Z O):0<=x.1/\x.1<x.2:=by
 have g:_t (mH x) λy=>y=O->0<=x.1/\x.1<x.2:=.h (λc=>.s λd=>⟨c,Jp.1 d⟩) λ_=>.s nofun
 exact g _ e rfl
theorem EF.of{e:aA}(h:JJ e=Z O)(hk:e.2.1=1\/e.2.1=2):EF e:=by
 have x:_t (sD e) λy=>y.2=O->y.1=e->1<=e.2.2.1/\e.2.2.1<=1073741824/\e.2.2.2.2.2.2.2=[]/\mG e.2.2.2.2.2.2.1=Z O/\((e.2.1=1/\e.2.2.2.2.2.1=0)\/(e.2.1=2/\0<e.2.2.2.1/\1<=e.2.2.2.2.2.1/\e.2.2.2.2.2.1<=e.2.2.2.1)):=by
  unfold sD;refine .e (λk=>.b λH h2=>.e (λg=>by omega) λ_=>.i (λj=>.h (λn=>.s λo L=>?_) λ_=>.s nofun) λ_=>.s nofun) λk=>.e (λg=>.b λH h2=>.e (λ_=>.i (λj=>.g (λR=>.h (λS=>.G (λQ=>.h (λn=>.s λo L=>?_) λ_=>.s nofun) λ_=>.s nofun) λ_=>.s nofun) λ_=>.s nofun) λ_=>.s nofun) λc=>absurd g c) λg=>by omega
  grind [dK];grind [dK]
 have q:_t (JJ e) λy=>y=O->EF e:=by unfold JJ;refine .b λa M=>.i (λk=>.i (λg=>.h (λn=>.G (λo=>.b λb1 v=>.i (λF=>.b λb2 r=>.i (λj=>.b λP w=>.s λC=>?_) λ_=>.s nofun) λ_=>.s nofun) λ_=>.s nofun) λ_=>.s nofun) λ_=>.s nofun) λ_=>.s nofun;subst F;subst j;subst C;obtain⟨N,_c,_e,K,_d⟩:=x _ M k (eB.1 g);obtain⟨G,D⟩:=ny v;obtain⟨z,B⟩:=ny r;obtain⟨A,E⟩:=ny w;exact⟨n,o,N,_c,G,D,z,B,A,E,_e,K,_d⟩
 exact q _ h rfl
theorem y1{c:kY}(h:JR c=Z O):_n (JR c) λy=>y=O:=by have e:JR c=JR c:=rfl;exact⟨O,e.trans h,rfl⟩
theorem Bs{c:hQ}(h:mG c=Z O):_n (wU c) λy=>y=O:=by
 have j:_t (mG c) λy=>y=O->0<=c.1/\c.1<64/\0<=c.2.1/\c.2.1<16/\JR c.2.2.1=Z O/\JR c.2.2.2=Z O:=by unfold mG;refine .h (λe=>.l (λg=>.h (λk=>.l (λn=>.b λa D=>.i (λA=>.b λb hb=>.s λw=>?_) λ_=>.s nofun) λ_=>.s nofun) λ_=>.s nofun) λ_=>.s nofun) λ_=>.s nofun;simp_all
 obtain⟨e,g,k,n,o,r⟩:=j _ h rfl;unfold wU;have v:_n (EV c.1) λy=>y=O:=.h (λ_=>.s (Jp.2 g)) λc=>absurd e c
 refine .b v λC d=>.i (λ_=>.h (λ_=>.l (λ_=>.b (y1 o) λz x=>.i (λ_=>.b (y1 r) λB q=>.s q) λc=>by simp_all) λc=>absurd n c) λc=>absurd k c) λc=>by simp_all
theorem JK8{e:aA}(h:EF e):_n (lG e) λy=>y=O:=by
 obtain⟨N,_c,L,M,C,B,w,v,D,k,g,q,F⟩:=h;have j: ∀{n:Int},0<=n->n<e.1->_n (sI (n,e)) λy=>y=O:=fun{n} h1 h2=>by unfold sI;exact .h (λ_=>.s (Jp.2 h2)) λc=>absurd h1 c
 have _d: ∀{b:Bool} {Q:Prop},b=O->Jg b=O->Q:=fun{b Q} h1 h2=>by subst h1;cases h2
 have hb:neS e.2.2.2.2.2.2.2 []=J:=by rw[g];rfl
 have r:J0 e.2.2.2.2.2.2.2<=8192:=by rw[g];decide
 unfold lG;refine .j (λ_=>.k (λ_=>.j (λ_=>.k (λ_=>.b (j C B) λK G=>.r (λ_=>.b (j w v) λ_e H=>.r (λ_=>.b (j D k) λA o=>.n (λc=>by simp_all) λ_=>?_) λc=>by simp_all) λc=>by simp_all) λc=>by omega) λc=>by omega) λc=>by omega) λc=>by omega
 refine .e (λc=>by omega) λ_=>.e (λc=>by omega) λ_=>.e (λc=>by omega) λ_=>.e (λc=>by omega) λ_=>.e (λc=>by omega) λ_=>.e (λc=>by omega) λ_=>.e (λz=>?_) λz=>.e (λx=>?_) λx=>by omega
 refine .j (λ_=>.g (λc=>by omega) λ_=>.e (λc=>by omega) λ_=>.i (λc=>by simp_all) λ_=>.G (λ_=>?_) λc=>absurd r c) λc=>by omega
 have E:_n (nK e) λy=>y=O:=.h (λ_=>.s (dK.2 oo)) λc=>by omega
 exact .b E λy d=>.i (λ_=>.b (Bs q) λA o=>.s o) λc=>by simp_all
 refine .j (λ_=>.g (λc=>by omega) λ_=>.d (λc=>by omega) λ_=>.i (λc=>by simp_all) λ_=>.G (λ_=>?_) λc=>absurd r c) λc=>by omega
 grind [jG,Bs]
def bI(e:aA):Int:=e.2.2.2.2.2.2.1.1
def tF(r:Jc):Prop:=1<=r.1/\r.1<=r.2.1/\r.2.1<=1099511627776/\0<=r.2.2.1/\r.2.2.1<=r.2.2.2.1/\r.2.2.2.1<64/\0<=r.2.2.2.2.1/\r.2.2.2.2.1<=8
def MD(r:Jc)(e:aA):Prop:=JJ e=Z O/\(e.2.1=1\/e.2.1=2)/\r.1<=e.1/\e.1<=r.2.1/\r.2.2.1<=bI e/\bI e<=r.2.2.2.1
def mT(f:Int)(a b:aA):Prop:=(bI a<bI b/\b.2.2.2.2.1<f)\/(bI a=bI b/\a.1<b.1/\b.2.2.2.2.1=a.1)
def eE(r:Jc):Prop:=tF r/\J0 r.2.2.2.2.2<=4096/\(∀(j:Nat) (e:aA),r.2.2.2.2.2[j]?=Z e->MD r e)/\(∀e,r.2.2.2.2.2[0]?=Z e->e.2.2.2.2.1<r.1)/\ ∀(j:Nat) (a b:aA),r.2.2.2.2.2[j]?=Z a->r.2.2.2.2.2[j+1]?=Z b->mT r.1 a b
theorem tF.of{r:Jc}(h:lH (r.1,r.2.1,r.2.2.1,r.2.2.2.1,r.2.2.2.2.1)=Z O):tF r:=by
 have e:_t (lH (r.1,r.2.1,r.2.2.1,r.2.2.2.1,r.2.2.2.2.1)) λy=>y=O->tF r:=.h (λw=>.G (λg=>.G (λj=>.h (λv=>.G (λo=>.l (λq=>.h (λk=>.s λn=>⟨w,g,j,v,o,q,k,dK.1 n⟩) λ_=>.s nofun) λ_=>.s nofun) λ_=>.s nofun) λ_=>.s nofun) λ_=>.s nofun) λ_=>.s nofun) λ_=>.s nofun
 exact e _ h rfl
theorem JKl{e:aA}(h:Ju e=Z O):e.2.1=1\/e.2.1=2:=by
 grind [Ju,eM]
theorem Cr{e:aA}(h:e.2.1=1\/e.2.1=2):_n (Ju e) λy=>y=O:=.p (λc=>.s (eM.2 oo)) λ_=>.s rfl
theorem V0{e:aA}(h:e.2.1=1\/e.2.1=2):_n (Ju e) λy=>y=O:=Cr h
theorem Bg{a b:aA}{y:Int}(h:mE (a,b)=Z y)(c: ¬0<=y):bI a<bI b\/(bI a=bI b/\a.1<b.1):=by
 have e:_t (mE (a,b)) λy=> ¬0<=y->bI a<bI b\/(bI a=bI b/\a.1<b.1):=.j (λ_=>.e (λj=>.l (λg=>.s λ_=>.inr ⟨j,g⟩) λ_=>.e (λ_=>.e (λ_=>.s λc=>absurd (bA 0) c) λ_=>.s λc=>absurd _k c) λ_=>.s λc=>absurd _k c) λ_=>.e (λ_=>.e (λ_=>.s λc=>absurd (bA 0) c) λ_=>.s λc=>absurd _k c) λ_=>.s λc=>absurd _k c) λc=>.s λ_=>.inl c
 exact e _ h c
theorem JGq{a b:aA}(h:bI a<bI b\/(bI a=bI b/\a.1<b.1)):_n (mE (a,b)) λy=> ¬0<=y:=by unfold bI at h;unfold mE;exact .j (λc=>.e (λe=>.l (λg=>.s _k) λj=>by simp_all) λe=>by simp_all) λc=>.s _k
theorem eE.of{r:Jc}(h:fA r=Z O):eE r:=by
 have F:_t (fA r) λy=>y=O->eE r:=by
  unfold fA;refine .b λa g=>.r (λN=>.g (λ_=>.s nofun) λ_c=>?_) λ_=>.s nofun;subst N;refine .z (λz=>z.2=r/\0<=z.1/\(∀(j:Nat) (e:aA),(j:Int)<z.1->r.2.2.2.2.2[j]?=Z e->MD r e)/\(∀e,0<z.1->r.2.2.2.2.2[0]?=Z e->e.2.2.2.2.1<r.1)/\ ∀(j:Nat) (a b:aA),(j:Int)+1<z.1->r.2.2.2.2.2[j]?=Z a->r.2.2.2.2.2[j+1]?=Z b->mT r.1 a b) ⟨rfl,bA _,λj e h=>by grind,λe h=>by simp_all,λj a b h=>by grind⟩ ?_;rintro⟨i,z⟩ ⟨rfl,Q,h1,h2,_d⟩;dsimp only at Q h1 h2 _d _c;unfold ZO;dsimp only;have o1:=Jl i 1;have o2:=bF i 1;refine .l (λc=>?_) λc=>.s λ_=>⟨tF.of g,by omega,λj e n=>h1 j e (by have:=jO n;omega) n,λe n=>h2 e (by have:=jO n;omega) n,λj a b E C=>_d j a b (by have:=jO C;omega) E C⟩;refine .b λe n=>.b λb hb=>.r (λP=>.b λd hd=>.r (λM=>.j (λc5=>.k (λc6=>.j (λ_b=>.g (λ_=>.s nofun) λW=>?_) λ_=>.s nofun) λ_=>.s nofun) λ_=>.s nofun) λ_=>.s nofun) λ_=>.s nofun;subst P;subst M;obtain⟨_,U⟩:=dG n;have L:MD z e:=⟨hb,JKl hd,by omega,by omega,by grind [bI],by grind [bI]⟩;have nx:(i=0->e.2.2.2.2.1<z.1)->(∀a,0<i->z.2.2.2.2.2[(i-1).toNat]?=Z a->mT z.1 a e)->(z=z/\0<=J1 I i 1/\(∀(j:Nat) (e:aA),(j:Int)<J1 I i 1->z.2.2.2.2.2[j]?=Z e->MD z e)/\(∀e,0<J1 I i 1->z.2.2.2.2.2[0]?=Z e->e.2.2.2.2.1<z.1)/\ ∀(j:Nat) (a b:aA),(j:Int)+1<J1 I i 1->z.2.2.2.2.2[j]?=Z a->z.2.2.2.2.2[j+1]?=Z b->mT z.1 a b):=by
   intro n1 n2;refine⟨rfl,by omega,λj f S hf=>?_,λf hp hf=>?_,λj a b S g hb=>?_⟩;by_cases R:(j:Int)<i;grind;have:j=i.toNat:=by omega
   grind;by_cases hi:0<i;grind;have H:i=0:=by omega
   subst H;grind;by_cases R:(j:Int)+1<i;grind;have e1:j+1=i.toNat:=by omega
   have e2:j=(i-1).toNat:=by omega
   grind
  have x: ∀{a:aA},0<i->idx z.2.2.2.2.2 (Jm I i 1)=Z a->z.2.2.2.2.2[(i-1).toNat]?=Z a:=fun{a} hi g=>by obtain⟨_,q⟩:=dG g;rw[show(i-1).toNat=(Jm I i 1).toNat by omega];exact q
  have zero: ¬0<i-> ¬z.1<=e.2.2.2.2.1->(z=z/\0<=J1 I i 1/\(∀(j:Nat) (e:aA),(j:Int)<J1 I i 1->z.2.2.2.2.2[j]?=Z e->MD z e)/\(∀e,0<J1 I i 1->z.2.2.2.2.2[0]?=Z e->e.2.2.2.2.1<z.1)/\ ∀(j:Nat) (a b:aA),(j:Int)+1<J1 I i 1->z.2.2.2.2.2[j]?=Z a->z.2.2.2.2.2[j+1]?=Z b->mT z.1 a b):=λhi hf=>nx (λ_=>by omega) λa h=>absurd h hi;refine .g (λw=>.b λV B=>.b λ_a G=>.h (λ_=>.s nofun) λD=>.g (λ_=>.b λy9 k=>.e (λA=>.b λT v=>.d (λ_=>.s nofun) λo=>.s ?_) λA=>.h (λ_=>.s nofun) λo=>.s ?_) λc=>absurd w c) λw=>.g (λc=>absurd c w) λ_=>.h (λ_=>.s nofun) λo=>.s (zero w o);rw[B]at k v;injection k with k;injection v with v;subst k;subst v;refine nx (λh=>by omega) λa _ g=>?_;rw[x w B]at g;cases g;rcases Bg G D with q|⟨_e,K⟩;grind [bI];exact .inr ⟨A,K,o⟩;rw[B]at k;cases k;refine nx (λh=>by omega) λa _ g=>?_;rw[x w B]at g;cases g;rcases Bg G D with q|⟨_e,K⟩;exact .inl ⟨q,by omega⟩;exact absurd _e A
 exact F _ h rfl
end
section
variable {B S:Int}
theorem eA{α:Type}{l:List α}{i:Int}(h0:0<=i)(h1:i<J0 l): ∃a,idx l i=Z a/\l[i.toNat]?=Z a:=by simp_all [J0,idx]
theorem Cp{r:Jc}(h:tF r):_n (lH (r.1,r.2.1,r.2.2.1,r.2.2.2.1,r.2.2.2.2.1)) λy=>y=O:=by obtain⟨h1,h2,o,k,n,e,j,g⟩:=h;unfold lH;exact .h (λ_=>.G (λ_=>.G (λ_=>.h (λ_=>.G (λ_=>.l (λ_=>.h (λ_=>.s (dK.2 g)) λc=>absurd j c) λc=>absurd e c) λc=>absurd n c) λc=>absurd k c) λc=>absurd o c) λc=>absurd h2 c) λc=>absurd h1 c
theorem JAF{r:Jc}(h:tF r):_n (LB r) λy=>y=O:=by obtain⟨h1,h2,o,k,n,e,j,g⟩:=h;unfold LB;exact .h (λ_=>.G (λ_=>.G (λ_=>.h (λ_=>.G (λ_=>.l (λ_=>.h (λ_=>.s (dK.2 g)) λc=>absurd j c) λc=>absurd e c) λc=>absurd n c) λc=>absurd k c) λc=>absurd o c) λc=>absurd h2 c) λc=>absurd h1 c
theorem eK{α:Type}{o:Option α}{v:α}(h:o=Z v):_n o λy=>y=v:=⟨v,h,rfl⟩
theorem zw{r:Jc}(h:eE r){i:Int}(hi:0<i)(hl:i<J0 r.2.2.2.2.2){a b:aA}(ha:r.2.2.2.2.2[(i-1).toNat]?=Z a)(hb:r.2.2.2.2.2[i.toNat]?=Z b):mT r.1 a b:=
 h.2.2.2.2 (i-1).toNat a b ha (by rw[show(i-1).toNat+1=i.toNat by omega];exact hb)
theorem Bd{r:Jc}(h:eE r):fA r=Z O:=by
 have n:_n (fA r) λy=>y=O:=by
  obtain⟨L,g2,_d,_b,g5⟩:=id h;unfold fA;refine .b (Cp L) λy2 Q=>.r (λ_=>.g (λc=>by omega) λ_=>?_) λc=>by grind
  refine Jn (τ:=Int) (λq=>(q,r)) (λq=>0<=q/\q<=J0 r.2.2.2.2.2) (λq=>J0 r.2.2.2.2.2-q) ?_ 0 rfl ⟨bA _,Ja⟩;rintro i ⟨K,h1⟩;unfold ZO;dsimp only;have W:=Jl i 1;have U:=bF i 1;refine .l (λc=>?_) λc=>.s rfl;obtain⟨e,N,j⟩:=eA K c;obtain⟨E,B,P,R,z,C⟩:=_d _ e j;have nx: ∃c':Int,((J1 I i 1,r):Int×Jc)=(c',r)/\(0<=c'/\c'<=J0 r.2.2.2.2.2)/\J0 r.2.2.2.2.2-c'<J0 r.2.2.2.2.2-i/\0<=J0 r.2.2.2.2.2-i:=⟨J1 I i 1,rfl,⟨by omega,by omega⟩,by omega,by omega⟩;unfold bI at z C;refine .b (eK N) λG _e=>?_;subst _e;refine .b (eK E) λV d5=>.r (λ_=>.b (Cr B) λ_a T=>.r (λ_=>.j (λ_=>.k (λ_=>.j (λ_=>.g (λc=>by omega) λ_=>?_) λc=>by omega) λc=>by omega) λc=>by omega) λc=>by grind) λc=>by grind
  refine .g (λg=>?_) λg=>.g (λc=>absurd c g) λ_=>.h (λc=>?_) λ_=>.s nx
  ·have M:Jm I i 1=i-1:=by omega
   rw[M];obtain⟨a,k,v⟩:=eA (l:=r.2.2.2.2.2) (i:=i-1) oo oo;have w:=zw h g c v j;refine .b (eK k) λA D=>?_;subst D;refine .b (JGq (a:=A) (b:=G) (by rcases w with⟨q,_⟩|⟨q1,q2,_⟩;all_goals grind)) λS H=>.h (λc=>absurd c H) λ_=>.g (λ_=>.b (eK k) λy9 F=>?_) λc=>absurd g c;subst F;unfold mT bI at w;refine .e (λo=>.b (eK k) λ_c x=>?_) λo=>.h (λc=>by omega) λ_=>.s nx;subst x;exact .d (λc=>by omega) λ_=>.s nx
  grind
 obtain⟨y,e,d⟩:=n;rw[e,d]
theorem JFn{a b:aA}(h:bI a=bI b/\a.1<b.1):_n (KQ (a,b)) λy=> ¬0<=y:=by
 obtain⟨h1,h2⟩:=h;unfold bI at h1;have j:nL (a.2.2.2.2.2.2.1.1,b.2.2.2.2.2.2.1.1)=Z 0:=(by grind [nL,nJ,aK,aO]);have e:nL (a.1,b.1)=Z (-1):=(by grind [nL,nJ,aN,aK]);unfold KQ;dsimp only;rw[j,e];show _n ((tZ [0, -1]).bind _) _;have g:tZ [0, -1]=Z (-1):=by unfold tZ;rw[eX (s':=(0,[0, -1],J0 ([0, -1]:_F),1)) (by rfl)];exact dN (by rfl)
 rw[g];exact .s _k
theorem F2{r:Jc}(h:eE r):jZ r=Z O:=by
 have v:_n (jZ r) λy=>y=O:=by
  obtain⟨N,g2,K,_b,g5⟩:=id h;unfold jZ;refine .b (JAF N) λy2 S=>.r (λ_=>.g (λc=>by omega) λ_=>?_) λc=>by grind
  refine Jn (τ:=Int) (λq=>(r.2.2.2.2.2,J0 r.2.2.2.2.2,q,r)) (λq=>0<=q/\q<=J0 r.2.2.2.2.2) (λq=>J0 r.2.2.2.2.2-q) ?_ 0 rfl ⟨bA _,Ja⟩;rintro i ⟨L,h1⟩;unfold qe;dsimp only;have W:=Jl i 1;have U:=bF i 1;refine .l (λc=>?_) λc=>.s rfl;obtain⟨e,P,g⟩:=eA L c;obtain⟨D,n,z,A,k,o⟩:=K _ e g;have nx: ∃c':Int,((r.2.2.2.2.2,J0 r.2.2.2.2.2,J1 I i 1,r):eb)=(r.2.2.2.2.2,J0 r.2.2.2.2.2,c',r)/\(0<=c'/\c'<=J0 r.2.2.2.2.2)/\J0 r.2.2.2.2.2-c'<J0 r.2.2.2.2.2-i/\0<=J0 r.2.2.2.2.2-i:=⟨J1 I i 1,rfl,⟨by omega,by omega⟩,by omega,by omega⟩;unfold bI at k o;have M:_n (LA (r,e)) λy=>y=O:=.b (V0 n) λy d=>.i (λ_=>.h (λ_=>.G (λ_=>.h (λ_=>.s (dK.2 A)) λc=>absurd z c) λc=>absurd o c) λc=>absurd k c) λc=>by grind
  refine .b (eK P) λG _d=>?_;subst _d;refine .b (JK8 (EF.of D n)) λV d5=>.r (λ_=>.b M λ_a T=>.n (λc=>by grind) λ_=>?_) λc=>by grind
  refine .p (λE=>?_) λE=>.h (λc=>?_) λ_=>.s nx;have hi:0<i:=by omega
  have _c:Jm I i 1=i-1:=by omega
  rw[_c];obtain⟨a,x,w⟩:=eA (l:=r.2.2.2.2.2) (i:=i-1) oo oo;have j:=zw h hi c w g;refine .b (eK x) λR B=>?_;subst B;refine .l (λ_e=>.h (λc=>?_) λ_=>.s nx) λ_e=>.b (eK x) λC H=>?_;unfold mT bI at j;omega;subst H;have Q:=j;unfold mT bI at j;refine .b (JFn (a:=C) (b:=G) (by unfold bI;omega)) λy9 F=>.o (λ_=>.d (λc=>by omega) λ_=>.s nx) λc=>absurd c F;grind
 obtain⟨y,e,d⟩:=v;rw[e,d]
end
section
variable {B S:Int}
def ent(r:Jc):List aA:=r.2.2.2.2.2
theorem eT{α:Type}{bytes:Nat}{l m:List α}(h:J0 l+J0 m<=34359738368)(hb:bytes<=2048):Jr bytes l m=Z (l++m):=by
 grind [Jr,UL,J0]
end
section
variable {B S:Int}
theorem m0(x:Int×aA):_n (sI x) λy=>y=O->0<=x.1/\x.1<x.2.1:=.h (λc=>.s λd=>⟨c,Jp.1 d⟩) λ_=>.s nofun
theorem Qg(c:kY):_n (JR c) λy=>JR c=Z y:=by
 have g:_n (JR c) λ_=>True:=.i (λ_=>.t (λ_=>.s _g) λ_=>.s _g) λ_=>.s _g
 obtain⟨y,e,_⟩:=g;exact⟨y,e,e⟩
theorem JNJ(n:Int):_n (EV n) λy=>y=O->0<=n/\n<64:=.h (λc=>.s λd=>⟨c,Jp.1 d⟩) λ_=>.s nofun
theorem zv(c:hQ):_n (wU c) λy=>y=O->mG c=Z O:=by
 unfold wU;refine .b (JNJ c.1) λn h2=>.i (λe=>.h (λk=>.l (λo=>.b (Qg c.2.2.1) λj v=>.i (λh=>.b (Qg c.2.2.2) λq r=>.s λg=>?_) λ_=>.s nofun) λ_=>.s nofun) λ_=>.s nofun) λ_=>.s nofun;grind [mG,jF,Jp]
theorem JQZ(c:hQ):_n (zU c) λ_=>True:=⟨_,rfl,_g⟩
theorem Mi(e:aA):_n (jG e) λ_=>True:=⟨_,rfl,_g⟩
theorem JVv(e:aA):_n (nK e) λy=>y=O->1<=e.2.2.2.2.2.1/\e.2.2.2.2.2.1<=e.2.2.2.1:=.h (λc=>.s λd=>⟨c,dK.1 d⟩) λ_=>.s nofun
theorem JV6(c:hQ):_n (FC c) λ_=>True:=.i (λ_=>.i (λ_=>.s _g) λ_=>.s _g) λ_=>.s _g
theorem Qd{l:_j}(h:neS l []=J):l=[]:=by
 grind [neS]
theorem JRW(e:aA):_n (lG e) λy=>y=O->(e.2.1=1\/e.2.1=2)->EF e:=by
 have g: ∀{o:Option Bool},(3<=e.2.1\/e.2.1<=0)->_n o (λ_=>True)->_n o λy=>y=O->(e.2.1=1\/e.2.1=2)->EF e:=λh ht=>ht.mono λ_ _ _ hk=>by omega
 unfold lG;refine .j (λ_c=>.k (λP=>.j (λM=>.k (λN=>.b (m0 _) λL h2=>.r (λA=>.b (m0 _) λ_d H=>.r (λB=>.b (m0 _) λK E=>.n (λ_=>.s nofun) λD=>?_) λ_=>.s nofun) λ_=>.s nofun) λ_=>.s nofun) λ_=>.s nofun) λ_=>.s nofun) λ_=>.s nofun;have b2:=h2 A;have j:=H B;have k:=E D;refine .e (λc=>g oo ?_) λ_=>.e (λc=>g oo ?_) λ_=>.e (λc=>g oo ?_) λ_=>.e (λc=>g oo ?_) λ_=>.e (λc=>g oo ?_) λ_=>.e (λc=>g oo ?_) λ_=>.e (λx=>?_) λx=>.e (λw=>?_) λw=>by omega
 case refine_7=>refine .j (λG=>.g (λ_=>.s nofun) λC=>.e (λ_=>.s nofun) λv=>.i (λ_=>.s nofun) λn=>.G (λ_=>.b (JVv e) λy h=>.i (λd=>.b (zv _) λz r=>.s λq _=>?_) λ_=>.s nofun) λ_=>.s nofun) λ_=>.s nofun;obtain⟨F,_e⟩:=h d;exact⟨by omega,by omega,by omega,by omega,b2.1,b2.2,j.1,j.2,k.1,k.2,Qd n,r q,.inr ⟨x,by have:=b2.1;dsimp only at this;omega,F,_e⟩⟩
 case refine_8=>refine .j (λG=>.g (λ_=>.s nofun) λC=>.d (λ_=>.s nofun) λv=>.i (λ_=>.s nofun) λn=>.G (λ_=>.b (Mi e) λy h=>.i (λd=>.b (zv _) λz r=>.s λq _=>?_) λ_=>.s nofun) λ_=>.s nofun) λ_=>.s nofun;exact⟨by omega,by omega,by omega,by omega,b2.1,b2.2,j.1,j.2,k.1,k.2,Qd n,r q,.inl ⟨w,v⟩⟩
 all_goals repeat' first
  |exact .s _g
  |refine .i (λ_=>?_) λ_=>?_
  |refine .t (λ_=>?_) λ_=>?_
  |refine .b (Mi _) λ_ _=>?_
  |refine .b (JQZ _) λ_ _=>?_
  |refine .b (JV6 _) λ_ _=>?_
end
section
variable {B S:Int}
def gJ(x y:Int):Int:=if x<y then -1 else if y<x then 1 else 0
def iM(a b:aA):Int:=if gJ (bI a) (bI b)=0 then gJ a.1 b.1 else gJ (bI a) (bI b)
theorem JNU(x:Int):aN x x=J:=by simp[aN]
theorem HL(x y:Int):nL (x,y)=Z (gJ x y):=by
 grind [nL,nJ,gJ,JNU,aK,aO]
theorem JVt(p q:Int):tZ [p,q]=Z (if p=0 then q else p):=by
 unfold tZ;have h: ∀p q:Int,AB (0,[p,q],J0 [p,q],0)=if aN p 0=O then Z (.inr p)else Z (.inl (0,[p,q],J0 [p,q],1)):=λp q=>rfl
 have e: ∀p q:Int,AB (0,[p,q],J0 [p,q],1)=if aN q 0=O then Z (.inr q)else Z (.inl (0,[p,q],J0 [p,q],2)):=λp q=>rfl
 have k: ∀p q:Int,AB (0,[p,q],J0 [p,q],2)=Z (.inr 0):=λp q=>rfl;by_cases g:p=0;subst g;rw[if_pos rfl,eX ((h 0 q).trans (if_neg _k))];by_cases j:q=0;subst j;rw[eX ((e 0 0).trans (if_neg _k))];grind [dN];grind [dN,eF];grind [dN,eF]
theorem JRz(a b:aA):KQ (a,b)=Z (iM a b):=by
 grind [KQ,iM,bI,HL,JVt]
theorem Oo(a b:aA):mE (a,b)=Z (iM a b):=by
 have h:_n (mE (a,b)) λy=>y=iM a b:=by
  unfold mE iM gJ bI;dsimp only;refine .j (λc=>.e (λg=>.l (λj=>.s ?_) λj=>.e (λ_=>.e (λk=>.s ?_) λk=>.s ?_) λc=>absurd g c) λg=>.e (λc=>absurd c g) λ_=>.s ?_) λc=>.s ?_
  all_goals grind
 obtain⟨y,e,d⟩:=h;rw[e,d]
def ltE(a b:aA):Prop:=bI a<bI b\/(bI a=bI b/\a.1<b.1)
theorem DE{a b:aA}:iM a b<0↔ltE a b:=by
 grind [iM,gJ,ltE]
theorem VJ{a b:aA}:iM a b=0↔bI a=bI b/\a.1=b.1:=by
 grind [iM,gJ]
theorem JUy(r:Jc):_n (LB r) λy=>y=O->tF r:=.h (λq=>.G (λe=>.G (λg=>.h (λo=>.G (λk=>.l (λn=>.h (λh=>.s λj=>⟨q,e,g,o,k,n,h,dK.1 j⟩) λ_=>.s nofun) λ_=>.s nofun) λ_=>.s nofun) λ_=>.s nofun) λ_=>.s nofun) λ_=>.s nofun) λ_=>.s nofun
theorem JTr(e:aA):_n (Ju e) λy=>y=O->e.2.1=1\/e.2.1=2:=.p (λ_=>.s λd=>.inr (eM.1 d)) λc=>.s λ_=>.inl c
theorem JUa(r:Jc)(e:aA):_n (LA (r,e)) λy=>y=O->(e.2.1=1\/e.2.1=2)/\r.1<=e.1/\e.1<=r.2.1/\r.2.2.1<=bI e/\bI e<=r.2.2.2.1:=.b (JTr e) λy h=>.i (λd=>.h (λn=>.G (λg=>.h (λj=>.s λk=>⟨h d,j,dK.1 k,n,g⟩) λ_=>.s nofun) λ_=>.s nofun) λ_=>.s nofun) λ_=>.s nofun
theorem Rf{t:Ty}(x:t.D):eqT t x x=O:=eB.2 rfl
theorem JNd{e:aA}(h:EF e)(hk:e.2.1=1\/e.2.1=2):JJ e=Z O:=by
 obtain⟨H,_e,w,Q,E,A,z,x,F,o,K,g,v⟩:=h;have j: ∀{n:Int},0<=n->n<e.1->mH (n,e.1)=Z O:=fun{n} h1 h2=>by
  grind [mH,jF,Jp]
 have sh:_n (sD e) λy=>y=(e,O):=(by unfold sD;rcases v with⟨k,q⟩|⟨k,C,_d,D⟩;refine .e (λ_=>.b (eK g) λy d=>.e (λc=>by omega) λ_=>.i (λ_=>.h (λ_=>.s ?_) λc=>absurd w c) λc=>by simp_all) λc=>absurd k c;grind [dK];refine .e (λc=>by omega) λ_=>.e (λ_=>.b (eK g) λy d=>.e (λ_=>.i (λ_=>.g (λ_=>.h (λ_=>.G (λ_=>.h (λ_=>.s ?_) λc=>absurd w c) λc=>absurd D c) λc=>absurd _d c) λc=>absurd C c) λc=>by simp_all) λc=>absurd k c) λc=>absurd k c;grind [dK]);have r:_n (JJ e) λy=>y=O:=by unfold JJ;refine .b sh λy d=>?_;subst d;exact .i (λ_=>.i (λ_=>.h (λ_=>.G (λ_=>.b (eK (j E A)) λP L=>.i (λ_=>.b (eK (j z x)) λN M=>.i (λ_=>.b (eK (j F o)) λ_c B=>.s B) λc=>by simp_all) λc=>by simp_all) λc=>absurd _e c) λc=>absurd H c) λc=>by grind [Rf]) λc=>by cases c
 obtain⟨y,G,d⟩:=r;rw[G,d]
theorem JUQ(r:Jc):_n (jZ r) λy=>y=O->eE r:=by
 unfold jZ;refine .b (JUy r) λ_a z=>.r (λ_d=>.g (λ_=>.s nofun) λc2=>?_) λ_=>.s nofun;have z:=z _d;have nn:=Ja (l:=r.2.2.2.2.2);refine Jn (τ:=Int) (λq=>(r.2.2.2.2.2,J0 r.2.2.2.2.2,q,r)) (λi=>0<=i/\i<=J0 r.2.2.2.2.2/\(∀(j:Nat) (e:aA),(j:Int)<i->r.2.2.2.2.2[j]?=Z e->EF e/\(e.2.1=1\/e.2.1=2)/\r.1<=e.1/\e.1<=r.2.1/\r.2.2.1<=bI e/\bI e<=r.2.2.2.1)/\(∀e,0<i->r.2.2.2.2.2[0]?=Z e->e.2.2.2.2.1<r.1)/\ ∀(j:Nat) (a b:aA),(j:Int)+1<i->r.2.2.2.2.2[j]?=Z a->r.2.2.2.2.2[j+1]?=Z b->mT r.1 a b) (λq=>J0 r.2.2.2.2.2-q) ?_ 0 rfl ⟨bA _,nn,λj e h=>by omega,λe h=>by omega,λj a b h=>by omega⟩;rintro i ⟨Q,hn,h1,h2,T⟩;unfold qe;dsimp only;have o1:=Jl i 1;have o2:=bF i 1;refine .l (λc=>?_) λc=>.s λ_=>⟨z,by omega,λj e k=>?_,λe k=>h2 e (by have:=jO k;omega) k,λj a b D o=>T j a b (by have:=jO o;omega) D o⟩;obtain⟨e,k,V⟩:=eA Q c;refine .b (eK k) λg _c=>?_;subst _c;refine .b (JRW g) λy5 R=>.r (λL=>.b (JUa r g) λy6 N=>.n (λ_=>.s nofun) λK=>?_) λ_=>.s nofun;have hk:=N K;have H:EF g/\(g.2.1=1\/g.2.1=2)/\r.1<=g.1/\g.1<=r.2.1/\r.2.2.1<=bI g/\bI g<=r.2.2.2.1:=⟨R L hk.1,hk⟩;have nx:(i=0->g.2.2.2.2.1<r.1)->(∀a,0<i->r.2.2.2.2.2[(i-1).toNat]?=Z a->mT r.1 a g)-> ∃c':Int,((r.2.2.2.2.2,J0 r.2.2.2.2.2,J1 I i 1,r):eb)=(r.2.2.2.2.2,J0 r.2.2.2.2.2,c',r)/\(0<=c'/\c'<=J0 r.2.2.2.2.2/\(∀(j:Nat) (e:aA),(j:Int)<c'->r.2.2.2.2.2[j]?=Z e->EF e/\(e.2.1=1\/e.2.1=2)/\r.1<=e.1/\e.1<=r.2.1/\r.2.2.1<=bI e/\bI e<=r.2.2.2.1)/\(∀e,0<c'->r.2.2.2.2.2[0]?=Z e->e.2.2.2.2.1<r.1)/\ ∀(j:Nat) (a b:aA),(j:Int)+1<c'->r.2.2.2.2.2[j]?=Z a->r.2.2.2.2.2[j+1]?=Z b->mT r.1 a b)/\J0 r.2.2.2.2.2-c'<J0 r.2.2.2.2.2-i/\0<=J0 r.2.2.2.2.2-i:=by
  intro n1 n2;refine⟨J1 I i 1,rfl,⟨by omega,by omega,λj f U hf=>?_,λf hp hf=>?_,λj a b U A hb=>?_⟩,by omega,by omega⟩;by_cases S:(j:Int)<i;grind;have:j=i.toNat:=by omega
  grind;by_cases hi:0<i;grind;have F:i=0:=by omega
  subst F;grind;by_cases S:(j:Int)+1<i;grind;have G:j+1=i.toNat:=by omega
  have e2:j=(i-1).toNat:=by omega
  grind
 refine .p (λv=>?_) λv=>.h (λ_=>.s nofun) λc5=>.s (nx (λ_=>by omega) λa h=>by omega);have G:Jm I i 1=i-1:=by omega
 rw[G];obtain⟨a,A,W⟩:=eA (l:=r.2.2.2.2.2) (i:=i-1) oo oo;have B:mT r.1 a g->(∀b,0<i->r.2.2.2.2.2[(i-1).toNat]?=Z b->mT r.1 b g):=λh b _ hb=>by
  grind
 refine .b (eK A) λ_b _e=>?_;subst _e;refine .l (λw=>.h (λ_=>.s nofun) λc6=>.s (nx (λh=>absurd h v) (B (.inl ⟨w,by omega⟩)))) λw=>.b (eK A) λC M=>?_;subst M;refine .b (eK (JRz C g)) λy9 P=>.o (λc9=>.d (λ_=>.s nofun) λE=>.s (nx (λh=>absurd h v) (B ?_))) λ_=>.s nofun;subst P;rcases(DE (a:=C) (b:=g)).1 oo with q|⟨x,n⟩;exact absurd q w;exact .inr ⟨x,n,E⟩;obtain⟨x,n⟩:=h1 j e (by grind [jO]) k;exact⟨JNd x n.1,n⟩
end
section
variable {B S:Int}
theorem ltE.trans{a b c:aA}(h1:ltE a b)(h2:ltE b c):ltE a c:=by
 grind [ltE]
def mrg:List aA->List aA->List aA|[],b=>b|x::a,[]=>x::a|x::a,y::b=>if iM x y<=0 then x::mrg a (y::b)else y::mrg (x::a) b
termination_by a b=>a.length+b.length
theorem TZ(a:List aA):mrg a []=a:=by cases a<;>simp[mrg]
def cM:List aA->aA->List aA|[],e=>[e]|x::l,e=>if iM x e<0 then x::cM l e else if iM x e=0 then x::l else e::x::l
theorem JPA{l:List aA}{e x:aA}(h:x∈cM l e):x∈l\/x=e:=by
 induction l with
 |nil=>grind [cM]
 |cons y l ih=>
  grind [cM]
theorem Od{y:aA}{b:List aA}(hb: ∀z∈b,ltE y z): ∀{a:List aA},(∀x∈a,iM x y≠0)->mrg a (y::b)=mrg (cM a y) b
 |[],_=>by
  cases b with
  |nil=>simp[mrg,cM]
  |cons z b=>
   have:=(DE (a:=y) (b:=z)).2 (hb z _I);grind [cM,mrg]
 |x::a,j=>by
  have n:=j x _I;by_cases h:iM x y<0;have e:mrg (x::a) (y::b)=x::mrg a (y::b):=(by grind [mrg]);have g:cM (x::a) y=x::cM a y:=(by grind [cM]);rw[e,g,Od hb λz k=>j z (gF _ k)];cases b with
  |nil=>simp[TZ]
  |cons z b=>
   have h2:=(DE (a:=x) (b:=z)).2 (((DE (a:=x) (b:=y)).1 h).trans (hb z _I));grind [mrg.eq_3]
  have e:mrg (x::a) (y::b)=y::mrg (x::a) b:=(by grind [mrg]);have g:cM (x::a) y=y::x::a:=(by grind [cM]);rw[e,g];cases b with
  |nil=>simp[TZ]
  |cons z b=>
   have h2:=(DE (a:=y) (b:=z)).2 (hb z _I);grind [mrg.eq_3]
theorem ly: ∀{b a:List aA},b.Pairwise ltE->(∀x∈a,∀y∈b,iM x y≠0)->mrg a b=b.foldl cM a
 |[],a,_,_=>TZ a
 |y::b,a,hs,hd=>by
  obtain⟨h1,h2⟩:=_K.1 hs;rw[Od h1 λx e=>hd x e y _I,List.foldl_cons];refine ly h2 λx e z g=>?_;rcases JPA e with e|rfl;grind;have:=(DE (a:=x) (b:=z)).2 (h1 z g);omega
theorem Cx: ∀{l:List aA},(∀(j:Nat) (a b:aA),l[j]?=Z a->l[j+1]?=Z b->ltE a b)->l.Pairwise ltE
 |[],_=>.nil
 |[x],_=>_X _ _
 |x::y::l,h=>by
  have ih:=Cx (l:=y::l) λj a b k hb=>h (j+1) a b k hb;refine _K.2 ⟨λz g=>?_,ih⟩;have e:=h 0 x y rfl rfl;rcases bS.1 g with rfl|g;exact e;exact e.trans ((_K.1 ih).1 z g)
theorem A4{r:Jc}(h:eE r):r.2.2.2.2.2.Pairwise ltE:=
 Cx λj a b e hb=>by
  rcases h.2.2.2.2 j a b e hb with⟨q,_⟩|⟨g,k,_⟩;exact .inl q;exact .inr ⟨g,k⟩
theorem JQR(a b:List aA):(mrg a b).length=a.length+b.length:=by
 induction a,b using mrg.induct with
 |case1 b=>simp[mrg]
 |case2 x a=>simp[mrg]
 |case3 x a y b h ih=>grind [mrg]
 |case4 x a y b h ih=>grind [mrg]
theorem Pd{a b:List aA}{z:aA}(h:z∈mrg a b):z∈a\/z∈b:=by
 induction a,b using mrg.induct with
 |case1 b=>grind [mrg]
 |case2 x a=>grind [TZ]
 |case3 x a y b hc ih=>
  grind [mrg]
 |case4 x a y b hc ih=>
  grind [mrg]
end
section
variable {B S:Int}
def fT(r:Jc):Prop:=Ty.fit 16384 9223372036854775807 cZ r
theorem vv{r:Jc}(h:fT r): ∃v,jZ r=Z v/\fA r=Z v/\(v=O->eE r):=by
 obtain⟨y,e,h1⟩:=JUQ r;obtain⟨z,g,_⟩:=pw (B:=16384) (S:=9223372036854775807) h;refine⟨y,e,?_,h1⟩;cases y with
 |true=>grind [Bd]
 |false=>cases z<;>simp_all [F2,eE.of]
theorem JS5{r:Jc}(h:eE r):jZ r=Z O/\fA r=Z O:=⟨F2 h,Bd h⟩
theorem JRK(l:List aA)(e:aA):(cM l e).length<=l.length+1:=by
 induction l with
 |nil=>simp[cM]
 |cons x l ih=>
  grind [cM]
theorem JEg{e:aA}{l m:List aA}(h: ∀y∈l,iM y e<0):cM (l++m) e=l++cM m e:=by
 induction l with
 |nil=>rfl
 |cons y l ih=>
  grind [cM]
theorem N9{l:List aA}{e:aA}(hl:J0 l<=65536):_n (zW (l,e)) λy=>y.1=cM l e:=by
 unfold zW;have nn:=Ja (l:=l);refine Jn (τ:=Int) (λq=>(l,q,e)) (λi=>0<=i/\i<=J0 l/\ ∀y∈l.take i.toNat,iM y e<0) (λi=>J0 l-i) ?_ 0 rfl ⟨bA _,nn,λy T=>by simp at T⟩;rintro i ⟨E,h1,h2⟩;unfold Hv;dsimp only;have _a:=Jl i 1;have hs:cM l e=l.take i.toNat++cM (l.drop i.toNat) e:=by have:=JEg (m:=l.drop i.toNat) h2;rwa[pR]at this
 have put:(∀x,l[i.toNat]?=Z x->0<iM x e)->_n ((aU l Y (Z i)).bind λw=>(bG 128 w).bind λA=>(Jr 128 A [e]).bind λB=>(aU l (Z i) Y).bind λv=>(Jr 128 B v).bind λo=>Z (o,O)) λy=>y.1=cM l e:=by
  intro j;obtain⟨p,U,_e,q1⟩:=uV (l:=l) (k:=i) E h1;obtain⟨r,S,F,_⟩:=CJ (l:=l) (k:=i) E h1;have lp:J0 p<=65536:=by omega
  have hlen:J0 p+J0 r=J0 l:=by rw[_e,F];unfold J0;rw[mN,AT];unfold J0 at h1;omega
  have np:=Ja (l:=p);have nr:=Ja (l:=r);refine .b (eK U) λw R=>?_;subst R;have _c:bG 128 w=Z w:=by unfold bG;rw[if_pos];unfold rI;unfold J0 at lp np;simp only[decide_eq_true_eq];omega
  refine .b (eK _c) λA Q=>?_;subst Q;refine .b (eK (eT (l:=A) (m:=[e]) (by rw[cA];omega) _k)) λB L=>.b (eK S) λv _d=>?_;subst L;subst _d;refine .b (eK (eT (l:=A++[e]) (m:=v) (by rw[cQ,cA];omega) _k)) λo H=>.s ?_;show o=cM l e;rw[H,_e,F,hs,pW]
  congr 1
  cases hd:l.drop i.toNat with
  |nil=>rfl
  |cons x t=>have g:=j x (by rw[<-List.head?_drop,hd];rfl);rw[cM,if_neg oo,if_neg oo];rfl
 refine .l (λc=>?_) λc=>.inr (.l (λC=>absurd C c) λ_=>put λx j=>by have:=jO j;omega);obtain⟨x,j,n⟩:=eA E c;refine .b (eK j) λN M=>.b (eK (Oo N e)) λy4 d4=>?_;subst M;refine .l (λC=>.s ⟨J1 I i 1,rfl,⟨by omega,by omega,λz h=>?_⟩,by omega,by omega⟩) λC=>.inr (.l (λ_=>?_) λD=>absurd c D);rw[show(J1 I i 1).toNat=i.toNat+1 by omega,_Y,n]at h;rcases zQ9.1 h with h|h;exact h2 z h;simp at h;subst h;omega;refine .b (eK j) λK P=>.b (eK (Oo K e)) λy6 _b=>?_;subst P;refine .e (λD=>.b (eK j) λV W=>.s ?_) λD=>put λx g=>by rw[n]at g;cases g;omega
 show l=cM l e;have hd:l.drop i.toNat=K::l.drop (i.toNat+1):=by
  have G:=(cY.1 n).1;rw[List.drop_eq_getElem_cons G]
  congr 1
  exact(cY.1 n).2
 rw[hs,hd,cM,if_neg oo,if_pos oo,<-hd,pR]
theorem JP1(b a:List aA):(b.foldl cM a).length<=a.length+b.length:=by
 induction b generalizing a with
 |nil=>simp
 |cons y b ih=>
  grind [JRK]
theorem JT8{l:List aA}(h:J0 l<=16384):bG 128 l=Z l:=by
 grind [bG,rI,J0]
end
section
variable {l E F:List aA} {p:Int}
theorem ltE.irr{a:aA}: ¬ltE a a:=by simp[ltE]
theorem ltE.asym{a b:aA}(h:ltE a b): ¬ltE b a:=by grind [ltE]
theorem Ao: ∀{a b:List aA},a.Pairwise ltE->b.Pairwise ltE->(∀x,x∈a↔x∈b)->a=b
 |[],[],_,_,_=>rfl
 |[],y::b,_,_,h=>absurd ((h y).2 _I) (by simp)
 |x::a,[],_,_,h=>absurd ((h x).1 _I) (by simp)
 |x::a,y::b,n,hb,h=>by
  obtain⟨k,j⟩:=_K.1 n;obtain⟨b1,b2⟩:=_K.1 hb;have e:x=y:=(by rcases bS.1 ((h x).1 _I)with q|q;exact q;rcases bS.1 ((h y).2 _I)with g|g;exact g.symm;exact absurd (b1 x q) (k y g).asym);subst e;refine congrArg (x:: ·) (Ao j b2 λz=>⟨λo=>?_,λo=>?_⟩)
  all_goals grind [ltE.irr]
theorem Ss{e:aA}(hd: ∀x∈l,x.1≠e.1): ∀x,x∈cM l e↔x∈l\/x=e:=by
 induction l with
 |nil=>simp[cM]
 |cons y l ih=>
  grind [VJ,cM]
theorem JGX{e:aA}(hs:l.Pairwise ltE)(hd: ∀x∈l,x.1≠e.1):(cM l e).Pairwise ltE:=by
 induction l with
 |nil=>exact _X _ _
 |cons y l ih=>
  obtain⟨h1,h2⟩:=_K.1 hs;have g:=hd y _I;have n: ¬iM y e=0:=λh=>g (VJ.1 h).2;have k: ∀x∈l,x.1≠e.1:=λz j=>hd z (gF _ j);grind [cM,_K,Ss,DE,ltE]
theorem JNM{e:aA}(hd: ∀x∈l,x.1≠e.1):(cM l e).length=l.length+1:=by
 induction l with
 |nil=>simp[cM]
 |cons y k ih=>
  grind [VJ,cM]
def srt(l:List aA):List aA:=l.foldl cM []
theorem Py(l:List aA)(e:aA):srt (l++[e])=cM (srt l) e:=by simp[srt]
def Inc(l:List aA):Prop:=l.Pairwise λa b=>a.1<b.1
def inB(f t lo hi:Int)(e:aA):Bool:=decide ((e.2.1=1\/e.2.1=2)/\(lo<=bI e/\bI e<=hi)/\f<=e.1/\e.1<=t)
theorem Qu{f t lo hi:Int}{e:aA}:inB f t lo hi e=O↔(e.2.1=1\/e.2.1=2)/\(lo<=bI e/\bI e<=hi)/\f<=e.1/\e.1<=t:=by simp[inB]
def sel(l:List aA)(f t lo hi:Int):List aA:=srt (l.filter (inB f t lo hi))
theorem Inc.filter(h:Inc l)(q:aA->Bool):Inc (l.filter q):=h.sublist (List.filter_sublist)
end
theorem i1(c x:Bool):(if c=O then Z x else Z J)=Z (c&&x):=by cases c<;>rfl
theorem i2(c x:Bool):(if c=J then Z x else Z J)=Z (!c&&x):=by cases c<;>rfl
theorem i3(c x:Bool):(if c=O then Z J else Z x)=Z (!c&&x):=by cases c<;>rfl
theorem i4{α:Type}(c x:Bool)(E:α):(if c=O then Z (E,x)else Z (E,J))=Z (E,c&&x):=by cases c<;>rfl
theorem JQz(c:kY):JR c=JR c:=rfl
theorem Ov(c:kY): ∃b,JR c=Z b:=by unfold JR;split<;>(try split)<;>exact⟨_,rfl⟩
theorem JLX(c:hQ): ∃b,wU c=Z b/\mG c=Z b:=by
 obtain⟨b1,e⟩:=Ov c.2.2.1;obtain⟨b2,g⟩:=Ov c.2.2.2;grind [wU,EV,mG,JQz]
theorem JJD{x:Jq}(e:mH x=Z O):0<=x.1/\x.1<x.2:=by
 grind [mH,jF,Jp]
theorem ni(x:Jq): ∃b,mH x=Z b:=by unfold mH;split<;>exact⟨_,rfl⟩
theorem JRD(c:hQ): ∃z,zU c=Z z/\(z=O↔c=(0,0,(J,[]),J,[])):=⟨_,rfl,eB (t:=eW)⟩
theorem JVo(c:hQ): ∃z,FC c=Z z/\(z=O↔c=(c.1,0,(J,[]),J,[])/\0<=c.1/\c.1<64):=by
 have e:_n (FC c) λz=>(z=O↔c=(c.1,0,(J,[]),J,[])/\0<=c.1/\c.1<64):=.i (λh=>.h (λg=>.s ⟨λk=>⟨(eB (t:=eW)).1 h,g,Jp.1 k⟩,λk=>Jp.2 k.2.2⟩) λg=>.s ⟨nofun,λk=>absurd k.2.1 g⟩) λh=>.s ⟨nofun,λk=>(Bool.false_ne_true (h.symm.trans ((eB (t:=eW)).2 k.1))).elim⟩
 exact e
theorem SG(e:aA):lG e=JJ e:=by
 obtain⟨l,k,t,pt,o,n,c,bl⟩:=e;obtain⟨L,r,v⟩:=JLX c;obtain⟨b1,q⟩:=ni (pt,l);obtain⟨b2,w⟩:=ni (o,l);obtain⟨E,x⟩:=ni (n,l);have A:sI (pt,l,k,t,pt,o,n,c,bl)=Z b1:=q;have B:sI (o,l,k,t,pt,o,n,c,bl)=Z b2:=w;have C:sI (n,l,k,t,pt,o,n,c,bl)=Z E:=x;have K: ∀b:Bool,Jg b= !b:=λ_=>rfl;unfold lG JJ sD;dsimp only;rw[A,B,C,q,w,x,r,v];have M: ∀a b:aA,(eqT J3 a b=O)=(a=b):=λa b=>propext (eB (t:=J3));have _d: ∀a b:hQ,(eqT eW a b=O)=(a=b):=λa b=>propext (eB (t:=eW));have hb:b1=O->0<=pt/\pt<l:=λh=>by subst h;exact JJD q
 have hk:k=1\/k=2\/k=3\/k=4\/k=5\/k=6\/k=7\/k=8\/k<1\/8<k:=by omega
 clear q w x A B C r v;have N:J0 ([]:_j)=0:=rfl;obtain⟨z,g,_e⟩:=JRD c;obtain⟨y,j,H⟩:=JVo c;rcases hk with rfl|rfl|rfl|rfl|rfl|rfl|rfl|rfl|hk|hk;simp only[show aK 1 1=J from rfl,show aO 1 8=J from rfl,show aL 1 8=J from rfl,show aL 1 7=J from rfl,show aL 1 6=J from rfl,show aL 1 5=J from rfl,show aL 1 4=J from rfl,show aL 1 3=J from rfl,show aL 1 2=J from rfl,show aL 1 1=O from rfl,if_true,if_false,fJ,reduceCtorEq,JF,jG,nK,g,j,i1,i2,i3,i4]
 congr 1
 grind [aK,aO,aP,aW,aN,neS];simp only[show aK 2 1=J from rfl,show aO 2 8=J from rfl,show aL 2 8=J from rfl,show aL 2 7=J from rfl,show aL 2 6=J from rfl,show aL 2 5=J from rfl,show aL 2 4=J from rfl,show aL 2 3=J from rfl,show aL 2 2=O from rfl,show aL 2 1=J from rfl,if_true,if_false,fJ,reduceCtorEq,JF,jG,nK,g,j,i1,i2,i3,i4]
 congr 1
 grind [aK,aO,aP,aW,aL,neS];simp only[show aK 3 1=J from rfl,show aO 3 8=J from rfl,show aL 3 8=J from rfl,show aL 3 7=J from rfl,show aL 3 6=J from rfl,show aL 3 5=J from rfl,show aL 3 4=J from rfl,show aL 3 3=O from rfl,show aL 3 2=J from rfl,show aL 3 1=J from rfl,if_true,if_false,fJ,reduceCtorEq,JF,jG,nK,g,j,i1,i2,i3,i4]
 congr 1
 grind [aK,aO,aP,aW,aN,aL,neS];simp only[show aK 4 1=J from rfl,show aO 4 8=J from rfl,show aL 4 8=J from rfl,show aL 4 7=J from rfl,show aL 4 6=J from rfl,show aL 4 5=J from rfl,show aL 4 4=O from rfl,show aL 4 3=J from rfl,show aL 4 2=J from rfl,show aL 4 1=J from rfl,if_true,if_false,fJ,reduceCtorEq,JF,jG,nK,g,j,i1,i2,i3,i4]
 congr 1
 grind [aK,aO,aP,aW,aN,aL,neS];simp only[show aK 5 1=J from rfl,show aO 5 8=J from rfl,show aL 5 8=J from rfl,show aL 5 7=J from rfl,show aL 5 6=J from rfl,show aL 5 5=O from rfl,show aL 5 4=J from rfl,show aL 5 3=J from rfl,show aL 5 2=J from rfl,show aL 5 1=J from rfl,if_true,if_false,fJ,reduceCtorEq,JF,jG,nK,g,j,i1,i2,i3,i4]
 congr 1
 grind [aK,aO,aP,aW,aN,aL,neS];simp only[show aK 6 1=J from rfl,show aO 6 8=J from rfl,show aL 6 8=J from rfl,show aL 6 7=J from rfl,show aL 6 6=O from rfl,show aL 6 5=J from rfl,show aL 6 4=J from rfl,show aL 6 3=J from rfl,show aL 6 2=J from rfl,show aL 6 1=J from rfl,if_true,if_false,fJ,reduceCtorEq,JF,jG,nK,g,j,i1,i2,i3,i4];grind [aK,aO,aP,aW,aN,Prod.mk.injEq];simp only[show aK 7 1=J from rfl,show aO 7 8=J from rfl,show aL 7 8=J from rfl,show aL 7 7=O from rfl,show aL 7 6=J from rfl,show aL 7 5=J from rfl,show aL 7 4=J from rfl,show aL 7 3=J from rfl,show aL 7 2=J from rfl,show aL 7 1=J from rfl,if_true,if_false,fJ,reduceCtorEq,JF,jG,nK,g,j,i1,i2,i3,i4];grind [aK,aO,aP,aW,aN,neS,Prod.mk.injEq];simp only[show aK 8 1=J from rfl,show aO 8 8=J from rfl,show aL 8 8=O from rfl,show aL 8 7=J from rfl,show aL 8 6=J from rfl,show aL 8 5=J from rfl,show aL 8 4=J from rfl,show aL 8 3=J from rfl,show aL 8 2=J from rfl,show aL 8 1=J from rfl,if_true,if_false,fJ,reduceCtorEq,JF,jG,nK,g,j,i1,i2,i3,i4];grind [aK,aO,aP,aW,aN,Prod.mk.injEq];have F:aL k 1=J:=by grind [aL]
 have G:aL k 2=J:=by grind [aL]
 have D:aL k 3=J:=by grind [aL]
 grind [aL,aK];have F:aL k 1=J:=by grind [aL]
 have G:aL k 2=J:=by grind [aL]
 have D:aL k 3=J:=by grind [aL]
 grind [aL,aO]
section
theorem wb{α:Type}{lt:α->α->Prop}(hi: ∀a,¬lt a a)(ha: ∀a b,lt a b-> ¬lt b a): ∀{a b:List α},a.Pairwise lt->b.Pairwise lt->(∀x,x∈a↔x∈b)->a=b
 |[],[],_,_,_=>rfl
 |[],y::b,_,_,h=>absurd ((h y).2 _I) (by simp)
 |x::a,[],_,_,h=>absurd ((h x).1 _I) (by simp)
 |x::a,y::b,n,k,h=>by
  obtain⟨j,o⟩:=_K.1 n;obtain⟨b1,b2⟩:=_K.1 k;have e:x=y:=(by rcases bS.1 ((h x).1 _I)with e|e;exact e;rcases bS.1 ((h y).2 _I)with f|f;exact f.symm;exact absurd (j y f) (ha _ _ (b1 x e)));subst e;refine congrArg _ (wb hi ha o b2 λz=>⟨λg=>?_,λg=>?_⟩);rcases bS.1 ((h z).1 (gF _ g))with e|e;subst e;exact absurd (j z g) (hi z);exact e;rcases bS.1 ((h z).2 (gF _ g))with e|e;subst e;exact absurd (b1 z g) (hi z);exact e
abbrev TX:=Jc×Int×Bool
def ltN(x y:aD):Prop:=x.1.2.2.1<y.1.2.2.1\/(x.1.2.2.1=y.1.2.2.1/\(x.1.1<y.1.1\/(x.1.1=y.1.1/\x.2<y.2)))
theorem ltN.irr(a:aD): ¬ltN a a:=by unfold ltN;omega
theorem ltN.asym(a b:aD)(h:ltN a b): ¬ltN b a:=by unfold ltN at*;omega
theorem ltN.trans{a b c:aD}(h:ltN a b)(g:ltN b c):ltN a c:=by unfold ltN at*;omega
theorem ltN.tri(a b:aD):ltN a b\/ltN b a\/a.2=b.2:=by unfold ltN;omega
def abv(r:Jc)(to:Int):Jc:=if to<r.1 then r else(to+1,r.2.1,r.2.2.1,r.2.2.2.1,r.2.2.2.2.1,(ent r).filter λe=>decide (to<e.1))
def clp:Int->Int->List aD->List TX
 |_,_,[]=>[]
 |lo,to,x::t=>
  if x.1.2.1<=(if x.1.2.2.1=lo then to else 0)then clp x.1.2.2.1 (if x.1.2.2.1=lo then to else 0) t
  else(abv x.1 (if x.1.2.2.1=lo then to else 0),x.2,decide ((if x.1.2.2.1=lo then to else 0)<x.1.1))::clp x.1.2.2.1 x.1.2.1 t
theorem qH(lo to:Int)(x:aD)(t:List aD):clp lo to (x::t)=if x.1.2.1<=(if x.1.2.2.1=lo then to else 0)then clp x.1.2.2.1 (if x.1.2.2.1=lo then to else 0) t
 else(abv x.1 (if x.1.2.2.1=lo then to else 0),x.2,decide ((if x.1.2.2.1=lo then to else 0)<x.1.1))::clp x.1.2.2.1 x.1.2.1 t:=rfl
theorem O7: ∀{C:List aD} {lo to:Int} {D:List aD},(∀y∈D,y.1.2.2.1≠lo/\y.1.2.2.1≠ -1/\ ∀x∈C,y.1.2.2.1≠x.1.2.2.1)->clp lo to (C++D)=clp lo to C++clp (-1) 0 D|[],lo,to,[],_=>rfl|[],lo,to,y::D,h=>by obtain⟨h1,h2,_⟩:=h y _I;show clp lo to (y::D)=clp (-1) 0 (y::D);rw[qH,qH,if_neg h1,if_neg h2]|x::C,lo,to,D,h=>by have ih:=λg=>O7 (C:=C) (lo:=x.1.2.2.1) (to:=g) (D:=D) λy e=>⟨(h y e).2.2 x _I,(h y e).2.1,λz j=>(h y e).2.2 z (gF _ j)⟩;rw[nP,qH,qH];generalize (if x.1.2.2.1=lo then to else 0)=T;rw[ih,ih];split<;>simp
theorem kl: ∀{C:List aD} {lo to:Int} {e:TX},(∀x∈C,0<=x.1.2.1)->0<=to->e∈clp lo to C-> ∃x t,x∈C/\0<=t/\e=(abv x.1 t,x.2,decide (t<x.1.1))
 |[],_,_,_,_,_,h=>by cases h
 |x::C,lo,to,e,hc,o,h=>by
  have hc': ∀y∈C,0<=y.1.2.1:=λy n=>hc y (gF _ n);rw[qH]at h;generalize k:(if x.1.2.2.1=lo then to else 0)=T at h;have h1:0<=T:=by rw[<-k];split<;>omega
  by_cases c:x.1.2.1<=T;rw[if_pos c]at h;obtain⟨y,t,g,j⟩:=kl hc' h1 h;exact⟨y,t,gF _ g,j⟩;rw[if_neg c]at h;rcases bS.1 h with rfl|h;exact⟨x,T,_I,h1,rfl⟩;obtain⟨y,t,g,j⟩:=kl hc' (hc x _I) h;exact⟨y,t,gF _ g,j⟩
theorem UD: ∀{C:List aD} {lo to:Int},(clp lo to C).length<=C.length
 |[],_,_=>zQ0 _
 |x::C,lo,to=>by
  rw[qH];generalize (if x.1.2.2.1=lo then to else 0)=T;split;exact Nat.le_succ_of_le UD;exact Nat.succ_le_succ UD
def qX{α β:Type}(n:Nat)(g:List α->Option β):List α->Option (β×List α)|[]=>Y|x::t=>if(x::t).length<n then Y else match g ((x::t).take n)with|some b=>Z (b,(x::t).take n)|none=>qX n g t
theorem JJY{α β:Type}{n:Nat}{g:List α->Option β}: ∀{l:List α},l.length<n->qX n g l=Y|[],_=>rfl|x::t,h=>by unfold qX;rw[if_pos h]
theorem JN4{α β:Type}(n:Nat)(g:List α->Option β)(x:α)(t:List α):qX n g (x::t)=if(x::t).length<n then Y else match g ((x::t).take n)with|some b=>Z (b,(x::t).take n)|none=>qX n g t:=rfl
def PO(r s:Jc):Prop:=r.2.2.1=s.2.2.1/\r.2.2.2.1=s.2.2.2.1/\s.1=r.2.1+1
end
section
def iY:List aA->List TX->List aA|acc,[]=>acc|acc,x::t=>iY (mrg acc (ent x.1)) t
def toW:Int->List TX->Int|z,[]=>z|_,x::t=>toW x.1.2.1 t
def chX(L:Int):Jc->List TX->Prop|_,[]=>True|p,x::t=>PO p x.1/\x.1.2.2.2.2.1=L/\chX L x.1 t
def jn(x:TX)(t:List TX):Jc:=(x.1.1,toW x.1.2.1 t,x.1.2.2.1,x.1.2.2.2.1,J1 I x.1.2.2.2.2.1 1,iY (ent x.1) t)
noncomputable def gW:List TX->Option Jc|[]=>Y|x::t=> @ite _ ((∀e∈x::t,e.2.2=O)/\chX x.1.2.2.2.2.1 x.1 t/\fA (jn x t)=Z O) (Classical.propDecidable _) (Z (jn x t)) Y
theorem TU(x:TX)(t:List TX):gW (x::t)= @ite _ ((∀e∈x::t,e.2.2=O)/\chX x.1.2.2.2.2.1 x.1 t/\fA (jn x t)=Z O) (Classical.propDecidable _) (Z (jn x t)) Y:=rfl
theorem JOj(w:List TX)(h: ∃e∈w,¬e.2.2=O):gW w=Y:=by
 cases w with
 |nil=>rfl
 |cons x t=>obtain⟨e,g,j⟩:=h;rw[TU,if_neg];exact λk=>j (k.1 e g)
theorem JOJ(a b:List aA):J0 (mrg a b)=J0 a+J0 b:=by unfold J0;rw[JQR];omega
end
section
theorem JQK{α:Type}{lt:α->α->Prop}(ht: ∀a b c,lt a b->lt b c->lt a c){p:List α}{z x:α}(h:(p++[z]).Pairwise lt)(hz:lt z x):(p++[z]++[x]).Pairwise lt:=by
 refine _L.2 ⟨h,_X _ _,λa e b hb=>?_⟩;rw[fR.1 hb];obtain⟨_,_,g⟩:=_L.1 h;rcases zQ9.1 e with h1|h1;exact ht _ _ _ (g a h1 z (by simp)) hz;rw[fR.1 h1];exact hz
def Asc(l:_F):Prop:=l.Pairwise (· < ·)
structure hC(a:J4):Prop where
 pages:1<=a.2.1/\a.2.1<=64
 len:1<=J0 a.1/\J0 a.1<=16
 zero:idx a.1 0=Z 0
 asc:Asc a.1
 last: ∀z,idx a.1 (J0 a.1-1)=Z z->z<a.2.1
 next:1<=a.2.2.2.1/\a.2.2.2.1<=1099511627777
 ser:1<=a.2.2.2.2/\a.2.2.2.2<=1073741825
 few:J0 a.2.2.1<=256
 _p:a.2.2.1.Pairwise λf g=>f.2.1<g.2.1
 inr: ∀f∈a.2.2.1,0<f.2.1/\f.2.1<a.2.2.2.2
theorem Rl{α:Type}{l p t:List α}{z x:α}(h:l=(p++[z])++x::t):idx l (J0 (p++[z])-1)=Z z:=by subst h;unfold idx J0;rw[if_pos (by simp<;>omega)];simp
theorem Av{T:Int}{fs:List aB}{σ:Type}{L:σ->Option (σ⊕Bool)}(e:Int->Int->σ)
  (hs: ∀pre x t last,fs=pre++x::t->(last<x.2.1->x.2.1<T->L (e (J0 pre) last)=Z (.inl (e (J0 (pre++[x])) x.2.1)))/\(¬(last<x.2.1/\x.2.1<T)->L (e (J0 pre) last)=Z (.inr J)))
  (he: ∀last,L (e (J0 fs) last)=Z (.inr O)):_n (J5 L (e 0 0)) λy=>y=O↔fs.Pairwise (λf g=>f.2.1<g.2.1)/\ ∀f∈fs,0<f.2.1/\f.2.1<T:=by
 refine dZ (l:=fs) (λi (b:Int)=>e i b) (λpre last=>pre.Pairwise (λf g=>f.2.1<g.2.1)/\(∀f∈pre,0<f.2.1/\f.2.1<T/\f.2.1<=last)/\0<=last/\(last=0\/ ∃f∈pre,f.2.1=last)) (λpre x t last k j=>?_) (λlast j=>?_) fs [] 0 _ rfl rfl ⟨.nil,nofun,bA _,.inl rfl⟩;obtain⟨q,n,A,o⟩:=j;by_cases c:last<x.2.1/\x.2.1<T;rw[(hs pre x t last k).1 c.1 c.2];refine .s ⟨x.2.1,rfl,_L.2 ⟨q,_X _ _,λf hf g r=>?_⟩,λf hf=>?_,by omega,.inr ⟨x,by simp,rfl⟩⟩;rw[fR.1 r];have:=n f hf;omega;rcases zQ9.1 hf with h|h;have:=n f h;omega;rw[fR.1 h];omega;rw[(hs pre x t last k).2 c];refine .s ⟨nofun,fun⟨v,z⟩=>absurd ?_ c⟩;subst k;have w:=z x (by simp);refine⟨?_,w.2⟩;rcases o with h|⟨f,hf,h⟩;omega;rw[<-h];exact(_L.1 v).2.2 f hf x _I;rw[he];exact .s ⟨λ_=>⟨j.1,λf hf=>⟨(j.2.1 f hf).1,(j.2.1 f hf).2.1⟩⟩,λ_=>rfl⟩
theorem S3{l:_F}{σ:Type}{L:σ->Option (σ⊕Bool)}{Q:Bool->Prop}(e:Int->σ)(h1:1<=J0 l)
  (hs: ∀p z x t,l=(p++[z])++x::t->(z<x->L (e (J0 (p++[z])))=Z (.inl (e (J0 (p++[z]++[x])))))/\(¬z<x->L (e (J0 (p++[z])))=Z (.inr J)))
  (hq: ¬Asc l->Q J)
  (he:Asc l->_n (L (e (J0 l))) (xF Q)):_n (J5 L (e 1)) Q:=by
 cases l with
 |nil=>simp[J0]at h1
 |cons a l=>
  refine dZ (l:=a::l) (λi (_:Unit)=>e i) (λpre _=>pre≠[]/\Asc pre) (λpre x t _ k j=>?_) (λ_ j=>he j.2) l [a] () _ rfl rfl ⟨by simp,_X _ _⟩;obtain⟨n,o⟩:=j;obtain⟨p,z,rfl⟩: ∃p z,pre=p++[z]:=⟨pre.dropLast,pre.getLast n,(_P n).symm⟩;by_cases c:z<x;rw[(hs p z x t k).1 c];exact .s ⟨(),rfl,by simp,JQK (lt:=λa b:Int=>a<b) (λa b c h g=>Int.lt_trans h g) o c⟩;rw[(hs p z x t k).2 c];refine .s (hq λh=>absurd ?_ c);rw[k]at h;exact(_L.1 h).2.2 z (by simp) x _I
theorem dB{α:Type}{p t l:List α}{x:α}{n:Int}(h:l=p++x::t)(hl:J0 l<=n)(hn:n<=4611686018427387904:=by decide):J1 I (J0 p) 1=J0 (p++[x]):=JRZ h oo
theorem pT(a:J4):_n (jY a) λy=>y=O↔hC a:=by
 have e: ∀{p:Prop},¬p->(hC a->p)->_n (Z J) λy=>y=O↔hC a:=λ_e h=>.s ⟨nofun,λk=>absurd (h k) _e⟩;have bd:_n (wR (a.2.1,a.1)) λy=>y=O↔(1<=a.2.1/\a.2.1<=64)/\(1<=J0 a.1/\J0 a.1<=16)/\idx a.1 0=Z 0/\Asc a.1/\ ∀z,idx a.1 (J0 a.1-1)=Z z->z<a.2.1:=by
  unfold wR;dsimp only;refine .j (λB=>.k (λC=>.j (λD=>.k (λF=>?_) λc=>.s ⟨nofun,λk=>by omega⟩) λc=>.s ⟨nofun,λk=>by omega⟩) λc=>.s ⟨nofun,λk=>by omega⟩) λc=>.s ⟨nofun,λk=>by omega⟩;obtain⟨z,j,_⟩:=eA (l:=a.1) (i:=0) _k oo;refine .w j (.d (λc=>.s ⟨nofun,λk=>absurd (j.symm.trans k.2.2.1) (by simpa using c)⟩) λo=>?_);subst o;refine S3 (l:=a.1) (λi=>(a.2.1,a.1,i)) oo (λp z x t h=>?_) (λh=>⟨nofun,λk=>absurd k.2.2.2.1 h⟩) λh=>?_;unfold qy
  (try dsimp only)
  have:=Ja (l:=p);have os:=bF (J0 (p++[z])) 1;have _d:J0 (p++[z])=J0 p+1:=by rw[cQ,cA]
  have lt:=cL h;rw[if_pos (Jp.2 lt),show Jm I (J0 (p++[z])) 1=J0 (p++[z])-1 by omega,Rl h,cW h];dsimp only[_Q];exact⟨λc=>by rw[if_neg (by rw[jF];omega),dB h (n:=16) oo],λc=>by rw[if_pos (jF.2 oo)]⟩;unfold qy
  (try dsimp only)
  have os:=bF (J0 a.1) 1;rw[if_neg (by rw[Jp];omega),show Jm I (J0 a.1) 1=J0 a.1-1 by omega];obtain⟨w,H,_⟩:=eA (l:=a.1) (i:=J0 a.1-1) oo oo;rw[H];refine .s ?_;show aK w a.2.1=O↔_;rw[Jp];exact⟨λk=>⟨⟨by omega,by omega⟩,⟨by omega,by omega⟩,j,h,λz r=>by injection r with r;omega⟩,λk=>k.2.2.2.2 w rfl⟩
 unfold jY;refine .b bd λy h=>.r (λg=>?_) λg=>e (p:=y=O) (by simp[g]) λk=>h.2 ⟨k.pages,k.len,k.zero,k.asc,k.last⟩;obtain⟨b1,b2,A,E,v⟩:=h.1 g;refine .j (λB=>.k (λC=>.j (λD=>.k (λF=>.g (λc=>e (p:=J0 a.2.2.1<=256) oo λk=>k.few) λo=>?_) λc=>e (p:=a.2.2.2.2<=1073741825) oo λk=>k.ser.2) λc=>e (p:=1<=a.2.2.2.2) oo λk=>k.ser.1) λc=>e (p:=a.2.2.2.1<=1099511627777) oo λk=>k.next.2) λc=>e (p:=1<=a.2.2.2.1) oo λk=>k.next.1;refine(Av (T:=a.2.2.2.2) (fs:=a.2.2.1) (λi l=>(l,i,a)) (λpre x t last h=>?_) λlast=>?_).mono λy h=>h.trans ⟨λk=>⟨b1,b2,A,E,v,⟨by omega,by omega⟩,⟨by omega,by omega⟩,by omega,k.1,k.2⟩,λk=>⟨k._p,k.inr⟩⟩;unfold cj;dsimp only;rw[if_pos (Jp.2 (cL h)),cW h];dsimp only[_Q];refine⟨λG K=>?_,λq=>?_⟩;rw[if_pos (show aW x.2.1 last=J by rw[<-_W,dK];omega),if_neg (by rw[jF];omega),dB h (n:=256) oo];by_cases G:last<x.2.1;rw[if_pos (show aW x.2.1 last=J by rw[<-_W,dK];omega),if_pos (jF.2 oo)];rw[if_neg (by rw[dK.2 oo];decide)];unfold cj;dsimp only;rw[if_neg (by rw[Jp];omega)]
theorem e8(a:J4):_n (kE a) λy=>y=O↔hC a:=by
 have e: ∀{p:Prop},¬p->(hC a->p)->_n (Z J) λy=>y=O↔hC a:=λF h=>.s ⟨nofun,λk=>absurd (h k) F⟩;unfold kE;refine .j (λA=>.k (λB=>.j (λC=>.k (λD=>?_) λc=>e (p:=J0 a.1<=16) oo λk=>k.len.2) λc=>e (p:=1<=J0 a.1) oo λk=>k.len.1) λc=>e (p:=a.2.1<=64) oo λk=>k.pages.2) λc=>e (p:=1<=a.2.1) oo λk=>k.pages.1;obtain⟨z,r,_⟩:=eA (l:=a.1) (i:=0) _k oo;have os:=bF (J0 a.1) 1;obtain⟨w,j,_⟩:=eA (l:=a.1) (i:=J0 a.1-1) oo oo;refine .w r (.q (λv=>?_) λc=>e (p:=idx a.1 0=Z 0) (by rw[r];simpa using c) λk=>k.zero);subst v;rw[show Jm I (J0 a.1) 1=J0 a.1-1 by omega];refine .w j (.h (λc=>e (p:=w<a.2.1) oo λk=>k.last w j) λG=>?_);refine S3 (l:=a.1) (λi=>(J0 a.1,i,a)) oo (λp z x t h=>?_) (λh=>⟨nofun,λk=>absurd k.asc h⟩) λh=>?_;unfold rp
 (try dsimp only)
 have:=Ja (l:=p);have os:=bF (J0 (p++[z])) 1;have H:J0 (p++[z])=J0 p+1:=by rw[cQ,cA]
 have lt:=cL h;rw[if_pos (Jp.2 lt),show Jm I (J0 (p++[z])) 1=J0 (p++[z])-1 by omega,Rl h,cW h];dsimp only[_Q];exact⟨λc=>by rw[if_neg (by rw[jF];omega),dB h (n:=16) oo],λc=>by rw[if_pos (jF.2 oo)]⟩;unfold rp
 (try dsimp only)
 rw[if_neg (by rw[Jp];omega)];refine .endq ?_;refine .j (λA=>.k (λB=>.j (λC=>.k (λD=>.g (λc=>e (p:=J0 a.2.2.1<=256) oo λk=>k.few) λv=>?_) λc=>e (p:=a.2.2.2.2<=1073741825) oo λk=>k.ser.2) λc=>e (p:=1<=a.2.2.2.2) oo λk=>k.ser.1) λc=>e (p:=a.2.2.2.1<=1099511627777) oo λk=>k.next.2) λc=>e (p:=1<=a.2.2.2.1) oo λk=>k.next.1;refine(Av (T:=a.2.2.2.2) (fs:=a.2.2.1) (λi l=>(l,a.2.2.1,J0 a.2.2.1,i,a)) (λpre x t last g=>?_) λlast=>?_).mono λy g=>g.trans ⟨λk=>⟨⟨by omega,by omega⟩,⟨by omega,by omega⟩,r,h,λz o=>by rw[j]at o;injection o with o;omega,⟨by omega,by omega⟩,⟨by omega,by omega⟩,by omega,k.1,k.2⟩,λk=>⟨k._p,k.inr⟩⟩;unfold rn;dsimp only;rw[if_pos (Jp.2 (cL g)),cW g];dsimp only[_Q];refine⟨λE _e=>?_,λq=>?_⟩;rw[if_pos (show aW x.2.1 last=J by rw[<-_W,dK];omega),if_neg (by rw[jF];omega),dB g (n:=256) oo];by_cases E:last<x.2.1;rw[if_pos (show aW x.2.1 last=J by rw[<-_W,dK];omega),if_pos (jF.2 oo)];rw[if_neg (by rw[dK.2 oo];decide)];unfold rn;dsimp only;rw[if_neg (by rw[Jp];omega)]
end
def P32:Nat:=2197175160
def gb(c:Nat):Nat:=if c%2=1 then c/2^^^P32 else c/2
def gN:Nat->Nat->Nat|0,c=>c|j+1,c=>gN j (gb c)
def sl(b:Nat):Nat:=if b=1 then P32 else 0
theorem MM(c:Nat):gb c=c/2^^^sl (c%2):=by
 unfold gb sl;split;rfl;rw[Nat.xor_zero]
theorem JU0(x y:Nat):gb (x^^^y)=gb x^^^gb y:=by
 have g:(x^^^y)/2=x/2^^^y/2:=by have:= @Nat.xor_div_two_pow x y 1;simpa using this
 have k:(x^^^y)%2=x%2^^^y%2:=by have:= @Nat.xor_mod_two_pow x y 1;simpa using this
 simp only[MM,g,k];have j:sl (x%2^^^y%2)=sl (x%2)^^^sl (y%2):=by rcases Nat.mod_two_eq_zero_or_one x with h|h<;>rcases Nat.mod_two_eq_zero_or_one y with e|e<;>rw[h,e]<;>decide
 rw[j]
 ac_rfl
theorem SR: ∀(j x y:Nat),gN j (x^^^y)=gN j x^^^gN j y|0,_,_=>rfl|j+1,x,y=>by simp only[gN];rw[JU0,SR j]
theorem Ny: ∀(i j x:Nat),gN (i+j) x=gN j (gN i x)|0,j,x=>by simp[gN]|i+1,j,x=>by rw[Nat.succ_add];simp only[gN];exact Ny i j _
theorem Oj(c:Nat):gN 4 c=c/16^^^(sl (c/8%2)^^^gN 1 (sl (c/4%2))^^^gN 2 (sl (c/2%2))^^^gN 3 (sl (c%2))):=by
 have s1:gN 4 c=gN 3 (c/2)^^^gN 3 (sl (c%2)):=by rw[<-SR,<-MM];rfl
 have h:gN 3 (c/2)=gN 2 (c/4)^^^gN 2 (sl (c/2%2)):=by rw[<-SR,show c/4=c/2/2 by omega,<-MM];rfl
 have e:gN 2 (c/4)=gN 1 (c/8)^^^gN 1 (sl (c/4%2)):=by rw[<-SR,show c/8=c/4/2 by omega,<-MM];rfl
 have g:gN 1 (c/8)=c/16^^^sl (c/8%2):=by rw[show c/16=c/8/2 by omega,<-MM];rfl
 rw[s1,h,e,g]
 ac_rfl
theorem JP3(c:Nat):gN 4 c=c/16^^^gN 4 (c%16):=by
 rw[Oj c,Oj (c%16)];have g:c%16/16=0:=by omega
 have h:c%16/8%2=c/8%2:=by omega
 have j:c%16/4%2=c/4%2:=by omega
 have k:c%16/2%2=c/2%2:=by omega
 have e:c%16%2=c%2:=by omega
 rw[g,h,j,k,e,Nat.zero_xor]
theorem xy:P32<2^32:=by decide
theorem ML{c:Nat}(h:c<2^32):gb c<2^32:=by
 unfold gb;split;exact _Z oo xy;omega
theorem BY: ∀{j c:Nat},c<2^32->gN j c<2^32|0,_,h=>h|j+1,_,h=>BY (j:=j) (ML h)
theorem CZ(n:Nat)(h:n<2^32):IntKind.wrap .u32 (n:Int)=(n:Int):=by rw[show IntKind.wrap .u32 (n:Int)=(n:Int)%4294967296 from rfl];omega
theorem GM{n:Nat}(h:n<2^32):(BitVec.ofInt 32 (n:Int)).toNat=n:=by rw[BitVec.toNat_ofInt];omega
theorem OF{x y:Nat}(hx:x<2^32)(hy:y<2^32):fE .u32 (x:Int) (y:Int)=((x^^^y:Nat):Int):=by show IntKind.wrap .u32 (((BitVec.ofInt 32 (x:Int)^^^BitVec.ofInt 32 (y:Int)).toNat:Nat):Int)=_;rw[BitVec.toNat_xor,GM hx,GM hy,CZ _ (_Z hx hy)]
theorem Rw{x:Nat}(hx:x<2^32)(k:Nat)(hk:k<=20):lM .u32 (x:Int) ((2^k-1:Nat):Int)=((x%2^k:Nat):Int):=by
 show IntKind.wrap .u32 (((BitVec.ofInt 32 (x:Int)&&&BitVec.ofInt 32 ((2^k-1:Nat):Int)).toNat:Nat):Int)=_;have h2:2^k-1<2^32:=by have:(2:Nat)^k<=2^20:=GN oo hk;omega
 rw[BitVec.toNat_and,GM hx,GM h2,Nat.and_two_pow_sub_one_eq_mod,CZ _ (Nat.lt_of_le_of_lt (Nat.mod_le _ _) hx)]
theorem Kq{x:Nat}(hx:x<2^32):lM .u32 (x:Int) 1=((x%2:Nat):Int):=Rw hx 1 oo
theorem JUt{x:Nat}(hx:x<2^32):lM .u32 (x:Int) 15=((x%16:Nat):Int):=Rw hx 4 oo
theorem dl(x:Nat):iA .u32 (x:Int) 1=Z ((x/2:Nat):Int):=by show Z ((x:Int).fdiv 2)=_;rw[Int.fdiv_eq_ediv_of_nonneg _ oo];simp
theorem Iz(x:Nat):iA .u32 (x:Int) 4=Z ((x/16:Nat):Int):=by show Z ((x:Int).fdiv 16)=_;rw[Int.fdiv_eq_ediv_of_nonneg _ oo];simp
def uS:_j->Nat->Nat|[],c=>c|b::r,c=>uS r (gN 8 (c^^^b.toNat))
theorem CX(b:UInt8):b.toNat<2^32:=by have:=UInt8.toNat_lt b;omega
theorem Qv: ∀{l:_j} {c:Nat},c<2^32->uS l c<2^32|[],_,h=>h|b::r,_,h=>Qv (l:=r) (BY (_Z h (CX b)))
def crc(l:_j):Nat:=uS l 4294967295^^^4294967295
theorem JTH(l:_j):crc l<2^32:=_Z (Qv _k) _k
theorem Sa{x:Nat}(hx:x<2^32):QT .u32 (x:Int)=((x^^^4294967295:Nat):Int):=by show IntKind.wrap .u32 (((BitVec.ofInt 32 4294967295^^^BitVec.ofInt 32 (x:Int)).toNat:Nat):Int)=_;rw[BitVec.toNat_xor,GM hx,show(4294967295:Int)=((4294967295:Nat):Int) by rfl,GM _k,Nat.xor_comm,CZ _ (_Z hx _k)]
theorem wh{l:_j}{k:Nat}(h:k<l.length):mK l (k:Int)=Z ((l[k]).toNat:Int):=by simp[mK,h]
theorem j7(l:_j)(hl:J0 l<=1073741824):tX l=Z ((crc l:Nat):Int):=by
 have j: ∀(x c:Nat),c<2^32->_n (J5 YI (l,(c:Int),(x:Int),0)) λr=>r=.inl (l,((gN 8 c:Nat):Int),J1 I (x:Int) 1):=λx c hc=>by
  refine Jn (τ:=Nat×Nat) (λq=>(l,(q.2:Int),(x:Int),(q.1:Int))) (λq=>q.1<=8/\q.2<2^32/\gN (8-q.1) q.2=gN 8 c) (λq=>8-(q.1:Int)) ?_ (0,c) rfl ⟨by omega,hc,rfl⟩;rintro⟨k,d⟩ ⟨h1,h2,g⟩;unfold YI;dsimp only at h1 h2 g⊢;have o:=Jl (k:Int) 1;refine .l (λv=>?_) λv=>.map (P:=λr=>r=.inl (l,((gN 8 c:Nat):Int),J1 I (x:Int) 1)) (.s ?_) λ_ h=>h;have D:=Kq h2;have z:gN (8-(k+1)) (gb d)=gN 8 c:=by rw[<-g,show 8-k=(8-(k+1))+1 by omega];rfl
  have w:J1 I (k:Int) 1=((k+1:Nat):Int):=by omega
  rw[D];refine .e (λhb=>.w (dl d) (.s ⟨(k+1,gb d),?_,⟨by omega,ML h2,z⟩,by omega,by omega⟩)) λhb=>.w (dl d) (.s ⟨(k+1,gb d),?_,⟨by omega,ML h2,z⟩,by omega,by omega⟩);have hb:d%2=1:=by omega
  have n:gb d=d/2^^^P32:=by unfold gb;rw[if_pos hb]
  rw[w,n,show(2197175160:Int)=((P32:Nat):Int)from rfl,OF oo xy];have hb: ¬d%2=1:=by omega
  have n:gb d=d/2:=by unfold gb;rw[if_neg hb]
  rw[w,n];have hk:k=8:=by omega
  subst hk;rw[<-g];rfl
 have y:_n (tX l) λr=>r=((crc l:Nat):Int):=by
  unfold tX;refine Jn (τ:=Nat×Nat) (λq=>(l,(q.2:Int),(q.1:Int))) (λq=>q.1<=l.length/\q.2<2^32/\uS (l.drop q.1) q.2=uS l 4294967295) (λq=>(l.length:Int)-(q.1:Int)) ?_ (0,4294967295) rfl ⟨by omega,by decide,rfl⟩;rintro⟨k,d⟩ ⟨h1,h2,g⟩;unfold pf;dsimp only at h1 h2 g⊢;have E:J0 l=(l.length:Int):=rfl;have o:=Jl (k:Int) 1;refine .l (λv=>?_) λv=>.s ?_;have hk:k<l.length:=by omega
  have A:=_Z h2 (CX l[k]);refine .w (wh hk) ?_;have B:aT .u32 ((l[k]).toNat:Int)=((l[k]).toNat:Int):=CZ _ (CX _);rw[B,OF h2 (CX _)];obtain⟨r,C,rfl⟩:=j k _ A;rw[C];refine .s ⟨(k+1,gN 8 (d^^^(l[k]).toNat)),?_,⟨by omega,BY A,?_⟩,by omega,by omega⟩;rw[show J1 I (k:Int) 1=((k+1:Nat):Int) by omega];rw[<-g,List.drop_eq_getElem_cons hk];rfl;have hk:k=l.length:=by omega
  subst hk;rw[List.drop_length]at g;have g:d=uS l 4294967295:=g;rw[Sa h2,g];rfl
 obtain⟨r,e,rfl⟩:=y;exact e
theorem Ol{n k:Nat}(h:k<n):aR n (k:Int)=Z ():=by
 have e:(0:Int)<=k/\(k:Int)<n:=by omega
 simp[aR,e]
theorem JNY:_n (ic ()) λv=> ∀(i:Nat) (h:i<16),v[i]=((gN 4 i:Nat):Int):=by
 have w: ∀(x:Nat) (n g:Vector Int 16),x<16->_n (J5 yc ((x:Int),(x:Int),(x:Int),0,n,g)) λr=>r=.inl (J1 I (x:Int) 1,n,bL g x ((gN 4 x:Nat):Int)):=λx n g C=>by
  refine Jn (τ:=Nat×Nat) (λq=>((x:Int),(q.2:Int),(x:Int),(q.1:Int),n,g)) (λq=>q.1<=4/\q.2<2^32/\gN (4-q.1) q.2=gN 4 x) (λq=>4-(q.1:Int)) ?_ (0,x) rfl ⟨by omega,by omega,rfl⟩;rintro⟨k,d⟩ ⟨h1,h2,j⟩;unfold yc;dsimp only at h1 h2 j⊢;have o:=Jl (k:Int) 1;refine .l (λz=>?_) λz=>.map (P:=λr=>r=.inl (J1 I (x:Int) 1,n,bL g x ((gN 4 x:Nat):Int))) ?_ λ_ h=>h;have F:=Kq h2;have B:gN (4-(k+1)) (gb d)=gN 4 x:=by rw[<-j,show 4-k=(4-(k+1))+1 by omega];rfl
  have A:J1 I (k:Int) 1=((k+1:Nat):Int):=by omega
  rw[F];refine .e (λhb=>.w (dl d) (.s ⟨(k+1,gb d),?_,⟨by omega,ML h2,B⟩,by omega,by omega⟩)) λhb=>.w (dl d) (.s ⟨(k+1,gb d),?_,⟨by omega,ML h2,B⟩,by omega,by omega⟩);have hb:d%2=1:=by omega
  have y:gb d=d/2^^^P32:=by unfold gb;rw[if_pos hb]
  rw[A,y,show(2197175160:Int)=((P32:Nat):Int)from rfl,OF oo xy];have hb: ¬d%2=1:=by omega
  have y:gb d=d/2:=by unfold gb;rw[if_neg hb]
  rw[A,y];have hk:k=4:=by omega
  subst hk;have j:d=gN 4 x:=j;have G:vat g (_G (x:Int))=Z g[x]:=by simp[vat,C]
  refine .w (Ol C) (.w G (.s ?_));rw[j];rfl
 unfold ic;refine Jn (τ:=Nat×Vector Int 16) (λq=>((q.1:Int),Vector.replicate 16 0,q.2)) (λq=>q.1<=16/\ ∀(i:Nat) (h:i<16),i<q.1->q.2[i]=((gN 4 i:Nat):Int)) (λq=>16-(q.1:Int)) ?_ (0,Vector.replicate 16 0) rfl ⟨by omega,λi h H=>by omega⟩;rintro⟨k,v⟩ ⟨h1,h2⟩;unfold Ib;dsimp only at h1 h2⊢;have o:=Jl (k:Int) 1;refine .l (λz=>?_) λz=>.s λi h=>h2 i h oo;have hk:k<16:=by omega
 have D:aT .u32 (k:Int)=(k:Int):=CZ _ oo;rw[D];obtain⟨r,E,rfl⟩:=w k (Vector.replicate 16 0) v hk;rw[E];refine .s ⟨(k+1,bL v k ((gN 4 k:Nat):Int)),by rw[show J1 I (k:Int) 1=((k+1:Nat):Int) by omega],⟨by omega,λi h hi=>?_⟩,by omega,by omega⟩;simp only[bL,Vector.getElem_setIfInBounds];by_cases e:k=i;subst e;simp;rw[if_neg e];exact h2 i h oo
theorem Oz(l:_j)(hl:J0 l<=1073741824):KE l=Z ((crc l:Nat):Int):=by
 have n:_n (KE l) λr=>r=((crc l:Nat):Int):=by
  unfold KE;refine .b JNY λv ht=>Jn (τ:=Nat×Nat) (λq=>(l,(q.2:Int),J0 l,(q.1:Int),v)) (λq=>q.1<=l.length/\q.2<2^32/\uS (l.drop q.1) q.2=uS l 4294967295) (λq=>(l.length:Int)-(q.1:Int)) ?_ (0,4294967295) rfl ⟨by omega,by decide,rfl⟩;rintro⟨k,d⟩ ⟨h1,h2,g⟩;unfold Dz;dsimp only at h1 h2 g⊢;have D:J0 l=(l.length:Int):=rfl;have o:=Jl (k:Int) 1;refine .l (λz=>?_) λz=>.s ?_;have hk:k<l.length:=by omega
  have j:=_Z h2 (CX l[k]);have step: ∀x:Nat,x<2^32->aR 16 (lM .u32 (x:Int) 15)=Z ()/\vat v (_G (lM .u32 (x:Int) 15))=Z ((gN 4 (x%16):Nat):Int)/\fE .u32 ((x/16:Nat):Int) ((gN 4 (x%16):Nat):Int)=((gN 4 x:Nat):Int):=by
   intro x j;have h:x%16<16:=by omega
   rw[JUt j];refine⟨Ol h,by rw[_U,<-ht _ h];simp[vat,h],?_⟩;rw[OF oo (BY oo),<-JP3]
  obtain⟨B,C,A⟩:=step _ j;obtain⟨b1,b2,y⟩:=step (gN 4 (d^^^(l[k]).toNat)) (BY j);have w:aT .u32 ((l[k]).toNat:Int)=((l[k]).toNat:Int):=CZ _ (CX _);refine .w (wh hk) ?_;rw[w,OF h2 (CX _)];refine .w (Iz _) (.w B (.w C ?_));rw[A];refine .w (Iz _) (.w b1 (.w b2 ?_));rw[y];refine .s ⟨(k+1,gN 4 (gN 4 (d^^^(l[k]).toNat))),by rw[show J1 I (k:Int) 1=((k+1:Nat):Int) by omega],⟨by omega,BY (BY j),?_⟩,by omega,by omega⟩;rw[<-g,List.drop_eq_getElem_cons hk,<-Ny 4 4];rfl;have hk:k=l.length:=by omega
  subst hk;rw[List.drop_length]at g;have g:d=uS l 4294967295:=g;rw[Sa h2,g];rfl
 obtain⟨r,e,rfl⟩:=n;exact e
theorem Ry{n:Int}(h1:0<=n)(h2:n<18446744073709551616):IntKind.u64.wrap n=n:=by rw[show IntKind.u64.wrap n=n%18446744073709551616 by simp[IntKind.wrap,IntKind.bits,IntKind.signed]];omega
theorem my{σ τ ρ:Type}{f:σ->Option (σ⊕ρ)}{g:τ->Option (τ⊕ρ)}(R:σ->τ->Prop)
  (h: ∀s t,R s t->(f s=Y/\g t=Y)\/(∃r,f s=Z (.inr r)/\g t=Z (.inr r))\/ ∃s' t',f s=Z (.inl s')/\g t=Z (.inl t')/\R s' t'):
  ∀(n:Nat) s t,R s t->dF f n s=dF g n t
 |0,s,t,_=>rfl
 |n+1,s,t,hR=>by
  rcases h s t hR with⟨h1,h2⟩|⟨r,h1,h2⟩|⟨s',t',h1,h2,e⟩;simp only[dF,h1,h2];simp only[dF,h1,h2];simp only[dF,h1,h2];exact my R h n s' t' e
theorem IV{σ τ ρ:Type}{f:σ->Option (σ⊕ρ)}{g:τ->Option (τ⊕ρ)}(R:σ->τ->Prop)
  (h: ∀s t,R s t->(f s=Y/\g t=Y)\/(∃r,f s=Z (.inr r)/\g t=Z (.inr r))\/ ∃s' t',f s=Z (.inl s')/\g t=Z (.inl t')/\R s' t') {s:σ} {t:τ} (hR:R s t):
  J5 f s=J5 g t:=by
 apply Option.ext;intro r;rw[mB,mB];constructor;rintro⟨n,e⟩;exact⟨n,by rw[<-my R h n s t hR];exact e⟩;rintro⟨n,e⟩;exact⟨n,by rw[my R h n s t hR];exact e⟩
theorem SZ(x:_j×Jq):DL x=JT x:=by
 obtain⟨s,a,n⟩:=x;unfold DL JT;dsimp only;by_cases h1:aK n 1=J;rw[if_pos h1,if_pos h1];by_cases h2:aO n 8=J;rw[if_pos h2,if_pos h2];split;rfl;split;split;rfl;have L:1<=n:=by
  have: ¬n<1:=λh=>by rw[Jp.2 h]at h1;cases h1
  omega
 have E:n<=8:=by
  have: ¬8<n:=λh=>by rw[fO.2 h]at h2;cases h2
  omega
 refine IV (fun(z:_j×Int×Int×Int×Int) (w:_j×Int×Int×Int×Int)=>z.1=w.1/\z.2.1=w.2.1/\z.2.2.1=w.2.2.2.1/\z.2.2.2.1=w.2.2.1/\z.2.2.2.2=w.2.2.2.2/\0<=z.2.2.2.2/\z.2.2.2.1<=8) ?_ ⟨rfl,rfl,rfl,rfl,rfl,bA _,E⟩;rintro⟨s1,G,_e,F,g⟩ ⟨H,N,M,_d,K⟩ ⟨A,v,B,k,j,C,r⟩;dsimp only at A v B k j C r;subst A v B k j;unfold Da EP;dsimp only;by_cases hk:aK g F=O;rw[if_pos hk,if_pos hk];have hk:=Jp.1 hk;have D:aT .u64 (cI I 8 g)=cI I 8 g:=by
  have o:=vF 8 g;have e:cI I 8 g=8*g:=by omega
  rw[e];exact Ry oo oo
 rw[D];cases mK s1 (J1 I G g)with
 |none=>exact .inl ⟨rfl,rfl⟩
 |some y=>
  simp only[JF];cases qV .u64 (aT .u64 y) (cI I 8 g)with
  |none=>exact .inl ⟨rfl,rfl⟩
  |some q=>have o:=Jl g 1;exact .inr (.inr ⟨_,_,rfl,rfl,rfl,rfl,rfl,rfl,rfl,by dsimp only;omega,r⟩)
 rw[if_neg hk,if_neg hk];exact .inr (.inl ⟨_,rfl,rfl⟩);rfl;rw[if_neg h2,if_neg h2];rw[if_neg h1,if_neg h1]
theorem jx{l:_j}{n:Int}{k:Nat}(h1:1<=k)(h:k<=8)(hl:J0 l<=70368744177664):fP (l,n,(k:Int))=Z (l++J5Z n k):=by
 show JqY l n (k:Int)=_;have e: ¬((k:Int)<1\/8<(k:Int)):=by omega
 have g:l.length+8<=140737488355328:=by unfold J0 at hl;omega
 rw[JqY,if_neg e,if_pos g,_U]
theorem kt{s:_j}{n:Int}{k:Nat}(h1:1<=k)(y:k<=8)(hl:J0 s<=70368744177664):JE (s,n,(k:Int))=Z (s++J5Z n k):=by
 have g:_n (JE (s,n,(k:Int))) λr=>r=s++J5Z n k:=by
  unfold JE;refine .j (λ_=>.g (λc=>by dsimp only at c;omega) λ_=>?_) λc=>by dsimp only at c;omega
  refine Jn (τ:=Nat) (λj=>(s++J5Z n j,n,(k:Int),(j:Int))) (λj=>j<=k) (λj=>(k:Int)-(j:Int)) ?_ 0 (by simp[J5Z,_D]) (zQ2 _);intro j z;unfold px;dsimp only;have x:=Jl (j:Int) 1;have w:=vF 8 (j:Int);refine .l (λc=>?_) λc=>.s (by rw[show j=k by omega]);have o:aT .u64 (cI I 8 (j:Int))=((8*j:Nat):Int):=by unfold aT;rw[Ry oo oo];omega
  have v:iA .u64 (aT .u64 n) (aT .u64 (cI I 8 (j:Int)))=Z ((aT .u64 n).fdiv (2^(8*j))):=by
   rw[o];simp only[iA];rw[if_neg oo];have:min (((8*j:Nat):Int)).toNat IntKind.u64.bits=8*j:=by simp only[_U];exact Nat.min_eq_left (by show 8*j<=64;omega)
   rw[this]
  have q:aT .u8 ((aT .u64 n).fdiv (2^(8*j)))=Jb4 n j:=rfl;refine .w v ?_;rw[q];have h:cP (s++J5Z n j) (_D [Jb4 n j])=Z (s++J5Z n (j+1)):=by unfold cP;rw[if_pos (by unfold J0 at hl;simp[J5Z,_D];omega)];simp[J5Z,_D,List.range_succ]
  exact .w h (.s ⟨j+1,by rw[show J1 I (j:Int) 1=((j+1:Nat):Int) by omega],by omega,by omega,by omega⟩)
 obtain⟨r,e,rfl⟩:=g;exact e
theorem Sh(l:_j):nF l=qL l:=by
 unfold nF qL;by_cases h:aO (J0 l) 8392=O;rw[if_pos h,if_pos h];rw[if_neg h,if_neg h];have r:J0 l<=8392:=by have: ¬8392<J0 l:=λc=>h (fO.2 c);omega
 have e:J0 ([]:_j)<=70368744177664:=by decide
 have g:=jx (l:=[]) (n:=J0 l) (k:=4) _k _k e;have j:=kt (s:=[]) (n:=J0 l) (k:=4) _k _k e;rw[show((4:Nat):Int)=4 from rfl]at g j;rw[g,j];simp only[JF];cases hc:cP ([]++J5Z (J0 l) 4) l with
 |none=>rfl
 |some y=>
  simp only[JF];have v:J0 y<=8396:=(by unfold cP at hc;split at hc;cases hc;unfold J0 at*;simp[J5Z,_D];omega;cases hc);rw[Oz y oo,j7 y oo];simp only[JF];have o:=jx (l:=y) (n:=aT I ((crc y:Nat):Int)) (k:=4) _k _k oo;have q:=kt (s:=y) (n:=aT I ((crc y:Nat):Int)) (k:=4) _k _k oo;rw[show((4:Nat):Int)=4 from rfl]at o q;rw[o,q]
theorem ew{n:Int}(h1:0<=n)(h2:n<18446744073709551616):IntKind.u64.wrap n=n:=by simp[IntKind.wrap,IntKind.bits,IntKind.signed];omega
theorem K3{n:Int}(h1: -9223372036854775808<=n)(h2:n<=9223372036854775807):IntKind.i64.wrap n=n:=by simp[IntKind.wrap,IntKind.bits,IntKind.signed];omega
theorem JU2{x b j:Nat}(hj:j<=7)(hx:x<2^(8*j))(hb:b<256):
  orI .u64 (x:Int) (IntKind.wrap .u64 (((b:Nat):Int)*2^(8*j)))=((x+b*2^(8*j):Nat):Int):=by
 have k:(2:Nat)^(8*j)*256<=2^64:=by rw[show(256:Nat)=2^8 by rfl,<-Nat.pow_add];exact GN oo oo
 have n:b*2^(8*j)+2^(8*j)<=2^64:=by have:(b+1)*2^(8*j)<=256*2^(8*j):=zQ4 _ oo;rw[zQ8,Nat.one_mul]at this;omega
 have w:IntKind.wrap .u64 (((b:Nat):Int)*2^(8*j))=((b*2^(8*j):Nat):Int):=by
  have e:(((b:Nat):Int)*2^(8*j))=((b*2^(8*j):Nat):Int):=by simp
  rw[e,ew oo oo]
 rw[w];have g: ∀y:Nat,y<2^64->(BitVec.ofInt 64 (y:Int)).toNat=y:=by intro y o;rw[BitVec.toNat_ofInt];omega
 show IntKind.wrap .u64 (((BitVec.ofInt 64 (x:Int)|||BitVec.ofInt 64 ((b*2^(8*j):Nat):Int)).toNat:Nat):Int)=_;rw[BitVec.toNat_or,g x oo,g _ oo];have h:x|||b*2^(8*j)=x+b*2^(8*j):=by rw[Nat.or_comm,FX b,<-Nat.two_pow_add_eq_or_of_lt hx,Nat.add_comm]
 rw[h,ew oo oo]
theorem d9{s:_j}{p:Int}(hp:0<=p)(hl:J0 s<=1073741824):
  (p+4<=J0 s-> ∃v:Nat,v<2^32/\JT (s,p,4)=Z ((v:Int),0))/\(J0 s<p+4->p<=4611686018427387904->JT (s,p,4)=Z (0,5)):=by
 have o:=bF (J0 s) p;have H:J0 s=(s.length:Int):=rfl;refine⟨λh=>?_,λh G=>?_⟩;have k:_n (JT (s,p,4)) λy=> ∃v:Nat,v<2^32/\y=((v:Int),0):=by
  unfold JT;dsimp only;refine .j (λ_=>.k (λ_=>.l (λc=>by omega) λ_=>.k (λ_=>.l (λc=>by omega) λ_=>?_) λc=>by omega) λc=>by omega) λc=>by omega
  refine Jn (τ:=Nat×Nat) (λq=>(s,p,4,(q.2:Int),(q.1:Int))) (λq=>q.1<=4/\q.2<2^(8*q.1)) (λq=>4-(q.1:Int)) ?_ (0,0) rfl ⟨by omega,by decide⟩;rintro⟨j,x⟩ ⟨E,n⟩;dsimp only at E n;unfold EP;dsimp only;have K:=Jl (j:Int) 1;have _d:=vF 8 (j:Int);have L:=Jl p (j:Int);refine .l (λc=>?_) λc=>.s ?_;have D:J1 I p (j:Int)=((p.toNat+j:Nat):Int):=by omega
  have g:p.toNat+j<s.length:=by omega
  have w:(s[p.toNat+j]'g).toNat<256:=UInt8.toNat_lt _;have B:aT .u64 (cI I 8 (j:Int))=((8*j:Nat):Int):=by unfold aT;rw[ew oo oo];omega
  have C:qV .u64 (aT .u64 (((s[p.toNat+j]'g).toNat:Nat):Int)) ((8*j:Nat):Int)=Z (IntKind.wrap .u64 ((((s[p.toNat+j]'g).toNat:Nat):Int)*2^(8*j))):=by
   unfold aT;rw[ew oo oo];simp only[qV];rw[if_neg oo];have:min (((8*j:Nat):Int)).toNat IntKind.u64.bits=8*j:=by simp only[_U];exact Nat.min_eq_left (by show 8*j<=64;omega)
   rw[this]
  have z:=JU2 (x:=x) (b:=(s[p.toNat+j]'g).toNat) (j:=j) oo n w;have A:x+(s[p.toNat+j]'g).toNat*2^(8*j)<2^(8*(j+1)):=by
   have _e:(2:Nat)^(8*(j+1))=256*2^(8*j):=by rw[Nat.mul_add,Nat.pow_add,FX]
   have:((s[p.toNat+j]'g).toNat+1)*2^(8*j)<=256*2^(8*j):=zQ4 _ oo;rw[zQ8,Nat.one_mul]at this;omega
  rw[D,wh g,JF,B,C,JF,z];exact .s ⟨(j+1,x+(s[p.toNat+j]'g).toNat*2^(8*j)),by rw[show J1 I (j:Int) 1=((j+1:Nat):Int) by omega],⟨by omega,A⟩,by omega,by omega⟩;have r:j=4:=by omega
  subst r;refine⟨x,n,?_⟩;unfold aT;rw[K3 oo oo]
 obtain⟨y,e,v,F,rfl⟩:=k;exact⟨v,F,e⟩;have k:_n (JT (s,p,4)) λy=>y=(0,5):=(by unfold JT;dsimp only;exact .j (λ_=>.k (λ_=>.l (λc=>by omega) λ_=>.k (λ_=>.l (λc=>.s rfl) λc=>by omega) λc=>.s rfl) λc=>by omega) λc=>by omega);obtain⟨y,e,rfl⟩:=k;exact e
theorem Ay{s:_j}{p:Int}(hl:J0 s<=1073741824):RN (s,p)=sP (s,p):=by
 unfold RN sP;dsimp only;by_cases g:aK p 0=J;rw[if_pos g,if_pos g];have j:0<=p:=by
  have: ¬p<0:=λc=>by rw[Jp.2 c]at g;cases g
  omega
 by_cases h1:aO p (J0 s)=O;rw[if_pos h1,if_pos h1];rw[if_neg h1,if_neg h1];have x:p<=J0 s:=by have: ¬J0 s<p:=λc=>h1 (fO.2 c);omega
 rw[SZ];rcases Int.lt_or_le (J0 s) (p+4)with hc|hc;rw[(d9 j hl).2 hc oo];rfl;obtain⟨v,_d,e⟩:=(d9 j hl).1 hc;rw[e];simp only[JF];rw[if_neg (show¬aN 0 0=O by decide),if_neg (show¬aN 0 0=O by decide)];by_cases h2:aO (v:Int) 8392=O;rw[if_pos h2,if_pos h2];rw[if_neg h2,if_neg h2];have z:(v:Int)<=8392:=by have: ¬8392<(v:Int):=λc=>h2 (fO.2 c);omega
 have E:=Jl p 4;have D:=Jl (J1 I p 4) (v:Int);have F:=bF (J0 s) p;have G:=Jl (v:Int) 8;have B:=Jl p 8;have A:=Jl (J1 I p 8) (v:Int);have C:=Jl (J1 I (J1 I p 4) (v:Int)) 4;have k:0<=J1 I (J1 I p 4) (v:Int):=by omega
 rw[SZ];rcases Int.lt_or_le (J0 s) (J1 I (J1 I p 4) (v:Int)+4)with hd|hd;rw[(d9 k hl).2 hd oo,if_pos (Jp.2 oo)];rfl;obtain⟨u,r,e'⟩:=(d9 k hl).1 hd;rw[e',if_neg (λc=>by have:=Jp.1 c;omega)];simp only[JF];rw[if_neg (show¬aN 0 0=O by decide)];cases hs:aU s (Z p) (Z (J1 I (J1 I p 4) (v:Int)))with
 |none=>rfl
 |some w=>
  simp only[JF];have H:J0 w<=J0 s:=by
   have q:p<=J1 I (J1 I p 4) (v:Int):=by omega
   obtain⟨w',h,_,_e⟩:=MW (l:=s) j q oo;rw[hs]at h;cases h;omega
  rw[Oz w oo,j7 w oo];simp only[JF];have y:=JTH w;have n:aT I ((crc w:Nat):Int)=((crc w:Nat):Int):=by unfold aT;rw[K3 oo oo]
  have o:aT .u32 (u:Int)=(u:Int):=CZ _ r;rw[n,o,show J1 I (J1 I (J1 I p 4) (v:Int)) 4=J1 I (J1 I p 8) (v:Int) by omega]
 rw[if_neg g,if_neg g]
theorem JQx{x:_j×Jq}{y:Jq}(h:JT x=Z y):y.2=0\/y.1=0:=by
 have e:_t (JT x) λy=>y.2=0\/y.1=0:=by unfold JT;refine .j (λ_=>.k (λ_=>.l (λ_=>.s (.inr rfl)) λ_=>.k (λ_=>.l (λ_=>.s (.inr rfl)) λ_=>?_) λ_=>.s (.inr rfl)) λ_=>.s (.inr rfl)) λ_=>.s (.inr rfl);refine .z (λ_=>True) trivial ?_;intro z _;unfold EP;exact .l (λ_=>.b λ_ _=>.b λ_ _=>.s _g) λ_=>.s (.inl rfl)
 exact e _ h
theorem yx(x:Int×_j×Jq):pG x=mI x:=by
 unfold pG mI;by_cases h:aN x.2.2.2 0=O;rw[if_pos h,if_pos h];rw[if_neg h,if_neg h,SZ];have j:x.2.2.2=0:=Decidable.of_not_not λc=>h (eF.2 c);cases hg:JT (x.2.1,x.2.2.1,x.1)with
 |none=>rfl
 |some y=>
  simp only[JF];by_cases g:y.2=0;rw[if_pos (eM.2 g),if_neg (λc=>eF.1 c g),g,j];rw[if_neg (λc=>g (eM.1 c)),if_pos (eF.2 g)];rcases JQx hg with e|e;exact absurd e g;rw[e]
theorem P2(x:Int×_j×Jq):RS x=FI x:=by
 unfold RS FI;by_cases e:x.2.2.2=0;rw[if_pos (eM.2 e)];have h: ¬aN x.2.2.2 0=O:=λc=>eF.1 c e;rw[if_neg h,if_neg h];by_cases g:Jm I (J0 x.2.1) x.2.2.1<x.1;rw[if_pos (Jp.2 g),if_pos (fO.2 g),if_pos (show aN 5 0=O by decide)];rw[if_neg (λc=>g (Jp.1 c)),if_neg (λc=>g (fO.1 c))];rw[if_neg (λc=>e (eM.1 c)),if_pos (eF.2 e),if_pos (eF.2 e)]
theorem JNq(x:_j×Jq):RV x=FH x:=by unfold RV FH;simp only[yx,P2]
theorem JRg(hv: ∀e,lG e=JJ e)(x:_j):ZE x=zY x:=by unfold ZE zY;simp only[yx,P2,JNq,hv]
theorem dM{s:_j}{n:Int}{k:Nat}(h1:1<=k)(e:k<=8)(hl:J0 s<=70368744177664): ∃y,fP (s,n,(k:Int))=Z y/\JE (s,n,(k:Int))=Z y/\J0 y=J0 s+k:=
 ⟨_,jx h1 e hl,kt h1 e hl,by unfold J0;simp[J5Z,_D]⟩
theorem js{a b y:_j}(h:cP a b=Z y):J0 y=J0 a+J0 b:=by
 unfold cP at h;split at h;cases h;unfold J0;simp;cases h
theorem UV{s:_j}{c:kY}(hl:J0 s<=35184372088832)(hc:J0 c.2<=1073741824): ∃y,OR (s,c)=Z y/\DR (s,c)=Z y/\J0 y<=J0 s+J0 c.2+1:=by
 unfold OR DR;dsimp only;have nn:0<=J0 c.2:=Ja;by_cases h:Jg c.1=O;obtain⟨y,e,g,o⟩:=dM (s:=s) (n:=255) (k:=1) _k _k oo;rw[show((1:Nat):Int)=1 from rfl]at e g o;exact⟨y,by rw[if_pos h,e];rfl,by rw[if_pos h,g];rfl,by omega⟩;obtain⟨y,e,g,o⟩:=dM (s:=s) (n:=J0 c.2) (k:=1) _k _k oo;rw[show((1:Nat):Int)=1 from rfl]at e g o;have j:cP y c.2=Z (y++c.2):=by unfold cP;rw[if_pos (by unfold J0 at*;omega)]
 exact⟨y++c.2,by rw[if_neg h,e];simp only[JF,j],by rw[if_neg h,g];simp only[JF,j],by have:=js j;omega⟩
theorem JRM{x:aA}(hv:lG x=JJ x)(h1:J0 x.2.2.2.2.2.2.1.2.2.1.2<=1073741824)(h2:J0 x.2.2.2.2.2.2.1.2.2.2.2<=1073741824):oV x=sL x:=by
 unfold oV sL;rw[hv];cases JJ x with
 |none=>rfl
 |some v=>
  simp only[JF];by_cases hb:Jg v=O;rw[if_pos hb,if_pos hb];rw[if_neg hb,if_neg hb];obtain⟨V,w,S,l3⟩:=dM (s:=[]) (n:=x.1) (k:=8) _k _k _k;have l0:J0 ([]:_j)=0:=rfl;obtain⟨y4,A,M,l4⟩:=dM (s:=V) (n:=x.2.1) (k:=1) _k _k oo;obtain⟨K,z,L,l5⟩:=dM (s:=y4) (n:=x.2.2.1) (k:=4) _k _k oo;obtain⟨j,D,G,l6⟩:=dM (s:=K) (n:=x.2.2.2.1) (k:=8) _k _k oo;obtain⟨h,F,C,l7⟩:=dM (s:=j) (n:=x.2.2.2.2.1) (k:=8) _k _k oo;obtain⟨g,_d,Q,l8⟩:=dM (s:=h) (n:=x.2.2.2.2.2.1) (k:=8) _k _k oo;obtain⟨y9,P,B,l9⟩:=dM (s:=g) (n:=x.2.2.2.2.2.2.1.1) (k:=4) _k _k oo;obtain⟨yA,E,_e,lA⟩:=dM (s:=y9) (n:=x.2.2.2.2.2.2.1.2.1) (k:=1) _k _k oo;obtain⟨U,T,qB,lB⟩:=UV (s:=yA) (c:=x.2.2.2.2.2.2.1.2.2.1) oo h1;obtain⟨_a,_b,qC,lC⟩:=UV (s:=U) (c:=x.2.2.2.2.2.2.1.2.2.2) oo h2;obtain⟨H,R,_c,lD⟩:=dM (s:=_a) (n:=J0 x.2.2.2.2.2.2.2) (k:=4) _k _k oo;simp only[show((8:Nat):Int)=8 from rfl,show((4:Nat):Int)=4 from rfl,show((1:Nat):Int)=1 from rfl]at w S A M z L D G F C _d Q P B E _e R _c;simp only[w,S,A,M,z,L,G,C,Q,B,_e,qB,qC,_c,JF];have st: ∀(o q:_j) (i:Nat) (n:Int),i<3->idx [x.2.2.2.1,x.2.2.2.2.1,x.2.2.2.2.2.1] (i:Int)=Z n->fP (o,n,8)=Z q->
    J5 FF (o,[x.2.2.2.1,x.2.2.2.2.1,x.2.2.2.2.2.1],J0 [x.2.2.2.1,x.2.2.2.2.1,x.2.2.2.2.2.1],(i:Int),x)=J5 FF (q,[x.2.2.2.1,x.2.2.2.2.1,x.2.2.2.2.2.1],J0 [x.2.2.2.1,x.2.2.2.2.1,x.2.2.2.2.2.1],((i+1:Nat):Int),x):=by
   intro o q i n hi e hp;refine eX ?_;unfold FF;dsimp only;have hl:J0 [x.2.2.2.1,x.2.2.2.2.1,x.2.2.2.2.2.1]=3:=rfl;have o1:=Jl (i:Int) 1;rw[if_pos (Jp.2 oo),e];simp only[JF];rw[hp];simp only[JF];rw[show J1 I (i:Int) 1=((i+1:Nat):Int) by omega]
  have s0:=st K j 0 _ _k rfl D;have s1:=st j h 1 _ _k rfl F;have W:=st h g 2 _ _k rfl _d;rw[show((0:Nat):Int)=0 from rfl]at s0;rw[s0,s1,W];have fin:FF (g,[x.2.2.2.1,x.2.2.2.2.1,x.2.2.2.2.2.1],J0 [x.2.2.2.1,x.2.2.2.2.1,x.2.2.2.2.2.1],((2+1:Nat):Int),x)=Option.map .inr ((cP H x.2.2.2.2.2.2.2).bind λN=>Z (N,0)):=by unfold FF;dsimp only;have hl:J0 [x.2.2.2.1,x.2.2.2.2.1,x.2.2.2.2.2.1]=3:=rfl;rw[if_neg (λc=>by have:=Jp.1 c;omega)];simp only[P,E,T,_b,R,JF]
  cases hc:cP H x.2.2.2.2.2.2.2 with
  |some y=>rw[hc]at fin;exact dN fin
  |none=>
   rw[hc]at fin;cases hw:J5 FF (g,[x.2.2.2.1,x.2.2.2.2.1,x.2.2.2.2.2.1],J0 [x.2.2.2.1,x.2.2.2.2.1,x.2.2.2.2.2.1],((2+1:Nat):Int),x)with
   |none=>rfl
   |some r=>
    rw[mB]at hw;obtain⟨n,e⟩:=hw;cases n with
    |zero=>cases e
    |succ n=>simp only[dF,fin]at e;cases e
theorem JKA{σ ρ α:Type}{L:σ->Option (σ⊕ρ)}{z:σ}{o:Option α}{k:α->σ}(h:L z=o.bind λy=>Z (.inl (k y))):J5 L z=o.bind λy=>J5 L (k y):=by
 cases o with
 |none=>exact JKa h
 |some y=>exact eX h
theorem JWm(a b:Int):vat (bL (bL (Vector.replicate 2 0) 0 a) 1 b) (_G 0)=Z a:=by simp[vat,bL]
theorem JWg(a b:Int):vat (bL (bL (Vector.replicate 2 0) 0 a) 1 b) (_G 1)=Z b:=by simp[vat,bL]
theorem IH{s:_j}{vs:List (Vector Int 2)}{n i:Int}{r:Jc}{a b:Int}(hi:i<n)(hx:idx vs i=Z (bL (bL (Vector.replicate 2 0) 0 a) 1 b)):
  J5 KK (s,vs,n,i,r)=(fP (s,a,b)).bind λy=>J5 KK (y,vs,n,J1 I i 1,r):=by
 refine JKA ?_;unfold KK;dsimp only;rw[Jp.2 hi,hx];simp only[if_true,JF,JWm,JWg];rfl
theorem JO4(r:Jc):zH r=(fP ([80,77,82,78],r.1,8)).bind λa=>(fP (a,r.2.1,8)).bind λa=>(fP (a,r.2.2.1,4)).bind λa=>(fP (a,r.2.2.2.1,4)).bind λa=>
  (fP (a,r.2.2.2.2.1,1)).bind λa=>fP (a,J0 r.2.2.2.2.2,4):=by
 have e:zH r=J5 KK ([80,77,82,78],[bL (bL (Vector.replicate 2 0) 0 r.1) 1 8,bL (bL (Vector.replicate 2 0) 0 r.2.1) 1 8,bL (bL (Vector.replicate 2 0) 0 r.2.2.1) 1 4,bL (bL (Vector.replicate 2 0) 0 r.2.2.2.1) 1 4,bL (bL (Vector.replicate 2 0) 0 r.2.2.2.2.1) 1 1,bL (bL (Vector.replicate 2 0) 0 (J0 r.2.2.2.2.2)) 1 4],6,0,r):=rfl;rw[e];rw[IH (show(0:Int)<6 by decide) rfl];refine congrArg (Option.bind _) (funext λa=>?_);rw[show J1 I 0 1=1 from rfl,IH (show(1:Int)<6 by decide) rfl];refine congrArg (Option.bind _) (funext λa=>?_);rw[show J1 I 1 1=2 from rfl,IH (show(2:Int)<6 by decide) rfl];refine congrArg (Option.bind _) (funext λa=>?_);rw[show J1 I 2 1=3 from rfl,IH (show(3:Int)<6 by decide) rfl];refine congrArg (Option.bind _) (funext λa=>?_);rw[show J1 I 3 1=4 from rfl,IH (show(4:Int)<6 by decide) rfl];refine congrArg (Option.bind _) (funext λa=>?_);rw[show J1 I 4 1=5 from rfl,IH (show(5:Int)<6 by decide) rfl];cases fP (a,J0 r.2.2.2.2.2,4)with
 |none=>rfl
 |some y=>refine dN ?_;unfold KK;rfl
theorem JRY(r:Jc):zH r=zR r:=by rw[JO4];unfold zR;have N:J0 ([80,77,82,78]:_j)=4:=rfl;obtain⟨B,w,y,K⟩:=dM (s:=[80,77,82,78]) (n:=r.1) (k:=8) _k _k _k;obtain⟨F,j,A,L⟩:=dM (s:=B) (n:=r.2.1) (k:=8) _k _k oo;obtain⟨C,e,z,H⟩:=dM (s:=F) (n:=r.2.2.1) (k:=4) _k _k oo;obtain⟨E,h,x,_e⟩:=dM (s:=C) (n:=r.2.2.2.1) (k:=4) _k _k oo;obtain⟨D,g,v,G⟩:=dM (s:=E) (n:=r.2.2.2.2.1) (k:=1) _k _k oo;obtain⟨_d,o,q,M⟩:=dM (s:=D) (n:=J0 r.2.2.2.2.2) (k:=4) _k _k oo;simp only[show((8:Nat):Int)=8 from rfl,show((4:Nat):Int)=4 from rfl,show((1:Nat):Int)=1 from rfl]at w y j A e z h x g v o q;simp only[w,y,j,A,e,z,h,x,g,v,o,q,JF]
theorem JPk{x:Jc}(hl:J0 (ent x)<=4096)(he: ∀e∈ent x,oV e=sL e)(hv: ∀e∈ent x,∃b,sL e=Z (b,0)/\J0 b<=8392)(hf: ∀(b:_j),J0 b<=8392-> ∃f,qL b=Z f/\J0 f=J0 b+8):
  ∀(l:List aA) (i:Nat) (_s:_j),(ent x).drop i=l->i<=(ent x).length->J0 _s<=8400*(i+1)->
   sU nF oV 40 l _s=J5 FB (_s,(i:Int),x):=by
 intro l
 induction l with
 |nil=>
  intro i _s hd hi v;have hi':i=(ent x).length:=by have:=congrArg _H hd;simp at this;omega
  refine(dN ?_).symm;unfold FB;dsimp only;rw[if_neg (λc=>by have:=Jp.1 c;have:(i:Int)<J0 (ent x):=this;unfold J0 at this;omega)]
 |cons e l ih=>
  intro i _s hd hi v;have n:i<(ent x).length:=(by rcases zQ3 i (ent x).length with h|h;exact h;rw[List.drop_of_length_le h]at hd;cases hd);have o:(ent x)[i]?=Z e:=by have:=congrArg (λl=>l[0]?) hd;simpa using this
  have q:e∈ent x:=zQ5 o;obtain⟨b,hb,r⟩:=hv e q;obtain⟨f,g,z⟩:=hf b r;have y:=Jl (i:Int) 1;have w:J0 (ent x)=((ent x).length:Int):=rfl;have j:cP _s f=Z (_s++f):=by unfold cP;rw[if_pos (by unfold J0 at*;omega)]
  have step:FB (_s,(i:Int),x)=Z (.inl (_s++f,((i+1:Nat):Int),x)):=by
   unfold FB;dsimp only;have k:idx x.2.2.2.2.2 (i:Int)=Z e:=by show idx (ent x) (i:Int)=Z e;unfold idx;rw[if_pos oo,_U];exact o
   rw[if_pos (Jp.2 (by show(i:Int)<J0 (ent x);omega)),k];simp only[JF];rw[hb];simp only[JF];rw[g];simp only[JF];rw[j];simp only[JF];rw[show J1 I (i:Int) 1=((i+1:Nat):Int) by omega]
  rw[eX step];unfold sU;rw[he e q,hb];simp only[JF];rw[if_pos trivial,Sh,g];simp only[JF];rw[if_pos (by unfold J0 at*;omega)];refine ih (i+1) (_s++f) ?_ n (by unfold J0 at*;simp;omega);rw[<-sX,hd];rfl
theorem JLJ{x:aA}(hv:JJ x=Z O)(h1:J0 x.2.2.2.2.2.2.1.2.2.1.2<=12)(h2:J0 x.2.2.2.2.2.2.1.2.2.2.2<=12)(h3:J0 x.2.2.2.2.2.2.2<=8192): ∃b,sL x=Z (b,0)/\J0 b<=8392:=by
 unfold sL;rw[hv];simp only[JF];rw[if_neg (show¬Jg O=O by decide)];obtain⟨D,V,z,_e⟩:=dM (s:=[]) (n:=x.1) (k:=8) _k _k _k;have l0:J0 ([]:_j)=0:=rfl;obtain⟨Q,_b,r,K⟩:=dM (s:=D) (n:=x.2.1) (k:=1) _k _k oo;obtain⟨H,W,q,B⟩:=dM (s:=Q) (n:=x.2.2.1) (k:=4) _k _k oo;obtain⟨L,p6,h,U⟩:=dM (s:=H) (n:=x.2.2.2.1) (k:=8) _k _k oo;obtain⟨A,p7,g,M⟩:=dM (s:=L) (n:=x.2.2.2.2.1) (k:=8) _k _k oo;obtain⟨G,p8,y,E⟩:=dM (s:=A) (n:=x.2.2.2.2.2.1) (k:=8) _k _k oo;obtain⟨N,p9,e,P⟩:=dM (s:=G) (n:=x.2.2.2.2.2.2.1.1) (k:=4) _k _k oo;obtain⟨S,pA,o,_c⟩:=dM (s:=N) (n:=x.2.2.2.2.2.2.1.2.1) (k:=1) _k _k oo;obtain⟨C,pB,T,lB⟩:=UV (s:=S) (c:=x.2.2.2.2.2.2.1.2.2.1) oo oo;obtain⟨F,pC,R,_a⟩:=UV (s:=C) (c:=x.2.2.2.2.2.2.1.2.2.2) oo oo;obtain⟨j,pD,v,_d⟩:=dM (s:=F) (n:=J0 x.2.2.2.2.2.2.2) (k:=4) _k _k oo;simp only[show((8:Nat):Int)=8 from rfl,show((4:Nat):Int)=4 from rfl,show((1:Nat):Int)=1 from rfl]at z r q h g y e o v _e K B U M E P _c _d;simp only[z,r,q,h,g,y,e,o,T,R,v,JF];have w:cP j x.2.2.2.2.2.2.2=Z (j++x.2.2.2.2.2.2.2):=by unfold cP;rw[if_pos (by unfold J0 at*;omega)]
 rw[w];exact⟨_,rfl,by have:=js w;omega⟩
theorem zk{b:_j}(hb:J0 b<=8392): ∃f,qL b=Z f/\J0 f=J0 b+8:=by
 unfold qL;rw[if_neg (λc=>by have:=fO.1 c;omega)];have r:0<=J0 b:=Ja;have v:J0 ([]:_j)=0:=rfl;obtain⟨y,p,q,l⟩:=dM (s:=[]) (n:=J0 b) (k:=4) _k _k _k;simp only[show((4:Nat):Int)=4 from rfl]at q l;rw[q];simp only[JF];have e:cP y b=Z (y++b):=by unfold cP;rw[if_pos (by unfold J0 at*;omega)]
 rw[e];simp only[JF];have j:=js e;rw[j7 _ oo];simp only[JF];obtain⟨z,o,g,h⟩:=dM (s:=y++b) (n:=aT I ((crc (y++b):Nat):Int)) (k:=4) _k _k oo;simp only[show((4:Nat):Int)=4 from rfl]at g h;rw[g];exact⟨z,rfl,by omega⟩
theorem JP0(r:Jc): ∃y,zR r=Z y/\J0 y=33:=by unfold zR;have _c:J0 ([80,77,82,78]:_j)=4:=rfl;obtain⟨v,N,j,E⟩:=dM (s:=[80,77,82,78]) (n:=r.1) (k:=8) _k _k _k;obtain⟨H,L,q,F⟩:=dM (s:=v) (n:=r.2.1) (k:=8) _k _k oo;obtain⟨x,_e,o,A⟩:=dM (s:=H) (n:=r.2.2.1) (k:=4) _k _k oo;obtain⟨D,K,h,B⟩:=dM (s:=x) (n:=r.2.2.2.1) (k:=4) _k _k oo;obtain⟨z,_d,g,w⟩:=dM (s:=D) (n:=r.2.2.2.2.1) (k:=1) _k _k oo;obtain⟨C,M,e,G⟩:=dM (s:=z) (n:=J0 r.2.2.2.2.2) (k:=4) _k _k oo;simp only[show((8:Nat):Int)=8 from rfl,show((4:Nat):Int)=4 from rfl,show((1:Nat):Int)=1 from rfl]at j q o h g e E F A B w G;simp only[j,q,o,h,g,e,JF];exact⟨C,rfl,by omega⟩
theorem JRj{x:Jc}(h:fT x):EQ x=oW x:=by
 obtain⟨v,E,C,hR⟩:=vv h;have e:EQ x=LX jZ zH nF oV (λx=>x.2.2.2.2.2) x:=rfl;rw[e];unfold LX oW;rw[E,C];simp only[JF];cases v with
 |false=>rw[if_neg (show¬J=O by decide),if_pos (show Jg J=O by decide)]
 |true=>
  rw[if_pos rfl,if_neg (show¬Jg O=O by decide),JRY];have R:=hR rfl;obtain⟨y,D,A⟩:=JP0 x;obtain⟨f,hf,z⟩:=zk (b:=y) oo;rw[D];simp only[JF];rw[Sh,hf];simp only[JF];rw[if_pos (by unfold J0 at z A;omega)];have w: ∀e∈ent x,Ty.fit 16384 9223372036854775807 J3 e:=h.2.2.2.2.2.2;have o: ∀e∈ent x,JJ e=Z O/\J0 e.2.2.2.2.2.2.1.2.2.1.2<=12/\J0 e.2.2.2.2.2.2.1.2.2.2.2<=12/\e.2.2.2.2.2.2.2=[]:=λe g=>by obtain⟨j,F⟩:=sT.1 g;obtain⟨k,n,_⟩:=R.2.2.1 j e F;obtain⟨_,_,_,_,_,_,_,_,_,_,b1,b2,_⟩:=EF.of k n;have c:=(XX (B:=16384) (S:=9223372036854775807) (X:=e.2.2.2.2.2.2.1) (w e g).2.2.2.2.2.2.1).get b2;exact⟨k,(c.2 rfl).2.2.2.2.1,(c.2 rfl).2.2.2.2.2,b1⟩
  refine JPk R.2.1 (λe g=>?_) (λe g=>?_) (λb hb=>zk hb) (ent x) 0 f rfl (zQ2 _) oo;obtain⟨k,n,q,r⟩:=o e g;exact JRM (SG e) oo oo;obtain⟨k,n,q,r⟩:=o e g;exact JLJ k n q (by rw[r];decide)
theorem JVs(x:Int×_j×Int):xB x=(JW (x.2.1,x.2.2,x.1)).map λv=>(v,x.2.1,J1 I x.2.2 x.1):=by
 obtain⟨n,s,a⟩:=x;unfold xB JW;dsimp only;rw[SZ];cases JT (s,a,n)with
 |none=>rfl
 |some y=>rfl
theorem JSV{s:_j}(h:J0 s=33):KS s=(aU s Y (Z 4)).bind λk=>if neS k [80,77,82,78]=O then Z (0,0,0,0,0,0,J,[])else
  (JW (s,4,8)).bind λa=>(JW (s,12,8)).bind λb=>(JW (s,20,4)).bind λc=>(JW (s,24,4)).bind λd=>(JW (s,28,1)).bind λe=>(JW (s,29,4)).bind λn=>
   Z (a,b,c,d,e,n,aW n 4096,[]):=by
 unfold KS r7 ye;dsimp only;have j:J0 ([80,77,82,78]:_j)=4:=rfl;rw[h,if_pos (show aN 33 33=J by decide),j,if_pos (show aP 33 4=O by decide)];cases aU s Y (Z 4)with
 |none=>rfl
 |some y=>
  simp only[JF];by_cases g:y=[80,77,82,78];subst g;rw[if_neg (show¬Jg (eqS [80,77,82,78] [80,77,82,78])=O by decide),if_neg (show¬neS [80,77,82,78] [80,77,82,78]=O by decide)];simp only[JVs,show J1 I 4 8=12 by decide,show J1 I 12 8=20 by decide,show J1 I 20 4=24 by decide,show J1 I 24 4=28 by decide,show J1 I 28 1=29 by decide];cases JW (s,4,8)with
  |none=>rfl
  |some a=>
   simp only[cN,JF,show J1 I 4 8=12 by decide];cases JW (s,12,8)with
   |none=>rfl
   |some b=>
    simp only[cN,JF,show J1 I 12 8=20 by decide];cases JW (s,20,4)with
    |none=>rfl
    |some c=>
     simp only[cN,JF,show J1 I 20 4=24 by decide];cases JW (s,24,4)with
     |none=>rfl
     |some d=>
      simp only[cN,JF,show J1 I 24 4=28 by decide];cases JW (s,28,1)with
      |none=>rfl
      |some e=>
       simp only[cN,JF,show J1 I 28 1=29 by decide];cases JW (s,29,4)with
       |none=>rfl
       |some n=>rfl
  have o:neS y [80,77,82,78]=O:=by simp[neS,g]
  have q:Jg (eqS y [80,77,82,78])=O:=by simp[eqS,g,Jg]
  rw[if_pos o,if_pos q]
theorem JQG{s:_j}(h: ¬J0 s=33):KS s=Z (0,0,0,0,0,0,J,[]):=by unfold KS;rw[if_neg (by rw[<-_W,eF];exact λt=>t h)]
theorem JR4{x:_j×Jq}{y:Jq}(h:JT x=Z y): -9223372036854775808<=y.1/\y.1<=9223372036854775807:=by
 have e:_t (JT x) λy=> -9223372036854775808<=y.1/\y.1<=9223372036854775807:=by unfold JT;refine .j (λ_=>.k (λ_=>.l (λ_=>.s _k) λ_=>.k (λ_=>.l (λ_=>.s _k) λ_=>?_) λ_=>.s _k) λ_=>.s _k) λ_=>.s _k;refine .z (λ_=>True) trivial ?_;intro z _;unfold EP;exact .l (λ_=>.b λ_ _=>.b λ_ _=>.s _g) λ_=>.s (tP I _)
 exact e _ h
theorem OJ{x:_j×Jq}{n:Int}(h:JW x=Z n): -9223372036854775808<=n/\n<=9223372036854775807:=by unfold JW at h;obtain⟨y,g,e⟩:=bN.1 h;cases e;exact JR4 g
theorem JQS{x:_j}(hl:J0 x<=1073741824):XT x=zV x:=by
 unfold XT zV;rw[Ay hl];cases hu:sP (x,0)with
 |none=>rfl
 |some g=>
  dsimp only[_Q];by_cases c:aN g.2.2 0=O;rw[if_pos c,if_pos c];rw[if_neg c,if_neg c];have V:g.2.2=0:=Decidable.of_not_not λt=>c (eF.2 t);by_cases h:J0 g.1=33;rw[JSV h,if_pos (by rw[<-_W,eF];exact λt=>t h)];cases aU g.1 Y (Z 4)with
  |none=>rfl
  |some Q=>
   dsimp only[_Q];by_cases D:neS Q [80,77,82,78]=O;rw[if_pos D,if_pos D];rfl;rw[if_neg D,if_neg D];cases ha:JW (g.1,4,8)with
   |none=>rfl
   |some a=>
    cases hb:JW (g.1,12,8)with
    |none=>rfl
    |some b=>
     cases hc:JW (g.1,20,4)with
     |none=>rfl
     |some c=>
      cases hd:JW (g.1,24,4)with
      |none=>rfl
      |some d=>
       cases he:JW (g.1,28,1)with
       |none=>rfl
       |some e=>
        cases hf:JW (g.1,29,4)with
        |none=>rfl
        |some n=>
         dsimp only[_Q];by_cases L:4096<n;rw[if_pos (fO.2 L),if_pos (show Jg (aW n 4096)=O by rw[show aW n 4096=J by rw[<-_W,dK];omega];rfl)];rw[if_neg (λt=>L (fO.1 t)),if_neg (show¬Jg (aW n 4096)=O by rw[dK.2 oo];decide)];have F:=((KT (B:=0) (S:=1073741824) (X:=(x,0)) ⟨hl,kP I 0⟩).get hu).2 V;refine IV (λz w=>z=w/\z.1=x/\(0<=z.2.1/\z.2.1<=J0 x)/\z.2.2.1=n/\0<=z.2.2.2.1/\z.2.2.2.2.2.2.2.2.2.2.2=([],a,b,c,d,e)/\J0 z.2.2.2.2.2.2.2.2.2.2.1<=z.2.2.2.1/\(z.2.2.2.1<=n\/z.2.2.2.1<=0)/\ ∀q∈z.2.2.2.2.2.2.2.2.2.2.1,Ty.fit 16384 9223372036854775807 J3 q) ?_ ⟨rfl,rfl,⟨F.1,F.2.1⟩,rfl,bA _,rfl,bA _,.inr (bA _),nofun⟩;rintro⟨s,p,m,i,w1,w2,w3,w4,w5,w6,l,w7⟩ w ⟨rfl,M,_b,N,T,_e,P,_c,H⟩;dsimp only at M _b N T _e P _c H;subst M N _e;unfold Gs rf;dsimp only;by_cases j:aK i m=O;rw[if_pos j,if_pos j,Ay hl];have j:=Jp.1 j;cases hU:sP (s,p)with
         |none=>exact .inl ⟨rfl,rfl⟩
         |some u=>
          dsimp only[_Q];by_cases y:aN u.2.2 0=O;rw[if_pos y,if_pos y];exact .inr (.inl ⟨_,rfl,rfl⟩);rw[if_neg y,if_neg y,JRg SG];have E:u.2.2=0:=Decidable.of_not_not λt=>y (eF.2 t);cases hD:zY u.1 with
          |none=>exact .inl ⟨rfl,rfl⟩
          |some v=>
           dsimp only[_Q];by_cases k:aN v.2 0=O;rw[if_pos k];exact .inr (.inl ⟨_,rfl,rfl⟩);rw[if_neg k];cases hA:Jr 128 l [v.1]with
           |none=>exact .inl ⟨rfl,rfl⟩
           |some R=>
            have K:R=l++[v.1]:=(by unfold Jr at hA;split at hA;injection hA with hA;exact hA.symm;cases hA);have G:=(KT (B:=0) (S:=1073741824) (X:=(s,p)) ⟨hl,J2.2 (show -9223372036854775808<=p/\p<=9223372036854775807 by omega)⟩).get hU;have U:=(qk (B:=0) (S:=1073741824) (X:=u.1) G.1.1).get hD;have o:=Jl i 1;refine .inr (.inr ⟨_,_,rfl,rfl,rfl,rfl,⟨(G.2 E).1,(G.2 E).2.1⟩,rfl,?_,rfl,?_,?_,?_⟩);dsimp only;omega;subst K;dsimp only;rw[cQ,cA];omega;dsimp only;omega;subst K;intro q A;rcases zQ9.1 A with A|A;exact H q A;rw[fR.1 A];exact Ty.fit.up _k _k U.1
         rw[if_neg j,if_neg j];by_cases C:aK p (J0 s)=O;have _d:=Jp.1 C;rw[if_pos C,if_pos (eF.2 oo)];exact .inr (.inl ⟨_,rfl,rfl⟩);have _d: ¬p<J0 s:=λt=>C (Jp.2 t);rw[if_neg C,if_neg (λt=>eF.1 t oo)];obtain⟨v,W,_a,_⟩:=vv (r:=(a,b,c,d,e,l)) ⟨J2.2 (OJ ha),J2.2 (OJ hb),J2.2 (OJ hc),J2.2 (OJ hd),J2.2 (OJ he),by show J0 l<=16384;omega,H⟩;rw[W,_a];dsimp only[_Q];by_cases k:Jg v=O;rw[if_pos k];exact .inr (.inl ⟨_,rfl,rfl⟩);rw[if_neg k];exact .inr (.inl ⟨_,rfl,rfl⟩)
  rw[JQG h,if_neg (by rw[<-_W,eF];exact λt=>t h)];rfl
theorem JRo(l:Jy):ZX l=eQ l:=by
 have h:J5 rq (l.2.1,J0 l.2.1,0,l)=J5 RH (0,l):=by
  refine IV (λs t=>s=(l.2.1,J0 l.2.1,t.1,l)/\t.2=l) ?_ ⟨rfl,rfl⟩;rintro s ⟨i,g⟩ ⟨rfl,rfl⟩;unfold rq RH;dsimp only;by_cases h1:aK i (J0 g.2.1)=O;rw[if_pos h1,if_pos h1];cases h2:idx g.2.1 i with
  |none=>exact .inl ⟨rfl,rfl⟩
  |some y=>
   simp only[JF,SG];by_cases e:aN y.1 (J1 I g.1 i)=J;rw[if_pos e,if_pos e];cases h4:JJ y with
   |none=>exact .inl ⟨rfl,rfl⟩
   |some b=>
    cases b with
    |false=>exact .inr (.inl ⟨_,rfl,rfl⟩)
    |true=>exact .inr (.inr ⟨_,_,rfl,rfl,rfl,rfl⟩)
   rw[if_neg e,if_neg e];exact .inr (.inl ⟨_,rfl,rfl⟩)
  rw[if_neg h1,if_neg h1];exact .inr (.inl ⟨_,rfl,rfl⟩)
 unfold ZX eQ;rw[show lE l=lE l from rfl,h]
section
theorem yL:J0 (ent ((0,0,0,0,0,[]):Jc))<=4096:=by decide
theorem k9{x:_j}(hl:J0 x<=1073741824):_n (zV x) λy=>J0 (ent y.1)<=4096/\(y.2=0->eE y.1/\fT y.1):=by
 unfold zV;refine .b ((KT (B:=0) (S:=1073741824) (X:=(x,0)) ⟨hl,kP I 0⟩)) λj h2=>.d (λc=>.s ⟨yL,λk=>absurd k c⟩) λ_e=>.q (λT=>?_) λ_=>.s ⟨yL,λk=>absurd k _k⟩;obtain⟨U,N,_⟩:=uV (l:=j.1) (k:=4) _k oo;have num: ∀a k:Int, -9223372036854775808<=a/\a<=9223372036854775807-> -9223372036854775808<=k/\k<=9223372036854775807->_n (JW (j.1,a,k)) λn=> -9223372036854775808<=n/\n<=9223372036854775807:=λa k C hk=>
  (Xu (B:=0) (S:=1073741824) (X:=(j.1,a,k)) ⟨h2.1.1,J2.2 C,J2.2 hk⟩).mono λn h=>J2.1 h
 refine .w N (.i (λ_=>.s ⟨yL,λk=>absurd k _k⟩) λ_=>.b (num 4 8 _k _k) λa C=>.b (num 12 8 _k _k) λb hb=>.b (num 20 4 _k _k) λc hc=>.b (num 24 4 _k _k) λd hd=>.b (num 28 1 _k _k) λe _c=>.b (num 29 4 _k _k) λn _a=>.g (λ_=>.s ⟨yL,λk=>absurd k _k⟩) λW=>?_);have w:=h2.2 _e;refine Jn (τ:=Int×Int×List aA) (λq=>(x,q.1,n,q.2.1,[],0,0,0,0,0,q.2.2,[],a,b,c,d,e)) (λq=>(0<=q.1/\q.1<=J0 x)/\0<=q.2.1/\(q.2.1<=n\/q.2.1<=0)/\J0 q.2.2<=q.2.1/\ ∀z∈q.2.2,Ty.fit 16384 9223372036854775807 J3 z) (λq=>n-q.2.1) ?_ (j.2.1,0,[]) rfl ⟨⟨w.1,w.2.1⟩,bA _,.inr (bA _),bA _,nofun⟩;rintro⟨p,i,l⟩ ⟨K,R,L,H,A⟩;dsimp only at K R L H A;unfold rf;dsimp only;have o:=Jl i 1;refine .l (λV=>?_) λ_=>.map (P:=λy=>J0 (ent y.1)<=4096/\(y.2=0->eE y.1/\fT y.1)) ?_ λ_ h=>h;refine .b ((KT (B:=0) (S:=1073741824) (X:=(x,p)) ⟨hl,J2.2 (show -9223372036854775808<=p/\p<=9223372036854775807 by omega)⟩)) λu F=>.d (λc=>.s ⟨yL,λk=>absurd k c⟩) λG=>.b (qk (B:=0) (S:=1073741824) (X:=u.1) F.1.1) λv Q=>.d (λc=>.s ⟨yL,λk=>absurd k c⟩) λD=>.w (eT (bytes:=128) (l:=l) (m:=[v.1]) (by rw[cA];omega) _k) (.s ?_);have r:=F.2 G;refine⟨(u.2.1,J1 I i 1,l++[v.1]),rfl,⟨⟨r.1,r.2.1⟩,?_,?_,?_,λz g=>?_⟩,?_,?_⟩;dsimp only;omega;dsimp only;omega;dsimp only;rw[cQ,cA];omega;rcases zQ9.1 g with g|g;exact A z g;rw[fR.1 g];exact Ty.fit.up _k _k Q.1;dsimp only;omega;omega;refine .d (λ_=>.s ⟨yL,λk=>absurd k _k⟩) λ_=>?_;have E:fT (a,b,c,d,e,l):=⟨J2.2 C,J2.2 hb,J2.2 hc,J2.2 hd,J2.2 _c,by show J0 l<=16384;omega,A⟩;obtain⟨v,_b,M,_d⟩:=vv E;refine .w M (.n (λ_=>.s ⟨yL,λk=>absurd k _k⟩) λD=>.s ⟨?_,λ_=>⟨_d D,E⟩⟩);show J0 l<=4096;omega
end
section
theorem TN(x:eS):FA x=iW x:=by
 unfold FA iW;split;cases idx x.1.1 x.2<;>cases idx x.1.1 (J1 I x.2 1)<;>rfl
 rfl
theorem Pf(x:vh):RQ x=sS x:=by
 unfold RQ sS;refine IV (λs t=>s=(J0 x.1.1,t.1,x.1,x.2)/\t.2=(x.1,x.2)) ?_ ⟨rfl,rfl⟩;rintro s ⟨i,a,r⟩ ⟨rfl,h⟩;injection h with h1 h2;subst h1 h2;unfold H8 ik;dsimp only;by_cases c:aK i (J0 x.1.1)=O;rw[if_pos c,if_pos c,TN];cases iW (x.1,i)with
 |none=>exact .inl ⟨rfl,rfl⟩
 |some y=>
  dsimp only[_Q];by_cases d:aL y.1 x.2.2.2.1=O;rw[if_pos d,if_pos d];by_cases e:aL y.2 x.2.2.2.2.1=O;rw[if_pos e,if_pos e];exact .inr (.inl ⟨_,rfl,rfl⟩);rw[if_neg e,if_neg e];exact .inr (.inr ⟨_,_,rfl,rfl,rfl,rfl⟩);rw[if_neg d,if_neg d];exact .inr (.inr ⟨_,_,rfl,rfl,rfl,rfl⟩)
 rw[if_neg c,if_neg c];exact .inr (.inl ⟨_,rfl,rfl⟩)
theorem fa{a:J4}(h:J0 a.1<=16)(r:Jc):_n (sS (a,r)) λy=>(y= -1\/(0<=y/\y<J0 a.1))/\(0<=y->idx a.1 y=Z r.2.2.1):=by
 unfold sS;refine dZ (l:=a.1) (λi (_:Unit)=>(i,a,r)) (λ_ _=>True) (λpre x t _ g _=>?_) (λ_ _=>?_) a.1 [] () _ rfl rfl trivial;unfold ik;dsimp only;have lt:=cL g;have nn:=Ja (l:=pre);have o:=dB g (n:=16) h;rw[if_pos (Jp.2 lt)];have j:_n (iW (a,J0 pre)) λy=>y.1=x:=by unfold iW;dsimp only;have q:=Jl (J0 pre) 1;refine .l (λc=>?_) λc=>.w (cW g) (.s rfl);obtain⟨w,e,_⟩:=eA (l:=a.1) (i:=J1 I (J0 pre) 1) oo c;exact .w e (.w (cW g) (.s rfl))
 refine .b j λy k=>.e (λc=>.e (λ_=>.s ⟨.inr ⟨nn,lt⟩,λ_=>?_⟩) λ_=>.s ⟨(),by rw[o],_g⟩) λ_=>.s ⟨(),by rw[o],_g⟩;rw[cW g,<-k,c];unfold ik;dsimp only;rw[if_neg (by rw[Jp];omega)];exact .s ⟨.inl rfl,λh=>absurd h _k⟩
def Itc(a:J4)(f:aB)(r:Jc)(p:Int):Prop:=f.1=1/\zV f.2.2=Z (r,0)/\sS (a,r)=Z p/\0<=p
theorem Itc.uniq{a:J4}{f:aB}{r r':Jc}{p j:Int}(h:Itc a f r p)(g:Itc a f r' j):r=r'/\p=j:=by have e:=h.2.1.symm.trans g.2.1;injection e with e;injection e with e _;subst e;have k:=h.2.2.1.symm.trans g.2.2.1;injection k with k;exact⟨rfl,k⟩
variable {a:J4} (hb:J0 a.1<=16) {f:aB} (hs:J0 f.2.2<=1073741824)
include hb hs
theorem I6:_n (RF (a,f)) λy=>(y.2<J0 a.1/\Itc a f y.1 y.2)\/(y.2= -1/\ ∀r p,¬Itc a f r p):=by
 unfold RF;dsimp only;refine .d (λc=>.s (.inr ⟨rfl,λr p h=>c h.1⟩)) λc=>.b (k9 hs)._C λy h=>.d (λd=>.s (.inr ⟨rfl,λr p k=>d (by have:=h.2.symm.trans k.2.1;injection this with this;rw[this])⟩)) λd=>.b (fa hb y.1)._C λq j=>.s ?_;obtain⟨r,z⟩:=y;dsimp only at d;subst d;dsimp only at j⊢;rcases j.1.1 with k|k;subst k;exact .inr ⟨rfl,λr' n k=>by have e:=h.2.symm.trans k.2.1;injection e with e;injection e with e _;subst e;have g:=j.2.symm.trans k.2.2.1;injection g with g;have:=k.2.2.2;omega⟩;exact .inl ⟨k.2,c,h.2,j.2,k.1⟩
theorem tl:_n (KX (a,f)) λy=>(y.2=O/\ ∃p,p<J0 a.1/\Itc a f y.1 p)\/(y.2=J/\ ∀r p,¬Itc a f r p):=by
 unfold KX;dsimp only;refine .d (λc=>.s (.inr ⟨rfl,λr p h=>c h.1⟩)) λc=>?_;rw[JQS hs];refine .b (k9 hs)._C λy h=>.e (λd=>?_) λd=>.s (.inr ⟨rfl,λr p k=>d (by have:=h.2.symm.trans k.2.1;injection this with this;rw[this])⟩);rw[Pf];refine .b (fa hb y.1)._C λq j=>.s ?_;obtain⟨r,z⟩:=y;dsimp only at d;subst d;dsimp only at j⊢;rcases j.1.1 with k|k;subst k;exact .inr ⟨rfl,λr' n k=>by have e:=h.2.symm.trans k.2.1;injection e with e;injection e with e _;subst e;have g:=j.2.symm.trans k.2.2.1;injection g with g;have:=k.2.2.2;omega⟩;exact .inl ⟨jF.2 k.1,q,k.2,c,h.2,j.2,k.1⟩
omit hb hs
noncomputable def its(a:J4)(f:aB):Option aD:= @dite _ (∃r p,Itc a f r p) (Classical.propDecidable _) (λh=>Z (h.choose,f.2.1)) λ_=>Y
theorem mi{r:Jc}{p:Int}(h:Itc a f r p):its a f=Z (r,f.2.1):=by have k: ∃r p,Itc a f r p:=⟨r,p,h⟩;unfold its;rw[dif_pos k];obtain⟨q,e⟩:=k.choose_spec;rw[(e.uniq h).1]
theorem Rx(h: ∀r p,¬Itc a f r p):its a f=Y:=by unfold its;rw[dif_neg];exact fun⟨r,p,k⟩=>h r p k
theorem SJ{x:aD}(h:its a f=Z x):x.2=f.2.1/\ ∃p,Itc a f x.1 p:=by
 unfold its at h;split at h;rename_i k;cases h;exact⟨rfl,k.choose_spec⟩;cases h
noncomputable def hZ(a:J4):List aD:=a.2.2.1.filterMap (its a)
theorem Itc.ok{r:Jc}{p:Int}(h:Itc a f r p)(hs:J0 f.2.2<=1073741824):eE r/\fT r:=by exact((k9 hs).get h.2.1).2 rfl
end
section
def tg{α:Type}(p:α->Bool)(l:List α)(i:Int):Prop:=(i= -1/\ ∀x∈l,p x=J)\/ ∃pre x t,l=pre++x::t/\i=J0 pre/\p x=O/\ ∀y∈pre,p y=J
theorem P7{σ ρ α:Type}{L:σ->Option (σ⊕ρ)}(p:α->Bool){l:List α}(e:Int->σ)(r:Int->ρ)
  (hs: ∀pre x t,l=pre++x::t->L (e (J0 pre))=if p x=O then Z (.inr (r (J0 pre)))else Z (.inl (e (J0 (pre++[x])))))
  (he:L (e (J0 l))=Z (.inr (r (-1)))):_n (J5 L (e 0)) λy=> ∃i,y=r i/\tg p l i:=by
 refine dZ (l:=l) (λi (_:Unit)=>e i) (λpre _=> ∀y∈pre,p y=J) (λpre x t _ j g=>?_) (λ_ g=>?_) l [] () _ rfl rfl nofun;rw[hs pre x t j];by_cases c:p x=O;rw[if_pos c];exact .s ⟨_,rfl,.inr ⟨pre,x,t,j,rfl,c,g⟩⟩;rw[if_neg c];refine .s ⟨(),rfl,λy k=>?_⟩;rcases zQ9.1 k with h|h;exact g y h;rw[fR.1 h];simpa using c;rw[he];exact .s ⟨_,rfl,.inl ⟨rfl,g⟩⟩
theorem xg{σ ρ α:Type}{L:σ->Option (σ⊕ρ)}{Q:ρ->Prop}(p:α->Bool){l:List α}(e:Nat->Nat->List α->σ)
  (hk: ∀i j k x,i<k.length->k[j]?=Z x->k.length=l.length->p x=J->L (e i j k)=Z (.inl (e (i+1) (j+1) (k.set i x))))
  (hd: ∀i j k x,k[j]?=Z x->k.length=l.length->p x=O->L (e i j k)=Z (.inl (e i (j+1) k)))
  (he: ∀i k,k.length=l.length->i<k.length->k.take i=l.filter (λx=> !p x)->_n (L (e i l.length k)) (xF Q)):
  ∀(t:List α) (i j:Nat) (k:List α),j+t.length=l.length->l.drop j=t->k.drop j=t->k.length=l.length->i<j->k.take i=(l.take j).filter (λx=> !p x)->_n (J5 L (e i j k)) Q
 |[],i,j,k,h1,h2,v,n,B,o=>by
  have A:j=l.length:=by simpa using h1
  subst A;rw[List.take_length]at o;refine .step ((he i k n oo o).mono λr h=>?_);cases r with
  |inl z=>exact h.elim
  |inr y=>exact h
 |x::t,i,j,k,h1,h2,v,n,B,o=>by
  have g: ∀{m:List α},m.drop j=x::t->m[j]?=Z x/\m.drop (j+1)=t:=fun{m} h=>by refine⟨by rw[<-List.head?_drop,h];rfl,?_⟩;rw[<-sX,h];rfl
  obtain⟨C,w⟩:=g h2;obtain⟨b1,b2⟩:=g v;rw[rC]at h1;have q:(l.take (j+1)).filter (λx=> !p x)=(l.take j).filter (λx=> !p x)++[x].filter (λx=> !p x):=by rw[_Y,C,_M];rfl
  by_cases c:p x=O;refine .step ?_;rw[hd i j k x b1 n c];refine .s (xg p e hk hd he t i (j+1) k oo w b2 n oo ?_);rw[q,o,List.filter_cons_of_neg (by simp[c])];simp;have c:p x=J:=by simpa using c
  refine .step ?_;rw[hk i j k x oo b1 n c];refine .s (xg p e hk hd he t (i+1) (j+1) (k.set i x) oo w ?_ (by rw[List.length_set];exact n) oo ?_);rw[List.drop_set_of_lt oo];exact b2;rw[q,<-o,List.filter_cons_of_pos (by simp[c])];rw[_Y,List.take_set_of_le (zQ0 i),sW oo];rfl
theorem Pq{n len:Nat}(h:n<len):xL (n:Int) len=Z n:=by unfold xL;rw[if_pos oo];simp
theorem JR7{n len:Nat}(h:n<=len):AQ (n:Int) len=Z n:=by unfold AQ;rw[if_pos oo];simp
theorem vJ{n i:Nat}(h:i<n):aR n (i:Int)=Z ():=by grind [aR]
theorem xV{n:Nat}(h:n<4611686018427387904):J1 I (n:Int) 1=((n+1:Nat):Int):=by grind [Jl]
theorem Pb{β:Type}{t:Ty}{e:List t.D}{i:Nat}{Q:β->Prop}{k:List t.D->Nat->Option β}(h:i<e.length)(hk: ∀m,m.take i=e.take i->_n (k m i) Q):
  _n ((xL (i:Int) (_H e)).bind λn=>(GP t n e).bind λg=>(AQ (i:Int) (_H g)).bind λj=>k g j) Q:=by
 refine .w (Pq h) ?_;unfold GP;rw[if_pos (Nat.le_of_lt h)];refine .w rfl ?_;have o:i<=(e.take i++_J (e.length-i) t.zero).length:=by simp;omega
 refine .w (JR7 o) (hk _ ?_);rw[List.take_append_of_le_length (by simp;omega),List.take_take,Nat.min_self]
theorem Na{l:List aA}{j:Nat}{x:aA}(h:l[j]?=Z x):j<l.length:=(cY.1 h).1
theorem JPn{r:Jc}{to:Int}(hl:J0 (ent r)<=4096)(h0:0<=to)(h1:to<=1099511627776):FE (r,to)=Z (abv r to):=by
 have z:_n (FE (r,to)) λy=>y=abv r to:=by
  unfold FE abv;dsimp only;refine .g (λc=>.s (by rw[if_pos c])) λc=>?_;rw[if_neg c];refine .w (JT8 (l:=ent r) oo) ?_;have B:_n (jj (ent r,to)) λy=>y.2.2=(ent r).filter λe=>decide (to<e.1):=by
   have A: ∀l:List aA,l.filter (λx=> !aW x.1 to)=l.filter λe=>decide (to<e.1):=λl=>by
    congr 1;funext x;unfold aW;rw[<-decide_not];congr 1;simp
   unfold jj;dsimp only;have D:_n (yj (ent r,to)) λy=> ∃i,y=(i,ent r,to)/\tg (λe:aA=>aW e.1 to) (ent r) i:=(by refine P7 (λe:aA=>aW e.1 to) (l:=ent r) (λi=>(J0 (ent r),i,ent r,to)) (λi=>(i,ent r,to)) (λpre x t h=>?_) ?_;unfold yl;dsimp only;rw[if_pos (Jp.2 (cL h)),TD h,TJ h,dB h (n:=4096) hl];rfl;unfold yl;dsimp only;rw[if_neg (by rw[Jp];omega)]);refine .b D λy h=>?_;obtain⟨i,rfl,hi⟩:=h;dsimp only;rw[if_pos (by simp[iO])];rcases hi with⟨rfl,hi⟩|⟨pre,x,t,g,rfl,H,F⟩;rw[if_pos _k];refine .s ?_;rw[<-A,List.filter_eq_self.2];intro a v;simp[hi a v];have nn:=Ja (l:=pre);rw[if_neg (by rw[eM];omega)];have hlen:(ent r).length=pre.length+1+t.length:=by rw[g];simp;omega
   have _d:(ent r).length<=4096:=by unfold J0 at hl;omega
   have st:=xg (Q:=λy:List aA×Int×List aA=>y.2.2=(ent r).filter λe=>decide (to<e.1)) (λe:aA=>aW e.1 to) (l:=ent r) (L:=SF) (λi j k=>((i:Int),(j:Int),k,to)) (λi j k x h1 h2 C q=>?_) (λi j k x h2 C q=>?_) (λi k C q E=>?_) t pre.length (pre.length+1) (ent r) oo (by rw[g];simp) (by rw[g];simp) rfl oo (by
    rw[g,List.take_append_of_le_length (zQ0 _),List.take_length,_Y];have:(pre++x::t)[pre.length]?=Z x:=by simp
    rw[this,List.take_append_of_le_length (zQ0 _),List.take_length,_M,List.filter_eq_self.2 (λa v=>by simp[F a v])];simp[H])
   rw[show J1 I (J0 pre) 1=((pre.length+1:Nat):Int)from xV oo];exact st;have w:=Na h2;unfold SF;dsimp only;rw[if_pos (Jp.2 (by unfold J0;omega)),vJ w];simp only[JF,aV,_U,h2,RW,q];rw[if_pos (show Jg J=O from rfl),vJ h1,aZ h1,xV (show i<4611686018427387904 by omega),xV (show j<4611686018427387904 by omega)];rfl;have w:=Na h2;unfold SF;dsimp only;rw[if_pos (Jp.2 (by unfold J0;omega)),vJ w];simp only[JF,aV,_U,h2,RW,q];rw[if_neg _k,xV (show j<4611686018427387904 by omega)];unfold SF;dsimp only;rw[if_neg (by rw[Jp];unfold J0;omega)];refine .endq (Pb (t:=J3) q λm _e=>.s (show List.take i m=_ from(_e.trans E).trans (A _)))
  have o:=Jl to 1;refine .b B λy G=>.s ?_;rw[G,show J1 I to 1=to+1 by omega]
 obtain⟨y,e,d⟩:=z;rw[e,d]
end
section
noncomputable def leN(x y:aD):Bool:= @decide (¬ltN y x) (Classical.propDecidable _)
theorem JTU(p q r:Int):tZ [p,q,r]=Z (if p=0 then(if q=0 then r else q)else p):=by
 unfold tZ;have o:AB (0,[p,q,r],J0 [p,q,r],0)=if aN p 0=O then Z (.inr p)else Z (.inl (0,[p,q,r],J0 [p,q,r],1)):=rfl
 have j:AB (0,[p,q,r],J0 [p,q,r],1)=if aN q 0=O then Z (.inr q)else Z (.inl (0,[p,q,r],J0 [p,q,r],2)):=rfl
 have n:AB (0,[p,q,r],J0 [p,q,r],2)=if aN r 0=O then Z (.inr r)else Z (.inl (0,[p,q,r],J0 [p,q,r],3)):=rfl
 have v:AB (0,[p,q,r],J0 [p,q,r],3)=Z (.inr 0):=rfl;by_cases e:p=0;rw[if_pos e,eX (o.trans (if_neg (by rw[eF];exact λk=>k e)))];by_cases g:q=0;rw[if_pos g,eX (j.trans (if_neg (by rw[eF];exact λk=>k g)))];by_cases h:r=0;rw[eX (n.trans (if_neg (by rw[eF];exact λk=>k h))),dN v,h];exact dN (n.trans (if_pos (eF.2 h)));rw[if_neg g];exact dN (j.trans (if_pos (eF.2 g)));rw[if_neg e];exact dN (o.trans (if_pos (eF.2 e)))
theorem Aj{x y:Int}:gJ x y=0↔x=y:=by
 unfold gJ;repeat' split
 all_goals first|omega|(constructor<;>intro h<;>omega)
theorem VA{x y:Int}:gJ x y<0↔x<y:=by
 unfold gJ;repeat' split
 all_goals first|omega|(constructor<;>intro h<;>omega)
theorem JW3:CF FK leN:=by
 intro x y;refine⟨if gJ x.1.2.2.1 y.1.2.2.1=0 then(if gJ x.1.1 y.1.1=0 then gJ x.2 y.2 else gJ x.1.1 y.1.1)else gJ x.1.2.2.1 y.1.2.2.1,?_,?_⟩;unfold FK;dsimp only;rw[HL,HL,HL];simp only[JF];rw[JTU];rfl;have e:(!leN y x)= @decide (ltN x y) (Classical.propDecidable _):=(by unfold leN;by_cases c:ltN x y<;>simp[c]);rw[e,Bool.eq_iff_iff,Jp];simp only[decide_eq_true_eq];unfold ltN;have h:=Aj (x:=x.1.2.2.1) (y:=y.1.2.2.1);have j:=VA (x:=x.1.2.2.1) (y:=y.1.2.2.1);have b1:=Aj (x:=x.1.1) (y:=y.1.1);have b2:=VA (x:=x.1.1) (y:=y.1.1);have g:=VA (x:=x.2) (y:=y.2);by_cases h1:gJ x.1.2.2.1 y.1.2.2.1=0;rw[if_pos h1];by_cases h2:gJ x.1.1 y.1.1=0;rw[if_pos h2];omega;rw[if_neg h2];omega;rw[if_neg h1];omega
theorem CV{x y:aD}:leN x y=O↔ ¬ltN y x:=by unfold leN;simp
noncomputable def CR(a:J4):List aD:=ST leN (hZ a)
noncomputable def WR(a:J4):List TX:=clp (-1) 0 (CR a)
def DF(a:J4):Prop:= ∀f∈a.2.2.1,J0 f.2.2<=1073741824
variable {a:J4} (h:hC a) (hf:DF a)
include h hf
theorem II{x:aD}(hx:x∈hZ a): ∃f∈a.2.2.1,x.2=f.2.1/\(∃p,p<J0 a.1/\Itc a f x.1 p/\idx a.1 p=Z x.1.2.2.1)/\eE x.1/\fT x.1:=by
 obtain⟨f,h1,h2⟩:=List.mem_filterMap.1 hx;obtain⟨e,p,g⟩:=SJ h2;have k:=(fa h.len.2 x.1).get g.2.2.1;rcases k.1 with q|q;have:=g.2.2.2;omega;exact⟨f,h1,e,⟨p,q.2,g,k.2 g.2.2.2⟩,g.ok (hf f h1)⟩
theorem JRO:(hZ a).Pairwise λx y=>x.2<y.2:=by unfold hZ;rw[List.pairwise_filterMap];refine h._p.imp fun{f g} k x j y e=>?_;rw[(SJ j).1,(SJ e).1];exact k
theorem jm:(hZ a).length<=256:=by have:=h.few;unfold J0 at this;have:=List.length_filterMap_le (its a) a.2.2.1;unfold hZ;omega
theorem SH{x:aD}:x∈CR a↔x∈hZ a:=(NW (le:=leN) (hZ a)).mem_iff
theorem JVO:(CR a).Pairwise ltN:=by
 have s:=xS (le:=leN) (λx y z h1 h2=>by rw[CV]at*;unfold ltN at*;omega) (λx y=>by rw[CV,CV];unfold ltN;omega) (hZ a);have n:(CR a).Pairwise λx y=>x.2≠y.2:=by refine((NW (le:=leN) (hZ a)).pairwise_iff fun{x y} k e=>k e.symm).2 ?_;exact(JRO h hf).imp λk e=>by omega
 refine(List.pairwise_and_iff.2 ⟨s,n⟩).imp fun{x y} k=>?_;rcases ltN.tri x y with q|q|q;exact q;exact absurd q (CV.1 k.1);exact absurd q k.2
theorem Mm{x:aD}(hx:x∈CR a):eE x.1/\fT x.1:=by obtain⟨f,_,_,_,k⟩:=II h hf ((SH h hf).1 hx);exact k
theorem N3:(CR a).length<=256:=by unfold CR;rw[hI];exact jm h hf
theorem JVI:qO a=Z ((WR a).map (·.1),(WR a).map (·.2.1)):=by
 have F:_n (qO a) λy=>y=((WR a).map (·.1),(WR a).map (·.2.1)):=by
  unfold qO;refine .b (e8 a) λy N=>.n (λc=>by rw[N.2 h]at c;cases c) λ_=>dZ (l:=a.2.2.1) (λi (b:List aD)=>(a.2.2.1,J0 a.2.2.1,i,a,[],[],b)) (λpre b=>b=pre.filterMap (its a)) (λpre f t b o r=>?_) (λb r=>?_) a.2.2.1 [] [] _ rfl rfl rfl;have D:f∈a.2.2.1:=by rw[o];simp
  unfold ri;dsimp only;rw[if_pos (Jp.2 (cL o))];refine .w (cW o) (.b (tl h.len.2 (hf f D)) λL g=>?_);rw[dB o (n:=256) h.few];rcases g with⟨C,p,_,B⟩|⟨C,B⟩;rw[C];refine .w (eT (l:=b) (m:=[(L.1,f.2.1)]) (by have:=List.length_filterMap_le (its a) pre;have e:=h.few;have e2:=cL o;rw[r,cA];unfold J0 at*;omega) _k) (.s ⟨_,rfl,?_⟩);rw[r,a!,c!,mi B];rfl;rw[C];refine .s ⟨b,rfl,?_⟩;rw[r,a!,c!,Rx B];simp;subst r;unfold ri;dsimp only;rw[if_neg (by rw[Jp];omega)];refine .endq ?_;have _b:=jm h hf;refine .w (show yo (hZ a)=Z (CR a)from xm (le:=leN) (λx y z h1 h2=>by rw[CV]at*;unfold ltN at*;omega) (λx y=>by rw[CV,CV];unfold ltN;omega) JW3 oo) ?_;rw[if_pos (show iO (_H (CR a)) (_H (List.filterMap (its a) a.2.2.1))=O by show iO (_H (CR a)) (_H (hZ a))=O;unfold CR;rw[hI];simp[iO])];have _a:=N3 h hf;refine dZ (l:=CR a) (λi (b:Int×Int×List TX)=>(b.1,b.2.1,J0 (CR a),i,a,b.2.2.map (·.1),b.2.2.map (·.2.1),CR a)) (λpre b=>(0<=b.2.1/\b.2.1<=1099511627776)/\b.2.2.length<=pre.length/\ ∀t,clp (-1) 0 (pre++t)=b.2.2++clp b.1 b.2.1 t) (λpre x t b o r=>?_) (λb r=>?_) (CR a) [] (-1,0,[]) _ rfl rfl ⟨⟨by decide,by decide⟩,zQ0 _,λt=>rfl⟩;obtain⟨lo,to,A⟩:=b;obtain⟨v,E,w⟩:=r;dsimp only at v E w⊢;have G:x∈CR a:=by rw[o];simp
  obtain⟨H,W⟩:=Mm h hf G;obtain⟨_c,V,S,T,Q,R,U,P⟩:=H.1;have lp:pre.length<256:=by
   have:(CR a).length=pre.length+(t.length+1):=by rw[o];simp
   omega
  unfold rm;dsimp only;rw[if_pos (Jp.2 (cL o)),TD o,TJ o,dB o (n:=256) (by unfold J0;omega)];simp only[JF];have step: ∀j:Int,(if x.1.2.2.1=lo then to else 0)=j->0<=j->j<=1099511627776->_n ((if aW x.1.2.1 j=O then Z (.inl (x.1.2.2.1,j,J0 (CR a),J0 (pre++[x]),a,A.map (·.1),A.map (·.2.1),CR a))else(FE (x.1,j)).bind λy=>(Jr 64 (A.map (·.1)) [y]).bind λM=>(Jr 8 (A.map (·.2.1)) [x.2]).bind λK=>Z (.inl (x.1.2.2.1,x.1.2.1,J0 (CR a),J0 (pre++[x]),a,M,K,CR a))):Option ((Int×Int×Int×Int×J4×List Jc×_F×List aD)⊕(List Jc×_F))) (uo (λq:Int×Int×List TX=>(q.1,q.2.1,J0 (CR a),J0 (pre++[x]),a,q.2.2.map (·.1),q.2.2.map (·.2.1),CR a)) (λq=>(0<=q.2.1/\q.2.1<=1099511627776)/\q.2.2.length<=(pre++[x]).length/\ ∀t,clp (-1) 0 (pre++[x]++t)=q.2.2++clp q.1 q.2.1 t) λy=>y=((WR a).map (·.1),(WR a).map (·.2.1))):=(by intro j _d _e h1;refine .G (λc=>.s ⟨(x.1.2.2.1,j,A),rfl,⟨_e,h1⟩,by simp;omega,λt=>?_⟩) λc=>.w (JPn H.2.1 _e h1) (.w (eT (l:=A.map (·.1)) (m:=[abv x.1 j]) (by rw[cA];unfold J0;rw[dT];omega) _k) (.w (eT (l:=A.map (·.2.1)) (m:=[x.2]) (by rw[cA];unfold J0;rw[dT];omega) _k) (.s ⟨(x.1.2.2.1,x.1.2.1,A++[(abv x.1 j,x.2,decide (j<x.1.1))]),by simp,⟨by dsimp only;omega,by dsimp only;omega⟩,by simp;omega,λt=>?_⟩)));rw[pW,w];show A++clp lo to (x::t)=_;rw[qH,_d,if_pos c];rw[pW,w];show A++clp lo to (x::t)=_;rw[qH,_d,if_neg c];simp);by_cases c:x.1.2.2.1=lo;rw[if_neg (by rw[eF];exact λk=>k c)];have s:=step to (if_pos c) v.1 v.2;rw[c]at s;exact s;rw[if_pos (eF.2 c)];exact step 0 (if_neg c) _k _k;unfold rm;dsimp only;rw[if_neg (by rw[Jp];omega)];have:=r.2.2 [];rw[gH]at this;refine .s ?_;unfold WR;rw[this];simp[clp,xF]
 obtain⟨y,e,d⟩:=F;rw[e,d]
end
theorem JQo{f t l h v:Int}{es:List aA}(q:0<=f/\f<=1099511627777/\0<=t/\t<=1099511627777/\0<=l/\l<=100/\0<=h/\h<=100/\0<=v/\v<=100)(hl:J0 es<=16384)(he: ∀e∈es,Ty.fit 16384 9223372036854775807 J3 e):fT (f,t,l,h,v,es):=
 ⟨J2.2 (show(-9223372036854775808:Int)<=f/\f<=9223372036854775807 by omega),J2.2 (show(-9223372036854775808:Int)<=t/\t<=9223372036854775807 by omega),J2.2 (show(-9223372036854775808:Int)<=l/\l<=9223372036854775807 by omega),J2.2 (show(-9223372036854775808:Int)<=h/\h<=9223372036854775807 by omega),J2.2 (show(-9223372036854775808:Int)<=v/\v<=9223372036854775807 by omega),hl,he⟩
section
theorem te{α:Type}{l U V:List α}{k:Int}(h:l=U++V)(hk:k=J0 U):aU l Y (Z k)=Z U:=by subst h hk;obtain⟨r,e,d,_⟩:=uV (l:=U++V) (k:=J0 U) Ja (by rw[cQ];have:=Ja (l:=V);omega);rw[e,d];simp[J0]
theorem tp{α:Type}{l U V:List α}{k:Int}(h:l=U++V)(hk:k=J0 U):aU l (Z k) Y=Z V:=by subst h hk;obtain⟨r,e,d,_⟩:=CJ (l:=U++V) (k:=J0 U) Ja (by rw[cQ];have:=Ja (l:=V);omega);rw[e,d];simp[J0]
theorem jQ{α:Type}{bytes:Nat}{l:List α}(h:J0 l<=34359738368)(hb:bytes<=2048):bG bytes l=Z l:=by unfold bG;rw[if_pos (UL (by unfold J0 at h;omega) hb)]
theorem eP{α β:Type}(f:α->β)(l:List α):J0 (l.map f)=J0 l:=by unfold J0;rw[dT]
theorem JJy{r:Jc}{to:Int}(hl:J0 (ent r)<=4096)(h0:0<=to)(h1:to<=1099511627776):RJ (r,to)=Z (abv r to):=by
 have j:_n (RJ (r,to)) λy=>y=abv r to:=(by unfold RJ abv;dsimp only;refine .g (λc=>.s (by rw[if_pos c])) λc=>?_;rw[if_neg c];have o:=Jl to 1;rw[show J1 I to 1=to+1 by omega];refine dZ (l:=ent r) (λi (b:List aA)=>(to,i,r,[],0,0,0,0,0,b,[],to+1,r.2.1,r.2.2.1,r.2.2.2.1,r.2.2.2.2.1)) (λpre b=>b=pre.filter λe=>decide (to<e.1)) (λpre x t b g h=>?_) (λb h=>?_) (ent r) [] [] _ rfl rfl rfl;unfold rj;dsimp only;have g':r.2.2.2.2.2=pre++x::t:=g;rw[if_pos (Jp.2 (cL g')),dB g (n:=4096) hl];refine .w (cW g') (.g (λd=>.w (cW g') (.w (eT (l:=b) (m:=[x]) (by have:=_N (λe:aA=>decide (to<e.1)) pre;have:=cL g;rw[h,cA];unfold J0 at*;omega) _k) (.s ⟨_,rfl,?_⟩))) λd=>.s ⟨b,rfl,?_⟩);rw[h,_M,List.filter_cons_of_pos (by simpa using d)];rfl;rw[h,_M,List.filter_cons_of_neg (by simpa using d)];simp;unfold rj;dsimp only;rw[if_neg (by rw[Jp];unfold ent;omega)];rw[h];exact .s rfl);obtain⟨y,e,d⟩:=j;rw[e,d]
section
variable {i k:Int} {a:J4} {A:List TX} {r:Jc} {f:aB} (hk:idx a.2.2.1 k=Z f)
include hk
theorem Pn{U V:List aD}{β:Type}{Q:β->Prop}{c:List Jc->_F->Option β}(hl:(U++V).length<=256)(h:_n (c ((U++(r,f.2.1)::V).map (·.1)) ((U++(r,f.2.1)::V).map (·.2))) Q):
  _n ((aU ((U++V).map (·.1)) Y (Z (J0 U))).bind λD=>(bG 64 D).bind λe=>(Jr 64 e [r]).bind λy=>(aU ((U++V).map (·.1)) (Z (J0 U)) Y).bind λx=>(Jr 64 y x).bind λg=>
   (aU ((U++V).map (·.2)) Y (Z (J0 U))).bind λv=>(bG 8 v).bind λj=>(idx a.2.2.1 k).bind λw=>(Jr 8 j [w.2.1]).bind λn=>(aU ((U++V).map (·.2)) (Z (J0 U)) Y).bind λo=>(Jr 8 n o).bind λq=>c g q) Q:=by
 have A:J0 U<=256:=by unfold J0;simp at hl;omega
 have C:J0 V<=256:=by unfold J0;simp at hl;omega
 have B:(U++V).map (·.1)=U.map (·.1)++V.map (·.1):=tA;have z:(U++V).map (·.2)=U.map (·.2)++V.map (·.2):=tA;have F:J0 (U.map (·.1))<=256:=by rw[eP];exact A
 have H:J0 (V.map (·.1))<=256:=by rw[eP];exact C
 have G:J0 (U.map (·.2))<=256:=by rw[eP];exact A
 have E:J0 (V.map (·.2))<=256:=by rw[eP];exact C
 refine .w (te B (by rw[eP])) (.w (jQ oo _k) (.w (eT (by rw[cA];omega) _k) (.w (tp B (by rw[eP])) (.w (eT (by rw[cQ,cA];omega) _k) ?_))));refine .w (te z (by rw[eP])) (.w (jQ oo _k) (.w hk (.w (eT (by rw[cA];omega) _k) (.w (tp z (by rw[eP])) (.w (eT (by rw[cQ,cA];omega) _k) ?_)))));simpa using h
theorem S1: ∀(n:Nat) (U V:List aD),U.length=n->(U++V).length<=256->(∀v∈V,r.1<v.1.1)->
  _n (J5 cn (i,(U++V).map (·.1),(U++V).map (·.2),k,J0 U,a,A.map (·.1),A.map (·.2.1),A.map (·.2.2),r)) λy=> ∃g j,U++V=g++j/\(∀v∈j,r.1<v.1.1)/\(∀u z,g=u++[z]->z.1.1<=r.1)/\
   y=.inl (i,(g++(r,f.2.1)::j).map (·.1),(g++(r,f.2.1)::j).map (·.2),J1 I k 1,a,A.map (·.1),A.map (·.2.1),A.map (·.2.2))
 |0,U,V,hn,hl,hv=>by have:U=[]:=_T.1 hn;subst this;refine .step ?_;unfold cn;dsimp only;rw[if_neg (by rw[fO,jU];omega)];refine .stq ?_;exact Pn hk hl (.s ⟨[],V,rfl,hv,λu z e=>by simp at e,rfl⟩)
 |n+1,U,V,hn,hl,hv=>by
  obtain⟨u,z,rfl⟩: ∃p z,U=p++[z]:=⟨U.dropLast,U.getLast (by intro e;subst e;simp at hn),(_P _).symm⟩;have nn:=Ja (l:=u);have x:J0 (u++[z])=J0 u+1:=by rw[cQ,cA]
  have B:J0 u<=256:=by unfold J0;simp at hl;omega
  have os:=bF (J0 (u++[z])) 1;refine .step ?_;unfold cn;dsimp only;rw[if_pos (by rw[fO];omega),show Jm I (J0 (u++[z])) 1=J0 u by omega];refine .w (CW (·.1) (show u++[z]++V=u++z::V by simp)) (.g (λc=>.s ?_) λc=>?_);have ih:=S1 n u (z::V) (by simp at hn;omega) (by simpa using hl) (λv o=>by
   rcases bS.1 o with rfl|h;exact c;exact hv v h)
  rw[show u++[z]++V=u++z::V by simp];exact ih;refine .stq ?_;refine Pn hk hl (.s ⟨u++[z],V,rfl,hv,λw q e=>?_,rfl⟩);have:=List.append_inj_right' e rfl;injection this with this;rw[<-this];omega
end
def Mp(a:J4)(i:Int)(_c:List aD)(F:List aB):Prop:=_c.Pairwise ltN/\ ∀x,x∈_c↔x∈F.filterMap (its a)/\sS (a,x.1)=Z i
variable {a:J4} (h:hC a) (hf:DF a)
include h hf
theorem OD{x:aD}{i:Int}(hx:x∈hZ a)(hp:sS (a,x.1)=Z i):0<=i/\i<J0 a.1/\idx a.1 i=Z x.1.2.2.1:=by obtain⟨f,_,_,⟨p,j,e,g⟩,_⟩:=II h hf hx;have:=e.2.2.1.symm.trans hp;cases this;exact⟨e.2.2.2,j,g⟩
theorem JMH{i:Int}{_c:List aD}{A:List TX}{L:Int}(hi:0<=i/\i<16)(K:_c.length<=256)(hA:A.length<=256)(hL: ∀x∈_c,x.1.2.2.1=L/\eE x.1):
  _n (J5 ZT (i,_c.map (·.1),_c.map (·.2),0,0,a,A.map (·.1),A.map (·.2.1),A.map (·.2.2))) λy=>y=.inl (i+1,a,(A++clp L 0 _c).map (·.1),(A++clp L 0 _c).map (·.2.1),(A++clp L 0 _c).map (·.2.2)):=by
 refine dZ (l:=_c) (λj (b:Int×List TX)=>(i,_c.map (·.1),_c.map (·.2),b.1,j,a,b.2.map (·.1),b.2.map (·.2.1),b.2.map (·.2.2))) (λpre b=>(0<=b.1/\b.1<=1099511627776)/\b.2.length<=A.length+pre.length/\ ∀t,A++clp L 0 (pre++t)=b.2++clp L b.1 t) (λpre x t b e v=>?_) (λb v=>?_) _c [] (0,A) _ rfl rfl ⟨⟨by show(0:Int)<=0;decide,by show(0:Int)<=1099511627776;decide⟩,zQ0 _,λt=>rfl⟩;obtain⟨to,B⟩:=b;obtain⟨⟨k,g⟩,w,h⟩:=v;dsimp only at k g w h⊢;obtain⟨r,z⟩:=hL x (by rw[e];simp);obtain⟨C,_d,G,H,E,F,_e,D⟩:=z.1;have lp:pre.length<256:=by
  have:_c.length=pre.length+(t.length+1):=by rw[e];simp
  omega
 have q:=CW (λx:aD=>x.1) e;unfold ZT;dsimp only;rw[if_pos (Jp.2 (by rw[eP];exact cL e)),dB e (n:=256) (by unfold J0;omega)];have M:J0 B<=512:=by unfold J0;omega
 refine .w q (.G (λc=>.s ⟨(to,B),rfl,⟨k,g⟩,by simp;omega,λt=>?_⟩) λc=>.w q (.w (JJy z.2.1 k g) (.w (eT (l:=B.map (·.1)) (by rw[cA,eP];omega) _k) (.w (CW (λx:aD=>x.2) e) (.w (eT (l:=B.map (·.2.1)) (by rw[cA,eP];omega) _k) (.w q (.w (eT (l:=B.map (·.2.2)) (by rw[cA,eP];omega) _k) (.w q (.s ⟨(x.1.2.1,B++[(abv x.1 to,x.2,decide (to<x.1.1))]),?_,⟨by dsimp only;omega,by dsimp only;omega⟩,by simp;omega,λt=>?_⟩)))))))));rw[pW,h];show B++clp L to (x::t)=_;rw[qH,if_pos r,if_pos c,r];dsimp only;rw[tA,tA,tA];rfl;rw[pW,h];show B++clp L to (x::t)=_;rw[qH,if_pos r,if_neg c,r];simp;unfold ZT;dsimp only;have o:=Jl i 1;rw[if_neg (by rw[Jp,eP];omega),show J1 I i 1=i+1 by omega];have:=v.2.2 [];rw[gH]at this;refine .s ?_;rw[this];simp[clp,xF]
theorem JOG{i:Int}{A:List TX}(hi:0<=i/\i<J0 a.1)(hA:A.length<=256):
  _n (J5 ZR (i,[],[],0,a,A.map (·.1),A.map (·.2.1),A.map (·.2.2))) λy=> ∃_c,Mp a i _c a.2.2.1/\y=.inl (i+1,a,(A++clp (-1) 0 _c).map (·.1),(A++clp (-1) 0 _c).map (·.2.1),(A++clp (-1) 0 _c).map (·.2.2)):=by
 have N:=h.len.2;refine dZ (l:=a.2.2.1) (λk (b:List aD)=>(i,b.map (·.1),b.map (·.2),k,a,A.map (·.1),A.map (·.2.1),A.map (·.2.2))) (λpre b=>b.length<=pre.length/\Mp a i b pre) (λpre f t b B F=>?_) (λb F=>?_) a.2.2.1 [] [] _ rfl rfl ⟨zQ0 _,.nil,λx=>by simp⟩;obtain⟨S,P,H⟩:=F;have Q:f∈a.2.2.1:=by rw[B];simp
 have lp:pre.length<256:=by have e:=h.few;have:=cL B;unfold J0 at*;omega
 unfold ZR;dsimp only;rw[if_pos (Jp.2 (cL B))];have o:=dB B (n:=256) h.few;refine .w (cW B) (.b (I6 N (hf f Q)) λD g=>.d (λc=>?_) λc=>?_);rw[o];refine .s ⟨b,rfl,by simp;omega,P,λx=>(H x).trans ?_⟩;rw[a!];rcases g with⟨_,g⟩|⟨_,g⟩;rw[c!,mi g];constructor;rintro⟨E,j⟩;exact⟨b! _ E,j⟩;rintro⟨E,j⟩;refine⟨?_,j⟩;rcases zQ9.1 E with q|q;exact q;rw[fR.1 q]at j;have:=j.symm.trans g.2.2.1;injection this with this;exact absurd this.symm c;rw[c!,Rx g];simp;have g:Itc a f D.1 D.2:=(by rcases g with⟨_,g⟩|⟨g,_⟩;exact g;omega);have R:=S1 (i:=i) (A:=A) (r:=D.1) (cW B) b.length b [] rfl (by simp;omega) nofun;simp only[gH]at R;rw[eP];refine R.mono λy w=>?_;obtain⟨U,V,w1,w2,w3,rfl⟩:=w;rw[o];have _e: ∀x∈b,x.1.2.2.1=D.1.2.2.1/\x.2<f.2.1:=λx C=>by
  obtain⟨E,j⟩:=(H x).1 C;have qa:x∈hZ a:=by unfold hZ;rw[B,a!];exact b! _ E
  have e1:=(OD h hf qa j).2.2;have _d:=((fa N D.1).get g.2.2.1).2 g.2.2.2;rw[c,e1]at _d;injection _d with _d;refine⟨_d,?_⟩;obtain⟨f',_b,f2⟩:=List.mem_filterMap.1 E;rw[(SJ f2).1];have _p:=h._p;rw[B]at _p;exact(_L.1 _p).2.2 f' _b f _I
 subst w1;refine⟨U++(D.1,f.2.1)::V,rfl,by simp at S⊢;omega,?_,λx=>?_⟩;obtain⟨T,_a,u3⟩:=_L.1 P;refine _L.2 ⟨T,_K.2 ⟨λv G=>?_,_a⟩,λu K v G=>?_⟩;have lv:=_e v (List.mem_append_right _ G);have:=w2 v G;exact .inr ⟨lv.1.symm,.inl this⟩;rcases bS.1 G with rfl|G;obtain⟨u',z,rfl⟩: ∃p z,U=p++[z]:=⟨U.dropLast,U.getLast (List.ne_nil_of_mem K),(_P _).symm⟩;have lu:=_e u (b! _ K);have lz:=_e z (by simp);have hz:=w3 u' z rfl;have ac:u.1.1<=z.1.1:=(by rcases zQ9.1 K with q|q;have:=(_L.1 T).2.2 u q z (by simp);unfold ltN at this;omega;rw[fR.1 q];exact bA _);have:=lu.2;unfold ltN;dsimp only;omega;exact u3 u K v G;rw[a!,c!,mi g];have k:=H x;simp only[List.filterMap_nil,zQ9,bS,_S,or_false]at k⊢;constructor;rintro(q|rfl|q);exact⟨.inl (k.1 (.inl q)).1,(k.1 (.inl q)).2⟩;exact⟨.inr rfl,by rw[<-c];exact g.2.2.1⟩;exact⟨.inl (k.1 (.inr q)).1,(k.1 (.inr q)).2⟩;rintro⟨q|rfl,j⟩;rcases k.2 ⟨q,j⟩with q|q;exact .inl q;exact .inr (.inr q);exact .inr (.inl rfl);unfold ZR;dsimp only;rw[if_neg (by rw[Jp];omega)];have M: ∀x∈b,x∈hZ a:=λx C=>((F.2.2 x).1 C).1;obtain⟨L,eL,_⟩:=eA (l:=a.1) hi.1 hi.2;have hL: ∀x∈b,x.1.2.2.1=L/\eE x.1:=λx C=>by have q:=((F.2.2 x).1 C).2;have e:=(OD h hf (M x C) q).2.2;rw[eL]at e;injection e with e;obtain⟨_,_,_,_,k,_⟩:=II h hf (M x C);exact⟨e.symm,k⟩
 have lb:b.length<=256:=by have e:=h.few;have:=F.1;unfold J0 at e;omega
 have W:clp (-1) 0 b=clp L 0 b:=by
  cases b with
  |nil=>rfl
  |cons x t=>rw[qH,qH,(hL x _I).1];simp
 refine .endq ((JMH h hf ⟨hi.1,by omega⟩ lb hA hL).mono λy e=>⟨b,F.2,by rw[e,W]⟩)
theorem Nq:EN a=Z ((WR a).map (·.1),(WR a).map (·.2.1),(WR a).map (·.2.2)):=by
 have W:=h.len.2;have L:_n (EN a) λy=>y=((WR a).map (·.1),(WR a).map (·.2.1),(WR a).map (·.2.2)):=by
  unfold EN;refine .b (pT a) λy U=>.n (λc=>by rw[U.2 h]at c;cases c) λ_=>dZ (l:=a.1) (λi (b:List TX)=>(i,a,b.map (·.1),b.map (·.2.1),b.map (·.2.2))) (λpre b=> ∃C:List aD,b=clp (-1) 0 C/\C.Pairwise ltN/\C.length<=256/\ ∀x,x∈C↔x∈hZ a/\ ∃p,p<J0 pre/\sS (a,x.1)=Z p) (λpre x t b T _d=>?_) (λb _d=>?_) a.1 [] [] _ rfl rfl ⟨[],rfl,.nil,by decide,λx=>⟨nofun,fun⟨q,p,r,j⟩=>by have:=(OD h hf q j).1;rw[jU]at r;omega⟩⟩;obtain⟨C,rfl,v,G,o⟩:=_d;have nn:=Ja (l:=pre);have lt:=cL T;unfold qw;dsimp only;rw[if_pos (Jp.2 lt)];refine(JOG h hf ⟨nn,lt⟩ (zQ1 UD G)).mono λy w=>?_;obtain⟨_c,⟨Q,H⟩,rfl⟩:=w;have N: ∀z∈_c,z∈hZ a:=λz g=>((H z).1 g).1;have B: ∀z∈_c,∀c∈C,c.1.2.2.1<z.1.2.2.1:=λz g c hc=>by have V:=(OD h hf (N z g) ((H z).1 g).2).2.2;obtain⟨q,p,r,j⟩:=(o c).1 hc;obtain⟨_b,_a,P⟩:=OD h hf q j;have A:=h.asc;unfold Asc at A;have K:a.1[(J0 pre).toNat]?=Z z.1.2.2.1:=(dG V).2;have _e:a.1[p.toNat]?=Z c.1.2.2.1:=(dG P).2;obtain⟨R,K⟩:=cY.1 K;obtain⟨S,_e⟩:=cY.1 _e;have:=_O.1 A p.toNat (J0 pre).toNat S R oo;rw[K,_e]at this;exact this
  have E: ∀z∈_c,0<=z.1.2.2.1:=λz g=>by obtain⟨_,_,_,_,k,_⟩:=II h hf (N z g);exact k.1.2.2.2.1
  have F: ∀z,z∈C++_c↔z∈hZ a/\ ∃p,p<J0 (pre++[x])/\sS (a,z.1)=Z p:=λz=>by
   rw[zQ9,o,H,cQ,cA];constructor;rintro(⟨q,p,r,j⟩|⟨q,j⟩);exact⟨q,p,by omega,j⟩;exact⟨q,_,by omega,j⟩;rintro⟨q,p,r,j⟩;by_cases e:p<J0 pre;exact .inl ⟨q,p,e,j⟩;have:p=J0 pre:=by omega
   subst this;exact .inr ⟨q,j⟩
  have M:(C++_c).Pairwise ltN:=_L.2 ⟨v,Q,λc hc z g=>.inl (B z g c hc)⟩;have hlen:(C++_c).length<=256:=by
   have n:(C++_c).Nodup:=M.imp fun{x y} k e=>by subst e;exact ltN.irr _ k
   have s:(C++_c)⊆hZ a:=λz g=>((F z).1 g).1;exact zQ1 (n.length_le_of_subset s) (jm h hf)
  refine⟨clp (-1) 0 (C++_c),?_,C++_c,rfl,M,hlen,F⟩;rw[O7 (D:=_c) λz g=>⟨by have:=E z g;omega,by have:=E z g;omega,λc hc=>by have:=B z g c hc;omega⟩,cQ,cA];obtain⟨C,rfl,v,G,o⟩:=_d;unfold qw;dsimp only;rw[if_neg (by rw[Jp];omega)];refine .s ?_;have:C=CR a:=wb ltN.irr ltN.asym v (JVO h hf) λx=>(o x).trans ⟨λq=>(SH h hf).2 q.1,λq=>by have q:=(SH h hf).1 q;obtain⟨_,_,_,⟨p,r,j,_⟩,_⟩:=II h hf q;exact⟨q,p,r,j.2.2.1⟩⟩;rw[this];rfl
 obtain⟨y,e,d⟩:=L;rw[e,d]
end
section
variable {a:J4} (h:hC a) (hf:DF a)
include h hf
theorem JTt{e:TX}(he:e∈WR a): ∃f∈a.2.2.1,∃(x:Jc) (t:Int),e=(abv x t,f.2.1,decide (t<x.1))/\zV f.2.2=Z (x,0)/\eE x/\fT x/\0<=t:=by
 obtain⟨x,t,h1,h2,o⟩:=kl (λx q=>by obtain⟨r,w,v,_⟩:=(Mm h hf q).1.1;omega) (bA 0) he;obtain⟨f,j,n,⟨p,z,g,y⟩,k⟩:=II h hf ((SH h hf).1 h1);exact⟨f,j,x.1,t,by rw[o,n],g.2.1,k.1,k.2,h2⟩
theorem JRw(r:Jc)(t:Int):J0 (ent (abv r t))<=J0 (ent r):=by
 unfold abv;split;exact bA _;have:=_N (λe:aA=>decide (t<e.1)) (ent r);show J0 ((ent r).filter λe=>decide (t<e.1))<=_;unfold J0;omega
theorem Mk{e:TX}(he:e∈WR a):J0 (ent e.1)<=4096/\(e.2.2=O->eE e.1/\fT e.1):=by
 obtain⟨f,_,x,t,rfl,_,g,j,_⟩:=JTt h hf he;refine⟨iZ (JRw h hf x t) g.2.1,λc=>?_⟩;have:t<x.1:=by simpa using c
 unfold abv;rw[if_pos this];exact⟨g,j⟩
theorem Mw:(WR a).length<=256:=zQ1 UD (N3 h hf)
omit h hf
theorem JR6{r:Jc}(h:4096<J0 (ent r)):fA r=Z J:=by
 have n: ∃b,lH (r.1,r.2.1,r.2.2.1,r.2.2.2.1,r.2.2.2.2.1)=Z b:=by
  unfold lH
  repeat' split
  all_goals exact⟨_,rfl⟩
 obtain⟨b,e⟩:=n;unfold fA;rw[e];cases b;rfl;show(if aO (J0 (ent r)) 4096 then Z J else _)=_;rw[if_pos (fO.2 h)]
def rM:Jc->List TX->Jc|z,[]=>z|_,x::p=>rM x.1 p
theorem Rr(L:Int)(z:Jc)(x:TX)(t:List TX):chX L z (x::t)=(PO z x.1/\x.1.2.2.2.2.1=L/\chX L x.1 t):=rfl
theorem kj{L:Int}: ∀{p:List TX} {z:Jc} {t:List TX},chX L z (p++t)↔chX L z p/\chX L (rM z p) t|[],_,_=>⟨λh=>⟨_g,h⟩,λh=>h.2⟩|x::p,z,t=>by have ih:=kj (L:=L) (p:=p) (z:=x.1) (t:=t);rw[nP,Rr,Rr,ih];exact⟨fun⟨a,b,c,d⟩=>⟨⟨a,b,c⟩,d⟩,fun⟨⟨a,b,c⟩,d⟩=>⟨a,b,c,d⟩⟩
theorem oe{x q:TX}: ∀{b:List TX} {z:Jc},rM z (b++[q])=q.1|[],_=>rfl|y::b,z=>oe (b:=b) (z:=y.1) (x:=x)
theorem R5{x q:TX}{b p:List TX}(h:x::b=p++[q]):rM x.1 b=q.1:=by
 cases p with
 |nil=>injection h with h1 h2;subst h1 h2;rfl
 |cons y p=>injection h with h1 h2;subst h2;exact oe (x:=x)
theorem Sm: ∀{p:List TX} {acc:List aA} {t:List TX},iY acc (p++t)=iY (iY acc p) t|[],_,_=>rfl|x::p,acc,t=>by show iY (mrg acc (ent x.1)) (p++t)=iY (iY (mrg acc (ent x.1)) p) t;exact Sm
def AL(w:List TX)(y:GW):Prop:=gW w=if y.2=O then Z y.1 else Y
theorem NI{w:List TX}(h:gW w=Y){r:Jc}:AL w (r,J):=by unfold AL;rw[h];rfl
theorem JRx{x:TX}{p t:List TX}{z:TX}{L:Int}(h: ¬(PO (rM x.1 p) z.1/\z.1.2.2.2.2.1=L))(hL:L=x.1.2.2.2.2.1):gW (x::(p++z::t))=Y:=by rw[TU,if_neg];rintro⟨_,k,_⟩;rw[<-hL,kj]at k;exact h ⟨k.2.1,k.2.2.1⟩
theorem Sw: ∀{t:List TX} {acc:List aA} {z:aA},z∈iY acc t->z∈acc\/ ∃e∈t,z∈ent e.1
 |[],_,_,h=>.inl h
 |x::t,acc,z,h=>by
  rcases Sw (t:=t) (acc:=mrg acc (ent x.1)) h with k|⟨e,g,j⟩;rcases Pd k with k|k;exact .inl k;exact .inr ⟨x,_I,k⟩;exact .inr ⟨e,gF _ g,j⟩
theorem JSF{x:TX}{t:List TX}(h: ∀e∈x::t,eE e.1):1<=toW x.1.2.1 t/\toW x.1.2.1 t<=1099511627776:=by
 induction t generalizing x with
 |nil=>obtain⟨j,k,n,_⟩:=(h x _I).1;exact⟨by show 1<=x.1.2.1;omega,by show x.1.2.1<=_;omega⟩
 |cons y t ih=>exact ih λe g=>h e (gF _ g)
theorem Nn{x:TX}{t:List TX}(h: ∀e∈x::t,eE e.1/\fT e.1)(hl:J0 (iY (ent x.1) t)<=16384):fT (jn x t):=by
 obtain⟨B,C,r,v,q,y,z,A⟩:=(h x _I).1.1;have o:=Jl x.1.2.2.2.2.1 1;have w:=JSF λe g=>(h e g).1;refine JQo oo hl λe g=>?_;rcases Sw g with k|⟨f,j,n⟩;exact(h x _I).2.2.2.2.2.2.2 e k;exact(h f (gF _ j)).2.2.2.2.2.2.2 e n
theorem JOL{x:TX}{t:List TX}(h: ∀e∈x::t,e.2.2=O)(hc:chX x.1.2.2.2.2.1 x.1 t){v:Bool}(hv:fA (jn x t)=Z v):AL (x::t) (jn x t,v):=by
 unfold AL;rw[TU];cases v with
 |true=>rw[if_pos ⟨h,hc,hv⟩];rfl
 |false=>rw[if_neg (λk=>by rw[hv]at k;cases k.2.2)];rfl
end
section
noncomputable def BO(_p:_F)(F:List aB):List aB:=F.filter λf=> !decide (f.2.1∈_p)
noncomputable def Lr(a:J4)(s:_j)(w:List TX):J4:=(a.1,a.2.1,BO (w.map (·.2.1)) a.2.2.1++[(1,a.2.2.2.2,s)],a.2.2.2.1,J1 I a.2.2.2.2 1)
def CO(a:J4)(fan:Int)(y:CC):Prop:=(¬hC a/\y=(([],0,[],0,0),J,54))\/(hC a/\ ¬(2<=fan/\fan<=8)/\y=(([],0,[],0,0),J,1))\/(hC a/\(2<=fan/\fan<=8)/\((qX fan.toNat gW (WR a)=Y/\y=(a,J,0))\/ ∃r w,qX fan.toNat gW (WR a)=Z (r,w)/\((1073741824<a.2.2.2.2/\y=(([],0,[],0,0),J,21))\/(a.2.2.2.2<=1073741824/\ ∃s,oW r=Z (s,0)/\J0 s<=167968836/\y=(Lr a s w,O,0)))))
theorem xc{r:Jc}(h:eE r)(hf:fT r): ∃s,oW r=Z (s,0)/\J0 s<=167968836:=by
 have n:=(JS5 h).2;obtain⟨y,e,k⟩:=Xr (B:=4096) (S:=9223372036854775807) (X:=r) ⟨hf.1,hf.2.1,hf.2.2.1,hf.2.2.2.1,hf.2.2.2.2.1,h.2.1,λe j=>Ty.fit.up (B:=0) _k _k (show Ty.fit 0 9223372036854775807 J3 e from hf.2.2.2.2.2.2 e j)⟩;have z:_t (oW r) λy=>y.2=0:=by unfold oW;rw[n];refine .b λy g=>?_;cases g;refine .n (λc=>by cases c) λ_=>.b λ_ _=>.b λ_ _=>.z (λ_=>True) trivial λz _=>?_;unfold FB;exact .i (λ_=>.b λ_ _=>.b λ_ _=>.b λ_ _=>.b λ_ _=>.s _g) λ_=>.s rfl
 obtain⟨s,f⟩:=y;have:=z _ e;dsimp only at this;subst this;exact⟨s,e,k.1⟩
theorem Rt{α σ ρ β:Type}{L:σ->Option (σ⊕ρ)}{Q:ρ->Prop}{n:Nat}{g:List α->Option β}{l:List α}(hn:0<n)(e:Int->σ)
  (hs: ∀pre w post,l=pre++w++post->w.length=n->_n (L (e (J0 pre))) λr=>match g w with|none=>r=.inl (e (J0 pre+1))|some b=>match r with| .inl _=>False| .inr y=>qX n g l=Z (b,w)->Q y)
  (he: ∀i,0<=i->i<=J0 l->J0 l<i+n->_n (L (e i)) (xF λy=>qX n g l=Y->Q y)):
  ∀(t pre:List α),l=pre++t->qX n g l=qX n g t->_n (J5 L (e (J0 pre))) Q
 |[],pre,j,hf=>by
  refine .step ((he (J0 pre) Ja (by rw[j,cQ];have:=Ja (l:=([]:List α));omega) (by rw[j,gH];omega)).mono λr h=>?_);cases r with
  |inl z=>exact h.elim
  |inr y=>exact h hf
 |x::t,pre,j,hf=>by
  by_cases c:(x::t).length<n;refine .step ((he (J0 pre) Ja (by rw[j,cQ];have:=Ja (l:=x::t);omega) (by rw[j,cQ];unfold J0;omega)).mono λr h=>?_);cases r with
  |inl z=>exact h.elim
  |inr y=>exact h (hf.trans (JJY c))
  have k:((x::t).take n).length=n:=by rw[mN];omega
  have st:=hs pre ((x::t).take n) ((x::t).drop n) (by rw[pW,pR];exact j) k;rw[JN4,if_neg c]at hf;refine .step (st.mono λr h=>?_);cases hg:g ((x::t).take n)with
  |none=>rw[hg]at h hf;subst h;have:=Rt hn e hs he t (pre++[x]) (by rw[j];simp) hf;rw[cQ,cA]at this;exact this
  |some b=>
   rw[hg]at h hf;cases r with
   |inl z=>exact h.elim
   |inr y=>exact h hf
end
section
theorem Sq{L:Int}: ∀{p:List TX} {z:Jc},chX L z p->(rM z p).2.2.1=z.2.2.1/\(rM z p).2.2.2.1=z.2.2.2.1|[],_,_=>⟨rfl,rfl⟩|x::p,z,h=>by obtain⟨h1,_,e⟩:=h;have k:=Sq (p:=p) (z:=x.1) e;exact⟨k.1.trans h1.1.symm,k.2.trans h1.2.1.symm⟩
theorem Rn: ∀{p:List TX} {z:Jc},toW z.2.1 p=(rM z p).2.1|[],_=>rfl|x::p,z=>Rn (p:=p) (z:=x.1)
theorem wk{r:Jc}(h:eE r){e:aA}(he:e∈ent r):r.1<=e.1/\e.1<=r.2.1:=by obtain⟨j,g⟩:=sT.1 he;have k:=h.2.2.1 j e g;exact⟨k.2.2.1,k.2.2.2.1⟩
theorem Pi{l:List Jc}{j:List Bool}{i f t lo hi lv:Int}{z:Jc}{acc:List aA}{r:Jc}(o:idx l i=Z r)(hr:J0 (ent r)<=4096)(ha:J0 acc<=40000):
  _n (J5 RL (l,j,i,0,z,f,t,lo,hi,lv,acc)) λy=>y=.inl (l,j,J1 I i 1,z,f,t,lo,hi,lv,(ent r).foldl cM acc):=by
 refine dZ (l:=ent r) (λk (b:List aA)=>(l,j,i,k,z,f,t,lo,hi,lv,b)) (λpre b=>b=pre.foldl cM acc) (λpre x u b h g=>?_) (λb g=>?_) (ent r) [] acc _ rfl rfl rfl;unfold RL;dsimp only;refine .w o ?_;have lt:J0 pre<J0 r.2.2.2.2.2:=cL h;rw[if_pos (Jp.2 lt),dB h (n:=4096) hr];refine .w o (.w (cW h) (.b (N9 (l:=b) (e:=x) ?_) λy q=>.s ⟨cM b x,?_,?_⟩));have:=JP1 pre acc;have:=cL h;rw[g];unfold J0 at*;omega;rw[q];rw[List.foldl_append,<-g];rfl;unfold RL;dsimp only;refine .w o ?_;have: ¬J0 (ent r)<J0 r.2.2.2.2.2:=Int.lt_irrefl _;rw[if_neg (by rw[Jp];exact this),g];exact .s rfl
theorem JS7:Fu=RL:=rfl
theorem JTA{x:TX}{t:List TX}(hw: ∀e∈x::t,J0 (ent e.1)<=4096/\(e.2.2=O->eE e.1/\fT e.1))(hn:(x::t).length<=8):_n (YM ((x::t).map (·.1),(x::t).map (·.2.2))) (AL (x::t)):=by
 have r:idx ((x::t).map (·.1)) 0=Z x.1:=rfl;obtain⟨G,N,el⟩: ∃p q,x::t=p++[q]:=⟨(x::t).dropLast,(x::t).getLast (by simp),(_P (by simp)).symm⟩;have ai:=Ja (l:=G);have ac:J0 (x::t)=J0 G+1:=by rw[el,cQ,cA]
 have l8:J0 (x::t)<=8:=by unfold J0;omega
 have af:=bF (J0 (x::t)) 1;have K:idx ((x::t).map (·.1)) (Jm I (J0 ((x::t).map (·.1))) 1)=Z N.1:=by rw[eP,show Jm I (J0 (x::t)) 1=J0 G by omega];exact CW (λx:TX=>x.1) (show x::t=G++N::[]from el)
 have a0:N.1.2.1=toW x.1.2.1 t:=by rw[Rn,R5 el]
 unfold YM;refine .w r (.w K (.w r (.w r (.w r ?_))));dsimp only;rw[a0];have fin: ∀acc:List aA,(∀e∈x::t,e.2.2=O)->chX x.1.2.2.2.2.1 x.1 t->acc=iY (ent x.1) t->_n ((fA (x.1.1,toW x.1.2.1 t,x.1.2.2.1,x.1.2.2.2.1,J1 I x.1.2.2.2.2.1 1,acc)).bind λT=>Z ((x.1.1,toW x.1.2.1 t,x.1.2.2.1,x.1.2.2.2.1,J1 I x.1.2.2.2.2.1 1,acc),T)) (AL (x::t)):=(by intro acc h1 h2 h3;subst h3;have V: ∃v,fA (jn x t)=Z v:=(by by_cases c:J0 (iY (ent x.1) t)<=4096;obtain⟨v,_,L,_⟩:=vv (Nn (λe g=>(hw e g).2 (h1 e g)) oo);exact⟨v,L⟩;exact⟨J,JR6 (show 4096<J0 (iY (ent x.1) t) by omega)⟩);obtain⟨v,L⟩:=V;exact .w L (.s (JOL h1 h2 L)));refine dZ (l:=x::t) (λi (b:List aA)=>((x::t).map (·.1),(x::t).map (·.2.2),i,(0,0,0,0,0,[]),x.1.1,toW x.1.2.1 t,x.1.2.2.1,x.1.2.2.2.1,J1 I x.1.2.2.2.2.1 1,b)) (λpre acc=>(∀e∈pre,e.2.2=O)/\J0 acc<=4096*J0 pre/\((pre=[]/\acc=[])\/ ∃b,pre=x::b/\chX x.1.2.2.2.2.1 x.1 b/\acc=iY (ent x.1) b/\ ∀e∈acc,e.1<=(rM x.1 b).2.1)) (λpre z u acc j R=>?_) (λacc R=>?_) (x::t) [] [] _ rfl rfl ⟨nofun,by rw[jU,jU];decide,.inl ⟨rfl,rfl⟩⟩;obtain⟨C,_b,F⟩:=R;have hz:=hw z (by rw[j];simp);have w:=CW (λx:TX=>x.1) j;have lt:=cL j;have np:=Ja (l:=pre);have o:=dB j (n:=8) l8;have _a:J0 (pre++[z])=J0 pre+1:=by rw[cQ,cA]
 have bad: ¬z.2.2=O->gW (x::t)=Y:=λc=>JOj _ ⟨z,by rw[j];simp,c⟩;unfold qd;dsimp only;rw[if_pos (Jp.2 (by rw[eP];exact lt))];refine .w (CW (λx:TX=>x.2.2) j) (.r (λc=>?_) λc=>.s (NI (bad (by rw[c];decide))));obtain⟨E,zf⟩:=hz.2 c;have zl:J0 (ent z.1)<=4096:=hz.1;refine .w w (.w r ?_);rcases F with⟨rfl,rfl⟩|⟨b,rfl,B,rfl,D⟩;injection j with h1 h2;subst h1 h2;have P: ∀y:Int,aN y y=J:=λy=>by simp[aN]
 rw[if_pos (P _)];refine .w w (.w r ?_);rw[if_pos (P _)];refine .w w (.w r ?_);rw[if_pos (P _),if_neg (by rw[fO,jU];omega),JS7];refine(Pi w zl (by rw[jU];decide)).mono λy Q=>?_;rw[Q,o];have M:(ent x.1).foldl cM []=ent x.1:=(ly (b:=ent x.1) (a:=[]) (A4 E) λ_ h=>absurd h _S).symm.trans (by rw[mrg]);rw[M];refine⟨_,rfl,λe g=>by rw[fR.1 g];exact c,by rw[_a,jU];omega,.inr ⟨[],rfl,_g,rfl,λe g=>?_⟩⟩;exact(wk E g).2;have hq:J0 (x::b)=J0 b+1:=(by rw[show x::b=[x]++b from rfl,cQ,cA];omega);have nb:=Ja (l:=b);have et:t=b++z::u:=by simpa using j
 have H: ¬(PO (rM x.1 b) z.1/\z.1.2.2.2.2.1=x.1.2.2.2.2.1)->gW (x::t)=Y:=λk=>by rw[et];exact JRx k rfl
 have _e:=Sq B;obtain⟨p,q,_d⟩: ∃p q,x::b=p++[q]:=⟨(x::b).dropLast,(x::b).getLast (by simp),(_P (by simp)).symm⟩;have W:=R5 _d;have U:q∈x::b:=by rw[_d];simp
 obtain⟨qo,_⟩:=(hw q (by rw[j];exact b! _ U)).2 (C q U);have ad:=Ja (l:=p);have lp:J0 (x::b)=J0 p+1:=by rw[_d,cQ,cA]
 have os:=bF (J0 (x::b)) 1;have iq:=CW (λx:TX=>x.1) (show x::t=p++q::(z::u) by rw[j,_d];simp);obtain⟨ae,ab,ah,_⟩:=qo.1;have oq:=Jl q.1.2.1 1;refine .q (λc1=>.w w (.w r (.q (λc2=>.w w (.w r (.q (λc3=>?_) λk=>.s (NI (H λA=>k A.2))))) λk=>.s (NI (H λA=>k (A.1.2.1.symm.trans _e.2)))))) λk=>.s (NI (H λA=>k (A.1.1.symm.trans _e.1)));rw[if_pos (by rw[fO];omega),show Jm I (J0 (x::b)) 1=J0 p by omega];refine .w w (.w iq (.d (λk=>.s (NI (H λA=>k (by have:=A.1.2.2;rw[W]at this;omega)))) λc4=>?_));have _c:PO (rM x.1 b) z.1:=⟨_e.1.trans c1.symm,_e.2.trans c2.symm,by rw[W];omega⟩;refine(Pi (acc:=iY (ent x.1) b) w zl oo).mono λy Q=>?_;rw[Q,o];have M:(ent z.1).foldl cM (iY (ent x.1) b)=mrg (iY (ent x.1) b) (ent z.1):=(ly (A4 E) λe g f S k=>by have k1:=(VJ.1 k).2;have A:=D e g;have k3:=(wk E S).1;have k4:=_c.2.2;omega).symm;rw[M];refine⟨_,rfl,λe g=>?_,?_,.inr ⟨b++[z],by simp,kj.2 ⟨B,_c,c3,_g⟩,by rw[Sm];rfl,λe g=>?_⟩⟩;rcases zQ9.1 g with k|k;exact C e k;rw[fR.1 k];exact c;rw[JOJ,_a];omega;rw[oe (x:=x)];obtain⟨ag,aj,_⟩:=E.1;have k4:=_c.2.2;rcases Pd g with k|k;have:=D e k;omega;exact(wk E k).2;obtain⟨C,_b,F⟩:=R;unfold qd;dsimp only;rw[if_neg (by rw[Jp,eP];omega)];rcases F with⟨e,_⟩|⟨b,e,B,D,_⟩;cases e;injection e with _ e;subst e;exact .endq (fin acc C B D)
end
section
theorem JVz{w:List TX}{r:Jc}(h:gW w=Z r)(hw: ∀e∈w,J0 (ent e.1)<=4096/\(e.2.2=O->eE e.1/\fT e.1)):eE r/\fT r:=by
 cases w with
 |nil=>cases h
 |cons x t=>
  rw[TU]at h;by_cases c:(∀e∈x::t,e.2.2=O)/\chX x.1.2.2.2.2.1 x.1 t/\fA (jn x t)=Z O;rw[if_pos c]at h;cases h;have k:=eE.of c.2.2;have j:J0 (iY (ent x.1) t)<=4096:=k.2.1;exact⟨k,Nn (λe g=>(hw e g).2 (c.1 e g)) oo⟩;rw[if_neg c]at h;cases h
theorem Oc{α:Type}{l pre w post:List α}{j k:Int}(h:l=pre++w++post)(hj:j=J0 pre)(hk:k=J0 pre+J0 w):aU l (Z j) (Z k)=Z w:=by
 have g:=Ja (l:=pre);have o:=Ja (l:=w);have q:=Ja (l:=post);have n:J0 l=J0 pre+J0 w+J0 post:=by rw[h,cQ,cQ]
 obtain⟨r,e,d,_⟩:=MW (l:=l) (j:=j) (k:=k) oo oo oo;rw[e,d,h,hj,show k-J0 pre=J0 w by omega];unfold J0;simp
variable {a:J4} (hf:DF a) {fan:Int}
include hf
theorem JNI{win pre post _p:_F}{k:Int}{f:aB}{r:Jc}{acc:List aB}(g:_p=pre++win++post)(hn:J0 _p<=256)(hw:J0 win=fan)(hk:idx a.2.2.1 k=Z f)(B:J0 acc<=256):
  _n (J5 YV (fan,_p,J0 pre,k,J,J0 pre,a,[],[],0,0,0,r,[],a.1,a.2.1,a.2.2.2.1,a.2.2.2.2,acc)) λy=>y=.inl (fan,_p,J0 pre,J1 I k 1,a,[],[],0,0,0,r,[],a.1,a.2.1,a.2.2.2.1,a.2.2.2.2,if f.2.1∈win then acc else acc++[f]):=by
 have C:=Ja (l:=pre);have E:=Ja (l:=win);have A:=Ja (l:=post);have D:J0 _p=J0 pre+J0 win+J0 post:=by rw[g,cQ,cQ]
 have o:=Jl (J0 pre) fan;have z:J0 (pre++win)=J0 pre+J0 win:=cQ;refine dZ (l:=pre++win) (λn (m:Bool)=>(fan,_p,J0 pre,k,m,n,a,[],[],0,0,0,r,[],a.1,a.2.1,a.2.2.2.1,a.2.2.2.2,acc)) (λp m=> ∃q,p=pre++q/\(m=O↔f.2.1∈q)) (λp x t m v j=>?_) (λm j=>?_) win pre J _ rfl rfl ⟨[],by simp,by simp⟩;obtain⟨q,rfl,h⟩:=j;have w:_p=(pre++q)++x::(t++post):=by rw[g,v];simp
 have lt:=cL v;unfold YV;dsimp only;rw[if_pos (Jp.2 oo),dB v (n:=256) oo];refine .t (λc=>.w (cW w) (.w hk (.s ⟨_,rfl,q++[x],by simp,?_⟩))) λc=>.s ⟨O,by subst c;rfl,q++[x],by simp,?_⟩;rw[eM];have: ¬f.2.1∈q:=λk=>by rw[h.2 k]at c;cases c
 simp only[zQ9,fR,this,false_or];exact eq_comm;exact⟨λ_=>b! _ (h.1 c),λ_=>rfl⟩;obtain⟨q,e,h⟩:=j;have e:=List.append_cancel_left e;subst e;unfold YV;dsimp only;rw[if_neg (by rw[Jp];omega)];refine .endq (.n (λc=>.w hk (.w (eT (by rw[cA];omega) _k) (.s ?_))) λc=>.s ?_);rw[if_neg (λk=>by rw[h.2 k]at c;cases c)];rw[if_pos (h.1 c)]
theorem JVr:_n (XK (a,fan)) (CO a fan):=by
 unfold XK;refine .b (pT a) λ_b h2=>.n (λc=>.s (.inl ⟨λk=>(by rw[h2.2 k]at c;cases c),rfl⟩)) λc=>?_;have h:=h2.1 c;refine .j (λE=>.g (λF=>.s (.inr (.inl ⟨h,λk=>by omega,rfl⟩))) λF=>.w (Nq h hf) ?_) λE=>.s (.inr (.inl ⟨h,λk=>by omega,rfl⟩));dsimp only at E F;have E: ¬fan<2:=E;have F: ¬8<fan:=F;have len:=Mw h hf;have K: ∀e∈WR a,J0 (ent e.1)<=4096/\(e.2.2=O->eE e.1/\fT e.1):=λe z=>Mk h hf z;refine Rt (L:=ZB) (Q:=CO a fan) (l:=(WR a)) (n:=fan.toNat) (g:=gW) oo (λi=>(fan,(WR a).map (·.1),(WR a).map (·.2.1),(WR a).map (·.2.2),i,a,[],[],0,0,0)) (λpre w post D _a=>?_) (λi U i1 hi=>?_) (WR a) [] rfl rfl;have V:=Ja (l:=pre);have W:J0 (WR a)=J0 pre+J0 w+J0 post:=by rw[D,cQ,cQ]
 have S:=Ja (l:=post);have N:J0 w=fan:=by unfold J0;omega
 have _c:J0 (WR a)<=256:=by unfold J0;omega
 have o:=Jl (J0 pre) fan;have T:=Jl (J0 pre) 1;have wm: ∀e∈w,e∈(WR a):=λe z=>by rw[D];simp[z]
 unfold ZB;dsimp only;rw[if_pos (dK.2 (by rw[eP];omega))];refine .w (Oc (pre:=pre.map (·.1)) (w:=w.map (·.1)) (post:=post.map (·.1)) (by rw[D];simp) (by rw[eP]) (by rw[eP,eP];omega)) (.w (Oc (pre:=pre.map (·.2.2)) (w:=w.map (·.2.2)) (post:=post.map (·.2.2)) (by rw[D];simp) (by rw[eP]) (by rw[eP,eP];omega)) ?_);cases w with
 |nil=>rw[jU]at N;omega
 |cons x t=>
  refine .b (JTA (x:=x) (t:=t) (λe z=>K e (wm e z)) oo) λy j=>?_;obtain⟨r,v⟩:=y;unfold AL at j;cases v with
  |false=>rw[j];exact .s (by show _=_;rw[show J1 I (J0 pre) 1=J0 pre+1 by omega])
  |true=>
   have j:gW (x::t)=Z r:=j;rw[j];obtain⟨P,R⟩:=JVz j λe z=>K e (wm e z);obtain⟨s,es,ls⟩:=xc P R;rw[if_neg (show¬Jg O=O by decide)];refine .g (λG=>.s λC=>.inr (.inr ⟨h,⟨by omega,by omega⟩,.inr ⟨r,x::t,C,.inl ⟨G,rfl⟩⟩⟩)) λG=>?_;have _e:=h.few;have H:(WR a).map (·.2.1)=pre.map (·.2.1)++(x::t).map (·.2.1)++post.map (·.2.1):=by rw[D];simp
   have go:_n (J5 YZ (fan,(WR a).map (·.2.1),J0 pre,0,a,[],[],0,0,0,r,[],a.1,a.2.1,a.2.2.2.1,a.2.2.2.2,[])) λy=>y=.inr (Lr a s (x::t),O,0):=(by refine dZ (l:=a.2.2.1) (λk (acc:List aB)=>(fan,(WR a).map (·.2.1),J0 pre,k,a,[],[],0,0,0,r,[],a.1,a.2.1,a.2.2.2.1,a.2.2.2.2,acc)) (λp acc=>acc=BO ((x::t).map (·.2.1)) p) (λp f q acc B A=>?_) (λacc A=>?_) a.2.2.1 [] [] _ rfl rfl rfl;have lt:=cL B;have M:=_N (λf:aB=> !decide (f.2.1∈(x::t).map (·.2.1))) p;unfold YZ;dsimp only;rw[if_pos (Jp.2 lt)];have _d:=JNI hf (fan:=fan) (win:=(x::t).map (·.2.1)) (pre:=pre.map (·.2.1)) (post:=post.map (·.2.1)) (r:=r) (acc:=acc) H (by rw[eP];omega) (by rw[eP];exact N) (cW B) (by rw[A];unfold BO J0 at*;omega);rw[eP]at _d;refine _d.mono λy j=>?_;rw[j,dB B (n:=256) _e];refine⟨_,rfl,?_⟩;unfold BO at A⊢;rw[_M,<-A];by_cases c:f.2.1∈(x::t).map (·.2.1);rw[if_pos c,List.filter_cons_of_neg (by rw[decide_eq_true c];decide),List.filter_nil,gH];rw[if_neg c,List.filter_cons_of_pos (by rw[decide_eq_false c];rfl)];rfl;have M:=_N (λf:aB=> !decide (f.2.1∈(x::t).map (·.2.1))) a.2.2.1;unfold YZ;dsimp only;rw[if_neg (by rw[Jp];omega)];refine .endq (.w es (.w (eT (by rw[A,cA];unfold BO J0 at*;omega) _k) (.s ?_)));rw[A];rfl);refine go.mono λy j=>?_;rw[j];exact λC=>.inr (.inr ⟨h,⟨by omega,by omega⟩,.inr ⟨r,x::t,C,.inr ⟨by show a.2.2.2.2<=1073741824;have G: ¬1073741824<a.2.2.2.2:=G;omega,s,es,ls,rfl⟩⟩⟩)
 have _c:J0 (WR a)<=256:=by unfold J0;omega
 have o:=Jl i fan;unfold ZB;dsimp only;rw[if_neg (by rw[dK,eP];omega)];exact .s λC=>.inr (.inr ⟨h,⟨by omega,by omega⟩,.inl ⟨C,rfl⟩⟩)
omit hf
theorem CO.uniq{y z:CC}(h:CO a fan y)(g:CO a fan z):y=z:=by
 rcases h with⟨h1,h2⟩|⟨h1,h2,B⟩|⟨h1,h2,B⟩;rcases g with⟨j,k⟩|⟨j,_⟩|⟨j,_⟩;rw[h2,k];exact absurd j h1;exact absurd j h1;rcases g with⟨j,k⟩|⟨j,k,o⟩|⟨j,k,_⟩;exact absurd h1 j;rw[B,o];exact absurd k h2;rcases g with⟨j,k⟩|⟨j,k,o⟩|⟨j,k,o⟩;exact absurd h1 j;exact absurd h2 k;rcases B with⟨e,x⟩|⟨r,w,e,x⟩;rcases o with⟨e',n⟩|⟨r',w',e',n⟩;rw[x,n];rw[e]at e';cases e';rcases o with⟨e',n⟩|⟨r',w',e',n⟩;rw[e]at e';cases e';rw[e]at e';injection e' with e';injection e' with e1 e2;subst e1 e2;rcases x with⟨q,A⟩|⟨q,s,es,_,A⟩;rcases n with⟨q',v⟩|⟨q',_⟩;rw[A,v];omega;rcases n with⟨q',v⟩|⟨q',s',C,_,v⟩;omega;have:=es.symm.trans C;injection this with this;injection this with this _;rw[A,v,this]
end
section
def hY(K:Int)(a:J4):Prop:=(∀f∈a.2.2.1,J0 f.2.2<=K)/\J0 a.2.2.1<=257/\J0 a.1<=16
theorem hY.zero{K:Int}:hY K ([],0,[],0,0):=⟨nofun,by decide,by decide⟩
theorem hY.up{K e:Int}{a:J4}(h:hY K a)(hk:K<=e):hY e a:=⟨λf hf=>iZ (h.1 f hf) hk,h.2⟩
theorem CO.af{K:Int}{a:J4}{fan:Int}{y:CC}(e:167968836<=K)(h:hY K a)(o:CO a fan y):hY K y.1/\(y.2.2=0->y.2.1=J->y.1=a)/\(y.2.2=0->y.2.1=O->y.1.2.2.2.2=a.2.2.2.2+1/\a.2.2.2.2<=1073741824):=by
 rcases o with⟨_,rfl⟩|⟨_,_,rfl⟩|⟨ok,_,⟨_,rfl⟩|⟨r,w,_,⟨_,rfl⟩|⟨hs,s,_,ls,rfl⟩⟩⟩;exact⟨.zero,λc=>absurd c _k,λc=>absurd c _k⟩;exact⟨.zero,λc=>absurd c _k,λc=>absurd c _k⟩;exact⟨h,λ_ _=>rfl,λ_ c=>(by cases c)⟩;exact⟨.zero,λc=>absurd c _k,λc=>absurd c _k⟩;have o:=Jl a.2.2.2.2 1;have:=ok.ser;refine⟨⟨λf hf=>?_,?_,h.2.2⟩,λ_ c=>(by cases c),λ_ _=>⟨by show J1 I a.2.2.2.2 1=_;omega,hs⟩⟩;rcases zQ9.1 hf with k|k;exact h.1 f (_V.1 k).1;rw[fR.1 k];show J0 s<=K;omega;have g:=_N (λf:aB=> !decide (f.2.1∈w.map (·.2.1))) a.2.2.1;have:=ok.few;show J0 (BO _ _++_)<=257;rw[cQ,cA];unfold BO J0 at*;omega
theorem SW{a:J4}(h:hC a){i b:Int}(e:idx a.1 i=Z b):0<=b/\b<64:=by
 obtain⟨B,e⟩:=dG e;obtain⟨n,k⟩:=cY.1 e;obtain⟨_,z⟩:=dG h.zero;obtain⟨x,o⟩:=cY.1 z;have D:=h.len;obtain⟨w,j,_⟩:=eA (l:=a.1) (i:=J0 a.1-1) oo oo;have C:=h.last w j;obtain⟨_,j⟩:=dG j;obtain⟨v,r⟩:=cY.1 j;have g:=h.asc;unfold Asc at g;have p:=_O.1 g;have y:=h.pages;have A:(J0 a.1-1).toNat+1=a.1.length:=by unfold J0 at*;omega
 constructor;rcases QL i.toNat with c|c;have q:(0:Int)=b:=by rw[<-k,<-o];congr 1;exact c.symm
 omega;have:=p (0:Int).toNat i.toNat x n c;rw[k,o]at this;omega;rcases zQ3 i.toNat (J0 a.1-1).toNat with c|c;have:=p i.toNat (J0 a.1-1).toNat n v c;rw[k,r]at this;omega;have q:w=b:=by rw[<-k,<-r];congr 1;omega
 omega
theorem m5{a:J4}(h:hC a){i:Int}(h0:0<=i)(h1:i<J0 a.1):_n (iW (a,i)) λy=>Ty.fit 0 0 (.i I) y.1/\Ty.fit 0 0 (.i I) y.2:=by unfold iW;dsimp only;have k:=Jl i 1;have:=h.len.2;obtain⟨w,e,_⟩:=eA (l:=a.1) h0 h1;have b:=SW h e;have g:Ty.fit 0 0 (.i I) w:=J2.2 (show -9223372036854775808<=w/\w<=9223372036854775807 by omega);refine .l (λc=>?_) λc=>.w e (.s ⟨g,eZ⟩);obtain⟨n,j,_⟩:=eA (l:=a.1) (i:=J1 I i 1) oo c;exact .w j (.w e (.s ⟨g,eZ⟩))
theorem JNH{x:Jc}(h:fT x):_n (oW x) λy=>J0 y.1<=167968836:=by
 obtain⟨v,j,g,hR⟩:=vv h;cases v with
 |false=>unfold oW;rw[g];exact .s _k
 |true=>obtain⟨s,e,l⟩:=xc (hR rfl) h;exact⟨_,e,l⟩
theorem R9{K:Int}{a:J4}{l:Jy}{n:Int}(V:167968836<=K)(h:hY K a)(hl:Ty.fit 16384 1073741824 JG l)(hn: -9223372036854775808<=n/\n<=9223372036854775807):_n (oQ (a,l,n)) λy=>hY K y.1:=by
 unfold oQ;refine .b (pT a) λy2 h2=>.n (λ_=>.s .zero) λc=>?_;have ok:=h2.1 c;refine .b (oR hl) λR M=>.n (λ_=>.s .zero) λ_e=>.j (λL=>.g (λ_=>.s .zero) λ_d=>?_) λ_=>.s .zero;have lv:=M.2 _e;dsimp only at L _d lv⊢;have nx:=ok.next;have m1:=vW a.2.2.2.1 l.1;have _b:=Jl (bJ a.2.2.2.1 l.1) n;have W:=bF (J1 I (bJ a.2.2.2.1 l.1) n) 1;have m2:=IG (Jm I (J1 I (bJ a.2.2.2.1 l.1) n) 1) l.2.2;generalize bJ a.2.2.2.1 l.1=e at*;generalize fF (Jm I (J1 I e n) 1) l.2.2=to at*;refine .l (λ_=>.s h) λc6=>.k (λU=>.g (λ_=>.s .zero) λQ=>?_) λ_=>.s .zero;have _a:=bF e l.1;have o4:=bF to l.1;have T:=Jl (Jm I to l.1) 1;have bl:=ok.len;have fl:=ok.few;have P:=Jl (J0 a.2.2.1) (J0 a.1);have fn:=Ja (l:=a.2.2.1);obtain⟨es,G,v,_⟩:=MW (l:=l.2.1) (j:=Jm I e l.1) (k:=J1 I (Jm I to l.1) 1) oo oo oo;have H:Ty.fit 16384 1073741824 (.l J3) es:=by rw[v];exact ml (lh hl.2.1)
 have le:J0 es<=4096:=by rw[v];have:=lv.2.2.1;unfold J0 at*;simp;omega
 refine .w G ?_;have o: ∀fs:List aB,fs=a.2.2.1->_n (J5 wW (e,to,es,0,a,l,[],[],0,0,0,[],a.1,a.2.1,a.2.2.2.1,a.2.2.2.2,fs)) λy=>hY K y.1:=(by intro fs F;subst F;refine dZ (l:=a.1) (λi (b:Int×List aB)=>(e,to,es,i,a,l,[],[],0,0,0,[],a.1,a.2.1,a.2.2.2.1,b.1,b.2)) (λpre b=>(∀f∈b.2,J0 f.2.2<=K)/\J0 b.2=J0 a.2.2.1+J0 pre) (λpre x t b g r=>?_) (λb r=>?_) a.1 [] (a.2.2.2.2,a.2.2.1) _ rfl rfl ⟨h.1,by dsimp only;rw[jU];omega⟩;obtain⟨D,_c⟩:=r;have lt:=cL g;have np:=Ja (l:=pre);unfold wW;dsimp only;rw[if_pos (Jp.2 lt),dB g (n:=16) bl.2];refine .b (m5 ok np lt) λA w=>.b (Cl (B:=16384) (S:=1073741824) (X:=(es,e,to,A.1,A.2,0)) ⟨H,J2.2 (show -9223372036854775808<=e/\e<=9223372036854775807 by omega),J2.2 (show -9223372036854775808<=to/\to<=9223372036854775807 by omega),w.1.u,w.2.u,kP I 0⟩) λE C=>.d (λ_=>.s .zero) λ_=>.b (JNH (x:=E.1) (Ty.fit.up _k _k C.1)) λz N=>.w (eT (by rw[cA];omega) _k) (.s ⟨(J1 I b.1 1,b.2++[(1,b.1,z.1)]),rfl,λf hf=>?_,?_⟩);rcases zQ9.1 hf with k|k;exact D f k;rw[fR.1 k];show J0 z.1<=K;omega;dsimp only;rw[cQ,cA,cQ,cA];omega;unfold wW;dsimp only;rw[if_neg (by rw[Jp];omega)];exact .s ⟨r.1,by show J0 b.2<=257;have:=r.2;omega,h.2.2⟩);refine dZ (l:=es) (λi (_:Unit)=>(e,to,es,i,a,l,[],[],0,0,0)) (λ_ _=>True) (λpre x t _ g _=>?_) (λ_ _=>?_) es [] () _ rfl rfl trivial;have q:=cW g;unfold KU;dsimp only;rw[if_pos (Jp.2 (cL g)),dB g (n:=4096) le];exact .w q (.p (λ_=>.w q (.e (λ_=>.w q (.h (λ_=>.s .zero) λ_=>.s ⟨(),rfl,_g⟩)) λ_=>.s ⟨(),rfl,_g⟩)) λ_=>.w q (.h (λ_=>.s .zero) λ_=>.s ⟨(),rfl,_g⟩));unfold KU;dsimp only;rw[if_neg (by rw[Jp];omega)];exact .endq (.w (jQ oo _k) (o _ rfl))
end
section
theorem Nw{K fan:Int}(j:167968836<=K)(g:K<=1073741824): ∀(n:Nat) (a:J4),hY K a->(1073741826-a.2.2.2.2).toNat<=n->_n (J5 ZF (fan,a,[],0,[],0,0)) λy=>hY K y.1
 |n,a,h,hn=>by
  have hf:DF a:=λf hf=>iZ (h.1 f hf) g;obtain⟨y,A,w⟩:=JVr hf (fan:=fan);obtain⟨o,B,v⟩:=w.af j h;have e:ZF (fan,a,[],0,[],0,0)=if aN y.2.2 0=O then Z (.inr (([],0,[],0,0),y.2.2))else if Jg y.2.1=O then Z (.inr (a,0))else Z (.inl (fan,y.1,[],0,[],0,0)):=by unfold ZF;dsimp only;rw[A];rfl
  by_cases c:aN y.2.2 0=O;rw[if_pos c]at e;exact⟨_,dN e,.zero⟩;rw[if_neg c]at e;have z:y.2.2=0:=Decidable.of_not_not λk=>c (eF.2 k);cases hb:y.2.1 with
  |false=>rw[hb,if_pos (show Jg J=O from rfl)]at e;exact⟨_,dN e,h⟩
  |true=>
   rw[hb,if_neg (show¬Jg O=O by decide)]at e;obtain⟨C,D⟩:=v z hb
   match n,hn with
   |0,hn=>omega
   |n+1,hn=>obtain⟨r,x,q⟩:=Nw j g n y.1 o oo;exact⟨r,by rw[eX e];exact x,q⟩
end
theorem JSA(f t lo hi lv:Int)(es:List aA): ∃b,lH (f,t,lo,hi,lv)=Z b/\ib (f,t,lo,hi,lv,es)=Z (b,es):=by
 unfold lH ib;dsimp only
 repeat' split
 all_goals exact⟨_,rfl,rfl⟩
theorem JVm(f t lo hi lv:Int)(x:aA)(es:List aA):RK (f,t,lo,hi,lv,x,es)=Z (inB f t lo hi x,es):=by
 have k:_n (RK (f,t,lo,hi,lv,x,es)) λy=>y=(inB f t lo hi x,es):=by
  unfold RK;have hc:_n (Ju x) λy=>(y=O↔x.2.1=1\/x.2.1=2):=.p (λc=>.s ⟨λd=>.inr (eM.1 d),λd=>eM.2 (d.resolve_left c)⟩) λc=>.s ⟨λ_=>.inl c,λ_=>rfl⟩
  have g: ¬((x.2.1=1\/x.2.1=2)/\(lo<=bI x/\bI x<=hi)/\f<=x.1/\x.1<=t)->(J,es)=(inB f t lo hi x,es):=λh=>by
   have:inB f t lo hi x=J:=by unfold inB;simp only[decide_eq_false_iff_not];exact h
   rw[this]
  refine .b hc λy h=>.i (λd=>.h (λn=>.G (λo=>.h (λr=>.s ?_) λc=>.s (g λh=>c h.2.2.1)) λc=>.s (g λh=>c h.2.1.2)) λc=>.s (g λh=>c h.2.1.1)) λc=>.s (g λq=>by rw[h.2 q.1]at c;cases c);show(aW x.1 t,es)=_;by_cases j:x.1<=t;rw[dK.2 j,Qu.2 ⟨h.1 d,⟨n,o⟩,r,j⟩];rw[<-g λh=>j h.2.2.2];have:aW x.1 t=J:=by unfold aW;simp[j]
  rw[this]
 obtain⟨y,e,d⟩:=k;rw[e,d]
def leL(a b:aA):Bool:=decide (a.1<=b.1)
theorem JSB:CF AG leL:=λx y=>by
 refine⟨gJ x.1 y.1,?_,?_⟩;unfold AG;dsimp only;rw[HL];rfl;unfold gJ leL aK;split;simp;omega;split;simp;omega;simp;omega
theorem JVn(a b c:aA)(h:leL a b=O)(k:leL b c=O):leL a c=O:=by unfold leL at*;simp at*;omega
theorem JVN(a b:aA):leL a b=O\/leL b a=O:=by unfold leL;simp;omega
theorem JOA{l:List aA}(h: ∀x∈l,lG x=Z O)(hl:J0 l<=16384):jk l=Z J:=by
 have g:_n (jh l) λy=>y= -1:=by
  unfold jh;refine Jn (τ:=Int) (λq=>(l,J0 l,q)) (λi=>0<=i/\i<=J0 l) (λi=>J0 l-i) ?_ 0 rfl ⟨bA _,Ja⟩;rintro i ⟨k,h1⟩;unfold Tp;dsimp only;refine .l (λc=>?_) λ_=>.s rfl;obtain⟨a,e,q⟩:=eA k c;refine .w e ?_;have j:ZL a=Z J:=by unfold ZL;rw[h a (zQ5 q)];rfl
  refine .w j (.i (λd=>by cases d) λ_=>.s ⟨J1 I i 1,rfl,?_,?_,?_⟩)
  all_goals have:=Jl i 1
  all_goals omega
 obtain⟨y,e,rfl⟩:=g;unfold jk;rw[e];rfl
theorem JST{l:List aA}(hl:J0 l<=16384)(hd: ∀(j:Nat) (a b:aA),l[j]?=Z a->l[j+1]?=Z b->a.1≠b.1):SD l=Z l:=by
 have k:_n (SD l) λy=>y=l:=by
  unfold SD;refine .l (λ_=>.s rfl) λz=>Jn (τ:=Int) (λq=>(q,l)) (λi=>1<=i/\i<=J0 l) (λi=>J0 l-i) ?_ 1 rfl ⟨bA _,by omega⟩;rintro i ⟨A,h1⟩;unfold Th;dsimp only;refine .l (λc=>?_) λ_=>.s rfl;have o:Jm I i 1=i-1:=by have:=bF i 1;omega
  rw[o];obtain⟨a,x,n⟩:=eA (l:=l) (i:=i) oo c;obtain⟨b,r,h⟩:=eA (l:=l) (i:=i-1) oo oo;have v:((l.length:Nat):Int)=J0 l:=rfl;refine .w (w:=()) (by unfold aR;rw[if_pos oo]) (.w n (.w (w:=()) (by unfold aR;rw[if_pos oo]) (.w h (.i (λd=>?_) λ_=>.s ⟨J1 I i 1,rfl,?_,?_,?_⟩))));have g:a=b:=eB.1 d;exact absurd (by rw[g]) (hd (i-1).toNat b a h (by rw[show(i-1).toNat+1=i.toNat by omega];exact n))
  all_goals have:=Jl i 1
  all_goals omega
 obtain⟨y,e,d⟩:=k;rw[e,d]
noncomputable def mkO(f t lo hi lv:Int)(es:List aA):Option (aD):=if J0 es>4096 then Z ((0,0,0,0,0,[]),21)else(fA (f,t,lo,hi,lv,es)).bind λv=>if v=O then Z ((f,t,lo,hi,lv,es),0)else Z ((0,0,0,0,0,[]),13)
theorem M5{l:List aA}(h:l.Pairwise λx y=>x.1≠y.1):(srt l).Pairwise ltE/\(∀x,x∈srt l↔x∈l)/\(srt l).length=l.length:=by
 have j: ∀{n:Nat} {l:List aA},l.length=n->(l.Pairwise λx y=>x.1≠y.1)->(srt l).Pairwise ltE/\(∀x,x∈srt l↔x∈l)/\(srt l).length=l.length:=by
  intro n
  induction n with
  |zero=>intro l h _;rw[_T.1 h];exact⟨.nil,by simp[srt],rfl⟩
  |succ n ih=>
   intro l h hi;obtain⟨m,e,rfl⟩: ∃m e,l=m++[e]:=⟨l.dropLast,l.getLast (by intro o;rw[o]at h;simp at h),(_P _).symm⟩;have r:m.length=n:=by simpa using h
   obtain⟨i1,i2,i3⟩:=_L.1 hi;obtain⟨s1,g,k⟩:=ih r i1;have hd: ∀x∈srt m,x.1≠e.1:=λx q=>i3 x ((g x).1 q) e (by simp);rw[Py];refine⟨JGX s1 hd,λx=>by rw[Ss hd,g];simp,?_⟩;rw[JNM hd,k];simp
 exact j rfl h
theorem JO6{x y:aA}(hx:Ja8 x=O)(hy:Ja8 y=O):J8J x<J8J y↔ltE x y:=by unfold Ja8 at hx hy;simp only[decide_eq_true_eq]at hx hy;unfold J8J ltE bI;omega
theorem Pa: ∀{l:_F},(l.Pairwise λx y=>x≠y)->DH l=O
 |[],_=>rfl
 |x::l,h=>by rw[_K]at h;simp only[DH,aX,GQ,List.contains_eq_mem,decide_eq_false_iff_not];exact⟨λe=>h.1 x e rfl,Pa h.2⟩
theorem JSb{s E:List aA}(hf: ∀x∈s,Ja8 x=O)(hl:J0 s<=16384)(hd:s.Pairwise λx y=>x.1≠y.1)(w:E.Pairwise ltE)(hm: ∀x,x∈E↔x∈s):SE s=Z E:=by
 have v:(s.map J8J).Pairwise λx y=>x≠y:=by rw[List.pairwise_map];refine hd.imp_of_mem fun{x y} q o h=>?_;have h1:=hf x q;have h2:=hf y o;unfold Ja8 at h1 h2;simp only[decide_eq_true_eq]at h1 h2;unfold J8J;omega
 have hs:oC J8J s=Z (s.mergeSort (kO J8J)):=by unfold oC;rw[if_pos ⟨by unfold J0 at hl;omega,Pa v⟩]
 have n:=List.mergeSort_perm s (kO J8J);have r:(s.mergeSort (kO J8J)).Pairwise ltE:=by have h1:=List.pairwise_mergeSort (le:=kO J8J) (λa b c h k=>by unfold kO at*;simp at*;omega) (λa b=>by unfold kO;simp;omega) s;have h2:(s.mergeSort (kO J8J)).Pairwise λx y=>x.1≠y.1:=n.symm.pairwise hd (λh k=>h k.symm);refine(h1.and h2).imp_of_mem fun{x y} q o h=>?_;have g:=hf x (n.mem_iff.1 q);have j:=hf y (n.mem_iff.1 o);rw[<-JO6 g j];have h1:=h.1;have h2:=h.2;unfold kO at h1;simp only[decide_eq_true_eq]at h1;unfold Ja8 at g j;simp only[decide_eq_true_eq]at g j;unfold J8J at h1⊢;omega
 have e:s.mergeSort (kO J8J)=E:=Ao r w λx=>by rw[n.mem_iff,hm]
 show(if s.all Ja8=O then oC J8J s else Y)=Z E;rw[if_pos (dp.2 hf),hs,e]
theorem JUD{s E:List aA}{f t lo hi lv:Int}(hl:J0 s<=16384)(hd: ∀(j:Nat) (a b:aA),s[j]?=Z a->s[j+1]?=Z b->a.1≠b.1)(o:J0 E=J0 s)
  (hs:SE s=Z E) (hv: ∃v,jZ (f,t,lo,hi,lv,E)=Z v/\fA (f,t,lo,hi,lv,E)=Z v):
  _n (J5 pe (1,[],0,0,0,0,0,s,[],f,t,lo,hi,lv)) λy=>mkO f t lo hi lv E=Z y:=by
 refine Jn (τ:=Int) (λq=>(q,[],0,0,0,0,0,s,[],f,t,lo,hi,lv)) (λi=>1<=i/\i<=J0 s+1) (λi=>J0 s-i) ?_ 1 rfl ⟨bA _,by have:=Ja (l:=s);omega⟩;rintro i ⟨D,h1⟩;unfold pe;dsimp only;have B:((s.length:Nat):Int)=J0 s:=rfl;have z:Jm I i 1=i-1:=by have:=bF i 1;omega
 refine .l (λc=>?_) λ_=>.map (P:=λy=>mkO f t lo hi lv E=Z y) (.g (λc=>.s ?_) λc=>.w hs ?_) λ_ h=>h
 ·rw[z];obtain⟨a,C,g⟩:=eA (l:=s) (i:=i) oo c;obtain⟨b,A,e⟩:=eA (l:=s) (i:=i-1) oo oo;refine .w (w:=()) (by unfold aR;rw[if_pos oo]) (.w e (.w (w:=()) (by unfold aR;rw[if_pos oo]) (.w g (.e (λd=>?_) λ_=>.s ⟨J1 I i 1,rfl,?_,?_,?_⟩))))
  exact absurd d (hd (i-1).toNat b a e (by rw[show(i-1).toNat+1=i.toNat by omega];exact g))
  all_goals have:=Jl i 1
  all_goals omega
 unfold mkO;rw[if_pos oo];have k:iO (_H E) (_H s)=O:=by
  have:E.length=s.length:=by unfold J0 at o;omega
  rw[this];exact Nat.beq_refl _
 obtain⟨v,r,x⟩:=hv;have n:mkO f t lo hi lv E=if v=O then Z ((f,t,lo,hi,lv,E),0)else Z ((0,0,0,0,0,[]),13):=by unfold mkO;rw[if_neg oo,x];rfl
 refine .i (λ_=>.w r (.n (λd=>.s ?_) λd=>.s ?_)) λd=>by rw[k]at d;cases d
 rw[n,d];rfl;rw[n,d];rfl
theorem Nh{l:List aA}(hd:l.Pairwise λx y=>x.1≠y.1)(f t lo hi:Int):(sel l f t lo hi).Pairwise ltE/\(∀x,x∈sel l f t lo hi↔x∈l/\inB f t lo hi x=O)/\(sel l f t lo hi).length=(l.filter (inB f t lo hi)).length:=by obtain⟨s1,g,e⟩:=M5 (hd.sublist (List.filter_sublist (p:=inB f t lo hi)));exact⟨s1,λx=>by unfold sel;rw[g,_V],e⟩
theorem JNV{l:List aA}{f t lo hi lv:Int}(hv: ∀x∈l,lG x=Z O)(hf: ∀x∈l,Ty.fit 16384 9223372036854775807 J3 x)(hl:J0 l<=8192)(hn:lH (f,t,lo,hi,lv)=Z O)
  (hd:l.Pairwise λx y=>x.1≠y.1) (hr:fT (f,t,lo,hi,lv,[])):_n (OT (l,f,t,lo,hi,lv)) λy=>mkO f t lo hi lv (sel l f t lo hi)=Z y:=by
 obtain⟨s1,E,L⟩:=Nh hd f t lo hi;have R:=_N (inB f t lo hi) l;unfold J0 at hl;have B: ∀x∈l,Ja8 x=O:=λx n=>by have h1:=(hf x n).1;have h1:IntKind.i64.min<=x.1/\x.1<=IntKind.i64.max:=h1;unfold Ja8;simp only[decide_eq_true_eq];have _e:IntKind.i64.min= -9223372036854775808:=rfl;have T:IntKind.i64.max=9223372036854775807:=rfl;omega
 unfold OT;obtain⟨b,b1,b2⟩:=JSA f t lo hi lv [];rw[hn]at b1;cases b1;refine .w b2 (.i (λ_=>.n (λc=>by cases c) λ_=>.w (JOA hv (show J0 l<=16384 by unfold J0;omega)) (.i (λc=>by cases c) λ_=>?_)) λc=>by cases c);refine Jn (τ:=Int×List aA) (λq=>(l,J0 l,q.1,[],0,0,0,0,0,q.2,[],f,t,lo,hi,lv)) (λq=>0<=q.1/\q.1<=J0 l/\q.2=(l.take q.1.toNat).filter (inB f t lo hi)) (λq=>J0 l-q.1) ?_ (0,[]) rfl ⟨bA _,Ja,rfl⟩;rintro⟨i,es⟩ ⟨H,h1,h2⟩;dsimp only at H h1 h2;unfold Dj;dsimp only;have o:=Jl i 1;have S:((l.length:Nat):Int)=J0 l:=rfl;have Q:es.length<=l.length:=by rw[h2];have:=_N (inB f t lo hi) (l.take i.toNat);rw[mN]at this;omega
 have g: ∀{m:List aA},iO (_H m) (_H m)=O:=fun{m}=>Nat.beq_refl _;refine .l (λc=>?_) λc=>.map (P:=λy=>mkO f t lo hi lv (sel l f t lo hi)=Z y) ?_ λ_ h=>h;obtain⟨x,e,q⟩:=eA H c;have D:l.take (J1 I i 1).toNat=l.take i.toNat++[x]:=by rw[show(J1 I i 1).toNat=i.toNat+1 by omega,_Y,q];rfl
 refine .w e (.w (JVm f t lo hi lv x es) (.i (λ_=>.i (λd=>?_) λd=>.s ⟨(J1 I i 1,es),rfl,⟨by first|omega|(dsimp only;omega),by first|omega|(dsimp only;omega),?_⟩,by first|omega|(dsimp only;omega),by first|omega|(dsimp only;omega)⟩) λd=>by rw[g]at d;cases d));have d:inB f t lo hi x=O:=d;refine .w (eT (bytes:=128) (l:=es) (m:=[x]) (by unfold J0;simp;omega) _k) (.s ⟨(J1 I i 1,es++[x]),rfl,⟨by first|omega|(dsimp only;omega),by first|omega|(dsimp only;omega),?_⟩,by first|omega|(dsimp only;omega),by first|omega|(dsimp only;omega)⟩);dsimp only;rw[D,_M,h2];simp[d];have d:inB f t lo hi x=J:=d;dsimp only;rw[D,_M,h2];simp[d];have r:es=l.filter (inB f t lo hi):=by rw[h2,show i.toNat=l.length by omega,List.take_length]
 have w:(ST leL es).Perm es:=NW (le:=leL) es;have C:=xm (c:=AG) (le:=leL) (X:=es) JVn JVN JSB oo;have A:(ST leL es).Pairwise λx y=>x.1≠y.1:=w.symm.pairwise (by rw[r];exact hd.sublist List.filter_sublist) (λh k=>h k.symm);have G: ∀x∈ST leL es,x∈l:=λx n=>by have:=w.mem_iff.1 n;rw[r]at this;exact(_V.1 this).1
 have hlen:(ST leL es).length=es.length:=w.length_eq;have z: ∀(j:Nat) (a b:aA),(ST leL es)[j]?=Z a->(ST leL es)[j+1]?=Z b->a.1≠b.1:=λj a b _c hb=>by obtain⟨_d,rfl⟩:=cY.1 _c;obtain⟨K,rfl⟩:=cY.1 hb;exact _O.1 A j (j+1) _d K oo
 have hs:SE (ST leL es)=Z (sel l f t lo hi):=JSb (λx n=>B x (G x n)) (by unfold J0;omega) A s1 λx=>by rw[E,w.mem_iff,r,_V]
 have _e:yk es=Z (ST leL es):=C;refine .w _e (.i (λ_=>.w (JST (by unfold J0;omega) z) (.i (λ_=>?_) λd=>by rw[g]at d;cases d)) λd=>by rw[show iO (_H (ST leL es)) (_H es)=O by rw[hlen];exact g]at d;cases d);have F:fT (f,t,lo,hi,lv,sel l f t lo hi):=⟨hr.1,hr.2.1,hr.2.2.1,hr.2.2.2.1,hr.2.2.2.2.1,by refine⟨?_,λx n=>hf x ((E x).1 n).1⟩;show J0 (sel l f t lo hi)<=16384;unfold J0;omega⟩;obtain⟨v,M,N,_⟩:=vv F;exact(JUD (by unfold J0;omega) z (by unfold J0;rw[L,hlen,r]) hs ⟨v,M,N⟩).mono λy h=>h
theorem JPN{l:List aA}{f t lo hi lv:Int}{y:aD}(hv: ∀x∈l,JJ x=Z O)(hl:J0 l<=8192)(hn:lH (f,t,lo,hi,lv)=Z O)
  (hd:l.Pairwise λx y=>x.1≠y.1) (e:zQ (l,f,t,lo,hi,lv)=Z y):mkO f t lo hi lv (sel l f t lo hi)=Z y:=by
 have a1:_t (zQ (l,f,t,lo,hi,lv)) λy=>mkO f t lo hi lv (sel l f t lo hi)=Z y:=by
  unfold zQ;refine .b λv B=>.n (λc=>?_) λ_=>.z (λz=>z.1=l/\z.2.1=f/\z.2.2.1=t/\z.2.2.2.1=lo/\z.2.2.2.2.1=hi/\z.2.2.2.2.2.1=lv) ⟨rfl,rfl,rfl,rfl,rfl,rfl⟩ ?_;rw[hn]at B;cases B;cases c;rintro⟨S,T,t',lo',hi',_e,i,r0⟩ ⟨h1,h2,E,G,F,D⟩;dsimp only at h1 h2 E G F D;subst h1 h2 E G F D;unfold Ey;dsimp only;refine .l (λ_=>.b λx C=>.b λv B=>.n (λc=>?_) λ_=>.s ⟨rfl,rfl,rfl,rfl,rfl,rfl⟩) λ_=>.map ?_;obtain⟨_,q⟩:=dG C;rw[hv _ (zQ5 q)]at B;cases B;cases c;refine .z (λz=>z.1=S/\z.2.1=T/\z.2.2.1=t'/\z.2.2.2.1=lo'/\z.2.2.2.2.1=hi'/\z.2.2.2.2.2.1=J/\ ∃i:Nat,z.2.2.2.2.2.2.1=(i:Int)/\i<=S.length/\z.2.2.2.2.2.2.2.2=(T,t',lo',hi',_e,srt ((S.take i).filter (inB T t' lo' hi')))) ⟨rfl,rfl,rfl,rfl,rfl,rfl,0,rfl,zQ2 _,rfl⟩ ?_;rintro⟨r,w,A,n,g,tw,i',r1,r2⟩ ⟨h1,h2,E,G,F,D,i,L,h8,H⟩;dsimp only at h1 h2 E G F D L h8 H;subst h1 h2 E G F D L H;unfold pq;dsimp only;have o:=Jl (i:Int) 1;have nx: ∀{x:aA},idx r (i:Int)=Z x->r.take (i+1)=r.take i++[x]/\i+1<=r.length/\r[i]?=Z x:=fun{x} C=>by obtain⟨_,q⟩:=dG C;rw[_U]at q;exact⟨by rw[_Y,q];rfl,(cY.1 q).1,q⟩
  have skip: ∀{x:aA},idx r (i:Int)=Z x->inB w A n g x=J-> ∃j:Nat,J1 I (i:Int) 1=(j:Int)/\j<=r.length/\((w,A,n,g,_e,srt ((r.take i).filter (inB w A n g))):Jc)=(w,A,n,g,_e,srt ((r.take j).filter (inB w A n g))):=fun{x} C hb=>by
   obtain⟨V,U,_⟩:=nx C;refine⟨i+1,?_,U,?_⟩;unfold J0 at hl;omega;rw[V,_M];simp[hb]
  have K: ∀{x:aA},¬((x.2.1=1\/x.2.1=2)/\(n<=bI x/\bI x<=g)/\w<=x.1/\x.1<=A)->inB w A n g x=J:=fun{x} C=>by simp only[inB,decide_eq_false_iff_not];exact C
  have Q: ∀{x:aA} {b:Bool},Ju x=Z b->(b=O↔x.2.1=1\/x.2.1=2):=fun{x b} h=>by
   have k:_t (Ju x) λb=>(b=O↔x.2.1=1\/x.2.1=2):=.p (λc=>.s ⟨λd=>.inr (eM.1 d),λd=>eM.2 (d.resolve_left c)⟩) λc=>.s ⟨λ_=>.inl c,λ_=>rfl⟩
   exact k _ h
  refine .l (λW=>.b λx C=>.b λb hb=>.r (λN=>.j (λc1=>.k (λ_d=>.j (λc3=>.g (λc4=>.s ⟨rfl,rfl,rfl,rfl,rfl,rfl,skip C (K λq=>by omega)⟩) λc4=>?_) λc3=>.s ⟨rfl,rfl,rfl,rfl,rfl,rfl,skip C (K λq=>by omega)⟩) λ_d=>.s ⟨rfl,rfl,rfl,rfl,rfl,rfl,skip C (K λq=>by unfold bI at q;omega)⟩) λc1=>.s ⟨rfl,rfl,rfl,rfl,rfl,rfl,skip C (K λq=>by unfold bI at q;omega)⟩) λN=>.s ⟨rfl,rfl,rfl,rfl,rfl,rfl,skip C (K λq=>by rw[(Q hb).2 q.1]at N;cases N)⟩) λW=>.map (.i (λc=>by cases c) λ_=>?_);obtain⟨V,U,q3⟩:=nx C;have a2:inB w A n g x=O:=Qu.2 ⟨(Q hb).1 N,by unfold bI;omega,by omega,by omega⟩;obtain⟨s1,s2,s3⟩:=M5 ((hd.sublist (List.take_sublist i r)).sublist (List.filter_sublist (p:=inB w A n g)));have _b: ∀z∈srt ((r.take i).filter (inB w A n g)),z.1≠x.1:=λz M=>by
   have M:=(_V.1 ((s2 z).1 M)).1;obtain⟨j,_c⟩:=sT.1 M;rw[PJ]at _c;split at _c;rename_i a0;obtain⟨la,rfl⟩:=cY.1 _c;obtain⟨lb,rfl⟩:=cY.1 q3;exact _O.1 hd j i la lb a0;cases _c
  have hlen:J0 (srt ((r.take i).filter (inB w A n g)))<=8192:=by have:=_N (inB w A n g) (r.take i);rw[mN]at this;unfold J0 at*;omega
  refine .z (λz=>z.1=r/\z.2.1=w/\z.2.2.1=A/\z.2.2.2.1=n/\z.2.2.2.2.1=g/\z.2.2.2.2.2.1=J/\z.2.2.2.2.2.2.1=(i:Int)/\z.2.2.2.2.2.2.2.2.2=((w,A,n,g,_e,srt ((r.take i).filter (inB w A n g))),x)) ⟨rfl,rfl,rfl,rfl,rfl,rfl,rfl,rfl⟩ ?_;rintro⟨l3,f3,t3,P,R,tw,i3,k,r3,r4,x3⟩ ⟨h1,h2,E,G,F,D,L,H⟩;dsimp only at h1 h2 E G F D L H;injection H with H h10;subst h1 h2 E G F D L H h10;unfold qs;dsimp only;refine .l (λ_=>.t (λ_=>.b λz M=>.e (λc=>absurd c (_b z (zQ5 (dG M).2))) λ_=>.s ⟨rfl,rfl,rfl,rfl,rfl,rfl,rfl,rfl⟩) λc=>by cases c) λ_=>.map (.b λag _a=>.s ⟨rfl,rfl,rfl,rfl,rfl,rfl,i+1,?_,U,?_⟩);unfold J0 at hl;dsimp only;omega;obtain⟨y',e',d'⟩:=N9 (l:=srt ((l3.take i).filter (inB f3 t3 P R))) (e:=x3) oo;rw[_a]at e';cases e';dsimp only;rw[d',V,_M];rw[show List.filter (inB f3 t3 P R) [x3]=[x3] by simp[a2],Py];have hi':i=r.length:=by unfold J0 at W;omega
  have hs:srt ((r.take i).filter (inB w A n g))=sel r w A n g:=by rw[hi',List.take_length];rfl
  dsimp only;rw[hs];unfold mkO;refine .g (λc=>.s (by rw[if_pos oo])) λc=>.b λv hv=>.n (λ_d=>.s ?_) λ_d=>.s ?_;rw[if_neg oo,hv,_d];rfl;rw[if_neg oo,hv,_d];rfl
 exact a1 _ e
theorem JQl{l:_F}{y:J9}(e:wG (l,400)=Z y):y.2=0/\J0 y.1<=400:=by
 have g:_t (wG (l,400)) λy=>y.2=0/\J0 y.1<=400:=by unfold wG;dsimp only;refine .g (λc=>.b λa h=>.s ⟨rfl,?_⟩) λc=>.s ⟨rfl,by simp_all⟩;obtain⟨r,j,_,h2⟩:=uV (l:=l) (k:=400) _k oo;simp_all
 exact g _ e
theorem JLL{x0:_F}{y:J9}(w0:Ty.inR (.l (.i .u8)) x0)(h:wG (x0,400)=Z y):Ty.fit 16384 1073741824 J6 y/\0<=y.2:=by
 have j:Ty.fit (J0 x0) 0 (.l (.i .u8)) x0:=⟨bA _,λa e=>by
  grind [SP,Ty.inR,IntKind.min,IntKind.max,IntKind.signed,IntKind.bits]⟩
 have k:0<=J0 x0:=Ja;have g:=(Be (B:=J0 x0) (S:=0) (X:=(x0,400)) ⟨j,kP I 400⟩ (show(0:Int)<=400 by decide)).get h;obtain⟨n,o⟩:=JQl h;exact⟨⟨⟨by grind,λa e=>g.1.1.2 a e⟩,g.1.2⟩,by omega⟩
theorem JMb{x0:_F}(w0:Ty.inR (.l (.i .u8)) x0):_n (wG (x0,400)) λy=>Ty.fit 16384 1073741824 J6 y/\0<=y.2:=by
 have g:Ty.fit (J0 x0) 0 (.l (.i .u8)) x0:=⟨bA _,λa j=>by
  grind [SP,Ty.inR,IntKind.min,IntKind.max,IntKind.signed,IntKind.bits]⟩
 have h:0<=J0 x0:=Ja;obtain⟨y,e,_⟩:=Be (B:=J0 x0) (S:=0) (X:=(x0,400)) ⟨g,kP I 400⟩ (show(0:Int)<=400 by decide);exact⟨y,e,JLL w0 e⟩
theorem nf{n:Int}(h0:0<=n)(h1:n<=9223372036854775807){B S:Int}:Ty.fit B S (.i I) n:=J2.2 ⟨by omega,h1⟩
theorem nx{c:J9}{n:Int}(hn: -9223372036854775808<=n/\n<=9223372036854775807)(h:Ty.fit 16384 1073741824 J6 c)(h0:0<=c.2):_n (J7 (n,c)) λy=>(0<=y.1/\y.1<=9223372036854775807/\(1<=n->y.1<n))/\Ty.fit 16384 1073741824 J6 y.2/\0<=y.2.2:=
 (Jk (B:=16384) (S:=1073741824) (X:=(n,c)) ⟨J2.2 hn,h⟩ h0).mono λy h=>⟨⟨h.2.1,(J2.1 h.1.1).2,h.2.2.1⟩,h.1.2,h.2.2.2⟩
theorem nxI{c:J9}(h:Ty.fit 16384 1073741824 J6 c)(h0:0<=c.2):_n (JI c) λy=>Ty.fit 16384 9223372036854775807 (.i I) y.1/\Ty.fit 16384 1073741824 J6 y.2/\0<=y.2.2:=
 (JU (B:=16384) (S:=1073741824) (X:=c) h h0).mono λy h=>⟨h.1.1,h.1.2,h.2⟩
section
abbrev fU(c:J9):Prop:=Ty.fit 16384 1073741824 J6 c/\0<=c.2
theorem JQk{n:Int}{c:J9}(hn:n<=9223372036854775807)(hc:fU c):_n (XY (n,c)) λy=>J0 y.1<=16/\fU y.2:=by unfold XY;refine Jn (τ:=Int×J9×_F) (λq=>(n,q.1,q.2.1,q.2.2)) (λq=>1<=q.1/\fU q.2.1/\J0 q.2.2<=16) (λq=>n-q.1) ?_ (1,c,[0]) rfl ⟨by show(1:Int)<=1;decide,hc,by show J0 ([0]:_F)<=16;decide⟩;rintro⟨i,c,l⟩ ⟨h1,h2,e⟩;dsimp only at h1 h2 e;unfold Fv;dsimp only;have o:=Jl i 1;refine .l (λk=>.b (nx (n:=3) _k h2.1 h2.2) λy g=>.e (λ_=>.l (λh=>.w (eT (by rw[cA];omega) _k) (.s ⟨(J1 I i 1,y.2,l++[i]),rfl,⟨by dsimp only;omega,g.2,?_⟩,by dsimp only;omega,by omega⟩)) λ_=>.s ⟨(J1 I i 1,y.2,l),rfl,⟨by dsimp only;omega,g.2,e⟩,by dsimp only;omega,by omega⟩) λ_=>.s ⟨(J1 I i 1,y.2,l),rfl,⟨by dsimp only;omega,g.2,e⟩,by dsimp only;omega,by omega⟩) λ_=>.s ⟨e,h2⟩;show J0 (l++[i])<=16;rw[cQ,cA];omega
theorem JR2{K n:Int}{l:_F}(hl:J0 l<=16):_n (DN (n,l)) λy=>hY K y.1:=by
 have bt: ∃b,wR (n,l)=Z b:=by
  obtain⟨y,e,_⟩:=pT (l,n,[],1,1);unfold jY at e;dsimp only at e;cases hb:wR (n,l)with
  |none=>rw[hb]at e;cases e
  |some b=>exact⟨b,rfl⟩
 obtain⟨b,e⟩:=bt;unfold DN;refine .w e (.n (λ_=>.s .zero) λ_=>.w (jQ (by dsimp only;omega) _k) (.s ⟨nofun,by show J0 ([]:List aB)<=257;decide,hl⟩))
theorem JNx{n:Int}{l:Jy}{c:J9}(hn:n<=9223372036854775807)(hl:Ty.fit 16384 1073741824 JG l)(hc:fU c):_n (ZM (n,l,c)) λy=>hY 167968836 y.1/\fU y.2:=by
 have D:(167968836:Int)<=167968836:=bA _;have td: ∀{a:J4} {fan:Int},hY 167968836 a->_n (XA (a,fan)) λy=>hY 167968836 y.1:=λh=>by exact Nw D _k _ _ h (zQ0 _)
 unfold ZM;refine .b (JQk hn hc) λW h2=>.b (JR2 (K:=167968836) h2.1) λ_d Q=>.b (nx (n:=8) _k h2.2.1 h2.2.2) λG H=>Jn (τ:=L4) (λq=>(q.1,q.2.1,l,([],0,[],0,0),q.2.2)) (λq=>q.1<=9223372036854775807/\fU q.2.1/\hY 167968836 q.2.2) (λq=>q.1) ?_ (G.1,G.2,_d.1) rfl ⟨H.1.2.1,H.2,Q⟩;rintro⟨i,c,a⟩ ⟨_c,w,g⟩;dsimp only at _c w g;unfold Gj;dsimp only;have o:=bF i 1;have e: ∀{c':J9} {z:J4},0<i->fU c'->hY 167968836 z-> ∃q:L4,(Jm I i 1,c',l,(([],0,[],0,0):J4),z)=(q.1,q.2.1,l,([],0,[],0,0),q.2.2)/\(q.1<=9223372036854775807/\fU q.2.1/\hY 167968836 q.2.2)/\q.1<i/\0<=i:=fun{c' z} h _e N=>
  ⟨(Jm I i 1,c',z),rfl,⟨by dsimp only;omega,_e,N⟩,by dsimp only;omega,by omega⟩
 refine .g (λk=>.b (nx (n:=12) _k w.1 w.2) λV A=>.b (R9 D g hl (J2.1 (Jo (B:=0) (S:=0)))) λU C=>.e (λ_=>.b (nx (n:=4) _k A.2.1 A.2.2) λL j=>.e (λ_=>.b (nx (n:=3) _k j.2.1 j.2.2) λM v=>.b (td C) λE x=>.e (λ_=>.s (e k v.2 x)) λ_=>.s (e k v.2 C)) λ_=>.s (e k j.2 C)) λ_=>.b (nx (n:=4) _k A.2.1 A.2.2) λL j=>.e (λ_=>.b (nx (n:=3) _k j.2.1 j.2.2) λM v=>.b (td g) λE x=>.e (λ_=>.s (e k v.2 x)) λ_=>.s (e k v.2 g)) λ_=>.s (e k j.2 g)) λ_=>.map (P:=λy=>hY 167968836 y.1/\fU y.2) (.b (nx (n:=2) _k w.1 w.2) λT r=>.e (λ_=>.b (R9 D g hl _k) λR F=>.e (λ_=>.s ⟨F,r.2⟩) λ_=>.s ⟨g,r.2⟩) λ_=>.s ⟨g,r.2⟩) λ_ h=>h
theorem JOE{fs:List aB}{c:J9}(hf: ∀f∈fs,J0 f.2.2<=167968836)(hl:J0 fs<=257)(hc:fU c):_n (qP (fs,c)) λy=>((∀f∈y.1,J0 f.2.2<=335937673)/\J0 y.1<=257)/\fU y.2:=by
 have nn:=Ja (l:=fs);unfold qP;refine .e (λ_=>.s ⟨⟨nofun,by show J0 ([]:List aB)<=257;decide⟩,hc⟩) λA=>?_;have A: ¬J0 fs=0:=A;refine .b (nx (n:=J0 fs) ⟨by omega,by omega⟩ hc.1 hc.2) λe h2=>.b (nx (n:=2) _k h2.2.1 h2.2.2) λD j=>?_;have v:=h2.1.2.2 oo;have w:=h2.1.1;have o:=Jl e.1 1;dsimp only;refine .e (λ_=>?_) λ_=>?_;obtain⟨p,H,E,K⟩:=uV (l:=fs) (k:=e.1) w oo;obtain⟨q,F,C,L⟩:=CJ (l:=fs) (k:=J1 I e.1 1) oo oo;refine .w H (.w (jQ oo _k) (.w F (.w (eT oo _k) (.s ⟨⟨λf r=>?_,?_⟩,j.2⟩))));have:f∈fs:=(by rcases zQ9.1 r with m|m;rw[E]at m;exact FP m;rw[C]at m;exact zQ7 m);have:=hf f this;omega;show J0 (p++q)<=257;rw[cQ];omega;obtain⟨x,_d,h⟩:=eA w v;have G:=hf x (zQ5 h);have en:e.1=((e.1.toNat:Nat):Int):=by omega
 have z:aR (_H fs) e.1=Z ():=by unfold aR;rw[if_pos (by unfold J0 at v;omega)]
 have el:aV fs (_G e.1)=Z x:=h;have hs:Ty.fit 16384 167968836 QJ (x.2.2,D.2):=⟨G,j.2.1⟩;refine .w (jQ oo _k) (.w z (.w el (.b (H5 (B:=16384) (S:=167968836) hs j.2.2) λ_e g=>.w z (.w el (.s ⟨⟨λf r=>?_,?_⟩,⟨g.1.2.1,g.1.2.2⟩,g.2⟩)))));rcases cw r with m|rfl;have:=hf f m;omega;exact g.1.1;show J0 (aY fs _ _)<=257;rw[qI];exact hl
end
end Go.Am
end
